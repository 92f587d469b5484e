import Derived.Test.YtmankbhlgjgnbaaESt
import Derived.WalkSpells
namespace Go.Proofs.Ytmankbhlgjgnbaa.PAll
open Go.RowKit Go.Proofs.YtmankbhlgjgnbaaW.PrintWords Go.Proofs.YtmankbhlgjgnbaaW.PrintLast Go.Proofs.YtmankbhlgjgnbaaW.PrintMore Mem
set_option linter.unusedVariables false
set_option linter.unusedSimpArgs false
theorem info9_ : (Try.prog.info? 9).map (fun i => (i.zero, i.size, i.bytes)) = some (some (.string ⟨#[]⟩), 1, 16) := by kernel_rfl
theorem info5_ : (Try.prog.info? 5).map (fun i => (i.zero, i.size, i.bytes)) = some (some (.int .u8 0), 1, 1) := by kernel_rfl

/-- slices.Clone[[]string,string]: the same in new memory. -/
theorem clone_strs.calls (A0 : Option Addr) (c0 : Nat) (l0 : List ByteArray) (w : World) (hr0 : Kd.C Kd.string w A0 l0.length l0) (hc0 : l0.length ≤ c0) (hl : l0.length * 16 ≤ 140737488355328) :
    Calls Try.prog 32 #[.slice A0 l0.length c0] w fun e w' => ∃ (A : Option Addr) (c : Nat), e = .returned (.slice A l0.length c) ∧ Kd.R Kd.string 9 w' w.heap.size (fun _ => True) (.slice A l0.length c) l0 ∧ Below w.heap.size w w' := by
  have HR := Aside0.mk hr0
  clear hr0
  have k1 := fun (W : World) => Lib.run_eql_slice_nil (P := Try.prog) W 29 9 A0 l0.length c0 0 0 Try.underlying29
  have fin : ∀ (v : Value) (W : World), Kd.R Kd.string 9 W w.heap.size (fun _ => True) v l0 → ∃ (A : Option Addr) (c : Nat), v = .slice A l0.length c := fun v W h => by
    obtain ⟨A, c, e⟩ := Kd.R_slice h
    exact ⟨A, c, e⟩
  rcases A0 with _ | ad
  · have hz : l0 = [] := by
      rcases Nat.eq_zero_or_pos l0.length with h | h
      · exact List.eq_nil_of_length_eq_zero h
      · obtain ⟨_, e, _⟩ := HR.out.2.2 h
        cases e
    have HL := Aside0.mk hz
    clear hz hl
    go_enter Try.func32, Try.ntmps32
    go_wp2
    go_ret
    exact ⟨none, 0, by rw [HL.out]; rfl, by rw [HL.out]; exact Kd.R_nil _ _ _ _ _, Below.refl _ _⟩
  · go_enter Try.func32, Try.ntmps32
    have HO : Kd.R Kd.string 9 (w.alloc (.cells #[] 9)) w.heap.size (fun _ => True) (.slice (some ⟨w.heap.size, 0, none⟩) 0 0) [] :=
      ⟨fun _ _ => trivial, [], World.ownsRow_lit (e := 9) (size := 1) w #[] 0 (Nat.le_refl _) (by simp [maxLen]) rfl, Reps.none _ _⟩
    have HO' := Aside0.mk HO
    clear HO
    go_wp2_with (at_builtin; refine Kd.R_append_rows Kd.string (w0 := w) (W := w.alloc (.cells #[] 9)) (Rr := fun x cs => Kd.K Kd.string (w.alloc (.cells #[] 9)) x cs) w.heap.size rfl _ _ 29 9 _ 16 rfl Try.underlying29 info9_ rfl (by decide) (by decide) _ [] l0 (some ad) l0.length c0 (fun _ => True) (fun _ => False) rfl rfl HO'.out (Kd.C_below HR.out (below_alloc (Below.refl _ _) _)) (fun _ _ h => h) (fun _ h => h.elim) (fun _ _ => trivial) (below_alloc (Below.refl _ _) _) (by simp) (by simpa using hl) ?_; intro v1 w1 hv hb _ _; have HV := Aside0.mk hv; have HB := Aside0.mk hb; clear hv hb)
    go_ret
    obtain ⟨A, c, e⟩ := fin _ _ HV.out
    subst e
    exact ⟨A, c, rfl, HV.out, HB.out⟩

/-- slices.Clone[[]byte,byte]: the same in new memory. -/
theorem clone_bytes.calls (A0 : Option Addr) (c0 : Nat) (l0 : List Int) (w : World) (hr0 : Kd.C (Kd.int .u8) w A0 l0.length l0) (hc0 : l0.length ≤ c0) (hl : l0.length * 1 ≤ 140737488355328) :
    Calls Try.prog 28 #[.slice A0 l0.length c0] w fun e w' => ∃ (A : Option Addr) (c : Nat), e = .returned (.slice A l0.length c) ∧ Kd.R (Kd.int .u8) 5 w' w.heap.size (fun _ => True) (.slice A l0.length c) l0 ∧ Below w.heap.size w w' := by
  have HR := Aside0.mk hr0
  clear hr0
  have k1 := fun (W : World) => Lib.run_eql_slice_nil (P := Try.prog) W 26 5 A0 l0.length c0 0 0 Try.underlying26
  have fin : ∀ (v : Value) (W : World), Kd.R (Kd.int .u8) 5 W w.heap.size (fun _ => True) v l0 → ∃ (A : Option Addr) (c : Nat), v = .slice A l0.length c := fun v W h => by
    obtain ⟨A, c, e⟩ := Kd.R_slice h
    exact ⟨A, c, e⟩
  rcases A0 with _ | ad
  · have hz : l0 = [] := by
      rcases Nat.eq_zero_or_pos l0.length with h | h
      · exact List.eq_nil_of_length_eq_zero h
      · obtain ⟨_, e, _⟩ := HR.out.2.2 h
        cases e
    have HL := Aside0.mk hz
    clear hz hl
    go_enter Try.func28, Try.ntmps28
    go_wp2
    go_ret
    exact ⟨none, 0, by rw [HL.out]; rfl, by rw [HL.out]; exact Kd.R_nil _ _ _ _ _, Below.refl _ _⟩
  · go_enter Try.func28, Try.ntmps28
    have HO : Kd.R (Kd.int .u8) 5 (w.alloc (.cells #[] 5)) w.heap.size (fun _ => True) (.slice (some ⟨w.heap.size, 0, none⟩) 0 0) [] :=
      ⟨fun _ _ => trivial, [], World.ownsRow_lit (e := 5) (size := 1) w #[] 0 (Nat.le_refl _) (by simp [maxLen]) rfl, Reps.none _ _⟩
    have HO' := Aside0.mk HO
    clear HO
    go_wp2_with (at_builtin; refine Kd.R_append_rows (Kd.int .u8) (w0 := w) (W := w.alloc (.cells #[] 5)) (Rr := fun x cs => Kd.K (Kd.int .u8) (w.alloc (.cells #[] 5)) x cs) w.heap.size rfl _ _ 26 5 _ 1 rfl Try.underlying26 info5_ rfl (by decide) (by decide) _ [] l0 (some ad) l0.length c0 (fun _ => True) (fun _ => False) rfl rfl HO'.out (Kd.C_below HR.out (below_alloc (Below.refl _ _) _)) (fun _ _ h => h) (fun _ h => h.elim) (fun _ _ => trivial) (below_alloc (Below.refl _ _) _) (by simp) (by simpa using hl) ?_; intro v1 w1 hv hb _ _; have HV := Aside0.mk hv; have HB := Aside0.mk hb; clear hv hb)
    go_ret
    obtain ⟨A, c, e⟩ := fin _ _ HV.out
    subst e
    exact ⟨A, c, rfl, HV.out, HB.out⟩
end Go.Proofs.Ytmankbhlgjgnbaa.PAll
