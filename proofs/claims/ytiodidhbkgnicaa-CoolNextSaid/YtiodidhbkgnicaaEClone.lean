import Derived.Test.YtiodidhbkgnicaaPAllx0
import Derived.WalkSpells
namespace Go.Proofs.Ytiodidhbkgnicaa.PAll
open Go.RowKit Go.Proofs.YtiodidhbkgnicaaW.PrintWords Go.Proofs.YtiodidhbkgnicaaW.PrintLast Go.Proofs.YtiodidhbkgnicaaW.PrintMore
set_option linter.unusedVariables false
set_option linter.unusedSimpArgs false

theorem k25_flat {w w1 : World} {base : Nat} {ok : Nat → Prop} {x : S25} {cs : List Value} (h : k25.K w x cs) : k25.M w1 base ok x cs := by
  obtain rfl := k25_open h
  exact k25_mkM _ _ _ _

/-- slices.Clone at coolings: the same in new memory. -/
theorem clone_cool.calls0 (A0 : Option Addr) (c0 : Nat) (l0 : List S25) (w : World) (hr0 : Kd.C k25 w A0 l0.length l0) (hc0 : l0.length ≤ c0) (hl : l0.length * 56 ≤ 140737488355328) :
    Calls Try.prog 29 #[.slice A0 l0.length c0] w fun e w' => ∃ v0_ : Value, e = .returned v0_ ∧ Kd.R k25 25 w' w.heap.size (fun _ => True) v0_ l0 ∧ Below w.heap.size w w' := by
  have HR := Aside0.mk hr0
  clear hr0
  have k1 := fun (W : World) => Lib.run_eql_slice_nil (P := Try.prog) W 29 25 A0 l0.length c0 0 0 Try.underlying29
  rcases A0 with _ | ad
  · have hz : l0 = [] := by
      rcases Nat.eq_zero_or_pos l0.length with h | h
      · exact List.eq_nil_of_length_eq_zero h
      · obtain ⟨_, e, _⟩ := HR.out.2.2 h
        cases e
    have HL := Aside0.mk hz
    clear hz hl
    go_enter Try.func29, Try.ntmps29
    go_wp2
    go_ret
    exact ⟨_, rfl, by rw [HL.out]; exact Kd.R_nil _ _ _ _ _, Below.refl _ _⟩
  · go_enter Try.func29, Try.ntmps29
    have HO : Kd.R k25 25 (w.alloc (.cells #[] 25)) w.heap.size (fun _ => True) (.slice (some ⟨w.heap.size, 0, none⟩) 0 0) [] :=
      ⟨fun _ _ => trivial, [], World.ownsRow_lit (e := 25) (size := 4) w #[] 0 (Nat.le_refl _) (by simp [maxLen]) rfl, Reps.none _ _⟩
    have HO' := Aside0.mk HO
    clear HO
    go_wp2_with (at_builtin; refine Kd.R_append_rows k25 (w0 := w) (W := w.alloc (.cells #[] 25)) (Rr := fun x cs => k25.K (w.alloc (.cells #[] 25)) x cs) w.heap.size rfl _ _ 29 25 _ 56 rfl Try.underlying29 info25 rfl (by decide) (by decide) _ [] l0 (some ad) l0.length c0 (fun _ => True) (fun _ => False) rfl rfl HO'.out (Kd.C_below HR.out (below_alloc (Below.refl _ _) _)) (fun _ _ h => k25_flat h) (fun _ h => h.elim) (fun _ _ => trivial) (below_alloc (Below.refl _ _) _) (by simp) (by simpa using hl) ?_; intro v1 w1 hv hb _ _; have HV := Aside0.mk hv; have HB := Aside0.mk hb; clear hv hb)
    go_ret
    exact ⟨_, rfl, HV.out, HB.out⟩
def clone_cool.f (l0 : List S25) : Option (List S25) := if l0.length * 56 ≤ 140737488355328 then some l0 else none
theorem clone_cool.calls (A0 : Option Addr) (c0 : Nat) (l0 : List S25) (r : List S25) (w : World) (hr0 : Kd.C k25 w A0 l0.length l0) (hc0 : l0.length ≤ c0) (h : clone_cool.f l0 = some r) :
    Calls Try.prog 29 #[.slice A0 l0.length c0] w fun e w' => ∃ v0_ : Value, e = .returned (v0_) ∧ Kd.R k25 25 w' w.heap.size (fun _ => True) v0_ r ∧ Below w.heap.size w w' := by
  unfold clone_cool.f at h
  by_cases hl : l0.length * 56 ≤ 140737488355328
  · rw [if_pos hl] at h
    obtain rfl := Option.some.inj h
    exact clone_cool.calls0 A0 c0 l0 w hr0 hc0 hl
  · rw [if_neg hl] at h
    cases h
end Go.Proofs.Ytiodidhbkgnicaa.PAll
