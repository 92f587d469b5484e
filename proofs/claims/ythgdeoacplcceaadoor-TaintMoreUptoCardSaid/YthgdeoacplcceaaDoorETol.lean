import Derived.Test.YthgdeoacplcceaaDoorEFn
import Derived.Test.YthgdeoacplcceaaDoorEMem
namespace Go.Proofs.YthgdeoacplcceaaDoor.PAll
open Go.RowKit Go.Proofs.YthgdeoacplcceaaDoorW.PrintWords Go.Proofs.YthgdeoacplcceaaDoorW.PrintLast Go.Proofs.YthgdeoacplcceaaDoorW.PrintMore Mem
set_option linter.unusedVariables false
set_option linter.unusedSimpArgs false

/-- Does it tolerate the taint? -/
def tolM (t : S28) (x : S26) : Bool := (t.f0.toList == x.f0.toList) && (t.f2 || (t.f1.toList == x.f1.toList))
theorem tol_one (t : S28) (x : S26) (g : Nat) (w : World) (h0 : w.cell? ⟨g, 0, none⟩ = some (.string x.f0)) (h1 : w.cell? ⟨g, 1, none⟩ = some (.string x.f1)) :
    Calls Tryd.prog 30 #[.agg #[.string t.f0, .string t.f1, .bool t.f2], .pointer (some ⟨g, 0, none⟩)] w fun e w' => e = .returned (.bool (tolM t x)) ∧ Below w.heap.size w w' := by
  have hu28 := Tryd.underlying28
  have hu26 := Tryd.underlying26
  obtain ⟨a0, a1, a2⟩ := t
  obtain ⟨b0, b1⟩ := x
  have hb := below_alloc (Below.refl w.heap.size w) (.cells #[.string a0, .string a1, .bool a2] 28)
  have hk := show Blk (w.alloc (.cells #[.string a0, .string a1, .bool a2] 28)) w.heap.size [.string a0, .string a1, .bool a2] 28 from Blk.alloc_new w _ _
  have k0 : (w.alloc (.cells #[.string a0, .string a1, .bool a2] 28)).cell? ⟨g, 0, none⟩ = some (.string b0) := (hb.cell (World.block_lt_of_cell? w _ h0)).trans h0
  have k1 : (w.alloc (.cells #[.string a0, .string a1, .bool a2] 28)).cell? ⟨g, 1, none⟩ = some (.string b1) := (hb.cell (World.block_lt_of_cell? w _ h1)).trans h1
  have HB := Aside0.mk hb
  clear hb hk h0 h1
  cases e0 : (a0.toList == b0.toList) with
  | false =>
    have HM : Aside0 (tolM ⟨a0, a1, a2⟩ ⟨b0, b1⟩ = false) := ⟨by unfold tolM; rw [e0]; rfl⟩
    go_enter Tryd.func30, Tryd.ntmps30
    go_wp2
    go_ret
    exact ⟨by rw [HM.out]; rfl, HB.out⟩
  | true =>
    cases a2 with
    | true =>
      have HM : Aside0 (tolM ⟨a0, a1, true⟩ ⟨b0, b1⟩ = true) := ⟨by unfold tolM; rw [e0]; rfl⟩
      go_enter Tryd.func30, Tryd.ntmps30
      go_wp2
      go_ret
      exact ⟨by rw [HM.out]; rfl, HB.out⟩
    | false =>
      cases e1 : (a1.toList == b1.toList) with
      | false =>
        have HM : Aside0 (tolM ⟨a0, a1, false⟩ ⟨b0, b1⟩ = false) := ⟨by unfold tolM; rw [e0, e1]; rfl⟩
        go_enter Tryd.func30, Tryd.ntmps30
        go_wp2
        go_ret
        exact ⟨by rw [HM.out]; rfl, HB.out⟩
      | true =>
        have HM : Aside0 (tolM ⟨a0, a1, false⟩ ⟨b0, b1⟩ = true) := ⟨by unfold tolM; rw [e0, e1]; rfl⟩
        go_enter Tryd.func30, Tryd.ntmps30
        go_wp2
        go_ret
        exact ⟨by rw [HM.out]; rfl, HB.out⟩

def bareV (l : List S28) (x : S26) : Bool := !(l.any (fun t => tolM t x))
theorem bare_one (x : S26) (g : Nat) (A : Option Addr) (c : Nat) (l : List S28) (w : World) (h0 : w.cell? ⟨g, 0, none⟩ = some (.slice A l.length c)) (hr : Kd.C k28 w A l.length l) (hl : l.length ≤ 9223372036854775806) :
    Calls Tryd.prog 28 #[.agg #[.string x.f0, .string x.f1], .pointer (some ⟨g, 0, none⟩)] w fun e w' => e = .returned (.bool (bareV l x)) ∧ Below w.heap.size w w' := by
  have hu26 := Tryd.underlying26
  have hb := below_alloc (Below.refl w.heap.size w) (.cells #[.string x.f0, .string x.f1] 26)
  have hk := show Blk (w.alloc (.cells #[.string x.f0, .string x.f1] 26)) w.heap.size [.string x.f0, .string x.f1] 26 from Blk.alloc_new w _ _
  have k0 := (hb.cell (World.block_lt_of_cell? w _ h0)).trans h0
  have t0 := hk.cell 0
  have t1 := hk.cell 1
  have hr1 := Kd.C_below hr hb
  have hcall : ∀ W, Below (w.alloc (.cells #[.string x.f0, .string x.f1] 26)).heap.size (w.alloc (.cells #[.string x.f0, .string x.f1] 26)) W → ∀ t : S28, Calls Tryd.prog 30 (#[.agg #[.string t.f0, .string t.f1, .bool t.f2]] ++ #[.pointer (some ⟨w.heap.size, 0, none⟩)]) W fun e W' => e = .returned (.bool (tolM t x)) ∧ Below W.heap.size W W' := fun W hW t =>
    tol_one t x w.heap.size W ((hW.cell (World.block_lt_of_cell? _ _ t0)).trans t0) ((hW.cell (World.block_lt_of_cell? _ _ t1)).trans t1)
  have HC := Aside0.mk (contains_tol 30 _ Tryd.func30 (by kernel_rfl) rfl #[.pointer (some ⟨w.heap.size, 0, none⟩)] A c l _ hr1 hl (fun t => tolM t x) hcall)
  have HB := Aside0.mk hb
  have hm : bareV l x = !(l.any (fun t => tolM t x)) := rfl
  have HM := Aside0.mk hm
  clear hb hk hm h0 hr hr1 hcall
  go_enter Tryd.func28, Tryd.ntmps28
  go_wp2_with fail
  generalize (l.any (fun t => tolM t x)) = r at HC HM
  generalize w.alloc (.cells #[.string x.f0, .string x.f1] 26) = W at k0 t0 t1 HB HC ⊢
  go_wp2_with (go_at_call 29; refine HC.out.mono ?_; rintro e w2 ⟨rfl, hb2⟩; have HB2 := Aside0.mk (below_then HB.out HB.out.size hb2); clear hb2)
  all_goals
    go_ret
    exact ⟨by rw [HM.out]; rfl, HB2.out⟩

theorem bare_call (A : Option Addr) (c n : Nat) (w : World) :
    Calls Tryd.prog 24 #[.slice A n c] w fun e w' => e = .returned (.func (.func 28) #[] #[.pointer (some ⟨w.heap.size, 0, none⟩)]) ∧ w' = w.alloc (.cells #[.slice A n c] 23) := by
  go_enter Tryd.func24, Tryd.ntmps24
  go_wp2
  go_ret
  exact ⟨rfl, rfl⟩
theorem bare_holds (A : Option Addr) (c : Nat) (l : List S28) (w : World) (hr : Kd.C k28 w A l.length l) (hl : l.length ≤ 9223372036854775806) :
    ∀ W, Below (w.alloc (.cells #[.slice A l.length c] 23)).heap.size (w.alloc (.cells #[.slice A l.length c] 23)) W → ∀ x : S26, Calls Tryd.prog 28 (#[.agg #[.string x.f0, .string x.f1]] ++ #[.pointer (some ⟨w.heap.size, 0, none⟩)]) W fun e W' => e = .returned (.bool (bareV l x)) ∧ Below W.heap.size W W' := fun W hW x => by
  have hk := show Blk (w.alloc (.cells #[.slice A l.length c] 23)) w.heap.size [.slice A l.length c] 23 from Blk.alloc_new w _ _
  have k0 := hk.cell 0
  exact bare_one x w.heap.size A c l W ((hW.cell (World.block_lt_of_cell? _ _ k0)).trans k0) (Kd.C_below (Kd.C_alloc hr _) hW) hl
def taint_Tolerates.f (l0 : List S28) (l1 : List S26) : Option Bool := if l0.length ≤ 9223372036854775806 ∧ l1.length ≤ 9223372036854775806 then some (!(l1.any (bareV l0))) else none
theorem taint_Tolerates.calls (A0 : Option Addr) (c0 : Nat) (l0 : List S28) (A1 : Option Addr) (c1 : Nat) (l1 : List S26) (r : Bool) (w : World) (hr0 : Kd.C k28 w A0 l0.length l0) (hc0 : l0.length ≤ c0) (hr1 : Kd.C k26 w A1 l1.length l1) (hc1 : l1.length ≤ c1) (h : taint_Tolerates.f l0 l1 = some r) :
    Calls Tryd.prog 15 #[.slice A0 l0.length c0, .slice A1 l1.length c1] w fun e w' => e = .returned (.bool r) ∧ Below w.heap.size w w' := by
  unfold taint_Tolerates.f at h
  split at h
  · rename_i hl
    obtain rfl := Option.some.inj h
    have hb := below_alloc (Below.refl w.heap.size w) (.cells #[.slice A0 l0.length c0] 23)
    have HC := Aside0.mk (contains_label 28 _ Tryd.func28 (by kernel_rfl) rfl #[.pointer (some ⟨w.heap.size, 0, none⟩)] A1 c1 l1 _ (Kd.C_alloc hr1 _) hl.2 (bareV l0) (bare_holds A0 c0 l0 w hr0 hl.1))
    have HB := Aside0.mk hb
    clear hb hr0 hr1
    generalize (l1.any (bareV l0)) = r at HC
    go_enter Tryd.func15, Tryd.ntmps15
    go_wp2_with (first | (go_at_call 24; refine (bare_call A0 c0 l0.length w).mono ?_; rintro e w2 ⟨rfl, rfl⟩) | (go_at_call 18; refine HC.out.mono ?_; rintro e w3 ⟨rfl, hb2⟩; have HB2 := Aside0.mk (below_then HB.out HB.out.size hb2); clear hb2))
    all_goals
      go_ret
      exact ⟨rfl, HB2.out⟩
  · cases h
def firstV (l0 : List S28) (l1 : List S26) : ByteArray × ByteArray × Bool := match l1.find? (bareV l0) with | some x => (x.f0, x.f1, true) | none => (⟨#[]⟩, ⟨#[]⟩, false)
def taint_First.f (l0 : List S28) (l1 : List S26) : Option (ByteArray × ByteArray × Bool) := if l0.length ≤ 9223372036854775806 ∧ l1.length ≤ 9223372036854775806 then some (firstV l0 l1) else none
set_option maxHeartbeats 1000000 in
theorem taint_First.calls (A0 : Option Addr) (c0 : Nat) (l0 : List S28) (A1 : Option Addr) (c1 : Nat) (l1 : List S26) (r1 : ByteArray) (r2 : ByteArray) (r3 : Bool) (w : World) (hr0 : Kd.C k28 w A0 l0.length l0) (hc0 : l0.length ≤ c0) (hr1 : Kd.C k26 w A1 l1.length l1) (hc1 : l1.length ≤ c1) (h : taint_First.f l0 l1 = some (r1, r2, r3)) :
    Calls Tryd.prog 12 #[.slice A0 l0.length c0, .slice A1 l1.length c1] w fun e w' => e = .returned (.tuple #[.agg #[.string r1, .string r2], .bool r3]) ∧ Below w.heap.size w w' := by
  unfold taint_First.f at h
  split at h
  · rename_i hl
    obtain ⟨hl0, hl1⟩ := hl
    have hv := Option.some.inj h
    clear h
    have hu26 := Tryd.underlying26
    obtain ⟨W0, hW0⟩ : ∃ W0, W0 = w.alloc (.cells #[.string ⟨#[]⟩, .string ⟨#[]⟩] 26) := ⟨_, rfl⟩
    have hB0 : Below w.heap.size w W0 := hW0 ▸ below_alloc (Below.refl _ _) _
    have hK0 : Blk W0 w.heap.size [.string ⟨#[]⟩, .string ⟨#[]⟩] 26 := hW0 ▸ Blk.alloc_new w _ _
    have hr0' := Kd.C_below hr0 hB0
    have hr1' := Kd.C_below hr1 hB0
    have HC := Aside0.mk (index_label 28 _ Tryd.func28 (by kernel_rfl) rfl #[.pointer (some ⟨W0.heap.size, 0, none⟩)] A1 c1 l1 _ (Kd.C_alloc hr1' _) hl1 (bareV l0) (bare_holds A0 c0 l0 W0 hr0' hl0))
    have HB := Aside0.mk (below_then hB0 hB0.size (below_alloc (Below.refl W0.heap.size W0) (.cells #[.slice A0 l0.length c0] 23)))
    have HK := Aside0.mk (hK0.alloc (.cells #[.slice A0 l0.length c0] 23))
    have HS := Aside0.mk hB0.size
    have HR1 := Aside0.mk hr1
    clear hr0 hr1 hr0' hr1' hB0 hK0
    have HW0 := Aside0.mk hW0
    have hg : w.heap.size < (W0.alloc (.cells #[.slice A0 l0.length c0] 23)).heap.size := HK.out.lt
    cases hi : l1.findIdx? (bareV l0) with
    | some i =>
      obtain ⟨hil, hp, hbefore⟩ := List.findIdx?_eq_some_iff_getElem.1 hi
      have hfind : l1.find? (bareV l0) = some l1[i] := List.find?_eq_some_iff_getElem.2 ⟨hp, i, hil, rfl, fun j hj => by simpa using hbefore j hj⟩
      have hidx : idxOf (bareV l0) l1 = (i : Int) := by unfold idxOf; rw [hi]
      unfold firstV at hv
      rw [hfind] at hv
      rw [hidx] at HC
      obtain ⟨ad, rfl, h0, h1⟩ := cells_label HR1.out i hil
      simp only [Prod.mk.injEq] at hv
      obtain ⟨rfl, rfl, rfl⟩ := hv
      obtain ⟨x, hx⟩ : ∃ x, x = l1[i] := ⟨_, rfl⟩
      rw [← hx] at h0 h1 ⊢
      have H0 := Aside0.mk h0
      have H1 := Aside0.mk h1
      clear hx hi hp hbefore hfind hidx h0 h1
      clear hW0
      go_enter Tryd.func12, Tryd.ntmps12
      go_wp2_with fail
      rw [← HW0.out]
      clear HW0
      go_wp2_with (first | (go_at_call 24; refine (bare_call A0 c0 l0.length _).mono ?_; rintro e w2 ⟨rfl, rfl⟩) | (go_at_call 23; refine HC.out.mono ?_; rintro e w3 ⟨rfl, hb2⟩; have HB2 := Aside0.mk (below_then HB.out HB.out.size hb2); have hk3 := hb2.block _ hg; have HK3 := Aside0.mk (show Blk w3 w.heap.size [.string ⟨#[]⟩, .string ⟨#[]⟩] 26 from hk3.trans HK.out); have k0 := HK3.out.cell 0; have k1 := HK3.out.cell 1; have f0 := HK3.out.frozen ⟨w.heap.size, 0, none⟩ rfl; have f1 := HK3.out.frozen ⟨w.heap.size, 1, none⟩ rfl; have x0 := (HB2.out.cell (World.block_lt_of_cell? w _ H0.out)).trans H0.out; have x1 := (HB2.out.cell (World.block_lt_of_cell? w _ H1.out)).trans H1.out; clear hb2 hk3))
      have hk5 : ((w3.setCell ⟨w.heap.size, 0, none⟩ (.string x.f0)).setCell ⟨w.heap.size, 1, none⟩ (.string x.f1)).heap[w.heap.size]? = some (.cells #[.string x.f0, .string x.f1] 26 (0, 0)) := blk_set (blk_set HK3.out 0 (.string x.f0)) 1 (.string x.f1)
      refine bodyPost_ret (results_ct rfl _ _ w.heap.size 26 #[.string x.f0, .string x.f1] (0, 0) _ rfl hk5 Tryd.underlying26 rfl (by kernel_rfl)) rfl ?_
      exact ⟨rfl, below_set (below_set HB2.out (Nat.le_refl _)) (Nat.le_refl _)⟩
    | none =>
      have hfind : l1.find? (bareV l0) = none := List.find?_eq_none.2 (fun x hx => by rw [List.findIdx?_eq_none_iff.1 hi x hx]; decide)
      have hidx : idxOf (bareV l0) l1 = -1 := by unfold idxOf; rw [hi]
      unfold firstV at hv
      rw [hfind] at hv
      rw [hidx] at HC
      simp only [Prod.mk.injEq] at hv
      obtain ⟨rfl, rfl, rfl⟩ := hv
      clear hi hfind hidx hW0
      go_enter Tryd.func12, Tryd.ntmps12
      go_wp2_with fail
      rw [← HW0.out]
      clear HW0
      go_wp2_with (first | (go_at_call 24; refine (bare_call A0 c0 l0.length _).mono ?_; rintro e w2 ⟨rfl, rfl⟩) | (go_at_call 23; refine HC.out.mono ?_; rintro e w3 ⟨rfl, hb2⟩; have HB2 := Aside0.mk (below_then HB.out HB.out.size hb2); have hk3 := hb2.block _ hg; have HK3 := Aside0.mk (show Blk w3 w.heap.size [.string ⟨#[]⟩, .string ⟨#[]⟩] 26 from hk3.trans HK.out); have k0 := HK3.out.cell 0; have k1 := HK3.out.cell 1; have f0 := HK3.out.frozen ⟨w.heap.size, 0, none⟩ rfl; have f1 := HK3.out.frozen ⟨w.heap.size, 1, none⟩ rfl; clear hb2 hk3))
      have hk5 : ((w3.setCell ⟨w.heap.size, 0, none⟩ (.string ⟨#[]⟩)).setCell ⟨w.heap.size, 1, none⟩ (.string ⟨#[]⟩)).heap[w.heap.size]? = some (.cells #[.string ⟨#[]⟩, .string ⟨#[]⟩] 26 (0, 0)) := blk_set (blk_set HK3.out 0 (.string ⟨#[]⟩)) 1 (.string ⟨#[]⟩)
      refine bodyPost_ret (results_ct rfl _ _ w.heap.size 26 #[.string ⟨#[]⟩, .string ⟨#[]⟩] (0, 0) _ rfl hk5 Tryd.underlying26 rfl (by kernel_rfl)) rfl ?_
      exact ⟨rfl, below_set (below_set HB2.out (Nat.le_refl _)) (Nat.le_refl _)⟩
  · cases h
end Go.Proofs.YthgdeoacplcceaaDoor.PAll
