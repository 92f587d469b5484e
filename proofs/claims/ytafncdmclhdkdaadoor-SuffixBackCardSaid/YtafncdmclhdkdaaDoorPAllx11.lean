-- written by a program of this session (the kit's print, turned): plain functions and their contracts
-- shrunk
import Derived.Test.YtafncdmclhdkdaaDoorPAllx0
import Derived.Test.YtafncdmclhdkdaaDoorPAllx1
import Derived.Test.YtafncdmclhdkdaaDoorPAllx2
import Derived.Test.YtafncdmclhdkdaaDoorEMoney
namespace Go.Proofs.YtafncdmclhdkdaaDoor.PAll
open Go.RowKit Go.Proofs.YtafncdmclhdkdaaDoorW.PrintWords Go.Proofs.YtafncdmclhdkdaaDoorW.PrintLast Go.Proofs.YtafncdmclhdkdaaDoorW.PrintMore
attribute [local go_sem] max2_int min2_int max_two min_two max_three min_three max_four min_four   -- for this text's walks alone
set_option linter.unusedVariables false
set_option linter.unusedSimpArgs false

/-! ### sutlerlaw02_again_at_suffix_PrintCPU_suffix_ParseCPU: function 21 -/
def sutlerlaw02_again_at_suffix_PrintCPU_suffix_ParseCPU.f (a0 : Int) (a1 : Int)   : Option (Bool) := if a1 = 0 then ((suffix_PrintCPU.f a0).bind fun bt217 => ((suffix_ParseCPU.f bt217.1).bind fun bt219 => (if bt217.2 = 0 then (if bt219.2 = 0 then (some (bt219.1 == a0)) else (some false)) else (some false)))) else (some (a0 == 0))
set_option maxHeartbeats 8000000 in
set_option maxRecDepth 100000 in
theorem sutlerlaw02_again_at_suffix_PrintCPU_suffix_ParseCPU.calls (a0 : Int) (a1 : Int)   (r : Bool) (w : World) (hg : Vars w) (h : sutlerlaw02_again_at_suffix_PrintCPU_suffix_ParseCPU.f a0 a1 = some r) (hrT_ : r = true := by rfl) :
  Calls Tryd.prog 21 #[.int .i64 a0, .int .i64 a1, .func (.func 16) #[] #[], .func (.func 8) #[] #[]] w fun e w' => e = .returned (.bool r) ∧ Below w.heap.size w w' := by
 have HB := Aside0.mk (Below.refl w.heap.size w)
 have HV := Aside0.mk hg
 clear hg
 have H : (if a1 = 0 then ((suffix_PrintCPU.f a0).bind fun bt217 => ((suffix_ParseCPU.f bt217.1).bind fun bt219 => (if bt217.2 = 0 then (if bt219.2 = 0 then (some (bt219.1 == a0)) else (some false)) else (some false)))) else (some (a0 == 0))) = some r := h
 clear h
 by_cases c5 : a1 = 0
 ·rw [if_pos c5] at H
  have c5b0 : (a1 == 0) = true := beq_iff_eq.mpr c5
  have c5b1 : (a1 != 0) = false := bne_eq_false_iff_eq.mpr c5
  clear c5
  replace H := Option.bind_eq_some_iff.mp H
  obtain ⟨⟨t217, t218⟩, A60, H⟩ := H
  replace H : ((suffix_ParseCPU.f t217).bind fun bt219 => (if t218 = 0 then (if bt219.2 = 0 then (some (bt219.1 == a0)) else (some false)) else (some false))) = some r := H
  have A6 := Aside0.mk A60
  clear A60
  replace H := Option.bind_eq_some_iff.mp H
  obtain ⟨⟨t219, t220⟩, A70, H⟩ := H
  replace H : (if t218 = 0 then (if t220 = 0 then (some (t219 == a0)) else (some false)) else (some false)) = some r := H
  have A7 := Aside0.mk A70
  clear A70
  by_cases c8 : t218 = 0
  ·rw [if_pos c8] at H
   have c8b0 : (t218 == 0) = true := beq_iff_eq.mpr c8
   have c8b1 : (t218 != 0) = false := bne_eq_false_iff_eq.mpr c8
   clear c8
   by_cases c9 : t220 = 0
   ·rw [if_pos c9] at H
    have c9b0 : (t220 == 0) = true := beq_iff_eq.mpr c9
    have c9b1 : (t220 != 0) = false := bne_eq_false_iff_eq.mpr c9
    clear c9
    obtain rfl := Option.some.inj H
    go_enter Tryd.func21, Tryd.ntmps21
    go_wp2_with (first | (refine goesLV_ (some 20) rfl rfl Tryd.func16 (by kernel_rfl) rfl #[.int .i64 a0] rfl (by (try simp only [List.map_toArray, List.map_cons, List.map_nil]); first | done | rfl | (simp only [List.length_drop, List.length_take]; rfl)) ?_; (with_reducible refine (suffix_PrintCPU.calls a0 t217 t218 _ ?side1 A6.out).mono ?_); (case side1 => exact Vars_below HV.out (by repeat (first | (with_reducible first | exact HB.out | apply below_alloc | apply pw_below_drewN | apply below_drew1) | exact HB.out))); rintro e w10 ⟨rfl, hb⟩; refine ⟨_, rfl, ?_⟩; have n0_ := Aside0.mk (below_step (by repeat (first | (with_reducible first | exact HB.out | apply below_alloc | apply pw_below_drewN | apply below_drew1) | exact HB.out)) hb); clear HB; have HB := n0_; clear n0_; (try clear hb); (try clear hb2); (try clear hk); (try clear hi)) | (refine goesLV_ (some 26) rfl rfl Tryd.func8 (by kernel_rfl) rfl #[.string t217] rfl (by (try simp only [List.map_toArray, List.map_cons, List.map_nil]); first | done | rfl | (simp only [List.length_drop, List.length_take]; rfl)) ?_; (with_reducible refine (suffix_ParseCPU.calls t217 t219 t220 _ ?side1 A7.out).mono ?_); (case side1 => exact Vars_below HV.out (by repeat (first | (with_reducible first | exact HB.out | apply below_alloc | apply pw_below_drewN | apply below_drew1) | exact HB.out))); rintro e w11 ⟨rfl, hb⟩; refine ⟨_, rfl, ?_⟩; have n0_ := Aside0.mk (below_step (by repeat (first | (with_reducible first | exact HB.out | apply below_alloc | apply pw_below_drewN | apply below_drew1) | exact HB.out)) hb); clear HB; have HB := n0_; clear n0_; (try clear hb); (try clear hb2); (try clear hk); (try clear hi)))
    go_ret
    exact ⟨by first | rfl | (simp [errW_none, errW_some] <;> rfl) | (simp [*, errW_none, errW_some] <;> rfl), by repeat (first | (with_reducible first | exact HB.out | apply below_alloc | apply pw_below_drewN | apply below_drew1) | exact HB.out)⟩
   ·rw [if_neg c9] at H
    have c9b0 : (t220 == 0) = false := beq_eq_false_iff_ne.mpr c9
    have c9b1 : (t220 != 0) = true := bne_iff_ne.mpr c9
    exact absurd ((Option.some.inj H).trans hrT_) (by decide)
  ·rw [if_neg c8] at H
   have c8b0 : (t218 == 0) = false := beq_eq_false_iff_ne.mpr c8
   have c8b1 : (t218 != 0) = true := bne_iff_ne.mpr c8
   exact absurd ((Option.some.inj H).trans hrT_) (by decide)
 ·rw [if_neg c5] at H
  have c5b0 : (a1 == 0) = false := beq_eq_false_iff_ne.mpr c5
  have c5b1 : (a1 != 0) = true := bne_iff_ne.mpr c5
  obtain rfl := Option.some.inj H
  go_enter Tryd.func21, Tryd.ntmps21
  go_wp2
  go_ret
  exact ⟨by first | rfl | (simp [errW_none, errW_some] <;> rfl) | (simp [*, errW_none, errW_some] <;> rfl), by repeat (first | (with_reducible first | exact HB.out | apply below_alloc | apply pw_below_drewN | apply below_drew1) | exact HB.out)⟩

/-! ### sutlerlaw02_again_at_suffix_PrintBytes_suffix_ParseBytes: function 21 -/
def sutlerlaw02_again_at_suffix_PrintBytes_suffix_ParseBytes.f (k : Nat) (a0 : Int) (a1 : Int)   : Option (Bool) := if a1 = 0 then ((suffix_PrintBytes.f k a0).bind fun bt221 => ((suffix_ParseBytes.f k bt221.1).bind fun bt223 => (if bt221.2 = 0 then (if bt223.2 = 0 then (some (bt223.1 == a0)) else (some false)) else (some false)))) else (some (a0 == 0))
theorem sutlerlaw02_again_at_suffix_PrintBytes_suffix_ParseBytes.mono : ∀ a0 a1 k, LeO (sutlerlaw02_again_at_suffix_PrintBytes_suffix_ParseBytes.f k a0 a1) (sutlerlaw02_again_at_suffix_PrintBytes_suffix_ParseBytes.f (k + 1) a0 a1) := by
 intro a0 a1 k
 unfold sutlerlaw02_again_at_suffix_PrintBytes_suffix_ParseBytes.f
 repeat' first
   | (with_reducible exact suffix_ParseBytes.mono _ _)
   | (with_reducible exact suffix_PrintBytes.mono _ _)
   | (with_reducible exact LeO.refl _)
   | (with_reducible exact LeO.none _)
   | (with_reducible refine LeO.ite ?_ ?_)
   | (with_reducible refine LeO.bind ?_ (fun _ => ?_))
   | exact suffix_ParseBytes.mono _ _
   | exact suffix_PrintBytes.mono _ _
   | exact LeO.none _
   | refine LeO.ite ?_ ?_
   | refine LeO.bind ?_ (fun _ => ?_)
set_option maxHeartbeats 8000000 in
set_option maxRecDepth 100000 in
theorem sutlerlaw02_again_at_suffix_PrintBytes_suffix_ParseBytes.calls (k : Nat) (a0 : Int) (a1 : Int)   (r : Bool) (w : World) (hg : Vars w) (h : sutlerlaw02_again_at_suffix_PrintBytes_suffix_ParseBytes.f k a0 a1 = some r) (hrT_ : r = true := by rfl) :
  Calls Tryd.prog 21 #[.int .i64 a0, .int .i64 a1, .func (.func 18) #[] #[], .func (.func 9) #[] #[]] w fun e w' => e = .returned (.bool r) ∧ Below w.heap.size w w' := by
 have HB := Aside0.mk (Below.refl w.heap.size w)
 have HV := Aside0.mk hg
 clear hg
 have H : (if a1 = 0 then ((suffix_PrintBytes.f k a0).bind fun bt221 => ((suffix_ParseBytes.f k bt221.1).bind fun bt223 => (if bt221.2 = 0 then (if bt223.2 = 0 then (some (bt223.1 == a0)) else (some false)) else (some false)))) else (some (a0 == 0))) = some r := h
 clear h
 by_cases c5 : a1 = 0
 ·rw [if_pos c5] at H
  have c5b0 : (a1 == 0) = true := beq_iff_eq.mpr c5
  have c5b1 : (a1 != 0) = false := bne_eq_false_iff_eq.mpr c5
  clear c5
  replace H := Option.bind_eq_some_iff.mp H
  obtain ⟨⟨t221, t222⟩, A60, H⟩ := H
  replace H : ((suffix_ParseBytes.f k t221).bind fun bt223 => (if t222 = 0 then (if bt223.2 = 0 then (some (bt223.1 == a0)) else (some false)) else (some false))) = some r := H
  have A6 := Aside0.mk A60
  clear A60
  replace H := Option.bind_eq_some_iff.mp H
  obtain ⟨⟨t223, t224⟩, A70, H⟩ := H
  replace H : (if t222 = 0 then (if t224 = 0 then (some (t223 == a0)) else (some false)) else (some false)) = some r := H
  have A7 := Aside0.mk A70
  clear A70
  by_cases c8 : t222 = 0
  ·rw [if_pos c8] at H
   have c8b0 : (t222 == 0) = true := beq_iff_eq.mpr c8
   have c8b1 : (t222 != 0) = false := bne_eq_false_iff_eq.mpr c8
   clear c8
   by_cases c9 : t224 = 0
   ·rw [if_pos c9] at H
    have c9b0 : (t224 == 0) = true := beq_iff_eq.mpr c9
    have c9b1 : (t224 != 0) = false := bne_eq_false_iff_eq.mpr c9
    clear c9
    obtain rfl := Option.some.inj H
    go_enter Tryd.func21, Tryd.ntmps21
    go_wp2_with (first | (refine goesLV_ (some 20) rfl rfl Tryd.func18 (by kernel_rfl) rfl #[.int .i64 a0] rfl (by (try simp only [List.map_toArray, List.map_cons, List.map_nil]); first | done | rfl | (simp only [List.length_drop, List.length_take]; rfl)) ?_; (with_reducible refine (suffix_PrintBytes.calls k a0 t221 t222 _ ?side1 A6.out).mono ?_); (case side1 => exact Vars_below HV.out (by repeat (first | (with_reducible first | exact HB.out | apply below_alloc | apply pw_below_drewN | apply below_drew1) | exact HB.out))); rintro e w10 ⟨rfl, hb⟩; refine ⟨_, rfl, ?_⟩; have n0_ := Aside0.mk (below_step (by repeat (first | (with_reducible first | exact HB.out | apply below_alloc | apply pw_below_drewN | apply below_drew1) | exact HB.out)) hb); clear HB; have HB := n0_; clear n0_; (try clear hb); (try clear hb2); (try clear hk); (try clear hi)) | (refine goesLV_ (some 26) rfl rfl Tryd.func9 (by kernel_rfl) rfl #[.string t221] rfl (by (try simp only [List.map_toArray, List.map_cons, List.map_nil]); first | done | rfl | (simp only [List.length_drop, List.length_take]; rfl)) ?_; (with_reducible refine (suffix_ParseBytes.calls k t221 t223 t224 _ ?side1 A7.out).mono ?_); (case side1 => exact Vars_below HV.out (by repeat (first | (with_reducible first | exact HB.out | apply below_alloc | apply pw_below_drewN | apply below_drew1) | exact HB.out))); rintro e w11 ⟨rfl, hb⟩; refine ⟨_, rfl, ?_⟩; have n0_ := Aside0.mk (below_step (by repeat (first | (with_reducible first | exact HB.out | apply below_alloc | apply pw_below_drewN | apply below_drew1) | exact HB.out)) hb); clear HB; have HB := n0_; clear n0_; (try clear hb); (try clear hb2); (try clear hk); (try clear hi)))
    go_ret
    exact ⟨by first | rfl | (simp [errW_none, errW_some] <;> rfl) | (simp [*, errW_none, errW_some] <;> rfl), by repeat (first | (with_reducible first | exact HB.out | apply below_alloc | apply pw_below_drewN | apply below_drew1) | exact HB.out)⟩
   ·rw [if_neg c9] at H
    have c9b0 : (t224 == 0) = false := beq_eq_false_iff_ne.mpr c9
    have c9b1 : (t224 != 0) = true := bne_iff_ne.mpr c9
    exact absurd ((Option.some.inj H).trans hrT_) (by decide)
  ·rw [if_neg c8] at H
   have c8b0 : (t222 == 0) = false := beq_eq_false_iff_ne.mpr c8
   have c8b1 : (t222 != 0) = true := bne_iff_ne.mpr c8
   exact absurd ((Option.some.inj H).trans hrT_) (by decide)
 ·rw [if_neg c5] at H
  have c5b0 : (a1 == 0) = false := beq_eq_false_iff_ne.mpr c5
  have c5b1 : (a1 != 0) = true := bne_iff_ne.mpr c5
  obtain rfl := Option.some.inj H
  go_enter Tryd.func21, Tryd.ntmps21
  go_wp2
  go_ret
  exact ⟨by first | rfl | (simp [errW_none, errW_some] <;> rfl) | (simp [*, errW_none, errW_some] <;> rfl), by repeat (first | (with_reducible first | exact HB.out | apply below_alloc | apply pw_below_drewN | apply below_drew1) | exact HB.out)⟩

/-! ### sutlerlaw02_again_at_suffix_PrintMoney_suffix_ParseMoney: function 21 -/
def sutlerlaw02_again_at_suffix_PrintMoney_suffix_ParseMoney.f (a0 : Int) (a1 : Int)   : Option (Bool) := if a1 = 0 then ((suffix_PrintMoney.f a0).bind fun bt225 => ((suffix_ParseMoney.f bt225.1).bind fun bt227 => (if bt225.2 = 0 then (if bt227.2 = 0 then (some (bt227.1 == a0)) else (some false)) else (some false)))) else (some (a0 == 0))
set_option maxHeartbeats 8000000 in
set_option maxRecDepth 100000 in
theorem sutlerlaw02_again_at_suffix_PrintMoney_suffix_ParseMoney.calls (a0 : Int) (a1 : Int)   (r : Bool) (w : World) (hg : Vars w) (h : sutlerlaw02_again_at_suffix_PrintMoney_suffix_ParseMoney.f a0 a1 = some r) (hrT_ : r = true := by rfl) :
  Calls Tryd.prog 21 #[.int .i64 a0, .int .i64 a1, .func (.func 11) #[] #[], .func (.func 10) #[] #[]] w fun e w' => e = .returned (.bool r) ∧ Below w.heap.size w w' := by
 have HB := Aside0.mk (Below.refl w.heap.size w)
 have HV := Aside0.mk hg
 clear hg
 have H : (if a1 = 0 then ((suffix_PrintMoney.f a0).bind fun bt225 => ((suffix_ParseMoney.f bt225.1).bind fun bt227 => (if bt225.2 = 0 then (if bt227.2 = 0 then (some (bt227.1 == a0)) else (some false)) else (some false)))) else (some (a0 == 0))) = some r := h
 clear h
 by_cases c5 : a1 = 0
 ·rw [if_pos c5] at H
  have c5b0 : (a1 == 0) = true := beq_iff_eq.mpr c5
  have c5b1 : (a1 != 0) = false := bne_eq_false_iff_eq.mpr c5
  clear c5
  replace H := Option.bind_eq_some_iff.mp H
  obtain ⟨⟨t225, t226⟩, A60, H⟩ := H
  replace H : ((suffix_ParseMoney.f t225).bind fun bt227 => (if t226 = 0 then (if bt227.2 = 0 then (some (bt227.1 == a0)) else (some false)) else (some false))) = some r := H
  have A6 := Aside0.mk A60
  clear A60
  replace H := Option.bind_eq_some_iff.mp H
  obtain ⟨⟨t227, t228⟩, A70, H⟩ := H
  replace H : (if t226 = 0 then (if t228 = 0 then (some (t227 == a0)) else (some false)) else (some false)) = some r := H
  have A7 := Aside0.mk A70
  clear A70
  by_cases c8 : t226 = 0
  ·rw [if_pos c8] at H
   have c8b0 : (t226 == 0) = true := beq_iff_eq.mpr c8
   have c8b1 : (t226 != 0) = false := bne_eq_false_iff_eq.mpr c8
   clear c8
   by_cases c9 : t228 = 0
   ·rw [if_pos c9] at H
    have c9b0 : (t228 == 0) = true := beq_iff_eq.mpr c9
    have c9b1 : (t228 != 0) = false := bne_eq_false_iff_eq.mpr c9
    clear c9
    obtain rfl := Option.some.inj H
    go_enter Tryd.func21, Tryd.ntmps21
    go_wp2_with (first | (refine goesLV_ (some 20) rfl rfl Tryd.func11 (by kernel_rfl) rfl #[.int .i64 a0] rfl (by (try simp only [List.map_toArray, List.map_cons, List.map_nil]); first | done | rfl | (simp only [List.length_drop, List.length_take]; rfl)) ?_; (with_reducible refine (suffix_PrintMoney.calls a0 t225 t226 _ ?side1 A6.out).mono ?_); (case side1 => exact Vars_below HV.out (by repeat (first | (with_reducible first | exact HB.out | apply below_alloc | apply pw_below_drewN | apply below_drew1) | exact HB.out))); rintro e w10 ⟨rfl, hb⟩; refine ⟨_, rfl, ?_⟩; have n0_ := Aside0.mk (below_step (by repeat (first | (with_reducible first | exact HB.out | apply below_alloc | apply pw_below_drewN | apply below_drew1) | exact HB.out)) hb); clear HB; have HB := n0_; clear n0_; (try clear hb); (try clear hb2); (try clear hk); (try clear hi)) | (refine goesLV_ (some 26) rfl rfl Tryd.func10 (by kernel_rfl) rfl #[.string t225] rfl (by (try simp only [List.map_toArray, List.map_cons, List.map_nil]); first | done | rfl | (simp only [List.length_drop, List.length_take]; rfl)) ?_; (with_reducible refine (suffix_ParseMoney.calls t225 t227 t228 _ ?side1 A7.out).mono ?_); (case side1 => exact Vars_below HV.out (by repeat (first | (with_reducible first | exact HB.out | apply below_alloc | apply pw_below_drewN | apply below_drew1) | exact HB.out))); rintro e w11 ⟨rfl, hb⟩; refine ⟨_, rfl, ?_⟩; have n0_ := Aside0.mk (below_step (by repeat (first | (with_reducible first | exact HB.out | apply below_alloc | apply pw_below_drewN | apply below_drew1) | exact HB.out)) hb); clear HB; have HB := n0_; clear n0_; (try clear hb); (try clear hb2); (try clear hk); (try clear hi)))
    go_ret
    exact ⟨by first | rfl | (simp [errW_none, errW_some] <;> rfl) | (simp [*, errW_none, errW_some] <;> rfl), by repeat (first | (with_reducible first | exact HB.out | apply below_alloc | apply pw_below_drewN | apply below_drew1) | exact HB.out)⟩
   ·rw [if_neg c9] at H
    have c9b0 : (t228 == 0) = false := beq_eq_false_iff_ne.mpr c9
    have c9b1 : (t228 != 0) = true := bne_iff_ne.mpr c9
    exact absurd ((Option.some.inj H).trans hrT_) (by decide)
  ·rw [if_neg c8] at H
   have c8b0 : (t226 == 0) = false := beq_eq_false_iff_ne.mpr c8
   have c8b1 : (t226 != 0) = true := bne_iff_ne.mpr c8
   exact absurd ((Option.some.inj H).trans hrT_) (by decide)
 ·rw [if_neg c5] at H
  have c5b0 : (a1 == 0) = false := beq_eq_false_iff_ne.mpr c5
  have c5b1 : (a1 != 0) = true := bne_iff_ne.mpr c5
  obtain rfl := Option.some.inj H
  go_enter Tryd.func21, Tryd.ntmps21
  go_wp2
  go_ret
  exact ⟨by first | rfl | (simp [errW_none, errW_some] <;> rfl) | (simp [*, errW_none, errW_some] <;> rfl), by repeat (first | (with_reducible first | exact HB.out | apply below_alloc | apply pw_below_drewN | apply below_drew1) | exact HB.out)⟩

end Go.Proofs.YtafncdmclhdkdaaDoor.PAll
