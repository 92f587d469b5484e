-- written by a program of this session (the kit's print, turned): plain functions and their contracts
-- shrunk
import Derived.Test.YtafncdmclhdkdaaDoorPAllx0
import Derived.Test.YtafncdmclhdkdaaDoorPAllx1
import Derived.Test.YtafncdmclhdkdaaDoorPAllx3
import Derived.Test.YtafncdmclhdkdaaDoorEMoney
namespace Go.Proofs.YtafncdmclhdkdaaDoor.PAll
open Go.RowKit Go.Proofs.YtafncdmclhdkdaaDoorW.PrintWords Go.Proofs.YtafncdmclhdkdaaDoorW.PrintLast Go.Proofs.YtafncdmclhdkdaaDoorW.PrintMore
attribute [local go_sem] max2_int min2_int max_two min_two max_three min_three max_four min_four   -- for this text's walks alone
set_option linter.unusedVariables false
set_option linter.unusedSimpArgs false

/-! ### sutlerlaw02_SuffixNumbers: function 3 -/
def sutlerlaw02_SuffixNumbers.f (k : Nat)  : Option (Bool) := (suffix_ParseCPU.f (⟨#[48, 50]⟩ : ByteArray)).bind fun bt139 => ((suffix_ParseBytes.f k (⟨#[49, 48, 50, 53, 84, 105]⟩ : ByteArray)).bind fun bt141 => ((suffix_ParseBytes.f k (⟨#[49, 48, 50, 52, 84, 105]⟩ : ByteArray)).bind fun bt143 => ((suffix_ParseMoney.f (⟨#[49, 46, 48, 48, 48, 48, 48, 48, 48]⟩ : ByteArray)).bind fun bt145 => ((suffix_PrintMoney.f (-1)).bind fun bt147 => ((sutlerlaw02_live.f k).bind fun t149 => (if t149 = true then (if bt139.2 = 20 then (if bt141.2 = 10 then (if bt143.1 = 1125899906842624 then (if bt143.2 = 0 then (if bt145.2 = 20 then (some (bt147.2 == 11)) else (some false)) else (some false)) else (some false)) else (some false)) else (some false)) else (some false)))))))
theorem sutlerlaw02_SuffixNumbers.mono : ∀ k, LeO (sutlerlaw02_SuffixNumbers.f k ) (sutlerlaw02_SuffixNumbers.f (k + 1) ) := by
 intro  k
 unfold sutlerlaw02_SuffixNumbers.f
 repeat' first
   | (with_reducible exact suffix_ParseBytes.mono _ _)
   | (with_reducible exact sutlerlaw02_live.mono _)
   | (with_reducible exact LeO.refl _)
   | (with_reducible exact LeO.none _)
   | (with_reducible refine LeO.ite ?_ ?_)
   | (with_reducible refine LeO.bind ?_ (fun _ => ?_))
   | exact suffix_ParseBytes.mono _ _
   | exact sutlerlaw02_live.mono _
   | exact LeO.none _
   | refine LeO.ite ?_ ?_
   | refine LeO.bind ?_ (fun _ => ?_)
set_option maxHeartbeats 8000000 in
set_option maxRecDepth 100000 in
theorem sutlerlaw02_SuffixNumbers.calls (k : Nat)  (r : Bool) (w : World) (hg : Vars w) (h : sutlerlaw02_SuffixNumbers.f k  = some r) (hrT_ : r = true := by rfl) :
  Calls Tryd.prog 3 #[] w fun e w' => e = .returned (.bool r) ∧ Below w.heap.size w w' := by
 have HB := Aside0.mk (Below.refl w.heap.size w)
 have HV := Aside0.mk hg
 clear hg
 have H : ((suffix_ParseCPU.f (⟨#[48, 50]⟩ : ByteArray)).bind fun bt139 => ((suffix_ParseBytes.f k (⟨#[49, 48, 50, 53, 84, 105]⟩ : ByteArray)).bind fun bt141 => ((suffix_ParseBytes.f k (⟨#[49, 48, 50, 52, 84, 105]⟩ : ByteArray)).bind fun bt143 => ((suffix_ParseMoney.f (⟨#[49, 46, 48, 48, 48, 48, 48, 48, 48]⟩ : ByteArray)).bind fun bt145 => ((suffix_PrintMoney.f (-1)).bind fun bt147 => ((sutlerlaw02_live.f k).bind fun t149 => (if t149 = true then (if bt139.2 = 20 then (if bt141.2 = 10 then (if bt143.1 = 1125899906842624 then (if bt143.2 = 0 then (if bt145.2 = 20 then (some (bt147.2 == 11)) else (some false)) else (some false)) else (some false)) else (some false)) else (some false)) else (some false)))))))) = some r := h
 clear h
 replace H := Option.bind_eq_some_iff.mp H
 obtain ⟨⟨t139, t140⟩, A10, H⟩ := H
 replace H : ((suffix_ParseBytes.f k (⟨#[49, 48, 50, 53, 84, 105]⟩ : ByteArray)).bind fun bt141 => ((suffix_ParseBytes.f k (⟨#[49, 48, 50, 52, 84, 105]⟩ : ByteArray)).bind fun bt143 => ((suffix_ParseMoney.f (⟨#[49, 46, 48, 48, 48, 48, 48, 48, 48]⟩ : ByteArray)).bind fun bt145 => ((suffix_PrintMoney.f (-1)).bind fun bt147 => ((sutlerlaw02_live.f k).bind fun t149 => (if t149 = true then (if t140 = 20 then (if bt141.2 = 10 then (if bt143.1 = 1125899906842624 then (if bt143.2 = 0 then (if bt145.2 = 20 then (some (bt147.2 == 11)) else (some false)) else (some false)) else (some false)) else (some false)) else (some false)) else (some false))))))) = some r := H
 have A1 := Aside0.mk A10
 clear A10
 replace H := Option.bind_eq_some_iff.mp H
 obtain ⟨⟨t141, t142⟩, A20, H⟩ := H
 replace H : ((suffix_ParseBytes.f k (⟨#[49, 48, 50, 52, 84, 105]⟩ : ByteArray)).bind fun bt143 => ((suffix_ParseMoney.f (⟨#[49, 46, 48, 48, 48, 48, 48, 48, 48]⟩ : ByteArray)).bind fun bt145 => ((suffix_PrintMoney.f (-1)).bind fun bt147 => ((sutlerlaw02_live.f k).bind fun t149 => (if t149 = true then (if t140 = 20 then (if t142 = 10 then (if bt143.1 = 1125899906842624 then (if bt143.2 = 0 then (if bt145.2 = 20 then (some (bt147.2 == 11)) else (some false)) else (some false)) else (some false)) else (some false)) else (some false)) else (some false)))))) = some r := H
 have A2 := Aside0.mk A20
 clear A20
 replace H := Option.bind_eq_some_iff.mp H
 obtain ⟨⟨t143, t144⟩, A30, H⟩ := H
 replace H : ((suffix_ParseMoney.f (⟨#[49, 46, 48, 48, 48, 48, 48, 48, 48]⟩ : ByteArray)).bind fun bt145 => ((suffix_PrintMoney.f (-1)).bind fun bt147 => ((sutlerlaw02_live.f k).bind fun t149 => (if t149 = true then (if t140 = 20 then (if t142 = 10 then (if t143 = 1125899906842624 then (if t144 = 0 then (if bt145.2 = 20 then (some (bt147.2 == 11)) else (some false)) else (some false)) else (some false)) else (some false)) else (some false)) else (some false))))) = some r := H
 have A3 := Aside0.mk A30
 clear A30
 replace H := Option.bind_eq_some_iff.mp H
 obtain ⟨⟨t145, t146⟩, A40, H⟩ := H
 replace H : ((suffix_PrintMoney.f (-1)).bind fun bt147 => ((sutlerlaw02_live.f k).bind fun t149 => (if t149 = true then (if t140 = 20 then (if t142 = 10 then (if t143 = 1125899906842624 then (if t144 = 0 then (if t146 = 20 then (some (bt147.2 == 11)) else (some false)) else (some false)) else (some false)) else (some false)) else (some false)) else (some false)))) = some r := H
 have A4 := Aside0.mk A40
 clear A40
 replace H := Option.bind_eq_some_iff.mp H
 obtain ⟨⟨t147, t148⟩, A50, H⟩ := H
 replace H : ((sutlerlaw02_live.f k).bind fun t149 => (if t149 = true then (if t140 = 20 then (if t142 = 10 then (if t143 = 1125899906842624 then (if t144 = 0 then (if t146 = 20 then (some (t148 == 11)) else (some false)) else (some false)) else (some false)) else (some false)) else (some false)) else (some false))) = some r := H
 have A5 := Aside0.mk A50
 clear A50
 replace H := Option.bind_eq_some_iff.mp H
 obtain ⟨t149, A60, H⟩ := H
 replace H : (if t149 = true then (if t140 = 20 then (if t142 = 10 then (if t143 = 1125899906842624 then (if t144 = 0 then (if t146 = 20 then (some (t148 == 11)) else (some false)) else (some false)) else (some false)) else (some false)) else (some false)) else (some false)) = some r := H
 have A6 := Aside0.mk A60
 clear A60
 by_cases c7 : t149 = true
 ·subst c7
  have H1 : (if t140 = 20 then (if t142 = 10 then (if t143 = 1125899906842624 then (if t144 = 0 then (if t146 = 20 then (some (t148 == 11)) else (some false)) else (some false)) else (some false)) else (some false)) else (some false)) = some r := by rw [if_pos rfl] at H; exact H
  clear H
  have H := H1
  clear H1
  by_cases c8 : t140 = 20
  ·rw [if_pos c8] at H
   have c8b0 : (t140 == 20) = true := beq_iff_eq.mpr c8
   have c8b1 : (t140 != 20) = false := bne_eq_false_iff_eq.mpr c8
   clear c8
   by_cases c9 : t142 = 10
   ·rw [if_pos c9] at H
    have c9b0 : (t142 == 10) = true := beq_iff_eq.mpr c9
    have c9b1 : (t142 != 10) = false := bne_eq_false_iff_eq.mpr c9
    clear c9
    by_cases c10 : t143 = 1125899906842624
    ·rw [if_pos c10] at H
     have c10b0 : (t143 == 1125899906842624) = true := beq_iff_eq.mpr c10
     have c10b1 : (t143 != 1125899906842624) = false := bne_eq_false_iff_eq.mpr c10
     clear c10
     by_cases c11 : t144 = 0
     ·rw [if_pos c11] at H
      have c11b0 : (t144 == 0) = true := beq_iff_eq.mpr c11
      have c11b1 : (t144 != 0) = false := bne_eq_false_iff_eq.mpr c11
      clear c11
      by_cases c12 : t146 = 20
      ·rw [if_pos c12] at H
       have c12b0 : (t146 == 20) = true := beq_iff_eq.mpr c12
       have c12b1 : (t146 != 20) = false := bne_eq_false_iff_eq.mpr c12
       clear c12
       obtain rfl := Option.some.inj H
       go_enter Tryd.func3, Tryd.ntmps3
       go_wp2_with (first | ((with_reducible refine gate_callee (f := 8) rfl ?_); refine goesL_ (some 12) rfl rfl Tryd.func8 (by kernel_rfl) rfl #[.string (⟨#[48, 50]⟩ : ByteArray)] rfl (by (try simp only [List.map_toArray, List.map_cons, List.map_nil]); first | done | rfl | (simp only [List.length_drop, List.length_take]; rfl)) ?_; (with_reducible refine (suffix_ParseCPU.calls (⟨#[48, 50]⟩ : ByteArray) t139 t140 _ ?side1 A1.out).mono ?_); (case side1 => exact Vars_below HV.out (by repeat (first | (with_reducible first | exact HB.out | apply below_alloc | apply pw_below_drewN | apply below_drew1) | exact HB.out))); rintro e w13 ⟨rfl, hb⟩; refine ⟨_, rfl, ?_⟩; have n0_ := Aside0.mk (below_step (by repeat (first | (with_reducible first | exact HB.out | apply below_alloc | apply pw_below_drewN | apply below_drew1) | exact HB.out)) hb); clear HB; have HB := n0_; clear n0_; (try clear hb); (try clear hb2); (try clear hk); (try clear hi)) | ((with_reducible refine gate_callee (f := 9) rfl ?_); refine goesL_ (some 16) rfl rfl Tryd.func9 (by kernel_rfl) rfl #[.string (⟨#[49, 48, 50, 53, 84, 105]⟩ : ByteArray)] rfl (by (try simp only [List.map_toArray, List.map_cons, List.map_nil]); first | done | rfl | (simp only [List.length_drop, List.length_take]; rfl)) ?_; (with_reducible refine (suffix_ParseBytes.calls k (⟨#[49, 48, 50, 53, 84, 105]⟩ : ByteArray) t141 t142 _ ?side1 A2.out).mono ?_); (case side1 => exact Vars_below HV.out (by repeat (first | (with_reducible first | exact HB.out | apply below_alloc | apply pw_below_drewN | apply below_drew1) | exact HB.out))); rintro e w14 ⟨rfl, hb⟩; refine ⟨_, rfl, ?_⟩; have n0_ := Aside0.mk (below_step (by repeat (first | (with_reducible first | exact HB.out | apply below_alloc | apply pw_below_drewN | apply below_drew1) | exact HB.out)) hb); clear HB; have HB := n0_; clear n0_; (try clear hb); (try clear hb2); (try clear hk); (try clear hi)) | ((with_reducible refine gate_callee (f := 9) rfl ?_); refine goesL_ (some 20) rfl rfl Tryd.func9 (by kernel_rfl) rfl #[.string (⟨#[49, 48, 50, 52, 84, 105]⟩ : ByteArray)] rfl (by (try simp only [List.map_toArray, List.map_cons, List.map_nil]); first | done | rfl | (simp only [List.length_drop, List.length_take]; rfl)) ?_; (with_reducible refine (suffix_ParseBytes.calls k (⟨#[49, 48, 50, 52, 84, 105]⟩ : ByteArray) t143 t144 _ ?side1 A3.out).mono ?_); (case side1 => exact Vars_below HV.out (by repeat (first | (with_reducible first | exact HB.out | apply below_alloc | apply pw_below_drewN | apply below_drew1) | exact HB.out))); rintro e w15 ⟨rfl, hb⟩; refine ⟨_, rfl, ?_⟩; have n0_ := Aside0.mk (below_step (by repeat (first | (with_reducible first | exact HB.out | apply below_alloc | apply pw_below_drewN | apply below_drew1) | exact HB.out)) hb); clear HB; have HB := n0_; clear n0_; (try clear hb); (try clear hb2); (try clear hk); (try clear hi)) | ((with_reducible refine gate_callee (f := 10) rfl ?_); refine goesL_ (some 24) rfl rfl Tryd.func10 (by kernel_rfl) rfl #[.string (⟨#[49, 46, 48, 48, 48, 48, 48, 48, 48]⟩ : ByteArray)] rfl (by (try simp only [List.map_toArray, List.map_cons, List.map_nil]); first | done | rfl | (simp only [List.length_drop, List.length_take]; rfl)) ?_; (with_reducible refine (suffix_ParseMoney.calls (⟨#[49, 46, 48, 48, 48, 48, 48, 48, 48]⟩ : ByteArray) t145 t146 _ ?side1 A4.out).mono ?_); (case side1 => exact Vars_below HV.out (by repeat (first | (with_reducible first | exact HB.out | apply below_alloc | apply pw_below_drewN | apply below_drew1) | exact HB.out))); rintro e w16 ⟨rfl, hb⟩; refine ⟨_, rfl, ?_⟩; have n0_ := Aside0.mk (below_step (by repeat (first | (with_reducible first | exact HB.out | apply below_alloc | apply pw_below_drewN | apply below_drew1) | exact HB.out)) hb); clear HB; have HB := n0_; clear n0_; (try clear hb); (try clear hb2); (try clear hk); (try clear hi)) | ((with_reducible refine gate_callee (f := 11) rfl ?_); refine goesL_ (some 28) rfl rfl Tryd.func11 (by kernel_rfl) rfl #[.int .i64 (-1)] rfl (by (try simp only [List.map_toArray, List.map_cons, List.map_nil]); first | done | rfl | (simp only [List.length_drop, List.length_take]; rfl)) ?_; (with_reducible refine (suffix_PrintMoney.calls (-1) t147 t148 _ ?side1 A5.out).mono ?_); (case side1 => exact Vars_below HV.out (by repeat (first | (with_reducible first | exact HB.out | apply below_alloc | apply pw_below_drewN | apply below_drew1) | exact HB.out))); rintro e w17 ⟨rfl, hb⟩; refine ⟨_, rfl, ?_⟩; have n0_ := Aside0.mk (below_step (by repeat (first | (with_reducible first | exact HB.out | apply below_alloc | apply pw_below_drewN | apply below_drew1) | exact HB.out)) hb); clear HB; have HB := n0_; clear n0_; (try clear hb); (try clear hb2); (try clear hk); (try clear hi)) | (go_at_call 12; (with_reducible refine (sutlerlaw02_live.calls k  true _ ?side1 A6.out).mono ?_); (case side1 => exact Vars_below HV.out (by repeat (first | (with_reducible first | exact HB.out | apply below_alloc | apply pw_below_drewN | apply below_drew1) | exact HB.out))); rintro e w18 ⟨rfl, hb⟩; have n0_ := Aside0.mk (below_step (by repeat (first | (with_reducible first | exact HB.out | apply below_alloc | apply pw_below_drewN | apply below_drew1) | exact HB.out)) hb); clear HB; have HB := n0_; clear n0_; (try clear hb); (try clear hb2); (try clear hk); (try clear hi)))
       go_ret
       exact ⟨by first | rfl | (simp [errW_none, errW_some] <;> rfl) | (simp [*, errW_none, errW_some] <;> rfl), by repeat (first | (with_reducible first | exact HB.out | apply below_alloc | apply pw_below_drewN | apply below_drew1) | exact HB.out)⟩
      ·rw [if_neg c12] at H
       have c12b0 : (t146 == 20) = false := beq_eq_false_iff_ne.mpr c12
       have c12b1 : (t146 != 20) = true := bne_iff_ne.mpr c12
       exact absurd ((Option.some.inj H).trans hrT_) (by decide)
     ·rw [if_neg c11] at H
      have c11b0 : (t144 == 0) = false := beq_eq_false_iff_ne.mpr c11
      have c11b1 : (t144 != 0) = true := bne_iff_ne.mpr c11
      exact absurd ((Option.some.inj H).trans hrT_) (by decide)
    ·rw [if_neg c10] at H
     have c10b0 : (t143 == 1125899906842624) = false := beq_eq_false_iff_ne.mpr c10
     have c10b1 : (t143 != 1125899906842624) = true := bne_iff_ne.mpr c10
     exact absurd ((Option.some.inj H).trans hrT_) (by decide)
   ·rw [if_neg c9] at H
    have c9b0 : (t142 == 10) = false := beq_eq_false_iff_ne.mpr c9
    have c9b1 : (t142 != 10) = true := bne_iff_ne.mpr c9
    exact absurd ((Option.some.inj H).trans hrT_) (by decide)
  ·rw [if_neg c8] at H
   have c8b0 : (t140 == 20) = false := beq_eq_false_iff_ne.mpr c8
   have c8b1 : (t140 != 20) = true := bne_iff_ne.mpr c8
   exact absurd ((Option.some.inj H).trans hrT_) (by decide)
 ·replace c7 := Bool.eq_false_iff.mpr c7
  subst c7
  have H1 : (some false) = some r := by rw [if_neg (show ¬ (false = true) by decide)] at H; exact H
  clear H
  have H := H1
  clear H1
  exact absurd ((Option.some.inj H).trans hrT_) (by decide)

/-! ### sutlerref02_without: function 31 -/
def sutlerref02_without.f (a0 : ByteArray) (a1 : ByteArray) : Option (ByteArray × Bool) := if (wrap64 ((a0.size : Int) - (a1.size : Int))) < 0 then (some (a0, false)) else (if 0 ≤ (wrap64 ((a0.size : Int) - (a1.size : Int))) then (if (wrap64 ((a0.size : Int) - (a1.size : Int))) ≤ (a0.size : Int) then (if (a0.extract ((wrap64 ((a0.size : Int) - (a1.size : Int))) : Int).toNat a0.size).toList = a1.toList then (some (a0.extract 0 ((wrap64 ((a0.size : Int) - (a1.size : Int))) : Int).toNat, true)) else (some (a0, false))) else (none)) else (none))
set_option maxHeartbeats 8000000 in
set_option maxRecDepth 100000 in
theorem sutlerref02_without.calls (a0 : ByteArray) (a1 : ByteArray) (r1 : ByteArray) (r2 : Bool) (w : World) (h : sutlerref02_without.f a0 a1 = some (r1, r2)) :
  Calls Tryd.prog 31 #[.string a0, .string a1] w fun e w' => e = .returned (.tuple #[.string r1, .bool r2]) ∧ Drawn0 w w' := by
 have H : (if (wrap64 ((a0.size : Int) - (a1.size : Int))) < 0 then (some (a0, false)) else (if 0 ≤ (wrap64 ((a0.size : Int) - (a1.size : Int))) then (if (wrap64 ((a0.size : Int) - (a1.size : Int))) ≤ (a0.size : Int) then (if (a0.extract ((wrap64 ((a0.size : Int) - (a1.size : Int))) : Int).toNat a0.size).toList = a1.toList then (some (a0.extract 0 ((wrap64 ((a0.size : Int) - (a1.size : Int))) : Int).toNat, true)) else (some (a0, false))) else (none)) else (none))) = some (r1, r2) := h
 clear h
 by_cases c3 : (wrap64 ((a0.size : Int) - (a1.size : Int))) < 0
 ·rw [if_pos c3] at H
  have c3b0 : decide ((wrap64 ((a0.size : Int) - (a1.size : Int))) < 0) = true := decide_eq_true c3
  clear c3
  simp only [Option.some.injEq, Prod.mk.injEq] at H
  obtain ⟨rfl, rfl⟩ := H
  go_enter Tryd.func31, Tryd.ntmps31
  go_wp2
  go_ret2
  exact ⟨by first | rfl | (simp; done) | (simp [*]; done) | (simp [ne_nil_]; done), by repeat (first | exact Drawn0.refl _ | apply Drawn0.step)⟩
 ·rw [if_neg c3] at H
  have c3b0 : decide ((wrap64 ((a0.size : Int) - (a1.size : Int))) < 0) = false := decide_eq_false c3
  clear c3
  obtain ⟨ji4, hji4⟩ : ∃ j_ : Int, (wrap64 ((a0.size : Int) - (a1.size : Int))) = j_ := ⟨_, rfl⟩
  replace H : (if 0 ≤ (ji4) then (if (ji4) ≤ (a0.size : Int) then (if (a0.extract ((ji4) : Int).toNat a0.size).toList = a1.toList then (some (a0.extract 0 ((ji4) : Int).toNat, true)) else (some (a0, false))) else (none)) else (none)) = some (r1, r2) := by first | (rw [hji4] at H; exact H) | (simp only [hji4] at H ⊢; exact H)
  (try rw [hji4] at c3b0)
  have hji4w : (IntKind.i64.wrap ((a0.size : Int) - (a1.size : Int))) = ji4 := (i64_w _).trans hji4
  by_cases c5 : 0 ≤ (ji4)
  ·rw [if_pos c5] at H
   have c5b0 := eq_true c5
   have c5b1 : decide (0 ≤ (ji4)) = true := decide_eq_true c5
   clear c5
   by_cases c6 : (ji4) ≤ (a0.size : Int)
   ·rw [if_pos c6] at H
    have c6b0 := eq_true c6
    have c6b1 : decide ((ji4) ≤ (a0.size : Int)) = true := decide_eq_true c6
    clear c6
    by_cases c7 : (a0.extract ((ji4) : Int).toNat a0.size).toList = a1.toList
    ·rw [if_pos c7] at H
     have c7b0 : ((a0.extract ((ji4) : Int).toNat a0.size).toList == a1.toList) = true := beq_iff_eq.mpr c7
     have c7b1 : ((a0.extract ((ji4) : Int).toNat a0.size).toList != a1.toList) = false := bne_eq_false_iff_eq.mpr c7
     clear c7
     have c8b0 := eq_true (of_decide_eq_true (by first | (with_reducible assumption) | assumption) : 0 ≤ (ji4))
     have c9b0 := eq_true (of_decide_eq_true (by first | (with_reducible assumption) | assumption) : (ji4) ≤ (a0.size : Int))
     simp only [Option.some.injEq, Prod.mk.injEq] at H
     obtain ⟨rfl, rfl⟩ := H
     go_enter Tryd.func31, Tryd.ntmps31
     go_wp2
     go_ret2
     exact ⟨by first | rfl | (simp; done) | (simp only [← hji4] <;> (first | rfl | simp)) | (simp [*]; done) | (simp [ne_nil_]; done), by repeat (first | exact Drawn0.refl _ | apply Drawn0.step)⟩
    ·rw [if_neg c7] at H
     have c7b0 : ((a0.extract ((ji4) : Int).toNat a0.size).toList == a1.toList) = false := beq_eq_false_iff_ne.mpr c7
     have c7b1 : ((a0.extract ((ji4) : Int).toNat a0.size).toList != a1.toList) = true := bne_iff_ne.mpr c7
     simp only [Option.some.injEq, Prod.mk.injEq] at H
     obtain ⟨rfl, rfl⟩ := H
     go_enter Tryd.func31, Tryd.ntmps31
     go_wp2
     go_ret2
     exact ⟨by first | rfl | (simp; done) | (simp only [← hji4] <;> (first | rfl | simp)) | (simp [*]; done) | (simp [ne_nil_]; done), by repeat (first | exact Drawn0.refl _ | apply Drawn0.step)⟩
   ·rw [if_neg c6] at H
    exact absurd H (by simp)
  ·rw [if_neg c5] at H
   exact absurd H (by simp)

end Go.Proofs.YtafncdmclhdkdaaDoor.PAll
