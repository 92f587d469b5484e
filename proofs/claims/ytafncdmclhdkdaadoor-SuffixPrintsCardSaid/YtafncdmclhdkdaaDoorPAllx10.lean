-- written by a program of this session (the kit's print, turned): plain functions and their contracts
-- shrunk
import Derived.Test.YtafncdmclhdkdaaDoorPAllx0
import Derived.Test.YtafncdmclhdkdaaDoorPAllx1
import Derived.Test.YtafncdmclhdkdaaDoorPAllx2
import Derived.Test.YtafncdmclhdkdaaDoorPAllx3
import Derived.Test.YtafncdmclhdkdaaDoorPAllx8
import Derived.Test.YtafncdmclhdkdaaDoorPAllx9
namespace Go.Proofs.YtafncdmclhdkdaaDoor.PAll
open Go.RowKit Go.Proofs.YtafncdmclhdkdaaDoorW.PrintWords Go.Proofs.YtafncdmclhdkdaaDoorW.PrintLast Go.Proofs.YtafncdmclhdkdaaDoorW.PrintMore
attribute [local go_sem] max2_int min2_int max_two min_two max_three min_three max_four min_four   -- for this text's walks alone
set_option linter.unusedVariables false
set_option linter.unusedSimpArgs false

/-! ### sutlerlaw02_SuffixPrints: function 5 -/
def sutlerlaw02_SuffixPrints.f (k : Nat) (a0 : Int) : Option (Bool) := (suffix_PrintCPU.f a0).bind fun bt204 => ((sutlerref02_PrintCPU.f k a0).bind fun bt206 => ((suffix_PrintBytes.f k a0).bind fun bt208 => ((sutlerref02_PrintBytes.f k a0).bind fun bt210 => ((suffix_PrintMoney.f a0).bind fun bt212 => ((sutlerref02_PrintMoney.f k a0).bind fun bt214 => ((sutlerlaw02_live.f k).bind fun t216 => (if t216 = true then (if bt204.1.toList = bt206.1.toList then (if bt204.2 = bt206.2 then (if bt208.1.toList = bt210.1.toList then (if bt208.2 = bt210.2 then (if bt212.1.toList = bt214.1.toList then (some (bt212.2 == bt214.2)) else (some false)) else (some false)) else (some false)) else (some false)) else (some false)) else (some false))))))))
theorem sutlerlaw02_SuffixPrints.mono : ∀ a0 k, LeO (sutlerlaw02_SuffixPrints.f k a0) (sutlerlaw02_SuffixPrints.f (k + 1) a0) := by
 intro a0 k
 unfold sutlerlaw02_SuffixPrints.f
 repeat' first
   | (with_reducible exact suffix_PrintBytes.mono _ _)
   | (with_reducible exact sutlerlaw02_live.mono _)
   | (with_reducible exact sutlerref02_PrintBytes.mono _ _)
   | (with_reducible exact sutlerref02_PrintCPU.mono _ _)
   | (with_reducible exact sutlerref02_PrintMoney.mono _ _)
   | (with_reducible exact LeO.refl _)
   | (with_reducible exact LeO.none _)
   | (with_reducible refine LeO.ite ?_ ?_)
   | (with_reducible refine LeO.bind ?_ (fun _ => ?_))
   | exact suffix_PrintBytes.mono _ _
   | exact sutlerlaw02_live.mono _
   | exact sutlerref02_PrintBytes.mono _ _
   | exact sutlerref02_PrintCPU.mono _ _
   | exact sutlerref02_PrintMoney.mono _ _
   | exact LeO.none _
   | refine LeO.ite ?_ ?_
   | refine LeO.bind ?_ (fun _ => ?_)
set_option maxHeartbeats 8000000 in
set_option maxRecDepth 100000 in
theorem sutlerlaw02_SuffixPrints.calls (k : Nat) (a0 : Int) (r : Bool) (w : World) (hg : Vars w) (h : sutlerlaw02_SuffixPrints.f k a0 = some r) (hrT_ : r = true := by rfl) :
  Calls Tryd.prog 5 #[.int .i64 a0] w fun e w' => e = .returned (.bool r) ∧ Below w.heap.size w w' := by
 have HB := Aside0.mk (Below.refl w.heap.size w)
 have HV := Aside0.mk hg
 clear hg
 have H : ((suffix_PrintCPU.f a0).bind fun bt204 => ((sutlerref02_PrintCPU.f k a0).bind fun bt206 => ((suffix_PrintBytes.f k a0).bind fun bt208 => ((sutlerref02_PrintBytes.f k a0).bind fun bt210 => ((suffix_PrintMoney.f a0).bind fun bt212 => ((sutlerref02_PrintMoney.f k a0).bind fun bt214 => ((sutlerlaw02_live.f k).bind fun t216 => (if t216 = true then (if bt204.1.toList = bt206.1.toList then (if bt204.2 = bt206.2 then (if bt208.1.toList = bt210.1.toList then (if bt208.2 = bt210.2 then (if bt212.1.toList = bt214.1.toList then (some (bt212.2 == bt214.2)) else (some false)) else (some false)) else (some false)) else (some false)) else (some false)) else (some false))))))))) = some r := h
 clear h
 replace H := Option.bind_eq_some_iff.mp H
 obtain ⟨⟨t204, t205⟩, A20, H⟩ := H
 replace H : ((sutlerref02_PrintCPU.f k a0).bind fun bt206 => ((suffix_PrintBytes.f k a0).bind fun bt208 => ((sutlerref02_PrintBytes.f k a0).bind fun bt210 => ((suffix_PrintMoney.f a0).bind fun bt212 => ((sutlerref02_PrintMoney.f k a0).bind fun bt214 => ((sutlerlaw02_live.f k).bind fun t216 => (if t216 = true then (if t204.toList = bt206.1.toList then (if t205 = bt206.2 then (if bt208.1.toList = bt210.1.toList then (if bt208.2 = bt210.2 then (if bt212.1.toList = bt214.1.toList then (some (bt212.2 == bt214.2)) else (some false)) else (some false)) else (some false)) else (some false)) else (some false)) else (some false)))))))) = some r := H
 have A2 := Aside0.mk A20
 clear A20
 replace H := Option.bind_eq_some_iff.mp H
 obtain ⟨⟨t206, t207⟩, A30, H⟩ := H
 replace H : ((suffix_PrintBytes.f k a0).bind fun bt208 => ((sutlerref02_PrintBytes.f k a0).bind fun bt210 => ((suffix_PrintMoney.f a0).bind fun bt212 => ((sutlerref02_PrintMoney.f k a0).bind fun bt214 => ((sutlerlaw02_live.f k).bind fun t216 => (if t216 = true then (if t204.toList = t206.toList then (if t205 = t207 then (if bt208.1.toList = bt210.1.toList then (if bt208.2 = bt210.2 then (if bt212.1.toList = bt214.1.toList then (some (bt212.2 == bt214.2)) else (some false)) else (some false)) else (some false)) else (some false)) else (some false)) else (some false))))))) = some r := H
 have A3 := Aside0.mk A30
 clear A30
 replace H := Option.bind_eq_some_iff.mp H
 obtain ⟨⟨t208, t209⟩, A40, H⟩ := H
 replace H : ((sutlerref02_PrintBytes.f k a0).bind fun bt210 => ((suffix_PrintMoney.f a0).bind fun bt212 => ((sutlerref02_PrintMoney.f k a0).bind fun bt214 => ((sutlerlaw02_live.f k).bind fun t216 => (if t216 = true then (if t204.toList = t206.toList then (if t205 = t207 then (if t208.toList = bt210.1.toList then (if t209 = bt210.2 then (if bt212.1.toList = bt214.1.toList then (some (bt212.2 == bt214.2)) else (some false)) else (some false)) else (some false)) else (some false)) else (some false)) else (some false)))))) = some r := H
 have A4 := Aside0.mk A40
 clear A40
 replace H := Option.bind_eq_some_iff.mp H
 obtain ⟨⟨t210, t211⟩, A50, H⟩ := H
 replace H : ((suffix_PrintMoney.f a0).bind fun bt212 => ((sutlerref02_PrintMoney.f k a0).bind fun bt214 => ((sutlerlaw02_live.f k).bind fun t216 => (if t216 = true then (if t204.toList = t206.toList then (if t205 = t207 then (if t208.toList = t210.toList then (if t209 = t211 then (if bt212.1.toList = bt214.1.toList then (some (bt212.2 == bt214.2)) else (some false)) else (some false)) else (some false)) else (some false)) else (some false)) else (some false))))) = some r := H
 have A5 := Aside0.mk A50
 clear A50
 replace H := Option.bind_eq_some_iff.mp H
 obtain ⟨⟨t212, t213⟩, A60, H⟩ := H
 replace H : ((sutlerref02_PrintMoney.f k a0).bind fun bt214 => ((sutlerlaw02_live.f k).bind fun t216 => (if t216 = true then (if t204.toList = t206.toList then (if t205 = t207 then (if t208.toList = t210.toList then (if t209 = t211 then (if t212.toList = bt214.1.toList then (some (t213 == bt214.2)) else (some false)) else (some false)) else (some false)) else (some false)) else (some false)) else (some false)))) = some r := H
 have A6 := Aside0.mk A60
 clear A60
 replace H := Option.bind_eq_some_iff.mp H
 obtain ⟨⟨t214, t215⟩, A70, H⟩ := H
 replace H : ((sutlerlaw02_live.f k).bind fun t216 => (if t216 = true then (if t204.toList = t206.toList then (if t205 = t207 then (if t208.toList = t210.toList then (if t209 = t211 then (if t212.toList = t214.toList then (some (t213 == t215)) else (some false)) else (some false)) else (some false)) else (some false)) else (some false)) else (some false))) = some r := H
 have A7 := Aside0.mk A70
 clear A70
 replace H := Option.bind_eq_some_iff.mp H
 obtain ⟨t216, A80, H⟩ := H
 replace H : (if t216 = true then (if t204.toList = t206.toList then (if t205 = t207 then (if t208.toList = t210.toList then (if t209 = t211 then (if t212.toList = t214.toList then (some (t213 == t215)) else (some false)) else (some false)) else (some false)) else (some false)) else (some false)) else (some false)) = some r := H
 have A8 := Aside0.mk A80
 clear A80
 by_cases c9 : t216 = true
 ·subst c9
  have H1 : (if t204.toList = t206.toList then (if t205 = t207 then (if t208.toList = t210.toList then (if t209 = t211 then (if t212.toList = t214.toList then (some (t213 == t215)) else (some false)) else (some false)) else (some false)) else (some false)) else (some false)) = some r := by rw [if_pos rfl] at H; exact H
  clear H
  have H := H1
  clear H1
  by_cases c10 : t204.toList = t206.toList
  ·rw [if_pos c10] at H
   have c10b0 : (t204.toList == t206.toList) = true := beq_iff_eq.mpr c10
   have c10b1 : (t204.toList != t206.toList) = false := bne_eq_false_iff_eq.mpr c10
   clear c10
   by_cases c11 : t205 = t207
   ·rw [if_pos c11] at H
    have c11b0 : (t205 == t207) = true := beq_iff_eq.mpr c11
    have c11b1 : (t205 != t207) = false := bne_eq_false_iff_eq.mpr c11
    clear c11
    by_cases c12 : t208.toList = t210.toList
    ·rw [if_pos c12] at H
     have c12b0 : (t208.toList == t210.toList) = true := beq_iff_eq.mpr c12
     have c12b1 : (t208.toList != t210.toList) = false := bne_eq_false_iff_eq.mpr c12
     clear c12
     by_cases c13 : t209 = t211
     ·rw [if_pos c13] at H
      have c13b0 : (t209 == t211) = true := beq_iff_eq.mpr c13
      have c13b1 : (t209 != t211) = false := bne_eq_false_iff_eq.mpr c13
      clear c13
      by_cases c14 : t212.toList = t214.toList
      ·rw [if_pos c14] at H
       have c14b0 : (t212.toList == t214.toList) = true := beq_iff_eq.mpr c14
       have c14b1 : (t212.toList != t214.toList) = false := bne_eq_false_iff_eq.mpr c14
       clear c14
       obtain rfl := Option.some.inj H
       go_enter Tryd.func5, Tryd.ntmps5
       go_wp2_with (first | ((with_reducible refine gate_callee (f := 16) rfl ?_); refine goesL_ (some 17) rfl rfl Tryd.func16 (by kernel_rfl) rfl #[.int .i64 a0] rfl (by (try simp only [List.map_toArray, List.map_cons, List.map_nil]); first | done | rfl | (simp only [List.length_drop, List.length_take]; rfl)) ?_; (with_reducible refine (suffix_PrintCPU.calls a0 t204 t205 _ ?side1 A2.out).mono ?_); (case side1 => exact Vars_below HV.out (by repeat (first | (with_reducible first | exact HB.out | apply below_alloc | apply pw_below_drewN | apply below_drew1) | exact HB.out))); rintro e w15 ⟨rfl, hb⟩; refine ⟨_, rfl, ?_⟩; have n0_ := Aside0.mk (below_step (by repeat (first | (with_reducible first | exact HB.out | apply below_alloc | apply pw_below_drewN | apply below_drew1) | exact HB.out)) hb); clear HB; have HB := n0_; clear n0_; (try clear hb); (try clear hb2); (try clear hk); (try clear hi)) | ((with_reducible refine gate_callee (f := 17) rfl ?_); refine goesL_ (some 22) rfl rfl Tryd.func17 (by kernel_rfl) rfl #[.int .i64 a0] rfl (by (try simp only [List.map_toArray, List.map_cons, List.map_nil]); first | done | rfl | (simp only [List.length_drop, List.length_take]; rfl)) ?_; (with_reducible refine (sutlerref02_PrintCPU.calls k a0 t206 t207 _ A3.out).mono ?_); rintro e w16 ⟨rfl, hb⟩; refine ⟨_, rfl, ?_⟩; have n0_ := Aside0.mk (below_step (by repeat (first | (with_reducible first | exact HB.out | apply below_alloc | apply pw_below_drewN | apply below_drew1) | exact HB.out)) hb); clear HB; have HB := n0_; clear n0_; (try clear hb); (try clear hb2); (try clear hk); (try clear hi)) | ((with_reducible refine gate_callee (f := 18) rfl ?_); refine goesL_ (some 27) rfl rfl Tryd.func18 (by kernel_rfl) rfl #[.int .i64 a0] rfl (by (try simp only [List.map_toArray, List.map_cons, List.map_nil]); first | done | rfl | (simp only [List.length_drop, List.length_take]; rfl)) ?_; (with_reducible refine (suffix_PrintBytes.calls k a0 t208 t209 _ ?side1 A4.out).mono ?_); (case side1 => exact Vars_below HV.out (by repeat (first | (with_reducible first | exact HB.out | apply below_alloc | apply pw_below_drewN | apply below_drew1) | exact HB.out))); rintro e w17 ⟨rfl, hb⟩; refine ⟨_, rfl, ?_⟩; have n0_ := Aside0.mk (below_step (by repeat (first | (with_reducible first | exact HB.out | apply below_alloc | apply pw_below_drewN | apply below_drew1) | exact HB.out)) hb); clear HB; have HB := n0_; clear n0_; (try clear hb); (try clear hb2); (try clear hk); (try clear hi)) | ((with_reducible refine gate_callee (f := 19) rfl ?_); refine goesL_ (some 32) rfl rfl Tryd.func19 (by kernel_rfl) rfl #[.int .i64 a0] rfl (by (try simp only [List.map_toArray, List.map_cons, List.map_nil]); first | done | rfl | (simp only [List.length_drop, List.length_take]; rfl)) ?_; (with_reducible refine (sutlerref02_PrintBytes.calls k a0 t210 t211 _ A5.out).mono ?_); rintro e w18 ⟨rfl, hb⟩; refine ⟨_, rfl, ?_⟩; have n0_ := Aside0.mk (below_step (by repeat (first | (with_reducible first | exact HB.out | apply below_alloc | apply pw_below_drewN | apply below_drew1) | exact HB.out)) hb); clear HB; have HB := n0_; clear n0_; (try clear hb); (try clear hb2); (try clear hk); (try clear hi)) | ((with_reducible refine gate_callee (f := 11) rfl ?_); refine goesL_ (some 37) rfl rfl Tryd.func11 (by kernel_rfl) rfl #[.int .i64 a0] rfl (by (try simp only [List.map_toArray, List.map_cons, List.map_nil]); first | done | rfl | (simp only [List.length_drop, List.length_take]; rfl)) ?_; (with_reducible refine (suffix_PrintMoney.calls a0 t212 t213 _ ?side1 A6.out).mono ?_); (case side1 => exact Vars_below HV.out (by repeat (first | (with_reducible first | exact HB.out | apply below_alloc | apply pw_below_drewN | apply below_drew1) | exact HB.out))); rintro e w19 ⟨rfl, hb⟩; refine ⟨_, rfl, ?_⟩; have n0_ := Aside0.mk (below_step (by repeat (first | (with_reducible first | exact HB.out | apply below_alloc | apply pw_below_drewN | apply below_drew1) | exact HB.out)) hb); clear HB; have HB := n0_; clear n0_; (try clear hb); (try clear hb2); (try clear hk); (try clear hi)) | ((with_reducible refine gate_callee (f := 20) rfl ?_); refine goesL_ (some 42) rfl rfl Tryd.func20 (by kernel_rfl) rfl #[.int .i64 a0] rfl (by (try simp only [List.map_toArray, List.map_cons, List.map_nil]); first | done | rfl | (simp only [List.length_drop, List.length_take]; rfl)) ?_; (with_reducible refine (sutlerref02_PrintMoney.calls k a0 t214 t215 _ A7.out).mono ?_); rintro e w20 ⟨rfl, hb⟩; refine ⟨_, rfl, ?_⟩; have n0_ := Aside0.mk (below_step (by repeat (first | (with_reducible first | exact HB.out | apply below_alloc | apply pw_below_drewN | apply below_drew1) | exact HB.out)) hb); clear HB; have HB := n0_; clear n0_; (try clear hb); (try clear hb2); (try clear hk); (try clear hi)) | ((with_reducible refine gate_callee (f := 12) rfl ?_); refine goesL_ (some 45) rfl rfl Tryd.func12 (by kernel_rfl) rfl #[] rfl (by (try simp only [List.map_toArray, List.map_cons, List.map_nil]); first | done | rfl | (simp only [List.length_drop, List.length_take]; rfl)) ?_; (with_reducible refine (sutlerlaw02_live.calls k  true _ ?side1 A8.out).mono ?_); (case side1 => exact Vars_below HV.out (by repeat (first | (with_reducible first | exact HB.out | apply below_alloc | apply pw_below_drewN | apply below_drew1) | exact HB.out))); rintro e w21 ⟨rfl, hb⟩; refine ⟨_, rfl, ?_⟩; have n0_ := Aside0.mk (below_step (by repeat (first | (with_reducible first | exact HB.out | apply below_alloc | apply pw_below_drewN | apply below_drew1) | exact HB.out)) hb); clear HB; have HB := n0_; clear n0_; (try clear hb); (try clear hb2); (try clear hk); (try clear hi)))
       go_ret
       exact ⟨by first | rfl | (simp [errW_none, errW_some] <;> rfl) | (simp [*, errW_none, errW_some] <;> rfl), by repeat (first | (with_reducible first | exact HB.out | apply below_alloc | apply pw_below_drewN | apply below_drew1) | exact HB.out)⟩
      ·rw [if_neg c14] at H
       have c14b0 : (t212.toList == t214.toList) = false := beq_eq_false_iff_ne.mpr c14
       have c14b1 : (t212.toList != t214.toList) = true := bne_iff_ne.mpr c14
       exact absurd ((Option.some.inj H).trans hrT_) (by decide)
     ·rw [if_neg c13] at H
      have c13b0 : (t209 == t211) = false := beq_eq_false_iff_ne.mpr c13
      have c13b1 : (t209 != t211) = true := bne_iff_ne.mpr c13
      exact absurd ((Option.some.inj H).trans hrT_) (by decide)
    ·rw [if_neg c12] at H
     have c12b0 : (t208.toList == t210.toList) = false := beq_eq_false_iff_ne.mpr c12
     have c12b1 : (t208.toList != t210.toList) = true := bne_iff_ne.mpr c12
     exact absurd ((Option.some.inj H).trans hrT_) (by decide)
   ·rw [if_neg c11] at H
    have c11b0 : (t205 == t207) = false := beq_eq_false_iff_ne.mpr c11
    have c11b1 : (t205 != t207) = true := bne_iff_ne.mpr c11
    exact absurd ((Option.some.inj H).trans hrT_) (by decide)
  ·rw [if_neg c10] at H
   have c10b0 : (t204.toList == t206.toList) = false := beq_eq_false_iff_ne.mpr c10
   have c10b1 : (t204.toList != t206.toList) = true := bne_iff_ne.mpr c10
   exact absurd ((Option.some.inj H).trans hrT_) (by decide)
 ·replace c9 := Bool.eq_false_iff.mpr c9
  subst c9
  have H1 : (some false) = some r := by rw [if_neg (show ¬ (false = true) by decide)] at H; exact H
  clear H
  have H := H1
  clear H1
  exact absurd ((Option.some.inj H).trans hrT_) (by decide)

-- NOT PRINTED: function 21 (sutlerlaw02_again)

end Go.Proofs.YtafncdmclhdkdaaDoor.PAll
