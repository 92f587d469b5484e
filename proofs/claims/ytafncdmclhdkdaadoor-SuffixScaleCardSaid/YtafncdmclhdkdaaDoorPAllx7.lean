-- written by a program of this session (the kit's print, turned): plain functions and their contracts
-- shrunk
import Derived.Test.YtafncdmclhdkdaaDoorPAllx0
import Derived.Test.YtafncdmclhdkdaaDoorPAllx1
import Derived.Test.YtafncdmclhdkdaaDoorPAllx3
import Derived.Test.YtafncdmclhdkdaaDoorPAllx5
import Derived.Test.YtafncdmclhdkdaaDoorPAllx6
import Derived.Test.YtafncdmclhdkdaaDoorEMoney
namespace Go.Proofs.YtafncdmclhdkdaaDoor.PAll
open Go.RowKit Go.Proofs.YtafncdmclhdkdaaDoorW.PrintWords Go.Proofs.YtafncdmclhdkdaaDoorW.PrintLast Go.Proofs.YtafncdmclhdkdaaDoorW.PrintMore
attribute [local go_sem] max2_int min2_int max_two min_two max_three min_three max_four min_four   -- for this text's walks alone
set_option linter.unusedVariables false
set_option linter.unusedSimpArgs false

/-! ### sutlerlaw02_SuffixParses: function 4 -/
def sutlerlaw02_SuffixParses.f (k : Nat) (a0 : ByteArray) : Option (Bool) := (suffix_ParseCPU.f a0).bind fun bt174 => ((sutlerref02_ParseCPU.f k a0).bind fun bt176 => ((suffix_ParseBytes.f k a0).bind fun bt178 => ((sutlerref02_ParseBytes.f k a0).bind fun bt180 => ((suffix_ParseMoney.f a0).bind fun bt182 => ((sutlerref02_ParseMoney.f k a0).bind fun bt184 => ((sutlerlaw02_live.f k).bind fun t186 => (if t186 = true then (if bt174.1 = bt176.1 then (if bt174.2 = bt176.2 then (if bt178.1 = bt180.1 then (if bt178.2 = bt180.2 then (if bt182.1 = bt184.1 then (some (bt182.2 == bt184.2)) else (some false)) else (some false)) else (some false)) else (some false)) else (some false)) else (some false))))))))
theorem sutlerlaw02_SuffixParses.mono : ∀ a0 k, LeO (sutlerlaw02_SuffixParses.f k a0) (sutlerlaw02_SuffixParses.f (k + 1) a0) := by
 intro a0 k
 unfold sutlerlaw02_SuffixParses.f
 repeat' first
   | (with_reducible exact suffix_ParseBytes.mono _ _)
   | (with_reducible exact sutlerlaw02_live.mono _)
   | (with_reducible exact sutlerref02_ParseBytes.mono _ _)
   | (with_reducible exact sutlerref02_ParseCPU.mono _ _)
   | (with_reducible exact sutlerref02_ParseMoney.mono _ _)
   | (with_reducible exact LeO.refl _)
   | (with_reducible exact LeO.none _)
   | (with_reducible refine LeO.ite ?_ ?_)
   | (with_reducible refine LeO.bind ?_ (fun _ => ?_))
   | exact suffix_ParseBytes.mono _ _
   | exact sutlerlaw02_live.mono _
   | exact sutlerref02_ParseBytes.mono _ _
   | exact sutlerref02_ParseCPU.mono _ _
   | exact sutlerref02_ParseMoney.mono _ _
   | exact LeO.none _
   | refine LeO.ite ?_ ?_
   | refine LeO.bind ?_ (fun _ => ?_)
set_option maxHeartbeats 8000000 in
set_option maxRecDepth 100000 in
theorem sutlerlaw02_SuffixParses.calls (k : Nat) (a0 : ByteArray) (r : Bool) (w : World) (hg : Vars w) (h : sutlerlaw02_SuffixParses.f k a0 = some r) (hrT_ : r = true := by rfl) :
  Calls Tryd.prog 4 #[.string a0] w fun e w' => e = .returned (.bool r) ∧ Below w.heap.size w w' := by
 have HB := Aside0.mk (Below.refl w.heap.size w)
 have HV := Aside0.mk hg
 clear hg
 have H : ((suffix_ParseCPU.f a0).bind fun bt174 => ((sutlerref02_ParseCPU.f k a0).bind fun bt176 => ((suffix_ParseBytes.f k a0).bind fun bt178 => ((sutlerref02_ParseBytes.f k a0).bind fun bt180 => ((suffix_ParseMoney.f a0).bind fun bt182 => ((sutlerref02_ParseMoney.f k a0).bind fun bt184 => ((sutlerlaw02_live.f k).bind fun t186 => (if t186 = true then (if bt174.1 = bt176.1 then (if bt174.2 = bt176.2 then (if bt178.1 = bt180.1 then (if bt178.2 = bt180.2 then (if bt182.1 = bt184.1 then (some (bt182.2 == bt184.2)) else (some false)) else (some false)) else (some false)) else (some false)) else (some false)) else (some false))))))))) = some r := h
 clear h
 replace H := Option.bind_eq_some_iff.mp H
 obtain ⟨⟨t174, t175⟩, A20, H⟩ := H
 replace H : ((sutlerref02_ParseCPU.f k a0).bind fun bt176 => ((suffix_ParseBytes.f k a0).bind fun bt178 => ((sutlerref02_ParseBytes.f k a0).bind fun bt180 => ((suffix_ParseMoney.f a0).bind fun bt182 => ((sutlerref02_ParseMoney.f k a0).bind fun bt184 => ((sutlerlaw02_live.f k).bind fun t186 => (if t186 = true then (if t174 = bt176.1 then (if t175 = bt176.2 then (if bt178.1 = bt180.1 then (if bt178.2 = bt180.2 then (if bt182.1 = bt184.1 then (some (bt182.2 == bt184.2)) else (some false)) else (some false)) else (some false)) else (some false)) else (some false)) else (some false)))))))) = some r := H
 have A2 := Aside0.mk A20
 clear A20
 replace H := Option.bind_eq_some_iff.mp H
 obtain ⟨⟨t176, t177⟩, A30, H⟩ := H
 replace H : ((suffix_ParseBytes.f k a0).bind fun bt178 => ((sutlerref02_ParseBytes.f k a0).bind fun bt180 => ((suffix_ParseMoney.f a0).bind fun bt182 => ((sutlerref02_ParseMoney.f k a0).bind fun bt184 => ((sutlerlaw02_live.f k).bind fun t186 => (if t186 = true then (if t174 = t176 then (if t175 = t177 then (if bt178.1 = bt180.1 then (if bt178.2 = bt180.2 then (if bt182.1 = bt184.1 then (some (bt182.2 == bt184.2)) else (some false)) else (some false)) else (some false)) else (some false)) else (some false)) else (some false))))))) = some r := H
 have A3 := Aside0.mk A30
 clear A30
 replace H := Option.bind_eq_some_iff.mp H
 obtain ⟨⟨t178, t179⟩, A40, H⟩ := H
 replace H : ((sutlerref02_ParseBytes.f k a0).bind fun bt180 => ((suffix_ParseMoney.f a0).bind fun bt182 => ((sutlerref02_ParseMoney.f k a0).bind fun bt184 => ((sutlerlaw02_live.f k).bind fun t186 => (if t186 = true then (if t174 = t176 then (if t175 = t177 then (if t178 = bt180.1 then (if t179 = bt180.2 then (if bt182.1 = bt184.1 then (some (bt182.2 == bt184.2)) else (some false)) else (some false)) else (some false)) else (some false)) else (some false)) else (some false)))))) = some r := H
 have A4 := Aside0.mk A40
 clear A40
 replace H := Option.bind_eq_some_iff.mp H
 obtain ⟨⟨t180, t181⟩, A50, H⟩ := H
 replace H : ((suffix_ParseMoney.f a0).bind fun bt182 => ((sutlerref02_ParseMoney.f k a0).bind fun bt184 => ((sutlerlaw02_live.f k).bind fun t186 => (if t186 = true then (if t174 = t176 then (if t175 = t177 then (if t178 = t180 then (if t179 = t181 then (if bt182.1 = bt184.1 then (some (bt182.2 == bt184.2)) else (some false)) else (some false)) else (some false)) else (some false)) else (some false)) else (some false))))) = some r := H
 have A5 := Aside0.mk A50
 clear A50
 replace H := Option.bind_eq_some_iff.mp H
 obtain ⟨⟨t182, t183⟩, A60, H⟩ := H
 replace H : ((sutlerref02_ParseMoney.f k a0).bind fun bt184 => ((sutlerlaw02_live.f k).bind fun t186 => (if t186 = true then (if t174 = t176 then (if t175 = t177 then (if t178 = t180 then (if t179 = t181 then (if t182 = bt184.1 then (some (t183 == bt184.2)) else (some false)) else (some false)) else (some false)) else (some false)) else (some false)) else (some false)))) = some r := H
 have A6 := Aside0.mk A60
 clear A60
 replace H := Option.bind_eq_some_iff.mp H
 obtain ⟨⟨t184, t185⟩, A70, H⟩ := H
 replace H : ((sutlerlaw02_live.f k).bind fun t186 => (if t186 = true then (if t174 = t176 then (if t175 = t177 then (if t178 = t180 then (if t179 = t181 then (if t182 = t184 then (some (t183 == t185)) else (some false)) else (some false)) else (some false)) else (some false)) else (some false)) else (some false))) = some r := H
 have A7 := Aside0.mk A70
 clear A70
 replace H := Option.bind_eq_some_iff.mp H
 obtain ⟨t186, A80, H⟩ := H
 replace H : (if t186 = true then (if t174 = t176 then (if t175 = t177 then (if t178 = t180 then (if t179 = t181 then (if t182 = t184 then (some (t183 == t185)) else (some false)) else (some false)) else (some false)) else (some false)) else (some false)) else (some false)) = some r := H
 have A8 := Aside0.mk A80
 clear A80
 by_cases c9 : t186 = true
 ·subst c9
  have H1 : (if t174 = t176 then (if t175 = t177 then (if t178 = t180 then (if t179 = t181 then (if t182 = t184 then (some (t183 == t185)) else (some false)) else (some false)) else (some false)) else (some false)) else (some false)) = some r := by rw [if_pos rfl] at H; exact H
  clear H
  have H := H1
  clear H1
  by_cases c10 : t174 = t176
  ·rw [if_pos c10] at H
   have c10b0 : (t174 == t176) = true := beq_iff_eq.mpr c10
   have c10b1 : (t174 != t176) = false := bne_eq_false_iff_eq.mpr c10
   clear c10
   by_cases c11 : t175 = t177
   ·rw [if_pos c11] at H
    have c11b0 : (t175 == t177) = true := beq_iff_eq.mpr c11
    have c11b1 : (t175 != t177) = false := bne_eq_false_iff_eq.mpr c11
    clear c11
    by_cases c12 : t178 = t180
    ·rw [if_pos c12] at H
     have c12b0 : (t178 == t180) = true := beq_iff_eq.mpr c12
     have c12b1 : (t178 != t180) = false := bne_eq_false_iff_eq.mpr c12
     clear c12
     by_cases c13 : t179 = t181
     ·rw [if_pos c13] at H
      have c13b0 : (t179 == t181) = true := beq_iff_eq.mpr c13
      have c13b1 : (t179 != t181) = false := bne_eq_false_iff_eq.mpr c13
      clear c13
      by_cases c14 : t182 = t184
      ·rw [if_pos c14] at H
       have c14b0 : (t182 == t184) = true := beq_iff_eq.mpr c14
       have c14b1 : (t182 != t184) = false := bne_eq_false_iff_eq.mpr c14
       clear c14
       obtain rfl := Option.some.inj H
       go_enter Tryd.func4, Tryd.ntmps4
       go_wp2_with (first | ((with_reducible refine gate_callee (f := 8) rfl ?_); refine goesL_ (some 17) rfl rfl Tryd.func8 (by kernel_rfl) rfl #[.string a0] rfl (by (try simp only [List.map_toArray, List.map_cons, List.map_nil]); first | done | rfl | (simp only [List.length_drop, List.length_take]; rfl)) ?_; (with_reducible refine (suffix_ParseCPU.calls a0 t174 t175 _ ?side1 A2.out).mono ?_); (case side1 => exact Vars_below HV.out (by repeat (first | (with_reducible first | exact HB.out | apply below_alloc | apply pw_below_drewN | apply below_drew1) | exact HB.out))); rintro e w15 ⟨rfl, hb⟩; refine ⟨_, rfl, ?_⟩; have n0_ := Aside0.mk (below_step (by repeat (first | (with_reducible first | exact HB.out | apply below_alloc | apply pw_below_drewN | apply below_drew1) | exact HB.out)) hb); clear HB; have HB := n0_; clear n0_; (try clear hb); (try clear hb2); (try clear hk); (try clear hi)) | ((with_reducible refine gate_callee (f := 13) rfl ?_); refine goesL_ (some 22) rfl rfl Tryd.func13 (by kernel_rfl) rfl #[.string a0] rfl (by (try simp only [List.map_toArray, List.map_cons, List.map_nil]); first | done | rfl | (simp only [List.length_drop, List.length_take]; rfl)) ?_; (with_reducible refine (sutlerref02_ParseCPU.calls k a0 t176 t177 _ A3.out).mono ?_); rintro e w' ⟨rfl, ⟨nd, rfl⟩⟩; refine ⟨_, rfl, ?_⟩) | ((with_reducible refine gate_callee (f := 9) rfl ?_); refine goesL_ (some 27) rfl rfl Tryd.func9 (by kernel_rfl) rfl #[.string a0] rfl (by (try simp only [List.map_toArray, List.map_cons, List.map_nil]); first | done | rfl | (simp only [List.length_drop, List.length_take]; rfl)) ?_; (with_reducible refine (suffix_ParseBytes.calls k a0 t178 t179 _ ?side1 A4.out).mono ?_); (case side1 => exact Vars_below HV.out (by repeat (first | (with_reducible first | exact HB.out | apply below_alloc | apply pw_below_drewN | apply below_drew1) | exact HB.out))); rintro e w16 ⟨rfl, hb⟩; refine ⟨_, rfl, ?_⟩; have n0_ := Aside0.mk (below_step (by repeat (first | (with_reducible first | exact HB.out | apply below_alloc | apply pw_below_drewN | apply below_drew1) | exact HB.out)) hb); clear HB; have HB := n0_; clear n0_; (try clear hb); (try clear hb2); (try clear hk); (try clear hi)) | ((with_reducible refine gate_callee (f := 14) rfl ?_); refine goesL_ (some 32) rfl rfl Tryd.func14 (by kernel_rfl) rfl #[.string a0] rfl (by (try simp only [List.map_toArray, List.map_cons, List.map_nil]); first | done | rfl | (simp only [List.length_drop, List.length_take]; rfl)) ?_; (with_reducible refine (sutlerref02_ParseBytes.calls k a0 t180 t181 _ A5.out).mono ?_); rintro e w17 ⟨rfl, hb⟩; refine ⟨_, rfl, ?_⟩; have n0_ := Aside0.mk (below_step (by repeat (first | (with_reducible first | exact HB.out | apply below_alloc | apply pw_below_drewN | apply below_drew1) | exact HB.out)) hb); clear HB; have HB := n0_; clear n0_; (try clear hb); (try clear hb2); (try clear hk); (try clear hi)) | ((with_reducible refine gate_callee (f := 10) rfl ?_); refine goesL_ (some 37) rfl rfl Tryd.func10 (by kernel_rfl) rfl #[.string a0] rfl (by (try simp only [List.map_toArray, List.map_cons, List.map_nil]); first | done | rfl | (simp only [List.length_drop, List.length_take]; rfl)) ?_; (with_reducible refine (suffix_ParseMoney.calls a0 t182 t183 _ ?side1 A6.out).mono ?_); (case side1 => exact Vars_below HV.out (by repeat (first | (with_reducible first | exact HB.out | apply below_alloc | apply pw_below_drewN | apply below_drew1) | exact HB.out))); rintro e w18 ⟨rfl, hb⟩; refine ⟨_, rfl, ?_⟩; have n0_ := Aside0.mk (below_step (by repeat (first | (with_reducible first | exact HB.out | apply below_alloc | apply pw_below_drewN | apply below_drew1) | exact HB.out)) hb); clear HB; have HB := n0_; clear n0_; (try clear hb); (try clear hb2); (try clear hk); (try clear hi)) | ((with_reducible refine gate_callee (f := 15) rfl ?_); refine goesL_ (some 42) rfl rfl Tryd.func15 (by kernel_rfl) rfl #[.string a0] rfl (by (try simp only [List.map_toArray, List.map_cons, List.map_nil]); first | done | rfl | (simp only [List.length_drop, List.length_take]; rfl)) ?_; (with_reducible refine (sutlerref02_ParseMoney.calls k a0 t184 t185 _ A7.out).mono ?_); rintro e w' ⟨rfl, ⟨nd, rfl⟩⟩; refine ⟨_, rfl, ?_⟩) | ((with_reducible refine gate_callee (f := 12) rfl ?_); refine goesL_ (some 45) rfl rfl Tryd.func12 (by kernel_rfl) rfl #[] rfl (by (try simp only [List.map_toArray, List.map_cons, List.map_nil]); first | done | rfl | (simp only [List.length_drop, List.length_take]; rfl)) ?_; (with_reducible refine (sutlerlaw02_live.calls k  true _ ?side1 A8.out).mono ?_); (case side1 => exact Vars_below HV.out (by repeat (first | (with_reducible first | exact HB.out | apply below_alloc | apply pw_below_drewN | apply below_drew1) | exact HB.out))); rintro e w19 ⟨rfl, hb⟩; refine ⟨_, rfl, ?_⟩; have n0_ := Aside0.mk (below_step (by repeat (first | (with_reducible first | exact HB.out | apply below_alloc | apply pw_below_drewN | apply below_drew1) | exact HB.out)) hb); clear HB; have HB := n0_; clear n0_; (try clear hb); (try clear hb2); (try clear hk); (try clear hi)))
       go_ret
       exact ⟨by first | rfl | (simp [errW_none, errW_some] <;> rfl) | (simp [*, errW_none, errW_some] <;> rfl), by repeat (first | (with_reducible first | exact HB.out | apply below_alloc | apply pw_below_drewN | apply below_drew1) | exact HB.out)⟩
      ·rw [if_neg c14] at H
       have c14b0 : (t182 == t184) = false := beq_eq_false_iff_ne.mpr c14
       have c14b1 : (t182 != t184) = true := bne_iff_ne.mpr c14
       exact absurd ((Option.some.inj H).trans hrT_) (by decide)
     ·rw [if_neg c13] at H
      have c13b0 : (t179 == t181) = false := beq_eq_false_iff_ne.mpr c13
      have c13b1 : (t179 != t181) = true := bne_iff_ne.mpr c13
      exact absurd ((Option.some.inj H).trans hrT_) (by decide)
    ·rw [if_neg c12] at H
     have c12b0 : (t178 == t180) = false := beq_eq_false_iff_ne.mpr c12
     have c12b1 : (t178 != t180) = true := bne_iff_ne.mpr c12
     exact absurd ((Option.some.inj H).trans hrT_) (by decide)
   ·rw [if_neg c11] at H
    have c11b0 : (t175 == t177) = false := beq_eq_false_iff_ne.mpr c11
    have c11b1 : (t175 != t177) = true := bne_iff_ne.mpr c11
    exact absurd ((Option.some.inj H).trans hrT_) (by decide)
  ·rw [if_neg c10] at H
   have c10b0 : (t174 == t176) = false := beq_eq_false_iff_ne.mpr c10
   have c10b1 : (t174 != t176) = true := bne_iff_ne.mpr c10
   exact absurd ((Option.some.inj H).trans hrT_) (by decide)
 ·replace c9 := Bool.eq_false_iff.mpr c9
  subst c9
  have H1 : (some false) = some r := by rw [if_neg (show ¬ (false = true) by decide)] at H; exact H
  clear H
  have H := H1
  clear H1
  exact absurd ((Option.some.inj H).trans hrT_) (by decide)

/-! ### sutlerref01_Check: function 36 -/
def sutlerref01_Check.f (a0 : Int) : Option (Int) := if a0 < 0 then (some 11) else (if a0 > 1125899906842624 then (some 10) else (some 0))
set_option maxHeartbeats 8000000 in
set_option maxRecDepth 100000 in
theorem sutlerref01_Check.calls (a0 : Int) (r : Int) (w : World) (h : sutlerref01_Check.f a0 = some r) :
  Calls Tryd.prog 36 #[.int .i64 a0] w fun e w' => e = .returned (.int .i64 r) ∧ Drawn0 w w' := by
 have H : (if a0 < 0 then (some 11) else (if a0 > 1125899906842624 then (some 10) else (some 0))) = some r := h
 clear h
 by_cases c2 : a0 < 0
 ·rw [if_pos c2] at H
  have c2b0 : decide (a0 < 0) = true := decide_eq_true c2
  clear c2
  obtain rfl := Option.some.inj H
  go_enter Tryd.func36, Tryd.ntmps36
  go_wp2
  go_ret
  exact ⟨by first | rfl | (simp; done) | (simp [*]; done) | (simp [ne_nil_]; done), by repeat (first | exact Drawn0.refl _ | apply Drawn0.step)⟩
 ·rw [if_neg c2] at H
  have c2b0 : decide (a0 < 0) = false := decide_eq_false c2
  clear c2
  by_cases c3 : a0 > 1125899906842624
  ·rw [if_pos c3] at H
   have c3b0 : decide (1125899906842624 < a0) = true := decide_eq_true c3
   clear c3
   obtain rfl := Option.some.inj H
   go_enter Tryd.func36, Tryd.ntmps36
   go_wp2
   go_ret
   exact ⟨by first | rfl | (simp; done) | (simp [*]; done) | (simp [ne_nil_]; done), by repeat (first | exact Drawn0.refl _ | apply Drawn0.step)⟩
  ·rw [if_neg c3] at H
   have c3b0 : decide (1125899906842624 < a0) = false := decide_eq_false c3
   clear c3
   obtain rfl := Option.some.inj H
   go_enter Tryd.func36, Tryd.ntmps36
   go_wp2
   go_ret
   exact ⟨by first | rfl | (simp; done) | (simp [*]; done) | (simp [ne_nil_]; done), by repeat (first | exact Drawn0.refl _ | apply Drawn0.step)⟩

end Go.Proofs.YtafncdmclhdkdaaDoor.PAll
