-- written by a program of this session (the kit's print, turned): plain functions and their contracts
-- shrunk
import Derived.Test.YtafncdmclhdkdaaDoorPAllx0
import Derived.Test.YtafncdmclhdkdaaDoorPAllx1
import Derived.Test.YtafncdmclhdkdaaDoorPAllx2
import Derived.Test.YtafncdmclhdkdaaDoorEMoney
namespace Go.Proofs.YtafncdmclhdkdaaDoor.PAll
open Go.RowKit Go.Proofs.YtafncdmclhdkdaaDoorW.PrintWords Go.Proofs.YtafncdmclhdkdaaDoorW.PrintLast Go.Proofs.YtafncdmclhdkdaaDoorW.PrintMore
attribute [local go_sem] max2_int min2_int max_two min_two max_three min_three max_four min_four   -- for this text's walks alone
set_option linter.unusedVariables false
set_option linter.unusedSimpArgs false

/-! ### sutlerlaw02_live: function 12 -/
def sutlerlaw02_live.f (k : Nat)  : Option (Bool) := (suffix_ParseCPU.f (⟨#[49, 53, 48, 48, 109]⟩ : ByteArray)).bind fun bt127 => ((suffix_ParseBytes.f k (⟨#[52, 71, 105]⟩ : ByteArray)).bind fun bt129 => ((suffix_ParseMoney.f (⟨#[48, 46, 48, 48, 48, 48, 52, 48]⟩ : ByteArray)).bind fun bt131 => ((suffix_PrintCPU.f 2000).bind fun bt133 => ((suffix_PrintBytes.f k 1049600).bind fun bt135 => ((suffix_PrintMoney.f 1500000).bind fun bt137 => (if bt127.2 = 0 then (if bt129.2 = 0 then (if bt131.2 = 0 then (if bt133.2 = 0 then (if bt135.2 = 0 then (if bt137.2 = 0 then (if bt127.1 = 1500 then (if bt129.1 = 4294967296 then (if bt131.1 = 40 then (if bt133.1.toList = ([50] : List UInt8) then (if bt135.1.toList = ([49, 48, 50, 53, 75, 105] : List UInt8) then (some (bt137.1.toList == ([49, 46, 53] : List UInt8))) else (some false)) else (some false)) else (some false)) else (some false)) else (some false)) else (some false)) else (some false)) else (some false)) else (some false)) else (some false)) else (some false)))))))
theorem sutlerlaw02_live.mono : ∀ k, LeO (sutlerlaw02_live.f k ) (sutlerlaw02_live.f (k + 1) ) := by
 intro  k
 unfold sutlerlaw02_live.f
 repeat' first
   | (with_reducible exact suffix_ParseBytes.mono _ _)
   | (with_reducible exact suffix_PrintBytes.mono _ _)
   | (with_reducible exact LeO.refl _)
   | (with_reducible exact LeO.none _)
   | (with_reducible refine LeO.ite ?_ ?_)
   | (with_reducible refine LeO.bind ?_ (fun _ => ?_))
   | exact suffix_ParseBytes.mono _ _
   | exact suffix_PrintBytes.mono _ _
   | exact LeO.none _
   | refine LeO.ite ?_ ?_
   | refine LeO.bind ?_ (fun _ => ?_)
set_option maxHeartbeats 8000000 in
set_option maxRecDepth 100000 in
theorem sutlerlaw02_live.calls (k : Nat)  (r : Bool) (w : World) (hg : Vars w) (h : sutlerlaw02_live.f k  = some r) (hrT_ : r = true := by rfl) :
  Calls Tryd.prog 12 #[] w fun e w' => e = .returned (.bool r) ∧ Below w.heap.size w w' := by
 have HB := Aside0.mk (Below.refl w.heap.size w)
 have HV := Aside0.mk hg
 clear hg
 have H : ((suffix_ParseCPU.f (⟨#[49, 53, 48, 48, 109]⟩ : ByteArray)).bind fun bt127 => ((suffix_ParseBytes.f k (⟨#[52, 71, 105]⟩ : ByteArray)).bind fun bt129 => ((suffix_ParseMoney.f (⟨#[48, 46, 48, 48, 48, 48, 52, 48]⟩ : ByteArray)).bind fun bt131 => ((suffix_PrintCPU.f 2000).bind fun bt133 => ((suffix_PrintBytes.f k 1049600).bind fun bt135 => ((suffix_PrintMoney.f 1500000).bind fun bt137 => (if bt127.2 = 0 then (if bt129.2 = 0 then (if bt131.2 = 0 then (if bt133.2 = 0 then (if bt135.2 = 0 then (if bt137.2 = 0 then (if bt127.1 = 1500 then (if bt129.1 = 4294967296 then (if bt131.1 = 40 then (if bt133.1.toList = ([50] : List UInt8) then (if bt135.1.toList = ([49, 48, 50, 53, 75, 105] : List UInt8) then (some (bt137.1.toList == ([49, 46, 53] : List UInt8))) else (some false)) else (some false)) else (some false)) else (some false)) else (some false)) else (some false)) else (some false)) else (some false)) else (some false)) else (some false)) else (some false)))))))) = some r := h
 clear h
 replace H := Option.bind_eq_some_iff.mp H
 obtain ⟨⟨t127, t128⟩, A10, H⟩ := H
 replace H : ((suffix_ParseBytes.f k (⟨#[52, 71, 105]⟩ : ByteArray)).bind fun bt129 => ((suffix_ParseMoney.f (⟨#[48, 46, 48, 48, 48, 48, 52, 48]⟩ : ByteArray)).bind fun bt131 => ((suffix_PrintCPU.f 2000).bind fun bt133 => ((suffix_PrintBytes.f k 1049600).bind fun bt135 => ((suffix_PrintMoney.f 1500000).bind fun bt137 => (if t128 = 0 then (if bt129.2 = 0 then (if bt131.2 = 0 then (if bt133.2 = 0 then (if bt135.2 = 0 then (if bt137.2 = 0 then (if t127 = 1500 then (if bt129.1 = 4294967296 then (if bt131.1 = 40 then (if bt133.1.toList = ([50] : List UInt8) then (if bt135.1.toList = ([49, 48, 50, 53, 75, 105] : List UInt8) then (some (bt137.1.toList == ([49, 46, 53] : List UInt8))) else (some false)) else (some false)) else (some false)) else (some false)) else (some false)) else (some false)) else (some false)) else (some false)) else (some false)) else (some false)) else (some false))))))) = some r := H
 have A1 := Aside0.mk A10
 clear A10
 replace H := Option.bind_eq_some_iff.mp H
 obtain ⟨⟨t129, t130⟩, A20, H⟩ := H
 replace H : ((suffix_ParseMoney.f (⟨#[48, 46, 48, 48, 48, 48, 52, 48]⟩ : ByteArray)).bind fun bt131 => ((suffix_PrintCPU.f 2000).bind fun bt133 => ((suffix_PrintBytes.f k 1049600).bind fun bt135 => ((suffix_PrintMoney.f 1500000).bind fun bt137 => (if t128 = 0 then (if t130 = 0 then (if bt131.2 = 0 then (if bt133.2 = 0 then (if bt135.2 = 0 then (if bt137.2 = 0 then (if t127 = 1500 then (if t129 = 4294967296 then (if bt131.1 = 40 then (if bt133.1.toList = ([50] : List UInt8) then (if bt135.1.toList = ([49, 48, 50, 53, 75, 105] : List UInt8) then (some (bt137.1.toList == ([49, 46, 53] : List UInt8))) else (some false)) else (some false)) else (some false)) else (some false)) else (some false)) else (some false)) else (some false)) else (some false)) else (some false)) else (some false)) else (some false)))))) = some r := H
 have A2 := Aside0.mk A20
 clear A20
 replace H := Option.bind_eq_some_iff.mp H
 obtain ⟨⟨t131, t132⟩, A30, H⟩ := H
 replace H : ((suffix_PrintCPU.f 2000).bind fun bt133 => ((suffix_PrintBytes.f k 1049600).bind fun bt135 => ((suffix_PrintMoney.f 1500000).bind fun bt137 => (if t128 = 0 then (if t130 = 0 then (if t132 = 0 then (if bt133.2 = 0 then (if bt135.2 = 0 then (if bt137.2 = 0 then (if t127 = 1500 then (if t129 = 4294967296 then (if t131 = 40 then (if bt133.1.toList = ([50] : List UInt8) then (if bt135.1.toList = ([49, 48, 50, 53, 75, 105] : List UInt8) then (some (bt137.1.toList == ([49, 46, 53] : List UInt8))) else (some false)) else (some false)) else (some false)) else (some false)) else (some false)) else (some false)) else (some false)) else (some false)) else (some false)) else (some false)) else (some false))))) = some r := H
 have A3 := Aside0.mk A30
 clear A30
 replace H := Option.bind_eq_some_iff.mp H
 obtain ⟨⟨t133, t134⟩, A40, H⟩ := H
 replace H : ((suffix_PrintBytes.f k 1049600).bind fun bt135 => ((suffix_PrintMoney.f 1500000).bind fun bt137 => (if t128 = 0 then (if t130 = 0 then (if t132 = 0 then (if t134 = 0 then (if bt135.2 = 0 then (if bt137.2 = 0 then (if t127 = 1500 then (if t129 = 4294967296 then (if t131 = 40 then (if t133.toList = ([50] : List UInt8) then (if bt135.1.toList = ([49, 48, 50, 53, 75, 105] : List UInt8) then (some (bt137.1.toList == ([49, 46, 53] : List UInt8))) else (some false)) else (some false)) else (some false)) else (some false)) else (some false)) else (some false)) else (some false)) else (some false)) else (some false)) else (some false)) else (some false)))) = some r := H
 have A4 := Aside0.mk A40
 clear A40
 replace H := Option.bind_eq_some_iff.mp H
 obtain ⟨⟨t135, t136⟩, A50, H⟩ := H
 replace H : ((suffix_PrintMoney.f 1500000).bind fun bt137 => (if t128 = 0 then (if t130 = 0 then (if t132 = 0 then (if t134 = 0 then (if t136 = 0 then (if bt137.2 = 0 then (if t127 = 1500 then (if t129 = 4294967296 then (if t131 = 40 then (if t133.toList = ([50] : List UInt8) then (if t135.toList = ([49, 48, 50, 53, 75, 105] : List UInt8) then (some (bt137.1.toList == ([49, 46, 53] : List UInt8))) else (some false)) else (some false)) else (some false)) else (some false)) else (some false)) else (some false)) else (some false)) else (some false)) else (some false)) else (some false)) else (some false))) = some r := H
 have A5 := Aside0.mk A50
 clear A50
 replace H := Option.bind_eq_some_iff.mp H
 obtain ⟨⟨t137, t138⟩, A60, H⟩ := H
 replace H : (if t128 = 0 then (if t130 = 0 then (if t132 = 0 then (if t134 = 0 then (if t136 = 0 then (if t138 = 0 then (if t127 = 1500 then (if t129 = 4294967296 then (if t131 = 40 then (if t133.toList = ([50] : List UInt8) then (if t135.toList = ([49, 48, 50, 53, 75, 105] : List UInt8) then (some (t137.toList == ([49, 46, 53] : List UInt8))) else (some false)) else (some false)) else (some false)) else (some false)) else (some false)) else (some false)) else (some false)) else (some false)) else (some false)) else (some false)) else (some false)) = some r := H
 have A6 := Aside0.mk A60
 clear A60
 by_cases c7 : t128 = 0
 ·rw [if_pos c7] at H
  have c7b0 : (t128 == 0) = true := beq_iff_eq.mpr c7
  have c7b1 : (t128 != 0) = false := bne_eq_false_iff_eq.mpr c7
  clear c7
  by_cases c8 : t130 = 0
  ·rw [if_pos c8] at H
   have c8b0 : (t130 == 0) = true := beq_iff_eq.mpr c8
   have c8b1 : (t130 != 0) = false := bne_eq_false_iff_eq.mpr c8
   clear c8
   by_cases c9 : t132 = 0
   ·rw [if_pos c9] at H
    have c9b0 : (t132 == 0) = true := beq_iff_eq.mpr c9
    have c9b1 : (t132 != 0) = false := bne_eq_false_iff_eq.mpr c9
    clear c9
    by_cases c10 : t134 = 0
    ·rw [if_pos c10] at H
     have c10b0 : (t134 == 0) = true := beq_iff_eq.mpr c10
     have c10b1 : (t134 != 0) = false := bne_eq_false_iff_eq.mpr c10
     clear c10
     by_cases c11 : t136 = 0
     ·rw [if_pos c11] at H
      have c11b0 : (t136 == 0) = true := beq_iff_eq.mpr c11
      have c11b1 : (t136 != 0) = false := bne_eq_false_iff_eq.mpr c11
      clear c11
      by_cases c12 : t138 = 0
      ·rw [if_pos c12] at H
       have c12b0 : (t138 == 0) = true := beq_iff_eq.mpr c12
       have c12b1 : (t138 != 0) = false := bne_eq_false_iff_eq.mpr c12
       clear c12
       by_cases c13 : t127 = 1500
       ·rw [if_pos c13] at H
        have c13b0 : (t127 == 1500) = true := beq_iff_eq.mpr c13
        have c13b1 : (t127 != 1500) = false := bne_eq_false_iff_eq.mpr c13
        clear c13
        by_cases c14 : t129 = 4294967296
        ·rw [if_pos c14] at H
         have c14b0 : (t129 == 4294967296) = true := beq_iff_eq.mpr c14
         have c14b1 : (t129 != 4294967296) = false := bne_eq_false_iff_eq.mpr c14
         clear c14
         by_cases c15 : t131 = 40
         ·rw [if_pos c15] at H
          have c15b0 : (t131 == 40) = true := beq_iff_eq.mpr c15
          have c15b1 : (t131 != 40) = false := bne_eq_false_iff_eq.mpr c15
          clear c15
          by_cases c16 : t133.toList = ([50] : List UInt8)
          ·rw [if_pos c16] at H
           have c16b0 : (t133.toList == ([50] : List UInt8)) = true := beq_iff_eq.mpr c16
           have c16b1 : (t133.toList != ([50] : List UInt8)) = false := bne_eq_false_iff_eq.mpr c16
           clear c16
           by_cases c17 : t135.toList = ([49, 48, 50, 53, 75, 105] : List UInt8)
           ·rw [if_pos c17] at H
            have c17b0 : (t135.toList == ([49, 48, 50, 53, 75, 105] : List UInt8)) = true := beq_iff_eq.mpr c17
            have c17b1 : (t135.toList != ([49, 48, 50, 53, 75, 105] : List UInt8)) = false := bne_eq_false_iff_eq.mpr c17
            clear c17
            obtain rfl := Option.some.inj H
            go_enter Tryd.func12, Tryd.ntmps12
            go_wp2_with (first | ((with_reducible refine gate_callee (f := 8) rfl ?_); refine goesL_ (some 15) rfl rfl Tryd.func8 (by kernel_rfl) rfl #[.string (⟨#[49, 53, 48, 48, 109]⟩ : ByteArray)] rfl (by (try simp only [List.map_toArray, List.map_cons, List.map_nil]); first | done | rfl | (simp only [List.length_drop, List.length_take]; rfl)) ?_; (with_reducible refine (suffix_ParseCPU.calls (⟨#[49, 53, 48, 48, 109]⟩ : ByteArray) t127 t128 _ ?side1 A1.out).mono ?_); (case side1 => exact Vars_below HV.out (by repeat (first | (with_reducible first | exact HB.out | apply below_alloc | apply pw_below_drewN | apply below_drew1) | exact HB.out))); rintro e w18 ⟨rfl, hb⟩; refine ⟨_, rfl, ?_⟩; have n0_ := Aside0.mk (below_step (by repeat (first | (with_reducible first | exact HB.out | apply below_alloc | apply pw_below_drewN | apply below_drew1) | exact HB.out)) hb); clear HB; have HB := n0_; clear n0_; (try clear hb); (try clear hb2); (try clear hk); (try clear hi)) | ((with_reducible refine gate_callee (f := 9) rfl ?_); refine goesL_ (some 19) rfl rfl Tryd.func9 (by kernel_rfl) rfl #[.string (⟨#[52, 71, 105]⟩ : ByteArray)] rfl (by (try simp only [List.map_toArray, List.map_cons, List.map_nil]); first | done | rfl | (simp only [List.length_drop, List.length_take]; rfl)) ?_; (with_reducible refine (suffix_ParseBytes.calls k (⟨#[52, 71, 105]⟩ : ByteArray) t129 t130 _ ?side1 A2.out).mono ?_); (case side1 => exact Vars_below HV.out (by repeat (first | (with_reducible first | exact HB.out | apply below_alloc | apply pw_below_drewN | apply below_drew1) | exact HB.out))); rintro e w19 ⟨rfl, hb⟩; refine ⟨_, rfl, ?_⟩; have n0_ := Aside0.mk (below_step (by repeat (first | (with_reducible first | exact HB.out | apply below_alloc | apply pw_below_drewN | apply below_drew1) | exact HB.out)) hb); clear HB; have HB := n0_; clear n0_; (try clear hb); (try clear hb2); (try clear hk); (try clear hi)) | ((with_reducible refine gate_callee (f := 10) rfl ?_); refine goesL_ (some 23) rfl rfl Tryd.func10 (by kernel_rfl) rfl #[.string (⟨#[48, 46, 48, 48, 48, 48, 52, 48]⟩ : ByteArray)] rfl (by (try simp only [List.map_toArray, List.map_cons, List.map_nil]); first | done | rfl | (simp only [List.length_drop, List.length_take]; rfl)) ?_; (with_reducible refine (suffix_ParseMoney.calls (⟨#[48, 46, 48, 48, 48, 48, 52, 48]⟩ : ByteArray) t131 t132 _ ?side1 A3.out).mono ?_); (case side1 => exact Vars_below HV.out (by repeat (first | (with_reducible first | exact HB.out | apply below_alloc | apply pw_below_drewN | apply below_drew1) | exact HB.out))); rintro e w20 ⟨rfl, hb⟩; refine ⟨_, rfl, ?_⟩; have n0_ := Aside0.mk (below_step (by repeat (first | (with_reducible first | exact HB.out | apply below_alloc | apply pw_below_drewN | apply below_drew1) | exact HB.out)) hb); clear HB; have HB := n0_; clear n0_; (try clear hb); (try clear hb2); (try clear hk); (try clear hi)) | ((with_reducible refine gate_callee (f := 16) rfl ?_); refine goesL_ (some 27) rfl rfl Tryd.func16 (by kernel_rfl) rfl #[.int .i64 2000] rfl (by (try simp only [List.map_toArray, List.map_cons, List.map_nil]); first | done | rfl | (simp only [List.length_drop, List.length_take]; rfl)) ?_; (with_reducible refine (suffix_PrintCPU.calls 2000 t133 t134 _ ?side1 A4.out).mono ?_); (case side1 => exact Vars_below HV.out (by repeat (first | (with_reducible first | exact HB.out | apply below_alloc | apply pw_below_drewN | apply below_drew1) | exact HB.out))); rintro e w21 ⟨rfl, hb⟩; refine ⟨_, rfl, ?_⟩; have n0_ := Aside0.mk (below_step (by repeat (first | (with_reducible first | exact HB.out | apply below_alloc | apply pw_below_drewN | apply below_drew1) | exact HB.out)) hb); clear HB; have HB := n0_; clear n0_; (try clear hb); (try clear hb2); (try clear hk); (try clear hi)) | ((with_reducible refine gate_callee (f := 18) rfl ?_); refine goesL_ (some 31) rfl rfl Tryd.func18 (by kernel_rfl) rfl #[.int .i64 1049600] rfl (by (try simp only [List.map_toArray, List.map_cons, List.map_nil]); first | done | rfl | (simp only [List.length_drop, List.length_take]; rfl)) ?_; (with_reducible refine (suffix_PrintBytes.calls k 1049600 t135 t136 _ ?side1 A5.out).mono ?_); (case side1 => exact Vars_below HV.out (by repeat (first | (with_reducible first | exact HB.out | apply below_alloc | apply pw_below_drewN | apply below_drew1) | exact HB.out))); rintro e w22 ⟨rfl, hb⟩; refine ⟨_, rfl, ?_⟩; have n0_ := Aside0.mk (below_step (by repeat (first | (with_reducible first | exact HB.out | apply below_alloc | apply pw_below_drewN | apply below_drew1) | exact HB.out)) hb); clear HB; have HB := n0_; clear n0_; (try clear hb); (try clear hb2); (try clear hk); (try clear hi)) | ((with_reducible refine gate_callee (f := 11) rfl ?_); refine goesL_ (some 35) rfl rfl Tryd.func11 (by kernel_rfl) rfl #[.int .i64 1500000] rfl (by (try simp only [List.map_toArray, List.map_cons, List.map_nil]); first | done | rfl | (simp only [List.length_drop, List.length_take]; rfl)) ?_; (with_reducible refine (suffix_PrintMoney.calls 1500000 t137 t138 _ ?side1 A6.out).mono ?_); (case side1 => exact Vars_below HV.out (by repeat (first | (with_reducible first | exact HB.out | apply below_alloc | apply pw_below_drewN | apply below_drew1) | exact HB.out))); rintro e w23 ⟨rfl, hb⟩; refine ⟨_, rfl, ?_⟩; have n0_ := Aside0.mk (below_step (by repeat (first | (with_reducible first | exact HB.out | apply below_alloc | apply pw_below_drewN | apply below_drew1) | exact HB.out)) hb); clear HB; have HB := n0_; clear n0_; (try clear hb); (try clear hb2); (try clear hk); (try clear hi)))
            go_ret
            exact ⟨by first | rfl | (simp [errW_none, errW_some] <;> rfl) | (simp [*, errW_none, errW_some] <;> rfl), by repeat (first | (with_reducible first | exact HB.out | apply below_alloc | apply pw_below_drewN | apply below_drew1) | exact HB.out)⟩
           ·rw [if_neg c17] at H
            have c17b0 : (t135.toList == ([49, 48, 50, 53, 75, 105] : List UInt8)) = false := beq_eq_false_iff_ne.mpr c17
            have c17b1 : (t135.toList != ([49, 48, 50, 53, 75, 105] : List UInt8)) = true := bne_iff_ne.mpr c17
            exact absurd ((Option.some.inj H).trans hrT_) (by decide)
          ·rw [if_neg c16] at H
           have c16b0 : (t133.toList == ([50] : List UInt8)) = false := beq_eq_false_iff_ne.mpr c16
           have c16b1 : (t133.toList != ([50] : List UInt8)) = true := bne_iff_ne.mpr c16
           exact absurd ((Option.some.inj H).trans hrT_) (by decide)
         ·rw [if_neg c15] at H
          have c15b0 : (t131 == 40) = false := beq_eq_false_iff_ne.mpr c15
          have c15b1 : (t131 != 40) = true := bne_iff_ne.mpr c15
          exact absurd ((Option.some.inj H).trans hrT_) (by decide)
        ·rw [if_neg c14] at H
         have c14b0 : (t129 == 4294967296) = false := beq_eq_false_iff_ne.mpr c14
         have c14b1 : (t129 != 4294967296) = true := bne_iff_ne.mpr c14
         exact absurd ((Option.some.inj H).trans hrT_) (by decide)
       ·rw [if_neg c13] at H
        have c13b0 : (t127 == 1500) = false := beq_eq_false_iff_ne.mpr c13
        have c13b1 : (t127 != 1500) = true := bne_iff_ne.mpr c13
        exact absurd ((Option.some.inj H).trans hrT_) (by decide)
      ·rw [if_neg c12] at H
       have c12b0 : (t138 == 0) = false := beq_eq_false_iff_ne.mpr c12
       have c12b1 : (t138 != 0) = true := bne_iff_ne.mpr c12
       exact absurd ((Option.some.inj H).trans hrT_) (by decide)
     ·rw [if_neg c11] at H
      have c11b0 : (t136 == 0) = false := beq_eq_false_iff_ne.mpr c11
      have c11b1 : (t136 != 0) = true := bne_iff_ne.mpr c11
      exact absurd ((Option.some.inj H).trans hrT_) (by decide)
    ·rw [if_neg c10] at H
     have c10b0 : (t134 == 0) = false := beq_eq_false_iff_ne.mpr c10
     have c10b1 : (t134 != 0) = true := bne_iff_ne.mpr c10
     exact absurd ((Option.some.inj H).trans hrT_) (by decide)
   ·rw [if_neg c9] at H
    have c9b0 : (t132 == 0) = false := beq_eq_false_iff_ne.mpr c9
    have c9b1 : (t132 != 0) = true := bne_iff_ne.mpr c9
    exact absurd ((Option.some.inj H).trans hrT_) (by decide)
  ·rw [if_neg c8] at H
   have c8b0 : (t130 == 0) = false := beq_eq_false_iff_ne.mpr c8
   have c8b1 : (t130 != 0) = true := bne_iff_ne.mpr c8
   exact absurd ((Option.some.inj H).trans hrT_) (by decide)
 ·rw [if_neg c7] at H
  have c7b0 : (t128 == 0) = false := beq_eq_false_iff_ne.mpr c7
  have c7b1 : (t128 != 0) = true := bne_iff_ne.mpr c7
  exact absurd ((Option.some.inj H).trans hrT_) (by decide)

end Go.Proofs.YtafncdmclhdkdaaDoor.PAll
