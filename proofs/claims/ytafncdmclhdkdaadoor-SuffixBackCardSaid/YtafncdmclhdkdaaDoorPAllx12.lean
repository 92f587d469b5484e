-- written by a program of this session (the kit's print, turned): plain functions and their contracts
-- shrunk
import Derived.Test.YtafncdmclhdkdaaDoorPAllx0
import Derived.Test.YtafncdmclhdkdaaDoorPAllx1
import Derived.Test.YtafncdmclhdkdaaDoorPAllx2
import Derived.Test.YtafncdmclhdkdaaDoorPAllx3
import Derived.Test.YtafncdmclhdkdaaDoorPAllx11
import Derived.Test.YtafncdmclhdkdaaDoorEMoney
namespace Go.Proofs.YtafncdmclhdkdaaDoor.PAll
open Go.RowKit Go.Proofs.YtafncdmclhdkdaaDoorW.PrintWords Go.Proofs.YtafncdmclhdkdaaDoorW.PrintLast Go.Proofs.YtafncdmclhdkdaaDoorW.PrintMore
attribute [local go_sem] max2_int min2_int max_two min_two max_three min_three max_four min_four   -- for this text's walks alone
set_option linter.unusedVariables false
set_option linter.unusedSimpArgs false

/-! ### sutlerlaw02_SuffixBack: function 6 -/
mutual
def sutlerlaw02_SuffixBack.j0 : Nat → Int → Int → ByteArray → ByteArray → Int → ByteArray → ByteArray → Bool → Option (Bool)
 | 0, _, _, _, _, _, _, _, _ => none
 | k + 1, x0, x1, x2, x7, x8, x9, x11, x53 => if x53 = true then (some false) else (if x8 = 0 then ((suffix_ParseCPU.f x7).bind fun bt235 => ((suffix_ParseBytes.f k x9).bind fun bt237 => ((suffix_ParseMoney.f x11).bind fun bt239 => (if bt235.2 = 0 then (if bt237.2 = 0 then (if bt239.2 = 0 then (if bt235.1 = x0 then (if bt237.1 = x0 then (sutlerlaw02_SuffixBack.j1 k x0 x1 x2 x7 x9 x11 (bt239.1 != x0)) else (sutlerlaw02_SuffixBack.j1 k x0 x1 x2 x7 x9 x11 true)) else (sutlerlaw02_SuffixBack.j1 k x0 x1 x2 x7 x9 x11 true)) else (sutlerlaw02_SuffixBack.j1 k x0 x1 x2 x7 x9 x11 true)) else (sutlerlaw02_SuffixBack.j1 k x0 x1 x2 x7 x9 x11 true)) else (sutlerlaw02_SuffixBack.j1 k x0 x1 x2 x7 x9 x11 true))))) else (sutlerlaw02_SuffixBack.j2 k x2))
def sutlerlaw02_SuffixBack.j2 : Nat → ByteArray → Option (Bool)
 | 0, _ => none
 | k + 1, x2 => (suffix_ParseCPU.f x2).bind fun bt247 => ((suffix_ParseBytes.f k x2).bind fun bt249 => ((suffix_ParseMoney.f x2).bind fun bt251 => ((sutlerlaw02_live.f k).bind fun t253 => (if t253 = true then ((sutlerlaw02_again_at_suffix_PrintCPU_suffix_ParseCPU.f bt247.1 bt247.2).bind fun t254 => (if t254 = true then ((sutlerlaw02_again_at_suffix_PrintBytes_suffix_ParseBytes.f k bt249.1 bt249.2).bind fun t255 => (if t255 = true then ((sutlerlaw02_again_at_suffix_PrintMoney_suffix_ParseMoney.f bt251.1 bt251.2).bind fun t256 => (some t256)) else (some false))) else (some false))) else (some false)))))
def sutlerlaw02_SuffixBack.j1 : Nat → Int → Int → ByteArray → ByteArray → ByteArray → ByteArray → Bool → Option (Bool)
 | 0, _, _, _, _, _, _, _ => none
 | k + 1, x0, x1, x2, x7, x9, x11, x95 => if x95 = true then (some false) else ((suffix_PrintCPU.f x1).bind fun bt241 => ((suffix_PrintBytes.f k x1).bind fun bt243 => ((suffix_PrintMoney.f x1).bind fun bt245 => (if bt241.2 = 0 then (if ((x7.toList == bt241.1.toList) != (x0 == x1)) = true then (some false) else (if ((x9.toList == bt243.1.toList) != (x0 == x1)) = true then (some false) else (if ((x11.toList == bt245.1.toList) != (x0 == x1)) = true then (some false) else (sutlerlaw02_SuffixBack.j2 k x2)))) else (sutlerlaw02_SuffixBack.j2 k x2)))))
end
def sutlerlaw02_SuffixBack.f (k : Nat) (a0 : Int) (a1 : Int) (a2 : ByteArray) : Option (Bool) := (suffix_PrintCPU.f a0).bind fun bt229 => ((suffix_PrintBytes.f k a0).bind fun bt231 => ((suffix_PrintMoney.f a0).bind fun bt233 => (if bt229.2 = bt231.2 then (sutlerlaw02_SuffixBack.j0 k a0 a1 a2 bt229.1 bt229.2 bt231.1 bt233.1 (bt229.2 != bt233.2)) else (sutlerlaw02_SuffixBack.j0 k a0 a1 a2 bt229.1 bt229.2 bt231.1 bt233.1 true))))
theorem sutlerlaw02_SuffixBack.mono_l : ∀ k, (∀ y0 y1 y2 y3 y4 y5 y6 y7, LeO (sutlerlaw02_SuffixBack.j0 k y0 y1 y2 y3 y4 y5 y6 y7) (sutlerlaw02_SuffixBack.j0 (k + 1) y0 y1 y2 y3 y4 y5 y6 y7)) ∧ (∀ y0, LeO (sutlerlaw02_SuffixBack.j2 k y0) (sutlerlaw02_SuffixBack.j2 (k + 1) y0)) ∧ (∀ y0 y1 y2 y3 y4 y5 y6, LeO (sutlerlaw02_SuffixBack.j1 k y0 y1 y2 y3 y4 y5 y6) (sutlerlaw02_SuffixBack.j1 (k + 1) y0 y1 y2 y3 y4 y5 y6))
 | 0 => ⟨fun _ _ _ _ _ _ _ _ r h => by simp [sutlerlaw02_SuffixBack.j0] at h, fun _ r h => by simp [sutlerlaw02_SuffixBack.j2] at h, fun _ _ _ _ _ _ _ r h => by simp [sutlerlaw02_SuffixBack.j1] at h⟩
 | k + 1 => by
  obtain ⟨ih0, ih1, ih2⟩ := sutlerlaw02_SuffixBack.mono_l k
  refine ⟨?_, ?_, ?_⟩
  ·intro y0 y1 y2 y3 y4 y5 y6 y7
   unfold sutlerlaw02_SuffixBack.j0
   repeat' first
   | (with_reducible exact ih0 _ _ _ _ _ _ _ _)
   | (with_reducible exact ih1 _)
   | (with_reducible exact ih2 _ _ _ _ _ _ _)
   | (with_reducible exact suffix_ParseBytes.mono _ _)
   | (with_reducible exact suffix_PrintBytes.mono _ _)
   | (with_reducible exact sutlerlaw02_again_at_suffix_PrintBytes_suffix_ParseBytes.mono _ _ _)
   | (with_reducible exact sutlerlaw02_live.mono _)
   | (with_reducible exact LeO.refl _)
   | (with_reducible exact LeO.none _)
   | (with_reducible refine LeO.ite ?_ ?_)
   | (with_reducible refine LeO.bind ?_ (fun _ => ?_))
   | exact ih0 _ _ _ _ _ _ _ _
   | exact ih1 _
   | exact ih2 _ _ _ _ _ _ _
   | exact suffix_ParseBytes.mono _ _
   | exact suffix_PrintBytes.mono _ _
   | exact sutlerlaw02_again_at_suffix_PrintBytes_suffix_ParseBytes.mono _ _ _
   | exact sutlerlaw02_live.mono _
   | exact LeO.none _
   | refine LeO.ite ?_ ?_
   | refine LeO.bind ?_ (fun _ => ?_)
  ·intro y0
   unfold sutlerlaw02_SuffixBack.j2
   repeat' first
   | (with_reducible exact ih0 _ _ _ _ _ _ _ _)
   | (with_reducible exact ih1 _)
   | (with_reducible exact ih2 _ _ _ _ _ _ _)
   | (with_reducible exact suffix_ParseBytes.mono _ _)
   | (with_reducible exact suffix_PrintBytes.mono _ _)
   | (with_reducible exact sutlerlaw02_again_at_suffix_PrintBytes_suffix_ParseBytes.mono _ _ _)
   | (with_reducible exact sutlerlaw02_live.mono _)
   | (with_reducible exact LeO.refl _)
   | (with_reducible exact LeO.none _)
   | (with_reducible refine LeO.ite ?_ ?_)
   | (with_reducible refine LeO.bind ?_ (fun _ => ?_))
   | exact ih0 _ _ _ _ _ _ _ _
   | exact ih1 _
   | exact ih2 _ _ _ _ _ _ _
   | exact suffix_ParseBytes.mono _ _
   | exact suffix_PrintBytes.mono _ _
   | exact sutlerlaw02_again_at_suffix_PrintBytes_suffix_ParseBytes.mono _ _ _
   | exact sutlerlaw02_live.mono _
   | exact LeO.none _
   | refine LeO.ite ?_ ?_
   | refine LeO.bind ?_ (fun _ => ?_)
  ·intro y0 y1 y2 y3 y4 y5 y6
   unfold sutlerlaw02_SuffixBack.j1
   repeat' first
   | (with_reducible exact ih0 _ _ _ _ _ _ _ _)
   | (with_reducible exact ih1 _)
   | (with_reducible exact ih2 _ _ _ _ _ _ _)
   | (with_reducible exact suffix_ParseBytes.mono _ _)
   | (with_reducible exact suffix_PrintBytes.mono _ _)
   | (with_reducible exact sutlerlaw02_again_at_suffix_PrintBytes_suffix_ParseBytes.mono _ _ _)
   | (with_reducible exact sutlerlaw02_live.mono _)
   | (with_reducible exact LeO.refl _)
   | (with_reducible exact LeO.none _)
   | (with_reducible refine LeO.ite ?_ ?_)
   | (with_reducible refine LeO.bind ?_ (fun _ => ?_))
   | exact ih0 _ _ _ _ _ _ _ _
   | exact ih1 _
   | exact ih2 _ _ _ _ _ _ _
   | exact suffix_ParseBytes.mono _ _
   | exact suffix_PrintBytes.mono _ _
   | exact sutlerlaw02_again_at_suffix_PrintBytes_suffix_ParseBytes.mono _ _ _
   | exact sutlerlaw02_live.mono _
   | exact LeO.none _
   | refine LeO.ite ?_ ?_
   | refine LeO.bind ?_ (fun _ => ?_)
theorem sutlerlaw02_SuffixBack.mono : ∀ a0 a1 a2 k, LeO (sutlerlaw02_SuffixBack.f k a0 a1 a2) (sutlerlaw02_SuffixBack.f (k + 1) a0 a1 a2) := by
 intro a0 a1 a2 k
 obtain ⟨ih0, ih1, ih2⟩ := sutlerlaw02_SuffixBack.mono_l k
 unfold sutlerlaw02_SuffixBack.f
 repeat' first
   | (with_reducible exact ih0 _ _ _ _ _ _ _ _)
   | (with_reducible exact ih1 _)
   | (with_reducible exact ih2 _ _ _ _ _ _ _)
   | (with_reducible exact suffix_ParseBytes.mono _ _)
   | (with_reducible exact suffix_PrintBytes.mono _ _)
   | (with_reducible exact sutlerlaw02_again_at_suffix_PrintBytes_suffix_ParseBytes.mono _ _ _)
   | (with_reducible exact sutlerlaw02_live.mono _)
   | (with_reducible exact LeO.refl _)
   | (with_reducible exact LeO.none _)
   | (with_reducible refine LeO.ite ?_ ?_)
   | (with_reducible refine LeO.bind ?_ (fun _ => ?_))
   | exact ih0 _ _ _ _ _ _ _ _
   | exact ih1 _
   | exact ih2 _ _ _ _ _ _ _
   | exact suffix_ParseBytes.mono _ _
   | exact suffix_PrintBytes.mono _ _
   | exact sutlerlaw02_again_at_suffix_PrintBytes_suffix_ParseBytes.mono _ _ _
   | exact sutlerlaw02_live.mono _
   | exact LeO.none _
   | refine LeO.ite ?_ ?_
   | refine LeO.bind ?_ (fun _ => ?_)
set_option maxHeartbeats 8000000 in
set_option maxRecDepth 100000 in
theorem sutlerlaw02_SuffixBack.calls (k : Nat) (a0 : Int) (a1 : Int) (a2 : ByteArray) (r : Bool) (w : World) (hg : Vars w) (h : sutlerlaw02_SuffixBack.f k a0 a1 a2 = some r) (hrT_ : r = true := by rfl) :
  Calls Tryd.prog 6 #[.int .i64 a0, .int .i64 a1, .string a2] w fun e w' => e = .returned (.bool r) ∧ Below w.heap.size w w' := by
 have HB := Aside0.mk (Below.refl w.heap.size w)
 have HV := Aside0.mk hg
 clear hg
 have H : ((suffix_PrintCPU.f a0).bind fun bt229 => ((suffix_PrintBytes.f k a0).bind fun bt231 => ((suffix_PrintMoney.f a0).bind fun bt233 => (if bt229.2 = bt231.2 then (sutlerlaw02_SuffixBack.j0 k a0 a1 a2 bt229.1 bt229.2 bt231.1 bt233.1 (bt229.2 != bt233.2)) else (sutlerlaw02_SuffixBack.j0 k a0 a1 a2 bt229.1 bt229.2 bt231.1 bt233.1 true))))) = some r := h
 clear h
 replace H := Option.bind_eq_some_iff.mp H
 obtain ⟨⟨t229, t230⟩, A40, H⟩ := H
 replace H : ((suffix_PrintBytes.f k a0).bind fun bt231 => ((suffix_PrintMoney.f a0).bind fun bt233 => (if t230 = bt231.2 then (sutlerlaw02_SuffixBack.j0 k a0 a1 a2 t229 t230 bt231.1 bt233.1 (t230 != bt233.2)) else (sutlerlaw02_SuffixBack.j0 k a0 a1 a2 t229 t230 bt231.1 bt233.1 true)))) = some r := H
 have A4 := Aside0.mk A40
 clear A40
 replace H := Option.bind_eq_some_iff.mp H
 obtain ⟨⟨t231, t232⟩, A50, H⟩ := H
 replace H : ((suffix_PrintMoney.f a0).bind fun bt233 => (if t230 = t232 then (sutlerlaw02_SuffixBack.j0 k a0 a1 a2 t229 t230 t231 bt233.1 (t230 != bt233.2)) else (sutlerlaw02_SuffixBack.j0 k a0 a1 a2 t229 t230 t231 bt233.1 true))) = some r := H
 have A5 := Aside0.mk A50
 clear A50
 replace H := Option.bind_eq_some_iff.mp H
 obtain ⟨⟨t233, t234⟩, A60, H⟩ := H
 replace H : (if t230 = t232 then (sutlerlaw02_SuffixBack.j0 k a0 a1 a2 t229 t230 t231 t233 (t230 != t234)) else (sutlerlaw02_SuffixBack.j0 k a0 a1 a2 t229 t230 t231 t233 true)) = some r := H
 have A6 := Aside0.mk A60
 clear A60
 have HC7 := Aside0.mk H
 clear H
 go_enter Tryd.func6, Tryd.ntmps6
 go_upto_region 4 with (first | ((with_reducible refine gate_callee (f := 16) rfl ?_); refine goesL_ (some 33) rfl rfl Tryd.func16 (by kernel_rfl) rfl #[.int .i64 a0] rfl (by (try simp only [List.map_toArray, List.map_cons, List.map_nil]); first | done | rfl | (simp only [List.length_drop, List.length_take]; rfl)) ?_; (with_reducible refine (suffix_PrintCPU.calls a0 t229 t230 _ ?side1 A4.out).mono ?_); (case side1 => exact Vars_below HV.out (by repeat (first | (with_reducible first | exact HB.out | apply below_alloc | apply pw_below_drewN | apply below_drew1) | exact HB.out))); rintro e w8 ⟨rfl, hb⟩; refine ⟨_, rfl, ?_⟩; have n0_ := Aside0.mk (below_step (by repeat (first | (with_reducible first | exact HB.out | apply below_alloc | apply pw_below_drewN | apply below_drew1) | exact HB.out)) hb); clear HB; have HB := n0_; clear n0_; (try clear hb); (try clear hb2); (try clear hk); (try clear hi)) | ((with_reducible refine gate_callee (f := 18) rfl ?_); refine goesL_ (some 38) rfl rfl Tryd.func18 (by kernel_rfl) rfl #[.int .i64 a0] rfl (by (try simp only [List.map_toArray, List.map_cons, List.map_nil]); first | done | rfl | (simp only [List.length_drop, List.length_take]; rfl)) ?_; (with_reducible refine (suffix_PrintBytes.calls k a0 t231 t232 _ ?side1 A5.out).mono ?_); (case side1 => exact Vars_below HV.out (by repeat (first | (with_reducible first | exact HB.out | apply below_alloc | apply pw_below_drewN | apply below_drew1) | exact HB.out))); rintro e w9 ⟨rfl, hb⟩; refine ⟨_, rfl, ?_⟩; have n0_ := Aside0.mk (below_step (by repeat (first | (with_reducible first | exact HB.out | apply below_alloc | apply pw_below_drewN | apply below_drew1) | exact HB.out)) hb); clear HB; have HB := n0_; clear n0_; (try clear hb); (try clear hb2); (try clear hk); (try clear hi)) | ((with_reducible refine gate_callee (f := 11) rfl ?_); refine goesL_ (some 43) rfl rfl Tryd.func11 (by kernel_rfl) rfl #[.int .i64 a0] rfl (by (try simp only [List.map_toArray, List.map_cons, List.map_nil]); first | done | rfl | (simp only [List.length_drop, List.length_take]; rfl)) ?_; (with_reducible refine (suffix_PrintMoney.calls a0 t233 t234 _ ?side1 A6.out).mono ?_); (case side1 => exact Vars_below HV.out (by repeat (first | (with_reducible first | exact HB.out | apply below_alloc | apply pw_below_drewN | apply below_drew1) | exact HB.out))); rintro e w10 ⟨rfl, hb⟩; refine ⟨_, rfl, ?_⟩; have n0_ := Aside0.mk (below_step (by repeat (first | (with_reducible first | exact HB.out | apply below_alloc | apply pw_below_drewN | apply below_drew1) | exact HB.out)) hb); clear HB; have HB := n0_; clear n0_; (try clear hb); (try clear hb2); (try clear hk); (try clear hi)))
 (try simp only [Act.put, List.setIfInBounds_toArray, List.set_cons_zero, List.set_cons_succ])
 go_cut [53] (fun v53 wc => ∃ (kq : Nat) (x53_6 : Bool), v53 = .bool x53_6 ∧ Aside0 (sutlerlaw02_SuffixBack.j0 kq a0 a1 a2 t229 t230 t231 t233 x53_6 = some r) ∧ Aside0 (kq ≤ k) ∧ Aside0 (Below w.heap.size w wc))
 case first =>
  have H := HC7.out
  clear HC7
  by_cases c11 : t230 = t232
  ·rw [if_pos c11] at H
   have c11b0 : (t230 == t232) = true := beq_iff_eq.mpr c11
   have c11b1 : (t230 != t232) = false := bne_eq_false_iff_eq.mpr c11
   clear c11
   (first | rw [c11b0] | (simp only [i64_w, i32_w]; rw [c11b0]) | skip)
   have H' := Aside0.mk H
   clear H
   go_wp2
   go_meet
   case rel => exact ⟨_, ((t230 != t234)), (by first | rfl | (simp; done) | (simp [*]; done) | (simp [ne_nil_]; done)), H', ⟨by first | omega | exact Nat.le_refl _⟩, ⟨by repeat (first | (with_reducible first | exact HB.out | apply below_alloc | apply pw_below_drewN | apply below_drew1) | exact HB.out)⟩⟩
  ·rw [if_neg c11] at H
   have c11b0 : (t230 == t232) = false := beq_eq_false_iff_ne.mpr c11
   have c11b1 : (t230 != t232) = true := bne_iff_ne.mpr c11
   (first | rw [c11b0] | (simp only [i64_w, i32_w]; rw [c11b0]) | skip)
   have H' := Aside0.mk H
   clear H
   go_wp2
   go_meet
   case rel => exact ⟨_, (true), (by first | rfl | (simp; done) | (simp [*]; done) | (simp [ne_nil_]; done)), H', ⟨by first | omega | exact Nat.le_refl _⟩, ⟨by repeat (first | (with_reducible first | exact HB.out | apply below_alloc | apply pw_below_drewN | apply below_drew1) | exact HB.out)⟩⟩
 case rest =>
  clear HC7
  try clear c1
  try clear p2
  try clear c6
  try clear c11
  try clear c11b0
  try clear c11b1
  obtain ⟨kq, x53_6, rfl, HA, HJ6, HB⟩ := hcut
  cases kq with
  | zero => exact absurd HA.out (by simp [sutlerlaw02_SuffixBack.j0])
  | succ kj6 =>
   have H := HA.out
   clear HA
   simp only [sutlerlaw02_SuffixBack.j0] at H
   by_cases c12 : x53_6 = true
   ·subst c12
    have H1 : (some false) = some r := by rw [if_pos rfl] at H; exact H
    clear H
    have H := H1
    clear H1
    exact absurd ((Option.some.inj H).trans hrT_) (by decide)
   ·replace c12 := Bool.eq_false_iff.mpr c12
    subst c12
    have H1 : (if t230 = 0 then ((suffix_ParseCPU.f t229).bind fun bt235 => ((suffix_ParseBytes.f kj6 t231).bind fun bt237 => ((suffix_ParseMoney.f t233).bind fun bt239 => (if bt235.2 = 0 then (if bt237.2 = 0 then (if bt239.2 = 0 then (if bt235.1 = a0 then (if bt237.1 = a0 then (sutlerlaw02_SuffixBack.j1 kj6 a0 a1 a2 t229 t231 t233 (bt239.1 != a0)) else (sutlerlaw02_SuffixBack.j1 kj6 a0 a1 a2 t229 t231 t233 true)) else (sutlerlaw02_SuffixBack.j1 kj6 a0 a1 a2 t229 t231 t233 true)) else (sutlerlaw02_SuffixBack.j1 kj6 a0 a1 a2 t229 t231 t233 true)) else (sutlerlaw02_SuffixBack.j1 kj6 a0 a1 a2 t229 t231 t233 true)) else (sutlerlaw02_SuffixBack.j1 kj6 a0 a1 a2 t229 t231 t233 true))))) else (sutlerlaw02_SuffixBack.j2 kj6 a2)) = some r := by rw [if_neg (show ¬ (false = true) by decide)] at H; exact H
    clear H
    have H := H1
    clear H1
    have HC13 := Aside0.mk H
    clear H
    go_upto_if 55 with (fail)
    go_cut [] (fun wc => ∃ (kq : Nat), Aside0 (sutlerlaw02_SuffixBack.j2 kq a2 = some r) ∧ Aside0 (kq ≤ kj6) ∧ Aside0 (Below w.heap.size w wc))
    case first =>
     have H := HC13.out
     clear HC13
     by_cases c14 : t230 = 0
     ·rw [if_pos c14] at H
      have c14b0 : (t230 == 0) = true := beq_iff_eq.mpr c14
      have c14b1 : (t230 != 0) = false := bne_eq_false_iff_eq.mpr c14
      clear c14
      (first | rw [c14b0] | (simp only [i64_w, i32_w]; rw [c14b0]) | skip)
      replace H := Option.bind_eq_some_iff.mp H
      obtain ⟨⟨t235, t236⟩, A150, H⟩ := H
      replace H : ((suffix_ParseBytes.f kj6 t231).bind fun bt237 => ((suffix_ParseMoney.f t233).bind fun bt239 => (if t236 = 0 then (if bt237.2 = 0 then (if bt239.2 = 0 then (if t235 = a0 then (if bt237.1 = a0 then (sutlerlaw02_SuffixBack.j1 kj6 a0 a1 a2 t229 t231 t233 (bt239.1 != a0)) else (sutlerlaw02_SuffixBack.j1 kj6 a0 a1 a2 t229 t231 t233 true)) else (sutlerlaw02_SuffixBack.j1 kj6 a0 a1 a2 t229 t231 t233 true)) else (sutlerlaw02_SuffixBack.j1 kj6 a0 a1 a2 t229 t231 t233 true)) else (sutlerlaw02_SuffixBack.j1 kj6 a0 a1 a2 t229 t231 t233 true)) else (sutlerlaw02_SuffixBack.j1 kj6 a0 a1 a2 t229 t231 t233 true)))) = some r := H
      have A15 := Aside0.mk A150
      clear A150
      replace H := Option.bind_eq_some_iff.mp H
      obtain ⟨⟨t237, t238⟩, A160, H⟩ := H
      replace H : ((suffix_ParseMoney.f t233).bind fun bt239 => (if t236 = 0 then (if t238 = 0 then (if bt239.2 = 0 then (if t235 = a0 then (if t237 = a0 then (sutlerlaw02_SuffixBack.j1 kj6 a0 a1 a2 t229 t231 t233 (bt239.1 != a0)) else (sutlerlaw02_SuffixBack.j1 kj6 a0 a1 a2 t229 t231 t233 true)) else (sutlerlaw02_SuffixBack.j1 kj6 a0 a1 a2 t229 t231 t233 true)) else (sutlerlaw02_SuffixBack.j1 kj6 a0 a1 a2 t229 t231 t233 true)) else (sutlerlaw02_SuffixBack.j1 kj6 a0 a1 a2 t229 t231 t233 true)) else (sutlerlaw02_SuffixBack.j1 kj6 a0 a1 a2 t229 t231 t233 true))) = some r := H
      have A16 := Aside0.mk A160
      clear A160
      replace H := Option.bind_eq_some_iff.mp H
      obtain ⟨⟨t239, t240⟩, A170, H⟩ := H
      replace H : (if t236 = 0 then (if t238 = 0 then (if t240 = 0 then (if t235 = a0 then (if t237 = a0 then (sutlerlaw02_SuffixBack.j1 kj6 a0 a1 a2 t229 t231 t233 (t239 != a0)) else (sutlerlaw02_SuffixBack.j1 kj6 a0 a1 a2 t229 t231 t233 true)) else (sutlerlaw02_SuffixBack.j1 kj6 a0 a1 a2 t229 t231 t233 true)) else (sutlerlaw02_SuffixBack.j1 kj6 a0 a1 a2 t229 t231 t233 true)) else (sutlerlaw02_SuffixBack.j1 kj6 a0 a1 a2 t229 t231 t233 true)) else (sutlerlaw02_SuffixBack.j1 kj6 a0 a1 a2 t229 t231 t233 true)) = some r := H
      have A17 := Aside0.mk A170
      clear A170
      have HC18 := Aside0.mk H
      clear H
      go_upto_region 10 with (first | ((with_reducible refine gate_callee (f := 8) rfl ?_); refine goesL_ (some 58) rfl rfl Tryd.func8 (by kernel_rfl) rfl #[.string t229] rfl (by (try simp only [List.map_toArray, List.map_cons, List.map_nil]); first | done | rfl | (simp only [List.length_drop, List.length_take]; rfl)) ?_; (with_reducible refine (suffix_ParseCPU.calls t229 t235 t236 _ ?side1 A15.out).mono ?_); (case side1 => exact Vars_below HV.out (by repeat (first | (with_reducible first | exact HB.out | apply below_alloc | apply pw_below_drewN | apply below_drew1) | exact HB.out))); rintro e w19 ⟨rfl, hb⟩; refine ⟨_, rfl, ?_⟩; have n0_ := Aside0.mk (below_step (by repeat (first | (with_reducible first | exact HB.out | apply below_alloc | apply pw_below_drewN | apply below_drew1) | exact HB.out)) hb); clear HB; have HB := n0_; clear n0_; (try clear hb); (try clear hb2); (try clear hk); (try clear hi)) | ((with_reducible refine gate_callee (f := 9) rfl ?_); refine goesL_ (some 63) rfl rfl Tryd.func9 (by kernel_rfl) rfl #[.string t231] rfl (by (try simp only [List.map_toArray, List.map_cons, List.map_nil]); first | done | rfl | (simp only [List.length_drop, List.length_take]; rfl)) ?_; (with_reducible refine (suffix_ParseBytes.calls kj6 t231 t237 t238 _ ?side1 A16.out).mono ?_); (case side1 => exact Vars_below HV.out (by repeat (first | (with_reducible first | exact HB.out | apply below_alloc | apply pw_below_drewN | apply below_drew1) | exact HB.out))); rintro e w20 ⟨rfl, hb⟩; refine ⟨_, rfl, ?_⟩; have n0_ := Aside0.mk (below_step (by repeat (first | (with_reducible first | exact HB.out | apply below_alloc | apply pw_below_drewN | apply below_drew1) | exact HB.out)) hb); clear HB; have HB := n0_; clear n0_; (try clear hb); (try clear hb2); (try clear hk); (try clear hi)) | ((with_reducible refine gate_callee (f := 10) rfl ?_); refine goesL_ (some 68) rfl rfl Tryd.func10 (by kernel_rfl) rfl #[.string t233] rfl (by (try simp only [List.map_toArray, List.map_cons, List.map_nil]); first | done | rfl | (simp only [List.length_drop, List.length_take]; rfl)) ?_; (with_reducible refine (suffix_ParseMoney.calls t233 t239 t240 _ ?side1 A17.out).mono ?_); (case side1 => exact Vars_below HV.out (by repeat (first | (with_reducible first | exact HB.out | apply below_alloc | apply pw_below_drewN | apply below_drew1) | exact HB.out))); rintro e w21 ⟨rfl, hb⟩; refine ⟨_, rfl, ?_⟩; have n0_ := Aside0.mk (below_step (by repeat (first | (with_reducible first | exact HB.out | apply below_alloc | apply pw_below_drewN | apply below_drew1) | exact HB.out)) hb); clear HB; have HB := n0_; clear n0_; (try clear hb); (try clear hb2); (try clear hk); (try clear hi)))
      (try simp only [Act.put, List.setIfInBounds_toArray, List.set_cons_zero, List.set_cons_succ])
      go_cut [95] (fun v95 wc => ∃ (kq : Nat) (x95_17 : Bool), v95 = .bool x95_17 ∧ Aside0 (sutlerlaw02_SuffixBack.j1 kq a0 a1 a2 t229 t231 t233 x95_17 = some r) ∧ Aside0 (kq ≤ kj6) ∧ Aside0 (Below w.heap.size w wc))
      case first =>
       have H := HC18.out
       clear HC18
       by_cases c22 : t236 = 0
       ·rw [if_pos c22] at H
        have c22b0 : (t236 == 0) = true := beq_iff_eq.mpr c22
        have c22b1 : (t236 != 0) = false := bne_eq_false_iff_eq.mpr c22
        clear c22
        (first | rw [c22b0] | (simp only [i64_w, i32_w]; rw [c22b0]) | skip)
        by_cases c23 : t238 = 0
        ·rw [if_pos c23] at H
         have c23b0 : (t238 == 0) = true := beq_iff_eq.mpr c23
         have c23b1 : (t238 != 0) = false := bne_eq_false_iff_eq.mpr c23
         clear c23
         by_cases c24 : t240 = 0
         ·rw [if_pos c24] at H
          have c24b0 : (t240 == 0) = true := beq_iff_eq.mpr c24
          have c24b1 : (t240 != 0) = false := bne_eq_false_iff_eq.mpr c24
          clear c24
          by_cases c25 : t235 = a0
          ·rw [if_pos c25] at H
           have c25b0 : (t235 == a0) = true := beq_iff_eq.mpr c25
           have c25b1 : (t235 != a0) = false := bne_eq_false_iff_eq.mpr c25
           clear c25
           by_cases c26 : t237 = a0
           ·rw [if_pos c26] at H
            have c26b0 : (t237 == a0) = true := beq_iff_eq.mpr c26
            have c26b1 : (t237 != a0) = false := bne_eq_false_iff_eq.mpr c26
            clear c26
            have H' := Aside0.mk H
            clear H
            go_wp2
            go_meet
            case rel => exact ⟨_, ((t239 != a0)), (by first | rfl | (simp; done) | (simp [*]; done) | (simp [ne_nil_]; done)), H', ⟨by have := HJ6.out; first | omega | exact Nat.le_refl _⟩, ⟨by repeat (first | (with_reducible first | exact HB.out | apply below_alloc | apply pw_below_drewN | apply below_drew1) | exact HB.out)⟩⟩
           ·rw [if_neg c26] at H
            have c26b0 : (t237 == a0) = false := beq_eq_false_iff_ne.mpr c26
            have c26b1 : (t237 != a0) = true := bne_iff_ne.mpr c26
            have H' := Aside0.mk H
            clear H
            go_wp2
            go_meet
            case rel => exact ⟨_, (true), (by first | rfl | (simp; done) | (simp [*]; done) | (simp [ne_nil_]; done)), H', ⟨by have := HJ6.out; first | omega | exact Nat.le_refl _⟩, ⟨by repeat (first | (with_reducible first | exact HB.out | apply below_alloc | apply pw_below_drewN | apply below_drew1) | exact HB.out)⟩⟩
          ·rw [if_neg c25] at H
           have c25b0 : (t235 == a0) = false := beq_eq_false_iff_ne.mpr c25
           have c25b1 : (t235 != a0) = true := bne_iff_ne.mpr c25
           have H' := Aside0.mk H
           clear H
           go_wp2
           go_meet
           case rel => exact ⟨_, (true), (by first | rfl | (simp; done) | (simp [*]; done) | (simp [ne_nil_]; done)), H', ⟨by have := HJ6.out; first | omega | exact Nat.le_refl _⟩, ⟨by repeat (first | (with_reducible first | exact HB.out | apply below_alloc | apply pw_below_drewN | apply below_drew1) | exact HB.out)⟩⟩
         ·rw [if_neg c24] at H
          have c24b0 : (t240 == 0) = false := beq_eq_false_iff_ne.mpr c24
          have c24b1 : (t240 != 0) = true := bne_iff_ne.mpr c24
          have H' := Aside0.mk H
          clear H
          go_wp2
          go_meet
          case rel => exact ⟨_, (true), (by first | rfl | (simp; done) | (simp [*]; done) | (simp [ne_nil_]; done)), H', ⟨by have := HJ6.out; first | omega | exact Nat.le_refl _⟩, ⟨by repeat (first | (with_reducible first | exact HB.out | apply below_alloc | apply pw_below_drewN | apply below_drew1) | exact HB.out)⟩⟩
        ·rw [if_neg c23] at H
         have c23b0 : (t238 == 0) = false := beq_eq_false_iff_ne.mpr c23
         have c23b1 : (t238 != 0) = true := bne_iff_ne.mpr c23
         have H' := Aside0.mk H
         clear H
         go_wp2
         go_meet
         case rel => exact ⟨_, (true), (by first | rfl | (simp; done) | (simp [*]; done) | (simp [ne_nil_]; done)), H', ⟨by have := HJ6.out; first | omega | exact Nat.le_refl _⟩, ⟨by repeat (first | (with_reducible first | exact HB.out | apply below_alloc | apply pw_below_drewN | apply below_drew1) | exact HB.out)⟩⟩
       ·rw [if_neg c22] at H
        have c22b0 : (t236 == 0) = false := beq_eq_false_iff_ne.mpr c22
        have c22b1 : (t236 != 0) = true := bne_iff_ne.mpr c22
        (first | rw [c22b0] | (simp only [i64_w, i32_w]; rw [c22b0]) | skip)
        have H' := Aside0.mk H
        clear H
        go_wp2
        go_meet
        case rel => exact ⟨_, (true), (by first | rfl | (simp; done) | (simp [*]; done) | (simp [ne_nil_]; done)), H', ⟨by have := HJ6.out; first | omega | exact Nat.le_refl _⟩, ⟨by repeat (first | (with_reducible first | exact HB.out | apply below_alloc | apply pw_below_drewN | apply below_drew1) | exact HB.out)⟩⟩
      case rest =>
       clear HC18
       try clear c1
       try clear c2
       try clear p2
       try clear c6
       try clear c8
       try clear c9
       try clear c10
       try clear c11
       try clear c11b0
       try clear c11b1
       try clear c12
       try clear c14
       try clear c14b0
       try clear c14b1
       try clear c16
       try clear c18
       try clear c22
       try clear c22b0
       try clear c22b1
       try clear c23
       try clear c23b0
       try clear c23b1
       try clear c24
       try clear c24b0
       try clear c24b1
       try clear c25
       try clear c25b0
       try clear c25b1
       try clear c26
       try clear c26b0
       try clear c26b1
       try clear p2
       obtain ⟨kq, x95_17, rfl, HA, HJ17, HB⟩ := hcut
       cases kq with
       | zero => exact absurd HA.out (by simp [sutlerlaw02_SuffixBack.j1])
       | succ kj17 =>
        have H := HA.out
        clear HA
        simp only [sutlerlaw02_SuffixBack.j1] at H
        by_cases c27 : x95_17 = true
        ·subst c27
         have H1 : (some false) = some r := by rw [if_pos rfl] at H; exact H
         clear H
         have H := H1
         clear H1
         exact absurd ((Option.some.inj H).trans hrT_) (by decide)
        ·replace c27 := Bool.eq_false_iff.mpr c27
         subst c27
         have H1 : ((suffix_PrintCPU.f a1).bind fun bt241 => ((suffix_PrintBytes.f kj17 a1).bind fun bt243 => ((suffix_PrintMoney.f a1).bind fun bt245 => (if bt241.2 = 0 then (if ((t229.toList == bt241.1.toList) != (a0 == a1)) = true then (some false) else (if ((t231.toList == bt243.1.toList) != (a0 == a1)) = true then (some false) else (if ((t233.toList == bt245.1.toList) != (a0 == a1)) = true then (some false) else (sutlerlaw02_SuffixBack.j2 kj17 a2)))) else (sutlerlaw02_SuffixBack.j2 kj17 a2))))) = some r := by rw [if_neg (show ¬ (false = true) by decide)] at H; exact H
         clear H
         have H := H1
         clear H1
         replace H := Option.bind_eq_some_iff.mp H
         obtain ⟨⟨t241, t242⟩, A280, H⟩ := H
         replace H : ((suffix_PrintBytes.f kj17 a1).bind fun bt243 => ((suffix_PrintMoney.f a1).bind fun bt245 => (if t242 = 0 then (if ((t229.toList == t241.toList) != (a0 == a1)) = true then (some false) else (if ((t231.toList == bt243.1.toList) != (a0 == a1)) = true then (some false) else (if ((t233.toList == bt245.1.toList) != (a0 == a1)) = true then (some false) else (sutlerlaw02_SuffixBack.j2 kj17 a2)))) else (sutlerlaw02_SuffixBack.j2 kj17 a2)))) = some r := H
         have A28 := Aside0.mk A280
         clear A280
         replace H := Option.bind_eq_some_iff.mp H
         obtain ⟨⟨t243, t244⟩, A290, H⟩ := H
         replace H : ((suffix_PrintMoney.f a1).bind fun bt245 => (if t242 = 0 then (if ((t229.toList == t241.toList) != (a0 == a1)) = true then (some false) else (if ((t231.toList == t243.toList) != (a0 == a1)) = true then (some false) else (if ((t233.toList == bt245.1.toList) != (a0 == a1)) = true then (some false) else (sutlerlaw02_SuffixBack.j2 kj17 a2)))) else (sutlerlaw02_SuffixBack.j2 kj17 a2))) = some r := H
         have A29 := Aside0.mk A290
         clear A290
         replace H := Option.bind_eq_some_iff.mp H
         obtain ⟨⟨t245, t246⟩, A300, H⟩ := H
         replace H : (if t242 = 0 then (if ((t229.toList == t241.toList) != (a0 == a1)) = true then (some false) else (if ((t231.toList == t243.toList) != (a0 == a1)) = true then (some false) else (if ((t233.toList == t245.toList) != (a0 == a1)) = true then (some false) else (sutlerlaw02_SuffixBack.j2 kj17 a2)))) else (sutlerlaw02_SuffixBack.j2 kj17 a2)) = some r := H
         have A30 := Aside0.mk A300
         clear A300
         by_cases c31 : t242 = 0
         ·rw [if_pos c31] at H
          have c31b0 : (t242 == 0) = true := beq_iff_eq.mpr c31
          have c31b1 : (t242 != 0) = false := bne_eq_false_iff_eq.mpr c31
          clear c31
          by_cases c32 : ((t229.toList == t241.toList) != (a0 == a1)) = true
          ·rw [if_pos c32] at H
           have c32b0 : ((t229.toList == t241.toList) != (a0 == a1)) = true := c32
           (try (have c32b1 : decide ((t229.toList == t241.toList) = (a0 == a1)) = false := by simpa using c32))
           (try (have c32b2 : ((t229.toList == t241.toList) == (a0 == a1)) = false := by simpa using c32))
           (try (have c32b3 : ¬ ((t229.toList == t241.toList) = (a0 == a1)) := by simpa using c32))
           clear c32
           exact absurd ((Option.some.inj H).trans hrT_) (by decide)
          ·rw [if_neg c32] at H
           have c32b0 : ((t229.toList == t241.toList) != (a0 == a1)) = false := by simpa using c32
           (try (have c32b1 : decide ((t229.toList == t241.toList) = (a0 == a1)) = true := by simpa using c32))
           (try (have c32b2 : ((t229.toList == t241.toList) == (a0 == a1)) = true := by simpa using c32))
           clear c32
           by_cases c36 : ((t231.toList == t243.toList) != (a0 == a1)) = true
           ·rw [if_pos c36] at H
            have c36b0 : ((t231.toList == t243.toList) != (a0 == a1)) = true := c36
            (try (have c36b1 : decide ((t231.toList == t243.toList) = (a0 == a1)) = false := by simpa using c36))
            (try (have c36b2 : ((t231.toList == t243.toList) == (a0 == a1)) = false := by simpa using c36))
            (try (have c36b3 : ¬ ((t231.toList == t243.toList) = (a0 == a1)) := by simpa using c36))
            clear c36
            exact absurd ((Option.some.inj H).trans hrT_) (by decide)
           ·rw [if_neg c36] at H
            have c36b0 : ((t231.toList == t243.toList) != (a0 == a1)) = false := by simpa using c36
            (try (have c36b1 : decide ((t231.toList == t243.toList) = (a0 == a1)) = true := by simpa using c36))
            (try (have c36b2 : ((t231.toList == t243.toList) == (a0 == a1)) = true := by simpa using c36))
            clear c36
            by_cases c40 : ((t233.toList == t245.toList) != (a0 == a1)) = true
            ·rw [if_pos c40] at H
             have c40b0 : ((t233.toList == t245.toList) != (a0 == a1)) = true := c40
             (try (have c40b1 : decide ((t233.toList == t245.toList) = (a0 == a1)) = false := by simpa using c40))
             (try (have c40b2 : ((t233.toList == t245.toList) == (a0 == a1)) = false := by simpa using c40))
             (try (have c40b3 : ¬ ((t233.toList == t245.toList) = (a0 == a1)) := by simpa using c40))
             clear c40
             exact absurd ((Option.some.inj H).trans hrT_) (by decide)
            ·rw [if_neg c40] at H
             have c40b0 : ((t233.toList == t245.toList) != (a0 == a1)) = false := by simpa using c40
             (try (have c40b1 : decide ((t233.toList == t245.toList) = (a0 == a1)) = true := by simpa using c40))
             (try (have c40b2 : ((t233.toList == t245.toList) == (a0 == a1)) = true := by simpa using c40))
             clear c40
             have H' := Aside0.mk H
             clear H
             go_wp2_with (first | ((with_reducible refine gate_callee (f := 16) rfl ?_); refine goesL_ (some 98) rfl rfl Tryd.func16 (by kernel_rfl) rfl #[.int .i64 a1] rfl (by (try simp only [List.map_toArray, List.map_cons, List.map_nil]); first | done | rfl | (simp only [List.length_drop, List.length_take]; rfl)) ?_; (with_reducible refine (suffix_PrintCPU.calls a1 t241 t242 _ ?side1 A28.out).mono ?_); (case side1 => exact Vars_below HV.out (by repeat (first | (with_reducible first | exact HB.out | apply below_alloc | apply pw_below_drewN | apply below_drew1) | exact HB.out))); rintro e w44 ⟨rfl, hb⟩; refine ⟨_, rfl, ?_⟩; have n0_ := Aside0.mk (below_step (by repeat (first | (with_reducible first | exact HB.out | apply below_alloc | apply pw_below_drewN | apply below_drew1) | exact HB.out)) hb); clear HB; have HB := n0_; clear n0_; (try clear hb); (try clear hb2); (try clear hk); (try clear hi)) | ((with_reducible refine gate_callee (f := 18) rfl ?_); refine goesL_ (some 103) rfl rfl Tryd.func18 (by kernel_rfl) rfl #[.int .i64 a1] rfl (by (try simp only [List.map_toArray, List.map_cons, List.map_nil]); first | done | rfl | (simp only [List.length_drop, List.length_take]; rfl)) ?_; (with_reducible refine (suffix_PrintBytes.calls kj17 a1 t243 t244 _ ?side1 A29.out).mono ?_); (case side1 => exact Vars_below HV.out (by repeat (first | (with_reducible first | exact HB.out | apply below_alloc | apply pw_below_drewN | apply below_drew1) | exact HB.out))); rintro e w45 ⟨rfl, hb⟩; refine ⟨_, rfl, ?_⟩; have n0_ := Aside0.mk (below_step (by repeat (first | (with_reducible first | exact HB.out | apply below_alloc | apply pw_below_drewN | apply below_drew1) | exact HB.out)) hb); clear HB; have HB := n0_; clear n0_; (try clear hb); (try clear hb2); (try clear hk); (try clear hi)) | ((with_reducible refine gate_callee (f := 11) rfl ?_); refine goesL_ (some 108) rfl rfl Tryd.func11 (by kernel_rfl) rfl #[.int .i64 a1] rfl (by (try simp only [List.map_toArray, List.map_cons, List.map_nil]); first | done | rfl | (simp only [List.length_drop, List.length_take]; rfl)) ?_; (with_reducible refine (suffix_PrintMoney.calls a1 t245 t246 _ ?side1 A30.out).mono ?_); (case side1 => exact Vars_below HV.out (by repeat (first | (with_reducible first | exact HB.out | apply below_alloc | apply pw_below_drewN | apply below_drew1) | exact HB.out))); rintro e w46 ⟨rfl, hb⟩; refine ⟨_, rfl, ?_⟩; have n0_ := Aside0.mk (below_step (by repeat (first | (with_reducible first | exact HB.out | apply below_alloc | apply pw_below_drewN | apply below_drew1) | exact HB.out)) hb); clear HB; have HB := n0_; clear n0_; (try clear hb); (try clear hb2); (try clear hk); (try clear hi)))
             go_meet
             case rel => exact ⟨_, H', ⟨by have := HJ6.out; have := HJ17.out; first | omega | exact Nat.le_refl _⟩, ⟨by repeat (first | (with_reducible first | exact HB.out | apply below_alloc | apply pw_below_drewN | apply below_drew1) | exact HB.out)⟩⟩
         ·rw [if_neg c31] at H
          have c31b0 : (t242 == 0) = false := beq_eq_false_iff_ne.mpr c31
          have c31b1 : (t242 != 0) = true := bne_iff_ne.mpr c31
          have H' := Aside0.mk H
          clear H
          go_wp2_with (first | ((with_reducible refine gate_callee (f := 16) rfl ?_); refine goesL_ (some 98) rfl rfl Tryd.func16 (by kernel_rfl) rfl #[.int .i64 a1] rfl (by (try simp only [List.map_toArray, List.map_cons, List.map_nil]); first | done | rfl | (simp only [List.length_drop, List.length_take]; rfl)) ?_; (with_reducible refine (suffix_PrintCPU.calls a1 t241 t242 _ ?side1 A28.out).mono ?_); (case side1 => exact Vars_below HV.out (by repeat (first | (with_reducible first | exact HB.out | apply below_alloc | apply pw_below_drewN | apply below_drew1) | exact HB.out))); rintro e w47 ⟨rfl, hb⟩; refine ⟨_, rfl, ?_⟩; have n0_ := Aside0.mk (below_step (by repeat (first | (with_reducible first | exact HB.out | apply below_alloc | apply pw_below_drewN | apply below_drew1) | exact HB.out)) hb); clear HB; have HB := n0_; clear n0_; (try clear hb); (try clear hb2); (try clear hk); (try clear hi)) | ((with_reducible refine gate_callee (f := 18) rfl ?_); refine goesL_ (some 103) rfl rfl Tryd.func18 (by kernel_rfl) rfl #[.int .i64 a1] rfl (by (try simp only [List.map_toArray, List.map_cons, List.map_nil]); first | done | rfl | (simp only [List.length_drop, List.length_take]; rfl)) ?_; (with_reducible refine (suffix_PrintBytes.calls kj17 a1 t243 t244 _ ?side1 A29.out).mono ?_); (case side1 => exact Vars_below HV.out (by repeat (first | (with_reducible first | exact HB.out | apply below_alloc | apply pw_below_drewN | apply below_drew1) | exact HB.out))); rintro e w48 ⟨rfl, hb⟩; refine ⟨_, rfl, ?_⟩; have n0_ := Aside0.mk (below_step (by repeat (first | (with_reducible first | exact HB.out | apply below_alloc | apply pw_below_drewN | apply below_drew1) | exact HB.out)) hb); clear HB; have HB := n0_; clear n0_; (try clear hb); (try clear hb2); (try clear hk); (try clear hi)) | ((with_reducible refine gate_callee (f := 11) rfl ?_); refine goesL_ (some 108) rfl rfl Tryd.func11 (by kernel_rfl) rfl #[.int .i64 a1] rfl (by (try simp only [List.map_toArray, List.map_cons, List.map_nil]); first | done | rfl | (simp only [List.length_drop, List.length_take]; rfl)) ?_; (with_reducible refine (suffix_PrintMoney.calls a1 t245 t246 _ ?side1 A30.out).mono ?_); (case side1 => exact Vars_below HV.out (by repeat (first | (with_reducible first | exact HB.out | apply below_alloc | apply pw_below_drewN | apply below_drew1) | exact HB.out))); rintro e w49 ⟨rfl, hb⟩; refine ⟨_, rfl, ?_⟩; have n0_ := Aside0.mk (below_step (by repeat (first | (with_reducible first | exact HB.out | apply below_alloc | apply pw_below_drewN | apply below_drew1) | exact HB.out)) hb); clear HB; have HB := n0_; clear n0_; (try clear hb); (try clear hb2); (try clear hk); (try clear hi)))
          go_meet
          case rel => exact ⟨_, H', ⟨by have := HJ6.out; have := HJ17.out; first | omega | exact Nat.le_refl _⟩, ⟨by repeat (first | (with_reducible first | exact HB.out | apply below_alloc | apply pw_below_drewN | apply below_drew1) | exact HB.out)⟩⟩
     ·rw [if_neg c14] at H
      have c14b0 : (t230 == 0) = false := beq_eq_false_iff_ne.mpr c14
      have c14b1 : (t230 != 0) = true := bne_iff_ne.mpr c14
      (first | rw [c14b0] | (simp only [i64_w, i32_w]; rw [c14b0]) | skip)
      have H' := Aside0.mk H
      clear H
      go_wp2
      go_meet
      case rel => exact ⟨_, H', ⟨by have := HJ6.out; first | omega | exact Nat.le_refl _⟩, ⟨by repeat (first | (with_reducible first | exact HB.out | apply below_alloc | apply pw_below_drewN | apply below_drew1) | exact HB.out)⟩⟩
    case rest =>
     clear HC13
     try clear c1
     try clear c2
     try clear p2
     try clear c3
     try clear c4
     try clear c6
     try clear c8
     try clear c9
     try clear c10
     try clear c11
     try clear c11b0
     try clear c11b1
     try clear c12
     try clear c14
     try clear c14b0
     try clear c14b1
     try clear c16
     try clear c18
     try clear c22
     try clear c22b0
     try clear c22b1
     try clear c23
     try clear c23b0
     try clear c23b1
     try clear c24
     try clear c24b0
     try clear c24b1
     try clear c25
     try clear c25b0
     try clear c25b1
     try clear c26
     try clear c26b0
     try clear c26b1
     try clear c27
     try clear c31
     try clear c31b0
     try clear c31b1
     try clear c32
     try clear c32b0
     try clear c32b1
     try clear c32b2
     try clear c36
     try clear c36b0
     try clear c36b1
     try clear c36b2
     try clear c40
     try clear c40b0
     try clear c40b1
     try clear c40b2
     try clear p2
     obtain ⟨kq, HA, HJ12, HB⟩ := hcut
     cases kq with
     | zero => exact absurd HA.out (by simp [sutlerlaw02_SuffixBack.j2])
     | succ kj12 =>
      have H := HA.out
      clear HA
      simp only [sutlerlaw02_SuffixBack.j2] at H
      replace H := Option.bind_eq_some_iff.mp H
      obtain ⟨⟨t247, t248⟩, A500, H⟩ := H
      replace H : ((suffix_ParseBytes.f kj12 a2).bind fun bt249 => ((suffix_ParseMoney.f a2).bind fun bt251 => ((sutlerlaw02_live.f kj12).bind fun t253 => (if t253 = true then ((sutlerlaw02_again_at_suffix_PrintCPU_suffix_ParseCPU.f t247 t248).bind fun t254 => (if t254 = true then ((sutlerlaw02_again_at_suffix_PrintBytes_suffix_ParseBytes.f kj12 bt249.1 bt249.2).bind fun t255 => (if t255 = true then ((sutlerlaw02_again_at_suffix_PrintMoney_suffix_ParseMoney.f bt251.1 bt251.2).bind fun t256 => (some t256)) else (some false))) else (some false))) else (some false))))) = some r := H
      have A50 := Aside0.mk A500
      clear A500
      replace H := Option.bind_eq_some_iff.mp H
      obtain ⟨⟨t249, t250⟩, A510, H⟩ := H
      replace H : ((suffix_ParseMoney.f a2).bind fun bt251 => ((sutlerlaw02_live.f kj12).bind fun t253 => (if t253 = true then ((sutlerlaw02_again_at_suffix_PrintCPU_suffix_ParseCPU.f t247 t248).bind fun t254 => (if t254 = true then ((sutlerlaw02_again_at_suffix_PrintBytes_suffix_ParseBytes.f kj12 t249 t250).bind fun t255 => (if t255 = true then ((sutlerlaw02_again_at_suffix_PrintMoney_suffix_ParseMoney.f bt251.1 bt251.2).bind fun t256 => (some t256)) else (some false))) else (some false))) else (some false)))) = some r := H
      have A51 := Aside0.mk A510
      clear A510
      replace H := Option.bind_eq_some_iff.mp H
      obtain ⟨⟨t251, t252⟩, A520, H⟩ := H
      replace H : ((sutlerlaw02_live.f kj12).bind fun t253 => (if t253 = true then ((sutlerlaw02_again_at_suffix_PrintCPU_suffix_ParseCPU.f t247 t248).bind fun t254 => (if t254 = true then ((sutlerlaw02_again_at_suffix_PrintBytes_suffix_ParseBytes.f kj12 t249 t250).bind fun t255 => (if t255 = true then ((sutlerlaw02_again_at_suffix_PrintMoney_suffix_ParseMoney.f t251 t252).bind fun t256 => (some t256)) else (some false))) else (some false))) else (some false))) = some r := H
      have A52 := Aside0.mk A520
      clear A520
      replace H := Option.bind_eq_some_iff.mp H
      obtain ⟨t253, A530, H⟩ := H
      replace H : (if t253 = true then ((sutlerlaw02_again_at_suffix_PrintCPU_suffix_ParseCPU.f t247 t248).bind fun t254 => (if t254 = true then ((sutlerlaw02_again_at_suffix_PrintBytes_suffix_ParseBytes.f kj12 t249 t250).bind fun t255 => (if t255 = true then ((sutlerlaw02_again_at_suffix_PrintMoney_suffix_ParseMoney.f t251 t252).bind fun t256 => (some t256)) else (some false))) else (some false))) else (some false)) = some r := H
      have A53 := Aside0.mk A530
      clear A530
      by_cases c54 : t253 = true
      ·subst c54
       have H1 : ((sutlerlaw02_again_at_suffix_PrintCPU_suffix_ParseCPU.f t247 t248).bind fun t254 => (if t254 = true then ((sutlerlaw02_again_at_suffix_PrintBytes_suffix_ParseBytes.f kj12 t249 t250).bind fun t255 => (if t255 = true then ((sutlerlaw02_again_at_suffix_PrintMoney_suffix_ParseMoney.f t251 t252).bind fun t256 => (some t256)) else (some false))) else (some false))) = some r := by rw [if_pos rfl] at H; exact H
       clear H
       have H := H1
       clear H1
       replace H := Option.bind_eq_some_iff.mp H
       obtain ⟨t254, A550, H⟩ := H
       replace H : (if t254 = true then ((sutlerlaw02_again_at_suffix_PrintBytes_suffix_ParseBytes.f kj12 t249 t250).bind fun t255 => (if t255 = true then ((sutlerlaw02_again_at_suffix_PrintMoney_suffix_ParseMoney.f t251 t252).bind fun t256 => (some t256)) else (some false))) else (some false)) = some r := H
       have A55 := Aside0.mk A550
       clear A550
       by_cases c56 : t254 = true
       ·subst c56
        have H1 : ((sutlerlaw02_again_at_suffix_PrintBytes_suffix_ParseBytes.f kj12 t249 t250).bind fun t255 => (if t255 = true then ((sutlerlaw02_again_at_suffix_PrintMoney_suffix_ParseMoney.f t251 t252).bind fun t256 => (some t256)) else (some false))) = some r := by rw [if_pos rfl] at H; exact H
        clear H
        have H := H1
        clear H1
        replace H := Option.bind_eq_some_iff.mp H
        obtain ⟨t255, A570, H⟩ := H
        replace H : (if t255 = true then ((sutlerlaw02_again_at_suffix_PrintMoney_suffix_ParseMoney.f t251 t252).bind fun t256 => (some t256)) else (some false)) = some r := H
        have A57 := Aside0.mk A570
        clear A570
        by_cases c58 : t255 = true
        ·subst c58
         have H1 : ((sutlerlaw02_again_at_suffix_PrintMoney_suffix_ParseMoney.f t251 t252).bind fun t256 => (some t256)) = some r := by rw [if_pos rfl] at H; exact H
         clear H
         have H := H1
         clear H1
         replace H := Option.bind_eq_some_iff.mp H
         obtain ⟨t256, A590, H⟩ := H
         replace H : (some t256) = some r := H
         have A59 := Aside0.mk A590
         clear A590
         subst hrT_
         obtain rfl := Option.some.inj H
         go_wp2_with (first | ((with_reducible refine gate_callee (f := 8) rfl ?_); refine goesL_ (some 142) rfl rfl Tryd.func8 (by kernel_rfl) rfl #[.string a2] rfl (by (try simp only [List.map_toArray, List.map_cons, List.map_nil]); first | done | rfl | (simp only [List.length_drop, List.length_take]; rfl)) ?_; (with_reducible refine (suffix_ParseCPU.calls a2 t247 t248 _ ?side1 A50.out).mono ?_); (case side1 => exact Vars_below HV.out (by repeat (first | (with_reducible first | exact HB.out | apply below_alloc | apply pw_below_drewN | apply below_drew1) | exact HB.out))); rintro e w60 ⟨rfl, hb⟩; refine ⟨_, rfl, ?_⟩; have n0_ := Aside0.mk (below_step (by repeat (first | (with_reducible first | exact HB.out | apply below_alloc | apply pw_below_drewN | apply below_drew1) | exact HB.out)) hb); clear HB; have HB := n0_; clear n0_; (try clear hb); (try clear hb2); (try clear hk); (try clear hi)) | ((with_reducible refine gate_callee (f := 9) rfl ?_); refine goesL_ (some 147) rfl rfl Tryd.func9 (by kernel_rfl) rfl #[.string a2] rfl (by (try simp only [List.map_toArray, List.map_cons, List.map_nil]); first | done | rfl | (simp only [List.length_drop, List.length_take]; rfl)) ?_; (with_reducible refine (suffix_ParseBytes.calls kj12 a2 t249 t250 _ ?side1 A51.out).mono ?_); (case side1 => exact Vars_below HV.out (by repeat (first | (with_reducible first | exact HB.out | apply below_alloc | apply pw_below_drewN | apply below_drew1) | exact HB.out))); rintro e w61 ⟨rfl, hb⟩; refine ⟨_, rfl, ?_⟩; have n0_ := Aside0.mk (below_step (by repeat (first | (with_reducible first | exact HB.out | apply below_alloc | apply pw_below_drewN | apply below_drew1) | exact HB.out)) hb); clear HB; have HB := n0_; clear n0_; (try clear hb); (try clear hb2); (try clear hk); (try clear hi)) | ((with_reducible refine gate_callee (f := 10) rfl ?_); refine goesL_ (some 152) rfl rfl Tryd.func10 (by kernel_rfl) rfl #[.string a2] rfl (by (try simp only [List.map_toArray, List.map_cons, List.map_nil]); first | done | rfl | (simp only [List.length_drop, List.length_take]; rfl)) ?_; (with_reducible refine (suffix_ParseMoney.calls a2 t251 t252 _ ?side1 A52.out).mono ?_); (case side1 => exact Vars_below HV.out (by repeat (first | (with_reducible first | exact HB.out | apply below_alloc | apply pw_below_drewN | apply below_drew1) | exact HB.out))); rintro e w62 ⟨rfl, hb⟩; refine ⟨_, rfl, ?_⟩; have n0_ := Aside0.mk (below_step (by repeat (first | (with_reducible first | exact HB.out | apply below_alloc | apply pw_below_drewN | apply below_drew1) | exact HB.out)) hb); clear HB; have HB := n0_; clear n0_; (try clear hb); (try clear hb2); (try clear hk); (try clear hi)) | ((with_reducible refine gate_callee (f := 12) rfl ?_); refine goesL_ (some 155) rfl rfl Tryd.func12 (by kernel_rfl) rfl #[] rfl (by (try simp only [List.map_toArray, List.map_cons, List.map_nil]); first | done | rfl | (simp only [List.length_drop, List.length_take]; rfl)) ?_; (with_reducible refine (sutlerlaw02_live.calls kj12  true _ ?side1 A53.out).mono ?_); (case side1 => exact Vars_below HV.out (by repeat (first | (with_reducible first | exact HB.out | apply below_alloc | apply pw_below_drewN | apply below_drew1) | exact HB.out))); rintro e w63 ⟨rfl, hb⟩; refine ⟨_, rfl, ?_⟩; have n0_ := Aside0.mk (below_step (by repeat (first | (with_reducible first | exact HB.out | apply below_alloc | apply pw_below_drewN | apply below_drew1) | exact HB.out)) hb); clear HB; have HB := n0_; clear n0_; (try clear hb); (try clear hb2); (try clear hk); (try clear hi)) | (go_at_call 21; (with_reducible refine (sutlerlaw02_again_at_suffix_PrintCPU_suffix_ParseCPU.calls t247 t248   true _ ?side1 A55.out).mono ?_); (case side1 => exact Vars_below HV.out (by repeat (first | (with_reducible first | exact HB.out | apply below_alloc | apply pw_below_drewN | apply below_drew1) | exact HB.out))); rintro e w64 ⟨rfl, hb⟩; have n0_ := Aside0.mk (below_step (by repeat (first | (with_reducible first | exact HB.out | apply below_alloc | apply pw_below_drewN | apply below_drew1) | exact HB.out)) hb); clear HB; have HB := n0_; clear n0_; (try clear hb); (try clear hb2); (try clear hk); (try clear hi)) | (go_at_call 21; (with_reducible refine (sutlerlaw02_again_at_suffix_PrintBytes_suffix_ParseBytes.calls kj12 t249 t250   true _ ?side1 A57.out).mono ?_); (case side1 => exact Vars_below HV.out (by repeat (first | (with_reducible first | exact HB.out | apply below_alloc | apply pw_below_drewN | apply below_drew1) | exact HB.out))); rintro e w65 ⟨rfl, hb⟩; have n0_ := Aside0.mk (below_step (by repeat (first | (with_reducible first | exact HB.out | apply below_alloc | apply pw_below_drewN | apply below_drew1) | exact HB.out)) hb); clear HB; have HB := n0_; clear n0_; (try clear hb); (try clear hb2); (try clear hk); (try clear hi)) | (go_at_call 21; (with_reducible refine (sutlerlaw02_again_at_suffix_PrintMoney_suffix_ParseMoney.calls t251 t252   true _ ?side1 A59.out).mono ?_); (case side1 => exact Vars_below HV.out (by repeat (first | (with_reducible first | exact HB.out | apply below_alloc | apply pw_below_drewN | apply below_drew1) | exact HB.out))); rintro e w66 ⟨rfl, hb⟩; have n0_ := Aside0.mk (below_step (by repeat (first | (with_reducible first | exact HB.out | apply below_alloc | apply pw_below_drewN | apply below_drew1) | exact HB.out)) hb); clear HB; have HB := n0_; clear n0_; (try clear hb); (try clear hb2); (try clear hk); (try clear hi)))
         go_ret
         exact ⟨by first | rfl | (simp [errW_none, errW_some] <;> rfl) | (simp [*, errW_none, errW_some] <;> rfl), by repeat (first | (with_reducible first | exact HB.out | apply below_alloc | apply pw_below_drewN | apply below_drew1) | exact HB.out)⟩
        ·replace c58 := Bool.eq_false_iff.mpr c58
         subst c58
         have H1 : (some false) = some r := by rw [if_neg (show ¬ (false = true) by decide)] at H; exact H
         clear H
         have H := H1
         clear H1
         exact absurd ((Option.some.inj H).trans hrT_) (by decide)
       ·replace c56 := Bool.eq_false_iff.mpr c56
        subst c56
        have H1 : (some false) = some r := by rw [if_neg (show ¬ (false = true) by decide)] at H; exact H
        clear H
        have H := H1
        clear H1
        exact absurd ((Option.some.inj H).trans hrT_) (by decide)
      ·replace c54 := Bool.eq_false_iff.mpr c54
       subst c54
       have H1 : (some false) = some r := by rw [if_neg (show ¬ (false = true) by decide)] at H; exact H
       clear H
       have H := H1
       clear H1
       exact absurd ((Option.some.inj H).trans hrT_) (by decide)

end Go.Proofs.YtafncdmclhdkdaaDoor.PAll
