-- written by a program of this session (the kit's print, turned): plain functions and their contracts
-- shrunk
import Derived.Test.YtafncdmclhdkdaaDoorPAllx0
import Derived.Test.YtafncdmclhdkdaaDoorPAllx1
import Derived.Test.YtafncdmclhdkdaaDoorPAllx2
import Derived.Test.YtafncdmclhdkdaaDoorPAllx3
namespace Go.Proofs.YtafncdmclhdkdaaDoor.PAll
open Go.RowKit Go.Proofs.YtafncdmclhdkdaaDoorW.PrintWords Go.Proofs.YtafncdmclhdkdaaDoorW.PrintLast Go.Proofs.YtafncdmclhdkdaaDoorW.PrintMore
attribute [local go_sem] max2_int min2_int max_two min_two max_three min_three max_four min_four   -- for this text's walks alone
set_option linter.unusedVariables false
set_option linter.unusedSimpArgs false

/-! ### sutlerlaw02_SuffixScale: function 7 -/
mutual
def sutlerlaw02_SuffixScale.j0 : Nat → Int → ByteArray → Bool → Option (Bool)
 | 0, _, _, _ => none
 | k + 1, x0, x3, x32 => if x32 = true then ((sutlerlaw02_live.f k).bind fun t259 => (some t259)) else (if x3.size + 1 ≤ 9223372036854775807 then ((suffix_ParseCPU.f (x3 ++ (⟨#[109]⟩ : ByteArray))).bind fun bt260 => (if bt260.2 = 0 then (sutlerlaw02_SuffixScale.j1 k (wrap64 (Int.tdiv x0 1000)) x3 (bt260.1 != (wrap64 (Int.tdiv x0 1000)))) else (sutlerlaw02_SuffixScale.j1 k (wrap64 (Int.tdiv x0 1000)) x3 true))) else (none))
def sutlerlaw02_SuffixScale.j1 : Nat → Int → ByteArray → Bool → Option (Bool)
 | 0, _, _, _ => none
 | k + 1, x0, x3, x48 => if x48 = true then (some false) else (sutlerlaw02_SuffixScale.l0 k x0 x3 (([(⟨#[]⟩ : ByteArray), (⟨#[75, 105]⟩ : ByteArray), (⟨#[77, 105]⟩ : ByteArray), (⟨#[71, 105]⟩ : ByteArray), (⟨#[84, 105]⟩ : ByteArray)] : List ByteArray)) 0)
def sutlerlaw02_SuffixScale.l0 : Nat → Int → ByteArray → List ByteArray → Int → Option (Bool)
 | 0, _, _, _, _ => none
 | k + 1, x0, x3, x7, x8 => if x8 < (x7.length : Int) then (if 0 ≤ x8 then (if x3.size + (rdOf ByteArray.empty x7 x8).size ≤ 9223372036854775807 then ((suffix_ParseBytes.f k (x3 ++ (rdOf ByteArray.empty x7 x8))).bind fun bt266 => (if 0 ≤ (IntKind.u64.wrap (wrap64 (10 * x8))) then (if x0 ≤ (shr .i64 1125899906842624 (IntKind.u64.wrap (wrap64 (10 * x8)))) then (if bt266.2 = 0 then (if bt266.1 = (shl .i64 x0 (IntKind.u64.wrap (wrap64 (10 * x8)))) then (if (x0 ≤ (shr .i64 1125899906842624 (IntKind.u64.wrap (wrap64 (10 * x8))))) then (sutlerlaw02_SuffixScale.l0 k x0 x3 x7 (wrap64 (x8 + 1))) else (if bt266.2 = 10 then (if bt266.1 = 0 then (sutlerlaw02_SuffixScale.l0 k x0 x3 x7 (wrap64 (x8 + 1))) else (some false)) else (some false))) else (some false)) else (some false)) else (if (x0 ≤ (shr .i64 1125899906842624 (IntKind.u64.wrap (wrap64 (10 * x8))))) then (sutlerlaw02_SuffixScale.l0 k x0 x3 x7 (wrap64 (x8 + 1))) else (if bt266.2 = 10 then (if bt266.1 = 0 then (sutlerlaw02_SuffixScale.l0 k x0 x3 x7 (wrap64 (x8 + 1))) else (some false)) else (some false)))) else (none))) else (none)) else (none)) else ((sutlerlaw02_live.f k).bind fun t268 => (some t268))
end
def sutlerlaw02_SuffixScale.f (k : Nat) (a0 : Int) : Option (Bool) := (suffix_PrintCPU.f a0).bind fun bt257 => (if a0 < 0 then (sutlerlaw02_SuffixScale.j0 k a0 bt257.1 true) else (if a0 > 1125899906842624 then (sutlerlaw02_SuffixScale.j0 k a0 bt257.1 true) else (if bt257.2 = 0 then (sutlerlaw02_SuffixScale.j0 k a0 bt257.1 ((Int.tmod a0 1000) != 0)) else (sutlerlaw02_SuffixScale.j0 k a0 bt257.1 true))))
theorem sutlerlaw02_SuffixScale.mono_l : ∀ k, (∀ y0 y1 y2, LeO (sutlerlaw02_SuffixScale.j0 k y0 y1 y2) (sutlerlaw02_SuffixScale.j0 (k + 1) y0 y1 y2)) ∧ (∀ y0 y1 y2, LeO (sutlerlaw02_SuffixScale.j1 k y0 y1 y2) (sutlerlaw02_SuffixScale.j1 (k + 1) y0 y1 y2)) ∧ (∀ y0 y1 y2 y3, LeO (sutlerlaw02_SuffixScale.l0 k y0 y1 y2 y3) (sutlerlaw02_SuffixScale.l0 (k + 1) y0 y1 y2 y3))
 | 0 => ⟨fun _ _ _ r h => by simp [sutlerlaw02_SuffixScale.j0] at h, fun _ _ _ r h => by simp [sutlerlaw02_SuffixScale.j1] at h, fun _ _ _ _ r h => by simp [sutlerlaw02_SuffixScale.l0] at h⟩
 | k + 1 => by
  obtain ⟨ih0, ih1, ih2⟩ := sutlerlaw02_SuffixScale.mono_l k
  refine ⟨?_, ?_, ?_⟩
  ·intro y0 y1 y2
   unfold sutlerlaw02_SuffixScale.j0
   repeat' first
   | (with_reducible exact ih0 _ _ _)
   | (with_reducible exact ih1 _ _ _)
   | (with_reducible exact ih2 _ _ _ _)
   | (with_reducible exact suffix_ParseBytes.mono _ _)
   | (with_reducible exact sutlerlaw02_live.mono _)
   | (with_reducible exact LeO.refl _)
   | (with_reducible exact LeO.none _)
   | (with_reducible refine LeO.ite ?_ ?_)
   | (with_reducible refine LeO.bind ?_ (fun _ => ?_))
   | exact ih0 _ _ _
   | exact ih1 _ _ _
   | exact ih2 _ _ _ _
   | exact suffix_ParseBytes.mono _ _
   | exact sutlerlaw02_live.mono _
   | exact LeO.none _
   | refine LeO.ite ?_ ?_
   | refine LeO.bind ?_ (fun _ => ?_)
  ·intro y0 y1 y2
   unfold sutlerlaw02_SuffixScale.j1
   repeat' first
   | (with_reducible exact ih0 _ _ _)
   | (with_reducible exact ih1 _ _ _)
   | (with_reducible exact ih2 _ _ _ _)
   | (with_reducible exact suffix_ParseBytes.mono _ _)
   | (with_reducible exact sutlerlaw02_live.mono _)
   | (with_reducible exact LeO.refl _)
   | (with_reducible exact LeO.none _)
   | (with_reducible refine LeO.ite ?_ ?_)
   | (with_reducible refine LeO.bind ?_ (fun _ => ?_))
   | exact ih0 _ _ _
   | exact ih1 _ _ _
   | exact ih2 _ _ _ _
   | exact suffix_ParseBytes.mono _ _
   | exact sutlerlaw02_live.mono _
   | exact LeO.none _
   | refine LeO.ite ?_ ?_
   | refine LeO.bind ?_ (fun _ => ?_)
  ·intro y0 y1 y2 y3
   unfold sutlerlaw02_SuffixScale.l0
   repeat' first
   | (with_reducible exact ih0 _ _ _)
   | (with_reducible exact ih1 _ _ _)
   | (with_reducible exact ih2 _ _ _ _)
   | (with_reducible exact suffix_ParseBytes.mono _ _)
   | (with_reducible exact sutlerlaw02_live.mono _)
   | (with_reducible exact LeO.refl _)
   | (with_reducible exact LeO.none _)
   | (with_reducible refine LeO.ite ?_ ?_)
   | (with_reducible refine LeO.bind ?_ (fun _ => ?_))
   | exact ih0 _ _ _
   | exact ih1 _ _ _
   | exact ih2 _ _ _ _
   | exact suffix_ParseBytes.mono _ _
   | exact sutlerlaw02_live.mono _
   | exact LeO.none _
   | refine LeO.ite ?_ ?_
   | refine LeO.bind ?_ (fun _ => ?_)
theorem sutlerlaw02_SuffixScale.mono : ∀ a0 k, LeO (sutlerlaw02_SuffixScale.f k a0) (sutlerlaw02_SuffixScale.f (k + 1) a0) := by
 intro a0 k
 obtain ⟨ih0, ih1, ih2⟩ := sutlerlaw02_SuffixScale.mono_l k
 unfold sutlerlaw02_SuffixScale.f
 repeat' first
   | (with_reducible exact ih0 _ _ _)
   | (with_reducible exact ih1 _ _ _)
   | (with_reducible exact ih2 _ _ _ _)
   | (with_reducible exact suffix_ParseBytes.mono _ _)
   | (with_reducible exact sutlerlaw02_live.mono _)
   | (with_reducible exact LeO.refl _)
   | (with_reducible exact LeO.none _)
   | (with_reducible refine LeO.ite ?_ ?_)
   | (with_reducible refine LeO.bind ?_ (fun _ => ?_))
   | exact ih0 _ _ _
   | exact ih1 _ _ _
   | exact ih2 _ _ _ _
   | exact suffix_ParseBytes.mono _ _
   | exact sutlerlaw02_live.mono _
   | exact LeO.none _
   | refine LeO.ite ?_ ?_
   | refine LeO.bind ?_ (fun _ => ?_)
set_option maxHeartbeats 8000000 in
set_option maxRecDepth 100000 in
theorem sutlerlaw02_SuffixScale.calls (k : Nat) (a0 : Int) (r : Bool) (w : World) (hg : Vars w) (h : sutlerlaw02_SuffixScale.f k a0 = some r) (hrT_ : r = true := by rfl) :
  Calls Tryd.prog 7 #[.int .i64 a0] w fun e w' => e = .returned (.bool r) ∧ Below w.heap.size w w' := by
 have HB := Aside0.mk (Below.refl w.heap.size w)
 have HV := Aside0.mk hg
 clear hg
 have H : ((suffix_PrintCPU.f a0).bind fun bt257 => (if a0 < 0 then (sutlerlaw02_SuffixScale.j0 k a0 bt257.1 true) else (if a0 > 1125899906842624 then (sutlerlaw02_SuffixScale.j0 k a0 bt257.1 true) else (if bt257.2 = 0 then (sutlerlaw02_SuffixScale.j0 k a0 bt257.1 ((Int.tmod a0 1000) != 0)) else (sutlerlaw02_SuffixScale.j0 k a0 bt257.1 true))))) = some r := h
 clear h
 replace H := Option.bind_eq_some_iff.mp H
 obtain ⟨⟨t257, t258⟩, A20, H⟩ := H
 replace H : (if a0 < 0 then (sutlerlaw02_SuffixScale.j0 k a0 t257 true) else (if a0 > 1125899906842624 then (sutlerlaw02_SuffixScale.j0 k a0 t257 true) else (if t258 = 0 then (sutlerlaw02_SuffixScale.j0 k a0 t257 ((Int.tmod a0 1000) != 0)) else (sutlerlaw02_SuffixScale.j0 k a0 t257 true)))) = some r := H
 have A2 := Aside0.mk A20
 clear A20
 have HC3 := Aside0.mk H
 clear H
 go_enter Tryd.func7, Tryd.ntmps7
 go_upto_region 2 with (first | ((with_reducible refine gate_callee (f := 16) rfl ?_); refine goesL_ (some 15) rfl rfl Tryd.func16 (by kernel_rfl) rfl #[.int .i64 a0] rfl (by (try simp only [List.map_toArray, List.map_cons, List.map_nil]); first | done | rfl | (simp only [List.length_drop, List.length_take]; rfl)) ?_; (with_reducible refine (suffix_PrintCPU.calls a0 t257 t258 _ ?side1 A2.out).mono ?_); (case side1 => exact Vars_below HV.out (by repeat (first | (with_reducible first | exact HB.out | apply below_alloc | apply pw_below_drewN | apply below_drew1) | exact HB.out))); rintro e w4 ⟨rfl, hb⟩; refine ⟨_, rfl, ?_⟩; have n0_ := Aside0.mk (below_step (by repeat (first | (with_reducible first | exact HB.out | apply below_alloc | apply pw_below_drewN | apply below_drew1) | exact HB.out)) hb); clear HB; have HB := n0_; clear n0_; (try clear hb); (try clear hb2); (try clear hk); (try clear hi)))
 (try simp only [Act.put, List.setIfInBounds_toArray, List.set_cons_zero, List.set_cons_succ])
 go_cut [32] (fun v32 wc => ∃ (kq : Nat) (x32_2 : Bool), v32 = .bool x32_2 ∧ Aside0 (sutlerlaw02_SuffixScale.j0 kq a0 t257 x32_2 = some r) ∧ Aside0 (kq ≤ k) ∧ Aside0 (Below w.heap.size w wc))
 case first =>
  have H := HC3.out
  clear HC3
  by_cases c5 : a0 < 0
  ·rw [if_pos c5] at H
   have c5b0 : decide (a0 < 0) = true := decide_eq_true c5
   clear c5
   (first | rw [c5b0] | (simp only [i64_w, i32_w]; rw [c5b0]) | skip)
   have H' := Aside0.mk H
   clear H
   go_wp2
   go_meet
   case rel => exact ⟨_, (true), (by first | rfl | (simp; done) | (simp [*]; done) | (simp [ne_nil_]; done)), H', ⟨by first | omega | exact Nat.le_refl _⟩, ⟨by repeat (first | (with_reducible first | exact HB.out | apply below_alloc | apply pw_below_drewN | apply below_drew1) | exact HB.out)⟩⟩
  ·rw [if_neg c5] at H
   have c5b0 : decide (a0 < 0) = false := decide_eq_false c5
   clear c5
   (first | rw [c5b0] | (simp only [i64_w, i32_w]; rw [c5b0]) | skip)
   by_cases c6 : a0 > 1125899906842624
   ·rw [if_pos c6] at H
    have c6b0 : decide (1125899906842624 < a0) = true := decide_eq_true c6
    clear c6
    have H' := Aside0.mk H
    clear H
    go_wp2
    go_meet
    case rel => exact ⟨_, (true), (by first | rfl | (simp; done) | (simp [*]; done) | (simp [ne_nil_]; done)), H', ⟨by first | omega | exact Nat.le_refl _⟩, ⟨by repeat (first | (with_reducible first | exact HB.out | apply below_alloc | apply pw_below_drewN | apply below_drew1) | exact HB.out)⟩⟩
   ·rw [if_neg c6] at H
    have c6b0 : decide (1125899906842624 < a0) = false := decide_eq_false c6
    clear c6
    by_cases c7 : t258 = 0
    ·rw [if_pos c7] at H
     have c7b0 : (t258 == 0) = true := beq_iff_eq.mpr c7
     have c7b1 : (t258 != 0) = false := bne_eq_false_iff_eq.mpr c7
     clear c7
     have H' := Aside0.mk H
     clear H
     go_wp2
     go_meet
     case rel => exact ⟨_, (((Int.tmod a0 1000) != 0)), (by first | rfl | (simp; done) | (simp [*]; done) | (simp [ne_nil_]; done)), H', ⟨by first | omega | exact Nat.le_refl _⟩, ⟨by repeat (first | (with_reducible first | exact HB.out | apply below_alloc | apply pw_below_drewN | apply below_drew1) | exact HB.out)⟩⟩
    ·rw [if_neg c7] at H
     have c7b0 : (t258 == 0) = false := beq_eq_false_iff_ne.mpr c7
     have c7b1 : (t258 != 0) = true := bne_iff_ne.mpr c7
     have H' := Aside0.mk H
     clear H
     go_wp2
     go_meet
     case rel => exact ⟨_, (true), (by first | rfl | (simp; done) | (simp [*]; done) | (simp [ne_nil_]; done)), H', ⟨by first | omega | exact Nat.le_refl _⟩, ⟨by repeat (first | (with_reducible first | exact HB.out | apply below_alloc | apply pw_below_drewN | apply below_drew1) | exact HB.out)⟩⟩
 case rest =>
  clear HC3
  try clear c1
  try clear p2
  try clear c5
  try clear c5b0
  try clear c6
  try clear c6b0
  try clear c7
  try clear c7b0
  try clear c7b1
  obtain ⟨kq, x32_2, rfl, HA, HJ2, HB⟩ := hcut
  cases kq with
  | zero => exact absurd HA.out (by simp [sutlerlaw02_SuffixScale.j0])
  | succ kj2 =>
   have H := HA.out
   clear HA
   simp only [sutlerlaw02_SuffixScale.j0] at H
   by_cases c8 : x32_2 = true
   ·subst c8
    have H1 : ((sutlerlaw02_live.f kj2).bind fun t259 => (some t259)) = some r := by rw [if_pos rfl] at H; exact H
    clear H
    have H := H1
    clear H1
    replace H := Option.bind_eq_some_iff.mp H
    obtain ⟨t259, A90, H⟩ := H
    replace H : (some t259) = some r := H
    have A9 := Aside0.mk A90
    clear A90
    subst hrT_
    obtain rfl := Option.some.inj H
    go_wp2_with (first | ((with_reducible refine gate_callee (f := 12) rfl ?_); refine goesL_ (some 33) rfl rfl Tryd.func12 (by kernel_rfl) rfl #[] rfl (by (try simp only [List.map_toArray, List.map_cons, List.map_nil]); first | done | rfl | (simp only [List.length_drop, List.length_take]; rfl)) ?_; (with_reducible refine (sutlerlaw02_live.calls kj2  true _ ?side1 A9.out).mono ?_); (case side1 => exact Vars_below HV.out (by repeat (first | (with_reducible first | exact HB.out | apply below_alloc | apply pw_below_drewN | apply below_drew1) | exact HB.out))); rintro e w10 ⟨rfl, hb⟩; refine ⟨_, rfl, ?_⟩; have n0_ := Aside0.mk (below_step (by repeat (first | (with_reducible first | exact HB.out | apply below_alloc | apply pw_below_drewN | apply below_drew1) | exact HB.out)) hb); clear HB; have HB := n0_; clear n0_; (try clear hb); (try clear hb2); (try clear hk); (try clear hi)))
    go_ret
    exact ⟨by first | rfl | (simp [errW_none, errW_some] <;> rfl) | (simp [*, errW_none, errW_some] <;> rfl), by repeat (first | (with_reducible first | exact HB.out | apply below_alloc | apply pw_below_drewN | apply below_drew1) | exact HB.out)⟩
   ·replace c8 := Bool.eq_false_iff.mpr c8
    subst c8
    have H1 : (if t257.size + 1 ≤ 9223372036854775807 then ((suffix_ParseCPU.f (t257 ++ (⟨#[109]⟩ : ByteArray))).bind fun bt260 => (if bt260.2 = 0 then (sutlerlaw02_SuffixScale.j1 kj2 (wrap64 (Int.tdiv a0 1000)) t257 (bt260.1 != (wrap64 (Int.tdiv a0 1000)))) else (sutlerlaw02_SuffixScale.j1 kj2 (wrap64 (Int.tdiv a0 1000)) t257 true))) else (none)) = some r := by rw [if_neg (show ¬ (false = true) by decide)] at H; exact H
    clear H
    have H := H1
    clear H1
    by_cases c11 : t257.size + 1 ≤ 9223372036854775807
    ·rw [if_pos c11] at H
     have c11b0 := eq_true c11
     have c11b1 : decide (t257.size + 1 ≤ 9223372036854775807) = true := decide_eq_true c11
     try have c11b2 : (9223372036854775807 < t257.size + 1) = False := eq_false (Nat.not_lt.2 c11)
     try (have c11s_ := c11; simp only [ByteArray.size_append, ByteArray.size_mk', List.size_toArray, List.length_cons, List.length_nil, Nat.zero_add] at c11s_; have c11b3 := eq_true c11s_; have c11b4 := eq_false (Nat.not_lt.2 c11s_); clear c11s_)
     replace H := Option.bind_eq_some_iff.mp H
     obtain ⟨⟨t260, t261⟩, A120, H⟩ := H
     replace H : (if t261 = 0 then (sutlerlaw02_SuffixScale.j1 kj2 (wrap64 (Int.tdiv a0 1000)) t257 (t260 != (wrap64 (Int.tdiv a0 1000)))) else (sutlerlaw02_SuffixScale.j1 kj2 (wrap64 (Int.tdiv a0 1000)) t257 true)) = some r := H
     have A12 := Aside0.mk A120
     clear A120
     have HC13 := Aside0.mk H
     clear H
     go_upto_region 6 with (first | ((with_reducible refine gate_callee (f := 8) rfl ?_); refine goesL_ (some 39) rfl rfl Tryd.func8 (by kernel_rfl) rfl #[.string (t257 ++ (⟨#[109]⟩ : ByteArray))] rfl (by (try simp only [List.map_toArray, List.map_cons, List.map_nil]); first | done | rfl | (simp only [List.length_drop, List.length_take]; rfl)) ?_; (with_reducible refine (suffix_ParseCPU.calls (t257 ++ (⟨#[109]⟩ : ByteArray)) t260 t261 _ ?side1 A12.out).mono ?_); (case side1 => exact Vars_below HV.out (by repeat (first | (with_reducible first | exact HB.out | apply below_alloc | apply pw_below_drewN | apply below_drew1) | exact HB.out))); rintro e w14 ⟨rfl, hb⟩; refine ⟨_, rfl, ?_⟩; have n0_ := Aside0.mk (below_step (by repeat (first | (with_reducible first | exact HB.out | apply below_alloc | apply pw_below_drewN | apply below_drew1) | exact HB.out)) hb); clear HB; have HB := n0_; clear n0_; (try clear hb); (try clear hb2); (try clear hk); (try clear hi)))
     (try simp only [Act.put, List.setIfInBounds_toArray, List.set_cons_zero, List.set_cons_succ])
     go_cut [48] (fun v48 wc => ∃ (kq : Nat) (x48_12 : Bool), v48 = .bool x48_12 ∧ Aside0 (sutlerlaw02_SuffixScale.j1 kq (wrap64 (Int.tdiv a0 1000)) t257 x48_12 = some r) ∧ Aside0 (kq ≤ kj2) ∧ Aside0 (Below w.heap.size w wc))
     case first =>
      have H := HC13.out
      clear HC13
      by_cases c15 : t261 = 0
      ·rw [if_pos c15] at H
       have c15b0 : (t261 == 0) = true := beq_iff_eq.mpr c15
       have c15b1 : (t261 != 0) = false := bne_eq_false_iff_eq.mpr c15
       clear c15
       (first | rw [c15b0] | (simp only [i64_w, i32_w]; rw [c15b0]) | skip)
       have H' := Aside0.mk H
       clear H
       go_wp2
       go_meet
       case rel => exact ⟨_, ((t260 != (wrap64 (Int.tdiv a0 1000)))), (by first | rfl | (simp; done) | (simp [*]; done) | (simp [ne_nil_]; done)), H', ⟨by have := HJ2.out; first | omega | exact Nat.le_refl _⟩, ⟨by repeat (first | (with_reducible first | exact HB.out | apply below_alloc | apply pw_below_drewN | apply below_drew1) | exact HB.out)⟩⟩
      ·rw [if_neg c15] at H
       have c15b0 : (t261 == 0) = false := beq_eq_false_iff_ne.mpr c15
       have c15b1 : (t261 != 0) = true := bne_iff_ne.mpr c15
       (first | rw [c15b0] | (simp only [i64_w, i32_w]; rw [c15b0]) | skip)
       have H' := Aside0.mk H
       clear H
       go_wp2
       go_meet
       case rel => exact ⟨_, (true), (by first | rfl | (simp; done) | (simp [*]; done) | (simp [ne_nil_]; done)), H', ⟨by have := HJ2.out; first | omega | exact Nat.le_refl _⟩, ⟨by repeat (first | (with_reducible first | exact HB.out | apply below_alloc | apply pw_below_drewN | apply below_drew1) | exact HB.out)⟩⟩
     case rest =>
      clear HC13
      try clear c1
      try clear p2
      try clear c5
      try clear c5b0
      try clear c6
      try clear c6b0
      try clear p6
      try clear c7
      try clear c7b0
      try clear c7b1
      try clear c8
      try clear c11
      try clear c11b0
      try clear c11b1
      try clear c11b2
      try clear c12
      try clear c15
      try clear c15b0
      try clear c15b1
      try clear p2
      obtain ⟨kq, x48_12, rfl, HA, HJ12, HB⟩ := hcut
      cases kq with
      | zero => exact absurd HA.out (by simp [sutlerlaw02_SuffixScale.j1])
      | succ kj12 =>
       have H := HA.out
       clear HA
       simp only [sutlerlaw02_SuffixScale.j1] at H
       by_cases c16 : x48_12 = true
       ·subst c16
        have H1 : (some false) = some r := by rw [if_pos rfl] at H; exact H
        clear H
        have H := H1
        clear H1
        exact absurd ((Option.some.inj H).trans hrT_) (by decide)
       ·replace c16 := Bool.eq_false_iff.mpr c16
        subst c16
        have H1 : (sutlerlaw02_SuffixScale.l0 kj12 (wrap64 (Int.tdiv a0 1000)) t257 (([(⟨#[]⟩ : ByteArray), (⟨#[75, 105]⟩ : ByteArray), (⟨#[77, 105]⟩ : ByteArray), (⟨#[71, 105]⟩ : ByteArray), (⟨#[84, 105]⟩ : ByteArray)] : List ByteArray)) 0) = some r := by rw [if_neg (show ¬ (false = true) by decide)] at H; exact H
        clear H
        have H := H1
        clear H1
        obtain ⟨y262, hy262⟩ : ∃ y_ : List ByteArray, y_ = (([(⟨#[]⟩ : ByteArray), (⟨#[75, 105]⟩ : ByteArray), (⟨#[77, 105]⟩ : ByteArray), (⟨#[71, 105]⟩ : ByteArray), (⟨#[84, 105]⟩ : ByteArray)] : List ByteArray)) := ⟨_, rfl⟩
        replace H : (sutlerlaw02_SuffixScale.l0 kj12 (wrap64 (Int.tdiv a0 1000)) t257 y262 0) = some r := by first | (rw [hy262]; with_reducible exact H) | (have H2_ := (Option.bind_some _ _).symm.trans H; rw [hy262]; with_reducible exact H2_) | (have H2_ := (Option.bind_some _ _).symm.trans H; with_reducible exact H2_) | with_reducible exact H | (rw [hy262]; exact H) | exact H
        have Ny262 := Aside0.mk hy262
        clear hy262
        have H' := Aside0.mk H
        clear H
        go_wp2_with (first | ((with_reducible refine gate_dst (N := 49) rfl ?_); refine Kd.R_lit Kd.string _ 9 ?hg (N := 49) ?hd (xs := ([(⟨#[]⟩ : ByteArray), (⟨#[75, 105]⟩ : ByteArray), (⟨#[77, 105]⟩ : ByteArray), (⟨#[71, 105]⟩ : ByteArray), (⟨#[84, 105]⟩ : ByteArray)] : List ByteArray)) (inner := [.string (⟨#[]⟩ : ByteArray), .string (⟨#[75, 105]⟩ : ByteArray), .string (⟨#[77, 105]⟩ : ByteArray), .string (⟨#[71, 105]⟩ : ByteArray), .string (⟨#[84, 105]⟩ : ByteArray)]) (ok := fun _ => True) (okp := fun _ => True) ?hr ?hp (fun _ hk => hk) trivial (Below.refl _ _) (Nat.le_refl _) (by simp) ?_; (case hd => rfl); (case hg => rfl); (case hr => first | (go_simp; done) | (go_simp; rfl)); (case hp => exact (Reps.one (show Kd.M Kd.string _ _ _ (⟨#[]⟩ : ByteArray) [.string (⟨#[]⟩ : ByteArray)] from rfl) (Reps.one (show Kd.M Kd.string _ _ _ (⟨#[75, 105]⟩ : ByteArray) [.string (⟨#[75, 105]⟩ : ByteArray)] from rfl) (Reps.one (show Kd.M Kd.string _ _ _ (⟨#[77, 105]⟩ : ByteArray) [.string (⟨#[77, 105]⟩ : ByteArray)] from rfl) (Reps.one (show Kd.M Kd.string _ _ _ (⟨#[71, 105]⟩ : ByteArray) [.string (⟨#[71, 105]⟩ : ByteArray)] from rfl) (Reps.one (show Kd.M Kd.string _ _ _ (⟨#[84, 105]⟩ : ByteArray) [.string (⟨#[84, 105]⟩ : ByteArray)] from rfl) (Reps.none _ _))))))); intro v263 w17 ho18 hb hg_ hnew_; clear hg_ hnew_; (first | rw [← Ny262.out] at ho18 | (simp only [Int.reduceToNat] at ho18; rw [← Ny262.out] at ho18)); have n0_ := Aside0.mk (Kd.R_lower ho18 (below_size (by repeat (first | (with_reducible first | exact HB.out | apply below_alloc | apply pw_below_drewN | apply below_drew1) | exact HB.out)))); have n1_ := Aside0.mk (below_step (by repeat (first | (with_reducible first | exact HB.out | apply below_alloc | apply pw_below_drewN | apply below_drew1) | exact HB.out)) hb); clear HB; have HO264 := n0_; have HB := n1_; clear n0_ n1_; clear hb ho18))
        go_loopg [8] kj12 (fun kq v8 w' => ∃ (x8_3 : Int), v8 = .int .i64 x8_3 ∧ Aside0 (sutlerlaw02_SuffixScale.l0 kq (wrap64 (Int.tdiv a0 1000)) t257 y262 x8_3 = some r) ∧ Aside0 (kq ≤ kj12) ∧ Aside0 (Kd.R Kd.string 9 w' w.heap.size (fun _ => True) v263 y262) ∧ Aside0 (Below w.heap.size w w'))
        case atStart => exact ⟨(0), (by first | rfl | (simp; done) | (simp [*]; done) | (simp [ne_nil_]; done)), H', ⟨Nat.le_refl _⟩, ⟨by (with_reducible repeat (first | apply Kd.R_alloc | apply Kd.R_drewN | apply Kd.R_drew)); exact HO264.out⟩, ⟨by repeat (first | (with_reducible first | exact HB.out | apply below_alloc | apply pw_below_drewN | apply below_drew1) | exact HB.out)⟩⟩
        case round =>
         clear H'
         try clear c1
         try clear p2
         try clear c5
         try clear c5b0
         try clear c6
         try clear c6b0
         try clear p6
         try clear c7
         try clear c7b0
         try clear c7b1
         try clear c8
         try clear c11
         try clear c11b0
         try clear c11b1
         try clear c11b2
         try clear c12
         try clear c15
         try clear c15b0
         try clear c15b1
         try clear c16
         try clear p2
         try clear p6
         obtain ⟨x8_3, rfl, HA, HK3, HO_7, HB⟩ := hrel
         cases gk with
         | zero => exact absurd HA.out (by simp [sutlerlaw02_SuffixScale.l0])
         | succ k3 =>
          have H := HA.out
          clear HA
          simp only [sutlerlaw02_SuffixScale.l0] at H
          by_cases c19 : x8_3 < (y262.length : Int)
          ·rw [if_pos c19] at H
           have c19b0 : decide (x8_3 < (y262.length : Int)) = true := decide_eq_true c19
           clear c19
           by_cases c20 : 0 ≤ x8_3
           ·rw [if_pos c20] at H
            have c20b0 : decide (0 ≤ x8_3) = true := decide_eq_true c20
            clear c20
            by_cases c21 : t257.size + (rdOf ByteArray.empty y262 x8_3).size ≤ 9223372036854775807
            ·rw [if_pos c21] at H
             have c21b0 := eq_true c21
             have c21b1 : decide (t257.size + (rdOf ByteArray.empty y262 x8_3).size ≤ 9223372036854775807) = true := decide_eq_true c21
             try have c21b2 : (9223372036854775807 < t257.size + (rdOf ByteArray.empty y262 x8_3).size) = False := eq_false (Nat.not_lt.2 c21)
             try (have c21s_ := c21; simp only [ByteArray.size_append, ByteArray.size_mk', List.size_toArray, List.length_cons, List.length_nil, Nat.zero_add] at c21s_; have c21b3 := eq_true c21s_; have c21b4 := eq_false (Nat.not_lt.2 c21s_); clear c21s_)
             replace H := Option.bind_eq_some_iff.mp H
             obtain ⟨⟨t266, t267⟩, A220, H⟩ := H
             replace H : (if 0 ≤ (IntKind.u64.wrap (wrap64 (10 * x8_3))) then (if (wrap64 (Int.tdiv a0 1000)) ≤ (shr .i64 1125899906842624 (IntKind.u64.wrap (wrap64 (10 * x8_3)))) then (if t267 = 0 then (if t266 = (shl .i64 (wrap64 (Int.tdiv a0 1000)) (IntKind.u64.wrap (wrap64 (10 * x8_3)))) then (if ((wrap64 (Int.tdiv a0 1000)) ≤ (shr .i64 1125899906842624 (IntKind.u64.wrap (wrap64 (10 * x8_3))))) then (sutlerlaw02_SuffixScale.l0 k3 (wrap64 (Int.tdiv a0 1000)) t257 y262 (wrap64 (x8_3 + 1))) else (if t267 = 10 then (if t266 = 0 then (sutlerlaw02_SuffixScale.l0 k3 (wrap64 (Int.tdiv a0 1000)) t257 y262 (wrap64 (x8_3 + 1))) else (some false)) else (some false))) else (some false)) else (some false)) else (if ((wrap64 (Int.tdiv a0 1000)) ≤ (shr .i64 1125899906842624 (IntKind.u64.wrap (wrap64 (10 * x8_3))))) then (sutlerlaw02_SuffixScale.l0 k3 (wrap64 (Int.tdiv a0 1000)) t257 y262 (wrap64 (x8_3 + 1))) else (if t267 = 10 then (if t266 = 0 then (sutlerlaw02_SuffixScale.l0 k3 (wrap64 (Int.tdiv a0 1000)) t257 y262 (wrap64 (x8_3 + 1))) else (some false)) else (some false)))) else (none)) = some r := H
             have A22 := Aside0.mk A220
             clear A220
             obtain ⟨ji23, hji23⟩ : ∃ j_ : Int, (IntKind.u64.wrap (wrap64 (10 * x8_3))) = j_ := ⟨_, rfl⟩
             replace H : (if 0 ≤ (ji23) then (if (wrap64 (Int.tdiv a0 1000)) ≤ (shr .i64 1125899906842624 (ji23)) then (if t267 = 0 then (if t266 = (shl .i64 (wrap64 (Int.tdiv a0 1000)) (ji23)) then (if ((wrap64 (Int.tdiv a0 1000)) ≤ (shr .i64 1125899906842624 (ji23))) then (sutlerlaw02_SuffixScale.l0 k3 (wrap64 (Int.tdiv a0 1000)) t257 y262 (wrap64 (x8_3 + 1))) else (if t267 = 10 then (if t266 = 0 then (sutlerlaw02_SuffixScale.l0 k3 (wrap64 (Int.tdiv a0 1000)) t257 y262 (wrap64 (x8_3 + 1))) else (some false)) else (some false))) else (some false)) else (some false)) else (if ((wrap64 (Int.tdiv a0 1000)) ≤ (shr .i64 1125899906842624 (ji23))) then (sutlerlaw02_SuffixScale.l0 k3 (wrap64 (Int.tdiv a0 1000)) t257 y262 (wrap64 (x8_3 + 1))) else (if t267 = 10 then (if t266 = 0 then (sutlerlaw02_SuffixScale.l0 k3 (wrap64 (Int.tdiv a0 1000)) t257 y262 (wrap64 (x8_3 + 1))) else (some false)) else (some false)))) else (none)) = some r := by first | (rw [hji23] at H; exact H) | (simp only [hji23] at H ⊢; exact H)
             (try rw [hji23] at A22)
             by_cases c24 : 0 ≤ (ji23)
             ·rw [if_pos c24] at H
              have c24b0 := eq_true c24
              have c24b1 : decide (0 ≤ (ji23)) = true := decide_eq_true c24
              clear c24
              obtain ⟨ji25, hji25⟩ : ∃ j_ : Int, (shr .i64 1125899906842624 (ji23)) = j_ := ⟨_, rfl⟩
              replace H : (if (wrap64 (Int.tdiv a0 1000)) ≤ (ji25) then (if t267 = 0 then (if t266 = (shl .i64 (wrap64 (Int.tdiv a0 1000)) (ji23)) then (if ((wrap64 (Int.tdiv a0 1000)) ≤ (ji25)) then (sutlerlaw02_SuffixScale.l0 k3 (wrap64 (Int.tdiv a0 1000)) t257 y262 (wrap64 (x8_3 + 1))) else (if t267 = 10 then (if t266 = 0 then (sutlerlaw02_SuffixScale.l0 k3 (wrap64 (Int.tdiv a0 1000)) t257 y262 (wrap64 (x8_3 + 1))) else (some false)) else (some false))) else (some false)) else (some false)) else (if ((wrap64 (Int.tdiv a0 1000)) ≤ (ji25)) then (sutlerlaw02_SuffixScale.l0 k3 (wrap64 (Int.tdiv a0 1000)) t257 y262 (wrap64 (x8_3 + 1))) else (if t267 = 10 then (if t266 = 0 then (sutlerlaw02_SuffixScale.l0 k3 (wrap64 (Int.tdiv a0 1000)) t257 y262 (wrap64 (x8_3 + 1))) else (some false)) else (some false)))) = some r := by first | (rw [hji25] at H; exact H) | (simp only [hji25] at H ⊢; exact H)
              (try rw [hji25] at A22)
              have hji25_ : (1125899906842624 / 2 ^ min (ji23).toNat 64) = ji25 := hji25
              have hji25z : (ji23) ≤ 64 → (1125899906842624 / 2 ^ (ji23).toNat) = ji25 := shr_small hji25
              by_cases c26 : (wrap64 (Int.tdiv a0 1000)) ≤ (ji25)
              ·rw [if_pos c26] at H
               have c26b0 : decide ((wrap64 (Int.tdiv a0 1000)) ≤ (ji25)) = true := decide_eq_true c26
               clear c26
               by_cases c27 : t267 = 0
               ·rw [if_pos c27] at H
                have c27b0 : (t267 == 0) = true := beq_iff_eq.mpr c27
                have c27b1 : (t267 != 0) = false := bne_eq_false_iff_eq.mpr c27
                clear c27
                have c28b0 := eq_true (of_decide_eq_true (by first | (with_reducible assumption) | assumption) : 0 ≤ (ji23))
                obtain ⟨ji29, hji29⟩ : ∃ j_ : Int, (shl .i64 (wrap64 (Int.tdiv a0 1000)) (ji23)) = j_ := ⟨_, rfl⟩
                replace H : (if t266 = (ji29) then (if ((wrap64 (Int.tdiv a0 1000)) ≤ (ji25)) then (sutlerlaw02_SuffixScale.l0 k3 (wrap64 (Int.tdiv a0 1000)) t257 y262 (wrap64 (x8_3 + 1))) else (if t267 = 10 then (if t266 = 0 then (sutlerlaw02_SuffixScale.l0 k3 (wrap64 (Int.tdiv a0 1000)) t257 y262 (wrap64 (x8_3 + 1))) else (some false)) else (some false))) else (some false)) = some r := by first | (rw [hji29] at H; exact H) | (simp only [hji29] at H ⊢; exact H)
                (try rw [hji29] at A22)
                have hji29_ : (IntKind.i64.wrap ((wrap64 (Int.tdiv a0 1000)) * 2 ^ min (ji23).toNat 64)) = ji29 := hji29
                have hji29z : (ji23) ≤ 64 → (IntKind.i64.wrap ((wrap64 (Int.tdiv a0 1000)) * 2 ^ (ji23).toNat)) = ji29 := shl_small hji29
                have hji29y : (wrap64 ((wrap64 (Int.tdiv a0 1000)) * 2 ^ min (ji23).toNat 64)) = ji29 := (i64_w _).symm.trans hji29_
                have hji29x : (ji23) ≤ 64 → (wrap64 ((wrap64 (Int.tdiv a0 1000)) * 2 ^ (ji23).toNat)) = ji29 := fun h_ => (i64_w _).symm.trans (hji29z h_)
                by_cases c30 : t266 = (ji29)
                ·rw [if_pos c30] at H
                 have c30b0 : (t266 == (ji29)) = true := beq_iff_eq.mpr c30
                 have c30b1 : (t266 != (ji29)) = false := bne_eq_false_iff_eq.mpr c30
                 clear c30
                 by_cases c31 : ((wrap64 (Int.tdiv a0 1000)) ≤ (ji25))
                 ·rw [if_pos c31] at H
                  have c31b0 : decide ((wrap64 (Int.tdiv a0 1000)) ≤ (ji25)) = true := decide_eq_true c31
                  clear c31
                  have H' := Aside0.mk H
                  clear H
                  obtain ⟨Ao32, co32, eo32⟩ := Kd.R_slice HO_7.out
                  subst eo32
                  have p265 : 0 ≤ (x8_3 : Int) := of_decide_eq_true (by first | (with_reducible assumption) | assumption)
                  have q265 : x8_3 < (y262.length : Int) := of_decide_eq_true (by first | (with_reducible assumption) | assumption)
                  obtain ⟨ad265, e265, hx265_0⟩ := Kd.at_string (Kd.R_reads' HO_7.out).2.2 x8_3 p265 q265
                  cases e265
                  replace p265 := eq_true p265
                  replace q265 := eq_true q265
                  go_wp2_with (first | ((with_reducible refine gate_callee (f := 9) rfl ?_); refine goesL_ (some 63) rfl rfl Tryd.func9 (by kernel_rfl) rfl #[.string (t257 ++ (rdOf ByteArray.empty y262 x8_3))] rfl (by (try simp only [List.map_toArray, List.map_cons, List.map_nil]); first | done | rfl | (simp only [List.length_drop, List.length_take]; rfl)) ?_; (with_reducible refine (suffix_ParseBytes.calls k3 (t257 ++ (rdOf ByteArray.empty y262 x8_3)) t266 t267 _ ?side1 A22.out).mono ?_); (case side1 => exact Vars_below HV.out (by repeat (first | (with_reducible first | exact HB.out | apply below_alloc | apply pw_below_drewN | apply below_drew1) | exact HB.out))); rintro e w33 ⟨rfl, hb⟩; refine ⟨_, rfl, ?_⟩; have n0_ := Aside0.mk (Kd.R_below (by (with_reducible repeat (first | apply Kd.R_alloc | apply Kd.R_drewN | apply Kd.R_drew)); exact HO_7.out) hb); have n1_ := Aside0.mk (below_step (by repeat (first | (with_reducible first | exact HB.out | apply below_alloc | apply pw_below_drewN | apply below_drew1) | exact HB.out)) hb); clear HO_7; clear HB; have HO_7 := n0_; have HB := n1_; clear n0_ n1_; (try clear hb); (try clear hb2); (try clear hk); (try clear hi)))
                  go_roundg k3
                  case measure => have := HJ2.out; have := HJ12.out; have := HK3.out; omega
                  case rel => exact ⟨(wrap64 (x8_3 + 1)), (by first | rfl | (simp; done) | (simp [*]; done) | (simp [ne_nil_]; done)), H', ⟨by have := HJ2.out; have := HJ12.out; have := HK3.out; omega⟩, ⟨by (with_reducible repeat (first | apply Kd.R_alloc | apply Kd.R_drewN | apply Kd.R_drew)); exact HO_7.out⟩, ⟨by repeat (first | (with_reducible first | exact HB.out | apply below_alloc | apply pw_below_drewN | apply below_drew1) | exact HB.out)⟩⟩
                 ·rw [if_neg c31] at H
                  have c31b0 : decide ((wrap64 (Int.tdiv a0 1000)) ≤ (ji25)) = false := decide_eq_false c31
                  exact absurd (c26b0.symm.trans c31b0) (by decide)
                ·rw [if_neg c30] at H
                 have c30b0 : (t266 == (ji29)) = false := beq_eq_false_iff_ne.mpr c30
                 have c30b1 : (t266 != (ji29)) = true := bne_iff_ne.mpr c30
                 exact absurd ((Option.some.inj H).trans hrT_) (by decide)
               ·rw [if_neg c27] at H
                have c27b0 : (t267 == 0) = false := beq_eq_false_iff_ne.mpr c27
                have c27b1 : (t267 != 0) = true := bne_iff_ne.mpr c27
                exact absurd ((Option.some.inj H).trans hrT_) (by decide)
              ·rw [if_neg c26] at H
               have c26b0 : decide ((wrap64 (Int.tdiv a0 1000)) ≤ (ji25)) = false := decide_eq_false c26
               clear c26
               by_cases c46 : ((wrap64 (Int.tdiv a0 1000)) ≤ (ji25))
               ·rw [if_pos c46] at H
                have c46b0 : decide ((wrap64 (Int.tdiv a0 1000)) ≤ (ji25)) = true := decide_eq_true c46
                exact absurd (c46b0.symm.trans c26b0) (by decide)
               ·rw [if_neg c46] at H
                have c46b0 : decide ((wrap64 (Int.tdiv a0 1000)) ≤ (ji25)) = false := decide_eq_false c46
                clear c46
                by_cases c49 : t267 = 10
                ·rw [if_pos c49] at H
                 have c49b0 : (t267 == 10) = true := beq_iff_eq.mpr c49
                 have c49b1 : (t267 != 10) = false := bne_eq_false_iff_eq.mpr c49
                 clear c49
                 by_cases c50 : t266 = 0
                 ·rw [if_pos c50] at H
                  have c50b0 : (t266 == 0) = true := beq_iff_eq.mpr c50
                  have c50b1 : (t266 != 0) = false := bne_eq_false_iff_eq.mpr c50
                  clear c50
                  have H' := Aside0.mk H
                  clear H
                  obtain ⟨Ao51, co51, eo51⟩ := Kd.R_slice HO_7.out
                  subst eo51
                  have p265 : 0 ≤ (x8_3 : Int) := of_decide_eq_true (by first | (with_reducible assumption) | assumption)
                  have q265 : x8_3 < (y262.length : Int) := of_decide_eq_true (by first | (with_reducible assumption) | assumption)
                  obtain ⟨ad265, e265, hx265_0⟩ := Kd.at_string (Kd.R_reads' HO_7.out).2.2 x8_3 p265 q265
                  cases e265
                  replace p265 := eq_true p265
                  replace q265 := eq_true q265
                  go_wp2_with (first | ((with_reducible refine gate_callee (f := 9) rfl ?_); refine goesL_ (some 63) rfl rfl Tryd.func9 (by kernel_rfl) rfl #[.string (t257 ++ (rdOf ByteArray.empty y262 x8_3))] rfl (by (try simp only [List.map_toArray, List.map_cons, List.map_nil]); first | done | rfl | (simp only [List.length_drop, List.length_take]; rfl)) ?_; (with_reducible refine (suffix_ParseBytes.calls k3 (t257 ++ (rdOf ByteArray.empty y262 x8_3)) t266 t267 _ ?side1 A22.out).mono ?_); (case side1 => exact Vars_below HV.out (by repeat (first | (with_reducible first | exact HB.out | apply below_alloc | apply pw_below_drewN | apply below_drew1) | exact HB.out))); rintro e w52 ⟨rfl, hb⟩; refine ⟨_, rfl, ?_⟩; have n0_ := Aside0.mk (Kd.R_below (by (with_reducible repeat (first | apply Kd.R_alloc | apply Kd.R_drewN | apply Kd.R_drew)); exact HO_7.out) hb); have n1_ := Aside0.mk (below_step (by repeat (first | (with_reducible first | exact HB.out | apply below_alloc | apply pw_below_drewN | apply below_drew1) | exact HB.out)) hb); clear HO_7; clear HB; have HO_7 := n0_; have HB := n1_; clear n0_ n1_; (try clear hb); (try clear hb2); (try clear hk); (try clear hi)))
                  go_roundg k3
                  case measure => have := HJ2.out; have := HJ12.out; have := HK3.out; omega
                  case rel => exact ⟨(wrap64 (x8_3 + 1)), (by first | rfl | (simp; done) | (simp [*]; done) | (simp [ne_nil_]; done)), H', ⟨by have := HJ2.out; have := HJ12.out; have := HK3.out; omega⟩, ⟨by (with_reducible repeat (first | apply Kd.R_alloc | apply Kd.R_drewN | apply Kd.R_drew)); exact HO_7.out⟩, ⟨by repeat (first | (with_reducible first | exact HB.out | apply below_alloc | apply pw_below_drewN | apply below_drew1) | exact HB.out)⟩⟩
                 ·rw [if_neg c50] at H
                  have c50b0 : (t266 == 0) = false := beq_eq_false_iff_ne.mpr c50
                  have c50b1 : (t266 != 0) = true := bne_iff_ne.mpr c50
                  exact absurd ((Option.some.inj H).trans hrT_) (by decide)
                ·rw [if_neg c49] at H
                 have c49b0 : (t267 == 10) = false := beq_eq_false_iff_ne.mpr c49
                 have c49b1 : (t267 != 10) = true := bne_iff_ne.mpr c49
                 exact absurd ((Option.some.inj H).trans hrT_) (by decide)
             ·rw [if_neg c24] at H
              exact absurd H (by simp)
            ·rw [if_neg c21] at H
             exact absurd H (by simp)
           ·rw [if_neg c20] at H
            exact absurd H (by simp)
          ·rw [if_neg c19] at H
           have c19b0 : decide (x8_3 < (y262.length : Int)) = false := decide_eq_false c19
           clear c19
           replace H := Option.bind_eq_some_iff.mp H
           obtain ⟨t268, A570, H⟩ := H
           replace H : (some t268) = some r := H
           have A57 := Aside0.mk A570
           clear A570
           subst hrT_
           obtain rfl := Option.some.inj H
           obtain ⟨Ao58, co58, eo58⟩ := Kd.R_slice HO_7.out
           subst eo58
           go_wp2_with (first | ((with_reducible refine gate_callee (f := 12) rfl ?_); refine goesL_ (some 97) rfl rfl Tryd.func12 (by kernel_rfl) rfl #[] rfl (by (try simp only [List.map_toArray, List.map_cons, List.map_nil]); first | done | rfl | (simp only [List.length_drop, List.length_take]; rfl)) ?_; (with_reducible refine (sutlerlaw02_live.calls k3  true _ ?side1 A57.out).mono ?_); (case side1 => exact Vars_below HV.out (by repeat (first | (with_reducible first | exact HB.out | apply below_alloc | apply pw_below_drewN | apply below_drew1) | exact HB.out))); rintro e w59 ⟨rfl, hb⟩; refine ⟨_, rfl, ?_⟩; have n0_ := Aside0.mk (Kd.R_below (by (with_reducible repeat (first | apply Kd.R_alloc | apply Kd.R_drewN | apply Kd.R_drew)); exact HO_7.out) hb); have n1_ := Aside0.mk (below_step (by repeat (first | (with_reducible first | exact HB.out | apply below_alloc | apply pw_below_drewN | apply below_drew1) | exact HB.out)) hb); clear HO_7; clear HB; have HO_7 := n0_; have HB := n1_; clear n0_ n1_; (try clear hb); (try clear hb2); (try clear hk); (try clear hi)))
           go_ret
           exact ⟨by first | rfl | (simp [errW_none, errW_some] <;> rfl) | (simp [*, errW_none, errW_some] <;> rfl), by repeat (first | (with_reducible first | exact HB.out | apply below_alloc | apply pw_below_drewN | apply below_drew1) | exact HB.out)⟩
    ·rw [if_neg c11] at H
     exact absurd H (by simp)

end Go.Proofs.YtafncdmclhdkdaaDoor.PAll
