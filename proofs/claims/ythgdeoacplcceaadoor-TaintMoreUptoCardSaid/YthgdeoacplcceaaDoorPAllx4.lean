-- written by a program of this session (the kit's print, turned): plain functions and their contracts
-- shrunk
import Derived.Test.YthgdeoacplcceaaDoorPAllx0
import Derived.Test.YthgdeoacplcceaaDoorPAllx3
import Derived.Test.YthgdeoacplcceaaDoorEName
import Derived.Test.YthgdeoacplcceaaDoorEValue
namespace Go.Proofs.YthgdeoacplcceaaDoor.PAll
open Go.RowKit Go.Proofs.YthgdeoacplcceaaDoorW.PrintWords Go.Proofs.YthgdeoacplcceaaDoorW.PrintLast Go.Proofs.YthgdeoacplcceaaDoorW.PrintMore
attribute [local go_sem] max2_int min2_int max_two min_two max_three min_three max_four min_four   -- for this text's walks alone
set_option linter.unusedVariables false
set_option linter.unusedSimpArgs false

/-! ### taint_CheckTols: function 9 -/
mutual
def taint_CheckTols.l0 : Nat → List (S28) → List (S28) → Int → Int → Option (Int)
 | 0, _, _, _, _ => none
 | k + 1, x0, x8, x9, x10 => if x10 < x9 then (if 0 ≤ x10 then (if x10 < (x8.length : Int) then ((valset_Name.f ((rd_T28 x8 x10).f0)).bind fun t107 => (if t107 = true then (if (rd_T28 x8 x10).f2 = true then (taint_CheckTols.j1 k x0 x10 x8 x9 x10 (((rd_T28 x8 x10).f1).toList != ([] : List UInt8)) ((rd_T28 x8 x10).f0) ((rd_T28 x8 x10).f1) ((rd_T28 x8 x10).f2)) else (taint_CheckTols.j1 k x0 x10 x8 x9 x10 false ((rd_T28 x8 x10).f0) ((rd_T28 x8 x10).f1) ((rd_T28 x8 x10).f2))) else (some 7))) else (none)) else (none)) else (some 0)
def taint_CheckTols.j1 : Nat → List (S28) → Int → List (S28) → Int → Int → Bool → ByteArray → ByteArray → Bool → Option (Int)
 | 0, _, _, _, _, _, _, _, _, _ => none
 | k + 1, x0, x3, x8, x9, x10, x20, x107000, x107001, x107002 => if x20 = true then (taint_CheckTols.j2 k x0 x3 x8 x9 x10 x20 x107000 x107001 x107002) else (if x107002 = true then (taint_CheckTols.j2 k x0 x3 x8 x9 x10 false x107000 x107001 x107002) else ((valset_Value.f x107001).bind fun t108 => (taint_CheckTols.j2 k x0 x3 x8 x9 x10 (!t108) x107000 x107001 x107002)))
def taint_CheckTols.j2 : Nat → List (S28) → Int → List (S28) → Int → Int → Bool → ByteArray → ByteArray → Bool → Option (Int)
 | 0, _, _, _, _, _, _, _, _, _ => none
 | k + 1, x0, x3, x8, x9, x10, x20, x107000, x107001, x107002 => if x20 = true then (some 20) else (if 0 ≤ x3 then (if x3 ≤ (x0.length : Int) then ((api_Tol_20.f k (x0.take (x3 : Int).toNat) x107000 x107001 x107002).bind fun t113 => (if t113 = true then (some 6) else (taint_CheckTols.l0 k x0 x8 x9 (wrap64 (x10 + 1))))) else (none)) else (none))
end
def taint_CheckTols.f (k : Nat) (l0 : List (S28)) : Option (Int) := if (l0.length : Int) > 4 then (some 3) else (taint_CheckTols.l0 k l0 l0 (l0.length : Int) 0)
theorem taint_CheckTols.mono_l : ∀ k, (∀ y0 y1 y2 y3, LeO (taint_CheckTols.l0 k y0 y1 y2 y3) (taint_CheckTols.l0 (k + 1) y0 y1 y2 y3)) ∧ (∀ y0 y1 y2 y3 y4 y5 y6 y7 y8, LeO (taint_CheckTols.j1 k y0 y1 y2 y3 y4 y5 y6 y7 y8) (taint_CheckTols.j1 (k + 1) y0 y1 y2 y3 y4 y5 y6 y7 y8)) ∧ (∀ y0 y1 y2 y3 y4 y5 y6 y7 y8, LeO (taint_CheckTols.j2 k y0 y1 y2 y3 y4 y5 y6 y7 y8) (taint_CheckTols.j2 (k + 1) y0 y1 y2 y3 y4 y5 y6 y7 y8))
 | 0 => ⟨fun _ _ _ _ r h => by simp [taint_CheckTols.l0] at h, fun _ _ _ _ _ _ _ _ _ r h => by simp [taint_CheckTols.j1] at h, fun _ _ _ _ _ _ _ _ _ r h => by simp [taint_CheckTols.j2] at h⟩
 | k + 1 => by
  obtain ⟨ih0, ih1, ih2⟩ := taint_CheckTols.mono_l k
  refine ⟨?_, ?_, ?_⟩
  ·intro y0 y1 y2 y3
   unfold taint_CheckTols.l0
   repeat' first
   | (with_reducible exact ih0 _ _ _ _)
   | (with_reducible exact ih1 _ _ _ _ _ _ _ _ _)
   | (with_reducible exact ih2 _ _ _ _ _ _ _ _ _)
   | (with_reducible exact api_Tol_20.mono _ _ _ _ _)
   | (with_reducible exact LeO.refl _)
   | (with_reducible exact LeO.none _)
   | (with_reducible refine LeO.ite ?_ ?_)
   | (with_reducible refine LeO.bind ?_ (fun _ => ?_))
   | exact ih0 _ _ _ _
   | exact ih1 _ _ _ _ _ _ _ _ _
   | exact ih2 _ _ _ _ _ _ _ _ _
   | exact api_Tol_20.mono _ _ _ _ _
   | exact LeO.none _
   | refine LeO.ite ?_ ?_
   | refine LeO.bind ?_ (fun _ => ?_)
  ·intro y0 y1 y2 y3 y4 y5 y6 y7 y8
   unfold taint_CheckTols.j1
   repeat' first
   | (with_reducible exact ih0 _ _ _ _)
   | (with_reducible exact ih1 _ _ _ _ _ _ _ _ _)
   | (with_reducible exact ih2 _ _ _ _ _ _ _ _ _)
   | (with_reducible exact api_Tol_20.mono _ _ _ _ _)
   | (with_reducible exact LeO.refl _)
   | (with_reducible exact LeO.none _)
   | (with_reducible refine LeO.ite ?_ ?_)
   | (with_reducible refine LeO.bind ?_ (fun _ => ?_))
   | exact ih0 _ _ _ _
   | exact ih1 _ _ _ _ _ _ _ _ _
   | exact ih2 _ _ _ _ _ _ _ _ _
   | exact api_Tol_20.mono _ _ _ _ _
   | exact LeO.none _
   | refine LeO.ite ?_ ?_
   | refine LeO.bind ?_ (fun _ => ?_)
  ·intro y0 y1 y2 y3 y4 y5 y6 y7 y8
   unfold taint_CheckTols.j2
   repeat' first
   | (with_reducible exact ih0 _ _ _ _)
   | (with_reducible exact ih1 _ _ _ _ _ _ _ _ _)
   | (with_reducible exact ih2 _ _ _ _ _ _ _ _ _)
   | (with_reducible exact api_Tol_20.mono _ _ _ _ _)
   | (with_reducible exact LeO.refl _)
   | (with_reducible exact LeO.none _)
   | (with_reducible refine LeO.ite ?_ ?_)
   | (with_reducible refine LeO.bind ?_ (fun _ => ?_))
   | exact ih0 _ _ _ _
   | exact ih1 _ _ _ _ _ _ _ _ _
   | exact ih2 _ _ _ _ _ _ _ _ _
   | exact api_Tol_20.mono _ _ _ _ _
   | exact LeO.none _
   | refine LeO.ite ?_ ?_
   | refine LeO.bind ?_ (fun _ => ?_)
theorem taint_CheckTols.mono : ∀ a0 k, LeO (taint_CheckTols.f k a0) (taint_CheckTols.f (k + 1) a0) := by
 intro a0 k
 obtain ⟨ih0, ih1, ih2⟩ := taint_CheckTols.mono_l k
 unfold taint_CheckTols.f
 repeat' first
   | (with_reducible exact ih0 _ _ _ _)
   | (with_reducible exact ih1 _ _ _ _ _ _ _ _ _)
   | (with_reducible exact ih2 _ _ _ _ _ _ _ _ _)
   | (with_reducible exact api_Tol_20.mono _ _ _ _ _)
   | (with_reducible exact LeO.refl _)
   | (with_reducible exact LeO.none _)
   | (with_reducible refine LeO.ite ?_ ?_)
   | (with_reducible refine LeO.bind ?_ (fun _ => ?_))
   | exact ih0 _ _ _ _
   | exact ih1 _ _ _ _ _ _ _ _ _
   | exact ih2 _ _ _ _ _ _ _ _ _
   | exact api_Tol_20.mono _ _ _ _ _
   | exact LeO.none _
   | refine LeO.ite ?_ ?_
   | refine LeO.bind ?_ (fun _ => ?_)
set_option maxHeartbeats 8000000 in
set_option maxRecDepth 100000 in
theorem taint_CheckTols.calls (k : Nat) (A0 : Option Addr) (c0 : Nat) (l0 : List (S28)) (r : Int) (w : World) (hr0 : Kd.C k28 w A0 l0.length l0) (hc0 : l0.length ≤ c0) (hg : Vars w) (h : taint_CheckTols.f k l0 = some r) :
  Calls Tryd.prog 9 #[.slice A0 l0.length c0] w fun e w' => e = .returned (.int .i64 r) ∧ Below w.heap.size w w' := by
 have hu28 := Tryd.underlying28
 have HR0 := Aside0.mk hr0
 have HC0 := Aside0.mk hc0
 clear hr0 hc0
 have HB := Aside0.mk (Below.refl w.heap.size w)
 have HV := Aside0.mk hg
 clear hg
 have H : (if (l0.length : Int) > 4 then (some 3) else (taint_CheckTols.l0 k l0 l0 (l0.length : Int) 0)) = some r := h
 clear h
 by_cases c2 : (l0.length : Int) > 4
 ·rw [if_pos c2] at H
  have c2b0 : decide (4 < (l0.length : Int)) = true := decide_eq_true c2
  have c2b1 : decide (4 < l0.length) = true := decide_eq_true (by omega)
  clear c2
  obtain rfl := Option.some.inj H
  go_enter Tryd.func9, Tryd.ntmps9
  go_wp2
  go_ret
  exact ⟨by first | rfl | (simp [errW_none, errW_some] <;> rfl) | (simp [*, errW_none, errW_some] <;> rfl), by repeat (first | (with_reducible first | exact HB.out | apply below_alloc | apply pw_below_drewN | apply below_drew1) | exact HB.out)⟩
 ·rw [if_neg c2] at H
  have c2b0 : decide (4 < (l0.length : Int)) = false := decide_eq_false c2
  have c2b1 : decide (4 < l0.length) = false := decide_eq_false (by omega)
  clear c2
  have H' := Aside0.mk H
  clear H
  go_enter Tryd.func9, Tryd.ntmps9
  go_wp2
  go_loopg [10] k (fun kq v10 w' => ∃ (x10_1 : Int), v10 = .int .i64 x10_1 ∧ Aside0 (taint_CheckTols.l0 kq l0 l0 (l0.length : Int) x10_1 = some r) ∧ Aside0 (kq ≤ k) ∧ Aside0 (Below w.heap.size w w'))
  case atStart => exact ⟨(0), (by first | rfl | (simp; done) | (simp [*]; done) | (simp [ne_nil_]; done)), H', ⟨Nat.le_refl _⟩, ⟨by repeat (first | (with_reducible first | exact HB.out | apply below_alloc | apply pw_below_drewN | apply below_drew1) | exact HB.out)⟩⟩
  case round =>
   clear H'
   try clear c2
   try clear c2b0
   try clear c2b1
   try clear p2
   obtain ⟨x10_1, rfl, HA, HK1, HB⟩ := hrel
   cases gk with
   | zero => exact absurd HA.out (by simp [taint_CheckTols.l0])
   | succ k1 =>
    have H := HA.out
    clear HA
    simp only [taint_CheckTols.l0] at H
    by_cases c3 : x10_1 < (l0.length : Int)
    ·rw [if_pos c3] at H
     have c3b0 : decide (x10_1 < (l0.length : Int)) = true := decide_eq_true c3
     clear c3
     by_cases c4 : 0 ≤ x10_1
     ·rw [if_pos c4] at H
      have c4b0 : decide (0 ≤ x10_1) = true := decide_eq_true c4
      clear c4
      by_cases c5 : x10_1 < (l0.length : Int)
      ·rw [if_pos c5] at H
       have c5b0 : decide (x10_1 < (l0.length : Int)) = true := decide_eq_true c5
       clear c5
       replace H := Option.bind_eq_some_iff.mp H
       obtain ⟨t107, A60, H⟩ := H
       replace H : (if t107 = true then (if (rd_T28 l0 x10_1).f2 = true then (taint_CheckTols.j1 k1 l0 x10_1 l0 (l0.length : Int) x10_1 (((rd_T28 l0 x10_1).f1).toList != ([] : List UInt8)) ((rd_T28 l0 x10_1).f0) ((rd_T28 l0 x10_1).f1) ((rd_T28 l0 x10_1).f2)) else (taint_CheckTols.j1 k1 l0 x10_1 l0 (l0.length : Int) x10_1 false ((rd_T28 l0 x10_1).f0) ((rd_T28 l0 x10_1).f1) ((rd_T28 l0 x10_1).f2))) else (some 7)) = some r := H
       have A6 := Aside0.mk A60
       clear A60
       by_cases c7 : t107 = true
       ·subst c7
        have H1 : (if (rd_T28 l0 x10_1).f2 = true then (taint_CheckTols.j1 k1 l0 x10_1 l0 (l0.length : Int) x10_1 (((rd_T28 l0 x10_1).f1).toList != ([] : List UInt8)) ((rd_T28 l0 x10_1).f0) ((rd_T28 l0 x10_1).f1) ((rd_T28 l0 x10_1).f2)) else (taint_CheckTols.j1 k1 l0 x10_1 l0 (l0.length : Int) x10_1 false ((rd_T28 l0 x10_1).f0) ((rd_T28 l0 x10_1).f1) ((rd_T28 l0 x10_1).f2))) = some r := by rw [if_pos rfl] at H; exact H
        clear H
        have H := H1
        clear H1
        have HC8 := Aside0.mk H
        clear H
        have p105 : 0 ≤ (x10_1 : Int) := of_decide_eq_true (by first | (with_reducible assumption) | assumption)
        have q105 : x10_1 < (l0.length : Int) := of_decide_eq_true (by first | (with_reducible assumption) | assumption)
        obtain ⟨ad105, e105, hx105_0, hx105_1, hx105_2⟩ := at_T28 HR0.out x10_1 p105 q105
        cases e105
        replace hx105_0 := (HB.out.cell (World.block_lt_of_cell? w _ hx105_0)).trans hx105_0
        replace hx105_1 := (HB.out.cell (World.block_lt_of_cell? w _ hx105_1)).trans hx105_1
        replace hx105_2 := (HB.out.cell (World.block_lt_of_cell? w _ hx105_2)).trans hx105_2
        replace p105 := eq_true p105
        replace q105 := eq_true q105
        go_upto_region 8 with (first | ((with_reducible refine gate_dst (N := 4) rfl ?_); refine box_event ?hg (N := 4) ?hd (cs := #[.string (⟨#[]⟩ : ByteArray), .string (⟨#[]⟩ : ByteArray), .bool false]) (t := 28) ?hr ?_; (case hd => rfl); (case hg => rfl); (case hr => first | (go_simp; done) | (go_simp; rfl)); intro gb106 hg w9 hbox hb; have n0_ := Aside0.mk (below_step (by repeat (first | (with_reducible first | exact HB.out | apply below_alloc | apply pw_below_drewN | apply below_drew1) | exact HB.out)) hb); have n1_ := Aside0.mk (hbox); have n2_ := Aside0.mk ((by rw [hg]; exact (below_size (by repeat (first | (with_reducible first | exact HB.out | apply below_alloc | apply pw_below_drewN | apply below_drew1) | exact HB.out))) : w.heap.size ≤ gb106)); have n3_ := Aside0.mk ((by rw [hg]; exact (below_size (by repeat (first | (with_reducible first | exact HB.out | apply below_alloc | apply pw_below_drewN | apply below_drew1) | exact HB.out))) : w.heap.size ≤ gb106)); clear HB; have HB := n0_; have BK106 := n1_; have GW106 := n2_; have GE106 := n3_; clear n0_ n1_ n2_ n3_; clear hb hbox hg; have hcz10_0 : w9.cell? ⟨gb106, 0, none⟩ = some (.string (⟨#[]⟩ : ByteArray)) := (blk_cell BK106.out 0).trans (by first | rfl | exact congrArg (fun b_ => some (Value.bool b_)) (Eq.symm (Aside0.out (by assumption)))); have hcz10_1 : w9.cell? ⟨gb106, 1, none⟩ = some (.string (⟨#[]⟩ : ByteArray)) := (blk_cell BK106.out 1).trans (by first | rfl | exact congrArg (fun b_ => some (Value.bool b_)) (Eq.symm (Aside0.out (by assumption)))); have hcz10_2 : w9.cell? ⟨gb106, 2, none⟩ = some (.bool false) := (blk_cell BK106.out 2).trans (by first | rfl | exact congrArg (fun b_ => some (Value.bool b_)) (Eq.symm (Aside0.out (by assumption)))); have hfz10_0 := blk_frozen BK106.out 0; have hfz10_1 := blk_frozen BK106.out 1; have hfz10_2 := blk_frozen BK106.out 2) | ((with_reducible refine gate_callee (f := 16) rfl ?_); refine goesL_ (some 18) rfl rfl Tryd.func16 (by kernel_rfl) rfl #[.string ((rd_T28 l0 x10_1).f0)] rfl (by (try simp only [List.map_toArray, List.map_cons, List.map_nil]); first | done | rfl | (simp only [List.length_drop, List.length_take]; rfl)) ?_; (with_reducible refine (valset_Name.calls ((rd_T28 l0 x10_1).f0) true _ A6.out).mono ?_); rintro e w11 ⟨rfl, hb⟩; refine ⟨_, rfl, ?_⟩; have n0_ := Aside0.mk (blk_below (g := gb106) (o := .cells #[.string ((rd_T28 l0 x10_1).f0), .string ((rd_T28 l0 x10_1).f1), .bool ((rd_T28 l0 x10_1).f2)] 28 (0, 0)) (by (with_reducible repeat (first | refine blk_drewN ?_ _ | refine blk_drew ?_ | refine blk_alloc ?_ _)); refine blk_put (cs := #[.string ((rd_T28 l0 x10_1).f0), .string ((rd_T28 l0 x10_1).f1), .bool false]) ?_ 2 _ rfl; (with_reducible repeat (first | refine blk_drewN ?_ _ | refine blk_drew ?_ | refine blk_alloc ?_ _)); refine blk_put (cs := #[.string ((rd_T28 l0 x10_1).f0), .string (⟨#[]⟩ : ByteArray), .bool false]) ?_ 1 _ rfl; (with_reducible repeat (first | refine blk_drewN ?_ _ | refine blk_drew ?_ | refine blk_alloc ?_ _)); refine blk_put (cs := #[.string (⟨#[]⟩ : ByteArray), .string (⟨#[]⟩ : ByteArray), .bool false]) ?_ 0 _ rfl; (with_reducible repeat (first | refine blk_drewN ?_ _ | refine blk_drew ?_ | refine blk_alloc ?_ _)); exact BK106.out) hb); have n1_ := Aside0.mk (below_step (by repeat (first | (with_reducible first | exact HB.out | apply below_alloc | apply pw_below_drewN | apply below_drew1 | refine below_set ?_ GE106.out) | exact HB.out)) hb); clear BK106; clear HB; have BK106 := n0_; have HB := n1_; clear n0_ n1_; (try clear hb); (try clear hb2); (try clear hk); (try clear hi)))
        (try simp only [Act.put, List.setIfInBounds_toArray, List.set_cons_zero, List.set_cons_succ])
        go_cut [20] (fun v20 wc => ∃ (kq : Nat) (x20_7 : Bool), v20 = .bool x20_7 ∧ Aside0 (taint_CheckTols.j1 kq l0 x10_1 l0 (l0.length : Int) x10_1 x20_7 ((rd_T28 l0 x10_1).f0) ((rd_T28 l0 x10_1).f1) ((rd_T28 l0 x10_1).f2) = some r) ∧ Aside0 (kq ≤ k1) ∧ Aside0 (wc.heap[gb106]? = some (.cells #[.string ((rd_T28 l0 x10_1).f0), .string ((rd_T28 l0 x10_1).f1), .bool ((rd_T28 l0 x10_1).f2)] 28 (0, 0))) ∧ Aside0 (Below w.heap.size w wc))
        case first =>
         have H := HC8.out
         clear HC8
         obtain ⟨bq12, hbq12⟩ : ∃ b_ : Bool, b_ = ((rd_T28 l0 x10_1).f2) := ⟨_, rfl⟩
         replace H : (if bq12 = true then (taint_CheckTols.j1 k1 l0 x10_1 l0 (l0.length : Int) x10_1 (((rd_T28 l0 x10_1).f1).toList != ([] : List UInt8)) ((rd_T28 l0 x10_1).f0) ((rd_T28 l0 x10_1).f1) bq12) else (taint_CheckTols.j1 k1 l0 x10_1 l0 (l0.length : Int) x10_1 false ((rd_T28 l0 x10_1).f0) ((rd_T28 l0 x10_1).f1) bq12)) = some r := by rw [← hbq12] at H; exact H
         have Nbq12 := Aside0.mk hbq12
         clear hbq12
         (try rw [← Nbq12.out])
         by_cases c13 : bq12 = true
         ·subst c13
          have H1 : (taint_CheckTols.j1 k1 l0 x10_1 l0 (l0.length : Int) x10_1 (((rd_T28 l0 x10_1).f1).toList != ([] : List UInt8)) ((rd_T28 l0 x10_1).f0) ((rd_T28 l0 x10_1).f1) true) = some r := by rw [if_pos rfl] at H; exact H
          clear H
          have H := H1
          clear H1
          have H' := Aside0.mk H
          clear H
          have hcz14_0 : w11.cell? ⟨gb106, 0, none⟩ = some (.string ((rd_T28 l0 x10_1).f0)) := (blk_cell BK106.out 0).trans (by first | rfl | exact congrArg (fun b_ => some (Value.bool b_)) (Eq.symm (Aside0.out (by assumption))))
          have hcz14_1 : w11.cell? ⟨gb106, 1, none⟩ = some (.string ((rd_T28 l0 x10_1).f1)) := (blk_cell BK106.out 1).trans (by first | rfl | exact congrArg (fun b_ => some (Value.bool b_)) (Eq.symm (Aside0.out (by assumption))))
          have hcz14_2 : w11.cell? ⟨gb106, 2, none⟩ = some (.bool true) := (blk_cell BK106.out 2).trans (by first | rfl | exact congrArg (fun b_ => some (Value.bool b_)) (Eq.symm (Aside0.out (by assumption))))
          have hfz14_0 := blk_frozen BK106.out 0
          have hfz14_1 := blk_frozen BK106.out 1
          have hfz14_2 := blk_frozen BK106.out 2
          go_wp2
          go_meet
          case rel => exact ⟨_, ((((rd_T28 l0 x10_1).f1).toList != ([] : List UInt8))), (by first | rfl | (simp; done) | (simp [*]; done) | (simp [ne_nil_]; done)), (by first | exact H' | exact ⟨by rw [← Nbq12.out]; exact H'.out⟩), ⟨by have := HK1.out; first | omega | exact Nat.le_refl _⟩, ⟨by (with_reducible repeat (first | refine blk_drewN ?_ _ | refine blk_drew ?_ | refine blk_alloc ?_ _)); exact BK106.out⟩, ⟨by repeat (first | (with_reducible first | exact HB.out | apply below_alloc | apply pw_below_drewN | apply below_drew1 | refine below_set ?_ GE106.out) | exact HB.out)⟩⟩
         ·replace c13 := Bool.eq_false_iff.mpr c13
          subst c13
          have H1 : (taint_CheckTols.j1 k1 l0 x10_1 l0 (l0.length : Int) x10_1 false ((rd_T28 l0 x10_1).f0) ((rd_T28 l0 x10_1).f1) false) = some r := by rw [if_neg (show ¬ (false = true) by decide)] at H; exact H
          clear H
          have H := H1
          clear H1
          have H' := Aside0.mk H
          clear H
          have hcz15_0 : w11.cell? ⟨gb106, 0, none⟩ = some (.string ((rd_T28 l0 x10_1).f0)) := (blk_cell BK106.out 0).trans (by first | rfl | exact congrArg (fun b_ => some (Value.bool b_)) (Eq.symm (Aside0.out (by assumption))))
          have hcz15_1 : w11.cell? ⟨gb106, 1, none⟩ = some (.string ((rd_T28 l0 x10_1).f1)) := (blk_cell BK106.out 1).trans (by first | rfl | exact congrArg (fun b_ => some (Value.bool b_)) (Eq.symm (Aside0.out (by assumption))))
          have hcz15_2 : w11.cell? ⟨gb106, 2, none⟩ = some (.bool false) := (blk_cell BK106.out 2).trans (by first | rfl | exact congrArg (fun b_ => some (Value.bool b_)) (Eq.symm (Aside0.out (by assumption))))
          have hfz15_0 := blk_frozen BK106.out 0
          have hfz15_1 := blk_frozen BK106.out 1
          have hfz15_2 := blk_frozen BK106.out 2
          go_wp2
          go_meet
          case rel => exact ⟨_, (false), (by first | rfl | (simp; done) | (simp [*]; done) | (simp [ne_nil_]; done)), (by first | exact H' | exact ⟨by rw [← Nbq12.out]; exact H'.out⟩), ⟨by have := HK1.out; first | omega | exact Nat.le_refl _⟩, ⟨by (with_reducible repeat (first | refine blk_drewN ?_ _ | refine blk_drew ?_ | refine blk_alloc ?_ _)); exact BK106.out⟩, ⟨by repeat (first | (with_reducible first | exact HB.out | apply below_alloc | apply pw_below_drewN | apply below_drew1 | refine below_set ?_ GE106.out) | exact HB.out)⟩⟩
        case rest =>
         clear HC8
         try clear c1
         try clear p1
         try clear q1
         try clear hx1
         try clear c2
         try clear c2b0
         try clear c2b1
         try clear p2
         try clear c3
         try clear c3b0
         try clear c4
         try clear c4b0
         try clear c5
         try clear c5b0
         try clear c7
         try clear c9
         try clear p10
         try clear q10
         try clear hx10
         try clear q12
         try clear c13
         try clear hcz10_0
         try clear hcz10_1
         try clear hcz10_2
         try clear hcz14_0
         try clear hcz14_1
         try clear hcz14_2
         try clear hcz15_0
         try clear hcz15_1
         try clear hcz15_2
         try clear hfz10_0
         try clear hfz10_1
         try clear hfz10_2
         try clear hfz14_0
         try clear hfz14_1
         try clear hfz14_2
         try clear hfz15_0
         try clear hfz15_1
         try clear hfz15_2
         try clear hx105_0
         try clear hx105_1
         try clear hx105_2
         try clear p105
         try clear p2
         try clear q105
         obtain ⟨kq, x20_7, rfl, HA, HJ7, BK106, HB⟩ := hcut
         cases kq with
         | zero => exact absurd HA.out (by simp [taint_CheckTols.j1])
         | succ kj7 =>
          have H := HA.out
          clear HA
          simp only [taint_CheckTols.j1] at H
          have HC16 := Aside0.mk H
          clear H
          go_upto_if 20 with (fail)
          go_cut [20] (fun v20 wc => ∃ (kq : Nat) (x20_15 : Bool), v20 = .bool x20_15 ∧ Aside0 (taint_CheckTols.j2 kq l0 x10_1 l0 (l0.length : Int) x10_1 x20_15 ((rd_T28 l0 x10_1).f0) ((rd_T28 l0 x10_1).f1) ((rd_T28 l0 x10_1).f2) = some r) ∧ Aside0 (kq ≤ kj7) ∧ Aside0 (wc.heap[gb106]? = some (.cells #[.string ((rd_T28 l0 x10_1).f0), .string ((rd_T28 l0 x10_1).f1), .bool ((rd_T28 l0 x10_1).f2)] 28 (0, 0))) ∧ Aside0 (Below w.heap.size w wc))
          case first =>
           have H := HC16.out
           clear HC16
           by_cases c17 : x20_7 = true
           ·subst c17
            have H1 : (taint_CheckTols.j2 kj7 l0 x10_1 l0 (l0.length : Int) x10_1 true ((rd_T28 l0 x10_1).f0) ((rd_T28 l0 x10_1).f1) ((rd_T28 l0 x10_1).f2)) = some r := by rw [if_pos rfl] at H; exact H
            clear H
            have H := H1
            clear H1
            have H' := Aside0.mk H
            clear H
            go_wp2
            go_meet
            case rel => exact ⟨_, (true), (by first | rfl | (simp; done) | (simp [*]; done) | (simp [ne_nil_]; done)), H', ⟨by have := HK1.out; have := HJ7.out; first | omega | exact Nat.le_refl _⟩, ⟨by (with_reducible repeat (first | refine blk_drewN ?_ _ | refine blk_drew ?_ | refine blk_alloc ?_ _)); exact BK106.out⟩, ⟨by repeat (first | (with_reducible first | exact HB.out | apply below_alloc | apply pw_below_drewN | apply below_drew1 | refine below_set ?_ GE106.out) | exact HB.out)⟩⟩
           ·replace c17 := Bool.eq_false_iff.mpr c17
            subst c17
            have H1 : (if ((rd_T28 l0 x10_1).f2) = true then (taint_CheckTols.j2 kj7 l0 x10_1 l0 (l0.length : Int) x10_1 false ((rd_T28 l0 x10_1).f0) ((rd_T28 l0 x10_1).f1) ((rd_T28 l0 x10_1).f2)) else ((valset_Value.f ((rd_T28 l0 x10_1).f1)).bind fun t108 => (taint_CheckTols.j2 kj7 l0 x10_1 l0 (l0.length : Int) x10_1 (!t108) ((rd_T28 l0 x10_1).f0) ((rd_T28 l0 x10_1).f1) ((rd_T28 l0 x10_1).f2)))) = some r := by rw [if_neg (show ¬ (false = true) by decide)] at H; exact H
            clear H
            have H := H1
            clear H1
            by_cases c18 : ((rd_T28 l0 x10_1).f2) = true
            ·rw [if_pos c18] at H
             have c18b0 : ((rd_T28 l0 x10_1).f2) = true := c18
             clear c18
             (first | rw [c18b0] | (simp only [i64_w, i32_w]; rw [c18b0]) | skip)
             have H' := Aside0.mk H
             clear H
             have hcz19_0 : wc.cell? ⟨gb106, 0, none⟩ = some (.string ((rd_T28 l0 x10_1).f0)) := (blk_cell BK106.out 0).trans (by first | rfl | exact congrArg (fun b_ => some (Value.bool b_)) (Eq.symm (Aside0.out (by assumption))))
             have hcz19_1 : wc.cell? ⟨gb106, 1, none⟩ = some (.string ((rd_T28 l0 x10_1).f1)) := (blk_cell BK106.out 1).trans (by first | rfl | exact congrArg (fun b_ => some (Value.bool b_)) (Eq.symm (Aside0.out (by assumption))))
             have hcz19_2 : wc.cell? ⟨gb106, 2, none⟩ = some (.bool ((rd_T28 l0 x10_1).f2)) := (blk_cell BK106.out 2).trans (by first | rfl | exact congrArg (fun b_ => some (Value.bool b_)) (Eq.symm (Aside0.out (by assumption))))
             have hfz19_0 := blk_frozen BK106.out 0
             have hfz19_1 := blk_frozen BK106.out 1
             have hfz19_2 := blk_frozen BK106.out 2
             go_wp2
             go_meet
             case rel => exact ⟨_, (false), (by first | rfl | (simp; done) | (simp [*]; done) | (simp [ne_nil_]; done)), H', ⟨by have := HK1.out; have := HJ7.out; first | omega | exact Nat.le_refl _⟩, ⟨by (with_reducible repeat (first | refine blk_drewN ?_ _ | refine blk_drew ?_ | refine blk_alloc ?_ _)); exact BK106.out⟩, ⟨by repeat (first | (with_reducible first | exact HB.out | apply below_alloc | apply pw_below_drewN | apply below_drew1 | refine below_set ?_ GE106.out) | exact HB.out)⟩⟩
            ·rw [if_neg c18] at H
             have c18b0 : ((rd_T28 l0 x10_1).f2) = false := by simpa using c18
             clear c18
             (first | rw [c18b0] | (simp only [i64_w, i32_w]; rw [c18b0]) | skip)
             replace H := Option.bind_eq_some_iff.mp H
             obtain ⟨t108, A200, H⟩ := H
             replace H : (taint_CheckTols.j2 kj7 l0 x10_1 l0 (l0.length : Int) x10_1 (!t108) ((rd_T28 l0 x10_1).f0) ((rd_T28 l0 x10_1).f1) ((rd_T28 l0 x10_1).f2)) = some r := H
             have A20 := Aside0.mk A200
             clear A200
             have H' := Aside0.mk H
             clear H
             have hcz21_0 : wc.cell? ⟨gb106, 0, none⟩ = some (.string ((rd_T28 l0 x10_1).f0)) := (blk_cell BK106.out 0).trans (by first | rfl | exact congrArg (fun b_ => some (Value.bool b_)) (Eq.symm (Aside0.out (by assumption))))
             have hcz21_1 : wc.cell? ⟨gb106, 1, none⟩ = some (.string ((rd_T28 l0 x10_1).f1)) := (blk_cell BK106.out 1).trans (by first | rfl | exact congrArg (fun b_ => some (Value.bool b_)) (Eq.symm (Aside0.out (by assumption))))
             have hcz21_2 : wc.cell? ⟨gb106, 2, none⟩ = some (.bool ((rd_T28 l0 x10_1).f2)) := (blk_cell BK106.out 2).trans (by first | rfl | exact congrArg (fun b_ => some (Value.bool b_)) (Eq.symm (Aside0.out (by assumption))))
             have hfz21_0 := blk_frozen BK106.out 0
             have hfz21_1 := blk_frozen BK106.out 1
             have hfz21_2 := blk_frozen BK106.out 2
             go_wp2_with (first | (go_at_call 17; (with_reducible refine (valset_Value.calls ((rd_T28 l0 x10_1).f1) t108 _ ?side1 A20.out).mono ?_); (case side1 => exact Vars_below HV.out (by repeat (first | (with_reducible first | exact HB.out | apply below_alloc | apply pw_below_drewN | apply below_drew1 | refine below_set ?_ GE106.out) | exact HB.out))); rintro e w22 ⟨rfl, hb⟩; have n0_ := Aside0.mk (blk_below (g := gb106) (o := .cells #[.string ((rd_T28 l0 x10_1).f0), .string ((rd_T28 l0 x10_1).f1), .bool ((rd_T28 l0 x10_1).f2)] 28 (0, 0)) (by (with_reducible repeat (first | refine blk_drewN ?_ _ | refine blk_drew ?_ | refine blk_alloc ?_ _)); exact BK106.out) hb); have n1_ := Aside0.mk (below_step (by repeat (first | (with_reducible first | exact HB.out | apply below_alloc | apply pw_below_drewN | apply below_drew1 | refine below_set ?_ GE106.out) | exact HB.out)) hb); clear BK106; clear HB; have BK106 := n0_; have HB := n1_; clear n0_ n1_; (try clear hb); (try clear hb2); (try clear hk); (try clear hi)))
             go_meet
             case rel => exact ⟨_, (!t108), (by first | rfl | (simp; done) | (simp [*]; done) | (simp [ne_nil_]; done)), H', ⟨by have := HK1.out; have := HJ7.out; first | omega | exact Nat.le_refl _⟩, ⟨by (with_reducible repeat (first | refine blk_drewN ?_ _ | refine blk_drew ?_ | refine blk_alloc ?_ _)); exact BK106.out⟩, ⟨by repeat (first | (with_reducible first | exact HB.out | apply below_alloc | apply pw_below_drewN | apply below_drew1 | refine below_set ?_ GE106.out) | exact HB.out)⟩⟩
          case rest =>
           clear HC16
           try clear c1
           try clear p1
           try clear q1
           try clear hx1
           try clear c2
           try clear c2b0
           try clear c2b1
           try clear p2
           try clear c3
           try clear c3b0
           try clear c4
           try clear c4b0
           try clear c5
           try clear c5b0
           try clear c7
           try clear c9
           try clear p10
           try clear q10
           try clear hx10
           try clear q12
           try clear c13
           try clear c16
           try clear c17
           try clear c18
           try clear c18b0
           try clear hcz10_0
           try clear hcz10_1
           try clear hcz10_2
           try clear hcz14_0
           try clear hcz14_1
           try clear hcz14_2
           try clear hcz15_0
           try clear hcz15_1
           try clear hcz15_2
           try clear hcz19_0
           try clear hcz19_1
           try clear hcz19_2
           try clear hcz21_0
           try clear hcz21_1
           try clear hcz21_2
           try clear hfz10_0
           try clear hfz10_1
           try clear hfz10_2
           try clear hfz14_0
           try clear hfz14_1
           try clear hfz14_2
           try clear hfz15_0
           try clear hfz15_1
           try clear hfz15_2
           try clear hfz19_0
           try clear hfz19_1
           try clear hfz19_2
           try clear hfz21_0
           try clear hfz21_1
           try clear hfz21_2
           try clear hx105_0
           try clear hx105_1
           try clear hx105_2
           try clear p1
           try clear p10
           try clear p105
           try clear p2
           try clear q1
           try clear q10
           try clear q105
           try clear q12
           obtain ⟨kq, x20_15, rfl, HA, HJ15, BK106, HB⟩ := hcut
           cases kq with
           | zero => exact absurd HA.out (by simp [taint_CheckTols.j2])
           | succ kj15 =>
            have H := HA.out
            clear HA
            simp only [taint_CheckTols.j2] at H
            by_cases c23 : x20_15 = true
            ·subst c23
             have H1 : (some 20) = some r := by rw [if_pos rfl] at H; exact H
             clear H
             have H := H1
             clear H1
             obtain rfl := Option.some.inj H
             go_wp2
             go_ret
             exact ⟨by first | rfl | (simp [errW_none, errW_some] <;> rfl) | (simp [*, errW_none, errW_some] <;> rfl), by repeat (first | (with_reducible first | exact HB.out | apply below_alloc | apply pw_below_drewN | apply below_drew1 | refine below_set ?_ GE106.out) | exact HB.out)⟩
            ·replace c23 := Bool.eq_false_iff.mpr c23
             subst c23
             have H1 : (if 0 ≤ x10_1 then (if x10_1 ≤ (l0.length : Int) then ((api_Tol_20.f kj15 (l0.take (x10_1 : Int).toNat) ((rd_T28 l0 x10_1).f0) ((rd_T28 l0 x10_1).f1) ((rd_T28 l0 x10_1).f2)).bind fun t113 => (if t113 = true then (some 6) else (taint_CheckTols.l0 kj15 l0 l0 (l0.length : Int) (wrap64 (x10_1 + 1))))) else (none)) else (none)) = some r := by rw [if_neg (show ¬ (false = true) by decide)] at H; exact H
             clear H
             have H := H1
             clear H1
             by_cases c24 : 0 ≤ x10_1
             ·rw [if_pos c24] at H
              have c24b0 := eq_true c24
              have c24b1 : decide (0 ≤ x10_1) = true := decide_eq_true c24
              clear c24
              by_cases c25 : x10_1 ≤ (l0.length : Int)
              ·rw [if_pos c25] at H
               have c25b0 := eq_true c25
               have c25b1 : decide (x10_1 ≤ (l0.length : Int)) = true := decide_eq_true c25
               clear c25
               obtain ⟨y109, hy109⟩ : ∃ y_ : List (S28), y_ = (l0.take (x10_1 : Int).toNat) := ⟨_, rfl⟩
               replace H : ((api_Tol_20.f kj15 y109 ((rd_T28 l0 x10_1).f0) ((rd_T28 l0 x10_1).f1) ((rd_T28 l0 x10_1).f2)).bind fun t113 => (if t113 = true then (some 6) else (taint_CheckTols.l0 kj15 l0 l0 (l0.length : Int) (wrap64 (x10_1 + 1))))) = some r := by first | (rw [hy109]; with_reducible exact H) | (have H2_ := (Option.bind_some _ _).symm.trans H; rw [hy109]; with_reducible exact H2_) | (have H2_ := (Option.bind_some _ _).symm.trans H; with_reducible exact H2_) | with_reducible exact H | (rw [hy109]; exact H) | exact H
               have Ny109 := Aside0.mk hy109
               clear hy109
               replace H := Option.bind_eq_some_iff.mp H
               obtain ⟨t113, A260, H⟩ := H
               replace H : (if t113 = true then (some 6) else (taint_CheckTols.l0 kj15 l0 l0 (l0.length : Int) (wrap64 (x10_1 + 1)))) = some r := H
               have A26 := Aside0.mk A260
               clear A260
               by_cases c27 : t113 = true
               ·subst c27
                have H1 : (some 6) = some r := by rw [if_pos rfl] at H; exact H
                clear H
                have H := H1
                clear H1
                obtain rfl := Option.some.inj H
                try go_wp2
                have n0_ := Aside0.mk (blk_drew BK106.out)
                have n1_ := Aside0.mk (below_drew1 HB.out)
                clear BK106
                clear HB
                have BK106 := n0_
                have HB := n1_
                clear n0_ n1_
                have q29 : (x10_1 : Int) ≤ ((l0.length : Int) : Int) := of_decide_eq_true (by first | (with_reducible assumption) | assumption)
                obtain ⟨i029, hi029, _, hsz29, _⟩ := info_parts info28
                have hroom29 : l0.length ≤ c0 := HC0.out
                have hC29 : Kd.C k28 _ (some ad105) l0.length l0 := HR0.out
                have hcut29 := cut_to (P := Tryd.prog) 23 28 .i64 Tryd.underlying23 hi029 (some ad105) l0.length c0 x10_1 (of_decide_eq_true (by first | (with_reducible assumption) | assumption)) q29 hroom29
                have hr29 := Kd.C_take (m := (x10_1 : Int).toNat) hC29 (by omega)
                have hy29 : y109.length = (x10_1 : Int).toNat := (by rw [Ny109.out, List.length_take]; omega)
                rw [← Ny109.out] at hr29
                rw [← hy29] at hcut29
                have HR112 := Aside0.mk hr29
                have HC112 := Aside0.mk (show y109.length ≤ c0 from by omega)
                clear hr29 hC29 hroom29 hi029 hsz29
                have KY29 := Aside0.mk hy29
                clear hy29
                replace q29 := eq_true q29
                refine start_ (n := 6) (S := fun w' => w'.cell? ⟨gb106, 0, none⟩ = some (.string ((rd_T28 l0 x10_1).f0)) ∧ w'.cell? ⟨gb106, 1, none⟩ = some (.string ((rd_T28 l0 x10_1).f1)) ∧ w'.cell? ⟨gb106, 2, none⟩ = some (.bool ((rd_T28 l0 x10_1).f2))) (ds := []) (tf 0 6) (by kernel_rfl) rfl rfl ⟨(blk_cell BK106.out 0).trans rfl, (blk_cell BK106.out 1).trans rfl, (blk_cell BK106.out 2).trans rfl⟩ (fun hHeld => ?_)
                generalize wc.drew = w28 at BK106 HB HR112 hHeld ⊢
                refine pure_ (i := 0) (N := some 38) (v := ?_) (a' := ?_) (tf 1 5) rfl rfl (by kernel_rfl) (fun _ _ _ h => h) (Or.inl ⟨by rfl, ?_⟩) ?_ ?_
                rotate_left
                ·intro w'
                 go_simp
                 with_reducible rfl
                rotate_left
                ·simp only [Act.put, List.setIfInBounds_toArray, List.set_cons_zero, List.set_cons_succ, i64_w, i32_w]
                 rfl
                refine pure_ (i := 1) (N := some 39) (v := ?_) (a' := ?_) (tf 2 4) rfl rfl (by kernel_rfl) (fun _ _ _ h => h) (Or.inl ⟨by rfl, ?_⟩) ?_ ?_
                rotate_left
                ·intro w'
                 go_simp
                 with_reducible rfl
                rotate_left
                ·simp only [Act.put, List.setIfInBounds_toArray, List.set_cons_zero, List.set_cons_succ, i64_w, i32_w]
                 rfl
                refine pure_ (i := 2) (N := some 40) (v := ?_) (a' := ?_) (tf 3 3) rfl rfl (by kernel_rfl) (fun _ _ _ h => h) (Or.inl ⟨by rfl, ?_⟩) ?_ ?_
                rotate_left
                ·intro w'
                 go_simp
                 with_reducible rfl
                rotate_left
                ·simp only [Act.put, List.setIfInBounds_toArray, List.set_cons_zero, List.set_cons_succ, i64_w, i32_w]
                 rfl
                refine take_ (i := 3) (N := some 41) (v := ?_) (a' := ?_) (tf 4 2) rfl rfl (by kernel_rfl) (fun _ _ _ h => h) (Or.inl ⟨by rfl, ?_⟩) hHeld ?_ ?_
                rotate_left
                ·rintro w' ⟨s0, s1, s2⟩
                 go_simp
                 with_reducible rfl
                rotate_left
                ·simp only [Act.put, List.setIfInBounds_toArray, List.set_cons_zero, List.set_cons_succ, i64_w, i32_w]
                 rfl
                refine one_ (i := 4) (N := some 42) (tf 5 1) rfl rfl (by kernel_rfl) (by decide) (fun K hK => ?_)
                refine goes_ Tryd.func20 (by kernel_rfl) rfl #[.slice (some ad105) y109.length c0, .agg #[.string ((rd_T28 l0 x10_1).f0), .string ((rd_T28 l0 x10_1).f1), .bool ((rd_T28 l0 x10_1).f2)]] (by rfl) rfl rfl (by (try simp only [List.map_toArray, List.map_cons, List.map_nil]); first | done | rfl | (simp only [List.length_drop, List.length_take]; rfl)) ?_
                with_reducible refine (api_Tol_20.calls kj15 _ _ y109 ((rd_T28 l0 x10_1).f0) ((rd_T28 l0 x10_1).f1) ((rd_T28 l0 x10_1).f2) true _ ?side1 ?side2 A26.out).mono ?_
                (case side1 => repeat (first | exact (Kd.C_below HR112.out HB.out) | (with_reducible refine Kd.C_alloc ?_ _) | (with_reducible refine Kd.C_drewN ?_ _) | (with_reducible refine Kd.C_drew ?_)))
                (case side2 => exact HC112.out)
                rintro e w30 ⟨rfl, hb⟩
                refine ⟨_, rfl, ?_⟩
                have n0_ := Aside0.mk (blk_below (g := gb106) (o := .cells #[.string ((rd_T28 l0 x10_1).f0), .string ((rd_T28 l0 x10_1).f1), .bool ((rd_T28 l0 x10_1).f2)] 28 (0, 0)) (by (with_reducible repeat (first | refine blk_drewN ?_ _ | refine blk_drew ?_ | refine blk_alloc ?_ _)); exact BK106.out) hb)
                have n1_ := Aside0.mk (below_step (by repeat (first | (with_reducible first | exact HB.out | apply below_alloc | apply pw_below_drewN | apply below_drew1 | refine below_set ?_ GE106.out) | exact HB.out)) hb)
                clear BK106
                clear HB
                have BK106 := n0_
                have HB := n1_
                clear n0_ n1_
                (try clear hb)
                (try clear hb2)
                (try clear hk)
                (try clear hi)
                refine hK.out _ _ ⟨(blk_cell BK106.out 0).trans rfl, (blk_cell BK106.out 1).trans rfl, (blk_cell BK106.out 2).trans rfl⟩ (fun hHeld => ?_)
                clear hK K
                refine norm_ (a' := ?_) ?_ ?_
                rotate_left
                ·show Act.put _ (some 42) _ = _
                 simp only [Act.put, List.setIfInBounds_toArray, List.set_cons_zero, List.set_cons_succ, i64_w, i32_w]
                 rfl
                refine pure_ (i := 5) (N := some 37) (v := ?_) (a' := ?_) (tf 6 0) rfl rfl (by kernel_rfl) (fun _ _ _ h => h) (Or.inl ⟨by rfl, ?_⟩) ?_ ?_
                rotate_left
                ·intro w'
                 go_simp
                 with_reducible rfl
                rotate_left
                ·simp only [Act.put, List.setIfInBounds_toArray, List.set_cons_zero, List.set_cons_succ, i64_w, i32_w]
                 rfl
                refine done_ (by kernel_rfl) ?_
                try go_wp2
                go_ret
                exact ⟨by first | rfl | (simp [errW_none, errW_some] <;> rfl) | (simp [*, errW_none, errW_some] <;> rfl), by repeat (first | (with_reducible first | exact HB.out | apply below_alloc | apply pw_below_drewN | apply below_drew1 | refine below_set ?_ GE106.out) | exact HB.out)⟩
               ·replace c27 := Bool.eq_false_iff.mpr c27
                subst c27
                have H1 : (taint_CheckTols.l0 kj15 l0 l0 (l0.length : Int) (wrap64 (x10_1 + 1))) = some r := by rw [if_neg (show ¬ (false = true) by decide)] at H; exact H
                clear H
                have H := H1
                clear H1
                have H' := Aside0.mk H
                clear H
                try go_wp2
                have n0_ := Aside0.mk (blk_drew BK106.out)
                have n1_ := Aside0.mk (below_drew1 HB.out)
                clear BK106
                clear HB
                have BK106 := n0_
                have HB := n1_
                clear n0_ n1_
                have q32 : (x10_1 : Int) ≤ ((l0.length : Int) : Int) := of_decide_eq_true (by first | (with_reducible assumption) | assumption)
                obtain ⟨i032, hi032, _, hsz32, _⟩ := info_parts info28
                have hroom32 : l0.length ≤ c0 := HC0.out
                have hC32 : Kd.C k28 _ (some ad105) l0.length l0 := HR0.out
                have hcut32 := cut_to (P := Tryd.prog) 23 28 .i64 Tryd.underlying23 hi032 (some ad105) l0.length c0 x10_1 (of_decide_eq_true (by first | (with_reducible assumption) | assumption)) q32 hroom32
                have hr32 := Kd.C_take (m := (x10_1 : Int).toNat) hC32 (by omega)
                have hy32 : y109.length = (x10_1 : Int).toNat := (by rw [Ny109.out, List.length_take]; omega)
                rw [← Ny109.out] at hr32
                rw [← hy32] at hcut32
                have HR112 := Aside0.mk hr32
                have HC112 := Aside0.mk (show y109.length ≤ c0 from by omega)
                clear hr32 hC32 hroom32 hi032 hsz32
                have KY32 := Aside0.mk hy32
                clear hy32
                replace q32 := eq_true q32
                refine start_ (n := 6) (S := fun w' => w'.cell? ⟨gb106, 0, none⟩ = some (.string ((rd_T28 l0 x10_1).f0)) ∧ w'.cell? ⟨gb106, 1, none⟩ = some (.string ((rd_T28 l0 x10_1).f1)) ∧ w'.cell? ⟨gb106, 2, none⟩ = some (.bool ((rd_T28 l0 x10_1).f2))) (ds := []) (tf 0 6) (by kernel_rfl) rfl rfl ⟨(blk_cell BK106.out 0).trans rfl, (blk_cell BK106.out 1).trans rfl, (blk_cell BK106.out 2).trans rfl⟩ (fun hHeld => ?_)
                generalize wc.drew = w31 at BK106 HB HR112 hHeld ⊢
                refine pure_ (i := 0) (N := some 38) (v := ?_) (a' := ?_) (tf 1 5) rfl rfl (by kernel_rfl) (fun _ _ _ h => h) (Or.inl ⟨by rfl, ?_⟩) ?_ ?_
                rotate_left
                ·intro w'
                 go_simp
                 with_reducible rfl
                rotate_left
                ·simp only [Act.put, List.setIfInBounds_toArray, List.set_cons_zero, List.set_cons_succ, i64_w, i32_w]
                 rfl
                refine pure_ (i := 1) (N := some 39) (v := ?_) (a' := ?_) (tf 2 4) rfl rfl (by kernel_rfl) (fun _ _ _ h => h) (Or.inl ⟨by rfl, ?_⟩) ?_ ?_
                rotate_left
                ·intro w'
                 go_simp
                 with_reducible rfl
                rotate_left
                ·simp only [Act.put, List.setIfInBounds_toArray, List.set_cons_zero, List.set_cons_succ, i64_w, i32_w]
                 rfl
                refine pure_ (i := 2) (N := some 40) (v := ?_) (a' := ?_) (tf 3 3) rfl rfl (by kernel_rfl) (fun _ _ _ h => h) (Or.inl ⟨by rfl, ?_⟩) ?_ ?_
                rotate_left
                ·intro w'
                 go_simp
                 with_reducible rfl
                rotate_left
                ·simp only [Act.put, List.setIfInBounds_toArray, List.set_cons_zero, List.set_cons_succ, i64_w, i32_w]
                 rfl
                refine take_ (i := 3) (N := some 41) (v := ?_) (a' := ?_) (tf 4 2) rfl rfl (by kernel_rfl) (fun _ _ _ h => h) (Or.inl ⟨by rfl, ?_⟩) hHeld ?_ ?_
                rotate_left
                ·rintro w' ⟨s0, s1, s2⟩
                 go_simp
                 with_reducible rfl
                rotate_left
                ·simp only [Act.put, List.setIfInBounds_toArray, List.set_cons_zero, List.set_cons_succ, i64_w, i32_w]
                 rfl
                refine one_ (i := 4) (N := some 42) (tf 5 1) rfl rfl (by kernel_rfl) (by decide) (fun K hK => ?_)
                refine goes_ Tryd.func20 (by kernel_rfl) rfl #[.slice (some ad105) y109.length c0, .agg #[.string ((rd_T28 l0 x10_1).f0), .string ((rd_T28 l0 x10_1).f1), .bool ((rd_T28 l0 x10_1).f2)]] (by rfl) rfl rfl (by (try simp only [List.map_toArray, List.map_cons, List.map_nil]); first | done | rfl | (simp only [List.length_drop, List.length_take]; rfl)) ?_
                with_reducible refine (api_Tol_20.calls kj15 _ _ y109 ((rd_T28 l0 x10_1).f0) ((rd_T28 l0 x10_1).f1) ((rd_T28 l0 x10_1).f2) false _ ?side1 ?side2 A26.out).mono ?_
                (case side1 => repeat (first | exact (Kd.C_below HR112.out HB.out) | (with_reducible refine Kd.C_alloc ?_ _) | (with_reducible refine Kd.C_drewN ?_ _) | (with_reducible refine Kd.C_drew ?_)))
                (case side2 => exact HC112.out)
                rintro e w33 ⟨rfl, hb⟩
                refine ⟨_, rfl, ?_⟩
                have n0_ := Aside0.mk (blk_below (g := gb106) (o := .cells #[.string ((rd_T28 l0 x10_1).f0), .string ((rd_T28 l0 x10_1).f1), .bool ((rd_T28 l0 x10_1).f2)] 28 (0, 0)) (by (with_reducible repeat (first | refine blk_drewN ?_ _ | refine blk_drew ?_ | refine blk_alloc ?_ _)); exact BK106.out) hb)
                have n1_ := Aside0.mk (below_step (by repeat (first | (with_reducible first | exact HB.out | apply below_alloc | apply pw_below_drewN | apply below_drew1 | refine below_set ?_ GE106.out) | exact HB.out)) hb)
                clear BK106
                clear HB
                have BK106 := n0_
                have HB := n1_
                clear n0_ n1_
                (try clear hb)
                (try clear hb2)
                (try clear hk)
                (try clear hi)
                refine hK.out _ _ ⟨(blk_cell BK106.out 0).trans rfl, (blk_cell BK106.out 1).trans rfl, (blk_cell BK106.out 2).trans rfl⟩ (fun hHeld => ?_)
                clear hK K
                refine norm_ (a' := ?_) ?_ ?_
                rotate_left
                ·show Act.put _ (some 42) _ = _
                 simp only [Act.put, List.setIfInBounds_toArray, List.set_cons_zero, List.set_cons_succ, i64_w, i32_w]
                 rfl
                refine pure_ (i := 5) (N := some 37) (v := ?_) (a' := ?_) (tf 6 0) rfl rfl (by kernel_rfl) (fun _ _ _ h => h) (Or.inl ⟨by rfl, ?_⟩) ?_ ?_
                rotate_left
                ·intro w'
                 go_simp
                 with_reducible rfl
                rotate_left
                ·simp only [Act.put, List.setIfInBounds_toArray, List.set_cons_zero, List.set_cons_succ, i64_w, i32_w]
                 rfl
                refine done_ (by kernel_rfl) ?_
                try go_wp2
                go_roundg kj15
                case measure => have := HK1.out; have := HJ7.out; have := HJ15.out; omega
                case rel => exact ⟨(wrap64 (x10_1 + 1)), (by first | rfl | (simp; done) | (simp [*]; done) | (simp [ne_nil_]; done)), H', ⟨by have := HK1.out; have := HJ7.out; have := HJ15.out; omega⟩, ⟨by repeat (first | (with_reducible first | exact HB.out | apply below_alloc | apply pw_below_drewN | apply below_drew1 | refine below_set ?_ GE106.out) | exact HB.out)⟩⟩
              ·rw [if_neg c25] at H
               exact absurd H (by simp)
             ·rw [if_neg c24] at H
              exact absurd H (by simp)
       ·replace c7 := Bool.eq_false_iff.mpr c7
        subst c7
        have H1 : (some 7) = some r := by rw [if_neg (show ¬ (false = true) by decide)] at H; exact H
        clear H
        have H := H1
        clear H1
        obtain rfl := Option.some.inj H
        have p105 : 0 ≤ (x10_1 : Int) := of_decide_eq_true (by first | (with_reducible assumption) | assumption)
        have q105 : x10_1 < (l0.length : Int) := of_decide_eq_true (by first | (with_reducible assumption) | assumption)
        obtain ⟨ad105, e105, hx105_0, hx105_1, hx105_2⟩ := at_T28 HR0.out x10_1 p105 q105
        cases e105
        replace hx105_0 := (HB.out.cell (World.block_lt_of_cell? w _ hx105_0)).trans hx105_0
        replace hx105_1 := (HB.out.cell (World.block_lt_of_cell? w _ hx105_1)).trans hx105_1
        replace hx105_2 := (HB.out.cell (World.block_lt_of_cell? w _ hx105_2)).trans hx105_2
        replace p105 := eq_true p105
        replace q105 := eq_true q105
        go_wp2_with (first | ((with_reducible refine gate_dst (N := 4) rfl ?_); refine box_event ?hg (N := 4) ?hd (cs := #[.string (⟨#[]⟩ : ByteArray), .string (⟨#[]⟩ : ByteArray), .bool false]) (t := 28) ?hr ?_; (case hd => rfl); (case hg => rfl); (case hr => first | (go_simp; done) | (go_simp; rfl)); intro gb106 hg w34 hbox hb; have n0_ := Aside0.mk (below_step (by repeat (first | (with_reducible first | exact HB.out | apply below_alloc | apply pw_below_drewN | apply below_drew1) | exact HB.out)) hb); have n1_ := Aside0.mk (hbox); have n2_ := Aside0.mk ((by rw [hg]; exact (below_size (by repeat (first | (with_reducible first | exact HB.out | apply below_alloc | apply pw_below_drewN | apply below_drew1) | exact HB.out))) : w.heap.size ≤ gb106)); have n3_ := Aside0.mk ((by rw [hg]; exact (below_size (by repeat (first | (with_reducible first | exact HB.out | apply below_alloc | apply pw_below_drewN | apply below_drew1) | exact HB.out))) : w.heap.size ≤ gb106)); clear HB; have HB := n0_; have BK106 := n1_; have GW106 := n2_; have GE106 := n3_; clear n0_ n1_ n2_ n3_; clear hb hbox hg; have hcz35_0 : w34.cell? ⟨gb106, 0, none⟩ = some (.string (⟨#[]⟩ : ByteArray)) := (blk_cell BK106.out 0).trans (by first | rfl | exact congrArg (fun b_ => some (Value.bool b_)) (Eq.symm (Aside0.out (by assumption)))); have hcz35_1 : w34.cell? ⟨gb106, 1, none⟩ = some (.string (⟨#[]⟩ : ByteArray)) := (blk_cell BK106.out 1).trans (by first | rfl | exact congrArg (fun b_ => some (Value.bool b_)) (Eq.symm (Aside0.out (by assumption)))); have hcz35_2 : w34.cell? ⟨gb106, 2, none⟩ = some (.bool false) := (blk_cell BK106.out 2).trans (by first | rfl | exact congrArg (fun b_ => some (Value.bool b_)) (Eq.symm (Aside0.out (by assumption)))); have hfz35_0 := blk_frozen BK106.out 0; have hfz35_1 := blk_frozen BK106.out 1; have hfz35_2 := blk_frozen BK106.out 2) | ((with_reducible refine gate_callee (f := 16) rfl ?_); refine goesL_ (some 18) rfl rfl Tryd.func16 (by kernel_rfl) rfl #[.string ((rd_T28 l0 x10_1).f0)] rfl (by (try simp only [List.map_toArray, List.map_cons, List.map_nil]); first | done | rfl | (simp only [List.length_drop, List.length_take]; rfl)) ?_; (with_reducible refine (valset_Name.calls ((rd_T28 l0 x10_1).f0) false _ A6.out).mono ?_); rintro e w36 ⟨rfl, hb⟩; refine ⟨_, rfl, ?_⟩; have n0_ := Aside0.mk (blk_below (g := gb106) (o := .cells #[.string ((rd_T28 l0 x10_1).f0), .string ((rd_T28 l0 x10_1).f1), .bool ((rd_T28 l0 x10_1).f2)] 28 (0, 0)) (by (with_reducible repeat (first | refine blk_drewN ?_ _ | refine blk_drew ?_ | refine blk_alloc ?_ _)); refine blk_put (cs := #[.string ((rd_T28 l0 x10_1).f0), .string ((rd_T28 l0 x10_1).f1), .bool false]) ?_ 2 _ rfl; (with_reducible repeat (first | refine blk_drewN ?_ _ | refine blk_drew ?_ | refine blk_alloc ?_ _)); refine blk_put (cs := #[.string ((rd_T28 l0 x10_1).f0), .string (⟨#[]⟩ : ByteArray), .bool false]) ?_ 1 _ rfl; (with_reducible repeat (first | refine blk_drewN ?_ _ | refine blk_drew ?_ | refine blk_alloc ?_ _)); refine blk_put (cs := #[.string (⟨#[]⟩ : ByteArray), .string (⟨#[]⟩ : ByteArray), .bool false]) ?_ 0 _ rfl; (with_reducible repeat (first | refine blk_drewN ?_ _ | refine blk_drew ?_ | refine blk_alloc ?_ _)); exact BK106.out) hb); have n1_ := Aside0.mk (below_step (by repeat (first | (with_reducible first | exact HB.out | apply below_alloc | apply pw_below_drewN | apply below_drew1 | refine below_set ?_ GE106.out) | exact HB.out)) hb); clear BK106; clear HB; have BK106 := n0_; have HB := n1_; clear n0_ n1_; (try clear hb); (try clear hb2); (try clear hk); (try clear hi)))
        go_ret
        exact ⟨by first | rfl | (simp [errW_none, errW_some] <;> rfl) | (simp [*, errW_none, errW_some] <;> rfl), by repeat (first | (with_reducible first | exact HB.out | apply below_alloc | apply pw_below_drewN | apply below_drew1 | refine below_set ?_ GE106.out) | exact HB.out)⟩
      ·rw [if_neg c5] at H
       exact absurd H (by simp)
     ·rw [if_neg c4] at H
      exact absurd H (by simp)
    ·rw [if_neg c3] at H
     have c3b0 : decide (x10_1 < (l0.length : Int)) = false := decide_eq_false c3
     clear c3
     obtain rfl := Option.some.inj H
     go_wp2
     go_ret
     exact ⟨by first | rfl | (simp [errW_none, errW_some] <;> rfl) | (simp [*, errW_none, errW_some] <;> rfl), by repeat (first | (with_reducible first | exact HB.out | apply below_alloc | apply pw_below_drewN | apply below_drew1) | exact HB.out)⟩

end Go.Proofs.YthgdeoacplcceaaDoor.PAll
