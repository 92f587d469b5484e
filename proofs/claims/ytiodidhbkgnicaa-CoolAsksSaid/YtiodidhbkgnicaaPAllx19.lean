-- written by a program of this session (the kit's print, turned): plain functions and their contracts
-- shrunk
import Derived.Test.YtiodidhbkgnicaaPAllx0
import Derived.Test.YtiodidhbkgnicaaPAllx1
namespace Go.Proofs.Ytiodidhbkgnicaa.PAll
open Go.RowKit Go.Proofs.YtiodidhbkgnicaaW.PrintWords Go.Proofs.YtiodidhbkgnicaaW.PrintLast Go.Proofs.YtiodidhbkgnicaaW.PrintMore
attribute [local go_sem] max2_int min2_int max_two min_two max_three min_three max_four min_four   -- for this text's walks alone
set_option linter.unusedVariables false
set_option linter.unusedSimpArgs false

attribute [local go_sem high] eqA23
/-! ### sutlerref07_IsCool: function 22 -/
def sutlerref07_IsCool.l0 : Nat → List (S25) → Int → Int → ByteArray → ByteArray → ByteArray → Option (Bool)
 | 0, _, _, _, _, _, _ => none
 | k + 1, x0, x2, x7, x298000, x298001, x298002 => if x7 < (x0.length : Int) then (if 0 ≤ x7 then (if ((((rd_T25 x0 x7).f0.f0).toList) == x298000.toList && ((((rd_T25 x0 x7).f0.f1).toList) == x298001.toList && ((((rd_T25 x0 x7).f0.f2).toList) == x298002.toList))) = true then (if ((rd_T25 x0 x7).f1) > x2 then (some true) else (sutlerref07_IsCool.l0 k x0 x2 (wrap64 (x7 + 1)) x298000 x298001 x298002)) else (sutlerref07_IsCool.l0 k x0 x2 (wrap64 (x7 + 1)) x298000 x298001 x298002)) else (none)) else (some false)
def sutlerref07_IsCool.f (k : Nat) (l0 : List (S25)) (a1_0 : ByteArray) (a1_1 : ByteArray) (a1_2 : ByteArray) (a2 : Int) : Option (Bool) := sutlerref07_IsCool.l0 k l0 a2 0 a1_0 a1_1 a1_2
theorem sutlerref07_IsCool.mono_l : ∀ k, (∀ y0 y1 y2 y3 y4 y5, LeO (sutlerref07_IsCool.l0 k y0 y1 y2 y3 y4 y5) (sutlerref07_IsCool.l0 (k + 1) y0 y1 y2 y3 y4 y5))
 | 0 => fun _ _ _ _ _ _ r h => by simp [sutlerref07_IsCool.l0] at h
 | k + 1 => by
  have ih0 := sutlerref07_IsCool.mono_l k
  ·intro y0 y1 y2 y3 y4 y5
   unfold sutlerref07_IsCool.l0
   repeat' first
   | (with_reducible exact ih0 _ _ _ _ _ _)
   | (with_reducible exact LeO.refl _)
   | (with_reducible exact LeO.none _)
   | (with_reducible refine LeO.ite ?_ ?_)
   | (with_reducible refine LeO.bind ?_ (fun _ => ?_))
   | exact ih0 _ _ _ _ _ _
   | exact LeO.none _
   | refine LeO.ite ?_ ?_
   | refine LeO.bind ?_ (fun _ => ?_)
theorem sutlerref07_IsCool.mono : ∀ a0 a1 a2 a3 a4 k, LeO (sutlerref07_IsCool.f k a0 a1 a2 a3 a4) (sutlerref07_IsCool.f (k + 1) a0 a1 a2 a3 a4) := by
 intro a0 a1 a2 a3 a4 k
 have ih0 := sutlerref07_IsCool.mono_l k
 unfold sutlerref07_IsCool.f
 repeat' first
   | (with_reducible exact ih0 _ _ _ _ _ _)
   | (with_reducible exact LeO.refl _)
   | (with_reducible exact LeO.none _)
   | (with_reducible refine LeO.ite ?_ ?_)
   | (with_reducible refine LeO.bind ?_ (fun _ => ?_))
   | exact ih0 _ _ _ _ _ _
   | exact LeO.none _
   | refine LeO.ite ?_ ?_
   | refine LeO.bind ?_ (fun _ => ?_)
set_option maxHeartbeats 8000000 in
set_option maxRecDepth 100000 in
theorem sutlerref07_IsCool.calls (k : Nat) (A0 : Option Addr) (c0 : Nat) (l0 : List (S25)) (a1_0 : ByteArray) (a1_1 : ByteArray) (a1_2 : ByteArray) (a2 : Int) (r : Bool) (w : World) (hr0 : Kd.C k25 w A0 l0.length l0) (hc0 : l0.length ≤ c0) (h : sutlerref07_IsCool.f k l0 a1_0 a1_1 a1_2 a2 = some r) :
  Calls Try.prog 22 #[.slice A0 l0.length c0, .agg #[.string a1_0, .string a1_1, .string a1_2], .int .i64 a2] w fun e w' => e = .returned (.bool r) ∧ Below w.heap.size w w' := by
 have hu23 := Try.underlying23
 have HR0 := Aside0.mk hr0
 have HC0 := Aside0.mk hc0
 clear hr0 hc0
 have HB := Aside0.mk (Below.refl w.heap.size w)
 have H : (sutlerref07_IsCool.l0 k l0 a2 0 a1_0 a1_1 a1_2) = some r := h
 clear h
 have H' := Aside0.mk H
 clear H
 go_enter Try.func22, Try.ntmps22
 go_wp2_with (first | ((with_reducible refine gate_dst (N := 4) rfl ?_); refine box_event ?hg (N := 4) ?hd (cs := #[.string a1_0, .string a1_1, .string a1_2]) (t := 23) ?hr ?_; (case hd => rfl); (case hg => rfl); (case hr => first | (go_simp; done) | (go_simp; rfl)); intro gb297 hg w4 hbox hb; have n0_ := Aside0.mk (below_step (by repeat (first | (with_reducible first | exact HB.out | apply below_alloc | apply pw_below_drewN | apply below_drew1) | exact HB.out)) hb); have n1_ := Aside0.mk (hbox); have n2_ := Aside0.mk ((by rw [hg]; exact (below_size (by repeat (first | (with_reducible first | exact HB.out | apply below_alloc | apply pw_below_drewN | apply below_drew1) | exact HB.out))) : w.heap.size ≤ gb297)); have n3_ := Aside0.mk ((by rw [hg]; exact (below_size (by repeat (first | (with_reducible first | exact HB.out | apply below_alloc | apply pw_below_drewN | apply below_drew1) | exact HB.out))) : w.heap.size ≤ gb297)); clear HB; have HB := n0_; have BK297 := n1_; have GW297 := n2_; have GE297 := n3_; clear n0_ n1_ n2_ n3_; clear hb hbox hg))
 repeat (go_quiet (first | ((with_reducible refine gate_dst (N := 4) rfl ?_); refine box_event ?hg (N := 4) ?hd (cs := #[.string a1_0, .string a1_1, .string a1_2]) (t := 23) ?hr ?_; (case hd => rfl); (case hg => rfl); (case hr => first | (go_simp; done) | (go_simp; rfl)); intro gb297 hg w4 hbox hb; have n0_ := Aside0.mk (below_step (by repeat (first | (with_reducible first | exact HB.out | apply below_alloc | apply pw_below_drewN | apply below_drew1) | exact HB.out)) hb); have n1_ := Aside0.mk (hbox); have n2_ := Aside0.mk ((by rw [hg]; exact (below_size (by repeat (first | (with_reducible first | exact HB.out | apply below_alloc | apply pw_below_drewN | apply below_drew1) | exact HB.out))) : w.heap.size ≤ gb297)); have n3_ := Aside0.mk ((by rw [hg]; exact (below_size (by repeat (first | (with_reducible first | exact HB.out | apply below_alloc | apply pw_below_drewN | apply below_drew1) | exact HB.out))) : w.heap.size ≤ gb297)); clear HB; have HB := n0_; have BK297 := n1_; have GW297 := n2_; have GE297 := n3_; clear n0_ n1_ n2_ n3_; clear hb hbox hg)); try go_wp2_with (first | ((with_reducible refine gate_dst (N := 4) rfl ?_); refine box_event ?hg (N := 4) ?hd (cs := #[.string a1_0, .string a1_1, .string a1_2]) (t := 23) ?hr ?_; (case hd => rfl); (case hg => rfl); (case hr => first | (go_simp; done) | (go_simp; rfl)); intro gb297 hg w4 hbox hb; have n0_ := Aside0.mk (below_step (by repeat (first | (with_reducible first | exact HB.out | apply below_alloc | apply pw_below_drewN | apply below_drew1) | exact HB.out)) hb); have n1_ := Aside0.mk (hbox); have n2_ := Aside0.mk ((by rw [hg]; exact (below_size (by repeat (first | (with_reducible first | exact HB.out | apply below_alloc | apply pw_below_drewN | apply below_drew1) | exact HB.out))) : w.heap.size ≤ gb297)); have n3_ := Aside0.mk ((by rw [hg]; exact (below_size (by repeat (first | (with_reducible first | exact HB.out | apply below_alloc | apply pw_below_drewN | apply below_drew1) | exact HB.out))) : w.heap.size ≤ gb297)); clear HB; have HB := n0_; have BK297 := n1_; have GW297 := n2_; have GE297 := n3_; clear n0_ n1_ n2_ n3_; clear hb hbox hg)))
 go_loopg [7] k (fun kq v7 w' => ∃ (x7_1 : Int), v7 = .int .i64 x7_1 ∧ Aside0 (sutlerref07_IsCool.l0 kq l0 a2 x7_1 a1_0 a1_1 a1_2 = some r) ∧ Aside0 (kq ≤ k) ∧ Aside0 (w'.heap[gb297]? = some (.cells #[.string a1_0, .string a1_1, .string a1_2] 23 (0, 0))) ∧ Aside0 (Below w.heap.size w w'))
 case atStart => exact ⟨(0), (by first | rfl | (simp; done) | (simp [*]; done)), H', ⟨Nat.le_refl _⟩, ⟨by (with_reducible repeat (first | refine blk_drewN ?_ _ | refine blk_drew ?_ | refine blk_alloc ?_ _)); exact BK297.out⟩, ⟨by repeat (first | (with_reducible first | exact HB.out | apply below_alloc | apply pw_below_drewN | apply below_drew1 | refine below_set ?_ GE297.out) | exact HB.out)⟩⟩
 case round =>
  clear H'
  try clear c2
  try clear p2
  obtain ⟨x7_1, rfl, HA, HK1, BK297, HB⟩ := hrel
  cases gk with
  | zero => exact absurd HA.out (by simp [sutlerref07_IsCool.l0])
  | succ k1 =>
   have H := HA.out
   clear HA
   simp only [sutlerref07_IsCool.l0] at H
   by_cases c5 : x7_1 < (l0.length : Int)
   ·rw [if_pos c5] at H
    have c5b0 : decide (x7_1 < (l0.length : Int)) = true := decide_eq_true c5
    clear c5
    by_cases c6 : 0 ≤ x7_1
    ·rw [if_pos c6] at H
     have c6b0 : decide (0 ≤ x7_1) = true := decide_eq_true c6
     clear c6
     by_cases c7 : ((((rd_T25 l0 x7_1).f0.f0).toList) == a1_0.toList && ((((rd_T25 l0 x7_1).f0.f1).toList) == a1_1.toList && ((((rd_T25 l0 x7_1).f0.f2).toList) == a1_2.toList))) = true
     ·rw [if_pos c7] at H
      have c7b0 : ((((rd_T25 l0 x7_1).f0.f0).toList) == a1_0.toList && ((((rd_T25 l0 x7_1).f0.f1).toList) == a1_1.toList && ((((rd_T25 l0 x7_1).f0.f2).toList) == a1_2.toList))) = true := c7
      (try (have c7b1 : decide ((((rd_T25 l0 x7_1).f0.f0).toList) = a1_0.toList && ((((rd_T25 l0 x7_1).f0.f1).toList) == a1_1.toList && ((((rd_T25 l0 x7_1).f0.f2).toList) == a1_2.toList))) = true := by simpa using c7))
      (try (have c7b2 : ((((rd_T25 l0 x7_1).f0.f0).toList) == a1_0.toList && ((((rd_T25 l0 x7_1).f0.f1).toList) == a1_1.toList && ((((rd_T25 l0 x7_1).f0.f2).toList) == a1_2.toList))) = true := by simpa using c7))
      clear c7
      by_cases c8 : ((rd_T25 l0 x7_1).f1) > a2
      ·rw [if_pos c8] at H
       have c8b0 : decide (a2 < ((rd_T25 l0 x7_1).f1)) = true := decide_eq_true c8
       clear c8
       obtain rfl := Option.some.inj H
       have p298 : 0 ≤ (x7_1 : Int) := of_decide_eq_true (by first | (with_reducible assumption) | assumption)
       have q298 : x7_1 < (l0.length : Int) := of_decide_eq_true (by first | (with_reducible assumption) | assumption)
       obtain ⟨ad298, e298, hx298_0, hx298_1, hx298_2, hx298_3⟩ := at_T25 HR0.out x7_1 p298 q298
       cases e298
       replace hx298_0 := (HB.out.cell (World.block_lt_of_cell? w _ hx298_0)).trans hx298_0
       replace hx298_1 := (HB.out.cell (World.block_lt_of_cell? w _ hx298_1)).trans hx298_1
       replace hx298_2 := (HB.out.cell (World.block_lt_of_cell? w _ hx298_2)).trans hx298_2
       replace hx298_3 := (HB.out.cell (World.block_lt_of_cell? w _ hx298_3)).trans hx298_3
       replace p298 := eq_true p298
       replace q298 := eq_true q298
       have hcz9_0 : wr.cell? ⟨gb297, 0, none⟩ = some (.string a1_0) := (blk_cell BK297.out 0).trans rfl
       have hcz9_1 : wr.cell? ⟨gb297, 1, none⟩ = some (.string a1_1) := (blk_cell BK297.out 1).trans rfl
       have hcz9_2 : wr.cell? ⟨gb297, 2, none⟩ = some (.string a1_2) := (blk_cell BK297.out 2).trans rfl
       have hfz9_0 := blk_frozen BK297.out 0
       have hfz9_1 := blk_frozen BK297.out 1
       have hfz9_2 := blk_frozen BK297.out 2
       have p299 : 0 ≤ (x7_1 : Int) := of_decide_eq_true (by first | (with_reducible assumption) | assumption)
       have q299 : x7_1 < (l0.length : Int) := of_decide_eq_true (by first | (with_reducible assumption) | assumption)
       obtain ⟨ad299, e299, hx299_0, hx299_1, hx299_2, hx299_3⟩ := at_T25 HR0.out x7_1 p299 q299
       obtain rfl : ad298 = ad299 := (by injection e299)
       replace hx299_0 := (HB.out.cell (World.block_lt_of_cell? w _ hx299_0)).trans hx299_0
       replace hx299_1 := (HB.out.cell (World.block_lt_of_cell? w _ hx299_1)).trans hx299_1
       replace hx299_2 := (HB.out.cell (World.block_lt_of_cell? w _ hx299_2)).trans hx299_2
       replace hx299_3 := (HB.out.cell (World.block_lt_of_cell? w _ hx299_3)).trans hx299_3
       replace p299 := eq_true p299
       replace q299 := eq_true q299
       go_wp2
       repeat (go_quiet (fail); try go_wp2)
       go_ret
       exact ⟨by first | rfl | (simp [errW_none, errW_some] <;> rfl) | (simp [*, errW_none, errW_some] <;> rfl), by repeat (first | (with_reducible first | exact HB.out | apply below_alloc | apply pw_below_drewN | apply below_drew1 | refine below_set ?_ GE297.out) | exact HB.out)⟩
      ·rw [if_neg c8] at H
       have c8b0 : decide (a2 < ((rd_T25 l0 x7_1).f1)) = false := decide_eq_false c8
       clear c8
       have H' := Aside0.mk H
       clear H
       have p298 : 0 ≤ (x7_1 : Int) := of_decide_eq_true (by first | (with_reducible assumption) | assumption)
       have q298 : x7_1 < (l0.length : Int) := of_decide_eq_true (by first | (with_reducible assumption) | assumption)
       obtain ⟨ad298, e298, hx298_0, hx298_1, hx298_2, hx298_3⟩ := at_T25 HR0.out x7_1 p298 q298
       cases e298
       replace hx298_0 := (HB.out.cell (World.block_lt_of_cell? w _ hx298_0)).trans hx298_0
       replace hx298_1 := (HB.out.cell (World.block_lt_of_cell? w _ hx298_1)).trans hx298_1
       replace hx298_2 := (HB.out.cell (World.block_lt_of_cell? w _ hx298_2)).trans hx298_2
       replace hx298_3 := (HB.out.cell (World.block_lt_of_cell? w _ hx298_3)).trans hx298_3
       replace p298 := eq_true p298
       replace q298 := eq_true q298
       have hcz10_0 : wr.cell? ⟨gb297, 0, none⟩ = some (.string a1_0) := (blk_cell BK297.out 0).trans rfl
       have hcz10_1 : wr.cell? ⟨gb297, 1, none⟩ = some (.string a1_1) := (blk_cell BK297.out 1).trans rfl
       have hcz10_2 : wr.cell? ⟨gb297, 2, none⟩ = some (.string a1_2) := (blk_cell BK297.out 2).trans rfl
       have hfz10_0 := blk_frozen BK297.out 0
       have hfz10_1 := blk_frozen BK297.out 1
       have hfz10_2 := blk_frozen BK297.out 2
       have p299 : 0 ≤ (x7_1 : Int) := of_decide_eq_true (by first | (with_reducible assumption) | assumption)
       have q299 : x7_1 < (l0.length : Int) := of_decide_eq_true (by first | (with_reducible assumption) | assumption)
       obtain ⟨ad299, e299, hx299_0, hx299_1, hx299_2, hx299_3⟩ := at_T25 HR0.out x7_1 p299 q299
       obtain rfl : ad298 = ad299 := (by injection e299)
       replace hx299_0 := (HB.out.cell (World.block_lt_of_cell? w _ hx299_0)).trans hx299_0
       replace hx299_1 := (HB.out.cell (World.block_lt_of_cell? w _ hx299_1)).trans hx299_1
       replace hx299_2 := (HB.out.cell (World.block_lt_of_cell? w _ hx299_2)).trans hx299_2
       replace hx299_3 := (HB.out.cell (World.block_lt_of_cell? w _ hx299_3)).trans hx299_3
       replace p299 := eq_true p299
       replace q299 := eq_true q299
       go_wp2
       repeat (go_quiet (fail); try go_wp2)
       go_roundg k1
       case measure => have := HK1.out; omega
       case rel => exact ⟨(wrap64 (x7_1 + 1)), (by first | rfl | (simp; done) | (simp [*]; done)), H', ⟨by have := HK1.out; omega⟩, ⟨by (with_reducible repeat (first | refine blk_drewN ?_ _ | refine blk_drew ?_ | refine blk_alloc ?_ _)); exact BK297.out⟩, ⟨by repeat (first | (with_reducible first | exact HB.out | apply below_alloc | apply pw_below_drewN | apply below_drew1 | refine below_set ?_ GE297.out) | exact HB.out)⟩⟩
     ·rw [if_neg c7] at H
      have c7b0 : ((((rd_T25 l0 x7_1).f0.f0).toList) == a1_0.toList && ((((rd_T25 l0 x7_1).f0.f1).toList) == a1_1.toList && ((((rd_T25 l0 x7_1).f0.f2).toList) == a1_2.toList))) = false := by simpa using c7
      (try (have c7b1 : decide ((((rd_T25 l0 x7_1).f0.f0).toList) = a1_0.toList && ((((rd_T25 l0 x7_1).f0.f1).toList) == a1_1.toList && ((((rd_T25 l0 x7_1).f0.f2).toList) == a1_2.toList))) = false := by simpa using c7))
      (try (have c7b2 : ((((rd_T25 l0 x7_1).f0.f0).toList) == a1_0.toList && ((((rd_T25 l0 x7_1).f0.f1).toList) == a1_1.toList && ((((rd_T25 l0 x7_1).f0.f2).toList) == a1_2.toList))) = false := by simpa using c7))
      (try (have c7b3 : ¬ ((((rd_T25 l0 x7_1).f0.f0).toList) = a1_0.toList && ((((rd_T25 l0 x7_1).f0.f1).toList) == a1_1.toList && ((((rd_T25 l0 x7_1).f0.f2).toList) == a1_2.toList))) := by simpa using c7))
      clear c7
      have H' := Aside0.mk H
      clear H
      have p298 : 0 ≤ (x7_1 : Int) := of_decide_eq_true (by first | (with_reducible assumption) | assumption)
      have q298 : x7_1 < (l0.length : Int) := of_decide_eq_true (by first | (with_reducible assumption) | assumption)
      obtain ⟨ad298, e298, hx298_0, hx298_1, hx298_2, hx298_3⟩ := at_T25 HR0.out x7_1 p298 q298
      cases e298
      replace hx298_0 := (HB.out.cell (World.block_lt_of_cell? w _ hx298_0)).trans hx298_0
      replace hx298_1 := (HB.out.cell (World.block_lt_of_cell? w _ hx298_1)).trans hx298_1
      replace hx298_2 := (HB.out.cell (World.block_lt_of_cell? w _ hx298_2)).trans hx298_2
      replace hx298_3 := (HB.out.cell (World.block_lt_of_cell? w _ hx298_3)).trans hx298_3
      replace p298 := eq_true p298
      replace q298 := eq_true q298
      have hcz11_0 : wr.cell? ⟨gb297, 0, none⟩ = some (.string a1_0) := (blk_cell BK297.out 0).trans rfl
      have hcz11_1 : wr.cell? ⟨gb297, 1, none⟩ = some (.string a1_1) := (blk_cell BK297.out 1).trans rfl
      have hcz11_2 : wr.cell? ⟨gb297, 2, none⟩ = some (.string a1_2) := (blk_cell BK297.out 2).trans rfl
      have hfz11_0 := blk_frozen BK297.out 0
      have hfz11_1 := blk_frozen BK297.out 1
      have hfz11_2 := blk_frozen BK297.out 2
      go_wp2
      repeat (go_quiet (fail); try go_wp2)
      go_roundg k1
      case measure => have := HK1.out; omega
      case rel => exact ⟨(wrap64 (x7_1 + 1)), (by first | rfl | (simp; done) | (simp [*]; done)), H', ⟨by have := HK1.out; omega⟩, ⟨by (with_reducible repeat (first | refine blk_drewN ?_ _ | refine blk_drew ?_ | refine blk_alloc ?_ _)); exact BK297.out⟩, ⟨by repeat (first | (with_reducible first | exact HB.out | apply below_alloc | apply pw_below_drewN | apply below_drew1 | refine below_set ?_ GE297.out) | exact HB.out)⟩⟩
    ·rw [if_neg c6] at H
     exact absurd H (by simp)
   ·rw [if_neg c5] at H
    have c5b0 : decide (x7_1 < (l0.length : Int)) = false := decide_eq_false c5
    clear c5
    obtain rfl := Option.some.inj H
    go_wp2
    repeat (go_quiet (fail); try go_wp2)
    go_ret
    exact ⟨by first | rfl | (simp [errW_none, errW_some] <;> rfl) | (simp [*, errW_none, errW_some] <;> rfl), by repeat (first | (with_reducible first | exact HB.out | apply below_alloc | apply pw_below_drewN | apply below_drew1 | refine below_set ?_ GE297.out) | exact HB.out)⟩

/-! ### sutlerref07_Left: function 16 -/
def sutlerref07_Left.l0 : Nat → List (S25) → List (S23) → Int → List (S23) → Int → Option ((List (S23)))
 | 0, _, _, _, _, _ => none
 | k + 1, x0, x1, x2, x7, x8 => if x8 < (x1.length : Int) then (if 0 ≤ x8 then ((sutlerref07_IsCool.f k x0 ((rd_T23 x1 x8).f0) ((rd_T23 x1 x8).f1) ((rd_T23 x1 x8).f2) x2).bind fun t301 => (if t301 = true then (sutlerref07_Left.l0 k x0 x1 x2 x7 (wrap64 (x8 + 1))) else (if x7.length < 2932031007402 then (sutlerref07_Left.l0 k x0 x1 x2 (x7 ++ [(⟨(rd_T23 x1 x8).f0, (rd_T23 x1 x8).f1, (rd_T23 x1 x8).f2⟩ : S23)]) (wrap64 (x8 + 1))) else (none)))) else (none)) else (some x7)
def sutlerref07_Left.f (k : Nat) (l0 : List (S25)) (l1 : List (S23)) (a2 : Int) : Option ((List (S23))) := sutlerref07_Left.l0 k l0 l1 a2 ([] : List (S23)) 0
theorem sutlerref07_Left.mono_l : ∀ k, (∀ y0 y1 y2 y3 y4, LeO (sutlerref07_Left.l0 k y0 y1 y2 y3 y4) (sutlerref07_Left.l0 (k + 1) y0 y1 y2 y3 y4))
 | 0 => fun _ _ _ _ _ r h => by simp [sutlerref07_Left.l0] at h
 | k + 1 => by
  have ih0 := sutlerref07_Left.mono_l k
  ·intro y0 y1 y2 y3 y4
   unfold sutlerref07_Left.l0
   repeat' first
   | (with_reducible exact ih0 _ _ _ _ _)
   | (with_reducible exact sutlerref07_IsCool.mono _ _ _ _ _ _)
   | (with_reducible exact LeO.refl _)
   | (with_reducible exact LeO.none _)
   | (with_reducible refine LeO.ite ?_ ?_)
   | (with_reducible refine LeO.bind ?_ (fun _ => ?_))
   | exact ih0 _ _ _ _ _
   | exact sutlerref07_IsCool.mono _ _ _ _ _ _
   | exact LeO.none _
   | refine LeO.ite ?_ ?_
   | refine LeO.bind ?_ (fun _ => ?_)
theorem sutlerref07_Left.mono : ∀ a0 a1 a2 k, LeO (sutlerref07_Left.f k a0 a1 a2) (sutlerref07_Left.f (k + 1) a0 a1 a2) := by
 intro a0 a1 a2 k
 have ih0 := sutlerref07_Left.mono_l k
 unfold sutlerref07_Left.f
 repeat' first
   | (with_reducible exact ih0 _ _ _ _ _)
   | (with_reducible exact sutlerref07_IsCool.mono _ _ _ _ _ _)
   | (with_reducible exact LeO.refl _)
   | (with_reducible exact LeO.none _)
   | (with_reducible refine LeO.ite ?_ ?_)
   | (with_reducible refine LeO.bind ?_ (fun _ => ?_))
   | exact ih0 _ _ _ _ _
   | exact sutlerref07_IsCool.mono _ _ _ _ _ _
   | exact LeO.none _
   | refine LeO.ite ?_ ?_
   | refine LeO.bind ?_ (fun _ => ?_)
set_option maxHeartbeats 8000000 in
set_option maxRecDepth 100000 in
theorem sutlerref07_Left.calls (k : Nat) (A0 : Option Addr) (c0 : Nat) (l0 : List (S25)) (A1 : Option Addr) (c1 : Nat) (l1 : List (S23)) (a2 : Int) (r : List (S23)) (w : World) (hr0 : Kd.C k25 w A0 l0.length l0) (hc0 : l0.length ≤ c0) (hr1 : Kd.C k23 w A1 l1.length l1) (hc1 : l1.length ≤ c1) (h : sutlerref07_Left.f k l0 l1 a2 = some r) :
  Calls Try.prog 16 #[.slice A0 l0.length c0, .slice A1 l1.length c1, .int .i64 a2] w fun e w' => ∃ v0_ : Value, e = .returned (v0_) ∧ Kd.R k23 23 w' w.heap.size (fun _ => True) v0_ r ∧ Below w.heap.size w w' := by
 have hu23 := Try.underlying23
 have HR0 := Aside0.mk hr0
 have HC0 := Aside0.mk hc0
 clear hr0 hc0
 have HR1 := Aside0.mk hr1
 have HC1 := Aside0.mk hc1
 clear hr1 hc1
 have HB := Aside0.mk (Below.refl w.heap.size w)
 have H : (sutlerref07_Left.l0 k l0 l1 a2 ([] : List (S23)) 0) = some r := h
 clear h
 have H' := Aside0.mk H
 clear H
 go_enter Try.func16, Try.ntmps16
 go_wp2
 go_loopg [7, 8] k (fun kq v7 v8 w' => ∃ (x7_1 : List (S23)) (x8_1 : Int), v8 = .int .i64 x8_1 ∧ Aside0 (sutlerref07_Left.l0 kq l0 l1 a2 x7_1 x8_1 = some r) ∧ Aside0 (kq ≤ k) ∧ Aside0 (Kd.R k23 23 w' w.heap.size (fun _ => True) v7 x7_1) ∧ Aside0 (Below w.heap.size w w'))
 case atStart => exact ⟨(([] : List (S23))), (0), (by first | rfl | (simp; done) | (simp [*]; done)), H', ⟨Nat.le_refl _⟩, ⟨by first | exact Kd.R_nil _ _ _ _ _ | exact Kd.N_nil _ _ _ _ _ | exact Kd.V_nil _ _ _ _ _ | exact Kd.Q_nil _ _ _ _ _ | exact Kd.S_nil _ _ _ _ _⟩, ⟨by repeat (first | (with_reducible first | exact HB.out | apply below_alloc | apply pw_below_drewN | apply below_drew1) | exact HB.out)⟩⟩
 case round =>
  clear H'
  try clear c1
  try clear p2
  obtain ⟨x7_1, x8_1, rfl, HA, HK1, HO_7, HB⟩ := hrel
  cases gk with
  | zero => exact absurd HA.out (by simp [sutlerref07_Left.l0])
  | succ k1 =>
   have H := HA.out
   clear HA
   simp only [sutlerref07_Left.l0] at H
   by_cases c4 : x8_1 < (l1.length : Int)
   ·rw [if_pos c4] at H
    have c4b0 : decide (x8_1 < (l1.length : Int)) = true := decide_eq_true c4
    clear c4
    by_cases c5 : 0 ≤ x8_1
    ·rw [if_pos c5] at H
     have c5b0 : decide (0 ≤ x8_1) = true := decide_eq_true c5
     clear c5
     replace H := Option.bind_eq_some_iff.mp H
     obtain ⟨t301, A60, H⟩ := H
     replace H : (if t301 = true then (sutlerref07_Left.l0 k1 l0 l1 a2 x7_1 (wrap64 (x8_1 + 1))) else (if x7_1.length < 2932031007402 then (sutlerref07_Left.l0 k1 l0 l1 a2 (x7_1 ++ [(⟨(rd_T23 l1 x8_1).f0, (rd_T23 l1 x8_1).f1, (rd_T23 l1 x8_1).f2⟩ : S23)]) (wrap64 (x8_1 + 1))) else (none))) = some r := H
     have A6 := Aside0.mk A60
     clear A60
     by_cases c7 : t301 = true
     ·subst c7
      have H1 : (sutlerref07_Left.l0 k1 l0 l1 a2 x7_1 (wrap64 (x8_1 + 1))) = some r := by rw [if_pos rfl] at H; exact H
      clear H
      have H := H1
      clear H1
      have H' := Aside0.mk H
      clear H
      have p300 : 0 ≤ (x8_1 : Int) := of_decide_eq_true (by first | (with_reducible assumption) | assumption)
      have q300 : x8_1 < (l1.length : Int) := of_decide_eq_true (by first | (with_reducible assumption) | assumption)
      obtain ⟨ad300, e300, hx300_0, hx300_1, hx300_2⟩ := at_T23 HR1.out x8_1 p300 q300
      cases e300
      replace hx300_0 := (HB.out.cell (World.block_lt_of_cell? w _ hx300_0)).trans hx300_0
      replace hx300_1 := (HB.out.cell (World.block_lt_of_cell? w _ hx300_1)).trans hx300_1
      replace hx300_2 := (HB.out.cell (World.block_lt_of_cell? w _ hx300_2)).trans hx300_2
      replace p300 := eq_true p300
      replace q300 := eq_true q300
      go_wp2_with (first | ((with_reducible refine gate_callee (f := 22) rfl ?_); refine goesL_ (some 22) rfl rfl Try.func22 (by kernel_rfl) rfl #[.slice A0 l0.length c0, .agg #[.string ((rd_T23 l1 x8_1).f0), .string ((rd_T23 l1 x8_1).f1), .string ((rd_T23 l1 x8_1).f2)], .int .i64 a2] rfl (by (try simp only [List.map_toArray, List.map_cons, List.map_nil]); first | done | rfl | (simp only [List.length_drop, List.length_take]; rfl)) ?_; (with_reducible refine (sutlerref07_IsCool.calls k1 _ _ l0 ((rd_T23 l1 x8_1).f0) ((rd_T23 l1 x8_1).f1) ((rd_T23 l1 x8_1).f2) a2 true _ ?side1 ?side2 A6.out).mono ?_); (case side1 => repeat (first | exact (Kd.C_below HR0.out HB.out) | (with_reducible refine Kd.C_alloc ?_ _) | (with_reducible refine Kd.C_drewN ?_ _) | (with_reducible refine Kd.C_drew ?_))); (case side2 => exact HC0.out); rintro e w8 ⟨rfl, hb⟩; refine ⟨_, rfl, ?_⟩; have n0_ := Aside0.mk (Kd.R_below (by (with_reducible repeat (first | apply Kd.R_alloc | apply Kd.R_drewN | apply Kd.R_drew)); exact HO_7.out) hb); have n1_ := Aside0.mk (below_step (by repeat (first | (with_reducible first | exact HB.out | apply below_alloc | apply pw_below_drewN | apply below_drew1) | exact HB.out)) hb); clear HO_7; clear HB; have HO_7 := n0_; have HB := n1_; clear n0_ n1_; (try clear hb); (try clear hb2); (try clear hk); (try clear hi)))
      go_roundg k1
      case measure => have := HK1.out; omega
      case rel => exact ⟨(x7_1), (wrap64 (x8_1 + 1)), (by first | rfl | (simp; done) | (simp [*]; done)), H', ⟨by have := HK1.out; omega⟩, ⟨by (with_reducible repeat (first | apply Kd.R_alloc | apply Kd.R_drewN | apply Kd.R_drew)); exact HO_7.out⟩, ⟨by repeat (first | (with_reducible first | exact HB.out | apply below_alloc | apply pw_below_drewN | apply below_drew1) | exact HB.out)⟩⟩
     ·replace c7 := Bool.eq_false_iff.mpr c7
      subst c7
      have H1 : (if x7_1.length < 2932031007402 then (sutlerref07_Left.l0 k1 l0 l1 a2 (x7_1 ++ [(⟨(rd_T23 l1 x8_1).f0, (rd_T23 l1 x8_1).f1, (rd_T23 l1 x8_1).f2⟩ : S23)]) (wrap64 (x8_1 + 1))) else (none)) = some r := by rw [if_neg (show ¬ (false = true) by decide)] at H; exact H
      clear H
      have H := H1
      clear H1
      by_cases c9 : x7_1.length < 2932031007402
      ·rw [if_pos c9] at H
       have LMc9 := Aside0.mk c9
       clear c9
       obtain ⟨y303, hy303⟩ : ∃ y_ : List (S23), y_ = (x7_1 ++ [(⟨(rd_T23 l1 x8_1).f0, (rd_T23 l1 x8_1).f1, (rd_T23 l1 x8_1).f2⟩ : S23)]) := ⟨_, rfl⟩
       replace H : (sutlerref07_Left.l0 k1 l0 l1 a2 y303 (wrap64 (x8_1 + 1))) = some r := by first | (rw [hy303]; with_reducible exact H) | (have H2_ := (Option.bind_some _ _).symm.trans H; rw [hy303]; with_reducible exact H2_) | (have H2_ := (Option.bind_some _ _).symm.trans H; with_reducible exact H2_) | with_reducible exact H | (rw [hy303]; exact H) | exact H
       have Ny303 := Aside0.mk hy303
       clear hy303
       have H' := Aside0.mk H
       clear H
       have p300 : 0 ≤ (x8_1 : Int) := of_decide_eq_true (by first | (with_reducible assumption) | assumption)
       have q300 : x8_1 < (l1.length : Int) := of_decide_eq_true (by first | (with_reducible assumption) | assumption)
       obtain ⟨ad300, e300, hx300_0, hx300_1, hx300_2⟩ := at_T23 HR1.out x8_1 p300 q300
       cases e300
       replace hx300_0 := (HB.out.cell (World.block_lt_of_cell? w _ hx300_0)).trans hx300_0
       replace hx300_1 := (HB.out.cell (World.block_lt_of_cell? w _ hx300_1)).trans hx300_1
       replace hx300_2 := (HB.out.cell (World.block_lt_of_cell? w _ hx300_2)).trans hx300_2
       replace p300 := eq_true p300
       replace q300 := eq_true q300
       go_wp2_with (first | ((with_reducible refine gate_callee (f := 22) rfl ?_); refine goesL_ (some 22) rfl rfl Try.func22 (by kernel_rfl) rfl #[.slice A0 l0.length c0, .agg #[.string ((rd_T23 l1 x8_1).f0), .string ((rd_T23 l1 x8_1).f1), .string ((rd_T23 l1 x8_1).f2)], .int .i64 a2] rfl (by (try simp only [List.map_toArray, List.map_cons, List.map_nil]); first | done | rfl | (simp only [List.length_drop, List.length_take]; rfl)) ?_; (with_reducible refine (sutlerref07_IsCool.calls k1 _ _ l0 ((rd_T23 l1 x8_1).f0) ((rd_T23 l1 x8_1).f1) ((rd_T23 l1 x8_1).f2) a2 false _ ?side1 ?side2 A6.out).mono ?_); (case side1 => repeat (first | exact (Kd.C_below HR0.out HB.out) | (with_reducible refine Kd.C_alloc ?_ _) | (with_reducible refine Kd.C_drewN ?_ _) | (with_reducible refine Kd.C_drew ?_))); (case side2 => exact HC0.out); rintro e w10 ⟨rfl, hb⟩; refine ⟨_, rfl, ?_⟩; have n0_ := Aside0.mk (Kd.R_below (by (with_reducible repeat (first | apply Kd.R_alloc | apply Kd.R_drewN | apply Kd.R_drew)); exact HO_7.out) hb); have n1_ := Aside0.mk (below_step (by repeat (first | (with_reducible first | exact HB.out | apply below_alloc | apply pw_below_drewN | apply below_drew1) | exact HB.out)) hb); clear HO_7; clear HB; have HO_7 := n0_; have HB := n1_; clear n0_ n1_; (try clear hb); (try clear hb2); (try clear hk); (try clear hi); have p302 : 0 ≤ (x8_1 : Int) := of_decide_eq_true (by first | (with_reducible assumption) | assumption); have q302 : x8_1 < (l1.length : Int) := of_decide_eq_true (by first | (with_reducible assumption) | assumption); obtain ⟨ad302, e302, hx302_0, hx302_1, hx302_2⟩ := at_T23 HR1.out x8_1 p302 q302; obtain rfl : ad300 = ad302 := (by injection e302); replace hx302_0 := (HB.out.cell (World.block_lt_of_cell? w _ hx302_0)).trans hx302_0; replace hx302_1 := (HB.out.cell (World.block_lt_of_cell? w _ hx302_1)).trans hx302_1; replace hx302_2 := (HB.out.cell (World.block_lt_of_cell? w _ hx302_2)).trans hx302_2; replace p302 := eq_true p302; replace q302 := eq_true q302) | ((with_reducible refine gate_builtin (b := .append) (xs := #[.tmp 25, .tmp 30]) rfl ?_); at_builtin; refine Kd.R_append k23 (w0 := w) w.heap.size rfl (.tmp 25) (.tmp 30) 35 23 (.agg #[(.string ⟨#[]⟩), (.string ⟨#[]⟩), (.string ⟨#[]⟩)]) 48 rfl Try.underlying35 info23 rfl (by decide) (by omega) u7 x7_1 (⟨(rd_T23 l1 x8_1).f0, (rd_T23 l1 x8_1).f1, (rd_T23 l1 x8_1).f2⟩ : S23) [.string ((rd_T23 l1 x8_1).f0), .string ((rd_T23 l1 x8_1).f1), .string ((rd_T23 l1 x8_1).f2)] (fun _ => True) (fun _ => False) rfl rfl ?aP (fun _ hk => hk.elim) ?aF ?aO ?aB ?aS ?aL ?_; (case aP => exact k23_mkM _ _ _ (⟨(rd_T23 l1 x8_1).f0, (rd_T23 l1 x8_1).f1, (rd_T23 l1 x8_1).f2⟩ : S23)); (case aB => exact (by repeat (first | (with_reducible first | exact HB.out | apply below_alloc | apply pw_below_drewN | apply below_drew1) | exact HB.out))); (case aF => exact (fun _ _ => trivial)); (case aO => exact (by (with_reducible repeat (first | apply Kd.R_alloc | apply Kd.R_drewN | apply Kd.R_drew)); exact HO_7.out)); (case aS => exact (below_size (by repeat (first | (with_reducible first | exact HB.out | apply below_alloc | apply pw_below_drewN | apply below_drew1) | exact HB.out)))); (case aL => have := LMc9.out; omega); intro v304 w11 ho hb hg hat; rw [← Ny303.out] at ho; have n0_ := Aside0.mk (hb); have n1_ := Aside0.mk (ho); clear HB; clear HO_7; have HB := n0_; have HO305 := n1_; clear n0_ n1_; clear ho hb hg hat))
       go_roundg k1
       case measure => have := HK1.out; omega
       case rel => exact ⟨(y303), (wrap64 (x8_1 + 1)), (by first | rfl | (simp; done) | (simp [*]; done)), H', ⟨by have := HK1.out; omega⟩, ⟨by (with_reducible repeat (first | apply Kd.R_alloc | apply Kd.R_drewN | apply Kd.R_drew)); exact HO305.out⟩, ⟨by repeat (first | (with_reducible first | exact HB.out | apply below_alloc | apply pw_below_drewN | apply below_drew1) | exact HB.out)⟩⟩
      ·rw [if_neg c9] at H
       exact absurd H (by simp)
    ·rw [if_neg c5] at H
     exact absurd H (by simp)
   ·rw [if_neg c4] at H
    have c4b0 : decide (x8_1 < (l1.length : Int)) = false := decide_eq_false c4
    clear c4
    obtain rfl := Option.some.inj H
    go_wp2
    go_ret
    exact ⟨_, by first | rfl | (simp [errW_none, errW_some] <;> rfl) | (simp [*, errW_none, errW_some] <;> rfl), by (with_reducible repeat (first | apply Kd.R_alloc | apply Kd.R_drewN | apply Kd.R_drew)); exact HO_7.out, by repeat (first | (with_reducible first | exact HB.out | apply below_alloc | apply pw_below_drewN | apply below_drew1) | exact HB.out)⟩

/-! ### sutlerref07_Clean: function 18 -/
def sutlerref07_Clean.l0 : Nat → List (S25) → Int → List (S25) → Int → Option ((List (S25)))
 | 0, _, _, _, _ => none
 | k + 1, x0, x1, x5, x6 => if x6 < (x0.length : Int) then (if 0 ≤ x6 then (if ((rd_T25 x0 x6).f1) > x1 then (if x5.length < 2513169434916 then (sutlerref07_Clean.l0 k x0 x1 (x5 ++ [(⟨(⟨(rd_T25 x0 x6).f0.f0, (rd_T25 x0 x6).f0.f1, (rd_T25 x0 x6).f0.f2⟩ : S23), (rd_T25 x0 x6).f1⟩ : S25)]) (wrap64 (x6 + 1))) else (none)) else (sutlerref07_Clean.l0 k x0 x1 x5 (wrap64 (x6 + 1)))) else (none)) else (some x5)
def sutlerref07_Clean.f (k : Nat) (l0 : List (S25)) (a1 : Int) : Option ((List (S25))) := sutlerref07_Clean.l0 k l0 a1 ([] : List (S25)) 0
theorem sutlerref07_Clean.mono_l : ∀ k, (∀ y0 y1 y2 y3, LeO (sutlerref07_Clean.l0 k y0 y1 y2 y3) (sutlerref07_Clean.l0 (k + 1) y0 y1 y2 y3))
 | 0 => fun _ _ _ _ r h => by simp [sutlerref07_Clean.l0] at h
 | k + 1 => by
  have ih0 := sutlerref07_Clean.mono_l k
  ·intro y0 y1 y2 y3
   unfold sutlerref07_Clean.l0
   repeat' first
   | (with_reducible exact ih0 _ _ _ _)
   | (with_reducible exact LeO.refl _)
   | (with_reducible exact LeO.none _)
   | (with_reducible refine LeO.ite ?_ ?_)
   | (with_reducible refine LeO.bind ?_ (fun _ => ?_))
   | exact ih0 _ _ _ _
   | exact LeO.none _
   | refine LeO.ite ?_ ?_
   | refine LeO.bind ?_ (fun _ => ?_)
theorem sutlerref07_Clean.mono : ∀ a0 a1 k, LeO (sutlerref07_Clean.f k a0 a1) (sutlerref07_Clean.f (k + 1) a0 a1) := by
 intro a0 a1 k
 have ih0 := sutlerref07_Clean.mono_l k
 unfold sutlerref07_Clean.f
 repeat' first
   | (with_reducible exact ih0 _ _ _ _)
   | (with_reducible exact LeO.refl _)
   | (with_reducible exact LeO.none _)
   | (with_reducible refine LeO.ite ?_ ?_)
   | (with_reducible refine LeO.bind ?_ (fun _ => ?_))
   | exact ih0 _ _ _ _
   | exact LeO.none _
   | refine LeO.ite ?_ ?_
   | refine LeO.bind ?_ (fun _ => ?_)
set_option maxHeartbeats 8000000 in
set_option maxRecDepth 100000 in
theorem sutlerref07_Clean.calls (k : Nat) (A0 : Option Addr) (c0 : Nat) (l0 : List (S25)) (a1 : Int) (r : List (S25)) (w : World) (hr0 : Kd.C k25 w A0 l0.length l0) (hc0 : l0.length ≤ c0) (h : sutlerref07_Clean.f k l0 a1 = some r) :
  Calls Try.prog 18 #[.slice A0 l0.length c0, .int .i64 a1] w fun e w' => ∃ v0_ : Value, e = .returned (v0_) ∧ Kd.R k25 25 w' w.heap.size (fun _ => True) v0_ r ∧ Below w.heap.size w w' := by
 have hu25 := Try.underlying25
 have HR0 := Aside0.mk hr0
 have HC0 := Aside0.mk hc0
 clear hr0 hc0
 have HB := Aside0.mk (Below.refl w.heap.size w)
 have H : (sutlerref07_Clean.l0 k l0 a1 ([] : List (S25)) 0) = some r := h
 clear h
 have H' := Aside0.mk H
 clear H
 go_enter Try.func18, Try.ntmps18
 go_wp2
 go_loopg [5, 6] k (fun kq v5 v6 w' => ∃ (x5_1 : List (S25)) (x6_1 : Int), v6 = .int .i64 x6_1 ∧ Aside0 (sutlerref07_Clean.l0 kq l0 a1 x5_1 x6_1 = some r) ∧ Aside0 (kq ≤ k) ∧ Aside0 (Kd.R k25 25 w' w.heap.size (fun _ => True) v5 x5_1) ∧ Aside0 (Below w.heap.size w w'))
 case atStart => exact ⟨(([] : List (S25))), (0), (by first | rfl | (simp; done) | (simp [*]; done)), H', ⟨Nat.le_refl _⟩, ⟨by first | exact Kd.R_nil _ _ _ _ _ | exact Kd.N_nil _ _ _ _ _ | exact Kd.V_nil _ _ _ _ _ | exact Kd.Q_nil _ _ _ _ _ | exact Kd.S_nil _ _ _ _ _⟩, ⟨by repeat (first | (with_reducible first | exact HB.out | apply below_alloc | apply pw_below_drewN | apply below_drew1) | exact HB.out)⟩⟩
 case round =>
  clear H'
  try clear c1
  try clear p2
  obtain ⟨x5_1, x6_1, rfl, HA, HK1, HO_5, HB⟩ := hrel
  cases gk with
  | zero => exact absurd HA.out (by simp [sutlerref07_Clean.l0])
  | succ k1 =>
   have H := HA.out
   clear HA
   simp only [sutlerref07_Clean.l0] at H
   by_cases c3 : x6_1 < (l0.length : Int)
   ·rw [if_pos c3] at H
    have c3b0 : decide (x6_1 < (l0.length : Int)) = true := decide_eq_true c3
    clear c3
    by_cases c4 : 0 ≤ x6_1
    ·rw [if_pos c4] at H
     have c4b0 : decide (0 ≤ x6_1) = true := decide_eq_true c4
     clear c4
     by_cases c5 : ((rd_T25 l0 x6_1).f1) > a1
     ·rw [if_pos c5] at H
      have c5b0 : decide (a1 < ((rd_T25 l0 x6_1).f1)) = true := decide_eq_true c5
      clear c5
      by_cases c6 : x5_1.length < 2513169434916
      ·rw [if_pos c6] at H
       have LMc6 := Aside0.mk c6
       clear c6
       obtain ⟨y308, hy308⟩ : ∃ y_ : List (S25), y_ = (x5_1 ++ [(⟨(⟨(rd_T25 l0 x6_1).f0.f0, (rd_T25 l0 x6_1).f0.f1, (rd_T25 l0 x6_1).f0.f2⟩ : S23), (rd_T25 l0 x6_1).f1⟩ : S25)]) := ⟨_, rfl⟩
       replace H : (sutlerref07_Clean.l0 k1 l0 a1 y308 (wrap64 (x6_1 + 1))) = some r := by first | (rw [hy308]; with_reducible exact H) | (have H2_ := (Option.bind_some _ _).symm.trans H; rw [hy308]; with_reducible exact H2_) | (have H2_ := (Option.bind_some _ _).symm.trans H; with_reducible exact H2_) | with_reducible exact H | (rw [hy308]; exact H) | exact H
       have Ny308 := Aside0.mk hy308
       clear hy308
       have H' := Aside0.mk H
       clear H
       have p306 : 0 ≤ (x6_1 : Int) := of_decide_eq_true (by first | (with_reducible assumption) | assumption)
       have q306 : x6_1 < (l0.length : Int) := of_decide_eq_true (by first | (with_reducible assumption) | assumption)
       obtain ⟨ad306, e306, hx306_0, hx306_1, hx306_2, hx306_3⟩ := at_T25 HR0.out x6_1 p306 q306
       cases e306
       replace hx306_0 := (HB.out.cell (World.block_lt_of_cell? w _ hx306_0)).trans hx306_0
       replace hx306_1 := (HB.out.cell (World.block_lt_of_cell? w _ hx306_1)).trans hx306_1
       replace hx306_2 := (HB.out.cell (World.block_lt_of_cell? w _ hx306_2)).trans hx306_2
       replace hx306_3 := (HB.out.cell (World.block_lt_of_cell? w _ hx306_3)).trans hx306_3
       replace p306 := eq_true p306
       replace q306 := eq_true q306
       have p307 : 0 ≤ (x6_1 : Int) := of_decide_eq_true (by first | (with_reducible assumption) | assumption)
       have q307 : x6_1 < (l0.length : Int) := of_decide_eq_true (by first | (with_reducible assumption) | assumption)
       obtain ⟨ad307, e307, hx307_0, hx307_1, hx307_2, hx307_3⟩ := at_T25 HR0.out x6_1 p307 q307
       obtain rfl : ad306 = ad307 := (by injection e307)
       replace hx307_0 := (HB.out.cell (World.block_lt_of_cell? w _ hx307_0)).trans hx307_0
       replace hx307_1 := (HB.out.cell (World.block_lt_of_cell? w _ hx307_1)).trans hx307_1
       replace hx307_2 := (HB.out.cell (World.block_lt_of_cell? w _ hx307_2)).trans hx307_2
       replace hx307_3 := (HB.out.cell (World.block_lt_of_cell? w _ hx307_3)).trans hx307_3
       replace p307 := eq_true p307
       replace q307 := eq_true q307
       go_wp2_with (first | ((with_reducible refine gate_builtin (b := .append) (xs := #[.tmp 20, .tmp 25]) rfl ?_); at_builtin; refine Kd.R_append k25 (w0 := w) w.heap.size rfl (.tmp 20) (.tmp 25) 29 25 (.agg #[(.string ⟨#[]⟩), (.string ⟨#[]⟩), (.string ⟨#[]⟩), (.int .i64 0)]) 56 rfl Try.underlying29 info25 rfl (by decide) (by omega) u5 x5_1 (⟨(⟨(rd_T25 l0 x6_1).f0.f0, (rd_T25 l0 x6_1).f0.f1, (rd_T25 l0 x6_1).f0.f2⟩ : S23), (rd_T25 l0 x6_1).f1⟩ : S25) [.string ((rd_T25 l0 x6_1).f0.f0), .string ((rd_T25 l0 x6_1).f0.f1), .string ((rd_T25 l0 x6_1).f0.f2), .int .i64 ((rd_T25 l0 x6_1).f1)] (fun _ => True) (fun _ => False) rfl rfl ?aP (fun _ hk => hk.elim) ?aF ?aO ?aB ?aS ?aL ?_; (case aP => exact k25_mkM _ _ _ (⟨(⟨(rd_T25 l0 x6_1).f0.f0, (rd_T25 l0 x6_1).f0.f1, (rd_T25 l0 x6_1).f0.f2⟩ : S23), (rd_T25 l0 x6_1).f1⟩ : S25)); (case aB => exact (by repeat (first | (with_reducible first | exact HB.out | apply below_alloc | apply pw_below_drewN | apply below_drew1) | exact HB.out))); (case aF => exact (fun _ _ => trivial)); (case aO => exact (by (with_reducible repeat (first | apply Kd.R_alloc | apply Kd.R_drewN | apply Kd.R_drew)); exact HO_5.out)); (case aS => exact (below_size (by repeat (first | (with_reducible first | exact HB.out | apply below_alloc | apply pw_below_drewN | apply below_drew1) | exact HB.out)))); (case aL => have := LMc6.out; omega); intro v309 w7 ho hb hg hat; rw [← Ny308.out] at ho; have n0_ := Aside0.mk (hb); have n1_ := Aside0.mk (ho); clear HB; clear HO_5; have HB := n0_; have HO310 := n1_; clear n0_ n1_; clear ho hb hg hat))
       go_roundg k1
       case measure => have := HK1.out; omega
       case rel => exact ⟨(y308), (wrap64 (x6_1 + 1)), (by first | rfl | (simp; done) | (simp [*]; done)), H', ⟨by have := HK1.out; omega⟩, ⟨by (with_reducible repeat (first | apply Kd.R_alloc | apply Kd.R_drewN | apply Kd.R_drew)); exact HO310.out⟩, ⟨by repeat (first | (with_reducible first | exact HB.out | apply below_alloc | apply pw_below_drewN | apply below_drew1) | exact HB.out)⟩⟩
      ·rw [if_neg c6] at H
       exact absurd H (by simp)
     ·rw [if_neg c5] at H
      have c5b0 : decide (a1 < ((rd_T25 l0 x6_1).f1)) = false := decide_eq_false c5
      clear c5
      have H' := Aside0.mk H
      clear H
      have p306 : 0 ≤ (x6_1 : Int) := of_decide_eq_true (by first | (with_reducible assumption) | assumption)
      have q306 : x6_1 < (l0.length : Int) := of_decide_eq_true (by first | (with_reducible assumption) | assumption)
      obtain ⟨ad306, e306, hx306_0, hx306_1, hx306_2, hx306_3⟩ := at_T25 HR0.out x6_1 p306 q306
      cases e306
      replace hx306_0 := (HB.out.cell (World.block_lt_of_cell? w _ hx306_0)).trans hx306_0
      replace hx306_1 := (HB.out.cell (World.block_lt_of_cell? w _ hx306_1)).trans hx306_1
      replace hx306_2 := (HB.out.cell (World.block_lt_of_cell? w _ hx306_2)).trans hx306_2
      replace hx306_3 := (HB.out.cell (World.block_lt_of_cell? w _ hx306_3)).trans hx306_3
      replace p306 := eq_true p306
      replace q306 := eq_true q306
      go_wp2
      go_roundg k1
      case measure => have := HK1.out; omega
      case rel => exact ⟨(x5_1), (wrap64 (x6_1 + 1)), (by first | rfl | (simp; done) | (simp [*]; done)), H', ⟨by have := HK1.out; omega⟩, ⟨by (with_reducible repeat (first | apply Kd.R_alloc | apply Kd.R_drewN | apply Kd.R_drew)); exact HO_5.out⟩, ⟨by repeat (first | (with_reducible first | exact HB.out | apply below_alloc | apply pw_below_drewN | apply below_drew1) | exact HB.out)⟩⟩
    ·rw [if_neg c4] at H
     exact absurd H (by simp)
   ·rw [if_neg c3] at H
    have c3b0 : decide (x6_1 < (l0.length : Int)) = false := decide_eq_false c3
    clear c3
    obtain rfl := Option.some.inj H
    go_wp2
    go_ret
    exact ⟨_, by first | rfl | (simp [errW_none, errW_some] <;> rfl) | (simp [*, errW_none, errW_some] <;> rfl), by (with_reducible repeat (first | apply Kd.R_alloc | apply Kd.R_drewN | apply Kd.R_drew)); exact HO_5.out, by repeat (first | (with_reducible first | exact HB.out | apply below_alloc | apply pw_below_drewN | apply below_drew1) | exact HB.out)⟩

/-! ### sutlerref07_Next: function 20 -/
def sutlerref07_Next.l0 : Nat → List (S25) → Int → Int → Bool → Int → Option (Int × Bool)
 | 0, _, _, _, _, _ => none
 | k + 1, x0, x1, x6, x7, x8 => if x8 < (x0.length : Int) then (if 0 ≤ x8 then (if ((rd_T25 x0 x8).f1) > x1 then (if x7 = true then (if ((rd_T25 x0 x8).f1) < x6 then (sutlerref07_Next.l0 k x0 x1 ((rd_T25 x0 x8).f1) true (wrap64 (x8 + 1))) else (sutlerref07_Next.l0 k x0 x1 x6 x7 (wrap64 (x8 + 1)))) else (sutlerref07_Next.l0 k x0 x1 ((rd_T25 x0 x8).f1) true (wrap64 (x8 + 1)))) else (sutlerref07_Next.l0 k x0 x1 x6 x7 (wrap64 (x8 + 1)))) else (none)) else (some (x6, x7))
def sutlerref07_Next.f (k : Nat) (l0 : List (S25)) (a1 : Int) : Option (Int × Bool) := sutlerref07_Next.l0 k l0 a1 0 false 0
theorem sutlerref07_Next.mono_l : ∀ k, (∀ y0 y1 y2 y3 y4, LeO (sutlerref07_Next.l0 k y0 y1 y2 y3 y4) (sutlerref07_Next.l0 (k + 1) y0 y1 y2 y3 y4))
 | 0 => fun _ _ _ _ _ r h => by simp [sutlerref07_Next.l0] at h
 | k + 1 => by
  have ih0 := sutlerref07_Next.mono_l k
  ·intro y0 y1 y2 y3 y4
   unfold sutlerref07_Next.l0
   repeat' first
   | (with_reducible exact ih0 _ _ _ _ _)
   | (with_reducible exact LeO.refl _)
   | (with_reducible exact LeO.none _)
   | (with_reducible refine LeO.ite ?_ ?_)
   | (with_reducible refine LeO.bind ?_ (fun _ => ?_))
   | exact ih0 _ _ _ _ _
   | exact LeO.none _
   | refine LeO.ite ?_ ?_
   | refine LeO.bind ?_ (fun _ => ?_)
theorem sutlerref07_Next.mono : ∀ a0 a1 k, LeO (sutlerref07_Next.f k a0 a1) (sutlerref07_Next.f (k + 1) a0 a1) := by
 intro a0 a1 k
 have ih0 := sutlerref07_Next.mono_l k
 unfold sutlerref07_Next.f
 repeat' first
   | (with_reducible exact ih0 _ _ _ _ _)
   | (with_reducible exact LeO.refl _)
   | (with_reducible exact LeO.none _)
   | (with_reducible refine LeO.ite ?_ ?_)
   | (with_reducible refine LeO.bind ?_ (fun _ => ?_))
   | exact ih0 _ _ _ _ _
   | exact LeO.none _
   | refine LeO.ite ?_ ?_
   | refine LeO.bind ?_ (fun _ => ?_)
set_option maxHeartbeats 8000000 in
set_option maxRecDepth 100000 in
theorem sutlerref07_Next.calls (k : Nat) (A0 : Option Addr) (c0 : Nat) (l0 : List (S25)) (a1 : Int) (r1 : Int) (r2 : Bool) (w : World) (hr0 : Kd.C k25 w A0 l0.length l0) (hc0 : l0.length ≤ c0) (h : sutlerref07_Next.f k l0 a1 = some (r1, r2)) :
  Calls Try.prog 20 #[.slice A0 l0.length c0, .int .i64 a1] w fun e w' => e = .returned (.tuple #[.int .i64 r1, .bool r2]) ∧ Drawn0 w w' := by
 have HR0 := Aside0.mk hr0
 have HC0 := Aside0.mk hc0
 clear hr0 hc0
 have H : (sutlerref07_Next.l0 k l0 a1 0 false 0) = some (r1, r2) := h
 clear h
 have H' := Aside0.mk H
 clear H
 go_enter Try.func20, Try.ntmps20
 go_wp2
 go_loopg [6, 7, 8] k (fun kq v6 v7 v8 w' => ∃ (x6_1 : Int) (x7_1 : Bool) (x8_1 : Int), v6 = .int .i64 x6_1 ∧ v7 = .bool x7_1 ∧ v8 = .int .i64 x8_1 ∧ Aside0 (sutlerref07_Next.l0 kq l0 a1 x6_1 x7_1 x8_1 = some (r1, r2)) ∧ Aside0 (kq ≤ k) ∧ Drawn0 w w')
 case atStart => exact ⟨(0), (false), (0), (by first | rfl | (simp; done) | (simp [*]; done)), (by first | rfl | (simp; done) | (simp [*]; done)), (by first | rfl | (simp; done) | (simp [*]; done)), H', ⟨Nat.le_refl _⟩, by repeat (first | exact Drawn0.refl _ | apply Drawn0.step)⟩
 case round =>
  clear H'
  try clear c2
  try clear p2
  obtain ⟨x6_1, x7_1, x8_1, rfl, rfl, rfl, HA, HK1, ⟨m1, rfl⟩⟩ := hrel
  cases gk with
  | zero => exact absurd HA.out (by simp [sutlerref07_Next.l0])
  | succ k1 =>
   have H := HA.out
   clear HA
   simp only [sutlerref07_Next.l0] at H
   by_cases c3 : x8_1 < (l0.length : Int)
   ·rw [if_pos c3] at H
    have c3b0 : decide (x8_1 < (l0.length : Int)) = true := decide_eq_true c3
    clear c3
    by_cases c4 : 0 ≤ x8_1
    ·rw [if_pos c4] at H
     have c4b0 : decide (0 ≤ x8_1) = true := decide_eq_true c4
     clear c4
     by_cases c5 : ((rd_T25 l0 x8_1).f1) > a1
     ·rw [if_pos c5] at H
      have c5b0 : decide (a1 < ((rd_T25 l0 x8_1).f1)) = true := decide_eq_true c5
      clear c5
      by_cases c6 : x7_1 = true
      ·subst c6
       have H1 : (if ((rd_T25 l0 x8_1).f1) < x6_1 then (sutlerref07_Next.l0 k1 l0 a1 ((rd_T25 l0 x8_1).f1) true (wrap64 (x8_1 + 1))) else (sutlerref07_Next.l0 k1 l0 a1 x6_1 true (wrap64 (x8_1 + 1)))) = some (r1, r2) := by rw [if_pos rfl] at H; exact H
       clear H
       have H := H1
       clear H1
       by_cases c7 : ((rd_T25 l0 x8_1).f1) < x6_1
       ·rw [if_pos c7] at H
        have c7b0 : decide (((rd_T25 l0 x8_1).f1) < x6_1) = true := decide_eq_true c7
        clear c7
        have H' := Aside0.mk H
        clear H
        have p311 : 0 ≤ (x8_1 : Int) := of_decide_eq_true (by first | (with_reducible assumption) | assumption)
        have q311 : x8_1 < (l0.length : Int) := of_decide_eq_true (by first | (with_reducible assumption) | assumption)
        obtain ⟨ad311, e311, hx311_0, hx311_1, hx311_2, hx311_3⟩ := at_T25 HR0.out x8_1 p311 q311
        cases e311
        replace p311 := eq_true p311
        replace q311 := eq_true q311
        have p312 : 0 ≤ (x8_1 : Int) := of_decide_eq_true (by first | (with_reducible assumption) | assumption)
        have q312 : x8_1 < (l0.length : Int) := of_decide_eq_true (by first | (with_reducible assumption) | assumption)
        obtain ⟨ad312, e312, hx312_0, hx312_1, hx312_2, hx312_3⟩ := at_T25 HR0.out x8_1 p312 q312
        obtain rfl : ad311 = ad312 := (by injection e312)
        replace p312 := eq_true p312
        replace q312 := eq_true q312
        have p313 : 0 ≤ (x8_1 : Int) := of_decide_eq_true (by first | (with_reducible assumption) | assumption)
        have q313 : x8_1 < (l0.length : Int) := of_decide_eq_true (by first | (with_reducible assumption) | assumption)
        obtain ⟨ad313, e313, hx313_0, hx313_1, hx313_2, hx313_3⟩ := at_T25 HR0.out x8_1 p313 q313
        obtain rfl : ad311 = ad313 := (by injection e313)
        replace p313 := eq_true p313
        replace q313 := eq_true q313
        go_wp2
        go_roundg k1
        case measure => have := HK1.out; omega
        case rel => exact ⟨((rd_T25 l0 x8_1).f1), (true), (wrap64 (x8_1 + 1)), (by first | rfl | (simp; done) | (simp [*]; done)), (by first | rfl | (simp; done) | (simp [*]; done)), (by first | rfl | (simp; done) | (simp [*]; done)), H', ⟨by have := HK1.out; omega⟩, by repeat (first | exact Drawn0.refl _ | apply Drawn0.step)⟩
       ·rw [if_neg c7] at H
        have c7b0 : decide (((rd_T25 l0 x8_1).f1) < x6_1) = false := decide_eq_false c7
        clear c7
        have H' := Aside0.mk H
        clear H
        have p311 : 0 ≤ (x8_1 : Int) := of_decide_eq_true (by first | (with_reducible assumption) | assumption)
        have q311 : x8_1 < (l0.length : Int) := of_decide_eq_true (by first | (with_reducible assumption) | assumption)
        obtain ⟨ad311, e311, hx311_0, hx311_1, hx311_2, hx311_3⟩ := at_T25 HR0.out x8_1 p311 q311
        cases e311
        replace p311 := eq_true p311
        replace q311 := eq_true q311
        have p312 : 0 ≤ (x8_1 : Int) := of_decide_eq_true (by first | (with_reducible assumption) | assumption)
        have q312 : x8_1 < (l0.length : Int) := of_decide_eq_true (by first | (with_reducible assumption) | assumption)
        obtain ⟨ad312, e312, hx312_0, hx312_1, hx312_2, hx312_3⟩ := at_T25 HR0.out x8_1 p312 q312
        obtain rfl : ad311 = ad312 := (by injection e312)
        replace p312 := eq_true p312
        replace q312 := eq_true q312
        go_wp2
        go_roundg k1
        case measure => have := HK1.out; omega
        case rel => exact ⟨(x6_1), (true), (wrap64 (x8_1 + 1)), (by first | rfl | (simp; done) | (simp [*]; done)), (by first | rfl | (simp; done) | (simp [*]; done)), (by first | rfl | (simp; done) | (simp [*]; done)), H', ⟨by have := HK1.out; omega⟩, by repeat (first | exact Drawn0.refl _ | apply Drawn0.step)⟩
      ·replace c6 := Bool.eq_false_iff.mpr c6
       subst c6
       have H1 : (sutlerref07_Next.l0 k1 l0 a1 ((rd_T25 l0 x8_1).f1) true (wrap64 (x8_1 + 1))) = some (r1, r2) := by rw [if_neg (show ¬ (false = true) by decide)] at H; exact H
       clear H
       have H := H1
       clear H1
       have H' := Aside0.mk H
       clear H
       have p311 : 0 ≤ (x8_1 : Int) := of_decide_eq_true (by first | (with_reducible assumption) | assumption)
       have q311 : x8_1 < (l0.length : Int) := of_decide_eq_true (by first | (with_reducible assumption) | assumption)
       obtain ⟨ad311, e311, hx311_0, hx311_1, hx311_2, hx311_3⟩ := at_T25 HR0.out x8_1 p311 q311
       cases e311
       replace p311 := eq_true p311
       replace q311 := eq_true q311
       have p314 : 0 ≤ (x8_1 : Int) := of_decide_eq_true (by first | (with_reducible assumption) | assumption)
       have q314 : x8_1 < (l0.length : Int) := of_decide_eq_true (by first | (with_reducible assumption) | assumption)
       obtain ⟨ad314, e314, hx314_0, hx314_1, hx314_2, hx314_3⟩ := at_T25 HR0.out x8_1 p314 q314
       obtain rfl : ad311 = ad314 := (by injection e314)
       replace p314 := eq_true p314
       replace q314 := eq_true q314
       go_wp2
       go_roundg k1
       case measure => have := HK1.out; omega
       case rel => exact ⟨((rd_T25 l0 x8_1).f1), (true), (wrap64 (x8_1 + 1)), (by first | rfl | (simp; done) | (simp [*]; done)), (by first | rfl | (simp; done) | (simp [*]; done)), (by first | rfl | (simp; done) | (simp [*]; done)), H', ⟨by have := HK1.out; omega⟩, by repeat (first | exact Drawn0.refl _ | apply Drawn0.step)⟩
     ·rw [if_neg c5] at H
      have c5b0 : decide (a1 < ((rd_T25 l0 x8_1).f1)) = false := decide_eq_false c5
      clear c5
      have H' := Aside0.mk H
      clear H
      have p311 : 0 ≤ (x8_1 : Int) := of_decide_eq_true (by first | (with_reducible assumption) | assumption)
      have q311 : x8_1 < (l0.length : Int) := of_decide_eq_true (by first | (with_reducible assumption) | assumption)
      obtain ⟨ad311, e311, hx311_0, hx311_1, hx311_2, hx311_3⟩ := at_T25 HR0.out x8_1 p311 q311
      cases e311
      replace p311 := eq_true p311
      replace q311 := eq_true q311
      go_wp2
      go_roundg k1
      case measure => have := HK1.out; omega
      case rel => exact ⟨(x6_1), (x7_1), (wrap64 (x8_1 + 1)), (by first | rfl | (simp; done) | (simp [*]; done)), (by first | rfl | (simp; done) | (simp [*]; done)), (by first | rfl | (simp; done) | (simp [*]; done)), H', ⟨by have := HK1.out; omega⟩, by repeat (first | exact Drawn0.refl _ | apply Drawn0.step)⟩
    ·rw [if_neg c4] at H
     exact absurd H (by simp)
   ·rw [if_neg c3] at H
    have c3b0 : decide (x8_1 < (l0.length : Int)) = false := decide_eq_false c3
    clear c3
    simp only [Option.some.injEq, Prod.mk.injEq] at H
    obtain ⟨rfl, rfl⟩ := H
    go_wp2
    go_ret2
    exact ⟨by first | rfl | (simp; done) | (simp [*]; done), by repeat (first | exact Drawn0.refl _ | apply Drawn0.step)⟩

end Go.Proofs.Ytiodidhbkgnicaa.PAll
