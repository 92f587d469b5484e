-- written by a program of this session (the kit's print, turned): plain functions and their contracts
-- shrunk
import Derived.Test.YthgdeoacplcceaaDoorPAllx0
import Derived.Test.YthgdeoacplcceaaDoorPAllx2
namespace Go.Proofs.YthgdeoacplcceaaDoor.PAll
open Go.RowKit Go.Proofs.YthgdeoacplcceaaDoorW.PrintWords Go.Proofs.YthgdeoacplcceaaDoorW.PrintLast Go.Proofs.YthgdeoacplcceaaDoorW.PrintMore
attribute [local go_sem] max2_int min2_int max_two min_two max_three min_three max_four min_four   -- for this text's walks alone
set_option linter.unusedVariables false
set_option linter.unusedSimpArgs false

attribute [local go_sem high] eqA28
/-! ### api_Tol_26: function 26 -/
def api_Tol_26.l0 : Nat → List (S28) → Int → Int → ByteArray → ByteArray → Bool → Option (Int)
 | 0, _, _, _, _, _, _ => none
 | k + 1, x0, x7, x8, x102000, x102001, x102002 => if x8 < x7 then (if 0 ≤ x8 then (if x8 < (x0.length : Int) then (if (x102000.toList == (((rd_T28 x0 x8).f0).toList) && (x102001.toList == (((rd_T28 x0 x8).f1).toList) && (x102002 == ((rd_T28 x0 x8).f2)))) = true then (some x8) else (api_Tol_26.l0 k x0 x7 (wrap64 (x8 + 1)) x102000 x102001 x102002)) else (none)) else (none)) else (some (-1))
def api_Tol_26.f (k : Nat) (l0 : List (S28)) (a1_0 : ByteArray) (a1_1 : ByteArray) (a1_2 : Bool) : Option (Int) := api_Tol_26.l0 k l0 (l0.length : Int) 0 a1_0 a1_1 a1_2
theorem api_Tol_26.mono_l : ∀ k, (∀ y0 y1 y2 y3 y4 y5, LeO (api_Tol_26.l0 k y0 y1 y2 y3 y4 y5) (api_Tol_26.l0 (k + 1) y0 y1 y2 y3 y4 y5))
 | 0 => fun _ _ _ _ _ _ r h => by simp [api_Tol_26.l0] at h
 | k + 1 => by
  have ih0 := api_Tol_26.mono_l k
  ·intro y0 y1 y2 y3 y4 y5
   unfold api_Tol_26.l0
   repeat' first
   | (with_reducible exact ih0 _ _ _ _ _ _)
   | (with_reducible exact LeO.refl _)
   | (with_reducible exact LeO.none _)
   | (with_reducible refine LeO.ite ?_ ?_)
   | (with_reducible refine LeO.bind ?_ (fun _ => ?_))
   | exact ih0 _ _ _ _ _ _
   | exact LeO.none _
   | refine LeO.ite ?_ ?_
   | refine LeO.bind ?_ (fun _ => ?_)
theorem api_Tol_26.mono : ∀ a0 a1 a2 a3 k, LeO (api_Tol_26.f k a0 a1 a2 a3) (api_Tol_26.f (k + 1) a0 a1 a2 a3) := by
 intro a0 a1 a2 a3 k
 have ih0 := api_Tol_26.mono_l k
 unfold api_Tol_26.f
 repeat' first
   | (with_reducible exact ih0 _ _ _ _ _ _)
   | (with_reducible exact LeO.refl _)
   | (with_reducible exact LeO.none _)
   | (with_reducible refine LeO.ite ?_ ?_)
   | (with_reducible refine LeO.bind ?_ (fun _ => ?_))
   | exact ih0 _ _ _ _ _ _
   | exact LeO.none _
   | refine LeO.ite ?_ ?_
   | refine LeO.bind ?_ (fun _ => ?_)
set_option maxHeartbeats 8000000 in
set_option maxRecDepth 100000 in
theorem api_Tol_26.calls (k : Nat) (A0 : Option Addr) (c0 : Nat) (l0 : List (S28)) (a1_0 : ByteArray) (a1_1 : ByteArray) (a1_2 : Bool) (r : Int) (w : World) (hr0 : Kd.C k28 w A0 l0.length l0) (hc0 : l0.length ≤ c0) (h : api_Tol_26.f k l0 a1_0 a1_1 a1_2 = some r) :
  Calls Tryd.prog 26 #[.slice A0 l0.length c0, .agg #[.string a1_0, .string a1_1, .bool a1_2]] w fun e w' => e = .returned (.int .i64 r) ∧ Below w.heap.size w w' := by
 have hu28 := Tryd.underlying28
 have HR0 := Aside0.mk hr0
 have HC0 := Aside0.mk hc0
 clear hr0 hc0
 have HB := Aside0.mk (Below.refl w.heap.size w)
 have H : (api_Tol_26.l0 k l0 (l0.length : Int) 0 a1_0 a1_1 a1_2) = some r := h
 clear h
 have H' := Aside0.mk H
 clear H
 go_enter Tryd.func26, Tryd.ntmps26
 go_wp2_with (first | ((with_reducible refine gate_dst (N := 3) rfl ?_); refine box_event ?hg (N := 3) ?hd (cs := #[.string a1_0, .string a1_1, .bool a1_2]) (t := 28) ?hr ?_; (case hd => rfl); (case hg => rfl); (case hr => first | (go_simp; done) | (go_simp; rfl)); intro gb101 hg w3 hbox hb; have n0_ := Aside0.mk (below_step (by repeat (first | (with_reducible first | exact HB.out | apply below_alloc | apply pw_below_drewN | apply below_drew1) | exact HB.out)) hb); have n1_ := Aside0.mk (hbox); have n2_ := Aside0.mk ((by rw [hg]; exact (below_size (by repeat (first | (with_reducible first | exact HB.out | apply below_alloc | apply pw_below_drewN | apply below_drew1) | exact HB.out))) : w.heap.size ≤ gb101)); have n3_ := Aside0.mk ((by rw [hg]; exact (below_size (by repeat (first | (with_reducible first | exact HB.out | apply below_alloc | apply pw_below_drewN | apply below_drew1) | exact HB.out))) : w.heap.size ≤ gb101)); clear HB; have HB := n0_; have BK101 := n1_; have GW101 := n2_; have GE101 := n3_; clear n0_ n1_ n2_ n3_; clear hb hbox hg))
 repeat (go_quiet (first | ((with_reducible refine gate_dst (N := 3) rfl ?_); refine box_event ?hg (N := 3) ?hd (cs := #[.string a1_0, .string a1_1, .bool a1_2]) (t := 28) ?hr ?_; (case hd => rfl); (case hg => rfl); (case hr => first | (go_simp; done) | (go_simp; rfl)); intro gb101 hg w3 hbox hb; have n0_ := Aside0.mk (below_step (by repeat (first | (with_reducible first | exact HB.out | apply below_alloc | apply pw_below_drewN | apply below_drew1) | exact HB.out)) hb); have n1_ := Aside0.mk (hbox); have n2_ := Aside0.mk ((by rw [hg]; exact (below_size (by repeat (first | (with_reducible first | exact HB.out | apply below_alloc | apply pw_below_drewN | apply below_drew1) | exact HB.out))) : w.heap.size ≤ gb101)); have n3_ := Aside0.mk ((by rw [hg]; exact (below_size (by repeat (first | (with_reducible first | exact HB.out | apply below_alloc | apply pw_below_drewN | apply below_drew1) | exact HB.out))) : w.heap.size ≤ gb101)); clear HB; have HB := n0_; have BK101 := n1_; have GW101 := n2_; have GE101 := n3_; clear n0_ n1_ n2_ n3_; clear hb hbox hg)); try go_wp2_with (first | ((with_reducible refine gate_dst (N := 3) rfl ?_); refine box_event ?hg (N := 3) ?hd (cs := #[.string a1_0, .string a1_1, .bool a1_2]) (t := 28) ?hr ?_; (case hd => rfl); (case hg => rfl); (case hr => first | (go_simp; done) | (go_simp; rfl)); intro gb101 hg w3 hbox hb; have n0_ := Aside0.mk (below_step (by repeat (first | (with_reducible first | exact HB.out | apply below_alloc | apply pw_below_drewN | apply below_drew1) | exact HB.out)) hb); have n1_ := Aside0.mk (hbox); have n2_ := Aside0.mk ((by rw [hg]; exact (below_size (by repeat (first | (with_reducible first | exact HB.out | apply below_alloc | apply pw_below_drewN | apply below_drew1) | exact HB.out))) : w.heap.size ≤ gb101)); have n3_ := Aside0.mk ((by rw [hg]; exact (below_size (by repeat (first | (with_reducible first | exact HB.out | apply below_alloc | apply pw_below_drewN | apply below_drew1) | exact HB.out))) : w.heap.size ≤ gb101)); clear HB; have HB := n0_; have BK101 := n1_; have GW101 := n2_; have GE101 := n3_; clear n0_ n1_ n2_ n3_; clear hb hbox hg)))
 go_loopg [8] k (fun kq v8 w' => ∃ (x8_1 : Int), v8 = .int .i64 x8_1 ∧ Aside0 (api_Tol_26.l0 kq l0 (l0.length : Int) x8_1 a1_0 a1_1 a1_2 = some r) ∧ Aside0 (kq ≤ k) ∧ Aside0 (w'.heap[gb101]? = some (.cells #[.string a1_0, .string a1_1, .bool a1_2] 28 (0, 0))) ∧ Aside0 (Below w.heap.size w w'))
 case atStart => exact ⟨(0), (by first | rfl | (simp; done) | (simp [*]; done) | (simp [ne_nil_]; done)), H', ⟨Nat.le_refl _⟩, ⟨by (with_reducible repeat (first | refine blk_drewN ?_ _ | refine blk_drew ?_ | refine blk_alloc ?_ _)); exact BK101.out⟩, ⟨by repeat (first | (with_reducible first | exact HB.out | apply below_alloc | apply pw_below_drewN | apply below_drew1 | refine below_set ?_ GE101.out) | exact HB.out)⟩⟩
 case round =>
  clear H'
  try clear c2
  try clear p2
  obtain ⟨x8_1, rfl, HA, HK1, BK101, HB⟩ := hrel
  cases gk with
  | zero => exact absurd HA.out (by simp [api_Tol_26.l0])
  | succ k1 =>
   have H := HA.out
   clear HA
   simp only [api_Tol_26.l0] at H
   by_cases c4 : x8_1 < (l0.length : Int)
   ·rw [if_pos c4] at H
    have c4b0 : decide (x8_1 < (l0.length : Int)) = true := decide_eq_true c4
    clear c4
    by_cases c5 : 0 ≤ x8_1
    ·rw [if_pos c5] at H
     have c5b0 : decide (0 ≤ x8_1) = true := decide_eq_true c5
     clear c5
     by_cases c6 : x8_1 < (l0.length : Int)
     ·rw [if_pos c6] at H
      have c6b0 : decide (x8_1 < (l0.length : Int)) = true := decide_eq_true c6
      clear c6
      by_cases c7 : (a1_0.toList == (((rd_T28 l0 x8_1).f0).toList) && (a1_1.toList == (((rd_T28 l0 x8_1).f1).toList) && (a1_2 == ((rd_T28 l0 x8_1).f2)))) = true
      ·rw [if_pos c7] at H
       have c7b0 : (a1_0.toList == (((rd_T28 l0 x8_1).f0).toList) && (a1_1.toList == (((rd_T28 l0 x8_1).f1).toList) && (a1_2 == ((rd_T28 l0 x8_1).f2)))) = true := c7
       (try (have c7b1 : decide (a1_0.toList = (((rd_T28 l0 x8_1).f0).toList) && (a1_1.toList == (((rd_T28 l0 x8_1).f1).toList) && (a1_2 == ((rd_T28 l0 x8_1).f2)))) = true := by simpa using c7))
       (try (have c7b2 : (a1_0.toList == (((rd_T28 l0 x8_1).f0).toList) && (a1_1.toList == (((rd_T28 l0 x8_1).f1).toList) && (a1_2 == ((rd_T28 l0 x8_1).f2)))) = true := by simpa using c7))
       clear c7
       obtain rfl := Option.some.inj H
       have hcz8_0 : wr.cell? ⟨gb101, 0, none⟩ = some (.string a1_0) := (blk_cell BK101.out 0).trans (by first | rfl | exact congrArg (fun b_ => some (Value.bool b_)) (Eq.symm (Aside0.out (by assumption))))
       have hcz8_1 : wr.cell? ⟨gb101, 1, none⟩ = some (.string a1_1) := (blk_cell BK101.out 1).trans (by first | rfl | exact congrArg (fun b_ => some (Value.bool b_)) (Eq.symm (Aside0.out (by assumption))))
       have hcz8_2 : wr.cell? ⟨gb101, 2, none⟩ = some (.bool a1_2) := (blk_cell BK101.out 2).trans (by first | rfl | exact congrArg (fun b_ => some (Value.bool b_)) (Eq.symm (Aside0.out (by assumption))))
       have hfz8_0 := blk_frozen BK101.out 0
       have hfz8_1 := blk_frozen BK101.out 1
       have hfz8_2 := blk_frozen BK101.out 2
       have p102 : 0 ≤ (x8_1 : Int) := of_decide_eq_true (by first | (with_reducible assumption) | assumption)
       have q102 : x8_1 < (l0.length : Int) := of_decide_eq_true (by first | (with_reducible assumption) | assumption)
       obtain ⟨ad102, e102, hx102_0, hx102_1, hx102_2⟩ := at_T28 HR0.out x8_1 p102 q102
       cases e102
       replace hx102_0 := (HB.out.cell (World.block_lt_of_cell? w _ hx102_0)).trans hx102_0
       replace hx102_1 := (HB.out.cell (World.block_lt_of_cell? w _ hx102_1)).trans hx102_1
       replace hx102_2 := (HB.out.cell (World.block_lt_of_cell? w _ hx102_2)).trans hx102_2
       replace p102 := eq_true p102
       replace q102 := eq_true q102
       go_wp2
       repeat (go_quiet (fail); try go_wp2)
       go_ret
       exact ⟨by first | rfl | (simp [errW_none, errW_some] <;> rfl) | (simp [*, errW_none, errW_some] <;> rfl), by repeat (first | (with_reducible first | exact HB.out | apply below_alloc | apply pw_below_drewN | apply below_drew1 | refine below_set ?_ GE101.out) | exact HB.out)⟩
      ·rw [if_neg c7] at H
       have c7b0 : (a1_0.toList == (((rd_T28 l0 x8_1).f0).toList) && (a1_1.toList == (((rd_T28 l0 x8_1).f1).toList) && (a1_2 == ((rd_T28 l0 x8_1).f2)))) = false := by simpa using c7
       (try (have c7b1 : decide (a1_0.toList = (((rd_T28 l0 x8_1).f0).toList) && (a1_1.toList == (((rd_T28 l0 x8_1).f1).toList) && (a1_2 == ((rd_T28 l0 x8_1).f2)))) = false := by simpa using c7))
       (try (have c7b2 : (a1_0.toList == (((rd_T28 l0 x8_1).f0).toList) && (a1_1.toList == (((rd_T28 l0 x8_1).f1).toList) && (a1_2 == ((rd_T28 l0 x8_1).f2)))) = false := by simpa using c7))
       (try (have c7b3 : ¬ (a1_0.toList = (((rd_T28 l0 x8_1).f0).toList) && (a1_1.toList == (((rd_T28 l0 x8_1).f1).toList) && (a1_2 == ((rd_T28 l0 x8_1).f2)))) := by simpa using c7))
       clear c7
       have H' := Aside0.mk H
       clear H
       have hcz9_0 : wr.cell? ⟨gb101, 0, none⟩ = some (.string a1_0) := (blk_cell BK101.out 0).trans (by first | rfl | exact congrArg (fun b_ => some (Value.bool b_)) (Eq.symm (Aside0.out (by assumption))))
       have hcz9_1 : wr.cell? ⟨gb101, 1, none⟩ = some (.string a1_1) := (blk_cell BK101.out 1).trans (by first | rfl | exact congrArg (fun b_ => some (Value.bool b_)) (Eq.symm (Aside0.out (by assumption))))
       have hcz9_2 : wr.cell? ⟨gb101, 2, none⟩ = some (.bool a1_2) := (blk_cell BK101.out 2).trans (by first | rfl | exact congrArg (fun b_ => some (Value.bool b_)) (Eq.symm (Aside0.out (by assumption))))
       have hfz9_0 := blk_frozen BK101.out 0
       have hfz9_1 := blk_frozen BK101.out 1
       have hfz9_2 := blk_frozen BK101.out 2
       have p102 : 0 ≤ (x8_1 : Int) := of_decide_eq_true (by first | (with_reducible assumption) | assumption)
       have q102 : x8_1 < (l0.length : Int) := of_decide_eq_true (by first | (with_reducible assumption) | assumption)
       obtain ⟨ad102, e102, hx102_0, hx102_1, hx102_2⟩ := at_T28 HR0.out x8_1 p102 q102
       cases e102
       replace hx102_0 := (HB.out.cell (World.block_lt_of_cell? w _ hx102_0)).trans hx102_0
       replace hx102_1 := (HB.out.cell (World.block_lt_of_cell? w _ hx102_1)).trans hx102_1
       replace hx102_2 := (HB.out.cell (World.block_lt_of_cell? w _ hx102_2)).trans hx102_2
       replace p102 := eq_true p102
       replace q102 := eq_true q102
       go_wp2
       repeat (go_quiet (fail); try go_wp2)
       go_roundg k1
       case measure => have := HK1.out; omega
       case rel => exact ⟨(wrap64 (x8_1 + 1)), (by first | rfl | (simp; done) | (simp [*]; done) | (simp [ne_nil_]; done)), H', ⟨by have := HK1.out; omega⟩, ⟨by (with_reducible repeat (first | refine blk_drewN ?_ _ | refine blk_drew ?_ | refine blk_alloc ?_ _)); exact BK101.out⟩, ⟨by repeat (first | (with_reducible first | exact HB.out | apply below_alloc | apply pw_below_drewN | apply below_drew1 | refine below_set ?_ GE101.out) | exact HB.out)⟩⟩
     ·rw [if_neg c6] at H
      exact absurd H (by simp)
    ·rw [if_neg c5] at H
     exact absurd H (by simp)
   ·rw [if_neg c4] at H
    have c4b0 : decide (x8_1 < (l0.length : Int)) = false := decide_eq_false c4
    clear c4
    obtain rfl := Option.some.inj H
    go_wp2
    repeat (go_quiet (fail); try go_wp2)
    go_ret
    exact ⟨by first | rfl | (simp [errW_none, errW_some] <;> rfl) | (simp [*, errW_none, errW_some] <;> rfl), by repeat (first | (with_reducible first | exact HB.out | apply below_alloc | apply pw_below_drewN | apply below_drew1 | refine below_set ?_ GE101.out) | exact HB.out)⟩

/-! ### api_Tol_20: function 20 -/
def api_Tol_20.f (k : Nat) (l0 : List (S28)) (a1_0 : ByteArray) (a1_1 : ByteArray) (a1_2 : Bool) : Option (Bool) := (api_Tol_26.f k l0 a1_0 a1_1 a1_2).bind fun t104 => (some (decide (t104 ≥ 0)))
theorem api_Tol_20.mono : ∀ a0 a1 a2 a3 k, LeO (api_Tol_20.f k a0 a1 a2 a3) (api_Tol_20.f (k + 1) a0 a1 a2 a3) := by
 intro a0 a1 a2 a3 k
 unfold api_Tol_20.f
 repeat' first
   | (with_reducible exact api_Tol_26.mono _ _ _ _ _)
   | (with_reducible exact LeO.refl _)
   | (with_reducible exact LeO.none _)
   | (with_reducible refine LeO.ite ?_ ?_)
   | (with_reducible refine LeO.bind ?_ (fun _ => ?_))
   | exact api_Tol_26.mono _ _ _ _ _
   | exact LeO.none _
   | refine LeO.ite ?_ ?_
   | refine LeO.bind ?_ (fun _ => ?_)
set_option maxHeartbeats 8000000 in
set_option maxRecDepth 100000 in
theorem api_Tol_20.calls (k : Nat) (A0 : Option Addr) (c0 : Nat) (l0 : List (S28)) (a1_0 : ByteArray) (a1_1 : ByteArray) (a1_2 : Bool) (r : Bool) (w : World) (hr0 : Kd.C k28 w A0 l0.length l0) (hc0 : l0.length ≤ c0) (h : api_Tol_20.f k l0 a1_0 a1_1 a1_2 = some r) :
  Calls Tryd.prog 20 #[.slice A0 l0.length c0, .agg #[.string a1_0, .string a1_1, .bool a1_2]] w fun e w' => e = .returned (.bool r) ∧ Below w.heap.size w w' := by
 have hu28 := Tryd.underlying28
 have HR0 := Aside0.mk hr0
 have HC0 := Aside0.mk hc0
 clear hr0 hc0
 have HB := Aside0.mk (Below.refl w.heap.size w)
 have H : ((api_Tol_26.f k l0 a1_0 a1_1 a1_2).bind fun t104 => (some (decide (t104 ≥ 0)))) = some r := h
 clear h
 replace H := Option.bind_eq_some_iff.mp H
 obtain ⟨t104, A30, H⟩ := H
 replace H : (some (decide (t104 ≥ 0))) = some r := H
 have A3 := Aside0.mk A30
 clear A30
 obtain rfl := Option.some.inj H
 go_enter Tryd.func20, Tryd.ntmps20
 go_wp2_with (first | ((with_reducible refine gate_dst (N := 3) rfl ?_); refine box_event ?hg (N := 3) ?hd (cs := #[.string a1_0, .string a1_1, .bool a1_2]) (t := 28) ?hr ?_; (case hd => rfl); (case hg => rfl); (case hr => first | (go_simp; done) | (go_simp; rfl)); intro gb103 hg w4 hbox hb; have n0_ := Aside0.mk (below_step (by repeat (first | (with_reducible first | exact HB.out | apply below_alloc | apply pw_below_drewN | apply below_drew1) | exact HB.out)) hb); have n1_ := Aside0.mk (hbox); have n2_ := Aside0.mk ((by rw [hg]; exact (below_size (by repeat (first | (with_reducible first | exact HB.out | apply below_alloc | apply pw_below_drewN | apply below_drew1) | exact HB.out))) : w.heap.size ≤ gb103)); have n3_ := Aside0.mk ((by rw [hg]; exact (below_size (by repeat (first | (with_reducible first | exact HB.out | apply below_alloc | apply pw_below_drewN | apply below_drew1) | exact HB.out))) : w.heap.size ≤ gb103)); clear HB; have HB := n0_; have BK103 := n1_; have GW103 := n2_; have GE103 := n3_; clear n0_ n1_ n2_ n3_; clear hb hbox hg; have hcz5_0 : w4.cell? ⟨gb103, 0, none⟩ = some (.string a1_0) := (blk_cell BK103.out 0).trans (by first | rfl | exact congrArg (fun b_ => some (Value.bool b_)) (Eq.symm (Aside0.out (by assumption)))); have hcz5_1 : w4.cell? ⟨gb103, 1, none⟩ = some (.string a1_1) := (blk_cell BK103.out 1).trans (by first | rfl | exact congrArg (fun b_ => some (Value.bool b_)) (Eq.symm (Aside0.out (by assumption)))); have hcz5_2 : w4.cell? ⟨gb103, 2, none⟩ = some (.bool a1_2) := (blk_cell BK103.out 2).trans (by first | rfl | exact congrArg (fun b_ => some (Value.bool b_)) (Eq.symm (Aside0.out (by assumption)))); have hfz5_0 := blk_frozen BK103.out 0; have hfz5_1 := blk_frozen BK103.out 1; have hfz5_2 := blk_frozen BK103.out 2) | ((with_reducible refine gate_callee (f := 26) rfl ?_); refine goesL_ (some 7) rfl rfl Tryd.func26 (by kernel_rfl) rfl #[.slice A0 l0.length c0, .agg #[.string a1_0, .string a1_1, .bool a1_2]] rfl (by (try simp only [List.map_toArray, List.map_cons, List.map_nil]); first | done | rfl | (simp only [List.length_drop, List.length_take]; rfl)) ?_; (with_reducible refine (api_Tol_26.calls k _ _ l0 a1_0 a1_1 a1_2 t104 _ ?side1 ?side2 A3.out).mono ?_); (case side1 => repeat (first | exact (Kd.C_below HR0.out HB.out) | (with_reducible refine Kd.C_alloc ?_ _) | (with_reducible refine Kd.C_drewN ?_ _) | (with_reducible refine Kd.C_drew ?_))); (case side2 => exact HC0.out); rintro e w6 ⟨rfl, hb⟩; refine ⟨_, rfl, ?_⟩; have n0_ := Aside0.mk (blk_below (g := gb103) (o := .cells #[.string a1_0, .string a1_1, .bool a1_2] 28 (0, 0)) (by (with_reducible repeat (first | refine blk_drewN ?_ _ | refine blk_drew ?_ | refine blk_alloc ?_ _)); exact BK103.out) hb); have n1_ := Aside0.mk (below_step (by repeat (first | (with_reducible first | exact HB.out | apply below_alloc | apply pw_below_drewN | apply below_drew1 | refine below_set ?_ GE103.out) | exact HB.out)) hb); clear BK103; clear HB; have BK103 := n0_; have HB := n1_; clear n0_ n1_; (try clear hb); (try clear hb2); (try clear hk); (try clear hi)))
 go_ret
 exact ⟨by first | rfl | (simp [errW_none, errW_some] <;> rfl) | (simp [*, errW_none, errW_some] <;> rfl), by repeat (first | (with_reducible first | exact HB.out | apply below_alloc | apply pw_below_drewN | apply below_drew1 | refine below_set ?_ GE103.out) | exact HB.out)⟩

end Go.Proofs.YthgdeoacplcceaaDoor.PAll
