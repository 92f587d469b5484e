-- written by a program of this session (the kit's print, turned): plain functions and their contracts
-- shrunk
import Derived.Test.YtiodidhbkgnicaaPAllx0
import Derived.Test.YtiodidhbkgnicaaPAllx1
import Derived.Test.YtiodidhbkgnicaaPAllx13
import Derived.Test.YtiodidhbkgnicaaPAllx14
import Derived.Test.YtiodidhbkgnicaaPAllx15
namespace Go.Proofs.Ytiodidhbkgnicaa.PAll
open Go.RowKit Go.Proofs.YtiodidhbkgnicaaW.PrintWords Go.Proofs.YtiodidhbkgnicaaW.PrintLast Go.Proofs.YtiodidhbkgnicaaW.PrintMore
attribute [local go_sem] max2_int min2_int max_two min_two max_three min_three max_four min_four   -- for this text's walks alone
set_option linter.unusedVariables false
set_option linter.unusedSimpArgs false

attribute [local go_sem high] eqA23
/-! ### sutlerref07_Put: function 13 -/
def sutlerref07_Put.l0 : Nat → List (S25) → List (S25) → Bool → Int → ByteArray → ByteArray → ByteArray → Int → Option ((List (S25)) × Int)
 | 0, _, _, _, _, _, _, _, _ => none
 | k + 1, x0, x8, x9, x10, x248000, x248001, x248002, x248003 => if x10 < (x0.length : Int) then (if 0 ≤ x10 then (if ((((rd_T25 x0 x10).f0.f0).toList) == x248000.toList && ((((rd_T25 x0 x10).f0.f1).toList) == x248001.toList && ((((rd_T25 x0 x10).f0.f2).toList) == x248002.toList))) = true then (if x8.length < 2513169434916 then (sutlerref07_Put.l0 k x0 (x8 ++ [(⟨(⟨x248000, x248001, x248002⟩ : S23), x248003⟩ : S25)]) true (wrap64 (x10 + 1)) x248000 x248001 x248002 x248003) else (none)) else ((sutlerref06_Less.f x248000 x248001 x248002 ((rd_T25 x0 x10).f0.f0) ((rd_T25 x0 x10).f0.f1) ((rd_T25 x0 x10).f0.f2)).bind fun t255 => (if t255 = true then (if x9 = true then (if x8.length < 2513169434916 then (sutlerref07_Put.l0 k x0 (x8 ++ [(⟨(⟨(rd_T25 x0 x10).f0.f0, (rd_T25 x0 x10).f0.f1, (rd_T25 x0 x10).f0.f2⟩ : S23), (rd_T25 x0 x10).f1⟩ : S25)]) x9 (wrap64 (x10 + 1)) x248000 x248001 x248002 x248003) else (none)) else (if x8.length < 2513169434916 then ((some (x8 ++ [(⟨(⟨x248000, x248001, x248002⟩ : S23), x248003⟩ : S25)] : List (S25))).bind fun y260 => (if y260.length < 2513169434916 then (sutlerref07_Put.l0 k x0 (y260 ++ [(⟨(⟨(rd_T25 x0 x10).f0.f0, (rd_T25 x0 x10).f0.f1, (rd_T25 x0 x10).f0.f2⟩ : S23), (rd_T25 x0 x10).f1⟩ : S25)]) true (wrap64 (x10 + 1)) x248000 x248001 x248002 x248003) else (none))) else (none))) else (if x8.length < 2513169434916 then (sutlerref07_Put.l0 k x0 (x8 ++ [(⟨(⟨(rd_T25 x0 x10).f0.f0, (rd_T25 x0 x10).f0.f1, (rd_T25 x0 x10).f0.f2⟩ : S23), (rd_T25 x0 x10).f1⟩ : S25)]) x9 (wrap64 (x10 + 1)) x248000 x248001 x248002 x248003) else (none))))) else (none)) else (if x9 = true then (if (x8.length : Int) > 72 then (some (([] : List (S25)), 3)) else (some (x8, 0))) else (if x8.length < 2513169434916 then ((some (x8 ++ [(⟨(⟨x248000, x248001, x248002⟩ : S23), x248003⟩ : S25)] : List (S25))).bind fun y271 => (if (y271.length : Int) > 72 then (some (([] : List (S25)), 3)) else (some (y271, 0)))) else (none)))
def sutlerref07_Put.f (k : Nat) (l0 : List (S25)) (a1_0 : ByteArray) (a1_1 : ByteArray) (a1_2 : ByteArray) (a1_3 : Int) : Option ((List (S25)) × Int) := (sutlerref07_Check.f k l0).bind fun t248 => (if t248 = 0 then ((sutlerref07_one.f k a1_0 a1_1 a1_2 a1_3).bind fun t249 => (if t249 = 0 then (sutlerref07_Put.l0 k l0 ([] : List (S25)) false 0 a1_0 a1_1 a1_2 a1_3) else (some (([] : List (S25)), t249)))) else (some (([] : List (S25)), t248)))
theorem sutlerref07_Put.mono_l : ∀ k, (∀ y0 y1 y2 y3 y4 y5 y6 y7, LeO (sutlerref07_Put.l0 k y0 y1 y2 y3 y4 y5 y6 y7) (sutlerref07_Put.l0 (k + 1) y0 y1 y2 y3 y4 y5 y6 y7))
 | 0 => fun _ _ _ _ _ _ _ _ r h => by simp [sutlerref07_Put.l0] at h
 | k + 1 => by
  have ih0 := sutlerref07_Put.mono_l k
  ·intro y0 y1 y2 y3 y4 y5 y6 y7
   unfold sutlerref07_Put.l0
   repeat' first
   | (with_reducible exact ih0 _ _ _ _ _ _ _ _)
   | (with_reducible exact sutlerref07_Check.mono _ _)
   | (with_reducible exact sutlerref07_one.mono _ _ _ _ _)
   | (with_reducible exact LeO.refl _)
   | (with_reducible exact LeO.none _)
   | (with_reducible refine LeO.ite ?_ ?_)
   | (with_reducible refine LeO.bind ?_ (fun _ => ?_))
   | exact ih0 _ _ _ _ _ _ _ _
   | exact sutlerref07_Check.mono _ _
   | exact sutlerref07_one.mono _ _ _ _ _
   | exact LeO.none _
   | refine LeO.ite ?_ ?_
   | refine LeO.bind ?_ (fun _ => ?_)
theorem sutlerref07_Put.mono : ∀ a0 a1 a2 a3 a4 k, LeO (sutlerref07_Put.f k a0 a1 a2 a3 a4) (sutlerref07_Put.f (k + 1) a0 a1 a2 a3 a4) := by
 intro a0 a1 a2 a3 a4 k
 have ih0 := sutlerref07_Put.mono_l k
 unfold sutlerref07_Put.f
 repeat' first
   | (with_reducible exact ih0 _ _ _ _ _ _ _ _)
   | (with_reducible exact sutlerref07_Check.mono _ _)
   | (with_reducible exact sutlerref07_one.mono _ _ _ _ _)
   | (with_reducible exact LeO.refl _)
   | (with_reducible exact LeO.none _)
   | (with_reducible refine LeO.ite ?_ ?_)
   | (with_reducible refine LeO.bind ?_ (fun _ => ?_))
   | exact ih0 _ _ _ _ _ _ _ _
   | exact sutlerref07_Check.mono _ _
   | exact sutlerref07_one.mono _ _ _ _ _
   | exact LeO.none _
   | refine LeO.ite ?_ ?_
   | refine LeO.bind ?_ (fun _ => ?_)
def sutlerref07_Put.T12 : Bool × List (List Nat × List Nat) := (true, [([], []), ([], []), ([0, 1], [0, 1]), ([2], [2]), ([3], [3]), ([], []), ([5], [5]), ([4, 6], [4, 6])])
def sutlerref07_Put.B12 : List Nat := [0, 0, 3, 7, 15, 0, 32, 127]
theorem sutlerref07_Put.tab12 : rtab .any (opsOf Try.f13 12) = sutlerref07_Put.T12 := by kernel_rfl
theorem sutlerref07_Put.bits12 : waitsOk sutlerref07_Put.T12.2 sutlerref07_Put.B12 = true := by kernel_rfl
def sutlerref07_Put.T15 : Bool × List (List Nat × List Nat) := (true, [([], []), ([0], [0]), ([], []), ([], []), ([2, 3], [2, 3]), ([4], [4]), ([5], [5]), ([1, 6], [1, 6]), ([7, 7, 0, 1, 2, 3, 4, 5, 6, 7], [7])])
def sutlerref07_Put.B15 : List Nat := [0, 1, 0, 0, 12, 28, 60, 127, 255]
theorem sutlerref07_Put.tab15 : rtab .any (opsOf Try.f13 15) = sutlerref07_Put.T15 := by kernel_rfl
theorem sutlerref07_Put.bits15 : waitsOk sutlerref07_Put.T15.2 sutlerref07_Put.B15 = true := by kernel_rfl
set_option maxHeartbeats 8000000 in
set_option maxRecDepth 100000 in
theorem sutlerref07_Put.calls (k : Nat) (A0 : Option Addr) (c0 : Nat) (l0 : List (S25)) (a1_0 : ByteArray) (a1_1 : ByteArray) (a1_2 : ByteArray) (a1_3 : Int) (r1 : List (S25)) (r2 : Int) (w : World) (hr0 : Kd.C k25 w A0 l0.length l0) (hc0 : l0.length ≤ c0) (h : sutlerref07_Put.f k l0 a1_0 a1_1 a1_2 a1_3 = some (r1, r2)) :
  Calls Try.prog 13 #[.slice A0 l0.length c0, .agg #[.string a1_0, .string a1_1, .string a1_2, .int .i64 a1_3]] w fun e w' => ∃ v0_ : Value, e = .returned (.tuple #[v0_, .int .i64 r2]) ∧ Kd.R k25 25 w' w.heap.size (fun _ => True) v0_ r1 ∧ Below w.heap.size w w' := by
 have hu25 := Try.underlying25
 have hu23 := Try.underlying23
 have HR0 := Aside0.mk hr0
 have HC0 := Aside0.mk hc0
 clear hr0 hc0
 have HB := Aside0.mk (Below.refl w.heap.size w)
 have H : ((sutlerref07_Check.f k l0).bind fun t248 => (if t248 = 0 then ((sutlerref07_one.f k a1_0 a1_1 a1_2 a1_3).bind fun t249 => (if t249 = 0 then (sutlerref07_Put.l0 k l0 ([] : List (S25)) false 0 a1_0 a1_1 a1_2 a1_3) else (some (([] : List (S25)), t249)))) else (some (([] : List (S25)), t248)))) = some (r1, r2) := h
 clear h
 replace H := Option.bind_eq_some_iff.mp H
 obtain ⟨t248, A30, H⟩ := H
 replace H : (if t248 = 0 then ((sutlerref07_one.f k a1_0 a1_1 a1_2 a1_3).bind fun t249 => (if t249 = 0 then (sutlerref07_Put.l0 k l0 ([] : List (S25)) false 0 a1_0 a1_1 a1_2 a1_3) else (some (([] : List (S25)), t249)))) else (some (([] : List (S25)), t248))) = some (r1, r2) := H
 have A3 := Aside0.mk A30
 clear A30
 by_cases c4 : t248 = 0
 ·rw [if_pos c4] at H
  have c4b0 : (t248 == 0) = true := beq_iff_eq.mpr c4
  have c4b1 : (t248 != 0) = false := bne_eq_false_iff_eq.mpr c4
  clear c4
  replace H := Option.bind_eq_some_iff.mp H
  obtain ⟨t249, A50, H⟩ := H
  replace H : (if t249 = 0 then (sutlerref07_Put.l0 k l0 ([] : List (S25)) false 0 a1_0 a1_1 a1_2 a1_3) else (some (([] : List (S25)), t249))) = some (r1, r2) := H
  have A5 := Aside0.mk A50
  clear A50
  by_cases c6 : t249 = 0
  ·rw [if_pos c6] at H
   have c6b0 : (t249 == 0) = true := beq_iff_eq.mpr c6
   have c6b1 : (t249 != 0) = false := bne_eq_false_iff_eq.mpr c6
   clear c6
   have H' := Aside0.mk H
   clear H
   go_enter Try.func13, Try.ntmps13
   go_wp2_with (first | ((with_reducible refine gate_dst (N := 3) rfl ?_); refine box_event ?hg (N := 3) ?hd (cs := #[.string a1_0, .string a1_1, .string a1_2, .int .i64 a1_3]) (t := 25) ?hr ?_; (case hd => rfl); (case hg => rfl); (case hr => first | (go_simp; done) | (go_simp; rfl)); intro gb247 hg w7 hbox hb; have n0_ := Aside0.mk (below_step (by repeat (first | (with_reducible first | exact HB.out | apply below_alloc | apply pw_below_drewN | apply below_drew1) | exact HB.out)) hb); have n1_ := Aside0.mk (hbox); have n2_ := Aside0.mk ((by rw [hg]; exact (below_size (by repeat (first | (with_reducible first | exact HB.out | apply below_alloc | apply pw_below_drewN | apply below_drew1) | exact HB.out))) : w.heap.size ≤ gb247)); have n3_ := Aside0.mk ((by rw [hg]; exact (below_size (by repeat (first | (with_reducible first | exact HB.out | apply below_alloc | apply pw_below_drewN | apply below_drew1) | exact HB.out))) : w.heap.size ≤ gb247)); clear HB; have HB := n0_; have BK247 := n1_; have GW247 := n2_; have GE247 := n3_; clear n0_ n1_ n2_ n3_; clear hb hbox hg) | ((with_reducible refine gate_callee (f := 11) rfl ?_); refine goesL_ (some 13) rfl rfl Try.func11 (by kernel_rfl) rfl #[.slice A0 l0.length c0] rfl (by (try simp only [List.map_toArray, List.map_cons, List.map_nil]); first | done | rfl | (simp only [List.length_drop, List.length_take]; rfl)) ?_; (with_reducible refine (sutlerref07_Check.calls k _ _ l0 t248 _ ?side1 ?side2 A3.out).mono ?_); (case side1 => repeat (first | exact (Kd.C_below HR0.out HB.out) | (with_reducible refine Kd.C_alloc ?_ _) | (with_reducible refine Kd.C_drewN ?_ _) | (with_reducible refine Kd.C_drew ?_))); (case side2 => exact HC0.out); rintro e w8 ⟨rfl, hb⟩; refine ⟨_, rfl, ?_⟩; have n0_ := Aside0.mk (blk_below (g := gb247) (o := .cells #[.string a1_0, .string a1_1, .string a1_2, .int .i64 a1_3] 25 (0, 0)) (by (with_reducible repeat (first | refine blk_drewN ?_ _ | refine blk_drew ?_ | refine blk_alloc ?_ _)); exact BK247.out) hb); have n1_ := Aside0.mk (below_step (by repeat (first | (with_reducible first | exact HB.out | apply below_alloc | apply pw_below_drewN | apply below_drew1 | refine below_set ?_ GE247.out) | exact HB.out)) hb); clear BK247; clear HB; have BK247 := n0_; have HB := n1_; clear n0_ n1_; (try clear hb); (try clear hb2); (try clear hk); (try clear hi); have hcz9_0 : w8.cell? ⟨gb247, 0, none⟩ = some (.string a1_0) := (blk_cell BK247.out 0).trans rfl; have hcz9_1 : w8.cell? ⟨gb247, 1, none⟩ = some (.string a1_1) := (blk_cell BK247.out 1).trans rfl; have hcz9_2 : w8.cell? ⟨gb247, 2, none⟩ = some (.string a1_2) := (blk_cell BK247.out 2).trans rfl; have hcz9_3 : w8.cell? ⟨gb247, 3, none⟩ = some (.int .i64 a1_3) := (blk_cell BK247.out 3).trans rfl; have hfz9_0 := blk_frozen BK247.out 0; have hfz9_1 := blk_frozen BK247.out 1; have hfz9_2 := blk_frozen BK247.out 2; have hfz9_3 := blk_frozen BK247.out 3) | ((with_reducible refine gate_callee (f := 25) rfl ?_); refine goesL_ (some 18) rfl rfl Try.func25 (by kernel_rfl) rfl #[.agg #[.string a1_0, .string a1_1, .string a1_2, .int .i64 a1_3]] rfl (by (try simp only [List.map_toArray, List.map_cons, List.map_nil]); first | done | rfl | (simp only [List.length_drop, List.length_take]; rfl)) ?_; (with_reducible refine (sutlerref07_one.calls k a1_0 a1_1 a1_2 a1_3 t249 _ A5.out).mono ?_); rintro e w10 ⟨rfl, hb⟩; refine ⟨_, rfl, ?_⟩; have n0_ := Aside0.mk (blk_below (g := gb247) (o := .cells #[.string a1_0, .string a1_1, .string a1_2, .int .i64 a1_3] 25 (0, 0)) (by (with_reducible repeat (first | refine blk_drewN ?_ _ | refine blk_drew ?_ | refine blk_alloc ?_ _)); exact BK247.out) hb); have n1_ := Aside0.mk (below_step (by repeat (first | (with_reducible first | exact HB.out | apply below_alloc | apply pw_below_drewN | apply below_drew1 | refine below_set ?_ GE247.out) | exact HB.out)) hb); clear BK247; clear HB; have BK247 := n0_; have HB := n1_; clear n0_ n1_; (try clear hb); (try clear hb2); (try clear hk); (try clear hi)))
   go_loopg [8, 9, 10] k (fun kq v8 v9 v10 w' => ∃ (x8_1 : List (S25)) (x9_1 : Bool) (x10_1 : Int), v9 = .bool x9_1 ∧ v10 = .int .i64 x10_1 ∧ Aside0 (sutlerref07_Put.l0 kq l0 x8_1 x9_1 x10_1 a1_0 a1_1 a1_2 a1_3 = some (r1, r2)) ∧ Aside0 (kq ≤ k) ∧ Aside0 (Kd.R k25 25 w' w.heap.size (fun k_ => k_ ≠ gb247) v8 x8_1) ∧ Aside0 (w'.heap[gb247]? = some (.cells #[.string a1_0, .string a1_1, .string a1_2, .int .i64 a1_3] 25 (0, 0))) ∧ Aside0 (Below w.heap.size w w'))
   case atStart => exact ⟨(([] : List (S25))), (false), (0), (by first | rfl | (simp; done) | (simp [*]; done)), (by first | rfl | (simp; done) | (simp [*]; done)), H', ⟨Nat.le_refl _⟩, ⟨by first | exact Kd.R_nil _ _ _ _ _ | exact Kd.N_nil _ _ _ _ _ | exact Kd.V_nil _ _ _ _ _ | exact Kd.Q_nil _ _ _ _ _ | exact Kd.S_nil _ _ _ _ _⟩, ⟨by (with_reducible repeat (first | refine blk_drewN ?_ _ | refine blk_drew ?_ | refine blk_alloc ?_ _)); exact BK247.out⟩, ⟨by repeat (first | (with_reducible first | exact HB.out | apply below_alloc | apply pw_below_drewN | apply below_drew1 | refine below_set ?_ GE247.out) | exact HB.out)⟩⟩
   case round =>
    clear H'
    try clear c1
    try clear c2
    try clear p2
    try clear c4
    try clear c4b0
    try clear c4b1
    try clear c6
    try clear c6b0
    try clear c6b1
    try clear hcz9_0
    try clear hcz9_1
    try clear hcz9_2
    try clear hcz9_3
    try clear hfz9_0
    try clear hfz9_1
    try clear hfz9_2
    try clear hfz9_3
    obtain ⟨x8_1, x9_1, x10_1, rfl, rfl, HA, HK1, HO_8, BK247, HB⟩ := hrel
    cases gk with
    | zero => exact absurd HA.out (by simp [sutlerref07_Put.l0])
    | succ k1 =>
     have H := HA.out
     clear HA
     simp only [sutlerref07_Put.l0] at H
     by_cases c11 : x10_1 < (l0.length : Int)
     ·rw [if_pos c11] at H
      have c11b0 : decide (x10_1 < (l0.length : Int)) = true := decide_eq_true c11
      clear c11
      by_cases c12 : 0 ≤ x10_1
      ·rw [if_pos c12] at H
       have c12b0 : decide (0 ≤ x10_1) = true := decide_eq_true c12
       clear c12
       by_cases c13 : ((((rd_T25 l0 x10_1).f0.f0).toList) == a1_0.toList && ((((rd_T25 l0 x10_1).f0.f1).toList) == a1_1.toList && ((((rd_T25 l0 x10_1).f0.f2).toList) == a1_2.toList))) = true
       ·rw [if_pos c13] at H
        have c13b0 : ((((rd_T25 l0 x10_1).f0.f0).toList) == a1_0.toList && ((((rd_T25 l0 x10_1).f0.f1).toList) == a1_1.toList && ((((rd_T25 l0 x10_1).f0.f2).toList) == a1_2.toList))) = true := c13
        (try (have c13b1 : decide ((((rd_T25 l0 x10_1).f0.f0).toList) = a1_0.toList && ((((rd_T25 l0 x10_1).f0.f1).toList) == a1_1.toList && ((((rd_T25 l0 x10_1).f0.f2).toList) == a1_2.toList))) = true := by simpa using c13))
        (try (have c13b2 : ((((rd_T25 l0 x10_1).f0.f0).toList) == a1_0.toList && ((((rd_T25 l0 x10_1).f0.f1).toList) == a1_1.toList && ((((rd_T25 l0 x10_1).f0.f2).toList) == a1_2.toList))) = true := by simpa using c13))
        clear c13
        by_cases c14 : x8_1.length < 2513169434916
        ·rw [if_pos c14] at H
         have LMc14 := Aside0.mk c14
         clear c14
         obtain ⟨y251, hy251⟩ : ∃ y_ : List (S25), y_ = (x8_1 ++ [(⟨(⟨a1_0, a1_1, a1_2⟩ : S23), a1_3⟩ : S25)]) := ⟨_, rfl⟩
         replace H : (sutlerref07_Put.l0 k1 l0 y251 true (wrap64 (x10_1 + 1)) a1_0 a1_1 a1_2 a1_3) = some (r1, r2) := by first | (rw [hy251]; with_reducible exact H) | (have H2_ := (Option.bind_some _ _).symm.trans H; rw [hy251]; with_reducible exact H2_) | (have H2_ := (Option.bind_some _ _).symm.trans H; with_reducible exact H2_) | with_reducible exact H | (rw [hy251]; exact H) | exact H
         have Ny251 := Aside0.mk hy251
         clear hy251
         have H' := Aside0.mk H
         clear H
         try go_wp2
         have n0_ := Aside0.mk (Kd.R_drew HO_8.out)
         have n1_ := Aside0.mk (blk_drew BK247.out)
         have n2_ := Aside0.mk (below_drew1 HB.out)
         clear HO_8
         clear BK247
         clear HB
         have HO_8 := n0_
         have BK247 := n1_
         have HB := n2_
         clear n0_ n1_ n2_
         have p250 : 0 ≤ (x10_1 : Int) := of_decide_eq_true (by first | (with_reducible assumption) | assumption)
         have q250 : x10_1 < (l0.length : Int) := of_decide_eq_true (by first | (with_reducible assumption) | assumption)
         obtain ⟨ad250, e250, hx250_0, hx250_1, hx250_2, hx250_3⟩ := at_T25 HR0.out x10_1 p250 q250
         have hw250_3 := hx250_3
         have hw250_2 := hx250_2
         have hw250_1 := hx250_1
         have hw250_0 := hx250_0
         cases e250
         replace hx250_0 := (HB.out.cell (World.block_lt_of_cell? w _ hx250_0)).trans hx250_0
         replace hx250_1 := (HB.out.cell (World.block_lt_of_cell? w _ hx250_1)).trans hx250_1
         replace hx250_2 := (HB.out.cell (World.block_lt_of_cell? w _ hx250_2)).trans hx250_2
         replace hx250_3 := (HB.out.cell (World.block_lt_of_cell? w _ hx250_3)).trans hx250_3
         replace p250 := eq_true p250
         replace q250 := eq_true q250
         refine start_ (n := 8) (S := fun w' => w'.cell? ⟨gb247, 0, none⟩ = some (.string a1_0) ∧ w'.cell? ⟨gb247, 1, none⟩ = some (.string a1_1) ∧ w'.cell? ⟨gb247, 2, none⟩ = some (.string a1_2) ∧ w'.cell? ⟨gb247, 3, none⟩ = some (.int .i64 a1_3) ∧ w'.cell? (ad250.add ((x10_1).toNat * 4)) = some (.string ((rd_T25 l0 x10_1).f0.f0)) ∧ w'.cell? ⟨(ad250.add ((x10_1).toNat * 4)).block, (ad250.add ((x10_1).toNat * 4)).off + 1, none⟩ = some (.string ((rd_T25 l0 x10_1).f0.f1)) ∧ w'.cell? ⟨(ad250.add ((x10_1).toNat * 4)).block, (ad250.add ((x10_1).toNat * 4)).off + 2, none⟩ = some (.string ((rd_T25 l0 x10_1).f0.f2)) ∧ w'.cell? ⟨(ad250.add ((x10_1).toNat * 4)).block, (ad250.add ((x10_1).toNat * 4)).off + 3, none⟩ = some (.int .i64 ((rd_T25 l0 x10_1).f1))) (ds := []) (tf 0 8) (by kernel_rfl) rfl rfl ⟨(blk_cell BK247.out 0).trans rfl, (blk_cell BK247.out 1).trans rfl, (blk_cell BK247.out 2).trans rfl, (blk_cell BK247.out 3).trans rfl, ((HB.out.cell (World.block_lt_of_cell? w _ hw250_0)).trans hw250_0), ((HB.out.cell (World.block_lt_of_cell? w _ hw250_1)).trans hw250_1), ((HB.out.cell (World.block_lt_of_cell? w _ hw250_2)).trans hw250_2), ((HB.out.cell (World.block_lt_of_cell? w _ hw250_3)).trans hw250_3)⟩ (fun hHeld => ?_); refine with_tabW sutlerref07_Put.tab12 sutlerref07_Put.bits12 (fun HT_ HW_ => ?_)
         generalize wr.drew = w15 at HO_8 BK247 HB hx250_0 hx250_1 hx250_2 hx250_3 hHeld ⊢
         refine pure_ (i := 0) (N := some 28) (v := ?_) (a' := ?_) (tf 1 7) rfl rfl (any_of HT_.out (by kernel_rfl)) (fun _ _ _ h => h) (Or.inl ⟨by rfl, ?_⟩) ?_ ?_
         rotate_left
         ·intro w'
          go_simp
          with_reducible rfl
         rotate_left
         ·simp only [Act.put, List.setIfInBounds_toArray, List.set_cons_zero, List.set_cons_succ, i64_w, i32_w]
          rfl
         refine pure_ (i := 1) (N := some 29) (v := ?_) (a' := ?_) (tf 2 6) rfl rfl (any_of HT_.out (by kernel_rfl)) (fun _ _ _ h => h) (Or.inl ⟨by rfl, ?_⟩) ?_ ?_
         rotate_left
         ·intro w'
          go_simp
          with_reducible rfl
         rotate_left
         ·simp only [Act.put, List.setIfInBounds_toArray, List.set_cons_zero, List.set_cons_succ, i64_w, i32_w]
          rfl
         refine pure_ (i := 2) (N := some 30) (v := ?_) (a' := ?_) (tf 3 5) rfl rfl (any_of HT_.out (by kernel_rfl)) (fun _ _ _ h => h) (Or.inl ⟨by rfl, ?_⟩) ?_ ?_
         rotate_left
         ·intro w'
          go_simp
          with_reducible rfl
         rotate_left
         ·simp only [Act.put, List.setIfInBounds_toArray, List.set_cons_zero, List.set_cons_succ, i64_w, i32_w]
          rfl
         refine pure_ (i := 3) (N := some 31) (v := ?_) (a' := ?_) (tf 4 4) rfl rfl (any_of HT_.out (by kernel_rfl)) (fun _ _ _ h => h) (Or.inl ⟨by rfl, ?_⟩) ?_ ?_
         rotate_left
         ·intro w'
          go_simp
          with_reducible rfl
         rotate_left
         ·simp only [Act.put, List.setIfInBounds_toArray, List.set_cons_zero, List.set_cons_succ, i64_w, i32_w]
          rfl
         refine pure_ (i := 5) (N := some 33) (v := ?_) (a' := ?_) #[true, true, true, true, false, true, false, false] rfl rfl (any_of HT_.out (by kernel_rfl)) (fun _ _ _ h => h) (Or.inl ⟨by rfl, ?_⟩) ?_ ?_
         rotate_left
         ·intro w'
          go_simp
          with_reducible rfl
         rotate_left
         ·simp only [Act.put, List.setIfInBounds_toArray, List.set_cons_zero, List.set_cons_succ, i64_w, i32_w]
          rfl
         refine take_ (i := 4) (N := some 32) (v := ?_) (a' := ?_) (tf 6 2) rfl rfl (take_ofW HT_.out HW_.out (by kernel_rfl)) (fun _ _ _ h => h) (Or.inl ⟨by rfl, ?_⟩) hHeld ?_ ?_
         rotate_left
         ·rintro w' ⟨s0, s1, s2, s3, s4, s5, s6, s7⟩
          go_simp
          with_reducible rfl
         rotate_left
         ·simp only [Act.put, List.setIfInBounds_toArray, List.set_cons_zero, List.set_cons_succ, i64_w, i32_w]
          rfl
         refine take_ (i := 6) (N := some 34) (v := ?_) (a' := ?_) (tf 7 1) rfl rfl (take_ofW HT_.out HW_.out (by kernel_rfl)) (fun _ _ _ h => h) (Or.inl ⟨by rfl, ?_⟩) hHeld ?_ ?_
         rotate_left
         ·rintro w' ⟨s0, s1, s2, s3, s4, s5, s6, s7⟩
          go_simp
          with_reducible rfl
         rotate_left
         ·simp only [Act.put, List.setIfInBounds_toArray, List.set_cons_zero, List.set_cons_succ, i64_w, i32_w]
          rfl
         refine pure_ (i := 7) (N := some 35) (v := ?_) (a' := ?_) (tf 8 0) rfl rfl (any_of HT_.out (by kernel_rfl)) (fun _ _ _ h => h) (Or.inl ⟨by rfl, ?_⟩) ?_ ?_
         rotate_left
         ·intro w'
          go_simp
          with_reducible rfl
         rotate_left
         ·simp only [Act.put, List.setIfInBounds_toArray, List.set_cons_zero, List.set_cons_succ, i64_w, i32_w]
          rfl
         refine done_ (done_of HT_.out (by kernel_rfl)) ?_
         have hcz16_0 : w15.cell? ⟨gb247, 0, none⟩ = some (.string a1_0) := (blk_cell BK247.out 0).trans rfl
         have hcz16_1 : w15.cell? ⟨gb247, 1, none⟩ = some (.string a1_1) := (blk_cell BK247.out 1).trans rfl
         have hcz16_2 : w15.cell? ⟨gb247, 2, none⟩ = some (.string a1_2) := (blk_cell BK247.out 2).trans rfl
         have hcz16_3 : w15.cell? ⟨gb247, 3, none⟩ = some (.int .i64 a1_3) := (blk_cell BK247.out 3).trans rfl
         have hfz16_0 := blk_frozen BK247.out 0
         have hfz16_1 := blk_frozen BK247.out 1
         have hfz16_2 := blk_frozen BK247.out 2
         have hfz16_3 := blk_frozen BK247.out 3
         try go_wp2_with (first | ((with_reducible refine gate_builtin (b := .append) (xs := #[.tmp 36, .tmp 38]) rfl ?_); at_builtin; refine Kd.R_append k25 (w0 := w) w.heap.size rfl (.tmp 36) (.tmp 38) 29 25 (.agg #[(.string ⟨#[]⟩), (.string ⟨#[]⟩), (.string ⟨#[]⟩), (.int .i64 0)]) 56 rfl Try.underlying29 info25 rfl (by decide) (by omega) u8 x8_1 (⟨(⟨a1_0, a1_1, a1_2⟩ : S23), a1_3⟩ : S25) [.string a1_0, .string a1_1, .string a1_2, .int .i64 a1_3] (fun k_ => k_ ≠ gb247) (fun _ => False) rfl rfl ?aP (fun _ hk => hk.elim) ?aF ?aO ?aB ?aS ?aL ?_; (case aP => exact k25_mkM _ _ _ (⟨(⟨a1_0, a1_1, a1_2⟩ : S23), a1_3⟩ : S25)); (case aB => exact (by repeat (first | (with_reducible first | exact HB.out | apply below_alloc | apply pw_below_drewN | apply below_drew1 | refine below_set ?_ GE247.out) | exact HB.out))); (case aF => exact (fun k_ hk => Kd.freshB (g := gb247) (o := .cells #[.string a1_0, .string a1_1, .string a1_2, .int .i64 a1_3] 25 (0, 0)) (by (with_reducible repeat (first | refine blk_drewN ?_ _ | refine blk_drew ?_ | refine blk_alloc ?_ _)); exact BK247.out) k_ hk)); (case aO => exact (by (with_reducible repeat (first | apply Kd.R_alloc | apply Kd.R_drewN | apply Kd.R_drew)); exact HO_8.out)); (case aS => exact (below_size (by repeat (first | (with_reducible first | exact HB.out | apply below_alloc | apply pw_below_drewN | apply below_drew1 | refine below_set ?_ GE247.out) | exact HB.out)))); (case aL => have := LMc14.out; omega); intro v252 w17 ho hb hg hat; rw [← Ny251.out] at ho; have n0_ := Aside0.mk (blk_grown (g := gb247) (o := .cells #[.string a1_0, .string a1_1, .string a1_2, .int .i64 a1_3] 25 (0, 0)) (by (with_reducible repeat (first | refine blk_drewN ?_ _ | refine blk_drew ?_ | refine blk_alloc ?_ _)); exact BK247.out) hg (Kd.R_away HO_8.out (fun _ hk => hk))); have n1_ := Aside0.mk (hb); have n2_ := Aside0.mk (ho); clear BK247; clear HB; clear HO_8; have BK247 := n0_; have HB := n1_; have HO253 := n2_; clear n0_ n1_ n2_; clear ho hb hg hat))
         go_roundg k1
         case measure => have := HK1.out; omega
         case rel => exact ⟨(y251), (true), (wrap64 (x10_1 + 1)), (by first | rfl | (simp; done) | (simp [*]; done)), (by first | rfl | (simp; done) | (simp [*]; done)), H', ⟨by have := HK1.out; omega⟩, ⟨by (with_reducible repeat (first | apply Kd.R_alloc | apply Kd.R_drewN | apply Kd.R_drew)); exact HO253.out⟩, ⟨by (with_reducible repeat (first | refine blk_drewN ?_ _ | refine blk_drew ?_ | refine blk_alloc ?_ _)); exact BK247.out⟩, ⟨by repeat (first | (with_reducible first | exact HB.out | apply below_alloc | apply pw_below_drewN | apply below_drew1 | refine below_set ?_ GE247.out) | exact HB.out)⟩⟩
        ·rw [if_neg c14] at H
         exact absurd H (by simp)
       ·rw [if_neg c13] at H
        have c13b0 : ((((rd_T25 l0 x10_1).f0.f0).toList) == a1_0.toList && ((((rd_T25 l0 x10_1).f0.f1).toList) == a1_1.toList && ((((rd_T25 l0 x10_1).f0.f2).toList) == a1_2.toList))) = false := by simpa using c13
        (try (have c13b1 : decide ((((rd_T25 l0 x10_1).f0.f0).toList) = a1_0.toList && ((((rd_T25 l0 x10_1).f0.f1).toList) == a1_1.toList && ((((rd_T25 l0 x10_1).f0.f2).toList) == a1_2.toList))) = false := by simpa using c13))
        (try (have c13b2 : ((((rd_T25 l0 x10_1).f0.f0).toList) == a1_0.toList && ((((rd_T25 l0 x10_1).f0.f1).toList) == a1_1.toList && ((((rd_T25 l0 x10_1).f0.f2).toList) == a1_2.toList))) = false := by simpa using c13))
        (try (have c13b3 : ¬ ((((rd_T25 l0 x10_1).f0.f0).toList) = a1_0.toList && ((((rd_T25 l0 x10_1).f0.f1).toList) == a1_1.toList && ((((rd_T25 l0 x10_1).f0.f2).toList) == a1_2.toList))) := by simpa using c13))
        clear c13
        replace H := Option.bind_eq_some_iff.mp H
        obtain ⟨t255, A180, H⟩ := H
        replace H : (if t255 = true then (if x9_1 = true then (if x8_1.length < 2513169434916 then (sutlerref07_Put.l0 k1 l0 (x8_1 ++ [(⟨(⟨(rd_T25 l0 x10_1).f0.f0, (rd_T25 l0 x10_1).f0.f1, (rd_T25 l0 x10_1).f0.f2⟩ : S23), (rd_T25 l0 x10_1).f1⟩ : S25)]) x9_1 (wrap64 (x10_1 + 1)) a1_0 a1_1 a1_2 a1_3) else (none)) else (if x8_1.length < 2513169434916 then ((some (x8_1 ++ [(⟨(⟨a1_0, a1_1, a1_2⟩ : S23), a1_3⟩ : S25)] : List (S25))).bind fun y260 => (if y260.length < 2513169434916 then (sutlerref07_Put.l0 k1 l0 (y260 ++ [(⟨(⟨(rd_T25 l0 x10_1).f0.f0, (rd_T25 l0 x10_1).f0.f1, (rd_T25 l0 x10_1).f0.f2⟩ : S23), (rd_T25 l0 x10_1).f1⟩ : S25)]) true (wrap64 (x10_1 + 1)) a1_0 a1_1 a1_2 a1_3) else (none))) else (none))) else (if x8_1.length < 2513169434916 then (sutlerref07_Put.l0 k1 l0 (x8_1 ++ [(⟨(⟨(rd_T25 l0 x10_1).f0.f0, (rd_T25 l0 x10_1).f0.f1, (rd_T25 l0 x10_1).f0.f2⟩ : S23), (rd_T25 l0 x10_1).f1⟩ : S25)]) x9_1 (wrap64 (x10_1 + 1)) a1_0 a1_1 a1_2 a1_3) else (none))) = some (r1, r2) := H
        have A18 := Aside0.mk A180
        clear A180
        by_cases c19 : t255 = true
        ·subst c19
         have H1 : (if x9_1 = true then (if x8_1.length < 2513169434916 then (sutlerref07_Put.l0 k1 l0 (x8_1 ++ [(⟨(⟨(rd_T25 l0 x10_1).f0.f0, (rd_T25 l0 x10_1).f0.f1, (rd_T25 l0 x10_1).f0.f2⟩ : S23), (rd_T25 l0 x10_1).f1⟩ : S25)]) x9_1 (wrap64 (x10_1 + 1)) a1_0 a1_1 a1_2 a1_3) else (none)) else (if x8_1.length < 2513169434916 then ((some (x8_1 ++ [(⟨(⟨a1_0, a1_1, a1_2⟩ : S23), a1_3⟩ : S25)] : List (S25))).bind fun y260 => (if y260.length < 2513169434916 then (sutlerref07_Put.l0 k1 l0 (y260 ++ [(⟨(⟨(rd_T25 l0 x10_1).f0.f0, (rd_T25 l0 x10_1).f0.f1, (rd_T25 l0 x10_1).f0.f2⟩ : S23), (rd_T25 l0 x10_1).f1⟩ : S25)]) true (wrap64 (x10_1 + 1)) a1_0 a1_1 a1_2 a1_3) else (none))) else (none))) = some (r1, r2) := by rw [if_pos rfl] at H; exact H
         clear H
         have H := H1
         clear H1
         by_cases c20 : x9_1 = true
         ·subst c20
          have H1 : (if x8_1.length < 2513169434916 then (sutlerref07_Put.l0 k1 l0 (x8_1 ++ [(⟨(⟨(rd_T25 l0 x10_1).f0.f0, (rd_T25 l0 x10_1).f0.f1, (rd_T25 l0 x10_1).f0.f2⟩ : S23), (rd_T25 l0 x10_1).f1⟩ : S25)]) true (wrap64 (x10_1 + 1)) a1_0 a1_1 a1_2 a1_3) else (none)) = some (r1, r2) := by rw [if_pos rfl] at H; exact H
          clear H
          have H := H1
          clear H1
          by_cases c21 : x8_1.length < 2513169434916
          ·rw [if_pos c21] at H
           have LMc21 := Aside0.mk c21
           clear c21
           obtain ⟨y257, hy257⟩ : ∃ y_ : List (S25), y_ = (x8_1 ++ [(⟨(⟨(rd_T25 l0 x10_1).f0.f0, (rd_T25 l0 x10_1).f0.f1, (rd_T25 l0 x10_1).f0.f2⟩ : S23), (rd_T25 l0 x10_1).f1⟩ : S25)]) := ⟨_, rfl⟩
           replace H : (sutlerref07_Put.l0 k1 l0 y257 true (wrap64 (x10_1 + 1)) a1_0 a1_1 a1_2 a1_3) = some (r1, r2) := by first | (rw [hy257]; with_reducible exact H) | (have H2_ := (Option.bind_some _ _).symm.trans H; rw [hy257]; with_reducible exact H2_) | (have H2_ := (Option.bind_some _ _).symm.trans H; with_reducible exact H2_) | with_reducible exact H | (rw [hy257]; exact H) | exact H
           have Ny257 := Aside0.mk hy257
           clear hy257
           have H' := Aside0.mk H
           clear H
           try go_wp2
           have n0_ := Aside0.mk (Kd.R_drew HO_8.out)
           have n1_ := Aside0.mk (blk_drew BK247.out)
           have n2_ := Aside0.mk (below_drew1 HB.out)
           clear HO_8
           clear BK247
           clear HB
           have HO_8 := n0_
           have BK247 := n1_
           have HB := n2_
           clear n0_ n1_ n2_
           have p250 : 0 ≤ (x10_1 : Int) := of_decide_eq_true (by first | (with_reducible assumption) | assumption)
           have q250 : x10_1 < (l0.length : Int) := of_decide_eq_true (by first | (with_reducible assumption) | assumption)
           obtain ⟨ad250, e250, hx250_0, hx250_1, hx250_2, hx250_3⟩ := at_T25 HR0.out x10_1 p250 q250
           have hw250_3 := hx250_3
           have hw250_2 := hx250_2
           have hw250_1 := hx250_1
           have hw250_0 := hx250_0
           cases e250
           replace hx250_0 := (HB.out.cell (World.block_lt_of_cell? w _ hx250_0)).trans hx250_0
           replace hx250_1 := (HB.out.cell (World.block_lt_of_cell? w _ hx250_1)).trans hx250_1
           replace hx250_2 := (HB.out.cell (World.block_lt_of_cell? w _ hx250_2)).trans hx250_2
           replace hx250_3 := (HB.out.cell (World.block_lt_of_cell? w _ hx250_3)).trans hx250_3
           replace p250 := eq_true p250
           replace q250 := eq_true q250
           refine start_ (n := 8) (S := fun w' => w'.cell? ⟨gb247, 0, none⟩ = some (.string a1_0) ∧ w'.cell? ⟨gb247, 1, none⟩ = some (.string a1_1) ∧ w'.cell? ⟨gb247, 2, none⟩ = some (.string a1_2) ∧ w'.cell? ⟨gb247, 3, none⟩ = some (.int .i64 a1_3) ∧ w'.cell? (ad250.add ((x10_1).toNat * 4)) = some (.string ((rd_T25 l0 x10_1).f0.f0)) ∧ w'.cell? ⟨(ad250.add ((x10_1).toNat * 4)).block, (ad250.add ((x10_1).toNat * 4)).off + 1, none⟩ = some (.string ((rd_T25 l0 x10_1).f0.f1)) ∧ w'.cell? ⟨(ad250.add ((x10_1).toNat * 4)).block, (ad250.add ((x10_1).toNat * 4)).off + 2, none⟩ = some (.string ((rd_T25 l0 x10_1).f0.f2)) ∧ w'.cell? ⟨(ad250.add ((x10_1).toNat * 4)).block, (ad250.add ((x10_1).toNat * 4)).off + 3, none⟩ = some (.int .i64 ((rd_T25 l0 x10_1).f1))) (ds := []) (tf 0 8) (by kernel_rfl) rfl rfl ⟨(blk_cell BK247.out 0).trans rfl, (blk_cell BK247.out 1).trans rfl, (blk_cell BK247.out 2).trans rfl, (blk_cell BK247.out 3).trans rfl, ((HB.out.cell (World.block_lt_of_cell? w _ hw250_0)).trans hw250_0), ((HB.out.cell (World.block_lt_of_cell? w _ hw250_1)).trans hw250_1), ((HB.out.cell (World.block_lt_of_cell? w _ hw250_2)).trans hw250_2), ((HB.out.cell (World.block_lt_of_cell? w _ hw250_3)).trans hw250_3)⟩ (fun hHeld => ?_); refine with_tabW sutlerref07_Put.tab12 sutlerref07_Put.bits12 (fun HT_ HW_ => ?_)
           generalize wr.drew = w22 at HO_8 BK247 HB hx250_0 hx250_1 hx250_2 hx250_3 hHeld ⊢
           refine pure_ (i := 0) (N := some 28) (v := ?_) (a' := ?_) (tf 1 7) rfl rfl (any_of HT_.out (by kernel_rfl)) (fun _ _ _ h => h) (Or.inl ⟨by rfl, ?_⟩) ?_ ?_
           rotate_left
           ·intro w'
            go_simp
            with_reducible rfl
           rotate_left
           ·simp only [Act.put, List.setIfInBounds_toArray, List.set_cons_zero, List.set_cons_succ, i64_w, i32_w]
            rfl
           refine pure_ (i := 1) (N := some 29) (v := ?_) (a' := ?_) (tf 2 6) rfl rfl (any_of HT_.out (by kernel_rfl)) (fun _ _ _ h => h) (Or.inl ⟨by rfl, ?_⟩) ?_ ?_
           rotate_left
           ·intro w'
            go_simp
            with_reducible rfl
           rotate_left
           ·simp only [Act.put, List.setIfInBounds_toArray, List.set_cons_zero, List.set_cons_succ, i64_w, i32_w]
            rfl
           refine pure_ (i := 2) (N := some 30) (v := ?_) (a' := ?_) (tf 3 5) rfl rfl (any_of HT_.out (by kernel_rfl)) (fun _ _ _ h => h) (Or.inl ⟨by rfl, ?_⟩) ?_ ?_
           rotate_left
           ·intro w'
            go_simp
            with_reducible rfl
           rotate_left
           ·simp only [Act.put, List.setIfInBounds_toArray, List.set_cons_zero, List.set_cons_succ, i64_w, i32_w]
            rfl
           refine pure_ (i := 3) (N := some 31) (v := ?_) (a' := ?_) (tf 4 4) rfl rfl (any_of HT_.out (by kernel_rfl)) (fun _ _ _ h => h) (Or.inl ⟨by rfl, ?_⟩) ?_ ?_
           rotate_left
           ·intro w'
            go_simp
            with_reducible rfl
           rotate_left
           ·simp only [Act.put, List.setIfInBounds_toArray, List.set_cons_zero, List.set_cons_succ, i64_w, i32_w]
            rfl
           refine pure_ (i := 5) (N := some 33) (v := ?_) (a' := ?_) #[true, true, true, true, false, true, false, false] rfl rfl (any_of HT_.out (by kernel_rfl)) (fun _ _ _ h => h) (Or.inl ⟨by rfl, ?_⟩) ?_ ?_
           rotate_left
           ·intro w'
            go_simp
            with_reducible rfl
           rotate_left
           ·simp only [Act.put, List.setIfInBounds_toArray, List.set_cons_zero, List.set_cons_succ, i64_w, i32_w]
            rfl
           refine take_ (i := 4) (N := some 32) (v := ?_) (a' := ?_) (tf 6 2) rfl rfl (take_ofW HT_.out HW_.out (by kernel_rfl)) (fun _ _ _ h => h) (Or.inl ⟨by rfl, ?_⟩) hHeld ?_ ?_
           rotate_left
           ·rintro w' ⟨s0, s1, s2, s3, s4, s5, s6, s7⟩
            go_simp
            with_reducible rfl
           rotate_left
           ·simp only [Act.put, List.setIfInBounds_toArray, List.set_cons_zero, List.set_cons_succ, i64_w, i32_w]
            rfl
           refine take_ (i := 6) (N := some 34) (v := ?_) (a' := ?_) (tf 7 1) rfl rfl (take_ofW HT_.out HW_.out (by kernel_rfl)) (fun _ _ _ h => h) (Or.inl ⟨by rfl, ?_⟩) hHeld ?_ ?_
           rotate_left
           ·rintro w' ⟨s0, s1, s2, s3, s4, s5, s6, s7⟩
            go_simp
            with_reducible rfl
           rotate_left
           ·simp only [Act.put, List.setIfInBounds_toArray, List.set_cons_zero, List.set_cons_succ, i64_w, i32_w]
            rfl
           refine pure_ (i := 7) (N := some 35) (v := ?_) (a' := ?_) (tf 8 0) rfl rfl (any_of HT_.out (by kernel_rfl)) (fun _ _ _ h => h) (Or.inl ⟨by rfl, ?_⟩) ?_ ?_
           rotate_left
           ·intro w'
            go_simp
            with_reducible rfl
           rotate_left
           ·simp only [Act.put, List.setIfInBounds_toArray, List.set_cons_zero, List.set_cons_succ, i64_w, i32_w]
            rfl
           refine done_ (done_of HT_.out (by kernel_rfl)) ?_
           try go_wp2
           have n0_ := Aside0.mk (Kd.R_drew HO_8.out)
           have n1_ := Aside0.mk (blk_drew BK247.out)
           have n2_ := Aside0.mk (below_drew1 HB.out)
           clear HO_8
           clear BK247
           clear HB
           have HO_8 := n0_
           have BK247 := n1_
           have HB := n2_
           clear n0_ n1_ n2_
           have p254 : 0 ≤ (x10_1 : Int) := of_decide_eq_true (by first | (with_reducible assumption) | assumption)
           have q254 : x10_1 < (l0.length : Int) := of_decide_eq_true (by first | (with_reducible assumption) | assumption)
           obtain ⟨ad254, e254, hx254_0, hx254_1, hx254_2, hx254_3⟩ := at_T25 HR0.out x10_1 p254 q254
           have hw254_3 := hx254_3
           have hw254_2 := hx254_2
           have hw254_1 := hx254_1
           have hw254_0 := hx254_0
           obtain rfl : ad250 = ad254 := (by injection e254)
           replace hx254_0 := (HB.out.cell (World.block_lt_of_cell? w _ hx254_0)).trans hx254_0
           replace hx254_1 := (HB.out.cell (World.block_lt_of_cell? w _ hx254_1)).trans hx254_1
           replace hx254_2 := (HB.out.cell (World.block_lt_of_cell? w _ hx254_2)).trans hx254_2
           replace hx254_3 := (HB.out.cell (World.block_lt_of_cell? w _ hx254_3)).trans hx254_3
           replace p254 := eq_true p254
           replace q254 := eq_true q254
           refine start_ (n := 9) (S := fun w' => w'.cell? ⟨gb247, 0, none⟩ = some (.string a1_0) ∧ w'.cell? ⟨gb247, 1, none⟩ = some (.string a1_1) ∧ w'.cell? ⟨gb247, 2, none⟩ = some (.string a1_2) ∧ w'.cell? ⟨gb247, 3, none⟩ = some (.int .i64 a1_3) ∧ w'.cell? (ad250.add ((x10_1).toNat * 4)) = some (.string ((rd_T25 l0 x10_1).f0.f0)) ∧ w'.cell? ⟨(ad250.add ((x10_1).toNat * 4)).block, (ad250.add ((x10_1).toNat * 4)).off + 1, none⟩ = some (.string ((rd_T25 l0 x10_1).f0.f1)) ∧ w'.cell? ⟨(ad250.add ((x10_1).toNat * 4)).block, (ad250.add ((x10_1).toNat * 4)).off + 2, none⟩ = some (.string ((rd_T25 l0 x10_1).f0.f2)) ∧ w'.cell? ⟨(ad250.add ((x10_1).toNat * 4)).block, (ad250.add ((x10_1).toNat * 4)).off + 3, none⟩ = some (.int .i64 ((rd_T25 l0 x10_1).f1))) (ds := []) (tf 0 9) (by kernel_rfl) rfl rfl ⟨(blk_cell BK247.out 0).trans rfl, (blk_cell BK247.out 1).trans rfl, (blk_cell BK247.out 2).trans rfl, (blk_cell BK247.out 3).trans rfl, ((HB.out.cell (World.block_lt_of_cell? w _ hw254_0)).trans hw254_0), ((HB.out.cell (World.block_lt_of_cell? w _ hw254_1)).trans hw254_1), ((HB.out.cell (World.block_lt_of_cell? w _ hw254_2)).trans hw254_2), ((HB.out.cell (World.block_lt_of_cell? w _ hw254_3)).trans hw254_3)⟩ (fun hHeld => ?_); refine with_tabW sutlerref07_Put.tab15 sutlerref07_Put.bits15 (fun HT_ HW_ => ?_)
           generalize w22.drew = w23 at HO_8 BK247 HB hx254_0 hx254_1 hx254_2 hx254_3 hHeld ⊢
           refine pure_ (i := 0) (N := some 40) (v := ?_) (a' := ?_) (tf 1 8) rfl rfl (any_of HT_.out (by kernel_rfl)) (fun _ _ _ h => h) (Or.inl ⟨by rfl, ?_⟩) ?_ ?_
           rotate_left
           ·intro w'
            go_simp
            with_reducible rfl
           rotate_left
           ·simp only [Act.put, List.setIfInBounds_toArray, List.set_cons_zero, List.set_cons_succ, i64_w, i32_w]
            rfl
           refine pure_ (i := 2) (N := some 42) (v := ?_) (a' := ?_) #[true, false, true, false, false, false, false, false, false] rfl rfl (any_of HT_.out (by kernel_rfl)) (fun _ _ _ h => h) (Or.inl ⟨by rfl, ?_⟩) ?_ ?_
           rotate_left
           ·intro w'
            go_simp
            with_reducible rfl
           rotate_left
           ·simp only [Act.put, List.setIfInBounds_toArray, List.set_cons_zero, List.set_cons_succ, i64_w, i32_w]
            rfl
           refine pure_ (i := 3) (N := some 43) (v := ?_) (a' := ?_) #[true, false, true, true, false, false, false, false, false] rfl rfl (any_of HT_.out (by kernel_rfl)) (fun _ _ _ h => h) (Or.inl ⟨by rfl, ?_⟩) ?_ ?_
           rotate_left
           ·intro w'
            go_simp
            with_reducible rfl
           rotate_left
           ·simp only [Act.put, List.setIfInBounds_toArray, List.set_cons_zero, List.set_cons_succ, i64_w, i32_w]
            rfl
           refine pure_ (i := 4) (N := some 44) (v := ?_) (a' := ?_) #[true, false, true, true, true, false, false, false, false] rfl rfl (any_of HT_.out (by kernel_rfl)) (fun _ _ _ h => h) (Or.inl ⟨by rfl, ?_⟩) ?_ ?_
           rotate_left
           ·intro w'
            go_simp
            with_reducible rfl
           rotate_left
           ·simp only [Act.put, List.setIfInBounds_toArray, List.set_cons_zero, List.set_cons_succ, i64_w, i32_w]
            rfl
           refine pure_ (i := 5) (N := some 45) (v := ?_) (a' := ?_) #[true, false, true, true, true, true, false, false, false] rfl rfl (any_of HT_.out (by kernel_rfl)) (fun _ _ _ h => h) (Or.inl ⟨by rfl, ?_⟩) ?_ ?_
           rotate_left
           ·intro w'
            go_simp
            with_reducible rfl
           rotate_left
           ·simp only [Act.put, List.setIfInBounds_toArray, List.set_cons_zero, List.set_cons_succ, i64_w, i32_w]
            rfl
           refine take_ (i := 1) (N := some 41) (v := ?_) (a' := ?_) (tf 6 3) rfl rfl (take_ofW HT_.out HW_.out (by kernel_rfl)) (fun _ _ _ h => h) (Or.inl ⟨by rfl, ?_⟩) hHeld ?_ ?_
           rotate_left
           ·rintro w' ⟨s0, s1, s2, s3, s4, s5, s6, s7⟩
            go_simp
            with_reducible rfl
           rotate_left
           ·simp only [Act.put, List.setIfInBounds_toArray, List.set_cons_zero, List.set_cons_succ, i64_w, i32_w]
            rfl
           refine take_ (i := 6) (N := some 46) (v := ?_) (a' := ?_) (tf 7 2) rfl rfl (take_ofW HT_.out HW_.out (by kernel_rfl)) (fun _ _ _ h => h) (Or.inl ⟨by rfl, ?_⟩) hHeld ?_ ?_
           rotate_left
           ·rintro w' ⟨s0, s1, s2, s3, s4, s5, s6, s7⟩
            go_simp
            with_reducible rfl
           rotate_left
           ·simp only [Act.put, List.setIfInBounds_toArray, List.set_cons_zero, List.set_cons_succ, i64_w, i32_w]
            rfl
           refine one_ (i := 7) (N := some 47) (tf 8 1) rfl rfl (one_of HT_.out (by kernel_rfl)) (by decide) (fun K hK => ?_)
           refine goes_ Try.func26 (by kernel_rfl) rfl #[.agg #[.string a1_0, .string a1_1, .string a1_2], .agg #[.string ((rd_T25 l0 x10_1).f0.f0), .string ((rd_T25 l0 x10_1).f0.f1), .string ((rd_T25 l0 x10_1).f0.f2)]] (by rfl) rfl rfl (by (try simp only [List.map_toArray, List.map_cons, List.map_nil]); first | done | rfl | (simp only [List.length_drop, List.length_take]; rfl)) ?_
           with_reducible refine (sutlerref06_Less.calls a1_0 a1_1 a1_2 ((rd_T25 l0 x10_1).f0.f0) ((rd_T25 l0 x10_1).f0.f1) ((rd_T25 l0 x10_1).f0.f2) true _ A18.out).mono ?_
           rintro e w24 ⟨rfl, hb⟩
           refine ⟨_, rfl, ?_⟩
           have n0_ := Aside0.mk (Kd.R_below (by (with_reducible repeat (first | apply Kd.R_alloc | apply Kd.R_drewN | apply Kd.R_drew)); exact HO_8.out) hb)
           have n1_ := Aside0.mk (blk_below (g := gb247) (o := .cells #[.string a1_0, .string a1_1, .string a1_2, .int .i64 a1_3] 25 (0, 0)) (by (with_reducible repeat (first | refine blk_drewN ?_ _ | refine blk_drew ?_ | refine blk_alloc ?_ _)); exact BK247.out) hb)
           have n2_ := Aside0.mk (below_step (by repeat (first | (with_reducible first | exact HB.out | apply below_alloc | apply pw_below_drewN | apply below_drew1 | refine below_set ?_ GE247.out) | exact HB.out)) hb)
           clear HO_8
           clear BK247
           clear HB
           have HO_8 := n0_
           have BK247 := n1_
           have HB := n2_
           clear n0_ n1_ n2_
           (try clear hb)
           (try clear hb2)
           (try clear hk)
           (try clear hi)
           refine hK.out _ _ ⟨(blk_cell BK247.out 0).trans rfl, (blk_cell BK247.out 1).trans rfl, (blk_cell BK247.out 2).trans rfl, (blk_cell BK247.out 3).trans rfl, ((HB.out.cell (World.block_lt_of_cell? w _ hw254_0)).trans hw254_0), ((HB.out.cell (World.block_lt_of_cell? w _ hw254_1)).trans hw254_1), ((HB.out.cell (World.block_lt_of_cell? w _ hw254_2)).trans hw254_2), ((HB.out.cell (World.block_lt_of_cell? w _ hw254_3)).trans hw254_3)⟩ (fun hHeld => ?_)
           clear hK K
           refine norm_ (a' := ?_) ?_ ?_
           rotate_left
           ·show Act.put _ (some 47) _ = _
            simp only [Act.put, List.setIfInBounds_toArray, List.set_cons_zero, List.set_cons_succ, i64_w, i32_w]
            rfl
           refine pure_ (i := 8) (N := some 11) (v := ?_) (a' := ?_) (tf 9 0) rfl rfl (any_of HT_.out (by kernel_rfl)) (fun _ _ _ h => h) (Or.inl ⟨by rfl, ?_⟩) ?_ ?_
           rotate_left
           ·intro w'
            go_simp
            with_reducible rfl
           rotate_left
           ·simp only [Act.put, List.setIfInBounds_toArray, List.set_cons_zero, List.set_cons_succ, i64_w, i32_w]
            rfl
           refine done_ (done_of HT_.out (by kernel_rfl)) ?_
           have p256 : 0 ≤ (x10_1 : Int) := of_decide_eq_true (by first | (with_reducible assumption) | assumption)
           have q256 : x10_1 < (l0.length : Int) := of_decide_eq_true (by first | (with_reducible assumption) | assumption)
           obtain ⟨ad256, e256, hx256_0, hx256_1, hx256_2, hx256_3⟩ := at_T25 HR0.out x10_1 p256 q256
           obtain rfl : ad250 = ad256 := (by injection e256)
           replace hx256_0 := (HB.out.cell (World.block_lt_of_cell? w _ hx256_0)).trans hx256_0
           replace hx256_1 := (HB.out.cell (World.block_lt_of_cell? w _ hx256_1)).trans hx256_1
           replace hx256_2 := (HB.out.cell (World.block_lt_of_cell? w _ hx256_2)).trans hx256_2
           replace hx256_3 := (HB.out.cell (World.block_lt_of_cell? w _ hx256_3)).trans hx256_3
           replace p256 := eq_true p256
           replace q256 := eq_true q256
           try go_wp2_with (first | ((with_reducible refine gate_builtin (b := .append) (xs := #[.tmp 57, .tmp 62]) rfl ?_); at_builtin; refine Kd.R_append k25 (w0 := w) w.heap.size rfl (.tmp 57) (.tmp 62) 29 25 (.agg #[(.string ⟨#[]⟩), (.string ⟨#[]⟩), (.string ⟨#[]⟩), (.int .i64 0)]) 56 rfl Try.underlying29 info25 rfl (by decide) (by omega) u8 x8_1 (⟨(⟨(rd_T25 l0 x10_1).f0.f0, (rd_T25 l0 x10_1).f0.f1, (rd_T25 l0 x10_1).f0.f2⟩ : S23), (rd_T25 l0 x10_1).f1⟩ : S25) [.string ((rd_T25 l0 x10_1).f0.f0), .string ((rd_T25 l0 x10_1).f0.f1), .string ((rd_T25 l0 x10_1).f0.f2), .int .i64 ((rd_T25 l0 x10_1).f1)] (fun k_ => k_ ≠ gb247) (fun _ => False) rfl rfl ?aP (fun _ hk => hk.elim) ?aF ?aO ?aB ?aS ?aL ?_; (case aP => exact k25_mkM _ _ _ (⟨(⟨(rd_T25 l0 x10_1).f0.f0, (rd_T25 l0 x10_1).f0.f1, (rd_T25 l0 x10_1).f0.f2⟩ : S23), (rd_T25 l0 x10_1).f1⟩ : S25)); (case aB => exact (by repeat (first | (with_reducible first | exact HB.out | apply below_alloc | apply pw_below_drewN | apply below_drew1 | refine below_set ?_ GE247.out) | exact HB.out))); (case aF => exact (fun k_ hk => Kd.freshB (g := gb247) (o := .cells #[.string a1_0, .string a1_1, .string a1_2, .int .i64 a1_3] 25 (0, 0)) (by (with_reducible repeat (first | refine blk_drewN ?_ _ | refine blk_drew ?_ | refine blk_alloc ?_ _)); exact BK247.out) k_ hk)); (case aO => exact (by (with_reducible repeat (first | apply Kd.R_alloc | apply Kd.R_drewN | apply Kd.R_drew)); exact HO_8.out)); (case aS => exact (below_size (by repeat (first | (with_reducible first | exact HB.out | apply below_alloc | apply pw_below_drewN | apply below_drew1 | refine below_set ?_ GE247.out) | exact HB.out)))); (case aL => have := LMc21.out; omega); intro v258 w25 ho hb hg hat; rw [← Ny257.out] at ho; have n0_ := Aside0.mk (blk_grown (g := gb247) (o := .cells #[.string a1_0, .string a1_1, .string a1_2, .int .i64 a1_3] 25 (0, 0)) (by (with_reducible repeat (first | refine blk_drewN ?_ _ | refine blk_drew ?_ | refine blk_alloc ?_ _)); exact BK247.out) hg (Kd.R_away HO_8.out (fun _ hk => hk))); have n1_ := Aside0.mk (hb); have n2_ := Aside0.mk (ho); clear BK247; clear HB; clear HO_8; have BK247 := n0_; have HB := n1_; have HO259 := n2_; clear n0_ n1_ n2_; clear ho hb hg hat))
           go_roundg k1
           case measure => have := HK1.out; omega
           case rel => exact ⟨(y257), (true), (wrap64 (x10_1 + 1)), (by first | rfl | (simp; done) | (simp [*]; done)), (by first | rfl | (simp; done) | (simp [*]; done)), H', ⟨by have := HK1.out; omega⟩, ⟨by (with_reducible repeat (first | apply Kd.R_alloc | apply Kd.R_drewN | apply Kd.R_drew)); exact HO259.out⟩, ⟨by (with_reducible repeat (first | refine blk_drewN ?_ _ | refine blk_drew ?_ | refine blk_alloc ?_ _)); exact BK247.out⟩, ⟨by repeat (first | (with_reducible first | exact HB.out | apply below_alloc | apply pw_below_drewN | apply below_drew1 | refine below_set ?_ GE247.out) | exact HB.out)⟩⟩
          ·rw [if_neg c21] at H
           exact absurd H (by simp)
         ·replace c20 := Bool.eq_false_iff.mpr c20
          subst c20
          have H1 : (if x8_1.length < 2513169434916 then ((some (x8_1 ++ [(⟨(⟨a1_0, a1_1, a1_2⟩ : S23), a1_3⟩ : S25)] : List (S25))).bind fun y260 => (if y260.length < 2513169434916 then (sutlerref07_Put.l0 k1 l0 (y260 ++ [(⟨(⟨(rd_T25 l0 x10_1).f0.f0, (rd_T25 l0 x10_1).f0.f1, (rd_T25 l0 x10_1).f0.f2⟩ : S23), (rd_T25 l0 x10_1).f1⟩ : S25)]) true (wrap64 (x10_1 + 1)) a1_0 a1_1 a1_2 a1_3) else (none))) else (none)) = some (r1, r2) := by rw [if_neg (show ¬ (false = true) by decide)] at H; exact H
          clear H
          have H := H1
          clear H1
          by_cases c26 : x8_1.length < 2513169434916
          ·rw [if_pos c26] at H
           have LMc26 := Aside0.mk c26
           clear c26
           obtain ⟨y260, hy260⟩ : ∃ y_ : List (S25), y_ = (x8_1 ++ [(⟨(⟨a1_0, a1_1, a1_2⟩ : S23), a1_3⟩ : S25)]) := ⟨_, rfl⟩
           replace H : (if y260.length < 2513169434916 then (sutlerref07_Put.l0 k1 l0 (y260 ++ [(⟨(⟨(rd_T25 l0 x10_1).f0.f0, (rd_T25 l0 x10_1).f0.f1, (rd_T25 l0 x10_1).f0.f2⟩ : S23), (rd_T25 l0 x10_1).f1⟩ : S25)]) true (wrap64 (x10_1 + 1)) a1_0 a1_1 a1_2 a1_3) else (none)) = some (r1, r2) := by first | (rw [hy260]; with_reducible exact H) | (have H2_ := (Option.bind_some _ _).symm.trans H; rw [hy260]; with_reducible exact H2_) | (have H2_ := (Option.bind_some _ _).symm.trans H; with_reducible exact H2_) | with_reducible exact H | (rw [hy260]; exact H) | exact H
           have Ny260 := Aside0.mk hy260
           clear hy260
           by_cases c27 : y260.length < 2513169434916
           ·rw [if_pos c27] at H
            have LMc27 := Aside0.mk c27
            clear c27
            obtain ⟨y264, hy264⟩ : ∃ y_ : List (S25), y_ = (y260 ++ [(⟨(⟨(rd_T25 l0 x10_1).f0.f0, (rd_T25 l0 x10_1).f0.f1, (rd_T25 l0 x10_1).f0.f2⟩ : S23), (rd_T25 l0 x10_1).f1⟩ : S25)]) := ⟨_, rfl⟩
            replace H : (sutlerref07_Put.l0 k1 l0 y264 true (wrap64 (x10_1 + 1)) a1_0 a1_1 a1_2 a1_3) = some (r1, r2) := by first | (rw [hy264]; with_reducible exact H) | (have H2_ := (Option.bind_some _ _).symm.trans H; rw [hy264]; with_reducible exact H2_) | (have H2_ := (Option.bind_some _ _).symm.trans H; with_reducible exact H2_) | with_reducible exact H | (rw [hy264]; exact H) | exact H
            have Ny264 := Aside0.mk hy264
            clear hy264
            have H' := Aside0.mk H
            clear H
            try go_wp2
            have n0_ := Aside0.mk (Kd.R_drew HO_8.out)
            have n1_ := Aside0.mk (blk_drew BK247.out)
            have n2_ := Aside0.mk (below_drew1 HB.out)
            clear HO_8
            clear BK247
            clear HB
            have HO_8 := n0_
            have BK247 := n1_
            have HB := n2_
            clear n0_ n1_ n2_
            have p250 : 0 ≤ (x10_1 : Int) := of_decide_eq_true (by first | (with_reducible assumption) | assumption)
            have q250 : x10_1 < (l0.length : Int) := of_decide_eq_true (by first | (with_reducible assumption) | assumption)
            obtain ⟨ad250, e250, hx250_0, hx250_1, hx250_2, hx250_3⟩ := at_T25 HR0.out x10_1 p250 q250
            have hw250_3 := hx250_3
            have hw250_2 := hx250_2
            have hw250_1 := hx250_1
            have hw250_0 := hx250_0
            cases e250
            replace hx250_0 := (HB.out.cell (World.block_lt_of_cell? w _ hx250_0)).trans hx250_0
            replace hx250_1 := (HB.out.cell (World.block_lt_of_cell? w _ hx250_1)).trans hx250_1
            replace hx250_2 := (HB.out.cell (World.block_lt_of_cell? w _ hx250_2)).trans hx250_2
            replace hx250_3 := (HB.out.cell (World.block_lt_of_cell? w _ hx250_3)).trans hx250_3
            replace p250 := eq_true p250
            replace q250 := eq_true q250
            refine start_ (n := 8) (S := fun w' => w'.cell? ⟨gb247, 0, none⟩ = some (.string a1_0) ∧ w'.cell? ⟨gb247, 1, none⟩ = some (.string a1_1) ∧ w'.cell? ⟨gb247, 2, none⟩ = some (.string a1_2) ∧ w'.cell? ⟨gb247, 3, none⟩ = some (.int .i64 a1_3) ∧ w'.cell? (ad250.add ((x10_1).toNat * 4)) = some (.string ((rd_T25 l0 x10_1).f0.f0)) ∧ w'.cell? ⟨(ad250.add ((x10_1).toNat * 4)).block, (ad250.add ((x10_1).toNat * 4)).off + 1, none⟩ = some (.string ((rd_T25 l0 x10_1).f0.f1)) ∧ w'.cell? ⟨(ad250.add ((x10_1).toNat * 4)).block, (ad250.add ((x10_1).toNat * 4)).off + 2, none⟩ = some (.string ((rd_T25 l0 x10_1).f0.f2)) ∧ w'.cell? ⟨(ad250.add ((x10_1).toNat * 4)).block, (ad250.add ((x10_1).toNat * 4)).off + 3, none⟩ = some (.int .i64 ((rd_T25 l0 x10_1).f1))) (ds := []) (tf 0 8) (by kernel_rfl) rfl rfl ⟨(blk_cell BK247.out 0).trans rfl, (blk_cell BK247.out 1).trans rfl, (blk_cell BK247.out 2).trans rfl, (blk_cell BK247.out 3).trans rfl, ((HB.out.cell (World.block_lt_of_cell? w _ hw250_0)).trans hw250_0), ((HB.out.cell (World.block_lt_of_cell? w _ hw250_1)).trans hw250_1), ((HB.out.cell (World.block_lt_of_cell? w _ hw250_2)).trans hw250_2), ((HB.out.cell (World.block_lt_of_cell? w _ hw250_3)).trans hw250_3)⟩ (fun hHeld => ?_); refine with_tabW sutlerref07_Put.tab12 sutlerref07_Put.bits12 (fun HT_ HW_ => ?_)
            generalize wr.drew = w28 at HO_8 BK247 HB hx250_0 hx250_1 hx250_2 hx250_3 hHeld ⊢
            refine pure_ (i := 0) (N := some 28) (v := ?_) (a' := ?_) (tf 1 7) rfl rfl (any_of HT_.out (by kernel_rfl)) (fun _ _ _ h => h) (Or.inl ⟨by rfl, ?_⟩) ?_ ?_
            rotate_left
            ·intro w'
             go_simp
             with_reducible rfl
            rotate_left
            ·simp only [Act.put, List.setIfInBounds_toArray, List.set_cons_zero, List.set_cons_succ, i64_w, i32_w]
             rfl
            refine pure_ (i := 1) (N := some 29) (v := ?_) (a' := ?_) (tf 2 6) rfl rfl (any_of HT_.out (by kernel_rfl)) (fun _ _ _ h => h) (Or.inl ⟨by rfl, ?_⟩) ?_ ?_
            rotate_left
            ·intro w'
             go_simp
             with_reducible rfl
            rotate_left
            ·simp only [Act.put, List.setIfInBounds_toArray, List.set_cons_zero, List.set_cons_succ, i64_w, i32_w]
             rfl
            refine pure_ (i := 2) (N := some 30) (v := ?_) (a' := ?_) (tf 3 5) rfl rfl (any_of HT_.out (by kernel_rfl)) (fun _ _ _ h => h) (Or.inl ⟨by rfl, ?_⟩) ?_ ?_
            rotate_left
            ·intro w'
             go_simp
             with_reducible rfl
            rotate_left
            ·simp only [Act.put, List.setIfInBounds_toArray, List.set_cons_zero, List.set_cons_succ, i64_w, i32_w]
             rfl
            refine pure_ (i := 3) (N := some 31) (v := ?_) (a' := ?_) (tf 4 4) rfl rfl (any_of HT_.out (by kernel_rfl)) (fun _ _ _ h => h) (Or.inl ⟨by rfl, ?_⟩) ?_ ?_
            rotate_left
            ·intro w'
             go_simp
             with_reducible rfl
            rotate_left
            ·simp only [Act.put, List.setIfInBounds_toArray, List.set_cons_zero, List.set_cons_succ, i64_w, i32_w]
             rfl
            refine pure_ (i := 5) (N := some 33) (v := ?_) (a' := ?_) #[true, true, true, true, false, true, false, false] rfl rfl (any_of HT_.out (by kernel_rfl)) (fun _ _ _ h => h) (Or.inl ⟨by rfl, ?_⟩) ?_ ?_
            rotate_left
            ·intro w'
             go_simp
             with_reducible rfl
            rotate_left
            ·simp only [Act.put, List.setIfInBounds_toArray, List.set_cons_zero, List.set_cons_succ, i64_w, i32_w]
             rfl
            refine take_ (i := 4) (N := some 32) (v := ?_) (a' := ?_) (tf 6 2) rfl rfl (take_ofW HT_.out HW_.out (by kernel_rfl)) (fun _ _ _ h => h) (Or.inl ⟨by rfl, ?_⟩) hHeld ?_ ?_
            rotate_left
            ·rintro w' ⟨s0, s1, s2, s3, s4, s5, s6, s7⟩
             go_simp
             with_reducible rfl
            rotate_left
            ·simp only [Act.put, List.setIfInBounds_toArray, List.set_cons_zero, List.set_cons_succ, i64_w, i32_w]
             rfl
            refine take_ (i := 6) (N := some 34) (v := ?_) (a' := ?_) (tf 7 1) rfl rfl (take_ofW HT_.out HW_.out (by kernel_rfl)) (fun _ _ _ h => h) (Or.inl ⟨by rfl, ?_⟩) hHeld ?_ ?_
            rotate_left
            ·rintro w' ⟨s0, s1, s2, s3, s4, s5, s6, s7⟩
             go_simp
             with_reducible rfl
            rotate_left
            ·simp only [Act.put, List.setIfInBounds_toArray, List.set_cons_zero, List.set_cons_succ, i64_w, i32_w]
             rfl
            refine pure_ (i := 7) (N := some 35) (v := ?_) (a' := ?_) (tf 8 0) rfl rfl (any_of HT_.out (by kernel_rfl)) (fun _ _ _ h => h) (Or.inl ⟨by rfl, ?_⟩) ?_ ?_
            rotate_left
            ·intro w'
             go_simp
             with_reducible rfl
            rotate_left
            ·simp only [Act.put, List.setIfInBounds_toArray, List.set_cons_zero, List.set_cons_succ, i64_w, i32_w]
             rfl
            refine done_ (done_of HT_.out (by kernel_rfl)) ?_
            try go_wp2
            have n0_ := Aside0.mk (Kd.R_drew HO_8.out)
            have n1_ := Aside0.mk (blk_drew BK247.out)
            have n2_ := Aside0.mk (below_drew1 HB.out)
            clear HO_8
            clear BK247
            clear HB
            have HO_8 := n0_
            have BK247 := n1_
            have HB := n2_
            clear n0_ n1_ n2_
            have p254 : 0 ≤ (x10_1 : Int) := of_decide_eq_true (by first | (with_reducible assumption) | assumption)
            have q254 : x10_1 < (l0.length : Int) := of_decide_eq_true (by first | (with_reducible assumption) | assumption)
            obtain ⟨ad254, e254, hx254_0, hx254_1, hx254_2, hx254_3⟩ := at_T25 HR0.out x10_1 p254 q254
            have hw254_3 := hx254_3
            have hw254_2 := hx254_2
            have hw254_1 := hx254_1
            have hw254_0 := hx254_0
            obtain rfl : ad250 = ad254 := (by injection e254)
            replace hx254_0 := (HB.out.cell (World.block_lt_of_cell? w _ hx254_0)).trans hx254_0
            replace hx254_1 := (HB.out.cell (World.block_lt_of_cell? w _ hx254_1)).trans hx254_1
            replace hx254_2 := (HB.out.cell (World.block_lt_of_cell? w _ hx254_2)).trans hx254_2
            replace hx254_3 := (HB.out.cell (World.block_lt_of_cell? w _ hx254_3)).trans hx254_3
            replace p254 := eq_true p254
            replace q254 := eq_true q254
            refine start_ (n := 9) (S := fun w' => w'.cell? ⟨gb247, 0, none⟩ = some (.string a1_0) ∧ w'.cell? ⟨gb247, 1, none⟩ = some (.string a1_1) ∧ w'.cell? ⟨gb247, 2, none⟩ = some (.string a1_2) ∧ w'.cell? ⟨gb247, 3, none⟩ = some (.int .i64 a1_3) ∧ w'.cell? (ad250.add ((x10_1).toNat * 4)) = some (.string ((rd_T25 l0 x10_1).f0.f0)) ∧ w'.cell? ⟨(ad250.add ((x10_1).toNat * 4)).block, (ad250.add ((x10_1).toNat * 4)).off + 1, none⟩ = some (.string ((rd_T25 l0 x10_1).f0.f1)) ∧ w'.cell? ⟨(ad250.add ((x10_1).toNat * 4)).block, (ad250.add ((x10_1).toNat * 4)).off + 2, none⟩ = some (.string ((rd_T25 l0 x10_1).f0.f2)) ∧ w'.cell? ⟨(ad250.add ((x10_1).toNat * 4)).block, (ad250.add ((x10_1).toNat * 4)).off + 3, none⟩ = some (.int .i64 ((rd_T25 l0 x10_1).f1))) (ds := []) (tf 0 9) (by kernel_rfl) rfl rfl ⟨(blk_cell BK247.out 0).trans rfl, (blk_cell BK247.out 1).trans rfl, (blk_cell BK247.out 2).trans rfl, (blk_cell BK247.out 3).trans rfl, ((HB.out.cell (World.block_lt_of_cell? w _ hw254_0)).trans hw254_0), ((HB.out.cell (World.block_lt_of_cell? w _ hw254_1)).trans hw254_1), ((HB.out.cell (World.block_lt_of_cell? w _ hw254_2)).trans hw254_2), ((HB.out.cell (World.block_lt_of_cell? w _ hw254_3)).trans hw254_3)⟩ (fun hHeld => ?_); refine with_tabW sutlerref07_Put.tab15 sutlerref07_Put.bits15 (fun HT_ HW_ => ?_)
            generalize w28.drew = w29 at HO_8 BK247 HB hx254_0 hx254_1 hx254_2 hx254_3 hHeld ⊢
            refine pure_ (i := 0) (N := some 40) (v := ?_) (a' := ?_) (tf 1 8) rfl rfl (any_of HT_.out (by kernel_rfl)) (fun _ _ _ h => h) (Or.inl ⟨by rfl, ?_⟩) ?_ ?_
            rotate_left
            ·intro w'
             go_simp
             with_reducible rfl
            rotate_left
            ·simp only [Act.put, List.setIfInBounds_toArray, List.set_cons_zero, List.set_cons_succ, i64_w, i32_w]
             rfl
            refine pure_ (i := 2) (N := some 42) (v := ?_) (a' := ?_) #[true, false, true, false, false, false, false, false, false] rfl rfl (any_of HT_.out (by kernel_rfl)) (fun _ _ _ h => h) (Or.inl ⟨by rfl, ?_⟩) ?_ ?_
            rotate_left
            ·intro w'
             go_simp
             with_reducible rfl
            rotate_left
            ·simp only [Act.put, List.setIfInBounds_toArray, List.set_cons_zero, List.set_cons_succ, i64_w, i32_w]
             rfl
            refine pure_ (i := 3) (N := some 43) (v := ?_) (a' := ?_) #[true, false, true, true, false, false, false, false, false] rfl rfl (any_of HT_.out (by kernel_rfl)) (fun _ _ _ h => h) (Or.inl ⟨by rfl, ?_⟩) ?_ ?_
            rotate_left
            ·intro w'
             go_simp
             with_reducible rfl
            rotate_left
            ·simp only [Act.put, List.setIfInBounds_toArray, List.set_cons_zero, List.set_cons_succ, i64_w, i32_w]
             rfl
            refine pure_ (i := 4) (N := some 44) (v := ?_) (a' := ?_) #[true, false, true, true, true, false, false, false, false] rfl rfl (any_of HT_.out (by kernel_rfl)) (fun _ _ _ h => h) (Or.inl ⟨by rfl, ?_⟩) ?_ ?_
            rotate_left
            ·intro w'
             go_simp
             with_reducible rfl
            rotate_left
            ·simp only [Act.put, List.setIfInBounds_toArray, List.set_cons_zero, List.set_cons_succ, i64_w, i32_w]
             rfl
            refine pure_ (i := 5) (N := some 45) (v := ?_) (a' := ?_) #[true, false, true, true, true, true, false, false, false] rfl rfl (any_of HT_.out (by kernel_rfl)) (fun _ _ _ h => h) (Or.inl ⟨by rfl, ?_⟩) ?_ ?_
            rotate_left
            ·intro w'
             go_simp
             with_reducible rfl
            rotate_left
            ·simp only [Act.put, List.setIfInBounds_toArray, List.set_cons_zero, List.set_cons_succ, i64_w, i32_w]
             rfl
            refine take_ (i := 1) (N := some 41) (v := ?_) (a' := ?_) (tf 6 3) rfl rfl (take_ofW HT_.out HW_.out (by kernel_rfl)) (fun _ _ _ h => h) (Or.inl ⟨by rfl, ?_⟩) hHeld ?_ ?_
            rotate_left
            ·rintro w' ⟨s0, s1, s2, s3, s4, s5, s6, s7⟩
             go_simp
             with_reducible rfl
            rotate_left
            ·simp only [Act.put, List.setIfInBounds_toArray, List.set_cons_zero, List.set_cons_succ, i64_w, i32_w]
             rfl
            refine take_ (i := 6) (N := some 46) (v := ?_) (a' := ?_) (tf 7 2) rfl rfl (take_ofW HT_.out HW_.out (by kernel_rfl)) (fun _ _ _ h => h) (Or.inl ⟨by rfl, ?_⟩) hHeld ?_ ?_
            rotate_left
            ·rintro w' ⟨s0, s1, s2, s3, s4, s5, s6, s7⟩
             go_simp
             with_reducible rfl
            rotate_left
            ·simp only [Act.put, List.setIfInBounds_toArray, List.set_cons_zero, List.set_cons_succ, i64_w, i32_w]
             rfl
            refine one_ (i := 7) (N := some 47) (tf 8 1) rfl rfl (one_of HT_.out (by kernel_rfl)) (by decide) (fun K hK => ?_)
            refine goes_ Try.func26 (by kernel_rfl) rfl #[.agg #[.string a1_0, .string a1_1, .string a1_2], .agg #[.string ((rd_T25 l0 x10_1).f0.f0), .string ((rd_T25 l0 x10_1).f0.f1), .string ((rd_T25 l0 x10_1).f0.f2)]] (by rfl) rfl rfl (by (try simp only [List.map_toArray, List.map_cons, List.map_nil]); first | done | rfl | (simp only [List.length_drop, List.length_take]; rfl)) ?_
            with_reducible refine (sutlerref06_Less.calls a1_0 a1_1 a1_2 ((rd_T25 l0 x10_1).f0.f0) ((rd_T25 l0 x10_1).f0.f1) ((rd_T25 l0 x10_1).f0.f2) true _ A18.out).mono ?_
            rintro e w30 ⟨rfl, hb⟩
            refine ⟨_, rfl, ?_⟩
            have n0_ := Aside0.mk (Kd.R_below (by (with_reducible repeat (first | apply Kd.R_alloc | apply Kd.R_drewN | apply Kd.R_drew)); exact HO_8.out) hb)
            have n1_ := Aside0.mk (blk_below (g := gb247) (o := .cells #[.string a1_0, .string a1_1, .string a1_2, .int .i64 a1_3] 25 (0, 0)) (by (with_reducible repeat (first | refine blk_drewN ?_ _ | refine blk_drew ?_ | refine blk_alloc ?_ _)); exact BK247.out) hb)
            have n2_ := Aside0.mk (below_step (by repeat (first | (with_reducible first | exact HB.out | apply below_alloc | apply pw_below_drewN | apply below_drew1 | refine below_set ?_ GE247.out) | exact HB.out)) hb)
            clear HO_8
            clear BK247
            clear HB
            have HO_8 := n0_
            have BK247 := n1_
            have HB := n2_
            clear n0_ n1_ n2_
            (try clear hb)
            (try clear hb2)
            (try clear hk)
            (try clear hi)
            refine hK.out _ _ ⟨(blk_cell BK247.out 0).trans rfl, (blk_cell BK247.out 1).trans rfl, (blk_cell BK247.out 2).trans rfl, (blk_cell BK247.out 3).trans rfl, ((HB.out.cell (World.block_lt_of_cell? w _ hw254_0)).trans hw254_0), ((HB.out.cell (World.block_lt_of_cell? w _ hw254_1)).trans hw254_1), ((HB.out.cell (World.block_lt_of_cell? w _ hw254_2)).trans hw254_2), ((HB.out.cell (World.block_lt_of_cell? w _ hw254_3)).trans hw254_3)⟩ (fun hHeld => ?_)
            clear hK K
            refine norm_ (a' := ?_) ?_ ?_
            rotate_left
            ·show Act.put _ (some 47) _ = _
             simp only [Act.put, List.setIfInBounds_toArray, List.set_cons_zero, List.set_cons_succ, i64_w, i32_w]
             rfl
            refine pure_ (i := 8) (N := some 11) (v := ?_) (a' := ?_) (tf 9 0) rfl rfl (any_of HT_.out (by kernel_rfl)) (fun _ _ _ h => h) (Or.inl ⟨by rfl, ?_⟩) ?_ ?_
            rotate_left
            ·intro w'
             go_simp
             with_reducible rfl
            rotate_left
            ·simp only [Act.put, List.setIfInBounds_toArray, List.set_cons_zero, List.set_cons_succ, i64_w, i32_w]
             rfl
            refine done_ (done_of HT_.out (by kernel_rfl)) ?_
            have hcz31_0 : w30.cell? ⟨gb247, 0, none⟩ = some (.string a1_0) := (blk_cell BK247.out 0).trans rfl
            have hcz31_1 : w30.cell? ⟨gb247, 1, none⟩ = some (.string a1_1) := (blk_cell BK247.out 1).trans rfl
            have hcz31_2 : w30.cell? ⟨gb247, 2, none⟩ = some (.string a1_2) := (blk_cell BK247.out 2).trans rfl
            have hcz31_3 : w30.cell? ⟨gb247, 3, none⟩ = some (.int .i64 a1_3) := (blk_cell BK247.out 3).trans rfl
            have hfz31_0 := blk_frozen BK247.out 0
            have hfz31_1 := blk_frozen BK247.out 1
            have hfz31_2 := blk_frozen BK247.out 2
            have hfz31_3 := blk_frozen BK247.out 3
            try go_wp2_with (first | ((with_reducible refine gate_builtin (b := .append) (xs := #[.tmp 53, .tmp 55]) rfl ?_); at_builtin; refine Kd.R_append k25 (w0 := w) w.heap.size rfl (.tmp 53) (.tmp 55) 29 25 (.agg #[(.string ⟨#[]⟩), (.string ⟨#[]⟩), (.string ⟨#[]⟩), (.int .i64 0)]) 56 rfl Try.underlying29 info25 rfl (by decide) (by omega) u8 x8_1 (⟨(⟨a1_0, a1_1, a1_2⟩ : S23), a1_3⟩ : S25) [.string a1_0, .string a1_1, .string a1_2, .int .i64 a1_3] (fun k_ => k_ ≠ gb247) (fun _ => False) rfl rfl ?aP (fun _ hk => hk.elim) ?aF ?aO ?aB ?aS ?aL ?_; (case aP => exact k25_mkM _ _ _ (⟨(⟨a1_0, a1_1, a1_2⟩ : S23), a1_3⟩ : S25)); (case aB => exact (by repeat (first | (with_reducible first | exact HB.out | apply below_alloc | apply pw_below_drewN | apply below_drew1 | refine below_set ?_ GE247.out) | exact HB.out))); (case aF => exact (fun k_ hk => Kd.freshB (g := gb247) (o := .cells #[.string a1_0, .string a1_1, .string a1_2, .int .i64 a1_3] 25 (0, 0)) (by (with_reducible repeat (first | refine blk_drewN ?_ _ | refine blk_drew ?_ | refine blk_alloc ?_ _)); exact BK247.out) k_ hk)); (case aO => exact (by (with_reducible repeat (first | apply Kd.R_alloc | apply Kd.R_drewN | apply Kd.R_drew)); exact HO_8.out)); (case aS => exact (below_size (by repeat (first | (with_reducible first | exact HB.out | apply below_alloc | apply pw_below_drewN | apply below_drew1 | refine below_set ?_ GE247.out) | exact HB.out)))); (case aL => have := LMc26.out; omega); intro v261 w32 ho hb hg hat; rw [← Ny260.out] at ho; have n0_ := Aside0.mk (blk_grown (g := gb247) (o := .cells #[.string a1_0, .string a1_1, .string a1_2, .int .i64 a1_3] 25 (0, 0)) (by (with_reducible repeat (first | refine blk_drewN ?_ _ | refine blk_drew ?_ | refine blk_alloc ?_ _)); exact BK247.out) hg (Kd.R_away HO_8.out (fun _ hk => hk))); have n1_ := Aside0.mk (hb); have n2_ := Aside0.mk (ho); clear BK247; clear HB; clear HO_8; have BK247 := n0_; have HB := n1_; have HO262 := n2_; clear n0_ n1_ n2_; clear ho hb hg hat; have p263 : 0 ≤ (x10_1 : Int) := of_decide_eq_true (by first | (with_reducible assumption) | assumption); have q263 : x10_1 < (l0.length : Int) := of_decide_eq_true (by first | (with_reducible assumption) | assumption); obtain ⟨ad263, e263, hx263_0, hx263_1, hx263_2, hx263_3⟩ := at_T25 HR0.out x10_1 p263 q263; obtain rfl : ad250 = ad263 := (by injection e263); replace hx263_0 := (HB.out.cell (World.block_lt_of_cell? w _ hx263_0)).trans hx263_0; replace hx263_1 := (HB.out.cell (World.block_lt_of_cell? w _ hx263_1)).trans hx263_1; replace hx263_2 := (HB.out.cell (World.block_lt_of_cell? w _ hx263_2)).trans hx263_2; replace hx263_3 := (HB.out.cell (World.block_lt_of_cell? w _ hx263_3)).trans hx263_3; replace p263 := eq_true p263; replace q263 := eq_true q263) | ((with_reducible refine gate_builtin (b := .append) (xs := #[.tmp 57, .tmp 62]) rfl ?_); at_builtin; refine Kd.R_append k25 (w0 := w) w.heap.size rfl (.tmp 57) (.tmp 62) 29 25 (.agg #[(.string ⟨#[]⟩), (.string ⟨#[]⟩), (.string ⟨#[]⟩), (.int .i64 0)]) 56 rfl Try.underlying29 info25 rfl (by decide) (by omega) v261 y260 (⟨(⟨(rd_T25 l0 x10_1).f0.f0, (rd_T25 l0 x10_1).f0.f1, (rd_T25 l0 x10_1).f0.f2⟩ : S23), (rd_T25 l0 x10_1).f1⟩ : S25) [.string ((rd_T25 l0 x10_1).f0.f0), .string ((rd_T25 l0 x10_1).f0.f1), .string ((rd_T25 l0 x10_1).f0.f2), .int .i64 ((rd_T25 l0 x10_1).f1)] (fun k_ => k_ ≠ gb247) (fun _ => False) rfl rfl ?aP (fun _ hk => hk.elim) ?aF ?aO ?aB ?aS ?aL ?_; (case aP => exact k25_mkM _ _ _ (⟨(⟨(rd_T25 l0 x10_1).f0.f0, (rd_T25 l0 x10_1).f0.f1, (rd_T25 l0 x10_1).f0.f2⟩ : S23), (rd_T25 l0 x10_1).f1⟩ : S25)); (case aB => exact (by repeat (first | (with_reducible first | exact HB.out | apply below_alloc | apply pw_below_drewN | apply below_drew1 | refine below_set ?_ GE247.out) | exact HB.out))); (case aF => exact (fun k_ hk => Kd.freshB (g := gb247) (o := .cells #[.string a1_0, .string a1_1, .string a1_2, .int .i64 a1_3] 25 (0, 0)) (by (with_reducible repeat (first | refine blk_drewN ?_ _ | refine blk_drew ?_ | refine blk_alloc ?_ _)); exact BK247.out) k_ hk)); (case aO => exact (by (with_reducible repeat (first | apply Kd.R_alloc | apply Kd.R_drewN | apply Kd.R_drew)); exact HO262.out)); (case aS => exact (below_size (by repeat (first | (with_reducible first | exact HB.out | apply below_alloc | apply pw_below_drewN | apply below_drew1 | refine below_set ?_ GE247.out) | exact HB.out)))); (case aL => have := LMc27.out; omega); intro v265 w33 ho hb hg hat; rw [← Ny264.out] at ho; have n0_ := Aside0.mk (blk_grown (g := gb247) (o := .cells #[.string a1_0, .string a1_1, .string a1_2, .int .i64 a1_3] 25 (0, 0)) (by (with_reducible repeat (first | refine blk_drewN ?_ _ | refine blk_drew ?_ | refine blk_alloc ?_ _)); exact BK247.out) hg (Kd.R_away HO262.out (fun _ hk => hk))); have n1_ := Aside0.mk (hb); have n2_ := Aside0.mk (ho); clear BK247; clear HB; clear HO262; have BK247 := n0_; have HB := n1_; have HO266 := n2_; clear n0_ n1_ n2_; clear ho hb hg hat))
            go_roundg k1
            case measure => have := HK1.out; omega
            case rel => exact ⟨(y264), (true), (wrap64 (x10_1 + 1)), (by first | rfl | (simp; done) | (simp [*]; done)), (by first | rfl | (simp; done) | (simp [*]; done)), H', ⟨by have := HK1.out; omega⟩, ⟨by (with_reducible repeat (first | apply Kd.R_alloc | apply Kd.R_drewN | apply Kd.R_drew)); exact HO266.out⟩, ⟨by (with_reducible repeat (first | refine blk_drewN ?_ _ | refine blk_drew ?_ | refine blk_alloc ?_ _)); exact BK247.out⟩, ⟨by repeat (first | (with_reducible first | exact HB.out | apply below_alloc | apply pw_below_drewN | apply below_drew1 | refine below_set ?_ GE247.out) | exact HB.out)⟩⟩
           ·rw [if_neg c27] at H
            exact absurd H (by simp)
          ·rw [if_neg c26] at H
           exact absurd H (by simp)
        ·replace c19 := Bool.eq_false_iff.mpr c19
         subst c19
         have H1 : (if x8_1.length < 2513169434916 then (sutlerref07_Put.l0 k1 l0 (x8_1 ++ [(⟨(⟨(rd_T25 l0 x10_1).f0.f0, (rd_T25 l0 x10_1).f0.f1, (rd_T25 l0 x10_1).f0.f2⟩ : S23), (rd_T25 l0 x10_1).f1⟩ : S25)]) x9_1 (wrap64 (x10_1 + 1)) a1_0 a1_1 a1_2 a1_3) else (none)) = some (r1, r2) := by rw [if_neg (show ¬ (false = true) by decide)] at H; exact H
         clear H
         have H := H1
         clear H1
         by_cases c34 : x8_1.length < 2513169434916
         ·rw [if_pos c34] at H
          have LMc34 := Aside0.mk c34
          clear c34
          obtain ⟨y268, hy268⟩ : ∃ y_ : List (S25), y_ = (x8_1 ++ [(⟨(⟨(rd_T25 l0 x10_1).f0.f0, (rd_T25 l0 x10_1).f0.f1, (rd_T25 l0 x10_1).f0.f2⟩ : S23), (rd_T25 l0 x10_1).f1⟩ : S25)]) := ⟨_, rfl⟩
          replace H : (sutlerref07_Put.l0 k1 l0 y268 x9_1 (wrap64 (x10_1 + 1)) a1_0 a1_1 a1_2 a1_3) = some (r1, r2) := by first | (rw [hy268]; with_reducible exact H) | (have H2_ := (Option.bind_some _ _).symm.trans H; rw [hy268]; with_reducible exact H2_) | (have H2_ := (Option.bind_some _ _).symm.trans H; with_reducible exact H2_) | with_reducible exact H | (rw [hy268]; exact H) | exact H
          have Ny268 := Aside0.mk hy268
          clear hy268
          have H' := Aside0.mk H
          clear H
          try go_wp2
          have n0_ := Aside0.mk (Kd.R_drew HO_8.out)
          have n1_ := Aside0.mk (blk_drew BK247.out)
          have n2_ := Aside0.mk (below_drew1 HB.out)
          clear HO_8
          clear BK247
          clear HB
          have HO_8 := n0_
          have BK247 := n1_
          have HB := n2_
          clear n0_ n1_ n2_
          have p250 : 0 ≤ (x10_1 : Int) := of_decide_eq_true (by first | (with_reducible assumption) | assumption)
          have q250 : x10_1 < (l0.length : Int) := of_decide_eq_true (by first | (with_reducible assumption) | assumption)
          obtain ⟨ad250, e250, hx250_0, hx250_1, hx250_2, hx250_3⟩ := at_T25 HR0.out x10_1 p250 q250
          have hw250_3 := hx250_3
          have hw250_2 := hx250_2
          have hw250_1 := hx250_1
          have hw250_0 := hx250_0
          cases e250
          replace hx250_0 := (HB.out.cell (World.block_lt_of_cell? w _ hx250_0)).trans hx250_0
          replace hx250_1 := (HB.out.cell (World.block_lt_of_cell? w _ hx250_1)).trans hx250_1
          replace hx250_2 := (HB.out.cell (World.block_lt_of_cell? w _ hx250_2)).trans hx250_2
          replace hx250_3 := (HB.out.cell (World.block_lt_of_cell? w _ hx250_3)).trans hx250_3
          replace p250 := eq_true p250
          replace q250 := eq_true q250
          refine start_ (n := 8) (S := fun w' => w'.cell? ⟨gb247, 0, none⟩ = some (.string a1_0) ∧ w'.cell? ⟨gb247, 1, none⟩ = some (.string a1_1) ∧ w'.cell? ⟨gb247, 2, none⟩ = some (.string a1_2) ∧ w'.cell? ⟨gb247, 3, none⟩ = some (.int .i64 a1_3) ∧ w'.cell? (ad250.add ((x10_1).toNat * 4)) = some (.string ((rd_T25 l0 x10_1).f0.f0)) ∧ w'.cell? ⟨(ad250.add ((x10_1).toNat * 4)).block, (ad250.add ((x10_1).toNat * 4)).off + 1, none⟩ = some (.string ((rd_T25 l0 x10_1).f0.f1)) ∧ w'.cell? ⟨(ad250.add ((x10_1).toNat * 4)).block, (ad250.add ((x10_1).toNat * 4)).off + 2, none⟩ = some (.string ((rd_T25 l0 x10_1).f0.f2)) ∧ w'.cell? ⟨(ad250.add ((x10_1).toNat * 4)).block, (ad250.add ((x10_1).toNat * 4)).off + 3, none⟩ = some (.int .i64 ((rd_T25 l0 x10_1).f1))) (ds := []) (tf 0 8) (by kernel_rfl) rfl rfl ⟨(blk_cell BK247.out 0).trans rfl, (blk_cell BK247.out 1).trans rfl, (blk_cell BK247.out 2).trans rfl, (blk_cell BK247.out 3).trans rfl, ((HB.out.cell (World.block_lt_of_cell? w _ hw250_0)).trans hw250_0), ((HB.out.cell (World.block_lt_of_cell? w _ hw250_1)).trans hw250_1), ((HB.out.cell (World.block_lt_of_cell? w _ hw250_2)).trans hw250_2), ((HB.out.cell (World.block_lt_of_cell? w _ hw250_3)).trans hw250_3)⟩ (fun hHeld => ?_); refine with_tabW sutlerref07_Put.tab12 sutlerref07_Put.bits12 (fun HT_ HW_ => ?_)
          generalize wr.drew = w35 at HO_8 BK247 HB hx250_0 hx250_1 hx250_2 hx250_3 hHeld ⊢
          refine pure_ (i := 0) (N := some 28) (v := ?_) (a' := ?_) (tf 1 7) rfl rfl (any_of HT_.out (by kernel_rfl)) (fun _ _ _ h => h) (Or.inl ⟨by rfl, ?_⟩) ?_ ?_
          rotate_left
          ·intro w'
           go_simp
           with_reducible rfl
          rotate_left
          ·simp only [Act.put, List.setIfInBounds_toArray, List.set_cons_zero, List.set_cons_succ, i64_w, i32_w]
           rfl
          refine pure_ (i := 1) (N := some 29) (v := ?_) (a' := ?_) (tf 2 6) rfl rfl (any_of HT_.out (by kernel_rfl)) (fun _ _ _ h => h) (Or.inl ⟨by rfl, ?_⟩) ?_ ?_
          rotate_left
          ·intro w'
           go_simp
           with_reducible rfl
          rotate_left
          ·simp only [Act.put, List.setIfInBounds_toArray, List.set_cons_zero, List.set_cons_succ, i64_w, i32_w]
           rfl
          refine pure_ (i := 2) (N := some 30) (v := ?_) (a' := ?_) (tf 3 5) rfl rfl (any_of HT_.out (by kernel_rfl)) (fun _ _ _ h => h) (Or.inl ⟨by rfl, ?_⟩) ?_ ?_
          rotate_left
          ·intro w'
           go_simp
           with_reducible rfl
          rotate_left
          ·simp only [Act.put, List.setIfInBounds_toArray, List.set_cons_zero, List.set_cons_succ, i64_w, i32_w]
           rfl
          refine pure_ (i := 3) (N := some 31) (v := ?_) (a' := ?_) (tf 4 4) rfl rfl (any_of HT_.out (by kernel_rfl)) (fun _ _ _ h => h) (Or.inl ⟨by rfl, ?_⟩) ?_ ?_
          rotate_left
          ·intro w'
           go_simp
           with_reducible rfl
          rotate_left
          ·simp only [Act.put, List.setIfInBounds_toArray, List.set_cons_zero, List.set_cons_succ, i64_w, i32_w]
           rfl
          refine pure_ (i := 5) (N := some 33) (v := ?_) (a' := ?_) #[true, true, true, true, false, true, false, false] rfl rfl (any_of HT_.out (by kernel_rfl)) (fun _ _ _ h => h) (Or.inl ⟨by rfl, ?_⟩) ?_ ?_
          rotate_left
          ·intro w'
           go_simp
           with_reducible rfl
          rotate_left
          ·simp only [Act.put, List.setIfInBounds_toArray, List.set_cons_zero, List.set_cons_succ, i64_w, i32_w]
           rfl
          refine take_ (i := 4) (N := some 32) (v := ?_) (a' := ?_) (tf 6 2) rfl rfl (take_ofW HT_.out HW_.out (by kernel_rfl)) (fun _ _ _ h => h) (Or.inl ⟨by rfl, ?_⟩) hHeld ?_ ?_
          rotate_left
          ·rintro w' ⟨s0, s1, s2, s3, s4, s5, s6, s7⟩
           go_simp
           with_reducible rfl
          rotate_left
          ·simp only [Act.put, List.setIfInBounds_toArray, List.set_cons_zero, List.set_cons_succ, i64_w, i32_w]
           rfl
          refine take_ (i := 6) (N := some 34) (v := ?_) (a' := ?_) (tf 7 1) rfl rfl (take_ofW HT_.out HW_.out (by kernel_rfl)) (fun _ _ _ h => h) (Or.inl ⟨by rfl, ?_⟩) hHeld ?_ ?_
          rotate_left
          ·rintro w' ⟨s0, s1, s2, s3, s4, s5, s6, s7⟩
           go_simp
           with_reducible rfl
          rotate_left
          ·simp only [Act.put, List.setIfInBounds_toArray, List.set_cons_zero, List.set_cons_succ, i64_w, i32_w]
           rfl
          refine pure_ (i := 7) (N := some 35) (v := ?_) (a' := ?_) (tf 8 0) rfl rfl (any_of HT_.out (by kernel_rfl)) (fun _ _ _ h => h) (Or.inl ⟨by rfl, ?_⟩) ?_ ?_
          rotate_left
          ·intro w'
           go_simp
           with_reducible rfl
          rotate_left
          ·simp only [Act.put, List.setIfInBounds_toArray, List.set_cons_zero, List.set_cons_succ, i64_w, i32_w]
           rfl
          refine done_ (done_of HT_.out (by kernel_rfl)) ?_
          try go_wp2
          have n0_ := Aside0.mk (Kd.R_drew HO_8.out)
          have n1_ := Aside0.mk (blk_drew BK247.out)
          have n2_ := Aside0.mk (below_drew1 HB.out)
          clear HO_8
          clear BK247
          clear HB
          have HO_8 := n0_
          have BK247 := n1_
          have HB := n2_
          clear n0_ n1_ n2_
          have p254 : 0 ≤ (x10_1 : Int) := of_decide_eq_true (by first | (with_reducible assumption) | assumption)
          have q254 : x10_1 < (l0.length : Int) := of_decide_eq_true (by first | (with_reducible assumption) | assumption)
          obtain ⟨ad254, e254, hx254_0, hx254_1, hx254_2, hx254_3⟩ := at_T25 HR0.out x10_1 p254 q254
          have hw254_3 := hx254_3
          have hw254_2 := hx254_2
          have hw254_1 := hx254_1
          have hw254_0 := hx254_0
          obtain rfl : ad250 = ad254 := (by injection e254)
          replace hx254_0 := (HB.out.cell (World.block_lt_of_cell? w _ hx254_0)).trans hx254_0
          replace hx254_1 := (HB.out.cell (World.block_lt_of_cell? w _ hx254_1)).trans hx254_1
          replace hx254_2 := (HB.out.cell (World.block_lt_of_cell? w _ hx254_2)).trans hx254_2
          replace hx254_3 := (HB.out.cell (World.block_lt_of_cell? w _ hx254_3)).trans hx254_3
          replace p254 := eq_true p254
          replace q254 := eq_true q254
          refine start_ (n := 9) (S := fun w' => w'.cell? ⟨gb247, 0, none⟩ = some (.string a1_0) ∧ w'.cell? ⟨gb247, 1, none⟩ = some (.string a1_1) ∧ w'.cell? ⟨gb247, 2, none⟩ = some (.string a1_2) ∧ w'.cell? ⟨gb247, 3, none⟩ = some (.int .i64 a1_3) ∧ w'.cell? (ad250.add ((x10_1).toNat * 4)) = some (.string ((rd_T25 l0 x10_1).f0.f0)) ∧ w'.cell? ⟨(ad250.add ((x10_1).toNat * 4)).block, (ad250.add ((x10_1).toNat * 4)).off + 1, none⟩ = some (.string ((rd_T25 l0 x10_1).f0.f1)) ∧ w'.cell? ⟨(ad250.add ((x10_1).toNat * 4)).block, (ad250.add ((x10_1).toNat * 4)).off + 2, none⟩ = some (.string ((rd_T25 l0 x10_1).f0.f2)) ∧ w'.cell? ⟨(ad250.add ((x10_1).toNat * 4)).block, (ad250.add ((x10_1).toNat * 4)).off + 3, none⟩ = some (.int .i64 ((rd_T25 l0 x10_1).f1))) (ds := []) (tf 0 9) (by kernel_rfl) rfl rfl ⟨(blk_cell BK247.out 0).trans rfl, (blk_cell BK247.out 1).trans rfl, (blk_cell BK247.out 2).trans rfl, (blk_cell BK247.out 3).trans rfl, ((HB.out.cell (World.block_lt_of_cell? w _ hw254_0)).trans hw254_0), ((HB.out.cell (World.block_lt_of_cell? w _ hw254_1)).trans hw254_1), ((HB.out.cell (World.block_lt_of_cell? w _ hw254_2)).trans hw254_2), ((HB.out.cell (World.block_lt_of_cell? w _ hw254_3)).trans hw254_3)⟩ (fun hHeld => ?_); refine with_tabW sutlerref07_Put.tab15 sutlerref07_Put.bits15 (fun HT_ HW_ => ?_)
          generalize w35.drew = w36 at HO_8 BK247 HB hx254_0 hx254_1 hx254_2 hx254_3 hHeld ⊢
          refine pure_ (i := 0) (N := some 40) (v := ?_) (a' := ?_) (tf 1 8) rfl rfl (any_of HT_.out (by kernel_rfl)) (fun _ _ _ h => h) (Or.inl ⟨by rfl, ?_⟩) ?_ ?_
          rotate_left
          ·intro w'
           go_simp
           with_reducible rfl
          rotate_left
          ·simp only [Act.put, List.setIfInBounds_toArray, List.set_cons_zero, List.set_cons_succ, i64_w, i32_w]
           rfl
          refine pure_ (i := 2) (N := some 42) (v := ?_) (a' := ?_) #[true, false, true, false, false, false, false, false, false] rfl rfl (any_of HT_.out (by kernel_rfl)) (fun _ _ _ h => h) (Or.inl ⟨by rfl, ?_⟩) ?_ ?_
          rotate_left
          ·intro w'
           go_simp
           with_reducible rfl
          rotate_left
          ·simp only [Act.put, List.setIfInBounds_toArray, List.set_cons_zero, List.set_cons_succ, i64_w, i32_w]
           rfl
          refine pure_ (i := 3) (N := some 43) (v := ?_) (a' := ?_) #[true, false, true, true, false, false, false, false, false] rfl rfl (any_of HT_.out (by kernel_rfl)) (fun _ _ _ h => h) (Or.inl ⟨by rfl, ?_⟩) ?_ ?_
          rotate_left
          ·intro w'
           go_simp
           with_reducible rfl
          rotate_left
          ·simp only [Act.put, List.setIfInBounds_toArray, List.set_cons_zero, List.set_cons_succ, i64_w, i32_w]
           rfl
          refine pure_ (i := 4) (N := some 44) (v := ?_) (a' := ?_) #[true, false, true, true, true, false, false, false, false] rfl rfl (any_of HT_.out (by kernel_rfl)) (fun _ _ _ h => h) (Or.inl ⟨by rfl, ?_⟩) ?_ ?_
          rotate_left
          ·intro w'
           go_simp
           with_reducible rfl
          rotate_left
          ·simp only [Act.put, List.setIfInBounds_toArray, List.set_cons_zero, List.set_cons_succ, i64_w, i32_w]
           rfl
          refine pure_ (i := 5) (N := some 45) (v := ?_) (a' := ?_) #[true, false, true, true, true, true, false, false, false] rfl rfl (any_of HT_.out (by kernel_rfl)) (fun _ _ _ h => h) (Or.inl ⟨by rfl, ?_⟩) ?_ ?_
          rotate_left
          ·intro w'
           go_simp
           with_reducible rfl
          rotate_left
          ·simp only [Act.put, List.setIfInBounds_toArray, List.set_cons_zero, List.set_cons_succ, i64_w, i32_w]
           rfl
          refine take_ (i := 1) (N := some 41) (v := ?_) (a' := ?_) (tf 6 3) rfl rfl (take_ofW HT_.out HW_.out (by kernel_rfl)) (fun _ _ _ h => h) (Or.inl ⟨by rfl, ?_⟩) hHeld ?_ ?_
          rotate_left
          ·rintro w' ⟨s0, s1, s2, s3, s4, s5, s6, s7⟩
           go_simp
           with_reducible rfl
          rotate_left
          ·simp only [Act.put, List.setIfInBounds_toArray, List.set_cons_zero, List.set_cons_succ, i64_w, i32_w]
           rfl
          refine take_ (i := 6) (N := some 46) (v := ?_) (a' := ?_) (tf 7 2) rfl rfl (take_ofW HT_.out HW_.out (by kernel_rfl)) (fun _ _ _ h => h) (Or.inl ⟨by rfl, ?_⟩) hHeld ?_ ?_
          rotate_left
          ·rintro w' ⟨s0, s1, s2, s3, s4, s5, s6, s7⟩
           go_simp
           with_reducible rfl
          rotate_left
          ·simp only [Act.put, List.setIfInBounds_toArray, List.set_cons_zero, List.set_cons_succ, i64_w, i32_w]
           rfl
          refine one_ (i := 7) (N := some 47) (tf 8 1) rfl rfl (one_of HT_.out (by kernel_rfl)) (by decide) (fun K hK => ?_)
          refine goes_ Try.func26 (by kernel_rfl) rfl #[.agg #[.string a1_0, .string a1_1, .string a1_2], .agg #[.string ((rd_T25 l0 x10_1).f0.f0), .string ((rd_T25 l0 x10_1).f0.f1), .string ((rd_T25 l0 x10_1).f0.f2)]] (by rfl) rfl rfl (by (try simp only [List.map_toArray, List.map_cons, List.map_nil]); first | done | rfl | (simp only [List.length_drop, List.length_take]; rfl)) ?_
          with_reducible refine (sutlerref06_Less.calls a1_0 a1_1 a1_2 ((rd_T25 l0 x10_1).f0.f0) ((rd_T25 l0 x10_1).f0.f1) ((rd_T25 l0 x10_1).f0.f2) false _ A18.out).mono ?_
          rintro e w37 ⟨rfl, hb⟩
          refine ⟨_, rfl, ?_⟩
          have n0_ := Aside0.mk (Kd.R_below (by (with_reducible repeat (first | apply Kd.R_alloc | apply Kd.R_drewN | apply Kd.R_drew)); exact HO_8.out) hb)
          have n1_ := Aside0.mk (blk_below (g := gb247) (o := .cells #[.string a1_0, .string a1_1, .string a1_2, .int .i64 a1_3] 25 (0, 0)) (by (with_reducible repeat (first | refine blk_drewN ?_ _ | refine blk_drew ?_ | refine blk_alloc ?_ _)); exact BK247.out) hb)
          have n2_ := Aside0.mk (below_step (by repeat (first | (with_reducible first | exact HB.out | apply below_alloc | apply pw_below_drewN | apply below_drew1 | refine below_set ?_ GE247.out) | exact HB.out)) hb)
          clear HO_8
          clear BK247
          clear HB
          have HO_8 := n0_
          have BK247 := n1_
          have HB := n2_
          clear n0_ n1_ n2_
          (try clear hb)
          (try clear hb2)
          (try clear hk)
          (try clear hi)
          refine hK.out _ _ ⟨(blk_cell BK247.out 0).trans rfl, (blk_cell BK247.out 1).trans rfl, (blk_cell BK247.out 2).trans rfl, (blk_cell BK247.out 3).trans rfl, ((HB.out.cell (World.block_lt_of_cell? w _ hw254_0)).trans hw254_0), ((HB.out.cell (World.block_lt_of_cell? w _ hw254_1)).trans hw254_1), ((HB.out.cell (World.block_lt_of_cell? w _ hw254_2)).trans hw254_2), ((HB.out.cell (World.block_lt_of_cell? w _ hw254_3)).trans hw254_3)⟩ (fun hHeld => ?_)
          clear hK K
          refine norm_ (a' := ?_) ?_ ?_
          rotate_left
          ·show Act.put _ (some 47) _ = _
           simp only [Act.put, List.setIfInBounds_toArray, List.set_cons_zero, List.set_cons_succ, i64_w, i32_w]
           rfl
          refine pure_ (i := 8) (N := some 11) (v := ?_) (a' := ?_) (tf 9 0) rfl rfl (any_of HT_.out (by kernel_rfl)) (fun _ _ _ h => h) (Or.inl ⟨by rfl, ?_⟩) ?_ ?_
          rotate_left
          ·intro w'
           go_simp
           with_reducible rfl
          rotate_left
          ·simp only [Act.put, List.setIfInBounds_toArray, List.set_cons_zero, List.set_cons_succ, i64_w, i32_w]
           rfl
          refine done_ (done_of HT_.out (by kernel_rfl)) ?_
          have p267 : 0 ≤ (x10_1 : Int) := of_decide_eq_true (by first | (with_reducible assumption) | assumption)
          have q267 : x10_1 < (l0.length : Int) := of_decide_eq_true (by first | (with_reducible assumption) | assumption)
          obtain ⟨ad267, e267, hx267_0, hx267_1, hx267_2, hx267_3⟩ := at_T25 HR0.out x10_1 p267 q267
          obtain rfl : ad250 = ad267 := (by injection e267)
          replace hx267_0 := (HB.out.cell (World.block_lt_of_cell? w _ hx267_0)).trans hx267_0
          replace hx267_1 := (HB.out.cell (World.block_lt_of_cell? w _ hx267_1)).trans hx267_1
          replace hx267_2 := (HB.out.cell (World.block_lt_of_cell? w _ hx267_2)).trans hx267_2
          replace hx267_3 := (HB.out.cell (World.block_lt_of_cell? w _ hx267_3)).trans hx267_3
          replace p267 := eq_true p267
          replace q267 := eq_true q267
          try go_wp2_with (first | ((with_reducible refine gate_builtin (b := .append) (xs := #[.tmp 57, .tmp 62]) rfl ?_); at_builtin; refine Kd.R_append k25 (w0 := w) w.heap.size rfl (.tmp 57) (.tmp 62) 29 25 (.agg #[(.string ⟨#[]⟩), (.string ⟨#[]⟩), (.string ⟨#[]⟩), (.int .i64 0)]) 56 rfl Try.underlying29 info25 rfl (by decide) (by omega) u8 x8_1 (⟨(⟨(rd_T25 l0 x10_1).f0.f0, (rd_T25 l0 x10_1).f0.f1, (rd_T25 l0 x10_1).f0.f2⟩ : S23), (rd_T25 l0 x10_1).f1⟩ : S25) [.string ((rd_T25 l0 x10_1).f0.f0), .string ((rd_T25 l0 x10_1).f0.f1), .string ((rd_T25 l0 x10_1).f0.f2), .int .i64 ((rd_T25 l0 x10_1).f1)] (fun k_ => k_ ≠ gb247) (fun _ => False) rfl rfl ?aP (fun _ hk => hk.elim) ?aF ?aO ?aB ?aS ?aL ?_; (case aP => exact k25_mkM _ _ _ (⟨(⟨(rd_T25 l0 x10_1).f0.f0, (rd_T25 l0 x10_1).f0.f1, (rd_T25 l0 x10_1).f0.f2⟩ : S23), (rd_T25 l0 x10_1).f1⟩ : S25)); (case aB => exact (by repeat (first | (with_reducible first | exact HB.out | apply below_alloc | apply pw_below_drewN | apply below_drew1 | refine below_set ?_ GE247.out) | exact HB.out))); (case aF => exact (fun k_ hk => Kd.freshB (g := gb247) (o := .cells #[.string a1_0, .string a1_1, .string a1_2, .int .i64 a1_3] 25 (0, 0)) (by (with_reducible repeat (first | refine blk_drewN ?_ _ | refine blk_drew ?_ | refine blk_alloc ?_ _)); exact BK247.out) k_ hk)); (case aO => exact (by (with_reducible repeat (first | apply Kd.R_alloc | apply Kd.R_drewN | apply Kd.R_drew)); exact HO_8.out)); (case aS => exact (below_size (by repeat (first | (with_reducible first | exact HB.out | apply below_alloc | apply pw_below_drewN | apply below_drew1 | refine below_set ?_ GE247.out) | exact HB.out)))); (case aL => have := LMc34.out; omega); intro v269 w38 ho hb hg hat; rw [← Ny268.out] at ho; have n0_ := Aside0.mk (blk_grown (g := gb247) (o := .cells #[.string a1_0, .string a1_1, .string a1_2, .int .i64 a1_3] 25 (0, 0)) (by (with_reducible repeat (first | refine blk_drewN ?_ _ | refine blk_drew ?_ | refine blk_alloc ?_ _)); exact BK247.out) hg (Kd.R_away HO_8.out (fun _ hk => hk))); have n1_ := Aside0.mk (hb); have n2_ := Aside0.mk (ho); clear BK247; clear HB; clear HO_8; have BK247 := n0_; have HB := n1_; have HO270 := n2_; clear n0_ n1_ n2_; clear ho hb hg hat))
          go_roundg k1
          case measure => have := HK1.out; omega
          case rel => exact ⟨(y268), (x9_1), (wrap64 (x10_1 + 1)), (by first | rfl | (simp; done) | (simp [*]; done)), (by first | rfl | (simp; done) | (simp [*]; done)), H', ⟨by have := HK1.out; omega⟩, ⟨by (with_reducible repeat (first | apply Kd.R_alloc | apply Kd.R_drewN | apply Kd.R_drew)); exact HO270.out⟩, ⟨by (with_reducible repeat (first | refine blk_drewN ?_ _ | refine blk_drew ?_ | refine blk_alloc ?_ _)); exact BK247.out⟩, ⟨by repeat (first | (with_reducible first | exact HB.out | apply below_alloc | apply pw_below_drewN | apply below_drew1 | refine below_set ?_ GE247.out) | exact HB.out)⟩⟩
         ·rw [if_neg c34] at H
          exact absurd H (by simp)
      ·rw [if_neg c12] at H
       exact absurd H (by simp)
     ·rw [if_neg c11] at H
      have c11b0 : decide (x10_1 < (l0.length : Int)) = false := decide_eq_false c11
      clear c11
      by_cases c39 : x9_1 = true
      ·subst c39
       have H1 : (if (x8_1.length : Int) > 72 then (some (([] : List (S25)), 3)) else (some (x8_1, 0))) = some (r1, r2) := by rw [if_pos rfl] at H; exact H
       clear H
       have H := H1
       clear H1
       by_cases c40 : (x8_1.length : Int) > 72
       ·rw [if_pos c40] at H
        have c40b0 : decide (72 < (x8_1.length : Int)) = true := decide_eq_true c40
        have c40b1 : decide (72 < x8_1.length) = true := decide_eq_true (by omega)
        clear c40
        simp only [Option.some.injEq, Prod.mk.injEq] at H
        obtain ⟨rfl, rfl⟩ := H
        obtain ⟨Ao41, co41, eo41⟩ := Kd.R_slice HO_8.out
        subst eo41
        go_wp2
        go_ret2
        exact ⟨_, by first | rfl | (simp [errW_none, errW_some] <;> rfl) | (simp [*, errW_none, errW_some] <;> rfl), by first | exact Kd.R_nil _ _ _ _ _ | exact Kd.N_nil _ _ _ _ _ | exact Kd.V_nil _ _ _ _ _ | exact Kd.Q_nil _ _ _ _ _ | exact Kd.S_nil _ _ _ _ _, by repeat (first | (with_reducible first | exact HB.out | apply below_alloc | apply pw_below_drewN | apply below_drew1 | refine below_set ?_ GE247.out) | exact HB.out)⟩
       ·rw [if_neg c40] at H
        have c40b0 : decide (72 < (x8_1.length : Int)) = false := decide_eq_false c40
        have c40b1 : decide (72 < x8_1.length) = false := decide_eq_false (by omega)
        clear c40
        simp only [Option.some.injEq, Prod.mk.injEq] at H
        obtain ⟨rfl, rfl⟩ := H
        obtain ⟨Ao42, co42, eo42⟩ := Kd.R_slice HO_8.out
        subst eo42
        go_wp2
        go_ret2
        exact ⟨_, by first | rfl | (simp [errW_none, errW_some] <;> rfl) | (simp [*, errW_none, errW_some] <;> rfl), by (with_reducible repeat (first | apply Kd.R_alloc | apply Kd.R_drewN | apply Kd.R_drew)); exact Kd.R_mono HO_8.out (fun _ hk => trivial), by repeat (first | (with_reducible first | exact HB.out | apply below_alloc | apply pw_below_drewN | apply below_drew1 | refine below_set ?_ GE247.out) | exact HB.out)⟩
      ·replace c39 := Bool.eq_false_iff.mpr c39
       subst c39
       have H1 : (if x8_1.length < 2513169434916 then ((some (x8_1 ++ [(⟨(⟨a1_0, a1_1, a1_2⟩ : S23), a1_3⟩ : S25)] : List (S25))).bind fun y271 => (if (y271.length : Int) > 72 then (some (([] : List (S25)), 3)) else (some (y271, 0)))) else (none)) = some (r1, r2) := by rw [if_neg (show ¬ (false = true) by decide)] at H; exact H
       clear H
       have H := H1
       clear H1
       by_cases c43 : x8_1.length < 2513169434916
       ·rw [if_pos c43] at H
        have LMc43 := Aside0.mk c43
        clear c43
        obtain ⟨y271, hy271⟩ : ∃ y_ : List (S25), y_ = (x8_1 ++ [(⟨(⟨a1_0, a1_1, a1_2⟩ : S23), a1_3⟩ : S25)]) := ⟨_, rfl⟩
        replace H : (if (y271.length : Int) > 72 then (some (([] : List (S25)), 3)) else (some (y271, 0))) = some (r1, r2) := by first | (rw [hy271]; with_reducible exact H) | (have H2_ := (Option.bind_some _ _).symm.trans H; rw [hy271]; with_reducible exact H2_) | (have H2_ := (Option.bind_some _ _).symm.trans H; with_reducible exact H2_) | with_reducible exact H | (rw [hy271]; exact H) | exact H
        have Ny271 := Aside0.mk hy271
        clear hy271
        by_cases c44 : (y271.length : Int) > 72
        ·rw [if_pos c44] at H
         have c44b0 : decide (72 < (y271.length : Int)) = true := decide_eq_true c44
         have c44b1 : decide (72 < y271.length) = true := decide_eq_true (by omega)
         clear c44
         simp only [Option.some.injEq, Prod.mk.injEq] at H
         obtain ⟨rfl, rfl⟩ := H
         have hcz45_0 : wr.cell? ⟨gb247, 0, none⟩ = some (.string a1_0) := (blk_cell BK247.out 0).trans rfl
         have hcz45_1 : wr.cell? ⟨gb247, 1, none⟩ = some (.string a1_1) := (blk_cell BK247.out 1).trans rfl
         have hcz45_2 : wr.cell? ⟨gb247, 2, none⟩ = some (.string a1_2) := (blk_cell BK247.out 2).trans rfl
         have hcz45_3 : wr.cell? ⟨gb247, 3, none⟩ = some (.int .i64 a1_3) := (blk_cell BK247.out 3).trans rfl
         have hfz45_0 := blk_frozen BK247.out 0
         have hfz45_1 := blk_frozen BK247.out 1
         have hfz45_2 := blk_frozen BK247.out 2
         have hfz45_3 := blk_frozen BK247.out 3
         go_wp2_with (first | ((with_reducible refine gate_builtin (b := .append) (xs := #[.tmp 66, .tmp 68]) rfl ?_); at_builtin; refine Kd.R_append k25 (w0 := w) w.heap.size rfl (.tmp 66) (.tmp 68) 29 25 (.agg #[(.string ⟨#[]⟩), (.string ⟨#[]⟩), (.string ⟨#[]⟩), (.int .i64 0)]) 56 rfl Try.underlying29 info25 rfl (by decide) (by omega) u8 x8_1 (⟨(⟨a1_0, a1_1, a1_2⟩ : S23), a1_3⟩ : S25) [.string a1_0, .string a1_1, .string a1_2, .int .i64 a1_3] (fun k_ => k_ ≠ gb247) (fun _ => False) rfl rfl ?aP (fun _ hk => hk.elim) ?aF ?aO ?aB ?aS ?aL ?_; (case aP => exact k25_mkM _ _ _ (⟨(⟨a1_0, a1_1, a1_2⟩ : S23), a1_3⟩ : S25)); (case aB => exact (by repeat (first | (with_reducible first | exact HB.out | apply below_alloc | apply pw_below_drewN | apply below_drew1 | refine below_set ?_ GE247.out) | exact HB.out))); (case aF => exact (fun k_ hk => Kd.freshB (g := gb247) (o := .cells #[.string a1_0, .string a1_1, .string a1_2, .int .i64 a1_3] 25 (0, 0)) (by (with_reducible repeat (first | refine blk_drewN ?_ _ | refine blk_drew ?_ | refine blk_alloc ?_ _)); exact BK247.out) k_ hk)); (case aO => exact (by (with_reducible repeat (first | apply Kd.R_alloc | apply Kd.R_drewN | apply Kd.R_drew)); exact HO_8.out)); (case aS => exact (below_size (by repeat (first | (with_reducible first | exact HB.out | apply below_alloc | apply pw_below_drewN | apply below_drew1 | refine below_set ?_ GE247.out) | exact HB.out)))); (case aL => have := LMc43.out; omega); intro v272 w46 ho hb hg hat; rw [← Ny271.out] at ho; have n0_ := Aside0.mk (blk_grown (g := gb247) (o := .cells #[.string a1_0, .string a1_1, .string a1_2, .int .i64 a1_3] 25 (0, 0)) (by (with_reducible repeat (first | refine blk_drewN ?_ _ | refine blk_drew ?_ | refine blk_alloc ?_ _)); exact BK247.out) hg (Kd.R_away HO_8.out (fun _ hk => hk))); have n1_ := Aside0.mk (hb); have n2_ := Aside0.mk (ho); clear BK247; clear HB; clear HO_8; have BK247 := n0_; have HB := n1_; have HO273 := n2_; clear n0_ n1_ n2_; clear ho hb hg hat; obtain ⟨Ao47, co47, eo47⟩ := Kd.R_slice HO273.out; subst eo47))
         go_ret2
         exact ⟨_, by first | rfl | (simp [errW_none, errW_some] <;> rfl) | (simp [*, errW_none, errW_some] <;> rfl), by first | exact Kd.R_nil _ _ _ _ _ | exact Kd.N_nil _ _ _ _ _ | exact Kd.V_nil _ _ _ _ _ | exact Kd.Q_nil _ _ _ _ _ | exact Kd.S_nil _ _ _ _ _, by repeat (first | (with_reducible first | exact HB.out | apply below_alloc | apply pw_below_drewN | apply below_drew1 | refine below_set ?_ GE247.out) | exact HB.out)⟩
        ·rw [if_neg c44] at H
         have c44b0 : decide (72 < (y271.length : Int)) = false := decide_eq_false c44
         have c44b1 : decide (72 < y271.length) = false := decide_eq_false (by omega)
         clear c44
         simp only [Option.some.injEq, Prod.mk.injEq] at H
         obtain ⟨rfl, rfl⟩ := H
         have hcz48_0 : wr.cell? ⟨gb247, 0, none⟩ = some (.string a1_0) := (blk_cell BK247.out 0).trans rfl
         have hcz48_1 : wr.cell? ⟨gb247, 1, none⟩ = some (.string a1_1) := (blk_cell BK247.out 1).trans rfl
         have hcz48_2 : wr.cell? ⟨gb247, 2, none⟩ = some (.string a1_2) := (blk_cell BK247.out 2).trans rfl
         have hcz48_3 : wr.cell? ⟨gb247, 3, none⟩ = some (.int .i64 a1_3) := (blk_cell BK247.out 3).trans rfl
         have hfz48_0 := blk_frozen BK247.out 0
         have hfz48_1 := blk_frozen BK247.out 1
         have hfz48_2 := blk_frozen BK247.out 2
         have hfz48_3 := blk_frozen BK247.out 3
         go_wp2_with (first | ((with_reducible refine gate_builtin (b := .append) (xs := #[.tmp 66, .tmp 68]) rfl ?_); at_builtin; refine Kd.R_append k25 (w0 := w) w.heap.size rfl (.tmp 66) (.tmp 68) 29 25 (.agg #[(.string ⟨#[]⟩), (.string ⟨#[]⟩), (.string ⟨#[]⟩), (.int .i64 0)]) 56 rfl Try.underlying29 info25 rfl (by decide) (by omega) u8 x8_1 (⟨(⟨a1_0, a1_1, a1_2⟩ : S23), a1_3⟩ : S25) [.string a1_0, .string a1_1, .string a1_2, .int .i64 a1_3] (fun k_ => k_ ≠ gb247) (fun _ => False) rfl rfl ?aP (fun _ hk => hk.elim) ?aF ?aO ?aB ?aS ?aL ?_; (case aP => exact k25_mkM _ _ _ (⟨(⟨a1_0, a1_1, a1_2⟩ : S23), a1_3⟩ : S25)); (case aB => exact (by repeat (first | (with_reducible first | exact HB.out | apply below_alloc | apply pw_below_drewN | apply below_drew1 | refine below_set ?_ GE247.out) | exact HB.out))); (case aF => exact (fun k_ hk => Kd.freshB (g := gb247) (o := .cells #[.string a1_0, .string a1_1, .string a1_2, .int .i64 a1_3] 25 (0, 0)) (by (with_reducible repeat (first | refine blk_drewN ?_ _ | refine blk_drew ?_ | refine blk_alloc ?_ _)); exact BK247.out) k_ hk)); (case aO => exact (by (with_reducible repeat (first | apply Kd.R_alloc | apply Kd.R_drewN | apply Kd.R_drew)); exact HO_8.out)); (case aS => exact (below_size (by repeat (first | (with_reducible first | exact HB.out | apply below_alloc | apply pw_below_drewN | apply below_drew1 | refine below_set ?_ GE247.out) | exact HB.out)))); (case aL => have := LMc43.out; omega); intro v272 w49 ho hb hg hat; rw [← Ny271.out] at ho; have n0_ := Aside0.mk (blk_grown (g := gb247) (o := .cells #[.string a1_0, .string a1_1, .string a1_2, .int .i64 a1_3] 25 (0, 0)) (by (with_reducible repeat (first | refine blk_drewN ?_ _ | refine blk_drew ?_ | refine blk_alloc ?_ _)); exact BK247.out) hg (Kd.R_away HO_8.out (fun _ hk => hk))); have n1_ := Aside0.mk (hb); have n2_ := Aside0.mk (ho); clear BK247; clear HB; clear HO_8; have BK247 := n0_; have HB := n1_; have HO273 := n2_; clear n0_ n1_ n2_; clear ho hb hg hat; obtain ⟨Ao50, co50, eo50⟩ := Kd.R_slice HO273.out; subst eo50))
         go_ret2
         exact ⟨_, by first | rfl | (simp [errW_none, errW_some] <;> rfl) | (simp [*, errW_none, errW_some] <;> rfl), by (with_reducible repeat (first | apply Kd.R_alloc | apply Kd.R_drewN | apply Kd.R_drew)); exact Kd.R_mono HO273.out (fun _ hk => trivial), by repeat (first | (with_reducible first | exact HB.out | apply below_alloc | apply pw_below_drewN | apply below_drew1 | refine below_set ?_ GE247.out) | exact HB.out)⟩
       ·rw [if_neg c43] at H
        exact absurd H (by simp)
  ·rw [if_neg c6] at H
   have c6b0 : (t249 == 0) = false := beq_eq_false_iff_ne.mpr c6
   have c6b1 : (t249 != 0) = true := bne_iff_ne.mpr c6
   simp only [Option.some.injEq, Prod.mk.injEq] at H
   obtain ⟨rfl, rfl⟩ := H
   go_enter Try.func13, Try.ntmps13
   go_wp2_with (first | ((with_reducible refine gate_dst (N := 3) rfl ?_); refine box_event ?hg (N := 3) ?hd (cs := #[.string a1_0, .string a1_1, .string a1_2, .int .i64 a1_3]) (t := 25) ?hr ?_; (case hd => rfl); (case hg => rfl); (case hr => first | (go_simp; done) | (go_simp; rfl)); intro gb247 hg w51 hbox hb; have n0_ := Aside0.mk (below_step (by repeat (first | (with_reducible first | exact HB.out | apply below_alloc | apply pw_below_drewN | apply below_drew1) | exact HB.out)) hb); have n1_ := Aside0.mk (hbox); have n2_ := Aside0.mk ((by rw [hg]; exact (below_size (by repeat (first | (with_reducible first | exact HB.out | apply below_alloc | apply pw_below_drewN | apply below_drew1) | exact HB.out))) : w.heap.size ≤ gb247)); have n3_ := Aside0.mk ((by rw [hg]; exact (below_size (by repeat (first | (with_reducible first | exact HB.out | apply below_alloc | apply pw_below_drewN | apply below_drew1) | exact HB.out))) : w.heap.size ≤ gb247)); clear HB; have HB := n0_; have BK247 := n1_; have GW247 := n2_; have GE247 := n3_; clear n0_ n1_ n2_ n3_; clear hb hbox hg) | ((with_reducible refine gate_callee (f := 11) rfl ?_); refine goesL_ (some 13) rfl rfl Try.func11 (by kernel_rfl) rfl #[.slice A0 l0.length c0] rfl (by (try simp only [List.map_toArray, List.map_cons, List.map_nil]); first | done | rfl | (simp only [List.length_drop, List.length_take]; rfl)) ?_; (with_reducible refine (sutlerref07_Check.calls k _ _ l0 t248 _ ?side1 ?side2 A3.out).mono ?_); (case side1 => repeat (first | exact (Kd.C_below HR0.out HB.out) | (with_reducible refine Kd.C_alloc ?_ _) | (with_reducible refine Kd.C_drewN ?_ _) | (with_reducible refine Kd.C_drew ?_))); (case side2 => exact HC0.out); rintro e w52 ⟨rfl, hb⟩; refine ⟨_, rfl, ?_⟩; have n0_ := Aside0.mk (blk_below (g := gb247) (o := .cells #[.string a1_0, .string a1_1, .string a1_2, .int .i64 a1_3] 25 (0, 0)) (by (with_reducible repeat (first | refine blk_drewN ?_ _ | refine blk_drew ?_ | refine blk_alloc ?_ _)); exact BK247.out) hb); have n1_ := Aside0.mk (below_step (by repeat (first | (with_reducible first | exact HB.out | apply below_alloc | apply pw_below_drewN | apply below_drew1 | refine below_set ?_ GE247.out) | exact HB.out)) hb); clear BK247; clear HB; have BK247 := n0_; have HB := n1_; clear n0_ n1_; (try clear hb); (try clear hb2); (try clear hk); (try clear hi); have hcz53_0 : w52.cell? ⟨gb247, 0, none⟩ = some (.string a1_0) := (blk_cell BK247.out 0).trans rfl; have hcz53_1 : w52.cell? ⟨gb247, 1, none⟩ = some (.string a1_1) := (blk_cell BK247.out 1).trans rfl; have hcz53_2 : w52.cell? ⟨gb247, 2, none⟩ = some (.string a1_2) := (blk_cell BK247.out 2).trans rfl; have hcz53_3 : w52.cell? ⟨gb247, 3, none⟩ = some (.int .i64 a1_3) := (blk_cell BK247.out 3).trans rfl; have hfz53_0 := blk_frozen BK247.out 0; have hfz53_1 := blk_frozen BK247.out 1; have hfz53_2 := blk_frozen BK247.out 2; have hfz53_3 := blk_frozen BK247.out 3) | ((with_reducible refine gate_callee (f := 25) rfl ?_); refine goesL_ (some 18) rfl rfl Try.func25 (by kernel_rfl) rfl #[.agg #[.string a1_0, .string a1_1, .string a1_2, .int .i64 a1_3]] rfl (by (try simp only [List.map_toArray, List.map_cons, List.map_nil]); first | done | rfl | (simp only [List.length_drop, List.length_take]; rfl)) ?_; (with_reducible refine (sutlerref07_one.calls k a1_0 a1_1 a1_2 a1_3 t249 _ A5.out).mono ?_); rintro e w54 ⟨rfl, hb⟩; refine ⟨_, rfl, ?_⟩; have n0_ := Aside0.mk (blk_below (g := gb247) (o := .cells #[.string a1_0, .string a1_1, .string a1_2, .int .i64 a1_3] 25 (0, 0)) (by (with_reducible repeat (first | refine blk_drewN ?_ _ | refine blk_drew ?_ | refine blk_alloc ?_ _)); exact BK247.out) hb); have n1_ := Aside0.mk (below_step (by repeat (first | (with_reducible first | exact HB.out | apply below_alloc | apply pw_below_drewN | apply below_drew1 | refine below_set ?_ GE247.out) | exact HB.out)) hb); clear BK247; clear HB; have BK247 := n0_; have HB := n1_; clear n0_ n1_; (try clear hb); (try clear hb2); (try clear hk); (try clear hi)))
   go_ret2
   exact ⟨_, by first | rfl | (simp [errW_none, errW_some] <;> rfl) | (simp [*, errW_none, errW_some] <;> rfl), by first | exact Kd.R_nil _ _ _ _ _ | exact Kd.N_nil _ _ _ _ _ | exact Kd.V_nil _ _ _ _ _ | exact Kd.Q_nil _ _ _ _ _ | exact Kd.S_nil _ _ _ _ _, by repeat (first | (with_reducible first | exact HB.out | apply below_alloc | apply pw_below_drewN | apply below_drew1 | refine below_set ?_ GE247.out) | exact HB.out)⟩
 ·rw [if_neg c4] at H
  have c4b0 : (t248 == 0) = false := beq_eq_false_iff_ne.mpr c4
  have c4b1 : (t248 != 0) = true := bne_iff_ne.mpr c4
  simp only [Option.some.injEq, Prod.mk.injEq] at H
  obtain ⟨rfl, rfl⟩ := H
  go_enter Try.func13, Try.ntmps13
  go_wp2_with (first | ((with_reducible refine gate_dst (N := 3) rfl ?_); refine box_event ?hg (N := 3) ?hd (cs := #[.string a1_0, .string a1_1, .string a1_2, .int .i64 a1_3]) (t := 25) ?hr ?_; (case hd => rfl); (case hg => rfl); (case hr => first | (go_simp; done) | (go_simp; rfl)); intro gb247 hg w55 hbox hb; have n0_ := Aside0.mk (below_step (by repeat (first | (with_reducible first | exact HB.out | apply below_alloc | apply pw_below_drewN | apply below_drew1) | exact HB.out)) hb); have n1_ := Aside0.mk (hbox); have n2_ := Aside0.mk ((by rw [hg]; exact (below_size (by repeat (first | (with_reducible first | exact HB.out | apply below_alloc | apply pw_below_drewN | apply below_drew1) | exact HB.out))) : w.heap.size ≤ gb247)); have n3_ := Aside0.mk ((by rw [hg]; exact (below_size (by repeat (first | (with_reducible first | exact HB.out | apply below_alloc | apply pw_below_drewN | apply below_drew1) | exact HB.out))) : w.heap.size ≤ gb247)); clear HB; have HB := n0_; have BK247 := n1_; have GW247 := n2_; have GE247 := n3_; clear n0_ n1_ n2_ n3_; clear hb hbox hg) | ((with_reducible refine gate_callee (f := 11) rfl ?_); refine goesL_ (some 13) rfl rfl Try.func11 (by kernel_rfl) rfl #[.slice A0 l0.length c0] rfl (by (try simp only [List.map_toArray, List.map_cons, List.map_nil]); first | done | rfl | (simp only [List.length_drop, List.length_take]; rfl)) ?_; (with_reducible refine (sutlerref07_Check.calls k _ _ l0 t248 _ ?side1 ?side2 A3.out).mono ?_); (case side1 => repeat (first | exact (Kd.C_below HR0.out HB.out) | (with_reducible refine Kd.C_alloc ?_ _) | (with_reducible refine Kd.C_drewN ?_ _) | (with_reducible refine Kd.C_drew ?_))); (case side2 => exact HC0.out); rintro e w56 ⟨rfl, hb⟩; refine ⟨_, rfl, ?_⟩; have n0_ := Aside0.mk (blk_below (g := gb247) (o := .cells #[.string a1_0, .string a1_1, .string a1_2, .int .i64 a1_3] 25 (0, 0)) (by (with_reducible repeat (first | refine blk_drewN ?_ _ | refine blk_drew ?_ | refine blk_alloc ?_ _)); exact BK247.out) hb); have n1_ := Aside0.mk (below_step (by repeat (first | (with_reducible first | exact HB.out | apply below_alloc | apply pw_below_drewN | apply below_drew1 | refine below_set ?_ GE247.out) | exact HB.out)) hb); clear BK247; clear HB; have BK247 := n0_; have HB := n1_; clear n0_ n1_; (try clear hb); (try clear hb2); (try clear hk); (try clear hi)))
  go_ret2
  exact ⟨_, by first | rfl | (simp [errW_none, errW_some] <;> rfl) | (simp [*, errW_none, errW_some] <;> rfl), by first | exact Kd.R_nil _ _ _ _ _ | exact Kd.N_nil _ _ _ _ _ | exact Kd.V_nil _ _ _ _ _ | exact Kd.Q_nil _ _ _ _ _ | exact Kd.S_nil _ _ _ _ _, by repeat (first | (with_reducible first | exact HB.out | apply below_alloc | apply pw_below_drewN | apply below_drew1 | refine below_set ?_ GE247.out) | exact HB.out)⟩

end Go.Proofs.Ytiodidhbkgnicaa.PAll
