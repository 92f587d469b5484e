-- written by a program of this session (the kit's print, turned): plain functions and their contracts
-- shrunk
import Derived.Test.YthgdeoacplcceaaDoorPAllx0
import Derived.Test.YthgdeoacplcceaaDoorPAllx2
import Derived.Test.YthgdeoacplcceaaDoorPAllx7
import Derived.Test.YthgdeoacplcceaaDoorPAllx8
namespace Go.Proofs.YthgdeoacplcceaaDoor.PAll
open Go.RowKit Go.Proofs.YthgdeoacplcceaaDoorW.PrintWords Go.Proofs.YthgdeoacplcceaaDoorW.PrintLast Go.Proofs.YthgdeoacplcceaaDoorW.PrintMore
attribute [local go_sem] max2_int min2_int max_two min_two max_three min_three max_four min_four   -- for this text's walks alone
set_option linter.unusedVariables false
set_option linter.unusedSimpArgs false

attribute [local go_sem high] eqA28
/-! ### sutlerref05_CheckTols: function 11 -/
mutual
def sutlerref05_CheckTols.l0 : Nat → List (S28) → Int → Option (Int)
 | 0, _, _ => none
 | k + 1, x0, x3 => if x3 < (x0.length : Int) then (if 0 ≤ x3 then ((sutlerref03_Name.f k ((rd_T28 x0 x3).f0)).bind fun t175 => (if t175 = true then ((sutlerref03_Value.f k ((rd_T28 x0 x3).f1)).bind fun t177 => (if (rd_T28 x0 x3).f2 = true then (if ((rd_T28 x0 x3).f1).toList = ([] : List UInt8) then (if ((rd_T28 x0 x3).f2 = true) then (sutlerref05_CheckTols.j1 k x0 x3 false) else (sutlerref05_CheckTols.j1 k x0 x3 (!t177))) else (sutlerref05_CheckTols.j1 k x0 x3 true)) else (if ((rd_T28 x0 x3).f2 = true) then (sutlerref05_CheckTols.j1 k x0 x3 false) else (sutlerref05_CheckTols.j1 k x0 x3 (!t177))))) else (some 7))) else (none)) else (some 0)
def sutlerref05_CheckTols.j1 : Nat → List (S28) → Int → Bool → Option (Int)
 | 0, _, _, _ => none
 | k + 1, x0, x3, x54 => if x54 = true then (some 20) else (sutlerref05_CheckTols.l1 k x0 x3 0)
def sutlerref05_CheckTols.l1 : Nat → List (S28) → Int → Int → Option (Int)
 | 0, _, _, _ => none
 | k + 1, x0, x3, x6 => if x6 < x3 then (if 0 ≤ x6 then (if x6 < (x0.length : Int) then (if 0 ≤ x3 then (if x3 < (x0.length : Int) then (if ((((rd_T28 x0 x6).f0).toList) == (((rd_T28 x0 x3).f0).toList) && ((((rd_T28 x0 x6).f1).toList) == (((rd_T28 x0 x3).f1).toList) && (((rd_T28 x0 x6).f2) == ((rd_T28 x0 x3).f2)))) = true then (some 6) else (sutlerref05_CheckTols.l1 k x0 x3 (wrap64 (x6 + 1)))) else (none)) else (none)) else (none)) else (none)) else (sutlerref05_CheckTols.l0 k x0 (wrap64 (x3 + 1)))
end
def sutlerref05_CheckTols.f (k : Nat) (l0 : List (S28)) : Option (Int) := if (l0.length : Int) > 4 then (some 3) else (sutlerref05_CheckTols.l0 k l0 0)
theorem sutlerref05_CheckTols.mono_l : ∀ k, (∀ y0 y1, LeO (sutlerref05_CheckTols.l0 k y0 y1) (sutlerref05_CheckTols.l0 (k + 1) y0 y1)) ∧ (∀ y0 y1 y2, LeO (sutlerref05_CheckTols.j1 k y0 y1 y2) (sutlerref05_CheckTols.j1 (k + 1) y0 y1 y2)) ∧ (∀ y0 y1 y2, LeO (sutlerref05_CheckTols.l1 k y0 y1 y2) (sutlerref05_CheckTols.l1 (k + 1) y0 y1 y2))
 | 0 => ⟨fun _ _ r h => by simp [sutlerref05_CheckTols.l0] at h, fun _ _ _ r h => by simp [sutlerref05_CheckTols.j1] at h, fun _ _ _ r h => by simp [sutlerref05_CheckTols.l1] at h⟩
 | k + 1 => by
  obtain ⟨ih0, ih1, ih2⟩ := sutlerref05_CheckTols.mono_l k
  refine ⟨?_, ?_, ?_⟩
  ·intro y0 y1
   unfold sutlerref05_CheckTols.l0
   repeat' first
   | (with_reducible exact ih0 _ _)
   | (with_reducible exact ih1 _ _ _)
   | (with_reducible exact ih2 _ _ _)
   | (with_reducible exact sutlerref03_Name.mono _ _)
   | (with_reducible exact sutlerref03_Value.mono _ _)
   | (with_reducible exact LeO.refl _)
   | (with_reducible exact LeO.none _)
   | (with_reducible refine LeO.ite ?_ ?_)
   | (with_reducible refine LeO.bind ?_ (fun _ => ?_))
   | exact ih0 _ _
   | exact ih1 _ _ _
   | exact ih2 _ _ _
   | exact sutlerref03_Name.mono _ _
   | exact sutlerref03_Value.mono _ _
   | exact LeO.none _
   | refine LeO.ite ?_ ?_
   | refine LeO.bind ?_ (fun _ => ?_)
  ·intro y0 y1 y2
   unfold sutlerref05_CheckTols.j1
   repeat' first
   | (with_reducible exact ih0 _ _)
   | (with_reducible exact ih1 _ _ _)
   | (with_reducible exact ih2 _ _ _)
   | (with_reducible exact sutlerref03_Name.mono _ _)
   | (with_reducible exact sutlerref03_Value.mono _ _)
   | (with_reducible exact LeO.refl _)
   | (with_reducible exact LeO.none _)
   | (with_reducible refine LeO.ite ?_ ?_)
   | (with_reducible refine LeO.bind ?_ (fun _ => ?_))
   | exact ih0 _ _
   | exact ih1 _ _ _
   | exact ih2 _ _ _
   | exact sutlerref03_Name.mono _ _
   | exact sutlerref03_Value.mono _ _
   | exact LeO.none _
   | refine LeO.ite ?_ ?_
   | refine LeO.bind ?_ (fun _ => ?_)
  ·intro y0 y1 y2
   unfold sutlerref05_CheckTols.l1
   repeat' first
   | (with_reducible exact ih0 _ _)
   | (with_reducible exact ih1 _ _ _)
   | (with_reducible exact ih2 _ _ _)
   | (with_reducible exact sutlerref03_Name.mono _ _)
   | (with_reducible exact sutlerref03_Value.mono _ _)
   | (with_reducible exact LeO.refl _)
   | (with_reducible exact LeO.none _)
   | (with_reducible refine LeO.ite ?_ ?_)
   | (with_reducible refine LeO.bind ?_ (fun _ => ?_))
   | exact ih0 _ _
   | exact ih1 _ _ _
   | exact ih2 _ _ _
   | exact sutlerref03_Name.mono _ _
   | exact sutlerref03_Value.mono _ _
   | exact LeO.none _
   | refine LeO.ite ?_ ?_
   | refine LeO.bind ?_ (fun _ => ?_)
theorem sutlerref05_CheckTols.mono : ∀ a0 k, LeO (sutlerref05_CheckTols.f k a0) (sutlerref05_CheckTols.f (k + 1) a0) := by
 intro a0 k
 obtain ⟨ih0, ih1, ih2⟩ := sutlerref05_CheckTols.mono_l k
 unfold sutlerref05_CheckTols.f
 repeat' first
   | (with_reducible exact ih0 _ _)
   | (with_reducible exact ih1 _ _ _)
   | (with_reducible exact ih2 _ _ _)
   | (with_reducible exact sutlerref03_Name.mono _ _)
   | (with_reducible exact sutlerref03_Value.mono _ _)
   | (with_reducible exact LeO.refl _)
   | (with_reducible exact LeO.none _)
   | (with_reducible refine LeO.ite ?_ ?_)
   | (with_reducible refine LeO.bind ?_ (fun _ => ?_))
   | exact ih0 _ _
   | exact ih1 _ _ _
   | exact ih2 _ _ _
   | exact sutlerref03_Name.mono _ _
   | exact sutlerref03_Value.mono _ _
   | exact LeO.none _
   | refine LeO.ite ?_ ?_
   | refine LeO.bind ?_ (fun _ => ?_)
set_option maxHeartbeats 8000000 in
set_option maxRecDepth 100000 in
theorem sutlerref05_CheckTols.calls (k : Nat) (A0 : Option Addr) (c0 : Nat) (l0 : List (S28)) (r : Int) (w : World) (hr0 : Kd.C k28 w A0 l0.length l0) (hc0 : l0.length ≤ c0) (h : sutlerref05_CheckTols.f k l0 = some r) :
  Calls Tryd.prog 11 #[.slice A0 l0.length c0] w fun e w' => e = .returned (.int .i64 r) ∧ Below w.heap.size w w' := by
 have hu28 := Tryd.underlying28
 have HR0 := Aside0.mk hr0
 have HC0 := Aside0.mk hc0
 clear hr0 hc0
 have HB := Aside0.mk (Below.refl w.heap.size w)
 have H : (if (l0.length : Int) > 4 then (some 3) else (sutlerref05_CheckTols.l0 k l0 0)) = some r := h
 clear h
 by_cases c2 : (l0.length : Int) > 4
 ·rw [if_pos c2] at H
  have c2b0 : decide (4 < (l0.length : Int)) = true := decide_eq_true c2
  have c2b1 : decide (4 < l0.length) = true := decide_eq_true (by omega)
  clear c2
  obtain rfl := Option.some.inj H
  go_enter Tryd.func11, Tryd.ntmps11
  go_wp2
  repeat (go_quiet (fail); try go_wp2)
  go_ret
  exact ⟨by first | rfl | (simp [errW_none, errW_some] <;> rfl) | (simp [*, errW_none, errW_some] <;> rfl), by repeat (first | (with_reducible first | exact HB.out | apply below_alloc | apply pw_below_drewN | apply below_drew1) | exact HB.out)⟩
 ·rw [if_neg c2] at H
  have c2b0 : decide (4 < (l0.length : Int)) = false := decide_eq_false c2
  have c2b1 : decide (4 < l0.length) = false := decide_eq_false (by omega)
  clear c2
  have H' := Aside0.mk H
  clear H
  go_enter Tryd.func11, Tryd.ntmps11
  go_wp2
  repeat (go_quiet (fail); try go_wp2)
  go_loopg [3] k (fun kq v3 w' => ∃ (x3_1 : Int), v3 = .int .i64 x3_1 ∧ Aside0 (sutlerref05_CheckTols.l0 kq l0 x3_1 = some r) ∧ Aside0 (kq ≤ k) ∧ Aside0 (Below w.heap.size w w'))
  case atStart => exact ⟨(0), (by first | rfl | (simp; done) | (simp [*]; done) | (simp [ne_nil_]; done)), H', ⟨Nat.le_refl _⟩, ⟨by repeat (first | (with_reducible first | exact HB.out | apply below_alloc | apply pw_below_drewN | apply below_drew1) | exact HB.out)⟩⟩
  case round =>
   clear H'
   try clear c1
   try clear c2
   try clear c2b0
   try clear c2b1
   try clear p2
   obtain ⟨x3_1, rfl, HA, HK1, HB⟩ := hrel
   cases gk with
   | zero => exact absurd HA.out (by simp [sutlerref05_CheckTols.l0])
   | succ k1 =>
    have H := HA.out
    clear HA
    simp only [sutlerref05_CheckTols.l0] at H
    by_cases c3 : x3_1 < (l0.length : Int)
    ·rw [if_pos c3] at H
     have c3b0 : decide (x3_1 < (l0.length : Int)) = true := decide_eq_true c3
     clear c3
     by_cases c4 : 0 ≤ x3_1
     ·rw [if_pos c4] at H
      have c4b0 : decide (0 ≤ x3_1) = true := decide_eq_true c4
      clear c4
      replace H := Option.bind_eq_some_iff.mp H
      obtain ⟨t175, A50, H⟩ := H
      replace H : (if t175 = true then ((sutlerref03_Value.f k1 ((rd_T28 l0 x3_1).f1)).bind fun t177 => (if (rd_T28 l0 x3_1).f2 = true then (if ((rd_T28 l0 x3_1).f1).toList = ([] : List UInt8) then (if ((rd_T28 l0 x3_1).f2 = true) then (sutlerref05_CheckTols.j1 k1 l0 x3_1 false) else (sutlerref05_CheckTols.j1 k1 l0 x3_1 (!t177))) else (sutlerref05_CheckTols.j1 k1 l0 x3_1 true)) else (if ((rd_T28 l0 x3_1).f2 = true) then (sutlerref05_CheckTols.j1 k1 l0 x3_1 false) else (sutlerref05_CheckTols.j1 k1 l0 x3_1 (!t177))))) else (some 7)) = some r := H
      have A5 := Aside0.mk A50
      clear A50
      by_cases c6 : t175 = true
      ·subst c6
       have H1 : ((sutlerref03_Value.f k1 ((rd_T28 l0 x3_1).f1)).bind fun t177 => (if (rd_T28 l0 x3_1).f2 = true then (if ((rd_T28 l0 x3_1).f1).toList = ([] : List UInt8) then (if ((rd_T28 l0 x3_1).f2 = true) then (sutlerref05_CheckTols.j1 k1 l0 x3_1 false) else (sutlerref05_CheckTols.j1 k1 l0 x3_1 (!t177))) else (sutlerref05_CheckTols.j1 k1 l0 x3_1 true)) else (if ((rd_T28 l0 x3_1).f2 = true) then (sutlerref05_CheckTols.j1 k1 l0 x3_1 false) else (sutlerref05_CheckTols.j1 k1 l0 x3_1 (!t177))))) = some r := by rw [if_pos rfl] at H; exact H
       clear H
       have H := H1
       clear H1
       replace H := Option.bind_eq_some_iff.mp H
       obtain ⟨t177, A70, H⟩ := H
       replace H : (if (rd_T28 l0 x3_1).f2 = true then (if ((rd_T28 l0 x3_1).f1).toList = ([] : List UInt8) then (if ((rd_T28 l0 x3_1).f2 = true) then (sutlerref05_CheckTols.j1 k1 l0 x3_1 false) else (sutlerref05_CheckTols.j1 k1 l0 x3_1 (!t177))) else (sutlerref05_CheckTols.j1 k1 l0 x3_1 true)) else (if ((rd_T28 l0 x3_1).f2 = true) then (sutlerref05_CheckTols.j1 k1 l0 x3_1 false) else (sutlerref05_CheckTols.j1 k1 l0 x3_1 (!t177)))) = some r := H
       have A7 := Aside0.mk A70
       clear A70
       have HC8 := Aside0.mk H
       clear H
       have p174 : 0 ≤ (x3_1 : Int) := of_decide_eq_true (by first | (with_reducible assumption) | assumption)
       have q174 : x3_1 < (l0.length : Int) := of_decide_eq_true (by first | (with_reducible assumption) | assumption)
       obtain ⟨ad174, e174, hx174_0, hx174_1, hx174_2⟩ := at_T28 HR0.out x3_1 p174 q174
       cases e174
       replace hx174_0 := (HB.out.cell (World.block_lt_of_cell? w _ hx174_0)).trans hx174_0
       replace hx174_1 := (HB.out.cell (World.block_lt_of_cell? w _ hx174_1)).trans hx174_1
       replace hx174_2 := (HB.out.cell (World.block_lt_of_cell? w _ hx174_2)).trans hx174_2
       replace p174 := eq_true p174
       replace q174 := eq_true q174
       go_upto_region 10 with (first | (go_at_call 21; (with_reducible refine (sutlerref03_Name.calls k1 ((rd_T28 l0 x3_1).f0) true _ A5.out).mono ?_); rintro e w' ⟨rfl, ⟨nd, rfl⟩⟩; (try first | exact ⟨rfl, _, World.drewN_drewN _ _ _⟩ | exact ⟨rfl, _, Eq.trans (World.drewN_drewN _ _ _) (congrArg (World.drewN _) (Nat.add_assoc _ _ _))⟩); have p176 : 0 ≤ (x3_1 : Int) := of_decide_eq_true (by first | (with_reducible assumption) | assumption); have q176 : x3_1 < (l0.length : Int) := of_decide_eq_true (by first | (with_reducible assumption) | assumption); obtain ⟨ad176, e176, hx176_0, hx176_1, hx176_2⟩ := at_T28 HR0.out x3_1 p176 q176; obtain rfl : ad174 = ad176 := (by injection e176); replace hx176_0 := (HB.out.cell (World.block_lt_of_cell? w _ hx176_0)).trans hx176_0; replace hx176_1 := (HB.out.cell (World.block_lt_of_cell? w _ hx176_1)).trans hx176_1; replace hx176_2 := (HB.out.cell (World.block_lt_of_cell? w _ hx176_2)).trans hx176_2; replace p176 := eq_true p176; replace q176 := eq_true q176) | (go_at_call 22; (with_reducible refine (sutlerref03_Value.calls k1 ((rd_T28 l0 x3_1).f1) t177 _ A7.out).mono ?_); rintro e w9 ⟨rfl, hb⟩; have n0_ := Aside0.mk (below_step (by repeat (first | (with_reducible first | exact HB.out | apply below_alloc | apply pw_below_drewN | apply below_drew1) | exact HB.out)) hb); clear HB; have HB := n0_; clear n0_; (try clear hb); (try clear hb2); (try clear hk); (try clear hi)))
       repeat (go_quiet (first | (go_at_call 21; (with_reducible refine (sutlerref03_Name.calls k1 ((rd_T28 l0 x3_1).f0) true _ A5.out).mono ?_); rintro e w' ⟨rfl, ⟨nd, rfl⟩⟩; (try first | exact ⟨rfl, _, World.drewN_drewN _ _ _⟩ | exact ⟨rfl, _, Eq.trans (World.drewN_drewN _ _ _) (congrArg (World.drewN _) (Nat.add_assoc _ _ _))⟩); have p176 : 0 ≤ (x3_1 : Int) := of_decide_eq_true (by first | (with_reducible assumption) | assumption); have q176 : x3_1 < (l0.length : Int) := of_decide_eq_true (by first | (with_reducible assumption) | assumption); obtain ⟨ad176, e176, hx176_0, hx176_1, hx176_2⟩ := at_T28 HR0.out x3_1 p176 q176; obtain rfl : ad174 = ad176 := (by injection e176); replace hx176_0 := (HB.out.cell (World.block_lt_of_cell? w _ hx176_0)).trans hx176_0; replace hx176_1 := (HB.out.cell (World.block_lt_of_cell? w _ hx176_1)).trans hx176_1; replace hx176_2 := (HB.out.cell (World.block_lt_of_cell? w _ hx176_2)).trans hx176_2; replace p176 := eq_true p176; replace q176 := eq_true q176) | (go_at_call 22; (with_reducible refine (sutlerref03_Value.calls k1 ((rd_T28 l0 x3_1).f1) t177 _ A7.out).mono ?_); rintro e w9 ⟨rfl, hb⟩; have n0_ := Aside0.mk (below_step (by repeat (first | (with_reducible first | exact HB.out | apply below_alloc | apply pw_below_drewN | apply below_drew1) | exact HB.out)) hb); clear HB; have HB := n0_; clear n0_; (try clear hb); (try clear hb2); (try clear hk); (try clear hi))); go_upto_region 10 with (first | (go_at_call 21; (with_reducible refine (sutlerref03_Name.calls k1 ((rd_T28 l0 x3_1).f0) true _ A5.out).mono ?_); rintro e w' ⟨rfl, ⟨nd, rfl⟩⟩; (try first | exact ⟨rfl, _, World.drewN_drewN _ _ _⟩ | exact ⟨rfl, _, Eq.trans (World.drewN_drewN _ _ _) (congrArg (World.drewN _) (Nat.add_assoc _ _ _))⟩); have p176 : 0 ≤ (x3_1 : Int) := of_decide_eq_true (by first | (with_reducible assumption) | assumption); have q176 : x3_1 < (l0.length : Int) := of_decide_eq_true (by first | (with_reducible assumption) | assumption); obtain ⟨ad176, e176, hx176_0, hx176_1, hx176_2⟩ := at_T28 HR0.out x3_1 p176 q176; obtain rfl : ad174 = ad176 := (by injection e176); replace hx176_0 := (HB.out.cell (World.block_lt_of_cell? w _ hx176_0)).trans hx176_0; replace hx176_1 := (HB.out.cell (World.block_lt_of_cell? w _ hx176_1)).trans hx176_1; replace hx176_2 := (HB.out.cell (World.block_lt_of_cell? w _ hx176_2)).trans hx176_2; replace p176 := eq_true p176; replace q176 := eq_true q176) | (go_at_call 22; (with_reducible refine (sutlerref03_Value.calls k1 ((rd_T28 l0 x3_1).f1) t177 _ A7.out).mono ?_); rintro e w9 ⟨rfl, hb⟩; have n0_ := Aside0.mk (below_step (by repeat (first | (with_reducible first | exact HB.out | apply below_alloc | apply pw_below_drewN | apply below_drew1) | exact HB.out)) hb); clear HB; have HB := n0_; clear n0_; (try clear hb); (try clear hb2); (try clear hk); (try clear hi))))
       (try simp only [Act.put, List.setIfInBounds_toArray, List.set_cons_zero, List.set_cons_succ])
       go_cut [54] (fun v54 wc => ∃ (kq : Nat) (x54_7 : Bool), v54 = .bool x54_7 ∧ Aside0 (sutlerref05_CheckTols.j1 kq l0 x3_1 x54_7 = some r) ∧ Aside0 (kq ≤ k1) ∧ Aside0 (Below w.heap.size w wc))
       case first =>
        have H := HC8.out
        clear HC8
        obtain ⟨bq10, hbq10⟩ : ∃ b_ : Bool, b_ = ((rd_T28 l0 x3_1).f2) := ⟨_, rfl⟩
        replace H : (if bq10 = true then (if ((rd_T28 l0 x3_1).f1).toList = ([] : List UInt8) then (if (bq10 = true) then (sutlerref05_CheckTols.j1 k1 l0 x3_1 false) else (sutlerref05_CheckTols.j1 k1 l0 x3_1 (!t177))) else (sutlerref05_CheckTols.j1 k1 l0 x3_1 true)) else (if (bq10 = true) then (sutlerref05_CheckTols.j1 k1 l0 x3_1 false) else (sutlerref05_CheckTols.j1 k1 l0 x3_1 (!t177)))) = some r := by rw [← hbq10] at H; exact H
        have Nbq10 := Aside0.mk hbq10
        clear hbq10
        (try rw [← Nbq10.out])
        by_cases c11 : bq10 = true
        ·subst c11
         have H1 : (if ((rd_T28 l0 x3_1).f1).toList = ([] : List UInt8) then (if (true = true) then (sutlerref05_CheckTols.j1 k1 l0 x3_1 false) else (sutlerref05_CheckTols.j1 k1 l0 x3_1 (!t177))) else (sutlerref05_CheckTols.j1 k1 l0 x3_1 true)) = some r := by rw [if_pos rfl] at H; exact H
         clear H
         have H := H1
         clear H1
         by_cases c12 : ((rd_T28 l0 x3_1).f1).toList = ([] : List UInt8)
         ·rw [if_pos c12] at H
          have c12b0 : (((rd_T28 l0 x3_1).f1).toList == ([] : List UInt8)) = true := beq_iff_eq.mpr c12
          have c12b1 : (((rd_T28 l0 x3_1).f1).toList != ([] : List UInt8)) = false := bne_eq_false_iff_eq.mpr c12
          clear c12
          have H1 : (sutlerref05_CheckTols.j1 k1 l0 x3_1 false) = some r := by rw [if_pos rfl] at H; exact H
          clear H
          have H := H1
          clear H1
          have H' := Aside0.mk H
          clear H
          have p178 : 0 ≤ (x3_1 : Int) := of_decide_eq_true (by first | (with_reducible assumption) | assumption)
          have q178 : x3_1 < (l0.length : Int) := of_decide_eq_true (by first | (with_reducible assumption) | assumption)
          obtain ⟨ad178, e178, hx178_0, hx178_1, hx178_2⟩ := at_T28 HR0.out x3_1 p178 q178
          (try rw [← Nbq10.out] at hx178_2)
          obtain rfl : ad174 = ad178 := (by injection e178)
          replace hx178_0 := (HB.out.cell (World.block_lt_of_cell? w _ hx178_0)).trans hx178_0
          replace hx178_1 := (HB.out.cell (World.block_lt_of_cell? w _ hx178_1)).trans hx178_1
          replace hx178_2 := (HB.out.cell (World.block_lt_of_cell? w _ hx178_2)).trans hx178_2
          replace p178 := eq_true p178
          replace q178 := eq_true q178
          have p179 : 0 ≤ (x3_1 : Int) := of_decide_eq_true (by first | (with_reducible assumption) | assumption)
          have q179 : x3_1 < (l0.length : Int) := of_decide_eq_true (by first | (with_reducible assumption) | assumption)
          obtain ⟨ad179, e179, hx179_0, hx179_1, hx179_2⟩ := at_T28 HR0.out x3_1 p179 q179
          (try rw [← Nbq10.out] at hx179_2)
          obtain rfl : ad174 = ad179 := (by injection e179)
          replace hx179_0 := (HB.out.cell (World.block_lt_of_cell? w _ hx179_0)).trans hx179_0
          replace hx179_1 := (HB.out.cell (World.block_lt_of_cell? w _ hx179_1)).trans hx179_1
          replace hx179_2 := (HB.out.cell (World.block_lt_of_cell? w _ hx179_2)).trans hx179_2
          replace p179 := eq_true p179
          replace q179 := eq_true q179
          have p180 : 0 ≤ (x3_1 : Int) := of_decide_eq_true (by first | (with_reducible assumption) | assumption)
          have q180 : x3_1 < (l0.length : Int) := of_decide_eq_true (by first | (with_reducible assumption) | assumption)
          obtain ⟨ad180, e180, hx180_0, hx180_1, hx180_2⟩ := at_T28 HR0.out x3_1 p180 q180
          (try rw [← Nbq10.out] at hx180_2)
          obtain rfl : ad174 = ad180 := (by injection e180)
          replace hx180_0 := (HB.out.cell (World.block_lt_of_cell? w _ hx180_0)).trans hx180_0
          replace hx180_1 := (HB.out.cell (World.block_lt_of_cell? w _ hx180_1)).trans hx180_1
          replace hx180_2 := (HB.out.cell (World.block_lt_of_cell? w _ hx180_2)).trans hx180_2
          replace p180 := eq_true p180
          replace q180 := eq_true q180
          go_wp2
          repeat (go_quiet (fail); try go_wp2)
          go_meet
          case rel => exact ⟨_, (false), (by first | rfl | (simp; done) | (simp [*]; done) | (simp [ne_nil_]; done)), (by first | exact H' | exact ⟨by rw [← Nbq10.out]; exact H'.out⟩), ⟨by have := HK1.out; first | omega | exact Nat.le_refl _⟩, ⟨by repeat (first | (with_reducible first | exact HB.out | apply below_alloc | apply pw_below_drewN | apply below_drew1) | exact HB.out)⟩⟩
         ·rw [if_neg c12] at H
          have c12b0 : (((rd_T28 l0 x3_1).f1).toList == ([] : List UInt8)) = false := beq_eq_false_iff_ne.mpr c12
          have c12b1 : (((rd_T28 l0 x3_1).f1).toList != ([] : List UInt8)) = true := bne_iff_ne.mpr c12
          have H' := Aside0.mk H
          clear H
          have p178 : 0 ≤ (x3_1 : Int) := of_decide_eq_true (by first | (with_reducible assumption) | assumption)
          have q178 : x3_1 < (l0.length : Int) := of_decide_eq_true (by first | (with_reducible assumption) | assumption)
          obtain ⟨ad178, e178, hx178_0, hx178_1, hx178_2⟩ := at_T28 HR0.out x3_1 p178 q178
          (try rw [← Nbq10.out] at hx178_2)
          obtain rfl : ad174 = ad178 := (by injection e178)
          replace hx178_0 := (HB.out.cell (World.block_lt_of_cell? w _ hx178_0)).trans hx178_0
          replace hx178_1 := (HB.out.cell (World.block_lt_of_cell? w _ hx178_1)).trans hx178_1
          replace hx178_2 := (HB.out.cell (World.block_lt_of_cell? w _ hx178_2)).trans hx178_2
          replace p178 := eq_true p178
          replace q178 := eq_true q178
          have p179 : 0 ≤ (x3_1 : Int) := of_decide_eq_true (by first | (with_reducible assumption) | assumption)
          have q179 : x3_1 < (l0.length : Int) := of_decide_eq_true (by first | (with_reducible assumption) | assumption)
          obtain ⟨ad179, e179, hx179_0, hx179_1, hx179_2⟩ := at_T28 HR0.out x3_1 p179 q179
          (try rw [← Nbq10.out] at hx179_2)
          obtain rfl : ad174 = ad179 := (by injection e179)
          replace hx179_0 := (HB.out.cell (World.block_lt_of_cell? w _ hx179_0)).trans hx179_0
          replace hx179_1 := (HB.out.cell (World.block_lt_of_cell? w _ hx179_1)).trans hx179_1
          replace hx179_2 := (HB.out.cell (World.block_lt_of_cell? w _ hx179_2)).trans hx179_2
          replace p179 := eq_true p179
          replace q179 := eq_true q179
          go_wp2
          repeat (go_quiet (fail); try go_wp2)
          go_meet
          case rel => exact ⟨_, (true), (by first | rfl | (simp; done) | (simp [*]; done) | (simp [ne_nil_]; done)), (by first | exact H' | exact ⟨by rw [← Nbq10.out]; exact H'.out⟩), ⟨by have := HK1.out; first | omega | exact Nat.le_refl _⟩, ⟨by repeat (first | (with_reducible first | exact HB.out | apply below_alloc | apply pw_below_drewN | apply below_drew1) | exact HB.out)⟩⟩
        ·replace c11 := Bool.eq_false_iff.mpr c11
         subst c11
         have H1 : (if (false = true) then (sutlerref05_CheckTols.j1 k1 l0 x3_1 false) else (sutlerref05_CheckTols.j1 k1 l0 x3_1 (!t177))) = some r := by rw [if_neg (show ¬ (false = true) by decide)] at H; exact H
         clear H
         have H := H1
         clear H1
         have H1 : (sutlerref05_CheckTols.j1 k1 l0 x3_1 (!t177)) = some r := by rw [if_neg (by decide)] at H; exact H
         clear H
         have H := H1
         clear H1
         have H' := Aside0.mk H
         clear H
         have p178 : 0 ≤ (x3_1 : Int) := of_decide_eq_true (by first | (with_reducible assumption) | assumption)
         have q178 : x3_1 < (l0.length : Int) := of_decide_eq_true (by first | (with_reducible assumption) | assumption)
         obtain ⟨ad178, e178, hx178_0, hx178_1, hx178_2⟩ := at_T28 HR0.out x3_1 p178 q178
         (try rw [← Nbq10.out] at hx178_2)
         obtain rfl : ad174 = ad178 := (by injection e178)
         replace hx178_0 := (HB.out.cell (World.block_lt_of_cell? w _ hx178_0)).trans hx178_0
         replace hx178_1 := (HB.out.cell (World.block_lt_of_cell? w _ hx178_1)).trans hx178_1
         replace hx178_2 := (HB.out.cell (World.block_lt_of_cell? w _ hx178_2)).trans hx178_2
         replace p178 := eq_true p178
         replace q178 := eq_true q178
         have p181 : 0 ≤ (x3_1 : Int) := of_decide_eq_true (by first | (with_reducible assumption) | assumption)
         have q181 : x3_1 < (l0.length : Int) := of_decide_eq_true (by first | (with_reducible assumption) | assumption)
         obtain ⟨ad181, e181, hx181_0, hx181_1, hx181_2⟩ := at_T28 HR0.out x3_1 p181 q181
         (try rw [← Nbq10.out] at hx181_2)
         obtain rfl : ad174 = ad181 := (by injection e181)
         replace hx181_0 := (HB.out.cell (World.block_lt_of_cell? w _ hx181_0)).trans hx181_0
         replace hx181_1 := (HB.out.cell (World.block_lt_of_cell? w _ hx181_1)).trans hx181_1
         replace hx181_2 := (HB.out.cell (World.block_lt_of_cell? w _ hx181_2)).trans hx181_2
         replace p181 := eq_true p181
         replace q181 := eq_true q181
         go_wp2
         repeat (go_quiet (fail); try go_wp2)
         go_meet
         case rel => exact ⟨_, (!t177), (by first | rfl | (simp; done) | (simp [*]; done) | (simp [ne_nil_]; done)), (by first | exact H' | exact ⟨by rw [← Nbq10.out]; exact H'.out⟩), ⟨by have := HK1.out; first | omega | exact Nat.le_refl _⟩, ⟨by repeat (first | (with_reducible first | exact HB.out | apply below_alloc | apply pw_below_drewN | apply below_drew1) | exact HB.out)⟩⟩
       case rest =>
        clear HC8
        try clear c1
        try clear p1
        try clear q1
        try clear hx1
        try clear c2
        try clear c2b0
        try clear c2b1
        try clear p2
        try clear c3
        try clear c3b0
        try clear c4
        try clear c4b0
        try clear c6
        try clear q10
        try clear c11
        try clear c12
        try clear c12b0
        try clear c12b1
        try clear hx174_0
        try clear hx174_1
        try clear hx174_2
        try clear hx176_0
        try clear hx176_1
        try clear hx176_2
        try clear hx178_0
        try clear hx178_1
        try clear hx178_2
        try clear hx179_0
        try clear hx179_1
        try clear hx179_2
        try clear hx180_0
        try clear hx180_1
        try clear hx180_2
        try clear hx181_0
        try clear hx181_1
        try clear hx181_2
        try clear p174
        try clear p176
        try clear p178
        try clear p179
        try clear p180
        try clear p181
        try clear p2
        try clear q174
        try clear q176
        try clear q178
        try clear q179
        try clear q180
        try clear q181
        obtain ⟨kq, x54_7, rfl, HA, HJ7, HB⟩ := hcut
        cases kq with
        | zero => exact absurd HA.out (by simp [sutlerref05_CheckTols.j1])
        | succ kj7 =>
         have H := HA.out
         clear HA
         simp only [sutlerref05_CheckTols.j1] at H
         by_cases c13 : x54_7 = true
         ·subst c13
          have H1 : (some 20) = some r := by rw [if_pos rfl] at H; exact H
          clear H
          have H := H1
          clear H1
          obtain rfl := Option.some.inj H
          go_wp2
          repeat (go_quiet (fail); try go_wp2)
          go_ret
          exact ⟨by first | rfl | (simp [errW_none, errW_some] <;> rfl) | (simp [*, errW_none, errW_some] <;> rfl), by repeat (first | (with_reducible first | exact HB.out | apply below_alloc | apply pw_below_drewN | apply below_drew1) | exact HB.out)⟩
         ·replace c13 := Bool.eq_false_iff.mpr c13
          subst c13
          have H1 : (sutlerref05_CheckTols.l1 kj7 l0 x3_1 0) = some r := by rw [if_neg (show ¬ (false = true) by decide)] at H; exact H
          clear H
          have H := H1
          clear H1
          have H' := Aside0.mk H
          clear H
          go_wp2
          repeat (go_quiet (fail); try go_wp2)
          go_loopg [6] kj7 (fun kq v6 w' => ∃ (x6_3 : Int), v6 = .int .i64 x6_3 ∧ Aside0 (sutlerref05_CheckTols.l1 kq l0 x3_1 x6_3 = some r) ∧ Aside0 (kq ≤ kj7) ∧ Aside0 (Below w.heap.size w w'))
          case atStart => exact ⟨(0), (by first | rfl | (simp; done) | (simp [*]; done) | (simp [ne_nil_]; done)), H', ⟨Nat.le_refl _⟩, ⟨by repeat (first | (with_reducible first | exact HB.out | apply below_alloc | apply pw_below_drewN | apply below_drew1) | exact HB.out)⟩⟩
          case round =>
           clear H'
           try clear c1
           try clear p1
           try clear q1
           try clear hx1
           try clear c2
           try clear c2b0
           try clear c2b1
           try clear p2
           try clear c3
           try clear c3b0
           try clear c4
           try clear c4b0
           try clear c6
           try clear q10
           try clear c11
           try clear c12
           try clear c12b0
           try clear c12b1
           try clear c13
           try clear hx174_0
           try clear hx174_1
           try clear hx174_2
           try clear hx176_0
           try clear hx176_1
           try clear hx176_2
           try clear hx178_0
           try clear hx178_1
           try clear hx178_2
           try clear hx179_0
           try clear hx179_1
           try clear hx179_2
           try clear hx180_0
           try clear hx180_1
           try clear hx180_2
           try clear hx181_0
           try clear hx181_1
           try clear hx181_2
           try clear p1
           try clear p174
           try clear p176
           try clear p178
           try clear p179
           try clear p180
           try clear p181
           try clear p2
           try clear q1
           try clear q10
           try clear q174
           try clear q176
           try clear q178
           try clear q179
           try clear q180
           try clear q181
           obtain ⟨x6_3, rfl, HA, HK3, HB⟩ := hrel
           cases gk with
           | zero => exact absurd HA.out (by simp [sutlerref05_CheckTols.l1])
           | succ k3 =>
            have H := HA.out
            clear HA
            simp only [sutlerref05_CheckTols.l1] at H
            by_cases c14 : x6_3 < x3_1
            ·rw [if_pos c14] at H
             have c14b0 : decide (x6_3 < x3_1) = true := decide_eq_true c14
             clear c14
             by_cases c15 : 0 ≤ x6_3
             ·rw [if_pos c15] at H
              have c15b0 : decide (0 ≤ x6_3) = true := decide_eq_true c15
              clear c15
              by_cases c16 : x6_3 < (l0.length : Int)
              ·rw [if_pos c16] at H
               have c16b0 : decide (x6_3 < (l0.length : Int)) = true := decide_eq_true c16
               clear c16
               by_cases c17 : 0 ≤ x3_1
               ·rw [if_pos c17] at H
                have c17b0 : decide (0 ≤ x3_1) = true := decide_eq_true c17
                clear c17
                by_cases c18 : x3_1 < (l0.length : Int)
                ·rw [if_pos c18] at H
                 have c18b0 : decide (x3_1 < (l0.length : Int)) = true := decide_eq_true c18
                 clear c18
                 by_cases c19 : ((((rd_T28 l0 x6_3).f0).toList) == (((rd_T28 l0 x3_1).f0).toList) && ((((rd_T28 l0 x6_3).f1).toList) == (((rd_T28 l0 x3_1).f1).toList) && (((rd_T28 l0 x6_3).f2) == ((rd_T28 l0 x3_1).f2)))) = true
                 ·rw [if_pos c19] at H
                  have c19b0 : ((((rd_T28 l0 x6_3).f0).toList) == (((rd_T28 l0 x3_1).f0).toList) && ((((rd_T28 l0 x6_3).f1).toList) == (((rd_T28 l0 x3_1).f1).toList) && (((rd_T28 l0 x6_3).f2) == ((rd_T28 l0 x3_1).f2)))) = true := c19
                  (try (have c19b1 : decide ((((rd_T28 l0 x6_3).f0).toList) = (((rd_T28 l0 x3_1).f0).toList) && ((((rd_T28 l0 x6_3).f1).toList) == (((rd_T28 l0 x3_1).f1).toList) && (((rd_T28 l0 x6_3).f2) == ((rd_T28 l0 x3_1).f2)))) = true := by simpa using c19))
                  (try (have c19b2 : ((((rd_T28 l0 x6_3).f0).toList) == (((rd_T28 l0 x3_1).f0).toList) && ((((rd_T28 l0 x6_3).f1).toList) == (((rd_T28 l0 x3_1).f1).toList) && (((rd_T28 l0 x6_3).f2) == ((rd_T28 l0 x3_1).f2)))) = true := by simpa using c19))
                  clear c19
                  obtain rfl := Option.some.inj H
                  have p182 : 0 ≤ (x6_3 : Int) := of_decide_eq_true (by first | (with_reducible assumption) | assumption)
                  have q182 : x6_3 < (l0.length : Int) := of_decide_eq_true (by first | (with_reducible assumption) | assumption)
                  obtain ⟨ad182, e182, hx182_0, hx182_1, hx182_2⟩ := at_T28 HR0.out x6_3 p182 q182
                  obtain rfl : ad174 = ad182 := (by injection e182)
                  replace hx182_0 := (HB.out.cell (World.block_lt_of_cell? w _ hx182_0)).trans hx182_0
                  replace hx182_1 := (HB.out.cell (World.block_lt_of_cell? w _ hx182_1)).trans hx182_1
                  replace hx182_2 := (HB.out.cell (World.block_lt_of_cell? w _ hx182_2)).trans hx182_2
                  replace p182 := eq_true p182
                  replace q182 := eq_true q182
                  have p183 : 0 ≤ (x3_1 : Int) := of_decide_eq_true (by first | (with_reducible assumption) | assumption)
                  have q183 : x3_1 < (l0.length : Int) := of_decide_eq_true (by first | (with_reducible assumption) | assumption)
                  obtain ⟨ad183, e183, hx183_0, hx183_1, hx183_2⟩ := at_T28 HR0.out x3_1 p183 q183
                  obtain rfl : ad174 = ad183 := (by injection e183)
                  replace hx183_0 := (HB.out.cell (World.block_lt_of_cell? w _ hx183_0)).trans hx183_0
                  replace hx183_1 := (HB.out.cell (World.block_lt_of_cell? w _ hx183_1)).trans hx183_1
                  replace hx183_2 := (HB.out.cell (World.block_lt_of_cell? w _ hx183_2)).trans hx183_2
                  replace p183 := eq_true p183
                  replace q183 := eq_true q183
                  go_wp2
                  repeat (go_quiet (fail); try go_wp2)
                  go_ret
                  exact ⟨by first | rfl | (simp [errW_none, errW_some] <;> rfl) | (simp [*, errW_none, errW_some] <;> rfl), by repeat (first | (with_reducible first | exact HB.out | apply below_alloc | apply pw_below_drewN | apply below_drew1) | exact HB.out)⟩
                 ·rw [if_neg c19] at H
                  have c19b0 : ((((rd_T28 l0 x6_3).f0).toList) == (((rd_T28 l0 x3_1).f0).toList) && ((((rd_T28 l0 x6_3).f1).toList) == (((rd_T28 l0 x3_1).f1).toList) && (((rd_T28 l0 x6_3).f2) == ((rd_T28 l0 x3_1).f2)))) = false := by simpa using c19
                  (try (have c19b1 : decide ((((rd_T28 l0 x6_3).f0).toList) = (((rd_T28 l0 x3_1).f0).toList) && ((((rd_T28 l0 x6_3).f1).toList) == (((rd_T28 l0 x3_1).f1).toList) && (((rd_T28 l0 x6_3).f2) == ((rd_T28 l0 x3_1).f2)))) = false := by simpa using c19))
                  (try (have c19b2 : ((((rd_T28 l0 x6_3).f0).toList) == (((rd_T28 l0 x3_1).f0).toList) && ((((rd_T28 l0 x6_3).f1).toList) == (((rd_T28 l0 x3_1).f1).toList) && (((rd_T28 l0 x6_3).f2) == ((rd_T28 l0 x3_1).f2)))) = false := by simpa using c19))
                  (try (have c19b3 : ¬ ((((rd_T28 l0 x6_3).f0).toList) = (((rd_T28 l0 x3_1).f0).toList) && ((((rd_T28 l0 x6_3).f1).toList) == (((rd_T28 l0 x3_1).f1).toList) && (((rd_T28 l0 x6_3).f2) == ((rd_T28 l0 x3_1).f2)))) := by simpa using c19))
                  clear c19
                  have H' := Aside0.mk H
                  clear H
                  have p182 : 0 ≤ (x6_3 : Int) := of_decide_eq_true (by first | (with_reducible assumption) | assumption)
                  have q182 : x6_3 < (l0.length : Int) := of_decide_eq_true (by first | (with_reducible assumption) | assumption)
                  obtain ⟨ad182, e182, hx182_0, hx182_1, hx182_2⟩ := at_T28 HR0.out x6_3 p182 q182
                  obtain rfl : ad174 = ad182 := (by injection e182)
                  replace hx182_0 := (HB.out.cell (World.block_lt_of_cell? w _ hx182_0)).trans hx182_0
                  replace hx182_1 := (HB.out.cell (World.block_lt_of_cell? w _ hx182_1)).trans hx182_1
                  replace hx182_2 := (HB.out.cell (World.block_lt_of_cell? w _ hx182_2)).trans hx182_2
                  replace p182 := eq_true p182
                  replace q182 := eq_true q182
                  have p183 : 0 ≤ (x3_1 : Int) := of_decide_eq_true (by first | (with_reducible assumption) | assumption)
                  have q183 : x3_1 < (l0.length : Int) := of_decide_eq_true (by first | (with_reducible assumption) | assumption)
                  obtain ⟨ad183, e183, hx183_0, hx183_1, hx183_2⟩ := at_T28 HR0.out x3_1 p183 q183
                  obtain rfl : ad174 = ad183 := (by injection e183)
                  replace hx183_0 := (HB.out.cell (World.block_lt_of_cell? w _ hx183_0)).trans hx183_0
                  replace hx183_1 := (HB.out.cell (World.block_lt_of_cell? w _ hx183_1)).trans hx183_1
                  replace hx183_2 := (HB.out.cell (World.block_lt_of_cell? w _ hx183_2)).trans hx183_2
                  replace p183 := eq_true p183
                  replace q183 := eq_true q183
                  go_wp2
                  repeat (go_quiet (fail); try go_wp2)
                  go_roundg k3
                  case measure => have := HK1.out; have := HJ7.out; have := HK3.out; omega
                  case rel => exact ⟨(wrap64 (x6_3 + 1)), (by first | rfl | (simp; done) | (simp [*]; done) | (simp [ne_nil_]; done)), H', ⟨by have := HK1.out; have := HJ7.out; have := HK3.out; omega⟩, ⟨by repeat (first | (with_reducible first | exact HB.out | apply below_alloc | apply pw_below_drewN | apply below_drew1) | exact HB.out)⟩⟩
                ·rw [if_neg c18] at H
                 exact absurd H (by simp)
               ·rw [if_neg c17] at H
                exact absurd H (by simp)
              ·rw [if_neg c16] at H
               exact absurd H (by simp)
             ·rw [if_neg c15] at H
              exact absurd H (by simp)
            ·rw [if_neg c14] at H
             have c14b0 : decide (x6_3 < x3_1) = false := decide_eq_false c14
             clear c14
             have H' := Aside0.mk H
             clear H
             go_wp2
             repeat (go_quiet (fail); try go_wp2)
             go_roundg k3
             case measure => have := HK1.out; have := HJ7.out; have := HK3.out; omega
             case rel => exact ⟨(wrap64 (x3_1 + 1)), (by first | rfl | (simp; done) | (simp [*]; done) | (simp [ne_nil_]; done)), H', ⟨by have := HK1.out; have := HJ7.out; have := HK3.out; omega⟩, ⟨by repeat (first | (with_reducible first | exact HB.out | apply below_alloc | apply pw_below_drewN | apply below_drew1) | exact HB.out)⟩⟩
      ·replace c6 := Bool.eq_false_iff.mpr c6
       subst c6
       have H1 : (some 7) = some r := by rw [if_neg (show ¬ (false = true) by decide)] at H; exact H
       clear H
       have H := H1
       clear H1
       obtain rfl := Option.some.inj H
       have p174 : 0 ≤ (x3_1 : Int) := of_decide_eq_true (by first | (with_reducible assumption) | assumption)
       have q174 : x3_1 < (l0.length : Int) := of_decide_eq_true (by first | (with_reducible assumption) | assumption)
       obtain ⟨ad174, e174, hx174_0, hx174_1, hx174_2⟩ := at_T28 HR0.out x3_1 p174 q174
       cases e174
       replace hx174_0 := (HB.out.cell (World.block_lt_of_cell? w _ hx174_0)).trans hx174_0
       replace hx174_1 := (HB.out.cell (World.block_lt_of_cell? w _ hx174_1)).trans hx174_1
       replace hx174_2 := (HB.out.cell (World.block_lt_of_cell? w _ hx174_2)).trans hx174_2
       replace p174 := eq_true p174
       replace q174 := eq_true q174
       go_wp2_with (first | (go_at_call 21; (with_reducible refine (sutlerref03_Name.calls k1 ((rd_T28 l0 x3_1).f0) false _ A5.out).mono ?_); rintro e w' ⟨rfl, ⟨nd, rfl⟩⟩; (try first | exact ⟨rfl, _, World.drewN_drewN _ _ _⟩ | exact ⟨rfl, _, Eq.trans (World.drewN_drewN _ _ _) (congrArg (World.drewN _) (Nat.add_assoc _ _ _))⟩)))
       repeat (go_quiet (first | (go_at_call 21; (with_reducible refine (sutlerref03_Name.calls k1 ((rd_T28 l0 x3_1).f0) false _ A5.out).mono ?_); rintro e w' ⟨rfl, ⟨nd, rfl⟩⟩; (try first | exact ⟨rfl, _, World.drewN_drewN _ _ _⟩ | exact ⟨rfl, _, Eq.trans (World.drewN_drewN _ _ _) (congrArg (World.drewN _) (Nat.add_assoc _ _ _))⟩))); try go_wp2_with (first | (go_at_call 21; (with_reducible refine (sutlerref03_Name.calls k1 ((rd_T28 l0 x3_1).f0) false _ A5.out).mono ?_); rintro e w' ⟨rfl, ⟨nd, rfl⟩⟩; (try first | exact ⟨rfl, _, World.drewN_drewN _ _ _⟩ | exact ⟨rfl, _, Eq.trans (World.drewN_drewN _ _ _) (congrArg (World.drewN _) (Nat.add_assoc _ _ _))⟩))))
       go_ret
       exact ⟨by first | rfl | (simp [errW_none, errW_some] <;> rfl) | (simp [*, errW_none, errW_some] <;> rfl), by repeat (first | (with_reducible first | exact HB.out | apply below_alloc | apply pw_below_drewN | apply below_drew1) | exact HB.out)⟩
     ·rw [if_neg c4] at H
      exact absurd H (by simp)
    ·rw [if_neg c3] at H
     have c3b0 : decide (x3_1 < (l0.length : Int)) = false := decide_eq_false c3
     clear c3
     obtain rfl := Option.some.inj H
     go_wp2
     repeat (go_quiet (fail); try go_wp2)
     go_ret
     exact ⟨by first | rfl | (simp [errW_none, errW_some] <;> rfl) | (simp [*, errW_none, errW_some] <;> rfl), by repeat (first | (with_reducible first | exact HB.out | apply below_alloc | apply pw_below_drewN | apply below_drew1) | exact HB.out)⟩

end Go.Proofs.YthgdeoacplcceaaDoor.PAll
