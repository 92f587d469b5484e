-- written by a program of this session (the kit's print, turned): plain functions and their contracts
-- shrunk
import Derived.Test.YtafncdmclhdkdaaDoorPAllx0
import Derived.Test.YtafncdmclhdkdaaDoorPAllx7
import Derived.Test.YtafncdmclhdkdaaDoorPAllx8
namespace Go.Proofs.YtafncdmclhdkdaaDoor.PAll
open Go.RowKit Go.Proofs.YtafncdmclhdkdaaDoorW.PrintWords Go.Proofs.YtafncdmclhdkdaaDoorW.PrintLast Go.Proofs.YtafncdmclhdkdaaDoorW.PrintMore
attribute [local go_sem] max2_int min2_int max_two min_two max_three min_three max_four min_four   -- for this text's walks alone
set_option linter.unusedVariables false
set_option linter.unusedSimpArgs false

/-! ### sutlerref02_PrintMoney: function 20 -/
def sutlerref02_PrintMoney.l0 : Nat → ByteArray → ByteArray → Option (ByteArray × Int)
 | 0, _, _ => none
 | k + 1, x5, x7 => if 0 ≤ (wrap64 ((x7.size : Int) - 1)) then (if (wrap64 ((x7.size : Int) - 1)) < (x7.size : Int) then (if (bt x7 (wrap64 ((x7.size : Int) - 1))) = 48 then (if (wrap64 ((x7.size : Int) - 1)) ≤ (x7.size : Int) then (sutlerref02_PrintMoney.l0 k x5 (x7.extract 0 ((wrap64 ((x7.size : Int) - 1)) : Int).toNat)) else (none)) else (if x5.size + 1 ≤ 9223372036854775807 then (if (x5 ++ (⟨#[46]⟩ : ByteArray)).size + x7.size ≤ 9223372036854775807 then (some ((x5 ++ (⟨#[46]⟩ : ByteArray)) ++ x7, 0)) else (none)) else (none))) else (none)) else (none)
def sutlerref02_PrintMoney.f (k : Nat) (a0 : Int) : Option (ByteArray × Int) := (sutlerref01_Check.f a0).bind fun t201 => (if t201 = 0 then ((sutlerref02_Decimal.f k (wrap64 (Int.tdiv a0 1000000))).bind fun t202 => (if (Int.tmod a0 1000000) = 0 then (some (t202, 0)) else ((sutlerref02_Decimal.f k (wrap64 ((Int.tmod a0 1000000) + 1000000))).bind fun t203 => (if 1 ≤ (t203.size : Int) then (sutlerref02_PrintMoney.l0 k t202 (t203.extract 1 t203.size)) else (none))))) else (some ((⟨#[]⟩ : ByteArray), t201)))
theorem sutlerref02_PrintMoney.mono_l : ∀ k, (∀ y0 y1, LeO (sutlerref02_PrintMoney.l0 k y0 y1) (sutlerref02_PrintMoney.l0 (k + 1) y0 y1))
 | 0 => fun _ _ r h => by simp [sutlerref02_PrintMoney.l0] at h
 | k + 1 => by
  have ih0 := sutlerref02_PrintMoney.mono_l k
  ·intro y0 y1
   unfold sutlerref02_PrintMoney.l0
   repeat' first
   | (with_reducible exact ih0 _ _)
   | (with_reducible exact sutlerref02_Decimal.mono _ _)
   | (with_reducible exact LeO.refl _)
   | (with_reducible exact LeO.none _)
   | (with_reducible refine LeO.ite ?_ ?_)
   | (with_reducible refine LeO.bind ?_ (fun _ => ?_))
   | exact ih0 _ _
   | exact sutlerref02_Decimal.mono _ _
   | exact LeO.none _
   | refine LeO.ite ?_ ?_
   | refine LeO.bind ?_ (fun _ => ?_)
theorem sutlerref02_PrintMoney.mono : ∀ a0 k, LeO (sutlerref02_PrintMoney.f k a0) (sutlerref02_PrintMoney.f (k + 1) a0) := by
 intro a0 k
 have ih0 := sutlerref02_PrintMoney.mono_l k
 unfold sutlerref02_PrintMoney.f
 repeat' first
   | (with_reducible exact ih0 _ _)
   | (with_reducible exact sutlerref02_Decimal.mono _ _)
   | (with_reducible exact LeO.refl _)
   | (with_reducible exact LeO.none _)
   | (with_reducible refine LeO.ite ?_ ?_)
   | (with_reducible refine LeO.bind ?_ (fun _ => ?_))
   | exact ih0 _ _
   | exact sutlerref02_Decimal.mono _ _
   | exact LeO.none _
   | refine LeO.ite ?_ ?_
   | refine LeO.bind ?_ (fun _ => ?_)
set_option maxHeartbeats 8000000 in
set_option maxRecDepth 100000 in
theorem sutlerref02_PrintMoney.calls (k : Nat) (a0 : Int) (r1 : ByteArray) (r2 : Int) (w : World) (h : sutlerref02_PrintMoney.f k a0 = some (r1, r2)) :
  Calls Tryd.prog 20 #[.int .i64 a0] w fun e w' => e = .returned (.tuple #[.string r1, .int .i64 r2]) ∧ Below w.heap.size w w' := by
 have HB := Aside0.mk (Below.refl w.heap.size w)
 have H : ((sutlerref01_Check.f a0).bind fun t201 => (if t201 = 0 then ((sutlerref02_Decimal.f k (wrap64 (Int.tdiv a0 1000000))).bind fun t202 => (if (Int.tmod a0 1000000) = 0 then (some (t202, 0)) else ((sutlerref02_Decimal.f k (wrap64 ((Int.tmod a0 1000000) + 1000000))).bind fun t203 => (if 1 ≤ (t203.size : Int) then (sutlerref02_PrintMoney.l0 k t202 (t203.extract 1 t203.size)) else (none))))) else (some ((⟨#[]⟩ : ByteArray), t201)))) = some (r1, r2) := h
 clear h
 replace H := Option.bind_eq_some_iff.mp H
 obtain ⟨t201, A20, H⟩ := H
 replace H : (if t201 = 0 then ((sutlerref02_Decimal.f k (wrap64 (Int.tdiv a0 1000000))).bind fun t202 => (if (Int.tmod a0 1000000) = 0 then (some (t202, 0)) else ((sutlerref02_Decimal.f k (wrap64 ((Int.tmod a0 1000000) + 1000000))).bind fun t203 => (if 1 ≤ (t203.size : Int) then (sutlerref02_PrintMoney.l0 k t202 (t203.extract 1 t203.size)) else (none))))) else (some ((⟨#[]⟩ : ByteArray), t201))) = some (r1, r2) := H
 have A2 := Aside0.mk A20
 clear A20
 by_cases c3 : t201 = 0
 ·rw [if_pos c3] at H
  have c3b0 : (t201 == 0) = true := beq_iff_eq.mpr c3
  have c3b1 : (t201 != 0) = false := bne_eq_false_iff_eq.mpr c3
  clear c3
  replace H := Option.bind_eq_some_iff.mp H
  obtain ⟨t202, A40, H⟩ := H
  replace H : (if (Int.tmod a0 1000000) = 0 then (some (t202, 0)) else ((sutlerref02_Decimal.f k (wrap64 ((Int.tmod a0 1000000) + 1000000))).bind fun t203 => (if 1 ≤ (t203.size : Int) then (sutlerref02_PrintMoney.l0 k t202 (t203.extract 1 t203.size)) else (none)))) = some (r1, r2) := H
  have A4 := Aside0.mk A40
  clear A40
  by_cases c5 : (Int.tmod a0 1000000) = 0
  ·rw [if_pos c5] at H
   have c5b0 : ((Int.tmod a0 1000000) == 0) = true := beq_iff_eq.mpr c5
   have c5b1 : ((Int.tmod a0 1000000) != 0) = false := bne_eq_false_iff_eq.mpr c5
   clear c5
   simp only [Option.some.injEq, Prod.mk.injEq] at H
   obtain ⟨rfl, rfl⟩ := H
   go_enter Tryd.func20, Tryd.ntmps20
   go_wp2_with (first | ((with_reducible refine gate_callee (f := 36) rfl ?_); refine goesL_ (some 9) rfl rfl Tryd.func36 (by kernel_rfl) rfl #[.int .i64 a0] rfl (by (try simp only [List.map_toArray, List.map_cons, List.map_nil]); first | done | rfl | (simp only [List.length_drop, List.length_take]; rfl)) ?_; (with_reducible refine (sutlerref01_Check.calls a0 t201 _ A2.out).mono ?_); rintro e w' ⟨rfl, ⟨nd, rfl⟩⟩; refine ⟨_, rfl, ?_⟩) | ((with_reducible refine gate_callee (f := 37) rfl ?_); refine goesL_ (some 15) rfl rfl Tryd.func37 (by kernel_rfl) rfl #[.int .i64 (wrap64 (Int.tdiv a0 1000000))] rfl (by (try simp only [List.map_toArray, List.map_cons, List.map_nil]); first | done | rfl | (simp only [List.length_drop, List.length_take]; rfl)) ?_; (with_reducible refine (sutlerref02_Decimal.calls k (wrap64 (Int.tdiv a0 1000000)) t202 _ A4.out).mono ?_); rintro e w6 ⟨rfl, hb⟩; refine ⟨_, rfl, ?_⟩; have n0_ := Aside0.mk (below_step (by repeat (first | (with_reducible first | exact HB.out | apply below_alloc | apply pw_below_drewN | apply below_drew1) | exact HB.out)) hb); clear HB; have HB := n0_; clear n0_; (try clear hb); (try clear hb2); (try clear hk); (try clear hi)))
   go_ret2
   exact ⟨by first | rfl | (simp [errW_none, errW_some] <;> rfl) | (simp [*, errW_none, errW_some] <;> rfl), by repeat (first | (with_reducible first | exact HB.out | apply below_alloc | apply pw_below_drewN | apply below_drew1) | exact HB.out)⟩
  ·rw [if_neg c5] at H
   have c5b0 : ((Int.tmod a0 1000000) == 0) = false := beq_eq_false_iff_ne.mpr c5
   have c5b1 : ((Int.tmod a0 1000000) != 0) = true := bne_iff_ne.mpr c5
   replace H := Option.bind_eq_some_iff.mp H
   obtain ⟨t203, A70, H⟩ := H
   replace H : (if 1 ≤ (t203.size : Int) then (sutlerref02_PrintMoney.l0 k t202 (t203.extract 1 t203.size)) else (none)) = some (r1, r2) := H
   have A7 := Aside0.mk A70
   clear A70
   by_cases c8 : 1 ≤ (t203.size : Int)
   ·rw [if_pos c8] at H
    have c8b0 := eq_true c8
    have c8b1 : decide (1 ≤ (t203.size : Int)) = true := decide_eq_true c8
    clear c8
    have H' := Aside0.mk H
    clear H
    go_enter Tryd.func20, Tryd.ntmps20
    go_wp2_with (first | ((with_reducible refine gate_callee (f := 36) rfl ?_); refine goesL_ (some 9) rfl rfl Tryd.func36 (by kernel_rfl) rfl #[.int .i64 a0] rfl (by (try simp only [List.map_toArray, List.map_cons, List.map_nil]); first | done | rfl | (simp only [List.length_drop, List.length_take]; rfl)) ?_; (with_reducible refine (sutlerref01_Check.calls a0 t201 _ A2.out).mono ?_); rintro e w' ⟨rfl, ⟨nd, rfl⟩⟩; refine ⟨_, rfl, ?_⟩) | ((with_reducible refine gate_callee (f := 37) rfl ?_); refine goesL_ (some 15) rfl rfl Tryd.func37 (by kernel_rfl) rfl #[.int .i64 (wrap64 (Int.tdiv a0 1000000))] rfl (by (try simp only [List.map_toArray, List.map_cons, List.map_nil]); first | done | rfl | (simp only [List.length_drop, List.length_take]; rfl)) ?_; (with_reducible refine (sutlerref02_Decimal.calls k (wrap64 (Int.tdiv a0 1000000)) t202 _ A4.out).mono ?_); rintro e w9 ⟨rfl, hb⟩; refine ⟨_, rfl, ?_⟩; have n0_ := Aside0.mk (below_step (by repeat (first | (with_reducible first | exact HB.out | apply below_alloc | apply pw_below_drewN | apply below_drew1) | exact HB.out)) hb); clear HB; have HB := n0_; clear n0_; (try clear hb); (try clear hb2); (try clear hk); (try clear hi)) | ((with_reducible refine gate_callee (f := 37) rfl ?_); refine goesL_ (some 23) rfl rfl Tryd.func37 (by kernel_rfl) rfl #[.int .i64 (wrap64 ((Int.tmod a0 1000000) + 1000000))] rfl (by (try simp only [List.map_toArray, List.map_cons, List.map_nil]); first | done | rfl | (simp only [List.length_drop, List.length_take]; rfl)) ?_; (with_reducible refine (sutlerref02_Decimal.calls k (wrap64 ((Int.tmod a0 1000000) + 1000000)) t203 _ A7.out).mono ?_); rintro e w10 ⟨rfl, hb⟩; refine ⟨_, rfl, ?_⟩; have n0_ := Aside0.mk (below_step (by repeat (first | (with_reducible first | exact HB.out | apply below_alloc | apply pw_below_drewN | apply below_drew1) | exact HB.out)) hb); clear HB; have HB := n0_; clear n0_; (try clear hb); (try clear hb2); (try clear hk); (try clear hi)))
    go_loopg [7] k (fun kq v7 w' => ∃ (x7_1 : ByteArray), v7 = .string x7_1 ∧ Aside0 (sutlerref02_PrintMoney.l0 kq t202 x7_1 = some (r1, r2)) ∧ Aside0 (kq ≤ k) ∧ Aside0 (Below w.heap.size w w'))
    case atStart => exact ⟨(t203.extract 1 t203.size), (by first | rfl | (simp; done) | (simp [*]; done) | (simp [ne_nil_]; done)), H', ⟨Nat.le_refl _⟩, ⟨by repeat (first | (with_reducible first | exact HB.out | apply below_alloc | apply pw_below_drewN | apply below_drew1) | exact HB.out)⟩⟩
    case round =>
     clear H'
     try clear c2
     try clear p2
     try clear c3
     try clear c3b0
     try clear c3b1
     try clear c5
     try clear c5b0
     try clear c5b1
     try clear p6
     try clear c8
     try clear c8b0
     try clear c8b1
     obtain ⟨x7_1, rfl, HA, HK1, HB⟩ := hrel
     cases gk with
     | zero => exact absurd HA.out (by simp [sutlerref02_PrintMoney.l0])
     | succ k1 =>
      have H := HA.out
      clear HA
      simp only [sutlerref02_PrintMoney.l0] at H
      obtain ⟨ji11, hji11⟩ : ∃ j_ : Int, (wrap64 ((x7_1.size : Int) - 1)) = j_ := ⟨_, rfl⟩
      replace H : (if 0 ≤ (ji11) then (if (ji11) < (x7_1.size : Int) then (if (bt x7_1 (ji11)) = 48 then (if (ji11) ≤ (x7_1.size : Int) then (sutlerref02_PrintMoney.l0 k1 t202 (x7_1.extract 0 ((ji11) : Int).toNat)) else (none)) else (if t202.size + 1 ≤ 9223372036854775807 then (if (t202 ++ (⟨#[46]⟩ : ByteArray)).size + x7_1.size ≤ 9223372036854775807 then (some ((t202 ++ (⟨#[46]⟩ : ByteArray)) ++ x7_1, 0)) else (none)) else (none))) else (none)) else (none)) = some (r1, r2) := by first | (rw [hji11] at H; exact H) | (simp only [hji11] at H ⊢; exact H)
      have hji11w : (IntKind.i64.wrap ((x7_1.size : Int) - 1)) = ji11 := (i64_w _).trans hji11
      by_cases c12 : 0 ≤ (ji11)
      ·rw [if_pos c12] at H
       have c12b0 : decide (0 ≤ (ji11)) = true := decide_eq_true c12
       clear c12
       by_cases c13 : (ji11) < (x7_1.size : Int)
       ·rw [if_pos c13] at H
        have c13b0 : decide ((ji11) < (x7_1.size : Int)) = true := decide_eq_true c13
        clear c13
        by_cases c15 : (bt x7_1 (ji11)) = 48
        ·rw [if_pos c15] at H
         have c15b0 : ((bt x7_1 (ji11)) == 48) = true := beq_iff_eq.mpr c15
         have c15b1 : ((bt x7_1 (ji11)) != 48) = false := bne_eq_false_iff_eq.mpr c15
         clear c15
         have c16b0 := eq_true (of_decide_eq_true (by first | (with_reducible assumption) | assumption) : 0 ≤ (ji11))
         by_cases c17 : (ji11) ≤ (x7_1.size : Int)
         ·rw [if_pos c17] at H
          have c17b0 := eq_true c17
          have c17b1 : decide ((ji11) ≤ (x7_1.size : Int)) = true := decide_eq_true c17
          clear c17
          have H' := Aside0.mk H
          clear H
          have p14 : 0 ≤ ((ji11) : Int) := of_decide_eq_true (by first | (with_reducible assumption) | assumption)
          have q14 : (ji11) < (x7_1.size : Int) := of_decide_eq_true (by first | (with_reducible assumption) | assumption)
          have hx14 := bt_at x7_1 (ji11)
          replace p14 := eq_true p14
          replace q14 := eq_true q14
          go_wp2
          go_roundg k1
          case measure => have := HK1.out; omega
          case rel => exact ⟨(x7_1.extract 0 ((ji11) : Int).toNat), (by first | rfl | (simp; done) | (simp only [← hji11] <;> (first | rfl | simp)) | (simp [*]; done) | (simp [ne_nil_]; done)), H', ⟨by have := HK1.out; omega⟩, ⟨by repeat (first | (with_reducible first | exact HB.out | apply below_alloc | apply pw_below_drewN | apply below_drew1) | exact HB.out)⟩⟩
         ·rw [if_neg c17] at H
          exact absurd H (by simp)
        ·rw [if_neg c15] at H
         have c15b0 : ((bt x7_1 (ji11)) == 48) = false := beq_eq_false_iff_ne.mpr c15
         have c15b1 : ((bt x7_1 (ji11)) != 48) = true := bne_iff_ne.mpr c15
         by_cases c18 : t202.size + 1 ≤ 9223372036854775807
         ·rw [if_pos c18] at H
          have c18b0 := eq_true c18
          have c18b1 : decide (t202.size + 1 ≤ 9223372036854775807) = true := decide_eq_true c18
          try have c18b2 : (9223372036854775807 < t202.size + 1) = False := eq_false (Nat.not_lt.2 c18)
          try (have c18s_ := c18; simp only [ByteArray.size_append, ByteArray.size_mk', List.size_toArray, List.length_cons, List.length_nil, Nat.zero_add] at c18s_; have c18b3 := eq_true c18s_; have c18b4 := eq_false (Nat.not_lt.2 c18s_); clear c18s_)
          by_cases c19 : (t202 ++ (⟨#[46]⟩ : ByteArray)).size + x7_1.size ≤ 9223372036854775807
          ·rw [if_pos c19] at H
           have c19b0 := eq_true c19
           have c19b1 : decide ((t202 ++ (⟨#[46]⟩ : ByteArray)).size + x7_1.size ≤ 9223372036854775807) = true := decide_eq_true c19
           try have c19b2 : (9223372036854775807 < (t202 ++ (⟨#[46]⟩ : ByteArray)).size + x7_1.size) = False := eq_false (Nat.not_lt.2 c19)
           try (have c19s_ := c19; simp only [ByteArray.size_append, ByteArray.size_mk', List.size_toArray, List.length_cons, List.length_nil, Nat.zero_add] at c19s_; have c19b3 := eq_true c19s_; have c19b4 := eq_false (Nat.not_lt.2 c19s_); clear c19s_)
           simp only [Option.some.injEq, Prod.mk.injEq] at H
           obtain ⟨rfl, rfl⟩ := H
           have p14 : 0 ≤ ((ji11) : Int) := of_decide_eq_true (by first | (with_reducible assumption) | assumption)
           have q14 : (ji11) < (x7_1.size : Int) := of_decide_eq_true (by first | (with_reducible assumption) | assumption)
           have hx14 := bt_at x7_1 (ji11)
           replace p14 := eq_true p14
           replace q14 := eq_true q14
           go_wp2
           go_ret2
           exact ⟨by first | rfl | (simp [errW_none, errW_some] <;> rfl) | (simp only [← hji11]; first | rfl | (simp [errW_none, errW_some] <;> rfl)) | (simp [*, errW_none, errW_some] <;> rfl), by repeat (first | (with_reducible first | exact HB.out | apply below_alloc | apply pw_below_drewN | apply below_drew1) | exact HB.out)⟩
          ·rw [if_neg c19] at H
           exact absurd H (by simp)
         ·rw [if_neg c18] at H
          exact absurd H (by simp)
       ·rw [if_neg c13] at H
        exact absurd H (by simp)
      ·rw [if_neg c12] at H
       exact absurd H (by simp)
   ·rw [if_neg c8] at H
    exact absurd H (by simp)
 ·rw [if_neg c3] at H
  have c3b0 : (t201 == 0) = false := beq_eq_false_iff_ne.mpr c3
  have c3b1 : (t201 != 0) = true := bne_iff_ne.mpr c3
  simp only [Option.some.injEq, Prod.mk.injEq] at H
  obtain ⟨rfl, rfl⟩ := H
  go_enter Tryd.func20, Tryd.ntmps20
  go_wp2_with (first | ((with_reducible refine gate_callee (f := 36) rfl ?_); refine goesL_ (some 9) rfl rfl Tryd.func36 (by kernel_rfl) rfl #[.int .i64 a0] rfl (by (try simp only [List.map_toArray, List.map_cons, List.map_nil]); first | done | rfl | (simp only [List.length_drop, List.length_take]; rfl)) ?_; (with_reducible refine (sutlerref01_Check.calls a0 t201 _ A2.out).mono ?_); rintro e w' ⟨rfl, ⟨nd, rfl⟩⟩; refine ⟨_, rfl, ?_⟩))
  go_ret2
  exact ⟨by first | rfl | (simp [errW_none, errW_some] <;> rfl) | (simp [*, errW_none, errW_some] <;> rfl), by repeat (first | (with_reducible first | exact HB.out | apply below_alloc | apply pw_below_drewN | apply below_drew1) | exact HB.out)⟩

end Go.Proofs.YtafncdmclhdkdaaDoor.PAll
