-- written by a program of this session (the kit's print, turned): plain functions and their contracts
-- shrunk
import Derived.Test.YtafncdmclhdkdaaDoorPAllx0
import Derived.Test.YtafncdmclhdkdaaDoorPAllx5
import Derived.Test.YtafncdmclhdkdaaDoorETimes
namespace Go.Proofs.YtafncdmclhdkdaaDoor.PAll
open Go.RowKit Go.Proofs.YtafncdmclhdkdaaDoorW.PrintWords Go.Proofs.YtafncdmclhdkdaaDoorW.PrintLast Go.Proofs.YtafncdmclhdkdaaDoorW.PrintMore
attribute [local go_sem] max2_int min2_int max_two min_two max_three min_three max_four min_four   -- for this text's walks alone
set_option linter.unusedVariables false
set_option linter.unusedSimpArgs false
theorem ex_size_ (a : ByteArray) (i : Nat) : (a.extract i a.size).size = a.size - i := by simp [ByteArray.size_extract]

/-! ### sutlerref02_ParseMoney: function 15 -/
mutual
def sutlerref02_ParseMoney.j1 : Nat → ByteArray → Int → Option (Int × Int)
 | 0, _, _ => none
 | k + 1, x0, x4 => if 0 ≤ x4 then (if x4 ≤ (x0.size : Int) then ((sutlerref02_Digits.f k (x0.extract 0 (x4 : Int).toNat)).bind fun bt170 => (if x4 < (x0.size : Int) then (if 0 ≤ (wrap64 (x4 + 1)) then (if (wrap64 (x4 + 1)) ≤ (x0.size : Int) then (if ((x0.extract ((wrap64 (x4 + 1)) : Int).toNat x0.size).size : Int) < 1 then (some (0, 20)) else (if ((x0.extract ((wrap64 (x4 + 1)) : Int).toNat x0.size).size : Int) > 6 then (some (0, 20)) else (sutlerref02_ParseMoney.j2 k bt170.1 bt170.2 (x0.extract ((wrap64 (x4 + 1)) : Int).toNat x0.size)))) else (none)) else (none)) else (sutlerref02_ParseMoney.j2 k bt170.1 bt170.2 (⟨#[]⟩ : ByteArray)))) else (none)) else (none)
def sutlerref02_ParseMoney.j2 : Nat → Int → Bool → ByteArray → Option (Int × Int)
 | 0, _, _, _ => none
 | k + 1, x6, x7, x8 => if x7 = true then (sutlerref02_ParseMoney.l1 k x6 x8 0 0) else (some (0, 20))
def sutlerref02_ParseMoney.l1 : Nat → Int → ByteArray → Int → Int → Option (Int × Int)
 | 0, _, _, _, _ => none
 | k + 1, x6, x8, x9, x10 => if x10 < 6 then (if x10 < (x8.size : Int) then (if 0 ≤ x10 then (if (bt x8 x10) < 48 then (some (0, 20)) else (if (bt x8 x10) > 57 then (some (0, 20)) else (sutlerref02_ParseMoney.l1 k x6 x8 (wrap64 ((wrap64 (x9 * 10)) + (((bt x8 x10) - 48) % 256))) (wrap64 (x10 + 1))))) else (none)) else (sutlerref02_ParseMoney.l1 k x6 x8 (wrap64 (x9 * 10)) (wrap64 (x10 + 1)))) else ((sutlerref02_times.f x6 1000000).bind fun bt172 => (if bt172.2 = 0 then (if bt172.1 > (wrap64 (1125899906842624 - x9)) then (some (0, 10)) else (some (wrap64 (bt172.1 + x9), 0))) else (some (0, 10))))
def sutlerref02_ParseMoney.l0 : Nat → ByteArray → Int → Int → Option (Int × Int)
 | 0, _, _, _ => none
 | k + 1, x0, x4, x5 => if x5 < (x0.size : Int) then (if 0 ≤ x5 then (if (bt x0 x5) = 46 then (sutlerref02_ParseMoney.j1 k x0 x5) else (sutlerref02_ParseMoney.l0 k x0 x4 (wrap64 (x5 + 1)))) else (none)) else (sutlerref02_ParseMoney.j1 k x0 x4)
end
def sutlerref02_ParseMoney.f (k : Nat) (a0 : ByteArray) : Option (Int × Int) := sutlerref02_ParseMoney.l0 k a0 (a0.size : Int) 0
theorem sutlerref02_ParseMoney.mono_l : ∀ k, (∀ y0 y1, LeO (sutlerref02_ParseMoney.j1 k y0 y1) (sutlerref02_ParseMoney.j1 (k + 1) y0 y1)) ∧ (∀ y0 y1 y2, LeO (sutlerref02_ParseMoney.j2 k y0 y1 y2) (sutlerref02_ParseMoney.j2 (k + 1) y0 y1 y2)) ∧ (∀ y0 y1 y2 y3, LeO (sutlerref02_ParseMoney.l1 k y0 y1 y2 y3) (sutlerref02_ParseMoney.l1 (k + 1) y0 y1 y2 y3)) ∧ (∀ y0 y1 y2, LeO (sutlerref02_ParseMoney.l0 k y0 y1 y2) (sutlerref02_ParseMoney.l0 (k + 1) y0 y1 y2))
 | 0 => ⟨fun _ _ r h => by simp [sutlerref02_ParseMoney.j1] at h, fun _ _ _ r h => by simp [sutlerref02_ParseMoney.j2] at h, fun _ _ _ _ r h => by simp [sutlerref02_ParseMoney.l1] at h, fun _ _ _ r h => by simp [sutlerref02_ParseMoney.l0] at h⟩
 | k + 1 => by
  obtain ⟨ih0, ih1, ih2, ih3⟩ := sutlerref02_ParseMoney.mono_l k
  refine ⟨?_, ?_, ?_, ?_⟩
  ·intro y0 y1
   unfold sutlerref02_ParseMoney.j1
   repeat' first
   | (with_reducible exact ih0 _ _)
   | (with_reducible exact ih1 _ _ _)
   | (with_reducible exact ih2 _ _ _ _)
   | (with_reducible exact ih3 _ _ _)
   | (with_reducible exact sutlerref02_Digits.mono _ _)
   | (with_reducible exact LeO.refl _)
   | (with_reducible exact LeO.none _)
   | (with_reducible refine LeO.ite ?_ ?_)
   | (with_reducible refine LeO.bind ?_ (fun _ => ?_))
   | exact ih0 _ _
   | exact ih1 _ _ _
   | exact ih2 _ _ _ _
   | exact ih3 _ _ _
   | exact sutlerref02_Digits.mono _ _
   | exact LeO.none _
   | refine LeO.ite ?_ ?_
   | refine LeO.bind ?_ (fun _ => ?_)
  ·intro y0 y1 y2
   unfold sutlerref02_ParseMoney.j2
   repeat' first
   | (with_reducible exact ih0 _ _)
   | (with_reducible exact ih1 _ _ _)
   | (with_reducible exact ih2 _ _ _ _)
   | (with_reducible exact ih3 _ _ _)
   | (with_reducible exact sutlerref02_Digits.mono _ _)
   | (with_reducible exact LeO.refl _)
   | (with_reducible exact LeO.none _)
   | (with_reducible refine LeO.ite ?_ ?_)
   | (with_reducible refine LeO.bind ?_ (fun _ => ?_))
   | exact ih0 _ _
   | exact ih1 _ _ _
   | exact ih2 _ _ _ _
   | exact ih3 _ _ _
   | exact sutlerref02_Digits.mono _ _
   | exact LeO.none _
   | refine LeO.ite ?_ ?_
   | refine LeO.bind ?_ (fun _ => ?_)
  ·intro y0 y1 y2 y3
   unfold sutlerref02_ParseMoney.l1
   repeat' first
   | (with_reducible exact ih0 _ _)
   | (with_reducible exact ih1 _ _ _)
   | (with_reducible exact ih2 _ _ _ _)
   | (with_reducible exact ih3 _ _ _)
   | (with_reducible exact sutlerref02_Digits.mono _ _)
   | (with_reducible exact LeO.refl _)
   | (with_reducible exact LeO.none _)
   | (with_reducible refine LeO.ite ?_ ?_)
   | (with_reducible refine LeO.bind ?_ (fun _ => ?_))
   | exact ih0 _ _
   | exact ih1 _ _ _
   | exact ih2 _ _ _ _
   | exact ih3 _ _ _
   | exact sutlerref02_Digits.mono _ _
   | exact LeO.none _
   | refine LeO.ite ?_ ?_
   | refine LeO.bind ?_ (fun _ => ?_)
  ·intro y0 y1 y2
   unfold sutlerref02_ParseMoney.l0
   repeat' first
   | (with_reducible exact ih0 _ _)
   | (with_reducible exact ih1 _ _ _)
   | (with_reducible exact ih2 _ _ _ _)
   | (with_reducible exact ih3 _ _ _)
   | (with_reducible exact sutlerref02_Digits.mono _ _)
   | (with_reducible exact LeO.refl _)
   | (with_reducible exact LeO.none _)
   | (with_reducible refine LeO.ite ?_ ?_)
   | (with_reducible refine LeO.bind ?_ (fun _ => ?_))
   | exact ih0 _ _
   | exact ih1 _ _ _
   | exact ih2 _ _ _ _
   | exact ih3 _ _ _
   | exact sutlerref02_Digits.mono _ _
   | exact LeO.none _
   | refine LeO.ite ?_ ?_
   | refine LeO.bind ?_ (fun _ => ?_)
theorem sutlerref02_ParseMoney.mono : ∀ a0 k, LeO (sutlerref02_ParseMoney.f k a0) (sutlerref02_ParseMoney.f (k + 1) a0) := by
 intro a0 k
 obtain ⟨ih0, ih1, ih2, ih3⟩ := sutlerref02_ParseMoney.mono_l k
 unfold sutlerref02_ParseMoney.f
 repeat' first
   | (with_reducible exact ih0 _ _)
   | (with_reducible exact ih1 _ _ _)
   | (with_reducible exact ih2 _ _ _ _)
   | (with_reducible exact ih3 _ _ _)
   | (with_reducible exact sutlerref02_Digits.mono _ _)
   | (with_reducible exact LeO.refl _)
   | (with_reducible exact LeO.none _)
   | (with_reducible refine LeO.ite ?_ ?_)
   | (with_reducible refine LeO.bind ?_ (fun _ => ?_))
   | exact ih0 _ _
   | exact ih1 _ _ _
   | exact ih2 _ _ _ _
   | exact ih3 _ _ _
   | exact sutlerref02_Digits.mono _ _
   | exact LeO.none _
   | refine LeO.ite ?_ ?_
   | refine LeO.bind ?_ (fun _ => ?_)
set_option maxHeartbeats 8000000 in
set_option maxRecDepth 100000 in
theorem sutlerref02_ParseMoney.calls (k : Nat) (a0 : ByteArray) (r1 : Int) (r2 : Int) (w : World) (h : sutlerref02_ParseMoney.f k a0 = some (r1, r2)) :
  Calls Tryd.prog 15 #[.string a0] w fun e w' => e = .returned (.tuple #[.int .i64 r1, .int .i64 r2]) ∧ Drawn0 w w' := by
 have H : (sutlerref02_ParseMoney.l0 k a0 (a0.size : Int) 0) = some (r1, r2) := h
 clear h
 have HC2 := Aside0.mk H
 clear H
 go_enter Tryd.func15, Tryd.ntmps15
 go_upto_block 0 with (fail)
 go_cut [4] (fun v4 wc => ∃ (kq : Nat) (x4_1 : Int), v4 = .int .i64 x4_1 ∧ Aside0 (sutlerref02_ParseMoney.j1 kq a0 x4_1 = some (r1, r2)) ∧ Aside0 (kq ≤ k) ∧ Drawn0 w wc)
 case first =>
  have H := HC2.out
  clear HC2
  have H' := Aside0.mk H
  clear H
  go_wp2
  go_loopg [4, 5] k (fun kq v4 v5 w' => ∃ (x4_1 : Int) (x5_1 : Int), v4 = .int .i64 x4_1 ∧ v5 = .int .i64 x5_1 ∧ Aside0 (sutlerref02_ParseMoney.l0 kq a0 x4_1 x5_1 = some (r1, r2)) ∧ Aside0 (kq ≤ k) ∧ Drawn0 w w')
  case atStart => exact ⟨((a0.size : Int)), (0), (by first | rfl | (simp; done) | (simp [*]; done) | (simp [ne_nil_]; done)), (by first | rfl | (simp; done) | (simp [*]; done) | (simp [ne_nil_]; done)), H', ⟨Nat.le_refl _⟩, by repeat (first | exact Drawn0.refl _ | apply Drawn0.step)⟩
  case round =>
   clear H'
   try clear c1
   try clear p2
   obtain ⟨x4_1, x5_1, rfl, rfl, HA, HK1, ⟨m1, rfl⟩⟩ := hrel
   cases gk with
   | zero => exact absurd HA.out (by simp [sutlerref02_ParseMoney.l0])
   | succ k1 =>
    have H := HA.out
    clear HA
    simp only [sutlerref02_ParseMoney.l0] at H
    by_cases c3 : x5_1 < (a0.size : Int)
    ·rw [if_pos c3] at H
     have c3b0 : decide (x5_1 < (a0.size : Int)) = true := decide_eq_true c3
     clear c3
     (first | rw [c3b0] | (simp only [i64_w, i32_w]; rw [c3b0]) | skip)
     by_cases c4 : 0 ≤ x5_1
     ·rw [if_pos c4] at H
      have c4b0 : decide (0 ≤ x5_1) = true := decide_eq_true c4
      clear c4
      by_cases c6 : (bt a0 x5_1) = 46
      ·rw [if_pos c6] at H
       have c6b0 : ((bt a0 x5_1) == 46) = true := beq_iff_eq.mpr c6
       have c6b1 : ((bt a0 x5_1) != 46) = false := bne_eq_false_iff_eq.mpr c6
       clear c6
       have H' := Aside0.mk H
       clear H
       have p5 : 0 ≤ (x5_1 : Int) := of_decide_eq_true (by first | (with_reducible assumption) | assumption)
       have q5 : x5_1 < (a0.size : Int) := of_decide_eq_true (by first | (with_reducible assumption) | assumption)
       have hx5 := bt_at a0 x5_1
       replace p5 := eq_true p5
       replace q5 := eq_true q5
       go_wp2
       go_meet
       case rel => exact ⟨_, (x5_1), (by first | rfl | (simp; done) | (simp [*]; done) | (simp [ne_nil_]; done)), H', ⟨by have := HK1.out; first | omega | exact Nat.le_refl _⟩, by repeat (first | exact Drawn0.refl _ | apply Drawn0.step)⟩
      ·rw [if_neg c6] at H
       have c6b0 : ((bt a0 x5_1) == 46) = false := beq_eq_false_iff_ne.mpr c6
       have c6b1 : ((bt a0 x5_1) != 46) = true := bne_iff_ne.mpr c6
       have H' := Aside0.mk H
       clear H
       have p5 : 0 ≤ (x5_1 : Int) := of_decide_eq_true (by first | (with_reducible assumption) | assumption)
       have q5 : x5_1 < (a0.size : Int) := of_decide_eq_true (by first | (with_reducible assumption) | assumption)
       have hx5 := bt_at a0 x5_1
       replace p5 := eq_true p5
       replace q5 := eq_true q5
       go_wp2
       go_roundg k1
       case measure => have := HK1.out; omega
       case rel => exact ⟨(x4_1), (wrap64 (x5_1 + 1)), (by first | rfl | (simp; done) | (simp [*]; done) | (simp [ne_nil_]; done)), (by first | rfl | (simp; done) | (simp [*]; done) | (simp [ne_nil_]; done)), H', ⟨by have := HK1.out; omega⟩, by repeat (first | exact Drawn0.refl _ | apply Drawn0.step)⟩
     ·rw [if_neg c4] at H
      exact absurd H (by simp)
    ·rw [if_neg c3] at H
     have c3b0 : decide (x5_1 < (a0.size : Int)) = false := decide_eq_false c3
     clear c3
     (first | rw [c3b0] | (simp only [i64_w, i32_w]; rw [c3b0]) | skip)
     have H' := Aside0.mk H
     clear H
     go_wp2
     go_meet
     case rel => exact ⟨_, (x4_1), (by first | rfl | (simp; done) | (simp [*]; done) | (simp [ne_nil_]; done)), H', ⟨by have := HK1.out; first | omega | exact Nat.le_refl _⟩, by repeat (first | exact Drawn0.refl _ | apply Drawn0.step)⟩
 case rest =>
  clear HC2
  try clear c1
  try clear p2
  try clear c3
  try clear c3b0
  try clear c4
  try clear c4b0
  try clear p5
  try clear q5
  try clear hx5
  try clear c6
  try clear c6b0
  try clear c6b1
  try clear p6
  try clear p2
  try clear p5
  try clear q5
  obtain ⟨kq, x4_1, rfl, HA, HJ1, ⟨mc1, rfl⟩⟩ := hcut
  cases kq with
  | zero => exact absurd HA.out (by simp [sutlerref02_ParseMoney.j1])
  | succ kj1 =>
   have H := HA.out
   clear HA
   simp only [sutlerref02_ParseMoney.j1] at H
   by_cases c7 : 0 ≤ x4_1
   ·rw [if_pos c7] at H
    have c7b0 := eq_true c7
    have c7b1 : decide (0 ≤ x4_1) = true := decide_eq_true c7
    clear c7
    by_cases c8 : x4_1 ≤ (a0.size : Int)
    ·rw [if_pos c8] at H
     have c8b0 := eq_true c8
     have c8b1 : decide (x4_1 ≤ (a0.size : Int)) = true := decide_eq_true c8
     clear c8
     replace H := Option.bind_eq_some_iff.mp H
     obtain ⟨⟨t170, t171⟩, A90, H⟩ := H
     replace H : (if x4_1 < (a0.size : Int) then (if 0 ≤ (wrap64 (x4_1 + 1)) then (if (wrap64 (x4_1 + 1)) ≤ (a0.size : Int) then (if ((a0.extract ((wrap64 (x4_1 + 1)) : Int).toNat a0.size).size : Int) < 1 then (some (0, 20)) else (if ((a0.extract ((wrap64 (x4_1 + 1)) : Int).toNat a0.size).size : Int) > 6 then (some (0, 20)) else (sutlerref02_ParseMoney.j2 kj1 t170 t171 (a0.extract ((wrap64 (x4_1 + 1)) : Int).toNat a0.size)))) else (none)) else (none)) else (sutlerref02_ParseMoney.j2 kj1 t170 t171 (⟨#[]⟩ : ByteArray))) = some (r1, r2) := H
     have A9 := Aside0.mk A90
     clear A90
     have HC10 := Aside0.mk H
     clear H
     go_upto_if 36 with (first | ((with_reducible refine gate_callee (f := 32) rfl ?_); refine goesL_ (some 30) rfl rfl Tryd.func32 (by kernel_rfl) rfl #[.string (a0.extract 0 (x4_1 : Int).toNat)] rfl (by (try simp only [List.map_toArray, List.map_cons, List.map_nil]); first | done | rfl | (simp only [List.length_drop, List.length_take]; rfl)) ?_; (with_reducible refine (sutlerref02_Digits.calls kj1 (a0.extract 0 (x4_1 : Int).toNat) t170 t171 _ A9.out).mono ?_); rintro e w' ⟨rfl, ⟨nd, rfl⟩⟩; refine ⟨_, rfl, ?_⟩))
     (try simp only [Act.put, List.setIfInBounds_toArray, List.set_cons_zero, List.set_cons_succ])
     go_cut [8] (fun v8 wc => ∃ (kq : Nat) (x8_9 : ByteArray), v8 = .string x8_9 ∧ Aside0 (sutlerref02_ParseMoney.j2 kq t170 t171 x8_9 = some (r1, r2)) ∧ Aside0 (kq ≤ kj1) ∧ Drawn0 w wc)
     case first =>
      have H := HC10.out
      clear HC10
      by_cases c11 : x4_1 < (a0.size : Int)
      ·rw [if_pos c11] at H
       have c11b0 : decide (x4_1 < (a0.size : Int)) = true := decide_eq_true c11
       clear c11
       (first | rw [c11b0] | (simp only [i64_w, i32_w]; rw [c11b0]) | skip)
       obtain ⟨ji12, hji12⟩ : ∃ j_ : Int, (wrap64 (x4_1 + 1)) = j_ := ⟨_, rfl⟩
       replace H : (if 0 ≤ (ji12) then (if (ji12) ≤ (a0.size : Int) then (if ((a0.extract ((ji12) : Int).toNat a0.size).size : Int) < 1 then (some (0, 20)) else (if ((a0.extract ((ji12) : Int).toNat a0.size).size : Int) > 6 then (some (0, 20)) else (sutlerref02_ParseMoney.j2 kj1 t170 t171 (a0.extract ((ji12) : Int).toNat a0.size)))) else (none)) else (none)) = some (r1, r2) := by first | (rw [hji12] at H; exact H) | (simp only [hji12] at H ⊢; exact H)
       have hji12w : (IntKind.i64.wrap (x4_1 + 1)) = ji12 := (i64_w _).trans hji12
       by_cases c13 : 0 ≤ (ji12)
       ·rw [if_pos c13] at H
        have c13b0 := eq_true c13
        have c13b1 : decide (0 ≤ (ji12)) = true := decide_eq_true c13
        clear c13
        by_cases c14 : (ji12) ≤ (a0.size : Int)
        ·rw [if_pos c14] at H
         have c14b0 := eq_true c14
         have c14b1 : decide ((ji12) ≤ (a0.size : Int)) = true := decide_eq_true c14
         clear c14
         by_cases c15 : ((a0.extract ((ji12) : Int).toNat a0.size).size : Int) < 1
         ·rw [if_pos c15] at H
          have c15b0 : decide (((a0.extract ((ji12) : Int).toNat a0.size).size : Int) < 1) = true := decide_eq_true c15
          have c15b1 : decide ((a0.extract ((ji12) : Int).toNat a0.size).size < 1) = true := decide_eq_true (by omega)
          have c15x := c15
          rw [ex_size_] at c15x
          have c15b8 := eq_true c15x
          have c15b9 := decide_eq_true c15x
          clear c15x
          clear c15
          simp only [Option.some.injEq, Prod.mk.injEq] at H
          obtain ⟨rfl, rfl⟩ := H
          go_wp2
          go_ret2
          exact ⟨by first | rfl | (simp; done) | (simp only [← hji12] <;> (first | rfl | simp)) | (simp [*]; done) | (simp [ne_nil_]; done), by repeat (first | exact Drawn0.refl _ | apply Drawn0.step)⟩
         ·rw [if_neg c15] at H
          have c15b0 : decide (((a0.extract ((ji12) : Int).toNat a0.size).size : Int) < 1) = false := decide_eq_false c15
          have c15b1 : decide ((a0.extract ((ji12) : Int).toNat a0.size).size < 1) = false := decide_eq_false (by omega)
          have c15x := c15
          rw [ex_size_] at c15x
          have c15b8 := eq_false c15x
          have c15b9 := decide_eq_false c15x
          clear c15x
          clear c15
          by_cases c16 : ((a0.extract ((ji12) : Int).toNat a0.size).size : Int) > 6
          ·rw [if_pos c16] at H
           have c16b0 : decide (6 < ((a0.extract ((ji12) : Int).toNat a0.size).size : Int)) = true := decide_eq_true c16
           have c16b1 : decide (6 < (a0.extract ((ji12) : Int).toNat a0.size).size) = true := decide_eq_true (by omega)
           have c16x := c16
           rw [ex_size_] at c16x
           have c16b8 := eq_true c16x
           have c16b9 := decide_eq_true c16x
           clear c16x
           clear c16
           simp only [Option.some.injEq, Prod.mk.injEq] at H
           obtain ⟨rfl, rfl⟩ := H
           go_wp2
           go_ret2
           exact ⟨by first | rfl | (simp; done) | (simp only [← hji12] <;> (first | rfl | simp)) | (simp [*]; done) | (simp [ne_nil_]; done), by repeat (first | exact Drawn0.refl _ | apply Drawn0.step)⟩
          ·rw [if_neg c16] at H
           have c16b0 : decide (6 < ((a0.extract ((ji12) : Int).toNat a0.size).size : Int)) = false := decide_eq_false c16
           have c16b1 : decide (6 < (a0.extract ((ji12) : Int).toNat a0.size).size) = false := decide_eq_false (by omega)
           have c16x := c16
           rw [ex_size_] at c16x
           have c16b8 := eq_false c16x
           have c16b9 := decide_eq_false c16x
           clear c16x
           clear c16
           have H' := Aside0.mk H
           clear H
           go_wp2
           go_meet
           case rel => exact ⟨_, (a0.extract ((ji12) : Int).toNat a0.size), (by first | rfl | (simp; done) | (simp only [← hji12] <;> (first | rfl | simp)) | (simp [*]; done) | (simp [ne_nil_]; done)), H', ⟨by have := HJ1.out; first | omega | exact Nat.le_refl _⟩, by repeat (first | exact Drawn0.refl _ | apply Drawn0.step)⟩
        ·rw [if_neg c14] at H
         exact absurd H (by simp)
       ·rw [if_neg c13] at H
        exact absurd H (by simp)
      ·rw [if_neg c11] at H
       have c11b0 : decide (x4_1 < (a0.size : Int)) = false := decide_eq_false c11
       clear c11
       (first | rw [c11b0] | (simp only [i64_w, i32_w]; rw [c11b0]) | skip)
       have H' := Aside0.mk H
       clear H
       go_wp2
       go_meet
       case rel => exact ⟨_, ((⟨#[]⟩ : ByteArray)), (by first | rfl | (simp; done) | (simp [*]; done) | (simp [ne_nil_]; done)), H', ⟨by have := HJ1.out; first | omega | exact Nat.le_refl _⟩, by repeat (first | exact Drawn0.refl _ | apply Drawn0.step)⟩
     case rest =>
      clear HC10
      try clear c1
      try clear p2
      try clear c3
      try clear c3b0
      try clear c4
      try clear c4b0
      try clear p5
      try clear q5
      try clear hx5
      try clear c6
      try clear c6b0
      try clear c6b1
      try clear p6
      try clear c7
      try clear c7b0
      try clear c7b1
      try clear c8
      try clear c8b0
      try clear c8b1
      try clear c11
      try clear c11b0
      try clear c13
      try clear c13b0
      try clear c13b1
      try clear c14
      try clear c14b0
      try clear c14b1
      try clear c15
      try clear c15b0
      try clear c15b1
      try clear c16
      try clear c16b0
      try clear c16b1
      try clear p2
      try clear p5
      try clear p6
      try clear q5
      obtain ⟨kq, x8_9, rfl, HA, HJ9, ⟨mc9, rfl⟩⟩ := hcut
      cases kq with
      | zero => exact absurd HA.out (by simp [sutlerref02_ParseMoney.j2])
      | succ kj9 =>
       have H := HA.out
       clear HA
       simp only [sutlerref02_ParseMoney.j2] at H
       by_cases c17 : t171 = true
       ·subst c17
        have H1 : (sutlerref02_ParseMoney.l1 kj9 t170 x8_9 0 0) = some (r1, r2) := by rw [if_pos rfl] at H; exact H
        clear H
        have H := H1
        clear H1
        have H' := Aside0.mk H
        clear H
        go_wp2
        go_loopg [9, 10] kj9 (fun kq v9 v10 w' => ∃ (x9_3 : Int) (x10_3 : Int), v9 = .int .i64 x9_3 ∧ v10 = .int .i64 x10_3 ∧ Aside0 (sutlerref02_ParseMoney.l1 kq t170 x8_9 x9_3 x10_3 = some (r1, r2)) ∧ Aside0 (kq ≤ kj9) ∧ Drawn0 w w')
        case atStart => exact ⟨(0), (0), (by first | rfl | (simp; done) | (simp [*]; done) | (simp [ne_nil_]; done)), (by first | rfl | (simp; done) | (simp [*]; done) | (simp [ne_nil_]; done)), H', ⟨Nat.le_refl _⟩, by repeat (first | exact Drawn0.refl _ | apply Drawn0.step)⟩
        case round =>
         clear H'
         try clear c1
         try clear p2
         try clear c3
         try clear c3b0
         try clear c4
         try clear c4b0
         try clear p5
         try clear q5
         try clear hx5
         try clear c6
         try clear c6b0
         try clear c6b1
         try clear p6
         try clear c7
         try clear c7b0
         try clear c7b1
         try clear c8
         try clear c8b0
         try clear c8b1
         try clear c9
         try clear c11
         try clear c11b0
         try clear c13
         try clear c13b0
         try clear c13b1
         try clear c14
         try clear c14b0
         try clear c14b1
         try clear c15
         try clear c15b0
         try clear c15b1
         try clear c16
         try clear c16b0
         try clear c16b1
         try clear c17
         try clear p2
         try clear p5
         try clear p6
         try clear q5
         obtain ⟨x9_3, x10_3, rfl, rfl, HA, HK3, ⟨m3, rfl⟩⟩ := hrel
         cases gk with
         | zero => exact absurd HA.out (by simp [sutlerref02_ParseMoney.l1])
         | succ k3 =>
          have H := HA.out
          clear HA
          simp only [sutlerref02_ParseMoney.l1] at H
          by_cases c18 : x10_3 < 6
          ·rw [if_pos c18] at H
           have c18b0 : decide (x10_3 < 6) = true := decide_eq_true c18
           clear c18
           by_cases c19 : x10_3 < (x8_9.size : Int)
           ·rw [if_pos c19] at H
            have c19b0 : decide (x10_3 < (x8_9.size : Int)) = true := decide_eq_true c19
            clear c19
            by_cases c20 : 0 ≤ x10_3
            ·rw [if_pos c20] at H
             have c20b0 : decide (0 ≤ x10_3) = true := decide_eq_true c20
             clear c20
             by_cases c22 : (bt x8_9 x10_3) < 48
             ·rw [if_pos c22] at H
              have c22b0 : decide ((bt x8_9 x10_3) < 48) = true := decide_eq_true c22
              clear c22
              simp only [Option.some.injEq, Prod.mk.injEq] at H
              obtain ⟨rfl, rfl⟩ := H
              have p21 : 0 ≤ (x10_3 : Int) := of_decide_eq_true (by first | (with_reducible assumption) | assumption)
              have q21 : x10_3 < (x8_9.size : Int) := of_decide_eq_true (by first | (with_reducible assumption) | assumption)
              have hx21 := bt_at x8_9 x10_3
              replace p21 := eq_true p21
              replace q21 := eq_true q21
              go_wp2
              go_ret2
              exact ⟨by first | rfl | (simp; done) | (simp [*]; done) | (simp [ne_nil_]; done), by repeat (first | exact Drawn0.refl _ | apply Drawn0.step)⟩
             ·rw [if_neg c22] at H
              have c22b0 : decide ((bt x8_9 x10_3) < 48) = false := decide_eq_false c22
              clear c22
              by_cases c24 : (bt x8_9 x10_3) > 57
              ·rw [if_pos c24] at H
               have c24b0 : decide (57 < (bt x8_9 x10_3)) = true := decide_eq_true c24
               clear c24
               simp only [Option.some.injEq, Prod.mk.injEq] at H
               obtain ⟨rfl, rfl⟩ := H
               have p21 : 0 ≤ (x10_3 : Int) := of_decide_eq_true (by first | (with_reducible assumption) | assumption)
               have q21 : x10_3 < (x8_9.size : Int) := of_decide_eq_true (by first | (with_reducible assumption) | assumption)
               have hx21 := bt_at x8_9 x10_3
               replace p21 := eq_true p21
               replace q21 := eq_true q21
               have p23 : 0 ≤ (x10_3 : Int) := of_decide_eq_true (by first | (with_reducible assumption) | assumption)
               have q23 : x10_3 < (x8_9.size : Int) := of_decide_eq_true (by first | (with_reducible assumption) | assumption)
               have hx23 := bt_at x8_9 x10_3
               replace p23 := eq_true p23
               replace q23 := eq_true q23
               go_wp2
               go_ret2
               exact ⟨by first | rfl | (simp; done) | (simp [*]; done) | (simp [ne_nil_]; done), by repeat (first | exact Drawn0.refl _ | apply Drawn0.step)⟩
              ·rw [if_neg c24] at H
               have c24b0 : decide (57 < (bt x8_9 x10_3)) = false := decide_eq_false c24
               clear c24
               have H' := Aside0.mk H
               clear H
               have p21 : 0 ≤ (x10_3 : Int) := of_decide_eq_true (by first | (with_reducible assumption) | assumption)
               have q21 : x10_3 < (x8_9.size : Int) := of_decide_eq_true (by first | (with_reducible assumption) | assumption)
               have hx21 := bt_at x8_9 x10_3
               replace p21 := eq_true p21
               replace q21 := eq_true q21
               have p23 : 0 ≤ (x10_3 : Int) := of_decide_eq_true (by first | (with_reducible assumption) | assumption)
               have q23 : x10_3 < (x8_9.size : Int) := of_decide_eq_true (by first | (with_reducible assumption) | assumption)
               have hx23 := bt_at x8_9 x10_3
               replace p23 := eq_true p23
               replace q23 := eq_true q23
               have p25 : 0 ≤ (x10_3 : Int) := of_decide_eq_true (by first | (with_reducible assumption) | assumption)
               have q25 : x10_3 < (x8_9.size : Int) := of_decide_eq_true (by first | (with_reducible assumption) | assumption)
               have hx25 := bt_at x8_9 x10_3
               replace p25 := eq_true p25
               replace q25 := eq_true q25
               go_wp2
               go_roundg k3
               case measure => have := HJ1.out; have := HJ9.out; have := HK3.out; omega
               case rel => exact ⟨(wrap64 ((wrap64 (x9_3 * 10)) + (((bt x8_9 x10_3) - 48) % 256))), (wrap64 (x10_3 + 1)), (by first | rfl | (simp; done) | (simp [*]; done) | (simp [ne_nil_]; done)), (by first | rfl | (simp; done) | (simp [*]; done) | (simp [ne_nil_]; done)), H', ⟨by have := HJ1.out; have := HJ9.out; have := HK3.out; omega⟩, by repeat (first | exact Drawn0.refl _ | apply Drawn0.step)⟩
            ·rw [if_neg c20] at H
             exact absurd H (by simp)
           ·rw [if_neg c19] at H
            have c19b0 : decide (x10_3 < (x8_9.size : Int)) = false := decide_eq_false c19
            clear c19
            have H' := Aside0.mk H
            clear H
            go_wp2
            go_roundg k3
            case measure => have := HJ1.out; have := HJ9.out; have := HK3.out; omega
            case rel => exact ⟨(wrap64 (x9_3 * 10)), (wrap64 (x10_3 + 1)), (by first | rfl | (simp; done) | (simp [*]; done) | (simp [ne_nil_]; done)), (by first | rfl | (simp; done) | (simp [*]; done) | (simp [ne_nil_]; done)), H', ⟨by have := HJ1.out; have := HJ9.out; have := HK3.out; omega⟩, by repeat (first | exact Drawn0.refl _ | apply Drawn0.step)⟩
          ·rw [if_neg c18] at H
           have c18b0 : decide (x10_3 < 6) = false := decide_eq_false c18
           clear c18
           replace H := Option.bind_eq_some_iff.mp H
           obtain ⟨⟨t172, t173⟩, A260, H⟩ := H
           replace H : (if t173 = 0 then (if t172 > (wrap64 (1125899906842624 - x9_3)) then (some (0, 10)) else (some (wrap64 (t172 + x9_3), 0))) else (some (0, 10))) = some (r1, r2) := H
           have A26 := Aside0.mk A260
           clear A260
           by_cases c27 : t173 = 0
           ·rw [if_pos c27] at H
            have c27b0 : (t173 == 0) = true := beq_iff_eq.mpr c27
            have c27b1 : (t173 != 0) = false := bne_eq_false_iff_eq.mpr c27
            clear c27
            by_cases c28 : t172 > (wrap64 (1125899906842624 - x9_3))
            ·rw [if_pos c28] at H
             have c28b0 : decide ((wrap64 (1125899906842624 - x9_3)) < t172) = true := decide_eq_true c28
             clear c28
             simp only [Option.some.injEq, Prod.mk.injEq] at H
             obtain ⟨rfl, rfl⟩ := H
             go_wp2_with (first | ((with_reducible refine gate_callee (f := 33) rfl ?_); refine goesL_ (some 80) rfl rfl Tryd.func33 (by kernel_rfl) rfl #[.int .i64 t170, .int .i64 1000000] rfl (by (try simp only [List.map_toArray, List.map_cons, List.map_nil]); first | done | rfl | (simp only [List.length_drop, List.length_take]; rfl)) ?_; (with_reducible refine (sutlerref02_times.calls t170 1000000 t172 t173 _ A26.out).mono ?_); rintro e w' ⟨rfl, ⟨nd, rfl⟩⟩; refine ⟨_, rfl, ?_⟩))
             go_ret2
             exact ⟨by first | rfl | (simp; done) | (simp [*]; done) | (simp [ne_nil_]; done), by repeat (first | exact Drawn0.refl _ | apply Drawn0.step)⟩
            ·rw [if_neg c28] at H
             have c28b0 : decide ((wrap64 (1125899906842624 - x9_3)) < t172) = false := decide_eq_false c28
             clear c28
             simp only [Option.some.injEq, Prod.mk.injEq] at H
             obtain ⟨rfl, rfl⟩ := H
             go_wp2_with (first | ((with_reducible refine gate_callee (f := 33) rfl ?_); refine goesL_ (some 80) rfl rfl Tryd.func33 (by kernel_rfl) rfl #[.int .i64 t170, .int .i64 1000000] rfl (by (try simp only [List.map_toArray, List.map_cons, List.map_nil]); first | done | rfl | (simp only [List.length_drop, List.length_take]; rfl)) ?_; (with_reducible refine (sutlerref02_times.calls t170 1000000 t172 t173 _ A26.out).mono ?_); rintro e w' ⟨rfl, ⟨nd, rfl⟩⟩; refine ⟨_, rfl, ?_⟩))
             go_ret2
             exact ⟨by first | rfl | (simp; done) | (simp [*]; done) | (simp [ne_nil_]; done), by repeat (first | exact Drawn0.refl _ | apply Drawn0.step)⟩
           ·rw [if_neg c27] at H
            have c27b0 : (t173 == 0) = false := beq_eq_false_iff_ne.mpr c27
            have c27b1 : (t173 != 0) = true := bne_iff_ne.mpr c27
            simp only [Option.some.injEq, Prod.mk.injEq] at H
            obtain ⟨rfl, rfl⟩ := H
            go_wp2_with (first | ((with_reducible refine gate_callee (f := 33) rfl ?_); refine goesL_ (some 80) rfl rfl Tryd.func33 (by kernel_rfl) rfl #[.int .i64 t170, .int .i64 1000000] rfl (by (try simp only [List.map_toArray, List.map_cons, List.map_nil]); first | done | rfl | (simp only [List.length_drop, List.length_take]; rfl)) ?_; (with_reducible refine (sutlerref02_times.calls t170 1000000 t172 t173 _ A26.out).mono ?_); rintro e w' ⟨rfl, ⟨nd, rfl⟩⟩; refine ⟨_, rfl, ?_⟩))
            go_ret2
            exact ⟨by first | rfl | (simp; done) | (simp [*]; done) | (simp [ne_nil_]; done), by repeat (first | exact Drawn0.refl _ | apply Drawn0.step)⟩
       ·replace c17 := Bool.eq_false_iff.mpr c17
        subst c17
        have H1 : (some (0, 20)) = some (r1, r2) := by rw [if_neg (show ¬ (false = true) by decide)] at H; exact H
        clear H
        have H := H1
        clear H1
        simp only [Option.some.injEq, Prod.mk.injEq] at H
        obtain ⟨rfl, rfl⟩ := H
        go_wp2
        go_ret2
        exact ⟨by first | rfl | (simp; done) | (simp [*]; done) | (simp [ne_nil_]; done), by repeat (first | exact Drawn0.refl _ | apply Drawn0.step)⟩
    ·rw [if_neg c8] at H
     exact absurd H (by simp)
   ·rw [if_neg c7] at H
    exact absurd H (by simp)

end Go.Proofs.YtafncdmclhdkdaaDoor.PAll
