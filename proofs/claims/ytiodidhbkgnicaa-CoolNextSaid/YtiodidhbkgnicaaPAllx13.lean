-- written by a program of this session (the kit's print, turned): plain functions and their contracts
-- shrunk
import Derived.Test.YtiodidhbkgnicaaPAllx0
namespace Go.Proofs.Ytiodidhbkgnicaa.PAll
open Go.RowKit Go.Proofs.YtiodidhbkgnicaaW.PrintWords Go.Proofs.YtiodidhbkgnicaaW.PrintLast Go.Proofs.YtiodidhbkgnicaaW.PrintMore
attribute [local go_sem] max2_int min2_int max_two min_two max_three min_three max_four min_four   -- for this text's walks alone
set_option linter.unusedVariables false
set_option linter.unusedSimpArgs false

/-! ### sutlerref03_Name: function 38 -/
mutual
def sutlerref03_Name.j0 : Nat → ByteArray → Bool → Option (Bool)
 | 0, _, _ => none
 | k + 1, x0, x22 => if x22 = true then (some false) else (sutlerref03_Name.l0 k x0 0)
def sutlerref03_Name.l0 : Nat → ByteArray → Int → Option (Bool)
 | 0, _, _ => none
 | k + 1, x0, x3 => if x3 < (x0.size : Int) then (if 0 ≤ x3 then (if (bt x0 x3) < 97 then (if (bt x0 x3) < 48 then (if (bt x0 x3) = 46 then (sutlerref03_Name.l0 k x0 (wrap64 (x3 + 1))) else (if (bt x0 x3) = 45 then (sutlerref03_Name.l0 k x0 (wrap64 (x3 + 1))) else (some false))) else (if (bt x0 x3) > 57 then (if (bt x0 x3) = 46 then (sutlerref03_Name.l0 k x0 (wrap64 (x3 + 1))) else (if (bt x0 x3) = 45 then (sutlerref03_Name.l0 k x0 (wrap64 (x3 + 1))) else (some false))) else (sutlerref03_Name.l0 k x0 (wrap64 (x3 + 1))))) else (if (bt x0 x3) > 122 then (if (bt x0 x3) < 48 then (if (bt x0 x3) = 46 then (sutlerref03_Name.l0 k x0 (wrap64 (x3 + 1))) else (if (bt x0 x3) = 45 then (sutlerref03_Name.l0 k x0 (wrap64 (x3 + 1))) else (some false))) else (if (bt x0 x3) > 57 then (if (bt x0 x3) = 46 then (sutlerref03_Name.l0 k x0 (wrap64 (x3 + 1))) else (if (bt x0 x3) = 45 then (sutlerref03_Name.l0 k x0 (wrap64 (x3 + 1))) else (some false))) else (sutlerref03_Name.l0 k x0 (wrap64 (x3 + 1))))) else (sutlerref03_Name.l0 k x0 (wrap64 (x3 + 1))))) else (none)) else (some true)
end
def sutlerref03_Name.f (k : Nat) (a0 : ByteArray) : Option (Bool) := if (a0.size : Int) < 1 then (sutlerref03_Name.j0 k a0 true) else (if (a0.size : Int) > 16 then (sutlerref03_Name.j0 k a0 true) else (if 0 < (a0.size : Int) then (if (bt a0 0) < 97 then (sutlerref03_Name.j0 k a0 true) else (sutlerref03_Name.j0 k a0 (decide ((bt a0 0) > 122)))) else (none)))
theorem sutlerref03_Name.mono_l : ∀ k, (∀ y0 y1, LeO (sutlerref03_Name.j0 k y0 y1) (sutlerref03_Name.j0 (k + 1) y0 y1)) ∧ (∀ y0 y1, LeO (sutlerref03_Name.l0 k y0 y1) (sutlerref03_Name.l0 (k + 1) y0 y1))
 | 0 => ⟨fun _ _ r h => by simp [sutlerref03_Name.j0] at h, fun _ _ r h => by simp [sutlerref03_Name.l0] at h⟩
 | k + 1 => by
  obtain ⟨ih0, ih1⟩ := sutlerref03_Name.mono_l k
  refine ⟨?_, ?_⟩
  ·intro y0 y1
   unfold sutlerref03_Name.j0
   repeat' first
   | (with_reducible exact ih0 _ _)
   | (with_reducible exact ih1 _ _)
   | (with_reducible exact LeO.refl _)
   | (with_reducible exact LeO.none _)
   | (with_reducible refine LeO.ite ?_ ?_)
   | (with_reducible refine LeO.bind ?_ (fun _ => ?_))
   | exact ih0 _ _
   | exact ih1 _ _
   | exact LeO.none _
   | refine LeO.ite ?_ ?_
   | refine LeO.bind ?_ (fun _ => ?_)
  ·intro y0 y1
   unfold sutlerref03_Name.l0
   repeat' first
   | (with_reducible exact ih0 _ _)
   | (with_reducible exact ih1 _ _)
   | (with_reducible exact LeO.refl _)
   | (with_reducible exact LeO.none _)
   | (with_reducible refine LeO.ite ?_ ?_)
   | (with_reducible refine LeO.bind ?_ (fun _ => ?_))
   | exact ih0 _ _
   | exact ih1 _ _
   | exact LeO.none _
   | refine LeO.ite ?_ ?_
   | refine LeO.bind ?_ (fun _ => ?_)
theorem sutlerref03_Name.mono : ∀ a0 k, LeO (sutlerref03_Name.f k a0) (sutlerref03_Name.f (k + 1) a0) := by
 intro a0 k
 obtain ⟨ih0, ih1⟩ := sutlerref03_Name.mono_l k
 unfold sutlerref03_Name.f
 repeat' first
   | (with_reducible exact ih0 _ _)
   | (with_reducible exact ih1 _ _)
   | (with_reducible exact LeO.refl _)
   | (with_reducible exact LeO.none _)
   | (with_reducible refine LeO.ite ?_ ?_)
   | (with_reducible refine LeO.bind ?_ (fun _ => ?_))
   | exact ih0 _ _
   | exact ih1 _ _
   | exact LeO.none _
   | refine LeO.ite ?_ ?_
   | refine LeO.bind ?_ (fun _ => ?_)
set_option maxHeartbeats 8000000 in
set_option maxRecDepth 100000 in
theorem sutlerref03_Name.calls (k : Nat) (a0 : ByteArray) (r : Bool) (w : World) (h : sutlerref03_Name.f k a0 = some r) :
  Calls Try.prog 38 #[.string a0] w fun e w' => e = .returned (.bool r) ∧ Drawn0 w w' := by
 have H : (if (a0.size : Int) < 1 then (sutlerref03_Name.j0 k a0 true) else (if (a0.size : Int) > 16 then (sutlerref03_Name.j0 k a0 true) else (if 0 < (a0.size : Int) then (if (bt a0 0) < 97 then (sutlerref03_Name.j0 k a0 true) else (sutlerref03_Name.j0 k a0 (decide ((bt a0 0) > 122)))) else (none)))) = some r := h
 clear h
 have HC2 := Aside0.mk H
 clear H
 go_enter Try.func38, Try.ntmps38
 go_upto_region 1 with (fail)
 go_cut [22] (fun v22 wc => ∃ (kq : Nat) (x22_1 : Bool), v22 = .bool x22_1 ∧ Aside0 (sutlerref03_Name.j0 kq a0 x22_1 = some r) ∧ Aside0 (kq ≤ k) ∧ Drawn0 w wc)
 case first =>
  have H := HC2.out
  clear HC2
  by_cases c3 : (a0.size : Int) < 1
  ·rw [if_pos c3] at H
   have c3b0 : decide ((a0.size : Int) < 1) = true := decide_eq_true c3
   have c3b1 : decide (a0.size < 1) = true := decide_eq_true (by omega)
   clear c3
   (first | rw [c3b0] | (simp only [i64_w, i32_w]; rw [c3b0]) | skip)
   have H' := Aside0.mk H
   clear H
   go_wp2
   go_meet
   case rel => exact ⟨_, (true), (by first | rfl | (simp; done) | (simp [*]; done)), H', ⟨by first | omega | exact Nat.le_refl _⟩, by repeat (first | exact Drawn0.refl _ | apply Drawn0.step)⟩
  ·rw [if_neg c3] at H
   have c3b0 : decide ((a0.size : Int) < 1) = false := decide_eq_false c3
   have c3b1 : decide (a0.size < 1) = false := decide_eq_false (by omega)
   clear c3
   (first | rw [c3b0] | (simp only [i64_w, i32_w]; rw [c3b0]) | skip)
   by_cases c4 : (a0.size : Int) > 16
   ·rw [if_pos c4] at H
    have c4b0 : decide (16 < (a0.size : Int)) = true := decide_eq_true c4
    have c4b1 : decide (16 < a0.size) = true := decide_eq_true (by omega)
    clear c4
    have H' := Aside0.mk H
    clear H
    go_wp2
    go_meet
    case rel => exact ⟨_, (true), (by first | rfl | (simp; done) | (simp [*]; done)), H', ⟨by first | omega | exact Nat.le_refl _⟩, by repeat (first | exact Drawn0.refl _ | apply Drawn0.step)⟩
   ·rw [if_neg c4] at H
    have c4b0 : decide (16 < (a0.size : Int)) = false := decide_eq_false c4
    have c4b1 : decide (16 < a0.size) = false := decide_eq_false (by omega)
    clear c4
    by_cases c5 : 0 < (a0.size : Int)
    ·rw [if_pos c5] at H
     have c5b0 : decide (0 < (a0.size : Int)) = true := decide_eq_true c5
     have c5b1 : decide (0 < a0.size) = true := decide_eq_true (by omega)
     clear c5
     by_cases c7 : (bt a0 0) < 97
     ·rw [if_pos c7] at H
      have c7b0 : decide ((bt a0 0) < 97) = true := decide_eq_true c7
      clear c7
      have H' := Aside0.mk H
      clear H
      have p6 : 0 ≤ (0 : Int) := (by omega)
      have q6 : 0 < a0.size := (by have : (0 : Int) < (a0.size : Int) := of_decide_eq_true (by first | (with_reducible assumption) | assumption); omega)
      have hx6 : ∀ h : 0 < a0.size, ((a0[0]'h).toNat : Int) = bt a0 0 := bt_at a0 0
      clear p6
      have qi6 : (0 < (a0.size : Int)) = True := eq_true (of_decide_eq_true (by first | (with_reducible assumption) | assumption))
      replace q6 := eq_true q6
      go_wp2
      go_meet
      case rel => exact ⟨_, (true), (by first | rfl | (simp; done) | (simp [*]; done)), H', ⟨by first | omega | exact Nat.le_refl _⟩, by repeat (first | exact Drawn0.refl _ | apply Drawn0.step)⟩
     ·rw [if_neg c7] at H
      have c7b0 : decide ((bt a0 0) < 97) = false := decide_eq_false c7
      clear c7
      have H' := Aside0.mk H
      clear H
      have p6 : 0 ≤ (0 : Int) := (by omega)
      have q6 : 0 < a0.size := (by have : (0 : Int) < (a0.size : Int) := of_decide_eq_true (by first | (with_reducible assumption) | assumption); omega)
      have hx6 : ∀ h : 0 < a0.size, ((a0[0]'h).toNat : Int) = bt a0 0 := bt_at a0 0
      clear p6
      have qi6 : (0 < (a0.size : Int)) = True := eq_true (of_decide_eq_true (by first | (with_reducible assumption) | assumption))
      replace q6 := eq_true q6
      have p8 : 0 ≤ (0 : Int) := (by omega)
      have q8 : 0 < a0.size := (by have : (0 : Int) < (a0.size : Int) := of_decide_eq_true (by first | (with_reducible assumption) | assumption); omega)
      have hx8 : ∀ h : 0 < a0.size, ((a0[0]'h).toNat : Int) = bt a0 0 := bt_at a0 0
      clear p8
      have qi8 : (0 < (a0.size : Int)) = True := eq_true (of_decide_eq_true (by first | (with_reducible assumption) | assumption))
      replace q8 := eq_true q8
      go_wp2
      go_meet
      case rel => exact ⟨_, (decide ((bt a0 0) > 122)), (by first | rfl | (simp; done) | (simp [*]; done)), H', ⟨by first | omega | exact Nat.le_refl _⟩, by repeat (first | exact Drawn0.refl _ | apply Drawn0.step)⟩
    ·rw [if_neg c5] at H
     exact absurd H (by simp)
 case rest =>
  clear HC2
  try clear p2
  try clear c3
  try clear c3b0
  try clear c3b1
  try clear c4
  try clear c4b0
  try clear c4b1
  try clear c5
  try clear c5b0
  try clear c5b1
  try clear p6
  try clear q6
  try clear hx6
  try clear qi6
  try clear c7
  try clear c7b0
  try clear p8
  try clear q8
  try clear hx8
  try clear qi8
  try clear p6
  try clear p8
  try clear q6
  try clear q8
  obtain ⟨kq, x22_1, rfl, HA, HJ1, ⟨mc1, rfl⟩⟩ := hcut
  cases kq with
  | zero => exact absurd HA.out (by simp [sutlerref03_Name.j0])
  | succ kj1 =>
   have H := HA.out
   clear HA
   simp only [sutlerref03_Name.j0] at H
   by_cases c9 : x22_1 = true
   ·subst c9
    have H1 : (some false) = some r := by rw [if_pos rfl] at H; exact H
    clear H
    have H := H1
    clear H1
    obtain rfl := Option.some.inj H
    go_wp2
    go_ret
    exact ⟨by first | rfl | (simp; done) | (simp [*]; done), by repeat (first | exact Drawn0.refl _ | apply Drawn0.step)⟩
   ·replace c9 := Bool.eq_false_iff.mpr c9
    subst c9
    have H1 : (sutlerref03_Name.l0 kj1 a0 0) = some r := by rw [if_neg (show ¬ (false = true) by decide)] at H; exact H
    clear H
    have H := H1
    clear H1
    have H' := Aside0.mk H
    clear H
    go_wp2
    go_loopg [3] kj1 (fun kq v3 w' => ∃ (x3_2 : Int), v3 = .int .i64 x3_2 ∧ Aside0 (sutlerref03_Name.l0 kq a0 x3_2 = some r) ∧ Aside0 (kq ≤ kj1) ∧ Drawn0 w w')
    case atStart => exact ⟨(0), (by first | rfl | (simp; done) | (simp [*]; done)), H', ⟨Nat.le_refl _⟩, by repeat (first | exact Drawn0.refl _ | apply Drawn0.step)⟩
    case round =>
     clear H'
     try clear c1
     try clear p2
     try clear c3
     try clear c3b0
     try clear c3b1
     try clear c4
     try clear c4b0
     try clear c4b1
     try clear c5
     try clear c5b0
     try clear c5b1
     try clear p6
     try clear q6
     try clear hx6
     try clear qi6
     try clear c7
     try clear c7b0
     try clear p8
     try clear q8
     try clear hx8
     try clear qi8
     try clear c9
     try clear p2
     try clear p6
     try clear p8
     try clear q6
     try clear q8
     obtain ⟨x3_2, rfl, HA, HK2, ⟨m2, rfl⟩⟩ := hrel
     cases gk with
     | zero => exact absurd HA.out (by simp [sutlerref03_Name.l0])
     | succ k2 =>
      have H := HA.out
      clear HA
      simp only [sutlerref03_Name.l0] at H
      by_cases c10 : x3_2 < (a0.size : Int)
      ·rw [if_pos c10] at H
       have c10b0 : decide (x3_2 < (a0.size : Int)) = true := decide_eq_true c10
       clear c10
       by_cases c11 : 0 ≤ x3_2
       ·rw [if_pos c11] at H
        have c11b0 : decide (0 ≤ x3_2) = true := decide_eq_true c11
        clear c11
        by_cases c13 : (bt a0 x3_2) < 97
        ·rw [if_pos c13] at H
         have c13b0 : decide ((bt a0 x3_2) < 97) = true := decide_eq_true c13
         clear c13
         by_cases c14 : (bt a0 x3_2) < 48
         ·rw [if_pos c14] at H
          have c14b0 : decide ((bt a0 x3_2) < 48) = true := decide_eq_true c14
          clear c14
          by_cases c15 : (bt a0 x3_2) = 46
          ·rw [if_pos c15] at H
           have c15b0 : ((bt a0 x3_2) == 46) = true := beq_iff_eq.mpr c15
           have c15b1 : ((bt a0 x3_2) != 46) = false := bne_eq_false_iff_eq.mpr c15
           clear c15
           have H' := Aside0.mk H
           clear H
           have p12 : 0 ≤ (x3_2 : Int) := of_decide_eq_true (by first | (with_reducible assumption) | assumption)
           have q12 : x3_2 < (a0.size : Int) := of_decide_eq_true (by first | (with_reducible assumption) | assumption)
           have hx12 := bt_at a0 x3_2
           replace p12 := eq_true p12
           replace q12 := eq_true q12
           go_wp2
           go_roundg k2
           case measure => have := HJ1.out; have := HK2.out; omega
           case rel => exact ⟨(wrap64 (x3_2 + 1)), (by first | rfl | (simp; done) | (simp [*]; done)), H', ⟨by have := HJ1.out; have := HK2.out; omega⟩, by repeat (first | exact Drawn0.refl _ | apply Drawn0.step)⟩
          ·rw [if_neg c15] at H
           have c15b0 : ((bt a0 x3_2) == 46) = false := beq_eq_false_iff_ne.mpr c15
           have c15b1 : ((bt a0 x3_2) != 46) = true := bne_iff_ne.mpr c15
           by_cases c16 : (bt a0 x3_2) = 45
           ·rw [if_pos c16] at H
            have c16b0 : ((bt a0 x3_2) == 45) = true := beq_iff_eq.mpr c16
            have c16b1 : ((bt a0 x3_2) != 45) = false := bne_eq_false_iff_eq.mpr c16
            clear c16
            have H' := Aside0.mk H
            clear H
            have p12 : 0 ≤ (x3_2 : Int) := of_decide_eq_true (by first | (with_reducible assumption) | assumption)
            have q12 : x3_2 < (a0.size : Int) := of_decide_eq_true (by first | (with_reducible assumption) | assumption)
            have hx12 := bt_at a0 x3_2
            replace p12 := eq_true p12
            replace q12 := eq_true q12
            go_wp2
            go_roundg k2
            case measure => have := HJ1.out; have := HK2.out; omega
            case rel => exact ⟨(wrap64 (x3_2 + 1)), (by first | rfl | (simp; done) | (simp [*]; done)), H', ⟨by have := HJ1.out; have := HK2.out; omega⟩, by repeat (first | exact Drawn0.refl _ | apply Drawn0.step)⟩
           ·rw [if_neg c16] at H
            have c16b0 : ((bt a0 x3_2) == 45) = false := beq_eq_false_iff_ne.mpr c16
            have c16b1 : ((bt a0 x3_2) != 45) = true := bne_iff_ne.mpr c16
            obtain rfl := Option.some.inj H
            have p12 : 0 ≤ (x3_2 : Int) := of_decide_eq_true (by first | (with_reducible assumption) | assumption)
            have q12 : x3_2 < (a0.size : Int) := of_decide_eq_true (by first | (with_reducible assumption) | assumption)
            have hx12 := bt_at a0 x3_2
            replace p12 := eq_true p12
            replace q12 := eq_true q12
            go_wp2
            go_ret
            exact ⟨by first | rfl | (simp; done) | (simp [*]; done), by repeat (first | exact Drawn0.refl _ | apply Drawn0.step)⟩
         ·rw [if_neg c14] at H
          have c14b0 : decide ((bt a0 x3_2) < 48) = false := decide_eq_false c14
          clear c14
          by_cases c17 : (bt a0 x3_2) > 57
          ·rw [if_pos c17] at H
           have c17b0 : decide (57 < (bt a0 x3_2)) = true := decide_eq_true c17
           clear c17
           by_cases c18 : (bt a0 x3_2) = 46
           ·rw [if_pos c18] at H
            have c18b0 : ((bt a0 x3_2) == 46) = true := beq_iff_eq.mpr c18
            have c18b1 : ((bt a0 x3_2) != 46) = false := bne_eq_false_iff_eq.mpr c18
            clear c18
            have H' := Aside0.mk H
            clear H
            have p12 : 0 ≤ (x3_2 : Int) := of_decide_eq_true (by first | (with_reducible assumption) | assumption)
            have q12 : x3_2 < (a0.size : Int) := of_decide_eq_true (by first | (with_reducible assumption) | assumption)
            have hx12 := bt_at a0 x3_2
            replace p12 := eq_true p12
            replace q12 := eq_true q12
            go_wp2
            go_roundg k2
            case measure => have := HJ1.out; have := HK2.out; omega
            case rel => exact ⟨(wrap64 (x3_2 + 1)), (by first | rfl | (simp; done) | (simp [*]; done)), H', ⟨by have := HJ1.out; have := HK2.out; omega⟩, by repeat (first | exact Drawn0.refl _ | apply Drawn0.step)⟩
           ·rw [if_neg c18] at H
            have c18b0 : ((bt a0 x3_2) == 46) = false := beq_eq_false_iff_ne.mpr c18
            have c18b1 : ((bt a0 x3_2) != 46) = true := bne_iff_ne.mpr c18
            by_cases c19 : (bt a0 x3_2) = 45
            ·rw [if_pos c19] at H
             have c19b0 : ((bt a0 x3_2) == 45) = true := beq_iff_eq.mpr c19
             have c19b1 : ((bt a0 x3_2) != 45) = false := bne_eq_false_iff_eq.mpr c19
             clear c19
             have H' := Aside0.mk H
             clear H
             have p12 : 0 ≤ (x3_2 : Int) := of_decide_eq_true (by first | (with_reducible assumption) | assumption)
             have q12 : x3_2 < (a0.size : Int) := of_decide_eq_true (by first | (with_reducible assumption) | assumption)
             have hx12 := bt_at a0 x3_2
             replace p12 := eq_true p12
             replace q12 := eq_true q12
             go_wp2
             go_roundg k2
             case measure => have := HJ1.out; have := HK2.out; omega
             case rel => exact ⟨(wrap64 (x3_2 + 1)), (by first | rfl | (simp; done) | (simp [*]; done)), H', ⟨by have := HJ1.out; have := HK2.out; omega⟩, by repeat (first | exact Drawn0.refl _ | apply Drawn0.step)⟩
            ·rw [if_neg c19] at H
             have c19b0 : ((bt a0 x3_2) == 45) = false := beq_eq_false_iff_ne.mpr c19
             have c19b1 : ((bt a0 x3_2) != 45) = true := bne_iff_ne.mpr c19
             obtain rfl := Option.some.inj H
             have p12 : 0 ≤ (x3_2 : Int) := of_decide_eq_true (by first | (with_reducible assumption) | assumption)
             have q12 : x3_2 < (a0.size : Int) := of_decide_eq_true (by first | (with_reducible assumption) | assumption)
             have hx12 := bt_at a0 x3_2
             replace p12 := eq_true p12
             replace q12 := eq_true q12
             go_wp2
             go_ret
             exact ⟨by first | rfl | (simp; done) | (simp [*]; done), by repeat (first | exact Drawn0.refl _ | apply Drawn0.step)⟩
          ·rw [if_neg c17] at H
           have c17b0 : decide (57 < (bt a0 x3_2)) = false := decide_eq_false c17
           clear c17
           have H' := Aside0.mk H
           clear H
           have p12 : 0 ≤ (x3_2 : Int) := of_decide_eq_true (by first | (with_reducible assumption) | assumption)
           have q12 : x3_2 < (a0.size : Int) := of_decide_eq_true (by first | (with_reducible assumption) | assumption)
           have hx12 := bt_at a0 x3_2
           replace p12 := eq_true p12
           replace q12 := eq_true q12
           go_wp2
           go_roundg k2
           case measure => have := HJ1.out; have := HK2.out; omega
           case rel => exact ⟨(wrap64 (x3_2 + 1)), (by first | rfl | (simp; done) | (simp [*]; done)), H', ⟨by have := HJ1.out; have := HK2.out; omega⟩, by repeat (first | exact Drawn0.refl _ | apply Drawn0.step)⟩
        ·rw [if_neg c13] at H
         have c13b0 : decide ((bt a0 x3_2) < 97) = false := decide_eq_false c13
         clear c13
         by_cases c20 : (bt a0 x3_2) > 122
         ·rw [if_pos c20] at H
          have c20b0 : decide (122 < (bt a0 x3_2)) = true := decide_eq_true c20
          clear c20
          by_cases c21 : (bt a0 x3_2) < 48
          ·rw [if_pos c21] at H
           have c21b0 : decide ((bt a0 x3_2) < 48) = true := decide_eq_true c21
           clear c21
           by_cases c22 : (bt a0 x3_2) = 46
           ·rw [if_pos c22] at H
            have c22b0 : ((bt a0 x3_2) == 46) = true := beq_iff_eq.mpr c22
            have c22b1 : ((bt a0 x3_2) != 46) = false := bne_eq_false_iff_eq.mpr c22
            clear c22
            have H' := Aside0.mk H
            clear H
            have p12 : 0 ≤ (x3_2 : Int) := of_decide_eq_true (by first | (with_reducible assumption) | assumption)
            have q12 : x3_2 < (a0.size : Int) := of_decide_eq_true (by first | (with_reducible assumption) | assumption)
            have hx12 := bt_at a0 x3_2
            replace p12 := eq_true p12
            replace q12 := eq_true q12
            go_wp2
            go_roundg k2
            case measure => have := HJ1.out; have := HK2.out; omega
            case rel => exact ⟨(wrap64 (x3_2 + 1)), (by first | rfl | (simp; done) | (simp [*]; done)), H', ⟨by have := HJ1.out; have := HK2.out; omega⟩, by repeat (first | exact Drawn0.refl _ | apply Drawn0.step)⟩
           ·rw [if_neg c22] at H
            have c22b0 : ((bt a0 x3_2) == 46) = false := beq_eq_false_iff_ne.mpr c22
            have c22b1 : ((bt a0 x3_2) != 46) = true := bne_iff_ne.mpr c22
            by_cases c23 : (bt a0 x3_2) = 45
            ·rw [if_pos c23] at H
             have c23b0 : ((bt a0 x3_2) == 45) = true := beq_iff_eq.mpr c23
             have c23b1 : ((bt a0 x3_2) != 45) = false := bne_eq_false_iff_eq.mpr c23
             clear c23
             have H' := Aside0.mk H
             clear H
             have p12 : 0 ≤ (x3_2 : Int) := of_decide_eq_true (by first | (with_reducible assumption) | assumption)
             have q12 : x3_2 < (a0.size : Int) := of_decide_eq_true (by first | (with_reducible assumption) | assumption)
             have hx12 := bt_at a0 x3_2
             replace p12 := eq_true p12
             replace q12 := eq_true q12
             go_wp2
             go_roundg k2
             case measure => have := HJ1.out; have := HK2.out; omega
             case rel => exact ⟨(wrap64 (x3_2 + 1)), (by first | rfl | (simp; done) | (simp [*]; done)), H', ⟨by have := HJ1.out; have := HK2.out; omega⟩, by repeat (first | exact Drawn0.refl _ | apply Drawn0.step)⟩
            ·rw [if_neg c23] at H
             have c23b0 : ((bt a0 x3_2) == 45) = false := beq_eq_false_iff_ne.mpr c23
             have c23b1 : ((bt a0 x3_2) != 45) = true := bne_iff_ne.mpr c23
             obtain rfl := Option.some.inj H
             have p12 : 0 ≤ (x3_2 : Int) := of_decide_eq_true (by first | (with_reducible assumption) | assumption)
             have q12 : x3_2 < (a0.size : Int) := of_decide_eq_true (by first | (with_reducible assumption) | assumption)
             have hx12 := bt_at a0 x3_2
             replace p12 := eq_true p12
             replace q12 := eq_true q12
             go_wp2
             go_ret
             exact ⟨by first | rfl | (simp; done) | (simp [*]; done), by repeat (first | exact Drawn0.refl _ | apply Drawn0.step)⟩
          ·rw [if_neg c21] at H
           have c21b0 : decide ((bt a0 x3_2) < 48) = false := decide_eq_false c21
           clear c21
           by_cases c24 : (bt a0 x3_2) > 57
           ·rw [if_pos c24] at H
            have c24b0 : decide (57 < (bt a0 x3_2)) = true := decide_eq_true c24
            clear c24
            by_cases c25 : (bt a0 x3_2) = 46
            ·rw [if_pos c25] at H
             have c25b0 : ((bt a0 x3_2) == 46) = true := beq_iff_eq.mpr c25
             have c25b1 : ((bt a0 x3_2) != 46) = false := bne_eq_false_iff_eq.mpr c25
             clear c25
             have H' := Aside0.mk H
             clear H
             have p12 : 0 ≤ (x3_2 : Int) := of_decide_eq_true (by first | (with_reducible assumption) | assumption)
             have q12 : x3_2 < (a0.size : Int) := of_decide_eq_true (by first | (with_reducible assumption) | assumption)
             have hx12 := bt_at a0 x3_2
             replace p12 := eq_true p12
             replace q12 := eq_true q12
             go_wp2
             go_roundg k2
             case measure => have := HJ1.out; have := HK2.out; omega
             case rel => exact ⟨(wrap64 (x3_2 + 1)), (by first | rfl | (simp; done) | (simp [*]; done)), H', ⟨by have := HJ1.out; have := HK2.out; omega⟩, by repeat (first | exact Drawn0.refl _ | apply Drawn0.step)⟩
            ·rw [if_neg c25] at H
             have c25b0 : ((bt a0 x3_2) == 46) = false := beq_eq_false_iff_ne.mpr c25
             have c25b1 : ((bt a0 x3_2) != 46) = true := bne_iff_ne.mpr c25
             by_cases c26 : (bt a0 x3_2) = 45
             ·rw [if_pos c26] at H
              have c26b0 : ((bt a0 x3_2) == 45) = true := beq_iff_eq.mpr c26
              have c26b1 : ((bt a0 x3_2) != 45) = false := bne_eq_false_iff_eq.mpr c26
              clear c26
              have H' := Aside0.mk H
              clear H
              have p12 : 0 ≤ (x3_2 : Int) := of_decide_eq_true (by first | (with_reducible assumption) | assumption)
              have q12 : x3_2 < (a0.size : Int) := of_decide_eq_true (by first | (with_reducible assumption) | assumption)
              have hx12 := bt_at a0 x3_2
              replace p12 := eq_true p12
              replace q12 := eq_true q12
              go_wp2
              go_roundg k2
              case measure => have := HJ1.out; have := HK2.out; omega
              case rel => exact ⟨(wrap64 (x3_2 + 1)), (by first | rfl | (simp; done) | (simp [*]; done)), H', ⟨by have := HJ1.out; have := HK2.out; omega⟩, by repeat (first | exact Drawn0.refl _ | apply Drawn0.step)⟩
             ·rw [if_neg c26] at H
              have c26b0 : ((bt a0 x3_2) == 45) = false := beq_eq_false_iff_ne.mpr c26
              have c26b1 : ((bt a0 x3_2) != 45) = true := bne_iff_ne.mpr c26
              obtain rfl := Option.some.inj H
              have p12 : 0 ≤ (x3_2 : Int) := of_decide_eq_true (by first | (with_reducible assumption) | assumption)
              have q12 : x3_2 < (a0.size : Int) := of_decide_eq_true (by first | (with_reducible assumption) | assumption)
              have hx12 := bt_at a0 x3_2
              replace p12 := eq_true p12
              replace q12 := eq_true q12
              go_wp2
              go_ret
              exact ⟨by first | rfl | (simp; done) | (simp [*]; done), by repeat (first | exact Drawn0.refl _ | apply Drawn0.step)⟩
           ·rw [if_neg c24] at H
            have c24b0 : decide (57 < (bt a0 x3_2)) = false := decide_eq_false c24
            clear c24
            have H' := Aside0.mk H
            clear H
            have p12 : 0 ≤ (x3_2 : Int) := of_decide_eq_true (by first | (with_reducible assumption) | assumption)
            have q12 : x3_2 < (a0.size : Int) := of_decide_eq_true (by first | (with_reducible assumption) | assumption)
            have hx12 := bt_at a0 x3_2
            replace p12 := eq_true p12
            replace q12 := eq_true q12
            go_wp2
            go_roundg k2
            case measure => have := HJ1.out; have := HK2.out; omega
            case rel => exact ⟨(wrap64 (x3_2 + 1)), (by first | rfl | (simp; done) | (simp [*]; done)), H', ⟨by have := HJ1.out; have := HK2.out; omega⟩, by repeat (first | exact Drawn0.refl _ | apply Drawn0.step)⟩
         ·rw [if_neg c20] at H
          have c20b0 : decide (122 < (bt a0 x3_2)) = false := decide_eq_false c20
          clear c20
          have H' := Aside0.mk H
          clear H
          have p12 : 0 ≤ (x3_2 : Int) := of_decide_eq_true (by first | (with_reducible assumption) | assumption)
          have q12 : x3_2 < (a0.size : Int) := of_decide_eq_true (by first | (with_reducible assumption) | assumption)
          have hx12 := bt_at a0 x3_2
          replace p12 := eq_true p12
          replace q12 := eq_true q12
          go_wp2
          go_roundg k2
          case measure => have := HJ1.out; have := HK2.out; omega
          case rel => exact ⟨(wrap64 (x3_2 + 1)), (by first | rfl | (simp; done) | (simp [*]; done)), H', ⟨by have := HJ1.out; have := HK2.out; omega⟩, by repeat (first | exact Drawn0.refl _ | apply Drawn0.step)⟩
       ·rw [if_neg c11] at H
        exact absurd H (by simp)
      ·rw [if_neg c10] at H
       have c10b0 : decide (x3_2 < (a0.size : Int)) = false := decide_eq_false c10
       clear c10
       obtain rfl := Option.some.inj H
       go_wp2
       go_ret
       exact ⟨by first | rfl | (simp; done) | (simp [*]; done), by repeat (first | exact Drawn0.refl _ | apply Drawn0.step)⟩

/-! ### sutlerref07_one: function 25 -/
def sutlerref07_one.j0 : Nat → Bool → ByteArray → ByteArray → ByteArray → Int → Option (Int)
 | 0, _, _, _, _, _ => none
 | k + 1, x27, x237000, x237001, x237002, x237003 => if x27 = true then (some 7) else (if x237003 < 0 then (some 1) else (if x237003 > 1099511627776 then (some 1) else (some 0)))
def sutlerref07_one.f (k : Nat) (a0_0 : ByteArray) (a0_1 : ByteArray) (a0_2 : ByteArray) (a0_3 : Int) : Option (Int) := (sutlerref03_Name.f k a0_0).bind fun t237 => ((sutlerref03_Name.f k a0_1).bind fun t238 => ((sutlerref03_Name.f k a0_2).bind fun t239 => (if t237 = true then (if t238 = true then (sutlerref07_one.j0 k (!t239) a0_0 a0_1 a0_2 a0_3) else (sutlerref07_one.j0 k true a0_0 a0_1 a0_2 a0_3)) else (sutlerref07_one.j0 k true a0_0 a0_1 a0_2 a0_3))))
theorem sutlerref07_one.mono_l : ∀ k, (∀ y0 y1 y2 y3 y4, LeO (sutlerref07_one.j0 k y0 y1 y2 y3 y4) (sutlerref07_one.j0 (k + 1) y0 y1 y2 y3 y4))
 | 0 => fun _ _ _ _ _ r h => by simp [sutlerref07_one.j0] at h
 | k + 1 => by
  have ih0 := sutlerref07_one.mono_l k
  ·intro y0 y1 y2 y3 y4
   unfold sutlerref07_one.j0
   repeat' first
   | (with_reducible exact ih0 _ _ _ _ _)
   | (with_reducible exact sutlerref03_Name.mono _ _)
   | (with_reducible exact LeO.refl _)
   | (with_reducible exact LeO.none _)
   | (with_reducible refine LeO.ite ?_ ?_)
   | (with_reducible refine LeO.bind ?_ (fun _ => ?_))
   | exact ih0 _ _ _ _ _
   | exact sutlerref03_Name.mono _ _
   | exact LeO.none _
   | refine LeO.ite ?_ ?_
   | refine LeO.bind ?_ (fun _ => ?_)
theorem sutlerref07_one.mono : ∀ a0 a1 a2 a3 k, LeO (sutlerref07_one.f k a0 a1 a2 a3) (sutlerref07_one.f (k + 1) a0 a1 a2 a3) := by
 intro a0 a1 a2 a3 k
 have ih0 := sutlerref07_one.mono_l k
 unfold sutlerref07_one.f
 repeat' first
   | (with_reducible exact ih0 _ _ _ _ _)
   | (with_reducible exact sutlerref03_Name.mono _ _)
   | (with_reducible exact LeO.refl _)
   | (with_reducible exact LeO.none _)
   | (with_reducible refine LeO.ite ?_ ?_)
   | (with_reducible refine LeO.bind ?_ (fun _ => ?_))
   | exact ih0 _ _ _ _ _
   | exact sutlerref03_Name.mono _ _
   | exact LeO.none _
   | refine LeO.ite ?_ ?_
   | refine LeO.bind ?_ (fun _ => ?_)
set_option maxHeartbeats 8000000 in
set_option maxRecDepth 100000 in
theorem sutlerref07_one.calls (k : Nat) (a0_0 : ByteArray) (a0_1 : ByteArray) (a0_2 : ByteArray) (a0_3 : Int) (r : Int) (w : World) (h : sutlerref07_one.f k a0_0 a0_1 a0_2 a0_3 = some r) :
  Calls Try.prog 25 #[.agg #[.string a0_0, .string a0_1, .string a0_2, .int .i64 a0_3]] w fun e w' => e = .returned (.int .i64 r) ∧ Below w.heap.size w w' := by
 have hu25 := Try.underlying25
 have HB := Aside0.mk (Below.refl w.heap.size w)
 have H : ((sutlerref03_Name.f k a0_0).bind fun t237 => ((sutlerref03_Name.f k a0_1).bind fun t238 => ((sutlerref03_Name.f k a0_2).bind fun t239 => (if t237 = true then (if t238 = true then (sutlerref07_one.j0 k (!t239) a0_0 a0_1 a0_2 a0_3) else (sutlerref07_one.j0 k true a0_0 a0_1 a0_2 a0_3)) else (sutlerref07_one.j0 k true a0_0 a0_1 a0_2 a0_3))))) = some r := h
 clear h
 replace H := Option.bind_eq_some_iff.mp H
 obtain ⟨t237, A20, H⟩ := H
 replace H : ((sutlerref03_Name.f k a0_1).bind fun t238 => ((sutlerref03_Name.f k a0_2).bind fun t239 => (if t237 = true then (if t238 = true then (sutlerref07_one.j0 k (!t239) a0_0 a0_1 a0_2 a0_3) else (sutlerref07_one.j0 k true a0_0 a0_1 a0_2 a0_3)) else (sutlerref07_one.j0 k true a0_0 a0_1 a0_2 a0_3)))) = some r := H
 have A2 := Aside0.mk A20
 clear A20
 replace H := Option.bind_eq_some_iff.mp H
 obtain ⟨t238, A30, H⟩ := H
 replace H : ((sutlerref03_Name.f k a0_2).bind fun t239 => (if t237 = true then (if t238 = true then (sutlerref07_one.j0 k (!t239) a0_0 a0_1 a0_2 a0_3) else (sutlerref07_one.j0 k true a0_0 a0_1 a0_2 a0_3)) else (sutlerref07_one.j0 k true a0_0 a0_1 a0_2 a0_3))) = some r := H
 have A3 := Aside0.mk A30
 clear A30
 replace H := Option.bind_eq_some_iff.mp H
 obtain ⟨t239, A40, H⟩ := H
 replace H : (if t237 = true then (if t238 = true then (sutlerref07_one.j0 k (!t239) a0_0 a0_1 a0_2 a0_3) else (sutlerref07_one.j0 k true a0_0 a0_1 a0_2 a0_3)) else (sutlerref07_one.j0 k true a0_0 a0_1 a0_2 a0_3)) = some r := H
 have A4 := Aside0.mk A40
 clear A40
 have HC5 := Aside0.mk H
 clear H
 go_enter Try.func25, Try.ntmps25
 go_upto_region 4 with (first | ((with_reducible refine gate_dst (N := 1) rfl ?_); refine box_event ?hg (N := 1) ?hd (cs := #[.string a0_0, .string a0_1, .string a0_2, .int .i64 a0_3]) (t := 25) ?hr ?_; (case hd => rfl); (case hg => rfl); (case hr => first | (go_simp; done) | (go_simp; rfl)); intro gb236 hg w6 hbox hb; have n0_ := Aside0.mk (below_step (by repeat (first | (with_reducible first | exact HB.out | apply below_alloc | apply pw_below_drewN | apply below_drew1) | exact HB.out)) hb); have n1_ := Aside0.mk (hbox); have n2_ := Aside0.mk ((by rw [hg]; exact (below_size (by repeat (first | (with_reducible first | exact HB.out | apply below_alloc | apply pw_below_drewN | apply below_drew1) | exact HB.out))) : w.heap.size ≤ gb236)); have n3_ := Aside0.mk ((by rw [hg]; exact (below_size (by repeat (first | (with_reducible first | exact HB.out | apply below_alloc | apply pw_below_drewN | apply below_drew1) | exact HB.out))) : w.heap.size ≤ gb236)); clear HB; have HB := n0_; have BK236 := n1_; have GW236 := n2_; have GE236 := n3_; clear n0_ n1_ n2_ n3_; clear hb hbox hg; have hcz7_0 : w6.cell? ⟨gb236, 0, none⟩ = some (.string a0_0) := (blk_cell BK236.out 0).trans rfl; have hcz7_1 : w6.cell? ⟨gb236, 1, none⟩ = some (.string a0_1) := (blk_cell BK236.out 1).trans rfl; have hcz7_2 : w6.cell? ⟨gb236, 2, none⟩ = some (.string a0_2) := (blk_cell BK236.out 2).trans rfl; have hcz7_3 : w6.cell? ⟨gb236, 3, none⟩ = some (.int .i64 a0_3) := (blk_cell BK236.out 3).trans rfl; have hfz7_0 := blk_frozen BK236.out 0; have hfz7_1 := blk_frozen BK236.out 1; have hfz7_2 := blk_frozen BK236.out 2; have hfz7_3 := blk_frozen BK236.out 3) | ((with_reducible refine gate_callee (f := 38) rfl ?_); refine goesL_ (some 9) rfl rfl Try.func38 (by kernel_rfl) rfl #[.string a0_0] rfl (by (try simp only [List.map_toArray, List.map_cons, List.map_nil]); first | done | rfl | (simp only [List.length_drop, List.length_take]; rfl)) ?_; (with_reducible refine (sutlerref03_Name.calls k a0_0 t237 _ A2.out).mono ?_); rintro e w' ⟨rfl, ⟨nd, rfl⟩⟩; refine ⟨_, rfl, ?_⟩) | ((with_reducible refine gate_callee (f := 38) rfl ?_); refine goesL_ (some 13) rfl rfl Try.func38 (by kernel_rfl) rfl #[.string a0_1] rfl (by (try simp only [List.map_toArray, List.map_cons, List.map_nil]); first | done | rfl | (simp only [List.length_drop, List.length_take]; rfl)) ?_; (with_reducible refine (sutlerref03_Name.calls k a0_1 t238 _ A3.out).mono ?_); rintro e w' ⟨rfl, ⟨nd, rfl⟩⟩; refine ⟨_, rfl, ?_⟩) | ((with_reducible refine gate_callee (f := 38) rfl ?_); refine goesL_ (some 17) rfl rfl Try.func38 (by kernel_rfl) rfl #[.string a0_2] rfl (by (try simp only [List.map_toArray, List.map_cons, List.map_nil]); first | done | rfl | (simp only [List.length_drop, List.length_take]; rfl)) ?_; (with_reducible refine (sutlerref03_Name.calls k a0_2 t239 _ A4.out).mono ?_); rintro e w' ⟨rfl, ⟨nd, rfl⟩⟩; refine ⟨_, rfl, ?_⟩))
 (try simp only [Act.put, List.setIfInBounds_toArray, List.set_cons_zero, List.set_cons_succ])
 go_cut [27] (fun v27 wc => ∃ (kq : Nat) (x27_4 : Bool), v27 = .bool x27_4 ∧ Aside0 (sutlerref07_one.j0 kq x27_4 a0_0 a0_1 a0_2 a0_3 = some r) ∧ Aside0 (kq ≤ k) ∧ Aside0 (wc.heap[gb236]? = some (.cells #[.string a0_0, .string a0_1, .string a0_2, .int .i64 a0_3] 25 (0, 0))) ∧ Aside0 (Below w.heap.size w wc))
 case first =>
  have H := HC5.out
  clear HC5
  by_cases c8 : t237 = true
  ·subst c8
   have H1 : (if t238 = true then (sutlerref07_one.j0 k (!t239) a0_0 a0_1 a0_2 a0_3) else (sutlerref07_one.j0 k true a0_0 a0_1 a0_2 a0_3)) = some r := by rw [if_pos rfl] at H; exact H
   clear H
   have H := H1
   clear H1
   by_cases c9 : t238 = true
   ·subst c9
    have H1 : (sutlerref07_one.j0 k (!t239) a0_0 a0_1 a0_2 a0_3) = some r := by rw [if_pos rfl] at H; exact H
    clear H
    have H := H1
    clear H1
    have H' := Aside0.mk H
    clear H
    go_wp2
    go_meet
    case rel => exact ⟨_, (!t239), (by first | rfl | (simp; done) | (simp [*]; done)), H', ⟨by first | omega | exact Nat.le_refl _⟩, ⟨by (with_reducible repeat (first | refine blk_drewN ?_ _ | refine blk_drew ?_ | refine blk_alloc ?_ _)); exact BK236.out⟩, ⟨by repeat (first | (with_reducible first | exact HB.out | apply below_alloc | apply pw_below_drewN | apply below_drew1 | refine below_set ?_ GE236.out) | exact HB.out)⟩⟩
   ·replace c9 := Bool.eq_false_iff.mpr c9
    subst c9
    have H1 : (sutlerref07_one.j0 k true a0_0 a0_1 a0_2 a0_3) = some r := by rw [if_neg (show ¬ (false = true) by decide)] at H; exact H
    clear H
    have H := H1
    clear H1
    have H' := Aside0.mk H
    clear H
    go_wp2
    go_meet
    case rel => exact ⟨_, (true), (by first | rfl | (simp; done) | (simp [*]; done)), H', ⟨by first | omega | exact Nat.le_refl _⟩, ⟨by (with_reducible repeat (first | refine blk_drewN ?_ _ | refine blk_drew ?_ | refine blk_alloc ?_ _)); exact BK236.out⟩, ⟨by repeat (first | (with_reducible first | exact HB.out | apply below_alloc | apply pw_below_drewN | apply below_drew1 | refine below_set ?_ GE236.out) | exact HB.out)⟩⟩
  ·replace c8 := Bool.eq_false_iff.mpr c8
   subst c8
   have H1 : (sutlerref07_one.j0 k true a0_0 a0_1 a0_2 a0_3) = some r := by rw [if_neg (show ¬ (false = true) by decide)] at H; exact H
   clear H
   have H := H1
   clear H1
   have H' := Aside0.mk H
   clear H
   go_wp2
   go_meet
   case rel => exact ⟨_, (true), (by first | rfl | (simp; done) | (simp [*]; done)), H', ⟨by first | omega | exact Nat.le_refl _⟩, ⟨by (with_reducible repeat (first | refine blk_drewN ?_ _ | refine blk_drew ?_ | refine blk_alloc ?_ _)); exact BK236.out⟩, ⟨by repeat (first | (with_reducible first | exact HB.out | apply below_alloc | apply pw_below_drewN | apply below_drew1 | refine below_set ?_ GE236.out) | exact HB.out)⟩⟩
 case rest =>
  clear HC5
  try clear c2
  try clear p2
  try clear c3
  try clear c8
  try clear c9
  try clear hcz7_0
  try clear hcz7_1
  try clear hcz7_2
  try clear hcz7_3
  try clear hfz7_0
  try clear hfz7_1
  try clear hfz7_2
  try clear hfz7_3
  obtain ⟨kq, x27_4, rfl, HA, HJ4, BK236, HB⟩ := hcut
  cases kq with
  | zero => exact absurd HA.out (by simp [sutlerref07_one.j0])
  | succ kj4 =>
   have H := HA.out
   clear HA
   simp only [sutlerref07_one.j0] at H
   by_cases c10 : x27_4 = true
   ·subst c10
    have H1 : (some 7) = some r := by rw [if_pos rfl] at H; exact H
    clear H
    have H := H1
    clear H1
    obtain rfl := Option.some.inj H
    go_wp2
    go_ret
    exact ⟨by first | rfl | (simp [errW_none, errW_some] <;> rfl) | (simp [*, errW_none, errW_some] <;> rfl), by repeat (first | (with_reducible first | exact HB.out | apply below_alloc | apply pw_below_drewN | apply below_drew1 | refine below_set ?_ GE236.out) | exact HB.out)⟩
   ·replace c10 := Bool.eq_false_iff.mpr c10
    subst c10
    have H1 : (if a0_3 < 0 then (some 1) else (if a0_3 > 1099511627776 then (some 1) else (some 0))) = some r := by rw [if_neg (show ¬ (false = true) by decide)] at H; exact H
    clear H
    have H := H1
    clear H1
    by_cases c11 : a0_3 < 0
    ·rw [if_pos c11] at H
     have c11b0 : decide (a0_3 < 0) = true := decide_eq_true c11
     clear c11
     obtain rfl := Option.some.inj H
     have hcz12_0 : wc.cell? ⟨gb236, 0, none⟩ = some (.string a0_0) := (blk_cell BK236.out 0).trans rfl
     have hcz12_1 : wc.cell? ⟨gb236, 1, none⟩ = some (.string a0_1) := (blk_cell BK236.out 1).trans rfl
     have hcz12_2 : wc.cell? ⟨gb236, 2, none⟩ = some (.string a0_2) := (blk_cell BK236.out 2).trans rfl
     have hcz12_3 : wc.cell? ⟨gb236, 3, none⟩ = some (.int .i64 a0_3) := (blk_cell BK236.out 3).trans rfl
     have hfz12_0 := blk_frozen BK236.out 0
     have hfz12_1 := blk_frozen BK236.out 1
     have hfz12_2 := blk_frozen BK236.out 2
     have hfz12_3 := blk_frozen BK236.out 3
     go_wp2
     go_ret
     exact ⟨by first | rfl | (simp [errW_none, errW_some] <;> rfl) | (simp [*, errW_none, errW_some] <;> rfl), by repeat (first | (with_reducible first | exact HB.out | apply below_alloc | apply pw_below_drewN | apply below_drew1 | refine below_set ?_ GE236.out) | exact HB.out)⟩
    ·rw [if_neg c11] at H
     have c11b0 : decide (a0_3 < 0) = false := decide_eq_false c11
     clear c11
     by_cases c13 : a0_3 > 1099511627776
     ·rw [if_pos c13] at H
      have c13b0 : decide (1099511627776 < a0_3) = true := decide_eq_true c13
      clear c13
      obtain rfl := Option.some.inj H
      have hcz14_0 : wc.cell? ⟨gb236, 0, none⟩ = some (.string a0_0) := (blk_cell BK236.out 0).trans rfl
      have hcz14_1 : wc.cell? ⟨gb236, 1, none⟩ = some (.string a0_1) := (blk_cell BK236.out 1).trans rfl
      have hcz14_2 : wc.cell? ⟨gb236, 2, none⟩ = some (.string a0_2) := (blk_cell BK236.out 2).trans rfl
      have hcz14_3 : wc.cell? ⟨gb236, 3, none⟩ = some (.int .i64 a0_3) := (blk_cell BK236.out 3).trans rfl
      have hfz14_0 := blk_frozen BK236.out 0
      have hfz14_1 := blk_frozen BK236.out 1
      have hfz14_2 := blk_frozen BK236.out 2
      have hfz14_3 := blk_frozen BK236.out 3
      go_wp2
      go_ret
      exact ⟨by first | rfl | (simp [errW_none, errW_some] <;> rfl) | (simp [*, errW_none, errW_some] <;> rfl), by repeat (first | (with_reducible first | exact HB.out | apply below_alloc | apply pw_below_drewN | apply below_drew1 | refine below_set ?_ GE236.out) | exact HB.out)⟩
     ·rw [if_neg c13] at H
      have c13b0 : decide (1099511627776 < a0_3) = false := decide_eq_false c13
      clear c13
      obtain rfl := Option.some.inj H
      have hcz15_0 : wc.cell? ⟨gb236, 0, none⟩ = some (.string a0_0) := (blk_cell BK236.out 0).trans rfl
      have hcz15_1 : wc.cell? ⟨gb236, 1, none⟩ = some (.string a0_1) := (blk_cell BK236.out 1).trans rfl
      have hcz15_2 : wc.cell? ⟨gb236, 2, none⟩ = some (.string a0_2) := (blk_cell BK236.out 2).trans rfl
      have hcz15_3 : wc.cell? ⟨gb236, 3, none⟩ = some (.int .i64 a0_3) := (blk_cell BK236.out 3).trans rfl
      have hfz15_0 := blk_frozen BK236.out 0
      have hfz15_1 := blk_frozen BK236.out 1
      have hfz15_2 := blk_frozen BK236.out 2
      have hfz15_3 := blk_frozen BK236.out 3
      go_wp2
      go_ret
      exact ⟨by first | rfl | (simp [errW_none, errW_some] <;> rfl) | (simp [*, errW_none, errW_some] <;> rfl), by repeat (first | (with_reducible first | exact HB.out | apply below_alloc | apply pw_below_drewN | apply below_drew1 | refine below_set ?_ GE236.out) | exact HB.out)⟩

end Go.Proofs.Ytiodidhbkgnicaa.PAll
