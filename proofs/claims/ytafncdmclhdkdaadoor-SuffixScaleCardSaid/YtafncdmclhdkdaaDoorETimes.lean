import Derived.Test.YtafncdmclhdkdaaDoorPAllx0
import Derived.WalkKit
namespace Go.Proofs.YtafncdmclhdkdaaDoor.PAll
open Go.RowKit Go.Proofs.YtafncdmclhdkdaaDoorW.PrintWords
/-- So many times a number above nought, if that is an amount. -/
def timesF (a0 a1 : Int) : Option (Int × Int) := if 0 < a1 then some (if a0 > 1125899906842624 / a1 then (0, 10) else (wrap64 (a0 * a1), 0)) else none
def suffix_times.f (a0 : Int) (a1 : Int) : Option (Int × Int) := timesF a0 a1
def sutlerref02_times.f (a0 : Int) (a1 : Int) : Option (Int × Int) := timesF a0 a1
theorem tdiv_amount {a1 : Int} (h : 0 < a1) : wrap64 (Int.tdiv 1125899906842624 a1) = 1125899906842624 / a1 := by
  rw [Int.tdiv_eq_ediv_of_nonneg (by decide)]
  have h1 : (0 : Int) ≤ 1125899906842624 / a1 := Int.ediv_nonneg (by decide) (by omega)
  have h2 : (1125899906842624 : Int) / a1 ≤ 1125899906842624 := Int.ediv_le_self _ (by decide)
  unfold wrap64
  omega
theorem suffix_times.calls (a0 : Int) (a1 : Int) (r1 : Int) (r2 : Int) (w : World) (h : suffix_times.f a0 a1 = some (r1, r2)) :
    Calls Tryd.prog 24 #[.int .i64 a0, .int .i64 a1] w fun e w' => e = .returned (.tuple #[.int .i64 r1, .int .i64 r2]) ∧ Drawn0 w w' := by
  unfold suffix_times.f timesF at h
  split at h
  case isFalse => cases h
  rename_i h0
  have h := Option.some.inj h
  have hne : (a1 == 0) = false := beq_eq_false_iff_ne.2 (by omega)
  have hne2 : ¬ a1 = 0 := by omega
  have ht := tdiv_amount h0
  generalize hg : (1125899906842624 : Int) / a1 = q at ht h
  by_cases hq : a0 > q
  · rw [if_pos hq] at h
    obtain ⟨rfl, rfl⟩ := Prod.mk.inj h
    have hq' : decide (q < a0) = true := decide_eq_true hq
    go_enter Tryd.func24, Tryd.ntmps24
    go_wp2
    all_goals first
      | (go_ret2; exact ⟨rfl, Drawn0.refl _⟩)
      | (exfalso; omega)
  · rw [if_neg hq] at h
    obtain ⟨rfl, rfl⟩ := Prod.mk.inj h
    have hq' : decide (q < a0) = false := decide_eq_false hq
    go_enter Tryd.func24, Tryd.ntmps24
    go_wp2
    all_goals first
      | (go_ret2; exact ⟨rfl, Drawn0.refl _⟩)
      | (exfalso; omega)
theorem sutlerref02_times.calls (a0 : Int) (a1 : Int) (r1 : Int) (r2 : Int) (w : World) (h : sutlerref02_times.f a0 a1 = some (r1, r2)) :
    Calls Tryd.prog 33 #[.int .i64 a0, .int .i64 a1] w fun e w' => e = .returned (.tuple #[.int .i64 r1, .int .i64 r2]) ∧ Drawn0 w w' := by
  unfold sutlerref02_times.f timesF at h
  split at h
  case isFalse => cases h
  rename_i h0
  have h := Option.some.inj h
  have hne : (a1 == 0) = false := beq_eq_false_iff_ne.2 (by omega)
  have hne2 : ¬ a1 = 0 := by omega
  have ht := tdiv_amount h0
  generalize hg : (1125899906842624 : Int) / a1 = q at ht h
  by_cases hq : a0 > q
  · rw [if_pos hq] at h
    obtain ⟨rfl, rfl⟩ := Prod.mk.inj h
    have hq' : decide (q < a0) = true := decide_eq_true hq
    go_enter Tryd.func33, Tryd.ntmps33
    go_wp2
    all_goals first
      | (go_ret2; exact ⟨rfl, Drawn0.refl _⟩)
      | (exfalso; omega)
  · rw [if_neg hq] at h
    obtain ⟨rfl, rfl⟩ := Prod.mk.inj h
    have hq' : decide (q < a0) = false := decide_eq_false hq
    go_enter Tryd.func33, Tryd.ntmps33
    go_wp2
    all_goals first
      | (go_ret2; exact ⟨rfl, Drawn0.refl _⟩)
      | (exfalso; omega)
end Go.Proofs.YtafncdmclhdkdaaDoor.PAll
