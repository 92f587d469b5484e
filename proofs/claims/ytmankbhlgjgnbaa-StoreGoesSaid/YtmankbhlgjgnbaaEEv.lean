import Derived.Test.YtmankbhlgjgnbaaPAllx0
import Derived.IntWalk
import Derived.Lib.Bytealg
import Derived.Sort.Walk0
/-! What a function with rounds answers in the end; and the order of texts. -/
set_option linter.unusedVariables false
set_option linter.unusedSimpArgs false
namespace Go.Proofs.Ytmankbhlgjgnbaa.PAll
open Go.RowKit Go.Proofs.YtmankbhlgjgnbaaW.PrintWords

/-- With enough rounds, and with any more, the answer is v. -/
def Ev {α : Type} (g : Nat → Option α) (v : α) : Prop := ∃ K, ∀ k, K ≤ k → g k = some v
section
variable {α β : Type} {g : Nat → Option α} {h : Nat → α → Option β} {a v : α} {b : β}
theorem Ev.const (v : α) : Ev (fun _ => some v) v := ⟨0, fun _ _ => rfl⟩
theorem Ev.now {o : Option α} (e : o = some v) : Ev (fun _ => o) v := ⟨0, fun _ _ => e⟩
theorem Ev.bind (hg : Ev g a) (hh : Ev (fun k => h k a) b) : Ev (fun k => (g k).bind (h k)) b := by
  obtain ⟨K, h1⟩ := hg
  obtain ⟨K2, h2⟩ := hh
  exact ⟨K + K2, fun k hk => by
    show (g k).bind (h k) = some b
    rw [h1 k (by omega)]
    exact h2 k (by omega)⟩
theorem Ev.bindNow {o : Option α} (e : o = some a) (hh : Ev (fun k => h k a) b) : Ev (fun k => o.bind (h k)) b := by
  subst e
  exact hh
theorem Ev.succ (hs : Ev (fun k => g (k + 1)) v) : Ev g v := by
  obtain ⟨K, h1⟩ := hs
  exact ⟨K + 1, fun k hk => by
    obtain ⟨j, rfl⟩ : ∃ j, k = j + 1 := ⟨k - 1, by omega⟩
    exact h1 j (by omega)⟩
theorem Ev.get (e : Ev g v) : ∃ k, g k = some v := by
  obtain ⟨K, h1⟩ := e
  exact ⟨K, h1 K (Nat.le_refl _)⟩
theorem Ev.of_mono (hm : ∀ k, LeO (g k) (g (k + 1))) (K : Nat) (e : g K = some v) : Ev g v :=
  ⟨K, fun k hk => by
    obtain ⟨d, rfl⟩ : ∃ d, k = K + d := ⟨k - K, by omega⟩
    clear hk
    induction d with
    | zero => exact e
    | succ d ih => exact hm _ _ ih⟩
theorem Ev.to {v' : α} (e : Ev g v) (hv : v = v') : Ev g v' := hv ▸ e
end

theorem w_succ {i : Nat} (h : i + 1 ≤ 9223372036854775807) : wrap64 ((i : Int) + 1) = ((i + 1 : Nat) : Int) := by
  rw [Go.IntWalk.wrap64_in _ (by omega)]
  omega
theorem w_pred {i : Nat} (h0 : 0 < i) (h : i ≤ 9223372036854775807) : wrap64 ((i : Int) - 1) = ((i - 1 : Nat) : Int) := by
  rw [Go.IntWalk.wrap64_in _ (by omega)]
  omega

/-! ### texts in their order -/
theorem cb_lt : ∀ (a b : List UInt8), Lib.compareBytes a b < 0 ↔ a < b
  | [], [] => by simp [Lib.compareBytes]
  | [], _ :: _ => by simp [Lib.compareBytes]
  | _ :: _, [] => by simp [Lib.compareBytes]
  | x :: r, y :: s => by
    rw [Lib.compareBytes, List.cons_lt_cons_iff]
    by_cases h1 : x < y
    · simp [h1]
    · by_cases h2 : y < x
      · simp only [if_neg h1, if_pos h2, h1, false_or]
        constructor
        · intro h
          exact absurd h (by decide)
        · rintro ⟨rfl, _⟩
          exact absurd h2 h1
      · have he : x = y := UInt8.le_antisymm (UInt8.not_lt.1 h2) (UInt8.not_lt.1 h1)
        subst he
        simp only [h1, if_false, false_or, true_and]
        exact cb_lt r s
theorem cb_zero : ∀ (a b : List UInt8), Lib.compareBytes a b = 0 ↔ a = b
  | [], [] => by simp [Lib.compareBytes]
  | [], _ :: _ => by simp [Lib.compareBytes]
  | _ :: _, [] => by simp [Lib.compareBytes]
  | x :: r, y :: s => by
    rw [Lib.compareBytes, List.cons.injEq]
    by_cases h1 : x < y
    · simp only [if_pos h1]
      constructor
      · intro h
        omega
      · rintro ⟨rfl, _⟩
        exact absurd h1 (UInt8.lt_irrefl _)
    · by_cases h2 : y < x
      · simp only [if_neg h1, if_pos h2]
        constructor
        · intro h
          omega
        · rintro ⟨rfl, _⟩
          exact absurd h2 h1
      · have he : x = y := UInt8.le_antisymm (UInt8.not_lt.1 h2) (UInt8.not_lt.1 h1)
        subst he
        simp only [h1, if_false, true_and]
        exact cb_zero r s
theorem ll_tri {a b : List UInt8} (h : ¬ a < b) (hne : a ≠ b) : b < a := by
  rcases Decidable.em (b < a) with h2 | h2
  · exact h2
  · exact absurd (List.le_antisymm (List.not_lt.1 h2) (List.not_lt.1 h)) hne
theorem bytes_ext {a b : ByteArray} (h : a.data.toList = b.data.toList) : a = b := ByteArray.ext (Array.ext' h)
end Go.Proofs.Ytmankbhlgjgnbaa.PAll
