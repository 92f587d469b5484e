import Derived.Test.YtafncdmclhdkdaaDoorPAllx0
import Derived.Lib.ItoaNum
import Derived.Lib.ParseIntB
import Derived.Lib.TrimByte
import Derived.Laws.Concat
/-! Numerals, as lists of bytes. -/
set_option linter.unusedVariables false
set_option linter.unusedSimpArgs false
namespace Go.Proofs.YtafncdmclhdkdaaDoor.PAll
open Go.RowKit Go.Proofs.YtafncdmclhdkdaaDoorW.PrintWords Go.Lib

def isDig (c : UInt8) : Prop := 48 ≤ c.toNat ∧ c.toNat ≤ 57
instance (c : UInt8) : Decidable (isDig c) := by unfold isDig; infer_instance
/-- The number that a row of digits says. -/
def stepD (a : Nat) (c : UInt8) : Nat := a * 10 + (c.toNat - 48)
def digF (acc : Nat) (l : List UInt8) : Nat := l.foldl stepD acc
theorem digF_nil (a : Nat) : digF a [] = a := by unfold digF; rw [List.foldl_nil]
theorem digF_cons (a : Nat) (c : UInt8) (r : List UInt8) : digF a (c :: r) = digF (a * 10 + (c.toNat - 48)) r := by unfold digF; rw [List.foldl_cons]; unfold stepD; rfl
theorem digF_one (a : Nat) (c : UInt8) : digF a [c] = a * 10 + (c.toNat - 48) := by rw [digF_cons, digF_nil]
theorem digF_append (xs ys : List UInt8) (acc : Nat) : digF acc (xs ++ ys) = digF (digF acc xs) ys := by
  unfold digF
  rw [List.foldl_append]
theorem dig_toNat {d : Nat} (h : d < 10) : (UInt8.ofNat (48 + d)).toNat = 48 + d := by
  rw [UInt8.toNat_ofNat']
  omega
theorem decDigits_small {u : Nat} (h : u < 10) : decDigits u = [UInt8.ofNat (48 + u)] := by rw [decDigits, dif_pos h]
theorem decDigits_big {u : Nat} (h : ¬ u < 10) : decDigits u = decDigits (u / 10) ++ [UInt8.ofNat (48 + u % 10)] := by rw [decDigits, dif_neg h]
theorem decDigits_dig (u : Nat) : ∀ c ∈ decDigits u, isDig c := by
  induction u using Nat.strongRecOn with
  | _ u ih =>
    intro c hc
    by_cases h : u < 10
    · rw [decDigits_small h, List.mem_singleton] at hc
      subst hc
      unfold isDig
      rw [dig_toNat h]
      omega
    · rw [decDigits_big h, List.mem_append, List.mem_singleton] at hc
      rcases hc with hc | rfl
      · exact ih (u / 10) (by omega) c hc
      · unfold isDig
        rw [dig_toNat (Nat.mod_lt _ (by decide))]
        have := Nat.mod_lt u (show 0 < 10 by decide)
        omega
theorem decDigits_ne (u : Nat) : decDigits u ≠ [] := by
  by_cases h : u < 10
  · rw [decDigits_small h]; simp
  · rw [decDigits_big h]; simp
theorem digF_dec (u : Nat) : digF 0 (decDigits u) = u := by
  induction u using Nat.strongRecOn with
  | _ u ih =>
    by_cases h : u < 10
    · rw [decDigits_small h, digF_one, dig_toNat h]
      omega
    · have hm := Nat.mod_lt u (show 0 < 10 by decide)
      rw [decDigits_big h, digF_append, ih (u / 10) (by omega), digF_one, dig_toNat hm]
      omega
theorem decDigits_len (k : Nat) : ∀ u, u < 10 ^ (k + 1) → (decDigits u).length ≤ k + 1 := by
  induction k with
  | zero =>
    intro u h
    rw [decDigits_small (by simpa using h)]
    simp
  | succ k ih =>
    intro u h
    by_cases h10 : u < 10
    · rw [decDigits_small h10]
      simp
    · rw [decDigits_big h10, List.length_append]
      have := ih (u / 10) (by rw [Nat.pow_succ] at h; omega)
      simp only [List.length_singleton]
      omega
/-- With as many rounds as digits: what 'decDigits' says, so that it can be reckoned. -/
def decF : Nat → Nat → List UInt8
  | 0, _ => []
  | k + 1, u => if u < 10 then [UInt8.ofNat (48 + u)] else decF k (u / 10) ++ [UInt8.ofNat (48 + u % 10)]
theorem decF_eq (k : Nat) : ∀ u, u < 10 ^ k → 0 < k → decF k u = decDigits u := by
  induction k with
  | zero => intro u _ h; omega
  | succ k ih =>
    intro u h _
    unfold decF
    by_cases h10 : u < 10
    · rw [if_pos h10, decDigits_small h10]
    · rw [if_neg h10, decDigits_big h10]
      rcases Nat.eq_zero_or_pos k with rfl | hk
      · simp at h; omega
      · rw [ih (u / 10) (by rw [Nat.pow_succ] at h; omega) hk]
/-- A row of digits has no needless nought ahead. -/
def lean_ (l : List UInt8) : Bool := decide (1 ≤ l.length) && (decide (l.length ≤ 1) || !(l.head? == some 48)) && l.all (fun c => decide (isDig c))
theorem dig_back {c : UInt8} (h : isDig c) : UInt8.ofNat (48 + (c.toNat - 48)) = c := by
  unfold isDig at h
  apply UInt8.toNat_inj.1
  rw [dig_toNat (by omega)]
  omega
theorem digF_pos : ∀ (l : List UInt8) (acc : Nat), 0 < acc → 0 < digF acc l
  | [], acc, h => by rw [digF_nil]; exact h
  | c :: r, acc, h => by rw [digF_cons]; exact digF_pos r _ (by omega)
theorem decDigits_digF (n : Nat) : ∀ l : List UInt8, l.length = n → lean_ l = true → decDigits (digF 0 l) = l := by
  induction n with
  | zero =>
    intro l hn h
    unfold lean_ at h
    rw [hn] at h
    simp at h
  | succ n ih =>
    intro l hn h
    have hne : l ≠ [] := by intro e; rw [e] at hn; cases hn
    obtain ⟨xs, c, rfl⟩ : ∃ xs c, l = xs ++ [c] := ⟨l.dropLast, l.getLast hne, (List.dropLast_concat_getLast hne).symm⟩
    have hx : xs.length = n := by simpa using hn
    unfold lean_ at h
    simp only [Bool.and_eq_true, Bool.or_eq_true, decide_eq_true_eq, Bool.not_eq_true', List.all_eq_true] at h
    obtain ⟨⟨_, h2⟩, h3⟩ := h
    have hc := h3 c (by simp)
    have hcd : c.toNat - 48 < 10 := by unfold isDig at hc; omega
    rw [digF_append, digF_one]
    rcases Nat.eq_zero_or_pos n with rfl | hp
    · obtain rfl := List.eq_nil_of_length_eq_zero hx
      have e0 : digF 0 [] * 10 + (c.toNat - 48) = c.toNat - 48 := by rw [digF_nil]; omega
      rw [e0, decDigits_small hcd, dig_back hc, List.nil_append]
    · have hxn : xs ≠ [] := by intro e; rw [e] at hx; simp at hx; omega
      have hh : (xs ++ [c]).head? = xs.head? := by cases xs with | nil => exact absurd rfl hxn | cons => rfl
      have hh48 : (xs.head? == some 48) = false := by
        rw [← hh]
        rcases h2 with h2 | h2
        · rw [List.length_append, List.length_singleton] at h2; omega
        · exact h2
      have hlx : lean_ xs = true := by
        unfold lean_
        simp only [Bool.and_eq_true, Bool.or_eq_true, decide_eq_true_eq, Bool.not_eq_true', List.all_eq_true]
        exact ⟨⟨by omega, .inr hh48⟩, fun y hy => h3 y (by simp [hy])⟩
      have hpos : 0 < digF 0 xs := by
        cases xs with
        | nil => exact absurd rfl hxn
        | cons y r =>
          have hy := h3 y (by simp)
          have h0 : y ≠ 48 := by intro e; subst e; simp at hh48
          have : y.toNat ≠ 48 := fun e => h0 (UInt8.toNat_inj.1 e)
          unfold isDig at hy
          rw [digF_cons]
          exact digF_pos r _ (by omega)
      rw [decDigits_big (by omega), show (digF 0 xs * 10 + (c.toNat - 48)) / 10 = digF 0 xs by omega, show (digF 0 xs * 10 + (c.toNat - 48)) % 10 = c.toNat - 48 by omega, dig_back hc, ih xs hx hlx]
theorem head_dec (u : Nat) (h : 0 < u) : (decDigits u).head? ≠ some 48 := by
  induction u using Nat.strongRecOn with
  | _ u ih =>
    by_cases h10 : u < 10
    · rw [decDigits_small h10, List.head?_cons]
      intro e
      have := congrArg UInt8.toNat (Option.some.inj e)
      rw [dig_toNat h10] at this
      have : (48 : UInt8).toNat = 48 := rfl
      omega
    · rw [decDigits_big h10]
      have := ih (u / 10) (by omega) (by omega)
      cases hd : decDigits (u / 10) with
      | nil => exact absurd hd (decDigits_ne _)
      | cons c r => rw [hd] at this; simpa using this
theorem lean_dec (u : Nat) : lean_ (decDigits u) = true := by
  unfold lean_
  simp only [Bool.and_eq_true, Bool.or_eq_true, decide_eq_true_eq, Bool.not_eq_true', List.all_eq_true, beq_eq_false_iff_ne]
  refine ⟨⟨?_, ?_⟩, decDigits_dig u⟩
  · cases hd : decDigits u with
    | nil => exact absurd hd (decDigits_ne _)
    | cons c r => simp
  · by_cases h10 : u < 10
    · left; rw [decDigits_small h10]; simp
    · right; exact head_dec u (by omega)
theorem digF_lt : ∀ (l : List UInt8) (acc : Nat), (∀ c ∈ l, isDig c) → digF acc l < (acc + 1) * 10 ^ l.length
  | [], acc, _ => by rw [digF_nil, List.length_nil, Nat.pow_zero, Nat.mul_one]; omega
  | c :: r, acc, h => by
    have hc := h c (by simp)
    unfold isDig at hc
    have := digF_lt r (acc * 10 + (c.toNat - 48)) (fun x hx => h x (by simp [hx]))
    rw [digF_cons, List.length_cons, Nat.pow_succ]
    refine Nat.lt_of_lt_of_le this ?_
    rw [Nat.mul_comm (10 ^ r.length) 10, ← Nat.mul_assoc]
    exact Nat.mul_le_mul_right _ (by omega)
theorem lean_all {l : List UInt8} (h : lean_ l = true) : ∀ c ∈ l, isDig c := by
  unfold lean_ at h
  simp only [Bool.and_eq_true, List.all_eq_true, decide_eq_true_eq] at h
  exact h.2
theorem lean_dec_len {u : Nat} (h : (decDigits u).length ≤ 18) : u < 1000000000000000000 := by
  have h1 := digF_lt (decDigits u) 0 (decDigits_dig u)
  rw [digF_dec] at h1
  have h2 : 10 ^ (decDigits u).length ≤ 10 ^ 18 := Nat.pow_le_pow_right (by decide) h
  omega
/-! reading -/
theorem parseU_ok : ∀ (l : List UInt8) (acc : Nat), (∀ c ∈ l, isDig c) → (acc + 1) * 10 ^ l.length ≤ 1000000000000000000 → parseUintM (2 ^ 64 - 1) acc l = .ok (digF acc l)
  | [], acc, _, _ => by unfold parseUintM; rw [digF_nil]
  | c :: r, acc, h, hb => by
    have hc := h c (by simp)
    unfold isDig at hc
    have hb2 : (acc + 1) * 10 * 10 ^ r.length ≤ 1000000000000000000 := by
      rw [List.length_cons, Nat.pow_succ, Nat.mul_comm (10 ^ r.length) 10, ← Nat.mul_assoc] at hb
      exact hb
    have hp : 1 ≤ 10 ^ r.length := Nat.one_le_pow _ _ (by decide)
    have ha : (acc + 1) * 10 ≤ 1000000000000000000 := Nat.le_trans (Nat.le_mul_of_pos_right _ hp) hb2
    unfold parseUintM
    rw [if_pos hc, if_neg (by omega), if_neg (by omega), digF_cons]
    exact parseU_ok r _ (fun x hx => h x (by simp [hx])) (Nat.le_trans (Nat.mul_le_mul_right _ (by omega)) hb2)
theorem parseU_digs : ∀ (l : List UInt8) (M acc u : Nat), parseUintM M acc l = .ok u → (∀ c ∈ l, isDig c) ∧ u = digF acc l
  | [], M, acc, u, h => by unfold parseUintM at h; cases h; exact ⟨fun c hc => (List.not_mem_nil hc).elim, (digF_nil _).symm⟩
  | c :: r, M, acc, u, h => by
    unfold parseUintM at h
    split at h
    · rename_i h1
      split at h
      · cases h
      · split at h
        · cases h
        · obtain ⟨h3, h4⟩ := parseU_digs r M _ u h
          refine ⟨fun x hx => ?_, by rw [digF_cons]; exact h4⟩
          rcases List.mem_cons.1 hx with rfl | hx
          · exact h1
          · exact h3 x hx
    · cases h
theorem itoa_nat (n : Nat) : itoa (n : Int) = decDigits n := by
  unfold itoa
  rw [if_neg (by omega)]
  rfl
theorem parse_lean (l : List UInt8) (h : lean_ l = true) (hl : l.length ≤ 18) : parseIntB 64 l = .ok (digF 0 l) := by
  have ha := lean_all h
  cases l with
  | nil => unfold lean_ at h; simp at h
  | cons c r =>
    have hc := ha c (by simp)
    unfold isDig at hc
    have hp : 10 ^ (c :: r).length ≤ 10 ^ 18 := Nat.pow_le_pow_right (by decide) hl
    have hv : parseUintB 64 (c :: r) = .ok (digF 0 (c :: r)) := by
      unfold parseUintB
      rw [if_neg (by simp)]
      exact parseU_ok _ 0 ha (by omega)
    have hlt := digF_lt (c :: r) 0 ha
    unfold parseIntB
    simp only [show ¬ (c.toNat = 43 ∨ c.toNat = 45) by omega, if_false]
    rw [hv]
    simp only [show ¬ c.toNat = 45 by omega, not_false_eq_true, true_and, false_and, if_false]
    rw [if_neg (by omega)]
end Go.Proofs.YtafncdmclhdkdaaDoor.PAll
