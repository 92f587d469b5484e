import Derived.Test.YthgdeoacplcceaaDoorSName
import Derived.Lib.ItoaNum
import Derived.Lib.ParseIntB
import Derived.Test.YthgdeoacplcceaaDoorPAllx8
set_option linter.unusedVariables false
set_option linter.unusedSimpArgs false
namespace Go.Proofs.YthgdeoacplcceaaDoor.PAll
open Go.RowKit Go.Proofs.YthgdeoacplcceaaDoorW.PrintWords Go.Lib

/-! ### numerals -/
def isDig (c : UInt8) : Prop := 48 ≤ c.toNat ∧ c.toNat ≤ 57
instance (c : UInt8) : Decidable (isDig c) := by unfold isDig; infer_instance
def digF (acc : Nat) : List UInt8 → Nat
  | [] => acc
  | c :: r => digF (if isDig c then acc * 10 + (c.toNat - 48) else acc) r
theorem digF_append (xs ys : List UInt8) : ∀ acc, digF acc (xs ++ ys) = digF (digF acc xs) ys := by
  induction xs with
  | nil => intro acc; rfl
  | cons c r ih => intro acc; exact ih _
theorem dig_toNat {d : Nat} (h : d < 10) : (UInt8.ofNat (48 + d)).toNat = 48 + d := by
  rw [UInt8.toNat_ofNat']
  omega
theorem decDigits_small {u : Nat} (h : u < 10) : decDigits u = [UInt8.ofNat (48 + u)] := by rw [decDigits, dif_pos h]
theorem decDigits_big {u : Nat} (h : ¬ u < 10) : decDigits u = decDigits (u / 10) ++ [UInt8.ofNat (48 + u % 10)] := by rw [decDigits, dif_neg h]
theorem decDigits_dig (u : Nat) : ∀ c ∈ decDigits u, isDig c := by
  induction u using Nat.strongRecOn with
  | _ u ih =>
    intro c hc
    by_cases h : u < 10
    · rw [decDigits_small h, List.mem_singleton] at hc
      subst hc
      unfold isDig
      rw [dig_toNat h]
      omega
    · rw [decDigits_big h, List.mem_append, List.mem_singleton] at hc
      rcases hc with hc | rfl
      · exact ih (u / 10) (by omega) c hc
      · unfold isDig
        rw [dig_toNat (Nat.mod_lt _ (by decide))]
        have := Nat.mod_lt u (show 0 < 10 by decide)
        omega
theorem decDigits_ne (u : Nat) : decDigits u ≠ [] := by
  by_cases h : u < 10
  · rw [decDigits_small h]; simp
  · rw [decDigits_big h]; simp
theorem digF_dec (u : Nat) : digF 0 (decDigits u) = u := by
  induction u using Nat.strongRecOn with
  | _ u ih =>
    by_cases h : u < 10
    · rw [decDigits_small h]
      simp only [digF]
      have hd : isDig (UInt8.ofNat (48 + u)) := by unfold isDig; rw [dig_toNat h]; omega
      rw [if_pos hd, dig_toNat h]
      omega
    · rw [decDigits_big h, digF_append, ih (u / 10) (by omega)]
      have hm := Nat.mod_lt u (show 0 < 10 by decide)
      have hd : isDig (UInt8.ofNat (48 + u % 10)) := by unfold isDig; rw [dig_toNat hm]; omega
      simp only [digF]
      rw [if_pos hd, dig_toNat hm]
      omega
theorem decDigits_len (k : Nat) : ∀ u, u < 10 ^ (k + 1) → (decDigits u).length ≤ k + 1 := by
  induction k with
  | zero =>
    intro u h
    rw [decDigits_small (by simpa using h)]
    simp
  | succ k ih =>
    intro u h
    by_cases h10 : u < 10
    · rw [decDigits_small h10]
      simp
    · rw [decDigits_big h10, List.length_append]
      have := ih (u / 10) (by rw [Nat.pow_succ] at h; omega)
      simp only [List.length_singleton]
      omega
theorem parseU_append (M : Nat) : ∀ (xs : List UInt8) (acc v : Nat) (ys : List UInt8), parseUintM M acc xs = .ok v → parseUintM M acc (xs ++ ys) = parseUintM M v ys
  | [], acc, v, ys, h => by
    unfold parseUintM at h
    cases h
    rfl
  | c :: r, acc, v, ys, h => by
    rw [List.cons_append]
    unfold parseUintM at h
    conv => lhs; unfold parseUintM
    split at h
    · rename_i h1
      rw [if_pos h1]
      split at h
      · cases h
      · rename_i h2
        rw [if_neg h2]
        split at h
        · cases h
        · rename_i h3
          rw [if_neg h3]
          exact parseU_append M r _ v ys h
    · cases h
theorem parseU_dec (u : Nat) (hu : u < 1000000000000000000) : parseUintM (2 ^ 64 - 1) 0 (decDigits u) = .ok u := by
  induction u using Nat.strongRecOn with
  | _ u ih =>
    have step : ∀ v d : Nat, d < 10 → v < 100000000000000000 → parseUintM (2 ^ 64 - 1) v [UInt8.ofNat (48 + d)] = .ok (v * 10 + d) := by
      intro v d hd hv
      unfold parseUintM
      rw [if_pos (by rw [dig_toNat hd]; omega), if_neg (by omega), dig_toNat hd, if_neg (by omega)]
      unfold parseUintM
      rw [show 48 + d - 48 = d by omega]
    by_cases h : u < 10
    · rw [decDigits_small h]
      have := step 0 u h (by omega)
      simpa using this
    · rw [decDigits_big h, parseU_append _ _ _ _ _ (ih (u / 10) (by omega) (by omega)), step (u / 10) (u % 10) (Nat.mod_lt _ (by decide)) (by omega)]
      congr 1
      omega
theorem head_dig {u : Nat} {c : UInt8} {r : List UInt8} (h : decDigits u = c :: r) : isDig c := decDigits_dig u c (by rw [h]; exact List.mem_cons_self)
theorem parseI_itoa (n : Int) (h0 : -100000000000000000 < n) (h1 : n < 100000000000000000) : parseIntB 64 (itoa n) = .ok n := by
  unfold itoa
  by_cases hn : n < 0
  · rw [if_pos hn]
    have hp : parseUintB 64 (decDigits n.natAbs) = .ok n.natAbs := by
      unfold parseUintB
      rw [if_neg (decDigits_ne _)]
      exact parseU_dec _ (by omega)
    unfold parseIntB
    simp only [show (45 : UInt8).toNat = 45 from rfl, or_true, if_true]
    rw [hp]
    simp only [not_true_eq_false, false_and, if_false, true_and]
    rw [if_neg (by omega)]
    congr 1
    omega
  · rw [if_neg hn]
    have hp : parseUintB 64 (decDigits n.toNat) = .ok n.toNat := by
      unfold parseUintB
      rw [if_neg (decDigits_ne _)]
      exact parseU_dec _ (by omega)
    cases hd : decDigits n.toNat with
    | nil => exact absurd hd (decDigits_ne _)
    | cons c r =>
      have hc := head_dig hd
      unfold isDig at hc
      rw [hd] at hp
      unfold parseIntB
      simp only [show ¬ (c.toNat = 43 ∨ c.toNat = 45) by omega, if_false]
      rw [hp]
      simp only [show ¬ c.toNat = 45 by omega, not_false_eq_true, true_and, false_and, if_false]
      rw [if_neg (by omega)]
      congr 1
      omega
theorem itoa_len {n : Int} (h0 : -2147483648 ≤ n) (h1 : n ≤ 2147483648) : (itoa n).length ≤ 11 := by
  unfold itoa
  split
  · have := decDigits_len 9 n.natAbs (by omega)
    simp only [List.length_cons]
    omega
  · have := decDigits_len 9 n.toNat (by omega)
    omega
/-- What the document's way of reading makes of a text. -/
def readV (l : List UInt8) : Int := if l.head? = some 45 then -(digF 0 l : Int) else digF 0 l
theorem readV_itoa (n : Int) : readV (itoa n) = n := by
  unfold itoa
  by_cases hn : n < 0
  · rw [if_pos hn]
    unfold readV
    rw [List.head?_cons, if_pos rfl]
    have : digF 0 (45 :: decDigits n.natAbs) = n.natAbs := by
      simp only [digF]
      rw [if_neg (by unfold isDig; decide), digF_dec]
    rw [this]
    omega
  · rw [if_neg hn]
    unfold readV
    cases hd : decDigits n.toNat with
    | nil => exact absurd hd (decDigits_ne _)
    | cons c r =>
      have hc := head_dig hd
      have hne : ¬ (some c = some (45 : UInt8)) := by
        intro h
        have := Option.some.inj h
        subst this
        unfold isDig at hc
        exact absurd hc.1 (by decide)
      rw [List.head?_cons, if_neg hne, ← hd, digF_dec]
      omega
end Go.Proofs.YthgdeoacplcceaaDoor.PAll
