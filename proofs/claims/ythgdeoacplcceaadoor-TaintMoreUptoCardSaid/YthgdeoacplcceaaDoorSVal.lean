import Derived.Test.YthgdeoacplcceaaDoorSNum
import Derived.Test.YthgdeoacplcceaaDoorEValue
set_option linter.unusedVariables false
set_option linter.unusedSimpArgs false
namespace Go.Proofs.YthgdeoacplcceaaDoor.PAll
open Go.RowKit Go.Proofs.YthgdeoacplcceaaDoorW.PrintWords Go.Lib

def signL (n : Int) : List UInt8 := if n < 0 then [45] else []
theorem itoa_sign (n : Int) : itoa n = signL n ++ decDigits n.natAbs := by
  unfold itoa signL
  by_cases h : n < 0
  · rw [if_pos h, if_pos h]; rfl
  · rw [if_neg h, if_neg h, List.nil_append]
    congr 1
    omega
theorem str_one {z : Int} {d : Nat} (hd : d < 10) (hz : z = 48 + (d : Int)) : strOfNums [z % 256] = ⟨#[UInt8.ofNat (48 + d)]⟩ := by
  unfold strOfNums
  have : (z % 256).toNat = 48 + d := by omega
  simp [this]
theorem w_in {z : Int} (h : -9223372036854775808 ≤ z ∧ z ≤ 9223372036854775807) : wrap64 z = z := Go.IntWalk.wrap64_in z h
theorem size_of_list {b : ByteArray} {l : List UInt8} (h : b.data.toList = l) : b.size = l.length := by
  rw [← h]
  rfl
theorem mk_eq {a : ByteArray} {l : List UInt8} (h : a.data.toList = l) : a = ⟨l.toArray⟩ := bytes_ext (by rw [h])
theorem ev_Dec_l (n : Int) : ∀ (u : Nat) (x : Int) (s : ByteArray), x.natAbs = u → u < 1000000000000000000 → s.size + (decDigits u).length ≤ 1000 →
    Ev (fun k => sutlerref03_Decimal.l0 k n s x) ⟨(signL n ++ decDigits u ++ s.data.toList).toArray⟩ := by
  intro u
  induction u using Nat.strongRecOn with
  | _ u ih =>
    intro x s hx hu hs
    have hm := Nat.mod_lt u (show 0 < 10 by decide)
    have h1 : 1 ≤ (decDigits u).length := by
      have := decDigits_ne u
      cases h : decDigits u with
      | nil => exact absurd h this
      | cons c r => simp
    have key : ∀ q : Int, q.natAbs = u / 10 → Ev (fun k => if (⟨#[UInt8.ofNat (48 + u % 10)]⟩ : ByteArray).size + s.size ≤ 9223372036854775807 then (if q = 0 then (if n < 0 then (if 1 + ((⟨#[UInt8.ofNat (48 + u % 10)]⟩ : ByteArray) ++ s).size ≤ 9223372036854775807 then (some ((⟨#[45]⟩ : ByteArray) ++ ((⟨#[UInt8.ofNat (48 + u % 10)]⟩ : ByteArray) ++ s))) else (none)) else (some ((⟨#[UInt8.ofNat (48 + u % 10)]⟩ : ByteArray) ++ s))) else (sutlerref03_Decimal.l0 k n ((⟨#[UInt8.ofNat (48 + u % 10)]⟩ : ByteArray) ++ s) q)) else (none)) ⟨(signL n ++ decDigits u ++ s.data.toList).toArray⟩ := by
      intro q hq
      have hsz : (⟨#[UInt8.ofNat (48 + u % 10)]⟩ : ByteArray).size = 1 := rfl
      have hap : ((⟨#[UInt8.ofNat (48 + u % 10)]⟩ : ByteArray) ++ s).size = 1 + s.size := by rw [ByteArray.size_append, hsz]
      simp only [hsz, hap, if_pos (show 1 + s.size ≤ 9223372036854775807 by omega)]
      by_cases h10 : u < 10
      · have hq0 : q = 0 := by omega
        have e1 : decDigits u = [UInt8.ofNat (48 + u % 10)] := by rw [decDigits_small h10, Nat.mod_eq_of_lt h10]
        simp only [hq0, if_true]
        by_cases hn : n < 0
        · simp only [if_pos hn, if_pos (show 1 + (1 + s.size) ≤ 9223372036854775807 by omega)]
          refine (Ev.const _).to (mk_eq ?_)
          rw [e1]
          unfold signL
          rw [if_pos hn, ByteArray.data_append, ByteArray.data_append, Array.toList_append, Array.toList_append]
          simp
        · simp only [if_neg hn]
          refine (Ev.const _).to (mk_eq ?_)
          rw [e1]
          unfold signL
          rw [if_neg hn, ByteArray.data_append, Array.toList_append]
          simp
      · have hq0 : ¬ q = 0 := by omega
        simp only [if_neg hq0]
        have e1 := decDigits_big h10
        have el := congrArg List.length e1
        simp only [List.length_append, List.length_singleton] at el
        refine (ih (u / 10) (by omega) q _ hq (by omega) (by rw [hap]; omega)).to ?_
        rw [e1, ByteArray.data_append, Array.toList_append]
        simp
    rcases Nat.lt_or_ge 0 u with hpos | hz
    · by_cases hneg : x < 0
      · have hxu : x = -(u : Int) := by omega
        have htm : Int.tmod x 10 = -((u % 10 : Nat) : Int) := by
          rw [hxu, Int.neg_tmod, Int.tmod_eq_emod_of_nonneg (by omega)]
          omega
        have htd : Int.tdiv x 10 = -((u / 10 : Nat) : Int) := by
          rw [hxu, Int.neg_tdiv, Int.tdiv_eq_ediv_of_nonneg (by omega)]
          omega
        refine Ev.succ ?_
        simp only [sutlerref03_Decimal.l0, htm, htd]
        rw [w_in (z := -((u / 10 : Nat) : Int)) (by omega)]
        by_cases hd0 : u % 10 = 0
        · simp only [if_neg (show ¬ (-((u % 10 : Nat) : Int) < 0) by omega), Option.bind_some]
          rw [str_one hm (show wrap64 (48 + -((u % 10 : Nat) : Int)) = 48 + ((u % 10 : Nat) : Int) by rw [w_in (by omega)]; omega)]
          exact key _ (by omega)
        · simp only [if_pos (show (-((u % 10 : Nat) : Int) < 0) by omega), Option.bind_some, Int.neg_neg]
          rw [w_in (z := ((u % 10 : Nat) : Int)) (by omega), str_one hm (show wrap64 (48 + ((u % 10 : Nat) : Int)) = 48 + ((u % 10 : Nat) : Int) by rw [w_in (by omega)])]
          exact key _ (by omega)
      · have hxu : x = (u : Int) := by omega
        have htm : Int.tmod x 10 = ((u % 10 : Nat) : Int) := by
          rw [hxu, Int.tmod_eq_emod_of_nonneg (by omega)]
          omega
        have htd : Int.tdiv x 10 = ((u / 10 : Nat) : Int) := by
          rw [hxu, Int.tdiv_eq_ediv_of_nonneg (by omega)]
          omega
        refine Ev.succ ?_
        simp only [sutlerref03_Decimal.l0, htm, htd]
        rw [w_in (z := ((u / 10 : Nat) : Int)) (by omega)]
        simp only [if_neg (show ¬ (((u % 10 : Nat) : Int) < 0) by omega), Option.bind_some]
        rw [str_one hm (show wrap64 (48 + ((u % 10 : Nat) : Int)) = 48 + ((u % 10 : Nat) : Int) by rw [w_in (by omega)])]
        exact key _ (by omega)
    · have hu0 : u = 0 := by omega
      have hx0 : x = 0 := by omega
      subst hx0
      refine Ev.succ ?_
      have htm : Int.tmod 0 10 = 0 := rfl
      have htd : Int.tdiv 0 10 = 0 := rfl
      simp only [sutlerref03_Decimal.l0, htm, htd]
      rw [w_in (z := 0) (by omega)]
      simp only [if_neg (show ¬ ((0 : Int) < 0) by decide), Option.bind_some]
      rw [str_one hm (show wrap64 (48 + 0) = 48 + ((u % 10 : Nat) : Int) by rw [w_in (by omega)]; omega)]
      exact key 0 (by omega)
theorem ev_Dec (n : Int) (h : n.natAbs < 1000000000000000000) : Ev (fun k => sutlerref03_Decimal.f k n) ⟨(itoa n).toArray⟩ := by
  unfold sutlerref03_Decimal.f
  refine (ev_Dec_l n n.natAbs n ⟨#[]⟩ rfl h ?_).to ?_
  · have := decDigits_len 17 n.natAbs (by omega)
    show 0 + _ ≤ 1000
    omega
  · rw [itoa_sign]
    simp

/-! ### what the document reads -/
theorem bt_get (s : ByteArray) (i : Nat) (h : i < s.data.toList.length) : bt s (i : Int) = ((s.data.toList[i]'h).toNat : Int) := by
  have hs : i < s.size := h
  have := bt_at s (i : Int) (by rw [Int.toNat_natCast]; exact hs)
  rw [← this]
  simp only [Int.toNat_natCast]
  rfl
theorem digF_lt : ∀ (l : List UInt8) (acc : Nat), digF acc l < (acc + 1) * 10 ^ l.length
  | [], acc => by simp [digF]
  | c :: r, acc => by
    have ih := digF_lt r (if isDig c then acc * 10 + (c.toNat - 48) else acc)
    unfold digF
    refine Nat.lt_of_lt_of_le ih ?_
    rw [List.length_cons, Nat.pow_succ, Nat.mul_comm (10 ^ r.length) 10, ← Nat.mul_assoc]
    refine Nat.mul_le_mul_right _ ?_
    split
    · rename_i hd
      unfold isDig at hd
      omega
    · omega
def endV (s : ByteArray) (v : Int) : Int × Bool := if itoa v = s.data.toList ∧ -2147483648 ≤ v ∧ v ≤ 2147483648 then (v, true) else (0, false)
theorem ev_Num_j (s : ByteArray) (a : Nat) (ha : a < 1000000000000000000) (neg : Bool) : Ev (fun k => sutlerref03_Number.j1 k s (a : Int) neg) (endV s (if neg = true then -(a : Int) else a)) := by
  have fin : ∀ v : Int, v.natAbs < 1000000000000000000 → Ev (fun k => (sutlerref03_Decimal.f k v).bind fun t => if t.toList = s.toList then (if v < -2147483648 then (some (0, false)) else (if v > 2147483648 then (some (0, false)) else (some (v, true)))) else (some (0, false))) (endV s v) := by
    intro v hv
    refine Ev.bind (ev_Dec v hv) ?_
    unfold endV
    by_cases h1 : itoa v = s.data.toList
    · have e1 : (⟨(itoa v).toArray⟩ : ByteArray).toList = s.toList := by rw [ByteArray.toList_eq, ByteArray.toList_eq]; exact h1
      simp only [if_pos e1]
      by_cases h2 : v < -2147483648
      · simp only [if_pos h2]
        rw [if_neg (by omega)]
        exact Ev.const _
      · by_cases h3 : v > 2147483648
        · simp only [if_neg h2, if_pos h3]
          rw [if_neg (by omega)]
          exact Ev.const _
        · simp only [if_neg h2, if_neg h3]
          rw [if_pos ⟨h1, by omega, by omega⟩]
          exact Ev.const _
    · have e1 : ¬ (⟨(itoa v).toArray⟩ : ByteArray).toList = s.toList := by rw [ByteArray.toList_eq, ByteArray.toList_eq]; exact h1
      simp only [if_neg e1]
      rw [if_neg (fun h => h1 h.1)]
      exact Ev.const _
  refine Ev.succ ?_
  cases neg
  · simp only [sutlerref03_Number.j1, Bool.false_eq_true, if_false]
    exact fin a (by omega)
  · simp only [sutlerref03_Number.j1, if_true]
    rw [w_in (z := -(a : Int)) (by omega)]
    exact fin (-(a : Int)) (by omega)
theorem ev_Num_l (s : ByteArray) (hs : s.size ≤ 11) : ∀ m i a : Nat, i + m = s.size → a < 10 ^ i → Ev (fun k => sutlerref03_Number.l0 k s (a : Int) (i : Int)) (endV s (if s.data.toList.head? = some 45 then -(digF a (s.data.toList.drop i) : Int) else digF a (s.data.toList.drop i)))
  | 0, i, a, h, ha => by
    have hp : 10 ^ i ≤ 10 ^ 11 := Nat.pow_le_pow_right (by decide) (by omega)
    have hlen : s.data.toList.length = s.size := rfl
    rw [List.drop_eq_nil_of_le (by omega)]
    refine Ev.succ ?_
    simp only [sutlerref03_Number.l0, if_neg (show ¬ ((i : Int) < (s.size : Int)) by omega), digF]
    by_cases h0 : (s.size : Int) > 0
    · simp only [if_pos h0]
      have hb := bt_get s 0 (by omega)
      have hh : s.data.toList.head? = some (s.data.toList[0]'(by omega)) := by rw [List.head?_eq_getElem?, List.getElem?_eq_getElem]
      refine (ev_Num_j s a (by omega) _).to ?_
      rw [hh]
      have hb2 : bt s 0 = ((s.data.toList[0]'(by omega)).toNat : Int) := hb
      by_cases h45 : (s.data.toList[0]'(by omega)) = 45
      · rw [if_pos (by rw [hb2, h45]; rfl), if_pos (by rw [h45])]
      · rw [if_neg (by
          rw [hb2, beq_iff_eq]
          intro h
          exact h45 (UInt8.toNat_inj.1 (show (s.data.toList[0]'(by omega)).toNat = 45 by omega))), if_neg (fun h => h45 (Option.some.inj h))]
    · simp only [if_neg h0]
      have hnil : s.data.toList = [] := List.eq_nil_of_length_eq_zero (by omega)
      refine (ev_Num_j s a (by omega) _).to ?_
      rw [hnil]
      simp
  | m + 1, i, a, h, ha => by
    have hlen : s.data.toList.length = s.size := rfl
    have hi : i < s.data.toList.length := by omega
    have hp : 10 ^ i ≤ 10 ^ 11 := Nat.pow_le_pow_right (by decide) (by omega)
    have hb := bt_get s i hi
    rw [List.drop_eq_getElem_cons hi]
    refine Ev.succ ?_
    simp only [sutlerref03_Number.l0, if_pos (show (i : Int) < (s.size : Int) by omega), if_pos (show (0 : Int) ≤ (i : Int) by omega), hb, w_succ (show i + 1 ≤ 9223372036854775807 by omega), digF]
    have hc := (s.data.toList[i]'hi).toNat_lt
    by_cases h1 : ((s.data.toList[i]'hi).toNat : Int) ≥ 48
    · by_cases h2 : ((s.data.toList[i]'hi).toNat : Int) ≤ 57
      · have hd : isDig (s.data.toList[i]'hi) := ⟨by omega, by omega⟩
        simp only [if_pos h1, if_pos h2, if_pos hd]
        have e1 : wrap64 (wrap64 ((a : Int) * 10) + (((s.data.toList[i]'hi).toNat : Int) - 48) % 256) = ((a * 10 + ((s.data.toList[i]'hi).toNat - 48) : Nat) : Int) := by
          rw [w_in (z := (a : Int) * 10) (by omega), w_in (by omega)]
          omega
        simp only [e1]
        exact ev_Num_l s hs m (i + 1) _ (by omega) (by rw [Nat.pow_succ]; omega)
      · have hd : ¬ isDig (s.data.toList[i]'hi) := fun h => h2 (by have := h.2; omega)
        simp only [if_pos h1, if_neg h2, if_neg hd]
        exact ev_Num_l s hs m (i + 1) a (by omega) (by rw [Nat.pow_succ]; omega)
    · have hd : ¬ isDig (s.data.toList[i]'hi) := fun h => h1 (by have := h.1; omega)
      simp only [if_neg h1, if_neg hd]
      exact ev_Num_l s hs m (i + 1) a (by omega) (by rw [Nat.pow_succ]; omega)
theorem numberV_end (s : ByteArray) (hs : s.size ≤ 11) : (endV s (readV s.data.toList)).2 = (numberV s).isSome := by
  unfold endV
  by_cases h : itoa (readV s.data.toList) = s.data.toList ∧ -2147483648 ≤ readV s.data.toList ∧ readV s.data.toList ≤ 2147483648
  · rw [if_pos h]
    obtain ⟨h1, h2, h3⟩ := h
    have hp := parseI_itoa (readV s.data.toList) (by omega) (by omega)
    rw [h1] at hp
    unfold numberV
    rw [hp]
    simp only [if_pos (show -2147483648 ≤ readV s.data.toList ∧ readV s.data.toList ≤ 2147483648 ∧ itoa (readV s.data.toList) = s.data.toList from ⟨h2, h3, h1⟩), Option.isSome_some]
  · rw [if_neg h]
    cases hv : numberV s with
    | none => rfl
    | some v =>
      exfalso
      unfold numberV at hv
      split at hv
      · split at hv
        · rename_i n _ hn
          obtain ⟨h2, h3, h1⟩ := hn
          have : readV s.data.toList = n := by rw [← h1, readV_itoa]
          exact h ⟨by rw [this]; exact h1, by omega, by omega⟩
        · cases hv
      · cases hv
theorem numberV_long (s : ByteArray) (hs : ¬ s.size ≤ 11) : numberV s = none := by
  unfold numberV
  split
  · split
    · rename_i n _ hn
      obtain ⟨h2, h3, h1⟩ := hn
      have := itoa_len h2 h3
      rw [h1] at this
      exact absurd this hs
    · rfl
  · rfl
theorem ev_Num (s : ByteArray) : ∃ v : Int, Ev (fun k => sutlerref03_Number.f k s) (v, (numberV s).isSome) := by
  unfold sutlerref03_Number.f
  by_cases h : s.size ≤ 11
  · simp only [if_neg (show ¬ (s.size : Int) > 11 by omega)]
    refine ⟨(endV s (readV s.data.toList)).1, (ev_Num_l s h s.size 0 0 (by omega) (by decide)).to ?_⟩
    rw [← numberV_end s h, List.drop_zero]
    rfl
  · simp only [if_pos (show (s.size : Int) > 11 by omega)]
    refine ⟨0, (Ev.const _).to ?_⟩
    rw [numberV_long s h]
    rfl
theorem ev_Val (s : ByteArray) (hs : s.size ≤ 9223372036854775806) : Ev (fun k => sutlerref03_Value.f k s) (valueB s) := by
  unfold sutlerref03_Value.f
  obtain ⟨v, hv⟩ := ev_Num s
  refine Ev.bind (ev_refName s hs) (Ev.bind hv ?_)
  unfold valueB
  have e : nameB s = (nmAll s s.size && (decide (0 < s.size) && decide (s.size ≤ 16))) := rfl
  rw [← e]
  cases nameB s
  · simp only [Bool.false_eq_true, if_false, Bool.or_false]
    exact Ev.const _
  · simp only [if_true, Bool.or_true]
    exact Ev.const _
end Go.Proofs.YthgdeoacplcceaaDoor.PAll
