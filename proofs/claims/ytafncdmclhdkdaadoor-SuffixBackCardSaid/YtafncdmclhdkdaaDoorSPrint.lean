import Derived.Test.YtafncdmclhdkdaaDoorSBytes
import Derived.Test.YtafncdmclhdkdaaDoorPAllx1
import Derived.Test.YtafncdmclhdkdaaDoorPAllx2
import Derived.Test.YtafncdmclhdkdaaDoorPAllx7
import Derived.Test.YtafncdmclhdkdaaDoorPAllx8
import Derived.Test.YtafncdmclhdkdaaDoorPAllx9
import Derived.Laws.BitsLemmas
/-! What the program and the document print; and that what is printed is read as what it was. -/
set_option linter.unusedVariables false
set_option linter.unusedSimpArgs false
namespace Go.Proofs.YtafncdmclhdkdaaDoor.PAll
open Go.RowKit Go.Proofs.YtafncdmclhdkdaaDoorW.PrintWords Go.Proofs.YtafncdmclhdkdaaDoorW.PrintLast Go.Proofs.YtafncdmclhdkdaaDoorW.PrintMore
/-- The digits of a number. -/
def D (n : Nat) : List UInt8 := decF 20 n
theorem D_eq {n : Nat} (h : n < 100000000000000000000) : D n = Lib.decDigits n := decF_eq 20 n h (by decide)
theorem D_len {n : Nat} (h : n < 1000000000000000000) : (D n).length ≤ 18 := by
  rw [D_eq (by omega)]
  exact decDigits_len 17 n h
theorem D_dig {n : Nat} (h : n < 1000000000000000000) : ∀ c ∈ D n, isDig c := by
  rw [D_eq (by omega)]
  exact decDigits_dig n
theorem D_read {n : Nat} (h : n < 1000000000000000000) : digitsV (D n) = ((n : Int), true) := by
  rw [D_eq (by omega)]
  exact digitsV_dec h
theorem bs_add (x y : List UInt8) : bs x ++ bs y = bs (x ++ y) := ByteArray.mk_append_mk x y
theorem tm (m k : Nat) : Int.tmod (m : Int) (k : Int) = ((m % k : Nat) : Int) := rfl
theorem td (m k : Nat) : Int.tdiv (m : Int) (k : Int) = ((m / k : Nat) : Int) := rfl
theorem w_nat {a : Nat} (h : a ≤ 9223372036854775807) : wrap64 (a : Int) = (a : Int) := by unfold wrap64; omega
theorem format_eq {n : Nat} (h : n ≤ 9223372036854775807) : strconv_FormatInt.f (n : Int) 10 = some (bs (D n)) := by
  unfold strconv_FormatInt.f
  rw [if_pos ⟨by omega, by omega, rfl⟩, Int.toNat_natCast]
  rfl
theorem and_1023 (n : Int) : Go.bits .and .i64 n 1023 = n % 1024 := by
  have h1023 : (BitVec.ofInt 64 1023).toNat = 2 ^ 10 - 1 := by decide
  have key : (BitVec.ofInt 64 n &&& BitVec.ofInt 64 1023).toNat = (n % ((2 ^ 64 : Nat) : Int)).toNat % 2 ^ 10 := by
    rw [BitVec.toNat_and, BitVec.toNat_ofInt, h1023, Nat.and_two_pow_sub_one_eq_mod]
  show IntKind.i64.wrap ((BitVec.ofInt 64 n &&& BitVec.ofInt 64 1023).toNat : Nat) = n % 1024
  rw [key, IntKind.wrap_i64]
  omega
/-- Why a number is no amount. -/
def chk (n : Int) : Int := if n < 0 then 11 else if n > 1125899906842624 then 10 else 0
theorem check_eq (n : Int) : amount_Check.f n = some (chk n) := by
  unfold amount_Check.f chk
  split
  · rfl
  · split <;> rfl
theorem rcheck_eq (n : Int) : sutlerref01_Check.f n = some (chk n) := check_eq n
theorem chk_cases (n : Int) : (chk n = 0 ∧ ∃ m : Nat, n = (m : Int) ∧ m ≤ 1125899906842624) ∨ (chk n = 11 ∧ n < 0) ∨ (chk n = 10 ∧ n > 1125899906842624) := by
  unfold chk
  by_cases h0 : n < 0
  · rw [if_pos h0]; exact .inr (.inl ⟨rfl, h0⟩)
  · rw [if_neg h0]
    by_cases h1 : n > 1125899906842624
    · rw [if_pos h1]; exact .inr (.inr ⟨rfl, h1⟩)
    · rw [if_neg h1]; exact .inl ⟨rfl, n.toNat, by omega, by omega⟩
/-- What is printed, by what an amount prints. -/
def prV (f : Nat → List UInt8) (n : Int) : List UInt8 × Int := if chk n = 0 then (f n.toNat, 0) else ([], chk n)
theorem chk_nat {m : Nat} (h : m ≤ 1125899906842624) : chk (m : Int) = 0 := by
  unfold chk
  rw [if_neg (by omega), if_neg (by omega)]
theorem prV_nat {f : Nat → List UInt8} {m : Nat} (h : m ≤ 1125899906842624) : prV f (m : Int) = (f m, 0) := by
  unfold prV
  rw [if_pos (chk_nat h), Int.toNat_natCast]
theorem prV_bad {f : Nat → List UInt8} {n : Int} (h : ¬ chk n = 0) : prV f n = ([], chk n) := if_neg h
theorem prV_err (f : Nat → List UInt8) (n : Int) : (prV f n).2 = chk n := by
  unfold prV
  split
  · rename_i h; exact h.symm
  · rfl
/-! ### CPUs -/
def cpuP (m : Nat) : List UInt8 := if m % 1000 = 0 then D (m / 1000) else D m ++ [109]
theorem size_ok {x y : List UInt8} (hx : x.length ≤ 100) (hy : y.length ≤ 100) : (bs x).size + (bs y).size ≤ 9223372036854775807 := by rw [bs_size, bs_size]; omega
theorem size_ok1 {x : List UInt8} (hx : x.length ≤ 100) : (bs x).size + 1 ≤ 9223372036854775807 := by rw [bs_size]; omega
theorem D_short {m : Nat} (h : m < 1000000000000000000) : (D m).length ≤ 100 := by have := D_len h; omega
theorem pcpu_eq (n : Int) : suffix_PrintCPU.f n = some (bs (prV cpuP n).1, (prV cpuP n).2) := by
  unfold suffix_PrintCPU.f
  rw [check_eq, Option.bind_some]
  by_cases h : chk n = 0
  · rcases chk_cases n with ⟨_, m, rfl, hm⟩ | ⟨e, _⟩ | ⟨e, _⟩
    · rw [if_pos h, prV_nat hm]
      unfold cpuP
      rw [show Int.tmod (m : Int) 1000 = ((m % 1000 : Nat) : Int) from rfl, show Int.tdiv (m : Int) 1000 = ((m / 1000 : Nat) : Int) from rfl, w_nat (by omega), format_eq (by omega), format_eq (by omega), Option.bind_some, Option.bind_some]
      by_cases h0 : m % 1000 = 0
      · rw [if_pos (by omega), if_pos h0]
      · rw [if_neg (by omega), if_neg h0, if_pos (size_ok1 (D_short (by omega))), bs_add]
    · rw [e] at h; exact absurd h (by decide)
    · rw [e] at h; exact absurd h (by decide)
  · rw [if_neg h, prV_bad h]
/-! ### the document's digits -/
theorem nums_one {u : Nat} (h : u < 10) : strOfNums [(wrap64 (48 + (u : Int))) % 256] = bs [UInt8.ofNat (48 + u)] := by
  have e : (wrap64 (48 + (u : Int)) % 256) = ((48 + u : Nat) : Int) := by unfold wrap64; omega
  unfold strOfNums
  rw [e]
  rfl
theorem ev_dec_l0 (n : Nat) : ∀ t : List UInt8, n + t.length ≤ 4611686018427387904 → Ev (fun k => sutlerref02_Decimal.l0 k (n : Int) (bs t)) (bs (Lib.decDigits n ++ t)) := by
  induction n using Nat.strongRecOn with
  | _ n ih =>
    intro t ht
    refine Ev.succ ?_
    simp only [sutlerref02_Decimal.l0]
    refine Ev.bindNow rfl ?_
    have e1 : Int.tmod (n : Int) 10 = ((n % 10 : Nat) : Int) := rfl
    have e2 : Int.tdiv (n : Int) 10 = ((n / 10 : Nat) : Int) := rfl
    have hs : (bs [UInt8.ofNat (48 + n % 10)]).size + (bs t).size ≤ 9223372036854775807 := by
      rw [bs_size, bs_size, List.length_singleton]; omega
    simp only [e1, e2, nums_one (Nat.mod_lt n (by decide : 10 > 0)), if_pos hs, w_nat (show n / 10 ≤ 9223372036854775807 by omega), bs_add]
    by_cases h : n < 10
    · simp only [if_pos (show ((n / 10 : Nat) : Int) = 0 by omega)]
      refine (Ev.const _).to ?_
      rw [decDigits_small h, Nat.mod_eq_of_lt h]
    · simp only [if_neg (show ¬ ((n / 10 : Nat) : Int) = 0 by omega)]
      have := ih (n / 10) (by omega) ([UInt8.ofNat (48 + n % 10)] ++ t) (by rw [List.length_append, List.length_singleton]; omega)
      rw [← List.append_assoc, ← decDigits_big h] at this
      exact this
theorem ev_dec {n : Nat} (h : n < 1000000000000000000) : Ev (fun k => sutlerref02_Decimal.f k (n : Int)) (bs (D n)) := by
  unfold sutlerref02_Decimal.f
  have := ev_dec_l0 n [] (by rw [List.length_nil]; omega)
  rw [List.append_nil, ← D_eq (by omega)] at this
  exact this
theorem ev_rpcpu (n : Int) : Ev (fun k => sutlerref02_PrintCPU.f k n) (bs (prV cpuP n).1, (prV cpuP n).2) := by
  unfold sutlerref02_PrintCPU.f
  refine Ev.bindNow (rcheck_eq n) ?_
  by_cases h : chk n = 0
  · rcases chk_cases n with ⟨_, m, rfl, hm⟩ | ⟨e, _⟩ | ⟨e, _⟩
    · simp only [if_pos h]
      rw [prV_nat hm]
      unfold cpuP
      simp only [show Int.tmod (m : Int) 1000 = ((m % 1000 : Nat) : Int) from rfl, show Int.tdiv (m : Int) 1000 = ((m / 1000 : Nat) : Int) from rfl, w_nat (show m / 1000 ≤ 9223372036854775807 by omega)]
      by_cases h0 : m % 1000 = 0
      · simp only [if_pos (show ((m % 1000 : Nat) : Int) = 0 by omega), if_pos h0]
        exact Ev.bind (ev_dec (by omega)) (Ev.const _)
      · simp only [if_neg (show ¬ ((m % 1000 : Nat) : Int) = 0 by omega), if_neg h0]
        refine Ev.bind (ev_dec (by omega)) ?_
        simp only [if_pos (size_ok1 (D_short (show m < 1000000000000000000 by omega))), bs_add]
        exact Ev.const _
    · rw [e] at h; exact absurd h (by decide)
    · rw [e] at h; exact absurd h (by decide)
  · simp only [if_neg h]
    rw [prV_bad h]
    exact Ev.const _
/-! ### bytes -/
def sufP : Nat → List UInt8
  | 0 => []
  | 1 => Ki
  | 2 => Mi
  | 3 => Gi
  | _ => Ti
def pbL : Nat → Nat → Nat → List UInt8
  | 0, m, k => D m ++ sufP k
  | f + 1, m, k => if m = 0 ∨ ¬ m % 1024 = 0 then D m ++ sufP k else pbL f (m / 1024) (k + 1)
def bytesP (m : Nat) : List UInt8 := pbL 4 m 0
theorem sufP_len (k : Nat) : (sufP k).length ≤ 100 := by
  unfold sufP
  split <;> decide
theorem fmt_suf {m : Nat} (hm : m ≤ 1125899906842624) (k : Nat) : ((strconv_FormatInt.f (m : Int) 10).bind fun t => if t.size + (bs (sufP k)).size ≤ 9223372036854775807 then some (t ++ bs (sufP k), (0 : Int)) else none) = some (bs (D m ++ sufP k), 0) := by
  rw [format_eq (by omega), Option.bind_some, if_pos (size_ok (D_short (by omega)) (sufP_len k)), bs_add]
theorem ev_pb_l0 : ∀ f k m : Nat, k + f = 4 → m ≤ 1125899906842624 → Ev (fun j => suffix_PrintBytes.l0 j (m : Int) (bs (sufP k)) ((2 * k : Nat) : Int)) (bs (pbL f m k), 0)
  | 0, k, m, hk, hm => by
    refine Ev.succ ?_
    simp only [suffix_PrintBytes.l0, if_neg (show ¬ ((2 * k : Nat) : Int) < 8 by omega)]
    exact Ev.now (fmt_suf hm k)
  | f + 1, k, m, hk, hm => by
    refine Ev.succ ?_
    simp only [suffix_PrintBytes.l0, if_pos (show ((2 * k : Nat) : Int) < 8 by omega)]
    by_cases h0 : m = 0
    · simp only [if_pos (show (m : Int) = 0 by omega)]
      refine (Ev.now (fmt_suf hm k)).to ?_
      rw [show pbL (f + 1) m k = D m ++ sufP k from if_pos (Or.inl h0)]
    · simp only [if_neg (show ¬ (m : Int) = 0 by omega), and_1023]
      by_cases h1 : m % 1024 = 0
      · have w2 : wrap64 (((2 * k : Nat) : Int) + 2) = ((2 * (k + 1) : Nat) : Int) := by unfold wrap64; omega
        have hx : (⟨#[75, 105, 77, 105, 71, 105, 84, 105]⟩ : ByteArray).extract (2 * k) (2 * (k + 1)) = bs (sufP (k + 1)) := by
          obtain rfl | rfl | rfl | rfl : k = 0 ∨ k = 1 ∨ k = 2 ∨ k = 3 := by omega
          all_goals kernel_rfl
        have hdv : (m : Int) / 1024 = ((m / 1024 : Nat) : Int) := rfl
        simp only [if_pos (show (m : Int) % 1024 = 0 by omega), if_pos (show (0 : Int) ≤ ((2 * k : Nat) : Int) by omega), w2, if_pos (show ((2 * k : Nat) : Int) ≤ ((2 * (k + 1) : Nat) : Int) by omega), if_pos (show ((2 * (k + 1) : Nat) : Int) ≤ 8 by omega), Int.toNat_natCast, hx, hdv]
        refine (ev_pb_l0 f (k + 1) (m / 1024) (by omega) (by omega)).to ?_
        rw [show pbL (f + 1) m k = pbL f (m / 1024) (k + 1) from if_neg (fun h => h.elim h0 (fun h => h h1))]
      · simp only [if_neg (show ¬ (m : Int) % 1024 = 0 by omega)]
        refine (Ev.now (fmt_suf hm k)).to ?_
        rw [show pbL (f + 1) m k = D m ++ sufP k from if_pos (Or.inr h1)]
theorem ev_pbytes (n : Int) : Ev (fun k => suffix_PrintBytes.f k n) (bs (prV bytesP n).1, (prV bytesP n).2) := by
  unfold suffix_PrintBytes.f
  refine Ev.bindNow (check_eq n) ?_
  by_cases h : chk n = 0
  · rcases chk_cases n with ⟨_, m, rfl, hm⟩ | ⟨e, _⟩ | ⟨e, _⟩
    · simp only [if_pos h]
      rw [prV_nat hm]
      exact ev_pb_l0 4 0 m rfl hm
    · rw [e] at h; exact absurd h (by decide)
    · rw [e] at h; exact absurd h (by decide)
  · simp only [if_neg h]
    rw [prV_bad h]
    exact Ev.const _
/-- The document's way: the greatest power that goes in. -/
def powP : Nat → Nat
  | 0 => 1
  | 1 => 1024
  | 2 => 1048576
  | 3 => 1073741824
  | _ => 1099511627776
def rbL (m : Nat) : Nat → List UInt8
  | 0 => D m
  | k + 1 => if m % powP (k + 1) = 0 then D (m / powP (k + 1)) ++ sufP (k + 1) else rbL m k
theorem powP_pos (k : Nat) : 0 < powP k := by unfold powP; split <;> decide
theorem ev_powP (k : Nat) (hk : k < 5) : Ev (fun j => sutlerref02_power.f j (k : Int)) ((powP k : Nat) : Int) := by
  obtain rfl | rfl | rfl | rfl | rfl : k = 0 ∨ k = 1 ∨ k = 2 ∨ k = 3 ∨ k = 4 := by omega
  all_goals exact ev_power _ _ (by kernel_rfl)
theorem ends_at (k : Nat) (hk : k < 5) : rdOf ByteArray.empty ENDS (k : Int) = bs (sufP k) := by
  obtain rfl | rfl | rfl | rfl | rfl : k = 0 ∨ k = 1 ∨ k = 2 ∨ k = 3 ∨ k = 4 := by omega
  all_goals rfl
theorem ev_rb_l0 (m : Nat) (hm : m ≤ 1125899906842624) : ∀ k : Nat, k < 5 → Ev (fun j => sutlerref02_PrintBytes.l0 j (m : Int) ENDS (k : Int)) (bs (rbL m k), 0)
  | k, hk => by
    have hfit : m % powP k = 0 → Ev (fun j => sutlerref02_PrintBytes.l0 j (m : Int) ENDS (k : Int)) (bs (D (m / powP k) ++ sufP k), 0) := by
      intro h
      refine Ev.succ ?_
      simp only [sutlerref02_PrintBytes.l0]
      refine Ev.bind (ev_powP k hk) ?_
      have hp := powP_pos k
      have hdm : m / powP k ≤ m := Nat.div_le_self _ _
      have c0 : ¬ ((powP k : Nat) : Int) = 0 := by omega
      simp only [if_neg c0, tm, h, if_pos (show ((0 : Nat) : Int) = 0 from rfl)]
      refine Ev.bind (ev_powP k hk) ?_
      simp only [if_neg c0, td, w_nat (show m / powP k ≤ 9223372036854775807 by omega)]
      refine Ev.bind (ev_dec (by omega)) ?_
      have c1 : (k : Int) < (ENDS.length : Int) := by show (k : Int) < 5; omega
      simp only [if_pos (show (0 : Int) ≤ (k : Int) by omega), if_pos c1, ends_at k hk, if_pos (size_ok (D_short (show m / powP k < 1000000000000000000 by omega)) (sufP_len k)), bs_add]
      exact Ev.const _
    cases k with
    | zero =>
      have := hfit (Nat.mod_one m)
      rw [show m / powP 0 = m from Nat.div_one m, show sufP 0 = [] from rfl, List.append_nil] at this
      exact this
    | succ k =>
      by_cases h : m % powP (k + 1) = 0
      · rw [show rbL m (k + 1) = D (m / powP (k + 1)) ++ sufP (k + 1) from if_pos h]
        exact hfit h
      · rw [show rbL m (k + 1) = rbL m k from if_neg h]
        refine Ev.succ ?_
        simp only [sutlerref02_PrintBytes.l0]
        refine Ev.bind (ev_powP (k + 1) hk) ?_
        have hp := powP_pos (k + 1)
        have c0 : ¬ ((powP (k + 1) : Nat) : Int) = 0 := by omega
        have w1 : wrap64 (((k + 1 : Nat) : Int) - 1) = (k : Int) := by unfold wrap64; omega
        simp only [if_neg c0, tm, if_neg (show ¬ ((m % powP (k + 1) : Nat) : Int) = 0 by omega), w1]
        exact ev_rb_l0 m hm k (by omega)
theorem rbL_eq {m : Nat} (h : 0 < m) : rbL m 4 = bytesP m := by
  unfold bytesP
  simp only [rbL, pbL, powP, sufP, Nat.zero_add, List.append_nil]
  by_cases h1 : m % 1024 = 0
  · by_cases h2 : m / 1024 % 1024 = 0
    · by_cases h3 : m / 1024 / 1024 % 1024 = 0
      · by_cases h4 : m / 1024 / 1024 / 1024 % 1024 = 0
        · rw [if_pos (by omega), if_neg (by omega), if_neg (by omega), if_neg (by omega), if_neg (by omega), show m / 1024 / 1024 / 1024 / 1024 = m / 1099511627776 by omega]
        · rw [if_neg (by omega), if_pos (by omega), if_neg (by omega), if_neg (by omega), if_neg (by omega), if_pos (by omega), show m / 1024 / 1024 / 1024 = m / 1073741824 by omega]
      · rw [if_neg (by omega), if_neg (by omega), if_pos (by omega), if_neg (by omega), if_neg (by omega), if_pos (by omega), show m / 1024 / 1024 = m / 1048576 by omega]
    · rw [if_neg (by omega), if_neg (by omega), if_neg (by omega), if_pos (by omega), if_neg (by omega), if_pos (by omega)]
  · rw [if_neg (by omega), if_neg (by omega), if_neg (by omega), if_neg (by omega), if_pos (by omega)]
theorem ev_rpbytes (n : Int) : Ev (fun k => sutlerref02_PrintBytes.f k n) (bs (prV bytesP n).1, (prV bytesP n).2) := by
  unfold sutlerref02_PrintBytes.f
  refine Ev.bindNow (rcheck_eq n) ?_
  by_cases h : chk n = 0
  · rcases chk_cases n with ⟨_, m, rfl, hm⟩ | ⟨e, _⟩ | ⟨e, _⟩
    · simp only [if_pos h]
      rw [prV_nat hm]
      by_cases h0 : m = 0
      · subst h0
        simp only [if_pos (show ((0 : Nat) : Int) = 0 from rfl)]
        exact Ev.const _
      · simp only [if_neg (show ¬ (m : Int) = 0 by omega)]
        refine Ev.bindNow (a := ENDS) rfl ?_
        have := ev_rb_l0 m hm 4 (by decide)
        rw [rbL_eq (by omega)] at this
        exact this
    · rw [e] at h; exact absurd h (by decide)
    · rw [e] at h; exact absurd h (by decide)
  · simp only [if_neg h]
    rw [prV_bad h]
    exact Ev.const _
end Go.Proofs.YtafncdmclhdkdaaDoor.PAll
