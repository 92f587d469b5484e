import Derived.Test.YtafncdmclhdkdaaDoorEMoney
import Derived.Test.YtafncdmclhdkdaaDoorEEv
import Derived.Test.YtafncdmclhdkdaaDoorPAllx1
import Derived.Test.YtafncdmclhdkdaaDoorPAllx4
import Derived.Test.YtafncdmclhdkdaaDoorPAllx5
import Derived.Test.YtafncdmclhdkdaaDoorPAllx6
/-! What the program and the document make of a text. -/
set_option linter.unusedVariables false
set_option linter.unusedSimpArgs false
namespace Go.Proofs.YtafncdmclhdkdaaDoor.PAll
open Go.RowKit Go.Proofs.YtafncdmclhdkdaaDoorW.PrintWords Go.Proofs.YtafncdmclhdkdaaDoorW.PrintLast Go.Proofs.YtafncdmclhdkdaaDoorW.PrintMore

abbrev bs (l : List UInt8) : ByteArray := ⟨l.toArray⟩
theorem bs_size (l : List UInt8) : (bs l).size = l.length := Lib.size_mk l
theorem bs_list (l : List UInt8) : (bs l).toList = l := by rw [Lib.toList_data]
theorem bs_cut (l : List UInt8) (a b : Nat) : (bs l).extract a b = bs ((l.drop a).take (b - a)) := Lib.extract_mk l a b
theorem bs_inj {a b : List UInt8} (h : bs a = bs b) : a = b := by have := congrArg ByteArray.toList h; rwa [bs_list, bs_list] at this
theorem bs_bt (l : List UInt8) (i : Nat) (h : i < l.length) : bt (bs l) (i : Int) = ((l[i]).toNat : Int) := by
  unfold bt
  rw [dif_pos (by rw [bs_size]; simpa using h)]
  rfl
abbrev TOP : Nat := 281474976710656
/-! ### endings -/
def cutL (l e : List UInt8) : List UInt8 × Bool := if e.length ≤ l.length ∧ l.drop (l.length - e.length) = e then (l.take (l.length - e.length), true) else (l, false)
theorem cutL_append (x e : List UInt8) : cutL (x ++ e) e = (x, true) := by
  unfold cutL
  have h : (x ++ e).length - e.length = x.length := by rw [List.length_append]; omega
  rw [h, if_pos ⟨by rw [List.length_append]; omega, List.drop_left⟩, List.take_left]
theorem cutL_true {l e : List UInt8} (h : (cutL l e).2 = true) : l = (cutL l e).1 ++ e := by
  unfold cutL at *
  split at h
  · rename_i hc
    rw [if_pos hc]
    conv => lhs; rw [← List.take_append_drop (l.length - e.length) l, hc.2]
  · cases h
theorem cutL_false {l e : List UInt8} (h : ¬ ∃ x, l = x ++ e) : cutL l e = (l, false) := by
  unfold cutL
  rw [if_neg]
  rintro ⟨h1, h2⟩
  exact h ⟨l.take (l.length - e.length), by conv => lhs; rw [← List.take_append_drop (l.length - e.length) l, h2]⟩
theorem cutL_len (l e : List UInt8) : (cutL l e).1.length ≤ l.length := by
  unfold cutL
  split
  · rw [List.length_take]; omega
  · exact Nat.le_refl _
theorem w_sub {a b : Nat} (h : b ≤ a) (ha : a ≤ TOP) : wrap64 ((a : Int) - (b : Int)) = ((a - b : Nat) : Int) := by
  unfold TOP at ha
  unfold wrap64
  omega
theorem cutL_hit {l e : List UInt8} (h : e.length ≤ l.length) (hc : l.drop (l.length - e.length) = e) : cutL l e = (l.take (l.length - e.length), true) := by
  unfold cutL
  rw [if_pos ⟨h, hc⟩]
theorem cutL_miss {l e : List UInt8} (h : ¬ (e.length ≤ l.length ∧ l.drop (l.length - e.length) = e)) : cutL l e = (l, false) := by
  unfold cutL
  rw [if_neg h]
theorem drop_all (l : List UInt8) (i : Nat) : (l.drop i).take (l.length - i) = l.drop i := List.take_of_length_le (by rw [List.length_drop]; exact Nat.le_refl _)
theorem cutsuffix_eq (l e : List UInt8) (hl : l.length ≤ TOP) : strings_CutSuffix.f (bs l) (bs e) = some (bs (cutL l e).1, (cutL l e).2) := by
  unfold strings_CutSuffix.f stringslite_CutSuffix.f stringslite_HasSuffix.f
  rw [bs_size, bs_size]
  by_cases h : e.length ≤ l.length
  · rw [w_sub h hl]
    generalize hk : l.length - e.length = k
    have hd : ((k : Nat) : Int).toNat = k := Int.toNat_natCast k
    have c1 : (l.length : Int) ≥ (e.length : Int) := by omega
    have c2 : (0 : Int) ≤ (k : Int) := by omega
    have c3 : (k : Int) ≤ (l.length : Int) := by omega
    rw [if_pos c1, if_pos c2, if_pos c3, hd, bs_cut, bs_cut, bs_list, bs_list, List.drop_zero, Nat.sub_zero, drop_all]
    by_cases hc : l.drop k = e
    · rw [cutL_hit h (by rw [hk]; exact hc), hk, show (l.drop k == e) = true from beq_iff_eq.2 hc, Option.bind_some, if_pos rfl, if_pos c2, if_pos c3, Option.bind_some]
    · rw [cutL_miss (fun q => hc (by rw [← hk]; exact q.2)), show (l.drop k == e) = false from beq_eq_false_iff_ne.2 hc, Option.bind_some, if_neg (by decide), Option.bind_some]
  · have c1 : ¬ (l.length : Int) ≥ (e.length : Int) := by omega
    rw [if_neg c1, cutL_miss (fun q => h q.1), Option.bind_some, if_neg (by decide), Option.bind_some]
theorem without_eq (l e : List UInt8) (hl : l.length ≤ TOP) (he : e.length ≤ TOP) : sutlerref02_without.f (bs l) (bs e) = some (bs (cutL l e).1, (cutL l e).2) := by
  unfold sutlerref02_without.f
  rw [bs_size, bs_size]
  by_cases h : e.length ≤ l.length
  · rw [w_sub h hl]
    generalize hk : l.length - e.length = k
    have hd : ((k : Nat) : Int).toNat = k := Int.toNat_natCast k
    have c1 : ¬ (k : Int) < 0 := by omega
    have c2 : (0 : Int) ≤ (k : Int) := by omega
    have c3 : (k : Int) ≤ (l.length : Int) := by omega
    rw [if_neg c1, if_pos c2, if_pos c3, hd, bs_cut, bs_cut, bs_list, bs_list, List.drop_zero, Nat.sub_zero, drop_all]
    by_cases hc : l.drop k = e
    · rw [cutL_hit h (by rw [hk]; exact hc), hk, if_pos hc]
    · rw [cutL_miss (fun q => hc (by rw [← hk]; exact q.2)), if_neg hc]
  · have c1 : wrap64 ((l.length : Int) - (e.length : Int)) < 0 := by
      unfold TOP at *
      unfold wrap64
      omega
    rw [if_pos c1, cutL_miss (fun q => h q.1)]
/-! ### digits -/
theorem digits_eq (l : List UInt8) (hl : l.length ≤ TOP) : suffix_digits.f (bs l) = some (digitsV l) := by
  unfold suffix_digits.f
  rw [if_pos (by rw [bs_size]; exact hl)]
/-- What the document makes of digits. -/
def refD (l : List UInt8) : Int × Bool := if l.length ≤ 18 ∧ lean_ l = true then ((digF 0 l : Nat), true) else (0, false)
theorem refD_ok (l : List UInt8) : (refD l).2 = (digitsV l).2 := by
  unfold refD digitsV
  by_cases h1 : l.length > 18
  · rw [if_pos h1, if_neg (fun h => by omega)]
  · by_cases h2 : lean_ l = true
    · rw [if_neg h1, if_pos h2, if_pos ⟨by omega, h2⟩]
    · rw [if_neg h1, if_neg h2, if_neg (fun h => h2 h.2)]
theorem refD_val (l : List UInt8) (h : (digitsV l).2 = true) : (refD l).1 = (digitsV l).1 := by
  obtain ⟨h1, h2, h3, _, _⟩ := digitsV_true h
  unfold refD
  rw [if_pos ⟨h1, h2⟩, h3]
theorem step_dig {a c : Nat} (ha : a < 100000000000000000) (h1 : 48 ≤ c) (h2 : c ≤ 57) : wrap64 (wrap64 ((a : Int) * 10) + ((c : Int) - 48) % 256) = ((a * 10 + (c - 48) : Nat) : Int) := by
  have e1 : wrap64 ((a : Int) * 10) = (a : Int) * 10 := by unfold wrap64; omega
  have e2 : ((c : Int) - 48) % 256 = (c : Int) - 48 := by omega
  rw [e1, e2]
  have e3 : ((a * 10 + (c - 48) : Nat) : Int) = (a : Int) * 10 + ((c : Int) - 48) := by omega
  rw [e3]
  unfold wrap64
  omega
theorem dig_small {l : List UInt8} {i : Nat} (hl : l.length ≤ 18) (hi : i < l.length) (hd : ∀ c ∈ l.take i, isDig c) : digF 0 (l.take i) < 100000000000000000 := by
  have hb := digF_lt (l.take i) 0 hd
  have hp : 10 ^ (l.take i).length ≤ 10 ^ 17 := Nat.pow_le_pow_right (by decide) (by rw [List.length_take]; omega)
  rw [Nat.zero_add, Nat.one_mul] at hb
  exact Nat.lt_of_lt_of_le hb hp
theorem ev_dig_l0 (l : List UInt8) (hl : l.length ≤ 18) : ∀ n i : Nat, i + n = l.length → (∀ c ∈ l.take i, isDig c) →
    Ev (fun k => sutlerref02_Digits.l0 k (bs l) ((digF 0 (l.take i) : Nat) : Int) (i : Int)) (if l.all (fun c => decide (isDig c)) = true then (((digF 0 l : Nat) : Int), true) else (0, false))
  | 0, i, hn, hd => by
    refine Ev.succ ?_
    have ht : l.take i = l := List.take_of_length_le (by omega)
    rw [ht] at hd ⊢
    simp only [sutlerref02_Digits.l0, bs_size, if_neg (show ¬ ((i : Int) < (l.length : Int)) by omega)]
    rw [if_pos (List.all_eq_true.2 fun c hc => decide_eq_true (hd c hc))]
    exact Ev.const _
  | n + 1, i, hn, hd => by
    have hi : i < l.length := by omega
    refine Ev.succ ?_
    simp only [sutlerref02_Digits.l0, bs_size, if_pos (show ((i : Int) < (l.length : Int)) by omega), if_pos (show (0 : Int) ≤ (i : Int) by omega), bs_bt l i hi]
    by_cases hdig : isDig l[i]
    · have h1 : ¬ ((l[i].toNat : Int) < 48) := by unfold isDig at hdig; omega
      have h2 : ¬ ((l[i].toNat : Int) > 57) := by unfold isDig at hdig; omega
      have htk : l.take (i + 1) = l.take i ++ [l[i]] := by rw [List.take_add_one, List.getElem?_eq_getElem hi]; rfl
      have hd' : ∀ c ∈ l.take (i + 1), isDig c := by
        intro c hc
        rw [htk, List.mem_append, List.mem_singleton] at hc
        rcases hc with hc | rfl
        · exact hd c hc
        · exact hdig
      have e1 : wrap64 (wrap64 (((digF 0 (l.take i) : Nat) : Int) * 10) + ((l[i].toNat : Int) - 48) % 256) = ((digF 0 (l.take (i + 1)) : Nat) : Int) := by
        rw [htk, digF_append, digF_one]
        exact step_dig (dig_small hl hi hd) hdig.1 hdig.2
      simp only [if_neg h1, if_neg h2, e1, w_succ (show i + 1 ≤ 9223372036854775807 by omega)]
      exact ev_dig_l0 l hl n (i + 1) (by omega) hd'
    · have hf : ¬ l.all (fun c => decide (isDig c)) = true := by
        intro h
        have := List.all_eq_true.1 h l[i] (List.getElem_mem hi)
        exact hdig (of_decide_eq_true this)
      rw [if_neg hf]
      by_cases h1 : (l[i].toNat : Int) < 48
      · simp only [if_pos h1]; exact Ev.const _
      · have h2 : (l[i].toNat : Int) > 57 := by unfold isDig at hdig; omega
        simp only [if_neg h1, if_pos h2]; exact Ev.const _
theorem ev_refDigits (l : List UInt8) : Ev (fun k => sutlerref02_Digits.f k (bs l)) (refD l) := by
  unfold sutlerref02_Digits.f refD
  simp only [bs_size]
  have j0f : ∀ v, Ev (fun k => sutlerref02_Digits.l0 k (bs l) 0 0) v → Ev (fun k => sutlerref02_Digits.j0 k (bs l) false) v := fun v h => by
    refine Ev.succ ?_
    simp only [sutlerref02_Digits.j0, Bool.false_eq_true, if_false]
    exact h
  have j0t : Ev (fun k => sutlerref02_Digits.j0 k (bs l) true) (0, false) := by
    refine Ev.succ ?_
    simp only [sutlerref02_Digits.j0, if_true]
    exact Ev.const _
  by_cases h0 : l.length < 1
  · simp only [if_pos (show (l.length : Int) < 1 by omega)]
    rw [if_neg (fun h => by have := h.2; unfold lean_ at this; simp at this; omega)]
    exact j0t
  · by_cases h18 : l.length > 18
    · simp only [if_neg (show ¬ (l.length : Int) < 1 by omega), if_pos (show (l.length : Int) > 18 by omega)]
      rw [if_neg (fun h => by omega)]
      exact j0t
    · have hbase := ev_dig_l0 l (by omega) l.length 0 (by omega) (fun c hc => by simp at hc)
      rw [List.take_zero, digF_nil] at hbase
      by_cases h1 : l.length > 1
      · simp only [if_neg (show ¬ (l.length : Int) < 1 by omega), if_neg (show ¬ (l.length : Int) > 18 by omega), if_pos (show (l.length : Int) > 1 by omega), if_pos (show (0 : Int) < (l.length : Int) by omega)]
        have hb := bs_bt l 0 (by omega)
        rw [show ((0 : Nat) : Int) = 0 from rfl] at hb
        rw [hb]
        have hh : l.head? = some l[0] := by cases l with | nil => simp at h1 | cons a r => rfl
        by_cases hz : l[0] = 48
        · rw [hz, if_neg (fun h => by
            have := h.2
            unfold lean_ at this
            rw [hh, hz] at this
            simp at this
            omega)]
          exact j0t
        · have hz2 : ((l[0].toNat : Int) == 48) = false := by
            refine beq_eq_false_iff_ne.2 fun h => hz (UInt8.toNat_inj.1 ?_)
            have : (48 : UInt8).toNat = 48 := rfl
            omega
          rw [hz2]
          refine j0f _ (hbase.to ?_)
          unfold lean_
          rw [hh]
          have e : (some l[0] == some (48 : UInt8)) = false := by simpa using hz
          simp only [e, Bool.not_false, Bool.or_true, Bool.and_true, decide_eq_true (show 1 ≤ l.length by omega), Bool.true_and, show l.length ≤ 18 by omega, true_and]
      · simp only [if_neg (show ¬ (l.length : Int) < 1 by omega), if_neg (show ¬ (l.length : Int) > 18 by omega), if_neg (show ¬ (l.length : Int) > 1 by omega)]
        refine j0f _ (hbase.to ?_)
        unfold lean_
        simp only [decide_eq_true (show l.length ≤ 1 by omega), Bool.true_or, Bool.and_true, decide_eq_true (show 1 ≤ l.length by omega), Bool.true_and, show l.length ≤ 18 by omega, true_and]
/-! ### so many times -/
def timesV (n by_ : Int) : Int × Int := if n > 1125899906842624 / by_ then (0, 10) else (wrap64 (n * by_), 0)
theorem times_eq (n b : Int) (hb : 0 < b) : suffix_times.f n b = some (timesV n b) := by
  unfold suffix_times.f timesF timesV
  rw [if_pos hb]
theorem rtimes_eq (n b : Int) (hb : 0 < b) : sutlerref02_times.f n b = some (timesV n b) := times_eq n b hb
/-! ### CPUs -/
def cpuV (l : List UInt8) : Int × Int := if (digitsV (cutL l [109]).1).2 = true then timesV (digitsV (cutL l [109]).1).1 (if (cutL l [109]).2 = true then 1 else 1000) else (0, 20)
theorem cpu_eq (l : List UInt8) (hl : l.length ≤ TOP) : suffix_ParseCPU.f (bs l) = some (cpuV l) := by
  unfold suffix_ParseCPU.f cpuV
  rw [cutsuffix_eq l [109] hl, Option.bind_some, digits_eq _ (Nat.le_trans (cutL_len _ _) hl), Option.bind_some]
  generalize digitsV (cutL l [109]).1 = g
  generalize cutL l [109] = c
  obtain ⟨n, ok⟩ := g
  obtain ⟨d, m⟩ := c
  cases ok <;> cases m <;> simp [times_eq]
theorem ev_refCPU (l : List UInt8) (hl : l.length ≤ TOP) : Ev (fun k => sutlerref02_ParseCPU.f k (bs l)) (cpuV l) := by
  unfold sutlerref02_ParseCPU.f
  refine Ev.bindNow (without_eq l [109] hl (by decide)) ?_
  have j : ∀ (d : List UInt8) (b : Int), 0 < b → Ev (fun k => sutlerref02_ParseCPU.j0 k b (bs d)) (if (digitsV d).2 = true then timesV (digitsV d).1 b else (0, 20)) := by
    intro d b hb
    refine Ev.succ ?_
    simp only [sutlerref02_ParseCPU.j0]
    refine Ev.bind (ev_refDigits d) ?_
    rw [refD_ok]
    by_cases h : (digitsV d).2 = true
    · rw [if_pos h, if_pos h, refD_val d h, rtimes_eq _ _ hb, Option.bind_some]
      exact Ev.const _
    · rw [if_neg h, if_neg h]
      exact Ev.const _
  unfold cpuV
  by_cases hm : (cutL l [109]).2 = true
  · simp only [if_pos hm]
    exact j _ 1 (by decide)
  · simp only [if_neg hm]
    exact j _ 1000 (by decide)
end Go.Proofs.YtafncdmclhdkdaaDoor.PAll
