import Derived.Test.YthgdeoacplcceaaDoorEName
import Derived.Test.YthgdeoacplcceaaDoorEEv
import Derived.Test.YthgdeoacplcceaaDoorPAllx7
set_option linter.unusedVariables false
set_option linter.unusedSimpArgs false
namespace Go.Proofs.YthgdeoacplcceaaDoor.PAll
open Go.RowKit Go.Proofs.YthgdeoacplcceaaDoorW.PrintWords

def nameB (s : ByteArray) : Bool := nmAll s s.size && (decide (0 < s.size) && decide (s.size ≤ 16))
theorem name_now {s : ByteArray} (h : s.size ≤ 9223372036854775806) : valset_Name.f s = some (nameB s) := by
  unfold valset_Name.f nameB
  rw [if_pos h]
def okc (c : Int) : Bool := (decide (97 ≤ c) && decide (c ≤ 122)) || (c == 46 || c == 45 || (decide (48 ≤ c) && decide (c ≤ 57)))
theorem name_body (c : Int) (A : Option Bool) :
    (if c < 97 then (if c < 48 then (if c = 46 then A else (if c = 45 then A else (some false))) else (if c > 57 then (if c = 46 then A else (if c = 45 then A else (some false))) else A)) else (if c > 122 then (if c < 48 then (if c = 46 then A else (if c = 45 then A else (some false))) else (if c > 57 then (if c = 46 then A else (if c = 45 then A else (some false))) else A)) else A)) =
    if okc c = true then A else some false := by
  by_cases hok : okc c = true
  · rw [if_pos hok]
    unfold okc at hok
    simp only [Bool.or_eq_true, Bool.and_eq_true, decide_eq_true_eq, beq_iff_eq] at hok
    repeat' split
    all_goals first | rfl | (exfalso; omega)
  · rw [if_neg hok]
    unfold okc at hok
    simp only [Bool.or_eq_true, Bool.and_eq_true, decide_eq_true_eq, beq_iff_eq] at hok
    repeat' split
    all_goals first | rfl | (exfalso; omega)
theorem ev_refName_l (s : ByteArray) (hs : s.size ≤ 9223372036854775806) : ∀ m i : Nat, i + m = s.size → Ev (fun k => sutlerref03_Name.l0 k s (i : Int)) ((List.range' i m).all (fun j => okc (bt s j)))
  | 0, i, h => by
    refine Ev.succ ?_
    simp only [sutlerref03_Name.l0]
    simp only [if_neg (show ¬ ((i : Int) < (s.size : Int)) by omega)]
    exact Ev.const _
  | m + 1, i, h => by
    refine Ev.succ ?_
    simp only [sutlerref03_Name.l0]
    simp only [if_pos (show (i : Int) < (s.size : Int) by omega), if_pos (show (0 : Int) ≤ (i : Int) by omega), name_body, w_succ (show i + 1 ≤ 9223372036854775807 by omega), List.range'_succ, List.all_cons]
    by_cases hok : okc (bt s i) = true
    · simp only [hok, if_true, Bool.true_and]
      exact ev_refName_l s hs m (i + 1) (by omega)
    · simp only [hok, if_false, Bool.false_eq_true, Bool.false_and]
      exact Ev.const _
theorem nmAll_all (s : ByteArray) : ∀ n, nmAll s (n + 1) = ((decide (97 ≤ bt s 0) && decide (bt s 0 ≤ 122)) && (List.range' 1 n).all (fun j => okc (bt s j)))
  | 0 => by simp [nmAll, nmOk]
  | n + 1 => by
    rw [nmAll, nmAll_all s n, List.range'_concat, List.all_append]
    have h1 : (((n + 1 : Nat) : Int) == 0) = false := by rw [beq_eq_false_iff_ne]; omega
    have h2 : nmOk s ((n + 1 : Nat) : Int) = okc (bt s ((n + 1 : Nat) : Int)) := by
      unfold nmOk okc
      rw [h1]
      simp
    rw [h2]
    simp [Bool.and_assoc, Nat.add_comm]
theorem ev_refName (s : ByteArray) (hs : s.size ≤ 9223372036854775806) : Ev (fun k => sutlerref03_Name.f k s) (nameB s) := by
  unfold sutlerref03_Name.f nameB
  by_cases h1 : (s.size : Int) < 1
  · have h0 : ¬ 0 < s.size := by omega
    simp only [if_pos h1, decide_eq_false h0, Bool.false_and, Bool.and_false]
    refine Ev.succ ?_
    simp only [sutlerref03_Name.j0, if_true]
    exact Ev.const _
  · by_cases h2 : (s.size : Int) > 16
    · have h0 : ¬ s.size ≤ 16 := by omega
      simp only [if_neg h1, if_pos h2, decide_eq_false h0, Bool.and_false]
      refine Ev.succ ?_
      simp only [sutlerref03_Name.j0, if_true]
      exact Ev.const _
    · obtain ⟨n, hn⟩ : ∃ n, s.size = n + 1 := ⟨s.size - 1, by omega⟩
      have hb : (decide (0 < s.size) && decide (s.size ≤ 16)) = true := by
        rw [Bool.and_eq_true, decide_eq_true_eq, decide_eq_true_eq]
        omega
      simp only [if_neg h1, if_neg h2, if_pos (show (0 : Int) < (s.size : Int) by omega), hb, Bool.and_true]
      rw [hn, nmAll_all]
      by_cases h3 : bt s 0 < 97
      · simp only [if_pos h3, decide_eq_false (show ¬ 97 ≤ bt s 0 by omega), Bool.false_and]
        refine Ev.succ ?_
        simp only [sutlerref03_Name.j0, if_true]
        exact Ev.const _
      · simp only [if_neg h3, decide_eq_true (show 97 ≤ bt s 0 by omega), Bool.true_and]
        refine Ev.succ ?_
        simp only [sutlerref03_Name.j0]
        by_cases h4 : bt s 0 > 122
        · simp only [decide_eq_true h4, if_true, decide_eq_false (show ¬ bt s 0 ≤ 122 by omega), Bool.false_and]
          exact Ev.const _
        · simp only [decide_eq_false h4, Bool.false_eq_true, if_false, decide_eq_true (show bt s 0 ≤ 122 by omega), Bool.true_and]
          refine (ev_refName_l s hs s.size 0 (by omega)).to ?_
          rw [hn, List.range'_succ, List.all_cons]
          have : okc (bt s ((0 : Nat) : Int)) = true := by
            unfold okc
            simp
            left
            constructor
            · show 97 ≤ bt s 0
              omega
            · show bt s 0 ≤ 122
              omega
          rw [this, Bool.true_and]
end Go.Proofs.YthgdeoacplcceaaDoor.PAll
