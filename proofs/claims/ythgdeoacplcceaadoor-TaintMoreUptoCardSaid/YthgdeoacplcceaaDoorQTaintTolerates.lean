import Derived.Test.YthgdeoacplcceaaDoorQTaintChecks
import Derived.Test.YthgdeoacplcceaaDoorPAllx13
namespace Go.Proofs.YthgdeoacplcceaaDoor.PAll.Pure
open Go.RowKit Go.Proofs.YthgdeoacplcceaaDoorW.PrintWords
theorem ev_first_l1 (m : List S28) (l : List S26) (hm : m.length ≤ 9223372036854775806) (hl : l.length ≤ 9223372036854775806) (i : Nat) (hi : i < l.length) (r : ByteArray × ByteArray × Bool)
    (hnext : Ev (fun k => sutlerref05_First.l0 k m l ((i + 1 : Nat) : Int)) r) : ∀ n j : Nat, j + n = m.length → ∀ b : Bool,
    Ev (fun k => sutlerref05_First.l1 k m l (i : Int) b (j : Int)) (if (b || (m.drop j).any (fun t => tolM t l[i])) = true then r else (l[i].f0, l[i].f1, true))
  | 0, j, h, b => by
    refine Ev.succ ?_
    simp only [sutlerref05_First.l1, if_neg (show ¬ ((j : Int) < (m.length : Int)) by omega), if_pos (show (0 : Int) ≤ (i : Int) by omega), if_pos (show (i : Int) < (l.length : Int) by omega), rdL l i hi, w_succ (show i + 1 ≤ 9223372036854775807 by omega)]
    rw [List.drop_eq_nil_of_le (by omega), List.any_nil, Bool.or_false]
    cases b
    · simp only [Bool.false_eq_true, if_false]
      exact Ev.const _
    · simp only [if_true]
      exact hnext
  | n + 1, j, h, b => by
    have hj : j < m.length := by omega
    have ih := ev_first_l1 m l hm hl i hi r hnext n (j + 1) (by omega)
    rw [List.drop_eq_getElem_cons hj, List.any_cons]
    refine Ev.succ ?_
    simp only [sutlerref05_First.l1, if_pos (show (j : Int) < (m.length : Int) by omega), if_pos (show (0 : Int) ≤ (j : Int) by omega), if_pos (show (0 : Int) ≤ (i : Int) by omega), if_pos (show (i : Int) < (l.length : Int) by omega), rdL l i hi, rdT m j hj, w_succ (show j + 1 ≤ 9223372036854775807 by omega)]
    by_cases h0 : m[j].f0.toList = l[i].f0.toList
    · simp only [if_pos h0]
      by_cases h2 : m[j].f2 = true
      · simp only [if_pos h2]
        refine (ih true).to ?_
        have : tolM m[j] l[i] = true := by unfold tolM; rw [h0, h2]; simp
        rw [this]
        simp
      · simp only [if_neg h2]
        by_cases h1 : m[j].f1.toList = l[i].f1.toList
        · simp only [if_pos h1]
          refine (ih true).to ?_
          have : tolM m[j] l[i] = true := by unfold tolM; rw [h0, h1]; simp
          rw [this]
          simp
        · simp only [if_neg h1]
          refine (ih b).to ?_
          have : tolM m[j] l[i] = false := by unfold tolM; rw [Bool.eq_false_iff.2 h2, beq_eq_false_iff_ne.2 h1]; simp
          rw [this, Bool.false_or]
    · simp only [if_neg h0]
      refine (ih b).to ?_
      have : tolM m[j] l[i] = false := by unfold tolM; rw [beq_eq_false_iff_ne.2 h0]; rfl
      rw [this, Bool.false_or]
theorem ev_first_l0 (m : List S28) (l : List S26) (hm : m.length ≤ 9223372036854775806) (hl : l.length ≤ 9223372036854775806) : ∀ n i : Nat, i + n = l.length → Ev (fun k => sutlerref05_First.l0 k m l (i : Int)) (firstV m (l.drop i))
  | 0, i, h => by
    refine Ev.succ ?_
    simp only [sutlerref05_First.l0, if_neg (show ¬ ((i : Int) < (l.length : Int)) by omega)]
    rw [List.drop_eq_nil_of_le (by omega)]
    exact Ev.const _
  | n + 1, i, h => by
    have hi : i < l.length := by omega
    have ih := ev_first_l0 m l hm hl n (i + 1) (by omega)
    refine Ev.succ ?_
    simp only [sutlerref05_First.l0, if_pos (show (i : Int) < (l.length : Int) by omega)]
    refine (ev_first_l1 m l hm hl i hi _ ih m.length 0 (by omega) false).to ?_
    rw [List.drop_eq_getElem_cons hi, List.drop_zero, Bool.false_or]
    unfold firstV bareV
    rw [List.find?_cons]
    cases m.any (fun t => tolM t l[i]) <;> simp
theorem ev_refFirst (m : List S28) (l : List S26) (hm : m.length ≤ 9223372036854775806) (hl : l.length ≤ 9223372036854775806) : Ev (fun k => sutlerref05_First.f k m l) (firstV m l) := by
  have := ev_first_l0 m l hm hl l.length 0 (by omega)
  rw [List.drop_zero] at this
  exact this
theorem first_any (m : List S28) : ∀ l : List S26, (firstV m l).2.2 = l.any (bareV m)
  | [] => rfl
  | x :: l => by
    have ih := first_any m l
    rw [List.any_cons]
    unfold firstV at ih ⊢
    rw [List.find?_cons]
    cases bareV m x
    · rw [Bool.false_or]
      exact ih
    · rfl
theorem TaintTolerates (x0 : (List S28)) (x1 : (List S26)) (g0 : (x0.length * 40 ≤ 140737488351232 ∧ ∀ y_ ∈ x0, good28 y_)) (g1 : (x1.length * 32 ≤ 140737488351232 ∧ ∀ y_ ∈ x1, good26 y_)) : ∃ k, sutlerlaw05_TaintTolerates.f k x0 x1 = some true := by
  have hm : x0.length ≤ 9223372036854775806 := by have := g0.1; omega
  have hl : x1.length ≤ 9223372036854775806 := by have := g1.1; omega
  refine Ev.get (g := fun k => sutlerlaw05_TaintTolerates.f k x0 x1) ?_
  unfold sutlerlaw05_TaintTolerates.f
  refine Ev.bindNow (show taint_First.f x0 x1 = some (firstV x0 x1) from if_pos ⟨hm, hl⟩) ?_
  refine Ev.bind (ev_refFirst x0 x1 hm hl) ?_
  refine Ev.bind (a := !(x1.any (bareV x0))) ?_ (Ev.bind ev_live ?_)
  · unfold sutlerref05_Tolerates.f
    exact Ev.bind (ev_refFirst x0 x1 hm hl) ((Ev.const _).to (by rw [first_any]))
  · simp only [if_true, beq_self_eq_true, Bool.and_self]
    exact Ev.bindNow (show taint_Tolerates.f x0 x1 = some (!(x1.any (bareV x0))) from if_pos ⟨hm, hl⟩) ((Ev.const _).to (by simp))
end Go.Proofs.YthgdeoacplcceaaDoor.PAll.Pure
