import Derived.Test.YthgdeoacplcceaaDoorSVal
import Derived.Test.YthgdeoacplcceaaDoorETaint
import Derived.Test.YthgdeoacplcceaaDoorPAllx4
import Derived.Test.YthgdeoacplcceaaDoorPAllx9
import Derived.Test.YthgdeoacplcceaaDoorPAllx10
set_option linter.unusedVariables false
set_option linter.unusedSimpArgs false
namespace Go.Proofs.YthgdeoacplcceaaDoor.PAll
open Go.RowKit Go.Proofs.YthgdeoacplcceaaDoorW.PrintWords

theorem rdL (l : List S26) (i : Nat) (h : i < l.length) : rd_T26 l (i : Int) = l[i] := by
  simp [rd_T26, List.getD_eq_getElem?_getD, h]
theorem rdT (l : List S28) (i : Nat) (h : i < l.length) : rd_T28 l (i : Int) = l[i] := by
  simp [rd_T28, List.getD_eq_getElem?_getD, h]
def SmallL (t : S26) : Prop := t.f0.size ≤ 281474976710656 ∧ t.f1.size ≤ 281474976710656
def SmallT (t : S28) : Prop := t.f0.size ≤ 281474976710656 ∧ t.f1.size ≤ 281474976710656

/-! ### taints -/
theorem ev_rc_l1 (l : List S26) (hl : l.length ≤ 4) (i : Nat) (hi : i < l.length) (r : Int) (hnext : Ev (fun k => sutlerref05_Check.l0 k l ((i + 1 : Nat) : Int)) r) : ∀ m j : Nat, j + m = i →
    Ev (fun k => sutlerref05_Check.l1 k l (i : Int) (j : Int)) (if ((l.take i).drop j).any (sameKey l[i]) = true then 6 else r)
  | 0, j, h => by
    refine Ev.succ ?_
    simp only [sutlerref05_Check.l1, if_neg (show ¬ ((j : Int) < (i : Int)) by omega), w_succ (show i + 1 ≤ 9223372036854775807 by omega)]
    rw [List.drop_eq_nil_of_le (by rw [List.length_take]; omega), List.any_nil, if_neg (by decide)]
    exact hnext
  | m + 1, j, h => by
    have hj : j < (l.take i).length := by rw [List.length_take]; omega
    have hjl : j < l.length := by omega
    rw [List.drop_eq_getElem_cons hj, List.any_cons, List.getElem_take]
    refine Ev.succ ?_
    simp only [sutlerref05_Check.l1, if_pos (show (j : Int) < (i : Int) by omega), if_pos (show (0 : Int) ≤ (j : Int) by omega), if_pos (show (j : Int) < (l.length : Int) by omega), if_pos (show (0 : Int) ≤ (i : Int) by omega), if_pos (show (i : Int) < (l.length : Int) by omega), rdL l j hjl, rdL l i hi, w_succ (show j + 1 ≤ 9223372036854775807 by omega)]
    by_cases hk : l[j].f0.toList = l[i].f0.toList
    · simp only [if_pos hk]
      refine (Ev.const _).to ?_
      unfold sameKey
      rw [hk]
      simp
    · simp only [if_neg hk]
      refine (ev_rc_l1 l hl i hi r hnext m (j + 1) (by omega)).to ?_
      have : sameKey l[i] l[j] = false := by
        unfold sameKey
        exact beq_eq_false_iff_ne.2 hk
      rw [this, Bool.false_or]
theorem ev_rc_l0 (l : List S26) (hl : l.length ≤ 4) (hs : ∀ t ∈ l, SmallL t) : ∀ m i : Nat, i + m = l.length → Ev (fun k => sutlerref05_Check.l0 k l (i : Int)) (tGo (l.take i) (l.drop i))
  | 0, i, h => by
    refine Ev.succ ?_
    simp only [sutlerref05_Check.l0, if_neg (show ¬ ((i : Int) < (l.length : Int)) by omega)]
    rw [List.drop_eq_nil_of_le (by omega)]
    refine (Ev.const _).to ?_
    cases l.take i <;> rfl
  | m + 1, i, h => by
    have hi : i < l.length := by omega
    obtain ⟨s0, s1⟩ := hs l[i] (List.getElem_mem hi)
    have ih := ev_rc_l0 l hl hs m (i + 1) (by omega)
    rw [take_succ_ l i hi] at ih
    rw [List.drop_eq_getElem_cons hi, tGo]
    refine Ev.succ ?_
    simp only [sutlerref05_Check.l0, if_pos (show (i : Int) < (l.length : Int) by omega), if_pos (show (0 : Int) ≤ (i : Int) by omega), rdL l i hi]
    refine Ev.bind (ev_refName _ (by omega)) ?_
    have e : nameB l[i].f0 = nameV l[i].f0 := rfl
    rw [e]
    cases nameV l[i].f0
    · simp only [Bool.false_eq_true, if_false, if_true]
      exact Ev.const _
    · simp only [if_true, Bool.true_eq_false, if_false]
      refine Ev.bind (ev_Val _ (by omega)) ?_
      cases valueB l[i].f1
      · simp only [Bool.false_eq_true, if_false, if_true]
        exact Ev.const _
      · simp only [if_true, Bool.true_eq_false, if_false]
        have := ev_rc_l1 l hl i hi _ ih i 0 (by omega)
        rw [List.drop_zero] at this
        exact this
theorem ev_rCheck {l : List S26} (hs : ∀ t ∈ l, SmallL t) : Ev (fun k => sutlerref05_Check.f k l) (taintsV l) := by
  unfold sutlerref05_Check.f taintsV
  by_cases h : l.length > 4
  · simp only [if_pos h, if_pos (show (l.length : Int) > 4 by omega)]
    exact Ev.const _
  · simp only [if_neg h, if_neg (show ¬ (l.length : Int) > 4 by omega)]
    exact ev_rc_l0 l (by omega) hs l.length 0 (by omega)
theorem check_now {l : List S26} (hs : ∀ t ∈ l, SmallL t) : taint_Check.f l = some (taintsV l) := if_pos hs

/-! ### what is tolerated -/
def eqT (t x : S28) : Bool := (x.f0.toList == t.f0.toList) && ((x.f1.toList == t.f1.toList) && (x.f2 == t.f2))
def badT (t : S28) : Bool := if t.f2 = true then t.f1.toList != [] else !(valueB t.f1)
def oGo : List S28 → List S28 → Int
  | _, [] => 0
  | p, t :: r => if nameV t.f0 = false then 7 else if badT t = true then 20 else if p.any (eqT t) = true then 6 else oGo (p ++ [t]) r
def tolsV (l : List S28) : Int := if l.length > 4 then 3 else oGo [] l
theorem beq_comm_ {α : Type} [BEq α] [LawfulBEq α] (a b : α) : (a == b) = (b == a) := by
  by_cases h : a = b
  · rw [h]
  · rw [beq_eq_false_iff_ne.2 h, beq_eq_false_iff_ne.2 (fun e => h e.symm)]
theorem ev_idx (l : List S28) (t : S28) (hl : l.length ≤ 4) : ∀ m j : Nat, j + m = l.length → ∃ r : Int, decide (r ≥ 0) = (l.drop j).any (eqT t) ∧ Ev (fun k => api_Tol_26.l0 k l (l.length : Int) (j : Int) t.f0 t.f1 t.f2) r
  | 0, j, h => by
    refine ⟨-1, by rw [List.drop_eq_nil_of_le (by omega)]; rfl, Ev.succ ?_⟩
    simp only [api_Tol_26.l0, if_neg (show ¬ ((j : Int) < (l.length : Int)) by omega)]
    exact Ev.const _
  | m + 1, j, h => by
    have hj : j < l.length := by omega
    have e : (t.f0.toList == l[j].f0.toList && (t.f1.toList == l[j].f1.toList && (t.f2 == l[j].f2))) = eqT t l[j] := by
      unfold eqT
      rw [beq_comm_ t.f0.toList, beq_comm_ t.f1.toList, beq_comm_ t.f2]
    rw [List.drop_eq_getElem_cons hj, List.any_cons]
    by_cases hk : eqT t l[j] = true
    · refine ⟨(j : Int), by rw [hk, decide_eq_true (show (j : Int) ≥ 0 by omega)]; rfl, Ev.succ ?_⟩
      simp only [api_Tol_26.l0, if_pos (show (j : Int) < (l.length : Int) by omega), if_pos (show (0 : Int) ≤ (j : Int) by omega), rdT l j hj, e, hk, if_true]
      exact Ev.const _
    · obtain ⟨r, hr, hE⟩ := ev_idx l t hl m (j + 1) (by omega)
      refine ⟨r, by rw [Bool.eq_false_iff.2 hk, Bool.false_or]; exact hr, Ev.succ ?_⟩
      simp only [api_Tol_26.l0, if_pos (show (j : Int) < (l.length : Int) by omega), if_pos (show (0 : Int) ≤ (j : Int) by omega), rdT l j hj, e, hk, if_false, w_succ (show j + 1 ≤ 9223372036854775807 by omega)]
      exact hE
theorem ev_contains (l : List S28) (t : S28) (hl : l.length ≤ 4) : Ev (fun k => api_Tol_20.f k l t.f0 t.f1 t.f2) (l.any (eqT t)) := by
  unfold api_Tol_20.f api_Tol_26.f
  obtain ⟨r, hr, hE⟩ := ev_idx l t hl l.length 0 (by omega)
  refine Ev.bind hE ((Ev.const _).to ?_)
  rw [hr, List.drop_zero]
theorem ev_ct_j2 (l : List S28) (hl : l.length ≤ 4) (i : Nat) (hi : i < l.length) (r : Int) (hnext : Ev (fun k => taint_CheckTols.l0 k l l (l.length : Int) ((i + 1 : Nat) : Int)) r) (x : Bool) :
    Ev (fun k => taint_CheckTols.j2 k l (i : Int) l (l.length : Int) (i : Int) x l[i].f0 l[i].f1 l[i].f2) (if x = true then 20 else if (l.take i).any (eqT l[i]) = true then 6 else r) := by
  refine Ev.succ ?_
  cases x
  · simp only [taint_CheckTols.j2, Bool.false_eq_true, if_false, if_pos (show (0 : Int) ≤ (i : Int) by omega), if_pos (show (i : Int) ≤ (l.length : Int) by omega), Int.toNat_natCast, w_succ (show i + 1 ≤ 9223372036854775807 by omega)]
    refine Ev.bind (ev_contains (l.take i) l[i] (by rw [List.length_take]; omega)) ?_
    cases (l.take i).any (eqT l[i])
    · simp only [Bool.false_eq_true, if_false]
      exact hnext
    · simp only [if_true]
      exact Ev.const _
  · simp only [taint_CheckTols.j2, if_true]
    exact Ev.const _
theorem ev_ct_j1 (l : List S28) (hl : l.length ≤ 4) (hs : ∀ t ∈ l, SmallT t) (i : Nat) (hi : i < l.length) (r : Int) (hnext : Ev (fun k => taint_CheckTols.l0 k l l (l.length : Int) ((i + 1 : Nat) : Int)) r) :
    Ev (fun k => taint_CheckTols.j1 k l (i : Int) l (l.length : Int) (i : Int) (if l[i].f2 = true then l[i].f1.toList != [] else false) l[i].f0 l[i].f1 l[i].f2) (if badT l[i] = true then 20 else if (l.take i).any (eqT l[i]) = true then 6 else r) := by
  have h2 := fun x => ev_ct_j2 l hl i hi r hnext x
  refine Ev.succ ?_
  unfold badT
  simp only [taint_CheckTols.j1]
  cases hf : l[i].f2
  · rw [hf] at h2
    simp only [Bool.false_eq_true, if_false]
    have hsz := (hs l[i] (List.getElem_mem hi)).2
    refine Ev.bindNow (show valset_Value.f l[i].f1 = some (valueB l[i].f1) from if_pos hsz) ?_
    exact h2 _
  · rw [hf] at h2
    simp only [if_true]
    cases hx : (l[i].f1.toList != [])
    · simp only [Bool.false_eq_true, if_false]
      exact (h2 false).to (by simp)
    · simp only [if_true]
      exact (h2 true).to (by simp)
theorem ev_ct_l0 (l : List S28) (hl : l.length ≤ 4) (hs : ∀ t ∈ l, SmallT t) : ∀ m i : Nat, i + m = l.length → Ev (fun k => taint_CheckTols.l0 k l l (l.length : Int) (i : Int)) (oGo (l.take i) (l.drop i))
  | 0, i, h => by
    refine Ev.succ ?_
    simp only [taint_CheckTols.l0, if_neg (show ¬ ((i : Int) < (l.length : Int)) by omega)]
    rw [List.drop_eq_nil_of_le (by omega)]
    refine (Ev.const _).to ?_
    cases l.take i <;> rfl
  | m + 1, i, h => by
    have hi : i < l.length := by omega
    obtain ⟨s0, s1⟩ := hs l[i] (List.getElem_mem hi)
    have ih := ev_ct_l0 l hl hs m (i + 1) (by omega)
    rw [take_succ_ l i hi] at ih
    have hj := ev_ct_j1 l hl hs i hi _ ih
    rw [List.drop_eq_getElem_cons hi, oGo]
    refine Ev.succ ?_
    simp only [taint_CheckTols.l0, if_pos (show (i : Int) < (l.length : Int) by omega), if_pos (show (0 : Int) ≤ (i : Int) by omega), rdT l i hi]
    refine Ev.bindNow (show valset_Name.f l[i].f0 = some (nameV l[i].f0) from if_pos (by omega)) ?_
    cases nameV l[i].f0
    · simp only [Bool.false_eq_true, if_false, if_true]
      exact Ev.const _
    · simp only [if_true, Bool.true_eq_false, if_false]
      cases hf : l[i].f2
      · rw [hf] at hj
        simp only [Bool.false_eq_true, if_false] at hj ⊢
        exact hj
      · rw [hf] at hj
        simp only [if_true] at hj ⊢
        exact hj
theorem ev_CheckTols {l : List S28} (hs : ∀ t ∈ l, SmallT t) : Ev (fun k => taint_CheckTols.f k l) (tolsV l) := by
  unfold taint_CheckTols.f tolsV
  by_cases h : l.length > 4
  · simp only [if_pos h, if_pos (show (l.length : Int) > 4 by omega)]
    exact Ev.const _
  · simp only [if_neg h, if_neg (show ¬ (l.length : Int) > 4 by omega)]
    exact ev_ct_l0 l (by omega) hs l.length 0 (by omega)
theorem ev_ro_l1 (l : List S28) (hl : l.length ≤ 4) (i : Nat) (hi : i < l.length) (r : Int) (hnext : Ev (fun k => sutlerref05_CheckTols.l0 k l ((i + 1 : Nat) : Int)) r) : ∀ m j : Nat, j + m = i →
    Ev (fun k => sutlerref05_CheckTols.l1 k l (i : Int) (j : Int)) (if ((l.take i).drop j).any (eqT l[i]) = true then 6 else r)
  | 0, j, h => by
    refine Ev.succ ?_
    simp only [sutlerref05_CheckTols.l1, if_neg (show ¬ ((j : Int) < (i : Int)) by omega), w_succ (show i + 1 ≤ 9223372036854775807 by omega)]
    rw [List.drop_eq_nil_of_le (by rw [List.length_take]; omega), List.any_nil, if_neg (by decide)]
    exact hnext
  | m + 1, j, h => by
    have hj : j < (l.take i).length := by rw [List.length_take]; omega
    have hjl : j < l.length := by omega
    rw [List.drop_eq_getElem_cons hj, List.any_cons, List.getElem_take]
    refine Ev.succ ?_
    simp only [sutlerref05_CheckTols.l1, if_pos (show (j : Int) < (i : Int) by omega), if_pos (show (0 : Int) ≤ (j : Int) by omega), if_pos (show (j : Int) < (l.length : Int) by omega), if_pos (show (0 : Int) ≤ (i : Int) by omega), if_pos (show (i : Int) < (l.length : Int) by omega), rdT l j hjl, rdT l i hi, w_succ (show j + 1 ≤ 9223372036854775807 by omega)]
    show Ev (fun k => if eqT l[i] l[j] = true then _ else _) _
    by_cases hk : eqT l[i] l[j] = true
    · simp only [if_pos hk, hk, Bool.true_or, if_true]
      exact Ev.const _
    · simp only [if_neg hk, Bool.eq_false_iff.2 hk, Bool.false_or]
      exact ev_ro_l1 l hl i hi r hnext m (j + 1) (by omega)
theorem ev_ro_j1 (l : List S28) (hl : l.length ≤ 4) (i : Nat) (hi : i < l.length) (r : Int) (hnext : Ev (fun k => sutlerref05_CheckTols.l0 k l ((i + 1 : Nat) : Int)) r) (x : Bool) :
    Ev (fun k => sutlerref05_CheckTols.j1 k l (i : Int) x) (if x = true then 20 else if (l.take i).any (eqT l[i]) = true then 6 else r) := by
  refine Ev.succ ?_
  cases x
  · simp only [sutlerref05_CheckTols.j1, Bool.false_eq_true, if_false]
    have := ev_ro_l1 l hl i hi r hnext i 0 (by omega)
    rw [List.drop_zero] at this
    exact this
  · simp only [sutlerref05_CheckTols.j1, if_true]
    exact Ev.const _
theorem ev_ro_l0 (l : List S28) (hl : l.length ≤ 4) (hs : ∀ t ∈ l, SmallT t) : ∀ m i : Nat, i + m = l.length → Ev (fun k => sutlerref05_CheckTols.l0 k l (i : Int)) (oGo (l.take i) (l.drop i))
  | 0, i, h => by
    refine Ev.succ ?_
    simp only [sutlerref05_CheckTols.l0, if_neg (show ¬ ((i : Int) < (l.length : Int)) by omega)]
    rw [List.drop_eq_nil_of_le (by omega)]
    refine (Ev.const _).to ?_
    cases l.take i <;> rfl
  | m + 1, i, h => by
    have hi : i < l.length := by omega
    obtain ⟨s0, s1⟩ := hs l[i] (List.getElem_mem hi)
    have ih := ev_ro_l0 l hl hs m (i + 1) (by omega)
    rw [take_succ_ l i hi] at ih
    have hj := fun x => ev_ro_j1 l hl i hi _ ih x
    rw [List.drop_eq_getElem_cons hi, oGo]
    refine Ev.succ ?_
    simp only [sutlerref05_CheckTols.l0, if_pos (show (i : Int) < (l.length : Int) by omega), if_pos (show (0 : Int) ≤ (i : Int) by omega), rdT l i hi]
    refine Ev.bind (ev_refName _ (by omega)) ?_
    have e : nameB l[i].f0 = nameV l[i].f0 := rfl
    rw [e]
    cases nameV l[i].f0
    · simp only [Bool.false_eq_true, if_false, if_true]
      exact Ev.const _
    · simp only [if_true, Bool.true_eq_false, if_false]
      refine Ev.bind (ev_Val _ (by omega)) ?_
      unfold badT
      cases hf : l[i].f2
      · simp only [Bool.false_eq_true, if_false]
        exact hj _
      · simp only [if_true]
        by_cases hx : l[i].f1.toList = []
        · simp only [if_pos hx]
          exact (hj false).to (by rw [hx]; rfl)
        · simp only [if_neg hx]
          exact (hj true).to (by rw [if_pos rfl, if_pos (bne_iff_ne.2 hx)])
theorem ev_rCheckTols {l : List S28} (hs : ∀ t ∈ l, SmallT t) : Ev (fun k => sutlerref05_CheckTols.f k l) (tolsV l) := by
  unfold sutlerref05_CheckTols.f tolsV
  by_cases h : l.length > 4
  · simp only [if_pos h, if_pos (show (l.length : Int) > 4 by omega)]
    exact Ev.const _
  · simp only [if_neg h, if_neg (show ¬ (l.length : Int) > 4 by omega)]
    exact ev_ro_l0 l (by omega) hs l.length 0 (by omega)
end Go.Proofs.YthgdeoacplcceaaDoor.PAll
