import Derived.Test.YtiodidhbkgnicaaSPut
import Derived.Test.YtiodidhbkgnicaaEAsk
import Derived.Test.YtiodidhbkgnicaaEClean
import Derived.Test.YtiodidhbkgnicaaPAllx10
set_option linter.unusedVariables false
set_option linter.unusedSimpArgs false
namespace Go.Proofs.Ytiodidhbkgnicaa.PAll
open Go.RowKit Go.Proofs.YtiodidhbkgnicaaW.PrintWords Mem

theorem eqOffer_iff {a b : S23} : eqOffer a b = true ↔ a = b := ⟨eqOffer_eq, fun h => h ▸ eqOffer_self a⟩
theorem eqOffer_false {a b : S23} (h : a ≠ b) : eqOffer a b = false := Bool.eq_false_iff.2 (fun h2 => h (eqOffer_eq h2))
/-- Is the offer cool? -/
def isV (l : List S25) (x : S23) (a : Int) : Bool := l.any (fun c => eqOffer c.f0 x && decide (c.f1 > a))
theorem look_put (x y : S23) (v : Bool) : ∀ m, lookM eqOffer x (putM eqOffer y v m) = if eqOffer x y = true then some v else lookM eqOffer x m
  | [] => by simp [putM, lookM]
  | p :: r => by
    have ih := look_put x y v r
    unfold putM
    by_cases h1 : eqOffer y p.1 = true
    · have e1 : y = p.1 := eqOffer_eq h1
      rw [if_pos h1]
      simp only [lookM, ← e1]
      by_cases h2 : eqOffer x y = true
      · simp [h2]
      · simp [h2]
    · rw [if_neg h1]
      simp only [lookM]
      by_cases h3 : eqOffer x p.1 = true
      · have e3 : x = p.1 := eqOffer_eq h3
        have h2 : ¬ eqOffer x y = true := fun h => h1 (by rw [← e3]; exact eqOffer_iff.2 (eqOffer_eq h).symm)
        simp [h3, h2]
      · simp only [if_neg h3]
        exact ih
theorem look_fold (x : S23) (a : Int) : ∀ (l : List S25) (m : List (S23 × Bool)), lookB (l.foldl (coolStep a) m) x = (isV l x a || lookB m x)
  | [], m => by simp [isV]
  | c :: r, m => by
    rw [List.foldl_cons, look_fold x a r]
    unfold coolStep isV
    rw [List.any_cons]
    by_cases h : c.f1 > a
    · rw [if_pos h]
      have hp : lookB (putM eqOffer c.f0 true m) x = (eqOffer x c.f0 || lookB m x) := by
        unfold lookB
        rw [look_put]
        by_cases h2 : eqOffer x c.f0 = true
        · simp [h2]
        · simp [h2]
      rw [hp]
      have hs : eqOffer x c.f0 = eqOffer c.f0 x := by
        by_cases h2 : x = c.f0
        · rw [h2]
        · rw [eqOffer_false h2, eqOffer_false (fun h3 => h2 h3.symm)]
      rw [hs]
      simp only [decide_eq_true h, Bool.and_true]
      cases eqOffer c.f0 x <;> simp
    · rw [if_neg h]
      simp only [decide_eq_false h, Bool.and_false, Bool.false_or]
theorem look_cool (l : List S25) (x : S23) (a : Int) : lookB (coolM l a) x = isV l x a := by
  unfold coolM
  rw [look_fold]
  have : lookB [] x = false := rfl
  rw [this, Bool.or_false]
theorem is_now {l : List S25} (hl : l.length ≤ 9223372036854775806) (x : S23) (a : Int) : cool_IsCool.f l x.f0 x.f1 x.f2 a = some (isV l x a) := by
  unfold cool_IsCool.f
  rw [if_pos hl, look_cool]
def leftV (l : List S25) (os : List S23) (a : Int) : List S23 := os.filter (fun o => !isV l o a)
theorem left_fold (l : List S25) (a : Int) : ∀ (os out : List S23), os.foldl (leftStep (coolM l a)) out = out ++ leftV l os a
  | [], out => by simp [leftV]
  | o :: r, out => by
    rw [List.foldl_cons, left_fold l a r]
    unfold leftStep leftV
    rw [look_cool, List.filter_cons]
    by_cases h : isV l o a = true
    · simp [h]
    · simp [h]
theorem left_now {l : List S25} {os : List S23} (hl : l.length ≤ 9223372036854775806) (ho : os.length ≤ 2932031007402) (a : Int) : cool_Left.f l os a = some (leftV l os a) := by
  unfold cool_Left.f
  rw [if_pos ⟨hl, ho⟩]
  unfold leftL
  rw [left_fold, List.nil_append]
theorem clean_now {l : List S25} (hl : l.length * 56 ≤ 140737488355328) (a : Int) : cool_Clean.f l a = some (cleanL l a) := if_pos hl

/-! ### the next one -/
def minU : Int → List S25 → Int
  | n, [] => n
  | n, c :: r => if c.f1 < n then minU c.f1 r else minU n r
def nextV (l : List S25) : Int × Bool := match l with
  | [] => (0, false)
  | c :: r => (minU c.f1 r, true)
theorem cmp_now (a b : Int) : cmp_Compare_int64.f a b = some (if a < b then -1 else if a > b then 1 else 0) := by
  unfold cmp_Compare_int64.f cmp_isNaN_int64.f
  simp only [bne_self_eq_false, Option.bind_some, Bool.false_eq_true, if_false]
  by_cases h1 : a < b
  · simp [h1]
  · by_cases h2 : a > b <;> simp [h1, h2]
theorem ev_min_l (l : List S25) (hl : l.length ≤ 9223372036854775806) : ∀ m i : Nat, ∀ x : S25, i + m = l.length → ∃ y : S25, y.f1 = minU x.f1 (l.drop i) ∧ Ev (fun k => api_Cooling_at_cool_Next_1.l0 k l (i : Int) x.f0.f0 x.f0.f1 x.f0.f2 x.f1) (y.f0.f0, y.f0.f1, y.f0.f2, y.f1)
  | 0, i, x, h => by
    refine ⟨x, by rw [List.drop_eq_nil_of_le (by omega)]; rfl, Ev.succ ?_⟩
    simp only [api_Cooling_at_cool_Next_1.l0, if_neg (show ¬ ((i : Int) < (l.length : Int)) by omega)]
    exact Ev.const _
  | m + 1, i, x, h => by
    have hi : i < l.length := by omega
    by_cases hk : l[i].f1 < x.f1
    · obtain ⟨y, hy, hE⟩ := ev_min_l l hl m (i + 1) l[i] (by omega)
      refine ⟨y, by rw [List.drop_eq_getElem_cons hi, minU, if_pos hk]; exact hy, Ev.succ ?_⟩
      simp only [api_Cooling_at_cool_Next_1.l0, if_pos (show (i : Int) < (l.length : Int) by omega), if_pos (show (0 : Int) ≤ (i : Int) by omega), rd_nat l i hi, w_succ (show i + 1 ≤ 9223372036854775807 by omega), cool_Next_1.f, cmp_now, Option.bind_some, if_pos hk]
      simp only [if_pos (show (-1 : Int) < 0 by decide)]
      exact hE
    · obtain ⟨y, hy, hE⟩ := ev_min_l l hl m (i + 1) x (by omega)
      refine ⟨y, by rw [List.drop_eq_getElem_cons hi, minU, if_neg hk]; exact hy, Ev.succ ?_⟩
      simp only [api_Cooling_at_cool_Next_1.l0, if_pos (show (i : Int) < (l.length : Int) by omega), if_pos (show (0 : Int) ≤ (i : Int) by omega), rd_nat l i hi, w_succ (show i + 1 ≤ 9223372036854775807 by omega), cool_Next_1.f, cmp_now, Option.bind_some, if_neg hk]
      have h0 : ¬ ((if l[i].f1 > x.f1 then (1 : Int) else 0) < 0) := by split <;> decide
      simp only [if_neg h0]
      exact hE
theorem ev_Next {l : List S25} (hl : l.length * 56 ≤ 140737488355328) (a : Int) : Ev (fun k => cool_Next.f k l a) (nextV (cleanL l a)) := by
  unfold cool_Next.f
  refine Ev.bindNow (clean_now hl a) ?_
  have hlen : (cleanL l a).length ≤ l.length := List.length_filter_le _ _
  cases hc : cleanL l a with
  | nil =>
    simp only [List.length_nil, nextV]
    exact Ev.const _
  | cons c r =>
    rw [hc] at hlen
    simp only [if_neg (show ¬ (((c :: r).length : Nat) : Int) = 0 by simp only [List.length_cons]; omega), nextV]
    obtain ⟨y, hy, hE⟩ := ev_min_l (c :: r) (by omega) r.length 1 c (by simp; omega)
    unfold api_Cooling_at_cool_Next_1.f
    simp only [if_neg (show ¬ (((c :: r).length : Nat) : Int) < 1 by simp only [List.length_cons]; omega), if_pos (show (0 : Int) < (((c :: r).length : Nat) : Int) by simp only [List.length_cons]; omega)]
    have e0 : rd_T25 (c :: r) 0 = c := rfl
    rw [e0]
    refine Ev.bind hE ?_
    refine (Ev.const _).to ?_
    rw [hy]
    rfl
end Go.Proofs.Ytiodidhbkgnicaa.PAll
