import Derived.Test.YtiodidhbkgnicaaSAsk
import Derived.Test.YtiodidhbkgnicaaPAllx19
set_option linter.unusedVariables false
set_option linter.unusedSimpArgs false
namespace Go.Proofs.Ytiodidhbkgnicaa.PAll
open Go.RowKit Go.Proofs.YtiodidhbkgnicaaW.PrintWords Mem

theorem rd23_nat (l : List S23) (i : Nat) (h : i < l.length) : rd_T23 l (i : Int) = l[i] := by
  simp [rd_T23, List.getD_eq_getElem?_getD, h]
theorem ev_refIs_l (l : List S25) (x : S23) (a : Int) (hl : l.length ≤ 9223372036854775806) : ∀ m i : Nat, i + m = l.length → Ev (fun k => sutlerref07_IsCool.l0 k l a (i : Int) x.f0 x.f1 x.f2) (isV (l.drop i) x a)
  | 0, i, h => by
    refine Ev.succ ?_
    simp only [sutlerref07_IsCool.l0, if_neg (show ¬ ((i : Int) < (l.length : Int)) by omega), List.drop_eq_nil_of_le (show l.length ≤ i by omega)]
    exact Ev.const _
  | m + 1, i, h => by
    have hi : i < l.length := by omega
    have ih := ev_refIs_l l x a hl m (i + 1) (by omega)
    refine Ev.succ ?_
    simp only [sutlerref07_IsCool.l0, if_pos (show (i : Int) < (l.length : Int) by omega), if_pos (show (0 : Int) ≤ (i : Int) by omega), rd_nat l i hi, w_succ (show i + 1 ≤ 9223372036854775807 by omega), List.drop_eq_getElem_cons hi]
    have hu : isV (l[i] :: l.drop (i + 1)) x a = (eqOffer l[i].f0 x && decide (l[i].f1 > a) || isV (l.drop (i + 1)) x a) := by unfold isV; rw [List.any_cons]
    rw [hu]
    show Ev (fun k => if eqOffer l[i].f0 x = true then _ else _) _
    by_cases h1 : eqOffer l[i].f0 x = true
    · by_cases h2 : l[i].f1 > a
      · simp only [h1, if_true, if_pos h2, decide_eq_true h2, Bool.and_self, Bool.true_or]
        exact Ev.const _
      · simp only [h1, if_true, if_neg h2, decide_eq_false h2, Bool.and_false, Bool.false_or]
        exact ih
    · simp only [h1, if_false, Bool.false_and, Bool.false_or]
      exact ih
theorem ev_refIs {l : List S25} (hl : l.length ≤ 9223372036854775806) (x : S23) (a : Int) : Ev (fun k => sutlerref07_IsCool.f k l x.f0 x.f1 x.f2 a) (isV l x a) :=
  ev_refIs_l l x a hl l.length 0 (by omega)
theorem ev_refLeft_l (l : List S25) (os : List S23) (a : Int) (hl : l.length ≤ 9223372036854775806) (ho : os.length ≤ 2932031007402) : ∀ m i : Nat, ∀ out : List S23, i + m = os.length → out.length ≤ i → Ev (fun k => sutlerref07_Left.l0 k l os a out (i : Int)) (out ++ leftV l (os.drop i) a)
  | 0, i, out, h, hout => by
    refine Ev.succ ?_
    simp only [sutlerref07_Left.l0, if_neg (show ¬ ((i : Int) < (os.length : Int)) by omega), List.drop_eq_nil_of_le (show os.length ≤ i by omega)]
    refine (Ev.const _).to ?_
    simp [leftV]
  | m + 1, i, out, h, hout => by
    have hi : i < os.length := by omega
    refine Ev.succ ?_
    simp only [sutlerref07_Left.l0, if_pos (show (i : Int) < (os.length : Int) by omega), if_pos (show (0 : Int) ≤ (i : Int) by omega), rd23_nat os i hi, w_succ (show i + 1 ≤ 9223372036854775807 by omega), List.drop_eq_getElem_cons hi]
    refine Ev.bind (ev_refIs hl _ _) ?_
    by_cases h1 : isV l os[i] a = true
    · simp only [h1, if_true]
      refine (ev_refLeft_l l os a hl ho m (i + 1) out (by omega) (by omega)).to ?_
      unfold leftV
      rw [List.filter_cons, if_neg (by rw [h1]; decide)]
    · simp only [h1, if_false, if_pos (show out.length < 2932031007402 by omega)]
      refine (ev_refLeft_l l os a hl ho m (i + 1) (out ++ [os[i]]) (by omega) (by simp; omega)).to ?_
      unfold leftV
      rw [List.filter_cons, if_pos (by rw [Bool.eq_false_iff.2 h1]; rfl), List.append_assoc]
      rfl
theorem ev_refLeft {l : List S25} {os : List S23} (hl : l.length ≤ 9223372036854775806) (ho : os.length ≤ 2932031007402) (a : Int) : Ev (fun k => sutlerref07_Left.f k l os a) (leftV l os a) :=
  ev_refLeft_l l os a hl ho os.length 0 [] (by omega) (Nat.zero_le _)
theorem ev_refClean_l (l : List S25) (a : Int) (hl : l.length ≤ 2513169434915) : ∀ m i : Nat, ∀ out : List S25, i + m = l.length → out.length ≤ i → Ev (fun k => sutlerref07_Clean.l0 k l a out (i : Int)) (out ++ cleanL (l.drop i) a)
  | 0, i, out, h, hout => by
    refine Ev.succ ?_
    simp only [sutlerref07_Clean.l0, if_neg (show ¬ ((i : Int) < (l.length : Int)) by omega), List.drop_eq_nil_of_le (show l.length ≤ i by omega)]
    refine (Ev.const _).to ?_
    simp [cleanL]
  | m + 1, i, out, h, hout => by
    have hi : i < l.length := by omega
    refine Ev.succ ?_
    simp only [sutlerref07_Clean.l0, if_pos (show (i : Int) < (l.length : Int) by omega), if_pos (show (0 : Int) ≤ (i : Int) by omega), rd_nat l i hi, w_succ (show i + 1 ≤ 9223372036854775807 by omega), List.drop_eq_getElem_cons hi]
    by_cases h1 : l[i].f1 > a
    · simp only [if_pos h1, if_pos (show out.length < 2513169434916 by omega)]
      refine (ev_refClean_l l a hl m (i + 1) (out ++ [l[i]]) (by omega) (by simp; omega)).to ?_
      unfold cleanL
      rw [List.filter_cons, if_pos (decide_eq_true h1), List.append_assoc]
      rfl
    · simp only [if_neg h1]
      refine (ev_refClean_l l a hl m (i + 1) out (by omega) (by omega)).to ?_
      unfold cleanL
      rw [List.filter_cons, if_neg (by rw [decide_eq_false h1]; decide)]
theorem ev_refClean {l : List S25} (hl : l.length ≤ 2513169434915) (a : Int) : Ev (fun k => sutlerref07_Clean.f k l a) (cleanL l a) :=
  ev_refClean_l l a hl l.length 0 [] (by omega) (Nat.zero_le _)
def nextGo (a : Int) : List S25 → Int → Bool → Int × Bool
  | [], n, is => (n, is)
  | c :: r, n, is => if c.f1 > a then (if is = true then (if c.f1 < n then nextGo a r c.f1 true else nextGo a r n is) else nextGo a r c.f1 true) else nextGo a r n is
theorem nextGo_true (a : Int) : ∀ (l : List S25) (n : Int), nextGo a l n true = (minU n (cleanL l a), true)
  | [], n => rfl
  | c :: r, n => by
    unfold nextGo cleanL
    rw [List.filter_cons]
    by_cases h : c.f1 > a
    · rw [if_pos h, if_pos rfl, if_pos (decide_eq_true h), minU]
      by_cases h2 : c.f1 < n
      · rw [if_pos h2, if_pos h2, nextGo_true a r]
        rfl
      · rw [if_neg h2, if_neg h2, nextGo_true a r]
        rfl
    · rw [if_neg h, if_neg (by rw [decide_eq_false h]; decide), nextGo_true a r]
      rfl
theorem nextGo_false (a : Int) : ∀ (l : List S25), nextGo a l 0 false = nextV (cleanL l a)
  | [] => rfl
  | c :: r => by
    unfold nextGo cleanL
    rw [List.filter_cons]
    by_cases h : c.f1 > a
    · rw [if_pos h, if_neg (by decide), if_pos (decide_eq_true h), nextGo_true a r]
      rfl
    · rw [if_neg h, if_neg (by rw [decide_eq_false h]; decide), nextGo_false a r]
      rfl
theorem ev_refNext_l (l : List S25) (a : Int) (hl : l.length ≤ 9223372036854775806) : ∀ m i : Nat, ∀ (n : Int) (is : Bool), i + m = l.length → Ev (fun k => sutlerref07_Next.l0 k l a n is (i : Int)) (nextGo a (l.drop i) n is)
  | 0, i, n, is, h => by
    refine Ev.succ ?_
    simp only [sutlerref07_Next.l0, if_neg (show ¬ ((i : Int) < (l.length : Int)) by omega), List.drop_eq_nil_of_le (show l.length ≤ i by omega), nextGo]
    exact Ev.const _
  | m + 1, i, n, is, h => by
    have hi : i < l.length := by omega
    refine Ev.succ ?_
    simp only [sutlerref07_Next.l0, if_pos (show (i : Int) < (l.length : Int) by omega), if_pos (show (0 : Int) ≤ (i : Int) by omega), rd_nat l i hi, w_succ (show i + 1 ≤ 9223372036854775807 by omega), List.drop_eq_getElem_cons hi, nextGo]
    by_cases h1 : l[i].f1 > a
    · simp only [if_pos h1]
      cases is with
      | true =>
        simp only [if_true]
        by_cases h2 : l[i].f1 < n
        · simp only [if_pos h2]
          exact ev_refNext_l l a hl m (i + 1) _ _ (by omega)
        · simp only [if_neg h2]
          exact ev_refNext_l l a hl m (i + 1) _ _ (by omega)
      | false =>
        simp only [Bool.false_eq_true, if_false]
        exact ev_refNext_l l a hl m (i + 1) _ _ (by omega)
    · simp only [if_neg h1]
      exact ev_refNext_l l a hl m (i + 1) _ _ (by omega)
theorem ev_refNext {l : List S25} (hl : l.length ≤ 9223372036854775806) (a : Int) : Ev (fun k => sutlerref07_Next.f k l a) (nextV (cleanL l a)) :=
  (ev_refNext_l l a hl l.length 0 0 false (by omega)).to (nextGo_false a l)
end Go.Proofs.Ytiodidhbkgnicaa.PAll
