import Derived.Test.YthgdeoacplcceaaDoorQTaintTolerates
import Derived.Test.YthgdeoacplcceaaDoorPAllx14
import Derived.Test.YthgdeoacplcceaaDoorEOpens
namespace Go.Proofs.YthgdeoacplcceaaDoor.PAll.Pure
open Go.RowKit Go.Proofs.YthgdeoacplcceaaDoorW.PrintWords
theorem w_m1 {n : Nat} (h : n ≤ 9223372036854775807) : wrap64 ((n : Int) - 1) = (n : Int) - 1 := by
  rcases Nat.eq_zero_or_pos n with rfl | h0
  · show wrap64 (-1) = -1
    kernel_rfl
  · rw [w_pred h0 h]
    omega
def tolV (m : List S28) (a : List S26) : Bool := !(a.any (bareV m))
theorem tol_now (m : List S28) (a : List S26) (hm : m.length ≤ 9223372036854775806) (ha : a.length ≤ 9223372036854775806) : taint_Tolerates.f m a = some (tolV m a) := if_pos ⟨hm, ha⟩
theorem ev_more_l1 (m more : List S28) (a b : List S26) (mr : List S28) (r : Bool) (ha : a.length < 4398046511104)
    (h : Ev (fun k => sutlerlaw05_TaintMore.l1 k m more a b mr a.reverse (-1)) r) :
    ∀ n : Nat, n ≤ a.length → ∀ acc : List S26, acc ++ (a.take n).reverse = a.reverse → Ev (fun k => sutlerlaw05_TaintMore.l1 k m more a b mr acc ((n : Int) - 1)) r
  | 0, _, acc, hacc => by
    rw [List.take_zero, List.reverse_nil, List.append_nil] at hacc
    subst hacc
    exact h
  | n + 1, hn, acc, hacc => by
    have hi : n < a.length := by omega
    have hlen : acc.length < 4398046511104 := by
      have := congrArg List.length hacc
      rw [List.length_append, List.length_reverse, List.length_reverse] at this
      omega
    refine Ev.succ ?_
    have e : ((n + 1 : Nat) : Int) - 1 = (n : Int) := by omega
    simp only [sutlerlaw05_TaintMore.l1, e, if_pos (show (n : Int) ≥ 0 by omega), if_pos (show (0 : Int) ≤ (n : Int) by omega), if_pos (show (n : Int) < (a.length : Int) by omega), if_pos hlen, rdL a n hi, w_m1 (show n ≤ 9223372036854775807 by omega)]
    refine ev_more_l1 m more a b mr r ha h n (by omega) _ ?_
    rw [← hacc, take_succ_ a n hi, List.reverse_append, List.append_assoc]
    rfl
theorem ev_more_l0 (m more : List S28) (a b : List S26) (r : Bool) (hm : m.length < 3518437208883) (ha : a.length < 4398046511104)
    (h : Ev (fun k => sutlerlaw05_TaintMore.l1 k m more a b m.reverse [] ((a.length : Int) - 1)) r) :
    ∀ n : Nat, n ≤ m.length → ∀ acc : List S28, acc ++ (m.take n).reverse = m.reverse → Ev (fun k => sutlerlaw05_TaintMore.l0 k m more a b acc ((n : Int) - 1)) r
  | 0, _, acc, hacc => by
    rw [List.take_zero, List.reverse_nil, List.append_nil] at hacc
    subst hacc
    refine Ev.succ ?_
    simp only [sutlerlaw05_TaintMore.l0, if_neg (show ¬ ((0 : Nat) : Int) - 1 ≥ 0 by omega), w_m1 (show a.length ≤ 9223372036854775807 by omega)]
    exact h
  | n + 1, hn, acc, hacc => by
    have hi : n < m.length := by omega
    have hlen : acc.length < 3518437208883 := by
      have := congrArg List.length hacc
      rw [List.length_append, List.length_reverse, List.length_reverse] at this
      omega
    refine Ev.succ ?_
    have e : ((n + 1 : Nat) : Int) - 1 = (n : Int) := by omega
    simp only [sutlerlaw05_TaintMore.l0, e, if_pos (show (n : Int) ≥ 0 by omega), if_pos (show (0 : Int) ≤ (n : Int) by omega), if_pos (show (n : Int) < (m.length : Int) by omega), if_pos hlen, rdT m n hi, w_m1 (show n ≤ 9223372036854775807 by omega)]
    refine ev_more_l0 m more a b r hm ha h n (by omega) _ ?_
    rw [← hacc, take_succ_ m n hi, List.reverse_append, List.append_assoc]
    rfl
theorem tol_append (m : List S28) (a b : List S26) : tolV m (a ++ b) = (tolV m a && tolV m b) := by
  unfold tolV
  rw [List.any_append, Bool.not_or]
theorem tol_wide (m more : List S28) (a : List S26) (h : tolV m a = true) : tolV (more ++ m) a = true := by
  unfold tolV bareV at *
  simp only [Bool.not_eq_true', List.any_eq_false, Bool.not_eq_true, Bool.not_eq_false', List.any_append, Bool.or_eq_true] at h ⊢
  intro x hx
  have := h x hx
  simp_all
theorem tol_nil (a : List S26) : tolV [] a = ((a.length : Int) == 0) := by
  cases a with
  | nil => rfl
  | cons x l =>
    have e : ¬ (((x :: l).length : Int) = 0) := by simp only [List.length_cons]; omega
    rw [beq_eq_false_iff_ne.2 e]
    rfl
theorem tol_back (m : List S28) (a : List S26) : tolV m.reverse a.reverse = tolV m a := by
  unfold tolV bareV
  simp only [List.any_reverse]
theorem TaintMore_small (m more : List S28) (a b : List S26) (hm : m.length ≤ 1048576) (hmo : more.length ≤ 1048576) (ha : a.length ≤ 1048576) (hb : b.length ≤ 1048576) : ∃ k, sutlerlaw05_TaintMore.f k m more a b = some true := by
  refine Ev.get (g := fun k => sutlerlaw05_TaintMore.f k m more a b) ?_
  unfold sutlerlaw05_TaintMore.f
  rw [w_m1 (show m.length ≤ 9223372036854775807 by omega)]
  refine ev_more_l0 m more a b true (by omega) (by omega) ?_ m.length (Nat.le_refl _) [] (by rw [List.take_length]; rfl)
  refine ev_more_l1 m more a b m.reverse true (by omega) ?_ a.length (Nat.le_refl _) [] (by rw [List.take_length]; rfl)
  refine Ev.succ ?_
  simp only [sutlerlaw05_TaintMore.l1, if_neg (show ¬ (-1 : Int) ≥ 0 by omega)]
  refine Ev.bindNow (tol_now m a (by omega) (by omega)) (Ev.bindNow (tol_now m b (by omega) (by omega)) (Ev.bindNow rfl ?_))
  simp only [List.length_nil, Nat.zero_add, List.nil_append, if_pos (show a.length < 4398046511104 by omega)]
  refine Ev.bindNow rfl ?_
  simp only [if_pos (show a.length + b.length < 4398046511104 by omega)]
  refine Ev.bindNow (tol_now m (a ++ b) (by omega) (by rw [List.length_append]; omega)) (Ev.bindNow rfl ?_)
  simp only [List.length_nil, Nat.zero_add, List.nil_append, if_pos (show more.length < 3518437208883 by omega)]
  refine Ev.bindNow rfl ?_
  simp only [if_pos (show more.length + m.length < 3518437208883 by omega)]
  refine Ev.bindNow (tol_now (more ++ m) a (by rw [List.length_append]; omega) (by omega)) (Ev.bindNow (tol_now [] a (by simp) (by omega)) ?_)
  rw [tol_nil, beq_self_eq_true]
  simp only [if_true]
  refine Ev.bindNow (tol_now m [] (by omega) (by simp)) (Ev.bind ev_live ?_)
  have hlast := tol_now m.reverse a.reverse (by rw [List.length_reverse]; omega) (by rw [List.length_reverse]; omega)
  rw [tol_back] at hlast
  simp only [if_true, tol_append, hlast, Option.bind_some]
  cases hx : tolV m a
  · simp only [Bool.false_and, beq_self_eq_true, if_true, Bool.false_eq_true, if_false]
    exact Ev.const _
  · rw [tol_wide m more a hx]
    simp only [Bool.true_and, beq_self_eq_true, if_true]
    exact Ev.const _
theorem TaintMore (x0 : ((List S28) × (List S28) × (List S26) × (List S26))) (g0 : good38 x0) (u0 : small38 1048576 x0) : ∃ k, sutlerlaw05_TaintMore.f k x0.1 x0.2.1 x0.2.2.1 x0.2.2.2 = some true := by
  obtain ⟨⟨h1, _⟩, ⟨h2, _⟩, ⟨h3, _⟩, ⟨h4, _⟩⟩ := u0
  exact TaintMore_small _ _ _ _ h1 h2 h3 h4
end Go.Proofs.YthgdeoacplcceaaDoor.PAll.Pure
