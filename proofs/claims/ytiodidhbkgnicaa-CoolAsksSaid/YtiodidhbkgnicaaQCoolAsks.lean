import Derived.Test.YtiodidhbkgnicaaPAllx20
import Derived.Test.YtiodidhbkgnicaaEOpens
import Derived.Test.YtiodidhbkgnicaaSRefAsk
set_option linter.unusedVariables false
set_option linter.unusedSimpArgs false
namespace Go.Proofs.Ytiodidhbkgnicaa.PAll
open Go.RowKit Go.Proofs.YtiodidhbkgnicaaW.PrintWords
theorem ev_Asks_l2 (l : List S25) (hl : l.length ≤ 9223372036854775806) : ∀ m i : Nat, ∀ c : List S25, i + m = c.length → c.length ≤ 9223372036854775806 → Ev (fun k => sutlerlaw07_CoolAsks.l2 k l l c (i : Int)) true
  | 0, i, c, h, hc => by
    refine Ev.succ ?_
    simp only [sutlerlaw07_CoolAsks.l2, if_neg (show ¬ ((i : Int) < (c.length : Int)) by omega)]
    refine Ev.bind ev_live ?_
    simp only [if_true]
    exact Ev.bind (ev_same l hl) (Ev.const _)
  | m + 1, i, c, h, hc => by
    refine Ev.succ ?_
    simp only [sutlerlaw07_CoolAsks.l2, if_pos (show (i : Int) < (c.length : Int) by omega), if_pos (show (0 : Int) ≤ (i : Int) by omega), w_succ (show i + 1 ≤ 9223372036854775807 by omega)]
    exact ev_Asks_l2 l hl m (i + 1) _ (by rw [List.length_set]; omega) (by rw [List.length_set]; exact hc)
theorem ev_Asks_l1 (l : List S25) (os : List S23) (a : Int) (c : List S25) (hl : l.length ≤ 9223372036854775806) (ho : os.length ≤ 9223372036854775806) (hc : c.length ≤ 9223372036854775806) : ∀ m i : Nat, i + m = os.length → Ev (fun k => sutlerlaw07_CoolAsks.l1 k l os a l c (i : Int)) true
  | 0, i, h => by
    refine Ev.succ ?_
    simp only [sutlerlaw07_CoolAsks.l1, if_neg (show ¬ ((i : Int) < (os.length : Int)) by omega)]
    exact ev_Asks_l2 l hl c.length 0 c (by omega) hc
  | m + 1, i, h => by
    have hi : i < os.length := by omega
    refine Ev.succ ?_
    simp only [sutlerlaw07_CoolAsks.l1, if_pos (show (i : Int) < (os.length : Int) by omega), if_pos (show (0 : Int) ≤ (i : Int) by omega), rd23_nat os i hi, w_succ (show i + 1 ≤ 9223372036854775807 by omega)]
    refine Ev.bindNow (is_now hl _ _) (Ev.bind (ev_refIs hl _ _) ?_)
    simp only [bne_self_eq_false, Bool.false_eq_true, if_false]
    exact ev_Asks_l1 l os a c hl ho hc m (i + 1) (by omega)
theorem ev_Asks_l0 (l : List S25) (os : List S23) (a : Int) (c : List S25) (hl : l.length ≤ 9223372036854775806) (ho : os.length ≤ 9223372036854775806) (hc : c.length ≤ 9223372036854775806) (y : List S23) (hy : y.length ≤ 9223372036854775806) :
    ∀ m i : Nat, ∀ x : List S23, i + m = x.length → x.length = y.length → (∀ j, i ≤ j → x[j]? = y[j]?) → Ev (fun k => sutlerlaw07_CoolAsks.l0 k l os a l x y c (i : Int)) true
  | 0, i, x, h, hxy, he => by
    refine Ev.succ ?_
    simp only [sutlerlaw07_CoolAsks.l0, if_neg (show ¬ ((i : Int) < (x.length : Int)) by omega)]
    exact ev_Asks_l1 l os a c hl ho hc os.length 0 (by omega)
  | m + 1, i, x, h, hxy, he => by
    have hi : i < x.length := by omega
    have hi2 : i < y.length := by omega
    have hx : x[i] = y[i] := by
      have := he i (Nat.le_refl _)
      rw [List.getElem?_eq_getElem hi, List.getElem?_eq_getElem hi2] at this
      exact Option.some.inj this
    refine Ev.succ ?_
    simp only [sutlerlaw07_CoolAsks.l0, if_pos (show (i : Int) < (x.length : Int) by omega), if_pos (show (0 : Int) ≤ (i : Int) by omega), if_pos (show (i : Int) < (y.length : Int) by omega), rd23_nat x i hi, rd23_nat y i hi2, hx, beq_self_eq_true, Bool.not_true, Bool.or_false, Bool.false_eq_true, if_false, w_succ (show i + 1 ≤ 9223372036854775807 by omega), Int.toNat_natCast]
    refine ev_Asks_l0 l os a c hl ho hc y hy m (i + 1) _ (by rw [List.length_set]; omega) (by rw [List.length_set]; exact hxy) (fun j hj => ?_)
    rw [List.getElem?_set_ne (by omega)]
    exact he j (by omega)
end Go.Proofs.Ytiodidhbkgnicaa.PAll
namespace Go.Proofs.Ytiodidhbkgnicaa.Pure
open Go.RowKit Go.Proofs.Ytiodidhbkgnicaa.PAll
theorem CoolAsks (x0 : (List S25)) (x1 : (List S23)) (a2 : Int) (g0 : (x0.length * 56 ≤ 140737488351232 ∧ ∀ y_ ∈ x0, good25 y_)) (g1 : (x1.length * 48 ≤ 140737488351232 ∧ ∀ y_ ∈ x1, good23 y_)) (g2 : (Lit.int .i64 a2).wf = true) : ∃ k, sutlerlaw07_CoolAsks.f k x0 x1 a2 = some true := by
  have hl := g0.1
  have ho := g1.1
  have hcl : (cleanL x0 a2).length ≤ x0.length := List.length_filter_le _ _
  have hll : (leftV x0 x1 a2).length ≤ x1.length := List.length_filter_le _ _
  refine Ev.get (g := fun k => sutlerlaw07_CoolAsks.f k x0 x1 a2) ?_
  unfold sutlerlaw07_CoolAsks.f
  simp only [Option.bind_some, List.nil_append, List.length_nil, Nat.zero_add, if_pos (show x0.length < 2513169434916 by omega)]
  refine Ev.bindNow (left_now (by omega) (by omega) _) (Ev.bind (ev_refLeft (by omega) (by omega) _) (Ev.bindNow (clean_now (by omega) _) (Ev.bind (ev_refClean (by omega) _) (Ev.bind (ev_Next (by omega) _) (Ev.bind (ev_refNext (by omega) _) ?_)))))
  simp only [if_true]
  refine Ev.bind (ev_same _ (by omega)) ?_
  simp only [if_true, bne_self_eq_false]
  refine Ev.succ ?_
  simp only [sutlerlaw07_CoolAsks.j0, Bool.false_eq_true, if_false]
  exact ev_Asks_l0 x0 x1 a2 _ (by omega) (by omega) (by omega) _ (by omega) (leftV x0 x1 a2).length 0 _ (by omega) rfl (fun _ _ => rfl)
end Go.Proofs.Ytiodidhbkgnicaa.Pure
