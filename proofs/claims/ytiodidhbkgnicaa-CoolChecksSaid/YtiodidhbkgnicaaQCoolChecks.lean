import Derived.Test.YtiodidhbkgnicaaPAllx18
import Derived.Test.YtiodidhbkgnicaaEOpens
import Derived.Test.YtiodidhbkgnicaaSPut
set_option linter.unusedVariables false
namespace Go.Proofs.Ytiodidhbkgnicaa.PAll
open Go.RowKit Go.Proofs.YtiodidhbkgnicaaW.PrintWords
theorem small_of_good {c : S25} (h : good25 c) : Small c := by
  obtain ⟨⟨h0, h1, h2⟩, _⟩ := h
  exact ⟨by omega, by omega, by omega⟩
theorem fin_len (o : List S25) : (fin o).1.length ≤ 72 := by
  unfold fin
  split
  · simp
  · show o.length ≤ 72
    omega
theorem putV_len (l : List S25) (c : S25) : (putV l c).1.length ≤ 72 := by
  unfold putV
  split
  · split
    · exact fin_len _
    · simp
  · simp
theorem ev_Checks_l (l : List S25) (hs : ∀ c ∈ l, Small c) (hl : l.length ≤ 9223372036854775806) : ∀ m i : Nat, ∀ a : List S25, i + m = a.length → a.length ≤ 72 → Ev (fun k => sutlerlaw07_CoolChecks.l0 k l l (checkL l) a true (i : Int)) true
  | 0, i, a, h, ha => by
    refine Ev.succ ?_
    simp only [sutlerlaw07_CoolChecks.l0, if_neg (show ¬ ((i : Int) < (a.length : Int)) by omega)]
    refine Ev.bind ev_live ?_
    simp only [if_true]
    refine Ev.bind (ev_Check hs) ?_
    simp only [if_true]
    exact Ev.bind (ev_same l hl) (Ev.const _)
  | m + 1, i, a, h, ha => by
    refine Ev.succ ?_
    simp only [sutlerlaw07_CoolChecks.l0, if_pos (show (i : Int) < (a.length : Int) by omega), if_pos (show (0 : Int) ≤ (i : Int) by omega), w_succ (show i + 1 ≤ 9223372036854775807 by omega)]
    exact ev_Checks_l l hs hl m (i + 1) _ (by rw [List.length_set]; omega) (by rw [List.length_set]; exact ha)
end Go.Proofs.Ytiodidhbkgnicaa.PAll
namespace Go.Proofs.Ytiodidhbkgnicaa.Pure
open Go.RowKit Go.Proofs.Ytiodidhbkgnicaa.PAll
theorem CoolChecks (x0 : (List S25)) (x1 : S25) (g0 : (x0.length * 56 ≤ 140737488351232 ∧ ∀ y_ ∈ x0, good25 y_)) (g1 : good25 x1) : ∃ k, sutlerlaw07_CoolChecks.f k x0 x1.f0.f0 x1.f0.f1 x1.f0.f2 x1.f1 = some true := by
  have hs : ∀ c ∈ x0, Small c := fun c hc => small_of_good (g0.2 c hc)
  have hc := small_of_good g1
  have hl := g0.1
  refine Ev.get (g := fun k => sutlerlaw07_CoolChecks.f k x0 x1.f0.f0 x1.f0.f1 x1.f0.f2 x1.f1) ?_
  unfold sutlerlaw07_CoolChecks.f
  simp only [Option.bind_some, List.nil_append, List.length_nil, Nat.zero_add, if_pos (show x0.length < 2513169434916 by omega)]
  refine Ev.bind (ev_refCheck hs) (Ev.bind (ev_Put hs hc) (Ev.bind (ev_refPut hs hc) (Ev.bind (ev_same _ (by have := putV_len x0 x1; omega)) ?_)))
  simp only [if_true, beq_self_eq_true]
  refine Ev.succ ?_
  simp only [sutlerlaw07_CoolChecks.j0]
  exact ev_Checks_l x0 hs (by omega) (putV x0 x1).1.length 0 _ (by omega) (putV_len x0 x1)
end Go.Proofs.Ytiodidhbkgnicaa.Pure
