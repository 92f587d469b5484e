import Derived.Test.YtiodidhbkgnicaaPAllx22
import Derived.Test.YtiodidhbkgnicaaEOpens
import Derived.Test.YtiodidhbkgnicaaSAsk
set_option linter.unusedVariables false
set_option linter.unusedSimpArgs false
namespace Go.Proofs.Ytiodidhbkgnicaa.PAll
open Go.RowKit Go.Proofs.YtiodidhbkgnicaaW.PrintWords
theorem small_of_good {c : S25} (h : good25 c) : Small c := by
  obtain ⟨⟨h0, h1, h2⟩, _⟩ := h
  exact ⟨by omega, by omega, by omega⟩
theorem minU_le : ∀ (r : List S25) (n : Int), minU n r ≤ n ∧ ∀ c ∈ r, minU n r ≤ c.f1
  | [], n => ⟨Int.le_refl _, fun c hc => by cases hc⟩
  | c :: r, n => by
    unfold minU
    split
    · obtain ⟨h1, h2⟩ := minU_le r c.f1
      refine ⟨by omega, fun d hd => ?_⟩
      rcases List.mem_cons.1 hd with rfl | hd
      · exact h1
      · exact h2 d hd
    · obtain ⟨h1, h2⟩ := minU_le r n
      refine ⟨h1, fun d hd => ?_⟩
      rcases List.mem_cons.1 hd with rfl | hd
      · omega
      · exact h2 d hd
theorem minU_mem : ∀ (r : List S25) (n : Int), minU n r = n ∨ ∃ c ∈ r, minU n r = c.f1
  | [], n => .inl rfl
  | c :: r, n => by
    unfold minU
    split
    · rcases minU_mem r c.f1 with h | ⟨d, hd, h⟩
      · exact .inr ⟨c, List.mem_cons_self, h⟩
      · exact .inr ⟨d, List.mem_cons_of_mem _ hd, h⟩
    · rcases minU_mem r n with h | ⟨d, hd, h⟩
      · exact .inl h
      · exact .inr ⟨d, List.mem_cons_of_mem _ hd, h⟩
theorem is_clean (l : List S25) (o : S23) {now later : Int} (h : now ≤ later) : isV (cleanL l now) o later = isV l o later := by
  unfold isV cleanL
  rw [List.any_filter]
  congr 1
  funext c
  by_cases h1 : c.f1 > later
  · rw [decide_eq_true (show c.f1 > now by omega), Bool.true_and]
  · rw [decide_eq_false h1, Bool.and_false, Bool.and_false]
theorem clean_clean (l : List S25) (now : Int) : cleanL (cleanL l now) now = cleanL l now := by
  unfold cleanL
  rw [List.filter_filter]
  congr 1
  funext c
  exact Bool.and_self _
theorem until_ok {c : S25} (h : checkV c = 0) : 0 ≤ c.f1 ∧ c.f1 ≤ 1099511627776 := by
  unfold checkV at h
  split at h
  · unfold untilV at h
    split at h
    · omega
    · split at h
      · omega
      · omega
  · omega
end Go.Proofs.Ytiodidhbkgnicaa.PAll
namespace Go.Proofs.Ytiodidhbkgnicaa.Pure
open Go.RowKit Go.Proofs.Ytiodidhbkgnicaa.PAll
theorem CoolNext (x0 : ((List S25) × S25 × S23 × Int × Int)) (g0 : good43 x0) : ∃ k, sutlerlaw07_CoolNext.f k x0.1 x0.2.1.f0.f0 x0.2.1.f0.f1 x0.2.1.f0.f2 x0.2.1.f1 x0.2.2.1.f0 x0.2.2.1.f1 x0.2.2.1.f2 x0.2.2.2.1 x0.2.2.2.2 = some true := by
  obtain ⟨l, c, o, now, later⟩ := x0
  obtain ⟨⟨hl, hg⟩, _⟩ := g0
  have hl : l.length * 56 ≤ 140737488351232 := hl
  have hs : ∀ d ∈ l, Small d := fun d hd => small_of_good (hg d hd)
  refine Ev.get (g := fun k => sutlerlaw07_CoolNext.f k l c.f0.f0 c.f0.f1 c.f0.f2 c.f1 o.f0 o.f1 o.f2 now later) ?_
  have skip : Ev (fun k => sutlerlaw07_CoolNext.j0 k l now later true o.f0 o.f1 o.f2) true := by
    refine Ev.succ ?_
    simp only [sutlerlaw07_CoolNext.j0, if_true]
    exact Ev.bind ev_live (Ev.const _)
  unfold sutlerlaw07_CoolNext.f
  refine Ev.bind (ev_Check hs) ?_
  by_cases h1 : checkL l = 0
  · simp only [if_pos h1]
    by_cases h2 : later < now
    · simp only [decide_eq_true h2]
      exact skip
    · simp only [decide_eq_false h2]
      obtain ⟨_, hv, _⟩ := (checkL_ok l).1 h1
      have hlen : (cleanL l now).length ≤ l.length := List.length_filter_le _ _
      refine Ev.succ ?_
      simp only [sutlerlaw07_CoolNext.j0, Bool.false_eq_true, if_false]
      refine Ev.bindNow (clean_now (by omega) now) (Ev.bind (ev_Next (by omega) now) (Ev.bindNow (is_now (by omega) o later) (Ev.bindNow (is_now (by omega) o later) ?_)))
      simp only [is_clean l o (show now ≤ later by omega), bne_self_eq_false, Bool.false_eq_true, if_false]
      have his : ((nextV (cleanL l now)).2 != decide (((cleanL l now).length : Int) > 0)) = false := by
        cases cleanL l now with
        | nil => rfl
        | cons d r =>
          simp only [nextV]
          rw [decide_eq_true (by simp only [List.length_cons]; omega)]
          rfl
      simp only [his, Bool.false_eq_true, if_false]
      refine Ev.bindNow (clean_now (by omega) now) ?_
      simp only [clean_clean, bne_self_eq_false]
      refine Ev.succ ?_
      simp only [sutlerlaw07_CoolNext.j1, Bool.false_eq_true, if_false]
      cases hcl : cleanL l now with
      | nil =>
        simp only [nextV, Bool.false_eq_true, if_false]
        refine Ev.bind ev_live ?_
        simp only [if_true]
        exact Ev.const _
      | cons d r =>
        simp only [nextV, if_true]
        have hmem : ∀ y, y ∈ d :: r ↔ y ∈ l ∧ y.f1 > now := fun y => by
          rw [← hcl]
          unfold cleanL
          rw [List.mem_filter, decide_eq_true_eq]
        obtain ⟨m1, m2⟩ := minU_le r d.f1
        obtain ⟨e, heM, hee⟩ : ∃ e, e ∈ d :: r ∧ minU d.f1 r = e.f1 := by
          rcases minU_mem r d.f1 with h | ⟨e, he, h⟩
          · exact ⟨d, List.mem_cons_self, h⟩
          · exact ⟨e, List.mem_cons_of_mem _ he, h⟩
        have hall : ∀ y ∈ d :: r, minU d.f1 r ≤ y.f1 := fun y hy => by
          rcases List.mem_cons.1 hy with rfl | hy
          · exact m1
          · exact m2 y hy
        obtain ⟨hel, hen⟩ := (hmem e).1 heM
        obtain ⟨u1, u2⟩ := until_ok (hv e hel)
        have hat : minU d.f1 r > now := by omega
        have hw : wrap64 (minU d.f1 r - 1) = minU d.f1 r - 1 := Go.IntWalk.wrap64_in _ (by omega)
        have hsame : cleanL l (minU d.f1 r - 1) = d :: r := by
          rw [← hcl]
          unfold cleanL
          refine List.filter_congr (fun y hy => ?_)
          rw [decide_eq_decide]
          constructor
          · intro h
            omega
          · intro h
            have := hall y ((hmem y).2 ⟨hy, h⟩)
            omega
        have hless : (cleanL l (minU d.f1 r)).length < (d :: r).length := by
          have e1 : cleanL l (minU d.f1 r) = (d :: r).filter (fun c => decide (c.f1 > minU d.f1 r)) := by
            rw [← hcl]
            unfold cleanL
            rw [List.filter_filter]
            refine List.filter_congr (fun y hy => ?_)
            by_cases h : y.f1 > minU d.f1 r
            · rw [decide_eq_true h, decide_eq_true (show y.f1 > now by omega)]
              rfl
            · rw [decide_eq_false h, Bool.false_and]
          rw [e1]
          refine List.length_filter_lt_length_iff_exists.2 ⟨e, heM, ?_⟩
          rw [decide_eq_true_eq]
          omega
        refine Ev.bind ev_live ?_
        simp only [if_true, if_pos hat, hw]
        refine Ev.bindNow (clean_now (by omega) _) ?_
        simp only [hsame, if_true]
        refine Ev.bindNow (clean_now (by omega) _) ?_
        refine (Ev.const _).to ?_
        rw [decide_eq_true_eq]
        omega
  · simp only [if_neg h1]
    exact skip
end Go.Proofs.Ytiodidhbkgnicaa.Pure
