import Derived.Test.YtiodidhbkgnicaaPAllx21
import Derived.Test.YtiodidhbkgnicaaEOpens
import Derived.Test.YtiodidhbkgnicaaSAsk
set_option linter.unusedVariables false
set_option linter.unusedSimpArgs false
namespace Go.Proofs.Ytiodidhbkgnicaa.PAll
open Go.RowKit Go.Proofs.YtiodidhbkgnicaaW.PrintWords
theorem mem_ins {c y : S25} : ∀ {l : List S25}, y ∈ ins c l → y = c ∨ y ∈ l
  | [], h => .inl (by simpa [ins] using h)
  | x :: r, h => by
    unfold ins at h
    split at h
    · rcases List.mem_cons.1 h with rfl | h
      · exact .inr List.mem_cons_self
      · rcases mem_ins h with h | h
        · exact .inl h
        · exact .inr (List.mem_cons_of_mem _ h)
    · split at h
      · rcases List.mem_cons.1 h with rfl | h
        · exact .inl rfl
        · exact .inr (List.mem_cons_of_mem _ h)
      · rcases List.mem_cons.1 h with rfl | h
        · exact .inl rfl
        · exact .inr h
theorem ins_sorted {c : S25} : ∀ {l : List S25}, Sorted l → Sorted (ins c l)
  | [], _ => by simp [ins, Sorted]
  | x :: r, h => by
    obtain ⟨h1, h2⟩ := List.pairwise_cons.1 h
    unfold ins
    split
    · rename_i hk
      refine List.pairwise_cons.2 ⟨fun y hy => ?_, ins_sorted h2⟩
      rcases mem_ins hy with rfl | hy
      · exact (cmpV_neg _ _).1 hk
      · exact h1 y hy
    · rename_i hk
      split
      · rename_i he
        have e := (cmpV_zero _ _).1 he
        exact List.pairwise_cons.2 ⟨fun y hy => e ▸ h1 y hy, h2⟩
      · rename_i he
        have hlt : klt c.f0 x.f0 := klt_tri (fun h3 => hk ((cmpV_neg _ _).2 h3)) (fun e => he ((cmpV_zero _ _).2 e))
        refine List.pairwise_cons.2 ⟨fun y hy => ?_, h⟩
        rcases List.mem_cons.1 hy with rfl | hy
        · exact hlt
        · exact klt_trans hlt (h1 y hy)
theorem cmp_self (c : S23) : cmpV c c = 0 := (cmpV_zero _ _).2 rfl
theorem ins_ins (c : S25) : ∀ l : List S25, ins c (ins c l) = ins c l
  | [] => by simp [ins, cmp_self]
  | x :: r => by
    by_cases h1 : cmpV x.f0 c.f0 < 0
    · rw [ins, if_pos h1, ins, if_pos h1, ins_ins c r]
    · by_cases h2 : cmpV x.f0 c.f0 = 0
      · rw [ins, if_neg h1, if_pos h2, ins, if_neg (by rw [cmp_self]; decide), if_pos (cmp_self _)]
      · rw [ins, if_neg h1, if_neg h2, ins, if_neg (by rw [cmp_self]; decide), if_pos (cmp_self _)]
theorem is_ins_other {c : S25} {o : S23} (h : o ≠ c.f0) (a : Int) : ∀ l : List S25, isV (ins c l) o a = isV l o a
  | [] => by simp [ins, isV, eqOffer_false h.symm]
  | x :: r => by
    have ih := is_ins_other h a r
    unfold isV at ih ⊢
    unfold ins
    split
    · rw [List.any_cons, List.any_cons, ih]
    · split
      · rename_i h2
        have e := (cmpV_zero _ _).1 h2
        rw [List.any_cons, List.any_cons, e, eqOffer_false h.symm]
        simp
      · rw [List.any_cons, eqOffer_false h.symm, Bool.false_and, Bool.false_or]
theorem is_none {o : S23} (a : Int) {l : List S25} (h : ∀ y ∈ l, y.f0 ≠ o) : isV l o a = false := by
  unfold isV
  rw [List.any_eq_false]
  intro y hy
  rw [eqOffer_false (h y hy)]
  simp
theorem is_ins_self (c : S25) (a : Int) : ∀ l : List S25, Sorted l → isV (ins c l) c.f0 a = decide (c.f1 > a)
  | [], _ => by simp [ins, isV, eqOffer_self]
  | x :: r, h => by
    obtain ⟨h1, h2⟩ := List.pairwise_cons.1 h
    have ih := is_ins_self c a r h2
    unfold ins
    split
    · rename_i hk
      unfold isV at ih ⊢
      rw [List.any_cons, ih, eqOffer_false (klt_ne ((cmpV_neg _ _).1 hk)), Bool.false_and, Bool.false_or]
    · rename_i hk
      split
      · rename_i he
        have e := (cmpV_zero _ _).1 he
        have hn : isV r c.f0 a = false := is_none a (fun y hy => (klt_ne (e ▸ h1 y hy)).symm)
        unfold isV at hn ⊢
        rw [List.any_cons, eqOffer_self, hn, Bool.true_and, Bool.or_false]
      · rename_i he
        have hlt : klt c.f0 x.f0 := klt_tri (fun h3 => hk ((cmpV_neg _ _).2 h3)) (fun e => he ((cmpV_zero _ _).2 e))
        have hn : isV (x :: r) c.f0 a = false := is_none a (fun y hy => by
          rcases List.mem_cons.1 hy with rfl | hy
          · exact (klt_ne hlt).symm
          · exact (klt_ne (klt_trans hlt (h1 y hy))).symm)
        unfold isV at hn ⊢
        rw [List.any_cons, eqOffer_self, hn, Bool.true_and, Bool.or_false]
theorem small_of_good {c : S25} (h : good25 c) : Small c := by
  obtain ⟨⟨h0, h1, h2⟩, _⟩ := h
  exact ⟨by omega, by omega, by omega⟩
theorem ev_Put_j0 (l : List S25) (c : S25) (now : Int) (hs : ∀ d ∈ l, Small d) (hc : Small c) (hl : checkL l = 0) (hcv : checkV c = 0) (h72 : (ins c l).length ≤ 72) :
    Ev (fun k => sutlerlaw07_CoolPut.j0 k l now (ins c l) (ins c l) 0 true c.f0.f0 c.f0.f1 c.f0.f2 c.f1) true := by
  obtain ⟨hll, hv, hS⟩ := (checkL_ok l).1 hl
  have hck : checkL (ins c l) = 0 := (checkL_ok _).2 ⟨h72, fun y hy => by
    rcases mem_ins hy with rfl | hy
    · exact hcv
    · exact hv y hy, ins_sorted hS⟩
  have hsi : ∀ d ∈ ins c l, Small d := fun y hy => by
    rcases mem_ins hy with rfl | hy
    · exact hc
    · exact hs y hy
  refine Ev.succ ?_
  simp only [sutlerlaw07_CoolPut.j0]
  refine Ev.bind ev_live ?_
  simp only [if_true]
  refine Ev.bind (ev_same _ (by omega)) ?_
  simp only [if_true]
  refine Ev.bindNow (is_now (by omega) c.f0 now) ?_
  simp only [is_ins_self c now l hS, beq_self_eq_true, if_true]
  refine Ev.bind (ev_Check hsi) ?_
  simp only [hck, if_true]
  refine (Ev.const _).to ?_
  rw [decide_eq_true_eq, w_succ (by omega)]
  have := (ins_len c l).2
  omega
theorem putV_ok {l : List S25} {c : S25} (h : (putV l c).2 = 0) : checkL l = 0 ∧ checkV c = 0 ∧ (ins c l).length ≤ 72 ∧ putV l c = (ins c l, 0) := by
  unfold putV at h ⊢
  split at h
  · rename_i h1
    rw [if_pos h1]
    split at h
    · rename_i h2
      rw [if_pos h2]
      unfold fin at h ⊢
      split at h
      · exact absurd h (by decide)
      · rename_i h3
        rw [if_neg h3]
        exact ⟨h1, h2, by omega, rfl⟩
    · rename_i h2
      exact absurd h h2
  · rename_i h1
    exact absurd h h1
theorem putV_no {l : List S25} {c : S25} (h : ¬ (putV l c).2 = 0) : (putV l c).1 = [] := by
  unfold putV at h ⊢
  split
  · rename_i h1
    rw [if_pos h1] at h
    split
    · rename_i h2
      rw [if_pos h2] at h
      unfold fin at h ⊢
      split
      · rfl
      · rename_i h3
        rw [if_neg h3] at h
        exact absurd rfl h
    · rfl
  · rfl
end Go.Proofs.Ytiodidhbkgnicaa.PAll
namespace Go.Proofs.Ytiodidhbkgnicaa.Pure
open Go.RowKit Go.Proofs.Ytiodidhbkgnicaa.PAll
theorem CoolPut (x0 : ((List S25) × S25 × S23 × Int × Int)) (g0 : good43 x0) : ∃ k, sutlerlaw07_CoolPut.f k x0.1 x0.2.1.f0.f0 x0.2.1.f0.f1 x0.2.1.f0.f2 x0.2.1.f1 x0.2.2.1.f0 x0.2.2.1.f1 x0.2.2.1.f2 x0.2.2.2.1 x0.2.2.2.2 = some true := by
  obtain ⟨l, c, o, now, later⟩ := x0
  obtain ⟨⟨hl, hg⟩, hgc, _⟩ := g0
  have hs : ∀ d ∈ l, Small d := fun d hd => small_of_good (hg d hd)
  have hc : Small c := small_of_good hgc
  refine Ev.get (g := fun k => sutlerlaw07_CoolPut.f k l c.f0.f0 c.f0.f1 c.f0.f2 c.f1 o.f0 o.f1 o.f2 now later) ?_
  unfold sutlerlaw07_CoolPut.f
  refine Ev.bind (ev_Put hs hc) ?_
  by_cases he : (putV l c).2 = 0
  · obtain ⟨h1, h2, h3, h4⟩ := putV_ok he
    rw [h4]
    obtain ⟨hll, hv, hS⟩ := (checkL_ok l).1 h1
    have hsi : ∀ d ∈ ins c l, Small d := fun y hy => by
      rcases mem_ins hy with rfl | hy
      · exact hc
      · exact hs y hy
    have hck : checkL (ins c l) = 0 := (checkL_ok _).2 ⟨h3, fun y hy => by
      rcases mem_ins hy with rfl | hy
      · exact h2
      · exact hv y hy, ins_sorted hS⟩
    have h5 : putV (ins c l) c = (ins c l, 0) := by
      unfold putV fin
      rw [if_pos hck, if_pos h2, ins_ins, if_neg (by omega)]
    simp only [if_true]
    refine Ev.bind (ev_Put hsi hc) ?_
    rw [h5]
    by_cases ho : o = c.f0
    · subst ho
      simp only [eq_on, if_true]
      exact ev_Put_j0 l c now hs hc h1 h2 h3
    · simp only [eq_off ho, Bool.false_eq_true, if_false]
      refine Ev.bindNow (is_now (by omega) o now) (Ev.bindNow (is_now (by omega) o now) ?_)
      simp only [is_ins_other ho now l, beq_self_eq_true]
      exact ev_Put_j0 l c now hs hc h1 h2 h3
  · simp only [if_neg he]
    refine Ev.bind ev_live ?_
    simp only [if_true, putV_no he]
    exact Ev.const _
end Go.Proofs.Ytiodidhbkgnicaa.Pure
