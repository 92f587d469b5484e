import Derived.Test.YtiodidhbkgnicaaSName
import Derived.Test.YtiodidhbkgnicaaPAllx5
import Derived.Test.YtiodidhbkgnicaaPAllx6
import Derived.Test.YtiodidhbkgnicaaPAllx15
set_option linter.unusedVariables false
set_option linter.unusedSimpArgs false
namespace Go.Proofs.Ytiodidhbkgnicaa.PAll
open Go.RowKit Go.Proofs.YtiodidhbkgnicaaW.PrintWords

/-- Its texts are no longer than the machine can have them. -/
def Small (c : S25) : Prop := c.f0.f0.size ≤ 9223372036854775806 ∧ c.f0.f1.size ≤ 9223372036854775806 ∧ c.f0.f2.size ≤ 9223372036854775806
def untilV (n : Int) : Int := if n < 0 then 1 else if n > 1099511627776 then 1 else 0
def checkV (c : S25) : Int := if nameB c.f0.f0 = true ∧ nameB c.f0.f1 = true ∧ nameB c.f0.f2 = true then untilV c.f1 else 7
theorem ev_j0 (x : Bool) (a b c : ByteArray) (n : Int) : Ev (fun k => cool_check.j0 k x a b c n) (if x = true then 7 else untilV n) := by
  refine Ev.succ ?_
  simp only [cool_check.j0]
  unfold untilV
  cases x
  · simp only [Bool.false_eq_true, if_false]
    by_cases h1 : n < 0
    · simp only [if_pos h1]
      exact Ev.const _
    · by_cases h2 : n > 1099511627776
      · simp only [if_neg h1, if_pos h2]
        exact Ev.const _
      · simp only [if_neg h1, if_neg h2]
        exact Ev.const _
  · simp only [if_true]
    exact Ev.const _
theorem ev_check {c : S25} (hc : Small c) : Ev (fun k => cool_check.f k c.f0.f0 c.f0.f1 c.f0.f2 c.f1) (checkV c) := by
  obtain ⟨h0, h1, h2⟩ := hc
  unfold cool_check.f checkV
  simp only [name_now h0, name_now h1, name_now h2, Option.bind_some]
  by_cases n0 : nameB c.f0.f0 = true
  · by_cases n1 : nameB c.f0.f1 = true
    · simp only [n0, n1, if_true, true_and]
      refine (ev_j0 _ _ _ _ _).to ?_
      cases nameB c.f0.f2 <;> simp
    · simp only [n0, n1, if_true, if_false, true_and, false_and]
      exact ev_j0 _ _ _ _ _
  · simp only [n0, if_false, false_and]
    exact ev_j0 _ _ _ _ _
theorem ev_one_j0 (x : Bool) (a b c : ByteArray) (n : Int) : Ev (fun k => sutlerref07_one.j0 k x a b c n) (if x = true then 7 else untilV n) := by
  refine Ev.succ ?_
  simp only [sutlerref07_one.j0]
  unfold untilV
  cases x
  · simp only [Bool.false_eq_true, if_false]
    by_cases h1 : n < 0
    · simp only [if_pos h1]
      exact Ev.const _
    · by_cases h2 : n > 1099511627776
      · simp only [if_neg h1, if_pos h2]
        exact Ev.const _
      · simp only [if_neg h1, if_neg h2]
        exact Ev.const _
  · simp only [if_true]
    exact Ev.const _
theorem ev_one {c : S25} (hc : Small c) : Ev (fun k => sutlerref07_one.f k c.f0.f0 c.f0.f1 c.f0.f2 c.f1) (checkV c) := by
  obtain ⟨h0, h1, h2⟩ := hc
  unfold sutlerref07_one.f checkV
  refine Ev.bind (ev_refName _ h0) (Ev.bind (ev_refName _ h1) (Ev.bind (ev_refName _ h2) ?_))
  by_cases n0 : nameB c.f0.f0 = true
  · by_cases n1 : nameB c.f0.f1 = true
    · simp only [n0, n1, if_true, true_and]
      refine (ev_one_j0 _ _ _ _ _).to ?_
      cases nameB c.f0.f2 <;> simp
    · simp only [n0, n1, if_true, if_false, true_and, false_and]
      exact ev_one_j0 _ _ _ _ _
  · simp only [n0, if_false, false_and]
    exact ev_one_j0 _ _ _ _ _

/-! ### the order of offers -/
def or3 (a b c : Int) : Int := if a ≠ 0 then a else if b ≠ 0 then b else c
def cb (a b : ByteArray) : Int := Lib.compareBytes a.data.toList b.data.toList
def cmpV (a b : S23) : Int := or3 (cb a.f0 b.f0) (cb a.f1 b.f1) (cb a.f2 b.f2)
theorem ev_or3 (a b c : Int) : Ev (fun k => cmp_Or_int.f k [a, b, c]) (or3 a b c) := by
  unfold cmp_Or_int.f or3
  refine Ev.succ ?_
  simp only [cmp_Or_int.l0, rd, List.length_cons, List.length_nil]
  simp only [if_pos (show (0 : Int) < ((0 + 1 + 1 + 1 : Nat) : Int) by decide), if_pos (show (0 : Int) ≤ 0 by decide), show ([a, b, c].getD (0 : Int).toNat 0) = a from rfl]
  by_cases ha : a = 0
  · simp only [ha, if_true, ne_eq, not_true_eq_false, if_false, show wrap64 ((0 : Int) + 1) = 1 by rw [Go.IntWalk.wrap64_in _ (by decide)]; rfl]
    refine Ev.succ ?_
    simp only [cmp_Or_int.l0, rd, List.length_cons, List.length_nil]
    simp only [if_pos (show (1 : Int) < ((0 + 1 + 1 + 1 : Nat) : Int) by decide), if_pos (show (0 : Int) ≤ 1 by decide), show ([0, b, c].getD (1 : Int).toNat 0) = b from rfl]
    by_cases hb : b = 0
    · simp only [hb, if_true, ne_eq, not_true_eq_false, if_false, show wrap64 ((1 : Int) + 1) = 2 by rw [Go.IntWalk.wrap64_in _ (by decide)]; rfl]
      refine Ev.succ ?_
      simp only [cmp_Or_int.l0, rd, List.length_cons, List.length_nil]
      simp only [if_pos (show (2 : Int) < ((0 + 1 + 1 + 1 : Nat) : Int) by decide), if_pos (show (0 : Int) ≤ 2 by decide), show ([0, 0, c].getD (2 : Int).toNat 0) = c from rfl]
      by_cases hc : c = 0
      · simp only [hc, if_true, show wrap64 ((2 : Int) + 1) = 3 by rw [Go.IntWalk.wrap64_in _ (by decide)]; rfl]
        refine Ev.succ ?_
        simp only [cmp_Or_int.l0, rd, List.length_cons, List.length_nil]
        simp only [if_neg (show ¬ (3 : Int) < ((0 + 1 + 1 + 1 : Nat) : Int) by decide)]
        exact Ev.const _
      · simp only [hc, if_false]
        exact Ev.const _
    · simp only [hb, if_false, ne_eq, not_false_eq_true, if_true, not_true_eq_false]
      exact Ev.const _
  · simp only [ha, if_false, ne_eq, not_false_eq_true, if_true]
    exact Ev.const _
theorem ev_compare (a b : S23) : Ev (fun k => cool_compare.f k a.f0 a.f1 a.f2 b.f0 b.f1 b.f2) (cmpV a b) := by
  unfold cool_compare.f
  simp only [strings_Compare.f, Option.bind_some]
  exact Ev.bind (ev_or3 _ _ _) (Ev.const _)
/-- An offer stands before another one. -/
def klt (a b : S23) : Prop :=
  a.f0.data.toList < b.f0.data.toList ∨ (a.f0.data.toList = b.f0.data.toList ∧ (a.f1.data.toList < b.f1.data.toList ∨ (a.f1.data.toList = b.f1.data.toList ∧ a.f2.data.toList < b.f2.data.toList)))
theorem cmpV_neg (a b : S23) : cmpV a b < 0 ↔ klt a b := by
  unfold cmpV or3 cb klt
  by_cases h0 : Lib.compareBytes a.f0.data.toList b.f0.data.toList = 0
  · have e0 := (cb_zero _ _).1 h0
    rw [if_neg (by simpa using h0)]
    have n0 : ¬ a.f0.data.toList < b.f0.data.toList := by rw [e0]; exact List.lt_irrefl _
    by_cases h1 : Lib.compareBytes a.f1.data.toList b.f1.data.toList = 0
    · have e1 := (cb_zero _ _).1 h1
      rw [if_neg (by simpa using h1), cb_lt]
      have n1 : ¬ a.f1.data.toList < b.f1.data.toList := by rw [e1]; exact List.lt_irrefl _
      exact ⟨fun h => .inr ⟨e0, .inr ⟨e1, h⟩⟩, fun h => by
        rcases h with h | ⟨_, h | ⟨_, h⟩⟩
        · exact absurd h n0
        · exact absurd h n1
        · exact h⟩
    · have e1 : ¬ a.f1.data.toList = b.f1.data.toList := fun e => h1 ((cb_zero _ _).2 e)
      rw [if_pos h1, cb_lt]
      exact ⟨fun h => .inr ⟨e0, .inl h⟩, fun h => by
        rcases h with h | ⟨_, h | ⟨h, _⟩⟩
        · exact absurd h n0
        · exact h
        · exact absurd h e1⟩
  · have e0 : ¬ a.f0.data.toList = b.f0.data.toList := fun e => h0 ((cb_zero _ _).2 e)
    rw [if_pos h0, cb_lt]
    simp [e0]
theorem cmpV_zero (a b : S23) : cmpV a b = 0 ↔ a = b := by
  unfold cmpV or3 cb
  have key : (Lib.compareBytes a.f0.data.toList b.f0.data.toList = 0 ∧ Lib.compareBytes a.f1.data.toList b.f1.data.toList = 0 ∧ Lib.compareBytes a.f2.data.toList b.f2.data.toList = 0) ↔ a = b := by
    rw [cb_zero, cb_zero, cb_zero]
    constructor
    · rintro ⟨h0, h1, h2⟩
      cases a
      cases b
      simp only [S23.mk.injEq]
      exact ⟨bytes_ext h0, bytes_ext h1, bytes_ext h2⟩
    · rintro rfl
      exact ⟨rfl, rfl, rfl⟩
  rw [← key]
  by_cases h0 : Lib.compareBytes a.f0.data.toList b.f0.data.toList = 0
  · by_cases h1 : Lib.compareBytes a.f1.data.toList b.f1.data.toList = 0
    · simp [h0, h1]
    · simp [h0, h1]
  · simp [h0]
theorem klt_irrefl (a : S23) : ¬ klt a a := by
  intro h
  have h1 := (cmpV_neg a a).2 h
  rw [(cmpV_zero a a).2 rfl] at h1
  omega
theorem klt_trans {a b c : S23} (h : klt a b) (h2 : klt b c) : klt a c := by
  unfold klt at *
  rcases h with h | ⟨e, h⟩
  · rcases h2 with h2 | ⟨e2, h2⟩
    · exact .inl (List.lt_trans h h2)
    · exact .inl (e2 ▸ h)
  · rcases h2 with h2 | ⟨e2, h2⟩
    · exact .inl (e ▸ h2)
    · refine .inr ⟨e.trans e2, ?_⟩
      rcases h with h | ⟨f, h⟩
      · rcases h2 with h2 | ⟨f2, h2⟩
        · exact .inl (List.lt_trans h h2)
        · exact .inl (f2 ▸ h)
      · rcases h2 with h2 | ⟨f2, h2⟩
        · exact .inl (f ▸ h2)
        · exact .inr ⟨f.trans f2, List.lt_trans h h2⟩
theorem klt_tri {a b : S23} (h : ¬ klt a b) (hne : a ≠ b) : klt b a := by
  unfold klt at *
  by_cases e0 : a.f0.data.toList = b.f0.data.toList
  · refine .inr ⟨e0.symm, ?_⟩
    by_cases e1 : a.f1.data.toList = b.f1.data.toList
    · refine .inr ⟨e1.symm, ll_tri (fun h3 => h (.inr ⟨e0, .inr ⟨e1, h3⟩⟩)) (fun e2 => hne ?_)⟩
      cases a
      cases b
      simp only [S23.mk.injEq]
      exact ⟨bytes_ext e0, bytes_ext e1, bytes_ext e2⟩
    · exact .inl (ll_tri (fun h3 => h (.inr ⟨e0, .inl h3⟩)) e1)
  · exact .inl (ll_tri (fun h3 => h (.inl h3)) e0)
theorem klt_asymm {a b : S23} (h : klt a b) : ¬ klt b a := fun h2 => klt_irrefl a (klt_trans h h2)
theorem less_now (a b : S23) : sutlerref06_Less.f a.f0 a.f1 a.f2 b.f0 b.f1 b.f2 = some (decide (cmpV a b < 0)) := by
  unfold sutlerref06_Less.f
  have hk : ∀ x : Bool, (x = true ↔ klt a b) → some x = some (decide (cmpV a b < 0)) := fun x hx => by
    congr 1
    rw [Bool.eq_iff_iff, hx, decide_eq_true_eq, cmpV_neg]
  simp only [ByteArray.toList_eq, bytesLess_eq]
  by_cases e0 : a.f0.data.toList = b.f0.data.toList
  · have n0 : ¬ a.f0.data.toList < b.f0.data.toList := by rw [e0]; exact List.lt_irrefl _
    rw [if_pos e0]
    by_cases e1 : a.f1.data.toList = b.f1.data.toList
    · have n1 : ¬ a.f1.data.toList < b.f1.data.toList := by rw [e1]; exact List.lt_irrefl _
      rw [if_pos e1]
      refine hk _ ?_
      rw [decide_eq_true_eq]
      exact ⟨fun h => .inr ⟨e0, .inr ⟨e1, h⟩⟩, fun h => by
        rcases h with h | ⟨_, h | ⟨_, h⟩⟩
        · exact absurd h n0
        · exact absurd h n1
        · exact h⟩
    · rw [if_neg e1]
      refine hk _ ?_
      rw [decide_eq_true_eq]
      exact ⟨fun h => .inr ⟨e0, .inl h⟩, fun h => by
        rcases h with h | ⟨_, h | ⟨h, _⟩⟩
        · exact absurd h n0
        · exact h
        · exact absurd h e1⟩
  · rw [if_neg e0]
    refine hk _ ?_
    rw [decide_eq_true_eq]
    exact ⟨fun h => .inl h, fun h => by
      rcases h with h | ⟨h, _⟩
      · exact h
      · exact absurd h e0⟩

/-! ### coolings, judged -/
theorem rd_nat (l : List S25) (i : Nat) (h : i < l.length) : rd_T25 l (i : Int) = l[i] := by
  simp [rd_T25, List.getD_eq_getElem?_getD, h]
def chkGo : Option S25 → List S25 → Int
  | _, [] => 0
  | none, c :: r => if checkV c = 0 then chkGo (some c) r else checkV c
  | some p, c :: r => if checkV c = 0 then (if cmpV p.f0 c.f0 < 0 then chkGo (some c) r else 6) else checkV c
def checkL (l : List S25) : Int := if l.length > 72 then 3 else chkGo none l
def prevOf (l : List S25) (i : Nat) : Option S25 := if i = 0 then none else l[i - 1]?
theorem prev_succ {l : List S25} {i : Nat} (h : i < l.length) : prevOf l (i + 1) = some l[i] := by
  unfold prevOf
  rw [if_neg (by omega), Nat.add_sub_cancel, List.getElem?_eq_getElem h]
theorem ev_Check_l (l : List S25) (hs : ∀ c ∈ l, Small c) (hl : l.length ≤ 9223372036854775806) : ∀ m i : Nat, i + m = l.length → Ev (fun k => cool_Check.l0 k l l (l.length : Int) (i : Int)) (chkGo (prevOf l i) (l.drop i))
  | 0, i, h => by
    refine Ev.succ ?_
    simp only [cool_Check.l0, if_neg (show ¬ ((i : Int) < (l.length : Int)) by omega), List.drop_eq_nil_of_le (show l.length ≤ i by omega)]
    cases prevOf l i <;> exact Ev.const _
  | m + 1, i, h => by
    have hi : i < l.length := by omega
    have ih := ev_Check_l l hs hl m (i + 1) (by omega)
    rw [prev_succ hi] at ih
    refine Ev.succ ?_
    simp only [cool_Check.l0, if_pos (show (i : Int) < (l.length : Int) by omega), if_pos (show (0 : Int) ≤ (i : Int) by omega), rd_nat l i hi, List.drop_eq_getElem_cons hi]
    refine Ev.bind (ev_check (hs _ (List.getElem_mem hi))) ?_
    by_cases h0 : i = 0
    · subst h0
      simp only [prevOf, if_true, chkGo]
      by_cases hc : checkV l[0] = 0
      · simp only [hc, if_true, if_neg (show ¬ ((0 : Nat) : Int) > 0 by omega), w_succ (show 0 + 1 ≤ 9223372036854775807 by omega)]
        exact ih
      · simp only [hc, if_false]
        exact Ev.const _
    · have hp : prevOf l i = some (l[i - 1]'(by omega)) := by unfold prevOf; rw [if_neg h0, List.getElem?_eq_getElem]
      rw [hp]
      simp only [chkGo]
      by_cases hc : checkV l[i] = 0
      · simp only [hc, if_true, if_pos (show ((i : Nat) : Int) > 0 by omega), w_pred (show 0 < i by omega) (show i ≤ 9223372036854775807 by omega), if_pos (show (0 : Int) ≤ ((i - 1 : Nat) : Int) by omega), if_pos (show ((i - 1 : Nat) : Int) < (l.length : Int) by omega), rd_nat l (i - 1) (by omega), w_succ (show i + 1 ≤ 9223372036854775807 by omega)]
        refine Ev.bind (ev_compare _ _) ?_
        by_cases hk : cmpV (l[i - 1]'(by omega)).f0 l[i].f0 < 0
        · simp only [if_pos hk, if_neg (show ¬ cmpV (l[i - 1]'(by omega)).f0 l[i].f0 ≥ 0 by omega)]
          exact ih
        · simp only [if_neg hk, if_pos (show cmpV (l[i - 1]'(by omega)).f0 l[i].f0 ≥ 0 by omega)]
          exact Ev.const _
      · simp only [hc, if_false]
        exact Ev.const _
theorem ev_Check {l : List S25} (hs : ∀ c ∈ l, Small c) : Ev (fun k => cool_Check.f k l) (checkL l) := by
  unfold cool_Check.f checkL
  by_cases h : l.length > 72
  · simp only [if_pos h, if_pos (show (l.length : Int) > 72 by omega)]
    exact Ev.const _
  · simp only [if_neg h, if_neg (show ¬ (l.length : Int) > 72 by omega)]
    exact ev_Check_l l hs (by omega) l.length 0 (by omega)
theorem ev_refCheck_l (l : List S25) (hs : ∀ c ∈ l, Small c) (hl : l.length ≤ 9223372036854775806) : ∀ m i : Nat, i + m = l.length → Ev (fun k => sutlerref07_Check.l0 k l (i : Int)) (chkGo (prevOf l i) (l.drop i))
  | 0, i, h => by
    refine Ev.succ ?_
    simp only [sutlerref07_Check.l0, if_neg (show ¬ ((i : Int) < (l.length : Int)) by omega), List.drop_eq_nil_of_le (show l.length ≤ i by omega)]
    cases prevOf l i <;> exact Ev.const _
  | m + 1, i, h => by
    have hi : i < l.length := by omega
    have ih := ev_refCheck_l l hs hl m (i + 1) (by omega)
    rw [prev_succ hi] at ih
    refine Ev.succ ?_
    simp only [sutlerref07_Check.l0, if_pos (show (i : Int) < (l.length : Int) by omega), if_pos (show (0 : Int) ≤ (i : Int) by omega), rd_nat l i hi, List.drop_eq_getElem_cons hi]
    refine Ev.bind (ev_one (hs _ (List.getElem_mem hi))) ?_
    by_cases h0 : i = 0
    · subst h0
      simp only [prevOf, if_true, chkGo]
      by_cases hc : checkV l[0] = 0
      · simp only [hc, if_true, if_neg (show ¬ ((0 : Nat) : Int) > 0 by omega), w_succ (show 0 + 1 ≤ 9223372036854775807 by omega)]
        exact ih
      · simp only [hc, if_false]
        exact Ev.const _
    · have hp : prevOf l i = some (l[i - 1]'(by omega)) := by unfold prevOf; rw [if_neg h0, List.getElem?_eq_getElem]
      rw [hp]
      simp only [chkGo]
      by_cases hc : checkV l[i] = 0
      · simp only [hc, if_true, if_pos (show ((i : Nat) : Int) > 0 by omega), w_pred (show 0 < i by omega) (show i ≤ 9223372036854775807 by omega), if_pos (show (0 : Int) ≤ ((i - 1 : Nat) : Int) by omega), if_pos (show ((i - 1 : Nat) : Int) < (l.length : Int) by omega), rd_nat l (i - 1) (by omega), w_succ (show i + 1 ≤ 9223372036854775807 by omega)]
        refine Ev.bindNow (less_now _ _) ?_
        by_cases hk : cmpV (l[i - 1]'(by omega)).f0 l[i].f0 < 0
        · simp only [if_pos hk, decide_eq_true hk, if_true]
          exact ih
        · simp only [if_neg hk, decide_eq_false hk, Bool.false_eq_true, if_false]
          exact Ev.const _
      · simp only [hc, if_false]
        exact Ev.const _
theorem ev_refCheck {l : List S25} (hs : ∀ c ∈ l, Small c) : Ev (fun k => sutlerref07_Check.f k l) (checkL l) := by
  unfold sutlerref07_Check.f checkL
  by_cases h : l.length > 72
  · simp only [if_pos h, if_pos (show (l.length : Int) > 72 by omega)]
    exact Ev.const _
  · simp only [if_neg h, if_neg (show ¬ (l.length : Int) > 72 by omega)]
    exact ev_refCheck_l l hs (by omega) l.length 0 (by omega)

/-- What may be: each is right, and they rise. -/
def Sorted (l : List S25) : Prop := l.Pairwise (fun a b => klt a.f0 b.f0)
theorem chkGo_ok : ∀ (l : List S25) (p : Option S25), chkGo p l = 0 ↔ (∀ c ∈ l, checkV c = 0) ∧ Sorted l ∧ ∀ q, p = some q → ∀ c ∈ l, klt q.f0 c.f0
  | [], p => by
    have : chkGo p [] = 0 := by cases p <;> rfl
    simp [this, Sorted]
  | c :: r, p => by
    have ih := chkGo_ok r (some c)
    have hS : Sorted (c :: r) ↔ (∀ d ∈ r, klt c.f0 d.f0) ∧ Sorted r := List.pairwise_cons
    by_cases hc : checkV c = 0
    · have ih2 : chkGo (some c) r = 0 ↔ (∀ d ∈ r, checkV d = 0) ∧ Sorted (c :: r) := by
        rw [ih, hS]
        constructor
        · rintro ⟨h1, h2, h3⟩
          exact ⟨h1, h3 c rfl, h2⟩
        · rintro ⟨h1, h3, h2⟩
          exact ⟨h1, h2, fun q hq => by cases hq; exact h3⟩
      cases p with
      | none =>
        simp only [chkGo, if_pos hc, ih2, List.mem_cons, forall_eq_or_imp]
        simp [hc]
      | some q =>
        simp only [chkGo, if_pos hc]
        by_cases hk : cmpV q.f0 c.f0 < 0
        · have hq : klt q.f0 c.f0 := (cmpV_neg _ _).1 hk
          rw [if_pos hk, ih2]
          constructor
          · rintro ⟨h1, h2⟩
            refine ⟨?_, h2, ?_⟩
            · intro d hd
              rcases List.mem_cons.1 hd with rfl | hd
              · exact hc
              · exact h1 d hd
            · intro q2 h3 d hd
              obtain rfl := Option.some.inj h3
              rcases List.mem_cons.1 hd with rfl | hd
              · exact hq
              · exact klt_trans hq ((hS.1 h2).1 d hd)
          · rintro ⟨h1, h2, _⟩
            exact ⟨fun d hd => h1 d (List.mem_cons_of_mem _ hd), h2⟩
        · rw [if_neg hk]
          constructor
          · intro h
            exact absurd h (by decide)
          · rintro ⟨_, _, h3⟩
            exact absurd ((cmpV_neg _ _).2 (h3 q rfl c List.mem_cons_self)) hk
    · have : chkGo p (c :: r) = checkV c := by cases p <;> simp [chkGo, hc]
      rw [this]
      constructor
      · intro h
        exact absurd h hc
      · rintro ⟨h1, _⟩
        exact absurd (h1 c List.mem_cons_self) hc
theorem checkL_ok (l : List S25) : checkL l = 0 ↔ l.length ≤ 72 ∧ (∀ c ∈ l, checkV c = 0) ∧ Sorted l := by
  unfold checkL
  by_cases h : l.length > 72
  · rw [if_pos h]
    constructor
    · intro h2
      exact absurd h2 (by decide)
    · rintro ⟨h2, _⟩
      omega
  · rw [if_neg h, chkGo_ok]
    constructor
    · rintro ⟨h1, h2, _⟩
      exact ⟨by omega, h1, h2⟩
    · rintro ⟨_, h1, h2⟩
      exact ⟨h1, h2, fun q hq => by cases hq⟩
end Go.Proofs.Ytiodidhbkgnicaa.PAll
