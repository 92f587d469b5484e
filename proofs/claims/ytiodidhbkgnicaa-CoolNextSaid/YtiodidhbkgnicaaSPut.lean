import Derived.Test.YtiodidhbkgnicaaSCheck
import Derived.Test.YtiodidhbkgnicaaEInsert
import Derived.Test.YtiodidhbkgnicaaPAllx8
import Derived.Test.YtiodidhbkgnicaaPAllx16
import Derived.Test.YtiodidhbkgnicaaPAllx17
import Derived.Test.YtiodidhbkgnicaaPAllx11
set_option linter.unusedVariables false
set_option linter.unusedSimpArgs false
namespace Go.Proofs.Ytiodidhbkgnicaa.PAll
open Go.RowKit Go.Proofs.YtiodidhbkgnicaaW.PrintWords

/-- Where the cooling belongs in a list that rises. -/
structure Pos (l : List S25) (c : S25) (p : Nat) : Prop where
  le : p ≤ l.length
  lo : ∀ j (h : j < l.length), j < p → klt l[j].f0 c.f0
  hi : ∀ j (h : j < l.length), p ≤ j → ¬ klt l[j].f0 c.f0
theorem mid_eq {lo hi : Nat} (h : lo + hi ≤ 9223372036854775807) : wrap64 ((IntKind.u64.wrap (wrap64 ((lo : Int) + (hi : Int)))) / 2) = (((lo + hi) / 2 : Nat) : Int) := by
  have h0 : wrap64 ((lo : Int) + (hi : Int)) = (lo : Int) + (hi : Int) := Go.IntWalk.wrap64_in _ (by omega)
  have h1 : IntKind.u64.wrap ((lo : Int) + (hi : Int)) = (lo : Int) + (hi : Int) := by
    rw [IntKind.wrap_u64]
    omega
  rw [h0, h1, Go.IntWalk.wrap64_in _ (by omega)]
  omega
theorem sorted_at {l : List S25} (hS : Sorted l) {i j : Nat} (hi : i < l.length) (hj : j < l.length) (hij : i < j) : klt l[i].f0 l[j].f0 := List.pairwise_iff_getElem.1 hS i j hi hj hij
theorem ev_bs (l : List S25) (c : S25) (hS : Sorted l) (hl : l.length ≤ 4611686018427387903) : ∀ d lo hi : Nat, hi - lo = d → lo ≤ hi → hi ≤ l.length → (∀ j (h : j < l.length), j < lo → klt l[j].f0 c.f0) → (∀ j (h : j < l.length), hi ≤ j → ¬ klt l[j].f0 c.f0) →
    ∃ p, Pos l c p ∧ ∃ f : Bool, (f = true ↔ ∃ h : p < l.length, l[p].f0 = c.f0) ∧ Ev (fun k => api_Cooling_at_cool_Put_1.l0 k l (l.length : Int) (lo : Int) (hi : Int) c.f0.f0 c.f0.f1 c.f0.f2 c.f1) ((p : Int), f) := by
  intro d
  induction d using Nat.strongRecOn with
  | _ d ih =>
    intro lo hi hd hlh hhn hlo hhi
    by_cases hlt : lo < hi
    · have hm : (lo + hi) / 2 < l.length := by omega
      by_cases hk : klt l[(lo + hi) / 2].f0 c.f0
      · obtain ⟨p, hP, f, hf, hE⟩ := ih (hi - ((lo + hi) / 2 + 1)) (by omega) ((lo + hi) / 2 + 1) hi rfl (by omega) hhn (fun j h hj => by
          rcases Nat.lt_or_ge j ((lo + hi) / 2) with h1 | h1
          · exact klt_trans (sorted_at hS h hm h1) hk
          · obtain rfl : j = (lo + hi) / 2 := by omega
            exact hk) hhi
        refine ⟨p, hP, f, hf, Ev.succ ?_⟩
        simp only [api_Cooling_at_cool_Put_1.l0, if_pos (show (lo : Int) < (hi : Int) by omega), mid_eq (show lo + hi ≤ 9223372036854775807 by omega), if_pos (show (0 : Int) ≤ (((lo + hi) / 2 : Nat) : Int) by omega), if_pos (show (((lo + hi) / 2 : Nat) : Int) < (l.length : Int) by omega), rd_nat l ((lo + hi) / 2) hm, w_succ (show (lo + hi) / 2 + 1 ≤ 9223372036854775807 by omega)]
        unfold cool_Put_1.f
        refine Ev.bind (Ev.bind (ev_compare _ _) (Ev.const _)) ?_
        simp only [if_pos ((cmpV_neg _ _).2 hk)]
        exact hE
      · obtain ⟨p, hP, f, hf, hE⟩ := ih ((lo + hi) / 2 - lo) (by omega) lo ((lo + hi) / 2) rfl (by omega) (by omega) hlo (fun j h hj => by
          rcases Nat.lt_or_ge ((lo + hi) / 2) j with h1 | h1
          · exact fun h2 => hk (klt_trans (sorted_at hS hm h h1) h2)
          · obtain rfl : j = (lo + hi) / 2 := by omega
            exact hk)
        refine ⟨p, hP, f, hf, Ev.succ ?_⟩
        simp only [api_Cooling_at_cool_Put_1.l0, if_pos (show (lo : Int) < (hi : Int) by omega), mid_eq (show lo + hi ≤ 9223372036854775807 by omega), if_pos (show (0 : Int) ≤ (((lo + hi) / 2 : Nat) : Int) by omega), if_pos (show (((lo + hi) / 2 : Nat) : Int) < (l.length : Int) by omega), rd_nat l ((lo + hi) / 2) hm, w_succ (show (lo + hi) / 2 + 1 ≤ 9223372036854775807 by omega)]
        unfold cool_Put_1.f
        refine Ev.bind (Ev.bind (ev_compare _ _) (Ev.const _)) ?_
        simp only [if_neg (fun h => hk ((cmpV_neg _ _).1 h))]
        exact hE
    · obtain rfl : lo = hi := by omega
      by_cases hn : lo < l.length
      · refine ⟨lo, ⟨hhn, hlo, hhi⟩, cmpV l[lo].f0 c.f0 == 0, ?_, Ev.succ ?_⟩
        · rw [beq_iff_eq, cmpV_zero]
          exact ⟨fun h => ⟨hn, h⟩, fun ⟨_, h⟩ => h⟩
        · simp only [api_Cooling_at_cool_Put_1.l0, if_neg (show ¬ (lo : Int) < (lo : Int) by omega), if_pos (show (lo : Int) < (l.length : Int) by omega), if_pos (show (0 : Int) ≤ (lo : Int) by omega), rd_nat l lo hn]
          unfold cool_Put_1.f
          exact Ev.bind (Ev.bind (ev_compare _ _) (Ev.const _)) (Ev.const _)
      · refine ⟨lo, ⟨hhn, hlo, hhi⟩, false, ?_, Ev.succ ?_⟩
        · constructor
          · intro h
            cases h
          · rintro ⟨h, _⟩
            exact absurd h hn
        · simp only [api_Cooling_at_cool_Put_1.l0, if_neg (show ¬ (lo : Int) < (lo : Int) by omega), if_neg (show ¬ (lo : Int) < (l.length : Int) by omega)]
          exact Ev.const _

/-- The cooling, laid among them. -/
def ins (c : S25) : List S25 → List S25
  | [] => [c]
  | x :: r => if cmpV x.f0 c.f0 < 0 then x :: ins c r else if cmpV x.f0 c.f0 = 0 then c :: r else c :: x :: r
theorem ins_at : ∀ (l : List S25) (c : S25) (p : Nat), Pos l c p → ∀ f : Bool, (f = true ↔ ∃ h : p < l.length, l[p].f0 = c.f0) → ins c l = if f = true then l.set p c else l.take p ++ [c] ++ l.drop p
  | [], c, p, hP, f, hf => by
    have h0 : p = 0 := by have := hP.le; simpa using this
    subst h0
    cases f
    · simp [ins]
    · obtain ⟨h, _⟩ := hf.1 rfl
      simp at h
  | x :: r, c, 0, hP, f, hf => by
    have h1 : ¬ cmpV x.f0 c.f0 < 0 := fun h => hP.hi 0 (by simp) (Nat.le_refl _) ((cmpV_neg _ _).1 h)
    unfold ins
    rw [if_neg h1]
    cases f
    · have h2 : ¬ cmpV x.f0 c.f0 = 0 := fun h => by
        have := hf.2 ⟨by simp, (cmpV_zero _ _).1 h⟩
        cases this
      simp [h2]
    · obtain ⟨_, h⟩ := hf.1 rfl
      have h2 : cmpV x.f0 c.f0 = 0 := (cmpV_zero _ _).2 h
      simp [h2]
  | x :: r, c, p + 1, hP, f, hf => by
    have h1 : cmpV x.f0 c.f0 < 0 := (cmpV_neg _ _).2 (hP.lo 0 (by simp) (by omega))
    have hP2 : Pos r c p := ⟨by have := hP.le; simp at this; omega, fun j h hj => hP.lo (j + 1) (by simp; omega) (by omega), fun j h hj => hP.hi (j + 1) (by simp; omega) (by omega)⟩
    have ih := ins_at r c p hP2 f (by
      rw [hf]
      constructor
      · rintro ⟨h, e⟩
        exact ⟨by simp at h; omega, e⟩
      · rintro ⟨h, e⟩
        exact ⟨by simp; omega, e⟩)
    unfold ins
    rw [if_pos h1, ih]
    cases f <;> simp
theorem ins_len (c : S25) : ∀ l, l.length ≤ (ins c l).length ∧ (ins c l).length ≤ l.length + 1
  | [] => by simp [ins]
  | x :: r => by
    have ih := ins_len c r
    unfold ins
    split
    · simp only [List.length_cons]
      omega
    · split <;> simp
def fin (o : List S25) : List S25 × Int := if o.length > 72 then ([], 3) else (o, 0)
def putV (l : List S25) (c : S25) : List S25 × Int := if checkL l = 0 then (if checkV c = 0 then fin (ins c l) else ([], checkV c)) else ([], checkL l)
theorem ev_Put {l : List S25} {c : S25} (hs : ∀ c ∈ l, Small c) (hc : Small c) : Ev (fun k => cool_Put.f k l c.f0.f0 c.f0.f1 c.f0.f2 c.f1) (putV l c) := by
  unfold cool_Put.f putV
  refine Ev.bind (ev_Check hs) ?_
  by_cases h1 : checkL l = 0
  · simp only [if_pos h1]
    refine Ev.bind (ev_check hc) ?_
    by_cases h2 : checkV c = 0
    · simp only [if_pos h2]
      obtain ⟨hl, _, hS⟩ := (checkL_ok l).1 h1
      obtain ⟨p, hP, f, hf, hE⟩ := ev_bs l c hS (by omega) (l.length - 0) 0 l.length rfl (Nat.zero_le _) (Nat.le_refl _) (fun j h hj => absurd hj (by omega)) (fun j h hj => absurd h (by omega))
      have hE2 : Ev (fun k => api_Cooling_at_cool_Put_1.f k l c.f0.f0 c.f0.f1 c.f0.f2 c.f1) ((p : Int), f) := hE
      refine Ev.bind hE2 ?_
      have hcl : clone_cool.f l = some l := by unfold clone_cool.f; rw [if_pos (by omega)]
      refine Ev.bindNow hcl ?_
      have hins := ins_at l c p hP f hf
      cases f with
      | true =>
        obtain ⟨hp, _⟩ := hf.1 rfl
        simp only [if_true, if_pos (show (0 : Int) ≤ (p : Int) by omega), if_pos (show (p : Int) < (l.length : Int) by omega), Int.toNat_natCast]
        refine (Ev.const _).to ?_
        rw [if_pos rfl] at hins
        unfold fin
        rw [if_neg (by rw [hins, List.length_set]; omega), hins]
      | false =>
        rw [if_neg (by decide)] at hins
        have hil : (ins c l).length = l.length + 1 := by
          rw [hins]
          have := hP.le
          simp only [List.length_append, List.length_take, List.length_drop, List.length_singleton]
          omega
        simp only [Bool.false_eq_true, if_false]
        by_cases h72 : (l.length : Int) ≥ 72
        · simp only [if_pos h72]
          refine (Ev.const _).to ?_
          unfold fin
          rw [if_pos (by omega)]
        · simp only [if_neg h72]
          have hi : insert_cool.f l (p : Int) [c] = some (l.take p ++ [c] ++ l.drop p) := by
            unfold insert_cool.f
            have := hP.le
            rw [if_pos ⟨by omega, by omega, rfl, by omega⟩, Int.toNat_natCast]
          refine Ev.bindNow hi ?_
          refine (Ev.const _).to ?_
          unfold fin
          rw [if_neg (by omega), hins]
    · simp only [if_neg h2]
      exact Ev.const _
  · simp only [if_neg h1]
    exact Ev.const _

/-! ### the document's -/
theorem eq_off {a b : S23} (h : a ≠ b) : (a.f0.toList == b.f0.toList && (a.f1.toList == b.f1.toList && a.f2.toList == b.f2.toList)) = false := by
  rw [Bool.eq_false_iff]
  intro h2
  rw [Bool.and_eq_true, Bool.and_eq_true, beq_iff_eq, beq_iff_eq, beq_iff_eq, ByteArray.toList_eq, ByteArray.toList_eq, ByteArray.toList_eq, ByteArray.toList_eq, ByteArray.toList_eq, ByteArray.toList_eq] at h2
  obtain ⟨h0, h1, h3⟩ := h2
  apply h
  cases a
  cases b
  simp only [S23.mk.injEq]
  exact ⟨bytes_ext h0, bytes_ext h1, bytes_ext h3⟩
theorem eq_on (a : S23) : (a.f0.toList == a.f0.toList && (a.f1.toList == a.f1.toList && a.f2.toList == a.f2.toList)) = true := by simp
theorem klt_ne {a b : S23} (h : klt a b) : a ≠ b := fun e => klt_irrefl b (e ▸ h)
theorem ev_refPut_seen (l : List S25) (c : S25) (hl : l.length ≤ 72) : ∀ m i : Nat, ∀ out : List S25, i + m = l.length → out.length ≤ i + 1 → (∀ j (h : j < l.length), i ≤ j → klt c.f0 l[j].f0) →
    Ev (fun k => sutlerref07_Put.l0 k l out true (i : Int) c.f0.f0 c.f0.f1 c.f0.f2 c.f1) (fin (out ++ l.drop i))
  | 0, i, out, h, ho, hk => by
    refine Ev.succ ?_
    simp only [sutlerref07_Put.l0, if_neg (show ¬ ((i : Int) < (l.length : Int)) by omega), if_true, List.drop_eq_nil_of_le (show l.length ≤ i by omega), List.append_nil]
    unfold fin
    by_cases h72 : out.length > 72
    · simp only [if_pos h72, if_pos (show (out.length : Int) > 72 by omega)]
      exact Ev.const _
    · simp only [if_neg h72, if_neg (show ¬ (out.length : Int) > 72 by omega)]
      exact Ev.const _
  | m + 1, i, out, h, ho, hk => by
    have hi : i < l.length := by omega
    have hkx := hk i hi (Nat.le_refl _)
    refine Ev.succ ?_
    simp only [sutlerref07_Put.l0, if_pos (show (i : Int) < (l.length : Int) by omega), if_pos (show (0 : Int) ≤ (i : Int) by omega), rd_nat l i hi, eq_off (klt_ne hkx).symm, Bool.false_eq_true, if_false, w_succ (show i + 1 ≤ 9223372036854775807 by omega)]
    refine Ev.bindNow (less_now _ _) ?_
    simp only [decide_eq_true ((cmpV_neg _ _).2 hkx), if_true, if_pos (show out.length < 2513169434916 by omega)]
    refine (ev_refPut_seen l c hl m (i + 1) (out ++ [l[i]]) (by omega) (by simp; omega) (fun j hj hij => hk j hj (by omega))).to ?_
    rw [List.append_assoc, List.drop_eq_getElem_cons hi]
    rfl
theorem ev_refPut_l (l : List S25) (c : S25) (hl : l.length ≤ 72) (hS : Sorted l) : ∀ m i : Nat, ∀ out : List S25, i + m = l.length → out.length ≤ i →
    Ev (fun k => sutlerref07_Put.l0 k l out false (i : Int) c.f0.f0 c.f0.f1 c.f0.f2 c.f1) (fin (out ++ ins c (l.drop i)))
  | 0, i, out, h, ho => by
    refine Ev.succ ?_
    simp only [sutlerref07_Put.l0, if_neg (show ¬ ((i : Int) < (l.length : Int)) by omega), Bool.false_eq_true, if_false, List.drop_eq_nil_of_le (show l.length ≤ i by omega), if_pos (show out.length < 2513169434916 by omega), Option.bind_some, ins]
    unfold fin
    by_cases h72 : (out ++ [c]).length > 72
    · simp only [if_pos h72, if_pos (show (((out ++ [c]).length : Nat) : Int) > 72 by omega)]
      exact Ev.const _
    · simp only [if_neg h72, if_neg (show ¬ (((out ++ [c]).length : Nat) : Int) > 72 by omega)]
      exact Ev.const _
  | m + 1, i, out, h, ho => by
    have hi : i < l.length := by omega
    refine Ev.succ ?_
    simp only [sutlerref07_Put.l0, if_pos (show (i : Int) < (l.length : Int) by omega), if_pos (show (0 : Int) ≤ (i : Int) by omega), rd_nat l i hi, w_succ (show i + 1 ≤ 9223372036854775807 by omega)]
    rw [List.drop_eq_getElem_cons hi]
    by_cases he : l[i].f0 = c.f0
    · have hz : cmpV l[i].f0 c.f0 = 0 := (cmpV_zero _ _).2 he
      have e1 : (l[i].f0.f0.toList == c.f0.f0.toList && (l[i].f0.f1.toList == c.f0.f1.toList && l[i].f0.f2.toList == c.f0.f2.toList)) = true := by rw [he]; exact eq_on _
      simp only [e1, if_true, if_pos (show out.length < 2513169434916 by omega)]
      refine (ev_refPut_seen l c hl m (i + 1) (out ++ [c]) (by omega) (by simp; omega) (fun j hj hij => he ▸ sorted_at hS hi hj (by omega))).to ?_
      unfold ins
      rw [if_neg (by omega), if_pos hz, List.append_assoc]
      rfl
    · simp only [eq_off he, Bool.false_eq_true, if_false]
      refine Ev.bindNow (less_now _ _) ?_
      by_cases hk : klt c.f0 l[i].f0
      · have h1 : ¬ cmpV l[i].f0 c.f0 < 0 := fun h => klt_asymm hk ((cmpV_neg _ _).1 h)
        have h2 : ¬ cmpV l[i].f0 c.f0 = 0 := fun h => he ((cmpV_zero _ _).1 h)
        simp only [decide_eq_true ((cmpV_neg _ _).2 hk), if_true, if_pos (show out.length < 2513169434916 by omega), Option.bind_some, if_pos (show (out ++ [c]).length < 2513169434916 by simp; omega)]
        refine (ev_refPut_seen l c hl m (i + 1) (out ++ [c] ++ [l[i]]) (by omega) (by simp; omega) (fun j hj hij => klt_trans hk (sorted_at hS hi hj (by omega)))).to ?_
        unfold ins
        rw [if_neg h1, if_neg h2, List.append_assoc, List.append_assoc]
        rfl
      · have h1 : cmpV l[i].f0 c.f0 < 0 := (cmpV_neg _ _).2 (klt_tri hk (fun e => he e.symm))
        simp only [decide_eq_false (fun h => hk ((cmpV_neg _ _).1 h)), Bool.false_eq_true, if_false, if_pos (show out.length < 2513169434916 by omega)]
        refine (ev_refPut_l l c hl hS m (i + 1) (out ++ [l[i]]) (by omega) (by simp; omega)).to ?_
        rw [ins, if_pos h1, List.append_assoc]
        rfl
theorem ev_refPut {l : List S25} {c : S25} (hs : ∀ c ∈ l, Small c) (hc : Small c) : Ev (fun k => sutlerref07_Put.f k l c.f0.f0 c.f0.f1 c.f0.f2 c.f1) (putV l c) := by
  unfold sutlerref07_Put.f putV
  refine Ev.bind (ev_refCheck hs) ?_
  by_cases h1 : checkL l = 0
  · simp only [if_pos h1]
    refine Ev.bind (ev_one hc) ?_
    by_cases h2 : checkV c = 0
    · simp only [if_pos h2]
      obtain ⟨hl, _, hS⟩ := (checkL_ok l).1 h1
      exact ev_refPut_l l c hl hS l.length 0 [] (by omega) (Nat.zero_le _)
    · simp only [if_neg h2]
      exact Ev.const _
  · simp only [if_neg h1]
    exact Ev.const _

/-! ### alike -/
theorem ev_same_l (l : List S25) (hl : l.length ≤ 9223372036854775806) : ∀ m i : Nat, i + m = l.length → Ev (fun k => sutlerlaw07_same.l0 k l l (i : Int)) true
  | 0, i, h => by
    refine Ev.succ ?_
    simp only [sutlerlaw07_same.l0, if_neg (show ¬ ((i : Int) < (l.length : Int)) by omega)]
    exact Ev.const _
  | m + 1, i, h => by
    refine Ev.succ ?_
    simp only [sutlerlaw07_same.l0, if_pos (show (i : Int) < (l.length : Int) by omega), if_pos (show (0 : Int) ≤ (i : Int) by omega), beq_self_eq_true, Bool.not_true, Bool.or_false, Bool.false_eq_true, if_false, w_succ (show i + 1 ≤ 9223372036854775807 by omega)]
    exact ev_same_l l hl m (i + 1) (by omega)
theorem ev_same (l : List S25) (hl : l.length ≤ 9223372036854775806) : Ev (fun k => sutlerlaw07_same.f k l l) true := by
  unfold sutlerlaw07_same.f
  simp only [if_true]
  exact ev_same_l l hl l.length 0 (by omega)
theorem ev_live : Ev (fun k => sutlerlaw07_live.f k) true := Ev.of_mono (fun k => sutlerlaw07_live.mono k) 60 (by kernel_rfl)
end Go.Proofs.Ytiodidhbkgnicaa.PAll
