import Derived.Test.YtmankbhlgjgnbaaEKslist
/-! The store and the reference's agree: in plain words. -/
namespace Go.Proofs.Ytmankbhlgjgnbaa.PAll
open Go.RowKit Go.Proofs.YtmankbhlgjgnbaaW.PrintWords Go.Proofs.YtmankbhlgjgnbaaW.PrintLast Go.Proofs.YtmankbhlgjgnbaaW.PrintMore Mem
set_option linter.unusedVariables false
set_option linter.unusedSimpArgs false
theorem less_tlt (a b : ByteArray) : Op.bytesLess a.toList b.toList = decide (tlt a b) := by
  rw [bytesLess_eq, ByteArray.toList_eq, ByteArray.toList_eq]
  rfl
/-- Names rise. -/
def Rise (L : List PI) : Prop := L.Pairwise fun x y => ¬ tlt y.name x.name
theorem insN_perm (x : PI) : ∀ L : List PI, (insN x L).Perm (x :: L)
  | [] => List.Perm.refl _
  | y :: r => by
    unfold insN
    split
    · exact (List.Perm.cons y (insN_perm x r)).trans (List.Perm.swap x y r)
    · exact List.Perm.refl _
theorem insN_rise (x : PI) : ∀ L : List PI, Rise L → Rise (insN x L)
  | [], _ => List.pairwise_singleton _ _
  | y :: r, h => by
    unfold insN
    have h2 := List.pairwise_cons.1 h
    split
    · rename_i hl
      rw [less_tlt] at hl
      have hl' := of_decide_eq_true hl
      refine List.pairwise_cons.2 ⟨fun z hz => ?_, insN_rise x r h2.2⟩
      rcases List.mem_cons.1 ((insN_perm x r).mem_iff.1 hz) with rfl | hz
      · exact fun hc => tlt_irrefl _ (tlt_trans hc hl')
      · exact h2.1 z hz
    · rename_i hl
      rw [less_tlt] at hl
      have hl' : ¬ tlt y.name x.name := fun hc => hl (decide_eq_true hc)
      refine List.pairwise_cons.2 ⟨fun z hz => ?_, h⟩
      rcases List.mem_cons.1 hz with rfl | hz
      · exact hl'
      · intro hc
        by_cases e : y.name = x.name
        · exact h2.1 z hz (by rw [e]; exact hc)
        · exact h2.1 z hz (tlt_trans hc (tlt_tri hl' e))
theorem foldl_rlist (kind : Int) : ∀ (L out : List PI), Rise out → Rise (L.foldl (fun out x => if x.kind = kind then insN x out else out) out) ∧ (L.foldl (fun out x => if x.kind = kind then insN x out else out) out).Perm (L.filter (fun x => decide (x.kind = kind)) ++ out)
  | [], out, h => ⟨h, List.Perm.refl _⟩
  | x :: r, out, h => by
    rw [List.foldl_cons]
    by_cases hk : x.kind = kind
    · rw [if_pos hk, List.filter_cons_of_pos (by simpa using hk)]
      obtain ⟨h1, h2⟩ := foldl_rlist kind r (insN x out) (insN_rise x out h)
      exact ⟨h1, h2.trans (((insN_perm x out).append_left _).trans List.perm_middle)⟩
    · rw [if_neg hk, List.filter_cons_of_neg (by simpa using hk)]
      exact foldl_rlist kind r out h
theorem rlistV_rise (kind : Int) (L : List PI) : Rise (rlistV kind L) := (foldl_rlist kind L [] List.Pairwise.nil).1
theorem rlistV_perm (kind : Int) (L : List PI) : (rlistV kind L).Perm (L.filter (fun x => decide (x.kind = kind))) := by
  have h := (foldl_rlist kind L [] List.Pairwise.nil).2
  rwa [List.append_nil] at h
/-- Two lists of the same items, names rising, no name twice: one list. -/
theorem rise_eq : ∀ (L M : List PI), L.Perm M → Rise L → Rise M → (L.map (·.name)).Nodup → L = M
  | [], M, h, _, _, _ => (List.nil_perm.1 h).symm
  | x :: L, [], h, _, _, _ => absurd h.length_eq (by simp)
  | x :: L, y :: M, h, hL, hM, hn => by
    have hL2 := List.pairwise_cons.1 hL
    have hM2 := List.pairwise_cons.1 hM
    have hn2 : x.name ∉ L.map (·.name) ∧ (L.map (·.name)).Nodup := List.nodup_cons.1 hn
    have hxy : x = y := by
      rcases List.mem_cons.1 (h.mem_iff.1 (List.mem_cons_self (a := x) (l := L))) with e | hx
      · exact e
      · rcases List.mem_cons.1 (h.mem_iff.2 (List.mem_cons_self (a := y) (l := M))) with e | hy
        · exact e.symm
        · have h1 : ¬ tlt x.name y.name := hM2.1 x hx
          have h2 : ¬ tlt y.name x.name := hL2.1 y hy
          have hne : x.name ≠ y.name := fun e => hn2.1 (e ▸ List.mem_map_of_mem hy)
          exact absurd (tlt_tri h2 (fun e => hne e.symm)) h1
    subst hxy
    rw [rise_eq L M (List.Perm.cons_inv h) hL2.2 hM2.2 hn2.2]
/-- The keys of a store: each once. -/
def Keys (s : St) : Prop := (s.L.map (·.1)).Nodup
structure Agree (s : St) (L : List PI) : Prop where
  keys : Keys s
  keyed : ∀ q ∈ s.L, q.1 = (q.2.kind, q.2.name)
  perm : (s.L.map (·.2)).Perm L
theorem look_of_mem : ∀ (M : List (Key × PI)) (k : Key) (x : PI), (M.map (·.1)).Nodup → (k, x) ∈ M → lookM eqKey k M = some x
  | [], _, _, _, h => by cases h
  | q :: r, k, x, hn, h => by
    have hn2 : q.1 ∉ r.map (·.1) ∧ (r.map (·.1)).Nodup := List.nodup_cons.1 hn
    unfold lookM
    rcases List.mem_cons.1 h with e | h
    · subst e
      rw [if_pos (eqKey_self k)]
    · by_cases hc : eqKey k q.1 = true
      · have e := eqKey_eq hc
        exact absurd (List.mem_map.2 ⟨(k, x), h, e⟩) hn2.1
      · rw [if_neg hc]
        exact look_of_mem r k x hn2.2 h
theorem Agree.mem {s : St} {L : List PI} (h : Agree s L) {x : PI} : x ∈ L ↔ ((x.kind, x.name), x) ∈ s.L := by
  rw [← h.perm.mem_iff, List.mem_map]
  constructor
  · rintro ⟨q, hq, rfl⟩
    have := h.keyed q hq
    rw [← this]
    exact hq
  · exact fun hq => ⟨_, hq, rfl⟩
theorem Agree.look {s : St} {L : List PI} (h : Agree s L) {x : PI} (hx : x ∈ L) : lookM eqKey (x.kind, x.name) s.L = some x := look_of_mem _ _ _ h.keys (h.mem.1 hx)
theorem rI_none (kind : Int) (nm : ByteArray) : ∀ (L : List PI) (i : Nat), (∀ x ∈ L, ¬ (x.kind = kind ∧ x.name = nm)) → rI kind nm L i = -1
  | [], _, _ => rfl
  | x :: r, i, h => by
    rw [rI_cons, if_neg (fun e => h x (by simp) ⟨e.1, eq_of_toList e.2⟩)]
    exact rI_none kind nm r (i + 1) (fun y hy => h y (by simp [hy]))
/-- What is found. -/
theorem Agree.find {s : St} {L : List PI} (h : Agree s L) (kind : Int) (nm : ByteArray) :
    (rI kind nm L 0 = -1 ∧ lookM eqKey (kind, nm) s.L = none) ∨ ∃ i, ∃ hi : i < L.length, rI kind nm L 0 = (i : Int) ∧ L[i].kind = kind ∧ L[i].name = nm ∧ lookM eqKey (kind, nm) s.L = some L[i] := by
  rcases rI_cases kind nm L 0 with h0 | ⟨j, hj, h1, h2, h3⟩
  · refine .inl ⟨h0, ?_⟩
    cases hl : lookM eqKey (kind, nm) s.L with
    | none => rfl
    | some x =>
      exfalso
      have hm := lmem hl
      have hk := h.keyed _ hm
      have hk1 : kind = x.kind := congrArg Prod.fst hk
      have hk2 : nm = x.name := congrArg Prod.snd hk
      have hx : x ∈ L := h.mem.2 (by rw [← hk1, ← hk2]; exact hm)
      have : ∀ (M : List PI) (i : Nat), x ∈ M → rI kind nm M i ≠ -1 := by
        intro M
        induction M with
        | nil => intro i hx; cases hx
        | cons y r ih =>
          intro i hx
          rw [rI_cons]
          by_cases hc : y.kind = kind ∧ y.name.toList = nm.toList
          · rw [if_pos hc]; omega
          · rw [if_neg hc]
            rcases List.mem_cons.1 hx with rfl | hx
            · exact absurd ⟨hk1.symm, by rw [hk2]⟩ hc
            · exact ih (i + 1) hx
      exact this L 0 hx h0
  · have e3 := eq_of_toList h3
    refine .inr ⟨j, hj, by rw [h1]; congr 1; omega, h2, e3, ?_⟩
    have := h.look (List.getElem_mem hj)
    rw [h2, e3] at this
    exact this
theorem pk_erase (kind : Int) {s : St} (hk : ∀ q ∈ s.L, q.1 = (q.2.kind, q.2.name)) : pk kind s.L = (s.L.map (·.2)).filter (fun x => decide (x.kind = kind)) := by
  unfold pk
  rw [List.filter_map]
  congr 1
  refine List.filter_congr fun q hq => ?_
  have := congrArg Prod.fst (hk q hq)
  have h2 : q.1.1 = q.2.kind := this
  simp [h2]
/-- Within a kind no name is twice. -/
theorem pk_names (kind : Int) : ∀ (M : List (Key × PI)), (M.map (·.1)).Nodup → (∀ q ∈ M, q.1 = (q.2.kind, q.2.name)) → ((pk kind M).map (·.name)).Nodup
  | [], _, _ => List.nodup_nil
  | q :: r, hn, hk => by
    have hn2 : q.1 ∉ r.map (·.1) ∧ (r.map (·.1)).Nodup := List.nodup_cons.1 hn
    have ih := pk_names kind r hn2.2 (fun q hq => hk q (by simp [hq]))
    by_cases hc : q.1.1 = kind
    · rw [pk_cons_pos _ hc, List.map_cons, List.nodup_cons]
      refine ⟨fun hm => ?_, ih⟩
      obtain ⟨y, hy, e⟩ := List.mem_map.1 hm
      unfold pk at hy
      obtain ⟨z, hz, rfl⟩ := List.mem_map.1 hy
      have hz2 := List.mem_filter.1 hz
      have hzk : z.1.1 = kind := of_decide_eq_true hz2.2
      have h1 := hk q (by simp)
      have h2 := hk z (by simp [hz2.1])
      refine hn2.1 (List.mem_map.2 ⟨z, hz2.1, ?_⟩)
      refine Prod.ext (hzk.trans hc.symm) ?_
      rw [h1, h2]
      exact e
    · rw [pk_cons_neg _ hc]
      exact ih
/-- What both list. -/
theorem Agree.list {s : St} {L : List PI} (h : Agree s L) (kind : Int) {ys : List PI} (hp : ys.Perm (pk kind s.L)) (hr : Rise ys) : ys = rlistV kind L := by
  refine rise_eq ys (rlistV kind L) ?_ hr (rlistV_rise kind L) ?_
  · refine hp.trans ?_
    rw [pk_erase kind h.keyed]
    exact (h.perm.filter _).trans (rlistV_perm kind L).symm
  · exact (hp.map _).nodup_iff.2 (pk_names kind s.L h.keys h.keyed)
end Go.Proofs.Ytmankbhlgjgnbaa.PAll
