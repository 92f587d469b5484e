import Derived.Test.YtmankbhlgjgnbaaEKsame
/-! Each call of the store and the reference's: the same answer, and agreement kept: in plain words. -/
namespace Go.Proofs.Ytmankbhlgjgnbaa.PAll
open Go.RowKit Go.Proofs.YtmankbhlgjgnbaaW.PrintWords Go.Proofs.YtmankbhlgjgnbaaW.PrintLast Go.Proofs.YtmankbhlgjgnbaaW.PrintMore Mem
set_option linter.unusedVariables false
set_option linter.unusedSimpArgs false
theorem erase_perm {α : Type} : ∀ (l : List α) (i : Nat) (h : i < l.length), (l[i] :: l.eraseIdx i).Perm l
  | x :: r, 0, _ => List.Perm.refl _
  | x :: r, i + 1, h => by
    have h2 : i < r.length := by simpa using h
    show (r[i] :: x :: r.eraseIdx i).Perm (x :: r)
    exact (List.Perm.swap _ _ _).trans (List.Perm.cons x (erase_perm r i (by simpa using h)))
theorem set_perm {α : Type} (y : α) : ∀ (l : List α) (i : Nat) (h : i < l.length), (l.set i y).Perm (y :: l.eraseIdx i)
  | x :: r, 0, _ => List.Perm.refl _
  | x :: r, i + 1, h => by
    show (x :: r.set i y).Perm (y :: x :: r.eraseIdx i)
    exact (List.Perm.cons x (set_perm y r i (by simpa using h))).trans (List.Perm.swap _ _ _)
theorem put_perm : ∀ (M : List (Key × PI)) (k : Key) (x : PI), (M.map (·.1)).Nodup → (k, x) ∈ M → ∃ M', M.Perm ((k, x) :: M') ∧ (∀ y, (putM eqKey k y M).Perm ((k, y) :: M')) ∧ (delM eqKey k M).Perm M'
  | [], _, _, _, h => by cases h
  | q :: r, k, x, hn, h => by
    have hn2 : q.1 ∉ r.map (·.1) ∧ (r.map (·.1)).Nodup := List.nodup_cons.1 hn
    by_cases hc : eqKey k q.1 = true
    · have e := eqKey_eq hc
      have hq : q = (k, x) := by
        rcases List.mem_cons.1 h with h | h
        · exact h.symm
        · exact absurd (List.mem_map.2 ⟨(k, x), h, e⟩) hn2.1
      subst hq
      refine ⟨r, List.Perm.refl _, fun y => ?_, ?_⟩
      · unfold putM
        rw [if_pos hc]
      · unfold delM
        rw [if_pos hc]
    · have hm : (k, x) ∈ r := by
        rcases List.mem_cons.1 h with h | h
        · subst h
          exact absurd (eqKey_self k) hc
        · exact h
      obtain ⟨M', h1, h2, h3⟩ := put_perm r k x hn2.2 hm
      refine ⟨q :: M', (List.Perm.cons q h1).trans (List.Perm.swap _ _ _), fun y => ?_, ?_⟩
      · unfold putM
        rw [if_neg hc]
        exact (List.Perm.cons q (h2 y)).trans (List.Perm.swap _ _ _)
      · unfold delM
        rw [if_neg hc]
        exact List.Perm.cons q h3
theorem put_new : ∀ (M : List (Key × PI)) (k : Key) (y : PI), lookM eqKey k M = none → putM eqKey k y M = M ++ [(k, y)] ∧ k ∉ M.map (·.1)
  | [], _, _, _ => ⟨rfl, by simp⟩
  | q :: r, k, y, h => by
    unfold lookM at h
    by_cases hc : eqKey k q.1 = true
    · rw [if_pos hc] at h; cases h
    · rw [if_neg hc] at h
      obtain ⟨h1, h2⟩ := put_new r k y h
      unfold putM
      rw [if_neg hc, h1]
      refine ⟨rfl, fun hm => ?_⟩
      rw [List.map_cons] at hm
      rcases List.mem_cons.1 hm with e | hm
      · exact hc (by rw [e]; exact eqKey_self _)
      · exact h2 hm
theorem Agree.put {s : St} {L : List PI} (h : Agree s L) {i : Nat} (hi : i < L.length) (y : PI) (hk : y.kind = L[i].kind) (hn : y.name = L[i].name) : Agree ⟨putM eqKey (y.kind, y.name) y s.L, s.n + 1⟩ (L.set i y) := by
  have hm := h.mem.1 (List.getElem_mem hi)
  rw [← hk, ← hn] at hm
  obtain ⟨M', h1, h2, _⟩ := put_perm s.L _ _ h.keys hm
  have h2y := h2 y
  refine ⟨?_, ?_, ?_⟩
  · have ha : (s.L.map (·.1)).Perm (((y.kind, y.name), L[i]) :: M' |>.map (·.1)) := h1.map _
    have hb : ((putM eqKey (y.kind, y.name) y s.L).map (·.1)).Perm (((y.kind, y.name), y) :: M' |>.map (·.1)) := h2y.map _
    exact hb.nodup_iff.2 (ha.nodup_iff.1 h.keys)
  · intro q hq
    rcases pmem hq with rfl | hq
    · rfl
    · exact h.keyed q hq
  · have hc : (L[i] :: M'.map (·.2)).Perm (L[i] :: L.eraseIdx i) := ((h1.map Prod.snd).symm.trans h.perm).trans (erase_perm L i hi).symm
    have hd : (M'.map (·.2)).Perm (L.eraseIdx i) := List.Perm.cons_inv hc
    refine (h2y.map (·.2)).trans ?_
    exact (List.Perm.cons y hd).trans (set_perm y L i hi).symm
theorem Agree.del {s : St} {L : List PI} (h : Agree s L) {i : Nat} (hi : i < L.length) (n : Int) : Agree ⟨delM eqKey (L[i].kind, L[i].name) s.L, n⟩ (L.eraseIdx i) := by
  have hm := h.mem.1 (List.getElem_mem hi)
  obtain ⟨M', h1, _, h3⟩ := put_perm s.L _ _ h.keys hm
  refine ⟨?_, ?_, ?_⟩
  · have ha : (s.L.map (·.1)).Perm (((L[i].kind, L[i].name), L[i]) :: M' |>.map (·.1)) := h1.map _
    have hb := ha.nodup_iff.1 h.keys
    exact (h3.map (·.1)).nodup_iff.2 (List.nodup_cons.1 hb).2
  · exact fun q hq => h.keyed q (dmem hq)
  · have hc : (L[i] :: M'.map (·.2)).Perm (L[i] :: L.eraseIdx i) := ((h1.map Prod.snd).symm.trans h.perm).trans (erase_perm L i hi).symm
    exact (h3.map (·.2)).trans (List.Perm.cons_inv hc)
theorem Agree.new {s : St} {L : List PI} (h : Agree s L) (y : PI) (hl : lookM eqKey (y.kind, y.name) s.L = none) (n : Int) : Agree ⟨putM eqKey (y.kind, y.name) y s.L, n⟩ (L ++ [y]) := by
  obtain ⟨h1, h2⟩ := put_new s.L _ y hl
  refine ⟨?_, ?_, ?_⟩
  · show ((putM eqKey (y.kind, y.name) y s.L).map (·.1)).Nodup
    rw [h1, List.map_append]
    exact List.nodup_append.2 ⟨h.keys, by simp, fun a ha b hb e => by
      obtain rfl := List.mem_singleton.1 hb
      exact h2 (by rw [← show a = (y.kind, y.name) from e]; exact ha)⟩
  · intro q hq
    rcases pmem hq with rfl | hq
    · rfl
    · exact h.keyed q hq
  · show ((putM eqKey (y.kind, y.name) y s.L).map (·.2)).Perm (L ++ [y])
    rw [h1, List.map_append]
    exact h.perm.append_right _
theorem Agree.n {s : St} {L : List PI} (h : Agree s L) (n : Int) : Agree ⟨s.L, n⟩ L := ⟨h.keys, h.keyed, h.perm⟩
/-- What a step leaves. -/
structure Step (s : St) (L : List PI) (a : Int × Int) (s' : St) (b : Int × Int) (L' : List PI) (n' : Int) : Prop where
  ans : b = a
  inv : Inv s'
  agree : Agree s' L'
  num : n' = s'.n
  le : s'.n ≤ s.n + 1
  len : L'.length ≤ L.length + 1
theorem Step.same {s : St} {L : List PI} (hI : Inv s) (hA : Agree s L) (a : Int × Int) : Step s L a s a L s.n := ⟨rfl, hI, hA, rfl, by omega, by omega⟩
theorem step_create {s : St} {L : List PI} (hI : Inv s) (hA : Agree s L) (kind : Int) (nm : ByteArray) (B : List Int) :
    Step s L (createV s kind nm B).1 (createV s kind nm B).2 (rcreateV L s.n kind nm B).1 (rcreateV L s.n kind nm B).2.1 (rcreateV L s.n kind nm B).2.2 := by
  have hlen : s.L.length = L.length := by have h := hA.perm.length_eq; rwa [List.length_map] at h
  unfold createV rcreateV
  by_cases k1 : kind < 1 ∨ kind > 5 ∨ nm.size = 0 ∨ nm.size > 50
  · rw [if_pos k1, if_pos (show kind < 1 ∨ kind > 5 ∨ nm.size < 1 ∨ nm.size > 50 by omega)]
    exact Step.same hI hA _
  rw [if_neg k1, if_neg (show ¬ (kind < 1 ∨ kind > 5 ∨ nm.size < 1 ∨ nm.size > 50) by omega)]
  by_cases k2 : B.length > 4096
  · rw [if_pos k2, if_pos k2]
    exact Step.same hI hA _
  rw [if_neg k2, if_neg k2]
  rcases hA.find kind nm with ⟨h1, h2⟩ | ⟨i, hi, h1, _, _, h2⟩
  · rw [h1, h2, if_neg (show ¬ (none : Option PI).isSome = true by decide), if_neg (show ¬ (0 : Int) ≤ -1 by decide), hlen]
    by_cases k4 : L.length ≥ 128
    · rw [if_pos k4, if_pos k4]
      exact Step.same hI hA _
    rw [if_neg k4, if_neg k4]
    exact ⟨rfl, hI.put ⟨kind, nm, s.n + 1, [], B, false⟩ ⟨Nat.zero_le _, by show B.length ≤ 100000; omega⟩ List.Pairwise.nil rfl, hA.new ⟨kind, nm, s.n + 1, [], B, false⟩ h2 _, rfl, by show s.n + 1 ≤ s.n + 1; omega, by rw [List.length_append]; exact Nat.le_refl _⟩
  · rw [h1, h2, if_pos (show (some L[i]).isSome = true from rfl), if_pos (show (0 : Int) ≤ (i : Int) by omega)]
    exact Step.same hI hA _
theorem step_update_none {s : St} {L : List PI} (hI : Inv s) (hA : Agree s L) (kind : Int) (nm : ByteArray) (v : Int) (B : List Int) (hl : lookM eqKey (kind, nm) s.L = none) : updateV s kind nm v B = ((0, 5), s) := by
  unfold updateV findV
  rw [hl]
  rfl
theorem step_update {s : St} {L : List PI} (hI : Inv s) (hA : Agree s L) (kind : Int) (nm : ByteArray) (v : Int) (B : List Int) (i : Nat) (hi : i < L.length) (hk : L[i].kind = kind) (hn : L[i].name = nm) (hl : lookM eqKey (kind, nm) s.L = some L[i]) :
    Step s L (updateV s kind nm v B).1 (updateV s kind nm v B).2 (rupdateV L s.n i L[i] v B).1 (rupdateV L s.n i L[i] v B).2.1 (rupdateV L s.n i L[i] v B).2.2 := by
  have hm := lmem hl
  unfold updateV findV rupdateV
  rw [hl]
  dsimp only
  by_cases k1 : L[i].ver = v
  · rw [if_pos k1, if_neg (fun e : L[i].ver ≠ v => e k1)]
    dsimp only
    rw [if_neg (show ¬ ((0 : Int) ≠ 0) by decide)]
    by_cases k2 : B.length > 4096
    · rw [if_pos k2, if_pos k2]
      exact Step.same hI hA _
    rw [if_neg k2, if_neg k2]
    by_cases k3 : L[i].going = true
    · rw [if_pos k3, if_pos k3]
      exact Step.same hI hA _
    rw [if_neg k3, if_neg k3]
    exact ⟨rfl, hI.put { L[i] with ver := s.n + 1, B := B } ⟨(hI.fits _ hm).1, by show B.length ≤ 100000; omega⟩ (hI.srt _ hm).1 rfl, hA.put hi { L[i] with ver := s.n + 1, B := B } rfl rfl, rfl, by show s.n + 1 ≤ s.n + 1; omega, by rw [List.length_set]; omega⟩
  · rw [if_neg k1, if_pos k1]
    dsimp only
    rw [if_pos (show (100 : Int) ≠ 0 by decide)]
    exact Step.same hI hA _
theorem step_delete_none {s : St} (kind : Int) (nm : ByteArray) (v : Int) (hl : lookM eqKey (kind, nm) s.L = none) : deleteV s kind nm v = (5, s) := by
  unfold deleteV findV
  rw [hl]
  rfl
theorem step_delete {s : St} {L : List PI} (hI : Inv s) (hA : Agree s L) (kind : Int) (nm : ByteArray) (v : Int) (i : Nat) (hi : i < L.length) (hk : L[i].kind = kind) (hn : L[i].name = nm) (hl : lookM eqKey (kind, nm) s.L = some L[i]) :
    Step s L (0, (deleteV s kind nm v).1) (deleteV s kind nm v).2 (0, (rdeleteV L s.n i L[i] v).1) (rdeleteV L s.n i L[i] v).2.1 (rdeleteV L s.n i L[i] v).2.2 := by
  have hm := lmem hl
  unfold deleteV findV rdeleteV
  rw [hl]
  dsimp only
  by_cases k1 : L[i].ver = v
  · rw [if_pos k1, if_neg (fun e : L[i].ver ≠ v => e k1)]
    dsimp only
    rw [if_neg (show ¬ ((0 : Int) ≠ 0) by decide)]
    by_cases k3 : L[i].going = true
    · rw [if_pos k3, if_pos k3]
      exact Step.same hI hA _
    rw [if_neg k3, if_neg k3]
    by_cases k4 : L[i].H.length = 0
    · rw [if_pos k4, if_pos k4]
      exact ⟨rfl, hI.del _, hA.del hi _, rfl, by show s.n + 1 ≤ s.n + 1; omega, by rw [List.length_eraseIdx]; split <;> omega⟩
    rw [if_neg k4, if_neg k4]
    exact ⟨rfl, hI.put { L[i] with ver := s.n + 1, going := true } (hI.fits _ hm) (hI.srt _ hm).1 rfl, hA.put hi { L[i] with ver := s.n + 1, going := true } rfl rfl, rfl, by show s.n + 1 ≤ s.n + 1; omega, by rw [List.length_set]; omega⟩
  · rw [if_neg k1, if_pos k1]
    dsimp only
    rw [if_pos (show (100 : Int) ≠ 0 by decide)]
    exact Step.same hI hA _
theorem insStep_true (who : ByteArray) : ∀ (H acc : List ByteArray), H.foldl (insStep who) (acc, true) = (acc ++ H, true)
  | [], acc => by rw [List.append_nil]; rfl
  | h :: r, acc => by
    rw [List.foldl_cons, show insStep who (acc, true) h = (acc ++ [h], true) from if_neg (fun e => absurd (show true = false from e.1) (by decide)), insStep_true who r, List.append_assoc]
    rfl
theorem insStep_false (who : ByteArray) : ∀ (H acc : List ByteArray), (if (H.foldl (insStep who) (acc, false)).2 = true then (H.foldl (insStep who) (acc, false)).1 else (H.foldl (insStep who) (acc, false)).1 ++ [who]) = acc ++ insS who H
  | [], acc => rfl
  | h :: r, acc => by
    unfold insS
    by_cases hc : tlt h who
    · have hb : Op.bytesLess h.toList who.toList = true := by rw [less_tlt]; exact decide_eq_true hc
      rw [List.foldl_cons, show insStep who (acc, false) h = (acc ++ [h], false) from if_neg (fun e => by rw [hb] at e; exact absurd e.2 (by decide)), if_pos hc, insStep_false who r, List.append_assoc]
      rfl
    · have hb : Op.bytesLess h.toList who.toList = false := by rw [less_tlt]; exact decide_eq_false hc
      rw [List.foldl_cons, show insStep who (acc, false) h = (acc ++ [who] ++ [h], true) from if_pos ⟨rfl, hb⟩, if_neg hc, insStep_true, if_pos rfl]
      simp
theorem insR_eq (who : ByteArray) (H : List ByteArray) : insR who H = insS who H := by
  have h := insStep_false who H []
  rw [List.nil_append] at h
  exact h
theorem step_hold_none {s : St} (kind : Int) (nm who : ByteArray) (hl : lookM eqKey (kind, nm) s.L = none) : holdV s kind nm who = (5, s) := by
  unfold holdV
  rw [hl]
theorem step_hold {s : St} {L : List PI} (hI : Inv s) (hA : Agree s L) (kind : Int) (nm who : ByteArray) (i : Nat) (hi : i < L.length) (hk : L[i].kind = kind) (hn : L[i].name = nm) (hl : lookM eqKey (kind, nm) s.L = some L[i]) :
    Step s L (0, (holdV s kind nm who).1) (holdV s kind nm who).2 (0, (rholdV L s.n i L[i] who).1) (rholdV L s.n i L[i] who).2.1 (rholdV L s.n i L[i] who).2.2 := by
  have hm := lmem hl
  unfold holdV rholdV
  rw [hl]
  dsimp only
  by_cases k1 : who.size = 0 ∨ who.size > 16
  · rw [if_pos k1, if_pos (show who.size < 1 ∨ who.size > 16 by omega)]
    exact Step.same hI hA _
  rw [if_neg k1, if_neg (show ¬ (who.size < 1 ∨ who.size > 16) by omega)]
  by_cases k3 : L[i].going = true
  · rw [if_pos k3, if_pos k3]
    exact Step.same hI hA _
  rw [if_neg k3, if_neg k3]
  by_cases k4 : hasS who L[i].H = true
  · rw [if_pos k4, if_pos k4]
    exact Step.same hI hA _
  rw [if_neg k4, if_neg k4]
  by_cases k5 : L[i].H.length ≥ 4
  · rw [if_pos k5, if_pos k5]
    exact Step.same hI hA _
  rw [if_neg k5, if_neg k5, insR_eq]
  exact ⟨rfl, hI.put { L[i] with ver := s.n + 1, H := insS who L[i].H } ⟨by show (insS who L[i].H).length ≤ 1000; rw [insS_len]; omega, (hI.fits _ hm).2⟩ (insS_srt _ _ (hI.srt _ hm).1 (fun hc => k4 ((hasS_iff _ _).2 hc))) rfl, hA.put hi { L[i] with ver := s.n + 1, H := insS who L[i].H } rfl rfl, rfl, by show s.n + 1 ≤ s.n + 1; omega, by rw [List.length_set]; omega⟩
theorem remR_none (who : ByteArray) (H : List ByteArray) (h : who ∉ H) : remR who H = H := by
  unfold remR
  rw [List.filter_eq_self]
  intro x hx
  have : x ≠ who := fun e => h (e ▸ hx)
  simp [this]
theorem remR_eq (who : ByteArray) : ∀ H : List ByteArray, Srt H → remR who H = remS who H
  | [], _ => rfl
  | x :: r, h => by
    have h2 := List.pairwise_cons.1 h
    unfold remS
    by_cases hc : x = who
    · subst hc
      rw [if_pos rfl]
      unfold remR
      rw [List.filter_cons_of_neg (by simp)]
      exact remR_none x r (fun hm => tlt_irrefl x (h2.1 x hm))
    · rw [if_neg hc]
      unfold remR
      rw [List.filter_cons_of_pos (by simpa using hc)]
      congr 1
      exact remR_eq who r h2.2
theorem step_release_none {s : St} (kind : Int) (nm who : ByteArray) (hl : lookM eqKey (kind, nm) s.L = none) : releaseV s kind nm who = (5, s) := by
  unfold releaseV
  rw [hl]
theorem step_release {s : St} {L : List PI} (hI : Inv s) (hA : Agree s L) (kind : Int) (nm who : ByteArray) (i : Nat) (hi : i < L.length) (hk : L[i].kind = kind) (hn : L[i].name = nm) (hl : lookM eqKey (kind, nm) s.L = some L[i]) :
    Step s L (0, (releaseV s kind nm who).1) (releaseV s kind nm who).2 (0, (rreleaseV L s.n i L[i] who).1) (rreleaseV L s.n i L[i] who).2.1 (rreleaseV L s.n i L[i] who).2.2 := by
  have hm := lmem hl
  have hS := (hI.srt _ hm).1
  unfold releaseV rreleaseV
  rw [hl]
  dsimp only
  by_cases k4 : hasS who L[i].H = true
  · have hw := (hasS_iff _ _).1 k4
    have h1 := remS_len who L[i].H hw
    rw [if_neg (show ¬ hasS who L[i].H = false by rw [k4]; decide), remR_eq who _ hS, if_neg (show ¬ (remS who L[i].H).length = L[i].H.length by omega)]
    by_cases k5 : L[i].going = true ∧ (remS who L[i].H).length = 0
    · rw [if_pos k5, if_pos k5]
      exact ⟨rfl, hI.del _, hA.del hi _, rfl, by show s.n + 1 ≤ s.n + 1; omega, by rw [List.length_eraseIdx]; split <;> omega⟩
    rw [if_neg k5, if_neg k5]
    exact ⟨rfl, hI.put { L[i] with ver := s.n + 1, H := remS who L[i].H } ⟨Nat.le_trans (remS_sub who L[i].H).length_le (hI.fits _ hm).1, (hI.fits _ hm).2⟩ (remS_srt _ hS) rfl, hA.put hi { L[i] with ver := s.n + 1, H := remS who L[i].H } rfl rfl, rfl, by show s.n + 1 ≤ s.n + 1; omega, by rw [List.length_set]; omega⟩
  · have k4' : hasS who L[i].H = false := by cases hc : hasS who L[i].H with | true => exact absurd hc k4 | false => rfl
    have hw : who ∉ L[i].H := fun e => k4 ((hasS_iff _ _).2 e)
    rw [if_pos k4', remR_none who _ hw, if_pos rfl]
    exact Step.same hI hA _
/-- A clone. -/
theorem Inv.perm {s : St} (h : Inv s) {M : List (Key × PI)} (hp : M.Perm s.L) : Inv ⟨M, s.n⟩ :=
  ⟨h.n0, fun q hq => h.fits q (hp.mem_iff.1 hq), fun q hq => h.srt q (hp.mem_iff.1 hq), fun q hq => h.keyed q (hp.mem_iff.1 hq), fun q hq => h.ver q (hp.mem_iff.1 hq)⟩
theorem Agree.permed {s : St} {L : List PI} (h : Agree s L) {M : List (Key × PI)} (hp : M.Perm s.L) : Agree ⟨M, s.n⟩ L :=
  ⟨(hp.map Prod.fst).nodup_iff.2 h.keys, fun q hq => h.keyed q (hp.mem_iff.1 hq), (hp.map Prod.snd).trans h.perm⟩
theorem Agree.s0 : Agree PAll.s0 [] := ⟨List.nodup_nil, fun q hq => (by cases hq), List.Perm.refl _⟩
end Go.Proofs.Ytmankbhlgjgnbaa.PAll
