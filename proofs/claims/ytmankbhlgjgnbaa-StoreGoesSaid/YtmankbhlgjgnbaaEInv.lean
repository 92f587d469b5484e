import Derived.Test.YtmankbhlgjgnbaaELive
namespace Go.Proofs.Ytmankbhlgjgnbaa.PAll
open Go.RowKit Go.Proofs.YtmankbhlgjgnbaaW.PrintWords Go.Proofs.YtmankbhlgjgnbaaW.PrintLast Go.Proofs.YtmankbhlgjgnbaaW.PrintMore Mem
set_option linter.unusedVariables false
set_option linter.unusedSimpArgs false
/-! What stays true of a store. -/
structure Inv (s : St) : Prop where
  n0 : 0 ≤ s.n
  fits : StFits s
  srt : StSrt s
  keyed : ∀ q ∈ s.L, q.1 = (q.2.kind, q.2.name)
  ver : ∀ q ∈ s.L, q.2.ver ≤ s.n
theorem Inv.s0 : Inv PAll.s0 := ⟨by decide, fits0 _ rfl, srt0 _ rfl, (fun q hq => by cases hq), (fun q hq => by cases hq)⟩
theorem pmem {k : Key} {x : PI} : ∀ {L : List (Key × PI)} {q : Key × PI}, q ∈ putM eqKey k x L → q = (k, x) ∨ q ∈ L
  | [], q, h => by unfold putM at h; simp at h; exact .inl h
  | r :: L, q, h => by
    unfold putM at h
    split at h
    · rcases List.mem_cons.1 h with rfl | h
      · exact .inl rfl
      · exact .inr (by simp [h])
    · rcases List.mem_cons.1 h with rfl | h
      · exact .inr (by simp)
      · rcases pmem h with h | h
        · exact .inl h
        · exact .inr (by simp [h])
theorem plook (k : Key) (x : PI) : ∀ L : List (Key × PI), lookM eqKey k (putM eqKey k x L) = some x
  | [] => by unfold putM lookM; rw [if_pos (eqKey_self k)]
  | r :: L => by
    unfold putM
    split
    · unfold lookM; rw [if_pos (eqKey_self k)]
    · rename_i h
      unfold lookM
      rw [if_neg h]
      exact plook k x L
theorem lmem {k : Key} {x : PI} : ∀ {L : List (Key × PI)}, lookM eqKey k L = some x → (k, x) ∈ L
  | r :: L, h => by
    unfold lookM at h
    split at h
    · rename_i hk
      obtain rfl := eqKey_eq hk
      obtain rfl := Option.some.inj h
      simp
    · exact List.mem_cons_of_mem _ (lmem h)
theorem dmem {k : Key} : ∀ {L : List (Key × PI)} {q : Key × PI}, q ∈ delM eqKey k L → q ∈ L
  | [], q, h => by unfold delM at h; simp at h
  | r :: L, q, h => by
    unfold delM at h
    split at h
    · simp [h]
    · rcases List.mem_cons.1 h with rfl | h
      · simp
      · simp [dmem h]
theorem get_some {s : St} {k : Key} {x : PI} (h : getV s k = (x, 0)) : lookM eqKey k s.L = some x := by
  unfold getV at h
  split at h
  · rename_i y hy
    rw [hy, (Prod.mk.inj h).1]
  · exact absurd (Prod.mk.inj h).2 (by decide)
theorem get_of {s : St} {k : Key} {x : PI} (h : lookM eqKey k s.L = some x) : getV s k = (x, 0) := by
  unfold getV
  rw [h]
theorem get_cases (s : St) (k : Key) : getV s k = (noPI, 5) ∨ ∃ x, getV s k = (x, 0) := by
  unfold getV
  split
  · exact .inr ⟨_, rfl⟩
  · exact .inl rfl
theorem Inv.put {s : St} (h : Inv s) (y : PI) (hf : FitsP y) (hs : Srt y.H) (hv : y.ver = s.n + 1) : Inv ⟨putM eqKey (y.kind, y.name) y s.L, s.n + 1⟩ := by
  have := h.n0
  refine ⟨by show 0 ≤ s.n + 1; omega, fun q hq => ?_, fun q hq => ?_, fun q hq => ?_, fun q hq => ?_⟩
  · rcases pmem hq with rfl | hq
    · exact hf
    · exact h.fits q hq
  · rcases pmem hq with rfl | hq
    · exact ⟨hs, hf.1⟩
    · exact h.srt q hq
  · rcases pmem hq with rfl | hq
    · rfl
    · exact h.keyed q hq
  · rcases pmem hq with rfl | hq
    · exact Int.le_of_eq hv
    · have := h.ver q hq
      show q.2.ver ≤ s.n + 1
      omega
theorem Inv.del {s : St} (h : Inv s) (k : Key) : Inv ⟨delM eqKey k s.L, s.n + 1⟩ := by
  have := h.n0
  refine ⟨by show 0 ≤ s.n + 1; omega, fun q hq => h.fits q (dmem hq), fun q hq => h.srt q (dmem hq), fun q hq => h.keyed q (dmem hq), fun q hq => ?_⟩
  have := h.ver q (dmem hq)
  show q.2.ver ≤ s.n + 1
  omega
theorem create_cases {s : St} (h : Inv s) (k : Int) (nm : ByteArray) (B : List Int) :
    (∃ f, f ≠ 0 ∧ createV s k nm B = ((0, f), s)) ∨ ∃ s', createV s k nm B = ((s.n + 1, 0), s') ∧ Inv s' ∧ s'.n = s.n + 1 ∧ ∃ y, getV s' (k, nm) = (y, 0) ∧ y.ver = s.n + 1 ∧ y.B = B := by
  unfold createV
  split
  · exact .inl ⟨_, by decide, rfl⟩
  · split
    · exact .inl ⟨_, by decide, rfl⟩
    · split
      · exact .inl ⟨_, by decide, rfl⟩
      · split
        · exact .inl ⟨_, by decide, rfl⟩
        · rename_i hB _ _
          exact .inr ⟨_, rfl, h.put ⟨k, nm, s.n + 1, [], B, false⟩ ⟨Nat.zero_le _, by show B.length ≤ 100000; omega⟩ List.Pairwise.nil rfl, rfl, _, get_of (plook _ _ _), rfl, rfl⟩
theorem update_cases {s : St} (h : Inv s) (k : Int) (nm : ByteArray) (B : List Int) (x : PI) (hx : getV s (k, nm) = (x, 0)) :
    (∃ f, f ≠ 0 ∧ updateV s k nm x.ver B = ((0, f), s)) ∨ ∃ s', updateV s k nm x.ver B = ((s.n + 1, 0), s') ∧ Inv s' ∧ s'.n = s.n + 1 ∧ updateV s' k nm x.ver [] = ((0, 100), s') ∧ ∃ y, getV s' (k, nm) = (y, 0) ∧ y.ver = s.n + 1 ∧ y.B = B := by
  have hl := get_some hx
  have hm := lmem hl
  have hk : (k, nm) = (x.kind, x.name) := h.keyed _ hm
  have hv : x.ver ≤ s.n := h.ver _ hm
  have hf : findV s (k, nm) x.ver = (x, 0) := by
    unfold findV
    rw [hl]
    exact if_pos rfl
  unfold updateV
  rw [hf]
  dsimp only
  rw [if_neg (by decide)]
  by_cases hB : B.length > 4096
  · rw [if_pos hB]
    exact .inl ⟨_, by decide, rfl⟩
  · rw [if_neg hB]
    by_cases hg : x.going = true
    · rw [if_pos hg]
      exact .inl ⟨_, by decide, rfl⟩
    · rw [if_neg hg]
      have hp := plook (x.kind, x.name) { x with ver := s.n + 1, B := B } s.L
      refine .inr ⟨_, rfl, h.put { x with ver := s.n + 1, B := B } ⟨(h.fits _ hm).1, by show B.length ≤ 100000; omega⟩ (h.srt _ hm).1 rfl, rfl, ?_, _, get_of (by rw [hk]; exact hp), rfl, rfl⟩
      have hf2 : findV ⟨putM eqKey (x.kind, x.name) { x with ver := s.n + 1, B := B } s.L, s.n + 1⟩ (k, nm) x.ver = (noPI, 100) := by
        unfold findV
        dsimp only
        rw [hk, hp]
        exact if_neg (by show ¬ s.n + 1 = x.ver; omega)
      rw [hf2]
      rfl
end Go.Proofs.Ytmankbhlgjgnbaa.PAll
