import Derived.Test.YtmankbhlgjgnbaaPAllx2
import Derived.Test.YtmankbhlgjgnbaaPAllx90
namespace Go.Proofs.Ytmankbhlgjgnbaa.PAll
open Go.RowKit Go.Proofs.YtmankbhlgjgnbaaW.PrintWords Go.Proofs.YtmankbhlgjgnbaaW.PrintLast Go.Proofs.YtmankbhlgjgnbaaW.PrintMore Mem
set_option linter.unusedVariables false
set_option linter.unusedSimpArgs false
theorem same_loop (H : List ByteArray) (hH : H.length ≤ 1000) (a c : Int) (b : ByteArray) (B : List Int) (g : Bool) : ∀ d i : Nat, i + d = H.length → sutlerref10_Same.l0 (d + 1) (H.length : Int) (i : Int) a b c H B g a b c H B g = some true
  | 0, i, h => by
    unfold sutlerref10_Same.l0
    rw [if_neg (by omega)]
  | d + 1, i, h => by
    unfold sutlerref10_Same.l0
    rw [if_pos (by omega), if_pos (by omega), if_pos (by omega), if_pos (by omega), if_pos rfl, w_succ (by omega)]
    exact same_loop H hH a c b B g d (i + 1) (by omega)
theorem same_refl (H : List ByteArray) (hH : H.length ≤ 1000) (a c : Int) (b : ByteArray) (B : List Int) (g : Bool) : sutlerref10_Same.f (H.length + 2) a b c H B g a b c H B g = some true := by
  unfold sutlerref10_Same.f
  rw [if_pos rfl, if_pos rfl, if_pos rfl, if_neg (by simp), if_pos rfl]
  rw [show sutlerref10_Same.j0 (H.length + 2) ((H.length : Int) != (H.length : Int)) a b c H B g a b c H B g = if ((H.length : Int) != (H.length : Int)) = true then some false else sutlerref10_Same.l0 (H.length + 1) (H.length : Int) 0 a b c H B g a b c H B g from by rw [sutlerref10_Same.j0], if_neg (by simp)]
  exact same_loop H hH a c b B g H.length 0 (by omega)
theorem Same.to {w : World} {z z' : CI} (h : RowOK w z) (h' : RowOK w z') (he : z.pure = z'.pure) (hl : z.H.length ≤ 1000) :
    Calls Try.prog 16 #[itemV z, itemV z'] w fun e w' => e = .returned (.bool true) ∧ Below w.heap.size w w' := by
  obtain ⟨k, nm, v, ha, hc, H, ba, bc, B, g⟩ := z
  obtain ⟨k', nm', v', ha', hc', H', ba', bc', B', g'⟩ := z'
  have e0 : k = k' := congrArg PI.kind he
  have e1 : nm = nm' := congrArg PI.name he
  have e2 : v = v' := congrArg PI.ver he
  have e3 : H = H' := congrArg PI.H he
  have e4 : B = B' := congrArg PI.B he
  have e5 : g = g' := congrArg PI.going he
  subst e0 e1 e2 e3 e4 e5
  exact sutlerref10_Same.calls _ k nm v ha hc H ba bc B g k nm v ha' hc' H ba' bc' B g true w h.hr h.hc h.br h.bc h'.hr h'.hc h'.br h'.bc (same_refl H hl k v nm B g)
theorem RowOK.chgE {w w' : World} {p b : Nat} {s : St} {x : CI} (hx : RowOK w x) (h : StoreE w p b s) (hc : Chg w w' p b) : RowOK w' x := let ⟨_, h1, _⟩ := h; hx.chg h1 hc
theorem get_fits {s : St} (h : Inv s) {k : Key} {y : PI} {e : Int} (hg : getV s k = (y, e)) : y.H.length ≤ 1000 := by
  unfold getV at hg
  split at hg
  · rename_i x hl
    rw [← (Prod.mk.inj hg).1]
    exact (h.fits _ (lmem hl)).1
  · rw [← (Prod.mk.inj hg).1]
    exact Nat.zero_le _
theorem update_any {s : St} (h : Inv s) (k : Int) (nm : ByteArray) (v : Int) (B : List Int) :
    (∃ f, f ≠ 0 ∧ updateV s k nm v B = ((0, f), s)) ∨ ∃ s', updateV s k nm v B = ((s.n + 1, 0), s') ∧ Inv s' ∧ s'.n = s.n + 1 := by
  by_cases hx : ∃ x, getV s (k, nm) = (x, 0) ∧ x.ver = v
  · obtain ⟨x, hx, rfl⟩ := hx
    rcases update_cases h k nm B x hx with hf | ⟨s', h1, h2, h3, _⟩
    · exact .inl hf
    · exact .inr ⟨s', h1, h2, h3⟩
  · have hf : findV s (k, nm) v = (noPI, 5) ∨ findV s (k, nm) v = (noPI, 100) := by
      unfold findV
      split
      · rename_i x hl
        exact .inr (if_neg (fun e => hx ⟨x, get_of hl, e⟩))
      · exact .inl rfl
    refine .inl ?_
    unfold updateV
    rcases hf with hf | hf <;> rw [hf] <;> exact ⟨_, by decide, rfl⟩
theorem find_cases {s : St} (h : Inv s) (k : Key) (v : Int) : (∃ e, e ≠ 0 ∧ findV s k v = (noPI, e)) ∨ ∃ x, findV s k v = (x, 0) ∧ (k, x) ∈ s.L := by
  unfold findV
  split
  · rename_i x hl
    by_cases hv : x.ver = v
    · rw [if_pos hv]
      exact .inr ⟨x, rfl, lmem hl⟩
    · rw [if_neg hv]
      exact .inl ⟨_, by decide, rfl⟩
  · exact .inl ⟨_, by decide, rfl⟩
theorem delete_cases {s : St} (h : Inv s) (k : Int) (nm : ByteArray) (v : Int) :
    (∃ f, f ≠ 0 ∧ deleteV s k nm v = (f, s)) ∨ ∃ s', deleteV s k nm v = (0, s') ∧ Inv s' ∧ s'.n = s.n + 1 := by
  unfold deleteV
  rcases find_cases h (k, nm) v with ⟨e, he, hf⟩ | ⟨x, hf, hm⟩ <;> rw [hf] <;> dsimp only
  · rw [if_pos he]
    exact .inl ⟨e, he, rfl⟩
  · rw [if_neg (by decide)]
    split
    · exact .inl ⟨_, by decide, rfl⟩
    · split
      · exact .inr ⟨_, rfl, h.del _, rfl⟩
      · exact .inr ⟨_, rfl, h.put { x with ver := s.n + 1, going := true } (h.fits _ hm) (h.srt _ hm).1 rfl, rfl⟩
theorem hold_cases {s : St} (h : Inv s) (k : Int) (nm who : ByteArray) :
    (∃ f, f ≠ 0 ∧ holdV s k nm who = (f, s)) ∨ ∃ s', holdV s k nm who = (0, s') ∧ Inv s' ∧ s'.n = s.n + 1 := by
  unfold holdV
  split
  · exact .inl ⟨_, by decide, rfl⟩
  · rename_i x hl
    have hm := lmem hl
    split
    · exact .inl ⟨_, by decide, rfl⟩
    · split
      · exact .inl ⟨_, by decide, rfl⟩
      · split
        · exact .inl ⟨_, by decide, rfl⟩
        · rename_i hh
          split
          · exact .inl ⟨_, by decide, rfl⟩
          · rename_i h4
            refine .inr ⟨_, rfl, h.put { x with ver := s.n + 1, H := insS who x.H } ⟨?_, (h.fits _ hm).2⟩ (insS_srt _ _ (h.srt _ hm).1 (fun hc => hh ((hasS_iff _ _).2 hc))) rfl, rfl⟩
            show (insS who x.H).length ≤ 1000
            rw [insS_len]
            omega
theorem release_cases {s : St} (h : Inv s) (k : Int) (nm who : ByteArray) :
    (∃ f, f ≠ 0 ∧ releaseV s k nm who = (f, s)) ∨ ∃ s', releaseV s k nm who = (0, s') ∧ Inv s' ∧ s'.n = s.n + 1 := by
  unfold releaseV
  split
  · exact .inl ⟨_, by decide, rfl⟩
  · rename_i x hl
    have hm := lmem hl
    split
    · exact .inl ⟨_, by decide, rfl⟩
    · split
      · exact .inr ⟨_, rfl, h.del _, rfl⟩
      · refine .inr ⟨_, rfl, h.put { x with ver := s.n + 1, H := remS who x.H } ⟨?_, (h.fits _ hm).2⟩ (remS_srt _ (h.srt _ hm).1) rfl, rfl⟩
        exact Nat.le_trans (remS_sub who x.H).length_le (h.fits _ hm).1
end Go.Proofs.Ytmankbhlgjgnbaa.PAll
