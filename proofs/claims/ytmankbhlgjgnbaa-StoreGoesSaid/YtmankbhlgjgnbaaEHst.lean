import Derived.Test.YtmankbhlgjgnbaaESame
namespace Go.Proofs.Ytmankbhlgjgnbaa.PAll
open Go.RowKit Go.Proofs.YtmankbhlgjgnbaaW.PrintWords Go.Proofs.YtmankbhlgjgnbaaW.PrintLast Go.Proofs.YtmankbhlgjgnbaaW.PrintMore Mem
set_option linter.unusedVariables false
set_option linter.unusedSimpArgs false
/-! A store of one item, held by some; and rows that lie apart from a slice of one's own. -/
def hst (H : List ByteArray) (n : Int) (g : Bool) : St := ⟨[((1, Xn), ⟨1, Xn, n, H, [], g⟩)], n⟩
theorem hst_look (H : List ByteArray) (n : Int) (g : Bool) : lookM eqKey (1, Xn) (hst H n g).L = some ⟨1, Xn, n, H, [], g⟩ := by
  unfold hst
  show lookM eqKey (1, Xn) [((1, Xn), _)] = _
  unfold lookM
  rw [if_pos (eqKey_self _)]
theorem hst_put (H : List ByteArray) (n : Int) (g : Bool) (y : PI) : putM eqKey (1, Xn) y (hst H n g).L = [((1, Xn), y)] := by
  unfold hst
  show putM eqKey (1, Xn) y [((1, Xn), _)] = _
  unfold putM
  rw [if_pos (eqKey_self _)]
theorem hst_del (H : List ByteArray) (n : Int) (g : Bool) : delM eqKey (1, Xn) (hst H n g).L = [] := by
  unfold hst
  show delM eqKey (1, Xn) [((1, Xn), _)] = _
  unfold delM
  rw [if_pos (eqKey_self _)]
theorem get_hst (H : List ByteArray) (n : Int) (g : Bool) : getV (hst H n g) (1, Xn) = (⟨1, Xn, n, H, [], g⟩, 0) := get_of (hst_look H n g)
theorem get_nil (s : St) (h : s.L = []) (k : Key) : getV s k = (noPI, 5) := by
  unfold getV
  rw [h]
  rfl
theorem fits_hst {H : List ByteArray} (n : Int) (g : Bool) (h : H.length ≤ 1000) : StFits (hst H n g) := fun q hq => by
  obtain rfl := List.mem_singleton.1 hq
  exact ⟨h, Nat.zero_le _⟩
theorem srt_hst {H : List ByteArray} (n : Int) (g : Bool) (hS : Srt H) (h : H.length ≤ 1000) : StSrt (hst H n g) := fun q hq => by
  obtain rfl := List.mem_singleton.1 hq
  exact ⟨hS, h⟩
theorem hold_hst (H : List ByteArray) (n : Int) (who : ByteArray) :
    (∃ f, f ≠ 0 ∧ holdV (hst H n false) 1 Xn who = (f, hst H n false)) ∨ (who ∉ H ∧ H.length < 4 ∧ holdV (hst H n false) 1 Xn who = (0, hst (insS who H) (n + 1) false)) := by
  unfold holdV
  rw [hst_look]
  dsimp only
  split
  · exact .inl ⟨_, by decide, rfl⟩
  · rw [if_neg (by decide)]
    split
    · exact .inl ⟨_, by decide, rfl⟩
    · rename_i hh
      split
      · exact .inl ⟨_, by decide, rfl⟩
      · rename_i h4
        refine .inr ⟨fun hm => hh ((hasS_iff _ _).2 hm), by omega, ?_⟩
        rw [hst_put]
        rfl
structure HInv (hs H : List ByteArray) : Prop where
  srt : Srt H
  len : H.length = hs.length
  mem : ∀ x ∈ hs, x ∈ H
  nodup : hs.Nodup
  le : hs.length ≤ 4
theorem HInv.nil : HInv [] [] := ⟨List.Pairwise.nil, rfl, (fun x hx => by cases hx), List.nodup_nil, Nat.zero_le _⟩
theorem HInv.add {hs H : List ByteArray} (h : HInv hs H) {who : ByteArray} (hn : who ∉ H) (h4 : H.length < 4) : HInv (hs ++ [who]) (insS who H) := by
  refine ⟨insS_srt _ _ h.srt hn, by rw [insS_len, List.length_append, h.len]; rfl, fun x hx => ?_, ?_, by rw [List.length_append, ← h.len, List.length_singleton]; omega⟩
  · rcases List.mem_append.1 hx with hx | hx
    · exact (insS_mem _ _ _).2 (.inr (h.mem x hx))
    · exact (insS_mem _ _ _).2 (.inl (List.mem_singleton.1 hx))
  · rw [List.nodup_append]
    refine ⟨h.nodup, by simp, fun a ha b hb => ?_⟩
    obtain rfl := List.mem_singleton.1 hb
    intro e
    subst e
    exact hn (h.mem _ ha)
/-- What the store has while the holders let go one after the other. -/
structure LInv (hs : List ByteArray) (j : Nat) (s : St) : Prop where
  n0 : 0 ≤ s.n
  n1 : s.n ≤ 20 + j
  ex : j < hs.length → ∃ H m, s = hst H m true ∧ Srt H ∧ H.length + j = hs.length ∧ ∀ x ∈ hs.drop j, x ∈ H
  no : hs.length ≤ j → s.L = []
theorem delete_hst {hs H : List ByteArray} (h : HInv hs H) (n : Int) (hn0 : 0 ≤ n) (hn1 : n ≤ 10) : ∃ s, deleteV (hst H n false) 1 Xn n = (0, s) ∧ LInv hs 0 s := by
  have hf : findV (hst H n false) (1, Xn) n = (⟨1, Xn, n, H, [], false⟩, 0) := by
    unfold findV
    rw [hst_look]
    exact if_pos rfl
  unfold deleteV
  rw [hf]
  dsimp only
  rw [if_neg (by decide), if_neg (by decide)]
  by_cases h0 : H.length = 0
  · rw [if_pos h0, hst_del]
    refine ⟨_, rfl, by show 0 ≤ n + 1; omega, by show n + 1 ≤ 20 + ((0 : Nat) : Int); omega, fun hl => ?_, fun _ => rfl⟩
    have := h.len
    omega
  · rw [if_neg h0, hst_put]
    refine ⟨_, rfl, by show 0 ≤ n + 1; omega, by show n + 1 ≤ 20 + ((0 : Nat) : Int); omega, fun hl => ⟨H, n + 1, rfl, h.srt, h.len, fun x hx => h.mem x hx⟩, fun hl => ?_⟩
    have := h.len
    omega
theorem release_hst {hs : List ByteArray} {j : Nat} {s : St} (h : LInv hs j s) (hnd : hs.Nodup) (h4 : hs.length ≤ 4) (hj : j < hs.length) : (∃ y : PI, getV s (1, Xn) = (y, 0)) ∧ StFits s ∧ StSrt s ∧ ∃ s', releaseV s 1 Xn hs[j] = (0, s') ∧ LInv hs (j + 1) s' := by
  obtain ⟨H, m, rfl, hS, hl, hm⟩ := h.ex hj
  have h0 : 0 ≤ m := h.n0
  have h1 : m ≤ 20 + (j : Int) := h.n1
  have hd : hs.drop j = hs[j] :: hs.drop (j + 1) := List.drop_eq_getElem_cons hj
  have hw : hs[j] ∈ H := hm _ (by rw [hd]; exact List.mem_cons.2 (.inl rfl))
  have hlen := remS_len hs[j] H hw
  refine ⟨⟨_, get_hst H m true⟩, fits_hst m true (by omega), srt_hst m true hS (by omega), ?_⟩
  unfold releaseV
  rw [hst_look]
  dsimp only
  rw [if_neg (by rw [(hasS_iff _ _).2 hw]; decide)]
  by_cases hz : (remS hs[j] H).length = 0
  · rw [if_pos ⟨rfl, hz⟩, hst_del]
    refine ⟨_, rfl, by show 0 ≤ m + 1; omega, by show m + 1 ≤ 20 + ((j + 1 : Nat) : Int); omega, fun hl2 => ?_, fun _ => rfl⟩
    omega
  · rw [if_neg (fun e => hz e.2), hst_put]
    refine ⟨_, rfl, by show 0 ≤ m + 1; omega, by show m + 1 ≤ 20 + ((j + 1 : Nat) : Int); omega, fun hl2 => ⟨remS hs[j] H, m + 1, rfl, remS_srt _ hS, by omega, fun x hx => ?_⟩, fun hl2 => ?_⟩
    · refine remS_mem _ _ _ (fun e => ?_) (hm x (by rw [hd]; exact List.mem_cons_of_mem _ hx))
      subst e
      have hnd2 : (hs.drop j).Nodup := hnd.sublist (List.drop_sublist _ _)
      rw [hd, List.nodup_cons] at hnd2
      exact hnd2.1 hx
    · omega
theorem C_grown {α : Type} {enc : α → Value} {h1 : ∀ x, (enc x).oneCell' = true} {w w' : World} {row : Option Nat} {A : Option Addr} {xs : List α} (h : (Kd.scalar enc h1).C w A xs.length xs) (hr : xs ≠ [] → ∀ ad, A = some ad → some ad.block ≠ row) (hg : w.grownBy w' row) : (Kd.scalar enc h1).C w' A xs.length xs :=
  ⟨h.1, h.2.1, fun hn => by
    obtain ⟨ad, e, hc⟩ := h.2.2 hn
    have hne : xs ≠ [] := fun e => by rw [e] at hn; exact absurd hn (Nat.lt_irrefl 0)
    refine ⟨ad, e, fun j q hj => ?_⟩
    obtain ⟨c, hcl, hk, hcell⟩ := hc j q hj
    refine ⟨c, hcl, hk, fun i u hu => ?_⟩
    have hu2 := hcell i u hu
    refine (World.cell?_of_block (hg.block _ (World.block_lt_of_cell? w _ hu2) ?_)).trans hu2
    rw [add_block]
    exact hr hne ad e⟩
theorem C_lt {α : Type} {enc : α → Value} {h1 : ∀ x, (enc x).oneCell' = true} {w : World} {A : Option Addr} {xs : List α} (h : (Kd.scalar enc h1).C w A xs.length xs) (hne : xs ≠ []) (ad : Addr) (hA : A = some ad) : ad.block < w.heap.size := by
  obtain ⟨x, r, rfl⟩ := List.exists_cons_of_ne_nil hne
  obtain ⟨ad', e, hc⟩ := h.2.2 (Nat.succ_pos _)
  have : ad' = ad := Option.some.inj (e.symm.trans hA)
  subst this
  obtain ⟨c, hcl, hk, hcell⟩ := hc 0 x rfl
  have hk' : c = [enc x] := hk
  have := World.block_lt_of_cell? w _ (hcell 0 (enc x) (by rw [hk']; rfl))
  rw [add_block] at this
  exact this
theorem StoreB.grownBy {w w' : World} {p b : Nat} {Lc : List (Key × CI)} {n : Int} {row : Option Nat} (h : StoreB w p b Lc n) (hr : RowsIn Lc (fun k => some k ≠ row)) (hp : some p ≠ row) (hb : some b ≠ row) (hg : w.grownBy w' row) : StoreB w' p b Lc n :=
  ⟨(hg.block p h.blk.lt hp).trans h.blk, h.map.kept (fun i hi e => hg.block i hi (by rw [e]; exact hb)), fun q hq => ⟨C_grown (h.rows q hq).hr (hr q hq).1 hg, (h.rows q hq).hc, C_grown (h.rows q hq).br (hr q hq).2 hg, (h.rows q hq).bc⟩⟩
theorem RowsIn.lt {w : World} {p b : Nat} {Lc : List (Key × CI)} {n : Int} (h : StoreB w p b Lc n) {Q Q' : Nat → Prop} (hr : RowsIn Lc Q) (hQ : ∀ k, k < w.heap.size → Q k → Q' k) : RowsIn Lc Q' :=
  fun q hq => ⟨fun hne ad e => hQ _ (C_lt (h.rows q hq).hr hne ad e) ((hr q hq).1 hne ad e), fun hne ad e => hQ _ (C_lt (h.rows q hq).br hne ad e) ((hr q hq).2 hne ad e)⟩
end Go.Proofs.Ytmankbhlgjgnbaa.PAll
