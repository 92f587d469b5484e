import Derived.Test.YtmankbhlgjgnbaaEPure
/-! The store and the reference's, side by side in memory. -/
namespace Go.Proofs.Ytmankbhlgjgnbaa.PAll
open Go.RowKit Go.Proofs.YtmankbhlgjgnbaaW.PrintWords Go.Proofs.YtmankbhlgjgnbaaW.PrintLast Go.Proofs.YtmankbhlgjgnbaaW.PrintMore Mem
set_option linter.unusedVariables false
set_option linter.unusedSimpArgs false
theorem C_keptS {α : Type} {enc : α → Value} {h1 : ∀ x, (enc x).oneCell' = true} {w w' : World} {S : Nat → Prop} {A : Option Addr} {xs : List α} (h : (Kd.scalar enc h1).C w A xs.length xs) (hk : Kept w w' S) (hr : xs ≠ [] → ∀ ad, A = some ad → ¬ S ad.block) : (Kd.scalar enc h1).C w' A xs.length xs :=
  ⟨h.1, h.2.1, fun hn => by
    obtain ⟨ad, e, hc⟩ := h.2.2 hn
    have hne : xs ≠ [] := fun e => by rw [e] at hn; exact absurd hn (Nat.lt_irrefl 0)
    refine ⟨ad, e, fun j q hj => ?_⟩
    obtain ⟨c, hcl, hk2, hcell⟩ := hc j q hj
    refine ⟨c, hcl, hk2, fun i u hu => ?_⟩
    have hu2 := hcell i u hu
    refine (World.cell?_of_block (hk.2 _ (World.block_lt_of_cell? w _ hu2) ?_)).trans hu2
    rw [add_block]
    exact hr hne ad e⟩
theorem StoreB.kept {w w' : World} {p b : Nat} {Lc : List (Key × CI)} {n : Int} {S : Nat → Prop} (h : StoreB w p b Lc n) (hr : RowsIn Lc (fun k => ¬ S k)) (hp : ¬ S p) (hb : ¬ S b) (hk : Kept w w' S) : StoreB w' p b Lc n :=
  ⟨(hk.2 p h.blk.lt hp).trans h.blk, h.map.kept (fun i hi e => hk.2 i hi (by rw [e]; exact hb)), fun q hq => ⟨C_keptS (h.rows q hq).hr hk (hr q hq).1, (h.rows q hq).hc, C_keptS (h.rows q hq).br hk (hr q hq).2, (h.rows q hq).bc⟩⟩
theorem Chg.keep {w w' : World} {p b : Nat} (h : Chg w w' p b) : Keep w w' (fun k => k = p ∨ k = b) := ⟨h.size, fun i hi hn => h.block i hi (fun e => hn (.inl e)) (fun e => hn (.inr e)), h.os, h.tape, h.output⟩
theorem ref_apart {w : World} {p b : Nat} {Lc : List (Key × CI)} {n m : Int} {q : Nat} {A : Option Addr} {c : Nat} {Lr : List CI} {ok : Nat → Prop} (hS : StoreB w p b Lc n) (hR : RefB w q A c m Lr ok) : ¬ RefS q A p ∧ ¬ RefS q A b ∧ q ≠ p ∧ q ≠ b := by
  have hp := hS.blk
  have hq := hR.blk
  unfold Blk at hp hq
  obtain ⟨es, clock, hb, _⟩ := hS.map
  have hA : ∀ ad, A = some ad → ∃ cells, w.heap[ad.block]? = some (.cells cells 31 (0, 0)) := fun ad e => Kd.R_typed hR.row ad.block (by rw [e]; simp [Value.ownBlock])
  refine ⟨?_, ?_, ?_, ?_⟩
  · rintro (e | ⟨ad, e, e2⟩)
    · rw [e, hq] at hp; cases hp
    · obtain ⟨cells, hc⟩ := hA ad e
      rw [e2, hc] at hp; cases hp
  · rintro (e | ⟨ad, e, e2⟩)
    · rw [e, hq] at hb; cases hb
    · obtain ⟨cells, hc⟩ := hA ad e
      rw [e2, hc] at hb; cases hb
  · intro e
    rw [e, hp] at hq; cases hq
  · intro e
    rw [e, hb] at hq; cases hq
theorem noRef_store {w : World} {p b : Nat} {Lc : List (Key × CI)} {n : Int} (hS : StoreB w p b Lc n) : NoRef w p ∧ NoRef w b := by
  have hp := hS.blk
  unfold Blk at hp
  obtain ⟨es, clock, hb, _⟩ := hS.map
  refine ⟨⟨Blk.noRow hS.blk (by decide) (by decide), fun cells e => by rw [hp] at e; cases e⟩, ⟨fun cells => ⟨fun e => (by rw [hb] at e; cases e), fun e => (by rw [hb] at e; cases e)⟩, fun cells e => (by rw [hb] at e; cases e)⟩⟩
/-- The store at p and the reference's at q agree; no row of theirs lies in A1's block. -/
structure Lk (w W : World) (p b q : Nat) (A1 : Option Addr) (s : St) (Lc : List (Key × CI)) (A : Option Addr) (c : Nat) (Lr : List CI) : Prop where
  bs : StoreB W p b Lc s.n
  ls : erase Lc = s.L
  inv : Inv s
  ref : RefB W q A c s.n Lr (fun k => w.heap.size ≤ k ∧ ∀ ad, A1 = some ad → k ≠ ad.block)
  agree : Agree s (Lr.map CI.pure)
  ri : RowsIn Lc (fun k => ¬ RefS q A k ∧ ∀ ad, A1 = some ad → k ≠ ad.block)
  bl : Below w.heap.size w W
  hp : w.heap.size ≤ p
  hb : w.heap.size ≤ b
  hq : w.heap.size ≤ q
  lt : ∀ ad, A1 = some ad → ad.block < W.heap.size
section
variable {w W W1 W2 : World} {p b q : Nat} {A1 : Option Addr} {s s' : St} {Lc : List (Key × CI)} {A : Option Addr} {c : Nat} {Lr : List CI}
theorem Lk.below (h : Lk w W p b q A1 s Lc A c Lr) (hb : Below W.heap.size W W1) : Lk w W1 p b q A1 s Lc A c Lr :=
  ⟨h.bs.below hb, h.ls, h.inv, h.ref.below hb, h.agree, h.ri, below_then h.bl h.bl.size hb, h.hp, h.hb, h.hq, fun ad e => Nat.lt_of_lt_of_le (h.lt ad e) hb.size⟩
theorem Lk.fits (h : Lk w W p b q A1 s Lc A c Lr) : ∀ x ∈ Lr, Fits x := fun x hx => h.inv.fits _ (h.agree.mem.1 (List.mem_map_of_mem hx))
theorem Lk.refS (h : Lk w W p b q A1 s Lc A c Lr) : ∀ k, RefS q A k → w.heap.size ≤ k := by
  rintro k (rfl | ⟨ad, e, rfl⟩)
  · exact h.hq
  · exact (h.ref.row.1 ad.block (by rw [e]; simp [Value.ownBlock])).1
theorem Lk.refLt (h : Lk w W p b q A1 s Lc A c Lr) : ∀ k, RefS q A k → k < W.heap.size := by
  rintro k (rfl | ⟨ad, e, rfl⟩)
  · exact h.ref.blk.lt
  · obtain ⟨cells, hc⟩ := Kd.R_typed h.ref.row ad.block (by rw [e]; simp [Value.ownBlock])
    exact (Array.getElem?_eq_some_iff.1 hc).1
/-- Bytes that came in lie apart. -/
theorem Lk.came (h : Lk w W p b q A1 s Lc A c Lr) {bA : Option Addr} {B : List Int} (hB : (Kd.int .u8).C w bA B.length B) : B ≠ [] → ∀ ad, bA = some ad → ¬ RefS q A ad.block := fun hne ad e hr => by
  have h1 := C_lt hB hne ad e
  have h2 := h.refS _ hr
  omega
theorem Lk.fresh (h : Lk w W p b q A1 s Lc A c Lr) (hle : W.heap.size ≤ W1.heap.size) : ∀ k, W1.heap.size ≤ k → (w.heap.size ≤ k ∧ ∀ ad, A1 = some ad → k ≠ ad.block) := fun k hk =>
  ⟨Nat.le_trans (Nat.le_trans h.bl.size hle) hk, fun ad e e2 => by have := h.lt ad e; omega⟩
/-- The reference's behind a call of the store's. -/
theorem Lk.refChg (h : Lk w W p b q A1 s Lc A c Lr) (hc : Chg W W1 p b) : RefB W1 q A c s.n Lr (fun k => w.heap.size ≤ k ∧ ∀ ad, A1 = some ad → k ≠ ad.block) := by
  have ha := ref_apart h.bs h.ref
  have hn := noRef_store h.bs
  exact h.ref.kept hc.keep.kept (fun e => e.elim ha.2.2.1 ha.2.2.2) (fun k e _ => by
    rcases e with rfl | rfl
    · exact hn.1
    · exact hn.2)
/-- What a step leaves, but for the answer. -/
structure Fin (s : St) (L : List PI) (s' : St) (L' : List PI) (n' : Int) : Prop where
  inv : Inv s'
  agree : Agree s' L'
  num : n' = s'.n
  le : s'.n ≤ s.n + 1
  len : L'.length ≤ L.length + 1
theorem Step.fin {L L' : List PI} {n' : Int} {a b2 : Int × Int} (h : Step s L a s' b2 L' n') : Fin s L s' L' n' := ⟨h.inv, h.agree, h.num, h.le, h.len⟩
theorem Fin.same {L : List PI} (hI : Inv s) (hA : Agree s L) : Fin s L s L s.n := ⟨hI, hA, rfl, by omega, by omega⟩
/-- Behind both calls. -/
theorem Lk.step (h : Lk w W p b q A1 s Lc A c Lr) (hx : StoreX W W1 p b Lc s') (hc : Chg W W1 p b) {L' : List PI} {n' : Int} (hr : RefTo W1 W2 q A (fun k => w.heap.size ≤ k ∧ ∀ ad, A1 = some ad → k ≠ ad.block) L' n') (hf : Fin s (Lr.map CI.pure) s' L' n') :
    ∃ Lc' A' c' Lr', Lk w W2 p b q A1 s' Lc' A' c' Lr' ∧ Lr'.length ≤ Lr.length + 1 ∧ s'.n ≤ s.n + 1 ∧ Keep W W2 (fun k => k = p ∨ k = b ∨ RefS q A k) := by
  obtain ⟨Lc', hB', hL', hQ⟩ := hx
  obtain ⟨A', c', Lr', hR', hLr, hK, hA'⟩ := hr
  have hnum := hf.num
  subst hnum
  have hR1 := h.refChg hc
  have ha := ref_apart hB' hR1
  have hri1 : RowsIn Lc' (fun k => ¬ RefS q A k ∧ ∀ ad, A1 = some ad → k ≠ ad.block) := hQ _ h.ri (fun k hk => ⟨fun hr => by have := h.refLt k hr; omega, fun ad e e2 => by have := h.lt ad e; omega⟩)
  have hB2 : StoreB W2 p b Lc' s'.n := hB'.kept (fun q hq => ⟨fun hne ad e => ((hri1 q hq).1 hne ad e).1, fun hne ad e => ((hri1 q hq).2 hne ad e).1⟩) ha.1 ha.2.1 hK.kept
  have hri2 : RowsIn Lc' (fun k => ¬ RefS q A' k ∧ ∀ ad, A1 = some ad → k ≠ ad.block) := hri1.lt hB' (fun k hk h1 => ⟨by
    rintro (rfl | ⟨ad, e, rfl⟩)
    · exact h1.1 (.inl rfl)
    · rcases hA' ad e with h2 | h2
      · exact h1.1 h2
      · omega, h1.2⟩)
  have hbl1 : Below w.heap.size w W1 := hc.below h.bl h.bl.size h.hp h.hb
  refine ⟨Lc', A', c', Lr', ⟨hB2, hL', hf.inv, hR', by rw [hLr]; exact hf.agree, hri2, hK.toBelow hbl1 hbl1.size (fun k hk => h.refS k hk), h.hp, h.hb, h.hq, fun ad e => Nat.lt_of_lt_of_le (h.lt ad e) (Nat.le_trans hc.size hK.le)⟩, by have := hf.len; rw [List.length_map] at this; rw [← List.length_map (f := CI.pure), hLr]; exact this, hf.le, ?_⟩
  exact (Keep.then_ (S := fun k => k = p ∨ k = b ∨ RefS q A k) ⟨hc.size, fun i hi hn => hc.block i hi (fun e => hn (.inl e)) (fun e => hn (.inr (.inl e))), hc.os, hc.tape, hc.output⟩ hK (fun k hk => .inl (.inr (.inr hk))))
/-- A row of bytes is made. -/
theorem Lk.row (h : Lk w W p b q none s Lc A c Lr) (hb : Below W.heap.size W W1) (hA : ∀ ad, A1 = some ad → W.heap.size ≤ ad.block ∧ ad.block < W1.heap.size) : Lk w W1 p b q A1 s Lc A c Lr := by
  have h1 := h.below hb
  refine ⟨h1.bs, h1.ls, h1.inv, (h.ref.mono (ok' := fun k => w.heap.size ≤ k ∧ ∀ ad, A1 = some ad → k ≠ ad.block) (fun k hk hlt => ⟨hk.1, fun ad e e2 => by have := (hA ad e).1; omega⟩)).below hb, h1.agree, h.ri.lt h.bs (fun k hlt hk => ⟨hk.1, fun ad e e2 => by have := (hA ad e).1; omega⟩), h1.bl, h1.hp, h1.hb, h1.hq, fun ad e => (hA ad e).2⟩
/-- .. and written. -/
theorem Lk.spoilt (h : Lk w W p b q A1 s Lc A c Lr) (hk : Keep W W1 (fun k => ∃ ad, A1 = some ad ∧ k = ad.block)) (hA : ∀ ad, A1 = some ad → ∃ cells, W.heap[ad.block]? = some (.cells cells 5 (0, 0))) (hle : ∀ ad, A1 = some ad → w.heap.size ≤ ad.block) : Lk w W1 p b q none s Lc A c Lr := by
  have hp := h.bs.blk
  have hq := h.ref.blk
  unfold Blk at hp hq
  obtain ⟨es, clock, hb, _⟩ := h.bs.map
  have hnq : ¬ ∃ ad, A1 = some ad ∧ q = ad.block := fun ⟨ad, e, e2⟩ => by obtain ⟨cells, hc⟩ := hA ad e; rw [e2, hc] at hq; cases hq
  have hnp : ¬ ∃ ad, A1 = some ad ∧ p = ad.block := fun ⟨ad, e, e2⟩ => by obtain ⟨cells, hc⟩ := hA ad e; rw [e2, hc] at hp; cases hp
  have hnb : ¬ ∃ ad, A1 = some ad ∧ b = ad.block := fun ⟨ad, e, e2⟩ => by obtain ⟨cells, hc⟩ := hA ad e; rw [e2, hc] at hb; cases hb
  have hlt : W.heap.size ≤ W1.heap.size := hk.le
  refine ⟨h.bs.kept (fun q hq => ⟨fun hne ad e => ?_, fun hne ad e => ?_⟩) hnp hnb hk.kept, h.ls, h.inv, (h.ref.kept hk.kept hnq (fun k hs ho => ?_)).mono (fun k ho _ => ⟨ho.1, fun ad e => by cases e⟩), h.agree, fun q hq => ⟨fun hne ad e => ⟨((h.ri q hq).1 hne ad e).1, fun ad e => by cases e⟩, fun hne ad e => ⟨((h.ri q hq).2 hne ad e).1, fun ad e => by cases e⟩⟩, hk.toBelow h.bl h.bl.size (fun k ⟨ad, e, e2⟩ => by subst e2; exact hle ad e), h.hp, h.hb, h.hq, fun ad e => by cases e⟩
  · rintro ⟨ad', e', e2⟩
    exact ((h.ri q hq).1 hne ad e).2 ad' e' e2
  · rintro ⟨ad', e', e2⟩
    exact ((h.ri q hq).2 hne ad e).2 ad' e' e2
  · obtain ⟨ad, e, e2⟩ := hs
    exact absurd e2 (ho.2 ad e)
/-- A clone takes the store's place. -/
theorem Lk.clone (h : Lk w W p b q none s Lc A c Lr) {p2 b2 : Nat} {Ld : List (Key × CI)} (hb : Below W.heap.size W W1) (hp2 : W.heap.size ≤ p2) (hb2 : W.heap.size ≤ b2) (hB : StoreB W1 p2 b2 Ld s.n) (hpm : (erase Ld).Perm (erase Lc)) (hri : RowsIn Ld (fun k => W.heap.size ≤ k)) (hx : Chg W1 W2 p b) : Lk w W2 p2 b2 q none ⟨erase Ld, s.n⟩ Ld A c Lr := by
  have h1 := h.below hb
  have hpl := h.bs.blk.lt
  have hbl := h.bs.map.lt
  have hpm2 : (erase Ld).Perm s.L := by rw [← h.ls]; exact hpm
  refine ⟨hB.kept (fun q hq => ⟨fun hne ad e h => ?_, fun hne ad e h => ?_⟩) (fun e => by rcases e with e | e <;> omega) (fun e => by rcases e with e | e <;> omega) hx.keep.kept, rfl, h.inv.perm hpm2, h1.refChg hx, h.agree.permed hpm2, fun q hq => ⟨fun hne ad e => ⟨fun hr => ?_, fun ad e => by cases e⟩, fun hne ad e => ⟨fun hr => ?_, fun ad e => by cases e⟩⟩, hx.below h1.bl h1.bl.size h.hp h.hb, Nat.le_trans h.bl.size hp2, Nat.le_trans h.bl.size hb2, h.hq, fun ad e => by cases e⟩
  · have := (hri q hq).1 hne ad e
    rcases h with h | h <;> omega
  · have := (hri q hq).2 hne ad e
    rcases h with h | h <;> omega
  · have h2 := (hri q hq).1 hne ad e
    have h3 := h.refLt _ hr
    omega
  · have h2 := (hri q hq).2 hne ad e
    have h3 := h.refLt _ hr
    omega
theorem Lk.keys (h : Lk w W p b q A1 s Lc A c Lr) : (Lc.map (·.1)).Nodup := by
  have h1 := h.agree.keys
  unfold Keys at h1
  rw [← h.ls] at h1
  unfold erase at h1
  rw [List.map_map] at h1
  exact h1
theorem Lk.fitsC (h : Lk w W p b q A1 s Lc A c Lr) : ∀ z ∈ Lc, Fits z.2 := fun z hz => h.inv.fits (z.1, z.2.pure) (by rw [← h.ls]; exact List.mem_map.2 ⟨z, hz, rfl⟩)
end
/-! ### the reference's calls, at a store that agrees -/
theorem rget_any {w : World} {q : Nat} {A : Option Addr} {c : Nat} {Lr : List CI} {ok : Nat → Prop} {s : St} (h : RefB w q A c s.n Lr ok) (hfr : ∀ k, w.heap.size ≤ k → ok k) (hl : Lr.length ≤ 1000) (hn1 : s.n < 1000000000) (hI : Inv s) (hA : Agree s (Lr.map CI.pure)) (hfit : ∀ x ∈ Lr, Fits x) (kind : Int) (nm : ByteArray) : Calls Try.prog 18 #[.pointer (some ⟨q, 0, none⟩), .int .i64 kind, .string nm] w fun e w' => ∃ (y : CI) (er : Int), e = .returned (.tuple #[itemV y, .int .i64 er]) ∧ Below w.heap.size w w' := by
  rcases rI_cases kind nm (Lr.map CI.pure) 0 with h0 | ⟨j, hj, h1, _, _⟩
  · refine (rget_none.calls w q A c s.n Lr kind nm h.blk h.reads hl h0).mono ?_
    rintro e w' ⟨rfl, hb⟩
    exact ⟨noItem, 5, rfl, hb⟩
  · have hj' : j < Lr.length := by simpa using hj
    refine (rget_some.calls w q A c s.n Lr kind nm j hj' h.blk h.reads hl (hfit _ (List.getElem_mem hj')) (h.rows _ (List.getElem_mem hj')).ok (by rw [h1]; congr 1; omega)).mono ?_
    rintro e w' ⟨y, rfl, _, _, hb⟩
    exact ⟨y, 0, rfl, hb⟩
theorem rcreate_agree {w : World} {q : Nat} {A : Option Addr} {c : Nat} {Lr : List CI} {ok : Nat → Prop} {s : St} (h : RefB w q A c s.n Lr ok) (hfr : ∀ k, w.heap.size ≤ k → ok k) (hl : Lr.length ≤ 1000) (hn1 : s.n < 1000000000) (hI : Inv s) (hA : Agree s (Lr.map CI.pure)) (hfit : ∀ x ∈ Lr, Fits x) (kind : Int) (nm : ByteArray) (bA : Option Addr) (bc : Nat) (B : List Int) (hB : Kd.C (Kd.int .u8) w bA B.length B) (hbc : B.length ≤ bc) (hBq : B ≠ [] → ∀ ad, bA = some ad → ¬ RefS q A ad.block) :
    Calls Try.prog 19 #[.pointer (some ⟨q, 0, none⟩), .int .i64 kind, .string nm, .slice bA B.length bc] w fun e w' => e = .returned (.tuple #[.int .i64 (createV s kind nm B).1.1, .int .i64 (createV s kind nm B).1.2]) ∧ ∃ L' n', RefTo w w' q A ok L' n' ∧ Fin s (Lr.map CI.pure) (createV s kind nm B).2 L' n' := by
  have hst := step_create hI hA kind nm B
  refine (rcreate.calls w q A c s.n Lr ok h hfr hl hI.n0 hn1 kind nm bA bc B hB hbc hBq).mono ?_
  rintro e w' ⟨rfl, hr⟩
  exact ⟨by rw [hst.ans], _, _, hr, hst.fin⟩
theorem rupdate_agree {w : World} {q : Nat} {A : Option Addr} {c : Nat} {Lr : List CI} {ok : Nat → Prop} {s : St} (h : RefB w q A c s.n Lr ok) (hfr : ∀ k, w.heap.size ≤ k → ok k) (hl : Lr.length ≤ 1000) (hn1 : s.n < 1000000000) (hI : Inv s) (hA : Agree s (Lr.map CI.pure)) (hfit : ∀ x ∈ Lr, Fits x) (kind : Int) (nm : ByteArray) (v : Int) (bA : Option Addr) (bc : Nat) (B : List Int) (hB : Kd.C (Kd.int .u8) w bA B.length B) (hbc : B.length ≤ bc) (hBq : B ≠ [] → ∀ ad, bA = some ad → ¬ RefS q A ad.block) :
    Calls Try.prog 20 #[.pointer (some ⟨q, 0, none⟩), .int .i64 kind, .string nm, .int .i64 v, .slice bA B.length bc] w fun e w' => e = .returned (.tuple #[.int .i64 (updateV s kind nm v B).1.1, .int .i64 (updateV s kind nm v B).1.2]) ∧ ∃ L' n', RefTo w w' q A ok L' n' ∧ Fin s (Lr.map CI.pure) (updateV s kind nm v B).2 L' n' := by
  rcases hA.find kind nm with ⟨h1, h2⟩ | ⟨i, hi, h1, hk, hn, h2⟩
  · refine (rupdate_none.calls w q A c s.n Lr ok h hfr hl hI.n0 hn1 kind nm v bA bc B h1).mono ?_
    rintro e w' ⟨rfl, hr⟩
    rw [step_update_none hI hA kind nm v B h2]
    exact ⟨rfl, _, _, hr, Fin.same hI hA⟩
  · have hi' : i < Lr.length := by simpa using hi
    have hst := step_update hI hA kind nm v B i hi hk hn h2
    rw [List.getElem_map] at hst
    refine (rupdate_some.calls w q A c s.n Lr ok h hfr hl hI.n0 hn1 kind nm i hi' h1 v bA bc B hB hbc hBq).mono ?_
    rintro e w' ⟨rfl, hr⟩
    exact ⟨by rw [hst.ans], _, _, hr, hst.fin⟩
theorem rdelete_agree {w : World} {q : Nat} {A : Option Addr} {c : Nat} {Lr : List CI} {ok : Nat → Prop} {s : St} (h : RefB w q A c s.n Lr ok) (hfr : ∀ k, w.heap.size ≤ k → ok k) (hl : Lr.length ≤ 1000) (hn1 : s.n < 1000000000) (hI : Inv s) (hA : Agree s (Lr.map CI.pure)) (hfit : ∀ x ∈ Lr, Fits x) (kind : Int) (nm : ByteArray) (v : Int) :
    Calls Try.prog 21 #[.pointer (some ⟨q, 0, none⟩), .int .i64 kind, .string nm, .int .i64 v] w fun e w' => e = .returned (.int .i64 (deleteV s kind nm v).1) ∧ ∃ L' n', RefTo w w' q A ok L' n' ∧ Fin s (Lr.map CI.pure) (deleteV s kind nm v).2 L' n' := by
  rcases hA.find kind nm with ⟨h1, h2⟩ | ⟨i, hi, h1, hk, hn, h2⟩
  · refine (rdelete_none.calls w q A c s.n Lr ok h hfr hl hI.n0 hn1 kind nm v h1).mono ?_
    rintro e w' ⟨rfl, hr⟩
    rw [step_delete_none kind nm v h2]
    exact ⟨rfl, _, _, hr, Fin.same hI hA⟩
  · have hi' : i < Lr.length := by simpa using hi
    have hst := step_delete hI hA kind nm v i hi hk hn h2
    rw [List.getElem_map] at hst
    refine (rdelete_some.calls w q A c s.n Lr ok h hfr hl hI.n0 hn1 kind nm i hi' h1 v).mono ?_
    rintro e w' ⟨rfl, hr⟩
    exact ⟨by rw [(Prod.mk.inj hst.ans).2], _, _, hr, hst.fin⟩
theorem rhold_agree {w : World} {q : Nat} {A : Option Addr} {c : Nat} {Lr : List CI} {ok : Nat → Prop} {s : St} (h : RefB w q A c s.n Lr ok) (hfr : ∀ k, w.heap.size ≤ k → ok k) (hl : Lr.length ≤ 1000) (hn1 : s.n < 1000000000) (hI : Inv s) (hA : Agree s (Lr.map CI.pure)) (hfit : ∀ x ∈ Lr, Fits x) (kind : Int) (nm who : ByteArray) :
    Calls Try.prog 22 #[.pointer (some ⟨q, 0, none⟩), .int .i64 kind, .string nm, .string who] w fun e w' => e = .returned (.int .i64 (holdV s kind nm who).1) ∧ ∃ L' n', RefTo w w' q A ok L' n' ∧ Fin s (Lr.map CI.pure) (holdV s kind nm who).2 L' n' := by
  rcases hA.find kind nm with ⟨h1, h2⟩ | ⟨i, hi, h1, hk, hn, h2⟩
  · refine (rhold_none.calls w q A c s.n Lr ok h hfr hl hI.n0 hn1 kind nm who h1).mono ?_
    rintro e w' ⟨rfl, hr⟩
    rw [step_hold_none kind nm who h2]
    exact ⟨rfl, _, _, hr, Fin.same hI hA⟩
  · have hi' : i < Lr.length := by simpa using hi
    have hst := step_hold hI hA kind nm who i hi hk hn h2
    rw [List.getElem_map] at hst
    refine (rhold_some.calls w q A c s.n Lr ok h hfr hl hI.n0 hn1 kind nm i hi' h1 who (hfit _ (List.getElem_mem hi'))).mono ?_
    rintro e w' ⟨rfl, hr⟩
    exact ⟨by rw [(Prod.mk.inj hst.ans).2], _, _, hr, hst.fin⟩
theorem rrelease_agree {w : World} {q : Nat} {A : Option Addr} {c : Nat} {Lr : List CI} {ok : Nat → Prop} {s : St} (h : RefB w q A c s.n Lr ok) (hfr : ∀ k, w.heap.size ≤ k → ok k) (hl : Lr.length ≤ 1000) (hn1 : s.n < 1000000000) (hI : Inv s) (hA : Agree s (Lr.map CI.pure)) (hfit : ∀ x ∈ Lr, Fits x) (kind : Int) (nm who : ByteArray) :
    Calls Try.prog 23 #[.pointer (some ⟨q, 0, none⟩), .int .i64 kind, .string nm, .string who] w fun e w' => e = .returned (.int .i64 (releaseV s kind nm who).1) ∧ ∃ L' n', RefTo w w' q A ok L' n' ∧ Fin s (Lr.map CI.pure) (releaseV s kind nm who).2 L' n' := by
  rcases hA.find kind nm with ⟨h1, h2⟩ | ⟨i, hi, h1, hk, hn, h2⟩
  · refine (rrelease_none.calls w q A c s.n Lr ok h hfr hl hI.n0 hn1 kind nm who h1).mono ?_
    rintro e w' ⟨rfl, hr⟩
    rw [step_release_none kind nm who h2]
    exact ⟨rfl, _, _, hr, Fin.same hI hA⟩
  · have hi' : i < Lr.length := by simpa using hi
    have hst := step_release hI hA kind nm who i hi hk hn h2
    rw [List.getElem_map] at hst
    refine (rrelease_some.calls w q A c s.n Lr ok h hfr hl hI.n0 hn1 kind nm i hi' h1 who (hfit _ (List.getElem_mem hi'))).mono ?_
    rintro e w' ⟨rfl, hr⟩
    exact ⟨by rw [(Prod.mk.inj hst.ans).2], _, _, hr, hst.fin⟩
end Go.Proofs.Ytmankbhlgjgnbaa.PAll
