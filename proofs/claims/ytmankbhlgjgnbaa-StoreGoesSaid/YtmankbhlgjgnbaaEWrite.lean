import Derived.Test.YtmankbhlgjgnbaaEGet2
namespace Go.Proofs.Ytmankbhlgjgnbaa.PAll
open Go.RowKit Go.Proofs.YtmankbhlgjgnbaaW.PrintWords Go.Proofs.YtmankbhlgjgnbaaW.PrintLast Go.Proofs.YtmankbhlgjgnbaaW.PrintMore Mem
set_option linter.unusedVariables false
set_option linter.unusedSimpArgs false
/-! ### what a write leaves alone -/
structure Chg (w w' : World) (p b : Nat) : Prop where
  os : w'.os = w.os
  tape : w'.tape = w.tape
  output : w'.output = w.output
  size : w.heap.size ≤ w'.heap.size
  block : ∀ k, k < w.heap.size → k ≠ p → k ≠ b → w'.heap[k]? = w.heap[k]?
theorem Chg.of_below {w w' : World} (p b : Nat) (h : Below w.heap.size w w') : Chg w w' p b := ⟨h.os, h.tape, h.output, h.size, fun k hk _ _ => h.block k hk⟩
theorem Chg.trans {w w1 w2 : World} {p b : Nat} (h : Chg w w1 p b) (k : Chg w1 w2 p b) : Chg w w2 p b :=
  ⟨k.os.trans h.os, k.tape.trans h.tape, k.output.trans h.output, Nat.le_trans h.size k.size, fun i hi h1 h2 => (k.block i (Nat.lt_of_lt_of_le hi h.size) h1 h2).trans (h.block i hi h1 h2)⟩
theorem Chg.below {w0 w w' : World} {p b base : Nat} (h : Chg w w' p b) (hB : Below base w0 w) (hs : base ≤ w.heap.size) (hp : base ≤ p) (hb : base ≤ b) : Below base w0 w' :=
  ⟨h.os.trans hB.os, h.tape.trans hB.tape, h.output.trans hB.output, Nat.le_trans hB.size h.size, fun k hk => (h.block k (by omega) (by omega) (by omega)).trans (hB.block k hk)⟩
theorem C_chg {α : Type} {enc : α → Value} {h1 : ∀ x, (enc x).oneCell' = true} {w w' : World} {A : Option Addr} {n : Nat} {xs : List α} (h : (Kd.scalar enc h1).C w A n xs) (hm : ∀ (a : Addr) (x : α), w.cell? a = some (enc x) → w'.cell? a = some (enc x)) : (Kd.scalar enc h1).C w' A n xs :=
  ⟨h.1, h.2.1, fun hn => by
    obtain ⟨ad, e, hc⟩ := h.2.2 hn
    refine ⟨ad, e, fun j q hj => ?_⟩
    obtain ⟨c, hcl, hk, hcell⟩ := hc j q hj
    refine ⟨c, hcl, hk, fun i u hu => ?_⟩
    have hk' : c = [enc q] := hk
    have hu2 := hcell i u hu
    rw [hk'] at hu
    have hue : u = enc q := by
      cases i with
      | zero => exact (Option.some.inj hu).symm
      | succ i => simp at hu
    rw [hue] at hu2 ⊢
    exact hm _ _ hu2⟩
theorem StoreB.away {w : World} {p b : Nat} {Lc : List (Key × CI)} {n : Int} (h : StoreB w p b Lc n) {a : Addr} {v : Value} (hc : w.cell? a = some v) (h1 : ∀ m, v ≠ .map m) (h2 : ∀ k, v ≠ .int .i64 k) : a.block ≠ p ∧ a.block ≠ b := by
  refine ⟨fun e => ?_, fun e => ?_⟩
  · have hb := h.blk
    unfold Blk at hb
    unfold World.cell? at hc
    rw [e, hb] at hc
    simp only at hc
    split at hc
    · cases hc
    · obtain ⟨i, hi⟩ : ∃ i, i = a.off := ⟨_, rfl⟩
      rw [← hi] at hc
      match i, hc with
      | 0, hc => exact h1 _ (Option.some.inj hc).symm
      | 1, hc => exact h2 _ (Option.some.inj hc).symm
      | i + 2, hc => simp at hc
  · obtain ⟨es, clock, hb, _⟩ := h.map
    unfold World.cell? at hc
    rw [e, hb] at hc
    cases hc
theorem cell_chg {w w' : World} {p b : Nat} {Lc : List (Key × CI)} {n : Int} (h : StoreB w p b Lc n) (hc : Chg w w' p b) {a : Addr} {v : Value} (ha : w.cell? a = some v) (h1 : ∀ m, v ≠ .map m) (h2 : ∀ k, v ≠ .int .i64 k) : w'.cell? a = some v := by
  obtain ⟨hp, hb⟩ := h.away ha h1 h2
  exact (World.cell?_of_block (hc.block _ (World.block_lt_of_cell? w _ ha) hp hb)).trans ha
theorem RowOK.chg {w w' : World} {p b : Nat} {Lc : List (Key × CI)} {n : Int} (h : StoreB w p b Lc n) (hc : Chg w w' p b) {x : CI} (hx : RowOK w x) : RowOK w' x :=
  ⟨C_chg hx.hr (fun a s ha => cell_chg h hc ha (fun m e => by cases e) (fun k e => by cases e)), hx.hc, C_chg hx.br (fun a s ha => cell_chg h hc ha (fun m e => by cases e) (fun k e => by cases e)), hx.bc⟩
theorem blk_chg {w w' : World} {p b g : Nat} {cur : List Value} {t : TypeId} (hc : Chg w w' p b) (h : Blk w g cur t) (hp : g ≠ p) (hb : g ≠ b) : Blk w' g cur t := (hc.block g h.lt hp hb).trans h

/-! ### putting and taking -/
theorem put_mem {k : Key} {x : CI} : ∀ {Lc : List (Key × CI)} {q : Key × CI}, q ∈ putM eqKey k x Lc → q = (k, x) ∨ q ∈ Lc
  | [], q, h => by unfold putM at h; simp at h; exact .inl h
  | r :: L, q, h => by
    unfold putM at h
    split at h
    · rcases List.mem_cons.1 h with rfl | h
      · exact .inl rfl
      · exact .inr (by simp [h])
    · rcases List.mem_cons.1 h with rfl | h
      · exact .inr (by simp)
      · rcases put_mem h with h | h
        · exact .inl h
        · exact .inr (by simp [h])
theorem put_erase (k : Key) (x : CI) : ∀ Lc : List (Key × CI), erase (putM eqKey k x Lc) = putM eqKey k x.pure (erase Lc)
  | [] => rfl
  | q :: r => by
    have e : erase (q :: r) = (q.1, q.2.pure) :: erase r := rfl
    rw [e]
    unfold putM
    dsimp only
    split
    · rfl
    · show (q.1, q.2.pure) :: erase (putM eqKey k x r) = _
      rw [put_erase k x r]
def delM {α β : Type} (eq : α → α → Bool) (x : α) : List (α × β) → List (α × β)
  | [] => []
  | p :: r => if eq x p.1 = true then r else p :: delM eq x r
theorem del_mem {k : Key} : ∀ {Lc : List (Key × CI)} {q : Key × CI}, q ∈ delM eqKey k Lc → q ∈ Lc
  | [], q, h => by unfold delM at h; simp at h
  | r :: L, q, h => by
    unfold delM at h
    split at h
    · simp [h]
    · rcases List.mem_cons.1 h with rfl | h
      · simp
      · simp [del_mem h]
theorem del_erase (k : Key) : ∀ Lc : List (Key × CI), erase (delM eqKey k Lc) = delM eqKey k (erase Lc)
  | [] => rfl
  | q :: r => by
    have e : erase (q :: r) = (q.1, q.2.pure) :: erase r := rfl
    rw [e]
    unfold delM
    dsimp only
    split
    · rfl
    · show (q.1, q.2.pure) :: erase (delM eqKey k r) = _
      rw [del_erase k r]
theorem findI_del (x : Key) : ∀ (L : List (Key × CI)) (i : Nat), match findI eqKey x L i with
    | none => delM eqKey x L = L
    | some q => ∃ d, q.1 = i + d ∧ d < L.length ∧ delM eqKey x L = L.eraseIdx d
  | [], i => by unfold findI; rfl
  | p :: r, i => by
    unfold findI delM
    by_cases hc : eqKey x p.1 = true
    · rw [if_pos hc, if_pos hc]
      exact ⟨0, rfl, by simp, rfl⟩
    · rw [if_neg hc, if_neg hc]
      have ih := findI_del x r (i + 1)
      cases hf : findI eqKey x r (i + 1) with
      | none => rw [hf] at ih; simp only at ih ⊢; rw [ih]
      | some q =>
        rw [hf] at ih
        obtain ⟨d, h1, h2, h3⟩ := ih
        exact ⟨d + 1, by omega, by rw [List.length_cons]; omega, by rw [h3]; rfl⟩
theorem erase_map {α β : Type} (f : α → β) : ∀ (l : List α) (d : Nat), (l.eraseIdx d).map f = (l.map f).eraseIdx d
  | [], _ => rfl
  | _ :: _, 0 => rfl
  | x :: r, d + 1 => by
    show f x :: (r.eraseIdx d).map f = f x :: (r.map f).eraseIdx d
    rw [erase_map f r d]
/-- 'delete(m, k)'. -/
theorem run_delM {P : Program} (K : KeyRun P 52 keyV eqKey) {t e : TypeId} (ht : P.underlying t = some (.map 52 e)) {w : World} {b : Nat} {L : List (Key × CI)} (h : MapAt w b keyV itemV L) (x : Key) (ts : TypeId) (ty : TypeId) :
    ∃ w', (Builtin.delete_ #[t, ts] ty #[.map (some b), keyV x]).run P w = .ok (.tuple #[]) w' ∧ MapAt w' b keyV itemV (delM eqKey x L) ∧ w.grownBy w' (some b) := by
  obtain ⟨es, clock, hb, hl, hs⟩ := h
  have hf := run_findKey_struct K w x es.toList L hl
  have hd := findI_del x L 0
  cases hi : findI eqKey x L 0 with
  | none =>
    rw [hi] at hf hd
    refine ⟨ChangeMaps.setBlock w b (.map es clock), ?_, ⟨_, _, ChangeMaps.heap_setBlock_same hb _, ?_, hs⟩, ⟨rfl, rfl, rfl, by simp [ChangeMaps.setBlock], fun i _ hn => ChangeMaps.heap_setBlock_other hb _ (fun e => hn (by rw [e]))⟩⟩
    · simp [Builtin.delete_, run_underlying ht, MapKept.run_getObj_map hb, K.check, hf, MapKept.run_setObj_map _ hb, Result.andThen, ChangeMaps.setBlock]
    · rw [hd]; exact hl
  | some q =>
    rw [hi] at hf hd
    obtain ⟨d, h1, h2, h3⟩ := hd
    rw [Nat.zero_add] at h1
    refine ⟨ChangeMaps.setBlock w b (.map (es.eraseIdxIfInBounds d) clock), ?_, ⟨_, _, ChangeMaps.heap_setBlock_same hb _, ?_, born_sub hs (by unfold Array.eraseIdxIfInBounds; split; (· simp only [Array.toList_eraseIdx]; exact List.eraseIdx_sublist _ _); exact List.Sublist.refl _)⟩, ⟨rfl, rfl, rfl, by simp [ChangeMaps.setBlock], fun i _ hn => ChangeMaps.heap_setBlock_other hb _ (fun e => hn (by rw [e]))⟩⟩
    · simp [Builtin.delete_, run_underlying ht, MapKept.run_getObj_map hb, K.check, hf, h1, MapKept.run_setObj_map _ hb, Result.andThen, ChangeMaps.setBlock]
    · rw [h3]
      have hsz : d < es.size := by
        have := congrArg List.length hl
        simp at this
        omega
      have : (es.eraseIdxIfInBounds d).toList = es.toList.eraseIdx d := by simp [Array.eraseIdxIfInBounds, hsz]
      rw [this, erase_map, hl, ← erase_map]
/-! ### events -/
section
variable {P : Program} {ops : Array Oper} {rest : List Oper} {o : Oper} {a : Act} {Q : Exit → Act → World → Prop} {w : World}
theorem box_at (hgd : o.guard = none) {t : TypeId} {x : Operand} (ho : o.op = .box t x) (v : Value) (cs : List Value) (hx : a.eval x = v) (hc : v.cells.toList = cs)
    (h : ∀ g, g = w.heap.size → ∀ w', Blk w' g cs t → Below w.heap.size w w' → wpList P ops Q rest (a.put o.dst (.pointer (some ⟨g, 0, none⟩))) w') : wpList P ops Q (o :: rest) a w := by
  have e : v.cells = cs.toArray := by rw [← hc, Array.toArray_toList]
  refine Kd.event_run hgd (v := .pointer (some ⟨w.heap.size, 0, none⟩)) (w1 := w.alloc (.cells cs.toArray t)) ?_ (h _ rfl _ (Blk.alloc_new w cs t) (below_alloc (Below.refl _ _) _))
  simp [execOp, ho, hx, Instr.box, newVar, newRow, run_newObj_alloc, e, Result.andThen]
end
theorem size_i64 : (Try.prog.info? 2).map (·.size) = some 1 := by kernel_rfl
set_option maxHeartbeats 2000000 in
theorem write.calls (w : World) (p b : Nat) (Lc : List (Key × CI)) (n : Int) (x : CI) (hS : StoreB w p b Lc n) (hx : RowOK w x) (h0 : 0 ≤ n) (hn : n < 1000000000) :
    Calls Try.prog 27 #[ptrV p, itemV x] w fun e w' => e = .returned (.int .i64 (n + 1)) ∧ StoreB w' p b (putM eqKey (x.kind, x.name) { x with ver := n + 1 } Lc) (n + 1) ∧ Chg w w' p b := by
  have hpb : p ≠ b := by
    intro e
    obtain ⟨es, clock, hb, _⟩ := hS.map
    have h1 := hS.blk
    unfold Blk at h1
    rw [e, hb] at h1
    cases h1
  have hplt : p < w.heap.size := hS.blk.lt
  have hblt : b < w.heap.size := hS.map.lt
  have hw1 : wrap64 (n + 1) = n + 1 := by unfold wrap64; omega
  have HS := Aside0.mk hS
  have HX := Aside0.mk hx
  have c1 : w.cell? ⟨p, 1, none⟩ = some (.int .i64 n) := hS.cell1
  clear hS hx h0 hn
  obtain ⟨k, nm, vr, ha, hc, H, ba, bc, B, gg⟩ := x
  go_enter Try.func27, Try.ntmps27
  go_wp2_with (first
    | ((with_reducible refine gate_dst (N := 3) rfl ?_); refine box_at rfl (t := 31) rfl _ (CI.cells ⟨k, nm, vr, ha, hc, H, ba, bc, B, gg⟩) rfl rfl ?_; intro g hg w1 hk1 hb1
       have BG := Aside0.mk hk1; have HS1 := Aside0.mk (HS.out.below hb1); have HB1 := Aside0.mk hb1; have G := Aside0.mk hg; clear hk1 hb1 hg
       have c1 : w1.cell? ⟨p, 1, none⟩ = some (.int .i64 n) := HS1.out.cell1)
    | ((with_reducible refine gate_store (p := 11) rfl ?_); refine store_at rfl (t := 2) rfl rfl p 1 _ 49 _ rfl rfl HS1.out.blk [.int .i64 (n + 1)] (by rw [hw1]; rfl) size_i64 (show (2 : Nat) ≤ 2 from Nat.le_refl 2) (by intro u hu; rw [List.mem_singleton.1 hu]; rfl) ?_; intro w2 hk2 hg2
       have BP : Aside0 (Blk w2 p [.map (some b), .int .i64 (n + 1)] 49) := Aside0.mk hk2; have BG' := Aside0.mk (BG.out.grown hg2 (by have := G.out; omega)); have GR2 := Aside0.mk hg2; clear hk2 hg2
       have c1' : w2.cell? ⟨p, 1, none⟩ = some (.int .i64 (n + 1)) := BP.out.cell 1)
    | ((with_reducible refine gate_store (p := 16) rfl ?_); refine store_at rfl (t := 2) rfl rfl g 2 _ 31 _ rfl rfl BG'.out [.int .i64 (n + 1)] rfl size_i64 (show (3 : Nat) ≤ 6 by decide) (by intro u hu; rw [List.mem_singleton.1 hu]; rfl) ?_; intro w3 hk3 hg3
       have BG3 : Aside0 (Blk w3 g (CI.cells ⟨k, nm, n + 1, ha, hc, H, ba, bc, B, gg⟩) 31) := Aside0.mk hk3; have BP' := Aside0.mk (BP.out.grown hg3 (by have := G.out; omega)); have GR3 := Aside0.mk hg3; clear hk3 hg3))
  have hglt : w.heap.size ≤ g := Nat.le_of_eq G.out.symm
  have hblk2 : ∀ i, i < w1.heap.size → i ≠ p → i ≠ g → w3.heap[i]? = w1.heap[i]? := fun i hi h1 h2 =>
    (GR3.out.block i (Nat.lt_of_lt_of_le hi GR2.out.size) (fun e => h2 (Option.some.inj e))).trans (GR2.out.block i hi (fun e => h1 (Option.some.inj e)))
  have hbg : b ≠ g := by omega
  have hM3 : MapAt w3 b keyV itemV Lc := HS1.out.map.kept (fun i hi e => hblk2 i hi (by rw [e]; exact hpb.symm) (by rw [e]; exact hbg))
  have hM3' : MapAt w3.drew b keyV itemV Lc := hM3
  obtain ⟨w4, hrun, hM4, hG4⟩ := run_putM key_run Try.underlying47 hM3' (k, nm) (⟨k, nm, n + 1, ha, hc, H, ba, bc, B, gg⟩ : CI)
  have hput : (Instr.mapUpdate 47 (.map (some b)) (.agg #[.int .i64 k, .string nm]) (.agg #[.int .i64 k, .string nm, .int .i64 (n + 1), .slice ha H.length hc, .slice ba B.length bc, .bool gg])).run Try.prog w3.drew = .ok () w4 := hrun
  clear hrun
  have d0 : w3.cell? ⟨p, 0, none⟩ = some (.map (some b)) := BP'.out.cell 0
  have e0 : w3.cell? ⟨g, 0, none⟩ = some (.int .i64 k) := BG3.out.cell 0
  have e1 : w3.cell? ⟨g, 1, none⟩ = some (.string nm) := BG3.out.cell 1
  have e2 : w3.cell? ⟨g, 2, none⟩ = some (.int .i64 (n + 1)) := BG3.out.cell 2
  have e3 : w3.cell? ⟨g, 3, none⟩ = some (.slice ha H.length hc) := BG3.out.cell 3
  have e4 : w3.cell? ⟨g, 4, none⟩ = some (.slice ba B.length bc) := BG3.out.cell 4
  have e5 : w3.cell? ⟨g, 5, none⟩ = some (.bool gg) := BG3.out.cell 5
  have HM4 := Aside0.mk hM4
  have HG4 := Aside0.mk hG4
  have HBK := Aside0.mk hblk2
  have BP4 := Aside0.mk ((Blk.drew BP'.out).grown hG4 hpb)
  have f1 : w4.cell? ⟨p, 1, none⟩ = some (.int .i64 (n + 1)) := BP4.out.cell 1
  clear hM3 hM3' hM4 hG4 hblk2
  go_wp2
  go_region
  all_goals
    go_wp2
    go_ret
    have hchg : Chg w w4 p b := by
      have hb1 := HB1.out
      have g2 := GR2.out
      have g3 := GR3.out
      have g4 := HG4.out
      exact ⟨(g4.os.trans (g3.os.trans g2.os)).trans hb1.os, (g4.tape.trans (g3.tape.trans g2.tape)).trans hb1.tape, (g4.output.trans (g3.output.trans g2.output)).trans hb1.output, Nat.le_trans hb1.size (Nat.le_trans g2.size (Nat.le_trans g3.size g4.size)),
        fun i hi h1 h2 => ((g4.block i (by have := hb1.size; have := g2.size; have := g3.size; show i < w3.heap.size; omega) (fun e => h2 (Option.some.inj e))).trans (HBK.out i (Nat.lt_of_lt_of_le hi hb1.size) h1 (by omega))).trans (hb1.block i hi)⟩
    refine ⟨rfl, ⟨BP4.out, HM4.out, fun q hq => ?_⟩, hchg⟩
    rcases put_mem hq with rfl | hq
    · have := HX.out.chg HS.out hchg
      exact ⟨this.hr, this.hc, this.br, this.bc⟩
    · exact (HS.out.rows q hq).chg HS.out hchg
end Go.Proofs.Ytmankbhlgjgnbaa.PAll
