import Derived.Test.YtmankbhlgjgnbaaWMore
import Derived.Laws.CopyRow
import Derived.Laws.CopyOwn
import Derived.Lib.AppendZerosOnto
import Derived.Lib.Overlaps
/-! Rows of elements of several cells: copy, and what stands in a block. -/
set_option linter.unusedVariables false
namespace Go.Proofs.Ytmankbhlgjgnbaa.Mem
open Go.RowKit Go.Proofs.YtmankbhlgjgnbaaW.PrintWords

/-- The block holds just this row. -/
def Blk (w : World) (g : Nat) (cur : List Value) (t : TypeId) : Prop := w.heap[g]? = some (.cells cur.toArray t (0, 0))
theorem Blk.set {w : World} {g : Nat} {cur : List Value} {t : TypeId} (h : Blk w g cur t) (cs : List Value) : Blk (w.setRow g cs.toArray) g cs t := setRow_heap w g _ _ t _ h
theorem Blk.far {w : World} {g k : Nat} {cur : List Value} {t : TypeId} (h : Blk w g cur t) (cs : Array Value) (hne : g ≠ k) : Blk (w.setRow k cs) g cur t := by
  unfold Blk at *
  rw [setRow_other w k g cs hne]
  exact h
theorem Blk.drew {w : World} {g : Nat} {cur : List Value} {t : TypeId} (h : Blk w g cur t) : Blk w.drew g cur t := h
theorem Blk.lt {w : World} {g : Nat} {cur : List Value} {t : TypeId} (h : Blk w g cur t) : g < w.heap.size := (Array.getElem?_eq_some_iff.1 h).1
theorem Blk.cell {w : World} {g : Nat} {cur : List Value} {t : TypeId} (h : Blk w g cur t) (o : Nat) : w.cell? ⟨g, o, none⟩ = cur[o]? := by
  unfold Blk at h
  simp [World.cell?, h]
theorem Blk.frozen {w : World} {g : Nat} {cur : List Value} {t : TypeId} (h : Blk w g cur t) (a : Addr) (ha : a.block = g) : w.frozen? a = false := by
  unfold Blk at h
  subst ha
  simp [World.frozen?, h]
theorem Blk.alloc_new (w : World) (cur : List Value) (t : TypeId) : Blk (w.alloc (.cells cur.toArray t)) w.heap.size cur t := heap_alloc_new w _
theorem Blk.alloc {w : World} {g : Nat} {cur : List Value} {t : TypeId} (h : Blk w g cur t) (o : Obj) : Blk (w.alloc o) g cur t := by
  unfold Blk at *
  rw [Below.heap_alloc w o g (Blk.lt h)]
  exact h
/-- A row's cells, read from the block of an own row. -/
theorem own_blk {w : World} {base : Nat} {e : TypeId} {size n : Nat} {v : Value} {xs : List Value} (h : w.ownsRow base e size v n xs) (hn : 0 < n) :
    ∃ g cap cur, v = .slice (some ⟨g, 0, none⟩) n cap ∧ base ≤ g ∧ Blk w g cur e ∧ n ≤ cap ∧ cap ≤ maxLen ∧ cur.length = cap * size ∧ cur.take (n * size) = xs := by
  rcases h.2 with ⟨_, h0⟩ | ⟨g, cap, cur, rfl, hb, hh, h1, h2, h3, h4⟩
  · omega
  · exact ⟨g, cap, cur.toList, rfl, hb, by unfold Blk; simpa using hh, h1, h2, by simpa using h3, h4⟩
theorem blk_own {w : World} {base g cap n size : Nat} {e : TypeId} {cur xs : List Value} (hb : base ≤ g) (hh : Blk w g cur e) (h1 : n ≤ cap) (h2 : cap ≤ maxLen) (h3 : cur.length = cap * size) (h4 : cur.take (n * size) = xs) :
    w.ownsRow base e size (.slice (some ⟨g, 0, none⟩) n cap) n xs :=
  ⟨by rw [← h4, List.length_take, h3]; exact Nat.min_eq_left (Nat.mul_le_mul_right _ h1), .inr ⟨g, cap, cur.toArray, rfl, hb, hh, h1, h2, by simpa using h3, by simpa using h4⟩⟩

variable {P : Program}
/-- 'copy' of elements of k cells each. -/
theorem run_copy_k (w : World) (dT sT ty elem : TypeId) (k : Nat) (g o dLen dCap : Nat) (a : Addr) (sLen sCap : Nat) (cur : List Value) (t : TypeId) (cs : List Value)
    (hu : P.underlying dT = some (.slice elem)) (hs : (P.info? elem).map (·.size) = some k)
    (hg : Blk w g cur t) (hn : cs.length = Nat.min sLen dLen * k)
    (hsrc : ∀ j v, cs[j]? = some v → w.cell? (a.add j) = some v) (hfit : o + cs.length ≤ cur.length) (h1 : ∀ v ∈ cs, v.oneCell' = true) :
    (Builtin.copy_ #[dT, sT] ty #[.slice (some ⟨g, o, none⟩) dLen dCap, .slice (some a) sLen sCap]).run P w =
      .ok (goInt (Nat.min sLen dLen)) (w.setRow g (cur.take o ++ cs ++ cur.drop (o + cs.length)).toArray) := by
  have hl := run_loadCells_list (P := P) w a cs hsrc
  have hst := run_storeCells_at P g o t cs 0 cur.toArray w hg (by simpa using hfit) h1
  cases hq : P.info? elem with
  | none => simp [hq] at hs
  | some i =>
    have hi : i.size = k := by simpa [hq] using hs
    simp [Builtin.copy_, run_underlying hu, Builtin.lenOf, Builtin.firstCells, sizeOf, typeInfo, hq, hi, ← hn, hl, hst]
theorem wpList_copy_run {w : World} {ops : Array Oper} {rest : List Oper} {o : Oper} {a : Act} {Q : Exit → Act → World → Prop} (hgd : o.guard = none) (d s : Operand) (t t' : TypeId)
    (ho : o.op = .call { callee := .builtin .copy, args := #[d, s], argTypes := #[t, t'] }) (v u : Value) (hd : a.eval d = v) (hs : a.eval s = u) {v' : Value} {w' : World}
    (hr : (Builtin.copy_ #[t, t'] o.type #[v, u]).run P w = .ok v' w') (h : wpList P ops Q rest (a.put o.dst v') w') : wpList P ops Q (o :: rest) a w := by
  refine wpList_plain hgd fun K hK => ?_
  unfold Oper.wp execOp
  simp only [ho, resolve, invoke, builtin, Sem.run_bind, Sem.run_pure, Result.andThen_ok, List.map_toArray, List.map_cons, List.map_nil, hd, hs, hr]
  exact hK _ _ h
theorem step_copy_run {ops : Array Oper} {o : Oper} {a : Act} {w : World} {K : Act → World → Prop} {Q : Exit → Act → World → Prop} {E : Prop}
    (hg : o.guard = none) (d x : Operand) (dT sT : TypeId) (hop : o.op = Op.call { callee := Callee.builtin Builtin.copy, args := #[d, x], argTypes := #[dT, sT] })
    (v u : Value) (hd : a.eval d = v) (hx : a.eval x = u) {v' : Value} {w' : World} (hr : (Builtin.copy_ #[dT, sT] o.type #[v, u]).run P w = .ok v' w') (hK : K (a.put o.dst v') w') :
    if Region.wanted o (yielded ops a.tmps) = true then Oper.wp P o a w K Q else E := by
  have hw : Region.wanted o (yielded ops a.tmps) = true := by simp [Region.wanted, hg]
  rw [if_pos hw]
  unfold Oper.wp
  simp [execOp, hop, resolve, invoke, builtin, hd, hx, hr, Result.andThen]
  exact hK

/-- 'clear' of a part of a row. -/
theorem run_clear_k (w : World) (dT ty elem : TypeId) (k g o n c : Nat) (cur : List Value) (t : TypeId) (z : Value)
    (hu : P.underlying dT = some (.slice elem)) (hz : (zeroValue elem).run P w = .ok z w) (hk : z.cells.size = k) (hg : Blk w g cur t) (hn : 0 < n) (hfit : o + n * k ≤ cur.length)
    (h1 : ∀ v ∈ (Builtin.zeroCells z.cells n).toList, v.oneCell' = true) :
    (Builtin.clear_ #[dT] ty #[.slice (some ⟨g, o, none⟩) n c]).run P w = .ok (.tuple #[]) (w.setRow g (cur.take o ++ (Builtin.zeroCells z.cells n).toList ++ cur.drop (o + n * k)).toArray) := by
  obtain ⟨m, rfl⟩ : ∃ m, n = m + 1 := ⟨n - 1, by omega⟩
  have hl : (Builtin.zeroCells z.cells (m + 1)).toList.length = (m + 1) * k := by simp [Builtin.zeroCells, hk]
  have hst := run_storeCells_at P g o t (Builtin.zeroCells z.cells (m + 1)).toList 0 cur.toArray w hg (by simpa [hl] using hfit) h1
  simp [Builtin.clear_, run_underlying hu, hz, hst, hl]
theorem run_clear_none (w : World) (dT ty : TypeId) (A : Option Addr) (c : Nat) (d : TypeDesc) (hu : P.underlying dT = some d) :
    (Builtin.clear_ #[dT] ty #[.slice A 0 c]).run P w = .ok (.tuple #[]) w := by
  cases A <;> simp [Builtin.clear_, run_underlying hu]
theorem wpList_clear_run {w : World} {ops : Array Oper} {rest : List Oper} {o : Oper} {a : Act} {Q : Exit → Act → World → Prop} (hgd : o.guard = none) (d : Operand) (t : TypeId)
    (ho : o.op = .call { callee := .builtin .clear, args := #[d], argTypes := #[t] }) (v : Value) (hd : a.eval d = v) {v' : Value} {w' : World}
    (hr : (Builtin.clear_ #[t] o.type #[v]).run P w = .ok v' w') (h : wpList P ops Q rest (a.put o.dst v') w') : wpList P ops Q (o :: rest) a w := by
  refine wpList_plain hgd fun K hK => ?_
  unfold Oper.wp execOp
  simp only [ho, resolve, invoke, builtin, Sem.run_bind, Sem.run_pure, Result.andThen_ok, List.map_toArray, List.map_cons, List.map_nil, hd, hr]
  exact hK _ _ h

/-- What is read lies in no block that may be emptied. -/
theorem reads_apart {α : Type} {d : Kd α} {w : World} {S : Nat → Prop} {A : Option Addr} {xs : List α} (h : ∀ W_, Kept w W_ S → d.C W_ A xs.length xs) (hs : 0 < d.sz) (hn : 0 < xs.length) :
    ∃ ad, A = some ad ∧ ¬ S ad.block ∧ ∃ v, w.cell? ad = some v := by
  obtain ⟨ad, rfl, hc⟩ := (h w (Kept.refl w S)).2.2 hn
  obtain ⟨c, hcl, hk, hcell⟩ := hc 0 _ (List.getElem?_eq_getElem hn)
  have h0 := hcell 0 _ (List.getElem?_eq_getElem (by omega : 0 < c.length))
  have e0 : ad.add (0 * d.sz + 0) = ad := by
    rw [Nat.zero_mul]
    unfold Addr.add
    cases ad with
    | mk b o s => cases s <;> simp
  rw [e0] at h0
  refine ⟨ad, rfl, fun hS => ?_, _, h0⟩
  have hk2 : Kept w { w with heap := w.heap.setIfInBounds ad.block (.map #[] 0) } S :=
    ⟨by simp, fun i hi hn => by
      rw [Array.getElem?_setIfInBounds]
      split
      · rename_i e
        exact absurd (e ▸ hS) hn
      · rfl⟩
  obtain ⟨ad', e, hc'⟩ := (h _ hk2).2.2 hn
  injection e with e
  subst e
  obtain ⟨c', hcl', hk', hcell'⟩ := hc' 0 _ (List.getElem?_eq_getElem hn)
  have h1 := hcell' 0 _ (List.getElem?_eq_getElem (by omega : 0 < c'.length))
  rw [e0] at h1
  have hlt : ad.block < w.heap.size := World.block_lt_of_cell? w _ h0
  simp [World.cell?, hlt] at h1
theorem shape_of_cell {w : World} {a : Addr} {v : Value} (h : w.cell? a = some v) : ∃ t k, w.shape? a.block = some (t, k + 1) := by
  unfold World.cell? at h
  unfold World.shape?
  split at h
  · rename_i c t fr hc
    split at h
    · cases h
    · have := (Array.getElem?_eq_some_iff.1 h).1
      exact ⟨t, c.size - 1, by simp; omega⟩
  · cases h
/-- slices.overlaps at two rows in two blocks, the second of them plain. -/
theorem run_overlaps_apart2 {P : Program} (w : World) (tS tR e : TypeId) (ht : P.underlying tS = some (.slice e)) (size : Nat) (hz : ∀ w, (Go.sizeOf e).run P w = .ok size w)
    (a b : Addr) (la ca lb cb : Nat) (hne : a.block ≠ b.block) (v u : Value) (ha : w.cell? a = some v) (hb : w.cell? b = some u) (hfb : ∀ o, w.frozen? ⟨b.block, o, none⟩ = false) (hfb0 : w.frozen? b = false) :
    (Extern.SlicesOverlaps.overlaps #[tS, tS] #[tR] #[.slice (some a) la ca, .slice (some b) lb cb]).run P w = .ok (.bool false) w := by
  have hnb : (a.block != b.block) = true := by simpa using hne
  have hnb' : (a.block == b.block) = false := by simpa using hne
  obtain ⟨tA, kA, hsa⟩ := shape_of_cell ha
  obtain ⟨tB, kB, hsb⟩ := shape_of_cell hb
  have hfe := hfb (kB + 1)
  change Sem.run P (α := Value) (do
    let some t := (#[tS, tS] : Array TypeId)[0]? | stuck "slices.overlaps: no parameter types"
    let .slice elem ← underlying t | stuck "slices.overlaps: slice type expected"
    let size ← sizeOf elem
    match (some a : Option Addr), (some b : Option Addr) with
    | some a, some b =>
      if la = 0 ∨ lb = 0 ∨ size = 0 then pure (Value.bool false)
      else if a.block != b.block && (← frozen a) && (← frozen b) then unsupported .addressObserved
      else do
        if a.block != b.block then do
          noView a; noView b
          if ← mayBeOne a b then return Value.bool ((← choose (.extern "sameAddr.stringBytes" 2)) == 1)
        pure (Value.bool (a.block == b.block && a.off < b.off + lb * size && b.off < a.off + la * size))
    | _, _ => pure (Value.bool false)) w = _
  by_cases h0 : la = 0 ∨ lb = 0 ∨ size = 0
  · simp [run_underlying ht, hz, h0]
  · cases hfa : w.frozen? a with
    | false =>
      cases hfe' : w.frozen? ⟨a.block, kA + 1, none⟩ with
      | false => simp [run_underlying ht, hz, h0, hnb, hnb', frozen, noView, viewAt, mayBeOne, stringish, shape, Sem.run, hsa, hsb, hfa, hfb0, hfe, hfe']
      | true => simp [run_underlying ht, hz, h0, hnb, hnb', frozen, noView, viewAt, mayBeOne, stringish, shape, Sem.run, hsa, hsb, hfa, hfb0, hfe, hfe']
    | true => simp [run_underlying ht, hz, h0, hnb, hnb', frozen, noView, viewAt, mayBeOne, stringish, shape, Sem.run, hsa, hsb, hfa, hfb0, hfe]
end Go.Proofs.Ytmankbhlgjgnbaa.Mem
