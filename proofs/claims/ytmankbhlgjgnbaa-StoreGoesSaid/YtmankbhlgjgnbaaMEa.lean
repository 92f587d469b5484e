import Derived.Test.YtmankbhlgjgnbaaMWa
import Derived.Maps.Own
import Derived.Laws.CopyRow
import Derived.Laws.CopyOwn
import Derived.Lib.AppendZerosOnto
import Derived.Lib.Overlaps
import Derived.Test.YtmankbhlgjgnbaaPAllx0
import Derived.Test.YtmankbhlgjgnbaaPAllx2
import Derived.Deep.RegionWith
import Derived.Laws.NewFold
import Derived.Laws.ResultCell
import Derived.Laws.Rows
import Derived.WalkSpells
section
/-! Maps that the program makes for itself, keyed by structs: what a look-up and a store do, over a list of entries. -/
set_option linter.unusedVariables false
set_option linter.unusedSimpArgs false
namespace Go.Proofs.Ytmankbhlgjgnbaa.Mem
open Go.RowKit Go.MapKept

/-- What is needed of the key's type. -/
structure KeyRun (P : Program) (k : TypeId) {α : Type} (val : α → Value) (eq : α → α → Bool) : Prop where
  kind : ∃ fs, P.underlying k = some (.struct fs)
  check : ∀ w em x, (Instr.checkKey em 10000 k (val x)).run P w = .ok () w
  equal : ∀ w x y, (Op.equal k (val x) (val y)).run P w = .ok (eq x y) w
  stays : ∀ w x y, eq x y = true → (Instr.keyThatStays (val y) (val x)).run P w = .ok (val x) w

variable {P : Program} {k : TypeId} {α β : Type} {val : α → Value} {elt : β → Value} {eq : α → α → Bool}

/-- The block is a map of these entries, in the order in which they came. -/
def Born (es : Array MapEntry) (clock : Nat) : Prop := (∀ x ∈ es.toList, x.born < clock) ∧ (es.toList.map (·.born)).Nodup
theorem born_empty : Born #[] 0 := ⟨by simp, by simp⟩
theorem born_push {es : Array MapEntry} {clock : Nat} (h : Born es clock) (key v : Value) : Born (es.push { key, val := v, born := clock }) (clock + 1) := by
  obtain ⟨h1, h2⟩ := h
  refine ⟨?_, ?_⟩
  · intro x hx
    simp only [Array.toList_push, List.mem_append, List.mem_singleton] at hx
    rcases hx with hx | rfl
    · exact Nat.lt_succ_of_lt (h1 x hx)
    · exact Nat.lt_succ_self _
  · simp only [Array.toList_push, List.map_append, List.map_cons, List.map_nil]
    refine List.nodup_append.2 ⟨h2, by simp, ?_⟩
    intro a ha b hb
    simp only [List.mem_singleton] at hb
    subst hb
    obtain ⟨x, hx, rfl⟩ := List.mem_map.1 ha
    exact Nat.ne_of_lt (h1 x hx)
theorem born_modify {es : Array MapEntry} {clock : Nat} (h : Born es clock) (i : Nat) (f : MapEntry → MapEntry) (hb : ∀ e, (f e).born = e.born) : Born (es.modify i f) clock := by
  have hborn : (es.modify i f).toList.map (·.born) = es.toList.map (·.born) := by
    apply List.ext_getElem?
    intro j
    simp only [List.getElem?_map, Array.getElem?_toList, Array.getElem?_modify]
    by_cases hij : i = j
    · subst hij
      cases he : es[i]? with
      | none => simp
      | some e => simp [hb e]
    · simp [hij]
  obtain ⟨h1, h2⟩ := h
  refine ⟨?_, hborn ▸ h2⟩
  intro x hx
  have : x.born ∈ (es.modify i f).toList.map (·.born) := List.mem_map.2 ⟨x, hx, rfl⟩
  rw [hborn] at this
  obtain ⟨y, hy, e⟩ := List.mem_map.1 this
  rw [← e]; exact h1 y hy
theorem born_sub {es es' : Array MapEntry} {clock : Nat} (h : Born es clock) (hs : es'.toList.Sublist es.toList) : Born es' clock :=
  ⟨fun x hx => h.1 x (hs.subset hx), (hs.map _).nodup h.2⟩
def MapAt (w : World) (b : Nat) (val : α → Value) (elt : β → Value) (L : List (α × β)) : Prop :=
  ∃ es clock, w.heap[b]? = some (.map es clock) ∧ es.toList.map (fun e => (e.key, e.val)) = L.map (fun p => (val p.1, elt p.2)) ∧ Born es clock

def findI (eq : α → α → Bool) (x : α) : List (α × β) → Nat → Option (Nat × β)
  | [], _ => none
  | p :: r, i => if eq x p.1 = true then some (i, p.2) else findI eq x r (i + 1)
def lookM (eq : α → α → Bool) (x : α) : List (α × β) → Option β
  | [] => none
  | p :: r => if eq x p.1 = true then some p.2 else lookM eq x r
def putM (eq : α → α → Bool) (x : α) (v : β) : List (α × β) → List (α × β)
  | [] => [(x, v)]
  | p :: r => if eq x p.1 = true then (x, v) :: r else p :: putM eq x v r

theorem findI_look (x : α) : ∀ (L : List (α × β)) (i : Nat), (findI eq x L i).map (·.2) = lookM eq x L
  | [], _ => rfl
  | p :: r, i => by
    unfold findI lookM
    split
    · rfl
    · exact findI_look x r (i + 1)
theorem findI_none (x : α) (v : β) : ∀ (L : List (α × β)) (i : Nat), findI eq x L i = none → putM eq x v L = L ++ [(x, v)]
  | [], _, _ => rfl
  | p :: r, i, h => by
    unfold findI at h
    unfold putM
    split at h
    · cases h
    · rename_i hc
      rw [if_neg hc, findI_none x v r _ h]
      rfl
theorem findI_some (x : α) (v : β) : ∀ (L : List (α × β)) (i j : Nat) (u : β), findI eq x L i = some (j, u) → ∃ d p, j = i + d ∧ L[d]? = some p ∧ eq x p.1 = true ∧ putM eq x v L = L.set d (x, v)
  | [], _, _, _, h => by cases h
  | p :: r, i, j, u, h => by
    unfold findI at h
    unfold putM
    split at h
    · rename_i hc
      obtain ⟨rfl, rfl⟩ := Prod.mk.inj (Option.some.inj h)
      exact ⟨0, p, rfl, rfl, hc, by rw [if_pos hc]; rfl⟩
    · rename_i hc
      obtain ⟨d, q, rfl, h1, h2, h3⟩ := findI_some x v r _ _ _ h
      exact ⟨d + 1, q, by omega, h1, h2, by rw [if_neg hc, h3]; rfl⟩

theorem run_findAsking (K : KeyRun P k val eq) (w : World) (x : α) : ∀ (es : List MapEntry) (L : List (α × β)) (i : Nat), es.map (fun e => (e.key, e.val)) = L.map (fun p => (val p.1, elt p.2)) →
    (Instr.findAsking k (val x) es i).run P w = .ok ((findI eq x L i).map fun q => (q.1, elt q.2)) w
  | [], [], _, _ => rfl
  | [], p :: r, _, h => by cases h
  | e :: es, [], _, h => by cases h
  | e :: es, p :: r, i, h => by
    rw [List.map_cons, List.map_cons] at h
    obtain ⟨h1, h2⟩ := List.cons.inj h
    obtain ⟨hk, hv⟩ := Prod.mk.inj h1
    have ih := run_findAsking K w x es r (i + 1) h2
    unfold Instr.findAsking findI
    simp only [Sem.run_bind, hk, K.equal w x p.1, Result.andThen_ok]
    by_cases hc : eq x p.1 = true
    · simp [hc, hv]
    · simp [hc, ih]

theorem run_findKey_struct (K : KeyRun P k val eq) (w : World) (x : α) (es : List MapEntry) (L : List (α × β)) (h : es.map (fun e => (e.key, e.val)) = L.map (fun p => (val p.1, elt p.2))) :
    (Instr.findKey k (val x) es).run P w = .ok ((findI eq x L 0).map fun q => (q.1, elt q.2)) w := by
  obtain ⟨fs, hfs⟩ := K.kind
  have hf := run_findAsking K w x es L 0 h
  cases es with
  | nil =>
    cases L with
    | nil => simp [Instr.findKey, run_underlying hfs, Instr.findNow, findI]
    | cons p r => cases h
  | cons e es =>
    have hn : Instr.findNow (.struct fs) (val x) (e :: es) 0 = none := by simp [Instr.findNow, Instr.sameNow]
    simp only [Instr.findKey, Sem.run_bind, run_underlying hfs, Result.andThen_ok, hn]
    exact hf

/-- 'm[x]', without 'ok'. -/
theorem run_lookM (K : KeyRun P k val eq) {t e : TypeId} (ht : P.underlying t = some (.map k e)) {w : World} {b : Nat} {L : List (α × β)} (h : MapAt w b val elt L) (x : α) {z : Value} (hz : (zeroValue e).run P w = .ok z w) :
    (Instr.lookup t (.map (some b)) (val x) false).run P w = .ok (((lookM eq x L).map elt).getD z) w := by
  obtain ⟨es, clock, hb, hl, hs⟩ := h
  have hf := run_findKey_struct K w x es.toList L hl
  have e1 := findI_look (eq := eq) x L 0
  rw [← e1]
  simp only [Instr.lookup, Sem.run_bind, run_underlying ht, Result.andThen_ok, MapKept.run_getObj_map hb, K.check, hf, Sem.run_pure]
  cases findI eq x L 0 with
  | none => simp [hz]
  | some q => simp
/-- 'v, ok := m[x]'. -/
theorem run_lookM_ok (K : KeyRun P k val eq) {t e : TypeId} (ht : P.underlying t = some (.map k e)) {w : World} {b : Nat} {L : List (α × β)} (h : MapAt w b val elt L) (x : α) {z : Value} (hz : (zeroValue e).run P w = .ok z w) :
    (Instr.lookup t (.map (some b)) (val x) true).run P w = .ok (.tuple #[((lookM eq x L).map elt).getD z, .bool (lookM eq x L).isSome]) w := by
  obtain ⟨es, clock, hb, hl, hs⟩ := h
  have hf := run_findKey_struct K w x es.toList L hl
  have e1 := findI_look (eq := eq) x L 0
  rw [← e1]
  simp only [Instr.lookup, Sem.run_bind, run_underlying ht, Result.andThen_ok, MapKept.run_getObj_map hb, K.check, hf, Sem.run_pure]
  cases findI eq x L 0 with
  | none => simp [hz]
  | some q => simp

/-- 'm[x] = v'. -/
theorem run_putM (K : KeyRun P k val eq) {t e : TypeId} (ht : P.underlying t = some (.map k e)) {w : World} {b : Nat} {L : List (α × β)} (h : MapAt w b val elt L) (x : α) (v : β) :
    ∃ w', (Instr.mapUpdate t (.map (some b)) (val x) (elt v)).run P w = .ok () w' ∧ MapAt w' b val elt (putM eq x v L) ∧ w.grownBy w' (some b) := by
  obtain ⟨es, clock, hb, hl, hs⟩ := h
  have hf := run_findKey_struct K w x es.toList L hl
  cases hi : findI eq x L 0 with
  | none =>
    rw [hi] at hf
    refine ⟨ChangeMaps.setBlock w b (.map (es.push { key := val x, val := elt v, born := clock }) (clock + 1)), ?_, ⟨_, _, ChangeMaps.heap_setBlock_same hb _, ?_, born_push hs _ _⟩, ⟨rfl, rfl, rfl, by simp [ChangeMaps.setBlock], fun i _ hn => ChangeMaps.heap_setBlock_other hb _ (fun e => hn (by rw [e]))⟩⟩
    · simp [Instr.mapUpdate, run_underlying ht, MapKept.run_getObj_map hb, K.check, hf, MapKept.run_setObj_map _ hb, Result.andThen, ChangeMaps.setBlock]
    · rw [findI_none x v L 0 hi, Array.toList_push, List.map_append, List.map_append, hl]
      rfl
  | some q =>
    obtain ⟨j, u⟩ := q
    rw [hi] at hf
    obtain ⟨d, p, rfl, h1, h2, h3⟩ := findI_some x v L 0 j u hi
    rw [Nat.zero_add] at hf
    have hkey : ∃ e0, es[d]? = some e0 ∧ e0.key = val p.1 := by
      have e1 : (es.toList.map (fun e => (e.key, e.val)))[d]? = some (val p.1, elt p.2) := by rw [hl, List.getElem?_map, h1]; rfl
      rw [List.getElem?_map] at e1
      cases h4 : es.toList[d]? with
      | none => rw [h4] at e1; cases e1
      | some e0 =>
        rw [h4] at e1
        exact ⟨e0, by rw [← Array.getElem?_toList]; exact h4, (Prod.mk.inj (Option.some.inj e1)).1⟩
    obtain ⟨e0, he0, hk0⟩ := hkey
    refine ⟨ChangeMaps.setBlock w b (.map (es.modify d fun e => { e with key := val x, val := elt v }) clock), ?_, ⟨_, _, ChangeMaps.heap_setBlock_same hb _, ?_, born_modify hs _ _ (fun _ => rfl)⟩, ⟨rfl, rfl, rfl, by simp [ChangeMaps.setBlock], fun i _ hn => ChangeMaps.heap_setBlock_other hb _ (fun e => hn (by rw [e]))⟩⟩
    · simp [Instr.mapUpdate, run_underlying ht, MapKept.run_getObj_map hb, K.check, hf, he0, hk0, K.stays w x p.1 h2, MapKept.run_setObj_map _ hb, Result.andThen, ChangeMaps.setBlock]
    · rw [h3]
      have hlt : d < es.size := (Array.getElem?_eq_some_iff.1 he0).1
      refine List.ext_getElem? fun n => ?_
      have hn := congrArg (fun l => l[n]?) hl
      simp only [List.getElem?_map, List.getElem?_set, Array.getElem?_toList, Array.getElem?_modify] at hn ⊢
      have hsz : L.length = es.size := by
        have := congrArg List.length hl
        simpa using this.symm
      by_cases hnd : d = n
      · subst hnd
        simp [he0, hsz, hlt]
      · simp [hnd, hn]

theorem MapAt.made (w : World) (val : α → Value) (elt : β → Value) : MapAt (w.alloc (.map #[] 0)) w.heap.size val elt [] := ⟨#[], 0, (heap_alloc w _).1, rfl, born_empty⟩
theorem MapAt.lt {w : World} {b : Nat} {L : List (α × β)} (h : MapAt w b val elt L) : b < w.heap.size := by
  obtain ⟨es, clock, hb, _⟩ := h
  exact (Array.getElem?_eq_some_iff.1 hb).1
theorem MapAt.kept {w w' : World} {b : Nat} {L : List (α × β)} (h : MapAt w b val elt L) (hk : ∀ i, i < w.heap.size → i = b → w'.heap[i]? = w.heap[i]?) : MapAt w' b val elt L := by
  have hlt := h.lt
  obtain ⟨es, clock, hb, hl, hs⟩ := h
  exact ⟨es, clock, (hk b hlt rfl).trans hb, hl, hs⟩

/-- 'm[x] = v' at the operation, for the walk. -/
theorem wpList_putM (w : World) {ops : Array Oper} {rest : List Oper} {o : Oper} {a : Act} {Q : Exit → Act → World → Prop}
    (hg : o.guard = none) (m x v : Operand) (t : TypeId) (hop : o.op = Op.mapUpdate t m x v) (e : TypeId) (K : KeyRun P k val eq) (ht : P.underlying t = some (.map k e)) (b : Nat) (L : List (α × β))
    (hm : a.eval m = .map (some b)) (h : MapAt w b val elt L) (x0 : α) (v0 : β) (hx : a.eval x = val x0) (hv : a.eval v = elt v0)
    (hK : ∀ w', MapAt w' b val elt (putM eq x0 v0 L) → w.grownBy w' (some b) → wpList P ops Q rest (a.put o.dst undef) w') :
    wpList P ops Q (o :: rest) a w := by
  refine wpList_plain hg fun K' hK' => ?_
  obtain ⟨w', hrun, r1, r2⟩ := run_putM K ht h x0 v0
  unfold Oper.wp
  simp [execOp, hop, hm, hx, hv, hrun, Result.andThen]
  exact hK' _ _ (hK w' r1 r2)
end Go.Proofs.Ytmankbhlgjgnbaa.Mem
end
section
/-! Rows of elements of several cells: copy, and what stands in a block. -/
set_option linter.unusedVariables false
namespace Go.Proofs.Ytmankbhlgjgnbaa.Mem
open Go.RowKit Go.Proofs.YtmankbhlgjgnbaaW.PrintWords

/-- The block holds just this row. -/
def Blk (w : World) (g : Nat) (cur : List Value) (t : TypeId) : Prop := w.heap[g]? = some (.cells cur.toArray t (0, 0))
theorem Blk.set {w : World} {g : Nat} {cur : List Value} {t : TypeId} (h : Blk w g cur t) (cs : List Value) : Blk (w.setRow g cs.toArray) g cs t := setRow_heap w g _ _ t _ h
theorem Blk.far {w : World} {g k : Nat} {cur : List Value} {t : TypeId} (h : Blk w g cur t) (cs : Array Value) (hne : g ≠ k) : Blk (w.setRow k cs) g cur t := by
  unfold Blk at *
  rw [setRow_other w k g cs hne]
  exact h
theorem Blk.drew {w : World} {g : Nat} {cur : List Value} {t : TypeId} (h : Blk w g cur t) : Blk w.drew g cur t := h
theorem Blk.lt {w : World} {g : Nat} {cur : List Value} {t : TypeId} (h : Blk w g cur t) : g < w.heap.size := (Array.getElem?_eq_some_iff.1 h).1
theorem Blk.cell {w : World} {g : Nat} {cur : List Value} {t : TypeId} (h : Blk w g cur t) (o : Nat) : w.cell? ⟨g, o, none⟩ = cur[o]? := by
  unfold Blk at h
  simp [World.cell?, h]
theorem Blk.frozen {w : World} {g : Nat} {cur : List Value} {t : TypeId} (h : Blk w g cur t) (a : Addr) (ha : a.block = g) : w.frozen? a = false := by
  unfold Blk at h
  subst ha
  simp [World.frozen?, h]
theorem Blk.alloc_new (w : World) (cur : List Value) (t : TypeId) : Blk (w.alloc (.cells cur.toArray t)) w.heap.size cur t := heap_alloc_new w _
theorem Blk.alloc {w : World} {g : Nat} {cur : List Value} {t : TypeId} (h : Blk w g cur t) (o : Obj) : Blk (w.alloc o) g cur t := by
  unfold Blk at *
  rw [Below.heap_alloc w o g (Blk.lt h)]
  exact h
/-- A row's cells, read from the block of an own row. -/
theorem own_blk {w : World} {base : Nat} {e : TypeId} {size n : Nat} {v : Value} {xs : List Value} (h : w.ownsRow base e size v n xs) (hn : 0 < n) :
    ∃ g cap cur, v = .slice (some ⟨g, 0, none⟩) n cap ∧ base ≤ g ∧ Blk w g cur e ∧ n ≤ cap ∧ cap ≤ maxLen ∧ cur.length = cap * size ∧ cur.take (n * size) = xs := by
  rcases h.2 with ⟨_, h0⟩ | ⟨g, cap, cur, rfl, hb, hh, h1, h2, h3, h4⟩
  · omega
  · exact ⟨g, cap, cur.toList, rfl, hb, by unfold Blk; simpa using hh, h1, h2, by simpa using h3, h4⟩
theorem blk_own {w : World} {base g cap n size : Nat} {e : TypeId} {cur xs : List Value} (hb : base ≤ g) (hh : Blk w g cur e) (h1 : n ≤ cap) (h2 : cap ≤ maxLen) (h3 : cur.length = cap * size) (h4 : cur.take (n * size) = xs) :
    w.ownsRow base e size (.slice (some ⟨g, 0, none⟩) n cap) n xs :=
  ⟨by rw [← h4, List.length_take, h3]; exact Nat.min_eq_left (Nat.mul_le_mul_right _ h1), .inr ⟨g, cap, cur.toArray, rfl, hb, hh, h1, h2, by simpa using h3, by simpa using h4⟩⟩

variable {P : Program}
/-- 'copy' of elements of k cells each. -/
theorem run_copy_k (w : World) (dT sT ty elem : TypeId) (k : Nat) (g o dLen dCap : Nat) (a : Addr) (sLen sCap : Nat) (cur : List Value) (t : TypeId) (cs : List Value)
    (hu : P.underlying dT = some (.slice elem)) (hs : (P.info? elem).map (·.size) = some k)
    (hg : Blk w g cur t) (hn : cs.length = Nat.min sLen dLen * k)
    (hsrc : ∀ j v, cs[j]? = some v → w.cell? (a.add j) = some v) (hfit : o + cs.length ≤ cur.length) (h1 : ∀ v ∈ cs, v.oneCell' = true) :
    (Builtin.copy_ #[dT, sT] ty #[.slice (some ⟨g, o, none⟩) dLen dCap, .slice (some a) sLen sCap]).run P w =
      .ok (goInt (Nat.min sLen dLen)) (w.setRow g (cur.take o ++ cs ++ cur.drop (o + cs.length)).toArray) := by
  have hl := run_loadCells_list (P := P) w a cs hsrc
  have hst := run_storeCells_at P g o t cs 0 cur.toArray w hg (by simpa using hfit) h1
  cases hq : P.info? elem with
  | none => simp [hq] at hs
  | some i =>
    have hi : i.size = k := by simpa [hq] using hs
    simp [Builtin.copy_, run_underlying hu, Builtin.lenOf, Builtin.firstCells, sizeOf, typeInfo, hq, hi, ← hn, hl, hst]
theorem wpList_copy_run {w : World} {ops : Array Oper} {rest : List Oper} {o : Oper} {a : Act} {Q : Exit → Act → World → Prop} (hgd : o.guard = none) (d s : Operand) (t t' : TypeId)
    (ho : o.op = .call { callee := .builtin .copy, args := #[d, s], argTypes := #[t, t'] }) (v u : Value) (hd : a.eval d = v) (hs : a.eval s = u) {v' : Value} {w' : World}
    (hr : (Builtin.copy_ #[t, t'] o.type #[v, u]).run P w = .ok v' w') (h : wpList P ops Q rest (a.put o.dst v') w') : wpList P ops Q (o :: rest) a w := by
  refine wpList_plain hgd fun K hK => ?_
  unfold Oper.wp execOp
  simp only [ho, resolve, invoke, builtin, Sem.run_bind, Sem.run_pure, Result.andThen_ok, List.map_toArray, List.map_cons, List.map_nil, hd, hs, hr]
  exact hK _ _ h
theorem step_copy_run {ops : Array Oper} {o : Oper} {a : Act} {w : World} {K : Act → World → Prop} {Q : Exit → Act → World → Prop} {E : Prop}
    (hg : o.guard = none) (d x : Operand) (dT sT : TypeId) (hop : o.op = Op.call { callee := Callee.builtin Builtin.copy, args := #[d, x], argTypes := #[dT, sT] })
    (v u : Value) (hd : a.eval d = v) (hx : a.eval x = u) {v' : Value} {w' : World} (hr : (Builtin.copy_ #[dT, sT] o.type #[v, u]).run P w = .ok v' w') (hK : K (a.put o.dst v') w') :
    if Region.wanted o (yielded ops a.tmps) = true then Oper.wp P o a w K Q else E := by
  have hw : Region.wanted o (yielded ops a.tmps) = true := by simp [Region.wanted, hg]
  rw [if_pos hw]
  unfold Oper.wp
  simp [execOp, hop, resolve, invoke, builtin, hd, hx, hr, Result.andThen]
  exact hK

/-- 'clear' of a part of a row. -/
theorem run_clear_k (w : World) (dT ty elem : TypeId) (k g o n c : Nat) (cur : List Value) (t : TypeId) (z : Value)
    (hu : P.underlying dT = some (.slice elem)) (hz : (zeroValue elem).run P w = .ok z w) (hk : z.cells.size = k) (hg : Blk w g cur t) (hn : 0 < n) (hfit : o + n * k ≤ cur.length)
    (h1 : ∀ v ∈ (Builtin.zeroCells z.cells n).toList, v.oneCell' = true) :
    (Builtin.clear_ #[dT] ty #[.slice (some ⟨g, o, none⟩) n c]).run P w = .ok (.tuple #[]) (w.setRow g (cur.take o ++ (Builtin.zeroCells z.cells n).toList ++ cur.drop (o + n * k)).toArray) := by
  obtain ⟨m, rfl⟩ : ∃ m, n = m + 1 := ⟨n - 1, by omega⟩
  have hl : (Builtin.zeroCells z.cells (m + 1)).toList.length = (m + 1) * k := by simp [Builtin.zeroCells, hk]
  have hst := run_storeCells_at P g o t (Builtin.zeroCells z.cells (m + 1)).toList 0 cur.toArray w hg (by simpa [hl] using hfit) h1
  simp [Builtin.clear_, run_underlying hu, hz, hst, hl]
theorem run_clear_none (w : World) (dT ty : TypeId) (A : Option Addr) (c : Nat) (d : TypeDesc) (hu : P.underlying dT = some d) :
    (Builtin.clear_ #[dT] ty #[.slice A 0 c]).run P w = .ok (.tuple #[]) w := by
  cases A <;> simp [Builtin.clear_, run_underlying hu]
theorem wpList_clear_run {w : World} {ops : Array Oper} {rest : List Oper} {o : Oper} {a : Act} {Q : Exit → Act → World → Prop} (hgd : o.guard = none) (d : Operand) (t : TypeId)
    (ho : o.op = .call { callee := .builtin .clear, args := #[d], argTypes := #[t] }) (v : Value) (hd : a.eval d = v) {v' : Value} {w' : World}
    (hr : (Builtin.clear_ #[t] o.type #[v]).run P w = .ok v' w') (h : wpList P ops Q rest (a.put o.dst v') w') : wpList P ops Q (o :: rest) a w := by
  refine wpList_plain hgd fun K hK => ?_
  unfold Oper.wp execOp
  simp only [ho, resolve, invoke, builtin, Sem.run_bind, Sem.run_pure, Result.andThen_ok, List.map_toArray, List.map_cons, List.map_nil, hd, hr]
  exact hK _ _ h

/-- What is read lies in no block that may be emptied. -/
theorem reads_apart {α : Type} {d : Kd α} {w : World} {S : Nat → Prop} {A : Option Addr} {xs : List α} (h : ∀ W_, Kept w W_ S → d.C W_ A xs.length xs) (hs : 0 < d.sz) (hn : 0 < xs.length) :
    ∃ ad, A = some ad ∧ ¬ S ad.block ∧ ∃ v, w.cell? ad = some v := by
  obtain ⟨ad, rfl, hc⟩ := (h w (Kept.refl w S)).2.2 hn
  obtain ⟨c, hcl, hk, hcell⟩ := hc 0 _ (List.getElem?_eq_getElem hn)
  have h0 := hcell 0 _ (List.getElem?_eq_getElem (by omega : 0 < c.length))
  have e0 : ad.add (0 * d.sz + 0) = ad := by
    rw [Nat.zero_mul]
    unfold Addr.add
    cases ad with
    | mk b o s => cases s <;> simp
  rw [e0] at h0
  refine ⟨ad, rfl, fun hS => ?_, _, h0⟩
  have hk2 : Kept w { w with heap := w.heap.setIfInBounds ad.block (.map #[] 0) } S :=
    ⟨by simp, fun i hi hn => by
      rw [Array.getElem?_setIfInBounds]
      split
      · rename_i e
        exact absurd (e ▸ hS) hn
      · rfl⟩
  obtain ⟨ad', e, hc'⟩ := (h _ hk2).2.2 hn
  injection e with e
  subst e
  obtain ⟨c', hcl', hk', hcell'⟩ := hc' 0 _ (List.getElem?_eq_getElem hn)
  have h1 := hcell' 0 _ (List.getElem?_eq_getElem (by omega : 0 < c'.length))
  rw [e0] at h1
  have hlt : ad.block < w.heap.size := World.block_lt_of_cell? w _ h0
  simp [World.cell?, hlt] at h1
theorem shape_of_cell {w : World} {a : Addr} {v : Value} (h : w.cell? a = some v) : ∃ t k, w.shape? a.block = some (t, k + 1) := by
  unfold World.cell? at h
  unfold World.shape?
  split at h
  · rename_i c t fr hc
    split at h
    · cases h
    · have := (Array.getElem?_eq_some_iff.1 h).1
      exact ⟨t, c.size - 1, by simp; omega⟩
  · cases h
/-- slices.overlaps at two rows in two blocks, the second of them plain. -/
theorem run_overlaps_apart2 {P : Program} (w : World) (tS tR e : TypeId) (ht : P.underlying tS = some (.slice e)) (size : Nat) (hz : ∀ w, (Go.sizeOf e).run P w = .ok size w)
    (a b : Addr) (la ca lb cb : Nat) (hne : a.block ≠ b.block) (v u : Value) (ha : w.cell? a = some v) (hb : w.cell? b = some u) (hfb : ∀ o, w.frozen? ⟨b.block, o, none⟩ = false) (hfb0 : w.frozen? b = false) :
    (Extern.SlicesOverlaps.overlaps #[tS, tS] #[tR] #[.slice (some a) la ca, .slice (some b) lb cb]).run P w = .ok (.bool false) w := by
  have hnb : (a.block != b.block) = true := by simpa using hne
  have hnb' : (a.block == b.block) = false := by simpa using hne
  obtain ⟨tA, kA, hsa⟩ := shape_of_cell ha
  obtain ⟨tB, kB, hsb⟩ := shape_of_cell hb
  have hfe := hfb (kB + 1)
  change Sem.run P (α := Value) (do
    let some t := (#[tS, tS] : Array TypeId)[0]? | stuck "slices.overlaps: no parameter types"
    let .slice elem ← underlying t | stuck "slices.overlaps: slice type expected"
    let size ← sizeOf elem
    match (some a : Option Addr), (some b : Option Addr) with
    | some a, some b =>
      if la = 0 ∨ lb = 0 ∨ size = 0 then pure (Value.bool false)
      else if a.block != b.block && (← frozen a) && (← frozen b) then unsupported .addressObserved
      else do
        if a.block != b.block then do
          noView a; noView b
          if ← mayBeOne a b then return Value.bool ((← choose (.extern "sameAddr.stringBytes" 2)) == 1)
        pure (Value.bool (a.block == b.block && a.off < b.off + lb * size && b.off < a.off + la * size))
    | _, _ => pure (Value.bool false)) w = _
  by_cases h0 : la = 0 ∨ lb = 0 ∨ size = 0
  · simp [run_underlying ht, hz, h0]
  · cases hfa : w.frozen? a with
    | false =>
      cases hfe' : w.frozen? ⟨a.block, kA + 1, none⟩ with
      | false => simp [run_underlying ht, hz, h0, hnb, hnb', frozen, noView, viewAt, mayBeOne, stringish, shape, Sem.run, hsa, hsb, hfa, hfb0, hfe, hfe']
      | true => simp [run_underlying ht, hz, h0, hnb, hnb', frozen, noView, viewAt, mayBeOne, stringish, shape, Sem.run, hsa, hsb, hfa, hfb0, hfe, hfe']
    | true => simp [run_underlying ht, hz, h0, hnb, hnb', frozen, noView, viewAt, mayBeOne, stringish, shape, Sem.run, hsa, hsb, hfa, hfb0, hfe]
end Go.Proofs.Ytmankbhlgjgnbaa.Mem
end
section
/-! A store: what its memory holds; and the events of a walk over variables in memory. -/
set_option linter.unusedVariables false
set_option linter.unusedSimpArgs false
namespace Go.Proofs.Ytmankbhlgjgnbaa.Mem
open Go.RowKit Go.Proofs.YtmankbhlgjgnbaaW.PrintWords
theorem Blk.below {w w' : World} {g : Nat} {cur : List Value} {t : TypeId} (h : Blk w g cur t) (hb : Below w.heap.size w w') : Blk w' g cur t := (hb.block g (Blk.lt h)).trans h
theorem Blk.grown {w w' : World} {g k : Nat} {cur : List Value} {t : TypeId} (h : Blk w g cur t) (hg : w.grownBy w' (some k)) (hne : g ≠ k) : Blk w' g cur t := (hg.block g (Blk.lt h) (fun e => hne (Option.some.inj e))).trans h
theorem Blk.put {w : World} {g : Nat} {cur : List Value} {t : TypeId} (h : Blk w g cur t) (i : Nat) (u : Value) : Blk (w.setCell ⟨g, i, none⟩ u) g (cur.set i u) t := by
  have := blk_set (w := w) h i u
  unfold Blk
  rw [this]
  congr 2
  simp
theorem Blk.putfar {w : World} {g k : Nat} {cur : List Value} {t : TypeId} (h : Blk w g cur t) (i : Nat) (u : Value) (hne : g ≠ k) : Blk (w.setCell ⟨k, i, none⟩ u) g cur t := blk_far h (p := ⟨k, i, none⟩) hne u
end Go.Proofs.Ytmankbhlgjgnbaa.Mem
namespace Go.Proofs.Ytmankbhlgjgnbaa.PAll
open Go.RowKit Go.Proofs.YtmankbhlgjgnbaaW.PrintWords Go.Proofs.YtmankbhlgjgnbaaW.PrintLast Go.Proofs.YtmankbhlgjgnbaaW.PrintMore Mem

/-! ### events -/
section
variable {P : Program} {ops : Array Oper} {rest : List Oper} {o : Oper} {a : Act} {Q : Exit → Act → World → Prop} {w : World}
theorem new_at (hgd : o.guard = none) {t : TypeId} (ho : o.op = .alloc t) (cs : List Value) (z : Value) (hz : ∀ W : World, (zeroValue t).run P W = .ok z W) (hc : z.cells.toList = cs)
    (h : ∀ g, g = w.heap.size → ∀ w', Blk w' g cs t → Below w.heap.size w w' → wpList P ops Q rest (a.put o.dst (.pointer (some ⟨g, 0, none⟩))) w') : wpList P ops Q (o :: rest) a w := by
  have e : z.cells = cs.toArray := by rw [← hc, Array.toArray_toList]
  refine Kd.event_run hgd (v := .pointer (some ⟨w.heap.size, 0, none⟩)) (w1 := w.alloc (.cells cs.toArray t)) ?_ (h _ rfl _ (Blk.alloc_new w cs t) (below_alloc (Below.refl _ _) _))
  simp [execOp, ho, Instr.alloc, hz, newVar, newRow, run_newObj_alloc, e, Result.andThen]
theorem store_at (hgd : o.guard = none) {t : TypeId} {p : Tmp} {x : Operand} (ho : o.op = .store t (.tmp p) x) (hN : o.dst = none) (g i : Nat) (cur : List Value) (tt : TypeId) (v : Value) (hp : a.eval (.tmp p) = .pointer (some ⟨g, i, none⟩)) (hx : a.eval x = v)
    (hb : Blk w g cur tt) (cs : List Value) (hcs : v.cells.toList = cs) (hi : (P.info? t).map (·.size) = some cs.length) (hfit : i + cs.length ≤ cur.length) (h1 : ∀ u ∈ cs, u.oneCell' = true)
    (h : ∀ w', Blk w' g (cur.take i ++ cs ++ cur.drop (i + cs.length)) tt → w.grownBy w' (some g) → wpList P ops Q rest a w') : wpList P ops Q (o :: rest) a w := by
  have hst := run_storeCells_at P g i tt cs 0 cur.toArray w hb (by simpa using hfit) h1
  have hv : v.cells.size = cs.length := by rw [← hcs, Array.length_toList]
  have hb2 := Blk.set hb (cur.take i ++ cs ++ cur.drop (i + cs.length))
  have hgr : w.grownBy (w.setRow g (cur.take i ++ cs ++ cur.drop (i + cs.length)).toArray) (some g) :=
    ⟨rfl, rfl, rfl, by simp [World.setRow], fun k _ hk => setRow_other w g k _ (fun e => hk (by rw [e]))⟩
  have hst2 : (storeCells ⟨g, i, none⟩ cs).run P w = .ok () (w.setRow g (cur.take i ++ cs ++ cur.drop (i + cs.length)).toArray) := by simpa using hst
  refine store_event hgd ho hN (w1 := w.setRow g (cur.take i ++ cs ++ cur.drop (i + cs.length)).toArray) ?_ (fun w' e => by subst e; exact h _ hb2 hgr)
  cases hq : P.info? t with
  | none => simp [hq] at hi
  | some inf =>
    have hs : inf.size = cs.length := by simpa [hq] using hi
    simp [execOp, ho, hp, hx, Instr.storeAt, Instr.sureAddr, storeVar, sizeOf, typeInfo, hq, hs, hv, hcs, hst2, Result.andThen]
theorem load_at (hgd : o.guard = none) {t : TypeId} {p : Operand} (ho : o.op = .load t p) (g : Nat) (cur : List Value) (tt : TypeId) (fs : Array Field) (hp : a.eval p = .pointer (some ⟨g, 0, none⟩)) (hb : Blk w g cur tt) (hu : P.underlying t = some (.struct fs)) (hi : (P.info? t).map (·.size) = some cur.length)
    (h : wpList P ops Q rest (a.put o.dst (.agg cur.toArray)) w) : wpList P ops Q (o :: rest) a w := by
  refine Kd.event_run hgd (v := .agg cur.toArray) (w1 := w) ?_ h
  have := run_loadVar_row (P := P) w g tt t cur.toArray (0, 0) (.struct fs) hb hu rfl (by simpa using hi)
  simp [execOp, ho, hp, Instr.loadAt, Instr.sureAddr, this, Result.andThen]
end

theorem R_from {α : Type} {d : Kd α} {e base : Nat} {ok : Nat → Prop} {w : World} {v : Value} {xs : List α} (h : d.R e w base ok v xs) : d.R e w base (fun k => base ≤ k) v xs := Kd.R_mono (Kd.R_bound h) (fun k hk => hk.2.1)
theorem res_item1 {fn : Func} {p : Tmp} (h : fn.results = #[.cell p 31]) (tmps : Array Value) (w : World) (g : Nat) (cur : List Value) (hp : tmps.getD p undef = .pointer (some ⟨g, 0, none⟩)) (hb : Blk w g cur 31) (hl : cur.length = 6) :
    (results fn tmps).run Try.prog w = .ok (.agg cur.toArray) w :=
  results_cell_row h tmps w g 31 cur.toArray (0, 0) _ hp hb Try.underlying31 rfl (by rw [show (Try.prog.info? 31).map (·.size) = some 6 by kernel_rfl]; simp [hl])
theorem res_item2 {fn : Func} {p u : Tmp} (h : fn.results = #[.cell p 31, .tmp u]) (tmps : Array Value) (w : World) (g : Nat) (cur : List Value) (hp : tmps.getD p undef = .pointer (some ⟨g, 0, none⟩)) (hb : Blk w g cur 31) (hl : cur.length = 6) :
    (results fn tmps).run Try.prog w = .ok (.tuple #[.agg cur.toArray, tmps.getD u undef]) w := by
  have hv := run_loadVar_row (P := Try.prog) w g 31 31 cur.toArray (0, 0) _ hb Try.underlying31 rfl (by rw [show (Try.prog.info? 31).map (·.size) = some 6 by kernel_rfl]; simp [hl])
  rw [results_cell_tmp h tmps Try.prog w, hp]
  simp [asAddr, hv, Result.andThen]
/-! ### keys -/
abbrev Key := Int × ByteArray
def keyV (k : Key) : Value := .agg #[.int .i64 k.1, .string k.2]
def eqKey (a b : Key) : Bool := a.1 == b.1 && a.2.toList == b.2.toList
theorem toList_inj {a b : ByteArray} (h : (a.toList == b.toList) = true) : a = b := by
  have := beq_iff_eq.1 h
  rw [ByteArray.toList_eq, ByteArray.toList_eq] at this
  exact ByteArray.ext (Array.ext' this)
theorem eqKey_eq {a b : Key} (h : eqKey a b = true) : a = b := by
  unfold eqKey at h
  rw [Bool.and_eq_true] at h
  exact Prod.ext (beq_iff_eq.1 h.1) (toList_inj h.2)
theorem eqKey_self (a : Key) : eqKey a a = true := by simp [eqKey]
theorem key_run : KeyRun Try.prog 52 keyV eqKey where
  kind := ⟨_, Try.underlying52⟩
  check := fun w em x => by kernel_rfl
  equal := fun w x y => by
    refine eqA_of (d := 9999) Try.underlying52 (by kernel_rfl) ?_
    refine eqf_cons (by kernel_rfl) (by kernel_rfl) (by kernel_rfl) (run_equalIn_int w _ _ .i64 _ _ _ Try.underlying3) ?_
    exact eqf_last (by kernel_rfl) (by kernel_rfl) (by kernel_rfl) (run_equalIn_string w _ _ _ _ Try.underlying9)
  stays := fun w x y h => by
    obtain rfl := eqKey_eq h
    simp [Instr.keyThatStays, keyV, Instr.sameBits, beq_toListBytes]

/-! ### items -/
/-- An item, as it lies in memory. -/
structure CI where
  kind : Int
  name : ByteArray
  ver : Int
  ha : Option Addr
  hc : Nat
  H : List ByteArray
  ba : Option Addr
  bc : Nat
  B : List Int
  going : Bool
def CI.cells (x : CI) : List Value := [.int .i64 x.kind, .string x.name, .int .i64 x.ver, .slice x.ha x.H.length x.hc, .slice x.ba x.B.length x.bc, .bool x.going]
def itemV (x : CI) : Value := .agg x.cells.toArray
/-- An item. -/
structure PI where
  kind : Int
  name : ByteArray
  ver : Int
  H : List ByteArray
  B : List Int
  going : Bool
def CI.pure (x : CI) : PI := ⟨x.kind, x.name, x.ver, x.H, x.B, x.going⟩
def noItem : CI := ⟨0, ⟨#[]⟩, 0, none, 0, [], none, 0, [], false⟩
def noPI : PI := ⟨0, ⟨#[]⟩, 0, [], [], false⟩
/-- The rows of an item can be read. -/
structure RowOK (w : World) (x : CI) : Prop where
  hr : Kd.C Kd.string w x.ha x.H.length x.H
  hc : x.H.length ≤ x.hc
  br : Kd.C (Kd.int .u8) w x.ba x.B.length x.B
  bc : x.B.length ≤ x.bc
theorem RowOK.below {w w' : World} {x : CI} (h : RowOK w x) (hb : Below w.heap.size w w') : RowOK w' x := ⟨Kd.C_below h.hr hb, h.hc, Kd.C_below h.br hb, h.bc⟩
theorem RowOK.none (w : World) : RowOK w noItem := ⟨Kd.C_nil _ _, Nat.le_refl _, Kd.C_nil _ _, Nat.le_refl _⟩

/-- The rows of an item are new ones: they lie in blocks from base on. -/
structure RowNew (w : World) (base : Nat) (x : CI) : Prop where
  hr : Kd.R Kd.string 9 w base (fun k => base ≤ k) (.slice x.ha x.H.length x.hc) x.H
  br : Kd.R (Kd.int .u8) 5 w base (fun k => base ≤ k) (.slice x.ba x.B.length x.bc) x.B
theorem RowNew.ok {w : World} {base : Nat} {x : CI} (h : RowNew w base x) : RowOK w x := ⟨(Kd.R_reads' h.hr).2.2, (Kd.R_reads' h.hr).2.1, (Kd.R_reads' h.br).2.2, (Kd.R_reads' h.br).2.1⟩
theorem RowNew.none (w : World) (base : Nat) : RowNew w base noItem := ⟨Kd.R_nil _ _ _ _ _, Kd.R_nil _ _ _ _ _⟩
theorem RowNew.below {w w' : World} {base : Nat} {x : CI} (h : RowNew w base x) (hb : Below w.heap.size w w') : RowNew w' base x := ⟨Kd.R_below h.hr hb, Kd.R_below h.br hb⟩
theorem RowNew.grown {w w' : World} {base g : Nat} {x : CI} (h : RowNew w base x) (hg : w.grownBy w' (some g)) (hlt : g < base) : RowNew w' base x :=
  ⟨Kd.R_grown h.hr hg (fun k (hk : base ≤ k) e => by have := Option.some.inj e; omega), Kd.R_grown h.br hg (fun k (hk : base ≤ k) e => by have := Option.some.inj e; omega)⟩
theorem RowNew.lower {w : World} {base base' : Nat} {x : CI} (h : RowNew w base x) (hb : base' ≤ base) : RowNew w base' x :=
  ⟨Kd.R_mono (Kd.R_lower h.hr hb) (fun k (hk : base ≤ k) => Nat.le_trans hb hk), Kd.R_mono (Kd.R_lower h.br hb) (fun k (hk : base ≤ k) => Nat.le_trans hb hk)⟩
/-! ### stores -/
structure St where
  L : List (Key × PI)
  n : Int
/-- The store at p: its map at b holds Lc, so often it was written. -/
structure StoreB (w : World) (p b : Nat) (Lc : List (Key × CI)) (n : Int) : Prop where
  blk : Blk w p [.map (some b), .int .i64 n] 49
  map : MapAt w b keyV itemV Lc
  rows : ∀ q ∈ Lc, RowOK w q.2
def erase (Lc : List (Key × CI)) : List (Key × PI) := Lc.map fun q => (q.1, q.2.pure)
def StoreAt (w : World) (p : Nat) (s : St) : Prop := ∃ b Lc, StoreB w p b Lc s.n ∧ erase Lc = s.L
theorem StoreB.below {w w' : World} {p b : Nat} {Lc : List (Key × CI)} {n : Int} (h : StoreB w p b Lc n) (hb : Below w.heap.size w w') : StoreB w' p b Lc n :=
  ⟨blk_below h.blk hb, h.map.kept (fun i hi _ => hb.block i hi), fun q hq => (h.rows q hq).below hb⟩
theorem StoreAt.below {w w' : World} {p : Nat} {s : St} (h : StoreAt w p s) (hb : Below w.heap.size w w') : StoreAt w' p s := by
  obtain ⟨b, Lc, h1, h2⟩ := h
  exact ⟨b, Lc, h1.below hb, h2⟩
theorem StoreB.cell0 {w : World} {p b : Nat} {Lc : List (Key × CI)} {n : Int} (h : StoreB w p b Lc n) : w.cell? ⟨p, 0, none⟩ = some (.map (some b)) := h.blk.cell 0
theorem StoreB.cell1 {w : World} {p b : Nat} {Lc : List (Key × CI)} {n : Int} (h : StoreB w p b Lc n) : w.cell? ⟨p, 1, none⟩ = some (.int .i64 n) := h.blk.cell 1
theorem look_erase (k : Key) : ∀ Lc : List (Key × CI), lookM eqKey k (erase Lc) = (lookM eqKey k Lc).map CI.pure
  | [] => rfl
  | q :: r => by
    unfold erase
    rw [List.map_cons]
    unfold lookM
    split
    · rfl
    · exact look_erase k r
theorem look_mem {k : Key} {x : CI} : ∀ {Lc : List (Key × CI)}, lookM eqKey k Lc = some x → ∃ q ∈ Lc, q.2 = x
  | q :: r, h => by
    unfold lookM at h
    split at h
    · exact ⟨q, by simp, Option.some.inj h⟩
    · obtain ⟨q', hq, e⟩ := look_mem h
      exact ⟨q', by simp [hq], e⟩
theorem zero_item (w : World) : (zeroValue 31).run Try.prog w = .ok (itemV noItem) w := by kernel_rfl
end Go.Proofs.Ytmankbhlgjgnbaa.PAll
end
section
namespace Go.Proofs.Ytmankbhlgjgnbaa.PAll
open Go.RowKit Go.Proofs.YtmankbhlgjgnbaaW.PrintWords Go.Proofs.YtmankbhlgjgnbaaW.PrintLast Go.Proofs.YtmankbhlgjgnbaaW.PrintMore Mem
set_option linter.unusedVariables false
set_option linter.unusedSimpArgs false
theorem info9_ : (Try.prog.info? 9).map (fun i => (i.zero, i.size, i.bytes)) = some (some (.string ⟨#[]⟩), 1, 16) := by kernel_rfl
theorem info5_ : (Try.prog.info? 5).map (fun i => (i.zero, i.size, i.bytes)) = some (some (.int .u8 0), 1, 1) := by kernel_rfl

/-- slices.Clone[[]string,string]: the same in new memory. -/
theorem clone_strs.calls (A0 : Option Addr) (c0 : Nat) (l0 : List ByteArray) (w : World) (hr0 : Kd.C Kd.string w A0 l0.length l0) (hc0 : l0.length ≤ c0) (hl : l0.length * 16 ≤ 140737488355328) :
    Calls Try.prog 32 #[.slice A0 l0.length c0] w fun e w' => ∃ (A : Option Addr) (c : Nat), e = .returned (.slice A l0.length c) ∧ Kd.R Kd.string 9 w' w.heap.size (fun _ => True) (.slice A l0.length c) l0 ∧ Below w.heap.size w w' := by
  have HR := Aside0.mk hr0
  clear hr0
  have k1 := fun (W : World) => Lib.run_eql_slice_nil (P := Try.prog) W 29 9 A0 l0.length c0 0 0 Try.underlying29
  have fin : ∀ (v : Value) (W : World), Kd.R Kd.string 9 W w.heap.size (fun _ => True) v l0 → ∃ (A : Option Addr) (c : Nat), v = .slice A l0.length c := fun v W h => by
    obtain ⟨A, c, e⟩ := Kd.R_slice h
    exact ⟨A, c, e⟩
  rcases A0 with _ | ad
  · have hz : l0 = [] := by
      rcases Nat.eq_zero_or_pos l0.length with h | h
      · exact List.eq_nil_of_length_eq_zero h
      · obtain ⟨_, e, _⟩ := HR.out.2.2 h
        cases e
    have HL := Aside0.mk hz
    clear hz hl
    go_enter Try.func32, Try.ntmps32
    go_wp2
    go_ret
    exact ⟨none, 0, by rw [HL.out]; rfl, by rw [HL.out]; exact Kd.R_nil _ _ _ _ _, Below.refl _ _⟩
  · go_enter Try.func32, Try.ntmps32
    have HO : Kd.R Kd.string 9 (w.alloc (.cells #[] 9)) w.heap.size (fun _ => True) (.slice (some ⟨w.heap.size, 0, none⟩) 0 0) [] :=
      ⟨fun _ _ => trivial, [], World.ownsRow_lit (e := 9) (size := 1) w #[] 0 (Nat.le_refl _) (by simp [maxLen]) rfl, Reps.none _ _⟩
    have HO' := Aside0.mk HO
    clear HO
    go_wp2_with (at_builtin; refine Kd.R_append_rows Kd.string (w0 := w) (W := w.alloc (.cells #[] 9)) (Rr := fun x cs => Kd.K Kd.string (w.alloc (.cells #[] 9)) x cs) w.heap.size rfl _ _ 29 9 _ 16 rfl Try.underlying29 info9_ rfl (by decide) (by decide) _ [] l0 (some ad) l0.length c0 (fun _ => True) (fun _ => False) rfl rfl HO'.out (Kd.C_below HR.out (below_alloc (Below.refl _ _) _)) (fun _ _ h => h) (fun _ h => h.elim) (fun _ _ => trivial) (below_alloc (Below.refl _ _) _) (by simp) (by simpa using hl) ?_; intro v1 w1 hv hb _ _; have HV := Aside0.mk hv; have HB := Aside0.mk hb; clear hv hb)
    go_ret
    obtain ⟨A, c, e⟩ := fin _ _ HV.out
    subst e
    exact ⟨A, c, rfl, HV.out, HB.out⟩

/-- slices.Clone[[]byte,byte]: the same in new memory. -/
theorem clone_bytes.calls (A0 : Option Addr) (c0 : Nat) (l0 : List Int) (w : World) (hr0 : Kd.C (Kd.int .u8) w A0 l0.length l0) (hc0 : l0.length ≤ c0) (hl : l0.length * 1 ≤ 140737488355328) :
    Calls Try.prog 28 #[.slice A0 l0.length c0] w fun e w' => ∃ (A : Option Addr) (c : Nat), e = .returned (.slice A l0.length c) ∧ Kd.R (Kd.int .u8) 5 w' w.heap.size (fun _ => True) (.slice A l0.length c) l0 ∧ Below w.heap.size w w' := by
  have HR := Aside0.mk hr0
  clear hr0
  have k1 := fun (W : World) => Lib.run_eql_slice_nil (P := Try.prog) W 26 5 A0 l0.length c0 0 0 Try.underlying26
  have fin : ∀ (v : Value) (W : World), Kd.R (Kd.int .u8) 5 W w.heap.size (fun _ => True) v l0 → ∃ (A : Option Addr) (c : Nat), v = .slice A l0.length c := fun v W h => by
    obtain ⟨A, c, e⟩ := Kd.R_slice h
    exact ⟨A, c, e⟩
  rcases A0 with _ | ad
  · have hz : l0 = [] := by
      rcases Nat.eq_zero_or_pos l0.length with h | h
      · exact List.eq_nil_of_length_eq_zero h
      · obtain ⟨_, e, _⟩ := HR.out.2.2 h
        cases e
    have HL := Aside0.mk hz
    clear hz hl
    go_enter Try.func28, Try.ntmps28
    go_wp2
    go_ret
    exact ⟨none, 0, by rw [HL.out]; rfl, by rw [HL.out]; exact Kd.R_nil _ _ _ _ _, Below.refl _ _⟩
  · go_enter Try.func28, Try.ntmps28
    have HO : Kd.R (Kd.int .u8) 5 (w.alloc (.cells #[] 5)) w.heap.size (fun _ => True) (.slice (some ⟨w.heap.size, 0, none⟩) 0 0) [] :=
      ⟨fun _ _ => trivial, [], World.ownsRow_lit (e := 5) (size := 1) w #[] 0 (Nat.le_refl _) (by simp [maxLen]) rfl, Reps.none _ _⟩
    have HO' := Aside0.mk HO
    clear HO
    go_wp2_with (at_builtin; refine Kd.R_append_rows (Kd.int .u8) (w0 := w) (W := w.alloc (.cells #[] 5)) (Rr := fun x cs => Kd.K (Kd.int .u8) (w.alloc (.cells #[] 5)) x cs) w.heap.size rfl _ _ 26 5 _ 1 rfl Try.underlying26 info5_ rfl (by decide) (by decide) _ [] l0 (some ad) l0.length c0 (fun _ => True) (fun _ => False) rfl rfl HO'.out (Kd.C_below HR.out (below_alloc (Below.refl _ _) _)) (fun _ _ h => h) (fun _ h => h.elim) (fun _ _ => trivial) (below_alloc (Below.refl _ _) _) (by simp) (by simpa using hl) ?_; intro v1 w1 hv hb _ _; have HV := Aside0.mk hv; have HB := Aside0.mk hb; clear hv hb)
    go_ret
    obtain ⟨A, c, e⟩ := fin _ _ HV.out
    subst e
    exact ⟨A, c, rfl, HV.out, HB.out⟩
end Go.Proofs.Ytmankbhlgjgnbaa.PAll
end
