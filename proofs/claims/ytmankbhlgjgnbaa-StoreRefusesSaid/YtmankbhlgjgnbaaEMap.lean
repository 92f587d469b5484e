import Derived.Test.YtmankbhlgjgnbaaWMore
import Derived.Maps.Own
/-! Maps that the program makes for itself, keyed by structs: what a look-up and a store do, over a list of entries. -/
set_option linter.unusedVariables false
set_option linter.unusedSimpArgs false
namespace Go.Proofs.Ytmankbhlgjgnbaa.Mem
open Go.RowKit Go.MapKept

/-- What is needed of the key's type. -/
structure KeyRun (P : Program) (k : TypeId) {α : Type} (val : α → Value) (eq : α → α → Bool) : Prop where
  kind : ∃ fs, P.underlying k = some (.struct fs)
  check : ∀ w em x, (Instr.checkKey em 10000 k (val x)).run P w = .ok () w
  equal : ∀ w x y, (Op.equal k (val x) (val y)).run P w = .ok (eq x y) w
  stays : ∀ w x y, eq x y = true → (Instr.keyThatStays (val y) (val x)).run P w = .ok (val x) w

variable {P : Program} {k : TypeId} {α β : Type} {val : α → Value} {elt : β → Value} {eq : α → α → Bool}

/-- The block is a map of these entries, in the order in which they came. -/
def MapAt (w : World) (b : Nat) (val : α → Value) (elt : β → Value) (L : List (α × β)) : Prop :=
  ∃ es clock, w.heap[b]? = some (.map es clock) ∧ es.toList.map (fun e => (e.key, e.val)) = L.map (fun p => (val p.1, elt p.2))

def findI (eq : α → α → Bool) (x : α) : List (α × β) → Nat → Option (Nat × β)
  | [], _ => none
  | p :: r, i => if eq x p.1 = true then some (i, p.2) else findI eq x r (i + 1)
def lookM (eq : α → α → Bool) (x : α) : List (α × β) → Option β
  | [] => none
  | p :: r => if eq x p.1 = true then some p.2 else lookM eq x r
def putM (eq : α → α → Bool) (x : α) (v : β) : List (α × β) → List (α × β)
  | [] => [(x, v)]
  | p :: r => if eq x p.1 = true then (x, v) :: r else p :: putM eq x v r

theorem findI_look (x : α) : ∀ (L : List (α × β)) (i : Nat), (findI eq x L i).map (·.2) = lookM eq x L
  | [], _ => rfl
  | p :: r, i => by
    unfold findI lookM
    split
    · rfl
    · exact findI_look x r (i + 1)
theorem findI_none (x : α) (v : β) : ∀ (L : List (α × β)) (i : Nat), findI eq x L i = none → putM eq x v L = L ++ [(x, v)]
  | [], _, _ => rfl
  | p :: r, i, h => by
    unfold findI at h
    unfold putM
    split at h
    · cases h
    · rename_i hc
      rw [if_neg hc, findI_none x v r _ h]
      rfl
theorem findI_some (x : α) (v : β) : ∀ (L : List (α × β)) (i j : Nat) (u : β), findI eq x L i = some (j, u) → ∃ d p, j = i + d ∧ L[d]? = some p ∧ eq x p.1 = true ∧ putM eq x v L = L.set d (x, v)
  | [], _, _, _, h => by cases h
  | p :: r, i, j, u, h => by
    unfold findI at h
    unfold putM
    split at h
    · rename_i hc
      obtain ⟨rfl, rfl⟩ := Prod.mk.inj (Option.some.inj h)
      exact ⟨0, p, rfl, rfl, hc, by rw [if_pos hc]; rfl⟩
    · rename_i hc
      obtain ⟨d, q, rfl, h1, h2, h3⟩ := findI_some x v r _ _ _ h
      exact ⟨d + 1, q, by omega, h1, h2, by rw [if_neg hc, h3]; rfl⟩

theorem run_findAsking (K : KeyRun P k val eq) (w : World) (x : α) : ∀ (es : List MapEntry) (L : List (α × β)) (i : Nat), es.map (fun e => (e.key, e.val)) = L.map (fun p => (val p.1, elt p.2)) →
    (Instr.findAsking k (val x) es i).run P w = .ok ((findI eq x L i).map fun q => (q.1, elt q.2)) w
  | [], [], _, _ => rfl
  | [], p :: r, _, h => by cases h
  | e :: es, [], _, h => by cases h
  | e :: es, p :: r, i, h => by
    rw [List.map_cons, List.map_cons] at h
    obtain ⟨h1, h2⟩ := List.cons.inj h
    obtain ⟨hk, hv⟩ := Prod.mk.inj h1
    have ih := run_findAsking K w x es r (i + 1) h2
    unfold Instr.findAsking findI
    simp only [Sem.run_bind, hk, K.equal w x p.1, Result.andThen_ok]
    by_cases hc : eq x p.1 = true
    · simp [hc, hv]
    · simp [hc, ih]

theorem run_findKey_struct (K : KeyRun P k val eq) (w : World) (x : α) (es : List MapEntry) (L : List (α × β)) (h : es.map (fun e => (e.key, e.val)) = L.map (fun p => (val p.1, elt p.2))) :
    (Instr.findKey k (val x) es).run P w = .ok ((findI eq x L 0).map fun q => (q.1, elt q.2)) w := by
  obtain ⟨fs, hfs⟩ := K.kind
  have hf := run_findAsking K w x es L 0 h
  cases es with
  | nil =>
    cases L with
    | nil => simp [Instr.findKey, run_underlying hfs, Instr.findNow, findI]
    | cons p r => cases h
  | cons e es =>
    have hn : Instr.findNow (.struct fs) (val x) (e :: es) 0 = none := by simp [Instr.findNow, Instr.sameNow]
    simp only [Instr.findKey, Sem.run_bind, run_underlying hfs, Result.andThen_ok, hn]
    exact hf

/-- 'm[x]', without 'ok'. -/
theorem run_lookM (K : KeyRun P k val eq) {t e : TypeId} (ht : P.underlying t = some (.map k e)) {w : World} {b : Nat} {L : List (α × β)} (h : MapAt w b val elt L) (x : α) {z : Value} (hz : (zeroValue e).run P w = .ok z w) :
    (Instr.lookup t (.map (some b)) (val x) false).run P w = .ok (((lookM eq x L).map elt).getD z) w := by
  obtain ⟨es, clock, hb, hl⟩ := h
  have hf := run_findKey_struct K w x es.toList L hl
  have e1 := findI_look (eq := eq) x L 0
  rw [← e1]
  simp only [Instr.lookup, Sem.run_bind, run_underlying ht, Result.andThen_ok, MapKept.run_getObj_map hb, K.check, hf, Sem.run_pure]
  cases findI eq x L 0 with
  | none => simp [hz]
  | some q => simp
/-- 'v, ok := m[x]'. -/
theorem run_lookM_ok (K : KeyRun P k val eq) {t e : TypeId} (ht : P.underlying t = some (.map k e)) {w : World} {b : Nat} {L : List (α × β)} (h : MapAt w b val elt L) (x : α) {z : Value} (hz : (zeroValue e).run P w = .ok z w) :
    (Instr.lookup t (.map (some b)) (val x) true).run P w = .ok (.tuple #[((lookM eq x L).map elt).getD z, .bool (lookM eq x L).isSome]) w := by
  obtain ⟨es, clock, hb, hl⟩ := h
  have hf := run_findKey_struct K w x es.toList L hl
  have e1 := findI_look (eq := eq) x L 0
  rw [← e1]
  simp only [Instr.lookup, Sem.run_bind, run_underlying ht, Result.andThen_ok, MapKept.run_getObj_map hb, K.check, hf, Sem.run_pure]
  cases findI eq x L 0 with
  | none => simp [hz]
  | some q => simp

/-- 'm[x] = v'. -/
theorem run_putM (K : KeyRun P k val eq) {t e : TypeId} (ht : P.underlying t = some (.map k e)) {w : World} {b : Nat} {L : List (α × β)} (h : MapAt w b val elt L) (x : α) (v : β) :
    ∃ w', (Instr.mapUpdate t (.map (some b)) (val x) (elt v)).run P w = .ok () w' ∧ MapAt w' b val elt (putM eq x v L) ∧ w.grownBy w' (some b) := by
  obtain ⟨es, clock, hb, hl⟩ := h
  have hf := run_findKey_struct K w x es.toList L hl
  cases hi : findI eq x L 0 with
  | none =>
    rw [hi] at hf
    refine ⟨ChangeMaps.setBlock w b (.map (es.push { key := val x, val := elt v, born := clock }) (clock + 1)), ?_, ⟨_, _, ChangeMaps.heap_setBlock_same hb _, ?_⟩, ⟨rfl, rfl, rfl, by simp [ChangeMaps.setBlock], fun i _ hn => ChangeMaps.heap_setBlock_other hb _ (fun e => hn (by rw [e]))⟩⟩
    · simp [Instr.mapUpdate, run_underlying ht, MapKept.run_getObj_map hb, K.check, hf, MapKept.run_setObj_map _ hb, Result.andThen, ChangeMaps.setBlock]
    · rw [findI_none x v L 0 hi, Array.toList_push, List.map_append, List.map_append, hl]
      rfl
  | some q =>
    obtain ⟨j, u⟩ := q
    rw [hi] at hf
    obtain ⟨d, p, rfl, h1, h2, h3⟩ := findI_some x v L 0 j u hi
    rw [Nat.zero_add] at hf
    have hkey : ∃ e0, es[d]? = some e0 ∧ e0.key = val p.1 := by
      have e1 : (es.toList.map (fun e => (e.key, e.val)))[d]? = some (val p.1, elt p.2) := by rw [hl, List.getElem?_map, h1]; rfl
      rw [List.getElem?_map] at e1
      cases h4 : es.toList[d]? with
      | none => rw [h4] at e1; cases e1
      | some e0 =>
        rw [h4] at e1
        exact ⟨e0, by rw [← Array.getElem?_toList]; exact h4, (Prod.mk.inj (Option.some.inj e1)).1⟩
    obtain ⟨e0, he0, hk0⟩ := hkey
    refine ⟨ChangeMaps.setBlock w b (.map (es.modify d fun e => { e with key := val x, val := elt v }) clock), ?_, ⟨_, _, ChangeMaps.heap_setBlock_same hb _, ?_⟩, ⟨rfl, rfl, rfl, by simp [ChangeMaps.setBlock], fun i _ hn => ChangeMaps.heap_setBlock_other hb _ (fun e => hn (by rw [e]))⟩⟩
    · simp [Instr.mapUpdate, run_underlying ht, MapKept.run_getObj_map hb, K.check, hf, he0, hk0, K.stays w x p.1 h2, MapKept.run_setObj_map _ hb, Result.andThen, ChangeMaps.setBlock]
    · rw [h3]
      have hlt : d < es.size := (Array.getElem?_eq_some_iff.1 he0).1
      refine List.ext_getElem? fun n => ?_
      have hn := congrArg (fun l => l[n]?) hl
      simp only [List.getElem?_map, List.getElem?_set, Array.getElem?_toList, Array.getElem?_modify] at hn ⊢
      have hsz : L.length = es.size := by
        have := congrArg List.length hl
        simpa using this.symm
      by_cases hnd : d = n
      · subst hnd
        simp [he0, hsz, hlt]
      · simp [hnd, hn]

theorem MapAt.made (w : World) (val : α → Value) (elt : β → Value) : MapAt (w.alloc (.map #[] 0)) w.heap.size val elt [] := ⟨#[], 0, (heap_alloc w _).1, rfl⟩
theorem MapAt.lt {w : World} {b : Nat} {L : List (α × β)} (h : MapAt w b val elt L) : b < w.heap.size := by
  obtain ⟨es, clock, hb, _⟩ := h
  exact (Array.getElem?_eq_some_iff.1 hb).1
theorem MapAt.kept {w w' : World} {b : Nat} {L : List (α × β)} (h : MapAt w b val elt L) (hk : ∀ i, i < w.heap.size → i = b → w'.heap[i]? = w.heap[i]?) : MapAt w' b val elt L := by
  have hlt := h.lt
  obtain ⟨es, clock, hb, hl⟩ := h
  exact ⟨es, clock, (hk b hlt rfl).trans hb, hl⟩

/-- 'm[x] = v' at the operation, for the walk. -/
theorem wpList_putM (w : World) {ops : Array Oper} {rest : List Oper} {o : Oper} {a : Act} {Q : Exit → Act → World → Prop}
    (hg : o.guard = none) (m x v : Operand) (t : TypeId) (hop : o.op = Op.mapUpdate t m x v) (e : TypeId) (K : KeyRun P k val eq) (ht : P.underlying t = some (.map k e)) (b : Nat) (L : List (α × β))
    (hm : a.eval m = .map (some b)) (h : MapAt w b val elt L) (x0 : α) (v0 : β) (hx : a.eval x = val x0) (hv : a.eval v = elt v0)
    (hK : ∀ w', MapAt w' b val elt (putM eq x0 v0 L) → w.grownBy w' (some b) → wpList P ops Q rest (a.put o.dst undef) w') :
    wpList P ops Q (o :: rest) a w := by
  refine wpList_plain hg fun K' hK' => ?_
  obtain ⟨w', hrun, r1, r2⟩ := run_putM K ht h x0 v0
  unfold Oper.wp
  simp [execOp, hop, hm, hx, hv, hrun, Result.andThen]
  exact hK' _ _ (hK w' r1 r2)
end Go.Proofs.Ytmankbhlgjgnbaa.Mem
