import Derived.Test.YtonkoellfaopiaaGreatDoorV0
import Derived.Laws.Sem
import Derived.Laws.Entries
import Derived.ChangeKeysEq
import Derived.Lib.Bytes
import Derived.WideLaws
import Derived.Laws.StructEq
import Derived.Laws.Cells
set_option linter.unusedSimpArgs false
set_option linter.unusedVariables false
namespace Go.Proofs.YtonkoellfaopiaaGreatDoor.H
open Go Go.RowKit
section
variable {P : Program} {G : Gh} {w : World} {nt : Nat} {fr : Fr} {a : Act}
theorem srep_v {x v : Value} (h : SRep G w (.t (.v x)) v) : v = x ∧ x.oneCell' = true := by
 cases h with | t h => cases h with | v _ ho => exact ⟨rfl, ho⟩
theorem srep_sv {x : Value} (h : x.oneCell' = true) : SRep G w (sv x) x := .t (.v x h)
theorem srep_agg {cs : List S} {v : Value} (h : SRep G w (.agg cs) v) : ∃ vs, v = .agg vs ∧ cs.length = vs.size ∧ ∀ (i : Nat) (s : S) (v : Value), cs[i]? = some s → vs[i]? = some v → SRep G w s v := by
 cases h with | agg hl h => exact ⟨_, rfl, hl, h⟩
theorem srep_tup {cs : List S} {v : Value} (h : SRep G w (.tup cs) v) : ∃ vs, v = .tuple vs ∧ cs.length = vs.size ∧ ∀ (i : Nat) (s : S) (v : Value), cs[i]? = some s → vs[i]? = some v → SRep G w s v := by
 cases h with | tup hl h => exact ⟨_, rfl, hl, h⟩
def LRep (G : Gh) (w : World) (cs : List S) (vs : List Value) : Prop := cs.length = vs.length ∧ ∀ (i : Nat) (s : S) (v : Value), cs[i]? = some s → vs[i]? = some v → SRep G w s v
theorem srep_agg' {cs : List S} {v : Value} (h : SRep G w (.agg cs) v) : ∃ vs, v = .agg vs ∧ LRep G w cs vs.toList := by
 obtain ⟨vs, rfl, hl, h⟩ := srep_agg h
 exact ⟨vs, rfl, by simpa using hl, fun i s v h1 h2 => h i s v h1 (by simpa using h2)⟩
theorem LRep.agg {cs : List S} {vs : List Value} (h : LRep G w cs vs) : SRep G w (.agg cs) (.agg vs.toArray) :=
 .agg (by simpa using h.1) fun i s v h1 h2 => h.2 i s v h1 (by simpa using h2)
theorem LRep.agg' {cs : List S} {vs : Array Value} (h : LRep G w cs vs.toList) : SRep G w (.agg cs) (.agg vs) :=
 .agg (by simpa using h.1) fun i s v h1 h2 => h.2 i s v h1 (by simpa using h2)
theorem LRep.drop {cs : List S} {vs : List Value} (h : LRep G w cs vs) (n : Nat) : LRep G w (cs.drop n) (vs.drop n) :=
 ⟨by simp [h.1], fun i s v h1 h2 => h.2 (n + i) s v (by simpa using h1) (by simpa using h2)⟩
theorem LRep.take {cs : List S} {vs : List Value} (h : LRep G w cs vs) (n : Nat) : LRep G w (cs.take n) (vs.take n) :=
 ⟨by simp [h.1], fun i s v h1 h2 => by
  rw [List.getElem?_take] at h1 h2
  split at h1
  ·rename_i hi; rw [if_pos hi] at h2; exact h.2 i s v h1 h2
  ·cases h1⟩
theorem LRep.set {cs : List S} {vs : List Value} (h : LRep G w cs vs) (n : Nat) {s : S} {v : Value} (hs : SRep G w s v) : LRep G w (cs.set n s) (vs.set n v) :=
 ⟨by simp [h.1], fun i s' v' h1 h2 => by
  rw [List.getElem?_set] at h1 h2
  by_cases e : n = i
  ·rw [if_pos e] at h1 h2
   split at h1
   ·rw [if_pos (by rw [← h.1]; assumption)] at h2
    obtain rfl := Option.some.inj h1
    obtain rfl := Option.some.inj h2
    exact hs
   ·cases h1
  ·rw [if_neg e] at h1 h2
   exact h.2 i s' v' h1 h2⟩
theorem LRep.nil : LRep G w [] [] := ⟨rfl, fun i s v h => by simp at h⟩
theorem LRep.cons {s : S} {v : Value} {cs : List S} {vs : List Value} (h : SRep G w s v) (t : LRep G w cs vs) : LRep G w (s :: cs) (v :: vs) :=
 ⟨by simp [t.1], fun i s' v' h1 h2 => by
  cases i with
  | zero => simp at h1 h2; subst h1; subst h2; exact h
  | succ i => simp at h1 h2; exact t.2 i s' v' h1 h2⟩
theorem LRep.uncons {s : S} {cs : List S} {vs : List Value} (h : LRep G w (s :: cs) vs) : ∃ v r, vs = v :: r ∧ SRep G w s v ∧ LRep G w cs r := by
 cases vs with
 | nil => have := h.1; simp at this
 | cons v r => exact ⟨v, r, rfl, h.2 0 s v (by simp) (by simp), ⟨by have := h.1; simpa using this, fun i s' v' h1 h2 => h.2 (i + 1) s' v' (by simpa using h1) (by simpa using h2)⟩⟩
theorem LRep.append {cs cs' : List S} {vs vs' : List Value} (h : LRep G w cs vs) (h' : LRep G w cs' vs') : LRep G w (cs ++ cs') (vs ++ vs') :=
 ⟨by simp [h.1, h'.1], fun i s v h1 h2 => by
  rw [List.getElem?_append] at h1 h2
  rw [h.1] at h1
  split at h1
  ·rename_i hi; rw [if_pos hi] at h2; exact h.2 i s v h1 h2
  ·rename_i hi; rw [if_neg hi] at h2; exact h'.2 _ s v h1 h2⟩
theorem srep_cells {s : S} {v : Value} (h : SRep G w s v) (hs : defS s = true) : LRep G w (cellsOfS s) v.cells.toList := by
 cases h with
 | agg hl h => exact ⟨by simpa [cellsOfS, Value.cells] using hl, fun i s v h1 h2 => h i s v h1 (by simpa [Value.cells] using h2)⟩
 | un => cases hs
 | t h => cases h with
  | v x ho =>
   have : v.cells = #[v] := by cases v <;> first | rfl | (simp [Value.oneCell'] at ho)
   rw [this]; exact .cons (.t (.v v ho)) .nil
  | rows sz n get base cap vs hcap hl hb hc => exact .cons (.t (.rows sz n get base cap vs hcap hl hb hc)) .nil
 | tup hl h => exact .cons (.tup hl h) .nil
 | full h => exact .cons (.full h) .nil
 | pt hi h => exact .cons (.pt hi h) .nil
 | ptr h => exact .cons (.ptr h) .nil
 | sl h hb => exact .cons (.sl h hb) .nil
 | ep h => exact .cons (.ep h) .nil
 | fn a b c d => exact .cons (.fn a b c d) .nil
 | nn t v => exact .cons (.nn t v) .nil
 | ud => exact .cons .ud .nil
 | mp h => exact .cons (.mp h) .nil
 | mt a b c d e f => exact .cons (.mt a b c d e f) .nil
 | it a b => exact .cons (.it a b) .nil
theorem bytesEq_iff : ∀ (a b : List UInt8), bytesEq a b = (a == b)
 | [], [] => rfl
 | [], _ :: _ => rfl
 | _ :: _, [] => rfl
 | x :: a, y :: b => by
  simp only [bytesEq, bytesEq_iff a b, List.cons_beq_cons]
  cases e : x.toNat.beq y.toNat
  ·have : (x == y) = false := by
    have h : x.toNat ≠ y.toNat := by intro h; rw [h] at e; simp at e
    simp only [beq_eq_false_iff_ne, ne_eq]; intro h'; exact h (by rw [h'])
   simp [this]
  ·have : x = y := UInt8.toNat_inj.1 (Nat.eq_of_beq_eq_true e)
   simp [this]
theorem binInt_run (op : BinOp) (t : TypeId) (k : IntKind) (x y : Int) {s : Value} (h : binInt op k x y = some s) (hsh : op ≠ .shl ∧ op ≠ .shr) : (binOp op t (.int k x) (.int k y)).run P w = .ok s w ∧ s.oneCell' = true := by
 cases op <;> simp only [binInt] at h <;> first
  | (obtain rfl := Option.some.inj h; exact ⟨by simp [binOp, Op.intArith, Op.intCmp, Op.intBits] <;> rfl, rfl⟩)
  | (by_cases e : y = 0
     ·simp [e] at h
     ·simp only [e, decide_false, cond_false] at h
      obtain rfl := Option.some.inj h
      exact ⟨by simp [binOp, Op.intDiv, e], rfl⟩)
  | (cases h; done)
  | (exact absurd rfl hsh.1)
  | (exact absurd rfl hsh.2)
theorem binShift_run (op : BinOp) (t : TypeId) (k k' : IntKind) (x y : Int) {s : Value} (h : binShift op k x y = some s) : (binOp op t (.int k x) (.int k' y)).run P w = .ok s w ∧ s.oneCell' = true := by
 unfold binShift at h
 by_cases e : y < 0
 ·simp [e] at h
 ·simp only [e, decide_false, cond_false] at h
  cases op <;> simp only at h <;> first
   | (obtain rfl := Option.some.inj h; exact ⟨by simp [binOp, Op.shift, e], rfl⟩)
   | (cases h; done)
theorem binStr_run (op : BinOp) (t : TypeId) (x y : ByteArray) {s : Value} (h : binStr op x y = some s) : (binOp op t (.string x) (.string y)).run P w = .ok s w ∧ s.oneCell' = true := by
 have heq : (x.toList == y.toList) = strEq x y := by simp only [strEq, bytesEq_iff, Lib.toList_data]
 have hlt : Op.bytesLess x.toList y.toList = strLt x y := by simp only [strLt, Lib.toList_data]
 cases op <;> simp only [binStr] at h <;> first
  | (cases e : decide (x.size + y.size ≤ strMax) with
     | false => rw [e] at h; cases h
     | true =>
      rw [e] at h
      obtain rfl := Option.some.inj h
      have e' : x.size + y.size ≤ strMax := of_decide_eq_true e
      have : ¬ (((x.size + y.size : Nat) : Int) > IntKind.i64.max) := by
       have h1 : IntKind.i64.max = 9223372036854775807 := by rfl
       rw [h1]; unfold strMax at e'; omega
      exact ⟨by simp only [binOp, Op.stringOp, if_neg this, Sem.run_pure], rfl⟩)
  | (obtain rfl := Option.some.inj h; exact ⟨by simp only [binOp, Op.stringOp, Sem.run_pure, heq, hlt], rfl⟩)
  | (cases h; done)
theorem run_isAgg (t : TypeId) {d : TypeDesc} (h : P.underlying t = some d) : (isAgg t).run P w = .ok (isAggB P t) w := by
 unfold isAgg isAggB
 rw [Sem.run_bind, run_underlying h, h]
 cases d <;> rfl
theorem info_of_underlying {t : TypeId} {d : TypeDesc} (h : P.underlying t = some d) : ∃ i, P.info? t = some i := by
 unfold Program.underlying at h
 split at h <;> rename_i e <;> first | exact ⟨_, e⟩ | cases h
theorem cellsOf_of_info {t : TypeId} {i : TypeInfo} (h : P.info? t = some i) : P.cellsOf t = i.size := by simp [Program.cellsOf, h]
theorem run_sizeOf_ok {t : TypeId} {d : TypeDesc} (h : P.underlying t = some d) : (sizeOf t).run P w = .ok (P.cellsOf t) w := by
 obtain ⟨i, hi⟩ := info_of_underlying h
 exact run_sizeOf w hi
theorem run_part_ok {t : TypeId} {d : TypeDesc} (ht : P.underlying t = some d) {cs : List S} {vs : Array Value} {o : Nat} {s : S} (hc : LRep G w cs vs.toList) (h : takeS (isAggB P t) (P.cellsOf t) (cs.drop o) = some s) :
  ∃ v, (part t vs o).run P w = .ok v w ∧ SRep G w s v := by
 unfold part
 simp only [Sem.run_bind, run_isAgg t ht, Result.andThen_ok]
 unfold takeS at h
 cases e : isAggB P t
 ·rw [e] at h
  simp only [cond_false] at h
  cases hd : cs.drop o with
  | nil => rw [hd] at h; cases h
  | cons c r =>
   rw [hd] at h
   obtain rfl := Option.some.inj h
   obtain ⟨v, r', hv, hs, _⟩ := LRep.uncons (hd ▸ hc.drop o)
   have hv' : vs[o]? = some v := by
    have : (vs.toList.drop o)[0]? = some v := by rw [hv]; rfl
    simpa using this
   exact ⟨v, by simp [hv'], hs⟩
 ·rw [e] at h
  simp only [cond_true] at h
  cases hl : (P.cellsOf t).ble (cs.drop o).length with
  | false => rw [hl] at h; cases h
  | true =>
   rw [hl] at h
   obtain rfl := Option.some.inj h
   refine ⟨.agg (vs.extract o (o + P.cellsOf t)), by simp only [if_true, Sem.run_bind, run_sizeOf_ok ht, Result.andThen_ok, Sem.run_pure], ?_⟩
   have : (vs.extract o (o + P.cellsOf t)).toList = (vs.toList.drop o).take (P.cellsOf t) := by simp [Array.toList_extract, List.extract_eq_take_drop]
   exact LRep.agg' (by rw [this]; exact (hc.drop o).take _)
theorem fieldOf_spec {t : TypeId} {f o : Nat} {ft : TypeId} (h : fieldOf P t f = some (o, ft)) : ∃ fs x, P.underlying t = some (.struct fs) ∧ fs[f]? = some x ∧ x.offset = o ∧ x.type = ft ∧ P.cellsOf ft ≠ 0 := by
 unfold fieldOf at h
 split at h
 ·rename_i fs hu
  split at h
  ·rename_i x hx
   cases e : (P.cellsOf x.type).beq 0 with
   | true => rw [e] at h; cases h
   | false =>
    rw [e] at h
    simp only [cond_false, Option.some.injEq, Prod.mk.injEq] at h
    refine ⟨fs, x, hu, hx, h.1, h.2, ?_⟩
    rw [← h.2]
    intro h0; rw [h0] at e; cases e
  ·cases h
 ·cases h
end
section
variable {P : Program} {G : Gh} {w : World} {nt : Nat} {fr : Fr} {a : Act}
theorem setFrom_rep : ∀ (xs : List S) (us : List Value) (cs : List S) (vs : List Value) (o : Nat), LRep G w cs vs → LRep G w xs us →
  LRep G w (setFrom cs o xs) ((us.zipIdx o).foldl (fun cs p => cs.set p.2 p.1) vs)
 | [], us, cs, vs, o, h, h' => by
  have : us = [] := List.length_eq_zero_iff.1 h'.1.symm
  subst this; exact h
 | x :: xs, us, cs, vs, o, h, h' => by
  obtain ⟨u, r, rfl, hu, hr⟩ := h'.uncons
  exact setFrom_rep xs r _ _ (o + 1) (h.set o hu) hr
theorem foldl_set_toList (off : Nat) : ∀ (l : List (Value × Nat)) (c : Array Value), (l.foldl (fun cs (p : Value × Nat) => cs.setIfInBounds (off + p.2) p.1) c).toList = l.foldl (fun cs p => cs.set (off + p.2) p.1) c.toList
 | [], _ => rfl
 | x :: r, c => by simp only [List.foldl_cons, foldl_set_toList off r, Array.toList_setIfInBounds]
theorem zipIdx_shift (off : Nat) : ∀ (l : List Value) (k : Nat) (c : List Value), (l.zipIdx (off + k)).foldl (fun cs p => cs.set p.2 p.1) c = (l.zipIdx k).foldl (fun cs p => cs.set (off + p.2) p.1) c
 | [], _, _ => rfl
 | x :: r, k, c => by
  simp only [List.zipIdx_cons, List.foldl_cons]
  rw [← zipIdx_shift off r (k + 1)]
  rfl
theorem fill_rep (place : Nat → Option (Nat × Nat)) : ∀ (parts : List (Nat × S)) (vparts : List (Nat × Value)) (cs : List S) (c : Array Value) (out : List S),
  LRep G w cs c.toList → parts.length = vparts.length → (∀ (i : Nat) (p : Nat × S) (q : Nat × Value), parts[i]? = some p → vparts[i]? = some q → p.1 = q.1 ∧ SRep G w p.2 q.2) →
  fillS place cs parts = some out → ∃ c', Instr.fill place c vparts = some c' ∧ LRep G w out c'.toList
 | [], vparts, cs, c, out, hc, hl, _, h => by
  have : vparts = [] := List.length_eq_zero_iff.1 hl.symm
  subst this
  simp only [fillS, Option.some.injEq] at h
  subst h
  exact ⟨c, rfl, hc⟩
 | (i, s) :: rest, vparts, cs, c, out, hc, hl, hp, h => by
  cases vparts with
  | nil => simp at hl
  | cons q vrest =>
   obtain ⟨j, v⟩ := q
   obtain ⟨e, hs⟩ := hp 0 (i, s) (j, v) rfl rfl
   simp only at e hs
   subst e
   unfold fillS at h
   cases hpl : place i with
   | none => rw [hpl] at h; cases h
   | some os =>
    obtain ⟨off, size⟩ := os
    rw [hpl] at h
    simp only at h
    cases hb : defS s && (cellsOfS s).length.beq size && (off + (cellsOfS s).length).ble cs.length with
    | false => rw [hb] at h; cases h
    | true =>
      rw [hb, cond_true] at h
      rw [Bool.and_eq_true, Bool.and_eq_true] at hb
      have hsz : (cellsOfS s).length = size := Nat.eq_of_beq_eq_true hb.1.2
      have hle : off + (cellsOfS s).length ≤ cs.length := Nat.le_of_ble_eq_true hb.2
      have hvc : LRep G w (cellsOfS s) v.cells.toList := srep_cells hs hb.1.1
      have hlen : v.cells.size = (cellsOfS s).length := by have := hvc.1; simpa using this.symm
      unfold Instr.fill
      simp only [hpl]
      have hcl : cs.length = c.size := by simpa using hc.1
      rw [if_neg (show ¬ (decide (v.cells.size ≠ size) || decide (off + v.cells.size > c.size)) = true by simp; omega)]
      refine fill_rep place rest vrest _ _ out ?_ (by simpa using hl) (fun k p q h1 h2 => hp (k + 1) p q (by simpa using h1) (by simpa using h2)) h
      have h2 := setFrom_rep _ _ _ _ off hc hvc
      have h3 : ((v.cells.zipIdx.foldl (fun cs (x : Value × Nat) => cs.setIfInBounds (off + x.2) x.1) c)).toList = (v.cells.toList.zipIdx off).foldl (fun cs p => cs.set p.2 p.1) c.toList := by
       rw [← Array.foldl_toList, foldl_set_toList, Array.toList_zipIdx]
       exact (zipIdx_shift off _ 0 _).symm
      rw [← h3] at h2
      exact h2
theorem zeroS_spec {t : TypeId} {z : S} (h : zeroS P t = some z) : ∃ i v, P.info? t = some i ∧ i.zero = some v ∧ z = constS v := by
 unfold zeroS at h
 split at h
 ·rename_i i hi
  obtain ⟨v, hv, e⟩ := Option.map_eq_some_iff.1 h
  exact ⟨i, v, hi, hv, e.symm⟩
 ·cases h
theorem run_zeroValue_ok {t : TypeId} {i : TypeInfo} {v : Value} (hi : P.info? t = some i) (hz : i.zero = some v) : (zeroValue t).run P w = .ok v w := by
 simp [zeroValue, typeInfo, hi, hz]
theorem constS_def {v : Value} (h : defS (constS v) = true) : LRep G w (cellsOfS (constS v)) v.cells.toList := srep_cells (srep_const v) h
theorem fieldPlaces (fs : Array Field) (h : ∀ f ∈ fs.toList, ∃ i, P.info? f.type = some i) : (fs.mapM fun f => do pure (f.offset, ← sizeOf f.type) : Sem (Array (Nat × Nat))).run P w = .ok (fs.map fun f => (f.offset, P.cellsOf f.type)) w := by
 rw [Array.mapM_eq_mapM_toList]
 have key : ∀ l : List Field, (∀ f ∈ l, ∃ i, P.info? f.type = some i) → (l.mapM fun f => do pure (f.offset, ← sizeOf f.type) : Sem (List (Nat × Nat))).run P w = .ok (l.map fun f => (f.offset, P.cellsOf f.type)) w := by
  intro l
  induction l with
  | nil => intro _; rfl
  | cons f r ih =>
   intro hl
   obtain ⟨i, hi⟩ := hl f (by simp)
   rw [List.mapM_cons]
   simp only [Sem.run_bind, run_sizeOf w hi, Result.andThen_ok, Sem.run_pure, ih (fun g hg => hl g (by simp [hg])), List.map_cons]
 rw [Sem.run_map, key _ h, Result.andThen_ok]
 exact congrArg (fun x => Result.ok x w) (Array.ext' (by simp))
theorem fill_ok {z : Value} {parts : List (Nat × S)} {vparts : Array (Nat × Value)} {out : List S} (hl : parts.length = vparts.size)
  (hp : ∀ (i : Nat) (p : Nat × S) (q : Nat × Value), parts[i]? = some p → vparts[i]? = some q → p.1 = q.1 ∧ SRep G w p.2 q.2) (place place' : Nat → Option (Nat × Nat)) (hpl : place = place')
  (hd : defS (constS z) = true) (h : fillS place (cellsOfS (constS z)) parts = some out) : ∃ c', Instr.fill place' z.cells vparts.toList = some c' ∧ LRep G w out c'.toList := by
 subst hpl
 exact fill_rep place parts vparts.toList _ _ out (constS_def hd) (by simpa using hl) (fun i p q h1 h2 => hp i p q h1 (by simpa using h2)) h
theorem buildS_run {t : TypeId} {parts : List (Nat × S)} {vparts : Array (Nat × Value)} {s : S} (hl : parts.length = vparts.size)
  (hp : ∀ (i : Nat) (p : Nat × S) (q : Nat × Value), parts[i]? = some p → vparts[i]? = some q → p.1 = q.1 ∧ SRep G w p.2 q.2)
  (h : buildS P t parts = some s) : ∃ v, (Instr.build t vparts).run P w = .ok v w ∧ SRep G w s v := by
 unfold buildS at h
 split at h
 ·rename_i z fs hz hu
  obtain ⟨i, v, hi, hv, rfl⟩ := zeroS_spec hz
  cases hd : defS (constS v) && fieldsIn P fs with
  | false => rw [hd] at h; cases h
  | true =>
   rw [hd, cond_true] at h
   rw [Bool.and_eq_true] at hd
   obtain ⟨out, ho, rfl⟩ := Option.map_eq_some_iff.1 h
   obtain ⟨c', hc', hr⟩ := fill_ok hl hp _ (fun i => (fs.map fun f => (f.offset, P.cellsOf f.type))[i]?) (by funext i; rw [Array.getElem?_map]; cases fs[i]? <;> rfl) hd.1 ho
   refine ⟨.agg c', ?_, hr.agg'⟩
   unfold Instr.build
   have hfi : ∀ f ∈ fs.toList, ∃ i, P.info? f.type = some i := fun f hf => Option.isSome_iff_exists.1 (List.all_eq_true.1 hd.2 f hf)
   simp only [Sem.run_bind, run_zeroValue_ok hi hv, Result.andThen_ok, run_underlying hu, fieldPlaces fs hfi, Sem.run_pure, hc']
 ·rename_i z n e hz hu
  obtain ⟨i, v, hi, hv, rfl⟩ := zeroS_spec hz
  cases hd : defS (constS v) && (P.info? e).isSome with
  | false => rw [hd] at h; cases h
  | true =>
   rw [hd, cond_true] at h
   rw [Bool.and_eq_true] at hd
   obtain ⟨out, ho, rfl⟩ := Option.map_eq_some_iff.1 h
   obtain ⟨ie, hie⟩ := Option.isSome_iff_exists.1 hd.2
   obtain ⟨c', hc', hr⟩ := fill_ok hl hp _ _ rfl hd.1 ho
   refine ⟨.agg c', ?_, hr.agg'⟩
   unfold Instr.build
   simp only [Sem.run_bind, run_zeroValue_ok hi hv, Result.andThen_ok, run_underlying hu, run_sizeOf w hie, Sem.run_pure, hc']
 ·cases h
theorem convS_run {src dst : TypeId} {x s : S} {v : Value} (hx : SRep G w x v) (h : convS P src dst x = some s) : ∃ u, (convert src dst v).run P w = .ok u w ∧ SRep G w s u := by
 unfold convS at h
 split at h
 ·rename_i k k' k2 n hs hd
  obtain ⟨rfl, _⟩ := srep_v hx
  obtain rfl := Option.some.inj h
  exact ⟨.int k' (k'.wrap n), by simp [convert, run_underlying hs, run_underlying hd, Conv.intToInt], srep_sv rfl⟩
 ·rename_i s' hs hd
  obtain ⟨rfl, _⟩ := srep_v hx
  obtain rfl := Option.some.inj h
  exact ⟨.string s', by simp [convert, run_underlying hs, run_underlying hd], srep_sv rfl⟩
 ·cases h
theorem unS_run {op : UnOp} {x s : S} {v : Value} (hx : SRep G w x v) (h : unS op x = some s) : ∃ u, (Op.unary op v).run P w = .ok u w ∧ SRep G w s u := by
 unfold unS at h
 split at h
 ·obtain ⟨rfl, _⟩ := srep_v hx
  obtain rfl := Option.some.inj h
  exact ⟨_, rfl, srep_sv rfl⟩
 ·obtain ⟨rfl, _⟩ := srep_v hx
  obtain rfl := Option.some.inj h
  exact ⟨_, rfl, srep_sv rfl⟩
 ·cases h
theorem pickS_rep {c : Bool} {x y : S} {vx vy : Value} (hx : SRep G w x vx) (hy : SRep G w y vy) : SRep G w (pickS c x y) (if c then vx else vy) := by
 unfold pickS
 split
 ·obtain ⟨rfl, _⟩ := srep_v hx
  obtain ⟨rfl, _⟩ := srep_v hy
  cases c <;> exact srep_sv rfl
 ·obtain ⟨rfl, _⟩ := srep_v hx
  obtain ⟨rfl, _⟩ := srep_v hy
  cases c <;> exact srep_sv rfl
 ·cases c <;> simpa
theorem lenS_run {ts : Array TypeId} {t ty : TypeId} {x : S} {v : Value} {n : Int} (hx : SRep G w x v) (h : lenS x = some n) (ht : ts[0]? = some t)
  (hd : lenFits P t x = true) :
  (Builtin.len_ ts ty #[v]).run P w = .ok (.int .i64 n) w := by
 unfold Builtin.len_
 simp only [ht]
 unfold lenFits at hd
 unfold lenS at h
 split at h
 ·rename_i s
  obtain ⟨rfl, _⟩ := srep_v hx
  obtain rfl := Option.some.inj h
  cases hu : P.underlying t with
  | none => rw [hu] at hd; cases hd
  | some d =>
   rw [hu] at hd
   cases d <;> first | (cases hd; done) | skip
   simp [run_underlying hu, goInt]
 ·rename_i n' c
  obtain ⟨rfl, _⟩ := srep_v hx
  obtain rfl := Option.some.inj h
  cases hu : P.underlying t with
  | none => rw [hu] at hd; cases hd
  | some d =>
   rw [hu] at hd
   cases d <;> first | (cases hd; done) | skip
   simp [run_underlying hu, goInt]
 ·rename_i sz n' g
  obtain rfl := Option.some.inj h
  cases hx with | t hx => cases hx with | rows _ _ _ base cap =>
  cases hu : P.underlying t with
  | none => rw [hu] at hd; cases hd
  | some d =>
   rw [hu] at hd
   cases d <;> first | (cases hd; done) | skip
   simp [run_underlying hu, goInt]
 ·rename_i sz n' g
  obtain rfl := Option.some.inj h
  cases hx with | full hx =>
  cases hu : P.underlying t with
  | none => rw [hu] at hd; cases hd
  | some d =>
   rw [hu] at hd
   cases d <;> first | (cases hd; done) | skip
   simp [run_underlying hu, goInt]
 ·rename_i b n'
  obtain rfl := Option.some.inj h
  cases hx with | sl hx hb =>
  cases hu : P.underlying t with
  | none => rw [hu] at hd; cases hd
  | some d =>
   rw [hu] at hd
   cases d <;> first | (cases hd; done) | skip
   simp [run_underlying hu, goInt]
 ·rename_i es
  obtain rfl := Option.some.inj h
  cases hx with | mt hi hb hl hk hv =>
  cases hu : P.underlying t with
  | none => rw [hu] at hd; cases hd
  | some d =>
   rw [hu] at hd
   cases d <;> first | (cases hd; done) | skip
   simp [run_underlying hu, run_getObj_map w _ _ _ hb, goInt, hl]
 ·cases h
end
section
variable {P : Program} {G : Gh} {w : World} {nt : Nat} {fr : Fr} {a : Act}
theorem intOfS_spec {s : S} {v : Value} {n : Int} (h : SRep G w s v) (hi : intOfS s = some n) : ∃ k, v = .int k n := by
 unfold intOfS at hi
 split at hi
 ·obtain ⟨rfl, _⟩ := srep_v h
  obtain rfl := Option.some.inj hi
  exact ⟨_, rfl⟩
 ·cases hi
def OptRep : Option Value → Option Int → Prop
 | none, none => True
 | some v, some n => ∃ k, v = .int k n
 | _, _ => False
theorem optInt_rep (hf : FRep nt G w fr a) {x : Option Operand} {n : Option Int} (h : optInt fr x = some n) : OptRep (x.map a.eval) n := by
 cases x with
 | none => obtain rfl := Option.some.inj h; trivial
 | some x =>
  obtain ⟨i, hi, rfl⟩ := Option.map_eq_some_iff.1 h
  exact intOfS_spec (hf.ev x) hi
theorem run_sliceBound {k : IntKind} {n : Int} {y : Nat} {code : BoundsCode} (h : 0 ≤ n ∧ n ≤ (y : Int)) : (Instr.sliceBound (.int k n) y code).run P w = .ok n.toNat w := by
 simp [Instr.sliceBound, asIntOf, h.1, h.2]
theorem bounds_run (b : Bool) (len cap : Nat) {low high max : Option Value} {lo hi mx : Option Int} (hl : OptRep low lo) (hh : OptRep high hi) (hm : OptRep max mx)
  (h0 : 0 ≤ lo.getD 0) (h1 : lo.getD 0 ≤ hi.getD len) (h2 : hi.getD len ≤ mx.getD cap) (h3 : mx.getD cap ≤ cap) (hs : mx.isSome = true → hi.isSome = true) :
  (Instr.sliceBounds b len cap low high max).run P w = .ok ((lo.getD 0).toNat, (hi.getD len).toNat, (mx.getD cap).toNat) w := by
 cases mx with
 | none =>
  cases max with
  | some m => exact hm.elim
  | none =>
   cases hi with
   | none =>
    cases high with
    | some v => exact hh.elim
    | none =>
     cases lo with
     | none => cases low with
      | some v => exact hl.elim
      | none => simp [Instr.sliceBounds]
     | some l => cases low with
      | none => exact hl.elim
      | some v =>
       obtain ⟨k, rfl⟩ := hl
       simp only [Option.getD_some, Option.getD_none] at h0 h1
       simp [Instr.sliceBounds, run_sliceBound (P := P) (w := w) (k := k) ⟨h0, h1⟩]
   | some h =>
    cases high with
    | none => exact hh.elim
    | some v =>
     obtain ⟨k, rfl⟩ := hh
     simp only [Option.getD_some, Option.getD_none] at h0 h1 h2
     have r1 := run_sliceBound (P := P) (w := w) (k := k) (n := h) (y := cap) (code := if b then .sliceAcap else .sliceAlen) ⟨by omega, h2⟩
     cases lo with
     | none => cases low with
      | some v => exact hl.elim
      | none => simp [Instr.sliceBounds, r1]
     | some l => cases low with
      | none => exact hl.elim
      | some v =>
       obtain ⟨k', rfl⟩ := hl
       simp only [Option.getD_some, Option.getD_none] at h0 h1 h2
       have r2 := run_sliceBound (P := P) (w := w) (k := k') (n := l) (y := h.toNat) (code := .sliceB) ⟨h0, by omega⟩
       simp [Instr.sliceBounds, r1, r2]
 | some m =>
  cases max with
  | none => exact hm.elim
  | some mv =>
   obtain ⟨km, rfl⟩ := hm
   cases hi with
   | none => simp at hs
   | some h =>
    cases high with
    | none => exact hh.elim
    | some v =>
     obtain ⟨k, rfl⟩ := hh
     simp only [Option.getD_some, Option.getD_none] at h0 h1 h2 h3
     have r0 := run_sliceBound (P := P) (w := w) (k := km) (n := m) (y := cap) (code := if b then .slice3Acap else .slice3Alen) ⟨by omega, h3⟩
     have r1 := run_sliceBound (P := P) (w := w) (k := k) (n := h) (y := m.toNat) (code := .slice3B) ⟨by omega, by omega⟩
     cases lo with
     | none => cases low with
      | some v => exact hl.elim
      | none => simp [Instr.sliceBounds, r0, r1]
     | some l => cases low with
      | none => exact hl.elim
      | some v =>
       obtain ⟨k', rfl⟩ := hl
       simp only [Option.getD_some, Option.getD_none] at h0 h1 h2
       have r2 := run_sliceBound (P := P) (w := w) (k := k') (n := l) (y := h.toNat) (code := .slice3C) ⟨h0, by omega⟩
       simp [Instr.sliceBounds, r0, r1, r2]
theorem cutS_spec {n : Nat} {lo hi mx : Option Int} {l m : Nat} {f : Bool} (h : cutS n lo hi mx = some (l, m, f)) :
  0 ≤ lo.getD 0 ∧ lo.getD 0 ≤ hi.getD n ∧ hi.getD n ≤ n ∧ (mx.isSome = true → hi.isSome = true) ∧ (∀ x, mx = some x → x = hi.getD n) ∧ l = (lo.getD 0).toNat ∧ l + m = (hi.getD n).toNat ∧ (f = true ↔ mx.isSome = true) := by
 unfold cutS at h
 simp only at h
 cases e : decide (0 ≤ lo.getD 0) && decide (lo.getD 0 ≤ hi.getD n) && decide (hi.getD n ≤ n) with
 | false => rw [e] at h; cases h
 | true =>
  rw [e, cond_true] at h
  simp only [Bool.and_eq_true, decide_eq_true_eq] at e
  cases mx with
  | none =>
   simp only [Option.some.injEq, Prod.mk.injEq] at h
   obtain ⟨rfl, rfl, rfl⟩ := h
   exact ⟨e.1.1, e.1.2, e.2, by simp, by simp, rfl, by omega, by simp⟩
  | some x =>
   simp only at h
   cases e2 : decide (x = hi.getD n) && hi.isSome with
   | false => rw [e2] at h; cases h
   | true =>
    rw [e2, cond_true] at h
    simp only [Bool.and_eq_true, decide_eq_true_eq] at e2
    simp only [Option.some.injEq, Prod.mk.injEq] at h
    obtain ⟨rfl, rfl, rfl⟩ := h
    exact ⟨e.1.1, e.1.2, e.2, fun _ => e2.2, fun y hy => by obtain rfl := Option.some.inj hy; exact e2.1, rfl, by omega, by simp⟩
theorem trep_sub {I : Nat → Prop} {sz n : Nat} {get : Fin n → List T} {base : Option Addr} {cap l m cap' : Nat} (h : TRep w I (.rows sz n get) (.slice base n cap)) (hl : l + m ≤ n) (hc : m ≤ cap') (base' : Option Addr)
  (hb : m ≠ 0 → base' = base.map (·.add (l * sz))) : TRep w I (.rows sz m (subGet get l m hl)) (.slice base' m cap') := by
 cases h with
 | rows _ _ _ _ _ vs hcap hlen hb' hcs =>
  refine .rows sz m _ base' cap' (fun i k => vs ⟨l + i.1, by have := i.2; omega⟩ k) hc (fun i => hlen _) (fun hm => ?_) (fun i k c hg => hcs _ k c hg)
  obtain ⟨r, o, rfl, hr, hcell⟩ := hb' (by omega)
  refine ⟨r, o + l * sz, ?_, hr, fun i k c hg => ?_⟩
  ·rw [hb hm]
   simp only [Option.map_some, Addr.add]
   split
   ·rename_i e; rw [e]; rfl
   ·rfl
  ·have := hcell ⟨l + i.1, by have := i.2; omega⟩ k c hg
   rw [← this]
   congr 2
   rw [Nat.add_mul]; omega
theorem cut_rows {t e : TypeId} {sz n cap : Nat} {get : Fin n → List T} {base : Option Addr} {s : S} {low high max : Option Value} {lo hi mx : Option Int} (hu : P.underlying t = some (.slice e)) (hx : TRep w G.imm (.rows sz n get) (.slice base n cap)) (hcap : n ≤ cap)
  (hl : OptRep low lo) (hh : OptRep high hi) (hm : OptRep max mx)
  (h : (bif !(sz.beq (P.cellsOf e)) || !(P.info? e).isSome then none else
   (match cutS n lo hi mx with
    | some (l, m, f) => if h : l + m ≤ n then some (bif f then S.full sz m (subGet get l m h) else .t (.rows sz m (subGet get l m h))) else none
    | none => none)) = some s) : ∃ u, (Instr.sliceAt t (.slice base n cap) low high max).run P w = .ok u w ∧ SRep G w s u := by
 cases hz : sz.beq (P.cellsOf e) with
 | false => rw [hz] at h; cases h
 | true =>
  have hz' : sz = P.cellsOf e := Nat.eq_of_beq_eq_true hz
  cases hin : (P.info? e).isSome with
  | false => rw [hin, hz] at h; cases h
  | true =>
   rw [hin, hz] at h
   simp only [Bool.not_true, Bool.or_self, cond_false] at h
   cases hc : cutS n lo hi mx with
   | none => rw [hc] at h; cases h
   | some r =>
    obtain ⟨l, m, f⟩ := r
    rw [hc] at h
    simp only at h
    by_cases hlm : l + m ≤ n
    ·rw [dif_pos hlm] at h
     obtain ⟨h0, h1, h2, h3, h4, h5, h6, h7⟩ := cutS_spec hc
     have hmx : mx.getD (cap : Int) ≤ cap ∧ hi.getD (n : Int) ≤ mx.getD (cap : Int) := by
      cases mx with
      | none => simp only [Option.getD_none]; omega
      | some x => have := h4 x rfl; simp only [Option.getD_some]; omega
     have hb := bounds_run (P := P) (w := w) true n cap hl hh hm h0 h1 hmx.2 hmx.1 h3
     obtain ⟨ie, hie⟩ := Option.isSome_iff_exists.1 hin
     rw [← h5, ← h6] at hb
     have hrun : (Instr.sliceAt t (.slice base n cap) low high max).run P w = .ok (.slice (if (mx.getD (cap : Int)).toNat = l then base else base.map (·.add (l * sz))) m ((mx.getD (cap : Int)).toNat - l)) w := by
      simp only [Instr.sliceAt, Sem.run_bind, run_underlying hu, Result.andThen_ok, Instr.slice, hb, run_sizeOf w hie, Sem.run_pure, ← hz', Nat.add_sub_cancel_left]
     have hsub := fun (cap' : Nat) (hc' : m ≤ cap') => trep_sub hx hlm hc' (if (mx.getD (cap : Int)).toNat = l then base else base.map (·.add (l * sz))) (fun hm0 => by
      rw [if_neg (by omega)])
     refine ⟨_, hrun, ?_⟩
     cases f with
     | false =>
      obtain rfl := Option.some.inj h
      exact .t (hsub _ (by omega))
     | true =>
      obtain rfl := Option.some.inj h
      obtain ⟨x, hx'⟩ := Option.isSome_iff_exists.1 (h7.1 rfl)
      have e4 := h4 x hx'
      have : (mx.getD (cap : Int)).toNat - l = m := by rw [hx']; simp only [Option.getD_some]; omega
      rw [this]
      exact .full (hsub m (Nat.le_refl _))
    ·rw [dif_neg hlm] at h; cases h
theorem sliceS_run {t : TypeId} {x s : S} {v : Value} {low high max : Option Value} {lo hi mx : Option Int} (hx : SRep G w x v) (hl : OptRep low lo) (hh : OptRep high hi) (hm : OptRep max mx) (h : sliceS P t x lo hi mx = some s) :
  ∃ u, (Instr.sliceAt t v low high max).run P w = .ok u w ∧ SRep G w s u := by
 unfold sliceS at h
 split at h
 ·rename_i str hu
  obtain ⟨rfl, _⟩ := srep_v hx
  cases mx with
  | some m => cases h
  | none =>
   cases max with
   | some v => exact hm.elim
   | none =>
    simp only at h
    cases e : decide (0 ≤ lo.getD 0) && decide (lo.getD 0 ≤ hi.getD str.size) && decide (hi.getD str.size ≤ str.size) with
    | false => rw [e] at h; cases h
    | true =>
     rw [e, cond_true] at h
     simp only [Bool.and_eq_true, decide_eq_true_eq] at e
     obtain rfl := Option.some.inj h
     have hb := bounds_run (P := P) (w := w) false str.size str.size hl hh (max := none) (mx := none) trivial e.1.1 e.1.2 e.2 (by simp) (by simp)
     exact ⟨_, by simp only [Instr.sliceAt, Sem.run_bind, run_underlying hu, Result.andThen_ok, Instr.slice, Option.isSome_none, Bool.false_eq_true, if_false, hb, Sem.run_pure], srep_sv rfl⟩
 ·rename_i e hu
  obtain ⟨rfl, _⟩ := srep_v hx
  cases hin : (P.info? e).isSome with
  | false => rw [hin] at h; cases h
  | true =>
   rw [hin] at h
   simp only [Bool.not_true, cond_false] at h
   cases hc : cutS 0 lo hi mx with
   | none => rw [hc] at h; cases h
   | some r =>
    obtain ⟨l, m, f⟩ := r
    rw [hc] at h
    obtain rfl := Option.some.inj h
    obtain ⟨h0, h1, h2, h3, h4, h5, h6, h7⟩ := cutS_spec hc
    have hmx : mx.getD ((0 : Nat) : Int) = 0 := by cases mx with | none => rfl | some x => have := h4 x rfl; simp only [Option.getD_some]; omega
    have hb := bounds_run (P := P) (w := w) true 0 0 hl hh hm h0 h1 (by rw [hmx]; exact h2) (by rw [hmx]; simp) h3
    obtain ⟨ie, hie⟩ := Option.isSome_iff_exists.1 hin
    refine ⟨.slice none 0 0, ?_, srep_sv rfl⟩
    have e1 : (lo.getD 0).toNat = 0 := by omega
    have e2 : (hi.getD ((0 : Nat) : Int)).toNat = 0 := by omega
    rw [hmx, e1, e2] at hb
    simp only [Instr.sliceAt, Sem.run_bind, run_underlying hu, Result.andThen_ok, Instr.slice, hb, run_sizeOf w hie, Sem.run_pure]
    rfl
 ·rename_i e sz n get hu
  cases hx with | t hx => cases hx with | rows _ _ _ base cap vs hcap hlen hb' hcs =>
  exact cut_rows hu (.rows sz n get base cap vs hcap hlen hb' hcs) hcap hl hh hm h
 ·rename_i e sz n get hu
  cases hx with | full hx =>
  exact cut_rows hu hx (Nat.le_refl _) hl hh hm h
 ·cases h
end
section
variable {P : Program} {G : Gh} {w : World} {nt : Nat} {fr : Fr} {a : Act}
def mkV (P : Program) (t : TypeId) (vs : List Value) : Value := if isAggB P t then .agg vs.toArray else vs.getD 0 undef
theorem run_part_mk {t : TypeId} {d : TypeDesc} (ht : P.underlying t = some d) (vs : List Value) (o : Nat) (h : isAggB P t = false → o < vs.length) :
  (part t vs.toArray o).run P w = .ok (mkV P t ((vs.drop o).take (P.cellsOf t))) w ∨ (isAggB P t = false ∧ P.cellsOf t = 0) := by
 unfold part
 simp only [Sem.run_bind, run_isAgg t ht, Result.andThen_ok]
 unfold mkV
 cases e : isAggB P t
 ·by_cases hz : P.cellsOf t = 0
  ·exact .inr ⟨rfl, hz⟩
  ·have := h e
   left
   have h0 : (vs.toArray)[o]? = some vs[o] := by simp [this]
   simp only [Bool.false_eq_true, if_false, h0, Sem.run_pure]
   congr 1
   rw [List.getD_eq_getElem?_getD, List.getElem?_take, if_pos (by omega), List.getElem?_drop]
   simp [this]
 ·left
  simp only [if_true, Sem.run_bind, run_sizeOf_ok ht, Result.andThen_ok, Sem.run_pure]
  congr 2
  apply Array.ext'
  simp [Array.toList_extract, List.extract_eq_take_drop]
theorem eqCells_len : ∀ {ks : List Nat} {xs ys : List S} {b : Bool}, eqCells ks xs ys = some b → xs.length = ks.length ∧ ys.length = ks.length
 | [], [], [], _, _ => ⟨rfl, rfl⟩
 | [], [], _ :: _, _, h => by simp [eqCells] at h
 | [], _ :: _, _, _, h => by simp [eqCells] at h
 | _ :: _, [], _, _, h => by simp [eqCells] at h
 | _ :: _, _ :: _, [], _, h => by simp [eqCells] at h
 | k :: ks, x :: xs, y :: ys, b, h => by
  simp only [eqCells, Option.bind_eq_some_iff, Option.map_eq_some_iff] at h
  obtain ⟨p, _, q, hq, _⟩ := h
  have := eqCells_len hq
  simp [this.1, this.2]
theorem eqCells_split : ∀ {k1 k2 : List Nat} {xs ys : List S} {b : Bool}, eqCells (k1 ++ k2) xs ys = some b →
  ∃ p q, eqCells k1 (xs.take k1.length) (ys.take k1.length) = some p ∧ eqCells k2 (xs.drop k1.length) (ys.drop k1.length) = some q ∧ b = (p && q)
 | [], k2, xs, ys, b, h => ⟨true, b, by simp [eqCells], by simpa using h, by simp⟩
 | k :: k1, k2, [], ys, b, h => by simp [eqCells] at h
 | k :: k1, k2, x :: xs, [], b, h => by simp [eqCells] at h
 | k :: k1, k2, x :: xs, y :: ys, b, h => by
  simp only [List.cons_append, eqCells, Option.bind_eq_some_iff, Option.map_eq_some_iff] at h
  obtain ⟨p, hp, q, hq, rfl⟩ := h
  obtain ⟨p', q', h1, h2, rfl⟩ := eqCells_split hq
  exact ⟨p && p', q', by simp [eqCells, hp, h1], by simpa using h2, by simp [Bool.and_assoc]⟩
def EqOk (P : Program) (D : Nat) (t : TypeId) (ks : List Nat) : Prop :=
 ∀ (G : Gh) (w : World) (xs ys : List S) (vx vy : List Value) (b : Bool), LRep G w xs vx → LRep G w ys vy → eqCells ks xs ys = some b → (Op.equalIn D t (mkV P t vx) (mkV P t vy)).run P w = .ok b w
theorem one_cell {k : Nat} {xs ys : List S} {vx vy : List Value} {b : Bool} (hx : LRep G w xs vx) (hy : LRep G w ys vy) (h : eqCells [k] xs ys = some b) :
  ∃ x y u v, xs = [x] ∧ ys = [y] ∧ vx = [u] ∧ vy = [v] ∧ SRep G w x u ∧ SRep G w y v ∧ eqCell k x y = some b := by
 obtain ⟨l1, l2⟩ := eqCells_len h
 obtain ⟨x, rfl⟩ : ∃ x, xs = [x] := List.length_eq_one_iff.1 l1
 obtain ⟨y, rfl⟩ : ∃ y, ys = [y] := List.length_eq_one_iff.1 l2
 obtain ⟨u, r, rfl, hu, hr⟩ := hx.uncons
 obtain ⟨v, r', rfl, hv, hr'⟩ := hy.uncons
 obtain rfl : r = [] := List.length_eq_zero_iff.1 hr.1.symm
 obtain rfl : r' = [] := List.length_eq_zero_iff.1 hr'.1.symm
 simp only [eqCells, Option.bind_eq_some_iff, Option.map_eq_some_iff, Option.some.injEq] at h
 obtain ⟨p, hp, q, hq, rfl⟩ := h
 exact ⟨x, y, u, v, rfl, rfl, rfl, rfl, hu, hv, by rw [hp]; simp [← hq]⟩
theorem eqOk_bool {D : Nat} {t : TypeId} (hu : P.underlying t = some .bool) : EqOk P (D + 1) t [0] := fun G w xs ys vx vy b hx hy h => by
 obtain ⟨x, y, u, v, rfl, rfl, rfl, rfl, h1, h2, h3⟩ := one_cell hx hy h
 have ha : isAggB P t = false := by simp [isAggB, hu]
 simp only [mkV, ha, Bool.false_eq_true, if_false, List.getD_cons_zero]
 unfold eqCell at h3
 split at h3 <;> first | (cases h3; done) | skip
 all_goals (try omega)
 obtain ⟨rfl, _⟩ := srep_v h1
 obtain ⟨rfl, _⟩ := srep_v h2
 obtain rfl := Option.some.inj h3
 exact run_equalIn_bool w D t _ _ hu
theorem eqOk_int {D : Nat} {t : TypeId} {k0 : IntKind} (hu : P.underlying t = some (.int k0)) : EqOk P (D + 1) t [1] := fun G w xs ys vx vy b hx hy h => by
 obtain ⟨x, y, u, v, rfl, rfl, rfl, rfl, h1, h2, h3⟩ := one_cell hx hy h
 have ha : isAggB P t = false := by simp [isAggB, hu]
 simp only [mkV, ha, Bool.false_eq_true, if_false, List.getD_cons_zero]
 unfold eqCell at h3
 split at h3 <;> first | (cases h3; done) | skip
 all_goals (try omega)
 rename_i k m k' n _
 obtain ⟨rfl, _⟩ := srep_v h1
 obtain ⟨rfl, _⟩ := srep_v h2
 by_cases e : k = k'
 ·subst e
  simp only [decide_true, cond_true, Option.some.injEq] at h3
  subst h3
  exact run_equalIn_int w D t k k0 m n hu
 ·simp [e] at h3
theorem eqOk_string {D : Nat} {t : TypeId} (hu : P.underlying t = some .string) : EqOk P (D + 1) t [2] := fun G w xs ys vx vy b hx hy h => by
 obtain ⟨x, y, u, v, rfl, rfl, rfl, rfl, h1, h2, h3⟩ := one_cell hx hy h
 have ha : isAggB P t = false := by simp [isAggB, hu]
 simp only [mkV, ha, Bool.false_eq_true, if_false, List.getD_cons_zero]
 unfold eqCell at h3
 split at h3 <;> first | (cases h3; done) | skip
 all_goals (try omega)
 rename_i m n _
 obtain ⟨rfl, _⟩ := srep_v h1
 obtain ⟨rfl, _⟩ := srep_v h2
 obtain rfl := Option.some.inj h3
 rw [run_equalIn_string w D t _ _ hu]
 simp only [strEq, bytesEq_iff, Lib.toList_data]
theorem drop_take_rep {cs : List S} {vs : List Value} (h : LRep G w cs vs) (o n : Nat) : LRep G w ((cs.drop o).take n) ((vs.drop o).take n) := (h.drop o).take n
theorem kinds_zero {t : TypeId} {ks : List Nat} (h : kindsOf P 0 t = some ks) : False := by simp [kindsOf] at h
theorem kinds_under {d : Nat} {t : TypeId} {ks : List Nat} (h : kindsOf P d t = some ks) : ∃ dd, P.underlying t = some dd := by
 cases d with
 | zero => exact (kinds_zero h).elim
 | succ d => cases hu : P.underlying t with
  | some dd => exact ⟨dd, rfl⟩
  | none => simp [kindsOf, hu] at h
theorem kinds_ne {d : Nat} {t : TypeId} {ks : List Nat} (h : kindsOf P d t = some ks) (ha : isAggB P t = false) : P.cellsOf t ≠ 0 := fun hz => by
 cases d with
 | zero => exact (kinds_zero h).elim
 | succ d =>
  obtain ⟨dd, hd⟩ := kinds_under h
  unfold isAggB at ha
  rw [hd] at ha
  simp only [kindsOf, hd, hz] at h
  cases dd <;> simp only at h ha <;> first | (cases ha; done) | (cases h; done)
theorem eqOk_fields {d : Nat} (D : Nat) (ih : ∀ t ks, kindsOf P d t = some ks → EqOk P D t ks) (G : Gh) (w : World) (X Y : List S) (VX VY : List Value) (hX : LRep G w X VX) (hY : LRep G w Y VY) : ∀ (fs : List Field) (o : Nat) (ks : List Nat) (b : Bool),
  kindsFields P (kindsOf P d) fs o = some ks → eqCells ks (X.drop o) (Y.drop o) = some b → (Op.eqFields D VX.toArray VY.toArray fs).run P w = .ok b w
 | [], o, ks, b, hk, h => by
  obtain rfl : ks = [] := by simpa [kindsFields] using hk.symm
  obtain ⟨l1, l2⟩ := eqCells_len h
  have e1 := List.length_eq_zero_iff.1 l1
  have e2 := List.length_eq_zero_iff.1 l2
  rw [e1, e2] at h
  obtain rfl := Option.some.inj h
  simp [Op.eqFields]
 | f :: fs, o, ks, b, hk, h => by
  unfold kindsFields at hk
  cases e : f.name != "_" && f.offset.beq o with
  | false => rw [e] at hk; cases hk
  | true =>
   rw [e, cond_true] at hk
   rw [Bool.and_eq_true] at e
   have hn : f.name ≠ "_" := by simpa using e.1
   have ho : f.offset = o := Nat.eq_of_beq_eq_true e.2
   obtain ⟨k1, hk1, hk2⟩ := Option.bind_eq_some_iff.1 hk
   cases e3 : k1.length.beq (P.cellsOf f.type) with
   | false => rw [e3] at hk2; cases hk2
   | true =>
    rw [e3, cond_true] at hk2
    have hl : k1.length = P.cellsOf f.type := Nat.eq_of_beq_eq_true e3
    obtain ⟨k2, hk3, rfl⟩ := Option.map_eq_some_iff.1 hk2
    obtain ⟨p, q, h1, h2, rfl⟩ := eqCells_split h
    have hlen := eqCells_len h
    obtain ⟨dd, hd⟩ := kinds_under hk1
    have hXl : (X.drop o).length = VX.length - o := by rw [← hX.1]; simp
    have hYl : (Y.drop o).length = VY.length - o := by rw [← hY.1]; simp
    have hne : isAggB P f.type = false → P.cellsOf f.type ≠ 0 := kinds_ne hk1
    have hxs : isAggB P f.type = false → o < VX.length := fun ha => by
     have := hne ha
     have := hlen.1
     simp only [List.length_append] at this
     omega
    have hys : isAggB P f.type = false → o < VY.length := fun ha => by
     have := hne ha
     have := hlen.2
     simp only [List.length_append] at this
     omega
    have hpx := (run_part_mk (P := P) (w := w) hd VX o hxs).resolve_right (fun h => hne h.1 h.2)
    have hpy := (run_part_mk (P := P) (w := w) hd VY o hys).resolve_right (fun h => hne h.1 h.2)
    rw [hl] at h1 h2
    have heq := ih f.type k1 hk1 G w _ _ _ _ p (drop_take_rep hX o (P.cellsOf f.type)) (drop_take_rep hY o (P.cellsOf f.type)) h1
    have hrest := eqOk_fields D ih G w X Y VX VY hX hY fs (o + P.cellsOf f.type) k2 q hk3 (by simpa [List.drop_drop] using h2)
    simp only [Op.eqFields, if_pos hn, ho, Sem.run_bind, hpx, hpy, Result.andThen_ok, heq, Sem.run_ite]
    cases p
    ·simp
    ·simp [hrest]
theorem eqOk_items {e : TypeId} (D : Nat) {ks : List Nat} (ih : EqOk P D e ks) (hl : ks.length = P.cellsOf e) {dd : TypeDesc} (hd : P.underlying e = some dd) (hne : isAggB P e = false → P.cellsOf e ≠ 0) (G : Gh) (w : World) (X Y : List S) (VX VY : List Value) (hX : LRep G w X VX) (hY : LRep G w Y VY) : ∀ (m i : Nat) (b : Bool),
  eqCells (List.replicate m ks).flatten (X.drop (i * P.cellsOf e)) (Y.drop (i * P.cellsOf e)) = some b → (Op.eqItems D e (P.cellsOf e) VX.toArray VY.toArray (List.range' i m)).run P w = .ok b w
 | 0, i, b, h => by
  obtain ⟨l1, l2⟩ := eqCells_len h
  have e1 := List.length_eq_zero_iff.1 l1
  have e2 := List.length_eq_zero_iff.1 l2
  rw [e1, e2] at h
  obtain rfl := Option.some.inj h
  simp [Op.eqItems]
 | m + 1, i, b, h => by
  rw [List.replicate_succ, List.flatten_cons] at h
  obtain ⟨p, q, h1, h2, rfl⟩ := eqCells_split h
  have hlen := eqCells_len h
  have hXl : (X.drop (i * P.cellsOf e)).length = VX.length - i * P.cellsOf e := by rw [← hX.1]; simp
  have hYl : (Y.drop (i * P.cellsOf e)).length = VY.length - i * P.cellsOf e := by rw [← hY.1]; simp
  have hpx := (run_part_mk (P := P) (w := w) hd VX (i * P.cellsOf e) (fun ha => by have := hne ha; have := hlen.1; simp only [List.length_append] at this; omega)).resolve_right (fun h => hne h.1 h.2)
  have hpy := (run_part_mk (P := P) (w := w) hd VY (i * P.cellsOf e) (fun ha => by have := hne ha; have := hlen.2; simp only [List.length_append] at this; omega)).resolve_right (fun h => hne h.1 h.2)
  rw [hl] at h1 h2
  have heq := ih G w _ _ _ _ p (drop_take_rep hX _ _) (drop_take_rep hY _ _) h1
  have hrest := eqOk_items D ih hl hd hne G w X Y VX VY hX hY m (i + 1) q (by simpa [List.drop_drop, Nat.add_mul] using h2)
  simp only [List.range'_succ, Op.eqItems, Sem.run_bind, hpx, hpy, Result.andThen_ok, heq, Sem.run_ite]
  cases p
  ·simp
  ·simp [hrest]
theorem eqOk_all : ∀ (d : Nat) (t : TypeId) (ks : List Nat), kindsOf P d t = some ks → ∀ D, d ≤ D → EqOk P D t ks
 | 0, _, _, h, _, _ => (kinds_zero h).elim
 | d + 1, t, ks, h, D, hD => by
  obtain ⟨D, rfl⟩ : ∃ m, D = m + 1 := ⟨D - 1, by omega⟩
  have ih := fun t ks h => eqOk_all d t ks h D (by omega)
  obtain ⟨dd, hd⟩ := kinds_under h
  simp only [kindsOf, hd] at h
  cases dd <;> simp only at h <;> first | (cases h; done) | skip
  case bool =>
   cases e : (P.cellsOf t).beq 1 <;> rw [e] at h
   ·cases h
   ·obtain rfl := Option.some.inj h; exact eqOk_bool hd
  case int k =>
   cases e : (P.cellsOf t).beq 1 <;> rw [e] at h
   ·cases h
   ·obtain rfl := Option.some.inj h; exact eqOk_int hd
  case string =>
   cases e : (P.cellsOf t).beq 1 <;> rw [e] at h
   ·cases h
   ·obtain rfl := Option.some.inj h; exact eqOk_string hd
  case array n e =>
   obtain ⟨k1, hk1, h⟩ := Option.bind_eq_some_iff.1 h
   cases e1 : k1.length.beq (P.cellsOf e) && (P.info? e).isSome <;> rw [e1] at h
   ·cases h
   ·obtain rfl := Option.some.inj h
    rw [Bool.and_eq_true] at e1
    obtain ⟨i, hi⟩ := Option.isSome_iff_exists.1 e1.2
    obtain ⟨d2, hd2⟩ := kinds_under hk1
    intro G w xs ys vx vy b hx hy hb
    have ha : isAggB P t = true := by simp [isAggB, hd]
    simp only [mkV, ha, if_true]
    rw [run_equalIn_array w D vx.toArray vy.toArray hd hi]
    have := eqOk_items D (ih e k1 hk1) (Nat.eq_of_beq_eq_true e1.1) hd2 (kinds_ne hk1) G w xs ys vx vy hx hy n 0 b (by simpa using hb)
    simpa [List.range_eq_range'] using this
  case struct fs =>
   cases e : P.stoodInHeld t <;> rw [e] at h
   ·simp only [cond_false] at h
    intro G w xs ys vx vy b hx hy hb
    have ha : isAggB P t = true := by simp [isAggB, hd]
    have hf : P.fieldsOf t = fs := by simp [Program.fieldsOf, hd]
    simp only [mkV, ha, if_true]
    rw [run_equalIn_struct w D t vx.toArray vy.toArray (by rw [hf]; exact hd) e, hf]
    exact eqOk_fields D ih G w xs ys vx vy hx hy fs.toList 0 ks b h (by simpa using hb)
   ·cases h
end
section
variable {P : Program} {G : Gh} {w : World} {nt : Nat} {fr : Fr} {a : Act}
def GuardOk (P : Program) (t : TypeId) (x y : Operand) : Value → Value → Prop
 | .nilIface, .nilIface => isConst x = true ∨ isConst y = true
 | .agg _, .agg _ => P.eqGuardType P.depth t = false
 | _, _ => True
theorem eqGuard_ok {op : BinOp} {t : TypeId} {x y : Operand} {u v : Value} (h : GuardOk P t x y u v) : (eqGuard op t x y u v).run P w = .ok () w := by
 have key : ∀ (o : BinOp), (o = .eql ∨ o = .neq) → (eqGuard o t x y u v).run P w = .ok () w := by
  intro o ho
  unfold eqGuard
  rcases ho with rfl | rfl <;> (rw [Sem.run_ite, if_neg (by simp)]) <;> cases u <;> cases v <;> first
   | rfl
   | (simp only [GuardOk] at h
      rcases h with h | h
      ·cases x <;> first | rfl | (cases h; done)
      ·cases y <;> first | (cases x <;> rfl) | (cases h; done))
   | (simp only [GuardOk] at h
      simp [h])
 cases op <;> first | exact key _ (.inl rfl) | exact key _ (.inr rfl) | rfl
theorem equal_nil {t e : TypeId} (hu : P.underlying t = some (.slice e)) (a b c d : Nat) : (Op.equal t (.slice none a b) (.slice none c d)).run P w = .ok true w := by
 have key : ∀ D, (Op.equalIn (D + 1) t (.slice none a b) (.slice none c d)).run P w = _ := fun D => by
  simp only [Op.equalIn, Sem.run_bind, run_underlying hu, Result.andThen_ok, Sem.run_pure, Option.isNone_none]
  rfl
 exact key 9999
theorem equal_if {t : TypeId} {ms : Array (String × TypeId)} (hu : P.underlying t = some (.interface ms)) : (Op.equal t .nilIface .nilIface).run P w = .ok true w := by
 have key : ∀ D, (Op.equalIn (D + 1) t .nilIface .nilIface).run P w = _ := fun D => by
  simp only [Op.equalIn, Sem.run_bind, run_underlying hu, Result.andThen_ok, Sem.run_pure]
  rfl
 exact key 9999
theorem equal_if1 {t u : TypeId} {v : Value} {ms : Array (String × TypeId)} (hu : P.underlying t = some (.interface ms)) : (Op.equal t .nilIface (.iface u v)).run P w = .ok false w := by
 have key : ∀ D, (Op.equalIn (D + 1) t .nilIface (.iface u v)).run P w = _ := fun D => by
  simp only [Op.equalIn, Sem.run_bind, run_underlying hu, Result.andThen_ok, Sem.run_pure]
  rfl
 exact key 9999
theorem equal_if2 {t u : TypeId} {v : Value} {ms : Array (String × TypeId)} (hu : P.underlying t = some (.interface ms)) : (Op.equal t (.iface u v) .nilIface).run P w = .ok false w := by
 have key : ∀ D, (Op.equalIn (D + 1) t (.iface u v) .nilIface).run P w = _ := fun D => by
  simp only [Op.equalIn, Sem.run_bind, run_underlying hu, Result.andThen_ok, Sem.run_pure]
  rfl
 exact key 9999
theorem isAgg_mkV {t : TypeId} (h : isAggB P t = true) (vs : Array Value) : mkV P t vs.toList = .agg vs := by simp [mkV, h]
theorem binS_run {K : TypeId → Option (List Nat)} (hK : KOk P K) {op : BinOp} {t : TypeId} {x y : Operand} {sx sy s : S} {u v : Value} (hx : SRep G w sx u) (hy : SRep G w sy v) (h : binS P K (isConst x || isConst y) op t sx sy = some s) :
  ∃ r, (do eqGuard op t x y u v; binOp op t u v : Sem Value).run P w = .ok r w ∧ SRep G w s r := by
 have go : ∀ {r : Value}, GuardOk P t x y u v → (binOp op t u v).run P w = .ok r w → SRep G w s r →
   ∃ r, (do eqGuard op t x y u v; binOp op t u v : Sem Value).run P w = .ok r w ∧ SRep G w s r := fun {r} h1 h2 h3 =>
  ⟨r, by rw [Sem.run_bind, eqGuard_ok h1, Result.andThen_ok]; exact h2, h3⟩
 unfold binS at h
 split at h
 ·rename_i k m k' n
  obtain ⟨rfl, _⟩ := srep_v hx
  obtain ⟨rfl, _⟩ := srep_v hy
  obtain ⟨r, hr, rfl⟩ := Option.map_eq_some_iff.1 h
  have : (binOp op t (.int k m) (.int k' n)).run P w = .ok r w ∧ r.oneCell' = true := by
   by_cases hs : op = .shl ∨ op = .shr
   ·rcases hs with rfl | rfl <;> exact binShift_run _ t k k' m n hr
   ·have hr' : (bif decide (k = k') then binInt op k m n else none) = some r := by
     cases op <;> first | exact hr | (simp at hs)
    by_cases e : k = k'
    ·subst e
     simp only [decide_true, cond_true] at hr'
     exact binInt_run op t k m n hr' ⟨fun e => hs (.inl e), fun e => hs (.inr e)⟩
    ·simp [e] at hr'
  exact go trivial this.1 (srep_sv this.2)
 ·rename_i m n
  obtain ⟨rfl, _⟩ := srep_v hx
  obtain ⟨rfl, _⟩ := srep_v hy
  obtain ⟨r, hr, rfl⟩ := Option.map_eq_some_iff.1 h
  have := binStr_run (P := P) (w := w) op t m n hr
  exact go trivial this.1 (srep_sv this.2)
 ·obtain ⟨rfl, _⟩ := srep_v hx
  obtain ⟨rfl, _⟩ := srep_v hy
  unfold binS.nilEq at h
  split at h
  ·rename_i e hu
   obtain rfl := Option.some.inj h
   exact go trivial (by simp only [binOp, Sem.run_bind, equal_nil hu, Result.andThen_ok, Sem.run_pure]) (srep_sv rfl)
  ·rename_i e hu
   obtain rfl := Option.some.inj h
   exact go trivial (by simp only [binOp, Sem.run_bind, equal_nil hu, Result.andThen_ok, Sem.run_pure]) (srep_sv rfl)
  ·cases h
 ·obtain ⟨rfl, _⟩ := srep_v hx
  cases hy with | nn t' v' =>
  unfold binS.nilIf at h
  split at h
  ·rename_i e hu
   obtain rfl := Option.some.inj h
   exact go trivial (by simp only [binOp, Sem.run_bind, equal_if1 hu, Result.andThen_ok, Sem.run_pure]) (srep_sv rfl)
  ·rename_i e hu
   obtain rfl := Option.some.inj h
   exact go trivial (by simp only [binOp, Sem.run_bind, equal_if1 hu, Result.andThen_ok, Sem.run_pure]) (srep_sv rfl)
  ·cases h
 ·obtain ⟨rfl, _⟩ := srep_v hy
  cases hx with | nn t' v' =>
  unfold binS.nilIf at h
  split at h
  ·rename_i e hu
   obtain rfl := Option.some.inj h
   exact go trivial (by simp only [binOp, Sem.run_bind, equal_if2 hu, Result.andThen_ok, Sem.run_pure]) (srep_sv rfl)
  ·rename_i e hu
   obtain rfl := Option.some.inj h
   exact go trivial (by simp only [binOp, Sem.run_bind, equal_if2 hu, Result.andThen_ok, Sem.run_pure]) (srep_sv rfl)
  ·cases h
 ·obtain ⟨rfl, _⟩ := srep_v hy
  obtain ⟨rfl, _⟩ := srep_v hx
  cases hl : isConst x || isConst y with
  | false => rw [hl] at h; cases h
  | true =>
   rw [hl, cond_true] at h
   have hl' : isConst x = true ∨ isConst y = true := by simpa using hl
   unfold binS.nilIf at h
   split at h
   ·rename_i e hu
    obtain rfl := Option.some.inj h
    exact go hl' (by simp only [binOp, Sem.run_bind, equal_if hu, Result.andThen_ok, Sem.run_pure]) (srep_sv rfl)
   ·rename_i e hu
    obtain rfl := Option.some.inj h
    exact go hl' (by simp only [binOp, Sem.run_bind, equal_if hu, Result.andThen_ok, Sem.run_pure]) (srep_sv rfl)
   ·cases h
 ·rename_i xs ys
  obtain ⟨vx, rfl, hvx⟩ := srep_agg' hx
  obtain ⟨vy, rfl, hvy⟩ := srep_agg' hy
  split at h
  ·rename_i ks hks
   obtain ⟨hk, h1, h2⟩ := hK t ks hks
   obtain ⟨b, hb, rfl⟩ := Option.map_eq_some_iff.1 h
   have := eqOk_all 20 t ks hk Op.maxDepth (by decide) G w xs ys _ _ b hvx hvy hb
   rw [isAgg_mkV h1, isAgg_mkV h1] at this
   exact go h2 (by simp only [binOp, Sem.run_bind, Op.equal, this, Result.andThen_ok, Sem.run_pure]) (srep_sv rfl)
  ·rename_i ks hks
   obtain ⟨hk, h1, h2⟩ := hK t ks hks
   obtain ⟨b, hb, rfl⟩ := Option.map_eq_some_iff.1 h
   have := eqOk_all 20 t ks hk Op.maxDepth (by decide) G w xs ys _ _ b hvx hvy hb
   rw [isAgg_mkV h1, isAgg_mkV h1] at this
   exact go h2 (by simp only [binOp, Sem.run_bind, Op.equal, this, Result.andThen_ok, Sem.run_pure]) (srep_sv rfl)
  ·cases h
 ·rename_i m n
  obtain ⟨rfl, _⟩ := srep_v hx
  obtain ⟨rfl, _⟩ := srep_v hy
  split at h
  ·rename_i hu
   obtain rfl := Option.some.inj h
   exact go trivial (run_eql_bool w t m n hu) (srep_sv rfl)
  ·rename_i hu
   obtain rfl := Option.some.inj h
   exact go trivial (run_neq_bool w t m n hu) (srep_sv rfl)
  ·cases h
 ·cases h
end
end Go.Proofs.YtonkoellfaopiaaGreatDoor.H
