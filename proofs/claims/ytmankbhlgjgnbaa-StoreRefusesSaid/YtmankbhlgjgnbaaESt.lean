import Derived.Test.YtmankbhlgjgnbaaPAllx0
import Derived.Test.YtmankbhlgjgnbaaPAllx2
import Derived.Test.YtmankbhlgjgnbaaEMap
import Derived.Test.YtmankbhlgjgnbaaEMem
import Derived.Deep.RegionWith
import Derived.Laws.NewFold
import Derived.Laws.ResultCell
import Derived.Laws.Rows
/-! A store: what its memory holds; and the events of a walk over variables in memory. -/
set_option linter.unusedVariables false
set_option linter.unusedSimpArgs false
namespace Go.Proofs.Ytmankbhlgjgnbaa.Mem
open Go.RowKit Go.Proofs.YtmankbhlgjgnbaaW.PrintWords
theorem Blk.below {w w' : World} {g : Nat} {cur : List Value} {t : TypeId} (h : Blk w g cur t) (hb : Below w.heap.size w w') : Blk w' g cur t := (hb.block g (Blk.lt h)).trans h
theorem Blk.grown {w w' : World} {g k : Nat} {cur : List Value} {t : TypeId} (h : Blk w g cur t) (hg : w.grownBy w' (some k)) (hne : g ≠ k) : Blk w' g cur t := (hg.block g (Blk.lt h) (fun e => hne (Option.some.inj e))).trans h
theorem Blk.put {w : World} {g : Nat} {cur : List Value} {t : TypeId} (h : Blk w g cur t) (i : Nat) (u : Value) : Blk (w.setCell ⟨g, i, none⟩ u) g (cur.set i u) t := by
  have := blk_set (w := w) h i u
  unfold Blk
  rw [this]
  congr 2
  simp
theorem Blk.putfar {w : World} {g k : Nat} {cur : List Value} {t : TypeId} (h : Blk w g cur t) (i : Nat) (u : Value) (hne : g ≠ k) : Blk (w.setCell ⟨k, i, none⟩ u) g cur t := blk_far h (p := ⟨k, i, none⟩) hne u
end Go.Proofs.Ytmankbhlgjgnbaa.Mem
namespace Go.Proofs.Ytmankbhlgjgnbaa.PAll
open Go.RowKit Go.Proofs.YtmankbhlgjgnbaaW.PrintWords Go.Proofs.YtmankbhlgjgnbaaW.PrintLast Go.Proofs.YtmankbhlgjgnbaaW.PrintMore Mem

/-! ### events -/
section
variable {P : Program} {ops : Array Oper} {rest : List Oper} {o : Oper} {a : Act} {Q : Exit → Act → World → Prop} {w : World}
theorem new_at (hgd : o.guard = none) {t : TypeId} (ho : o.op = .alloc t) (cs : List Value) (z : Value) (hz : ∀ W : World, (zeroValue t).run P W = .ok z W) (hc : z.cells.toList = cs)
    (h : ∀ g, g = w.heap.size → ∀ w', Blk w' g cs t → Below w.heap.size w w' → wpList P ops Q rest (a.put o.dst (.pointer (some ⟨g, 0, none⟩))) w') : wpList P ops Q (o :: rest) a w := by
  have e : z.cells = cs.toArray := by rw [← hc, Array.toArray_toList]
  refine Kd.event_run hgd (v := .pointer (some ⟨w.heap.size, 0, none⟩)) (w1 := w.alloc (.cells cs.toArray t)) ?_ (h _ rfl _ (Blk.alloc_new w cs t) (below_alloc (Below.refl _ _) _))
  simp [execOp, ho, Instr.alloc, hz, newVar, newRow, run_newObj_alloc, e, Result.andThen]
theorem store_at (hgd : o.guard = none) {t : TypeId} {p : Tmp} {x : Operand} (ho : o.op = .store t (.tmp p) x) (hN : o.dst = none) (g i : Nat) (cur : List Value) (tt : TypeId) (v : Value) (hp : a.eval (.tmp p) = .pointer (some ⟨g, i, none⟩)) (hx : a.eval x = v)
    (hb : Blk w g cur tt) (cs : List Value) (hcs : v.cells.toList = cs) (hi : (P.info? t).map (·.size) = some cs.length) (hfit : i + cs.length ≤ cur.length) (h1 : ∀ u ∈ cs, u.oneCell' = true)
    (h : ∀ w', Blk w' g (cur.take i ++ cs ++ cur.drop (i + cs.length)) tt → w.grownBy w' (some g) → wpList P ops Q rest a w') : wpList P ops Q (o :: rest) a w := by
  have hst := run_storeCells_at P g i tt cs 0 cur.toArray w hb (by simpa using hfit) h1
  have hv : v.cells.size = cs.length := by rw [← hcs, Array.length_toList]
  have hb2 := Blk.set hb (cur.take i ++ cs ++ cur.drop (i + cs.length))
  have hgr : w.grownBy (w.setRow g (cur.take i ++ cs ++ cur.drop (i + cs.length)).toArray) (some g) :=
    ⟨rfl, rfl, rfl, by simp [World.setRow], fun k _ hk => setRow_other w g k _ (fun e => hk (by rw [e]))⟩
  have hst2 : (storeCells ⟨g, i, none⟩ cs).run P w = .ok () (w.setRow g (cur.take i ++ cs ++ cur.drop (i + cs.length)).toArray) := by simpa using hst
  refine store_event hgd ho hN (w1 := w.setRow g (cur.take i ++ cs ++ cur.drop (i + cs.length)).toArray) ?_ (fun w' e => by subst e; exact h _ hb2 hgr)
  cases hq : P.info? t with
  | none => simp [hq] at hi
  | some inf =>
    have hs : inf.size = cs.length := by simpa [hq] using hi
    simp [execOp, ho, hp, hx, Instr.storeAt, Instr.sureAddr, storeVar, sizeOf, typeInfo, hq, hs, hv, hcs, hst2, Result.andThen]
theorem load_at (hgd : o.guard = none) {t : TypeId} {p : Operand} (ho : o.op = .load t p) (g : Nat) (cur : List Value) (tt : TypeId) (fs : Array Field) (hp : a.eval p = .pointer (some ⟨g, 0, none⟩)) (hb : Blk w g cur tt) (hu : P.underlying t = some (.struct fs)) (hi : (P.info? t).map (·.size) = some cur.length)
    (h : wpList P ops Q rest (a.put o.dst (.agg cur.toArray)) w) : wpList P ops Q (o :: rest) a w := by
  refine Kd.event_run hgd (v := .agg cur.toArray) (w1 := w) ?_ h
  have := run_loadVar_row (P := P) w g tt t cur.toArray (0, 0) (.struct fs) hb hu rfl (by simpa using hi)
  simp [execOp, ho, hp, Instr.loadAt, Instr.sureAddr, this, Result.andThen]
end

theorem R_from {α : Type} {d : Kd α} {e base : Nat} {ok : Nat → Prop} {w : World} {v : Value} {xs : List α} (h : d.R e w base ok v xs) : d.R e w base (fun k => base ≤ k) v xs := Kd.R_mono (Kd.R_bound h) (fun k hk => hk.2.1)
theorem res_item1 {fn : Func} {p : Tmp} (h : fn.results = #[.cell p 31]) (tmps : Array Value) (w : World) (g : Nat) (cur : List Value) (hp : tmps.getD p undef = .pointer (some ⟨g, 0, none⟩)) (hb : Blk w g cur 31) (hl : cur.length = 6) :
    (results fn tmps).run Try.prog w = .ok (.agg cur.toArray) w :=
  results_cell_row h tmps w g 31 cur.toArray (0, 0) _ hp hb Try.underlying31 rfl (by rw [show (Try.prog.info? 31).map (·.size) = some 6 by kernel_rfl]; simp [hl])
theorem res_item2 {fn : Func} {p u : Tmp} (h : fn.results = #[.cell p 31, .tmp u]) (tmps : Array Value) (w : World) (g : Nat) (cur : List Value) (hp : tmps.getD p undef = .pointer (some ⟨g, 0, none⟩)) (hb : Blk w g cur 31) (hl : cur.length = 6) :
    (results fn tmps).run Try.prog w = .ok (.tuple #[.agg cur.toArray, tmps.getD u undef]) w := by
  have hv := run_loadVar_row (P := Try.prog) w g 31 31 cur.toArray (0, 0) _ hb Try.underlying31 rfl (by rw [show (Try.prog.info? 31).map (·.size) = some 6 by kernel_rfl]; simp [hl])
  rw [results_cell_tmp h tmps Try.prog w, hp]
  simp [asAddr, hv, Result.andThen]
/-! ### keys -/
abbrev Key := Int × ByteArray
def keyV (k : Key) : Value := .agg #[.int .i64 k.1, .string k.2]
def eqKey (a b : Key) : Bool := a.1 == b.1 && a.2.toList == b.2.toList
theorem toList_inj {a b : ByteArray} (h : (a.toList == b.toList) = true) : a = b := by
  have := beq_iff_eq.1 h
  rw [ByteArray.toList_eq, ByteArray.toList_eq] at this
  exact ByteArray.ext (Array.ext' this)
theorem eqKey_eq {a b : Key} (h : eqKey a b = true) : a = b := by
  unfold eqKey at h
  rw [Bool.and_eq_true] at h
  exact Prod.ext (beq_iff_eq.1 h.1) (toList_inj h.2)
theorem eqKey_self (a : Key) : eqKey a a = true := by simp [eqKey]
theorem key_run : KeyRun Try.prog 52 keyV eqKey where
  kind := ⟨_, Try.underlying52⟩
  check := fun w em x => by kernel_rfl
  equal := fun w x y => by
    refine eqA_of (d := 9999) Try.underlying52 (by kernel_rfl) ?_
    refine eqf_cons (by kernel_rfl) (by kernel_rfl) (by kernel_rfl) (run_equalIn_int w _ _ .i64 _ _ _ Try.underlying3) ?_
    exact eqf_last (by kernel_rfl) (by kernel_rfl) (by kernel_rfl) (run_equalIn_string w _ _ _ _ Try.underlying9)
  stays := fun w x y h => by
    obtain rfl := eqKey_eq h
    simp [Instr.keyThatStays, keyV, Instr.sameBits, beq_toListBytes]

/-! ### items -/
/-- An item, as it lies in memory. -/
structure CI where
  kind : Int
  name : ByteArray
  ver : Int
  ha : Option Addr
  hc : Nat
  H : List ByteArray
  ba : Option Addr
  bc : Nat
  B : List Int
  going : Bool
def CI.cells (x : CI) : List Value := [.int .i64 x.kind, .string x.name, .int .i64 x.ver, .slice x.ha x.H.length x.hc, .slice x.ba x.B.length x.bc, .bool x.going]
def itemV (x : CI) : Value := .agg x.cells.toArray
/-- An item. -/
structure PI where
  kind : Int
  name : ByteArray
  ver : Int
  H : List ByteArray
  B : List Int
  going : Bool
def CI.pure (x : CI) : PI := ⟨x.kind, x.name, x.ver, x.H, x.B, x.going⟩
def noItem : CI := ⟨0, ⟨#[]⟩, 0, none, 0, [], none, 0, [], false⟩
def noPI : PI := ⟨0, ⟨#[]⟩, 0, [], [], false⟩
/-- The rows of an item can be read. -/
structure RowOK (w : World) (x : CI) : Prop where
  hr : Kd.C Kd.string w x.ha x.H.length x.H
  hc : x.H.length ≤ x.hc
  br : Kd.C (Kd.int .u8) w x.ba x.B.length x.B
  bc : x.B.length ≤ x.bc
theorem RowOK.below {w w' : World} {x : CI} (h : RowOK w x) (hb : Below w.heap.size w w') : RowOK w' x := ⟨Kd.C_below h.hr hb, h.hc, Kd.C_below h.br hb, h.bc⟩
theorem RowOK.none (w : World) : RowOK w noItem := ⟨Kd.C_nil _ _, Nat.le_refl _, Kd.C_nil _ _, Nat.le_refl _⟩

/-- The rows of an item are new ones: they lie in blocks from base on. -/
structure RowNew (w : World) (base : Nat) (x : CI) : Prop where
  hr : Kd.R Kd.string 9 w base (fun k => base ≤ k) (.slice x.ha x.H.length x.hc) x.H
  br : Kd.R (Kd.int .u8) 5 w base (fun k => base ≤ k) (.slice x.ba x.B.length x.bc) x.B
theorem RowNew.ok {w : World} {base : Nat} {x : CI} (h : RowNew w base x) : RowOK w x := ⟨(Kd.R_reads' h.hr).2.2, (Kd.R_reads' h.hr).2.1, (Kd.R_reads' h.br).2.2, (Kd.R_reads' h.br).2.1⟩
theorem RowNew.none (w : World) (base : Nat) : RowNew w base noItem := ⟨Kd.R_nil _ _ _ _ _, Kd.R_nil _ _ _ _ _⟩
theorem RowNew.below {w w' : World} {base : Nat} {x : CI} (h : RowNew w base x) (hb : Below w.heap.size w w') : RowNew w' base x := ⟨Kd.R_below h.hr hb, Kd.R_below h.br hb⟩
theorem RowNew.grown {w w' : World} {base g : Nat} {x : CI} (h : RowNew w base x) (hg : w.grownBy w' (some g)) (hlt : g < base) : RowNew w' base x :=
  ⟨Kd.R_grown h.hr hg (fun k (hk : base ≤ k) e => by have := Option.some.inj e; omega), Kd.R_grown h.br hg (fun k (hk : base ≤ k) e => by have := Option.some.inj e; omega)⟩
theorem RowNew.lower {w : World} {base base' : Nat} {x : CI} (h : RowNew w base x) (hb : base' ≤ base) : RowNew w base' x :=
  ⟨Kd.R_mono (Kd.R_lower h.hr hb) (fun k (hk : base ≤ k) => Nat.le_trans hb hk), Kd.R_mono (Kd.R_lower h.br hb) (fun k (hk : base ≤ k) => Nat.le_trans hb hk)⟩
/-! ### stores -/
structure St where
  L : List (Key × PI)
  n : Int
/-- The store at p: its map at b holds Lc, so often it was written. -/
structure StoreB (w : World) (p b : Nat) (Lc : List (Key × CI)) (n : Int) : Prop where
  blk : Blk w p [.map (some b), .int .i64 n] 49
  map : MapAt w b keyV itemV Lc
  rows : ∀ q ∈ Lc, RowOK w q.2
def erase (Lc : List (Key × CI)) : List (Key × PI) := Lc.map fun q => (q.1, q.2.pure)
def StoreAt (w : World) (p : Nat) (s : St) : Prop := ∃ b Lc, StoreB w p b Lc s.n ∧ erase Lc = s.L
theorem StoreB.below {w w' : World} {p b : Nat} {Lc : List (Key × CI)} {n : Int} (h : StoreB w p b Lc n) (hb : Below w.heap.size w w') : StoreB w' p b Lc n :=
  ⟨blk_below h.blk hb, h.map.kept (fun i hi _ => hb.block i hi), fun q hq => (h.rows q hq).below hb⟩
theorem StoreAt.below {w w' : World} {p : Nat} {s : St} (h : StoreAt w p s) (hb : Below w.heap.size w w') : StoreAt w' p s := by
  obtain ⟨b, Lc, h1, h2⟩ := h
  exact ⟨b, Lc, h1.below hb, h2⟩
theorem StoreB.cell0 {w : World} {p b : Nat} {Lc : List (Key × CI)} {n : Int} (h : StoreB w p b Lc n) : w.cell? ⟨p, 0, none⟩ = some (.map (some b)) := h.blk.cell 0
theorem StoreB.cell1 {w : World} {p b : Nat} {Lc : List (Key × CI)} {n : Int} (h : StoreB w p b Lc n) : w.cell? ⟨p, 1, none⟩ = some (.int .i64 n) := h.blk.cell 1
theorem look_erase (k : Key) : ∀ Lc : List (Key × CI), lookM eqKey k (erase Lc) = (lookM eqKey k Lc).map CI.pure
  | [] => rfl
  | q :: r => by
    unfold erase
    rw [List.map_cons]
    unfold lookM
    split
    · rfl
    · exact look_erase k r
theorem look_mem {k : Key} {x : CI} : ∀ {Lc : List (Key × CI)}, lookM eqKey k Lc = some x → ∃ q ∈ Lc, q.2 = x
  | q :: r, h => by
    unfold lookM at h
    split at h
    · exact ⟨q, by simp, Option.some.inj h⟩
    · obtain ⟨q', hq, e⟩ := look_mem h
      exact ⟨q', by simp [hq], e⟩
theorem zero_item (w : World) : (zeroValue 31).run Try.prog w = .ok (itemV noItem) w := by kernel_rfl
end Go.Proofs.Ytmankbhlgjgnbaa.PAll
