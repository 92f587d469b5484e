import Derived.Test.YtonkoellfaopiaaGreatDoorV1
import Derived.Great.BuildSlice
import Derived.Deep.Upon
set_option linter.unusedSimpArgs false
set_option linter.unusedVariables false
namespace Go.Proofs.YtonkoellfaopiaaGreatDoor.H
open Go Go.RowKit
section
variable {P : Program} {G : Gh} {w : World} {nt : Nat} {fr : Fr} {a : Act}
theorem addr_add (r o k : Nat) : (⟨r, o, none⟩ : Addr).add k = ⟨r, o + k, none⟩ := by
 unfold Addr.add
 split
 ·rename_i h; subst h; rfl
 ·rfl
theorem valS_spec {t : TypeId} {cs : List S} {s : S} (h : valS P t cs = some s) : ∃ d, P.underlying t = some d ∧ takeS (isAggB P t) (P.cellsOf t) cs = some s := by
 unfold valS at h
 split at h
 ·rename_i d hd; exact ⟨d, hd, h⟩
 ·cases h
theorem cellsAt_drop {I : Nat → Prop} {r o : Nat} {cs : List T} (h : CellsAt w I ⟨r, o, none⟩ cs) (n : Nat) : CellsAt w I ⟨r, o + n, none⟩ (cs.drop n) := fun k c hc => by
 rw [List.getElem?_drop] at hc
 have := h (n + k) c hc
 simp only [Nat.add_assoc] at this ⊢
 exact this
theorem elemS_rep {n sz : Nat} {get : Fin n → List T} {base : Option Addr} {cap : Nat} {i : Int} {s : S} (hx : TRep w G.imm (.rows sz n get) (.slice base n cap)) (h : elemS n get i = some s) :
  ∃ r o, base = some ⟨r, o, none⟩ ∧ 0 ≤ i ∧ i < n ∧ SRep G w s (.pointer (some ⟨r, o + i.toNat * sz, none⟩)) := by
 unfold elemS at h
 split at h
 ·rename_i hi
  obtain rfl := Option.some.inj h
  cases hx with | rows _ _ _ _ _ vs hcap hlen hb hc =>
  obtain ⟨r, o, e, hr, hcell⟩ := hb (by omega)
  refine ⟨r, o, e, hi.1, by omega, .pt hr fun k c hk => ⟨_, ?_, hc ⟨i.toNat, hi.2⟩ k c hk⟩⟩
  exact hcell ⟨i.toNat, hi.2⟩ k c hk
 ·cases h
theorem indexAt_slice {t e : TypeId} {base : Addr} {n cap : Nat} {k : IntKind} {i : Int} {ie : TypeInfo} (hu : P.underlying t = some (.slice e)) (hie : P.info? e = some ie) (h0 : 0 ≤ i) (h1 : i < n) :
  (Instr.indexAt t (.slice (some base) n cap) (.int k i)).run P w = .ok (.pointer (some (base.add (i.toNat * P.cellsOf e)))) w := by
 simp only [Instr.indexAt, asIntOf, Sem.run_bind, Sem.run_pure, Result.andThen_ok, run_underlying hu, if_pos (And.intro h0 h1), run_sizeOf w hie, Bool.and_false]
theorem indexAt_array {t e : TypeId} {base : Addr} {n : Nat} {k : IntKind} {i : Int} {ie : TypeInfo} (hu : P.underlying t = some (.array n e)) (hie : P.info? e = some ie) (h0 : 0 ≤ i) (h1 : i < n) :
  (Instr.indexAt t (.pointer (some base)) (.int k i)).run P w = .ok (.pointer (some (base.add (i.toNat * P.cellsOf e)))) w := by
 simp only [Instr.indexAt, asIntOf, Sem.run_bind, Sem.run_pure, Result.andThen_ok, run_underlying hu, Instr.sureAddr, if_pos (And.intro h0 h1), run_sizeOf w hie]
theorem fieldAt_run {t : TypeId} {f o : Nat} {ft : TypeId} {r k : Nat} (h : fieldOf P t f = some (o, ft)) : (Instr.fieldAt t (.pointer (some ⟨r, k, none⟩)) f).run P w = .ok (.pointer (some ⟨r, k + o, none⟩)) w := by
 obtain ⟨fs, x, hu, hx, rfl, rfl, hne⟩ := fieldOf_spec h
 obtain ⟨i, hi⟩ : ∃ i, P.info? x.type = some i := by
  cases e : P.info? x.type with
  | some i => exact ⟨i, rfl⟩
  | none => simp [Program.cellsOf, e] at hne
 simp only [Instr.fieldAt, Sem.run_bind, run_underlying hu, Result.andThen_ok, hx, Instr.sureAddr, Sem.run_pure, fieldPlace, run_sizeOf w hi, if_neg hne, addr_add]
theorem minS_run {mx : Bool} {x y s : S} {u v : Value} (hx : SRep G w x u) (hy : SRep G w y v) (h : minS mx x y = some s) : ∃ r, ((if mx then Builtin.max2 u v else Builtin.min2 u v)).run P w = .ok r w ∧ SRep G w s r := by
 unfold minS at h
 split at h
 ·rename_i k m k' n
  obtain ⟨rfl, _⟩ := srep_v hx
  obtain ⟨rfl, _⟩ := srep_v hy
  obtain rfl := Option.some.inj h
  refine ⟨_, ?_, srep_sv rfl⟩
  cases mx
  ·simp only [Bool.false_eq_true, if_false, Builtin.min2, Sem.run_pure, cond_false]
   by_cases e : n < m <;> simp [e]
  ·simp only [if_true, Builtin.max2, Sem.run_pure, cond_true]
   by_cases e : n > m <;> simp [e]
 ·cases h
theorem foldS_run {mx : Bool} : ∀ {xs : List S} {vs : List Value} {x s : S} {u : Value}, SRep G w x u → LRep G w xs vs → foldS (minS mx) x xs = some s →
  ∃ r, (vs.foldlM (fun a b => if mx then Builtin.max2 a b else Builtin.min2 a b) u).run P w = .ok r w ∧ SRep G w s r
 | [], vs, x, s, u, hx, hl, h => by
  obtain rfl : vs = [] := List.length_eq_zero_iff.1 hl.1.symm
  obtain rfl := Option.some.inj h
  exact ⟨u, rfl, hx⟩
 | y :: ys, vs, x, s, u, hx, hl, h => by
  obtain ⟨v, r, rfl, hv, hr⟩ := hl.uncons
  obtain ⟨z, hz, h⟩ := Option.bind_eq_some_iff.1 h
  obtain ⟨q, hq, hzq⟩ := minS_run (P := P) hx hv hz
  obtain ⟨q', h1, h2⟩ := foldS_run hzq hr h
  exact ⟨q', by rw [List.foldlM_cons, Sem.run_bind, hq, Result.andThen_ok]; exact h1, h2⟩
theorem map_rep (hf : FRep nt G w fr a) (xs : List Operand) : LRep G w (xs.map (ev fr)) (xs.map a.eval) := by
 induction xs with
 | nil => exact .nil
 | cons x r ih => exact .cons (hf.ev x) ih
theorem pureOp_run {K : TypeId → Option (List Nat)} (hK : KOk P K) (hf : FRep nt G w fr a) {o : Oper} {s : S} (h : pureOp P K fr o.op = some s) : ∃ v, (execOp a.eval o).run P w = .ok (.value v) w ∧ SRep G w s v := by
 obtain ⟨dst, op, type, pos, after, guard⟩ := o
 simp only at h
 have wrap : ∀ {q : Sem Value} {r : Value}, q.run P w = .ok r w → (do pure (.value (← q)) : Sem Next).run P w = .ok (.value r) w := fun hq => by
  rw [Sem.run_bind, hq]; rfl
 cases op with
 | move x => obtain rfl := Option.some.inj h; exact ⟨_, rfl, hf.ev x⟩
 | assign x => obtain rfl := Option.some.inj h; exact ⟨_, rfl, hf.ev x⟩
 | pick c x y =>
  simp only [pureOp] at h
  split at h
  ·rename_i p hp
   obtain rfl := Option.some.inj h
   have hc := hf.ev c
   rw [hp] at hc
   obtain ⟨hv, _⟩ := srep_v hc
   refine ⟨if p then a.eval x else a.eval y, ?_, pickS_rep (hf.ev x) (hf.ev y)⟩
   simp only [execOp, hv, asBool, Sem.run_bind, Sem.run_pure, Result.andThen_ok]
  ·cases h
 | build t parts =>
  simp only [pureOp] at h
  obtain ⟨v, hv, hs⟩ := buildS_run (P := P) (G := G) (w := w) (vparts := parts.map fun (i, x) => (i, a.eval x)) (by simp) (fun i p q h1 h2 => by
   simp only [List.getElem?_map, Array.getElem?_toList] at h1
   simp only [Array.getElem?_map] at h2
   cases hp : parts[i]? with
   | none => rw [hp] at h1; cases h1
   | some pq =>
    rw [hp] at h1 h2
    obtain rfl := Option.some.inj h1
    obtain rfl := Option.some.inj h2
    exact ⟨rfl, hf.ev _⟩) h
  exact ⟨v, wrap hv, hs⟩
 | nilCheck x =>
  simp only [pureOp] at h
  have hx := hf.ev x
  split at h <;> first | (cases h; done) | skip
  all_goals (rename_i hx'; rw [hx'] at hx; obtain rfl := Option.some.inj h; generalize hv : a.eval x = vv at hx; cases hx)
  ·exact ⟨_, by simp only [execOp, hv]; rfl, .pt ‹_› ‹_›⟩
  ·exact ⟨_, by simp only [execOp, hv]; rfl, .ptr ‹_›⟩
  ·exact ⟨_, by simp only [execOp, hv]; rfl, .ep ‹_›⟩
 | binOp op t x y yt =>
  simp only [pureOp] at h
  obtain ⟨r, hr, hs⟩ := binS_run hK (hf.ev x) (hf.ev y) h
  exact ⟨r, wrap hr, hs⟩
 | unOp op t x =>
  simp only [pureOp] at h
  obtain ⟨r, hr, hs⟩ := unS_run (hf.ev x) h
  exact ⟨r, wrap hr, hs⟩
 | makeFunc f first cap =>
  simp only [pureOp] at h
  cases e : first.size.beq 0 && cap.size.beq 0 with
  | true =>
   rw [e, cond_true] at h
   obtain rfl := Option.some.inj h
   rw [Bool.and_eq_true] at e
   have h1 : first = #[] := Array.eq_empty_of_size_eq_zero (Nat.eq_of_beq_eq_true e.1)
   have h2 : cap = #[] := Array.eq_empty_of_size_eq_zero (Nat.eq_of_beq_eq_true e.2)
   subst h1; subst h2
   exact ⟨.func f #[] #[], by simp [execOp, Instr.makeFunc], srep_sv rfl⟩
  | false =>
   rw [e, cond_false] at h
   obtain rfl := Option.some.inj h
   refine ⟨.func f (first.map a.eval) (cap.map a.eval), rfl, .fn (by simp) (fun i s v h1 h2 => ?_) (by simp) (fun i s v h1 h2 => ?_)⟩
   ·exact (map_rep hf first.toList).2 i s v h1 (by simpa using h2)
   ·exact (map_rep hf cap.toList).2 i s v h1 (by simpa using h2)
 | slice t x lo hi mx =>
  simp only [pureOp, Option.bind_eq_some_iff] at h
  obtain ⟨l, hl, hh, hhi, m, hm, h⟩ := h
  obtain ⟨r, hr, hs⟩ := sliceS_run (hf.ev x) (optInt_rep hf hl) (optInt_rep hf hhi) (optInt_rep hf hm) h
  exact ⟨r, wrap hr, hs⟩
 | fieldAddr t x f =>
  simp only [pureOp] at h
  have hx := hf.ev x
  split at h <;> first | (cases h; done) | skip
  all_goals (rename_i hfo hx'; rw [hx'] at hx; obtain rfl := Option.some.inj h; generalize hv : a.eval x = vv at hx; cases hx)
  ·exact ⟨_, wrap (by rw [hv]; exact fieldAt_run hfo), .pt ‹_› (cellsAt_drop ‹_› _)⟩
  ·exact ⟨_, wrap (by rw [hv]; exact fieldAt_run hfo), .ptr ‹_›⟩
  ·exact ⟨_, wrap (by rw [hv]; exact fieldAt_run hfo), by rw [Nat.add_assoc]; exact .ep ‹_›⟩
 | field t x f =>
  simp only [pureOp] at h
  have hx := hf.ev x
  split at h
  ·rename_i o ft cs hfo hx'
   rw [hx'] at hx
   obtain ⟨vs, hv, hr⟩ := srep_agg' hx
   obtain ⟨d, hd, ht⟩ := valS_spec h
   obtain ⟨fs, y, hu, hy, rfl, rfl, hne⟩ := fieldOf_spec hfo
   obtain ⟨r, hr', hs⟩ := run_part_ok hd hr ht
   refine ⟨r, wrap ?_, hs⟩
   simp only [hv, Instr.field, Sem.run_bind, run_underlying hu, Result.andThen_ok, hy, asAgg, Sem.run_pure, hr']
  ·cases h
 | index t x ix =>
  simp only [pureOp] at h
  have hx := hf.ev x
  have hix := hf.ev ix
  split at h
  ·rename_i n e cs i hu hx' hi
   rw [hx'] at hx
   obtain ⟨vs, hv, hr⟩ := srep_agg' hx
   obtain ⟨k, hk⟩ := intOfS_spec hix hi
   cases e0 : decide (0 ≤ i) && decide (i < n) with
   | false => rw [e0] at h; cases h
   | true =>
    rw [e0, cond_true] at h
    simp only [Bool.and_eq_true, decide_eq_true_eq] at e0
    obtain ⟨d, hd, ht⟩ := valS_spec h
    obtain ⟨r, hr', hs⟩ := run_part_ok hd hr ht
    refine ⟨r, wrap ?_, hs⟩
    simp only [hv, hk, Instr.index, asIntOf, Sem.run_bind, Sem.run_pure, run_underlying hu, Result.andThen_ok, if_pos e0, run_sizeOf_ok hd, hr']
  ·rename_i str i hu hx' hi
   rw [hx'] at hx
   obtain ⟨hv, _⟩ := srep_v hx
   obtain ⟨k, hk⟩ := intOfS_spec hix hi
   split at h
   ·rename_i hb
    obtain rfl := Option.some.inj h
    refine ⟨_, wrap ?_, srep_sv rfl⟩
    have : str[i.toNat]? = some (str[i.toNat]'hb.2) := by simp [hb.2]
    simp only [hv, hk, Instr.index, asIntOf, Sem.run_bind, Sem.run_pure, run_underlying hu, Result.andThen_ok, if_pos hb.1, this]
   ·cases h
  ·cases h
 | indexAddr t x ix =>
  simp only [pureOp] at h
  have hx := hf.ev x
  have hix := hf.ev ix
  split at h <;> first | (cases h; done) | skip
  ·rename_i e sz n get i hu hx' hi
   rw [hx'] at hx
   obtain ⟨k, hk⟩ := intOfS_spec hix hi
   cases e0 : sz.beq (P.cellsOf e) && (P.info? e).isSome with
   | false => rw [e0] at h; cases h
   | true =>
    rw [e0, cond_true] at h
    simp only [Bool.and_eq_true] at e0
    obtain ⟨ie, hie⟩ := Option.isSome_iff_exists.1 e0.2
    have hsz := Nat.eq_of_beq_eq_true e0.1
    generalize hv : a.eval x = vv at hx
    cases hx with | t hx =>
    have hx2 := hx
    cases hx with | rows _ _ _ base cap vs hcap hlen hb hc =>
    obtain ⟨r, o, rfl, h0, h1, hs⟩ := elemS_rep hx2 h
    refine ⟨_, wrap ?_, hs⟩
    rw [hv, hk, indexAt_slice hu hie h0 h1, addr_add, hsz]
  ·rename_i e sz n get i hu hx' hi
   rw [hx'] at hx
   obtain ⟨k, hk⟩ := intOfS_spec hix hi
   cases e0 : sz.beq (P.cellsOf e) && (P.info? e).isSome with
   | false => rw [e0] at h; cases h
   | true =>
    rw [e0, cond_true] at h
    simp only [Bool.and_eq_true] at e0
    obtain ⟨ie, hie⟩ := Option.isSome_iff_exists.1 e0.2
    have hsz := Nat.eq_of_beq_eq_true e0.1
    generalize hv : a.eval x = vv at hx
    cases hx with | full hx =>
    obtain ⟨r, o, rfl, h0, h1, hs⟩ := elemS_rep hx h
    refine ⟨_, wrap ?_, hs⟩
    rw [hv, hk, indexAt_slice hu hie h0 h1, addr_add, hsz]
  ·rename_i e b n i hu hx' hi
   rw [hx'] at hx
   obtain ⟨k, hk⟩ := intOfS_spec hix hi
   cases e0 : (P.info? e).isSome && decide (0 ≤ i) && decide (i < n) with
   | false => rw [e0] at h; cases h
   | true =>
    rw [e0, cond_true] at h
    simp only [Bool.and_eq_true, decide_eq_true_eq] at e0
    obtain ⟨ie, hie⟩ := Option.isSome_iff_exists.1 e0.1.1
    obtain rfl := Option.some.inj h
    generalize hv : a.eval x = vv at hx
    cases hx with | sl hmu hb =>
    obtain ⟨r, rfl⟩ := hb (by omega)
    refine ⟨_, wrap ?_, .ep hmu⟩
    rw [hv, hk, indexAt_slice hu hie e0.1.2 e0.2, addr_add, Nat.zero_add, Nat.add_zero]
  ·rename_i n e b o i hu hx' hi
   rw [hx'] at hx
   obtain ⟨k, hk⟩ := intOfS_spec hix hi
   cases e0 : (P.info? e).isSome && decide (0 ≤ i) && decide (i < n) with
   | false => rw [e0] at h; cases h
   | true =>
    rw [e0, cond_true] at h
    simp only [Bool.and_eq_true, decide_eq_true_eq] at e0
    obtain ⟨ie, hie⟩ := Option.isSome_iff_exists.1 e0.1.1
    obtain rfl := Option.some.inj h
    generalize hv : a.eval x = vv at hx
    cases hx with | ptr hmu =>
    refine ⟨_, wrap ?_, .ptr hmu⟩
    rw [hv, hk, indexAt_array hu hie e0.1.2 e0.2, addr_add]
  ·rename_i n e cs i hu hx' hi
   rw [hx'] at hx
   obtain ⟨k, hk⟩ := intOfS_spec hix hi
   cases e0 : (P.info? e).isSome && decide (0 ≤ i) && decide (i < n) with
   | false => rw [e0] at h; cases h
   | true =>
    rw [e0, cond_true] at h
    simp only [Bool.and_eq_true, decide_eq_true_eq] at e0
    obtain ⟨ie, hie⟩ := Option.isSome_iff_exists.1 e0.1.1
    obtain rfl := Option.some.inj h
    generalize hv : a.eval x = vv at hx
    cases hx with | pt hi' hc =>
    refine ⟨_, wrap ?_, .pt hi' (cellsAt_drop hc _)⟩
    rw [hv, hk, indexAt_array hu hie e0.1.2 e0.2, addr_add]
  ·rename_i n e b z j o i hu hx' hi
   rw [hx'] at hx
   obtain ⟨k, hk⟩ := intOfS_spec hix hi
   cases e0 : (P.info? e).isSome && decide (0 ≤ i) && decide (i < n) with
   | false => rw [e0] at h; cases h
   | true =>
    rw [e0, cond_true] at h
    simp only [Bool.and_eq_true, decide_eq_true_eq] at e0
    obtain ⟨ie, hie⟩ := Option.isSome_iff_exists.1 e0.1.1
    obtain rfl := Option.some.inj h
    generalize hv : a.eval x = vv at hx
    cases hx with | ep hmu =>
    refine ⟨_, wrap ?_, .ep hmu⟩
    rw [hv, hk, indexAt_array hu hie e0.1.2 e0.2, addr_add, Nat.add_assoc]
 | extract x i =>
  simp only [pureOp] at h
  have hx := hf.ev x
  split at h
  ·rename_i vs hx'
   rw [hx'] at hx
   obtain ⟨us, hv, hl, hr⟩ := srep_tup hx
   have hlt : i < us.size := by rw [← hl]; exact (List.getElem?_eq_some_iff.1 h).1
   have hu : us[i]? = some us[i] := by simp [hlt]
   exact ⟨us[i], wrap (by rw [hv]; simp only [Instr.extract, hu, Sem.run_pure]), hr i s _ h hu⟩
  ·cases h
 | call c =>
  obtain ⟨callee, args, argTypes⟩ := c
  cases callee with
  | value f => cases h
  | invoke r m => cases h
  | builtin b =>
   have hl := map_rep hf args.toList
   have harg : (args.map a.eval).toList = args.toList.map a.eval := by simp
   cases b <;> simp only [pureOp] at h <;> first | (cases h; done) | skip
   case len =>
    split at h
    ·rename_i x t hx ht
     cases e0 : lenFits P t x with
     | false => rw [e0] at h; cases h
     | true =>
      rw [e0, cond_true] at h
      obtain ⟨n, hn, rfl⟩ := Option.map_eq_some_iff.1 h
      rw [hx] at hl
      obtain ⟨v, r, hv, hxv, hr⟩ := hl.uncons
      obtain rfl : r = [] := List.length_eq_zero_iff.1 hr.1.symm
      have hargs : args.map a.eval = #[v] := Array.ext' (by rw [harg, hv])
      refine ⟨.int .i64 n, ?_, srep_sv rfl⟩
      have := lenS_run (P := P) (w := w) (ts := argTypes) (ty := type) hxv hn ht e0
      simp only [execOp, resolve, Sem.run_bind, Sem.run_pure, Result.andThen_ok, invoke, builtin, hargs, this]
    ·cases h
   case max =>
    split at h
    ·rename_i x r hx
     rw [hx] at hl
     obtain ⟨v, vs, hv, hxv, hr⟩ := hl.uncons
     have hargs : (args.map a.eval).toList = v :: vs := by rw [harg, hv]
     obtain ⟨q, hq, hs⟩ := foldS_run (P := P) hxv hr h
     refine ⟨q, ?_, hs⟩
     simp only [if_true] at hq
     simp only [execOp, resolve, Sem.run_bind, Sem.run_pure, Result.andThen_ok, invoke, builtin, Builtin.max_, hargs, hq]
    ·cases h
   case min =>
    split at h
    ·rename_i x r hx
     rw [hx] at hl
     obtain ⟨v, vs, hv, hxv, hr⟩ := hl.uncons
     have hargs : (args.map a.eval).toList = v :: vs := by rw [harg, hv]
     obtain ⟨q, hq, hs⟩ := foldS_run (P := P) hxv hr h
     refine ⟨q, ?_, hs⟩
     simp only [Bool.false_eq_true, if_false] at hq
     simp only [execOp, resolve, Sem.run_bind, Sem.run_pure, Result.andThen_ok, invoke, builtin, Builtin.min_, hargs, hq]
    ·cases h
 | _ => cases h
end
section
variable {P : Program} {G : Gh} {w w0 : World} {nt B0 : Nat} {fr : Fr} {a : Act} {h : Heap}
def CRep (G : Gh) (w : World) (r o : Nat) (cs : List S) : Prop := ∀ (k : Nat) (s : S), cs[k]? = some s → ∃ v, w.cell? ⟨r, o + k, none⟩ = some v ∧ SRep G w s v
theorem CRep.drop {r o : Nat} {cs : List S} (h : CRep G w r o cs) (n : Nat) : CRep G w r (o + n) (cs.drop n) := fun k s hk => by
 rw [List.getElem?_drop] at hk
 have := h (n + k) s hk
 rwa [← Nat.add_assoc] at this
theorem CRep.vals {r o : Nat} {cs : List S} (h : CRep G w r o cs) : ∃ vs : List Value, LRep G w cs vs ∧ ∀ k v, vs[k]? = some v → w.cell? ⟨r, o + k, none⟩ = some v := by
 induction cs generalizing o with
 | nil => exact ⟨[], .nil, fun k v hk => by simp at hk⟩
 | cons s cs ih =>
  obtain ⟨v, hv, hs⟩ := h 0 s rfl
  obtain ⟨vs, hl, hc⟩ := ih (o := o + 1) (fun k s' hk => by
   have := h (k + 1) s' (by simpa using hk)
   rwa [show o + (k + 1) = o + 1 + k by omega] at this)
  refine ⟨v :: vs, .cons hs hl, fun k u hk => ?_⟩
  cases k with
  | zero => simp at hk; subst hk; exact hv
  | succ k => have := hc k u (by simpa using hk); rwa [show o + 1 + k = o + (k + 1) by omega] at this
theorem loadVar_run {t : TypeId} {r o : Nat} {cs : List S} {s : S} (hc : CRep G w r o cs) (h : valS P t cs = some s) : ∃ v, (loadVar t ⟨r, o, none⟩).run P w = .ok v w ∧ SRep G w s v := by
 obtain ⟨d, hd, ht⟩ := valS_spec h
 unfold takeS at ht
 unfold loadVar
 simp only [Sem.run_bind, run_isAgg t hd, Result.andThen_ok]
 cases e : isAggB P t with
 | false =>
  rw [e] at ht
  simp only [cond_false] at ht
  cases cs with
  | nil => cases ht
  | cons c r' =>
   obtain rfl := Option.some.inj ht
   obtain ⟨v, hv, hs⟩ := hc 0 c rfl
   exact ⟨v, by simp only [Bool.false_eq_true, if_false, run_load]; rw [show (⟨r, o, none⟩ : Addr) = ⟨r, o + 0, none⟩ from rfl, hv], hs⟩
 | true =>
  rw [e] at ht
  simp only [cond_true] at ht
  cases hl : (P.cellsOf t).ble cs.length with
  | false => rw [hl] at ht; cases ht
  | true =>
   rw [hl] at ht
   obtain rfl := Option.some.inj ht
   obtain ⟨vs, hr, hcell⟩ := hc.vals
   have hlen : P.cellsOf t ≤ vs.length := by rw [← hr.1]; exact Nat.le_of_ble_eq_true hl
   have := run_loadCells_list (P := P) (w := w) ⟨r, o, none⟩ (vs.take (P.cellsOf t)) (fun j v hj => by
    rw [addr_add]
    rw [List.getElem?_take] at hj
    split at hj
    ·exact hcell j v hj
    ·cases hj)
   rw [List.length_take, Nat.min_eq_left hlen] at this
   exact ⟨.agg (vs.take (P.cellsOf t)).toArray, by simp only [if_true, Sem.run_bind, run_sizeOf_ok hd, Result.andThen_ok, this, Sem.run_pure], (hr.take _).agg⟩
theorem crep_pt {r o : Nat} {cs : List T} (hc : CellsAt w G.imm ⟨r, o, none⟩ cs) : CRep G w r o (cs.map .t) := fun k s hk => by
 rw [List.getElem?_map] at hk
 cases e : cs[k]? with
 | none => rw [e] at hk; cases hk
 | some c =>
  rw [e] at hk
  obtain rfl := Option.some.inj hk
  obtain ⟨v, hv, ht⟩ := hc k c e
  exact ⟨v, hv, .t ht⟩
theorem cell_in {r : Nat} {c : Array Value} {ty : TypeId} {fz : Nat × Nat} (hb : w.heap[r]? = some (.cells c ty fz)) (k : Nat) : w.cell? ⟨r, k, none⟩ = c[k]? := by
 simp [World.cell?, hb]
theorem crep_cells {r : Nat} {c : Array Value} {ty : TypeId} {fz : Nat × Nat} {cs : List S} (hb : w.heap[r]? = some (.cells c ty fz)) (hc : CellsIn G w c cs) : CRep G w r 0 cs := fun k s hk => by
 obtain ⟨v, hv, hs⟩ := hc k s hk
 exact ⟨v, by rw [Nat.zero_add, cell_in hb]; exact hv, hs⟩
theorem crep_row {r sz n : Nat} {get : Fin n → List T} {c : Array Value} {ty : TypeId} {fz : Nat × Nat} (hb : w.heap[r]? = some (.cells c ty fz)) (hc : RowIn G w c sz n get) (i : Fin n) : CRep G w r (i.1 * sz) ((get i).map .t) := fun k s hk => by
 rw [List.getElem?_map] at hk
 cases e : (get i)[k]? with
 | none => rw [e] at hk; cases hk
 | some t =>
  rw [e] at hk
  obtain rfl := Option.some.inj hk
  obtain ⟨v, hv, ht⟩ := hc i k t e
  exact ⟨v, by rw [cell_in hb]; exact hv, .t ht⟩
theorem loadS_run (hs : Sim B0 w0 G h w) {get : Nat → Option B} (hg : ∀ b x, get b = some x → h.get b = some x) {t : TypeId} {x s : S} {v : Value} (hx : SRep G w x v) (hl : loadS P get t x = some s) :
  ∃ u, (Instr.loadAt t v).run P w = .ok u w ∧ SRep G w s u := by
 have fin : ∀ {r o : Nat} {cs : List S}, v = .pointer (some ⟨r, o, none⟩) → CRep G w r o cs → valS P t cs = some s → ∃ u, (Instr.loadAt t v).run P w = .ok u w ∧ SRep G w s u := by
  intro r o cs hv hc hval
  obtain ⟨u, hu, hsu⟩ := loadVar_run hc hval
  exact ⟨u, by rw [hv]; simp only [Instr.loadAt, Instr.sureAddr, Sem.run_bind, Sem.run_pure, Result.andThen_ok, hu], hsu⟩
 unfold loadS at hl
 split at hl
 ·cases hx with | pt hi hc => exact fin rfl (crep_pt hc) hl
 ·rename_i b o
  cases hx with | ptr hmu =>
  split at hl
  ·rename_i cs hb
   have hrep := hs.rep b _ (hg _ _ hb)
   cases hrep with | box hmu' hown hbl hf hle hc hi hB =>
   rw [hmu] at hmu'
   simp only [Option.some.injEq, Value.pointer.injEq, Addr.mk.injEq, and_true] at hmu'
   subst hmu'
   have := (crep_cells hbl hc).drop o
   rw [Nat.zero_add] at this
   exact fin rfl this hl
  ·cases hl
 ·rename_i b z i o
  cases hx with | ep hmu =>
  split at hl
  ·rename_i fz sz n g hb
   have hrep := hs.rep b _ (hg _ _ hb)
   split at hl
   ·rename_i hin
    cases e : z.beq sz && (o + P.cellsOf t).ble sz with
    | false => rw [e] at hl; cases hl
    | true =>
     rw [e, cond_true] at hl
     rw [Bool.and_eq_true] at e
     obtain rfl : z = sz := Nat.eq_of_beq_eq_true e.1
     cases hrep with
     | row hmu' hown hbl hf hcap hle hc hlen hi hB =>
      rw [hmu] at hmu'
      simp only [Option.some.injEq, Value.slice.injEq, Addr.mk.injEq, and_true] at hmu'
      obtain ⟨rfl, -, -⟩ := hmu'
      have := (crep_row hbl hc ⟨i, hin⟩).drop o
      rw [← List.map_drop] at this
      exact fin rfl this hl
     | none => omega
   ·cases hl
  ·rename_i fz sz n cs hb
   have hrep := hs.rep b _ (hg _ _ hb)
   cases e : z.beq sz && decide (i < n) && (o + P.cellsOf t).ble sz with
   | false => rw [e] at hl; cases hl
   | true =>
    rw [e, cond_true] at hl
    simp only [Bool.and_eq_true] at e
    obtain rfl : z = sz := Nat.eq_of_beq_eq_true e.1.1
    cases hrep with
    | lst hmu' hown hbl hf hle hn hc hi hB =>
     rw [hmu] at hmu'
     simp only [Option.some.injEq, Value.slice.injEq, Addr.mk.injEq, and_true] at hmu'
     obtain ⟨rfl, -, -⟩ := hmu'
     have := (crep_cells hbl hc).drop (i * z + o)
     rw [Nat.zero_add] at this
     exact fin rfl this hl
  ·cases hl
 ·cases hl
def Gh.with (G : Gh) (id : Nat) (v : Value) (r : Option Nat) : Gh := ⟨fun b => if b = id then some v else G.mu b, fun b => if b = id then r else G.own b, G.imm⟩
theorem Gh.with_mu (G : Gh) (id : Nat) (v : Value) (r : Option Nat) (hid : G.mu id = none) : ∀ b x, G.mu b = some x → (G.with id v r).mu b = some x := fun b x hb => by
 show (if b = id then _ else _) = _
 rw [if_neg (fun e => by rw [e, hid] at hb; cases hb)]
 exact hb
theorem heap_alloc_lt (w : World) (o : Obj) {r : Nat} (h : r < w.heap.size) : (w.alloc o).heap[r]? = w.heap[r]? := Below.heap_alloc w o r h
theorem BRep.mono {G G' : Gh} {w w' : World} {b : Nat} {x : B} (hr : BRep G B0 w b x) (hI : ∀ r, G.imm r → G'.imm r) (hI' : ∀ r, G.own b = some r → G'.imm r → G.imm r) (hk : ∀ r, G.imm r → w'.heap[r]? = w.heap[r]?) (hm : ∀ b x, G.mu b = some x → G'.mu b = some x) (ho : G'.own b = G.own b)
  (hb : ∀ r, G.own b = some r → w'.heap[r]? = w.heap[r]?) : BRep G' B0 w' b x := by
 cases hr with
 | box hmu hown hbl hf hl hc hi hB =>
  exact .box (hm _ _ hmu) (ho.trans hown) ((hb _ hown).trans hbl) hf hl (fun k s hk' => let ⟨v, hv, hs⟩ := hc k s hk'; ⟨v, hv, hs.mono hI hk hm⟩) (fun h => hi (hI' _ hown h)) hB
 | lst hmu hown hbl hf hl hn hc hi hB =>
  exact .lst (hm _ _ hmu) (ho.trans hown) ((hb _ hown).trans hbl) hf hl hn (fun k s hk' => let ⟨v, hv, hs⟩ := hc k s hk'; ⟨v, hv, hs.mono hI hk hm⟩) (fun e h => hi e (hI' _ hown h)) hB
 | row hmu hown hbl hf hcap hl hc hlen hi hB =>
  exact .row (hm _ _ hmu) (ho.trans hown) ((hb _ hown).trans hbl) hf hcap hl (fun i k t hk' => let ⟨v, hv, hs⟩ := hc i k t hk'; ⟨v, hv, hs.mono hI hk⟩) hlen (fun e h => hi e (hI' _ hown h)) hB
 | mp hmu hown hbl hc hi hB hw => exact .mp (hm _ _ hmu) (ho.trans hown) ((hb _ hown).trans hbl) (hc.mono hI hk hm) (fun e h => hi e (hI' _ hown h)) hB hw
 | none hmu hown => exact .none (hm _ _ hmu) (ho.trans hown)
theorem BRep.lt {b : Nat} {x : B} (hr : BRep G B0 w b x) {r : Nat} (ho : G.own b = some r) : r < w.heap.size := by
 have key : ∀ {r' : Nat} {o : Obj}, w.heap[r']? = some o → r' < w.heap.size := fun h => (Array.getElem?_eq_some_iff.1 h).1
 cases hr with
 | box hmu hown hbl => rw [hown] at ho; obtain rfl := Option.some.inj ho; exact key hbl
 | lst hmu hown hbl => rw [hown] at ho; obtain rfl := Option.some.inj ho; exact key hbl
 | row hmu hown hbl => rw [hown] at ho; obtain rfl := Option.some.inj ho; exact key hbl
 | mp hmu hown hbl => rw [hown] at ho; obtain rfl := Option.some.inj ho; exact key hbl
 | none hmu hown => rw [hown] at ho; cases ho
theorem BRep.notLd {b : Nat} {x : B} (hr : BRep G B0 w b x) {r : Nat} (ho : G.own b = some r) {o : Obj} (hb : w.heap[r]? = some o) : isLD o = false := by
 cases hr with
 | box hmu hown hbl => rw [hown] at ho; obtain rfl := Option.some.inj ho; rw [hbl] at hb; obtain rfl := Option.some.inj hb; rfl
 | lst hmu hown hbl => rw [hown] at ho; obtain rfl := Option.some.inj ho; rw [hbl] at hb; obtain rfl := Option.some.inj hb; rfl
 | row hmu hown hbl => rw [hown] at ho; obtain rfl := Option.some.inj ho; rw [hbl] at hb; obtain rfl := Option.some.inj hb; rfl
 | mp hmu hown hbl => rw [hown] at ho; obtain rfl := Option.some.inj ho; rw [hbl] at hb; obtain rfl := Option.some.inj hb; rfl
 | none hmu hown => rw [hown] at ho; cases ho
theorem BRep.ge {b : Nat} {x : B} (hr : BRep G B0 w b x) {r : Nat} (ho : G.own b = some r) : B0 ≤ r := by
 cases hr with
 | box hmu hown hbl hf hl hc hi hB => rw [hown] at ho; obtain rfl := Option.some.inj ho; exact hB
 | lst hmu hown hbl hf hl hn hc hi hB => rw [hown] at ho; obtain rfl := Option.some.inj ho; exact hB
 | row hmu hown hbl hf hcap hl hc hlen hi hB => rw [hown] at ho; obtain rfl := Option.some.inj ho; exact hB
 | mp hmu hown hbl hc hi hB => rw [hown] at ho; obtain rfl := Option.some.inj ho; exact hB
 | none hmu hown => rw [hown] at ho; cases ho
theorem get_put (h : Heap) (i j : Nat) (x : B) : (h.put i x).get j = if i = j then some x else h.get j := get_set _ _ _ _
theorem get_del (h : Heap) (i j : Nat) : (h.del i).get j = if i = j then none else h.get j := get_set _ _ _ _
theorem Sim.allocO (hs : Sim B0 w0 G h w) {id : Nat} (hlt : id < h.next) (hid : G.mu id = none) (hh : h.get id = none) {ob : Obj} {x : B} {v : Value}
  (hx : ∀ G' w', (∀ b x, G.mu b = some x → G'.mu b = some x) → G'.imm = G.imm → (∀ r, G.imm r → w'.heap[r]? = w.heap[r]?) → G'.mu id = some v → G'.own id = some w.heap.size → w'.heap[w.heap.size]? = some ob → BRep G' B0 w' id x) :
  Sim B0 w0 (G.with id v (some w.heap.size)) (h.put id x) (w.alloc ob) ∧ Nx B0 id G h w (G.with id v (some w.heap.size)) (h.put id x) (w.alloc ob) := by
 have hm := G.with_mu id v (some w.heap.size) hid
 have hk : ∀ r, G.imm r → (w.alloc ob).heap[r]? = w.heap[r]? := fun r hr => heap_alloc_lt w _ (hs.imm r hr)
 have hnew : (w.alloc ob).heap[w.heap.size]? = some ob := by
  show (w.heap.push _)[w.heap.size]? = _
  simp
 refine ⟨⟨hs.below.alloc hs.b0 _, fun r hr => ?_, fun b y hb => ?_, fun b b' r h1 h2 h3 h4 => ?_, fun b hb => ?_, ?_, hs.nold.mono hk⟩, ⟨fun _ h => h, hk, fun b hb _ => ?_, fun b hb _ hn => ?_, Nat.le_refl _, fun _ h => .inl h, KeepLd.below ((Below.refl _ _).alloc (Nat.le_refl _) _)⟩⟩
 ·have := hs.imm r hr; simp; omega
 ·rw [get_put] at hb
  split at hb
  ·rename_i e
   subst e
   obtain rfl := Option.some.inj hb
   exact hx _ _ hm rfl hk (by show (if _ then _ else _) = _; rw [if_pos rfl]) (by show (if _ then _ else _) = _; rw [if_pos rfl]) hnew
  ·rename_i e
   have hr := hs.rep b y hb
   have ho : (G.with id v (some w.heap.size)).own b = G.own b := by show (if _ then _ else _) = _; rw [if_neg (fun e' => e e'.symm)]
   exact hr.mono (fun _ h => h) (fun _ _ h => h) hk hm ho (fun r hr' => heap_alloc_lt w _ (hr.lt hr'))
 ·have ow : ∀ b r, (h.put id x).get b ≠ none → (G.with id v (some w.heap.size)).own b = some r → (b = id ∧ r = w.heap.size) ∨ (b ≠ id ∧ h.get b ≠ none ∧ G.own b = some r ∧ r < w.heap.size) := by
   intro b r hb ho
   by_cases e : b = id
   ·subst e
    left
    have : (if b = b then some w.heap.size else G.own b) = some r := ho
    rw [if_pos rfl] at this
    exact ⟨rfl, (Option.some.inj this).symm⟩
   ·right
    rw [get_put, if_neg (fun e' => e e'.symm)] at hb
    have ho' : (if b = id then some w.heap.size else G.own b) = some r := ho
    rw [if_neg e] at ho'
    cases hy : h.get b with
    | none => exact absurd hy hb
    | some y => exact ⟨e, by simp, ho', (hs.rep b y hy).lt ho'⟩
  rcases ow b r h1 h3 with ⟨rfl, e1⟩ | ⟨n1, a1, o1, l1⟩ <;> rcases ow b' r h2 h4 with ⟨rfl, e2⟩ | ⟨n2, a2, o2, l2⟩
  ·rfl
  ·omega
  ·omega
  ·exact hs.inj b b' r a1 a2 o1 o2
 ·have hb' : h.next ≤ b := hb
  have hne : b ≠ id := by omega
  refine ⟨?_, ?_⟩
  ·show (if _ then _ else _) = _
   rw [if_neg hne]; exact (hs.lo b hb').1
  ·rw [get_put, if_neg (fun e => hne e.symm)]; exact (hs.lo b hb').2
 ·have := hs.b0; simp; omega
 ·show (if _ then _ else _) = _
  rw [if_neg hb]
 ·rw [get_put, if_neg (fun e => hb e.symm)]; exact hn
theorem Sim.alloc (hs : Sim B0 w0 G h w) {id : Nat} (hlt : id < h.next) (hid : G.mu id = none) (hh : h.get id = none) {c : Array Value} {ty : TypeId} {x : B} {v : Value}
  (hx : ∀ G' w', (∀ b x, G.mu b = some x → G'.mu b = some x) → G'.imm = G.imm → (∀ r, G.imm r → w'.heap[r]? = w.heap[r]?) → G'.mu id = some v → G'.own id = some w.heap.size → w'.heap[w.heap.size]? = some (.cells c ty (0, 0)) → BRep G' B0 w' id x) :
  Sim B0 w0 (G.with id v (some w.heap.size)) (h.put id x) (w.alloc (.cells c ty)) ∧ Nx B0 id G h w (G.with id v (some w.heap.size)) (h.put id x) (w.alloc (.cells c ty)) := hs.allocO hlt hid hh hx
end
section
variable {P : Program} {G : Gh} {w w0 : World} {nt B0 : Nat} {fr : Fr} {a : Act} {h : Heap}
def After (B0 : Nat) (w0 : World) (id : Nat) (G : Gh) (h : Heap) (w : World) (s : S) (h' : Heap) (v : Value) (w' : World) : Prop :=
 ∃ G', Sim B0 w0 G' h' w' ∧ Nx B0 id G h w G' h' w' ∧ SRep G' w' s v
theorem cellsIn_of_lrep {cs : List S} {c : Array Value} (hl : LRep G w cs c.toList) : CellsIn G w c cs := fun k s hk => by
 have hlt : k < c.size := by have := (List.getElem?_eq_some_iff.1 hk).1; rw [hl.1] at this; simpa using this
 have hv : c[k]? = some c[k] := by simp [hlt]
 exact ⟨c[k], hv, hl.2 k s _ hk (by simp)⟩
theorem LRep.mono {G' : Gh} {w' : World} {cs : List S} {vs : List Value} (hl : LRep G w cs vs) (hI : ∀ r, G.imm r → G'.imm r) (hk : ∀ r, G.imm r → w'.heap[r]? = w.heap[r]?) (hm : ∀ b x, G.mu b = some x → G'.mu b = some x) : LRep G' w' cs vs :=
 ⟨hl.1, fun i s v h1 h2 => (hl.2 i s v h1 h2).mono hI hk hm⟩
theorem new_box (hs : Sim B0 w0 G h w) {id : Nat} (hlt : id < h.next) (hid : G.mu id = none) (hh : h.get id = none) {cs : List S} {c : Array Value} (hl : LRep G w cs c.toList) (ty : TypeId) :
  After B0 w0 id G h w (.ptr id 0) (h.put id (.box cs)) (.pointer (some ⟨w.heap.size, 0, none⟩)) (w.alloc (.cells c ty)) := by
 obtain ⟨h1, h2⟩ := hs.alloc hlt hid hh (c := c) (ty := ty) (x := .box cs) (v := .pointer (some ⟨w.heap.size, 0, none⟩)) (fun G' w' hm hI hk hmu hown hb => by
  refine .box hmu hown hb (.inl (Nat.le_refl _)) (by have := hl.1; simpa using this.symm) (cellsIn_of_lrep (hl.mono (fun r hr => by rw [hI]; exact hr) hk hm)) (fun hi => ?_) hs.b0
  rw [hI] at hi
  have := hs.imm _ hi
  omega)
 exact ⟨_, h1, h2, .ptr (by show (if _ then _ else _) = _; rw [if_pos rfl])⟩
theorem range_flat (n : Nat) (z : List Value) (hz : z ≠ []) : ((Array.range (n * z.length)).map (fun i => z.toArray[i % z.toArray.size]!)).toList = (List.replicate n z).flatten := by
 apply List.ext_getElem?
 intro i
 simp only [Array.toList_map, Array.toList_range, List.getElem?_map]
 have hpos : 0 < z.length := List.length_pos_iff.2 hz
 by_cases hi : i < n * z.length
 ·have : (List.range (n * z.length))[i]? = some i := by simp [hi]
  rw [this]
  have hm : i % z.length < z.length := Nat.mod_lt _ hpos
  have h1 : (z.toArray[i % z.toArray.size]!) = z[i % z.length] := by
   rw [List.size_toArray]
   rw [getElem!_pos _ _ (by simpa using hm)]
   simp
  simp only [Option.map_some, h1]
  induction n generalizing i with
  | zero => simp at hi
  | succ n ih =>
   rw [List.replicate_succ, List.flatten_cons, List.getElem?_append]
   by_cases hlt : i < z.length
   ·rw [if_pos hlt]
    have : i % z.length = i := Nat.mod_eq_of_lt hlt
    simp [this, hlt]
   ·rw [if_neg hlt]
    have hi' : i - z.length < n * z.length := by rw [Nat.succ_mul] at hi; omega
    have hmod : (i - z.length) % z.length = i % z.length := by
     conv => rhs; rw [show i = (i - z.length) + z.length by omega, Nat.add_mod_right]
    have := ih (i := i - z.length) hi' (by simp [hi']) (Nat.mod_lt _ hpos) (by
     rw [List.size_toArray, getElem!_pos _ _ (by simpa using Nat.mod_lt _ hpos)]; simp)
    rw [← this]
    simp [hmod]
 ·have h1 : (List.range (n * z.length))[i]? = none := by simp; omega
  have h2 : ((List.replicate n z).flatten)[i]? = none := by
   rw [List.getElem?_eq_none]
   simp [List.length_flatten, List.map_replicate]; omega
  rw [h1, h2]; rfl
theorem replicate_rep {z : List S} {vz : List Value} (hz : LRep G w z vz) : ∀ n, LRep G w (List.replicate n z).flatten (List.replicate n vz).flatten
 | 0 => .nil
 | n + 1 => by rw [List.replicate_succ, List.replicate_succ, List.flatten_cons, List.flatten_cons]; exact hz.append (replicate_rep hz n)
theorem fillS_len {place : Nat → Option (Nat × Nat)} : ∀ {parts : List (Nat × S)} {cs out : List S}, fillS place cs parts = some out → out.length = cs.length
 | [], cs, out, h => by simp only [fillS, Option.some.injEq] at h; rw [h]
 | (i, s) :: r, cs, out, h => by
  unfold fillS at h
  split at h
  ·cases h
  ·rename_i off size _
   cases e : defS s && (cellsOfS s).length.beq size && (off + (cellsOfS s).length).ble cs.length with
   | false => rw [e] at h; cases h
   | true =>
    rw [e, cond_true] at h
    rw [fillS_len h]
    have : ∀ (xs cs : List S) (o : Nat), (setFrom cs o xs).length = cs.length := by
     intro xs
     induction xs with
     | nil => intros; rfl
     | cons x xs ih => intro cs o; simp only [setFrom]; rw [ih]; simp
    exact this _ _ _
theorem newOp_run (hs : Sim B0 w0 G h w) (hf : FRep nt G w fr a) {id : Nat} (hlt : id < h.next) (hid : G.mu id = none) (hh : h.get id = none) {o : Oper} {s : S} {x : B} (ho : newOp P fr id o.op = some (s, x)) :
  ∃ v w', (execOp a.eval o).run P w = .ok (.value v) w' ∧ After B0 w0 id G h w s (h.put id x) v w' := by
 obtain ⟨dst, op, type, pos, after, guard⟩ := o
 simp only at ho
 cases op with
 | alloc t =>
  simp only [newOp] at ho
  split at ho
  ·rename_i z hz
   obtain ⟨i, v, hi, hv, rfl⟩ := zeroS_spec hz
   cases e0 : defS (constS v) with
   | false => rw [e0] at ho; cases ho
   | true =>
    rw [e0, cond_true] at ho
    simp only [Option.some.injEq, Prod.mk.injEq] at ho
    obtain ⟨rfl, rfl⟩ := ho
    have hrun : (execOp a.eval { dst := dst, op := .alloc t, type := type, pos := pos, after := after, guard := guard }).run P w = .ok (.value (.pointer (some ⟨w.heap.size, 0, none⟩))) (w.alloc (.cells v.cells t)) := by
     simp only [execOp, Instr.alloc, Sem.run_bind, run_zeroValue_ok hi hv, Result.andThen_ok, newVar, newRow, run_newObj, Sem.run_pure]
     rfl
    exact ⟨_, _, hrun, new_box hs hlt hid hh (constS_def e0) t⟩
  ·cases ho
 | makeMap t r =>
  simp only [newOp] at ho
  cases r with
  | some x => simp only at ho; split at ho <;> cases ho
  | none =>
   simp only [Option.some.injEq, Prod.mk.injEq] at ho
   obtain ⟨rfl, rfl⟩ := ho
   refine ⟨.map (some w.heap.size), w.alloc (.map #[] 0), rfl, ?_⟩
   obtain ⟨h1, h2⟩ := hs.allocO hlt hid hh (ob := .map #[] 0) (x := .mp false []) (v := .map (some w.heap.size)) (fun G' w' hm hI hk hmu hown hb => by
    refine .mp hmu hown hb ⟨rfl, fun i e m h => by simp at h⟩ (fun _ hi => ?_) hs.b0 ⟨by simp, by simp⟩
    rw [hI] at hi
    have := hs.imm _ hi
    omega)
   exact ⟨_, h1, h2, .mp (by show (if _ then _ else _) = _; rw [if_pos rfl])⟩
 | box t x =>
  simp only [newOp] at ho
  cases e0 : defS (ev fr x) with
  | false => rw [e0] at ho; cases ho
  | true =>
   rw [e0, cond_true] at ho
   simp only [Option.some.injEq, Prod.mk.injEq] at ho
   obtain ⟨rfl, rfl⟩ := ho
   exact ⟨_, _, rfl, new_box hs hlt hid hh (srep_cells (hf.ev x) e0) t⟩
 | buildSlice t n parts =>
  simp only [newOp] at ho
  split at ho
  ·rename_i e hu
   split at ho
   ·rename_i z hz
    obtain ⟨i, v, hi, hv, rfl⟩ := zeroS_spec hz
    cases e0 : (P.cellsOf e).beq 0 || (n * P.cellsOf e).ble 16777216 == false || !((cellsOfS (constS v)).length.beq (P.cellsOf e)) || !defS (constS v) with
    | true => rw [e0] at ho; cases ho
    | false =>
     rw [e0, cond_false] at ho
     simp only [Bool.or_eq_false_iff] at e0
     obtain ⟨⟨⟨e1, e2⟩, e3⟩, e4⟩ := e0
     obtain ⟨cs, hcs, e⟩ := Option.map_eq_some_iff.1 ho
     simp only [Prod.mk.injEq] at e
     obtain ⟨rfl, rfl⟩ := e
     have hz := constS_def (G := G) (w := w) (v := v) (by simpa using e4)
     have hlen : v.cells.size = P.cellsOf e := by
      have h1 : (cellsOfS (constS v)).length = P.cellsOf e := Nat.eq_of_beq_eq_true (by simpa using e3)
      have := hz.1
      rw [h1] at this; simpa using this.symm
     have hpos : P.cellsOf e ≠ 0 := fun h0 => by rw [h0] at e1; cases e1
     have hsmall : n * P.cellsOf e ≤ 16777216 := Nat.le_of_ble_eq_true (by simpa using e2)
     have hne : v.cells.toList ≠ [] := fun h0 => by rw [← Array.length_toList, h0] at hlen; exact hpos hlen.symm
     obtain ⟨c', hc', hr⟩ := fill_rep (G := G) (w := w) (fun i => some (i * P.cellsOf e, P.cellsOf e)) (parts.toList.map fun p => (p.1, ev fr p.2)) ((parts.map fun (i, x) => (i, a.eval x)).toList) _ ((List.replicate n v.cells.toList).flatten.toArray) cs (replicate_rep hz n) (by simp) (fun i p q h1 h2 => by
      simp only [List.getElem?_map, Array.toList_map] at h1 h2
      cases hp : parts.toList[i]? with
      | none => rw [hp] at h1; cases h1
      | some pq =>
       rw [hp] at h1 h2
       obtain rfl := Option.some.inj h1
       obtain rfl := Option.some.inj h2
       exact ⟨rfl, hf.ev _⟩) hcs
     have hrun : (Instr.buildSlice t n (parts.map fun (i, x) => (i, a.eval x))).run P w = .ok (.slice (some ⟨w.heap.size, 0, none⟩) n n) (w.alloc (.cells c' e)) := by
      have hsz : i.size = P.cellsOf e := (cellsOf_of_info hi).symm
      by_cases hn : n = 0
      ·subst hn
       have hc2 : Instr.fill (fun j => some (j * i.size, i.size)) #[] ((parts.map fun (i, x) => (i, a.eval x)).toList) = some c' := by rw [hsz]; exact hc'
       have e0 : ((Array.range 0).map (fun k => (#[] : Array Value)[k % (#[] : Array Value).size]!)) = #[] := by simp
       simp only [Instr.buildSlice, Sem.run_bind, run_underlying hu, sizeOf, typeInfo, run_program, Result.andThen_ok, hi, Sem.run_pure, Nat.zero_mul, Nat.not_lt_zero, if_false, if_true, e0, hc2, newRow, run_newObj, gt_iff_lt]
       rfl
      ·have hcells : (List.replicate n v.cells.toList).flatten.toArray = (Array.range (n * i.size)).map (v.cells[· % v.cells.size]!) := by
        apply Array.ext'
        have := range_flat n v.cells.toList hne
        rw [Array.length_toList, hlen] at this
        rw [hsz, hlen]
        simpa using this.symm
       refine run_buildSlice w t e n _ c' i v hu hi hv (by rw [hsz]; omega) (by rw [hsz]; exact Nat.mul_ne_zero hn hpos) ?_
       rw [← hcells, hsz]
       exact hc'
     refine ⟨.slice (some ⟨w.heap.size, 0, none⟩) n n, w.alloc (.cells c' e), by simp only [execOp, Sem.run_bind, hrun, Result.andThen_ok, Sem.run_pure], ?_⟩
     have hcl : cs.length = n * P.cellsOf e := by
      rw [fillS_len hcs]
      simp [List.length_flatten, List.map_replicate, Nat.eq_of_beq_eq_true (by simpa using e3 : (cellsOfS (constS v)).length.beq (P.cellsOf e) = true)]
     obtain ⟨h1, h2⟩ := hs.alloc hlt hid hh (c := c') (ty := e) (x := .lst false (P.cellsOf e) n cs) (v := .slice (some ⟨w.heap.size, 0, none⟩) n n) (fun G' w' hm hI hk hmu hown hb => by
      refine .lst hmu hown hb (.inl (Nat.le_refl _)) (by have := hr.1; simpa using this.symm) hcl (cellsIn_of_lrep (hr.mono (fun r hr => by rw [hI]; exact hr) hk hm)) (fun _ hi => ?_) hs.b0
      rw [hI] at hi
      have := hs.imm _ hi
      omega)
     exact ⟨_, h1, h2, .sl (by show (if _ then _ else _) = _; rw [if_pos rfl]) (fun _ => ⟨_, rfl⟩)⟩
   ·cases ho
  ·cases ho
 | _ => cases ho
end
section
variable {P : Program} {G : Gh} {w w0 : World} {nt B0 : Nat} {fr : Fr} {a : Act} {h : Heap}
def vset : List Value → Nat → List Value → List Value
 | cs, _, [] => cs
 | cs, o, x :: r => vset (cs.set o x) (o + 1) r
theorem vset_len : ∀ (xs cs : List Value) (o : Nat), (vset cs o xs).length = cs.length
 | [], _, _ => rfl
 | x :: r, cs, o => by simp only [vset]; rw [vset_len r]; simp
theorem vset_lt : ∀ (xs cs : List Value) (o k : Nat), k < o → (vset cs o xs)[k]? = cs[k]?
 | [], _, _, _, _ => rfl
 | x :: r, cs, o, k, hk => by
  simp only [vset]
  rw [vset_lt r _ (o + 1) k (by omega), List.getElem?_set_ne (by omega)]
theorem vset_ge : ∀ (xs cs : List Value) (o k : Nat), o + xs.length ≤ k → (vset cs o xs)[k]? = cs[k]?
 | [], _, _, _, _ => rfl
 | x :: r, cs, o, k, hk => by
  simp only [vset]
  simp only [List.length_cons] at hk
  rw [vset_ge r _ (o + 1) k (by omega), List.getElem?_set_ne (by omega)]
theorem vset_in : ∀ (xs cs : List Value) (o j : Nat), o + xs.length ≤ cs.length → j < xs.length → (vset cs o xs)[o + j]? = xs[j]?
 | [], _, _, _, _, hj => by simp at hj
 | x :: r, cs, o, 0, hl, hj => by
  simp only [vset]
  rw [vset_lt r _ (o + 1) (o + 0) (by omega)]
  simp only [List.length_cons] at hl
  rw [Nat.add_zero, List.getElem?_set_self (by omega)]
  rfl
 | x :: r, cs, o, j + 1, hl, hj => by
  simp only [vset]
  simp only [List.length_cons] at hl hj
  have := vset_in r (cs.set o x) (o + 1) j (by simp; omega) (by omega)
  rw [show o + (j + 1) = o + 1 + j by omega, this]
  rfl
theorem setFrom_rep' : ∀ (xs : List S) (us : List Value) (cs : List S) (vs : List Value) (o : Nat), LRep G w cs vs → LRep G w xs us → LRep G w (setFrom cs o xs) (vset vs o us)
 | [], us, cs, vs, o, h, h' => by
  obtain rfl : us = [] := List.length_eq_zero_iff.1 h'.1.symm
  exact h
 | x :: xs, us, cs, vs, o, h, h' => by
  obtain ⟨u, r, rfl, hu, hr⟩ := h'.uncons
  exact setFrom_rep' xs r _ _ (o + 1) (h.set o hu) hr
theorem setCells_facts (b : Nat) : ∀ (vs : List Value) (o : Nat) (w : World) (c : Array Value) (ty : TypeId) (fz : Nat × Nat), w.heap[b]? = some (.cells c ty fz) →
  ∃ c', (w.setCells b o vs).heap[b]? = some (.cells c' ty fz) ∧ c'.toList = vset c.toList o vs ∧ (∀ k, k ≠ b → (w.setCells b o vs).heap[k]? = w.heap[k]?) ∧ (w.setCells b o vs).heap.size = w.heap.size ∧
   (w.setCells b o vs).os = w.os ∧ (w.setCells b o vs).tape = w.tape ∧ (w.setCells b o vs).output = w.output
 | [], o, w, c, ty, fz, hb => ⟨c, hb, rfl, fun _ _ => rfl, rfl, rfl, rfl, rfl⟩
 | v :: r, o, w, c, ty, fz, hb => by
  have h1 : (w.setCell ⟨b, o, none⟩ v).heap[b]? = some (.cells (c.setIfInBounds o v) ty fz) := by
   simp only [World.setCell, Array.getElem?_modify, if_true, hb, Option.map_some]
   rfl
  obtain ⟨c', e1, e2, e3, e4, e5, e6, e7⟩ := setCells_facts b r (o + 1) (w.setCell ⟨b, o, none⟩ v) _ ty fz h1
  refine ⟨c', e1, ?_, fun k hk => (e3 k hk).trans (Below.heap_setCell w ⟨b, o, none⟩ v k hk), e4.trans (by simp [World.setCell]), e5, e6, e7⟩
  rw [e2, Array.toList_setIfInBounds]
  rfl
theorem bare_cell {r : Nat} {c : Array Value} {ty : TypeId} {fz : Nat × Nat} (hb : w.heap[r]? = some (.cells c ty fz)) (hf : Bare c fz) {k : Nat} (hk : k < c.size) : (w.cell? ⟨r, k, none⟩).isSome = true ∧ w.frozen? ⟨r, k, none⟩ = false := by
 refine ⟨by rw [cell_in hb]; simp [hk], ?_⟩
 simp only [World.frozen?, hb]
 unfold Bare at hf
 simp only [Bool.and_eq_false_iff, decide_eq_false_iff_not]
 omega
theorem Sim.write (hs : Sim B0 w0 G h w) {b r : Nat} {x x' : B} (hb : h.get b = some x) (hown : G.own b = some r) (hni : ¬ G.imm r) (hB : B0 ≤ r) {w' : World} (hk : ∀ k, k ≠ r → w'.heap[k]? = w.heap[k]?) (hsz : w'.heap.size = w.heap.size)
  (hos : w'.os = w.os) (htape : w'.tape = w.tape) (hout : w'.output = w.output) (hx' : BRep G B0 w' b x') (id : Nat) : Sim B0 w0 G (h.put b x') w' ∧ Nx B0 id G h w G (h.put b x') w' := by
 have hkeep : ∀ q, G.imm q → w'.heap[q]? = w.heap[q]? := fun q hq => hk q (fun e => hni (e ▸ hq))
 have hbe : Below B0 w w' := ⟨hos, htape, hout, by omega, fun k hk' => hk k (by omega)⟩
 refine ⟨⟨hs.below.trans hbe, fun q hq => by rw [hsz]; exact hs.imm q hq, fun b2 y hb2 => ?_, fun b1 b2 q h1 h2 h3 h4 => ?_, fun b2 hb2 => ⟨(hs.lo b2 hb2).1, ?_⟩, by rw [hsz]; exact hs.b0, hs.nold.mono hkeep⟩, ⟨fun _ h => h, hkeep, fun _ _ _ => rfl, fun b2 _ _ hn => ?_, Nat.le_refl _, fun _ h => .inl h, fun k o hk1 hl => (hk k (fun e => by subst e; have hq := (hs.rep b x hb).notLd hown hk1; rw [hq] at hl; cases hl)).trans hk1⟩⟩
 ·rw [get_put] at hb2
  split at hb2
  ·rename_i e
   subst e
   obtain rfl := Option.some.inj hb2
   exact hx'
  ·rename_i e
   refine (hs.rep b2 y hb2).mono (fun _ h => h) (fun _ _ h => h) hkeep (fun _ _ h => h) rfl (fun q hq => hk q (fun eq => ?_))
   subst eq
   exact e (hs.inj b b2 q (by rw [hb]; simp) (by rw [hb2]; simp) hown hq)
 ·have ne : ∀ b3, (h.put b x').get b3 ≠ none → h.get b3 ≠ none := by
   intro b3 h3
   rw [get_put] at h3
   split at h3
   ·rename_i e; subst e; rw [hb]; simp
   ·exact h3
  exact hs.inj b1 b2 q (ne b1 h1) (ne b2 h2) h3 h4
 ·rw [get_put]
  split
  ·rename_i e; subst e; rw [(hs.lo b hb2).2] at hb; cases hb
  ·exact (hs.lo b2 hb2).2
 ·rw [get_put]
  split
  ·rename_i e; subst e; rw [hn] at hb; cases hb
  ·exact hn
def Gh.froz (G : Gh) (h : Heap) (l : List Nat) : Gh := ⟨G.mu, G.own, fun r => G.imm r ∨ ∃ b, b ∈ l ∧ ∃ x, h.get b = some x ∧ isRow x = true ∧ G.own b = some r⟩
theorem froz_mono {l l' : List Nat} (hl : ∀ b, b ∈ l → b ∈ l') {r : Nat} (hi : (G.froz h l).imm r) : (G.froz h l').imm r := by
 rcases hi with hi | ⟨b, hb, x, hx, hr, ho⟩
 ·exact .inl hi
 ·exact .inr ⟨b, hl b hb, x, hx, hr, ho⟩
theorem freeze1_idem (x : B) : freeze1 (freeze1 x) = freeze1 x := by cases x <;> rfl
theorem get_freeze : ∀ (l : List Nat) (h : Heap) (b : Nat), (h.freeze l).get b = (h.get b).map (fun x => if b ∈ l then freeze1 x else x) ∧ (h.freeze l).next = h.next
 | [], h, b => by simp [Heap.freeze]
 | c :: l, h, b => by
  unfold Heap.freeze
  cases hc : h.get c with
  | none =>
   simp only
   have := get_freeze l h b
   refine ⟨?_, this.2⟩
   rw [this.1]
   by_cases e : b = c
   ·subst e; simp [hc]
   ·simp [e]
  | some x =>
   simp only
   have := get_freeze l (h.put c (freeze1 x)) b
   refine ⟨?_, this.2⟩
   rw [this.1, get_put]
   by_cases e : c = b
   ·subst e
    simp only [if_true, hc, Option.map_some, List.mem_cons, true_or]
    by_cases m : c ∈ l <;> simp [m, freeze1_idem]
   ·simp only [if_neg e, List.mem_cons]
    have : ¬ b = c := fun e' => e e'.symm
    simp [this]
theorem Sim.froz_nold (hs : Sim B0 w0 G h w) (l : List Nat) : NoLd (G.froz h l).imm w := fun r o hr ho => by
 rcases hr with hr | ⟨b, _, x, hx, _, hown⟩
 ·exact hs.nold r o hr ho
 ·exact (hs.rep b x hx).notLd hown ho
theorem Sim.freeze (hs : Sim B0 w0 G h w) (l : List Nat) (id : Nat) : Sim B0 w0 (G.froz h l) (h.freeze l) w ∧ Nx B0 id G h w (G.froz h l) (h.freeze l) w := by
 have getf := fun b => (get_freeze l h b).1
 refine ⟨⟨hs.below, fun r hr => ?_, fun b y hb => ?_, fun b1 b2 q h1 h2 h3 h4 => ?_, fun b hb => ?_, hs.b0, hs.froz_nold l⟩, ⟨fun _ h => .inl h, fun _ _ => rfl, fun _ _ _ => rfl, fun b _ _ hn => ?_, ?_, fun q hq => ?_, KeepLd.refl w⟩⟩
 ·rcases hr with hr | ⟨b, _, x, hx, _, ho⟩
  ·exact hs.imm r hr
  ·exact (hs.rep b x hx).lt ho
 ·rw [getf] at hb
  obtain ⟨x, hx, e⟩ := Option.map_eq_some_iff.1 hb
  have hr := hs.rep b x hx
  have only : ∀ r, G.own b = some r → (G.froz h l).imm r → G.imm r ∨ (b ∈ l ∧ isRow x = true) := by
   intro r ho hi
   rcases hi with hi | ⟨b', hb', x', hx', hr', ho'⟩
   ·exact .inl hi
   ·have : b' = b := hs.inj b' b r (by rw [hx']; simp) (by rw [hx]; simp) ho' ho
    subst this
    rw [hx] at hx'
    obtain rfl := Option.some.inj hx'
    exact .inr ⟨hb', hr'⟩
  have hI : ∀ r, G.imm r → (G.froz h l).imm r := fun _ h => .inl h
  have hk : ∀ r, G.imm r → w.heap[r]? = w.heap[r]? := fun _ _ => rfl
  have hm : ∀ b x, G.mu b = some x → (G.froz h l).mu b = some x := fun _ _ h => h
  subst e
  cases hr with
  | box hmu hown hbl hf hle hc hi hB =>
   have e : ∀ cs, (if b ∈ l then freeze1 (.box cs) else .box cs : B) = .box cs := fun cs => by split <;> rfl
   rw [e]
   refine .box hmu hown hbl hf hle (fun k s hk' => let ⟨v, hv, hsv⟩ := hc k s hk'; ⟨v, hv, hsv.mono hI hk hm⟩) (fun h' => ?_) hB
   rcases only _ hown h' with h1 | h1
   ·exact hi h1
   ·cases h1.2
  | lst hmu hown hbl hf hle hn hc hi hB =>
   by_cases m : b ∈ l
   ·rw [if_pos m]
    exact .lst hmu hown hbl hf hle hn (fun k s hk' => let ⟨v, hv, hsv⟩ := hc k s hk'; ⟨v, hv, hsv.mono hI hk hm⟩) (fun h => by cases h) hB
   ·rw [if_neg m]
    refine .lst hmu hown hbl hf hle hn (fun k s hk' => let ⟨v, hv, hsv⟩ := hc k s hk'; ⟨v, hv, hsv.mono hI hk hm⟩) (fun e h' => ?_) hB
    rcases only _ hown h' with h1 | h1
    ·exact hi e h1
    ·exact m h1.1
  | row hmu hown hbl hf hcap hle hc hlen hi hB =>
   by_cases m : b ∈ l
   ·rw [if_pos m]
    exact .row hmu hown hbl hf hcap hle (fun i k t hk' => let ⟨v, hv, hsv⟩ := hc i k t hk'; ⟨v, hv, hsv.mono hI hk⟩) hlen (fun h => by cases h) hB
   ·rw [if_neg m]
    refine .row hmu hown hbl hf hcap hle (fun i k t hk' => let ⟨v, hv, hsv⟩ := hc i k t hk'; ⟨v, hv, hsv.mono hI hk⟩) hlen (fun e h' => ?_) hB
    rcases only _ hown h' with h1 | h1
    ·exact hi e h1
    ·exact m h1.1
  | mp hmu hown hbl hc hi hB hw =>
   by_cases m : b ∈ l
   ·rw [if_pos m]
    exact .mp hmu hown hbl (hc.mono hI hk hm) (fun h => by cases h) hB hw
   ·rw [if_neg m]
    refine .mp hmu hown hbl (hc.mono hI hk hm) (fun e h' => ?_) hB hw
    rcases only _ hown h' with h1 | h1
    ·exact hi e h1
    ·exact m h1.1
  | none hmu hown =>
   by_cases m : b ∈ l
   ·rw [if_pos m]; exact .none hmu hown
   ·rw [if_neg m]; exact .none hmu hown
 ·have ne : ∀ b3, (h.freeze l).get b3 ≠ none → h.get b3 ≠ none := fun b3 h3 e => h3 (by rw [getf, e]; rfl)
  exact hs.inj b1 b2 q (ne b1 h1) (ne b2 h2) h3 h4
 ·have hb' : h.next ≤ b := by rw [(get_freeze l h b).2] at hb; exact hb
  exact ⟨(hs.lo b hb').1, by rw [getf, (hs.lo b hb').2]; rfl⟩
 ·rw [getf, hn]; rfl
 ·rw [(get_freeze l h 0).2]; exact Nat.le_refl _
 ·rcases hq with hq | ⟨b, _, x, hx, _, ho⟩
  ·exact .inl hq
  ·exact .inr ((hs.rep b x hx).ge ho)
def TL (w : World) (I : Nat → Prop) (ts : List T) (vs : List Value) : Prop := ts.length = vs.length ∧ ∀ (k : Nat) (t : T) (v : Value), ts[k]? = some t → vs[k]? = some v → TRep w I t v
theorem TL.nil {I : Nat → Prop} : TL w I [] [] := ⟨rfl, fun k t v h => by simp at h⟩
theorem TL.cons {I : Nat → Prop} {t : T} {v : Value} {ts : List T} {vs : List Value} (h : TRep w I t v) (r : TL w I ts vs) : TL w I (t :: ts) (v :: vs) :=
 ⟨by simp [r.1], fun k t' v' h1 h2 => by
  cases k with
  | zero => simp at h1 h2; subst h1; subst h2; exact h
  | succ k => simp at h1 h2; exact r.2 k t' v' h1 h2⟩
theorem TL.mono {w' : World} {I I' : Nat → Prop} {ts : List T} {vs : List Value} (h : TL w I ts vs) (hI : ∀ r, I r → I' r) (hk : ∀ r, I r → w'.heap[r]? = w.heap[r]?) : TL w' I' ts vs := ⟨h.1, fun k t v h1 h2 => (h.2 k t v h1 h2).mono hI hk⟩
theorem trep_one {I : Nat → Prop} {t : T} {v : Value} (h : TRep w I t v) : v.oneCell' = true := by
 cases h with
 | v _ ho => exact ho
 | rows => rfl
theorem rows_of_row {b r sz n cap : Nat} {get : Fin n → List T} {c : Array Value} {ty : TypeId} {fz : Nat × Nat} {I : Nat → Prop} (hI : ∀ r, G.imm r → I r) (hr : I r) (hbl : w.heap[r]? = some (.cells c ty fz)) (hcap : n ≤ cap) (hc : RowIn G w c sz n get) (hlen : ∀ i, (get i).length = sz) :
  TRep w I (.rows sz n get) (.slice (some ⟨r, 0, none⟩) n cap) := by
 refine .rows sz n get _ cap (fun i k => (c[i.1 * sz + k]?).getD undef) hcap hlen (fun _ => ⟨r, 0, rfl, hr, fun i k t hk => ?_⟩) (fun i k t hk => ?_)
 ·obtain ⟨v, hv, _⟩ := hc i k t hk
  rw [Nat.zero_add, cell_in hbl, hv]; rfl
 ·obtain ⟨v, hv, ht⟩ := hc i k t hk
  rw [hv]
  exact ht.mono hI (fun _ _ => rfl)
theorem take_drop_in {α : Type} {ts : List α} {sz i k : Nat} {t : α} (h : ((ts.drop (i * sz)).take sz)[k]? = some t) : ts[i * sz + k]? = some t ∧ k < sz := by
 rw [List.getElem?_take] at h
 split at h
 ·rename_i hk; rw [List.getElem?_drop] at h; exact ⟨h, hk⟩
 ·cases h
mutual
theorem toT_rep (hs : Sim B0 w0 G h w) {get : Nat → Option B} (hg : ∀ b x, get b = some x → h.get b = some x) : ∀ (d : Nat) (s : S) (v : Value) (t : T) (l : List Nat), toT get d s = some (t, l) → SRep G w s v → TRep w (G.froz h l).imm t v
 | 0, s, v, t, l, ht, _ => by simp [toT] at ht
 | d + 1, s, v, t, l, ht, hr => by
  unfold toT at ht
  split at ht <;> first | (cases ht; done) | skip
  ·rename_i x he
   cases he
   simp only [Option.some.injEq, Prod.mk.injEq] at ht
   obtain ⟨rfl, rfl⟩ := ht
   cases hr with | t hr => exact hr.mono (fun _ h => .inl h) (fun _ _ => rfl)
  ·rename_i sz n g he
   cases he
   simp only [Option.some.injEq, Prod.mk.injEq] at ht
   obtain ⟨rfl, rfl⟩ := ht
   cases hr with | full hr => exact hr.mono (fun _ h => .inl h) (fun _ _ => rfl)
  ·rename_i d' b n0 he
   cases he
   cases hr with | sl hmu hbase =>
   split at ht
   ·rename_i fz sz n g hb
    simp only [Option.some.injEq, Prod.mk.injEq] at ht
    obtain ⟨rfl, rfl⟩ := ht
    have hrep := hs.rep b _ (hg _ _ hb)
    cases hrep with
    | row hmu' hown hbl hf hcap hle hc hlen hi hB =>
     rw [hmu] at hmu'
     simp only [Option.some.injEq, Value.slice.injEq] at hmu'
     obtain ⟨rfl, rfl, rfl⟩ := hmu'
     exact rows_of_row (b := b) (fun _ h => .inl h) (.inr ⟨b, by simp, _, hg _ _ hb, rfl, hown⟩) hbl hcap hc hlen
    | none hmu' hown =>
     rw [hmu] at hmu'
     simp only [Option.some.injEq, Value.slice.injEq] at hmu'
     obtain ⟨rfl, rfl, rfl⟩ := hmu'
     exact .rows sz 0 _ _ 0 (fun i => absurd i.2 (Nat.not_lt_zero _)) (Nat.le_refl _) (fun i => absurd i.2 (Nat.not_lt_zero _)) (fun h => absurd rfl h) (fun i => absurd i.2 (Nat.not_lt_zero _))
   ·rename_i fz sz n cs hb
    split at ht
    ·rename_i ts l' hts
     simp only [Option.some.injEq, Prod.mk.injEq] at ht
     obtain ⟨rfl, rfl⟩ := ht
     have hrep := hs.rep b _ (hg _ _ hb)
     cases hrep with
     | lst hmu' hown hbl hf hle hn hc hi hB =>
      rw [hmu] at hmu'
      simp only [Option.some.injEq, Value.slice.injEq] at hmu'
      obtain ⟨rfl, rfl, rfl⟩ := hmu'
      rename_i r c ty fz'
      have hl : LRep G w cs c.toList := ⟨by simpa using hle.symm, fun k s v h1 h2 => by
       obtain ⟨u, hu, hs'⟩ := hc k s h1
       rw [Array.getElem?_toList] at h2
       rw [hu] at h2
       obtain rfl := Option.some.inj h2
       exact hs'⟩
      have := toTs_rep hs hg d cs c.toList ts l' hts hl
      have hlen := this.1.trans (hl.1.symm.trans hn)
      refine .rows sz _ _ _ _ (fun i k => (c[i.1 * sz + k]?).getD undef) (Nat.le_refl _) (fun i => ?_) (fun _ => ⟨r, 0, rfl, .inr ⟨b, by simp, _, hg _ _ hb, rfl, hown⟩, fun i k t hk => ?_⟩) (fun i k t hk => ?_)
      ·rw [List.length_take, List.length_drop, hlen]
       have := i.2
       have := Nat.mul_le_mul_right sz this
       rw [Nat.succ_eq_add_one, Nat.succ_mul] at this
       omega
      ·obtain ⟨h1, h2⟩ := take_drop_in hk
       have hlt := (List.getElem?_eq_some_iff.1 h1).1
       rw [this.1, Array.length_toList] at hlt
       rw [Nat.zero_add, cell_in hbl]
       simp [hlt]
      ·obtain ⟨h1, h2⟩ := take_drop_in hk
       have hlt := (List.getElem?_eq_some_iff.1 h1).1
       rw [this.1, Array.length_toList] at hlt
       have hv : c[i.1 * sz + k]? = some c[i.1 * sz + k] := by simp [hlt]
       rw [hv]
       exact (this.2 _ t _ h1 (by simp)).mono (fun _ hi => froz_mono (fun b hb => by simp [hb]) hi) (fun _ _ => rfl)
    ·cases ht
   ·cases ht
theorem toTs_rep (hs : Sim B0 w0 G h w) {get : Nat → Option B} (hg : ∀ b x, get b = some x → h.get b = some x) : ∀ (d : Nat) (cs : List S) (vs : List Value) (ts : List T) (l : List Nat), toTs get d cs = some (ts, l) → LRep G w cs vs → TL w (G.froz h l).imm ts vs
 | 0, cs, vs, ts, l, ht, _ => by simp [toTs] at ht
 | d + 1, [], vs, ts, l, ht, hr => by
  simp only [toTs, Option.some.injEq, Prod.mk.injEq] at ht
  obtain ⟨rfl, rfl⟩ := ht
  obtain rfl : vs = [] := List.length_eq_zero_iff.1 hr.1.symm
  exact .nil
 | d + 1, c :: cs, vs, ts, l, ht, hr => by
  obtain ⟨v, r, rfl, hv, hrest⟩ := hr.uncons
  simp only [toTs] at ht
  split at ht
  ·rename_i x l1 h1
   split at ht
   ·rename_i xs l2 h2
    simp only [Option.some.injEq, Prod.mk.injEq] at ht
    obtain ⟨rfl, rfl⟩ := ht
    exact .cons ((toT_rep hs hg d c v x l1 h1 hv).mono (fun _ hi => froz_mono (fun b hb => by simp [hb]) hi) (fun _ _ => rfl)) ((toTs_rep hs hg d cs r xs l2 h2 hrest).mono (fun _ hi => froz_mono (fun b hb => by simp [hb]) hi) (fun _ _ => rfl))
   ·cases ht
  ·cases ht
end
end
end Go.Proofs.YtonkoellfaopiaaGreatDoor.H
