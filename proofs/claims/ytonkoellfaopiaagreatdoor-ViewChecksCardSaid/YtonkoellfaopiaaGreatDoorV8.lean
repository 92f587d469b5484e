import Derived.Test.YtonkoellfaopiaaGreatDoorV7
import Derived.Test.YtonkoellfaopiaaGreatDoorProg
import Derived.Lib.ParseIntB
import Derived.Lib.ItoaNum
import Derived.Lib.Bytealg
import Derived.Lib.IndexMore
set_option linter.unusedSimpArgs false
set_option linter.unusedVariables false
namespace Go.Proofs.YtonkoellfaopiaaGreatDoor.H
open Go
section
variable {ρ : Type}
abbrev PK (ρ : Type) := Nat → Nat → Nat → St → Option ρ
section
variable {E : Env} {ck : CK ρ}
noncomputable def closeX (get : Nat → Option B) (d : Nat) (s : S) (K : S → List Nat → Option ρ) : Option ρ := match s with
 | .mp b => (match d, get b with
  | d + 1, some (.mp _ es) => flatW d es (K (.mt es) [b])
  | _, _ => none)
 | .mt es => (match d with
  | d + 1 => flatW d es (K (.mt es) [])
  | 0 => none)
 | s => (closeS get d s).bind fun p => K p.1 p.2
theorem flatW_some {d : Nat} {es : List (S × S)} {K : Option ρ} {x : ρ} (h : flatW d es K = some x) : FlatE d es ∧ K = some x := by
 unfold flatW at h
 split at h
 ·rename_i hx; exact ⟨hx, h⟩
 ·cases h
theorem closeX_le {get : Nat → Option B} {d : Nat} {s : S} {K : S → List Nat → Option ρ} {x : ρ} (h : closeX get d s K = some x) : ∃ p, closeS get d s = some p ∧ K p.1 p.2 = some x := by
 unfold closeX at h
 split at h
 ·rename_i b
  split at h
  ·rename_i d f es hb
   obtain ⟨h1, h2⟩ := flatW_some h
   exact ⟨(.mt es, [b]), by unfold closeS; simp only [hb, h1.close], h2⟩
  ·cases h
 ·rename_i es
  split at h
  ·obtain ⟨h1, h2⟩ := flatW_some h
   exact ⟨(.mt es, []), by unfold closeS; simp only [h1.close], h2⟩
  ·cases h
 ·exact Option.bind_eq_some_iff.1 h
noncomputable def closeLX (get : Nat → Option B) : Nat → List S → (List S → List Nat → Option ρ) → Option ρ
 | 0, _, _ => none
 | _ + 1, [], K => K [] []
 | d + 1, c :: cs, K => closeX get d c fun x l => closeLX get d cs fun xs l' => K (x :: xs) (l ++ l')
theorem closeLX_le {get : Nat → Option B} {x : ρ} : ∀ {d : Nat} {cs : List S} {K : List S → List Nat → Option ρ}, closeLX get d cs K = some x → ∃ p, closeL get d cs = some p ∧ K p.1 p.2 = some x
 | 0, _, _, h => by cases h
 | _ + 1, [], K, h => ⟨([], []), by unfold closeL; rfl, h⟩
 | d + 1, c :: cs, K, h => by
  obtain ⟨p, h1, h2⟩ := closeX_le h
  obtain ⟨q, h3, h4⟩ := closeLX_le h2
  exact ⟨(p.1 :: q.1, p.2 ++ q.2), by unfold closeL; simp only [h1, h3], h4⟩
noncomputable def quietX (ck : CK ρ) (get : Nat → Option B) (f : FuncId) (args : List S) (K : S → List Nat → Option ρ) : Option ρ :=
 closeLX get depthS args fun args' l => ck f args' fun r => match l with
  | [] => K r []
  | l => bif flatS depthS r then K r [] else bif l.all (rowAt get) then (match r with
   | .mt es => bif l.all (noMap get) then matW es (K r []) else none
   | r => K r l) else none
theorem matW_some {es : List (S × S)} {K : Option ρ} {x : ρ} (h : matW es K = some x) : mapFlat (.mt es) = true ∧ K = some x := by
 unfold matW at h
 split at h
 ·rename_i hx; exact ⟨hx, h⟩
 ·cases h
theorem quietX_le (hk : CKOk E ck) {get : Nat → Option B} {f : FuncId} {args : List S} {K : S → List Nat → Option ρ} {x : ρ} (h : quietX ck get f args K = some x) : quietK ck get f args K = some x := by
 obtain ⟨⟨a, l⟩, h1, h2⟩ := closeLX_le h
 unfold quietK
 rw [h1]
 dsimp only at h2 ⊢
 rw [hk] at h2 ⊢
 obtain ⟨r, h3, h4⟩ := Option.bind_eq_some_iff.1 h2
 refine Option.bind_eq_some_iff.2 ⟨r, h3, ?_⟩
 cases l with
 | nil =>
  dsimp only at h4
  cases flatS depthS r with
  | true => exact h4
  | false =>
   show (bif mapFlat r && true then K r [] else K r []) = some x
   cases mapFlat r <;> exact h4
 | cons b l =>
  dsimp only at h4 ⊢
  cases hf : flatS depthS r with
  | true => rw [hf] at h4; exact h4
  | false =>
   rw [hf, cond_false] at h4
   rw [cond_false]
   cases hr : (b :: l).all (rowAt get) with
   | false => rw [hr] at h4; cases h4
   | true =>
    rw [hr, cond_true] at h4
    rw [cond_true]
    split at h4
    ·cases hn : (b :: l).all (noMap get) with
     | false => rw [hn] at h4; cases h4
     | true =>
      rw [hn, cond_true] at h4
      obtain ⟨h5, h6⟩ := matW_some h4
      rw [h5, Bool.and_self, cond_true]; exact h6
    ·rename_i hne
     have : mapFlat r = false := by
      unfold mapFlat
      split
      ·exact absurd rfl (hne _)
      ·rfl
     rw [this, Bool.false_and, cond_false]; exact h4
noncomputable def callX (E : Env) (ck : CK ρ) (ro : Bool) (get : Nat → Option B) (h : Heap) (g : FuncId) (az : List S) (K : S → Heap → Option ρ) : Option ρ :=
 bif ro then (bif !E.fnOk g || E.inl g then none else quietX ck get g az fun r l => match l with | [] => K r h | _ => none)
 else bif !E.fnOk g then none else bif E.inl g then (E.callI g az h).bind fun p => K p.1 p.2 else quietX ck h.get g az fun r l => K r (h.freeze l)
theorem callX_le (hk : CKOk E ck) {ro : Bool} {get : Nat → Option B} {h : Heap} {g : FuncId} {az : List S} {K : S → Heap → Option ρ} {x : ρ} (hx : callX E ck ro get h g az K = some x) : callK E ck ro get h g az K = some x := by
 unfold callX at hx
 unfold callK
 cases ro with
 | true =>
  rw [cond_true] at hx ⊢
  cases hq : (!E.fnOk g || E.inl g) with
  | true => rw [hq] at hx; cases hx
  | false => rw [hq, cond_false] at hx; rw [cond_false]; exact quietX_le hk hx
 | false =>
  rw [cond_false] at hx ⊢
  cases hq : !E.fnOk g with
  | true => rw [hq] at hx; cases hx
  | false =>
   rw [hq, cond_false] at hx
   rw [cond_false]
   cases hi : E.inl g with
   | true => rw [hi, cond_true] at hx; rw [cond_true]; exact hx
   | false => rw [hi, cond_false] at hx; rw [cond_false]; exact quietX_le hk hx
def entX (get : Nat → Option B) (x : S) : Option (List (S × S)) := match x with
 | .mp b => (match get b with | some (.mp _ es) => some es | _ => none)
 | .mt es => some es
 | _ => none
noncomputable def lookX (E : Env) (get : Nat → Option B) (t : TypeId) (x k : S) (ok : Bool) (K : S → Option ρ) : Option ρ :=
 match E.P.underlying t with
 | some (.map kt et) => bif !keyFits E.P E.K kt k then none else
  (match entX get x, shV E.P et 0 with
   | some es, some (sh, _) => lookW E.P E.K kt et es k (fun y => K (bif ok then .tup [build y sh, sv (.bool true)] else build y sh))
    ((zeroS E.P et).bind fun z => K (bif ok then .tup [z, sv (.bool false)] else z))
   | _, _ => none)
 | _ => none
theorem lookX_le {get : Nat → Option B} {t : TypeId} {x k : S} {ok : Bool} {K : S → Option ρ} {r : ρ} (h : lookX E get t x k ok K = some r) : ∃ s, lookS E.P E.K get t x k ok = some s ∧ K s = some r := by
 unfold lookX at h
 unfold lookS
 split at h
 ·rename_i kt et hu
  rw [hu]
  dsimp only
  cases hq : !keyFits E.P E.K kt k with
  | true => rw [hq] at h; cases h
  | false =>
   rw [hq, cond_false] at h
   rw [cond_false]
   split at h
   ·rename_i es sh j he hs
    have gen : ∃ s, ((findS E.P E.K kt k es 0).bind fun r => match r with
       | some (_, v) => some (bif ok then .tup [v, sv (.bool true)] else v)
       | none => (zeroS E.P et).map fun z => bif ok then .tup [z, sv (.bool false)] else z) = some s ∧ K s = some r := by
     unfold lookW at h
     rw [hs] at h
     split at h
     ·rename_i sh' j' i v hs' hf
      obtain ⟨rfl, rfl⟩ : sh = sh' ∧ j = j' := by simpa using hs'
      obtain ⟨y, hy, hK⟩ := Option.bind_eq_some_iff.1 h
      rw [hf]
      rw [unb_some hy] at hK
      exact ⟨_, rfl, hK⟩
     ·rename_i hf
      rw [hf]
      obtain ⟨z, hz, hK⟩ := Option.bind_eq_some_iff.1 h
      exact ⟨_, by simp only [Option.bind_some, hz, Option.map_some], hK⟩
     ·cases h
    unfold entX at he
    split at he
    ·rename_i b
     dsimp only
     cases hb : get b with
     | none => rw [hb] at he; cases he
     | some z =>
      rw [hb] at he
      cases z with
      | mp f es' => obtain rfl := Option.some.inj he; exact gen
      | _ => cases he
    ·obtain rfl := Option.some.inj he
     exact gen
    ·cases he
   ·cases h
 ·cases h
noncomputable def updX (E : Env) (h : Heap) (t : TypeId) (m k v : S) (K : Heap → Option ρ) : Option ρ :=
 match E.P.underlying t, m with
 | some (.map kt _), .mp b =>
  (match closeS h.get depthS k, closeS h.get depthS v with
   | some (k', l1), some (v', l2) => bif !keyFits E.P E.K kt k' || l1.contains b || l2.contains b || !l1.all (rowAt h.get) || !l2.all (rowAt h.get) then none else
    (match h.get b with
    | some (.mp false es) => updW E.P E.K kt es k' v' fun es => K (((h.freeze l1).freeze l2).put b (.mp false es))
    | _ => none)
   | _, _ => none)
 | _, _ => none
theorem updX_le {h : Heap} {t : TypeId} {m k v : S} {K : Heap → Option ρ} {r : ρ} (hx : updX E h t m k v K = some r) : ∃ h', updS E.P E.K h t m k v = some h' ∧ K h' = some r := by
 unfold updX at hx
 unfold updS
 split at hx
 ·rename_i kt et b hu
  rw [hu]
  dsimp only
  split at hx
  ·rename_i k' l1 v' l2 h1 h2
   rw [h1, h2]
   dsimp only
   generalize hq : (!keyFits E.P E.K kt k' || l1.contains b || l2.contains b || !l1.all (rowAt h.get) || !l2.all (rowAt h.get)) = q at hx
   cases q with
   | true => cases hx
   | false =>
    rw [cond_false] at hx ⊢
    split at hx
    ·rename_i es hb
     rw [hb]
     dsimp only
     unfold updW at hx
     split at hx
     ·rename_i i x hf
      rw [hf]
      exact ⟨_, rfl, hx⟩
     ·rename_i hf
      rw [hf]
      exact ⟨_, rfl, hx⟩
     ·cases hx
    ·cases hx
  ·cases hx
 ·cases hx
noncomputable def loadX (P : Program) (get : Nat → Option B) (t : TypeId) (x : S) (K : S → Option ρ) : Option ρ := match x with
 | .ep b z i o => (match get b with
  | some (.row _ sz n g) => elemN i n fun h => bif z.beq sz && (o + P.cellsOf t).ble sz then (match shV P t 0 with
   | some (sh, _) => cellsW P t ((g ⟨i, h⟩).drop o) fun y => K (build y sh)
   | none => none) else none
  | _ => loadK P get t x K)
 | x => loadK P get t x K
theorem loadX_le {P : Program} {get : Nat → Option B} {t : TypeId} {x : S} {K : S → Option ρ} {r : ρ} (hx : loadX P get t x K = some r) : ∃ s, loadS P get t x = some s ∧ K s = some r := by
 have gen : loadK P get t x K = some r → ∃ s, loadS P get t x = some s ∧ K s = some r := fun h => by
  rw [loadK_eq] at h
  exact Option.bind_eq_some_iff.1 h
 unfold loadX at hx
 split at hx
 ·rename_i b z i o
  split at hx
  ·rename_i f sz n g hb
   unfold elemN at hx
   split at hx
   ·rename_i hi
    dsimp only at hx
    cases hq : (z.beq sz && (o + P.cellsOf t).ble sz) with
    | false => rw [hq] at hx; cases hx
    | true =>
     rw [hq, cond_true] at hx
     split at hx
     ·rename_i sh j hs
      unfold cellsW at hx
      rw [hs] at hx
      obtain ⟨y, h1, h2⟩ := Option.bind_eq_some_iff.1 hx
      obtain ⟨s, h3, h4⟩ := Option.bind_eq_some_iff.1 h1
      rw [unb_some h4] at h2
      refine ⟨s, ?_, h2⟩
      unfold loadS
      simp only [hb, dif_pos hi, hq, cond_true]
      exact h3
     ·cases hx
   ·cases hx
  ·exact gen hx
 ·exact gen hx
noncomputable def stepX (E : Env) (ck : CK ρ) (dr : Bool) (get : Nat → Option B) (id : Nat) (fr : Fr) (h : Heap) (op : Op) (K : S → Heap → Option ρ) : Option ρ :=
 match op with
 | .load t a => loadX E.P (bif dr then get else h.get) t (ev fr a) fun s => K s h
 | .lookup t x k ok => lookX E (bif dr then get else h.get) t (ev fr x) (ev fr k) ok fun s => K s h
 | .mapUpdate t m k v => updX E h t (ev fr m) (ev fr k) (ev fr v) fun h => K .ud h
 | .call { callee := .value f, args, .. } => (match calleeS fr f (args.toList.map (ev fr)) with
  | some (g, az) => callX E ck (match f with | .func f => !E.inl f && dr | _ => false) get h g az K
  | none => none)
 | op => stepK E ck dr get id fr h op K
theorem stepX_le (hk : CKOk E ck) {dr : Bool} {get : Nat → Option B} {id : Nat} {fr : Fr} {h : Heap} {op : Op} {K : S → Heap → Option ρ} {x : ρ} (hx : stepX E ck dr get id fr h op K = some x) : ∃ p, stepOp E dr get id fr h op = some p ∧ K p.1 p.2 = some x := by
 have gen : stepK E ck dr get id fr h op K = some x → ∃ p, stepOp E dr get id fr h op = some p ∧ K p.1 p.2 = some x := fun hx => by
  rw [stepK_eq hk] at hx
  exact Option.bind_eq_some_iff.1 hx
 unfold stepX at hx
 split at hx
 ·rename_i t a
  obtain ⟨s, h1, h2⟩ := loadX_le hx
  refine ⟨(s, h), ?_, h2⟩
  cases dr with
  | true =>
   rw [cond_true] at h1
   simp only [stepOp, clsOf, isCallO, cond_true, readOp, h1, Option.map_some]
  | false =>
   rw [cond_false] at h1
   simp only [stepOp, clsOf, isCallO, cond_false, readOp, h1, Option.map_some]
 ·rename_i t a k ok
  obtain ⟨s, h1, h2⟩ := lookX_le hx
  refine ⟨(s, h), ?_, h2⟩
  cases dr with
  | true =>
   rw [cond_true] at h1
   simp only [stepOp, clsOf, isCallO, cond_true, readOp, h1, Option.map_some]
  | false =>
   rw [cond_false] at h1
   simp only [stepOp, clsOf, isCallO, cond_false, readOp, h1, Option.map_some]
 ·rename_i t m k v
  obtain ⟨h', h1, h2⟩ := updX_le hx
  exact ⟨(.ud, h'), by simp only [stepOp, clsOf, isCallO, writeOp, h1, Option.map_some], h2⟩
 ·rename_i f args argTypes
  refine gen ?_
  unfold stepK
  dsimp only
  split at hx
  ·rename_i g az hc
   simp only [hc]
   exact callX_le hk hx
  ·cases hx
 ·exact gen hx
noncomputable def opX (E : Env) (ck : CK ρ) (nt : Nat) (dr : Bool) (ops : Array Oper) (base : Nat) (i : Nat) (st : St) (K : St → Option ρ) : Option ρ :=
 match ops[i]? with
 | none => none
 | some o => wantK ops st.fr o fun w fr =>
  bif w then (bif !dr || loneOk ops i o fr then stepX E ck dr (fun b => bif b.blt base || allowed o (b - base) then st.h.get b else none) (base + i) fr st.h o.op fun s h => (putS nt fr o.dst s).bind fun fr => K ⟨fr, h⟩ else none)
  else (putS nt fr o.dst .ud).bind fun fr => K ⟨fr, st.h⟩
theorem opX_le (hk : CKOk E ck) {nt : Nat} {dr : Bool} {ops : Array Oper} {base i : Nat} {st : St} {K : St → Option ρ} {x : ρ} (h : opX E ck nt dr ops base i st K = some x) : ∃ st1, runOp E nt dr ops base i st = some st1 ∧ K st1 = some x := by
 unfold opX at h
 unfold runOp
 cases ho : ops[i]? with
 | none => rw [ho] at h; cases h
 | some o =>
  rw [ho] at h
  dsimp only at h ⊢
  rw [wantK_eq] at h
  obtain ⟨⟨w, fr⟩, h1, h2⟩ := Option.bind_eq_some_iff.1 h
  rw [h1]
  dsimp only at h2 ⊢
  cases w with
  | true =>
   rw [cond_true] at h2
   obtain ⟨hl, h2⟩ := bif_some h2
   obtain ⟨p, h3, h4⟩ := stepX_le hk h2
   obtain ⟨fr', h5, h6⟩ := Option.bind_eq_some_iff.1 h4
   refine ⟨⟨fr', p.2⟩, ?_, h6⟩
   simp only [Option.bind_some, cond_true, hl, h3, h5, Option.map_some]
  | false =>
   rw [cond_false] at h2
   obtain ⟨fr', h5, h6⟩ := Option.bind_eq_some_iff.1 h2
   refine ⟨⟨fr', st.h⟩, ?_, h6⟩
   simp only [Option.bind_some, cond_false, h5, Option.map_some]
end
noncomputable def topX (P : Program) (f : FuncId) (r : S) (h : Heap) : Option S := closeX h.get depthS r fun s _ => some (normF P f s)
theorem topX_le {P : Program} {f : FuncId} {r : S} {h : Heap} {x : S} (hx : topX P f r h = some x) : topK P f r h = some x := by
 obtain ⟨p, h1, h2⟩ := closeX_le hx
 unfold topK
 rw [h1]
 exact h2
section
def refsBX : B → List Nat
 | .mp _ _ => []
 | b => refsB b
def renBX (m : Nat → Option Nat) : B → Option B
 | .mp fz es => some (.mp fz es)
 | b => renB m b
def gatherX (h : Heap) : Nat → List Nat → List Nat → List Nat
 | 0, _, seen => seen.reverse
 | _ + 1, [], seen => seen.reverse
 | f + 1, b :: todo, seen => bif seen.contains b then gatherX h f todo seen else
  match h.get b with
  | some x => gatherX h f (refsBX x ++ todo) (b :: seen)
  | none => gatherX h f todo (b :: seen)
def renHeapX (m : Nat → Option Nat) (h : Heap) : List Nat → Nat → Option (Tr B)
 | [], _ => some .leaf
 | b :: r, i => match h.get b with
  | some x => (renBX m x).bind fun x => (renHeapX m h r (i + 1)).map fun t => t.set i (some x)
  | none => renHeapX m h r (i + 1)
noncomputable def flatIds (h : Heap) : List Nat → Option ρ → Option ρ
 | [], K => K
 | b :: r, K => match h.get b with
  | some (.mp _ es) => flatW 900 es (flatIds h r K)
  | _ => flatIds h r K
noncomputable def cleanX (keep : List Nat) (st : St) (K : St → Option ρ) : Option ρ :=
 let ids := gatherX st.h 1000 (keepRefs st.fr keep) []
 let m := fun b => indexIn ids b 0
 flatIds st.h ids ((renFr m st.fr keep).bind fun fr => (renHeapX m st.h ids 0).bind fun t => K ⟨fr, ⟨ids.length, t⟩⟩)
def FlatAt (h : Heap) (b : Nat) : Prop := ∀ x, h.get b = some x → refsBX x = refsB x ∧ ∀ m, renBX m x = renB m x
theorem flatIds_some {h : Heap} {x : ρ} : ∀ {ids : List Nat} {K : Option ρ}, flatIds h ids K = some x → (∀ b ∈ ids, FlatAt h b) ∧ K = some x
 | [], K, hx => ⟨(fun b hb => by cases hb), hx⟩
 | b :: r, K, hx => by
  unfold flatIds at hx
  split at hx
  ·rename_i f es hb
   obtain ⟨h1, h2⟩ := flatW_some hx
   obtain ⟨h3, h4⟩ := flatIds_some h2
   refine ⟨fun c hc => ?_, h4⟩
   rcases List.mem_cons.1 hc with rfl | hc
   ·intro y hy
    rw [hb] at hy
    obtain rfl := Option.some.inj hy
    exact ⟨by simp only [refsBX, refsB, h1.refs], fun m => by simp only [renBX, renB, h1.ren, Option.map_some]⟩
   ·exact h3 c hc
  ·rename_i hb
   obtain ⟨h3, h4⟩ := flatIds_some hx
   refine ⟨fun c hc => ?_, h4⟩
   rcases List.mem_cons.1 hc with rfl | hc
   ·intro y hy
    cases y with
    | mp f es => exact absurd hy (hb f es)
    | _ => exact ⟨rfl, fun _ => rfl⟩
   ·exact h3 c hc
theorem gatherX_seen {h : Heap} : ∀ (f : Nat) (todo seen : List Nat) (b : Nat), b ∈ seen → b ∈ gatherX h f todo seen
 | 0, _, seen, b, hb => by unfold gatherX; simpa using hb
 | _ + 1, [], seen, b, hb => by unfold gatherX; simpa using hb
 | f + 1, c :: todo, seen, b, hb => by
  unfold gatherX
  cases seen.contains c with
  | true => exact gatherX_seen f todo seen b hb
  | false =>
   rw [cond_false]
   cases h.get c with
   | none => exact gatherX_seen f _ _ b (List.mem_cons_of_mem _ hb)
   | some x => exact gatherX_seen f _ _ b (List.mem_cons_of_mem _ hb)
theorem gatherX_eq {h : Heap} : ∀ (f : Nat) (todo seen : List Nat), (∀ b ∈ gatherX h f todo seen, FlatAt h b) → gather h f todo seen = gatherX h f todo seen
 | 0, _, seen, _ => rfl
 | _ + 1, [], seen, _ => rfl
 | f + 1, c :: todo, seen, hx => by
  unfold gatherX at hx ⊢
  unfold gather
  cases hs : seen.contains c with
  | true =>
   rw [hs, cond_true] at hx
   exact gatherX_eq f todo seen hx
  | false =>
   rw [hs, cond_false] at hx
   rw [cond_false, cond_false]
   cases hc : h.get c with
   | none =>
    rw [hc] at hx
    exact gatherX_eq f todo _ hx
   | some x =>
    rw [hc] at hx
    dsimp only at hx ⊢
    have := hx c (gatherX_seen f _ _ c List.mem_cons_self)
    rw [← (this x hc).1]
    exact gatherX_eq f _ _ hx
theorem renHeapX_eq {m : Nat → Option Nat} {h : Heap} : ∀ (ids : List Nat) (i : Nat), (∀ b ∈ ids, FlatAt h b) → renHeapX m h ids i = renHeap m h ids i
 | [], _, _ => rfl
 | b :: r, i, hx => by
  unfold renHeapX renHeap
  cases hb : h.get b with
  | none => exact renHeapX_eq r _ fun c hc => hx c (List.mem_cons_of_mem _ hc)
  | some x =>
   dsimp only
   rw [(hx b List.mem_cons_self x hb).2, renHeapX_eq r _ fun c hc => hx c (List.mem_cons_of_mem _ hc)]
theorem cleanX_le {keep : List Nat} {st : St} {K : St → Option ρ} {x : ρ} (h : cleanX keep st K = some x) : ∃ st', clean keep st = some st' ∧ K st' = some x := by
 unfold cleanX at h
 obtain ⟨h1, h2⟩ := flatIds_some h
 obtain ⟨fr, h3, h4⟩ := Option.bind_eq_some_iff.1 h2
 obtain ⟨t, h5, h6⟩ := Option.bind_eq_some_iff.1 h4
 refine ⟨_, ?_, h6⟩
 unfold clean
 simp only [gatherX_eq _ _ _ h1, h3, Option.bind_some]
 rw [← renHeapX_eq _ _ h1, h5]
 rfl
noncomputable def cleanAtX (E : Env) (f : FuncId) (gc : Bool) (key : Nat) (st : St) (K : St → Option ρ) : Option ρ :=
 bif gc then (match E.live f key with
  | some keep => cleanX keep st K
  | none => K st) else K st
theorem cleanAtX_le {E : Env} {f : FuncId} {gc : Bool} {key : Nat} {st : St} {K : St → Option ρ} {x : ρ} (h : cleanAtX E f gc key st K = some x) : ∃ st', cleanAt E f gc key st = some st' ∧ K st' = some x := by
 unfold cleanAtX at h
 unfold cleanAt
 cases gc with
 | false => exact ⟨st, rfl, h⟩
 | true =>
  rw [cond_true] at h ⊢
  cases hl : E.live f key with
  | none => rw [hl] at h; exact ⟨st, rfl, h⟩
  | some keep => rw [hl] at h; exact cleanX_le h
noncomputable def leaveLX (E : Env) (f : FuncId) (gc : Bool) (r : Nat) (K : Ex → St → Option ρ) : Ex → St → Option ρ
 | .normal, _ => none
 | .exit id, st => cleanAtX E f gc (3 * r + 1) st (K (.exit id))
 | .ret, st => cleanAtX E f gc (3 * r + 2) st (K .ret)
theorem leaveLX_le {E : Env} {f : FuncId} {gc : Bool} {r : Nat} {K : Ex → St → Option ρ} {ex : Ex} {st : St} {x : ρ} (h : leaveLX E f gc r K ex st = some x) : ∃ p, leaveL E f gc r ex st = some p ∧ K p.1 p.2 = some x := by
 cases ex with
 | normal => cases h
 | exit id =>
  obtain ⟨st', h1, h2⟩ := cleanAtX_le h
  exact ⟨(.exit id, st'), by unfold leaveL; dsimp only; rw [h1]; rfl, h2⟩
 | ret =>
  obtain ⟨st', h1, h2⟩ := cleanAtX_le h
  exact ⟨(.ret, st'), by unfold leaveL; dsimp only; rw [h1]; rfl, h2⟩
end
def isPick (ops : Array Oper) (i : Nat) : Bool := match ops[i]? with
 | some o => (match o.op with
  | .pick .. => o.guard.isNone
  | _ => false)
 | none => false
noncomputable def opsP (E : Env) (ck : CK ρ) (kk : PK ρ) (r nt : Nat) (dr : Bool) (ops : Array Oper) (base : Nat) : List Nat → St → (St → Option ρ) → Option ρ
 | [], st, K => K st
 | i :: l, st, K => bif isPick ops (i - 1) then kk r (i + 1) base st else opX E ck nt dr ops base i st fun st => opsP E ck kk r nt dr ops base l st K
noncomputable def execP (E : Env) (ck : CK ρ) (kk : PK ρ) (f : FuncId) (nt : Nat) (gc : Bool) : Code → St → (Ex → St → Option ρ) → Option ρ
 | .skip, st, K => K .normal st
 | .region r ops draw, st, K => opsP E ck kk r nt draw ops st.h.next (List.range ops.size) ⟨st.fr, ⟨st.h.next + ops.size, st.h.tr⟩⟩ fun st => K .normal st
 | .seq a b, st, K => execP E ck kk f nt gc a st fun ex st => match ex with
  | .normal => execP E ck kk f nt gc b st K
  | ex => K ex st
 | .cond c a b, st, K => match ev st.fr c with
  | .t (.v (.bool p)) => bif p then execP E ck kk f nt gc a st K else execP E ck kk f nt gc b st K
  | _ => none
 | .block id b, st, K => execP E ck kk f nt gc b st fun ex st => match ex with
  | .exit i => bif i.beq id then K .normal st else K (.exit i) st
  | ex => K ex st
 | .loop b, st, _ => cleanAtX E f gc (3 * firstR b) st (kk (firstR b) 0 0)
 | .exit id, st, K => K (.exit id) st
 | .ret, st, K => K .ret st
 | _, _, _ => none
inductive Frm where
 | seq (b : Code)
 | block (id : Nat)
 | loop (b : Code)
noncomputable def contP (E : Env) (ck : CK ρ) (kk : PK ρ) (f : FuncId) (nt : Nat) (gc : Bool) (KE : Ex → St → Option ρ) : List Frm → Ex → St → Option ρ
 | [], ex, st => KE ex st
 | .seq b :: l, ex, st => (match ex with
  | .normal => execP E ck kk f nt gc b st (contP E ck kk f nt gc KE l)
  | ex => contP E ck kk f nt gc KE l ex st)
 | .block id :: l, ex, st => (match ex with
  | .exit i => bif i.beq id then contP E ck kk f nt gc KE l .normal st else contP E ck kk f nt gc KE l (.exit i) st
  | ex => contP E ck kk f nt gc KE l ex st)
 | .loop b :: l, ex, st => (match ex with
  | .normal => cleanAtX E f gc (3 * firstR b) st (kk (firstR b) 0 0)
  | ex => leaveLX E f gc (firstR b) (contP E ck kk f nt gc KE l) ex st)
inductive Piece where
 | head (b : Code) (l : List Frm)
 | mid (ops : Array Oper) (dr : Bool) (l : List Frm)
def pts : Code → List Frm → List (Nat × Piece)
 | .region r ops dr, l => [(2 * r + 1, .mid ops dr l)]
 | .seq a b, l => pts a (.seq b :: l) ++ pts b l
 | .cond _ a b, l => pts a l ++ pts b l
 | .block id b, l => pts b (.block id :: l)
 | .loop b, l => (2 * firstR b, .head b l) :: pts b (.loop b :: l)
 | _, _ => []
def lookP : List (Nat × Piece) → Nat → Option Piece
 | [], _ => none
 | (i, x) :: r, t => bif i.beq t then some x else lookP r t
noncomputable def runP (E : Env) (ck : CK ρ) (kk : PK ρ) (f : FuncId) (nt : Nat) (gc : Bool) (KE : Ex → St → Option ρ) (r : Nat) (i base : Nat) (st : St) : Piece → Option ρ
 | .head b l => execP E ck kk f nt gc b st (contP E ck kk f nt gc KE (.loop b :: l))
 | .mid ops dr l => opX E ck nt dr ops base i st fun st => opsP E ck kk r nt dr ops base ((List.range ops.size).drop (i + 1)) st fun st => contP E ck kk f nt gc KE l .normal st
noncomputable def ptP (E : Env) (ck : CK ρ) (f : FuncId) (nt : Nat) (gc : Bool) (T : List (Nat × Piece)) (KE : Ex → St → Option ρ) (kk : PK ρ) : PK ρ := fun r i base st => match i with
 | 0 => (match lookP T (2 * r) with
  | some p => runP E ck kk f nt gc KE r 0 base st p
  | none => none)
 | i + 1 => (match lookP T (2 * r + 1) with
  | some p => runP E ck kk f nt gc KE r i base st p
  | none => none)
noncomputable def ptH (E : Env) (ck : CK ρ) (f : FuncId) (nt : Nat) (gc : Bool) (T : List (Nat × Piece)) (KE : Ex → St → Option ρ) : Nat → PK ρ
 | 0 => fun _ _ _ _ => none
 | n + 1 => ptP E ck f nt gc T KE (ptH E ck f nt gc T KE n)
theorem exec_mono {E : Env} {f : FuncId} {nt : Nat} {gc : Bool} {c : Code} {st : St} {k k' : Nat} {y : Ex × St} (h : exec E f nt gc k c st = some y) (hk : k ≤ k') : exec E f nt gc k' c st = some y := by
 obtain ⟨P, K, fnOk, inl, live, ov, t, i⟩ := E
 obtain ⟨L, M, h1, h2, h3⟩ := exec_supp (P := P) (K := K) (fnOk := fnOk) (inl := inl) (live := live) (ov := ov) (t := t) (i := i) c h
 exact h3 t i k' h1 h2 hk
theorem iter_mono {F G : St → Option (Ex × St)} (h : ∀ st y, F st = some y → G st = some y) : ∀ (n : Nat) {st : St} {y : Ex × St}, iter F n st = some y → iter G n st = some y
 | 0, _, _, hx => by cases hx
 | n + 1, st, y, hx => by
  unfold iter at hx ⊢
  cases hf : F st with
  | none => rw [hf] at hx; cases hx
  | some p =>
   rw [hf] at hx
   rw [h st p hf]
   obtain ⟨ex, st'⟩ := p
   cases ex with
   | normal => exact iter_mono h n hx
   | exit id => exact hx
   | ret => exact hx
def Sem (E : Env) (f : FuncId) (nt : Nat) (gc : Bool) (c : Code) (st : St) (ex : Ex) (st' : St) : Prop := ∃ k, exec E f nt gc k c st = some (ex, st')
def Fin2 (E : Env) (f : FuncId) (nt : Nat) (gc : Bool) (KE : Ex → St → Option ρ) : List Frm → Ex → St → ρ → Prop
 | [], ex, st, x => KE ex st = some x
 | .seq b :: l, ex, st, x => (match ex with
  | .normal => ∃ ex' st', Sem E f nt gc b st ex' st' ∧ Fin2 E f nt gc KE l ex' st' x
  | ex => Fin2 E f nt gc KE l ex st x)
 | .block id :: l, ex, st, x => (match ex with
  | .exit i => if i.beq id = true then Fin2 E f nt gc KE l .normal st x else Fin2 E f nt gc KE l (.exit i) st x
  | ex => Fin2 E f nt gc KE l ex st x)
 | .loop b :: l, ex, st, x => (match ex with
  | .normal => ∃ ex' st', Sem E f nt gc (.loop b) st ex' st' ∧ Fin2 E f nt gc KE l ex' st' x
  | ex => ∃ p, leaveL E f gc (firstR b) ex st = some p ∧ Fin2 E f nt gc KE l p.1 p.2 x)
structure KkOk (E : Env) (f : FuncId) (nt : Nat) (gc : Bool) (KE : Ex → St → Option ρ) (T : List (Nat × Piece)) (kk : PK ρ) : Prop where
 hd : ∀ r b l, (2 * r, Piece.head b l) ∈ T → ∀ base st x, kk r 0 base st = some x → ∃ ex st', Sem E f nt gc b st ex st' ∧ Fin2 E f nt gc KE (.loop b :: l) ex st' x
 md : ∀ r ops dr l, (2 * r + 1, Piece.mid ops dr l) ∈ T → ∀ i base st x, i < ops.size → kk r (i + 1) base st = some x → ∃ st', runOps E nt dr ops base ((List.range ops.size).drop i) st = some st' ∧ Fin2 E f nt gc KE l .normal st' x
theorem range_drop {n i : Nat} (h : i < n) : (List.range n).drop i = i :: (List.range n).drop (i + 1) := by
 rw [List.drop_eq_getElem_cons (by simpa using h)]
 simp
theorem opsP_fin {E : Env} {ck : CK ρ} (hk : CKOk E ck) {kk : PK ρ} {r nt : Nat} {dr : Bool} {ops : Array Oper} {base : Nat} {K : St → Option ρ} {Q : St → ρ → Prop} (hK : ∀ st x, K st = some x → Q st x)
  (hq : ∀ i st x, i < ops.size → kk r (i + 1) base st = some x → ∃ st', runOps E nt dr ops base ((List.range ops.size).drop i) st = some st' ∧ Q st' x) :
  ∀ (m i : Nat), ops.size - i = m → ∀ st x, opsP E ck kk r nt dr ops base ((List.range ops.size).drop i) st K = some x → ∃ st', runOps E nt dr ops base ((List.range ops.size).drop i) st = some st' ∧ Q st' x := by
 intro m
 induction m with
 | zero =>
  intro i hi st x h
  have : (List.range ops.size).drop i = [] := List.drop_eq_nil_of_le (by simp; omega)
  rw [this] at h ⊢
  exact ⟨st, rfl, hK st x h⟩
 | succ m ih =>
  intro i hi st x h
  have hlt : i < ops.size := by omega
  rw [range_drop hlt] at h ⊢
  unfold opsP at h
  cases hp : isPick ops (i - 1) with
  | true =>
   rw [hp, cond_true] at h
   have := hq i st x hlt h
   rwa [range_drop hlt] at this
  | false =>
   rw [hp, cond_false] at h
   obtain ⟨st1, h1, h2⟩ := opX_le hk h
   obtain ⟨st', h3, h4⟩ := ih (i + 1) (by omega) st1 x h2
   refine ⟨st', ?_, h4⟩
   unfold runOps
   rw [h1]
   exact h3
theorem Sem.loop {E : Env} {f : FuncId} {nt : Nat} {gc : Bool} {b : Code} {st st1 st2 : St} {ex ex' : Ex} {st' : St} (hc : cleanAt E f gc (3 * firstR b) st = some st1) (h : Sem E f nt gc b st1 ex st2)
  (hn : (match ex with
   | .normal => Sem E f nt gc (.loop b) st2 ex' st'
   | ex => leaveL E f gc (firstR b) ex st2 = some (ex', st'))) : Sem E f nt gc (.loop b) st ex' st' := by
 obtain ⟨k1, h1⟩ := h
 cases ex with
 | normal =>
  obtain ⟨k2, h2⟩ := hn
  have h2 := exec_mono h2 (Nat.le_max_right k1 k2)
  have h1 := exec_mono h1 (Nat.le_max_left k1 k2)
  generalize max k1 k2 = k at h1 h2
  refine ⟨k + 1, ?_⟩
  simp only [exec, iter, hc, Option.bind_some] at h2 ⊢
  rw [exec_mono h1 (Nat.le_succ k)]
  obtain ⟨y, h3, h4⟩ := Option.bind_eq_some_iff.1 h2
  refine Option.bind_eq_some_iff.2 ⟨y, ?_, h4⟩
  exact iter_mono (fun st y hy => by
   obtain ⟨s, e1, e2⟩ := Option.bind_eq_some_iff.1 hy
   exact Option.bind_eq_some_iff.2 ⟨s, e1, exec_mono e2 (Nat.le_succ k)⟩) k h3
 | exit id =>
  refine ⟨k1 + 1, ?_⟩
  simp only [exec, iter, hc, Option.bind_some]
  rw [exec_mono h1 (Nat.le_succ k1)]
  exact hn
 | ret =>
  refine ⟨k1 + 1, ?_⟩
  simp only [exec, iter, hc, Option.bind_some]
  rw [exec_mono h1 (Nat.le_succ k1)]
  exact hn
def Here (T : List (Nat × Piece)) (c : Code) (l : List Frm) : Prop := ∀ p ∈ pts c l, p ∈ T
def HereL (T : List (Nat × Piece)) : List Frm → Prop
 | [] => True
 | .seq b :: l => Here T b l ∧ HereL T l
 | .block _ :: l => HereL T l
 | .loop b :: l => (2 * firstR b, Piece.head b l) ∈ T ∧ HereL T l
theorem execP_fin {E : Env} {ck : CK ρ} (hk : CKOk E ck) {f : FuncId} {nt : Nat} {gc : Bool} {KE : Ex → St → Option ρ} {T : List (Nat × Piece)} {kk : PK ρ} (hkk : KkOk E f nt gc KE T kk) :
  ∀ (c : Code) (l : List Frm) (K : Ex → St → Option ρ), Here T c l → (∀ ex st x, K ex st = some x → Fin2 E f nt gc KE l ex st x) → ∀ st x, execP E ck kk f nt gc c st K = some x → ∃ ex st', Sem E f nt gc c st ex st' ∧ Fin2 E f nt gc KE l ex st' x := by
 intro c
 induction c with
 | skip => intro l K hT hK st x h; exact ⟨.normal, st, ⟨0, rfl⟩, hK _ _ _ h⟩
 | region r ops dr =>
  intro l K hT hK st x h
  have hm : (2 * r + 1, Piece.mid ops dr l) ∈ T := hT _ (by simp [pts])
  unfold execP at h
  obtain ⟨st', h1, h2⟩ := opsP_fin hk (Q := fun st x => Fin2 E f nt gc KE l .normal st x) (fun st x h => hK .normal st x h) (fun i st' x hi h => hkk.md r ops dr l hm i st.h.next st' x hi h) _ 0 rfl _ x h
  exact ⟨.normal, st', ⟨0, by simp only [exec]; rw [List.drop_zero] at h1; rw [h1]; rfl⟩, h2⟩
 | seq a b iha ihb =>
  intro l K hT hK st x h
  unfold execP at h
  obtain ⟨ex, st', ⟨k1, h1⟩, h2⟩ := iha (.seq b :: l) _ (fun p hp => hT p (by simp [pts, hp])) (fun ex st x h => by
   cases ex with
   | normal =>
    exact ihb l K (fun p hp => hT p (by simp [pts, hp])) hK st x h
   | exit id => exact hK _ _ _ h
   | ret => exact hK _ _ _ h) st x h
  cases ex with
  | normal =>
   obtain ⟨ex', st'', ⟨k2, h3⟩, h4⟩ := h2
   refine ⟨ex', st'', ⟨max k1 k2, ?_⟩, h4⟩
   simp only [exec]
   rw [exec_mono h1 (Nat.le_max_left k1 k2)]
   exact exec_mono h3 (Nat.le_max_right k1 k2)
  | exit id =>
   refine ⟨_, _, ⟨k1, ?_⟩, h2⟩
   simp only [exec, h1, Option.bind_some]
  | ret =>
   refine ⟨_, _, ⟨k1, ?_⟩, h2⟩
   simp only [exec, h1, Option.bind_some]
 | cond q a b iha ihb =>
  intro l K hT hK st x h
  unfold execP at h
  generalize hv : ev st.fr q = s at h
  split at h
  ·rename_i p
   cases p with
   | true =>
    obtain ⟨ex, st', ⟨k1, h1⟩, h2⟩ := iha l K (fun p hp => hT p (by simp [pts, hp])) hK st x h
    exact ⟨ex, st', ⟨k1, by simp only [exec, hv, cond_true]; exact h1⟩, h2⟩
   | false =>
    obtain ⟨ex, st', ⟨k1, h1⟩, h2⟩ := ihb l K (fun p hp => hT p (by simp [pts, hp])) hK st x h
    exact ⟨ex, st', ⟨k1, by simp only [exec, hv, cond_false]; exact h1⟩, h2⟩
  ·cases h
 | block id b ih =>
  intro l K hT hK st x h
  unfold execP at h
  obtain ⟨ex, st', ⟨k1, h1⟩, h2⟩ := ih (.block id :: l) _ hT (fun ex st x h => by
   cases ex with
   | normal => exact hK _ _ _ h
   | ret => exact hK _ _ _ h
   | exit i =>
    show if i.beq id = true then _ else _
    simp only at h
    split
    ·rename_i e; rw [e] at h; exact hK _ _ _ h
    ·rename_i e; rw [Bool.not_eq_true] at e; rw [e] at h; exact hK _ _ _ h) st x h
  cases ex with
  | normal => exact ⟨_, _, ⟨k1, by simp only [exec, h1, Option.bind_some]⟩, h2⟩
  | ret => exact ⟨_, _, ⟨k1, by simp only [exec, h1, Option.bind_some]⟩, h2⟩
  | exit i =>
   have h2 : if i.beq id = true then Fin2 E f nt gc KE l .normal st' x else Fin2 E f nt gc KE l (.exit i) st' x := h2
   split at h2
   ·rename_i e
    exact ⟨_, _, ⟨k1, by simp only [exec, h1, Option.bind_some, e, cond_true]⟩, h2⟩
   ·rename_i e
    rw [Bool.not_eq_true] at e
    exact ⟨_, _, ⟨k1, by simp only [exec, h1, Option.bind_some, e, cond_false]⟩, h2⟩
 | loop b ih =>
  intro l K hT hK st x h
  unfold execP at h
  obtain ⟨st1, hc, h⟩ := cleanAtX_le h
  obtain ⟨ex, st2, h1, h2⟩ := hkk.hd _ b l (hT _ (by simp [pts])) _ _ _ h
  cases ex with
  | normal =>
   obtain ⟨ex', st', h3, h4⟩ := h2
   exact ⟨ex', st', Sem.loop hc h1 h3, h4⟩
  | exit id =>
   obtain ⟨p, h3, h4⟩ := h2
   exact ⟨p.1, p.2, Sem.loop hc h1 h3, h4⟩
  | ret =>
   obtain ⟨p, h3, h4⟩ := h2
   exact ⟨p.1, p.2, Sem.loop hc h1 h3, h4⟩
 | exit id => intro l K hT hK st x h; exact ⟨.exit id, st, ⟨0, rfl⟩, hK _ _ _ h⟩
 | ret => intro l K hT hK st x h; exact ⟨.ret, st, ⟨0, rfl⟩, hK _ _ _ h⟩
 | rangeFunc => intro l K hT hK st x h; cases h
 | scope => intro l K hT hK st x h; cases h
 | label => intro l K hT hK st x h; cases h
 | goto => intro l K hT hK st x h; cases h
 | refuse => intro l K hT hK st x h; cases h
theorem contP_fin {E : Env} {ck : CK ρ} (hk : CKOk E ck) {f : FuncId} {nt : Nat} {gc : Bool} {KE : Ex → St → Option ρ} {T : List (Nat × Piece)} {kk : PK ρ} (hkk : KkOk E f nt gc KE T kk) :
  ∀ (l : List Frm), HereL T l → ∀ ex st x, contP E ck kk f nt gc KE l ex st = some x → Fin2 E f nt gc KE l ex st x := by
 intro l
 induction l with
 | nil => intro _ ex st x h; exact h
 | cons a l ih =>
  intro hl ex st x h
  cases a with
  | seq b =>
   have ih := ih hl.2
   cases ex with
   | normal => exact execP_fin hk hkk b l _ hl.1 ih st x h
   | exit id => exact ih _ _ _ h
   | ret => exact ih _ _ _ h
  | block id =>
   have ih := ih hl
   cases ex with
   | normal => exact ih _ _ _ h
   | ret => exact ih _ _ _ h
   | exit i =>
    show if i.beq id = true then _ else _
    have h : (bif i.beq id then _ else _) = some x := h
    split
    ·rename_i e; rw [e] at h; exact ih _ _ _ h
    ·rename_i e; rw [Bool.not_eq_true] at e; rw [e] at h; exact ih _ _ _ h
  | loop b =>
   have ih := ih hl.2
   cases ex with
   | normal =>
    have h : cleanAtX E f gc (3 * firstR b) st (kk (firstR b) 0 0) = some x := h
    obtain ⟨st1, hc, h⟩ := cleanAtX_le h
    obtain ⟨ex, st2, h1, h2⟩ := hkk.hd _ b l hl.1 _ _ _ h
    cases ex with
    | normal =>
     obtain ⟨ex', st', h3, h4⟩ := h2
     exact ⟨ex', st', Sem.loop hc h1 h3, h4⟩
    | exit id =>
     obtain ⟨p, h3, h4⟩ := h2
     exact ⟨p.1, p.2, Sem.loop hc h1 h3, h4⟩
    | ret =>
     obtain ⟨p, h3, h4⟩ := h2
     exact ⟨p.1, p.2, Sem.loop hc h1 h3, h4⟩
   | exit id =>
    obtain ⟨p, h1, h2⟩ := leaveLX_le (show leaveLX E f gc (firstR b) (contP E ck kk f nt gc KE l) (.exit id) st = some x from h)
    exact ⟨p, h1, ih _ _ _ h2⟩
   | ret =>
    obtain ⟨p, h1, h2⟩ := leaveLX_le (show leaveLX E f gc (firstR b) (contP E ck kk f nt gc KE l) .ret st = some x from h)
    exact ⟨p, h1, ih _ _ _ h2⟩
def HereP (T : List (Nat × Piece)) : Piece → Prop
 | .head b l => Here T b (.loop b :: l) ∧ HereL T (.loop b :: l)
 | .mid _ _ l => HereL T l
theorem pts_here {T : List (Nat × Piece)} : ∀ (c : Code) (l : List Frm), Here T c l → HereL T l → ∀ p ∈ pts c l, HereP T p.2 := by
 intro c
 induction c with
 | region r ops dr => intro l hT hl p hp; simp only [pts, List.mem_singleton] at hp; subst hp; exact hl
 | seq a b iha ihb =>
  intro l hT hl p hp
  have hb : Here T b l := fun p hp => hT p (by simp [pts, hp])
  rcases List.mem_append.1 hp with hp | hp
  ·exact iha _ (fun p hp => hT p (by simp [pts, hp])) (show HereL T (.seq b :: l) from ⟨hb, hl⟩) p hp
  ·exact ihb _ hb hl p hp
 | cond q a b iha ihb =>
  intro l hT hl p hp
  rcases List.mem_append.1 hp with hp | hp
  ·exact iha _ (fun p hp => hT p (by simp [pts, hp])) hl p hp
  ·exact ihb _ (fun p hp => hT p (by simp [pts, hp])) hl p hp
 | block id b ih => intro l hT hl p hp; exact ih _ hT hl p hp
 | loop b ih =>
  intro l hT hl p hp
  have h1 : Here T b (.loop b :: l) := fun p hp => hT p (by simp [pts, hp])
  have h2 : HereL T (.loop b :: l) := ⟨hT _ (by simp [pts]), hl⟩
  rcases List.mem_cons.1 hp with rfl | hp
  ·exact ⟨h1, h2⟩
  ·exact ih _ h1 h2 p hp
 | _ => intro l hT hl p hp; cases hp
theorem mem_lookP : ∀ {T : List (Nat × Piece)}, namesOk (T.map (·.1)) = true → ∀ {i : Nat} {p : Piece}, (i, p) ∈ T → lookP T i = some p
 | [], _, _, _, h => by cases h
 | (j, x) :: r, hn, i, p, h => by
  simp only [List.map_cons, namesOk, Bool.and_eq_true, Bool.not_eq_true'] at hn
  unfold lookP
  rcases List.mem_cons.1 h with h | h
  ·simp only [Prod.mk.injEq] at h
   obtain ⟨rfl, rfl⟩ := h
   simp
  ·have hne : j.beq i = false := by
    cases e : j.beq i with
    | false => rfl
    | true =>
     obtain rfl := Nat.eq_of_beq_eq_true e
     have : (r.map (·.1)).contains j = true := by
      rw [List.contains_eq_mem, decide_eq_true_eq]
      exact List.mem_map.2 ⟨(j, p), h, rfl⟩
     rw [this] at hn; cases hn.1
   rw [hne, cond_false]
   exact mem_lookP hn.2 h
theorem ptH_ok {E : Env} {ck : CK ρ} (hk : CKOk E ck) {f : FuncId} {nt : Nat} {gc : Bool} {KE : Ex → St → Option ρ} {c : Code} (hn : namesOk ((pts c []).map (·.1)) = true) : ∀ n, KkOk E f nt gc KE (pts c []) (ptH E ck f nt gc (pts c []) KE n)
 | 0 => ⟨fun _ _ _ _ _ _ _ h => (by cases h), fun _ _ _ _ _ _ _ _ _ _ h => (by cases h)⟩
 | n + 1 => by
  have ih := ptH_ok hk (f := f) (nt := nt) (gc := gc) (KE := KE) hn n
  refine ⟨fun r b l hT base st x h => ?_, fun r ops dr l hT i base st x hi h => ?_⟩
  ·have hp := pts_here c [] (fun _ h => h) trivial _ hT
   have h : (match lookP (pts c []) (2 * r) with
    | some p => runP E ck (ptH E ck f nt gc (pts c []) KE n) f nt gc KE r 0 base st p
    | none => none) = some x := h
   rw [mem_lookP hn hT] at h
   exact execP_fin hk ih b (.loop b :: l) _ hp.1 (contP_fin hk ih _ hp.2) st x h
  ·have hp : HereL (pts c []) l := pts_here c [] (fun _ h => h) trivial _ hT
   have h : (match lookP (pts c []) (2 * r + 1) with
    | some p => runP E ck (ptH E ck f nt gc (pts c []) KE n) f nt gc KE r i base st p
    | none => none) = some x := h
   rw [mem_lookP hn hT] at h
   have h : opX E ck nt dr ops base i st (fun st => opsP E ck (ptH E ck f nt gc (pts c []) KE n) r nt dr ops base ((List.range ops.size).drop (i + 1)) st fun st => contP E ck (ptH E ck f nt gc (pts c []) KE n) f nt gc KE l .normal st) = some x := h
   obtain ⟨st1, h1, h2⟩ := opX_le hk h
   obtain ⟨st', h3, h4⟩ := opsP_fin hk (Q := fun st x => Fin2 E f nt gc KE l .normal st x) (fun st x h => contP_fin hk ih l hp .normal st x h) (fun i st x hi h => ih.md r ops dr l hT i base st x hi h) _ (i + 1) rfl st1 x h2
   refine ⟨st', ?_, h4⟩
   rw [range_drop hi]
   unfold runOps
   rw [h1]
   exact h3
noncomputable def bodyP (E : Env) (ck : CK ρ) (kk : PK ρ) (gc : Bool) (f : FuncId) (fn : Func) (c : Code) (args : List S) (h : Heap) (K : S → Heap → Option ρ) : Option ρ :=
 bif args.length.ble fn.ntmps then execP E ck kk f fn.ntmps gc c ⟨frOf 0 args, h⟩ (endK E fn K) else none
theorem bodyP_run {E : Env} {ck : CK ρ} (hk : CKOk E ck) {f : FuncId} {fn : Func} {gc : Bool} {c : Code} {K : S → Heap → Option ρ} (hf : E.fn f = some fn) (hb : fn.body = some c) (hn : namesOk ((pts c []).map (·.1)) = true) {n : Nat} {args : List S} {h : Heap} {x : ρ}
  (hx : bodyP E ck (ptH E ck f fn.ntmps gc (pts c []) (endK E fn K) n) gc f fn c args h K = some x) : ∃ k p, runBody E gc k f args h = some p ∧ K p.1 p.2 = some x := by
 unfold bodyP at hx
 cases hl : args.length.ble fn.ntmps with
 | false => rw [hl] at hx; cases hx
 | true =>
  rw [hl, cond_true] at hx
  obtain ⟨ex, st', ⟨k, h1⟩, h2⟩ := execP_fin hk (ptH_ok hk hn n) c [] _ (fun _ h => h) (fun _ _ _ h => h) _ _ hx
  have h2 : endK E fn K ex st' = some x := h2
  have go : isEnd ex = true → (resS E.P st' fn.results.toList).bind (fun vs => K (resultS vs) st'.h) = some x → ∃ k p, runBody E gc k f args h = some p ∧ K p.1 p.2 = some x := fun he h3 => by
   obtain ⟨vs, q1, q2⟩ := Option.bind_eq_some_iff.1 h3
   refine ⟨k, (resultS vs, st'.h), ?_, q2⟩
   unfold runBody
   rw [hf]
   dsimp only
   rw [hb]
   dsimp only
   rw [hl, cond_true, h1, Option.bind_some, he, cond_true, q1]; rfl
  cases ex with
  | normal => exact go rfl h2
  | ret => exact go rfl h2
  | exit id => cases h2
end
theorem W_pts {O : Opts} {f : FuncId} {fn : Func} {c : Code} (hf : (W O).fn f = some fn) (hb : fn.body = some c) (hfns : O.fns f = true) (hext : O.ext f = none) (hn : namesOk ((pts c []).map (·.1)) = true) {n : Nat} {args : List S} {x : S}
  (h : bodyP (EY O (regs O)) (orc O.P (regs O)) (ptH (EY O (regs O)) (orc O.P (regs O)) f fn.ntmps true (pts c []) (endK (EY O (regs O)) fn (topX O.P f)) n) true f fn c args .empty (topX O.P f) = some x) : (W O).callT f args = some x := by
 obtain ⟨k, p, h1, h2⟩ := bodyP_run (E := EY O (regs O)) (orc_ok rfl) hf hb hn h
 exact W_run hfns hext h1 (topX_le h2)
abbrev dd {α : Type} [Inhabited α] : α := default
abbrev BA := ByteArray
abbrev OS := Option S
abbrev ii (x : Int) : S := .t (.v (.int .i64 x))
abbrev bb (x : Bool) : S := .t (.v (.bool x))
abbrev ss (x : ByteArray) : S := .t (.v (.string x))
abbrev ti (x : Int) : T := .v (.int .i64 x)
abbrev tb (x : Bool) : T := .v (.bool x)
abbrev ts (x : ByteArray) : T := .v (.string x)
abbrev ag (l : List T) : S := .agg (l.map .t)
abbrev mkSt (l : List (Nat × S)) (n : Nat) (h : List (Nat × B)) : St := ⟨Tr.ofList l, ⟨n, Tr.ofList h⟩⟩
instance : Inhabited S := ⟨.ud⟩
instance : Inhabited Rw0 := ⟨⟨0, fun i => i.elim0⟩⟩
structure Rw (α : Type) where
 n : Nat
 get : Fin n → α
instance {α : Type} : Inhabited (Rw α) := ⟨⟨0, fun i => i.elim0⟩⟩
structure D88 where
 fKey : ByteArray
 fVal : ByteArray
instance : Inhabited D88 := ⟨⟨dd, dd⟩⟩
def e88 (x : D88) : List T := [.v (.string x.fKey), .v (.string x.fVal)]
structure D109 where
 fZone : ByteArray
 fKind : ByteArray
 fPrice : Int
 fOpen : Bool
instance : Inhabited D109 := ⟨⟨dd, dd, dd, dd⟩⟩
def e109 (x : D109) : List T := [.v (.string x.fZone), .v (.string x.fKind), .v (.int .i64 x.fPrice), .v (.bool x.fOpen)]
structure D112 where
 fName : ByteArray
 fCap_0 : Int
 fCap_1 : Int
 fOver_0 : Int
 fOver_1 : Int
 fLabels : Rw D88
 fOffers : Rw D109
instance : Inhabited D112 := ⟨⟨dd, dd, dd, dd, dd, dd, dd⟩⟩
def e112 (x : D112) : List T := [.v (.string x.fName), .v (.int .i64 x.fCap_0), .v (.int .i64 x.fCap_1), .v (.int .i64 x.fOver_0), .v (.int .i64 x.fOver_1), .rows 2 x.fLabels.n (fun i => e88 (x.fLabels.get i)), .rows 4 x.fOffers.n (fun i => e109 (x.fOffers.get i))]
def e9 (x : ByteArray) : List T := [.v (.string x)]
structure D68 where
 fKey : ByteArray
 fOp : Int
 fVals : Rw ByteArray
 fN : Int
instance : Inhabited D68 := ⟨⟨dd, dd, dd, dd⟩⟩
def e68 (x : D68) : List T := [.v (.string x.fKey), .v (.int .i64 x.fOp), .rows 1 x.fVals.n (fun i => e9 (x.fVals.get i)), .v (.int .i64 x.fN)]
structure D160 where
 fKey : ByteArray
 fVal : ByteArray
 fAny : Bool
instance : Inhabited D160 := ⟨⟨dd, dd, dd⟩⟩
def e160 (x : D160) : List T := [.v (.string x.fKey), .v (.string x.fVal), .v (.bool x.fAny)]
structure D70 where
 fKey : ByteArray
 fApp : ByteArray
 fSkew : Int
instance : Inhabited D70 := ⟨⟨dd, dd, dd⟩⟩
def e70 (x : D70) : List T := [.v (.string x.fKey), .v (.string x.fApp), .v (.int .i64 x.fSkew)]
structure D138 where
 fKey : ByteArray
 fApp : ByteArray
instance : Inhabited D138 := ⟨⟨dd, dd⟩⟩
def e138 (x : D138) : List T := [.v (.string x.fKey), .v (.string x.fApp)]
structure D61 where
 fName : ByteArray
 fApp : ByteArray
 fNeed_0 : Int
 fNeed_1 : Int
 fPrio : Int
 fReqs : Rw D68
 fTols : Rw D160
 fSpread : Rw D70
 fNear : Rw D138
 fApart : Rw D138
 fSince : Int
 fOn : ByteArray
instance : Inhabited D61 := ⟨⟨dd, dd, dd, dd, dd, dd, dd, dd, dd, dd, dd, dd⟩⟩
def e61 (x : D61) : List T := [.v (.string x.fName), .v (.string x.fApp), .v (.int .i64 x.fNeed_0), .v (.int .i64 x.fNeed_1), .v (.int .i64 x.fPrio), .rows 4 x.fReqs.n (fun i => e68 (x.fReqs.get i)), .rows 3 x.fTols.n (fun i => e160 (x.fTols.get i)), .rows 3 x.fSpread.n (fun i => e70 (x.fSpread.get i)), .rows 2 x.fNear.n (fun i => e138 (x.fNear.get i)), .rows 2 x.fApart.n (fun i => e138 (x.fApart.get i)), .v (.int .i64 x.fSince), .v (.string x.fOn)]
structure D77 where
 fName : ByteArray
 fWeight : Int
 fLimit_0 : Int
 fLimit_1 : Int
 fReqs : Rw D68
 fTaints : Rw D88
 fGen : Int
 fExpire : Int
 fBudget : Int
 fMerge : Int
instance : Inhabited D77 := ⟨⟨dd, dd, dd, dd, dd, dd, dd, dd, dd, dd⟩⟩
def e77 (x : D77) : List T := [.v (.string x.fName), .v (.int .i64 x.fWeight), .v (.int .i64 x.fLimit_0), .v (.int .i64 x.fLimit_1), .rows 4 x.fReqs.n (fun i => e68 (x.fReqs.get i)), .rows 2 x.fTaints.n (fun i => e88 (x.fTaints.get i)), .v (.int .i64 x.fGen), .v (.int .i64 x.fExpire), .v (.int .i64 x.fBudget), .v (.int .i64 x.fMerge)]
structure D47 where
 fType : ByteArray
 fZone : ByteArray
 fKind : ByteArray
instance : Inhabited D47 := ⟨⟨dd, dd, dd⟩⟩
def e47 (x : D47) : List T := [.v (.string x.fType), .v (.string x.fZone), .v (.string x.fKind)]
structure D52 where
 fName : ByteArray
 fPool : ByteArray
 fGen : Int
 fOffer_Type : ByteArray
 fOffer_Zone : ByteArray
 fOffer_Kind : ByteArray
 fPrice : Int
 fCap_0 : Int
 fCap_1 : Int
 fOpts : Rw D47
 fTry : Int
 fId : ByteArray
 fPhase : Int
 fBorn : Int
 fMarked : Bool
instance : Inhabited D52 := ⟨⟨dd, dd, dd, dd, dd, dd, dd, dd, dd, dd, dd, dd, dd, dd, dd⟩⟩
def e52 (x : D52) : List T := [.v (.string x.fName), .v (.string x.fPool), .v (.int .i64 x.fGen), .v (.string x.fOffer_Type), .v (.string x.fOffer_Zone), .v (.string x.fOffer_Kind), .v (.int .i64 x.fPrice), .v (.int .i64 x.fCap_0), .v (.int .i64 x.fCap_1), .rows 3 x.fOpts.n (fun i => e47 (x.fOpts.get i)), .v (.int .i64 x.fTry), .v (.string x.fId), .v (.int .i64 x.fPhase), .v (.int .i64 x.fBorn), .v (.bool x.fMarked)]
structure D122 where
 fCause : Int
 fNodes : Rw ByteArray
 fStep : Int
 fUntil : Int
 fFresh : ByteArray
 fPool : ByteArray
 fOpts : Rw D47
 fMade : Bool
instance : Inhabited D122 := ⟨⟨dd, dd, dd, dd, dd, dd, dd, dd⟩⟩
def e122 (x : D122) : List T := [.v (.int .i64 x.fCause), .rows 1 x.fNodes.n (fun i => e9 (x.fNodes.get i)), .v (.int .i64 x.fStep), .v (.int .i64 x.fUntil), .v (.string x.fFresh), .v (.string x.fPool), .rows 3 x.fOpts.n (fun i => e47 (x.fOpts.get i)), .v (.bool x.fMade)]
structure D125 where
 fOffer_Type : ByteArray
 fOffer_Zone : ByteArray
 fOffer_Kind : ByteArray
 fUntil : Int
instance : Inhabited D125 := ⟨⟨dd, dd, dd, dd⟩⟩
def e125 (x : D125) : List T := [.v (.string x.fOffer_Type), .v (.string x.fOffer_Zone), .v (.string x.fOffer_Kind), .v (.int .i64 x.fUntil)]
structure D91 where
 fId : ByteArray
 fToken : ByteArray
 fOffer_Type : ByteArray
 fOffer_Zone : ByteArray
 fOffer_Kind : ByteArray
 fState : Int
 fReady : Int
instance : Inhabited D91 := ⟨⟨dd, dd, dd, dd, dd, dd, dd⟩⟩
def e91 (x : D91) : List T := [.v (.string x.fId), .v (.string x.fToken), .v (.string x.fOffer_Type), .v (.string x.fOffer_Zone), .v (.string x.fOffer_Kind), .v (.int .i64 x.fState), .v (.int .i64 x.fReady)]
structure D33 where
 fNow : Int
 fConf_Idle : Int
 fConf_Most : Int
 fConf_Hold : Int
 fConf_Late : Int
 fConf_Cool : Int
 fTypes : Rw D112
 fPods : Rw D61
 fPools : Rw D77
 fClaims : Rw D52
 fCommands : Rw D122
 fCools : Rw D125
 fInsts : Rw D91
 fNotes : Rw ByteArray
instance : Inhabited D33 := ⟨⟨dd, dd, dd, dd, dd, dd, dd, dd, dd, dd, dd, dd, dd, dd⟩⟩
def e33 (x : D33) : List T := [.v (.int .i64 x.fNow), .v (.int .i64 x.fConf_Idle), .v (.int .i64 x.fConf_Most), .v (.int .i64 x.fConf_Hold), .v (.int .i64 x.fConf_Late), .v (.int .i64 x.fConf_Cool), .rows 7 x.fTypes.n (fun i => e112 (x.fTypes.get i)), .rows 12 x.fPods.n (fun i => e61 (x.fPods.get i)), .rows 10 x.fPools.n (fun i => e77 (x.fPools.get i)), .rows 15 x.fClaims.n (fun i => e52 (x.fClaims.get i)), .rows 8 x.fCommands.n (fun i => e122 (x.fCommands.get i)), .rows 4 x.fCools.n (fun i => e125 (x.fCools.get i)), .rows 7 x.fInsts.n (fun i => e91 (x.fInsts.get i)), .rows 1 x.fNotes.n (fun i => e9 (x.fNotes.get i))]
structure D55 where
 fClaim_Name : ByteArray
 fClaim_Pool : ByteArray
 fClaim_Gen : Int
 fClaim_Offer_Type : ByteArray
 fClaim_Offer_Zone : ByteArray
 fClaim_Offer_Kind : ByteArray
 fClaim_Price : Int
 fClaim_Cap_0 : Int
 fClaim_Cap_1 : Int
 fClaim_Opts : Rw D47
 fClaim_Try : Int
 fClaim_Id : ByteArray
 fClaim_Phase : Int
 fClaim_Born : Int
 fClaim_Marked : Bool
 fLabels : Rw D88
 fUsed_0 : Int
 fUsed_1 : Int
 fFree_0 : Int
 fFree_1 : Int
 fPods : Rw ByteArray
instance : Inhabited D55 := ⟨⟨dd, dd, dd, dd, dd, dd, dd, dd, dd, dd, dd, dd, dd, dd, dd, dd, dd, dd, dd, dd, dd⟩⟩
structure D49 where
 fa_0 : Int
 fa_1 : Int
instance : Inhabited D49 := ⟨⟨dd, dd⟩⟩
def e49 (x : D49) : List T := [.v (.int .i64 x.fa_0), .v (.int .i64 x.fa_1)]
def e3 (x : Int) : List T := [.v (.int .i64 x)]
structure D141 where
 ft_Name : ByteArray
 ft_Cap_0 : Int
 ft_Cap_1 : Int
 ft_Over_0 : Int
 ft_Over_1 : Int
 ft_Labels : Rw D88
 ft_Offers : Rw D109
 fx_Zone : ByteArray
 fx_Kind : ByteArray
 fx_Price : Int
 fx_Open : Bool
instance : Inhabited D141 := ⟨⟨dd, dd, dd, dd, dd, dd, dd, dd, dd, dd, dd⟩⟩
def e31 (x : Rw ByteArray) : List T := [.rows 1 x.n (fun i => e9 (x.get i))]
def e5 (x : Int) : List T := [.v (.int .u8 x)]
def kTab : List (Nat × List Nat) := [(7, [1, 1, 0, 1]), (8, [1, 1, 0, 1]), (22, [1, 1, 1, 1, 1]), (23, [1, 1, 1, 1, 1]), (46, [2, 2, 2]), (47, [2, 2, 2]),
 (48, [1, 1]), (49, [1, 1]), (69, [2, 2, 1]), (70, [2, 2, 1]), (87, [2, 2]), (88, [2, 2]), (90, [2, 2, 2, 2, 2, 1, 1]),
 (91, [2, 2, 2, 2, 2, 1, 1]), (108, [2, 2, 1, 0]), (109, [2, 2, 1, 0]), (124, [2, 2, 2, 1]), (125, [2, 2, 2, 1]),
 (137, [2, 2]), (138, [2, 2]), (159, [2, 2, 0]), (160, [2, 2, 0])]
def look {α : Type} : List (Nat × α) → Nat → Option α
 | [], _ => none
 | (i, x) :: r, t => bif i.beq t then some x else look r t
def liveT0 : List (Nat × List (Nat × List Nat)) := [(4, [(9, [1, 3, 9]), (10, [3]), (11, [2])]),
 (6, [(21, [1, 3, 4, 6, 34, 35, 36]), (22, [1, 3, 4, 6]), (23, [2]), (36, [1, 3, 4, 6, 8, 9, 10, 34, 35, 36, 42, 43, 44]), (37, [1, 3, 4, 6, 8, 9, 10, 34, 35, 36]), (38, [2]), (72, [1, 3, 4, 6, 8, 9, 34, 35, 36, 81]), (73, [1, 3, 4, 6, 34, 35, 36]), (74, [2]), (93, [1, 3, 4, 6, 112, 113, 114]), (94, [1, 3, 4, 6]), (95, [2])]),
 (9, [(30, [1, 90, 91, 92]), (31, []), (32, [2])]),
 (10, [(30, [1, 97, 98, 99]), (31, [1]), (32, [2]), (66, [1, 130, 131, 132]), (67, [1]), (68, [2])]),
 (11, [(1000011, [85, 33, 3, 61, 10]), (33, [1, 5, 7, 8, 18, 19, 20, 43]), (18, [1, 5, 18, 19, 20]), (19, [5]), (20, [2, 3]), (57, [1, 5, 7, 8, 18, 19, 20, 69]), (58, [1, 5, 8, 18, 19, 20]), (59, [2, 3])]),
 (14, [(3, [7, 8, 9]), (4, []), (5, []), (12, [3, 7, 8, 9, 15, 16]), (13, [3, 7, 8, 9]), (14, []), (27, [3, 7, 8, 9, 26, 27]), (28, [3, 7, 8, 9]), (29, []), (42, [3, 7, 8, 9, 39, 40]), (43, [7, 8, 9]), (44, [])]),
 (15, [(24, [1, 2, 7, 27, 28, 29]), (25, [1, 2, 7]), (26, [4, 5]), (39, [1, 7, 40, 41, 42]), (40, [1, 7]), (41, [4, 5])]),
 (16, [(24, [1, 2, 7, 28, 29, 30]), (25, [1, 2, 7]), (26, [4, 5]), (45, [1, 7, 47, 48, 49]), (46, [1, 7]), (47, [4, 5])]),
 (17, [(6, [1, 4, 9, 10, 11]), (7, [4]), (8, [4, 5])]),
 (19, [(9, [3, 6, 7, 8]), (10, [3]), (11, [2])]),
 (20, [(9, [3, 8, 9, 10]), (10, [3]), (11, [2]), (18, [3, 5, 6, 8, 9, 10]), (19, [3, 5, 6, 8, 9, 10]), (20, [2])]),
 (24, [(12, [0, 9, 10, 11]), (13, []), (14, [2])])]
def liveT1 : List (Nat × List (Nat × List Nat)) := [(25, [(9, [3, 8, 9, 10]), (10, []), (11, [2])]),
 (26, [(9, [1, 3, 10, 11, 12]), (10, []), (11, [2])]),
 (27, [(9, [1, 3, 8, 9, 10]), (10, []), (11, [2])]),
 (28, [(6, [1, 7, 8, 9]), (7, []), (8, [2])]),
 (29, [(6, [1, 6, 7, 8]), (7, []), (8, [2])]),
 (30, [(9, [1, 3, 4, 10, 11, 12]), (10, []), (11, [2])]),
 (33, [(12, [0, 3]), (13, []), (14, [2]), (30, [0, 3, 5]), (31, [0, 3]), (32, [2])]),
 (35, [(6, [1, 11, 12, 13]), (7, []), (8, [2])]),
 (36, [(51, [1, 64, 65, 66]), (52, [1]), (53, [2])]),
 (37, [(6, [1, 4, 9, 10, 11]), (7, [4]), (8, [4, 5])]),
 (38, [(6, [1, 15, 16, 17]), (7, [1]), (8, [2]), (36, [1, 50, 51, 52]), (37, [1]), (38, [2]), (66, [1, 85, 86, 87]), (67, []), (68, [2]), (81, [1, 11, 85, 86, 87, 119, 120, 121]), (82, [1, 11, 85, 86, 87]), (83, [2])]),
 (42, [(21, [9, 12, 13]), (22, [12]), (23, [8]), (30, [9, 12, 13, 14]), (31, [9, 12, 13, 14]), (32, [8])])]
def liveT2 : List (Nat × List (Nat × List Nat)) := [(46, [(15, [0, 4, 5]), (16, [0, 4]), (17, [2, 3])]),
 (50, [(15, [1, 2, 26, 27, 28]), (16, [1, 2]), (17, [2])]),
 (53, [(9, [3, 6, 7, 8]), (10, [3]), (11, [2])]),
 (58, [(12, [1, 15, 16, 17]), (13, [1]), (14, [2])]),
 (68, [(9, [1, 3, 38, 39, 40]), (10, [1, 3]), (11, [2])]),
 (71, [(12, [0, 3]), (13, []), (14, [2])]),
 (73, [(12, [0, 3]), (13, []), (14, [2]), (39, [0, 3, 6]), (40, [0, 3]), (41, [2])]),
 (76, [(6, [1, 4, 9, 10, 11]), (7, [4]), (8, [4, 5])]),
 (77, [(6, [0, 9, 10, 11]), (7, []), (8, [4])]),
 (79, [(12, [0, 3]), (13, []), (14, [2]), (39, [0, 3, 6]), (40, [0, 3]), (41, [2])]),
 (80, [(6, [5, 6, 7]), (7, []), (8, [2])]),
 (81, [(24, [1, 32, 33, 34]), (25, [1]), (26, [2])])]
def liveT3 : List (Nat × List (Nat × List Nat)) := [(83, [(15, [3, 13, 14, 15]), (16, [3]), (17, [2]), (24, [3, 5, 13, 14, 15, 20, 21, 22]), (25, [3, 13, 14, 15]), (26, [2])]),
 (85, [(3, [0, 2, 7, 8, 9]), (4, []), (5, [])]),
 (86, [(15, [0, 3, 4, 5, 8]), (16, [4, 5]), (17, [4, 5, 6]), (24, [0, 3, 4, 5, 8, 9]), (25, [0, 3, 4, 5, 8]), (26, [4, 5, 6])]),
 (97, [(6, [0, 1, 2, 6, 7, 8]), (7, [0, 1, 2, 6, 7]), (8, []), (21, [0, 1, 2, 6]), (22, []), (23, []), (27, [0, 1, 2, 6, 7, 8]), (28, [0, 1, 2, 6, 7]), (29, [])]),
 (101, [(6, [0, 7, 8, 9]), (7, [0]), (8, [2])]),
 (102, [(6, [6, 7]), (7, []), (8, [2])]),
 (104, [(12, [0, 8, 9, 10]), (13, []), (14, [2])]),
 (105, [(12, [0, 9, 10, 11]), (13, []), (14, [2])]),
 (106, [(6, [0, 1, 7, 8]), (7, []), (8, [4])]),
 (107, [(6, [5, 6, 7]), (7, []), (8, [2])]),
 (111, [(12, [0, 8, 9, 10]), (13, []), (14, [2])]),
 (114, [(12, [0, 9, 10, 11]), (13, []), (14, [2])])]
def liveT4 : List (Nat × List (Nat × List Nat)) := [(115, [(21, [2, 3, 4, 21]), (22, [2, 4]), (23, [4, 5])]),
 (120, [(12, [0, 8, 9, 10]), (13, []), (14, [2])]),
 (121, [(12, [1, 23, 24, 25]), (13, [1]), (14, [2]), (33, [53, 54, 55]), (34, []), (35, [2]), (42, [53, 54, 55, 59, 60, 61]), (43, [53, 54, 55]), (44, [2])]),
 (126, [(12, [0, 3]), (13, []), (14, [2]), (48, [0, 3, 7]), (49, [0, 3]), (50, [2])]),
 (127, [(12, [0, 3]), (13, []), (14, [2]), (42, [0, 3, 7]), (43, [0, 3]), (44, [2])]),
 (128, [(6, [0, 3]), (7, []), (8, [2])]),
 (131, [(12, [0, 10, 11, 12]), (13, []), (14, [2]), (27, [0, 4, 10, 11, 12, 22, 23, 24]), (28, [0, 10, 11, 12]), (29, [2])]),
 (136, [(108, [1, 8, 9, 10, 11, 12, 13, 99, 100, 101]), (109, [9, 12, 13]), (110, [6, 7])]),
 (138, [(45, [0, 1, 5, 6, 7, 8, 9, 10]), (46, []), (47, [4])]),
 (140, [(3, [0, 1, 2, 3, 8]), (4, []), (5, []), (12, [0, 1, 2, 3, 8, 9]), (13, [0, 1, 2, 3, 8]), (14, [])]),
 (141, [(9, [0, 1, 4, 10, 11]), (10, [0, 1, 10]), (11, []), (27, [0, 10, 13]), (28, []), (29, []), (45, [0, 2, 4, 14, 15]), (46, [0, 2, 14]), (47, []), (63, [0, 14, 17]), (64, []), (65, []), (99, [0, 1, 2, 3, 4, 18, 19, 20, 21, 22]), (100, [0, 1, 2, 3, 4, 18, 19, 20]), (101, [])]),
 (144, [(6, [2, 3, 4, 6]), (7, [2, 4]), (8, [4])])]
def liveT5 : List (Nat × List (Nat × List Nat)) := [(153, [(15, [6, 15, 16, 17]), (16, [6]), (17, [4, 5])]),
 (156, [(6, [0, 1, 7, 8]), (7, []), (8, [4])]),
 (157, [(6, [0, 1, 7, 8]), (7, []), (8, [4])]),
 (160, [(6, [0, 1, 7, 8]), (7, []), (8, [4])]),
 (163, [(15, [0, 4, 5]), (16, [0, 4]), (17, [2, 3])]),
 (164, [(6, [0, 1, 2, 3, 4, 10, 11]), (7, []), (8, [])]),
 (168, [(30, [0, 3, 4, 5]), (31, [3]), (32, [2])]),
 (176, [(15, [0, 1, 5, 6, 7, 8, 9]), (16, [0, 1, 5, 6, 7, 8]), (17, [4]), (33, [0, 1, 5, 6, 7, 8, 10]), (34, []), (35, [4])]),
 (179, [(3, [0, 1, 4]), (4, [0, 1, 4]), (5, [])]),
 (180, [(33, [0, 1, 3, 4, 10, 11, 12, 13, 14, 15, 16]), (34, [0, 1, 3, 4, 10, 11, 12, 13]), (35, [10, 11]), (54, [0, 1, 3, 4, 10, 11, 12, 13, 17]), (55, [0, 1, 3, 4, 10, 11, 12, 13]), (56, [10, 11])]),
 (181, [(6, [0, 2, 4, 10, 11]), (7, [0, 2, 4, 10]), (8, [])]),
 (182, [(6, [0, 1, 7, 8]), (7, []), (8, [4])])]
def liveT6 : List (Nat × List (Nat × List Nat)) := [(184, [(6, [0, 1, 7, 8]), (7, []), (8, [4])]),
 (185, [(6, [0, 1, 7, 8]), (7, []), (8, [4])]),
 (186, [(6, [0, 1, 7, 8]), (7, []), (8, [4])]),
 (188, [(6, [0, 3, 7, 8]), (7, []), (8, [4])]),
 (189, [(6, [0, 3, 7, 8]), (7, []), (8, [4])]),
 (190, [(33, [1, 6]), (34, [1]), (35, [2]), (51, [1, 8]), (52, []), (53, [2])]),
 (191, [(9, [0, 3, 4]), (10, [3]), (11, [2])]),
 (192, [(3, [0, 1, 2, 6]), (4, [0, 1, 2, 6]), (5, [6, 7]), (18, [0, 1, 2, 6]), (19, [0, 1, 2, 6]), (20, [6, 7]), (39, [0, 1, 2, 6, 12, 13]), (40, [0, 1, 6, 12]), (41, [6, 7]), (63, [1, 6, 12, 16, 17]), (64, [6, 16]), (65, [6, 7])]),
 (193, [(9, [0, 3, 4]), (10, [0, 3]), (11, [2])]),
 (194, [(3, [0, 1, 2, 3, 8]), (4, []), (5, []), (12, [0, 1, 2, 3, 8, 9]), (13, [0, 1, 2, 3, 8]), (14, [])]),
 (195, [(12, [0, 3, 8, 9, 10, 11]), (13, [0, 3, 8, 9, 10]), (14, []), (24, [0, 3, 8, 9, 12]), (25, []), (26, [])]),
 (196, [(15, [0, 1, 8, 9, 10, 11]), (16, []), (17, [])])]
def liveT7 : List (Nat × List (Nat × List Nat)) := [(198, [(6, [0, 8, 9]), (7, []), (8, [])]),
 (199, [(9, [0, 1, 2, 3, 9, 10]), (10, []), (11, [8]), (15, [0, 1, 2, 3, 9, 10]), (16, [0, 1, 2, 3, 9, 10]), (17, [8]), (42, [0, 1, 2, 3, 9, 10, 11]), (43, [0, 1, 2, 3, 9, 10]), (44, [8]), (60, [0, 1, 2, 3, 9, 10, 12]), (61, [0, 1, 2, 3, 9, 10]), (62, [8])]),
 (200, [(9, [0, 1, 4, 11, 12]), (10, [11]), (11, [10]), (9, [0, 1, 4, 11, 12]), (10, [0, 1, 4, 11, 12]), (11, [10]), (15, [0, 1, 4, 11, 12]), (16, [0, 1, 4, 11, 12]), (17, [10])]),
 (201, [(9, [0, 1, 4, 12, 13]), (10, [0, 1, 4, 12, 13]), (11, [10, 11]), (15, [0, 1, 4, 12, 13]), (16, [0, 1, 4, 12, 13]), (17, [10, 11]), (39, [0, 1, 4, 12, 13]), (40, [0, 1, 13]), (41, [10, 11]), (39, [0, 1, 4, 12, 13]), (40, [0, 1, 4, 12, 13]), (41, [10, 11]), (45, [0, 1, 4, 12, 13]), (46, [0, 1, 4, 12, 13]), (47, [10, 11])]),
 (207, [(9, [0, 4, 5]), (10, [0, 4]), (11, [2, 3]), (24, [4, 6, 7, 8]), (25, [4, 6]), (26, [2, 3])]),
 (212, [(3, [0, 1, 2, 3, 10]), (4, []), (5, [])]),
 (217, [(9, [3, 9, 10, 11]), (10, [3]), (11, [2]), (18, [3, 9, 10, 11, 15, 16, 17]), (19, [3, 9, 10, 11]), (20, [2])]),
 (218, [(3, [0, 1, 2, 6]), (4, [0, 1, 2, 6]), (5, [6, 7]), (9, [0, 1, 2, 6]), (10, [0, 1, 2, 6]), (11, [6, 7]), (18, [0, 1, 2, 6, 37]), (19, [0, 1, 2, 6]), (20, [6, 7]), (45, [1, 2, 6, 11, 12]), (46, [6, 11]), (47, [6, 7])]),
 (219, [(6, [0, 1, 5]), (7, []), (8, [4])]),
 (220, [(6, [0, 1, 5]), (7, [0, 1, 5]), (8, [4])]),
 (221, [(3, [0, 2, 3, 4, 10]), (4, []), (5, [])]),
 (235, [(3, [0, 5]), (4, []), (5, [])])]
def liveT8 : List (Nat × List (Nat × List Nat)) := [(237, [(6, [0, 1, 2, 3, 8, 9]), (7, []), (8, [])]),
 (238, [(3, [0, 1, 2, 6]), (4, []), (5, []), (12, [0, 1, 2, 6, 7]), (13, [0, 1, 2, 6]), (14, [])]),
 (239, [(12, [0, 6, 7, 8, 9]), (13, [0, 6, 7, 8]), (14, []), (24, [0, 6, 7, 10]), (25, []), (26, [])]),
 (240, [(15, [0, 1, 6, 7, 8, 9]), (16, []), (17, [])]),
 (242, [(6, [0, 6, 7]), (7, []), (8, [])]),
 (243, [(9, [0, 1, 2, 7, 8]), (10, []), (11, [6]), (15, [0, 1, 2, 7, 8]), (16, [0, 1, 2, 7, 8]), (17, [6]), (42, [0, 1, 2, 7, 8, 9]), (43, [0, 1, 2, 7, 8]), (44, [6]), (60, [0, 1, 2, 7, 8, 10]), (61, [0, 1, 2, 7, 8]), (62, [6])]),
 (245, [(9, [0, 1, 9, 10]), (10, [9]), (11, [8]), (9, [0, 1, 9, 10]), (10, [0, 1, 9, 10]), (11, [8]), (15, [0, 1, 9, 10]), (16, [0, 1, 9, 10]), (17, [8])]),
 (246, [(9, [0, 1, 10, 11]), (10, [0, 1, 10, 11]), (11, [8, 9]), (15, [0, 1, 10, 11]), (16, [0, 1, 10, 11]), (17, [8, 9]), (39, [0, 1, 10, 11]), (40, [0, 1, 11]), (41, [8, 9]), (39, [0, 1, 10, 11]), (40, [0, 1, 10, 11]), (41, [8, 9]), (45, [0, 1, 10, 11]), (46, [0, 1, 10, 11]), (47, [8, 9])]),
 (247, [(3, [0, 2, 3, 8]), (4, []), (5, [])])]
def liveT : List (Nat × List (Nat × List Nat)) := liveT0 ++ liveT1 ++ liveT2 ++ liveT3 ++ liveT4 ++ liveT5 ++ liveT6 ++ liveT7 ++ liveT8
def inList (l : List Nat) (f : Nat) : Bool := l.any fun x => x.beq f
def chr (a : ByteArray) (j : Nat) : Int := if h : j < sizeN a then byteAt a ⟨j, h⟩ else 0
def okc (c : Int) (first : Bool) : Bool := (geI c 97 && leI c 122) || (!first && (eqI c 46 || eqI c 45 || (geI c 48 && leI c 57)))
def nameB (a : ByteArray) : Bool := !decide (sizeN a = 0) && (decide (sizeN a ≤ 16) && (List.range (sizeN a)).all fun j => okc (chr a j) (decide (j = 0)))
def numV (s : ByteArray) : Option Int := match Lib.parseIntB 64 s.data.toList with
 | .ok n => if -2147483648 ≤ n ∧ n ≤ 2147483648 ∧ Lib.itoa n = s.data.toList then some n else none
 | _ => none
def valB (s : ByteArray) : Bool := (numV s).isSome || nameB s
def cmpS (a b : ByteArray) : Int := Lib.compareBytes a.data.toList b.data.toList
def decS (n : Int) : ByteArray := ⟨(Lib.itoa n).toArray⟩
def F56 : List S → Option S
 | [.t (.v (.string a)), .t (.v (.string b))] => some (ii (cmpS a b))
 | _ => none
def F183 : List S → Option S
 | [.t (.v (.string s))] => bif s.size.ble 281474976710656 then some (.tup [ii ((numV s).getD 0), bb (numV s).isSome]) else none
 | _ => none
def F214 : List S → Option S
 | [.t (.v (.int .i64 n)), .t (.v (.int .i64 10))] => bif decide (-9223372036854775808 ≤ n) && decide (n ≤ 9223372036854775807) then some (ss (decS n)) else none
 | _ => none
def keysE : List (S × S) → Option (List ByteArray)
 | [] => some []
 | (.t (.v (.string k)), .t (.v (.bool _))) :: r => (keysE r).map (k :: ·)
 | _ => none
def noTwice : List ByteArray → Bool
 | [] => true
 | k :: r => !r.any (strEq k) && noTwice r
def risingL (ks : List ByteArray) : List (List UInt8) := (ks.map fun k => k.data.toList).mergeSort fun x y => decide (x ≤ y)
def rowTexts (l : List (List UInt8)) : S := .t (.rows 1 l.length fun i => [.v (.string ⟨(l[i.1]'i.2).toArray⟩)])
def F216 : List S → Option S
 | [.mt es] => match keysE es with
  | some ks => bif noTwice ks && ks.all (fun k => k.size.ble 281474976710656) && es.length.ble 1048576 then some (rowTexts (risingL ks)) else none
  | none => none
 | _ => none
def F44 : List S → Option S
 | [.t (.v (.string s)), .t (.v (.string p))] => bif s.size.blt 4294967281 then some (.tup [ss ⟨(Lib.cut s.data.toList p.data.toList).1.toArray⟩, ss ⟨(Lib.cut s.data.toList p.data.toList).2.1.toArray⟩, bb (Lib.cut s.data.toList p.data.toList).2.2]) else none
 | _ => none
def F45 : List S → Option S
 | [.t (.v (.int .i64 n))] => bif decide (-9223372036854775808 ≤ n) && decide (n ≤ 9223372036854775807) then some (ss (decS n)) else none
 | _ => none
def F136 : List S → Option S
 | [.t (.v (.string s)), .t (.v (.int .i64 10)), .t (.v (.int .i64 16))] => bif s.size.beq 0 || Nat.blt 281474976710656 s.size then none else (match Lib.parseUintM 65535 0 s.data.toList with
  | .ok n => some (.tup [.t (.v (.int .u64 n)), .t (.v .nilIface)])
  | _ => none)
 | _ => none
def cloneF (sz bz : Nat) : List S → Option S
 | [.t (.rows z n g)] => bif z.beq sz && (n * bz).ble 140737488355328 then some (.t (.rows z n g)) else none
 | _ => none
def extF (f : Nat) : Option (List S → Option S) := bif f.beq 56 then some F56 else bif f.beq 183 then some F183 else bif f.beq 214 then some F214 else bif f.beq 216 then some F216 else bif f.beq 44 then some F44 else bif f.beq 45 then some F45 else bif f.beq 136 then some F136 else bif f.beq 40 then some (cloneF 3 48) else none
noncomputable def O : Opts := ⟨Tryz.prog, look kTab, fun f => f.blt 252 && !inList [0, 1, 142, 174, 206] f, fun f => f.blt 252 && !inList [0, 1, 142, 174, 206] f, fun f => f.beq 14 || f.beq 21 || f.beq 41, fun f key => (look liveT f).bind fun l => look l key, (fun _ => none), extF⟩
def codeOf (f : Func) : Code := match f.body with | some c => c | none => .skip
noncomputable abbrev PG (q : YF) (n : Nat) (f : Func) (kk : PK S) : PK S := ptP (EY O q) (orc O.P q) n f.ntmps true (pts (codeOf f) []) (endK (EY O q) f (topX O.P n)) kk
noncomputable abbrev HG (q : YF) (n : Nat) (f : Func) : Nat → PK S := ptH (EY O q) (orc O.P q) n f.ntmps true (pts (codeOf f) []) (endK (EY O q) f (topX O.P n))
noncomputable abbrev BG (q : YF) (kk : PK S) (n : Nat) (f : Func) (l : List S) : Option S := bodyP (EY O q) (orc O.P q) kk true n f (codeOf f) l .empty (topX O.P n)
theorem WG {f : Nat} {fn : Func} {n : Nat} {args : List S} {x : S} (hf : (W O).fn f = some fn) (hb : (fn.body.isSome && (O.fns f && ((O.ext f).isNone && namesOk ((pts (codeOf fn) []).map (·.1))))) = true) (h : BG (regs O) (HG (regs O) f fn n) f fn args = some x) : (W O).callT f args = some x := by
 rw [Bool.and_eq_true, Bool.and_eq_true, Bool.and_eq_true] at hb
 obtain ⟨h1, h2, h3, h4⟩ := hb
 refine W_pts (c := codeOf fn) hf ?_ h2 (Option.isNone_iff_eq_none.1 h3) h4 h
 unfold codeOf
 cases e : fn.body with
 | none => rw [e] at h1; cases h1
 | some c => rfl
end Go.Proofs.YtonkoellfaopiaaGreatDoor.H
