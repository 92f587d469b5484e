import Derived.Test.YtonkoellfaopiaaGreatDoorV6
set_option linter.unusedSimpArgs false
set_option linter.unusedVariables false
namespace Go.Proofs.YtonkoellfaopiaaGreatDoor.H
open Go
abbrev CT := FuncId → List S → Option S
abbrev CI := FuncId → List S → Heap → Option (S × Heap)
section
variable {P : Program} {K : TypeId → Option (List Nat)} {fnOk inl : FuncId → Bool} {live : FuncId → Nat → Option (List Nat)} {ov : FuncId → Option Func} {α β : Type}
abbrev mk (P : Program) (K : TypeId → Option (List Nat)) (fnOk inl : FuncId → Bool) (live : FuncId → Nat → Option (List Nat)) (ov : FuncId → Option Func) (t : CT) (i : CI) : Env := ⟨P, K, fnOk, inl, live, ov, t, i⟩
def okL (t : CT) (L : List (FuncId × List S × S)) : Prop := ∀ q ∈ L, t q.1 q.2.1 = some q.2.2
def okM (i : CI) (M : List (FuncId × List S × Heap × S × Heap)) : Prop := ∀ q ∈ M, i q.1 q.2.1 q.2.2.1 = some q.2.2.2
def Supp (t : CT) (i : CI) (k : Nat) (R : CT → CI → Nat → Option α) (y : α) : Prop :=
 ∃ L M, okL t L ∧ okM i M ∧ ∀ t' i' k', okL t' L → okM i' M → k ≤ k' → R t' i' k' = some y
theorem okL_app {t : CT} {L L' : List (FuncId × List S × S)} : okL t (L ++ L') ↔ okL t L ∧ okL t L' := by simp [okL, or_imp, forall_and]
theorem okM_app {i : CI} {L L' : List (FuncId × List S × Heap × S × Heap)} : okM i (L ++ L') ↔ okM i L ∧ okM i L' := by simp [okM, or_imp, forall_and]
theorem Supp.const {t : CT} {i : CI} {k : Nat} {R : Option α} {y : α} (h : R = some y) : Supp t i k (fun _ _ _ => R) y :=
 ⟨[], [], (fun _ h => by cases h), (fun _ h => by cases h), fun _ _ _ _ _ _ => h⟩
theorem Supp.bind {t : CT} {i : CI} {k : Nat} {R : CT → CI → Nat → Option α} {x : α} {R2 : CT → CI → Nat → α → Option β} {y : β} (h : Supp t i k R x) (h2 : Supp t i k (fun t i k => R2 t i k x) y) : Supp t i k (fun t i k => (R t i k).bind (R2 t i k)) y := by
 obtain ⟨L, M, a, b, c⟩ := h
 obtain ⟨L', M', a', b', c'⟩ := h2
 refine ⟨L ++ L', M ++ M', okL_app.2 ⟨a, a'⟩, okM_app.2 ⟨b, b'⟩, fun t i k q1 q2 q3 => ?_⟩
 show (R t i k).bind (R2 t i k) = _
 rw [c t i k (okL_app.1 q1).1 (okM_app.1 q2).1 q3]
 exact c' t i k (okL_app.1 q1).2 (okM_app.1 q2).2 q3
theorem Supp.congr {t : CT} {i : CI} {k : Nat} {R R' : CT → CI → Nat → Option α} {y : α} (h : Supp t i k R y) (e : ∀ t i k, R t i k = R' t i k) : Supp t i k R' y := by
 have : R' = R := by funext t i k; exact (e t i k).symm
 rw [this]; exact h
theorem Supp.map {t : CT} {i : CI} {k : Nat} {R : CT → CI → Nat → Option α} {x : α} {g : α → β} {y : β} (h : Supp t i k R x) (e : g x = y) : Supp t i k (fun t i k => (R t i k).map g) y := by
 refine (h.bind (R2 := fun _ _ _ x => some (g x)) (Supp.const (by rw [e]))).congr (fun t i k => ?_)
 cases R t i k <;> rfl
theorem Supp.callT {t : CT} {i : CI} {k : Nat} {f : FuncId} {args : List S} {r : S} (h : t f args = some r) : Supp t i k (fun t _ _ => t f args) r :=
 ⟨[(f, args, r)], [], (fun q hq => by rw [List.mem_singleton.1 hq]; exact h), (fun _ h => by cases h), fun t' _ _ h1 _ _ => h1 (f, args, r) (by simp)⟩
theorem Supp.callI {t : CT} {i : CI} {k : Nat} {f : FuncId} {args : List S} {hp : Heap} {r : S × Heap} (h : i f args hp = some r) : Supp t i k (fun _ i _ => i f args hp) r :=
 ⟨[], [(f, args, hp, r)], (fun _ h => by cases h), (fun q hq => by rw [List.mem_singleton.1 hq]; exact h), fun _ i' _ _ h2 _ => h2 (f, args, hp, r) (by simp)⟩
theorem quietCall_supp {t : CT} {i : CI} {k : Nat} {get : Nat → Option B} {f : FuncId} {args : List S} {y : S × List Nat} (h : quietCall (mk P K fnOk inl live ov t i) get f args = some y) :
  Supp t i k (fun t i _ => quietCall (mk P K fnOk inl live ov t i) get f args) y := by
 unfold quietCall at h ⊢
 split at h
 ·rename_i args' l hc
  try simp only [hc]
  split at h
  ·rename_i r hr
   refine ((Supp.callT (i := i) (k := k) hr).bind (R2 := fun _ _ _ r => bif flatS depthS r then some (r, []) else bif l.all (rowAt get) then (bif mapFlat r && l.all (noMap get) then some (r, []) else some (r, l)) else none) (Supp.const h)).congr (fun t i k => ?_)
   show Option.bind (t f args') _ = _
   cases e : t f args' <;> rfl
  ·cases h
 ·cases h
theorem readOp_supp {t : CT} {i : CI} {k : Nat} {get : Nat → Option B} {fr : Fr} {op : Op} {y : S} (h : readOp (mk P K fnOk inl live ov t i) get fr op = some y) :
  Supp t i k (fun t i _ => readOp (mk P K fnOk inl live ov t i) get fr op) y := by
 cases op with
 | call c =>
  obtain ⟨callee, args, argTypes⟩ := c
  cases callee with
  | value f =>
   simp only [readOp] at h ⊢
   split at h
   ·rename_i g az hc
    try simp only [hc]
    cases e : !fnOk g || inl g with
    | true => simp only [e, cond_true] at h; cases h
    | false =>
     simp only [e, cond_false] at h ⊢
     split at h
     ·rename_i r hq
      refine ((quietCall_supp (k := k) hq).bind (R2 := fun _ _ _ p => match p with | (r, []) => some r | _ => none) (Supp.const h)).congr (fun t i k => ?_)
      cases e : quietCall (mk P K fnOk inl live ov t i) get g az with
      | none => rfl
      | some p =>
       obtain ⟨r, l⟩ := p
       cases l <;> rfl
     ·cases h
   ·cases h
  | _ => cases h
 | next x z => cases z <;> exact Supp.const h
 | _ => exact Supp.const h
theorem writeOp_supp {t : CT} {i : CI} {k : Nat} {hp : Heap} {id : Nat} {fr : Fr} {op : Op} {y : S × Heap} (h : writeOp (mk P K fnOk inl live ov t i) hp id fr op = some y) :
  Supp t i k (fun t i _ => writeOp (mk P K fnOk inl live ov t i) hp id fr op) y := by
 cases op with
 | call c =>
  obtain ⟨callee, args, argTypes⟩ := c
  cases callee with
  | value f =>
   simp only [writeOp] at h ⊢
   split at h
   ·rename_i g az hc
    try simp only [hc]
    cases e : !fnOk g with
    | true => simp only [e, cond_true] at h; cases h
    | false =>
     simp only [e, cond_false] at h ⊢
     cases e2 : inl g with
     | true =>
      simp only [e2, cond_true] at h ⊢
      exact Supp.callI h
     | false =>
      simp only [e2, cond_false] at h ⊢
      split at h
      ·rename_i r l hq
       refine ((quietCall_supp (k := k) hq).bind (R2 := fun _ _ _ p => some (p.1, hp.freeze p.2)) (Supp.const h)).congr (fun t i k => ?_)
       cases e : quietCall (mk P K fnOk inl live ov t i) hp.get g az <;> rfl
      ·cases h
   ·cases h
  | builtin b => cases b <;> exact Supp.const h
  | _ => cases h
 | _ => exact Supp.const h
theorem stepOp_supp {t : CT} {i : CI} {k : Nat} {dr : Bool} {get : Nat → Option B} {id : Nat} {fr : Fr} {hp : Heap} {op : Op} {y : S × Heap} (h : stepOp (mk P K fnOk inl live ov t i) dr get id fr hp op = some y) :
  Supp t i k (fun t i _ => stepOp (mk P K fnOk inl live ov t i) dr get id fr hp op) y := by
 unfold stepOp at h ⊢
 cases e : clsOf inl op with
 | p => simp only [e] at h ⊢; exact Supp.const h
 | a => simp only [e] at h ⊢; exact Supp.const h
 | w => simp only [e] at h ⊢; exact writeOp_supp h
 | r =>
  simp only [e] at h ⊢
  have rd : ∀ {get : Nat → Option B}, (readOp (mk P K fnOk inl live ov t i) get fr op).map (fun s => (s, hp)) = some y → Supp t i k (fun t i _ => (readOp (mk P K fnOk inl live ov t i) get fr op).map (fun s => (s, hp))) y := fun h => by
   obtain ⟨s, hs, e⟩ := Option.map_eq_some_iff.1 h
   exact (readOp_supp hs).map e
  cases dr with
  | true => simp only [cond_true] at h ⊢; exact rd h
  | false =>
   simp only [cond_false] at h ⊢
   cases e2 : isCallO op with
   | true => simp only [e2, cond_true] at h ⊢; exact writeOp_supp h
   | false => simp only [e2, cond_false] at h ⊢; exact rd h
theorem runOp_supp {t : CT} {i : CI} {k nt : Nat} {dr : Bool} {ops : Array Oper} {base j : Nat} {st st' : St} (h : runOp (mk P K fnOk inl live ov t i) nt dr ops base j st = some st') :
  Supp t i k (fun t i _ => runOp (mk P K fnOk inl live ov t i) nt dr ops base j st) st' := by
 unfold runOp at h ⊢
 cases ho : ops[j]? with
 | none => rw [ho] at h; cases h
 | some o =>
  simp only [ho] at h ⊢
  split at h
  ·rename_i fr hw
   try simp only [hw]
   obtain ⟨hl, h⟩ := bif_some h
   simp only [hl, cond_true]
   split at h
   ·rename_i s h' hs
    refine ((stepOp_supp (k := k) hs).bind (R2 := fun _ _ _ p => (putS nt fr o.dst p.1).map fun fr => ⟨fr, p.2⟩) (Supp.const h)).congr (fun t i k => ?_)
    generalize stepOp (mk P K fnOk inl live ov t i) _ _ _ _ _ _ = q
    cases q <;> rfl
   ·cases h
  ·rename_i fr hw
   try simp only [hw]
   exact Supp.const h
  ·cases h
theorem runOps_supp {t : CT} {i : CI} {k nt : Nat} {dr : Bool} {ops : Array Oper} {base : Nat} : ∀ (l : List Nat) {st st' : St}, runOps (mk P K fnOk inl live ov t i) nt dr ops base l st = some st' → Supp t i k (fun t i _ => runOps (mk P K fnOk inl live ov t i) nt dr ops base l st) st'
 | [], _, _, h => Supp.const h
 | j :: l, st, st', h => by
  obtain ⟨st1, h1, h2⟩ := Option.bind_eq_some_iff.1 h
  exact (runOp_supp h1).bind (R2 := fun t i _ st1 => runOps (mk P K fnOk inl live ov t i) nt dr ops base l st1) (runOps_supp l h2)
theorem iter_supp {t : CT} {i : CI} {F : CT → CI → Nat → St → Option (Ex × St)} : ∀ (n k : Nat), n ≤ k → (∀ st y, F t i k st = some y → Supp t i k (fun t i k => F t i k st) y) → ∀ {st : St} {y : Ex × St}, iter (F t i k) n st = some y →
  ∃ L M, okL t L ∧ okM i M ∧ ∀ t' i' k' n', okL t' L → okM i' M → k ≤ k' → n ≤ n' → iter (F t' i' k') n' st = some y
 | 0, _, _, _, _, _, h => by cases h
 | n + 1, k, hk, hF, st, y, h => by
  unfold iter at h
  cases e : F t i k st with
  | none => rw [e] at h; cases h
  | some p =>
   obtain ⟨ex, st1⟩ := p
   rw [e] at h
   obtain ⟨L, M, a, b, c⟩ := hF st _ e
   cases ex with
   | normal =>
    simp only at h
    obtain ⟨L', M', a', b', c'⟩ := iter_supp n k (by omega) hF h
    refine ⟨L ++ L', M ++ M', okL_app.2 ⟨a, a'⟩, okM_app.2 ⟨b, b'⟩, fun t' i' k' n' q1 q2 q3 q4 => ?_⟩
    obtain ⟨m, rfl⟩ : ∃ m, n' = m + 1 := ⟨n' - 1, by omega⟩
    unfold iter
    have hc := c t' i' k' (okL_app.1 q1).1 (okM_app.1 q2).1 q3
    simp only at hc
    rw [hc]
    exact c' t' i' k' m (okL_app.1 q1).2 (okM_app.1 q2).2 q3 (by omega)
   | exit id =>
    obtain rfl := Option.some.inj h
    refine ⟨L, M, a, b, fun t' i' k' n' q1 q2 q3 q4 => ?_⟩
    obtain ⟨m, rfl⟩ : ∃ m, n' = m + 1 := ⟨n' - 1, by omega⟩
    unfold iter
    have hc := c t' i' k' q1 q2 q3
    simp only at hc
    rw [hc]
   | ret =>
    obtain rfl := Option.some.inj h
    refine ⟨L, M, a, b, fun t' i' k' n' q1 q2 q3 q4 => ?_⟩
    obtain ⟨m, rfl⟩ : ∃ m, n' = m + 1 := ⟨n' - 1, by omega⟩
    unfold iter
    have hc := c t' i' k' q1 q2 q3
    simp only at hc
    rw [hc]
theorem rfIter_supp {t : CT} {i : CI} {sp : RfSpec} {q : Operand} {p : Nat} {cl : St → Option St} {A B : CT → CI → Nat → St → Option (Ex × St)} {N : Nat} {g : Fin N → List T} : ∀ (n k : Nat), n ≤ k → (∀ st y, A t i k st = some y → Supp t i k (fun t i k => A t i k st) y) → (∀ st y, B t i k st = some y → Supp t i k (fun t i k => B t i k st) y) →
  ∀ {j : Nat} {st y : St}, rfIter P sp q p cl (A t i k) (B t i k) g n j st = some y → ∃ L M, okL t L ∧ okM i M ∧ ∀ t' i' k' n', okL t' L → okM i' M → k ≤ k' → n ≤ n' → rfIter P sp q p cl (A t' i' k') (B t' i' k') g n' j st = some y
 | 0, _, _, _, _, _, _, _, h => by cases h
 | n + 1, k, hk, hA, hB, j, st, y, h => by
  unfold rfIter at h
  obtain ⟨st1, hcl, h⟩ := Option.bind_eq_some_iff.1 h
  have go : ∀ {j' : Nat} {st' : St}, rfIter P sp q p cl (A t i k) (B t i k) g n j' st' = some y → ∃ L M, okL t L ∧ okM i M ∧ ∀ t' i' k' n', okL t' L → okM i' M → k ≤ k' → n ≤ n' → rfIter P sp q p cl (A t' i' k') (B t' i' k') g n' j' st' = some y := fun h => rfIter_supp n k (by omega) hA hB h
  split at h
  ·cases h
  ·rename_i s hs
   split at h
   ·rename_i hj
    split at h
    ·cases h
    ·rename_i r hr
     cases he : strEq r s with
     | false =>
      rw [he, cond_false] at h
      obtain ⟨L, M, a, b, c⟩ := go h
      refine ⟨L, M, a, b, fun t' i' k' n' q1 q2 q3 q4 => ?_⟩
      obtain ⟨m, rfl⟩ : ∃ m, n' = m + 1 := ⟨n' - 1, by omega⟩
      unfold rfIter
      rw [hcl, Option.bind_some, hs]
      dsimp only
      rw [dif_pos hj, hr]
      dsimp only
      rw [he, cond_false]
      exact c t' i' k' m q1 q2 q3 (by omega)
     | true =>
      rw [he, cond_true] at h
      split at h
      ·rename_i st2 h2
       split at h
       ·rename_i st3 h3
        obtain ⟨L1, M1, a1, b1, c1⟩ := hA _ _ h2
        obtain ⟨L2, M2, a2, b2, c2⟩ := hB _ _ h3
        obtain ⟨L3, M3, a3, b3, c3⟩ := go h
        refine ⟨L1 ++ (L2 ++ L3), M1 ++ (M2 ++ M3), okL_app.2 ⟨a1, okL_app.2 ⟨a2, a3⟩⟩, okM_app.2 ⟨b1, okM_app.2 ⟨b2, b3⟩⟩, fun t' i' k' n' q1 q2 q3 q4 => ?_⟩
        obtain ⟨m, rfl⟩ : ∃ m, n' = m + 1 := ⟨n' - 1, by omega⟩
        obtain ⟨q11, q12⟩ := okL_app.1 q1
        obtain ⟨q21, q22⟩ := okM_app.1 q2
        have e1 := c1 t' i' k' q11 q21 q3
        have e2 := c2 t' i' k' (okL_app.1 q12).1 (okM_app.1 q22).1 q3
        simp only at e1 e2
        unfold rfIter
        rw [hcl, Option.bind_some, hs]
        dsimp only
        rw [dif_pos hj, hr]
        dsimp only
        rw [he, cond_true, e1]
        dsimp only
        rw [e2]
        exact c3 t' i' k' m (okL_app.1 q12).2 (okM_app.1 q22).2 q3 (by omega)
       ·cases h
      ·cases h
   ·rename_i hj
    refine ⟨[], [], (fun _ h => by cases h), (fun _ h => by cases h), fun t' i' k' n' q1 q2 q3 q4 => ?_⟩
    obtain ⟨m, rfl⟩ : ∃ m, n' = m + 1 := ⟨n' - 1, by omega⟩
    unfold rfIter
    rw [hcl, Option.bind_some, hs]
    dsimp only
    rw [dif_neg hj]
    exact h
theorem exec_supp {t : CT} {i : CI} {f : FuncId} {nt : Nat} {k : Nat} : ∀ (c : Code) {gc : Bool} {st : St} {y : Ex × St}, exec (mk P K fnOk inl live ov t i) f nt gc k c st = some y → Supp t i k (fun t i k => exec (mk P K fnOk inl live ov t i) f nt gc k c st) y := by
 intro c
 induction c with
 | region id ops draw =>
  intro gc st y h
  simp only [exec] at h ⊢
  obtain ⟨st2, h3, h4⟩ := Option.map_eq_some_iff.1 h
  exact (runOps_supp _ h3).map h4
 | seq a b iha ihb =>
  intro gc st y h
  simp only [exec] at h ⊢
  obtain ⟨⟨e, st1⟩, h1, h2⟩ := Option.bind_eq_some_iff.1 h
  refine (iha h1).bind (R2 := fun t i k p => match p with | (.normal, st') => exec (mk P K fnOk inl live ov t i) f nt gc k b st' | p => some p) ?_
  cases e with
  | normal => exact ihb h2
  | exit id => exact Supp.const h2
  | ret => exact Supp.const h2
 | cond c a b iha ihb =>
  intro gc st y h
  simp only [exec] at h ⊢
  split at h
  ·rename_i p hp
   try simp only [hp]
   cases p with
   | true => simp only [cond_true] at h ⊢; exact iha h
   | false => simp only [cond_false] at h ⊢; exact ihb h
  ·cases h
 | block id b ih =>
  intro gc st y h
  simp only [exec] at h ⊢
  obtain ⟨p, h1, h2⟩ := Option.bind_eq_some_iff.1 h
  exact (ih h1).bind (R2 := fun _ _ _ p => match p with | (.exit i, st') => bif i.beq id then some (.normal, st') else some (.exit i, st') | p => some p) (Supp.const h2)
 | loop b ih =>
  intro gc st y h
  simp only [exec] at h ⊢
  obtain ⟨p, h1, h2⟩ := Option.bind_eq_some_iff.1 h
  obtain ⟨L, M, a, b', c⟩ := iter_supp (F := fun t i k st => (cleanAt (mk P K fnOk inl live ov t i) f gc (3 * firstR b) st).bind (exec (mk P K fnOk inl live ov t i) f nt gc k b)) k k (Nat.le_refl _) (fun st y h => by
   obtain ⟨st1, q1, q2⟩ := Option.bind_eq_some_iff.1 h
   have q1' : ∀ t i, cleanAt (mk P K fnOk inl live ov t i) f gc (3 * firstR b) st = some st1 := fun _ _ => q1
   refine (ih q2).congr (fun t i k => ?_)
   rw [q1']; rfl) h1
  refine Supp.bind (R := fun t i k => iter (fun st => (cleanAt (mk P K fnOk inl live ov t i) f gc (3 * firstR b) st).bind (exec (mk P K fnOk inl live ov t i) f nt gc k b)) k st) (x := p) (R2 := fun t i k p => leaveL (mk P K fnOk inl live ov t i) f gc (firstR b) p.1 p.2) ⟨L, M, a, b', fun t' i' k' q1 q2 q3 => c t' i' k' k' q1 q2 q3 q3⟩ ?_
  have : ∀ t i, leaveL (mk P K fnOk inl live ov t i) f gc (firstR b) p.1 p.2 = some y := fun t i => by
   obtain ⟨ex, st1⟩ := p
   cases ex <;> exact h2
  exact (Supp.const (h2)).congr (fun t i k => by rw [this t i]; exact h2)
 | skip => intro gc st y h; exact Supp.const h
 | exit id => intro gc st y h; exact Supp.const h
 | ret => intro gc st y h; exact Supp.const h
 | rangeFunc q ps az bd iha ihb =>
  intro gc st y h
  simp only [exec] at h ⊢
  obtain ⟨p, h1, h⟩ := Option.bind_eq_some_iff.1 h
  obtain ⟨sp, h2, h⟩ := Option.bind_eq_some_iff.1 h
  obtain ⟨keep, h3, h⟩ := Option.bind_eq_some_iff.1 h
  obtain ⟨h4, h5⟩ := bif_some h
  clear h
  obtain ⟨b, h6, h⟩ := Option.bind_eq_some_iff.1 h5
  clear h5
  obtain ⟨row, h7, h⟩ := Option.bind_eq_some_iff.1 h
  obtain ⟨stf, h8, h9⟩ := Option.map_eq_some_iff.1 h
  obtain ⟨L, M, a, b', c⟩ := rfIter_supp (A := fun t i k st => exec (mk P K fnOk inl live ov t i) f nt false k az st) (B := fun t i k st => exec (mk P K fnOk inl live ov t i) f nt false k bd st) k k (Nat.le_refl _) (fun st y h => iha h) (fun st y h => ihb h) h8
  refine ⟨L, M, a, b', fun t' i' k' q1 q2 q3 => ?_⟩
  dsimp only
  rw [h1, Option.bind_some, h2, Option.bind_some, h3, Option.bind_some, h4, cond_true, h6, Option.bind_some, h7, Option.bind_some]
  have := c t' i' k' k' q1 q2 q3 q3
  rw [this]
  exact congrArg some h9
 | scope => intro gc st y h; cases h
 | label => intro gc st y h; cases h
 | goto => intro gc st y h; cases h
 | refuse => intro gc st y h; cases h
theorem runBody_supp {t : CT} {i : CI} {f : FuncId} {gc : Bool} {k : Nat} {args : List S} {h : Heap} {y : S × Heap} (hx : runBody (mk P K fnOk inl live ov t i) gc k f args h = some y) : Supp t i k (fun t i k => runBody (mk P K fnOk inl live ov t i) gc k f args h) y := by
 unfold runBody at hx ⊢
 cases hfn : (mk P K fnOk inl live ov t i).fn f with
 | none => rw [hfn] at hx; cases hx
 | some fn =>
  have hfn' : ∀ t i, (mk P K fnOk inl live ov t i).fn f = some fn := fun _ _ => hfn
  rw [hfn] at hx
  simp only [hfn'] at hx ⊢
  split at hx
  ·cases hx
  ·rename_i c hb
   try simp only [hb]
   cases e : args.length.ble fn.ntmps with
   | false => rw [e] at hx; cases hx
   | true =>
    simp only [e, cond_true] at hx ⊢
    obtain ⟨p, h1, h2⟩ := Option.bind_eq_some_iff.1 hx
    exact (exec_supp c h1).bind (R2 := fun _ _ _ p => bif isEnd p.1 then (resS P p.2 fn.results.toList).map fun vs => (resultS vs, p.2.h) else none) (Supp.const h2)
end
section
variable {O : Opts}
theorem envN_eq (O : Opts) : ∀ k, envN O k = mk O.P O.K O.fnOk O.inl O.live O.ov (envN O k).callT (envN O k).callI
 | 0 => rfl
 | _ + 1 => rfl
theorem envN_callT (O : Opts) (k : Nat) (f : FuncId) (args : List S) : (envN O (k + 1)).callT f args = (match O.ext f with
  | some F => F args
  | none => bif O.fns f then
   (match runBody (envN O k) true k f args .empty with
    | some (r, h) => (closeS h.get depthS r).map fun p => normF O.P f p.1
    | none => none) else none) := rfl
theorem envN_callI (O : Opts) (k : Nat) (f : FuncId) (args : List S) (h : Heap) : (envN O (k + 1)).callI f args h = (bif O.fns f && (O.ov f).isNone then runBody (envN O k) false k f args h else none) := rfl
theorem body_up {k : Nat} (hT : ∀ f a r, (envN O k).callT f a = some r → (envN O (k + 1)).callT f a = some r) (hI : ∀ f a h r, (envN O k).callI f a h = some r → (envN O (k + 1)).callI f a h = some r) {gc : Bool} {f : FuncId} {args : List S} {h : Heap} {y : S × Heap}
  (hx : runBody (envN O k) gc k f args h = some y) : runBody (envN O (k + 1)) gc (k + 1) f args h = some y := by
 rw [envN_eq O k] at hx
 obtain ⟨L, M, a, b, c⟩ := runBody_supp hx
 have := c (envN O (k + 1)).callT (envN O (k + 1)).callI (k + 1) (fun q hq => hT _ _ _ (a q hq)) (fun q hq => hI _ _ _ _ (b q hq)) (Nat.le_succ k)
 rw [envN_eq O (k + 1)]
 exact this
theorem envN_up (O : Opts) : ∀ k, (∀ f a r, (envN O k).callT f a = some r → (envN O (k + 1)).callT f a = some r) ∧ (∀ f a h r, (envN O k).callI f a h = some r → (envN O (k + 1)).callI f a h = some r)
 | 0 => ⟨(fun f a r h => by cases h), (fun f a h r hx => by cases hx)⟩
 | k + 1 => by
  obtain ⟨iT, iI⟩ := envN_up O k
  refine ⟨fun f a r hx => ?_, fun f a h r hx => ?_⟩
  ·rw [envN_callT] at hx ⊢
   split at hx
   ·exact hx
   ·cases hf : O.fns f with
    | false => rw [hf] at hx; cases hx
    | true =>
     rw [hf, cond_true] at hx
     rw [cond_true]
     split at hx
     ·rename_i r0 h0 hb
      rw [body_up iT iI hb]
      exact hx
     ·cases hx
  ·rw [envN_callI] at hx ⊢
   cases hf : O.fns f && (O.ov f).isNone with
   | false => rw [hf] at hx; cases hx
   | true =>
    rw [hf, cond_true] at hx
    rw [cond_true]
    exact body_up iT iI hx
theorem envN_le (O : Opts) {k k' : Nat} (h : k ≤ k') : (∀ f a r, (envN O k).callT f a = some r → (envN O k').callT f a = some r) ∧ (∀ f a h r, (envN O k).callI f a h = some r → (envN O k').callI f a h = some r) := by
 induction h with
 | refl => exact ⟨fun _ _ _ h => h, fun _ _ _ _ h => h⟩
 | step _ ih => exact ⟨fun f a r h => (envN_up O _).1 f a r (ih.1 f a r h), fun f a h r hx => (envN_up O _).2 f a h r (ih.2 f a h r hx)⟩
noncomputable def limT (O : Opts) : CT := fun f a => open Classical in if h : ∃ r k, (envN O k).callT f a = some r then some h.choose else none
noncomputable def limI (O : Opts) : CI := fun f a hp => open Classical in if h : ∃ r k, (envN O k).callI f a hp = some r then some h.choose else none
theorem limT_iff {f : FuncId} {a : List S} {r : S} : limT O f a = some r ↔ ∃ k, (envN O k).callT f a = some r := by
 unfold limT
 constructor
 ·intro h
  split at h
  ·rename_i hx
   obtain rfl := Option.some.inj h
   exact hx.choose_spec
  ·cases h
 ·rintro ⟨k, hk⟩
  have hx : ∃ r k, (envN O k).callT f a = some r := ⟨r, k, hk⟩
  rw [dif_pos hx]
  obtain ⟨k', hk'⟩ := hx.choose_spec
  have h1 := (envN_le O (Nat.le_max_left k k')).1 f a r hk
  have h2 := (envN_le O (Nat.le_max_right k k')).1 f a _ hk'
  rw [h1] at h2
  exact h2.symm
theorem limI_iff {f : FuncId} {a : List S} {hp : Heap} {r : S × Heap} : limI O f a hp = some r ↔ ∃ k, (envN O k).callI f a hp = some r := by
 unfold limI
 constructor
 ·intro h
  split at h
  ·rename_i hx
   obtain rfl := Option.some.inj h
   exact hx.choose_spec
  ·cases h
 ·rintro ⟨k, hk⟩
  have hx : ∃ r k, (envN O k).callI f a hp = some r := ⟨r, k, hk⟩
  rw [dif_pos hx]
  obtain ⟨k', hk'⟩ := hx.choose_spec
  have h1 := (envN_le O (Nat.le_max_left k k')).2 f a hp r hk
  have h2 := (envN_le O (Nat.le_max_right k k')).2 f a hp _ hk'
  rw [h1] at h2
  exact h2.symm
noncomputable def W (O : Opts) : Env := mk O.P O.K O.fnOk O.inl O.live O.ov (limT O) (limI O)
theorem W_ok {V : World → Prop} (hO : OptsOk V O) : EnvOk V (W O) :=
 ⟨hO.k, hO.fn, fun f args r h => by
  obtain ⟨k, hk⟩ := limT_iff.1 h
  have := (envN_ok hO k).t f args r hk
  rw [(envN_P O k).1] at this
  exact this,
  fun f args h r h' hx => by
  obtain ⟨k, hk⟩ := limI_iff.1 hx
  have := (envN_ok hO k).i f args h r h' hk
  rw [(envN_P O k).1] at this
  exact this, hO.rf⟩
theorem lim_list {L : List (FuncId × List S × S)} (h : okL (limT O) L) : ∃ K, ∀ k, K ≤ k → okL (envN O k).callT L := by
 induction L with
 | nil => exact ⟨0, fun _ _ q hq => by cases hq⟩
 | cons x L ih =>
  obtain ⟨K1, h1⟩ := limT_iff.1 (h x (by simp))
  obtain ⟨K2, h2⟩ := ih (fun q hq => h q (by simp [hq]))
  refine ⟨max K1 K2, fun k hk q hq => ?_⟩
  rcases List.mem_cons.1 hq with rfl | hq
  ·exact (envN_le O (by omega)).1 _ _ _ h1
  ·exact h2 k (by omega) q hq
theorem lim_listI {L : List (FuncId × List S × Heap × S × Heap)} (h : okM (limI O) L) : ∃ K, ∀ k, K ≤ k → okM (envN O k).callI L := by
 induction L with
 | nil => exact ⟨0, fun _ _ q hq => by cases hq⟩
 | cons x L ih =>
  obtain ⟨K1, h1⟩ := limI_iff.1 (h x (by simp))
  obtain ⟨K2, h2⟩ := ih (fun q hq => h q (by simp [hq]))
  refine ⟨max K1 K2, fun k hk q hq => ?_⟩
  rcases List.mem_cons.1 hq with rfl | hq
  ·exact (envN_le O (by omega)).2 _ _ _ _ h1
  ·exact h2 k (by omega) q hq
theorem W_body {gc : Bool} {k : Nat} {f : FuncId} {args : List S} {h : Heap} {y : S × Heap} (hx : runBody (W O) gc k f args h = some y) : ∃ n, runBody (envN O n) gc n f args h = some y := by
 obtain ⟨L, M, a, b, c⟩ := runBody_supp hx
 obtain ⟨K1, h1⟩ := lim_list a
 obtain ⟨K2, h2⟩ := lim_listI b
 refine ⟨max k (max K1 K2), ?_⟩
 rw [envN_eq]
 exact c _ _ _ (h1 _ (by omega)) (h2 _ (by omega)) (by omega)
theorem W_call {k : Nat} {f : FuncId} {args : List S} {r r' : S} {h : Heap} {l : List Nat} (hf : O.fns f = true) (he : O.ext f = none) (hx : runBody (W O) true k f args .empty = some (r, h)) (hc : closeS h.get depthS r = some (r', l)) : (W O).callT f args = some (normF O.P f r') := by
 obtain ⟨n, hn⟩ := W_body hx
 refine limT_iff.2 ⟨n + 1, ?_⟩
 rw [envN_callT, he, hf]
 simp only [cond_true, hn, hc, Option.map_some]
theorem W_ext {f : FuncId} {F : List S → Option S} (he : O.ext f = some F) {args : List S} {r : S} (h : F args = some r) : (W O).callT f args = some r :=
 limT_iff.2 ⟨1, by rw [envN_callT, he]; exact h⟩
theorem W_of {k : Nat} {f : FuncId} {args : List S} {r : S} (h : (envN O k).callT f args = some r) : (W O).callT f args = some r := limT_iff.2 ⟨k, h⟩
theorem W_more {gc : Bool} {k : Nat} {f : FuncId} {args : List S} {h : Heap} {y : S × Heap} {t : CT} {i : CI} (ht : ∀ f a r, t f a = some r → (W O).callT f a = some r) (hi : ∀ f a h r, i f a h = some r → (W O).callI f a h = some r)
  (hx : runBody (mk O.P O.K O.fnOk O.inl O.live O.ov t i) gc k f args h = some y) : runBody (W O) gc k f args h = some y := by
 obtain ⟨L, M, a, b, c⟩ := runBody_supp hx
 exact c _ _ _ (fun q hq => ht _ _ _ (a q hq)) (fun q hq => hi _ _ _ _ (b q hq)) (Nat.le_refl k)
end
section
variable {ρ : Type}
theorem bind_cond {α : Type} (c : Bool) (x y : Option α) (K : α → Option ρ) : (bif c then x else y).bind K = bif c then x.bind K else y.bind K := by cases c <;> rfl
def wantK (ops : Array Oper) (fr : Fr) (o : Oper) (K : Bool → Fr → Option ρ) : Option ρ :=
 match o.guard with
 | none => K true fr
 | some (j, want) => match (ops[j]?).bind (·.dst) with
  | some d => match fr.get d with
   | some (.t (.v (.bool b))) => bif b then K want (fr.set d (some (sv (.bool true)))) else K (!want) (fr.set d (some (sv (.bool false))))
   | some (.t (.v _)) => K false fr
   | some .ud => K false fr
   | _ => none
  | none => none
theorem wantK_eq (ops : Array Oper) (fr : Fr) (o : Oper) (K : Bool → Fr → Option ρ) : wantK ops fr o K = (wantedS ops fr o).bind fun p => K p.1 p.2 := by
 unfold wantK wantedS
 cases o.guard with
 | none => rfl
 | some q =>
  obtain ⟨j, want⟩ := q
  dsimp only
  cases (ops[j]?).bind (·.dst) with
  | none => rfl
  | some d =>
   dsimp only
   cases fr.get d with
   | none => rfl
   | some s =>
    cases s with
    | t x =>
     cases x with
     | v y => cases y <;> first | rfl | (rename_i b; cases b <;> rfl)
     | rows => rfl
    | _ => rfl
def elemK (n : Nat) (get : Fin n → List T) (i : Int) (K : S → Option ρ) : Option ρ :=
 if h : 0 ≤ i ∧ i.toNat < n then K (.pt (get ⟨i.toNat, h.2⟩)) else none
theorem elemK_eq (n : Nat) (get : Fin n → List T) (i : Int) (K : S → Option ρ) : elemK n get i K = (elemS n get i).bind K := by
 unfold elemK elemS
 split <;> rfl
def binK (P : Program) (KT : TypeId → Option (List Nat)) (lit : Bool) (op : BinOp) (t : TypeId) (x y : S) (K : S → Option ρ) : Option ρ :=
 match op, x, y with
 | .quo, .t (.v (.int k a)), .t (.v (.int k' b)) => bif decide (k = k') then (bif decide (b = 0) then none else K (sv (.int k (k.wrap (a.tdiv b))))) else none
 | .rem, .t (.v (.int k a)), .t (.v (.int k' b)) => bif decide (k = k') then (bif decide (b = 0) then none else K (sv (.int k (a.tmod b)))) else none
 | .add, .t (.v (.string a)), .t (.v (.string b)) => bif decide (a.size + b.size ≤ strMax) then K (sv (.string (a ++ b))) else none
 | op, x, y => (binS P KT lit op t x y).bind K
theorem binK_eq (P : Program) (KT : TypeId → Option (List Nat)) (lit : Bool) (op : BinOp) (t : TypeId) (x y : S) (K : S → Option ρ) : binK P KT lit op t x y K = (binS P KT lit op t x y).bind K := by
 have two : ∀ (a b : Bool) (s : S), (bif a then (bif b then none else K s) else none) = (bif a then (bif b then none else some s) else none).bind K := fun a b s => by cases a <;> cases b <;> rfl
 unfold binK
 split
 ·rename_i k a k' b
  show _ = (Option.map sv (bif decide (k = k') then (bif decide (b = 0) then none else some (.int k (k.wrap (a.tdiv b)))) else none)).bind K
  rw [two]
  cases decide (k = k') <;> cases decide (b = 0) <;> rfl
 ·rename_i k a k' b
  show _ = (Option.map sv (bif decide (k = k') then (bif decide (b = 0) then none else some (.int k (a.tmod b))) else none)).bind K
  rw [two]
  cases decide (k = k') <;> cases decide (b = 0) <;> rfl
 ·rename_i a b
  show _ = (Option.map sv (bif decide (a.size + b.size ≤ strMax) then some (.string (a ++ b)) else none)).bind K
  cases decide (a.size + b.size ≤ strMax) <;> rfl
 ·rfl
def idxK (P : Program) (t : TypeId) (x ix : S) (K : S → Option ρ) : Option ρ :=
 match P.underlying t, x, intOfS ix with
  | some (.slice e), .t (.rows sz n get), some i => bif sz.beq (P.cellsOf e) && (P.info? e).isSome then elemK n get i K else none
  | some (.slice e), .full sz n get, some i => bif sz.beq (P.cellsOf e) && (P.info? e).isSome then elemK n get i K else none
  | some (.slice e), .sl b n, some i => bif (P.info? e).isSome then (bif decide (0 ≤ i) && decide (i < n) then K (.ep b (P.cellsOf e) i.toNat 0) else none) else none
  | some (.array n e), .ptr b o, some i => bif (P.info? e).isSome then (bif decide (0 ≤ i) && decide (i < n) then K (.ptr b (o + i.toNat * P.cellsOf e)) else none) else none
  | some (.array n e), .pt cs, some i => bif (P.info? e).isSome then (bif decide (0 ≤ i) && decide (i < n) then K (.pt (cs.drop (i.toNat * P.cellsOf e))) else none) else none
  | some (.array n e), .ep b z j o, some i => bif (P.info? e).isSome then (bif decide (0 ≤ i) && decide (i < n) then K (.ep b z j (o + i.toNat * P.cellsOf e)) else none) else none
  | _, _, _ => none
theorem idxK_eq (P : Program) (KT : TypeId → Option (List Nat)) (fr : Fr) (t : TypeId) (x ix : Operand) (K : S → Option ρ) : idxK P t (ev fr x) (ev fr ix) K = (pureOp P KT fr (.indexAddr t x ix)).bind K := by
 unfold idxK
 simp only [pureOp]
 have two : ∀ (a b c : Bool) (s : S), (bif a then (bif b && c then K s else none) else none) = (bif a && b && c then some s else none).bind K := fun a b c s => by cases a <;> cases b <;> cases c <;> rfl
 cases P.underlying t with
 | none => rfl
 | some d =>
  cases d with
  | slice e =>
   cases ev fr x with
   | t y =>
    cases y with
    | v => rfl
    | rows sz n get =>
     cases intOfS (ev fr ix) with
     | none => rfl
     | some i => simp only [bind_cond, elemK_eq]; rfl
   | full sz n get =>
    cases intOfS (ev fr ix) with
    | none => rfl
    | some i => simp only [bind_cond, elemK_eq]; rfl
   | sl b n =>
    cases intOfS (ev fr ix) with
    | none => rfl
    | some i => exact two _ _ _ _
   | _ => rfl
  | array m e =>
   cases ev fr x with
   | ptr b o =>
    cases intOfS (ev fr ix) with
    | none => rfl
    | some i => exact two _ _ _ _
   | pt cs =>
    cases intOfS (ev fr ix) with
    | none => rfl
    | some i => exact two _ _ _ _
   | ep b z j o =>
    cases intOfS (ev fr ix) with
    | none => rfl
    | some i => exact two _ _ _ _
   | _ => rfl
  | _ => rfl
def atK (P : Program) (t : TypeId) (x ix : S) (K : S → Option ρ) : Option ρ :=
 match P.underlying t, x, intOfS ix with
  | some (.array n e), .agg cs, some i => bif decide (0 ≤ i) && decide (i < n) then ((valS P e (cs.drop (i.toNat * P.cellsOf e))).bind K) else none
  | some .string, .t (.v (.string s)), some i => if h : 0 ≤ i ∧ i.toNat < s.size then K (sv (.int .u8 (s[i.toNat]'h.2).toNat)) else none
  | _, _, _ => none
theorem atK_eq (P : Program) (KT : TypeId → Option (List Nat)) (fr : Fr) (t : TypeId) (x ix : Operand) (K : S → Option ρ) : atK P t (ev fr x) (ev fr ix) K = (pureOp P KT fr (.index t x ix)).bind K := by
 unfold atK
 simp only [pureOp]
 cases P.underlying t with
 | none => rfl
 | some d =>
  cases d with
  | array m e =>
   cases ev fr x with
   | agg cs =>
    cases intOfS (ev fr ix) with
    | none => rfl
    | some i => simp only [bind_cond]; rfl
   | _ => rfl
  | string =>
   cases ev fr x with
   | t y =>
    cases y with
    | v z =>
     cases z with
     | string s =>
      cases intOfS (ev fr ix) with
      | none => rfl
      | some i => dsimp only; split <;> rfl
     | _ => rfl
    | rows => rfl
   | _ => rfl
  | _ => rfl
def cutK (n : Nat) (lo hi mx : Option Int) (K : Nat → Nat → Bool → Option ρ) : Option ρ :=
 bif decide (0 ≤ lo.getD 0) && decide (lo.getD 0 ≤ hi.getD n) && decide (hi.getD n ≤ n) then
  (match mx with
   | none => K (lo.getD 0).toNat ((hi.getD n).toNat - (lo.getD 0).toNat) false
   | some m => bif decide (m = hi.getD n) && hi.isSome then K (lo.getD 0).toNat ((hi.getD n).toNat - (lo.getD 0).toNat) true else none)
 else none
theorem cutK_eq (n : Nat) (lo hi mx : Option Int) (K : Nat → Nat → Bool → Option ρ) : cutK n lo hi mx K = (cutS n lo hi mx).bind fun p => K p.1 p.2.1 p.2.2 := by
 unfold cutK cutS
 simp only
 rw [bind_cond]
 congr 1
 split
 ·rfl
 ·rw [bind_cond]; rfl
def sliceK (P : Program) (t : TypeId) (x : S) (lo hi mx : Option Int) (K : S → Option ρ) : Option ρ :=
 match P.underlying t, x with
 | some .string, .t (.v (.string s)) =>
  (match mx with
   | none => bif decide (0 ≤ lo.getD 0) && decide (lo.getD 0 ≤ hi.getD s.size) && decide (hi.getD s.size ≤ s.size) then K (sv (.string (s.extract (lo.getD 0).toNat (hi.getD s.size).toNat))) else none
   | _ => none)
 | some (.slice e), .t (.rows sz n get) => bif !(sz.beq (P.cellsOf e)) || !(P.info? e).isSome then none else
  cutK n lo hi mx fun l m f => if h : l + m ≤ n then K (bif f then .full sz m (subGet get l m h) else .t (.rows sz m (subGet get l m h))) else none
 | some (.slice e), .full sz n get => bif !(sz.beq (P.cellsOf e)) || !(P.info? e).isSome then none else
  cutK n lo hi mx fun l m f => if h : l + m ≤ n then K (bif f then .full sz m (subGet get l m h) else .t (.rows sz m (subGet get l m h))) else none
 | _, _ => (sliceS P t x lo hi mx).bind K
theorem sliceK_eq (P : Program) (t : TypeId) (x : S) (lo hi mx : Option Int) (K : S → Option ρ) : sliceK P t x lo hi mx K = (sliceS P t x lo hi mx).bind K := by
 have cutR : ∀ (c : Bool) (n sz : Nat) (get : Fin n → List T), (bif c then none else cutK n lo hi mx fun l m f => if h : l + m ≤ n then K (bif f then .full sz m (subGet get l m h) else .t (.rows sz m (subGet get l m h))) else none) =
   (bif c then none else (match cutS n lo hi mx with
    | some (l, m, f) => if h : l + m ≤ n then some (bif f then S.full sz m (subGet get l m h) else .t (.rows sz m (subGet get l m h))) else none
    | none => none)).bind K := fun c n sz get => by
  rw [bind_cond, cutK_eq]
  congr 1
  cases cutS n lo hi mx with
  | none => rfl
  | some p =>
   obtain ⟨l, m, f⟩ := p
   simp only [Option.bind_some]
   split <;> rfl
 unfold sliceK
 cases hu : P.underlying t with
 | none => rfl
 | some d =>
  cases d with
  | string =>
   cases x with
   | t y =>
    cases y with
    | v z =>
     cases z with
     | string s =>
      simp only [sliceS, hu]
      cases mx with
      | none => simp only [bind_cond]; rfl
      | some _ => rfl
     | _ => rfl
    | rows => rfl
   | _ => rfl
  | slice e =>
   cases x with
   | t y =>
    cases y with
    | v => rfl
    | rows sz n get => simp only [sliceS, hu]; exact cutR _ _ _ _
   | full sz n get => simp only [sliceS, hu]; exact cutR _ _ _ _
   | _ => rfl
  | _ => rfl
def loadK (P : Program) (get : Nat → Option B) (t : TypeId) (x : S) (K : S → Option ρ) : Option ρ :=
 match x with
 | .ep b z i o => match get b with
  | some (.row _ sz n g) => if h : i < n then (bif z.beq sz && (o + P.cellsOf t).ble sz then ((valS P t (((g ⟨i, h⟩).drop o).map .t)).bind K) else none) else none
  | some (.lst _ sz n cs) => bif z.beq sz && (o + P.cellsOf t).ble sz then (bif decide (i < n) then ((valS P t (cs.drop (i * sz + o))).bind K) else none) else none
  | _ => none
 | x => (loadS P get t x).bind K
theorem loadK_eq (P : Program) (get : Nat → Option B) (t : TypeId) (x : S) (K : S → Option ρ) : loadK P get t x K = (loadS P get t x).bind K := by
 unfold loadK
 cases x with
 | ep b z i o =>
  simp only [loadS]
  cases get b with
  | none => rfl
  | some y =>
   cases y with
   | row f sz n g =>
    by_cases h : i < n
    ·simp only [dif_pos h, bind_cond]; rfl
    ·simp only [dif_neg h]; rfl
   | lst f sz n cs =>
    dsimp only
    cases z.beq sz <;> cases decide (i < n) <;> cases (o + P.cellsOf t).ble sz <;> rfl
   | _ => rfl
 | _ => rfl
def convK (P : Program) (get : Nat → Option B) (a b : TypeId) (x : S) (K : S → Option ρ) : Option ρ :=
 match P.underlying a, P.underlying b, x with
 | some .string, some (.slice e), .t (.v (.string s)) => (match P.underlying e with
  | some (.int .u8) => bif s.size.ble strMax then K (rowOfStr s) else none
  | _ => none)
 | _, _, x => (convR P get a b x).bind K
theorem convK_eq (P : Program) (get : Nat → Option B) (a b : TypeId) (x : S) (K : S → Option ρ) : convK P get a b x K = (convR P get a b x).bind K := by
 unfold convK
 split
 ·rename_i e s h1 h2
  simp only [convR, convS, h1, h2]
  cases P.underlying e with
  | none => rfl
  | some d =>
   cases d with
   | int k => cases k <;> first | rfl | (dsimp only; rw [bind_cond]; rfl)
   | _ => rfl
 ·rfl
def appendK (P : Program) (h : Heap) (id : Nat) (e : TypeId) (x y : S) (K : S → Heap → Option ρ) : Option ρ :=
 bif !elemOk P e then none else
 match sourceS h.get (P.cellsOf e) y with
 | none => none
 | some ⟨m, g', l⟩ =>
  match x with
  | .t (.v (.slice none 0 0)) => bif (m * P.bytesOf e).ble roomMax && m.ble roomMax then K (.sl id m) ((h.freeze l).put id (.row false (P.cellsOf e) m g')) else none
  | .full sz n g => bif sz.beq (P.cellsOf e) then (bif ((n + m) * P.bytesOf e).ble roomMax && (n + m).ble roomMax then (bif m.beq 0 then K (.full sz n g) (h.freeze l) else K (.sl id (n + m)) ((h.freeze l).put id (.row false (P.cellsOf e) (n + m) (appGet g g')))) else none) else none
  | .sl b _ => match destS (h.freeze l).get (P.cellsOf e) b with
   | some ⟨n, g, l'⟩ => bif ((n + m) * P.bytesOf e).ble roomMax && (n + m).ble roomMax then K (.sl id (n + m)) ((((h.freeze l).freeze l').del b).put id (.row false (P.cellsOf e) (n + m) (appGet g g'))) else none
   | none => none
  | _ => none
theorem appendK_eq (P : Program) (h : Heap) (id : Nat) (e : TypeId) (x y : S) (K : S → Heap → Option ρ) : appendK P h id e x y K = (appendS P h id e x y).bind fun p => K p.1 p.2 := by
 unfold appendK appendS
 rw [bind_cond]
 congr 1
 cases sourceS h.get (P.cellsOf e) y with
 | none => rfl
 | some q =>
  obtain ⟨m, g', l⟩ := q
  dsimp only
  split
  ·cases (m * P.bytesOf e).ble roomMax && m.ble roomMax <;> rfl
  ·rename_i sz n g
   dsimp only
   cases sz.beq (P.cellsOf e) <;> cases ((n + m) * P.bytesOf e).ble roomMax <;> cases (n + m).ble roomMax <;> first | rfl | (simp only [cond_true, Bool.and_self]; rw [bind_cond]; rfl)
  ·dsimp only
   cases destS (h.freeze l).get (P.cellsOf e) _ with
   | none => rfl
   | some q =>
    obtain ⟨n, g, l'⟩ := q
    dsimp only
    rw [bind_cond]; rfl
  ·rename_i h1 h2 h3
   split <;> first | rfl | (exact absurd rfl h1) | (exact absurd rfl (h2 _ _ _)) | (exact absurd rfl (h3 _ _))
abbrev CK (ρ : Type) := FuncId → List S → (S → Option ρ) → Option ρ
def CKOk (E : Env) (ck : CK ρ) : Prop := ∀ f a K, ck f a K = (E.callT f a).bind K
def quietK (ck : CK ρ) (get : Nat → Option B) (f : FuncId) (args : List S) (K : S → List Nat → Option ρ) : Option ρ :=
 match closeL get depthS args with
 | some (args', l) => ck f args' fun r => bif flatS depthS r then K r [] else bif l.all (rowAt get) then (bif mapFlat r && l.all (noMap get) then K r [] else K r l) else none
 | none => none
theorem quietK_eq {E : Env} {ck : CK ρ} (hk : CKOk E ck) (get : Nat → Option B) (f : FuncId) (args : List S) (K : S → List Nat → Option ρ) : quietK ck get f args K = (quietCall E get f args).bind fun p => K p.1 p.2 := by
 unfold quietK quietCall
 cases closeL get depthS args with
 | none => rfl
 | some q =>
  obtain ⟨args', l⟩ := q
  dsimp only
  rw [hk]
  cases E.callT f args' with
  | none => rfl
  | some r =>
   simp only [Option.bind_some]
   rw [bind_cond, bind_cond, bind_cond]; rfl
def callK (E : Env) (ck : CK ρ) (ro : Bool) (get : Nat → Option B) (h : Heap) (g : FuncId) (az : List S) (K : S → Heap → Option ρ) : Option ρ :=
 bif ro then (bif !E.fnOk g || E.inl g then none else quietK ck get g az fun r l => match l with | [] => K r h | _ => none)
 else bif !E.fnOk g then none else bif E.inl g then (E.callI g az h).bind fun p => K p.1 p.2 else quietK ck h.get g az fun r l => K r (h.freeze l)
def stepK (E : Env) (ck : CK ρ) (dr : Bool) (get : Nat → Option B) (id : Nat) (fr : Fr) (h : Heap) (op : Op) (K : S → Heap → Option ρ) : Option ρ :=
 match op with
 | .indexAddr t x ix => idxK E.P t (ev fr x) (ev fr ix) fun s => K s h
 | .index t x ix => atK E.P t (ev fr x) (ev fr ix) fun s => K s h
 | .slice t x lo hi mx => (optInt fr lo).bind fun lo => (optInt fr hi).bind fun hi => (optInt fr mx).bind fun mx => sliceK E.P t (ev fr x) lo hi mx fun s => K s h
 | .binOp op t x y _ => binK E.P E.K (isConst x || isConst y) op t (ev fr x) (ev fr y) fun s => K s h
 | .load t a => loadK E.P (bif dr then get else h.get) t (ev fr a) fun s => K s h
 | .convert a b x => convK E.P (bif dr then get else h.get) a b (ev fr x) fun s => K s h
 | .call { callee := .builtin .append, args, argTypes } => (match args.toList.map (ev fr), argTypes.toList with
  | [x, y], [t, u] => match E.P.underlying t, E.P.underlying u with
   | some (.slice e), some (.slice _) => appendK E.P h id e x y K
   | _, _ => none
  | _, _ => none)
 | .call { callee := .value f, args, .. } => (match calleeS fr f (args.toList.map (ev fr)) with
  | some (g, az) => callK E ck (match f with | .func f => !E.inl f && dr | _ => false) get h g az K
  | none => none)
 | op => (stepOp E dr get id fr h op).bind fun p => K p.1 p.2
theorem mapb {α β : Type} (o : Option α) (g : α → β) (K : β → Option ρ) : (o.map g).bind K = o.bind fun a => K (g a) := by cases o <;> rfl
theorem callK_eq {E : Env} {ck : CK ρ} (hk : CKOk E ck) {ro : Bool} {get : Nat → Option B} {h : Heap} {g : FuncId} {az : List S} {K : S → Heap → Option ρ} :
  callK E ck ro get h g az K = (bif ro then ((bif !E.fnOk g || E.inl g then none else (match quietCall E get g az with | some (r, []) => some r | _ => none)) : Option S).map (fun s => (s, h)) else
   (bif !E.fnOk g then none else bif E.inl g then E.callI g az h else (match quietCall E h.get g az with | some (r, l) => some (r, h.freeze l) | none => none))).bind fun p => K p.1 p.2 := by
 unfold callK
 cases ro with
 | true =>
  simp only [cond_true]
  rw [mapb, bind_cond, quietK_eq hk]
  congr 1
  cases quietCall E get g az with
  | none => rfl
  | some p => obtain ⟨r, l⟩ := p; cases l <;> rfl
 | false =>
  simp only [cond_false]
  rw [bind_cond, bind_cond, quietK_eq hk]
  congr 2
  cases quietCall E h.get g az <;> rfl
theorem stepK_eq {E : Env} {ck : CK ρ} (hk : CKOk E ck) (dr : Bool) (get : Nat → Option B) (id : Nat) (fr : Fr) (h : Heap) (op : Op) (K : S → Heap → Option ρ) : stepK E ck dr get id fr h op K = (stepOp E dr get id fr h op).bind fun p => K p.1 p.2 := by
 cases op with
 | indexAddr t x ix => simp only [stepK, stepOp, clsOf, isCallO, idxK_eq E.P E.K, mapb]
 | index t x ix => simp only [stepK, stepOp, clsOf, isCallO, atK_eq E.P E.K, mapb]
 | slice t x lo hi mx =>
  simp only [stepK, stepOp, clsOf, isCallO, pureOp, mapb, sliceK_eq]
  cases optInt fr lo with
  | none => rfl
  | some lo =>
   cases optInt fr hi with
   | none => rfl
   | some hi =>
    cases optInt fr mx with
    | none => rfl
    | some mx => rfl
 | binOp o t x y yt => simp only [stepK, stepOp, clsOf, isCallO, pureOp, binK_eq, mapb]
 | load t x => cases dr <;> simp only [stepK, stepOp, clsOf, isCallO, readOp, loadK_eq, mapb, cond_true, cond_false]
 | convert a b x => cases dr <;> simp only [stepK, stepOp, clsOf, isCallO, readOp, convK_eq, mapb, cond_true, cond_false]
 | call c =>
  obtain ⟨callee, args, argTypes⟩ := c
  cases callee with
  | builtin b =>
   cases b <;> first | rfl | skip
   simp only [stepK, stepOp, clsOf, isCallO, writeOp]
   generalize args.toList.map (ev fr) = az
   generalize argTypes.toList = ts
   rcases az with _ | ⟨x, _ | ⟨y, _ | ⟨z, r⟩⟩⟩ <;> rcases ts with _ | ⟨t, _ | ⟨u, _ | ⟨v, r'⟩⟩⟩ <;> first | rfl | skip
   dsimp only
   cases E.P.underlying t with
   | none => rfl
   | some d =>
    cases d with
    | slice e =>
     cases E.P.underlying u with
     | none => rfl
     | some d' => cases d' <;> first | rfl | exact appendK_eq _ _ _ _ _ _ _
    | _ => rfl
  | invoke r m => rfl
  | value f =>
   simp only [stepK]
   cases f with
   | func f =>
    simp only [stepOp, clsOf, isCallO]
    cases hi : E.inl f with
    | true =>
     simp only [cond_true, writeOp, Bool.not_true, Bool.false_and]
     cases calleeS fr (.func f) (args.toList.map (ev fr)) with
     | none => rfl
     | some q => obtain ⟨g, az⟩ := q; dsimp only; rw [callK_eq hk]; rfl
    | false =>
     simp only [cond_false, Bool.not_false, Bool.true_and]
     cases dr with
     | true =>
      simp only [cond_true, readOp]
      cases calleeS fr (.func f) (args.toList.map (ev fr)) with
      | none => rfl
      | some q => obtain ⟨g, az⟩ := q; dsimp only; rw [callK_eq hk]; rfl
     | false =>
      simp only [cond_false, writeOp]
      cases calleeS fr (.func f) (args.toList.map (ev fr)) with
      | none => rfl
      | some q => obtain ⟨g, az⟩ := q; dsimp only; rw [callK_eq hk]; rfl
   | _ =>
    simp only [stepOp, clsOf, isCallO, writeOp]
    cases calleeS fr _ (args.toList.map (ev fr)) with
    | none => rfl
    | some q => obtain ⟨g, az⟩ := q; dsimp only; rw [callK_eq hk]; rfl
 | _ => rfl
end
def addI (k : IntKind) (a b : Int) : Int := k.wrap (a + b)
def subI (k : IntKind) (a b : Int) : Int := k.wrap (a - b)
def mulI (k : IntKind) (a b : Int) : Int := k.wrap (a * b)
def quoI (k : IntKind) (a b : Int) : Int := k.wrap (a.tdiv b)
def remI (a b : Int) : Int := a.tmod b
def wrapI (k : IntKind) (a : Int) : Int := k.wrap a
def eqI (a b : Int) : Bool := decide (a = b)
def ltI (a b : Int) : Bool := decide (a < b)
def leI (a b : Int) : Bool := decide (a ≤ b)
def gtI (a b : Int) : Bool := decide (a > b)
def geI (a b : Int) : Bool := decide (a ≥ b)
def eqB (a b : Bool) : Bool := a == b
def fitS (a b : ByteArray) : Bool := decide (a.size + b.size ≤ strMax)
def catS (a b : ByteArray) : ByteArray := a ++ b
def ofN (n : Nat) : Int := (n : Int)
def sizeS (s : ByteArray) : Int := (s.size : Int)
def elemO {ρ : Type} (i : Int) (n : Nat) (K : i.toNat < n → Option ρ) : Option ρ := if h : 0 ≤ i ∧ i.toNat < n then K h.2 else none
def byteO {ρ : Type} (i : Int) (s : ByteArray) (K : Int → Option ρ) : Option ρ := if h : 0 ≤ i ∧ i.toNat < s.size then K ((s[i.toNat]'h.2).toNat : Int) else none
def bs (l : List Nat) : ByteArray := ⟨(l.map UInt8.ofNat).toArray⟩
def toN (i : Int) : Nat := i.toNat
def subN (a b : Nat) : Nat := a - b
def addN (a b : Nat) : Nat := a + b
def fitsR (n b : Nat) : Bool := (n * b).ble roomMax && n.ble roomMax
def sizeN (s : ByteArray) : Nat := s.size
def roomS (s : ByteArray) : Bool := s.size.ble strMax
def byteAt (s : ByteArray) (i : Fin (sizeN s)) : Int := ((s[i.1]'i.2).toNat : Int)
def extS (s : ByteArray) (a b : Nat) : ByteArray := s.extract a b
def bytesS (ks : List Int) : ByteArray := ofBytes ks
def subO {ρ : Type} (l m n : Nat) (K : l + m ≤ n → Option ρ) : Option ρ := if h : l + m ≤ n then K h else none
structure Rw0 where
 n : Nat
 g : Fin n → List T
structure Y where
 i : Nat → Int
 b : Nat → Bool
 s : Nat → ByteArray
 r : Nat → Rw0
 m : Nat → List (S × S)
mutual
def build (y : Y) : Sh → S
 | .int k j => .t (.v (.int k (y.i j)))
 | .bool j => .t (.v (.bool (y.b j)))
 | .str j => .t (.v (.string (y.s j)))
 | .rows sz j => .t (.rows sz (y.r j).n (y.r j).g)
 | .mt j => .mt (y.m j)
 | .agg l => .agg (buildL y l)
 | .tup l => .tup (buildL y l)
def buildL (y : Y) : List Sh → List S
 | [] => []
 | s :: r => build y s :: buildL y r
end
abbrev YF := FuncId → List S → Option Y
def yC {ρ : Type} (q : YF) (f : FuncId) (args : List S) (K : Y → Option ρ) : Option ρ := (q f args).bind K
def orc {ρ : Type} (P : Program) (q : YF) : CK ρ := fun f args K => match shF P f with
 | some sh => yC q f args fun y => K (build y sh)
 | none => none
def orcT (P : Program) (q : YF) : CT := fun f args => match shF P f with
 | some sh => (q f args).map fun y => build y sh
 | none => none
theorem orc_ok {ρ : Type} {P : Program} {q : YF} {E : Env} (hE : E.callT = orcT P q) : CKOk E (orc (ρ := ρ) P q) := fun f a K => by
 rw [hE]
 unfold orc orcT yC
 cases shF P f with
 | none => rfl
 | some sh => dsimp only; rw [mapb]
noncomputable def regs (O : Opts) : YF := fun f a => open Classical in
 match shF O.P f, (W O).callT f a with
 | some sh, some r => if h : ∃ y, build y sh = r then some h.choose else none
 | _, _ => none
theorem regs_of {O : Opts} {f : FuncId} {a : List S} {y : Y} (h : regs O f a = some y) : ∃ sh, shF O.P f = some sh ∧ (W O).callT f a = some (build y sh) := by
 unfold regs at h
 split at h
 ·rename_i sh r h1 h2
  split at h
  ·rename_i hx
   obtain rfl := Option.some.inj h
   exact ⟨sh, h1, by rw [h2, hx.choose_spec]⟩
  ·cases h
 ·cases h
theorem regs_some {O : Opts} {f : FuncId} {a : List S} {sh : Sh} {y : Y} (hs : shF O.P f = some sh) (h : (W O).callT f a = some (build y sh)) : ∃ y', regs O f a = some y' ∧ build y' sh = build y sh := by
 unfold regs
 rw [hs, h]
 have hx : ∃ y', build y' sh = build y sh := ⟨y, rfl⟩
 dsimp only
 rw [dif_pos hx]
 exact ⟨_, rfl, hx.choose_spec⟩
theorem orcT_le {O : Opts} : ∀ f a r, orcT O.P (regs O) f a = some r → (W O).callT f a = some r := fun f a r h => by
 unfold orcT at h
 split at h
 ·rename_i sh hs
  obtain ⟨y, hy, rfl⟩ := Option.map_eq_some_iff.1 h
  obtain ⟨sh', h1, h2⟩ := regs_of hy
  rw [hs] at h1
  obtain rfl := Option.some.inj h1
  exact h2
 ·cases h
noncomputable def unb (sh : Sh) (v : S) : Option Y := open Classical in if h : ∃ y, build y sh = v then some h.choose else none
theorem unb_some {sh : Sh} {v : S} {y : Y} (h : unb sh v = some y) : build y sh = v := by
 unfold unb at h
 split at h
 ·rename_i hx
  obtain rfl := Option.some.inj h
  exact hx.choose_spec
 ·cases h
theorem unb_build {sh : Sh} {y : Y} : ∃ y', unb sh (build y sh) = some y' ∧ build y' sh = build y sh := by
 have hx : ∃ y', build y' sh = build y sh := ⟨y, rfl⟩
 exact ⟨hx.choose, by unfold unb; rw [dif_pos hx], hx.choose_spec⟩
noncomputable def lookW {ρ : Type} (P : Program) (KT : TypeId → Option (List Nat)) (kt et : TypeId) (es : List (S × S)) (k : S) (Kt : Y → Option ρ) (Kf : Option ρ) : Option ρ :=
 match shV P et 0, findS P KT kt k es 0 with
 | some (sh, _), some (some (_, v)) => (unb sh v).bind Kt
 | _, some none => Kf
 | _, _ => none
def updW {ρ : Type} (P : Program) (KT : TypeId → Option (List Nat)) (kt : TypeId) (es : List (S × S)) (k v : S) (K : List (S × S) → Option ρ) : Option ρ :=
 match findS P KT kt k es 0 with
 | some (some (i, _)) => K (setE es i k v)
 | some none => K (es ++ [(k, v)])
 | none => none
noncomputable def cellsW {ρ : Type} (P : Program) (t : TypeId) (cs : List T) (K : Y → Option ρ) : Option ρ := match shV P t 0 with
 | some (sh, _) => ((valS P t (cs.map .t)).bind (unb sh)).bind K
 | none => none
def elemN {ρ : Type} (i n : Nat) (K : i < n → Option ρ) : Option ρ := if h : i < n then K h else none
structure FlatE (d : Nat) (es : List (S × S)) : Prop where
 close : ∀ get, closeE get d es = some (es, [])
 refs : refsE es = []
 ren : ∀ m, renE m es = some es
def matW {ρ : Type} (es : List (S × S)) (K : Option ρ) : Option ρ := if mapFlat (.mt es) = true then K else none
noncomputable def flatW {ρ : Type} (d : Nat) (es : List (S × S)) (K : Option ρ) : Option ρ := open Classical in if FlatE d es then K else none
def lenE (es : List (S × S)) : Nat := es.length
noncomputable def EY (O : Opts) (q : YF) : Env := mk O.P O.K O.fnOk O.inl O.live O.ov (orcT O.P q) (limI O)
def topK (P : Program) (f : FuncId) (r : S) (h : Heap) : Option S := (closeS h.get depthS r).map fun p => normF P f p.1
theorem W_run {O : Opts} {f : FuncId} (hfns : O.fns f = true) (hext : O.ext f = none) {k : Nat} {args : List S} {r : S} {p : S × Heap}
  (h1 : runBody (EY O (regs O)) true k f args .empty = some p) (h2 : topK O.P f p.1 p.2 = some r) : (W O).callT f args = some r := by
 obtain ⟨r0, hp⟩ := p
 have h1 : runBody (mk O.P O.K O.fnOk O.inl O.live O.ov (orcT O.P (regs O)) (limI O)) true k f args .empty = some (r0, hp) := h1
 obtain ⟨⟨r1, l⟩, h3, h4⟩ := Option.map_eq_some_iff.1 h2
 simp only at h4
 subst h4
 exact W_call hfns hext (W_more orcT_le (fun _ _ _ _ h => h) h1) h3
section
variable {ρ : Type}
def endK (E : Env) (fn : Func) (K : S → Heap → Option ρ) : Ex → St → Option ρ := fun ex st => match ex with
 | .exit _ => none
 | _ => (resS E.P st fn.results.toList).bind fun vs => K (resultS vs) st.h
def namesOk : List Nat → Bool
 | [] => true
 | x :: l => !l.contains x && namesOk l
end
end Go.Proofs.YtonkoellfaopiaaGreatDoor.H
