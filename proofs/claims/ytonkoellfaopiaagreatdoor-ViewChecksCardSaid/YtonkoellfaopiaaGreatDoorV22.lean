import Derived.Test.YtonkoellfaopiaaGreatDoorV21
set_option linter.unusedSimpArgs false
set_option linter.unusedVariables false
namespace Go.Proofs.YtonkoellfaopiaaGreatDoor.H
open Go
noncomputable section
def orE (a b : Int) : Int := bif !eqI a 0 then a else b
theorem firstE_or {n : Nat} {g : Nat → Int} {r : Int} : ((List.range n).findSome? fun j => bif !(eqI (g j) 0) then some (ii (g j)) else none).getD (ii r) = ii (orE (firstE n g) r) := by
 unfold firstE
 generalize List.range n = l
 induction l with
 | nil => rfl
 | cons j l ih =>
  simp only [List.findSome?_cons]
  cases h : eqI (g j) 0 with
  | false => simp [orE,h]
  | true => exact ih
theorem Ev.errsK {X : Nat → Nat → Option S} (n : Nat) (g : Nat → Int) (r : Int) (step : ∀ j,j < n → (g j ≠ 0 → Ev (fun m => X m j) (ii (g j))) ∧ (g j = 0 → ∀ v,Ev (fun m => X m (j + 1)) v → Ev (fun m => X m j) v))
  (stop : Ev (fun m => X m n) (ii r)) : Ev (fun m => X m 0) (ii (orE (firstE n g) r)) := by
 have := Ev.loopN (X := X) n (fun j => bif !(eqI (g j) 0) then some (ii (g j)) else none) (ii r) (fun j hj => by
  obtain ⟨h1,h2⟩ := step j hj
  cases h : eqI (g j) 0 with
  | true => exact ⟨fun e he => (by cases he),fun _ v hv => h2 (eqI_true.1 h) v hv⟩
  | false => exact ⟨fun e he => (by obtain rfl := Option.some.inj he; exact h1 (eqI_false.1 h)),fun hn => (by cases hn)⟩) stop
 rw [firstE_or] at this
 exact this
theorem Ev.errsKC {X : Nat → Nat → Option S} (c n : Nat) (g : Nat → Int) (r : Int) (step : ∀ m j,j < n → X (m + c) j = bif !(eqI (g j) 0) then some (ii (g j)) else X m (j + 1)) (stop : Ev (fun m => X m n) (ii r)) : Ev (fun m => X m 0) (ii (orE (firstE n g) r)) :=
 Ev.errsK n g r (fun j hj => ⟨fun h => Ev.one c fun m => by rw [step m j hj,eqI_ne h]; rfl,fun h v hv => Ev.by c (fun m => by rw [step m j hj,h]; rfl) hv⟩) stop
theorem firstL2 (a b : Int) : firstL [a,b] = orE a b := by
 unfold firstL firstL firstL orE
 cases h : eqI a 0 with
 | false => rfl
 | true =>
  cases h' : eqI b 0 with
  | false => rfl
  | true => rw [eqI_true.1 h']; rfl
def sm47 (a : D47) : Prop := sm (sizeN a.fType) ∧ sm (sizeN a.fZone) ∧ sm (sizeN a.fKind)
def eq47 (a b : D47) : Bool := strEq a.fType b.fType && (strEq a.fZone b.fZone && (strEq a.fKind b.fKind && true))
theorem eq47_comm {a b : D47} : eq47 a b = eq47 b a := by
 unfold eq47
 rw [strEq_comm (a := a.fType),strEq_comm (a := a.fZone),strEq_comm (a := a.fKind)]
theorem c188 (a : Rw D47) (b : D47) (ha : a.n < 2 ^ 62) : Ret 188 [S.t (T.rows 3 a.n fun i => e47 (a.get i)),ag (e47 b)] (ii (idx a.n fun j => eq47 b (a.at j))) := by
 have key := Ev.idxC (X := fun m j => (X188n (regs O) a b m).x0 (j : Int)) 1 a.n (fun j => eq47 b (a.at j)) (fun m j hj => by
  have hj2 : j < 2 ^ 62 := by omega
  simp only [X188n,X188s,b188_0,D188_0,ltI_nat,elemO_nat hj,get_nat,hj,decide_true,cond_true,addI_nat1 hj2,eq47]) (fun m => by
  simp only [X188n,X188s,b188_0,D188_0,ltI_nat,Nat.lt_irrefl,decide_false,cond_false]; rfl)
 obtain ⟨n,h⟩ := key.get
 exact W188 a b n _ h
theorem c155 (a : Rw D47) (b : D47) (ha : a.n < 2 ^ 62) : Ret 155 [S.t (T.rows 3 a.n fun i => e47 (a.get i)),ag (e47 b)] (bb ((List.range a.n).any fun j => eq47 b (a.at j))) := by
 obtain ⟨y,hy,hK⟩ := yC_int (by kernel_rfl) (c188 a b ha)
 exact W155 a b 0 _ (by simp only [e155_in,hK,hy,idx_ge])
def named47 (a : D47) : Bool := nameB a.fType && (nameB a.fZone && nameB a.fKind)
def offerV (a : Rw D47) (j : Nat) : Int := bif !named47 (a.at j) then 7 else bif (List.range j).any (fun i => eq47 (a.at j) (a.at i)) then 6 else 0
def offersV (a : Rw D47) : Int := bif decide (72 < a.n) then 3 else firstE a.n (offerV a)
theorem c114 (a : Rw D47) (ha : smR sm47 a) : Ret 114 [S.t (T.rows 3 a.n fun i => e47 (a.get i))] (ii (offersV a)) := by
 have hn := sm_lt ha.1
 have key := Ev.errsC (X := fun m j => (X114n (regs O) a m).x0 (j : Int)) 1 a.n (offerV a) (fun m j hj => by
  have hj2 : j < 2 ^ 62 := by omega
  obtain ⟨h1,h2,h3⟩ := ha.2 j hj
  obtain ⟨y,hy,hK⟩ := yC_bool (by kernel_rfl) (c109 [(a.at j).fType,(a.at j).fZone,(a.at j).fKind] (show (3 : Nat) < 2 ^ 62 by decide) (fun x hx => by
   simp only [List.mem_cons,List.not_mem_nil,or_false] at hx
   rcases hx with rfl | rfl | rfl
   ·exact h1
   ·exact h2
   ·exact h3))
  have hK : ∀ (ρ : Type) (K : Y → Option ρ),yC (regs O) 109 [S.t (T.rows 1 3 fun i => List.take 1 (List.drop (i.1 * 1) (e47 (a.at j))))] K = K y := hK
  have hy : y.b 0 = named47 (a.at j) := by rw [hy]; simp only [List.all_cons,List.all_nil,Bool.and_true,named47]
  obtain ⟨z,hz,hL⟩ := yC_int (by kernel_rfl) (c108 (named47 (a.at j)) 7)
  obtain ⟨x,hx,hM⟩ := yC_bool (by kernel_rfl) (c155 (a.sub j (by omega)) (a.at j) (by rw [sub_n]; omega))
  rw [any_sub (p := fun (t : D47) => eq47 (a.at j) t)] at hx
  simp only [Rw.sub] at hM
  generalize hq : (List.range j).any (fun i => eq47 (a.at j) (a.at i)) = q at hx
  obtain ⟨w,hw,hN⟩ := yC_int (by kernel_rfl) (c108 (!q) 6)
  obtain ⟨u,hu,hP⟩ := yC_int (by kernel_rfl) (c107 [bif named47 (a.at j) then 0 else 7,bif !q then 0 else 6] (show (2 : Nat) < 2 ^ 62 by decide))
  have hP : ∀ (ρ : Type) (K : Y → Option ρ),yC (regs O) 107 [S.t (T.rows 1 2 fun i => List.take 1 (List.drop (i.1 * 1) [ti (bif named47 (a.at j) then 0 else 7),ti (bif !q then 0 else 6)]))] K = K u := hP
  simp only [X114n,X114s,b114_0,D114_0,ltI_nat,elemO_nat hj,get_nat,hj,decide_true,cond_true,addI_nat1 hj2,hK,hy,hL,hz,le_nat (Nat.le_of_lt hj),subO_nat (Nat.le_of_lt hj),hM,hx,hN,hw,hP,hu,firstL2]
  unfold offerV
  rw [hq]
  cases named47 (a.at j) <;> cases q <;> rfl) (fun m => by
  simp only [X114n,X114s,b114_0,D114_0,ltI_nat,Nat.lt_irrefl,decide_false,cond_false])
 obtain ⟨n,h⟩ := key.get
 refine W114 a n _ ?_
 have e : gtI (ofN a.n) 72 = decide (72 < a.n) := gtI_ofN (k := 72)
 unfold offersV
 simp only [e114_in,e]
 cases decide (72 < a.n) with
 | true => rfl
 | false => exact h
theorem c131 (a : Rw D47) (ha : smR sm47 a) : Ret 131 [S.t (T.rows 3 a.n fun i => e47 (a.get i))] (ii (offersV a)) := by
 have hn := sm_lt ha.1
 have key := Ev.errsN (X := fun m j => (X131n (regs O) a m).x0 (j : Int)) a.n (offerV a) (fun j hj => by
  have hj2 : j < 2 ^ 62 := by omega
  obtain ⟨h1,h2,h3⟩ := ha.2 j hj
  obtain ⟨y,hy,hK⟩ := yC_bool (by kernel_rfl) (c130 (a.at j).fType (a.at j).fZone (a.at j).fKind h1 h2 h3)
  have hK : ∀ (ρ : Type) (K : Y → Option ρ),yC (regs O) 130 [ag (e47 (a.at j))] K = K y := hK
  have hy : y.b 0 = named47 (a.at j) := hy
  have hle : j ≤ a.n := by omega
  have hsn : (a.sub j hle).n = j := sub_n
  have hto : ofN (toN (j : Int)) = (j : Int) := by unfold ofN toN; simp
  obtain ⟨inT,inF⟩ := Ev.anyC (X := fun m i => (X131n (regs O) a m).x1 (a.sub j hle) (a.at j) (j : Int) (j : Int) (i : Int)) 1 j (fun i => eq47 (a.at j) (a.at i)) (ii 6) (fun m i hi => by
   have hi' : i < (a.sub j hle).n := by omega
   rw [eq47_comm,← sub_at (h := hle) hi]
   simp only [X131n,X131s,b131_1,D131_0,D131_1,ltI_cast,hi,decide_true,cond_true,elemO_nat hi',get_nat,addI_nat1 (show i < 2 ^ 62 by omega),eq47])
  have out : ∀ m,(X131n (regs O) a (m + 1)).x1 (a.sub j hle) (a.at j) (j : Int) (j : Int) (j : Int) = (X131n (regs O) a m).x0 ((j + 1 : Nat) : Int) := fun m => by
   simp only [X131n,X131s,b131_1,D131_0,D131_1,ltI_cast,Nat.lt_irrefl,decide_false,cond_false,addI_nat1 hj2]
  have one : ∀ m,(X131n (regs O) a (m + 1)).x0 (j : Int) = bif !named47 (a.at j) then some (ii 7) else (X131n (regs O) a m).x1 (a.sub j hle) (a.at j) (j : Int) (j : Int) 0 := fun m => by
   simp only [X131n,X131s,b131_0,D131_0,D131_1,ltI_nat,elemO_nat hj,get_nat,hj,decide_true,cond_true,hK,hy,le_nat hle,subO_nat hle,hto]
   rfl
  unfold offerV
  cases h1 : named47 (a.at j) with
  | false => exact ⟨fun _ => Ev.one 1 fun m => by rw [one,h1]; rfl,fun h => absurd (show (7 : Int) = 0 from h) (by decide)⟩
  | true =>
   cases h3 : (List.range j).any (fun i => eq47 (a.at j) (a.at i)) with
   | true => exact ⟨fun _ => Ev.by 1 (fun m => by rw [one,h1]; rfl) (inT h3),fun h => absurd h (by decide)⟩
   | false => exact ⟨fun h => absurd rfl h,fun _ v hv => Ev.by 1 (fun m => by rw [one,h1]; rfl) (inF h3 v (Ev.by 1 out hv))⟩) (Ev.one 1 fun m => by
  simp only [X131n,X131s,b131_0,D131_0,ltI_nat,Nat.lt_irrefl,decide_false,cond_false])
 obtain ⟨n,h⟩ := key.get
 refine W131 a n _ ?_
 have e : gtI (ofN a.n) 72 = decide (72 < a.n) := gtI_ofN (k := 72)
 unfold offersV
 simp only [e131_in,e]
 cases decide (72 < a.n) with
 | true => rfl
 | false => exact h
def zoneS : ByteArray := bs [122,111,110,101]
def hostS : ByteArray := bs [104,111,115,116]
def keyB (a : ByteArray) : Bool := strEq a zoneS || strEq a hostS
def termV (a b : ByteArray) : Int := bif !keyB a then 1 else bif !nameB b then 7 else 0
theorem ret1 {a : ByteArray} (ha : sm (sizeN a)) : ∃ y : Y,y.b 0 = nameB a ∧ ∀ (ρ : Type) (K : Y → Option ρ),yC (regs O) 109 [S.t (T.rows 1 1 fun i => List.take 1 (List.drop (i.1 * 1) [ts a]))] K = K y := by
 obtain ⟨y,hy,hK⟩ := yC_bool (by kernel_rfl) (c109 [a] (show (1 : Nat) < 2 ^ 62 by decide) (fun x hx => by simp only [List.mem_singleton] at hx; rw [hx]; exact ha))
 exact ⟨y,by rw [hy]; simp,hK⟩
theorem retF2 (a b : Int) : ∃ y : Y,y.i 0 = orE a b ∧ ∀ (ρ : Type) (K : Y → Option ρ),yC (regs O) 107 [S.t (T.rows 1 2 fun i => List.take 1 (List.drop (i.1 * 1) [ti a,ti b]))] K = K y := by
 obtain ⟨y,hy,hK⟩ := yC_int (by kernel_rfl) (c107 [a,b] (show (2 : Nat) < 2 ^ 62 by decide))
 exact ⟨y,by rw [hy,firstL2],hK⟩
theorem c159 (a b : ByteArray) (hb : sm (sizeN b)) : Ret 159 [ss a,ss b] (ii (termV a b)) := by
 obtain ⟨y,hy,hK⟩ := yC_int (by kernel_rfl) (c108 (keyB a) 1)
 obtain ⟨z,hz,hL⟩ := ret1 hb
 obtain ⟨x,hx,hM⟩ := yC_int (by kernel_rfl) (c108 (nameB b) 7)
 obtain ⟨w,hw,hN⟩ := retF2 (bif keyB a then 0 else 1) (bif nameB b then 0 else 7)
 refine W159 a b 1 _ ?_
 have e : e159_in (regs O) a b (D159_0 (X159n (regs O) a b 1)) = (X159n (regs O) a b 1).x0 (keyB a) := by
  unfold e159_in keyB zoneS hostS D159_0
  cases strEq a (bs [122,111,110,101]) <;> rfl
 rw [e]
 simp only [X159n,X159s,b159_0,hK,hy,hL,hz,hM,hx,hN,hw]
 unfold termV
 cases keyB a <;> cases nameB b <;> rfl
def sm138 (a : D138) : Prop := sm (sizeN a.fKey) ∧ sm (sizeN a.fApp)
def termsE (a : Rw D138) : Int := firstE a.n fun j => termV (a.at j).fKey (a.at j).fApp
theorem c80 (a : Rw D138) (ha : smR sm138 a) : Ret 80 [S.t (T.rows 2 a.n fun i => e138 (a.get i))] (ii (termsE a)) := by
 have hn := sm_lt ha.1
 have key := Ev.errsC (X := fun m j => (X80n (regs O) a m).x0 (j : Int)) 1 a.n (fun j => termV (a.at j).fKey (a.at j).fApp) (fun m j hj => by
  have hj2 : j < 2 ^ 62 := by omega
  obtain ⟨y,hy,hK⟩ := yC_bool (by kernel_rfl) (c71 (a.at j).fApp (ha.2 j hj).2)
  simp only [X80n,X80s,b80_0,D80_0,ltI_nat,elemO_nat hj,get_nat,hj,decide_true,cond_true,addI_nat1 hj2,hK,hy]
  unfold termV keyB zoneS hostS
  cases strEq (a.at j).fKey (bs [122,111,110,101]) <;> cases strEq (a.at j).fKey (bs [104,111,115,116]) <;> cases nameB (a.at j).fApp <;> rfl) (fun m => by
  simp only [X80n,X80s,b80_0,D80_0,ltI_nat,Nat.lt_irrefl,decide_false,cond_false])
 obtain ⟨n,h⟩ := key.get
 exact W80 a n _ h
def sm70 (a : D70) : Prop := sm (sizeN a.fKey) ∧ sm (sizeN a.fApp)
def spreadV (x : D70) : Int := orE (termV x.fKey x.fApp) (bif geI x.fSkew 1 && leI x.fSkew 16 then 0 else 1)
def many3 (a : D61) : Bool := decide (3 < a.fSpread.n) || (decide (3 < a.fNear.n) || decide (3 < a.fApart.n))
def termsV (a : D61) : Int := bif many3 a then 3 else orE (firstE a.fSpread.n fun j => spreadV (a.fSpread.at j)) (orE (termsE a.fNear) (termsE a.fApart))
theorem c121 (a : D61) (h1 : smR sm70 a.fSpread) (h2 : smR sm138 a.fNear) (h3 : smR sm138 a.fApart) : Ret 121 [ag (e61 a)] (ii (termsV a)) := by
 have hn1 := sm_lt h1.1
 have hn2 := sm_lt h2.1
 have hn3 := sm_lt h3.1
 have k6 : Ev (fun m => (X121n (regs O) a m).x6) (ii 0) := Ev.one 1 fun m => by simp only [X121n,X121s,b121_6]
 have k5 : Ev (fun m => (X121n (regs O) a m).x5 0) (ii (orE (termsE a.fApart) 0)) :=
  Ev.errsKC (X := fun m j => (X121n (regs O) a m).x5 (j : Int)) 1 a.fApart.n (fun j => termV (a.fApart.at j).fKey (a.fApart.at j).fApp) 0 (fun m j hj => by
   obtain ⟨y,hy,hK⟩ := yC_int (by kernel_rfl) (c159 (a.fApart.at j).fKey (a.fApart.at j).fApp (h3.2 j hj).2)
   have hK : ∀ (ρ : Type) (K : Y → Option ρ),yC (regs O) 159 (List.map S.t (e138 (a.fApart.at j))) K = K y := hK
   simp only [X121n,X121s,b121_5,D121_5,ltI_nat,elemO_nat hj,get_nat,hj,decide_true,cond_true,addI_nat1 (show j < 2 ^ 62 by omega),hK,hy]) (Ev.by 1 (fun m => by
   simp only [X121n,X121s,b121_5,D121_6,ltI_nat,Nat.lt_irrefl,decide_false,cond_false]) k6)
 have k4 : Ev (fun m => (X121n (regs O) a m).x4) (ii (orE (termsE a.fApart) 0)) := Ev.by 1 (fun m => by simp only [X121n,X121s,b121_4,D121_5]) k5
 have k3 : Ev (fun m => (X121n (regs O) a m).x3 0) (ii (orE (termsE a.fNear) (orE (termsE a.fApart) 0))) :=
  Ev.errsKC (X := fun m j => (X121n (regs O) a m).x3 (j : Int)) 1 a.fNear.n (fun j => termV (a.fNear.at j).fKey (a.fNear.at j).fApp) _ (fun m j hj => by
   obtain ⟨y,hy,hK⟩ := yC_int (by kernel_rfl) (c159 (a.fNear.at j).fKey (a.fNear.at j).fApp (h2.2 j hj).2)
   have hK : ∀ (ρ : Type) (K : Y → Option ρ),yC (regs O) 159 (List.map S.t (e138 (a.fNear.at j))) K = K y := hK
   simp only [X121n,X121s,b121_3,D121_3,ltI_nat,elemO_nat hj,get_nat,hj,decide_true,cond_true,addI_nat1 (show j < 2 ^ 62 by omega),hK,hy]) (Ev.by 1 (fun m => by
   simp only [X121n,X121s,b121_3,D121_4,ltI_nat,Nat.lt_irrefl,decide_false,cond_false]) k4)
 have k1 : Ev (fun m => (X121n (regs O) a m).x1) (ii (orE (termsE a.fNear) (orE (termsE a.fApart) 0))) := Ev.by 1 (fun m => by simp only [X121n,X121s,b121_1,D121_3]) k3
 have k0 : Ev (fun m => (X121n (regs O) a m).x0 0) (ii (orE (firstE a.fSpread.n fun j => spreadV (a.fSpread.at j)) (orE (termsE a.fNear) (orE (termsE a.fApart) 0)))) :=
  Ev.errsKC (X := fun m j => (X121n (regs O) a m).x0 (j : Int)) 2 a.fSpread.n (fun j => spreadV (a.fSpread.at j)) _ (fun m j hj => by
   obtain ⟨y,hy,hK⟩ := yC_int (by kernel_rfl) (c159 (a.fSpread.at j).fKey (a.fSpread.at j).fApp (h1.2 j hj).2)
   obtain ⟨z,hz,hL⟩ := yC_int (by kernel_rfl) (c108 (geI (a.fSpread.at j).fSkew 1 && leI (a.fSpread.at j).fSkew 16) 1)
   obtain ⟨w,hw,hN⟩ := retF2 (termV (a.fSpread.at j).fKey (a.fSpread.at j).fApp) (bif geI (a.fSpread.at j).fSkew 1 && leI (a.fSpread.at j).fSkew 16 then 0 else 1)
   have e : (X121n (regs O) a (m + 2)).x0 (j : Int) = (X121n (regs O) a (m + 1)).x2 (termV (a.fSpread.at j).fKey (a.fSpread.at j).fApp) (geI (a.fSpread.at j).fSkew 1 && leI (a.fSpread.at j).fSkew 16) (j : Int) := by
    simp only [X121n,X121s,b121_0,D121_2,ltI_nat,elemO_nat hj,get_nat,hj,decide_true,cond_true,hK,hy]
    cases geI (a.fSpread.at j).fSkew 1 <;> simp only [cond_true,cond_false,Bool.true_and,Bool.false_and]
   show (X121n (regs O) a (m + 2)).x0 (j : Int) = _
   rw [e]
   simp only [X121n,X121s,b121_2,D121_0,hL,hz,hN,hw,addI_nat1 (show j < 2 ^ 62 by omega)]
   rfl) (Ev.by 1 (fun m => by
   simp only [X121n,X121s,b121_0,D121_1,ltI_nat,Nat.lt_irrefl,decide_false,cond_false]) k1)
 have e0 : orE (termsE a.fApart) 0 = termsE a.fApart := by
  unfold orE
  cases h : eqI (termsE a.fApart) 0 with
  | false => rfl
  | true => exact (eqI_true.1 h).symm
 rw [e0] at k0
 obtain ⟨n,h⟩ := k0.get
 refine W121 a n _ ?_
 have hm : ∀ x y z : Nat,gtI (Bool.rec ((fun _ => bif true then bif decide (ofN y > ofN x) then ofN y else ofN x else bif decide (ofN y < ofN x) then ofN y else ofN x) ()) ((fun _ => ofN z) ()) (decide (ofN z > bif true then bif decide (ofN y > ofN x) then ofN y else ofN x else bif decide (ofN y < ofN x) then ofN y else ofN x))) 3 = (decide (3 < x) || (decide (3 < y) || decide (3 < z))) := fun x y z => by
  unfold gtI ofN
  simp only [cond_true]
  by_cases c1 : (y : Int) > x
  ·simp only [c1,decide_true,cond_true]
   by_cases c2 : (z : Int) > y
   ·simp only [c2,decide_true]
    rw [Bool.eq_iff_iff]; simp; omega
   ·simp only [c2,decide_false]
    rw [Bool.eq_iff_iff]; simp; omega
  ·simp only [c1,decide_false,cond_false]
   by_cases c2 : (z : Int) > x
   ·simp only [c2,decide_true]
    rw [Bool.eq_iff_iff]; simp; omega
   ·simp only [c2,decide_false]
    rw [Bool.eq_iff_iff]; simp; omega
 unfold termsV
 unfold e121_in
 rw [hm]
 unfold many3
 cases (decide (3 < a.fSpread.n) || (decide (3 < a.fNear.n) || decide (3 < a.fApart.n))) with
 | true => rfl
 | false => exact h
def encT (l : List ByteArray) : List (S × S) := l.map fun s => (ss s,bb true)
theorem eqKey9 (a b : ByteArray) : eqKey O.P O.K 9 (ss a) (ss b) = some (strEq a b) := by kernel_rfl
theorem findT_cons (b s : ByteArray) (l : List ByteArray) (i : Nat) : findS O.P O.K 9 (ss b) (encT (s :: l)) i = bif strEq b s then some (some (i,bb true)) else findS O.P O.K 9 (ss b) (encT l) (i + 1) := by
 show (eqKey O.P O.K 9 (ss b) (ss s)).bind _ = _
 rw [eqKey9]
 rfl
theorem findT (b : ByteArray) : ∀ (l : List ByteArray) (i : Nat),(l.any (strEq b) = false → findS O.P O.K 9 (ss b) (encT l) i = some none) ∧ (l.any (strEq b) = true → ∃ k,findS O.P O.K 9 (ss b) (encT l) i = some (some (k,bb true)))
 | [],i => ⟨fun _ => rfl,fun h => absurd h (by simp)⟩
 | s :: l,i => by
  obtain ⟨h1,h2⟩ := findT b l (i + 1)
  rw [findT_cons]
  simp only [List.any_cons]
  cases h : strEq b s with
  | true => exact ⟨fun h => absurd h (by simp),fun _ => ⟨i,rfl⟩⟩
  | false => exact ⟨h1,h2⟩
theorem shV4 : shV O.P 4 0 = some (.bool 0,1) := by kernel_rfl
theorem lookT {ρ : Type} (b : ByteArray) (l : List ByteArray) : (l.any (strEq b) = false → ∀ (Kt : Y → Option ρ) (Kf : Option ρ),lookW O.P O.K 9 4 (encT l) (ss b) Kt Kf = Kf) ∧ (l.any (strEq b) = true → ∃ y : Y,y.b 0 = true ∧ ∀ (Kt : Y → Option ρ) (Kf : Option ρ),lookW O.P O.K 9 4 (encT l) (ss b) Kt Kf = Kt y) := by
 refine ⟨fun h Kt Kf => ?_,fun h => ?_⟩
 ·unfold lookW
  rw [shV4,(findT b l 0).1 h]
 ·obtain ⟨k,hk⟩ := (findT b l 0).2 h
  obtain ⟨y,hy,he⟩ := unb_build (sh := .bool 0) (y := yB true)
  have hb : build (yB true) (.bool 0) = bb true := rfl
  rw [hb] at hy he
  have he2 : y.b 0 = true := by simpa [build] using he
  refine ⟨y,he2,fun Kt Kf => ?_⟩
  unfold lookW
  rw [shV4,hk]
  dsimp only
  rw [hy]
  rfl
theorem updT {ρ : Type} {l : List ByteArray} {b : ByteArray} (h : l.any (strEq b) = false) (K : List (S × S) → Option ρ) : updW O.P O.K 9 (encT l) (ss b) (bb true) K = K (encT (l ++ [b])) := by
 unfold updW
 rw [(findT b l 0).1 h]
 simp [encT]
theorem close_one (get : Nat → Option B) (d : Nat) (s : ByteArray) : closeS get (d + 10) (ss s) = some (ss s,[]) := rfl
theorem close_true (get : Nat → Option B) (d : Nat) : closeS get (d + 10) (bb true) = some (bb true,[]) := rfl
theorem closeE_T (get : Nat → Option B) : ∀ (l : List ByteArray) (d : Nat),closeE get (d + 11 + l.length) (encT l) = some (encT l,[])
 | [],d => rfl
 | p :: l,d => by
  have e : d + 11 + (p :: l).length = (d + 11 + l.length) + 1 := by simp; omega
  rw [e]
  show closeE get ((d + 11 + l.length) + 1) ((ss p,bb true) :: encT l) = _
  unfold closeE
  have e2 : d + 11 + l.length = (d + 1 + l.length) + 10 := by omega
  have h1 := close_one get (d + 1 + l.length) p
  have h2 := close_true get (d + 1 + l.length)
  rw [← e2] at h1 h2
  simp only [h1,h2,closeE_T get l d]
  rfl
theorem flatD {ρ : Type} {d : Nat} {l : List ByteArray} {K : Option ρ} (h : l.length + 11 ≤ d) : flatW d (encT l) K = K := by
 unfold flatW
 refine if_pos ⟨fun get => ?_,?_,fun m => ?_⟩
 ·have := closeE_T get l (d - 11 - l.length)
  rwa [show d - 11 - l.length + 11 + l.length = d by omega] at this
 ·clear h
  induction l with
  | nil => rfl
  | cons p l ih =>
   show refsE ((ss p,bb true) :: encT l) = []
   unfold refsE
   rw [ih]
   rfl
 ·clear h
  induction l with
  | nil => rfl
  | cons p l ih =>
   show renE m ((ss p,bb true) :: encT l) = _
   unfold renE
   rw [ih]
   rfl
theorem flatT {ρ : Type} {l : List ByteArray} {K : Option ρ} (h : l.length ≤ 800) : flatW 900 (encT l) K = K := flatD (by omega)
theorem findT2 (b : ByteArray) : ∀ (l : List ByteArray) (i : Nat),l.any (strEq b) = true → ∃ k,findS O.P O.K 9 (ss b) (encT l) i = some (some (i + k,bb true)) ∧ setE (encT l) k (ss b) (bb true) = encT l
 | [],i,h => absurd h (by simp)
 | s :: l,i,h => by
  rw [findT_cons]
  cases he : strEq b s with
  | true =>
   obtain rfl := strEq_iff.1 he
   exact ⟨0,rfl,rfl⟩
  | false =>
   rw [List.any_cons,he,Bool.false_or] at h
   obtain ⟨k,h1,h2⟩ := findT2 b l (i + 1) h
   refine ⟨k + 1,?_,?_⟩
   ·rw [cond_false,h1]
    congr 3
    omega
   ·show (ss s,bb true) :: setE (encT l) k (ss b) (bb true) = _
    rw [h2]; rfl
def addL (l : List ByteArray) (b : ByteArray) : List ByteArray := bif l.any (strEq b) then l else l ++ [b]
theorem updA {ρ : Type} (l : List ByteArray) (b : ByteArray) (K : List (S × S) → Option ρ) : updW O.P O.K 9 (encT l) (ss b) (bb true) K = K (encT (addL l b)) := by
 cases h : l.any (strEq b) with
 | false => rw [updT h]; unfold addL; rw [h]; rfl
 | true =>
  obtain ⟨k,h1,h2⟩ := findT2 b l 0 h
  unfold updW addL
  rw [h1,h]
  dsimp only
  rw [Nat.zero_add,h2]; rfl
theorem yC_map {f : FuncId} {args : List S} {m : List (S × S)} (hs : shF O.P f = some (.mt 0)) (h : Ret f args (S.mt m)) : ∃ y : Y,y.m 0 = m ∧ ∀ (ρ : Type) (K : Y → Option ρ),yC (regs O) f args K = K y := by
 obtain ⟨y,h1,h2⟩ := yC_of (y0 := ⟨fun _ => 0,fun _ => false,fun _ => ⟨#[]⟩,fun _ => ⟨0,fun i => i.elim0⟩,fun _ => m⟩) hs h
 refine ⟨y,?_,h2⟩
 simpa [build] using h1
end
end Go.Proofs.YtonkoellfaopiaaGreatDoor.H
namespace Go.Proofs.YtonkoellfaopiaaGreatDoor.H
open Go Go.Lib
noncomputable section
def sm68 (a : D68) : Prop := sm (sizeN a.fKey) ∧ smR (fun x : ByteArray => sm (sizeN x)) a.fVals
def dupB (a : Rw ByteArray) : Bool := (List.range a.n).any fun j => (List.range j).any fun i => strEq (a.at i) (a.at j)
def vlsV (a : Rw ByteArray) : Int := bif gtI (ofN a.n) 8 then 3 else bif (List.range a.n).any (fun j => !valB (a.at j)) then 20 else bif dupB a then 6 else 0
def opBad (x : D68) : Bool := (ltI x.fOp 1 || gtI x.fOp 6) || (!eqB (eqI x.fOp 1 || eqI x.fOp 2) (gtI (ofN x.fVals.n) 0) || ((!(eqI x.fOp 5 || eqI x.fOp 6) && !eqI x.fN 0) || (ltI x.fN (-2147483648) || gtI x.fN 2147483648)))
def reqV (x : D68) : Int := bif !nameB x.fKey then 7 else bif opBad x then 30 else vlsV x.fVals
def reqsV (a : Rw D68) : Int := bif gtI (ofN a.n) 8 then 3 else firstE a.n fun j => reqV (a.at j)
theorem c229 (a : ByteArray) (ha : sm (sizeN a)) : Ret 229 [ss a] (bb (!valB a)) := by
 obtain ⟨y,hy,hK⟩ := yC_bool (by kernel_rfl) (c146 a ha)
 exact W229 a 0 _ (by simp only [e229_in,hK,hy])
theorem c186c (a : Rw ByteArray) (ha : smR (fun x : ByteArray => sm (sizeN x)) a) : Ret 186 [S.t (T.rows 1 a.n fun i => [ts (a.get i)]),S.t (T.v (.func (Go.Fn.func 229) #[] #[]))] (ii (idx a.n fun j => !valB (a.at j))) := by
 have hn := sm_lt ha.1
 have key := Ev.idxC (X := fun m j => (X186bn (regs O) a m).x0 (j : Int)) 1 a.n (fun j => !valB (a.at j)) (fun m j hj => by
  have hj2 : j < 2 ^ 62 := by omega
  obtain ⟨y,hy,hK⟩ := yC_bool (by kernel_rfl) (c229 (a.at j) (ha.2 j hj))
  simp only [X186bn,X186bs,b186b_0,D186b_0,ltI_nat,elemO_nat hj,get_nat,hj,decide_true,cond_true,addI_nat1 hj2,hK,hy]) (fun m => by
  simp only [X186bn,X186bs,b186b_0,D186b_0,ltI_nat,Nat.lt_irrefl,decide_false,cond_false]; rfl)
 obtain ⟨n,h⟩ := key.get
 exact W186b a n _ h
theorem c151c (a : Rw ByteArray) (ha : smR (fun x : ByteArray => sm (sizeN x)) a) : Ret 151 [S.t (T.rows 1 a.n fun i => [ts (a.get i)]),S.t (T.v (.func (Go.Fn.func 229) #[] #[]))] (bb ((List.range a.n).any fun j => !valB (a.at j))) := by
 obtain ⟨y,hy,hK⟩ := yC_int (by kernel_rfl) (c186c a ha)
 exact W151b a 0 _ (by simp only [e151b_in,hK,hy,idx_ge])
def grp (a : Rw ByteArray) : Nat → List ByteArray
 | 0 => []
 | j + 1 => addL (grp a j) (a.at j)
theorem addL_any (l : List ByteArray) (b c : ByteArray) : (addL l b).any (strEq c) = (l.any (strEq c) || strEq c b) := by
 unfold addL
 cases h : l.any (strEq b) with
 | false => simp [List.any_append]
 | true =>
  rw [cond_true]
  cases hc : strEq c b with
  | false => rw [Bool.or_false]
  | true => obtain rfl := strEq_iff.1 hc; rw [h]; rfl
theorem grp_any (a : Rw ByteArray) (b : ByteArray) : ∀ j,(grp a j).any (strEq b) = (List.range j).any fun i => strEq b (a.at i)
 | 0 => rfl
 | j + 1 => by
  rw [List.range_succ,List.any_append,← grp_any a b j]
  show (addL (grp a j) (a.at j)).any (strEq b) = _
  rw [addL_any]
  simp
theorem grp_len (a : Rw ByteArray) : ∀ j,(grp a j).length ≤ j ∧ decide ((grp a j).length < j) = (List.range j).any fun k => (List.range k).any fun i => strEq (a.at i) (a.at k)
 | 0 => ⟨Nat.le_refl _,rfl⟩
 | j + 1 => by
  obtain ⟨h1,h2⟩ := grp_len a j
  rw [List.range_succ,List.any_append,← h2]
  have hc : ((List.range j).any fun i => strEq (a.at i) (a.at j)) = (grp a j).any (strEq (a.at j)) := by
   rw [grp_any]
   exact List.any_congr rfl fun i => strEq_comm
  simp only [List.any_cons,List.any_nil,Bool.or_false,hc]
  show (addL (grp a j) (a.at j)).length ≤ j + 1 ∧ decide ((addL (grp a j) (a.at j)).length < j + 1) = _
  unfold addL
  cases (grp a j).any (strEq (a.at j)) with
  | true => simp only [cond_true,Bool.or_true,decide_eq_true_eq]; omega
  | false =>
   simp only [cond_false,Bool.or_false,List.length_append,List.length_cons,List.length_nil,Nat.zero_add]
   refine ⟨by omega,?_⟩
   by_cases h : (grp a j).length < j
   ·simp [h]
   ·simp [h]
theorem noTwice_app (l : List ByteArray) (b : ByteArray) : noTwice (l ++ [b]) = (noTwice l && !l.any (strEq b)) := by
 induction l with
 | nil => rfl
 | cons k l ih =>
  show (!(l ++ [b]).any (strEq k) && noTwice (l ++ [b])) = (!l.any (strEq k) && noTwice l && !(strEq b k || l.any (strEq b)))
  rw [ih,List.any_append,@strEq_comm b k]
  simp only [List.any_cons,List.any_nil,Bool.or_false]
  cases l.any (strEq k) <;> cases noTwice l <;> cases strEq k b <;> cases l.any (strEq b) <;> rfl
theorem noTwice_add {l : List ByteArray} (b : ByteArray) (h : noTwice l = true) : noTwice (addL l b) = true := by
 unfold addL
 cases hb : l.any (strEq b) with
 | true => exact h
 | false => rw [cond_false,noTwice_app,h,hb]; rfl
theorem grp_noTwice (a : Rw ByteArray) : ∀ j,noTwice (grp a j) = true
 | 0 => rfl
 | j + 1 => noTwice_add _ (grp_noTwice a j)
theorem addL_all {p : ByteArray → Bool} {l : List ByteArray} {b : ByteArray} (h : l.all p = true) (hb : p b = true) : (addL l b).all p = true := by
 unfold addL
 cases l.any (strEq b) with
 | true => exact h
 | false => rw [cond_false,List.all_append,h]; simp [hb]
theorem grp_all (a : Rw ByteArray) {p : ByteArray → Bool} : ∀ j,(∀ i,i < j → p (a.at i) = true) → (grp a j).all p = true
 | 0,_ => rfl
 | j + 1,h => addL_all (grp_all a j fun i hi => h i (by omega)) (h j (by omega))
theorem lenE_T (l : List ByteArray) : lenE (encT l) = l.length := by unfold lenE encT; simp
theorem matT {ρ : Type} (l : List ByteArray) (K : Option ρ) : matW (encT l) K = K := by
 unfold matW
 refine if_pos ?_
 show (encT l).all _ = true
 rw [List.all_eq_true]
 intro e he
 obtain ⟨s,_,rfl⟩ := List.mem_map.1 he
 rfl
theorem c217 (a : Rw ByteArray) (hn : a.n ≤ 800) : Ret 217 [S.t (T.rows 1 1 fun i => List.take 1 (List.drop (i.1 * 1) [T.rows 1 a.n fun i => [ts (a.get i)]]))] (.mt (encT (grp a a.n))) := by
 have inner : ∀ (k j : Nat),j + k = a.n → Ev (fun m => (X217n (regs O) (rwL [a]) m).x1 (ofN a.n) a (j : Int) (encT (grp a j)) 0) (.mt (encT (grp a a.n))) := by
  intro k
  induction k with
  | zero =>
   intro j hj
   obtain rfl : j = a.n := by omega
   have hl := (grp_len a a.n).1
   refine Ev.add 2 ⟨0,fun m _ => ?_⟩
   show (X217n (regs O) (rwL [a]) (m + 2)).x1 (ofN a.n) a ((a.n : Nat) : Int) (encT (grp a a.n)) 0 = _
   rw [X217n]
   simp only [X217s,b217_1,ltI_nat,Nat.lt_irrefl,decide_false,cond_false,flatT (show (grp a a.n).length ≤ 800 by omega)]
   show (X217n (regs O) (rwL [a]) (m + 1)).x0 1 (encT (grp a a.n)) = _
   rw [X217n]
   have h1 : ltI 1 (ofN (rwL [a]).n) = false := rfl
   simp only [X217s,b217_0,h1,cond_false,flatT (show (grp a a.n).length ≤ 800 by omega),flatD (d := 999) (show (grp a a.n).length + 11 ≤ 999 by omega)]
  | succ k ih =>
   intro j hj
   have hj1 : j < a.n := by omega
   have hl := (grp_len a (j + 1)).1
   refine Ev.succ ((ih (j + 1) (by omega)).of_eq fun m => ?_)
   rw [X217n]
   simp only [X217s,b217_1,D217_1,ltI_nat,hj1,decide_true,cond_true,elemO_nat hj1,get_nat,updA,addI_nat1 (show j < 2 ^ 62 by omega)]
   show flatW 900 (encT (grp a (j + 1))) _ = _
   rw [flatT (show (grp a (j + 1)).length ≤ 800 by omega)]
   rfl
 have key : Ev (fun m => (X217n (regs O) (rwL [a]) m).x0 0 []) (.mt (encT (grp a a.n))) := by
  refine Ev.succ ((inner a.n 0 (by omega)).of_eq fun m => ?_)
  rw [X217n]
  have h1 : ltI 0 (ofN (rwL [a]).n) = true := rfl
  simp only [X217s,b217_0,D217_1,h1,cond_true]
  have f : ∀ K : Option S,flatW 900 [] K = K := fun K => flatT (l := []) (by decide)
  show elemO 0 1 (fun h => flatW 900 [] _) = _
  rw [elemO_pos (by decide) (by decide),f]
  rfl
 obtain ⟨n,h⟩ := key.get
 have e : (fun i : Fin 1 => List.take 1 (List.drop (i.1 * 1) [T.rows 1 a.n fun i => [ts (a.get i)]])) = fun i : Fin (rwL [a]).n => e31 ((rwL [a]).get i) := lit1 [a] (fun x => T.rows 1 x.n fun i => [ts (x.get i)])
 rw [e]
 refine W217 (rwL [a]) n _ ?_
 show flatW 900 [] ((X217n (regs O) (rwL [a]) n).x0 0 []) = _
 have f : ∀ K : Option S,flatW 900 [] K = K := fun K => flatT (l := []) (by decide)
 rw [f]; exact h
theorem c217b : Ret 217 [S.t (T.v (.slice none 0 0))] (.mt []) := by
 have f : ∀ K : Option S,flatW 900 [] K = K := fun K => flatT (l := []) (by decide)
 have g : ∀ K : Option S,flatW 999 [] K = K := fun K => flatD (d := 999) (l := []) (by decide)
 refine W217b 1 _ ?_
 show flatW 900 [] (flatW 900 [] (flatW 999 [] (some (S.mt [])))) = _
 rw [f,f,g]
theorem c215 (x : D68) (hx : sm68 x) : Ret 215 [ag (e68 x)] (ii (reqV x)) := by
 obtain ⟨y1,hy1,hK1⟩ := yC_bool (by kernel_rfl) (c101 x.fKey hx.1)
 obtain ⟨y2,hy2,hK2⟩ := yC_bool (by kernel_rfl) (c151c x.fVals hx.2)
 have rest : (bif gtI (ofN x.fVals.n) 8 then some (ii 3) else yC (regs O) 151 [S.t (T.rows 1 x.fVals.n fun i => [ts (x.fVals.get i)]),S.t (T.v (.func (Go.Fn.func 229) (Array.mk []) (Array.mk [])))] fun y => bif y.b 0 then some (ii 20) else yC (regs O) 217 [S.t (T.rows 1 1 fun i => List.take 1 (List.drop (i.1 * 1) [T.rows 1 x.fVals.n fun i => [ts (x.fVals.get i)]]))] fun y => matW (y.m 0) (bif ltI (ofN (lenE (y.m 0))) (ofN x.fVals.n) then some (ii 6) else some (ii 0))) = some (ii (vlsV x.fVals)) := by
  unfold vlsV
  have e : gtI (ofN x.fVals.n) 8 = decide (8 < x.fVals.n) := gtI_ofN (k := 8)
  by_cases h : 8 < x.fVals.n
  ·rw [e]; simp [h]
  ·obtain ⟨y3,hy3,hK3⟩ := yC_map (by kernel_rfl) (c217 x.fVals (by omega))
   have hd : ltI (ofN (grp x.fVals x.fVals.n).length) (ofN x.fVals.n) = dupB x.fVals := by
    unfold dupB
    rw [← (grp_len x.fVals x.fVals.n).2]
    exact ltI_nat
   rw [e,hK2,hy2,hK3,hy3,matT,lenE_T,hd]
   simp only [h,decide_false,cond_false]
   cases (List.range x.fVals.n).any (fun j => !valB (x.fVals.at j)) <;> cases dupB x.fVals <;> rfl
 have h3 : ∀ m b,(X215n (regs O) x (m + 1)).x3 b = some (ii (bif b || (ltI x.fN (-2147483648) || gtI x.fN 2147483648) then 30 else vlsV x.fVals)) := fun m b => by
  rw [X215n]
  simp only [X215s,b215_3]
  rw [rest]
  have e : ltI x.fN (Int.negSucc 2147483647) = ltI x.fN (-2147483648) := rfl
  rw [e]
  cases b <;> cases ltI x.fN (-2147483648) <;> cases gtI x.fN 2147483648 <;> rfl
 have h2 : ∀ m num vals b,(X215n (regs O) x (m + 2)).x2 num vals b = some (ii (bif b || (!eqB vals (gtI (ofN x.fVals.n) 0) || ((!num && !eqI x.fN 0) || (ltI x.fN (-2147483648) || gtI x.fN 2147483648))) then 30 else vlsV x.fVals)) := fun m num vals b => by
  have t := h3 m
  rw [X215n]
  generalize X215n (regs O) x (m + 1) = X at t ⊢
  simp only [X215s,b215_2]
  rw [rest]
  simp only [D215_3,t]
  cases b <;> cases eqB vals (gtI (ofN x.fVals.n) 0) <;> cases num <;> cases eqI x.fN 0 <;> cases ltI x.fN (-2147483648) <;> cases gtI x.fN 2147483648 <;> rfl
 have h1 : ∀ m vals num,(X215n (regs O) x (m + 3)).x1 vals num = some (ii (bif !nameB x.fKey then 7 else bif (ltI x.fOp 1 || gtI x.fOp 6) || (!eqB vals (gtI (ofN x.fVals.n) 0) || ((!num && !eqI x.fN 0) || (ltI x.fN (-2147483648) || gtI x.fN 2147483648))) then 30 else vlsV x.fVals)) := fun m vals num => by
  have t := h2 m
  rw [X215n]
  generalize X215n (regs O) x (m + 2) = X at t ⊢
  simp only [X215s,b215_1]
  rw [hK1,hy1]
  simp only [D215_2,t]
  cases nameB x.fKey <;> cases ltI x.fOp 1 <;> rfl
 have h0 : ∀ m vals,(X215n (regs O) x (m + 4)).x0 vals = some (ii (bif !nameB x.fKey then 7 else bif (ltI x.fOp 1 || gtI x.fOp 6) || (!eqB vals (gtI (ofN x.fVals.n) 0) || ((!(eqI x.fOp 5 || eqI x.fOp 6) && !eqI x.fN 0) || (ltI x.fN (-2147483648) || gtI x.fN 2147483648))) then 30 else vlsV x.fVals)) := fun m vals => by
  have t := h1 m
  rw [X215n]
  generalize X215n (regs O) x (m + 3) = X at t ⊢
  simp only [X215s,b215_0]
  simp only [D215_1,t]
  cases eqI x.fOp 5 <;> rfl
 refine W215 x 4 _ ?_
 show e215_in (regs O) x (D215_0 (X215n (regs O) x 4)) = _
 unfold e215_in
 simp only [D215_0,h0 0]
 unfold reqV opBad
 cases eqI x.fOp 1 <;> rfl
theorem keysE_T : ∀ l : List ByteArray,keysE (encT l) = some l
 | [] => rfl
 | s :: l => by
  show (keysE (encT l)).map (s :: ·) = _
  rw [keysE_T l]; rfl
def keyFit (k : ByteArray) : Bool := k.size.ble 281474976710656
theorem yC_any {f : FuncId} {args : List S} {sh : Sh} {y0 : Y} (hs : shF O.P f = some sh) (h : Ret f args (build y0 sh)) : ∃ y : Y,∀ (ρ : Type) (K : Y → Option ρ),yC (regs O) f args K = K y := by
 obtain ⟨y,_,h2⟩ := yC_of hs h
 exact ⟨y,h2⟩
theorem c216 (l : List ByteArray) (h1 : noTwice l = true) (h2 : l.all keyFit = true) (h3 : l.length ≤ 1048576) : ∃ y : Y,∀ (ρ : Type) (K : Y → Option ρ),yC (regs O) 216 [S.mt (encT l)] K = K y := by
 have hr : Ret 216 [S.mt (encT l)] (rowTexts (risingL l)) := by
  refine W_ext (F := F216) rfl ?_
  show (match keysE (encT l) with | some ks => bif noTwice ks && ks.all (fun k => k.size.ble 281474976710656) && (encT l).length.ble 1048576 then some (rowTexts (risingL ks)) else none | none => none) = _
  rw [keysE_T]
  have e1 : (encT l).length.ble 1048576 = true := by rw [Nat.ble_eq]; unfold encT; simpa using h3
  have e2 : l.all (fun k => k.size.ble 281474976710656) = true := h2
  dsimp only
  rw [h1,e1,e2]; rfl
 exact yC_any (sh := .rows 1 0) (y0 := ⟨fun _ => 0,fun _ => false,fun _ => ⟨#[]⟩,fun _ => ⟨(risingL l).length,fun i => [.v (.string ⟨((risingL l)[i.1]'i.2).toArray⟩)]⟩,fun _ => []⟩) (by kernel_rfl) hr
theorem c214 (n : Int) (h0 : -2147483648 ≤ n) (h1 : n ≤ 2147483648) : ∃ y : Y,y.s 0 = decS n ∧ ∀ (ρ : Type) (K : Y → Option ρ),yC (regs O) 214 [ii n,ii 10] K = K y := by
 have hr : Ret 214 [ii n,ii 10] (ss (decS n)) := by
  refine W_ext (F := F214) rfl ?_
  show (bif decide (-9223372036854775808 ≤ n) && decide (n ≤ 9223372036854775807) then some (ss (decS n)) else none) = _
  have e1 : decide (-9223372036854775808 ≤ n) = true := by rw [decide_eq_true_eq]; omega
  have e2 : decide (n ≤ 9223372036854775807) = true := by rw [decide_eq_true_eq]; omega
  rw [e1,e2]; rfl
 exact yC_str (by kernel_rfl) hr
theorem decS_fit {n : Int} (h0 : -2147483648 ≤ n) (h1 : n ≤ 2147483648) : keyFit (decS n) = true := by
 have := itoa_len h0 h1
 unfold keyFit decS
 rw [Nat.ble_eq]
 show (itoa n).toArray.size ≤ _
 rw [List.size_toArray]; omega
theorem lookNil {ρ : Type} (b : ByteArray) (Kt : Y → Option ρ) (Kf : Option ρ) : lookW O.P O.K 9 4 [] (ss b) Kt Kf = Kf := (lookT b []).1 rfl Kt Kf
theorem i64 {n : Int} (h0 : -4611686018427387904 ≤ n) (h1 : n ≤ 4611686018427387904) : IntKind.i64.wrap n = n := i64_in (by omega)
def sh218 : Sh := .tup [.agg [.bool 0,.bool 1,.bool 2,.rows 1 3,.int .i64 4,.int .i64 5],.bool 6]
def setS (b0 b1 b2 : Bool) (r : Rw0) (lo hi : Int) (x : S) : S := .tup [.agg [bb b0,bb b1,bb b2,.t (.rows 1 r.n r.g),ii lo,ii hi],x]
theorem setS_b (b0 b1 b2 : Bool) (r : Rw0) (lo hi : Int) (x : Bool) : ∃ y : Y,build y sh218 = setS b0 b1 b2 r lo hi (bb x) :=
 ⟨⟨fun i => match i with | 4 => lo | _ => hi,fun i => match i with | 0 => b0 | 1 => b1 | 2 => b2 | _ => x,fun _ => ⟨#[]⟩,fun _ => r,fun _ => []⟩,rfl⟩
theorem c218 (lo hi : Int) (h1 : -2147483648 ≤ lo) (h2 : lo ≤ 2147483649) (h3 : -2147483649 ≤ hi) (h4 : hi ≤ 2147483648) : ∃ y : Y,∀ (ρ : Type) (K : Y → Option ρ),yC (regs O) 218 [ii lo,ii hi,S.mt []] K = K y := by
 have f9 : ∀ K : Option S,flatW 900 [] K = K := fun K => flatT (l := []) (by decide)
 have f998 : ∀ K : Option S,flatW 998 [] K = K := fun K => flatD (l := []) (by decide)
 have wr : ∀ (k : Nat) (n : Int) (l : List ByteArray),n + k = hi + 1 → -2147483648 ≤ n → l.length + k ≤ 700 → noTwice l = true → l.all keyFit = true → ∃ y : Y,Ev (fun m => (X218bn (regs O) lo hi m).x3 n hi (encT l)) (build y sh218) := by
  intro k
  induction k with
  | zero =>
   intro n l hn h0 hl ht hf
   obtain ⟨y,hK⟩ := c216 l ht hf (by omega)
   obtain ⟨z,hz⟩ := setS_b false false false (y.r 0) 0 0 true
   refine ⟨z,Ev.succ ⟨0,fun m _ => ?_⟩⟩
   show (X218bn (regs O) lo hi (m + 1)).x3 n hi (encT l) = _
   rw [X218bn]
   have e : leI n hi = false := by unfold leI; rw [decide_eq_false_iff_not]; omega
   simp only [X218bs,b218b_3,e,cond_false,flatT (show l.length ≤ 800 by omega),flatD (d := 998) (show l.length + 11 ≤ 998 by omega),hK]
   rw [hz]; rfl
  | succ k ih =>
   intro n l hn h0 hl ht hf
   obtain ⟨y,hy,hK⟩ := c214 n h0 (by omega)
   have hlen : (addL l (decS n)).length ≤ l.length + 1 := by
    unfold addL
    cases l.any (strEq (decS n)) <;> simp
   obtain ⟨z,hz⟩ := ih (n + 1) (addL l (decS n)) (by omega) (by omega) (by omega) (noTwice_add _ ht) (addL_all hf (decS_fit h0 (by omega)))
   refine ⟨z,Ev.succ (hz.of_eq fun m => ?_)⟩
   rw [X218bn]
   have e : leI n hi = true := by unfold leI; rw [decide_eq_true_eq]; omega
   have e2 : addI .i64 n 1 = n + 1 := i64 (n := n + 1) (by omega) (by omega)
   simp only [X218bs,b218b_3,D218b_3,e,cond_true,hK,lookNil,hy,updA,flatT (show (addL l (decS n)).length ≤ 800 by omega),e2]
 obtain ⟨y,hy⟩ : ∃ y : Y,Ev (fun m => (X218bn (regs O) lo hi m).x2 lo hi) (build y sh218) := by
  have e1 : subI .i64 (addI .i64 (subI .i64 hi lo) 1) (ofN (lenE [])) = hi - lo + 1 := by
   unfold subI addI
   rw [i64 (n := hi - lo) (by omega) (by omega)]
   show IntKind.i64.wrap (IntKind.i64.wrap (hi - lo + 1) - 0) = _
   rw [i64 (n := hi - lo + 1) (by omega) (by omega),i64 (by omega) (by omega)]; omega
  by_cases hm : hi - lo + 1 > 64
  ·obtain ⟨y,hK⟩ := c216 [] rfl rfl (by decide)
   obtain ⟨z,hz⟩ := setS_b false true true (y.r 0) lo hi (leI (ofN (lenE [])) 64)
   refine ⟨z,Ev.succ ⟨0,fun m _ => ?_⟩⟩
   show (X218bn (regs O) lo hi (m + 1)).x2 lo hi = _
   rw [X218bn]
   have e : gtI (hi - lo + 1) 64 = true := by unfold gtI; rw [decide_eq_true_eq]; exact hm
   have hK' : ∀ (ρ : Type) (K : Y → Option ρ),yC (regs O) 216 [S.mt []] K = K y := hK
   simp only [X218bs,b218b_2,e1,e,cond_true,f998,hK']
   rw [hz]; rfl
  ·have e : gtI (hi - lo + 1) 64 = false := by
    unfold gtI; rw [decide_eq_false_iff_not]; exact hm
   by_cases hl : hi < lo
   ·obtain ⟨y,hK⟩ := c216 [] rfl rfl (by decide)
    obtain ⟨z,hz⟩ := setS_b false false false (y.r 0) 0 0 true
    refine ⟨z,Ev.add 2 ⟨0,fun m _ => ?_⟩⟩
    have hK' : ∀ (ρ : Type) (K : Y → Option ρ),yC (regs O) 216 [S.mt []] K = K y := hK
    have t : (X218bn (regs O) lo hi (m + 1)).x3 lo hi [] = some (build z sh218) := by
     rw [X218bn]
     have e : leI lo hi = false := by unfold leI; rw [decide_eq_false_iff_not]; omega
     simp only [X218bs,b218b_3,e,cond_false,f9,f998,hK']
     rw [hz]; rfl
    show (X218bn (regs O) lo hi (m + 2)).x2 lo hi = _
    rw [X218bn]
    generalize X218bn (regs O) lo hi (m + 1) = X at t ⊢
    simp only [X218bs,b218b_2,D218b_3,e1,e,cond_false,f9]
    exact t
   ·obtain ⟨y,hy⟩ := wr (hi + 1 - lo).toNat lo [] (by omega) h1 (by simp only [List.length_nil]; omega) rfl rfl
    refine ⟨y,Ev.succ (hy.of_eq fun m => ?_)⟩
    rw [X218bn]
    simp only [X218bs,b218b_2,D218b_3,e1,e,cond_false,f9]
    rfl
 have s1 : ∀ m,(X218bn (regs O) lo hi (m + 1)).x1 lo hi = (X218bn (regs O) lo hi m).x2 lo hi := fun m => by
  rw [X218bn]
  simp only [X218bs,b218b_1,D218b_2]
  cases e : leI lo hi with
  | false => rfl
  | true =>
   obtain ⟨y,hy,hK⟩ := c214 hi (by unfold leI at e; rw [decide_eq_true_eq] at e; omega) h4
   rw [cond_true,hK,lookNil]
 have s0 : ∀ m,(X218bn (regs O) lo hi (m + 1)).x0 lo = (X218bn (regs O) lo hi m).x1 lo hi := fun m => by
  rw [X218bn]
  simp only [X218bs,b218b_0,D218b_1]
  cases e : leI lo hi with
  | false => rfl
  | true =>
   obtain ⟨y,hy,hK⟩ := c214 lo h1 (by unfold leI at e; rw [decide_eq_true_eq] at e; omega)
   rw [cond_true,hK,lookNil]
 have key : Ev (fun m => (X218bn (regs O) lo hi m).x0 lo) (build y sh218) := Ev.add 2 (hy.of_eq fun m => by
  show (X218bn (regs O) lo hi (m + 2)).x0 lo = _
  rw [s0,s1])
 obtain ⟨n,h⟩ := key.get
 exact yC_any (sh := sh218) (y0 := y) (by kernel_rfl) (W218b lo hi n _ h)
def sh187 : Sh := .tup [.agg [.bool 0,.bool 1,.bool 2,.rows 1 3,.int .i64 4,.int .i64 5],.int .i64 6]
theorem setS_i (b0 b1 b2 : Bool) (r : Rw0) (lo hi : Int) (x : Int) : ∃ y : Y,y.i 6 = x ∧ build y sh187 = setS b0 b1 b2 r lo hi (ii x) :=
 ⟨⟨fun i => match i with | 4 => lo | 5 => hi | _ => x,fun i => match i with | 0 => b0 | 1 => b1 | _ => b2,fun _ => ⟨#[]⟩,fun _ => r,fun _ => []⟩,rfl,rfl⟩
theorem ret187 {f : FuncId} {args : List S} {x : Int} (hs : shF O.P f = some sh187) {b0 b1 b2 : Bool} {r : Rw0} {lo hi : Int} (h : Ret f args (setS b0 b1 b2 r lo hi (ii x))) : ∃ y : Y,y.i 6 = x ∧ ∀ (ρ : Type) (K : Y → Option ρ),yC (regs O) f args K = K y := by
 obtain ⟨z,hz,he⟩ := setS_i b0 b1 b2 r lo hi x
 rw [← he] at h
 obtain ⟨y,h1,h2⟩ := yC_of hs h
 refine ⟨y,?_,h2⟩
 have : build y (.int .i64 6) = build z (.int .i64 6) := by
  simp only [sh187,build,buildL,S.tup.injEq,List.cons.injEq] at h1
  exact h1.2.1
 simpa [build,hz] using this
theorem rows0 (g : Fin 0 → List T) : S.t (T.rows 1 0 g) = S.t (T.rows 1 (⟨0,fun i => i.elim0⟩ : Rw0).n (⟨0,fun i => i.elim0⟩ : Rw0).g) := by
 have : g = fun i => i.elim0 := funext fun i => i.elim0
 rw [this]
theorem rest0 {a : Rw ByteArray} (h : vlsV a = 0) : a.n ≤ 8 := by
 unfold vlsV at h
 by_cases hn : 8 < a.n
 ·have e : gtI (ofN a.n) 8 = true := by rw [show gtI (ofN a.n) 8 = decide (8 < a.n) from gtI_ofN (k := 8)]; simp [hn]
  rw [e] at h; cases h
 ·omega
theorem fN_range {x : D68} (h : opBad x = false) : -2147483648 ≤ x.fN ∧ x.fN ≤ 2147483648 := by
 unfold opBad at h
 simp only [Bool.or_eq_false_iff] at h
 have h1 := h.2.2.2.1
 have h2 := h.2.2.2.2
 unfold ltI at h1; unfold gtI at h2
 simp only [decide_eq_false_iff_not] at h1 h2
 omega
theorem req0 {x : D68} (h : reqV x = 0) : opBad x = false ∧ vlsV x.fVals = 0 := by
 unfold reqV at h
 cases h1 : nameB x.fKey with
 | false => rw [h1] at h; cases h
 | true =>
  cases h2 : opBad x with
  | true => rw [h1,h2] at h; cases h
  | false => rw [h1,h2] at h; exact ⟨rfl,h⟩
theorem c187 (x : D68) (hx : sm68 x) : ∃ y : Y,y.i 6 = reqV x ∧ ∀ (ρ : Type) (K : Y → Option ρ),yC (regs O) 187 [ag (e68 x)] K = K y := by
 obtain ⟨y1,hy1,hK1⟩ := yC_int (by kernel_rfl) (c215 x hx)
 by_cases hz : reqV x = 0
 ·obtain ⟨ho,hr⟩ := req0 hz
  have hn := rest0 hr
  obtain ⟨h0,h1⟩ := fN_range ho
  obtain ⟨y2,hy2,hK2⟩ := yC_map (by kernel_rfl) (c217 x.fVals (by omega))
  have hl := (grp_len x.fVals x.fVals.n).1
  obtain ⟨y3,hK3⟩ := c216 (grp x.fVals x.fVals.n) (grp_noTwice _ _) (grp_all _ _ fun i hi => by
   have := hx.2.2 i hi
   unfold keyFit; rw [Nat.ble_eq]; unfold sm at this; have e : (x.fVals.at i).size = sizeN (x.fVals.at i) := rfl; omega) (by omega)
  obtain ⟨y4,hy4,hK4⟩ := yC_map (by kernel_rfl) c217b
  have f996 : ∀ K : Option S,flatW 996 [] K = K := fun K => flatD (l := []) (by decide)
  have a1 : addI .i64 x.fN 1 = x.fN + 1 := i64 (n := x.fN + 1) (by omega) (by omega)
  have a2 : subI .i64 x.fN 1 = x.fN - 1 := i64 (n := x.fN - 1) (by omega) (by omega)
  obtain ⟨y5,hK5⟩ := c218 (x.fN + 1) 2147483648 (by omega) (by omega) (by decide) (by decide)
  obtain ⟨y6,hK6⟩ := c218 (-2147483648) (x.fN - 1) (by decide) (by decide) (by omega) (by omega)
  have hK6' : ∀ (ρ : Type) (K : Y → Option ρ),yC (regs O) 218 [ii (Int.negSucc 2147483647),ii (x.fN - 1),S.mt []] K = K y6 := hK6
  have hK5' : ∀ (ρ : Type) (K : Y → Option ρ),yC (regs O) 218 [ii (x.fN + 1),ii 2147483648,S.mt []] K = K y5 := hK5
  have e0 : eqI (0 : Int) 0 = true := rfl
  have hW : ∀ v,e187_in (regs O) x = some v → Ret 187 [ag (e68 x)] v := fun v h => W187 x 0 v h
  rw [hz]
  have main : ∃ b0 b1 b2 r lo hi,e187_in (regs O) x = some (setS b0 b1 b2 r lo hi (ii 0)) := by
   simp only [e187_in,hK1,hy1,hz,e0,Bool.not_true,cond_false,hK2,hy2,matT,flatD (d := 998) (show (grp x.fVals x.fVals.n).length + 11 ≤ 998 by omega),hK3,hK4,hy4,f996,a1,a2,hK5',hK6']
   cases eqI x.fOp 2 with
   | true => exact ⟨_,_,_,_,_,_,rfl⟩
   | false =>
    cases eqI x.fOp 3 with
    | true => exact ⟨_,_,_,_,_,_,rfl⟩
    | false =>
     cases eqI x.fOp 4 with
     | true => exact ⟨_,_,_,_,_,_,rfl⟩
     | false =>
      cases eqI x.fOp 5 with
      | true => exact ⟨_,_,_,_,_,_,rfl⟩
      | false =>
       cases eqI x.fOp 6 with
       | true => exact ⟨_,_,_,_,_,_,rfl⟩
       | false => exact ⟨_,_,_,_,_,_,rfl⟩
  obtain ⟨b0,b1,b2,r,lo,hi,h⟩ := main
  exact ret187 (by kernel_rfl) (hW _ h)
 ·have e : eqI (reqV x) 0 = false := by unfold eqI; simpa using hz
  have hr : Ret 187 [ag (e68 x)] (setS false false false ⟨0,fun i => i.elim0⟩ 0 0 (ii (reqV x))) := by
   refine W187 x 0 _ ?_
   simp only [e187_in,hK1,hy1,e,Bool.not_false,cond_true]
   rw [rows0]; rfl
  exact ret187 (by kernel_rfl) hr
instance : Inhabited Y := ⟨⟨fun _ => 0,fun _ => false,fun _ => ⟨#[]⟩,fun _ => ⟨0,fun i => i.elim0⟩,fun _ => []⟩⟩
def chY (a : Rw D68) (j : Nat) : Y := open Classical in if h : sm68 (a.at j) then (c187 (a.at j) h).choose else default
theorem chY_ok {a : Rw D68} {j : Nat} (h : sm68 (a.at j)) : (chY a j).i 6 = reqV (a.at j) ∧ ∀ (ρ : Type) (K : Y → Option ρ),yC (regs O) 187 [ag (e68 (a.at j))] K = K (chY a j) := by
 unfold chY
 rw [dif_pos h]
 exact (c187 (a.at j) h).choose_spec
def setT6 (y : Y) : List T := [T.v (Go.Value.bool (y.b 0)),T.v (Go.Value.bool (y.b 1)),T.v (Go.Value.bool (y.b 2)),T.rows 1 (y.r 3).n (y.r 3).g,T.v (Go.Value.int Go.IntKind.i64 (y.i 4)),T.v (Go.Value.int Go.IntKind.i64 (y.i 5))]
def outs (a : Rw D68) : Nat → Rw0
 | 0 => ⟨0,fun i => i.elim0⟩
 | 1 => ⟨1,fun i => List.take 6 (List.drop (i.1 * 6) (setT6 (chY a 0)))⟩
 | j + 2 => ⟨addN (outs a (j + 1)).n 1,appGet (outs a (j + 1)).g fun i : Fin 1 => List.take 6 (List.drop (i.1 * 6) (setT6 (chY a (j + 1))))⟩
theorem outs_n (a : Rw D68) : ∀ j,(outs a j).n = j
 | 0 => rfl
 | 1 => rfl
 | j + 2 => by
  show (outs a (j + 1)).n + 1 = _
  rw [outs_n a (j + 1)]
def res153 (r : Rw0) (e : Int) : S := .tup [.t (.rows 6 r.n r.g),ii e]
def x153 (a : Rw D68) (m : Nat) : Nat → Option S
 | 0 => (X153n (regs O) a 8 m).x0
 | j + 1 => (X153n (regs O) a 8 m).x1 (outs a (j + 1)) ((j + 1 : Nat) : Int)
theorem rows06 (g : Fin 0 → List T) : S.t (T.rows 6 0 g) = S.t (T.rows 6 (⟨0,fun i => i.elim0⟩ : Rw0).n (⟨0,fun i => i.elim0⟩ : Rw0).g) := by
 have : g = fun i => i.elim0 := funext fun i => i.elim0
 rw [this]
theorem fits8 {n : Nat} (h : n ≤ 8) : fitsR (addN n 1) 48 = true := by
 unfold fitsR addN roomMax
 rw [Bool.and_eq_true,Nat.ble_eq,Nat.ble_eq]; omega
theorem c153 (a : Rw D68) (ha : smR sm68 a) : ∃ y : Y,y.i 1 = reqsV a ∧ ∀ (ρ : Type) (K : Y → Option ρ),yC (regs O) 153 [S.t (T.rows 4 a.n fun i => e68 (a.get i)),ii 8] K = K y := by
 have fin : ∀ (r : Rw0) (e : Int),Ret 153 [S.t (T.rows 4 a.n fun i => e68 (a.get i)),ii 8] (res153 r e) → ∃ y : Y,y.i 1 = e ∧ ∀ (ρ : Type) (K : Y → Option ρ),yC (regs O) 153 [S.t (T.rows 4 a.n fun i => e68 (a.get i)),ii 8] K = K y := fun r e h => by
  obtain ⟨y,h1,h2⟩ := yC_of (sh := .tup [.rows 6 0,.int .i64 1]) (y0 := ⟨fun _ => e,fun _ => false,fun _ => ⟨#[]⟩,fun _ => r,fun _ => []⟩) (by kernel_rfl) h
  refine ⟨y,?_,h2⟩
  have : build y (.int .i64 1) = ii e := by
   simp only [build,buildL,S.tup.injEq,List.cons.injEq] at h1
   exact h1.2.1
  simpa [build] using this
 by_cases hn : 8 < a.n
 ·have e : gtI (ofN a.n) 8 = true := by rw [show gtI (ofN a.n) 8 = decide (8 < a.n) from gtI_ofN (k := 8)]; simp [hn]
  have : reqsV a = 3 := by unfold reqsV; rw [e]; rfl
  rw [this]
  refine fin ⟨0,fun i => i.elim0⟩ 3 (W153 a 8 0 _ ?_)
  simp only [e153_in,e,cond_true]
  rw [rows06]; rfl
 ·have e : gtI (ofN a.n) 8 = false := by rw [show gtI (ofN a.n) 8 = decide (8 < a.n) from gtI_ofN (k := 8)]; simp [hn]
  let g : Nat → Option S := fun j => bif !(eqI (reqV (a.at j)) 0) then some (res153 ⟨0,fun i => i.elim0⟩ (reqV (a.at j))) else none
  have step : ∀ m j,j < a.n → x153 a (m + 1) j = (match g j with | some e => some e | none => x153 a m (j + 1)) := fun m j hj => by
   obtain ⟨h1,h2⟩ := chY_ok (a := a) (j := j) (ha.2 j hj)
   cases j with
   | zero =>
    show (X153n (regs O) a 8 (m + 1)).x0 = _
    rw [X153n]
    have hl : ltI 0 (ofN a.n) = true := by
     show ltI ((0 : Nat) : Int) (ofN a.n) = true
     rw [ltI_nat]; simpa using hj
    have he : ∀ (K : (0 : Int).toNat < a.n → Option S),elemO (0 : Int) a.n K = K (by simpa using hj) := fun K => elemO_nat (j := 0) hj
    have hg : a.get (Fin.mk (Int.ofNat 0).toNat (by simpa using hj)) = a.at 0 := get_nat (j := 0)
    simp only [X153s,b153_0,D153_1,hl,cond_true,he,hg,h2,h1,g]
    rw [rows06]
    cases eqI (reqV (a.at 0)) 0 <;> rfl
   | succ i =>
    show (X153n (regs O) a 8 (m + 1)).x1 (outs a (i + 1)) ((i + 1 : Nat) : Int) = _
    rw [X153n]
    have hf : fitsR (addN (outs a (i + 1)).n 1) 48 = true := fits8 (by rw [outs_n]; omega)
    simp only [X153s,b153_1,D153_1,ltI_nat,hj,decide_true,cond_true,elemO_nat hj,get_nat,h2,h1,g,hf,addI_nat1 (show i + 1 < 2 ^ 62 by omega)]
    rw [rows06]
    cases eqI (reqV (a.at (i + 1))) 0 <;> rfl
  have stop : ∀ m,x153 a (m + 1) a.n = some (res153 (outs a a.n) 0) := fun m => by
   have key : ∀ k,k = a.n → x153 a (m + 1) k = some (res153 (outs a k) 0) := fun k hk => by
    cases k with
    | zero =>
     show (X153n (regs O) a 8 (m + 1)).x0 = _
     rw [X153n]
     have hl : ltI 0 (ofN a.n) = false := by
      show ltI ((0 : Nat) : Int) (ofN a.n) = false
      rw [ltI_nat,← hk]; rfl
     simp only [X153s,b153_0,hl,cond_false]
     rw [rows06]; rfl
    | succ i =>
     show (X153n (regs O) a 8 (m + 1)).x1 (outs a (i + 1)) ((i + 1 : Nat) : Int) = _
     rw [X153n]
     simp only [X153s,b153_1,ltI_nat,← hk,Nat.lt_irrefl,decide_false,cond_false]
     rfl
   exact key a.n rfl
  have main : Ev (fun m => x153 a m 0) (((List.range a.n).findSome? g).getD (res153 (outs a a.n) 0)) :=
   Ev.loopN a.n g _ (fun j hj => ⟨fun e he => Ev.succ ⟨0,fun m _ => by show x153 a (m + 1) j = _; rw [step m j hj,he]⟩,fun hn v hv => Ev.succ (hv.of_eq fun m => by rw [step m j hj,hn])⟩) (Ev.succ ⟨0,fun m _ => stop m⟩)
  have fe : ∃ r,((List.range a.n).findSome? g).getD (res153 (outs a a.n) 0) = res153 r (reqsV a) := by
   have : reqsV a = firstE a.n fun j => reqV (a.at j) := by unfold reqsV; rw [e]; rfl
   rw [this]
   unfold firstE
   generalize List.range a.n = l
   induction l with
   | nil => exact ⟨_,rfl⟩
   | cons j l ih =>
    simp only [List.findSome?_cons,g]
    cases eqI (reqV (a.at j)) 0 with
    | true => exact ih
    | false => exact ⟨_,rfl⟩
  obtain ⟨r,hr⟩ := fe
  rw [hr] at main
  obtain ⟨n,h⟩ := main.get
  refine fin r _ (W153 a 8 n _ ?_)
  show e153_in (regs O) a 8 (D153_0 (X153n (regs O) a 8 n)) = _
  unfold e153_in
  rw [e]
  exact h
theorem c110 (a : Rw D68) (ha : smR sm68 a) : Ret 110 [S.t (T.rows 4 a.n fun i => e68 (a.get i))] (ii (reqsV a)) := by
 obtain ⟨y,hy,hK⟩ := c153 a ha
 have hK' : ∀ (ρ : Type) (K : Y → Option ρ),yC (regs O) 153 [S.t (T.rows 4 a.n fun i => e68 (a.get i)),ii 8] K = K y := hK
 exact W110 a 0 _ (by simp only [e110_in,hK',hy])
def isTx {n : Nat} (g : Fin n → List T) : Prop := ∀ i,∃ s,g i = [ts s]
theorem isTx_app {n m : Nat} {g : Fin n → List T} {g' : Fin m → List T} (h : isTx g) (h' : isTx g') : isTx (appGet g g') := fun i => by
 unfold appGet
 split
 ·exact h _
 ·exact h' _
theorem isTx_rw {n : Nat} {g : Fin n → List T} (h : isTx g) : ∃ r : Rw ByteArray,r.n = n ∧ T.rows 1 n g = T.rows 1 r.n fun i => [ts (r.get i)] := by
 refine ⟨⟨n,fun i => (h i).choose⟩,rfl,?_⟩
 have : g = fun i => [ts (h i).choose] := funext fun i => (h i).choose_spec
 exact congrArg (T.rows 1 n) this
theorem isTx_one (b : ByteArray) : isTx (fun i : Fin 1 => List.take 1 (List.drop (i.1 * 1) [T.v (Go.Value.string b)])) := fun i => by
 refine ⟨b,?_⟩
 have e : i.1 = 0 := by have := i.2; omega
 show List.take 1 (List.drop (i.1 * 1) _) = _
 rw [e]; rfl
abbrev txS (r : Rw ByteArray) : S := S.t (T.rows 1 r.n fun i => [ts (r.get i)])
theorem c219 (a : Rw ByteArray) (b : ByteArray) (ha : a.n < 2 ^ 62) : Ret 219 [txS a,ss b] (bb ((List.range a.n).any fun i => strEq (a.at i) b)) := by
 have L := Ev.anyC (X := fun m j => (X219n (regs O) a b m).x0 ((j : Nat) : Int)) 1 a.n (fun i => strEq (a.at i) b) (bb true) (fun m j hj => by
  show (X219n (regs O) a b (m + 1)).x0 (j : Int) = _
  rw [X219n]
  simp only [X219s,b219_0,D219_0,ltI_nat,hj,decide_true,cond_true,elemO_nat hj,get_nat,addI_nat1 (show j < 2 ^ 62 by omega)])
 have key : Ev (fun m => (X219n (regs O) a b m).x0 ((0 : Nat) : Int)) (bb ((List.range a.n).any fun i => strEq (a.at i) b)) := by
  cases h : (List.range a.n).any fun i => strEq (a.at i) b with
  | true => exact L.1 h
  | false =>
   refine L.2 h _ (Ev.one 1 fun m => ?_)
   show (X219n (regs O) a b (m + 1)).x0 ((a.n : Nat) : Int) = _
   rw [X219n]
   simp only [X219s,b219_0,ltI_nat,Nat.lt_irrefl,decide_false,cond_false]
 obtain ⟨n,h⟩ := key.get
 exact W219 a b n _ h
theorem fits16 {n : Nat} (h : n ≤ 1000) : fitsR n 16 = true := by
 unfold fitsR roomMax
 rw [Bool.and_eq_true,Nat.ble_eq,Nat.ble_eq]; omega
def insR (a : Rw ByteArray) (b : ByteArray) (j : Nat) (hj : j ≤ a.n) : Fin (j + 1 + (a.n - j)) → List T :=
 appGet (appGet (fun i : Fin j => [ts (a.get ⟨0 + i.1,by have := i.2; omega⟩)]) (fun i : Fin 1 => List.take 1 (List.drop (i.1 * 1) [T.v (Go.Value.string b)]))) (fun i : Fin (a.n - j) => [ts (a.get ⟨j + i.1,by have := i.2; omega⟩)])
theorem insR_tx (a : Rw ByteArray) (b : ByteArray) (j : Nat) (hj : j ≤ a.n) : isTx (insR a b j hj) := isTx_app (isTx_app (fun i => ⟨_,rfl⟩) (isTx_one b)) (fun i => ⟨_,rfl⟩)
theorem c220 (a : Rw ByteArray) (b : ByteArray) (ha : a.n ≤ 700) : ∃ r : Rw ByteArray,r.n ≤ a.n + 1 ∧ Ret 220 [txS a,ss b] (txS r) := by
 have key : ∀ k j,j + k = a.n → ∃ (n : Nat) (g : Fin n → List T),n ≤ a.n + 1 ∧ isTx g ∧ Ev (fun m => (X220n (regs O) a b m).x0 ((j : Nat) : Int)) (S.t (T.rows 1 n g)) := by
  intro k
  have tail : ∀ j,j ≤ a.n → (leI 0 (j : Int) && leI (j : Int) (ofN a.n)) = true ∧ leI (ofN a.n) (ofN a.n) = true ∧ fitsR (toN (j : Int)) 16 = true ∧ fitsR (addN (toN (j : Int)) 1) 16 = true ∧ fitsR (addN (addN (toN (j : Int)) 1) (subN a.n (toN (j : Int)))) 16 = true := fun j hj => by
   have h1 : (leI 0 (j : Int) && leI (j : Int) (ofN a.n)) = true := le_nat hj
   have h0 : toN (j : Int) = j := rfl
   refine ⟨h1,?_,fits16 (by omega),fits16 (by unfold addN; omega),fits16 (by unfold addN subN; omega)⟩
   unfold leI; simp
  induction k with
  | zero =>
   intro j hj
   obtain rfl : j = a.n := by omega
   obtain ⟨t1,t2,t3,t4,t5⟩ := tail a.n (Nat.le_refl _)
   have h : ∃ (n : Nat) (g : Fin n → List T),n ≤ a.n + 1 ∧ isTx g ∧ ∀ X,b220_0 (regs O) a b X ((a.n : Nat) : Int) = some (S.t (T.rows 1 n g)) := by
    refine ⟨_,insR a b a.n (Nat.le_refl _),by omega,insR_tx _ _ _ _,fun X => ?_⟩
    simp only [b220_0,ltI_nat,Nat.lt_irrefl,decide_false,cond_false,t1,t2,t3,t4,t5,Bool.and_self,cond_true]
    rw [subO_pos (show 0 + toN ((a.n : Nat) : Int) ≤ a.n by show 0 + a.n ≤ _; omega),subO_pos (show toN ((a.n : Nat) : Int) + subN a.n (toN ((a.n : Nat) : Int)) ≤ a.n by show a.n + (a.n - a.n) ≤ _; omega)]
    rfl
   obtain ⟨n,g,h1,h2,h3⟩ := h
   refine ⟨n,g,h1,h2,Ev.one 1 fun m => ?_⟩
   show (X220n (regs O) a b (m + 1)).x0 _ = _
   rw [X220n]
   exact h3 _
  | succ k ih =>
   intro j hj
   have hj1 : j < a.n := by omega
   obtain ⟨t1,t2,t3,t4,t5⟩ := tail j (by omega)
   cases hlt : strLt (a.at j) b with
   | true =>
    obtain ⟨n,g,h1,h2,h3⟩ := ih (j + 1) (by omega)
    refine ⟨n,g,h1,h2,Ev.succ (h3.of_eq fun m => ?_)⟩
    show (X220n (regs O) a b (m + 1)).x0 _ = _
    rw [X220n]
    simp only [X220s,b220_0,D220_0,ltI_nat,hj1,decide_true,cond_true,elemO_nat hj1,get_nat,hlt,addI_nat1 (show j < 2 ^ 62 by omega)]
   | false =>
    cases heq : strEq (a.at j) b with
    | true =>
     refine ⟨a.n,fun i => [ts (a.get i)],by omega,fun i => ⟨_,rfl⟩,Ev.one 1 fun m => ?_⟩
     show (X220n (regs O) a b (m + 1)).x0 _ = _
     rw [X220n]
     simp only [X220s,b220_0,ltI_nat,hj1,decide_true,cond_true,elemO_nat hj1,get_nat,hlt,heq,cond_false]
    | false =>
     have h : ∃ (n : Nat) (g : Fin n → List T),n ≤ a.n + 1 ∧ isTx g ∧ ∀ X,b220_0 (regs O) a b X (j : Int) = some (S.t (T.rows 1 n g)) := by
      refine ⟨_,insR a b j (by omega),by omega,insR_tx _ _ _ _,fun X => ?_⟩
      simp only [b220_0,ltI_nat,hj1,decide_true,cond_true,elemO_nat hj1,get_nat,hlt,heq,cond_false,t1,t2,t3,t4,t5,Bool.and_self]
      rw [subO_pos (show 0 + toN (j : Int) ≤ a.n by show 0 + j ≤ _; omega),subO_pos (show toN (j : Int) + subN a.n (toN (j : Int)) ≤ a.n by show j + (a.n - j) ≤ _; omega)]
      rfl
     obtain ⟨n,g,h1,h2,h3⟩ := h
     refine ⟨n,g,h1,h2,Ev.one 1 fun m => ?_⟩
     show (X220n (regs O) a b (m + 1)).x0 _ = _
     rw [X220n]
     exact h3 _
 obtain ⟨n,g,h1,h2,h3⟩ := key a.n 0 (by omega)
 obtain ⟨r,hr,he⟩ := isTx_rw h2
 refine ⟨r,by omega,?_⟩
 obtain ⟨m,h⟩ := h3.get
 rw [he] at h
 exact W220 a b m _ h
theorem c220n (b : ByteArray) : ∃ r : Rw ByteArray,r.n ≤ 1 ∧ Ret 220 [S.t (T.v (.slice none 0 0)),ss b] (txS r) := by
 have h : ∃ (n : Nat) (g : Fin n → List T),n ≤ 1 ∧ isTx g ∧ b220b_0 (regs O) b = some (S.t (T.rows 1 n g)) := by
  exact ⟨1,appGet (appGet (fun i : Fin 0 => i.elim0) (fun i : Fin 1 => List.take 1 (List.drop (i.1 * 1) [T.v (Go.Value.string b)]))) (fun i : Fin 0 => i.elim0),by decide,isTx_app (isTx_app (fun i => i.elim0) (isTx_one b)) (fun i => i.elim0),rfl⟩
 obtain ⟨n,g,h1,h2,h3⟩ := h
 obtain ⟨r,hr,he⟩ := isTx_rw h2
 refine ⟨r,by omega,W220b b 1 _ ?_⟩
 show e220b_in (regs O) b (D220b_0 (X220bn (regs O) b 1)) = some (S.t (T.rows 1 r.n fun i => [ts (r.get i)]))
 rw [← he]
 exact h3
theorem yC_row {f : FuncId} {args : List S} {r : Rw ByteArray} (hs : shF O.P f = some (.rows 1 0)) (h : Ret f args (txS r)) : ∃ y : Y,S.t (T.rows 1 (y.r 0).n (y.r 0).g) = txS r ∧ ∀ (ρ : Type) (K : Y → Option ρ),yC (regs O) f args K = K y := by
 obtain ⟨y,h1,h2⟩ := yC_of (y0 := ⟨fun _ => 0,fun _ => false,fun _ => ⟨#[]⟩,fun _ => ⟨r.n,fun i => [ts (r.get i)]⟩,fun _ => []⟩) hs h
 exact ⟨y,h1,h2⟩
def rwT (r : Rw ByteArray) : Rw0 := ⟨r.n,fun i => [ts (r.get i)]⟩
theorem eta_rw {y : Rw0} {r : Rw ByteArray} (h : S.t (T.rows 1 y.n y.g) = txS r) : y = rwT r := by
 obtain ⟨n,g⟩ := y
 simp only [S.t.injEq,T.rows.injEq,true_and] at h
 obtain ⟨rfl,h⟩ := h
 have := eq_of_heq h
 subst this
 rfl
theorem c191 (a : Rw ByteArray) (ha : a.n ≤ 600) : ∃ y : Y,∀ (ρ : Type) (K : Y → Option ρ),yC (regs O) 191 [txS a] K = K y := by
 have key : ∀ k j (r : Rw ByteArray),j + k = a.n → r.n ≤ j → ∃ r' : Rw ByteArray,Ev (fun m => (X191n (regs O) a m).x1 (rwT r) ((j : Nat) : Int)) (txS r') := by
  intro k
  induction k with
  | zero =>
   intro j r hj hr
   obtain rfl : j = a.n := by omega
   refine ⟨r,Ev.one 1 fun m => ?_⟩
   show (X191n (regs O) a (m + 1)).x1 _ _ = _
   rw [X191n]
   simp only [X191s,b191_1,ltI_nat,Nat.lt_irrefl,decide_false,cond_false]
   rfl
  | succ k ih =>
   intro j r hj hr
   have hj1 : j < a.n := by omega
   obtain ⟨r2,h1,h2⟩ := c220 r (a.at j) (by omega)
   obtain ⟨y,hy,hK⟩ := yC_row (by kernel_rfl) h2
   obtain ⟨r3,h3⟩ := ih (j + 1) r2 (by omega) (by omega)
   refine ⟨r3,Ev.succ (h3.of_eq fun m => ?_)⟩
   show (X191n (regs O) a (m + 1)).x1 _ _ = _
   rw [X191n]
   have hK' : ∀ (ρ : Type) (K : Y → Option ρ),yC (regs O) 220 [S.t (T.rows 1 (rwT r).n (rwT r).g),S.t (T.v (Go.Value.string (a.at j)))] K = K y := hK
   simp only [X191s,b191_1,D191_1,ltI_nat,hj1,decide_true,cond_true,elemO_nat hj1,get_nat,hK',eta_rw hy,addI_nat1 (show j < 2 ^ 62 by omega)]
 have top : ∃ r' : Rw ByteArray,Ev (fun m => (X191n (regs O) a m).x0) (txS r') := by
  by_cases h0 : 0 < a.n
  ·obtain ⟨r2,h1,h2⟩ := c220n (a.at 0)
   obtain ⟨y,hy,hK⟩ := yC_row (by kernel_rfl) h2
   obtain ⟨r3,h3⟩ := key (a.n - 1) 1 r2 (by omega) h1
   refine ⟨r3,Ev.succ (h3.of_eq fun m => ?_)⟩
   show (X191n (regs O) a (m + 1)).x0 = _
   rw [X191n]
   have hl : ltI 0 (ofN a.n) = true := by
    show ltI ((0 : Nat) : Int) (ofN a.n) = true
    rw [ltI_nat]; simpa using h0
   have he : ∀ (K : (0 : Int).toNat < a.n → Option S),elemO (0 : Int) a.n K = K (by simpa using h0) := fun K => elemO_nat (j := 0) h0
   have hg : a.get (Fin.mk (Int.ofNat 0).toNat (by simpa using h0)) = a.at 0 := get_nat (j := 0)
   simp only [X191s,b191_0,D191_1,hl,cond_true,he,hg,hK,eta_rw hy]
   rfl
  ·refine ⟨⟨0,fun i => i.elim0⟩,Ev.one 1 fun m => ?_⟩
   show (X191n (regs O) a (m + 1)).x0 = _
   rw [X191n]
   have hl : ltI 0 (ofN a.n) = false := by
    show ltI ((0 : Nat) : Int) (ofN a.n) = false
    rw [ltI_nat]; simpa using h0
   simp only [X191s,b191_0,hl,cond_false]
   have : ∀ g g' : Fin 0 → List T,S.t (T.rows 1 0 g) = S.t (T.rows 1 0 g') := fun g g' => by rw [show g = g' from funext fun i => i.elim0]
   exact congrArg some (this _ _)
 obtain ⟨r,h⟩ := top
 obtain ⟨n,h⟩ := h.get
 obtain ⟨y,_,hK⟩ := yC_row (by kernel_rfl) (W191 a n _ h)
 exact ⟨y,hK⟩
theorem c219n (b : ByteArray) : Ret 219 [S.t (T.v (.slice none 0 0)),ss b] (bb false) := W219b b 1 _ rfl
theorem c192 (lo hi : Int) (h1 : -2147483648 ≤ lo) (h2 : lo ≤ 2147483649) (h3 : -2147483649 ≤ hi) (h4 : hi ≤ 2147483648) : ∃ y : Y,∀ (ρ : Type) (K : Y → Option ρ),yC (regs O) 192 [ii lo,ii hi,S.t (T.v (.slice none 0 0))] K = K y := by
 have dec : ∀ n : Int,-2147483648 ≤ n → n ≤ 2147483648 → ∃ y : Y,∀ (ρ : Type) (K : Y → Option ρ),yC (regs O) 193 [ii n] K = K y := fun n a b => by
  obtain ⟨y,_,hK⟩ := yC_str (by kernel_rfl) (c193 n (by omega))
  exact ⟨y,hK⟩
 have non : ∀ b : ByteArray,∃ y : Y,y.b 0 = false ∧ ∀ (ρ : Type) (K : Y → Option ρ),yC (regs O) 219 [S.t (T.v (.slice none 0 0)),ss b] K = K y := fun b => yC_bool (by kernel_rfl) (c219n b)
 have any : ∀ (r : Rw ByteArray) (b : ByteArray),r.n < 2 ^ 62 → ∃ y : Y,∀ (ρ : Type) (K : Y → Option ρ),yC (regs O) 219 [S.t (T.rows 1 (rwT r).n (rwT r).g),ss b] K = K y := fun r b h => by
  obtain ⟨y,_,hK⟩ := yC_bool (by kernel_rfl) (c219 r b h)
  exact ⟨y,hK⟩
 have wr : ∀ (k : Nat) (n : Int) (r : Rw ByteArray),n + k = hi + 1 → -2147483648 ≤ n → r.n + k ≤ 600 → ∃ y : Y,Ev (fun m => (X192bn (regs O) lo hi m).x4 (rwT r) hi n) (build y sh218) := by
  intro k
  induction k with
  | zero =>
   intro n r hn h0 hr
   obtain ⟨z,hz⟩ := setS_b false false false (rwT r) 0 0 true
   refine ⟨z,Ev.succ ⟨0,fun m _ => ?_⟩⟩
   show (X192bn (regs O) lo hi (m + 1)).x4 (rwT r) hi n = _
   rw [X192bn]
   have e : leI n hi = false := by unfold leI; rw [decide_eq_false_iff_not]; omega
   simp only [X192bs,b192b_4,e,cond_false]
   rw [hz]; rfl
  | succ k ih =>
   intro n r hn h0 hr
   obtain ⟨y,hK⟩ := dec n h0 (by omega)
   obtain ⟨y2,hy2,hK2⟩ := non (y.s 0)
   obtain ⟨r2,q1,q2⟩ := c220 r (y.s 0) (by omega)
   obtain ⟨y3,hy3,hK3⟩ := yC_row (by kernel_rfl) q2
   obtain ⟨z,hz⟩ := ih (n + 1) r2 (by omega) (by omega) (by omega)
   refine ⟨z,Ev.succ (hz.of_eq fun m => ?_)⟩
   rw [X192bn]
   have e : leI n hi = true := by unfold leI; rw [decide_eq_true_eq]; omega
   have e2 : addI .i64 n 1 = n + 1 := i64 (n := n + 1) (by omega) (by omega)
   have hK3' : ∀ (ρ : Type) (K : Y → Option ρ),yC (regs O) 220 [S.t (T.rows 1 (rwT r).n (rwT r).g),S.t (T.v (Go.Value.string (y.s 0)))] K = K y3 := hK3
   simp only [X192bs,b192b_4,D192b_4,e,cond_true,hK,hK2,hy2,Bool.not_false,hK3',eta_rw hy3,e2]
 obtain ⟨y,hy⟩ : ∃ y : Y,Ev (fun m => (X192bn (regs O) lo hi m).x2 lo hi) (build y sh218) := by
  have e1 : subI .i64 (addI .i64 (subI .i64 hi lo) 1) (ofN 0) = hi - lo + 1 := by
   unfold subI addI
   rw [i64 (n := hi - lo) (by omega) (by omega)]
   show IntKind.i64.wrap (IntKind.i64.wrap (hi - lo + 1) - 0) = _
   rw [i64 (n := hi - lo + 1) (by omega) (by omega),i64 (by omega) (by omega)]; omega
  by_cases hm : hi - lo + 1 > 64
  ·obtain ⟨z,hz⟩ := setS_b false true true ⟨0,fun i => i.elim0⟩ lo hi true
   refine ⟨z,Ev.succ ⟨0,fun m _ => ?_⟩⟩
   show (X192bn (regs O) lo hi (m + 1)).x2 lo hi = _
   rw [X192bn]
   have e : leI (hi - lo + 1) 64 = false := by
    unfold leI; rw [decide_eq_false_iff_not]
    show ¬ (hi - lo + 1 ≤ 64)
    omega
   simp only [X192bs,b192b_2,e1,e,cond_false]
   rw [rows0,hz]; rfl
  ·have e : leI (hi - lo + 1) 64 = true := by
    unfold leI; rw [decide_eq_true_eq]
    show hi - lo + 1 ≤ 64
    omega
   suffices h : ∃ y : Y,Ev (fun m => (X192bn (regs O) lo hi m).x3 hi lo) (build y sh218) by
    obtain ⟨y,hy⟩ := h
    refine ⟨y,Ev.succ (hy.of_eq fun m => ?_)⟩
    rw [X192bn]
    simp only [X192bs,b192b_2,D192b_3,e1,e,cond_true]
   by_cases hl : hi < lo
   ·obtain ⟨z,hz⟩ := setS_b false false false ⟨0,fun i => i.elim0⟩ 0 0 true
    refine ⟨z,Ev.succ ⟨0,fun m _ => ?_⟩⟩
    show (X192bn (regs O) lo hi (m + 1)).x3 hi lo = _
    rw [X192bn]
    have e : leI lo hi = false := by unfold leI; rw [decide_eq_false_iff_not]; omega
    simp only [X192bs,b192b_3,e,cond_false]
    rw [rows0,hz]; rfl
   ·obtain ⟨y,hK⟩ := dec lo h1 (by omega)
    obtain ⟨y2,hy2,hK2⟩ := non (y.s 0)
    obtain ⟨r2,q1,q2⟩ := c220n (y.s 0)
    obtain ⟨y3,hy3,hK3⟩ := yC_row (by kernel_rfl) q2
    obtain ⟨z,hz⟩ := wr (hi - lo).toNat (lo + 1) r2 (by omega) (by omega) (by omega)
    refine ⟨z,Ev.succ (hz.of_eq fun m => ?_)⟩
    rw [X192bn]
    have e : leI lo hi = true := by unfold leI; rw [decide_eq_true_eq]; omega
    have e2 : addI .i64 lo 1 = lo + 1 := i64 (n := lo + 1) (by omega) (by omega)
    simp only [X192bs,b192b_3,D192b_4,e,cond_true,hK,hK2,hy2,Bool.not_false,hK3,eta_rw hy3,e2]
 have s1 : ∀ m,(X192bn (regs O) lo hi (m + 1)).x1 lo hi = (X192bn (regs O) lo hi m).x2 lo hi := fun m => by
  rw [X192bn]
  simp only [X192bs,b192b_1,D192b_2]
  cases e : leI lo hi with
  | false => rfl
  | true =>
   obtain ⟨y,hK⟩ := dec hi (by unfold leI at e; rw [decide_eq_true_eq] at e; omega) h4
   obtain ⟨y2,hy2,hK2⟩ := non (y.s 0)
   rw [cond_true,hK,hK2,hy2]; rfl
 have s0 : ∀ m,(X192bn (regs O) lo hi (m + 1)).x0 lo = (X192bn (regs O) lo hi m).x1 lo hi := fun m => by
  rw [X192bn]
  simp only [X192bs,b192b_0,D192b_1]
  cases e : leI lo hi with
  | false => rfl
  | true =>
   obtain ⟨y,hK⟩ := dec lo h1 (by unfold leI at e; rw [decide_eq_true_eq] at e; omega)
   obtain ⟨y2,hy2,hK2⟩ := non (y.s 0)
   rw [cond_true,hK,hK2,hy2]; rfl
 have key : Ev (fun m => (X192bn (regs O) lo hi m).x0 lo) (build y sh218) := Ev.add 2 (hy.of_eq fun m => by
  show (X192bn (regs O) lo hi (m + 2)).x0 lo = _
  rw [s0,s1])
 obtain ⟨n,h⟩ := key.get
 exact yC_any (sh := sh218) (y0 := y) (by kernel_rfl) (W192b lo hi n _ h)
end
end Go.Proofs.YtonkoellfaopiaaGreatDoor.H
