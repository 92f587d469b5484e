import Derived.Test.YtonkoellfaopiaaGreatDoorV23
set_option linter.unusedSimpArgs false
set_option linter.unusedVariables false
namespace Go.Proofs.YtonkoellfaopiaaGreatDoor.H
open Go
noncomputable section
abbrev Ent := D112 × D109
def keyOf (p : Ent) : D47 := ⟨p.1.fName,p.2.fZone,p.2.fKind⟩
def entS (p : Ent) : S := S.agg (ss p.1.fName :: ii p.1.fCap_0 :: ii p.1.fCap_1 :: ii p.1.fOver_0 :: ii p.1.fOver_1 :: S.t (T.rows 2 p.1.fLabels.n fun i => e88 (p.1.fLabels.get i)) :: S.t (T.rows 4 p.1.fOffers.n fun i => e109 (p.1.fOffers.get i)) :: List.map S.t (e109 p.2))
def encM (l : List Ent) : List (S × S) := l.map fun p => (ag (e47 (keyOf p)),entS p)
theorem encM_app (l r : List Ent) : encM (l ++ r) = encM l ++ encM r := by simp [encM]
theorem eqKey47 (a b : D47) : eqKey O.P O.K 47 (ag (e47 a)) (ag (e47 b)) = some (eq47 a b) := by kernel_rfl
theorem find_enc (b : D47) : ∀ (l : List Ent) (i : Nat),findS O.P O.K 47 (ag (e47 b)) (encM l) i = some ((l.findSome? fun p => bif eq47 b (keyOf p) then some p else none).bind fun _ => none) ∨ ∃ k p,l.find? (fun p => eq47 b (keyOf p)) = some p ∧ findS O.P O.K 47 (ag (e47 b)) (encM l) i = some (some (k,entS p))
 | [],i => .inl rfl
 | p :: l,i => by
  have hc : findS O.P O.K 47 (ag (e47 b)) (encM (p :: l)) i = bif eq47 b (keyOf p) then some (some (i,entS p)) else findS O.P O.K 47 (ag (e47 b)) (encM l) (i + 1) := by
   show (eqKey O.P O.K 47 (ag (e47 b)) (ag (e47 (keyOf p)))).bind _ = _
   rw [eqKey47]
   rfl
  rw [hc]
  cases h : eq47 b (keyOf p) with
  | true => exact .inr ⟨i,p,by simp [h],rfl⟩
  | false =>
   rcases find_enc b l (i + 1) with h1 | ⟨k,q,h1,h2⟩
   ·refine .inl ?_
    rw [cond_false,h1]
    simp [h]
   ·exact .inr ⟨k,q,by simp [h,h1],h2⟩
theorem find_none' {b : D47} {l : List Ent} (h : l.find? (fun p => eq47 b (keyOf p)) = none) (i : Nat) : findS O.P O.K 47 (ag (e47 b)) (encM l) i = some none := by
 rcases find_enc b l i with h1 | ⟨k,p,h1,_⟩
 ·rw [h1]
  congr 1
  cases l.findSome? (fun p => bif eq47 b (keyOf p) then some p else none) <;> rfl
 ·rw [h] at h1; cases h1
theorem find_some' {b : D47} {l : List Ent} {p : Ent} (h : l.find? (fun p => eq47 b (keyOf p)) = some p) (i : Nat) : ∃ k,findS O.P O.K 47 (ag (e47 b)) (encM l) i = some (some (k,entS p)) := by
 rcases find_enc b l i with h1 | ⟨k,q,h1,h2⟩
 ·exfalso
  have : ∀ (l : List Ent) (i : Nat),l.find? (fun p => eq47 b (keyOf p)) = some p → findS O.P O.K 47 (ag (e47 b)) (encM l) i ≠ some none := by
   intro l
   induction l with
   | nil => intro i h; cases h
   | cons q l ih =>
    intro i h
    have hc : findS O.P O.K 47 (ag (e47 b)) (encM (q :: l)) i = bif eq47 b (keyOf q) then some (some (i,entS q)) else findS O.P O.K 47 (ag (e47 b)) (encM l) (i + 1) := by
     show (eqKey O.P O.K 47 (ag (e47 b)) (ag (e47 (keyOf q)))).bind _ = _
     rw [eqKey47]
     rfl
    rw [hc]
    cases hq : eq47 b (keyOf q) with
    | true => simp
    | false =>
     rw [cond_false]
     exact ih (i + 1) (by simpa [hq] using h)
  refine this l i h ?_
  rw [h1]
  congr 1
  cases l.findSome? (fun p => bif eq47 b (keyOf p) then some p else none) <;> rfl
 ·rw [h] at h1
  obtain rfl := Option.some.inj h1
  exact ⟨k,h2⟩
theorem close_key (get : Nat → Option B) (d : Nat) (a : D47) : closeS get (d + 40) (ag (e47 a)) = some (ag (e47 a),[]) := rfl
theorem close_ent (get : Nat → Option B) (d : Nat) (p : Ent) : closeS get (d + 40) (entS p) = some (entS p,[]) := rfl
theorem closeE_enc (get : Nat → Option B) : ∀ (l : List Ent) (d : Nat),closeE get (d + 41 + l.length) (encM l) = some (encM l,[])
 | [],d => rfl
 | p :: l,d => by
  have e : d + 41 + (p :: l).length = (d + 41 + l.length) + 1 := by simp; omega
  rw [e]
  show closeE get ((d + 41 + l.length) + 1) ((ag (e47 (keyOf p)),entS p) :: encM l) = _
  unfold closeE
  have e2 : d + 41 + l.length = (d + 1 + l.length) + 40 := by omega
  have h1 := close_key get (d + 1 + l.length) (keyOf p)
  have h2 := close_ent get (d + 1 + l.length) p
  rw [← e2] at h1 h2
  simp only [h1,h2,closeE_enc get l d]
  rfl
theorem flat_enc {d : Nat} {l : List Ent} (h : l.length + 41 ≤ d) : FlatE d (encM l) where
 close := fun get => by
  have := closeE_enc get l (d - 41 - l.length)
  rwa [show d - 41 - l.length + 41 + l.length = d by omega] at this
 refs := by
  induction l with
  | nil => rfl
  | cons p l ih =>
   show refsE ((ag (e47 (keyOf p)),entS p) :: encM l) = []
   unfold refsE
   rw [ih (by simp at h; omega)]
   rfl
 ren := fun m => by
  induction l with
  | nil => rfl
  | cons p l ih =>
   show renE m ((ag (e47 (keyOf p)),entS p) :: encM l) = _
   unfold renE
   rw [ih (by simp at h; omega)]
   rfl
theorem flatW_enc {ρ : Type} {d : Nat} {l : List Ent} {K : Option ρ} (h : l.length + 41 ≤ d) : flatW d (encM l) K = K := by
 unfold flatW
 exact if_pos (flat_enc h)
theorem updW_new {ρ : Type} {l : List Ent} {p : Ent} {K : List (S × S) → Option ρ} (h : l.find? (fun q => eq47 (keyOf p) (keyOf q)) = none) : updW O.P O.K 47 (encM l) (ag (e47 (keyOf p))) (entS p) K = K (encM (l ++ [p])) := by
 unfold updW
 rw [find_none' h]
 rw [encM_app]
 rfl
theorem orE_eq_zero {a b : Int} : orE a b = 0 ↔ a = 0 ∧ b = 0 := by
 unfold orE
 cases h : eqI a 0 with
 | false =>
  have := eqI_false.1 h
  simp [this]
 | true =>
  have := eqI_true.1 h
  simp [this]
theorem wantE_eq_zero {b : Bool} {e : Int} (he : e ≠ 0) : wantE b e = 0 ↔ b = true := by
 unfold wantE
 cases b <;> simp [he]
theorem firstE_eq_zero {n : Nat} {g : Nat → Int} : firstE n g = 0 ↔ ∀ j,j < n → g j = 0 := by
 rw [← firstFrom_eq]
 have : ∀ k j,firstFrom g j k = 0 ↔ ∀ i,j ≤ i → i < j + k → g i = 0 := by
  intro k
  induction k with
  | zero => intro j; simp [firstFrom]; omega
  | succ k ih =>
   intro j
   unfold firstFrom
   rw [orE_eq_zero,ih]
   constructor
   ·rintro ⟨h1,h2⟩ i hi hk
    by_cases h : i = j
    ·rw [h]; exact h1
    ·exact h2 i (by omega) (by omega)
   ·intro h
    exact ⟨h j (by omega) (by omega),fun i hi hk => h i (by omega) (by omega)⟩
 rw [this]
 exact ⟨fun h j hj => h j (by omega) (by omega),fun h i _ hi => h i (by omega)⟩
structure TypesOk (a : Rw D112) : Prop where
 few : a.n ≤ 12
 names : ∀ i j,i < j → j < a.n → strEq (a.at i).fName (a.at j).fName = false
 offers : ∀ i,i < a.n → (a.at i).fOffers.n ≤ 6
 apart : ∀ i,i < a.n → ∀ k l,k < l → l < (a.at i).fOffers.n → same109 ((a.at i).fOffers.at k) ((a.at i).fOffers.at l) = false
theorem typesOk {a : Rw D112} (h : typesV a = 0) : TypesOk a := by
 unfold typesV at h
 cases hm : decide (12 < a.n) with
 | true => rw [hm] at h; exact absurd (show (3 : Int) = 0 from h) (by decide)
 | false =>
  rw [hm,cond_false] at h
  have hf := firstE_eq_zero.1 h
  have ht : ∀ j,j < a.n → typeV (a.at j) = 0 ∧ (!(List.range j).any (fun i => strEq (a.at i).fName (a.at j).fName)) = true := fun j hj => by
   have := hf j hj
   unfold typeE at this
   rw [orE_eq_zero,wantE_eq_zero (by decide)] at this
   exact this
  have ho : ∀ j,j < a.n → offeringsV (a.at j).fOffers = 0 := fun j hj => by
   have := (ht j hj).1
   unfold typeV at this
   simp only [orE_eq_zero] at this
   exact this.2.2.2.2.2
  have hof : ∀ j,j < a.n → (a.at j).fOffers.n ≤ 6 ∧ ∀ l,l < (a.at j).fOffers.n → offeringV (a.at j).fOffers l = 0 := fun j hj => by
   have := ho j hj
   unfold offeringsV at this
   cases hm : decide (6 < (a.at j).fOffers.n) with
   | true => rw [hm] at this; exact absurd (show (3 : Int) = 0 from this) (by decide)
   | false =>
    rw [hm,cond_false] at this
    exact ⟨by have := of_decide_eq_false hm; omega,firstE_eq_zero.1 this⟩
  refine ⟨by have := of_decide_eq_false hm; omega,fun i j hij hj => ?_,fun i hi => (hof i hi).1,fun i hi k l hkl hl => ?_⟩
  ·have := (ht j hj).2
   rw [Bool.not_eq_true'] at this
   have := List.any_eq_false.1 this i (List.mem_range.2 hij)
   simpa using this
  ·have := (hof i hi).2 l hl
   unfold offeringV at this
   simp only [orE_eq_zero] at this
   have := (wantE_eq_zero (show (6 : Int) ≠ 0 by decide)).1 this.2.2
   rw [Bool.not_eq_true'] at this
   have := List.any_eq_false.1 this k (List.mem_range.2 hkl)
   simpa using this
def offersOf (t : D112) (k : Nat) : List Ent := (List.range k).map fun k => (t,t.fOffers.at k)
def prI (a : Rw D112) (i : Nat) : List Ent := (List.range i).flatMap fun i => offersOf (a.at i) (a.at i).fOffers.n
theorem prI_succ (a : Rw D112) (i : Nat) : prI a (i + 1) = prI a i ++ offersOf (a.at i) (a.at i).fOffers.n := by
 unfold prI
 rw [List.range_succ,List.flatMap_append]
 simp
theorem offersOf_succ (t : D112) (k : Nat) : offersOf t (k + 1) = offersOf t k ++ [(t,t.fOffers.at k)] := by
 unfold offersOf
 rw [List.range_succ]
 simp
theorem prI_len {a : Rw D112} (h : TypesOk a) : ∀ i,i ≤ a.n → (prI a i).length ≤ 6 * i
 | 0,_ => by simp [prI]
 | i + 1,hi => by
  rw [prI_succ,List.length_append]
  have := prI_len h i (by omega)
  have := h.offers i (by omega)
  have : (offersOf (a.at i) (a.at i).fOffers.n).length = (a.at i).fOffers.n := by simp [offersOf]
  omega
theorem pr_new {a : Rw D112} (h : TypesOk a) {i k : Nat} (hi : i < a.n) (hk : k < (a.at i).fOffers.n) : (prI a i ++ offersOf (a.at i) k).find? (fun q => eq47 (keyOf (a.at i,(a.at i).fOffers.at k)) (keyOf q)) = none := by
 rw [List.find?_eq_none]
 intro q hq
 rcases List.mem_append.1 hq with hq | hq
 ·obtain ⟨i',hi',hq⟩ := List.mem_flatMap.1 hq
  obtain ⟨k',_,rfl⟩ := List.mem_map.1 hq
  have := h.names i' i (List.mem_range.1 hi') hi
  rw [strEq_comm] at this
  simp [eq47,keyOf,this]
 ·obtain ⟨k',hk',rfl⟩ := List.mem_map.1 hq
  have := h.apart i hi k' k (List.mem_range.1 hk') hk
  unfold same109 at this
  rw [strEq_comm,strEq_comm (a := (((a.at i).fOffers).at k').fKind)] at this
  simp only [eq47,keyOf,Bool.and_true,this,Bool.and_false,Bool.false_eq_true,not_false_eq_true]
def allL (a : Rw D112) : List Ent := bif eqI (typesV a) 0 then prI a a.n else []
theorem c83 (a : Rw D112) (ha : smR sm112 a) : Ret 83 [S.t (T.rows 7 a.n fun i => e112 (a.get i))] (S.mt (encM (allL a))) := by
 have hn := sm_lt ha.1
 obtain ⟨y,hy,hK⟩ := yC_int (by kernel_rfl) (c24 a ha)
 cases ht : eqI (typesV a) 0 with
 | false =>
  refine W83 a 0 _ ?_
  have f := flatW_enc (d := 999) (l := []) (K := some (S.mt [])) (by decide)
  have f : flatW 999 [] (some (S.mt [])) = some (S.mt []) := f
  simp only [e83_in,hK,hy,ht,Bool.not_false,cond_true,f]
  unfold allL
  rw [ht]
  rfl
 | true =>
  have ok := typesOk (eqI_true.1 ht)
  have inner : ∀ i,i < a.n → ∀ V,Ev (fun m => (X83n (regs O) a m).x0 ((i + 1 : Nat) : Int) (encM (prI a (i + 1)))) V → ∀ r k,k + r = (a.at i).fOffers.n → Ev (fun m => (X83n (regs O) a m).x1 (a.at i).fOffers (ofN (a.at i).fOffers.n) (a.at i) (k : Int) (encM (prI a i ++ offersOf (a.at i) k)) (i : Int)) V := by
   intro i hi V hV r
   have hi2 : i < 2 ^ 62 := by omega
   have h6 := ok.offers i hi
   have hl := prI_len ok i (by omega)
   have h12 := ok.few
   induction r with
   | zero =>
    intro k hk
    obtain rfl : k = (a.at i).fOffers.n := by omega
    refine Ev.by 1 (fun m => ?_) hV
    have len : (prI a i ++ offersOf (a.at i) (a.at i).fOffers.n).length + 41 ≤ 900 := by simp [offersOf]; omega
    rw [X83n]
    generalize X83n (regs O) a m = X
    simp only [X83s,b83_1,D83_0,ltI_nat,Nat.lt_irrefl,decide_false,cond_false,flatW_enc len,addI_nat1 hi2,prI_succ]
   | succ r ih =>
    intro k hk
    have hk1 : k < (a.at i).fOffers.n := by omega
    refine Ev.by 1 (fun m => ?_) (ih (k + 1) (by omega))
    have len : (prI a i ++ offersOf (a.at i) (k + 1)).length + 41 ≤ 900 := by simp [offersOf]; omega
    have upd := fun (K : List (S × S) → Option S) => updW_new (K := K) (pr_new ok hi hk1)
    rw [List.append_assoc,← offersOf_succ] at upd
    have upd : ∀ (K : List (S × S) → Option S),updW O.P O.K 47 (encM (prI a i ++ offersOf (a.at i) k)) (S.agg [ss (a.at i).fName,ss ((a.at i).fOffers.at k).fZone,ss ((a.at i).fOffers.at k).fKind]) (S.agg (ss (a.at i).fName :: ii (a.at i).fCap_0 :: ii (a.at i).fCap_1 :: ii (a.at i).fOver_0 :: ii (a.at i).fOver_1 :: S.t (T.rows 2 (a.at i).fLabels.n fun j => e88 ((a.at i).fLabels.get j)) :: S.t (T.rows 4 (a.at i).fOffers.n fun j => e109 ((a.at i).fOffers.get j)) :: List.map S.t (e109 ((a.at i).fOffers.at k)))) K = K (encM (prI a i ++ offersOf (a.at i) (k + 1))) := upd
    rw [X83n]
    generalize X83n (regs O) a m = X
    simp only [X83s,b83_1,D83_1,ltI_nat,hk1,decide_true,cond_true,elemO_nat hk1,get_nat,upd,flatW_enc len,addI_nat1 (show k < 2 ^ 62 by omega)]
  have outer : ∀ r i,i + r = a.n → Ev (fun m => (X83n (regs O) a m).x0 (i : Int) (encM (prI a i))) (S.mt (encM (prI a a.n))) := by
   intro r
   induction r with
   | zero =>
    intro i hi
    obtain rfl : i = a.n := by omega
    have hl := prI_len ok a.n (Nat.le_refl _)
    have h12 := ok.few
    refine Ev.one 1 fun m => ?_
    show (X83n (regs O) a (m + 1)).x0 (a.n : Int) (encM (prI a a.n)) = _
    rw [X83n]
    generalize X83n (regs O) a m = X
    simp only [X83s,b83_0,ltI_nat,Nat.lt_irrefl,decide_false,cond_false,flatW_enc (show (prI a a.n).length + 41 ≤ 900 by omega),flatW_enc (show (prI a a.n).length + 41 ≤ 999 by omega)]
   | succ r ih =>
    intro i hi
    have hi1 : i < a.n := by omega
    have hl := prI_len ok i (by omega)
    have h12 := ok.few
    have := inner i hi1 _ (ih (i + 1) (by omega)) (a.at i).fOffers.n 0 (by omega)
    have e0 : prI a i ++ offersOf (a.at i) 0 = prI a i := by simp [offersOf]
    rw [e0] at this
    refine Ev.by 1 (fun m => ?_) this
    rw [X83n]
    generalize X83n (regs O) a m = X
    simp only [X83s,b83_0,D83_1,ltI_nat,hi1,decide_true,cond_true,elemO_nat hi1,get_nat,flatW_enc (show (prI a i).length + 41 ≤ 900 by omega)]
    rfl
  obtain ⟨n,h⟩ := (outer a.n 0 (by omega)).get
  refine W83 a n _ ?_
  have f := flatW_enc (d := 900) (l := []) (K := (X83n (regs O) a n).x0 0 []) (by decide)
  have f : flatW 900 [] ((X83n (regs O) a n).x0 0 []) = (X83n (regs O) a n).x0 0 [] := f
  simp only [e83_in,hK,hy,ht,Bool.not_true,cond_false,D83_0,f]
  unfold allL
  rw [ht]
  exact h
def hasP (a : Rw D112) (b : D47) : Option Ent := (allL a).find? fun q => eq47 b (keyOf q)
def capOf (a : Rw D112) (b : D47) : Int × Int := match hasP a b with
 | some p => (subA p.1.fCap_0 p.1.fCap_1 p.1.fOver_0 p.1.fOver_1 p.1.fCap_0 p.1.fOver_0,subA p.1.fCap_0 p.1.fCap_1 p.1.fOver_0 p.1.fOver_1 p.1.fCap_1 p.1.fOver_1)
 | none => (0,0)
abbrev hasS (a : Rw D112) (b : D47) : S := .tup [.agg [ii (capOf a b).1,ii (capOf a b).2],bb (hasP a b).isSome]
theorem offersOf_pre (t : D112) (k d : Nat) : ∃ r,offersOf t (k + d) = offersOf t k ++ r := by
 unfold offersOf
 rw [List.range_add,List.map_append]
 exact ⟨_,rfl⟩
theorem prI_pre (a : Rw D112) (i d : Nat) : ∃ r,prI a (i + d) = prI a i ++ r := by
 unfold prI
 rw [List.range_add,List.flatMap_append]
 exact ⟨_,rfl⟩
theorem pr_split {a : Rw D112} {i k : Nat} (hi : i < a.n) (hk : k < (a.at i).fOffers.n) : ∃ r,prI a a.n = (prI a i ++ offersOf (a.at i) k) ++ (a.at i,(a.at i).fOffers.at k) :: r := by
 obtain ⟨r1,h1⟩ := prI_pre a (i + 1) (a.n - (i + 1))
 obtain ⟨r2,h2⟩ := offersOf_pre (a.at i) (k + 1) ((a.at i).fOffers.n - (k + 1))
 rw [show i + 1 + (a.n - (i + 1)) = a.n by omega] at h1
 rw [show k + 1 + ((a.at i).fOffers.n - (k + 1)) = (a.at i).fOffers.n by omega,offersOf_succ] at h2
 rw [h1,prI_succ,h2]
 exact ⟨r2 ++ r1,by simp⟩
def shFind : Sh := .tup [.agg [.str 0,.int .i64 1,.int .i64 2,.int .i64 3,.int .i64 4,.rows 2 5,.rows 4 6],.agg [.str 7,.str 8,.int .i64 9,.bool 10],.bool 11]
def foundY (p : Option Ent) : Y := match p with
 | some p => ⟨fun i => match i with | 1 => p.1.fCap_0 | 2 => p.1.fCap_1 | 3 => p.1.fOver_0 | 4 => p.1.fOver_1 | _ => p.2.fPrice,fun i => match i with | 10 => p.2.fOpen | _ => true,fun i => match i with | 0 => p.1.fName | 7 => p.2.fZone | _ => p.2.fKind,
   fun i => match i with | 5 => ⟨p.1.fLabels.n,fun i => e88 (p.1.fLabels.get i)⟩ | _ => ⟨p.1.fOffers.n,fun i => e109 (p.1.fOffers.get i)⟩,fun _ => []⟩
 | none => ⟨fun _ => 0,fun _ => false,fun _ => bs [],fun _ => ⟨0,fun i => i.elim0⟩,fun _ => []⟩
def foundS (p : Option Ent) : S := build (foundY p) shFind
theorem rowsE (sz : Nat) (g g' : Fin 0 → List T) : T.rows sz 0 g = T.rows sz 0 g' := by rw [show g = g' from funext fun i => i.elim0]
theorem c86r (a : Rw D112) (b : D47) (ha : smR sm112 a) : Ret 86 [S.t (T.rows 7 a.n fun i => e112 (a.get i)),ag (e47 b)] (foundS (hasP a b)) := by
 have hn := sm_lt ha.1
 obtain ⟨y,hy,hK⟩ := yC_int (by kernel_rfl) (c33 a ha)
 have non : ∀ g2 g4,S.tup [S.agg [ss (bs []),ii 0,ii 0,ii 0,ii 0,S.t (T.rows 2 0 g2),S.t (T.rows 4 0 g4)],S.agg [ss (bs []),ss (bs []),ii 0,bb false],bb false] = foundS none := fun g2 g4 => by
  rw [rowsE 2 g2 (fun i => i.elim0),rowsE 4 g4 (fun i => i.elim0)]; rfl
 by_cases hz : typesV a = 0
 ·have e0 : eqI (typesV a) 0 = true := by unfold eqI; simpa using hz
  have hall : hasP a b = (prI a a.n).find? fun q => eq47 b (keyOf q) := by unfold hasP allL; rw [e0]; rfl
  have small : ∀ i,i < a.n → (a.at i).fOffers.n < 2 ^ 62 := fun i hi => by have := (typesOk hz).offers i hi; omega
  have step : ∀ i k,i < a.n → k < (a.at i).fOffers.n → ∀ m,(X86n (regs O) a b (m + 2)).x1 (i : Int) (k : Int) = bif eq47 b (keyOf (a.at i,(a.at i).fOffers.at k)) then some (foundS (some (a.at i,(a.at i).fOffers.at k))) else (X86n (regs O) a b m).x1 (i : Int) ((k + 1 : Nat) : Int) := fun i k hi hk m => by
   have hs := small i hi
   have hg : ∀ h : (i : Int).toNat < a.n,a.get (Fin.mk (i : Int).toNat h) = a.at i := fun h => get_nat
   have hk' : ∀ h : (i : Int).toNat < a.n,k < (a.get (Fin.mk (i : Int).toNat h)).fOffers.n := fun h => by rw [hg]; exact hk
   have h2 : ∀ v z,(X86n (regs O) a b (m + 1)).x2 v z (i : Int) (k : Int) = bif z && strEq v.fKind b.fKind then some (S.tup [ag (e112 (a.at i)),ag (e109 v),bb true]) else (X86n (regs O) a b m).x1 (i : Int) ((k + 1 : Nat) : Int) := fun v z => by
    rw [X86n]
    simp only [X86s,b86_2,D86_1,elemO_nat hi,hg,addI_nat1 (show k < 2 ^ 62 by omega)]
    cases z with
    | false => rfl
    | true => cases strEq v.fKind b.fKind <;> rfl
   rw [X86n]
   generalize X86n (regs O) a b (m + 1) = X at h2 ⊢
   have hl : ltI (k : Int) (ofN (a.at i).fOffers.n) = true := by rw [ltI_nat]; simpa using hk
   simp only [X86s,b86_1,D86_2,elemO_nat hi,hl,cond_true,elemO_nat (hk' _),get_nat,h2]
   have e : eq47 b (keyOf (a.at i,(a.at i).fOffers.at k)) = (strEq (a.at i).fName b.fType && strEq ((a.at i).fOffers.at k).fZone b.fZone && strEq ((a.at i).fOffers.at k).fKind b.fKind) := by
    unfold eq47 keyOf
    rw [strEq_comm (a := b.fType),strEq_comm (a := b.fZone),strEq_comm (a := b.fKind)]
    cases strEq (a.at i).fName b.fType <;> cases strEq ((a.at i).fOffers.at k).fZone b.fZone <;> cases strEq ((a.at i).fOffers.at k).fKind b.fKind <;> rfl
   rw [e]
   cases strEq (a.at i).fName b.fType with
   | false => rfl
   | true => cases strEq ((a.at i).fOffers.at k).fZone b.fZone <;> cases strEq ((a.at i).fOffers.at k).fKind b.fKind <;> rfl
  have endK : ∀ i,i < a.n → ∀ m,(X86n (regs O) a b (m + 1)).x1 (i : Int) (((a.at i).fOffers.n : Nat) : Int) = (X86n (regs O) a b m).x0 ((i + 1 : Nat) : Int) := fun i hi m => by
   have hg : ∀ h : (i : Int).toNat < a.n,a.get (Fin.mk (i : Int).toNat h) = a.at i := fun h => get_nat
   have hl : ltI (((a.at i).fOffers.n : Nat) : Int) (ofN (a.at i).fOffers.n) = false := by rw [ltI_nat]; simp
   rw [X86n]
   simp only [X86s,b86_1,D86_0,elemO_nat hi,hg,hl,cond_false,addI_nat1 (show i < 2 ^ 62 by omega)]
  have inner : ∀ i,i < a.n → ((prI a (i + 1)).find? (fun q => eq47 b (keyOf q)) = none → Ev (fun m => (X86n (regs O) a b m).x0 ((i + 1 : Nat) : Int)) (foundS ((prI a a.n).find? fun q => eq47 b (keyOf q)))) →
    ∀ d k,k + d = (a.at i).fOffers.n → (prI a i ++ offersOf (a.at i) k).find? (fun q => eq47 b (keyOf q)) = none → Ev (fun m => (X86n (regs O) a b m).x1 (i : Int) (k : Int)) (foundS ((prI a a.n).find? fun q => eq47 b (keyOf q))) := by
   intro i hi nxt d
   induction d with
   | zero =>
    intro k hk hf
    obtain rfl : k = (a.at i).fOffers.n := by omega
    refine Ev.succ ((nxt (by rw [prI_succ]; exact hf)).of_eq fun m => ?_)
    exact endK i hi m
   | succ d ih =>
    intro k hk hf
    have hk1 : k < (a.at i).fOffers.n := by omega
    cases he : eq47 b (keyOf (a.at i,(a.at i).fOffers.at k)) with
    | true =>
     obtain ⟨r,hr⟩ := pr_split hi hk1
     have : (prI a a.n).find? (fun q => eq47 b (keyOf q)) = some (a.at i,(a.at i).fOffers.at k) := by
      rw [hr,List.find?_append,hf]
      simp only [Option.none_or,List.find?_cons,he]
     rw [this]
     refine Ev.one 2 fun m => ?_
     rw [step i k hi hk1,he]; rfl
    | false =>
     refine Ev.add 2 ((ih (k + 1) (by omega) (by rw [offersOf_succ,← List.append_assoc,List.find?_append,hf]; simp [he])).of_eq fun m => ?_)
     show (X86n (regs O) a b (m + 2)).x1 (i : Int) (k : Int) = _
     rw [step i k hi hk1,he]; rfl
  have outer : ∀ d i,i + d = a.n → (prI a i).find? (fun q => eq47 b (keyOf q)) = none → Ev (fun m => (X86n (regs O) a b m).x0 (i : Int)) (foundS ((prI a a.n).find? fun q => eq47 b (keyOf q))) := by
   intro d
   induction d with
   | zero =>
    intro i hi hf
    obtain rfl : i = a.n := by omega
    rw [hf]
    refine Ev.one 1 fun m => ?_
    rw [X86n]
    simp only [X86s,b86_0,ltI_nat,Nat.lt_irrefl,decide_false,cond_false]
    exact congrArg some (non _ _)
   | succ d ih =>
    intro i hi hf
    have hi1 : i < a.n := by omega
    refine Ev.succ ((inner i hi1 (fun h => ih (i + 1) (by omega) h) (a.at i).fOffers.n 0 (by omega) (by simpa [offersOf] using hf)).of_eq fun m => ?_)
    rw [X86n]
    simp only [X86s,b86_0,D86_1,ltI_nat,hi1,decide_true,cond_true]
    rfl
  obtain ⟨n,h⟩ := (outer a.n 0 (by omega) rfl).get
  rw [hall]
  refine W86 a b n _ ?_
  show e86_in (regs O) a b (D86_0 (X86n (regs O) a b n)) = _
  simp only [e86_in,hK,hy,e0,Bool.not_true,cond_false]
  exact h
 ·have e0 : eqI (typesV a) 0 = false := by unfold eqI; simpa using hz
  have : hasP a b = none := by unfold hasP allL; rw [e0]; rfl
  rw [this]
  refine W86 a b 0 _ ?_
  simp only [e86_in,hK,hy,e0,Bool.not_false,cond_true]
  exact congrArg some (non _ _)
theorem c86 (a : Rw D112) (b : D47) (ha : smR sm112 a) (hb : sm47 b) : ∃ y : Y,y.i 1 = ((hasP a b).map fun p => p.1.fCap_0).getD 0 ∧ y.i 2 = ((hasP a b).map fun p => p.1.fCap_1).getD 0 ∧ y.i 3 = ((hasP a b).map fun p => p.1.fOver_0).getD 0 ∧ y.i 4 = ((hasP a b).map fun p => p.1.fOver_1).getD 0 ∧ y.b 11 = (hasP a b).isSome ∧
  ∀ (ρ : Type) (K : Y → Option ρ),yC (regs O) 86 [S.t (T.rows 7 a.n fun i => e112 (a.get i)),ag (e47 b)] K = K y := by
 obtain ⟨y,h1,h2⟩ := yC_of (sh := shFind) (y0 := foundY (hasP a b)) (by kernel_rfl) (c86r a b ha)
 simp only [shFind,build,buildL,S.tup.injEq,S.agg.injEq,List.cons.injEq,S.t.injEq,T.v.injEq,Value.int.injEq,Value.bool.injEq,true_and,and_true] at h1
 obtain ⟨⟨_,q1,q2,q3,q4,_⟩,_,q5⟩ := h1
 refine ⟨y,?_,?_,?_,?_,?_,h2⟩
 ·rw [q1]; cases hasP a b <;> rfl
 ·rw [q2]; cases hasP a b <;> rfl
 ·rw [q3]; cases hasP a b <;> rfl
 ·rw [q4]; cases hasP a b <;> rfl
 ·rw [q5]; cases hasP a b <;> rfl
theorem yC_sub {f : FuncId} {args : List S} {x z e : Int} (hs : shF O.P f = some (.tup [.agg [.int .i64 0,.int .i64 1],.int .i64 2])) (h : Ret f args (S.tup [S.agg [ii x,ii z],ii e])) : ∃ y : Y,y.i 0 = x ∧ y.i 1 = z ∧ y.i 2 = e ∧ ∀ (ρ : Type) (K : Y → Option ρ),yC (regs O) f args K = K y := by
 obtain ⟨y,h1,h2⟩ := yC_of (y0 := ⟨fun i => match i with | 0 => x | 1 => z | _ => e,fun _ => false,fun _ => ⟨#[]⟩,fun _ => ⟨0,fun i => i.elim0⟩,fun _ => []⟩) hs h
 simp only [build,buildL,S.tup.injEq,S.agg.injEq,List.cons.injEq,S.t.injEq,T.v.injEq,Value.int.injEq,true_and,and_true] at h1
 exact ⟨y,h1.1.1,h1.1.2,h1.2,h2⟩
theorem yC_aab {f : FuncId} {args : List S} {x z : Int} {b : Bool} (hs : shF O.P f = some (.tup [.agg [.int .i64 0,.int .i64 1],.bool 2])) (h : Ret f args (S.tup [S.agg [ii x,ii z],bb b])) : ∃ y : Y,y.i 0 = x ∧ y.i 1 = z ∧ y.b 2 = b ∧ ∀ (ρ : Type) (K : Y → Option ρ),yC (regs O) f args K = K y := by
 obtain ⟨y,h1,h2⟩ := yC_of (y0 := ⟨fun i => match i with | 0 => x | _ => z,fun _ => b,fun _ => ⟨#[]⟩,fun _ => ⟨0,fun i => i.elim0⟩,fun _ => []⟩) hs h
 simp only [build,buildL,S.tup.injEq,S.agg.injEq,List.cons.injEq,S.t.injEq,T.v.injEq,Value.int.injEq,Value.bool.injEq,true_and,and_true] at h1
 exact ⟨y,h1.1.1,h1.1.2,h1.2,h2⟩
def entY (p : Ent) : Y := ⟨fun i => match i with | 1 => p.1.fCap_0 | 2 => p.1.fCap_1 | 3 => p.1.fOver_0 | 4 => p.1.fOver_1 | _ => p.2.fPrice,fun _ => p.2.fOpen,fun i => match i with | 0 => p.1.fName | 7 => p.2.fZone | _ => p.2.fKind,
 fun i => match i with | 5 => ⟨p.1.fLabels.n,fun i => e88 (p.1.fLabels.get i)⟩ | _ => ⟨p.1.fOffers.n,fun i => e109 (p.1.fOffers.get i)⟩,fun _ => []⟩
def sh141 : Sh := .agg [.str 0,.int .i64 1,.int .i64 2,.int .i64 3,.int .i64 4,.rows 2 5,.rows 4 6,.str 7,.str 8,.int .i64 9,.bool 10]
theorem shV141 : shV O.P 141 0 = some (sh141,11) := by kernel_rfl
theorem look_some {ρ : Type} {l : List Ent} {b : D47} {p : Ent} (h : l.find? (fun q => eq47 b (keyOf q)) = some p) : ∃ y : Y,y.i 1 = p.1.fCap_0 ∧ y.i 2 = p.1.fCap_1 ∧ y.i 3 = p.1.fOver_0 ∧ y.i 4 = p.1.fOver_1 ∧ ∀ (Kt : Y → Option ρ) (Kf : Option ρ),lookW O.P O.K 47 141 (encM l) (ag (e47 b)) Kt Kf = Kt y := by
 obtain ⟨k,hk⟩ := find_some' h 0
 obtain ⟨y,hy,he⟩ := unb_build (sh := sh141) (y := entY p)
 have hb : build (entY p) sh141 = entS p := rfl
 rw [hb] at hy he
 have he2 := he
 simp only [sh141,build,buildL,entS,e109,List.map,S.agg.injEq,List.cons.injEq,S.t.injEq,T.v.injEq,Value.int.injEq,true_and,and_true] at he2
 refine ⟨y,he2.2.1,he2.2.2.1,he2.2.2.2.1,he2.2.2.2.2.1,fun Kt Kf => ?_⟩
 unfold lookW
 rw [shV141,hk]
 dsimp only
 rw [hy]
 rfl
theorem look_none {ρ : Type} {l : List Ent} {b : D47} (h : l.find? (fun q => eq47 b (keyOf q)) = none) (Kt : Y → Option ρ) (Kf : Option ρ) : lookW O.P O.K 47 141 (encM l) (ag (e47 b)) Kt Kf = Kf := by
 unfold lookW
 rw [shV141,find_none' h]
theorem c63 (a : Rw D112) (b : D47) (ha : smR sm112 a) : Ret 63 [S.t (T.rows 7 a.n fun i => e112 (a.get i)),ag (e47 b)] (hasS a b) := by
 obtain ⟨y,hy,hK⟩ := yC_map (by kernel_rfl) (c83 a ha)
 refine W63 a b 0 _ ?_
 simp only [e63_in,hK,hy]
 unfold hasS capOf hasP
 cases h : (allL a).find? (fun q => eq47 b (keyOf q)) with
 | none =>
  rw [look_none h]
  obtain ⟨z,hz,hz1,hz2,hL⟩ := yC_sub (by kernel_rfl) (c115 0 0 0 0)
  simp only [hL,hz,hz1]
  all_goals rfl
 | some p =>
  obtain ⟨x,h1,h2,h3,h4,hM⟩ := look_some (ρ := S) h
  obtain ⟨z,hz,hz1,hz2,hL⟩ := yC_sub (by kernel_rfl) (c115 p.1.fCap_0 p.1.fCap_1 p.1.fOver_0 p.1.fOver_1)
  simp only [hM,h1,h2,h3,h4,hL,hz,hz1]
  all_goals rfl
theorem c78 (a : Rw D112) (b : D47) (ha : smR sm112 a) (hb : sm47 b) : Ret 78 [S.t (T.rows 7 a.n fun i => e112 (a.get i)),ag (e47 b)] (hasS a b) := by
 obtain ⟨y,h1,h2,h3,h4,h5,hK⟩ := c86 a b ha hb
 refine W78 a b 0 _ ?_
 simp only [e78_in,hK,h1,h2,h3,h4,h5]
 unfold hasS capOf
 cases h : hasP a b with
 | none =>
  obtain ⟨z,hz,hz1,hz2,hL⟩ := yC_sub (by kernel_rfl) (c132 0 0 0 0)
  simp only [Option.map_none,Option.getD_none,hL,hz,hz1]
  all_goals rfl
 | some p =>
  obtain ⟨z,hz,hz1,hz2,hL⟩ := yC_sub (by kernel_rfl) (c132 p.1.fCap_0 p.1.fCap_1 p.1.fOver_0 p.1.fOver_1)
  simp only [Option.map_some,Option.getD_some,hL,hz,hz1]
  all_goals rfl
def hasB (a : Rw D112) (b : D47) : Bool := (hasP a b).isSome
def knownB (a : Rw D112) (l : Rw D47) : Bool := (List.range l.n).all fun j => hasB a (l.at j)
theorem c119 (a : D47) (b : D33) (hb : smR sm112 b.fTypes) : Ret 119 [ag (e47 a),S.pt (e33 b)] (bb !hasB b.fTypes a) := by
 obtain ⟨y,hy,hy1,hy2,hK⟩ := yC_aab (by kernel_rfl) (c63 b.fTypes a hb)
 exact W119 a b 0 _ (by simp only [e119_in,hK,hy2]; rfl)
theorem c157 (a : Rw D47) (b : D33) (ha : a.n < 2 ^ 62) (hb : smR sm112 b.fTypes) : Ret 157 [S.t (T.rows 3 a.n fun i => e47 (a.get i)),S.fn (Go.Fn.func 119) [] [S.pt (e33 b)]] (ii (idx a.n fun j => !hasB b.fTypes (a.at j))) := by
 have key := Ev.idxC (X := fun m j => (X157n (regs O) a b m).x0 (j : Int)) 1 a.n (fun j => !hasB b.fTypes (a.at j)) (fun m j hj => by
  have hj2 : j < 2 ^ 62 := by omega
  obtain ⟨y,hy,hK⟩ := yC_bool (by kernel_rfl) (c119 (a.at j) b hb)
  simp only [X157n,X157s,b157_0,D157_0,ltI_nat,elemO_nat hj,get_nat,hj,decide_true,cond_true,addI_nat1 hj2,hK,hy]) (fun m => by
  simp only [X157n,X157s,b157_0,D157_0,ltI_nat,Nat.lt_irrefl,decide_false,cond_false]; rfl)
 obtain ⟨n,h⟩ := key.get
 exact W157 a b n _ h
theorem c118 (a : Rw D47) (b : D33) (ha : a.n < 2 ^ 62) (hb : smR sm112 b.fTypes) : Ret 118 [S.t (T.rows 3 a.n fun i => e47 (a.get i)),S.fn (Go.Fn.func 119) [] [S.pt (e33 b)]] (bb ((List.range a.n).any fun j => !hasB b.fTypes (a.at j))) := by
 obtain ⟨y,hy,hK⟩ := yC_int (by kernel_rfl) (c157 a b ha hb)
 exact W118 a b 0 _ (by simp only [e118_in,hK,hy,idx_ge])
theorem c65 (a : D33) (b : Rw D47) (hb : b.n < 2 ^ 62) (ha : smR sm112 a.fTypes) : Ret 65 [ag (e33 a),S.t (T.rows 3 b.n fun i => e47 (b.get i))] (bb (knownB a.fTypes b)) := by
 obtain ⟨y,hy,hK⟩ := yC_bool (by kernel_rfl) (c118 b a hb ha)
 refine W65 a b 0 _ ?_
 simp only [e65_in,hK,hy,List.not_any_eq_all_not,Bool.not_not]
 rfl
theorem c77 (a : Rw D112) (b : Rw D47) (ha : smR sm112 a) (hb : smR sm47 b) : Ret 77 [S.t (T.rows 7 a.n fun i => e112 (a.get i)),S.t (T.rows 3 b.n fun i => e47 (b.get i))] (bb (knownB a b)) := by
 have hn := sm_lt hb.1
 have key := Ev.loopN (X := fun m j => (X77n (regs O) a b m).x0 (j : Int)) b.n (fun j => bif hasB a (b.at j) then none else some (bb false)) (bb true) (fun j hj => by
  have hj2 : j < 2 ^ 62 := by omega
  obtain ⟨y,hy,hy1,hy2,hK⟩ := yC_aab (by kernel_rfl) (c78 a (b.at j) ha (hb.2 j hj))
  have hy2 : y.b 2 = hasB a (b.at j) := hy2
  have one : ∀ m,(X77n (regs O) a b (m + 1)).x0 (j : Int) = bif hasB a (b.at j) then (X77n (regs O) a b m).x0 ((j + 1 : Nat) : Int) else some (bb false) := fun m => by
   simp only [X77n,X77s,b77_0,D77_0,ltI_nat,elemO_nat hj,get_nat,hj,decide_true,cond_true,addI_nat1 hj2,hK,hy2]
   cases hasB a (b.at j) <;> rfl
  cases h : hasB a (b.at j) with
  | true => exact ⟨fun e he => (by cases he),fun _ v hv => Ev.by 1 (fun m => by rw [one,h]; rfl) hv⟩
  | false => exact ⟨fun e he => (by obtain rfl := Option.some.inj he; exact Ev.one 1 fun m => by rw [one,h]; rfl),fun hn => (by cases hn)⟩) (Ev.one 1 fun m => by
  simp only [X77n,X77s,b77_0,D77_0,ltI_nat,Nat.lt_irrefl,decide_false,cond_false])
 rw [find_all (p := fun j => hasB a (b.at j)) (fun j => rfl)] at key
 have e : (bif (List.range b.n).all (fun j => hasB a (b.at j)) then bb true else bb false) = bb (knownB a b) := by
  unfold knownB
  cases (List.range b.n).all (fun j => hasB a (b.at j)) <;> rfl
 rw [e] at key
 obtain ⟨n,h⟩ := key.get
 exact W77 a b n _ h
def poolIn (a : D33) (b : ByteArray) : Bool := (List.range a.fPools.n).any fun j => strEq (a.fPools.at j).fName b
def claimIn (a : D33) (b : ByteArray) : Bool := (List.range a.fClaims.n).any fun j => strEq (a.fClaims.at j).fName b
theorem c156 (a : Rw D77) (b : ByteArray) (ha : a.n < 2 ^ 62) : Ret 156 [S.t (T.rows 10 a.n fun i => e77 (a.get i)),S.fn (Go.Fn.func 117) [] [S.pt [ts b]]] (ii (idx a.n fun j => strEq (a.at j).fName b)) := by
 have key := Ev.idxC (X := fun m j => (X156n (regs O) a b m).x0 (j : Int)) 1 a.n (fun j => strEq (a.at j).fName b) (fun m j hj => by
  have hj2 : j < 2 ^ 62 := by omega
  obtain ⟨y,hy,hK⟩ := yC_bool (x := strEq (a.at j).fName b) (by kernel_rfl) (W117 (a.at j) b 0 _ rfl)
  simp only [X156n,X156s,b156_0,D156_0,ltI_nat,elemO_nat hj,get_nat,hj,decide_true,cond_true,addI_nat1 hj2,hK,hy]) (fun m => by
  simp only [X156n,X156s,b156_0,D156_0,ltI_nat,Nat.lt_irrefl,decide_false,cond_false]; rfl)
 obtain ⟨n,h⟩ := key.get
 exact W156 a b n _ h
theorem c64 (a : D33) (b : ByteArray) (ha : a.fPools.n < 2 ^ 62) : Ret 64 [ag (e33 a),ss b] (bb (poolIn a b)) := by
 obtain ⟨y,hy,hK⟩ := yC_int (by kernel_rfl) (c156 a.fPools b ha)
 have h : Ret 116 [S.t (T.rows 10 a.fPools.n fun i => e77 (a.fPools.get i)),S.fn (Go.Fn.func 117) [] [S.pt [ts b]]] (bb (poolIn a b)) := W116 a.fPools b 0 _ (by simp only [e116_in,hK,hy,idx_ge]; rfl)
 obtain ⟨z,hz,hL⟩ := yC_bool (by kernel_rfl) h
 exact W64 a b 0 _ (by simp only [e64_in,hL,hz])
theorem c160 (a : Rw D52) (b : ByteArray) (ha : a.n < 2 ^ 62) : Ret 160 [S.t (T.rows 15 a.n fun i => e52 (a.get i)),S.fn (Go.Fn.func 124) [] [S.pt [ts b]]] (ii (idx a.n fun j => strEq (a.at j).fName b)) := by
 have key := Ev.idxC (X := fun m j => (X160n (regs O) a b m).x0 (j : Int)) 1 a.n (fun j => strEq (a.at j).fName b) (fun m j hj => by
  have hj2 : j < 2 ^ 62 := by omega
  obtain ⟨y,hy,hK⟩ := yC_bool (x := strEq (a.at j).fName b) (by kernel_rfl) (W124 (a.at j) b 0 _ rfl)
  simp only [X160n,X160s,b160_0,D160_0,ltI_nat,elemO_nat hj,get_nat,hj,decide_true,cond_true,addI_nat1 hj2,hK,hy]) (fun m => by
  simp only [X160n,X160s,b160_0,D160_0,ltI_nat,Nat.lt_irrefl,decide_false,cond_false]; rfl)
 obtain ⟨n,h⟩ := key.get
 exact W160 a b n _ h
theorem c67 (a : D33) (b : ByteArray) (ha : a.fClaims.n < 2 ^ 62) : Ret 67 [ag (e33 a),ss b] (bb (claimIn a b)) := by
 obtain ⟨y,hy,hK⟩ := yC_int (by kernel_rfl) (c160 a.fClaims b ha)
 have h : Ret 123 [S.t (T.rows 15 a.fClaims.n fun i => e52 (a.fClaims.get i)),S.fn (Go.Fn.func 124) [] [S.pt [ts b]]] (bb (claimIn a b)) := W123 a.fClaims b 0 _ (by simp only [e123_in,hK,hy,idx_ge]; rfl)
 obtain ⟨z,hz,hL⟩ := yC_bool (by kernel_rfl) h
 exact W67 a b 0 _ (by simp only [e67_in,hL,hz])
theorem less_total : ∀ (a b : List UInt8),(Op.bytesLess a b || decide (a = b)) = !Op.bytesLess b a
 | [],[] => rfl
 | [],_ :: _ => rfl
 | _ :: _,[] => rfl
 | x :: a,y :: b => by
  have ih := less_total a b
  unfold Op.bytesLess
  by_cases h : x = y
  ·subst h
   simp
   simpa using ih
  ·have : x < y ∨ y < x := by
    rcases Nat.lt_or_gt_of_ne (fun e => h (UInt8.toNat_inj.1 e) : x.toNat ≠ y.toNat) with h | h
    ·exact .inl h
    ·exact .inr h
   rcases this with h1 | h1
   ·have h2 : ¬ y < x := fun h2 => absurd (Nat.lt_trans h1 h2) (Nat.lt_irrefl _)
    simp [h,h1,h2,Ne.symm h]
   ·have h2 : ¬ x < y := fun h2 => absurd (Nat.lt_trans h1 h2) (Nat.lt_irrefl _)
    simp [h,h1,h2,Ne.symm h]
theorem lt_total (a b : ByteArray) : (strLt a b || strEq a b) = !strLt b a := by
 unfold strLt
 rw [strEq_data]
 exact less_total _ _
def prevS (f : Nat → ByteArray) (j : Nat) : ByteArray := if j = 0 then bs [] else f (j - 1)
def ordB (f : Nat → ByteArray) (j : Nat) : Bool := decide (j = 0) || strLt (f (j - 1)) (f j)
theorem prevS_succ (f : Nat → ByteArray) (j : Nat) : prevS f (j + 1) = f j := by simp [prevS]
theorem lt_empty {a : ByteArray} (h : ¬ sizeN a = 0) : strLt (bs []) a = true := by
 unfold strLt
 have : a.data.toList ≠ [] := fun e => h (by unfold sizeN; show a.data.size = 0; rw [← Array.length_toList,e]; rfl)
 cases hl : a.data.toList with
 | nil => exact absurd hl this
 | cons x l => rfl
theorem nameB_ne {a : ByteArray} (h : nameB a = true) : ¬ sizeN a = 0 := fun e => by
 unfold nameB at h
 rw [e] at h
 cases h
theorem last_ord {f : Nat → ByteArray} {j : Nat} (h : nameB (f j) = true) : (strLt (f j) (prevS f j) || strEq (f j) (prevS f j)) = !ordB f j := by
 rw [lt_total]
 unfold prevS ordB
 by_cases h0 : j = 0
 ·subst h0
  rw [if_pos rfl,lt_empty (nameB_ne h)]
  rfl
 ·rw [if_neg h0]
  simp [h0]
theorem orE_false {a : Int} (h : eqI a 0 = false) (r : Int) : orE a r = a := by unfold orE; rw [h]; rfl
theorem orE_true {a : Int} (h : eqI a 0 = true) (r : Int) : orE a r = r := by unfold orE; rw [h]; rfl
def poolN (a : D33) (i : Nat) : ByteArray := (a.fPools.at i).fName
def poolE (a : D33) (j : Nat) : Int := orE (poolV (a.fPools.at j)) (wantE (ordB (poolN a) j) 6)
theorem pool_name {x : D77} (h : poolV x = 0) : nameB x.fName = true := by
 unfold poolV at h
 exact (wantE_eq_zero (by decide)).1 (orE_eq_zero.1 h).1
theorem c25 (a : D33) (ha : smR sm77 a.fPools) : Ret 25 [ag (e33 a)] (ii (firstE a.fPools.n (poolE a))) := by
 have hn := sm_lt ha.1
 have key := Ev.errsC (X := fun m j => (X25n (regs O) a m).x0 (j : Int) (prevS (poolN a) j)) 1 a.fPools.n (poolE a) (fun m j hj => by
  have hj2 : j < 2 ^ 62 := by omega
  obtain ⟨y,hy,hK⟩ := yC_int (by kernel_rfl) (c61 (a.fPools.at j) (ha.2 j hj))
  show (X25n (regs O) a (m + 1)).x0 (j : Int) (prevS (poolN a) j) = bif !eqI (poolE a j) 0 then some (ii (poolE a j)) else (X25n (regs O) a m).x0 ((j + 1 : Nat) : Int) (prevS (poolN a) (j + 1))
  rw [X25n,prevS_succ]
  generalize X25n (regs O) a m = X
  simp only [X25s,b25_0,D25_0,ltI_nat,elemO_nat hj,get_nat,hj,decide_true,cond_true,addI_nat1 hj2,hK,hy]
  unfold poolE
  cases hc : eqI (poolV (a.fPools.at j)) 0 with
  | false => rw [orE_false hc,hc]; rfl
  | true =>
   rw [orE_true hc]
   have := last_ord (f := poolN a) (j := j) (pool_name (eqI_true.1 hc))
   simp only [Bool.not_true,cond_false]
   have this' : (strLt (a.fPools.at j).fName (prevS (poolN a) j) || strEq (a.fPools.at j).fName (prevS (poolN a) j)) = !ordB (poolN a) j := this
   rw [this']
   cases ordB (poolN a) j <;> rfl) (fun m => by
  show (X25n (regs O) a (m + 1)).x0 (a.fPools.n : Int) (prevS (poolN a) a.fPools.n) = _
  rw [X25n]
  generalize X25n (regs O) a m = X
  simp only [X25s,b25_0,D25_0,ltI_nat,Nat.lt_irrefl,decide_false,cond_false])
 obtain ⟨n,h⟩ := key.get
 exact W25 a n _ h
def podN (a : D33) (i : Nat) : ByteArray := (a.fPods.at i).fName
def podE (a : D33) (j : Nat) : Int := orE (podV (a.fPods.at j)) (orE (wantE (ordB (podN a) j) 6) (orE (wantE (decide (sizeN (a.fPods.at j).fOn = 0) || claimIn a (a.fPods.at j).fOn) 5) (wantE (leI (a.fPods.at j).fSince a.fNow) 1)))
theorem pod_name {x : D61} (h : podV x = 0) : nameB x.fName = true := by
 unfold podV at h
 have := (wantE_eq_zero (by decide)).1 (orE_eq_zero.1 h).1
 rw [Bool.and_eq_true] at this
 exact this.1
theorem c27 (a : D33) (ha : smR sm61 a.fPods) (hc : a.fClaims.n < 2 ^ 62) : Ret 27 [ag (e33 a)] (ii (firstE a.fPods.n (podE a))) := by
 have hn := sm_lt ha.1
 have key := Ev.errsC (X := fun m j => (X27n (regs O) a m).x0 (j : Int) (prevS (podN a) j)) 2 a.fPods.n (podE a) (fun m j hj => by
  have hj2 : j < 2 ^ 62 := by omega
  obtain ⟨y,hy,hK⟩ := yC_int (by kernel_rfl) (c66 (a.fPods.at j) (ha.2 j hj))
  obtain ⟨z,hz,hL⟩ := yC_bool (by kernel_rfl) (c67 a (a.fPods.at j).fOn hc)
  show (X27n (regs O) a (m + 2)).x0 (j : Int) (prevS (podN a) j) = bif !eqI (podE a j) 0 then some (ii (podE a j)) else (X27n (regs O) a m).x0 ((j + 1 : Nat) : Int) (prevS (podN a) (j + 1))
  have h1 : ∀ b,(X27n (regs O) a (m + 1)).x1 (a.fPods.at j) b (j : Int) = bif b then some (ii 5) else bif gtI (a.fPods.at j).fSince a.fNow then some (ii 1) else (X27n (regs O) a m).x0 ((j + 1 : Nat) : Int) (a.fPods.at j).fName := fun b => by
   rw [X27n]
   generalize X27n (regs O) a m = X
   simp only [X27s,b27_1,D27_0,addI_nat1 hj2]
  rw [X27n,prevS_succ]
  generalize X27n (regs O) a (m + 1) = X at h1 ⊢
  generalize X27n (regs O) a m = X' at h1 ⊢
  simp only [X27s,b27_0,D27_1,ltI_nat,elemO_nat hj,get_nat,hj,decide_true,cond_true,hK,hy,hL,hz,strEq_empty,h1]
  unfold podE
  cases hc : eqI (podV (a.fPods.at j)) 0 with
  | false => rw [orE_false hc,hc]; rfl
  | true =>
   rw [orE_true hc]
   have := last_ord (f := podN a) (j := j) (pod_name (eqI_true.1 hc))
   have this' : (strLt (a.fPods.at j).fName (prevS (podN a) j) || strEq (a.fPods.at j).fName (prevS (podN a) j)) = !ordB (podN a) j := this
   simp only [Bool.not_true,cond_false,this',gtI_leI]
   unfold orE wantE
   cases ordB (podN a) j <;> cases decide (sizeN (a.fPods.at j).fOn = 0) <;> cases claimIn a (a.fPods.at j).fOn <;> cases leI (a.fPods.at j).fSince a.fNow <;> rfl) (fun m => by
  show (X27n (regs O) a (m + 2)).x0 (a.fPods.n : Int) (prevS (podN a) a.fPods.n) = _
  rw [X27n]
  generalize X27n (regs O) a (m + 1) = X
  simp only [X27s,b27_0,ltI_nat,Nat.lt_irrefl,decide_false,cond_false])
 obtain ⟨n,h⟩ := key.get
 exact W27 a n _ h
def cmdE (a : D33) (j : Nat) : Int := orE (cmdV (a.fCommands.at j)) (wantE ((decide (sizeN (a.fCommands.at j).fPool = 0) || poolIn a (a.fCommands.at j).fPool) && knownB a.fTypes (a.fCommands.at j).fOpts) 5)
theorem c28 (a : D33) (ha : smR sm122 a.fCommands) (hp : a.fPools.n < 2 ^ 62) (ht : smR sm112 a.fTypes) : Ret 28 [ag (e33 a)] (ii (firstE a.fCommands.n (cmdE a))) := by
 have hn := sm_lt ha.1
 have key := Ev.errsC (X := fun m j => (X28n (regs O) a m).x0 (j : Int)) 2 a.fCommands.n (cmdE a) (fun m j hj => by
  have hj2 : j < 2 ^ 62 := by omega
  obtain ⟨y,hy,hK⟩ := yC_int (by kernel_rfl) (c68 (a.fCommands.at j) (ha.2 j hj))
  obtain ⟨z,hz,hL⟩ := yC_bool (by kernel_rfl) (c64 a (a.fCommands.at j).fPool hp)
  obtain ⟨x,hx,hM⟩ := yC_bool (by kernel_rfl) (c65 a (a.fCommands.at j).fOpts (sm_lt (ha.2 j hj).opts.1) ht)
  show (X28n (regs O) a (m + 2)).x0 (j : Int) = bif !eqI (cmdE a j) 0 then some (ii (cmdE a j)) else (X28n (regs O) a m).x0 ((j + 1 : Nat) : Int)
  have h1 : ∀ b,(X28n (regs O) a (m + 1)).x1 (a.fCommands.at j) b (j : Int) = bif b then some (ii 5) else bif !knownB a.fTypes (a.fCommands.at j).fOpts then some (ii 5) else (X28n (regs O) a m).x0 ((j + 1 : Nat) : Int) := fun b => by
   rw [X28n]
   generalize X28n (regs O) a m = X
   simp only [X28s,b28_1,D28_0,addI_nat1 hj2,hM,hx]
  rw [X28n]
  generalize X28n (regs O) a (m + 1) = X at h1 ⊢
  generalize X28n (regs O) a m = X' at h1 ⊢
  simp only [X28s,b28_0,D28_1,ltI_nat,elemO_nat hj,get_nat,hj,decide_true,cond_true,hK,hy,hL,hz,strEq_empty,h1]
  unfold cmdE
  cases hc : eqI (cmdV (a.fCommands.at j)) 0 with
  | false => rw [orE_false hc,hc]; rfl
  | true =>
   rw [orE_true hc]
   unfold wantE
   cases decide (sizeN (a.fCommands.at j).fPool = 0) <;> cases poolIn a (a.fCommands.at j).fPool <;> cases knownB a.fTypes (a.fCommands.at j).fOpts <;> rfl) (fun m => by
  show (X28n (regs O) a (m + 2)).x0 (a.fCommands.n : Int) = _
  rw [X28n]
  generalize X28n (regs O) a (m + 1) = X
  simp only [X28s,b28_0,ltI_nat,Nat.lt_irrefl,decide_false,cond_false])
 obtain ⟨n,h⟩ := key.get
 exact W28 a n _ h
theorem one47 (o : D47) : (fun i : Fin 1 => List.take 3 (List.drop (i.1 * 3) (e47 o))) = fun i : Fin 1 => e47 ((rwL [o]).get i) := by
 funext i
 obtain ⟨i,hi⟩ := i
 obtain rfl : i = 0 := by omega
 rfl
theorem known_one (a : Rw D112) (o : D47) : knownB a (rwL [o]) = hasB a o := by
 unfold knownB
 show (List.range 1).all _ = _
 simp only [List.range_one,List.all_cons,List.all_nil,Bool.and_true]
 rfl
theorem ret65 (a : D33) (o : D47) (ha : smR sm112 a.fTypes) : ∃ y : Y,y.b 0 = hasB a.fTypes o ∧ ∀ (ρ : Type) (K : Y → Option ρ),yC (regs O) 65 [ag (e33 a),S.t (T.rows 3 1 fun i => List.take 3 (List.drop (i.1 * 3) (e47 o)))] K = K y := by
 obtain ⟨y,hy,hK⟩ := yC_bool (by kernel_rfl) (c65 a (rwL [o]) (show (1 : Nat) < 2 ^ 62 by decide) ha)
 refine ⟨y,by rw [hy,known_one],fun ρ K => ?_⟩
 rw [one47]
 exact hK ρ K
theorem ret77 (a : Rw D112) (o : D47) (ha : smR sm112 a) (ho : sm47 o) : ∃ y : Y,y.b 0 = hasB a o ∧ ∀ (ρ : Type) (K : Y → Option ρ),yC (regs O) 77 [S.t (T.rows 7 a.n fun i => e112 (a.get i)),S.t (T.rows 3 1 fun i => List.take 3 (List.drop (i.1 * 3) (e47 o)))] K = K y := by
 obtain ⟨y,hy,hK⟩ := yC_bool (by kernel_rfl) (c77 a (rwL [o]) ha ⟨show (1 : Nat) ≤ _ by decide,fun i hi => by
  have hi : i < 1 := hi
  obtain rfl : i = 0 := by omega
  exact ho⟩)
 refine ⟨y,by rw [hy,known_one],fun ρ K => ?_⟩
 rw [one47]
 exact hK ρ K
def offC (c : D52) : D47 := ⟨c.fOffer_Type,c.fOffer_Zone,c.fOffer_Kind⟩
def claimNm (a : D33) (i : Nat) : ByteArray := (a.fClaims.at i).fName
def capB (a : D33) (c : D52) : Bool := eqI c.fCap_0 (capOf a.fTypes (offC c)).1 && eqI c.fCap_1 (capOf a.fTypes (offC c)).2
def claimE (a : D33) (j : Nat) : Int := orE (claimV (a.fClaims.at j)) (orE (wantE (ordB (claimNm a) j) 6) (orE (wantE (poolIn a (a.fClaims.at j).fPool && (hasB a.fTypes (offC (a.fClaims.at j)) && knownB a.fTypes (a.fClaims.at j).fOpts)) 5) (wantE (capB a (a.fClaims.at j)) 1)))
theorem claim_name {x : D52} (h : claimV x = 0) : nameB x.fName = true := by
 unfold claimV at h
 have := (wantE_eq_zero (by decide)).1 (orE_eq_zero.1 h).1
 unfold claimN at this
 rw [Bool.and_eq_true] at this
 exact this.1
theorem c26 (a : D33) (ha : smR sm52 a.fClaims) (hp : a.fPools.n < 2 ^ 62) (ht : smR sm112 a.fTypes) : Ret 26 [ag (e33 a)] (ii (firstE a.fClaims.n (claimE a))) := by
 have hn := sm_lt ha.1
 have key := Ev.errsC (X := fun m j => (X26n (regs O) a m).x0 (j : Int) (prevS (claimNm a) j)) 3 a.fClaims.n (claimE a) (fun m j hj => by
  have hj2 : j < 2 ^ 62 := by omega
  obtain ⟨y,hy,hK⟩ := yC_int (by kernel_rfl) (c62 (a.fClaims.at j) (ha.2 j hj))
  obtain ⟨h,hh0,hh1,hh2,hH⟩ := yC_aab (by kernel_rfl) (c63 a.fTypes (offC (a.fClaims.at j)) ht)
  have hH : ∀ (ρ : Type) (K : Y → Option ρ),yC (regs O) 63 [S.t (T.rows 7 a.fTypes.n fun i => e112 (a.fTypes.get i)),S.agg [ss (a.fClaims.at j).fOffer_Type,ss (a.fClaims.at j).fOffer_Zone,ss (a.fClaims.at j).fOffer_Kind]] K = K h := hH
  obtain ⟨z,hz,hL⟩ := yC_bool (by kernel_rfl) (c64 a (a.fClaims.at j).fPool hp)
  obtain ⟨o,ho,hO⟩ := ret65 a (offC (a.fClaims.at j)) ht
  have hO : ∀ (ρ : Type) (K : Y → Option ρ),yC (regs O) 65 [ag (e33 a),S.t (T.rows 3 1 fun i => List.take 3 (List.drop (i.1 * 3) [ts (a.fClaims.at j).fOffer_Type,ts (a.fClaims.at j).fOffer_Zone,ts (a.fClaims.at j).fOffer_Kind]))] K = K o := hO
  obtain ⟨x,hx,hM⟩ := yC_bool (by kernel_rfl) (c65 a (a.fClaims.at j).fOpts (sm_lt (ha.2 j hj).opts.1) ht)
  show (X26n (regs O) a (m + 3)).x0 (j : Int) (prevS (claimNm a) j) = bif !eqI (claimE a j) 0 then some (ii (claimE a j)) else (X26n (regs O) a m).x0 ((j + 1 : Nat) : Int) (prevS (claimNm a) (j + 1))
  rw [prevS_succ]
  have k3 : ∀ b v2 v3,(X26n (regs O) a (m + 1)).x3 b (a.fClaims.at j) v2 v3 (j : Int) = bif b then some (ii 5) else bif !(eqI (a.fClaims.at j).fCap_0 v2 && (eqI (a.fClaims.at j).fCap_1 v3 && true)) then some (ii 1) else (X26n (regs O) a m).x0 ((j + 1 : Nat) : Int) (claimNm a j) := fun b v2 v3 => by
   rw [X26n]
   generalize X26n (regs O) a m = X
   simp only [X26s,b26_3,D26_0,addI_nat1 hj2]
   rfl
  have k1 : ∀ b v2 v3,(X26n (regs O) a (m + 2)).x1 b (a.fClaims.at j) v2 v3 (j : Int) = bif b || !knownB a.fTypes (a.fClaims.at j).fOpts then some (ii 5) else bif !(eqI (a.fClaims.at j).fCap_0 v2 && (eqI (a.fClaims.at j).fCap_1 v3 && true)) then some (ii 1) else (X26n (regs O) a m).x0 ((j + 1 : Nat) : Int) (claimNm a j) := fun b v2 v3 => by
   rw [X26n]
   generalize X26n (regs O) a (m + 1) = X at k3 ⊢
   generalize X26n (regs O) a m = X' at k3 ⊢
   simp only [X26s,b26_1,D26_3,hM,hx,k3]
   cases b <;> cases knownB a.fTypes (a.fClaims.at j).fOpts <;> rfl
  have k4 : (X26n (regs O) a (m + 1)).x4 = some (ii 5) := by
   rw [X26n]
   generalize X26n (regs O) a m = X
   simp only [X26s,b26_4]
  have k2 : (X26n (regs O) a (m + 2)).x2 = some (ii 5) := by
   rw [X26n]
   generalize X26n (regs O) a (m + 1) = X at k4 ⊢
   simp only [X26s,b26_2,D26_4,k4]
  rw [X26n]
  generalize X26n (regs O) a (m + 2) = X at k1 k2 ⊢
  generalize X26n (regs O) a m = X' at k1 ⊢
  simp only [X26s,b26_0,D26_1,D26_2,ltI_nat,elemO_nat hj,get_nat,hj,decide_true,cond_true,hK,hy,hH,hh0,hh1,hh2,hL,hz,hO,ho,k1,k2]
  unfold claimE
  cases hc : eqI (claimV (a.fClaims.at j)) 0 with
  | false => rw [orE_false hc,hc]; rfl
  | true =>
   rw [orE_true hc]
   have := last_ord (f := claimNm a) (j := j) (claim_name (eqI_true.1 hc))
   have this' : (strLt (a.fClaims.at j).fName (prevS (claimNm a) j) || strEq (a.fClaims.at j).fName (prevS (claimNm a) j)) = !ordB (claimNm a) j := this
   simp only [Bool.not_true,cond_false,this',Bool.and_true]
   have ec : (eqI (a.fClaims.at j).fCap_0 (capOf a.fTypes (offC (a.fClaims.at j))).1 && eqI (a.fClaims.at j).fCap_1 (capOf a.fTypes (offC (a.fClaims.at j))).2) = capB a (a.fClaims.at j) := rfl
   simp only [ec]
   unfold orE wantE
   cases ordB (claimNm a) j <;> cases poolIn a (a.fClaims.at j).fPool <;> cases hasB a.fTypes (offC (a.fClaims.at j)) <;> cases knownB a.fTypes (a.fClaims.at j).fOpts <;> cases capB a (a.fClaims.at j) <;> rfl) (fun m => by
  show (X26n (regs O) a (m + 3)).x0 (a.fClaims.n : Int) (prevS (claimNm a) a.fClaims.n) = _
  rw [X26n]
  generalize X26n (regs O) a (m + 2) = X
  simp only [X26s,b26_0,ltI_nat,Nat.lt_irrefl,decide_false,cond_false])
 obtain ⟨n,h⟩ := key.get
 exact W26 a n _ h
theorem yC_pair {f : FuncId} {args : List S} {l : List Sh} {j : Nat} {x : S} {b : Bool} {y0 : Y} (hs : shF O.P f = some (.tup [.agg l,.bool j])) (h : Ret f args (S.tup [x,bb b])) (hx : build y0 (.agg l) = x) (hb : y0.b j = b) : ∃ y : Y,y.b j = b ∧ ∀ (ρ : Type) (K : Y → Option ρ),yC (regs O) f args K = K y := by
 subst hx
 subst hb
 obtain ⟨y,h1,h2⟩ := yC_of (y0 := y0) hs h
 simp only [build,buildL,S.tup.injEq,List.cons.injEq,S.t.injEq,T.v.injEq,Value.bool.injEq,and_true] at h1
 exact ⟨y,h1.2,h2⟩
def yPool (x : D77) (b : Bool) : Y := ⟨fun i => match i with | 1 => x.fWeight | 2 => x.fLimit_0 | 3 => x.fLimit_1 | 6 => x.fGen | 7 => x.fExpire | 8 => x.fBudget | _ => x.fMerge,fun _ => b,fun _ => x.fName,
 fun i => match i with | 4 => ⟨x.fReqs.n,fun i => e68 (x.fReqs.get i)⟩ | _ => ⟨x.fTaints.n,fun i => e88 (x.fTaints.get i)⟩,fun _ => []⟩
def shPool : List Sh := [.str 0,.int .i64 1,.int .i64 2,.int .i64 3,.rows 4 4,.rows 2 5,.int .i64 6,.int .i64 7,.int .i64 8,.int .i64 9]
theorem find_first {ρ : Type} {n : Nat} {p : Nat → Bool} {g : Nat → ρ} {r : ρ} : ∃ j,((List.range n).findSome? fun j => bif p j then some (g j) else none).getD r = (bif (List.range n).any p then g j else r) := by
 generalize List.range n = l
 induction l with
 | nil => exact ⟨0,rfl⟩
 | cons i l ih =>
  cases h : p i with
  | true => exact ⟨i,by simp [h]⟩
  | false =>
   obtain ⟨j,hj⟩ := ih
   exact ⟨j,by simpa [h] using hj⟩
theorem elim0_eq {α : Type} (f g : Fin 0 → α) : f = g := by funext i; exact i.elim0
theorem c76 (a : D33) (b : ByteArray) (ha : a.fPools.n < 2 ^ 62) : ∃ y : Y,y.b 10 = poolIn a b ∧ ∀ (ρ : Type) (K : Y → Option ρ),yC (regs O) 76 [ag (e33 a),ss b] K = K y := by
 obtain ⟨z,hz⟩ : ∃ z : S,z = build (yPool ⟨bs [],0,0,0,⟨0,fun i => i.elim0⟩,⟨0,fun i => i.elim0⟩,0,0,0,0⟩ false) (.agg shPool) := ⟨_,rfl⟩
 have key := Ev.loopN (X := fun m j => (X76n (regs O) a b m).x0 (j : Int)) a.fPools.n (fun j => bif strEq (a.fPools.at j).fName b then some (S.tup [ag (e77 (a.fPools.at j)),bb true]) else none) (S.tup [z,bb false]) (fun j hj => by
  have hj2 : j < 2 ^ 62 := by omega
  have one : ∀ m,(X76n (regs O) a b (m + 1)).x0 (j : Int) = bif strEq (a.fPools.at j).fName b then some (S.tup [ag (e77 (a.fPools.at j)),bb true]) else (X76n (regs O) a b m).x0 ((j + 1 : Nat) : Int) := fun m => by
   rw [X76n]
   generalize X76n (regs O) a b m = X
   simp only [X76s,b76_0,D76_0,ltI_nat,elemO_nat hj,get_nat,hj,decide_true,cond_true,addI_nat1 hj2]
  cases h : strEq (a.fPools.at j).fName b with
  | true => exact ⟨fun e he => (by obtain rfl := Option.some.inj he; exact Ev.one 1 fun m => by rw [one,h]; rfl),fun hn => (by cases hn)⟩
  | false => exact ⟨fun e he => (by cases he),fun _ v hv => Ev.by 1 (fun m => by rw [one,h]; rfl) hv⟩) (Ev.one 1 fun m => by
  show (X76n (regs O) a b (m + 1)).x0 (a.fPools.n : Int) = _
  rw [X76n]
  generalize X76n (regs O) a b m = X
  simp only [X76s,b76_0,ltI_nat,Nat.lt_irrefl,decide_false,cond_false]
  rw [hz]
  simp only [build,buildL,shPool,yPool,Option.some.injEq,S.tup.injEq,S.agg.injEq,List.cons.injEq,S.t.injEq,T.rows.injEq,true_and,and_true,heq_eq_eq]
  exact ⟨elim0_eq _ _,elim0_eq _ _⟩)
 obtain ⟨j,hj⟩ := find_first (n := a.fPools.n) (p := fun j => strEq (a.fPools.at j).fName b) (g := fun j => S.tup [ag (e77 (a.fPools.at j)),bb true]) (r := S.tup [z,bb false])
 rw [hj] at key
 obtain ⟨n,h⟩ := key.get
 have hr := W76 a b n _ h
 unfold poolIn
 cases hp : (List.range a.fPools.n).any (fun j => strEq (a.fPools.at j).fName b) with
 | true =>
  rw [hp] at hr
  exact yC_pair (y0 := yPool (a.fPools.at j) true) (l := shPool) (by kernel_rfl) hr rfl rfl
 | false =>
  rw [hp] at hr
  exact yC_pair (l := shPool) (by kernel_rfl) hr hz.symm rfl
def yClaim (x : D52) (b : Bool) : Y := ⟨fun i => match i with | 2 => x.fGen | 6 => x.fPrice | 7 => x.fCap_0 | 8 => x.fCap_1 | 10 => x.fTry | 12 => x.fPhase | _ => x.fBorn,fun i => match i with | 14 => x.fMarked | _ => b,fun i => match i with | 0 => x.fName | 1 => x.fPool | 3 => x.fOffer_Type | 4 => x.fOffer_Zone | 5 => x.fOffer_Kind | _ => x.fId,
 fun _ => ⟨x.fOpts.n,fun i => e47 (x.fOpts.get i)⟩,fun _ => []⟩
def shClaim : List Sh := [.str 0,.str 1,.int .i64 2,.str 3,.str 4,.str 5,.int .i64 6,.int .i64 7,.int .i64 8,.rows 3 9,.int .i64 10,.str 11,.int .i64 12,.int .i64 13,.bool 14]
theorem c37 (a : D33) (b : ByteArray) (ha : a.fClaims.n < 2 ^ 62) : ∃ y : Y,y.b 15 = claimIn a b ∧ ∀ (ρ : Type) (K : Y → Option ρ),yC (regs O) 37 [ag (e33 a),ss b] K = K y := by
 obtain ⟨z,hz⟩ : ∃ z : S,z = build (yClaim ⟨bs [],bs [],0,bs [],bs [],bs [],0,0,0,⟨0,fun i => i.elim0⟩,0,bs [],0,0,false⟩ false) (.agg shClaim) := ⟨_,rfl⟩
 have key := Ev.loopN (X := fun m j => (X37n (regs O) a b m).x0 (j : Int)) a.fClaims.n (fun j => bif strEq (a.fClaims.at j).fName b then some (S.tup [ag (e52 (a.fClaims.at j)),bb true]) else none) (S.tup [z,bb false]) (fun j hj => by
  have hj2 : j < 2 ^ 62 := by omega
  have one : ∀ m,(X37n (regs O) a b (m + 1)).x0 (j : Int) = bif strEq (a.fClaims.at j).fName b then some (S.tup [ag (e52 (a.fClaims.at j)),bb true]) else (X37n (regs O) a b m).x0 ((j + 1 : Nat) : Int) := fun m => by
   rw [X37n]
   generalize X37n (regs O) a b m = X
   simp only [X37s,b37_0,D37_0,ltI_nat,elemO_nat hj,get_nat,hj,decide_true,cond_true,addI_nat1 hj2]
  cases h : strEq (a.fClaims.at j).fName b with
  | true => exact ⟨fun e he => (by obtain rfl := Option.some.inj he; exact Ev.one 1 fun m => by rw [one,h]; rfl),fun hn => (by cases hn)⟩
  | false => exact ⟨fun e he => (by cases he),fun _ v hv => Ev.by 1 (fun m => by rw [one,h]; rfl) hv⟩) (Ev.one 1 fun m => by
  show (X37n (regs O) a b (m + 1)).x0 (a.fClaims.n : Int) = _
  rw [X37n]
  generalize X37n (regs O) a b m = X
  simp only [X37s,b37_0,ltI_nat,Nat.lt_irrefl,decide_false,cond_false]
  rw [hz]
  simp only [build,buildL,shClaim,yClaim,Option.some.injEq,S.tup.injEq,S.agg.injEq,List.cons.injEq,S.t.injEq,T.rows.injEq,true_and,and_true,heq_eq_eq]
  exact elim0_eq _ _)
 obtain ⟨j,hj⟩ := find_first (n := a.fClaims.n) (p := fun j => strEq (a.fClaims.at j).fName b) (g := fun j => S.tup [ag (e52 (a.fClaims.at j)),bb true]) (r := S.tup [z,bb false])
 rw [hj] at key
 obtain ⟨n,h⟩ := key.get
 have hr := W37 a b n _ h
 unfold claimIn
 cases hp : (List.range a.fClaims.n).any (fun j => strEq (a.fClaims.at j).fName b) with
 | true =>
  rw [hp] at hr
  exact yC_pair (y0 := yClaim (a.fClaims.at j) true) (l := shClaim) (by kernel_rfl) hr rfl rfl
 | false =>
  rw [hp] at hr
  exact yC_pair (l := shClaim) (by kernel_rfl) hr hz.symm rfl
theorem sm_off {x : D52} (h : sm52 x) : sm47 (offC x) := ⟨h.type,h.zone,h.kind⟩
theorem gtI_nat0 {j : Nat} : gtI (j : Int) 0 = !decide (j = 0) := by unfold gtI; by_cases h : j = 0 <;> simp [h] <;> omega
theorem c35 (a : D33) (ha : smR sm52 a.fClaims) (hp : a.fPools.n < 2 ^ 62) (ht : smR sm112 a.fTypes) : Ret 35 [ag (e33 a)] (ii (firstE a.fClaims.n (claimE a))) := by
 have hn := sm_lt ha.1
 have key := Ev.errsC (X := fun m j => (X35n (regs O) a m).x0 (j : Int)) 2 a.fClaims.n (claimE a) (fun m j hj => by
  have hj2 : j < 2 ^ 62 := by omega
  have hs := ha.2 j hj
  obtain ⟨y,hy,hK⟩ := yC_int (by kernel_rfl) (c75 (a.fClaims.at j) hs)
  obtain ⟨z,hz,hL⟩ := c76 a (a.fClaims.at j).fPool hp
  obtain ⟨o,ho,hO⟩ := ret77 a.fTypes (offC (a.fClaims.at j)) ht (sm_off hs)
  have hO : ∀ (ρ : Type) (K : Y → Option ρ),yC (regs O) 77 [S.t (T.rows 7 a.fTypes.n fun i => e112 (a.fTypes.get i)),S.t (T.rows 3 1 fun i => List.take 3 (List.drop (i.1 * 3) [ts (a.fClaims.at j).fOffer_Type,ts (a.fClaims.at j).fOffer_Zone,ts (a.fClaims.at j).fOffer_Kind]))] K = K o := hO
  obtain ⟨x,hx,hM⟩ := yC_bool (by kernel_rfl) (c77 a.fTypes (a.fClaims.at j).fOpts ht hs.opts)
  obtain ⟨h,hh0,hh1,hh2,hH⟩ := yC_aab (by kernel_rfl) (c78 a.fTypes (offC (a.fClaims.at j)) ht (sm_off hs))
  have hH : ∀ (ρ : Type) (K : Y → Option ρ),yC (regs O) 78 [S.t (T.rows 7 a.fTypes.n fun i => e112 (a.fTypes.get i)),S.agg [ss (a.fClaims.at j).fOffer_Type,ss (a.fClaims.at j).fOffer_Zone,ss (a.fClaims.at j).fOffer_Kind]] K = K h := hH
  show (X35n (regs O) a (m + 2)).x0 (j : Int) = bif !eqI (claimE a j) 0 then some (ii (claimE a j)) else (X35n (regs O) a m).x0 ((j + 1 : Nat) : Int)
  have k1 : ∀ b,(X35n (regs O) a (m + 1)).x1 b (a.fClaims.at j) (j : Int) = bif b || !knownB a.fTypes (a.fClaims.at j).fOpts then some (ii 5) else bif !capB a (a.fClaims.at j) then some (ii 1) else (X35n (regs O) a m).x0 ((j + 1 : Nat) : Int) := fun b => by
   rw [X35n]
   generalize X35n (regs O) a m = X
   simp only [X35s,b35_1,D35_0,hM,hx,hH,hh0,hh1,addI_nat1 hj2,Bool.and_true]
   cases b <;> cases knownB a.fTypes (a.fClaims.at j).fOpts <;> rfl
  have k2 : (X35n (regs O) a (m + 1)).x2 = some (ii 5) := by
   rw [X35n]
   generalize X35n (regs O) a m = X
   simp only [X35s,b35_2]
  rw [X35n]
  generalize X35n (regs O) a (m + 1) = X at k1 k2 ⊢
  generalize X35n (regs O) a m = X' at k1 ⊢
  simp only [X35s,b35_0,D35_1,D35_2,ltI_nat,elemO_nat hj,get_nat,hj,decide_true,cond_true,hK,hy,hL,hz,hO,ho,k1,k2,gtI_nat0]
  unfold claimE ordB
  cases hc : eqI (claimV (a.fClaims.at j)) 0 with
  | false => rw [orE_false hc,hc]; rfl
  | true =>
   rw [orE_true hc]
   simp only [Bool.not_true,cond_false]
   by_cases h0 : j = 0
   ·simp only [h0,decide_true,Bool.not_true,cond_false,Bool.true_or]
    unfold orE wantE
    cases poolIn a (a.fClaims.at 0).fPool <;> cases hasB a.fTypes (offC (a.fClaims.at 0)) <;> cases knownB a.fTypes (a.fClaims.at 0).fOpts <;> cases capB a (a.fClaims.at 0) <;> rfl
   ·have hlt : j - 1 < a.fClaims.n := by omega
    simp only [h0,decide_false,Bool.not_false,cond_true,Bool.false_or]
    rw [subI_nat (show 0 < j by omega) hj2,elemO_nat hlt]
    simp only [get_nat]
    have e : strLt (claimNm a (j - 1)) (claimNm a j) = strLt (a.fClaims.at (j - 1)).fName (a.fClaims.at j).fName := rfl
    rw [e]
    unfold orE wantE
    cases strLt (a.fClaims.at (j - 1)).fName (a.fClaims.at j).fName <;> cases poolIn a (a.fClaims.at j).fPool <;> cases hasB a.fTypes (offC (a.fClaims.at j)) <;> cases knownB a.fTypes (a.fClaims.at j).fOpts <;> cases capB a (a.fClaims.at j) <;> rfl) (fun m => by
  show (X35n (regs O) a (m + 2)).x0 (a.fClaims.n : Int) = _
  rw [X35n]
  generalize X35n (regs O) a (m + 1) = X
  simp only [X35s,b35_0,ltI_nat,Nat.lt_irrefl,decide_false,cond_false])
 obtain ⟨n,h⟩ := key.get
 exact W35 a n _ h
theorem cmp_less : ∀ (a b : List UInt8),Lib.compareBytes a b = if Op.bytesLess a b = true then -1 else if a = b then 0 else 1
 | [],[] => rfl
 | [],_ :: _ => rfl
 | _ :: _,[] => rfl
 | x :: a,y :: b => by
  have ih := cmp_less a b
  unfold Lib.compareBytes Op.bytesLess
  by_cases h : x = y
  ·subst h
   have hx : ¬ x < x := fun h => absurd h (Nat.lt_irrefl _)
   simp only [hx,if_false,ih]
   simp
  ·have : x < y ∨ y < x := by
    rcases Nat.lt_or_gt_of_ne (fun e => h (UInt8.toNat_inj.1 e) : x.toNat ≠ y.toNat) with h | h
    ·exact .inl h
    ·exact .inr h
   rcases this with h1 | h1
   ·simp [h,h1]
   ·have h2 : ¬ x < y := fun h2 => absurd (Nat.lt_trans h1 h2) (Nat.lt_irrefl _)
    simp [h,h1,h2]
theorem cmpS_eq (a b : ByteArray) : cmpS a b = bif strLt a b then -1 else bif strEq a b then 0 else 1 := by
 unfold cmpS strLt
 rw [cmp_less,strEq_data]
 cases Op.bytesLess a.data.toList b.data.toList with
 | true => rfl
 | false =>
  by_cases h : a.data.toList = b.data.toList
  ·simp [h]
  ·simp [h]
theorem c53r (a : Rw Int) (ha : a.n < 2 ^ 62) : Ret 53 [S.t (T.rows 1 a.n fun i => [ti (a.get i)])] (ii (firstE a.n a.at)) := by
 have key := Ev.errsC (X := fun m j => (X53n (regs O) a m).x0 (j : Int)) 1 a.n a.at (fun m j hj => by
  have hj2 : j < 2 ^ 62 := by omega
  simp only [X53n,X53s,b53_0,D53_0,ltI_nat,elemO_nat hj,get_nat,hj,decide_true,cond_true,addI_nat1 hj2]) (fun m => by
  simp only [X53n,X53s,b53_0,D53_0,ltI_nat,Nat.lt_irrefl,decide_false,cond_false])
 obtain ⟨n,h⟩ := key.get
 exact W53 a n _ h
theorem ret53 (a b c : Int) : ∃ y : Y,y.i 0 = orE a (orE b c) ∧ ∀ (ρ : Type) (K : Y → Option ρ),yC (regs O) 53 [S.t (T.rows 1 3 fun i => List.take 1 (List.drop (i.1 * 1) [ti a,ti b,ti c]))] K = K y := by
 have h := c53r (rwL [a,b,c]) (show (3 : Nat) < 2 ^ 62 by decide)
 rw [firstL_eq] at h
 obtain ⟨y,hy,hK⟩ := yC_int (by kernel_rfl) h
 refine ⟨y,by rw [hy]; simp only [firstL_cons,firstL_one],fun ρ K => ?_⟩
 rw [← hK ρ K]
 have := lit1 [a,b,c] ti
 exact congrArg (fun g : Fin 3 → List T => yC (regs O) 53 [S.t (T.rows 1 3 g)] K) this
def offLt (a b : D47) : Bool := bif !strEq a.fType b.fType then strLt a.fType b.fType else bif !strEq a.fZone b.fZone then strLt a.fZone b.fZone else strLt a.fKind b.fKind
def cmp47 (a b : D47) : Int := orE (cmpS a.fType b.fType) (orE (cmpS a.fZone b.fZone) (cmpS a.fKind b.fKind))
theorem c69 (a b : D47) : Ret 69 [ag (e47 a),ag (e47 b)] (ii (cmp47 a b)) := by
 obtain ⟨y,hy,hK⟩ := yC_int (by kernel_rfl) (c56 a.fType b.fType)
 obtain ⟨y1,hy1,hK1⟩ := yC_int (by kernel_rfl) (c56 a.fZone b.fZone)
 obtain ⟨y2,hy2,hK2⟩ := yC_int (by kernel_rfl) (c56 a.fKind b.fKind)
 obtain ⟨z,hz,hL⟩ := ret53 (cmpS a.fType b.fType) (cmpS a.fZone b.fZone) (cmpS a.fKind b.fKind)
 refine W69 a b 0 _ ?_
 simp only [e69_in,hK,hK1,hK2,hy,hy1,hy2,hL,hz]
 rfl
theorem c82 (a b : D47) : Ret 82 [ag (e47 a),ag (e47 b)] (bb (offLt a b)) := W82 a b 0 _ (by
 unfold e82_in offLt
 cases strEq a.fType b.fType <;> cases strEq a.fZone b.fZone <;> rfl)
theorem lt_irrefl (a b : ByteArray) (h : strEq a b = true) : strLt a b = false := by
 have := lt_total a b
 rw [h,Bool.or_true] at this
 have h2 : strLt b a = false := by simpa using this.symm
 rw [strEq_iff] at h
 subst h
 exact h2
theorem cmp47_ge (a b : D47) : geI (cmp47 a b) 0 = !offLt a b := by
 unfold cmp47 offLt
 rw [cmpS_eq,cmpS_eq,cmpS_eq]
 cases h1 : strEq a.fType b.fType with
 | false => cases strLt a.fType b.fType <;> rfl
 | true =>
  rw [lt_irrefl _ _ h1]
  cases h2 : strEq a.fZone b.fZone with
  | false => cases strLt a.fZone b.fZone <;> rfl
  | true =>
   rw [lt_irrefl _ _ h2]
   cases h3 : strEq a.fKind b.fKind with
   | false => cases strLt a.fKind b.fKind <;> rfl
   | true => rw [lt_irrefl _ _ h3]; rfl
def offK (c : D125) : D47 := ⟨c.fOffer_Type,c.fOffer_Zone,c.fOffer_Kind⟩
def sm125 (c : D125) : Prop := sm47 (offK c)
def coolE (a : D33) (j : Nat) : Int := orE (wantE (hasB a.fTypes (offK (a.fCools.at j))) 5) (orE (wantE (decide (j = 0) || offLt (offK (a.fCools.at (j - 1))) (offK (a.fCools.at j))) 6) (wantE (within (a.fCools.at j).fUntil 0 1099511627776) 1))
theorem c29 (a : D33) (hn : a.fCools.n < 2 ^ 62) (ht : smR sm112 a.fTypes) : Ret 29 [ag (e33 a)] (ii (firstE a.fCools.n (coolE a))) := by
 have key := Ev.errsC (X := fun m j => (X29n (regs O) a m).x0 (j : Int)) 2 a.fCools.n (coolE a) (fun m j hj => by
  have hj2 : j < 2 ^ 62 := by omega
  obtain ⟨o,ho,hO⟩ := ret65 a (offK (a.fCools.at j)) ht
  have hO : ∀ (ρ : Type) (K : Y → Option ρ),yC (regs O) 65 [ag (e33 a),S.t (T.rows 3 1 fun i => List.take 3 (List.drop (i.1 * 3) [ts (a.fCools.at j).fOffer_Type,ts (a.fCools.at j).fOffer_Zone,ts (a.fCools.at j).fOffer_Kind]))] K = K o := hO
  obtain ⟨z,hz,hL⟩ := yC_int (by kernel_rfl) (c69 (offK (a.fCools.at (j - 1))) (offK (a.fCools.at j)))
  have hL : ∀ (ρ : Type) (K : Y → Option ρ),yC (regs O) 69 [S.agg [ss (a.fCools.at (j - 1)).fOffer_Type,ss (a.fCools.at (j - 1)).fOffer_Zone,ss (a.fCools.at (j - 1)).fOffer_Kind],S.agg [ss (a.fCools.at j).fOffer_Type,ss (a.fCools.at j).fOffer_Zone,ss (a.fCools.at j).fOffer_Kind]] K = K z := hL
  obtain ⟨x,hx,hM⟩ := yC_bool (by kernel_rfl) (c22 (a.fCools.at j).fUntil)
  show (X29n (regs O) a (m + 2)).x0 (j : Int) = bif !eqI (coolE a j) 0 then some (ii (coolE a j)) else (X29n (regs O) a m).x0 ((j + 1 : Nat) : Int)
  have k1 : ∀ b,(X29n (regs O) a (m + 1)).x1 (a.fCools.at j) (j : Int) b = bif b then some (ii 6) else bif !within (a.fCools.at j).fUntil 0 1099511627776 then some (ii 1) else (X29n (regs O) a m).x0 ((j + 1 : Nat) : Int) := fun b => by
   rw [X29n]
   generalize X29n (regs O) a m = X
   simp only [X29s,b29_1,D29_0,hM,hx,addI_nat1 hj2]
  rw [X29n]
  generalize X29n (regs O) a (m + 1) = X at k1 ⊢
  generalize X29n (regs O) a m = X' at k1 ⊢
  simp only [X29s,b29_0,D29_1,ltI_nat,elemO_nat hj,get_nat,hj,decide_true,cond_true,hO,ho,k1,gtI_nat0]
  unfold coolE
  by_cases h0 : j = 0
  ·simp only [h0,decide_true,Bool.not_true,cond_false,Bool.true_or]
   unfold orE wantE
   cases hasB a.fTypes (offK (a.fCools.at 0)) <;> cases within (a.fCools.at 0).fUntil 0 1099511627776 <;> rfl
  ·have hlt : j - 1 < a.fCools.n := by omega
   simp only [h0,decide_false,Bool.not_false,cond_true,Bool.false_or]
   rw [subI_nat (show 0 < j by omega) hj2,elemO_nat hlt]
   simp only [get_nat,hL,hz,cmp47_ge]
   unfold orE wantE
   cases hasB a.fTypes (offK (a.fCools.at j)) <;> cases offLt (offK (a.fCools.at (j - 1))) (offK (a.fCools.at j)) <;> cases within (a.fCools.at j).fUntil 0 1099511627776 <;> rfl) (fun m => by
  show (X29n (regs O) a (m + 2)).x0 (a.fCools.n : Int) = _
  rw [X29n]
  generalize X29n (regs O) a (m + 1) = X
  simp only [X29s,b29_0,ltI_nat,Nat.lt_irrefl,decide_false,cond_false])
 obtain ⟨n,h⟩ := key.get
 exact W29 a n _ h
end
end Go.Proofs.YtonkoellfaopiaaGreatDoor.H
