import Derived.Test.YtonkoellfaopiaaGreatDoorV22
set_option linter.unusedSimpArgs false
set_option linter.unusedVariables false
namespace Go.Proofs.YtonkoellfaopiaaGreatDoor.H
open Go Go.Lib
noncomputable section
theorem Ev.bif {α : Type} {g g1 g2 : Nat → Option α} {v1 v2 : α} (c : Bool) (h : ∀ m,g m = bif c then g1 m else g2 m) (h1 : c = true → Ev g1 v1) (h2 : c = false → Ev g2 v2) : Ev g (bif c then v1 else v2) := by
 cases c with
 | true => exact (h1 rfl).of_eq h
 | false => exact (h2 rfl).of_eq h
theorem c190 (x : D68) (hx : sm68 x) : Ret 190 [ag (e68 x)] (ii (reqV x)) := by
 have hn := sm_lt hx.2.1
 obtain ⟨y1,hy1,hK1⟩ := yC_bool (by kernel_rfl) (c71 x.fKey hx.1)
 have L7 : Ev (fun m => (X190n (regs O) x m).x7 ((0 : Nat) : Int)) (ii (bif dupB x.fVals then 6 else 0)) := by
  have L := Ev.anyC (X := fun m j => (X190n (regs O) x m).x7 ((j : Nat) : Int)) 1 x.fVals.n (fun j => (List.range j).any fun i => strEq (x.fVals.at i) (x.fVals.at j)) (ii 6) (fun m j hj => by
   show (X190n (regs O) x (m + 1)).x7 (j : Int) = _
   rw [X190n]
   let s : Rw ByteArray := ⟨j,fun i => x.fVals.get ⟨0 + i.1,by have := i.2; omega⟩⟩
   have hs : (List.range s.n).any (fun i => strEq (s.at i) (x.fVals.at j)) = (List.range j).any fun i => strEq (x.fVals.at i) (x.fVals.at j) := by
    have e : ∀ i,i < j → s.at i = x.fVals.at i := fun i hi => by
     unfold Rw.at
     rw [dif_pos (show i < s.n from hi),dif_pos (by omega)]
     show x.fVals.get ⟨0 + i,_⟩ = _
     congr 1
     exact Fin.ext (Nat.zero_add i)
    show (List.range j).any _ = _
    rw [Bool.eq_iff_iff,List.any_eq_true,List.any_eq_true]
    exact ⟨fun ⟨i,hi,h⟩ => ⟨i,hi,by rw [← e i (List.mem_range.1 hi)]; exact h⟩,fun ⟨i,hi,h⟩ => ⟨i,hi,by rw [e i (List.mem_range.1 hi)]; exact h⟩⟩
   obtain ⟨y,hy,hK⟩ := yC_bool (by kernel_rfl) (c219 s (x.fVals.at j) (by show j < _; omega))
   have hK' : ∀ (K : Y → Option S),yC (regs O) 219 [S.t (T.rows 1 (toN (j : Int)) fun i => [T.v (Go.Value.string (x.fVals.get (Fin.mk (0 + i.1) (by have := i.2; have : toN (j : Int) = j := rfl; omega))))]),S.t (T.v (Go.Value.string (x.fVals.at j)))] K = K y := fun K => hK S K
   have e0 : (leI 0 (j : Int) && leI (j : Int) (ofN x.fVals.n)) = true := le_nat (Nat.le_of_lt hj)
   simp only [X190s,b190_7,D190_7,ltI_nat,hj,decide_true,cond_true,e0,elemO_nat hj,get_nat,addI_nat1 (show j < 2 ^ 62 by omega)]
   rw [subO_pos (show 0 + toN (j : Int) ≤ x.fVals.n by show 0 + j ≤ _; omega),hK',hy,hs])
  unfold dupB
  cases h : (List.range x.fVals.n).any (fun j => (List.range j).any fun i => strEq (x.fVals.at i) (x.fVals.at j)) with
  | true => exact L.1 h
  | false =>
   refine L.2 h _ (Ev.one 1 fun m => ?_)
   show (X190n (regs O) x (m + 1)).x7 _ = _
   rw [X190n]
   simp only [X190s,b190_7,ltI_nat,Nat.lt_irrefl,decide_false,cond_false]
 have L6 : Ev (fun m => (X190n (regs O) x m).x6 ((0 : Nat) : Int)) (ii (bif (List.range x.fVals.n).any (fun j => !valB (x.fVals.at j)) then 20 else bif dupB x.fVals then 6 else 0)) := by
  have L := Ev.anyC (X := fun m j => (X190n (regs O) x m).x6 ((j : Nat) : Int)) 1 x.fVals.n (fun j => !valB (x.fVals.at j)) (ii 20) (fun m j hj => by
   show (X190n (regs O) x (m + 1)).x6 (j : Int) = _
   rw [X190n]
   obtain ⟨y,hy,hK⟩ := yC_bool (by kernel_rfl) (c129 (x.fVals.at j) (hx.2.2 j hj))
   simp only [X190s,b190_6,D190_6,ltI_nat,hj,decide_true,cond_true,elemO_nat hj,get_nat,hK,hy,addI_nat1 (show j < 2 ^ 62 by omega)])
  cases h : (List.range x.fVals.n).any (fun j => !valB (x.fVals.at j)) with
  | true => exact L.1 h
  | false =>
   refine L.2 h _ (Ev.succ (L7.of_eq fun m => ?_))
   show (X190n (regs O) x (m + 1)).x6 _ = _
   rw [X190n]
   simp only [X190s,b190_6,D190_7,ltI_nat,Nat.lt_irrefl,decide_false,cond_false]
   rfl
 have L5 : ∀ b,Ev (fun m => (X190n (regs O) x m).x5 b) (ii (bif b || gtI x.fN 2147483648 then 30 else vlsV x.fVals)) := fun b => by
  refine Ev.succ ?_
  have e : gtI x.fN 2147483648 = gtI x.fN 2147483648 := rfl
  have e8 : gtI (ofN x.fVals.n) 8 = gtI (ofN x.fVals.n) 8 := rfl
  cases hb : b || gtI x.fN 2147483648 with
  | true =>
   refine ⟨0,fun m _ => ?_⟩
   show (X190n (regs O) x (m + 1)).x5 b = _
   rw [X190n]
   simp only [X190s,b190_5,e]
   cases b with
   | true => rfl
   | false => rw [Bool.false_or] at hb; rw [hb]; rfl
  | false =>
   rw [Bool.or_eq_false_iff] at hb
   unfold vlsV
   cases h8 : gtI (ofN x.fVals.n) 8 with
   | true =>
    refine ⟨0,fun m _ => ?_⟩
    show (X190n (regs O) x (m + 1)).x5 b = _
    rw [X190n]
    simp only [X190s,b190_5,e,e8,hb.1,hb.2,h8,cond_false,cond_true]
   | false =>
    refine L6.of_eq fun m => ?_
    rw [X190n]
    simp only [X190s,b190_5,D190_6,e,e8,hb.1,hb.2,h8,cond_false]
    rfl
 have L4 : ∀ b,Ev (fun m => (X190n (regs O) x m).x4 b) (ii (bif b || (ltI x.fN (-2147483648) || gtI x.fN 2147483648) then 30 else vlsV x.fVals)) := fun b => by
  refine Ev.succ ?_
  cases b with
  | true =>
   refine (L5 true).of_eq fun m => ?_
   rw [X190n]; rfl
  | false =>
   refine (L5 (ltI x.fN (-2147483648))).of_eq fun m => ?_
   rw [X190n]; rfl
 have L3 : ∀ b num,Ev (fun m => (X190n (regs O) x m).x3 b num) (ii (bif b || ((!num && !eqI x.fN 0) || (ltI x.fN (-2147483648) || gtI x.fN 2147483648)) then 30 else vlsV x.fVals)) := fun b num => by
  refine Ev.succ ?_
  cases b with
  | true =>
   refine (L4 true).of_eq fun m => ?_
   rw [X190n]; rfl
  | false =>
   cases num with
   | true =>
    refine (L4 false).of_eq fun m => ?_
    rw [X190n]; rfl
   | false =>
    refine (L4 (!eqI x.fN 0)).of_eq fun m => ?_
    rw [X190n]; rfl
 have L2 : ∀ vals num b,Ev (fun m => (X190n (regs O) x m).x2 vals num b) (ii (bif b || (!eqB vals (gtI (ofN x.fVals.n) 0) || ((!num && !eqI x.fN 0) || (ltI x.fN (-2147483648) || gtI x.fN 2147483648))) then 30 else vlsV x.fVals)) := fun vals num b => by
  refine Ev.succ ?_
  cases b with
  | true =>
   refine (L3 true num).of_eq fun m => ?_
   rw [X190n]; rfl
  | false =>
   refine (L3 (!eqB vals (gtI (ofN x.fVals.n) 0)) num).of_eq fun m => ?_
   rw [X190n]; rfl
 have L1 : ∀ vals num,Ev (fun m => (X190n (regs O) x m).x1 vals num) (ii (bif (ltI x.fOp 1 || gtI x.fOp 6) || (!eqB vals (gtI (ofN x.fVals.n) 0) || ((!num && !eqI x.fN 0) || (ltI x.fN (-2147483648) || gtI x.fN 2147483648))) then 30 else vlsV x.fVals)) := fun vals num => by
  refine Ev.succ ?_
  refine (L2 vals num (ltI x.fOp 1 || gtI x.fOp 6)).of_eq fun m => ?_
  rw [X190n]
  generalize X190n (regs O) x m = X
  simp only [X190s,b190_1,D190_2]
  have e1 : ltI x.fOp 1 = ltI x.fOp 1 := rfl
  have e2 : gtI x.fOp 6 = gtI x.fOp 6 := rfl
  rw [e1,e2]
  cases ltI x.fOp 1 <;> rfl
 have L0 : ∀ vals,Ev (fun m => (X190n (regs O) x m).x0 vals) (ii (bif (ltI x.fOp 1 || gtI x.fOp 6) || (!eqB vals (gtI (ofN x.fVals.n) 0) || ((!(eqI x.fOp 5 || eqI x.fOp 6) && !eqI x.fN 0) || (ltI x.fN (-2147483648) || gtI x.fN 2147483648))) then 30 else vlsV x.fVals)) := fun vals => by
  refine Ev.succ ?_
  refine (L1 vals (eqI x.fOp 5 || eqI x.fOp 6)).of_eq fun m => ?_
  rw [X190n]
  generalize X190n (regs O) x m = X
  simp only [X190s,b190_0,D190_1]
  have e1 : eqI x.fOp 5 = eqI x.fOp 5 := rfl
  have e2 : eqI x.fOp 6 = eqI x.fOp 6 := rfl
  rw [e1,e2]
  cases eqI x.fOp 5 <;> rfl
 have top : Ev (fun m => e190_in (regs O) x (D190_0 (X190n (regs O) x m))) (ii (reqV x)) := by
  unfold reqV opBad
  cases hk : nameB x.fKey with
  | false =>
   refine ⟨0,fun m _ => ?_⟩
   simp only [e190_in,hK1,hy1,hk]
   rfl
  | true =>
   refine (L0 (eqI x.fOp 1 || eqI x.fOp 2)).of_eq fun m => ?_
   simp only [e190_in,hK1,hy1,hk]
   generalize X190n (regs O) x m = X
   simp only [D190_0]
   have e1 : eqI x.fOp 1 = eqI x.fOp 1 := rfl
   have e2 : eqI x.fOp 2 = eqI x.fOp 2 := rfl
   rw [e1,e2]
   cases eqI x.fOp 1 <;> rfl
 obtain ⟨n,h⟩ := top.get
 exact W190 x n _ h
theorem c162 (x : D68) (hx : sm68 x) : ∃ y : Y,y.i 6 = reqV x ∧ ∀ (ρ : Type) (K : Y → Option ρ),yC (regs O) 162 [ag (e68 x)] K = K y := by
 obtain ⟨y1,hy1,hK1⟩ := yC_int (by kernel_rfl) (c190 x hx)
 by_cases hz : reqV x = 0
 ·obtain ⟨ho,hr⟩ := req0 hz
  have hn := rest0 hr
  obtain ⟨h0,h1⟩ := fN_range ho
  obtain ⟨y2,hK2⟩ := c191 x.fVals (by omega)
  have a1 : addI .i64 x.fN 1 = x.fN + 1 := i64 (n := x.fN + 1) (by omega) (by omega)
  have a2 : subI .i64 x.fN 1 = x.fN - 1 := i64 (n := x.fN - 1) (by omega) (by omega)
  obtain ⟨y5,hK5⟩ := c192 (x.fN + 1) 2147483648 (by omega) (by omega) (by decide) (by decide)
  obtain ⟨y6,hK6⟩ := c192 (-2147483648) (x.fN - 1) (by decide) (by decide) (by omega) (by omega)
  have hK6' : ∀ (ρ : Type) (K : Y → Option ρ),yC (regs O) 192 [ii (Int.negSucc 2147483647),ii (x.fN - 1),S.t (T.v (.slice none 0 0))] K = K y6 := hK6
  have hK5' : ∀ (ρ : Type) (K : Y → Option ρ),yC (regs O) 192 [ii (x.fN + 1),ii 2147483648,S.t (T.v (.slice none 0 0))] K = K y5 := hK5
  have e0 : eqI (0 : Int) 0 = true := rfl
  have hW : ∀ v,e162_in (regs O) x = some v → Ret 162 [ag (e68 x)] v := fun v h => W162 x 0 v h
  rw [hz]
  have main : ∃ b0 b1 b2 r lo hi,e162_in (regs O) x = some (setS b0 b1 b2 r lo hi (ii 0)) := by
   simp only [e162_in,hK1,hy1,hz,e0,Bool.not_true,cond_false,hK2,a1,a2,hK5',hK6']
   cases eqI x.fOp 1 with
   | true => exact ⟨_,_,_,_,_,_,rfl⟩
   | false =>
    cases eqI x.fOp 2 with
    | true => exact ⟨_,_,_,_,_,_,rfl⟩
    | false =>
     cases eqI x.fOp 3 with
     | true => exact ⟨_,_,_,⟨0,_⟩,_,_,rfl⟩
     | false =>
      cases eqI x.fOp 4 with
      | true => exact ⟨_,_,_,⟨0,_⟩,_,_,rfl⟩
      | false =>
       cases eqI x.fOp 5 with
       | true => exact ⟨_,_,_,_,_,_,rfl⟩
       | false => exact ⟨_,_,_,_,_,_,rfl⟩
  obtain ⟨b0,b1,b2,r,lo,hi,h⟩ := main
  exact ret187 (by kernel_rfl) (hW _ h)
 ·have e : eqI (reqV x) 0 = false := by unfold eqI; simpa using hz
  have hr : Ret 162 [ag (e68 x)] (setS false false false ⟨0,fun i => i.elim0⟩ 0 0 (ii (reqV x))) := by
   refine W162 x 0 _ ?_
   simp only [e162_in,hK1,hy1,e,Bool.not_false,cond_true]
   rw [rows0]; rfl
  exact ret187 (by kernel_rfl) hr
theorem c128 (a : Rw D68) (ha : smR sm68 a) : Ret 128 [S.t (T.rows 4 a.n fun i => e68 (a.get i))] (ii (firstE a.n fun j => reqV (a.at j))) := by
 have hn := sm_lt ha.1
 have key := Ev.errsC (X := fun m j => (X128n (regs O) a m).x0 ((j : Nat) : Int)) 1 a.n (fun j => reqV (a.at j)) (fun m j hj => by
  obtain ⟨y,hy,hK⟩ := c162 (a.at j) (ha.2 j hj)
  show (X128n (regs O) a (m + 1)).x0 (j : Int) = _
  rw [X128n]
  simp only [X128s,b128_0,D128_0,ltI_nat,hj,decide_true,cond_true,elemO_nat hj,get_nat,hK,hy,addI_nat1 (show j < 2 ^ 62 by omega)]) (fun m => by
  show (X128n (regs O) a (m + 1)).x0 (a.n : Int) = _
  rw [X128n]
  simp only [X128s,b128_0,ltI_nat,Nat.lt_irrefl,decide_false,cond_false])
 obtain ⟨n,h⟩ := key.get
 exact W128 a n _ h
theorem c72 (a : Rw D68) (ha : smR sm68 a) : Ret 72 [S.t (T.rows 4 a.n fun i => e68 (a.get i))] (ii (reqsV a)) := by
 obtain ⟨y,hy,hK⟩ := yC_int (by kernel_rfl) (c128 a ha)
 refine W72 a 0 _ ?_
 have e8 : gtI (ofN a.n) 8 = gtI (ofN a.n) 8 := rfl
 unfold reqsV
 simp only [e72_in,e8,hK,hy]
 cases gtI (ofN a.n) 8 <;> rfl
end
end Go.Proofs.YtonkoellfaopiaaGreatDoor.H

namespace Go.Proofs.YtonkoellfaopiaaGreatDoor.H
open Go
noncomputable section
def wantE (b : Bool) (e : Int) : Int := bif b then 0 else e
theorem retW (b : Bool) (e : Int) : ∃ y : Y,y.i 0 = wantE b e ∧ ∀ (ρ : Type) (K : Y → Option ρ),yC (regs O) 108 [bb b,ii e] K = K y := yC_int (by kernel_rfl) (c108 b e)
theorem retF (l : List Int) (hl : l.length < 2 ^ 62) : ∃ y : Y,y.i 0 = firstL l ∧ ∀ (ρ : Type) (K : Y → Option ρ),yC (regs O) 107 [S.t (T.rows 1 l.length fun i => List.take 1 (List.drop (i.1 * 1) (l.map ti)))] K = K y := yC_int (by kernel_rfl) (c107 l hl)
theorem firstL_cons (a b : Int) (l : List Int) : firstL (a :: b :: l) = orE a (firstL (b :: l)) := rfl
structure sm77 (a : D77) : Prop where
 name : sm (sizeN a.fName)
 reqs : smR sm68 a.fReqs
 taints : smR sm88 a.fTaints
def poolB (a : D77) : Bool := within a.fGen 0 1099511627776 && (within a.fExpire 0 1073741824 && (geI a.fBudget 0 && (leI a.fBudget 16 && (geI a.fMerge 0 && leI a.fMerge 2))))
def poolV (a : D77) : Int := orE (wantE (nameB a.fName) 7) (orE (wantE (within a.fWeight 0 100) 1) (orE (chk2 a.fLimit_0 a.fLimit_1) (orE (reqsV a.fReqs) (orE (taintsV a.fTaints) (wantE (poolB a) 1)))))
theorem orE_zero (a : Int) : orE a 0 = a := by
 unfold orE
 cases h : eqI a 0 with
 | false => rfl
 | true => exact (eqI_true.1 h).symm
theorem firstL_one (a : Int) : firstL [a] = a := orE_zero a
theorem c61 (a : D77) (ha : sm77 a) : Ret 61 [ag (e77 a)] (ii (poolV a)) := by
 have h5 : ∀ m v16 v22 v25 v19 v7 b,(X61n (regs O) a (m + 1)).x5 v16 v22 v25 v19 v7 b = some (ii (firstL [v7,v16,v19,v22,v25,wantE b 1])) := fun m v16 v22 v25 v19 v7 b => by
  obtain ⟨y,hy,hK⟩ := retW b 1
  obtain ⟨z,hz,hL⟩ := retF [v7,v16,v19,v22,v25,wantE b 1] (show (6 : Nat) < 2 ^ 62 by decide)
  have hL : ∀ (ρ : Type) (K : Y → Option ρ),yC (regs O) 107 [S.t (T.rows 1 6 fun i => List.take 1 (List.drop (i.1 * 1) [ti v7,ti v16,ti v19,ti v22,ti v25,ti (wantE b 1)]))] K = K z := hL
  simp only [X61n,X61s,b61_5,hK,hy,hL,hz]
 have h4 : ∀ m v16 v22 v25 v19 v7 b,(X61n (regs O) a (m + 2)).x4 v16 v22 v25 v19 v7 b = some (ii (firstL [v7,v16,v19,v22,v25,wantE (b && leI a.fMerge 2) 1])) := fun m v16 v22 v25 v19 v7 b => by
  have := h5 m
  rw [X61n]
  generalize X61n (regs O) a (m + 1) = X at this ⊢
  cases b <;> exact this _ _ _ _ _ _
 have h3 : ∀ m v16 v22 v25 v19 v7 b,(X61n (regs O) a (m + 3)).x3 v16 v22 v25 v19 v7 b = some (ii (firstL [v7,v16,v19,v22,v25,wantE (b && (geI a.fMerge 0 && leI a.fMerge 2)) 1])) := fun m v16 v22 v25 v19 v7 b => by
  have := h4 m
  rw [X61n]
  generalize X61n (regs O) a (m + 2) = X at this ⊢
  cases b <;> exact this _ _ _ _ _ _
 have h2 : ∀ m v16 v22 v25 v19 v7 b,(X61n (regs O) a (m + 4)).x2 v16 v22 v25 v19 v7 b = some (ii (firstL [v7,v16,v19,v22,v25,wantE (b && (leI a.fBudget 16 && (geI a.fMerge 0 && leI a.fMerge 2))) 1])) := fun m v16 v22 v25 v19 v7 b => by
  have := h3 m
  rw [X61n]
  generalize X61n (regs O) a (m + 3) = X at this ⊢
  cases b <;> exact this _ _ _ _ _ _
 have h1 : ∀ m v16 v22 v25 v19 v7 b,(X61n (regs O) a (m + 5)).x1 v16 v22 v25 v19 v7 b = some (ii (firstL [v7,v16,v19,v22,v25,wantE (b && (geI a.fBudget 0 && (leI a.fBudget 16 && (geI a.fMerge 0 && leI a.fMerge 2)))) 1])) := fun m v16 v22 v25 v19 v7 b => by
  have := h2 m
  rw [X61n]
  generalize X61n (regs O) a (m + 4) = X at this ⊢
  cases b <;> exact this _ _ _ _ _ _
 have h0 : ∀ m v7 b,(X61n (regs O) a (m + 6)).x0 v7 b = some (ii (firstL [v7,wantE b 1,chk2 a.fLimit_0 a.fLimit_1,reqsV a.fReqs,taintsV a.fTaints,wantE (poolB a) 1])) := fun m v7 b => by
  obtain ⟨y,hy,hK⟩ := retW b 1
  obtain ⟨y1,hy1,hK1⟩ := yC_int (by kernel_rfl) (c102 a.fLimit_0 a.fLimit_1)
  obtain ⟨y2,hy2,hK2⟩ := yC_int (by kernel_rfl) (c110 a.fReqs ha.reqs)
  obtain ⟨y3,hy3,hK3⟩ := yC_int (by kernel_rfl) (c111 a.fTaints ha.taints)
  obtain ⟨y4,hy4,hK4⟩ := yC_bool (by kernel_rfl) (c112 a.fGen 0 1099511627776)
  obtain ⟨y5,hy5,hK5⟩ := yC_bool (by kernel_rfl) (c112 a.fExpire 0 1073741824)
  have := h1 m
  rw [X61n]
  generalize X61n (regs O) a (m + 5) = X at this ⊢
  simp only [X61s,b61_0,hK,hK1,hK2,hK3,hK4,hK5,hy,hy1,hy2,hy3,hy4,hy5,D61_1,this]
  unfold poolB
  cases within a.fGen 0 1099511627776 <;> rfl
 obtain ⟨y,hy,hK⟩ := ret1 ha.name
 obtain ⟨z,hz,hL⟩ := retW (nameB a.fName) 7
 refine W61 a 6 _ ?_
 have e : e61_in (regs O) a (D61_0 (X61n (regs O) a 6)) = (X61n (regs O) a 6).x0 (wantE (nameB a.fName) 7) (within a.fWeight 0 100) := by
  simp only [e61_in,hK,hy,hL,hz,D61_0]
  unfold within
  cases geI a.fWeight 0 <;> rfl
 rw [e,h0 0]
 simp only [firstL_cons,firstL_one]
 rfl
theorem c34 (a : D77) (ha : sm77 a) : Ret 34 [ag (e77 a)] (ii (poolV a)) := by
 obtain ⟨y,hy,hK⟩ := yC_bool (by kernel_rfl) (c71 a.fName ha.name)
 obtain ⟨y1,hy1,hK1⟩ := yC_int (by kernel_rfl) (c49 a.fLimit_0 a.fLimit_1)
 obtain ⟨y2,hy2,hK2⟩ := yC_int (by kernel_rfl) (c72 a.fReqs ha.reqs)
 obtain ⟨y3,hy3,hK3⟩ := yC_int (by kernel_rfl) (c73 a.fTaints ha.taints)
 obtain ⟨y4,hy4,hK4⟩ := yC_bool (by kernel_rfl) (c74 a.fGen 0 1099511627776)
 obtain ⟨y5,hy5,hK5⟩ := yC_bool (by kernel_rfl) (c74 a.fExpire 0 1073741824)
 have h3 : ∀ m b,(X34n (regs O) a (m + 1)).x3 b = some (ii (wantE (!b && leI a.fMerge 2) 1)) := fun m b => by
  simp only [X34n,X34s,b34_3,gtI_leI]
  unfold wantE
  cases b <;> cases leI a.fMerge 2 <;> rfl
 have h2 : ∀ m b,(X34n (regs O) a (m + 2)).x2 b = some (ii (wantE (!b && (geI a.fMerge 0 && leI a.fMerge 2)) 1)) := fun m b => by
  have := h3 m
  rw [X34n]
  generalize X34n (regs O) a (m + 1) = X at this ⊢
  cases b with
  | true => exact this _
  | false =>
   refine (this (ltI a.fMerge 0)).trans ?_
   rw [ltI_ge,Bool.not_not]
   rfl
 have h1 : ∀ m b,(X34n (regs O) a (m + 3)).x1 b = some (ii (wantE (!b && (leI a.fBudget 16 && (geI a.fMerge 0 && leI a.fMerge 2))) 1)) := fun m b => by
  have := h2 m
  rw [X34n]
  generalize X34n (regs O) a (m + 2) = X at this ⊢
  cases b with
  | true => exact this _
  | false =>
   refine (this (gtI a.fBudget 16)).trans ?_
   rw [gtI_leI,Bool.not_not]
   rfl
 have h0 : ∀ m b,(X34n (regs O) a (m + 4)).x0 b = some (ii (wantE (!b && (geI a.fBudget 0 && (leI a.fBudget 16 && (geI a.fMerge 0 && leI a.fMerge 2)))) 1)) := fun m b => by
  have := h1 m
  rw [X34n]
  generalize X34n (regs O) a (m + 3) = X at this ⊢
  cases b with
  | true => exact this _
  | false =>
   refine (this (ltI a.fBudget 0)).trans ?_
   rw [ltI_ge,Bool.not_not]
   rfl
 refine W34 a 4 _ ?_
 simp only [e34_in,hK,hK1,hK2,hK3,hK4,hK5,hy,hy1,hy2,hy3,hy4,hy5,D34_0,h0,ltI_ge,gtI_leI]
 unfold poolV poolB
 generalize within a.fGen 0 1099511627776 = g
 generalize within a.fExpire 0 1073741824 = x
 generalize (geI a.fBudget 0 && (leI a.fBudget 16 && (geI a.fMerge 0 && leI a.fMerge 2))) = w
 unfold orE within
 cases nameB a.fName <;> cases geI a.fWeight 0 <;> cases leI a.fWeight 100 <;> try rfl
 simp only [wantE,Bool.and_self,cond_true,Bool.not_true,cond_false]
 cases eqI (chk2 a.fLimit_0 a.fLimit_1) 0 <;> cases eqI (reqsV a.fReqs) 0 <;> cases eqI (taintsV a.fTaints) 0 <;> cases g <;> cases x <;> cases w <;> rfl
theorem or_some {x r : Int} : (bif !eqI x 0 then some (ii x) else some (ii r)) = some (ii (orE x r)) := by
 unfold orE
 cases eqI x 0 <;> rfl
theorem want_some {b : Bool} {e r : Int} (he : eqI e 0 = false) : (bif !b then some (ii e) else some (ii r)) = some (ii (orE (wantE b e) r)) := by
 unfold orE wantE
 cases b with
 | true => rfl
 | false => simp [he]
theorem want_and {b c : Bool} {e r : Int} (he : eqI e 0 = false) : orE (wantE b e) (orE (wantE c e) r) = orE (wantE (b && c) e) r := by
 unfold orE wantE
 cases b <;> cases c <;> simp [he,show eqI 0 0 = true from rfl]
theorem retN (l : List ByteArray) (hl : l.length < 2 ^ 62) (ha : ∀ x ∈ l,sm (sizeN x)) : ∃ y : Y,y.b 0 = l.all nameB ∧ ∀ (ρ : Type) (K : Y → Option ρ),yC (regs O) 109 [S.t (T.rows 1 l.length fun i => List.take 1 (List.drop (i.1 * 1) (l.map ts)))] K = K y := yC_bool (by kernel_rfl) (c109 l hl ha)
structure sm61 (a : D61) : Prop where
 name : sm (sizeN a.fName)
 app : sm (sizeN a.fApp)
 reqs : smR sm68 a.fReqs
 tols : smR sm160 a.fTols
 spread : smR sm70 a.fSpread
 near : smR sm138 a.fNear
 apart : smR sm138 a.fApart
 on : sm (sizeN a.fOn)
def podV (a : D61) : Int := orE (wantE (nameB a.fName && nameB a.fApp) 7) (orE (chk2 a.fNeed_0 a.fNeed_1) (orE (wantE (within a.fPrio (Int.negSucc 999) 1000) 1) (orE (reqsV a.fReqs) (orE (tolsV a.fTols) (orE (termsV a) (orE (wantE (within a.fSince 0 1099511627776) 1) (wantE (noneB a.fOn) 7)))))))
theorem c66 (a : D61) (ha : sm61 a) : Ret 66 [ag (e61 a)] (ii (podV a)) := by
 have h0 : ∀ m v0 v1 b,(X66n (regs O) a (m + 1)).x0 v0 v1 b = some (ii (firstL [v1,v0,wantE b 1,reqsV a.fReqs,tolsV a.fTols,termsV a,wantE (within a.fSince 0 1099511627776) 1,wantE (noneB a.fOn) 7])) := fun m v0 v1 b => by
  obtain ⟨y,hy,hK⟩ := retW b 1
  obtain ⟨y1,hy1,hK1⟩ := yC_int (by kernel_rfl) (c110 a.fReqs ha.reqs)
  obtain ⟨y2,hy2,hK2⟩ := yC_int (by kernel_rfl) (c120 a.fTols ha.tols)
  obtain ⟨y3,hy3,hK3⟩ := yC_int (by kernel_rfl) (c121 a ha.spread ha.near ha.apart)
  obtain ⟨y4,hy4,hK4⟩ := yC_bool (by kernel_rfl) (c112 a.fSince 0 1099511627776)
  obtain ⟨y5,hy5,hK5⟩ := retW (within a.fSince 0 1099511627776) 1
  obtain ⟨y6,hy6,hK6⟩ := yC_bool (by kernel_rfl) (c122 a.fOn ha.on)
  obtain ⟨y7,hy7,hK7⟩ := retW (noneB a.fOn) 7
  obtain ⟨z,hz,hL⟩ := retF [v1,v0,wantE b 1,reqsV a.fReqs,tolsV a.fTols,termsV a,wantE (within a.fSince 0 1099511627776) 1,wantE (noneB a.fOn) 7] (show (8 : Nat) < 2 ^ 62 by decide)
  have hL : ∀ (ρ : Type) (K : Y → Option ρ),yC (regs O) 107 [S.t (T.rows 1 8 fun i => List.take 1 (List.drop (i.1 * 1) [ti v1,ti v0,ti (wantE b 1),ti (reqsV a.fReqs),ti (tolsV a.fTols),ti (termsV a),ti (wantE (within a.fSince 0 1099511627776) 1),ti (wantE (noneB a.fOn) 7)]))] K = K z := hL
  rw [X66n]
  generalize X66n (regs O) a m = X
  simp only [X66s,b66_0,hK,hK1,hK2,hK3,hK4,hK5,hK6,hK7,hy,hy1,hy2,hy3,hy4,hy5,hy6,hy7,hL,hz]
 obtain ⟨y,hy,hK⟩ := retN [a.fName,a.fApp] (show (2 : Nat) < 2 ^ 62 by decide) (fun x hx => by
  simp only [List.mem_cons,List.not_mem_nil,or_false] at hx
  rcases hx with rfl | rfl
  ·exact ha.name
  ·exact ha.app)
 have hK : ∀ (ρ : Type) (K : Y → Option ρ),yC (regs O) 109 [S.t (T.rows 1 2 fun i => List.take 1 (List.drop (i.1 * 1) [ts a.fName,ts a.fApp]))] K = K y := hK
 have hy : y.b 0 = (nameB a.fName && nameB a.fApp) := by rw [hy]; simp
 obtain ⟨z,hz,hL⟩ := retW (nameB a.fName && nameB a.fApp) 7
 obtain ⟨x,hx,hM⟩ := yC_int (by kernel_rfl) (c102 a.fNeed_0 a.fNeed_1)
 refine W66 a 1 _ ?_
 have e : e66_in (regs O) a (D66_0 (X66n (regs O) a 1)) = (X66n (regs O) a 1).x0 (chk2 a.fNeed_0 a.fNeed_1) (wantE (nameB a.fName && nameB a.fApp) 7) (within a.fPrio (Int.negSucc 999) 1000) := by
  simp only [e66_in,hK,hy,hL,hz,hM,hx,D66_0]
  unfold within
  cases geI a.fPrio (Int.negSucc 999) <;> rfl
 rw [e,h0 0]
 simp only [firstL_cons,firstL_one]
 rfl
theorem firstE_one {g : Nat → Int} : firstE 1 g = g 0 := by
 unfold firstE
 simp only [List.range_one,List.findSome?_cons,List.findSome?_nil]
 cases h : eqI (g 0) 0 with
 | false => rfl
 | true => exact (eqI_true.1 h).symm
theorem c36 (a : D61) (ha : sm61 a) : Ret 36 [ag (e61 a)] (ii (podV a)) := by
 obtain ⟨y,hy,hK⟩ := yC_bool (by kernel_rfl) (c71 a.fName ha.name)
 obtain ⟨y1,hy1,hK1⟩ := yC_bool (by kernel_rfl) (c71 a.fApp ha.app)
 obtain ⟨y2,hy2,hK2⟩ := yC_int (by kernel_rfl) (c49 a.fNeed_0 a.fNeed_1)
 obtain ⟨y3,hy3,hK3⟩ := yC_int (by kernel_rfl) (c72 a.fReqs ha.reqs)
 obtain ⟨y4,hy4,hK4⟩ := yC_int (by kernel_rfl) (c79 a.fTols ha.tols)
 obtain ⟨y5,hy5,hK5⟩ := yC_int (by kernel_rfl) (c80 a.fNear ha.near)
 obtain ⟨y6,hy6,hK6⟩ := yC_int (by kernel_rfl) (c80 a.fApart ha.apart)
 obtain ⟨y7,hy7,hK7⟩ := yC_bool (by kernel_rfl) (c74 a.fSince 0 1099511627776)
 obtain ⟨y8,hy8,hK8⟩ := yC_bool (by kernel_rfl) (c71 a.fOn ha.on)
 have hn := sm_lt ha.spread.1
 have k1 : Ev (fun m => (X36n (regs O) a m).x1 0) (ii (orE (firstE a.fSpread.n fun j => spreadV (a.fSpread.at j)) (orE (termsE a.fNear) (orE (termsE a.fApart) (orE (wantE (within a.fSince 0 1099511627776) 1) (wantE (noneB a.fOn) 7)))))) :=
  Ev.errsKC (X := fun m j => (X36n (regs O) a m).x1 (j : Int)) 1 a.fSpread.n (fun j => spreadV (a.fSpread.at j)) _ (fun m j hj => by
   have hk := ha.spread.2 j hj
   obtain ⟨z,hz,hL⟩ := yC_int (by kernel_rfl) (c80 (rwL [⟨(a.fSpread.at j).fKey,(a.fSpread.at j).fApp⟩]) ⟨show (1 : Nat) ≤ _ by decide,fun i hi => by
    have hi : i < 1 := hi
    obtain rfl : i = 0 := by omega
    exact hk⟩)
   have hL : ∀ (ρ : Type) (K : Y → Option ρ),yC (regs O) 80 [S.t (T.rows 2 1 fun i => List.take 2 (List.drop (i.1 * 2) [ts (a.fSpread.at j).fKey,ts (a.fSpread.at j).fApp]))] K = K z := fun ρ K => by
    rw [← hL ρ K]
    have : (fun i : Fin 1 => List.take 2 (List.drop (i.1 * 2) [ts (a.fSpread.at j).fKey,ts (a.fSpread.at j).fApp])) = fun i : Fin 1 => e138 ((rwL [(⟨(a.fSpread.at j).fKey,(a.fSpread.at j).fApp⟩ : D138)]).get i) := by
     funext i
     obtain ⟨i,hi⟩ := i
     obtain rfl : i = 0 := by omega
     rfl
    rw [this]
    rfl
   have hz : z.i 0 = termV (a.fSpread.at j).fKey (a.fSpread.at j).fApp := by rw [hz]; exact firstE_one
   simp only [X36n,X36s,b36_1,D36_1,ltI_nat,elemO_nat hj,get_nat,hj,decide_true,cond_true,addI_nat1 (show j < 2 ^ 62 by omega),hL,hz]
   simp only [ltI_ge,gtI_leI]
   unfold spreadV orE
   cases h : eqI (termV (a.fSpread.at j).fKey (a.fSpread.at j).fApp) 0 with
   | false => simp only [Bool.not_false,cond_true,h]
   | true => cases geI (a.fSpread.at j).fSkew 1 <;> cases leI (a.fSpread.at j).fSkew 16 <;> rfl) (Ev.one 1 fun m => by
   simp only [X36n,X36s,b36_1,D36_1,ltI_nat,Nat.lt_irrefl,decide_false,cond_false,hK5,hK6,hK7,hK8,hy5,hy6,hy7,hy8,strEq_empty]
   unfold orE wantE noneB
   cases h1 : eqI (termsE a.fNear) 0 with
   | false => rfl
   | true =>
    cases h2 : eqI (termsE a.fApart) 0 with
    | false => rfl
    | true => cases within a.fSince 0 1099511627776 <;> cases decide (sizeN a.fOn = 0) <;> cases nameB a.fOn <;> rfl)
 obtain ⟨n,h1⟩ := k1.get
 have g3 : ∀ k : Nat,gtI (ofN k) 3 = decide (3 < k) := fun k => gtI_ofN (k := 3)
 refine W36 a (n + 1) _ ?_
 have h0 : ∀ b,(X36n (regs O) a (n + 1)).x0 b = some (ii (orE (wantE (!b && !decide (3 < a.fApart.n)) 3) (orE (firstE a.fSpread.n fun j => spreadV (a.fSpread.at j)) (orE (termsE a.fNear) (orE (termsE a.fApart) (orE (wantE (within a.fSince 0 1099511627776) 1) (wantE (noneB a.fOn) 7))))))) := fun b => by
  rw [X36n]
  generalize X36n (regs O) a n = X at h1
  simp only [X36s,b36_0,D36_1,g3,h1]
  cases b <;> cases decide (3 < a.fApart.n) <;> rfl
 simp only [e36_in,hK,hK1,hK2,hK3,hK4,hy,hy1,hy2,hy3,hy4,D36_0,h0,g3]
 simp only [ltI_ge,gtI_leI]
 have e1 : (bif decide (3 < a.fSpread.n) then some (ii (orE (wantE (!true && !decide (3 < a.fApart.n)) 3) (orE (firstE a.fSpread.n fun j => spreadV (a.fSpread.at j)) (orE (termsE a.fNear) (orE (termsE a.fApart) (orE (wantE (within a.fSince 0 1099511627776) 1) (wantE (noneB a.fOn) 7))))))) else some (ii (orE (wantE (!decide (3 < a.fNear.n) && !decide (3 < a.fApart.n)) 3) (orE (firstE a.fSpread.n fun j => spreadV (a.fSpread.at j)) (orE (termsE a.fNear) (orE (termsE a.fApart) (orE (wantE (within a.fSince 0 1099511627776) 1) (wantE (noneB a.fOn) 7)))))))) = some (ii (orE (termsV a) (orE (wantE (within a.fSince 0 1099511627776) 1) (wantE (noneB a.fOn) 7)))) := by
  unfold termsV many3
  generalize orE (wantE (within a.fSince 0 1099511627776) 1) (wantE (noneB a.fOn) 7) = w
  generalize (firstE a.fSpread.n fun j => spreadV (a.fSpread.at j)) = u
  generalize termsE a.fNear = v
  generalize termsE a.fApart = t
  have e : orE (orE u (orE v t)) w = orE u (orE v (orE t w)) := by
   unfold orE
   cases h1 : eqI u 0 <;> simp [h1]
   cases h2 : eqI v 0 <;> simp [h2]
  cases decide (3 < a.fSpread.n) <;> cases decide (3 < a.fNear.n) <;> cases decide (3 < a.fApart.n) <;> first | rfl | exact congrArg (fun x => some (ii x)) e.symm
 simp only [e1,or_some,want_some (e := 7) rfl,want_some (e := 1) rfl,want_and (e := 7) rfl,want_and (e := 1) rfl]
 rfl
structure sm52 (a : D52) : Prop where
 name : sm (sizeN a.fName)
 pool : sm (sizeN a.fPool)
 type : sm (sizeN a.fOffer_Type)
 zone : sm (sizeN a.fOffer_Zone)
 kind : sm (sizeN a.fOffer_Kind)
 opts : smR sm47 a.fOpts
def claimN (a : D52) : Bool := nameB a.fName && (nameB a.fPool && (nameB a.fOffer_Type && (nameB a.fOffer_Zone && nameB a.fOffer_Kind)))
def claimB (a : D52) : Bool := within a.fPhase 1 4 && (within a.fGen 0 1099511627776 && within a.fBorn 0 1099511627776)
def claimV (a : D52) : Int := orE (wantE (claimN a) 7) (orE (chk a.fPrice) (orE (chk2 a.fCap_0 a.fCap_1) (orE (offersV a.fOpts) (orE (wantE (within a.fTry 1 32) 1) (orE (wantE (leI (sizeS a.fId) 16) 2) (wantE (claimB a) 1))))))
theorem c62 (a : D52) (ha : sm52 a) : Ret 62 [ag (e52 a)] (ii (claimV a)) := by
 obtain ⟨g,hg,hG⟩ := yC_bool (by kernel_rfl) (c112 a.fGen 0 1099511627776)
 obtain ⟨b,hb,hB⟩ := yC_bool (by kernel_rfl) (c112 a.fBorn 0 1099511627776)
 have h3 : ∀ m v0 v1 v2 v3 v4 v5 b,(X62n (regs O) a (m + 1)).x3 v0 v1 v2 v3 v4 v5 b = some (ii (firstL [v2,v4,v0,v5,v1,v3,wantE b 1])) := fun m v0 v1 v2 v3 v4 v5 b => by
  obtain ⟨y,hy,hK⟩ := retW b 1
  obtain ⟨z,hz,hL⟩ := retF [v2,v4,v0,v5,v1,v3,wantE b 1] (show (7 : Nat) < 2 ^ 62 by decide)
  have hL : ∀ (ρ : Type) (K : Y → Option ρ),yC (regs O) 107 [S.t (T.rows 1 7 fun i => List.take 1 (List.drop (i.1 * 1) [ti v2,ti v4,ti v0,ti v5,ti v1,ti v3,ti (wantE b 1)]))] K = K z := hL
  rw [X62n]
  generalize X62n (regs O) a m = X
  simp only [X62s,b62_3,hK,hy,hL,hz]
 have h2 : ∀ m v0 v1 v2 v3 v4 v5 b,(X62n (regs O) a (m + 2)).x2 v0 v1 v2 v3 v4 v5 b = some (ii (firstL [v2,v4,v0,v5,v1,v3,wantE (b && within a.fBorn 0 1099511627776) 1])) := fun m v0 v1 v2 v3 v4 v5 c => by
  have := h3 m
  rw [X62n]
  generalize X62n (regs O) a (m + 1) = X at this ⊢
  simp only [X62s,b62_2,D62_3,hB,hb,this]
  cases c <;> rfl
 have h1 : ∀ m v0 v1 v2 v3 v4 v5 b,(X62n (regs O) a (m + 3)).x1 v0 v1 v2 v3 v4 v5 b = some (ii (firstL [v2,v4,v0,v5,v1,v3,wantE (b && (within a.fGen 0 1099511627776 && within a.fBorn 0 1099511627776)) 1])) := fun m v0 v1 v2 v3 v4 v5 c => by
  have := h2 m
  rw [X62n]
  generalize X62n (regs O) a (m + 2) = X at this ⊢
  simp only [X62s,b62_1,D62_2,hG,hg,this]
  cases c <;> rfl
 have h0 : ∀ m v0 v1 v2 v3 b,(X62n (regs O) a (m + 4)).x0 v0 v1 v2 v3 b = some (ii (firstL [v1,v2,v0,v3,wantE b 1,wantE (leI (sizeS a.fId) 16) 2,wantE (claimB a) 1])) := fun m v0 v1 v2 v3 c => by
  obtain ⟨y,hy,hK⟩ := retW c 1
  obtain ⟨z,hz,hL⟩ := retW (leI (sizeS a.fId) 16) 2
  have := h1 m
  rw [X62n]
  generalize X62n (regs O) a (m + 3) = X at this ⊢
  simp only [X62s,b62_0,D62_1,hK,hy,hL,hz,this]
  unfold claimB within
  cases geI a.fPhase 1 <;> rfl
 obtain ⟨y,hy,hK⟩ := retN [a.fName,a.fPool,a.fOffer_Type,a.fOffer_Zone,a.fOffer_Kind] (show (5 : Nat) < 2 ^ 62 by decide) (fun x hx => by
  simp only [List.mem_cons,List.not_mem_nil,or_false] at hx
  rcases hx with rfl | rfl | rfl | rfl | rfl
  ·exact ha.name
  ·exact ha.pool
  ·exact ha.type
  ·exact ha.zone
  ·exact ha.kind)
 have hK : ∀ (ρ : Type) (K : Y → Option ρ),yC (regs O) 109 [S.t (T.rows 1 5 fun i => List.take 1 (List.drop (i.1 * 1) [ts a.fName,ts a.fPool,ts a.fOffer_Type,ts a.fOffer_Zone,ts a.fOffer_Kind]))] K = K y := hK
 have hy : y.b 0 = claimN a := by rw [hy]; simp only [List.all_cons,List.all_nil,Bool.and_true]; rfl
 obtain ⟨z,hz,hL⟩ := retW (claimN a) 7
 obtain ⟨x,hx,hM⟩ := yC_int (by kernel_rfl) (c113 a.fPrice)
 obtain ⟨w,hw,hN⟩ := yC_int (by kernel_rfl) (c102 a.fCap_0 a.fCap_1)
 obtain ⟨u,hu,hP⟩ := yC_int (by kernel_rfl) (c114 a.fOpts ha.opts)
 refine W62 a 4 _ ?_
 have e : e62_in (regs O) a (D62_0 (X62n (regs O) a 4)) = (X62n (regs O) a 4).x0 (chk2 a.fCap_0 a.fCap_1) (wantE (claimN a) 7) (chk a.fPrice) (offersV a.fOpts) (within a.fTry 1 32) := by
  simp only [e62_in,hK,hy,hL,hz,hM,hx,hN,hw,hP,hu,D62_0]
  unfold within
  cases geI a.fTry 1 <;> rfl
 rw [e,h0 0]
 simp only [firstL_cons,firstL_one]
 rfl
theorem c75 (a : D52) (ha : sm52 a) : Ret 75 [ag (e52 a)] (ii (claimV a)) := by
 obtain ⟨y,hy,hK⟩ := yC_bool (by kernel_rfl) (c71 a.fName ha.name)
 obtain ⟨y1,hy1,hK1⟩ := yC_bool (by kernel_rfl) (c71 a.fPool ha.pool)
 obtain ⟨y2,hy2,hK2⟩ := yC_bool (by kernel_rfl) (c130 a.fOffer_Type a.fOffer_Zone a.fOffer_Kind ha.type ha.zone ha.kind)
 obtain ⟨y3,hy3,hK3⟩ := yC_int (by kernel_rfl) (c91 a.fPrice)
 obtain ⟨y4,hy4,hK4⟩ := yC_int (by kernel_rfl) (c49 a.fCap_0 a.fCap_1)
 obtain ⟨y5,hy5,hK5⟩ := yC_int (by kernel_rfl) (c131 a.fOpts ha.opts)
 obtain ⟨g,hg,hG⟩ := yC_bool (by kernel_rfl) (c74 a.fGen 0 1099511627776)
 obtain ⟨b,hb,hB⟩ := yC_bool (by kernel_rfl) (c74 a.fBorn 0 1099511627776)
 have h2 : ∀ m c,(X75n (regs O) a (m + 1)).x2 c = some (ii (wantE (!c && within a.fBorn 0 1099511627776) 1)) := fun m c => by
  rw [X75n]
  generalize X75n (regs O) a m = X
  simp only [X75s,b75_2,hB,hb]
  cases c <;> cases within a.fBorn 0 1099511627776 <;> rfl
 have h1 : ∀ m c,(X75n (regs O) a (m + 2)).x1 c = some (ii (wantE (!c && (within a.fGen 0 1099511627776 && within a.fBorn 0 1099511627776)) 1)) := fun m c => by
  have := h2 m
  rw [X75n]
  generalize X75n (regs O) a (m + 1) = X at this ⊢
  simp only [X75s,b75_1,D75_2,hG,hg,this]
  cases c <;> cases within a.fGen 0 1099511627776 <;> rfl
 have h0 : ∀ m c,(X75n (regs O) a (m + 3)).x0 c = some (ii (orE (wantE (!c && (nameB a.fOffer_Type && (nameB a.fOffer_Zone && nameB a.fOffer_Kind))) 7) (orE (chk a.fPrice) (orE (chk2 a.fCap_0 a.fCap_1) (orE (offersV a.fOpts) (orE (wantE (within a.fTry 1 32) 1) (orE (wantE (leI (sizeS a.fId) 16) 2) (wantE (claimB a) 1)))))))) := fun m c => by
  have := h1 m
  rw [X75n]
  generalize X75n (regs O) a (m + 2) = X at this ⊢
  simp only [X75s,b75_0,D75_1,hK2,hK3,hK4,hK5,hy2,hy3,hy4,hy5,this]
  simp only [ltI_ge,gtI_leI]
  have e : (bif !geI a.fPhase 1 then some (ii (wantE (!true && (within a.fGen 0 1099511627776 && within a.fBorn 0 1099511627776)) 1)) else some (ii (wantE (!(!leI a.fPhase 4) && (within a.fGen 0 1099511627776 && within a.fBorn 0 1099511627776)) 1))) = some (ii (wantE (claimB a) 1)) := by
   unfold claimB
   generalize (within a.fGen 0 1099511627776 && within a.fBorn 0 1099511627776) = w
   unfold within
   cases geI a.fPhase 1 <;> cases leI a.fPhase 4 <;> rfl
  simp only [e,or_some,want_some (e := 7) rfl,want_some (e := 1) rfl,want_some (e := 2) rfl,want_and (e := 1) rfl]
  cases c <;> rfl
 refine W75 a 3 _ ?_
 have e0 := h0 0
 simp only [Nat.zero_add] at e0
 simp only [e75_in,hK,hK1,hy,hy1,D75_0,e0]
 unfold claimV claimN
 generalize (nameB a.fOffer_Type && (nameB a.fOffer_Zone && nameB a.fOffer_Kind)) = w
 cases nameB a.fName <;> cases nameB a.fPool <;> rfl
def firstFrom (g : Nat → Int) : Nat → Nat → Int
 | _,0 => 0
 | j,k + 1 => orE (g j) (firstFrom g (j + 1) k)
theorem firstFrom_eq (g : Nat → Int) (n : Nat) : firstFrom g 0 n = firstE n g := by
 have : ∀ k j,firstFrom g j k = ((List.range' j k).findSome? fun j => bif !(eqI (g j) 0) then some (g j) else none).getD 0 := by
  intro k
  induction k with
  | zero => intro j; rfl
  | succ k ih =>
   intro j
   unfold firstFrom
   simp only [List.range'_succ,List.findSome?_cons]
   unfold orE
   cases eqI (g j) 0 with
   | false => rfl
   | true => exact ih (j + 1)
 rw [this,← List.range_eq_range']
 rfl
theorem orE_assoc (a b c : Int) : orE (orE a b) c = orE a (orE b c) := by
 unfold orE
 cases h1 : eqI a 0 <;> simp [h1]
theorem subI_nat {j : Nat} (h : 0 < j) (h2 : j < 2 ^ 62) : subI .i64 (j : Int) 1 = ((j - 1 : Nat) : Int) := by
 unfold subI
 rw [i64_in (by omega)]
 omega
structure sm122 (a : D122) : Prop where
 nodes : smR (fun x : ByteArray => sm (sizeN x)) a.fNodes
 fresh : sm (sizeN a.fFresh)
 pool : sm (sizeN a.fPool)
 opts : smR sm47 a.fOpts
def nodesV (a : Rw ByteArray) (j : Nat) : Int := orE (wantE (nameB (a.at j)) 7) (wantE (decide (j = 0) || strLt (a.at (j - 1)) (a.at j)) 6)
def cmdB (a : D122) : Bool := within a.fCause 1 4 && within a.fStep 1 3
def cmdEnd (a : D122) : Int := orE (wantE (within a.fUntil 0 1099511627776) 1) (orE (wantE (noneB a.fFresh && noneB a.fPool) 7) (offersV a.fOpts))
def cmdV (a : D122) : Int := orE (wantE (cmdB a) 1) (orE (wantE (decide (a.fNodes.n ≤ 4)) 3) (orE (wantE (decide (0 < a.fNodes.n)) 1) (orE (firstE a.fNodes.n (nodesV a.fNodes)) (cmdEnd a))))
theorem leI_ofN {n k : Nat} : leI (ofN n) (k : Int) = decide (n ≤ k) := by unfold leI ofN; simp
theorem gtI_ofN0 {n : Nat} : gtI (ofN n) 0 = decide (0 < n) := by unfold gtI ofN; simp
theorem eqI_ofN0 {n : Nat} : eqI (ofN n) 0 = decide (n = 0) := by unfold eqI ofN; simp
theorem c68 (a : D122) (ha : sm122 a) : Ret 68 [ag (e122 a)] (ii (cmdV a)) := by
 have hn := sm_lt ha.nodes.1
 obtain ⟨y1,hy1,hK1⟩ := yC_bool (by kernel_rfl) (c112 a.fUntil 0 1099511627776)
 obtain ⟨y2,hy2,hK2⟩ := retW (within a.fUntil 0 1099511627776) 1
 obtain ⟨y3,hy3,hK3⟩ := yC_bool (by kernel_rfl) (c122 a.fFresh ha.fresh)
 obtain ⟨y4,hy4,hK4⟩ := yC_bool (by kernel_rfl) (c122 a.fPool ha.pool)
 obtain ⟨y5,hy5,hK5⟩ := yC_int (by kernel_rfl) (c114 a.fOpts ha.opts)
 have h4 : ∀ m v0 v1 b,(X68n (regs O) a (m + 1)).x4 v0 v1 b = some (ii (firstL [v1,v0,wantE b 7,offersV a.fOpts])) := fun m v0 v1 b => by
  obtain ⟨y,hy,hK⟩ := retW b 7
  obtain ⟨z,hz,hL⟩ := retF [v1,v0,wantE b 7,offersV a.fOpts] (show (4 : Nat) < 2 ^ 62 by decide)
  have hL : ∀ (ρ : Type) (K : Y → Option ρ),yC (regs O) 107 [S.t (T.rows 1 4 fun i => List.take 1 (List.drop (i.1 * 1) [ti v1,ti v0,ti (wantE b 7),ti (offersV a.fOpts)]))] K = K z := hL
  rw [X68n]
  generalize X68n (regs O) a m = X
  simp only [X68s,b68_4,hK,hK5,hy,hy5,hL,hz]
 have loop : ∀ k j,j + k = a.fNodes.n → ∀ e,Ev (fun m => (X68n (regs O) a m).x3 e (j : Int)) (ii (orE e (orE (firstFrom (nodesV a.fNodes) j k) (cmdEnd a)))) := by
  intro k
  induction k with
  | zero =>
   intro j hj e
   obtain rfl : j = a.fNodes.n := by omega
   refine Ev.one 2 fun m => ?_
   have := h4 m
   show (X68n (regs O) a (m + 2)).x3 e (a.fNodes.n : Int) = _
   rw [X68n]
   generalize X68n (regs O) a (m + 1) = X at this ⊢
   simp only [X68s,b68_3,D68_4,ltI_nat,Nat.lt_irrefl,decide_false,cond_false,hK1,hK2,hK3,hK4,hy1,hy2,hy3,hy4,this,firstL_cons,firstL_one]
   unfold cmdEnd firstFrom
   cases noneB a.fFresh <;> rfl
  | succ k ih =>
   intro j hj e
   have hj1 : j < a.fNodes.n := by omega
   have hj2 : j < 2 ^ 62 := by omega
   cases he : eqI e 0 with
   | false =>
    refine (Ev.one 1 fun m => ?_ : Ev _ (ii e)).to (by unfold orE; rw [he]; rfl)
    show (X68n (regs O) a (m + 1)).x3 e (j : Int) = _
    rw [X68n]
    generalize X68n (regs O) a m = X
    simp only [X68s,b68_3,ltI_nat,elemO_nat hj1,hj1,decide_true,cond_true,he,Bool.not_false]
   | true =>
    obtain ⟨z,hz,hL⟩ := ret1 (ha.nodes.2 j hj1)
    obtain ⟨x,hx,hM⟩ := retW (nameB (a.fNodes.at j)) 7
    obtain ⟨w,hw,hN⟩ := retW (decide (j = 0) || strLt (a.fNodes.at (j - 1)) (a.fNodes.at j)) 6
    obtain ⟨u,hu,hP⟩ := retF2 (wantE (nameB (a.fNodes.at j)) 7) (wantE (decide (j = 0) || strLt (a.fNodes.at (j - 1)) (a.fNodes.at j)) 6)
    have step : ∀ m,(X68n (regs O) a (m + 2)).x3 e (j : Int) = (X68n (regs O) a m).x3 (nodesV a.fNodes j) ((j + 1 : Nat) : Int) := fun m => by
     have h5 : ∀ m b,b = (decide (j = 0) || strLt (a.fNodes.at (j - 1)) (a.fNodes.at j)) → (X68n (regs O) a (m + 1)).x5 (wantE (nameB (a.fNodes.at j)) 7) (j : Int) b = (X68n (regs O) a m).x3 (nodesV a.fNodes j) ((j + 1 : Nat) : Int) := fun m b hb => by
      subst hb
      rw [X68n]
      generalize X68n (regs O) a m = X
      simp only [X68s,b68_5,D68_3,hN,hw,hP,hu,addI_nat1 hj2]
      rfl
     have := h5 m
     rw [X68n]
     generalize X68n (regs O) a (m + 1) = X at this ⊢
     simp only [X68s,b68_3,D68_5,ltI_nat,elemO_nat hj1,hj1,decide_true,cond_true,he,Bool.not_true,cond_false,get_nat,hL,hz,hM,hx,eqI_nat0]
     by_cases h0 : j = 0
     ·simp only [h0,decide_true,cond_true]
      rw [h0] at this
      exact this true rfl
     ·simp only [h0,decide_false,cond_false]
      have hs := subI_nat (show 0 < j by omega) hj2
      have hlt : j - 1 < a.fNodes.n := by omega
      rw [hs,elemO_nat hlt]
      simp only [get_nat]
      exact this _ (by simp [h0])
    refine (Ev.by 2 step (ih (j + 1) (by omega) (nodesV a.fNodes j))).to ?_
    rw [eqI_true.1 he]
    refine congrArg ii ?_
    show orE (nodesV a.fNodes j) (orE (firstFrom (nodesV a.fNodes) (j + 1) k) (cmdEnd a)) = orE (orE (nodesV a.fNodes j) (firstFrom (nodesV a.fNodes) (j + 1) k)) (cmdEnd a)
    rw [orE_assoc]
 have h3 := loop a.fNodes.n 0 (by omega)
 simp only [firstFrom_eq] at h3
 have h2 : ∀ b,Ev (fun m => (X68n (regs O) a m).x2 b) (ii (orE (wantE b 1) (orE (wantE (decide (a.fNodes.n ≤ 4)) 3) (orE (wantE (decide (0 < a.fNodes.n)) 1) (orE (firstE a.fNodes.n (nodesV a.fNodes)) (cmdEnd a)))))) := fun b => by
  obtain ⟨y,hy,hK⟩ := retW b 1
  obtain ⟨z,hz,hL⟩ := retW (decide (a.fNodes.n ≤ 4)) 3
  obtain ⟨x,hx,hM⟩ := retW (decide (0 < a.fNodes.n)) 1
  obtain ⟨w,hw,hN⟩ := retF [wantE b 1,wantE (decide (a.fNodes.n ≤ 4)) 3,wantE (decide (0 < a.fNodes.n)) 1] (show (3 : Nat) < 2 ^ 62 by decide)
  have hN : ∀ (ρ : Type) (K : Y → Option ρ),yC (regs O) 107 [S.t (T.rows 1 3 fun i => List.take 1 (List.drop (i.1 * 1) [ti (wantE b 1),ti (wantE (decide (a.fNodes.n ≤ 4)) 3),ti (wantE (decide (0 < a.fNodes.n)) 1)]))] K = K w := hN
  have l4 : leI (ofN a.fNodes.n) 4 = decide (a.fNodes.n ≤ 4) := leI_ofN (k := 4)
  refine (Ev.by 1 (fun m => ?_) (h3 (firstL [wantE b 1,wantE (decide (a.fNodes.n ≤ 4)) 3,wantE (decide (0 < a.fNodes.n)) 1]))).to ?_
  ·rw [X68n]
   generalize X68n (regs O) a m = X
   simp only [X68s,b68_2,D68_3,hK,hy,l4,gtI_ofN0,hL,hz,hM,hx,hN,hw]
   rfl
  ·simp only [firstL_cons,firstL_one,orE_assoc]
 have h1 : ∀ b,Ev (fun m => (X68n (regs O) a m).x1 b) (ii (orE (wantE (b && leI a.fStep 3) 1) (orE (wantE (decide (a.fNodes.n ≤ 4)) 3) (orE (wantE (decide (0 < a.fNodes.n)) 1) (orE (firstE a.fNodes.n (nodesV a.fNodes)) (cmdEnd a)))))) := fun b =>
  Ev.by 1 (fun m => by
   rw [X68n]
   generalize X68n (regs O) a m = X
   cases b <;> rfl) (h2 (b && leI a.fStep 3))
 have h0 : ∀ b,Ev (fun m => (X68n (regs O) a m).x0 b) (ii (orE (wantE ((b && geI a.fStep 1) && leI a.fStep 3) 1) (orE (wantE (decide (a.fNodes.n ≤ 4)) 3) (orE (wantE (decide (0 < a.fNodes.n)) 1) (orE (firstE a.fNodes.n (nodesV a.fNodes)) (cmdEnd a)))))) := fun b =>
  Ev.by 1 (fun m => by
   rw [X68n]
   generalize X68n (regs O) a m = X
   cases b <;> rfl) (h1 (b && geI a.fStep 1))
 obtain ⟨n,h⟩ := (h0 (within a.fCause 1 4)).get
 refine W68 a n _ ?_
 have e : e68_in (regs O) a (D68_0 (X68n (regs O) a n)) = (X68n (regs O) a n).x0 (within a.fCause 1 4) := by
  generalize X68n (regs O) a n = X
  unfold e68_in within
  cases geI a.fCause 1 <;> rfl
 rw [e,h]
 unfold cmdV cmdB
 rw [Bool.and_assoc]
 rfl
theorem c81 (a : D122) (ha : sm122 a) : Ret 81 [ag (e122 a)] (ii (cmdV a)) := by
 have hn := sm_lt ha.nodes.1
 obtain ⟨y1,hy1,hK1⟩ := yC_bool (by kernel_rfl) (c74 a.fUntil 0 1099511627776)
 obtain ⟨y3,hy3,hK3⟩ := yC_bool (by kernel_rfl) (c71 a.fFresh ha.fresh)
 obtain ⟨y4,hy4,hK4⟩ := yC_bool (by kernel_rfl) (c71 a.fPool ha.pool)
 obtain ⟨y5,hy5,hK5⟩ := yC_int (by kernel_rfl) (c131 a.fOpts ha.opts)
 have h3 : ∀ m b,(X81n (regs O) a (m + 1)).x3 b = some (ii (orE (wantE (!b && noneB a.fPool) 7) (offersV a.fOpts))) := fun m b => by
  rw [X81n]
  generalize X81n (regs O) a m = X
  simp only [X81s,b81_3,hK4,hK5,hy4,hy5,strEq_empty]
  unfold noneB
  cases b <;> cases decide (sizeN a.fPool = 0) <;> cases nameB a.fPool <;> rfl
 have h2 : Ev (fun m => (X81n (regs O) a m).x2 0) (ii (orE (firstE a.fNodes.n (nodesV a.fNodes)) (cmdEnd a))) :=
  Ev.errsKC (X := fun m j => (X81n (regs O) a m).x2 (j : Int)) 1 a.fNodes.n (nodesV a.fNodes) (cmdEnd a) (fun m j hj => by
   have hj2 : j < 2 ^ 62 := by omega
   obtain ⟨z,hz,hL⟩ := yC_bool (by kernel_rfl) (c71 (a.fNodes.at j) (ha.nodes.2 j hj))
   show (X81n (regs O) a (m + 1)).x2 (j : Int) = _
   rw [X81n]
   generalize X81n (regs O) a m = X
   have g0 : gtI (j : Int) 0 = !decide (j = 0) := by unfold gtI; by_cases h : j = 0 <;> simp [h] <;> omega
   simp only [X81s,b81_2,D81_2,ltI_nat,elemO_nat hj,hj,decide_true,cond_true,get_nat,hL,hz,addI_nat1 hj2,g0]
   unfold nodesV
   by_cases h0 : j = 0
   ·simp only [h0,decide_true,Bool.not_true,cond_false,Bool.true_or]
    unfold wantE orE
    cases nameB (a.fNodes.at 0) <;> rfl
   ·have hs := subI_nat (show 0 < j by omega) hj2
    have hlt : j - 1 < a.fNodes.n := by omega
    simp only [h0,decide_false,Bool.not_false,cond_true,Bool.false_or]
    rw [hs,elemO_nat hlt]
    simp only [get_nat]
    unfold wantE orE
    cases nameB (a.fNodes.at j) <;> cases strLt (a.fNodes.at (j - 1)) (a.fNodes.at j) <;> rfl) (Ev.one 2 fun m => by
   have := h3 m
   show (X81n (regs O) a (m + 2)).x2 (a.fNodes.n : Int) = _
   rw [X81n]
   generalize X81n (regs O) a (m + 1) = X at this ⊢
   simp only [X81s,b81_2,D81_3,ltI_nat,Nat.lt_irrefl,decide_false,cond_false,hK1,hK3,hy1,hy3,strEq_empty,this]
   unfold cmdEnd
   generalize offersV a.fOpts = w
   generalize hp : noneB a.fPool = p
   unfold noneB wantE orE
   cases within a.fUntil 0 1099511627776 <;> cases decide (sizeN a.fFresh = 0) <;> cases nameB a.fFresh <;> rfl)
 obtain ⟨n,h⟩ := h2.get
 have g4 : gtI (ofN a.fNodes.n) 4 = !decide (a.fNodes.n ≤ 4) := by
  rw [show gtI (ofN a.fNodes.n) 4 = decide (4 < a.fNodes.n) from gtI_ofN (k := 4)]
  by_cases h : a.fNodes.n ≤ 4 <;> simp [h] <;> omega
 have z0 : eqI (ofN a.fNodes.n) 0 = !decide (0 < a.fNodes.n) := by
  rw [eqI_ofN0]
  by_cases h : a.fNodes.n = 0 <;> simp [h] <;> omega
 have h1 : ∀ b,(X81n (regs O) a (n + 1)).x1 b = some (ii (orE (wantE (!b && leI a.fStep 3) 1) (orE (wantE (decide (a.fNodes.n ≤ 4)) 3) (orE (wantE (decide (0 < a.fNodes.n)) 1) (orE (firstE a.fNodes.n (nodesV a.fNodes)) (cmdEnd a)))))) := fun b => by
  rw [X81n]
  generalize X81n (regs O) a n = X at h
  simp only [X81s,b81_1,D81_2,h,g4,z0,gtI_leI,want_some (e := 1) rfl,want_some (e := 3) rfl]
  cases b <;> rfl
 have h0 : ∀ b,(X81n (regs O) a (n + 2)).x0 b = some (ii (orE (wantE (!b && (geI a.fStep 1 && leI a.fStep 3)) 1) (orE (wantE (decide (a.fNodes.n ≤ 4)) 3) (orE (wantE (decide (0 < a.fNodes.n)) 1) (orE (firstE a.fNodes.n (nodesV a.fNodes)) (cmdEnd a)))))) := fun b => by
  rw [X81n]
  generalize X81n (regs O) a (n + 1) = X at h1
  cases b with
  | true => exact h1 _
  | false =>
   refine (h1 (ltI a.fStep 1)).trans ?_
   rw [ltI_ge,Bool.not_not]
   rfl
 refine W81 a (n + 2) _ ?_
 have e : e81_in (regs O) a (D81_0 (X81n (regs O) a (n + 2))) = (X81n (regs O) a (n + 2)).x0 (!within a.fCause 1 4) := by
  generalize X81n (regs O) a (n + 2) = X
  unfold e81_in within
  rw [ltI_ge,gtI_leI]
  cases geI a.fCause 1 <;> rfl
 rw [e,h0,Bool.not_not]
 rfl
theorem c182 (a : Rw ByteArray) (b : ByteArray) (ha : a.n < 2 ^ 62) : Ret 182 [S.t (T.rows 1 a.n fun i => [ts (a.get i)]),ss b] (ii (idx a.n fun j => strEq b (a.at j))) := by
 have key := Ev.idxC (X := fun m j => (X182n (regs O) a b m).x0 (j : Int)) 1 a.n (fun j => strEq b (a.at j)) (fun m j hj => by
  have hj2 : j < 2 ^ 62 := by omega
  simp only [X182n,X182s,b182_0,D182_0,ltI_nat,elemO_nat hj,get_nat,hj,decide_true,cond_true,addI_nat1 hj2]) (fun m => by
  simp only [X182n,X182s,b182_0,D182_0,ltI_nat,Nat.lt_irrefl,decide_false,cond_false]; rfl)
 obtain ⟨n,h⟩ := key.get
 exact W182 a b n _ h
theorem c145 (a : Rw ByteArray) (b : ByteArray) (ha : a.n < 2 ^ 62) : Ret 145 [S.t (T.rows 1 a.n fun i => [ts (a.get i)]),ss b] (bb ((List.range a.n).any fun j => strEq b (a.at j))) := by
 obtain ⟨y,hy,hK⟩ := yC_int (by kernel_rfl) (c182 a b ha)
 exact W145 a b 0 _ (by simp only [e145_in,hK,hy,idx_ge])
theorem any_rwL {α : Type} [Inhabited α] {l : List α} {p : α → Bool} : ((List.range (rwL l).n).any fun j => p ((rwL l).at j)) = l.any p := by
 rw [Bool.eq_iff_iff]
 simp only [List.any_eq_true,List.mem_range]
 constructor
 ·rintro ⟨j,hj,hp⟩
  have hj : j < l.length := hj
  rw [rwL_get hj] at hp
  exact ⟨_,List.getElem_mem hj,hp⟩
 ·rintro ⟨x,hx,hp⟩
  obtain ⟨j,hj,rfl⟩ := List.getElem_of_mem hx
  exact ⟨j,hj,by rw [rwL_get hj]; exact hp⟩
def ownL : List ByteArray := [bs [122,111,110,101],bs [116,121,112,101],bs [107,105,110,100],bs [112,111,111,108],bs [104,111,115,116]]
def ownB (a : ByteArray) : Bool := ownL.any fun x => strEq a x
theorem retOwn (a : ByteArray) : ∃ y : Y,y.b 0 = ownB a ∧ ∀ (ρ : Type) (K : Y → Option ρ),yC (regs O) 145 [S.t (T.rows 1 5 fun i => List.take 1 (List.drop (i.1 * 1) [ts (bs [122,111,110,101]),ts (bs [116,121,112,101]),ts (bs [107,105,110,100]),ts (bs [112,111,111,108]),ts (bs [104,111,115,116])])),ss a] K = K y := by
 have h := c145 (rwL ownL) a (show (5 : Nat) < 2 ^ 62 by decide)
 rw [any_rwL] at h
 obtain ⟨y,hy,hK⟩ := yC_bool (by kernel_rfl) h
 refine ⟨y,hy,fun ρ K => ?_⟩
 rw [← hK ρ K]
 have := lit1 ownL ts
 exact congrArg (fun g : Fin 5 → List T => yC (regs O) 145 [S.t (T.rows 1 5 g),ss a] K) this
theorem c161 (a : ByteArray) : Ret 161 [ss a] (bb (ownB a)) := W161 a 4 _ (by
 unfold e161_in D161_0
 unfold ownB ownL
 simp only [List.any_cons,List.any_nil,Bool.or_false]
 cases strEq a (bs [122,111,110,101]) <;> cases strEq a (bs [116,121,112,101]) <;> simp only [cond_true,cond_false,X161n,X161s,b161_0,b161_1,b161_2,b161_3,D161_1,D161_2,D161_3,Bool.true_or,Bool.false_or] <;> cases strEq a (bs [107,105,110,100]) <;> simp only [cond_true,cond_false,Bool.true_or,Bool.false_or] <;> cases strEq a (bs [112,111,111,108]) <;> simp only [cond_true,cond_false,Bool.true_or,Bool.false_or])
def labelV (a : Rw D88) (j : Nat) : Int := orE (wantE (nameB (a.at j).fKey) 7) (orE (wantE (!ownB (a.at j).fKey) 1) (orE (wantE (valB (a.at j).fVal) 20) (wantE (!(List.range j).any (fun i => strEq (a.at i).fKey (a.at j).fKey)) 6)))
def labelsV (a : Rw D88) : Int := bif decide (4 < a.n) then 3 else firstE a.n (labelV a)
theorem c104 (a : Rw D88) (ha : smR sm88 a) : Ret 104 [S.t (T.rows 2 a.n fun i => e88 (a.get i))] (ii (labelsV a)) := by
 have hn := sm_lt ha.1
 have key := Ev.errsC (X := fun m j => (X104n (regs O) a m).x0 (j : Int)) 1 a.n (labelV a) (fun m j hj => by
  have hj2 : j < 2 ^ 62 := by omega
  obtain ⟨y,hy,hK⟩ := yC_bool (by kernel_rfl) (c101 (a.at j).fKey (ha.2 j hj).1)
  obtain ⟨z,hz,hL⟩ := yC_bool (by kernel_rfl) (c146 (a.at j).fVal (ha.2 j hj).2)
  obtain ⟨w,hw,hN⟩ := retOwn (a.at j).fKey
  obtain ⟨x,hx,hM⟩ := yC_bool (by kernel_rfl) (c147 (a.sub j (by omega)) (a.at j) (by rw [sub_n]; omega))
  rw [any_sub (p := fun (t : D88) => strEq t.fKey (a.at j).fKey)] at hx
  simp only [Rw.sub] at hM
  show (X104n (regs O) a (m + 1)).x0 (j : Int) = bif !eqI (labelV a j) 0 then some (ii (labelV a j)) else (X104n (regs O) a m).x0 ((j + 1 : Nat) : Int)
  rw [X104n]
  generalize X104n (regs O) a m = X
  simp only [X104s,b104_0,D104_0,ltI_nat,elemO_nat hj,get_nat,hj,decide_true,cond_true,addI_nat1 hj2,hK,hy,hL,hz,hN,hw,le_nat (Nat.le_of_lt hj),subO_nat (Nat.le_of_lt hj),hM,hx]
  unfold labelV wantE orE
  cases nameB (a.at j).fKey <;> cases ownB (a.at j).fKey <;> cases valB (a.at j).fVal <;> cases (List.range j).any (fun i => strEq (a.at i).fKey (a.at j).fKey) <;> rfl) (fun m => by
  show (X104n (regs O) a (m + 1)).x0 (a.n : Int) = _
  rw [X104n]
  generalize X104n (regs O) a m = X
  simp only [X104s,b104_0,D104_0,ltI_nat,Nat.lt_irrefl,decide_false,cond_false])
 obtain ⟨n,h⟩ := key.get
 refine W104 a n _ ?_
 have e : gtI (ofN a.n) 4 = decide (4 < a.n) := gtI_ofN (k := 4)
 unfold labelsV
 simp only [e104_in,e]
 cases decide (4 < a.n) with
 | true => rfl
 | false => exact h
theorem c126 (a : Rw D88) (ha : smR sm88 a) : Ret 126 [S.t (T.rows 2 a.n fun i => e88 (a.get i))] (ii (labelsV a)) := by
 have hn := sm_lt ha.1
 have key := Ev.errsN (X := fun m j => (X126n (regs O) a m).x0 (j : Int)) a.n (labelV a) (fun j hj => by
  have hj2 : j < 2 ^ 62 := by omega
  obtain ⟨y,hy,hK⟩ := yC_bool (by kernel_rfl) (c71 (a.at j).fKey (ha.2 j hj).1)
  obtain ⟨z,hz,hL⟩ := yC_bool (by kernel_rfl) (c129 (a.at j).fVal (ha.2 j hj).2)
  obtain ⟨w,hw,hN⟩ := yC_bool (by kernel_rfl) (c161 (a.at j).fKey)
  obtain ⟨inT,inF⟩ := Ev.anyC (X := fun m i => (X126n (regs O) a m).x1 (j : Int) (i : Int)) 1 j (fun i => strEq (a.at i).fKey (a.at j).fKey) (ii 6) (fun m i hi => by
   have hi' : i < a.n := by omega
   simp only [X126n,X126s,b126_1,D126_0,D126_1,ltI_cast,hi,decide_true,cond_true,elemO_nat hi',elemO_nat hj,get_nat,addI_nat1 (show i < 2 ^ 62 by omega)])
  have out : ∀ m,(X126n (regs O) a (m + 1)).x1 (j : Int) (j : Int) = (X126n (regs O) a m).x0 ((j + 1 : Nat) : Int) := fun m => by
   simp only [X126n,X126s,b126_1,D126_0,D126_1,ltI_cast,Nat.lt_irrefl,decide_false,cond_false,addI_nat1 hj2]
  have one : ∀ m,(X126n (regs O) a (m + 1)).x0 (j : Int) = bif !nameB (a.at j).fKey then some (ii 7) else bif ownB (a.at j).fKey then some (ii 1) else bif !valB (a.at j).fVal then some (ii 20) else (X126n (regs O) a m).x1 (j : Int) 0 := fun m => by
   simp only [X126n,X126s,b126_0,D126_0,D126_1,ltI_nat,elemO_nat hj,get_nat,hj,decide_true,cond_true,hK,hy,hL,hz,hN,hw]
  unfold labelV
  cases h1 : nameB (a.at j).fKey with
  | false => exact ⟨fun _ => Ev.one 1 fun m => by rw [one,h1]; rfl,fun h => absurd (show (7 : Int) = 0 from h) (by decide)⟩
  | true =>
   cases h0 : ownB (a.at j).fKey with
   | true => exact ⟨fun _ => Ev.one 1 fun m => by rw [one,h1,h0]; rfl,fun h => absurd (show (1 : Int) = 0 from h) (by decide)⟩
   | false =>
    cases h2 : valB (a.at j).fVal with
    | false => exact ⟨fun _ => Ev.one 1 fun m => by rw [one,h1,h0,h2]; rfl,fun h => absurd (show (20 : Int) = 0 from h) (by decide)⟩
    | true =>
     cases h3 : (List.range j).any (fun i => strEq (a.at i).fKey (a.at j).fKey) with
     | true => exact ⟨fun _ => Ev.by 1 (fun m => by rw [one,h1,h0,h2]; rfl) (inT h3),fun h => absurd (show (6 : Int) = 0 from h) (by decide)⟩
     | false => exact ⟨fun h => absurd rfl h,fun _ v hv => Ev.by 1 (fun m => by rw [one,h1,h0,h2]; rfl) (inF h3 v (Ev.by 1 out hv))⟩) (Ev.one 1 fun m => by
  simp only [X126n,X126s,b126_0,D126_0,ltI_nat,Nat.lt_irrefl,decide_false,cond_false])
 obtain ⟨n,h⟩ := key.get
 refine W126 a n _ ?_
 have e : gtI (ofN a.n) 4 = decide (4 < a.n) := gtI_ofN (k := 4)
 unfold labelsV
 simp only [e126_in,e]
 cases decide (4 < a.n) with
 | true => rfl
 | false => exact h
def sm109 (a : D109) : Prop := sm (sizeN a.fZone) ∧ sm (sizeN a.fKind)
def same109 (a b : D109) : Bool := strEq a.fZone b.fZone && strEq a.fKind b.fKind
theorem c150 (a b : D109) : Ret 150 [ag (e109 a),S.pt (e109 b)] (bb (same109 a b)) := W150 a b 1 _ (by
 unfold e150_in same109
 cases strEq a.fZone b.fZone <;> rfl)
theorem c185 (a : Rw D109) (b : D109) (ha : a.n < 2 ^ 62) : Ret 185 [S.t (T.rows 4 a.n fun i => e109 (a.get i)),S.fn (Go.Fn.func 150) [] [S.pt (e109 b)]] (ii (idx a.n fun j => same109 (a.at j) b)) := by
 have key := Ev.idxC (X := fun m j => (X185n (regs O) a b m).x0 (j : Int)) 1 a.n (fun j => same109 (a.at j) b) (fun m j hj => by
  have hj2 : j < 2 ^ 62 := by omega
  obtain ⟨y,hy,hK⟩ := yC_bool (by kernel_rfl) (c150 (a.at j) b)
  simp only [X185n,X185s,b185_0,D185_0,ltI_nat,elemO_nat hj,get_nat,hj,decide_true,cond_true,addI_nat1 hj2,hK,hy]) (fun m => by
  simp only [X185n,X185s,b185_0,D185_0,ltI_nat,Nat.lt_irrefl,decide_false,cond_false]; rfl)
 obtain ⟨n,h⟩ := key.get
 exact W185 a b n _ h
theorem c149 (a : Rw D109) (b : D109) (ha : a.n < 2 ^ 62) : Ret 149 [S.t (T.rows 4 a.n fun i => e109 (a.get i)),S.fn (Go.Fn.func 150) [] [S.pt (e109 b)]] (bb ((List.range a.n).any fun j => same109 (a.at j) b)) := by
 obtain ⟨y,hy,hK⟩ := yC_int (by kernel_rfl) (c185 a b ha)
 exact W149 a b 0 _ (by simp only [e149_in,hK,hy,idx_ge])
def offeringV (a : Rw D109) (j : Nat) : Int := orE (wantE (nameB (a.at j).fZone && nameB (a.at j).fKind) 7) (orE (chk (a.at j).fPrice) (wantE (!(List.range j).any (fun i => same109 (a.at i) (a.at j))) 6))
def offeringsV (a : Rw D109) : Int := bif decide (6 < a.n) then 3 else firstE a.n (offeringV a)
theorem c105 (a : Rw D109) (ha : smR sm109 a) : Ret 105 [S.t (T.rows 4 a.n fun i => e109 (a.get i))] (ii (offeringsV a)) := by
 have hn := sm_lt ha.1
 have key := Ev.errsC (X := fun m j => (X105n (regs O) a m).x0 (j : Int)) 1 a.n (offeringV a) (fun m j hj => by
  have hj2 : j < 2 ^ 62 := by omega
  obtain ⟨y,hy,hK⟩ := yC_bool (by kernel_rfl) (c101 (a.at j).fZone (ha.2 j hj).1)
  obtain ⟨z,hz,hL⟩ := yC_bool (by kernel_rfl) (c101 (a.at j).fKind (ha.2 j hj).2)
  obtain ⟨w,hw,hN⟩ := yC_int (by kernel_rfl) (c113 (a.at j).fPrice)
  obtain ⟨x,hx,hM⟩ := yC_bool (by kernel_rfl) (c149 (a.sub j (by omega)) (a.at j) (by rw [sub_n]; omega))
  rw [any_sub (p := fun (t : D109) => same109 t (a.at j))] at hx
  simp only [Rw.sub] at hM
  show (X105n (regs O) a (m + 1)).x0 (j : Int) = bif !eqI (offeringV a j) 0 then some (ii (offeringV a j)) else (X105n (regs O) a m).x0 ((j + 1 : Nat) : Int)
  rw [X105n]
  generalize X105n (regs O) a m = X
  simp only [X105s,b105_0,D105_0,ltI_nat,elemO_nat hj,get_nat,hj,decide_true,cond_true,addI_nat1 hj2,hK,hy,hL,hz,hN,hw,le_nat (Nat.le_of_lt hj),subO_nat (Nat.le_of_lt hj),hM,hx]
  unfold offeringV wantE orE
  cases nameB (a.at j).fZone <;> cases nameB (a.at j).fKind <;> try rfl
  cases hc : eqI (chk (a.at j).fPrice) 0 with
  | false => simp [hc,show eqI 0 0 = true from rfl]
  | true => cases (List.range j).any (fun i => same109 (a.at i) (a.at j)) <;> rfl) (fun m => by
  show (X105n (regs O) a (m + 1)).x0 (a.n : Int) = _
  rw [X105n]
  generalize X105n (regs O) a m = X
  simp only [X105s,b105_0,D105_0,ltI_nat,Nat.lt_irrefl,decide_false,cond_false])
 obtain ⟨n,h⟩ := key.get
 refine W105 a n _ ?_
 have e : gtI (ofN a.n) 6 = decide (6 < a.n) := gtI_ofN (k := 6)
 unfold offeringsV
 simp only [e105_in,e]
 cases decide (6 < a.n) with
 | true => rfl
 | false => exact h
theorem c127 (a : Rw D109) (ha : smR sm109 a) : Ret 127 [S.t (T.rows 4 a.n fun i => e109 (a.get i))] (ii (offeringsV a)) := by
 have hn := sm_lt ha.1
 have key := Ev.errsN (X := fun m j => (X127n (regs O) a m).x0 (j : Int)) a.n (offeringV a) (fun j hj => by
  have hj2 : j < 2 ^ 62 := by omega
  obtain ⟨y,hy,hK⟩ := yC_bool (by kernel_rfl) (c71 (a.at j).fZone (ha.2 j hj).1)
  obtain ⟨z,hz,hL⟩ := yC_bool (by kernel_rfl) (c71 (a.at j).fKind (ha.2 j hj).2)
  obtain ⟨w,hw,hN⟩ := yC_int (by kernel_rfl) (c91 (a.at j).fPrice)
  obtain ⟨inT,inF⟩ := Ev.anyC (X := fun m i => (X127n (regs O) a m).x1 (j : Int) (i : Int)) 1 j (fun i => same109 (a.at i) (a.at j)) (ii 6) (fun m i hi => by
   have hi' : i < a.n := by omega
   simp only [X127n,X127s,b127_1,D127_0,D127_1,ltI_cast,hi,decide_true,cond_true,elemO_nat hi',elemO_nat hj,get_nat,addI_nat1 (show i < 2 ^ 62 by omega)]
   unfold same109
   cases strEq (a.at i).fZone (a.at j).fZone <;> rfl)
  have out : ∀ m,(X127n (regs O) a (m + 1)).x1 (j : Int) (j : Int) = (X127n (regs O) a m).x0 ((j + 1 : Nat) : Int) := fun m => by
   simp only [X127n,X127s,b127_1,D127_0,D127_1,ltI_cast,Nat.lt_irrefl,decide_false,cond_false,addI_nat1 hj2]
  have one : ∀ m,(X127n (regs O) a (m + 1)).x0 (j : Int) = bif !nameB (a.at j).fZone then some (ii 7) else bif !nameB (a.at j).fKind then some (ii 7) else bif !eqI (chk (a.at j).fPrice) 0 then some (ii (chk (a.at j).fPrice)) else (X127n (regs O) a m).x1 (j : Int) 0 := fun m => by
   simp only [X127n,X127s,b127_0,D127_0,D127_1,ltI_nat,elemO_nat hj,get_nat,hj,decide_true,cond_true,hK,hy,hL,hz,hN,hw]
  unfold offeringV
  cases h1 : nameB (a.at j).fZone with
  | false => exact ⟨fun _ => Ev.one 1 fun m => by rw [one,h1]; rfl,fun h => absurd (show (7 : Int) = 0 from h) (by decide)⟩
  | true =>
   cases h0 : nameB (a.at j).fKind with
   | false => exact ⟨fun _ => Ev.one 1 fun m => by rw [one,h1,h0]; rfl,fun h => absurd (show (7 : Int) = 0 from h) (by decide)⟩
   | true =>
    have e7 : ∀ r,orE (wantE (true && true) 7) r = r := fun r => rfl
    rw [e7]
    cases h2 : eqI (chk (a.at j).fPrice) 0 with
    | false =>
     have e8 : ∀ r,orE (chk (a.at j).fPrice) r = chk (a.at j).fPrice := fun r => by unfold orE; rw [h2]; rfl
     rw [e8]
     exact ⟨fun _ => Ev.one 1 fun m => by rw [one,h1,h0,h2]; rfl,fun h => absurd (eqI_true.2 h) (by rw [h2]; decide)⟩
    | true =>
     have e8 : ∀ r,orE (chk (a.at j).fPrice) r = r := fun r => by unfold orE; rw [h2]; rfl
     rw [e8]
     cases h3 : (List.range j).any (fun i => same109 (a.at i) (a.at j)) with
     | true => exact ⟨fun _ => Ev.by 1 (fun m => by rw [one,h1,h0,h2]; rfl) (inT h3),fun h => absurd (show (6 : Int) = 0 from h) (by decide)⟩
     | false => exact ⟨fun h => absurd rfl h,fun _ v hv => Ev.by 1 (fun m => by rw [one,h1,h0,h2]; rfl) (inF h3 v (Ev.by 1 out hv))⟩) (Ev.one 1 fun m => by
  simp only [X127n,X127s,b127_0,D127_0,ltI_nat,Nat.lt_irrefl,decide_false,cond_false])
 obtain ⟨n,h⟩ := key.get
 refine W127 a n _ ?_
 have e : gtI (ofN a.n) 6 = decide (6 < a.n) := gtI_ofN (k := 6)
 unfold offeringsV
 simp only [e127_in,e]
 cases decide (6 < a.n) with
 | true => rfl
 | false => exact h
structure sm112 (a : D112) : Prop where
 name : sm (sizeN a.fName)
 labels : smR sm88 a.fLabels
 offers : smR sm109 a.fOffers
def typeV (a : D112) : Int := orE (wantE (nameB a.fName) 7) (orE (chk2 a.fCap_0 a.fCap_1) (orE (chk2 a.fOver_0 a.fOver_1) (orE (wantE (fits a.fOver_0 a.fOver_1 a.fCap_0 a.fCap_1) 1) (orE (labelsV a.fLabels) (offeringsV a.fOffers)))))
theorem c58 (a : D112) (ha : sm112 a) : Ret 58 [ag (e112 a)] (ii (typeV a)) := by
 obtain ⟨y,hy,hK⟩ := yC_bool (by kernel_rfl) (c101 a.fName ha.name)
 obtain ⟨y1,hy1,hK1⟩ := yC_int (by kernel_rfl) (c102 a.fCap_0 a.fCap_1)
 obtain ⟨y2,hy2,hK2⟩ := yC_int (by kernel_rfl) (c102 a.fOver_0 a.fOver_1)
 obtain ⟨y3,hy3,hK3⟩ := yC_bool (by kernel_rfl) (c103 a.fOver_0 a.fOver_1 a.fCap_0 a.fCap_1)
 obtain ⟨y4,hy4,hK4⟩ := yC_int (by kernel_rfl) (c104 a.fLabels ha.labels)
 obtain ⟨y5,hy5,hK5⟩ := yC_int (by kernel_rfl) (c105 a.fOffers ha.offers)
 refine W58 a 3 _ ?_
 simp only [e58_in,D58_0,D58_1,D58_2,X58n,X58s,b58_0,b58_1,b58_2,hK,hK1,hK2,hK3,hK4,hK5,hy,hy1,hy2,hy3,hy4,hy5,or_some,want_some (e := 7) rfl,want_some (e := 1) rfl]
 rfl
theorem c70 (a : D112) (ha : sm112 a) : Ret 70 [ag (e112 a)] (ii (typeV a)) := by
 obtain ⟨y,hy,hK⟩ := yC_bool (by kernel_rfl) (c71 a.fName ha.name)
 obtain ⟨y1,hy1,hK1⟩ := yC_int (by kernel_rfl) (c49 a.fCap_0 a.fCap_1)
 obtain ⟨y2,hy2,hK2⟩ := yC_int (by kernel_rfl) (c49 a.fOver_0 a.fOver_1)
 obtain ⟨y3,hy3,hK3⟩ := yC_bool (by kernel_rfl) (c125 a.fOver_0 a.fOver_1 a.fCap_0 a.fCap_1)
 obtain ⟨y4,hy4,hK4⟩ := yC_int (by kernel_rfl) (c126 a.fLabels ha.labels)
 obtain ⟨y5,hy5,hK5⟩ := yC_int (by kernel_rfl) (c127 a.fOffers ha.offers)
 refine W70 a 0 _ ?_
 simp only [e70_in,hK,hK1,hK2,hK3,hK4,hK5,hy,hy1,hy2,hy3,hy4,hy5,or_some,want_some (e := 7) rfl,want_some (e := 1) rfl]
 rfl
theorem c60 (a b : D112) : Ret 60 [ag (e112 a),S.pt (e112 b)] (bb (strEq a.fName b.fName)) := W60 a b 0 _ rfl
theorem c106 (a : Rw D112) (b : D112) (ha : a.n < 2 ^ 62) : Ret 106 [S.t (T.rows 7 a.n fun i => e112 (a.get i)),S.fn (Go.Fn.func 60) [] [S.pt (e112 b)]] (ii (idx a.n fun j => strEq (a.at j).fName b.fName)) := by
 have key := Ev.idxC (X := fun m j => (X106n (regs O) a b m).x0 (j : Int)) 1 a.n (fun j => strEq (a.at j).fName b.fName) (fun m j hj => by
  have hj2 : j < 2 ^ 62 := by omega
  obtain ⟨y,hy,hK⟩ := yC_bool (by kernel_rfl) (c60 (a.at j) b)
  simp only [X106n,X106s,b106_0,D106_0,ltI_nat,elemO_nat hj,get_nat,hj,decide_true,cond_true,addI_nat1 hj2,hK,hy]) (fun m => by
  simp only [X106n,X106s,b106_0,D106_0,ltI_nat,Nat.lt_irrefl,decide_false,cond_false]; rfl)
 obtain ⟨n,h⟩ := key.get
 exact W106 a b n _ h
theorem c59 (a : Rw D112) (b : D112) (ha : a.n < 2 ^ 62) : Ret 59 [S.t (T.rows 7 a.n fun i => e112 (a.get i)),S.fn (Go.Fn.func 60) [] [S.pt (e112 b)]] (bb ((List.range a.n).any fun j => strEq (a.at j).fName b.fName)) := by
 obtain ⟨y,hy,hK⟩ := yC_int (by kernel_rfl) (c106 a b ha)
 exact W59 a b 0 _ (by simp only [e59_in,hK,hy,idx_ge])
def typeE (a : Rw D112) (j : Nat) : Int := orE (typeV (a.at j)) (wantE (!(List.range j).any (fun i => strEq (a.at i).fName (a.at j).fName)) 6)
def typesV (a : Rw D112) : Int := bif decide (12 < a.n) then 3 else firstE a.n (typeE a)
theorem c24 (a : Rw D112) (ha : smR sm112 a) : Ret 24 [S.t (T.rows 7 a.n fun i => e112 (a.get i))] (ii (typesV a)) := by
 have hn := sm_lt ha.1
 have key := Ev.errsC (X := fun m j => (X24n (regs O) a m).x0 (j : Int)) 1 a.n (typeE a) (fun m j hj => by
  have hj2 : j < 2 ^ 62 := by omega
  obtain ⟨y,hy,hK⟩ := yC_int (by kernel_rfl) (c58 (a.at j) (ha.2 j hj))
  obtain ⟨x,hx,hM⟩ := yC_bool (by kernel_rfl) (c59 (a.sub j (by omega)) (a.at j) (by rw [sub_n]; omega))
  rw [any_sub (p := fun (t : D112) => strEq t.fName (a.at j).fName)] at hx
  simp only [Rw.sub] at hM
  show (X24n (regs O) a (m + 1)).x0 (j : Int) = bif !eqI (typeE a j) 0 then some (ii (typeE a j)) else (X24n (regs O) a m).x0 ((j + 1 : Nat) : Int)
  rw [X24n]
  generalize X24n (regs O) a m = X
  simp only [X24s,b24_0,D24_0,ltI_nat,elemO_nat hj,get_nat,hj,decide_true,cond_true,addI_nat1 hj2,hK,hy,le_nat (Nat.le_of_lt hj),subO_nat (Nat.le_of_lt hj),hM,hx]
  unfold typeE wantE orE
  cases hc : eqI (typeV (a.at j)) 0 with
  | false => simp [hc]
  | true => cases (List.range j).any (fun i => strEq (a.at i).fName (a.at j).fName) <;> rfl) (fun m => by
  show (X24n (regs O) a (m + 1)).x0 (a.n : Int) = _
  rw [X24n]
  generalize X24n (regs O) a m = X
  simp only [X24s,b24_0,D24_0,ltI_nat,Nat.lt_irrefl,decide_false,cond_false])
 obtain ⟨n,h⟩ := key.get
 refine W24 a n _ ?_
 have e : gtI (ofN a.n) 12 = decide (12 < a.n) := gtI_ofN (k := 12)
 unfold typesV
 simp only [e24_in,e]
 cases decide (12 < a.n) with
 | true => rfl
 | false => exact h
theorem c33 (a : Rw D112) (ha : smR sm112 a) : Ret 33 [S.t (T.rows 7 a.n fun i => e112 (a.get i))] (ii (typesV a)) := by
 have hn := sm_lt ha.1
 have key := Ev.errsN (X := fun m j => (X33n (regs O) a m).x0 (j : Int)) a.n (typeE a) (fun j hj => by
  have hj2 : j < 2 ^ 62 := by omega
  obtain ⟨y,hy,hK⟩ := yC_int (by kernel_rfl) (c70 (a.at j) (ha.2 j hj))
  obtain ⟨inT,inF⟩ := Ev.anyC (X := fun m i => (X33n (regs O) a m).x1 (j : Int) (i : Int)) 1 j (fun i => strEq (a.at i).fName (a.at j).fName) (ii 6) (fun m i hi => by
   have hi' : i < a.n := by omega
   simp only [X33n,X33s,b33_1,D33_0,D33_1,ltI_cast,hi,decide_true,cond_true,elemO_nat hi',elemO_nat hj,get_nat,addI_nat1 (show i < 2 ^ 62 by omega)])
  have out : ∀ m,(X33n (regs O) a (m + 1)).x1 (j : Int) (j : Int) = (X33n (regs O) a m).x0 ((j + 1 : Nat) : Int) := fun m => by
   simp only [X33n,X33s,b33_1,D33_0,D33_1,ltI_cast,Nat.lt_irrefl,decide_false,cond_false,addI_nat1 hj2]
  have one : ∀ m,(X33n (regs O) a (m + 1)).x0 (j : Int) = bif !eqI (typeV (a.at j)) 0 then some (ii (typeV (a.at j))) else (X33n (regs O) a m).x1 (j : Int) 0 := fun m => by
   simp only [X33n,X33s,b33_0,D33_0,D33_1,ltI_nat,elemO_nat hj,get_nat,hj,decide_true,cond_true,hK,hy]
  unfold typeE
  cases h2 : eqI (typeV (a.at j)) 0 with
  | false =>
   have e8 : ∀ r,orE (typeV (a.at j)) r = typeV (a.at j) := fun r => by unfold orE; rw [h2]; rfl
   rw [e8]
   exact ⟨fun _ => Ev.one 1 fun m => by rw [one,h2]; rfl,fun h => absurd (eqI_true.2 h) (by rw [h2]; decide)⟩
  | true =>
   have e8 : ∀ r,orE (typeV (a.at j)) r = r := fun r => by unfold orE; rw [h2]; rfl
   rw [e8]
   cases h3 : (List.range j).any (fun i => strEq (a.at i).fName (a.at j).fName) with
   | true => exact ⟨fun _ => Ev.by 1 (fun m => by rw [one,h2]; rfl) (inT h3),fun h => absurd (show (6 : Int) = 0 from h) (by decide)⟩
   | false => exact ⟨fun h => absurd rfl h,fun _ v hv => Ev.by 1 (fun m => by rw [one,h2]; rfl) (inF h3 v (Ev.by 1 out hv))⟩) (Ev.one 1 fun m => by
  simp only [X33n,X33s,b33_0,D33_0,ltI_nat,Nat.lt_irrefl,decide_false,cond_false])
 obtain ⟨n,h⟩ := key.get
 refine W33 a n _ ?_
 have e : gtI (ofN a.n) 12 = decide (12 < a.n) := gtI_ofN (k := 12)
 unfold typesV
 simp only [e33_in,e]
 cases decide (12 < a.n) with
 | true => rfl
 | false => exact h
end
end Go.Proofs.YtonkoellfaopiaaGreatDoor.H
