import Derived.Test.YtonkoellfaopiaaGreatDoorW18
set_option linter.unusedSimpArgs false
set_option linter.unusedVariables false
namespace Go.Proofs.YtonkoellfaopiaaGreatDoor.H
open Go
noncomputable section
theorem less_total:∀ (a b:List UInt8),(Op.bytesLess a b || decide (a=b))=!Op.bytesLess b a
 | [],[]=>rfl
 | [],_::_=>rfl
 | _::_,[]=>rfl
 | x::a,y::b=>by
  have ih:=less_total a b
  unfold Op.bytesLess
  by_cases h:x=y
  ·subst h
   simp
   simpa using ih
  ·have:x < y∨y < x:=by
    rcases Nat.lt_or_gt_of_ne (fun e=>h (UInt8.toNat_inj.1 e):x.toNat≠y.toNat) with h | h
    ·exact .inl h
    ·exact .inr h
   rcases this with h1 | h1
   ·have h2:¬ y < x:=fun h2=>absurd (Nat.lt_trans h1 h2) (Nat.lt_irrefl _)
    simp [h,h1,h2,Ne.symm h]
   ·have h2:¬ x < y:=fun h2=>absurd (Nat.lt_trans h1 h2) (Nat.lt_irrefl _)
    simp [h,h1,h2,Ne.symm h]
theorem lt_total (a b:ByteArray):(strLt a b || strEq a b)=!strLt b a:=by
 unfold strLt
 rw [strEq_data]
 exact less_total _ _
def prevS (f:Nat→ByteArray) (j:Nat):ByteArray:=if j=0 then bs [] else f (j - 1)
def ordB (f:Nat→ByteArray) (j:Nat):Bool:=decide (j=0) || strLt (f (j - 1)) (f j)
theorem prevS_succ (f:Nat→ByteArray) (j:Nat):prevS f (j+1)=f j:=by simp [prevS]
theorem lt_empty {a:ByteArray} (h:¬ sizeN a=0):strLt (bs []) a=true:=by
 unfold strLt
 have:a.data.toList≠[]:=fun e=>h (by unfold sizeN;show a.data.size=0;rw [← Array.length_toList,e];rfl)
 cases hl:a.data.toList with
 | nil=>exact absurd hl this
 | cons x l=>rfl
theorem nameB_ne {a:ByteArray} (h:nameB a=true):¬ sizeN a=0:=fun e=>by
 unfold nameB at h
 rw [e] at h
 cases h
theorem last_ord {f:Nat→ByteArray} {j:Nat} (h:nameB (f j)=true):(strLt (f j) (prevS f j) || strEq (f j) (prevS f j))=!ordB f j:=by
 rw [lt_total]
 unfold prevS ordB
 by_cases h0:j=0
 ·subst h0
  rw [if_pos rfl,lt_empty (nameB_ne h)]
  rfl
 ·rw [if_neg h0]
  simp [h0]
theorem orE_false {a:Int} (h:eqI a 0=false) (r:Int):orE a r=a:=by unfold orE;rw [h];rfl
theorem orE_true {a:Int} (h:eqI a 0=true) (r:Int):orE a r=r:=by unfold orE;rw [h];rfl
def poolN (a:D33) (i:Nat):ByteArray:=(a.fPools.at i).fName
def poolE (a:D33) (j:Nat):Int:=orE (poolV (a.fPools.at j)) (wantE (ordB (poolN a) j) 6)
theorem pool_name {x:D77} (h:poolV x=0):nameB x.fName=true:=by
 unfold poolV at h
 exact (wantE_eq_zero (by decide)).1 (orE_eq_zero.1 h).1
theorem c25 (a:D33) (ha:smR sm77 a.fPools):Ret 25 [ag (e33 a)] (ii (firstE a.fPools.n (poolE a))):=by
 have hn:=sm_lt ha.1
 have key:=Ev.errsC (X:=fun m j=>(X25n (regs O) a m).x0 (j:Int) (prevS (poolN a) j)) 1 a.fPools.n (poolE a) (fun m j hj=>by
  have hj2:j < 2 ^ 62:=by omega
  obtain ⟨y,hy,hK⟩:=yC_int (by kernel_rfl) (c61 (a.fPools.at j) (ha.2 j hj))
  show (X25n (regs O) a (m+1)).x0 (j:Int) (prevS (poolN a) j)=bif !eqI (poolE a j) 0 then some (ii (poolE a j)) else (X25n (regs O) a m).x0 ((j+1:Nat):Int) (prevS (poolN a) (j+1))
  rw [X25n,prevS_succ]
  generalize X25n (regs O) a m=X
  simp only [X25s,b25_0,D25_0,ltI_nat,elemO_nat hj,get_nat,hj,decide_true,cond_true,addI_nat1 hj2,hK,hy]
  unfold poolE
  cases hc:eqI (poolV (a.fPools.at j)) 0 with
  | false=>rw [orE_false hc,hc];rfl
  | true=>
   rw [orE_true hc]
   have:=last_ord (f:=poolN a) (j:=j) (pool_name (eqI_true.1 hc))
   simp only [Bool.not_true,cond_false]
   have this':(strLt (a.fPools.at j).fName (prevS (poolN a) j) || strEq (a.fPools.at j).fName (prevS (poolN a) j))=!ordB (poolN a) j:=this
   rw [this']
   cases ordB (poolN a) j<;>rfl) (fun m=>by
  show (X25n (regs O) a (m+1)).x0 (a.fPools.n:Int) (prevS (poolN a) a.fPools.n)=_
  rw [X25n]
  generalize X25n (regs O) a m=X
  simp only [X25s,b25_0,D25_0,ltI_nat,Nat.lt_irrefl,decide_false,cond_false])
 obtain ⟨n,h⟩:=key.get
 exact W25 a n _ h
def podN (a:D33) (i:Nat):ByteArray:=(a.fPods.at i).fName
def podE (a:D33) (j:Nat):Int:=orE (podV (a.fPods.at j)) (orE (wantE (ordB (podN a) j) 6) (orE (wantE (decide (sizeN (a.fPods.at j).fOn=0) || claimIn a (a.fPods.at j).fOn) 5) (wantE (leI (a.fPods.at j).fSince a.fNow) 1)))
theorem pod_name {x:D61} (h:podV x=0):nameB x.fName=true:=by
 unfold podV at h
 have:=(wantE_eq_zero (by decide)).1 (orE_eq_zero.1 h).1
 rw [Bool.and_eq_true] at this
 exact this.1
theorem c27 (a:D33) (ha:smR sm61 a.fPods) (hc:a.fClaims.n < 2 ^ 62):Ret 27 [ag (e33 a)] (ii (firstE a.fPods.n (podE a))):=by
 have hn:=sm_lt ha.1
 have key:=Ev.errsC (X:=fun m j=>(X27n (regs O) a m).x0 (j:Int) (prevS (podN a) j)) 2 a.fPods.n (podE a) (fun m j hj=>by
  have hj2:j < 2 ^ 62:=by omega
  obtain ⟨y,hy,hK⟩:=yC_int (by kernel_rfl) (c66 (a.fPods.at j) (ha.2 j hj))
  obtain ⟨z,hz,hL⟩:=yC_bool (by kernel_rfl) (c67 a (a.fPods.at j).fOn hc)
  show (X27n (regs O) a (m+2)).x0 (j:Int) (prevS (podN a) j)=bif !eqI (podE a j) 0 then some (ii (podE a j)) else (X27n (regs O) a m).x0 ((j+1:Nat):Int) (prevS (podN a) (j+1))
  have h1:∀ b,(X27n (regs O) a (m+1)).x1 (a.fPods.at j) b (j:Int)=bif b then some (ii 5) else bif gtI (a.fPods.at j).fSince a.fNow then some (ii 1) else (X27n (regs O) a m).x0 ((j+1:Nat):Int) (a.fPods.at j).fName:=fun b=>by
   rw [X27n]
   generalize X27n (regs O) a m=X
   simp only [X27s,b27_1,D27_0,addI_nat1 hj2]
  rw [X27n,prevS_succ]
  generalize X27n (regs O) a (m+1)=X at h1 ⊢
  generalize X27n (regs O) a m=X' at h1 ⊢
  simp only [X27s,b27_0,D27_1,ltI_nat,elemO_nat hj,get_nat,hj,decide_true,cond_true,hK,hy,hL,hz,strEq_empty,h1]
  unfold podE
  cases hc:eqI (podV (a.fPods.at j)) 0 with
  | false=>rw [orE_false hc,hc];rfl
  | true=>
   rw [orE_true hc]
   have:=last_ord (f:=podN a) (j:=j) (pod_name (eqI_true.1 hc))
   have this':(strLt (a.fPods.at j).fName (prevS (podN a) j) || strEq (a.fPods.at j).fName (prevS (podN a) j))=!ordB (podN a) j:=this
   simp only [Bool.not_true,cond_false,this',gtI_leI]
   unfold orE wantE
   cases ordB (podN a) j<;>cases decide (sizeN (a.fPods.at j).fOn=0)<;>cases claimIn a (a.fPods.at j).fOn<;>cases leI (a.fPods.at j).fSince a.fNow<;>rfl) (fun m=>by
  show (X27n (regs O) a (m+2)).x0 (a.fPods.n:Int) (prevS (podN a) a.fPods.n)=_
  rw [X27n]
  generalize X27n (regs O) a (m+1)=X
  simp only [X27s,b27_0,ltI_nat,Nat.lt_irrefl,decide_false,cond_false])
 obtain ⟨n,h⟩:=key.get
 exact W27 a n _ h
def cmdE (a:D33) (j:Nat):Int:=orE (cmdV (a.fCommands.at j)) (wantE ((decide (sizeN (a.fCommands.at j).fPool=0) || poolIn a (a.fCommands.at j).fPool) && knownB a.fTypes (a.fCommands.at j).fOpts) 5)
theorem c28 (a:D33) (ha:smR sm122 a.fCommands) (hp:a.fPools.n < 2 ^ 62) (ht:smR sm112 a.fTypes):Ret 28 [ag (e33 a)] (ii (firstE a.fCommands.n (cmdE a))):=by
 have hn:=sm_lt ha.1
 have key:=Ev.errsC (X:=fun m j=>(X28n (regs O) a m).x0 (j:Int)) 2 a.fCommands.n (cmdE a) (fun m j hj=>by
  have hj2:j < 2 ^ 62:=by omega
  obtain ⟨y,hy,hK⟩:=yC_int (by kernel_rfl) (c68 (a.fCommands.at j) (ha.2 j hj))
  obtain ⟨z,hz,hL⟩:=yC_bool (by kernel_rfl) (c64 a (a.fCommands.at j).fPool hp)
  obtain ⟨x,hx,hM⟩:=yC_bool (by kernel_rfl) (c65 a (a.fCommands.at j).fOpts (sm_lt (ha.2 j hj).opts.1) ht)
  show (X28n (regs O) a (m+2)).x0 (j:Int)=bif !eqI (cmdE a j) 0 then some (ii (cmdE a j)) else (X28n (regs O) a m).x0 ((j+1:Nat):Int)
  have h1:∀ b,(X28n (regs O) a (m+1)).x1 (a.fCommands.at j) b (j:Int)=bif b then some (ii 5) else bif !knownB a.fTypes (a.fCommands.at j).fOpts then some (ii 5) else (X28n (regs O) a m).x0 ((j+1:Nat):Int):=fun b=>by
   rw [X28n]
   generalize X28n (regs O) a m=X
   simp only [X28s,b28_1,D28_0,addI_nat1 hj2,hM,hx]
  rw [X28n]
  generalize X28n (regs O) a (m+1)=X at h1 ⊢
  generalize X28n (regs O) a m=X' at h1 ⊢
  simp only [X28s,b28_0,D28_1,ltI_nat,elemO_nat hj,get_nat,hj,decide_true,cond_true,hK,hy,hL,hz,strEq_empty,h1]
  unfold cmdE
  cases hc:eqI (cmdV (a.fCommands.at j)) 0 with
  | false=>rw [orE_false hc,hc];rfl
  | true=>
   rw [orE_true hc]
   unfold wantE
   cases decide (sizeN (a.fCommands.at j).fPool=0)<;>cases poolIn a (a.fCommands.at j).fPool<;>cases knownB a.fTypes (a.fCommands.at j).fOpts<;>rfl) (fun m=>by
  show (X28n (regs O) a (m+2)).x0 (a.fCommands.n:Int)=_
  rw [X28n]
  generalize X28n (regs O) a (m+1)=X
  simp only [X28s,b28_0,ltI_nat,Nat.lt_irrefl,decide_false,cond_false])
 obtain ⟨n,h⟩:=key.get
 exact W28 a n _ h
theorem one47 (o:D47):(fun i:Fin 1=>List.take 3 (List.drop (i.1*3) (e47 o)))=fun i:Fin 1=>e47 ((rwL [o]).get i):=by
 funext i
 obtain ⟨i,hi⟩:=i
 obtain rfl:i=0:=by omega
 rfl
theorem known_one (a:Rw D112) (o:D47):knownB a (rwL [o])=hasB a o:=by
 unfold knownB
 show (List.range 1).all _=_
 simp only [List.range_one,List.all_cons,List.all_nil,Bool.and_true]
 rfl
theorem ret65 (a:D33) (o:D47) (ha:smR sm112 a.fTypes):∃ y:Y,y.b 0=hasB a.fTypes o∧∀ (ρ:Type) (K:Y→Option ρ),yC (regs O) 65 [ag (e33 a),S.t (T.rows 3 1 fun i=>List.take 3 (List.drop (i.1*3) (e47 o)))] K=K y:=by
 obtain ⟨y,hy,hK⟩:=yC_bool (by kernel_rfl) (c65 a (rwL [o]) (show (1:Nat) < 2 ^ 62 by decide) ha)
 refine ⟨y,by rw [hy,known_one],fun ρ K=>?_⟩
 rw [one47]
 exact hK ρ K
theorem ret77 (a:Rw D112) (o:D47) (ha:smR sm112 a) (ho:sm47 o):∃ y:Y,y.b 0=hasB a o∧∀ (ρ:Type) (K:Y→Option ρ),yC (regs O) 77 [S.t (T.rows 7 a.n fun i=>e112 (a.get i)),S.t (T.rows 3 1 fun i=>List.take 3 (List.drop (i.1*3) (e47 o)))] K=K y:=by
 obtain ⟨y,hy,hK⟩:=yC_bool (by kernel_rfl) (c77 a (rwL [o]) ha ⟨show (1:Nat)≤_ by decide,fun i hi=>by
  have hi:i < 1:=hi
  obtain rfl:i=0:=by omega
  exact ho⟩)
 refine ⟨y,by rw [hy,known_one],fun ρ K=>?_⟩
 rw [one47]
 exact hK ρ K
def offC (c:D52):D47:=⟨c.fOffer_Type,c.fOffer_Zone,c.fOffer_Kind⟩
def claimNm (a:D33) (i:Nat):ByteArray:=(a.fClaims.at i).fName
def capB (a:D33) (c:D52):Bool:=eqI c.fCap_0 (capOf a.fTypes (offC c)).1 && eqI c.fCap_1 (capOf a.fTypes (offC c)).2
def claimE (a:D33) (j:Nat):Int:=orE (claimV (a.fClaims.at j)) (orE (wantE (ordB (claimNm a) j) 6) (orE (wantE (poolIn a (a.fClaims.at j).fPool && (hasB a.fTypes (offC (a.fClaims.at j)) && knownB a.fTypes (a.fClaims.at j).fOpts)) 5) (wantE (capB a (a.fClaims.at j)) 1)))
theorem claim_name {x:D52} (h:claimV x=0):nameB x.fName=true:=by
 unfold claimV at h
 have:=(wantE_eq_zero (by decide)).1 (orE_eq_zero.1 h).1
 unfold claimN at this
 rw [Bool.and_eq_true] at this
 exact this.1
theorem c26 (a:D33) (ha:smR sm52 a.fClaims) (hp:a.fPools.n < 2 ^ 62) (ht:smR sm112 a.fTypes):Ret 26 [ag (e33 a)] (ii (firstE a.fClaims.n (claimE a))):=by
 have hn:=sm_lt ha.1
 have key:=Ev.errsC (X:=fun m j=>(X26n (regs O) a m).x0 (j:Int) (prevS (claimNm a) j)) 3 a.fClaims.n (claimE a) (fun m j hj=>by
  have hj2:j < 2 ^ 62:=by omega
  obtain ⟨y,hy,hK⟩:=yC_int (by kernel_rfl) (c62 (a.fClaims.at j) (ha.2 j hj))
  obtain ⟨h,hh0,hh1,hh2,hH⟩:=yC_aab (by kernel_rfl) (c63 a.fTypes (offC (a.fClaims.at j)) ht)
  have hH:∀ (ρ:Type) (K:Y→Option ρ),yC (regs O) 63 [S.t (T.rows 7 a.fTypes.n fun i=>e112 (a.fTypes.get i)),S.agg [ss (a.fClaims.at j).fOffer_Type,ss (a.fClaims.at j).fOffer_Zone,ss (a.fClaims.at j).fOffer_Kind]] K=K h:=hH
  obtain ⟨z,hz,hL⟩:=yC_bool (by kernel_rfl) (c64 a (a.fClaims.at j).fPool hp)
  obtain ⟨o,ho,hO⟩:=ret65 a (offC (a.fClaims.at j)) ht
  have hO:∀ (ρ:Type) (K:Y→Option ρ),yC (regs O) 65 [ag (e33 a),S.t (T.rows 3 1 fun i=>List.take 3 (List.drop (i.1*3) [ts (a.fClaims.at j).fOffer_Type,ts (a.fClaims.at j).fOffer_Zone,ts (a.fClaims.at j).fOffer_Kind]))] K=K o:=hO
  obtain ⟨x,hx,hM⟩:=yC_bool (by kernel_rfl) (c65 a (a.fClaims.at j).fOpts (sm_lt (ha.2 j hj).opts.1) ht)
  show (X26n (regs O) a (m+3)).x0 (j:Int) (prevS (claimNm a) j)=bif !eqI (claimE a j) 0 then some (ii (claimE a j)) else (X26n (regs O) a m).x0 ((j+1:Nat):Int) (prevS (claimNm a) (j+1))
  rw [prevS_succ]
  have k3:∀ b v2 v3,(X26n (regs O) a (m+1)).x3 b (a.fClaims.at j) v2 v3 (j:Int)=bif b then some (ii 5) else bif !(eqI (a.fClaims.at j).fCap_0 v2 && (eqI (a.fClaims.at j).fCap_1 v3 && true)) then some (ii 1) else (X26n (regs O) a m).x0 ((j+1:Nat):Int) (claimNm a j):=fun b v2 v3=>by
   rw [X26n]
   generalize X26n (regs O) a m=X
   simp only [X26s,b26_3,D26_0,addI_nat1 hj2]
   rfl
  have k1:∀ b v2 v3,(X26n (regs O) a (m+2)).x1 b (a.fClaims.at j) v2 v3 (j:Int)=bif b || !knownB a.fTypes (a.fClaims.at j).fOpts then some (ii 5) else bif !(eqI (a.fClaims.at j).fCap_0 v2 && (eqI (a.fClaims.at j).fCap_1 v3 && true)) then some (ii 1) else (X26n (regs O) a m).x0 ((j+1:Nat):Int) (claimNm a j):=fun b v2 v3=>by
   rw [X26n]
   generalize X26n (regs O) a (m+1)=X at k3 ⊢
   generalize X26n (regs O) a m=X' at k3 ⊢
   simp only [X26s,b26_1,D26_3,hM,hx,k3]
   cases b<;>cases knownB a.fTypes (a.fClaims.at j).fOpts<;>rfl
  have k4:(X26n (regs O) a (m+1)).x4=some (ii 5):=by
   rw [X26n]
   generalize X26n (regs O) a m=X
   simp only [X26s,b26_4]
  have k2:(X26n (regs O) a (m+2)).x2=some (ii 5):=by
   rw [X26n]
   generalize X26n (regs O) a (m+1)=X at k4 ⊢
   simp only [X26s,b26_2,D26_4,k4]
  rw [X26n]
  generalize X26n (regs O) a (m+2)=X at k1 k2 ⊢
  generalize X26n (regs O) a m=X' at k1 ⊢
  simp only [X26s,b26_0,D26_1,D26_2,ltI_nat,elemO_nat hj,get_nat,hj,decide_true,cond_true,hK,hy,hH,hh0,hh1,hh2,hL,hz,hO,ho,k1,k2]
  unfold claimE
  cases hc:eqI (claimV (a.fClaims.at j)) 0 with
  | false=>rw [orE_false hc,hc];rfl
  | true=>
   rw [orE_true hc]
   have:=last_ord (f:=claimNm a) (j:=j) (claim_name (eqI_true.1 hc))
   have this':(strLt (a.fClaims.at j).fName (prevS (claimNm a) j) || strEq (a.fClaims.at j).fName (prevS (claimNm a) j))=!ordB (claimNm a) j:=this
   simp only [Bool.not_true,cond_false,this',Bool.and_true]
   have ec:(eqI (a.fClaims.at j).fCap_0 (capOf a.fTypes (offC (a.fClaims.at j))).1 && eqI (a.fClaims.at j).fCap_1 (capOf a.fTypes (offC (a.fClaims.at j))).2)=capB a (a.fClaims.at j):=rfl
   simp only [ec]
   unfold orE wantE
   cases ordB (claimNm a) j<;>cases poolIn a (a.fClaims.at j).fPool<;>cases hasB a.fTypes (offC (a.fClaims.at j))<;>cases knownB a.fTypes (a.fClaims.at j).fOpts<;>cases capB a (a.fClaims.at j)<;>rfl) (fun m=>by
  show (X26n (regs O) a (m+3)).x0 (a.fClaims.n:Int) (prevS (claimNm a) a.fClaims.n)=_
  rw [X26n]
  generalize X26n (regs O) a (m+2)=X
  simp only [X26s,b26_0,ltI_nat,Nat.lt_irrefl,decide_false,cond_false])
 obtain ⟨n,h⟩:=key.get
 exact W26 a n _ h
theorem yC_pair {f:FuncId} {args:List S} {l:List Sh} {j:Nat} {x:S} {b:Bool} {y0:Y} (hs:shF O.P f=some (.tup [.agg l,.bool j])) (h:Ret f args (S.tup [x,bb b])) (hx:build y0 (.agg l)=x) (hb:y0.b j=b):∃ y:Y,y.b j=b∧∀ (ρ:Type) (K:Y→Option ρ),yC (regs O) f args K=K y:=by
 subst hx
 subst hb
 obtain ⟨y,h1,h2⟩:=yC_of (y0:=y0) hs h
 simp only [build,buildL,S.tup.injEq,List.cons.injEq,S.t.injEq,T.v.injEq,Value.bool.injEq,and_true] at h1
 exact ⟨y,h1.2,h2⟩
def yPool (x:D77) (b:Bool):Y:=⟨fun i=>match i with | 1=>x.fWeight | 2=>x.fLimit_0 | 3=>x.fLimit_1 | 6=>x.fGen | 7=>x.fExpire | 8=>x.fBudget | _=>x.fMerge,fun _=>b,fun _=>x.fName,
 fun i=>match i with | 4=>⟨x.fReqs.n,fun i=>e68 (x.fReqs.get i)⟩ | _=>⟨x.fTaints.n,fun i=>e88 (x.fTaints.get i)⟩,fun _=>[]⟩
def shPool:List Sh:=[.str 0,.int .i64 1,.int .i64 2,.int .i64 3,.rows 4 4,.rows 2 5,.int .i64 6,.int .i64 7,.int .i64 8,.int .i64 9]
theorem find_first {ρ:Type} {n:Nat} {p:Nat→Bool} {g:Nat→ρ} {r:ρ}:∃ j,((List.range n).findSome? fun j=>bif p j then some (g j) else none).getD r=(bif (List.range n).any p then g j else r):=by
 generalize List.range n=l
 induction l with
 | nil=>exact ⟨0,rfl⟩
 | cons i l ih=>
  cases h:p i with
  | true=>exact ⟨i,by simp [h]⟩
  | false=>
   obtain ⟨j,hj⟩:=ih
   exact ⟨j,by simpa [h] using hj⟩
theorem elim0_eq {α:Type} (f g:Fin 0→α):f=g:=by funext i;exact i.elim0
theorem c76 (a:D33) (b:ByteArray) (ha:a.fPools.n < 2 ^ 62):∃ y:Y,y.b 10=poolIn a b∧∀ (ρ:Type) (K:Y→Option ρ),yC (regs O) 76 [ag (e33 a),ss b] K=K y:=by
 obtain ⟨z,hz⟩:∃ z:S,z=build (yPool ⟨bs [],0,0,0,⟨0,fun i=>i.elim0⟩,⟨0,fun i=>i.elim0⟩,0,0,0,0⟩ false) (.agg shPool):=⟨_,rfl⟩
 have key:=Ev.loopN (X:=fun m j=>(X76n (regs O) a b m).x0 (j:Int)) a.fPools.n (fun j=>bif strEq (a.fPools.at j).fName b then some (S.tup [ag (e77 (a.fPools.at j)),bb true]) else none) (S.tup [z,bb false]) (fun j hj=>by
  have hj2:j < 2 ^ 62:=by omega
  have one:∀ m,(X76n (regs O) a b (m+1)).x0 (j:Int)=bif strEq (a.fPools.at j).fName b then some (S.tup [ag (e77 (a.fPools.at j)),bb true]) else (X76n (regs O) a b m).x0 ((j+1:Nat):Int):=fun m=>by
   rw [X76n]
   generalize X76n (regs O) a b m=X
   simp only [X76s,b76_0,D76_0,ltI_nat,elemO_nat hj,get_nat,hj,decide_true,cond_true,addI_nat1 hj2]
  cases h:strEq (a.fPools.at j).fName b with
  | true=>exact ⟨fun e he=>(by obtain rfl:=Option.some.inj he;exact Ev.one 1 fun m=>by rw [one,h];rfl),fun hn=>(by cases hn)⟩
  | false=>exact ⟨fun e he=>(by cases he),fun _ v hv=>Ev.by 1 (fun m=>by rw [one,h];rfl) hv⟩) (Ev.one 1 fun m=>by
  show (X76n (regs O) a b (m+1)).x0 (a.fPools.n:Int)=_
  rw [X76n]
  generalize X76n (regs O) a b m=X
  simp only [X76s,b76_0,ltI_nat,Nat.lt_irrefl,decide_false,cond_false]
  rw [hz]
  simp only [build,buildL,shPool,yPool,Option.some.injEq,S.tup.injEq,S.agg.injEq,List.cons.injEq,S.t.injEq,T.rows.injEq,true_and,and_true,heq_eq_eq]
  exact ⟨elim0_eq _ _,elim0_eq _ _⟩)
 obtain ⟨j,hj⟩:=find_first (n:=a.fPools.n) (p:=fun j=>strEq (a.fPools.at j).fName b) (g:=fun j=>S.tup [ag (e77 (a.fPools.at j)),bb true]) (r:=S.tup [z,bb false])
 rw [hj] at key
 obtain ⟨n,h⟩:=key.get
 have hr:=W76 a b n _ h
 unfold poolIn
 cases hp:(List.range a.fPools.n).any (fun j=>strEq (a.fPools.at j).fName b) with
 | true=>
  rw [hp] at hr
  exact yC_pair (y0:=yPool (a.fPools.at j) true) (l:=shPool) (by kernel_rfl) hr rfl rfl
 | false=>
  rw [hp] at hr
  exact yC_pair (l:=shPool) (by kernel_rfl) hr hz.symm rfl
def yClaim (x:D52) (b:Bool):Y:=⟨fun i=>match i with | 2=>x.fGen | 6=>x.fPrice | 7=>x.fCap_0 | 8=>x.fCap_1 | 10=>x.fTry | 12=>x.fPhase | _=>x.fBorn,fun i=>match i with | 14=>x.fMarked | _=>b,fun i=>match i with | 0=>x.fName | 1=>x.fPool | 3=>x.fOffer_Type | 4=>x.fOffer_Zone | 5=>x.fOffer_Kind | _=>x.fId,
 fun _=>⟨x.fOpts.n,fun i=>e47 (x.fOpts.get i)⟩,fun _=>[]⟩
def shClaim:List Sh:=[.str 0,.str 1,.int .i64 2,.str 3,.str 4,.str 5,.int .i64 6,.int .i64 7,.int .i64 8,.rows 3 9,.int .i64 10,.str 11,.int .i64 12,.int .i64 13,.bool 14]
theorem c37 (a:D33) (b:ByteArray) (ha:a.fClaims.n < 2 ^ 62):∃ y:Y,y.b 15=claimIn a b∧∀ (ρ:Type) (K:Y→Option ρ),yC (regs O) 37 [ag (e33 a),ss b] K=K y:=by
 obtain ⟨z,hz⟩:∃ z:S,z=build (yClaim ⟨bs [],bs [],0,bs [],bs [],bs [],0,0,0,⟨0,fun i=>i.elim0⟩,0,bs [],0,0,false⟩ false) (.agg shClaim):=⟨_,rfl⟩
 have key:=Ev.loopN (X:=fun m j=>(X37n (regs O) a b m).x0 (j:Int)) a.fClaims.n (fun j=>bif strEq (a.fClaims.at j).fName b then some (S.tup [ag (e52 (a.fClaims.at j)),bb true]) else none) (S.tup [z,bb false]) (fun j hj=>by
  have hj2:j < 2 ^ 62:=by omega
  have one:∀ m,(X37n (regs O) a b (m+1)).x0 (j:Int)=bif strEq (a.fClaims.at j).fName b then some (S.tup [ag (e52 (a.fClaims.at j)),bb true]) else (X37n (regs O) a b m).x0 ((j+1:Nat):Int):=fun m=>by
   rw [X37n]
   generalize X37n (regs O) a b m=X
   simp only [X37s,b37_0,D37_0,ltI_nat,elemO_nat hj,get_nat,hj,decide_true,cond_true,addI_nat1 hj2]
  cases h:strEq (a.fClaims.at j).fName b with
  | true=>exact ⟨fun e he=>(by obtain rfl:=Option.some.inj he;exact Ev.one 1 fun m=>by rw [one,h];rfl),fun hn=>(by cases hn)⟩
  | false=>exact ⟨fun e he=>(by cases he),fun _ v hv=>Ev.by 1 (fun m=>by rw [one,h];rfl) hv⟩) (Ev.one 1 fun m=>by
  show (X37n (regs O) a b (m+1)).x0 (a.fClaims.n:Int)=_
  rw [X37n]
  generalize X37n (regs O) a b m=X
  simp only [X37s,b37_0,ltI_nat,Nat.lt_irrefl,decide_false,cond_false]
  rw [hz]
  simp only [build,buildL,shClaim,yClaim,Option.some.injEq,S.tup.injEq,S.agg.injEq,List.cons.injEq,S.t.injEq,T.rows.injEq,true_and,and_true,heq_eq_eq]
  exact elim0_eq _ _)
 obtain ⟨j,hj⟩:=find_first (n:=a.fClaims.n) (p:=fun j=>strEq (a.fClaims.at j).fName b) (g:=fun j=>S.tup [ag (e52 (a.fClaims.at j)),bb true]) (r:=S.tup [z,bb false])
 rw [hj] at key
 obtain ⟨n,h⟩:=key.get
 have hr:=W37 a b n _ h
 unfold claimIn
 cases hp:(List.range a.fClaims.n).any (fun j=>strEq (a.fClaims.at j).fName b) with
 | true=>
  rw [hp] at hr
  exact yC_pair (y0:=yClaim (a.fClaims.at j) true) (l:=shClaim) (by kernel_rfl) hr rfl rfl
 | false=>
  rw [hp] at hr
  exact yC_pair (l:=shClaim) (by kernel_rfl) hr hz.symm rfl
theorem sm_off {x:D52} (h:sm52 x):sm47 (offC x):=⟨h.type,h.zone,h.kind⟩
theorem gtI_nat0 {j:Nat}:gtI (j:Int) 0=!decide (j=0):=by unfold gtI;by_cases h:j=0<;>simp [h]<;>omega
theorem c35 (a:D33) (ha:smR sm52 a.fClaims) (hp:a.fPools.n < 2 ^ 62) (ht:smR sm112 a.fTypes):Ret 35 [ag (e33 a)] (ii (firstE a.fClaims.n (claimE a))):=by
 have hn:=sm_lt ha.1
 have key:=Ev.errsC (X:=fun m j=>(X35n (regs O) a m).x0 (j:Int)) 2 a.fClaims.n (claimE a) (fun m j hj=>by
  have hj2:j < 2 ^ 62:=by omega
  have hs:=ha.2 j hj
  obtain ⟨y,hy,hK⟩:=yC_int (by kernel_rfl) (c75 (a.fClaims.at j) hs)
  obtain ⟨z,hz,hL⟩:=c76 a (a.fClaims.at j).fPool hp
  obtain ⟨o,ho,hO⟩:=ret77 a.fTypes (offC (a.fClaims.at j)) ht (sm_off hs)
  have hO:∀ (ρ:Type) (K:Y→Option ρ),yC (regs O) 77 [S.t (T.rows 7 a.fTypes.n fun i=>e112 (a.fTypes.get i)),S.t (T.rows 3 1 fun i=>List.take 3 (List.drop (i.1*3) [ts (a.fClaims.at j).fOffer_Type,ts (a.fClaims.at j).fOffer_Zone,ts (a.fClaims.at j).fOffer_Kind]))] K=K o:=hO
  obtain ⟨x,hx,hM⟩:=yC_bool (by kernel_rfl) (c77 a.fTypes (a.fClaims.at j).fOpts ht hs.opts)
  obtain ⟨h,hh0,hh1,hh2,hH⟩:=yC_aab (by kernel_rfl) (c78 a.fTypes (offC (a.fClaims.at j)) ht (sm_off hs))
  have hH:∀ (ρ:Type) (K:Y→Option ρ),yC (regs O) 78 [S.t (T.rows 7 a.fTypes.n fun i=>e112 (a.fTypes.get i)),S.agg [ss (a.fClaims.at j).fOffer_Type,ss (a.fClaims.at j).fOffer_Zone,ss (a.fClaims.at j).fOffer_Kind]] K=K h:=hH
  show (X35n (regs O) a (m+2)).x0 (j:Int)=bif !eqI (claimE a j) 0 then some (ii (claimE a j)) else (X35n (regs O) a m).x0 ((j+1:Nat):Int)
  have k1:∀ b,(X35n (regs O) a (m+1)).x1 b (a.fClaims.at j) (j:Int)=bif b || !knownB a.fTypes (a.fClaims.at j).fOpts then some (ii 5) else bif !capB a (a.fClaims.at j) then some (ii 1) else (X35n (regs O) a m).x0 ((j+1:Nat):Int):=fun b=>by
   rw [X35n]
   generalize X35n (regs O) a m=X
   simp only [X35s,b35_1,D35_0,hM,hx,hH,hh0,hh1,addI_nat1 hj2,Bool.and_true]
   cases b<;>cases knownB a.fTypes (a.fClaims.at j).fOpts<;>rfl
  have k2:(X35n (regs O) a (m+1)).x2=some (ii 5):=by
   rw [X35n]
   generalize X35n (regs O) a m=X
   simp only [X35s,b35_2]
  rw [X35n]
  generalize X35n (regs O) a (m+1)=X at k1 k2 ⊢
  generalize X35n (regs O) a m=X' at k1 ⊢
  simp only [X35s,b35_0,D35_1,D35_2,ltI_nat,elemO_nat hj,get_nat,hj,decide_true,cond_true,hK,hy,hL,hz,hO,ho,k1,k2,gtI_nat0]
  unfold claimE ordB
  cases hc:eqI (claimV (a.fClaims.at j)) 0 with
  | false=>rw [orE_false hc,hc];rfl
  | true=>
   rw [orE_true hc]
   simp only [Bool.not_true,cond_false]
   by_cases h0:j=0
   ·simp only [h0,decide_true,Bool.not_true,cond_false,Bool.true_or]
    unfold orE wantE
    cases poolIn a (a.fClaims.at 0).fPool<;>cases hasB a.fTypes (offC (a.fClaims.at 0))<;>cases knownB a.fTypes (a.fClaims.at 0).fOpts<;>cases capB a (a.fClaims.at 0)<;>rfl
   ·have hlt:j - 1 < a.fClaims.n:=by omega
    simp only [h0,decide_false,Bool.not_false,cond_true,Bool.false_or]
    rw [subI_nat (show 0 < j by omega) hj2,elemO_nat hlt]
    simp only [get_nat]
    have e:strLt (claimNm a (j - 1)) (claimNm a j)=strLt (a.fClaims.at (j - 1)).fName (a.fClaims.at j).fName:=rfl
    rw [e]
    unfold orE wantE
    cases strLt (a.fClaims.at (j - 1)).fName (a.fClaims.at j).fName<;>cases poolIn a (a.fClaims.at j).fPool<;>cases hasB a.fTypes (offC (a.fClaims.at j))<;>cases knownB a.fTypes (a.fClaims.at j).fOpts<;>cases capB a (a.fClaims.at j)<;>rfl) (fun m=>by
  show (X35n (regs O) a (m+2)).x0 (a.fClaims.n:Int)=_
  rw [X35n]
  generalize X35n (regs O) a (m+1)=X
  simp only [X35s,b35_0,ltI_nat,Nat.lt_irrefl,decide_false,cond_false])
 obtain ⟨n,h⟩:=key.get
 exact W35 a n _ h
theorem cmp_less:∀ (a b:List UInt8),Lib.compareBytes a b=if Op.bytesLess a b=true then -1 else if a=b then 0 else 1
 | [],[]=>rfl
 | [],_::_=>rfl
 | _::_,[]=>rfl
 | x::a,y::b=>by
  have ih:=cmp_less a b
  unfold Lib.compareBytes Op.bytesLess
  by_cases h:x=y
  ·subst h
   have hx:¬ x < x:=fun h=>absurd h (Nat.lt_irrefl _)
   simp only [hx,if_false,ih]
   simp
  ·have:x < y∨y < x:=by
    rcases Nat.lt_or_gt_of_ne (fun e=>h (UInt8.toNat_inj.1 e):x.toNat≠y.toNat) with h | h
    ·exact .inl h
    ·exact .inr h
   rcases this with h1 | h1
   ·simp [h,h1]
   ·have h2:¬ x < y:=fun h2=>absurd (Nat.lt_trans h1 h2) (Nat.lt_irrefl _)
    simp [h,h1,h2]
theorem cmpS_eq (a b:ByteArray):cmpS a b=bif strLt a b then -1 else bif strEq a b then 0 else 1:=by
 unfold cmpS strLt
 rw [cmp_less,strEq_data]
 cases Op.bytesLess a.data.toList b.data.toList with
 | true=>rfl
 | false=>
  by_cases h:a.data.toList=b.data.toList
  ·simp [h]
  ·simp [h]
theorem c53r (a:Rw Int) (ha:a.n < 2 ^ 62):Ret 53 [S.t (T.rows 1 a.n fun i=>[ti (a.get i)])] (ii (firstE a.n a.at)):=by
 have key:=Ev.errsC (X:=fun m j=>(X53n (regs O) a m).x0 (j:Int)) 1 a.n a.at (fun m j hj=>by
  have hj2:j < 2 ^ 62:=by omega
  simp only [X53n,X53s,b53_0,D53_0,ltI_nat,elemO_nat hj,get_nat,hj,decide_true,cond_true,addI_nat1 hj2]) (fun m=>by
  simp only [X53n,X53s,b53_0,D53_0,ltI_nat,Nat.lt_irrefl,decide_false,cond_false])
 obtain ⟨n,h⟩:=key.get
 exact W53 a n _ h
theorem ret53 (a b c:Int):∃ y:Y,y.i 0=orE a (orE b c)∧∀ (ρ:Type) (K:Y→Option ρ),yC (regs O) 53 [S.t (T.rows 1 3 fun i=>List.take 1 (List.drop (i.1*1) [ti a,ti b,ti c]))] K=K y:=by
 have h:=c53r (rwL [a,b,c]) (show (3:Nat) < 2 ^ 62 by decide)
 rw [firstL_eq] at h
 obtain ⟨y,hy,hK⟩:=yC_int (by kernel_rfl) h
 refine ⟨y,by rw [hy];simp only [firstL_cons,firstL_one],fun ρ K=>?_⟩
 rw [← hK ρ K]
 have:=lit1 [a,b,c] ti
 exact congrArg (fun g:Fin 3→List T=>yC (regs O) 53 [S.t (T.rows 1 3 g)] K) this
def offLt (a b:D47):Bool:=bif !strEq a.fType b.fType then strLt a.fType b.fType else bif !strEq a.fZone b.fZone then strLt a.fZone b.fZone else strLt a.fKind b.fKind
def cmp47 (a b:D47):Int:=orE (cmpS a.fType b.fType) (orE (cmpS a.fZone b.fZone) (cmpS a.fKind b.fKind))
theorem c69 (a b:D47):Ret 69 [ag (e47 a),ag (e47 b)] (ii (cmp47 a b)):=by
 obtain ⟨y,hy,hK⟩:=yC_int (by kernel_rfl) (c56 a.fType b.fType)
 obtain ⟨y1,hy1,hK1⟩:=yC_int (by kernel_rfl) (c56 a.fZone b.fZone)
 obtain ⟨y2,hy2,hK2⟩:=yC_int (by kernel_rfl) (c56 a.fKind b.fKind)
 obtain ⟨z,hz,hL⟩:=ret53 (cmpS a.fType b.fType) (cmpS a.fZone b.fZone) (cmpS a.fKind b.fKind)
 refine W69 a b 0 _ ?_
 simp only [e69_in,hK,hK1,hK2,hy,hy1,hy2,hL,hz]
 rfl
theorem c82 (a b:D47):Ret 82 [ag (e47 a),ag (e47 b)] (bb (offLt a b)):=W82 a b 0 _ (by
 unfold e82_in offLt
 cases strEq a.fType b.fType<;>cases strEq a.fZone b.fZone<;>rfl)
theorem lt_irrefl (a b:ByteArray) (h:strEq a b=true):strLt a b=false:=by
 have:=lt_total a b
 rw [h,Bool.or_true] at this
 have h2:strLt b a=false:=by simpa using this.symm
 rw [strEq_iff] at h
 subst h
 exact h2
theorem cmp47_ge (a b:D47):geI (cmp47 a b) 0=!offLt a b:=by
 unfold cmp47 offLt
 rw [cmpS_eq,cmpS_eq,cmpS_eq]
 cases h1:strEq a.fType b.fType with
 | false=>cases strLt a.fType b.fType<;>rfl
 | true=>
  rw [lt_irrefl _ _ h1]
  cases h2:strEq a.fZone b.fZone with
  | false=>cases strLt a.fZone b.fZone<;>rfl
  | true=>
   rw [lt_irrefl _ _ h2]
   cases h3:strEq a.fKind b.fKind with
   | false=>cases strLt a.fKind b.fKind<;>rfl
   | true=>rw [lt_irrefl _ _ h3];rfl
def offK (c:D125):D47:=⟨c.fOffer_Type,c.fOffer_Zone,c.fOffer_Kind⟩
def sm125 (c:D125):Prop:=sm47 (offK c)
def coolE (a:D33) (j:Nat):Int:=orE (wantE (hasB a.fTypes (offK (a.fCools.at j))) 5) (orE (wantE (decide (j=0) || offLt (offK (a.fCools.at (j - 1))) (offK (a.fCools.at j))) 6) (wantE (within (a.fCools.at j).fUntil 0 1099511627776) 1))
theorem c29 (a:D33) (hn:a.fCools.n < 2 ^ 62) (ht:smR sm112 a.fTypes):Ret 29 [ag (e33 a)] (ii (firstE a.fCools.n (coolE a))):=by
 have key:=Ev.errsC (X:=fun m j=>(X29n (regs O) a m).x0 (j:Int)) 2 a.fCools.n (coolE a) (fun m j hj=>by
  have hj2:j < 2 ^ 62:=by omega
  obtain ⟨o,ho,hO⟩:=ret65 a (offK (a.fCools.at j)) ht
  have hO:∀ (ρ:Type) (K:Y→Option ρ),yC (regs O) 65 [ag (e33 a),S.t (T.rows 3 1 fun i=>List.take 3 (List.drop (i.1*3) [ts (a.fCools.at j).fOffer_Type,ts (a.fCools.at j).fOffer_Zone,ts (a.fCools.at j).fOffer_Kind]))] K=K o:=hO
  obtain ⟨z,hz,hL⟩:=yC_int (by kernel_rfl) (c69 (offK (a.fCools.at (j - 1))) (offK (a.fCools.at j)))
  have hL:∀ (ρ:Type) (K:Y→Option ρ),yC (regs O) 69 [S.agg [ss (a.fCools.at (j - 1)).fOffer_Type,ss (a.fCools.at (j - 1)).fOffer_Zone,ss (a.fCools.at (j - 1)).fOffer_Kind],S.agg [ss (a.fCools.at j).fOffer_Type,ss (a.fCools.at j).fOffer_Zone,ss (a.fCools.at j).fOffer_Kind]] K=K z:=hL
  obtain ⟨x,hx,hM⟩:=yC_bool (by kernel_rfl) (c22 (a.fCools.at j).fUntil)
  show (X29n (regs O) a (m+2)).x0 (j:Int)=bif !eqI (coolE a j) 0 then some (ii (coolE a j)) else (X29n (regs O) a m).x0 ((j+1:Nat):Int)
  have k1:∀ b,(X29n (regs O) a (m+1)).x1 (a.fCools.at j) (j:Int) b=bif b then some (ii 6) else bif !within (a.fCools.at j).fUntil 0 1099511627776 then some (ii 1) else (X29n (regs O) a m).x0 ((j+1:Nat):Int):=fun b=>by
   rw [X29n]
   generalize X29n (regs O) a m=X
   simp only [X29s,b29_1,D29_0,hM,hx,addI_nat1 hj2]
  rw [X29n]
  generalize X29n (regs O) a (m+1)=X at k1 ⊢
  generalize X29n (regs O) a m=X' at k1 ⊢
  simp only [X29s,b29_0,D29_1,ltI_nat,elemO_nat hj,get_nat,hj,decide_true,cond_true,hO,ho,k1,gtI_nat0]
  unfold coolE
  by_cases h0:j=0
  ·simp only [h0,decide_true,Bool.not_true,cond_false,Bool.true_or]
   unfold orE wantE
   cases hasB a.fTypes (offK (a.fCools.at 0))<;>cases within (a.fCools.at 0).fUntil 0 1099511627776<;>rfl
  ·have hlt:j - 1 < a.fCools.n:=by omega
   simp only [h0,decide_false,Bool.not_false,cond_true,Bool.false_or]
   rw [subI_nat (show 0 < j by omega) hj2,elemO_nat hlt]
   simp only [get_nat,hL,hz,cmp47_ge]
   unfold orE wantE
   cases hasB a.fTypes (offK (a.fCools.at j))<;>cases offLt (offK (a.fCools.at (j - 1))) (offK (a.fCools.at j))<;>cases within (a.fCools.at j).fUntil 0 1099511627776<;>rfl) (fun m=>by
  show (X29n (regs O) a (m+2)).x0 (a.fCools.n:Int)=_
  rw [X29n]
  generalize X29n (regs O) a (m+1)=X
  simp only [X29s,b29_0,ltI_nat,Nat.lt_irrefl,decide_false,cond_false])
 obtain ⟨n,h⟩:=key.get
 exact W29 a n _ h
def offI (c:D91):D47:=⟨c.fOffer_Type,c.fOffer_Zone,c.fOffer_Kind⟩
structure sm91 (c:D91):Prop where
 token:sm (sizeN c.fToken)
 type:sm (sizeN c.fOffer_Type)
 zone:sm (sizeN c.fOffer_Zone)
 kind:sm (sizeN c.fOffer_Kind)
theorem sm91.off {c:D91} (h:sm91 c):sm47 (offI c):=⟨h.type,h.zone,h.kind⟩
def idsOf (a:D33) (j:Nat):List ByteArray:=(List.range j).map fun i=>(a.fInsts.at i).fId
def toksOf (a:D33) (j:Nat):List ByteArray:=(List.range j).map fun i=>(a.fInsts.at i).fToken
theorem idsOf_succ (a:D33) (j:Nat):idsOf a (j+1)=idsOf a j++[(a.fInsts.at j).fId]:=by unfold idsOf;rw [List.range_succ];simp
theorem toksOf_succ (a:D33) (j:Nat):toksOf a (j+1)=toksOf a j++[(a.fInsts.at j).fToken]:=by unfold toksOf;rw [List.range_succ];simp
def goodI (c:D91):Bool:=!decide (sizeN c.fId=0) && (!decide (sizeN c.fToken=0) && (within c.fState 1 3 && within c.fReady 0 1099511627776))
def dupI (a:D33) (j:Nat):Bool:=(List.range j).any fun i=>strEq (a.fInsts.at j).fId (a.fInsts.at i).fId || strEq (a.fInsts.at j).fToken (a.fInsts.at i).fToken
theorem dup_eq (a:D33) (j:Nat):((idsOf a j).any (strEq (a.fInsts.at j).fId) || (toksOf a j).any (strEq (a.fInsts.at j).fToken))=dupI a j:=by
 unfold idsOf toksOf dupI
 rw [List.any_map,List.any_map]
 generalize List.range j=l
 induction l with
 | nil=>rfl
 | cons i l ih=>
  simp only [List.any_cons,Function.comp] at ih ⊢
  rw [← ih]
  cases strEq (a.fInsts.at j).fId (a.fInsts.at i).fId<;>cases strEq (a.fInsts.at j).fToken (a.fInsts.at i).fToken<;>simp
def instE (a:D33) (j:Nat):Int:=orE (wantE (goodI (a.fInsts.at j)) 1) (orE (wantE (!dupI a j) 6) (wantE (hasB a.fTypes (offI (a.fInsts.at j))) 5))
theorem c30 (a:D33) (hn:a.fInsts.n≤64) (ht:smR sm112 a.fTypes):Ret 30 [ag (e33 a)] (ii (firstE a.fInsts.n (instE a))):=by
 have key:=Ev.errsC (X:=fun m j=>(X30n (regs O) a m).x0 (j:Int) (encT (toksOf a j)) (encT (idsOf a j))) 6 a.fInsts.n (instE a) (fun m j hj=>by
  have hj2:j < 2 ^ 62:=by omega
  obtain ⟨o,ho,hO⟩:=ret65 a (offI (a.fInsts.at j)) ht
  have hO:∀ (ρ:Type) (K:Y→Option ρ),yC (regs O) 65 [ag (e33 a),S.t (T.rows 3 1 fun i=>List.take 3 (List.drop (i.1*3) [ts (a.fInsts.at j).fOffer_Type,ts (a.fInsts.at j).fOffer_Zone,ts (a.fInsts.at j).fOffer_Kind]))] K=K o:=hO
  obtain ⟨x,hx,hM⟩:=yC_bool (by kernel_rfl) (c22 (a.fInsts.at j).fReady)
  show (X30n (regs O) a (m+6)).x0 (j:Int) (encT (toksOf a j)) (encT (idsOf a j))=bif !eqI (instE a j) 0 then some (ii (instE a j)) else (X30n (regs O) a m).x0 ((j+1:Nat):Int) (encT (toksOf a (j+1))) (encT (idsOf a (j+1)))
  have l1:(idsOf a (j+1)).length≤800:=by simp [idsOf];omega
  have l2:(toksOf a (j+1)).length≤800:=by simp [toksOf];omega
  have k5:∀ b,b=dupI a j→(X30n (regs O) a (m+1)).x5 b (a.fInsts.at j) (j:Int) (encT (toksOf a j)) (encT (idsOf a j))=bif dupI a j then some (ii 6) else bif !hasB a.fTypes (offI (a.fInsts.at j)) then some (ii 5) else (X30n (regs O) a m).x0 ((j+1:Nat):Int) (encT (toksOf a (j+1))) (encT (idsOf a (j+1))):=fun b hb=>by
   subst hb
   rw [X30n]
   generalize X30n (regs O) a m=X
   simp only [X30s,b30_5,D30_0,hO,ho,addI_nat1 hj2]
   cases hd:dupI a j with
   | true=>rfl
   | false=>
    rw [← dup_eq,Bool.or_eq_false_iff] at hd
    simp only [cond_false,updT hd.1,updT hd.2,← idsOf_succ,← toksOf_succ,flatT l1,flatT l2]
  have k4:∀ b,(X30n (regs O) a (m+2)).x4 b (a.fInsts.at j) (j:Int) (encT (toksOf a j)) (encT (idsOf a j))=bif b then some (ii 1) else bif dupI a j then some (ii 6) else bif !hasB a.fTypes (offI (a.fInsts.at j)) then some (ii 5) else (X30n (regs O) a m).x0 ((j+1:Nat):Int) (encT (toksOf a (j+1))) (encT (idsOf a (j+1))):=fun b=>by
   rw [X30n]
   generalize X30n (regs O) a (m+1)=X at k5 ⊢
   generalize X30n (regs O) a m=X' at k5 ⊢
   simp only [X30s,b30_4,D30_5]
   cases b with
   | true=>simp only [cond_true]
   | false=>
    simp only [cond_false]
    have hd:=dup_eq a j
    cases h1:(idsOf a j).any (strEq (a.fInsts.at j).fId) with
    | true=>
     obtain ⟨y,hy,hL⟩:=(lookT (ρ:=S) (a.fInsts.at j).fId (idsOf a j)).2 h1
     rw [hL,hy]
     rw [h1] at hd
     exact k5 _ hd
    | false=>
     rw [(lookT (ρ:=S) (a.fInsts.at j).fId (idsOf a j)).1 h1]
     rw [h1,Bool.false_or] at hd
     cases h2:(toksOf a j).any (strEq (a.fInsts.at j).fToken) with
     | true=>
      obtain ⟨y,hy,hL⟩:=(lookT (ρ:=S) (a.fInsts.at j).fToken (toksOf a j)).2 h2
      rw [hL,hy]
      rw [h2] at hd
      exact k5 _ hd
     | false=>
      rw [(lookT (ρ:=S) (a.fInsts.at j).fToken (toksOf a j)).1 h2]
      rw [h2] at hd
      exact k5 _ hd
  generalize hRdef:(bif dupI a j then some (ii 6) else bif !hasB a.fTypes (offI (a.fInsts.at j)) then some (ii 5) else (X30n (regs O) a m).x0 ((j+1:Nat):Int) (encT (toksOf a (j+1))) (encT (idsOf a (j+1))))=R at k4
  have k3:∀ b,(X30n (regs O) a (m+3)).x3 b (a.fInsts.at j) (j:Int) (encT (toksOf a j)) (encT (idsOf a j))=bif b || !within (a.fInsts.at j).fReady 0 1099511627776 then some (ii 1) else R:=fun b=>by
   rw [X30n]
   generalize X30n (regs O) a (m+2)=X at k4 ⊢
   simp only [X30s,b30_3,D30_4,hM,hx,k4]
   cases b<;>rfl
  have k2:∀ b,(X30n (regs O) a (m+4)).x2 b (a.fInsts.at j) (j:Int) (encT (toksOf a j)) (encT (idsOf a j))=bif b || (!leI (a.fInsts.at j).fState 3 || !within (a.fInsts.at j).fReady 0 1099511627776) then some (ii 1) else R:=fun b=>by
   rw [X30n]
   generalize X30n (regs O) a (m+3)=X at k3 ⊢
   simp only [X30s,b30_2,D30_3,k3,gtI_leI]
   cases b<;>rfl
  have k1:∀ b,(X30n (regs O) a (m+5)).x1 b (a.fInsts.at j) (j:Int) (encT (toksOf a j)) (encT (idsOf a j))=bif b || (!geI (a.fInsts.at j).fState 1 || (!leI (a.fInsts.at j).fState 3 || !within (a.fInsts.at j).fReady 0 1099511627776)) then some (ii 1) else R:=fun b=>by
   rw [X30n]
   generalize X30n (regs O) a (m+4)=X at k2 ⊢
   simp only [X30s,b30_1,D30_2,k2,ltI_ge]
   cases b<;>rfl
  have hR:(bif !eqI (instE a j) 0 then some (ii (instE a j)) else (X30n (regs O) a m).x0 ((j+1:Nat):Int) (encT (toksOf a (j+1))) (encT (idsOf a (j+1))))=bif !goodI (a.fInsts.at j) then some (ii 1) else R:=by
   rw [← hRdef]
   unfold instE orE wantE
   cases goodI (a.fInsts.at j)<;>cases dupI a j<;>cases hasB a.fTypes (offI (a.fInsts.at j))<;>rfl
  rw [hR]
  have hg:(!goodI (a.fInsts.at j))=(decide (sizeN (a.fInsts.at j).fId=0) || (decide (sizeN (a.fInsts.at j).fToken=0) || (!geI (a.fInsts.at j).fState 1 || (!leI (a.fInsts.at j).fState 3 || !within (a.fInsts.at j).fReady 0 1099511627776)))):=by
   unfold goodI
   generalize within (a.fInsts.at j).fReady 0 1099511627776=w
   unfold within
   cases decide (sizeN (a.fInsts.at j).fId=0)<;>cases decide (sizeN (a.fInsts.at j).fToken=0)<;>cases geI (a.fInsts.at j).fState 1<;>cases leI (a.fInsts.at j).fState 3<;>cases w<;>rfl
  rw [hg]
  rw [X30n]
  generalize X30n (regs O) a (m+5)=X at k1 ⊢
  simp only [X30s,b30_0,D30_1,ltI_nat,elemO_nat hj,get_nat,hj,decide_true,cond_true,strEq_empty,k1]
  cases decide (sizeN (a.fInsts.at j).fId=0)<;>rfl) (fun m=>by
  show (X30n (regs O) a (m+6)).x0 (a.fInsts.n:Int) _ _=_
  rw [X30n]
  generalize X30n (regs O) a (m+5)=X
  simp only [X30s,b30_0,ltI_nat,Nat.lt_irrefl,decide_false,cond_false])
 obtain ⟨n,h⟩:=key.get
 refine W30 a n _ ?_
 have f1:=flatT (l:=[]) (K:=(X30n (regs O) a n).x0 0 [] []) (by decide)
 have f1:flatW 900 [] ((X30n (regs O) a n).x0 0 [] [])=(X30n (regs O) a n).x0 0 [] []:=f1
 have f2:∀ K:Option S,flatW 900 [] K=K:=fun K=>flatT (l:=[]) (K:=K) (by decide)
 simp only [e30_in,D30_0,f2]
 exact h
def restV (a:D33):Int:=orE (firstE a.fCommands.n (cmdE a)) (orE (firstE a.fCools.n (coolE a)) (firstE a.fInsts.n (instE a)))
structure sm33 (a:D33):Prop where
 types:smR sm112 a.fTypes
 pods:smR sm61 a.fPods
 pools:smR sm77 a.fPools
 claims:smR sm52 a.fClaims
 commands:smR sm122 a.fCommands
 cools:smR sm125 a.fCools
 insts:smR sm91 a.fInsts
theorem c38 (a:D33) (ha:sm33 a):Ret 38 [ag (e33 a)] (ii (restV a)):=by
 have n1:=sm_lt ha.commands.1
 have n2:=sm_lt ha.cools.1
 have n3:=sm_lt ha.insts.1
 have ht:=ha.types
 have hp:=sm_lt ha.pools.1
 have i3:Ev (fun m=>(X38n (regs O) a m).x3 0) (ii (firstE a.fInsts.n (instE a))):=Ev.errsN (X:=fun m j=>(X38n (regs O) a m).x3 (j:Int)) a.fInsts.n (instE a) (fun j hj=>by
  have hj2:j < 2 ^ 62:=by omega
  obtain ⟨o,ho,hO⟩:=ret77 a.fTypes (offI (a.fInsts.at j)) ht (ha.insts.2 j hj).off
  have hO:∀ (ρ:Type) (K:Y→Option ρ),yC (regs O) 77 [S.t (T.rows 7 a.fTypes.n fun i=>e112 (a.fTypes.get i)),S.t (T.rows 3 1 fun i=>List.take 3 (List.drop (i.1*3) [ts (a.fInsts.at j).fOffer_Type,ts (a.fInsts.at j).fOffer_Zone,ts (a.fInsts.at j).fOffer_Kind]))] K=K o:=hO
  obtain ⟨x,hx,hM⟩:=yC_bool (by kernel_rfl) (c31 (a.fInsts.at j).fReady)
  have hle:j≤a.fInsts.n:=by omega
  have hsn:(a.fInsts.sub j hle).n=j:=sub_n
  have hto:ofN (toN (j:Int))=(j:Int):=by unfold ofN toN;simp
  obtain ⟨inT,inF⟩:=Ev.anyC (X:=fun m i=>(X38n (regs O) a m).x7 (a.fInsts.sub j hle) (a.fInsts.at j) (j:Int) (j:Int) (i:Int)) 1 j (fun i=>strEq (a.fInsts.at j).fId (a.fInsts.at i).fId || strEq (a.fInsts.at j).fToken (a.fInsts.at i).fToken) (ii 6) (fun m i hi=>by
   have hi':i < (a.fInsts.sub j hle).n:=by omega
   show (X38n (regs O) a (m+1)).x7 (a.fInsts.sub j hle) (a.fInsts.at j) (j:Int) (j:Int) (i:Int)=_
   rw [X38n,← sub_at (h:=hle) hi]
   generalize X38n (regs O) a m=X
   simp only [X38s,b38_7,D38_7,ltI_cast,hi,decide_true,cond_true,elemO_nat hi',get_nat,addI_nat1 (show i < 2 ^ 62 by omega)]
   cases strEq (a.fInsts.at j).fId ((a.fInsts.sub j hle).at i).fId<;>rfl)
  have out:∀ m,(X38n (regs O) a (m+1)).x7 (a.fInsts.sub j hle) (a.fInsts.at j) (j:Int) (j:Int) (j:Int)=bif !hasB a.fTypes (offI (a.fInsts.at j)) then some (ii 5) else (X38n (regs O) a m).x3 ((j+1:Nat):Int):=fun m=>by
   rw [X38n]
   generalize X38n (regs O) a m=X
   simp only [X38s,b38_7,D38_3,ltI_cast,Nat.lt_irrefl,decide_false,cond_false,hO,ho,addI_nat1 hj2]
  have k6:∀ m b,(X38n (regs O) a (m+1)).x6 b (a.fInsts.at j) (j:Int) (j:Int)=bif b || !within (a.fInsts.at j).fReady 0 1099511627776 then some (ii 1) else (X38n (regs O) a m).x7 (a.fInsts.sub j hle) (a.fInsts.at j) (j:Int) (j:Int) 0:=fun m b=>by
   rw [X38n]
   generalize X38n (regs O) a m=X
   simp only [X38s,b38_6,D38_7,hM,hx,le_nat hle,cond_true,subO_nat hle,hto]
   cases b<;>cases within (a.fInsts.at j).fReady 0 1099511627776<;>rfl
  have k5:∀ m b,(X38n (regs O) a (m+2)).x5 b (a.fInsts.at j) (j:Int) (j:Int)=bif b || (!leI (a.fInsts.at j).fState 3 || !within (a.fInsts.at j).fReady 0 1099511627776) then some (ii 1) else (X38n (regs O) a m).x7 (a.fInsts.sub j hle) (a.fInsts.at j) (j:Int) (j:Int) 0:=fun m b=>by
   have:=k6 m
   rw [X38n]
   generalize X38n (regs O) a (m+1)=X at this ⊢
   simp only [X38s,b38_5,D38_6,this,gtI_leI]
   cases b<;>rfl
  have k4:∀ m b,(X38n (regs O) a (m+3)).x4 b (a.fInsts.at j) (j:Int) (j:Int)=bif b || (!geI (a.fInsts.at j).fState 1 || (!leI (a.fInsts.at j).fState 3 || !within (a.fInsts.at j).fReady 0 1099511627776)) then some (ii 1) else (X38n (regs O) a m).x7 (a.fInsts.sub j hle) (a.fInsts.at j) (j:Int) (j:Int) 0:=fun m b=>by
   have:=k5 m
   rw [X38n]
   generalize X38n (regs O) a (m+2)=X at this ⊢
   simp only [X38s,b38_4,D38_5,this,ltI_ge]
   cases b<;>rfl
  have hg:(!goodI (a.fInsts.at j))=(decide (sizeN (a.fInsts.at j).fId=0) || (decide (sizeN (a.fInsts.at j).fToken=0) || (!geI (a.fInsts.at j).fState 1 || (!leI (a.fInsts.at j).fState 3 || !within (a.fInsts.at j).fReady 0 1099511627776)))):=by
   unfold goodI
   generalize within (a.fInsts.at j).fReady 0 1099511627776=w
   unfold within
   cases decide (sizeN (a.fInsts.at j).fId=0)<;>cases decide (sizeN (a.fInsts.at j).fToken=0)<;>cases geI (a.fInsts.at j).fState 1<;>cases leI (a.fInsts.at j).fState 3<;>cases w<;>rfl
  have one:∀ m,(X38n (regs O) a (m+4)).x3 (j:Int)=bif !goodI (a.fInsts.at j) then some (ii 1) else (X38n (regs O) a m).x7 (a.fInsts.sub j hle) (a.fInsts.at j) (j:Int) (j:Int) 0:=fun m=>by
   have:=k4 m
   rw [hg,X38n]
   generalize X38n (regs O) a (m+3)=X at this ⊢
   simp only [X38s,b38_3,D38_4,ltI_nat,elemO_nat hj,get_nat,hj,decide_true,cond_true,strEq_empty,this]
   cases decide (sizeN (a.fInsts.at j).fId=0)<;>rfl
  unfold instE
  cases h1:goodI (a.fInsts.at j) with
  | false=>exact ⟨fun _=>Ev.one 4 fun m=>by rw [one,h1];rfl,fun h=>absurd (show (1:Int)=0 from h) (by decide)⟩
  | true=>
   cases h2:dupI a j with
   | true=>exact ⟨fun _=>Ev.by 4 (fun m=>by rw [one,h1];rfl) (inT h2),fun h=>absurd (show (6:Int)=0 from h) (by decide)⟩
   | false=>
    cases h3:hasB a.fTypes (offI (a.fInsts.at j)) with
    | false=>exact ⟨fun _=>Ev.by 4 (fun m=>by rw [one,h1];rfl) (inF h2 _ (Ev.one 1 fun m=>by rw [out,h3];rfl)),fun h=>absurd (show (5:Int)=0 from h) (by decide)⟩
    | true=>exact ⟨fun h=>absurd rfl h,fun _ v hv=>Ev.by 4 (fun m=>by rw [one,h1];rfl) (inF h2 v (Ev.by 1 (fun m=>by rw [out,h3];rfl) hv))⟩) (Ev.one 1 fun m=>by
  show (X38n (regs O) a (m+1)).x3 (a.fInsts.n:Int)=_
  rw [X38n]
  generalize X38n (regs O) a m=X
  simp only [X38s,b38_3,ltI_nat,Nat.lt_irrefl,decide_false,cond_false])
 have i1:Ev (fun m=>(X38n (regs O) a m).x1 0) (ii (orE (firstE a.fCools.n (coolE a)) (firstE a.fInsts.n (instE a)))):=Ev.errsKC (X:=fun m j=>(X38n (regs O) a m).x1 (j:Int)) 1 a.fCools.n (coolE a) _ (fun m j hj=>by
  have hj2:j < 2 ^ 62:=by omega
  obtain ⟨o,ho,hO⟩:=ret77 a.fTypes (offK (a.fCools.at j)) ht (ha.cools.2 j hj)
  have hO:∀ (ρ:Type) (K:Y→Option ρ),yC (regs O) 77 [S.t (T.rows 7 a.fTypes.n fun i=>e112 (a.fTypes.get i)),S.t (T.rows 3 1 fun i=>List.take 3 (List.drop (i.1*3) [ts (a.fCools.at j).fOffer_Type,ts (a.fCools.at j).fOffer_Zone,ts (a.fCools.at j).fOffer_Kind]))] K=K o:=hO
  obtain ⟨z,hz,hL⟩:=yC_bool (by kernel_rfl) (c82 (offK (a.fCools.at (j - 1))) (offK (a.fCools.at j)))
  have hL:∀ (ρ:Type) (K:Y→Option ρ),yC (regs O) 82 [S.agg [ss (a.fCools.at (j - 1)).fOffer_Type,ss (a.fCools.at (j - 1)).fOffer_Zone,ss (a.fCools.at (j - 1)).fOffer_Kind],S.agg [ss (a.fCools.at j).fOffer_Type,ss (a.fCools.at j).fOffer_Zone,ss (a.fCools.at j).fOffer_Kind]] K=K z:=hL
  obtain ⟨x,hx,hM⟩:=yC_bool (by kernel_rfl) (c31 (a.fCools.at j).fUntil)
  show (X38n (regs O) a (m+1)).x1 (j:Int)=_
  rw [X38n]
  generalize X38n (regs O) a m=X
  simp only [X38s,b38_1,D38_1,ltI_nat,elemO_nat hj,get_nat,hj,decide_true,cond_true,hO,ho,hM,hx,gtI_nat0,addI_nat1 hj2]
  unfold coolE
  by_cases h0:j=0
  ·simp only [h0,decide_true,Bool.not_true,cond_false,Bool.true_or]
   unfold orE wantE
   cases hasB a.fTypes (offK (a.fCools.at 0))<;>cases within (a.fCools.at 0).fUntil 0 1099511627776<;>rfl
  ·have hlt:j - 1 < a.fCools.n:=by omega
   simp only [h0,decide_false,Bool.not_false,cond_true,Bool.false_or]
   rw [subI_nat (show 0 < j by omega) hj2,elemO_nat hlt]
   simp only [get_nat,hL,hz]
   unfold orE wantE
   cases hasB a.fTypes (offK (a.fCools.at j))<;>cases offLt (offK (a.fCools.at (j - 1))) (offK (a.fCools.at j))<;>cases within (a.fCools.at j).fUntil 0 1099511627776<;>rfl) (Ev.by 1 (fun m=>by
  rw [X38n]
  generalize X38n (regs O) a m=X
  simp only [X38s,b38_1,D38_3,ltI_nat,Nat.lt_irrefl,decide_false,cond_false]) i3)
 have i0:Ev (fun m=>(X38n (regs O) a m).x0 0) (ii (restV a)):=Ev.errsKC (X:=fun m j=>(X38n (regs O) a m).x0 (j:Int)) 2 a.fCommands.n (cmdE a) _ (fun m j hj=>by
  have hj2:j < 2 ^ 62:=by omega
  obtain ⟨y,hy,hK⟩:=yC_int (by kernel_rfl) (c81 (a.fCommands.at j) (ha.commands.2 j hj))
  obtain ⟨z,hz,hL⟩:=c76 a (a.fCommands.at j).fPool hp
  obtain ⟨x,hx,hM⟩:=yC_bool (by kernel_rfl) (c77 a.fTypes (a.fCommands.at j).fOpts ht (ha.commands.2 j hj).opts)
  show (X38n (regs O) a (m+2)).x0 (j:Int)=bif !eqI (cmdE a j) 0 then some (ii (cmdE a j)) else (X38n (regs O) a m).x0 ((j+1:Nat):Int)
  have h1:∀ b,(X38n (regs O) a (m+1)).x2 (a.fCommands.at j) b (j:Int)=bif b then some (ii 5) else bif !knownB a.fTypes (a.fCommands.at j).fOpts then some (ii 5) else (X38n (regs O) a m).x0 ((j+1:Nat):Int):=fun b=>by
   rw [X38n]
   generalize X38n (regs O) a m=X
   simp only [X38s,b38_2,D38_0,addI_nat1 hj2,hM,hx]
  rw [X38n]
  generalize X38n (regs O) a (m+1)=X at h1 ⊢
  generalize X38n (regs O) a m=X' at h1 ⊢
  simp only [X38s,b38_0,D38_2,ltI_nat,elemO_nat hj,get_nat,hj,decide_true,cond_true,hK,hy,hL,hz,strEq_empty,h1]
  unfold cmdE
  cases hc:eqI (cmdV (a.fCommands.at j)) 0 with
  | false=>rw [orE_false hc,hc];rfl
  | true=>
   rw [orE_true hc]
   unfold wantE
   cases decide (sizeN (a.fCommands.at j).fPool=0)<;>cases poolIn a (a.fCommands.at j).fPool<;>cases knownB a.fTypes (a.fCommands.at j).fOpts<;>rfl) (Ev.by 1 (fun m=>by
  rw [X38n]
  generalize X38n (regs O) a m=X
  simp only [X38s,b38_0,D38_1,ltI_nat,Nat.lt_irrefl,decide_false,cond_false]) i1)
 obtain ⟨n,h⟩:=i0.get
 exact W38 a n _ h
def timesB (a:D33):Bool:=within a.fNow 0 1099511627776 && (within a.fConf_Idle 0 1073741824 && (within a.fConf_Most 0 1073741824 && (within a.fConf_Hold 0 1073741824 && (within a.fConf_Late 0 1073741824 && within a.fConf_Cool 0 1073741824))))
def fewB (a:D33):Bool:=decide (a.fPods.n≤24) && (decide (a.fPools.n≤4) && (decide (a.fClaims.n≤16) && (decide (a.fCommands.n≤1) && (decide (a.fCools.n≤72) && (decide (a.fInsts.n≤64) && decide (a.fNotes.n≤32))))))
def partsV (a:D33):Int:=orE (firstE a.fPools.n (poolE a)) (orE (firstE a.fClaims.n (claimE a)) (orE (firstE a.fPods.n (podE a)) (restV a)))
def checkV (a:D33):Int:=orE (wantE (timesB a) 1) (orE (typesV a.fTypes) (orE (wantE (fewB a) 3) (partsV a)))
theorem gtI_le {n:Nat} (k:Nat):gtI (ofN n) (k:Int)=!decide (n≤k):=by
 rw [gtI_ofN]
 by_cases h:n≤k<;>simp [h]<;>omega
theorem c10 (a:D33) (ha:sm33 a):Ret 10 [ag (e33 a)] (ii (checkV a)):=by
 have n1:=sm_lt ha.pools.1
 have n2:=sm_lt ha.pods.1
 have nc:=sm_lt ha.claims.1
 obtain ⟨rs,hrs,hRS⟩:=yC_int (by kernel_rfl) (c38 a ha)
 have i10:Ev (fun m=>(X10n (regs O) a m).x10 0) (ii (orE (firstE a.fPods.n (podE a)) (restV a))):=Ev.errsKC (X:=fun m j=>(X10n (regs O) a m).x10 (j:Int)) 1 a.fPods.n (podE a) _ (fun m j hj=>by
  have hj2:j < 2 ^ 62:=by omega
  obtain ⟨y,hy,hK⟩:=yC_int (by kernel_rfl) (c36 (a.fPods.at j) (ha.pods.2 j hj))
  obtain ⟨z,hz,hL⟩:=c37 a (a.fPods.at j).fOn nc
  show (X10n (regs O) a (m+1)).x10 (j:Int)=_
  rw [X10n]
  generalize X10n (regs O) a m=X
  simp only [X10s,b10_10,D10_10,ltI_nat,elemO_nat hj,get_nat,hj,decide_true,cond_true,hK,hy,hL,hz,strEq_empty,gtI_nat0,addI_nat1 hj2]
  simp only [gtI_leI]
  unfold podE ordB
  cases hc:eqI (podV (a.fPods.at j)) 0 with
  | false=>rw [orE_false hc,hc];rfl
  | true=>
   rw [orE_true hc]
   simp only [Bool.not_true,cond_false]
   by_cases h0:j=0
   ·simp only [h0,decide_true,Bool.not_true,cond_false,Bool.true_or]
    unfold orE wantE
    cases decide (sizeN (a.fPods.at 0).fOn=0)<;>cases claimIn a (a.fPods.at 0).fOn<;>cases leI (a.fPods.at 0).fSince a.fNow<;>rfl
   ·have hlt:j - 1 < a.fPods.n:=by omega
    simp only [h0,decide_false,Bool.not_false,cond_true,Bool.false_or]
    rw [subI_nat (show 0 < j by omega) hj2,elemO_nat hlt]
    simp only [get_nat]
    have e:strLt (podN a (j - 1)) (podN a j)=strLt (a.fPods.at (j - 1)).fName (a.fPods.at j).fName:=rfl
    rw [e]
    unfold orE wantE
    cases strLt (a.fPods.at (j - 1)).fName (a.fPods.at j).fName<;>cases decide (sizeN (a.fPods.at j).fOn=0)<;>cases claimIn a (a.fPods.at j).fOn<;>cases leI (a.fPods.at j).fSince a.fNow<;>rfl) (Ev.one 1 fun m=>by
  show (X10n (regs O) a (m+1)).x10 (a.fPods.n:Int)=_
  rw [X10n]
  generalize X10n (regs O) a m=X
  simp only [X10s,b10_10,ltI_nat,Nat.lt_irrefl,decide_false,cond_false,hRS,hrs])
 obtain ⟨cl,hcl,hCL⟩:=yC_int (by kernel_rfl) (c35 a ha.claims n1 ha.types)
 have ic:Ev (fun m=>bif !eqI (firstE a.fClaims.n (claimE a)) 0 then some (ii (firstE a.fClaims.n (claimE a))) else (X10n (regs O) a m).x10 0) (ii (orE (firstE a.fClaims.n (claimE a)) (orE (firstE a.fPods.n (podE a)) (restV a)))):=by
  unfold orE
  cases hc:eqI (firstE a.fClaims.n (claimE a)) 0 with
  | false=>exact Ev.const _
  | true=>exact i10
 have i9:Ev (fun m=>(X10n (regs O) a m).x9 0) (ii (partsV a)):=Ev.errsKC (X:=fun m j=>(X10n (regs O) a m).x9 (j:Int)) 1 a.fPools.n (poolE a) _ (fun m j hj=>by
  have hj2:j < 2 ^ 62:=by omega
  obtain ⟨y,hy,hK⟩:=yC_int (by kernel_rfl) (c34 (a.fPools.at j) (ha.pools.2 j hj))
  show (X10n (regs O) a (m+1)).x9 (j:Int)=_
  rw [X10n]
  generalize X10n (regs O) a m=X
  simp only [X10s,b10_9,D10_9,ltI_nat,elemO_nat hj,get_nat,hj,decide_true,cond_true,hK,hy,gtI_nat0,addI_nat1 hj2]
  unfold poolE ordB
  cases hc:eqI (poolV (a.fPools.at j)) 0 with
  | false=>rw [orE_false hc,hc];rfl
  | true=>
   rw [orE_true hc]
   simp only [Bool.not_true,cond_false]
   by_cases h0:j=0
   ·simp only [h0,decide_true,Bool.not_true,cond_false,Bool.true_or]
    rfl
   ·have hlt:j - 1 < a.fPools.n:=by omega
    simp only [h0,decide_false,Bool.not_false,cond_true,Bool.false_or]
    rw [subI_nat (show 0 < j by omega) hj2,elemO_nat hlt]
    simp only [get_nat]
    have e:strLt (poolN a (j - 1)) (poolN a j)=strLt (a.fPools.at (j - 1)).fName (a.fPools.at j).fName:=rfl
    rw [e]
    cases strLt (a.fPools.at (j - 1)).fName (a.fPools.at j).fName<;>rfl) (Ev.by 1 (fun m=>by
  rw [X10n]
  generalize X10n (regs O) a m=X
  simp only [X10s,b10_9,D10_10,ltI_nat,Nat.lt_irrefl,decide_false,cond_false,hCL,hcl]) ic)
 obtain ⟨n,h9⟩:=i9.get
 have g24:gtI (ofN a.fPods.n) 24=!decide (a.fPods.n≤24):=gtI_le 24
 have g4:gtI (ofN a.fPools.n) 4=!decide (a.fPools.n≤4):=gtI_le 4
 have g16:gtI (ofN a.fClaims.n) 16=!decide (a.fClaims.n≤16):=gtI_le 16
 have g1:gtI (ofN a.fCommands.n) 1=!decide (a.fCommands.n≤1):=gtI_le 1
 have g72:gtI (ofN a.fCools.n) 72=!decide (a.fCools.n≤72):=gtI_le 72
 have g64:gtI (ofN a.fInsts.n) 64=!decide (a.fInsts.n≤64):=gtI_le 64
 have g32:gtI (ofN a.fNotes.n) 32=!decide (a.fNotes.n≤32):=gtI_le 32
 have w3:∀ (b:Bool) r,(bif b then some (ii 3) else some (ii r))=some (ii (orE (wantE (!b) 3) r)):=fun b r=>by cases b<;>rfl
 have k8:∀ b,(X10n (regs O) a (n+1)).x8 b=some (ii (orE (wantE (!b && decide (a.fNotes.n≤32)) 3) (partsV a))):=fun b=>by
  rw [X10n]
  generalize X10n (regs O) a n=X at h9 ⊢
  simp only [X10s,b10_8,D10_9,g32,h9]
  cases b<;>cases decide (a.fNotes.n≤32)<;>rfl
 have k7:∀ b,(X10n (regs O) a (n+2)).x7 b=some (ii (orE (wantE (!b && (decide (a.fInsts.n≤64) && decide (a.fNotes.n≤32))) 3) (partsV a))):=fun b=>by
  rw [X10n]
  generalize X10n (regs O) a (n+1)=X at k8 ⊢
  simp only [X10s,b10_7,D10_8,g64,k8,Bool.not_not]
  cases b<;>rfl
 have k6:∀ b,(X10n (regs O) a (n+3)).x6 b=some (ii (orE (wantE (!b && (decide (a.fCools.n≤72) && (decide (a.fInsts.n≤64) && decide (a.fNotes.n≤32)))) 3) (partsV a))):=fun b=>by
  rw [X10n]
  generalize X10n (regs O) a (n+2)=X at k7 ⊢
  simp only [X10s,b10_6,D10_7,g72,k7,Bool.not_not]
  cases b<;>rfl
 have k5:∀ b,(X10n (regs O) a (n+4)).x5 b=some (ii (orE (wantE (!b && (decide (a.fCommands.n≤1) && (decide (a.fCools.n≤72) && (decide (a.fInsts.n≤64) && decide (a.fNotes.n≤32))))) 3) (partsV a))):=fun b=>by
  rw [X10n]
  generalize X10n (regs O) a (n+3)=X at k6 ⊢
  simp only [X10s,b10_5,D10_6,g1,k6,Bool.not_not]
  cases b<;>rfl
 have k4:∀ b,(X10n (regs O) a (n+5)).x4 b=some (ii (orE (wantE (!b && (decide (a.fClaims.n≤16) && (decide (a.fCommands.n≤1) && (decide (a.fCools.n≤72) && (decide (a.fInsts.n≤64) && decide (a.fNotes.n≤32)))))) 3) (partsV a))):=fun b=>by
  rw [X10n]
  generalize X10n (regs O) a (n+4)=X at k5 ⊢
  simp only [X10s,b10_4,D10_5,g16,k5,Bool.not_not]
  cases b<;>rfl
 obtain ⟨t0,ht0,hT0⟩:=yC_bool (by kernel_rfl) (c31 a.fNow)
 obtain ⟨t1,ht1,hT1⟩:=yC_bool (by kernel_rfl) (c32 a.fConf_Idle)
 obtain ⟨t2,ht2,hT2⟩:=yC_bool (by kernel_rfl) (c32 a.fConf_Most)
 obtain ⟨t3,ht3,hT3⟩:=yC_bool (by kernel_rfl) (c32 a.fConf_Hold)
 obtain ⟨t4,ht4,hT4⟩:=yC_bool (by kernel_rfl) (c32 a.fConf_Late)
 obtain ⟨t5,ht5,hT5⟩:=yC_bool (by kernel_rfl) (c32 a.fConf_Cool)
 obtain ⟨ty,hty,hTY⟩:=yC_int (by kernel_rfl) (c33 a.fTypes ha.types)
 generalize hR:orE (typesV a.fTypes) (orE (wantE (fewB a) 3) (partsV a))=R
 have k3:∀ b,(X10n (regs O) a (n+6)).x3 b=some (ii (orE (wantE (!b && within a.fConf_Cool 0 1073741824) 1) R)):=fun b=>by
  rw [X10n]
  generalize X10n (regs O) a (n+5)=X at k4 ⊢
  simp only [X10s,b10_3,D10_4,g24,g4,k4,hT5,ht5,hTY,hty,Bool.not_not]
  rw [← hR]
  unfold fewB
  cases b with
  | true=>rfl
  | false=>
   cases within a.fConf_Cool 0 1073741824 with
   | false=>rfl
   | true=>
    simp only [cond_false,Bool.not_true]
    cases hc:eqI (typesV a.fTypes) 0 with
    | false=>rw [orE_false hc];rfl
    | true=>
     rw [orE_true hc]
     cases decide (a.fPods.n≤24)<;>rfl
 have k2:∀ b,(X10n (regs O) a (n+7)).x2 b=some (ii (orE (wantE (!b && (within a.fConf_Late 0 1073741824 && within a.fConf_Cool 0 1073741824)) 1) R)):=fun b=>by
  rw [X10n]
  generalize X10n (regs O) a (n+6)=X at k3 ⊢
  simp only [X10s,b10_2,D10_3,k3,hT4,ht4,Bool.not_not]
  cases b<;>rfl
 have k1:∀ b,(X10n (regs O) a (n+8)).x1 b=some (ii (orE (wantE (!b && (within a.fConf_Hold 0 1073741824 && (within a.fConf_Late 0 1073741824 && within a.fConf_Cool 0 1073741824))) 1) R)):=fun b=>by
  rw [X10n]
  generalize X10n (regs O) a (n+7)=X at k2 ⊢
  simp only [X10s,b10_1,D10_2,k2,hT3,ht3,Bool.not_not]
  cases b<;>rfl
 have k0:∀ b,(X10n (regs O) a (n+9)).x0 b=some (ii (orE (wantE (!b && (within a.fConf_Most 0 1073741824 && (within a.fConf_Hold 0 1073741824 && (within a.fConf_Late 0 1073741824 && within a.fConf_Cool 0 1073741824)))) 1) R)):=fun b=>by
  rw [X10n]
  generalize X10n (regs O) a (n+8)=X at k1 ⊢
  simp only [X10s,b10_0,D10_1,k1,hT2,ht2,Bool.not_not]
  cases b<;>rfl
 refine W10 a (n+9) _ ?_
 generalize X10n (regs O) a (n+9)=X at k0 ⊢
 simp only [e10_in,D10_0,k0,hT0,ht0,hT1,ht1,Bool.not_not]
 unfold checkV timesB
 rw [hR]
 cases within a.fNow 0 1099511627776<;>rfl
theorem c9 (a:D33) (ha:sm33 a):Ret 9 [ag (e33 a)] (ii (checkV a)):=by
 have n1:=sm_lt ha.pools.1
 have nc:=sm_lt ha.claims.1
 have nk:=sm_lt ha.cools.1
 obtain ⟨p,hp,hP⟩:=yC_int (by kernel_rfl) (c25 a ha.pools)
 obtain ⟨c,hc,hC⟩:=yC_int (by kernel_rfl) (c26 a ha.claims n1 ha.types)
 obtain ⟨d,hd,hD⟩:=yC_int (by kernel_rfl) (c27 a ha.pods nc)
 obtain ⟨e,he,hE⟩:=yC_int (by kernel_rfl) (c28 a ha.commands n1 ha.types)
 obtain ⟨f,hf,hF⟩:=yC_int (by kernel_rfl) (c29 a nk ha.types)
 generalize hn:(0:Nat)=n
 have h9:a.fInsts.n≤64→(X9n (regs O) a (n+7)).x9=some (ii (partsV a)):=fun hi=>by
  obtain ⟨g,hg,hG⟩:=yC_int (by kernel_rfl) (c30 a hi ha.types)
  have x15:(X9n (regs O) a (n+1)).x15=some (ii 0):=by
   rw [X9n]
   generalize X9n (regs O) a n=X
   simp only [X9s,b9_15]
  have x14:(X9n (regs O) a (n+2)).x14=some (ii (orE (firstE a.fInsts.n (instE a)) 0)):=by
   rw [X9n]
   generalize X9n (regs O) a (n+1)=X at x15 ⊢
   simp only [X9s,b9_14,D9_15,x15,hG,hg,or_some]
  have x13:(X9n (regs O) a (n+3)).x13=some (ii (orE (firstE a.fCools.n (coolE a)) (orE (firstE a.fInsts.n (instE a)) 0))):=by
   rw [X9n]
   generalize X9n (regs O) a (n+2)=X at x14 ⊢
   simp only [X9s,b9_13,D9_14,x14,hF,hf,or_some]
  have x12:(X9n (regs O) a (n+4)).x12=some (ii (restV a)):=by
   rw [X9n]
   generalize X9n (regs O) a (n+3)=X at x13 ⊢
   simp only [X9s,b9_12,D9_13,x13,hE,he,or_some,orE_zero]
   rfl
  have x11:(X9n (regs O) a (n+5)).x11=some (ii (orE (firstE a.fPods.n (podE a)) (restV a))):=by
   rw [X9n]
   generalize X9n (regs O) a (n+4)=X at x12 ⊢
   simp only [X9s,b9_11,D9_12,x12,hD,hd,or_some]
  have x10:(X9n (regs O) a (n+6)).x10=some (ii (orE (firstE a.fClaims.n (claimE a)) (orE (firstE a.fPods.n (podE a)) (restV a)))):=by
   rw [X9n]
   generalize X9n (regs O) a (n+5)=X at x11 ⊢
   simp only [X9s,b9_10,D9_11,x11,hC,hc,or_some]
  rw [X9n]
  generalize X9n (regs O) a (n+6)=X at x10 ⊢
  simp only [X9s,b9_9,D9_10,x10,hP,hp,or_some]
  rfl
 have g24:gtI (ofN a.fPods.n) 24=!decide (a.fPods.n≤24):=gtI_le 24
 have g4:gtI (ofN a.fPools.n) 4=!decide (a.fPools.n≤4):=gtI_le 4
 have g16:gtI (ofN a.fClaims.n) 16=!decide (a.fClaims.n≤16):=gtI_le 16
 have g1:gtI (ofN a.fCommands.n) 1=!decide (a.fCommands.n≤1):=gtI_le 1
 have g72:gtI (ofN a.fCools.n) 72=!decide (a.fCools.n≤72):=gtI_le 72
 have g64:gtI (ofN a.fInsts.n) 64=!decide (a.fInsts.n≤64):=gtI_le 64
 have g32:gtI (ofN a.fNotes.n) 32=!decide (a.fNotes.n≤32):=gtI_le 32
 have w3:∀ (b:Bool) r,(bif b then some (ii 3) else some (ii r))=some (ii (orE (wantE (!b) 3) r)):=fun b r=>by cases b<;>rfl
 have k8:∀ b,(b=false→a.fInsts.n≤64)→(X9n (regs O) a (n+8)).x8 b=some (ii (orE (wantE (!b && decide (a.fNotes.n≤32)) 3) (partsV a))):=fun b hb=>by
  cases b with
  | true=>
   rw [X9n]
   generalize X9n (regs O) a (n+7)=X
   simp only [X9s,b9_8]
   rfl
  | false=>
   have:=h9 (hb rfl)
   rw [X9n]
   generalize X9n (regs O) a (n+7)=X at this ⊢
   simp only [X9s,b9_8,D9_9,g32,this]
   cases decide (a.fNotes.n≤32)<;>rfl
 have k7:∀ b,(X9n (regs O) a (n+9)).x7 b=some (ii (orE (wantE (!b && (decide (a.fInsts.n≤64) && decide (a.fNotes.n≤32))) 3) (partsV a))):=fun b=>by
  cases b with
  | true=>
   have:=k8 true (fun h=>by cases h)
   rw [X9n]
   generalize X9n (regs O) a (n+8)=X at this ⊢
   simp only [X9s,b9_7,D9_8,cond_true]
   exact this
  | false=>
   have:=k8 (!decide (a.fInsts.n≤64)) (fun h=>by simpa using h)
   rw [X9n]
   generalize X9n (regs O) a (n+8)=X at this ⊢
   simp only [X9s,b9_7,D9_8,cond_false,g64]
   rw [Bool.not_not] at this
   exact this
 have k6:∀ b,(X9n (regs O) a (n+10)).x6 b=some (ii (orE (wantE (!b && (decide (a.fCools.n≤72) && (decide (a.fInsts.n≤64) && decide (a.fNotes.n≤32)))) 3) (partsV a))):=fun b=>by
  rw [X9n]
  generalize X9n (regs O) a (n+9)=X at k7 ⊢
  simp only [X9s,b9_6,D9_7,g72,k7,Bool.not_not]
  cases b<;>rfl
 have k5:∀ b,(X9n (regs O) a (n+11)).x5 b=some (ii (orE (wantE (!b && (decide (a.fCommands.n≤1) && (decide (a.fCools.n≤72) && (decide (a.fInsts.n≤64) && decide (a.fNotes.n≤32))))) 3) (partsV a))):=fun b=>by
  rw [X9n]
  generalize X9n (regs O) a (n+10)=X at k6 ⊢
  simp only [X9s,b9_5,D9_6,g1,k6,Bool.not_not]
  cases b<;>rfl
 have k4:∀ b,(X9n (regs O) a (n+12)).x4 b=some (ii (orE (wantE (!b && (decide (a.fClaims.n≤16) && (decide (a.fCommands.n≤1) && (decide (a.fCools.n≤72) && (decide (a.fInsts.n≤64) && decide (a.fNotes.n≤32)))))) 3) (partsV a))):=fun b=>by
  rw [X9n]
  generalize X9n (regs O) a (n+11)=X at k5 ⊢
  simp only [X9s,b9_4,D9_5,g16,k5,Bool.not_not]
  cases b<;>rfl
 obtain ⟨t0,ht0,hT0⟩:=yC_bool (by kernel_rfl) (c22 a.fNow)
 obtain ⟨t1,ht1,hT1⟩:=yC_bool (by kernel_rfl) (c23 a.fConf_Idle)
 obtain ⟨t2,ht2,hT2⟩:=yC_bool (by kernel_rfl) (c23 a.fConf_Most)
 obtain ⟨t3,ht3,hT3⟩:=yC_bool (by kernel_rfl) (c23 a.fConf_Hold)
 obtain ⟨t4,ht4,hT4⟩:=yC_bool (by kernel_rfl) (c23 a.fConf_Late)
 obtain ⟨t5,ht5,hT5⟩:=yC_bool (by kernel_rfl) (c23 a.fConf_Cool)
 obtain ⟨ty,hty,hTY⟩:=yC_int (by kernel_rfl) (c24 a.fTypes ha.types)
 generalize hR:orE (typesV a.fTypes) (orE (wantE (fewB a) 3) (partsV a))=R
 have k3:∀ b,(X9n (regs O) a (n+13)).x3 b=some (ii (orE (wantE (!b && within a.fConf_Cool 0 1073741824) 1) R)):=fun b=>by
  rw [X9n]
  generalize X9n (regs O) a (n+12)=X at k4 ⊢
  simp only [X9s,b9_3,D9_4,g24,g4,k4,hT5,ht5,hTY,hty,Bool.not_not]
  rw [← hR]
  unfold fewB
  cases b with
  | true=>rfl
  | false=>
   cases within a.fConf_Cool 0 1073741824 with
   | false=>rfl
   | true=>
    simp only [cond_false,Bool.not_true]
    cases hc:eqI (typesV a.fTypes) 0 with
    | false=>rw [orE_false hc];rfl
    | true=>
     rw [orE_true hc]
     cases decide (a.fPods.n≤24)<;>rfl
 have k2:∀ b,(X9n (regs O) a (n+14)).x2 b=some (ii (orE (wantE (!b && (within a.fConf_Late 0 1073741824 && within a.fConf_Cool 0 1073741824)) 1) R)):=fun b=>by
  rw [X9n]
  generalize X9n (regs O) a (n+13)=X at k3 ⊢
  simp only [X9s,b9_2,D9_3,k3,hT4,ht4,Bool.not_not]
  cases b<;>rfl
 have k1:∀ b,(X9n (regs O) a (n+15)).x1 b=some (ii (orE (wantE (!b && (within a.fConf_Hold 0 1073741824 && (within a.fConf_Late 0 1073741824 && within a.fConf_Cool 0 1073741824))) 1) R)):=fun b=>by
  rw [X9n]
  generalize X9n (regs O) a (n+14)=X at k2 ⊢
  simp only [X9s,b9_1,D9_2,k2,hT3,ht3,Bool.not_not]
  cases b<;>rfl
 have k0:∀ b,(X9n (regs O) a (n+16)).x0 b=some (ii (orE (wantE (!b && (within a.fConf_Most 0 1073741824 && (within a.fConf_Hold 0 1073741824 && (within a.fConf_Late 0 1073741824 && within a.fConf_Cool 0 1073741824)))) 1) R)):=fun b=>by
  rw [X9n]
  generalize X9n (regs O) a (n+15)=X at k1 ⊢
  simp only [X9s,b9_0,D9_1,k1,hT2,ht2,Bool.not_not]
  cases b<;>rfl
 refine W9 a (n+16) _ ?_
 generalize X9n (regs O) a (n+16)=X at k0 ⊢
 simp only [e9_in,D9_0,k0,hT0,ht0,hT1,ht1,Bool.not_not]
 unfold checkV timesB
 rw [hR]
 cases within a.fNow 0 1099511627776<;>rfl
abbrev P3 (q:YF) (kk:PK S):PK S:=PG q 3 Tryz.f3 kk
abbrev H3 (q:YF):Nat→PK S:=HG q 3 Tryz.f3
def s3_0 (a:D33) (v0 u1 u2 u3 u4:Bool) (u5 u6 u7 u8 u9:S):St:=mkSt [(0,ag (e33 a)),(1,S.ptr 0 0),(2,bb false),(3,bb u1),(4,bb u2),(5,bb u3),(6,bb u4),(7,u5),(8,u6),(9,u7),(10,u8),(11,u9),(12,bb v0)] 13 [(0,B.box (List.map S.t (e33 a)))]
abbrev T3_0:Type:=Bool→Bool→Bool→Bool→Bool→S→S→S→S→S→OS
def K3_0 (a:D33) (kk:PK S):T3_0:=fun v0 u1 u2 u3 u4 u5 u6 u7 u8 u9=> kk 2 9 4 (s3_0 a v0 u1 u2 u3 u4 u5 u6 u7 u8 u9)
def b3_0 (q:YF) (a:D33) (v0 u1 u2 u3 u4:Bool) (u5 u6 u7 u8 u9:S):OS:=some (bb v0)
def e3_in (q:YF) (a:D33) (k0:T3_0):OS:=yC q 8 [] fun y=>bif y.b 0 then yC q 9 [ag (e33 a)] fun y_1=>yC q 10 [ag (e33 a)] fun y_2=>k0 (eqI (y_1.i 0) (y_2.i 0)) (y.b 0) (y.b 0) (y.b 0) true (ag (e33 a)) (ii (y_1.i 0)) (ag (e33 a)) (ii (y_2.i 0)) (bb (eqI (y_1.i 0) (y_2.i 0))) else k0 false (y.b 0) (y.b 0) (y.b 0) false S.ud S.ud S.ud S.ud S.ud
structure X3 where
 x0:Bool→OS
def D3_0 (X:X3):T3_0:=fun v0 _ _ _ _ _ _ _ _ _=>X.x0 v0
def X3s (q:YF) (a:D33) (X:X3):X3:=⟨fun v0=>b3_0 q a v0 dd dd dd dd dd dd dd dd dd⟩
def X3n (q:YF) (a:D33):Nat→X3
 | 0=>⟨fun _=>none⟩
 | n+1=>X3s q a (X3n q a n)
theorem l3_0 (q:YF) (a:D33) (kk:PK S):K3_0 a (P3 q kk)=b3_0 q a:=by
 kernel_rfl
theorem l3_in (q:YF) (a:D33) (kk:PK S):BG q kk 3 Tryz.f3 [ag (e33 a)]=e3_in q a (K3_0 a kk):=by
 kernel_rfl
theorem h3 (q:YF) (a:D33):∀ n,K3_0 a (H3 q n)=D3_0 (X3n q a n)
 | 0=>rfl
 | n+1=>by
  have h0:=h3 q a n
  exact (l3_0 q a (H3 q n)).trans (by kernel_rfl)
theorem W3 (a:D33) (n:Nat) (x:S) (h:e3_in (regs O) a (D3_0 (X3n (regs O) a n))=some x):(W O).callT 3 [ag (e33 a)]=some x:=by
 refine WG (fn:=Tryz.f3) (by kernel_rfl) (by kernel_rfl) (n:=n) ?_
 refine (l3_in (regs O) a (H3 (regs O) n)).trans ?_
 have h0:=h3 (regs O) a n
 rw [h0]
 exact h
set_option maxRecDepth 100000 in
theorem live60:(envN O 60).callT 8 []=some (bb true):=by kernel_rfl
theorem c8:Ret 8 [] (bb true):=W_of live60
theorem c3 (a:D33) (ha:sm33 a):Ret 3 [ag (e33 a)] (bb true):=by
 obtain ⟨y,hy,hK⟩:=yC_bool (by kernel_rfl) c8
 obtain ⟨u,hu,hL⟩:=yC_int (by kernel_rfl) (c9 a ha)
 obtain ⟨v,hv,hM⟩:=yC_int (by kernel_rfl) (c10 a ha)
 refine W3 a 1 _ ?_
 simp only [e3_in,hK,hy,hL,hM,hu,hv,cond_true,D3_0,X3n,X3s,b3_0]
 simp [eqI]
end
end Go.Proofs.YtonkoellfaopiaaGreatDoor.H
