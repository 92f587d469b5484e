import Derived.Test.YtonkoellfaopiaaGreatDoorD20
set_option linter.unusedSimpArgs false
set_option linter.unusedVariables false
set_option linter.unusedSectionVars false
namespace Go.Proofs.YtonkoellfaopiaaGreatDoor.H
open Go
noncomputable section
theorem uE:∀ (a b:List UInt8),(Op.bytesLess a b || decide (a=b))=!Op.bytesLess b a
 | [],[]=>rfl
 | [],_::_=>rfl
 | _::_,[]=>rfl
 | x::a,y::b=>by
  have ih:=uE a b
  unfold Op.bytesLess
  by_cases h:x=y
  ·subst h
   simp
   simpa using ih
  ·have:x < y∨y < x:=by
    rcases Nat.lt_or_gt_of_ne (fun e=>h (UInt8.toNat_inj.1 e):x.toNat≠y.toNat) with h | h
    ·exact .inl h
    ·exact .inr h
   rcases this with h1 | h1
   ·have h2:¬ y < x:=fun h2=>absurd (Nat.lt_trans h1 h2) (Nat.lt_irrefl _)
    simp [h,h1,h2,Ne.symm h]
   ·have h2:¬ x < y:=fun h2=>absurd (Nat.lt_trans h1 h2) (Nat.lt_irrefl _)
    simp [h,h1,h2,Ne.symm h]
theorem DG (a b:ByteArray):(strLt a b || ah a b)=!strLt b a:=by
 unfold strLt
 rw [oA]
 exact uE _ _
def fE (f:Nat→ByteArray) (j:Nat):ByteArray:=if j=0 then bs [] else f (j - 1)
def pf (f:Nat→ByteArray) (j:Nat):Bool:=decide (j=0) || strLt (f (j - 1)) (f j)
theorem oE (f:Nat→ByteArray) (j:Nat):fE f (j+1)=f j:=by simp [fE]
theorem RN {a:ByteArray} (h:¬ aM a=0):strLt (bs []) a=true:=by
 unfold strLt
 have:a.data.toList≠[]:=fun e=>h (by unfold aM;show a.data.size=0;rw [← Array.length_toList,e];rfl)
 cases hl:a.data.toList with
 | nil=>exact absurd hl this
 | cons x l=>rfl
theorem NV {a:ByteArray} (h:ba a=true):¬ aM a=0:=fun e=>by
 unfold ba at h
 rw [e] at h
 cases h
theorem uH {f:Nat→ByteArray} {j:Nat} (h:ba (f j)=true):(strLt (f j) (fE f j) || ah (f j) (fE f j))=!pf f j:=by
 rw [DG]
 unfold fE pf
 by_cases h0:j=0
 ·subst h0
  rw [if_pos rfl,RN (NV h)]
  rfl
 ·rw [if_neg h0]
  simp [h0]
theorem fk {a:Int} (h:aR a 0=false) (r:Int):bq a r=a:=by unfold bq;rw [h];rfl
theorem gp {a:Int} (h:aR a 0=true) (r:Int):bq a r=r:=by unfold bq;rw [h];rfl
def lU (a:aP) (i:Nat):ByteArray:=(a.aW.at i).af
def rF (a:aP) (j:Nat):Int:=bq (rM (a.aW.at j)) (aC (pf (lU a) j) 6)
theorem Mj {x:fU} (h:rM x=0):ba x.af=true:=by
 unfold rM at h
 exact (dm (by decide)).1 (bQ.1 h).1
theorem c25 (a:aP) (ha:ga ML a.aW):ca 25 [ag (bI a)] (ii (bg a.aW.n (rF a))):=by
 have hn:=cF ha.1
 have key:=Ev.jc (X:=fun m j=>(tv (aa O) a m).x0 (j:Int) (fE (lU a) j)) 1 a.aW.n (rF a) (fun m j hj=>by
  have hj2:j < 2 ^ 62:=by omega
  obtain ⟨y,hy,hK⟩:=aN (by kernel_rfl) (c61 (a.aW.at j) (ha.2 j hj))
  show (tv (aa O) a (m+1)).x0 (j:Int) (fE (lU a) j)=bif !aR (rF a j) 0 then some (ii (rF a j)) else (tv (aa O) a m).x0 ((j+1:Nat):Int) (fE (lU a) (j+1))
  rw [tv,oE]
  generalize tv (aa O) a m=X
  simp only [Zv,Ix,CQ,aq,av hj,aK,hj,decide_true,cond_true,aA hj2,hK,hy]
  unfold rF
  cases hc:aR (rM (a.aW.at j)) 0 with
  | false=>rw [fk hc,hc];rfl
  | true=>
   rw [gp hc]
   have:=uH (f:=lU a) (j:=j) (Mj (cJ.1 hc))
   simp only [Bool.not_true,cond_false]
   have this':(strLt (a.aW.at j).af (fE (lU a) j) || ah (a.aW.at j).af (fE (lU a) j))=!pf (lU a) j:=this
   rw [this']
   cases pf (lU a) j<;>rfl) (fun m=>by
  show (tv (aa O) a (m+1)).x0 (a.aW.n:Int) (fE (lU a) a.aW.n)=_
  rw [tv]
  generalize tv (aa O) a m=X
  simp only [Zv,Ix,CQ,aq,Nat.lt_irrefl,decide_false,cond_false])
 obtain ⟨n,h⟩:=key.get
 exact W25 a n _ h
def rU (a:aP) (i:Nat):ByteArray:=(a.an.at i).af
def oX (a:aP) (j:Nat):Int:=bq (BW (a.an.at j)) (bq (aC (pf (rU a) j) 6) (bq (aC (decide (aM (a.an.at j).jI=0) || j2 a (a.an.at j).jI) 5) (aC (bp (a.an.at j).df a.fA) 1)))
theorem Od {x:fB} (h:BW x=0):ba x.af=true:=by
 unfold BW at h
 have:=(dm (by decide)).1 (bQ.1 h).1
 rw [Bool.and_eq_true] at this
 exact this.1
theorem c27 (a:aP) (ha:ga LV a.an) (hc:a.ae.n < 2 ^ 62):ca 27 [ag (bI a)] (ii (bg a.an.n (oX a))):=by
 have hn:=cF ha.1
 have key:=Ev.jc (X:=fun m j=>(mz (aa O) a m).x0 (j:Int) (fE (rU a) j)) 2 a.an.n (oX a) (fun m j hj=>by
  have hj2:j < 2 ^ 62:=by omega
  obtain ⟨y,hy,hK⟩:=aN (by kernel_rfl) (c66 (a.an.at j) (ha.2 j hj))
  obtain ⟨z,hz,hL⟩:=aB (by kernel_rfl) (c67 a (a.an.at j).jI hc)
  show (mz (aa O) a (m+2)).x0 (j:Int) (fE (rU a) j)=bif !aR (oX a j) 0 then some (ii (oX a j)) else (mz (aa O) a m).x0 ((j+1:Nat):Int) (fE (rU a) (j+1))
  have h1:∀ b,(mz (aa O) a (m+1)).x1 (a.an.at j) b (j:Int)=bif b then some (ii 5) else bif bl (a.an.at j).df a.fA then some (ii 1) else (mz (aa O) a m).x0 ((j+1:Nat):Int) (a.an.at j).af:=fun b=>by
   rw [mz]
   generalize mz (aa O) a m=X
   simp only [Up,Ss,KH,aA hj2]
  rw [mz,oE]
  generalize mz (aa O) a (m+1)=X at h1 ⊢
  generalize mz (aa O) a m=X' at h1 ⊢
  simp only [Up,Jo,NC,aq,av hj,aK,hj,decide_true,cond_true,hK,hy,hL,hz,dz,h1]
  unfold oX
  cases hc:aR (BW (a.an.at j)) 0 with
  | false=>rw [fk hc,hc];rfl
  | true=>
   rw [gp hc]
   have:=uH (f:=rU a) (j:=j) (Od (cJ.1 hc))
   have this':(strLt (a.an.at j).af (fE (rU a) j) || ah (a.an.at j).af (fE (rU a) j))=!pf (rU a) j:=this
   simp only [Bool.not_true,cond_false,this',ez]
   unfold bq aC
   cases pf (rU a) j<;>cases decide (aM (a.an.at j).jI=0)<;>cases j2 a (a.an.at j).jI<;>cases bp (a.an.at j).df a.fA<;>rfl) (fun m=>by
  show (mz (aa O) a (m+2)).x0 (a.an.n:Int) (fE (rU a) a.an.n)=_
  rw [mz]
  generalize mz (aa O) a (m+1)=X
  simp only [Up,Jo,aq,Nat.lt_irrefl,decide_false,cond_false])
 obtain ⟨n,h⟩:=key.get
 exact W27 a n _ h
def vT (a:aP) (j:Nat):Int:=bq (LS (a.au.at j)) (aC ((decide (aM (a.au.at j).bc=0) || jJ a (a.au.at j).bc) && eY a.aw (a.au.at j).bh) 5)
theorem c28 (a:aP) (ha:ga wT a.au) (hp:a.aW.n < 2 ^ 62) (ht:ga eQ a.aw):ca 28 [ag (bI a)] (ii (bg a.au.n (vT a))):=by
 have hn:=cF ha.1
 have key:=Ev.jc (X:=fun m j=>(mY (aa O) a m).x0 (j:Int)) 2 a.au.n (vT a) (fun m j hj=>by
  have hj2:j < 2 ^ 62:=by omega
  obtain ⟨y,hy,hK⟩:=aN (by kernel_rfl) (c68 (a.au.at j) (ha.2 j hj))
  obtain ⟨z,hz,hL⟩:=aB (by kernel_rfl) (c64 a (a.au.at j).bc hp)
  obtain ⟨x,hx,hM⟩:=aB (by kernel_rfl) (c65 a (a.au.at j).bh (cF (ha.2 j hj).opts.1) ht)
  show (mY (aa O) a (m+2)).x0 (j:Int)=bif !aR (vT a j) 0 then some (ii (vT a j)) else (mY (aa O) a m).x0 ((j+1:Nat):Int)
  have h1:∀ b,(mY (aa O) a (m+1)).x1 (a.au.at j) b (j:Int)=bif b then some (ii 5) else bif !eY a.aw (a.au.at j).bh then some (ii 5) else (mY (aa O) a m).x0 ((j+1:Nat):Int):=fun b=>by
   rw [mY]
   generalize mY (aa O) a m=X
   simp only [Ux,QT,JL,aA hj2,hM,hx]
  rw [mY]
  generalize mY (aa O) a (m+1)=X at h1 ⊢
  generalize mY (aa O) a m=X' at h1 ⊢
  simp only [Ux,Jf,Uh,aq,av hj,aK,hj,decide_true,cond_true,hK,hy,hL,hz,dz,h1]
  unfold vT
  cases hc:aR (LS (a.au.at j)) 0 with
  | false=>rw [fk hc,hc];rfl
  | true=>
   rw [gp hc]
   unfold aC
   cases decide (aM (a.au.at j).bc=0)<;>cases jJ a (a.au.at j).bc<;>cases eY a.aw (a.au.at j).bh<;>rfl) (fun m=>by
  show (mY (aa O) a (m+2)).x0 (a.au.n:Int)=_
  rw [mY]
  generalize mY (aa O) a (m+1)=X
  simp only [Ux,Jf,aq,Nat.lt_irrefl,decide_false,cond_false])
 obtain ⟨n,h⟩:=key.get
 exact W28 a n _ h
theorem Xs (o:bu):(fun i:Fin 1=>List.take 3 (List.drop (i.1*3) (bS o)))=fun i:Fin 1=>bS ((nK [o]).get i):=by
 funext i
 obtain ⟨i,hi⟩:=i
 obtain rfl:i=0:=by omega
 rfl
theorem wW (a:Rw aV) (o:bu):eY a (nK [o])=hasB a o:=by
 unfold eY
 show (List.range 1).all _=_
 simp only [List.range_one,List.all_cons,List.all_nil,Bool.and_true]
 rfl
theorem SJ (a:aP) (o:bu) (ha:ga eQ a.aw):∃ y:Y,y.b 0=hasB a.aw o∧∀ (ρ:Type) (K:Y→Option ρ),yC (aa O) 65 [ag (bI a),S.t (T.rows 3 1 fun i=>List.take 3 (List.drop (i.1*3) (bS o)))] K=K y:=by
 obtain ⟨y,hy,hK⟩:=aB (by kernel_rfl) (c65 a (nK [o]) (show (1:Nat) < 2 ^ 62 by decide) ha)
 refine ⟨y,by rw [hy,wW],fun ρ K=>?_⟩
 rw [Xs]
 exact hK ρ K
theorem TP (a:Rw aV) (o:bu) (ha:ga eQ a) (ho:qg o):∃ y:Y,y.b 0=hasB a o∧∀ (ρ:Type) (K:Y→Option ρ),yC (aa O) 77 [S.t (T.rows 7 a.n fun i=>bk (a.get i)),S.t (T.rows 3 1 fun i=>List.take 3 (List.drop (i.1*3) (bS o)))] K=K y:=by
 obtain ⟨y,hy,hK⟩:=aB (by kernel_rfl) (c77 a (nK [o]) ha ⟨show (1:Nat)≤_ by decide,fun i hi=>by
  have hi:i < 1:=hi
  obtain rfl:i=0:=by omega
  exact ho⟩)
 refine ⟨y,by rw [hy,wW],fun ρ K=>?_⟩
 rw [Xs]
 exact hK ρ K
def lB (c:cQ):bu:=⟨c.al,c.aj,c.ak⟩
def fw (a:aP) (i:Nat):ByteArray:=(a.ae.at i).af
def Mh (a:aP) (c:cQ):Bool:=aR c.a6 (q_ a.aw (lB c)).1 && aR c.a8 (q_ a.aw (lB c)).2
def eE (a:aP) (j:Nat):Int:=bq (ku (a.ae.at j)) (bq (aC (pf (fw a) j) 6) (bq (aC (jJ a (a.ae.at j).bc && (hasB a.aw (lB (a.ae.at j)) && eY a.aw (a.ae.at j).bh)) 5) (aC (Mh a (a.ae.at j)) 1)))
theorem Gy {x:cQ} (h:ku x=0):ba x.af=true:=by
 unfold ku at h
 have:=(dm (by decide)).1 (bQ.1 h).1
 unfold qC at this
 rw [Bool.and_eq_true] at this
 exact this.1
theorem c26 (a:aP) (ha:ga Cb a.ae) (hp:a.aW.n < 2 ^ 62) (ht:ga eQ a.aw):ca 26 [ag (bI a)] (ii (bg a.ae.n (eE a))):=by
 have hn:=cF ha.1
 have key:=Ev.jc (X:=fun m j=>(gx (aa O) a m).x0 (j:Int) (fE (fw a) j)) 3 a.ae.n (eE a) (fun m j hj=>by
  have hj2:j < 2 ^ 62:=by omega
  obtain ⟨y,hy,hK⟩:=aN (by kernel_rfl) (c62 (a.ae.at j) (ha.2 j hj))
  obtain ⟨h,hh0,hh1,hh2,hH⟩:=AN (by kernel_rfl) (c63 a.aw (lB (a.ae.at j)) ht)
  have hH:∀ (ρ:Type) (K:Y→Option ρ),yC (aa O) 63 [S.t (T.rows 7 a.aw.n fun i=>bk (a.aw.get i)),S.agg [ss (a.ae.at j).al,ss (a.ae.at j).aj,ss (a.ae.at j).ak]] K=K h:=hH
  obtain ⟨z,hz,hL⟩:=aB (by kernel_rfl) (c64 a (a.ae.at j).bc hp)
  obtain ⟨o,ho,hO⟩:=SJ a (lB (a.ae.at j)) ht
  have hO:∀ (ρ:Type) (K:Y→Option ρ),yC (aa O) 65 [ag (bI a),S.t (T.rows 3 1 fun i=>List.take 3 (List.drop (i.1*3) [ts (a.ae.at j).al,ts (a.ae.at j).aj,ts (a.ae.at j).ak]))] K=K o:=hO
  obtain ⟨x,hx,hM⟩:=aB (by kernel_rfl) (c65 a (a.ae.at j).bh (cF (ha.2 j hj).opts.1) ht)
  show (gx (aa O) a (m+3)).x0 (j:Int) (fE (fw a) j)=bif !aR (eE a j) 0 then some (ii (eE a j)) else (gx (aa O) a m).x0 ((j+1:Nat):Int) (fE (fw a) (j+1))
  rw [oE]
  have k3:∀ b v2 v3,(gx (aa O) a (m+1)).x3 b (a.ae.at j) v2 v3 (j:Int)=bif b then some (ii 5) else bif !(aR (a.ae.at j).a6 v2 && (aR (a.ae.at j).a8 v3 && true)) then some (ii 1) else (gx (aa O) a m).x0 ((j+1:Nat):Int) (fw a j):=fun b v2 v3=>by
   rw [gx]
   generalize gx (aa O) a m=X
   simp only [F7,PS,I6,aA hj2]
   rfl
  have k1:∀ b v2 v3,(gx (aa O) a (m+2)).x1 b (a.ae.at j) v2 v3 (j:Int)=bif b || !eY a.aw (a.ae.at j).bh then some (ii 5) else bif !(aR (a.ae.at j).a6 v2 && (aR (a.ae.at j).a8 v3 && true)) then some (ii 1) else (gx (aa O) a m).x0 ((j+1:Nat):Int) (fw a j):=fun b v2 v3=>by
   rw [gx]
   generalize gx (aa O) a (m+1)=X at k3 ⊢
   generalize gx (aa O) a m=X' at k3 ⊢
   simp only [F7,Np,T_,hM,hx,k3]
   cases b<;>cases eY a.aw (a.ae.at j).bh<;>rfl
  have k4:(gx (aa O) a (m+1)).x4=some (ii 5):=by
   rw [gx]
   generalize gx (aa O) a m=X
   simp only [F7,Nk]
  have k2:(gx (aa O) a (m+2)).x2=some (ii 5):=by
   rw [gx]
   generalize gx (aa O) a (m+1)=X at k4 ⊢
   simp only [F7,R6,RX,k4]
  rw [gx]
  generalize gx (aa O) a (m+2)=X at k1 k2 ⊢
  generalize gx (aa O) a m=X' at k1 ⊢
  simp only [F7,Kn,N1,SV,aq,av hj,aK,hj,decide_true,cond_true,hK,hy,hH,hh0,hh1,hh2,hL,hz,hO,ho,k1,k2]
  unfold eE
  cases hc:aR (ku (a.ae.at j)) 0 with
  | false=>rw [fk hc,hc];rfl
  | true=>
   rw [gp hc]
   have:=uH (f:=fw a) (j:=j) (Gy (cJ.1 hc))
   have this':(strLt (a.ae.at j).af (fE (fw a) j) || ah (a.ae.at j).af (fE (fw a) j))=!pf (fw a) j:=this
   simp only [Bool.not_true,cond_false,this',Bool.and_true]
   have ec:(aR (a.ae.at j).a6 (q_ a.aw (lB (a.ae.at j))).1 && aR (a.ae.at j).a8 (q_ a.aw (lB (a.ae.at j))).2)=Mh a (a.ae.at j):=rfl
   simp only [ec]
   unfold bq aC
   cases pf (fw a) j<;>cases jJ a (a.ae.at j).bc<;>cases hasB a.aw (lB (a.ae.at j))<;>cases eY a.aw (a.ae.at j).bh<;>cases Mh a (a.ae.at j)<;>rfl) (fun m=>by
  show (gx (aa O) a (m+3)).x0 (a.ae.n:Int) (fE (fw a) a.ae.n)=_
  rw [gx]
  generalize gx (aa O) a (m+2)=X
  simp only [F7,Kn,aq,Nat.lt_irrefl,decide_false,cond_false])
 obtain ⟨n,h⟩:=key.get
 exact W26 a n _ h
theorem sH {f:FuncId} {args:List S} {l:List Sh} {j:Nat} {x:S} {b:Bool} {y0:Y} (hs:wh O.P f=some (.bJ [.agg l,.bool j])) (h:ca f args (S.bJ [x,bb b])) (hx:build y0 (.agg l)=x) (hb:y0.b j=b):∃ y:Y,y.b j=b∧∀ (ρ:Type) (K:Y→Option ρ),yC (aa O) f args K=K y:=by
 subst hx
 subst hb
 obtain ⟨y,h1,h2⟩:=iR (y0:=y0) hs h
 simp only [build,gb,S.bJ.injEq,List.cons.injEq,S.t.injEq,T.v.injEq,Value.bool.injEq,and_true] at h1
 exact ⟨y,h1.2,h2⟩
def Qe (x:fU) (b:Bool):Y:=⟨fun i=>match i with | 1=>x.bt | 2=>x.cY | 3=>x.c_ | 6=>x.dB | 7=>x.iM | 8=>x.cC | _=>x.cH,fun _=>b,fun _=>x.af,
 fun i=>match i with | 4=>⟨x.cg.n,fun i=>eL (x.cg.get i)⟩ | _=>⟨x.bW.n,fun i=>dv (x.bW.get i)⟩,fun _=>[]⟩
def Bz:List Sh:=[.str 0,.int .i64 1,.int .i64 2,.int .i64 3,.rows 4 4,.rows 2 5,.int .i64 6,.int .i64 7,.int .i64 8,.int .i64 9]
theorem vj {ρ:Type} {n:Nat} {p:Nat→Bool} {g:Nat→ρ} {r:ρ}:∃ j,((List.range n).findSome? fun j=>bif p j then some (g j) else none).getD r=(bif (List.range n).any p then g j else r):=by
 generalize List.range n=l
 induction l with
 | nil=>exact ⟨0,rfl⟩
 | cons i l ih=>
  cases h:p i with
  | true=>exact ⟨i,by simp [h]⟩
  | false=>
   obtain ⟨j,hj⟩:=ih
   exact ⟨j,by simpa [h] using hj⟩
theorem uO {α:Type} (f g:Fin 0→α):f=g:=by funext i;exact i.elim0
theorem c76 (a:aP) (b:ByteArray) (ha:a.aW.n < 2 ^ 62):∃ y:Y,y.b 10=jJ a b∧∀ (ρ:Type) (K:Y→Option ρ),yC (aa O) 76 [ag (bI a),ss b] K=K y:=by
 obtain ⟨z,hz⟩:∃ z:S,z=build (Qe ⟨bs [],0,0,0,⟨0,fun i=>i.elim0⟩,⟨0,fun i=>i.elim0⟩,0,0,0,0⟩ false) (.agg Bz):=⟨_,rfl⟩
 have key:=Ev.tR (X:=fun m j=>(ub (aa O) a b m).x0 (j:Int)) a.aW.n (fun j=>bif ah (a.aW.at j).af b then some (S.bJ [ag (jd (a.aW.at j)),bb true]) else none) (S.bJ [z,bb false]) (fun j hj=>by
  have hj2:j < 2 ^ 62:=by omega
  have one:∀ m,(ub (aa O) a b (m+1)).x0 (j:Int)=bif ah (a.aW.at j).af b then some (S.bJ [ag (jd (a.aW.at j)),bb true]) else (ub (aa O) a b m).x0 ((j+1:Nat):Int):=fun m=>by
   rw [ub]
   generalize ub (aa O) a b m=X
   simp only [ZI,Ls,KJ,aq,av hj,aK,hj,decide_true,cond_true,aA hj2]
  cases h:ah (a.aW.at j).af b with
  | true=>exact ⟨fun e he=>(by obtain rfl:=Option.some.inj he;exact Ev.one 1 fun m=>by rw [one,h];rfl),fun hn=>(by cases hn)⟩
  | false=>exact ⟨fun e he=>(by cases he),fun _ v hv=>Ev.by 1 (fun m=>by rw [one,h];rfl) hv⟩) (Ev.one 1 fun m=>by
  show (ub (aa O) a b (m+1)).x0 (a.aW.n:Int)=_
  rw [ub]
  generalize ub (aa O) a b m=X
  simp only [ZI,Ls,aq,Nat.lt_irrefl,decide_false,cond_false]
  rw [hz]
  simp only [build,gb,Bz,Qe,Option.some.injEq,S.bJ.injEq,S.agg.injEq,List.cons.injEq,S.t.injEq,T.rows.injEq,true_and,and_true,heq_eq_eq]
  exact ⟨uO _ _,uO _ _⟩)
 obtain ⟨j,hj⟩:=vj (n:=a.aW.n) (p:=fun j=>ah (a.aW.at j).af b) (g:=fun j=>S.bJ [ag (jd (a.aW.at j)),bb true]) (r:=S.bJ [z,bb false])
 rw [hj] at key
 obtain ⟨n,h⟩:=key.get
 have hr:=W76 a b n _ h
 unfold jJ
 cases hp:(List.range a.aW.n).any (fun j=>ah (a.aW.at j).af b) with
 | true=>
  rw [hp] at hr
  exact sH (y0:=Qe (a.aW.at j) true) (l:=Bz) (by kernel_rfl) hr rfl rfl
 | false=>
  rw [hp] at hr
  exact sH (l:=Bz) (by kernel_rfl) hr hz.symm rfl
def Hm (x:cQ) (b:Bool):Y:=⟨fun i=>match i with | 2=>x.dB | 6=>x.bG | 7=>x.a6 | 8=>x.a8 | 10=>x.dQ | 12=>x.bM | _=>x.dD,fun i=>match i with | 14=>x.dE | _=>b,fun i=>match i with | 0=>x.af | 1=>x.bc | 3=>x.al | 4=>x.aj | 5=>x.ak | _=>x.eG,
 fun _=>⟨x.bh.n,fun i=>bS (x.bh.get i)⟩,fun _=>[]⟩
def su:List Sh:=[.str 0,.str 1,.int .i64 2,.str 3,.str 4,.str 5,.int .i64 6,.int .i64 7,.int .i64 8,.rows 3 9,.int .i64 10,.str 11,.int .i64 12,.int .i64 13,.bool 14]
theorem c37 (a:aP) (b:ByteArray) (ha:a.ae.n < 2 ^ 62):∃ y:Y,y.b 15=j2 a b∧∀ (ρ:Type) (K:Y→Option ρ),yC (aa O) 37 [ag (bI a),ss b] K=K y:=by
 obtain ⟨z,hz⟩:∃ z:S,z=build (Hm ⟨bs [],bs [],0,bs [],bs [],bs [],0,0,0,⟨0,fun i=>i.elim0⟩,0,bs [],0,0,false⟩ false) (.agg su):=⟨_,rfl⟩
 have key:=Ev.tR (X:=fun m j=>(uS (aa O) a b m).x0 (j:Int)) a.ae.n (fun j=>bif ah (a.ae.at j).af b then some (S.bJ [ag (dp (a.ae.at j)),bb true]) else none) (S.bJ [z,bb false]) (fun j hj=>by
  have hj2:j < 2 ^ 62:=by omega
  have one:∀ m,(uS (aa O) a b (m+1)).x0 (j:Int)=bif ah (a.ae.at j).af b then some (S.bJ [ag (dp (a.ae.at j)),bb true]) else (uS (aa O) a b m).x0 ((j+1:Nat):Int):=fun m=>by
   rw [uS]
   generalize uS (aa O) a b m=X
   simp only [acs,KR,I5,aq,av hj,aK,hj,decide_true,cond_true,aA hj2]
  cases h:ah (a.ae.at j).af b with
  | true=>exact ⟨fun e he=>(by obtain rfl:=Option.some.inj he;exact Ev.one 1 fun m=>by rw [one,h];rfl),fun hn=>(by cases hn)⟩
  | false=>exact ⟨fun e he=>(by cases he),fun _ v hv=>Ev.by 1 (fun m=>by rw [one,h];rfl) hv⟩) (Ev.one 1 fun m=>by
  show (uS (aa O) a b (m+1)).x0 (a.ae.n:Int)=_
  rw [uS]
  generalize uS (aa O) a b m=X
  simp only [acs,KR,aq,Nat.lt_irrefl,decide_false,cond_false]
  rw [hz]
  simp only [build,gb,su,Hm,Option.some.injEq,S.bJ.injEq,S.agg.injEq,List.cons.injEq,S.t.injEq,T.rows.injEq,true_and,and_true,heq_eq_eq]
  exact uO _ _)
 obtain ⟨j,hj⟩:=vj (n:=a.ae.n) (p:=fun j=>ah (a.ae.at j).af b) (g:=fun j=>S.bJ [ag (dp (a.ae.at j)),bb true]) (r:=S.bJ [z,bb false])
 rw [hj] at key
 obtain ⟨n,h⟩:=key.get
 have hr:=W37 a b n _ h
 unfold j2
 cases hp:(List.range a.ae.n).any (fun j=>ah (a.ae.at j).af b) with
 | true=>
  rw [hp] at hr
  exact sH (y0:=Hm (a.ae.at j) true) (l:=su) (by kernel_rfl) hr rfl rfl
 | false=>
  rw [hp] at hr
  exact sH (l:=su) (by kernel_rfl) hr hz.symm rfl
theorem OT {x:cQ} (h:Cb x):qg (lB x):=⟨h.type,h.OY,h.kind⟩
theorem mB {j:Nat}:bl (j:Int) 0=!decide (j=0):=by unfold bl;by_cases h:j=0<;>simp [h]<;>omega
theorem c35 (a:aP) (ha:ga Cb a.ae) (hp:a.aW.n < 2 ^ 62) (ht:ga eQ a.aw):ca 35 [ag (bI a)] (ii (bg a.ae.n (eE a))):=by
 have hn:=cF ha.1
 have key:=Ev.jc (X:=fun m j=>(kr (aa O) a m).x0 (j:Int)) 2 a.ae.n (eE a) (fun m j hj=>by
  have hj2:j < 2 ^ 62:=by omega
  have hs:=ha.2 j hj
  obtain ⟨y,hy,hK⟩:=aN (by kernel_rfl) (c75 (a.ae.at j) hs)
  obtain ⟨z,hz,hL⟩:=c76 a (a.ae.at j).bc hp
  obtain ⟨o,ho,hO⟩:=TP a.aw (lB (a.ae.at j)) ht (OT hs)
  have hO:∀ (ρ:Type) (K:Y→Option ρ),yC (aa O) 77 [S.t (T.rows 7 a.aw.n fun i=>bk (a.aw.get i)),S.t (T.rows 3 1 fun i=>List.take 3 (List.drop (i.1*3) [ts (a.ae.at j).al,ts (a.ae.at j).aj,ts (a.ae.at j).ak]))] K=K o:=hO
  obtain ⟨x,hx,hM⟩:=aB (by kernel_rfl) (c77 a.aw (a.ae.at j).bh ht hs.opts)
  obtain ⟨h,hh0,hh1,hh2,hH⟩:=AN (by kernel_rfl) (c78 a.aw (lB (a.ae.at j)) ht (OT hs))
  have hH:∀ (ρ:Type) (K:Y→Option ρ),yC (aa O) 78 [S.t (T.rows 7 a.aw.n fun i=>bk (a.aw.get i)),S.agg [ss (a.ae.at j).al,ss (a.ae.at j).aj,ss (a.ae.at j).ak]] K=K h:=hH
  show (kr (aa O) a (m+2)).x0 (j:Int)=bif !aR (eE a j) 0 then some (ii (eE a j)) else (kr (aa O) a m).x0 ((j+1:Nat):Int)
  have k1:∀ b,(kr (aa O) a (m+1)).x1 b (a.ae.at j) (j:Int)=bif b || !eY a.aw (a.ae.at j).bh then some (ii 5) else bif !Mh a (a.ae.at j) then some (ii 1) else (kr (aa O) a m).x0 ((j+1:Nat):Int):=fun b=>by
   rw [kr]
   generalize kr (aa O) a m=X
   simp only [Ru,Ro,IX,hM,hx,hH,hh0,hh1,aA hj2,Bool.and_true]
   cases b<;>cases eY a.aw (a.ae.at j).bh<;>rfl
  have k2:(kr (aa O) a (m+1)).x2=some (ii 5):=by
   rw [kr]
   generalize kr (aa O) a m=X
   simp only [Ru,QU]
  rw [kr]
  generalize kr (aa O) a (m+1)=X at k1 k2 ⊢
  generalize kr (aa O) a m=X' at k1 ⊢
  simp only [Ru,KO,NN,Oz,aq,av hj,aK,hj,decide_true,cond_true,hK,hy,hL,hz,hO,ho,k1,k2,mB]
  unfold eE pf
  cases hc:aR (ku (a.ae.at j)) 0 with
  | false=>rw [fk hc,hc];rfl
  | true=>
   rw [gp hc]
   simp only [Bool.not_true,cond_false]
   by_cases h0:j=0
   ·simp only [h0,decide_true,Bool.not_true,cond_false,Bool.true_or]
    unfold bq aC
    cases jJ a (a.ae.at 0).bc<;>cases hasB a.aw (lB (a.ae.at 0))<;>cases eY a.aw (a.ae.at 0).bh<;>cases Mh a (a.ae.at 0)<;>rfl
   ·have hlt:j - 1 < a.ae.n:=by omega
    simp only [h0,decide_false,Bool.not_false,cond_true,Bool.false_or]
    rw [jT (show 0 < j by omega) hj2,av hlt]
    simp only [aK]
    have e:strLt (fw a (j - 1)) (fw a j)=strLt (a.ae.at (j - 1)).af (a.ae.at j).af:=rfl
    rw [e]
    unfold bq aC
    cases strLt (a.ae.at (j - 1)).af (a.ae.at j).af<;>cases jJ a (a.ae.at j).bc<;>cases hasB a.aw (lB (a.ae.at j))<;>cases eY a.aw (a.ae.at j).bh<;>cases Mh a (a.ae.at j)<;>rfl) (fun m=>by
  show (kr (aa O) a (m+2)).x0 (a.ae.n:Int)=_
  rw [kr]
  generalize kr (aa O) a (m+1)=X
  simp only [Ru,KO,aq,Nat.lt_irrefl,decide_false,cond_false])
 obtain ⟨n,h⟩:=key.get
 exact W35 a n _ h
theorem DW:∀ (a b:List UInt8),Lib.compareBytes a b=if Op.bytesLess a b=true then -1 else if a=b then 0 else 1
 | [],[]=>rfl
 | [],_::_=>rfl
 | _::_,[]=>rfl
 | x::a,y::b=>by
  have ih:=DW a b
  unfold Lib.compareBytes Op.bytesLess
  by_cases h:x=y
  ·subst h
   have hx:¬ x < x:=fun h=>absurd h (Nat.lt_irrefl _)
   simp only [hx,if_false,ih]
   simp
  ·have:x < y∨y < x:=by
    rcases Nat.lt_or_gt_of_ne (fun e=>h (UInt8.toNat_inj.1 e):x.toNat≠y.toNat) with h | h
    ·exact .inl h
    ·exact .inr h
   rcases this with h1 | h1
   ·simp [h,h1]
   ·have h2:¬ x < y:=fun h2=>absurd (Nat.lt_trans h1 h2) (Nat.lt_irrefl _)
    simp [h,h1,h2]
theorem yW (a b:ByteArray):vV a b=bif strLt a b then -1 else bif ah a b then 0 else 1:=by
 unfold vV strLt
 rw [DW,oA]
 cases Op.bytesLess a.data.toList b.data.toList with
 | true=>rfl
 | false=>
  by_cases h:a.data.toList=b.data.toList
  ·simp [h]
  ·simp [h]
theorem aj1 (a:Rw Int) (ha:a.n < 2 ^ 62):ca 53 [S.t (T.rows 1 a.n fun i=>[ti (a.get i)])] (ii (bg a.n a.at)):=by
 have key:=Ev.jc (X:=fun m j=>(Me (aa O) a m).x0 (j:Int)) 1 a.n a.at (fun m j hj=>by
  have hj2:j < 2 ^ 62:=by omega
  simp only [Me,aaL,K6,DN,aq,av hj,aK,hj,decide_true,cond_true,aA hj2]) (fun m=>by
  simp only [Me,aaL,K6,DN,aq,Nat.lt_irrefl,decide_false,cond_false])
 obtain ⟨n,h⟩:=key.get
 exact W53 a n _ h
theorem adq (a b c:Int):∃ y:Y,y.i 0=bq a (bq b c)∧∀ (ρ:Type) (K:Y→Option ρ),yC (aa O) 53 [S.t (T.rows 1 3 fun i=>List.take 1 (List.drop (i.1*1) [ti a,ti b,ti c]))] K=K y:=by
 have h:=aj1 (nK [a,b,c]) (show (3:Nat) < 2 ^ 62 by decide)
 rw [wm] at h
 obtain ⟨y,hy,hK⟩:=aN (by kernel_rfl) h
 refine ⟨y,by rw [hy];simp only [gI,iu],fun ρ K=>?_⟩
 rw [← hK ρ K]
 have:=Uf [a,b,c] ti
 exact congrArg (fun g:Fin 3→List T=>yC (aa O) 53 [S.t (T.rows 1 3 g)] K) this
def sR (a b:bu):Bool:=bif !ah a.fType b.fType then strLt a.fType b.fType else bif !ah a.bj b.bj then strLt a.bj b.bj else strLt a.bn b.bn
def Oc (a b:bu):Int:=bq (vV a.fType b.fType) (bq (vV a.bj b.bj) (vV a.bn b.bn))
theorem c69 (a b:bu):ca 69 [ag (bS a),ag (bS b)] (ii (Oc a b)):=by
 obtain ⟨y,hy,hK⟩:=aN (by kernel_rfl) (c56 a.fType b.fType)
 obtain ⟨y1,hy1,hK1⟩:=aN (by kernel_rfl) (c56 a.bj b.bj)
 obtain ⟨y2,hy2,hK2⟩:=aN (by kernel_rfl) (c56 a.bn b.bn)
 obtain ⟨z,hz,hL⟩:=adq (vV a.fType b.fType) (vV a.bj b.bj) (vV a.bn b.bn)
 refine W69 a b 0 _ ?_
 simp only [Ej,hK,hK1,hK2,hy,hy1,hy2,hL,hz]
 rfl
theorem c82 (a b:bu):ca 82 [ag (bS a),ag (bS b)] (bb (sR a b)):=W82 a b 0 _ (by
 unfold GI sR
 cases ah a.fType b.fType<;>cases ah a.bj b.bj<;>rfl)
theorem lt_irrefl (a b:ByteArray) (h:ah a b=true):strLt a b=false:=by
 have:=DG a b
 rw [h,Bool.or_true] at this
 have h2:strLt b a=false:=by simpa using this.symm
 rw [dc] at h
 subst h
 exact h2
theorem N9 (a b:bu):cT (Oc a b) 0=!sR a b:=by
 unfold Oc sR
 rw [yW,yW,yW]
 cases h1:ah a.fType b.fType with
 | false=>cases strLt a.fType b.fType<;>rfl
 | true=>
  rw [lt_irrefl _ _ h1]
  cases h2:ah a.bj b.bj with
  | false=>cases strLt a.bj b.bj<;>rfl
  | true=>
   rw [lt_irrefl _ _ h2]
   cases h3:ah a.bn b.bn with
   | false=>cases strLt a.bn b.bn<;>rfl
   | true=>rw [lt_irrefl _ _ h3];rfl
def l7 (c:vR):bu:=⟨c.al,c.aj,c.ak⟩
def Rl (c:vR):Prop:=qg (l7 c)
def nM (a:aP) (j:Nat):Int:=bq (aC (hasB a.aw (l7 (a.ax.at j))) 5) (bq (aC (decide (j=0) || sR (l7 (a.ax.at (j - 1))) (l7 (a.ax.at j))) 6) (aC (within (a.ax.at j).dT 0 1099511627776) 1))
theorem c29 (a:aP) (hn:a.ax.n < 2 ^ 62) (ht:ga eQ a.aw):ca 29 [ag (bI a)] (ii (bg a.ax.n (nM a))):=by
 have key:=Ev.jc (X:=fun m j=>(mR (aa O) a m).x0 (j:Int)) 2 a.ax.n (nM a) (fun m j hj=>by
  have hj2:j < 2 ^ 62:=by omega
  obtain ⟨o,ho,hO⟩:=SJ a (l7 (a.ax.at j)) ht
  have hO:∀ (ρ:Type) (K:Y→Option ρ),yC (aa O) 65 [ag (bI a),S.t (T.rows 3 1 fun i=>List.take 3 (List.drop (i.1*3) [ts (a.ax.at j).al,ts (a.ax.at j).aj,ts (a.ax.at j).ak]))] K=K o:=hO
  obtain ⟨z,hz,hL⟩:=aN (by kernel_rfl) (c69 (l7 (a.ax.at (j - 1))) (l7 (a.ax.at j)))
  have hL:∀ (ρ:Type) (K:Y→Option ρ),yC (aa O) 69 [S.agg [ss (a.ax.at (j - 1)).al,ss (a.ax.at (j - 1)).aj,ss (a.ax.at (j - 1)).ak],S.agg [ss (a.ax.at j).al,ss (a.ax.at j).aj,ss (a.ax.at j).ak]] K=K z:=hL
  obtain ⟨x,hx,hM⟩:=aB (by kernel_rfl) (c22 (a.ax.at j).dT)
  show (mR (aa O) a (m+2)).x0 (j:Int)=bif !aR (nM a j) 0 then some (ii (nM a j)) else (mR (aa O) a m).x0 ((j+1:Nat):Int)
  have k1:∀ b,(mR (aa O) a (m+1)).x1 (a.ax.at j) (j:Int) b=bif b then some (ii 6) else bif !within (a.ax.at j).dT 0 1099511627776 then some (ii 1) else (mR (aa O) a m).x0 ((j+1:Nat):Int):=fun b=>by
   rw [mR]
   generalize mR (aa O) a m=X
   simp only [VO,Tx,KM,hM,hx,aA hj2]
  rw [mR]
  generalize mR (aa O) a (m+1)=X at k1 ⊢
  generalize mR (aa O) a m=X' at k1 ⊢
  simp only [VO,JI,TF,aq,av hj,aK,hj,decide_true,cond_true,hO,ho,k1,mB]
  unfold nM
  by_cases h0:j=0
  ·simp only [h0,decide_true,Bool.not_true,cond_false,Bool.true_or]
   unfold bq aC
   cases hasB a.aw (l7 (a.ax.at 0))<;>cases within (a.ax.at 0).dT 0 1099511627776<;>rfl
  ·have hlt:j - 1 < a.ax.n:=by omega
   simp only [h0,decide_false,Bool.not_false,cond_true,Bool.false_or]
   rw [jT (show 0 < j by omega) hj2,av hlt]
   simp only [aK,hL,hz,N9]
   unfold bq aC
   cases hasB a.aw (l7 (a.ax.at j))<;>cases sR (l7 (a.ax.at (j - 1))) (l7 (a.ax.at j))<;>cases within (a.ax.at j).dT 0 1099511627776<;>rfl) (fun m=>by
  show (mR (aa O) a (m+2)).x0 (a.ax.n:Int)=_
  rw [mR]
  generalize mR (aa O) a (m+1)=X
  simp only [VO,JI,aq,Nat.lt_irrefl,decide_false,cond_false])
 obtain ⟨n,h⟩:=key.get
 exact W29 a n _ h
def vG (c:gO):bu:=⟨c.al,c.aj,c.ak⟩
structure Ud (c:gO):Prop where
 token:sm (aM c.cu)
 type:sm (aM c.al)
 OY:sm (aM c.aj)
 kind:sm (aM c.ak)
theorem Ud.off {c:gO} (h:Ud c):qg (vG c):=⟨h.type,h.OY,h.kind⟩
def fZ (a:aP) (j:Nat):List ByteArray:=(List.range j).map fun i=>(a.ai.at i).eG
def dW (a:aP) (j:Nat):List ByteArray:=(List.range j).map fun i=>(a.ai.at i).cu
theorem GU (a:aP) (j:Nat):fZ a (j+1)=fZ a j++[(a.ai.at j).eG]:=by unfold fZ;rw [List.range_succ];simp
theorem BY (a:aP) (j:Nat):dW a (j+1)=dW a j++[(a.ai.at j).cu]:=by unfold dW;rw [List.range_succ];simp
def ph (c:gO):Bool:=!decide (aM c.eG=0) && (!decide (aM c.cu=0) && (within c.cX 1 3 && within c.fu 0 1099511627776))
def vQ (a:aP) (j:Nat):Bool:=(List.range j).any fun i=>ah (a.ai.at j).eG (a.ai.at i).eG || ah (a.ai.at j).cu (a.ai.at i).cu
theorem T8 (a:aP) (j:Nat):((fZ a j).any (ah (a.ai.at j).eG) || (dW a j).any (ah (a.ai.at j).cu))=vQ a j:=by
 unfold fZ dW vQ
 rw [List.any_map,List.any_map]
 generalize List.range j=l
 induction l with
 | nil=>rfl
 | cons i l ih=>
  simp only [List.any_cons,Function.comp] at ih ⊢
  rw [← ih]
  cases ah (a.ai.at j).eG (a.ai.at i).eG<;>cases ah (a.ai.at j).cu (a.ai.at i).cu<;>simp
def j_ (a:aP) (j:Nat):Int:=bq (aC (ph (a.ai.at j)) 1) (bq (aC (!vQ a j) 6) (aC (hasB a.aw (vG (a.ai.at j))) 5))
theorem c30 (a:aP) (hn:a.ai.n≤64) (ht:ga eQ a.aw):ca 30 [ag (bI a)] (ii (bg a.ai.n (j_ a))):=by
 have key:=Ev.jc (X:=fun m j=>(eW (aa O) a m).x0 (j:Int) (cB (dW a j)) (cB (fZ a j))) 6 a.ai.n (j_ a) (fun m j hj=>by
  have hj2:j < 2 ^ 62:=by omega
  obtain ⟨o,ho,hO⟩:=SJ a (vG (a.ai.at j)) ht
  have hO:∀ (ρ:Type) (K:Y→Option ρ),yC (aa O) 65 [ag (bI a),S.t (T.rows 3 1 fun i=>List.take 3 (List.drop (i.1*3) [ts (a.ai.at j).al,ts (a.ai.at j).aj,ts (a.ai.at j).ak]))] K=K o:=hO
  obtain ⟨x,hx,hM⟩:=aB (by kernel_rfl) (c22 (a.ai.at j).fu)
  show (eW (aa O) a (m+6)).x0 (j:Int) (cB (dW a j)) (cB (fZ a j))=bif !aR (j_ a j) 0 then some (ii (j_ a j)) else (eW (aa O) a m).x0 ((j+1:Nat):Int) (cB (dW a (j+1))) (cB (fZ a (j+1)))
  have l1:(fZ a (j+1)).length≤800:=by simp [fZ];omega
  have l2:(dW a (j+1)).length≤800:=by simp [dW];omega
  have k5:∀ b,b=vQ a j→(eW (aa O) a (m+1)).x5 b (a.ai.at j) (j:Int) (cB (dW a j)) (cB (fZ a j))=bif vQ a j then some (ii 6) else bif !hasB a.aw (vG (a.ai.at j)) then some (ii 5) else (eW (aa O) a m).x0 ((j+1:Nat):Int) (cB (dW a (j+1))) (cB (fZ a (j+1))):=fun b hb=>by
   subst hb
   rw [eW]
   generalize eW (aa O) a m=X
   simp only [Cw,Nw,B9,hO,ho,aA hj2]
   cases hd:vQ a j with
   | true=>rfl
   | false=>
    rw [← T8,Bool.or_eq_false_iff] at hd
    simp only [cond_false,ZD hd.1,ZD hd.2,← GU,← BY,kJ l1,kJ l2]
  have k4:∀ b,(eW (aa O) a (m+2)).x4 b (a.ai.at j) (j:Int) (cB (dW a j)) (cB (fZ a j))=bif b then some (ii 1) else bif vQ a j then some (ii 6) else bif !hasB a.aw (vG (a.ai.at j)) then some (ii 5) else (eW (aa O) a m).x0 ((j+1:Nat):Int) (cB (dW a (j+1))) (cB (fZ a (j+1))):=fun b=>by
   rw [eW]
   generalize eW (aa O) a (m+1)=X at k5 ⊢
   generalize eW (aa O) a m=X' at k5 ⊢
   simp only [Cw,Qv,Nl]
   cases b with
   | true=>simp only [cond_true]
   | false=>
    simp only [cond_false]
    have hd:=T8 a j
    cases h1:(fZ a j).any (ah (a.ai.at j).eG) with
    | true=>
     obtain ⟨y,hy,hL⟩:=(Dy (ρ:=S) (a.ai.at j).eG (fZ a j)).2 h1
     rw [hL,hy]
     rw [h1] at hd
     exact k5 _ hd
    | false=>
     rw [(Dy (ρ:=S) (a.ai.at j).eG (fZ a j)).1 h1]
     rw [h1,Bool.false_or] at hd
     cases h2:(dW a j).any (ah (a.ai.at j).cu) with
     | true=>
      obtain ⟨y,hy,hL⟩:=(Dy (ρ:=S) (a.ai.at j).cu (dW a j)).2 h2
      rw [hL,hy]
      rw [h2] at hd
      exact k5 _ hd
     | false=>
      rw [(Dy (ρ:=S) (a.ai.at j).cu (dW a j)).1 h2]
      rw [h2] at hd
      exact k5 _ hd
  generalize hRdef:(bif vQ a j then some (ii 6) else bif !hasB a.aw (vG (a.ai.at j)) then some (ii 5) else (eW (aa O) a m).x0 ((j+1:Nat):Int) (cB (dW a (j+1))) (cB (fZ a (j+1))))=R at k4
  have k3:∀ b,(eW (aa O) a (m+3)).x3 b (a.ai.at j) (j:Int) (cB (dW a j)) (cB (fZ a j))=bif b || !within (a.ai.at j).fu 0 1099511627776 then some (ii 1) else R:=fun b=>by
   rw [eW]
   generalize eW (aa O) a (m+2)=X at k4 ⊢
   simp only [Cw,SE,TQ,hM,hx,k4]
   cases b<;>rfl
  have k2:∀ b,(eW (aa O) a (m+4)).x2 b (a.ai.at j) (j:Int) (cB (dW a j)) (cB (fZ a j))=bif b || (!bp (a.ai.at j).cX 3 || !within (a.ai.at j).fu 0 1099511627776) then some (ii 1) else R:=fun b=>by
   rw [eW]
   generalize eW (aa O) a (m+3)=X at k3 ⊢
   simp only [Cw,QB,RQ,k3,ez]
   cases b<;>rfl
  have k1:∀ b,(eW (aa O) a (m+5)).x1 b (a.ai.at j) (j:Int) (cB (dW a j)) (cB (fZ a j))=bif b || (!cT (a.ai.at j).cX 1 || (!bp (a.ai.at j).cX 3 || !within (a.ai.at j).fu 0 1099511627776)) then some (ii 1) else R:=fun b=>by
   rw [eW]
   generalize eW (aa O) a (m+4)=X at k2 ⊢
   simp only [Cw,Ow,Rb,k2,iB]
   cases b<;>rfl
  have hR:(bif !aR (j_ a j) 0 then some (ii (j_ a j)) else (eW (aa O) a m).x0 ((j+1:Nat):Int) (cB (dW a (j+1))) (cB (fZ a (j+1))))=bif !ph (a.ai.at j) then some (ii 1) else R:=by
   rw [← hRdef]
   unfold j_ bq aC
   cases ph (a.ai.at j)<;>cases vQ a j<;>cases hasB a.aw (vG (a.ai.at j))<;>rfl
  rw [hR]
  have hg:(!ph (a.ai.at j))=(decide (aM (a.ai.at j).eG=0) || (decide (aM (a.ai.at j).cu=0) || (!cT (a.ai.at j).cX 1 || (!bp (a.ai.at j).cX 3 || !within (a.ai.at j).fu 0 1099511627776)))):=by
   unfold ph
   generalize within (a.ai.at j).fu 0 1099511627776=w
   unfold within
   cases decide (aM (a.ai.at j).eG=0)<;>cases decide (aM (a.ai.at j).cu=0)<;>cases cT (a.ai.at j).cX 1<;>cases bp (a.ai.at j).cX 3<;>cases w<;>rfl
  rw [hg]
  rw [eW]
  generalize eW (aa O) a (m+5)=X at k1 ⊢
  simp only [Cw,Kw,O2,aq,av hj,aK,hj,decide_true,cond_true,dz,k1]
  cases decide (aM (a.ai.at j).eG=0)<;>rfl) (fun m=>by
  show (eW (aa O) a (m+6)).x0 (a.ai.n:Int) _ _=_
  rw [eW]
  generalize eW (aa O) a (m+5)=X
  simp only [Cw,Kw,aq,Nat.lt_irrefl,decide_false,cond_false])
 obtain ⟨n,h⟩:=key.get
 refine W30 a n _ ?_
 have f1:=kJ (l:=[]) (K:=(eW (aa O) a n).x0 0 [] []) (by decide)
 have f1:bL 900 [] ((eW (aa O) a n).x0 0 [] [])=(eW (aa O) a n).x0 0 [] []:=f1
 have f2:∀ K:Option S,bL 900 [] K=K:=fun K=>kJ (l:=[]) (K:=K) (by decide)
 simp only [FY,B9,f2]
 exact h
def rD (a:aP):Int:=bq (bg a.au.n (vT a)) (bq (bg a.ax.n (nM a)) (bg a.ai.n (j_ a)))
structure vL (a:aP):Prop where
 types:ga eQ a.aw
 qR:ga LV a.an
 Dv:ga ML a.aW
 jg:ga Cb a.ae
 commands:ga wT a.au
 Se:ga Rl a.ax
 insts:ga Ud a.ai
theorem c38 (a:aP) (ha:vL a):ca 38 [ag (bI a)] (ii (rD a)):=by
 have n1:=cF ha.commands.1
 have n2:=cF ha.Se.1
 have n3:=cF ha.insts.1
 have ht:=ha.types
 have hp:=cF ha.Dv.1
 have i3:Ev (fun m=>(cS (aa O) a m).x3 0) (ii (bg a.ai.n (j_ a))):=Ev.rq (X:=fun m j=>(cS (aa O) a m).x3 (j:Int)) a.ai.n (j_ a) (fun j hj=>by
  have hj2:j < 2 ^ 62:=by omega
  obtain ⟨o,ho,hO⟩:=TP a.aw (vG (a.ai.at j)) ht (ha.insts.2 j hj).off
  have hO:∀ (ρ:Type) (K:Y→Option ρ),yC (aa O) 77 [S.t (T.rows 7 a.aw.n fun i=>bk (a.aw.get i)),S.t (T.rows 3 1 fun i=>List.take 3 (List.drop (i.1*3) [ts (a.ai.at j).al,ts (a.ai.at j).aj,ts (a.ai.at j).ak]))] K=K o:=hO
  obtain ⟨x,hx,hM⟩:=aB (by kernel_rfl) (c31 (a.ai.at j).fu)
  have hle:j≤a.ai.n:=by omega
  have hsn:(a.ai.sub j hle).n=j:=nT
  have hto:ay (cK (j:Int))=(j:Int):=by unfold ay cK;simp
  obtain ⟨inT,inF⟩:=Ev.vO (X:=fun m i=>(cS (aa O) a m).x7 (a.ai.sub j hle) (a.ai.at j) (j:Int) (j:Int) (i:Int)) 1 j (fun i=>ah (a.ai.at j).eG (a.ai.at i).eG || ah (a.ai.at j).cu (a.ai.at i).cu) (ii 6) (fun m i hi=>by
   have hi':i < (a.ai.sub j hle).n:=by omega
   show (cS (aa O) a (m+1)).x7 (a.ai.sub j hle) (a.ai.at j) (j:Int) (j:Int) (i:Int)=_
   rw [cS,← BD (h:=hle) hi]
   generalize cS (aa O) a m=X
   simp only [qF,KY,DM,ek,hi,decide_true,cond_true,av hi',aK,aA (show i < 2 ^ 62 by omega)]
   cases ah (a.ai.at j).eG ((a.ai.sub j hle).at i).eG<;>rfl)
  have out:∀ m,(cS (aa O) a (m+1)).x7 (a.ai.sub j hle) (a.ai.at j) (j:Int) (j:Int) (j:Int)=bif !hasB a.aw (vG (a.ai.at j)) then some (ii 5) else (cS (aa O) a m).x3 ((j+1:Nat):Int):=fun m=>by
   rw [cS]
   generalize cS (aa O) a m=X
   simp only [qF,KY,DD,ek,Nat.lt_irrefl,decide_false,cond_false,hO,ho,aA hj2]
  have k6:∀ m b,(cS (aa O) a (m+1)).x6 b (a.ai.at j) (j:Int) (j:Int)=bif b || !within (a.ai.at j).fu 0 1099511627776 then some (ii 1) else (cS (aa O) a m).x7 (a.ai.sub j hle) (a.ai.at j) (j:Int) (j:Int) 0:=fun m b=>by
   rw [cS]
   generalize cS (aa O) a m=X
   simp only [qF,P6,DM,hM,hx,kC hle,cond_true,iU hle,hto]
   cases b<;>cases within (a.ai.at j).fu 0 1099511627776<;>rfl
  have k5:∀ m b,(cS (aa O) a (m+2)).x5 b (a.ai.at j) (j:Int) (j:Int)=bif b || (!bp (a.ai.at j).cX 3 || !within (a.ai.at j).fu 0 1099511627776) then some (ii 1) else (cS (aa O) a m).x7 (a.ai.sub j hle) (a.ai.at j) (j:Int) (j:Int) 0:=fun m b=>by
   have:=k6 m
   rw [cS]
   generalize cS (aa O) a (m+1)=X at this ⊢
   simp only [qF,NL,Pv,this,ez]
   cases b<;>rfl
  have k4:∀ m b,(cS (aa O) a (m+3)).x4 b (a.ai.at j) (j:Int) (j:Int)=bif b || (!cT (a.ai.at j).cX 1 || (!bp (a.ai.at j).cX 3 || !within (a.ai.at j).fu 0 1099511627776)) then some (ii 1) else (cS (aa O) a m).x7 (a.ai.sub j hle) (a.ai.at j) (j:Int) (j:Int) 0:=fun m b=>by
   have:=k5 m
   rw [cS]
   generalize cS (aa O) a (m+2)=X at this ⊢
   simp only [qF,Tt,RY,this,iB]
   cases b<;>rfl
  have hg:(!ph (a.ai.at j))=(decide (aM (a.ai.at j).eG=0) || (decide (aM (a.ai.at j).cu=0) || (!cT (a.ai.at j).cX 1 || (!bp (a.ai.at j).cX 3 || !within (a.ai.at j).fu 0 1099511627776)))):=by
   unfold ph
   generalize within (a.ai.at j).fu 0 1099511627776=w
   unfold within
   cases decide (aM (a.ai.at j).eG=0)<;>cases decide (aM (a.ai.at j).cu=0)<;>cases cT (a.ai.at j).cX 1<;>cases bp (a.ai.at j).cX 3<;>cases w<;>rfl
  have one:∀ m,(cS (aa O) a (m+4)).x3 (j:Int)=bif !ph (a.ai.at j) then some (ii 1) else (cS (aa O) a m).x7 (a.ai.sub j hle) (a.ai.at j) (j:Int) (j:Int) 0:=fun m=>by
   have:=k4 m
   rw [hg,cS]
   generalize cS (aa O) a (m+3)=X at this ⊢
   simp only [qF,J6,Nc,aq,av hj,aK,hj,decide_true,cond_true,dz,this]
   cases decide (aM (a.ai.at j).eG=0)<;>rfl
  unfold j_
  cases h1:ph (a.ai.at j) with
  | false=>exact ⟨fun _=>Ev.one 4 fun m=>by rw [one,h1];rfl,fun h=>absurd (show (1:Int)=0 from h) (by decide)⟩
  | true=>
   cases h2:vQ a j with
   | true=>exact ⟨fun _=>Ev.by 4 (fun m=>by rw [one,h1];rfl) (inT h2),fun h=>absurd (show (6:Int)=0 from h) (by decide)⟩
   | false=>
    cases h3:hasB a.aw (vG (a.ai.at j)) with
    | false=>exact ⟨fun _=>Ev.by 4 (fun m=>by rw [one,h1];rfl) (inF h2 _ (Ev.one 1 fun m=>by rw [out,h3];rfl)),fun h=>absurd (show (5:Int)=0 from h) (by decide)⟩
    | true=>exact ⟨fun h=>absurd rfl h,fun _ v hv=>Ev.by 4 (fun m=>by rw [one,h1];rfl) (inF h2 v (Ev.by 1 (fun m=>by rw [out,h3];rfl) hv))⟩) (Ev.one 1 fun m=>by
  show (cS (aa O) a (m+1)).x3 (a.ai.n:Int)=_
  rw [cS]
  generalize cS (aa O) a m=X
  simp only [qF,J6,aq,Nat.lt_irrefl,decide_false,cond_false])
 have i1:Ev (fun m=>(cS (aa O) a m).x1 0) (ii (bq (bg a.ax.n (nM a)) (bg a.ai.n (j_ a)))):=Ev.lO (X:=fun m j=>(cS (aa O) a m).x1 (j:Int)) 1 a.ax.n (nM a) _ (fun m j hj=>by
  have hj2:j < 2 ^ 62:=by omega
  obtain ⟨o,ho,hO⟩:=TP a.aw (l7 (a.ax.at j)) ht (ha.Se.2 j hj)
  have hO:∀ (ρ:Type) (K:Y→Option ρ),yC (aa O) 77 [S.t (T.rows 7 a.aw.n fun i=>bk (a.aw.get i)),S.t (T.rows 3 1 fun i=>List.take 3 (List.drop (i.1*3) [ts (a.ax.at j).al,ts (a.ax.at j).aj,ts (a.ax.at j).ak]))] K=K o:=hO
  obtain ⟨z,hz,hL⟩:=aB (by kernel_rfl) (c82 (l7 (a.ax.at (j - 1))) (l7 (a.ax.at j)))
  have hL:∀ (ρ:Type) (K:Y→Option ρ),yC (aa O) 82 [S.agg [ss (a.ax.at (j - 1)).al,ss (a.ax.at (j - 1)).aj,ss (a.ax.at (j - 1)).ak],S.agg [ss (a.ax.at j).al,ss (a.ax.at j).aj,ss (a.ax.at j).ak]] K=K z:=hL
  obtain ⟨x,hx,hM⟩:=aB (by kernel_rfl) (c31 (a.ax.at j).dT)
  show (cS (aa O) a (m+1)).x1 (j:Int)=_
  rw [cS]
  generalize cS (aa O) a m=X
  simp only [qF,Jv,C0,aq,av hj,aK,hj,decide_true,cond_true,hO,ho,hM,hx,mB,aA hj2]
  unfold nM
  by_cases h0:j=0
  ·simp only [h0,decide_true,Bool.not_true,cond_false,Bool.true_or]
   unfold bq aC
   cases hasB a.aw (l7 (a.ax.at 0))<;>cases within (a.ax.at 0).dT 0 1099511627776<;>rfl
  ·have hlt:j - 1 < a.ax.n:=by omega
   simp only [h0,decide_false,Bool.not_false,cond_true,Bool.false_or]
   rw [jT (show 0 < j by omega) hj2,av hlt]
   simp only [aK,hL,hz]
   unfold bq aC
   cases hasB a.aw (l7 (a.ax.at j))<;>cases sR (l7 (a.ax.at (j - 1))) (l7 (a.ax.at j))<;>cases within (a.ax.at j).dT 0 1099511627776<;>rfl) (Ev.by 1 (fun m=>by
  rw [cS]
  generalize cS (aa O) a m=X
  simp only [qF,Jv,DD,aq,Nat.lt_irrefl,decide_false,cond_false]) i3)
 have i0:Ev (fun m=>(cS (aa O) a m).x0 0) (ii (rD a)):=Ev.lO (X:=fun m j=>(cS (aa O) a m).x0 (j:Int)) 2 a.au.n (vT a) _ (fun m j hj=>by
  have hj2:j < 2 ^ 62:=by omega
  obtain ⟨y,hy,hK⟩:=aN (by kernel_rfl) (c81 (a.au.at j) (ha.commands.2 j hj))
  obtain ⟨z,hz,hL⟩:=c76 a (a.au.at j).bc hp
  obtain ⟨x,hx,hM⟩:=aB (by kernel_rfl) (c77 a.aw (a.au.at j).bh ht (ha.commands.2 j hj).opts)
  show (cS (aa O) a (m+2)).x0 (j:Int)=bif !aR (vT a j) 0 then some (ii (vT a j)) else (cS (aa O) a m).x0 ((j+1:Nat):Int)
  have h1:∀ b,(cS (aa O) a (m+1)).x2 (a.au.at j) b (j:Int)=bif b then some (ii 5) else bif !eY a.aw (a.au.at j).bh then some (ii 5) else (cS (aa O) a m).x0 ((j+1:Nat):Int):=fun b=>by
   rw [cS]
   generalize cS (aa O) a m=X
   simp only [qF,Qj,K7,aA hj2,hM,hx]
  rw [cS]
  generalize cS (aa O) a (m+1)=X at h1 ⊢
  generalize cS (aa O) a m=X' at h1 ⊢
  simp only [qF,KS,Rf,aq,av hj,aK,hj,decide_true,cond_true,hK,hy,hL,hz,dz,h1]
  unfold vT
  cases hc:aR (LS (a.au.at j)) 0 with
  | false=>rw [fk hc,hc];rfl
  | true=>
   rw [gp hc]
   unfold aC
   cases decide (aM (a.au.at j).bc=0)<;>cases jJ a (a.au.at j).bc<;>cases eY a.aw (a.au.at j).bh<;>rfl) (Ev.by 1 (fun m=>by
  rw [cS]
  generalize cS (aa O) a m=X
  simp only [qF,KS,C0,aq,Nat.lt_irrefl,decide_false,cond_false]) i1)
 obtain ⟨n,h⟩:=i0.get
 exact W38 a n _ h
def FA (a:aP):Bool:=within a.fA 0 1099511627776 && (within a.aX 0 1073741824 && (within a.aT 0 1073741824 && (within a.aQ 0 1073741824 && (within a.aO 0 1073741824 && within a.aG 0 1073741824))))
def Ma (a:aP):Bool:=decide (a.an.n≤24) && (decide (a.aW.n≤4) && (decide (a.ae.n≤16) && (decide (a.au.n≤1) && (decide (a.ax.n≤72) && (decide (a.ai.n≤64) && decide (a.eo.n≤32))))))
def gd (a:aP):Int:=bq (bg a.aW.n (rF a)) (bq (bg a.ae.n (eE a)) (bq (bg a.an.n (oX a)) (rD a)))
def fH (a:aP):Int:=bq (aC (FA a) 1) (bq (dX a.aw) (bq (aC (Ma a) 3) (gd a)))
theorem h_ {n:Nat} (k:Nat):bl (ay n) (k:Int)=!decide (n≤k):=by
 rw [dO]
 by_cases h:n≤k<;>simp [h]<;>omega
theorem c10 (a:aP) (ha:vL a):ca 10 [ag (bI a)] (ii (fH a)):=by
 have n1:=cF ha.Dv.1
 have n2:=cF ha.qR.1
 have nc:=cF ha.jg.1
 obtain ⟨rs,hrs,hRS⟩:=aN (by kernel_rfl) (c38 a ha)
 have i10:Ev (fun m=>(cW (aa O) a m).M4 0) (ii (bq (bg a.an.n (oX a)) (rD a))):=Ev.lO (X:=fun m j=>(cW (aa O) a m).M4 (j:Int)) 1 a.an.n (oX a) _ (fun m j hj=>by
  have hj2:j < 2 ^ 62:=by omega
  obtain ⟨y,hy,hK⟩:=aN (by kernel_rfl) (c36 (a.an.at j) (ha.qR.2 j hj))
  obtain ⟨z,hz,hL⟩:=c37 a (a.an.at j).jI nc
  show (cW (aa O) a (m+1)).M4 (j:Int)=_
  rw [cW]
  generalize cW (aa O) a m=X
  simp only [pX,yA,sY,aq,av hj,aK,hj,decide_true,cond_true,hK,hy,hL,hz,dz,mB,aA hj2]
  simp only [ez]
  unfold oX pf
  cases hc:aR (BW (a.an.at j)) 0 with
  | false=>rw [fk hc,hc];rfl
  | true=>
   rw [gp hc]
   simp only [Bool.not_true,cond_false]
   by_cases h0:j=0
   ·simp only [h0,decide_true,Bool.not_true,cond_false,Bool.true_or]
    unfold bq aC
    cases decide (aM (a.an.at 0).jI=0)<;>cases j2 a (a.an.at 0).jI<;>cases bp (a.an.at 0).df a.fA<;>rfl
   ·have hlt:j - 1 < a.an.n:=by omega
    simp only [h0,decide_false,Bool.not_false,cond_true,Bool.false_or]
    rw [jT (show 0 < j by omega) hj2,av hlt]
    simp only [aK]
    have e:strLt (rU a (j - 1)) (rU a j)=strLt (a.an.at (j - 1)).af (a.an.at j).af:=rfl
    rw [e]
    unfold bq aC
    cases strLt (a.an.at (j - 1)).af (a.an.at j).af<;>cases decide (aM (a.an.at j).jI=0)<;>cases j2 a (a.an.at j).jI<;>cases bp (a.an.at j).df a.fA<;>rfl) (Ev.one 1 fun m=>by
  show (cW (aa O) a (m+1)).M4 (a.an.n:Int)=_
  rw [cW]
  generalize cW (aa O) a m=X
  simp only [pX,yA,aq,Nat.lt_irrefl,decide_false,cond_false,hRS,hrs])
 obtain ⟨cl,hcl,hCL⟩:=aN (by kernel_rfl) (c35 a ha.jg n1 ha.types)
 have ic:Ev (fun m=>bif !aR (bg a.ae.n (eE a)) 0 then some (ii (bg a.ae.n (eE a))) else (cW (aa O) a m).M4 0) (ii (bq (bg a.ae.n (eE a)) (bq (bg a.an.n (oX a)) (rD a)))):=by
  unfold bq
  cases hc:aR (bg a.ae.n (eE a)) 0 with
  | false=>exact Ev.const _
  | true=>exact i10
 have i9:Ev (fun m=>(cW (aa O) a m).x9 0) (ii (gd a)):=Ev.lO (X:=fun m j=>(cW (aa O) a m).x9 (j:Int)) 1 a.aW.n (rF a) _ (fun m j hj=>by
  have hj2:j < 2 ^ 62:=by omega
  obtain ⟨y,hy,hK⟩:=aN (by kernel_rfl) (c34 (a.aW.at j) (ha.Dv.2 j hj))
  show (cW (aa O) a (m+1)).x9 (j:Int)=_
  rw [cW]
  generalize cW (aa O) a m=X
  simp only [pX,KQ,Cq,aq,av hj,aK,hj,decide_true,cond_true,hK,hy,mB,aA hj2]
  unfold rF pf
  cases hc:aR (rM (a.aW.at j)) 0 with
  | false=>rw [fk hc,hc];rfl
  | true=>
   rw [gp hc]
   simp only [Bool.not_true,cond_false]
   by_cases h0:j=0
   ·simp only [h0,decide_true,Bool.not_true,cond_false,Bool.true_or]
    rfl
   ·have hlt:j - 1 < a.aW.n:=by omega
    simp only [h0,decide_false,Bool.not_false,cond_true,Bool.false_or]
    rw [jT (show 0 < j by omega) hj2,av hlt]
    simp only [aK]
    have e:strLt (lU a (j - 1)) (lU a j)=strLt (a.aW.at (j - 1)).af (a.aW.at j).af:=rfl
    rw [e]
    cases strLt (a.aW.at (j - 1)).af (a.aW.at j).af<;>rfl) (Ev.by 1 (fun m=>by
  rw [cW]
  generalize cW (aa O) a m=X
  simp only [pX,KQ,sY,aq,Nat.lt_irrefl,decide_false,cond_false,hCL,hcl]) ic)
 obtain ⟨n,h9⟩:=i9.get
 have g24:bl (ay a.an.n) 24=!decide (a.an.n≤24):=h_ 24
 have g4:bl (ay a.aW.n) 4=!decide (a.aW.n≤4):=h_ 4
 have g16:bl (ay a.ae.n) 16=!decide (a.ae.n≤16):=h_ 16
 have g1:bl (ay a.au.n) 1=!decide (a.au.n≤1):=h_ 1
 have g72:bl (ay a.ax.n) 72=!decide (a.ax.n≤72):=h_ 72
 have g64:bl (ay a.ai.n) 64=!decide (a.ai.n≤64):=h_ 64
 have g32:bl (ay a.eo.n) 32=!decide (a.eo.n≤32):=h_ 32
 have w3:∀ (b:Bool) r,(bif b then some (ii 3) else some (ii r))=some (ii (bq (aC (!b) 3) r)):=fun b r=>by cases b<;>rfl
 have k8:∀ b,(cW (aa O) a (n+1)).x8 b=some (ii (bq (aC (!b && decide (a.eo.n≤32)) 3) (gd a))):=fun b=>by
  rw [cW]
  generalize cW (aa O) a n=X at h9 ⊢
  simp only [pX,Qx,Cq,g32,h9]
  cases b<;>cases decide (a.eo.n≤32)<;>rfl
 have k7:∀ b,(cW (aa O) a (n+2)).x7 b=some (ii (bq (aC (!b && (decide (a.ai.n≤64) && decide (a.eo.n≤32))) 3) (gd a))):=fun b=>by
  rw [cW]
  generalize cW (aa O) a (n+1)=X at k8 ⊢
  simp only [pX,NT,Pr,g64,k8,Bool.not_not]
  cases b<;>rfl
 have k6:∀ b,(cW (aa O) a (n+3)).x6 b=some (ii (bq (aC (!b && (decide (a.ax.n≤72) && (decide (a.ai.n≤64) && decide (a.eo.n≤32)))) 3) (gd a))):=fun b=>by
  rw [cW]
  generalize cW (aa O) a (n+2)=X at k7 ⊢
  simp only [pX,RE,PM,g72,k7,Bool.not_not]
  cases b<;>rfl
 have k5:∀ b,(cW (aa O) a (n+4)).x5 b=some (ii (bq (aC (!b && (decide (a.au.n≤1) && (decide (a.ax.n≤72) && (decide (a.ai.n≤64) && decide (a.eo.n≤32))))) 3) (gd a))):=fun b=>by
  rw [cW]
  generalize cW (aa O) a (n+3)=X at k6 ⊢
  simp only [pX,Ou,P_,g1,k6,Bool.not_not]
  cases b<;>rfl
 have k4:∀ b,(cW (aa O) a (n+5)).x4 b=some (ii (bq (aC (!b && (decide (a.ae.n≤16) && (decide (a.au.n≤1) && (decide (a.ax.n≤72) && (decide (a.ai.n≤64) && decide (a.eo.n≤32)))))) 3) (gd a))):=fun b=>by
  rw [cW]
  generalize cW (aa O) a (n+4)=X at k5 ⊢
  simp only [pX,QV,TB,g16,k5,Bool.not_not]
  cases b<;>rfl
 obtain ⟨t0,ht0,hT0⟩:=aB (by kernel_rfl) (c31 a.fA)
 obtain ⟨t1,ht1,hT1⟩:=aB (by kernel_rfl) (c32 a.aX)
 obtain ⟨t2,ht2,hT2⟩:=aB (by kernel_rfl) (c32 a.aT)
 obtain ⟨t3,ht3,hT3⟩:=aB (by kernel_rfl) (c32 a.aQ)
 obtain ⟨t4,ht4,hT4⟩:=aB (by kernel_rfl) (c32 a.aO)
 obtain ⟨t5,ht5,hT5⟩:=aB (by kernel_rfl) (c32 a.aG)
 obtain ⟨ty,hty,hTY⟩:=aN (by kernel_rfl) (c33 a.aw ha.types)
 generalize hR:bq (dX a.aw) (bq (aC (Ma a) 3) (gd a))=R
 have k3:∀ b,(cW (aa O) a (n+6)).x3 b=some (ii (bq (aC (!b && within a.aG 0 1073741824) 1) R)):=fun b=>by
  rw [cW]
  generalize cW (aa O) a (n+5)=X at k4 ⊢
  simp only [pX,T1,SL,g24,g4,k4,hT5,ht5,hTY,hty,Bool.not_not]
  rw [← hR]
  unfold Ma
  cases b with
  | true=>rfl
  | false=>
   cases within a.aG 0 1073741824 with
   | false=>rfl
   | true=>
    simp only [cond_false,Bool.not_true]
    cases hc:aR (dX a.aw) 0 with
    | false=>rw [fk hc];rfl
    | true=>
     rw [gp hc]
     cases decide (a.an.n≤24)<;>rfl
 have k2:∀ b,(cW (aa O) a (n+7)).x2 b=some (ii (bq (aC (!b && (within a.aO 0 1073741824 && within a.aG 0 1073741824)) 1) R)):=fun b=>by
  rw [cW]
  generalize cW (aa O) a (n+6)=X at k3 ⊢
  simp only [pX,Pd,RG,k3,hT4,ht4,Bool.not_not]
  cases b<;>rfl
 have k1:∀ b,(cW (aa O) a (n+8)).x1 b=some (ii (bq (aC (!b && (within a.aQ 0 1073741824 && (within a.aO 0 1073741824 && within a.aG 0 1073741824))) 1) R)):=fun b=>by
  rw [cW]
  generalize cW (aa O) a (n+7)=X at k2 ⊢
  simp only [pX,Q8,N6,k2,hT3,ht3,Bool.not_not]
  cases b<;>rfl
 have k0:∀ b,(cW (aa O) a (n+9)).x0 b=some (ii (bq (aC (!b && (within a.aT 0 1073741824 && (within a.aQ 0 1073741824 && (within a.aO 0 1073741824 && within a.aG 0 1073741824)))) 1) R)):=fun b=>by
  rw [cW]
  generalize cW (aa O) a (n+8)=X at k1 ⊢
  simp only [pX,Qw,Ph,k1,hT2,ht2,Bool.not_not]
  cases b<;>rfl
 refine W10 a (n+9) _ ?_
 generalize cW (aa O) a (n+9)=X at k0 ⊢
 simp only [EX,RH,k0,hT0,ht0,hT1,ht1,Bool.not_not]
 unfold fH FA
 rw [hR]
 cases within a.fA 0 1099511627776<;>rfl
theorem c9 (a:aP) (ha:vL a):ca 9 [ag (bI a)] (ii (fH a)):=by
 have n1:=cF ha.Dv.1
 have nc:=cF ha.jg.1
 have nk:=cF ha.Se.1
 obtain ⟨p,hp,hP⟩:=aN (by kernel_rfl) (c25 a ha.Dv)
 obtain ⟨c,hc,hC⟩:=aN (by kernel_rfl) (c26 a ha.jg n1 ha.types)
 obtain ⟨d,hd,hD⟩:=aN (by kernel_rfl) (c27 a ha.qR nc)
 obtain ⟨e,he,hE⟩:=aN (by kernel_rfl) (c28 a ha.commands n1 ha.types)
 obtain ⟨f,hf,hF⟩:=aN (by kernel_rfl) (c29 a nk ha.types)
 generalize hn:(0:Nat)=n
 have h9:a.ai.n≤64→(fL (aa O) a (n+7)).x9=some (ii (gd a)):=fun hi=>by
  obtain ⟨g,hg,hG⟩:=aN (by kernel_rfl) (c30 a hi ha.types)
  have x15:(fL (aa O) a (n+1)).x15=some (ii 0):=by
   rw [fL]
   generalize fL (aa O) a n=X
   simp only [A8,M9]
  have x14:(fL (aa O) a (n+2)).x14=some (ii (bq (bg a.ai.n (j_ a)) 0)):=by
   rw [fL]
   generalize fL (aa O) a (n+1)=X at x15 ⊢
   simp only [A8,Pl,N3,x15,hG,hg,or_some]
  have x13:(fL (aa O) a (n+3)).x13=some (ii (bq (bg a.ax.n (nM a)) (bq (bg a.ai.n (j_ a)) 0))):=by
   rw [fL]
   generalize fL (aa O) a (n+2)=X at x14 ⊢
   simp only [A8,T7,OD,x14,hF,hf,or_some]
  have x12:(fL (aa O) a (n+4)).x12=some (ii (rD a)):=by
   rw [fL]
   generalize fL (aa O) a (n+3)=X at x13 ⊢
   simp only [A8,Sr,SZ,x13,hE,he,or_some,Ck]
   rfl
  have x11:(fL (aa O) a (n+5)).x11=some (ii (bq (bg a.an.n (oX a)) (rD a))):=by
   rw [fL]
   generalize fL (aa O) a (n+4)=X at x12 ⊢
   simp only [A8,S3,Tm,x12,hD,hd,or_some]
  have M4:(fL (aa O) a (n+6)).M4=some (ii (bq (bg a.ae.n (eE a)) (bq (bg a.an.n (oX a)) (rD a)))):=by
   rw [fL]
   generalize fL (aa O) a (n+5)=X at x11 ⊢
   simp only [A8,QC,Sa,x11,hC,hc,or_some]
  rw [fL]
  generalize fL (aa O) a (n+6)=X at M4 ⊢
  simp only [A8,aco,Nt,M4,hP,hp,or_some]
  rfl
 have g24:bl (ay a.an.n) 24=!decide (a.an.n≤24):=h_ 24
 have g4:bl (ay a.aW.n) 4=!decide (a.aW.n≤4):=h_ 4
 have g16:bl (ay a.ae.n) 16=!decide (a.ae.n≤16):=h_ 16
 have g1:bl (ay a.au.n) 1=!decide (a.au.n≤1):=h_ 1
 have g72:bl (ay a.ax.n) 72=!decide (a.ax.n≤72):=h_ 72
 have g64:bl (ay a.ai.n) 64=!decide (a.ai.n≤64):=h_ 64
 have g32:bl (ay a.eo.n) 32=!decide (a.eo.n≤32):=h_ 32
 have w3:∀ (b:Bool) r,(bif b then some (ii 3) else some (ii r))=some (ii (bq (aC (!b) 3) r)):=fun b r=>by cases b<;>rfl
 have k8:∀ b,(b=false→a.ai.n≤64)→(fL (aa O) a (n+8)).x8 b=some (ii (bq (aC (!b && decide (a.eo.n≤32)) 3) (gd a))):=fun b hb=>by
  cases b with
  | true=>
   rw [fL]
   generalize fL (aa O) a (n+7)=X
   simp only [A8,WR]
   rfl
  | false=>
   have:=h9 (hb rfl)
   rw [fL]
   generalize fL (aa O) a (n+7)=X at this ⊢
   simp only [A8,WR,aat,g32,this]
   cases decide (a.eo.n≤32)<;>rfl
 have k7:∀ b,(fL (aa O) a (n+9)).x7 b=some (ii (bq (aC (!b && (decide (a.ai.n≤64) && decide (a.eo.n≤32))) 3) (gd a))):=fun b=>by
  cases b with
  | true=>
   have:=k8 true (fun h=>by cases h)
   rw [fL]
   generalize fL (aa O) a (n+8)=X at this ⊢
   simp only [A8,Uu,UR,cond_true]
   exact this
  | false=>
   have:=k8 (!decide (a.ai.n≤64)) (fun h=>by simpa using h)
   rw [fL]
   generalize fL (aa O) a (n+8)=X at this ⊢
   simp only [A8,Uu,UR,cond_false,g64]
   rw [Bool.not_not] at this
   exact this
 have k6:∀ b,(fL (aa O) a (n+10)).x6 b=some (ii (bq (aC (!b && (decide (a.ax.n≤72) && (decide (a.ai.n≤64) && decide (a.eo.n≤32)))) 3) (gd a))):=fun b=>by
  rw [fL]
  generalize fL (aa O) a (n+9)=X at k7 ⊢
  simp only [A8,aa7,acT,g72,k7,Bool.not_not]
  cases b<;>rfl
 have k5:∀ b,(fL (aa O) a (n+11)).x5 b=some (ii (bq (aC (!b && (decide (a.au.n≤1) && (decide (a.ax.n≤72) && (decide (a.ai.n≤64) && decide (a.eo.n≤32))))) 3) (gd a))):=fun b=>by
  rw [fL]
  generalize fL (aa O) a (n+10)=X at k6 ⊢
  simp only [A8,aag,acq,g1,k6,Bool.not_not]
  cases b<;>rfl
 have k4:∀ b,(fL (aa O) a (n+12)).x4 b=some (ii (bq (aC (!b && (decide (a.ae.n≤16) && (decide (a.au.n≤1) && (decide (a.ax.n≤72) && (decide (a.ai.n≤64) && decide (a.eo.n≤32)))))) 3) (gd a))):=fun b=>by
  rw [fL]
  generalize fL (aa O) a (n+11)=X at k5 ⊢
  simp only [A8,Y5,abD,g16,k5,Bool.not_not]
  cases b<;>rfl
 obtain ⟨t0,ht0,hT0⟩:=aB (by kernel_rfl) (c22 a.fA)
 obtain ⟨t1,ht1,hT1⟩:=aB (by kernel_rfl) (c23 a.aX)
 obtain ⟨t2,ht2,hT2⟩:=aB (by kernel_rfl) (c23 a.aT)
 obtain ⟨t3,ht3,hT3⟩:=aB (by kernel_rfl) (c23 a.aQ)
 obtain ⟨t4,ht4,hT4⟩:=aB (by kernel_rfl) (c23 a.aO)
 obtain ⟨t5,ht5,hT5⟩:=aB (by kernel_rfl) (c23 a.aG)
 obtain ⟨ty,hty,hTY⟩:=aN (by kernel_rfl) (c24 a.aw ha.types)
 generalize hR:bq (dX a.aw) (bq (aC (Ma a) 3) (gd a))=R
 have k3:∀ b,(fL (aa O) a (n+13)).x3 b=some (ii (bq (aC (!b && within a.aG 0 1073741824) 1) R)):=fun b=>by
  rw [fL]
  generalize fL (aa O) a (n+12)=X at k4 ⊢
  simp only [A8,acu,abd,g24,g4,k4,hT5,ht5,hTY,hty,Bool.not_not]
  rw [← hR]
  unfold Ma
  cases b with
  | true=>rfl
  | false=>
   cases within a.aG 0 1073741824 with
   | false=>rfl
   | true=>
    simp only [cond_false,Bool.not_true]
    cases hc:aR (dX a.aw) 0 with
    | false=>rw [fk hc];rfl
    | true=>
     rw [gp hc]
     cases decide (a.an.n≤24)<;>rfl
 have k2:∀ b,(fL (aa O) a (n+14)).x2 b=some (ii (bq (aC (!b && (within a.aO 0 1073741824 && within a.aG 0 1073741824)) 1) R)):=fun b=>by
  rw [fL]
  generalize fL (aa O) a (n+13)=X at k3 ⊢
  simp only [A8,ab5,YI,k3,hT4,ht4,Bool.not_not]
  cases b<;>rfl
 have k1:∀ b,(fL (aa O) a (n+15)).x1 b=some (ii (bq (aC (!b && (within a.aQ 0 1073741824 && (within a.aO 0 1073741824 && within a.aG 0 1073741824))) 1) R)):=fun b=>by
  rw [fL]
  generalize fL (aa O) a (n+14)=X at k2 ⊢
  simp only [A8,Zs,acj,k2,hT3,ht3,Bool.not_not]
  cases b<;>rfl
 have k0:∀ b,(fL (aa O) a (n+16)).x0 b=some (ii (bq (aC (!b && (within a.aT 0 1073741824 && (within a.aQ 0 1073741824 && (within a.aO 0 1073741824 && within a.aG 0 1073741824)))) 1) R)):=fun b=>by
  rw [fL]
  generalize fL (aa O) a (n+15)=X at k1 ⊢
  simp only [A8,acb,aaN,k1,hT2,ht2,Bool.not_not]
  cases b<;>rfl
 refine W9 a (n+16) _ ?_
 generalize fL (aa O) a (n+16)=X at k0 ⊢
 simp only [RI,abx,k0,hT0,ht0,hT1,ht1,Bool.not_not]
 unfold fH FA
 rw [hR]
 cases within a.fA 0 1099511627776<;>rfl
set_option maxRecDepth 100000 in
theorem acZ:(dR O 60).aE 8 []=some (bb true):=by kernel_rfl
theorem c8:ca 8 [] (bb true):=aiX acZ
end
end Go.Proofs.YtonkoellfaopiaaGreatDoor.H
