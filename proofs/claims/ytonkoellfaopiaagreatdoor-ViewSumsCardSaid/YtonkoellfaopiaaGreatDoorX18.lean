import Derived.Test.YtonkoellfaopiaaGreatDoorX17
import Derived.Test.YtonkoellfaopiaaGreatDoorX15
set_option linter.unusedSimpArgs false
set_option linter.unusedVariables false
namespace Go.Proofs.YtonkoellfaopiaaGreatDoor.H
open Go
noncomputable section
structure Ok33 (a:D33):Prop where
 types:typesV a.fTypes=0
 pods:a.fPods.n≤24
 claims:a.fClaims.n≤16
 claim:∀ j,j < a.fClaims.n→claimE a j=0
 pod:∀ j,j < a.fPods.n→podE a j=0
theorem ok33 {a:D33} (h:checkV a=0):Ok33 a:=by
 unfold checkV partsV at h
 simp only [orE_eq_zero,firstE_eq_zero] at h
 obtain ⟨_,h1,h2,_,h3,h4,_⟩:=h
 have h2:=(wantE_eq_zero (by decide)).1 h2
 unfold fewB at h2
 simp only [Bool.and_eq_true,decide_eq_true_eq] at h2
 exact ⟨h1,h2.1,h2.2.2.1,h3,h4⟩
theorem chk_zero {x:Int} (h:chk x=0):0≤x∧x≤1125899906842624:=by
 unfold chk at h
 cases h1:ltI x 0 with
 | true=>rw [h1] at h;exact absurd (show (11:Int)=0 from h) (by decide)
 | false=>
  rw [h1,cond_false] at h
  cases h2:gtI x 1125899906842624 with
  | true=>rw [h2] at h;exact absurd (show (10:Int)=0 from h) (by decide)
  | false=>
   have:=of_decide_eq_false h1
   have:=of_decide_eq_false h2
   omega
theorem chk2_zero {x z:Int} (h:chk2 x z=0):(0≤x∧x≤1125899906842624)∧0≤z∧z≤1125899906842624:=by
 unfold chk2 at h
 cases h1:eqI (chk x) 0 with
 | true=>
  rw [h1] at h
  exact ⟨chk_zero (eqI_true.1 h1),chk_zero (show chk z=0 from h)⟩
 | false=>
  rw [h1] at h
  have:=eqI_false.1 h1
  exact absurd (show chk x=0 from h) this
theorem Ok33.need {a:D33} (h:Ok33 a) {j:Nat} (hj:j < a.fPods.n):(0≤(a.fPods.at j).fNeed_0∧(a.fPods.at j).fNeed_0≤1125899906842624)∧0≤(a.fPods.at j).fNeed_1∧(a.fPods.at j).fNeed_1≤1125899906842624:=by
 have:=h.pod j hj
 unfold podE at this
 have:=(orE_eq_zero.1 this).1
 unfold podV at this
 simp only [orE_eq_zero] at this
 exact chk2_zero this.2.1
theorem Ok33.cap {a:D33} (h:Ok33 a) {j:Nat} (hj:j < a.fClaims.n):(0≤(a.fClaims.at j).fCap_0∧(a.fClaims.at j).fCap_0≤1125899906842624)∧0≤(a.fClaims.at j).fCap_1∧(a.fClaims.at j).fCap_1≤1125899906842624:=by
 have:=h.claim j hj
 unfold claimE at this
 have:=(orE_eq_zero.1 this).1
 unfold claimV at this
 simp only [orE_eq_zero] at this
 exact chk2_zero this.2.2.1
theorem Ok33.has {a:D33} (h:Ok33 a) {j:Nat} (hj:j < a.fClaims.n):hasB a.fTypes (offC (a.fClaims.at j))=true:=by
 have:=h.claim j hj
 unfold claimE at this
 simp only [orE_eq_zero] at this
 have:=(wantE_eq_zero (by decide)).1 this.2.2.1
 simp only [Bool.and_eq_true] at this
 exact this.2.1
theorem Ok33.opts {a:D33} (h:Ok33 a) {j:Nat} (hj:j < a.fClaims.n):(a.fClaims.at j).fOpts.n≤72:=by
 have:=h.claim j hj
 unfold claimE at this
 have:=(orE_eq_zero.1 this).1
 unfold claimV at this
 simp only [orE_eq_zero] at this
 have:=this.2.2.2.1
 unfold offersV at this
 cases hm:decide (72 < (a.fClaims.at j).fOpts.n) with
 | true=>rw [hm] at this;exact absurd (show (3:Int)=0 from this) (by decide)
 | false=>have:=of_decide_eq_false hm;omega
theorem rw0_ext {n n':Nat} {g:Fin n→List T} {g':Fin n'→List T} (h:n=n') (hg:∀ (i:Nat) (h1:i < n) (h2:i < n'),g ⟨i,h1⟩=g' ⟨i,h2⟩):(⟨n,g⟩:Rw0)=⟨n',g'⟩:=by
 subst h
 congr 1
 funext i
 exact hg i.1 i.2 i.2
theorem rw0_of {sz n:Nat} {g:Fin n→List T} {r:Rw0} (h:S.t (.rows sz r.n r.g)=S.t (.rows sz n g)):r=⟨n,g⟩:=by
 obtain ⟨m,g'⟩:=r
 simp only [S.t.injEq,T.rows.injEq,true_and] at h
 obtain ⟨rfl,h⟩:=h
 obtain rfl:=eq_of_heq h
 rfl
def rowS (l:List ByteArray):Rw0:=⟨l.length,fun i=>[ts (l[i.1]'i.2)]⟩
theorem rowS_nil:(⟨0,nil0⟩:Rw0)=rowS []:=rw0_ext rfl fun i h=>by cases h
theorem app_one {k:Nat} {c:List T} (hc:c.length=k) (i:Fin 1):List.take k (List.drop (i.1*k) c)=c:=by
 have:i.1=0:=by omega
 rw [this,Nat.zero_mul,List.drop_zero,List.take_of_length_le (by omega)]
theorem appGet_lt {n m:Nat} {g:Fin n→List T} {g':Fin m→List T} {i:Nat} (h:i < n+m) (h1:i < n):appGet g g' ⟨i,h⟩=g ⟨i,h1⟩:=dif_pos h1
theorem appGet_last {n k:Nat} {g:Fin n→List T} {c:List T} (hc:c.length=k) {i:Nat} (h:i < n+1) (hi:¬ i < n):appGet g (fun i:Fin 1=>List.take k (List.drop (i.1*k) c)) ⟨i,h⟩=c:=by
 unfold appGet
 rw [dif_neg hi]
 exact app_one hc ⟨i - n,by omega⟩
theorem rowS_app (l:List ByteArray) (x:ByteArray):(⟨addN (rowS l).n 1,appGet (rowS l).g fun i:Fin 1=>List.take 1 (List.drop (i.1*1) [ts x])⟩:Rw0)=rowS (l++[x]):=by
 refine rw0_ext (by unfold rowS addN;simp) fun i h1 h2=>?_
 have h3:i < (l++[x]).length:=h2
 by_cases h:i < l.length
 ·refine (appGet_lt (m:=1) h1 h).trans ?_
  show [ts l[i]]=[ts ((l++[x])[i]'h3)]
  rw [List.getElem_append_left h]
 ·refine (appGet_last (g:=(rowS l).g) (k:=1) (c:=[ts x]) rfl h1 h).trans ?_
  have hi:i=l.length:=by rw [List.length_append] at h3;simp at h3;omega
  subst hi
  show [ts x]=[ts ((l++[x])[l.length]'h3)]
  rw [List.getElem_append_right (Nat.le_refl _)]
  simp
theorem rowS_one (x:ByteArray):(⟨addN 0 1,appGet nil0 fun i:Fin 1=>List.take 1 (List.drop (i.1*1) [ts x])⟩:Rw0)=rowS [x]:=by
 refine rw0_ext rfl fun i h1 h2=>?_
 refine (appGet_last (g:=nil0) (k:=1) (c:=[ts x]) rfl h1 (Nat.not_lt_zero _)).trans ?_
 have:i=0:=by have:i < 0+1:=h1;omega
 subst this
 rfl
theorem ltI_ofN {j n:Nat}:ltI (ofN j) (ofN n)=decide (j < n):=ltI_nat
theorem elemO_ofN {ρ:Type} {j n:Nat} {K:(ofN j).toNat < n→Option ρ} (h:j < n):elemO (ofN j) n K=K (by simpa [ofN] using h):=elemO_nat h
theorem get_ofN {α:Type} [Inhabited α] {a:Rw α} {j:Nat} {h:(ofN j).toNat < a.n}:a.get (Fin.mk (ofN j).toNat h)=a.at j:=get_nat
theorem bmax0 (v k:Int):(Bool.rec (motive:=fun _=>Int) v k (decide (k > v)):Int)=max v k:=by
 by_cases h:k > v
 ·rw [show decide (k > v)=true from decide_eq_true h];show k=max v k;omega
 ·rw [show decide (k > v)=false from decide_eq_false h];show v=max v k;omega
theorem bmin0 (v k:Int):(Bool.rec (motive:=fun _=>Int) v k (decide (k < v)):Int)=min v k:=by
 by_cases h:k < v
 ·rw [show decide (k < v)=true from decide_eq_true h];show k=min v k;omega
 ·rw [show decide (k < v)=false from decide_eq_false h];show v=min v k;omega
theorem fits_small {n b:Nat} (h:n*b≤1000000) (hn:n≤1000000):fitsR n b=true:=by
 unfold fitsR roomMax
 rw [Bool.and_eq_true,Nat.ble_eq,Nat.ble_eq]
 omega
def onB (a:D33) (nm:ByteArray) (m:Nat):Bool:=strEq (a.fPods.at m).fOn nm
def needP (k:Nat) (p:D61):Int:=match k with | 0=>p.fNeed_0 | _=>p.fNeed_1
def usedTo (a:D33) (nm:ByteArray) (k:Nat):Nat→Int
 | 0=>0
 | m+1=>bif onB a nm m then min 1125899906842624 (usedTo a nm k m+needP k (a.fPods.at m)) else usedTo a nm k m
def podsTo (a:D33) (nm:ByteArray):Nat→List ByteArray
 | 0=>[]
 | m+1=>bif onB a nm m then podsTo a nm m++[(a.fPods.at m).fName] else podsTo a nm m
theorem podsTo_len (a:D33) (nm:ByteArray):∀ m,(podsTo a nm m).length≤m
 | 0=>Nat.le_refl 0
 | m+1=>by
  have:=podsTo_len a nm m
  unfold podsTo
  cases onB a nm m with
  | true=>rw [cond_true,List.length_append];simp;omega
  | false=>rw [cond_false];omega
theorem usedTo_range {a:D33} (h:Ok33 a) (nm:ByteArray) (k:Nat):∀ m,m≤a.fPods.n→0≤usedTo a nm k m∧usedTo a nm k m≤1125899906842624
 | 0,_=>⟨Int.le_refl 0,show (0:Int)≤1125899906842624 by decide⟩
 | m+1,hm=>by
  have ih:=usedTo_range h nm k m (by omega)
  have hn:=h.need (j:=m) (by omega)
  have hk:0≤needP k (a.fPods.at m)∧needP k (a.fPods.at m)≤1125899906842624:=by
   unfold needP
   split
   ·exact hn.1
   ·exact hn.2
  unfold usedTo
  cases onB a nm m with
  | true=>rw [cond_true];omega
  | false=>rw [cond_false];exact ih
def labR (l:List (ByteArray × ByteArray)):Rw D88:=⟨l.length,fun i=>⟨(l[i.1]'i.2).1,(l[i.1]'i.2).2⟩⟩
def usedN (a:D33) (nm:ByteArray) (k:Nat):Int:=usedTo a nm k a.fPods.n
def podsN (a:D33) (nm:ByteArray):List ByteArray:=podsTo a nm a.fPods.n
def nodeC (a:D33) (c:D52):D55:=⟨c.fName,c.fPool,c.fGen,c.fOffer_Type,c.fOffer_Zone,c.fOffer_Kind,c.fPrice,c.fCap_0,c.fCap_1,c.fOpts,c.fTry,c.fId,c.fPhase,c.fBorn,c.fMarked,labR (labsV a.fTypes (offC c) c.fPool c.fName),usedN a c.fName 0,usedN a c.fName 1,max 0 (c.fCap_0 - usedN a c.fName 0),max 0 (c.fCap_1 - usedN a c.fName 1),rwL (podsN a c.fName)⟩
def nodeV (a:D33) (j:Nat):D55:=nodeC a (a.fClaims.at j)
def nodesR (a:D33):Rw D55:=⟨a.fClaims.n,fun i=>nodeV a i.1⟩
def rowJ (a:D33) (m:Nat):Rw0:=⟨m,fun i=>e55 (nodeV a i.1)⟩
theorem rowJ_app (a:D33) (m:Nat):(⟨addN (rowJ a m).n 1,appGet (rowJ a m).g fun i:Fin 1=>List.take 21 (List.drop (i.1*21) (e55 (nodeV a m)))⟩:Rw0)=rowJ a (m+1):=by
 refine rw0_ext rfl fun i h1 h2=>?_
 by_cases h:i < m
 ·exact appGet_lt (n:=m) (m:=1) h1 h
 ·refine (appGet_last (g:=(rowJ a m).g) (k:=21) (c:=e55 (nodeV a m)) rfl h1 h).trans ?_
  have:i < m+1:=h1
  obtain rfl:i=m:=by omega
  rfl
abbrev rwO (c:D52):Rw0:=⟨c.fOpts.n,fun i=>e47 (c.fOpts.get i)⟩
abbrev rwLb (a:D33) (c:D52):Rw0:=⟨(labR (labsV a.fTypes (offC c) c.fPool c.fName)).n,fun i=>e88 ((labR (labsV a.fTypes (offC c) c.fPool c.fName)).get i)⟩
theorem c40 (r:Rw D47) (h:r.n≤72):∃ y:Y,y.r 0=⟨r.n,fun i=>e47 (r.get i)⟩∧∀ (ρ:Type) (K:Y→Option ρ),yC (regs O) 40 [S.t (T.rows 3 r.n fun i=>e47 (r.get i))] K=K y:=by
 have hr:Ret 40 [S.t (T.rows 3 r.n fun i=>e47 (r.get i))] (S.t (T.rows 3 r.n fun i=>e47 (r.get i))):=by
  refine W_ext (F:=cloneF 3 48) rfl ?_
  show (bif Nat.beq 3 3 && (r.n*48).ble 140737488355328 then _ else none)=_
  rw [show (Nat.beq 3 3 && (r.n*48).ble 140737488355328)=true by rw [Bool.and_eq_true,Nat.ble_eq];exact ⟨rfl,by omega⟩]
  rfl
 obtain ⟨y,hy,hK⟩:=yC_rw (by kernel_rfl) hr
 exact ⟨y,rw0_of hy,hK⟩
theorem tail11 {a:D33} (ok:Ok33 a) {j:Nat} (hj:j < a.fClaims.n) {c:D52} (ec:a.fClaims.at j=c) (m:Nat):
  (X11n (regs O) a (m+3)).x2 c c.fName c.fPool c.fGen c.fOffer_Type c.fOffer_Zone c.fOffer_Kind c.fPrice c.fCap_0 c.fCap_1 (rwO c) c.fTry c.fId c.fPhase c.fBorn c.fMarked (rwLb a c) (rowS (podsN a c.fName)) (usedN a c.fName 0) (usedN a c.fName 1) (j:Int) (rowJ a j)
   = (X11n (regs O) a m).x0 ((j+1:Nat):Int) (rowJ a (j+1)):=by
 have hj2:j < 2 ^ 62:=by have:=ok.claims;omega
 have hc:=ok.cap hj
 rw [ec] at hc
 have u0:=usedTo_range ok c.fName 0 a.fPods.n (Nat.le_refl _)
 have u1:=usedTo_range ok c.fName 1 a.fPods.n (Nat.le_refl _)
 have s0:subI .i64 c.fCap_0 (usedN a c.fName 0)=c.fCap_0 - usedN a c.fName 0:=by unfold subI usedN;exact i64_in (by omega)
 have s1:subI .i64 c.fCap_1 (usedN a c.fName 1)=c.fCap_1 - usedN a c.fName 1:=by unfold subI usedN;exact i64_in (by omega)
 have f:fitsR (addN (rowJ a j).n 1) 264=true:=fits_small (by have:=ok.claims;show (j+1)*264≤_;omega) (by have:=ok.claims;show j+1≤_;omega)
 have e:=rowJ_app a j
 have en:e55 (nodeV a j)=e55 (nodeC a c):=by unfold nodeV;rw [ec]
 rw [en] at e
 have h5:(X11n (regs O) a (m+1)).x5 (rowS (podsN a c.fName)) c.fName c.fPool c.fGen c.fOffer_Type c.fOffer_Zone c.fOffer_Kind c.fPrice c.fCap_0 c.fCap_1 (rwO c) c.fTry c.fId c.fPhase c.fBorn c.fMarked (rwLb a c) (usedN a c.fName 0) (usedN a c.fName 1) (max 0 (c.fCap_0 - usedN a c.fName 0)) (max 0 (c.fCap_1 - usedN a c.fName 1)) (j:Int) (rowJ a j)
   = (X11n (regs O) a m).x0 ((j+1:Nat):Int) (rowJ a (j+1)):=by
  rw [X11n]
  generalize X11n (regs O) a m=X
  simp only [X11s,b11_5,D11_0,f,cond_true,addI_nat1 hj2]
  exact congrArg (X.x0 _) e
 have h4:(X11n (regs O) a (m+2)).x4 c c.fName c.fPool c.fGen c.fOffer_Type c.fOffer_Zone c.fOffer_Kind c.fPrice c.fCap_0 c.fCap_1 (rwO c) c.fTry c.fId c.fPhase c.fBorn c.fMarked (rwLb a c) (max 0 (c.fCap_0 - usedN a c.fName 0)) (rowS (podsN a c.fName)) (usedN a c.fName 0) (usedN a c.fName 1) (j:Int) (rowJ a j)
   = (X11n (regs O) a m).x0 ((j+1:Nat):Int) (rowJ a (j+1)):=by
  rw [X11n]
  generalize X11n (regs O) a (m+1)=X at h5 ⊢
  simp only [X11s,b11_4,D11_5,s1,bmax0,h5]
 rw [X11n]
 generalize X11n (regs O) a (m+2)=X at h4 ⊢
 simp only [X11s,b11_2,D11_4,s0,bmax0,h4]
theorem rf11 {a:D33} (ok:Ok33 a) {j:Nat} (hj:j < a.fClaims.n) {c:D52} (ec:a.fClaims.at j=c) {V:S} (hV:Ev (fun m=>(X11n (regs O) a m).x0 ((j+1:Nat):Int) (rowJ a (j+1))) V):∀ k m,m+k=a.fPods.n→
  Ev (fun q=>(X11n (regs O) a q).x3 c c.fName c.fName c.fPool c.fGen c.fOffer_Type c.fOffer_Zone c.fOffer_Kind c.fPrice c.fCap_0 c.fCap_1 (rwO c) c.fTry c.fId c.fPhase c.fBorn c.fMarked (rwLb a c) (rowS (podsTo a c.fName m)) (usedTo a c.fName 0 m) (usedTo a c.fName 1 m) m (j:Int) (rowJ a j)) V
 | 0,m,hm=>by
  obtain rfl:m=a.fPods.n:=by omega
  refine Ev.by 4 (fun q=>?_) hV
  have h2:=tail11 ok hj ec q
  rw [X11n]
  generalize X11n (regs O) a (q+3)=X at h2 ⊢
  simp only [X11s,b11_3,D11_2,ltI_ofN,Nat.lt_irrefl,decide_false,cond_false]
  exact h2
 | k+1,m,hm=>by
  have hlt:m < a.fPods.n:=by omega
  have hn:=ok.need hlt
  have u0:=usedTo_range ok c.fName 0 m (by omega)
  have u1:=usedTo_range ok c.fName 1 m (by omega)
  have pl:=podsTo_len a c.fName m
  have hp:=ok.pods
  have f:fitsR (addN (rowS (podsTo a c.fName m)).n 1) 16=true:=fits_small (by show ((podsTo a c.fName m).length+1)*16≤_;omega) (by show (podsTo a c.fName m).length+1≤_;omega)
  have a0:addI .i64 (usedTo a c.fName 0 m) (a.fPods.at m).fNeed_0=usedTo a c.fName 0 m+needP 0 (a.fPods.at m):=by unfold addI;exact i64_in (by omega)
  have a1:addI .i64 (usedTo a c.fName 1 m) (a.fPods.at m).fNeed_1=usedTo a c.fName 1 m+needP 1 (a.fPods.at m):=by unfold addI;exact i64_in (by omega)
  refine Ev.by 1 (fun q=>?_) (rf11 ok hj ec hV k (m+1) (by omega))
  rw [X11n]
  generalize X11n (regs O) a q=X
  simp only [X11s,b11_3,D11_3,ltI_ofN,hlt,decide_true,cond_true,elemO_ofN hlt,get_ofN,f,a0,a1,bmin0,rowS_app]
  have e1:podsTo a c.fName (m+1)=bif onB a c.fName m then podsTo a c.fName m++[(a.fPods.at m).fName] else podsTo a c.fName m:=rfl
  have e2:usedTo a c.fName 0 (m+1)=bif onB a c.fName m then min 1125899906842624 (usedTo a c.fName 0 m+needP 0 (a.fPods.at m)) else usedTo a c.fName 0 m:=rfl
  have e3:usedTo a c.fName 1 (m+1)=bif onB a c.fName m then min 1125899906842624 (usedTo a c.fName 1 m+needP 1 (a.fPods.at m)) else usedTo a c.fName 1 m:=rfl
  rw [e1,e2,e3]
  show (bif onB a c.fName m then _ else _)=_
  cases onB a c.fName m<;>rfl
theorem c11 (a:D33) (ha:sm33 a):Ret 11 [ag (e33 a)] (.tup [.t (.rows 21 (bif eqI (checkV a) 0 then nodesR a else ⟨0,fun i=>i.elim0⟩).n fun i=>e55 ((bif eqI (checkV a) 0 then nodesR a else ⟨0,fun i=>i.elim0⟩:Rw D55).get i)),ii (checkV a)]):=by
 obtain ⟨y,hy,hK⟩:=yC_int (by kernel_rfl) (c9 a ha)
 cases hc:eqI (checkV a) 0 with
 | false=>
  refine W11 a 0 _ ?_
  simp only [e11_in,hK,hy,hc,Bool.not_false,cond_true]
  refine congrArg some ?_
  congr 3
  congr 1
  funext i
  exact i.elim0
 | true=>
  have ok:=ok33 (eqI_true.1 hc)
  have all:∀ k j,j+k=a.fClaims.n→Ev (fun m=>(X11n (regs O) a m).x0 (j:Int) (rowJ a j)) (.tup [.t (.rows 21 (rowJ a a.fClaims.n).n (rowJ a a.fClaims.n).g),ii 0]):=by
   intro k
   induction k with
   | zero=>
    intro j hj
    obtain rfl:j=a.fClaims.n:=by omega
    refine Ev.one 1 fun m=>?_
    rw [X11n]
    generalize X11n (regs O) a m=X
    simp only [X11s,b11_0,ltI_nat,Nat.lt_irrefl,decide_false,cond_false]
   | succ k ih=>
    intro j hj
    have hlt:j < a.fClaims.n:=by omega
    have hV:=ih (j+1) (by omega)
    obtain ⟨c,ec⟩:∃ c,a.fClaims.at j=c:=⟨_,rfl⟩
    have hh:=ok.has hlt
    rw [ec] at hh
    obtain ⟨l,hl,hL⟩:=yC_rw (by kernel_rfl) (c39 a.fTypes (offC c) c.fPool c.fName ha.types ok.types hh)
    have hl:l.r 0=rwLb a c:=rw0_of hl
    have ho:=ok.opts hlt
    rw [ec] at ho
    obtain ⟨o,ho2,hO⟩:=c40 c.fOpts ho
    have f1:fitsR a.fPods.n 1=true:=fits_small (by have:=ok.pods;omega) (by have:=ok.pods;omega)
    have hL:∀ (ρ:Type) (K:Y→Option ρ),yC (regs O) 39 [S.t (T.rows 7 a.fTypes.n fun i=>e112 (a.fTypes.get i)),S.agg [ss c.fOffer_Type,ss c.fOffer_Zone,ss c.fOffer_Kind],ss c.fPool,ss c.fName] K=K l:=hL
    have start:Ev (fun m=>(X11n (regs O) a m).x1 c c.fName c.fName c.fPool c.fGen c.fOffer_Type c.fOffer_Zone c.fOffer_Kind c.fPrice c.fCap_0 c.fCap_1 (rwO c) c.fTry c.fId c.fPhase c.fBorn c.fMarked (rwLb a c) (j:Int) (rowJ a j)) (.tup [.t (.rows 21 (rowJ a a.fClaims.n).n (rowJ a a.fClaims.n).g),ii 0]):=by
     by_cases h0:0 < a.fPods.n
     ·have hn:=ok.need h0
      have a0:addI .i64 0 (a.fPods.at 0).fNeed_0=usedTo a c.fName 0 0+needP 0 (a.fPods.at 0):=by unfold addI;rw [i64_in (by omega)];rfl
      have a1:addI .i64 0 (a.fPods.at 0).fNeed_1=usedTo a c.fName 1 0+needP 1 (a.fPods.at 0):=by unfold addI;rw [i64_in (by omega)];rfl
      refine Ev.by 1 (fun q=>?_) (rf11 ok hlt ec hV (a.fPods.n - 1) 1 (by omega))
      have f2:fitsR 1 16=true:=fits_small (by decide) (by decide)
      rw [X11n]
      generalize X11n (regs O) a q=X
      simp only [X11s,b11_1,D11_3,ltI_ofN,h0,decide_true,cond_true,elemO_ofN h0,get_ofN,f2,a0,a1,bmin0,rowS_one,rowS_nil]
      have e1:podsTo a c.fName 1=bif onB a c.fName 0 then [(a.fPods.at 0).fName] else []:=rfl
      have e2:usedTo a c.fName 0 1=bif onB a c.fName 0 then min 1125899906842624 (usedTo a c.fName 0 0+needP 0 (a.fPods.at 0)) else 0:=rfl
      have e3:usedTo a c.fName 1 1=bif onB a c.fName 0 then min 1125899906842624 (usedTo a c.fName 1 0+needP 1 (a.fPods.at 0)) else 0:=rfl
      rw [e1,e2,e3]
      show (bif onB a c.fName 0 then _ else _)=_
      cases onB a c.fName 0<;>rfl
     ·have hz:a.fPods.n=0:=by omega
      refine Ev.by 4 (fun q=>?_) hV
      have h2:=tail11 ok hlt ec q
      have e1:podsN a c.fName=[]:=by unfold podsN;rw [hz];rfl
      have e2:usedN a c.fName 0=0:=by unfold usedN;rw [hz];rfl
      have e3:usedN a c.fName 1=0:=by unfold usedN;rw [hz];rfl
      rw [e1,e2,e3] at h2
      rw [X11n]
      generalize X11n (regs O) a (q+3)=X at h2 ⊢
      simp only [X11s,b11_1,D11_2,ltI_ofN,h0,decide_false,cond_false,rowS_nil]
      exact h2
    refine Ev.by 1 (fun m=>?_) start
    rw [X11n]
    generalize X11n (regs O) a m=X
    simp only [X11s,b11_0,D11_1,ltI_nat,hlt,decide_true,cond_true,elemO_nat hlt,get_nat,ec,hL,hl,f1]
    have hg:∀ h,a.fClaims.get ⟨(j:Int).toNat,h⟩=c:=fun h=>get_nat.trans ec
    rw [hg,hO,ho2]
  obtain ⟨n,hn⟩:=(all a.fClaims.n 0 (by omega)).get
  refine W11 a n _ ?_
  have e0:(⟨0,nil0⟩:Rw0)=rowJ a 0:=rw0_ext rfl fun i h=>by cases h
  simp only [e11_in,hK,hy,hc,Bool.not_true,cond_false,D11_0,e0]
  refine hn.trans ?_
  rw [eqI_true.1 hc]
  rfl
abbrev P6 (q:YF) (kk:PK S):PK S:=PG q 6 Tryz.f6 kk
abbrev H6 (q:YF):Nat→PK S:=HG q 6 Tryz.f6
abbrev T6_0:Type:=Rw0→Rw0→Bool→Int→Int→Int→OS
def K6_0 (a:D33) (kk:PK S):T6_0:=fun v0 v1 v2 v3 v4 v5=> kk 7 0 0 (mkSt [(4,S.t (T.rows 21 v0.n v0.g)),(36,ii v4),(34,S.t (T.rows 21 v1.n v1.g)),(6,ii v5),(1,S.ptr 0 0),(3,bb v2),(35,ii v3)] 1 [(0,B.box (List.map S.t (e33 a)))])
abbrev T6_1:Type:=Rw0→Bool→Int→Int→OS
def K6_1 (a:D33) (kk:PK S):T6_1:=fun v0 v1 v2 v3=> kk 31 0 0 (mkSt [(112,S.t (T.rows 12 a.fPods.n fun i=>e61 (a.fPods.get i))),(4,S.t (T.rows 21 v0.n v0.g)),(114,ii v2),(6,ii v3),(1,S.ptr 0 0),(113,ii (ofN a.fPods.n)),(3,bb v1)] 1 [(0,B.box (List.map S.t (e33 a)))])
abbrev T6_2:Type:=Rw0→Rw0→Rw0→Bool→Int→Int→BA→Int→Int→Int→Int→Int→Int→Int→Bool→Int→Int→Int→Int→BA→Int→BA→BA→BA→Int→Rw0→Int→BA→Int→Int→Bool→Rw0→Rw0→OS
def K6_2 (a:D33) (kk:PK S):T6_2:=fun v0 v1 v2 v3 v4 v5 v6 v7 v8 v9 v10 v11 v12 v13 v14 v15 v16 v17 v18 u19 u20 u21 u22 u23 u24 u25 u26 u27 u28 u29 u30 u31 u32=> kk 12 0 0 (mkSt [(8,S.ptr 1 0),(4,S.t (T.rows 21 v0.n v0.g)),(36,ii v18),(44,ii v13),(34,S.t (T.rows 21 v1.n v1.g)),(10,bb v14),(42,S.t (T.rows 1 v2.n v2.g)),(6,ii v15),(1,S.ptr 0 0),(9,S.ptr 2 0),(3,bb v3),(35,ii v4),(43,ii v5)] 3 [(0,B.box (List.map S.t (e33 a))),(2,B.box [ii v16,ii v17]),(1,B.box [ss v6,ss u19,ii u20,ss u21,ss u22,ss u23,ii u24,ii v7,ii v8,S.t (T.rows 3 u25.n u25.g),ii u26,ss u27,ii u28,ii u29,bb u30,S.t (T.rows 2 u31.n u31.g),ii v9,ii v10,ii v11,ii v12,S.t (T.rows 1 u32.n u32.g)])])
abbrev T6_3:Type:=Rw0→Rw0→Bool→Int→Int→Int→Int→Int→Int→Int→Int→Int→Int→Int→BA→BA→Int→BA→BA→BA→Int→Rw0→Int→BA→Int→Int→Bool→Rw0→Rw0→OS
def K6_3 (a:D33) (kk:PK S):T6_3:=fun v0 v1 v2 v3 v4 v5 v6 v7 v8 v9 v10 v11 v12 v13 u14 u15 u16 u17 u18 u19 u20 u21 u22 u23 u24 u25 u26 u27 u28=> kk 24 0 0 (mkSt [(8,S.ptr 1 0),(4,S.t (T.rows 21 v0.n v0.g)),(36,ii v13),(34,S.t (T.rows 21 v1.n v1.g)),(6,ii v10),(1,S.ptr 0 0),(81,ii 0),(9,S.ptr 2 0),(3,bb v2),(35,ii v3)] 3 [(0,B.box (List.map S.t (e33 a))),(2,B.box [ii v11,ii v12]),(1,B.box [ss u14,ss u15,ii u16,ss u17,ss u18,ss u19,ii u20,ii v4,ii v5,S.t (T.rows 3 u21.n u21.g),ii u22,ss u23,ii u24,ii u25,bb u26,S.t (T.rows 2 u27.n u27.g),ii v6,ii v7,ii v8,ii v9,S.t (T.rows 1 u28.n u28.g)])])
abbrev T6_4:Type:=Rw0→Rw0→Int→Bool→Int→Int→Int→Int→Int→Int→Int→BA→BA→Int→BA→BA→BA→Int→Int→Rw0→Int→BA→Int→Int→Bool→Rw0→Int→Int→Rw0→OS
def K6_4 (a:D33) (kk:PK S):T6_4:=fun v0 v1 v2 v3 v4 v5 v6 v7 v8 v9 u10 u11 u12 u13 u14 u15 u16 u17 u18 u19 u20 u21 u22 u23 u24 u25 u26 u27 u28=> kk 24 0 0 (mkSt [(8,S.ptr 1 0),(4,S.t (T.rows 21 v0.n v0.g)),(36,ii v9),(34,S.t (T.rows 21 v1.n v1.g)),(6,ii v2),(1,S.ptr 0 0),(81,ii 1),(9,S.ptr 2 0),(3,bb v3),(35,ii v4)] 3 [(0,B.box (List.map S.t (e33 a))),(2,B.box [ii u10,ii v5]),(1,B.box [ss u11,ss u12,ii u13,ss u14,ss u15,ss u16,ii u17,ii u18,ii v6,S.t (T.rows 3 u19.n u19.g),ii u20,ss u21,ii u22,ii u23,bb u24,S.t (T.rows 2 u25.n u25.g),ii u26,ii v7,ii u27,ii v8,S.t (T.rows 1 u28.n u28.g)])])
abbrev T6_5:Type:=Rw0→Int→Rw0→Int→Bool→Int→Int→Int→BA→BA→Int→BA→BA→BA→Int→Int→Int→Rw0→Int→BA→Int→Int→Bool→Rw0→Int→Int→Int→Int→Rw0→OS
def K6_5 (a:D33) (kk:PK S):T6_5:=fun v0 v1 v2 v3 v4 v5 u6 u7 u8 u9 u10 u11 u12 u13 u14 u15 u16 u17 u18 u19 u20 u21 u22 u23 u24 u25 u26 u27 u28=> kk 24 0 0 (mkSt [(8,S.ptr 1 0),(4,S.t (T.rows 21 v0.n v0.g)),(36,ii v1),(34,S.t (T.rows 21 v2.n v2.g)),(6,ii v3),(1,S.ptr 0 0),(81,ii 2),(9,S.ptr 2 0),(3,bb v4),(35,ii v5)] 3 [(0,B.box (List.map S.t (e33 a))),(2,B.box [ii u6,ii u7]),(1,B.box [ss u8,ss u9,ii u10,ss u11,ss u12,ss u13,ii u14,ii u15,ii u16,S.t (T.rows 3 u17.n u17.g),ii u18,ss u19,ii u20,ii u21,bb u22,S.t (T.rows 2 u23.n u23.g),ii u24,ii u25,ii u26,ii u27,S.t (T.rows 1 u28.n u28.g)])])
def b6_0 (q:YF) (a:D33) (k1:T6_1) (k2:T6_2):T6_0:=fun v0 v1 v2 v3 v4 v5=>bif ltI v4 v3 then elemO v4 v1.n fun h=>cellsW O.P 55 (v1.g (Fin.mk v4.toNat h)) fun y=>k2 v0 v1 (y.r 20) v2 v3 (ofN (y.r 20).n) (y.s 0) (y.i 7) (y.i 8) (y.i 16) (y.i 17) (y.i 18) (y.i 19) 0 false v5 0 0 v4 (y.s 1) (y.i 2) (y.s 3) (y.s 4) (y.s 5) (y.i 6) (y.r 9) (y.i 10) (y.s 11) (y.i 12) (y.i 13) (y.b 14) (y.r 15) (y.r 20) else k1 v0 v2 0 v5
def b6_1 (q:YF) (a:D33) (k1:T6_1):T6_1:=fun v0 v1 v2 v3=>bif ltI v2 (ofN a.fPods.n) then elemO v2 a.fPods.n fun h=>bif !strEq (a.fPods.get (Fin.mk v2.toNat h)).fOn (bs []) then k1 v0 v1 (addI .i64 v2 1) (subI .i64 v3 1) else k1 v0 v1 (addI .i64 v2 1) v3 else bif v1 then bif eqI v3 0 then some (bb (eqI (ofN v0.n) (ofN a.fClaims.n))) else some (bb false) else some (bb false)
def b6_2 (q:YF) (a:D33) (k0:T6_0) (k2:T6_2) (k3:T6_3):T6_2:=fun v0 v1 v2 v3 v4 v5 v6 v7 v8 v9 v10 v11 v12 v13 v14 v15 v16 v17 v18 u19 u20 u21 u22 u23 u24 u25 u26 u27 u28 u29 u30 u31 u32=>bif ltI v13 v5 then elemO v13 v2.n fun h=>cellsW O.P 9 (v2.g (Fin.mk v13.toNat h)) fun y=>yC q 17 [ag (e33 a),ss (y.s 0)] fun y=>bif !y.b 12 then some (bb false) else bif !strEq (y.s 11) v6 then some (bb false) else yC q 18 [S.agg [ii v16,ii v17],S.agg [ii (y.i 2),ii (y.i 3)]] fun y=>bif v14 then k2 v0 v1 v2 v3 v4 v5 v6 v7 v8 v9 v10 v11 v12 (addI .i64 v13 1) true (addI .i64 v15 1) (y.i 0) (y.i 1) v18 u19 u20 u21 u22 u23 u24 u25 u26 u27 u28 u29 u30 u31 u32 else k2 v0 v1 v2 v3 v4 v5 v6 v7 v8 v9 v10 v11 v12 (addI .i64 v13 1) (!eqI (y.i 2) 0) (addI .i64 v15 1) (y.i 0) (y.i 1) v18 u19 u20 u21 u22 u23 u24 u25 u26 u27 u28 u29 u30 u31 u32 else bif v14 then k0 v0 v1 v3 v4 (addI .i64 v18 1) v15 else k3 v0 v1 v3 v4 v7 v8 v9 v10 v11 v12 v15 v16 v17 v18 v6 u19 u20 u21 u22 u23 u24 u25 u26 u27 u28 u29 u30 u31 u32
def b6_3 (q:YF) (a:D33) (k4:T6_4):T6_3:=fun v0 v1 v2 v3 v4 v5 v6 v7 v8 v9 v10 v11 v12 v13 u14 u15 u16 u17 u18 u19 u20 u21 u22 u23 u24 u25 u26 u27 u28=>bif !eqI v6 v11 then some (bb false) else bif !eqI v8 (Bool.rec ((fun _=>0) ()) ((fun _=>subI .i64 v4 v11) ()) (decide (subI .i64 v4 v11 > 0))) then some (bb false) else k4 v0 v1 v10 v2 v3 v12 v5 v7 v9 v13 v11 u14 u15 u16 u17 u18 u19 u20 v4 u21 u22 u23 u24 u25 u26 u27 v6 v8 u28
def b6_4 (q:YF) (a:D33) (k5:T6_5):T6_4:=fun v0 v1 v2 v3 v4 v5 v6 v7 v8 v9 u10 u11 u12 u13 u14 u15 u16 u17 u18 u19 u20 u21 u22 u23 u24 u25 u26 u27 u28=>bif !eqI v7 v5 then some (bb false) else bif !eqI v8 (Bool.rec ((fun _=>0) ()) ((fun _=>subI .i64 v6 v5) ()) (decide (subI .i64 v6 v5 > 0))) then some (bb false) else k5 v0 v9 v1 v2 v3 v4 u10 v5 u11 u12 u13 u14 u15 u16 u17 u18 v6 u19 u20 u21 u22 u23 u24 u25 u26 v7 u27 v8 u28
def b6_5 (q:YF) (a:D33) (k0:T6_0):T6_5:=fun v0 v1 v2 v3 v4 v5 u6 u7 u8 u9 u10 u11 u12 u13 u14 u15 u16 u17 u18 u19 u20 u21 u22 u23 u24 u25 u26 u27 u28=>k0 v0 v2 v4 v5 (addI .i64 v1 1) v3
def e6_in (q:YF) (a:D33) (k0:T6_0):OS:=yC q 8 [] fun y=>yC q 11 [ag (e33 a)] fun y_1=>bif !eqI (y_1.i 1) 0 then bif y.b 0 then some (bb (eqI (ofN (y_1.r 0).n) 0)) else some (bb false) else k0 (y_1.r 0) (y_1.r 0) (y.b 0) (ofN (y_1.r 0).n) 0 0
structure X6 where
 x0:Rw0→Rw0→Bool→Int→Int→Int→OS
 x1:Rw0→Bool→Int→Int→OS
 x2:Rw0→Rw0→Rw0→Bool→Int→Int→BA→Int→Int→Int→Int→Int→Int→Int→Bool→Int→Int→Int→Int→OS
 x3:Rw0→Rw0→Bool→Int→Int→Int→Int→Int→Int→Int→Int→Int→Int→Int→OS
 x4:Rw0→Rw0→Int→Bool→Int→Int→Int→Int→Int→Int→OS
 x5:Rw0→Int→Rw0→Int→Bool→Int→OS
def D6_0 (X:X6):T6_0:=fun v0 v1 v2 v3 v4 v5=>X.x0 v0 v1 v2 v3 v4 v5
def D6_1 (X:X6):T6_1:=fun v0 v1 v2 v3=>X.x1 v0 v1 v2 v3
def D6_2 (X:X6):T6_2:=fun v0 v1 v2 v3 v4 v5 v6 v7 v8 v9 v10 v11 v12 v13 v14 v15 v16 v17 v18 _ _ _ _ _ _ _ _ _ _ _ _ _ _=>X.x2 v0 v1 v2 v3 v4 v5 v6 v7 v8 v9 v10 v11 v12 v13 v14 v15 v16 v17 v18
def D6_3 (X:X6):T6_3:=fun v0 v1 v2 v3 v4 v5 v6 v7 v8 v9 v10 v11 v12 v13 _ _ _ _ _ _ _ _ _ _ _ _ _ _ _=>X.x3 v0 v1 v2 v3 v4 v5 v6 v7 v8 v9 v10 v11 v12 v13
def D6_4 (X:X6):T6_4:=fun v0 v1 v2 v3 v4 v5 v6 v7 v8 v9 _ _ _ _ _ _ _ _ _ _ _ _ _ _ _ _ _ _ _=>X.x4 v0 v1 v2 v3 v4 v5 v6 v7 v8 v9
def D6_5 (X:X6):T6_5:=fun v0 v1 v2 v3 v4 v5 _ _ _ _ _ _ _ _ _ _ _ _ _ _ _ _ _ _ _ _ _ _ _=>X.x5 v0 v1 v2 v3 v4 v5
def X6s (q:YF) (a:D33) (X:X6):X6:=⟨fun v0 v1 v2 v3 v4 v5=>b6_0 q a (D6_1 X) (D6_2 X) v0 v1 v2 v3 v4 v5,
 fun v0 v1 v2 v3=>b6_1 q a (D6_1 X) v0 v1 v2 v3,
 fun v0 v1 v2 v3 v4 v5 v6 v7 v8 v9 v10 v11 v12 v13 v14 v15 v16 v17 v18=>b6_2 q a (D6_0 X) (D6_2 X) (D6_3 X) v0 v1 v2 v3 v4 v5 v6 v7 v8 v9 v10 v11 v12 v13 v14 v15 v16 v17 v18 dd dd dd dd dd dd dd dd dd dd dd dd dd dd,
 fun v0 v1 v2 v3 v4 v5 v6 v7 v8 v9 v10 v11 v12 v13=>b6_3 q a (D6_4 X) v0 v1 v2 v3 v4 v5 v6 v7 v8 v9 v10 v11 v12 v13 dd dd dd dd dd dd dd dd dd dd dd dd dd dd dd,
 fun v0 v1 v2 v3 v4 v5 v6 v7 v8 v9=>b6_4 q a (D6_5 X) v0 v1 v2 v3 v4 v5 v6 v7 v8 v9 dd dd dd dd dd dd dd dd dd dd dd dd dd dd dd dd dd dd dd,
 fun v0 v1 v2 v3 v4 v5=>b6_5 q a (D6_0 X) v0 v1 v2 v3 v4 v5 dd dd dd dd dd dd dd dd dd dd dd dd dd dd dd dd dd dd dd dd dd dd dd⟩
def X6n (q:YF) (a:D33):Nat→X6
 | 0=>⟨fun _ _ _ _ _ _=>none,fun _ _ _ _=>none,fun _ _ _ _ _ _ _ _ _ _ _ _ _ _ _ _ _ _ _=>none,fun _ _ _ _ _ _ _ _ _ _ _ _ _ _=>none,fun _ _ _ _ _ _ _ _ _ _=>none,fun _ _ _ _ _ _=>none⟩
 | n+1=>X6s q a (X6n q a n)
theorem l6_0 (q:YF) (a:D33) (kk:PK S):K6_0 a (P6 q kk)=b6_0 q a (K6_1 a kk) (K6_2 a kk):=by
 kernel_rfl
theorem l6_1 (q:YF) (a:D33) (kk:PK S):K6_1 a (P6 q kk)=b6_1 q a (K6_1 a kk):=by
 kernel_rfl
theorem l6_2 (q:YF) (a:D33) (kk:PK S):K6_2 a (P6 q kk)=b6_2 q a (K6_0 a kk) (K6_2 a kk) (K6_3 a kk):=by
 kernel_rfl
theorem l6_3 (q:YF) (a:D33) (kk:PK S):K6_3 a (P6 q kk)=b6_3 q a (K6_4 a kk):=by
 kernel_rfl
theorem l6_4 (q:YF) (a:D33) (kk:PK S):K6_4 a (P6 q kk)=b6_4 q a (K6_5 a kk):=by
 kernel_rfl
theorem l6_5 (q:YF) (a:D33) (kk:PK S):K6_5 a (P6 q kk)=b6_5 q a (K6_0 a kk):=by
 kernel_rfl
theorem l6_in (q:YF) (a:D33) (kk:PK S):BG q kk 6 Tryz.f6 [ag (e33 a)]=e6_in q a (K6_0 a kk):=by
 kernel_rfl
theorem h6 (q:YF) (a:D33):∀ n,K6_0 a (H6 q n)=D6_0 (X6n q a n)∧K6_1 a (H6 q n)=D6_1 (X6n q a n)∧K6_2 a (H6 q n)=D6_2 (X6n q a n)∧K6_3 a (H6 q n)=D6_3 (X6n q a n)∧K6_4 a (H6 q n)=D6_4 (X6n q a n)∧K6_5 a (H6 q n)=D6_5 (X6n q a n)
 | 0=>⟨rfl,rfl,rfl,rfl,rfl,rfl⟩
 | n+1=>by
  obtain ⟨h0,h1,h2,h3,h4,h5⟩:=h6 q a n
  exact ⟨(l6_0 q a (H6 q n)).trans (by rw [h1,h2];kernel_rfl),(l6_1 q a (H6 q n)).trans (by rw [h1];kernel_rfl),(l6_2 q a (H6 q n)).trans (by rw [h0,h2,h3];kernel_rfl),(l6_3 q a (H6 q n)).trans (by rw [h4];kernel_rfl),(l6_4 q a (H6 q n)).trans (by rw [h5];kernel_rfl),(l6_5 q a (H6 q n)).trans (by rw [h0];kernel_rfl)⟩
theorem W6 (a:D33) (n:Nat) (x:S) (h:e6_in (regs O) a (D6_0 (X6n (regs O) a n))=some x):(W O).callT 6 [ag (e33 a)]=some x:=by
 refine WG (fn:=Tryz.f6) (by kernel_rfl) (by kernel_rfl) (n:=n) ?_
 refine (l6_in (regs O) a (H6 (regs O) n)).trans ?_
 obtain ⟨h0,h1,h2,h3,h4,h5⟩:=h6 (regs O) a n
 rw [h0]
 exact h
theorem bl_eq:∀ (x y:List UInt8),Op.bytesLess x y=decide (x < y)
 | [],[]=>by simp [Op.bytesLess]
 | _::_,[]=>by simp [Op.bytesLess]
 | [],_::_=>by simp [Op.bytesLess]
 | a::x,b::y=>by
  rw [Op.bytesLess,bl_eq x y]
  simp only [List.cons_lt_cons_iff]
  by_cases h1:a < b<;>by_cases h2:a=b<;>by_cases h3:x < y<;>simp [h1,h2,h3]
theorem strLt_trans {a b c:BA} (h:strLt a b=true) (h':strLt b c=true):strLt a c=true:=by
 unfold strLt at *
 rw [bl_eq,decide_eq_true_eq] at *
 exact List.lt_trans h h'
theorem ord_lt {f:Nat→BA} {n:Nat} (h:∀ j,j < n→ordB f j=true):∀ k i,i+(k+1) < n→strLt (f i) (f (i+(k+1)))=true
 | 0,i,hi=>by
  have:=h (i+1) (by omega)
  unfold ordB at this
  simpa using this
 | k+1,i,hi=>by
  have h1:=ord_lt h k i (by omega)
  have:=h (i+(k+1)+1) (by omega)
  unfold ordB at this
  exact strLt_trans h1 (show strLt (f (i+(k+1))) (f (i+(k+1)+1))=true from by simpa using this)
theorem ord_ne {f:Nat→BA} {n:Nat} (h:∀ j,j < n→ordB f j=true) {i j:Nat} (hi:i < j) (hj:j < n):strEq (f i) (f j)=false:=by
 obtain ⟨k,rfl⟩:∃ k,j=i+(k+1):=⟨j - i - 1,by omega⟩
 cases he:strEq (f i) (f (i+(k+1))) with
 | false=>rfl
 | true=>
  have h1:=ord_lt h k i hj
  rw [lt_irrefl _ _ he] at h1
  cases h1
theorem Ok33.podOrd {a:D33} (h:Ok33 a):∀ j,j < a.fPods.n→ordB (podN a) j=true:=fun j hj=>by
 have:=h.pod j hj
 unfold podE at this
 simp only [orE_eq_zero] at this
 exact (wantE_eq_zero (by decide)).1 this.2.1
theorem Ok33.claimOrd {a:D33} (h:Ok33 a):∀ j,j < a.fClaims.n→ordB (claimNm a) j=true:=fun j hj=>by
 have:=h.claim j hj
 unfold claimE at this
 simp only [orE_eq_zero] at this
 exact (wantE_eq_zero (by decide)).1 this.2.1
theorem Ok33.claimNe {a:D33} (h:Ok33 a) {j:Nat} (hj:j < a.fClaims.n):¬ sizeN (claimNm a j)=0:=by
 have:=h.claim j hj
 unfold claimE at this
 exact nameB_ne (claim_name (orE_eq_zero.1 this).1)
theorem Ok33.podOn {a:D33} (h:Ok33 a) {j:Nat} (hj:j < a.fPods.n):sizeN (a.fPods.at j).fOn=0∨claimIn a (a.fPods.at j).fOn=true:=by
 have:=h.pod j hj
 unfold podE at this
 simp only [orE_eq_zero] at this
 have:=(wantE_eq_zero (by decide)).1 this.2.2.1
 simpa using this
def yP (p:D61):Y:=⟨fun i=>match i with | 2=>p.fNeed_0 | 3=>p.fNeed_1 | 4=>p.fPrio | _=>p.fSince,fun _=>true,fun i=>match i with | 0=>p.fName | 1=>p.fApp | _=>p.fOn,fun i=>match i with | 5=>⟨p.fReqs.n,fun i=>e68 (p.fReqs.get i)⟩ | 6=>⟨p.fTols.n,fun i=>e160 (p.fTols.get i)⟩ | 7=>⟨p.fSpread.n,fun i=>e70 (p.fSpread.get i)⟩ | 8=>⟨p.fNear.n,fun i=>e138 (p.fNear.get i)⟩ | _=>⟨p.fApart.n,fun i=>e138 (p.fApart.get i)⟩,fun _=>[]⟩
theorem c17 (a:D33) {b:BA} {i:Nat} (hn:a.fPods.n < 2 ^ 62) (hi:i < a.fPods.n) (hb:strEq (podN a i) b=true) (hd:∀ j,j < i→strEq (podN a j) b=false):∃ y:Y,y.b 12=true∧y.s 11=(a.fPods.at i).fOn∧y.i 2=(a.fPods.at i).fNeed_0∧y.i 3=(a.fPods.at i).fNeed_1∧∀ (ρ:Type) (K:Y→Option ρ),yC (regs O) 17 [ag (e33 a),ss b] K=K y:=by
 have key:∀ k j,j+k=i→Ev (fun m=>(X17n (regs O) a b m).x0 (j:Int)) (S.tup [ag (e61 (a.fPods.at i)),bb true]):=by
  intro k
  induction k with
  | zero=>
   intro j hj
   obtain rfl:j=i:=by omega
   refine Ev.one 1 fun m=>?_
   rw [X17n]
   generalize X17n (regs O) a b m=X
   have hb:strEq (a.fPods.at j).fName b=true:=hb
   simp only [X17s,b17_0,ltI_nat,elemO_nat hi,get_nat,hi,decide_true,cond_true,hb]
  | succ k ih=>
   intro j hj
   have hj1:j < a.fPods.n:=by omega
   have hj2:j < 2 ^ 62:=by omega
   refine Ev.by 1 (fun m=>?_) (ih (j+1) (by omega))
   rw [X17n]
   generalize X17n (regs O) a b m=X
   have hd:strEq (a.fPods.at j).fName b=false:=hd j (by omega)
   simp only [X17s,b17_0,D17_0,ltI_nat,elemO_nat hj1,get_nat,hj1,decide_true,cond_true,cond_false,hd,addI_nat1 hj2]
 obtain ⟨n,hn⟩:=(key i 0 (by omega)).get
 obtain ⟨y,hy,hK⟩:=yC_of (f:=17) (y0:=yP (a.fPods.at i)) (sh:=.tup [.agg [.str 0,.str 1,.int .i64 2,.int .i64 3,.int .i64 4,.rows 4 5,.rows 3 6,.rows 3 7,.rows 2 8,.rows 2 9,.int .i64 10,.str 11],.bool 12]) (by kernel_rfl) (show Ret 17 [ag (e33 a),ss b] (S.tup [ag (e61 (a.fPods.at i)),bb true]) from W17 a b n _ hn)
 refine ⟨y,?_,?_,?_,?_,hK⟩
 all_goals
  simp only [build,buildL,S.tup.injEq,S.agg.injEq,List.cons.injEq,S.t.injEq,T.v.injEq,Value.int.injEq,Value.string.injEq,Value.bool.injEq] at hy
  simp only [hy,yP]
def inB (x:Int):Prop:=0≤x∧x≤1125899906842624
theorem chk_in {x:Int} (h:inB x):chk x=0:=by
 unfold chk
 rw [show ltI x 0=false from decide_eq_false (by have:=h.1;omega),cond_false,show gtI x 1125899906842624=false from decide_eq_false (by have:=h.2;omega)]
 rfl
theorem chk2_in {x z:Int} (h:inB x) (h':inB z):chk2 x z=0:=by
 unfold chk2
 rw [chk_in h,chk_in h']
 rfl
theorem both_in {x z u v:Int} (h:inB x) (h':inB z) (h1:inB u) (h2:inB v):both x z u v=0:=by
 unfold both
 rw [chk2_in h h',chk2_in h1 h2]
 rfl
def fitB (u v p q:Int):Bool:=decide (u+p≤1125899906842624) && decide (v+q≤1125899906842624)
theorem fit_chk {u v p q:Int} (hu:inB u) (hv:inB v) (hp:inB p) (hq:inB q):eqI (chk2 (u+p) (v+q)) 0=fitB u v p q:=by
 rw [Bool.eq_iff_iff,eqI_true]
 unfold fitB
 rw [Bool.and_eq_true,decide_eq_true_eq,decide_eq_true_eq]
 refine ⟨fun h=>⟨(chk2_zero h).1.2,(chk2_zero h).2.2⟩,fun h=>chk2_in ⟨?_,h.1⟩ ⟨?_,h.2⟩⟩
 ·have:=hu.1;have:=hp.1;omega
 ·have:=hv.1;have:=hq.1;omega
theorem c18 {u v p q:Int} (hu:inB u) (hv:inB v) (hp:inB p) (hq:inB q):∃ y:Y,y.i 0=(bif fitB u v p q then u+p else 0)∧y.i 1=(bif fitB u v p q then v+q else 0)∧eqI (y.i 2) 0=fitB u v p q∧∀ (ρ:Type) (K:Y→Option ρ),yC (regs O) 18 [S.agg [ii u,ii v],S.agg [ii p,ii q]] K=K y:=by
 obtain ⟨y,hy,hK⟩:=yC_int (by kernel_rfl) (c48 u v p q)
 obtain ⟨z,hz,hL⟩:=yC_int (by kernel_rfl) (c49 (u+p) (v+q))
 have a0:addI .i64 u p=u+p:=by unfold addI;exact i64_in (by have:=hu.1;have:=hu.2;have:=hp.1;have:=hp.2;omega)
 have a1:addI .i64 v q=v+q:=by unfold addI;exact i64_in (by have:=hv.1;have:=hv.2;have:=hq.1;have:=hq.2;omega)
 have hb:=both_in hu hv hp hq
 have hr:Ret 18 [S.agg [ii u,ii v],S.agg [ii p,ii q]] (S.tup [S.agg [ii (bif fitB u v p q then u+p else 0),ii (bif fitB u v p q then v+q else 0)],ii (bif fitB u v p q then 0 else chk2 (u+p) (v+q))]):=W18 ⟨u,v⟩ ⟨p,q⟩ 0 _ (by
  simp only [e18_in,e49,ag,List.map,hK,hy,hb,a0,a1,hL,hz,fit_chk hu hv hp hq]
  cases fitB u v p q<;>rfl)
 obtain ⟨w,hw,hM⟩:=yC_of (f:=18) (y0:=⟨fun i=>match i with | 0=>bif fitB u v p q then u+p else 0 | 1=>bif fitB u v p q then v+q else 0 | _=>bif fitB u v p q then 0 else chk2 (u+p) (v+q),fun _=>false,fun _=>⟨#[]⟩,fun _=>⟨0,fun i=>i.elim0⟩,fun _=>[]⟩) (sh:=.tup [.agg [.int .i64 0,.int .i64 1],.int .i64 2]) (by kernel_rfl) hr
 simp only [build,buildL,S.tup.injEq,S.agg.injEq,List.cons.injEq,S.t.injEq,T.v.injEq,Value.int.injEq,true_and,and_true] at hw
 refine ⟨w,hw.1.1,hw.1.2,?_,hM⟩
 rw [hw.2,← fit_chk hu hv hp hq]
 cases h:eqI (chk2 (u+p) (v+q)) 0 with
 | true=>rfl
 | false=>exact h
theorem cellsW_of {t:TypeId} {cs:List T} {sh:Sh} {n:Nat} {y0:Y} (hs:shV O.P t 0=some (sh,n)) (hv:valS O.P t (cs.map .t)=some (build y0 sh)):∃ y,build y sh=build y0 sh∧∀ (ρ:Type) (K:Y→Option ρ),cellsW O.P t cs K=K y:=by
 obtain ⟨y,h1,h2⟩:=unb_build (sh:=sh) (y:=y0)
 refine ⟨y,h2,fun ρ K=>?_⟩
 unfold cellsW
 rw [hs]
 show ((valS O.P t (cs.map .t)).bind (unb sh)).bind K=K y
 rw [hv]
 show (unb sh (build y0 sh)).bind K=K y
 rw [h1]
 rfl
theorem cells9 (s:BA):∃ y:Y,y.s 0=s∧∀ (ρ:Type) (K:Y→Option ρ),cellsW O.P 9 [ts s] K=K y:=by
 obtain ⟨y,hy,hK⟩:=cellsW_of (t:=9) (cs:=[ts s]) (sh:=.str 0) (n:=1) (y0:=⟨fun _=>0,fun _=>false,fun _=>s,fun _=>⟨0,fun i=>i.elim0⟩,fun _=>[]⟩) (by kernel_rfl) (by kernel_rfl)
 exact ⟨y,by simpa [build] using hy,hK⟩
def yN (p:D55):Y:=⟨fun i=>match i with | 2=>p.fClaim_Gen | 6=>p.fClaim_Price | 7=>p.fClaim_Cap_0 | 8=>p.fClaim_Cap_1 | 10=>p.fClaim_Try | 12=>p.fClaim_Phase | 13=>p.fClaim_Born | 16=>p.fUsed_0 | 17=>p.fUsed_1 | 18=>p.fFree_0 | _=>p.fFree_1,fun _=>p.fClaim_Marked,fun i=>match i with | 0=>p.fClaim_Name | 1=>p.fClaim_Pool | 3=>p.fClaim_Offer_Type | 4=>p.fClaim_Offer_Zone | 5=>p.fClaim_Offer_Kind | _=>p.fClaim_Id,fun i=>match i with | 9=>⟨p.fClaim_Opts.n,fun i=>e47 (p.fClaim_Opts.get i)⟩ | 15=>⟨p.fLabels.n,fun i=>e88 (p.fLabels.get i)⟩ | _=>⟨p.fPods.n,fun i=>e9 (p.fPods.get i)⟩,fun _=>[]⟩
abbrev sh55:Sh:=.agg [.str 0,.str 1,.int .i64 2,.str 3,.str 4,.str 5,.int .i64 6,.int .i64 7,.int .i64 8,.rows 3 9,.int .i64 10,.str 11,.int .i64 12,.int .i64 13,.bool 14,.rows 2 15,.int .i64 16,.int .i64 17,.int .i64 18,.int .i64 19,.rows 1 20]
theorem cells55 (p:D55):∃ y:Y,y.s 0=p.fClaim_Name∧y.i 7=p.fClaim_Cap_0∧y.i 8=p.fClaim_Cap_1∧y.i 16=p.fUsed_0∧y.i 17=p.fUsed_1∧y.i 18=p.fFree_0∧y.i 19=p.fFree_1∧y.r 20=⟨p.fPods.n,fun i=>e9 (p.fPods.get i)⟩∧∀ (ρ:Type) (K:Y→Option ρ),cellsW O.P 55 (e55 p) K=K y:=by
 obtain ⟨y,hy,hK⟩:=cellsW_of (t:=55) (cs:=e55 p) (sh:=sh55) (n:=21) (y0:=yN p) (by kernel_rfl) (by kernel_rfl)
 simp only [sh55,build,buildL,yN,S.agg.injEq,List.cons.injEq,S.t.injEq,T.v.injEq,Value.int.injEq,Value.string.injEq,Value.bool.injEq,true_and,and_true] at hy
 obtain ⟨h0,_,_,_,_,_,_,h7,h8,_,_,_,_,_,_,_,h16,h17,h18,h19,h20⟩:=hy
 exact ⟨y,h0,h7,h8,h16,h17,h18,h19,rw0_of (sz:=1) (congrArg S.t h20),hK⟩
def onL (a:D33) (nm:BA):Nat→List Nat
 | 0=>[]
 | m+1=>bif onB a nm m then onL a nm m++[m] else onL a nm m
theorem podsTo_on (a:D33) (nm:BA):∀ m,podsTo a nm m=(onL a nm m).map (podN a)
 | 0=>rfl
 | m+1=>by
  unfold podsTo onL
  rw [podsTo_on a nm m]
  cases onB a nm m with
  | true=>rw [cond_true,cond_true,List.map_append];rfl
  | false=>rfl
def addsN (a:D33) (k:Nat):List Nat→Int→Int
 | [],s=>s
 | i::l,s=>addsN a k l (min 1125899906842624 (s+needP k (a.fPods.at i)))
theorem addsN_app (a:D33) (k i:Nat):∀ (l:List Nat) (s:Int),addsN a k (l++[i]) s=min 1125899906842624 (addsN a k l s+needP k (a.fPods.at i))
 | [],_=>rfl
 | x::l,s=>addsN_app a k i l _
theorem usedTo_on (a:D33) (nm:BA) (k:Nat):∀ m,usedTo a nm k m=addsN a k (onL a nm m) 0
 | 0=>rfl
 | m+1=>by
  unfold usedTo onL
  rw [usedTo_on a nm k m]
  cases onB a nm m with
  | true=>rw [cond_true,cond_true,addsN_app]
  | false=>rfl
theorem onL_mem (a:D33) (nm:BA):∀ m i,i∈onL a nm m→i < m∧onB a nm i=true
 | 0,i,h=>by cases h
 | m+1,i,h=>by
  unfold onL at h
  cases hb:onB a nm m with
  | true=>
   rw [hb,cond_true,List.mem_append,List.mem_singleton] at h
   rcases h with h | rfl
   ·have:=onL_mem a nm m i h
    exact ⟨by omega,this.2⟩
   ·exact ⟨by omega,hb⟩
  | false=>
   rw [hb,cond_false] at h
   have:=onL_mem a nm m i h
   exact ⟨by omega,this.2⟩
theorem onL_len (a:D33) (nm:BA):∀ m,(onL a nm m).length≤m
 | 0=>Nat.le_refl 0
 | m+1=>by
  have:=onL_len a nm m
  unfold onL
  cases onB a nm m with
  | true=>rw [cond_true,List.length_append];simp;omega
  | false=>rw [cond_false];omega
theorem rowS_at {l:List BA} {t:Nat} {s:BA} (h:l[t]?=some s) {h':(t:Int).toNat < (rowS l).n}:(rowS l).g (Fin.mk (t:Int).toNat h')=[ts s]:=by
 obtain ⟨h1,rfl⟩:=List.getElem?_eq_some_iff.1 h
 show [ts (l[(t:Int).toNat]'h')]=[ts l[t]]
 simp only [Int.toNat_natCast]
theorem tail6 {a:D33} {R:Rw0} {n:Int} {j cn:Nat} (hj:j < 2 ^ 62) {c0 c1 s0 s1:Int} (hc0:inB c0) (hc1:inB c1) (h0:inB s0) (h1:inB s1) (m:Nat):
  (X6n (regs O) a (m+3)).x3 R R true n c0 c1 s0 s1 (max 0 (c0 - s0)) (max 0 (c1 - s1)) (cn:Int) s0 s1 (j:Int)=(X6n (regs O) a m).x0 R R true n ((j+1:Nat):Int) (cn:Int):=by
 have d0:subI .i64 c0 s0=c0 - s0:=by unfold subI;exact i64_in (by have:=hc0.1;have:=hc0.2;have:=h0.1;have:=h0.2;omega)
 have d1:subI .i64 c1 s1=c1 - s1:=by unfold subI;exact i64_in (by have:=hc1.1;have:=hc1.2;have:=h1.1;have:=h1.2;omega)
 have eqr:∀ x:Int,eqI x x=true:=fun x=>eqI_true.2 rfl
 rw [X6n,X6n,X6n]
 generalize X6n (regs O) a m=X
 simp only [X6s,b6_3,D6_4,b6_4,D6_5,b6_5,D6_0,d0,d1,bmax0,eqr,Bool.not_true,cond_false,addI_nat1 hj]
theorem in6 {a:D33} (ok:Ok33 a) {R:Rw0} {n:Int} {j cn:Nat} (hj:j < 2 ^ 62) (hcn:cn < 2 ^ 61) {nm:BA} {c0 c1 s0 s1:Int} (hc0:inB c0) (hc1:inB c1) {L:List Nat} (hL:∀ i∈L,i < a.fPods.n∧onB a nm i=true) (hlen:L.length < 2 ^ 61) {V:S}
  (hV:Ev (fun m=>(X6n (regs O) a m).x0 R R true n ((j+1:Nat):Int) ((cn+L.length:Nat):Int)) V):∀ (l:List Nat) (t:Nat) (u v:Int) (b:Bool),L.drop t=l→t+l.length=L.length→inB u→inB v→(b=false→addsN a 0 l u=s0∧addsN a 1 l v=s1)→
  Ev (fun m=>(X6n (regs O) a m).x2 R R (rowS (L.map (podN a))) true n (ofN (rowS (L.map (podN a))).n) nm c0 c1 s0 s1 (max 0 (c0 - s0)) (max 0 (c1 - s1)) (t:Int) b ((cn+t:Nat):Int) u v (j:Int)) V
 | [],t,u,v,b,hd,ht,hu,hv,hb=>by
  have ht:t=L.length:=by simpa using ht
  have hnl:¬ t < (rowS (L.map (podN a))).n:=by show ¬ t < (L.map (podN a)).length;rw [List.length_map];omega
  cases b with
  | true=>
   refine Ev.by 1 (fun m=>?_) hV
   rw [X6n]
   generalize X6n (regs O) a m=X
   simp only [X6s,b6_2,D6_0,ltI_nat,hnl,decide_false,cond_false,cond_true,addI_nat1 hj]
   rw [ht]
  | false=>
   obtain ⟨e0,e1⟩:=hb rfl
   have e0:u=s0:=e0
   have e1:v=s1:=e1
   subst e0 e1
   refine Ev.by 4 (fun m=>?_) hV
   have h3:=tail6 (a:=a) (R:=R) (n:=n) (cn:=cn+t) hj hc0 hc1 hu hv m
   rw [X6n]
   generalize X6n (regs O) a (m+3)=X at h3 ⊢
   simp only [X6s,b6_2,D6_3,ltI_nat,hnl,decide_false,cond_false]
   rw [h3,ht]
 | i::l,t,u,v,b,hd,ht,hu,hv,hb=>by
  have hg:L[t]?=some i:=by
   have:(L.drop t)[0]?=L[t+0]?:=List.getElem?_drop
   rw [hd] at this
   simpa using this.symm
  obtain ⟨hlt,hgi⟩:=List.getElem?_eq_some_iff.1 hg
  obtain ⟨hi,hon⟩:=hL i (hgi ▸ List.getElem_mem hlt)
  have hd1:L.drop (t+1)=l:=by rw [← List.tail_drop,hd];rfl
  have hlt2:t < (rowS (L.map (podN a))).n:=by show t < (L.map (podN a)).length;rw [List.length_map];exact hlt
  have hgm:(L.map (podN a))[t]?=some (podN a i):=by rw [List.getElem?_map,hg];rfl
  have hn:=ok.need hi
  have hp:inB (a.fPods.at i).fNeed_0:=hn.1
  have hq:inB (a.fPods.at i).fNeed_1:=hn.2
  have hpn:a.fPods.n < 2 ^ 62:=by have:=ok.pods;omega
  have ht2:t < 2 ^ 62:=by omega
  have hc2:cn+t < 2 ^ 62:=by omega
  obtain ⟨w,hw,hW⟩:=cells9 (podN a i)
  obtain ⟨y,hy12,hy11,hy2,hy3,hK⟩:=c17 a hpn hi (strEq_iff.2 rfl) (fun k hk=>ord_ne ok.podOrd hk hi)
  obtain ⟨z,hz0,hz1,hz2,hM⟩:=c18 hu hv hp hq
  have hon:strEq (a.fPods.at i).fOn nm=true:=hon
  have next:=in6 ok hj hcn hc0 hc1 hL hlen hV l (t+1) (bif fitB u v (a.fPods.at i).fNeed_0 (a.fPods.at i).fNeed_1 then u+(a.fPods.at i).fNeed_0 else 0) (bif fitB u v (a.fPods.at i).fNeed_0 (a.fPods.at i).fNeed_1 then v+(a.fPods.at i).fNeed_1 else 0) (b || !fitB u v (a.fPods.at i).fNeed_0 (a.fPods.at i).fNeed_1) hd1 (by rw [List.length_cons] at ht;omega) (by
    cases hf:fitB u v (a.fPods.at i).fNeed_0 (a.fPods.at i).fNeed_1 with
    | false=>exact ⟨Int.le_refl 0,show (0:Int)≤1125899906842624 by decide⟩
    | true=>
     unfold fitB at hf
     rw [Bool.and_eq_true,decide_eq_true_eq,decide_eq_true_eq] at hf
     exact ⟨by rw [cond_true];have:=hu.1;have:=hp.1;omega,hf.1⟩) (by
    cases hf:fitB u v (a.fPods.at i).fNeed_0 (a.fPods.at i).fNeed_1 with
    | false=>exact ⟨Int.le_refl 0,show (0:Int)≤1125899906842624 by decide⟩
    | true=>
     unfold fitB at hf
     rw [Bool.and_eq_true,decide_eq_true_eq,decide_eq_true_eq] at hf
     exact ⟨by rw [cond_true];have:=hv.1;have:=hq.1;omega,hf.2⟩) (by
    intro hb2
    rw [Bool.or_eq_false_iff,Bool.not_eq_false'] at hb2
    obtain ⟨f0,f1⟩:=hb hb2.1
    have hf:=hb2.2
    rw [hf,cond_true,cond_true]
    unfold fitB at hf
    rw [Bool.and_eq_true,decide_eq_true_eq,decide_eq_true_eq] at hf
    have g0:addsN a 0 (i::l) u=addsN a 0 l (min 1125899906842624 (u+(a.fPods.at i).fNeed_0)):=rfl
    have g1:addsN a 1 (i::l) v=addsN a 1 l (min 1125899906842624 (v+(a.fPods.at i).fNeed_1)):=rfl
    rw [g0,Int.min_eq_right hf.1] at f0
    rw [g1,Int.min_eq_right hf.2] at f1
    exact ⟨f0,f1⟩)
  refine Ev.by 1 (fun m=>?_) next
  rw [X6n]
  generalize X6n (regs O) a m=X
  simp only [X6s,b6_2,D6_2,ltI_nat,hlt2,decide_true,cond_true,elemO_nat hlt2,rowS_at hgm,hW,hw,hK,hy12,hy11,hon,hy2,hy3,hM,hz0,hz1,hz2,Bool.not_true,cond_false,addI_nat1 ht2,addI_nat1 hc2]
  cases b<;>rfl
def sumN:Nat→(Nat→Nat)→Nat
 | 0,_=>0
 | c+1,f=>sumN c f+f c
theorem sumN_add (f g:Nat→Nat):∀ c,sumN c (fun j=>f j+g j)=sumN c f+sumN c g
 | 0=>rfl
 | c+1=>by
  unfold sumN
  rw [sumN_add f g c]
  have:(fun j=>f j+g j) c=f c+g c:=rfl
  omega
theorem sumN_zero {f:Nat→Nat}:∀ c,(∀ j,j < c→f j=0)→sumN c f=0
 | 0,_=>rfl
 | c+1,h=>by
  unfold sumN
  rw [sumN_zero c fun j hj=>h j (by omega),h c (by omega)]
theorem sumN_one {f:Nat→Nat} {i:Nat}:∀ c,i < c→f i=1→(∀ j,j < c→j≠i→f j=0)→sumN c f=1
 | 0,hi,_,_=>by omega
 | c+1,hi,h1,h=>by
  unfold sumN
  by_cases e:i=c
  ·subst e
   rw [sumN_zero i fun j hj=>h j (by omega) (by omega),h1]
  ·rw [sumN_one c (by omega) h1 fun j hj hn=>h j (by omega) hn,h c (by omega) (by omega)]
theorem sumN_le {f:Nat→Nat} {b:Nat}:∀ c,(∀ j,j < c→f j≤b)→sumN c f≤c*b
 | 0,_=>by unfold sumN;omega
 | c+1,h=>by
  have:=sumN_le c fun j hj=>h j (by omega)
  have:=h c (by omega)
  unfold sumN
  rw [Nat.succ_mul]
  omega
theorem sumN_eq {f g:Nat→Nat}:∀ c,(∀ j,j < c→f j=g j)→sumN c f=sumN c g
 | 0,_=>rfl
 | c+1,h=>by
  unfold sumN
  rw [sumN_eq c fun j hj=>h j (by omega),h c (by omega)]
def bN (b:Bool):Nat:=bif b then 1 else 0
def heldN (a:D33):Nat→Nat
 | 0=>0
 | m+1=>heldN a m+bN (!strEq (a.fPods.at m).fOn (bs []))
theorem onL_succ (a:D33) (nm:BA) (m:Nat):(onL a nm (m+1)).length=(onL a nm m).length+bN (onB a nm m):=by
 show (bif onB a nm m then onL a nm m++[m] else onL a nm m).length=_
 cases onB a nm m with
 | true=>rw [cond_true,List.length_append];rfl
 | false=>rfl
theorem held_one {a:D33} (ok:Ok33 a) {m:Nat} (hm:m < a.fPods.n):sumN a.fClaims.n (fun j=>bN (onB a (claimNm a j) m))=bN (!strEq (a.fPods.at m).fOn (bs [])):=by
 have e0:strEq (a.fPods.at m).fOn (bs [])=decide (sizeN (a.fPods.at m).fOn=0):=by
  rw [Bool.eq_iff_iff,strEq_iff,decide_eq_true_eq]
  constructor
  ·intro h;rw [h];rfl
  ·intro h
   refine bytes_eq ?_
   have h2:(a.fPods.at m).fOn.data.size=0:=h
   show (a.fPods.at m).fOn.data.toList=[]
   rw [← Array.length_toList] at h2
   exact List.eq_nil_of_length_eq_zero h2
 by_cases h:sizeN (a.fPods.at m).fOn=0
 ·rw [e0,decide_eq_true h]
  refine sumN_zero _ fun j hj=>?_
  have:onB a (claimNm a j) m=false:=by
   cases hb:onB a (claimNm a j) m with
   | false=>rfl
   | true=>
    have:=strEq_iff.1 (show strEq (a.fPods.at m).fOn (claimNm a j)=true from hb)
    rw [this] at h
    exact absurd h (ok.claimNe hj)
  rw [this]
  rfl
 ·rw [e0,decide_eq_false h]
  have hc:=(ok.podOn hm).resolve_left h
  unfold claimIn at hc
  obtain ⟨i,hi,hs⟩:=List.any_eq_true.1 hc
  have hi:i < a.fClaims.n:=List.mem_range.1 hi
  have hs:claimNm a i=(a.fPods.at m).fOn:=strEq_iff.1 hs
  refine sumN_one _ hi ?_ fun j hj hn=>?_
  ·have:onB a (claimNm a i) m=true:=strEq_iff.2 hs.symm
   rw [this]
   rfl
  ·have:onB a (claimNm a j) m=false:=by
    show strEq (a.fPods.at m).fOn (claimNm a j)=false
    rw [← hs]
    by_cases hlt:i < j
    ·exact ord_ne ok.claimOrd hlt hj
    ·rw [strEq_comm]
     exact ord_ne ok.claimOrd (by omega) hi
   rw [this]
   rfl
theorem held_all {a:D33} (ok:Ok33 a):∀ m,m≤a.fPods.n→sumN a.fClaims.n (fun j=>(onL a (claimNm a j) m).length)=heldN a m
 | 0,_=>sumN_zero _ fun j _=>rfl
 | m+1,hm=>by
  have e:sumN a.fClaims.n (fun j=>(onL a (claimNm a j) (m+1)).length)=sumN a.fClaims.n (fun j=>(onL a (claimNm a j) m).length+bN (onB a (claimNm a j) m)):=sumN_eq _ fun j _=>onL_succ a _ m
  rw [e,sumN_add,held_all ok m (by omega),held_one ok (by omega)]
  rfl
theorem heldN_le (a:D33):∀ m k,heldN a m≤heldN a (m+k)
 | m,0=>Nat.le_refl _
 | m,k+1=>Nat.le_trans (heldN_le a m k) (Nat.le_add_right _ _)
theorem heldN_lt (a:D33):∀ m,heldN a m≤m
 | 0=>Nat.le_refl 0
 | m+1=>by
  have:=heldN_lt a m
  have:bN (!strEq (a.fPods.at m).fOn (bs []))≤1:=by cases strEq (a.fPods.at m).fOn (bs [])<;>decide
  show heldN a m+_≤_
  omega
abbrev cntN (a:D33) (j:Nat):Nat:=sumN j fun i=>(onL a (claimNm a i) a.fPods.n).length
theorem c6 (a:D33) (ha:sm33 a):Ret 6 [ag (e33 a)] (bb true):=by
 obtain ⟨w,hw,hW⟩:=yC_bool (by kernel_rfl) c8
 obtain ⟨y,hy,hK⟩:=yC_of (f:=11) (y0:=⟨fun _=>checkV a,fun _=>false,fun _=>⟨#[]⟩,fun _=>⟨(bif eqI (checkV a) 0 then nodesR a else ⟨0,fun i=>i.elim0⟩:Rw D55).n,fun i=>e55 ((bif eqI (checkV a) 0 then nodesR a else ⟨0,fun i=>i.elim0⟩:Rw D55).get i)⟩,fun _=>[]⟩) (sh:=.tup [.rows 21 0,.int .i64 1]) (by kernel_rfl) (c11 a ha)
 simp only [build,buildL,S.tup.injEq,List.cons.injEq,S.t.injEq,T.v.injEq,Value.int.injEq,true_and,and_true] at hy
 obtain ⟨hr,hc⟩:=hy
 have hr:=rw0_of (sz:=21) (congrArg S.t hr)
 cases h:eqI (checkV a) 0 with
 | false=>
  rw [h] at hr
  refine W6 a 0 _ ?_
  simp only [e6_in,hW,hw,hK,hc,h,hr,Bool.not_false,cond_true]
  rfl
 | true=>
  rw [h] at hr
  have hr:y.r 0=rowJ a a.fClaims.n:=hr
  have ok:=ok33 (eqI_true.1 h)
  have hcl:=ok.claims
  have hpo:=ok.pods
  have hlen:∀ nm,(onL a nm a.fPods.n).length≤24:=fun nm=>Nat.le_trans (onL_len a nm _) hpo
  have hcnt:∀ j,j≤a.fClaims.n→cntN a j≤384:=fun j hj=>Nat.le_trans (sumN_le (b:=24) j fun i _=>hlen _) (by omega)
  have fin:∀ k m,m+k=a.fPods.n→Ev (fun q=>(X6n (regs O) a q).x1 (rowJ a a.fClaims.n) true (m:Int) ((heldN a a.fPods.n - heldN a m:Nat):Int)) (bb true):=by
   intro k
   induction k with
   | zero=>
    intro m hm
    obtain rfl:m=a.fPods.n:=by omega
    refine Ev.one 1 fun q=>?_
    rw [X6n]
    generalize X6n (regs O) a q=X
    simp only [X6s,b6_1,ltI_nat,Nat.lt_irrefl,decide_false,cond_false,cond_true,Nat.sub_self]
    simp [eqI,rowJ]
   | succ k ih=>
    intro m hm
    have hm1:m < a.fPods.n:=by omega
    have hm2:m < 2 ^ 62:=by omega
    have l1:=heldN_le a (m+1) k
    rw [show m+1+k=a.fPods.n by omega] at l1
    have l2:=heldN_lt a a.fPods.n
    have e:heldN a (m+1)=heldN a m+bN (!strEq (a.fPods.at m).fOn (bs [])):=rfl
    refine Ev.by 1 (fun q=>?_) (ih (m+1) (by omega))
    rw [X6n]
    generalize X6n (regs O) a q=X
    simp only [X6s,b6_1,D6_1,ltI_nat,elemO_nat hm1,get_nat,hm1,decide_true,cond_true,addI_nat1 hm2]
    cases hs:strEq (a.fPods.at m).fOn (bs []) with
    | true=>
     rw [hs] at e
     have e:heldN a (m+1)=heldN a m:=e
     rw [e]
     rfl
    | false=>
     rw [hs] at e
     have e:heldN a (m+1)=heldN a m+1:=e
     have s:subI .i64 ((heldN a a.fPods.n - heldN a m:Nat):Int) 1=((heldN a a.fPods.n - heldN a (m+1):Nat):Int):=by
      unfold subI
      rw [i64_in (by omega)]
      omega
     rw [s]
     rfl
  have all:∀ k j,j+k=a.fClaims.n→Ev (fun q=>(X6n (regs O) a q).x0 (rowJ a a.fClaims.n) (rowJ a a.fClaims.n) true (ofN (rowJ a a.fClaims.n).n) (j:Int) (cntN a j:Int)) (bb true):=by
   intro k
   induction k with
   | zero=>
    intro j hj
    obtain rfl:j=a.fClaims.n:=by omega
    have hnl:¬ a.fClaims.n < (rowJ a a.fClaims.n).n:=Nat.lt_irrefl _
    have e:cntN a a.fClaims.n=heldN a a.fPods.n:=held_all ok a.fPods.n (Nat.le_refl _)
    refine Ev.by 1 (fun q=>?_) (fin a.fPods.n 0 (by omega))
    rw [X6n]
    generalize X6n (regs O) a q=X
    simp only [X6s,b6_0,D6_1,ltI_nat,hnl,decide_false,cond_false,e]
    rfl
   | succ k ih=>
    intro j hj
    have hlt:j < a.fClaims.n:=by omega
    have hlt2:j < (rowJ a a.fClaims.n).n:=hlt
    have hV:=ih (j+1) (by omega)
    have hcap:=ok.cap hlt
    obtain ⟨z,z0,z7,z8,z16,z17,z18,z19,z20,hZ⟩:=cells55 (nodeV a j)
    have hg:∀ h,(rowJ a a.fClaims.n).g ⟨(j:Int).toNat,h⟩=e55 (nodeV a j):=fun h=>by
     show e55 (nodeV a (j:Int).toNat)=_
     rw [Int.toNat_natCast]
    have z20:z.r 20=rowS ((onL a (claimNm a j) a.fPods.n).map (podN a)):=by
     rw [z20,← podsTo_on]
     rfl
    have z16:z.i 16=usedN a (claimNm a j) 0:=z16
    have z17:z.i 17=usedN a (claimNm a j) 1:=z17
    have z18:z.i 18=max 0 ((a.fClaims.at j).fCap_0 - usedN a (claimNm a j) 0):=z18
    have z19:z.i 19=max 0 ((a.fClaims.at j).fCap_1 - usedN a (claimNm a j) 1):=z19
    have z0:z.s 0=claimNm a j:=z0
    have z7:z.i 7=(a.fClaims.at j).fCap_0:=z7
    have z8:z.i 8=(a.fClaims.at j).fCap_1:=z8
    have c0:=hcnt j (by omega)
    have start:=in6 ok (R:=rowJ a a.fClaims.n) (n:=ofN (rowJ a a.fClaims.n).n) (j:=j) (cn:=cntN a j) (by omega) (by omega) (nm:=claimNm a j) hcap.1 hcap.2 (onL_mem a (claimNm a j) a.fPods.n) (by have:=hlen (claimNm a j);omega) hV
     (onL a (claimNm a j) a.fPods.n) 0 0 0 false rfl (Nat.zero_add _) ⟨Int.le_refl 0,show (0:Int)≤1125899906842624 by decide⟩ ⟨Int.le_refl 0,show (0:Int)≤1125899906842624 by decide⟩ (fun _=>⟨(usedTo_on a _ 0 _).symm,(usedTo_on a _ 1 _).symm⟩)
    refine Ev.by 1 (fun q=>?_) start
    rw [X6n]
    generalize X6n (regs O) a q=X
    simp only [X6s,b6_0,D6_2,ltI_nat,hlt2,decide_true,cond_true,elemO_nat hlt2,hg,hZ,z0,z7,z8,z16,z17,z18,z19,z20]
    rfl
  obtain ⟨n,hn⟩:=(all a.fClaims.n 0 (by omega)).get
  refine W6 a n _ ?_
  simp only [e6_in,hW,hw,hK,hc,h,hr,Bool.not_true,cond_false,D6_0]
  exact hn
end
end Go.Proofs.YtonkoellfaopiaaGreatDoor.H
