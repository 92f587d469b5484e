import Derived.Test.YtonkoellfaopiaaGreatDoorD9
import Derived.Test.YtonkoellfaopiaaGreatDoorD10
import Derived.Test.YtonkoellfaopiaaGreatDoorD11
import Derived.Test.YtonkoellfaopiaaGreatDoorD12
import Derived.Test.YtonkoellfaopiaaGreatDoorD13
import Derived.Test.YtonkoellfaopiaaGreatDoorD14
import Derived.Test.YtonkoellfaopiaaGreatDoorD15
import Derived.Test.YtonkoellfaopiaaGreatDoorD16
import Derived.Test.YtonkoellfaopiaaGreatDoorD17
set_option linter.unusedSimpArgs false
set_option linter.unusedVariables false
set_option linter.unusedSectionVars false
namespace Go.Proofs.YtonkoellfaopiaaGreatDoor.H
open Go
noncomputable section
def within (a lo hi:Int):Bool:=cT a lo && bp a hi
theorem c22 (a:Int):ca 22 [ii a] (bb (within a 0 1099511627776)):=W22 a 1 _ (by
 unfold H2 within
 cases cT a 0<;>rfl)
theorem c31 (a:Int):ca 31 [ii a] (bb (within a 0 1099511627776)):=W31 a 1 _ (by
 unfold H5 within
 cases cT a 0<;>rfl)
theorem c23 (a:Int):ca 23 [ii a] (bb (within a 0 1073741824)):=W23 a 1 _ (by
 unfold HH within
 cases cT a 0<;>rfl)
theorem c32 (a:Int):ca 32 [ii a] (bb (within a 0 1073741824)):=W32 a 1 _ (by
 unfold FP within
 cases cT a 0<;>rfl)
theorem Mt (a b c:Int):ca 112 [ii a,ii b,ii c] (bb (within a b c)):=ahZ a b c 1 _ (by
 unfold xO within
 cases cT a b<;>rfl)
theorem c74 (a b c:Int):ca 74 [ii a,ii b,ii c] (bb (within a b c)):=W74 a b c 1 _ (by
 unfold HL within
 cases cT a b<;>rfl)
theorem MQ (a:Bool) (b:Int):ca 108 [bb a,ii b] (ii (bif a then 0 else b)):=ajQ a b 0 _ (by
 unfold zz
 cases a<;>rfl)
def rh (a:Int):Int:=bif bm a 0 then 11 else bif bl a 1125899906842624 then 10 else 0
theorem Xj (a:Int):ca 113 [ii a] (ii (rh a)):=ajI a 0 _ (by
 unfold Bb rh
 cases bm a 0<;>cases bl a 1125899906842624<;>rfl)
theorem c91 (a:Int):ca 91 [ii a] (ii (rh a)):=W91 a 0 _ (by
 unfold Es rh
 cases bm a 0<;>cases bl a 1125899906842624<;>rfl)
theorem cJ {a b:Int}:aR a b=true↔a=b:=by unfold aR;simp
theorem k_ {a b:Int}:aR a b=false↔a≠b:=by unfold aR;simp
def kl (a b:Int):Int:=bif !aR (rh a) 0 then rh a else rh b
theorem G7 (a b:Int):ca 102 [S.agg [ii a,ii b]] (ii (kl a b)):=ah3 ⟨a,b⟩ 3 _ (by
 obtain ⟨y,hy,hK⟩:=aN (by kernel_rfl) (Xj a)
 obtain ⟨z,hz,hL⟩:=aN (by kernel_rfl) (Xj b)
 simp only [ym,Ie,Gf,Ed,xf,Yn,Fl,FB,FL,hK,hL,hy,hz]
 unfold kl
 cases h:aR (rh a) 0 with
 | false=>rfl
 | true=>
  cases h':aR (rh b) 0 with
  | false=>rfl
  | true=>rw [cJ.1 h'];rfl)
theorem c49 (a b:Int):ca 49 [S.agg [ii a,ii b]] (ii (kl a b)):=W49 ⟨a,b⟩ 0 _ (by
 obtain ⟨y,hy,hK⟩:=aN (by kernel_rfl) (c91 a)
 obtain ⟨z,hz,hL⟩:=aN (by kernel_rfl) (c91 b)
 simp only [GQ,hK,hL,hy,hz]
 unfold kl
 cases h:aR (rh a) 0<;>rfl)
def both (a b c d:Int):Int:=bif !aR (kl a b) 0 then kl a b else kl c d
theorem c143 (a b c d:Int):ca 143 [S.agg [ii a,ii b],S.agg [ii c,ii d]] (ii (both a b c d)):=ajf ⟨a,b⟩ ⟨c,d⟩ 0 _ (by
 obtain ⟨y,hy,hK⟩:=aN (by kernel_rfl) (G7 a b)
 obtain ⟨z,hz,hL⟩:=aN (by kernel_rfl) (G7 c d)
 simp only [Bt,ew,ag,List.map,hK,hL,hy,hz]
 unfold both
 cases h:aR (kl a b) 0<;>rfl)
theorem c48 (a b c d:Int):ca 48 [S.agg [ii a,ii b],S.agg [ii c,ii d]] (ii (both a b c d)):=W48 ⟨a,b⟩ ⟨c,d⟩ 0 _ (by
 obtain ⟨y,hy,hK⟩:=aN (by kernel_rfl) (c49 a b)
 obtain ⟨z,hz,hL⟩:=aN (by kernel_rfl) (c49 c d)
 simp only [F3,ew,ag,List.map,hK,hL,hy,hz]
 unfold both
 cases h:aR (kl a b) 0<;>rfl)
def yII (x y:Int):Y:=⟨fun i=>match i with | 0=>x | _=>y,fun _=>false,fun _=>⟨#[]⟩,fun _=>⟨0,fun i=>i.elim0⟩,fun _=>[]⟩
theorem Sb {f:FuncId} {args:List S} {x z:Int} (hs:wh O.P f=some (.agg [.int .i64 0,.int .i64 1])) (h:ca f args (S.agg [ii x,ii z])):∃ y:Y,y.i 0=x∧y.i 1=z∧∀ (ρ:Type) (K:Y→Option ρ),yC (aa O) f args K=K y:=by
 obtain ⟨y,h1,h2⟩:=iR (y0:=yII x z) hs h
 simp only [build,gb,yII,S.agg.injEq,List.cons.injEq,S.t.injEq,T.v.injEq,Value.int.injEq,true_and,and_true] at h1
 exact ⟨y,h1.1,h1.2,h2⟩
def mn (a b:Int):Int:=bif decide (b < a) then b else a
theorem adn (a b c d:Int):ca 144 [S.agg [ii a,ii b],S.agg [ii c,ii d]] (S.agg [ii (mn a c),ii (mn b d)]):=ahV ⟨a,b⟩ ⟨c,d⟩ 3 _ (by
 simp only [Aw,EF,Hl,Hq,wE,Yk,Ei,FI,Fh]
 unfold mn
 cases decide (c < a)<;>cases decide (d < b)<;>rfl)
theorem ZS {a b:Int}:aR (mn a b) a=bp a b:=by
 unfold aR mn bp
 by_cases h:b < a
 ·simp [h];omega
 ·simp [h];omega
theorem Uy {a b:Int}:aR (mn a b) b=bp b a:=by
 unfold aR mn bp
 by_cases h:b < a
 ·simp [h];omega
 ·simp [h];omega
def fits (a b c d:Int):Bool:=aR (both a b c d) 0 && (bp a c && bp b d)
theorem aiD (a b c d:Int):ca 103 [S.agg [ii a,ii b],S.agg [ii c,ii d]] (bb (fits a b c d)):=aiT ⟨a,b⟩ ⟨c,d⟩ 1 _ (by
 obtain ⟨y,hy,hK⟩:=aN (by kernel_rfl) (c143 a b c d)
 obtain ⟨z,hz,hz',hL⟩:=Sb (by kernel_rfl) (adn a b c d)
 simp only [yw,ew,ag,List.map,F4,Ke,XN,E5,hK,hL,hy,hz,hz',ZS,Bool.and_true]
 unfold fits
 cases h:aR (both a b c d) 0<;>rfl)
theorem aia (a b c d:Int):ca 125 [S.agg [ii a,ii b],S.agg [ii c,ii d]] (bb (fits a b c d)):=aiJ ⟨a,b⟩ ⟨c,d⟩ 2 _ (by
 obtain ⟨y,hy,hK⟩:=aN (by kernel_rfl) (c48 a b c d)
 simp only [AY,ew,ag,List.map,FK,Ew,C8,XZ,Ek,HZ,hK,hy]
 unfold fits
 cases h:aR (both a b c d) 0<;>cases h':bp a c<;>rfl)
def Z7 (a b c d:Int):Int:=bif !aR (both a b c d) 0 then both a b c d else bif bp c a && bp d b then 0 else 11
def LX (a b c d x y:Int):Int:=bif aR (both a b c d) 0 && (bp c a && bp d b) then bF .i64 x y else 0
abbrev Uk (a b c d:Int):S:=.bJ [.agg [ii (LX a b c d a c),ii (LX a b c d b d)],ii (Z7 a b c d)]
theorem ez {a b:Int}:bl a b=!bp a b:=by
 unfold bl bp
 by_cases h:a≤b
 ·simp [h]
 ·simp [h];omega
theorem aeS (a b c d:Int):ca 115 [S.agg [ii a,ii b],S.agg [ii c,ii d]] (Uk a b c d):=ais ⟨a,b⟩ ⟨c,d⟩ 3 _ (by
 obtain ⟨y,hy,hK⟩:=aN (by kernel_rfl) (c143 a b c d)
 obtain ⟨z,hz,hz',hL⟩:=Sb (by kernel_rfl) (adn a b c d)
 simp only [Ak,ew,ag,List.map,HY,Fc,FU,xx,Xr,Ij,EL,FV,hK,hL,hy,hz,hz',Uy,Bool.and_true,Uk]
 unfold LX Z7
 cases h:aR (both a b c d) 0<;>cases h1:bp c a<;>cases h2:bp d b<;>rfl)
theorem afR (a b c d:Int):ca 132 [S.agg [ii a,ii b],S.agg [ii c,ii d]] (Uk a b c d):=ai0 ⟨a,b⟩ ⟨c,d⟩ 0 _ (by
 obtain ⟨y,hy,hK⟩:=aN (by kernel_rfl) (c48 a b c d)
 simp only [Bj,ew,ag,List.map,hK,hy,ez,Uk]
 unfold LX Z7
 cases h:aR (both a b c d) 0<;>cases h1:bp c a<;>cases h2:bp d b<;>rfl)
def sm (n:Nat):Prop:=n≤140737488355327
theorem cF {n:Nat} (h:sm n):n < 2 ^ 62:=by unfold sm at h;omega
theorem iB {a b:Int}:bm a b=!cT a b:=by unfold bm cT;by_cases h:a < b<;>simp [h]<;>omega
theorem aA {j:Nat} (h:j < 2 ^ 62):a7 .i64 (j:Int) 1=((j+1:Nat):Int):=Sz h
theorem B_ {j:Nat}:aR (j:Int) 0=decide (j=0):=by unfold aR;simp
theorem vE (a:ByteArray) (ha:sm (aM a)):ca 101 [ss a] (bb (ba a)):=by
 have hn:=cF ha
 have key:Ev (fun m=>(pI (aa O) a m).x0 0) (bb (ba a)):=by
  have:=Ev.X6 (X:=fun m j=>(pI (aa O) a m).x0 j) 2 (aM a) (fun j=>bif Ea (rY a j) (decide (j=0)) then none else some (bb false)) (bb (!decide (aM a=0) && decide (aM a≤16))) (fun m j hj=>by
   have hj2:j < 2 ^ 62:=by omega
   simp only [pI,QM,yd,H4,zk,AU,EZ,aq,av hj,F5,hj,decide_true,cond_true,aA hj2,B_]
   simp only [iB,ez]
   generalize rY a j=c
   unfold Ea
   cases cT c 97<;>cases bp c 122<;>cases decide (j=0)<;>cases aR c 46<;>cases aR c 45<;>cases cT c 48<;>cases bp c 57<;>rfl) (fun m=>by
   simp only [pI,QM,yd,Hi,AU,aq,Nat.lt_irrefl,decide_false,cond_false,dz]
   have:bp (cI a) 16=decide (aM a≤16):=by unfold bp cI aM;congr 1;simp;omega
   rw [this]
   cases decide (aM a=0)<;>rfl)
  rw [ua (p:=fun j=>Ea (rY a j) (decide (j=0))) (fun j=>rfl)] at this
  have e:(bif (List.range (aM a)).all (fun j=>Ea (rY a j) (decide (j=0))) then bb (!decide (aM a=0) && decide (aM a≤16)) else bb false)=bb (ba a):=by
   unfold ba
   cases (List.range (aM a)).all (fun j=>Ea (rY a j) (decide (j=0)))<;>cases decide (aM a=0)<;>cases decide (aM a≤16)<;>rfl
  rw [← e]
  exact this
 obtain ⟨n,h⟩:=key.get
 refine aiR a n _ ?_
 have hr:S5 a=true:=by unfold S5;unfold sm at ha;unfold aM at ha;simp [gw];omega
 simp only [Bp,hr,cond_true]
 exact h
theorem gF {a:ByteArray}:cI a=ay (aM a):=rfl
theorem vW (a:ByteArray) (ha:sm (aM a)):ca 71 [ss a] (bb (ba a)):=by
 have hn:=cF ha
 have loop:Ev (fun m=>(pz (aa O) a m).x2 0) (bif (List.range (aM a)).all (fun j=>Ea (rY a j) false) then bb true else bb false):=by
  have:=Ev.X6 (X:=fun m j=>(pz (aa O) a m).x2 j) 4 (aM a) (fun j=>bif Ea (rY a j) false then none else some (bb false)) (bb true) (fun m j hj=>by
   have hj2:j < 2 ^ 62:=by omega
   simp only [pz,PJ,K9,OE,Oe,P5,DR,Tw,NQ,Ua,gF,aq,nh hj,hj,decide_true,cond_true,aA hj2]
   simp only [iB,ez]
   generalize rY a j=c
   unfold Ea
   cases cT c 97<;>cases bp c 122<;>cases aR c 46<;>cases aR c 45<;>cases cT c 48<;>cases bp c 57<;>rfl) (fun m=>by
   simp only [pz,PJ,K9,gF,aq,Nat.lt_irrefl,decide_false,cond_false])
  rw [ua (p:=fun j=>Ea (rY a j) false) (fun j=>rfl)] at this
  exact this
 by_cases h0:aM a=0
 ·refine W71 a 2 _ ?_
  have e1:bm (ay 0) 1=true:=rfl
  simp only [Bl,gF,h0,e1,cond_true,Ly,Je,pz,PJ,Lz,IN,ba,decide_true,Bool.not_true,Bool.false_and]
 ·have h1:bm (ay (aM a)) 1=false:=by unfold bm ay;simp;omega
  have h2:bl (ay (aM a)) 16=!decide (aM a≤16):=by unfold bl ay;by_cases h:aM a≤16<;>simp [h]<;>omega
  have h3:∀ (K:Int→Option S),mP 0 a K=K (rY a 0):=fun K=>nh (j:=0) (by omega)
  have all0:(List.range (aM a)).all (fun j=>Ea (rY a j) (decide (j=0)))=((cT (rY a 0) 97 && bp (rY a 0) 122) && (List.range (aM a)).all (fun j=>Ea (rY a j) false)):=by
   rw [Bool.eq_iff_iff]
   simp only [List.all_eq_true,List.mem_range,Bool.and_eq_true]
   constructor
   ·intro h
    have h4:=h 0 (by omega)
    simp only [Ea,decide_true,Bool.not_true,Bool.false_and,Bool.or_false,Bool.and_eq_true] at h4
    refine ⟨h4,fun j hj=>?_⟩
    have h5:=h j hj
    unfold Ea at h5 ⊢
    cases hd:decide (j=0) with
    | false=>rw [hd] at h5;exact h5
    | true=>
     rw [hd] at h5
     simp only [Bool.not_true,Bool.false_and,Bool.or_false] at h5
     rw [h5];rfl
   ·rintro ⟨⟨h4,h4'⟩,h5⟩ j hj
    have h6:=h5 j hj
    by_cases hd:j=0
    ·subst hd
     simp [Ea,h4,h4']
    ·simp only [hd,decide_false]
     exact h6
  obtain ⟨n,hl⟩:=loop.get
  refine W71 a (n+2) _ ?_
  simp only [Bl,gF,h1,h2,h3,cond_false,Ly,Je,DR,pz,PJ,Lz,IN,iB,ez,hl,ba,h0,decide_false,Bool.not_false,Bool.true_and,all0]
  cases decide (aM a≤16)<;>cases cT (rY a 0) 97<;>cases bp (rY a 0) 122<;>cases (List.range (aM a)).all (fun j=>Ea (rY a j) false)<;>rfl
theorem agm (a:Rw Int) (ha:a.n < 2 ^ 62):ca 107 [S.t (T.rows 1 a.n fun i=>e3 (a.get i))] (ii (bg a.n a.at)):=by
 have key:=Ev.jc (X:=fun m j=>(xq (aa O) a m).x0 (j:Int)) 1 a.n a.at (fun m j hj=>by
  have hj2:j < 2 ^ 62:=by omega
  simp only [xq,Tj,zP,tS,aq,av hj,aK,hj,decide_true,cond_true,aA hj2]) (fun m=>by
  simp only [xq,Tj,zP,tS,aq,Nat.lt_irrefl,decide_false,cond_false])
 obtain ⟨n,h⟩:=key.get
 exact ai6 a n _ h
def dw:List Int→Int
 | []=>0
 | e::l=>bif !aR e 0 then e else dw l
theorem wm (l:List Int):bg (nK l).n (nK l).at=dw l:=by
 have:∀ (l r:List Int),((List.range' r.length l.length).findSome? fun j=>bif !(aR ((r++l).getD j 0) 0) then some ((r++l).getD j 0) else none).getD 0=dw l:=by
  intro l
  induction l with
  | nil=>intro r;rfl
  | cons e l ih=>
   intro r
   have e1:(r++e::l).getD r.length 0=e:=by simp
   simp only [List.length_cons,List.range'_succ,List.findSome?_cons,e1,dw]
   cases aR e 0 with
   | false=>rfl
   | true=>
    have:=ih (r++[e])
    simp only [List.length_append,List.length_singleton,List.append_assoc,List.singleton_append] at this
    exact this
 have h:=this l []
 simp only [List.nil_append,List.length_nil] at h
 rw [← List.range_eq_range'] at h
 unfold bg
 have e2:(nK l).n=l.length:=rfl
 rw [e2,← h]
 congr 2
 funext j
 rw [acK]
 rfl
theorem c107 (l:List Int) (hl:l.length < 2 ^ 62):ca 107 [S.t (T.rows 1 l.length fun i=>List.take 1 (List.drop (i.1*1) (l.map ti)))] (ii (dw l)):=by
 rw [Uf,← wm]
 exact agm (nK l) hl
theorem c152 (a:ByteArray) (ha:sm (aM a)):ca 152 [ss a] (bb !ba a):=by
 obtain ⟨y,hy,hK⟩:=aB (by kernel_rfl) (vE a ha)
 exact ah4 a 0 _ (by simp only [zZ,hK,hy])
def smN (a:Rw ByteArray):Prop:=a.n < 2 ^ 62∧∀ j,j < a.n→sm (aM (a.at j))
def idx (n:Nat) (p:Nat→Bool):Int:=((List.range n).findSome? fun j=>bif p j then some (j:Int) else none).getD (-1)
theorem aaJ {n:Nat} {p:Nat→Bool}:((List.range n).findSome? fun j=>bif p j then some (ii (j:Int)) else none).getD (ii (-1))=ii (idx n p):=by
 unfold idx
 generalize List.range n=l
 induction l with
 | nil=>rfl
 | cons j l ih=>
  simp only [List.findSome?_cons]
  cases p j with
  | true=>rfl
  | false=>exact ih
theorem je {n:Nat} {p:Nat→Bool}:cT (idx n p) 0=(List.range n).any p:=by
 unfold idx
 generalize List.range n=l
 induction l with
 | nil=>rfl
 | cons j l ih=>
  simp only [List.findSome?_cons,List.any_cons]
  cases p j with
  | true=>unfold cT;simp
  | false=>simpa using ih
theorem Ev.rW {X:Nat→Nat→Option S} (c n:Nat) (p:Nat→Bool) (step:∀ m j,j < n→X (m+c) j=bif p j then some (ii (j:Int)) else X m (j+1)) (stop:∀ m,X (m+c) n=some (ii (-1))):Ev (fun m=>X m 0) (ii (idx n p)):=by
 have:=Ev.tR (X:=X) n (fun j=>bif p j then some (ii (j:Int)) else none) (ii (-1)) (fun j hj=>by
  cases h:p j with
  | true=>exact ⟨fun e he=>(by
    obtain rfl:=Option.some.inj he
    exact Ev.add c ⟨0,fun m _=>by show X (m+c) j=_;rw [step m j hj,h];rfl⟩),fun hn=>(by cases hn)⟩
  | false=>exact ⟨fun e he=>(by cases he),fun _ v hv=>Ev.add c (hv.of_eq fun m=>by rw [step m j hj,h];rfl)⟩) (Ev.add c ⟨0,fun m _=>stop m⟩)
 rw [aaJ] at this
 exact this
theorem aiF (a:Rw ByteArray) (ha:smN a):ca 186 [S.t (T.rows 1 a.n fun i=>[ts (a.get i)]),S.t (T.v (.func (Go.Fn.func 152) #[] #[]))] (ii (idx a.n fun j=>!ba (a.at j))):=by
 have key:=Ev.rW (X:=fun m j=>(xu (aa O) a m).x0 (j:Int)) 1 a.n (fun j=>!ba (a.at j)) (fun m j hj=>by
  have hj2:j < 2 ^ 62:=by have:=ha.1;omega
  obtain ⟨y,hy,hK⟩:=aB (by kernel_rfl) (c152 (a.at j) (ha.2 j hj))
  simp only [xu,SS,zA,uN,aq,av hj,aK,hj,decide_true,cond_true,aA hj2,hK,hy]) (fun m=>by
  simp only [xu,SS,zA,uN,aq,Nat.lt_irrefl,decide_false,cond_false];rfl)
 obtain ⟨n,h⟩:=key.get
 exact ahT a n _ h
theorem aj9 (a:Rw ByteArray) (ha:smN a):ca 151 [S.t (T.rows 1 a.n fun i=>[ts (a.get i)]),S.t (T.v (.func (Go.Fn.func 152) #[] #[]))] (bb ((List.range a.n).any fun j=>!ba (a.at j))):=by
 obtain ⟨y,hy,hK⟩:=aN (by kernel_rfl) (aiF a ha)
 exact aiY a 0 _ (by simp only [yk,hK,hy,je])
theorem ahr (a:Rw ByteArray) (ha:smN a):ca 109 [S.t (T.rows 1 a.n fun i=>[ts (a.get i)])] (bb ((List.range a.n).all fun j=>ba (a.at j))):=by
 obtain ⟨y,hy,hK⟩:=aB (by kernel_rfl) (aj9 a ha)
 refine ajE a 0 _ ?_
 simp only [xS,hK,hy,List.not_any_eq_all_not,Bool.not_not]
theorem c109 (l:List ByteArray) (hl:l.length < 2 ^ 62) (ha:∀ x∈l,sm (aM x)):ca 109 [S.t (T.rows 1 l.length fun i=>List.take 1 (List.drop (i.1*1) (l.map ts)))] (bb (l.all ba)):=by
 rw [Uf]
 have:=ahr (nK l) ⟨hl,fun j hj=>by
  have hj:j < l.length:=hj
  rw [pr hj]
  exact ha _ (List.getElem_mem hj)⟩
 have e:((List.range (nK l).n).all fun j=>ba ((nK l).at j))=l.all ba:=by
  rw [Bool.eq_iff_iff]
  simp only [List.all_eq_true,List.mem_range]
  constructor
  ·intro h x hx
   obtain ⟨j,hj,rfl⟩:=List.getElem_of_mem hx
   have:=h j hj
   rwa [pr hj] at this
  ·intro h j hj
   have hj:j < l.length:=hj
   rw [pr hj]
   exact h _ (List.getElem_mem hj)
 rw [e] at this
 exact this
def gr (a:ByteArray):Bool:=decide (aM a=0) || ba a
theorem Yw (a:ByteArray) (ha:sm (aM a)):ca 122 [ss a] (bb (gr a)):=by
 obtain ⟨y,hy,hK⟩:=aB (by kernel_rfl) (vE a ha)
 refine ah0 a 1 _ ?_
 simp only [AK,dz,hK,hy,Ef,Ja,Xw,G4]
 unfold gr
 cases decide (aM a=0)<;>rfl
theorem c130 (a b c:ByteArray) (ha:sm (aM a)) (hb:sm (aM b)) (hc:sm (aM c)):ca 130 [S.agg [ss a,ss b,ss c]] (bb (ba a && (ba b && ba c))):=by
 obtain ⟨y,hy,hK⟩:=aB (by kernel_rfl) (vW a ha)
 obtain ⟨z,hz,hL⟩:=aB (by kernel_rfl) (vW b hb)
 obtain ⟨x,hx,hM⟩:=aB (by kernel_rfl) (vW c hc)
 refine ajz ⟨a,b,c⟩ 2 _ ?_
 simp only [yL,GK,EE,DV,Xz,Ez,EO,hK,hL,hM,hy,hz,hx]
 cases ba a<;>cases ba b<;>rfl
theorem X5 {f:FuncId} {args:List S} {x:Int} {b:Bool} (hs:wh O.P f=some (.bJ [.int .i64 0,.bool 1])) (h:ca f args (S.bJ [ii x,bb b])):∃ y:Y,y.i 0=x∧y.b 1=b∧∀ (ρ:Type) (K:Y→Option ρ),yC (aa O) f args K=K y:=by
 obtain ⟨y,h1,h2⟩:=iR (y0:=⟨fun _=>x,fun _=>b,fun _=>⟨#[]⟩,fun _=>⟨0,fun i=>i.elim0⟩,fun _=>[]⟩) hs h
 simp only [build,gb,S.bJ.injEq,List.cons.injEq,S.t.injEq,T.v.injEq,Value.int.injEq,Value.bool.injEq,true_and,and_true] at h1
 exact ⟨y,h1.1,h1.2,h2⟩
theorem c183 (a:ByteArray) (ha:sm (aM a)):ca 183 [ss a] (S.bJ [ii ((kW a).getD 0),bb (kW a).isSome]):=by
 refine wL (F:=V7) rfl ?_
 have:a.size.ble 281474976710656=true:=by
  unfold sm aM at ha
  exact Nat.ble_eq_true_of_le (by omega)
 show (bif a.size.ble 281474976710656 then some (S.bJ [ii ((kW a).getD 0),bb (kW a).isSome]) else none)=_
 rw [this];rfl
theorem c146 (a:ByteArray) (ha:sm (aM a)):ca 146 [ss a] (bb (jr a)):=by
 obtain ⟨y,h1,h2,hK⟩:=X5 (by kernel_rfl) (c183 a ha)
 obtain ⟨z,hz,hL⟩:=aB (by kernel_rfl) (vE a ha)
 refine aii a 1 _ ?_
 simp only [yS,hK,h1,h2,hL,hz,F8,Lj,XM,FM,jr]
 cases (kW a).isSome<;>rfl
theorem c56 (a b:ByteArray):ca 56 [ss a,ss b] (ii (vV a b)):=wL (F:=F56) rfl rfl
def Rw.sub {α:Type} (a:Rw α) (j:Nat) (h:j≤a.n):Rw α:=⟨cK (j:Int),fun i=>a.get ⟨0+i.1,by have:i.1 < cK (j:Int):=i.2;unfold cK at this;simp at this;omega⟩⟩
theorem nT {α:Type} {a:Rw α} {j:Nat} {h:j≤a.n}:(a.sub j h).n=j:=by show (j:Int).toNat=j;simp
theorem BD {α:Type} [Inhabited α] {a:Rw α} {j i:Nat} {h:j≤a.n} (hi:i < j):(a.sub j h).at i=a.at i:=by
 unfold Rw.at
 rw [dif_pos (by rw [nT];exact hi),dif_pos (by omega)]
 show a.get ⟨0+i,_⟩=a.get ⟨i,_⟩
 congr 2
 omega
theorem nC {α:Type} [Inhabited α] {a:Rw α} {j:Nat} {h:j≤a.n} {p:α→Bool}:((List.range (a.sub j h).n).any fun i=>p ((a.sub j h).at i))=(List.range j).any fun i=>p (a.at i):=by
 rw [nT,Bool.eq_iff_iff]
 simp only [List.any_eq_true,List.mem_range]
 constructor
 ·rintro ⟨i,hi,hp⟩;rw [BD hi] at hp;exact ⟨i,hi,hp⟩
 ·rintro ⟨i,hi,hp⟩;exact ⟨i,hi,by rw [BD hi];exact hp⟩
theorem iU {ρ:Type} {j n:Nat} {K:0+cK (j:Int)≤n→Option ρ} (h:j≤n):iE 0 (cK (j:Int)) n K=K (by unfold cK;simpa using h):=iQ _
theorem kC {j n:Nat} (h:j≤n):(bp 0 (j:Int) && bp (j:Int) (ay n))=true:=by
 unfold bp ay
 simp only [Bool.and_eq_true,decide_eq_true_eq]
 exact ⟨by omega,by omega⟩
theorem dO {n k:Nat}:bl (ay n) (k:Int)=decide (k < n):=by unfold bl ay;simp
theorem c154 (a b:ch):ca 154 [ag (dv a),S.pt (dv b)] (bb (ah a.aZ b.aZ)):=aih a b 0 _ rfl
theorem c148 (a b:ch):ca 148 [ag (dv a),S.pt (dv b)] (bb (ah a.aZ b.aZ)):=ajn a b 0 _ rfl
theorem aeF (a:Rw ch) (b:ch) (ha:a.n < 2 ^ 62):ca 184 [S.t (T.rows 2 a.n fun i=>dv (a.get i)),S.fn (Go.Fn.func 154) [] [S.pt (dv b)]] (ii (idx a.n fun j=>ah (a.at j).aZ b.aZ)):=by
 have key:=Ev.rW (X:=fun m j=>(qw (aa O) a b m).x0 (j:Int)) 1 a.n (fun j=>ah (a.at j).aZ b.aZ) (fun m j hj=>by
  have hj2:j < 2 ^ 62:=by omega
  obtain ⟨y,hy,hK⟩:=aB (by kernel_rfl) (c154 (a.at j) b)
  simp only [qw,E7,sk,oV,aq,av hj,aK,hj,decide_true,cond_true,aA hj2,hK,hy]) (fun m=>by
  simp only [qw,E7,sk,oV,aq,Nat.lt_irrefl,decide_false,cond_false];rfl)
 obtain ⟨n,h⟩:=key.get
 exact afU a b n _ h
theorem afw (a:Rw ch) (b:ch) (ha:a.n < 2 ^ 62):ca 147 [S.t (T.rows 2 a.n fun i=>dv (a.get i)),S.fn (Go.Fn.func 154) [] [S.pt (dv b)]] (bb ((List.range a.n).any fun j=>ah (a.at j).aZ b.aZ)):=by
 obtain ⟨y,hy,hK⟩:=aN (by kernel_rfl) (aeF a b ha)
 exact ad0 a b 0 _ (by simp only [uQ,hK,hy,je])
theorem ajG (a:Rw ch) (b:ch) (ha:a.n < 2 ^ 62):ca 184 [S.t (T.rows 2 a.n fun i=>dv (a.get i)),S.fn (Go.Fn.func 148) [] [S.pt (dv b)]] (ii (idx a.n fun j=>ah (a.at j).aZ b.aZ)):=by
 have key:=Ev.rW (X:=fun m j=>(wD (aa O) a b m).x0 (j:Int)) 1 a.n (fun j=>ah (a.at j).aZ b.aZ) (fun m j hj=>by
  have hj2:j < 2 ^ 62:=by omega
  obtain ⟨y,hy,hK⟩:=aB (by kernel_rfl) (c148 (a.at j) b)
  simp only [wD,Nv,yE,vt,aq,av hj,aK,hj,decide_true,cond_true,aA hj2,hK,hy]) (fun m=>by
  simp only [wD,Nv,yE,vt,aq,Nat.lt_irrefl,decide_false,cond_false];rfl)
 obtain ⟨n,h⟩:=key.get
 exact aip a b n _ h
theorem ahQ (a:Rw ch) (b:ch) (ha:a.n < 2 ^ 62):ca 147 [S.t (T.rows 2 a.n fun i=>dv (a.get i)),S.fn (Go.Fn.func 148) [] [S.pt (dv b)]] (bb ((List.range a.n).any fun j=>ah (a.at j).aZ b.aZ)):=by
 obtain ⟨y,hy,hK⟩:=aN (by kernel_rfl) (ajG a b ha)
 exact ahS a b 0 _ (by simp only [yy,hK,hy,je])
def yn (a:ch):Prop:=sm (aM a.aZ)∧sm (aM a.cP)
def ga {α:Type} [Inhabited α] (p:α→Prop) (a:Rw α):Prop:=sm a.n∧∀ j,j < a.n→p (a.at j)
def uF (a:Rw ch) (j:Nat):Int:=bif !ba (a.at j).aZ then 7 else bif !jr (a.at j).cP then 20 else bif (List.range j).any (fun i=>ah (a.at i).aZ (a.at j).aZ) then 6 else 0
def lF (a:Rw ch):Int:=bif decide (4 < a.n) then 3 else bg a.n (uF a)
theorem ajS (a:Rw ch) (ha:ga yn a):ca 111 [S.t (T.rows 2 a.n fun i=>dv (a.get i))] (ii (lF a)):=by
 have hn:=cF ha.1
 have key:=Ev.jc (X:=fun m j=>(w_ (aa O) a m).x0 (j:Int)) 1 a.n (uF a) (fun m j hj=>by
  have hj2:j < 2 ^ 62:=by omega
  obtain ⟨y,hy,hK⟩:=aB (by kernel_rfl) (vE (a.at j).aZ (ha.2 j hj).1)
  obtain ⟨z,hz,hL⟩:=aB (by kernel_rfl) (c146 (a.at j).cP (ha.2 j hj).2)
  obtain ⟨x,hx,hM⟩:=aB (by kernel_rfl) (afw (a.sub j (by omega)) (a.at j) (by rw [nT];omega))
  rw [nC (p:=fun (t:ch)=>ah t.aZ (a.at j).aZ)] at hx
  simp only [Rw.sub] at hM
  simp only [w_,PX,za,vf,aq,av hj,aK,hj,decide_true,cond_true,aA hj2,hK,hy,hL,hz,kC (Nat.le_of_lt hj),iU (Nat.le_of_lt hj),hM,hx]
  unfold uF
  cases ba (a.at j).aZ<;>cases jr (a.at j).cP<;>cases (List.range j).any (fun i=>ah (a.at i).aZ (a.at j).aZ)<;>rfl) (fun m=>by
  simp only [w_,PX,za,vf,aq,Nat.lt_irrefl,decide_false,cond_false])
 obtain ⟨n,h⟩:=key.get
 refine ahP a n _ ?_
 have e:bl (ay a.n) 4=decide (4 < a.n):=dO (k:=4)
 unfold lF
 simp only [yU,e]
 cases decide (4 < a.n) with
 | true=>rfl
 | false=>exact h
end
end Go.Proofs.YtonkoellfaopiaaGreatDoor.H
namespace Go.Proofs.YtonkoellfaopiaaGreatDoor.H
open Go Go.Lib
def ja (c:UInt8):Prop:=48≤c.toNat∧c.toNat≤57
instance (c:UInt8):Decidable (ja c):=by unfold ja;infer_instance
def nW (acc:Nat):List UInt8→Nat
 | []=>acc
 | c::r=>nW (if ja c then acc*10+(c.toNat - 48) else acc) r
theorem DL (xs ys:List UInt8):∀ acc,nW acc (xs++ys)=nW (nW acc xs) ys:=by
 induction xs with
 | nil=>intro acc;rfl
 | cons c r ih=>intro acc;exact ih _
theorem gG {d:Nat} (h:d < 10):(UInt8.ofNat (48+d)).toNat=48+d:=by
 rw [UInt8.toNat_ofNat']
 omega
theorem dL {u:Nat} (h:u < 10):decDigits u=[UInt8.ofNat (48+u)]:=by rw [decDigits,dif_pos h]
theorem fm {u:Nat} (h:¬ u < 10):decDigits u=decDigits (u / 10)++[UInt8.ofNat (48+u % 10)]:=by rw [decDigits,dif_neg h]
theorem vZ (u:Nat):∀ c∈decDigits u,ja c:=by
 induction u using Nat.strongRecOn with
 | _ u ih=>
  intro c hc
  by_cases h:u < 10
  ·rw [dL h,List.mem_singleton] at hc
   subst hc
   unfold ja
   rw [gG h]
   omega
  ·rw [fm h,List.mem_append,List.mem_singleton] at hc
   rcases hc with hc | rfl
   ·exact ih (u / 10) (by omega) c hc
   ·unfold ja
    rw [gG (Nat.mod_lt _ (by decide))]
    have:=Nat.mod_lt u (show 0 < 10 by decide)
    omega
theorem gU (u:Nat):decDigits u≠[]:=by
 by_cases h:u < 10
 ·rw [dL h];simp
 ·rw [fm h];simp
theorem D7 (u:Nat):nW 0 (decDigits u)=u:=by
 induction u using Nat.strongRecOn with
 | _ u ih=>
  by_cases h:u < 10
  ·rw [dL h]
   simp only [nW]
   have hd:ja (UInt8.ofNat (48+u)):=by unfold ja;rw [gG h];omega
   rw [if_pos hd,gG h]
   omega
  ·rw [fm h,DL,ih (u / 10) (by omega)]
   have hm:=Nat.mod_lt u (show 0 < 10 by decide)
   have hd:ja (UInt8.ofNat (48+u % 10)):=by unfold ja;rw [gG hm];omega
   simp only [nW]
   rw [if_pos hd,gG hm]
   omega
theorem kF (k:Nat):∀ u,u < 10 ^ (k+1)→(decDigits u).length≤k+1:=by
 induction k with
 | zero=>
  intro u h
  rw [dL (by simpa using h)]
  simp
 | succ k ih=>
  intro u h
  by_cases vC:u < 10
  ·rw [dL vC]
   simp
  ·rw [fm vC,List.length_append]
   have:=ih (u / 10) (by rw [Nat.pow_succ] at h;omega)
   simp only [List.length_singleton]
   omega
theorem nL (M:Nat):∀ (xs:List UInt8) (acc v:Nat) (ys:List UInt8),parseUintM M acc xs=.ok v→parseUintM M acc (xs++ys)=parseUintM M v ys
 | [],acc,v,ys,h=>by
  unfold parseUintM at h
  cases h
  rfl
 | c::r,acc,v,ys,h=>by
  rw [List.cons_append]
  unfold parseUintM at h
  conv=>lhs;unfold parseUintM
  split at h
  ·rename_i h1
   rw [if_pos h1]
   split at h
   ·cases h
   ·rename_i h2
    rw [if_neg h2]
    split at h
    ·cases h
    ·rename_i h3
     rw [if_neg h3]
     exact nL M r _ v ys h
  ·cases h
theorem uD (u:Nat) (hu:u < 1000000000000000000):parseUintM (2 ^ 64 - 1) 0 (decDigits u)=.ok u:=by
 induction u using Nat.strongRecOn with
 | _ u ih=>
  have step:∀ v d:Nat,d < 10→v < 100000000000000000→parseUintM (2 ^ 64 - 1) v [UInt8.ofNat (48+d)]=.ok (v*10+d):=by
   intro v d hd hv
   unfold parseUintM
   rw [if_pos (by rw [gG hd];omega),if_neg (by omega),gG hd,if_neg (by omega)]
   unfold parseUintM
   rw [show 48+d - 48=d by omega]
  by_cases h:u < 10
  ·rw [dL h]
   have:=step 0 u h (by omega)
   simpa using this
  ·rw [fm h,nL _ _ _ _ _ (ih (u / 10) (by omega) (by omega)),step (u / 10) (u % 10) (Nat.mod_lt _ (by decide)) (by omega)]
   congr 1
   omega
theorem CE {u:Nat} {c:UInt8} {r:List UInt8} (h:decDigits u=c::r):ja c:=vZ u c (by rw [h];exact List.mem_cons_self)
theorem Dh (n:Int) (h0 : -100000000000000000 < n) (h1:n < 100000000000000000):parseIntB 64 (itoa n)=.ok n:=by
 unfold itoa
 by_cases hn:n < 0
 ·rw [if_pos hn]
  have hp:parseUintB 64 (decDigits n.natAbs)=.ok n.natAbs:=by
   unfold parseUintB
   rw [if_neg (gU _)]
   exact uD _ (by omega)
  unfold parseIntB
  simp only [show (45:UInt8).toNat=45 from rfl,or_true,if_true]
  rw [hp]
  simp only [not_true_eq_false,false_and,if_false,true_and]
  rw [if_neg (by omega)]
  congr 1
  omega
 ·rw [if_neg hn]
  have hp:parseUintB 64 (decDigits n.toNat)=.ok n.toNat:=by
   unfold parseUintB
   rw [if_neg (gU _)]
   exact uD _ (by omega)
  cases hd:decDigits n.toNat with
  | nil=>exact absurd hd (gU _)
  | cons c r=>
   have hc:=CE hd
   unfold ja at hc
   rw [hd] at hp
   unfold parseIntB
   simp only [show ¬ (c.toNat=43∨c.toNat=45) by omega,if_false]
   rw [hp]
   simp only [show ¬ c.toNat=45 by omega,not_false_eq_true,true_and,false_and,if_false]
   rw [if_neg (by omega)]
   congr 1
   omega
theorem De {n:Int} (h0 : -2147483648≤n) (h1:n≤2147483648):(itoa n).length≤11:=by
 unfold itoa
 split
 ·have:=kF 9 n.natAbs (by omega)
  simp only [List.length_cons]
  omega
 ·have:=kF 9 n.toNat (by omega)
  omega
def kI (l:List UInt8):Int:=if l.head?=some 45 then -(nW 0 l:Int) else nW 0 l
theorem Im (n:Int):kI (itoa n)=n:=by
 unfold itoa
 by_cases hn:n < 0
 ·rw [if_pos hn]
  unfold kI
  rw [List.head?_cons,if_pos rfl]
  have:nW 0 (45::decDigits n.natAbs)=n.natAbs:=by
   simp only [nW]
   rw [if_neg (by unfold ja;decide),D7]
  rw [this]
  omega
 ·rw [if_neg hn]
  unfold kI
  cases hd:decDigits n.toNat with
  | nil=>exact absurd hd (gU _)
  | cons c r=>
   have hc:=CE hd
   have hne:¬ (some c=some (45:UInt8)):=by
    intro h
    have:=Option.some.inj h
    subst this
    unfold ja at hc
    exact absurd hc.1 (by decide)
   rw [List.head?_cons,if_neg hne,← hd,D7]
   omega
theorem i64_in {z:Int} (h : -9223372036854775808≤z∧z≤9223372036854775807):IntKind.i64.wrap z=z:=by
 rw [IntKind.wrap_i64]
 omega
theorem u8_in {z:Int} (h:0≤z∧z≤255):IntKind.u8.wrap z=z:=by
 simp only [IntKind.wrap,IntKind.bits,IntKind.signed,Bool.false_and,Bool.false_eq_true,if_false]
 omega
theorem Ev.to {α:Type} {g:Nat→Option α} {v v':α} (h:Ev g v) (e:v=v'):Ev g v':=e ▸ h
def xe (n:Int):List UInt8:=if n < 0 then [45] else []
theorem Mm (n:Int):itoa n=xe n++decDigits n.natAbs:=by
 unfold itoa xe
 by_cases h:n < 0
 ·rw [if_pos h,if_pos h];rfl
 ·rw [if_neg h,if_neg h,List.nil_append]
  congr 1
  omega
theorem Mv {z:Int} {d:Nat} (hd:d < 10) (hz:z=48+(d:Int)):fD [gE .u8 z]=⟨#[UInt8.ofNat (48+d)]⟩:=by
 unfold fD ofBytes gE
 rw [u8_in (by omega)]
 have:z.toNat=48+d:=by omega
 simp [this]
theorem Dq {a b:ByteArray} (h:a.data.toList=b.data.toList):a=b:=by
 cases a;cases b
 simpa using h
theorem mk_eq {a:ByteArray} {l:List UInt8} (h:a.data.toList=l):a=⟨l.toArray⟩:=Dq (by rw [h])
theorem oA {a b:ByteArray}:ah a b=decide (a.data.toList=b.data.toList):=by
 rw [Bool.eq_iff_iff,dc,decide_eq_true_eq]
 exact ⟨fun h=>by rw [h],Dq⟩
theorem Q7 (n:Int):∀ (u:Nat) (x:Int) (s:ByteArray),x.natAbs=u→u < 1000000000000000000→s.size+(decDigits u).length≤1000→
  Ev (fun k=>(wA (aa O) n k).x0 x s) (ss ⟨(xe n++decDigits u++s.data.toList).toArray⟩):=by
 intro u
 induction u using Nat.strongRecOn with
 | _ u ih=>
  intro x s hx hu hs
  have hm:=Nat.mod_lt u (show 0 < 10 by decide)
  have h1:1≤(decDigits u).length:=by
   have:=gU u
   cases h:decDigits u with
   | nil=>exact absurd h this
   | cons c r=>simp
  have hsz:(⟨#[UInt8.ofNat (48+u % 10)]⟩:ByteArray).size=1:=rfl
  have hap:((⟨#[UInt8.ofNat (48+u % 10)]⟩:ByteArray)++s).size=1+s.size:=by rw [ByteArray.size_append,hsz]
  have key:∀ (z q:Int),z=48+((u % 10:Nat):Int)→q.natAbs=u / 10→
    Ev (fun k=>bif vX (fD [gE .u8 z]) s then (bif aR q 0 then (bif bm n 0 then (bif vX (bs [45]) (nI (fD [gE .u8 z]) s) then some (ss (nI (bs [45]) (nI (fD [gE .u8 z]) s))) else none) else some (ss (nI (fD [gE .u8 z]) s))) else qI (wA (aa O) n k) q (nI (fD [gE .u8 z]) s)) else none) (ss ⟨(xe n++decDigits u++s.data.toList).toArray⟩):=by
   intro z q hz hq
   rw [Mv hm hz]
   have f1:vX (⟨#[UInt8.ofNat (48+u % 10)]⟩:ByteArray) s=true:=by unfold vX gw;rw [hsz];exact decide_eq_true (by omega)
   have f2:vX (bs [45]) ((⟨#[UInt8.ofNat (48+u % 10)]⟩:ByteArray)++s)=true:=by
    unfold vX gw;rw [hap]
    have:(bs [45]).size=1:=rfl
    rw [this]
    exact decide_eq_true (by omega)
   simp only [f1,cond_true,nI,f2]
   by_cases vC:u < 10
   ·have hq0:q=0:=by omega
    have e1:decDigits u=[UInt8.ofNat (48+u % 10)]:=by rw [dL vC,Nat.mod_eq_of_lt vC]
    have e0:aR q 0=true:=by rw [hq0];rfl
    simp only [e0,cond_true]
    by_cases hn:n < 0
    ·have e2:bm n 0=true:=decide_eq_true hn
     simp only [e2,cond_true]
     refine (Ev.const _).to (congrArg ss (mk_eq ?_))
     rw [e1]
     unfold xe
     rw [if_pos hn,ByteArray.data_append,ByteArray.data_append,Array.toList_append,Array.toList_append]
     simp [bs]
    ·have e2:bm n 0=false:=decide_eq_false hn
     simp only [e2,cond_false]
     refine (Ev.const _).to (congrArg ss (mk_eq ?_))
     rw [e1]
     unfold xe
     rw [if_neg hn,ByteArray.data_append,Array.toList_append]
     simp
   ·have e0:aR q 0=false:=decide_eq_false (by omega)
    simp only [e0,cond_false,qI]
    have e1:=fm vC
    have el:=congrArg List.length e1
    simp only [List.length_append,List.length_singleton] at el
    refine (ih (u / 10) (by omega) q _ hq (by omega) (by rw [hap];omega)).to ?_
    rw [e1,ByteArray.data_append,Array.toList_append]
    simp
  have htm:na x 10=if x < 0 then -((u % 10:Nat):Int) else ((u % 10:Nat):Int):=by
   unfold na
   split
   ·have hxu:x = -(u:Int):=by omega
    rw [hxu,Int.neg_tmod,Int.tmod_eq_emod_of_nonneg (by omega)]
    omega
   ·have hxu:x=(u:Int):=by omega
    rw [hxu,Int.tmod_eq_emod_of_nonneg (by omega)]
    omega
  have htd:Gn .i64 x 10=if x < 0 then -((u / 10:Nat):Int) else ((u / 10:Nat):Int):=by
   unfold Gn
   split
   ·have hxu:x = -(u:Int):=by omega
    rw [hxu,Int.neg_tdiv,Int.tdiv_eq_ediv_of_nonneg (by omega),i64_in (by omega)]
    omega
   ·have hxu:x=(u:Int):=by omega
    rw [hxu,Int.tdiv_eq_ediv_of_nonneg (by omega),i64_in (by omega)]
    omega
  have hqa:(Gn .i64 x 10).natAbs=u / 10:=by rw [htd];split<;>omega
  refine Ev.succ ?_
  simp only [wA,Xn,En]
  by_cases hneg:bm (na x 10) 0=true
  ·have hlt:na x 10 < 0:=of_decide_eq_true hneg
   simp only [hneg,cond_true]
   refine key _ _ ?_ hqa
   have hx0:x < 0:=by
    rw [htm] at hlt
    split at hlt
    ·assumption
    ·omega
   rw [if_pos hx0] at htm
   unfold a7 bF
   rw [htm,i64_in (z:=0 - -((u % 10:Nat):Int)) (by omega),i64_in (by omega)]
   omega
  ·rw [Bool.not_eq_true] at hneg
   have hlt:¬ na x 10 < 0:=of_decide_eq_false hneg
   simp only [hneg,cond_false]
   refine key _ _ ?_ hqa
   have:na x 10=((u % 10:Nat):Int):=by
    rw [htm] at hlt ⊢
    split at hlt<;>split<;>omega
   unfold a7
   rw [this,i64_in (by omega)]
theorem c193 (n:Int) (h:n.natAbs < 1000000000000000000):ca 193 [ii n] (ss (lI n)):=by
 have:=Q7 n n.natAbs n (bs []) rfl h (by
  have:=kF 17 n.natAbs (by omega)
  have e:(bs []).size=0:=rfl
  rw [e];omega)
 obtain ⟨k,hk⟩:=this.get
 refine ajd n k _ ?_
 unfold BF qI
 rw [hk]
 unfold lI
 rw [Mm]
 congr 2
 simp [bs]
theorem yq {f:FuncId} {args:List S} {x:ByteArray} (hs:wh O.P f=some (.str 0)) (h:ca f args (ss x)):∃ y:Y,y.s 0=x∧∀ (ρ:Type) (K:Y→Option ρ),yC (aa O) f args K=K y:=by
 obtain ⟨y,h1,h2⟩:=iR (y0:=⟨fun _=>0,fun _=>false,fun _=>x,fun _=>⟨0,fun i=>i.elim0⟩,fun _=>[]⟩) hs h
 refine ⟨y,?_,h2⟩
 simpa [build] using h1
def Gi (s:ByteArray) (v:Int):Int × Bool:=if itoa v=s.data.toList ∧ -2147483648≤v∧v≤2147483648 then (v,true) else (0,false)
abbrev acP (p:Int × Bool):S:=.bJ [ii p.1,bb p.2]
theorem ZQ (s:ByteArray) (v:Int):(bif !ah (lI v) s then some (S.bJ [ii 0,bb false]) else bif bm v (Int.negSucc 2147483647) then some (S.bJ [ii 0,bb false]) else bif bl v 2147483648 then some (S.bJ [ii 0,bb false]) else some (S.bJ [ii v,bb true]))=some (acP (Gi s v)):=by
 unfold Gi
 rw [oA]
 have e:(lI v).data.toList=itoa v:=rfl
 rw [e]
 by_cases h1:itoa v=s.data.toList
 ·simp only [h1,decide_true,Bool.not_true,cond_false,true_and]
  by_cases h2:v < -2147483648
  ·have:bm v (Int.negSucc 2147483647)=true:=decide_eq_true h2
   rw [this,if_neg (by omega)];rfl
  ·have:bm v (Int.negSucc 2147483647)=false:=decide_eq_false h2
   rw [this,cond_false]
   by_cases h3:v > 2147483648
   ·have:bl v 2147483648=true:=decide_eq_true h3
    rw [this,if_neg (by omega)];rfl
   ·have:bl v 2147483648=false:=decide_eq_false h3
    rw [this,if_pos (by omega)];rfl
 ·simp only [h1,decide_false,Bool.not_false,cond_true,false_and,if_false]
theorem Kb (s:ByteArray) (i:Nat) (h:i < s.data.toList.length):rY s i=((s.data.toList[i]'h).toNat:Int):=by
 unfold rY
 have hs:i < aM s:=h
 rw [dif_pos hs]
 rfl
theorem pY (s:ByteArray) (hs:s.size≤11):∀ m i a:Nat,i+m=s.size→a < 10 ^ i→Ev (fun k=>(pw (aa O) s k).x0 (i:Int) (a:Int)) (acP (Gi s (if s.data.toList.head?=some 45 then -(nW a (s.data.toList.drop i):Int) else nW a (s.data.toList.drop i))))
 | 0,i,a,h,ha=>by
  have hp:10 ^ i≤10 ^ 11:=Nat.pow_le_pow_right (by decide) (by omega)
  have hlen:s.data.toList.length=s.size:=rfl
  have hi:i=aM s:=by unfold aM;omega
  rw [List.drop_eq_nil_of_le (by omega)]
  obtain ⟨y,hy,hK⟩:=yq (by kernel_rfl) (c193 (a:Int) (by omega))
  have e1:bF .i64 0 (a:Int) = -(a:Int):=by unfold bF;rw [i64_in (by omega)];omega
  obtain ⟨z,hz,hL⟩:=yq (by kernel_rfl) (c193 (-(a:Int)) (by omega))
  refine Ev.add 2 ⟨0,fun k _=>?_⟩
  show (pw (aa O) s (k+2)).x0 (i:Int) (a:Int)=_
  rw [hi]
  simp only [pw,Pb,yM,GG,Fu,uX,GW,EK,gF,aq,Nat.lt_irrefl,decide_false,cond_false,hK,hy,e1,hL,hz,nW]
  have key:∀ v:Int,(bif !ah (lI v) s then (bif true then some (S.bJ [ii 0,bb false]) else bif bl v 2147483648 then some (S.bJ [ii 0,bb false]) else some (S.bJ [ii v,bb true])) else bif bm v (Int.negSucc 2147483647) then some (S.bJ [ii 0,bb false]) else bif bl v 2147483648 then some (S.bJ [ii 0,bb false]) else some (S.bJ [ii v,bb true]))=some (acP (Gi s v)):=fun v=>by
   rw [← ZQ];rfl
  by_cases h0:0 < s.size
  ·have hg:bl (ay (aM s)) 0=true:=decide_eq_true (by unfold ay aM;omega)
   have hb:∀ (K:Int→Option S),mP 0 s K=K (rY s 0):=fun K=>nh (j:=0) h0
   have hc:=Kb s 0 (by omega)
   have hh:s.data.toList.head?=some (s.data.toList[0]'(by omega)):=by rw [List.head?_eq_getElem?,List.getElem?_eq_getElem]
   simp only [hg,cond_true,hb,hc,hh]
   by_cases h45:(s.data.toList[0]'(by omega))=45
   ·have:aR ((s.data.toList[0]'(by omega)).toNat:Int) 45=true:=by rw [h45];rfl
    rw [this,if_pos (by rw [h45])]
    exact key _
   ·have:aR ((s.data.toList[0]'(by omega)).toNat:Int) 45=false:=k_.2 (fun h=>h45 (UInt8.toNat_inj.1 (show (s.data.toList[0]'(by omega)).toNat=45 by omega)))
    rw [this,if_neg (fun h=>h45 (Option.some.inj h))]
    exact key _
  ·have hg:bl (ay (aM s)) 0=false:=decide_eq_false (by unfold ay aM;omega)
   have hnil:s.data.toList=[]:=List.eq_nil_of_length_eq_zero (by omega)
   rw [hg,cond_false]
   rw [hnil]
   exact key _
 | m+1,i,a,h,ha=>by
  have hlen:s.data.toList.length=s.size:=rfl
  have hi:i < s.data.toList.length:=by omega
  have hi':i < aM s:=hi
  have hp:10 ^ i≤10 ^ 11:=Nat.pow_le_pow_right (by decide) (by omega)
  have hb:=Kb s i hi
  rw [List.drop_eq_getElem_cons hi]
  refine Ev.succ ?_
  simp only [pw,Pb,yM,uX,gF,aq,hi',decide_true,cond_true,nh hi',hb,aA (show i < 2 ^ 62 by omega),nW]
  have hc:=(s.data.toList[i]'hi).toNat_lt
  by_cases h1:((s.data.toList[i]'hi).toNat:Int)≥48
  ·have g1:cT ((s.data.toList[i]'hi).toNat:Int) 48=true:=decide_eq_true h1
   by_cases h2:((s.data.toList[i]'hi).toNat:Int)≤57
   ·have g2:bp ((s.data.toList[i]'hi).toNat:Int) 57=true:=decide_eq_true h2
    have hd:ja (s.data.toList[i]'hi):=⟨by omega,by omega⟩
    simp only [g1,g2,cond_true,if_pos hd]
    have e1:a7 .i64 (Z_ .i64 (a:Int) 10) (gE .i64 (bF .u8 ((s.data.toList[i]'hi).toNat:Int) 48))=((a*10+((s.data.toList[i]'hi).toNat - 48):Nat):Int):=by
     unfold a7 Z_ gE bF
     rw [u8_in (by omega),i64_in (z:=(a:Int)*10) (by omega),i64_in (z:=((s.data.toList[i]'hi).toNat:Int) - 48) (by omega),i64_in (by omega)]
     omega
    simp only [e1]
    exact pY s hs m (i+1) _ (by omega) (by rw [Nat.pow_succ];omega)
   ·have g2:bp ((s.data.toList[i]'hi).toNat:Int) 57=false:=decide_eq_false h2
    have hd:¬ ja (s.data.toList[i]'hi):=fun h=>h2 (by have:=h.2;omega)
    simp only [g1,g2,cond_true,cond_false,if_neg hd]
    exact pY s hs m (i+1) a (by omega) (by rw [Nat.pow_succ];omega)
  ·have g1:cT ((s.data.toList[i]'hi).toNat:Int) 48=false:=decide_eq_false h1
   have hd:¬ ja (s.data.toList[i]'hi):=fun h=>h1 (by have:=h.1;omega)
   simp only [g1,cond_false,if_neg hd]
   exact pY s hs m (i+1) a (by omega) (by rw [Nat.pow_succ];omega)
theorem Sc (s:ByteArray) (hs:s.size≤11):(Gi s (kI s.data.toList)).2=(kW s).isSome:=by
 unfold Gi
 by_cases h:itoa (kI s.data.toList)=s.data.toList ∧ -2147483648≤kI s.data.toList∧kI s.data.toList≤2147483648
 ·rw [if_pos h]
  obtain ⟨h1,h2,h3⟩:=h
  have hp:=Dh (kI s.data.toList) (by omega) (by omega)
  rw [h1] at hp
  unfold kW
  rw [hp]
  simp only [if_pos (show -2147483648≤kI s.data.toList∧kI s.data.toList≤2147483648∧itoa (kI s.data.toList)=s.data.toList from ⟨h2,h3,h1⟩),Option.isSome_some]
 ·rw [if_neg h]
  cases hv:kW s with
  | none=>rfl
  | some v=>
   exfalso
   unfold kW at hv
   split at hv
   ·split at hv
    ·rename_i n _ hn
     obtain ⟨h2,h3,h1⟩:=hn
     have:kI s.data.toList=n:=by rw [← h1,Im]
     exact h ⟨by rw [this];exact h1,by omega,by omega⟩
    ·cases hv
   ·cases hv
theorem LJ (s:ByteArray) (hs:¬ s.size≤11):kW s=none:=by
 unfold kW
 split
 ·split
  ·rename_i n _ hn
   obtain ⟨h2,h3,h1⟩:=hn
   have:=De h2 h3
   rw [h1] at this
   exact absurd this hs
  ·rfl
 ·rfl
theorem ajR (s:ByteArray):∃ v:Int,ca 163 [ss s] (.bJ [ii v,bb (kW s).isSome]):=by
 by_cases h:s.size≤11
 ·have hg:bl (ay (aM s)) 11=false:=decide_eq_false (by unfold ay aM;omega)
  refine ⟨(Gi s (kI s.data.toList)).1,?_⟩
  obtain ⟨k,hk⟩:=(pY s h s.size 0 0 (by omega) (by decide)).get
  refine adY s k _ ?_
  unfold sF
  rw [gF,hg,cond_false,← Sc s h]
  exact hk
 ·have hg:bl (ay (aM s)) 11=true:=decide_eq_true (by unfold ay aM;omega)
  refine ⟨0,adY s 0 _ ?_⟩
  unfold sF
  rw [gF,hg,cond_true,LJ s h]
  rfl
theorem UK (a:ByteArray) (ha:sm (aM a)):ca 129 [ss a] (bb (jr a)):=by
 obtain ⟨y,hy,hK⟩:=aB (by kernel_rfl) (vW a ha)
 obtain ⟨v,hv⟩:=ajR a
 obtain ⟨z,hz,hz',hL⟩:=X5 (by kernel_rfl) hv
 refine ajW a 1 _ ?_
 simp only [zt,Fb,Jl,XI,Ff,hK,hy,hL,hz']
 unfold jr
 cases ba a<;>cases (kW a).isSome<;>rfl
end Go.Proofs.YtonkoellfaopiaaGreatDoor.H
namespace Go.Proofs.YtonkoellfaopiaaGreatDoor.H
open Go
noncomputable section
theorem Ev.afO {ρ:Type} {X:Nat→Nat→Option ρ} (c n:Nat) (p:Nat→Bool) (e:ρ) (step:∀ m i,i < n→X (m+c) i=bif p i then some e else X m (i+1)) {i:Nat} (hi:i < n) (hp:p i=true):∀ k j,j+k=i→Ev (fun m=>X m j) e
 | 0,j,hj=>by
  obtain rfl:j=i:=by omega
  exact Ev.add c ⟨0,fun m _=>by show X (m+c) j=_;rw [step m j hi,hp];rfl⟩
 | k+1,j,hj=>by
  cases h:p j with
  | true=>exact Ev.add c ⟨0,fun m _=>by show X (m+c) j=_;rw [step m j (by omega),h];rfl⟩
  | false=>exact Ev.add c ((Ev.afO c n p e step hi hp k (j+1) (by omega)).of_eq fun m=>by rw [step m j (by omega),h];rfl)
theorem Ev.agF {ρ:Type} {X:Nat→Nat→Option ρ} (c n:Nat) (p:Nat→Bool) (e v:ρ) (step:∀ m i,i < n→X (m+c) i=bif p i then some e else X m (i+1)) (hp:∀ i,i < n→p i=false) (stop:Ev (fun m=>X m n) v):∀ k j,j+k=n→Ev (fun m=>X m j) v
 | 0,j,hj=>by
  obtain rfl:j=n:=by omega
  exact stop
 | k+1,j,hj=>Ev.add c ((Ev.agF c n p e v step hp stop k (j+1) (by omega)).of_eq fun m=>by rw [step m j (by omega),hp j (by omega)];rfl)
theorem Ev.vO {ρ:Type} {X:Nat→Nat→Option ρ} (c n:Nat) (p:Nat→Bool) (e:ρ) (step:∀ m i,i < n→X (m+c) i=bif p i then some e else X m (i+1)):((List.range n).any p=true→Ev (fun m=>X m 0) e)∧((List.range n).any p=false→∀ v,Ev (fun m=>X m n) v→Ev (fun m=>X m 0) v):=by
 refine ⟨fun h=>?_,fun h v hv=>?_⟩
 ·obtain ⟨i,hi,hp⟩:=List.any_eq_true.1 h
  exact Ev.afO c n p e step (List.mem_range.1 hi) hp i 0 (by omega)
 ·exact Ev.agF c n p e v step (fun i hi=>by
   have:=List.any_eq_false.1 h i (List.mem_range.2 hi)
   simpa using this) hv n 0 (by omega)
theorem Ev.one {α:Type} {g:Nat→Option α} {v:α} (c:Nat) (h:∀ m,g (m+c)=some v):Ev g v:=Ev.add c ⟨0,fun m _=>h m⟩
theorem Ev.by {α:Type} {g g':Nat→Option α} {v:α} (c:Nat) (h:∀ m,g (m+c)=g' m) (h':Ev g' v):Ev g v:=Ev.add c (h'.of_eq h)
theorem ek {i j:Nat}:bm (i:Int) (j:Int)=decide (i < j):=by unfold bm;simp
theorem aaS {a:Int} (h:a≠0):aR a 0=false:=k_.2 h
theorem c73 (a:Rw ch) (ha:ga yn a):ca 73 [S.t (T.rows 2 a.n fun i=>dv (a.get i))] (ii (lF a)):=by
 have hn:=cF ha.1
 have key:=Ev.rq (X:=fun m j=>(oD (aa O) a m).x0 (j:Int)) a.n (uF a) (fun j hj=>by
  have hj2:j < 2 ^ 62:=by omega
  obtain ⟨y,hy,hK⟩:=aB (by kernel_rfl) (vW (a.at j).aZ (ha.2 j hj).1)
  obtain ⟨z,hz,hL⟩:=aB (by kernel_rfl) (UK (a.at j).cP (ha.2 j hj).2)
  obtain ⟨inT,inF⟩:=Ev.vO (X:=fun m i=>(oD (aa O) a m).x1 (j:Int) (i:Int)) 1 j (fun i=>ah (a.at i).aZ (a.at j).aZ) (ii 6) (fun m i hi=>by
   have hi':i < a.n:=by omega
   simp only [oD,O7,JT,tK,wk,ek,hi,decide_true,cond_true,av hi',av hj,aK,aA (show i < 2 ^ 62 by omega)])
  have out:∀ m,(oD (aa O) a (m+1)).x1 (j:Int) (j:Int)=(oD (aa O) a m).x0 ((j+1:Nat):Int):=fun m=>by
   simp only [oD,O7,JT,tK,wk,ek,Nat.lt_irrefl,decide_false,cond_false,aA hj2]
  have one:∀ m,(oD (aa O) a (m+1)).x0 (j:Int)=bif !ba (a.at j).aZ then some (ii 7) else bif !jr (a.at j).cP then some (ii 20) else (oD (aa O) a m).x1 (j:Int) 0:=fun m=>by
   simp only [oD,O7,Kh,tK,wk,aq,av hj,aK,hj,decide_true,cond_true,hK,hy,hL,hz]
  unfold uF
  cases h1:ba (a.at j).aZ with
  | false=>exact ⟨fun _=>Ev.one 1 fun m=>by rw [one,h1];rfl,fun h=>absurd (show (7:Int)=0 from h) (by decide)⟩
  | true=>
   cases h2:jr (a.at j).cP with
   | false=>exact ⟨fun _=>Ev.one 1 fun m=>by rw [one,h1,h2];rfl,fun h=>absurd (show (20:Int)=0 from h) (by decide)⟩
   | true=>
    cases h3:(List.range j).any (fun i=>ah (a.at i).aZ (a.at j).aZ) with
    | true=>exact ⟨fun _=>Ev.by 1 (fun m=>by rw [one,h1,h2];rfl) (inT h3),fun h=>absurd h (by decide)⟩
    | false=>exact ⟨fun h=>absurd rfl h,fun _ v hv=>Ev.by 1 (fun m=>by rw [one,h1,h2];rfl) (inF h3 v (Ev.by 1 out hv))⟩) (Ev.add 1 ⟨0,fun m _=>by
  show (oD (aa O) a (m+1)).x0 (a.n:Int)=_
  simp only [oD,O7,Kh,tK,aq,Nat.lt_irrefl,decide_false,cond_false]⟩)
 obtain ⟨n,h⟩:=key.get
 refine W73 a n _ ?_
 have e:bl (ay a.n) 4=decide (4 < a.n):=dO (k:=4)
 unfold lF
 simp only [Eo,e]
 cases decide (4 < a.n) with
 | true=>rfl
 | false=>exact h
def D1 (a:bT):Prop:=sm (aM a.aZ)∧sm (aM a.cP)
def la (a b:bT):Bool:=ah a.aZ b.aZ && (ah a.cP b.cP && (r9 a.gL b.gL && true))
theorem de {a b:ByteArray}:ah a b=ah b a:=by
 rw [Bool.eq_iff_iff,dc,dc]
 exact ⟨fun h=>h.symm,fun h=>h.symm⟩
theorem Fs {a b:bT}:la a b=la b a:=by
 unfold la r9
 rw [de (a:=a.aZ),de (a:=a.cP)]
 cases a.gL<;>cases b.gL<;>rfl
theorem ajg (a:Rw bT) (b:bT) (ha:a.n < 2 ^ 62):ca 189 [S.t (T.rows 3 a.n fun i=>cZ (a.get i)),ag (cZ b)] (ii (idx a.n fun j=>la b (a.at j))):=by
 have key:=Ev.rW (X:=fun m j=>(we (aa O) a b m).x0 (j:Int)) 1 a.n (fun j=>la b (a.at j)) (fun m j hj=>by
  have hj2:j < 2 ^ 62:=by omega
  simp only [we,PO,A6,vg,aq,av hj,aK,hj,decide_true,cond_true,aA hj2,la]) (fun m=>by
  simp only [we,PO,A6,vg,aq,Nat.lt_irrefl,decide_false,cond_false];rfl)
 obtain ⟨n,h⟩:=key.get
 exact akl a b n _ h
theorem ake (a:Rw bT) (b:bT) (ha:a.n < 2 ^ 62):ca 158 [S.t (T.rows 3 a.n fun i=>cZ (a.get i)),ag (cZ b)] (bb ((List.range a.n).any fun j=>la b (a.at j))):=by
 obtain ⟨y,hy,hK⟩:=aN (by kernel_rfl) (ajg a b ha)
 exact aiq a b 0 _ (by simp only [xQ,hK,hy,je])
def Tl (x:bT):Bool:=(x.gL && !ah x.cP (bs [])) || (!x.gL && !jr x.cP)
def TY (a:Rw bT) (j:Nat):Int:=bif !ba (a.at j).aZ then 7 else bif Tl (a.at j) then 20 else bif (List.range j).any (fun i=>la (a.at j) (a.at i)) then 6 else 0
def rP (a:Rw bT):Int:=bif decide (4 < a.n) then 3 else bg a.n (TY a)
theorem ajy (a:Rw bT) (ha:ga D1 a):ca 120 [S.t (T.rows 3 a.n fun i=>cZ (a.get i))] (ii (rP a)):=by
 have hn:=cF ha.1
 have key:=Ev.jc (X:=fun m j=>(qZ (aa O) a m).x0 (j:Int)) 3 a.n (TY a) (fun m j hj=>by
  have hj2:j < 2 ^ 62:=by omega
  obtain ⟨y,hy,hK⟩:=aB (by kernel_rfl) (vE (a.at j).aZ (ha.2 j hj).1)
  obtain ⟨z,hz,hL⟩:=aB (by kernel_rfl) (c146 (a.at j).cP (ha.2 j hj).2)
  obtain ⟨x,hx,hM⟩:=aB (by kernel_rfl) (ake (a.sub j (by omega)) (a.at j) (by rw [nT];omega))
  rw [nC (p:=fun (t:bT)=>la (a.at j) t)] at hx
  simp only [Rw.sub] at hM
  simp only [qZ,Rr,AP,E3,FC,qy,Hs,E_,aq,av hj,aK,hj,decide_true,cond_true,aA hj2,hK,hy,hL,hz,kC (Nat.le_of_lt hj),iU (Nat.le_of_lt hj),hM,hx]
  unfold TY Tl
  cases ba (a.at j).aZ<;>cases (a.at j).gL<;>cases ah (a.at j).cP (bs [])<;>cases jr (a.at j).cP<;>cases (List.range j).any (fun i=>la (a.at j) (a.at i))<;>rfl) (fun m=>by
  simp only [qZ,Rr,AP,qy,aq,Nat.lt_irrefl,decide_false,cond_false])
 obtain ⟨n,h⟩:=key.get
 refine ajl a n _ ?_
 have e:bl (ay a.n) 4=decide (4 < a.n):=dO (k:=4)
 unfold rP
 simp only [yJ,e]
 cases decide (4 < a.n) with
 | true=>rfl
 | false=>exact h
theorem c79 (a:Rw bT) (ha:ga D1 a):ca 79 [S.t (T.rows 3 a.n fun i=>cZ (a.get i))] (ii (rP a)):=by
 have hn:=cF ha.1
 have key:=Ev.rq (X:=fun m j=>(oy (aa O) a m).x0 (j:Int)) a.n (TY a) (fun j hj=>by
  have hj2:j < 2 ^ 62:=by omega
  obtain ⟨y,hy,hK⟩:=aB (by kernel_rfl) (vW (a.at j).aZ (ha.2 j hj).1)
  obtain ⟨z,hz,hL⟩:=aB (by kernel_rfl) (UK (a.at j).cP (ha.2 j hj).2)
  obtain ⟨inT,inF⟩:=Ev.vO (X:=fun m i=>(oy (aa O) a m).x2 (j:Int) (i:Int)) 1 j (fun i=>la (a.at j) (a.at i)) (ii 6) (fun m i hi=>by
   have hi':i < a.n:=by omega
   rw [Fs]
   simp only [oy,Py,Ju,uz,wU,ek,hi,decide_true,cond_true,av hi',av hj,aK,aA (show i < 2 ^ 62 by omega),la])
  have out:∀ m,(oy (aa O) a (m+1)).x2 (j:Int) (j:Int)=(oy (aa O) a m).x0 ((j+1:Nat):Int):=fun m=>by
   simp only [oy,Py,Ju,uz,wU,ek,Nat.lt_irrefl,decide_false,cond_false,aA hj2]
  have one:∀ m,(oy (aa O) a (m+2)).x0 (j:Int)=bif !ba (a.at j).aZ then some (ii 7) else bif Tl (a.at j) then some (ii 20) else (oy (aa O) a m).x2 (j:Int) 0:=fun m=>by
   simp only [oy,Py,KN,T5,uz,Qd,wU,aq,av hj,aK,hj,decide_true,cond_true,hK,hy,hL,hz]
   unfold Tl
   cases ba (a.at j).aZ<;>cases (a.at j).gL<;>cases ah (a.at j).cP (bs [])<;>cases jr (a.at j).cP<;>rfl
  unfold TY
  cases h1:ba (a.at j).aZ with
  | false=>exact ⟨fun _=>Ev.one 2 fun m=>by rw [one,h1];rfl,fun h=>absurd (show (7:Int)=0 from h) (by decide)⟩
  | true=>
   cases h2:Tl (a.at j) with
   | true=>exact ⟨fun _=>Ev.one 2 fun m=>by rw [one,h1,h2];rfl,fun h=>absurd (show (20:Int)=0 from h) (by decide)⟩
   | false=>
    cases h3:(List.range j).any (fun i=>la (a.at j) (a.at i)) with
    | true=>exact ⟨fun _=>Ev.by 2 (fun m=>by rw [one,h1,h2];rfl) (inT h3),fun h=>absurd h (by decide)⟩
    | false=>exact ⟨fun h=>absurd rfl h,fun _ v hv=>Ev.by 2 (fun m=>by rw [one,h1,h2];rfl) (inF h3 v (Ev.by 1 out hv))⟩) (Ev.one 1 fun m=>by
  simp only [oy,Py,KN,uz,aq,Nat.lt_irrefl,decide_false,cond_false])
 obtain ⟨n,h⟩:=key.get
 refine W79 a n _ ?_
 have e:bl (ay a.n) 4=decide (4 < a.n):=dO (k:=4)
 unfold rP
 simp only [Fw,e]
 cases decide (4 < a.n) with
 | true=>rfl
 | false=>exact h
def bq (a b:Int):Int:=bif !aR a 0 then a else b
theorem LG {n:Nat} {g:Nat→Int} {r:Int}:((List.range n).findSome? fun j=>bif !(aR (g j) 0) then some (ii (g j)) else none).getD (ii r)=ii (bq (bg n g) r):=by
 unfold bg
 generalize List.range n=l
 induction l with
 | nil=>rfl
 | cons j l ih=>
  simp only [List.findSome?_cons]
  cases h:aR (g j) 0 with
  | false=>simp [bq,h]
  | true=>exact ih
theorem Ev.ad1 {X:Nat→Nat→Option S} (n:Nat) (g:Nat→Int) (r:Int) (step:∀ j,j < n→(g j≠0→Ev (fun m=>X m j) (ii (g j)))∧(g j=0→∀ v,Ev (fun m=>X m (j+1)) v→Ev (fun m=>X m j) v))
  (stop:Ev (fun m=>X m n) (ii r)):Ev (fun m=>X m 0) (ii (bq (bg n g) r)):=by
 have:=Ev.tR (X:=X) n (fun j=>bif !(aR (g j) 0) then some (ii (g j)) else none) (ii r) (fun j hj=>by
  obtain ⟨h1,h2⟩:=step j hj
  cases h:aR (g j) 0 with
  | true=>exact ⟨fun e he=>(by cases he),fun _ v hv=>h2 (cJ.1 h) v hv⟩
  | false=>exact ⟨fun e he=>(by obtain rfl:=Option.some.inj he;exact h1 (k_.1 h)),fun hn=>(by cases hn)⟩) stop
 rw [LG] at this
 exact this
theorem Ev.lO {X:Nat→Nat→Option S} (c n:Nat) (g:Nat→Int) (r:Int) (step:∀ m j,j < n→X (m+c) j=bif !(aR (g j) 0) then some (ii (g j)) else X m (j+1)) (stop:Ev (fun m=>X m n) (ii r)):Ev (fun m=>X m 0) (ii (bq (bg n g) r)):=
 Ev.ad1 n g r (fun j hj=>⟨fun h=>Ev.one c fun m=>by rw [step m j hj,aaS h];rfl,fun h v hv=>Ev.by c (fun m=>by rw [step m j hj,h];rfl) hv⟩) stop
theorem JW (a b:Int):dw [a,b]=bq a b:=by
 unfold dw dw dw bq
 cases h:aR a 0 with
 | false=>rfl
 | true=>
  cases h':aR b 0 with
  | false=>rfl
  | true=>rw [cJ.1 h'];rfl
def qg (a:bu):Prop:=sm (aM a.fType)∧sm (aM a.bj)∧sm (aM a.bn)
def dV (a b:bu):Bool:=ah a.fType b.fType && (ah a.bj b.bj && (ah a.bn b.bn && true))
theorem MK {a b:bu}:dV a b=dV b a:=by
 unfold dV
 rw [de (a:=a.fType),de (a:=a.bj),de (a:=a.bn)]
theorem aks (a:Rw bu) (b:bu) (ha:a.n < 2 ^ 62):ca 188 [S.t (T.rows 3 a.n fun i=>bS (a.get i)),ag (bS b)] (ii (idx a.n fun j=>dV b (a.at j))):=by
 have key:=Ev.rW (X:=fun m j=>(xz (aa O) a b m).x0 (j:Int)) 1 a.n (fun j=>dV b (a.at j)) (fun m j hj=>by
  have hj2:j < 2 ^ 62:=by omega
  simp only [xz,QS,Br,um,aq,av hj,aK,hj,decide_true,cond_true,aA hj2,dV]) (fun m=>by
  simp only [xz,QS,Br,um,aq,Nat.lt_irrefl,decide_false,cond_false];rfl)
 obtain ⟨n,h⟩:=key.get
 exact ai5 a b n _ h
theorem akb (a:Rw bu) (b:bu) (ha:a.n < 2 ^ 62):ca 155 [S.t (T.rows 3 a.n fun i=>bS (a.get i)),ag (bS b)] (bb ((List.range a.n).any fun j=>dV b (a.at j))):=by
 obtain ⟨y,hy,hK⟩:=aN (by kernel_rfl) (aks a b ha)
 exact ahO a b 0 _ (by simp only [AF,hK,hy,je])
def iL (a:bu):Bool:=ba a.fType && (ba a.bj && ba a.bn)
def tt (a:Rw bu) (j:Nat):Int:=bif !iL (a.at j) then 7 else bif (List.range j).any (fun i=>dV (a.at j) (a.at i)) then 6 else 0
def fx (a:Rw bu):Int:=bif decide (72 < a.n) then 3 else bg a.n (tt a)
theorem aer (a:Rw bu) (ha:ga qg a):ca 114 [S.t (T.rows 3 a.n fun i=>bS (a.get i))] (ii (fx a)):=by
 have hn:=cF ha.1
 have key:=Ev.jc (X:=fun m j=>(wc (aa O) a m).x0 (j:Int)) 1 a.n (tt a) (fun m j hj=>by
  have hj2:j < 2 ^ 62:=by omega
  obtain ⟨h1,h2,h3⟩:=ha.2 j hj
  obtain ⟨y,hy,hK⟩:=aB (by kernel_rfl) (c109 [(a.at j).fType,(a.at j).bj,(a.at j).bn] (show (3:Nat) < 2 ^ 62 by decide) (fun x hx=>by
   simp only [List.mem_cons,List.not_mem_nil,or_false] at hx
   rcases hx with rfl | rfl | rfl
   ·exact h1
   ·exact h2
   ·exact h3))
  have hK:∀ (ρ:Type) (K:Y→Option ρ),yC (aa O) 109 [S.t (T.rows 1 3 fun i=>List.take 1 (List.drop (i.1*1) (bS (a.at j))))] K=K y:=hK
  have hy:y.b 0=iL (a.at j):=by rw [hy];simp only [List.all_cons,List.all_nil,Bool.and_true,iL]
  obtain ⟨z,hz,hL⟩:=aN (by kernel_rfl) (MQ (iL (a.at j)) 7)
  obtain ⟨x,hx,hM⟩:=aB (by kernel_rfl) (akb (a.sub j (by omega)) (a.at j) (by rw [nT];omega))
  rw [nC (p:=fun (t:bu)=>dV (a.at j) t)] at hx
  simp only [Rw.sub] at hM
  generalize hq:(List.range j).any (fun i=>dV (a.at j) (a.at i))=q at hx
  obtain ⟨w,hw,hN⟩:=aN (by kernel_rfl) (MQ (!q) 6)
  obtain ⟨u,hu,hP⟩:=aN (by kernel_rfl) (c107 [bif iL (a.at j) then 0 else 7,bif !q then 0 else 6] (show (2:Nat) < 2 ^ 62 by decide))
  have hP:∀ (ρ:Type) (K:Y→Option ρ),yC (aa O) 107 [S.t (T.rows 1 2 fun i=>List.take 1 (List.drop (i.1*1) [ti (bif iL (a.at j) then 0 else 7),ti (bif !q then 0 else 6)]))] K=K u:=hP
  simp only [wc,NI,BE,vh,aq,av hj,aK,hj,decide_true,cond_true,aA hj2,hK,hy,hL,hz,kC (Nat.le_of_lt hj),iU (Nat.le_of_lt hj),hM,hx,hN,hw,hP,hu,JW]
  unfold tt
  rw [hq]
  cases iL (a.at j)<;>cases q<;>rfl) (fun m=>by
  simp only [wc,NI,BE,vh,aq,Nat.lt_irrefl,decide_false,cond_false])
 obtain ⟨n,h⟩:=key.get
 refine aiS a n _ ?_
 have e:bl (ay a.n) 72=decide (72 < a.n):=dO (k:=72)
 unfold fx
 simp only [y_,e]
 cases decide (72 < a.n) with
 | true=>rfl
 | false=>exact h
theorem c131 (a:Rw bu) (ha:ga qg a):ca 131 [S.t (T.rows 3 a.n fun i=>bS (a.get i))] (ii (fx a)):=by
 have hn:=cF ha.1
 have key:=Ev.rq (X:=fun m j=>(kd (aa O) a m).x0 (j:Int)) a.n (tt a) (fun j hj=>by
  have hj2:j < 2 ^ 62:=by omega
  obtain ⟨h1,h2,h3⟩:=ha.2 j hj
  obtain ⟨y,hy,hK⟩:=aB (by kernel_rfl) (c130 (a.at j).fType (a.at j).bj (a.at j).bn h1 h2 h3)
  have hK:∀ (ρ:Type) (K:Y→Option ρ),yC (aa O) 130 [ag (bS (a.at j))] K=K y:=hK
  have hy:y.b 0=iL (a.at j):=hy
  have hle:j≤a.n:=by omega
  have hsn:(a.sub j hle).n=j:=nT
  have hto:ay (cK (j:Int))=(j:Int):=by unfold ay cK;simp
  obtain ⟨inT,inF⟩:=Ev.vO (X:=fun m i=>(kd (aa O) a m).x1 (a.sub j hle) (a.at j) (j:Int) (j:Int) (i:Int)) 1 j (fun i=>dV (a.at j) (a.at i)) (ii 6) (fun m i hi=>by
   have hi':i < (a.sub j hle).n:=by omega
   rw [MK,← BD (h:=hle) hi]
   simp only [kd,D4,Aa,nV,qJ,ek,hi,decide_true,cond_true,av hi',aK,aA (show i < 2 ^ 62 by omega),dV])
  have out:∀ m,(kd (aa O) a (m+1)).x1 (a.sub j hle) (a.at j) (j:Int) (j:Int) (j:Int)=(kd (aa O) a m).x0 ((j+1:Nat):Int):=fun m=>by
   simp only [kd,D4,Aa,nV,qJ,ek,Nat.lt_irrefl,decide_false,cond_false,aA hj2]
  have one:∀ m,(kd (aa O) a (m+1)).x0 (j:Int)=bif !iL (a.at j) then some (ii 7) else (kd (aa O) a m).x1 (a.sub j hle) (a.at j) (j:Int) (j:Int) 0:=fun m=>by
   simp only [kd,D4,yG,nV,qJ,aq,av hj,aK,hj,decide_true,cond_true,hK,hy,kC hle,iU hle,hto]
   rfl
  unfold tt
  cases h1:iL (a.at j) with
  | false=>exact ⟨fun _=>Ev.one 1 fun m=>by rw [one,h1];rfl,fun h=>absurd (show (7:Int)=0 from h) (by decide)⟩
  | true=>
   cases h3:(List.range j).any (fun i=>dV (a.at j) (a.at i)) with
   | true=>exact ⟨fun _=>Ev.by 1 (fun m=>by rw [one,h1];rfl) (inT h3),fun h=>absurd h (by decide)⟩
   | false=>exact ⟨fun h=>absurd rfl h,fun _ v hv=>Ev.by 1 (fun m=>by rw [one,h1];rfl) (inF h3 v (Ev.by 1 out hv))⟩) (Ev.one 1 fun m=>by
  simp only [kd,D4,yG,nV,aq,Nat.lt_irrefl,decide_false,cond_false])
 obtain ⟨n,h⟩:=key.get
 refine ah7 a n _ ?_
 have e:bl (ay a.n) 72=decide (72 < a.n):=dO (k:=72)
 unfold fx
 simp only [Aq,e]
 cases decide (72 < a.n) with
 | true=>rfl
 | false=>exact h
def Ta:ByteArray:=bs [122,111,110,101]
def S0:ByteArray:=bs [104,111,115,116]
def Hx (a:ByteArray):Bool:=ah a Ta || ah a S0
def lV (a b:ByteArray):Int:=bif !Hx a then 1 else bif !ba b then 7 else 0
theorem YR {a:ByteArray} (ha:sm (aM a)):∃ y:Y,y.b 0=ba a∧∀ (ρ:Type) (K:Y→Option ρ),yC (aa O) 109 [S.t (T.rows 1 1 fun i=>List.take 1 (List.drop (i.1*1) [ts a]))] K=K y:=by
 obtain ⟨y,hy,hK⟩:=aB (by kernel_rfl) (c109 [a] (show (1:Nat) < 2 ^ 62 by decide) (fun x hx=>by simp only [List.mem_singleton] at hx;rw [hx];exact ha))
 exact ⟨y,by rw [hy];simp,hK⟩
theorem Qr (a b:Int):∃ y:Y,y.i 0=bq a b∧∀ (ρ:Type) (K:Y→Option ρ),yC (aa O) 107 [S.t (T.rows 1 2 fun i=>List.take 1 (List.drop (i.1*1) [ti a,ti b]))] K=K y:=by
 obtain ⟨y,hy,hK⟩:=aN (by kernel_rfl) (c107 [a,b] (show (2:Nat) < 2 ^ 62 by decide))
 exact ⟨y,by rw [hy,JW],hK⟩
theorem c159 (a b:ByteArray) (hb:sm (aM b)):ca 159 [ss a,ss b] (ii (lV a b)):=by
 obtain ⟨y,hy,hK⟩:=aN (by kernel_rfl) (MQ (Hx a) 1)
 obtain ⟨z,hz,hL⟩:=YR hb
 obtain ⟨x,hx,hM⟩:=aN (by kernel_rfl) (MQ (ba b) 7)
 obtain ⟨w,hw,hN⟩:=Qr (bif Hx a then 0 else 1) (bif ba b then 0 else 7)
 refine aiV a b 1 _ ?_
 have e:sM (aa O) a b (Ah (wS (aa O) a b 1))=(wS (aa O) a b 1).x0 (Hx a):=by
  unfold sM Hx Ta S0 Ah
  cases ah a (bs [122,111,110,101])<;>rfl
 rw [e]
 simp only [wS,X8,Gv,hK,hy,hL,hz,hM,hx,hN,hw]
 unfold lV
 cases Hx a<;>cases ba b<;>rfl
def rK (a:ma):Prop:=sm (aM a.aZ)∧sm (aM a.ef)
def du (a:Rw ma):Int:=bg a.n fun j=>lV (a.at j).aZ (a.at j).ef
theorem c80 (a:Rw ma) (ha:ga rK a):ca 80 [S.t (T.rows 2 a.n fun i=>iA (a.get i))] (ii (du a)):=by
 have hn:=cF ha.1
 have key:=Ev.jc (X:=fun m j=>(Md (aa O) a m).x0 (j:Int)) 1 a.n (fun j=>lV (a.at j).aZ (a.at j).ef) (fun m j hj=>by
  have hj2:j < 2 ^ 62:=by omega
  obtain ⟨y,hy,hK⟩:=aB (by kernel_rfl) (vW (a.at j).ef (ha.2 j hj).2)
  simp only [Md,Zl,J7,CH,aq,av hj,aK,hj,decide_true,cond_true,aA hj2,hK,hy]
  unfold lV Hx Ta S0
  cases ah (a.at j).aZ (bs [122,111,110,101])<;>cases ah (a.at j).aZ (bs [104,111,115,116])<;>cases ba (a.at j).ef<;>rfl) (fun m=>by
  simp only [Md,Zl,J7,CH,aq,Nat.lt_irrefl,decide_false,cond_false])
 obtain ⟨n,h⟩:=key.get
 exact W80 a n _ h
def Vi (a:D70):Prop:=sm (aM a.aZ)∧sm (aM a.ef)
def iH (x:D70):Int:=bq (lV x.aZ x.ef) (bif cT x.f_ 1 && bp x.f_ 16 then 0 else 1)
def TM (a:fB):Bool:=decide (3 < a.aD.n) || (decide (3 < a.bR.n) || decide (3 < a.bA.n))
def my (a:fB):Int:=bif TM a then 3 else bq (bg a.aD.n fun j=>iH (a.aD.at j)) (bq (du a.bR) (du a.bA))
theorem aiC (a:fB) (h1:ga Vi a.aD) (h2:ga rK a.bR) (h3:ga rK a.bA):ca 121 [ag (jv a)] (ii (my a)):=by
 have hn1:=cF h1.1
 have hn2:=cF h2.1
 have hn3:=cF h3.1
 have k6:Ev (fun m=>(dU (aa O) a m).x6) (ii 0):=Ev.one 1 fun m=>by simp only [dU,mg,Eu]
 have k5:Ev (fun m=>(dU (aa O) a m).x5 0) (ii (bq (du a.bA) 0)):=
  Ev.lO (X:=fun m j=>(dU (aa O) a m).x5 (j:Int)) 1 a.bA.n (fun j=>lV (a.bA.at j).aZ (a.bA.at j).ef) 0 (fun m j hj=>by
   obtain ⟨y,hy,hK⟩:=aN (by kernel_rfl) (c159 (a.bA.at j).aZ (a.bA.at j).ef (h3.2 j hj).2)
   have hK:∀ (ρ:Type) (K:Y→Option ρ),yC (aa O) 159 (List.map S.t (iA (a.bA.at j))) K=K y:=hK
   simp only [dU,mg,yN,sO,aq,av hj,aK,hj,decide_true,cond_true,aA (show j < 2 ^ 62 by omega),hK,hy]) (Ev.by 1 (fun m=>by
   simp only [dU,mg,yN,Ib,aq,Nat.lt_irrefl,decide_false,cond_false]) k6)
 have k4:Ev (fun m=>(dU (aa O) a m).x4) (ii (bq (du a.bA) 0)):=Ev.by 1 (fun m=>by simp only [dU,mg,He,sO]) k5
 have k3:Ev (fun m=>(dU (aa O) a m).x3 0) (ii (bq (du a.bR) (bq (du a.bA) 0))):=
  Ev.lO (X:=fun m j=>(dU (aa O) a m).x3 (j:Int)) 1 a.bR.n (fun j=>lV (a.bR.at j).aZ (a.bR.at j).ef) _ (fun m j hj=>by
   obtain ⟨y,hy,hK⟩:=aN (by kernel_rfl) (c159 (a.bR.at j).aZ (a.bR.at j).ef (h2.2 j hj).2)
   have hK:∀ (ρ:Type) (K:Y→Option ρ),yC (aa O) 159 (List.map S.t (iA (a.bR.at j))) K=K y:=hK
   simp only [dU,mg,zj,uy,aq,av hj,aK,hj,decide_true,cond_true,aA (show j < 2 ^ 62 by omega),hK,hy]) (Ev.by 1 (fun m=>by
   simp only [dU,mg,zj,EC,aq,Nat.lt_irrefl,decide_false,cond_false]) k4)
 have k1:Ev (fun m=>(dU (aa O) a m).x1) (ii (bq (du a.bR) (bq (du a.bA) 0))):=Ev.by 1 (fun m=>by simp only [dU,mg,GH,uy]) k3
 have k0:Ev (fun m=>(dU (aa O) a m).x0 0) (ii (bq (bg a.aD.n fun j=>iH (a.aD.at j)) (bq (du a.bR) (bq (du a.bA) 0)))):=
  Ev.lO (X:=fun m j=>(dU (aa O) a m).x0 (j:Int)) 2 a.aD.n (fun j=>iH (a.aD.at j)) _ (fun m j hj=>by
   obtain ⟨y,hy,hK⟩:=aN (by kernel_rfl) (c159 (a.aD.at j).aZ (a.aD.at j).ef (h1.2 j hj).2)
   obtain ⟨z,hz,hL⟩:=aN (by kernel_rfl) (MQ (cT (a.aD.at j).f_ 1 && bp (a.aD.at j).f_ 16) 1)
   obtain ⟨w,hw,hN⟩:=Qr (lV (a.aD.at j).aZ (a.aD.at j).ef) (bif cT (a.aD.at j).f_ 1 && bp (a.aD.at j).f_ 16 then 0 else 1)
   have e:(dU (aa O) a (m+2)).x0 (j:Int)=(dU (aa O) a (m+1)).x2 (lV (a.aD.at j).aZ (a.aD.at j).ef) (cT (a.aD.at j).f_ 1 && bp (a.aD.at j).f_ 16) (j:Int):=by
    simp only [dU,mg,AB,Ig,aq,av hj,aK,hj,decide_true,cond_true,hK,hy]
    cases cT (a.aD.at j).f_ 1<;>simp only [cond_true,cond_false,Bool.true_and,Bool.false_and]
   show (dU (aa O) a (m+2)).x0 (j:Int)=_
   rw [e]
   simp only [dU,mg,GS,yx,hL,hz,hN,hw,aA (show j < 2 ^ 62 by omega)]
   rfl) (Ev.by 1 (fun m=>by
   simp only [dU,mg,AB,GL,aq,Nat.lt_irrefl,decide_false,cond_false]) k1)
 have e0:bq (du a.bA) 0=du a.bA:=by
  unfold bq
  cases h:aR (du a.bA) 0 with
  | false=>rfl
  | true=>exact (cJ.1 h).symm
 rw [e0] at k0
 obtain ⟨n,h⟩:=k0.get
 refine aiP a n _ ?_
 have hm:∀ x y z:Nat,bl (Bool.rec ((fun _=>bif true then bif decide (ay y > ay x) then ay y else ay x else bif decide (ay y < ay x) then ay y else ay x) ()) ((fun _=>ay z) ()) (decide (ay z > bif true then bif decide (ay y > ay x) then ay y else ay x else bif decide (ay y < ay x) then ay y else ay x))) 3=(decide (3 < x) || (decide (3 < y) || decide (3 < z))):=fun x y z=>by
  unfold bl ay
  simp only [cond_true]
  by_cases c1:(y:Int) > x
  ·simp only [c1,decide_true,cond_true]
   by_cases c2:(z:Int) > y
   ·simp only [c2,decide_true]
    rw [Bool.eq_iff_iff];simp;omega
   ·simp only [c2,decide_false]
    rw [Bool.eq_iff_iff];simp;omega
  ·simp only [c1,decide_false,cond_false]
   by_cases c2:(z:Int) > x
   ·simp only [c2,decide_true]
    rw [Bool.eq_iff_iff];simp;omega
   ·simp only [c2,decide_false]
    rw [Bool.eq_iff_iff];simp;omega
 unfold my
 unfold xK
 rw [hm]
 unfold TM
 cases (decide (3 < a.aD.n) || (decide (3 < a.bR.n) || decide (3 < a.bA.n))) with
 | true=>rfl
 | false=>exact h
def cB (l:List ByteArray):List (S × S):=l.map fun s=>(ss s,bb true)
theorem acn (a b:ByteArray):oS O.P O.K 9 (ss a) (ss b)=some (ah a b):=by kernel_rfl
theorem sZ (b s:ByteArray) (l:List ByteArray) (i:Nat):eT O.P O.K 9 (ss b) (cB (s::l)) i=bif ah b s then some (some (i,bb true)) else eT O.P O.K 9 (ss b) (cB l) (i+1):=by
 show (oS O.P O.K 9 (ss b) (ss s)).bind _=_
 rw [acn]
 rfl
theorem Iz (b:ByteArray):∀ (l:List ByteArray) (i:Nat),(l.any (ah b)=false→eT O.P O.K 9 (ss b) (cB l) i=some none)∧(l.any (ah b)=true→∃ k,eT O.P O.K 9 (ss b) (cB l) i=some (some (k,bb true)))
 | [],i=>⟨fun _=>rfl,fun h=>absurd h (by simp)⟩
 | s::l,i=>by
  obtain ⟨h1,h2⟩:=Iz b l (i+1)
  rw [sZ]
  simp only [List.any_cons]
  cases h:ah b s with
  | true=>exact ⟨fun h=>absurd h (by simp),fun _=>⟨i,rfl⟩⟩
  | false=>exact ⟨h1,h2⟩
theorem ahy:shV O.P 4 0=some (.bool 0,1):=by kernel_rfl
theorem Dy {ρ:Type} (b:ByteArray) (l:List ByteArray):(l.any (ah b)=false→∀ (Kt:Y→Option ρ) (Kf:Option ρ),lookW O.P O.K 9 4 (cB l) (ss b) Kt Kf=Kf)∧(l.any (ah b)=true→∃ y:Y,y.b 0=true∧∀ (Kt:Y→Option ρ) (Kf:Option ρ),lookW O.P O.K 9 4 (cB l) (ss b) Kt Kf=Kt y):=by
 refine ⟨fun h Kt Kf=>?_,fun h=>?_⟩
 ·unfold lookW
  rw [ahy,(Iz b l 0).1 h]
 ·obtain ⟨k,hk⟩:=(Iz b l 0).2 h
  obtain ⟨y,hy,he⟩:=nF (sh:=.bool 0) (y:=yB true)
  have hb:build (yB true) (.bool 0)=bb true:=rfl
  rw [hb] at hy he
  have he2:y.b 0=true:=by simpa [build] using he
  refine ⟨y,he2,fun Kt Kf=>?_⟩
  unfold lookW
  rw [ahy,hk]
  dsimp only
  rw [hy]
  rfl
theorem ZD {ρ:Type} {l:List ByteArray} {b:ByteArray} (h:l.any (ah b)=false) (K:List (S × S)→Option ρ):n_ O.P O.K 9 (cB l) (ss b) (bb true) K=K (cB (l++[b])):=by
 unfold n_
 rw [(Iz b l 0).1 h]
 simp [cB]
theorem MA (get:Nat→Option B) (d:Nat) (s:ByteArray):cd get (d+10) (ss s)=some (ss s,[]):=rfl
theorem Em (get:Nat→Option B) (d:Nat):cd get (d+10) (bb true)=some (bb true,[]):=rfl
theorem BM (get:Nat→Option B):∀ (l:List ByteArray) (d:Nat),ig get (d+11+l.length) (cB l)=some (cB l,[])
 | [],d=>rfl
 | p::l,d=>by
  have e:d+11+(p::l).length=(d+11+l.length)+1:=by simp;omega
  rw [e]
  show ig get ((d+11+l.length)+1) ((ss p,bb true)::cB l)=_
  unfold ig
  have e2:d+11+l.length=(d+1+l.length)+10:=by omega
  have h1:=MA get (d+1+l.length) p
  have h2:=Em get (d+1+l.length)
  rw [← e2] at h1 h2
  simp only [h1,h2,BM get l d]
  rfl
theorem tT {ρ:Type} {d:Nat} {l:List ByteArray} {K:Option ρ} (h:l.length+11≤d):bL d (cB l) K=K:=by
 unfold bL
 refine if_pos ⟨fun get=>?_,?_,fun m=>?_⟩
 ·have:=BM get l (d - 11 - l.length)
  rwa [show d - 11 - l.length+11+l.length=d by omega] at this
 ·clear h
  induction l with
  | nil=>rfl
  | cons p l ih=>
   show rp ((ss p,bb true)::cB l)=[]
   unfold rp
   rw [ih]
   rfl
 ·clear h
  induction l with
  | nil=>rfl
  | cons p l ih=>
   show tN m ((ss p,bb true)::cB l)=_
   unfold tN
   rw [ih]
   rfl
theorem kJ {ρ:Type} {l:List ByteArray} {K:Option ρ} (h:l.length≤800):bL 900 (cB l) K=K:=tT (by omega)
theorem Rg (b:ByteArray):∀ (l:List ByteArray) (i:Nat),l.any (ah b)=true→∃ k,eT O.P O.K 9 (ss b) (cB l) i=some (some (i+k,bb true))∧oL (cB l) k (ss b) (bb true)=cB l
 | [],i,h=>absurd h (by simp)
 | s::l,i,h=>by
  rw [sZ]
  cases he:ah b s with
  | true=>
   obtain rfl:=dc.1 he
   exact ⟨0,rfl,rfl⟩
  | false=>
   rw [List.any_cons,he,Bool.false_or] at h
   obtain ⟨k,h1,h2⟩:=Rg b l (i+1) h
   refine ⟨k+1,?_,?_⟩
   ·rw [cond_false,h1]
    congr 3
    omega
   ·show (ss s,bb true)::oL (cB l) k (ss b) (bb true)=_
    rw [h2];rfl
def l0 (l:List ByteArray) (b:ByteArray):List ByteArray:=bif l.any (ah b) then l else l++[b]
theorem agP {ρ:Type} (l:List ByteArray) (b:ByteArray) (K:List (S × S)→Option ρ):n_ O.P O.K 9 (cB l) (ss b) (bb true) K=K (cB (l0 l b)):=by
 cases h:l.any (ah b) with
 | false=>rw [ZD h];unfold l0;rw [h];rfl
 | true=>
  obtain ⟨k,h1,h2⟩:=Rg b l 0 h
  unfold n_ l0
  rw [h1,h]
  dsimp only
  rw [Nat.zero_add,h2];rfl
theorem tB {f:FuncId} {args:List S} {m:List (S × S)} (hs:wh O.P f=some (.mt 0)) (h:ca f args (S.mt m)):∃ y:Y,y.m 0=m∧∀ (ρ:Type) (K:Y→Option ρ),yC (aa O) f args K=K y:=by
 obtain ⟨y,h1,h2⟩:=iR (y0:=⟨fun _=>0,fun _=>false,fun _=>⟨#[]⟩,fun _=>⟨0,fun i=>i.elim0⟩,fun _=>m⟩) hs h
 refine ⟨y,?_,h2⟩
 simpa [build] using h1
end
end Go.Proofs.YtonkoellfaopiaaGreatDoor.H
