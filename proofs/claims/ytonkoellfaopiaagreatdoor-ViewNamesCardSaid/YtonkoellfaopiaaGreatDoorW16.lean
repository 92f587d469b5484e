import Derived.Test.YtonkoellfaopiaaGreatDoorW7
import Derived.Test.YtonkoellfaopiaaGreatDoorW8
import Derived.Test.YtonkoellfaopiaaGreatDoorW9
import Derived.Test.YtonkoellfaopiaaGreatDoorW10
import Derived.Test.YtonkoellfaopiaaGreatDoorW11
import Derived.Test.YtonkoellfaopiaaGreatDoorW12
import Derived.Test.YtonkoellfaopiaaGreatDoorW13
import Derived.Test.YtonkoellfaopiaaGreatDoorW14
import Derived.Test.YtonkoellfaopiaaGreatDoorW15
set_option linter.unusedSimpArgs false
set_option linter.unusedVariables false
namespace Go.Proofs.YtonkoellfaopiaaGreatDoor.H
open Go
noncomputable section
def within (a lo hi:Int):Bool:=geI a lo && leI a hi
theorem c22 (a:Int):Ret 22 [ii a] (bb (within a 0 1099511627776)):=W22 a 1 _ (by
 unfold e22_in within
 cases geI a 0<;>rfl)
theorem c31 (a:Int):Ret 31 [ii a] (bb (within a 0 1099511627776)):=W31 a 1 _ (by
 unfold e31_in within
 cases geI a 0<;>rfl)
theorem c23 (a:Int):Ret 23 [ii a] (bb (within a 0 1073741824)):=W23 a 1 _ (by
 unfold e23_in within
 cases geI a 0<;>rfl)
theorem c32 (a:Int):Ret 32 [ii a] (bb (within a 0 1073741824)):=W32 a 1 _ (by
 unfold e32_in within
 cases geI a 0<;>rfl)
theorem c112 (a b c:Int):Ret 112 [ii a,ii b,ii c] (bb (within a b c)):=W112 a b c 1 _ (by
 unfold e112_in within
 cases geI a b<;>rfl)
theorem c74 (a b c:Int):Ret 74 [ii a,ii b,ii c] (bb (within a b c)):=W74 a b c 1 _ (by
 unfold e74_in within
 cases geI a b<;>rfl)
theorem c108 (a:Bool) (b:Int):Ret 108 [bb a,ii b] (ii (bif a then 0 else b)):=W108 a b 0 _ (by
 unfold e108_in
 cases a<;>rfl)
def chk (a:Int):Int:=bif ltI a 0 then 11 else bif gtI a 1125899906842624 then 10 else 0
theorem c113 (a:Int):Ret 113 [ii a] (ii (chk a)):=W113 a 0 _ (by
 unfold e113_in chk
 cases ltI a 0<;>cases gtI a 1125899906842624<;>rfl)
theorem c91 (a:Int):Ret 91 [ii a] (ii (chk a)):=W91 a 0 _ (by
 unfold e91_in chk
 cases ltI a 0<;>cases gtI a 1125899906842624<;>rfl)
theorem eqI_true {a b:Int}:eqI a b=true↔a=b:=by unfold eqI;simp
theorem eqI_false {a b:Int}:eqI a b=false↔a≠b:=by unfold eqI;simp
def chk2 (a b:Int):Int:=bif !eqI (chk a) 0 then chk a else chk b
theorem c102 (a b:Int):Ret 102 [S.agg [ii a,ii b]] (ii (chk2 a b)):=W102 ⟨a,b⟩ 3 _ (by
 obtain ⟨y,hy,hK⟩:=yC_int (by kernel_rfl) (c113 a)
 obtain ⟨z,hz,hL⟩:=yC_int (by kernel_rfl) (c113 b)
 simp only [e102_in,D102_0,D102_1,D102_2,X102n,X102s,b102_0,b102_1,b102_2,hK,hL,hy,hz]
 unfold chk2
 cases h:eqI (chk a) 0 with
 | false=>rfl
 | true=>
  cases h':eqI (chk b) 0 with
  | false=>rfl
  | true=>rw [eqI_true.1 h'];rfl)
theorem c49 (a b:Int):Ret 49 [S.agg [ii a,ii b]] (ii (chk2 a b)):=W49 ⟨a,b⟩ 0 _ (by
 obtain ⟨y,hy,hK⟩:=yC_int (by kernel_rfl) (c91 a)
 obtain ⟨z,hz,hL⟩:=yC_int (by kernel_rfl) (c91 b)
 simp only [e49_in,hK,hL,hy,hz]
 unfold chk2
 cases h:eqI (chk a) 0<;>rfl)
def both (a b c d:Int):Int:=bif !eqI (chk2 a b) 0 then chk2 a b else chk2 c d
theorem c143 (a b c d:Int):Ret 143 [S.agg [ii a,ii b],S.agg [ii c,ii d]] (ii (both a b c d)):=W143 ⟨a,b⟩ ⟨c,d⟩ 0 _ (by
 obtain ⟨y,hy,hK⟩:=yC_int (by kernel_rfl) (c102 a b)
 obtain ⟨z,hz,hL⟩:=yC_int (by kernel_rfl) (c102 c d)
 simp only [e143_in,e49,ag,List.map,hK,hL,hy,hz]
 unfold both
 cases h:eqI (chk2 a b) 0<;>rfl)
theorem c48 (a b c d:Int):Ret 48 [S.agg [ii a,ii b],S.agg [ii c,ii d]] (ii (both a b c d)):=W48 ⟨a,b⟩ ⟨c,d⟩ 0 _ (by
 obtain ⟨y,hy,hK⟩:=yC_int (by kernel_rfl) (c49 a b)
 obtain ⟨z,hz,hL⟩:=yC_int (by kernel_rfl) (c49 c d)
 simp only [e48_in,e49,ag,List.map,hK,hL,hy,hz]
 unfold both
 cases h:eqI (chk2 a b) 0<;>rfl)
def yII (x y:Int):Y:=⟨fun i=>match i with | 0=>x | _=>y,fun _=>false,fun _=>⟨#[]⟩,fun _=>⟨0,fun i=>i.elim0⟩,fun _=>[]⟩
theorem yC_two {f:FuncId} {args:List S} {x z:Int} (hs:shF O.P f=some (.agg [.int .i64 0,.int .i64 1])) (h:Ret f args (S.agg [ii x,ii z])):∃ y:Y,y.i 0=x∧y.i 1=z∧∀ (ρ:Type) (K:Y→Option ρ),yC (regs O) f args K=K y:=by
 obtain ⟨y,h1,h2⟩:=yC_of (y0:=yII x z) hs h
 simp only [build,buildL,yII,S.agg.injEq,List.cons.injEq,S.t.injEq,T.v.injEq,Value.int.injEq,true_and,and_true] at h1
 exact ⟨y,h1.1,h1.2,h2⟩
def mn (a b:Int):Int:=bif decide (b < a) then b else a
theorem c144 (a b c d:Int):Ret 144 [S.agg [ii a,ii b],S.agg [ii c,ii d]] (S.agg [ii (mn a c),ii (mn b d)]):=W144 ⟨a,b⟩ ⟨c,d⟩ 3 _ (by
 simp only [e144_in,D144_0,D144_1,D144_2,X144n,X144s,b144_0,b144_1,b144_2]
 unfold mn
 cases decide (c < a)<;>cases decide (d < b)<;>rfl)
theorem eqI_mn {a b:Int}:eqI (mn a b) a=leI a b:=by
 unfold eqI mn leI
 by_cases h:b < a
 ·simp [h];omega
 ·simp [h];omega
theorem eqI_mn' {a b:Int}:eqI (mn a b) b=leI b a:=by
 unfold eqI mn leI
 by_cases h:b < a
 ·simp [h];omega
 ·simp [h];omega
def fits (a b c d:Int):Bool:=eqI (both a b c d) 0 && (leI a c && leI b d)
theorem c103 (a b c d:Int):Ret 103 [S.agg [ii a,ii b],S.agg [ii c,ii d]] (bb (fits a b c d)):=W103 ⟨a,b⟩ ⟨c,d⟩ 1 _ (by
 obtain ⟨y,hy,hK⟩:=yC_int (by kernel_rfl) (c143 a b c d)
 obtain ⟨z,hz,hz',hL⟩:=yC_two (by kernel_rfl) (c144 a b c d)
 simp only [e103_in,e49,ag,List.map,D103_0,X103n,X103s,b103_0,hK,hL,hy,hz,hz',eqI_mn,Bool.and_true]
 unfold fits
 cases h:eqI (both a b c d) 0<;>rfl)
theorem c125 (a b c d:Int):Ret 125 [S.agg [ii a,ii b],S.agg [ii c,ii d]] (bb (fits a b c d)):=W125 ⟨a,b⟩ ⟨c,d⟩ 2 _ (by
 obtain ⟨y,hy,hK⟩:=yC_int (by kernel_rfl) (c48 a b c d)
 simp only [e125_in,e49,ag,List.map,D125_0,D125_1,X125n,X125s,b125_0,b125_1,hK,hy]
 unfold fits
 cases h:eqI (both a b c d) 0<;>cases h':leI a c<;>rfl)
def subE (a b c d:Int):Int:=bif !eqI (both a b c d) 0 then both a b c d else bif leI c a && leI d b then 0 else 11
def subA (a b c d x y:Int):Int:=bif eqI (both a b c d) 0 && (leI c a && leI d b) then subI .i64 x y else 0
abbrev subS (a b c d:Int):S:=.tup [.agg [ii (subA a b c d a c),ii (subA a b c d b d)],ii (subE a b c d)]
theorem gtI_leI {a b:Int}:gtI a b=!leI a b:=by
 unfold gtI leI
 by_cases h:a≤b
 ·simp [h]
 ·simp [h];omega
theorem c115 (a b c d:Int):Ret 115 [S.agg [ii a,ii b],S.agg [ii c,ii d]] (subS a b c d):=W115 ⟨a,b⟩ ⟨c,d⟩ 3 _ (by
 obtain ⟨y,hy,hK⟩:=yC_int (by kernel_rfl) (c143 a b c d)
 obtain ⟨z,hz,hz',hL⟩:=yC_two (by kernel_rfl) (c144 a b c d)
 simp only [e115_in,e49,ag,List.map,D115_0,D115_1,D115_2,X115n,X115s,b115_0,b115_1,b115_2,hK,hL,hy,hz,hz',eqI_mn',Bool.and_true,subS]
 unfold subA subE
 cases h:eqI (both a b c d) 0<;>cases h1:leI c a<;>cases h2:leI d b<;>rfl)
theorem c132 (a b c d:Int):Ret 132 [S.agg [ii a,ii b],S.agg [ii c,ii d]] (subS a b c d):=W132 ⟨a,b⟩ ⟨c,d⟩ 0 _ (by
 obtain ⟨y,hy,hK⟩:=yC_int (by kernel_rfl) (c48 a b c d)
 simp only [e132_in,e49,ag,List.map,hK,hy,gtI_leI,subS]
 unfold subA subE
 cases h:eqI (both a b c d) 0<;>cases h1:leI c a<;>cases h2:leI d b<;>rfl)
def sm (n:Nat):Prop:=n≤140737488355327
theorem sm_lt {n:Nat} (h:sm n):n < 2 ^ 62:=by unfold sm at h;omega
theorem ltI_ge {a b:Int}:ltI a b=!geI a b:=by unfold ltI geI;by_cases h:a < b<;>simp [h]<;>omega
theorem addI_nat1 {j:Nat} (h:j < 2 ^ 62):addI .i64 (j:Int) 1=((j+1:Nat):Int):=addI_nat h
theorem eqI_nat0 {j:Nat}:eqI (j:Int) 0=decide (j=0):=by unfold eqI;simp
theorem c101 (a:ByteArray) (ha:sm (sizeN a)):Ret 101 [ss a] (bb (nameB a)):=by
 have hn:=sm_lt ha
 have key:Ev (fun m=>(X101n (regs O) a m).x0 0) (bb (nameB a)):=by
  have:=Ev.loopc (X:=fun m j=>(X101n (regs O) a m).x0 j) 2 (sizeN a) (fun j=>bif okc (chr a j) (decide (j=0)) then none else some (bb false)) (bb (!decide (sizeN a=0) && decide (sizeN a≤16))) (fun m j hj=>by
   have hj2:j < 2 ^ 62:=by omega
   simp only [X101n,X101s,b101_0,b101_2,D101_0,D101_1,D101_2,ltI_nat,elemO_nat hj,byteAt_nat,hj,decide_true,cond_true,addI_nat1 hj2,eqI_nat0]
   simp only [ltI_ge,gtI_leI]
   generalize chr a j=c
   unfold okc
   cases geI c 97<;>cases leI c 122<;>cases decide (j=0)<;>cases eqI c 46<;>cases eqI c 45<;>cases geI c 48<;>cases leI c 57<;>rfl) (fun m=>by
   simp only [X101n,X101s,b101_0,b101_1,D101_1,ltI_nat,Nat.lt_irrefl,decide_false,cond_false,strEq_empty]
   have:leI (sizeS a) 16=decide (sizeN a≤16):=by unfold leI sizeS sizeN;congr 1;simp;omega
   rw [this]
   cases decide (sizeN a=0)<;>rfl)
  rw [find_all (p:=fun j=>okc (chr a j) (decide (j=0))) (fun j=>rfl)] at this
  have e:(bif (List.range (sizeN a)).all (fun j=>okc (chr a j) (decide (j=0))) then bb (!decide (sizeN a=0) && decide (sizeN a≤16)) else bb false)=bb (nameB a):=by
   unfold nameB
   cases (List.range (sizeN a)).all (fun j=>okc (chr a j) (decide (j=0)))<;>cases decide (sizeN a=0)<;>cases decide (sizeN a≤16)<;>rfl
  rw [← e]
  exact this
 obtain ⟨n,h⟩:=key.get
 refine W101 a n _ ?_
 have hr:roomS a=true:=by unfold roomS;unfold sm at ha;unfold sizeN at ha;simp [strMax];omega
 simp only [e101_in,hr,cond_true]
 exact h
theorem sizeS_nat {a:ByteArray}:sizeS a=ofN (sizeN a):=rfl
theorem c71 (a:ByteArray) (ha:sm (sizeN a)):Ret 71 [ss a] (bb (nameB a)):=by
 have hn:=sm_lt ha
 have loop:Ev (fun m=>(X71n (regs O) a m).x2 0) (bif (List.range (sizeN a)).all (fun j=>okc (chr a j) false) then bb true else bb false):=by
  have:=Ev.loopc (X:=fun m j=>(X71n (regs O) a m).x2 j) 4 (sizeN a) (fun j=>bif okc (chr a j) false then none else some (bb false)) (bb true) (fun m j hj=>by
   have hj2:j < 2 ^ 62:=by omega
   simp only [X71n,X71s,b71_2,b71_3,b71_4,b71_5,D71_2,D71_3,D71_4,D71_5,sizeS_nat,ltI_nat,byteO_nat hj,hj,decide_true,cond_true,addI_nat1 hj2]
   simp only [ltI_ge,gtI_leI]
   generalize chr a j=c
   unfold okc
   cases geI c 97<;>cases leI c 122<;>cases eqI c 46<;>cases eqI c 45<;>cases geI c 48<;>cases leI c 57<;>rfl) (fun m=>by
   simp only [X71n,X71s,b71_2,sizeS_nat,ltI_nat,Nat.lt_irrefl,decide_false,cond_false])
  rw [find_all (p:=fun j=>okc (chr a j) false) (fun j=>rfl)] at this
  exact this
 by_cases h0:sizeN a=0
 ·refine W71 a 2 _ ?_
  have e1:ltI (ofN 0) 1=true:=rfl
  simp only [e71_in,sizeS_nat,h0,e1,cond_true,D71_0,D71_1,X71n,X71s,b71_0,b71_1,nameB,decide_true,Bool.not_true,Bool.false_and]
 ·have h1:ltI (ofN (sizeN a)) 1=false:=by unfold ltI ofN;simp;omega
  have h2:gtI (ofN (sizeN a)) 16=!decide (sizeN a≤16):=by unfold gtI ofN;by_cases h:sizeN a≤16<;>simp [h]<;>omega
  have h3:∀ (K:Int→Option S),byteO 0 a K=K (chr a 0):=fun K=>byteO_nat (j:=0) (by omega)
  have all0:(List.range (sizeN a)).all (fun j=>okc (chr a j) (decide (j=0)))=((geI (chr a 0) 97 && leI (chr a 0) 122) && (List.range (sizeN a)).all (fun j=>okc (chr a j) false)):=by
   rw [Bool.eq_iff_iff]
   simp only [List.all_eq_true,List.mem_range,Bool.and_eq_true]
   constructor
   ·intro h
    have h4:=h 0 (by omega)
    simp only [okc,decide_true,Bool.not_true,Bool.false_and,Bool.or_false,Bool.and_eq_true] at h4
    refine ⟨h4,fun j hj=>?_⟩
    have h5:=h j hj
    unfold okc at h5 ⊢
    cases hd:decide (j=0) with
    | false=>rw [hd] at h5;exact h5
    | true=>
     rw [hd] at h5
     simp only [Bool.not_true,Bool.false_and,Bool.or_false] at h5
     rw [h5];rfl
   ·rintro ⟨⟨h4,h4'⟩,h5⟩ j hj
    have h6:=h5 j hj
    by_cases hd:j=0
    ·subst hd
     simp [okc,h4,h4']
    ·simp only [hd,decide_false]
     exact h6
  obtain ⟨n,hl⟩:=loop.get
  refine W71 a (n+2) _ ?_
  simp only [e71_in,sizeS_nat,h1,h2,h3,cond_false,D71_0,D71_1,D71_2,X71n,X71s,b71_0,b71_1,ltI_ge,gtI_leI,hl,nameB,h0,decide_false,Bool.not_false,Bool.true_and,all0]
  cases decide (sizeN a≤16)<;>cases geI (chr a 0) 97<;>cases leI (chr a 0) 122<;>cases (List.range (sizeN a)).all (fun j=>okc (chr a j) false)<;>rfl
theorem c107r (a:Rw Int) (ha:a.n < 2 ^ 62):Ret 107 [S.t (T.rows 1 a.n fun i=>e3 (a.get i))] (ii (firstE a.n a.at)):=by
 have key:=Ev.errsC (X:=fun m j=>(X107n (regs O) a m).x0 (j:Int)) 1 a.n a.at (fun m j hj=>by
  have hj2:j < 2 ^ 62:=by omega
  simp only [X107n,X107s,b107_0,D107_0,ltI_nat,elemO_nat hj,get_nat,hj,decide_true,cond_true,addI_nat1 hj2]) (fun m=>by
  simp only [X107n,X107s,b107_0,D107_0,ltI_nat,Nat.lt_irrefl,decide_false,cond_false])
 obtain ⟨n,h⟩:=key.get
 exact W107 a n _ h
def firstL:List Int→Int
 | []=>0
 | e::l=>bif !eqI e 0 then e else firstL l
theorem firstL_eq (l:List Int):firstE (rwL l).n (rwL l).at=firstL l:=by
 have:∀ (l r:List Int),((List.range' r.length l.length).findSome? fun j=>bif !(eqI ((r++l).getD j 0) 0) then some ((r++l).getD j 0) else none).getD 0=firstL l:=by
  intro l
  induction l with
  | nil=>intro r;rfl
  | cons e l ih=>
   intro r
   have e1:(r++e::l).getD r.length 0=e:=by simp
   simp only [List.length_cons,List.range'_succ,List.findSome?_cons,e1,firstL]
   cases eqI e 0 with
   | false=>rfl
   | true=>
    have:=ih (r++[e])
    simp only [List.length_append,List.length_singleton,List.append_assoc,List.singleton_append] at this
    exact this
 have h:=this l []
 simp only [List.nil_append,List.length_nil] at h
 rw [← List.range_eq_range'] at h
 unfold firstE
 have e2:(rwL l).n=l.length:=rfl
 rw [e2,← h]
 congr 2
 funext j
 rw [rwL_at]
 rfl
theorem c107 (l:List Int) (hl:l.length < 2 ^ 62):Ret 107 [S.t (T.rows 1 l.length fun i=>List.take 1 (List.drop (i.1*1) (l.map ti)))] (ii (firstL l)):=by
 rw [lit1,← firstL_eq]
 exact c107r (rwL l) hl
theorem c152 (a:ByteArray) (ha:sm (sizeN a)):Ret 152 [ss a] (bb !nameB a):=by
 obtain ⟨y,hy,hK⟩:=yC_bool (by kernel_rfl) (c101 a ha)
 exact W152 a 0 _ (by simp only [e152_in,hK,hy])
def smN (a:Rw ByteArray):Prop:=a.n < 2 ^ 62∧∀ j,j < a.n→sm (sizeN (a.at j))
def idx (n:Nat) (p:Nat→Bool):Int:=((List.range n).findSome? fun j=>bif p j then some (j:Int) else none).getD (-1)
theorem idx_ii {n:Nat} {p:Nat→Bool}:((List.range n).findSome? fun j=>bif p j then some (ii (j:Int)) else none).getD (ii (-1))=ii (idx n p):=by
 unfold idx
 generalize List.range n=l
 induction l with
 | nil=>rfl
 | cons j l ih=>
  simp only [List.findSome?_cons]
  cases p j with
  | true=>rfl
  | false=>exact ih
theorem idx_ge {n:Nat} {p:Nat→Bool}:geI (idx n p) 0=(List.range n).any p:=by
 unfold idx
 generalize List.range n=l
 induction l with
 | nil=>rfl
 | cons j l ih=>
  simp only [List.findSome?_cons,List.any_cons]
  cases p j with
  | true=>unfold geI;simp
  | false=>simpa using ih
theorem Ev.idxC {X:Nat→Nat→Option S} (c n:Nat) (p:Nat→Bool) (step:∀ m j,j < n→X (m+c) j=bif p j then some (ii (j:Int)) else X m (j+1)) (stop:∀ m,X (m+c) n=some (ii (-1))):Ev (fun m=>X m 0) (ii (idx n p)):=by
 have:=Ev.loopN (X:=X) n (fun j=>bif p j then some (ii (j:Int)) else none) (ii (-1)) (fun j hj=>by
  cases h:p j with
  | true=>exact ⟨fun e he=>(by
    obtain rfl:=Option.some.inj he
    exact Ev.add c ⟨0,fun m _=>by show X (m+c) j=_;rw [step m j hj,h];rfl⟩),fun hn=>(by cases hn)⟩
  | false=>exact ⟨fun e he=>(by cases he),fun _ v hv=>Ev.add c (hv.of_eq fun m=>by rw [step m j hj,h];rfl)⟩) (Ev.add c ⟨0,fun m _=>stop m⟩)
 rw [idx_ii] at this
 exact this
theorem c186 (a:Rw ByteArray) (ha:smN a):Ret 186 [S.t (T.rows 1 a.n fun i=>[ts (a.get i)]),S.t (T.v (.func (Go.Fn.func 152) #[] #[]))] (ii (idx a.n fun j=>!nameB (a.at j))):=by
 have key:=Ev.idxC (X:=fun m j=>(X186n (regs O) a m).x0 (j:Int)) 1 a.n (fun j=>!nameB (a.at j)) (fun m j hj=>by
  have hj2:j < 2 ^ 62:=by have:=ha.1;omega
  obtain ⟨y,hy,hK⟩:=yC_bool (by kernel_rfl) (c152 (a.at j) (ha.2 j hj))
  simp only [X186n,X186s,b186_0,D186_0,ltI_nat,elemO_nat hj,get_nat,hj,decide_true,cond_true,addI_nat1 hj2,hK,hy]) (fun m=>by
  simp only [X186n,X186s,b186_0,D186_0,ltI_nat,Nat.lt_irrefl,decide_false,cond_false];rfl)
 obtain ⟨n,h⟩:=key.get
 exact W186 a n _ h
theorem c151 (a:Rw ByteArray) (ha:smN a):Ret 151 [S.t (T.rows 1 a.n fun i=>[ts (a.get i)]),S.t (T.v (.func (Go.Fn.func 152) #[] #[]))] (bb ((List.range a.n).any fun j=>!nameB (a.at j))):=by
 obtain ⟨y,hy,hK⟩:=yC_int (by kernel_rfl) (c186 a ha)
 exact W151 a 0 _ (by simp only [e151_in,hK,hy,idx_ge])
theorem c109r (a:Rw ByteArray) (ha:smN a):Ret 109 [S.t (T.rows 1 a.n fun i=>[ts (a.get i)])] (bb ((List.range a.n).all fun j=>nameB (a.at j))):=by
 obtain ⟨y,hy,hK⟩:=yC_bool (by kernel_rfl) (c151 a ha)
 refine W109 a 0 _ ?_
 simp only [e109_in,hK,hy,List.not_any_eq_all_not,Bool.not_not]
theorem c109 (l:List ByteArray) (hl:l.length < 2 ^ 62) (ha:∀ x∈l,sm (sizeN x)):Ret 109 [S.t (T.rows 1 l.length fun i=>List.take 1 (List.drop (i.1*1) (l.map ts)))] (bb (l.all nameB)):=by
 rw [lit1]
 have:=c109r (rwL l) ⟨hl,fun j hj=>by
  have hj:j < l.length:=hj
  rw [rwL_get hj]
  exact ha _ (List.getElem_mem hj)⟩
 have e:((List.range (rwL l).n).all fun j=>nameB ((rwL l).at j))=l.all nameB:=by
  rw [Bool.eq_iff_iff]
  simp only [List.all_eq_true,List.mem_range]
  constructor
  ·intro h x hx
   obtain ⟨j,hj,rfl⟩:=List.getElem_of_mem hx
   have:=h j hj
   rwa [rwL_get hj] at this
  ·intro h j hj
   have hj:j < l.length:=hj
   rw [rwL_get hj]
   exact h _ (List.getElem_mem hj)
 rw [e] at this
 exact this
def noneB (a:ByteArray):Bool:=decide (sizeN a=0) || nameB a
theorem c122 (a:ByteArray) (ha:sm (sizeN a)):Ret 122 [ss a] (bb (noneB a)):=by
 obtain ⟨y,hy,hK⟩:=yC_bool (by kernel_rfl) (c101 a ha)
 refine W122 a 1 _ ?_
 simp only [e122_in,strEq_empty,hK,hy,D122_0,X122n,X122s,b122_0]
 unfold noneB
 cases decide (sizeN a=0)<;>rfl
theorem c130 (a b c:ByteArray) (ha:sm (sizeN a)) (hb:sm (sizeN b)) (hc:sm (sizeN c)):Ret 130 [S.agg [ss a,ss b,ss c]] (bb (nameB a && (nameB b && nameB c))):=by
 obtain ⟨y,hy,hK⟩:=yC_bool (by kernel_rfl) (c71 a ha)
 obtain ⟨z,hz,hL⟩:=yC_bool (by kernel_rfl) (c71 b hb)
 obtain ⟨x,hx,hM⟩:=yC_bool (by kernel_rfl) (c71 c hc)
 refine W130 ⟨a,b,c⟩ 2 _ ?_
 simp only [e130_in,D130_0,D130_1,X130n,X130s,b130_0,b130_1,hK,hL,hM,hy,hz,hx]
 cases nameB a<;>cases nameB b<;>rfl
theorem yC_ib {f:FuncId} {args:List S} {x:Int} {b:Bool} (hs:shF O.P f=some (.tup [.int .i64 0,.bool 1])) (h:Ret f args (S.tup [ii x,bb b])):∃ y:Y,y.i 0=x∧y.b 1=b∧∀ (ρ:Type) (K:Y→Option ρ),yC (regs O) f args K=K y:=by
 obtain ⟨y,h1,h2⟩:=yC_of (y0:=⟨fun _=>x,fun _=>b,fun _=>⟨#[]⟩,fun _=>⟨0,fun i=>i.elim0⟩,fun _=>[]⟩) hs h
 simp only [build,buildL,S.tup.injEq,List.cons.injEq,S.t.injEq,T.v.injEq,Value.int.injEq,Value.bool.injEq,true_and,and_true] at h1
 exact ⟨y,h1.1,h1.2,h2⟩
theorem c183 (a:ByteArray) (ha:sm (sizeN a)):Ret 183 [ss a] (S.tup [ii ((numV a).getD 0),bb (numV a).isSome]):=by
 refine W_ext (F:=F183) rfl ?_
 have:a.size.ble 281474976710656=true:=by
  unfold sm sizeN at ha
  exact Nat.ble_eq_true_of_le (by omega)
 show (bif a.size.ble 281474976710656 then some (S.tup [ii ((numV a).getD 0),bb (numV a).isSome]) else none)=_
 rw [this];rfl
theorem c146 (a:ByteArray) (ha:sm (sizeN a)):Ret 146 [ss a] (bb (valB a)):=by
 obtain ⟨y,h1,h2,hK⟩:=yC_ib (by kernel_rfl) (c183 a ha)
 obtain ⟨z,hz,hL⟩:=yC_bool (by kernel_rfl) (c101 a ha)
 refine W146 a 1 _ ?_
 simp only [e146_in,hK,h1,h2,hL,hz,D146_0,X146n,X146s,b146_0,valB]
 cases (numV a).isSome<;>rfl
theorem c56 (a b:ByteArray):Ret 56 [ss a,ss b] (ii (cmpS a b)):=W_ext (F:=F56) rfl rfl
def Rw.sub {α:Type} (a:Rw α) (j:Nat) (h:j≤a.n):Rw α:=⟨toN (j:Int),fun i=>a.get ⟨0+i.1,by have:i.1 < toN (j:Int):=i.2;unfold toN at this;simp at this;omega⟩⟩
theorem sub_n {α:Type} {a:Rw α} {j:Nat} {h:j≤a.n}:(a.sub j h).n=j:=by show (j:Int).toNat=j;simp
theorem sub_at {α:Type} [Inhabited α] {a:Rw α} {j i:Nat} {h:j≤a.n} (hi:i < j):(a.sub j h).at i=a.at i:=by
 unfold Rw.at
 rw [dif_pos (by rw [sub_n];exact hi),dif_pos (by omega)]
 show a.get ⟨0+i,_⟩=a.get ⟨i,_⟩
 congr 2
 omega
theorem any_sub {α:Type} [Inhabited α] {a:Rw α} {j:Nat} {h:j≤a.n} {p:α→Bool}:((List.range (a.sub j h).n).any fun i=>p ((a.sub j h).at i))=(List.range j).any fun i=>p (a.at i):=by
 rw [sub_n,Bool.eq_iff_iff]
 simp only [List.any_eq_true,List.mem_range]
 constructor
 ·rintro ⟨i,hi,hp⟩;rw [sub_at hi] at hp;exact ⟨i,hi,hp⟩
 ·rintro ⟨i,hi,hp⟩;exact ⟨i,hi,by rw [sub_at hi];exact hp⟩
theorem subO_nat {ρ:Type} {j n:Nat} {K:0+toN (j:Int)≤n→Option ρ} (h:j≤n):subO 0 (toN (j:Int)) n K=K (by unfold toN;simpa using h):=subO_pos _
theorem le_nat {j n:Nat} (h:j≤n):(leI 0 (j:Int) && leI (j:Int) (ofN n))=true:=by
 unfold leI ofN
 simp only [Bool.and_eq_true,decide_eq_true_eq]
 exact ⟨by omega,by omega⟩
theorem gtI_ofN {n k:Nat}:gtI (ofN n) (k:Int)=decide (k < n):=by unfold gtI ofN;simp
theorem c154 (a b:D88):Ret 154 [ag (e88 a),S.pt (e88 b)] (bb (strEq a.fKey b.fKey)):=W154 a b 0 _ rfl
theorem c148 (a b:D88):Ret 148 [ag (e88 a),S.pt (e88 b)] (bb (strEq a.fKey b.fKey)):=W148 a b 0 _ rfl
theorem c184b (a:Rw D88) (b:D88) (ha:a.n < 2 ^ 62):Ret 184 [S.t (T.rows 2 a.n fun i=>e88 (a.get i)),S.fn (Go.Fn.func 154) [] [S.pt (e88 b)]] (ii (idx a.n fun j=>strEq (a.at j).fKey b.fKey)):=by
 have key:=Ev.idxC (X:=fun m j=>(X184bn (regs O) a b m).x0 (j:Int)) 1 a.n (fun j=>strEq (a.at j).fKey b.fKey) (fun m j hj=>by
  have hj2:j < 2 ^ 62:=by omega
  obtain ⟨y,hy,hK⟩:=yC_bool (by kernel_rfl) (c154 (a.at j) b)
  simp only [X184bn,X184bs,b184b_0,D184b_0,ltI_nat,elemO_nat hj,get_nat,hj,decide_true,cond_true,addI_nat1 hj2,hK,hy]) (fun m=>by
  simp only [X184bn,X184bs,b184b_0,D184b_0,ltI_nat,Nat.lt_irrefl,decide_false,cond_false];rfl)
 obtain ⟨n,h⟩:=key.get
 exact W184b a b n _ h
theorem c147b (a:Rw D88) (b:D88) (ha:a.n < 2 ^ 62):Ret 147 [S.t (T.rows 2 a.n fun i=>e88 (a.get i)),S.fn (Go.Fn.func 154) [] [S.pt (e88 b)]] (bb ((List.range a.n).any fun j=>strEq (a.at j).fKey b.fKey)):=by
 obtain ⟨y,hy,hK⟩:=yC_int (by kernel_rfl) (c184b a b ha)
 exact W147b a b 0 _ (by simp only [e147b_in,hK,hy,idx_ge])
theorem c184 (a:Rw D88) (b:D88) (ha:a.n < 2 ^ 62):Ret 184 [S.t (T.rows 2 a.n fun i=>e88 (a.get i)),S.fn (Go.Fn.func 148) [] [S.pt (e88 b)]] (ii (idx a.n fun j=>strEq (a.at j).fKey b.fKey)):=by
 have key:=Ev.idxC (X:=fun m j=>(X184n (regs O) a b m).x0 (j:Int)) 1 a.n (fun j=>strEq (a.at j).fKey b.fKey) (fun m j hj=>by
  have hj2:j < 2 ^ 62:=by omega
  obtain ⟨y,hy,hK⟩:=yC_bool (by kernel_rfl) (c148 (a.at j) b)
  simp only [X184n,X184s,b184_0,D184_0,ltI_nat,elemO_nat hj,get_nat,hj,decide_true,cond_true,addI_nat1 hj2,hK,hy]) (fun m=>by
  simp only [X184n,X184s,b184_0,D184_0,ltI_nat,Nat.lt_irrefl,decide_false,cond_false];rfl)
 obtain ⟨n,h⟩:=key.get
 exact W184 a b n _ h
theorem c147 (a:Rw D88) (b:D88) (ha:a.n < 2 ^ 62):Ret 147 [S.t (T.rows 2 a.n fun i=>e88 (a.get i)),S.fn (Go.Fn.func 148) [] [S.pt (e88 b)]] (bb ((List.range a.n).any fun j=>strEq (a.at j).fKey b.fKey)):=by
 obtain ⟨y,hy,hK⟩:=yC_int (by kernel_rfl) (c184 a b ha)
 exact W147 a b 0 _ (by simp only [e147_in,hK,hy,idx_ge])
def sm88 (a:D88):Prop:=sm (sizeN a.fKey)∧sm (sizeN a.fVal)
def smR {α:Type} [Inhabited α] (p:α→Prop) (a:Rw α):Prop:=sm a.n∧∀ j,j < a.n→p (a.at j)
def taintV (a:Rw D88) (j:Nat):Int:=bif !nameB (a.at j).fKey then 7 else bif !valB (a.at j).fVal then 20 else bif (List.range j).any (fun i=>strEq (a.at i).fKey (a.at j).fKey) then 6 else 0
def taintsV (a:Rw D88):Int:=bif decide (4 < a.n) then 3 else firstE a.n (taintV a)
theorem c111 (a:Rw D88) (ha:smR sm88 a):Ret 111 [S.t (T.rows 2 a.n fun i=>e88 (a.get i))] (ii (taintsV a)):=by
 have hn:=sm_lt ha.1
 have key:=Ev.errsC (X:=fun m j=>(X111n (regs O) a m).x0 (j:Int)) 1 a.n (taintV a) (fun m j hj=>by
  have hj2:j < 2 ^ 62:=by omega
  obtain ⟨y,hy,hK⟩:=yC_bool (by kernel_rfl) (c101 (a.at j).fKey (ha.2 j hj).1)
  obtain ⟨z,hz,hL⟩:=yC_bool (by kernel_rfl) (c146 (a.at j).fVal (ha.2 j hj).2)
  obtain ⟨x,hx,hM⟩:=yC_bool (by kernel_rfl) (c147b (a.sub j (by omega)) (a.at j) (by rw [sub_n];omega))
  rw [any_sub (p:=fun (t:D88)=>strEq t.fKey (a.at j).fKey)] at hx
  simp only [Rw.sub] at hM
  simp only [X111n,X111s,b111_0,D111_0,ltI_nat,elemO_nat hj,get_nat,hj,decide_true,cond_true,addI_nat1 hj2,hK,hy,hL,hz,le_nat (Nat.le_of_lt hj),subO_nat (Nat.le_of_lt hj),hM,hx]
  unfold taintV
  cases nameB (a.at j).fKey<;>cases valB (a.at j).fVal<;>cases (List.range j).any (fun i=>strEq (a.at i).fKey (a.at j).fKey)<;>rfl) (fun m=>by
  simp only [X111n,X111s,b111_0,D111_0,ltI_nat,Nat.lt_irrefl,decide_false,cond_false])
 obtain ⟨n,h⟩:=key.get
 refine W111 a n _ ?_
 have e:gtI (ofN a.n) 4=decide (4 < a.n):=gtI_ofN (k:=4)
 unfold taintsV
 simp only [e111_in,e]
 cases decide (4 < a.n) with
 | true=>rfl
 | false=>exact h
end
end Go.Proofs.YtonkoellfaopiaaGreatDoor.H
namespace Go.Proofs.YtonkoellfaopiaaGreatDoor.H
open Go Go.Lib
def isDig (c:UInt8):Prop:=48≤c.toNat∧c.toNat≤57
instance (c:UInt8):Decidable (isDig c):=by unfold isDig;infer_instance
def digF (acc:Nat):List UInt8→Nat
 | []=>acc
 | c::r=>digF (if isDig c then acc*10+(c.toNat - 48) else acc) r
theorem digF_append (xs ys:List UInt8):∀ acc,digF acc (xs++ys)=digF (digF acc xs) ys:=by
 induction xs with
 | nil=>intro acc;rfl
 | cons c r ih=>intro acc;exact ih _
theorem dig_toNat {d:Nat} (h:d < 10):(UInt8.ofNat (48+d)).toNat=48+d:=by
 rw [UInt8.toNat_ofNat']
 omega
theorem decDigits_small {u:Nat} (h:u < 10):decDigits u=[UInt8.ofNat (48+u)]:=by rw [decDigits,dif_pos h]
theorem decDigits_big {u:Nat} (h:¬ u < 10):decDigits u=decDigits (u / 10)++[UInt8.ofNat (48+u % 10)]:=by rw [decDigits,dif_neg h]
theorem decDigits_dig (u:Nat):∀ c∈decDigits u,isDig c:=by
 induction u using Nat.strongRecOn with
 | _ u ih=>
  intro c hc
  by_cases h:u < 10
  ·rw [decDigits_small h,List.mem_singleton] at hc
   subst hc
   unfold isDig
   rw [dig_toNat h]
   omega
  ·rw [decDigits_big h,List.mem_append,List.mem_singleton] at hc
   rcases hc with hc | rfl
   ·exact ih (u / 10) (by omega) c hc
   ·unfold isDig
    rw [dig_toNat (Nat.mod_lt _ (by decide))]
    have:=Nat.mod_lt u (show 0 < 10 by decide)
    omega
theorem decDigits_ne (u:Nat):decDigits u≠[]:=by
 by_cases h:u < 10
 ·rw [decDigits_small h];simp
 ·rw [decDigits_big h];simp
theorem digF_dec (u:Nat):digF 0 (decDigits u)=u:=by
 induction u using Nat.strongRecOn with
 | _ u ih=>
  by_cases h:u < 10
  ·rw [decDigits_small h]
   simp only [digF]
   have hd:isDig (UInt8.ofNat (48+u)):=by unfold isDig;rw [dig_toNat h];omega
   rw [if_pos hd,dig_toNat h]
   omega
  ·rw [decDigits_big h,digF_append,ih (u / 10) (by omega)]
   have hm:=Nat.mod_lt u (show 0 < 10 by decide)
   have hd:isDig (UInt8.ofNat (48+u % 10)):=by unfold isDig;rw [dig_toNat hm];omega
   simp only [digF]
   rw [if_pos hd,dig_toNat hm]
   omega
theorem decDigits_len (k:Nat):∀ u,u < 10 ^ (k+1)→(decDigits u).length≤k+1:=by
 induction k with
 | zero=>
  intro u h
  rw [decDigits_small (by simpa using h)]
  simp
 | succ k ih=>
  intro u h
  by_cases h10:u < 10
  ·rw [decDigits_small h10]
   simp
  ·rw [decDigits_big h10,List.length_append]
   have:=ih (u / 10) (by rw [Nat.pow_succ] at h;omega)
   simp only [List.length_singleton]
   omega
theorem parseU_append (M:Nat):∀ (xs:List UInt8) (acc v:Nat) (ys:List UInt8),parseUintM M acc xs=.ok v→parseUintM M acc (xs++ys)=parseUintM M v ys
 | [],acc,v,ys,h=>by
  unfold parseUintM at h
  cases h
  rfl
 | c::r,acc,v,ys,h=>by
  rw [List.cons_append]
  unfold parseUintM at h
  conv=>lhs;unfold parseUintM
  split at h
  ·rename_i h1
   rw [if_pos h1]
   split at h
   ·cases h
   ·rename_i h2
    rw [if_neg h2]
    split at h
    ·cases h
    ·rename_i h3
     rw [if_neg h3]
     exact parseU_append M r _ v ys h
  ·cases h
theorem parseU_dec (u:Nat) (hu:u < 1000000000000000000):parseUintM (2 ^ 64 - 1) 0 (decDigits u)=.ok u:=by
 induction u using Nat.strongRecOn with
 | _ u ih=>
  have step:∀ v d:Nat,d < 10→v < 100000000000000000→parseUintM (2 ^ 64 - 1) v [UInt8.ofNat (48+d)]=.ok (v*10+d):=by
   intro v d hd hv
   unfold parseUintM
   rw [if_pos (by rw [dig_toNat hd];omega),if_neg (by omega),dig_toNat hd,if_neg (by omega)]
   unfold parseUintM
   rw [show 48+d - 48=d by omega]
  by_cases h:u < 10
  ·rw [decDigits_small h]
   have:=step 0 u h (by omega)
   simpa using this
  ·rw [decDigits_big h,parseU_append _ _ _ _ _ (ih (u / 10) (by omega) (by omega)),step (u / 10) (u % 10) (Nat.mod_lt _ (by decide)) (by omega)]
   congr 1
   omega
theorem head_dig {u:Nat} {c:UInt8} {r:List UInt8} (h:decDigits u=c::r):isDig c:=decDigits_dig u c (by rw [h];exact List.mem_cons_self)
theorem parseI_itoa (n:Int) (h0 : -100000000000000000 < n) (h1:n < 100000000000000000):parseIntB 64 (itoa n)=.ok n:=by
 unfold itoa
 by_cases hn:n < 0
 ·rw [if_pos hn]
  have hp:parseUintB 64 (decDigits n.natAbs)=.ok n.natAbs:=by
   unfold parseUintB
   rw [if_neg (decDigits_ne _)]
   exact parseU_dec _ (by omega)
  unfold parseIntB
  simp only [show (45:UInt8).toNat=45 from rfl,or_true,if_true]
  rw [hp]
  simp only [not_true_eq_false,false_and,if_false,true_and]
  rw [if_neg (by omega)]
  congr 1
  omega
 ·rw [if_neg hn]
  have hp:parseUintB 64 (decDigits n.toNat)=.ok n.toNat:=by
   unfold parseUintB
   rw [if_neg (decDigits_ne _)]
   exact parseU_dec _ (by omega)
  cases hd:decDigits n.toNat with
  | nil=>exact absurd hd (decDigits_ne _)
  | cons c r=>
   have hc:=head_dig hd
   unfold isDig at hc
   rw [hd] at hp
   unfold parseIntB
   simp only [show ¬ (c.toNat=43∨c.toNat=45) by omega,if_false]
   rw [hp]
   simp only [show ¬ c.toNat=45 by omega,not_false_eq_true,true_and,false_and,if_false]
   rw [if_neg (by omega)]
   congr 1
   omega
theorem itoa_len {n:Int} (h0 : -2147483648≤n) (h1:n≤2147483648):(itoa n).length≤11:=by
 unfold itoa
 split
 ·have:=decDigits_len 9 n.natAbs (by omega)
  simp only [List.length_cons]
  omega
 ·have:=decDigits_len 9 n.toNat (by omega)
  omega
def readV (l:List UInt8):Int:=if l.head?=some 45 then -(digF 0 l:Int) else digF 0 l
theorem readV_itoa (n:Int):readV (itoa n)=n:=by
 unfold itoa
 by_cases hn:n < 0
 ·rw [if_pos hn]
  unfold readV
  rw [List.head?_cons,if_pos rfl]
  have:digF 0 (45::decDigits n.natAbs)=n.natAbs:=by
   simp only [digF]
   rw [if_neg (by unfold isDig;decide),digF_dec]
  rw [this]
  omega
 ·rw [if_neg hn]
  unfold readV
  cases hd:decDigits n.toNat with
  | nil=>exact absurd hd (decDigits_ne _)
  | cons c r=>
   have hc:=head_dig hd
   have hne:¬ (some c=some (45:UInt8)):=by
    intro h
    have:=Option.some.inj h
    subst this
    unfold isDig at hc
    exact absurd hc.1 (by decide)
   rw [List.head?_cons,if_neg hne,← hd,digF_dec]
   omega
theorem i64_in {z:Int} (h : -9223372036854775808≤z∧z≤9223372036854775807):IntKind.i64.wrap z=z:=by
 rw [IntKind.wrap_i64]
 omega
theorem u8_in {z:Int} (h:0≤z∧z≤255):IntKind.u8.wrap z=z:=by
 simp only [IntKind.wrap,IntKind.bits,IntKind.signed,Bool.false_and,Bool.false_eq_true,if_false]
 omega
theorem Ev.to {α:Type} {g:Nat→Option α} {v v':α} (h:Ev g v) (e:v=v'):Ev g v':=e ▸ h
def signL (n:Int):List UInt8:=if n < 0 then [45] else []
theorem itoa_sign (n:Int):itoa n=signL n++decDigits n.natAbs:=by
 unfold itoa signL
 by_cases h:n < 0
 ·rw [if_pos h,if_pos h];rfl
 ·rw [if_neg h,if_neg h,List.nil_append]
  congr 1
  omega
theorem bytes_one {z:Int} {d:Nat} (hd:d < 10) (hz:z=48+(d:Int)):bytesS [wrapI .u8 z]=⟨#[UInt8.ofNat (48+d)]⟩:=by
 unfold bytesS ofBytes wrapI
 rw [u8_in (by omega)]
 have:z.toNat=48+d:=by omega
 simp [this]
theorem bytes_eq {a b:ByteArray} (h:a.data.toList=b.data.toList):a=b:=by
 cases a;cases b
 simpa using h
theorem mk_eq {a:ByteArray} {l:List UInt8} (h:a.data.toList=l):a=⟨l.toArray⟩:=bytes_eq (by rw [h])
theorem strEq_data {a b:ByteArray}:strEq a b=decide (a.data.toList=b.data.toList):=by
 rw [Bool.eq_iff_iff,strEq_iff,decide_eq_true_eq]
 exact ⟨fun h=>by rw [h],bytes_eq⟩
theorem dec_loop (n:Int):∀ (u:Nat) (x:Int) (s:ByteArray),x.natAbs=u→u < 1000000000000000000→s.size+(decDigits u).length≤1000→
  Ev (fun k=>(X193n (regs O) n k).x0 x s) (ss ⟨(signL n++decDigits u++s.data.toList).toArray⟩):=by
 intro u
 induction u using Nat.strongRecOn with
 | _ u ih=>
  intro x s hx hu hs
  have hm:=Nat.mod_lt u (show 0 < 10 by decide)
  have h1:1≤(decDigits u).length:=by
   have:=decDigits_ne u
   cases h:decDigits u with
   | nil=>exact absurd h this
   | cons c r=>simp
  have hsz:(⟨#[UInt8.ofNat (48+u % 10)]⟩:ByteArray).size=1:=rfl
  have hap:((⟨#[UInt8.ofNat (48+u % 10)]⟩:ByteArray)++s).size=1+s.size:=by rw [ByteArray.size_append,hsz]
  have key:∀ (z q:Int),z=48+((u % 10:Nat):Int)→q.natAbs=u / 10→
    Ev (fun k=>bif fitS (bytesS [wrapI .u8 z]) s then (bif eqI q 0 then (bif ltI n 0 then (bif fitS (bs [45]) (catS (bytesS [wrapI .u8 z]) s) then some (ss (catS (bs [45]) (catS (bytesS [wrapI .u8 z]) s))) else none) else some (ss (catS (bytesS [wrapI .u8 z]) s))) else D193_0 (X193n (regs O) n k) q (catS (bytesS [wrapI .u8 z]) s)) else none) (ss ⟨(signL n++decDigits u++s.data.toList).toArray⟩):=by
   intro z q hz hq
   rw [bytes_one hm hz]
   have f1:fitS (⟨#[UInt8.ofNat (48+u % 10)]⟩:ByteArray) s=true:=by unfold fitS strMax;rw [hsz];exact decide_eq_true (by omega)
   have f2:fitS (bs [45]) ((⟨#[UInt8.ofNat (48+u % 10)]⟩:ByteArray)++s)=true:=by
    unfold fitS strMax;rw [hap]
    have:(bs [45]).size=1:=rfl
    rw [this]
    exact decide_eq_true (by omega)
   simp only [f1,cond_true,catS,f2]
   by_cases h10:u < 10
   ·have hq0:q=0:=by omega
    have e1:decDigits u=[UInt8.ofNat (48+u % 10)]:=by rw [decDigits_small h10,Nat.mod_eq_of_lt h10]
    have e0:eqI q 0=true:=by rw [hq0];rfl
    simp only [e0,cond_true]
    by_cases hn:n < 0
    ·have e2:ltI n 0=true:=decide_eq_true hn
     simp only [e2,cond_true]
     refine (Ev.const _).to (congrArg ss (mk_eq ?_))
     rw [e1]
     unfold signL
     rw [if_pos hn,ByteArray.data_append,ByteArray.data_append,Array.toList_append,Array.toList_append]
     simp [bs]
    ·have e2:ltI n 0=false:=decide_eq_false hn
     simp only [e2,cond_false]
     refine (Ev.const _).to (congrArg ss (mk_eq ?_))
     rw [e1]
     unfold signL
     rw [if_neg hn,ByteArray.data_append,Array.toList_append]
     simp
   ·have e0:eqI q 0=false:=decide_eq_false (by omega)
    simp only [e0,cond_false,D193_0]
    have e1:=decDigits_big h10
    have el:=congrArg List.length e1
    simp only [List.length_append,List.length_singleton] at el
    refine (ih (u / 10) (by omega) q _ hq (by omega) (by rw [hap];omega)).to ?_
    rw [e1,ByteArray.data_append,Array.toList_append]
    simp
  have htm:remI x 10=if x < 0 then -((u % 10:Nat):Int) else ((u % 10:Nat):Int):=by
   unfold remI
   split
   ·have hxu:x = -(u:Int):=by omega
    rw [hxu,Int.neg_tmod,Int.tmod_eq_emod_of_nonneg (by omega)]
    omega
   ·have hxu:x=(u:Int):=by omega
    rw [hxu,Int.tmod_eq_emod_of_nonneg (by omega)]
    omega
  have htd:quoI .i64 x 10=if x < 0 then -((u / 10:Nat):Int) else ((u / 10:Nat):Int):=by
   unfold quoI
   split
   ·have hxu:x = -(u:Int):=by omega
    rw [hxu,Int.neg_tdiv,Int.tdiv_eq_ediv_of_nonneg (by omega),i64_in (by omega)]
    omega
   ·have hxu:x=(u:Int):=by omega
    rw [hxu,Int.tdiv_eq_ediv_of_nonneg (by omega),i64_in (by omega)]
    omega
  have hqa:(quoI .i64 x 10).natAbs=u / 10:=by rw [htd];split<;>omega
  refine Ev.succ ?_
  simp only [X193n,X193s,b193_0]
  by_cases hneg:ltI (remI x 10) 0=true
  ·have hlt:remI x 10 < 0:=of_decide_eq_true hneg
   simp only [hneg,cond_true]
   refine key _ _ ?_ hqa
   have hx0:x < 0:=by
    rw [htm] at hlt
    split at hlt
    ·assumption
    ·omega
   rw [if_pos hx0] at htm
   unfold addI subI
   rw [htm,i64_in (z:=0 - -((u % 10:Nat):Int)) (by omega),i64_in (by omega)]
   omega
  ·rw [Bool.not_eq_true] at hneg
   have hlt:¬ remI x 10 < 0:=of_decide_eq_false hneg
   simp only [hneg,cond_false]
   refine key _ _ ?_ hqa
   have:remI x 10=((u % 10:Nat):Int):=by
    rw [htm] at hlt ⊢
    split at hlt<;>split<;>omega
   unfold addI
   rw [this,i64_in (by omega)]
theorem c193 (n:Int) (h:n.natAbs < 1000000000000000000):Ret 193 [ii n] (ss (decS n)):=by
 have:=dec_loop n n.natAbs n (bs []) rfl h (by
  have:=decDigits_len 17 n.natAbs (by omega)
  have e:(bs []).size=0:=rfl
  rw [e];omega)
 obtain ⟨k,hk⟩:=this.get
 refine W193 n k _ ?_
 unfold e193_in D193_0
 rw [hk]
 unfold decS
 rw [itoa_sign]
 congr 2
 simp [bs]
theorem yC_str {f:FuncId} {args:List S} {x:ByteArray} (hs:shF O.P f=some (.str 0)) (h:Ret f args (ss x)):∃ y:Y,y.s 0=x∧∀ (ρ:Type) (K:Y→Option ρ),yC (regs O) f args K=K y:=by
 obtain ⟨y,h1,h2⟩:=yC_of (y0:=⟨fun _=>0,fun _=>false,fun _=>x,fun _=>⟨0,fun i=>i.elim0⟩,fun _=>[]⟩) hs h
 refine ⟨y,?_,h2⟩
 simpa [build] using h1
def endV (s:ByteArray) (v:Int):Int × Bool:=if itoa v=s.data.toList ∧ -2147483648≤v∧v≤2147483648 then (v,true) else (0,false)
abbrev endS (p:Int × Bool):S:=.tup [ii p.1,bb p.2]
theorem end_eq (s:ByteArray) (v:Int):(bif !strEq (decS v) s then some (S.tup [ii 0,bb false]) else bif ltI v (Int.negSucc 2147483647) then some (S.tup [ii 0,bb false]) else bif gtI v 2147483648 then some (S.tup [ii 0,bb false]) else some (S.tup [ii v,bb true]))=some (endS (endV s v)):=by
 unfold endV
 rw [strEq_data]
 have e:(decS v).data.toList=itoa v:=rfl
 rw [e]
 by_cases h1:itoa v=s.data.toList
 ·simp only [h1,decide_true,Bool.not_true,cond_false,true_and]
  by_cases h2:v < -2147483648
  ·have:ltI v (Int.negSucc 2147483647)=true:=decide_eq_true h2
   rw [this,if_neg (by omega)];rfl
  ·have:ltI v (Int.negSucc 2147483647)=false:=decide_eq_false h2
   rw [this,cond_false]
   by_cases h3:v > 2147483648
   ·have:gtI v 2147483648=true:=decide_eq_true h3
    rw [this,if_neg (by omega)];rfl
   ·have:gtI v 2147483648=false:=decide_eq_false h3
    rw [this,if_pos (by omega)];rfl
 ·simp only [h1,decide_false,Bool.not_false,cond_true,false_and,if_false]
theorem chr_get (s:ByteArray) (i:Nat) (h:i < s.data.toList.length):chr s i=((s.data.toList[i]'h).toNat:Int):=by
 unfold chr
 have hs:i < sizeN s:=h
 rw [dif_pos hs]
 rfl
theorem num_loop (s:ByteArray) (hs:s.size≤11):∀ m i a:Nat,i+m=s.size→a < 10 ^ i→Ev (fun k=>(X163n (regs O) s k).x0 (i:Int) (a:Int)) (endS (endV s (if s.data.toList.head?=some 45 then -(digF a (s.data.toList.drop i):Int) else digF a (s.data.toList.drop i))))
 | 0,i,a,h,ha=>by
  have hp:10 ^ i≤10 ^ 11:=Nat.pow_le_pow_right (by decide) (by omega)
  have hlen:s.data.toList.length=s.size:=rfl
  have hi:i=sizeN s:=by unfold sizeN;omega
  rw [List.drop_eq_nil_of_le (by omega)]
  obtain ⟨y,hy,hK⟩:=yC_str (by kernel_rfl) (c193 (a:Int) (by omega))
  have e1:subI .i64 0 (a:Int) = -(a:Int):=by unfold subI;rw [i64_in (by omega)];omega
  obtain ⟨z,hz,hL⟩:=yC_str (by kernel_rfl) (c193 (-(a:Int)) (by omega))
  refine Ev.add 2 ⟨0,fun k _=>?_⟩
  show (X163n (regs O) s (k+2)).x0 (i:Int) (a:Int)=_
  rw [hi]
  simp only [X163n,X163s,b163_0,b163_1,b163_2,D163_0,D163_1,D163_2,sizeS_nat,ltI_nat,Nat.lt_irrefl,decide_false,cond_false,hK,hy,e1,hL,hz,digF]
  have key:∀ v:Int,(bif !strEq (decS v) s then (bif true then some (S.tup [ii 0,bb false]) else bif gtI v 2147483648 then some (S.tup [ii 0,bb false]) else some (S.tup [ii v,bb true])) else bif ltI v (Int.negSucc 2147483647) then some (S.tup [ii 0,bb false]) else bif gtI v 2147483648 then some (S.tup [ii 0,bb false]) else some (S.tup [ii v,bb true]))=some (endS (endV s v)):=fun v=>by
   rw [← end_eq];rfl
  by_cases h0:0 < s.size
  ·have hg:gtI (ofN (sizeN s)) 0=true:=decide_eq_true (by unfold ofN sizeN;omega)
   have hb:∀ (K:Int→Option S),byteO 0 s K=K (chr s 0):=fun K=>byteO_nat (j:=0) h0
   have hc:=chr_get s 0 (by omega)
   have hh:s.data.toList.head?=some (s.data.toList[0]'(by omega)):=by rw [List.head?_eq_getElem?,List.getElem?_eq_getElem]
   simp only [hg,cond_true,hb,hc,hh]
   by_cases h45:(s.data.toList[0]'(by omega))=45
   ·have:eqI ((s.data.toList[0]'(by omega)).toNat:Int) 45=true:=by rw [h45];rfl
    rw [this,if_pos (by rw [h45])]
    exact key _
   ·have:eqI ((s.data.toList[0]'(by omega)).toNat:Int) 45=false:=eqI_false.2 (fun h=>h45 (UInt8.toNat_inj.1 (show (s.data.toList[0]'(by omega)).toNat=45 by omega)))
    rw [this,if_neg (fun h=>h45 (Option.some.inj h))]
    exact key _
  ·have hg:gtI (ofN (sizeN s)) 0=false:=decide_eq_false (by unfold ofN sizeN;omega)
   have hnil:s.data.toList=[]:=List.eq_nil_of_length_eq_zero (by omega)
   rw [hg,cond_false]
   rw [hnil]
   exact key _
 | m+1,i,a,h,ha=>by
  have hlen:s.data.toList.length=s.size:=rfl
  have hi:i < s.data.toList.length:=by omega
  have hi':i < sizeN s:=hi
  have hp:10 ^ i≤10 ^ 11:=Nat.pow_le_pow_right (by decide) (by omega)
  have hb:=chr_get s i hi
  rw [List.drop_eq_getElem_cons hi]
  refine Ev.succ ?_
  simp only [X163n,X163s,b163_0,D163_0,sizeS_nat,ltI_nat,hi',decide_true,cond_true,byteO_nat hi',hb,addI_nat1 (show i < 2 ^ 62 by omega),digF]
  have hc:=(s.data.toList[i]'hi).toNat_lt
  by_cases h1:((s.data.toList[i]'hi).toNat:Int)≥48
  ·have g1:geI ((s.data.toList[i]'hi).toNat:Int) 48=true:=decide_eq_true h1
   by_cases h2:((s.data.toList[i]'hi).toNat:Int)≤57
   ·have g2:leI ((s.data.toList[i]'hi).toNat:Int) 57=true:=decide_eq_true h2
    have hd:isDig (s.data.toList[i]'hi):=⟨by omega,by omega⟩
    simp only [g1,g2,cond_true,if_pos hd]
    have e1:addI .i64 (mulI .i64 (a:Int) 10) (wrapI .i64 (subI .u8 ((s.data.toList[i]'hi).toNat:Int) 48))=((a*10+((s.data.toList[i]'hi).toNat - 48):Nat):Int):=by
     unfold addI mulI wrapI subI
     rw [u8_in (by omega),i64_in (z:=(a:Int)*10) (by omega),i64_in (z:=((s.data.toList[i]'hi).toNat:Int) - 48) (by omega),i64_in (by omega)]
     omega
    simp only [e1]
    exact num_loop s hs m (i+1) _ (by omega) (by rw [Nat.pow_succ];omega)
   ·have g2:leI ((s.data.toList[i]'hi).toNat:Int) 57=false:=decide_eq_false h2
    have hd:¬ isDig (s.data.toList[i]'hi):=fun h=>h2 (by have:=h.2;omega)
    simp only [g1,g2,cond_true,cond_false,if_neg hd]
    exact num_loop s hs m (i+1) a (by omega) (by rw [Nat.pow_succ];omega)
  ·have g1:geI ((s.data.toList[i]'hi).toNat:Int) 48=false:=decide_eq_false h1
   have hd:¬ isDig (s.data.toList[i]'hi):=fun h=>h1 (by have:=h.1;omega)
   simp only [g1,cond_false,if_neg hd]
   exact num_loop s hs m (i+1) a (by omega) (by rw [Nat.pow_succ];omega)
theorem numV_end (s:ByteArray) (hs:s.size≤11):(endV s (readV s.data.toList)).2=(numV s).isSome:=by
 unfold endV
 by_cases h:itoa (readV s.data.toList)=s.data.toList ∧ -2147483648≤readV s.data.toList∧readV s.data.toList≤2147483648
 ·rw [if_pos h]
  obtain ⟨h1,h2,h3⟩:=h
  have hp:=parseI_itoa (readV s.data.toList) (by omega) (by omega)
  rw [h1] at hp
  unfold numV
  rw [hp]
  simp only [if_pos (show -2147483648≤readV s.data.toList∧readV s.data.toList≤2147483648∧itoa (readV s.data.toList)=s.data.toList from ⟨h2,h3,h1⟩),Option.isSome_some]
 ·rw [if_neg h]
  cases hv:numV s with
  | none=>rfl
  | some v=>
   exfalso
   unfold numV at hv
   split at hv
   ·split at hv
    ·rename_i n _ hn
     obtain ⟨h2,h3,h1⟩:=hn
     have:readV s.data.toList=n:=by rw [← h1,readV_itoa]
     exact h ⟨by rw [this];exact h1,by omega,by omega⟩
    ·cases hv
   ·cases hv
theorem numV_long (s:ByteArray) (hs:¬ s.size≤11):numV s=none:=by
 unfold numV
 split
 ·split
  ·rename_i n _ hn
   obtain ⟨h2,h3,h1⟩:=hn
   have:=itoa_len h2 h3
   rw [h1] at this
   exact absurd this hs
  ·rfl
 ·rfl
theorem c163 (s:ByteArray):∃ v:Int,Ret 163 [ss s] (.tup [ii v,bb (numV s).isSome]):=by
 by_cases h:s.size≤11
 ·have hg:gtI (ofN (sizeN s)) 11=false:=decide_eq_false (by unfold ofN sizeN;omega)
  refine ⟨(endV s (readV s.data.toList)).1,?_⟩
  obtain ⟨k,hk⟩:=(num_loop s h s.size 0 0 (by omega) (by decide)).get
  refine W163 s k _ ?_
  unfold e163_in
  rw [sizeS_nat,hg,cond_false,← numV_end s h]
  exact hk
 ·have hg:gtI (ofN (sizeN s)) 11=true:=decide_eq_true (by unfold ofN sizeN;omega)
  refine ⟨0,W163 s 0 _ ?_⟩
  unfold e163_in
  rw [sizeS_nat,hg,cond_true,numV_long s h]
  rfl
theorem c129 (a:ByteArray) (ha:sm (sizeN a)):Ret 129 [ss a] (bb (valB a)):=by
 obtain ⟨y,hy,hK⟩:=yC_bool (by kernel_rfl) (c71 a ha)
 obtain ⟨v,hv⟩:=c163 a
 obtain ⟨z,hz,hz',hL⟩:=yC_ib (by kernel_rfl) hv
 refine W129 a 1 _ ?_
 simp only [e129_in,D129_0,X129n,X129s,b129_0,hK,hy,hL,hz']
 unfold valB
 cases nameB a<;>cases (numV a).isSome<;>rfl
end Go.Proofs.YtonkoellfaopiaaGreatDoor.H
namespace Go.Proofs.YtonkoellfaopiaaGreatDoor.H
open Go
noncomputable section
theorem Ev.anyT {ρ:Type} {X:Nat→Nat→Option ρ} (c n:Nat) (p:Nat→Bool) (e:ρ) (step:∀ m i,i < n→X (m+c) i=bif p i then some e else X m (i+1)) {i:Nat} (hi:i < n) (hp:p i=true):∀ k j,j+k=i→Ev (fun m=>X m j) e
 | 0,j,hj=>by
  obtain rfl:j=i:=by omega
  exact Ev.add c ⟨0,fun m _=>by show X (m+c) j=_;rw [step m j hi,hp];rfl⟩
 | k+1,j,hj=>by
  cases h:p j with
  | true=>exact Ev.add c ⟨0,fun m _=>by show X (m+c) j=_;rw [step m j (by omega),h];rfl⟩
  | false=>exact Ev.add c ((Ev.anyT c n p e step hi hp k (j+1) (by omega)).of_eq fun m=>by rw [step m j (by omega),h];rfl)
theorem Ev.anyF {ρ:Type} {X:Nat→Nat→Option ρ} (c n:Nat) (p:Nat→Bool) (e v:ρ) (step:∀ m i,i < n→X (m+c) i=bif p i then some e else X m (i+1)) (hp:∀ i,i < n→p i=false) (stop:Ev (fun m=>X m n) v):∀ k j,j+k=n→Ev (fun m=>X m j) v
 | 0,j,hj=>by
  obtain rfl:j=n:=by omega
  exact stop
 | k+1,j,hj=>Ev.add c ((Ev.anyF c n p e v step hp stop k (j+1) (by omega)).of_eq fun m=>by rw [step m j (by omega),hp j (by omega)];rfl)
theorem Ev.anyC {ρ:Type} {X:Nat→Nat→Option ρ} (c n:Nat) (p:Nat→Bool) (e:ρ) (step:∀ m i,i < n→X (m+c) i=bif p i then some e else X m (i+1)):((List.range n).any p=true→Ev (fun m=>X m 0) e)∧((List.range n).any p=false→∀ v,Ev (fun m=>X m n) v→Ev (fun m=>X m 0) v):=by
 refine ⟨fun h=>?_,fun h v hv=>?_⟩
 ·obtain ⟨i,hi,hp⟩:=List.any_eq_true.1 h
  exact Ev.anyT c n p e step (List.mem_range.1 hi) hp i 0 (by omega)
 ·exact Ev.anyF c n p e v step (fun i hi=>by
   have:=List.any_eq_false.1 h i (List.mem_range.2 hi)
   simpa using this) hv n 0 (by omega)
theorem Ev.one {α:Type} {g:Nat→Option α} {v:α} (c:Nat) (h:∀ m,g (m+c)=some v):Ev g v:=Ev.add c ⟨0,fun m _=>h m⟩
theorem Ev.by {α:Type} {g g':Nat→Option α} {v:α} (c:Nat) (h:∀ m,g (m+c)=g' m) (h':Ev g' v):Ev g v:=Ev.add c (h'.of_eq h)
theorem ltI_cast {i j:Nat}:ltI (i:Int) (j:Int)=decide (i < j):=by unfold ltI;simp
theorem eqI_ne {a:Int} (h:a≠0):eqI a 0=false:=eqI_false.2 h
theorem c73 (a:Rw D88) (ha:smR sm88 a):Ret 73 [S.t (T.rows 2 a.n fun i=>e88 (a.get i))] (ii (taintsV a)):=by
 have hn:=sm_lt ha.1
 have key:=Ev.errsN (X:=fun m j=>(X73n (regs O) a m).x0 (j:Int)) a.n (taintV a) (fun j hj=>by
  have hj2:j < 2 ^ 62:=by omega
  obtain ⟨y,hy,hK⟩:=yC_bool (by kernel_rfl) (c71 (a.at j).fKey (ha.2 j hj).1)
  obtain ⟨z,hz,hL⟩:=yC_bool (by kernel_rfl) (c129 (a.at j).fVal (ha.2 j hj).2)
  obtain ⟨inT,inF⟩:=Ev.anyC (X:=fun m i=>(X73n (regs O) a m).x1 (j:Int) (i:Int)) 1 j (fun i=>strEq (a.at i).fKey (a.at j).fKey) (ii 6) (fun m i hi=>by
   have hi':i < a.n:=by omega
   simp only [X73n,X73s,b73_1,D73_0,D73_1,ltI_cast,hi,decide_true,cond_true,elemO_nat hi',elemO_nat hj,get_nat,addI_nat1 (show i < 2 ^ 62 by omega)])
  have out:∀ m,(X73n (regs O) a (m+1)).x1 (j:Int) (j:Int)=(X73n (regs O) a m).x0 ((j+1:Nat):Int):=fun m=>by
   simp only [X73n,X73s,b73_1,D73_0,D73_1,ltI_cast,Nat.lt_irrefl,decide_false,cond_false,addI_nat1 hj2]
  have one:∀ m,(X73n (regs O) a (m+1)).x0 (j:Int)=bif !nameB (a.at j).fKey then some (ii 7) else bif !valB (a.at j).fVal then some (ii 20) else (X73n (regs O) a m).x1 (j:Int) 0:=fun m=>by
   simp only [X73n,X73s,b73_0,D73_0,D73_1,ltI_nat,elemO_nat hj,get_nat,hj,decide_true,cond_true,hK,hy,hL,hz]
  unfold taintV
  cases h1:nameB (a.at j).fKey with
  | false=>exact ⟨fun _=>Ev.one 1 fun m=>by rw [one,h1];rfl,fun h=>absurd (show (7:Int)=0 from h) (by decide)⟩
  | true=>
   cases h2:valB (a.at j).fVal with
   | false=>exact ⟨fun _=>Ev.one 1 fun m=>by rw [one,h1,h2];rfl,fun h=>absurd (show (20:Int)=0 from h) (by decide)⟩
   | true=>
    cases h3:(List.range j).any (fun i=>strEq (a.at i).fKey (a.at j).fKey) with
    | true=>exact ⟨fun _=>Ev.by 1 (fun m=>by rw [one,h1,h2];rfl) (inT h3),fun h=>absurd h (by decide)⟩
    | false=>exact ⟨fun h=>absurd rfl h,fun _ v hv=>Ev.by 1 (fun m=>by rw [one,h1,h2];rfl) (inF h3 v (Ev.by 1 out hv))⟩) (Ev.add 1 ⟨0,fun m _=>by
  show (X73n (regs O) a (m+1)).x0 (a.n:Int)=_
  simp only [X73n,X73s,b73_0,D73_0,ltI_nat,Nat.lt_irrefl,decide_false,cond_false]⟩)
 obtain ⟨n,h⟩:=key.get
 refine W73 a n _ ?_
 have e:gtI (ofN a.n) 4=decide (4 < a.n):=gtI_ofN (k:=4)
 unfold taintsV
 simp only [e73_in,e]
 cases decide (4 < a.n) with
 | true=>rfl
 | false=>exact h
def sm160 (a:D160):Prop:=sm (sizeN a.fKey)∧sm (sizeN a.fVal)
def eq160 (a b:D160):Bool:=strEq a.fKey b.fKey && (strEq a.fVal b.fVal && (eqB a.fAny b.fAny && true))
theorem strEq_comm {a b:ByteArray}:strEq a b=strEq b a:=by
 rw [Bool.eq_iff_iff,strEq_iff,strEq_iff]
 exact ⟨fun h=>h.symm,fun h=>h.symm⟩
theorem eq160_comm {a b:D160}:eq160 a b=eq160 b a:=by
 unfold eq160 eqB
 rw [strEq_comm (a:=a.fKey),strEq_comm (a:=a.fVal)]
 cases a.fAny<;>cases b.fAny<;>rfl
theorem c189 (a:Rw D160) (b:D160) (ha:a.n < 2 ^ 62):Ret 189 [S.t (T.rows 3 a.n fun i=>e160 (a.get i)),ag (e160 b)] (ii (idx a.n fun j=>eq160 b (a.at j))):=by
 have key:=Ev.idxC (X:=fun m j=>(X189n (regs O) a b m).x0 (j:Int)) 1 a.n (fun j=>eq160 b (a.at j)) (fun m j hj=>by
  have hj2:j < 2 ^ 62:=by omega
  simp only [X189n,X189s,b189_0,D189_0,ltI_nat,elemO_nat hj,get_nat,hj,decide_true,cond_true,addI_nat1 hj2,eq160]) (fun m=>by
  simp only [X189n,X189s,b189_0,D189_0,ltI_nat,Nat.lt_irrefl,decide_false,cond_false];rfl)
 obtain ⟨n,h⟩:=key.get
 exact W189 a b n _ h
theorem c158 (a:Rw D160) (b:D160) (ha:a.n < 2 ^ 62):Ret 158 [S.t (T.rows 3 a.n fun i=>e160 (a.get i)),ag (e160 b)] (bb ((List.range a.n).any fun j=>eq160 b (a.at j))):=by
 obtain ⟨y,hy,hK⟩:=yC_int (by kernel_rfl) (c189 a b ha)
 exact W158 a b 0 _ (by simp only [e158_in,hK,hy,idx_ge])
def badT (x:D160):Bool:=(x.fAny && !strEq x.fVal (bs [])) || (!x.fAny && !valB x.fVal)
def tolV (a:Rw D160) (j:Nat):Int:=bif !nameB (a.at j).fKey then 7 else bif badT (a.at j) then 20 else bif (List.range j).any (fun i=>eq160 (a.at j) (a.at i)) then 6 else 0
def tolsV (a:Rw D160):Int:=bif decide (4 < a.n) then 3 else firstE a.n (tolV a)
theorem c120 (a:Rw D160) (ha:smR sm160 a):Ret 120 [S.t (T.rows 3 a.n fun i=>e160 (a.get i))] (ii (tolsV a)):=by
 have hn:=sm_lt ha.1
 have key:=Ev.errsC (X:=fun m j=>(X120n (regs O) a m).x0 (j:Int)) 3 a.n (tolV a) (fun m j hj=>by
  have hj2:j < 2 ^ 62:=by omega
  obtain ⟨y,hy,hK⟩:=yC_bool (by kernel_rfl) (c101 (a.at j).fKey (ha.2 j hj).1)
  obtain ⟨z,hz,hL⟩:=yC_bool (by kernel_rfl) (c146 (a.at j).fVal (ha.2 j hj).2)
  obtain ⟨x,hx,hM⟩:=yC_bool (by kernel_rfl) (c158 (a.sub j (by omega)) (a.at j) (by rw [sub_n];omega))
  rw [any_sub (p:=fun (t:D160)=>eq160 (a.at j) t)] at hx
  simp only [Rw.sub] at hM
  simp only [X120n,X120s,b120_0,b120_1,b120_2,D120_0,D120_1,D120_2,ltI_nat,elemO_nat hj,get_nat,hj,decide_true,cond_true,addI_nat1 hj2,hK,hy,hL,hz,le_nat (Nat.le_of_lt hj),subO_nat (Nat.le_of_lt hj),hM,hx]
  unfold tolV badT
  cases nameB (a.at j).fKey<;>cases (a.at j).fAny<;>cases strEq (a.at j).fVal (bs [])<;>cases valB (a.at j).fVal<;>cases (List.range j).any (fun i=>eq160 (a.at j) (a.at i))<;>rfl) (fun m=>by
  simp only [X120n,X120s,b120_0,D120_0,ltI_nat,Nat.lt_irrefl,decide_false,cond_false])
 obtain ⟨n,h⟩:=key.get
 refine W120 a n _ ?_
 have e:gtI (ofN a.n) 4=decide (4 < a.n):=gtI_ofN (k:=4)
 unfold tolsV
 simp only [e120_in,e]
 cases decide (4 < a.n) with
 | true=>rfl
 | false=>exact h
theorem c79 (a:Rw D160) (ha:smR sm160 a):Ret 79 [S.t (T.rows 3 a.n fun i=>e160 (a.get i))] (ii (tolsV a)):=by
 have hn:=sm_lt ha.1
 have key:=Ev.errsN (X:=fun m j=>(X79n (regs O) a m).x0 (j:Int)) a.n (tolV a) (fun j hj=>by
  have hj2:j < 2 ^ 62:=by omega
  obtain ⟨y,hy,hK⟩:=yC_bool (by kernel_rfl) (c71 (a.at j).fKey (ha.2 j hj).1)
  obtain ⟨z,hz,hL⟩:=yC_bool (by kernel_rfl) (c129 (a.at j).fVal (ha.2 j hj).2)
  obtain ⟨inT,inF⟩:=Ev.anyC (X:=fun m i=>(X79n (regs O) a m).x2 (j:Int) (i:Int)) 1 j (fun i=>eq160 (a.at j) (a.at i)) (ii 6) (fun m i hi=>by
   have hi':i < a.n:=by omega
   rw [eq160_comm]
   simp only [X79n,X79s,b79_2,D79_0,D79_2,ltI_cast,hi,decide_true,cond_true,elemO_nat hi',elemO_nat hj,get_nat,addI_nat1 (show i < 2 ^ 62 by omega),eq160])
  have out:∀ m,(X79n (regs O) a (m+1)).x2 (j:Int) (j:Int)=(X79n (regs O) a m).x0 ((j+1:Nat):Int):=fun m=>by
   simp only [X79n,X79s,b79_2,D79_0,D79_2,ltI_cast,Nat.lt_irrefl,decide_false,cond_false,addI_nat1 hj2]
  have one:∀ m,(X79n (regs O) a (m+2)).x0 (j:Int)=bif !nameB (a.at j).fKey then some (ii 7) else bif badT (a.at j) then some (ii 20) else (X79n (regs O) a m).x2 (j:Int) 0:=fun m=>by
   simp only [X79n,X79s,b79_0,b79_1,D79_0,D79_1,D79_2,ltI_nat,elemO_nat hj,get_nat,hj,decide_true,cond_true,hK,hy,hL,hz]
   unfold badT
   cases nameB (a.at j).fKey<;>cases (a.at j).fAny<;>cases strEq (a.at j).fVal (bs [])<;>cases valB (a.at j).fVal<;>rfl
  unfold tolV
  cases h1:nameB (a.at j).fKey with
  | false=>exact ⟨fun _=>Ev.one 2 fun m=>by rw [one,h1];rfl,fun h=>absurd (show (7:Int)=0 from h) (by decide)⟩
  | true=>
   cases h2:badT (a.at j) with
   | true=>exact ⟨fun _=>Ev.one 2 fun m=>by rw [one,h1,h2];rfl,fun h=>absurd (show (20:Int)=0 from h) (by decide)⟩
   | false=>
    cases h3:(List.range j).any (fun i=>eq160 (a.at j) (a.at i)) with
    | true=>exact ⟨fun _=>Ev.by 2 (fun m=>by rw [one,h1,h2];rfl) (inT h3),fun h=>absurd h (by decide)⟩
    | false=>exact ⟨fun h=>absurd rfl h,fun _ v hv=>Ev.by 2 (fun m=>by rw [one,h1,h2];rfl) (inF h3 v (Ev.by 1 out hv))⟩) (Ev.one 1 fun m=>by
  simp only [X79n,X79s,b79_0,D79_0,ltI_nat,Nat.lt_irrefl,decide_false,cond_false])
 obtain ⟨n,h⟩:=key.get
 refine W79 a n _ ?_
 have e:gtI (ofN a.n) 4=decide (4 < a.n):=gtI_ofN (k:=4)
 unfold tolsV
 simp only [e79_in,e]
 cases decide (4 < a.n) with
 | true=>rfl
 | false=>exact h
def orE (a b:Int):Int:=bif !eqI a 0 then a else b
theorem firstE_or {n:Nat} {g:Nat→Int} {r:Int}:((List.range n).findSome? fun j=>bif !(eqI (g j) 0) then some (ii (g j)) else none).getD (ii r)=ii (orE (firstE n g) r):=by
 unfold firstE
 generalize List.range n=l
 induction l with
 | nil=>rfl
 | cons j l ih=>
  simp only [List.findSome?_cons]
  cases h:eqI (g j) 0 with
  | false=>simp [orE,h]
  | true=>exact ih
theorem Ev.errsK {X:Nat→Nat→Option S} (n:Nat) (g:Nat→Int) (r:Int) (step:∀ j,j < n→(g j≠0→Ev (fun m=>X m j) (ii (g j)))∧(g j=0→∀ v,Ev (fun m=>X m (j+1)) v→Ev (fun m=>X m j) v))
  (stop:Ev (fun m=>X m n) (ii r)):Ev (fun m=>X m 0) (ii (orE (firstE n g) r)):=by
 have:=Ev.loopN (X:=X) n (fun j=>bif !(eqI (g j) 0) then some (ii (g j)) else none) (ii r) (fun j hj=>by
  obtain ⟨h1,h2⟩:=step j hj
  cases h:eqI (g j) 0 with
  | true=>exact ⟨fun e he=>(by cases he),fun _ v hv=>h2 (eqI_true.1 h) v hv⟩
  | false=>exact ⟨fun e he=>(by obtain rfl:=Option.some.inj he;exact h1 (eqI_false.1 h)),fun hn=>(by cases hn)⟩) stop
 rw [firstE_or] at this
 exact this
theorem Ev.errsKC {X:Nat→Nat→Option S} (c n:Nat) (g:Nat→Int) (r:Int) (step:∀ m j,j < n→X (m+c) j=bif !(eqI (g j) 0) then some (ii (g j)) else X m (j+1)) (stop:Ev (fun m=>X m n) (ii r)):Ev (fun m=>X m 0) (ii (orE (firstE n g) r)):=
 Ev.errsK n g r (fun j hj=>⟨fun h=>Ev.one c fun m=>by rw [step m j hj,eqI_ne h];rfl,fun h v hv=>Ev.by c (fun m=>by rw [step m j hj,h];rfl) hv⟩) stop
theorem firstL2 (a b:Int):firstL [a,b]=orE a b:=by
 unfold firstL firstL firstL orE
 cases h:eqI a 0 with
 | false=>rfl
 | true=>
  cases h':eqI b 0 with
  | false=>rfl
  | true=>rw [eqI_true.1 h'];rfl
def sm47 (a:D47):Prop:=sm (sizeN a.fType)∧sm (sizeN a.fZone)∧sm (sizeN a.fKind)
def eq47 (a b:D47):Bool:=strEq a.fType b.fType && (strEq a.fZone b.fZone && (strEq a.fKind b.fKind && true))
theorem eq47_comm {a b:D47}:eq47 a b=eq47 b a:=by
 unfold eq47
 rw [strEq_comm (a:=a.fType),strEq_comm (a:=a.fZone),strEq_comm (a:=a.fKind)]
theorem c188 (a:Rw D47) (b:D47) (ha:a.n < 2 ^ 62):Ret 188 [S.t (T.rows 3 a.n fun i=>e47 (a.get i)),ag (e47 b)] (ii (idx a.n fun j=>eq47 b (a.at j))):=by
 have key:=Ev.idxC (X:=fun m j=>(X188n (regs O) a b m).x0 (j:Int)) 1 a.n (fun j=>eq47 b (a.at j)) (fun m j hj=>by
  have hj2:j < 2 ^ 62:=by omega
  simp only [X188n,X188s,b188_0,D188_0,ltI_nat,elemO_nat hj,get_nat,hj,decide_true,cond_true,addI_nat1 hj2,eq47]) (fun m=>by
  simp only [X188n,X188s,b188_0,D188_0,ltI_nat,Nat.lt_irrefl,decide_false,cond_false];rfl)
 obtain ⟨n,h⟩:=key.get
 exact W188 a b n _ h
theorem c155 (a:Rw D47) (b:D47) (ha:a.n < 2 ^ 62):Ret 155 [S.t (T.rows 3 a.n fun i=>e47 (a.get i)),ag (e47 b)] (bb ((List.range a.n).any fun j=>eq47 b (a.at j))):=by
 obtain ⟨y,hy,hK⟩:=yC_int (by kernel_rfl) (c188 a b ha)
 exact W155 a b 0 _ (by simp only [e155_in,hK,hy,idx_ge])
def named47 (a:D47):Bool:=nameB a.fType && (nameB a.fZone && nameB a.fKind)
def offerV (a:Rw D47) (j:Nat):Int:=bif !named47 (a.at j) then 7 else bif (List.range j).any (fun i=>eq47 (a.at j) (a.at i)) then 6 else 0
def offersV (a:Rw D47):Int:=bif decide (72 < a.n) then 3 else firstE a.n (offerV a)
theorem c114 (a:Rw D47) (ha:smR sm47 a):Ret 114 [S.t (T.rows 3 a.n fun i=>e47 (a.get i))] (ii (offersV a)):=by
 have hn:=sm_lt ha.1
 have key:=Ev.errsC (X:=fun m j=>(X114n (regs O) a m).x0 (j:Int)) 1 a.n (offerV a) (fun m j hj=>by
  have hj2:j < 2 ^ 62:=by omega
  obtain ⟨h1,h2,h3⟩:=ha.2 j hj
  obtain ⟨y,hy,hK⟩:=yC_bool (by kernel_rfl) (c109 [(a.at j).fType,(a.at j).fZone,(a.at j).fKind] (show (3:Nat) < 2 ^ 62 by decide) (fun x hx=>by
   simp only [List.mem_cons,List.not_mem_nil,or_false] at hx
   rcases hx with rfl | rfl | rfl
   ·exact h1
   ·exact h2
   ·exact h3))
  have hK:∀ (ρ:Type) (K:Y→Option ρ),yC (regs O) 109 [S.t (T.rows 1 3 fun i=>List.take 1 (List.drop (i.1*1) (e47 (a.at j))))] K=K y:=hK
  have hy:y.b 0=named47 (a.at j):=by rw [hy];simp only [List.all_cons,List.all_nil,Bool.and_true,named47]
  obtain ⟨z,hz,hL⟩:=yC_int (by kernel_rfl) (c108 (named47 (a.at j)) 7)
  obtain ⟨x,hx,hM⟩:=yC_bool (by kernel_rfl) (c155 (a.sub j (by omega)) (a.at j) (by rw [sub_n];omega))
  rw [any_sub (p:=fun (t:D47)=>eq47 (a.at j) t)] at hx
  simp only [Rw.sub] at hM
  generalize hq:(List.range j).any (fun i=>eq47 (a.at j) (a.at i))=q at hx
  obtain ⟨w,hw,hN⟩:=yC_int (by kernel_rfl) (c108 (!q) 6)
  obtain ⟨u,hu,hP⟩:=yC_int (by kernel_rfl) (c107 [bif named47 (a.at j) then 0 else 7,bif !q then 0 else 6] (show (2:Nat) < 2 ^ 62 by decide))
  have hP:∀ (ρ:Type) (K:Y→Option ρ),yC (regs O) 107 [S.t (T.rows 1 2 fun i=>List.take 1 (List.drop (i.1*1) [ti (bif named47 (a.at j) then 0 else 7),ti (bif !q then 0 else 6)]))] K=K u:=hP
  simp only [X114n,X114s,b114_0,D114_0,ltI_nat,elemO_nat hj,get_nat,hj,decide_true,cond_true,addI_nat1 hj2,hK,hy,hL,hz,le_nat (Nat.le_of_lt hj),subO_nat (Nat.le_of_lt hj),hM,hx,hN,hw,hP,hu,firstL2]
  unfold offerV
  rw [hq]
  cases named47 (a.at j)<;>cases q<;>rfl) (fun m=>by
  simp only [X114n,X114s,b114_0,D114_0,ltI_nat,Nat.lt_irrefl,decide_false,cond_false])
 obtain ⟨n,h⟩:=key.get
 refine W114 a n _ ?_
 have e:gtI (ofN a.n) 72=decide (72 < a.n):=gtI_ofN (k:=72)
 unfold offersV
 simp only [e114_in,e]
 cases decide (72 < a.n) with
 | true=>rfl
 | false=>exact h
theorem c131 (a:Rw D47) (ha:smR sm47 a):Ret 131 [S.t (T.rows 3 a.n fun i=>e47 (a.get i))] (ii (offersV a)):=by
 have hn:=sm_lt ha.1
 have key:=Ev.errsN (X:=fun m j=>(X131n (regs O) a m).x0 (j:Int)) a.n (offerV a) (fun j hj=>by
  have hj2:j < 2 ^ 62:=by omega
  obtain ⟨h1,h2,h3⟩:=ha.2 j hj
  obtain ⟨y,hy,hK⟩:=yC_bool (by kernel_rfl) (c130 (a.at j).fType (a.at j).fZone (a.at j).fKind h1 h2 h3)
  have hK:∀ (ρ:Type) (K:Y→Option ρ),yC (regs O) 130 [ag (e47 (a.at j))] K=K y:=hK
  have hy:y.b 0=named47 (a.at j):=hy
  have hle:j≤a.n:=by omega
  have hsn:(a.sub j hle).n=j:=sub_n
  have hto:ofN (toN (j:Int))=(j:Int):=by unfold ofN toN;simp
  obtain ⟨inT,inF⟩:=Ev.anyC (X:=fun m i=>(X131n (regs O) a m).x1 (a.sub j hle) (a.at j) (j:Int) (j:Int) (i:Int)) 1 j (fun i=>eq47 (a.at j) (a.at i)) (ii 6) (fun m i hi=>by
   have hi':i < (a.sub j hle).n:=by omega
   rw [eq47_comm,← sub_at (h:=hle) hi]
   simp only [X131n,X131s,b131_1,D131_0,D131_1,ltI_cast,hi,decide_true,cond_true,elemO_nat hi',get_nat,addI_nat1 (show i < 2 ^ 62 by omega),eq47])
  have out:∀ m,(X131n (regs O) a (m+1)).x1 (a.sub j hle) (a.at j) (j:Int) (j:Int) (j:Int)=(X131n (regs O) a m).x0 ((j+1:Nat):Int):=fun m=>by
   simp only [X131n,X131s,b131_1,D131_0,D131_1,ltI_cast,Nat.lt_irrefl,decide_false,cond_false,addI_nat1 hj2]
  have one:∀ m,(X131n (regs O) a (m+1)).x0 (j:Int)=bif !named47 (a.at j) then some (ii 7) else (X131n (regs O) a m).x1 (a.sub j hle) (a.at j) (j:Int) (j:Int) 0:=fun m=>by
   simp only [X131n,X131s,b131_0,D131_0,D131_1,ltI_nat,elemO_nat hj,get_nat,hj,decide_true,cond_true,hK,hy,le_nat hle,subO_nat hle,hto]
   rfl
  unfold offerV
  cases h1:named47 (a.at j) with
  | false=>exact ⟨fun _=>Ev.one 1 fun m=>by rw [one,h1];rfl,fun h=>absurd (show (7:Int)=0 from h) (by decide)⟩
  | true=>
   cases h3:(List.range j).any (fun i=>eq47 (a.at j) (a.at i)) with
   | true=>exact ⟨fun _=>Ev.by 1 (fun m=>by rw [one,h1];rfl) (inT h3),fun h=>absurd h (by decide)⟩
   | false=>exact ⟨fun h=>absurd rfl h,fun _ v hv=>Ev.by 1 (fun m=>by rw [one,h1];rfl) (inF h3 v (Ev.by 1 out hv))⟩) (Ev.one 1 fun m=>by
  simp only [X131n,X131s,b131_0,D131_0,ltI_nat,Nat.lt_irrefl,decide_false,cond_false])
 obtain ⟨n,h⟩:=key.get
 refine W131 a n _ ?_
 have e:gtI (ofN a.n) 72=decide (72 < a.n):=gtI_ofN (k:=72)
 unfold offersV
 simp only [e131_in,e]
 cases decide (72 < a.n) with
 | true=>rfl
 | false=>exact h
def zoneS:ByteArray:=bs [122,111,110,101]
def hostS:ByteArray:=bs [104,111,115,116]
def keyB (a:ByteArray):Bool:=strEq a zoneS || strEq a hostS
def termV (a b:ByteArray):Int:=bif !keyB a then 1 else bif !nameB b then 7 else 0
theorem ret1 {a:ByteArray} (ha:sm (sizeN a)):∃ y:Y,y.b 0=nameB a∧∀ (ρ:Type) (K:Y→Option ρ),yC (regs O) 109 [S.t (T.rows 1 1 fun i=>List.take 1 (List.drop (i.1*1) [ts a]))] K=K y:=by
 obtain ⟨y,hy,hK⟩:=yC_bool (by kernel_rfl) (c109 [a] (show (1:Nat) < 2 ^ 62 by decide) (fun x hx=>by simp only [List.mem_singleton] at hx;rw [hx];exact ha))
 exact ⟨y,by rw [hy];simp,hK⟩
theorem retF2 (a b:Int):∃ y:Y,y.i 0=orE a b∧∀ (ρ:Type) (K:Y→Option ρ),yC (regs O) 107 [S.t (T.rows 1 2 fun i=>List.take 1 (List.drop (i.1*1) [ti a,ti b]))] K=K y:=by
 obtain ⟨y,hy,hK⟩:=yC_int (by kernel_rfl) (c107 [a,b] (show (2:Nat) < 2 ^ 62 by decide))
 exact ⟨y,by rw [hy,firstL2],hK⟩
theorem c159 (a b:ByteArray) (hb:sm (sizeN b)):Ret 159 [ss a,ss b] (ii (termV a b)):=by
 obtain ⟨y,hy,hK⟩:=yC_int (by kernel_rfl) (c108 (keyB a) 1)
 obtain ⟨z,hz,hL⟩:=ret1 hb
 obtain ⟨x,hx,hM⟩:=yC_int (by kernel_rfl) (c108 (nameB b) 7)
 obtain ⟨w,hw,hN⟩:=retF2 (bif keyB a then 0 else 1) (bif nameB b then 0 else 7)
 refine W159 a b 1 _ ?_
 have e:e159_in (regs O) a b (D159_0 (X159n (regs O) a b 1))=(X159n (regs O) a b 1).x0 (keyB a):=by
  unfold e159_in keyB zoneS hostS D159_0
  cases strEq a (bs [122,111,110,101])<;>rfl
 rw [e]
 simp only [X159n,X159s,b159_0,hK,hy,hL,hz,hM,hx,hN,hw]
 unfold termV
 cases keyB a<;>cases nameB b<;>rfl
def sm138 (a:D138):Prop:=sm (sizeN a.fKey)∧sm (sizeN a.fApp)
def termsE (a:Rw D138):Int:=firstE a.n fun j=>termV (a.at j).fKey (a.at j).fApp
theorem c80 (a:Rw D138) (ha:smR sm138 a):Ret 80 [S.t (T.rows 2 a.n fun i=>e138 (a.get i))] (ii (termsE a)):=by
 have hn:=sm_lt ha.1
 have key:=Ev.errsC (X:=fun m j=>(X80n (regs O) a m).x0 (j:Int)) 1 a.n (fun j=>termV (a.at j).fKey (a.at j).fApp) (fun m j hj=>by
  have hj2:j < 2 ^ 62:=by omega
  obtain ⟨y,hy,hK⟩:=yC_bool (by kernel_rfl) (c71 (a.at j).fApp (ha.2 j hj).2)
  simp only [X80n,X80s,b80_0,D80_0,ltI_nat,elemO_nat hj,get_nat,hj,decide_true,cond_true,addI_nat1 hj2,hK,hy]
  unfold termV keyB zoneS hostS
  cases strEq (a.at j).fKey (bs [122,111,110,101])<;>cases strEq (a.at j).fKey (bs [104,111,115,116])<;>cases nameB (a.at j).fApp<;>rfl) (fun m=>by
  simp only [X80n,X80s,b80_0,D80_0,ltI_nat,Nat.lt_irrefl,decide_false,cond_false])
 obtain ⟨n,h⟩:=key.get
 exact W80 a n _ h
def sm70 (a:D70):Prop:=sm (sizeN a.fKey)∧sm (sizeN a.fApp)
def spreadV (x:D70):Int:=orE (termV x.fKey x.fApp) (bif geI x.fSkew 1 && leI x.fSkew 16 then 0 else 1)
def many3 (a:D61):Bool:=decide (3 < a.fSpread.n) || (decide (3 < a.fNear.n) || decide (3 < a.fApart.n))
def termsV (a:D61):Int:=bif many3 a then 3 else orE (firstE a.fSpread.n fun j=>spreadV (a.fSpread.at j)) (orE (termsE a.fNear) (termsE a.fApart))
theorem c121 (a:D61) (h1:smR sm70 a.fSpread) (h2:smR sm138 a.fNear) (h3:smR sm138 a.fApart):Ret 121 [ag (e61 a)] (ii (termsV a)):=by
 have hn1:=sm_lt h1.1
 have hn2:=sm_lt h2.1
 have hn3:=sm_lt h3.1
 have k6:Ev (fun m=>(X121n (regs O) a m).x6) (ii 0):=Ev.one 1 fun m=>by simp only [X121n,X121s,b121_6]
 have k5:Ev (fun m=>(X121n (regs O) a m).x5 0) (ii (orE (termsE a.fApart) 0)):=
  Ev.errsKC (X:=fun m j=>(X121n (regs O) a m).x5 (j:Int)) 1 a.fApart.n (fun j=>termV (a.fApart.at j).fKey (a.fApart.at j).fApp) 0 (fun m j hj=>by
   obtain ⟨y,hy,hK⟩:=yC_int (by kernel_rfl) (c159 (a.fApart.at j).fKey (a.fApart.at j).fApp (h3.2 j hj).2)
   have hK:∀ (ρ:Type) (K:Y→Option ρ),yC (regs O) 159 (List.map S.t (e138 (a.fApart.at j))) K=K y:=hK
   simp only [X121n,X121s,b121_5,D121_5,ltI_nat,elemO_nat hj,get_nat,hj,decide_true,cond_true,addI_nat1 (show j < 2 ^ 62 by omega),hK,hy]) (Ev.by 1 (fun m=>by
   simp only [X121n,X121s,b121_5,D121_6,ltI_nat,Nat.lt_irrefl,decide_false,cond_false]) k6)
 have k4:Ev (fun m=>(X121n (regs O) a m).x4) (ii (orE (termsE a.fApart) 0)):=Ev.by 1 (fun m=>by simp only [X121n,X121s,b121_4,D121_5]) k5
 have k3:Ev (fun m=>(X121n (regs O) a m).x3 0) (ii (orE (termsE a.fNear) (orE (termsE a.fApart) 0))):=
  Ev.errsKC (X:=fun m j=>(X121n (regs O) a m).x3 (j:Int)) 1 a.fNear.n (fun j=>termV (a.fNear.at j).fKey (a.fNear.at j).fApp) _ (fun m j hj=>by
   obtain ⟨y,hy,hK⟩:=yC_int (by kernel_rfl) (c159 (a.fNear.at j).fKey (a.fNear.at j).fApp (h2.2 j hj).2)
   have hK:∀ (ρ:Type) (K:Y→Option ρ),yC (regs O) 159 (List.map S.t (e138 (a.fNear.at j))) K=K y:=hK
   simp only [X121n,X121s,b121_3,D121_3,ltI_nat,elemO_nat hj,get_nat,hj,decide_true,cond_true,addI_nat1 (show j < 2 ^ 62 by omega),hK,hy]) (Ev.by 1 (fun m=>by
   simp only [X121n,X121s,b121_3,D121_4,ltI_nat,Nat.lt_irrefl,decide_false,cond_false]) k4)
 have k1:Ev (fun m=>(X121n (regs O) a m).x1) (ii (orE (termsE a.fNear) (orE (termsE a.fApart) 0))):=Ev.by 1 (fun m=>by simp only [X121n,X121s,b121_1,D121_3]) k3
 have k0:Ev (fun m=>(X121n (regs O) a m).x0 0) (ii (orE (firstE a.fSpread.n fun j=>spreadV (a.fSpread.at j)) (orE (termsE a.fNear) (orE (termsE a.fApart) 0)))):=
  Ev.errsKC (X:=fun m j=>(X121n (regs O) a m).x0 (j:Int)) 2 a.fSpread.n (fun j=>spreadV (a.fSpread.at j)) _ (fun m j hj=>by
   obtain ⟨y,hy,hK⟩:=yC_int (by kernel_rfl) (c159 (a.fSpread.at j).fKey (a.fSpread.at j).fApp (h1.2 j hj).2)
   obtain ⟨z,hz,hL⟩:=yC_int (by kernel_rfl) (c108 (geI (a.fSpread.at j).fSkew 1 && leI (a.fSpread.at j).fSkew 16) 1)
   obtain ⟨w,hw,hN⟩:=retF2 (termV (a.fSpread.at j).fKey (a.fSpread.at j).fApp) (bif geI (a.fSpread.at j).fSkew 1 && leI (a.fSpread.at j).fSkew 16 then 0 else 1)
   have e:(X121n (regs O) a (m+2)).x0 (j:Int)=(X121n (regs O) a (m+1)).x2 (termV (a.fSpread.at j).fKey (a.fSpread.at j).fApp) (geI (a.fSpread.at j).fSkew 1 && leI (a.fSpread.at j).fSkew 16) (j:Int):=by
    simp only [X121n,X121s,b121_0,D121_2,ltI_nat,elemO_nat hj,get_nat,hj,decide_true,cond_true,hK,hy]
    cases geI (a.fSpread.at j).fSkew 1<;>simp only [cond_true,cond_false,Bool.true_and,Bool.false_and]
   show (X121n (regs O) a (m+2)).x0 (j:Int)=_
   rw [e]
   simp only [X121n,X121s,b121_2,D121_0,hL,hz,hN,hw,addI_nat1 (show j < 2 ^ 62 by omega)]
   rfl) (Ev.by 1 (fun m=>by
   simp only [X121n,X121s,b121_0,D121_1,ltI_nat,Nat.lt_irrefl,decide_false,cond_false]) k1)
 have e0:orE (termsE a.fApart) 0=termsE a.fApart:=by
  unfold orE
  cases h:eqI (termsE a.fApart) 0 with
  | false=>rfl
  | true=>exact (eqI_true.1 h).symm
 rw [e0] at k0
 obtain ⟨n,h⟩:=k0.get
 refine W121 a n _ ?_
 have hm:∀ x y z:Nat,gtI (Bool.rec ((fun _=>bif true then bif decide (ofN y > ofN x) then ofN y else ofN x else bif decide (ofN y < ofN x) then ofN y else ofN x) ()) ((fun _=>ofN z) ()) (decide (ofN z > bif true then bif decide (ofN y > ofN x) then ofN y else ofN x else bif decide (ofN y < ofN x) then ofN y else ofN x))) 3=(decide (3 < x) || (decide (3 < y) || decide (3 < z))):=fun x y z=>by
  unfold gtI ofN
  simp only [cond_true]
  by_cases c1:(y:Int) > x
  ·simp only [c1,decide_true,cond_true]
   by_cases c2:(z:Int) > y
   ·simp only [c2,decide_true]
    rw [Bool.eq_iff_iff];simp;omega
   ·simp only [c2,decide_false]
    rw [Bool.eq_iff_iff];simp;omega
  ·simp only [c1,decide_false,cond_false]
   by_cases c2:(z:Int) > x
   ·simp only [c2,decide_true]
    rw [Bool.eq_iff_iff];simp;omega
   ·simp only [c2,decide_false]
    rw [Bool.eq_iff_iff];simp;omega
 unfold termsV
 unfold e121_in
 rw [hm]
 unfold many3
 cases (decide (3 < a.fSpread.n) || (decide (3 < a.fNear.n) || decide (3 < a.fApart.n))) with
 | true=>rfl
 | false=>exact h
def encT (l:List ByteArray):List (S × S):=l.map fun s=>(ss s,bb true)
theorem eqKey9 (a b:ByteArray):eqKey O.P O.K 9 (ss a) (ss b)=some (strEq a b):=by kernel_rfl
theorem findT_cons (b s:ByteArray) (l:List ByteArray) (i:Nat):findS O.P O.K 9 (ss b) (encT (s::l)) i=bif strEq b s then some (some (i,bb true)) else findS O.P O.K 9 (ss b) (encT l) (i+1):=by
 show (eqKey O.P O.K 9 (ss b) (ss s)).bind _=_
 rw [eqKey9]
 rfl
theorem findT (b:ByteArray):∀ (l:List ByteArray) (i:Nat),(l.any (strEq b)=false→findS O.P O.K 9 (ss b) (encT l) i=some none)∧(l.any (strEq b)=true→∃ k,findS O.P O.K 9 (ss b) (encT l) i=some (some (k,bb true)))
 | [],i=>⟨fun _=>rfl,fun h=>absurd h (by simp)⟩
 | s::l,i=>by
  obtain ⟨h1,h2⟩:=findT b l (i+1)
  rw [findT_cons]
  simp only [List.any_cons]
  cases h:strEq b s with
  | true=>exact ⟨fun h=>absurd h (by simp),fun _=>⟨i,rfl⟩⟩
  | false=>exact ⟨h1,h2⟩
theorem shV4:shV O.P 4 0=some (.bool 0,1):=by kernel_rfl
theorem lookT {ρ:Type} (b:ByteArray) (l:List ByteArray):(l.any (strEq b)=false→∀ (Kt:Y→Option ρ) (Kf:Option ρ),lookW O.P O.K 9 4 (encT l) (ss b) Kt Kf=Kf)∧(l.any (strEq b)=true→∃ y:Y,y.b 0=true∧∀ (Kt:Y→Option ρ) (Kf:Option ρ),lookW O.P O.K 9 4 (encT l) (ss b) Kt Kf=Kt y):=by
 refine ⟨fun h Kt Kf=>?_,fun h=>?_⟩
 ·unfold lookW
  rw [shV4,(findT b l 0).1 h]
 ·obtain ⟨k,hk⟩:=(findT b l 0).2 h
  obtain ⟨y,hy,he⟩:=unb_build (sh:=.bool 0) (y:=yB true)
  have hb:build (yB true) (.bool 0)=bb true:=rfl
  rw [hb] at hy he
  have he2:y.b 0=true:=by simpa [build] using he
  refine ⟨y,he2,fun Kt Kf=>?_⟩
  unfold lookW
  rw [shV4,hk]
  dsimp only
  rw [hy]
  rfl
theorem updT {ρ:Type} {l:List ByteArray} {b:ByteArray} (h:l.any (strEq b)=false) (K:List (S × S)→Option ρ):updW O.P O.K 9 (encT l) (ss b) (bb true) K=K (encT (l++[b])):=by
 unfold updW
 rw [(findT b l 0).1 h]
 simp [encT]
theorem close_one (get:Nat→Option B) (d:Nat) (s:ByteArray):closeS get (d+10) (ss s)=some (ss s,[]):=rfl
theorem close_true (get:Nat→Option B) (d:Nat):closeS get (d+10) (bb true)=some (bb true,[]):=rfl
theorem closeE_T (get:Nat→Option B):∀ (l:List ByteArray) (d:Nat),closeE get (d+11+l.length) (encT l)=some (encT l,[])
 | [],d=>rfl
 | p::l,d=>by
  have e:d+11+(p::l).length=(d+11+l.length)+1:=by simp;omega
  rw [e]
  show closeE get ((d+11+l.length)+1) ((ss p,bb true)::encT l)=_
  unfold closeE
  have e2:d+11+l.length=(d+1+l.length)+10:=by omega
  have h1:=close_one get (d+1+l.length) p
  have h2:=close_true get (d+1+l.length)
  rw [← e2] at h1 h2
  simp only [h1,h2,closeE_T get l d]
  rfl
theorem flatD {ρ:Type} {d:Nat} {l:List ByteArray} {K:Option ρ} (h:l.length+11≤d):flatW d (encT l) K=K:=by
 unfold flatW
 refine if_pos ⟨fun get=>?_,?_,fun m=>?_⟩
 ·have:=closeE_T get l (d - 11 - l.length)
  rwa [show d - 11 - l.length+11+l.length=d by omega] at this
 ·clear h
  induction l with
  | nil=>rfl
  | cons p l ih=>
   show refsE ((ss p,bb true)::encT l)=[]
   unfold refsE
   rw [ih]
   rfl
 ·clear h
  induction l with
  | nil=>rfl
  | cons p l ih=>
   show renE m ((ss p,bb true)::encT l)=_
   unfold renE
   rw [ih]
   rfl
theorem flatT {ρ:Type} {l:List ByteArray} {K:Option ρ} (h:l.length≤800):flatW 900 (encT l) K=K:=flatD (by omega)
theorem findT2 (b:ByteArray):∀ (l:List ByteArray) (i:Nat),l.any (strEq b)=true→∃ k,findS O.P O.K 9 (ss b) (encT l) i=some (some (i+k,bb true))∧setE (encT l) k (ss b) (bb true)=encT l
 | [],i,h=>absurd h (by simp)
 | s::l,i,h=>by
  rw [findT_cons]
  cases he:strEq b s with
  | true=>
   obtain rfl:=strEq_iff.1 he
   exact ⟨0,rfl,rfl⟩
  | false=>
   rw [List.any_cons,he,Bool.false_or] at h
   obtain ⟨k,h1,h2⟩:=findT2 b l (i+1) h
   refine ⟨k+1,?_,?_⟩
   ·rw [cond_false,h1]
    congr 3
    omega
   ·show (ss s,bb true)::setE (encT l) k (ss b) (bb true)=_
    rw [h2];rfl
def addL (l:List ByteArray) (b:ByteArray):List ByteArray:=bif l.any (strEq b) then l else l++[b]
theorem updA {ρ:Type} (l:List ByteArray) (b:ByteArray) (K:List (S × S)→Option ρ):updW O.P O.K 9 (encT l) (ss b) (bb true) K=K (encT (addL l b)):=by
 cases h:l.any (strEq b) with
 | false=>rw [updT h];unfold addL;rw [h];rfl
 | true=>
  obtain ⟨k,h1,h2⟩:=findT2 b l 0 h
  unfold updW addL
  rw [h1,h]
  dsimp only
  rw [Nat.zero_add,h2];rfl
theorem yC_map {f:FuncId} {args:List S} {m:List (S × S)} (hs:shF O.P f=some (.mt 0)) (h:Ret f args (S.mt m)):∃ y:Y,y.m 0=m∧∀ (ρ:Type) (K:Y→Option ρ),yC (regs O) f args K=K y:=by
 obtain ⟨y,h1,h2⟩:=yC_of (y0:=⟨fun _=>0,fun _=>false,fun _=>⟨#[]⟩,fun _=>⟨0,fun i=>i.elim0⟩,fun _=>m⟩) hs h
 refine ⟨y,?_,h2⟩
 simpa [build] using h1
end
end Go.Proofs.YtonkoellfaopiaaGreatDoor.H
