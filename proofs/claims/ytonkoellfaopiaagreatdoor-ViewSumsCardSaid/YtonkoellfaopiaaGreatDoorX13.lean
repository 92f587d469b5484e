import Derived.Test.YtonkoellfaopiaaGreatDoorX8
import Derived.Test.YtonkoellfaopiaaGreatDoorX9
import Derived.Test.YtonkoellfaopiaaGreatDoorX10
import Derived.Test.YtonkoellfaopiaaGreatDoorX11
import Derived.Test.YtonkoellfaopiaaGreatDoorX12
set_option linter.unusedSimpArgs false
set_option linter.unusedVariables false
namespace Go.Proofs.YtonkoellfaopiaaGreatDoor.H
open Go
noncomputable section
def within (a lo hi:Int):Bool:=geI a lo && leI a hi
theorem c22 (a:Int):Ret 22 [ii a] (bb (within a 0 1099511627776)):=W22 a 1 _ (by
 unfold e22_in within
 cases geI a 0<;>rfl)
theorem c23 (a:Int):Ret 23 [ii a] (bb (within a 0 1073741824)):=W23 a 1 _ (by
 unfold e23_in within
 cases geI a 0<;>rfl)
theorem c112 (a b c:Int):Ret 112 [ii a,ii b,ii c] (bb (within a b c)):=W112 a b c 1 _ (by
 unfold e112_in within
 cases geI a b<;>rfl)
theorem c108 (a:Bool) (b:Int):Ret 108 [bb a,ii b] (ii (bif a then 0 else b)):=W108 a b 0 _ (by
 unfold e108_in
 cases a<;>rfl)
def chk (a:Int):Int:=bif ltI a 0 then 11 else bif gtI a 1125899906842624 then 10 else 0
theorem c113 (a:Int):Ret 113 [ii a] (ii (chk a)):=W113 a 0 _ (by
 unfold e113_in chk
 cases ltI a 0<;>cases gtI a 1125899906842624<;>rfl)
theorem c91 (a:Int):Ret 91 [ii a] (ii (chk a)):=W91 a 0 _ (by
 unfold e91_in chk
 cases ltI a 0<;>cases gtI a 1125899906842624<;>rfl)
theorem eqI_true {a b:Int}:eqI a b=true↔a=b:=by unfold eqI;simp
theorem eqI_false {a b:Int}:eqI a b=false↔a≠b:=by unfold eqI;simp
def chk2 (a b:Int):Int:=bif !eqI (chk a) 0 then chk a else chk b
theorem c102 (a b:Int):Ret 102 [S.agg [ii a,ii b]] (ii (chk2 a b)):=W102 ⟨a,b⟩ 3 _ (by
 obtain ⟨y,hy,hK⟩:=yC_int (by kernel_rfl) (c113 a)
 obtain ⟨z,hz,hL⟩:=yC_int (by kernel_rfl) (c113 b)
 simp only [e102_in,D102_0,D102_1,D102_2,X102n,X102s,b102_0,b102_1,b102_2,hK,hL,hy,hz]
 unfold chk2
 cases h:eqI (chk a) 0 with
 | false=>rfl
 | true=>
  cases h':eqI (chk b) 0 with
  | false=>rfl
  | true=>rw [eqI_true.1 h'];rfl)
theorem c49 (a b:Int):Ret 49 [S.agg [ii a,ii b]] (ii (chk2 a b)):=W49 ⟨a,b⟩ 0 _ (by
 obtain ⟨y,hy,hK⟩:=yC_int (by kernel_rfl) (c91 a)
 obtain ⟨z,hz,hL⟩:=yC_int (by kernel_rfl) (c91 b)
 simp only [e49_in,hK,hL,hy,hz]
 unfold chk2
 cases h:eqI (chk a) 0<;>rfl)
def both (a b c d:Int):Int:=bif !eqI (chk2 a b) 0 then chk2 a b else chk2 c d
theorem c143 (a b c d:Int):Ret 143 [S.agg [ii a,ii b],S.agg [ii c,ii d]] (ii (both a b c d)):=W143 ⟨a,b⟩ ⟨c,d⟩ 0 _ (by
 obtain ⟨y,hy,hK⟩:=yC_int (by kernel_rfl) (c102 a b)
 obtain ⟨z,hz,hL⟩:=yC_int (by kernel_rfl) (c102 c d)
 simp only [e143_in,e49,ag,List.map,hK,hL,hy,hz]
 unfold both
 cases h:eqI (chk2 a b) 0<;>rfl)
theorem c48 (a b c d:Int):Ret 48 [S.agg [ii a,ii b],S.agg [ii c,ii d]] (ii (both a b c d)):=W48 ⟨a,b⟩ ⟨c,d⟩ 0 _ (by
 obtain ⟨y,hy,hK⟩:=yC_int (by kernel_rfl) (c49 a b)
 obtain ⟨z,hz,hL⟩:=yC_int (by kernel_rfl) (c49 c d)
 simp only [e48_in,e49,ag,List.map,hK,hL,hy,hz]
 unfold both
 cases h:eqI (chk2 a b) 0<;>rfl)
def yII (x y:Int):Y:=⟨fun i=>match i with | 0=>x | _=>y,fun _=>false,fun _=>⟨#[]⟩,fun _=>⟨0,fun i=>i.elim0⟩,fun _=>[]⟩
theorem yC_two {f:FuncId} {args:List S} {x z:Int} (hs:shF O.P f=some (.agg [.int .i64 0,.int .i64 1])) (h:Ret f args (S.agg [ii x,ii z])):∃ y:Y,y.i 0=x∧y.i 1=z∧∀ (ρ:Type) (K:Y→Option ρ),yC (regs O) f args K=K y:=by
 obtain ⟨y,h1,h2⟩:=yC_of (y0:=yII x z) hs h
 simp only [build,buildL,yII,S.agg.injEq,List.cons.injEq,S.t.injEq,T.v.injEq,Value.int.injEq,true_and,and_true] at h1
 exact ⟨y,h1.1,h1.2,h2⟩
def mn (a b:Int):Int:=bif decide (b < a) then b else a
theorem c144 (a b c d:Int):Ret 144 [S.agg [ii a,ii b],S.agg [ii c,ii d]] (S.agg [ii (mn a c),ii (mn b d)]):=W144 ⟨a,b⟩ ⟨c,d⟩ 3 _ (by
 simp only [e144_in,D144_0,D144_1,D144_2,X144n,X144s,b144_0,b144_1,b144_2]
 unfold mn
 cases decide (c < a)<;>cases decide (d < b)<;>rfl)
theorem eqI_mn {a b:Int}:eqI (mn a b) a=leI a b:=by
 unfold eqI mn leI
 by_cases h:b < a
 ·simp [h];omega
 ·simp [h];omega
theorem eqI_mn' {a b:Int}:eqI (mn a b) b=leI b a:=by
 unfold eqI mn leI
 by_cases h:b < a
 ·simp [h];omega
 ·simp [h];omega
def fits (a b c d:Int):Bool:=eqI (both a b c d) 0 && (leI a c && leI b d)
theorem c103 (a b c d:Int):Ret 103 [S.agg [ii a,ii b],S.agg [ii c,ii d]] (bb (fits a b c d)):=W103 ⟨a,b⟩ ⟨c,d⟩ 1 _ (by
 obtain ⟨y,hy,hK⟩:=yC_int (by kernel_rfl) (c143 a b c d)
 obtain ⟨z,hz,hz',hL⟩:=yC_two (by kernel_rfl) (c144 a b c d)
 simp only [e103_in,e49,ag,List.map,D103_0,X103n,X103s,b103_0,hK,hL,hy,hz,hz',eqI_mn,Bool.and_true]
 unfold fits
 cases h:eqI (both a b c d) 0<;>rfl)
def subE (a b c d:Int):Int:=bif !eqI (both a b c d) 0 then both a b c d else bif leI c a && leI d b then 0 else 11
def subA (a b c d x y:Int):Int:=bif eqI (both a b c d) 0 && (leI c a && leI d b) then subI .i64 x y else 0
abbrev subS (a b c d:Int):S:=.tup [.agg [ii (subA a b c d a c),ii (subA a b c d b d)],ii (subE a b c d)]
theorem gtI_leI {a b:Int}:gtI a b=!leI a b:=by
 unfold gtI leI
 by_cases h:a≤b
 ·simp [h]
 ·simp [h];omega
theorem c115 (a b c d:Int):Ret 115 [S.agg [ii a,ii b],S.agg [ii c,ii d]] (subS a b c d):=W115 ⟨a,b⟩ ⟨c,d⟩ 3 _ (by
 obtain ⟨y,hy,hK⟩:=yC_int (by kernel_rfl) (c143 a b c d)
 obtain ⟨z,hz,hz',hL⟩:=yC_two (by kernel_rfl) (c144 a b c d)
 simp only [e115_in,e49,ag,List.map,D115_0,D115_1,D115_2,X115n,X115s,b115_0,b115_1,b115_2,hK,hL,hy,hz,hz',eqI_mn',Bool.and_true,subS]
 unfold subA subE
 cases h:eqI (both a b c d) 0<;>cases h1:leI c a<;>cases h2:leI d b<;>rfl)
def sm (n:Nat):Prop:=n≤140737488355327
theorem sm_lt {n:Nat} (h:sm n):n < 2 ^ 62:=by unfold sm at h;omega
theorem ltI_ge {a b:Int}:ltI a b=!geI a b:=by unfold ltI geI;by_cases h:a < b<;>simp [h]<;>omega
theorem addI_nat1 {j:Nat} (h:j < 2 ^ 62):addI .i64 (j:Int) 1=((j+1:Nat):Int):=addI_nat h
theorem eqI_nat0 {j:Nat}:eqI (j:Int) 0=decide (j=0):=by unfold eqI;simp
theorem c101 (a:ByteArray) (ha:sm (sizeN a)):Ret 101 [ss a] (bb (nameB a)):=by
 have hn:=sm_lt ha
 have key:Ev (fun m=>(X101n (regs O) a m).x0 0) (bb (nameB a)):=by
  have:=Ev.loopc (X:=fun m j=>(X101n (regs O) a m).x0 j) 2 (sizeN a) (fun j=>bif okc (chr a j) (decide (j=0)) then none else some (bb false)) (bb (!decide (sizeN a=0) && decide (sizeN a≤16))) (fun m j hj=>by
   have hj2:j < 2 ^ 62:=by omega
   simp only [X101n,X101s,b101_0,b101_2,D101_0,D101_1,D101_2,ltI_nat,elemO_nat hj,byteAt_nat,hj,decide_true,cond_true,addI_nat1 hj2,eqI_nat0]
   simp only [ltI_ge,gtI_leI]
   generalize chr a j=c
   unfold okc
   cases geI c 97<;>cases leI c 122<;>cases decide (j=0)<;>cases eqI c 46<;>cases eqI c 45<;>cases geI c 48<;>cases leI c 57<;>rfl) (fun m=>by
   simp only [X101n,X101s,b101_0,b101_1,D101_1,ltI_nat,Nat.lt_irrefl,decide_false,cond_false,strEq_empty]
   have:leI (sizeS a) 16=decide (sizeN a≤16):=by unfold leI sizeS sizeN;congr 1;simp;omega
   rw [this]
   cases decide (sizeN a=0)<;>rfl)
  rw [find_all (p:=fun j=>okc (chr a j) (decide (j=0))) (fun j=>rfl)] at this
  have e:(bif (List.range (sizeN a)).all (fun j=>okc (chr a j) (decide (j=0))) then bb (!decide (sizeN a=0) && decide (sizeN a≤16)) else bb false)=bb (nameB a):=by
   unfold nameB
   cases (List.range (sizeN a)).all (fun j=>okc (chr a j) (decide (j=0)))<;>cases decide (sizeN a=0)<;>cases decide (sizeN a≤16)<;>rfl
  rw [← e]
  exact this
 obtain ⟨n,h⟩:=key.get
 refine W101 a n _ ?_
 have hr:roomS a=true:=by unfold roomS;unfold sm at ha;unfold sizeN at ha;simp [strMax];omega
 simp only [e101_in,hr,cond_true]
 exact h
theorem c107r (a:Rw Int) (ha:a.n < 2 ^ 62):Ret 107 [S.t (T.rows 1 a.n fun i=>e3 (a.get i))] (ii (firstE a.n a.at)):=by
 have key:=Ev.errsC (X:=fun m j=>(X107n (regs O) a m).x0 (j:Int)) 1 a.n a.at (fun m j hj=>by
  have hj2:j < 2 ^ 62:=by omega
  simp only [X107n,X107s,b107_0,D107_0,ltI_nat,elemO_nat hj,get_nat,hj,decide_true,cond_true,addI_nat1 hj2]) (fun m=>by
  simp only [X107n,X107s,b107_0,D107_0,ltI_nat,Nat.lt_irrefl,decide_false,cond_false])
 obtain ⟨n,h⟩:=key.get
 exact W107 a n _ h
def firstL:List Int→Int
 | []=>0
 | e::l=>bif !eqI e 0 then e else firstL l
theorem firstL_eq (l:List Int):firstE (rwL l).n (rwL l).at=firstL l:=by
 have:∀ (l r:List Int),((List.range' r.length l.length).findSome? fun j=>bif !(eqI ((r++l).getD j 0) 0) then some ((r++l).getD j 0) else none).getD 0=firstL l:=by
  intro l
  induction l with
  | nil=>intro r;rfl
  | cons e l ih=>
   intro r
   have e1:(r++e::l).getD r.length 0=e:=by simp
   simp only [List.length_cons,List.range'_succ,List.findSome?_cons,e1,firstL]
   cases eqI e 0 with
   | false=>rfl
   | true=>
    have:=ih (r++[e])
    simp only [List.length_append,List.length_singleton,List.append_assoc,List.singleton_append] at this
    exact this
 have h:=this l []
 simp only [List.nil_append,List.length_nil] at h
 rw [← List.range_eq_range'] at h
 unfold firstE
 have e2:(rwL l).n=l.length:=rfl
 rw [e2,← h]
 congr 2
 funext j
 rw [rwL_at]
 rfl
theorem c107 (l:List Int) (hl:l.length < 2 ^ 62):Ret 107 [S.t (T.rows 1 l.length fun i=>List.take 1 (List.drop (i.1*1) (l.map ti)))] (ii (firstL l)):=by
 rw [lit1,← firstL_eq]
 exact c107r (rwL l) hl
theorem c152 (a:ByteArray) (ha:sm (sizeN a)):Ret 152 [ss a] (bb !nameB a):=by
 obtain ⟨y,hy,hK⟩:=yC_bool (by kernel_rfl) (c101 a ha)
 exact W152 a 0 _ (by simp only [e152_in,hK,hy])
def smN (a:Rw ByteArray):Prop:=a.n < 2 ^ 62∧∀ j,j < a.n→sm (sizeN (a.at j))
def idx (n:Nat) (p:Nat→Bool):Int:=((List.range n).findSome? fun j=>bif p j then some (j:Int) else none).getD (-1)
theorem idx_ii {n:Nat} {p:Nat→Bool}:((List.range n).findSome? fun j=>bif p j then some (ii (j:Int)) else none).getD (ii (-1))=ii (idx n p):=by
 unfold idx
 generalize List.range n=l
 induction l with
 | nil=>rfl
 | cons j l ih=>
  simp only [List.findSome?_cons]
  cases p j with
  | true=>rfl
  | false=>exact ih
theorem idx_ge {n:Nat} {p:Nat→Bool}:geI (idx n p) 0=(List.range n).any p:=by
 unfold idx
 generalize List.range n=l
 induction l with
 | nil=>rfl
 | cons j l ih=>
  simp only [List.findSome?_cons,List.any_cons]
  cases p j with
  | true=>unfold geI;simp
  | false=>simpa using ih
theorem Ev.idxC {X:Nat→Nat→Option S} (c n:Nat) (p:Nat→Bool) (step:∀ m j,j < n→X (m+c) j=bif p j then some (ii (j:Int)) else X m (j+1)) (stop:∀ m,X (m+c) n=some (ii (-1))):Ev (fun m=>X m 0) (ii (idx n p)):=by
 have:=Ev.loopN (X:=X) n (fun j=>bif p j then some (ii (j:Int)) else none) (ii (-1)) (fun j hj=>by
  cases h:p j with
  | true=>exact ⟨fun e he=>(by
    obtain rfl:=Option.some.inj he
    exact Ev.add c ⟨0,fun m _=>by show X (m+c) j=_;rw [step m j hj,h];rfl⟩),fun hn=>(by cases hn)⟩
  | false=>exact ⟨fun e he=>(by cases he),fun _ v hv=>Ev.add c (hv.of_eq fun m=>by rw [step m j hj,h];rfl)⟩) (Ev.add c ⟨0,fun m _=>stop m⟩)
 rw [idx_ii] at this
 exact this
theorem c186 (a:Rw ByteArray) (ha:smN a):Ret 186 [S.t (T.rows 1 a.n fun i=>[ts (a.get i)]),S.t (T.v (.func (Go.Fn.func 152) #[] #[]))] (ii (idx a.n fun j=>!nameB (a.at j))):=by
 have key:=Ev.idxC (X:=fun m j=>(X186n (regs O) a m).x0 (j:Int)) 1 a.n (fun j=>!nameB (a.at j)) (fun m j hj=>by
  have hj2:j < 2 ^ 62:=by have:=ha.1;omega
  obtain ⟨y,hy,hK⟩:=yC_bool (by kernel_rfl) (c152 (a.at j) (ha.2 j hj))
  simp only [X186n,X186s,b186_0,D186_0,ltI_nat,elemO_nat hj,get_nat,hj,decide_true,cond_true,addI_nat1 hj2,hK,hy]) (fun m=>by
  simp only [X186n,X186s,b186_0,D186_0,ltI_nat,Nat.lt_irrefl,decide_false,cond_false];rfl)
 obtain ⟨n,h⟩:=key.get
 exact W186 a n _ h
theorem c151 (a:Rw ByteArray) (ha:smN a):Ret 151 [S.t (T.rows 1 a.n fun i=>[ts (a.get i)]),S.t (T.v (.func (Go.Fn.func 152) #[] #[]))] (bb ((List.range a.n).any fun j=>!nameB (a.at j))):=by
 obtain ⟨y,hy,hK⟩:=yC_int (by kernel_rfl) (c186 a ha)
 exact W151 a 0 _ (by simp only [e151_in,hK,hy,idx_ge])
theorem c109r (a:Rw ByteArray) (ha:smN a):Ret 109 [S.t (T.rows 1 a.n fun i=>[ts (a.get i)])] (bb ((List.range a.n).all fun j=>nameB (a.at j))):=by
 obtain ⟨y,hy,hK⟩:=yC_bool (by kernel_rfl) (c151 a ha)
 refine W109 a 0 _ ?_
 simp only [e109_in,hK,hy,List.not_any_eq_all_not,Bool.not_not]
theorem c109 (l:List ByteArray) (hl:l.length < 2 ^ 62) (ha:∀ x∈l,sm (sizeN x)):Ret 109 [S.t (T.rows 1 l.length fun i=>List.take 1 (List.drop (i.1*1) (l.map ts)))] (bb (l.all nameB)):=by
 rw [lit1]
 have:=c109r (rwL l) ⟨hl,fun j hj=>by
  have hj:j < l.length:=hj
  rw [rwL_get hj]
  exact ha _ (List.getElem_mem hj)⟩
 have e:((List.range (rwL l).n).all fun j=>nameB ((rwL l).at j))=l.all nameB:=by
  rw [Bool.eq_iff_iff]
  simp only [List.all_eq_true,List.mem_range]
  constructor
  ·intro h x hx
   obtain ⟨j,hj,rfl⟩:=List.getElem_of_mem hx
   have:=h j hj
   rwa [rwL_get hj] at this
  ·intro h j hj
   have hj:j < l.length:=hj
   rw [rwL_get hj]
   exact h _ (List.getElem_mem hj)
 rw [e] at this
 exact this
def noneB (a:ByteArray):Bool:=decide (sizeN a=0) || nameB a
theorem c122 (a:ByteArray) (ha:sm (sizeN a)):Ret 122 [ss a] (bb (noneB a)):=by
 obtain ⟨y,hy,hK⟩:=yC_bool (by kernel_rfl) (c101 a ha)
 refine W122 a 1 _ ?_
 simp only [e122_in,strEq_empty,hK,hy,D122_0,X122n,X122s,b122_0]
 unfold noneB
 cases decide (sizeN a=0)<;>rfl
theorem yC_ib {f:FuncId} {args:List S} {x:Int} {b:Bool} (hs:shF O.P f=some (.tup [.int .i64 0,.bool 1])) (h:Ret f args (S.tup [ii x,bb b])):∃ y:Y,y.i 0=x∧y.b 1=b∧∀ (ρ:Type) (K:Y→Option ρ),yC (regs O) f args K=K y:=by
 obtain ⟨y,h1,h2⟩:=yC_of (y0:=⟨fun _=>x,fun _=>b,fun _=>⟨#[]⟩,fun _=>⟨0,fun i=>i.elim0⟩,fun _=>[]⟩) hs h
 simp only [build,buildL,S.tup.injEq,List.cons.injEq,S.t.injEq,T.v.injEq,Value.int.injEq,Value.bool.injEq,true_and,and_true] at h1
 exact ⟨y,h1.1,h1.2,h2⟩
theorem c183 (a:ByteArray) (ha:sm (sizeN a)):Ret 183 [ss a] (S.tup [ii ((numV a).getD 0),bb (numV a).isSome]):=by
 refine W_ext (F:=F183) rfl ?_
 have:a.size.ble 281474976710656=true:=by
  unfold sm sizeN at ha
  exact Nat.ble_eq_true_of_le (by omega)
 show (bif a.size.ble 281474976710656 then some (S.tup [ii ((numV a).getD 0),bb (numV a).isSome]) else none)=_
 rw [this];rfl
theorem c146 (a:ByteArray) (ha:sm (sizeN a)):Ret 146 [ss a] (bb (valB a)):=by
 obtain ⟨y,h1,h2,hK⟩:=yC_ib (by kernel_rfl) (c183 a ha)
 obtain ⟨z,hz,hL⟩:=yC_bool (by kernel_rfl) (c101 a ha)
 refine W146 a 1 _ ?_
 simp only [e146_in,hK,h1,h2,hL,hz,D146_0,X146n,X146s,b146_0,valB]
 cases (numV a).isSome<;>rfl
theorem c56 (a b:ByteArray):Ret 56 [ss a,ss b] (ii (cmpS a b)):=W_ext (F:=F56) rfl rfl
def Rw.sub {α:Type} (a:Rw α) (j:Nat) (h:j≤a.n):Rw α:=⟨toN (j:Int),fun i=>a.get ⟨0+i.1,by have:i.1 < toN (j:Int):=i.2;unfold toN at this;simp at this;omega⟩⟩
theorem sub_n {α:Type} {a:Rw α} {j:Nat} {h:j≤a.n}:(a.sub j h).n=j:=by show (j:Int).toNat=j;simp
theorem sub_at {α:Type} [Inhabited α] {a:Rw α} {j i:Nat} {h:j≤a.n} (hi:i < j):(a.sub j h).at i=a.at i:=by
 unfold Rw.at
 rw [dif_pos (by rw [sub_n];exact hi),dif_pos (by omega)]
 show a.get ⟨0+i,_⟩=a.get ⟨i,_⟩
 congr 2
 omega
theorem any_sub {α:Type} [Inhabited α] {a:Rw α} {j:Nat} {h:j≤a.n} {p:α→Bool}:((List.range (a.sub j h).n).any fun i=>p ((a.sub j h).at i))=(List.range j).any fun i=>p (a.at i):=by
 rw [sub_n,Bool.eq_iff_iff]
 simp only [List.any_eq_true,List.mem_range]
 constructor
 ·rintro ⟨i,hi,hp⟩;rw [sub_at hi] at hp;exact ⟨i,hi,hp⟩
 ·rintro ⟨i,hi,hp⟩;exact ⟨i,hi,by rw [sub_at hi];exact hp⟩
theorem subO_nat {ρ:Type} {j n:Nat} {K:0+toN (j:Int)≤n→Option ρ} (h:j≤n):subO 0 (toN (j:Int)) n K=K (by unfold toN;simpa using h):=subO_pos _
theorem le_nat {j n:Nat} (h:j≤n):(leI 0 (j:Int) && leI (j:Int) (ofN n))=true:=by
 unfold leI ofN
 simp only [Bool.and_eq_true,decide_eq_true_eq]
 exact ⟨by omega,by omega⟩
theorem gtI_ofN {n k:Nat}:gtI (ofN n) (k:Int)=decide (k < n):=by unfold gtI ofN;simp
theorem c154 (a b:D88):Ret 154 [ag (e88 a),S.pt (e88 b)] (bb (strEq a.fKey b.fKey)):=W154 a b 0 _ rfl
theorem c148 (a b:D88):Ret 148 [ag (e88 a),S.pt (e88 b)] (bb (strEq a.fKey b.fKey)):=W148 a b 0 _ rfl
theorem c184b (a:Rw D88) (b:D88) (ha:a.n < 2 ^ 62):Ret 184 [S.t (T.rows 2 a.n fun i=>e88 (a.get i)),S.fn (Go.Fn.func 154) [] [S.pt (e88 b)]] (ii (idx a.n fun j=>strEq (a.at j).fKey b.fKey)):=by
 have key:=Ev.idxC (X:=fun m j=>(X184bn (regs O) a b m).x0 (j:Int)) 1 a.n (fun j=>strEq (a.at j).fKey b.fKey) (fun m j hj=>by
  have hj2:j < 2 ^ 62:=by omega
  obtain ⟨y,hy,hK⟩:=yC_bool (by kernel_rfl) (c154 (a.at j) b)
  simp only [X184bn,X184bs,b184b_0,D184b_0,ltI_nat,elemO_nat hj,get_nat,hj,decide_true,cond_true,addI_nat1 hj2,hK,hy]) (fun m=>by
  simp only [X184bn,X184bs,b184b_0,D184b_0,ltI_nat,Nat.lt_irrefl,decide_false,cond_false];rfl)
 obtain ⟨n,h⟩:=key.get
 exact W184b a b n _ h
theorem c147b (a:Rw D88) (b:D88) (ha:a.n < 2 ^ 62):Ret 147 [S.t (T.rows 2 a.n fun i=>e88 (a.get i)),S.fn (Go.Fn.func 154) [] [S.pt (e88 b)]] (bb ((List.range a.n).any fun j=>strEq (a.at j).fKey b.fKey)):=by
 obtain ⟨y,hy,hK⟩:=yC_int (by kernel_rfl) (c184b a b ha)
 exact W147b a b 0 _ (by simp only [e147b_in,hK,hy,idx_ge])
theorem c184 (a:Rw D88) (b:D88) (ha:a.n < 2 ^ 62):Ret 184 [S.t (T.rows 2 a.n fun i=>e88 (a.get i)),S.fn (Go.Fn.func 148) [] [S.pt (e88 b)]] (ii (idx a.n fun j=>strEq (a.at j).fKey b.fKey)):=by
 have key:=Ev.idxC (X:=fun m j=>(X184n (regs O) a b m).x0 (j:Int)) 1 a.n (fun j=>strEq (a.at j).fKey b.fKey) (fun m j hj=>by
  have hj2:j < 2 ^ 62:=by omega
  obtain ⟨y,hy,hK⟩:=yC_bool (by kernel_rfl) (c148 (a.at j) b)
  simp only [X184n,X184s,b184_0,D184_0,ltI_nat,elemO_nat hj,get_nat,hj,decide_true,cond_true,addI_nat1 hj2,hK,hy]) (fun m=>by
  simp only [X184n,X184s,b184_0,D184_0,ltI_nat,Nat.lt_irrefl,decide_false,cond_false];rfl)
 obtain ⟨n,h⟩:=key.get
 exact W184 a b n _ h
theorem c147 (a:Rw D88) (b:D88) (ha:a.n < 2 ^ 62):Ret 147 [S.t (T.rows 2 a.n fun i=>e88 (a.get i)),S.fn (Go.Fn.func 148) [] [S.pt (e88 b)]] (bb ((List.range a.n).any fun j=>strEq (a.at j).fKey b.fKey)):=by
 obtain ⟨y,hy,hK⟩:=yC_int (by kernel_rfl) (c184 a b ha)
 exact W147 a b 0 _ (by simp only [e147_in,hK,hy,idx_ge])
def sm88 (a:D88):Prop:=sm (sizeN a.fKey)∧sm (sizeN a.fVal)
def smR {α:Type} [Inhabited α] (p:α→Prop) (a:Rw α):Prop:=sm a.n∧∀ j,j < a.n→p (a.at j)
def taintV (a:Rw D88) (j:Nat):Int:=bif !nameB (a.at j).fKey then 7 else bif !valB (a.at j).fVal then 20 else bif (List.range j).any (fun i=>strEq (a.at i).fKey (a.at j).fKey) then 6 else 0
def taintsV (a:Rw D88):Int:=bif decide (4 < a.n) then 3 else firstE a.n (taintV a)
theorem c111 (a:Rw D88) (ha:smR sm88 a):Ret 111 [S.t (T.rows 2 a.n fun i=>e88 (a.get i))] (ii (taintsV a)):=by
 have hn:=sm_lt ha.1
 have key:=Ev.errsC (X:=fun m j=>(X111n (regs O) a m).x0 (j:Int)) 1 a.n (taintV a) (fun m j hj=>by
  have hj2:j < 2 ^ 62:=by omega
  obtain ⟨y,hy,hK⟩:=yC_bool (by kernel_rfl) (c101 (a.at j).fKey (ha.2 j hj).1)
  obtain ⟨z,hz,hL⟩:=yC_bool (by kernel_rfl) (c146 (a.at j).fVal (ha.2 j hj).2)
  obtain ⟨x,hx,hM⟩:=yC_bool (by kernel_rfl) (c147b (a.sub j (by omega)) (a.at j) (by rw [sub_n];omega))
  rw [any_sub (p:=fun (t:D88)=>strEq t.fKey (a.at j).fKey)] at hx
  simp only [Rw.sub] at hM
  simp only [X111n,X111s,b111_0,D111_0,ltI_nat,elemO_nat hj,get_nat,hj,decide_true,cond_true,addI_nat1 hj2,hK,hy,hL,hz,le_nat (Nat.le_of_lt hj),subO_nat (Nat.le_of_lt hj),hM,hx]
  unfold taintV
  cases nameB (a.at j).fKey<;>cases valB (a.at j).fVal<;>cases (List.range j).any (fun i=>strEq (a.at i).fKey (a.at j).fKey)<;>rfl) (fun m=>by
  simp only [X111n,X111s,b111_0,D111_0,ltI_nat,Nat.lt_irrefl,decide_false,cond_false])
 obtain ⟨n,h⟩:=key.get
 refine W111 a n _ ?_
 have e:gtI (ofN a.n) 4=decide (4 < a.n):=gtI_ofN (k:=4)
 unfold taintsV
 simp only [e111_in,e]
 cases decide (4 < a.n) with
 | true=>rfl
 | false=>exact h
end
end Go.Proofs.YtonkoellfaopiaaGreatDoor.H
namespace Go.Proofs.YtonkoellfaopiaaGreatDoor.H
open Go Go.Lib
def isDig (c:UInt8):Prop:=48≤c.toNat∧c.toNat≤57
instance (c:UInt8):Decidable (isDig c):=by unfold isDig;infer_instance
theorem decDigits_small {u:Nat} (h:u < 10):decDigits u=[UInt8.ofNat (48+u)]:=by rw [decDigits,dif_pos h]
theorem decDigits_big {u:Nat} (h:¬ u < 10):decDigits u=decDigits (u / 10)++[UInt8.ofNat (48+u % 10)]:=by rw [decDigits,dif_neg h]
theorem decDigits_len (k:Nat):∀ u,u < 10 ^ (k+1)→(decDigits u).length≤k+1:=by
 induction k with
 | zero=>
  intro u h
  rw [decDigits_small (by simpa using h)]
  simp
 | succ k ih=>
  intro u h
  by_cases h10:u < 10
  ·rw [decDigits_small h10]
   simp
  ·rw [decDigits_big h10,List.length_append]
   have:=ih (u / 10) (by rw [Nat.pow_succ] at h;omega)
   simp only [List.length_singleton]
   omega
theorem itoa_len {n:Int} (h0 : -2147483648≤n) (h1:n≤2147483648):(itoa n).length≤11:=by
 unfold itoa
 split
 ·have:=decDigits_len 9 n.natAbs (by omega)
  simp only [List.length_cons]
  omega
 ·have:=decDigits_len 9 n.toNat (by omega)
  omega
theorem i64_in {z:Int} (h : -9223372036854775808≤z∧z≤9223372036854775807):IntKind.i64.wrap z=z:=by
 rw [IntKind.wrap_i64]
 omega
theorem Ev.to {α:Type} {g:Nat→Option α} {v v':α} (h:Ev g v) (e:v=v'):Ev g v':=e ▸ h
theorem bytes_eq {a b:ByteArray} (h:a.data.toList=b.data.toList):a=b:=by
 cases a;cases b
 simpa using h
theorem strEq_data {a b:ByteArray}:strEq a b=decide (a.data.toList=b.data.toList):=by
 rw [Bool.eq_iff_iff,strEq_iff,decide_eq_true_eq]
 exact ⟨fun h=>by rw [h],bytes_eq⟩
theorem yC_str {f:FuncId} {args:List S} {x:ByteArray} (hs:shF O.P f=some (.str 0)) (h:Ret f args (ss x)):∃ y:Y,y.s 0=x∧∀ (ρ:Type) (K:Y→Option ρ),yC (regs O) f args K=K y:=by
 obtain ⟨y,h1,h2⟩:=yC_of (y0:=⟨fun _=>0,fun _=>false,fun _=>x,fun _=>⟨0,fun i=>i.elim0⟩,fun _=>[]⟩) hs h
 refine ⟨y,?_,h2⟩
 simpa [build] using h1
end Go.Proofs.YtonkoellfaopiaaGreatDoor.H
namespace Go.Proofs.YtonkoellfaopiaaGreatDoor.H
open Go
noncomputable section
theorem Ev.one {α:Type} {g:Nat→Option α} {v:α} (c:Nat) (h:∀ m,g (m+c)=some v):Ev g v:=Ev.add c ⟨0,fun m _=>h m⟩
theorem Ev.by {α:Type} {g g':Nat→Option α} {v:α} (c:Nat) (h:∀ m,g (m+c)=g' m) (h':Ev g' v):Ev g v:=Ev.add c (h'.of_eq h)
theorem eqI_ne {a:Int} (h:a≠0):eqI a 0=false:=eqI_false.2 h
def sm160 (a:D160):Prop:=sm (sizeN a.fKey)∧sm (sizeN a.fVal)
def eq160 (a b:D160):Bool:=strEq a.fKey b.fKey && (strEq a.fVal b.fVal && (eqB a.fAny b.fAny && true))
theorem strEq_comm {a b:ByteArray}:strEq a b=strEq b a:=by
 rw [Bool.eq_iff_iff,strEq_iff,strEq_iff]
 exact ⟨fun h=>h.symm,fun h=>h.symm⟩
theorem c189 (a:Rw D160) (b:D160) (ha:a.n < 2 ^ 62):Ret 189 [S.t (T.rows 3 a.n fun i=>e160 (a.get i)),ag (e160 b)] (ii (idx a.n fun j=>eq160 b (a.at j))):=by
 have key:=Ev.idxC (X:=fun m j=>(X189n (regs O) a b m).x0 (j:Int)) 1 a.n (fun j=>eq160 b (a.at j)) (fun m j hj=>by
  have hj2:j < 2 ^ 62:=by omega
  simp only [X189n,X189s,b189_0,D189_0,ltI_nat,elemO_nat hj,get_nat,hj,decide_true,cond_true,addI_nat1 hj2,eq160]) (fun m=>by
  simp only [X189n,X189s,b189_0,D189_0,ltI_nat,Nat.lt_irrefl,decide_false,cond_false];rfl)
 obtain ⟨n,h⟩:=key.get
 exact W189 a b n _ h
theorem c158 (a:Rw D160) (b:D160) (ha:a.n < 2 ^ 62):Ret 158 [S.t (T.rows 3 a.n fun i=>e160 (a.get i)),ag (e160 b)] (bb ((List.range a.n).any fun j=>eq160 b (a.at j))):=by
 obtain ⟨y,hy,hK⟩:=yC_int (by kernel_rfl) (c189 a b ha)
 exact W158 a b 0 _ (by simp only [e158_in,hK,hy,idx_ge])
def badT (x:D160):Bool:=(x.fAny && !strEq x.fVal (bs [])) || (!x.fAny && !valB x.fVal)
def tolV (a:Rw D160) (j:Nat):Int:=bif !nameB (a.at j).fKey then 7 else bif badT (a.at j) then 20 else bif (List.range j).any (fun i=>eq160 (a.at j) (a.at i)) then 6 else 0
def tolsV (a:Rw D160):Int:=bif decide (4 < a.n) then 3 else firstE a.n (tolV a)
theorem c120 (a:Rw D160) (ha:smR sm160 a):Ret 120 [S.t (T.rows 3 a.n fun i=>e160 (a.get i))] (ii (tolsV a)):=by
 have hn:=sm_lt ha.1
 have key:=Ev.errsC (X:=fun m j=>(X120n (regs O) a m).x0 (j:Int)) 3 a.n (tolV a) (fun m j hj=>by
  have hj2:j < 2 ^ 62:=by omega
  obtain ⟨y,hy,hK⟩:=yC_bool (by kernel_rfl) (c101 (a.at j).fKey (ha.2 j hj).1)
  obtain ⟨z,hz,hL⟩:=yC_bool (by kernel_rfl) (c146 (a.at j).fVal (ha.2 j hj).2)
  obtain ⟨x,hx,hM⟩:=yC_bool (by kernel_rfl) (c158 (a.sub j (by omega)) (a.at j) (by rw [sub_n];omega))
  rw [any_sub (p:=fun (t:D160)=>eq160 (a.at j) t)] at hx
  simp only [Rw.sub] at hM
  simp only [X120n,X120s,b120_0,b120_1,b120_2,D120_0,D120_1,D120_2,ltI_nat,elemO_nat hj,get_nat,hj,decide_true,cond_true,addI_nat1 hj2,hK,hy,hL,hz,le_nat (Nat.le_of_lt hj),subO_nat (Nat.le_of_lt hj),hM,hx]
  unfold tolV badT
  cases nameB (a.at j).fKey<;>cases (a.at j).fAny<;>cases strEq (a.at j).fVal (bs [])<;>cases valB (a.at j).fVal<;>cases (List.range j).any (fun i=>eq160 (a.at j) (a.at i))<;>rfl) (fun m=>by
  simp only [X120n,X120s,b120_0,D120_0,ltI_nat,Nat.lt_irrefl,decide_false,cond_false])
 obtain ⟨n,h⟩:=key.get
 refine W120 a n _ ?_
 have e:gtI (ofN a.n) 4=decide (4 < a.n):=gtI_ofN (k:=4)
 unfold tolsV
 simp only [e120_in,e]
 cases decide (4 < a.n) with
 | true=>rfl
 | false=>exact h
def orE (a b:Int):Int:=bif !eqI a 0 then a else b
theorem firstE_or {n:Nat} {g:Nat→Int} {r:Int}:((List.range n).findSome? fun j=>bif !(eqI (g j) 0) then some (ii (g j)) else none).getD (ii r)=ii (orE (firstE n g) r):=by
 unfold firstE
 generalize List.range n=l
 induction l with
 | nil=>rfl
 | cons j l ih=>
  simp only [List.findSome?_cons]
  cases h:eqI (g j) 0 with
  | false=>simp [orE,h]
  | true=>exact ih
theorem Ev.errsK {X:Nat→Nat→Option S} (n:Nat) (g:Nat→Int) (r:Int) (step:∀ j,j < n→(g j≠0→Ev (fun m=>X m j) (ii (g j)))∧(g j=0→∀ v,Ev (fun m=>X m (j+1)) v→Ev (fun m=>X m j) v))
  (stop:Ev (fun m=>X m n) (ii r)):Ev (fun m=>X m 0) (ii (orE (firstE n g) r)):=by
 have:=Ev.loopN (X:=X) n (fun j=>bif !(eqI (g j) 0) then some (ii (g j)) else none) (ii r) (fun j hj=>by
  obtain ⟨h1,h2⟩:=step j hj
  cases h:eqI (g j) 0 with
  | true=>exact ⟨fun e he=>(by cases he),fun _ v hv=>h2 (eqI_true.1 h) v hv⟩
  | false=>exact ⟨fun e he=>(by obtain rfl:=Option.some.inj he;exact h1 (eqI_false.1 h)),fun hn=>(by cases hn)⟩) stop
 rw [firstE_or] at this
 exact this
theorem Ev.errsKC {X:Nat→Nat→Option S} (c n:Nat) (g:Nat→Int) (r:Int) (step:∀ m j,j < n→X (m+c) j=bif !(eqI (g j) 0) then some (ii (g j)) else X m (j+1)) (stop:Ev (fun m=>X m n) (ii r)):Ev (fun m=>X m 0) (ii (orE (firstE n g) r)):=
 Ev.errsK n g r (fun j hj=>⟨fun h=>Ev.one c fun m=>by rw [step m j hj,eqI_ne h];rfl,fun h v hv=>Ev.by c (fun m=>by rw [step m j hj,h];rfl) hv⟩) stop
theorem firstL2 (a b:Int):firstL [a,b]=orE a b:=by
 unfold firstL firstL firstL orE
 cases h:eqI a 0 with
 | false=>rfl
 | true=>
  cases h':eqI b 0 with
  | false=>rfl
  | true=>rw [eqI_true.1 h'];rfl
def sm47 (a:D47):Prop:=sm (sizeN a.fType)∧sm (sizeN a.fZone)∧sm (sizeN a.fKind)
def eq47 (a b:D47):Bool:=strEq a.fType b.fType && (strEq a.fZone b.fZone && (strEq a.fKind b.fKind && true))
theorem c188 (a:Rw D47) (b:D47) (ha:a.n < 2 ^ 62):Ret 188 [S.t (T.rows 3 a.n fun i=>e47 (a.get i)),ag (e47 b)] (ii (idx a.n fun j=>eq47 b (a.at j))):=by
 have key:=Ev.idxC (X:=fun m j=>(X188n (regs O) a b m).x0 (j:Int)) 1 a.n (fun j=>eq47 b (a.at j)) (fun m j hj=>by
  have hj2:j < 2 ^ 62:=by omega
  simp only [X188n,X188s,b188_0,D188_0,ltI_nat,elemO_nat hj,get_nat,hj,decide_true,cond_true,addI_nat1 hj2,eq47]) (fun m=>by
  simp only [X188n,X188s,b188_0,D188_0,ltI_nat,Nat.lt_irrefl,decide_false,cond_false];rfl)
 obtain ⟨n,h⟩:=key.get
 exact W188 a b n _ h
theorem c155 (a:Rw D47) (b:D47) (ha:a.n < 2 ^ 62):Ret 155 [S.t (T.rows 3 a.n fun i=>e47 (a.get i)),ag (e47 b)] (bb ((List.range a.n).any fun j=>eq47 b (a.at j))):=by
 obtain ⟨y,hy,hK⟩:=yC_int (by kernel_rfl) (c188 a b ha)
 exact W155 a b 0 _ (by simp only [e155_in,hK,hy,idx_ge])
def named47 (a:D47):Bool:=nameB a.fType && (nameB a.fZone && nameB a.fKind)
def offerV (a:Rw D47) (j:Nat):Int:=bif !named47 (a.at j) then 7 else bif (List.range j).any (fun i=>eq47 (a.at j) (a.at i)) then 6 else 0
def offersV (a:Rw D47):Int:=bif decide (72 < a.n) then 3 else firstE a.n (offerV a)
theorem c114 (a:Rw D47) (ha:smR sm47 a):Ret 114 [S.t (T.rows 3 a.n fun i=>e47 (a.get i))] (ii (offersV a)):=by
 have hn:=sm_lt ha.1
 have key:=Ev.errsC (X:=fun m j=>(X114n (regs O) a m).x0 (j:Int)) 1 a.n (offerV a) (fun m j hj=>by
  have hj2:j < 2 ^ 62:=by omega
  obtain ⟨h1,h2,h3⟩:=ha.2 j hj
  obtain ⟨y,hy,hK⟩:=yC_bool (by kernel_rfl) (c109 [(a.at j).fType,(a.at j).fZone,(a.at j).fKind] (show (3:Nat) < 2 ^ 62 by decide) (fun x hx=>by
   simp only [List.mem_cons,List.not_mem_nil,or_false] at hx
   rcases hx with rfl | rfl | rfl
   ·exact h1
   ·exact h2
   ·exact h3))
  have hK:∀ (ρ:Type) (K:Y→Option ρ),yC (regs O) 109 [S.t (T.rows 1 3 fun i=>List.take 1 (List.drop (i.1*1) (e47 (a.at j))))] K=K y:=hK
  have hy:y.b 0=named47 (a.at j):=by rw [hy];simp only [List.all_cons,List.all_nil,Bool.and_true,named47]
  obtain ⟨z,hz,hL⟩:=yC_int (by kernel_rfl) (c108 (named47 (a.at j)) 7)
  obtain ⟨x,hx,hM⟩:=yC_bool (by kernel_rfl) (c155 (a.sub j (by omega)) (a.at j) (by rw [sub_n];omega))
  rw [any_sub (p:=fun (t:D47)=>eq47 (a.at j) t)] at hx
  simp only [Rw.sub] at hM
  generalize hq:(List.range j).any (fun i=>eq47 (a.at j) (a.at i))=q at hx
  obtain ⟨w,hw,hN⟩:=yC_int (by kernel_rfl) (c108 (!q) 6)
  obtain ⟨u,hu,hP⟩:=yC_int (by kernel_rfl) (c107 [bif named47 (a.at j) then 0 else 7,bif !q then 0 else 6] (show (2:Nat) < 2 ^ 62 by decide))
  have hP:∀ (ρ:Type) (K:Y→Option ρ),yC (regs O) 107 [S.t (T.rows 1 2 fun i=>List.take 1 (List.drop (i.1*1) [ti (bif named47 (a.at j) then 0 else 7),ti (bif !q then 0 else 6)]))] K=K u:=hP
  simp only [X114n,X114s,b114_0,D114_0,ltI_nat,elemO_nat hj,get_nat,hj,decide_true,cond_true,addI_nat1 hj2,hK,hy,hL,hz,le_nat (Nat.le_of_lt hj),subO_nat (Nat.le_of_lt hj),hM,hx,hN,hw,hP,hu,firstL2]
  unfold offerV
  rw [hq]
  cases named47 (a.at j)<;>cases q<;>rfl) (fun m=>by
  simp only [X114n,X114s,b114_0,D114_0,ltI_nat,Nat.lt_irrefl,decide_false,cond_false])
 obtain ⟨n,h⟩:=key.get
 refine W114 a n _ ?_
 have e:gtI (ofN a.n) 72=decide (72 < a.n):=gtI_ofN (k:=72)
 unfold offersV
 simp only [e114_in,e]
 cases decide (72 < a.n) with
 | true=>rfl
 | false=>exact h
def zoneS:ByteArray:=bs [122,111,110,101]
def hostS:ByteArray:=bs [104,111,115,116]
def keyB (a:ByteArray):Bool:=strEq a zoneS || strEq a hostS
def termV (a b:ByteArray):Int:=bif !keyB a then 1 else bif !nameB b then 7 else 0
theorem ret1 {a:ByteArray} (ha:sm (sizeN a)):∃ y:Y,y.b 0=nameB a∧∀ (ρ:Type) (K:Y→Option ρ),yC (regs O) 109 [S.t (T.rows 1 1 fun i=>List.take 1 (List.drop (i.1*1) [ts a]))] K=K y:=by
 obtain ⟨y,hy,hK⟩:=yC_bool (by kernel_rfl) (c109 [a] (show (1:Nat) < 2 ^ 62 by decide) (fun x hx=>by simp only [List.mem_singleton] at hx;rw [hx];exact ha))
 exact ⟨y,by rw [hy];simp,hK⟩
theorem retF2 (a b:Int):∃ y:Y,y.i 0=orE a b∧∀ (ρ:Type) (K:Y→Option ρ),yC (regs O) 107 [S.t (T.rows 1 2 fun i=>List.take 1 (List.drop (i.1*1) [ti a,ti b]))] K=K y:=by
 obtain ⟨y,hy,hK⟩:=yC_int (by kernel_rfl) (c107 [a,b] (show (2:Nat) < 2 ^ 62 by decide))
 exact ⟨y,by rw [hy,firstL2],hK⟩
theorem c159 (a b:ByteArray) (hb:sm (sizeN b)):Ret 159 [ss a,ss b] (ii (termV a b)):=by
 obtain ⟨y,hy,hK⟩:=yC_int (by kernel_rfl) (c108 (keyB a) 1)
 obtain ⟨z,hz,hL⟩:=ret1 hb
 obtain ⟨x,hx,hM⟩:=yC_int (by kernel_rfl) (c108 (nameB b) 7)
 obtain ⟨w,hw,hN⟩:=retF2 (bif keyB a then 0 else 1) (bif nameB b then 0 else 7)
 refine W159 a b 1 _ ?_
 have e:e159_in (regs O) a b (D159_0 (X159n (regs O) a b 1))=(X159n (regs O) a b 1).x0 (keyB a):=by
  unfold e159_in keyB zoneS hostS D159_0
  cases strEq a (bs [122,111,110,101])<;>rfl
 rw [e]
 simp only [X159n,X159s,b159_0,hK,hy,hL,hz,hM,hx,hN,hw]
 unfold termV
 cases keyB a<;>cases nameB b<;>rfl
def sm138 (a:D138):Prop:=sm (sizeN a.fKey)∧sm (sizeN a.fApp)
def termsE (a:Rw D138):Int:=firstE a.n fun j=>termV (a.at j).fKey (a.at j).fApp
def sm70 (a:D70):Prop:=sm (sizeN a.fKey)∧sm (sizeN a.fApp)
def spreadV (x:D70):Int:=orE (termV x.fKey x.fApp) (bif geI x.fSkew 1 && leI x.fSkew 16 then 0 else 1)
def many3 (a:D61):Bool:=decide (3 < a.fSpread.n) || (decide (3 < a.fNear.n) || decide (3 < a.fApart.n))
def termsV (a:D61):Int:=bif many3 a then 3 else orE (firstE a.fSpread.n fun j=>spreadV (a.fSpread.at j)) (orE (termsE a.fNear) (termsE a.fApart))
theorem c121 (a:D61) (h1:smR sm70 a.fSpread) (h2:smR sm138 a.fNear) (h3:smR sm138 a.fApart):Ret 121 [ag (e61 a)] (ii (termsV a)):=by
 have hn1:=sm_lt h1.1
 have hn2:=sm_lt h2.1
 have hn3:=sm_lt h3.1
 have k6:Ev (fun m=>(X121n (regs O) a m).x6) (ii 0):=Ev.one 1 fun m=>by simp only [X121n,X121s,b121_6]
 have k5:Ev (fun m=>(X121n (regs O) a m).x5 0) (ii (orE (termsE a.fApart) 0)):=
  Ev.errsKC (X:=fun m j=>(X121n (regs O) a m).x5 (j:Int)) 1 a.fApart.n (fun j=>termV (a.fApart.at j).fKey (a.fApart.at j).fApp) 0 (fun m j hj=>by
   obtain ⟨y,hy,hK⟩:=yC_int (by kernel_rfl) (c159 (a.fApart.at j).fKey (a.fApart.at j).fApp (h3.2 j hj).2)
   have hK:∀ (ρ:Type) (K:Y→Option ρ),yC (regs O) 159 (List.map S.t (e138 (a.fApart.at j))) K=K y:=hK
   simp only [X121n,X121s,b121_5,D121_5,ltI_nat,elemO_nat hj,get_nat,hj,decide_true,cond_true,addI_nat1 (show j < 2 ^ 62 by omega),hK,hy]) (Ev.by 1 (fun m=>by
   simp only [X121n,X121s,b121_5,D121_6,ltI_nat,Nat.lt_irrefl,decide_false,cond_false]) k6)
 have k4:Ev (fun m=>(X121n (regs O) a m).x4) (ii (orE (termsE a.fApart) 0)):=Ev.by 1 (fun m=>by simp only [X121n,X121s,b121_4,D121_5]) k5
 have k3:Ev (fun m=>(X121n (regs O) a m).x3 0) (ii (orE (termsE a.fNear) (orE (termsE a.fApart) 0))):=
  Ev.errsKC (X:=fun m j=>(X121n (regs O) a m).x3 (j:Int)) 1 a.fNear.n (fun j=>termV (a.fNear.at j).fKey (a.fNear.at j).fApp) _ (fun m j hj=>by
   obtain ⟨y,hy,hK⟩:=yC_int (by kernel_rfl) (c159 (a.fNear.at j).fKey (a.fNear.at j).fApp (h2.2 j hj).2)
   have hK:∀ (ρ:Type) (K:Y→Option ρ),yC (regs O) 159 (List.map S.t (e138 (a.fNear.at j))) K=K y:=hK
   simp only [X121n,X121s,b121_3,D121_3,ltI_nat,elemO_nat hj,get_nat,hj,decide_true,cond_true,addI_nat1 (show j < 2 ^ 62 by omega),hK,hy]) (Ev.by 1 (fun m=>by
   simp only [X121n,X121s,b121_3,D121_4,ltI_nat,Nat.lt_irrefl,decide_false,cond_false]) k4)
 have k1:Ev (fun m=>(X121n (regs O) a m).x1) (ii (orE (termsE a.fNear) (orE (termsE a.fApart) 0))):=Ev.by 1 (fun m=>by simp only [X121n,X121s,b121_1,D121_3]) k3
 have k0:Ev (fun m=>(X121n (regs O) a m).x0 0) (ii (orE (firstE a.fSpread.n fun j=>spreadV (a.fSpread.at j)) (orE (termsE a.fNear) (orE (termsE a.fApart) 0)))):=
  Ev.errsKC (X:=fun m j=>(X121n (regs O) a m).x0 (j:Int)) 2 a.fSpread.n (fun j=>spreadV (a.fSpread.at j)) _ (fun m j hj=>by
   obtain ⟨y,hy,hK⟩:=yC_int (by kernel_rfl) (c159 (a.fSpread.at j).fKey (a.fSpread.at j).fApp (h1.2 j hj).2)
   obtain ⟨z,hz,hL⟩:=yC_int (by kernel_rfl) (c108 (geI (a.fSpread.at j).fSkew 1 && leI (a.fSpread.at j).fSkew 16) 1)
   obtain ⟨w,hw,hN⟩:=retF2 (termV (a.fSpread.at j).fKey (a.fSpread.at j).fApp) (bif geI (a.fSpread.at j).fSkew 1 && leI (a.fSpread.at j).fSkew 16 then 0 else 1)
   have e:(X121n (regs O) a (m+2)).x0 (j:Int)=(X121n (regs O) a (m+1)).x2 (termV (a.fSpread.at j).fKey (a.fSpread.at j).fApp) (geI (a.fSpread.at j).fSkew 1 && leI (a.fSpread.at j).fSkew 16) (j:Int):=by
    simp only [X121n,X121s,b121_0,D121_2,ltI_nat,elemO_nat hj,get_nat,hj,decide_true,cond_true,hK,hy]
    cases geI (a.fSpread.at j).fSkew 1<;>simp only [cond_true,cond_false,Bool.true_and,Bool.false_and]
   show (X121n (regs O) a (m+2)).x0 (j:Int)=_
   rw [e]
   simp only [X121n,X121s,b121_2,D121_0,hL,hz,hN,hw,addI_nat1 (show j < 2 ^ 62 by omega)]
   rfl) (Ev.by 1 (fun m=>by
   simp only [X121n,X121s,b121_0,D121_1,ltI_nat,Nat.lt_irrefl,decide_false,cond_false]) k1)
 have e0:orE (termsE a.fApart) 0=termsE a.fApart:=by
  unfold orE
  cases h:eqI (termsE a.fApart) 0 with
  | false=>rfl
  | true=>exact (eqI_true.1 h).symm
 rw [e0] at k0
 obtain ⟨n,h⟩:=k0.get
 refine W121 a n _ ?_
 have hm:∀ x y z:Nat,gtI (Bool.rec ((fun _=>bif true then bif decide (ofN y > ofN x) then ofN y else ofN x else bif decide (ofN y < ofN x) then ofN y else ofN x) ()) ((fun _=>ofN z) ()) (decide (ofN z > bif true then bif decide (ofN y > ofN x) then ofN y else ofN x else bif decide (ofN y < ofN x) then ofN y else ofN x))) 3=(decide (3 < x) || (decide (3 < y) || decide (3 < z))):=fun x y z=>by
  unfold gtI ofN
  simp only [cond_true]
  by_cases c1:(y:Int) > x
  ·simp only [c1,decide_true,cond_true]
   by_cases c2:(z:Int) > y
   ·simp only [c2,decide_true]
    rw [Bool.eq_iff_iff];simp;omega
   ·simp only [c2,decide_false]
    rw [Bool.eq_iff_iff];simp;omega
  ·simp only [c1,decide_false,cond_false]
   by_cases c2:(z:Int) > x
   ·simp only [c2,decide_true]
    rw [Bool.eq_iff_iff];simp;omega
   ·simp only [c2,decide_false]
    rw [Bool.eq_iff_iff];simp;omega
 unfold termsV
 unfold e121_in
 rw [hm]
 unfold many3
 cases (decide (3 < a.fSpread.n) || (decide (3 < a.fNear.n) || decide (3 < a.fApart.n))) with
 | true=>rfl
 | false=>exact h
def encT (l:List ByteArray):List (S × S):=l.map fun s=>(ss s,bb true)
theorem eqKey9 (a b:ByteArray):eqKey O.P O.K 9 (ss a) (ss b)=some (strEq a b):=by kernel_rfl
theorem findT_cons (b s:ByteArray) (l:List ByteArray) (i:Nat):findS O.P O.K 9 (ss b) (encT (s::l)) i=bif strEq b s then some (some (i,bb true)) else findS O.P O.K 9 (ss b) (encT l) (i+1):=by
 show (eqKey O.P O.K 9 (ss b) (ss s)).bind _=_
 rw [eqKey9]
 rfl
theorem findT (b:ByteArray):∀ (l:List ByteArray) (i:Nat),(l.any (strEq b)=false→findS O.P O.K 9 (ss b) (encT l) i=some none)∧(l.any (strEq b)=true→∃ k,findS O.P O.K 9 (ss b) (encT l) i=some (some (k,bb true)))
 | [],i=>⟨fun _=>rfl,fun h=>absurd h (by simp)⟩
 | s::l,i=>by
  obtain ⟨h1,h2⟩:=findT b l (i+1)
  rw [findT_cons]
  simp only [List.any_cons]
  cases h:strEq b s with
  | true=>exact ⟨fun h=>absurd h (by simp),fun _=>⟨i,rfl⟩⟩
  | false=>exact ⟨h1,h2⟩
theorem shV4:shV O.P 4 0=some (.bool 0,1):=by kernel_rfl
theorem lookT {ρ:Type} (b:ByteArray) (l:List ByteArray):(l.any (strEq b)=false→∀ (Kt:Y→Option ρ) (Kf:Option ρ),lookW O.P O.K 9 4 (encT l) (ss b) Kt Kf=Kf)∧(l.any (strEq b)=true→∃ y:Y,y.b 0=true∧∀ (Kt:Y→Option ρ) (Kf:Option ρ),lookW O.P O.K 9 4 (encT l) (ss b) Kt Kf=Kt y):=by
 refine ⟨fun h Kt Kf=>?_,fun h=>?_⟩
 ·unfold lookW
  rw [shV4,(findT b l 0).1 h]
 ·obtain ⟨k,hk⟩:=(findT b l 0).2 h
  obtain ⟨y,hy,he⟩:=unb_build (sh:=.bool 0) (y:=yB true)
  have hb:build (yB true) (.bool 0)=bb true:=rfl
  rw [hb] at hy he
  have he2:y.b 0=true:=by simpa [build] using he
  refine ⟨y,he2,fun Kt Kf=>?_⟩
  unfold lookW
  rw [shV4,hk]
  dsimp only
  rw [hy]
  rfl
theorem updT {ρ:Type} {l:List ByteArray} {b:ByteArray} (h:l.any (strEq b)=false) (K:List (S × S)→Option ρ):updW O.P O.K 9 (encT l) (ss b) (bb true) K=K (encT (l++[b])):=by
 unfold updW
 rw [(findT b l 0).1 h]
 simp [encT]
theorem close_one (get:Nat→Option B) (d:Nat) (s:ByteArray):closeS get (d+10) (ss s)=some (ss s,[]):=rfl
theorem close_true (get:Nat→Option B) (d:Nat):closeS get (d+10) (bb true)=some (bb true,[]):=rfl
theorem closeE_T (get:Nat→Option B):∀ (l:List ByteArray) (d:Nat),closeE get (d+11+l.length) (encT l)=some (encT l,[])
 | [],d=>rfl
 | p::l,d=>by
  have e:d+11+(p::l).length=(d+11+l.length)+1:=by simp;omega
  rw [e]
  show closeE get ((d+11+l.length)+1) ((ss p,bb true)::encT l)=_
  unfold closeE
  have e2:d+11+l.length=(d+1+l.length)+10:=by omega
  have h1:=close_one get (d+1+l.length) p
  have h2:=close_true get (d+1+l.length)
  rw [← e2] at h1 h2
  simp only [h1,h2,closeE_T get l d]
  rfl
theorem flatD {ρ:Type} {d:Nat} {l:List ByteArray} {K:Option ρ} (h:l.length+11≤d):flatW d (encT l) K=K:=by
 unfold flatW
 refine if_pos ⟨fun get=>?_,?_,fun m=>?_⟩
 ·have:=closeE_T get l (d - 11 - l.length)
  rwa [show d - 11 - l.length+11+l.length=d by omega] at this
 ·clear h
  induction l with
  | nil=>rfl
  | cons p l ih=>
   show refsE ((ss p,bb true)::encT l)=[]
   unfold refsE
   rw [ih]
   rfl
 ·clear h
  induction l with
  | nil=>rfl
  | cons p l ih=>
   show renE m ((ss p,bb true)::encT l)=_
   unfold renE
   rw [ih]
   rfl
theorem flatT {ρ:Type} {l:List ByteArray} {K:Option ρ} (h:l.length≤800):flatW 900 (encT l) K=K:=flatD (by omega)
theorem findT2 (b:ByteArray):∀ (l:List ByteArray) (i:Nat),l.any (strEq b)=true→∃ k,findS O.P O.K 9 (ss b) (encT l) i=some (some (i+k,bb true))∧setE (encT l) k (ss b) (bb true)=encT l
 | [],i,h=>absurd h (by simp)
 | s::l,i,h=>by
  rw [findT_cons]
  cases he:strEq b s with
  | true=>
   obtain rfl:=strEq_iff.1 he
   exact ⟨0,rfl,rfl⟩
  | false=>
   rw [List.any_cons,he,Bool.false_or] at h
   obtain ⟨k,h1,h2⟩:=findT2 b l (i+1) h
   refine ⟨k+1,?_,?_⟩
   ·rw [cond_false,h1]
    congr 3
    omega
   ·show (ss s,bb true)::setE (encT l) k (ss b) (bb true)=_
    rw [h2];rfl
def addL (l:List ByteArray) (b:ByteArray):List ByteArray:=bif l.any (strEq b) then l else l++[b]
theorem updA {ρ:Type} (l:List ByteArray) (b:ByteArray) (K:List (S × S)→Option ρ):updW O.P O.K 9 (encT l) (ss b) (bb true) K=K (encT (addL l b)):=by
 cases h:l.any (strEq b) with
 | false=>rw [updT h];unfold addL;rw [h];rfl
 | true=>
  obtain ⟨k,h1,h2⟩:=findT2 b l 0 h
  unfold updW addL
  rw [h1,h]
  dsimp only
  rw [Nat.zero_add,h2];rfl
theorem yC_map {f:FuncId} {args:List S} {m:List (S × S)} (hs:shF O.P f=some (.mt 0)) (h:Ret f args (S.mt m)):∃ y:Y,y.m 0=m∧∀ (ρ:Type) (K:Y→Option ρ),yC (regs O) f args K=K y:=by
 obtain ⟨y,h1,h2⟩:=yC_of (y0:=⟨fun _=>0,fun _=>false,fun _=>⟨#[]⟩,fun _=>⟨0,fun i=>i.elim0⟩,fun _=>m⟩) hs h
 refine ⟨y,?_,h2⟩
 simpa [build] using h1
end
end Go.Proofs.YtonkoellfaopiaaGreatDoor.H
namespace Go.Proofs.YtonkoellfaopiaaGreatDoor.H
open Go Go.Lib
noncomputable section
def sm68 (a:D68):Prop:=sm (sizeN a.fKey)∧smR (fun x:ByteArray=>sm (sizeN x)) a.fVals
def dupB (a:Rw ByteArray):Bool:=(List.range a.n).any fun j=>(List.range j).any fun i=>strEq (a.at i) (a.at j)
def vlsV (a:Rw ByteArray):Int:=bif gtI (ofN a.n) 8 then 3 else bif (List.range a.n).any (fun j=>!valB (a.at j)) then 20 else bif dupB a then 6 else 0
def opBad (x:D68):Bool:=(ltI x.fOp 1 || gtI x.fOp 6) || (!eqB (eqI x.fOp 1 || eqI x.fOp 2) (gtI (ofN x.fVals.n) 0) || ((!(eqI x.fOp 5 || eqI x.fOp 6) && !eqI x.fN 0) || (ltI x.fN (-2147483648) || gtI x.fN 2147483648)))
def reqV (x:D68):Int:=bif !nameB x.fKey then 7 else bif opBad x then 30 else vlsV x.fVals
def reqsV (a:Rw D68):Int:=bif gtI (ofN a.n) 8 then 3 else firstE a.n fun j=>reqV (a.at j)
theorem c229 (a:ByteArray) (ha:sm (sizeN a)):Ret 229 [ss a] (bb (!valB a)):=by
 obtain ⟨y,hy,hK⟩:=yC_bool (by kernel_rfl) (c146 a ha)
 exact W229 a 0 _ (by simp only [e229_in,hK,hy])
theorem c186c (a:Rw ByteArray) (ha:smR (fun x:ByteArray=>sm (sizeN x)) a):Ret 186 [S.t (T.rows 1 a.n fun i=>[ts (a.get i)]),S.t (T.v (.func (Go.Fn.func 229) #[] #[]))] (ii (idx a.n fun j=>!valB (a.at j))):=by
 have hn:=sm_lt ha.1
 have key:=Ev.idxC (X:=fun m j=>(X186bn (regs O) a m).x0 (j:Int)) 1 a.n (fun j=>!valB (a.at j)) (fun m j hj=>by
  have hj2:j < 2 ^ 62:=by omega
  obtain ⟨y,hy,hK⟩:=yC_bool (by kernel_rfl) (c229 (a.at j) (ha.2 j hj))
  simp only [X186bn,X186bs,b186b_0,D186b_0,ltI_nat,elemO_nat hj,get_nat,hj,decide_true,cond_true,addI_nat1 hj2,hK,hy]) (fun m=>by
  simp only [X186bn,X186bs,b186b_0,D186b_0,ltI_nat,Nat.lt_irrefl,decide_false,cond_false];rfl)
 obtain ⟨n,h⟩:=key.get
 exact W186b a n _ h
theorem c151c (a:Rw ByteArray) (ha:smR (fun x:ByteArray=>sm (sizeN x)) a):Ret 151 [S.t (T.rows 1 a.n fun i=>[ts (a.get i)]),S.t (T.v (.func (Go.Fn.func 229) #[] #[]))] (bb ((List.range a.n).any fun j=>!valB (a.at j))):=by
 obtain ⟨y,hy,hK⟩:=yC_int (by kernel_rfl) (c186c a ha)
 exact W151b a 0 _ (by simp only [e151b_in,hK,hy,idx_ge])
def grp (a:Rw ByteArray):Nat→List ByteArray
 | 0=>[]
 | j+1=>addL (grp a j) (a.at j)
theorem addL_any (l:List ByteArray) (b c:ByteArray):(addL l b).any (strEq c)=(l.any (strEq c) || strEq c b):=by
 unfold addL
 cases h:l.any (strEq b) with
 | false=>simp [List.any_append]
 | true=>
  rw [cond_true]
  cases hc:strEq c b with
  | false=>rw [Bool.or_false]
  | true=>obtain rfl:=strEq_iff.1 hc;rw [h];rfl
theorem grp_any (a:Rw ByteArray) (b:ByteArray):∀ j,(grp a j).any (strEq b)=(List.range j).any fun i=>strEq b (a.at i)
 | 0=>rfl
 | j+1=>by
  rw [List.range_succ,List.any_append,← grp_any a b j]
  show (addL (grp a j) (a.at j)).any (strEq b)=_
  rw [addL_any]
  simp
theorem grp_len (a:Rw ByteArray):∀ j,(grp a j).length≤j∧decide ((grp a j).length < j)=(List.range j).any fun k=>(List.range k).any fun i=>strEq (a.at i) (a.at k)
 | 0=>⟨Nat.le_refl _,rfl⟩
 | j+1=>by
  obtain ⟨h1,h2⟩:=grp_len a j
  rw [List.range_succ,List.any_append,← h2]
  have hc:((List.range j).any fun i=>strEq (a.at i) (a.at j))=(grp a j).any (strEq (a.at j)):=by
   rw [grp_any]
   exact List.any_congr rfl fun i=>strEq_comm
  simp only [List.any_cons,List.any_nil,Bool.or_false,hc]
  show (addL (grp a j) (a.at j)).length≤j+1∧decide ((addL (grp a j) (a.at j)).length < j+1)=_
  unfold addL
  cases (grp a j).any (strEq (a.at j)) with
  | true=>simp only [cond_true,Bool.or_true,decide_eq_true_eq];omega
  | false=>
   simp only [cond_false,Bool.or_false,List.length_append,List.length_cons,List.length_nil,Nat.zero_add]
   refine ⟨by omega,?_⟩
   by_cases h:(grp a j).length < j
   ·simp [h]
   ·simp [h]
theorem noTwice_app (l:List ByteArray) (b:ByteArray):noTwice (l++[b])=(noTwice l && !l.any (strEq b)):=by
 induction l with
 | nil=>rfl
 | cons k l ih=>
  show (!(l++[b]).any (strEq k) && noTwice (l++[b]))=(!l.any (strEq k) && noTwice l && !(strEq b k || l.any (strEq b)))
  rw [ih,List.any_append,@strEq_comm b k]
  simp only [List.any_cons,List.any_nil,Bool.or_false]
  cases l.any (strEq k)<;>cases noTwice l<;>cases strEq k b<;>cases l.any (strEq b)<;>rfl
theorem noTwice_add {l:List ByteArray} (b:ByteArray) (h:noTwice l=true):noTwice (addL l b)=true:=by
 unfold addL
 cases hb:l.any (strEq b) with
 | true=>exact h
 | false=>rw [cond_false,noTwice_app,h,hb];rfl
theorem grp_noTwice (a:Rw ByteArray):∀ j,noTwice (grp a j)=true
 | 0=>rfl
 | j+1=>noTwice_add _ (grp_noTwice a j)
theorem addL_all {p:ByteArray→Bool} {l:List ByteArray} {b:ByteArray} (h:l.all p=true) (hb:p b=true):(addL l b).all p=true:=by
 unfold addL
 cases l.any (strEq b) with
 | true=>exact h
 | false=>rw [cond_false,List.all_append,h];simp [hb]
theorem grp_all (a:Rw ByteArray) {p:ByteArray→Bool}:∀ j,(∀ i,i < j→p (a.at i)=true)→(grp a j).all p=true
 | 0,_=>rfl
 | j+1,h=>addL_all (grp_all a j fun i hi=>h i (by omega)) (h j (by omega))
theorem lenE_T (l:List ByteArray):lenE (encT l)=l.length:=by unfold lenE encT;simp
theorem matT {ρ:Type} (l:List ByteArray) (K:Option ρ):matW (encT l) K=K:=by
 unfold matW
 refine if_pos ?_
 show (encT l).all _=true
 rw [List.all_eq_true]
 intro e he
 obtain ⟨s,_,rfl⟩:=List.mem_map.1 he
 rfl
theorem c217 (a:Rw ByteArray) (hn:a.n≤800):Ret 217 [S.t (T.rows 1 1 fun i=>List.take 1 (List.drop (i.1*1) [T.rows 1 a.n fun i=>[ts (a.get i)]]))] (.mt (encT (grp a a.n))):=by
 have inner:∀ (k j:Nat),j+k=a.n→Ev (fun m=>(X217n (regs O) (rwL [a]) m).x1 (ofN a.n) a (j:Int) (encT (grp a j)) 0) (.mt (encT (grp a a.n))):=by
  intro k
  induction k with
  | zero=>
   intro j hj
   obtain rfl:j=a.n:=by omega
   have hl:=(grp_len a a.n).1
   refine Ev.add 2 ⟨0,fun m _=>?_⟩
   show (X217n (regs O) (rwL [a]) (m+2)).x1 (ofN a.n) a ((a.n:Nat):Int) (encT (grp a a.n)) 0=_
   rw [X217n]
   simp only [X217s,b217_1,ltI_nat,Nat.lt_irrefl,decide_false,cond_false,flatT (show (grp a a.n).length≤800 by omega)]
   show (X217n (regs O) (rwL [a]) (m+1)).x0 1 (encT (grp a a.n))=_
   rw [X217n]
   have h1:ltI 1 (ofN (rwL [a]).n)=false:=rfl
   simp only [X217s,b217_0,h1,cond_false,flatT (show (grp a a.n).length≤800 by omega),flatD (d:=999) (show (grp a a.n).length+11≤999 by omega)]
  | succ k ih=>
   intro j hj
   have hj1:j < a.n:=by omega
   have hl:=(grp_len a (j+1)).1
   refine Ev.succ ((ih (j+1) (by omega)).of_eq fun m=>?_)
   rw [X217n]
   simp only [X217s,b217_1,D217_1,ltI_nat,hj1,decide_true,cond_true,elemO_nat hj1,get_nat,updA,addI_nat1 (show j < 2 ^ 62 by omega)]
   show flatW 900 (encT (grp a (j+1))) _=_
   rw [flatT (show (grp a (j+1)).length≤800 by omega)]
   rfl
 have key:Ev (fun m=>(X217n (regs O) (rwL [a]) m).x0 0 []) (.mt (encT (grp a a.n))):=by
  refine Ev.succ ((inner a.n 0 (by omega)).of_eq fun m=>?_)
  rw [X217n]
  have h1:ltI 0 (ofN (rwL [a]).n)=true:=rfl
  simp only [X217s,b217_0,D217_1,h1,cond_true]
  have f:∀ K:Option S,flatW 900 [] K=K:=fun K=>flatT (l:=[]) (by decide)
  show elemO 0 1 (fun h=>flatW 900 [] _)=_
  rw [elemO_pos (by decide) (by decide),f]
  rfl
 obtain ⟨n,h⟩:=key.get
 have e:(fun i:Fin 1=>List.take 1 (List.drop (i.1*1) [T.rows 1 a.n fun i=>[ts (a.get i)]]))=fun i:Fin (rwL [a]).n=>e31 ((rwL [a]).get i):=lit1 [a] (fun x=>T.rows 1 x.n fun i=>[ts (x.get i)])
 rw [e]
 refine W217 (rwL [a]) n _ ?_
 show flatW 900 [] ((X217n (regs O) (rwL [a]) n).x0 0 [])=_
 have f:∀ K:Option S,flatW 900 [] K=K:=fun K=>flatT (l:=[]) (by decide)
 rw [f];exact h
theorem c217b:Ret 217 [S.t (T.v (.slice none 0 0))] (.mt []):=by
 have f:∀ K:Option S,flatW 900 [] K=K:=fun K=>flatT (l:=[]) (by decide)
 have g:∀ K:Option S,flatW 999 [] K=K:=fun K=>flatD (d:=999) (l:=[]) (by decide)
 refine W217b 1 _ ?_
 show flatW 900 [] (flatW 900 [] (flatW 999 [] (some (S.mt []))))=_
 rw [f,f,g]
theorem c215 (x:D68) (hx:sm68 x):Ret 215 [ag (e68 x)] (ii (reqV x)):=by
 obtain ⟨y1,hy1,hK1⟩:=yC_bool (by kernel_rfl) (c101 x.fKey hx.1)
 obtain ⟨y2,hy2,hK2⟩:=yC_bool (by kernel_rfl) (c151c x.fVals hx.2)
 have rest:(bif gtI (ofN x.fVals.n) 8 then some (ii 3) else yC (regs O) 151 [S.t (T.rows 1 x.fVals.n fun i=>[ts (x.fVals.get i)]),S.t (T.v (.func (Go.Fn.func 229) (Array.mk []) (Array.mk [])))] fun y=>bif y.b 0 then some (ii 20) else yC (regs O) 217 [S.t (T.rows 1 1 fun i=>List.take 1 (List.drop (i.1*1) [T.rows 1 x.fVals.n fun i=>[ts (x.fVals.get i)]]))] fun y=>matW (y.m 0) (bif ltI (ofN (lenE (y.m 0))) (ofN x.fVals.n) then some (ii 6) else some (ii 0)))=some (ii (vlsV x.fVals)):=by
  unfold vlsV
  have e:gtI (ofN x.fVals.n) 8=decide (8 < x.fVals.n):=gtI_ofN (k:=8)
  by_cases h:8 < x.fVals.n
  ·rw [e];simp [h]
  ·obtain ⟨y3,hy3,hK3⟩:=yC_map (by kernel_rfl) (c217 x.fVals (by omega))
   have hd:ltI (ofN (grp x.fVals x.fVals.n).length) (ofN x.fVals.n)=dupB x.fVals:=by
    unfold dupB
    rw [← (grp_len x.fVals x.fVals.n).2]
    exact ltI_nat
   rw [e,hK2,hy2,hK3,hy3,matT,lenE_T,hd]
   simp only [h,decide_false,cond_false]
   cases (List.range x.fVals.n).any (fun j=>!valB (x.fVals.at j))<;>cases dupB x.fVals<;>rfl
 have h3:∀ m b,(X215n (regs O) x (m+1)).x3 b=some (ii (bif b || (ltI x.fN (-2147483648) || gtI x.fN 2147483648) then 30 else vlsV x.fVals)):=fun m b=>by
  rw [X215n]
  simp only [X215s,b215_3]
  rw [rest]
  have e:ltI x.fN (Int.negSucc 2147483647)=ltI x.fN (-2147483648):=rfl
  rw [e]
  cases b<;>cases ltI x.fN (-2147483648)<;>cases gtI x.fN 2147483648<;>rfl
 have h2:∀ m num vals b,(X215n (regs O) x (m+2)).x2 num vals b=some (ii (bif b || (!eqB vals (gtI (ofN x.fVals.n) 0) || ((!num && !eqI x.fN 0) || (ltI x.fN (-2147483648) || gtI x.fN 2147483648))) then 30 else vlsV x.fVals)):=fun m num vals b=>by
  have t:=h3 m
  rw [X215n]
  generalize X215n (regs O) x (m+1)=X at t ⊢
  simp only [X215s,b215_2]
  rw [rest]
  simp only [D215_3,t]
  cases b<;>cases eqB vals (gtI (ofN x.fVals.n) 0)<;>cases num<;>cases eqI x.fN 0<;>cases ltI x.fN (-2147483648)<;>cases gtI x.fN 2147483648<;>rfl
 have h1:∀ m vals num,(X215n (regs O) x (m+3)).x1 vals num=some (ii (bif !nameB x.fKey then 7 else bif (ltI x.fOp 1 || gtI x.fOp 6) || (!eqB vals (gtI (ofN x.fVals.n) 0) || ((!num && !eqI x.fN 0) || (ltI x.fN (-2147483648) || gtI x.fN 2147483648))) then 30 else vlsV x.fVals)):=fun m vals num=>by
  have t:=h2 m
  rw [X215n]
  generalize X215n (regs O) x (m+2)=X at t ⊢
  simp only [X215s,b215_1]
  rw [hK1,hy1]
  simp only [D215_2,t]
  cases nameB x.fKey<;>cases ltI x.fOp 1<;>rfl
 have h0:∀ m vals,(X215n (regs O) x (m+4)).x0 vals=some (ii (bif !nameB x.fKey then 7 else bif (ltI x.fOp 1 || gtI x.fOp 6) || (!eqB vals (gtI (ofN x.fVals.n) 0) || ((!(eqI x.fOp 5 || eqI x.fOp 6) && !eqI x.fN 0) || (ltI x.fN (-2147483648) || gtI x.fN 2147483648))) then 30 else vlsV x.fVals)):=fun m vals=>by
  have t:=h1 m
  rw [X215n]
  generalize X215n (regs O) x (m+3)=X at t ⊢
  simp only [X215s,b215_0]
  simp only [D215_1,t]
  cases eqI x.fOp 5<;>rfl
 refine W215 x 4 _ ?_
 show e215_in (regs O) x (D215_0 (X215n (regs O) x 4))=_
 unfold e215_in
 simp only [D215_0,h0 0]
 unfold reqV opBad
 cases eqI x.fOp 1<;>rfl
theorem keysE_T:∀ l:List ByteArray,keysE (encT l)=some l
 | []=>rfl
 | s::l=>by
  show (keysE (encT l)).map (s::·)=_
  rw [keysE_T l];rfl
def keyFit (k:ByteArray):Bool:=k.size.ble 281474976710656
theorem yC_any {f:FuncId} {args:List S} {sh:Sh} {y0:Y} (hs:shF O.P f=some sh) (h:Ret f args (build y0 sh)):∃ y:Y,∀ (ρ:Type) (K:Y→Option ρ),yC (regs O) f args K=K y:=by
 obtain ⟨y,_,h2⟩:=yC_of hs h
 exact ⟨y,h2⟩
theorem c216 (l:List ByteArray) (h1:noTwice l=true) (h2:l.all keyFit=true) (h3:l.length≤1048576):∃ y:Y,∀ (ρ:Type) (K:Y→Option ρ),yC (regs O) 216 [S.mt (encT l)] K=K y:=by
 have hr:Ret 216 [S.mt (encT l)] (rowTexts (risingL l)):=by
  refine W_ext (F:=F216) rfl ?_
  show (match keysE (encT l) with | some ks=>bif noTwice ks && ks.all (fun k=>k.size.ble 281474976710656) && (encT l).length.ble 1048576 then some (rowTexts (risingL ks)) else none | none=>none)=_
  rw [keysE_T]
  have e1:(encT l).length.ble 1048576=true:=by rw [Nat.ble_eq];unfold encT;simpa using h3
  have e2:l.all (fun k=>k.size.ble 281474976710656)=true:=h2
  dsimp only
  rw [h1,e1,e2];rfl
 exact yC_any (sh:=.rows 1 0) (y0:=⟨fun _=>0,fun _=>false,fun _=>⟨#[]⟩,fun _=>⟨(risingL l).length,fun i=>[.v (.string ⟨((risingL l)[i.1]'i.2).toArray⟩)]⟩,fun _=>[]⟩) (by kernel_rfl) hr
theorem c214 (n:Int) (h0 : -2147483648≤n) (h1:n≤2147483648):∃ y:Y,y.s 0=decS n∧∀ (ρ:Type) (K:Y→Option ρ),yC (regs O) 214 [ii n,ii 10] K=K y:=by
 have hr:Ret 214 [ii n,ii 10] (ss (decS n)):=by
  refine W_ext (F:=F214) rfl ?_
  show (bif decide (-9223372036854775808≤n) && decide (n≤9223372036854775807) then some (ss (decS n)) else none)=_
  have e1:decide (-9223372036854775808≤n)=true:=by rw [decide_eq_true_eq];omega
  have e2:decide (n≤9223372036854775807)=true:=by rw [decide_eq_true_eq];omega
  rw [e1,e2];rfl
 exact yC_str (by kernel_rfl) hr
theorem decS_fit {n:Int} (h0 : -2147483648≤n) (h1:n≤2147483648):keyFit (decS n)=true:=by
 have:=itoa_len h0 h1
 unfold keyFit decS
 rw [Nat.ble_eq]
 show (itoa n).toArray.size≤_
 rw [List.size_toArray];omega
theorem lookNil {ρ:Type} (b:ByteArray) (Kt:Y→Option ρ) (Kf:Option ρ):lookW O.P O.K 9 4 [] (ss b) Kt Kf=Kf:=(lookT b []).1 rfl Kt Kf
theorem i64 {n:Int} (h0 : -4611686018427387904≤n) (h1:n≤4611686018427387904):IntKind.i64.wrap n=n:=i64_in (by omega)
def sh218:Sh:=.tup [.agg [.bool 0,.bool 1,.bool 2,.rows 1 3,.int .i64 4,.int .i64 5],.bool 6]
def setS (b0 b1 b2:Bool) (r:Rw0) (lo hi:Int) (x:S):S:=.tup [.agg [bb b0,bb b1,bb b2,.t (.rows 1 r.n r.g),ii lo,ii hi],x]
theorem setS_b (b0 b1 b2:Bool) (r:Rw0) (lo hi:Int) (x:Bool):∃ y:Y,build y sh218=setS b0 b1 b2 r lo hi (bb x):=
 ⟨⟨fun i=>match i with | 4=>lo | _=>hi,fun i=>match i with | 0=>b0 | 1=>b1 | 2=>b2 | _=>x,fun _=>⟨#[]⟩,fun _=>r,fun _=>[]⟩,rfl⟩
theorem c218 (lo hi:Int) (h1 : -2147483648≤lo) (h2:lo≤2147483649) (h3 : -2147483649≤hi) (h4:hi≤2147483648):∃ y:Y,∀ (ρ:Type) (K:Y→Option ρ),yC (regs O) 218 [ii lo,ii hi,S.mt []] K=K y:=by
 have f9:∀ K:Option S,flatW 900 [] K=K:=fun K=>flatT (l:=[]) (by decide)
 have f998:∀ K:Option S,flatW 998 [] K=K:=fun K=>flatD (l:=[]) (by decide)
 have wr:∀ (k:Nat) (n:Int) (l:List ByteArray),n+k=hi+1 → -2147483648≤n→l.length+k≤700→noTwice l=true→l.all keyFit=true→∃ y:Y,Ev (fun m=>(X218bn (regs O) lo hi m).x3 n hi (encT l)) (build y sh218):=by
  intro k
  induction k with
  | zero=>
   intro n l hn h0 hl ht hf
   obtain ⟨y,hK⟩:=c216 l ht hf (by omega)
   obtain ⟨z,hz⟩:=setS_b false false false (y.r 0) 0 0 true
   refine ⟨z,Ev.succ ⟨0,fun m _=>?_⟩⟩
   show (X218bn (regs O) lo hi (m+1)).x3 n hi (encT l)=_
   rw [X218bn]
   have e:leI n hi=false:=by unfold leI;rw [decide_eq_false_iff_not];omega
   simp only [X218bs,b218b_3,e,cond_false,flatT (show l.length≤800 by omega),flatD (d:=998) (show l.length+11≤998 by omega),hK]
   rw [hz];rfl
  | succ k ih=>
   intro n l hn h0 hl ht hf
   obtain ⟨y,hy,hK⟩:=c214 n h0 (by omega)
   have hlen:(addL l (decS n)).length≤l.length+1:=by
    unfold addL
    cases l.any (strEq (decS n))<;>simp
   obtain ⟨z,hz⟩:=ih (n+1) (addL l (decS n)) (by omega) (by omega) (by omega) (noTwice_add _ ht) (addL_all hf (decS_fit h0 (by omega)))
   refine ⟨z,Ev.succ (hz.of_eq fun m=>?_)⟩
   rw [X218bn]
   have e:leI n hi=true:=by unfold leI;rw [decide_eq_true_eq];omega
   have e2:addI .i64 n 1=n+1:=i64 (n:=n+1) (by omega) (by omega)
   simp only [X218bs,b218b_3,D218b_3,e,cond_true,hK,lookNil,hy,updA,flatT (show (addL l (decS n)).length≤800 by omega),e2]
 obtain ⟨y,hy⟩:∃ y:Y,Ev (fun m=>(X218bn (regs O) lo hi m).x2 lo hi) (build y sh218):=by
  have e1:subI .i64 (addI .i64 (subI .i64 hi lo) 1) (ofN (lenE []))=hi - lo+1:=by
   unfold subI addI
   rw [i64 (n:=hi - lo) (by omega) (by omega)]
   show IntKind.i64.wrap (IntKind.i64.wrap (hi - lo+1) - 0)=_
   rw [i64 (n:=hi - lo+1) (by omega) (by omega),i64 (by omega) (by omega)];omega
  by_cases hm:hi - lo+1 > 64
  ·obtain ⟨y,hK⟩:=c216 [] rfl rfl (by decide)
   obtain ⟨z,hz⟩:=setS_b false true true (y.r 0) lo hi (leI (ofN (lenE [])) 64)
   refine ⟨z,Ev.succ ⟨0,fun m _=>?_⟩⟩
   show (X218bn (regs O) lo hi (m+1)).x2 lo hi=_
   rw [X218bn]
   have e:gtI (hi - lo+1) 64=true:=by unfold gtI;rw [decide_eq_true_eq];exact hm
   have hK':∀ (ρ:Type) (K:Y→Option ρ),yC (regs O) 216 [S.mt []] K=K y:=hK
   simp only [X218bs,b218b_2,e1,e,cond_true,f998,hK']
   rw [hz];rfl
  ·have e:gtI (hi - lo+1) 64=false:=by
    unfold gtI;rw [decide_eq_false_iff_not];exact hm
   by_cases hl:hi < lo
   ·obtain ⟨y,hK⟩:=c216 [] rfl rfl (by decide)
    obtain ⟨z,hz⟩:=setS_b false false false (y.r 0) 0 0 true
    refine ⟨z,Ev.add 2 ⟨0,fun m _=>?_⟩⟩
    have hK':∀ (ρ:Type) (K:Y→Option ρ),yC (regs O) 216 [S.mt []] K=K y:=hK
    have t:(X218bn (regs O) lo hi (m+1)).x3 lo hi []=some (build z sh218):=by
     rw [X218bn]
     have e:leI lo hi=false:=by unfold leI;rw [decide_eq_false_iff_not];omega
     simp only [X218bs,b218b_3,e,cond_false,f9,f998,hK']
     rw [hz];rfl
    show (X218bn (regs O) lo hi (m+2)).x2 lo hi=_
    rw [X218bn]
    generalize X218bn (regs O) lo hi (m+1)=X at t ⊢
    simp only [X218bs,b218b_2,D218b_3,e1,e,cond_false,f9]
    exact t
   ·obtain ⟨y,hy⟩:=wr (hi+1 - lo).toNat lo [] (by omega) h1 (by simp only [List.length_nil];omega) rfl rfl
    refine ⟨y,Ev.succ (hy.of_eq fun m=>?_)⟩
    rw [X218bn]
    simp only [X218bs,b218b_2,D218b_3,e1,e,cond_false,f9]
    rfl
 have s1:∀ m,(X218bn (regs O) lo hi (m+1)).x1 lo hi=(X218bn (regs O) lo hi m).x2 lo hi:=fun m=>by
  rw [X218bn]
  simp only [X218bs,b218b_1,D218b_2]
  cases e:leI lo hi with
  | false=>rfl
  | true=>
   obtain ⟨y,hy,hK⟩:=c214 hi (by unfold leI at e;rw [decide_eq_true_eq] at e;omega) h4
   rw [cond_true,hK,lookNil]
 have s0:∀ m,(X218bn (regs O) lo hi (m+1)).x0 lo=(X218bn (regs O) lo hi m).x1 lo hi:=fun m=>by
  rw [X218bn]
  simp only [X218bs,b218b_0,D218b_1]
  cases e:leI lo hi with
  | false=>rfl
  | true=>
   obtain ⟨y,hy,hK⟩:=c214 lo h1 (by unfold leI at e;rw [decide_eq_true_eq] at e;omega)
   rw [cond_true,hK,lookNil]
 have key:Ev (fun m=>(X218bn (regs O) lo hi m).x0 lo) (build y sh218):=Ev.add 2 (hy.of_eq fun m=>by
  show (X218bn (regs O) lo hi (m+2)).x0 lo=_
  rw [s0,s1])
 obtain ⟨n,h⟩:=key.get
 exact yC_any (sh:=sh218) (y0:=y) (by kernel_rfl) (W218b lo hi n _ h)
def sh187:Sh:=.tup [.agg [.bool 0,.bool 1,.bool 2,.rows 1 3,.int .i64 4,.int .i64 5],.int .i64 6]
theorem setS_i (b0 b1 b2:Bool) (r:Rw0) (lo hi:Int) (x:Int):∃ y:Y,y.i 6=x∧build y sh187=setS b0 b1 b2 r lo hi (ii x):=
 ⟨⟨fun i=>match i with | 4=>lo | 5=>hi | _=>x,fun i=>match i with | 0=>b0 | 1=>b1 | _=>b2,fun _=>⟨#[]⟩,fun _=>r,fun _=>[]⟩,rfl,rfl⟩
theorem ret187 {f:FuncId} {args:List S} {x:Int} (hs:shF O.P f=some sh187) {b0 b1 b2:Bool} {r:Rw0} {lo hi:Int} (h:Ret f args (setS b0 b1 b2 r lo hi (ii x))):∃ y:Y,y.i 6=x∧∀ (ρ:Type) (K:Y→Option ρ),yC (regs O) f args K=K y:=by
 obtain ⟨z,hz,he⟩:=setS_i b0 b1 b2 r lo hi x
 rw [← he] at h
 obtain ⟨y,h1,h2⟩:=yC_of hs h
 refine ⟨y,?_,h2⟩
 have:build y (.int .i64 6)=build z (.int .i64 6):=by
  simp only [sh187,build,buildL,S.tup.injEq,List.cons.injEq] at h1
  exact h1.2.1
 simpa [build,hz] using this
theorem rows0 (g:Fin 0→List T):S.t (T.rows 1 0 g)=S.t (T.rows 1 (⟨0,fun i=>i.elim0⟩:Rw0).n (⟨0,fun i=>i.elim0⟩:Rw0).g):=by
 have:g=fun i=>i.elim0:=funext fun i=>i.elim0
 rw [this]
theorem rest0 {a:Rw ByteArray} (h:vlsV a=0):a.n≤8:=by
 unfold vlsV at h
 by_cases hn:8 < a.n
 ·have e:gtI (ofN a.n) 8=true:=by rw [show gtI (ofN a.n) 8=decide (8 < a.n) from gtI_ofN (k:=8)];simp [hn]
  rw [e] at h;cases h
 ·omega
theorem fN_range {x:D68} (h:opBad x=false) : -2147483648≤x.fN∧x.fN≤2147483648:=by
 unfold opBad at h
 simp only [Bool.or_eq_false_iff] at h
 have h1:=h.2.2.2.1
 have h2:=h.2.2.2.2
 unfold ltI at h1;unfold gtI at h2
 simp only [decide_eq_false_iff_not] at h1 h2
 omega
theorem req0 {x:D68} (h:reqV x=0):opBad x=false∧vlsV x.fVals=0:=by
 unfold reqV at h
 cases h1:nameB x.fKey with
 | false=>rw [h1] at h;cases h
 | true=>
  cases h2:opBad x with
  | true=>rw [h1,h2] at h;cases h
  | false=>rw [h1,h2] at h;exact ⟨rfl,h⟩
theorem c187 (x:D68) (hx:sm68 x):∃ y:Y,y.i 6=reqV x∧∀ (ρ:Type) (K:Y→Option ρ),yC (regs O) 187 [ag (e68 x)] K=K y:=by
 obtain ⟨y1,hy1,hK1⟩:=yC_int (by kernel_rfl) (c215 x hx)
 by_cases hz:reqV x=0
 ·obtain ⟨ho,hr⟩:=req0 hz
  have hn:=rest0 hr
  obtain ⟨h0,h1⟩:=fN_range ho
  obtain ⟨y2,hy2,hK2⟩:=yC_map (by kernel_rfl) (c217 x.fVals (by omega))
  have hl:=(grp_len x.fVals x.fVals.n).1
  obtain ⟨y3,hK3⟩:=c216 (grp x.fVals x.fVals.n) (grp_noTwice _ _) (grp_all _ _ fun i hi=>by
   have:=hx.2.2 i hi
   unfold keyFit;rw [Nat.ble_eq];unfold sm at this;have e:(x.fVals.at i).size=sizeN (x.fVals.at i):=rfl;omega) (by omega)
  obtain ⟨y4,hy4,hK4⟩:=yC_map (by kernel_rfl) c217b
  have f996:∀ K:Option S,flatW 996 [] K=K:=fun K=>flatD (l:=[]) (by decide)
  have a1:addI .i64 x.fN 1=x.fN+1:=i64 (n:=x.fN+1) (by omega) (by omega)
  have a2:subI .i64 x.fN 1=x.fN - 1:=i64 (n:=x.fN - 1) (by omega) (by omega)
  obtain ⟨y5,hK5⟩:=c218 (x.fN+1) 2147483648 (by omega) (by omega) (by decide) (by decide)
  obtain ⟨y6,hK6⟩:=c218 (-2147483648) (x.fN - 1) (by decide) (by decide) (by omega) (by omega)
  have hK6':∀ (ρ:Type) (K:Y→Option ρ),yC (regs O) 218 [ii (Int.negSucc 2147483647),ii (x.fN - 1),S.mt []] K=K y6:=hK6
  have hK5':∀ (ρ:Type) (K:Y→Option ρ),yC (regs O) 218 [ii (x.fN+1),ii 2147483648,S.mt []] K=K y5:=hK5
  have e0:eqI (0:Int) 0=true:=rfl
  have hW:∀ v,e187_in (regs O) x=some v→Ret 187 [ag (e68 x)] v:=fun v h=>W187 x 0 v h
  rw [hz]
  have main:∃ b0 b1 b2 r lo hi,e187_in (regs O) x=some (setS b0 b1 b2 r lo hi (ii 0)):=by
   simp only [e187_in,hK1,hy1,hz,e0,Bool.not_true,cond_false,hK2,hy2,matT,flatD (d:=998) (show (grp x.fVals x.fVals.n).length+11≤998 by omega),hK3,hK4,hy4,f996,a1,a2,hK5',hK6']
   cases eqI x.fOp 2 with
   | true=>exact ⟨_,_,_,_,_,_,rfl⟩
   | false=>
    cases eqI x.fOp 3 with
    | true=>exact ⟨_,_,_,_,_,_,rfl⟩
    | false=>
     cases eqI x.fOp 4 with
     | true=>exact ⟨_,_,_,_,_,_,rfl⟩
     | false=>
      cases eqI x.fOp 5 with
      | true=>exact ⟨_,_,_,_,_,_,rfl⟩
      | false=>
       cases eqI x.fOp 6 with
       | true=>exact ⟨_,_,_,_,_,_,rfl⟩
       | false=>exact ⟨_,_,_,_,_,_,rfl⟩
  obtain ⟨b0,b1,b2,r,lo,hi,h⟩:=main
  exact ret187 (by kernel_rfl) (hW _ h)
 ·have e:eqI (reqV x) 0=false:=by unfold eqI;simpa using hz
  have hr:Ret 187 [ag (e68 x)] (setS false false false ⟨0,fun i=>i.elim0⟩ 0 0 (ii (reqV x))):=by
   refine W187 x 0 _ ?_
   simp only [e187_in,hK1,hy1,e,Bool.not_false,cond_true]
   rw [rows0];rfl
  exact ret187 (by kernel_rfl) hr
instance:Inhabited Y:=⟨⟨fun _=>0,fun _=>false,fun _=>⟨#[]⟩,fun _=>⟨0,fun i=>i.elim0⟩,fun _=>[]⟩⟩
def chY (a:Rw D68) (j:Nat):Y:=open Classical in if h:sm68 (a.at j) then (c187 (a.at j) h).choose else default
theorem chY_ok {a:Rw D68} {j:Nat} (h:sm68 (a.at j)):(chY a j).i 6=reqV (a.at j)∧∀ (ρ:Type) (K:Y→Option ρ),yC (regs O) 187 [ag (e68 (a.at j))] K=K (chY a j):=by
 unfold chY
 rw [dif_pos h]
 exact (c187 (a.at j) h).choose_spec
def setT6 (y:Y):List T:=[T.v (Go.Value.bool (y.b 0)),T.v (Go.Value.bool (y.b 1)),T.v (Go.Value.bool (y.b 2)),T.rows 1 (y.r 3).n (y.r 3).g,T.v (Go.Value.int Go.IntKind.i64 (y.i 4)),T.v (Go.Value.int Go.IntKind.i64 (y.i 5))]
def outs (a:Rw D68):Nat→Rw0
 | 0=>⟨0,fun i=>i.elim0⟩
 | 1=>⟨1,fun i=>List.take 6 (List.drop (i.1*6) (setT6 (chY a 0)))⟩
 | j+2=>⟨addN (outs a (j+1)).n 1,appGet (outs a (j+1)).g fun i:Fin 1=>List.take 6 (List.drop (i.1*6) (setT6 (chY a (j+1))))⟩
theorem outs_n (a:Rw D68):∀ j,(outs a j).n=j
 | 0=>rfl
 | 1=>rfl
 | j+2=>by
  show (outs a (j+1)).n+1=_
  rw [outs_n a (j+1)]
def res153 (r:Rw0) (e:Int):S:=.tup [.t (.rows 6 r.n r.g),ii e]
def x153 (a:Rw D68) (m:Nat):Nat→Option S
 | 0=>(X153n (regs O) a 8 m).x0
 | j+1=>(X153n (regs O) a 8 m).x1 (outs a (j+1)) ((j+1:Nat):Int)
theorem rows06 (g:Fin 0→List T):S.t (T.rows 6 0 g)=S.t (T.rows 6 (⟨0,fun i=>i.elim0⟩:Rw0).n (⟨0,fun i=>i.elim0⟩:Rw0).g):=by
 have:g=fun i=>i.elim0:=funext fun i=>i.elim0
 rw [this]
theorem fits8 {n:Nat} (h:n≤8):fitsR (addN n 1) 48=true:=by
 unfold fitsR addN roomMax
 rw [Bool.and_eq_true,Nat.ble_eq,Nat.ble_eq];omega
theorem c153 (a:Rw D68) (ha:smR sm68 a):∃ y:Y,y.i 1=reqsV a∧∀ (ρ:Type) (K:Y→Option ρ),yC (regs O) 153 [S.t (T.rows 4 a.n fun i=>e68 (a.get i)),ii 8] K=K y:=by
 have fin:∀ (r:Rw0) (e:Int),Ret 153 [S.t (T.rows 4 a.n fun i=>e68 (a.get i)),ii 8] (res153 r e)→∃ y:Y,y.i 1=e∧∀ (ρ:Type) (K:Y→Option ρ),yC (regs O) 153 [S.t (T.rows 4 a.n fun i=>e68 (a.get i)),ii 8] K=K y:=fun r e h=>by
  obtain ⟨y,h1,h2⟩:=yC_of (sh:=.tup [.rows 6 0,.int .i64 1]) (y0:=⟨fun _=>e,fun _=>false,fun _=>⟨#[]⟩,fun _=>r,fun _=>[]⟩) (by kernel_rfl) h
  refine ⟨y,?_,h2⟩
  have:build y (.int .i64 1)=ii e:=by
   simp only [build,buildL,S.tup.injEq,List.cons.injEq] at h1
   exact h1.2.1
  simpa [build] using this
 by_cases hn:8 < a.n
 ·have e:gtI (ofN a.n) 8=true:=by rw [show gtI (ofN a.n) 8=decide (8 < a.n) from gtI_ofN (k:=8)];simp [hn]
  have:reqsV a=3:=by unfold reqsV;rw [e];rfl
  rw [this]
  refine fin ⟨0,fun i=>i.elim0⟩ 3 (W153 a 8 0 _ ?_)
  simp only [e153_in,e,cond_true]
  rw [rows06];rfl
 ·have e:gtI (ofN a.n) 8=false:=by rw [show gtI (ofN a.n) 8=decide (8 < a.n) from gtI_ofN (k:=8)];simp [hn]
  let g:Nat→Option S:=fun j=>bif !(eqI (reqV (a.at j)) 0) then some (res153 ⟨0,fun i=>i.elim0⟩ (reqV (a.at j))) else none
  have step:∀ m j,j < a.n→x153 a (m+1) j=(match g j with | some e=>some e | none=>x153 a m (j+1)):=fun m j hj=>by
   obtain ⟨h1,h2⟩:=chY_ok (a:=a) (j:=j) (ha.2 j hj)
   cases j with
   | zero=>
    show (X153n (regs O) a 8 (m+1)).x0=_
    rw [X153n]
    have hl:ltI 0 (ofN a.n)=true:=by
     show ltI ((0:Nat):Int) (ofN a.n)=true
     rw [ltI_nat];simpa using hj
    have he:∀ (K:(0:Int).toNat < a.n→Option S),elemO (0:Int) a.n K=K (by simpa using hj):=fun K=>elemO_nat (j:=0) hj
    have hg:a.get (Fin.mk (Int.ofNat 0).toNat (by simpa using hj))=a.at 0:=get_nat (j:=0)
    simp only [X153s,b153_0,D153_1,hl,cond_true,he,hg,h2,h1,g]
    rw [rows06]
    cases eqI (reqV (a.at 0)) 0<;>rfl
   | succ i=>
    show (X153n (regs O) a 8 (m+1)).x1 (outs a (i+1)) ((i+1:Nat):Int)=_
    rw [X153n]
    have hf:fitsR (addN (outs a (i+1)).n 1) 48=true:=fits8 (by rw [outs_n];omega)
    simp only [X153s,b153_1,D153_1,ltI_nat,hj,decide_true,cond_true,elemO_nat hj,get_nat,h2,h1,g,hf,addI_nat1 (show i+1 < 2 ^ 62 by omega)]
    rw [rows06]
    cases eqI (reqV (a.at (i+1))) 0<;>rfl
  have stop:∀ m,x153 a (m+1) a.n=some (res153 (outs a a.n) 0):=fun m=>by
   have key:∀ k,k=a.n→x153 a (m+1) k=some (res153 (outs a k) 0):=fun k hk=>by
    cases k with
    | zero=>
     show (X153n (regs O) a 8 (m+1)).x0=_
     rw [X153n]
     have hl:ltI 0 (ofN a.n)=false:=by
      show ltI ((0:Nat):Int) (ofN a.n)=false
      rw [ltI_nat,← hk];rfl
     simp only [X153s,b153_0,hl,cond_false]
     rw [rows06];rfl
    | succ i=>
     show (X153n (regs O) a 8 (m+1)).x1 (outs a (i+1)) ((i+1:Nat):Int)=_
     rw [X153n]
     simp only [X153s,b153_1,ltI_nat,← hk,Nat.lt_irrefl,decide_false,cond_false]
     rfl
   exact key a.n rfl
  have main:Ev (fun m=>x153 a m 0) (((List.range a.n).findSome? g).getD (res153 (outs a a.n) 0)):=
   Ev.loopN a.n g _ (fun j hj=>⟨fun e he=>Ev.succ ⟨0,fun m _=>by show x153 a (m+1) j=_;rw [step m j hj,he]⟩,fun hn v hv=>Ev.succ (hv.of_eq fun m=>by rw [step m j hj,hn])⟩) (Ev.succ ⟨0,fun m _=>stop m⟩)
  have fe:∃ r,((List.range a.n).findSome? g).getD (res153 (outs a a.n) 0)=res153 r (reqsV a):=by
   have:reqsV a=firstE a.n fun j=>reqV (a.at j):=by unfold reqsV;rw [e];rfl
   rw [this]
   unfold firstE
   generalize List.range a.n=l
   induction l with
   | nil=>exact ⟨_,rfl⟩
   | cons j l ih=>
    simp only [List.findSome?_cons,g]
    cases eqI (reqV (a.at j)) 0 with
    | true=>exact ih
    | false=>exact ⟨_,rfl⟩
  obtain ⟨r,hr⟩:=fe
  rw [hr] at main
  obtain ⟨n,h⟩:=main.get
  refine fin r _ (W153 a 8 n _ ?_)
  show e153_in (regs O) a 8 (D153_0 (X153n (regs O) a 8 n))=_
  unfold e153_in
  rw [e]
  exact h
theorem c110 (a:Rw D68) (ha:smR sm68 a):Ret 110 [S.t (T.rows 4 a.n fun i=>e68 (a.get i))] (ii (reqsV a)):=by
 obtain ⟨y,hy,hK⟩:=c153 a ha
 have hK':∀ (ρ:Type) (K:Y→Option ρ),yC (regs O) 153 [S.t (T.rows 4 a.n fun i=>e68 (a.get i)),ii 8] K=K y:=hK
 exact W110 a 0 _ (by simp only [e110_in,hK',hy])
theorem Ev.bif {α:Type} {g g1 g2:Nat→Option α} {v1 v2:α} (c:Bool) (h:∀ m,g m=bif c then g1 m else g2 m) (h1:c=true→Ev g1 v1) (h2:c=false→Ev g2 v2):Ev g (bif c then v1 else v2):=by
 cases c with
 | true=>exact (h1 rfl).of_eq h
 | false=>exact (h2 rfl).of_eq h
end
end Go.Proofs.YtonkoellfaopiaaGreatDoor.H

