import Derived.Calls
import Derived.Orders
import Derived.Below
import Derived.Laws.Sem
import Derived.Laws.Entries
import Derived.ChangeKeysEq
import Derived.Lib.Bytes
set_option linter.unusedSimpArgs false
set_option linter.unusedVariables false
namespace Go.Proofs.YtonkoellfaopiaaGreatDoor.H
open Go
inductive T where
 | v (x:Value)
 | rows (sz n:Nat) (get:Fin n→List T)
inductive S where
 | un
 | t (x:T)
 | agg (cs:List S)
 | tup (vs:List S)
 | full (sz n:Nat) (get:Fin n→List T)
 | pt (cs:List T)
 | ptr (b off:Nat)
 | sl (b n:Nat)
 | ep (b sz i off:Nat)
 | fn (f:Fn) (first cap:List S)
 | nn
 | ud
 | mp (b:Nat)
 | mt (es:List (S × S))
 | it
inductive B where
 | box (cs:List S)
 | lst (fz:Bool) (sz n:Nat) (cs:List S)
 | row (fz:Bool) (sz n:Nat) (get:Fin n→List T)
 | mp (fz:Bool) (es:List (S × S))
inductive Tr (α:Type) where
 | leaf
 | node (v:Option α) (l r:Tr α)
def Tr.getB {α:Type}:Tr α→List Bool→Option α
 | .leaf,_=>none
 | .node v _ _,[]=>v
 | .node _ l r,b::bs=>bif b then r.getB bs else l.getB bs
def Tr.setB {α:Type} (x:Option α):List Bool→Tr α→Tr α
 | [],.leaf=>.node x .leaf .leaf
 | [],.node _ l r=>.node x l r
 | b::bs,.leaf=>bif b then .node none .leaf (Tr.setB x bs .leaf) else .node none (Tr.setB x bs .leaf) .leaf
 | b::bs,.node v l r=>bif b then .node v l (Tr.setB x bs r) else .node v (Tr.setB x bs l) r
def bitsF:Nat→Nat→List Bool
 | 0,_=>[]
 | f+1,n=>bif n.beq 0 then [] else (n % 2).beq 1::bitsF f (n / 2)
def key (n:Nat):List Bool:=bitsF n n
def Tr.get {α:Type} (t:Tr α) (i:Nat):Option α:=t.getB (key i)
def Tr.set {α:Type} (t:Tr α) (i:Nat) (x:Option α):Tr α:=Tr.setB x (key i) t
def Tr.ofList {α:Type}:List (Nat × α)→Tr α
 | []=>.leaf
 | (i,x)::r=>(Tr.ofList r).set i (some x)
def val:List Bool→Nat
 | []=>0
 | b::bs=>(bif b then 1 else 0)+2*val bs
theorem val_bits:∀ f n,n≤f→val (bitsF f n)=n:=by
 intro f
 induction f with
 | zero=>intro n h;obtain rfl:n=0:=by omega
         rfl
 | succ f ih=>
  intro n h
  unfold bitsF
  cases e:n.beq 0
  ·have hn:n≠0:=by intro e';subst e';simp at e
   simp only [cond_false,val]
   rw [ih _ (by omega)]
   cases e2:(n % 2).beq 1
   ·have:n % 2≠1:=by intro e';rw [e'] at e2;simp at e2
    simp only [cond_false];omega
   ·have:n % 2=1:=Nat.eq_of_beq_eq_true e2
    simp only [cond_true];omega
  ·have:n=0:=Nat.eq_of_beq_eq_true e
   subst this;rfl
theorem key_inj {i j:Nat} (h:key i=key j):i=j:=by
 have:=congrArg val h
 rwa [key,key,val_bits _ _ (Nat.le_refl _),val_bits _ _ (Nat.le_refl _)] at this
section
variable {α:Type}
theorem getB_leaf (k:List Bool):(Tr.leaf:Tr α).getB k=none:=by cases k<;>rfl
theorem getB_setB_same (x:Option α):∀ (k:List Bool) (t:Tr α),(Tr.setB x k t).getB k=x
 | [],.leaf=>rfl
 | [],.node _ _ _=>rfl
 | b::bs,.leaf=>by cases b<;>simp [Tr.setB,Tr.getB,getB_setB_same x bs]
 | b::bs,.node _ _ _=>by cases b<;>simp [Tr.setB,Tr.getB,getB_setB_same x bs]
theorem getB_setB_ne (x:Option α):∀ (k k':List Bool) (t:Tr α),k≠k'→(Tr.setB x k t).getB k'=t.getB k'
 | [],[],_,h=>absurd rfl h
 | [],b::bs,.leaf,_=>by cases b<;>simp [Tr.setB,Tr.getB,getB_leaf]
 | [],b::bs,.node _ _ _,_=>by cases b<;>simp [Tr.setB,Tr.getB]
 | b::bs,[],.leaf,_=>by cases b<;>simp [Tr.setB,Tr.getB]
 | b::bs,[],.node _ _ _,_=>by cases b<;>simp [Tr.setB,Tr.getB]
 | b::bs,c::cs,.leaf,h=>by
  cases b<;>cases c<;>simp only [Tr.setB,Tr.getB,cond_true,cond_false,getB_leaf]
  ·rw [getB_setB_ne x bs cs _ (fun e=>h (by rw [e])),getB_leaf]
  ·rw [getB_setB_ne x bs cs _ (fun e=>h (by rw [e])),getB_leaf]
 | b::bs,c::cs,.node _ _ _,h=>by
  cases b<;>cases c<;>simp only [Tr.setB,Tr.getB,cond_true,cond_false]
  ·rw [getB_setB_ne x bs cs _ (fun e=>h (by rw [e]))]
  ·rw [getB_setB_ne x bs cs _ (fun e=>h (by rw [e]))]
theorem setB_comm (x y:Option α):∀ (k k':List Bool) (t:Tr α),k≠k'→Tr.setB y k' (Tr.setB x k t)=Tr.setB x k (Tr.setB y k' t)
 | [],[],_,h=>absurd rfl h
 | [],c::cs,.leaf,_=>by cases c<;>rfl
 | [],c::cs,.node _ _ _,_=>by cases c<;>rfl
 | b::bs,[],.leaf,_=>by cases b<;>rfl
 | b::bs,[],.node _ _ _,_=>by cases b<;>rfl
 | b::bs,c::cs,.leaf,h=>by
  cases b<;>cases c<;>simp only [Tr.setB,cond_true,cond_false]
  ·rw [setB_comm x y bs cs _ (fun e=>h (by rw [e]))]
  ·rw [setB_comm x y bs cs _ (fun e=>h (by rw [e]))]
 | b::bs,c::cs,.node _ _ _,h=>by
  cases b<;>cases c<;>simp only [Tr.setB,cond_true,cond_false]
  ·rw [setB_comm x y bs cs _ (fun e=>h (by rw [e]))]
  ·rw [setB_comm x y bs cs _ (fun e=>h (by rw [e]))]
theorem get_set (t:Tr α) (i j:Nat) (x:Option α):(t.set i x).get j=if i=j then x else t.get j:=by
 unfold Tr.set Tr.get
 split
 ·rename_i h;subst h;exact getB_setB_same _ _ _
 ·rename_i h;exact getB_setB_ne _ _ _ _ (fun e=>h (key_inj e))
theorem get_set_same (t:Tr α) (i:Nat) (x:Option α):(t.set i x).get i=x:=getB_setB_same _ _ _
theorem get_set_ne (t:Tr α) {i j:Nat} (x:Option α) (h:i≠j):(t.set i x).get j=t.get j:=getB_setB_ne _ _ _ _ (fun e=>h (key_inj e))
theorem set_comm (t:Tr α) {i j:Nat} (x y:Option α) (h:i≠j):(t.set i x).set j y=(t.set j y).set i x:=setB_comm _ _ _ _ _ (fun e=>h (key_inj e))
theorem get_leaf (i:Nat):(Tr.leaf:Tr α).get i=none:=getB_leaf _
end
structure Heap where
 next:Nat
 tr:Tr B
def Heap.get (h:Heap) (b:Nat):Option B:=h.tr.get b
def Heap.put (h:Heap) (b:Nat) (x:B):Heap:=⟨h.next,h.tr.set b (some x)⟩
def Heap.del (h:Heap) (b:Nat):Heap:=⟨h.next,h.tr.set b none⟩
def Heap.empty:Heap:=⟨0,.leaf⟩
abbrev Fr:=Tr S
def sv (x:Value):S:=.t (.v x)
def constS:Value→S
 | .agg cs=>bif cs.toList.all Value.oneCell' then .agg (cs.toList.map sv) else .un
 | .tuple _=>.un
 | v=>sv v
def ev (fr:Fr):Operand→S
 | .tmp t=>(fr.get t).getD .un
 | .const v=>constS v
 | .global g=>sv (.pointer (some ⟨g,0,none⟩))
 | .func f=>sv (.func (.func f) #[] #[])
def bytesEq:List UInt8→List UInt8→Bool
 | [],[]=>true
 | a::x,b::y=>bif a.toNat.beq b.toNat then bytesEq x y else false
 | _,_=>false
def strEq (a b:ByteArray):Bool:=bytesEq a.data.toList b.data.toList
def strLt (a b:ByteArray):Bool:=Op.bytesLess a.data.toList b.data.toList
def binInt (op:BinOp) (k:IntKind) (a b:Int):Option Value:=
 match op with
 | .add=>some (.int k (k.wrap (a+b)))
 | .sub=>some (.int k (k.wrap (a - b)))
 | .mul=>some (.int k (k.wrap (a*b)))
 | .quo=>bif decide (b=0) then none else some (.int k (k.wrap (a.tdiv b)))
 | .rem=>bif decide (b=0) then none else some (.int k (a.tmod b))
 | .eql=>some (.bool (decide (a=b)))
 | .neq=>some (.bool (!decide (a=b)))
 | .lss=>some (.bool (decide (a < b)))
 | .leq=>some (.bool (decide (a≤b)))
 | .gtr=>some (.bool (decide (a > b)))
 | .geq=>some (.bool (decide (a≥b)))
 | .and=>some (.int k (k.wrap (BitVec.ofInt k.bits a &&& BitVec.ofInt k.bits b).toNat))
 | .or=>some (.int k (k.wrap (BitVec.ofInt k.bits a ||| BitVec.ofInt k.bits b).toNat))
 | .xor=>some (.int k (k.wrap (BitVec.ofInt k.bits a ^^^ BitVec.ofInt k.bits b).toNat))
 | _=>none
def binShift (op:BinOp) (k:IntKind) (a b:Int):Option Value:=
 bif decide (b < 0) then none else
 match op with
 | .shl=>some (.int k (k.wrap (a*2 ^ (min b.toNat k.bits))))
 | .shr=>some (.int k (a.fdiv (2 ^ (min b.toNat k.bits))))
 | _=>none
def strMax:Nat:=4611686018427387904
def binStr (op:BinOp) (a b:ByteArray):Option Value:=
 match op with
 | .add=>bif decide (a.size+b.size≤strMax) then some (.string (a++b)) else none
 | .eql=>some (.bool (strEq a b))
 | .neq=>some (.bool (!strEq a b))
 | .lss=>some (.bool (strLt a b))
 | .leq=>some (.bool (strLt a b || strEq a b))
 | .gtr=>some (.bool (!(strLt a b || strEq a b)))
 | .geq=>some (.bool (!strLt a b))
 | _=>none
def eqCell:Nat→S→S→Option Bool
 | 0,.t (.v (.bool a)),.t (.v (.bool b))=>some (a == b)
 | 1,.t (.v (.int k a)),.t (.v (.int k' b))=>bif decide (k=k') then some (decide (a=b)) else none
 | 2,.t (.v (.string a)),.t (.v (.string b))=>some (strEq a b)
 | _,_,_=>none
def eqCells:List Nat→List S→List S→Option Bool
 | [],[],[]=>some true
 | k::ks,a::x,b::y=>(eqCell k a b).bind fun p=>(eqCells ks x y).map fun q=>p && q
 | _,_,_=>none
def kindsFields (P:Program) (rec:TypeId→Option (List Nat)):List Field→Nat→Option (List Nat)
 | [],_=>some []
 | f::r,o=>bif f.name != "_" && f.offset.beq o then
   (rec f.type).bind fun ks=>bif ks.length.beq (P.cellsOf f.type) then (kindsFields P rec r (o+P.cellsOf f.type)).map fun l=>ks++l else none
  else none
def kindsOf (P:Program):Nat→TypeId→Option (List Nat)
 | 0,_=>none
 | d+1,t=>match P.underlying t with
  | some .bool=>bif (P.cellsOf t).beq 1 then some [0] else none
  | some (.int _)=>bif (P.cellsOf t).beq 1 then some [1] else none
  | some .string=>bif (P.cellsOf t).beq 1 then some [2] else none
  | some (.struct fs)=>bif P.stoodInHeld t then none else kindsFields P (kindsOf P d) fs.toList 0
  | some (.array n e)=>(kindsOf P d e).bind fun ks=>bif ks.length.beq (P.cellsOf e) && (P.info? e).isSome then some (List.replicate n ks).flatten else none
  | _=>none
def isAggB (P:Program) (t:TypeId):Bool:=
 match P.underlying t with
 | some (.struct _) | some (.array _ _)=>true
 | _=>false
def isConst:Operand→Bool
 | .const _=>true
 | _=>false
def KOk (P:Program) (K:TypeId→Option (List Nat)):Prop:=∀ t ks,K t=some ks→kindsOf P 20 t=some ks∧isAggB P t=true∧P.eqGuardType P.depth t=false
def binS (P:Program) (K:TypeId→Option (List Nat)) (lit:Bool) (op:BinOp) (t:TypeId) (x y:S):Option S:=
 match x,y with
 | .t (.v (.int k a)),.t (.v (.int k' b))=>
  (match op with
   | .shl | .shr=>binShift op k a b
   | _=>bif decide (k=k') then binInt op k a b else none).map sv
 | .t (.v (.string a)),.t (.v (.string b))=>(binStr op a b).map sv
 | .t (.v (.slice none _ _)),.t (.v (.slice none _ _))=>nilEq true
 | .t (.v .nilIface),.nn=>nilIf false
 | .nn,.t (.v .nilIface)=>nilIf false
 | .t (.v .nilIface),.t (.v .nilIface)=>bif lit then nilIf true else none
 | .agg xs,.agg ys=>
  (match op,K t with
   | .eql,some ks=>(eqCells ks xs ys).map fun b=>sv (.bool b)
   | .neq,some ks=>(eqCells ks xs ys).map fun b=>sv (.bool (!b))
   | _,_=>none)
 | .t (.v (.bool a)),.t (.v (.bool b))=>
  (match P.underlying t,op with
   | some .bool,.eql=>some (sv (.bool (a == b)))
   | some .bool,.neq=>some (sv (.bool (!(a == b))))
   | _,_=>none)
 | _,_=>none
where
 nilEq (b:Bool):Option S:=match P.underlying t,op with
  | some (.slice _),.eql=>some (sv (.bool b))
  | some (.slice _),.neq=>some (sv (.bool (!b)))
  | _,_=>none
 nilIf (b:Bool):Option S:=match P.underlying t,op with
  | some (.interface _),.eql=>some (sv (.bool b))
  | some (.interface _),.neq=>some (sv (.bool (!b)))
  | _,_=>none
def eqKey (P:Program) (K:TypeId→Option (List Nat)) (t:TypeId) (a b:S):Option Bool:=
 match P.underlying t with
 | some .bool=>eqCell 0 a b
 | some (.int _)=>eqCell 1 a b
 | some .string=>eqCell 2 a b
 | some (.struct _)=>(match a,b,K t with
  | .agg xs,.agg ys,some ks=>eqCells ks xs ys
  | _,_,_=>none)
 | _=>none
def keyFits (P:Program) (K:TypeId→Option (List Nat)) (t:TypeId) (a:S):Bool:=
 match P.underlying t,a with
 | some .bool,.t (.v (.bool _))=>true
 | some (.int _),.t (.v (.int _ _))=>true
 | some .string,.t (.v (.string _))=>true
 | some (.struct _),.agg xs=>(match K t with | some ks=>xs.length.beq ks.length | none=>false)
 | _,_=>false
def findS (P:Program) (K:TypeId→Option (List Nat)) (t:TypeId) (k:S):List (S × S)→Nat→Option (Option (Nat × S))
 | [],_=>some none
 | e::r,i=>(eqKey P K t k e.1).bind fun p=>bif p then some (some (i,e.2)) else findS P K t k r (i+1)
def unS (op:UnOp) (x:S):Option S:=
 match op,x with
 | .not,.t (.v (.bool b))=>some (sv (.bool (!b)))
 | .neg,.t (.v (.int k n))=>some (sv (.int k (k.wrap (0 - n))))
 | _,_=>none
def pickS (c:Bool) (x y:S):S:=
 match x,y with
 | .t (.v (.bool a)),.t (.v (.bool b))=>sv (.bool (bif c then a else b))
 | .t (.v (.string a)),.t (.v (.string b))=>sv (.string (bif c then a else b))
 | x,y=>bif c then x else y
def takeS (agg:Bool) (n:Nat) (cs:List S):Option S:=
 bif agg then (bif n.ble cs.length then some (.agg (cs.take n)) else none) else
 match cs with
 | c::_=>some c
 | []=>none
def valS (P:Program) (t:TypeId) (cs:List S):Option S:=
 match P.underlying t with
 | some _=>takeS (isAggB P t) (P.cellsOf t) cs
 | none=>none
def cellsOfS:S→List S
 | .agg cs=>cs
 | s=>[s]
def fieldOf (P:Program) (t:TypeId) (f:Nat):Option (Nat × TypeId):=
 match P.underlying t with
 | some (.struct fs)=>match fs[f]? with
  | some x=>bif (P.cellsOf x.type).beq 0 then none else some (x.offset,x.type)
  | none=>none
 | _=>none
def defS:S→Bool
 | .un=>false
 | _=>true
def setFrom:List S→Nat→List S→List S
 | cs,_,[]=>cs
 | cs,o,x::r=>setFrom (cs.set o x) (o+1) r
def fillS (place:Nat→Option (Nat × Nat)):List S→List (Nat × S)→Option (List S)
 | cells,[]=>some cells
 | cells,(i,v)::rest=>match place i with
  | none=>none
  | some (off,size)=>
   bif defS v && (cellsOfS v).length.beq size && (off+(cellsOfS v).length).ble cells.length then fillS place (setFrom cells off (cellsOfS v)) rest else none
def zeroS (P:Program) (t:TypeId):Option S:=
 match P.info? t with
 | some i=>i.zero.map constS
 | none=>none
def fieldsIn (P:Program) (fs:Array Field):Bool:=fs.toList.all fun f=>(P.info? f.type).isSome
def buildS (P:Program) (t:TypeId) (parts:List (Nat × S)):Option S:=
 match zeroS P t,P.underlying t with
 | some z,some (.struct fs)=>bif defS z && fieldsIn P fs then (fillS (fun i=>match fs[i]? with | some x=>some (x.offset,P.cellsOf x.type) | none=>none) (cellsOfS z) parts).map .agg else none
 | some z,some (.array _ e)=>bif defS z && (P.info? e).isSome then (fillS (fun i=>some (i*P.cellsOf e,P.cellsOf e)) (cellsOfS z) parts).map .agg else none
 | _,_=>none
def intOfS:S→Option Int
 | .t (.v (.int _ n))=>some n
 | _=>none
def optInt (fr:Fr):Option Operand→Option (Option Int)
 | none=>some none
 | some x=>(intOfS (ev fr x)).map some
def cutS (n:Nat) (lo hi mx:Option Int):Option (Nat × Nat × Bool):=
 let h:=hi.getD n
 let l:=lo.getD 0
 bif decide (0≤l) && decide (l≤h) && decide (h≤n) then
  (match mx with
   | none=>some (l.toNat,h.toNat - l.toNat,false)
   | some m=>bif decide (m=h) && hi.isSome then some (l.toNat,h.toNat - l.toNat,true) else none)
 else none
def subGet {α:Type} {n:Nat} (get:Fin n→α) (l m:Nat) (h:l+m≤n):Fin m→α:=fun i=>get ⟨l+i.1,by have:=i.2;omega⟩
def sliceS (P:Program) (t:TypeId) (x:S) (lo hi mx:Option Int):Option S:=
 match P.underlying t,x with
 | some .string,.t (.v (.string s))=>
  (match mx with
   | none=>bif decide (0≤lo.getD 0) && decide (lo.getD 0≤hi.getD s.size) && decide (hi.getD s.size≤s.size) then some (sv (.string (s.extract (lo.getD 0).toNat (hi.getD s.size).toNat))) else none
   | _=>none)
 | some (.slice e),.t (.v (.slice none 0 0))=>bif !(P.info? e).isSome then none else
  (match cutS 0 lo hi mx with | some _=>some (sv (.slice none 0 0)) | none=>none)
 | some (.slice e),.t (.rows sz n get)=>bif !(sz.beq (P.cellsOf e)) || !(P.info? e).isSome then none else
  (match cutS n lo hi mx with
   | some (l,m,f)=>if h:l+m≤n then some (bif f then .full sz m (subGet get l m h) else .t (.rows sz m (subGet get l m h))) else none
   | none=>none)
 | some (.slice e),.full sz n get=>bif !(sz.beq (P.cellsOf e)) || !(P.info? e).isSome then none else
  (match cutS n lo hi mx with
   | some (l,m,f)=>if h:l+m≤n then some (bif f then .full sz m (subGet get l m h) else .t (.rows sz m (subGet get l m h))) else none
   | none=>none)
 | _,_=>none
def elemS (n:Nat) (get:Fin n→List T) (i:Int):Option S:=
 if h:0≤i∧i.toNat < n then some (.pt (get ⟨i.toNat,h.2⟩)) else none
def convS (P:Program) (src dst:TypeId) (x:S):Option S:=
 match P.underlying src,P.underlying dst,x with
 | some (.int _),some (.int k),.t (.v (.int _ n))=>some (sv (.int k (k.wrap n)))
 | some .string,some .string,.t (.v (.string s))=>some (sv (.string s))
 | _,_,_=>none
def lenFits (P:Program) (t:TypeId) (x:S):Bool:=match P.underlying t,x with
 | some .string,.t (.v (.string _))=>true
 | some (.slice _),.t (.v (.string _))=>false
 | some (.slice _),.mt _=>false
 | some (.slice _),_=>true
 | some (.map _ _),.mt _=>true
 | _,_=>false
def lenS:S→Option Int
 | .t (.v (.string s))=>some (s.size:Int)
 | .t (.v (.slice none n _))=>some (n:Int)
 | .t (.rows _ n _)=>some (n:Int)
 | .full _ n _=>some (n:Int)
 | .sl _ n=>some (n:Int)
 | .mt es=>some (es.length:Int)
 | _=>none
def minS (mx:Bool):S→S→Option S
 | .t (.v (.int k a)),.t (.v (.int _ b))=>some (sv (.int k (bif mx then (bif decide (b > a) then b else a) else (bif decide (b < a) then b else a))))
 | _,_=>none
def foldS (f:S→S→Option S):S→List S→Option S
 | x,[]=>some x
 | x,y::r=>(f x y).bind fun z=>foldS f z r
def pureOp (P:Program) (K:TypeId→Option (List Nat)) (fr:Fr):Op→Option S
 | .move x | .assign x=>some (ev fr x)
 | .pick c a b=>match ev fr c with
  | .t (.v (.bool p))=>some (pickS p (ev fr a) (ev fr b))
  | _=>none
 | .build t parts=>buildS P t (parts.toList.map fun p=>(p.1,ev fr p.2))
 | .nilCheck x=>match ev fr x with
  | .pt cs=>some (.pt cs)
  | .ptr b o=>some (.ptr b o)
  | .ep b z i o=>some (.ep b z i o)
  | _=>none
 | .binOp op t x y _=>binS P K (isConst x || isConst y) op t (ev fr x) (ev fr y)
 | .unOp op _ x=>unS op (ev fr x)
 | .makeFunc f first cap=>bif (first.size.beq 0) && (cap.size.beq 0) then some (sv (.func f #[] #[])) else some (.fn f (first.toList.map (ev fr)) (cap.toList.map (ev fr)))
 | .slice t x lo hi mx=>(optInt fr lo).bind fun lo=>(optInt fr hi).bind fun hi=>(optInt fr mx).bind fun mx=>sliceS P t (ev fr x) lo hi mx
 | .fieldAddr t x f=>match fieldOf P t f,ev fr x with
  | some (o,_),.pt cs=>some (.pt (cs.drop o))
  | some (o,_),.ptr b i=>some (.ptr b (i+o))
  | some (o,_),.ep b z i k=>some (.ep b z i (k+o))
  | _,_=>none
 | .field t x f=>match fieldOf P t f,ev fr x with
  | some (o,ft),.agg cs=>valS P ft (cs.drop o)
  | _,_=>none
 | .index t x ix=>match P.underlying t,ev fr x,intOfS (ev fr ix) with
  | some (.array n e),.agg cs,some i=>bif decide (0≤i) && decide (i < n) then valS P e (cs.drop (i.toNat*P.cellsOf e)) else none
  | some .string,.t (.v (.string s)),some i=>if h:0≤i∧i.toNat < s.size then some (sv (.int .u8 (s[i.toNat]'h.2).toNat)) else none
  | _,_,_=>none
 | .indexAddr t x ix=>match P.underlying t,ev fr x,intOfS (ev fr ix) with
  | some (.slice e),.t (.rows sz n get),some i=>bif sz.beq (P.cellsOf e) && (P.info? e).isSome then elemS n get i else none
  | some (.slice e),.full sz n get,some i=>bif sz.beq (P.cellsOf e) && (P.info? e).isSome then elemS n get i else none
  | some (.slice e),.sl b n,some i=>bif (P.info? e).isSome && decide (0≤i) && decide (i < n) then some (.ep b (P.cellsOf e) i.toNat 0) else none
  | some (.array n e),.ptr b o,some i=>bif (P.info? e).isSome && decide (0≤i) && decide (i < n) then some (.ptr b (o+i.toNat*P.cellsOf e)) else none
  | some (.array n e),.pt cs,some i=>bif (P.info? e).isSome && decide (0≤i) && decide (i < n) then some (.pt (cs.drop (i.toNat*P.cellsOf e))) else none
  | some (.array n e),.ep b z j o,some i=>bif (P.info? e).isSome && decide (0≤i) && decide (i < n) then some (.ep b z j (o+i.toNat*P.cellsOf e)) else none
  | _,_,_=>none
 | .extract x i=>match ev fr x with
  | .tup vs=>vs[i]?
  | _=>none
 | .call { callee:=.builtin .len,args,argTypes }=>match args.toList.map (ev fr),argTypes[0]? with
  | [x],some t=>bif lenFits P t x then (lenS x).map fun n=>sv (.int .i64 n) else none
  | _,_=>none
 | .call { callee:=.builtin .max,args,.. }=>match args.toList.map (ev fr) with
  | x::r=>foldS (minS true) x r
  | _=>none
 | .call { callee:=.builtin .min,args,.. }=>match args.toList.map (ev fr) with
  | x::r=>foldS (minS false) x r
  | _=>none
 | _=>none
mutual
def toT (get:Nat→Option B):Nat→S→Option (T × List Nat)
 | 0,_=>none
 | _+1,.t x=>some (x,[])
 | _+1,.full sz n g=>some (.rows sz n g,[])
 | d+1,.sl b _=>match get b with
  | some (.row _ sz n g)=>some (.rows sz n g,[b])
  | some (.lst _ sz n cs)=>match toTs get d cs with
   | some (ts,l)=>some (.rows sz n (fun i=>(ts.drop (i.1*sz)).take sz),b::l)
   | none=>none
  | _=>none
 | _+1,_=>none
termination_by structural d=>d
def toTs (get:Nat→Option B):Nat→List S→Option (List T × List Nat)
 | 0,_=>none
 | _+1,[]=>some ([],[])
 | d+1,c::cs=>match toT get d c with
  | some (x,l)=>match toTs get d cs with
   | some (xs,l')=>some (x::xs,l++l')
   | none=>none
  | none=>none
termination_by structural d=>d
end
mutual
def closeS (get:Nat→Option B):Nat→S→Option (S × List Nat)
 | 0,_=>none
 | d+1,.sl b n=>match toT get (d+1) (.sl b n) with
  | some (x,l)=>some (.t x,l)
  | none=>none
 | d+1,.agg cs=>match closeL get d cs with
  | some (cs',l)=>some (.agg cs',l)
  | none=>none
 | d+1,.tup cs=>match closeL get d cs with
  | some (cs',l)=>some (.tup cs',l)
  | none=>none
 | d+1,.fn f a c=>match closeL get d a with
  | some (a',l)=>match closeL get d c with
   | some (c',l')=>some (.fn f a' c',l++l')
   | none=>none
  | none=>none
 | _+1,.ep b z i o=>match get b with
  | some (.row _ sz n g)=>if h:i < n then (bif z.beq sz then some (.pt ((g ⟨i,h⟩).drop o),[b]) else none) else none
  | _=>none
 | d+1,.mp b=>match get b with
  | some (.mp _ es)=>match closeE get d es with
   | some (es',l)=>some (.mt es',b::l)
   | none=>none
  | _=>none
 | d+1,.mt es=>match closeE get d es with
  | some (es',l)=>some (.mt es',l)
  | none=>none
 | d+1,.ptr b o=>match get b with
  | some (.box cs)=>match toTs get d (cs.drop o) with
   | some (ts,l)=>some (.pt ts,b::l)
   | none=>none
  | _=>none
 | _+1,s=>some (s,[])
termination_by structural d=>d
def closeL (get:Nat→Option B):Nat→List S→Option (List S × List Nat)
 | 0,_=>none
 | _+1,[]=>some ([],[])
 | d+1,c::cs=>match closeS get d c with
  | some (x,l)=>match closeL get d cs with
   | some (xs,l')=>some (x::xs,l++l')
   | none=>none
  | none=>none
termination_by structural d=>d
def closeE (get:Nat→Option B):Nat→List (S × S)→Option (List (S × S) × List Nat)
 | 0,_=>none
 | _+1,[]=>some ([],[])
 | d+1,e::es=>match closeS get d e.1 with
  | some (k,l1)=>match closeS get d e.2 with
   | some (v,l2)=>match closeE get d es with
    | some (r,l3)=>some ((k,v)::r,l1++l2++l3)
    | none=>none
   | none=>none
  | none=>none
termination_by structural d=>d
end
mutual
def flatS:Nat→S→Bool
 | 0,_=>false
 | _+1,.t (.v _)=>true
 | _+1,.un=>true
 | _+1,.ud=>true
 | _+1,.nn=>true
 | d+1,.agg cs=>flatL d cs
 | d+1,.tup cs=>flatL d cs
 | _+1,_=>false
termination_by structural d=>d
def flatL:Nat→List S→Bool
 | 0,_=>false
 | _+1,[]=>true
 | d+1,c::cs=>flatS d c && flatL d cs
termination_by structural d=>d
end
def freeze1:B→B
 | .lst _ sz n cs=>.lst true sz n cs
 | .row _ sz n g=>.row true sz n g
 | .mp _ es=>.mp true es
 | b=>b
def Heap.freeze (h:Heap):List Nat→Heap
 | []=>h
 | b::l=>match h.get b with
  | some x=>(h.put b (freeze1 x)).freeze l
  | none=>h.freeze l
def depthS:Nat:=1000
def loadS (P:Program) (get:Nat→Option B) (t:TypeId):S→Option S
 | .pt cs=>valS P t (cs.map .t)
 | .ptr b o=>match get b with
  | some (.box cs)=>valS P t (cs.drop o)
  | _=>none
 | .ep b z i o=>match get b with
  | some (.row _ sz n g)=>if h:i < n then (bif z.beq sz && (o+P.cellsOf t).ble sz then valS P t (((g ⟨i,h⟩).drop o).map .t) else none) else none
  | some (.lst _ sz n cs)=>bif z.beq sz && decide (i < n) && (o+P.cellsOf t).ble sz then valS P t (cs.drop (i*sz+o)) else none
  | _=>none
 | _=>none
def isRow:B→Bool
 | .box _=>false
 | _=>true
def newOp (P:Program) (fr:Fr) (id:Nat):Op→Option (S × B)
 | .alloc t=>match zeroS P t with
  | some z=>bif defS z then some (.ptr id 0,.box (cellsOfS z)) else none
  | none=>none
 | .makeMap _ r=>(match r with | none=>some (.mp id,.mp false []) | some x=>(match ev fr x with | .t (.v (.int _ _))=>none | _=>none))
 | .box _ x=>bif defS (ev fr x) then some (.ptr id 0,.box (cellsOfS (ev fr x))) else none
 | .buildSlice t n parts=>match P.underlying t with
  | some (.slice e)=>match zeroS P e with
   | some z=>bif (P.cellsOf e).beq 0 || (n*P.cellsOf e).ble 16777216 == false || !((cellsOfS z).length.beq (P.cellsOf e)) || !defS z then none else
    (fillS (fun i=>some (i*P.cellsOf e,P.cellsOf e)) ((List.replicate n (cellsOfS z)).flatten) (parts.toList.map fun p=>(p.1,ev fr p.2))).map fun cs=>(.sl id n,.lst false (P.cellsOf e) n cs)
   | none=>none
  | _=>none
 | _=>none
def roomMax:Nat:=35184372088832
def sourceS (get:Nat→Option B) (sz:Nat):S→Option ((n:Nat) × (Fin n→List T) × List Nat)
 | .t (.rows sz' n g)=>bif sz'.beq sz then some ⟨n,g,[]⟩ else none
 | .full sz' n g=>bif sz'.beq sz then some ⟨n,g,[]⟩ else none
 | .t (.v (.slice none 0 _))=>some ⟨0,fun i=>absurd i.2 (Nat.not_lt_zero _),[]⟩
 | .sl b _=>match get b with
  | some (.row _ sz' n g)=>bif sz'.beq sz then some ⟨n,g,[]⟩ else none
  | some (.lst _ sz' n cs)=>bif sz'.beq sz then
    (match toTs get depthS cs with
     | some (ts,l)=>some ⟨n,fun i=>(ts.drop (i.1*sz)).take sz,l⟩
     | none=>none)
   else none
  | _=>none
 | _=>none
def appGet {n m:Nat} (g:Fin n→List T) (g':Fin m→List T):Fin (n+m)→List T:=
 fun i=>if h:i.1 < n then g ⟨i.1,h⟩ else g' ⟨i.1 - n,by have:=i.2;omega⟩
def destS (get:Nat→Option B) (sz:Nat) (b:Nat):Option ((n:Nat) × (Fin n→List T) × List Nat):=
 match get b with
 | some (.row false sz' n g)=>bif sz'.beq sz then some ⟨n,g,[]⟩ else none
 | some (.lst false sz' n cs)=>bif sz'.beq sz then
   (match toTs get depthS cs with
    | some (ts,l)=>bif l.contains b then none else some ⟨n,fun i=>(ts.drop (i.1*sz)).take sz,l⟩
    | none=>none)
  else none
 | _=>none
def elemOk (P:Program) (e:TypeId):Bool:=
 match zeroS P e with
 | some z=>!((P.cellsOf e).beq 0) && (cellsOfS z).length.beq (P.cellsOf e) && defS z
 | none=>false
def appendS (P:Program) (h:Heap) (id:Nat) (e:TypeId) (x y:S):Option (S × Heap):=
 bif !elemOk P e then none else
 match sourceS h.get (P.cellsOf e) y with
 | none=>none
 | some ⟨m,g',l⟩=>
  match x with
  | .t (.v (.slice none 0 0))=>bif (m*P.bytesOf e).ble roomMax && m.ble roomMax then some (.sl id m,(h.freeze l).put id (.row false (P.cellsOf e) m g')) else none
  | .full sz n g=>bif sz.beq (P.cellsOf e) && ((n+m)*P.bytesOf e).ble roomMax && (n+m).ble roomMax then (bif m.beq 0 then some (.full sz n g,h.freeze l) else some (.sl id (n+m),(h.freeze l).put id (.row false (P.cellsOf e) (n+m) (appGet g g')))) else none
  | .sl b _=>match destS (h.freeze l).get (P.cellsOf e) b with
   | some ⟨n,g,l'⟩=>bif ((n+m)*P.bytesOf e).ble roomMax && (n+m).ble roomMax then some (.sl id (n+m),(((h.freeze l).freeze l').del b).put id (.row false (P.cellsOf e) (n+m) (appGet g g'))) else none
   | none=>none
  | _=>none
def setT:List T→Nat→List T→List T
 | cs,_,[]=>cs
 | cs,o,x::r=>setT (cs.set o x) (o+1) r
def oneS:S→Bool
 | .t (.v x)=>x.oneCell'
 | .un | .ud | .agg _ | .tup _=>false
 | _=>true
def storeS (P:Program) (h:Heap) (t:TypeId) (a x:S):Option Heap:=
 bif !(P.info? t).isSome || !defS x || !((cellsOfS x).length.beq (P.cellsOf t)) || !((cellsOfS x).all oneS) then none else
 match a with
 | .ptr b o=>match h.get b with
  | some (.box cs)=>bif (o+(cellsOfS x).length).ble cs.length then some (h.put b (.box (setFrom cs o (cellsOfS x)))) else none
  | _=>none
 | .ep b z i o=>match h.get b with
  | some (.lst false sz n cs)=>bif z.beq sz && decide (i < n) && (o+(cellsOfS x).length).ble sz && (i*sz+sz).ble cs.length then some (h.put b (.lst false sz n (setFrom cs (i*sz+o) (cellsOfS x)))) else none
  | some (.row false sz n g)=>bif z.beq sz && decide (i < n) && (o+(cellsOfS x).length).ble sz then
    (match toTs h.get depthS (cellsOfS x) with
     | some (ts,l)=>bif l.contains b then none else some ((h.freeze l).put b (.row false sz n (fun j=>bif j.1.beq i then setT (g j) o ts else g j)))
     | none=>none)
   else none
  | _=>none
 | _=>none
structure Env where
 P:Program
 K:TypeId→Option (List Nat)
 fnOk:FuncId→Bool
 inl:FuncId→Bool
 live:FuncId→Nat→Option (List Nat)
 ov:FuncId→Option Func
 callT:FuncId→List S→Option S
 callI:FuncId→List S→Heap→Option (S × Heap)
def calleeS (fr:Fr) (f:Operand) (args:List S):Option (FuncId × List S):=
 match ev fr f with
 | .t (.v (.func (.func g) first cap))=>bif first.size.beq 0 && cap.size.beq 0 then some (g,args) else none
 | .fn (.func g) first cap=>some (g,first++args++cap)
 | _=>none
def lookS (P:Program) (K:TypeId→Option (List Nat)) (get:Nat→Option B) (t:TypeId) (x k:S) (ok:Bool):Option S:=
 match P.underlying t with
 | some (.map kt et)=>bif !keyFits P K kt k then none else
  (match (match x with
   | .mp b=>(match get b with | some (.mp _ es)=>some es | _=>none)
   | .mt es=>some es
   | .t (.v (.map none))=>some []
   | _=>none) with
   | some es=>(findS P K kt k es 0).bind fun r=>match r with
    | some (_,v)=>some (bif ok then .tup [v,sv (.bool true)] else v)
    | none=>(zeroS P et).map fun z=>bif ok then .tup [z,sv (.bool false)] else z
   | none=>none)
 | _=>none
def setE:List (S × S)→Nat→S→S→List (S × S)
 | [],_,_,_=>[]
 | _::r,0,k,v=>(k,v)::r
 | e::r,i+1,k,v=>e::setE r i k v
def rowAt (get:Nat→Option B) (b:Nat):Bool:=match get b with | some x=>isRow x | none=>false
def updS (P:Program) (K:TypeId→Option (List Nat)) (h:Heap) (t:TypeId) (m k v:S):Option Heap:=
 match P.underlying t,m with
 | some (.map kt _),.mp b=>
  (match closeS h.get depthS k,closeS h.get depthS v with
   | some (k',l1),some (v',l2)=>bif !keyFits P K kt k' || l1.contains b || l2.contains b || !l1.all (rowAt h.get) || !l2.all (rowAt h.get) then none else
    (match h.get b with
    | some (.mp false es)=>(findS P K kt k' es 0).map fun r=>((h.freeze l1).freeze l2).put b (.mp false (match r with
     | some (i,_)=>setE es i k' v'
     | none=>es++[(k',v')]))
    | _=>none)
   | _,_=>none)
 | _,_=>none
def mapFlat:S→Bool
 | .mt es=>es.all fun e=>flatS depthS e.1 && flatS depthS e.2
 | _=>false
def noMap (get:Nat→Option B) (b:Nat):Bool:=match get b with | some (.mp ..)=>false | _=>true
def quietCall (E:Env) (get:Nat→Option B) (f:FuncId) (args:List S):Option (S × List Nat):=
 match closeL get depthS args with
 | some (args',l)=>match E.callT f args' with
  | some r=>bif flatS depthS r then some (r,[]) else bif l.all (rowAt get) then (bif mapFlat r && l.all (noMap get) then some (r,[]) else some (r,l)) else none
  | none=>none
 | none=>none
def listF {α:Type}:(n:Nat)→(Fin n→α)→List α
 | 0,_=>[]
 | n+1,g=>g 0::listF n (fun i=>g i.succ)
def bytesL:List (List T)→Option (List Int)
 | []=>some []
 | [.v (.int .u8 k)]::r=>(bytesL r).map (k::·)
 | _::_=>none
def ofBytes (ks:List Int):ByteArray:=⟨(ks.map fun k=>UInt8.ofNat k.toNat).toArray⟩
def rowOfStr (s:ByteArray):S:=.t (.rows 1 s.size (fun i=>[.v (.int .u8 ((s[i.1]'i.2).toNat))]))
def convR (P:Program) (get:Nat→Option B) (a b:TypeId) (x:S):Option S:=
 match convS P a b x with
 | some s=>some s
 | none=>match P.underlying a,P.underlying b with
  | some .string,some (.slice e)=>(match P.underlying e,x with
   | some (.int .u8),.t (.v (.string s))=>bif s.size.ble strMax then some (rowOfStr s) else none
   | _,_=>none)
  | some (.slice e),some .string=>(match P.underlying e,sourceS get 1 x with
   | some (.int .u8),some ⟨n,g,_⟩=>(bytesL (listF n g)).map fun ks=>sv (.string (ofBytes ks))
   | _,_=>none)
  | _,_=>none
def readOp (E:Env) (get:Nat→Option B) (fr:Fr):Op→Option S
 | .load t a=>loadS E.P get t (ev fr a)
 | .lookup t x k ok=>lookS E.P E.K get t (ev fr x) (ev fr k) ok
 | .range t x=>(match E.P.underlying t,ev fr x with
  | some (.map _ _),.mt []=>some .it
  | some (.map _ _),.t (.v (.map none))=>some .it
  | _,_=>none)
 | .next x false=>(match ev fr x with
  | .it=>some (.tup [sv (.bool false)])
  | _=>none)
 | .convert a b x=>convR E.P get a b (ev fr x)
 | .call { callee:=.value f,args,.. }=>match calleeS fr f (args.toList.map (ev fr)) with
  | some (g,az)=>bif !E.fnOk g || E.inl g then none else
   (match quietCall E get g az with
    | some (r,[])=>some r
    | _=>none)
  | none=>none
 | _=>none
def writeOp (E:Env) (h:Heap) (id:Nat) (fr:Fr):Op→Option (S × Heap)
 | .mapUpdate t m k v=>(updS E.P E.K h t (ev fr m) (ev fr k) (ev fr v)).map fun h'=>(S.ud,h')
 | .store t a x=>(storeS E.P h t (ev fr a) (ev fr x)).map fun h'=>(S.ud,h')
 | .call { callee:=.builtin .append,args,argTypes }=>match args.toList.map (ev fr),argTypes.toList with
  | [x,y],[t,u]=>match E.P.underlying t,E.P.underlying u with
   | some (.slice e),some (.slice _)=>appendS E.P h id e x y
   | _,_=>none
  | _,_=>none
 | .call { callee:=.value f,args,.. }=>match calleeS fr f (args.toList.map (ev fr)) with
  | some (g,az)=>bif !E.fnOk g then none else bif E.inl g then E.callI g az h else
   (match quietCall E h.get g az with
    | some (r,l)=>some (r,h.freeze l)
    | none=>none)
  | none=>none
 | _=>none
inductive Cls where
 | p | r | a | w
def clsOf (inl:FuncId→Bool):Op→Cls
 | .load .. => .r
 | .convert .. => .r
 | .lookup .. => .r
 | .range .. => .r
 | .next .. => .r
 | .alloc _ | .box .. | .buildSlice .. | .makeMap .. => .a
 | .store .. | .mapUpdate .. => .w
 | .call { callee:=.builtin .append,.. }=>.w
 | .call { callee:=.value (.func f),.. }=>bif inl f then .w else .r
 | .call { callee:=.value _,.. }=>.w
 | _=>.p
def isCallO:Op→Bool
 | .call _=>true
 | _=>false
def stepOp (E:Env) (dr:Bool) (get:Nat→Option B) (id:Nat) (fr:Fr) (h:Heap) (op:Op):Option (S × Heap):=
 match clsOf E.inl op with
 | .p=>(pureOp E.P E.K fr op).map fun s=>(s,h)
 | .r=>bif dr then (readOp E get fr op).map (fun s=>(s,h)) else
  bif isCallO op then writeOp E h id fr op else (readOp E h.get fr op).map (fun s=>(s,h))
 | .a=>(newOp E.P fr id op).map fun p=>(p.1,h.put id p.2)
 | .w=>writeOp E h id fr op
structure St where
 fr:Fr
 h:Heap
def putS (nt:Nat) (fr:Fr) (dst:Option Tmp) (s:S):Option Fr:=
 match dst with
 | none=>some fr
 | some d=>bif d.blt nt then some (fr.set d (some s)) else none
def wantedS (ops:Array Oper) (fr:Fr) (o:Oper):Option (Bool × Fr):=
 match o.guard with
 | none=>some (true,fr)
 | some (j,want)=>match (ops[j]?).bind (·.dst) with
  | some d=>match fr.get d with
   | some (.t (.v (.bool b)))=>bif b then some (want,fr.set d (some (sv (.bool true)))) else some (!want,fr.set d (some (sv (.bool false))))
   | some (.t (.v _))=>some (false,fr)
   | some .ud=>some (false,fr)
   | _=>none
  | none=>none
def allowed (o:Oper) (k:Nat):Bool:=o.after.toList.any fun e=>Region.binds .any e && e.on.beq k
def dstIn (ops:Array Oper) (a:Nat):Bool:=ops.toList.any fun o=>match o.dst with | some d=>d.beq a | none=>false
def farS:Option S→S→Bool
 | some (.ptr b _),.ptr c _=>!(b.beq c)
 | some (.pt _),_=>true
 | _,_=>false
def loneAt (ops:Array Oper) (i:Nat) (o:Oper) (fr:Fr) (x:S) (j:Nat):Bool:=j.beq i || allowed o j || (match ops[j]? with
 | some oj=>(match oj.op with
  | .load _ (.tmp a)=>allowed oj i || dstIn ops a || farS (fr.get a) x
  | _=>true)
 | none=>true)
def loneOk (ops:Array Oper) (i:Nat) (o:Oper) (fr:Fr):Bool:=match o.op with
 | .store _ x _=>(List.range ops.size).all (loneAt ops i o fr (ev fr x))
 | _=>true
def runOp (E:Env) (nt:Nat) (dr:Bool) (ops:Array Oper) (base:Nat) (i:Nat) (st:St):Option St:=
 match ops[i]? with
 | none=>none
 | some o=>match wantedS ops st.fr o with
  | some (true,fr)=>bif !dr || loneOk ops i o fr then (match stepOp E dr (fun b=>bif b.blt base || allowed o (b - base) then st.h.get b else none) (base+i) fr st.h o.op with
   | some (s,h)=>(putS nt fr o.dst s).map fun fr=>⟨fr,h⟩
   | none=>none) else none
  | some (false,fr)=>(putS nt fr o.dst .ud).map fun fr=>⟨fr,st.h⟩
  | none=>none
def runOps (E:Env) (nt:Nat) (dr:Bool) (ops:Array Oper) (base:Nat):List Nat→St→Option St
 | [],st=>some st
 | i::l,st=>(runOp E nt dr ops base i st).bind (runOps E nt dr ops base l)
inductive Ex where
 | normal
 | exit (id:Nat)
 | ret
def iter (f:St→Option (Ex × St)):Nat→St→Option (Ex × St)
 | 0,_=>none
 | n+1,st=>match f st with
  | some (.normal,st')=>iter f n st'
  | r=>r
mutual
def refsS:S→List Nat
 | .ptr b _=>[b]
 | .sl b _=>[b]
 | .ep b _ _ _=>[b]
 | .agg cs=>refsL cs
 | .tup cs=>refsL cs
 | .fn _ a c=>refsL a++refsL c
 | .mp b=>[b]
 | .mt es=>refsE es
 | _=>[]
def refsL:List S→List Nat
 | []=>[]
 | s::r=>refsS s++refsL r
def refsE:List (S × S)→List Nat
 | []=>[]
 | (k,v)::r=>refsS k++refsS v++refsE r
end
def refsB:B→List Nat
 | .box cs=>refsL cs
 | .lst _ _ _ cs=>refsL cs
 | .mp _ es=>refsE es
 | .row .. => []
def gather (h:Heap):Nat→List Nat→List Nat→List Nat
 | 0,_,seen=>seen.reverse
 | _+1,[],seen=>seen.reverse
 | f+1,b::todo,seen=>bif seen.contains b then gather h f todo seen else
  match h.get b with
  | some x=>gather h f (refsB x++todo) (b::seen)
  | none=>gather h f todo (b::seen)
def indexIn:List Nat→Nat→Nat→Option Nat
 | [],_,_=>none
 | b::r,x,i=>bif b.beq x then some i else indexIn r x (i+1)
mutual
def renS (m:Nat→Option Nat):S→Option S
 | .ptr b o=>(m b).map fun b=>.ptr b o
 | .sl b n=>(m b).map fun b=>.sl b n
 | .ep b z i o=>(m b).map fun b=>.ep b z i o
 | .agg cs=>(renL m cs).map .agg
 | .tup cs=>(renL m cs).map .tup
 | .mp b=>(m b).map .mp
 | .mt es=>(renE m es).map .mt
 | .fn f a c=>(renL m a).bind fun a=>(renL m c).map fun c=>.fn f a c
 | s=>some s
def renL (m:Nat→Option Nat):List S→Option (List S)
 | []=>some []
 | s::r=>(renS m s).bind fun s=>(renL m r).map fun r=>s::r
def renE (m:Nat→Option Nat):List (S × S)→Option (List (S × S))
 | []=>some []
 | (k,v)::r=>(renS m k).bind fun k=>(renS m v).bind fun v=>(renE m r).map fun r=>(k,v)::r
end
def renB (m:Nat→Option Nat):B→Option B
 | .box cs=>(renL m cs).map .box
 | .lst fz sz n cs=>(renL m cs).map fun cs=>.lst fz sz n cs
 | .mp fz es=>(renE m es).map fun es=>.mp fz es
 | b=>some b
def renFr (m:Nat→Option Nat) (fr:Fr):List Nat→Option Fr
 | []=>some .leaf
 | t::r=>match fr.get t with
  | some s=>(renS m s).bind fun s=>(renFr m fr r).map fun fr=>fr.set t (some s)
  | none=>renFr m fr r
def renHeap (m:Nat→Option Nat) (h:Heap):List Nat→Nat→Option (Tr B)
 | [],_=>some .leaf
 | b::r,i=>match h.get b with
  | some x=>(renB m x).bind fun x=>(renHeap m h r (i+1)).map fun t=>t.set i (some x)
  | none=>renHeap m h r (i+1)
def keepRefs (fr:Fr):List Nat→List Nat
 | []=>[]
 | t::r=>match fr.get t with
  | some s=>refsS s++keepRefs fr r
  | none=>keepRefs fr r
def clean (keep:List Nat) (st:St):Option St:=
 let ids:=gather st.h 1000 (keepRefs st.fr keep) []
 let m:=fun b=>indexIn ids b 0
 (renFr m st.fr keep).bind fun fr=>(renHeap m st.h ids 0).map fun t=>⟨fr,⟨ids.length,t⟩⟩
def nilRow (t o sz:Nat) (st:St):St:=match o,st.fr.get t with
 | 0,some (.t (.v (.slice none 0 0)))=>⟨st.fr.set t (some (.sl st.h.next 0)),⟨st.h.next+1,st.h.tr.set st.h.next (some (.row false sz 0 fun i=>i.elim0))⟩⟩
 | k+1,some (.ptr b 0)=>match st.h.get b with
  | some (.box cs)=>match cs[k]? with
   | some (.t (.v (.slice none 0 0)))=>⟨st.fr,⟨st.h.next+1,(st.h.tr.set st.h.next (some (.row false sz 0 fun i=>i.elim0))).set b (some (.box (cs.set k (.sl st.h.next 0))))⟩⟩
   | _=>st
  | _=>st
 | _,_=>st
def nilRows:List Nat→St→St
 | t::o::sz::r,st=>nilRows r (nilRow t o sz st)
 | _,st=>st
def nilsOf (live:FuncId→Nat→Option (List Nat)) (f key:Nat):List Nat:=(live f (2000000+key)).getD []
def cleanR (keep nils:List Nat) (st:St):Option St:=(clean keep st).map (nilRows nils)
def firstR:Code→Nat
 | .region id _ _=>id
 | .seq a _=>firstR a
 | .block _ b=>firstR b
 | .loop b=>firstR b
 | _=>0
def cleanAt (E:Env) (f:FuncId) (gc:Bool) (key:Nat) (st:St):Option St:=
 bif gc then (match E.live f key with
  | some keep=>cleanR keep (nilsOf E.live f key) st
  | none=>some st) else some st
def leaveL (E:Env) (f:FuncId) (gc:Bool) (r:Nat):Ex→St→Option (Ex × St)
 | .normal,_=>none
 | .exit id,st=>(cleanAt E f gc (3*r+1) st).map fun st=>(.exit id,st)
 | .ret,st=>(cleanAt E f gc (3*r+2) st).map fun st=>(.ret,st)
structure RfSpec where
 g:Nat
 ts:Nat
 fi:Nat
 te:Nat
 fo:Nat
def rfSpec (live:FuncId→Nat→Option (List Nat)) (f r:Nat):Option RfSpec:=match live f (1000000+r) with
 | some [g,ts,fi,te,fo]=>some ⟨g,ts,fi,te,fo⟩
 | _=>none
def rfCaps (x:S) (g:Nat):Option (Nat × Nat):=match x with
 | .fn (.func h) [] [.ptr b1 0,.ptr b2 0]=>bif h.beq g then some (b1,b2) else none
 | _=>none
def rfRow (P:Program) (sp:RfSpec) (get:Nat→Option B) (b1:Nat):Option ((n:Nat) × (Fin n→List T)):=match fieldOf P sp.ts sp.fi,get b1 with
 | some (o,_),some (.box cs)=>match cs[o]? with
  | some (.t (.rows sz n g))=>bif sz.beq (P.cellsOf sp.te) && ((n*1).ble roomMax && n.ble roomMax) then some ⟨n,g⟩ else none
  | _=>none
 | _,_=>none
def rfText (get:Nat→Option B) (b2:Nat):Option ByteArray:=match get b2 with
 | some (.box (.t (.v (.string s))::_))=>some s
 | _=>none
def rfOn (P:Program) (sp:RfSpec) (cs:List T):Option ByteArray:=match fieldOf P sp.te sp.fo with
 | some (o,_)=>match cs[o]? with
  | some (.v (.string s))=>some s
  | _=>none
 | none=>none
def onlyP (ps:Array Tmp):Option Nat:=match ps.toList with
 | [p]=>some p
 | _=>none
def dstsC:Code→List Nat
 | .region _ ops _=>ops.toList.filterMap (·.dst)
 | .seq a b=>dstsC a++dstsC b
 | .cond _ a b=>dstsC a++dstsC b
 | .block _ b=>dstsC b
 | .loop b=>dstsC b
 | _=>[]
def rfKeep (keep:List Nat) (p:Nat) (az bd:Code):Bool:=keep.all fun t=>!(t.beq p) && !(dstsC az).contains t && !(dstsC bd).contains t
def rfIter (P:Program) (sp:RfSpec) (q:Operand) (p:Nat) (cl:St→Option St) (A B:St→Option (Ex × St)) {n:Nat} (g:Fin n→List T):Nat→Nat→St→Option St
 | 0,_,_=>none
 | k+1,j,st=>(cl st).bind fun st1=>match (rfCaps (ev st1.fr q) sp.g).bind fun b=>rfText st1.h.get b.2 with
  | none=>none
  | some s=>if h:j < n then (match rfOn P sp (g ⟨j,h⟩) with
    | none=>none
    | some r=>bif strEq r s then (match A ⟨st1.fr.set p (some (.agg ((g ⟨j,h⟩).map .t))),st1.h⟩ with
      | some (.normal,st2)=>(match B st2 with
       | some (.normal,st3)=>rfIter P sp q p cl A B g k (j+1) ⟨st1.fr,st3.h⟩
       | _=>none)
      | _=>none) else rfIter P sp q p cl A B g k (j+1) st1) else some st1
def exec (E:Env) (f:FuncId) (nt:Nat) (gc:Bool) (k:Nat):Code→St→Option (Ex × St)
 | .skip,st=>some (.normal,st)
 | .region _ ops draw,st=>
   (runOps E nt draw ops st.h.next (List.range ops.size) ⟨st.fr,⟨st.h.next+ops.size,st.h.tr⟩⟩).map fun st=>(.normal,st)
 | .seq a b,st=>(exec E f nt gc k a st).bind fun p=>match p with
  | (.normal,st')=>exec E f nt gc k b st'
  | p=>some p
 | .cond c a b,st=>match ev st.fr c with
  | .t (.v (.bool p))=>bif p then exec E f nt gc k a st else exec E f nt gc k b st
  | _=>none
 | .block id b,st=>(exec E f nt gc k b st).bind fun p=>match p with
  | (.exit i,st')=>bif i.beq id then some (.normal,st') else some (.exit i,st')
  | p=>some p
 | .loop b,st=>(iter (fun st=>(cleanAt E f gc (3*firstR b) st).bind (exec E f nt gc k b)) k st).bind fun p=>leaveL E f gc (firstR b) p.1 p.2
 | .exit id,st=>some (.exit id,st)
 | .ret,st=>some (.ret,st)
 | .rangeFunc q ps az bd,st=>(onlyP ps).bind fun p=>(rfSpec E.live f (firstR az)).bind fun sp=>(E.live f (3*firstR az)).bind fun keep=>bif gc && (rfKeep keep p az bd && p.blt nt) then
   (rfCaps (ev st.fr q) sp.g).bind fun b=>(rfRow E.P sp st.h.get b.1).bind fun row=>(rfIter E.P sp q p (cleanR keep (nilsOf E.live f (3*firstR az))) (exec E f nt false k az) (exec E f nt false k bd) row.2 k 0 st).map fun st=>(.normal,st) else none
 | _,_=>none
def frOf:Nat→List S→Fr
 | _,[]=>.leaf
 | i,s::r=>(frOf (i+1) r).set i (some s)
def resS (P:Program) (st:St):List ResultVar→Option (List S)
 | []=>some []
 | .tmp t::r=>(resS P st r).map fun l=>ev st.fr (.tmp t)::l
 | .cell a t::r=>(loadS P st.h.get t (ev st.fr (.tmp a))).bind fun s=>(resS P st r).map fun l=>s::l
def resultS:List S→S
 | [v]=>v
 | vs=>.tup vs
def isEnd:Ex→Bool
 | .exit _=>false
 | _=>true
def Env.fn (E:Env) (f:FuncId):Option Func:=match E.ov f with
 | some fn=>some fn
 | none=>E.P.funcs[f]?
def runBody (E:Env) (gc:Bool) (k:Nat) (f:FuncId) (args:List S) (h:Heap):Option (S × Heap):=
 match E.fn f with
 | none=>none
 | some fn=>match fn.body with
  | none=>none
  | some c=>bif args.length.ble fn.ntmps then
   ((exec E f fn.ntmps gc k c ⟨frOf 0 args,h⟩).bind fun p=>bif isEnd p.1 then (resS E.P p.2 fn.results.toList).map fun vs=>(resultS vs,p.2.h) else none) else none
inductive Sh where
 | int (k:IntKind) (j:Nat)
 | bool (j:Nat)
 | str (j:Nat)
 | rows (sz j:Nat)
 | mt (j:Nat)
 | agg (l:List Sh)
 | tup (l:List Sh)
def shT (P:Program):Nat→TypeId→Nat→Option (List Sh)
 | 0,_,_=>none
 | d+1,t,j=>match P.underlying t with
  | some .bool=>some [.bool j]
  | some (.int k)=>some [.int k j]
  | some .string=>some [.str j]
  | some (.slice e)=>some [.rows (P.cellsOf e) j]
  | some (.map _ _)=>some [.mt j]
  | some (.struct fs)=>fs.toList.foldr (fun f r=>match r,shT P d f.type (j+f.offset) with | some l,some x=>some (x++l) | _,_=>none) (some [])
  | some (.array n e)=>(List.range n).foldr (fun i r=>match r,shT P d e (j+i*P.cellsOf e) with | some l,some x=>some (x++l) | _,_=>none) (some [])
  | _=>none
def shV (P:Program) (t:TypeId) (j:Nat):Option (Sh × Nat):=
 match shT P 10 t j with
 | some l=>match P.underlying t with
  | some (.struct _)=>some (.agg l,j+l.length)
  | some (.array _ _)=>some (.agg l,j+l.length)
  | _=>match l with
   | [x]=>some (x,j+1)
   | _=>none
 | none=>none
def shR (P:Program):List TypeId→Nat→Option (List Sh)
 | [],_=>some []
 | t::r,j=>match shV P t j with
  | some (x,j')=>match shR P r j' with
   | some l=>some (x::l)
   | none=>none
  | none=>none
def shF (P:Program) (f:FuncId):Option Sh:=
 match P.funcs[f]? with
 | some fn=>match shR P fn.resultTypes.toList 0 with
  | some [x]=>some x
  | some l=>some (.tup l)
  | none=>none
 | none=>none
mutual
def nilN:Sh→S→S
 | .rows sz _,.t (.v (.slice none 0 0))=>.t (.rows sz 0 fun i=>i.elim0)
 | .agg l,.agg cs=>.agg (nilL l cs)
 | .tup l,.tup cs=>.tup (nilL l cs)
 | _,s=>s
def nilL:List Sh→List S→List S
 | sh::l,s::r=>nilN sh s::nilL l r
 | _,cs=>cs
end
def normF (P:Program) (f:FuncId) (s:S):S:=match shF P f with
 | some sh=>nilN sh s
 | none=>s
structure Opts where
 P:Program
 K:TypeId→Option (List Nat)
 fnOk:FuncId→Bool
 fns:FuncId→Bool
 inl:FuncId→Bool
 live:FuncId→Nat→Option (List Nat)
 ov:FuncId→Option Func
 ext:FuncId→Option (List S→Option S)
def inplF (F:List S→Option S) (args:List S) (h:Heap):Option (S × Heap):=match args with
 | [.sl b _,.t x]=>match h.get b with
  | some (.row false sz m g)=>match F [.t (.rows sz m g),.t x] with
   | some (.t (.rows sz' m' g'))=>bif sz'.beq sz then some (.tup [],h.put b (.row false sz m' g')) else none
   | _=>none
  | _=>none
 | _=>none
def envN (O:Opts):Nat→Env
 | 0=>⟨O.P,O.K,O.fnOk,O.inl,O.live,O.ov,(fun _ _=>none),(fun _ _ _=>none)⟩
 | k+1=>⟨O.P,O.K,O.fnOk,O.inl,O.live,O.ov,
   (fun f args=>match O.ext f with
    | some F=>F args
    | none=>bif O.fns f then
     (match runBody (envN O k) true k f args .empty with
      | some (r,h)=>(closeS h.get depthS r).map fun p=>normF O.P f p.1
      | none=>none) else none),
   (fun f args h=>match O.ext (2000000+f) with
    | some F=>inplF F args h
    | none=>bif O.fns f && (O.ov f).isNone then runBody (envN O k) false k f args h else none)⟩
def loadUpd:Op→Op→Bool
 | .load ..,.mapUpdate .. => true
 | .mapUpdate ..,.load .. => true
 | _,_=>false
def clsApart (inl:FuncId→Bool) (x y:Op):Bool:=
 loadUpd x y || match clsOf inl x,clsOf inl y with
 | .p,_=>true
 | _,.p=>true
 | .w,_=>false
 | _,.w=>false
 | _,_=>true
def loadStore (ops:Array Oper):Op→Op→Bool
 | .load _ (.tmp a),.store .. => !dstIn ops a
 | .store ..,.load _ (.tmp a)=>!dstIn ops a
 | _,_=>false
def indepOk (inl:FuncId→Bool) (ops:Array Oper):Bool:=
 let bef:=Region.before ops
 (List.range ops.size).all fun i=>(List.range i).all fun j=>
  (bef.getD i 0).testBit j ||
  (match ops[j]?,ops[i]? with
   | some x,some y=>Oper.apart ops x y && (clsApart inl x.op y.op || loadStore ops x.op y.op) && !allowed y j && !allowed x i
   | _,_=>false)
def edgesOk (ops:Array Oper):Bool:=
 (List.range ops.size).all fun i=>match ops[i]? with
  | some o=>o.after.all fun e=>!Region.binds .any e || e.on.blt i
  | none=>false
def okCode (inl:FuncId→Bool):Code→Bool
 | .region _ ops true=>indepOk inl ops && edgesOk ops
 | .seq a b=>okCode inl a && okCode inl b
 | .cond _ a b=>okCode inl a && okCode inl b
 | .block _ b=>okCode inl b
 | .loop b=>okCode inl b
 | .rangeFunc _ _ a b=>okCode inl a && okCode inl b
 | _=>true
end Go.Proofs.YtonkoellfaopiaaGreatDoor.H
namespace Go.Proofs.YtonkoellfaopiaaGreatDoor.H
open Go Go.RowKit
structure Gh where
 mu:Nat→Option Value
 own:Nat→Option Nat
 imm:Nat→Prop
inductive TRep (w:World) (I:Nat→Prop):T→Value→Prop
 | v (x:Value) (h:x.oneCell'=true):TRep w I (.v x) x
 | rows (sz n:Nat) (get:Fin n→List T) (base:Option Addr) (cap:Nat) (vs:Fin n→Nat→Value) (hcap:n≤cap) (hlen:∀ i,(get i).length=sz)
   (hb:n≠0→∃ r o,base=some ⟨r,o,none⟩∧I r∧∀ (i:Fin n) (k:Nat) (c:T),(get i)[k]?=some c→w.cell? ⟨r,o+i.1*sz+k,none⟩=some (vs i k))
   (hc:∀ (i:Fin n) (k:Nat) (c:T),(get i)[k]?=some c→TRep w I c (vs i k)):
   TRep w I (.rows sz n get) (.slice base n cap)
def CellsAt (w:World) (I:Nat→Prop) (a:Addr) (cs:List T):Prop:=
 ∀ (k:Nat) (c:T),cs[k]?=some c→∃ v,w.cell? ⟨a.block,a.off+k,none⟩=some v∧TRep w I c v
def BornOk (arr:Array MapEntry) (clock:Nat):Prop:=(∀ x∈arr.toList,x.born < clock)∧(arr.toList.map (·.born)).Nodup
theorem bornOk_push {arr:Array MapEntry} {clock:Nat} (h:BornOk arr clock) (k v:Value):BornOk (arr.push { key:=k,val:=v,born:=clock }) (clock+1):=by
 refine ⟨fun x hx=>?_,?_⟩
 ·rw [Array.toList_push,List.mem_append] at hx
  rcases hx with hx | hx
  ·exact Nat.lt_succ_of_lt (h.1 x hx)
  ·rw [List.mem_singleton.1 hx];exact Nat.lt_succ_self _
 ·rw [Array.toList_push,List.map_append,List.nodup_append]
  refine ⟨h.2,by simp,fun a ha b hb e=>?_⟩
  obtain ⟨x,hx,rfl⟩:=List.mem_map.1 ha
  have:b=clock:=by simpa using hb
  have:=h.1 x hx
  omega
theorem bornOk_modify {arr:Array MapEntry} {clock:Nat} (h:BornOk arr clock) (i:Nat) (k v:Value):BornOk (arr.modify i fun e=>{ e with key:=k,val:=v }) clock:=by
 have hm:(arr.modify i fun e=>{ e with key:=k,val:=v }).toList.map (·.born)=arr.toList.map (·.born):=by
  rw [Array.toList_modify]
  refine List.ext_getElem (by simp) fun j h1 h2=>?_
  simp only [List.getElem_map,List.getElem_modify]
  split<;>rfl
 refine ⟨fun x hx=>?_,by rw [hm];exact h.2⟩
 have:x.born∈arr.toList.map (·.born):=hm ▸ List.mem_map_of_mem hx
 obtain ⟨y,hy,e⟩:=List.mem_map.1 this
 rw [← e];exact h.1 y hy
inductive SRep (G:Gh) (w:World):S→Value→Prop
 | un (v:Value):SRep G w .un v
 | t {x:T} {v:Value} (h:TRep w G.imm x v):SRep G w (.t x) v
 | agg {cs:List S} {vs:Array Value} (hl:cs.length=vs.size) (h:∀ (i:Nat) (s:S) (v:Value),cs[i]?=some s→vs[i]?=some v→SRep G w s v):SRep G w (.agg cs) (.agg vs)
 | tup {cs:List S} {vs:Array Value} (hl:cs.length=vs.size) (h:∀ (i:Nat) (s:S) (v:Value),cs[i]?=some s→vs[i]?=some v→SRep G w s v):SRep G w (.tup cs) (.tuple vs)
 | full {sz n:Nat} {get:Fin n→List T} {base:Option Addr} (h:TRep w G.imm (.rows sz n get) (.slice base n n)):SRep G w (.full sz n get) (.slice base n n)
 | pt {cs:List T} {r o:Nat} (hi:G.imm r) (h:CellsAt w G.imm ⟨r,o,none⟩ cs):SRep G w (.pt cs) (.pointer (some ⟨r,o,none⟩))
 | ptr {b o r:Nat} (h:G.mu b=some (.pointer (some ⟨r,0,none⟩))):SRep G w (.ptr b o) (.pointer (some ⟨r,o,none⟩))
 | sl {b n cap:Nat} {base:Option Addr} (h:G.mu b=some (.slice base n cap)) (hb:n≠0→∃ r,base=some ⟨r,0,none⟩):SRep G w (.sl b n) (.slice base n cap)
 | ep {b z i o r n cap:Nat} (h:G.mu b=some (.slice (some ⟨r,0,none⟩) n cap)):SRep G w (.ep b z i o) (.pointer (some ⟨r,i*z+o,none⟩))
 | fn {f:Fn} {a c:List S} {va vc:Array Value} (ha:a.length=va.size) (h:∀ (i:Nat) (s:S) (v:Value),a[i]?=some s→va[i]?=some v→SRep G w s v)
   (hc:c.length=vc.size) (h':∀ (i:Nat) (s:S) (v:Value),c[i]?=some s→vc[i]?=some v→SRep G w s v):SRep G w (.fn f a c) (.func f va vc)
 | nn (t:TypeId) (v:Value):SRep G w .nn (.iface t v)
 | ud:SRep G w .ud undef
 | mp {b r:Nat} (h:G.mu b=some (.map (some r))):SRep G w (.mp b) (.map (some r))
 | mt {es:List (S × S)} {r:Nat} {arr:Array MapEntry} {clock:Nat} (hi:G.imm r) (hb:w.heap[r]?=some (.map arr clock)) (hl:es.length=arr.size)
   (hk:∀ (i:Nat) (e:S × S) (m:MapEntry),es[i]?=some e→arr[i]?=some m→SRep G w e.1 m.key) (hv:∀ (i:Nat) (e:S × S) (m:MapEntry),es[i]?=some e→arr[i]?=some m→SRep G w e.2 m.val) (hw:BornOk arr clock):SRep G w (.mt es) (.map (some r))
 | it {r:Nat} (hi:G.imm r) (h:w.heap[r]?=some (.mapIter none 0 #[] 0)∨∃ m c,G.imm m∧w.heap[m]?=some (.map #[] c)∧w.heap[r]?=some (.mapIter (some m) c #[] c)):SRep G w .it (.pointer (some ⟨r,0,none⟩))
def CellsIn (G:Gh) (w:World) (c:Array Value) (cs:List S):Prop:=
 ∀ (k:Nat) (s:S),cs[k]?=some s→∃ v,c[k]?=some v∧SRep G w s v
def EntIn (G:Gh) (w:World) (arr:Array MapEntry) (es:List (S × S)):Prop:=
 es.length=arr.size∧∀ (i:Nat) (e:S × S) (m:MapEntry),es[i]?=some e→arr[i]?=some m→SRep G w e.1 m.key∧SRep G w e.2 m.val
def RowIn (G:Gh) (w:World) (c:Array Value) (sz n:Nat) (get:Fin n→List T):Prop:=
 ∀ (i:Fin n) (k:Nat) (t:T),(get i)[k]?=some t→∃ v,c[i.1*sz+k]?=some v∧TRep w G.imm t v
def Bare (c:Array Value) (fz:Nat × Nat):Prop:=fz.2≤fz.1∨c.size≤fz.1
inductive BRep (G:Gh) (B0:Nat) (w:World) (b:Nat):B→Prop
 | box {cs:List S} {r:Nat} {c:Array Value} {ty:TypeId} {fz:Nat × Nat} (hmu:G.mu b=some (.pointer (some ⟨r,0,none⟩))) (hown:G.own b=some r)
   (hb:w.heap[r]?=some (.cells c ty fz)) (hf:Bare c fz) (hl:c.size=cs.length) (hc:CellsIn G w c cs) (hi:¬ G.imm r) (hB:B0≤r):BRep G B0 w b (.box cs)
 | lst {f:Bool} {sz n r:Nat} {cs:List S} {c:Array Value} {ty:TypeId} {fz:Nat × Nat} (hmu:G.mu b=some (.slice (some ⟨r,0,none⟩) n n)) (hown:G.own b=some r)
   (hb:w.heap[r]?=some (.cells c ty fz)) (hf:Bare c fz) (hl:c.size=cs.length) (hn:cs.length=n*sz) (hc:CellsIn G w c cs) (hi:f=false→¬ G.imm r) (hB:B0≤r):BRep G B0 w b (.lst f sz n cs)
 | row {f:Bool} {sz n cap r:Nat} {get:Fin n→List T} {c:Array Value} {ty:TypeId} {fz:Nat × Nat} (hmu:G.mu b=some (.slice (some ⟨r,0,none⟩) n cap)) (hown:G.own b=some r)
   (hb:w.heap[r]?=some (.cells c ty fz)) (hf:Bare c fz) (hcap:n≤cap) (hl:cap*sz≤c.size) (hc:RowIn G w c sz n get) (hlen:∀ i,(get i).length=sz) (hi:f=false→¬ G.imm r) (hB:B0≤r):BRep G B0 w b (.row f sz n get)
 | mp {f:Bool} {es:List (S × S)} {r clock:Nat} {arr:Array MapEntry} (hmu:G.mu b=some (.map (some r))) (hown:G.own b=some r) (hb:w.heap[r]?=some (.map arr clock)) (hc:EntIn G w arr es) (hi:f=false→¬ G.imm r) (hB:B0≤r) (hw:BornOk arr clock):BRep G B0 w b (.mp f es)
 | none {f:Bool} {sz:Nat} {get:Fin 0→List T} {base:Option Addr} (hmu:G.mu b=some (.slice base 0 0)) (hown:G.own b=none):BRep G B0 w b (.row f sz 0 get)
def isLD:Obj→Bool
 | .loop _=>true
 | .deferred _=>true
 | _=>false
def NoLd (I:Nat→Prop) (w:World):Prop:=∀ (r:Nat) (o:Obj),I r→w.heap[r]?=some o→isLD o=false
def KeepLd (w w':World):Prop:=∀ (k:Nat) (o:Obj),w.heap[k]?=some o→isLD o=true→w'.heap[k]?=some o
theorem alloc_new (w:World) (o:Obj):(w.alloc o).heap[w.heap.size]?=some o:=by
 show (w.heap.push _)[w.heap.size]?=_
 simp
theorem KeepLd.refl (w:World):KeepLd w w:=fun _ _ h _=>h
theorem KeepLd.trans {w w1 w2:World} (a:KeepLd w w1) (b:KeepLd w1 w2):KeepLd w w2:=fun k o h l=>b k o (a k o h l) l
theorem KeepLd.below {w w':World} (h:Below w.heap.size w w'):KeepLd w w':=fun k o hk _=>(h.block k (Array.getElem?_eq_some_iff.1 hk).1).trans hk
theorem NoLd.mono {I:Nat→Prop} {w w':World} (h:NoLd I w) (hk:∀ r,I r→w'.heap[r]?=w.heap[r]?):NoLd I w':=fun r o hi ho=>h r o hi ((hk r hi).symm.trans ho)
structure Sim (B0:Nat) (w0:World) (G:Gh) (h:Heap) (w:World):Prop where
 below:Below B0 w0 w
 imm:∀ r,G.imm r→r < w.heap.size
 rep:∀ b x,h.get b=some x→BRep G B0 w b x
 inj:∀ b b' r,h.get b≠none→h.get b'≠none→G.own b=some r→G.own b'=some r→b=b'
 lo:∀ b,h.next≤b→G.mu b=none∧h.get b=none
 b0:B0≤w.heap.size
 nold:NoLd G.imm w
structure Nx (B0 id:Nat) (G:Gh) (h:Heap) (w:World) (G':Gh) (h':Heap) (w':World):Prop where
 imm:∀ r,G.imm r→G'.imm r
 keep:∀ r,G.imm r→w'.heap[r]?=w.heap[r]?
 mu:∀ b,b≠id→b < h.next→G'.mu b=G.mu b
 non:∀ b,b≠id→b < h.next→h.get b=none→h'.get b=none
 next:h.next≤h'.next
 old:∀ q,G'.imm q→G.imm q∨B0≤q
 ld:KeepLd w w'
theorem Nx.refl (B0 id:Nat) (G:Gh) (h:Heap) (w:World):Nx B0 id G h w G h w:=⟨fun _ h=>h,fun _ _=>rfl,fun _ _ _=>rfl,fun _ _ _ h=>h,Nat.le_refl _,fun _ h=>.inl h,KeepLd.refl w⟩
theorem Nx.trans {B0 id:Nat} {G G1 G2:Gh} {h h1 h2:Heap} {w w1 w2:World} (a:Nx B0 id G h w G1 h1 w1) (b:Nx B0 id G1 h1 w1 G2 h2 w2):Nx B0 id G h w G2 h2 w2:=
 ⟨fun r hr=>b.imm r (a.imm r hr),fun r hr=>(b.keep r (a.imm r hr)).trans (a.keep r hr),fun x h1 h2=>(b.mu x h1 (Nat.lt_of_lt_of_le h2 a.next)).trans (a.mu x h1 h2),
  fun x h1 h2 h3=>b.non x h1 (Nat.lt_of_lt_of_le h2 a.next) (a.non x h1 h2 h3),Nat.le_trans a.next b.next,fun q h=>(b.old q h).elim (a.old q) .inr,a.ld.trans b.ld⟩
theorem cell_of_heap {w w':World} {a:Addr} (h:w'.heap[a.block]?=w.heap[a.block]?):w'.cell? a=w.cell? a:=World.cell?_of_block (w:=w) h
theorem TRep.mono {w w':World} {I I':Nat→Prop} (hI:∀ r,I r→I' r) (hk:∀ r,I r→w'.heap[r]?=w.heap[r]?) {t:T} {v:Value} (h:TRep w I t v):TRep w' I' t v:=by
 induction h with
 | v x h=>exact .v x h
 | rows sz n get base cap vs hcap hlen hb hc ih=>
  refine .rows sz n get base cap vs hcap hlen (fun hn=>?_) ih
  obtain ⟨r,o,e,hr,hcell⟩:=hb hn
  exact ⟨r,o,e,hI r hr,fun i k c hg=>(cell_of_heap (hk r hr)).trans (hcell i k c hg)⟩
theorem CellsAt.mono {w w':World} {I I':Nat→Prop} (hI:∀ r,I r→I' r) (hk:∀ r,I r→w'.heap[r]?=w.heap[r]?) {a:Addr} {cs:List T} (ha:I a.block) (h:CellsAt w I a cs):CellsAt w' I' a cs:=
 fun k c hc=>let ⟨v,hv,ht⟩:=h k c hc;⟨v,(cell_of_heap (a:=⟨a.block,a.off+k,none⟩) (hk _ ha)).trans hv,ht.mono hI hk⟩
theorem SRep.mono {G G':Gh} {w w':World} (hI:∀ r,G.imm r→G'.imm r) (hk:∀ r,G.imm r→w'.heap[r]?=w.heap[r]?) (hm:∀ b x,G.mu b=some x→G'.mu b=some x) {s:S} {v:Value} (h:SRep G w s v):SRep G' w' s v:=by
 induction h with
 | un v=>exact .un v
 | t h=>exact .t (h.mono hI hk)
 | agg hl _ ih=>exact .agg hl ih
 | tup hl _ ih=>exact .tup hl ih
 | full h=>exact .full (h.mono hI hk)
 | pt hi h=>exact .pt (hI _ hi) (CellsAt.mono hI hk hi h)
 | ptr h=>exact .ptr (hm _ _ h)
 | sl h hb=>exact .sl (hm _ _ h) hb
 | ep h=>exact .ep (hm _ _ h)
 | fn ha _ hc _ ih ih'=>exact .fn ha ih hc ih'
 | nn t v=>exact .nn t v
 | ud=>exact .ud
 | mp h=>exact .mp (hm _ _ h)
 | mt hi hb hl _ _ hw ih ih'=>exact .mt (hI _ hi) ((hk _ hi).trans hb) hl ih ih' hw
 | it hi h=>exact .it (hI _ hi) (h.imp (fun e=>(hk _ hi).trans e) fun ⟨m,c,h1,h2,h3⟩=>⟨m,c,hI _ h1,(hk _ h1).trans h2,(hk _ hi).trans h3⟩)
theorem EntIn.mono {G G':Gh} {w w':World} {arr:Array MapEntry} {es:List (S × S)} (h:EntIn G w arr es) (hI:∀ r,G.imm r→G'.imm r) (hk:∀ r,G.imm r→w'.heap[r]?=w.heap[r]?) (hm:∀ b x,G.mu b=some x→G'.mu b=some x):EntIn G' w' arr es:=
 ⟨h.1,fun i e m h1 h2=>⟨(h.2 i e m h1 h2).1.mono hI hk hm,(h.2 i e m h1 h2).2.mono hI hk hm⟩⟩
theorem Nx.srep {B0 id:Nat} {w0:World} {G G':Gh} {h h':Heap} {w w':World} (n:Nx B0 id G h w G' h' w') (hs:Sim B0 w0 G h w) (hid:G.mu id=none) {s:S} {v:Value} (hr:SRep G w s v):SRep G' w' s v:=
 hr.mono n.imm n.keep fun b x hb=>by
  have hne:b≠id:=fun e=>by rw [e,hid] at hb;cases hb
  have hlt:b < h.next:=by
   rcases Nat.lt_or_ge b h.next with hh | hh
   ·exact hh
   ·rw [(hs.lo b hh).1] at hb;cases hb
  rw [n.mu b hne hlt];exact hb
structure FRep (nt:Nat) (G:Gh) (w:World) (fr:Fr) (a:Act):Prop where
 size:a.tmps.size=nt
 rep:∀ t s,fr.get t=some s→∃ v,a.tmps[t]?=some v∧SRep G w s v
theorem FRep.mono {nt:Nat} {G G':Gh} {w w':World} {fr:Fr} {a:Act} (h:FRep nt G w fr a) (hm:∀ s v,SRep G w s v→SRep G' w' s v):FRep nt G' w' fr a:=
 ⟨h.size,fun t s hs=>let ⟨v,hv,hr⟩:=h.rep t s hs;⟨v,hv,hm s v hr⟩⟩
theorem srep_list_sv {G:Gh} {w:World} {vs:List Value} (ho:vs.all Value.oneCell'=true) {i:Nat} {s:S} {v:Value} (h:(vs.map sv)[i]?=some s) (h':vs[i]?=some v):SRep G w s v:=by
 rw [List.getElem?_map,h'] at h
 obtain rfl:=Option.some.inj h
 exact .t (.v v (List.all_eq_true.1 ho v (List.mem_of_getElem? h')))
theorem srep_const {G:Gh} {w:World} (v:Value):SRep G w (constS v) v:=by
 unfold constS
 split
 ·rename_i cs
  cases ho:cs.toList.all Value.oneCell'
  ·exact .un _
  ·exact .agg (by simp) fun i s v hs hv=>srep_list_sv ho hs (by simpa using hv)
 ·exact .un _
 ·rename_i h1 h2
  refine .t (.v _ ?_)
  cases v<;>first | rfl | (exact absurd rfl (h1 _)) | (exact absurd rfl (h2 _))
theorem FRep.ev {nt:Nat} {G:Gh} {w:World} {fr:Fr} {a:Act} (h:FRep nt G w fr a) (x:Operand):SRep G w (ev fr x) (a.eval x):=by
 cases x with
 | tmp t=>
  show SRep G w ((fr.get t).getD .un) (a.tmps.getD t undef)
  cases e:fr.get t with
  | none=>exact .un _
  | some s=>
   obtain ⟨v,hv,hr⟩:=h.rep t s e
   simp only [Option.getD_some]
   rw [Array.getD_eq_getD_getElem?,hv]
   exact hr
 | const v=>exact srep_const v
 | global g=>exact .t (.v _ rfl)
 | func f=>exact .t (.v _ rfl)
theorem FRep.put {nt:Nat} {G:Gh} {w:World} {fr fr':Fr} {a:Act} (h:FRep nt G w fr a) {dst:Option Tmp} {s:S} {v:Value} (hp:putS nt fr dst s=some fr') (hs:SRep G w s v):FRep nt G w fr' (a.put dst v):=by
 unfold putS at hp
 cases dst with
 | none=>
  obtain rfl:=Option.some.inj hp
  exact h
 | some d=>
  simp only at hp
  cases hb:d.blt nt with
  | false=>rw [hb] at hp;cases hp
  | true=>
   rw [hb] at hp
   obtain rfl:=Option.some.inj hp
   have hd:d < nt:=by simpa [Nat.blt_eq] using hb
   refine ⟨by simp [Act.put,h.size],fun t s' hg=>?_⟩
   rw [get_set] at hg
   by_cases e:d=t
   ·subst e
    rw [if_pos rfl] at hg
    obtain rfl:=Option.some.inj hg
    exact ⟨v,by simp [Act.put,Array.getElem?_setIfInBounds,h.size,hd],hs⟩
   ·rw [if_neg e] at hg
    obtain ⟨v',hv',hr⟩:=h.rep t s' hg
    exact ⟨v',by simp only [Act.put];rw [Array.getElem?_setIfInBounds_ne e];exact hv',hr⟩
def Mks (L:Nat) (w:World) (l:List Deferred):Prop:=(∀ d∈l,∃ D,d={ target:=.collected D,args:=#[] }∧L≤D∧w.heap[D]?=some (.deferred (some [])))∧l.Nodup
theorem Mks.mono {B0:Nat} {w w':World} {l:List Deferred} (h:Mks B0 w l) (hk:KeepLd w w'):Mks B0 w' l:=⟨fun d hd=>let ⟨D,e,hb,hw⟩:=h.1 d hd;⟨D,e,hb,hk D _ hw rfl⟩,h.2⟩
theorem Mks.nil (B0:Nat) (w:World):Mks B0 w []:=⟨(fun _ h=>by cases h),List.nodup_nil⟩
section
variable {P:Program} {G:Gh} {w:World} {nt:Nat} {fr:Fr} {a:Act}
theorem srep_v {x v:Value} (h:SRep G w (.t (.v x)) v):v=x∧x.oneCell'=true:=by
 cases h with | t h=>cases h with | v _ ho=>exact ⟨rfl,ho⟩
theorem srep_sv {x:Value} (h:x.oneCell'=true):SRep G w (sv x) x:=.t (.v x h)
theorem srep_agg {cs:List S} {v:Value} (h:SRep G w (.agg cs) v):∃ vs,v=.agg vs∧cs.length=vs.size∧∀ (i:Nat) (s:S) (v:Value),cs[i]?=some s→vs[i]?=some v→SRep G w s v:=by
 cases h with | agg hl h=>exact ⟨_,rfl,hl,h⟩
theorem srep_tup {cs:List S} {v:Value} (h:SRep G w (.tup cs) v):∃ vs,v=.tuple vs∧cs.length=vs.size∧∀ (i:Nat) (s:S) (v:Value),cs[i]?=some s→vs[i]?=some v→SRep G w s v:=by
 cases h with | tup hl h=>exact ⟨_,rfl,hl,h⟩
def LRep (G:Gh) (w:World) (cs:List S) (vs:List Value):Prop:=cs.length=vs.length∧∀ (i:Nat) (s:S) (v:Value),cs[i]?=some s→vs[i]?=some v→SRep G w s v
theorem srep_agg' {cs:List S} {v:Value} (h:SRep G w (.agg cs) v):∃ vs,v=.agg vs∧LRep G w cs vs.toList:=by
 obtain ⟨vs,rfl,hl,h⟩:=srep_agg h
 exact ⟨vs,rfl,by simpa using hl,fun i s v h1 h2=>h i s v h1 (by simpa using h2)⟩
theorem LRep.agg {cs:List S} {vs:List Value} (h:LRep G w cs vs):SRep G w (.agg cs) (.agg vs.toArray):=
 .agg (by simpa using h.1) fun i s v h1 h2=>h.2 i s v h1 (by simpa using h2)
theorem LRep.agg' {cs:List S} {vs:Array Value} (h:LRep G w cs vs.toList):SRep G w (.agg cs) (.agg vs):=
 .agg (by simpa using h.1) fun i s v h1 h2=>h.2 i s v h1 (by simpa using h2)
theorem LRep.drop {cs:List S} {vs:List Value} (h:LRep G w cs vs) (n:Nat):LRep G w (cs.drop n) (vs.drop n):=
 ⟨by simp [h.1],fun i s v h1 h2=>h.2 (n+i) s v (by simpa using h1) (by simpa using h2)⟩
theorem LRep.take {cs:List S} {vs:List Value} (h:LRep G w cs vs) (n:Nat):LRep G w (cs.take n) (vs.take n):=
 ⟨by simp [h.1],fun i s v h1 h2=>by
  rw [List.getElem?_take] at h1 h2
  split at h1
  ·rename_i hi;rw [if_pos hi] at h2;exact h.2 i s v h1 h2
  ·cases h1⟩
theorem LRep.set {cs:List S} {vs:List Value} (h:LRep G w cs vs) (n:Nat) {s:S} {v:Value} (hs:SRep G w s v):LRep G w (cs.set n s) (vs.set n v):=
 ⟨by simp [h.1],fun i s' v' h1 h2=>by
  rw [List.getElem?_set] at h1 h2
  by_cases e:n=i
  ·rw [if_pos e] at h1 h2
   split at h1
   ·rw [if_pos (by rw [← h.1];assumption)] at h2
    obtain rfl:=Option.some.inj h1
    obtain rfl:=Option.some.inj h2
    exact hs
   ·cases h1
  ·rw [if_neg e] at h1 h2
   exact h.2 i s' v' h1 h2⟩
theorem LRep.nil:LRep G w [] []:=⟨rfl,fun i s v h=>by simp at h⟩
theorem LRep.cons {s:S} {v:Value} {cs:List S} {vs:List Value} (h:SRep G w s v) (t:LRep G w cs vs):LRep G w (s::cs) (v::vs):=
 ⟨by simp [t.1],fun i s' v' h1 h2=>by
  cases i with
  | zero=>simp at h1 h2;subst h1;subst h2;exact h
  | succ i=>simp at h1 h2;exact t.2 i s' v' h1 h2⟩
theorem LRep.uncons {s:S} {cs:List S} {vs:List Value} (h:LRep G w (s::cs) vs):∃ v r,vs=v::r∧SRep G w s v∧LRep G w cs r:=by
 cases vs with
 | nil=>have:=h.1;simp at this
 | cons v r=>exact ⟨v,r,rfl,h.2 0 s v (by simp) (by simp),⟨by have:=h.1;simpa using this,fun i s' v' h1 h2=>h.2 (i+1) s' v' (by simpa using h1) (by simpa using h2)⟩⟩
theorem LRep.append {cs cs':List S} {vs vs':List Value} (h:LRep G w cs vs) (h':LRep G w cs' vs'):LRep G w (cs++cs') (vs++vs'):=
 ⟨by simp [h.1,h'.1],fun i s v h1 h2=>by
  rw [List.getElem?_append] at h1 h2
  rw [h.1] at h1
  split at h1
  ·rename_i hi;rw [if_pos hi] at h2;exact h.2 i s v h1 h2
  ·rename_i hi;rw [if_neg hi] at h2;exact h'.2 _ s v h1 h2⟩
theorem srep_cells {s:S} {v:Value} (h:SRep G w s v) (hs:defS s=true):LRep G w (cellsOfS s) v.cells.toList:=by
 cases h with
 | agg hl h=>exact ⟨by simpa [cellsOfS,Value.cells] using hl,fun i s v h1 h2=>h i s v h1 (by simpa [Value.cells] using h2)⟩
 | un=>cases hs
 | t h=>cases h with
  | v x ho=>
   have:v.cells=#[v]:=by cases v<;>first | rfl | (simp [Value.oneCell'] at ho)
   rw [this];exact .cons (.t (.v v ho)) .nil
  | rows sz n get base cap vs hcap hl hb hc=>exact .cons (.t (.rows sz n get base cap vs hcap hl hb hc)) .nil
 | tup hl h=>exact .cons (.tup hl h) .nil
 | full h=>exact .cons (.full h) .nil
 | pt hi h=>exact .cons (.pt hi h) .nil
 | ptr h=>exact .cons (.ptr h) .nil
 | sl h hb=>exact .cons (.sl h hb) .nil
 | ep h=>exact .cons (.ep h) .nil
 | fn a b c d=>exact .cons (.fn a b c d) .nil
 | nn t v=>exact .cons (.nn t v) .nil
 | ud=>exact .cons .ud .nil
 | mp h=>exact .cons (.mp h) .nil
 | mt a b c d e f=>exact .cons (.mt a b c d e f) .nil
 | it a b=>exact .cons (.it a b) .nil
theorem bytesEq_iff:∀ (a b:List UInt8),bytesEq a b=(a == b)
 | [],[]=>rfl
 | [],_::_=>rfl
 | _::_,[]=>rfl
 | x::a,y::b=>by
  simp only [bytesEq,bytesEq_iff a b,List.cons_beq_cons]
  cases e:x.toNat.beq y.toNat
  ·have:(x == y)=false:=by
    have h:x.toNat≠y.toNat:=by intro h;rw [h] at e;simp at e
    simp only [beq_eq_false_iff_ne,ne_eq];intro h';exact h (by rw [h'])
   simp [this]
  ·have:x=y:=UInt8.toNat_inj.1 (Nat.eq_of_beq_eq_true e)
   simp [this]
theorem binInt_run (op:BinOp) (t:TypeId) (k:IntKind) (x y:Int) {s:Value} (h:binInt op k x y=some s) (hsh:op≠.shl∧op≠.shr):(binOp op t (.int k x) (.int k y)).run P w=.ok s w∧s.oneCell'=true:=by
 cases op<;>simp only [binInt] at h<;>first
  | (obtain rfl:=Option.some.inj h;exact ⟨by simp [binOp,Op.intArith,Op.intCmp,Op.intBits]<;>rfl,rfl⟩)
  | (by_cases e:y=0
     ·simp [e] at h
     ·simp only [e,decide_false,cond_false] at h
      obtain rfl:=Option.some.inj h
      exact ⟨by simp [binOp,Op.intDiv,e],rfl⟩)
  | (cases h;done)
  | (exact absurd rfl hsh.1)
  | (exact absurd rfl hsh.2)
theorem binShift_run (op:BinOp) (t:TypeId) (k k':IntKind) (x y:Int) {s:Value} (h:binShift op k x y=some s):(binOp op t (.int k x) (.int k' y)).run P w=.ok s w∧s.oneCell'=true:=by
 unfold binShift at h
 by_cases e:y < 0
 ·simp [e] at h
 ·simp only [e,decide_false,cond_false] at h
  cases op<;>simp only at h<;>first
   | (obtain rfl:=Option.some.inj h;exact ⟨by simp [binOp,Op.shift,e],rfl⟩)
   | (cases h;done)
theorem binStr_run (op:BinOp) (t:TypeId) (x y:ByteArray) {s:Value} (h:binStr op x y=some s):(binOp op t (.string x) (.string y)).run P w=.ok s w∧s.oneCell'=true:=by
 have heq:(x.toList == y.toList)=strEq x y:=by simp only [strEq,bytesEq_iff,Lib.toList_data]
 have hlt:Op.bytesLess x.toList y.toList=strLt x y:=by simp only [strLt,Lib.toList_data]
 cases op<;>simp only [binStr] at h<;>first
  | (cases e:decide (x.size+y.size≤strMax) with
     | false=>rw [e] at h;cases h
     | true=>
      rw [e] at h
      obtain rfl:=Option.some.inj h
      have e':x.size+y.size≤strMax:=of_decide_eq_true e
      have:¬ (((x.size+y.size:Nat):Int) > IntKind.i64.max):=by
       have h1:IntKind.i64.max=9223372036854775807:=by rfl
       rw [h1];unfold strMax at e';omega
      exact ⟨by simp only [binOp,Op.stringOp,if_neg this,Sem.run_pure],rfl⟩)
  | (obtain rfl:=Option.some.inj h;exact ⟨by simp only [binOp,Op.stringOp,Sem.run_pure,heq,hlt],rfl⟩)
  | (cases h;done)
theorem run_isAgg (t:TypeId) {d:TypeDesc} (h:P.underlying t=some d):(isAgg t).run P w=.ok (isAggB P t) w:=by
 unfold isAgg isAggB
 rw [Sem.run_bind,run_underlying h,h]
 cases d<;>rfl
theorem info_of_underlying {t:TypeId} {d:TypeDesc} (h:P.underlying t=some d):∃ i,P.info? t=some i:=by
 unfold Program.underlying at h
 split at h<;>rename_i e<;>first | exact ⟨_,e⟩ | cases h
theorem cellsOf_of_info {t:TypeId} {i:TypeInfo} (h:P.info? t=some i):P.cellsOf t=i.size:=by simp [Program.cellsOf,h]
theorem run_sizeOf_ok {t:TypeId} {d:TypeDesc} (h:P.underlying t=some d):(sizeOf t).run P w=.ok (P.cellsOf t) w:=by
 obtain ⟨i,hi⟩:=info_of_underlying h
 exact run_sizeOf w hi
theorem run_part_ok {t:TypeId} {d:TypeDesc} (ht:P.underlying t=some d) {cs:List S} {vs:Array Value} {o:Nat} {s:S} (hc:LRep G w cs vs.toList) (h:takeS (isAggB P t) (P.cellsOf t) (cs.drop o)=some s):
  ∃ v,(part t vs o).run P w=.ok v w∧SRep G w s v:=by
 unfold part
 simp only [Sem.run_bind,run_isAgg t ht,Result.andThen_ok]
 unfold takeS at h
 cases e:isAggB P t
 ·rw [e] at h
  simp only [cond_false] at h
  cases hd:cs.drop o with
  | nil=>rw [hd] at h;cases h
  | cons c r=>
   rw [hd] at h
   obtain rfl:=Option.some.inj h
   obtain ⟨v,r',hv,hs,_⟩:=LRep.uncons (hd ▸ hc.drop o)
   have hv':vs[o]?=some v:=by
    have:(vs.toList.drop o)[0]?=some v:=by rw [hv];rfl
    simpa using this
   exact ⟨v,by simp [hv'],hs⟩
 ·rw [e] at h
  simp only [cond_true] at h
  cases hl:(P.cellsOf t).ble (cs.drop o).length with
  | false=>rw [hl] at h;cases h
  | true=>
   rw [hl] at h
   obtain rfl:=Option.some.inj h
   refine ⟨.agg (vs.extract o (o+P.cellsOf t)),by simp only [if_true,Sem.run_bind,run_sizeOf_ok ht,Result.andThen_ok,Sem.run_pure],?_⟩
   have:(vs.extract o (o+P.cellsOf t)).toList=(vs.toList.drop o).take (P.cellsOf t):=by simp [Array.toList_extract,List.extract_eq_take_drop]
   exact LRep.agg' (by rw [this];exact (hc.drop o).take _)
theorem fieldOf_spec {t:TypeId} {f o:Nat} {ft:TypeId} (h:fieldOf P t f=some (o,ft)):∃ fs x,P.underlying t=some (.struct fs)∧fs[f]?=some x∧x.offset=o∧x.type=ft∧P.cellsOf ft≠0:=by
 unfold fieldOf at h
 split at h
 ·rename_i fs hu
  split at h
  ·rename_i x hx
   cases e:(P.cellsOf x.type).beq 0 with
   | true=>rw [e] at h;cases h
   | false=>
    rw [e] at h
    simp only [cond_false,Option.some.injEq,Prod.mk.injEq] at h
    refine ⟨fs,x,hu,hx,h.1,h.2,?_⟩
    rw [← h.2]
    intro h0;rw [h0] at e;cases e
  ·cases h
 ·cases h
end
end Go.Proofs.YtonkoellfaopiaaGreatDoor.H
