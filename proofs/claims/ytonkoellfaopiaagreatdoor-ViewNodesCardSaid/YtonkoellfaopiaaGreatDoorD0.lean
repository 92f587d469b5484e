import Derived.Calls
import Derived.Orders
import Derived.Below
set_option linter.unusedSimpArgs false
set_option linter.unusedVariables false
set_option linter.unusedSectionVars false
namespace Go.Proofs.YtonkoellfaopiaaGreatDoor.H
open Go
inductive T where
 | v (x:Value)
 | rows (sz n:Nat) (get:Fin n→List T)
 | fr (sz n:Nat) (get:Fin n→List T)
def kp:T→T
 | .fr sz n g=>.rows sz n g
 | t=>t
inductive S where
 | un
 | t (x:T)
 | agg (cs:List S)
 | bJ (vs:List S)
 | full (sz n:Nat) (get:Fin n→List T)
 | top (sz n:Nat) (get:Fin n→List T)
 | pt (cs:List T)
 | ptr (b off:Nat)
 | sl (b n:Nat)
 | ep (b sz i off:Nat)
 | fn (f:Fn) (first cap:List S)
 | nn
 | ud
 | mp (b:Nat)
 | mt (es:List (S × S))
 | it
inductive B where
 | box (cs:List S)
 | fO (fz:Bool) (sz n:Nat) (cs:List S)
 | row (fz:Bool) (sz n:Nat) (get:Fin n→List T)
 | mp (fz:Bool) (es:List (S × S))
inductive Tr (α:Type) where
 | leaf
 | node (v:Option α) (l r:Tr α)
def Tr.l_ {α:Type}:Tr α→List Bool→Option α
 | .leaf,_=>none
 | .node v _ _,[]=>v
 | .node _ l r,b::bs=>bif b then r.l_ bs else l.l_ bs
def Tr.jn {α:Type} (x:Option α):List Bool→Tr α→Tr α
 | [],.leaf=>.node x .leaf .leaf
 | [],.node _ l r=>.node x l r
 | b::bs,.leaf=>bif b then .node none .leaf (Tr.jn x bs .leaf) else .node none (Tr.jn x bs .leaf) .leaf
 | b::bs,.node v l r=>bif b then .node v l (Tr.jn x bs r) else .node v (Tr.jn x bs l) r
def Kp:Nat→Nat→List Bool
 | 0,_=>[]
 | f+1,n=>bif n.beq 0 then [] else (n % 2).beq 1::Kp f (n / 2)
def key (n:Nat):List Bool:=Kp n n
def Tr.get {α:Type} (t:Tr α) (i:Nat):Option α:=t.l_ (key i)
def Tr.set {α:Type} (t:Tr α) (i:Nat) (x:Option α):Tr α:=Tr.jn x (key i) t
def Tr.ofList {α:Type}:List (Nat × α)→Tr α
 | []=>.leaf
 | (i,x)::r=>(Tr.ofList r).set i (some x)
def val:List Bool→Nat
 | []=>0
 | b::bs=>(bif b then 1 else 0)+2*val bs
theorem Cy:∀ f n,n≤f→val (Kp f n)=n:=by
 intro f
 induction f with
 | zero=>intro n h;obtain rfl:n=0:=by omega
         rfl
 | succ f ih=>
  intro n h
  unfold Kp
  cases e:n.beq 0
  ·have hn:n≠0:=by intro e';subst e';simp at e
   simp only [cond_false,val]
   rw [ih _ (by omega)]
   cases e2:(n % 2).beq 1
   ·have:n % 2≠1:=by intro e';rw [e'] at e2;simp at e2
    simp only [cond_false];omega
   ·have:n % 2=1:=Nat.eq_of_beq_eq_true e2
    simp only [cond_true];omega
  ·have:n=0:=Nat.eq_of_beq_eq_true e
   subst this;rfl
theorem key_inj {i j:Nat} (h:key i=key j):i=j:=by
 have:=congrArg val h
 rwa [key,key,Cy _ _ (Nat.le_refl _),Cy _ _ (Nat.le_refl _)] at this
section
variable {α:Type}
theorem kL (k:List Bool):(Tr.leaf:Tr α).l_ k=none:=by cases k<;>rfl
theorem ij (x:Option α):∀ (k:List Bool) (t:Tr α),(Tr.jn x k t).l_ k=x
 | [],.leaf=>rfl
 | [],.node _ _ _=>rfl
 | b::bs,.leaf=>by cases b<;>simp [Tr.jn,Tr.l_,ij x bs]
 | b::bs,.node _ _ _=>by cases b<;>simp [Tr.jn,Tr.l_,ij x bs]
theorem fS (x:Option α):∀ (k k':List Bool) (t:Tr α),k≠k'→(Tr.jn x k t).l_ k'=t.l_ k'
 | [],[],_,h=>absurd rfl h
 | [],b::bs,.leaf,_=>by cases b<;>simp [Tr.jn,Tr.l_,kL]
 | [],b::bs,.node _ _ _,_=>by cases b<;>simp [Tr.jn,Tr.l_]
 | b::bs,[],.leaf,_=>by cases b<;>simp [Tr.jn,Tr.l_]
 | b::bs,[],.node _ _ _,_=>by cases b<;>simp [Tr.jn,Tr.l_]
 | b::bs,c::cs,.leaf,h=>by
  cases b<;>cases c<;>simp only [Tr.jn,Tr.l_,cond_true,cond_false,kL]
  ·rw [fS x bs cs _ (fun e=>h (by rw [e])),kL]
  ·rw [fS x bs cs _ (fun e=>h (by rw [e])),kL]
 | b::bs,c::cs,.node _ _ _,h=>by
  cases b<;>cases c<;>simp only [Tr.jn,Tr.l_,cond_true,cond_false]
  ·rw [fS x bs cs _ (fun e=>h (by rw [e]))]
  ·rw [fS x bs cs _ (fun e=>h (by rw [e]))]
theorem lh (x y:Option α):∀ (k k':List Bool) (t:Tr α),k≠k'→Tr.jn y k' (Tr.jn x k t)=Tr.jn x k (Tr.jn y k' t)
 | [],[],_,h=>absurd rfl h
 | [],c::cs,.leaf,_=>by cases c<;>rfl
 | [],c::cs,.node _ _ _,_=>by cases c<;>rfl
 | b::bs,[],.leaf,_=>by cases b<;>rfl
 | b::bs,[],.node _ _ _,_=>by cases b<;>rfl
 | b::bs,c::cs,.leaf,h=>by
  cases b<;>cases c<;>simp only [Tr.jn,cond_true,cond_false]
  ·rw [lh x y bs cs _ (fun e=>h (by rw [e]))]
  ·rw [lh x y bs cs _ (fun e=>h (by rw [e]))]
 | b::bs,c::cs,.node _ _ _,h=>by
  cases b<;>cases c<;>simp only [Tr.jn,cond_true,cond_false]
  ·rw [lh x y bs cs _ (fun e=>h (by rw [e]))]
  ·rw [lh x y bs cs _ (fun e=>h (by rw [e]))]
theorem gV (t:Tr α) (i j:Nat) (x:Option α):(t.set i x).get j=if i=j then x else t.get j:=by
 unfold Tr.set Tr.get
 split
 ·rename_i h;subst h;exact ij _ _ _
 ·rename_i h;exact fS _ _ _ _ (fun e=>h (key_inj e))
theorem get_set_same (t:Tr α) (i:Nat) (x:Option α):(t.set i x).get i=x:=ij _ _ _
theorem jR (t:Tr α) {i j:Nat} (x:Option α) (h:i≠j):(t.set i x).get j=t.get j:=fS _ _ _ _ (fun e=>h (key_inj e))
theorem set_comm (t:Tr α) {i j:Nat} (x y:Option α) (h:i≠j):(t.set i x).set j y=(t.set j y).set i x:=lh _ _ _ _ _ (fun e=>h (key_inj e))
theorem kK (i:Nat):(Tr.leaf:Tr α).get i=none:=kL _
end
structure Heap where
 next:Nat
 tr:Tr B
def Heap.get (h:Heap) (b:Nat):Option B:=h.tr.get b
def Heap.put (h:Heap) (b:Nat) (x:B):Heap:=⟨h.next,h.tr.set b (some x)⟩
def Heap.del (h:Heap) (b:Nat):Heap:=⟨h.next,h.tr.set b none⟩
def Heap.empty:Heap:=⟨0,.leaf⟩
abbrev Fr:=Tr S
def sv (x:Value):S:=.t (.v x)
def gj:Value→S
 | .agg cs=>bif cs.toList.all Value.oneCell' then .agg (cs.toList.map sv) else .un
 | .tuple _=>.un
 | v=>sv v
def ev (fr:Fr):Operand→S
 | .tmp t=>(fr.get t).getD .un
 | .const v=>gj v
 | .global g=>sv (.pointer (some ⟨g,0,none⟩))
 | .func f=>sv (.func (.func f) #[] #[])
def r5:List UInt8→List UInt8→Bool
 | [],[]=>true
 | a::x,b::y=>bif a.toNat.beq b.toNat then r5 x y else false
 | _,_=>false
def ah (a b:ByteArray):Bool:=r5 a.data.toList b.data.toList
def strLt (a b:ByteArray):Bool:=Op.bytesLess a.data.toList b.data.toList
def zX (op:BinOp) (k:IntKind) (a b:Int):Option Value:=
 match op with
 | .add=>some (.int k (k.wrap (a+b)))
 | .sub=>some (.int k (k.wrap (a - b)))
 | .mul=>some (.int k (k.wrap (a*b)))
 | .quo=>bif decide (b=0) then none else some (.int k (k.wrap (a.tdiv b)))
 | .rem=>bif decide (b=0) then none else some (.int k (a.tmod b))
 | .eql=>some (.bool (decide (a=b)))
 | .neq=>some (.bool (!decide (a=b)))
 | .lss=>some (.bool (decide (a < b)))
 | .leq=>some (.bool (decide (a≤b)))
 | .gtr=>some (.bool (decide (a > b)))
 | .geq=>some (.bool (decide (a≥b)))
 | .and=>some (.int k (k.wrap (BitVec.ofInt k.bits a &&& BitVec.ofInt k.bits b).toNat))
 | .or=>some (.int k (k.wrap (BitVec.ofInt k.bits a ||| BitVec.ofInt k.bits b).toNat))
 | .xor=>some (.int k (k.wrap (BitVec.ofInt k.bits a ^^^ BitVec.ofInt k.bits b).toNat))
 | _=>none
def tO (op:BinOp) (k:IntKind) (a b:Int):Option Value:=
 bif decide (b < 0) then none else
 match op with
 | .shl=>some (.int k (k.wrap (a*2 ^ (min b.toNat k.bits))))
 | .shr=>some (.int k (a.fdiv (2 ^ (min b.toNat k.bits))))
 | _=>none
def gw:Nat:=4611686018427387904
def Fq (op:BinOp) (a b:ByteArray):Option Value:=
 match op with
 | .add=>bif decide (a.size+b.size≤gw) then some (.string (a++b)) else none
 | .eql=>some (.bool (ah a b))
 | .neq=>some (.bool (!ah a b))
 | .lss=>some (.bool (strLt a b))
 | .leq=>some (.bool (strLt a b || ah a b))
 | .gtr=>some (.bool (!(strLt a b || ah a b)))
 | .geq=>some (.bool (!strLt a b))
 | _=>none
def iv:Nat→S→S→Option Bool
 | 0,.t (.v (.bool a)),.t (.v (.bool b))=>some (a == b)
 | 1,.t (.v (.int k a)),.t (.v (.int k' b))=>bif decide (k=k') then some (decide (a=b)) else none
 | 2,.t (.v (.string a)),.t (.v (.string b))=>some (ah a b)
 | _,_,_=>none
def cE:List Nat→List S→List S→Option Bool
 | [],[],[]=>some true
 | k::ks,a::x,b::y=>(iv k a b).bind fun p=>(cE ks x y).map fun q=>p && q
 | _,_,_=>none
def fI (P:Program) (rec:TypeId→Option (List Nat)):List Field→Nat→Option (List Nat)
 | [],_=>some []
 | f::r,o=>bif f.name != "_" && f.offset.beq o then
   (rec f.type).bind fun ks=>bif ks.length.beq (P.cellsOf f.type) then (fI P rec r (o+P.cellsOf f.type)).map fun l=>ks++l else none
  else none
def ey (P:Program):Nat→TypeId→Option (List Nat)
 | 0,_=>none
 | d+1,t=>match P.underlying t with
  | some .bool=>bif (P.cellsOf t).beq 1 then some [0] else none
  | some (.int _)=>bif (P.cellsOf t).beq 1 then some [1] else none
  | some .string=>bif (P.cellsOf t).beq 1 then some [2] else none
  | some (.struct fs)=>bif P.stoodInHeld t then none else fI P (ey P d) fs.toList 0
  | some (.array n e)=>(ey P d e).bind fun ks=>bif ks.length.beq (P.cellsOf e) && (P.info? e).isSome then some (List.replicate n ks).flatten else none
  | _=>none
def b_ (P:Program) (t:TypeId):Bool:=
 match P.underlying t with
 | some (.struct _) | some (.array _ _)=>true
 | _=>false
def isConst:Operand→Bool
 | .const _=>true
 | _=>false
def M8 (P:Program) (K:TypeId→Option (List Nat)):Prop:=∀ t ks,K t=some ks→ey P 20 t=some ks∧b_ P t=true∧P.eqGuardType P.depth t=false
def zx (P:Program) (K:TypeId→Option (List Nat)) (lit:Bool) (op:BinOp) (t:TypeId) (x y:S):Option S:=
 match x,y with
 | .t (.v (.int k a)),.t (.v (.int k' b))=>
  (match op with
   | .shl | .shr=>tO op k a b
   | _=>bif decide (k=k') then zX op k a b else none).map sv
 | .t (.v (.string a)),.t (.v (.string b))=>(Fq op a b).map sv
 | .t (.v (.slice none _ _)),.t (.v (.slice none _ _))=>Yb true
 | .t (.v .nilIface),.nn=>wX false
 | .nn,.t (.v .nilIface)=>wX false
 | .t (.v .nilIface),.t (.v .nilIface)=>bif lit then wX true else none
 | .agg xs,.agg ys=>
  (match op,K t with
   | .eql,some ks=>(cE ks xs ys).map fun b=>sv (.bool b)
   | .neq,some ks=>(cE ks xs ys).map fun b=>sv (.bool (!b))
   | _,_=>none)
 | .t (.v (.bool a)),.t (.v (.bool b))=>
  (match P.underlying t,op with
   | some .bool,.eql=>some (sv (.bool (a == b)))
   | some .bool,.neq=>some (sv (.bool (!(a == b))))
   | _,_=>none)
 | _,_=>none
where
 Yb (b:Bool):Option S:=match P.underlying t,op with
  | some (.slice _),.eql=>some (sv (.bool b))
  | some (.slice _),.neq=>some (sv (.bool (!b)))
  | _,_=>none
 wX (b:Bool):Option S:=match P.underlying t,op with
  | some (.interface _),.eql=>some (sv (.bool b))
  | some (.interface _),.neq=>some (sv (.bool (!b)))
  | _,_=>none
def oS (P:Program) (K:TypeId→Option (List Nat)) (t:TypeId) (a b:S):Option Bool:=
 match P.underlying t with
 | some .bool=>iv 0 a b
 | some (.int _)=>iv 1 a b
 | some .string=>iv 2 a b
 | some (.struct _)=>(match a,b,K t with
  | .agg xs,.agg ys,some ks=>cE ks xs ys
  | _,_,_=>none)
 | _=>none
def fV (P:Program) (K:TypeId→Option (List Nat)) (t:TypeId) (a:S):Bool:=
 match P.underlying t,a with
 | some .bool,.t (.v (.bool _))=>true
 | some (.int _),.t (.v (.int _ _))=>true
 | some .string,.t (.v (.string _))=>true
 | some (.struct _),.agg xs=>(match K t with | some ks=>xs.length.beq ks.length | none=>false)
 | _,_=>false
def eT (P:Program) (K:TypeId→Option (List Nat)) (t:TypeId) (k:S):List (S × S)→Nat→Option (Option (Nat × S))
 | [],_=>some none
 | e::r,i=>(oS P K t k e.1).bind fun p=>bif p then some (some (i,e.2)) else eT P K t k r (i+1)
def unS (op:UnOp) (x:S):Option S:=
 match op,x with
 | .not,.t (.v (.bool b))=>some (sv (.bool (!b)))
 | .neg,.t (.v (.int k n))=>some (sv (.int k (k.wrap (0 - n))))
 | _,_=>none
def Pc (c:Bool) (x y:S):S:=
 match x,y with
 | .t (.v (.bool a)),.t (.v (.bool b))=>sv (.bool (bif c then a else b))
 | .t (.v (.string a)),.t (.v (.string b))=>sv (.string (bif c then a else b))
 | x,y=>bif c then x else y
def BL (agg:Bool) (n:Nat) (cs:List S):Option S:=
 bif agg then (bif n.ble cs.length then some (.agg (cs.take n)) else none) else
 match cs with
 | c::_=>some c
 | []=>none
def mA (P:Program) (t:TypeId) (cs:List S):Option S:=
 match P.underlying t with
 | some _=>BL (b_ P t) (P.cellsOf t) cs
 | none=>none
def bf:S→List S
 | .agg cs=>cs
 | s=>[s]
def gQ (P:Program) (t:TypeId) (f:Nat):Option (Nat × TypeId):=
 match P.underlying t with
 | some (.struct fs)=>match fs[f]? with
  | some x=>bif (P.cellsOf x.type).beq 0 then none else some (x.offset,x.type)
  | none=>none
 | _=>none
def kY:S→Bool
 | .un=>false
 | _=>true
def setFrom:List S→Nat→List S→List S
 | cs,_,[]=>cs
 | cs,o,x::r=>setFrom (cs.set o x) (o+1) r
def mT (place:Nat→Option (Nat × Nat)):List S→List (Nat × S)→Option (List S)
 | cells,[]=>some cells
 | cells,(i,v)::rest=>match place i with
  | none=>none
  | some (off,size)=>
   bif kY v && (bf v).length.beq size && (off+(bf v).length).ble cells.length then mT place (setFrom cells off (bf v)) rest else none
def mS (P:Program) (t:TypeId):Option S:=
 match P.info? t with
 | some i=>i.zero.map gj
 | none=>none
def DZ (P:Program) (fs:Array Field):Bool:=fs.toList.all fun f=>(P.info? f.type).isSome
def Ge (P:Program) (t:TypeId) (parts:List (Nat × S)):Option S:=
 match mS P t,P.underlying t with
 | some z,some (.struct fs)=>bif kY z && DZ P fs then (mT (fun i=>match fs[i]? with | some x=>some (x.offset,P.cellsOf x.type) | none=>none) (bf z) parts).map .agg else none
 | some z,some (.array _ e)=>bif kY z && (P.info? e).isSome then (mT (fun i=>some (i*P.cellsOf e,P.cellsOf e)) (bf z) parts).map .agg else none
 | _,_=>none
def gf:S→Option Int
 | .t (.v (.int _ n))=>some n
 | _=>none
def iC (fr:Fr):Option Operand→Option (Option Int)
 | none=>some none
 | some x=>(gf (ev fr x)).map some
def rX (n:Nat) (lo hi mx:Option Int):Option (Nat × Nat × Bool):=
 let h:=hi.getD n
 let l:=lo.getD 0
 bif decide (0≤l) && decide (l≤h) && decide (h≤n) then
  (match mx with
   | none=>some (l.toNat,h.toNat - l.toNat,false)
   | some m=>bif decide (m=h) && hi.isSome then some (l.toNat,h.toNat - l.toNat,true) else none)
 else none
def gy {α:Type} {n:Nat} (get:Fin n→α) (l m:Nat) (h:l+m≤n):Fin m→α:=fun i=>get ⟨l+i.1,by have:=i.2;omega⟩
def ml (P:Program) (t:TypeId) (x:S) (lo hi mx:Option Int):Option S:=
 match P.underlying t,x with
 | some .string,.t (.v (.string s))=>
  (match mx with
   | none=>bif decide (0≤lo.getD 0) && decide (lo.getD 0≤hi.getD s.size) && decide (hi.getD s.size≤s.size) then some (sv (.string (s.extract (lo.getD 0).toNat (hi.getD s.size).toNat))) else none
   | _=>none)
 | some (.slice e),.t (.v (.slice none 0 0))=>bif !(P.info? e).isSome then none else
  (match rX 0 lo hi mx with | some _=>some (sv (.slice none 0 0)) | none=>none)
 | some (.slice e),.t (.rows sz n get)=>bif !(sz.beq (P.cellsOf e)) || !(P.info? e).isSome then none else
  (match rX n lo hi mx with
   | some (l,m,f)=>if h:l+m≤n then some (bif f then .full sz m (gy get l m h) else .t (.rows sz m (gy get l m h))) else none
   | none=>none)
 | some (.slice e),.full sz n get=>bif !(sz.beq (P.cellsOf e)) || !(P.info? e).isSome then none else
  (match rX n lo hi mx with
   | some (l,m,f)=>if h:l+m≤n then some (bif f then .full sz m (gy get l m h) else .t (.rows sz m (gy get l m h))) else none
   | none=>none)
 | _,_=>none
def uR (n:Nat) (get:Fin n→List T) (i:Int):Option S:=
 if h:0≤i∧i.toNat < n then some (.pt (get ⟨i.toNat,h.2⟩)) else none
def LA (P:Program) (src dst:TypeId) (x:S):Option S:=
 match P.underlying src,P.underlying dst,x with
 | some (.int _),some (.int k),.t (.v (.int _ n))=>some (sv (.int k (k.wrap n)))
 | some .string,some .string,.t (.v (.string s))=>some (sv (.string s))
 | _,_,_=>none
def se (P:Program) (t:TypeId) (x:S):Bool:=match P.underlying t,x with
 | some .string,.t (.v (.string _))=>true
 | some (.slice _),.t (.v (.string _))=>false
 | some (.slice _),.mt _=>false
 | some (.slice _),_=>true
 | some (.map _ _),.mt _=>true
 | _,_=>false
def abr:S→Option Int
 | .t (.v (.string s))=>some (s.size:Int)
 | .t (.v (.slice none n _))=>some (n:Int)
 | .t (.rows _ n _)=>some (n:Int)
 | .full _ n _=>some (n:Int)
 | .top _ n _=>some (n:Int)
 | .sl _ n=>some (n:Int)
 | .mt es=>some (es.length:Int)
 | _=>none
def Te (mx:Bool):S→S→Option S
 | .t (.v (.int k a)),.t (.v (.int _ b))=>some (sv (.int k (bif mx then (bif decide (b > a) then b else a) else (bif decide (b < a) then b else a))))
 | _,_=>none
def K3 (f:S→S→Option S):S→List S→Option S
 | x,[]=>some x
 | x,y::r=>(f x y).bind fun z=>K3 f z r
def bX (P:Program) (K:TypeId→Option (List Nat)) (fr:Fr):Op→Option S
 | .move x | .assign x=>some (ev fr x)
 | .pick c a b=>match ev fr c with
  | .t (.v (.bool p))=>some (Pc p (ev fr a) (ev fr b))
  | _=>none
 | .build t parts=>Ge P t (parts.toList.map fun p=>(p.1,ev fr p.2))
 | .nilCheck x=>match ev fr x with
  | .pt cs=>some (.pt cs)
  | .ptr b o=>some (.ptr b o)
  | .ep b z i o=>some (.ep b z i o)
  | _=>none
 | .binOp op t x y _=>zx P K (isConst x || isConst y) op t (ev fr x) (ev fr y)
 | .unOp op _ x=>unS op (ev fr x)
 | .makeFunc f first cap=>bif (first.size.beq 0) && (cap.size.beq 0) then some (sv (.func f #[] #[])) else some (.fn f (first.toList.map (ev fr)) (cap.toList.map (ev fr)))
 | .slice t x lo hi mx=>(iC fr lo).bind fun lo=>(iC fr hi).bind fun hi=>(iC fr mx).bind fun mx=>ml P t (ev fr x) lo hi mx
 | .fieldAddr t x f=>match gQ P t f,ev fr x with
  | some (o,_),.pt cs=>some (.pt (cs.drop o))
  | some (o,_),.ptr b i=>some (.ptr b (i+o))
  | some (o,_),.ep b z i k=>some (.ep b z i (k+o))
  | _,_=>none
 | .field t x f=>match gQ P t f,ev fr x with
  | some (o,ft),.agg cs=>mA P ft (cs.drop o)
  | _,_=>none
 | .index t x ix=>match P.underlying t,ev fr x,gf (ev fr ix) with
  | some (.array n e),.agg cs,some i=>bif decide (0≤i) && decide (i < n) then mA P e (cs.drop (i.toNat*P.cellsOf e)) else none
  | some .string,.t (.v (.string s)),some i=>if h:0≤i∧i.toNat < s.size then some (sv (.int .u8 (s[i.toNat]'h.2).toNat)) else none
  | _,_,_=>none
 | .indexAddr t x ix=>match P.underlying t,ev fr x,gf (ev fr ix) with
  | some (.slice e),.t (.rows sz n get),some i=>bif sz.beq (P.cellsOf e) && (P.info? e).isSome then uR n get i else none
  | some (.slice e),.full sz n get,some i=>bif sz.beq (P.cellsOf e) && (P.info? e).isSome then uR n get i else none
  | some (.slice e),.top sz n get,some i=>bif sz.beq (P.cellsOf e) && (P.info? e).isSome then uR n get i else none
  | some (.slice e),.sl b n,some i=>bif (P.info? e).isSome && decide (0≤i) && decide (i < n) then some (.ep b (P.cellsOf e) i.toNat 0) else none
  | some (.array n e),.ptr b o,some i=>bif (P.info? e).isSome && decide (0≤i) && decide (i < n) then some (.ptr b (o+i.toNat*P.cellsOf e)) else none
  | some (.array n e),.pt cs,some i=>bif (P.info? e).isSome && decide (0≤i) && decide (i < n) then some (.pt (cs.drop (i.toNat*P.cellsOf e))) else none
  | some (.array n e),.ep b z j o,some i=>bif (P.info? e).isSome && decide (0≤i) && decide (i < n) then some (.ep b z j (o+i.toNat*P.cellsOf e)) else none
  | _,_,_=>none
 | .extract x i=>match ev fr x with
  | .bJ vs=>vs[i]?
  | _=>none
 | .call { callee:=.builtin .len,args,argTypes }=>match args.toList.map (ev fr),argTypes[0]? with
  | [x],some t=>bif se P t x then (abr x).map fun n=>sv (.int .i64 n) else none
  | _,_=>none
 | .call { callee:=.builtin .max,args,.. }=>match args.toList.map (ev fr) with
  | x::r=>K3 (Te true) x r
  | _=>none
 | .call { callee:=.builtin .min,args,.. }=>match args.toList.map (ev fr) with
  | x::r=>K3 (Te false) x r
  | _=>none
 | _=>none
mutual
def toT (get:Nat→Option B):Nat→S→Option (T × List Nat)
 | 0,_=>none
 | _+1,.t x=>some (x,[])
 | _+1,.full sz n g=>some (.rows sz n g,[])
 | _+1,.top sz n g=>some (.fr sz n g,[])
 | d+1,.sl b _=>match get b with
  | some (.row _ sz n g)=>some (.fr sz n g,[b])
  | some (.fO _ sz n cs)=>match tJ get d cs with
   | some (ts,l)=>some (.rows sz n (fun i=>(ts.drop (i.1*sz)).take sz),b::l)
   | none=>none
  | _=>none
 | _+1,_=>none
termination_by structural d=>d
def tJ (get:Nat→Option B):Nat→List S→Option (List T × List Nat)
 | 0,_=>none
 | _+1,[]=>some ([],[])
 | d+1,c::cs=>match toT get d c with
  | some (x,l)=>match tJ get d cs with
   | some (xs,l')=>some (x::xs,l++l')
   | none=>none
  | none=>none
termination_by structural d=>d
end
mutual
def cd (get:Nat→Option B):Nat→S→Option (S × List Nat)
 | 0,_=>none
 | d+1,.sl b n=>match toT get (d+1) (.sl b n) with
  | some (x,l)=>some (.t (kp x),l)
  | none=>none
 | d+1,.agg cs=>match gg get d cs with
  | some (cs',l)=>some (.agg cs',l)
  | none=>none
 | d+1,.bJ cs=>match gg get d cs with
  | some (cs',l)=>some (.bJ cs',l)
  | none=>none
 | d+1,.fn f a c=>match gg get d a with
  | some (a',l)=>match gg get d c with
   | some (c',l')=>some (.fn f a' c',l++l')
   | none=>none
  | none=>none
 | _+1,.ep b z i o=>match get b with
  | some (.row _ sz n g)=>if h:i < n then (bif z.beq sz then some (.pt ((g ⟨i,h⟩).drop o),[b]) else none) else none
  | _=>none
 | d+1,.mp b=>match get b with
  | some (.mp _ es)=>match ig get d es with
   | some (es',l)=>some (.mt es',b::l)
   | none=>none
  | _=>none
 | d+1,.mt es=>match ig get d es with
  | some (es',l)=>some (.mt es',l)
  | none=>none
 | d+1,.ptr b o=>match get b with
  | some (.box cs)=>match tJ get d (cs.drop o) with
   | some (ts,l)=>some (.pt ts,b::l)
   | none=>none
  | _=>none
 | _+1,s=>some (s,[])
termination_by structural d=>d
def gg (get:Nat→Option B):Nat→List S→Option (List S × List Nat)
 | 0,_=>none
 | _+1,[]=>some ([],[])
 | d+1,c::cs=>match cd get d c with
  | some (x,l)=>match gg get d cs with
   | some (xs,l')=>some (x::xs,l++l')
   | none=>none
  | none=>none
termination_by structural d=>d
def ig (get:Nat→Option B):Nat→List (S × S)→Option (List (S × S) × List Nat)
 | 0,_=>none
 | _+1,[]=>some ([],[])
 | d+1,e::es=>match cd get d e.1 with
  | some (k,l1)=>match cd get d e.2 with
   | some (v,l2)=>match ig get d es with
    | some (r,l3)=>some ((k,v)::r,l1++l2++l3)
    | none=>none
   | none=>none
  | none=>none
termination_by structural d=>d
end
mutual
def eS:Nat→S→Bool
 | 0,_=>false
 | _+1,.t (.v _)=>true
 | _+1,.un=>true
 | _+1,.ud=>true
 | _+1,.nn=>true
 | d+1,.agg cs=>wy d cs
 | d+1,.bJ cs=>wy d cs
 | _+1,_=>false
termination_by structural d=>d
def wy:Nat→List S→Bool
 | 0,_=>false
 | _+1,[]=>true
 | d+1,c::cs=>eS d c && wy d cs
termination_by structural d=>d
end
def jk:B→B
 | .fO _ sz n cs=>.fO true sz n cs
 | .row _ sz n g=>.row true sz n g
 | .mp _ es=>.mp true es
 | b=>b
def Heap.freeze (h:Heap):List Nat→Heap
 | []=>h
 | b::l=>match h.get b with
  | some x=>(h.put b (jk x)).freeze l
  | none=>h.freeze l
def bZ:Nat:=1000
def gT (P:Program) (get:Nat→Option B) (t:TypeId):S→Option S
 | .pt cs=>mA P t (cs.map fun c=>.t (kp c))
 | .ptr b o=>match get b with
  | some (.box cs)=>mA P t (cs.drop o)
  | _=>none
 | .ep b z i o=>match get b with
  | some (.row _ sz n g)=>if h:i < n then (bif z.beq sz && (o+P.cellsOf t).ble sz then mA P t (((g ⟨i,h⟩).drop o).map fun c=>.t (kp c)) else none) else none
  | some (.fO _ sz n cs)=>bif z.beq sz && decide (i < n) && (o+P.cellsOf t).ble sz then mA P t (cs.drop (i*sz+o)) else none
  | _=>none
 | _=>none
def wR:B→Bool
 | .box _=>false
 | _=>true
def lS (P:Program) (fr:Fr) (id:Nat):Op→Option (S × B)
 | .alloc t=>match mS P t with
  | some z=>bif kY z then some (.ptr id 0,.box (bf z)) else none
  | none=>none
 | .makeMap _ r=>(match r with | none=>some (.mp id,.mp false []) | some x=>(match ev fr x with | .t (.v (.int _ _))=>none | _=>none))
 | .box _ x=>bif kY (ev fr x) then some (.ptr id 0,.box (bf (ev fr x))) else none
 | .buildSlice t n parts=>match P.underlying t with
  | some (.slice e)=>match mS P e with
   | some z=>bif (P.cellsOf e).beq 0 || (n*P.cellsOf e).ble 16777216 == false || !((bf z).length.beq (P.cellsOf e)) || !kY z then none else
    (mT (fun i=>some (i*P.cellsOf e,P.cellsOf e)) ((List.replicate n (bf z)).flatten) (parts.toList.map fun p=>(p.1,ev fr p.2))).map fun cs=>(.sl id n,.fO false (P.cellsOf e) n cs)
   | none=>none
  | _=>none
 | _=>none
def bE:Nat:=35184372088832
def ni (get:Nat→Option B) (sz:Nat):S→Option ((n:Nat) × (Fin n→List T) × List Nat)
 | .t (.rows sz' n g)=>bif sz'.beq sz then some ⟨n,g,[]⟩ else none
 | .full sz' n g=>bif sz'.beq sz then some ⟨n,g,[]⟩ else none
 | .t (.v (.slice none 0 _))=>some ⟨0,fun i=>absurd i.2 (Nat.not_lt_zero _),[]⟩
 | .sl b _=>match get b with
  | some (.row _ sz' n g)=>bif sz'.beq sz then some ⟨n,g,[]⟩ else none
  | some (.fO _ sz' n cs)=>bif sz'.beq sz then
    (match tJ get bZ cs with
     | some (ts,l)=>some ⟨n,fun i=>(ts.drop (i.1*sz)).take sz,l⟩
     | none=>none)
   else none
  | _=>none
 | _=>none
def bo {n m:Nat} (g:Fin n→List T) (g':Fin m→List T):Fin (n+m)→List T:=
 fun i=>if h:i.1 < n then g ⟨i.1,h⟩ else g' ⟨i.1 - n,by have:=i.2;omega⟩
def D8 (get:Nat→Option B) (sz:Nat) (b:Nat):Option ((n:Nat) × (Fin n→List T) × List Nat):=
 match get b with
 | some (.row false sz' n g)=>bif sz'.beq sz then some ⟨n,g,[]⟩ else none
 | some (.fO false sz' n cs)=>bif sz'.beq sz then
   (match tJ get bZ cs with
    | some (ts,l)=>bif l.contains b then none else some ⟨n,fun i=>(ts.drop (i.1*sz)).take sz,l⟩
    | none=>none)
  else none
 | _=>none
def lC (P:Program) (e:TypeId):Bool:=
 match mS P e with
 | some z=>!((P.cellsOf e).beq 0) && (bf z).length.beq (P.cellsOf e) && kY z
 | none=>false
def pg (P:Program) (h:Heap) (id:Nat) (e:TypeId) (x y:S):Option (S × Heap):=
 bif !lC P e then none else
 match ni h.get (P.cellsOf e) y with
 | none=>none
 | some ⟨m,g',l⟩=>
  match x with
  | .t (.v (.slice none 0 0))=>bif (m*P.bytesOf e).ble bE && m.ble bE then some (.sl id m,(h.freeze l).put id (.row false (P.cellsOf e) m g')) else none
  | .full sz n g=>bif sz.beq (P.cellsOf e) && ((n+m)*P.bytesOf e).ble bE && (n+m).ble bE then (bif m.beq 0 then some (.full sz n g,h.freeze l) else some (.sl id (n+m),(h.freeze l).put id (.row false (P.cellsOf e) (n+m) (bo g g')))) else none
  | .sl b _=>match D8 (h.freeze l).get (P.cellsOf e) b with
   | some ⟨n,g,l'⟩=>bif ((n+m)*P.bytesOf e).ble bE && (n+m).ble bE then some (.sl id (n+m),(((h.freeze l).freeze l').del b).put id (.row false (P.cellsOf e) (n+m) (bo g g'))) else none
   | none=>none
  | _=>none
def rS:List T→Nat→List T→List T
 | cs,_,[]=>cs
 | cs,o,x::r=>rS (cs.set o x) (o+1) r
def Vc:S→Bool
 | .t (.v x)=>x.oneCell'
 | .un | .ud | .agg _ | .bJ _=>false
 | _=>true
def tV (P:Program) (h:Heap) (t:TypeId) (a x:S):Option Heap:=
 bif !(P.info? t).isSome || !kY x || !((bf x).length.beq (P.cellsOf t)) || !((bf x).all Vc) then none else
 match a with
 | .ptr b o=>match h.get b with
  | some (.box cs)=>bif (o+(bf x).length).ble cs.length then some (h.put b (.box (setFrom cs o (bf x)))) else none
  | _=>none
 | .ep b z i o=>match h.get b with
  | some (.fO false sz n cs)=>bif z.beq sz && decide (i < n) && (o+(bf x).length).ble sz && (i*sz+sz).ble cs.length then some (h.put b (.fO false sz n (setFrom cs (i*sz+o) (bf x)))) else none
  | some (.row false sz n g)=>bif z.beq sz && decide (i < n) && (o+(bf x).length).ble sz then
    (match tJ h.get bZ (bf x) with
     | some (ts,l)=>bif l.contains b then none else some ((h.freeze l).put b (.row false sz n (fun j=>bif j.1.beq i then rS (g j) o ts else g j)))
     | none=>none)
   else none
  | _=>none
 | _=>none
structure Env where
 P:Program
 K:TypeId→Option (List Nat)
 fnOk:FuncId→Bool
 inl:FuncId→Bool
 live:FuncId→Nat→Option (List Nat)
 ov:FuncId→Option Func
 aE:FuncId→List S→Option S
 eR:FuncId→List S→Heap→Option (S × Heap)
def fX (fr:Fr) (f:Operand) (args:List S):Option (FuncId × List S):=
 match ev fr f with
 | .t (.v (.func (.func g) first cap))=>bif first.size.beq 0 && cap.size.beq 0 then some (g,args) else none
 | .fn (.func g) first cap=>some (g,first++args++cap)
 | _=>none
def wo (P:Program) (K:TypeId→Option (List Nat)) (get:Nat→Option B) (t:TypeId) (x k:S) (ok:Bool):Option S:=
 match P.underlying t with
 | some (.map kt et)=>bif !fV P K kt k then none else
  (match (match x with
   | .mp b=>(match get b with | some (.mp _ es)=>some es | _=>none)
   | .mt es=>some es
   | .t (.v (.map none))=>some []
   | _=>none) with
   | some es=>(eT P K kt k es 0).bind fun r=>match r with
    | some (_,v)=>some (bif ok then .bJ [v,sv (.bool true)] else v)
    | none=>(mS P et).map fun z=>bif ok then .bJ [z,sv (.bool false)] else z
   | none=>none)
 | _=>none
def oL:List (S × S)→Nat→S→S→List (S × S)
 | [],_,_,_=>[]
 | _::r,0,k,v=>(k,v)::r
 | e::r,i+1,k,v=>e::oL r i k v
def rowAt (get:Nat→Option B) (b:Nat):Bool:=match get b with | some x=>wR x | none=>false
def Cj (P:Program) (K:TypeId→Option (List Nat)) (h:Heap) (t:TypeId) (m k v:S):Option Heap:=
 match P.underlying t,m with
 | some (.map kt _),.mp b=>
  (match cd h.get bZ k,cd h.get bZ v with
   | some (k',l1),some (v',l2)=>bif !fV P K kt k' || l1.contains b || l2.contains b || !l1.all (rowAt h.get) || !l2.all (rowAt h.get) then none else
    (match h.get b with
    | some (.mp false es)=>(eT P K kt k' es 0).map fun r=>((h.freeze l1).freeze l2).put b (.mp false (match r with
     | some (i,_)=>oL es i k' v'
     | none=>es++[(k',v')]))
    | _=>none)
   | _,_=>none)
 | _,_=>none
def ib:S→Bool
 | .mt es=>es.all fun e=>eS bZ e.1 && eS bZ e.2
 | _=>false
def tD (get:Nat→Option B) (b:Nat):Bool:=match get b with | some (.mp ..)=>false | _=>true
def dh (E:Env) (get:Nat→Option B) (f:FuncId) (args:List S):Option (S × List Nat):=
 match gg get bZ args with
 | some (args',l)=>match E.aE f args' with
  | some r=>bif eS bZ r then some (r,[]) else bif l.all (rowAt get) then (bif ib r && l.all (tD get) then some (r,[]) else some (r,l)) else none
  | none=>none
 | none=>none
def kf {α:Type}:(n:Nat)→(Fin n→α)→List α
 | 0,_=>[]
 | n+1,g=>g 0::kf n (fun i=>g i.succ)
def zm:List (List T)→Option (List Int)
 | []=>some []
 | [.v (.int .u8 k)]::r=>(zm r).map (k::·)
 | _::_=>none
def ofBytes (ks:List Int):ByteArray:=⟨(ks.map fun k=>UInt8.ofNat k.toNat).toArray⟩
def C6 (s:ByteArray):S:=.t (.rows 1 s.size (fun i=>[.v (.int .u8 ((s[i.1]'i.2).toNat))]))
def xB (P:Program) (get:Nat→Option B) (a b:TypeId) (x:S):Option S:=
 match LA P a b x with
 | some s=>some s
 | none=>match P.underlying a,P.underlying b with
  | some .string,some (.slice e)=>(match P.underlying e,x with
   | some (.int .u8),.t (.v (.string s))=>bif s.size.ble gw then some (C6 s) else none
   | _,_=>none)
  | some (.slice e),some .string=>(match P.underlying e,ni get 1 x with
   | some (.int .u8),some ⟨n,g,_⟩=>(zm (kf n g)).map fun ks=>sv (.string (ofBytes ks))
   | _,_=>none)
  | _,_=>none
def cb (E:Env) (get:Nat→Option B) (fr:Fr):Op→Option S
 | .load t a=>gT E.P get t (ev fr a)
 | .lookup t x k ok=>wo E.P E.K get t (ev fr x) (ev fr k) ok
 | .range t x=>(match E.P.underlying t,ev fr x with
  | some (.map _ _),.mt []=>some .it
  | some (.map _ _),.t (.v (.map none))=>some .it
  | _,_=>none)
 | .next x false=>(match ev fr x with
  | .it=>some (.bJ [sv (.bool false)])
  | _=>none)
 | .convert a b x=>xB E.P get a b (ev fr x)
 | .call { callee:=.value f,args,.. }=>match fX fr f (args.toList.map (ev fr)) with
  | some (g,az)=>bif !E.fnOk g || E.inl g then none else
   (match dh E get g az with
    | some (r,[])=>some r
    | _=>none)
  | none=>none
 | _=>none
def cf (E:Env) (h:Heap) (id:Nat) (fr:Fr):Op→Option (S × Heap)
 | .mapUpdate t m k v=>(Cj E.P E.K h t (ev fr m) (ev fr k) (ev fr v)).map fun h'=>(S.ud,h')
 | .store t a x=>(tV E.P h t (ev fr a) (ev fr x)).map fun h'=>(S.ud,h')
 | .call { callee:=.builtin .append,args,argTypes }=>match args.toList.map (ev fr),argTypes.toList with
  | [x,y],[t,u]=>match E.P.underlying t,E.P.underlying u with
   | some (.slice e),some (.slice _)=>pg E.P h id e x y
   | _,_=>none
  | _,_=>none
 | .call { callee:=.value f,args,.. }=>match fX fr f (args.toList.map (ev fr)) with
  | some (g,az)=>bif !E.fnOk g then none else bif E.inl g then E.eR g az h else
   (match dh E h.get g az with
    | some (r,l)=>some (r,h.freeze l)
    | none=>none)
  | none=>none
 | _=>none
inductive Cls where
 | p | r | a | w
def cp (inl:FuncId→Bool):Op→Cls
 | .load .. => .r
 | .convert .. => .r
 | .lookup .. => .r
 | .range .. => .r
 | .next .. => .r
 | .alloc _ | .box .. | .buildSlice .. | .makeMap .. => .a
 | .store .. | .mapUpdate .. => .w
 | .call { callee:=.builtin .append,.. }=>.w
 | .call { callee:=.value (.func f),.. }=>bif inl f then .w else .r
 | .call { callee:=.value _,.. }=>.w
 | _=>.p
def dN:Op→Bool
 | .call _=>true
 | _=>false
def bx (E:Env) (dr:Bool) (get:Nat→Option B) (id:Nat) (fr:Fr) (h:Heap) (op:Op):Option (S × Heap):=
 match cp E.inl op with
 | .p=>(bX E.P E.K fr op).map fun s=>(s,h)
 | .r=>bif dr then (cb E get fr op).map (fun s=>(s,h)) else
  bif dN op then cf E h id fr op else (cb E h.get fr op).map (fun s=>(s,h))
 | .a=>(lS E.P fr id op).map fun p=>(p.1,h.put id p.2)
 | .w=>cf E h id fr op
structure St where
 fr:Fr
 h:Heap
def jm (nt:Nat) (fr:Fr) (dst:Option Tmp) (s:S):Option Fr:=
 match dst with
 | none=>some fr
 | some d=>bif d.blt nt then some (fr.set d (some s)) else none
def cM (ops:Array Oper) (fr:Fr) (o:Oper):Option (Bool × Fr):=
 match o.guard with
 | none=>some (true,fr)
 | some (j,want)=>match (ops[j]?).bind (·.dst) with
  | some d=>match fr.get d with
   | some (.t (.v (.bool b)))=>bif b then some (want,fr.set d (some (sv (.bool true)))) else some (!want,fr.set d (some (sv (.bool false))))
   | some (.t (.v _))=>some (false,fr)
   | some .ud=>some (false,fr)
   | _=>none
  | none=>none
def allowed (o:Oper) (k:Nat):Bool:=o.after.toList.any fun e=>Region.binds .any e && e.on.beq k
def qd (ops:Array Oper) (a:Nat):Bool:=ops.toList.any fun o=>match o.dst with | some d=>d.beq a | none=>false
def WI:Option S→S→Bool
 | some (.ptr b _),.ptr c _=>!(b.beq c)
 | some (.pt _),_=>true
 | _,_=>false
def Ia (ops:Array Oper) (i:Nat) (o:Oper) (fr:Fr) (x:S) (j:Nat):Bool:=j.beq i || allowed o j || (match ops[j]? with
 | some oj=>(match oj.op with
  | .load _ (.tmp a)=>allowed oj i || qd ops a || WI (fr.get a) x
  | _=>true)
 | none=>true)
def jz (ops:Array Oper) (i:Nat) (o:Oper) (fr:Fr):Bool:=match o.op with
 | .store _ x _=>(List.range ops.size).all (Ia ops i o fr (ev fr x))
 | _=>true
def jL (E:Env) (nt:Nat) (dr:Bool) (ops:Array Oper) (base:Nat) (i:Nat) (st:St):Option St:=
 match ops[i]? with
 | none=>none
 | some o=>match cM ops st.fr o with
  | some (true,fr)=>bif !dr || jz ops i o fr then (match bx E dr (fun b=>bif b.blt base || allowed o (b - base) then st.h.get b else none) (base+i) fr st.h o.op with
   | some (s,h)=>(jm nt fr o.dst s).map fun fr=>⟨fr,h⟩
   | none=>none) else none
  | some (false,fr)=>(jm nt fr o.dst .ud).map fun fr=>⟨fr,st.h⟩
  | none=>none
def gi (E:Env) (nt:Nat) (dr:Bool) (ops:Array Oper) (base:Nat):List Nat→St→Option St
 | [],st=>some st
 | i::l,st=>(jL E nt dr ops base i st).bind (gi E nt dr ops base l)
inductive Ex where
 | normal
 | exit (id:Nat)
 | ret
def iter (f:St→Option (Ex × St)):Nat→St→Option (Ex × St)
 | 0,_=>none
 | n+1,st=>match f st with
  | some (.normal,st')=>iter f n st'
  | r=>r
mutual
def Lm:S→List Nat
 | .ptr b _=>[b]
 | .sl b _=>[b]
 | .ep b _ _ _=>[b]
 | .agg cs=>u_ cs
 | .bJ cs=>u_ cs
 | .fn _ a c=>u_ a++u_ c
 | .mp b=>[b]
 | .mt es=>rp es
 | _=>[]
def u_:List S→List Nat
 | []=>[]
 | s::r=>Lm s++u_ r
def rp:List (S × S)→List Nat
 | []=>[]
 | (k,v)::r=>Lm k++Lm v++rp r
end
def IS:B→List Nat
 | .box cs=>u_ cs
 | .fO _ _ _ cs=>u_ cs
 | .mp _ es=>rp es
 | .row .. => []
def jO (h:Heap):Nat→List Nat→List Nat→List Nat
 | 0,_,seen=>seen.reverse
 | _+1,[],seen=>seen.reverse
 | f+1,b::todo,seen=>bif seen.contains b then jO h f todo seen else
  match h.get b with
  | some x=>jO h f (IS x++todo) (b::seen)
  | none=>jO h f todo (b::seen)
def nv:List Nat→Nat→Nat→Option Nat
 | [],_,_=>none
 | b::r,x,i=>bif b.beq x then some i else nv r x (i+1)
mutual
def qu (m:Nat→Option Nat):S→Option S
 | .ptr b o=>(m b).map fun b=>.ptr b o
 | .sl b n=>(m b).map fun b=>.sl b n
 | .ep b z i o=>(m b).map fun b=>.ep b z i o
 | .agg cs=>(sX m cs).map .agg
 | .bJ cs=>(sX m cs).map .bJ
 | .mp b=>(m b).map .mp
 | .mt es=>(tN m es).map .mt
 | .fn f a c=>(sX m a).bind fun a=>(sX m c).map fun c=>.fn f a c
 | s=>some s
def sX (m:Nat→Option Nat):List S→Option (List S)
 | []=>some []
 | s::r=>(qu m s).bind fun s=>(sX m r).map fun r=>s::r
def tN (m:Nat→Option Nat):List (S × S)→Option (List (S × S))
 | []=>some []
 | (k,v)::r=>(qu m k).bind fun k=>(qu m v).bind fun v=>(tN m r).map fun r=>(k,v)::r
end
def Fv (m:Nat→Option Nat):B→Option B
 | .box cs=>(sX m cs).map .box
 | .fO fz sz n cs=>(sX m cs).map fun cs=>.fO fz sz n cs
 | .mp fz es=>(tN m es).map fun es=>.mp fz es
 | b=>some b
def j1 (m:Nat→Option Nat) (fr:Fr):List Nat→Option Fr
 | []=>some .leaf
 | t::r=>match fr.get t with
  | some s=>(qu m s).bind fun s=>(j1 m fr r).map fun fr=>fr.set t (some s)
  | none=>j1 m fr r
def j3 (m:Nat→Option Nat) (h:Heap):List Nat→Nat→Option (Tr B)
 | [],_=>some .leaf
 | b::r,i=>match h.get b with
  | some x=>(Fv m x).bind fun x=>(j3 m h r (i+1)).map fun t=>t.set i (some x)
  | none=>j3 m h r (i+1)
def mf (fr:Fr):List Nat→List Nat
 | []=>[]
 | t::r=>match fr.get t with
  | some s=>Lm s++mf fr r
  | none=>mf fr r
def clean (bO:List Nat) (st:St):Option St:=
 let ids:=jO st.h 1000 (mf st.fr bO) []
 let m:=fun b=>nv ids b 0
 (j1 m st.fr bO).bind fun fr=>(j3 m st.h ids 0).map fun t=>⟨fr,⟨ids.length,t⟩⟩
def qO (t o sz:Nat) (st:St):St:=match o,st.fr.get t with
 | 0,some (.t (.v (.slice none 0 0)))=>⟨st.fr.set t (some (.sl st.h.next 0)),⟨st.h.next+1,st.h.tr.set st.h.next (some (.row false sz 0 fun i=>i.elim0))⟩⟩
 | k+1,some (.ptr b 0)=>match st.h.get b with
  | some (.box cs)=>match cs[k]? with
   | some (.t (.v (.slice none 0 0)))=>⟨st.fr,⟨st.h.next+1,(st.h.tr.set st.h.next (some (.row false sz 0 fun i=>i.elim0))).set b (some (.box (cs.set k (.sl st.h.next 0))))⟩⟩
   | _=>st
  | _=>st
 | _,_=>st
def iJ:List Nat→St→St
 | t::o::sz::r,st=>iJ r (qO t o sz st)
 | _,st=>st
def fM (live:FuncId→Nat→Option (List Nat)) (f key:Nat):List Nat:=(live f (2000000+key)).getD []
def gX (bO nils:List Nat) (st:St):Option St:=(clean bO st).map (iJ nils)
def bH:Code→Nat
 | .region id _ _=>id
 | .seq a _=>bH a
 | .block _ b=>bH b
 | .loop b=>bH b
 | _=>0
def fP (E:Env) (f:FuncId) (gc:Bool) (key:Nat) (st:St):Option St:=
 bif gc then (match E.live f key with
  | some bO=>gX bO (fM E.live f key) st
  | none=>some st) else some st
def iy:List Nat→St→Option St
 | [],st=>some st
 | t::l,st=>match st.fr.get t with
  | some s=>(match cd st.h.get bZ s with
   | some (x,q)=>bif q.all (rowAt st.h.get) then iy l ⟨st.fr.set t (some x),st.h.freeze q⟩ else none
   | none=>none)
  | none=>iy l st
def zB (live:FuncId→Nat→Option (List Nat)) (f key:Nat):List Nat:=(live f (5000000+key)).getD []
def so (E:Env) (f:FuncId) (gc:Bool) (key:Nat) (st:St):Option St:=(fP E f gc key st).bind fun st=>bif gc then iy (zB E.live f key) st else some st
def kz (E:Env) (f:FuncId) (gc:Bool) (r:Nat):Ex→St→Option (Ex × St)
 | .normal,_=>none
 | .exit id,st=>(so E f gc (3*r+1) st).map fun st=>(.exit id,st)
 | .ret,st=>(fP E f gc (3*r+2) st).map fun st=>(.ret,st)
structure jE where
 g:Nat
 ts:Nat
 fi:Nat
 te:Nat
 fo:Nat
def oJ (live:FuncId→Nat→Option (List Nat)) (f r:Nat):Option jE:=match live f (1000000+r) with
 | some [g,ts,fi,te,fo]=>some ⟨g,ts,fi,te,fo⟩
 | _=>none
def ln (x:S) (g:Nat):Option (Nat × Nat):=match x with
 | .fn (.func h) [] [.ptr b1 0,.ptr b2 0]=>bif h.beq g then some (b1,b2) else none
 | _=>none
def IU (P:Program) (sp:jE) (get:Nat→Option B) (b1:Nat):Option ((n:Nat) × (Fin n→List T)):=match gQ P sp.ts sp.fi,get b1 with
 | some (o,_),some (.box cs)=>match cs[o]? with
  | some (.t (.rows sz n g))=>bif sz.beq (P.cellsOf sp.te) && ((n*1).ble bE && n.ble bE) then some ⟨n,g⟩ else none
  | _=>none
 | _,_=>none
def qn (get:Nat→Option B) (b2:Nat):Option ByteArray:=match get b2 with
 | some (.box (.t (.v (.string s))::_))=>some s
 | _=>none
def FG (P:Program) (sp:jE) (cs:List T):Option ByteArray:=match gQ P sp.te sp.fo with
 | some (o,_)=>match cs[o]? with
  | some (.v (.string s))=>some s
  | _=>none
 | none=>none
def Cx (ps:Array Tmp):Option Nat:=match ps.toList with
 | [p]=>some p
 | _=>none
def qY:Code→List Nat
 | .region _ ops _=>ops.toList.filterMap (·.dst)
 | .seq a b=>qY a++qY b
 | .cond _ a b=>qY a++qY b
 | .block _ b=>qY b
 | .loop b=>qY b
 | _=>[]
def AG (bO:List Nat) (p:Nat) (az bd:Code):Bool:=bO.all fun t=>!(t.beq p) && !(qY az).contains t && !(qY bd).contains t
def dt (P:Program) (sp:jE) (q:Operand) (p:Nat) (cl:St→Option St) (A B:St→Option (Ex × St)) {n:Nat} (g:Fin n→List T):Nat→Nat→St→Option St
 | 0,_,_=>none
 | k+1,j,st=>(cl st).bind fun st1=>match (ln (ev st1.fr q) sp.g).bind fun b=>qn st1.h.get b.2 with
  | none=>none
  | some s=>if h:j < n then (match FG P sp (g ⟨j,h⟩) with
    | none=>none
    | some r=>bif ah r s then (match A ⟨st1.fr.set p (some (.agg ((g ⟨j,h⟩).map .t))),st1.h⟩ with
      | some (.normal,st2)=>(match B st2 with
       | some (.normal,st3)=>dt P sp q p cl A B g k (j+1) ⟨st1.fr,st3.h⟩
       | _=>none)
      | _=>none) else dt P sp q p cl A B g k (j+1) st1) else some st1
def exec (E:Env) (f:FuncId) (nt:Nat) (gc:Bool) (k:Nat):Code→St→Option (Ex × St)
 | .skip,st=>some (.normal,st)
 | .region _ ops draw,st=>
   (gi E nt draw ops st.h.next (List.range ops.size) ⟨st.fr,⟨st.h.next+ops.size,st.h.tr⟩⟩).map fun st=>(.normal,st)
 | .seq a b,st=>(exec E f nt gc k a st).bind fun p=>match p with
  | (.normal,st')=>exec E f nt gc k b st'
  | p=>some p
 | .cond c a b,st=>match ev st.fr c with
  | .t (.v (.bool p))=>bif p then exec E f nt gc k a st else exec E f nt gc k b st
  | _=>none
 | .block id b,st=>(exec E f nt gc k b st).bind fun p=>match p with
  | (.exit i,st')=>bif i.beq id then some (.normal,st') else some (.exit i,st')
  | p=>some p
 | .loop b,st=>(iter (fun st=>(fP E f gc (3*bH b) st).bind (exec E f nt gc k b)) k st).bind fun p=>kz E f gc (bH b) p.1 p.2
 | .exit id,st=>some (.exit id,st)
 | .ret,st=>some (.ret,st)
 | .rangeFunc q ps az bd,st=>(Cx ps).bind fun p=>(oJ E.live f (bH az)).bind fun sp=>(E.live f (3*bH az)).bind fun bO=>bif gc && (AG bO p az bd && p.blt nt) then
   (ln (ev st.fr q) sp.g).bind fun b=>(IU E.P sp st.h.get b.1).bind fun row=>(dt E.P sp q p (gX bO (fM E.live f (3*bH az))) (exec E f nt false k az) (exec E f nt false k bd) row.2 k 0 st).map fun st=>(.normal,st) else none
 | _,_=>none
def zv:Nat→List S→Fr
 | _,[]=>.leaf
 | i,s::r=>(zv (i+1) r).set i (some s)
def vM (P:Program) (st:St):List ResultVar→Option (List S)
 | []=>some []
 | .tmp t::r=>(vM P st r).map fun l=>ev st.fr (.tmp t)::l
 | .cell a t::r=>(gT P st.h.get t (ev st.fr (.tmp a))).bind fun s=>(vM P st r).map fun l=>s::l
def j4:List S→S
 | [v]=>v
 | vs=>.bJ vs
def Qq:Ex→Bool
 | .exit _=>false
 | _=>true
def Env.fn (E:Env) (f:FuncId):Option Func:=match E.ov f with
 | some fn=>some fn
 | none=>E.P.funcs[f]?
def cD (E:Env) (gc:Bool) (k:Nat) (f:FuncId) (args:List S) (h:Heap):Option (S × Heap):=
 match E.fn f with
 | none=>none
 | some fn=>match fn.body with
  | none=>none
  | some c=>bif args.length.ble fn.ntmps then
   ((exec E f fn.ntmps gc k c ⟨zv 0 args,h⟩).bind fun p=>bif Qq p.1 then (vM E.P p.2 fn.results.toList).map fun vs=>(j4 vs,p.2.h) else none) else none
inductive Sh where
 | int (k:IntKind) (j:Nat)
 | bool (j:Nat)
 | str (j:Nat)
 | rows (sz j:Nat)
 | top (sz j:Nat)
 | mt (j:Nat)
 | agg (l:List Sh)
 | bJ (l:List Sh)
def shT (P:Program):Nat→TypeId→Nat→Option (List Sh)
 | 0,_,_=>none
 | d+1,t,j=>match P.underlying t with
  | some .bool=>some [.bool j]
  | some (.int k)=>some [.int k j]
  | some .string=>some [.str j]
  | some (.slice e)=>some [.rows (P.cellsOf e) j]
  | some (.map _ _)=>some [.mt j]
  | some (.struct fs)=>fs.toList.foldr (fun f r=>match r,shT P d f.type (j+f.offset) with | some l,some x=>some (x++l) | _,_=>none) (some [])
  | some (.array n e)=>(List.range n).foldr (fun i r=>match r,shT P d e (j+i*P.cellsOf e) with | some l,some x=>some (x++l) | _,_=>none) (some [])
  | _=>none
def shV (P:Program) (t:TypeId) (j:Nat):Option (Sh × Nat):=
 match shT P 10 t j with
 | some l=>match P.underlying t with
  | some (.struct _)=>some (.agg l,j+l.length)
  | some (.array _ _)=>some (.agg l,j+l.length)
  | _=>match l with
   | [x]=>some (x,j+1)
   | _=>none
 | none=>none
def shR (P:Program):List TypeId→Nat→Option (List Sh)
 | [],_=>some []
 | t::r,j=>match shV P t j with
  | some (x,j')=>match shR P r j' with
   | some l=>some (x::l)
   | none=>none
  | none=>none
def BS (f:Nat):Bool:=f.beq 39 || f.beq 84 || f.beq 40 || f.beq 11
def agb:Sh→Sh
 | .rows sz j=>.top sz j
 | .bJ (.rows sz j::l)=>.bJ (.top sz j::l)
 | s=>s
def ahC (P:Program) (f:FuncId):Option Sh:=
 match P.funcs[f]? with
 | some fn=>match shR P fn.resultTypes.toList 0 with
  | some [x]=>some x
  | some l=>some (.bJ l)
  | none=>none
 | none=>none
def wh (P:Program) (f:FuncId):Option Sh:=bif BS f then (ahC P f).map agb else ahC P f
mutual
def sT:Sh→S→S
 | .rows sz _,.t (.v (.slice none 0 0))=>.t (.rows sz 0 fun i=>i.elim0)
 | .top sz _,.t (.v (.slice none 0 0))=>.top sz 0 fun i=>i.elim0
 | .agg l,.agg cs=>.agg (DE l cs)
 | .bJ l,.bJ cs=>.bJ (DE l cs)
 | _,s=>s
def DE:List Sh→List S→List S
 | sh::l,s::r=>sT sh s::DE l r
 | _,cs=>cs
end
def oU (P:Program) (f:FuncId) (s:S):S:=match wh P f with
 | some sh=>sT sh s
 | none=>s
def sL (get:Nat→Option B) (d:Nat):S→Option (S × List Nat)
 | .sl b n=>match get b with
  | some (.row false sz n g)=>some (.top sz n g,[b])
  | _=>cd get d (.sl b n)
 | s=>cd get d s
def yb (get:Nat→Option B) (d:Nat):S→Option (S × List Nat)
 | .bJ (s::r)=>match sL get d s with
  | some (x,l)=>match gg get d r with
   | some (xs,l')=>some (.bJ (x::xs),l++l')
   | none=>none
  | none=>none
 | s=>sL get d s
def mE (f:Nat) (get:Nat→Option B) (d:Nat) (s:S):Option (S × List Nat):=bif BS f then yb get d s else cd get d s
structure jl where
 P:Program
 K:TypeId→Option (List Nat)
 fnOk:FuncId→Bool
 fns:FuncId→Bool
 inl:FuncId→Bool
 live:FuncId→Nat→Option (List Nat)
 ov:FuncId→Option Func
 ext:FuncId→Option (List S→Option S)
def kN (F:List S→Option S) (args:List S) (h:Heap):Option (S × Heap):=match args with
 | [.sl b _,.t x]=>match h.get b with
  | some (.row false sz m g)=>match F [.t (.rows sz m g),.t x] with
   | some (.t (.rows sz' m' g'))=>bif sz'.beq sz then some (.bJ [],h.put b (.row false sz m' g')) else none
   | _=>none
  | _=>none
 | _=>none
def dR (O:jl):Nat→Env
 | 0=>⟨O.P,O.K,O.fnOk,O.inl,O.live,O.ov,(fun _ _=>none),(fun _ _ _=>none)⟩
 | k+1=>⟨O.P,O.K,O.fnOk,O.inl,O.live,O.ov,
   (fun f args=>match O.ext f with
    | some F=>F args
    | none=>bif O.fns f then
     (match cD (dR O k) true k f args .empty with
      | some (r,h)=>(mE f h.get bZ r).map fun p=>oU O.P f p.1
      | none=>none) else none),
   (fun f args h=>match O.ext (2000000+f) with
    | some F=>kN F args h
    | none=>bif O.fns f && (O.ov f).isNone then cD (dR O k) false k f args h else none)⟩
def KW:Op→Op→Bool
 | .load ..,.mapUpdate .. => true
 | .mapUpdate ..,.load .. => true
 | _,_=>false
def oR (inl:FuncId→Bool) (x y:Op):Bool:=
 KW x y || match cp inl x,cp inl y with
 | .p,_=>true
 | _,.p=>true
 | .w,_=>false
 | _,.w=>false
 | _,_=>true
def nE (ops:Array Oper):Op→Op→Bool
 | .load _ (.tmp a),.store .. => !qd ops a
 | .store ..,.load _ (.tmp a)=>!qd ops a
 | _,_=>false
def Lw (inl:FuncId→Bool) (ops:Array Oper):Bool:=
 let bef:=Region.before ops
 (List.range ops.size).all fun i=>(List.range i).all fun j=>
  (bef.getD i 0).testBit j ||
  (match ops[j]?,ops[i]? with
   | some x,some y=>Oper.apart ops x y && (oR inl x.op y.op || nE ops x.op y.op) && !allowed y j && !allowed x i
   | _,_=>false)
def JA (ops:Array Oper):Bool:=
 (List.range ops.size).all fun i=>match ops[i]? with
  | some o=>o.after.all fun e=>!Region.binds .any e || e.on.blt i
  | none=>false
def fc (inl:FuncId→Bool):Code→Bool
 | .region _ ops true=>Lw inl ops && JA ops
 | .seq a b=>fc inl a && fc inl b
 | .cond _ a b=>fc inl a && fc inl b
 | .block _ b=>fc inl b
 | .loop b=>fc inl b
 | .rangeFunc _ _ a b=>fc inl a && fc inl b
 | _=>true
end Go.Proofs.YtonkoellfaopiaaGreatDoor.H
namespace Go.Proofs.YtonkoellfaopiaaGreatDoor.H
open Go Go.RowKit
structure Gh where
 mu:Nat→Option Value
 own:Nat→Option Nat
 bB:Nat→Prop
class dq where
 n:Nat
instance (priority:=10) XC:dq:=⟨0⟩
def kZ (c:Array Value) (fz:Nat × Nat):Prop:=fz.2≤fz.1∨c.size≤fz.1
section
variable [dq]
inductive dH (w:World) (I:Nat→Prop):T→Value→Prop
 | v (x:Value) (h:x.oneCell'=true):dH w I (.v x) x
 | rows (sz n:Nat) (get:Fin n→List T) (base:Option Addr) (cap:Nat) (vs:Fin n→Nat→Value) (hcap:n≤cap) (hlen:∀ i,(get i).length=sz)
   (hb:n≠0→∃ r o,base=some ⟨r,o,none⟩∧I r∧∀ (i:Fin n) (k:Nat) (c:T),(get i)[k]?=some c→w.cell? ⟨r,o+i.1*sz+k,none⟩=some (vs i k))
   (hc:∀ (i:Fin n) (k:Nat) (c:T),(get i)[k]?=some c→dH w I c (vs i k)):
   dH w I (.rows sz n get) (.slice base n cap)
 | fr (sz n:Nat) (get:Fin n→List T) (base:Option Addr) (cap:Nat) (vs:Fin n→Nat→Value) (hcap:n≤cap) (hlen:∀ i,(get i).length=sz)
   (hb:n≠0→∃ r o c ty fz,base=some ⟨r,o,none⟩∧I r∧dq.n≤r∧w.heap[r]?=some (.cells c ty fz)∧kZ c fz∧∀ (i:Fin n) (k:Nat) (t:T),(get i)[k]?=some t→c[o+i.1*sz+k]?=some (vs i k))
   (hc:∀ (i:Fin n) (k:Nat) (c:T),(get i)[k]?=some c→dH w I c (vs i k)):
   dH w I (.fr sz n get) (.slice base n cap)
structure nY (w:World) (I:Nat→Prop) (sz n:Nat) (get:Fin n→List T) (base:Option Addr) (cap:Nat):Prop where
 cap:n≤cap
 len:∀ i,(get i).length=sz
 low:∃ J:Nat→Prop,(∀ q,J q→I q)∧(n≠0→∃ r o c ty fz,base=some ⟨r,o,none⟩∧I r∧¬ J r∧dq.n≤r∧w.heap[r]?=some (.cells c ty fz)∧kZ c fz∧∀ (i:Fin n) (k:Nat) (t:T),(get i)[k]?=some t→∃ v,c[o+i.1*sz+k]?=some v∧dH w J t v)
def j6 (w:World) (I:Nat→Prop) (a:Addr) (cs:List T):Prop:=
 ∀ (k:Nat) (c:T),cs[k]?=some c→∃ v,w.cell? ⟨a.block,a.off+k,none⟩=some v∧dH w I c v
def oG (arr:Array MapEntry) (clock:Nat):Prop:=(∀ x∈arr.toList,x.born < clock)∧(arr.toList.map (·.born)).Nodup
theorem BR {arr:Array MapEntry} {clock:Nat} (h:oG arr clock) (k v:Value):oG (arr.push { key:=k,val:=v,born:=clock }) (clock+1):=by
 refine ⟨fun x hx=>?_,?_⟩
 ·rw [Array.toList_push,List.mem_append] at hx
  rcases hx with hx | hx
  ·exact Nat.lt_succ_of_lt (h.1 x hx)
  ·rw [List.mem_singleton.1 hx];exact Nat.lt_succ_self _
 ·rw [Array.toList_push,List.map_append,List.nodup_append]
  refine ⟨h.2,by simp,fun a ha b hb e=>?_⟩
  obtain ⟨x,hx,rfl⟩:=List.mem_map.1 ha
  have:b=clock:=by simpa using hb
  have:=h.1 x hx
  omega
theorem vI {arr:Array MapEntry} {clock:Nat} (h:oG arr clock) (i:Nat) (k v:Value):oG (arr.modify i fun e=>{ e with key:=k,val:=v }) clock:=by
 have hm:(arr.modify i fun e=>{ e with key:=k,val:=v }).toList.map (·.born)=arr.toList.map (·.born):=by
  rw [Array.toList_modify]
  refine List.ext_getElem (by simp) fun j h1 h2=>?_
  simp only [List.getElem_map,List.getElem_modify]
  split<;>rfl
 refine ⟨fun x hx=>?_,by rw [hm];exact h.2⟩
 have:x.born∈arr.toList.map (·.born):=hm ▸ List.mem_map_of_mem hx
 obtain ⟨y,hy,e⟩:=List.mem_map.1 this
 rw [← e];exact h.1 y hy
inductive aY (G:Gh) (w:World):S→Value→Prop
 | un (v:Value):aY G w .un v
 | t {x:T} {v:Value} (h:dH w G.bB x v):aY G w (.t x) v
 | agg {cs:List S} {vs:Array Value} (hl:cs.length=vs.size) (h:∀ (i:Nat) (s:S) (v:Value),cs[i]?=some s→vs[i]?=some v→aY G w s v):aY G w (.agg cs) (.agg vs)
 | bJ {cs:List S} {vs:Array Value} (hl:cs.length=vs.size) (h:∀ (i:Nat) (s:S) (v:Value),cs[i]?=some s→vs[i]?=some v→aY G w s v):aY G w (.bJ cs) (.tuple vs)
 | full {sz n:Nat} {get:Fin n→List T} {base:Option Addr} (h:dH w G.bB (.rows sz n get) (.slice base n n)):aY G w (.full sz n get) (.slice base n n)
 | top {sz n cap:Nat} {get:Fin n→List T} {base:Option Addr} (h:nY w G.bB sz n get base cap):aY G w (.top sz n get) (.slice base n cap)
 | pt {cs:List T} {r o:Nat} (hi:G.bB r) (h:j6 w G.bB ⟨r,o,none⟩ cs):aY G w (.pt cs) (.pointer (some ⟨r,o,none⟩))
 | ptr {b o r:Nat} (h:G.mu b=some (.pointer (some ⟨r,0,none⟩))):aY G w (.ptr b o) (.pointer (some ⟨r,o,none⟩))
 | sl {b n cap:Nat} {base:Option Addr} (h:G.mu b=some (.slice base n cap)) (hb:n≠0→∃ r,base=some ⟨r,0,none⟩):aY G w (.sl b n) (.slice base n cap)
 | ep {b z i o r n cap:Nat} (h:G.mu b=some (.slice (some ⟨r,0,none⟩) n cap)):aY G w (.ep b z i o) (.pointer (some ⟨r,i*z+o,none⟩))
 | fn {f:Fn} {a c:List S} {va vc:Array Value} (ha:a.length=va.size) (h:∀ (i:Nat) (s:S) (v:Value),a[i]?=some s→va[i]?=some v→aY G w s v)
   (hc:c.length=vc.size) (h':∀ (i:Nat) (s:S) (v:Value),c[i]?=some s→vc[i]?=some v→aY G w s v):aY G w (.fn f a c) (.func f va vc)
 | nn (t:TypeId) (v:Value):aY G w .nn (.iface t v)
 | ud:aY G w .ud undef
 | mp {b r:Nat} (h:G.mu b=some (.map (some r))):aY G w (.mp b) (.map (some r))
 | mt {es:List (S × S)} {r:Nat} {arr:Array MapEntry} {clock:Nat} (hi:G.bB r) (hb:w.heap[r]?=some (.map arr clock)) (hl:es.length=arr.size)
   (hk:∀ (i:Nat) (e:S × S) (m:MapEntry),es[i]?=some e→arr[i]?=some m→aY G w e.1 m.key) (hv:∀ (i:Nat) (e:S × S) (m:MapEntry),es[i]?=some e→arr[i]?=some m→aY G w e.2 m.val) (hw:oG arr clock):aY G w (.mt es) (.map (some r))
 | it {r:Nat} (hi:G.bB r) (h:w.heap[r]?=some (.mapIter none 0 #[] 0)∨∃ m c,G.bB m∧w.heap[m]?=some (.map #[] c)∧w.heap[r]?=some (.mapIter (some m) c #[] c)):aY G w .it (.pointer (some ⟨r,0,none⟩))
def nf (G:Gh) (w:World) (c:Array Value) (cs:List S):Prop:=
 ∀ (k:Nat) (s:S),cs[k]?=some s→∃ v,c[k]?=some v∧aY G w s v
def jb (G:Gh) (w:World) (arr:Array MapEntry) (es:List (S × S)):Prop:=
 es.length=arr.size∧∀ (i:Nat) (e:S × S) (m:MapEntry),es[i]?=some e→arr[i]?=some m→aY G w e.1 m.key∧aY G w e.2 m.val
def pP (G:Gh) (w:World) (c:Array Value) (sz n:Nat) (get:Fin n→List T):Prop:=
 ∀ (i:Fin n) (k:Nat) (t:T),(get i)[k]?=some t→∃ v,c[i.1*sz+k]?=some v∧dH w G.bB t v
inductive jG (G:Gh) (B0:Nat) (w:World) (b:Nat):B→Prop
 | box {cs:List S} {r:Nat} {c:Array Value} {ty:TypeId} {fz:Nat × Nat} (hmu:G.mu b=some (.pointer (some ⟨r,0,none⟩))) (hown:G.own b=some r)
   (hb:w.heap[r]?=some (.cells c ty fz)) (hf:kZ c fz) (hl:c.size=cs.length) (hc:nf G w c cs) (hi:¬ G.bB r) (hB:B0≤r):jG G B0 w b (.box cs)
 | fO {f:Bool} {sz n r:Nat} {cs:List S} {c:Array Value} {ty:TypeId} {fz:Nat × Nat} (hmu:G.mu b=some (.slice (some ⟨r,0,none⟩) n n)) (hown:G.own b=some r)
   (hb:w.heap[r]?=some (.cells c ty fz)) (hf:kZ c fz) (hl:c.size=cs.length) (hn:cs.length=n*sz) (hc:nf G w c cs) (hi:f=false→¬ G.bB r) (hB:B0≤r):jG G B0 w b (.fO f sz n cs)
 | row {f:Bool} {sz n cap r:Nat} {get:Fin n→List T} {c:Array Value} {ty:TypeId} {fz:Nat × Nat} (hmu:G.mu b=some (.slice (some ⟨r,0,none⟩) n cap)) (hown:G.own b=some r)
   (hb:w.heap[r]?=some (.cells c ty fz)) (hf:kZ c fz) (hcap:n≤cap) (hl:cap*sz≤c.size) (hc:pP G w c sz n get) (hlen:∀ i,(get i).length=sz) (hi:f=false→¬ G.bB r) (hB:B0≤r):jG G B0 w b (.row f sz n get)
 | mp {f:Bool} {es:List (S × S)} {r clock:Nat} {arr:Array MapEntry} (hmu:G.mu b=some (.map (some r))) (hown:G.own b=some r) (hb:w.heap[r]?=some (.map arr clock)) (hc:jb G w arr es) (hi:f=false→¬ G.bB r) (hB:B0≤r) (hw:oG arr clock):jG G B0 w b (.mp f es)
 | none {f:Bool} {sz:Nat} {get:Fin 0→List T} {base:Option Addr} (hmu:G.mu b=some (.slice base 0 0)) (hown:G.own b=none):jG G B0 w b (.row f sz 0 get)
def CS:Obj→Bool
 | .loop _=>true
 | .deferred _=>true
 | _=>false
def iW (I:Nat→Prop) (w:World):Prop:=∀ (r:Nat) (o:Obj),I r→w.heap[r]?=some o→CS o=false
def db (w w':World):Prop:=∀ (k:Nat) (o:Obj),w.heap[k]?=some o→CS o=true→w'.heap[k]?=some o
theorem jw (w:World) (o:Obj):(w.alloc o).heap[w.heap.size]?=some o:=by
 show (w.heap.push _)[w.heap.size]?=_
 simp
theorem db.refl (w:World):db w w:=fun _ _ h _=>h
theorem db.trans {w w1 w2:World} (a:db w w1) (b:db w1 w2):db w w2:=fun k o h l=>b k o (a k o h l) l
theorem db.below {w w':World} (h:Below w.heap.size w w'):db w w':=fun k o hk _=>(h.block k (Array.getElem?_eq_some_iff.1 hk).1).trans hk
theorem iW.mono {I:Nat→Prop} {w w':World} (h:iW I w) (hk:∀ r,I r→w'.heap[r]?=w.heap[r]?):iW I w':=fun r o hi ho=>h r o hi ((hk r hi).symm.trans ho)
structure cR (B0:Nat) (w0:World) (G:Gh) (h:Heap) (w:World):Prop where
 below:Below B0 w0 w
 bB:∀ r,G.bB r→r < w.heap.size
 rep:∀ b x,h.get b=some x→jG G B0 w b x
 inj:∀ b b' r,h.get b≠none→h.get b'≠none→G.own b=some r→G.own b'=some r→b=b'
 lo:∀ b,h.next≤b→G.mu b=none∧h.get b=none
 b0:B0≤w.heap.size
 gP:iW G.bB w
 bs:dq.n≤B0
structure Nx (B0 id:Nat) (G:Gh) (h:Heap) (w:World) (G':Gh) (h':Heap) (w':World):Prop where
 bB:∀ r,G.bB r→G'.bB r
 bO:∀ r,G.bB r→w'.heap[r]?=w.heap[r]?
 mu:∀ b,b≠id→b < h.next→G'.mu b=G.mu b
 r_:∀ b,b≠id→b < h.next→h.get b=none→h'.get b=none
 next:h.next≤h'.next
 old:∀ q,G'.bB q→G.bB q∨B0≤q
 ld:db w w'
theorem Nx.refl (B0 id:Nat) (G:Gh) (h:Heap) (w:World):Nx B0 id G h w G h w:=⟨fun _ h=>h,fun _ _=>rfl,fun _ _ _=>rfl,fun _ _ _ h=>h,Nat.le_refl _,fun _ h=>.inl h,db.refl w⟩
theorem Nx.trans {B0 id:Nat} {G G1 G2:Gh} {h h1 h2:Heap} {w w1 w2:World} (a:Nx B0 id G h w G1 h1 w1) (b:Nx B0 id G1 h1 w1 G2 h2 w2):Nx B0 id G h w G2 h2 w2:=
 ⟨fun r hr=>b.bB r (a.bB r hr),fun r hr=>(b.bO r (a.bB r hr)).trans (a.bO r hr),fun x h1 h2=>(b.mu x h1 (Nat.lt_of_lt_of_le h2 a.next)).trans (a.mu x h1 h2),
  fun x h1 h2 h3=>b.r_ x h1 (Nat.lt_of_lt_of_le h2 a.next) (a.r_ x h1 h2 h3),Nat.le_trans a.next b.next,fun q h=>(b.old q h).elim (a.old q) .inr,a.ld.trans b.ld⟩
theorem cell_of_heap {w w':World} {a:Addr} (h:w'.heap[a.block]?=w.heap[a.block]?):w'.cell? a=w.cell? a:=World.cell?_of_block (w:=w) h
theorem dH.mono {w w':World} {I I':Nat→Prop} (hI:∀ r,I r→I' r) (hk:∀ r,I r→w'.heap[r]?=w.heap[r]?) {t:T} {v:Value} (h:dH w I t v):dH w' I' t v:=by
 induction h with
 | v x h=>exact .v x h
 | rows sz n get base cap vs hcap hlen hb hc ih=>
  refine .rows sz n get base cap vs hcap hlen (fun hn=>?_) ih
  obtain ⟨r,o,e,hr,hcell⟩:=hb hn
  exact ⟨r,o,e,hI r hr,fun i k c hg=>(cell_of_heap (hk r hr)).trans (hcell i k c hg)⟩
 | fr sz n get base cap vs hcap hlen hb hc ih=>
  refine .fr sz n get base cap vs hcap hlen (fun hn=>?_) ih
  obtain ⟨r,o,c,ty,fz,e,hr,hB,hbl,hf,hcell⟩:=hb hn
  exact ⟨r,o,c,ty,fz,e,hI r hr,hB,(hk r hr).trans hbl,hf,hcell⟩
theorem nY.mono {w w':World} {I I':Nat→Prop} (hI:∀ r,I r→I' r) (hk:∀ r,I r→w'.heap[r]?=w.heap[r]?) {sz n cap:Nat} {get:Fin n→List T} {base:Option Addr} (h:nY w I sz n get base cap):nY w' I' sz n get base cap:=by
 obtain ⟨h1,h2,J,hJ,h3⟩:=h
 refine ⟨h1,h2,J,fun q hq=>hI q (hJ q hq),fun hn=>?_⟩
 obtain ⟨r,o,c,ty,fz,e,hr,hj,hB,hbl,hf,hcell⟩:=h3 hn
 exact ⟨r,o,c,ty,fz,e,hI r hr,hj,hB,(hk r hr).trans hbl,hf,fun i k t ht=>let ⟨v,hv,ht2⟩:=hcell i k t ht;⟨v,hv,ht2.mono (fun _ h=>h) fun q hq=>hk q (hJ q hq)⟩⟩
theorem dH.kp {w:World} {I:Nat→Prop} {t:T} {v:Value} (h:dH w I t v):dH w I (kp t) v:=by
 cases h with
 | v _ h=>exact .v _ h
 | rows sz n get base cap vs hcap hlen hb hc=>exact .rows sz n get base cap vs hcap hlen hb hc
 | fr sz n get base cap vs hcap hlen hb hc=>
  refine .rows sz n get base cap vs hcap hlen (fun hn=>?_) hc
  obtain ⟨r,o,c,ty,fz,e,hr,hB,hbl,hf,hcell⟩:=hb hn
  exact ⟨r,o,e,hr,fun i k t hg=>by simp [World.cell?,hbl];exact hcell i k t hg⟩
theorem nY.fr {w:World} {I:Nat→Prop} {sz n cap:Nat} {get:Fin n→List T} {base:Option Addr} (h:nY w I sz n get base cap):dH w I (.fr sz n get) (.slice base n cap):=by
 obtain ⟨h1,h2,J,hJ,h3⟩:=h
 by_cases hn:n=0
 ·subst hn
  exact .fr sz 0 get base cap (fun i=>i.elim0) h1 h2 (fun h=>absurd rfl h) fun i=>i.elim0
 ·obtain ⟨r,o,c,ty,fz,e,hr,hj,hB,hbl,hf,hcell⟩:=h3 hn
  refine .fr sz n get base cap (fun i k=>(c[o+i.1*sz+k]?).getD undef) h1 h2 (fun _=>⟨r,o,c,ty,fz,e,hr,hB,hbl,hf,fun i k t ht=>?_⟩) fun i k t ht=>?_
  ·obtain ⟨v,hv,_⟩:=hcell i k t ht
   rw [hv];rfl
  ·obtain ⟨v,hv,hT⟩:=hcell i k t ht
   rw [hv]
   exact hT.mono hJ fun _ _=>rfl
theorem j6.mono {w w':World} {I I':Nat→Prop} (hI:∀ r,I r→I' r) (hk:∀ r,I r→w'.heap[r]?=w.heap[r]?) {a:Addr} {cs:List T} (ha:I a.block) (h:j6 w I a cs):j6 w' I' a cs:=
 fun k c hc=>let ⟨v,hv,ht⟩:=h k c hc;⟨v,(cell_of_heap (a:=⟨a.block,a.off+k,none⟩) (hk _ ha)).trans hv,ht.mono hI hk⟩
theorem aY.mono {G G':Gh} {w w':World} (hI:∀ r,G.bB r→G'.bB r) (hk:∀ r,G.bB r→w'.heap[r]?=w.heap[r]?) (hm:∀ b x,G.mu b=some x→G'.mu b=some x) {s:S} {v:Value} (h:aY G w s v):aY G' w' s v:=by
 induction h with
 | un v=>exact .un v
 | t h=>exact .t (h.mono hI hk)
 | agg hl _ ih=>exact .agg hl ih
 | bJ hl _ ih=>exact .bJ hl ih
 | full h=>exact .full (h.mono hI hk)
 | top h=>exact .top (h.mono hI hk)
 | pt hi h=>exact .pt (hI _ hi) (j6.mono hI hk hi h)
 | ptr h=>exact .ptr (hm _ _ h)
 | sl h hb=>exact .sl (hm _ _ h) hb
 | ep h=>exact .ep (hm _ _ h)
 | fn ha _ hc _ ih ih'=>exact .fn ha ih hc ih'
 | nn t v=>exact .nn t v
 | ud=>exact .ud
 | mp h=>exact .mp (hm _ _ h)
 | mt hi hb hl _ _ hw ih ih'=>exact .mt (hI _ hi) ((hk _ hi).trans hb) hl ih ih' hw
 | it hi h=>exact .it (hI _ hi) (h.imp (fun e=>(hk _ hi).trans e) fun ⟨m,c,h1,h2,h3⟩=>⟨m,c,hI _ h1,(hk _ h1).trans h2,(hk _ hi).trans h3⟩)
theorem jb.mono {G G':Gh} {w w':World} {arr:Array MapEntry} {es:List (S × S)} (h:jb G w arr es) (hI:∀ r,G.bB r→G'.bB r) (hk:∀ r,G.bB r→w'.heap[r]?=w.heap[r]?) (hm:∀ b x,G.mu b=some x→G'.mu b=some x):jb G' w' arr es:=
 ⟨h.1,fun i e m h1 h2=>⟨(h.2 i e m h1 h2).1.mono hI hk hm,(h.2 i e m h1 h2).2.mono hI hk hm⟩⟩
theorem Nx.ajk {B0 id:Nat} {w0:World} {G G':Gh} {h h':Heap} {w w':World} (n:Nx B0 id G h w G' h' w') (hs:cR B0 w0 G h w) (hid:G.mu id=none) {s:S} {v:Value} (hr:aY G w s v):aY G' w' s v:=
 hr.mono n.bB n.bO fun b x hb=>by
  have hne:b≠id:=fun e=>by rw [e,hid] at hb;cases hb
  have hlt:b < h.next:=by
   rcases Nat.lt_or_ge b h.next with hh | hh
   ·exact hh
   ·rw [(hs.lo b hh).1] at hb;cases hb
  rw [n.mu b hne hlt];exact hb
structure cV (nt:Nat) (G:Gh) (w:World) (fr:Fr) (a:Act):Prop where
 size:a.tmps.size=nt
 rep:∀ t s,fr.get t=some s→∃ v,a.tmps[t]?=some v∧aY G w s v
theorem cV.mono {nt:Nat} {G G':Gh} {w w':World} {fr:Fr} {a:Act} (h:cV nt G w fr a) (hm:∀ s v,aY G w s v→aY G' w' s v):cV nt G' w' fr a:=
 ⟨h.size,fun t s hs=>let ⟨v,hv,hr⟩:=h.rep t s hs;⟨v,hv,hm s v hr⟩⟩
theorem yz {G:Gh} {w:World} {vs:List Value} (ho:vs.all Value.oneCell'=true) {i:Nat} {s:S} {v:Value} (h:(vs.map sv)[i]?=some s) (h':vs[i]?=some v):aY G w s v:=by
 rw [List.getElem?_map,h'] at h
 obtain rfl:=Option.some.inj h
 exact .t (.v v (List.all_eq_true.1 ho v (List.mem_of_getElem? h')))
theorem oI {G:Gh} {w:World} (v:Value):aY G w (gj v) v:=by
 unfold gj
 split
 ·rename_i cs
  cases ho:cs.toList.all Value.oneCell'
  ·exact .un _
  ·exact .agg (by simp) fun i s v hs hv=>yz ho hs (by simpa using hv)
 ·exact .un _
 ·rename_i h1 h2
  refine .t (.v _ ?_)
  cases v<;>first | rfl | (exact absurd rfl (h1 _)) | (exact absurd rfl (h2 _))
theorem cV.ev {nt:Nat} {G:Gh} {w:World} {fr:Fr} {a:Act} (h:cV nt G w fr a) (x:Operand):aY G w (ev fr x) (a.eval x):=by
 cases x with
 | tmp t=>
  show aY G w ((fr.get t).getD .un) (a.tmps.getD t undef)
  cases e:fr.get t with
  | none=>exact .un _
  | some s=>
   obtain ⟨v,hv,hr⟩:=h.rep t s e
   simp only [Option.getD_some]
   rw [Array.getD_eq_getD_getElem?,hv]
   exact hr
 | const v=>exact oI v
 | global g=>exact .t (.v _ rfl)
 | func f=>exact .t (.v _ rfl)
theorem cV.put {nt:Nat} {G:Gh} {w:World} {fr fr':Fr} {a:Act} (h:cV nt G w fr a) {dst:Option Tmp} {s:S} {v:Value} (hp:jm nt fr dst s=some fr') (hs:aY G w s v):cV nt G w fr' (a.put dst v):=by
 unfold jm at hp
 cases dst with
 | none=>
  obtain rfl:=Option.some.inj hp
  exact h
 | some d=>
  simp only at hp
  cases hb:d.blt nt with
  | false=>rw [hb] at hp;cases hp
  | true=>
   rw [hb] at hp
   obtain rfl:=Option.some.inj hp
   have hd:d < nt:=by simpa [Nat.blt_eq] using hb
   refine ⟨by simp [Act.put,h.size],fun t s' hg=>?_⟩
   rw [gV] at hg
   by_cases e:d=t
   ·subst e
    rw [if_pos rfl] at hg
    obtain rfl:=Option.some.inj hg
    exact ⟨v,by simp [Act.put,Array.getElem?_setIfInBounds,h.size,hd],hs⟩
   ·rw [if_neg e] at hg
    obtain ⟨v',hv',hr⟩:=h.rep t s' hg
    exact ⟨v',by simp only [Act.put];rw [Array.getElem?_setIfInBounds_ne e];exact hv',hr⟩
def vJ (L:Nat) (w:World) (l:List Deferred):Prop:=(∀ d∈l,∃ D,d={ target:=.collected D,args:=#[] }∧L≤D∧w.heap[D]?=some (.deferred (some [])))∧l.Nodup
theorem vJ.mono {B0:Nat} {w w':World} {l:List Deferred} (h:vJ B0 w l) (hk:db w w'):vJ B0 w' l:=⟨fun d hd=>let ⟨D,e,hb,hw⟩:=h.1 d hd;⟨D,e,hb,hk D _ hw rfl⟩,h.2⟩
theorem vJ.nil (B0:Nat) (w:World):vJ B0 w []:=⟨(fun _ h=>by cases h),List.nodup_nil⟩
end
end Go.Proofs.YtonkoellfaopiaaGreatDoor.H
