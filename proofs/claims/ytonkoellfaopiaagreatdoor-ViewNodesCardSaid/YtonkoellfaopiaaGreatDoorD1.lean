import Derived.Test.YtonkoellfaopiaaGreatDoorD0
import Derived.Laws.Sem
import Derived.Laws.Entries
import Derived.ChangeKeysEq
import Derived.Lib.Bytes
import Derived.WideLaws
import Derived.Laws.StructEq
import Derived.Laws.Cells
set_option linter.unusedSimpArgs false
set_option linter.unusedVariables false
set_option linter.unusedSectionVars false
namespace Go.Proofs.YtonkoellfaopiaaGreatDoor.H
open Go Go.RowKit
section
variable [dq] {P:Program} {G:Gh} {w:World} {nt:Nat} {fr:Fr} {a:Act}
theorem a_ {x v:Value} (h:aY G w (.t (.v x)) v):v=x∧x.oneCell'=true:=by
 cases h with | t h=>cases h with | v _ ho=>exact ⟨rfl,ho⟩
theorem ct {x:Value} (h:x.oneCell'=true):aY G w (sv x) x:=.t (.v x h)
theorem Nf {cs:List S} {v:Value} (h:aY G w (.agg cs) v):∃ vs,v=.agg vs∧cs.length=vs.size∧∀ (i:Nat) (s:S) (v:Value),cs[i]?=some s→vs[i]?=some v→aY G w s v:=by
 cases h with | agg hl h=>exact ⟨_,rfl,hl,h⟩
theorem qk {cs:List S} {v:Value} (h:aY G w (.bJ cs) v):∃ vs,v=.tuple vs∧cs.length=vs.size∧∀ (i:Nat) (s:S) (v:Value),cs[i]?=some s→vs[i]?=some v→aY G w s v:=by
 cases h with | bJ hl h=>exact ⟨_,rfl,hl,h⟩
def bD (G:Gh) (w:World) (cs:List S) (vs:List Value):Prop:=cs.length=vs.length∧∀ (i:Nat) (s:S) (v:Value),cs[i]?=some s→vs[i]?=some v→aY G w s v
theorem fQ {cs:List S} {v:Value} (h:aY G w (.agg cs) v):∃ vs,v=.agg vs∧bD G w cs vs.toList:=by
 obtain ⟨vs,rfl,hl,h⟩:=Nf h
 exact ⟨vs,rfl,by simpa using hl,fun i s v h1 h2=>h i s v h1 (by simpa using h2)⟩
theorem bD.agg {cs:List S} {vs:List Value} (h:bD G w cs vs):aY G w (.agg cs) (.agg vs.toArray):=
 .agg (by simpa using h.1) fun i s v h1 h2=>h.2 i s v h1 (by simpa using h2)
theorem bD.L8 {cs:List S} {vs:Array Value} (h:bD G w cs vs.toList):aY G w (.agg cs) (.agg vs):=
 .agg (by simpa using h.1) fun i s v h1 h2=>h.2 i s v h1 (by simpa using h2)
theorem bD.drop {cs:List S} {vs:List Value} (h:bD G w cs vs) (n:Nat):bD G w (cs.drop n) (vs.drop n):=
 ⟨by simp [h.1],fun i s v h1 h2=>h.2 (n+i) s v (by simpa using h1) (by simpa using h2)⟩
theorem bD.take {cs:List S} {vs:List Value} (h:bD G w cs vs) (n:Nat):bD G w (cs.take n) (vs.take n):=
 ⟨by simp [h.1],fun i s v h1 h2=>by
  rw [List.getElem?_take] at h1 h2
  split at h1
  ·rename_i hi;rw [if_pos hi] at h2;exact h.2 i s v h1 h2
  ·cases h1⟩
theorem bD.set {cs:List S} {vs:List Value} (h:bD G w cs vs) (n:Nat) {s:S} {v:Value} (hs:aY G w s v):bD G w (cs.set n s) (vs.set n v):=
 ⟨by simp [h.1],fun i s' v' h1 h2=>by
  rw [List.getElem?_set] at h1 h2
  by_cases e:n=i
  ·rw [if_pos e] at h1 h2
   split at h1
   ·rw [if_pos (by rw [← h.1];assumption)] at h2
    obtain rfl:=Option.some.inj h1
    obtain rfl:=Option.some.inj h2
    exact hs
   ·cases h1
  ·rw [if_neg e] at h1 h2
   exact h.2 i s' v' h1 h2⟩
theorem bD.nil:bD G w [] []:=⟨rfl,fun i s v h=>by simp at h⟩
theorem bD.cons {s:S} {v:Value} {cs:List S} {vs:List Value} (h:aY G w s v) (t:bD G w cs vs):bD G w (s::cs) (v::vs):=
 ⟨by simp [t.1],fun i s' v' h1 h2=>by
  cases i with
  | zero=>simp at h1 h2;subst h1;subst h2;exact h
  | succ i=>simp at h1 h2;exact t.2 i s' v' h1 h2⟩
theorem bD.dK {s:S} {cs:List S} {vs:List Value} (h:bD G w (s::cs) vs):∃ v r,vs=v::r∧aY G w s v∧bD G w cs r:=by
 cases vs with
 | nil=>have:=h.1;simp at this
 | cons v r=>exact ⟨v,r,rfl,h.2 0 s v (by simp) (by simp),⟨by have:=h.1;simpa using this,fun i s' v' h1 h2=>h.2 (i+1) s' v' (by simpa using h1) (by simpa using h2)⟩⟩
theorem bD.append {cs cs':List S} {vs vs':List Value} (h:bD G w cs vs) (h':bD G w cs' vs'):bD G w (cs++cs') (vs++vs'):=
 ⟨by simp [h.1,h'.1],fun i s v h1 h2=>by
  rw [List.getElem?_append] at h1 h2
  rw [h.1] at h1
  split at h1
  ·rename_i hi;rw [if_pos hi] at h2;exact h.2 i s v h1 h2
  ·rename_i hi;rw [if_neg hi] at h2;exact h'.2 _ s v h1 h2⟩
theorem lQ {s:S} {v:Value} (h:aY G w s v) (hs:kY s=true):bD G w (bf s) v.cells.toList:=by
 cases h with
 | agg hl h=>exact ⟨by simpa [bf,Value.cells] using hl,fun i s v h1 h2=>h i s v h1 (by simpa [Value.cells] using h2)⟩
 | un=>cases hs
 | t h=>cases h with
  | v x ho=>
   have:v.cells=#[v]:=by cases v<;>first | rfl | (simp [Value.oneCell'] at ho)
   rw [this];exact .cons (.t (.v v ho)) .nil
  | rows sz n get base cap vs hcap hl hb hc=>exact .cons (.t (.rows sz n get base cap vs hcap hl hb hc)) .nil
  | fr sz n get base cap vs hcap hl hb hc=>exact .cons (.t (.fr sz n get base cap vs hcap hl hb hc)) .nil
 | bJ hl h=>exact .cons (.bJ hl h) .nil
 | full h=>exact .cons (.full h) .nil
 | top h=>exact .cons (.top h) .nil
 | pt hi h=>exact .cons (.pt hi h) .nil
 | ptr h=>exact .cons (.ptr h) .nil
 | sl h hb=>exact .cons (.sl h hb) .nil
 | ep h=>exact .cons (.ep h) .nil
 | fn a b c d=>exact .cons (.fn a b c d) .nil
 | nn t v=>exact .cons (.nn t v) .nil
 | ud=>exact .cons .ud .nil
 | mp h=>exact .cons (.mp h) .nil
 | mt a b c d e f=>exact .cons (.mt a b c d e f) .nil
 | it a b=>exact .cons (.it a b) .nil
theorem eU:∀ (a b:List UInt8),r5 a b=(a == b)
 | [],[]=>rfl
 | [],_::_=>rfl
 | _::_,[]=>rfl
 | x::a,y::b=>by
  simp only [r5,eU a b,List.cons_beq_cons]
  cases e:x.toNat.beq y.toNat
  ·have:(x == y)=false:=by
    have h:x.toNat≠y.toNat:=by intro h;rw [h] at e;simp at e
    simp only [beq_eq_false_iff_ne,ne_eq];intro h';exact h (by rw [h'])
   simp [this]
  ·have:x=y:=UInt8.toNat_inj.1 (Nat.eq_of_beq_eq_true e)
   simp [this]
theorem HR (op:BinOp) (t:TypeId) (k:IntKind) (x y:Int) {s:Value} (h:zX op k x y=some s) (hsh:op≠.shl∧op≠.shr):(binOp op t (.int k x) (.int k y)).run P w=.ok s w∧s.oneCell'=true:=by
 cases op<;>simp only [zX] at h<;>first
  | (obtain rfl:=Option.some.inj h;exact ⟨by simp [binOp,Op.intArith,Op.intCmp,Op.intBits]<;>rfl,rfl⟩)
  | (by_cases e:y=0
     ·simp [e] at h
     ·simp only [e,decide_false,cond_false] at h
      obtain rfl:=Option.some.inj h
      exact ⟨by simp [binOp,Op.intDiv,e],rfl⟩)
  | (cases h;done)
  | (exact absurd rfl hsh.1)
  | (exact absurd rfl hsh.2)
theorem Az (op:BinOp) (t:TypeId) (k k':IntKind) (x y:Int) {s:Value} (h:tO op k x y=some s):(binOp op t (.int k x) (.int k' y)).run P w=.ok s w∧s.oneCell'=true:=by
 unfold tO at h
 by_cases e:y < 0
 ·simp [e] at h
 ·simp only [e,decide_false,cond_false] at h
  cases op<;>simp only at h<;>first
   | (obtain rfl:=Option.some.inj h;exact ⟨by simp [binOp,Op.shift,e],rfl⟩)
   | (cases h;done)
theorem E1 (op:BinOp) (t:TypeId) (x y:ByteArray) {s:Value} (h:Fq op x y=some s):(binOp op t (.string x) (.string y)).run P w=.ok s w∧s.oneCell'=true:=by
 have heq:(x.toList == y.toList)=ah x y:=by simp only [ah,eU,Lib.toList_data]
 have hlt:Op.bytesLess x.toList y.toList=strLt x y:=by simp only [strLt,Lib.toList_data]
 cases op<;>simp only [Fq] at h<;>first
  | (cases e:decide (x.size+y.size≤gw) with
     | false=>rw [e] at h;cases h
     | true=>
      rw [e] at h
      obtain rfl:=Option.some.inj h
      have e':x.size+y.size≤gw:=of_decide_eq_true e
      have:¬ (((x.size+y.size:Nat):Int) > IntKind.i64.max):=by
       have h1:IntKind.i64.max=9223372036854775807:=by rfl
       rw [h1];unfold gw at e';omega
      exact ⟨by simp only [binOp,Op.stringOp,if_neg this,Sem.run_pure],rfl⟩)
  | (obtain rfl:=Option.some.inj h;exact ⟨by simp only [binOp,Op.stringOp,Sem.run_pure,heq,hlt],rfl⟩)
  | (cases h;done)
theorem qz (t:TypeId) {d:TypeDesc} (h:P.underlying t=some d):(isAgg t).run P w=.ok (b_ P t) w:=by
 unfold isAgg b_
 rw [Sem.run_bind,run_underlying h,h]
 cases d<;>rfl
theorem info_of_underlying {t:TypeId} {d:TypeDesc} (h:P.underlying t=some d):∃ i,P.info? t=some i:=by
 unfold Program.underlying at h
 split at h<;>rename_i e<;>first | exact ⟨_,e⟩ | cases h
theorem lT {t:TypeId} {i:TypeInfo} (h:P.info? t=some i):P.cellsOf t=i.size:=by simp [Program.cellsOf,h]
theorem iK {t:TypeId} {d:TypeDesc} (h:P.underlying t=some d):(sizeOf t).run P w=.ok (P.cellsOf t) w:=by
 obtain ⟨i,hi⟩:=info_of_underlying h
 exact run_sizeOf w hi
theorem rv {t:TypeId} {d:TypeDesc} (ht:P.underlying t=some d) {cs:List S} {vs:Array Value} {o:Nat} {s:S} (hc:bD G w cs vs.toList) (h:BL (b_ P t) (P.cellsOf t) (cs.drop o)=some s):
  ∃ v,(part t vs o).run P w=.ok v w∧aY G w s v:=by
 unfold part
 simp only [Sem.run_bind,qz t ht,Result.andThen_ok]
 unfold BL at h
 cases e:b_ P t
 ·rw [e] at h
  simp only [cond_false] at h
  cases hd:cs.drop o with
  | nil=>rw [hd] at h;cases h
  | cons c r=>
   rw [hd] at h
   obtain rfl:=Option.some.inj h
   obtain ⟨v,r',hv,hs,_⟩:=bD.dK (hd ▸ hc.drop o)
   have hv':vs[o]?=some v:=by
    have:(vs.toList.drop o)[0]?=some v:=by rw [hv];rfl
    simpa using this
   exact ⟨v,by simp [hv'],hs⟩
 ·rw [e] at h
  simp only [cond_true] at h
  cases hl:(P.cellsOf t).ble (cs.drop o).length with
  | false=>rw [hl] at h;cases h
  | true=>
   rw [hl] at h
   obtain rfl:=Option.some.inj h
   refine ⟨.agg (vs.extract o (o+P.cellsOf t)),by simp only [if_true,Sem.run_bind,iK ht,Result.andThen_ok,Sem.run_pure],?_⟩
   have:(vs.extract o (o+P.cellsOf t)).toList=(vs.toList.drop o).take (P.cellsOf t):=by simp [Array.toList_extract,List.extract_eq_take_drop]
   exact bD.L8 (by rw [this];exact (hc.drop o).take _)
theorem pc {t:TypeId} {f o:Nat} {ft:TypeId} (h:gQ P t f=some (o,ft)):∃ fs x,P.underlying t=some (.struct fs)∧fs[f]?=some x∧x.offset=o∧x.type=ft∧P.cellsOf ft≠0:=by
 unfold gQ at h
 split at h
 ·rename_i fs hu
  split at h
  ·rename_i x hx
   cases e:(P.cellsOf x.type).beq 0 with
   | true=>rw [e] at h;cases h
   | false=>
    rw [e] at h
    simp only [cond_false,Option.some.injEq,Prod.mk.injEq] at h
    refine ⟨fs,x,hu,hx,h.1,h.2,?_⟩
    rw [← h.2]
    intro h0;rw [h0] at e;cases e
  ·cases h
 ·cases h
end
section
variable [dq] {P:Program} {G:Gh} {w:World} {nt:Nat} {fr:Fr} {a:Act}
theorem rk:∀ (xs:List S) (us:List Value) (cs:List S) (vs:List Value) (o:Nat),bD G w cs vs→bD G w xs us→
  bD G w (setFrom cs o xs) ((us.zipIdx o).foldl (fun cs p=>cs.set p.2 p.1) vs)
 | [],us,cs,vs,o,h,h'=>by
  have:us=[]:=List.length_eq_zero_iff.1 h'.1.symm
  subst this;exact h
 | x::xs,us,cs,vs,o,h,h'=>by
  obtain ⟨u,r,rfl,hu,hr⟩:=h'.dK
  exact rk xs r _ _ (o+1) (h.set o hu) hr
theorem kS (off:Nat):∀ (l:List (Value × Nat)) (c:Array Value),(l.foldl (fun cs (p:Value × Nat)=>cs.setIfInBounds (off+p.2) p.1) c).toList=l.foldl (fun cs p=>cs.set (off+p.2) p.1) c.toList
 | [],_=>rfl
 | x::r,c=>by simp only [List.foldl_cons,kS off r,Array.toList_setIfInBounds]
theorem oP (off:Nat):∀ (l:List Value) (k:Nat) (c:List Value),(l.zipIdx (off+k)).foldl (fun cs p=>cs.set p.2 p.1) c=(l.zipIdx k).foldl (fun cs p=>cs.set (off+p.2) p.1) c
 | [],_,_=>rfl
 | x::r,k,c=>by
  simp only [List.zipIdx_cons,List.foldl_cons]
  rw [← oP off r (k+1)]
  rfl
theorem vw (place:Nat→Option (Nat × Nat)):∀ (parts:List (Nat × S)) (vparts:List (Nat × Value)) (cs:List S) (c:Array Value) (out:List S),
  bD G w cs c.toList→parts.length=vparts.length→(∀ (i:Nat) (p:Nat × S) (q:Nat × Value),parts[i]?=some p→vparts[i]?=some q→p.1=q.1∧aY G w p.2 q.2)→
  mT place cs parts=some out→∃ c',Instr.fill place c vparts=some c'∧bD G w out c'.toList
 | [],vparts,cs,c,out,hc,hl,_,h=>by
  have:vparts=[]:=List.length_eq_zero_iff.1 hl.symm
  subst this
  simp only [mT,Option.some.injEq] at h
  subst h
  exact ⟨c,rfl,hc⟩
 | (i,s)::rest,vparts,cs,c,out,hc,hl,hp,h=>by
  cases vparts with
  | nil=>simp at hl
  | cons q vrest=>
   obtain ⟨j,v⟩:=q
   obtain ⟨e,hs⟩:=hp 0 (i,s) (j,v) rfl rfl
   simp only at e hs
   subst e
   unfold mT at h
   cases hpl:place i with
   | none=>rw [hpl] at h;cases h
   | some os=>
    obtain ⟨off,size⟩:=os
    rw [hpl] at h
    simp only at h
    cases hb:kY s && (bf s).length.beq size && (off+(bf s).length).ble cs.length with
    | false=>rw [hb] at h;cases h
    | true=>
      rw [hb,cond_true] at h
      rw [Bool.and_eq_true,Bool.and_eq_true] at hb
      have hsz:(bf s).length=size:=Nat.eq_of_beq_eq_true hb.1.2
      have hle:off+(bf s).length≤cs.length:=Nat.le_of_ble_eq_true hb.2
      have hvc:bD G w (bf s) v.cells.toList:=lQ hs hb.1.1
      have hlen:v.cells.size=(bf s).length:=by have:=hvc.1;simpa using this.symm
      unfold Instr.fill
      simp only [hpl]
      have hcl:cs.length=c.size:=by simpa using hc.1
      rw [if_neg (show ¬ (decide (v.cells.size≠size) || decide (off+v.cells.size > c.size))=true by simp;omega)]
      refine vw place rest vrest _ _ out ?_ (by simpa using hl) (fun k p q h1 h2=>hp (k+1) p q (by simpa using h1) (by simpa using h2)) h
      have h2:=rk _ _ _ _ off hc hvc
      have h3:((v.cells.zipIdx.foldl (fun cs (x:Value × Nat)=>cs.setIfInBounds (off+x.2) x.1) c)).toList=(v.cells.toList.zipIdx off).foldl (fun cs p=>cs.set p.2 p.1) c.toList:=by
       rw [← Array.foldl_toList,kS,Array.toList_zipIdx]
       exact (oP off _ 0 _).symm
      rw [← h3] at h2
      exact h2
theorem gD {t:TypeId} {z:S} (h:mS P t=some z):∃ i v,P.info? t=some i∧i.zero=some v∧z=gj v:=by
 unfold mS at h
 split at h
 ·rename_i i hi
  obtain ⟨v,hv,e⟩:=Option.map_eq_some_iff.1 h
  exact ⟨i,v,hi,hv,e.symm⟩
 ·cases h
theorem eH {t:TypeId} {i:TypeInfo} {v:Value} (hi:P.info? t=some i) (hz:i.zero=some v):(zeroValue t).run P w=.ok v w:=by
 simp [zeroValue,typeInfo,hi,hz]
theorem lx {v:Value} (h:kY (gj v)=true):bD G w (bf (gj v)) v.cells.toList:=lQ (oI v) h
theorem DO (fs:Array Field) (h:∀ f∈fs.toList,∃ i,P.info? f.type=some i):(fs.mapM fun f=>do pure (f.offset,← sizeOf f.type):Sem (Array (Nat × Nat))).run P w=.ok (fs.map fun f=>(f.offset,P.cellsOf f.type)) w:=by
 rw [Array.mapM_eq_mapM_toList]
 have key:∀ l:List Field,(∀ f∈l,∃ i,P.info? f.type=some i)→(l.mapM fun f=>do pure (f.offset,← sizeOf f.type):Sem (List (Nat × Nat))).run P w=.ok (l.map fun f=>(f.offset,P.cellsOf f.type)) w:=by
  intro l
  induction l with
  | nil=>intro _;rfl
  | cons f r ih=>
   intro hl
   obtain ⟨i,hi⟩:=hl f (by simp)
   rw [List.mapM_cons]
   simp only [Sem.run_bind,run_sizeOf w hi,Result.andThen_ok,Sem.run_pure,ih (fun g hg=>hl g (by simp [hg])),List.map_cons]
 rw [Sem.run_map,key _ h,Result.andThen_ok]
 exact congrArg (fun x=>Result.ok x w) (Array.ext' (by simp))
theorem I3 {z:Value} {parts:List (Nat × S)} {vparts:Array (Nat × Value)} {out:List S} (hl:parts.length=vparts.size)
  (hp:∀ (i:Nat) (p:Nat × S) (q:Nat × Value),parts[i]?=some p→vparts[i]?=some q→p.1=q.1∧aY G w p.2 q.2) (place place':Nat→Option (Nat × Nat)) (hpl:place=place')
  (hd:kY (gj z)=true) (h:mT place (bf (gj z)) parts=some out):∃ c',Instr.fill place' z.cells vparts.toList=some c'∧bD G w out c'.toList:=by
 subst hpl
 exact vw place parts vparts.toList _ _ out (lx hd) (by simpa using hl) (fun i p q h1 h2=>hp i p q h1 (by simpa using h2)) h
theorem Fo {t:TypeId} {parts:List (Nat × S)} {vparts:Array (Nat × Value)} {s:S} (hl:parts.length=vparts.size)
  (hp:∀ (i:Nat) (p:Nat × S) (q:Nat × Value),parts[i]?=some p→vparts[i]?=some q→p.1=q.1∧aY G w p.2 q.2)
  (h:Ge P t parts=some s):∃ v,(Instr.build t vparts).run P w=.ok v w∧aY G w s v:=by
 unfold Ge at h
 split at h
 ·rename_i z fs hz hu
  obtain ⟨i,v,hi,hv,rfl⟩:=gD hz
  cases hd:kY (gj v) && DZ P fs with
  | false=>rw [hd] at h;cases h
  | true=>
   rw [hd,cond_true] at h
   rw [Bool.and_eq_true] at hd
   obtain ⟨out,ho,rfl⟩:=Option.map_eq_some_iff.1 h
   obtain ⟨c',hc',hr⟩:=I3 hl hp _ (fun i=>(fs.map fun f=>(f.offset,P.cellsOf f.type))[i]?) (by funext i;rw [Array.getElem?_map];cases fs[i]?<;>rfl) hd.1 ho
   refine ⟨.agg c',?_,hr.L8⟩
   unfold Instr.build
   have hfi:∀ f∈fs.toList,∃ i,P.info? f.type=some i:=fun f hf=>Option.isSome_iff_exists.1 (List.all_eq_true.1 hd.2 f hf)
   simp only [Sem.run_bind,eH hi hv,Result.andThen_ok,run_underlying hu,DO fs hfi,Sem.run_pure,hc']
 ·rename_i z n e hz hu
  obtain ⟨i,v,hi,hv,rfl⟩:=gD hz
  cases hd:kY (gj v) && (P.info? e).isSome with
  | false=>rw [hd] at h;cases h
  | true=>
   rw [hd,cond_true] at h
   rw [Bool.and_eq_true] at hd
   obtain ⟨out,ho,rfl⟩:=Option.map_eq_some_iff.1 h
   obtain ⟨ie,hie⟩:=Option.isSome_iff_exists.1 hd.2
   obtain ⟨c',hc',hr⟩:=I3 hl hp _ _ rfl hd.1 ho
   refine ⟨.agg c',?_,hr.L8⟩
   unfold Instr.build
   simp only [Sem.run_bind,eH hi hv,Result.andThen_ok,run_underlying hu,run_sizeOf w hie,Sem.run_pure,hc']
 ·cases h
theorem LU {src dst:TypeId} {x s:S} {v:Value} (hx:aY G w x v) (h:LA P src dst x=some s):∃ u,(convert src dst v).run P w=.ok u w∧aY G w s u:=by
 unfold LA at h
 split at h
 ·rename_i k k' k2 n hs hd
  obtain ⟨rfl,_⟩:=a_ hx
  obtain rfl:=Option.some.inj h
  exact ⟨.int k' (k'.wrap n),by simp [convert,run_underlying hs,run_underlying hd,Conv.intToInt],ct rfl⟩
 ·rename_i s' hs hd
  obtain ⟨rfl,_⟩:=a_ hx
  obtain rfl:=Option.some.inj h
  exact ⟨.string s',by simp [convert,run_underlying hs,run_underlying hd],ct rfl⟩
 ·cases h
theorem Wk {op:UnOp} {x s:S} {v:Value} (hx:aY G w x v) (h:unS op x=some s):∃ u,(Op.unary op v).run P w=.ok u w∧aY G w s u:=by
 unfold unS at h
 split at h
 ·obtain ⟨rfl,_⟩:=a_ hx
  obtain rfl:=Option.some.inj h
  exact ⟨_,rfl,ct rfl⟩
 ·obtain ⟨rfl,_⟩:=a_ hx
  obtain rfl:=Option.some.inj h
  exact ⟨_,rfl,ct rfl⟩
 ·cases h
theorem LF {c:Bool} {x y:S} {vx vy:Value} (hx:aY G w x vx) (hy:aY G w y vy):aY G w (Pc c x y) (if c then vx else vy):=by
 unfold Pc
 split
 ·obtain ⟨rfl,_⟩:=a_ hx
  obtain ⟨rfl,_⟩:=a_ hy
  cases c<;>exact ct rfl
 ·obtain ⟨rfl,_⟩:=a_ hx
  obtain ⟨rfl,_⟩:=a_ hy
  cases c<;>exact ct rfl
 ·cases c<;>simpa
theorem Ty {ts:Array TypeId} {t ty:TypeId} {x:S} {v:Value} {n:Int} (hx:aY G w x v) (h:abr x=some n) (ht:ts[0]?=some t)
  (hd:se P t x=true):
  (Builtin.len_ ts ty #[v]).run P w=.ok (.int .i64 n) w:=by
 unfold Builtin.len_
 simp only [ht]
 unfold se at hd
 unfold abr at h
 split at h
 ·rename_i s
  obtain ⟨rfl,_⟩:=a_ hx
  obtain rfl:=Option.some.inj h
  cases hu:P.underlying t with
  | none=>rw [hu] at hd;cases hd
  | some d=>
   rw [hu] at hd
   cases d<;>first | (cases hd;done) | skip
   simp [run_underlying hu,goInt]
 ·rename_i n' c
  obtain ⟨rfl,_⟩:=a_ hx
  obtain rfl:=Option.some.inj h
  cases hu:P.underlying t with
  | none=>rw [hu] at hd;cases hd
  | some d=>
   rw [hu] at hd
   cases d<;>first | (cases hd;done) | skip
   simp [run_underlying hu,goInt]
 ·rename_i sz n' g
  obtain rfl:=Option.some.inj h
  cases hx with | t hx=>cases hx with | rows _ _ _ base cap=>
  cases hu:P.underlying t with
  | none=>rw [hu] at hd;cases hd
  | some d=>
   rw [hu] at hd
   cases d<;>first | (cases hd;done) | skip
   simp [run_underlying hu,goInt]
 ·rename_i sz n' g
  obtain rfl:=Option.some.inj h
  cases hx with | full hx=>
  cases hu:P.underlying t with
  | none=>rw [hu] at hd;cases hd
  | some d=>
   rw [hu] at hd
   cases d<;>first | (cases hd;done) | skip
   simp [run_underlying hu,goInt]
 ·rename_i sz n' g
  obtain rfl:=Option.some.inj h
  cases hx with | top hx=>
  cases hu:P.underlying t with
  | none=>rw [hu] at hd;cases hd
  | some d=>
   rw [hu] at hd
   cases d<;>first | (cases hd;done) | skip
   simp [run_underlying hu,goInt]
 ·rename_i b n'
  obtain rfl:=Option.some.inj h
  cases hx with | sl hx hb=>
  cases hu:P.underlying t with
  | none=>rw [hu] at hd;cases hd
  | some d=>
   rw [hu] at hd
   cases d<;>first | (cases hd;done) | skip
   simp [run_underlying hu,goInt]
 ·rename_i es
  obtain rfl:=Option.some.inj h
  cases hx with | mt hi hb hl hk hv=>
  cases hu:P.underlying t with
  | none=>rw [hu] at hd;cases hd
  | some d=>
   rw [hu] at hd
   cases d<;>first | (cases hd;done) | skip
   simp [run_underlying hu,run_getObj_map w _ _ _ hb,goInt,hl]
 ·cases h
end
section
variable [dq] {P:Program} {G:Gh} {w:World} {nt:Nat} {fr:Fr} {a:Act}
theorem dP {s:S} {v:Value} {n:Int} (h:aY G w s v) (hi:gf s=some n):∃ k,v=.int k n:=by
 unfold gf at hi
 split at hi
 ·obtain ⟨rfl,_⟩:=a_ h
  obtain rfl:=Option.some.inj hi
  exact ⟨_,rfl⟩
 ·cases hi
def kx:Option Value→Option Int→Prop
 | none,none=>True
 | some v,some n=>∃ k,v=.int k n
 | _,_=>False
theorem ot (hf:cV nt G w fr a) {x:Option Operand} {n:Option Int} (h:iC fr x=some n):kx (x.map a.eval) n:=by
 cases x with
 | none=>obtain rfl:=Option.some.inj h;trivial
 | some x=>
  obtain ⟨i,hi,rfl⟩:=Option.map_eq_some_iff.1 h
  exact dP (hf.ev x) hi
theorem run_sliceBound {k:IntKind} {n:Int} {y:Nat} {code:BoundsCode} (h:0≤n∧n≤(y:Int)):(Instr.sliceBound (.int k n) y code).run P w=.ok n.toNat w:=by
 simp [Instr.sliceBound,asIntOf,h.1,h.2]
theorem oK (b:Bool) (len cap:Nat) {low high max:Option Value} {lo hi mx:Option Int} (hl:kx low lo) (hh:kx high hi) (hm:kx max mx)
  (h0:0≤lo.getD 0) (h1:lo.getD 0≤hi.getD len) (h2:hi.getD len≤mx.getD cap) (h3:mx.getD cap≤cap) (hs:mx.isSome=true→hi.isSome=true):
  (Instr.sliceBounds b len cap low high max).run P w=.ok ((lo.getD 0).toNat,(hi.getD len).toNat,(mx.getD cap).toNat) w:=by
 cases mx with
 | none=>
  cases max with
  | some m=>exact hm.elim
  | none=>
   cases hi with
   | none=>
    cases high with
    | some v=>exact hh.elim
    | none=>
     cases lo with
     | none=>cases low with
      | some v=>exact hl.elim
      | none=>simp [Instr.sliceBounds]
     | some l=>cases low with
      | none=>exact hl.elim
      | some v=>
       obtain ⟨k,rfl⟩:=hl
       simp only [Option.getD_some,Option.getD_none] at h0 h1
       simp [Instr.sliceBounds,run_sliceBound (P:=P) (w:=w) (k:=k) ⟨h0,h1⟩]
   | some h=>
    cases high with
    | none=>exact hh.elim
    | some v=>
     obtain ⟨k,rfl⟩:=hh
     simp only [Option.getD_some,Option.getD_none] at h0 h1 h2
     have r1:=run_sliceBound (P:=P) (w:=w) (k:=k) (n:=h) (y:=cap) (code:=if b then .sliceAcap else .sliceAlen) ⟨by omega,h2⟩
     cases lo with
     | none=>cases low with
      | some v=>exact hl.elim
      | none=>simp [Instr.sliceBounds,r1]
     | some l=>cases low with
      | none=>exact hl.elim
      | some v=>
       obtain ⟨k',rfl⟩:=hl
       simp only [Option.getD_some,Option.getD_none] at h0 h1 h2
       have r2:=run_sliceBound (P:=P) (w:=w) (k:=k') (n:=l) (y:=h.toNat) (code:=.sliceB) ⟨h0,by omega⟩
       simp [Instr.sliceBounds,r1,r2]
 | some m=>
  cases max with
  | none=>exact hm.elim
  | some mv=>
   obtain ⟨km,rfl⟩:=hm
   cases hi with
   | none=>simp at hs
   | some h=>
    cases high with
    | none=>exact hh.elim
    | some v=>
     obtain ⟨k,rfl⟩:=hh
     simp only [Option.getD_some,Option.getD_none] at h0 h1 h2 h3
     have r0:=run_sliceBound (P:=P) (w:=w) (k:=km) (n:=m) (y:=cap) (code:=if b then .slice3Acap else .slice3Alen) ⟨by omega,h3⟩
     have r1:=run_sliceBound (P:=P) (w:=w) (k:=k) (n:=h) (y:=m.toNat) (code:=.slice3B) ⟨by omega,by omega⟩
     cases lo with
     | none=>cases low with
      | some v=>exact hl.elim
      | none=>simp [Instr.sliceBounds,r0,r1]
     | some l=>cases low with
      | none=>exact hl.elim
      | some v=>
       obtain ⟨k',rfl⟩:=hl
       simp only [Option.getD_some,Option.getD_none] at h0 h1 h2
       have r2:=run_sliceBound (P:=P) (w:=w) (k:=k') (n:=l) (y:=h.toNat) (code:=.slice3C) ⟨h0,by omega⟩
       simp [Instr.sliceBounds,r0,r1,r2]
theorem wq {n:Nat} {lo hi mx:Option Int} {l m:Nat} {f:Bool} (h:rX n lo hi mx=some (l,m,f)):
  0≤lo.getD 0∧lo.getD 0≤hi.getD n∧hi.getD n≤n∧(mx.isSome=true→hi.isSome=true)∧(∀ x,mx=some x→x=hi.getD n)∧l=(lo.getD 0).toNat∧l+m=(hi.getD n).toNat∧(f=true↔mx.isSome=true):=by
 unfold rX at h
 simp only at h
 cases e:decide (0≤lo.getD 0) && decide (lo.getD 0≤hi.getD n) && decide (hi.getD n≤n) with
 | false=>rw [e] at h;cases h
 | true=>
  rw [e,cond_true] at h
  simp only [Bool.and_eq_true,decide_eq_true_eq] at e
  cases mx with
  | none=>
   simp only [Option.some.injEq,Prod.mk.injEq] at h
   obtain ⟨rfl,rfl,rfl⟩:=h
   exact ⟨e.1.1,e.1.2,e.2,by simp,by simp,rfl,by omega,by simp⟩
  | some x=>
   simp only at h
   cases e2:decide (x=hi.getD n) && hi.isSome with
   | false=>rw [e2] at h;cases h
   | true=>
    rw [e2,cond_true] at h
    simp only [Bool.and_eq_true,decide_eq_true_eq] at e2
    simp only [Option.some.injEq,Prod.mk.injEq] at h
    obtain ⟨rfl,rfl,rfl⟩:=h
    exact ⟨e.1.1,e.1.2,e.2,fun _=>e2.2,fun y hy=>by obtain rfl:=Option.some.inj hy;exact e2.1,rfl,by omega,by simp⟩
theorem Nh {I:Nat→Prop} {sz n:Nat} {get:Fin n→List T} {base:Option Addr} {cap l m cap':Nat} (h:dH w I (.rows sz n get) (.slice base n cap)) (hl:l+m≤n) (hc:m≤cap') (base':Option Addr)
  (hb:m≠0→base'=base.map (·.add (l*sz))):dH w I (.rows sz m (gy get l m hl)) (.slice base' m cap'):=by
 cases h with
 | rows _ _ _ _ _ vs hcap hlen hb' hcs=>
  refine .rows sz m _ base' cap' (fun i k=>vs ⟨l+i.1,by have:=i.2;omega⟩ k) hc (fun i=>hlen _) (fun hm=>?_) (fun i k c hg=>hcs _ k c hg)
  obtain ⟨r,o,rfl,hr,hcell⟩:=hb' (by omega)
  refine ⟨r,o+l*sz,?_,hr,fun i k c hg=>?_⟩
  ·rw [hb hm]
   simp only [Option.map_some,Addr.add]
   split
   ·rename_i e;rw [e];rfl
   ·rfl
  ·have:=hcell ⟨l+i.1,by have:=i.2;omega⟩ k c hg
   rw [← this]
   congr 2
   rw [Nat.add_mul];omega
theorem Cl {t e:TypeId} {sz n cap:Nat} {get:Fin n→List T} {base:Option Addr} {s:S} {low high max:Option Value} {lo hi mx:Option Int} (hu:P.underlying t=some (.slice e)) (hx:dH w G.bB (.rows sz n get) (.slice base n cap)) (hcap:n≤cap)
  (hl:kx low lo) (hh:kx high hi) (hm:kx max mx)
  (h:(bif !(sz.beq (P.cellsOf e)) || !(P.info? e).isSome then none else
   (match rX n lo hi mx with
    | some (l,m,f)=>if h:l+m≤n then some (bif f then S.full sz m (gy get l m h) else .t (.rows sz m (gy get l m h))) else none
    | none=>none))=some s):∃ u,(Instr.sliceAt t (.slice base n cap) low high max).run P w=.ok u w∧aY G w s u:=by
 cases hz:sz.beq (P.cellsOf e) with
 | false=>rw [hz] at h;cases h
 | true=>
  have hz':sz=P.cellsOf e:=Nat.eq_of_beq_eq_true hz
  cases hin:(P.info? e).isSome with
  | false=>rw [hin,hz] at h;cases h
  | true=>
   rw [hin,hz] at h
   simp only [Bool.not_true,Bool.or_self,cond_false] at h
   cases hc:rX n lo hi mx with
   | none=>rw [hc] at h;cases h
   | some r=>
    obtain ⟨l,m,f⟩:=r
    rw [hc] at h
    simp only at h
    by_cases hlm:l+m≤n
    ·rw [dif_pos hlm] at h
     obtain ⟨h0,h1,h2,h3,h4,h5,h6,h7⟩:=wq hc
     have hmx:mx.getD (cap:Int)≤cap∧hi.getD (n:Int)≤mx.getD (cap:Int):=by
      cases mx with
      | none=>simp only [Option.getD_none];omega
      | some x=>have:=h4 x rfl;simp only [Option.getD_some];omega
     have hb:=oK (P:=P) (w:=w) true n cap hl hh hm h0 h1 hmx.2 hmx.1 h3
     obtain ⟨ie,hie⟩:=Option.isSome_iff_exists.1 hin
     rw [← h5,← h6] at hb
     have hrun:(Instr.sliceAt t (.slice base n cap) low high max).run P w=.ok (.slice (if (mx.getD (cap:Int)).toNat=l then base else base.map (·.add (l*sz))) m ((mx.getD (cap:Int)).toNat - l)) w:=by
      simp only [Instr.sliceAt,Sem.run_bind,run_underlying hu,Result.andThen_ok,Instr.slice,hb,run_sizeOf w hie,Sem.run_pure,← hz',Nat.add_sub_cancel_left]
     have hsub:=fun (cap':Nat) (hc':m≤cap')=>Nh hx hlm hc' (if (mx.getD (cap:Int)).toNat=l then base else base.map (·.add (l*sz))) (fun hm0=>by
      rw [if_neg (by omega)])
     refine ⟨_,hrun,?_⟩
     cases f with
     | false=>
      obtain rfl:=Option.some.inj h
      exact .t (hsub _ (by omega))
     | true=>
      obtain rfl:=Option.some.inj h
      obtain ⟨x,hx'⟩:=Option.isSome_iff_exists.1 (h7.1 rfl)
      have e4:=h4 x hx'
      have:(mx.getD (cap:Int)).toNat - l=m:=by rw [hx'];simp only [Option.getD_some];omega
      rw [this]
      exact .full (hsub m (Nat.le_refl _))
    ·rw [dif_neg hlm] at h;cases h
theorem EV {t:TypeId} {x s:S} {v:Value} {low high max:Option Value} {lo hi mx:Option Int} (hx:aY G w x v) (hl:kx low lo) (hh:kx high hi) (hm:kx max mx) (h:ml P t x lo hi mx=some s):
  ∃ u,(Instr.sliceAt t v low high max).run P w=.ok u w∧aY G w s u:=by
 unfold ml at h
 split at h
 ·rename_i str hu
  obtain ⟨rfl,_⟩:=a_ hx
  cases mx with
  | some m=>cases h
  | none=>
   cases max with
   | some v=>exact hm.elim
   | none=>
    simp only at h
    cases e:decide (0≤lo.getD 0) && decide (lo.getD 0≤hi.getD str.size) && decide (hi.getD str.size≤str.size) with
    | false=>rw [e] at h;cases h
    | true=>
     rw [e,cond_true] at h
     simp only [Bool.and_eq_true,decide_eq_true_eq] at e
     obtain rfl:=Option.some.inj h
     have hb:=oK (P:=P) (w:=w) false str.size str.size hl hh (max:=none) (mx:=none) trivial e.1.1 e.1.2 e.2 (by simp) (by simp)
     exact ⟨_,by simp only [Instr.sliceAt,Sem.run_bind,run_underlying hu,Result.andThen_ok,Instr.slice,Option.isSome_none,Bool.false_eq_true,if_false,hb,Sem.run_pure],ct rfl⟩
 ·rename_i e hu
  obtain ⟨rfl,_⟩:=a_ hx
  cases hin:(P.info? e).isSome with
  | false=>rw [hin] at h;cases h
  | true=>
   rw [hin] at h
   simp only [Bool.not_true,cond_false] at h
   cases hc:rX 0 lo hi mx with
   | none=>rw [hc] at h;cases h
   | some r=>
    obtain ⟨l,m,f⟩:=r
    rw [hc] at h
    obtain rfl:=Option.some.inj h
    obtain ⟨h0,h1,h2,h3,h4,h5,h6,h7⟩:=wq hc
    have hmx:mx.getD ((0:Nat):Int)=0:=by cases mx with | none=>rfl | some x=>have:=h4 x rfl;simp only [Option.getD_some];omega
    have hb:=oK (P:=P) (w:=w) true 0 0 hl hh hm h0 h1 (by rw [hmx];exact h2) (by rw [hmx];simp) h3
    obtain ⟨ie,hie⟩:=Option.isSome_iff_exists.1 hin
    refine ⟨.slice none 0 0,?_,ct rfl⟩
    have e1:(lo.getD 0).toNat=0:=by omega
    have e2:(hi.getD ((0:Nat):Int)).toNat=0:=by omega
    rw [hmx,e1,e2] at hb
    simp only [Instr.sliceAt,Sem.run_bind,run_underlying hu,Result.andThen_ok,Instr.slice,hb,run_sizeOf w hie,Sem.run_pure]
    rfl
 ·rename_i e sz n get hu
  cases hx with | t hx=>cases hx with | rows _ _ _ base cap vs hcap hlen hb' hcs=>
  exact Cl hu (.rows sz n get base cap vs hcap hlen hb' hcs) hcap hl hh hm h
 ·rename_i e sz n get hu
  cases hx with | full hx=>
  exact Cl hu hx (Nat.le_refl _) hl hh hm h
 ·cases h
end
section
variable [dq] {P:Program} {G:Gh} {w:World} {nt:Nat} {fr:Fr} {a:Act}
def Eb (P:Program) (t:TypeId) (vs:List Value):Value:=if b_ P t then .agg vs.toArray else vs.getD 0 undef
theorem gJ {t:TypeId} {d:TypeDesc} (ht:P.underlying t=some d) (vs:List Value) (o:Nat) (h:b_ P t=false→o < vs.length):
  (part t vs.toArray o).run P w=.ok (Eb P t ((vs.drop o).take (P.cellsOf t))) w∨(b_ P t=false∧P.cellsOf t=0):=by
 unfold part
 simp only [Sem.run_bind,qz t ht,Result.andThen_ok]
 unfold Eb
 cases e:b_ P t
 ·by_cases hz:P.cellsOf t=0
  ·exact .inr ⟨rfl,hz⟩
  ·have:=h e
   left
   have h0:(vs.toArray)[o]?=some vs[o]:=by simp [this]
   simp only [Bool.false_eq_true,if_false,h0,Sem.run_pure]
   congr 1
   rw [List.getD_eq_getElem?_getD,List.getElem?_take,if_pos (by omega),List.getElem?_drop]
   simp [this]
 ·left
  simp only [if_true,Sem.run_bind,iK ht,Result.andThen_ok,Sem.run_pure]
  congr 2
  apply Array.ext'
  simp [Array.toList_extract,List.extract_eq_take_drop]
theorem eV:∀ {ks:List Nat} {xs ys:List S} {b:Bool},cE ks xs ys=some b→xs.length=ks.length∧ys.length=ks.length
 | [],[],[],_,_=>⟨rfl,rfl⟩
 | [],[],_::_,_,h=>by simp [cE] at h
 | [],_::_,_,_,h=>by simp [cE] at h
 | _::_,[],_,_,h=>by simp [cE] at h
 | _::_,_::_,[],_,h=>by simp [cE] at h
 | k::ks,x::xs,y::ys,b,h=>by
  simp only [cE,Option.bind_eq_some_iff,Option.map_eq_some_iff] at h
  obtain ⟨p,_,q,hq,_⟩:=h
  have:=eV hq
  simp [this.1,this.2]
theorem kE:∀ {k1 k2:List Nat} {xs ys:List S} {b:Bool},cE (k1++k2) xs ys=some b→
  ∃ p q,cE k1 (xs.take k1.length) (ys.take k1.length)=some p∧cE k2 (xs.drop k1.length) (ys.drop k1.length)=some q∧b=(p && q)
 | [],k2,xs,ys,b,h=>⟨true,b,by simp [cE],by simpa using h,by simp⟩
 | k::k1,k2,[],ys,b,h=>by simp [cE] at h
 | k::k1,k2,x::xs,[],b,h=>by simp [cE] at h
 | k::k1,k2,x::xs,y::ys,b,h=>by
  simp only [List.cons_append,cE,Option.bind_eq_some_iff,Option.map_eq_some_iff] at h
  obtain ⟨p,hp,q,hq,rfl⟩:=h
  obtain ⟨p',q',h1,h2,rfl⟩:=kE hq
  exact ⟨p && p',q',by simp [cE,hp,h1],by simpa using h2,by simp [Bool.and_assoc]⟩
def EM (P:Program) (D:Nat) (t:TypeId) (ks:List Nat):Prop:=
 ∀ (G:Gh) (w:World) (xs ys:List S) (vx vy:List Value) (b:Bool),bD G w xs vx→bD G w ys vy→cE ks xs ys=some b→(Op.equalIn D t (Eb P t vx) (Eb P t vy)).run P w=.ok b w
theorem one_cell {k:Nat} {xs ys:List S} {vx vy:List Value} {b:Bool} (hx:bD G w xs vx) (hy:bD G w ys vy) (h:cE [k] xs ys=some b):
  ∃ x y u v,xs=[x]∧ys=[y]∧vx=[u]∧vy=[v]∧aY G w x u∧aY G w y v∧iv k x y=some b:=by
 obtain ⟨l1,l2⟩:=eV h
 obtain ⟨x,rfl⟩:∃ x,xs=[x]:=List.length_eq_one_iff.1 l1
 obtain ⟨y,rfl⟩:∃ y,ys=[y]:=List.length_eq_one_iff.1 l2
 obtain ⟨u,r,rfl,hu,hr⟩:=hx.dK
 obtain ⟨v,r',rfl,hv,hr'⟩:=hy.dK
 obtain rfl:r=[]:=List.length_eq_zero_iff.1 hr.1.symm
 obtain rfl:r'=[]:=List.length_eq_zero_iff.1 hr'.1.symm
 simp only [cE,Option.bind_eq_some_iff,Option.map_eq_some_iff,Option.some.injEq] at h
 obtain ⟨p,hp,q,hq,rfl⟩:=h
 exact ⟨x,y,u,v,rfl,rfl,rfl,rfl,hu,hv,by rw [hp];simp [← hq]⟩
theorem wJ {D:Nat} {t:TypeId} (hu:P.underlying t=some .bool):EM P (D+1) t [0]:=fun G w xs ys vx vy b hx hy h=>by
 obtain ⟨x,y,u,v,rfl,rfl,rfl,rfl,h1,h2,h3⟩:=one_cell hx hy h
 have ha:b_ P t=false:=by simp [b_,hu]
 simp only [Eb,ha,Bool.false_eq_true,if_false,List.getD_cons_zero]
 unfold iv at h3
 split at h3<;>first | (cases h3;done) | skip
 all_goals (try omega)
 obtain ⟨rfl,_⟩:=a_ h1
 obtain ⟨rfl,_⟩:=a_ h2
 obtain rfl:=Option.some.inj h3
 exact run_equalIn_bool w D t _ _ hu
theorem B1 {D:Nat} {t:TypeId} {k0:IntKind} (hu:P.underlying t=some (.int k0)):EM P (D+1) t [1]:=fun G w xs ys vx vy b hx hy h=>by
 obtain ⟨x,y,u,v,rfl,rfl,rfl,rfl,h1,h2,h3⟩:=one_cell hx hy h
 have ha:b_ P t=false:=by simp [b_,hu]
 simp only [Eb,ha,Bool.false_eq_true,if_false,List.getD_cons_zero]
 unfold iv at h3
 split at h3<;>first | (cases h3;done) | skip
 all_goals (try omega)
 rename_i k m k' n _
 obtain ⟨rfl,_⟩:=a_ h1
 obtain ⟨rfl,_⟩:=a_ h2
 by_cases e:k=k'
 ·subst e
  simp only [decide_true,cond_true,Option.some.injEq] at h3
  subst h3
  exact run_equalIn_int w D t k k0 m n hu
 ·simp [e] at h3
theorem re {D:Nat} {t:TypeId} (hu:P.underlying t=some .string):EM P (D+1) t [2]:=fun G w xs ys vx vy b hx hy h=>by
 obtain ⟨x,y,u,v,rfl,rfl,rfl,rfl,h1,h2,h3⟩:=one_cell hx hy h
 have ha:b_ P t=false:=by simp [b_,hu]
 simp only [Eb,ha,Bool.false_eq_true,if_false,List.getD_cons_zero]
 unfold iv at h3
 split at h3<;>first | (cases h3;done) | skip
 all_goals (try omega)
 rename_i m n _
 obtain ⟨rfl,_⟩:=a_ h1
 obtain ⟨rfl,_⟩:=a_ h2
 obtain rfl:=Option.some.inj h3
 rw [run_equalIn_string w D t _ _ hu]
 simp only [ah,eU,Lib.toList_data]
theorem iG {cs:List S} {vs:List Value} (h:bD G w cs vs) (o n:Nat):bD G w ((cs.drop o).take n) ((vs.drop o).take n):=(h.drop o).take n
theorem lq {t:TypeId} {ks:List Nat} (h:ey P 0 t=some ks):False:=by simp [ey] at h
theorem fJ {d:Nat} {t:TypeId} {ks:List Nat} (h:ey P d t=some ks):∃ dd,P.underlying t=some dd:=by
 cases d with
 | zero=>exact (lq h).elim
 | succ d=>cases hu:P.underlying t with
  | some dd=>exact ⟨dd,rfl⟩
  | none=>simp [ey,hu] at h
theorem kP {d:Nat} {t:TypeId} {ks:List Nat} (h:ey P d t=some ks) (ha:b_ P t=false):P.cellsOf t≠0:=fun hz=>by
 cases d with
 | zero=>exact (lq h).elim
 | succ d=>
  obtain ⟨dd,hd⟩:=fJ h
  unfold b_ at ha
  rw [hd] at ha
  simp only [ey,hd,hz] at h
  cases dd<;>simp only at h ha<;>first | (cases ha;done) | (cases h;done)
theorem ry {d:Nat} (D:Nat) (ih:∀ t ks,ey P d t=some ks→EM P D t ks) (G:Gh) (w:World) (X Y:List S) (VX VY:List Value) (hX:bD G w X VX) (hY:bD G w Y VY):∀ (fs:List Field) (o:Nat) (ks:List Nat) (b:Bool),
  fI P (ey P d) fs o=some ks→cE ks (X.drop o) (Y.drop o)=some b→(Op.eqFields D VX.toArray VY.toArray fs).run P w=.ok b w
 | [],o,ks,b,hk,h=>by
  obtain rfl:ks=[]:=by simpa [fI] using hk.symm
  obtain ⟨l1,l2⟩:=eV h
  have e1:=List.length_eq_zero_iff.1 l1
  have e2:=List.length_eq_zero_iff.1 l2
  rw [e1,e2] at h
  obtain rfl:=Option.some.inj h
  simp [Op.eqFields]
 | f::fs,o,ks,b,hk,h=>by
  unfold fI at hk
  cases e:f.name != "_" && f.offset.beq o with
  | false=>rw [e] at hk;cases hk
  | true=>
   rw [e,cond_true] at hk
   rw [Bool.and_eq_true] at e
   have hn:f.name ≠ "_" := by simpa using e.1
   have ho:f.offset=o:=Nat.eq_of_beq_eq_true e.2
   obtain ⟨k1,hk1,hk2⟩:=Option.bind_eq_some_iff.1 hk
   cases e3:k1.length.beq (P.cellsOf f.type) with
   | false=>rw [e3] at hk2;cases hk2
   | true=>
    rw [e3,cond_true] at hk2
    have hl:k1.length=P.cellsOf f.type:=Nat.eq_of_beq_eq_true e3
    obtain ⟨k2,hk3,rfl⟩:=Option.map_eq_some_iff.1 hk2
    obtain ⟨p,q,h1,h2,rfl⟩:=kE h
    have hlen:=eV h
    obtain ⟨dd,hd⟩:=fJ hk1
    have hXl:(X.drop o).length=VX.length - o:=by rw [← hX.1];simp
    have hYl:(Y.drop o).length=VY.length - o:=by rw [← hY.1];simp
    have hne:b_ P f.type=false→P.cellsOf f.type≠0:=kP hk1
    have hxs:b_ P f.type=false→o < VX.length:=fun ha=>by
     have:=hne ha
     have:=hlen.1
     simp only [List.length_append] at this
     omega
    have hys:b_ P f.type=false→o < VY.length:=fun ha=>by
     have:=hne ha
     have:=hlen.2
     simp only [List.length_append] at this
     omega
    have hpx:=(gJ (P:=P) (w:=w) hd VX o hxs).resolve_right (fun h=>hne h.1 h.2)
    have hpy:=(gJ (P:=P) (w:=w) hd VY o hys).resolve_right (fun h=>hne h.1 h.2)
    rw [hl] at h1 h2
    have heq:=ih f.type k1 hk1 G w _ _ _ _ p (iG hX o (P.cellsOf f.type)) (iG hY o (P.cellsOf f.type)) h1
    have hrest:=ry D ih G w X Y VX VY hX hY fs (o+P.cellsOf f.type) k2 q hk3 (by simpa [List.drop_drop] using h2)
    simp only [Op.eqFields,if_pos hn,ho,Sem.run_bind,hpx,hpy,Result.andThen_ok,heq,Sem.run_ite]
    cases p
    ·simp
    ·simp [hrest]
theorem uq {e:TypeId} (D:Nat) {ks:List Nat} (ih:EM P D e ks) (hl:ks.length=P.cellsOf e) {dd:TypeDesc} (hd:P.underlying e=some dd) (hne:b_ P e=false→P.cellsOf e≠0) (G:Gh) (w:World) (X Y:List S) (VX VY:List Value) (hX:bD G w X VX) (hY:bD G w Y VY):∀ (m i:Nat) (b:Bool),
  cE (List.replicate m ks).flatten (X.drop (i*P.cellsOf e)) (Y.drop (i*P.cellsOf e))=some b→(Op.eqItems D e (P.cellsOf e) VX.toArray VY.toArray (List.range' i m)).run P w=.ok b w
 | 0,i,b,h=>by
  obtain ⟨l1,l2⟩:=eV h
  have e1:=List.length_eq_zero_iff.1 l1
  have e2:=List.length_eq_zero_iff.1 l2
  rw [e1,e2] at h
  obtain rfl:=Option.some.inj h
  simp [Op.eqItems]
 | m+1,i,b,h=>by
  rw [List.replicate_succ,List.flatten_cons] at h
  obtain ⟨p,q,h1,h2,rfl⟩:=kE h
  have hlen:=eV h
  have hXl:(X.drop (i*P.cellsOf e)).length=VX.length - i*P.cellsOf e:=by rw [← hX.1];simp
  have hYl:(Y.drop (i*P.cellsOf e)).length=VY.length - i*P.cellsOf e:=by rw [← hY.1];simp
  have hpx:=(gJ (P:=P) (w:=w) hd VX (i*P.cellsOf e) (fun ha=>by have:=hne ha;have:=hlen.1;simp only [List.length_append] at this;omega)).resolve_right (fun h=>hne h.1 h.2)
  have hpy:=(gJ (P:=P) (w:=w) hd VY (i*P.cellsOf e) (fun ha=>by have:=hne ha;have:=hlen.2;simp only [List.length_append] at this;omega)).resolve_right (fun h=>hne h.1 h.2)
  rw [hl] at h1 h2
  have heq:=ih G w _ _ _ _ p (iG hX _ _) (iG hY _ _) h1
  have hrest:=uq D ih hl hd hne G w X Y VX VY hX hY m (i+1) q (by simpa [List.drop_drop,Nat.add_mul] using h2)
  simp only [List.range'_succ,Op.eqItems,Sem.run_bind,hpx,hpy,Result.andThen_ok,heq,Sem.run_ite]
  cases p
  ·simp
  ·simp [hrest]
theorem o_:∀ (d:Nat) (t:TypeId) (ks:List Nat),ey P d t=some ks→∀ D,d≤D→EM P D t ks
 | 0,_,_,h,_,_=>(lq h).elim
 | d+1,t,ks,h,D,hD=>by
  obtain ⟨D,rfl⟩:∃ m,D=m+1:=⟨D - 1,by omega⟩
  have ih:=fun t ks h=>o_ d t ks h D (by omega)
  obtain ⟨dd,hd⟩:=fJ h
  simp only [ey,hd] at h
  cases dd<;>simp only at h<;>first | (cases h;done) | skip
  case bool=>
   cases e:(P.cellsOf t).beq 1<;>rw [e] at h
   ·cases h
   ·obtain rfl:=Option.some.inj h;exact wJ hd
  case int k=>
   cases e:(P.cellsOf t).beq 1<;>rw [e] at h
   ·cases h
   ·obtain rfl:=Option.some.inj h;exact B1 hd
  case string=>
   cases e:(P.cellsOf t).beq 1<;>rw [e] at h
   ·cases h
   ·obtain rfl:=Option.some.inj h;exact re hd
  case array n e=>
   obtain ⟨k1,hk1,h⟩:=Option.bind_eq_some_iff.1 h
   cases e1:k1.length.beq (P.cellsOf e) && (P.info? e).isSome<;>rw [e1] at h
   ·cases h
   ·obtain rfl:=Option.some.inj h
    rw [Bool.and_eq_true] at e1
    obtain ⟨i,hi⟩:=Option.isSome_iff_exists.1 e1.2
    obtain ⟨d2,hd2⟩:=fJ hk1
    intro G w xs ys vx vy b hx hy hb
    have ha:b_ P t=true:=by simp [b_,hd]
    simp only [Eb,ha,if_true]
    rw [run_equalIn_array w D vx.toArray vy.toArray hd hi]
    have:=uq D (ih e k1 hk1) (Nat.eq_of_beq_eq_true e1.1) hd2 (kP hk1) G w xs ys vx vy hx hy n 0 b (by simpa using hb)
    simpa [List.range_eq_range'] using this
  case struct fs=>
   cases e:P.stoodInHeld t<;>rw [e] at h
   ·simp only [cond_false] at h
    intro G w xs ys vx vy b hx hy hb
    have ha:b_ P t=true:=by simp [b_,hd]
    have hf:P.fieldsOf t=fs:=by simp [Program.fieldsOf,hd]
    simp only [Eb,ha,if_true]
    rw [run_equalIn_struct w D t vx.toArray vy.toArray (by rw [hf];exact hd) e,hf]
    exact ry D ih G w xs ys vx vy hx hy fs.toList 0 ks b h (by simpa using hb)
   ·cases h
end
section
variable [dq] {P:Program} {G:Gh} {w:World} {nt:Nat} {fr:Fr} {a:Act}
def sf (P:Program) (t:TypeId) (x y:Operand):Value→Value→Prop
 | .nilIface,.nilIface=>isConst x=true∨isConst y=true
 | .agg _,.agg _=>P.eqGuardType P.depth t=false
 | _,_=>True
theorem H7 {op:BinOp} {t:TypeId} {x y:Operand} {u v:Value} (h:sf P t x y u v):(eqGuard op t x y u v).run P w=.ok () w:=by
 have key:∀ (o:BinOp),(o=.eql∨o=.neq)→(eqGuard o t x y u v).run P w=.ok () w:=by
  intro o ho
  unfold eqGuard
  rcases ho with rfl | rfl<;>(rw [Sem.run_ite,if_neg (by simp)])<;>cases u<;>cases v<;>first
   | rfl
   | (simp only [sf] at h
      rcases h with h | h
      ·cases x<;>first | rfl | (cases h;done)
      ·cases y<;>first | (cases x<;>rfl) | (cases h;done))
   | (simp only [sf] at h
      simp [h])
 cases op<;>first | exact key _ (.inl rfl) | exact key _ (.inr rfl) | rfl
theorem xb {t e:TypeId} (hu:P.underlying t=some (.slice e)) (a b c d:Nat):(Op.equal t (.slice none a b) (.slice none c d)).run P w=.ok true w:=by
 have key:∀ D,(Op.equalIn (D+1) t (.slice none a b) (.slice none c d)).run P w=_:=fun D=>by
  simp only [Op.equalIn,Sem.run_bind,run_underlying hu,Result.andThen_ok,Sem.run_pure,Option.isNone_none]
  rfl
 exact key 9999
theorem BK {t:TypeId} {ms:Array (String × TypeId)} (hu:P.underlying t=some (.interface ms)):(Op.equal t .nilIface .nilIface).run P w=.ok true w:=by
 have key:∀ D,(Op.equalIn (D+1) t .nilIface .nilIface).run P w=_:=fun D=>by
  simp only [Op.equalIn,Sem.run_bind,run_underlying hu,Result.andThen_ok,Sem.run_pure]
  rfl
 exact key 9999
theorem xj {t u:TypeId} {v:Value} {ms:Array (String × TypeId)} (hu:P.underlying t=some (.interface ms)):(Op.equal t .nilIface (.iface u v)).run P w=.ok false w:=by
 have key:∀ D,(Op.equalIn (D+1) t .nilIface (.iface u v)).run P w=_:=fun D=>by
  simp only [Op.equalIn,Sem.run_bind,run_underlying hu,Result.andThen_ok,Sem.run_pure]
  rfl
 exact key 9999
theorem wV {t u:TypeId} {v:Value} {ms:Array (String × TypeId)} (hu:P.underlying t=some (.interface ms)):(Op.equal t (.iface u v) .nilIface).run P w=.ok false w:=by
 have key:∀ D,(Op.equalIn (D+1) t (.iface u v) .nilIface).run P w=_:=fun D=>by
  simp only [Op.equalIn,Sem.run_bind,run_underlying hu,Result.andThen_ok,Sem.run_pure]
  rfl
 exact key 9999
theorem jx {t:TypeId} (h:b_ P t=true) (vs:Array Value):Eb P t vs.toList=.agg vs:=by simp [Eb,h]
theorem RU {K:TypeId→Option (List Nat)} (hK:M8 P K) {op:BinOp} {t:TypeId} {x y:Operand} {sx sy s:S} {u v:Value} (hx:aY G w sx u) (hy:aY G w sy v) (h:zx P K (isConst x || isConst y) op t sx sy=some s):
  ∃ r,(do eqGuard op t x y u v;binOp op t u v:Sem Value).run P w=.ok r w∧aY G w s r:=by
 have go:∀ {r:Value},sf P t x y u v→(binOp op t u v).run P w=.ok r w→aY G w s r→
   ∃ r,(do eqGuard op t x y u v;binOp op t u v:Sem Value).run P w=.ok r w∧aY G w s r:=fun {r} h1 h2 h3=>
  ⟨r,by rw [Sem.run_bind,H7 h1,Result.andThen_ok];exact h2,h3⟩
 unfold zx at h
 split at h
 ·rename_i k m k' n
  obtain ⟨rfl,_⟩:=a_ hx
  obtain ⟨rfl,_⟩:=a_ hy
  obtain ⟨r,hr,rfl⟩:=Option.map_eq_some_iff.1 h
  have:(binOp op t (.int k m) (.int k' n)).run P w=.ok r w∧r.oneCell'=true:=by
   by_cases hs:op=.shl∨op=.shr
   ·rcases hs with rfl | rfl<;>exact Az _ t k k' m n hr
   ·have hr':(bif decide (k=k') then zX op k m n else none)=some r:=by
     cases op<;>first | exact hr | (simp at hs)
    by_cases e:k=k'
    ·subst e
     simp only [decide_true,cond_true] at hr'
     exact HR op t k m n hr' ⟨fun e=>hs (.inl e),fun e=>hs (.inr e)⟩
    ·simp [e] at hr'
  exact go trivial this.1 (ct this.2)
 ·rename_i m n
  obtain ⟨rfl,_⟩:=a_ hx
  obtain ⟨rfl,_⟩:=a_ hy
  obtain ⟨r,hr,rfl⟩:=Option.map_eq_some_iff.1 h
  have:=E1 (P:=P) (w:=w) op t m n hr
  exact go trivial this.1 (ct this.2)
 ·obtain ⟨rfl,_⟩:=a_ hx
  obtain ⟨rfl,_⟩:=a_ hy
  unfold zx.Yb at h
  split at h
  ·rename_i e hu
   obtain rfl:=Option.some.inj h
   exact go trivial (by simp only [binOp,Sem.run_bind,xb hu,Result.andThen_ok,Sem.run_pure]) (ct rfl)
  ·rename_i e hu
   obtain rfl:=Option.some.inj h
   exact go trivial (by simp only [binOp,Sem.run_bind,xb hu,Result.andThen_ok,Sem.run_pure]) (ct rfl)
  ·cases h
 ·obtain ⟨rfl,_⟩:=a_ hx
  cases hy with | nn t' v'=>
  unfold zx.wX at h
  split at h
  ·rename_i e hu
   obtain rfl:=Option.some.inj h
   exact go trivial (by simp only [binOp,Sem.run_bind,xj hu,Result.andThen_ok,Sem.run_pure]) (ct rfl)
  ·rename_i e hu
   obtain rfl:=Option.some.inj h
   exact go trivial (by simp only [binOp,Sem.run_bind,xj hu,Result.andThen_ok,Sem.run_pure]) (ct rfl)
  ·cases h
 ·obtain ⟨rfl,_⟩:=a_ hy
  cases hx with | nn t' v'=>
  unfold zx.wX at h
  split at h
  ·rename_i e hu
   obtain rfl:=Option.some.inj h
   exact go trivial (by simp only [binOp,Sem.run_bind,wV hu,Result.andThen_ok,Sem.run_pure]) (ct rfl)
  ·rename_i e hu
   obtain rfl:=Option.some.inj h
   exact go trivial (by simp only [binOp,Sem.run_bind,wV hu,Result.andThen_ok,Sem.run_pure]) (ct rfl)
  ·cases h
 ·obtain ⟨rfl,_⟩:=a_ hy
  obtain ⟨rfl,_⟩:=a_ hx
  cases hl:isConst x || isConst y with
  | false=>rw [hl] at h;cases h
  | true=>
   rw [hl,cond_true] at h
   have hl':isConst x=true∨isConst y=true:=by simpa using hl
   unfold zx.wX at h
   split at h
   ·rename_i e hu
    obtain rfl:=Option.some.inj h
    exact go hl' (by simp only [binOp,Sem.run_bind,BK hu,Result.andThen_ok,Sem.run_pure]) (ct rfl)
   ·rename_i e hu
    obtain rfl:=Option.some.inj h
    exact go hl' (by simp only [binOp,Sem.run_bind,BK hu,Result.andThen_ok,Sem.run_pure]) (ct rfl)
   ·cases h
 ·rename_i xs ys
  obtain ⟨vx,rfl,hvx⟩:=fQ hx
  obtain ⟨vy,rfl,hvy⟩:=fQ hy
  split at h
  ·rename_i ks hks
   obtain ⟨hk,h1,h2⟩:=hK t ks hks
   obtain ⟨b,hb,rfl⟩:=Option.map_eq_some_iff.1 h
   have:=o_ 20 t ks hk Op.maxDepth (by decide) G w xs ys _ _ b hvx hvy hb
   rw [jx h1,jx h1] at this
   exact go h2 (by simp only [binOp,Sem.run_bind,Op.equal,this,Result.andThen_ok,Sem.run_pure]) (ct rfl)
  ·rename_i ks hks
   obtain ⟨hk,h1,h2⟩:=hK t ks hks
   obtain ⟨b,hb,rfl⟩:=Option.map_eq_some_iff.1 h
   have:=o_ 20 t ks hk Op.maxDepth (by decide) G w xs ys _ _ b hvx hvy hb
   rw [jx h1,jx h1] at this
   exact go h2 (by simp only [binOp,Sem.run_bind,Op.equal,this,Result.andThen_ok,Sem.run_pure]) (ct rfl)
  ·cases h
 ·rename_i m n
  obtain ⟨rfl,_⟩:=a_ hx
  obtain ⟨rfl,_⟩:=a_ hy
  split at h
  ·rename_i hu
   obtain rfl:=Option.some.inj h
   exact go trivial (run_eql_bool w t m n hu) (ct rfl)
  ·rename_i hu
   obtain rfl:=Option.some.inj h
   exact go trivial (run_neq_bool w t m n hu) (ct rfl)
  ·cases h
 ·cases h
end
section
variable [dq] {P:Program} {G:Gh} {w:World} {nt:Nat} {fr:Fr} {a:Act}
theorem addr_add (r o k:Nat):(⟨r,o,none⟩:Addr).add k=⟨r,o+k,none⟩:=by
 unfold Addr.add
 split
 ·rename_i h;subst h;rfl
 ·rfl
theorem qq {t:TypeId} {cs:List S} {s:S} (h:mA P t cs=some s):∃ d,P.underlying t=some d∧BL (b_ P t) (P.cellsOf t) cs=some s:=by
 unfold mA at h
 split at h
 ·rename_i d hd;exact ⟨d,hd,h⟩
 ·cases h
theorem qc {I:Nat→Prop} {r o:Nat} {cs:List T} (h:j6 w I ⟨r,o,none⟩ cs) (n:Nat):j6 w I ⟨r,o+n,none⟩ (cs.drop n):=fun k c hc=>by
 rw [List.getElem?_drop] at hc
 have:=h (n+k) c hc
 simp only [Nat.add_assoc] at this ⊢
 exact this
theorem qV {n sz:Nat} {get:Fin n→List T} {base:Option Addr} {cap:Nat} {i:Int} {s:S} (hx:dH w G.bB (.rows sz n get) (.slice base n cap)) (h:uR n get i=some s):
  ∃ r o,base=some ⟨r,o,none⟩∧0≤i∧i < n∧aY G w s (.pointer (some ⟨r,o+i.toNat*sz,none⟩)):=by
 unfold uR at h
 split at h
 ·rename_i hi
  obtain rfl:=Option.some.inj h
  cases hx with | rows _ _ _ _ _ vs hcap hlen hb hc=>
  obtain ⟨r,o,e,hr,hcell⟩:=hb (by omega)
  refine ⟨r,o,e,hi.1,by omega,.pt hr fun k c hk=>⟨_,?_,hc ⟨i.toNat,hi.2⟩ k c hk⟩⟩
  exact hcell ⟨i.toNat,hi.2⟩ k c hk
 ·cases h
theorem iN {t e:TypeId} {base:Addr} {n cap:Nat} {k:IntKind} {i:Int} {ie:TypeInfo} (hu:P.underlying t=some (.slice e)) (hie:P.info? e=some ie) (h0:0≤i) (h1:i < n):
  (Instr.indexAt t (.slice (some base) n cap) (.int k i)).run P w=.ok (.pointer (some (base.add (i.toNat*P.cellsOf e)))) w:=by
 simp only [Instr.indexAt,asIntOf,Sem.run_bind,Sem.run_pure,Result.andThen_ok,run_underlying hu,if_pos (And.intro h0 h1),run_sizeOf w hie,Bool.and_false]
theorem ko {t e:TypeId} {base:Addr} {n:Nat} {k:IntKind} {i:Int} {ie:TypeInfo} (hu:P.underlying t=some (.array n e)) (hie:P.info? e=some ie) (h0:0≤i) (h1:i < n):
  (Instr.indexAt t (.pointer (some base)) (.int k i)).run P w=.ok (.pointer (some (base.add (i.toNat*P.cellsOf e)))) w:=by
 simp only [Instr.indexAt,asIntOf,Sem.run_bind,Sem.run_pure,Result.andThen_ok,run_underlying hu,Instr.sureAddr,if_pos (And.intro h0 h1),run_sizeOf w hie]
theorem mM {t:TypeId} {f o:Nat} {ft:TypeId} {r k:Nat} (h:gQ P t f=some (o,ft)):(Instr.fieldAt t (.pointer (some ⟨r,k,none⟩)) f).run P w=.ok (.pointer (some ⟨r,k+o,none⟩)) w:=by
 obtain ⟨fs,x,hu,hx,rfl,rfl,hne⟩:=pc h
 obtain ⟨i,hi⟩:∃ i,P.info? x.type=some i:=by
  cases e:P.info? x.type with
  | some i=>exact ⟨i,rfl⟩
  | none=>simp [Program.cellsOf,e] at hne
 simp only [Instr.fieldAt,Sem.run_bind,run_underlying hu,Result.andThen_ok,hx,Instr.sureAddr,Sem.run_pure,fieldPlace,run_sizeOf w hi,if_neg hne,addr_add]
theorem Rn {mx:Bool} {x y s:S} {u v:Value} (hx:aY G w x u) (hy:aY G w y v) (h:Te mx x y=some s):∃ r,((if mx then Builtin.max2 u v else Builtin.min2 u v)).run P w=.ok r w∧aY G w s r:=by
 unfold Te at h
 split at h
 ·rename_i k m k' n
  obtain ⟨rfl,_⟩:=a_ hx
  obtain ⟨rfl,_⟩:=a_ hy
  obtain rfl:=Option.some.inj h
  refine ⟨_,?_,ct rfl⟩
  cases mx
  ·simp only [Bool.false_eq_true,if_false,Builtin.min2,Sem.run_pure,cond_false]
   by_cases e:n < m<;>simp [e]
  ·simp only [if_true,Builtin.max2,Sem.run_pure,cond_true]
   by_cases e:n > m<;>simp [e]
 ·cases h
theorem qA {mx:Bool}:∀ {xs:List S} {vs:List Value} {x s:S} {u:Value},aY G w x u→bD G w xs vs→K3 (Te mx) x xs=some s→
  ∃ r,(vs.foldlM (fun a b=>if mx then Builtin.max2 a b else Builtin.min2 a b) u).run P w=.ok r w∧aY G w s r
 | [],vs,x,s,u,hx,hl,h=>by
  obtain rfl:vs=[]:=List.length_eq_zero_iff.1 hl.1.symm
  obtain rfl:=Option.some.inj h
  exact ⟨u,rfl,hx⟩
 | y::ys,vs,x,s,u,hx,hl,h=>by
  obtain ⟨v,r,rfl,hv,hr⟩:=hl.dK
  obtain ⟨z,hz,h⟩:=Option.bind_eq_some_iff.1 h
  obtain ⟨q,hq,hzq⟩:=Rn (P:=P) hx hv hz
  obtain ⟨q',h1,h2⟩:=qA hzq hr h
  exact ⟨q',by rw [List.foldlM_cons,Sem.run_bind,hq,Result.andThen_ok];exact h1,h2⟩
theorem pV (hf:cV nt G w fr a) (xs:List Operand):bD G w (xs.map (ev fr)) (xs.map a.eval):=by
 induction xs with
 | nil=>exact .nil
 | cons x r ih=>exact .cons (hf.ev x) ih
theorem HO {K:TypeId→Option (List Nat)} (hK:M8 P K) (hf:cV nt G w fr a) {o:Oper} {s:S} (h:bX P K fr o.op=some s):∃ v,(execOp a.eval o).run P w=.ok (.value v) w∧aY G w s v:=by
 obtain ⟨dst,op,type,pos,after,guard⟩:=o
 simp only at h
 have wrap:∀ {q:Sem Value} {r:Value},q.run P w=.ok r w→(do pure (.value (← q)):Sem Next).run P w=.ok (.value r) w:=fun hq=>by
  rw [Sem.run_bind,hq];rfl
 cases op with
 | move x=>obtain rfl:=Option.some.inj h;exact ⟨_,rfl,hf.ev x⟩
 | assign x=>obtain rfl:=Option.some.inj h;exact ⟨_,rfl,hf.ev x⟩
 | pick c x y=>
  simp only [bX] at h
  split at h
  ·rename_i p hp
   obtain rfl:=Option.some.inj h
   have hc:=hf.ev c
   rw [hp] at hc
   obtain ⟨hv,_⟩:=a_ hc
   refine ⟨if p then a.eval x else a.eval y,?_,LF (hf.ev x) (hf.ev y)⟩
   simp only [execOp,hv,asBool,Sem.run_bind,Sem.run_pure,Result.andThen_ok]
  ·cases h
 | build t parts=>
  simp only [bX] at h
  obtain ⟨v,hv,hs⟩:=Fo (P:=P) (G:=G) (w:=w) (vparts:=parts.map fun (i,x)=>(i,a.eval x)) (by simp) (fun i p q h1 h2=>by
   simp only [List.getElem?_map,Array.getElem?_toList] at h1
   simp only [Array.getElem?_map] at h2
   cases hp:parts[i]? with
   | none=>rw [hp] at h1;cases h1
   | some pq=>
    rw [hp] at h1 h2
    obtain rfl:=Option.some.inj h1
    obtain rfl:=Option.some.inj h2
    exact ⟨rfl,hf.ev _⟩) h
  exact ⟨v,wrap hv,hs⟩
 | nilCheck x=>
  simp only [bX] at h
  have hx:=hf.ev x
  split at h<;>first | (cases h;done) | skip
  all_goals (rename_i hx';rw [hx'] at hx;obtain rfl:=Option.some.inj h;generalize hv:a.eval x=vv at hx;cases hx)
  ·exact ⟨_,by simp only [execOp,hv];rfl,.pt ‹_› ‹_›⟩
  ·exact ⟨_,by simp only [execOp,hv];rfl,.ptr ‹_›⟩
  ·exact ⟨_,by simp only [execOp,hv];rfl,.ep ‹_›⟩
 | binOp op t x y yt=>
  simp only [bX] at h
  obtain ⟨r,hr,hs⟩:=RU hK (hf.ev x) (hf.ev y) h
  exact ⟨r,wrap hr,hs⟩
 | unOp op t x=>
  simp only [bX] at h
  obtain ⟨r,hr,hs⟩:=Wk (hf.ev x) h
  exact ⟨r,wrap hr,hs⟩
 | makeFunc f first cap=>
  simp only [bX] at h
  cases e:first.size.beq 0 && cap.size.beq 0 with
  | true=>
   rw [e,cond_true] at h
   obtain rfl:=Option.some.inj h
   rw [Bool.and_eq_true] at e
   have h1:first=#[]:=Array.eq_empty_of_size_eq_zero (Nat.eq_of_beq_eq_true e.1)
   have h2:cap=#[]:=Array.eq_empty_of_size_eq_zero (Nat.eq_of_beq_eq_true e.2)
   subst h1;subst h2
   exact ⟨.func f #[] #[],by simp [execOp,Instr.makeFunc],ct rfl⟩
  | false=>
   rw [e,cond_false] at h
   obtain rfl:=Option.some.inj h
   refine ⟨.func f (first.map a.eval) (cap.map a.eval),rfl,.fn (by simp) (fun i s v h1 h2=>?_) (by simp) (fun i s v h1 h2=>?_)⟩
   ·exact (pV hf first.toList).2 i s v h1 (by simpa using h2)
   ·exact (pV hf cap.toList).2 i s v h1 (by simpa using h2)
 | slice t x lo hi mx=>
  simp only [bX,Option.bind_eq_some_iff] at h
  obtain ⟨l,hl,hh,hhi,m,hm,h⟩:=h
  obtain ⟨r,hr,hs⟩:=EV (hf.ev x) (ot hf hl) (ot hf hhi) (ot hf hm) h
  exact ⟨r,wrap hr,hs⟩
 | fieldAddr t x f=>
  simp only [bX] at h
  have hx:=hf.ev x
  split at h<;>first | (cases h;done) | skip
  all_goals (rename_i hfo hx';rw [hx'] at hx;obtain rfl:=Option.some.inj h;generalize hv:a.eval x=vv at hx;cases hx)
  ·exact ⟨_,wrap (by rw [hv];exact mM hfo),.pt ‹_› (qc ‹_› _)⟩
  ·exact ⟨_,wrap (by rw [hv];exact mM hfo),.ptr ‹_›⟩
  ·exact ⟨_,wrap (by rw [hv];exact mM hfo),by rw [Nat.add_assoc];exact .ep ‹_›⟩
 | field t x f=>
  simp only [bX] at h
  have hx:=hf.ev x
  split at h
  ·rename_i o ft cs hfo hx'
   rw [hx'] at hx
   obtain ⟨vs,hv,hr⟩:=fQ hx
   obtain ⟨d,hd,ht⟩:=qq h
   obtain ⟨fs,y,hu,hy,rfl,rfl,hne⟩:=pc hfo
   obtain ⟨r,hr',hs⟩:=rv hd hr ht
   refine ⟨r,wrap ?_,hs⟩
   simp only [hv,Instr.field,Sem.run_bind,run_underlying hu,Result.andThen_ok,hy,asAgg,Sem.run_pure,hr']
  ·cases h
 | index t x ix=>
  simp only [bX] at h
  have hx:=hf.ev x
  have hix:=hf.ev ix
  split at h
  ·rename_i n e cs i hu hx' hi
   rw [hx'] at hx
   obtain ⟨vs,hv,hr⟩:=fQ hx
   obtain ⟨k,hk⟩:=dP hix hi
   cases e0:decide (0≤i) && decide (i < n) with
   | false=>rw [e0] at h;cases h
   | true=>
    rw [e0,cond_true] at h
    simp only [Bool.and_eq_true,decide_eq_true_eq] at e0
    obtain ⟨d,hd,ht⟩:=qq h
    obtain ⟨r,hr',hs⟩:=rv hd hr ht
    refine ⟨r,wrap ?_,hs⟩
    simp only [hv,hk,Instr.index,asIntOf,Sem.run_bind,Sem.run_pure,run_underlying hu,Result.andThen_ok,if_pos e0,iK hd,hr']
  ·rename_i str i hu hx' hi
   rw [hx'] at hx
   obtain ⟨hv,_⟩:=a_ hx
   obtain ⟨k,hk⟩:=dP hix hi
   split at h
   ·rename_i hb
    obtain rfl:=Option.some.inj h
    refine ⟨_,wrap ?_,ct rfl⟩
    have:str[i.toNat]?=some (str[i.toNat]'hb.2):=by simp [hb.2]
    simp only [hv,hk,Instr.index,asIntOf,Sem.run_bind,Sem.run_pure,run_underlying hu,Result.andThen_ok,if_pos hb.1,this]
   ·cases h
  ·cases h
 | indexAddr t x ix=>
  simp only [bX] at h
  have hx:=hf.ev x
  have hix:=hf.ev ix
  split at h<;>first | (cases h;done) | skip
  ·rename_i e sz n get i hu hx' hi
   rw [hx'] at hx
   obtain ⟨k,hk⟩:=dP hix hi
   cases e0:sz.beq (P.cellsOf e) && (P.info? e).isSome with
   | false=>rw [e0] at h;cases h
   | true=>
    rw [e0,cond_true] at h
    simp only [Bool.and_eq_true] at e0
    obtain ⟨ie,hie⟩:=Option.isSome_iff_exists.1 e0.2
    have hsz:=Nat.eq_of_beq_eq_true e0.1
    generalize hv:a.eval x=vv at hx
    cases hx with | t hx=>
    have hx2:=hx
    cases hx with | rows _ _ _ base cap vs hcap hlen hb hc=>
    obtain ⟨r,o,rfl,h0,h1,hs⟩:=qV hx2 h
    refine ⟨_,wrap ?_,hs⟩
    rw [hv,hk,iN hu hie h0 h1,addr_add,hsz]
  ·rename_i e sz n get i hu hx' hi
   rw [hx'] at hx
   obtain ⟨k,hk⟩:=dP hix hi
   cases e0:sz.beq (P.cellsOf e) && (P.info? e).isSome with
   | false=>rw [e0] at h;cases h
   | true=>
    rw [e0,cond_true] at h
    simp only [Bool.and_eq_true] at e0
    obtain ⟨ie,hie⟩:=Option.isSome_iff_exists.1 e0.2
    have hsz:=Nat.eq_of_beq_eq_true e0.1
    generalize hv:a.eval x=vv at hx
    cases hx with | full hx=>
    obtain ⟨r,o,rfl,h0,h1,hs⟩:=qV hx h
    refine ⟨_,wrap ?_,hs⟩
    rw [hv,hk,iN hu hie h0 h1,addr_add,hsz]
  ·rename_i e sz n get i hu hx' hi
   rw [hx'] at hx
   obtain ⟨k,hk⟩:=dP hix hi
   cases e0:sz.beq (P.cellsOf e) && (P.info? e).isSome with
   | false=>rw [e0] at h;cases h
   | true=>
    rw [e0,cond_true] at h
    simp only [Bool.and_eq_true] at e0
    obtain ⟨ie,hie⟩:=Option.isSome_iff_exists.1 e0.2
    have hsz:=Nat.eq_of_beq_eq_true e0.1
    generalize hv:a.eval x=vv at hx
    cases hx with | top hx=>
    obtain ⟨r,o,rfl,h0,h1,hs⟩:=qV hx.fr.kp h
    refine ⟨_,wrap ?_,hs⟩
    rw [hv,hk,iN hu hie h0 h1,addr_add,hsz]
  ·rename_i e b n i hu hx' hi
   rw [hx'] at hx
   obtain ⟨k,hk⟩:=dP hix hi
   cases e0:(P.info? e).isSome && decide (0≤i) && decide (i < n) with
   | false=>rw [e0] at h;cases h
   | true=>
    rw [e0,cond_true] at h
    simp only [Bool.and_eq_true,decide_eq_true_eq] at e0
    obtain ⟨ie,hie⟩:=Option.isSome_iff_exists.1 e0.1.1
    obtain rfl:=Option.some.inj h
    generalize hv:a.eval x=vv at hx
    cases hx with | sl hmu hb=>
    obtain ⟨r,rfl⟩:=hb (by omega)
    refine ⟨_,wrap ?_,.ep hmu⟩
    rw [hv,hk,iN hu hie e0.1.2 e0.2,addr_add,Nat.zero_add,Nat.add_zero]
  ·rename_i n e b o i hu hx' hi
   rw [hx'] at hx
   obtain ⟨k,hk⟩:=dP hix hi
   cases e0:(P.info? e).isSome && decide (0≤i) && decide (i < n) with
   | false=>rw [e0] at h;cases h
   | true=>
    rw [e0,cond_true] at h
    simp only [Bool.and_eq_true,decide_eq_true_eq] at e0
    obtain ⟨ie,hie⟩:=Option.isSome_iff_exists.1 e0.1.1
    obtain rfl:=Option.some.inj h
    generalize hv:a.eval x=vv at hx
    cases hx with | ptr hmu=>
    refine ⟨_,wrap ?_,.ptr hmu⟩
    rw [hv,hk,ko hu hie e0.1.2 e0.2,addr_add]
  ·rename_i n e cs i hu hx' hi
   rw [hx'] at hx
   obtain ⟨k,hk⟩:=dP hix hi
   cases e0:(P.info? e).isSome && decide (0≤i) && decide (i < n) with
   | false=>rw [e0] at h;cases h
   | true=>
    rw [e0,cond_true] at h
    simp only [Bool.and_eq_true,decide_eq_true_eq] at e0
    obtain ⟨ie,hie⟩:=Option.isSome_iff_exists.1 e0.1.1
    obtain rfl:=Option.some.inj h
    generalize hv:a.eval x=vv at hx
    cases hx with | pt hi' hc=>
    refine ⟨_,wrap ?_,.pt hi' (qc hc _)⟩
    rw [hv,hk,ko hu hie e0.1.2 e0.2,addr_add]
  ·rename_i n e b z j o i hu hx' hi
   rw [hx'] at hx
   obtain ⟨k,hk⟩:=dP hix hi
   cases e0:(P.info? e).isSome && decide (0≤i) && decide (i < n) with
   | false=>rw [e0] at h;cases h
   | true=>
    rw [e0,cond_true] at h
    simp only [Bool.and_eq_true,decide_eq_true_eq] at e0
    obtain ⟨ie,hie⟩:=Option.isSome_iff_exists.1 e0.1.1
    obtain rfl:=Option.some.inj h
    generalize hv:a.eval x=vv at hx
    cases hx with | ep hmu=>
    refine ⟨_,wrap ?_,.ep hmu⟩
    rw [hv,hk,ko hu hie e0.1.2 e0.2,addr_add,Nat.add_assoc]
 | extract x i=>
  simp only [bX] at h
  have hx:=hf.ev x
  split at h
  ·rename_i vs hx'
   rw [hx'] at hx
   obtain ⟨us,hv,hl,hr⟩:=qk hx
   have hlt:i < us.size:=by rw [← hl];exact (List.getElem?_eq_some_iff.1 h).1
   have hu:us[i]?=some us[i]:=by simp [hlt]
   exact ⟨us[i],wrap (by rw [hv];simp only [Instr.extract,hu,Sem.run_pure]),hr i s _ h hu⟩
  ·cases h
 | call c=>
  obtain ⟨callee,args,argTypes⟩:=c
  cases callee with
  | value f=>cases h
  | invoke r m=>cases h
  | builtin b=>
   have hl:=pV hf args.toList
   have harg:(args.map a.eval).toList=args.toList.map a.eval:=by simp
   cases b<;>simp only [bX] at h<;>first | (cases h;done) | skip
   case len=>
    split at h
    ·rename_i x t hx ht
     cases e0:se P t x with
     | false=>rw [e0] at h;cases h
     | true=>
      rw [e0,cond_true] at h
      obtain ⟨n,hn,rfl⟩:=Option.map_eq_some_iff.1 h
      rw [hx] at hl
      obtain ⟨v,r,hv,hxv,hr⟩:=hl.dK
      obtain rfl:r=[]:=List.length_eq_zero_iff.1 hr.1.symm
      have hargs:args.map a.eval=#[v]:=Array.ext' (by rw [harg,hv])
      refine ⟨.int .i64 n,?_,ct rfl⟩
      have:=Ty (P:=P) (w:=w) (ts:=argTypes) (ty:=type) hxv hn ht e0
      simp only [execOp,resolve,Sem.run_bind,Sem.run_pure,Result.andThen_ok,invoke,builtin,hargs,this]
    ·cases h
   case max=>
    split at h
    ·rename_i x r hx
     rw [hx] at hl
     obtain ⟨v,vs,hv,hxv,hr⟩:=hl.dK
     have hargs:(args.map a.eval).toList=v::vs:=by rw [harg,hv]
     obtain ⟨q,hq,hs⟩:=qA (P:=P) hxv hr h
     refine ⟨q,?_,hs⟩
     simp only [if_true] at hq
     simp only [execOp,resolve,Sem.run_bind,Sem.run_pure,Result.andThen_ok,invoke,builtin,Builtin.max_,hargs,hq]
    ·cases h
   case min=>
    split at h
    ·rename_i x r hx
     rw [hx] at hl
     obtain ⟨v,vs,hv,hxv,hr⟩:=hl.dK
     have hargs:(args.map a.eval).toList=v::vs:=by rw [harg,hv]
     obtain ⟨q,hq,hs⟩:=qA (P:=P) hxv hr h
     refine ⟨q,?_,hs⟩
     simp only [Bool.false_eq_true,if_false] at hq
     simp only [execOp,resolve,Sem.run_bind,Sem.run_pure,Result.andThen_ok,invoke,builtin,Builtin.min_,hargs,hq]
    ·cases h
 | _=>cases h
end
end Go.Proofs.YtonkoellfaopiaaGreatDoor.H
