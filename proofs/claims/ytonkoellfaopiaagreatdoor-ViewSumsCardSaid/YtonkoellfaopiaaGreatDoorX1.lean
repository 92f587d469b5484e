import Derived.Test.YtonkoellfaopiaaGreatDoorX0
import Derived.WideLaws
import Derived.Laws.StructEq
import Derived.Laws.Cells
set_option linter.unusedSimpArgs false
set_option linter.unusedVariables false
namespace Go.Proofs.YtonkoellfaopiaaGreatDoor.H
open Go Go.RowKit
section
variable {P:Program} {G:Gh} {w:World} {nt:Nat} {fr:Fr} {a:Act}
theorem setFrom_rep:∀ (xs:List S) (us:List Value) (cs:List S) (vs:List Value) (o:Nat),LRep G w cs vs→LRep G w xs us→
  LRep G w (setFrom cs o xs) ((us.zipIdx o).foldl (fun cs p=>cs.set p.2 p.1) vs)
 | [],us,cs,vs,o,h,h'=>by
  have:us=[]:=List.length_eq_zero_iff.1 h'.1.symm
  subst this;exact h
 | x::xs,us,cs,vs,o,h,h'=>by
  obtain ⟨u,r,rfl,hu,hr⟩:=h'.uncons
  exact setFrom_rep xs r _ _ (o+1) (h.set o hu) hr
theorem foldl_set_toList (off:Nat):∀ (l:List (Value × Nat)) (c:Array Value),(l.foldl (fun cs (p:Value × Nat)=>cs.setIfInBounds (off+p.2) p.1) c).toList=l.foldl (fun cs p=>cs.set (off+p.2) p.1) c.toList
 | [],_=>rfl
 | x::r,c=>by simp only [List.foldl_cons,foldl_set_toList off r,Array.toList_setIfInBounds]
theorem zipIdx_shift (off:Nat):∀ (l:List Value) (k:Nat) (c:List Value),(l.zipIdx (off+k)).foldl (fun cs p=>cs.set p.2 p.1) c=(l.zipIdx k).foldl (fun cs p=>cs.set (off+p.2) p.1) c
 | [],_,_=>rfl
 | x::r,k,c=>by
  simp only [List.zipIdx_cons,List.foldl_cons]
  rw [← zipIdx_shift off r (k+1)]
  rfl
theorem fill_rep (place:Nat→Option (Nat × Nat)):∀ (parts:List (Nat × S)) (vparts:List (Nat × Value)) (cs:List S) (c:Array Value) (out:List S),
  LRep G w cs c.toList→parts.length=vparts.length→(∀ (i:Nat) (p:Nat × S) (q:Nat × Value),parts[i]?=some p→vparts[i]?=some q→p.1=q.1∧SRep G w p.2 q.2)→
  fillS place cs parts=some out→∃ c',Instr.fill place c vparts=some c'∧LRep G w out c'.toList
 | [],vparts,cs,c,out,hc,hl,_,h=>by
  have:vparts=[]:=List.length_eq_zero_iff.1 hl.symm
  subst this
  simp only [fillS,Option.some.injEq] at h
  subst h
  exact ⟨c,rfl,hc⟩
 | (i,s)::rest,vparts,cs,c,out,hc,hl,hp,h=>by
  cases vparts with
  | nil=>simp at hl
  | cons q vrest=>
   obtain ⟨j,v⟩:=q
   obtain ⟨e,hs⟩:=hp 0 (i,s) (j,v) rfl rfl
   simp only at e hs
   subst e
   unfold fillS at h
   cases hpl:place i with
   | none=>rw [hpl] at h;cases h
   | some os=>
    obtain ⟨off,size⟩:=os
    rw [hpl] at h
    simp only at h
    cases hb:defS s && (cellsOfS s).length.beq size && (off+(cellsOfS s).length).ble cs.length with
    | false=>rw [hb] at h;cases h
    | true=>
      rw [hb,cond_true] at h
      rw [Bool.and_eq_true,Bool.and_eq_true] at hb
      have hsz:(cellsOfS s).length=size:=Nat.eq_of_beq_eq_true hb.1.2
      have hle:off+(cellsOfS s).length≤cs.length:=Nat.le_of_ble_eq_true hb.2
      have hvc:LRep G w (cellsOfS s) v.cells.toList:=srep_cells hs hb.1.1
      have hlen:v.cells.size=(cellsOfS s).length:=by have:=hvc.1;simpa using this.symm
      unfold Instr.fill
      simp only [hpl]
      have hcl:cs.length=c.size:=by simpa using hc.1
      rw [if_neg (show ¬ (decide (v.cells.size≠size) || decide (off+v.cells.size > c.size))=true by simp;omega)]
      refine fill_rep place rest vrest _ _ out ?_ (by simpa using hl) (fun k p q h1 h2=>hp (k+1) p q (by simpa using h1) (by simpa using h2)) h
      have h2:=setFrom_rep _ _ _ _ off hc hvc
      have h3:((v.cells.zipIdx.foldl (fun cs (x:Value × Nat)=>cs.setIfInBounds (off+x.2) x.1) c)).toList=(v.cells.toList.zipIdx off).foldl (fun cs p=>cs.set p.2 p.1) c.toList:=by
       rw [← Array.foldl_toList,foldl_set_toList,Array.toList_zipIdx]
       exact (zipIdx_shift off _ 0 _).symm
      rw [← h3] at h2
      exact h2
theorem zeroS_spec {t:TypeId} {z:S} (h:zeroS P t=some z):∃ i v,P.info? t=some i∧i.zero=some v∧z=constS v:=by
 unfold zeroS at h
 split at h
 ·rename_i i hi
  obtain ⟨v,hv,e⟩:=Option.map_eq_some_iff.1 h
  exact ⟨i,v,hi,hv,e.symm⟩
 ·cases h
theorem run_zeroValue_ok {t:TypeId} {i:TypeInfo} {v:Value} (hi:P.info? t=some i) (hz:i.zero=some v):(zeroValue t).run P w=.ok v w:=by
 simp [zeroValue,typeInfo,hi,hz]
theorem constS_def {v:Value} (h:defS (constS v)=true):LRep G w (cellsOfS (constS v)) v.cells.toList:=srep_cells (srep_const v) h
theorem fieldPlaces (fs:Array Field) (h:∀ f∈fs.toList,∃ i,P.info? f.type=some i):(fs.mapM fun f=>do pure (f.offset,← sizeOf f.type):Sem (Array (Nat × Nat))).run P w=.ok (fs.map fun f=>(f.offset,P.cellsOf f.type)) w:=by
 rw [Array.mapM_eq_mapM_toList]
 have key:∀ l:List Field,(∀ f∈l,∃ i,P.info? f.type=some i)→(l.mapM fun f=>do pure (f.offset,← sizeOf f.type):Sem (List (Nat × Nat))).run P w=.ok (l.map fun f=>(f.offset,P.cellsOf f.type)) w:=by
  intro l
  induction l with
  | nil=>intro _;rfl
  | cons f r ih=>
   intro hl
   obtain ⟨i,hi⟩:=hl f (by simp)
   rw [List.mapM_cons]
   simp only [Sem.run_bind,run_sizeOf w hi,Result.andThen_ok,Sem.run_pure,ih (fun g hg=>hl g (by simp [hg])),List.map_cons]
 rw [Sem.run_map,key _ h,Result.andThen_ok]
 exact congrArg (fun x=>Result.ok x w) (Array.ext' (by simp))
theorem fill_ok {z:Value} {parts:List (Nat × S)} {vparts:Array (Nat × Value)} {out:List S} (hl:parts.length=vparts.size)
  (hp:∀ (i:Nat) (p:Nat × S) (q:Nat × Value),parts[i]?=some p→vparts[i]?=some q→p.1=q.1∧SRep G w p.2 q.2) (place place':Nat→Option (Nat × Nat)) (hpl:place=place')
  (hd:defS (constS z)=true) (h:fillS place (cellsOfS (constS z)) parts=some out):∃ c',Instr.fill place' z.cells vparts.toList=some c'∧LRep G w out c'.toList:=by
 subst hpl
 exact fill_rep place parts vparts.toList _ _ out (constS_def hd) (by simpa using hl) (fun i p q h1 h2=>hp i p q h1 (by simpa using h2)) h
theorem buildS_run {t:TypeId} {parts:List (Nat × S)} {vparts:Array (Nat × Value)} {s:S} (hl:parts.length=vparts.size)
  (hp:∀ (i:Nat) (p:Nat × S) (q:Nat × Value),parts[i]?=some p→vparts[i]?=some q→p.1=q.1∧SRep G w p.2 q.2)
  (h:buildS P t parts=some s):∃ v,(Instr.build t vparts).run P w=.ok v w∧SRep G w s v:=by
 unfold buildS at h
 split at h
 ·rename_i z fs hz hu
  obtain ⟨i,v,hi,hv,rfl⟩:=zeroS_spec hz
  cases hd:defS (constS v) && fieldsIn P fs with
  | false=>rw [hd] at h;cases h
  | true=>
   rw [hd,cond_true] at h
   rw [Bool.and_eq_true] at hd
   obtain ⟨out,ho,rfl⟩:=Option.map_eq_some_iff.1 h
   obtain ⟨c',hc',hr⟩:=fill_ok hl hp _ (fun i=>(fs.map fun f=>(f.offset,P.cellsOf f.type))[i]?) (by funext i;rw [Array.getElem?_map];cases fs[i]?<;>rfl) hd.1 ho
   refine ⟨.agg c',?_,hr.agg'⟩
   unfold Instr.build
   have hfi:∀ f∈fs.toList,∃ i,P.info? f.type=some i:=fun f hf=>Option.isSome_iff_exists.1 (List.all_eq_true.1 hd.2 f hf)
   simp only [Sem.run_bind,run_zeroValue_ok hi hv,Result.andThen_ok,run_underlying hu,fieldPlaces fs hfi,Sem.run_pure,hc']
 ·rename_i z n e hz hu
  obtain ⟨i,v,hi,hv,rfl⟩:=zeroS_spec hz
  cases hd:defS (constS v) && (P.info? e).isSome with
  | false=>rw [hd] at h;cases h
  | true=>
   rw [hd,cond_true] at h
   rw [Bool.and_eq_true] at hd
   obtain ⟨out,ho,rfl⟩:=Option.map_eq_some_iff.1 h
   obtain ⟨ie,hie⟩:=Option.isSome_iff_exists.1 hd.2
   obtain ⟨c',hc',hr⟩:=fill_ok hl hp _ _ rfl hd.1 ho
   refine ⟨.agg c',?_,hr.agg'⟩
   unfold Instr.build
   simp only [Sem.run_bind,run_zeroValue_ok hi hv,Result.andThen_ok,run_underlying hu,run_sizeOf w hie,Sem.run_pure,hc']
 ·cases h
theorem convS_run {src dst:TypeId} {x s:S} {v:Value} (hx:SRep G w x v) (h:convS P src dst x=some s):∃ u,(convert src dst v).run P w=.ok u w∧SRep G w s u:=by
 unfold convS at h
 split at h
 ·rename_i k k' k2 n hs hd
  obtain ⟨rfl,_⟩:=srep_v hx
  obtain rfl:=Option.some.inj h
  exact ⟨.int k' (k'.wrap n),by simp [convert,run_underlying hs,run_underlying hd,Conv.intToInt],srep_sv rfl⟩
 ·rename_i s' hs hd
  obtain ⟨rfl,_⟩:=srep_v hx
  obtain rfl:=Option.some.inj h
  exact ⟨.string s',by simp [convert,run_underlying hs,run_underlying hd],srep_sv rfl⟩
 ·cases h
theorem unS_run {op:UnOp} {x s:S} {v:Value} (hx:SRep G w x v) (h:unS op x=some s):∃ u,(Op.unary op v).run P w=.ok u w∧SRep G w s u:=by
 unfold unS at h
 split at h
 ·obtain ⟨rfl,_⟩:=srep_v hx
  obtain rfl:=Option.some.inj h
  exact ⟨_,rfl,srep_sv rfl⟩
 ·obtain ⟨rfl,_⟩:=srep_v hx
  obtain rfl:=Option.some.inj h
  exact ⟨_,rfl,srep_sv rfl⟩
 ·cases h
theorem pickS_rep {c:Bool} {x y:S} {vx vy:Value} (hx:SRep G w x vx) (hy:SRep G w y vy):SRep G w (pickS c x y) (if c then vx else vy):=by
 unfold pickS
 split
 ·obtain ⟨rfl,_⟩:=srep_v hx
  obtain ⟨rfl,_⟩:=srep_v hy
  cases c<;>exact srep_sv rfl
 ·obtain ⟨rfl,_⟩:=srep_v hx
  obtain ⟨rfl,_⟩:=srep_v hy
  cases c<;>exact srep_sv rfl
 ·cases c<;>simpa
theorem lenS_run {ts:Array TypeId} {t ty:TypeId} {x:S} {v:Value} {n:Int} (hx:SRep G w x v) (h:lenS x=some n) (ht:ts[0]?=some t)
  (hd:lenFits P t x=true):
  (Builtin.len_ ts ty #[v]).run P w=.ok (.int .i64 n) w:=by
 unfold Builtin.len_
 simp only [ht]
 unfold lenFits at hd
 unfold lenS at h
 split at h
 ·rename_i s
  obtain ⟨rfl,_⟩:=srep_v hx
  obtain rfl:=Option.some.inj h
  cases hu:P.underlying t with
  | none=>rw [hu] at hd;cases hd
  | some d=>
   rw [hu] at hd
   cases d<;>first | (cases hd;done) | skip
   simp [run_underlying hu,goInt]
 ·rename_i n' c
  obtain ⟨rfl,_⟩:=srep_v hx
  obtain rfl:=Option.some.inj h
  cases hu:P.underlying t with
  | none=>rw [hu] at hd;cases hd
  | some d=>
   rw [hu] at hd
   cases d<;>first | (cases hd;done) | skip
   simp [run_underlying hu,goInt]
 ·rename_i sz n' g
  obtain rfl:=Option.some.inj h
  cases hx with | t hx=>cases hx with | rows _ _ _ base cap=>
  cases hu:P.underlying t with
  | none=>rw [hu] at hd;cases hd
  | some d=>
   rw [hu] at hd
   cases d<;>first | (cases hd;done) | skip
   simp [run_underlying hu,goInt]
 ·rename_i sz n' g
  obtain rfl:=Option.some.inj h
  cases hx with | full hx=>
  cases hu:P.underlying t with
  | none=>rw [hu] at hd;cases hd
  | some d=>
   rw [hu] at hd
   cases d<;>first | (cases hd;done) | skip
   simp [run_underlying hu,goInt]
 ·rename_i b n'
  obtain rfl:=Option.some.inj h
  cases hx with | sl hx hb=>
  cases hu:P.underlying t with
  | none=>rw [hu] at hd;cases hd
  | some d=>
   rw [hu] at hd
   cases d<;>first | (cases hd;done) | skip
   simp [run_underlying hu,goInt]
 ·rename_i es
  obtain rfl:=Option.some.inj h
  cases hx with | mt hi hb hl hk hv=>
  cases hu:P.underlying t with
  | none=>rw [hu] at hd;cases hd
  | some d=>
   rw [hu] at hd
   cases d<;>first | (cases hd;done) | skip
   simp [run_underlying hu,run_getObj_map w _ _ _ hb,goInt,hl]
 ·cases h
end
section
variable {P:Program} {G:Gh} {w:World} {nt:Nat} {fr:Fr} {a:Act}
theorem intOfS_spec {s:S} {v:Value} {n:Int} (h:SRep G w s v) (hi:intOfS s=some n):∃ k,v=.int k n:=by
 unfold intOfS at hi
 split at hi
 ·obtain ⟨rfl,_⟩:=srep_v h
  obtain rfl:=Option.some.inj hi
  exact ⟨_,rfl⟩
 ·cases hi
def OptRep:Option Value→Option Int→Prop
 | none,none=>True
 | some v,some n=>∃ k,v=.int k n
 | _,_=>False
theorem optInt_rep (hf:FRep nt G w fr a) {x:Option Operand} {n:Option Int} (h:optInt fr x=some n):OptRep (x.map a.eval) n:=by
 cases x with
 | none=>obtain rfl:=Option.some.inj h;trivial
 | some x=>
  obtain ⟨i,hi,rfl⟩:=Option.map_eq_some_iff.1 h
  exact intOfS_spec (hf.ev x) hi
theorem run_sliceBound {k:IntKind} {n:Int} {y:Nat} {code:BoundsCode} (h:0≤n∧n≤(y:Int)):(Instr.sliceBound (.int k n) y code).run P w=.ok n.toNat w:=by
 simp [Instr.sliceBound,asIntOf,h.1,h.2]
theorem bounds_run (b:Bool) (len cap:Nat) {low high max:Option Value} {lo hi mx:Option Int} (hl:OptRep low lo) (hh:OptRep high hi) (hm:OptRep max mx)
  (h0:0≤lo.getD 0) (h1:lo.getD 0≤hi.getD len) (h2:hi.getD len≤mx.getD cap) (h3:mx.getD cap≤cap) (hs:mx.isSome=true→hi.isSome=true):
  (Instr.sliceBounds b len cap low high max).run P w=.ok ((lo.getD 0).toNat,(hi.getD len).toNat,(mx.getD cap).toNat) w:=by
 cases mx with
 | none=>
  cases max with
  | some m=>exact hm.elim
  | none=>
   cases hi with
   | none=>
    cases high with
    | some v=>exact hh.elim
    | none=>
     cases lo with
     | none=>cases low with
      | some v=>exact hl.elim
      | none=>simp [Instr.sliceBounds]
     | some l=>cases low with
      | none=>exact hl.elim
      | some v=>
       obtain ⟨k,rfl⟩:=hl
       simp only [Option.getD_some,Option.getD_none] at h0 h1
       simp [Instr.sliceBounds,run_sliceBound (P:=P) (w:=w) (k:=k) ⟨h0,h1⟩]
   | some h=>
    cases high with
    | none=>exact hh.elim
    | some v=>
     obtain ⟨k,rfl⟩:=hh
     simp only [Option.getD_some,Option.getD_none] at h0 h1 h2
     have r1:=run_sliceBound (P:=P) (w:=w) (k:=k) (n:=h) (y:=cap) (code:=if b then .sliceAcap else .sliceAlen) ⟨by omega,h2⟩
     cases lo with
     | none=>cases low with
      | some v=>exact hl.elim
      | none=>simp [Instr.sliceBounds,r1]
     | some l=>cases low with
      | none=>exact hl.elim
      | some v=>
       obtain ⟨k',rfl⟩:=hl
       simp only [Option.getD_some,Option.getD_none] at h0 h1 h2
       have r2:=run_sliceBound (P:=P) (w:=w) (k:=k') (n:=l) (y:=h.toNat) (code:=.sliceB) ⟨h0,by omega⟩
       simp [Instr.sliceBounds,r1,r2]
 | some m=>
  cases max with
  | none=>exact hm.elim
  | some mv=>
   obtain ⟨km,rfl⟩:=hm
   cases hi with
   | none=>simp at hs
   | some h=>
    cases high with
    | none=>exact hh.elim
    | some v=>
     obtain ⟨k,rfl⟩:=hh
     simp only [Option.getD_some,Option.getD_none] at h0 h1 h2 h3
     have r0:=run_sliceBound (P:=P) (w:=w) (k:=km) (n:=m) (y:=cap) (code:=if b then .slice3Acap else .slice3Alen) ⟨by omega,h3⟩
     have r1:=run_sliceBound (P:=P) (w:=w) (k:=k) (n:=h) (y:=m.toNat) (code:=.slice3B) ⟨by omega,by omega⟩
     cases lo with
     | none=>cases low with
      | some v=>exact hl.elim
      | none=>simp [Instr.sliceBounds,r0,r1]
     | some l=>cases low with
      | none=>exact hl.elim
      | some v=>
       obtain ⟨k',rfl⟩:=hl
       simp only [Option.getD_some,Option.getD_none] at h0 h1 h2
       have r2:=run_sliceBound (P:=P) (w:=w) (k:=k') (n:=l) (y:=h.toNat) (code:=.slice3C) ⟨h0,by omega⟩
       simp [Instr.sliceBounds,r0,r1,r2]
theorem cutS_spec {n:Nat} {lo hi mx:Option Int} {l m:Nat} {f:Bool} (h:cutS n lo hi mx=some (l,m,f)):
  0≤lo.getD 0∧lo.getD 0≤hi.getD n∧hi.getD n≤n∧(mx.isSome=true→hi.isSome=true)∧(∀ x,mx=some x→x=hi.getD n)∧l=(lo.getD 0).toNat∧l+m=(hi.getD n).toNat∧(f=true↔mx.isSome=true):=by
 unfold cutS at h
 simp only at h
 cases e:decide (0≤lo.getD 0) && decide (lo.getD 0≤hi.getD n) && decide (hi.getD n≤n) with
 | false=>rw [e] at h;cases h
 | true=>
  rw [e,cond_true] at h
  simp only [Bool.and_eq_true,decide_eq_true_eq] at e
  cases mx with
  | none=>
   simp only [Option.some.injEq,Prod.mk.injEq] at h
   obtain ⟨rfl,rfl,rfl⟩:=h
   exact ⟨e.1.1,e.1.2,e.2,by simp,by simp,rfl,by omega,by simp⟩
  | some x=>
   simp only at h
   cases e2:decide (x=hi.getD n) && hi.isSome with
   | false=>rw [e2] at h;cases h
   | true=>
    rw [e2,cond_true] at h
    simp only [Bool.and_eq_true,decide_eq_true_eq] at e2
    simp only [Option.some.injEq,Prod.mk.injEq] at h
    obtain ⟨rfl,rfl,rfl⟩:=h
    exact ⟨e.1.1,e.1.2,e.2,fun _=>e2.2,fun y hy=>by obtain rfl:=Option.some.inj hy;exact e2.1,rfl,by omega,by simp⟩
theorem trep_sub {I:Nat→Prop} {sz n:Nat} {get:Fin n→List T} {base:Option Addr} {cap l m cap':Nat} (h:TRep w I (.rows sz n get) (.slice base n cap)) (hl:l+m≤n) (hc:m≤cap') (base':Option Addr)
  (hb:m≠0→base'=base.map (·.add (l*sz))):TRep w I (.rows sz m (subGet get l m hl)) (.slice base' m cap'):=by
 cases h with
 | rows _ _ _ _ _ vs hcap hlen hb' hcs=>
  refine .rows sz m _ base' cap' (fun i k=>vs ⟨l+i.1,by have:=i.2;omega⟩ k) hc (fun i=>hlen _) (fun hm=>?_) (fun i k c hg=>hcs _ k c hg)
  obtain ⟨r,o,rfl,hr,hcell⟩:=hb' (by omega)
  refine ⟨r,o+l*sz,?_,hr,fun i k c hg=>?_⟩
  ·rw [hb hm]
   simp only [Option.map_some,Addr.add]
   split
   ·rename_i e;rw [e];rfl
   ·rfl
  ·have:=hcell ⟨l+i.1,by have:=i.2;omega⟩ k c hg
   rw [← this]
   congr 2
   rw [Nat.add_mul];omega
theorem cut_rows {t e:TypeId} {sz n cap:Nat} {get:Fin n→List T} {base:Option Addr} {s:S} {low high max:Option Value} {lo hi mx:Option Int} (hu:P.underlying t=some (.slice e)) (hx:TRep w G.imm (.rows sz n get) (.slice base n cap)) (hcap:n≤cap)
  (hl:OptRep low lo) (hh:OptRep high hi) (hm:OptRep max mx)
  (h:(bif !(sz.beq (P.cellsOf e)) || !(P.info? e).isSome then none else
   (match cutS n lo hi mx with
    | some (l,m,f)=>if h:l+m≤n then some (bif f then S.full sz m (subGet get l m h) else .t (.rows sz m (subGet get l m h))) else none
    | none=>none))=some s):∃ u,(Instr.sliceAt t (.slice base n cap) low high max).run P w=.ok u w∧SRep G w s u:=by
 cases hz:sz.beq (P.cellsOf e) with
 | false=>rw [hz] at h;cases h
 | true=>
  have hz':sz=P.cellsOf e:=Nat.eq_of_beq_eq_true hz
  cases hin:(P.info? e).isSome with
  | false=>rw [hin,hz] at h;cases h
  | true=>
   rw [hin,hz] at h
   simp only [Bool.not_true,Bool.or_self,cond_false] at h
   cases hc:cutS n lo hi mx with
   | none=>rw [hc] at h;cases h
   | some r=>
    obtain ⟨l,m,f⟩:=r
    rw [hc] at h
    simp only at h
    by_cases hlm:l+m≤n
    ·rw [dif_pos hlm] at h
     obtain ⟨h0,h1,h2,h3,h4,h5,h6,h7⟩:=cutS_spec hc
     have hmx:mx.getD (cap:Int)≤cap∧hi.getD (n:Int)≤mx.getD (cap:Int):=by
      cases mx with
      | none=>simp only [Option.getD_none];omega
      | some x=>have:=h4 x rfl;simp only [Option.getD_some];omega
     have hb:=bounds_run (P:=P) (w:=w) true n cap hl hh hm h0 h1 hmx.2 hmx.1 h3
     obtain ⟨ie,hie⟩:=Option.isSome_iff_exists.1 hin
     rw [← h5,← h6] at hb
     have hrun:(Instr.sliceAt t (.slice base n cap) low high max).run P w=.ok (.slice (if (mx.getD (cap:Int)).toNat=l then base else base.map (·.add (l*sz))) m ((mx.getD (cap:Int)).toNat - l)) w:=by
      simp only [Instr.sliceAt,Sem.run_bind,run_underlying hu,Result.andThen_ok,Instr.slice,hb,run_sizeOf w hie,Sem.run_pure,← hz',Nat.add_sub_cancel_left]
     have hsub:=fun (cap':Nat) (hc':m≤cap')=>trep_sub hx hlm hc' (if (mx.getD (cap:Int)).toNat=l then base else base.map (·.add (l*sz))) (fun hm0=>by
      rw [if_neg (by omega)])
     refine ⟨_,hrun,?_⟩
     cases f with
     | false=>
      obtain rfl:=Option.some.inj h
      exact .t (hsub _ (by omega))
     | true=>
      obtain rfl:=Option.some.inj h
      obtain ⟨x,hx'⟩:=Option.isSome_iff_exists.1 (h7.1 rfl)
      have e4:=h4 x hx'
      have:(mx.getD (cap:Int)).toNat - l=m:=by rw [hx'];simp only [Option.getD_some];omega
      rw [this]
      exact .full (hsub m (Nat.le_refl _))
    ·rw [dif_neg hlm] at h;cases h
theorem sliceS_run {t:TypeId} {x s:S} {v:Value} {low high max:Option Value} {lo hi mx:Option Int} (hx:SRep G w x v) (hl:OptRep low lo) (hh:OptRep high hi) (hm:OptRep max mx) (h:sliceS P t x lo hi mx=some s):
  ∃ u,(Instr.sliceAt t v low high max).run P w=.ok u w∧SRep G w s u:=by
 unfold sliceS at h
 split at h
 ·rename_i str hu
  obtain ⟨rfl,_⟩:=srep_v hx
  cases mx with
  | some m=>cases h
  | none=>
   cases max with
   | some v=>exact hm.elim
   | none=>
    simp only at h
    cases e:decide (0≤lo.getD 0) && decide (lo.getD 0≤hi.getD str.size) && decide (hi.getD str.size≤str.size) with
    | false=>rw [e] at h;cases h
    | true=>
     rw [e,cond_true] at h
     simp only [Bool.and_eq_true,decide_eq_true_eq] at e
     obtain rfl:=Option.some.inj h
     have hb:=bounds_run (P:=P) (w:=w) false str.size str.size hl hh (max:=none) (mx:=none) trivial e.1.1 e.1.2 e.2 (by simp) (by simp)
     exact ⟨_,by simp only [Instr.sliceAt,Sem.run_bind,run_underlying hu,Result.andThen_ok,Instr.slice,Option.isSome_none,Bool.false_eq_true,if_false,hb,Sem.run_pure],srep_sv rfl⟩
 ·rename_i e hu
  obtain ⟨rfl,_⟩:=srep_v hx
  cases hin:(P.info? e).isSome with
  | false=>rw [hin] at h;cases h
  | true=>
   rw [hin] at h
   simp only [Bool.not_true,cond_false] at h
   cases hc:cutS 0 lo hi mx with
   | none=>rw [hc] at h;cases h
   | some r=>
    obtain ⟨l,m,f⟩:=r
    rw [hc] at h
    obtain rfl:=Option.some.inj h
    obtain ⟨h0,h1,h2,h3,h4,h5,h6,h7⟩:=cutS_spec hc
    have hmx:mx.getD ((0:Nat):Int)=0:=by cases mx with | none=>rfl | some x=>have:=h4 x rfl;simp only [Option.getD_some];omega
    have hb:=bounds_run (P:=P) (w:=w) true 0 0 hl hh hm h0 h1 (by rw [hmx];exact h2) (by rw [hmx];simp) h3
    obtain ⟨ie,hie⟩:=Option.isSome_iff_exists.1 hin
    refine ⟨.slice none 0 0,?_,srep_sv rfl⟩
    have e1:(lo.getD 0).toNat=0:=by omega
    have e2:(hi.getD ((0:Nat):Int)).toNat=0:=by omega
    rw [hmx,e1,e2] at hb
    simp only [Instr.sliceAt,Sem.run_bind,run_underlying hu,Result.andThen_ok,Instr.slice,hb,run_sizeOf w hie,Sem.run_pure]
    rfl
 ·rename_i e sz n get hu
  cases hx with | t hx=>cases hx with | rows _ _ _ base cap vs hcap hlen hb' hcs=>
  exact cut_rows hu (.rows sz n get base cap vs hcap hlen hb' hcs) hcap hl hh hm h
 ·rename_i e sz n get hu
  cases hx with | full hx=>
  exact cut_rows hu hx (Nat.le_refl _) hl hh hm h
 ·cases h
end
section
variable {P:Program} {G:Gh} {w:World} {nt:Nat} {fr:Fr} {a:Act}
def mkV (P:Program) (t:TypeId) (vs:List Value):Value:=if isAggB P t then .agg vs.toArray else vs.getD 0 undef
theorem run_part_mk {t:TypeId} {d:TypeDesc} (ht:P.underlying t=some d) (vs:List Value) (o:Nat) (h:isAggB P t=false→o < vs.length):
  (part t vs.toArray o).run P w=.ok (mkV P t ((vs.drop o).take (P.cellsOf t))) w∨(isAggB P t=false∧P.cellsOf t=0):=by
 unfold part
 simp only [Sem.run_bind,run_isAgg t ht,Result.andThen_ok]
 unfold mkV
 cases e:isAggB P t
 ·by_cases hz:P.cellsOf t=0
  ·exact .inr ⟨rfl,hz⟩
  ·have:=h e
   left
   have h0:(vs.toArray)[o]?=some vs[o]:=by simp [this]
   simp only [Bool.false_eq_true,if_false,h0,Sem.run_pure]
   congr 1
   rw [List.getD_eq_getElem?_getD,List.getElem?_take,if_pos (by omega),List.getElem?_drop]
   simp [this]
 ·left
  simp only [if_true,Sem.run_bind,run_sizeOf_ok ht,Result.andThen_ok,Sem.run_pure]
  congr 2
  apply Array.ext'
  simp [Array.toList_extract,List.extract_eq_take_drop]
theorem eqCells_len:∀ {ks:List Nat} {xs ys:List S} {b:Bool},eqCells ks xs ys=some b→xs.length=ks.length∧ys.length=ks.length
 | [],[],[],_,_=>⟨rfl,rfl⟩
 | [],[],_::_,_,h=>by simp [eqCells] at h
 | [],_::_,_,_,h=>by simp [eqCells] at h
 | _::_,[],_,_,h=>by simp [eqCells] at h
 | _::_,_::_,[],_,h=>by simp [eqCells] at h
 | k::ks,x::xs,y::ys,b,h=>by
  simp only [eqCells,Option.bind_eq_some_iff,Option.map_eq_some_iff] at h
  obtain ⟨p,_,q,hq,_⟩:=h
  have:=eqCells_len hq
  simp [this.1,this.2]
theorem eqCells_split:∀ {k1 k2:List Nat} {xs ys:List S} {b:Bool},eqCells (k1++k2) xs ys=some b→
  ∃ p q,eqCells k1 (xs.take k1.length) (ys.take k1.length)=some p∧eqCells k2 (xs.drop k1.length) (ys.drop k1.length)=some q∧b=(p && q)
 | [],k2,xs,ys,b,h=>⟨true,b,by simp [eqCells],by simpa using h,by simp⟩
 | k::k1,k2,[],ys,b,h=>by simp [eqCells] at h
 | k::k1,k2,x::xs,[],b,h=>by simp [eqCells] at h
 | k::k1,k2,x::xs,y::ys,b,h=>by
  simp only [List.cons_append,eqCells,Option.bind_eq_some_iff,Option.map_eq_some_iff] at h
  obtain ⟨p,hp,q,hq,rfl⟩:=h
  obtain ⟨p',q',h1,h2,rfl⟩:=eqCells_split hq
  exact ⟨p && p',q',by simp [eqCells,hp,h1],by simpa using h2,by simp [Bool.and_assoc]⟩
def EqOk (P:Program) (D:Nat) (t:TypeId) (ks:List Nat):Prop:=
 ∀ (G:Gh) (w:World) (xs ys:List S) (vx vy:List Value) (b:Bool),LRep G w xs vx→LRep G w ys vy→eqCells ks xs ys=some b→(Op.equalIn D t (mkV P t vx) (mkV P t vy)).run P w=.ok b w
theorem one_cell {k:Nat} {xs ys:List S} {vx vy:List Value} {b:Bool} (hx:LRep G w xs vx) (hy:LRep G w ys vy) (h:eqCells [k] xs ys=some b):
  ∃ x y u v,xs=[x]∧ys=[y]∧vx=[u]∧vy=[v]∧SRep G w x u∧SRep G w y v∧eqCell k x y=some b:=by
 obtain ⟨l1,l2⟩:=eqCells_len h
 obtain ⟨x,rfl⟩:∃ x,xs=[x]:=List.length_eq_one_iff.1 l1
 obtain ⟨y,rfl⟩:∃ y,ys=[y]:=List.length_eq_one_iff.1 l2
 obtain ⟨u,r,rfl,hu,hr⟩:=hx.uncons
 obtain ⟨v,r',rfl,hv,hr'⟩:=hy.uncons
 obtain rfl:r=[]:=List.length_eq_zero_iff.1 hr.1.symm
 obtain rfl:r'=[]:=List.length_eq_zero_iff.1 hr'.1.symm
 simp only [eqCells,Option.bind_eq_some_iff,Option.map_eq_some_iff,Option.some.injEq] at h
 obtain ⟨p,hp,q,hq,rfl⟩:=h
 exact ⟨x,y,u,v,rfl,rfl,rfl,rfl,hu,hv,by rw [hp];simp [← hq]⟩
theorem eqOk_bool {D:Nat} {t:TypeId} (hu:P.underlying t=some .bool):EqOk P (D+1) t [0]:=fun G w xs ys vx vy b hx hy h=>by
 obtain ⟨x,y,u,v,rfl,rfl,rfl,rfl,h1,h2,h3⟩:=one_cell hx hy h
 have ha:isAggB P t=false:=by simp [isAggB,hu]
 simp only [mkV,ha,Bool.false_eq_true,if_false,List.getD_cons_zero]
 unfold eqCell at h3
 split at h3<;>first | (cases h3;done) | skip
 all_goals (try omega)
 obtain ⟨rfl,_⟩:=srep_v h1
 obtain ⟨rfl,_⟩:=srep_v h2
 obtain rfl:=Option.some.inj h3
 exact run_equalIn_bool w D t _ _ hu
theorem eqOk_int {D:Nat} {t:TypeId} {k0:IntKind} (hu:P.underlying t=some (.int k0)):EqOk P (D+1) t [1]:=fun G w xs ys vx vy b hx hy h=>by
 obtain ⟨x,y,u,v,rfl,rfl,rfl,rfl,h1,h2,h3⟩:=one_cell hx hy h
 have ha:isAggB P t=false:=by simp [isAggB,hu]
 simp only [mkV,ha,Bool.false_eq_true,if_false,List.getD_cons_zero]
 unfold eqCell at h3
 split at h3<;>first | (cases h3;done) | skip
 all_goals (try omega)
 rename_i k m k' n _
 obtain ⟨rfl,_⟩:=srep_v h1
 obtain ⟨rfl,_⟩:=srep_v h2
 by_cases e:k=k'
 ·subst e
  simp only [decide_true,cond_true,Option.some.injEq] at h3
  subst h3
  exact run_equalIn_int w D t k k0 m n hu
 ·simp [e] at h3
theorem eqOk_string {D:Nat} {t:TypeId} (hu:P.underlying t=some .string):EqOk P (D+1) t [2]:=fun G w xs ys vx vy b hx hy h=>by
 obtain ⟨x,y,u,v,rfl,rfl,rfl,rfl,h1,h2,h3⟩:=one_cell hx hy h
 have ha:isAggB P t=false:=by simp [isAggB,hu]
 simp only [mkV,ha,Bool.false_eq_true,if_false,List.getD_cons_zero]
 unfold eqCell at h3
 split at h3<;>first | (cases h3;done) | skip
 all_goals (try omega)
 rename_i m n _
 obtain ⟨rfl,_⟩:=srep_v h1
 obtain ⟨rfl,_⟩:=srep_v h2
 obtain rfl:=Option.some.inj h3
 rw [run_equalIn_string w D t _ _ hu]
 simp only [strEq,bytesEq_iff,Lib.toList_data]
theorem drop_take_rep {cs:List S} {vs:List Value} (h:LRep G w cs vs) (o n:Nat):LRep G w ((cs.drop o).take n) ((vs.drop o).take n):=(h.drop o).take n
theorem kinds_zero {t:TypeId} {ks:List Nat} (h:kindsOf P 0 t=some ks):False:=by simp [kindsOf] at h
theorem kinds_under {d:Nat} {t:TypeId} {ks:List Nat} (h:kindsOf P d t=some ks):∃ dd,P.underlying t=some dd:=by
 cases d with
 | zero=>exact (kinds_zero h).elim
 | succ d=>cases hu:P.underlying t with
  | some dd=>exact ⟨dd,rfl⟩
  | none=>simp [kindsOf,hu] at h
theorem kinds_ne {d:Nat} {t:TypeId} {ks:List Nat} (h:kindsOf P d t=some ks) (ha:isAggB P t=false):P.cellsOf t≠0:=fun hz=>by
 cases d with
 | zero=>exact (kinds_zero h).elim
 | succ d=>
  obtain ⟨dd,hd⟩:=kinds_under h
  unfold isAggB at ha
  rw [hd] at ha
  simp only [kindsOf,hd,hz] at h
  cases dd<;>simp only at h ha<;>first | (cases ha;done) | (cases h;done)
theorem eqOk_fields {d:Nat} (D:Nat) (ih:∀ t ks,kindsOf P d t=some ks→EqOk P D t ks) (G:Gh) (w:World) (X Y:List S) (VX VY:List Value) (hX:LRep G w X VX) (hY:LRep G w Y VY):∀ (fs:List Field) (o:Nat) (ks:List Nat) (b:Bool),
  kindsFields P (kindsOf P d) fs o=some ks→eqCells ks (X.drop o) (Y.drop o)=some b→(Op.eqFields D VX.toArray VY.toArray fs).run P w=.ok b w
 | [],o,ks,b,hk,h=>by
  obtain rfl:ks=[]:=by simpa [kindsFields] using hk.symm
  obtain ⟨l1,l2⟩:=eqCells_len h
  have e1:=List.length_eq_zero_iff.1 l1
  have e2:=List.length_eq_zero_iff.1 l2
  rw [e1,e2] at h
  obtain rfl:=Option.some.inj h
  simp [Op.eqFields]
 | f::fs,o,ks,b,hk,h=>by
  unfold kindsFields at hk
  cases e:f.name != "_" && f.offset.beq o with
  | false=>rw [e] at hk;cases hk
  | true=>
   rw [e,cond_true] at hk
   rw [Bool.and_eq_true] at e
   have hn:f.name ≠ "_" := by simpa using e.1
   have ho:f.offset=o:=Nat.eq_of_beq_eq_true e.2
   obtain ⟨k1,hk1,hk2⟩:=Option.bind_eq_some_iff.1 hk
   cases e3:k1.length.beq (P.cellsOf f.type) with
   | false=>rw [e3] at hk2;cases hk2
   | true=>
    rw [e3,cond_true] at hk2
    have hl:k1.length=P.cellsOf f.type:=Nat.eq_of_beq_eq_true e3
    obtain ⟨k2,hk3,rfl⟩:=Option.map_eq_some_iff.1 hk2
    obtain ⟨p,q,h1,h2,rfl⟩:=eqCells_split h
    have hlen:=eqCells_len h
    obtain ⟨dd,hd⟩:=kinds_under hk1
    have hXl:(X.drop o).length=VX.length - o:=by rw [← hX.1];simp
    have hYl:(Y.drop o).length=VY.length - o:=by rw [← hY.1];simp
    have hne:isAggB P f.type=false→P.cellsOf f.type≠0:=kinds_ne hk1
    have hxs:isAggB P f.type=false→o < VX.length:=fun ha=>by
     have:=hne ha
     have:=hlen.1
     simp only [List.length_append] at this
     omega
    have hys:isAggB P f.type=false→o < VY.length:=fun ha=>by
     have:=hne ha
     have:=hlen.2
     simp only [List.length_append] at this
     omega
    have hpx:=(run_part_mk (P:=P) (w:=w) hd VX o hxs).resolve_right (fun h=>hne h.1 h.2)
    have hpy:=(run_part_mk (P:=P) (w:=w) hd VY o hys).resolve_right (fun h=>hne h.1 h.2)
    rw [hl] at h1 h2
    have heq:=ih f.type k1 hk1 G w _ _ _ _ p (drop_take_rep hX o (P.cellsOf f.type)) (drop_take_rep hY o (P.cellsOf f.type)) h1
    have hrest:=eqOk_fields D ih G w X Y VX VY hX hY fs (o+P.cellsOf f.type) k2 q hk3 (by simpa [List.drop_drop] using h2)
    simp only [Op.eqFields,if_pos hn,ho,Sem.run_bind,hpx,hpy,Result.andThen_ok,heq,Sem.run_ite]
    cases p
    ·simp
    ·simp [hrest]
theorem eqOk_items {e:TypeId} (D:Nat) {ks:List Nat} (ih:EqOk P D e ks) (hl:ks.length=P.cellsOf e) {dd:TypeDesc} (hd:P.underlying e=some dd) (hne:isAggB P e=false→P.cellsOf e≠0) (G:Gh) (w:World) (X Y:List S) (VX VY:List Value) (hX:LRep G w X VX) (hY:LRep G w Y VY):∀ (m i:Nat) (b:Bool),
  eqCells (List.replicate m ks).flatten (X.drop (i*P.cellsOf e)) (Y.drop (i*P.cellsOf e))=some b→(Op.eqItems D e (P.cellsOf e) VX.toArray VY.toArray (List.range' i m)).run P w=.ok b w
 | 0,i,b,h=>by
  obtain ⟨l1,l2⟩:=eqCells_len h
  have e1:=List.length_eq_zero_iff.1 l1
  have e2:=List.length_eq_zero_iff.1 l2
  rw [e1,e2] at h
  obtain rfl:=Option.some.inj h
  simp [Op.eqItems]
 | m+1,i,b,h=>by
  rw [List.replicate_succ,List.flatten_cons] at h
  obtain ⟨p,q,h1,h2,rfl⟩:=eqCells_split h
  have hlen:=eqCells_len h
  have hXl:(X.drop (i*P.cellsOf e)).length=VX.length - i*P.cellsOf e:=by rw [← hX.1];simp
  have hYl:(Y.drop (i*P.cellsOf e)).length=VY.length - i*P.cellsOf e:=by rw [← hY.1];simp
  have hpx:=(run_part_mk (P:=P) (w:=w) hd VX (i*P.cellsOf e) (fun ha=>by have:=hne ha;have:=hlen.1;simp only [List.length_append] at this;omega)).resolve_right (fun h=>hne h.1 h.2)
  have hpy:=(run_part_mk (P:=P) (w:=w) hd VY (i*P.cellsOf e) (fun ha=>by have:=hne ha;have:=hlen.2;simp only [List.length_append] at this;omega)).resolve_right (fun h=>hne h.1 h.2)
  rw [hl] at h1 h2
  have heq:=ih G w _ _ _ _ p (drop_take_rep hX _ _) (drop_take_rep hY _ _) h1
  have hrest:=eqOk_items D ih hl hd hne G w X Y VX VY hX hY m (i+1) q (by simpa [List.drop_drop,Nat.add_mul] using h2)
  simp only [List.range'_succ,Op.eqItems,Sem.run_bind,hpx,hpy,Result.andThen_ok,heq,Sem.run_ite]
  cases p
  ·simp
  ·simp [hrest]
theorem eqOk_all:∀ (d:Nat) (t:TypeId) (ks:List Nat),kindsOf P d t=some ks→∀ D,d≤D→EqOk P D t ks
 | 0,_,_,h,_,_=>(kinds_zero h).elim
 | d+1,t,ks,h,D,hD=>by
  obtain ⟨D,rfl⟩:∃ m,D=m+1:=⟨D - 1,by omega⟩
  have ih:=fun t ks h=>eqOk_all d t ks h D (by omega)
  obtain ⟨dd,hd⟩:=kinds_under h
  simp only [kindsOf,hd] at h
  cases dd<;>simp only at h<;>first | (cases h;done) | skip
  case bool=>
   cases e:(P.cellsOf t).beq 1<;>rw [e] at h
   ·cases h
   ·obtain rfl:=Option.some.inj h;exact eqOk_bool hd
  case int k=>
   cases e:(P.cellsOf t).beq 1<;>rw [e] at h
   ·cases h
   ·obtain rfl:=Option.some.inj h;exact eqOk_int hd
  case string=>
   cases e:(P.cellsOf t).beq 1<;>rw [e] at h
   ·cases h
   ·obtain rfl:=Option.some.inj h;exact eqOk_string hd
  case array n e=>
   obtain ⟨k1,hk1,h⟩:=Option.bind_eq_some_iff.1 h
   cases e1:k1.length.beq (P.cellsOf e) && (P.info? e).isSome<;>rw [e1] at h
   ·cases h
   ·obtain rfl:=Option.some.inj h
    rw [Bool.and_eq_true] at e1
    obtain ⟨i,hi⟩:=Option.isSome_iff_exists.1 e1.2
    obtain ⟨d2,hd2⟩:=kinds_under hk1
    intro G w xs ys vx vy b hx hy hb
    have ha:isAggB P t=true:=by simp [isAggB,hd]
    simp only [mkV,ha,if_true]
    rw [run_equalIn_array w D vx.toArray vy.toArray hd hi]
    have:=eqOk_items D (ih e k1 hk1) (Nat.eq_of_beq_eq_true e1.1) hd2 (kinds_ne hk1) G w xs ys vx vy hx hy n 0 b (by simpa using hb)
    simpa [List.range_eq_range'] using this
  case struct fs=>
   cases e:P.stoodInHeld t<;>rw [e] at h
   ·simp only [cond_false] at h
    intro G w xs ys vx vy b hx hy hb
    have ha:isAggB P t=true:=by simp [isAggB,hd]
    have hf:P.fieldsOf t=fs:=by simp [Program.fieldsOf,hd]
    simp only [mkV,ha,if_true]
    rw [run_equalIn_struct w D t vx.toArray vy.toArray (by rw [hf];exact hd) e,hf]
    exact eqOk_fields D ih G w xs ys vx vy hx hy fs.toList 0 ks b h (by simpa using hb)
   ·cases h
end
section
variable {P:Program} {G:Gh} {w:World} {nt:Nat} {fr:Fr} {a:Act}
def GuardOk (P:Program) (t:TypeId) (x y:Operand):Value→Value→Prop
 | .nilIface,.nilIface=>isConst x=true∨isConst y=true
 | .agg _,.agg _=>P.eqGuardType P.depth t=false
 | _,_=>True
theorem eqGuard_ok {op:BinOp} {t:TypeId} {x y:Operand} {u v:Value} (h:GuardOk P t x y u v):(eqGuard op t x y u v).run P w=.ok () w:=by
 have key:∀ (o:BinOp),(o=.eql∨o=.neq)→(eqGuard o t x y u v).run P w=.ok () w:=by
  intro o ho
  unfold eqGuard
  rcases ho with rfl | rfl<;>(rw [Sem.run_ite,if_neg (by simp)])<;>cases u<;>cases v<;>first
   | rfl
   | (simp only [GuardOk] at h
      rcases h with h | h
      ·cases x<;>first | rfl | (cases h;done)
      ·cases y<;>first | (cases x<;>rfl) | (cases h;done))
   | (simp only [GuardOk] at h
      simp [h])
 cases op<;>first | exact key _ (.inl rfl) | exact key _ (.inr rfl) | rfl
theorem equal_nil {t e:TypeId} (hu:P.underlying t=some (.slice e)) (a b c d:Nat):(Op.equal t (.slice none a b) (.slice none c d)).run P w=.ok true w:=by
 have key:∀ D,(Op.equalIn (D+1) t (.slice none a b) (.slice none c d)).run P w=_:=fun D=>by
  simp only [Op.equalIn,Sem.run_bind,run_underlying hu,Result.andThen_ok,Sem.run_pure,Option.isNone_none]
  rfl
 exact key 9999
theorem equal_if {t:TypeId} {ms:Array (String × TypeId)} (hu:P.underlying t=some (.interface ms)):(Op.equal t .nilIface .nilIface).run P w=.ok true w:=by
 have key:∀ D,(Op.equalIn (D+1) t .nilIface .nilIface).run P w=_:=fun D=>by
  simp only [Op.equalIn,Sem.run_bind,run_underlying hu,Result.andThen_ok,Sem.run_pure]
  rfl
 exact key 9999
theorem equal_if1 {t u:TypeId} {v:Value} {ms:Array (String × TypeId)} (hu:P.underlying t=some (.interface ms)):(Op.equal t .nilIface (.iface u v)).run P w=.ok false w:=by
 have key:∀ D,(Op.equalIn (D+1) t .nilIface (.iface u v)).run P w=_:=fun D=>by
  simp only [Op.equalIn,Sem.run_bind,run_underlying hu,Result.andThen_ok,Sem.run_pure]
  rfl
 exact key 9999
theorem equal_if2 {t u:TypeId} {v:Value} {ms:Array (String × TypeId)} (hu:P.underlying t=some (.interface ms)):(Op.equal t (.iface u v) .nilIface).run P w=.ok false w:=by
 have key:∀ D,(Op.equalIn (D+1) t (.iface u v) .nilIface).run P w=_:=fun D=>by
  simp only [Op.equalIn,Sem.run_bind,run_underlying hu,Result.andThen_ok,Sem.run_pure]
  rfl
 exact key 9999
theorem isAgg_mkV {t:TypeId} (h:isAggB P t=true) (vs:Array Value):mkV P t vs.toList=.agg vs:=by simp [mkV,h]
theorem binS_run {K:TypeId→Option (List Nat)} (hK:KOk P K) {op:BinOp} {t:TypeId} {x y:Operand} {sx sy s:S} {u v:Value} (hx:SRep G w sx u) (hy:SRep G w sy v) (h:binS P K (isConst x || isConst y) op t sx sy=some s):
  ∃ r,(do eqGuard op t x y u v;binOp op t u v:Sem Value).run P w=.ok r w∧SRep G w s r:=by
 have go:∀ {r:Value},GuardOk P t x y u v→(binOp op t u v).run P w=.ok r w→SRep G w s r→
   ∃ r,(do eqGuard op t x y u v;binOp op t u v:Sem Value).run P w=.ok r w∧SRep G w s r:=fun {r} h1 h2 h3=>
  ⟨r,by rw [Sem.run_bind,eqGuard_ok h1,Result.andThen_ok];exact h2,h3⟩
 unfold binS at h
 split at h
 ·rename_i k m k' n
  obtain ⟨rfl,_⟩:=srep_v hx
  obtain ⟨rfl,_⟩:=srep_v hy
  obtain ⟨r,hr,rfl⟩:=Option.map_eq_some_iff.1 h
  have:(binOp op t (.int k m) (.int k' n)).run P w=.ok r w∧r.oneCell'=true:=by
   by_cases hs:op=.shl∨op=.shr
   ·rcases hs with rfl | rfl<;>exact binShift_run _ t k k' m n hr
   ·have hr':(bif decide (k=k') then binInt op k m n else none)=some r:=by
     cases op<;>first | exact hr | (simp at hs)
    by_cases e:k=k'
    ·subst e
     simp only [decide_true,cond_true] at hr'
     exact binInt_run op t k m n hr' ⟨fun e=>hs (.inl e),fun e=>hs (.inr e)⟩
    ·simp [e] at hr'
  exact go trivial this.1 (srep_sv this.2)
 ·rename_i m n
  obtain ⟨rfl,_⟩:=srep_v hx
  obtain ⟨rfl,_⟩:=srep_v hy
  obtain ⟨r,hr,rfl⟩:=Option.map_eq_some_iff.1 h
  have:=binStr_run (P:=P) (w:=w) op t m n hr
  exact go trivial this.1 (srep_sv this.2)
 ·obtain ⟨rfl,_⟩:=srep_v hx
  obtain ⟨rfl,_⟩:=srep_v hy
  unfold binS.nilEq at h
  split at h
  ·rename_i e hu
   obtain rfl:=Option.some.inj h
   exact go trivial (by simp only [binOp,Sem.run_bind,equal_nil hu,Result.andThen_ok,Sem.run_pure]) (srep_sv rfl)
  ·rename_i e hu
   obtain rfl:=Option.some.inj h
   exact go trivial (by simp only [binOp,Sem.run_bind,equal_nil hu,Result.andThen_ok,Sem.run_pure]) (srep_sv rfl)
  ·cases h
 ·obtain ⟨rfl,_⟩:=srep_v hx
  cases hy with | nn t' v'=>
  unfold binS.nilIf at h
  split at h
  ·rename_i e hu
   obtain rfl:=Option.some.inj h
   exact go trivial (by simp only [binOp,Sem.run_bind,equal_if1 hu,Result.andThen_ok,Sem.run_pure]) (srep_sv rfl)
  ·rename_i e hu
   obtain rfl:=Option.some.inj h
   exact go trivial (by simp only [binOp,Sem.run_bind,equal_if1 hu,Result.andThen_ok,Sem.run_pure]) (srep_sv rfl)
  ·cases h
 ·obtain ⟨rfl,_⟩:=srep_v hy
  cases hx with | nn t' v'=>
  unfold binS.nilIf at h
  split at h
  ·rename_i e hu
   obtain rfl:=Option.some.inj h
   exact go trivial (by simp only [binOp,Sem.run_bind,equal_if2 hu,Result.andThen_ok,Sem.run_pure]) (srep_sv rfl)
  ·rename_i e hu
   obtain rfl:=Option.some.inj h
   exact go trivial (by simp only [binOp,Sem.run_bind,equal_if2 hu,Result.andThen_ok,Sem.run_pure]) (srep_sv rfl)
  ·cases h
 ·obtain ⟨rfl,_⟩:=srep_v hy
  obtain ⟨rfl,_⟩:=srep_v hx
  cases hl:isConst x || isConst y with
  | false=>rw [hl] at h;cases h
  | true=>
   rw [hl,cond_true] at h
   have hl':isConst x=true∨isConst y=true:=by simpa using hl
   unfold binS.nilIf at h
   split at h
   ·rename_i e hu
    obtain rfl:=Option.some.inj h
    exact go hl' (by simp only [binOp,Sem.run_bind,equal_if hu,Result.andThen_ok,Sem.run_pure]) (srep_sv rfl)
   ·rename_i e hu
    obtain rfl:=Option.some.inj h
    exact go hl' (by simp only [binOp,Sem.run_bind,equal_if hu,Result.andThen_ok,Sem.run_pure]) (srep_sv rfl)
   ·cases h
 ·rename_i xs ys
  obtain ⟨vx,rfl,hvx⟩:=srep_agg' hx
  obtain ⟨vy,rfl,hvy⟩:=srep_agg' hy
  split at h
  ·rename_i ks hks
   obtain ⟨hk,h1,h2⟩:=hK t ks hks
   obtain ⟨b,hb,rfl⟩:=Option.map_eq_some_iff.1 h
   have:=eqOk_all 20 t ks hk Op.maxDepth (by decide) G w xs ys _ _ b hvx hvy hb
   rw [isAgg_mkV h1,isAgg_mkV h1] at this
   exact go h2 (by simp only [binOp,Sem.run_bind,Op.equal,this,Result.andThen_ok,Sem.run_pure]) (srep_sv rfl)
  ·rename_i ks hks
   obtain ⟨hk,h1,h2⟩:=hK t ks hks
   obtain ⟨b,hb,rfl⟩:=Option.map_eq_some_iff.1 h
   have:=eqOk_all 20 t ks hk Op.maxDepth (by decide) G w xs ys _ _ b hvx hvy hb
   rw [isAgg_mkV h1,isAgg_mkV h1] at this
   exact go h2 (by simp only [binOp,Sem.run_bind,Op.equal,this,Result.andThen_ok,Sem.run_pure]) (srep_sv rfl)
  ·cases h
 ·rename_i m n
  obtain ⟨rfl,_⟩:=srep_v hx
  obtain ⟨rfl,_⟩:=srep_v hy
  split at h
  ·rename_i hu
   obtain rfl:=Option.some.inj h
   exact go trivial (run_eql_bool w t m n hu) (srep_sv rfl)
  ·rename_i hu
   obtain rfl:=Option.some.inj h
   exact go trivial (run_neq_bool w t m n hu) (srep_sv rfl)
  ·cases h
 ·cases h
end
section
variable {P:Program} {G:Gh} {w:World} {nt:Nat} {fr:Fr} {a:Act}
theorem addr_add (r o k:Nat):(⟨r,o,none⟩:Addr).add k=⟨r,o+k,none⟩:=by
 unfold Addr.add
 split
 ·rename_i h;subst h;rfl
 ·rfl
theorem valS_spec {t:TypeId} {cs:List S} {s:S} (h:valS P t cs=some s):∃ d,P.underlying t=some d∧takeS (isAggB P t) (P.cellsOf t) cs=some s:=by
 unfold valS at h
 split at h
 ·rename_i d hd;exact ⟨d,hd,h⟩
 ·cases h
theorem cellsAt_drop {I:Nat→Prop} {r o:Nat} {cs:List T} (h:CellsAt w I ⟨r,o,none⟩ cs) (n:Nat):CellsAt w I ⟨r,o+n,none⟩ (cs.drop n):=fun k c hc=>by
 rw [List.getElem?_drop] at hc
 have:=h (n+k) c hc
 simp only [Nat.add_assoc] at this ⊢
 exact this
theorem elemS_rep {n sz:Nat} {get:Fin n→List T} {base:Option Addr} {cap:Nat} {i:Int} {s:S} (hx:TRep w G.imm (.rows sz n get) (.slice base n cap)) (h:elemS n get i=some s):
  ∃ r o,base=some ⟨r,o,none⟩∧0≤i∧i < n∧SRep G w s (.pointer (some ⟨r,o+i.toNat*sz,none⟩)):=by
 unfold elemS at h
 split at h
 ·rename_i hi
  obtain rfl:=Option.some.inj h
  cases hx with | rows _ _ _ _ _ vs hcap hlen hb hc=>
  obtain ⟨r,o,e,hr,hcell⟩:=hb (by omega)
  refine ⟨r,o,e,hi.1,by omega,.pt hr fun k c hk=>⟨_,?_,hc ⟨i.toNat,hi.2⟩ k c hk⟩⟩
  exact hcell ⟨i.toNat,hi.2⟩ k c hk
 ·cases h
theorem indexAt_slice {t e:TypeId} {base:Addr} {n cap:Nat} {k:IntKind} {i:Int} {ie:TypeInfo} (hu:P.underlying t=some (.slice e)) (hie:P.info? e=some ie) (h0:0≤i) (h1:i < n):
  (Instr.indexAt t (.slice (some base) n cap) (.int k i)).run P w=.ok (.pointer (some (base.add (i.toNat*P.cellsOf e)))) w:=by
 simp only [Instr.indexAt,asIntOf,Sem.run_bind,Sem.run_pure,Result.andThen_ok,run_underlying hu,if_pos (And.intro h0 h1),run_sizeOf w hie,Bool.and_false]
theorem indexAt_array {t e:TypeId} {base:Addr} {n:Nat} {k:IntKind} {i:Int} {ie:TypeInfo} (hu:P.underlying t=some (.array n e)) (hie:P.info? e=some ie) (h0:0≤i) (h1:i < n):
  (Instr.indexAt t (.pointer (some base)) (.int k i)).run P w=.ok (.pointer (some (base.add (i.toNat*P.cellsOf e)))) w:=by
 simp only [Instr.indexAt,asIntOf,Sem.run_bind,Sem.run_pure,Result.andThen_ok,run_underlying hu,Instr.sureAddr,if_pos (And.intro h0 h1),run_sizeOf w hie]
theorem fieldAt_run {t:TypeId} {f o:Nat} {ft:TypeId} {r k:Nat} (h:fieldOf P t f=some (o,ft)):(Instr.fieldAt t (.pointer (some ⟨r,k,none⟩)) f).run P w=.ok (.pointer (some ⟨r,k+o,none⟩)) w:=by
 obtain ⟨fs,x,hu,hx,rfl,rfl,hne⟩:=fieldOf_spec h
 obtain ⟨i,hi⟩:∃ i,P.info? x.type=some i:=by
  cases e:P.info? x.type with
  | some i=>exact ⟨i,rfl⟩
  | none=>simp [Program.cellsOf,e] at hne
 simp only [Instr.fieldAt,Sem.run_bind,run_underlying hu,Result.andThen_ok,hx,Instr.sureAddr,Sem.run_pure,fieldPlace,run_sizeOf w hi,if_neg hne,addr_add]
theorem minS_run {mx:Bool} {x y s:S} {u v:Value} (hx:SRep G w x u) (hy:SRep G w y v) (h:minS mx x y=some s):∃ r,((if mx then Builtin.max2 u v else Builtin.min2 u v)).run P w=.ok r w∧SRep G w s r:=by
 unfold minS at h
 split at h
 ·rename_i k m k' n
  obtain ⟨rfl,_⟩:=srep_v hx
  obtain ⟨rfl,_⟩:=srep_v hy
  obtain rfl:=Option.some.inj h
  refine ⟨_,?_,srep_sv rfl⟩
  cases mx
  ·simp only [Bool.false_eq_true,if_false,Builtin.min2,Sem.run_pure,cond_false]
   by_cases e:n < m<;>simp [e]
  ·simp only [if_true,Builtin.max2,Sem.run_pure,cond_true]
   by_cases e:n > m<;>simp [e]
 ·cases h
theorem foldS_run {mx:Bool}:∀ {xs:List S} {vs:List Value} {x s:S} {u:Value},SRep G w x u→LRep G w xs vs→foldS (minS mx) x xs=some s→
  ∃ r,(vs.foldlM (fun a b=>if mx then Builtin.max2 a b else Builtin.min2 a b) u).run P w=.ok r w∧SRep G w s r
 | [],vs,x,s,u,hx,hl,h=>by
  obtain rfl:vs=[]:=List.length_eq_zero_iff.1 hl.1.symm
  obtain rfl:=Option.some.inj h
  exact ⟨u,rfl,hx⟩
 | y::ys,vs,x,s,u,hx,hl,h=>by
  obtain ⟨v,r,rfl,hv,hr⟩:=hl.uncons
  obtain ⟨z,hz,h⟩:=Option.bind_eq_some_iff.1 h
  obtain ⟨q,hq,hzq⟩:=minS_run (P:=P) hx hv hz
  obtain ⟨q',h1,h2⟩:=foldS_run hzq hr h
  exact ⟨q',by rw [List.foldlM_cons,Sem.run_bind,hq,Result.andThen_ok];exact h1,h2⟩
theorem map_rep (hf:FRep nt G w fr a) (xs:List Operand):LRep G w (xs.map (ev fr)) (xs.map a.eval):=by
 induction xs with
 | nil=>exact .nil
 | cons x r ih=>exact .cons (hf.ev x) ih
theorem pureOp_run {K:TypeId→Option (List Nat)} (hK:KOk P K) (hf:FRep nt G w fr a) {o:Oper} {s:S} (h:pureOp P K fr o.op=some s):∃ v,(execOp a.eval o).run P w=.ok (.value v) w∧SRep G w s v:=by
 obtain ⟨dst,op,type,pos,after,guard⟩:=o
 simp only at h
 have wrap:∀ {q:Sem Value} {r:Value},q.run P w=.ok r w→(do pure (.value (← q)):Sem Next).run P w=.ok (.value r) w:=fun hq=>by
  rw [Sem.run_bind,hq];rfl
 cases op with
 | move x=>obtain rfl:=Option.some.inj h;exact ⟨_,rfl,hf.ev x⟩
 | assign x=>obtain rfl:=Option.some.inj h;exact ⟨_,rfl,hf.ev x⟩
 | pick c x y=>
  simp only [pureOp] at h
  split at h
  ·rename_i p hp
   obtain rfl:=Option.some.inj h
   have hc:=hf.ev c
   rw [hp] at hc
   obtain ⟨hv,_⟩:=srep_v hc
   refine ⟨if p then a.eval x else a.eval y,?_,pickS_rep (hf.ev x) (hf.ev y)⟩
   simp only [execOp,hv,asBool,Sem.run_bind,Sem.run_pure,Result.andThen_ok]
  ·cases h
 | build t parts=>
  simp only [pureOp] at h
  obtain ⟨v,hv,hs⟩:=buildS_run (P:=P) (G:=G) (w:=w) (vparts:=parts.map fun (i,x)=>(i,a.eval x)) (by simp) (fun i p q h1 h2=>by
   simp only [List.getElem?_map,Array.getElem?_toList] at h1
   simp only [Array.getElem?_map] at h2
   cases hp:parts[i]? with
   | none=>rw [hp] at h1;cases h1
   | some pq=>
    rw [hp] at h1 h2
    obtain rfl:=Option.some.inj h1
    obtain rfl:=Option.some.inj h2
    exact ⟨rfl,hf.ev _⟩) h
  exact ⟨v,wrap hv,hs⟩
 | nilCheck x=>
  simp only [pureOp] at h
  have hx:=hf.ev x
  split at h<;>first | (cases h;done) | skip
  all_goals (rename_i hx';rw [hx'] at hx;obtain rfl:=Option.some.inj h;generalize hv:a.eval x=vv at hx;cases hx)
  ·exact ⟨_,by simp only [execOp,hv];rfl,.pt ‹_› ‹_›⟩
  ·exact ⟨_,by simp only [execOp,hv];rfl,.ptr ‹_›⟩
  ·exact ⟨_,by simp only [execOp,hv];rfl,.ep ‹_›⟩
 | binOp op t x y yt=>
  simp only [pureOp] at h
  obtain ⟨r,hr,hs⟩:=binS_run hK (hf.ev x) (hf.ev y) h
  exact ⟨r,wrap hr,hs⟩
 | unOp op t x=>
  simp only [pureOp] at h
  obtain ⟨r,hr,hs⟩:=unS_run (hf.ev x) h
  exact ⟨r,wrap hr,hs⟩
 | makeFunc f first cap=>
  simp only [pureOp] at h
  cases e:first.size.beq 0 && cap.size.beq 0 with
  | true=>
   rw [e,cond_true] at h
   obtain rfl:=Option.some.inj h
   rw [Bool.and_eq_true] at e
   have h1:first=#[]:=Array.eq_empty_of_size_eq_zero (Nat.eq_of_beq_eq_true e.1)
   have h2:cap=#[]:=Array.eq_empty_of_size_eq_zero (Nat.eq_of_beq_eq_true e.2)
   subst h1;subst h2
   exact ⟨.func f #[] #[],by simp [execOp,Instr.makeFunc],srep_sv rfl⟩
  | false=>
   rw [e,cond_false] at h
   obtain rfl:=Option.some.inj h
   refine ⟨.func f (first.map a.eval) (cap.map a.eval),rfl,.fn (by simp) (fun i s v h1 h2=>?_) (by simp) (fun i s v h1 h2=>?_)⟩
   ·exact (map_rep hf first.toList).2 i s v h1 (by simpa using h2)
   ·exact (map_rep hf cap.toList).2 i s v h1 (by simpa using h2)
 | slice t x lo hi mx=>
  simp only [pureOp,Option.bind_eq_some_iff] at h
  obtain ⟨l,hl,hh,hhi,m,hm,h⟩:=h
  obtain ⟨r,hr,hs⟩:=sliceS_run (hf.ev x) (optInt_rep hf hl) (optInt_rep hf hhi) (optInt_rep hf hm) h
  exact ⟨r,wrap hr,hs⟩
 | fieldAddr t x f=>
  simp only [pureOp] at h
  have hx:=hf.ev x
  split at h<;>first | (cases h;done) | skip
  all_goals (rename_i hfo hx';rw [hx'] at hx;obtain rfl:=Option.some.inj h;generalize hv:a.eval x=vv at hx;cases hx)
  ·exact ⟨_,wrap (by rw [hv];exact fieldAt_run hfo),.pt ‹_› (cellsAt_drop ‹_› _)⟩
  ·exact ⟨_,wrap (by rw [hv];exact fieldAt_run hfo),.ptr ‹_›⟩
  ·exact ⟨_,wrap (by rw [hv];exact fieldAt_run hfo),by rw [Nat.add_assoc];exact .ep ‹_›⟩
 | field t x f=>
  simp only [pureOp] at h
  have hx:=hf.ev x
  split at h
  ·rename_i o ft cs hfo hx'
   rw [hx'] at hx
   obtain ⟨vs,hv,hr⟩:=srep_agg' hx
   obtain ⟨d,hd,ht⟩:=valS_spec h
   obtain ⟨fs,y,hu,hy,rfl,rfl,hne⟩:=fieldOf_spec hfo
   obtain ⟨r,hr',hs⟩:=run_part_ok hd hr ht
   refine ⟨r,wrap ?_,hs⟩
   simp only [hv,Instr.field,Sem.run_bind,run_underlying hu,Result.andThen_ok,hy,asAgg,Sem.run_pure,hr']
  ·cases h
 | index t x ix=>
  simp only [pureOp] at h
  have hx:=hf.ev x
  have hix:=hf.ev ix
  split at h
  ·rename_i n e cs i hu hx' hi
   rw [hx'] at hx
   obtain ⟨vs,hv,hr⟩:=srep_agg' hx
   obtain ⟨k,hk⟩:=intOfS_spec hix hi
   cases e0:decide (0≤i) && decide (i < n) with
   | false=>rw [e0] at h;cases h
   | true=>
    rw [e0,cond_true] at h
    simp only [Bool.and_eq_true,decide_eq_true_eq] at e0
    obtain ⟨d,hd,ht⟩:=valS_spec h
    obtain ⟨r,hr',hs⟩:=run_part_ok hd hr ht
    refine ⟨r,wrap ?_,hs⟩
    simp only [hv,hk,Instr.index,asIntOf,Sem.run_bind,Sem.run_pure,run_underlying hu,Result.andThen_ok,if_pos e0,run_sizeOf_ok hd,hr']
  ·rename_i str i hu hx' hi
   rw [hx'] at hx
   obtain ⟨hv,_⟩:=srep_v hx
   obtain ⟨k,hk⟩:=intOfS_spec hix hi
   split at h
   ·rename_i hb
    obtain rfl:=Option.some.inj h
    refine ⟨_,wrap ?_,srep_sv rfl⟩
    have:str[i.toNat]?=some (str[i.toNat]'hb.2):=by simp [hb.2]
    simp only [hv,hk,Instr.index,asIntOf,Sem.run_bind,Sem.run_pure,run_underlying hu,Result.andThen_ok,if_pos hb.1,this]
   ·cases h
  ·cases h
 | indexAddr t x ix=>
  simp only [pureOp] at h
  have hx:=hf.ev x
  have hix:=hf.ev ix
  split at h<;>first | (cases h;done) | skip
  ·rename_i e sz n get i hu hx' hi
   rw [hx'] at hx
   obtain ⟨k,hk⟩:=intOfS_spec hix hi
   cases e0:sz.beq (P.cellsOf e) && (P.info? e).isSome with
   | false=>rw [e0] at h;cases h
   | true=>
    rw [e0,cond_true] at h
    simp only [Bool.and_eq_true] at e0
    obtain ⟨ie,hie⟩:=Option.isSome_iff_exists.1 e0.2
    have hsz:=Nat.eq_of_beq_eq_true e0.1
    generalize hv:a.eval x=vv at hx
    cases hx with | t hx=>
    have hx2:=hx
    cases hx with | rows _ _ _ base cap vs hcap hlen hb hc=>
    obtain ⟨r,o,rfl,h0,h1,hs⟩:=elemS_rep hx2 h
    refine ⟨_,wrap ?_,hs⟩
    rw [hv,hk,indexAt_slice hu hie h0 h1,addr_add,hsz]
  ·rename_i e sz n get i hu hx' hi
   rw [hx'] at hx
   obtain ⟨k,hk⟩:=intOfS_spec hix hi
   cases e0:sz.beq (P.cellsOf e) && (P.info? e).isSome with
   | false=>rw [e0] at h;cases h
   | true=>
    rw [e0,cond_true] at h
    simp only [Bool.and_eq_true] at e0
    obtain ⟨ie,hie⟩:=Option.isSome_iff_exists.1 e0.2
    have hsz:=Nat.eq_of_beq_eq_true e0.1
    generalize hv:a.eval x=vv at hx
    cases hx with | full hx=>
    obtain ⟨r,o,rfl,h0,h1,hs⟩:=elemS_rep hx h
    refine ⟨_,wrap ?_,hs⟩
    rw [hv,hk,indexAt_slice hu hie h0 h1,addr_add,hsz]
  ·rename_i e b n i hu hx' hi
   rw [hx'] at hx
   obtain ⟨k,hk⟩:=intOfS_spec hix hi
   cases e0:(P.info? e).isSome && decide (0≤i) && decide (i < n) with
   | false=>rw [e0] at h;cases h
   | true=>
    rw [e0,cond_true] at h
    simp only [Bool.and_eq_true,decide_eq_true_eq] at e0
    obtain ⟨ie,hie⟩:=Option.isSome_iff_exists.1 e0.1.1
    obtain rfl:=Option.some.inj h
    generalize hv:a.eval x=vv at hx
    cases hx with | sl hmu hb=>
    obtain ⟨r,rfl⟩:=hb (by omega)
    refine ⟨_,wrap ?_,.ep hmu⟩
    rw [hv,hk,indexAt_slice hu hie e0.1.2 e0.2,addr_add,Nat.zero_add,Nat.add_zero]
  ·rename_i n e b o i hu hx' hi
   rw [hx'] at hx
   obtain ⟨k,hk⟩:=intOfS_spec hix hi
   cases e0:(P.info? e).isSome && decide (0≤i) && decide (i < n) with
   | false=>rw [e0] at h;cases h
   | true=>
    rw [e0,cond_true] at h
    simp only [Bool.and_eq_true,decide_eq_true_eq] at e0
    obtain ⟨ie,hie⟩:=Option.isSome_iff_exists.1 e0.1.1
    obtain rfl:=Option.some.inj h
    generalize hv:a.eval x=vv at hx
    cases hx with | ptr hmu=>
    refine ⟨_,wrap ?_,.ptr hmu⟩
    rw [hv,hk,indexAt_array hu hie e0.1.2 e0.2,addr_add]
  ·rename_i n e cs i hu hx' hi
   rw [hx'] at hx
   obtain ⟨k,hk⟩:=intOfS_spec hix hi
   cases e0:(P.info? e).isSome && decide (0≤i) && decide (i < n) with
   | false=>rw [e0] at h;cases h
   | true=>
    rw [e0,cond_true] at h
    simp only [Bool.and_eq_true,decide_eq_true_eq] at e0
    obtain ⟨ie,hie⟩:=Option.isSome_iff_exists.1 e0.1.1
    obtain rfl:=Option.some.inj h
    generalize hv:a.eval x=vv at hx
    cases hx with | pt hi' hc=>
    refine ⟨_,wrap ?_,.pt hi' (cellsAt_drop hc _)⟩
    rw [hv,hk,indexAt_array hu hie e0.1.2 e0.2,addr_add]
  ·rename_i n e b z j o i hu hx' hi
   rw [hx'] at hx
   obtain ⟨k,hk⟩:=intOfS_spec hix hi
   cases e0:(P.info? e).isSome && decide (0≤i) && decide (i < n) with
   | false=>rw [e0] at h;cases h
   | true=>
    rw [e0,cond_true] at h
    simp only [Bool.and_eq_true,decide_eq_true_eq] at e0
    obtain ⟨ie,hie⟩:=Option.isSome_iff_exists.1 e0.1.1
    obtain rfl:=Option.some.inj h
    generalize hv:a.eval x=vv at hx
    cases hx with | ep hmu=>
    refine ⟨_,wrap ?_,.ep hmu⟩
    rw [hv,hk,indexAt_array hu hie e0.1.2 e0.2,addr_add,Nat.add_assoc]
 | extract x i=>
  simp only [pureOp] at h
  have hx:=hf.ev x
  split at h
  ·rename_i vs hx'
   rw [hx'] at hx
   obtain ⟨us,hv,hl,hr⟩:=srep_tup hx
   have hlt:i < us.size:=by rw [← hl];exact (List.getElem?_eq_some_iff.1 h).1
   have hu:us[i]?=some us[i]:=by simp [hlt]
   exact ⟨us[i],wrap (by rw [hv];simp only [Instr.extract,hu,Sem.run_pure]),hr i s _ h hu⟩
  ·cases h
 | call c=>
  obtain ⟨callee,args,argTypes⟩:=c
  cases callee with
  | value f=>cases h
  | invoke r m=>cases h
  | builtin b=>
   have hl:=map_rep hf args.toList
   have harg:(args.map a.eval).toList=args.toList.map a.eval:=by simp
   cases b<;>simp only [pureOp] at h<;>first | (cases h;done) | skip
   case len=>
    split at h
    ·rename_i x t hx ht
     cases e0:lenFits P t x with
     | false=>rw [e0] at h;cases h
     | true=>
      rw [e0,cond_true] at h
      obtain ⟨n,hn,rfl⟩:=Option.map_eq_some_iff.1 h
      rw [hx] at hl
      obtain ⟨v,r,hv,hxv,hr⟩:=hl.uncons
      obtain rfl:r=[]:=List.length_eq_zero_iff.1 hr.1.symm
      have hargs:args.map a.eval=#[v]:=Array.ext' (by rw [harg,hv])
      refine ⟨.int .i64 n,?_,srep_sv rfl⟩
      have:=lenS_run (P:=P) (w:=w) (ts:=argTypes) (ty:=type) hxv hn ht e0
      simp only [execOp,resolve,Sem.run_bind,Sem.run_pure,Result.andThen_ok,invoke,builtin,hargs,this]
    ·cases h
   case max=>
    split at h
    ·rename_i x r hx
     rw [hx] at hl
     obtain ⟨v,vs,hv,hxv,hr⟩:=hl.uncons
     have hargs:(args.map a.eval).toList=v::vs:=by rw [harg,hv]
     obtain ⟨q,hq,hs⟩:=foldS_run (P:=P) hxv hr h
     refine ⟨q,?_,hs⟩
     simp only [if_true] at hq
     simp only [execOp,resolve,Sem.run_bind,Sem.run_pure,Result.andThen_ok,invoke,builtin,Builtin.max_,hargs,hq]
    ·cases h
   case min=>
    split at h
    ·rename_i x r hx
     rw [hx] at hl
     obtain ⟨v,vs,hv,hxv,hr⟩:=hl.uncons
     have hargs:(args.map a.eval).toList=v::vs:=by rw [harg,hv]
     obtain ⟨q,hq,hs⟩:=foldS_run (P:=P) hxv hr h
     refine ⟨q,?_,hs⟩
     simp only [Bool.false_eq_true,if_false] at hq
     simp only [execOp,resolve,Sem.run_bind,Sem.run_pure,Result.andThen_ok,invoke,builtin,Builtin.min_,hargs,hq]
    ·cases h
 | _=>cases h
end
section
variable {P:Program} {G:Gh} {w w0:World} {nt B0:Nat} {fr:Fr} {a:Act} {h:Heap}
def CRep (G:Gh) (w:World) (r o:Nat) (cs:List S):Prop:=∀ (k:Nat) (s:S),cs[k]?=some s→∃ v,w.cell? ⟨r,o+k,none⟩=some v∧SRep G w s v
theorem CRep.drop {r o:Nat} {cs:List S} (h:CRep G w r o cs) (n:Nat):CRep G w r (o+n) (cs.drop n):=fun k s hk=>by
 rw [List.getElem?_drop] at hk
 have:=h (n+k) s hk
 rwa [← Nat.add_assoc] at this
theorem CRep.vals {r o:Nat} {cs:List S} (h:CRep G w r o cs):∃ vs:List Value,LRep G w cs vs∧∀ k v,vs[k]?=some v→w.cell? ⟨r,o+k,none⟩=some v:=by
 induction cs generalizing o with
 | nil=>exact ⟨[],.nil,fun k v hk=>by simp at hk⟩
 | cons s cs ih=>
  obtain ⟨v,hv,hs⟩:=h 0 s rfl
  obtain ⟨vs,hl,hc⟩:=ih (o:=o+1) (fun k s' hk=>by
   have:=h (k+1) s' (by simpa using hk)
   rwa [show o+(k+1)=o+1+k by omega] at this)
  refine ⟨v::vs,.cons hs hl,fun k u hk=>?_⟩
  cases k with
  | zero=>simp at hk;subst hk;exact hv
  | succ k=>have:=hc k u (by simpa using hk);rwa [show o+1+k=o+(k+1) by omega] at this
theorem loadVar_run {t:TypeId} {r o:Nat} {cs:List S} {s:S} (hc:CRep G w r o cs) (h:valS P t cs=some s):∃ v,(loadVar t ⟨r,o,none⟩).run P w=.ok v w∧SRep G w s v:=by
 obtain ⟨d,hd,ht⟩:=valS_spec h
 unfold takeS at ht
 unfold loadVar
 simp only [Sem.run_bind,run_isAgg t hd,Result.andThen_ok]
 cases e:isAggB P t with
 | false=>
  rw [e] at ht
  simp only [cond_false] at ht
  cases cs with
  | nil=>cases ht
  | cons c r'=>
   obtain rfl:=Option.some.inj ht
   obtain ⟨v,hv,hs⟩:=hc 0 c rfl
   exact ⟨v,by simp only [Bool.false_eq_true,if_false,run_load];rw [show (⟨r,o,none⟩:Addr)=⟨r,o+0,none⟩ from rfl,hv],hs⟩
 | true=>
  rw [e] at ht
  simp only [cond_true] at ht
  cases hl:(P.cellsOf t).ble cs.length with
  | false=>rw [hl] at ht;cases ht
  | true=>
   rw [hl] at ht
   obtain rfl:=Option.some.inj ht
   obtain ⟨vs,hr,hcell⟩:=hc.vals
   have hlen:P.cellsOf t≤vs.length:=by rw [← hr.1];exact Nat.le_of_ble_eq_true hl
   have:=run_loadCells_list (P:=P) (w:=w) ⟨r,o,none⟩ (vs.take (P.cellsOf t)) (fun j v hj=>by
    rw [addr_add]
    rw [List.getElem?_take] at hj
    split at hj
    ·exact hcell j v hj
    ·cases hj)
   rw [List.length_take,Nat.min_eq_left hlen] at this
   exact ⟨.agg (vs.take (P.cellsOf t)).toArray,by simp only [if_true,Sem.run_bind,run_sizeOf_ok hd,Result.andThen_ok,this,Sem.run_pure],(hr.take _).agg⟩
theorem crep_pt {r o:Nat} {cs:List T} (hc:CellsAt w G.imm ⟨r,o,none⟩ cs):CRep G w r o (cs.map .t):=fun k s hk=>by
 rw [List.getElem?_map] at hk
 cases e:cs[k]? with
 | none=>rw [e] at hk;cases hk
 | some c=>
  rw [e] at hk
  obtain rfl:=Option.some.inj hk
  obtain ⟨v,hv,ht⟩:=hc k c e
  exact ⟨v,hv,.t ht⟩
theorem cell_in {r:Nat} {c:Array Value} {ty:TypeId} {fz:Nat × Nat} (hb:w.heap[r]?=some (.cells c ty fz)) (k:Nat):w.cell? ⟨r,k,none⟩=c[k]?:=by
 simp [World.cell?,hb]
theorem crep_cells {r:Nat} {c:Array Value} {ty:TypeId} {fz:Nat × Nat} {cs:List S} (hb:w.heap[r]?=some (.cells c ty fz)) (hc:CellsIn G w c cs):CRep G w r 0 cs:=fun k s hk=>by
 obtain ⟨v,hv,hs⟩:=hc k s hk
 exact ⟨v,by rw [Nat.zero_add,cell_in hb];exact hv,hs⟩
theorem crep_row {r sz n:Nat} {get:Fin n→List T} {c:Array Value} {ty:TypeId} {fz:Nat × Nat} (hb:w.heap[r]?=some (.cells c ty fz)) (hc:RowIn G w c sz n get) (i:Fin n):CRep G w r (i.1*sz) ((get i).map .t):=fun k s hk=>by
 rw [List.getElem?_map] at hk
 cases e:(get i)[k]? with
 | none=>rw [e] at hk;cases hk
 | some t=>
  rw [e] at hk
  obtain rfl:=Option.some.inj hk
  obtain ⟨v,hv,ht⟩:=hc i k t e
  exact ⟨v,by rw [cell_in hb];exact hv,.t ht⟩
theorem loadS_run (hs:Sim B0 w0 G h w) {get:Nat→Option B} (hg:∀ b x,get b=some x→h.get b=some x) {t:TypeId} {x s:S} {v:Value} (hx:SRep G w x v) (hl:loadS P get t x=some s):
  ∃ u,(Instr.loadAt t v).run P w=.ok u w∧SRep G w s u:=by
 have fin:∀ {r o:Nat} {cs:List S},v=.pointer (some ⟨r,o,none⟩)→CRep G w r o cs→valS P t cs=some s→∃ u,(Instr.loadAt t v).run P w=.ok u w∧SRep G w s u:=by
  intro r o cs hv hc hval
  obtain ⟨u,hu,hsu⟩:=loadVar_run hc hval
  exact ⟨u,by rw [hv];simp only [Instr.loadAt,Instr.sureAddr,Sem.run_bind,Sem.run_pure,Result.andThen_ok,hu],hsu⟩
 unfold loadS at hl
 split at hl
 ·cases hx with | pt hi hc=>exact fin rfl (crep_pt hc) hl
 ·rename_i b o
  cases hx with | ptr hmu=>
  split at hl
  ·rename_i cs hb
   have hrep:=hs.rep b _ (hg _ _ hb)
   cases hrep with | box hmu' hown hbl hf hle hc hi hB=>
   rw [hmu] at hmu'
   simp only [Option.some.injEq,Value.pointer.injEq,Addr.mk.injEq,and_true] at hmu'
   subst hmu'
   have:=(crep_cells hbl hc).drop o
   rw [Nat.zero_add] at this
   exact fin rfl this hl
  ·cases hl
 ·rename_i b z i o
  cases hx with | ep hmu=>
  split at hl
  ·rename_i fz sz n g hb
   have hrep:=hs.rep b _ (hg _ _ hb)
   split at hl
   ·rename_i hin
    cases e:z.beq sz && (o+P.cellsOf t).ble sz with
    | false=>rw [e] at hl;cases hl
    | true=>
     rw [e,cond_true] at hl
     rw [Bool.and_eq_true] at e
     obtain rfl:z=sz:=Nat.eq_of_beq_eq_true e.1
     cases hrep with
     | row hmu' hown hbl hf hcap hle hc hlen hi hB=>
      rw [hmu] at hmu'
      simp only [Option.some.injEq,Value.slice.injEq,Addr.mk.injEq,and_true] at hmu'
      obtain ⟨rfl,-,-⟩:=hmu'
      have:=(crep_row hbl hc ⟨i,hin⟩).drop o
      rw [← List.map_drop] at this
      exact fin rfl this hl
     | none=>omega
   ·cases hl
  ·rename_i fz sz n cs hb
   have hrep:=hs.rep b _ (hg _ _ hb)
   cases e:z.beq sz && decide (i < n) && (o+P.cellsOf t).ble sz with
   | false=>rw [e] at hl;cases hl
   | true=>
    rw [e,cond_true] at hl
    simp only [Bool.and_eq_true] at e
    obtain rfl:z=sz:=Nat.eq_of_beq_eq_true e.1.1
    cases hrep with
    | lst hmu' hown hbl hf hle hn hc hi hB=>
     rw [hmu] at hmu'
     simp only [Option.some.injEq,Value.slice.injEq,Addr.mk.injEq,and_true] at hmu'
     obtain ⟨rfl,-,-⟩:=hmu'
     have:=(crep_cells hbl hc).drop (i*z+o)
     rw [Nat.zero_add] at this
     exact fin rfl this hl
  ·cases hl
 ·cases hl
def Gh.with (G:Gh) (id:Nat) (v:Value) (r:Option Nat):Gh:=⟨fun b=>if b=id then some v else G.mu b,fun b=>if b=id then r else G.own b,G.imm⟩
theorem Gh.with_mu (G:Gh) (id:Nat) (v:Value) (r:Option Nat) (hid:G.mu id=none):∀ b x,G.mu b=some x→(G.with id v r).mu b=some x:=fun b x hb=>by
 show (if b=id then _ else _)=_
 rw [if_neg (fun e=>by rw [e,hid] at hb;cases hb)]
 exact hb
theorem heap_alloc_lt (w:World) (o:Obj) {r:Nat} (h:r < w.heap.size):(w.alloc o).heap[r]?=w.heap[r]?:=Below.heap_alloc w o r h
theorem BRep.mono {G G':Gh} {w w':World} {b:Nat} {x:B} (hr:BRep G B0 w b x) (hI:∀ r,G.imm r→G'.imm r) (hI':∀ r,G.own b=some r→G'.imm r→G.imm r) (hk:∀ r,G.imm r→w'.heap[r]?=w.heap[r]?) (hm:∀ b x,G.mu b=some x→G'.mu b=some x) (ho:G'.own b=G.own b)
  (hb:∀ r,G.own b=some r→w'.heap[r]?=w.heap[r]?):BRep G' B0 w' b x:=by
 cases hr with
 | box hmu hown hbl hf hl hc hi hB=>
  exact .box (hm _ _ hmu) (ho.trans hown) ((hb _ hown).trans hbl) hf hl (fun k s hk'=>let ⟨v,hv,hs⟩:=hc k s hk';⟨v,hv,hs.mono hI hk hm⟩) (fun h=>hi (hI' _ hown h)) hB
 | lst hmu hown hbl hf hl hn hc hi hB=>
  exact .lst (hm _ _ hmu) (ho.trans hown) ((hb _ hown).trans hbl) hf hl hn (fun k s hk'=>let ⟨v,hv,hs⟩:=hc k s hk';⟨v,hv,hs.mono hI hk hm⟩) (fun e h=>hi e (hI' _ hown h)) hB
 | row hmu hown hbl hf hcap hl hc hlen hi hB=>
  exact .row (hm _ _ hmu) (ho.trans hown) ((hb _ hown).trans hbl) hf hcap hl (fun i k t hk'=>let ⟨v,hv,hs⟩:=hc i k t hk';⟨v,hv,hs.mono hI hk⟩) hlen (fun e h=>hi e (hI' _ hown h)) hB
 | mp hmu hown hbl hc hi hB hw=>exact .mp (hm _ _ hmu) (ho.trans hown) ((hb _ hown).trans hbl) (hc.mono hI hk hm) (fun e h=>hi e (hI' _ hown h)) hB hw
 | none hmu hown=>exact .none (hm _ _ hmu) (ho.trans hown)
theorem BRep.lt {b:Nat} {x:B} (hr:BRep G B0 w b x) {r:Nat} (ho:G.own b=some r):r < w.heap.size:=by
 have key:∀ {r':Nat} {o:Obj},w.heap[r']?=some o→r' < w.heap.size:=fun h=>(Array.getElem?_eq_some_iff.1 h).1
 cases hr with
 | box hmu hown hbl=>rw [hown] at ho;obtain rfl:=Option.some.inj ho;exact key hbl
 | lst hmu hown hbl=>rw [hown] at ho;obtain rfl:=Option.some.inj ho;exact key hbl
 | row hmu hown hbl=>rw [hown] at ho;obtain rfl:=Option.some.inj ho;exact key hbl
 | mp hmu hown hbl=>rw [hown] at ho;obtain rfl:=Option.some.inj ho;exact key hbl
 | none hmu hown=>rw [hown] at ho;cases ho
theorem BRep.notLd {b:Nat} {x:B} (hr:BRep G B0 w b x) {r:Nat} (ho:G.own b=some r) {o:Obj} (hb:w.heap[r]?=some o):isLD o=false:=by
 cases hr with
 | box hmu hown hbl=>rw [hown] at ho;obtain rfl:=Option.some.inj ho;rw [hbl] at hb;obtain rfl:=Option.some.inj hb;rfl
 | lst hmu hown hbl=>rw [hown] at ho;obtain rfl:=Option.some.inj ho;rw [hbl] at hb;obtain rfl:=Option.some.inj hb;rfl
 | row hmu hown hbl=>rw [hown] at ho;obtain rfl:=Option.some.inj ho;rw [hbl] at hb;obtain rfl:=Option.some.inj hb;rfl
 | mp hmu hown hbl=>rw [hown] at ho;obtain rfl:=Option.some.inj ho;rw [hbl] at hb;obtain rfl:=Option.some.inj hb;rfl
 | none hmu hown=>rw [hown] at ho;cases ho
theorem BRep.ge {b:Nat} {x:B} (hr:BRep G B0 w b x) {r:Nat} (ho:G.own b=some r):B0≤r:=by
 cases hr with
 | box hmu hown hbl hf hl hc hi hB=>rw [hown] at ho;obtain rfl:=Option.some.inj ho;exact hB
 | lst hmu hown hbl hf hl hn hc hi hB=>rw [hown] at ho;obtain rfl:=Option.some.inj ho;exact hB
 | row hmu hown hbl hf hcap hl hc hlen hi hB=>rw [hown] at ho;obtain rfl:=Option.some.inj ho;exact hB
 | mp hmu hown hbl hc hi hB=>rw [hown] at ho;obtain rfl:=Option.some.inj ho;exact hB
 | none hmu hown=>rw [hown] at ho;cases ho
theorem get_put (h:Heap) (i j:Nat) (x:B):(h.put i x).get j=if i=j then some x else h.get j:=get_set _ _ _ _
theorem get_del (h:Heap) (i j:Nat):(h.del i).get j=if i=j then none else h.get j:=get_set _ _ _ _
theorem Sim.allocO (hs:Sim B0 w0 G h w) {id:Nat} (hlt:id < h.next) (hid:G.mu id=none) (hh:h.get id=none) {ob:Obj} {x:B} {v:Value}
  (hx:∀ G' w',(∀ b x,G.mu b=some x→G'.mu b=some x)→G'.imm=G.imm→(∀ r,G.imm r→w'.heap[r]?=w.heap[r]?)→G'.mu id=some v→G'.own id=some w.heap.size→w'.heap[w.heap.size]?=some ob→BRep G' B0 w' id x):
  Sim B0 w0 (G.with id v (some w.heap.size)) (h.put id x) (w.alloc ob)∧Nx B0 id G h w (G.with id v (some w.heap.size)) (h.put id x) (w.alloc ob):=by
 have hm:=G.with_mu id v (some w.heap.size) hid
 have hk:∀ r,G.imm r→(w.alloc ob).heap[r]?=w.heap[r]?:=fun r hr=>heap_alloc_lt w _ (hs.imm r hr)
 have hnew:(w.alloc ob).heap[w.heap.size]?=some ob:=by
  show (w.heap.push _)[w.heap.size]?=_
  simp
 refine ⟨⟨hs.below.alloc hs.b0 _,fun r hr=>?_,fun b y hb=>?_,fun b b' r h1 h2 h3 h4=>?_,fun b hb=>?_,?_,hs.nold.mono hk⟩,⟨fun _ h=>h,hk,fun b hb _=>?_,fun b hb _ hn=>?_,Nat.le_refl _,fun _ h=>.inl h,KeepLd.below ((Below.refl _ _).alloc (Nat.le_refl _) _)⟩⟩
 ·have:=hs.imm r hr;simp;omega
 ·rw [get_put] at hb
  split at hb
  ·rename_i e
   subst e
   obtain rfl:=Option.some.inj hb
   exact hx _ _ hm rfl hk (by show (if _ then _ else _)=_;rw [if_pos rfl]) (by show (if _ then _ else _)=_;rw [if_pos rfl]) hnew
  ·rename_i e
   have hr:=hs.rep b y hb
   have ho:(G.with id v (some w.heap.size)).own b=G.own b:=by show (if _ then _ else _)=_;rw [if_neg (fun e'=>e e'.symm)]
   exact hr.mono (fun _ h=>h) (fun _ _ h=>h) hk hm ho (fun r hr'=>heap_alloc_lt w _ (hr.lt hr'))
 ·have ow:∀ b r,(h.put id x).get b≠none→(G.with id v (some w.heap.size)).own b=some r→(b=id∧r=w.heap.size)∨(b≠id∧h.get b≠none∧G.own b=some r∧r < w.heap.size):=by
   intro b r hb ho
   by_cases e:b=id
   ·subst e
    left
    have:(if b=b then some w.heap.size else G.own b)=some r:=ho
    rw [if_pos rfl] at this
    exact ⟨rfl,(Option.some.inj this).symm⟩
   ·right
    rw [get_put,if_neg (fun e'=>e e'.symm)] at hb
    have ho':(if b=id then some w.heap.size else G.own b)=some r:=ho
    rw [if_neg e] at ho'
    cases hy:h.get b with
    | none=>exact absurd hy hb
    | some y=>exact ⟨e,by simp,ho',(hs.rep b y hy).lt ho'⟩
  rcases ow b r h1 h3 with ⟨rfl,e1⟩ | ⟨n1,a1,o1,l1⟩<;>rcases ow b' r h2 h4 with ⟨rfl,e2⟩ | ⟨n2,a2,o2,l2⟩
  ·rfl
  ·omega
  ·omega
  ·exact hs.inj b b' r a1 a2 o1 o2
 ·have hb':h.next≤b:=hb
  have hne:b≠id:=by omega
  refine ⟨?_,?_⟩
  ·show (if _ then _ else _)=_
   rw [if_neg hne];exact (hs.lo b hb').1
  ·rw [get_put,if_neg (fun e=>hne e.symm)];exact (hs.lo b hb').2
 ·have:=hs.b0;simp;omega
 ·show (if _ then _ else _)=_
  rw [if_neg hb]
 ·rw [get_put,if_neg (fun e=>hb e.symm)];exact hn
theorem Sim.alloc (hs:Sim B0 w0 G h w) {id:Nat} (hlt:id < h.next) (hid:G.mu id=none) (hh:h.get id=none) {c:Array Value} {ty:TypeId} {x:B} {v:Value}
  (hx:∀ G' w',(∀ b x,G.mu b=some x→G'.mu b=some x)→G'.imm=G.imm→(∀ r,G.imm r→w'.heap[r]?=w.heap[r]?)→G'.mu id=some v→G'.own id=some w.heap.size→w'.heap[w.heap.size]?=some (.cells c ty (0,0))→BRep G' B0 w' id x):
  Sim B0 w0 (G.with id v (some w.heap.size)) (h.put id x) (w.alloc (.cells c ty))∧Nx B0 id G h w (G.with id v (some w.heap.size)) (h.put id x) (w.alloc (.cells c ty)):=hs.allocO hlt hid hh hx
end
end Go.Proofs.YtonkoellfaopiaaGreatDoor.H
