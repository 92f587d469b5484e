import Derived.Test.YtonkoellfaopiaaGreatDoorX1
import Derived.Great.BuildSlice
import Derived.Deep.Upon
import Derived.Laws.AppendOwn
set_option linter.unusedSimpArgs false
set_option linter.unusedVariables false
namespace Go.Proofs.YtonkoellfaopiaaGreatDoor.H
open Go Go.RowKit
section
variable {P:Program} {G:Gh} {w w0:World} {nt B0:Nat} {fr:Fr} {a:Act} {h:Heap}
def After (B0:Nat) (w0:World) (id:Nat) (G:Gh) (h:Heap) (w:World) (s:S) (h':Heap) (v:Value) (w':World):Prop:=
 ∃ G',Sim B0 w0 G' h' w'∧Nx B0 id G h w G' h' w'∧SRep G' w' s v
theorem cellsIn_of_lrep {cs:List S} {c:Array Value} (hl:LRep G w cs c.toList):CellsIn G w c cs:=fun k s hk=>by
 have hlt:k < c.size:=by have:=(List.getElem?_eq_some_iff.1 hk).1;rw [hl.1] at this;simpa using this
 have hv:c[k]?=some c[k]:=by simp [hlt]
 exact ⟨c[k],hv,hl.2 k s _ hk (by simp)⟩
theorem LRep.mono {G':Gh} {w':World} {cs:List S} {vs:List Value} (hl:LRep G w cs vs) (hI:∀ r,G.imm r→G'.imm r) (hk:∀ r,G.imm r→w'.heap[r]?=w.heap[r]?) (hm:∀ b x,G.mu b=some x→G'.mu b=some x):LRep G' w' cs vs:=
 ⟨hl.1,fun i s v h1 h2=>(hl.2 i s v h1 h2).mono hI hk hm⟩
theorem new_box (hs:Sim B0 w0 G h w) {id:Nat} (hlt:id < h.next) (hid:G.mu id=none) (hh:h.get id=none) {cs:List S} {c:Array Value} (hl:LRep G w cs c.toList) (ty:TypeId):
  After B0 w0 id G h w (.ptr id 0) (h.put id (.box cs)) (.pointer (some ⟨w.heap.size,0,none⟩)) (w.alloc (.cells c ty)):=by
 obtain ⟨h1,h2⟩:=hs.alloc hlt hid hh (c:=c) (ty:=ty) (x:=.box cs) (v:=.pointer (some ⟨w.heap.size,0,none⟩)) (fun G' w' hm hI hk hmu hown hb=>by
  refine .box hmu hown hb (.inl (Nat.le_refl _)) (by have:=hl.1;simpa using this.symm) (cellsIn_of_lrep (hl.mono (fun r hr=>by rw [hI];exact hr) hk hm)) (fun hi=>?_) hs.b0
  rw [hI] at hi
  have:=hs.imm _ hi
  omega)
 exact ⟨_,h1,h2,.ptr (by show (if _ then _ else _)=_;rw [if_pos rfl])⟩
theorem range_flat (n:Nat) (z:List Value) (hz:z≠[]):((Array.range (n*z.length)).map (fun i=>z.toArray[i % z.toArray.size]!)).toList=(List.replicate n z).flatten:=by
 apply List.ext_getElem?
 intro i
 simp only [Array.toList_map,Array.toList_range,List.getElem?_map]
 have hpos:0 < z.length:=List.length_pos_iff.2 hz
 by_cases hi:i < n*z.length
 ·have:(List.range (n*z.length))[i]?=some i:=by simp [hi]
  rw [this]
  have hm:i % z.length < z.length:=Nat.mod_lt _ hpos
  have h1:(z.toArray[i % z.toArray.size]!)=z[i % z.length]:=by
   rw [List.size_toArray]
   rw [getElem!_pos _ _ (by simpa using hm)]
   simp
  simp only [Option.map_some,h1]
  induction n generalizing i with
  | zero=>simp at hi
  | succ n ih=>
   rw [List.replicate_succ,List.flatten_cons,List.getElem?_append]
   by_cases hlt:i < z.length
   ·rw [if_pos hlt]
    have:i % z.length=i:=Nat.mod_eq_of_lt hlt
    simp [this,hlt]
   ·rw [if_neg hlt]
    have hi':i - z.length < n*z.length:=by rw [Nat.succ_mul] at hi;omega
    have hmod:(i - z.length) % z.length=i % z.length:=by
     conv=>rhs;rw [show i=(i - z.length)+z.length by omega,Nat.add_mod_right]
    have:=ih (i:=i - z.length) hi' (by simp [hi']) (Nat.mod_lt _ hpos) (by
     rw [List.size_toArray,getElem!_pos _ _ (by simpa using Nat.mod_lt _ hpos)];simp)
    rw [← this]
    simp [hmod]
 ·have h1:(List.range (n*z.length))[i]?=none:=by simp;omega
  have h2:((List.replicate n z).flatten)[i]?=none:=by
   rw [List.getElem?_eq_none]
   simp [List.length_flatten,List.map_replicate];omega
  rw [h1,h2];rfl
theorem replicate_rep {z:List S} {vz:List Value} (hz:LRep G w z vz):∀ n,LRep G w (List.replicate n z).flatten (List.replicate n vz).flatten
 | 0=>.nil
 | n+1=>by rw [List.replicate_succ,List.replicate_succ,List.flatten_cons,List.flatten_cons];exact hz.append (replicate_rep hz n)
theorem fillS_len {place:Nat→Option (Nat × Nat)}:∀ {parts:List (Nat × S)} {cs out:List S},fillS place cs parts=some out→out.length=cs.length
 | [],cs,out,h=>by simp only [fillS,Option.some.injEq] at h;rw [h]
 | (i,s)::r,cs,out,h=>by
  unfold fillS at h
  split at h
  ·cases h
  ·rename_i off size _
   cases e:defS s && (cellsOfS s).length.beq size && (off+(cellsOfS s).length).ble cs.length with
   | false=>rw [e] at h;cases h
   | true=>
    rw [e,cond_true] at h
    rw [fillS_len h]
    have:∀ (xs cs:List S) (o:Nat),(setFrom cs o xs).length=cs.length:=by
     intro xs
     induction xs with
     | nil=>intros;rfl
     | cons x xs ih=>intro cs o;simp only [setFrom];rw [ih];simp
    exact this _ _ _
theorem newOp_run (hs:Sim B0 w0 G h w) (hf:FRep nt G w fr a) {id:Nat} (hlt:id < h.next) (hid:G.mu id=none) (hh:h.get id=none) {o:Oper} {s:S} {x:B} (ho:newOp P fr id o.op=some (s,x)):
  ∃ v w',(execOp a.eval o).run P w=.ok (.value v) w'∧After B0 w0 id G h w s (h.put id x) v w':=by
 obtain ⟨dst,op,type,pos,after,guard⟩:=o
 simp only at ho
 cases op with
 | alloc t=>
  simp only [newOp] at ho
  split at ho
  ·rename_i z hz
   obtain ⟨i,v,hi,hv,rfl⟩:=zeroS_spec hz
   cases e0:defS (constS v) with
   | false=>rw [e0] at ho;cases ho
   | true=>
    rw [e0,cond_true] at ho
    simp only [Option.some.injEq,Prod.mk.injEq] at ho
    obtain ⟨rfl,rfl⟩:=ho
    have hrun:(execOp a.eval { dst:=dst,op:=.alloc t,type:=type,pos:=pos,after:=after,guard:=guard }).run P w=.ok (.value (.pointer (some ⟨w.heap.size,0,none⟩))) (w.alloc (.cells v.cells t)):=by
     simp only [execOp,Instr.alloc,Sem.run_bind,run_zeroValue_ok hi hv,Result.andThen_ok,newVar,newRow,run_newObj,Sem.run_pure]
     rfl
    exact ⟨_,_,hrun,new_box hs hlt hid hh (constS_def e0) t⟩
  ·cases ho
 | makeMap t r=>
  simp only [newOp] at ho
  cases r with
  | some x=>simp only at ho;split at ho<;>cases ho
  | none=>
   simp only [Option.some.injEq,Prod.mk.injEq] at ho
   obtain ⟨rfl,rfl⟩:=ho
   refine ⟨.map (some w.heap.size),w.alloc (.map #[] 0),rfl,?_⟩
   obtain ⟨h1,h2⟩:=hs.allocO hlt hid hh (ob:=.map #[] 0) (x:=.mp false []) (v:=.map (some w.heap.size)) (fun G' w' hm hI hk hmu hown hb=>by
    refine .mp hmu hown hb ⟨rfl,fun i e m h=>by simp at h⟩ (fun _ hi=>?_) hs.b0 ⟨by simp,by simp⟩
    rw [hI] at hi
    have:=hs.imm _ hi
    omega)
   exact ⟨_,h1,h2,.mp (by show (if _ then _ else _)=_;rw [if_pos rfl])⟩
 | box t x=>
  simp only [newOp] at ho
  cases e0:defS (ev fr x) with
  | false=>rw [e0] at ho;cases ho
  | true=>
   rw [e0,cond_true] at ho
   simp only [Option.some.injEq,Prod.mk.injEq] at ho
   obtain ⟨rfl,rfl⟩:=ho
   exact ⟨_,_,rfl,new_box hs hlt hid hh (srep_cells (hf.ev x) e0) t⟩
 | buildSlice t n parts=>
  simp only [newOp] at ho
  split at ho
  ·rename_i e hu
   split at ho
   ·rename_i z hz
    obtain ⟨i,v,hi,hv,rfl⟩:=zeroS_spec hz
    cases e0:(P.cellsOf e).beq 0 || (n*P.cellsOf e).ble 16777216 == false || !((cellsOfS (constS v)).length.beq (P.cellsOf e)) || !defS (constS v) with
    | true=>rw [e0] at ho;cases ho
    | false=>
     rw [e0,cond_false] at ho
     simp only [Bool.or_eq_false_iff] at e0
     obtain ⟨⟨⟨e1,e2⟩,e3⟩,e4⟩:=e0
     obtain ⟨cs,hcs,e⟩:=Option.map_eq_some_iff.1 ho
     simp only [Prod.mk.injEq] at e
     obtain ⟨rfl,rfl⟩:=e
     have hz:=constS_def (G:=G) (w:=w) (v:=v) (by simpa using e4)
     have hlen:v.cells.size=P.cellsOf e:=by
      have h1:(cellsOfS (constS v)).length=P.cellsOf e:=Nat.eq_of_beq_eq_true (by simpa using e3)
      have:=hz.1
      rw [h1] at this;simpa using this.symm
     have hpos:P.cellsOf e≠0:=fun h0=>by rw [h0] at e1;cases e1
     have hsmall:n*P.cellsOf e≤16777216:=Nat.le_of_ble_eq_true (by simpa using e2)
     have hne:v.cells.toList≠[]:=fun h0=>by rw [← Array.length_toList,h0] at hlen;exact hpos hlen.symm
     obtain ⟨c',hc',hr⟩:=fill_rep (G:=G) (w:=w) (fun i=>some (i*P.cellsOf e,P.cellsOf e)) (parts.toList.map fun p=>(p.1,ev fr p.2)) ((parts.map fun (i,x)=>(i,a.eval x)).toList) _ ((List.replicate n v.cells.toList).flatten.toArray) cs (replicate_rep hz n) (by simp) (fun i p q h1 h2=>by
      simp only [List.getElem?_map,Array.toList_map] at h1 h2
      cases hp:parts.toList[i]? with
      | none=>rw [hp] at h1;cases h1
      | some pq=>
       rw [hp] at h1 h2
       obtain rfl:=Option.some.inj h1
       obtain rfl:=Option.some.inj h2
       exact ⟨rfl,hf.ev _⟩) hcs
     have hrun:(Instr.buildSlice t n (parts.map fun (i,x)=>(i,a.eval x))).run P w=.ok (.slice (some ⟨w.heap.size,0,none⟩) n n) (w.alloc (.cells c' e)):=by
      have hsz:i.size=P.cellsOf e:=(cellsOf_of_info hi).symm
      by_cases hn:n=0
      ·subst hn
       have hc2:Instr.fill (fun j=>some (j*i.size,i.size)) #[] ((parts.map fun (i,x)=>(i,a.eval x)).toList)=some c':=by rw [hsz];exact hc'
       have e0:((Array.range 0).map (fun k=>(#[]:Array Value)[k % (#[]:Array Value).size]!))=#[]:=by simp
       simp only [Instr.buildSlice,Sem.run_bind,run_underlying hu,sizeOf,typeInfo,run_program,Result.andThen_ok,hi,Sem.run_pure,Nat.zero_mul,Nat.not_lt_zero,if_false,if_true,e0,hc2,newRow,run_newObj,gt_iff_lt]
       rfl
      ·have hcells:(List.replicate n v.cells.toList).flatten.toArray=(Array.range (n*i.size)).map (v.cells[· % v.cells.size]!):=by
        apply Array.ext'
        have:=range_flat n v.cells.toList hne
        rw [Array.length_toList,hlen] at this
        rw [hsz,hlen]
        simpa using this.symm
       refine run_buildSlice w t e n _ c' i v hu hi hv (by rw [hsz];omega) (by rw [hsz];exact Nat.mul_ne_zero hn hpos) ?_
       rw [← hcells,hsz]
       exact hc'
     refine ⟨.slice (some ⟨w.heap.size,0,none⟩) n n,w.alloc (.cells c' e),by simp only [execOp,Sem.run_bind,hrun,Result.andThen_ok,Sem.run_pure],?_⟩
     have hcl:cs.length=n*P.cellsOf e:=by
      rw [fillS_len hcs]
      simp [List.length_flatten,List.map_replicate,Nat.eq_of_beq_eq_true (by simpa using e3:(cellsOfS (constS v)).length.beq (P.cellsOf e)=true)]
     obtain ⟨h1,h2⟩:=hs.alloc hlt hid hh (c:=c') (ty:=e) (x:=.lst false (P.cellsOf e) n cs) (v:=.slice (some ⟨w.heap.size,0,none⟩) n n) (fun G' w' hm hI hk hmu hown hb=>by
      refine .lst hmu hown hb (.inl (Nat.le_refl _)) (by have:=hr.1;simpa using this.symm) hcl (cellsIn_of_lrep (hr.mono (fun r hr=>by rw [hI];exact hr) hk hm)) (fun _ hi=>?_) hs.b0
      rw [hI] at hi
      have:=hs.imm _ hi
      omega)
     exact ⟨_,h1,h2,.sl (by show (if _ then _ else _)=_;rw [if_pos rfl]) (fun _=>⟨_,rfl⟩)⟩
   ·cases ho
  ·cases ho
 | _=>cases ho
end
section
variable {P:Program} {G:Gh} {w w0:World} {nt B0:Nat} {fr:Fr} {a:Act} {h:Heap}
def vset:List Value→Nat→List Value→List Value
 | cs,_,[]=>cs
 | cs,o,x::r=>vset (cs.set o x) (o+1) r
theorem vset_len:∀ (xs cs:List Value) (o:Nat),(vset cs o xs).length=cs.length
 | [],_,_=>rfl
 | x::r,cs,o=>by simp only [vset];rw [vset_len r];simp
theorem vset_lt:∀ (xs cs:List Value) (o k:Nat),k < o→(vset cs o xs)[k]?=cs[k]?
 | [],_,_,_,_=>rfl
 | x::r,cs,o,k,hk=>by
  simp only [vset]
  rw [vset_lt r _ (o+1) k (by omega),List.getElem?_set_ne (by omega)]
theorem vset_ge:∀ (xs cs:List Value) (o k:Nat),o+xs.length≤k→(vset cs o xs)[k]?=cs[k]?
 | [],_,_,_,_=>rfl
 | x::r,cs,o,k,hk=>by
  simp only [vset]
  simp only [List.length_cons] at hk
  rw [vset_ge r _ (o+1) k (by omega),List.getElem?_set_ne (by omega)]
theorem vset_in:∀ (xs cs:List Value) (o j:Nat),o+xs.length≤cs.length→j < xs.length→(vset cs o xs)[o+j]?=xs[j]?
 | [],_,_,_,_,hj=>by simp at hj
 | x::r,cs,o,0,hl,hj=>by
  simp only [vset]
  rw [vset_lt r _ (o+1) (o+0) (by omega)]
  simp only [List.length_cons] at hl
  rw [Nat.add_zero,List.getElem?_set_self (by omega)]
  rfl
 | x::r,cs,o,j+1,hl,hj=>by
  simp only [vset]
  simp only [List.length_cons] at hl hj
  have:=vset_in r (cs.set o x) (o+1) j (by simp;omega) (by omega)
  rw [show o+(j+1)=o+1+j by omega,this]
  rfl
theorem setFrom_rep':∀ (xs:List S) (us:List Value) (cs:List S) (vs:List Value) (o:Nat),LRep G w cs vs→LRep G w xs us→LRep G w (setFrom cs o xs) (vset vs o us)
 | [],us,cs,vs,o,h,h'=>by
  obtain rfl:us=[]:=List.length_eq_zero_iff.1 h'.1.symm
  exact h
 | x::xs,us,cs,vs,o,h,h'=>by
  obtain ⟨u,r,rfl,hu,hr⟩:=h'.uncons
  exact setFrom_rep' xs r _ _ (o+1) (h.set o hu) hr
theorem setCells_facts (b:Nat):∀ (vs:List Value) (o:Nat) (w:World) (c:Array Value) (ty:TypeId) (fz:Nat × Nat),w.heap[b]?=some (.cells c ty fz)→
  ∃ c',(w.setCells b o vs).heap[b]?=some (.cells c' ty fz)∧c'.toList=vset c.toList o vs∧(∀ k,k≠b→(w.setCells b o vs).heap[k]?=w.heap[k]?)∧(w.setCells b o vs).heap.size=w.heap.size∧
   (w.setCells b o vs).os=w.os∧(w.setCells b o vs).tape=w.tape∧(w.setCells b o vs).output=w.output
 | [],o,w,c,ty,fz,hb=>⟨c,hb,rfl,fun _ _=>rfl,rfl,rfl,rfl,rfl⟩
 | v::r,o,w,c,ty,fz,hb=>by
  have h1:(w.setCell ⟨b,o,none⟩ v).heap[b]?=some (.cells (c.setIfInBounds o v) ty fz):=by
   simp only [World.setCell,Array.getElem?_modify,if_true,hb,Option.map_some]
   rfl
  obtain ⟨c',e1,e2,e3,e4,e5,e6,e7⟩:=setCells_facts b r (o+1) (w.setCell ⟨b,o,none⟩ v) _ ty fz h1
  refine ⟨c',e1,?_,fun k hk=>(e3 k hk).trans (Below.heap_setCell w ⟨b,o,none⟩ v k hk),e4.trans (by simp [World.setCell]),e5,e6,e7⟩
  rw [e2,Array.toList_setIfInBounds]
  rfl
theorem bare_cell {r:Nat} {c:Array Value} {ty:TypeId} {fz:Nat × Nat} (hb:w.heap[r]?=some (.cells c ty fz)) (hf:Bare c fz) {k:Nat} (hk:k < c.size):(w.cell? ⟨r,k,none⟩).isSome=true∧w.frozen? ⟨r,k,none⟩=false:=by
 refine ⟨by rw [cell_in hb];simp [hk],?_⟩
 simp only [World.frozen?,hb]
 unfold Bare at hf
 simp only [Bool.and_eq_false_iff,decide_eq_false_iff_not]
 omega
theorem Sim.write (hs:Sim B0 w0 G h w) {b r:Nat} {x x':B} (hb:h.get b=some x) (hown:G.own b=some r) (hni:¬ G.imm r) (hB:B0≤r) {w':World} (hk:∀ k,k≠r→w'.heap[k]?=w.heap[k]?) (hsz:w'.heap.size=w.heap.size)
  (hos:w'.os=w.os) (htape:w'.tape=w.tape) (hout:w'.output=w.output) (hx':BRep G B0 w' b x') (id:Nat):Sim B0 w0 G (h.put b x') w'∧Nx B0 id G h w G (h.put b x') w':=by
 have hkeep:∀ q,G.imm q→w'.heap[q]?=w.heap[q]?:=fun q hq=>hk q (fun e=>hni (e ▸ hq))
 have hbe:Below B0 w w':=⟨hos,htape,hout,by omega,fun k hk'=>hk k (by omega)⟩
 refine ⟨⟨hs.below.trans hbe,fun q hq=>by rw [hsz];exact hs.imm q hq,fun b2 y hb2=>?_,fun b1 b2 q h1 h2 h3 h4=>?_,fun b2 hb2=>⟨(hs.lo b2 hb2).1,?_⟩,by rw [hsz];exact hs.b0,hs.nold.mono hkeep⟩,⟨fun _ h=>h,hkeep,fun _ _ _=>rfl,fun b2 _ _ hn=>?_,Nat.le_refl _,fun _ h=>.inl h,fun k o hk1 hl=>(hk k (fun e=>by subst e;have hq:=(hs.rep b x hb).notLd hown hk1;rw [hq] at hl;cases hl)).trans hk1⟩⟩
 ·rw [get_put] at hb2
  split at hb2
  ·rename_i e
   subst e
   obtain rfl:=Option.some.inj hb2
   exact hx'
  ·rename_i e
   refine (hs.rep b2 y hb2).mono (fun _ h=>h) (fun _ _ h=>h) hkeep (fun _ _ h=>h) rfl (fun q hq=>hk q (fun eq=>?_))
   subst eq
   exact e (hs.inj b b2 q (by rw [hb];simp) (by rw [hb2];simp) hown hq)
 ·have ne:∀ b3,(h.put b x').get b3≠none→h.get b3≠none:=by
   intro b3 h3
   rw [get_put] at h3
   split at h3
   ·rename_i e;subst e;rw [hb];simp
   ·exact h3
  exact hs.inj b1 b2 q (ne b1 h1) (ne b2 h2) h3 h4
 ·rw [get_put]
  split
  ·rename_i e;subst e;rw [(hs.lo b hb2).2] at hb;cases hb
  ·exact (hs.lo b2 hb2).2
 ·rw [get_put]
  split
  ·rename_i e;subst e;rw [hn] at hb;cases hb
  ·exact hn
def Gh.froz (G:Gh) (h:Heap) (l:List Nat):Gh:=⟨G.mu,G.own,fun r=>G.imm r∨∃ b,b∈l∧∃ x,h.get b=some x∧isRow x=true∧G.own b=some r⟩
theorem froz_mono {l l':List Nat} (hl:∀ b,b∈l→b∈l') {r:Nat} (hi:(G.froz h l).imm r):(G.froz h l').imm r:=by
 rcases hi with hi | ⟨b,hb,x,hx,hr,ho⟩
 ·exact .inl hi
 ·exact .inr ⟨b,hl b hb,x,hx,hr,ho⟩
theorem freeze1_idem (x:B):freeze1 (freeze1 x)=freeze1 x:=by cases x<;>rfl
theorem get_freeze:∀ (l:List Nat) (h:Heap) (b:Nat),(h.freeze l).get b=(h.get b).map (fun x=>if b∈l then freeze1 x else x)∧(h.freeze l).next=h.next
 | [],h,b=>by simp [Heap.freeze]
 | c::l,h,b=>by
  unfold Heap.freeze
  cases hc:h.get c with
  | none=>
   simp only
   have:=get_freeze l h b
   refine ⟨?_,this.2⟩
   rw [this.1]
   by_cases e:b=c
   ·subst e;simp [hc]
   ·simp [e]
  | some x=>
   simp only
   have:=get_freeze l (h.put c (freeze1 x)) b
   refine ⟨?_,this.2⟩
   rw [this.1,get_put]
   by_cases e:c=b
   ·subst e
    simp only [if_true,hc,Option.map_some,List.mem_cons,true_or]
    by_cases m:c∈l<;>simp [m,freeze1_idem]
   ·simp only [if_neg e,List.mem_cons]
    have:¬ b=c:=fun e'=>e e'.symm
    simp [this]
theorem Sim.froz_nold (hs:Sim B0 w0 G h w) (l:List Nat):NoLd (G.froz h l).imm w:=fun r o hr ho=>by
 rcases hr with hr | ⟨b,_,x,hx,_,hown⟩
 ·exact hs.nold r o hr ho
 ·exact (hs.rep b x hx).notLd hown ho
theorem Sim.freeze (hs:Sim B0 w0 G h w) (l:List Nat) (id:Nat):Sim B0 w0 (G.froz h l) (h.freeze l) w∧Nx B0 id G h w (G.froz h l) (h.freeze l) w:=by
 have getf:=fun b=>(get_freeze l h b).1
 refine ⟨⟨hs.below,fun r hr=>?_,fun b y hb=>?_,fun b1 b2 q h1 h2 h3 h4=>?_,fun b hb=>?_,hs.b0,hs.froz_nold l⟩,⟨fun _ h=>.inl h,fun _ _=>rfl,fun _ _ _=>rfl,fun b _ _ hn=>?_,?_,fun q hq=>?_,KeepLd.refl w⟩⟩
 ·rcases hr with hr | ⟨b,_,x,hx,_,ho⟩
  ·exact hs.imm r hr
  ·exact (hs.rep b x hx).lt ho
 ·rw [getf] at hb
  obtain ⟨x,hx,e⟩:=Option.map_eq_some_iff.1 hb
  have hr:=hs.rep b x hx
  have only:∀ r,G.own b=some r→(G.froz h l).imm r→G.imm r∨(b∈l∧isRow x=true):=by
   intro r ho hi
   rcases hi with hi | ⟨b',hb',x',hx',hr',ho'⟩
   ·exact .inl hi
   ·have:b'=b:=hs.inj b' b r (by rw [hx'];simp) (by rw [hx];simp) ho' ho
    subst this
    rw [hx] at hx'
    obtain rfl:=Option.some.inj hx'
    exact .inr ⟨hb',hr'⟩
  have hI:∀ r,G.imm r→(G.froz h l).imm r:=fun _ h=>.inl h
  have hk:∀ r,G.imm r→w.heap[r]?=w.heap[r]?:=fun _ _=>rfl
  have hm:∀ b x,G.mu b=some x→(G.froz h l).mu b=some x:=fun _ _ h=>h
  subst e
  cases hr with
  | box hmu hown hbl hf hle hc hi hB=>
   have e:∀ cs,(if b∈l then freeze1 (.box cs) else .box cs:B)=.box cs:=fun cs=>by split<;>rfl
   rw [e]
   refine .box hmu hown hbl hf hle (fun k s hk'=>let ⟨v,hv,hsv⟩:=hc k s hk';⟨v,hv,hsv.mono hI hk hm⟩) (fun h'=>?_) hB
   rcases only _ hown h' with h1 | h1
   ·exact hi h1
   ·cases h1.2
  | lst hmu hown hbl hf hle hn hc hi hB=>
   by_cases m:b∈l
   ·rw [if_pos m]
    exact .lst hmu hown hbl hf hle hn (fun k s hk'=>let ⟨v,hv,hsv⟩:=hc k s hk';⟨v,hv,hsv.mono hI hk hm⟩) (fun h=>by cases h) hB
   ·rw [if_neg m]
    refine .lst hmu hown hbl hf hle hn (fun k s hk'=>let ⟨v,hv,hsv⟩:=hc k s hk';⟨v,hv,hsv.mono hI hk hm⟩) (fun e h'=>?_) hB
    rcases only _ hown h' with h1 | h1
    ·exact hi e h1
    ·exact m h1.1
  | row hmu hown hbl hf hcap hle hc hlen hi hB=>
   by_cases m:b∈l
   ·rw [if_pos m]
    exact .row hmu hown hbl hf hcap hle (fun i k t hk'=>let ⟨v,hv,hsv⟩:=hc i k t hk';⟨v,hv,hsv.mono hI hk⟩) hlen (fun h=>by cases h) hB
   ·rw [if_neg m]
    refine .row hmu hown hbl hf hcap hle (fun i k t hk'=>let ⟨v,hv,hsv⟩:=hc i k t hk';⟨v,hv,hsv.mono hI hk⟩) hlen (fun e h'=>?_) hB
    rcases only _ hown h' with h1 | h1
    ·exact hi e h1
    ·exact m h1.1
  | mp hmu hown hbl hc hi hB hw=>
   by_cases m:b∈l
   ·rw [if_pos m]
    exact .mp hmu hown hbl (hc.mono hI hk hm) (fun h=>by cases h) hB hw
   ·rw [if_neg m]
    refine .mp hmu hown hbl (hc.mono hI hk hm) (fun e h'=>?_) hB hw
    rcases only _ hown h' with h1 | h1
    ·exact hi e h1
    ·exact m h1.1
  | none hmu hown=>
   by_cases m:b∈l
   ·rw [if_pos m];exact .none hmu hown
   ·rw [if_neg m];exact .none hmu hown
 ·have ne:∀ b3,(h.freeze l).get b3≠none→h.get b3≠none:=fun b3 h3 e=>h3 (by rw [getf,e];rfl)
  exact hs.inj b1 b2 q (ne b1 h1) (ne b2 h2) h3 h4
 ·have hb':h.next≤b:=by rw [(get_freeze l h b).2] at hb;exact hb
  exact ⟨(hs.lo b hb').1,by rw [getf,(hs.lo b hb').2];rfl⟩
 ·rw [getf,hn];rfl
 ·rw [(get_freeze l h 0).2];exact Nat.le_refl _
 ·rcases hq with hq | ⟨b,_,x,hx,_,ho⟩
  ·exact .inl hq
  ·exact .inr ((hs.rep b x hx).ge ho)
def TL (w:World) (I:Nat→Prop) (ts:List T) (vs:List Value):Prop:=ts.length=vs.length∧∀ (k:Nat) (t:T) (v:Value),ts[k]?=some t→vs[k]?=some v→TRep w I t v
theorem TL.nil {I:Nat→Prop}:TL w I [] []:=⟨rfl,fun k t v h=>by simp at h⟩
theorem TL.cons {I:Nat→Prop} {t:T} {v:Value} {ts:List T} {vs:List Value} (h:TRep w I t v) (r:TL w I ts vs):TL w I (t::ts) (v::vs):=
 ⟨by simp [r.1],fun k t' v' h1 h2=>by
  cases k with
  | zero=>simp at h1 h2;subst h1;subst h2;exact h
  | succ k=>simp at h1 h2;exact r.2 k t' v' h1 h2⟩
theorem TL.mono {w':World} {I I':Nat→Prop} {ts:List T} {vs:List Value} (h:TL w I ts vs) (hI:∀ r,I r→I' r) (hk:∀ r,I r→w'.heap[r]?=w.heap[r]?):TL w' I' ts vs:=⟨h.1,fun k t v h1 h2=>(h.2 k t v h1 h2).mono hI hk⟩
theorem trep_one {I:Nat→Prop} {t:T} {v:Value} (h:TRep w I t v):v.oneCell'=true:=by
 cases h with
 | v _ ho=>exact ho
 | rows=>rfl
theorem rows_of_row {b r sz n cap:Nat} {get:Fin n→List T} {c:Array Value} {ty:TypeId} {fz:Nat × Nat} {I:Nat→Prop} (hI:∀ r,G.imm r→I r) (hr:I r) (hbl:w.heap[r]?=some (.cells c ty fz)) (hcap:n≤cap) (hc:RowIn G w c sz n get) (hlen:∀ i,(get i).length=sz):
  TRep w I (.rows sz n get) (.slice (some ⟨r,0,none⟩) n cap):=by
 refine .rows sz n get _ cap (fun i k=>(c[i.1*sz+k]?).getD undef) hcap hlen (fun _=>⟨r,0,rfl,hr,fun i k t hk=>?_⟩) (fun i k t hk=>?_)
 ·obtain ⟨v,hv,_⟩:=hc i k t hk
  rw [Nat.zero_add,cell_in hbl,hv];rfl
 ·obtain ⟨v,hv,ht⟩:=hc i k t hk
  rw [hv]
  exact ht.mono hI (fun _ _=>rfl)
theorem take_drop_in {α:Type} {ts:List α} {sz i k:Nat} {t:α} (h:((ts.drop (i*sz)).take sz)[k]?=some t):ts[i*sz+k]?=some t∧k < sz:=by
 rw [List.getElem?_take] at h
 split at h
 ·rename_i hk;rw [List.getElem?_drop] at h;exact ⟨h,hk⟩
 ·cases h
mutual
theorem toT_rep (hs:Sim B0 w0 G h w) {get:Nat→Option B} (hg:∀ b x,get b=some x→h.get b=some x):∀ (d:Nat) (s:S) (v:Value) (t:T) (l:List Nat),toT get d s=some (t,l)→SRep G w s v→TRep w (G.froz h l).imm t v
 | 0,s,v,t,l,ht,_=>by simp [toT] at ht
 | d+1,s,v,t,l,ht,hr=>by
  unfold toT at ht
  split at ht<;>first | (cases ht;done) | skip
  ·rename_i x he
   cases he
   simp only [Option.some.injEq,Prod.mk.injEq] at ht
   obtain ⟨rfl,rfl⟩:=ht
   cases hr with | t hr=>exact hr.mono (fun _ h=>.inl h) (fun _ _=>rfl)
  ·rename_i sz n g he
   cases he
   simp only [Option.some.injEq,Prod.mk.injEq] at ht
   obtain ⟨rfl,rfl⟩:=ht
   cases hr with | full hr=>exact hr.mono (fun _ h=>.inl h) (fun _ _=>rfl)
  ·rename_i d' b n0 he
   cases he
   cases hr with | sl hmu hbase=>
   split at ht
   ·rename_i fz sz n g hb
    simp only [Option.some.injEq,Prod.mk.injEq] at ht
    obtain ⟨rfl,rfl⟩:=ht
    have hrep:=hs.rep b _ (hg _ _ hb)
    cases hrep with
    | row hmu' hown hbl hf hcap hle hc hlen hi hB=>
     rw [hmu] at hmu'
     simp only [Option.some.injEq,Value.slice.injEq] at hmu'
     obtain ⟨rfl,rfl,rfl⟩:=hmu'
     exact rows_of_row (b:=b) (fun _ h=>.inl h) (.inr ⟨b,by simp,_,hg _ _ hb,rfl,hown⟩) hbl hcap hc hlen
    | none hmu' hown=>
     rw [hmu] at hmu'
     simp only [Option.some.injEq,Value.slice.injEq] at hmu'
     obtain ⟨rfl,rfl,rfl⟩:=hmu'
     exact .rows sz 0 _ _ 0 (fun i=>absurd i.2 (Nat.not_lt_zero _)) (Nat.le_refl _) (fun i=>absurd i.2 (Nat.not_lt_zero _)) (fun h=>absurd rfl h) (fun i=>absurd i.2 (Nat.not_lt_zero _))
   ·rename_i fz sz n cs hb
    split at ht
    ·rename_i ts l' hts
     simp only [Option.some.injEq,Prod.mk.injEq] at ht
     obtain ⟨rfl,rfl⟩:=ht
     have hrep:=hs.rep b _ (hg _ _ hb)
     cases hrep with
     | lst hmu' hown hbl hf hle hn hc hi hB=>
      rw [hmu] at hmu'
      simp only [Option.some.injEq,Value.slice.injEq] at hmu'
      obtain ⟨rfl,rfl,rfl⟩:=hmu'
      rename_i r c ty fz'
      have hl:LRep G w cs c.toList:=⟨by simpa using hle.symm,fun k s v h1 h2=>by
       obtain ⟨u,hu,hs'⟩:=hc k s h1
       rw [Array.getElem?_toList] at h2
       rw [hu] at h2
       obtain rfl:=Option.some.inj h2
       exact hs'⟩
      have:=toTs_rep hs hg d cs c.toList ts l' hts hl
      have hlen:=this.1.trans (hl.1.symm.trans hn)
      refine .rows sz _ _ _ _ (fun i k=>(c[i.1*sz+k]?).getD undef) (Nat.le_refl _) (fun i=>?_) (fun _=>⟨r,0,rfl,.inr ⟨b,by simp,_,hg _ _ hb,rfl,hown⟩,fun i k t hk=>?_⟩) (fun i k t hk=>?_)
      ·rw [List.length_take,List.length_drop,hlen]
       have:=i.2
       have:=Nat.mul_le_mul_right sz this
       rw [Nat.succ_eq_add_one,Nat.succ_mul] at this
       omega
      ·obtain ⟨h1,h2⟩:=take_drop_in hk
       have hlt:=(List.getElem?_eq_some_iff.1 h1).1
       rw [this.1,Array.length_toList] at hlt
       rw [Nat.zero_add,cell_in hbl]
       simp [hlt]
      ·obtain ⟨h1,h2⟩:=take_drop_in hk
       have hlt:=(List.getElem?_eq_some_iff.1 h1).1
       rw [this.1,Array.length_toList] at hlt
       have hv:c[i.1*sz+k]?=some c[i.1*sz+k]:=by simp [hlt]
       rw [hv]
       exact (this.2 _ t _ h1 (by simp)).mono (fun _ hi=>froz_mono (fun b hb=>by simp [hb]) hi) (fun _ _=>rfl)
    ·cases ht
   ·cases ht
theorem toTs_rep (hs:Sim B0 w0 G h w) {get:Nat→Option B} (hg:∀ b x,get b=some x→h.get b=some x):∀ (d:Nat) (cs:List S) (vs:List Value) (ts:List T) (l:List Nat),toTs get d cs=some (ts,l)→LRep G w cs vs→TL w (G.froz h l).imm ts vs
 | 0,cs,vs,ts,l,ht,_=>by simp [toTs] at ht
 | d+1,[],vs,ts,l,ht,hr=>by
  simp only [toTs,Option.some.injEq,Prod.mk.injEq] at ht
  obtain ⟨rfl,rfl⟩:=ht
  obtain rfl:vs=[]:=List.length_eq_zero_iff.1 hr.1.symm
  exact .nil
 | d+1,c::cs,vs,ts,l,ht,hr=>by
  obtain ⟨v,r,rfl,hv,hrest⟩:=hr.uncons
  simp only [toTs] at ht
  split at ht
  ·rename_i x l1 h1
   split at ht
   ·rename_i xs l2 h2
    simp only [Option.some.injEq,Prod.mk.injEq] at ht
    obtain ⟨rfl,rfl⟩:=ht
    exact .cons ((toT_rep hs hg d c v x l1 h1 hv).mono (fun _ hi=>froz_mono (fun b hb=>by simp [hb]) hi) (fun _ _=>rfl)) ((toTs_rep hs hg d cs r xs l2 h2 hrest).mono (fun _ hi=>froz_mono (fun b hb=>by simp [hb]) hi) (fun _ _=>rfl))
   ·cases ht
  ·cases ht
end
end
section
variable {P:Program} {G:Gh} {w w0:World} {nt B0:Nat} {fr:Fr} {a:Act} {h:Heap}
theorem setT_len:∀ (xs cs:List T) (o:Nat),(setT cs o xs).length=cs.length
 | [],_,_=>rfl
 | x::r,cs,o=>by simp only [setT];rw [setT_len r];simp
theorem setT_lt:∀ (xs cs:List T) (o k:Nat),k < o→(setT cs o xs)[k]?=cs[k]?
 | [],_,_,_,_=>rfl
 | x::r,cs,o,k,hk=>by
  simp only [setT]
  rw [setT_lt r _ (o+1) k (by omega),List.getElem?_set_ne (by omega)]
theorem setT_ge:∀ (xs cs:List T) (o k:Nat),o+xs.length≤k→(setT cs o xs)[k]?=cs[k]?
 | [],_,_,_,_=>rfl
 | x::r,cs,o,k,hk=>by
  simp only [setT]
  simp only [List.length_cons] at hk
  rw [setT_ge r _ (o+1) k (by omega),List.getElem?_set_ne (by omega)]
theorem setT_in:∀ (xs cs:List T) (o j:Nat),o+xs.length≤cs.length→j < xs.length→(setT cs o xs)[o+j]?=xs[j]?
 | [],_,_,_,_,hj=>by simp at hj
 | x::r,cs,o,0,hl,hj=>by
  simp only [setT]
  rw [setT_lt r _ (o+1) (o+0) (by omega)]
  simp only [List.length_cons] at hl
  rw [Nat.add_zero,List.getElem?_set_self (by omega)]
  rfl
 | x::r,cs,o,j+1,hl,hj=>by
  simp only [setT]
  simp only [List.length_cons] at hl hj
  have:=setT_in r (cs.set o x) (o+1) j (by simp;omega) (by omega)
  rw [show o+(j+1)=o+1+j by omega,this]
  rfl
theorem oneS_cell {s:S} {v:Value} (ho:oneS s=true) (h:SRep G w s v):v.oneCell'=true:=by
 cases h with
 | t h=>exact trep_one h
 | un=>cases ho
 | agg=>cases ho
 | tup=>cases ho
 | ud=>cases ho
 | _=>rfl
theorem lrep_of_cellsIn {cs:List S} {c:Array Value} (hl:c.size=cs.length) (hc:CellsIn G w c cs):LRep G w cs c.toList:=
 ⟨by simpa using hl.symm,fun k s v h1 h2=>by
  obtain ⟨u,hu,hs'⟩:=hc k s h1
  rw [Array.getElem?_toList,hu] at h2
  obtain rfl:=Option.some.inj h2
  exact hs'⟩
theorem toList_eq {c:Array Value} {l:List Value} (h:c.toList=l):c=l.toArray:=Array.ext' (by simpa using h)
theorem bare_size {c c':Array Value} {fz:Nat × Nat} (h:Bare c fz) (hs:c'.size=c.size):Bare c' fz:=by unfold Bare at *;rw [hs];exact h
theorem cells_written {r o:Nat} {c:Array Value} {ty:TypeId} {fz:Nat × Nat} (hbl:w.heap[r]?=some (.cells c ty fz)) (hf:Bare c fz) {us:List Value} (ho:o+us.length≤c.size) (h1:∀ u∈us,u.oneCell'=true):
  ∃ w' c',(storeCells ⟨r,o,none⟩ us).run P w=.ok () w'∧w'.heap[r]?=some (.cells c' ty fz)∧c'.toList=vset c.toList o us∧c'.size=c.size∧(∀ k,k≠r→w'.heap[k]?=w.heap[k]?)∧w'.heap.size=w.heap.size∧w'.os=w.os∧w'.tape=w.tape∧w'.output=w.output:=by
 have hst:=run_storeCells_cells (P:=P) r o us 0 w (fun j hj=>(bare_cell hbl hf (k:=o+0+j) (by omega)).1) (fun j hj=>(bare_cell hbl hf (k:=o+0+j) (by omega)).2) h1
 obtain ⟨c',e1,e2,e3,e4,e5,e6,e7⟩:=setCells_facts r us o w c ty fz hbl
 exact ⟨_,c',hst,e1,e2,by rw [← Array.length_toList,e2,vset_len,Array.length_toList],e3,e4,e5,e6,e7⟩
theorem storeS_run (hs:Sim B0 w0 G h w) {t:TypeId} {p x:S} {vp vx:Value} {h':Heap} (hp:SRep G w p vp) (hx:SRep G w x vx) (hst:storeS P h t p x=some h') (id:Nat):
  ∃ w' G',(Instr.storeAt t vp vx).run P w=.ok () w'∧Sim B0 w0 G' h' w'∧Nx B0 id G h w G' h' w':=by
 unfold storeS at hst
 cases e0:!(P.info? t).isSome || !defS x || !((cellsOfS x).length.beq (P.cellsOf t)) || !((cellsOfS x).all oneS) with
 | true=>rw [e0] at hst;cases hst
 | false=>
  rw [e0,cond_false] at hst
  simp only [Bool.or_eq_false_iff,Bool.not_eq_false'] at e0
  obtain ⟨⟨⟨e1,e2⟩,e3⟩,e4⟩:=e0
  obtain ⟨ie,hie⟩:=Option.isSome_iff_exists.1 e1
  have hl:=srep_cells hx e2
  have hlen:vx.cells.size=P.cellsOf t:=by
   have h1:=Nat.eq_of_beq_eq_true e3
   have:=hl.1
   rw [h1] at this;simpa using this.symm
  have hone:∀ u∈vx.cells.toList,u.oneCell'=true:=fun u hu=>by
   obtain ⟨k,hk,rfl⟩:=List.mem_iff_getElem.1 hu
   have hk':k < (cellsOfS x).length:=by rw [hl.1];exact hk
   exact oneS_cell (List.all_eq_true.1 e4 _ (List.getElem_mem hk')) (hl.2 k _ _ (List.getElem?_eq_getElem hk') (List.getElem?_eq_getElem hk))
  have hus:vx.cells.toList.length=(cellsOfS x).length:=hl.1.symm
  have run:∀ {r o:Nat} {w':World},vp=.pointer (some ⟨r,o,none⟩)→(storeCells ⟨r,o,none⟩ vx.cells.toList).run P w=.ok () w'→(Instr.storeAt t vp vx).run P w=.ok () w':=by
   intro r o w' hv hrun
   rw [hv]
   simp only [Instr.storeAt,Instr.sureAddr,Sem.run_bind,Sem.run_pure,Result.andThen_ok,storeVar,run_sizeOf w hie,hlen,ne_eq,not_true_eq_false,if_false,hrun]
  split at hst
  ·rename_i b o
   cases hp with | ptr hmu=>
   split at hst
   ·rename_i cs hb
    cases e5:(o+(cellsOfS x).length).ble cs.length with
    | false=>rw [e5] at hst;cases hst
    | true=>
     rw [e5,cond_true] at hst
     obtain rfl:=Option.some.inj hst
     have hrep:=hs.rep b _ hb
     cases hrep with | box hmu' hown hbl hf hle hc hi hB=>
     rw [hmu] at hmu'
     simp only [Option.some.injEq,Value.pointer.injEq,Addr.mk.injEq,and_true] at hmu'
     subst hmu'
     have hle2:=Nat.le_of_ble_eq_true e5
     obtain ⟨w',c',hrun,hb',hc',hsz',hk,hsz,hos,hta,hou⟩:=cells_written (P:=P) (o:=o) (us:=vx.cells.toList) hbl hf (by rw [hus,hle];exact hle2) hone
     have hrep':LRep G w (setFrom cs o (cellsOfS x)) c'.toList:=by
      rw [hc'];exact setFrom_rep' _ _ _ _ o (lrep_of_cellsIn hle hc) hl
     have hkeep:∀ q,G.imm q→w'.heap[q]?=w.heap[q]?:=fun q hq=>hk q (fun e=>hi (e ▸ hq))
     obtain ⟨s1,s2⟩:=hs.write hb hown hi hB hk hsz hos hta hou (x':=.box (setFrom cs o (cellsOfS x)))
      (.box hmu hown hb' (bare_size hf hsz') (by have:=hrep'.1;simpa using this.symm) (cellsIn_of_lrep (hrep'.mono (fun _ h=>h) hkeep (fun _ _ h=>h))) hi hB) id
     exact ⟨w',G,run rfl hrun,s1,s2⟩
   ·cases hst
  ·rename_i b z i o
   cases hp with | ep hmu=>
   split at hst
   ·rename_i sz n cs hb
    cases e5:z.beq sz && decide (i < n) && (o+(cellsOfS x).length).ble sz && (i*sz+sz).ble cs.length with
    | false=>rw [e5] at hst;cases hst
    | true=>
     rw [e5,cond_true] at hst
     obtain rfl:=Option.some.inj hst
     simp only [Bool.and_eq_true,decide_eq_true_eq] at e5
     obtain rfl:z=sz:=Nat.eq_of_beq_eq_true e5.1.1.1
     have h1:=Nat.le_of_ble_eq_true e5.1.2
     have h2:=Nat.le_of_ble_eq_true e5.2
     have hrep:=hs.rep b _ hb
     cases hrep with | lst hmu' hown hbl hf hle hn hc hi hB=>
     rw [hmu] at hmu'
     simp only [Option.some.injEq,Value.slice.injEq,Addr.mk.injEq,and_true] at hmu'
     obtain ⟨rfl,rfl,rfl⟩:=hmu'
     obtain ⟨w',c',hrun,hb',hc',hsz',hk,hsz,hos,hta,hou⟩:=cells_written (P:=P) (o:=i*z+o) (us:=vx.cells.toList) hbl hf (by rw [hus,hle];omega) hone
     have hrep':LRep G w (setFrom cs (i*z+o) (cellsOfS x)) c'.toList:=by
      rw [hc'];exact setFrom_rep' _ _ _ _ _ (lrep_of_cellsIn hle hc) hl
     have hi':=hi rfl
     have hkeep:∀ q,G.imm q→w'.heap[q]?=w.heap[q]?:=fun q hq=>hk q (fun e=>hi' (e ▸ hq))
     have hle':c'.size=(setFrom cs (i*z+o) (cellsOfS x)).length:=by have:=hrep'.1;simpa using this.symm
     obtain ⟨s1,s2⟩:=hs.write hb hown hi' hB hk hsz hos hta hou
      (.lst hmu hown hb' (bare_size hf hsz') hle' (by rw [← hle',hsz',hle,hn]) (cellsIn_of_lrep (hrep'.mono (fun _ h=>h) hkeep (fun _ _ h=>h))) hi hB) id
     exact ⟨w',G,run rfl hrun,s1,s2⟩
   ·rename_i sz n g hb
    cases e5:z.beq sz && decide (i < n) && (o+(cellsOfS x).length).ble sz with
    | false=>rw [e5] at hst;cases hst
    | true=>
     rw [e5,cond_true] at hst
     simp only [Bool.and_eq_true,decide_eq_true_eq] at e5
     obtain rfl:z=sz:=Nat.eq_of_beq_eq_true e5.1.1
     have h1:=Nat.le_of_ble_eq_true e5.2
     have hin:=e5.1.2
     split at hst
     ·rename_i ts l hts
      cases e6:l.contains b with
      | true=>rw [e6] at hst;cases hst
      | false=>
       rw [e6,cond_false] at hst
       obtain rfl:=Option.some.inj hst
       have hnl:b∉l:=by simpa using e6
       have htl:=toTs_rep hs (fun _ _ h=>h) depthS _ _ ts l hts hl
       obtain ⟨f1,f2⟩:=hs.freeze l id
       have hb2:(h.freeze l).get b=some (.row false z n g):=by rw [(get_freeze l h b).1,hb];simp [hnl]
       have hrep:=f1.rep b _ hb2
       cases hrep with
       | none=>omega
       | row hmu' hown hbl hf hcap hle hc hlen2 hi hB=>
       have hmuG:G.mu b=_:=hmu'
       rw [hmu] at hmuG
       simp only [Option.some.injEq,Value.slice.injEq,Addr.mk.injEq,and_true] at hmuG
       obtain ⟨rfl,rfl,rfl⟩:=hmuG
       rename_i r n cap x1 x2 c ty fz
       have hiz:i*z+z≤n*z:=by
        have:=Nat.mul_le_mul_right z hin
        rw [Nat.succ_eq_add_one,Nat.succ_mul] at this;exact this
       have hnz:=Nat.mul_le_mul_right z hcap
       obtain ⟨w',c',hrun,hb',hc',hsz',hk,hsz,hos,hta,hou⟩:=cells_written (P:=P) (o:=i*z+o) (us:=vx.cells.toList) hbl hf (by rw [hus];omega) hone
       have hi':=hi rfl
       have hkeep:∀ q,(G.froz h l).imm q→w'.heap[q]?=w.heap[q]?:=fun q hq=>hk q (fun e=>hi' (e ▸ hq))
       have htslen:ts.length=(cellsOfS x).length:=by rw [htl.1,hus]
       obtain ⟨s1,s2⟩:=f1.write hb2 hown hi' hB hk hsz hos hta hou (x':=.row false z n (fun j=>bif j.1.beq i then setT (g j) o ts else g j))
        (.row hmu' hown hb' (bare_size hf hsz') hcap (by rw [hsz'];exact hle) (fun j k t hjk=>by
         have hget:∀ q,c'[q]?=(vset c.toList (i*z+o) vx.cells.toList)[q]?:=fun q=>by rw [← hc',Array.getElem?_toList]
         have old:∀ (t:T),(g j)[k]?=some t→(j.1*z+k < i*z+o∨i*z+o+vx.cells.toList.length≤j.1*z+k)→∃ v,c'[j.1*z+k]?=some v∧TRep w' (G.froz h l).imm t v:=by
          intro t ht hout
          obtain ⟨v,hv,hr⟩:=hc j k t ht
          refine ⟨v,?_,hr.mono (fun _ h=>h) hkeep⟩
          rw [hget]
          rcases hout with hout | hout
          ·rw [vset_lt _ _ _ _ hout,Array.getElem?_toList];exact hv
          ·rw [vset_ge _ _ _ _ hout,Array.getElem?_toList];exact hv
         by_cases hji:j.1=i
         ·have hbe:j.1.beq i=true:=by rw [hji];exact Nat.beq_refl i
          simp only [hbe,cond_true] at hjk
          have hkz:k < z:=by have:=(List.getElem?_eq_some_iff.1 hjk).1;rw [setT_len,hlen2] at this;exact this
          by_cases hko:k < o
          ·rw [setT_lt _ _ _ _ hko] at hjk
           exact old t hjk (.inl (by rw [hji];omega))
          ·by_cases hkl:o+ts.length≤k
           ·rw [setT_ge _ _ _ _ hkl] at hjk
            exact old t hjk (.inr (by rw [hji,hus,← htslen];omega))
           ·have hj2:k=o+(k - o):=by omega
            rw [hj2,setT_in _ _ _ _ (by rw [hlen2,htslen];exact h1) (by omega)] at hjk
            have hul:k - o < vx.cells.toList.length:=by rw [hus,← htslen];omega
            refine ⟨vx.cells.toList[k - o],?_,(htl.2 (k - o) t _ hjk (List.getElem?_eq_getElem hul)).mono (fun _ h=>h) hkeep⟩
            rw [hget,show j.1*z+k=i*z+o+(k - o) by rw [hji];omega,vset_in _ _ _ _ (by have hcl:c.toList.length=c.size:=Array.length_toList;omega) hul]
            exact List.getElem?_eq_getElem hul
         ·have hbe:j.1.beq i=false:=by
           cases e:j.1.beq i with
           | false=>rfl
           | true=>exact absurd (Nat.eq_of_beq_eq_true e) hji
          simp only [hbe,cond_false] at hjk
          have hkz:k < z:=by have:=(List.getElem?_eq_some_iff.1 hjk).1;rw [hlen2] at this;exact this
          refine old t hjk ?_
          rw [hus]
          rcases Nat.lt_or_gt_of_ne hji with hlt | hgt
          ·left
           have:=Nat.mul_le_mul_right z hlt
           rw [Nat.succ_eq_add_one,Nat.succ_mul] at this
           omega
          ·right
           have:=Nat.mul_le_mul_right z hgt
           rw [Nat.succ_eq_add_one,Nat.succ_mul] at this
           omega) (fun j=>by cases e:j.1.beq i<;>simp [e,setT_len,hlen2]) hi hB) id
       exact ⟨w',_,run rfl hrun,s1,f2.trans s2⟩
     ·cases hst
   ·cases hst
  ·cases hst
end
section
variable {P:Program} {G:Gh} {w w0:World} {nt B0:Nat} {fr:Fr} {a:Act} {h:Heap}
def ElemsAt (w:World) (I:Nat→Prop) (r o sz n:Nat) (g:Fin n→List T):Prop:=
 ∀ (i:Fin n) (k:Nat) (t:T),(g i)[k]?=some t→∃ v,w.cell? ⟨r,o+i.1*sz+k,none⟩=some v∧TRep w I t v
def ElemsIn (w:World) (I:Nat→Prop) (l:List Value) (sz n:Nat) (g:Fin n→List T):Prop:=
 l.length=n*sz∧(∀ i,(g i).length=sz)∧(∀ v∈l,v.oneCell'=true)∧∀ (i:Fin n) (k:Nat) (t:T),(g i)[k]?=some t→∃ v,l[i.1*sz+k]?=some v∧TRep w I t v
theorem ElemsIn.mono {w':World} {I I':Nat→Prop} {l:List Value} {sz n:Nat} {g:Fin n→List T} (h:ElemsIn w I l sz n g) (hI:∀ r,I r→I' r) (hk:∀ r,I r→w'.heap[r]?=w.heap[r]?):ElemsIn w' I' l sz n g:=
 ⟨h.1,h.2.1,h.2.2.1,fun i k t ht=>let ⟨v,hv,hr⟩:=h.2.2.2 i k t ht;⟨v,hv,hr.mono hI hk⟩⟩
theorem elems_list {I:Nat→Prop} {r o sz n:Nat} {g:Fin n→List T} (hz:sz≠0) (hl:∀ i,(g i).length=sz) (h:ElemsAt w I r o sz n g):
  ∃ l,ElemsIn w I l sz n g∧∀ j v,l[j]?=some v→w.cell? ⟨r,o+j,none⟩=some v:=by
 have hv:∀ q,q < n*sz→∃ v,w.cell? ⟨r,o+q,none⟩=some v∧v.oneCell'=true:=by
  intro q hq
  have hi:q / sz < n:=Nat.div_lt_of_lt_mul (by rw [Nat.mul_comm];exact hq)
  have hk:q % sz < sz:=Nat.mod_lt _ (by omega)
  obtain ⟨v,hc,ht⟩:=h ⟨q / sz,hi⟩ (q % sz) _ (List.getElem?_eq_getElem (by rw [hl];exact hk))
  refine ⟨v,?_,trep_one ht⟩
  rw [← hc]
  congr 2
  have:=Nat.div_add_mod q sz
  rw [Nat.mul_comm] at this
  simp only
  omega
 have hget:∀ j,j < n*sz→((List.range (n*sz)).map fun q=>(w.cell? ⟨r,o+q,none⟩).getD undef)[j]?=w.cell? ⟨r,o+j,none⟩:=by
  intro j hj
  obtain ⟨v,hv,_⟩:=hv j hj
  rw [List.getElem?_map,List.getElem?_range hj,Option.map_some,hv]
  rfl
 refine ⟨(List.range (n*sz)).map fun q=>(w.cell? ⟨r,o+q,none⟩).getD undef,⟨by simp,hl,fun v hm=>?_,fun i k t ht=>?_⟩,fun j v hj=>?_⟩
 ·obtain ⟨q,hq,rfl⟩:=List.mem_map.1 hm
  obtain ⟨v,hv,ho⟩:=hv q (List.mem_range.1 hq)
  rw [hv];exact ho
 ·obtain ⟨v,hc,hr⟩:=h i k t ht
  have hk:k < sz:=by have:=(List.getElem?_eq_some_iff.1 ht).1;rwa [hl] at this
  have hq:i.1*sz+k < n*sz:=by
   have:=Nat.mul_le_mul_right sz i.2
   rw [Nat.succ_eq_add_one,Nat.succ_mul] at this;omega
  refine ⟨v,?_,hr⟩
  rw [hget _ hq,← Nat.add_assoc];exact hc
 ·have hlt:j < n*sz:=by have:=(List.getElem?_eq_some_iff.1 hj).1;simpa using this
  rw [hget j hlt] at hj
  exact hj
def Yields (P:Program) (w:World) (I:Nat→Prop) (v:Value) (sz n cap:Nat) (g:Fin n→List T):Prop:=
 ∃ base l,v=.slice base n cap∧ElemsIn w I l sz n g∧(∀ w',w'.heap=w.heap→(Builtin.firstCells sz n v).run P w'=.ok l.toArray w')∧(n≠0→∃ r o,base=some ⟨r,o,none⟩)
theorem yields_at {I:Nat→Prop} {sz n cap r o:Nat} {g:Fin n→List T} (hz:sz≠0) (hl:∀ i,(g i).length=sz) (h:ElemsAt w I r o sz n g):Yields P w I (.slice (some ⟨r,o,none⟩) n cap) sz n cap g:=by
 obtain ⟨l,h1,h2⟩:=elems_list hz hl h
 refine ⟨_,l,rfl,h1,fun w' hw=>?_,fun _=>⟨r,o,rfl⟩⟩
 refine run_firstCells_some w' sz n ⟨r,o,none⟩ n cap l h1.1 (fun j v hj=>?_)
 rw [addr_add]
 have:=h2 j v hj
 rwa [← cell_of_heap (w:=w) (w':=w') (a:=⟨r,o+j,none⟩) (by rw [hw])] at this
theorem yields_zero {I:Nat→Prop} {sz cap:Nat} {g:Fin 0→List T} (base:Option Addr):Yields P w I (.slice base 0 cap) sz 0 cap g:=by
 refine ⟨base,[],rfl,⟨by simp,fun i=>absurd i.2 (Nat.not_lt_zero _),(fun v h=>by cases h),fun i=>absurd i.2 (Nat.not_lt_zero _)⟩,fun w' _=>?_,fun h=>absurd rfl h⟩
 cases base with
 | none=>exact run_firstCells_none w' sz 0 0 cap
 | some a=>exact run_firstCells_some w' sz 0 a 0 cap [] (by simp) (fun j v hj=>by simp at hj)
theorem yields_rows {I:Nat→Prop} {sz n:Nat} {g:Fin n→List T} {v:Value} (hz:sz≠0) (h:TRep w I (.rows sz n g) v):∃ cap,Yields P w I v sz n cap g∧n≤cap:=by
 cases h with
 | rows _ _ _ base cap vs hcap hlen hb hc=>
  refine ⟨cap,?_,hcap⟩
  by_cases hn:n=0
  ·subst hn;exact yields_zero base
  ·obtain ⟨r,o,rfl,_,hcell⟩:=hb hn
   exact yields_at hz hlen (fun i k t ht=>⟨_,hcell i k t ht,hc i k t ht⟩)
theorem Yields.mono {w':World} {I I':Nat→Prop} {v:Value} {sz n cap:Nat} {g:Fin n→List T} (h:Yields P w I v sz n cap g) (hI:∀ r,I r→I' r) (hw:w'.heap=w.heap):Yields P w' I' v sz n cap g:=by
 obtain ⟨base,l,e,h1,h2,h3⟩:=h
 exact ⟨base,l,e,h1.mono hI (fun _ _=>by rw [hw]),fun w2 h=>h2 w2 (h.trans hw),h3⟩
theorem Yields.src {I:Nat→Prop} {v:Value} {sz n cap:Nat} {g:Fin n→List T} {tx e':TypeId} (hk:P.underlying tx=some (.slice e')) (h:Yields P w I v sz n cap g):∃ l,Src P sz tx v n l w∧ElemsIn w I l sz n g:=by
 obtain ⟨base,l,rfl,h1,h2,h3⟩:=h
 exact ⟨l,⟨.inl ⟨e',hk⟩,fun _=>rfl,h2 w rfl,h2 w.drew rfl,h1.1,h1.2.2.1⟩,h1⟩
theorem appGet_len {sz n m:Nat} {g:Fin n→List T} {g':Fin m→List T} (h:∀ i,(g i).length=sz) (h':∀ i,(g' i).length=sz) (i:Fin (n+m)):(appGet g g' i).length=sz:=by
 unfold appGet;split
 ·exact h _
 ·exact h' _
theorem ElemsIn.app {I:Nat→Prop} {l l':List Value} {sz n m:Nat} {g:Fin n→List T} {g':Fin m→List T} (h:ElemsIn w I l sz n g) (h':ElemsIn w I l' sz m g'):ElemsIn w I (l++l') sz (n+m) (appGet g g'):=by
 refine ⟨by rw [List.length_append,h.1,h'.1,Nat.add_mul],appGet_len h.2.1 h'.2.1,fun v hv=>?_,fun i k t ht=>?_⟩
 ·rcases List.mem_append.1 hv with hv | hv
  ·exact h.2.2.1 v hv
  ·exact h'.2.2.1 v hv
 ·have hk:k < sz:=by have:=(List.getElem?_eq_some_iff.1 ht).1;rwa [appGet_len h.2.1 h'.2.1] at this
  unfold appGet at ht
  split at ht
  ·rename_i hi
   obtain ⟨v,hv,hr⟩:=h.2.2.2 ⟨i.1,hi⟩ k t ht
   exact ⟨v,by rw [List.getElem?_append_left (List.getElem?_eq_some_iff.1 hv).1];exact hv,hr⟩
  ·rename_i hi
   obtain ⟨v,hv,hr⟩:=h'.2.2.2 ⟨i.1 - n,by have:=i.2;omega⟩ k t ht
   refine ⟨v,?_,hr⟩
   have e:i.1*sz=n*sz+(i.1 - n)*sz:=by rw [← Nat.add_mul];congr 1;omega
   rw [e,List.getElem?_append_right (by rw [h.1];omega),h.1,show n*sz+(i.1 - n)*sz+k - n*sz=(i.1 - n)*sz+k by omega]
   exact hv
theorem ElemsIn.row {I:Nat→Prop} {c:Array Value} {l:List Value} {sz n:Nat} {g:Fin n→List T} (hI:I=G.imm) (h:ElemsIn w I l sz n g) (hc:∀ (j:Nat) (v:Value),l[j]?=some v→c[j]?=some v):RowIn G w c sz n g:=fun i k t ht=>by
 obtain ⟨v,hv,hr⟩:=h.2.2.2 i k t ht
 exact ⟨v,hc _ _ hv,hI ▸ hr⟩
theorem Sim.drew (hs:Sim B0 w0 G h w):Sim B0 w0 G h w.drew:=
 ⟨hs.below.drew,hs.imm,fun b x hb=>(hs.rep b x hb).mono (fun _ h=>h) (fun _ _ h=>h) (fun _ _=>rfl) (fun _ _ h=>h) rfl (fun _ _=>rfl),hs.inj,hs.lo,hs.b0,hs.nold⟩
theorem Sim.del (hs:Sim B0 w0 G h w) (b id:Nat):Sim B0 w0 G (h.del b) w∧Nx B0 id G h w G (h.del b) w:=by
 refine ⟨⟨hs.below,hs.imm,fun c x hc=>?_,fun b1 b2 q h1 h2 h3 h4=>?_,fun c hc=>⟨(hs.lo c hc).1,?_⟩,hs.b0,hs.nold⟩,⟨fun _ h=>h,fun _ _=>rfl,fun _ _ _=>rfl,fun c _ _ hn=>?_,Nat.le_refl _,fun _ h=>.inl h,KeepLd.refl w⟩⟩
 ·rw [get_del] at hc
  split at hc
  ·cases hc
  ·exact hs.rep c x hc
 ·have ne:∀ c,(h.del b).get c≠none→h.get c≠none:=fun c hc e=>hc (by rw [get_del];split<;>simp [e])
  exact hs.inj b1 b2 q (ne b1 h1) (ne b2 h2) h3 h4
 ·rw [get_del];split
  ·rfl
  ·exact (hs.lo c hc).2
 ·rw [get_del];split
  ·rfl
  ·exact hn
theorem Sim.renew (hs:Sim B0 w0 G h w) {id:Nat} (hlt:id < h.next) (hid:G.mu id=none) (hh:h.get id=none) {v:Value} {or:Option Nat} (hno:∀ b r,h.get b≠none→G.own b=some r→or≠some r) (hni:∀ r,or=some r→¬ G.imm r∧B0≤r∧∀ o,w.heap[r]?=some o→isLD o=false)
  {w':World} (hk:∀ k,or≠some k→w'.heap[k]?=w.heap[k]?) (hsz:w'.heap.size=w.heap.size) (hos:w'.os=w.os) (htape:w'.tape=w.tape) (hout:w'.output=w.output) {x:B}
  (hx:BRep (G.with id v or) B0 w' id x):Sim B0 w0 (G.with id v or) (h.put id x) w'∧Nx B0 id G h w (G.with id v or) (h.put id x) w':=by
 have hm:=G.with_mu id v or hid
 have hkeep:∀ q,G.imm q→w'.heap[q]?=w.heap[q]?:=fun q hq=>hk q (fun e=>(hni q e).1 hq)
 have hbe:Below B0 w w':=⟨hos,htape,hout,by omega,fun k hk'=>hk k (fun e=>by have:=(hni k e).2.1;omega)⟩
 have oth:∀ b,b≠id→(G.with id v or).own b=G.own b:=fun b hb=>by show (if _ then _ else _)=_;rw [if_neg hb]
 have own1:(G.with id v or).own id=or:=by show (if _ then _ else _)=_;rw [if_pos rfl]
 refine ⟨⟨hs.below.trans hbe,fun q hq=>by rw [hsz];exact hs.imm q hq,fun b y hb=>?_,fun b1 b2 q h1 h2 h3 h4=>?_,fun b hb=>?_,by rw [hsz];exact hs.b0,hs.nold.mono hkeep⟩,⟨fun _ h=>h,hkeep,fun b hb _=>?_,fun b hb _ hn=>?_,Nat.le_refl _,fun _ h=>.inl h,fun k o hk1 hl=>(hk k (fun e=>by have hq:=(hni k e).2.2 o hk1;rw [hq] at hl;cases hl)).trans hk1⟩⟩
 ·rw [get_put] at hb
  split at hb
  ·rename_i e
   subst e
   obtain rfl:=Option.some.inj hb
   exact hx
  ·rename_i e
   refine (hs.rep b y hb).mono (fun _ h=>h) (fun _ _ h=>h) hkeep hm (oth b (fun e'=>e e'.symm)) (fun q hq=>hk q (hno b q (by rw [hb];simp) hq))
 ·have ow:∀ b r,(h.put id x).get b≠none→(G.with id v or).own b=some r→(b=id∧or=some r)∨(b≠id∧h.get b≠none∧G.own b=some r):=by
   intro b r hb ho
   by_cases e:b=id
   ·subst e;rw [own1] at ho;exact .inl ⟨rfl,ho⟩
   ·rw [get_put,if_neg (fun e'=>e e'.symm)] at hb
    rw [oth b e] at ho
    exact .inr ⟨e,hb,ho⟩
  rcases ow b1 q h1 h3 with ⟨rfl,e1⟩ | ⟨n1,a1,o1⟩<;>rcases ow b2 q h2 h4 with ⟨rfl,e2⟩ | ⟨n2,a2,o2⟩
  ·rfl
  ·exact absurd e1 (hno b2 q a2 o2)
  ·exact absurd e2 (hno b1 q a1 o1)
  ·exact hs.inj b1 b2 q a1 a2 o1 o2
 ·have hb':h.next≤b:=hb
  have hne:b≠id:=by omega
  refine ⟨?_,?_⟩
  ·show (if _ then _ else _)=_
   rw [if_neg hne];exact (hs.lo b hb').1
  ·rw [get_put,if_neg (fun e=>hne e.symm)];exact (hs.lo b hb').2
 ·show (if _ then _ else _)=_
  rw [if_neg hb]
 ·rw [get_put,if_neg (fun e=>hb e.symm)];exact hn
end
section
variable {P:Program} {G:Gh} {w w0:World} {nt B0:Nat} {fr:Fr} {a:Act} {h:Heap}
theorem elemOk_spec {e:TypeId} (h:elemOk P e=true):∃ i z,P.info? e=some i∧i.zero=some z∧P.cellsOf e≠0∧z.cells.size=P.cellsOf e∧i.size=P.cellsOf e∧i.bytes=P.bytesOf e:=by
 unfold elemOk at h
 split at h
 ·rename_i z hz
  obtain ⟨i,v,hi,hv,rfl⟩:=zeroS_spec hz
  simp only [Bool.and_eq_true,Bool.not_eq_true'] at h
  have h1:=Nat.eq_of_beq_eq_true h.1.2
  have hr:=constS_def (G:=⟨fun _=>none,fun _=>none,fun _=>False⟩) (w:=default) h.2
  have h2:P.cellsOf e≠0:=fun h0=>by
   have:=h.1.1
   rw [h0] at this
   cases this
  refine ⟨i,v,hi,hv,h2,?_,(cellsOf_of_info hi).symm,by simp [Program.bytesOf,hi]⟩
  have:=hr.1
  rw [h1] at this;simpa using this.symm
 ·cases h
theorem zeroCells_size (z:Array Value) (n:Nat):(Builtin.zeroCells z n).size=n*z.size:=by simp [Builtin.zeroCells]
theorem append_grow (hs:Sim B0 w0 G h w) {id:Nat} (hlt:id < h.next) (hid:G.mu id=none) (hh:h.get id=none) {t u e e' ty:TypeId} (ht:P.underlying t=some (.slice e)) (hu:P.underlying u=some (.slice e')) (hok:elemOk P e=true)
  {vx vy:Value} {n m cap capy:Nat} {g:Fin n→List T} {g':Fin m→List T} (hx:Yields P w G.imm vx (P.cellsOf e) n cap g) (hy:Yields P w G.imm vy (P.cellsOf e) m capy g') (hcap:cap < n+m) (hb:(n+m)*P.bytesOf e≤roomMax) (hn:n+m≤roomMax):
  ∃ v w',(Builtin.append_ #[t,u] ty #[vx,vy]).run P w=.ok v w'∧After B0 w0 id G h w (.sl id (n+m)) (h.put id (.row false (P.cellsOf e) (n+m) (appGet g g'))) v w':=by
 obtain ⟨i,z,hi,hz,hne,hzs,his,hib⟩:=elemOk_spec hok
 obtain ⟨l',hsrc,hl'⟩:=hy.src hu
 obtain ⟨base,l,rfl,hl,hfc,_⟩:=hx
 rw [← his] at hsrc
 have hfit:Builtin.nextslicecap (n+m) cap*i.bytes≤281474976710656:=by
  refine Nat.le_trans (Nat.mul_le_mul_right _ (nextslicecap_le hcap)) ?_
  rw [hib,Nat.mul_assoc]
  unfold roomMax at hb
  omega
 have hrun:=run_append_grow_src w t u ty e i z ht hi hz base n cap l (by rw [his];exact hfc w.drew rfl) vy m l' hsrc hcap (by unfold roomMax at hn;omega) hfit
 refine ⟨_,_,hrun,?_⟩
 have hge:=grownCap_ge w (n+m) cap e
 have happ:=hl.app hl'
 have hs':=hs.drew
 obtain ⟨s1,s2⟩:=hs'.alloc hlt hid hh (c:=(l++l').toArray++Builtin.zeroCells z.cells (grownCap w (n+m) cap e - (n+m))) (ty:=e) (x:=.row false (P.cellsOf e) (n+m) (appGet g g')) (v:=.slice (some ⟨w.heap.size,0,none⟩) (n+m) (grownCap w (n+m) cap e)) (fun G' w' hm hI hk hmu hown hb=>by
  refine .row hmu hown hb (.inl (Nat.le_refl _)) hge ?_ ?_ happ.2.1 (fun _ hi=>?_) hs.b0
  ·simp only [Array.size_append,List.size_toArray,happ.1,zeroCells_size,hzs]
   rw [← Nat.add_mul]
   exact Nat.mul_le_mul_right _ (by omega)
  ·refine (happ.mono (fun _ h=>h) hk).row hI.symm (fun j v hj=>?_)
   rw [Array.getElem?_append_left (by simpa using (List.getElem?_eq_some_iff.1 hj).1)]
   simpa using hj
  ·rw [hI] at hi
   have:=hs.imm _ hi
   omega)
 exact ⟨_,s1,⟨s2.imm,s2.keep,s2.mu,s2.non,s2.next,s2.old,s2.ld⟩,.sl (by show (if _ then _ else _)=_;rw [if_pos rfl]) (fun _=>⟨_,rfl⟩)⟩
theorem append_zero (hs:Sim B0 w0 G h w) {id:Nat} (hlt:id < h.next) (hid:G.mu id=none) (hh:h.get id=none) {t u e e' ty:TypeId} (ht:P.underlying t=some (.slice e)) (hu:P.underlying u=some (.slice e')) (hok:elemOk P e=true)
  {base:Option Addr} {vy:Value} {capy:Nat} {g':Fin 0→List T} (hy:Yields P w G.imm vy (P.cellsOf e) 0 capy g') {g2:Fin 0→List T}:
  (Builtin.append_ #[t,u] ty #[.slice base 0 0,vy]).run P w=.ok (.slice base 0 0) w∧After B0 w0 id G h w (.sl id 0) (h.put id (.row false (P.cellsOf e) 0 g2)) (.slice base 0 0) w:=by
 obtain ⟨i,z,hi,hz,hne,hzs,his,hib⟩:=elemOk_spec hok
 obtain ⟨l',hsrc,hl'⟩:=hy.src hu
 obtain rfl:l'=[]:=List.length_eq_zero_iff.1 (by rw [hl'.1];simp)
 rw [← his] at hsrc
 refine ⟨run_append_nothing w t u ty e i ht hi base 0 0 (Nat.le_refl _) vy hsrc,?_⟩
 obtain ⟨s1,s2⟩:=hs.renew hlt hid hh (v:=.slice base 0 0) (or:=none) (fun _ _ _ _=>by simp) (fun _ h=>by cases h) (w':=w) (fun _ _=>rfl) rfl rfl rfl rfl (x:=.row false (P.cellsOf e) 0 g2)
  (.none (by show (if _ then _ else _)=_;rw [if_pos rfl]) (by show (if _ then _ else _)=_;rw [if_pos rfl]))
 exact ⟨_,s1,s2,.sl (by show (if _ then _ else _)=_;rw [if_pos rfl]) (fun h=>absurd rfl h)⟩
theorem append_room (hs:Sim B0 w0 G h w) {id:Nat} (hlt:id < h.next) (hid:G.mu id=none) (hh:h.get id=none) {t u e e' ty:TypeId} (ht:P.underlying t=some (.slice e)) (hu:P.underlying u=some (.slice e')) (hok:elemOk P e=true)
  {r n m cap capy:Nat} {g:Fin n→List T} {g':Fin m→List T} {vy:Value} {c:Array Value} {tc:TypeId} {fz:Nat × Nat} (hno:∀ b,h.get b≠none→G.own b≠some r) (hni:¬ G.imm r) (hB:B0≤r)
  (hbl:w.heap[r]?=some (.cells c tc fz)) (hf:Bare c fz) (hl:cap*P.cellsOf e≤c.size) (hc:RowIn G w c (P.cellsOf e) n g) (hlen:∀ i,(g i).length=P.cellsOf e) (hy:Yields P w G.imm vy (P.cellsOf e) m capy g') (hcap:n+m≤cap):
  ∃ v w',(Builtin.append_ #[t,u] ty #[.slice (some ⟨r,0,none⟩) n cap,vy]).run P w=.ok v w'∧After B0 w0 id G h w (.sl id (n+m)) (h.put id (.row false (P.cellsOf e) (n+m) (appGet g g'))) v w':=by
 obtain ⟨i,z,hi,hz,hne,hzs,his,hib⟩:=elemOk_spec hok
 obtain ⟨l',hsrc,hl'⟩:=hy.src hu
 rw [← his] at hsrc
 have hsz:n*P.cellsOf e+l'.length≤c.size:=by
  rw [hl'.1,← Nat.add_mul]
  exact Nat.le_trans (Nat.mul_le_mul_right _ hcap) hl
 have hrun:=run_append_room_src w t u ty e i ht hi r 0 n cap vy m l' hsrc hcap (fun j hj=>by rw [his];exact (bare_cell hbl hf (k:=0+n*P.cellsOf e+j) (by omega)).1) (fun j hj=>by rw [his];exact (bare_cell hbl hf (k:=0+n*P.cellsOf e+j) (by omega)).2)
 rw [his,Nat.zero_add] at hrun
 obtain ⟨c',e1,e2,e3,e4,e5,e6,e7⟩:=setCells_facts r l' (n*P.cellsOf e) w c tc fz hbl
 have hcs:c'.size=c.size:=by rw [← Array.length_toList,e2,vset_len,Array.length_toList]
 have hget:∀ q,c'[q]?=(vset c.toList (n*P.cellsOf e) l')[q]?:=fun q=>by rw [← e2,Array.getElem?_toList]
 refine ⟨_,_,hrun,?_⟩
 have hkeep:∀ q,G.imm q→(w.setCells r (n*P.cellsOf e) l').heap[q]?=w.heap[q]?:=fun q hq=>e3 q (fun eq=>hni (eq ▸ hq))
 have hcl:c.toList.length=c.size:=Array.length_toList
 obtain ⟨s1,s2⟩:=hs.renew hlt hid hh (v:=.slice (some ⟨r,0,none⟩) (n+m) cap) (or:=some r) (fun b q hb ho e=>hno b hb (by rw [ho];exact e.symm)) (fun q hq=>by obtain rfl:=Option.some.inj hq;exact ⟨hni,hB,fun o ho=>by rw [hbl] at ho;obtain rfl:=Option.some.inj ho;rfl⟩)
  (fun k hk=>e3 k (fun e=>hk (by rw [e]))) e4 e5 e6 e7 (x:=.row false (P.cellsOf e) (n+m) (appGet g g'))
  (.row (by show (if _ then _ else _)=_;rw [if_pos rfl]) (by show (if _ then _ else _)=_;rw [if_pos rfl]) e1 (bare_size hf hcs) hcap (by rw [hcs];exact hl) (fun j k q hq=>by
   have hk:k < P.cellsOf e:=by have:=(List.getElem?_eq_some_iff.1 hq).1;rwa [appGet_len hlen hl'.2.1] at this
   unfold appGet at hq
   split at hq
   ·rename_i hj
    obtain ⟨v,hv,hr⟩:=hc ⟨j.1,hj⟩ k q hq
    refine ⟨v,?_,hr.mono (fun _ h=>h) hkeep⟩
    have hlt2:=Nat.mul_le_mul_right (P.cellsOf e) hj
    rw [Nat.succ_eq_add_one,Nat.succ_mul] at hlt2
    rw [hget,vset_lt _ _ _ _ (by omega),Array.getElem?_toList]
    exact hv
   ·rename_i hj
    obtain ⟨v,hv,hr⟩:=hl'.2.2.2 ⟨j.1 - n,by have:=j.2;omega⟩ k q hq
    refine ⟨v,?_,hr.mono (fun _ h=>h) hkeep⟩
    have hlt3:=(List.getElem?_eq_some_iff.1 hv).1
    have eqm:j.1*P.cellsOf e=n*P.cellsOf e+(j.1 - n)*P.cellsOf e:=by rw [← Nat.add_mul];congr 1;omega
    rw [hget,eqm,Nat.add_assoc,vset_in _ _ _ _ (by omega) hlt3]
    exact hv) (appGet_len hlen hl'.2.1) (fun _=>hni) hB)
 exact ⟨_,s1,s2,.sl (by show (if _ then _ else _)=_;rw [if_pos rfl]) (fun _=>⟨r,rfl⟩)⟩
end
section
variable {P:Program} {G:Gh} {w w0:World} {nt B0:Nat} {fr:Fr} {a:Act} {h:Heap}
theorem lst_elems (hs:Sim B0 w0 G h w) {get:Nat→Option B} (hg:∀ b x,get b=some x→h.get b=some x) {d sz n:Nat} {cs:List S} {c:Array Value} {ts:List T} {l:List Nat} (hts:toTs get d cs=some (ts,l)) (hle:c.size=cs.length) (hn:cs.length=n*sz) (hc:CellsIn G w c cs):
  RowIn (G.froz h l) w c sz n (fun i=>(ts.drop (i.1*sz)).take sz)∧∀ i:Fin n,((ts.drop (i.1*sz)).take sz).length=sz:=by
 have htl:=toTs_rep hs hg d cs c.toList ts l hts (lrep_of_cellsIn hle hc)
 have hlen:ts.length=n*sz:=by rw [htl.1,Array.length_toList,hle,hn]
 refine ⟨fun i k t hk=>?_,fun i=>?_⟩
 ·obtain ⟨h1,h2⟩:=take_drop_in hk
  have hlt:=(List.getElem?_eq_some_iff.1 h1).1
  rw [htl.1,Array.length_toList] at hlt
  have hv:c[i.1*sz+k]?=some c[i.1*sz+k]:=by simp [hlt]
  exact ⟨_,hv,htl.2 _ t _ h1 (by rw [Array.getElem?_toList];exact hv)⟩
 ·rw [List.length_take,List.length_drop,hlen]
  have:=Nat.mul_le_mul_right sz i.2
  rw [Nat.succ_eq_add_one,Nat.succ_mul] at this
  omega
theorem elemsAt_row {r sz n:Nat} {g:Fin n→List T} {c:Array Value} {ty:TypeId} {fz:Nat × Nat} (hbl:w.heap[r]?=some (.cells c ty fz)) (hc:RowIn G w c sz n g):ElemsAt w G.imm r 0 sz n g:=fun i k t ht=>by
 obtain ⟨v,hv,hr⟩:=hc i k t ht
 exact ⟨v,by rw [Nat.zero_add,cell_in hbl];exact hv,hr⟩
theorem sourceS_spec (hs:Sim B0 w0 G h w) {get:Nat→Option B} (hg:∀ b x,get b=some x→h.get b=some x) {sz m:Nat} {y:S} {vy:Value} {g':Fin m→List T} {l:List Nat} (hz:sz≠0) (hy:SRep G w y vy) (hsrc:sourceS get sz y=some ⟨m,g',l⟩):
  ∃ cap,Yields P w (G.froz h l).imm vy sz m cap g':=by
 have up:∀ {v:Value} {n cap:Nat} {g:Fin n→List T},Yields P w G.imm v sz n cap g→Yields P w (G.froz h l).imm v sz n cap g:=fun hh=>hh.mono (fun _ h=>.inl h) rfl
 unfold sourceS at hsrc
 split at hsrc
 ·rename_i sz' n g
  cases e:sz'.beq sz with
  | false=>rw [e] at hsrc;cases hsrc
  | true=>
   rw [e] at hsrc
   obtain rfl:=Nat.eq_of_beq_eq_true e
   cases hsrc
   cases hy with | t hy=>
   obtain ⟨cap,h1,_⟩:=yields_rows (P:=P) hz hy
   exact ⟨cap,up h1⟩
 ·rename_i sz' n g
  cases e:sz'.beq sz with
  | false=>rw [e] at hsrc;cases hsrc
  | true=>
   rw [e] at hsrc
   obtain rfl:=Nat.eq_of_beq_eq_true e
   cases hsrc
   cases hy with | full hy=>
   obtain ⟨cap,h1,_⟩:=yields_rows (P:=P) hz hy
   exact ⟨cap,up h1⟩
 ·obtain ⟨rfl,_⟩:=srep_v hy
  cases hsrc
  exact ⟨_,up (yields_zero _)⟩
 ·rename_i b n0
  cases hy with | sl hmu hbase=>
  split at hsrc
  ·rename_i fz sz' n g hb
   cases e:sz'.beq sz with
   | false=>rw [e] at hsrc;cases hsrc
   | true=>
    rw [e] at hsrc
    obtain rfl:=Nat.eq_of_beq_eq_true e
    cases hsrc
    have hrep:=hs.rep b _ (hg _ _ hb)
    cases hrep with
    | row hmu' hown hbl hf hcap hle hc hlen hi hB=>
     rw [hmu] at hmu'
     simp only [Option.some.injEq,Value.slice.injEq] at hmu'
     obtain ⟨rfl,rfl,rfl⟩:=hmu'
     exact ⟨_,up (yields_at hz hlen (elemsAt_row hbl hc))⟩
    | none hmu' hown=>
     rw [hmu] at hmu'
     simp only [Option.some.injEq,Value.slice.injEq] at hmu'
     obtain ⟨rfl,rfl,rfl⟩:=hmu'
     exact ⟨_,up (yields_zero _)⟩
  ·rename_i fz sz' n cs hb
   cases e:sz'.beq sz with
   | false=>rw [e] at hsrc;cases hsrc
   | true=>
    rw [e,cond_true] at hsrc
    obtain rfl:=Nat.eq_of_beq_eq_true e
    split at hsrc
    ·rename_i ts l' hts
     cases hsrc
     have hrep:=hs.rep b _ (hg _ _ hb)
     cases hrep with
     | lst hmu' hown hbl hf hle hn hc hi hB=>
      rw [hmu] at hmu'
      simp only [Option.some.injEq,Value.slice.injEq] at hmu'
      obtain ⟨rfl,rfl,rfl⟩:=hmu'
      obtain ⟨h1,h2⟩:=lst_elems hs hg hts hle hn hc
      exact ⟨_,yields_at hz h2 (elemsAt_row hbl h1)⟩
    ·cases hsrc
  ·cases hsrc
 ·cases hsrc
inductive Dest (B0:Nat) (G:Gh) (w:World) (b sz:Nat):(n:Nat)→(Fin n→List T)→Prop
 | none {base:Option Addr} {g:Fin 0→List T} (hmu:G.mu b=some (.slice base 0 0)):Dest B0 G w b sz 0 g
 | row {n r cap:Nat} {g:Fin n→List T} {c:Array Value} {ty:TypeId} {fz:Nat × Nat} (hmu:G.mu b=some (.slice (some ⟨r,0,none⟩) n cap)) (hown:G.own b=some r) (hbl:w.heap[r]?=some (.cells c ty fz)) (hf:Bare c fz) (hcap:n≤cap) (hl:cap*sz≤c.size)
   (hc:RowIn G w c sz n g) (hlen:∀ i,(g i).length=sz) (hi:¬ G.imm r) (hB:B0≤r):Dest B0 G w b sz n g
theorem destS_spec (hs:Sim B0 w0 G h w) {sz b n:Nat} {g:Fin n→List T} {l:List Nat} (hd:destS h.get sz b=some ⟨n,g,l⟩):Dest B0 (G.froz h l) w b sz n g∧h.get b≠none:=by
 unfold destS at hd
 split at hd
 ·rename_i sz' n g hb
  cases e:sz'.beq sz with
  | false=>rw [e] at hd;cases hd
  | true=>
   rw [e] at hd
   obtain rfl:=Nat.eq_of_beq_eq_true e
   cases hd
   refine ⟨?_,by rw [hb];simp⟩
   have hrep:=(hs.freeze [] 0).1.rep b _ (by rw [(get_freeze [] h b).1,hb];rfl)
   cases hrep with
   | row hmu' hown hbl hf hcap hle hc hlen hi hB=>exact .row hmu' hown hbl hf hcap hle hc hlen (hi rfl) hB
   | none hmu' hown=>exact .none hmu'
 ·rename_i sz' n cs hb
  cases e:sz'.beq sz with
  | false=>rw [e] at hd;cases hd
  | true=>
   rw [e,cond_true] at hd
   obtain rfl:=Nat.eq_of_beq_eq_true e
   split at hd
   ·rename_i ts l' hts
    cases e2:l'.contains b with
    | true=>rw [e2] at hd;cases hd
    | false=>
     rw [e2] at hd
     cases hd
     have hnl:b∉l:=by simpa using e2
     refine ⟨?_,by rw [hb];simp⟩
     have hrep:=hs.rep b _ hb
     have hrep2:=(hs.freeze l 0).1.rep b (.lst false sz' n cs) (by rw [(get_freeze l h b).1,hb];simp [hnl])
     cases hrep with
     | lst hmu' hown hbl hf hle hn hc hi hB=>
      obtain ⟨h1,h2⟩:=lst_elems hs (fun _ _ h=>h) hts hle hn hc
      cases hrep2 with
      | lst hmu2 hown2 hbl2 hf2 hle2 hn2 hc2 hi2 hB2=>
       have:G.own b=_:=hown2
       rw [hown] at this
       obtain rfl:=Option.some.inj this
       exact .row hmu' hown hbl hf (Nat.le_refl _) (by rw [hle,hn];exact Nat.le_refl _) h1 h2 (hi2 rfl) hB
   ·cases hd
 ·cases hd
theorem append_dest (hs:Sim B0 w0 G h w) {id:Nat} (hlt:id < h.next) (hid:G.mu id=none) (hh:h.get id=none) {t u e e' ty:TypeId} (ht:P.underlying t=some (.slice e)) (hu:P.underlying u=some (.slice e')) (hok:elemOk P e=true)
  {b n0 n m capy:Nat} {g:Fin n→List T} {g':Fin m→List T} {vx vy:Value} (hd:Dest B0 G w b (P.cellsOf e) n g) (hbn:h.get b≠none) (hx:SRep G w (.sl b n0) vx) (hY:Yields P w G.imm vy (P.cellsOf e) m capy g') (hb1:(n+m)*P.bytesOf e≤roomMax) (hb2:n+m≤roomMax):
  ∃ v w',(Builtin.append_ #[t,u] ty #[vx,vy]).run P w=.ok v w'∧After B0 w0 id G h w (.sl id (n+m)) ((h.del b).put id (.row false (P.cellsOf e) (n+m) (appGet g g'))) v w':=by
 obtain ⟨_,_,_,_,hne,_⟩:=elemOk_spec hok
 obtain ⟨d1,d2⟩:=hs.del b id
 have hh3:(h.del b).get id=none:=by
  rw [get_del]
  split
  ·rfl
  ·exact hh
 have fin3:∀ {s:S} {h2:Heap} {v:Value} {w':World},After B0 w0 id G (h.del b) w s h2 v w'→After B0 w0 id G h w s h2 v w':=fun ⟨G',a1,a2,a3⟩=>⟨G',a1,d2.trans a2,a3⟩
 cases hx with | @sl _ _ cap0 base0 hmu hbase=>
 cases hd with
 | @none base g2 hmu'=>
  rw [hmu] at hmu'
  simp only [Option.some.injEq,Value.slice.injEq] at hmu'
  obtain ⟨e1,e2,e3⟩:=hmu'
  subst e2;subst e3
  by_cases hm:m=0
  ·subst hm
   obtain ⟨r1,r2⟩:=append_zero d1 hlt hid hh3 ht hu hok (ty:=ty) hY (g2:=appGet g2 g')
   exact ⟨_,_,r1,fin3 r2⟩
  ·obtain ⟨v,w',r1,r2⟩:=append_grow d1 hlt hid hh3 ht hu hok (ty:=ty) (yields_zero (cap:=0) (g:=g2) base0) hY (by omega) hb1 hb2
   exact ⟨v,w',r1,fin3 r2⟩
 | @row n' r cap g2 c tc fz hmu' hown hbl hf hcap hle hc hlen hi hB=>
  rw [hmu] at hmu'
  simp only [Option.some.injEq,Value.slice.injEq] at hmu'
  obtain ⟨e1,e2,e3⟩:=hmu'
  subst e1;subst e2;subst e3
  by_cases hroom:n0+m≤cap0
  ·have hno:∀ b',(h.del b).get b'≠none→G.own b'≠some r:=fun b' hb' ho=>by
    have hne2:b'≠b:=fun e=>hb' (by rw [e,get_del,if_pos rfl])
    rw [get_del,if_neg (fun e=>hne2 e.symm)] at hb'
    exact hne2 (hs.inj b' b r hb' hbn ho hown)
   obtain ⟨v,w',r1,r2⟩:=append_room d1 hlt hid hh3 ht hu hok (ty:=ty) (r:=r) hno hi hB hbl hf hle hc hlen hY hroom
   exact ⟨v,w',r1,fin3 r2⟩
  ·obtain ⟨v,w',r1,r2⟩:=append_grow d1 hlt hid hh3 ht hu hok (ty:=ty) (yields_at (cap:=cap0) hne hlen (elemsAt_row hbl hc)) hY (by omega) hb1 hb2
   exact ⟨v,w',r1,fin3 r2⟩
theorem appendS_run (hs:Sim B0 w0 G h w) {id:Nat} (hlt:id < h.next) (hid:G.mu id=none) (hh:h.get id=none) {t u e e' ty:TypeId} (ht:P.underlying t=some (.slice e)) (hu:P.underlying u=some (.slice e'))
  {x y s:S} {vx vy:Value} {h':Heap} (hx:SRep G w x vx) (hy:SRep G w y vy) (hap:appendS P h id e x y=some (s,h')):
  ∃ v w',(Builtin.append_ #[t,u] ty #[vx,vy]).run P w=.ok v w'∧After B0 w0 id G h w s h' v w':=by
 unfold appendS at hap
 cases hok:elemOk P e with
 | false=>rw [hok] at hap;cases hap
 | true=>
  rw [hok,Bool.not_true,cond_false] at hap
  have hne:P.cellsOf e≠0:=by obtain ⟨_,_,_,_,h3,_⟩:=elemOk_spec hok;exact h3
  split at hap
  ·cases hap
  ·rename_i m g' l hsrc
   obtain ⟨capy,hY⟩:=sourceS_spec (P:=P) hs (fun _ _ h=>h) hne hy hsrc
   obtain ⟨f1,f2⟩:=hs.freeze l id
   have fid:(G.froz h l).mu id=none:=hid
   have fnx:(h.freeze l).next=h.next:=(get_freeze l h 0).2
   have fh:(h.freeze l).get id=none:=by rw [(get_freeze l h id).1,hh];rfl
   have fin:∀ {s:S} {h2:Heap} {v:Value} {w':World},After B0 w0 id (G.froz h l) (h.freeze l) w s h2 v w'→After B0 w0 id G h w s h2 v w':=fun ⟨G',a1,a2,a3⟩=>⟨G',a1,f2.trans a2,a3⟩
   split at hap
   ·obtain ⟨rfl,_⟩:=srep_v hx
    cases e1:(m*P.bytesOf e).ble roomMax && m.ble roomMax with
    | false=>rw [e1] at hap;cases hap
    | true=>
     rw [e1,cond_true] at hap
     simp only [Option.some.injEq,Prod.mk.injEq] at hap
     obtain ⟨rfl,rfl⟩:=hap
     rw [Bool.and_eq_true] at e1
     by_cases hm:m=0
     ·subst hm
      obtain ⟨r1,r2⟩:=append_zero f1 (by rw [fnx];exact hlt) fid fh ht hu hok (ty:=ty) (base:=none) hY (g2:=g')
      exact ⟨_,_,r1,fin r2⟩
     ·have hX:Yields P w (G.froz h l).imm (.slice none 0 0) (P.cellsOf e) 0 0 (fun i=>absurd i.2 (Nat.not_lt_zero _)):=yields_zero _
      obtain ⟨v,w',r1,r2⟩:=append_grow f1 (by rw [fnx];exact hlt) fid fh ht hu hok (ty:=ty) hX hY (by omega) (by rw [Nat.zero_add];exact Nat.le_of_ble_eq_true e1.1) (by rw [Nat.zero_add];exact Nat.le_of_ble_eq_true e1.2)
      refine ⟨v,w',r1,fin ?_⟩
      have eg:appGet (fun i=>absurd i.2 (Nat.not_lt_zero _):Fin 0→List T) g'=fun i=>g' ⟨i.1,by have:=i.2;omega⟩:=by
       funext i
       unfold appGet
       rw [dif_neg (Nat.not_lt_zero _)]
       rfl
      have eb:(B.row false (P.cellsOf e) (0+m) (appGet (fun i=>absurd i.2 (Nat.not_lt_zero _):Fin 0→List T) g'))=.row false (P.cellsOf e) m g':=by
       rw [eg]
       have key:∀ (k:Nat) (hk:k=m) (g2:Fin k→List T),(∀ i,g2 i=g' ⟨i.1,by have:=i.2;omega⟩)→B.row false (P.cellsOf e) k g2=.row false (P.cellsOf e) m g':=by
        intro k hk g2 hg2
        subst hk
        congr 1
        funext i;exact hg2 i
       exact key (0+m) (Nat.zero_add m) _ (fun i=>rfl)
      rw [eb,Nat.zero_add] at r2
      exact r2
   ·rename_i sz n g
    cases e1:sz.beq (P.cellsOf e) && ((n+m)*P.bytesOf e).ble roomMax && (n+m).ble roomMax with
    | false=>rw [e1] at hap;cases hap
    | true=>
     rw [e1,cond_true] at hap
     simp only [Bool.and_eq_true] at e1
     obtain rfl:=Nat.eq_of_beq_eq_true e1.1.1
     cases hx with | full hx=>
     rename_i base
     have hY2:Yields P w (G.froz h l).imm (.slice base n n) (P.cellsOf e) n n g:=by
      obtain ⟨cap,q1,_⟩:=yields_rows (P:=P) hne hx
      have q2:=q1
      obtain ⟨b2,l2,e2,_⟩:=q1
      simp only [Value.slice.injEq] at e2
      obtain ⟨_,_,rfl⟩:=e2
      exact q2.mono (fun _ h=>.inl h) rfl
     by_cases hm:m=0
     ·subst hm
      simp only [Nat.beq_refl,cond_true,Option.some.injEq,Prod.mk.injEq] at hap
      obtain ⟨rfl,rfl⟩:=hap
      obtain ⟨l2,hsr,hl2⟩:=hY.src hu
      obtain rfl:l2=[]:=List.length_eq_zero_iff.1 (by rw [hl2.1];simp)
      obtain ⟨i,z,hi,hz,_,hzs,his,hib⟩:=elemOk_spec hok
      rw [← his] at hsr
      exact ⟨_,_,run_append_nothing w t u ty e i ht hi base n n (Nat.le_refl _) vy hsr,_,f1,f2,.full (hx.mono (fun _ h=>.inl h) (fun _ _=>rfl))⟩
     ·have hb:m.beq 0=false:=by
       cases e:m.beq 0 with
       | false=>rfl
       | true=>exact absurd (Nat.eq_of_beq_eq_true e) hm
      rw [hb,cond_false] at hap
      simp only [Option.some.injEq,Prod.mk.injEq] at hap
      obtain ⟨rfl,rfl⟩:=hap
      obtain ⟨v,w',r1,r2⟩:=append_grow f1 (by rw [fnx];exact hlt) fid fh ht hu hok (ty:=ty) hY2 hY (by omega) (Nat.le_of_ble_eq_true e1.1.2) (Nat.le_of_ble_eq_true e1.2)
      exact ⟨v,w',r1,fin r2⟩
   ·rename_i b n0
    split at hap
    ·rename_i n g l' hd
     cases e1:((n+m)*P.bytesOf e).ble roomMax && (n+m).ble roomMax with
     | false=>rw [e1] at hap;cases hap
     | true=>
      rw [e1,cond_true] at hap
      simp only [Option.some.injEq,Prod.mk.injEq] at hap
      obtain ⟨rfl,rfl⟩:=hap
      rw [Bool.and_eq_true] at e1
      obtain ⟨hdest,hbn⟩:=destS_spec f1 hd
      obtain ⟨k1,k2⟩:=f1.freeze l' id
      have hx3:SRep ((G.froz h l).froz (h.freeze l) l') w (.sl b n0) vx:=hx.mono (G':=(G.froz h l).froz (h.freeze l) l') (fun _ h=>Or.inl (Or.inl h)) (fun _ _=>rfl) (fun _ _ h=>h)
      have hY3:Yields P w ((G.froz h l).froz (h.freeze l) l').imm vy (P.cellsOf e) m capy g':=hY.mono (fun _ h=>Or.inl h) rfl
      obtain ⟨v,w',r1,r2⟩:=append_dest k1 (by rw [(get_freeze l' _ 0).2,fnx];exact hlt) hid (by rw [(get_freeze l' _ id).1,fh];rfl) ht hu hok (ty:=ty) hdest (by rw [(get_freeze l' _ b).1];intro e;exact hbn (by simpa using e)) hx3 hY3 (Nat.le_of_ble_eq_true e1.1) (Nat.le_of_ble_eq_true e1.2)
      exact ⟨v,w',r1,fin (by obtain ⟨G',a1,a2,a3⟩:=r2;exact ⟨G',a1,k2.trans a2,a3⟩)⟩
    ·cases hap
   ·cases hap
end
end Go.Proofs.YtonkoellfaopiaaGreatDoor.H
