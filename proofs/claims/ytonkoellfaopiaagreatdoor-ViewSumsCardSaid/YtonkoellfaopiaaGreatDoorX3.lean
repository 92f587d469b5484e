import Derived.Test.YtonkoellfaopiaaGreatDoorX2
import Derived.RangeFuncSeq
import Derived.Laws.IdiomStrings
import Derived.WideShapes
import Derived.Maps.RangeRun
set_option linter.unusedSimpArgs false
set_option linter.unusedVariables false
namespace Go.Proofs.YtonkoellfaopiaaGreatDoor.H
open Go Go.RowKit
section
variable {P:Program} {G:Gh} {w w0:World} {nt B0:Nat} {fr:Fr} {a:Act} {h:Heap}
def Lent (G:Gh) (h:Heap) (l:List Nat) (r:Nat):Prop:=G.imm r∨∃ b,b∈l∧h.get b≠none∧G.own b=some r
theorem froz_lent {l:List Nat} {r:Nat} (hi:(G.froz h l).imm r):Lent G h l r:=by
 rcases hi with hi | ⟨b,hb,x,hx,_,ho⟩
 ·exact .inl hi
 ·exact .inr ⟨b,hb,by rw [hx];simp,ho⟩
theorem lent_mono {l l':List Nat} (hl:∀ b,b∈l→b∈l') {r:Nat} (hi:Lent G h l r):Lent G h l' r:=by
 rcases hi with hi | ⟨b,hb,hx,ho⟩
 ·exact .inl hi
 ·exact .inr ⟨b,hl b hb,hx,ho⟩
theorem EntIn.sub {G2:Gh} {arr:Array MapEntry} {es es':List (S × S)} (h:EntIn G w arr es) (hl:es'.length=es.length) (hk:∀ (i:Nat) (e e':S × S) (k v:Value),es[i]?=some e→es'[i]?=some e'→SRep G w e.1 k→SRep G w e.2 v→SRep G2 w e'.1 k∧SRep G2 w e'.2 v):EntIn G2 w arr es':=
 ⟨hl.trans h.1,fun i e' m h1 h2=>by
  have hlt:i < es.length:=by rw [← hl];exact (List.getElem?_eq_some_iff.1 h1).1
  have he:es[i]?=some es[i]:=List.getElem?_eq_getElem hlt
  obtain ⟨q1,q2⟩:=h.2 i _ m he h2
  exact hk i _ e' m.key m.val he h1 q1 q2⟩
mutual
theorem closeS_rep (hs:Sim B0 w0 G h w) {get:Nat→Option B} (hg:∀ b x,get b=some x→h.get b=some x):∀ (d:Nat) (s:S) (v:Value) (s':S) (l:List Nat),closeS get d s=some (s',l)→SRep G w s v→∀ G2:Gh,(∀ r,Lent G h l r→G2.imm r)→SRep G2 w s' v
 | 0,s,v,s',l,hc,_,_,_=>by simp [closeS] at hc
 | d+1,s,v,s',l,hc,hr,G2,hi=>by
  have hi0:∀ r,G.imm r→G2.imm r:=fun r h=>hi r (.inl h)
  have hk:∀ r,G.imm r→w.heap[r]?=w.heap[r]?:=fun _ _=>rfl
  cases s with
  | sl b n=>
   simp only [closeS] at hc
   split at hc
   ·rename_i x l' hx
    simp only [Option.some.injEq,Prod.mk.injEq] at hc
    obtain ⟨rfl,rfl⟩:=hc
    exact .t ((toT_rep hs hg (d+1) (.sl b n) v x l' hx hr).mono (fun r hr=>hi r (froz_lent hr)) (fun _ _=>rfl))
   ·cases hc
  | agg cs=>
   simp only [closeS] at hc
   split at hc
   ·rename_i cs' l' hx
    simp only [Option.some.injEq,Prod.mk.injEq] at hc
    obtain ⟨rfl,rfl⟩:=hc
    obtain ⟨vs,rfl,hl⟩:=srep_agg' hr
    exact (closeL_rep hs hg d cs vs.toList cs' l' hx hl G2 hi).agg'
   ·cases hc
  | tup cs=>
   simp only [closeS] at hc
   split at hc
   ·rename_i cs' l' hx
    simp only [Option.some.injEq,Prod.mk.injEq] at hc
    obtain ⟨rfl,rfl⟩:=hc
    obtain ⟨vs,rfl,hl,hv⟩:=srep_tup hr
    have:=closeL_rep hs hg d cs vs.toList cs' l' hx ⟨by simpa using hl,fun i s v h1 h2=>hv i s v h1 (by simpa using h2)⟩ G2 hi
    exact .tup (by simpa using this.1) (fun i s v h1 h2=>this.2 i s v h1 (by simpa using h2))
   ·cases hc
  | fn f x y=>
   simp only [closeS] at hc
   split at hc
   ·rename_i x' l1 hx
    split at hc
    ·rename_i y' l2 hy
     simp only [Option.some.injEq,Prod.mk.injEq] at hc
     obtain ⟨rfl,rfl⟩:=hc
     cases hr with | fn ha h1 hc2 h2=>
     rename_i va vc
     have r1:=closeL_rep hs hg d x va.toList x' l1 hx ⟨by simpa using ha,fun i s v q1 q2=>h1 i s v q1 (by simpa using q2)⟩ G2 (fun r hr=>hi r (lent_mono (fun b hb=>by simp [hb]) hr))
     have r2:=closeL_rep hs hg d y vc.toList y' l2 hy ⟨by simpa using hc2,fun i s v q1 q2=>h2 i s v q1 (by simpa using q2)⟩ G2 (fun r hr=>hi r (lent_mono (fun b hb=>by simp [hb]) hr))
     exact .fn (by simpa using r1.1) (fun i s v q1 q2=>r1.2 i s v q1 (by simpa using q2)) (by simpa using r2.1) (fun i s v q1 q2=>r2.2 i s v q1 (by simpa using q2))
    ·cases hc
   ·cases hc
  | ptr b o=>
   simp only [closeS] at hc
   split at hc
   ·rename_i cs hb
    split at hc
    ·rename_i ts l' hts
     simp only [Option.some.injEq,Prod.mk.injEq] at hc
     obtain ⟨rfl,rfl⟩:=hc
     cases hr with | ptr hmu=>
     have hrep:=hs.rep b _ (hg _ _ hb)
     cases hrep with | box hmu' hown hbl hf hle hc2 hi2 hB=>
     rw [hmu] at hmu'
     simp only [Option.some.injEq,Value.pointer.injEq,Addr.mk.injEq,and_true] at hmu'
     subst hmu'
     rename_i r c ty fz
     have htl:=toTs_rep hs hg d (cs.drop o) (c.toList.drop o) ts l' hts ((lrep_of_cellsIn hle hc2).drop o)
     refine .pt (hi _ (.inr ⟨b,by simp,by rw [hg _ _ hb];simp,hown⟩)) (fun k t hk'=>?_)
     have hlt:=(List.getElem?_eq_some_iff.1 hk').1
     rw [htl.1,List.length_drop,Array.length_toList] at hlt
     have hv:(c.toList.drop o)[k]?=some c[o+k]:=by
      rw [List.getElem?_drop,Array.getElem?_toList];simp
     exact ⟨c[o+k],by rw [cell_in hbl];simp,(htl.2 k t _ hk' hv).mono (fun r hr=>hi r (lent_mono (fun b hb=>by simp [hb]) (froz_lent hr))) (fun _ _=>rfl)⟩
    ·cases hc
   ·cases hc
  | ep b z i o=>
   simp only [closeS] at hc
   split at hc
   ·rename_i f sz n g hb
    split at hc
    ·rename_i hin
     cases e:z.beq sz with
     | false=>rw [e] at hc;cases hc
     | true=>
      rw [e] at hc
      obtain rfl:=Nat.eq_of_beq_eq_true e
      simp only [cond_true,Option.some.injEq,Prod.mk.injEq] at hc
      obtain ⟨rfl,rfl⟩:=hc
      cases hr with | ep hmu=>
      have hrep:=hs.rep b _ (hg _ _ hb)
      cases hrep with
      | none=>omega
      | row hmu' hown hbl hf hcap hle hc2 hlen hi2 hB=>
       rw [hmu] at hmu'
       simp only [Option.some.injEq,Value.slice.injEq,Addr.mk.injEq,and_true] at hmu'
       obtain ⟨rfl,-,-⟩:=hmu'
       refine .pt (hi _ (.inr ⟨b,by simp,by rw [hg _ _ hb];simp,hown⟩)) (fun k t hk'=>?_)
       rw [List.getElem?_drop] at hk'
       obtain ⟨v,hv,ht⟩:=hc2 ⟨i,hin⟩ (o+k) t hk'
       exact ⟨v,by rw [cell_in hbl,Nat.add_assoc];exact hv,ht.mono hi0 (fun _ _=>rfl)⟩
    ·cases hc
   ·cases hc
  | mp b=>
   simp only [closeS] at hc
   split at hc
   ·rename_i f es hb
    split at hc
    ·rename_i es' l' hes
     simp only [Option.some.injEq,Prod.mk.injEq] at hc
     obtain ⟨rfl,rfl⟩:=hc
     cases hr with | mp hmu=>
     have hrep:=hs.rep b _ (hg _ _ hb)
     cases hrep with | mp hmu' hown hbl hc2 hi2 hB hw=>
     rw [hmu] at hmu'
     simp only [Option.some.injEq,Value.map.injEq] at hmu'
     subst hmu'
     obtain ⟨q1,q2⟩:=closeE_rep hs hg d es es' l' hes G2 (fun r hr=>hi r (lent_mono (fun b hb=>by simp [hb]) hr))
     have he:=hc2.sub q1 q2
     exact .mt (hi _ (.inr ⟨b,by simp,by rw [hg _ _ hb];simp,hown⟩)) hbl he.1 (fun i e m h1 h2=>(he.2 i e m h1 h2).1) (fun i e m h1 h2=>(he.2 i e m h1 h2).2) hw
    ·cases hc
   ·cases hc
  | it=>
   simp only [closeS,Option.some.injEq,Prod.mk.injEq] at hc
   obtain ⟨rfl,rfl⟩:=hc
   cases hr with | it h1 h2=>exact .it (hi0 _ h1) (h2.imp (fun e=>e) fun ⟨m,c,q1,q2,q3⟩=>⟨m,c,hi0 _ q1,q2,q3⟩)
  | mt es=>
   simp only [closeS] at hc
   split at hc
   ·rename_i es' l' hes
    simp only [Option.some.injEq,Prod.mk.injEq] at hc
    obtain ⟨rfl,rfl⟩:=hc
    cases hr with | mt h1 h2 h3 h4 h5 h6=>
    obtain ⟨q1,q2⟩:=closeE_rep hs hg d es es' l' hes G2 hi
    have hin:EntIn G w _ es:=⟨h3,fun i e m a b=>⟨h4 i e m a b,h5 i e m a b⟩⟩
    have he:=hin.sub q1 q2
    exact .mt (hi0 _ h1) h2 he.1 (fun i e m h1 h2=>(he.2 i e m h1 h2).1) (fun i e m h1 h2=>(he.2 i e m h1 h2).2) h6
   ·cases hc
  | un=>
   simp only [closeS,Option.some.injEq,Prod.mk.injEq] at hc
   obtain ⟨rfl,rfl⟩:=hc
   exact .un v
  | t x=>
   simp only [closeS,Option.some.injEq,Prod.mk.injEq] at hc
   obtain ⟨rfl,rfl⟩:=hc
   cases hr with | t hr=>exact .t (hr.mono hi0 hk)
  | full sz n g=>
   simp only [closeS,Option.some.injEq,Prod.mk.injEq] at hc
   obtain ⟨rfl,rfl⟩:=hc
   cases hr with | full hr=>exact .full (hr.mono hi0 hk)
  | pt cs=>
   simp only [closeS,Option.some.injEq,Prod.mk.injEq] at hc
   obtain ⟨rfl,rfl⟩:=hc
   cases hr with | pt h1 h2=>exact .pt (hi0 _ h1) (h2.mono hi0 hk h1)
  | nn=>
   simp only [closeS,Option.some.injEq,Prod.mk.injEq] at hc
   obtain ⟨rfl,rfl⟩:=hc
   cases hr with | nn t v=>exact .nn t v
  | ud=>
   simp only [closeS,Option.some.injEq,Prod.mk.injEq] at hc
   obtain ⟨rfl,rfl⟩:=hc
   cases hr with | ud=>exact .ud
theorem closeL_rep (hs:Sim B0 w0 G h w) {get:Nat→Option B} (hg:∀ b x,get b=some x→h.get b=some x):∀ (d:Nat) (cs:List S) (vs:List Value) (cs':List S) (l:List Nat),closeL get d cs=some (cs',l)→LRep G w cs vs→∀ G2:Gh,(∀ r,Lent G h l r→G2.imm r)→LRep G2 w cs' vs
 | 0,cs,vs,cs',l,hc,_,_,_=>by simp [closeL] at hc
 | d+1,[],vs,cs',l,hc,hr,G2,_=>by
  simp only [closeL,Option.some.injEq,Prod.mk.injEq] at hc
  obtain ⟨rfl,rfl⟩:=hc
  obtain rfl:vs=[]:=List.length_eq_zero_iff.1 hr.1.symm
  exact .nil
 | d+1,c::cs,vs,cs',l,hc,hr,G2,hi=>by
  obtain ⟨v,r,rfl,hv,hrest⟩:=hr.uncons
  simp only [closeL] at hc
  split at hc
  ·rename_i x l1 h1
   split at hc
   ·rename_i xs l2 h2
    simp only [Option.some.injEq,Prod.mk.injEq] at hc
    obtain ⟨rfl,rfl⟩:=hc
    exact .cons (closeS_rep hs hg d c v x l1 h1 hv G2 (fun r hr=>hi r (lent_mono (fun b hb=>by simp [hb]) hr))) (closeL_rep hs hg d cs r xs l2 h2 hrest G2 (fun r hr=>hi r (lent_mono (fun b hb=>by simp [hb]) hr)))
   ·cases hc
  ·cases hc
theorem closeE_rep (hs:Sim B0 w0 G h w) {get:Nat→Option B} (hg:∀ b x,get b=some x→h.get b=some x):∀ (d:Nat) (es es':List (S × S)) (l:List Nat),closeE get d es=some (es',l)→∀ G2:Gh,(∀ r,Lent G h l r→G2.imm r)→
  es'.length=es.length∧∀ (i:Nat) (e e':S × S) (k v:Value),es[i]?=some e→es'[i]?=some e'→SRep G w e.1 k→SRep G w e.2 v→SRep G2 w e'.1 k∧SRep G2 w e'.2 v
 | 0,es,es',l,hc,_,_=>by simp [closeE] at hc
 | d+1,[],es',l,hc,G2,_=>by
  simp only [closeE,Option.some.injEq,Prod.mk.injEq] at hc
  obtain ⟨rfl,rfl⟩:=hc
  exact ⟨rfl,fun i e e' k v h=>by simp at h⟩
 | d+1,e::es,es',l,hc,G2,hi=>by
  simp only [closeE] at hc
  split at hc
  ·rename_i k l1 h1
   split at hc
   ·rename_i v l2 h2
    split at hc
    ·rename_i r l3 h3
     simp only [Option.some.injEq,Prod.mk.injEq] at hc
     obtain ⟨rfl,rfl⟩:=hc
     obtain ⟨q1,q2⟩:=closeE_rep hs hg d es r l3 h3 G2 (fun r hr=>hi r (lent_mono (fun b hb=>by simp [hb]) hr))
     refine ⟨by simp [q1],fun i e0 e' kv vv a1 a2 r1 r2=>?_⟩
     cases i with
     | zero=>
      simp only [List.getElem?_cons_zero,Option.some.injEq] at a1 a2
      subst a1;subst a2
      exact ⟨closeS_rep hs hg d e.1 kv k l1 h1 r1 G2 (fun r hr=>hi r (lent_mono (fun b hb=>by simp [hb]) hr)),closeS_rep hs hg d e.2 vv v l2 h2 r2 G2 (fun r hr=>hi r (lent_mono (fun b hb=>by simp [hb]) hr))⟩
     | succ i=>exact q2 i e0 e' kv vv (by simpa using a1) (by simpa using a2) r1 r2
    ·cases hc
   ·cases hc
  ·cases hc
end
mutual
theorem flatS_rep {G2:Gh} {w2:World}:∀ (d:Nat) (s:S) (v:Value),flatS d s=true→SRep G w s v→SRep G2 w2 s v
 | 0,s,v,hf,_=>by simp [flatS] at hf
 | d+1,s,v,hf,hr=>by
  cases hr with
  | un v=>exact .un v
  | nn t v=>exact .nn t v
  | ud=>exact .ud
  | t hr=>cases hr with
   | v _ ho=>exact .t (.v _ ho)
   | rows=>simp [flatS] at hf
  | agg hl hv=>
   rename_i cs vs
   simp only [flatS] at hf
   exact (flatL_rep (G2:=G2) (w2:=w2) d cs vs.toList hf ⟨by simpa using hl,fun i s v h1 h2=>hv i s v h1 (by simpa using h2)⟩).agg'
  | tup hl hv=>
   rename_i cs vs
   simp only [flatS] at hf
   have:=flatL_rep (G2:=G2) (w2:=w2) d cs vs.toList hf ⟨by simpa using hl,fun i s v h1 h2=>hv i s v h1 (by simpa using h2)⟩
   exact .tup hl (fun i s v h1 h2=>this.2 i s v h1 (by simpa using h2))
  | full=>simp [flatS] at hf
  | pt=>simp [flatS] at hf
  | ptr=>simp [flatS] at hf
  | sl=>simp [flatS] at hf
  | ep=>simp [flatS] at hf
  | fn=>simp [flatS] at hf
  | mp=>simp [flatS] at hf
  | mt=>simp [flatS] at hf
  | it=>simp [flatS] at hf
theorem flatL_rep {G2:Gh} {w2:World}:∀ (d:Nat) (cs:List S) (vs:List Value),flatL d cs=true→LRep G w cs vs→LRep G2 w2 cs vs
 | 0,cs,vs,hf,_=>by simp [flatL] at hf
 | d+1,[],vs,hf,hr=>by
  obtain rfl:vs=[]:=List.length_eq_zero_iff.1 hr.1.symm
  exact .nil
 | d+1,c::cs,vs,hf,hr=>by
  obtain ⟨v,r,rfl,hv,hrest⟩:=hr.uncons
  simp only [flatL,Bool.and_eq_true] at hf
  exact .cons (flatS_rep d c v hf.1 hv) (flatL_rep d cs r hf.2 hrest)
end
def Gh.bare (I:Nat→Prop):Gh:=⟨fun _=>none,fun _=>none,I⟩
def RetT (I:Nat→Prop) (w:World) (r:S) (e:Ending) (w':World):Prop:=
 ∃ v I',e=.returned v∧Below w.heap.size w w'∧(∀ q,I q→I' q)∧(∀ q,I' q→q < w'.heap.size)∧(∀ q,I' q→q < w.heap.size→I q)∧NoLd I' w'∧SRep (Gh.bare I') w' r v
def CallTOk (V:World→Prop) (P:Program) (callT:FuncId→List S→Option S):Prop:=
 ∀ f args r,callT f args=some r→f < 2000000→∀ (I:Nat→Prop) (w:World) (vs:Array Value),(∀ q,I q→q < w.heap.size)→NoLd I w→V w→LRep (Gh.bare I) w args vs.toList→Calls P f vs w (RetT I w r)
def RetI (B0:Nat) (w0:World) (G:Gh) (h:Heap) (w:World) (r:S) (h':Heap) (e:Ending) (w':World):Prop:=
 ∃ v G',e=.returned v∧Sim B0 w0 G' h' w'∧Nx B0 h.next G h w G' h' w'∧SRep G' w' r v
def CallIOk (V:World→Prop) (P:Program) (callI:FuncId→List S→Heap→Option (S × Heap)):Prop:=
 ∀ f args h r h',callI f args h=some (r,h')→∀ (B0:Nat) (w0:World) (G:Gh) (w:World) (vs:Array Value),(∀ w',Below B0 w0 w'→V w')→Sim B0 w0 G h w→LRep G w args vs.toList→Calls P f vs w (RetI B0 w0 G h w r h')
def FnOk (P:Program) (ok:FuncId→Bool):Prop:=∀ f,ok f=true→∃ fn,P.funcs[f]?=some fn∧(fn.name == "runtime.NumGoroutine")=false∧fn.body.isNone=false∧f < 2000000
def SeqOk (P:Program) (sp:RfSpec):Prop:=
 ∀ (I:Nat→Prop) (l r1 r2:Nat) (W:World) (n:Nat) (g:Fin n→List T) (o:Nat) (ft:TypeId) (vr:Value) (J:Nat→World→Prop),
  n < 4611686018427387904→fieldOf P sp.ts sp.fi=some (o,ft)→W.cell? ⟨r1,o,none⟩=some vr→
  (∀ j W1,J j W1→TRep W1 I (.rows (P.cellsOf sp.te) n g) vr∧∃ s,W1.cell? ⟨r2,0,none⟩=some (.string s)∧∀ h:j < n,∃ q,rfOn P sp (g ⟨j,h⟩)=some q∧(strEq q s=false→J (j+1) W1)∧
   (strEq q s=true→∀ W2,Below W1.heap.size W1 W2→∀ vs:Array Value,LRep (Gh.bare I) W2 ((g ⟨j,h⟩).map .t) vs.toList→YieldAt Fence.wide 0 P l #[.agg vs] W2 fun e W'=>e=.returned (.bool true)∧J (j+1) W'))→
  (∀ j W1 W2,J j W1→Below W1.heap.size W1 W2→J j W2)→J 0 W→
  CallsIn Fence.wide 0 P sp.g #[.func (.yield l) #[] #[],.pointer (some ⟨r1,0,none⟩),.pointer (some ⟨r2,0,none⟩)] W fun e W'=>(∃ v,e=.returned v)∧J n W'
structure EnvOk (V:World→Prop) (E:Env):Prop where
 k:KOk E.P E.K
 fn:FnOk E.P E.fnOk
 t:CallTOk V E.P E.callT
 i:CallIOk V E.P E.callI
 rf:∀ f r sp,rfSpec E.live f r=some sp→SeqOk E.P sp∧∀ vs w,(callFunc sp.g vs).run E.P w=.ok (.enter sp.g vs) w
theorem Sim.later (hs:Sim B0 w0 G h w) {w':World} (hb:Below w.heap.size w w') (id:Nat):Sim B0 w0 G h w'∧Nx B0 id G h w G h w':=by
 have hk:∀ r,G.imm r→w'.heap[r]?=w.heap[r]?:=fun r hr=>hb.block r (hs.imm r hr)
 refine ⟨⟨hs.below.trans (hb.mono hs.b0),fun r hr=>Nat.lt_of_lt_of_le (hs.imm r hr) hb.size,fun b x hx=>?_,hs.inj,hs.lo,Nat.le_trans hs.b0 hb.size,hs.nold.mono hk⟩,⟨fun _ h=>h,hk,fun _ _ _=>rfl,fun _ _ _ h=>h,Nat.le_refl _,fun _ h=>.inl h,KeepLd.below hb⟩⟩
 exact (hs.rep b x hx).mono (fun _ h=>h) (fun _ _ h=>h) hk (fun _ _ h=>h) rfl (fun q hq=>hb.block q ((hs.rep b x hx).lt hq))
theorem Sim.more (hs:Sim B0 w0 G h w) {I':Nat→Prop} (h1:∀ r,G.imm r→I' r) (h2:∀ r,I' r→r < w.heap.size) (h3:∀ b r,h.get b≠none→G.own b=some r→I' r→G.imm r) (h4:∀ r,I' r→G.imm r∨B0≤r) (h5:NoLd I' w) (id:Nat):Sim B0 w0 ⟨G.mu,G.own,I'⟩ h w∧Nx B0 id G h w ⟨G.mu,G.own,I'⟩ h w:=by
 refine ⟨⟨hs.below,h2,fun b x hx=>?_,hs.inj,hs.lo,hs.b0,h5⟩,⟨h1,fun _ _=>rfl,fun _ _ _=>rfl,fun _ _ _ h=>h,Nat.le_refl _,h4,KeepLd.refl w⟩⟩
 exact (hs.rep b x hx).mono h1 (fun r ho hi=>h3 b r (by rw [hx];simp) ho hi) (fun _ _=>rfl) (fun _ _ h=>h) rfl (fun _ _=>rfl)
theorem Nx.at {G':Gh} {h':Heap} {w':World} (n:Nx B0 h.next G h w G' h' w') (id:Nat):Nx B0 id G h w G' h' w':=
 ⟨n.imm,n.keep,fun b _ hb=>n.mu b (by omega) hb,fun b _ hb hn=>n.non b (by omega) hb hn,n.next,n.old,n.ld⟩
theorem quietCall_run {V:World→Prop} {E:Env} (hE:EnvOk V E) (hV:∀ w',Below B0 w0 w'→V w') (hs:Sim B0 w0 G h w) {get:Nat→Option B} (hg:∀ b x,get b=some x→h.get b=some x) {f:FuncId} {args:List S} {vs:Array Value} (ha:LRep G w args vs.toList) {r:S} {l:List Nat} (hq:quietCall E get f args=some (r,l)) (hlt:f < 2000000) (id:Nat):
  Calls E.P f vs w fun e w'=>∃ v,e=.returned v∧After B0 w0 id G h w r (h.freeze l) v w':=by
 unfold quietCall at hq
 split at hq
 ·rename_i args' l' hc
  split at hq
  ·rename_i r' hr
   have hlb:∀ q,Lent G h l' q→q < w.heap.size:=fun q hq=>by
    rcases hq with hq | ⟨b,_,hb,ho⟩
    ·exact hs.imm q hq
    ·cases hx:h.get b with
     | none=>exact absurd hx hb
     | some x=>exact (hs.rep b x hx).lt ho
   have hargs:=closeL_rep hs hg depthS args vs.toList args' l' hc ha (Gh.bare (Lent G h l')) (fun _ h=>h)
   have hnl:NoLd (Lent G h l') w:=fun r o hr ho=>by
    rcases hr with hr | ⟨b,_,hb,hown⟩
    ·exact hs.nold r o hr ho
    ·cases hx:h.get b with
     | none=>exact absurd hx hb
     | some x=>exact (hs.rep b x hx).notLd hown ho
   refine (hE.t f args' r' hr hlt (Lent G h l') w vs hlb hnl (hV w hs.below) hargs).mono fun e w' ⟨v,I',he,hbe,i1,i2,i3,i4,hsr⟩=>⟨v,he,?_⟩
   cases hfl:flatS depthS r' with
   | true=>
    rw [hfl,cond_true] at hq
    simp only [Option.some.injEq,Prod.mk.injEq] at hq
    obtain ⟨rfl,rfl⟩:=hq
    obtain ⟨s1,s2⟩:=hs.later hbe id
    exact ⟨G,s1,s2,flatS_rep depthS r' v hfl hsr⟩
   | false=>
    rw [hfl,cond_false] at hq
    cases hrows:l'.all (rowAt get) with
    | false=>rw [hrows] at hq;cases hq
    | true=>
     rw [hrows,cond_true] at hq
     have lf:∀ q,Lent G h l' q→(G.froz h l').imm q:=fun q hq=>by
      rcases hq with hq | ⟨b,hb,hb2,ho⟩
      ·exact .inl hq
      ·have:=List.all_eq_true.1 hrows b hb
       unfold rowAt at this
       cases hx:get b with
       | none=>rw [hx] at this;cases this
       | some x=>rw [hx] at this;exact .inr ⟨b,hb,x,hg _ _ hx,this,ho⟩
     cases hmf:mapFlat r' && l'.all (noMap get) with
     | true=>
      rw [hmf,cond_true] at hq
      obtain ⟨hmf,hnm⟩:=Bool.and_eq_true_iff.1 hmf
      simp only [Option.some.injEq,Prod.mk.injEq] at hq
      obtain ⟨rfl,rfl⟩:=hq
      obtain ⟨s1,s2⟩:=hs.later hbe id
      obtain ⟨t1,t2⟩:=s1.more (I':=fun q=>G.imm q∨(I' q∧w.heap.size≤q)) (fun _ h=>.inl h) (fun q hq=>hq.elim (s1.imm q) (fun hq=>i2 q hq.1)) (fun b q hb ho hi=>hi.elim (fun h=>h) (fun hi=>by
       cases hx:h.get b with
       | none=>exact absurd hx hb
       | some x=>exact absurd ((hs.rep b x hx).lt ho) (by omega))) (fun q hq=>hq.elim .inl (fun hq=>.inr (by have:=hs.b0;omega))) (fun q o hq ho=>hq.elim (fun hq=>s1.nold q o hq ho) (fun hq=>i4 q o hq.1 ho)) id
      refine ⟨_,t1,s2.trans t2,?_⟩
      unfold mapFlat at hmf
      split at hmf
      ·rename_i es
       cases hsr with | mt hi hb hl hk hv hw=>
       rename_i q arr clock
       refine .mt ?_ hb hl (fun i e m h1 h2=>flatS_rep depthS _ _ (Bool.and_eq_true_iff.1 (List.all_eq_true.1 hmf e (List.mem_of_getElem? h1))).1 (hk i e m h1 h2)) (fun i e m h1 h2=>flatS_rep depthS _ _ (Bool.and_eq_true_iff.1 (List.all_eq_true.1 hmf e (List.mem_of_getElem? h1))).2 (hv i e m h1 h2)) hw
       by_cases hlt:q < w.heap.size
       ·rcases i3 q hi hlt with hq | ⟨b,hb1,hb2,ho⟩
        ·exact .inl hq
        ·exfalso
         have hr1:=List.all_eq_true.1 hrows b hb1
         have hr2:=List.all_eq_true.1 hnm b hb1
         unfold rowAt at hr1
         unfold noMap at hr2
         cases hx0:get b with
         | none=>rw [hx0] at hr1;cases hr1
         | some x=>
         rw [hx0] at hr1 hr2
         have hx:=hg _ _ hx0
         rw [hbe.block q hlt] at hb
         cases hs.rep b x hx with
         | box=>cases hr1
         | mp=>cases hr2
         | lst _ ho' hb'=>rw [ho] at ho';obtain rfl:=Option.some.inj ho';rw [hb] at hb';cases hb'
         | row _ ho' hb'=>rw [ho] at ho';obtain rfl:=Option.some.inj ho';rw [hb] at hb';cases hb'
         | none _ ho'=>rw [ho] at ho';cases ho'
       ·exact .inr ⟨hi,by omega⟩
      ·cases hmf
     | false=>
     rw [hmf,cond_false] at hq
     simp only [Option.some.injEq,Prod.mk.injEq] at hq
     obtain ⟨rfl,rfl⟩:=hq
     obtain ⟨f1,f2⟩:=hs.freeze l' id
     obtain ⟨s1,s2⟩:=f1.later hbe id
     have i1':∀ q,(G.froz h l').imm q→I' q:=fun q hq=>i1 q (froz_lent hq)
     have i3':∀ q,I' q→q < w.heap.size→(G.froz h l').imm q:=fun q hq hlt=>lf q (i3 q hq hlt)
     obtain ⟨t1,t2⟩:=s1.more i1' i2 (fun b q hb ho hi=>i3' q hi (by
      cases hx:(h.freeze l').get b with
      | none=>exact absurd hx hb
      | some x=>exact (f1.rep b x hx).lt ho)) (fun q hq=>by
       by_cases hlt:q < w.heap.size
       ·exact .inl (i3' q hq hlt)
       ·have:=f1.b0;exact .inr (by omega)) i4 id
     refine ⟨_,t1,f2.trans (s2.trans t2),SRep.mono (G:=Gh.bare I') (G':=⟨(G.froz h l').mu,(G.froz h l').own,I'⟩) (w:=w') (fun _ h=>h) (fun _ _=>rfl) (fun _ _ h=>by cases h) hsr⟩
  ·cases hq
 ·cases hq
theorem listF_get {α:Type}:∀ (n:Nat) (g:Fin n→α) (i:Fin n),(listF n g)[i.1]?=some (g i)
 | 0,g,i=>absurd i.2 (Nat.not_lt_zero _)
 | n+1,g,⟨0,_⟩=>rfl
 | n+1,g,⟨i+1,hi⟩=>by
  unfold listF
  rw [List.getElem?_cons_succ]
  exact listF_get n (fun i=>g i.succ) ⟨i,by omega⟩
theorem listF_len {α:Type}:∀ (n:Nat) (g:Fin n→α),(listF n g).length=n
 | 0,_=>rfl
 | n+1,g=>by simp [listF,listF_len n]
theorem bytesL_spec:∀ {l:List (List T)} {ks:List Int},bytesL l=some ks→ks.length=l.length∧∀ (i:Nat) (k:Int),ks[i]?=some k→l[i]?=some [T.v (.int .u8 k)]
 | [],ks,h=>by
  obtain rfl:=Option.some.inj h
  exact ⟨rfl,fun i k h=>by simp at h⟩
 | c::r,ks,h=>by
  unfold bytesL at h
  split at h
  ·cases ‹_::_=[]›
  ·rename_i k r' e
   cases e
   obtain ⟨ks',h1,rfl⟩:=Option.map_eq_some_iff.1 h
   obtain ⟨q1,q2⟩:=bytesL_spec h1
   refine ⟨by simp [q1],fun i k' hk=>?_⟩
   cases i with
   | zero=>simp at hk;subst hk;rfl
   | succ i=>simpa using q2 i k' (by simpa using hk)
  ·cases h
theorem foldl_push:∀ (ks:List Int) (r:ByteArray),ks.foldl (fun r n=>r.push (UInt8.ofNat n.toNat)) r=⟨r.data++(ks.map fun k=>UInt8.ofNat k.toNat).toArray⟩
 | [],r=>by simp
 | k::ks,r=>by
  simp only [List.foldl_cons,List.map_cons]
  rw [foldl_push ks]
  simp [ByteArray.push]
theorem convR_run {o:Oper} {src dst:TypeId} {x:Operand} (ho:o.op=.convert src dst x) (hs:Sim B0 w0 G h w) (hf:FRep nt G w fr a) {get:Nat→Option B} (hg:∀ b x,get b=some x→h.get b=some x) {s:S} (hc:convR P get src dst (ev fr x)=some s) (id:Nat):
  ∃ v w',(execOp a.eval o).run P w=.ok (.value v) w'∧After B0 w0 id G h w s h v w':=by
 have wrap:∀ {v:Value} {w':World},(convert src dst (a.eval x)).run P w=.ok v w'→(execOp a.eval o).run P w=.ok (.value v) w':=fun hv=>by
  obtain ⟨d,op,type,pos,after,guard⟩:=o
  simp only at ho
  subst ho
  simp only [execOp,Sem.run_bind,hv,Result.andThen_ok,Sem.run_pure]
 unfold convR at hc
 split at hc
 ·rename_i s' h1
  obtain rfl:=Option.some.inj hc
  obtain ⟨r,hr,hsr⟩:=convS_run (P:=P) (hf.ev x) h1
  exact ⟨r,w,wrap hr,G,hs,Nx.refl _ _ _ _ _,hsr⟩
 ·split at hc
  ·rename_i e ha hb
   split at hc
   ·rename_i str he hx
    cases e0:str.size.ble strMax with
    | false=>rw [e0] at hc;cases hc
    | true=>
     rw [e0,cond_true] at hc
     obtain rfl:=Option.some.inj hc
     have hv:=hf.ev x
     rw [hx] at hv
     obtain ⟨hv,_⟩:=srep_v hv
     have hrun:=run_bytes_of_string (P:=P) w src dst e str ha hb he
     rw [← hv] at hrun
     refine ⟨_,_,wrap hrun,?_⟩
     have hbe:Below w.heap.size w (w.drew.alloc (.cells (bytesRow str (grownCap w str.size 0 e)) e ((bytesRow str (grownCap w str.size 0 e)).size,(bytesRow str (grownCap w str.size 0 e)).size+1))):=((Below.refl _ _).drew).alloc (Nat.le_refl _) _
     obtain ⟨s1,s2⟩:=hs.later hbe id
     obtain ⟨t1,t2⟩:=s1.more (I':=fun q=>G.imm q∨q=w.heap.size) (fun _ h=>.inl h) (fun q hq=>by
      rcases hq with hq | rfl
      ·exact s1.imm q hq
      ·simp) (fun b q hb ho hq=>by
      rcases hq with hq | rfl
      ·exact hq
      ·cases hx:h.get b with
       | none=>exact absurd hx hb
       | some y=>have:=(hs.rep b y hx).lt ho;omega) (fun q hq=>by
      rcases hq with hq | rfl
      ·exact .inl hq
      ·exact .inr hs.b0) (fun q o hq ho=>by
      rcases hq with hq | rfl
      ·exact s1.nold q o hq ho
      ·have hn:=alloc_new w.drew (.cells (bytesRow str (grownCap w str.size 0 e)) e ((bytesRow str (grownCap w str.size 0 e)).size,(bytesRow str (grownCap w str.size 0 e)).size+1))
       have hn':(w.drew.alloc (.cells (bytesRow str (grownCap w str.size 0 e)) e ((bytesRow str (grownCap w str.size 0 e)).size,(bytesRow str (grownCap w str.size 0 e)).size+1))).heap[w.heap.size]?=some o:=ho
       rw [show w.drew.heap.size=w.heap.size from rfl] at hn
       rw [hn] at hn'
       obtain rfl:=Option.some.inj hn'
       rfl) id
     refine ⟨_,t1,s2.trans t2,.t (.rows 1 str.size _ _ _ (fun i _=>.int .u8 (str[i.1]'i.2).toNat) (grownCap_ge w _ _ _) (fun i=>rfl) (fun hn=>⟨w.heap.size,0,rfl,.inr rfl,fun i k c hk=>?_⟩) (fun i k c hk=>?_))⟩
     ·have hk0:k=0:=by
       have:=(List.getElem?_eq_some_iff.1 hk).1
       simp at this;exact this
      subst hk0
      have hnew:(w.drew.alloc (.cells (bytesRow str (grownCap w str.size 0 e)) e ((bytesRow str (grownCap w str.size 0 e)).size,(bytesRow str (grownCap w str.size 0 e)).size+1))).heap[w.heap.size]?=some (.cells (bytesRow str (grownCap w str.size 0 e)) e ((bytesRow str (grownCap w str.size 0 e)).size,(bytesRow str (grownCap w str.size 0 e)).size+1)):=by
       show (w.heap.push _)[w.heap.size]?=_
       simp
      rw [cell_in hnew]
      have hsz:i.1 < str.data.size:=i.2
      simp only [bytesRow,Nat.zero_add,Nat.mul_one,Nat.add_zero]
      rw [Array.getElem?_append_left (by simp),Array.getElem?_map,Array.getElem?_eq_getElem hsz]
      rfl
     ·have hk0:k=0:=by
       have:=(List.getElem?_eq_some_iff.1 hk).1
       simp at this;exact this
      subst hk0
      simp only [List.getElem?_cons_zero,Option.some.injEq] at hk
      subst hk
      exact .v _ rfl
   ·cases hc
  ·rename_i e ha hb
   split at hc
   ·rename_i n g l he hsrc
    obtain ⟨ks,hks,rfl⟩:=Option.map_eq_some_iff.1 hc
    obtain ⟨cap,base,vl,hv,hel,hfc,hbs⟩:=sourceS_spec (P:=P) hs hg (by decide) (hf.ev x) hsrc
    obtain ⟨q1,q2⟩:=bytesL_spec hks
    rw [listF_len] at q1
    have hvl:vl=ks.map (Value.int .u8):=by
     apply List.ext_getElem?
     intro i
     by_cases hi:i < n
     ·have hk:ks[i]?=some ks[i]:=by simp [q1,hi]
      have:=q2 i _ hk
      have h3:=listF_get n g ⟨i,hi⟩
      simp only at h3
      rw [h3] at this
      have hgi:g ⟨i,hi⟩=[.v (.int .u8 ks[i])]:=Option.some.inj this
      obtain ⟨v,hv1,hv2⟩:=hel.2.2.2 ⟨i,hi⟩ 0 _ (by rw [hgi];rfl)
      cases hv2
      simp only [Nat.mul_one,Nat.add_zero] at hv1
      rw [hv1,List.getElem?_map,hk];rfl
     ·have h4:=hel.1
      rw [List.getElem?_eq_none (by omega),List.getElem?_eq_none (by simp;omega)]
    refine ⟨_,w,wrap (v:=.string (ofBytes ks)) ?_,G,hs,Nx.refl _ _ _ _ _,srep_sv rfl⟩
    rw [hv,run_convert_bytes_string w src dst e base n cap ha he hb]
    cases base with
    | none=>
     have hn:n=0:=by
      by_cases hn:n=0
      ·exact hn
      ·obtain ⟨_,_,e⟩:=hbs hn;cases e
     have:ks=[]:=List.length_eq_zero_iff.1 (by omega)
     subst this
     rfl
    | some p=>
     have:=hfc w rfl
     rw [hv,hvl] at this
     simp only [Builtin.firstCells,Nat.mul_one] at this
     rw [run_bytesToString w p n cap ks this,foldl_push]
     simp only [ofBytes]
     congr 2
     simp
   ·cases hc
  ·cases hc
theorem eqKey_run {K:TypeId→Option (List Nat)} (hK:KOk P K) {t:TypeId} {x y:S} {u v:Value} {p:Bool} (hx:SRep G w x u) (hy:SRep G w y v) (h:eqKey P K t x y=some p):
  (Op.equal t u v).run P w=.ok p w∧(∀ d,P.underlying t=some d→(∃ fs,d=.struct fs)∨Instr.sameNow d u v=some p)∧(p=true→∀ n,Instr.sameBits (n+1) v u=true):=by
 have sc:∀ {k:Nat} {ks:List Nat} {d:TypeDesc},P.underlying t=some d→ks=[k]→isAggB P t=false→EqOk P 10000 t ks→eqCell k x y=some p→(Op.equal t u v).run P w=.ok p w:=by
  intro k ks d hd hks ha hok hc
  subst hks
  have:=hok G w [x] [y] [u] [v] p (.cons hx .nil) (.cons hy .nil) (by simp [eqCells,hc])
  have this2:(Op.equalIn 10000 t u v).run P w=.ok p w:=by simpa [mkV,ha] using this
  exact this2
 unfold eqKey at h
 split at h
 ·rename_i hu
  refine ⟨sc hu rfl (by simp [isAggB,hu]) (eqOk_bool (D:=9999) hu) h,fun d hd=>.inr ?_,fun hp n=>?_⟩
  all_goals
   unfold eqCell at h
   split at h<;>first | (cases h;done) | skip
   all_goals (try omega)
   obtain ⟨rfl,_⟩:=srep_v hx
   obtain ⟨rfl,_⟩:=srep_v hy
   obtain rfl:=Option.some.inj h
  ·rw [hu] at hd;cases hd;rfl
  ·simp only [beq_iff_eq] at hp
   subst hp;simp [Instr.sameBits]
 ·rename_i k0 hu
  refine ⟨sc hu rfl (by simp [isAggB,hu]) (eqOk_int (D:=9999) hu) h,fun d hd=>.inr ?_,fun hp n=>?_⟩
  all_goals
   unfold eqCell at h
   split at h<;>first | (cases h;done) | skip
   all_goals (try omega)
   rename_i k m k' m' _
   obtain ⟨rfl,_⟩:=srep_v hx
   obtain ⟨rfl,_⟩:=srep_v hy
   by_cases e:k=k'
   ·subst e
    simp only [decide_true,cond_true,Option.some.injEq] at h
    subst h
    first
     | (rw [hu] at hd;cases hd;simp only [Instr.sameNow,if_true];rfl)
     | (simp only [decide_eq_true_eq] at hp;subst hp;simp [Instr.sameBits])
   ·simp [e] at h
 ·rename_i hu
  refine ⟨sc hu rfl (by simp [isAggB,hu]) (eqOk_string (D:=9999) hu) h,fun d hd=>.inr ?_,fun hp n=>?_⟩
  all_goals
   unfold eqCell at h
   split at h<;>first | (cases h;done) | skip
   all_goals (try omega)
   obtain ⟨rfl,_⟩:=srep_v hx
   obtain ⟨rfl,_⟩:=srep_v hy
   obtain rfl:=Option.some.inj h
  ·rw [hu] at hd;cases hd
   simp only [Instr.sameNow,strEq,bytesEq_iff]
   rw [beq_toListBytes,Lib.toList_data,Lib.toList_data]
  ·simp only [strEq,bytesEq_iff,beq_iff_eq] at hp
   have e2:=Go.WideShapes.bytes_inj hp
   subst e2;simp only [Instr.sameBits];rw [beq_toListBytes];simp
 ·rename_i fs hu
  split at h
  ·rename_i xs ys ks hks
   obtain ⟨hk,h1,h2⟩:=hK t ks hks
   obtain ⟨vx,rfl,hvx⟩:=srep_agg' hx
   obtain ⟨vy,rfl,hvy⟩:=srep_agg' hy
   have:=eqOk_all 20 t ks hk Op.maxDepth (by decide) G w xs ys _ _ p hvx hvy h
   rw [isAgg_mkV h1,isAgg_mkV h1] at this
   refine ⟨this,fun d hd=>.inl ⟨fs,by rw [hu] at hd;exact (Option.some.inj hd).symm⟩,fun hp n=>?_⟩
   subst hp
   have key:∀ (ks:List Nat) (xs ys:List S) (vx vy:List Value),LRep G w xs vx→LRep G w ys vy→eqCells ks xs ys=some true→vy.length=vx.length∧∀ n,((vy.zip vx).all fun (a,b)=>Instr.sameBits n a b)=true:=by
    intro ks
    induction ks with
    | nil=>
     intro xs ys vx vy a1 a2 a3
     obtain ⟨l1,l2⟩:=eqCells_len a3
     have e1:=List.length_eq_zero_iff.1 l1
     have e2:=List.length_eq_zero_iff.1 l2
     subst e1;subst e2
     obtain rfl:vx=[]:=List.length_eq_zero_iff.1 a1.1.symm
     obtain rfl:vy=[]:=List.length_eq_zero_iff.1 a2.1.symm
     exact ⟨rfl,fun _=>rfl⟩
    | cons k ks ih=>
     intro xs ys vx vy a1 a2 a3
     obtain ⟨l1,l2⟩:=eqCells_len a3
     cases xs with
     | nil=>simp at l1
     | cons x xs=>
      cases ys with
      | nil=>simp at l2
      | cons y ys=>
       obtain ⟨u,r,rfl,hu,hr⟩:=a1.uncons
       obtain ⟨v,r',rfl,hv,hr'⟩:=a2.uncons
       simp only [eqCells,Option.bind_eq_some_iff,Option.map_eq_some_iff] at a3
       obtain ⟨p,hp,q,hq,e⟩:=a3
       rw [Bool.and_eq_true] at e
       obtain ⟨rfl,rfl⟩:=e
       obtain ⟨i1,i2⟩:=ih xs ys r r' hr hr' hq
       refine ⟨by simp [i1],fun n=>?_⟩
       simp only [List.zip_cons_cons,List.all_cons,i2 n,Bool.and_true]
       unfold eqCell at hp
       split at hp<;>first | (cases hp;done) | skip
       ·obtain ⟨rfl,_⟩:=srep_v hu
        obtain ⟨rfl,_⟩:=srep_v hv
        simp only [Option.some.injEq,beq_iff_eq] at hp
        subst hp;simp [Instr.sameBits]
       ·rename_i k1 m k2 m'
        obtain ⟨rfl,_⟩:=srep_v hu
        obtain ⟨rfl,_⟩:=srep_v hv
        by_cases e:k1=k2
        ·subst e
         simp only [decide_true,cond_true,Option.some.injEq,decide_eq_true_eq] at hp
         subst hp;simp [Instr.sameBits]
        ·simp [e] at hp
       ·obtain ⟨rfl,_⟩:=srep_v hu
        obtain ⟨rfl,_⟩:=srep_v hv
        simp only [Option.some.injEq,strEq,bytesEq_iff,beq_iff_eq] at hp
        have e2:=Go.WideShapes.bytes_inj hp
        subst e2;simp only [Instr.sameBits];rw [beq_toListBytes];simp
   obtain ⟨q1,q2⟩:=key ks xs ys _ _ hvx hvy h
   simp only [Instr.sameBits,q2 n,Bool.and_true,beq_iff_eq]
   simpa using q1
  ·cases h
 ·cases h
def Found (G:Gh) (w:World) (P:Program) (K:TypeId→Option (List Nat)) (t:TypeId) (k:S) (es:List (S × S)) (i:Nat):Option (Nat × S)→Option (Nat × Value)→Prop
 | none,none=>True
 | some (j,s),some (j',v)=>j=j'∧i≤j∧SRep G w s v∧∃ e,es[j - i]?=some e∧eqKey P K t k e.1=some true
 | _,_=>False
theorem Found.cons {K:TypeId→Option (List Nat)} {t:TypeId} {k:S} {e:S × S} {es:List (S × S)} {i:Nat} {r:Option (Nat × S)} {r':Option (Nat × Value)} (h:Found G w P K t k es (i+1) r r'):Found G w P K t k (e::es) i r r':=by
 cases r<;>cases r'<;>first | exact h | skip
 obtain ⟨h1,h2,h3,e2,h4,h5⟩:=h
 refine ⟨h1,by omega,h3,e2,?_,h5⟩
 rename_i p q
 rw [show p.1 - i=(p.1 - (i+1))+1 by omega]
 simpa using h4
theorem findNow_run {K:TypeId→Option (List Nat)} (hK:KOk P K) {t:TypeId} {d:TypeDesc} (hd:P.underlying t=some d) (hns:∀ fs,d≠.struct fs) {k:S} {u:Value} (hk:SRep G w k u):∀ (es:List (S × S)) (l:List MapEntry) (i:Nat) (r:Option (Nat × S)),es.length=l.length→
  (∀ (i:Nat) (e:S × S) (m:MapEntry),es[i]?=some e→l[i]?=some m→SRep G w e.1 m.key∧SRep G w e.2 m.val)→findS P K t k es i=some r→∃ r',Instr.findNow d u l i=some r'∧Found G w P K t k es i r r'
 | [],l,i,r,hl,_,h=>by
  obtain rfl:l=[]:=List.length_eq_zero_iff.1 hl.symm
  obtain rfl:=Option.some.inj h
  exact ⟨none,rfl,trivial⟩
 | e::es,l,i,r,hl,he,h=>by
  cases l with
  | nil=>simp at hl
  | cons m l=>
   obtain ⟨h1,h2⟩:=he 0 e m rfl rfl
   unfold findS at h
   obtain ⟨p,hp,h⟩:=Option.bind_eq_some_iff.1 h
   obtain ⟨_,q2,_⟩:=eqKey_run hK hk h1 hp
   have hsn:=(q2 d hd).resolve_left (fun ⟨fs,e⟩=>hns fs e)
   cases p with
   | true=>
    simp only [cond_true,Option.some.injEq] at h
    subst h
    exact ⟨some (i,m.val),by simp [Instr.findNow,hsn],rfl,Nat.le_refl _,h2,e,by simp,hp⟩
   | false=>
    simp only [cond_false] at h
    obtain ⟨r',a1,a2⟩:=findNow_run hK hd hns hk es l (i+1) r (by simpa using hl) (fun j e' m' b1 b2=>he (j+1) e' m' (by simpa using b1) (by simpa using b2)) h
    exact ⟨r',by simp only [Instr.findNow,hsn];exact a1,a2.cons⟩
theorem findAsking_run {K:TypeId→Option (List Nat)} (hK:KOk P K) {t:TypeId} {k:S} {u:Value} (hk:SRep G w k u):∀ (es:List (S × S)) (l:List MapEntry) (i:Nat) (r:Option (Nat × S)),es.length=l.length→
  (∀ (i:Nat) (e:S × S) (m:MapEntry),es[i]?=some e→l[i]?=some m→SRep G w e.1 m.key∧SRep G w e.2 m.val)→findS P K t k es i=some r→∃ r',(Instr.findAsking t u l i).run P w=.ok r' w∧Found G w P K t k es i r r'
 | [],l,i,r,hl,_,h=>by
  obtain rfl:l=[]:=List.length_eq_zero_iff.1 hl.symm
  obtain rfl:=Option.some.inj h
  exact ⟨none,rfl,trivial⟩
 | e::es,l,i,r,hl,he,h=>by
  cases l with
  | nil=>simp at hl
  | cons m l=>
   obtain ⟨h1,h2⟩:=he 0 e m rfl rfl
   unfold findS at h
   obtain ⟨p,hp,h⟩:=Option.bind_eq_some_iff.1 h
   obtain ⟨q1,_,_⟩:=eqKey_run hK hk h1 hp
   cases p with
   | true=>
    simp only [cond_true,Option.some.injEq] at h
    subst h
    exact ⟨some (i,m.val),by simp only [Instr.findAsking,Sem.run_bind,q1,Result.andThen_ok,if_true,Sem.run_pure],rfl,Nat.le_refl _,h2,e,by simp,hp⟩
   | false=>
    simp only [cond_false] at h
    obtain ⟨r',a1,a2⟩:=findAsking_run hK hk es l (i+1) r (by simpa using hl) (fun j e' m' b1 b2=>he (j+1) e' m' (by simpa using b1) (by simpa using b2)) h
    exact ⟨r',by simp only [Instr.findAsking,Sem.run_bind,q1,Result.andThen_ok,Bool.false_eq_true,if_false];exact a1,a2.cons⟩
theorem findKey_run {K:TypeId→Option (List Nat)} (hK:KOk P K) {t:TypeId} {k:S} {u:Value} (hk:SRep G w k u) (hfit:keyFits P K t k=true) {es:List (S × S)} {arr:Array MapEntry} (he:EntIn G w arr es) {r:Option (Nat × S)} (h:findS P K t k es 0=some r):
  ∃ r',(Instr.findKey t u arr.toList).run P w=.ok r' w∧Found G w P K t k es 0 r r':=by
 obtain ⟨d,hd⟩:∃ d,P.underlying t=some d:=by
  unfold keyFits at hfit
  cases hu:P.underlying t with
  | some d=>exact ⟨d,rfl⟩
  | none=>rw [hu] at hfit;cases hfit
 have hl:es.length=arr.toList.length:=by simpa using he.1
 have hent:∀ (i:Nat) (e:S × S) (m:MapEntry),es[i]?=some e→arr.toList[i]?=some m→SRep G w e.1 m.key∧SRep G w e.2 m.val:=fun i e m a b=>he.2 i e m a (by simpa using b)
 unfold Instr.findKey
 simp only [Sem.run_bind,run_underlying hd,Result.andThen_ok]
 by_cases hs:∃ fs,d=.struct fs
 ·obtain ⟨fs,rfl⟩:=hs
  obtain ⟨r',a1,a2⟩:=findAsking_run hK hk es arr.toList 0 r hl hent h
  refine ⟨r',?_,a2⟩
  cases hal:arr.toList with
  | nil=>
   rw [hal] at a1
   simp only [Instr.findAsking,Sem.run_pure,Result.ok.injEq,and_true] at a1
   subst a1
   rfl
  | cons m l=>
   rw [hal] at a1
   have:Instr.findNow (.struct fs) u (m::l) 0=none:=by simp [Instr.findNow,Instr.sameNow]
   rw [this]
   exact a1
 ·obtain ⟨r',a1,a2⟩:=findNow_run hK hd (fun fs e=>hs ⟨fs,e⟩) hk es arr.toList 0 r hl hent h
  exact ⟨r',by rw [a1];rfl,a2⟩
theorem checkKey_step {b:Bool} {n:Nat} {t:TypeId} {d:TypeDesc} {v:Value} (hd:P.underlying t=some d) (h:(∀ ms,d≠.interface ms)∧(∀ m e,d≠.array m e)∧(∀ fs,d≠.struct fs)):(Instr.checkKey b (n+1) t v).run P w=.ok () w:=by
 simp only [Instr.checkKey,Sem.run_bind,run_underlying hd,Result.andThen_ok]
 cases d<;>first
  | rfl
  | (exact absurd rfl (h.1 _))
  | (exact absurd rfl (h.2.1 _ _))
  | (exact absurd rfl (h.2.2 _))
theorem forIn_unit {β:Type} (w:World) (g:β→PUnit→Sem (ForInStep PUnit)):∀ (l:List β),(∀ x∈l,(g x ⟨⟩).run P w=.ok (.yield ⟨⟩) w)→(forIn l PUnit.unit g:Sem PUnit).run P w=.ok PUnit.unit w
 | [],_=>rfl
 | x::l,h=>by
  rw [List.forIn_cons]
  simp only [Sem.run_bind,h x (by simp),Result.andThen_ok]
  exact forIn_unit w g l (fun y hy=>h y (by simp [hy]))
theorem kindsFields_spec {rec:TypeId→Option (List Nat)}:∀ {fs:List Field} {o:Nat} {ks:List Nat},kindsFields P rec fs o=some ks→∀ f∈fs,∃ k1,rec f.type=some k1∧k1.length=P.cellsOf f.type∧o≤f.offset∧f.offset+P.cellsOf f.type≤o+ks.length
 | [],o,ks,_,f,hf=>by cases hf
 | g::fs,o,ks,h,f,hf=>by
  unfold kindsFields at h
  cases e:g.name != "_" && g.offset.beq o with
  | false=>rw [e] at h;cases h
  | true=>
   rw [e,cond_true] at h
   rw [Bool.and_eq_true] at e
   have ho:g.offset=o:=Nat.eq_of_beq_eq_true e.2
   obtain ⟨k1,h1,h⟩:=Option.bind_eq_some_iff.1 h
   cases e2:k1.length.beq (P.cellsOf g.type) with
   | false=>rw [e2] at h;cases h
   | true=>
    rw [e2,cond_true] at h
    have hl:=Nat.eq_of_beq_eq_true e2
    obtain ⟨k2,h2,rfl⟩:=Option.map_eq_some_iff.1 h
    rcases List.mem_cons.1 hf with rfl | hf
    ·exact ⟨k1,h1,hl,by omega,by simp;omega⟩
    ·obtain ⟨k3,q1,q2,q3,q4⟩:=kindsFields_spec h2 f hf
     exact ⟨k3,q1,q2,by omega,by simp;omega⟩
theorem checkKey_ok:∀ (d:Nat) (t:TypeId) (ks:List Nat),kindsOf P d t=some ks→∀ (n:Nat),d≤n→∀ (b:Bool) (w:World) (vs:List Value),vs.length=ks.length→(Instr.checkKey b n t (mkV P t vs)).run P w=.ok () w
 | 0,_,_,h,_,_,_,_,_,_=>(kinds_zero h).elim
 | d+1,t,ks,h,n,hn,b,w,vs,hl=>by
  obtain ⟨n,rfl⟩:∃ m,n=m+1:=⟨n - 1,by omega⟩
  have ih:=fun t ks h=>checkKey_ok d t ks h n (by omega)
  obtain ⟨dd,hd⟩:=kinds_under h
  have h':=h
  simp only [kindsOf,hd] at h
  cases dd<;>simp only at h<;>first | (cases h;done) | skip
  case bool=>exact checkKey_step hd ⟨fun _=>by simp,fun _ _=>by simp,fun _=>by simp⟩
  case int k=>exact checkKey_step hd ⟨fun _=>by simp,fun _ _=>by simp,fun _=>by simp⟩
  case string=>exact checkKey_step hd ⟨fun _=>by simp,fun _ _=>by simp,fun _=>by simp⟩
  case array m e=>
   obtain ⟨k1,hk1,h⟩:=Option.bind_eq_some_iff.1 h
   cases e1:k1.length.beq (P.cellsOf e) && (P.info? e).isSome<;>rw [e1] at h
   ·cases h
   ·obtain rfl:=Option.some.inj h
    rw [Bool.and_eq_true] at e1
    have hke:=Nat.eq_of_beq_eq_true e1.1
    obtain ⟨i,hi⟩:=Option.isSome_iff_exists.1 e1.2
    obtain ⟨d2,hd2⟩:=kinds_under hk1
    have ha:isAggB P t=true:=by simp [isAggB,hd]
    simp only [mkV,ha,if_true,Instr.checkKey,Sem.run_bind,run_underlying hd,Result.andThen_ok]
    simp only [Std.Legacy.Range.forIn_eq_forIn_range',Std.Legacy.Range.size,Nat.sub_zero,Nat.add_one_sub_one,Nat.div_one]
    have hlen:vs.length=m*P.cellsOf e:=by rw [hl];simp [List.length_flatten,List.map_replicate,hke]
    refine congrArg (fun r=>Result.andThen r fun _ w'=>.ok () w') (forIn_unit (P:=P) w _ (List.range' 0 m 1) (fun x hx=>?_))
    ·have hx':x < m:=by have:=List.mem_range'.1 hx;omega
     have hle:(x+1)*P.cellsOf e≤vs.length:=by rw [hlen];exact Nat.mul_le_mul_right _ hx'
     rw [Nat.succ_mul] at hle
     have hp:=(run_part_mk (P:=P) (w:=w) hd2 vs (x*P.cellsOf e) (fun ha2=>by have:=kinds_ne hk1 ha2;omega)).resolve_right (fun h=>kinds_ne hk1 h.1 h.2)
     have hq:=ih e k1 hk1 b w ((vs.drop (x*P.cellsOf e)).take (P.cellsOf e)) (by rw [List.length_take,List.length_drop,hke];omega)
     simp only [Sem.run_bind,run_sizeOf w hi,Result.andThen_ok,hp,hq,Sem.run_pure]
  case struct fs=>
   cases e:P.stoodInHeld t<;>rw [e] at h
   ·simp only [cond_false] at h
    have ha:isAggB P t=true:=by simp [isAggB,hd]
    have hsp:=kindsFields_spec h
    simp only [mkV,ha,if_true,Instr.checkKey,Sem.run_bind,run_underlying hd,Result.andThen_ok]
    rw [← Array.forIn_toList]
    refine congrArg (fun r=>Result.andThen r fun _ w'=>.ok () w') (forIn_unit (P:=P) w _ fs.toList (fun f hf=>?_))
    ·skip
     obtain ⟨k1,q1,q2,q3,q4⟩:=hsp f hf
     obtain ⟨d2,hd2⟩:=kinds_under q1
     have hp:=(run_part_mk (P:=P) (w:=w) hd2 vs f.offset (fun ha2=>by have:=kinds_ne q1 ha2;omega)).resolve_right (fun h=>kinds_ne q1 h.1 h.2)
     rw [Sem.run_ite]
     split
     ·have hq:=ih f.type k1 q1 b w ((vs.drop f.offset).take (P.cellsOf f.type)) (by rw [List.length_take,List.length_drop,q2];omega)
      simp only [Sem.run_bind,hp,Result.andThen_ok,hq,Sem.run_pure]
     ·rfl
   ·cases h
theorem checkKey_run {K:TypeId→Option (List Nat)} (hK:KOk P K) {t:TypeId} {k:S} {u:Value} (hk:SRep G w k u) (hfit:keyFits P K t k=true) (b:Bool):(Instr.checkKey b 10000 t u).run P w=.ok () w:=by
 unfold keyFits at hfit
 split at hfit
 ·rename_i hu;exact checkKey_step hu ⟨fun _=>by simp,fun _ _=>by simp,fun _=>by simp⟩
 ·rename_i hu;exact checkKey_step hu ⟨fun _=>by simp,fun _ _=>by simp,fun _=>by simp⟩
 ·rename_i hu;exact checkKey_step hu ⟨fun _=>by simp,fun _ _=>by simp,fun _=>by simp⟩
 ·rename_i fs xs hu
  split at hfit
  ·rename_i ks hks
   obtain ⟨q1,q2,_⟩:=hK t ks hks
   obtain ⟨vs,rfl,hl⟩:=srep_agg' hk
   have:=checkKey_ok 20 t ks q1 10000 (by omega) b w vs.toList (by rw [← hl.1];exact Nat.eq_of_beq_eq_true hfit)
   simpa [mkV,q2] using this
  ·cases hfit
 ·cases hfit
theorem getMap_run {r clock:Nat} {arr:Array MapEntry} (hb:w.heap[r]?=some (.map arr clock)):(getObj r).run P w=.ok (.map arr clock) w:=by simp [getObj,Sem.run,hb]
theorem setMap_run {r clock:Nat} {arr:Array MapEntry} (o:Obj) (hb:w.heap[r]?=some (.map arr clock)):(setObj r o).run P w=.ok () { w with heap:=w.heap.setIfInBounds r o }:=by
 simp [setObj,Sem.run,hb]
theorem lookS_run {K:TypeId→Option (List Nat)} (hK:KOk P K) (hs:Sim B0 w0 G h w) {get:Nat→Option B} (hg:∀ b x,get b=some x→h.get b=some x) {t:TypeId} {x k s:S} {vx vk:Value} {ok:Bool} (hx:SRep G w x vx) (hk:SRep G w k vk) (hl:lookS P K get t x k ok=some s):
  ∃ v,(Instr.lookup t vx vk ok).run P w=.ok v w∧SRep G w s v:=by
 unfold lookS at hl
 split at hl
 ·rename_i kt et hu
  cases hfit:keyFits P K kt k with
  | false=>rw [hfit] at hl;cases hl
  | true=>
   rw [hfit,Bool.not_true,cond_false] at hl
   have rest:∀ {es:List (S × S)} {arr:Array MapEntry},EntIn G w arr es→((findS P K kt k es 0).bind fun r=>match r with
     | some (_,v)=>some (bif ok then S.tup [v,sv (.bool true)] else v)
     | none=>(zeroS P et).map fun z=>bif ok then S.tup [z,sv (.bool false)] else z)=some s→
     ∃ v,(do
      Instr.checkKey arr.isEmpty 10000 kt vk
      let (v,o) ← match ← Instr.findKey kt vk arr.toList with
       | some (_,v)=>pure (v,true)
       | none=>pure (← zeroValue et,false)
      pure (if ok then .tuple #[v,.bool o] else v):Sem Value).run P w=.ok v w∧SRep G w s v:=by
    intro es arr he hf
    obtain ⟨r,hr,hf⟩:=Option.bind_eq_some_iff.1 hf
    obtain ⟨r',h1,h2⟩:=findKey_run hK hk hfit he hr
    have tup:∀ {z:S} {v:Value} (o:Bool),SRep G w z v→SRep G w (bif ok then S.tup [z,sv (.bool o)] else z) (if ok then .tuple #[v,.bool o] else v):=by
     intro z v o hz
     cases ok
     ·simpa using hz
     ·have hl:LRep G w [z,sv (.bool o)] [v,.bool o]:=.cons hz (.cons (.t (.v _ rfl)) .nil)
      exact .tup (by simp) (fun i s v h1 h2=>hl.2 i s v h1 (by simpa using h2))
    simp only [Sem.run_bind,checkKey_run hK hk hfit,Result.andThen_ok,h1]
    cases r with
    | some p=>
     cases r' with
     | none=>exact h2.elim
     | some p'=>
      obtain ⟨_,_,h3,_⟩:=h2
      obtain rfl:=Option.some.inj hf
      exact ⟨_,rfl,tup true h3⟩
    | none=>
     cases r' with
     | some _=>exact h2.elim
     | none=>
      obtain ⟨z,hz,rfl⟩:=Option.map_eq_some_iff.1 hf
      obtain ⟨i,v,hi,hv,rfl⟩:=zeroS_spec hz
      simp only [Sem.run_bind,run_zeroValue_ok hi hv,Result.andThen_ok,Sem.run_pure]
      exact ⟨_,rfl,tup false (srep_const v)⟩
   split at hl
   ·rename_i es hes
    have fin:∃ arr:Array MapEntry,EntIn G w arr es∧((vx=.map none∧arr=#[])∨∃ r clock,vx=.map (some r)∧w.heap[r]?=some (.map arr clock)):=by
     split at hes
     ·rename_i b
      split at hes
      ·rename_i es' hb
       obtain rfl:=Option.some.inj hes
       cases hx with | mp hmu=>
       have hrep:=hs.rep b _ (hg _ _ hb)
       cases hrep with | mp hmu' hown hbl hc hi hB=>
       rw [hmu] at hmu'
       simp only [Option.some.injEq,Value.map.injEq] at hmu'
       subst hmu'
       exact ⟨_,hc,.inr ⟨_,_,rfl,hbl⟩⟩
      ·cases hes
     ·obtain rfl:=Option.some.inj hes
      cases hx with | mt h1 h2 h3 h4 h5=>exact ⟨_,⟨h3,fun i e m a b=>⟨h4 i e m a b,h5 i e m a b⟩⟩,.inr ⟨_,_,rfl,h2⟩⟩
     ·obtain rfl:=Option.some.inj hes
      obtain ⟨rfl,_⟩:=srep_v hx
      exact ⟨#[],⟨rfl,fun i e m h=>by simp at h⟩,.inl ⟨rfl,rfl⟩⟩
     ·cases hes
    obtain ⟨arr,he,hcase⟩:=fin
    obtain ⟨v,hv,hsv⟩:=rest he hl
    refine ⟨v,?_,hsv⟩
    rw [← hv]
    rcases hcase with ⟨rfl,rfl⟩ | ⟨r,clock,rfl,hbl⟩
    ·simp only [Instr.lookup,Sem.run_bind,run_underlying hu,Result.andThen_ok,Sem.run_pure]
     rfl
    ·simp only [Instr.lookup,Sem.run_bind,run_underlying hu,Result.andThen_ok,getMap_run hbl,Sem.run_pure]
     rfl
   ·cases hl
 ·cases hl
theorem setE_len:∀ (es:List (S × S)) (i:Nat) (k v:S),(setE es i k v).length=es.length
 | [],_,_,_=>rfl
 | _::_,0,_,_=>rfl
 | _::es,i+1,k,v=>by simp [setE,setE_len es i k v]
theorem setE_get:∀ (es:List (S × S)) (i:Nat) (k v:S) (j:Nat) (e:S × S),(setE es i k v)[j]?=some e→(j=i∧e=(k,v))∨(j≠i∧es[j]?=some e)
 | [],_,_,_,j,e,h=>by simp [setE] at h
 | _::es,0,k,v,0,e,h=>by simp [setE] at h;exact .inl ⟨rfl,h.symm⟩
 | _::es,0,k,v,j+1,e,h=>by simp [setE] at h;exact .inr ⟨by omega,by simpa using h⟩
 | x::es,i+1,k,v,0,e,h=>by simp [setE] at h;exact .inr ⟨by omega,by simpa using h⟩
 | _::es,i+1,k,v,j+1,e,h=>by
  simp only [setE,List.getElem?_cons_succ] at h
  rcases setE_get es i k v j e h with ⟨h1,h2⟩ | ⟨h1,h2⟩
  ·exact .inl ⟨by omega,h2⟩
  ·exact .inr ⟨by omega,by simpa using h2⟩
theorem entIn_set {arr:Array MapEntry} {es:List (S × S)} (he:EntIn G w arr es) (i:Nat) {k v:S} {u x:Value} (hk:SRep G w k u) (hv:SRep G w v x):EntIn G w (arr.modify i fun e=>{ e with key:=u,val:=x }) (setE es i k v):=by
 refine ⟨by rw [setE_len,Array.size_modify];exact he.1,fun j e m h1 h2=>?_⟩
 rw [Array.getElem?_modify] at h2
 rcases setE_get es i k v j e h1 with ⟨rfl,rfl⟩ | ⟨hne,h1⟩
 ·rw [if_pos rfl] at h2
  obtain ⟨m',_,rfl⟩:=Option.map_eq_some_iff.1 h2
  exact ⟨hk,hv⟩
 ·rw [if_neg (fun e=>hne e.symm)] at h2
  exact he.2 j e m h1 h2
theorem entIn_push {arr:Array MapEntry} {es:List (S × S)} (he:EntIn G w arr es) {k v:S} {m:MapEntry} (hk:SRep G w k m.key) (hv:SRep G w v m.val):EntIn G w (arr.push m) (es++[(k,v)]):=by
 refine ⟨by simp [he.1],fun j e m' h1 h2=>?_⟩
 rw [Array.getElem?_push] at h2
 by_cases hj:j=arr.size
 ·rw [if_pos hj] at h2
  obtain rfl:=Option.some.inj h2
  rw [hj,← he.1,List.getElem?_append_right (Nat.le_refl _)] at h1
  simp only [Nat.sub_self,List.getElem?_cons_zero,Option.some.injEq] at h1
  subst h1
  exact ⟨hk,hv⟩
 ·rw [if_neg hj] at h2
  have hlt:j < es.length:=by rw [he.1];exact (Array.getElem?_eq_some_iff.1 h2).1
  rw [List.getElem?_append_left hlt] at h1
  exact he.2 j e m' h1 h2
theorem updS_run {K:TypeId→Option (List Nat)} (hK:KOk P K) (hs:Sim B0 w0 G h w) {t:TypeId} {m k v:S} {vm vk vv:Value} {h':Heap} (hm:SRep G w m vm) (hk:SRep G w k vk) (hv:SRep G w v vv) (hst:updS P K h t m k v=some h') (id:Nat):
  ∃ w' G',(Instr.mapUpdate t vm vk vv).run P w=.ok () w'∧Sim B0 w0 G' h' w'∧Nx B0 id G h w G' h' w':=by
 unfold updS at hst
 split at hst
 ·rename_i kt et b hu
  split at hst
  ·rename_i k' l1 v' l2 hk' hv'
   cases e0:!keyFits P K kt k' || l1.contains b || l2.contains b || !l1.all (rowAt h.get) || !l2.all (rowAt h.get) with
   | true=>rw [e0] at hst;cases hst
   | false=>
    rw [e0,cond_false] at hst
    simp only [Bool.or_eq_false_iff,Bool.not_eq_false'] at e0
    obtain ⟨⟨⟨⟨e1,e2⟩,e3⟩,e4⟩,e5⟩:=e0
    have nb:∀ {l:List Nat},l.contains b=false→b∉l:=fun h hb=>by
     rw [List.contains_eq_mem] at h;simp [hb] at h
    split at hst
    ·rename_i es hb
     obtain ⟨r,hr,rfl⟩:=Option.map_eq_some_iff.1 hst
     obtain ⟨s1,n1⟩:=hs.freeze l1 id
     obtain ⟨s2,n2⟩:=s1.freeze l2 id
     have rowAll:∀ {l:List Nat},l.all (rowAt h.get)=true→∀ b∈l,∃ x,h.get b=some x∧isRow x=true:=fun hall b hb=>by
      have:=List.all_eq_true.1 hall b hb
      unfold rowAt at this
      cases hx:h.get b with
      | none=>rw [hx] at this;cases this
      | some x=>rw [hx] at this;exact ⟨x,rfl,this⟩
     have row1:∀ x:B,isRow (freeze1 x)=isRow x:=fun x=>by cases x<;>rfl
     have lent1:∀ q,Lent G h l1 q→((G.froz h l1).froz (h.freeze l1) l2).imm q:=fun q hq=>by
      rcases hq with hq | ⟨c,hc,_,ho⟩
      ·exact .inl (.inl hq)
      ·obtain ⟨x,hx,hrx⟩:=rowAll e4 c hc
       exact .inl (.inr ⟨c,hc,x,hx,hrx,ho⟩)
     have lent2:∀ q,Lent G h l2 q→((G.froz h l1).froz (h.freeze l1) l2).imm q:=fun q hq=>by
      rcases hq with hq | ⟨c,hc,_,ho⟩
      ·exact .inl (.inl hq)
      ·obtain ⟨x,hx,hrx⟩:=rowAll e5 c hc
       refine .inr ⟨c,hc,if c∈l1 then freeze1 x else x,by rw [(get_freeze l1 h c).1,hx];rfl,?_,ho⟩
       split
       ·rw [row1];exact hrx
       ·exact hrx
     have hk2:=closeS_rep hs (fun _ _ h=>h) depthS k vk k' l1 hk' hk _ lent1
     have hv2:=closeS_rep hs (fun _ _ h=>h) depthS v vv v' l2 hv' hv _ lent2
     have hb2:((h.freeze l1).freeze l2).get b=some (.mp false es):=by
      rw [(get_freeze l2 _ b).1,(get_freeze l1 h b).1,hb]
      simp [nb e2,nb e3]
     cases hm with | mp hmu=>
     have hrep:=s2.rep b _ hb2
     cases hrep with | mp hmu' hown hbl hc hi hB hw=>
     have hmu2:((G.froz h l1).froz (h.freeze l1) l2).mu b=G.mu b:=rfl
     rw [hmu2,hmu] at hmu'
     simp only [Option.some.injEq,Value.map.injEq] at hmu'
     subst hmu'
     rename_i rr clock arr
     obtain ⟨r',f1,f2⟩:=findKey_run hK hk2 e1 hc hr
     have hni:=hi rfl
     have hlt:rr < w.heap.size:=(Array.getElem?_eq_some_iff.1 hbl).1
     have wr:∀ (arr':Array MapEntry) (clock':Nat) (es':List (S × S)),EntIn ((G.froz h l1).froz (h.freeze l1) l2) w arr' es'→BornOk arr' clock'→
       Sim B0 w0 ((G.froz h l1).froz (h.freeze l1) l2) (((h.freeze l1).freeze l2).put b (.mp false es')) { w with heap:=w.heap.setIfInBounds rr (.map arr' clock') }∧
       Nx B0 id ((G.froz h l1).froz (h.freeze l1) l2) ((h.freeze l1).freeze l2) w ((G.froz h l1).froz (h.freeze l1) l2) (((h.freeze l1).freeze l2).put b (.mp false es')) { w with heap:=w.heap.setIfInBounds rr (.map arr' clock') }:=by
      intro arr' clock' es' hin hw'
      have hkp:∀ q,q≠rr→(w.heap.setIfInBounds rr (.map arr' clock'))[q]?=w.heap[q]?:=fun q hq=>Array.getElem?_setIfInBounds_ne (fun e=>hq e.symm)
      refine s2.write hb2 hown hni hB (w':={ w with heap:=w.heap.setIfInBounds rr (.map arr' clock') }) hkp (by simp) rfl rfl rfl ?_ id
      refine .mp hmu hown (by show (w.heap.setIfInBounds rr _)[rr]?=_;rw [Array.getElem?_setIfInBounds_self_of_lt hlt]) (hin.mono (fun _ h=>h) (fun q hq=>hkp q (fun e=>hni (e ▸ hq))) (fun _ _ h=>h)) (fun _=>hni) hB hw'
     cases r with
     | none=>
      cases r' with
      | some _=>exact f2.elim
      | none=>
       obtain ⟨q1,q2⟩:=wr (arr.push { key:=vk,val:=vv,born:=clock }) (clock+1) (es++[(k',v')]) (entIn_push hc hk2 hv2) (bornOk_push hw _ _)
       refine ⟨_,_,?_,q1,(n1.trans n2).trans q2⟩
       simp only [Instr.mapUpdate,Sem.run_bind,run_underlying hu,Result.andThen_ok,getMap_run hbl,checkKey_run hK hk2 e1,f1,setMap_run _ hbl]
     | some p=>
      obtain ⟨i,s⟩:=p
      cases r' with
      | none=>exact f2.elim
      | some p'=>
       obtain ⟨i',s'⟩:=p'
       obtain ⟨rfl,_,_,e,he,heq⟩:=f2
       rw [Nat.sub_zero] at he
       have hia:i < arr.size:=by rw [← hc.1];exact (List.getElem?_eq_some_iff.1 he).1
       have hai:arr[i]?=some arr[i]:=by simp [hia]
       obtain ⟨_,_,hsame⟩:=eqKey_run hK hk2 (hc.2 i e _ he hai).1 heq
       obtain ⟨q1,q2⟩:=wr (arr.modify i fun e=>{ e with key:=vk,val:=vv }) clock (setE es i k' v') (entIn_set hc i hk2 hv2) (bornOk_modify hw _ _ _)
       refine ⟨_,_,?_,q1,(n1.trans n2).trans q2⟩
       have hstay:(Instr.keyThatStays (((arr[i]?).map (·.key)).getD vk) vk).run P w=.ok vk w:=by
        rw [hai]
        simp only [Option.map_some,Option.getD_some,Instr.keyThatStays,hsame rfl 9999,if_true,Sem.run_pure]
       simp only [Instr.mapUpdate,Sem.run_bind,run_underlying hu,Result.andThen_ok,getMap_run hbl,checkKey_run hK hk2 e1,f1,hstay,setMap_run _ hbl]
    ·cases hst
  ·cases hst
 ·cases hst
theorem calleeS_spec {f:Operand} {az az':List S} {g:FuncId} {c:Call} (hcal:c.callee=.value f) (hf:FRep nt G w fr a) (ha:az=c.args.toList.map (ev fr)) (hc:calleeS fr f az=some (g,az')) (type:TypeId):
  ∃ first cap,(resolve a.eval c type).run P w=.ok { target:=.fn (.func g) cap,args:=first++c.args.map a.eval } w∧LRep G w az' ((first++c.args.map a.eval)++cap).toList:=by
 have hx:=hf.ev f
 have hl:=map_rep hf c.args.toList
 unfold calleeS at hc
 split at hc
 ·rename_i g' first cap he
  rw [he] at hx
  obtain ⟨hv,_⟩:=srep_v hx
  cases e:first.size.beq 0 && cap.size.beq 0 with
  | false=>rw [e] at hc;cases hc
  | true=>
   rw [e,cond_true] at hc
   simp only [Option.some.injEq,Prod.mk.injEq] at hc
   obtain ⟨rfl,rfl⟩:=hc
   rw [Bool.and_eq_true] at e
   have h1:first=#[]:=Array.eq_empty_of_size_eq_zero (Nat.eq_of_beq_eq_true e.1)
   have h2:cap=#[]:=Array.eq_empty_of_size_eq_zero (Nat.eq_of_beq_eq_true e.2)
   subst h1;subst h2
   refine ⟨#[],#[],?_,?_⟩
   ·simp only [resolve,hcal,hv,Deferred.ofValue,Sem.run_pure]
   ·subst ha;simpa using hl
 ·rename_i g' first cap he
  rw [he] at hx
  simp only [Option.some.injEq,Prod.mk.injEq] at hc
  obtain ⟨rfl,rfl⟩:=hc
  generalize hv:a.eval f=vv at hx
  cases hx with | fn ha1 h1 hc1 h2=>
  rename_i va vc
  refine ⟨va,vc,?_,?_⟩
  ·simp only [resolve,hcal,hv,Deferred.ofValue,Sem.run_pure]
  ·have e1:LRep G w first va.toList:=⟨by simpa using ha1,fun i s v q1 q2=>h1 i s v q1 (by simpa using q2)⟩
   have e2:LRep G w cap vc.toList:=⟨by simpa using hc1,fun i s v q1 q2=>h2 i s v q1 (by simpa using q2)⟩
   subst ha
   have:=(e1.append hl).append e2
   simpa using this
 ·cases hc
theorem callFunc_run {V:World→Prop} {E:Env} (hE:EnvOk V E) {g:FuncId} (hg:E.fnOk g=true) (vs:Array Value):(callFunc g vs).run E.P w=.ok (.enter g vs) w:=by
 obtain ⟨fn,h1,h2,h3,_⟩:=hE.fn g hg
 simp only [callFunc,Sem.run_bind,run_program,Result.andThen_ok,h1,h2,h3,Bool.false_eq_true,if_false,Sem.run_pure]
theorem call_run {V:World→Prop} {E:Env} (hE:EnvOk V E) {o:Oper} {c:Call} (ho:o.op=.call c) {g:FuncId} (hg:E.fnOk g=true) {first cap:Array Value} (hr:(resolve a.eval c o.type).run E.P w=.ok { target:=.fn (.func g) cap,args:=first++c.args.map a.eval } w):
  (execOp a.eval o).run E.P w=.ok (.enter g ((first++c.args.map a.eval)++cap)) w:=by
 obtain ⟨dst,op,type,pos,after,guard⟩:=o
 simp only at ho hr
 subst ho
 simp only [execOp,Sem.run_bind,hr,Result.andThen_ok,invoke,callFunc_run hE hg]
theorem Sim.laid (hs:Sim B0 w0 G h w) (o:Obj) (ho:isLD o=false) (id:Nat):Sim B0 w0 ⟨G.mu,G.own,fun q=>G.imm q∨q=w.heap.size⟩ h (w.alloc o)∧Nx B0 id G h w ⟨G.mu,G.own,fun q=>G.imm q∨q=w.heap.size⟩ h (w.alloc o):=by
 have hbe:Below w.heap.size w (w.alloc o):=(Below.refl _ _).alloc (Nat.le_refl _) _
 obtain ⟨s1,s2⟩:=hs.later hbe id
 obtain ⟨t1,t2⟩:=s1.more (I':=fun q=>G.imm q∨q=w.heap.size) (fun _ h=>.inl h) (fun q hq=>by
  rcases hq with hq | rfl
  ·exact s1.imm q hq
  ·show _ < (w.heap.push o).size
   simp) (fun b q hb ho hq=>by
  rcases hq with hq | rfl
  ·exact hq
  ·cases hx:h.get b with
   | none=>exact absurd hx hb
   | some y=>have:=(hs.rep b y hx).lt ho;omega) (fun q hq=>by
  rcases hq with hq | rfl
  ·exact .inl hq
  ·exact .inr hs.b0) (fun q o' hq ho'=>by
  rcases hq with hq | rfl
  ·exact s1.nold q o' hq ho'
  ·rw [alloc_new] at ho'
   obtain rfl:=Option.some.inj ho'
   exact ho) id
 exact ⟨t1,s2.trans t2⟩
theorem iter_run {E:Env} {o:Oper} (hs:Sim B0 w0 G h w) (hf:FRep nt G w fr a) {get:Nat→Option B} {s:S} (hop:(∃ t x,o.op=.range t x)∨∃ x z,o.op=.next x z) (hp:readOp E get fr o.op=some s) (id:Nat):
  ∃ v w',(execOp a.eval o).run E.P w=.ok (.value v) w'∧After B0 w0 id G h w s h v w':=by
 obtain ⟨dst,op,type,pos,after,guard⟩:=o
 rcases hop with ⟨t,x,rfl⟩ | ⟨x,z,rfl⟩
 ·simp only [readOp] at hp
  split at hp
  ·rename_i k e hu hx
   obtain rfl:=Option.some.inj hp
   have hv:=hf.ev x
   rw [hx] at hv
   generalize hva:a.eval x=va at hv
   cases hv with | mt hi hb hl hk hv hw=>
   rename_i r arr clock
   obtain rfl:arr=#[]:=Array.eq_empty_of_size_eq_zero hl.symm
   obtain ⟨q1,q2⟩:=hs.laid (.mapIter (some r) clock #[] clock) rfl id
   refine ⟨_,_,by simp only [execOp,Sem.run_bind,hva,run_range_map (P:=E.P) w t k e r #[] clock hu hb,Result.andThen_ok,Sem.run_pure],_,q1,q2,.it (.inr rfl) (.inr ⟨r,clock,.inl hi,?_,heap_alloc_new w _⟩)⟩
   rw [heap_alloc_old w _ (hs.imm r hi)];exact hb
  ·rename_i k e hu hx
   obtain rfl:=Option.some.inj hp
   have hv:=hf.ev x
   rw [hx] at hv
   obtain ⟨hv,_⟩:=srep_v hv
   obtain ⟨q1,q2⟩:=hs.laid (.mapIter none 0 #[] 0) rfl id
   exact ⟨_,_,by simp only [execOp,Sem.run_bind,hv,run_range_nilMap (P:=E.P) w t k e hu,Result.andThen_ok,Sem.run_pure],_,q1,q2,.it (.inr rfl) (.inl (heap_alloc_new w _))⟩
  ·cases hp
 ·cases z with
  | true=>simp [readOp] at hp
  | false=>
  simp only [readOp] at hp
  split at hp
  ·rename_i hx
   obtain rfl:=Option.some.inj hp
   have hv:=hf.ev x
   rw [hx] at hv
   generalize hva:a.eval x=va at hv
   cases hv with | it hi hb=>
   rename_i r
   have hrun:∀ ty,(Instr.next (.pointer (some ⟨r,0,none⟩)) false ty).run E.P w=.ok (.tuple #[.bool false]) w:=fun ty=>by
    rcases hb with hb | ⟨m,c,h1,h2,h3⟩
    ·simp only [Instr.next,getObj,Sem.run_bind,Sem.run,hb,Result.andThen]
     rfl
    ·rcases run_next_at (P:=E.P) w ty r m c c #[] #[] c h3 h2 (by simp) (Nat.le_refl _) with ⟨_,h⟩ | ⟨e,he,_⟩
     ·exact h
     ·simp [leftOf] at he
   refine ⟨.tuple #[.bool false],w,by simp only [execOp,Sem.run_bind,hva,hrun,Result.andThen_ok,Sem.run_pure],G,hs,Nx.refl _ _ _ _ _,?_⟩
   exact .tup rfl (fun i s v h1 h2=>by
    match i with
    | 0=>
     obtain rfl:=Option.some.inj h1
     obtain rfl:Value.bool false=v:=by simpa using h2
     exact .t (.v _ rfl)
    | i+1=>simp at h1)
  ·cases hp
theorem stepOp_sound {V:World→Prop} {E:Env} (hE:EnvOk V E) (hV:∀ w',Below B0 w0 w'→V w') (hs:Sim B0 w0 G h w) (hf:FRep nt G w fr a) {dr:Bool} {get:Nat→Option B} (hg:∀ b x,get b=some x→h.get b=some x) {id:Nat} (hlt:id < h.next) (hid:G.mu id=none) (hh:h.get id=none)
  {o:Oper} {s:S} {h':Heap} (hst:stepOp E dr get id fr h o.op=some (s,h')) {next:Act→World→Prop} {Q:Exit→Act→World→Prop} (hn:∀ v w',After B0 w0 id G h w s h' v w'→next (a.put o.dst v) w'):o.wp E.P a w next Q:=by
 unfold Oper.wp
 have val:∀ {v:Value} {w':World},(execOp a.eval o).run E.P w=.ok (.value v) w'→After B0 w0 id G h w s h' v w'→o.upon E.P a next Q ((execOp a.eval o).run E.P w):=fun h1 h2=>by
  rw [h1,Oper.upon_value];exact hn _ _ h2
 have same:∀ {v:Value},h'=h→SRep G w s v→After B0 w0 id G h w s h' v w:=fun h1 h2=>by subst h1;exact ⟨G,hs,Nx.refl _ _ _ _ _,h2⟩
 have calls:∀ {g:FuncId} {vs:Array Value},(execOp a.eval o).run E.P w=.ok (.enter g vs) w→(Calls E.P g vs w fun e w'=>∃ v,e=.returned v∧After B0 w0 id G h w s h' v w')→o.upon E.P a next Q ((execOp a.eval o).run E.P w):=fun h1 h2=>by
  rw [h1,Oper.upon_enter]
  refine h2.mono fun e w' ⟨v,he,haf⟩=>?_
  subst he
  exact hn _ _ haf
 have load:∀ {get:Nat→Option B} {t:TypeId} {p:Operand},(∀ b x,get b=some x→h.get b=some x)→o.op=.load t p→loadS E.P get t (ev fr p)=some s→h'=h→o.upon E.P a next Q ((execOp a.eval o).run E.P w):=fun hg' ho hl e=>by
  obtain ⟨u,hu,hsu⟩:=loadS_run (P:=E.P) hs hg' (hf.ev _) hl
  obtain ⟨dst,op,type,pos,after,guard⟩:=o
  simp only at ho
  subst ho
  exact val (by simp only [execOp,Sem.run_bind,hu,Result.andThen_ok,Sem.run_pure]) (same e hsu)
 have look:∀ {get:Nat→Option B} {t:TypeId} {p k:Operand} {ok:Bool},(∀ b x,get b=some x→h.get b=some x)→o.op=.lookup t p k ok→lookS E.P E.K get t (ev fr p) (ev fr k) ok=some s→h'=h→o.upon E.P a next Q ((execOp a.eval o).run E.P w):=fun hg' ho hl e=>by
  obtain ⟨u,hu,hsu⟩:=lookS_run hE.k hs hg' (hf.ev _) (hf.ev _) hl
  obtain ⟨dst,op,type,pos,after,guard⟩:=o
  simp only at ho
  subst ho
  exact val (by simp only [execOp,Sem.run_bind,hu,Result.andThen_ok,Sem.run_pure]) (same e hsu)
 have write:writeOp E h id fr o.op=some (s,h')→o.upon E.P a next Q ((execOp a.eval o).run E.P w):=by
  intro hw
  cases hop:o.op with
  | store t p x=>
   rw [hop] at hw
   simp only [writeOp] at hw
   obtain ⟨h2,hst2,e⟩:=Option.map_eq_some_iff.1 hw
   simp only [Prod.mk.injEq] at e
   obtain ⟨rfl,rfl⟩:=e
   obtain ⟨w',G',hr,q1,q2⟩:=storeS_run (P:=E.P) hs (hf.ev p) (hf.ev x) hst2 id
   have hrun:(execOp a.eval o).run E.P w=.ok .skip w':=by
    obtain ⟨dst,op,type,pos,after,guard⟩:=o
    simp only at hop
    subst hop
    simp only [execOp,Sem.run_bind,hr,Result.andThen_ok,Sem.run_pure]
   rw [hrun,Oper.upon_skip]
   exact hn _ _ ⟨G',q1,q2,.ud⟩
  | mapUpdate t m k x=>
   rw [hop] at hw
   simp only [writeOp] at hw
   obtain ⟨h2,hst2,e⟩:=Option.map_eq_some_iff.1 hw
   simp only [Prod.mk.injEq] at e
   obtain ⟨rfl,rfl⟩:=e
   obtain ⟨w',G',hr,q1,q2⟩:=updS_run hE.k hs (hf.ev m) (hf.ev k) (hf.ev x) hst2 id
   have hrun:(execOp a.eval o).run E.P w=.ok .skip w':=by
    obtain ⟨dst,op,type,pos,after,guard⟩:=o
    simp only at hop
    subst hop
    simp only [execOp,Sem.run_bind,hr,Result.andThen_ok,Sem.run_pure]
   rw [hrun,Oper.upon_skip]
   exact hn _ _ ⟨G',q1,q2,.ud⟩
  | call c=>
   obtain ⟨callee,args,argTypes⟩:=c
   rw [hop] at hw
   cases callee with
   | invoke r m=>cases hw
   | builtin b=>
    cases b<;>first | (cases hw;done) | skip
    simp only [writeOp] at hw
    split at hw
    ·rename_i x y t u hxy htu
     split at hw
     ·rename_i e e' ht hu
      have hl:=map_rep hf args.toList
      rw [hxy] at hl
      obtain ⟨vx,r1,e1,hvx,hr1⟩:=hl.uncons
      obtain ⟨vy,r2,e2,hvy,hr2⟩:=hr1.uncons
      obtain rfl:r2=[]:=List.length_eq_zero_iff.1 hr2.1.symm
      subst e2
      have hargs:args.map a.eval=#[vx,vy]:=Array.ext' (by simpa using e1)
      have hats:argTypes=#[t,u]:=Array.ext' htu
      obtain ⟨v,w',hr,haf⟩:=appendS_run (P:=E.P) hs hlt hid hh ht hu (ty:=o.type) hvx hvy hw
      refine val (v:=v) (w':=w') ?_ haf
      obtain ⟨dst,op,type,pos,after,guard⟩:=o
      simp only at hop hr
      subst hop
      subst hats
      simp only [execOp,resolve,Sem.run_bind,Sem.run_pure,Result.andThen_ok,invoke,builtin,hargs,hr]
     ·cases hw
    ·cases hw
   | value f=>
    simp only [writeOp] at hw
    split at hw
    ·rename_i g az hcal
     cases hfo:E.fnOk g with
     | false=>rw [hfo] at hw;cases hw
     | true=>
      rw [hfo,Bool.not_true,cond_false] at hw
      obtain ⟨first,cap,hres,hla⟩:=calleeS_spec (P:=E.P) (c:=⟨.value f,args,argTypes⟩) rfl hf rfl hcal o.type
      have hrun:=call_run hE hop hfo hres
      refine calls hrun ?_
      cases hi:E.inl g with
      | true=>
       rw [hi,cond_true] at hw
       refine (hE.i g az h s h' hw B0 w0 G w _ hV hs hla).mono fun e w' ⟨v,G',he,q1,q2,q3⟩=>⟨v,he,G',q1,q2.at id,q3⟩
      | false=>
       rw [hi,cond_false] at hw
       split at hw
       ·rename_i r l hq
        simp only [Option.some.injEq,Prod.mk.injEq] at hw
        obtain ⟨rfl,rfl⟩:=hw
        exact quietCall_run hE hV hs (fun _ _ h=>h) hla hq (by obtain ⟨_,_,_,_,q⟩:=hE.fn g hfo;exact q) id
       ·cases hw
    ·cases hw
  | _=>rw [hop] at hw;cases hw
 have read:∀ {get:Nat→Option B},(∀ b x,get b=some x→h.get b=some x)→isCallO o.op=false→readOp E get fr o.op=some s→h'=h→o.upon E.P a next Q ((execOp a.eval o).run E.P w):=fun {get} hg hnc hp e=>by
  subst e
  cases hop:o.op with
  | load t p=>
   rw [hop] at hp
   exact load hg hop hp rfl
  | lookup t p k ok=>
   rw [hop] at hp
   exact look hg hop hp rfl
  | convert src dst x=>
   rw [hop] at hp
   obtain ⟨v,w',hr,haf⟩:=convR_run hop hs hf hg hp id
   exact val hr haf
  | range t x=>
   obtain ⟨v,w',hr,haf⟩:=iter_run hs hf (.inl ⟨t,x,hop⟩) hp id
   exact val hr haf
  | next x z=>
   obtain ⟨v,w',hr,haf⟩:=iter_run hs hf (.inr ⟨x,z,hop⟩) hp id
   exact val hr haf
  | call c=>rw [hop] at hnc;cases hnc
  | _=>rw [hop] at hp;cases hp
 unfold stepOp at hst
 split at hst
 ·obtain ⟨s',hp,e⟩:=Option.map_eq_some_iff.1 hst
  simp only [Prod.mk.injEq] at e
  obtain ⟨rfl,rfl⟩:=e
  obtain ⟨v,hv,hsv⟩:=pureOp_run hE.k hf hp
  exact val hv (same rfl hsv)
 ·rename_i hcls
  cases dr with
  | true=>
   rw [cond_true] at hst
   obtain ⟨s',hp,e⟩:=Option.map_eq_some_iff.1 hst
   simp only [Prod.mk.injEq] at e
   obtain ⟨rfl,rfl⟩:=e
   cases hnc:isCallO o.op with
   | false=>exact read hg hnc hp rfl
   | true=>
   cases hop:o.op with
   | call c=>
    obtain ⟨callee,args,argTypes⟩:=c
    rw [hop] at hp
    cases callee with
    | invoke r m=>cases hp
    | builtin b=>cases hp
    | value f=>
     simp only [readOp] at hp
     split at hp
     ·rename_i g az hcal
      cases hfo:!E.fnOk g || E.inl g with
      | true=>rw [hfo] at hp;cases hp
      | false=>
       rw [hfo,cond_false] at hp
       simp only [Bool.or_eq_false_iff,Bool.not_eq_false'] at hfo
       split at hp
       ·rename_i r hq
        obtain rfl:=Option.some.inj hp
        obtain ⟨first,cap,hres,hla⟩:=calleeS_spec (P:=E.P) (c:=⟨.value f,args,argTypes⟩) rfl hf rfl hcal o.type
        refine calls (call_run hE hop hfo.1 hres) ?_
        exact quietCall_run hE hV hs hg hla hq (by obtain ⟨_,_,_,_,q⟩:=hE.fn _ hfo.1;exact q) id
       ·cases hp
     ·cases hp
   | _=>rw [hop] at hnc;cases hnc
  | false=>
   rw [cond_false] at hst
   cases hnc:isCallO o.op with
   | true=>rw [hnc,cond_true] at hst;exact write hst
   | false=>
    rw [hnc,cond_false] at hst
    obtain ⟨s',hp,e⟩:=Option.map_eq_some_iff.1 hst
    simp only [Prod.mk.injEq] at e
    obtain ⟨rfl,rfl⟩:=e
    exact read (fun _ _ h=>h) hnc hp rfl
 ·obtain ⟨⟨s',x⟩,hp,e⟩:=Option.map_eq_some_iff.1 hst
  simp only [Prod.mk.injEq] at e
  obtain ⟨rfl,rfl⟩:=e
  obtain ⟨v,w',hr,haf⟩:=newOp_run (P:=E.P) hs hf hlt hid hh hp
  exact val hr haf
 ·exact write hst
end
end Go.Proofs.YtonkoellfaopiaaGreatDoor.H
