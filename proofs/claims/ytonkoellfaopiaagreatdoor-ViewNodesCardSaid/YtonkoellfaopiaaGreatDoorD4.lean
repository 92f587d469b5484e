import Derived.Test.YtonkoellfaopiaaGreatDoorD3
import Derived.RangeFuncSeq
import Derived.Laws.IdiomStrings
import Derived.WideShapes
import Derived.Maps.RangeRun
set_option linter.unusedSimpArgs false
set_option linter.unusedVariables false
set_option linter.unusedSectionVars false
namespace Go.Proofs.YtonkoellfaopiaaGreatDoor.H
open Go Go.RowKit
section
variable [dq] {P:Program} {G:Gh} {w w0:World} {nt B0:Nat} {fr:Fr} {a:Act} {h:Heap}
def l8 (G:Gh) (h:Heap) (l:List Nat) (r:Nat):Prop:=G.bB r∨∃ b,b∈l∧h.get b≠none∧G.own b=some r
theorem qQ {l:List Nat} {r:Nat} (hi:(G.dJ h l).bB r):l8 G h l r:=by
 rcases hi with hi | ⟨b,hb,x,hx,_,ho⟩
 ·exact .inl hi
 ·exact .inr ⟨b,hb,by rw [hx];simp,ho⟩
theorem eJ {l l':List Nat} (hl:∀ b,b∈l→b∈l') {r:Nat} (hi:l8 G h l r):l8 G h l' r:=by
 rcases hi with hi | ⟨b,hb,hx,ho⟩
 ·exact .inl hi
 ·exact .inr ⟨b,hl b hb,hx,ho⟩
theorem jb.sub {G2:Gh} {arr:Array MapEntry} {es es':List (S × S)} (h:jb G w arr es) (hl:es'.length=es.length) (hk:∀ (i:Nat) (e e':S × S) (k v:Value),es[i]?=some e→es'[i]?=some e'→aY G w e.1 k→aY G w e.2 v→aY G2 w e'.1 k∧aY G2 w e'.2 v):jb G2 w arr es':=
 ⟨hl.trans h.1,fun i e' m h1 h2=>by
  have hlt:i < es.length:=by rw [← hl];exact (List.getElem?_eq_some_iff.1 h1).1
  have he:es[i]?=some es[i]:=List.getElem?_eq_getElem hlt
  obtain ⟨q1,q2⟩:=h.2 i _ m he h2
  exact hk i _ e' m.key m.val he h1 q1 q2⟩
mutual
theorem e_ (hs:cR B0 w0 G h w) {get:Nat→Option B} (hg:∀ b x,get b=some x→h.get b=some x):∀ (d:Nat) (s:S) (v:Value) (s':S) (l:List Nat),cd get d s=some (s',l)→aY G w s v→∀ G2:Gh,(∀ r,l8 G h l r→G2.bB r)→aY G2 w s' v
 | 0,s,v,s',l,hc,_,_,_=>by simp [cd] at hc
 | d+1,s,v,s',l,hc,hr,G2,hi=>by
  have hi0:∀ r,G.bB r→G2.bB r:=fun r h=>hi r (.inl h)
  have hk:∀ r,G.bB r→w.heap[r]?=w.heap[r]?:=fun _ _=>rfl
  cases s with
  | sl b n=>
   simp only [cd] at hc
   split at hc
   ·rename_i x l' hx
    simp only [Option.some.injEq,Prod.mk.injEq] at hc
    obtain ⟨rfl,rfl⟩:=hc
    exact .t ((Kq hs hg (d+1) (.sl b n) v x l' hx hr).mono (fun r hr=>hi r (qQ hr)) (fun _ _=>rfl)).kp
   ·cases hc
  | agg cs=>
   simp only [cd] at hc
   split at hc
   ·rename_i cs' l' hx
    simp only [Option.some.injEq,Prod.mk.injEq] at hc
    obtain ⟨rfl,rfl⟩:=hc
    obtain ⟨vs,rfl,hl⟩:=fQ hr
    exact (gv hs hg d cs vs.toList cs' l' hx hl G2 hi).L8
   ·cases hc
  | bJ cs=>
   simp only [cd] at hc
   split at hc
   ·rename_i cs' l' hx
    simp only [Option.some.injEq,Prod.mk.injEq] at hc
    obtain ⟨rfl,rfl⟩:=hc
    obtain ⟨vs,rfl,hl,hv⟩:=qk hr
    have:=gv hs hg d cs vs.toList cs' l' hx ⟨by simpa using hl,fun i s v h1 h2=>hv i s v h1 (by simpa using h2)⟩ G2 hi
    exact .bJ (by simpa using this.1) (fun i s v h1 h2=>this.2 i s v h1 (by simpa using h2))
   ·cases hc
  | fn f x y=>
   simp only [cd] at hc
   split at hc
   ·rename_i x' l1 hx
    split at hc
    ·rename_i y' l2 hy
     simp only [Option.some.injEq,Prod.mk.injEq] at hc
     obtain ⟨rfl,rfl⟩:=hc
     cases hr with | fn ha h1 hc2 h2=>
     rename_i va vc
     have r1:=gv hs hg d x va.toList x' l1 hx ⟨by simpa using ha,fun i s v q1 q2=>h1 i s v q1 (by simpa using q2)⟩ G2 (fun r hr=>hi r (eJ (fun b hb=>by simp [hb]) hr))
     have r2:=gv hs hg d y vc.toList y' l2 hy ⟨by simpa using hc2,fun i s v q1 q2=>h2 i s v q1 (by simpa using q2)⟩ G2 (fun r hr=>hi r (eJ (fun b hb=>by simp [hb]) hr))
     exact .fn (by simpa using r1.1) (fun i s v q1 q2=>r1.2 i s v q1 (by simpa using q2)) (by simpa using r2.1) (fun i s v q1 q2=>r2.2 i s v q1 (by simpa using q2))
    ·cases hc
   ·cases hc
  | ptr b o=>
   simp only [cd] at hc
   split at hc
   ·rename_i cs hb
    split at hc
    ·rename_i ts l' hts
     simp only [Option.some.injEq,Prod.mk.injEq] at hc
     obtain ⟨rfl,rfl⟩:=hc
     cases hr with | ptr hmu=>
     have hrep:=hs.rep b _ (hg _ _ hb)
     cases hrep with | box hmu' hown hbl hf hle hc2 hi2 hB=>
     rw [hmu] at hmu'
     simp only [Option.some.injEq,Value.pointer.injEq,Addr.mk.injEq,and_true] at hmu'
     subst hmu'
     rename_i r c ty fz
     have htl:=mO hs hg d (cs.drop o) (c.toList.drop o) ts l' hts ((dZ hle hc2).drop o)
     refine .pt (hi _ (.inr ⟨b,by simp,by rw [hg _ _ hb];simp,hown⟩)) (fun k t hk'=>?_)
     have hlt:=(List.getElem?_eq_some_iff.1 hk').1
     rw [htl.1,List.length_drop,Array.length_toList] at hlt
     have hv:(c.toList.drop o)[k]?=some c[o+k]:=by
      rw [List.getElem?_drop,Array.getElem?_toList];simp
     exact ⟨c[o+k],by rw [eB hbl];simp,(htl.2 k t _ hk' hv).mono (fun r hr=>hi r (eJ (fun b hb=>by simp [hb]) (qQ hr))) (fun _ _=>rfl)⟩
    ·cases hc
   ·cases hc
  | ep b z i o=>
   simp only [cd] at hc
   split at hc
   ·rename_i f sz n g hb
    split at hc
    ·rename_i hin
     cases e:z.beq sz with
     | false=>rw [e] at hc;cases hc
     | true=>
      rw [e] at hc
      obtain rfl:=Nat.eq_of_beq_eq_true e
      simp only [cond_true,Option.some.injEq,Prod.mk.injEq] at hc
      obtain ⟨rfl,rfl⟩:=hc
      cases hr with | ep hmu=>
      have hrep:=hs.rep b _ (hg _ _ hb)
      cases hrep with
      | none=>omega
      | row hmu' hown hbl hf hcap hle hc2 hlen hi2 hB=>
       rw [hmu] at hmu'
       simp only [Option.some.injEq,Value.slice.injEq,Addr.mk.injEq,and_true] at hmu'
       obtain ⟨rfl,-,-⟩:=hmu'
       refine .pt (hi _ (.inr ⟨b,by simp,by rw [hg _ _ hb];simp,hown⟩)) (fun k t hk'=>?_)
       rw [List.getElem?_drop] at hk'
       obtain ⟨v,hv,ht⟩:=hc2 ⟨i,hin⟩ (o+k) t hk'
       exact ⟨v,by rw [eB hbl,Nat.add_assoc];exact hv,ht.mono hi0 (fun _ _=>rfl)⟩
    ·cases hc
   ·cases hc
  | mp b=>
   simp only [cd] at hc
   split at hc
   ·rename_i f es hb
    split at hc
    ·rename_i es' l' hes
     simp only [Option.some.injEq,Prod.mk.injEq] at hc
     obtain ⟨rfl,rfl⟩:=hc
     cases hr with | mp hmu=>
     have hrep:=hs.rep b _ (hg _ _ hb)
     cases hrep with | mp hmu' hown hbl hc2 hi2 hB hw=>
     rw [hmu] at hmu'
     simp only [Option.some.injEq,Value.map.injEq] at hmu'
     subst hmu'
     obtain ⟨q1,q2⟩:=od hs hg d es es' l' hes G2 (fun r hr=>hi r (eJ (fun b hb=>by simp [hb]) hr))
     have he:=hc2.sub q1 q2
     exact .mt (hi _ (.inr ⟨b,by simp,by rw [hg _ _ hb];simp,hown⟩)) hbl he.1 (fun i e m h1 h2=>(he.2 i e m h1 h2).1) (fun i e m h1 h2=>(he.2 i e m h1 h2).2) hw
    ·cases hc
   ·cases hc
  | it=>
   simp only [cd,Option.some.injEq,Prod.mk.injEq] at hc
   obtain ⟨rfl,rfl⟩:=hc
   cases hr with | it h1 h2=>exact .it (hi0 _ h1) (h2.imp (fun e=>e) fun ⟨m,c,q1,q2,q3⟩=>⟨m,c,hi0 _ q1,q2,q3⟩)
  | mt es=>
   simp only [cd] at hc
   split at hc
   ·rename_i es' l' hes
    simp only [Option.some.injEq,Prod.mk.injEq] at hc
    obtain ⟨rfl,rfl⟩:=hc
    cases hr with | mt h1 h2 h3 h4 h5 h6=>
    obtain ⟨q1,q2⟩:=od hs hg d es es' l' hes G2 hi
    have hin:jb G w _ es:=⟨h3,fun i e m a b=>⟨h4 i e m a b,h5 i e m a b⟩⟩
    have he:=hin.sub q1 q2
    exact .mt (hi0 _ h1) h2 he.1 (fun i e m h1 h2=>(he.2 i e m h1 h2).1) (fun i e m h1 h2=>(he.2 i e m h1 h2).2) h6
   ·cases hc
  | un=>
   simp only [cd,Option.some.injEq,Prod.mk.injEq] at hc
   obtain ⟨rfl,rfl⟩:=hc
   exact .un v
  | t x=>
   simp only [cd,Option.some.injEq,Prod.mk.injEq] at hc
   obtain ⟨rfl,rfl⟩:=hc
   cases hr with | t hr=>exact .t (hr.mono hi0 hk)
  | full sz n g=>
   simp only [cd,Option.some.injEq,Prod.mk.injEq] at hc
   obtain ⟨rfl,rfl⟩:=hc
   cases hr with | full hr=>exact .full (hr.mono hi0 hk)
  | top sz n g=>
   simp only [cd,Option.some.injEq,Prod.mk.injEq] at hc
   obtain ⟨rfl,rfl⟩:=hc
   cases hr with | top hr=>exact .top (hr.mono hi0 hk)
  | pt cs=>
   simp only [cd,Option.some.injEq,Prod.mk.injEq] at hc
   obtain ⟨rfl,rfl⟩:=hc
   cases hr with | pt h1 h2=>exact .pt (hi0 _ h1) (h2.mono hi0 hk h1)
  | nn=>
   simp only [cd,Option.some.injEq,Prod.mk.injEq] at hc
   obtain ⟨rfl,rfl⟩:=hc
   cases hr with | nn t v=>exact .nn t v
  | ud=>
   simp only [cd,Option.some.injEq,Prod.mk.injEq] at hc
   obtain ⟨rfl,rfl⟩:=hc
   cases hr with | ud=>exact .ud
theorem gv (hs:cR B0 w0 G h w) {get:Nat→Option B} (hg:∀ b x,get b=some x→h.get b=some x):∀ (d:Nat) (cs:List S) (vs:List Value) (cs':List S) (l:List Nat),gg get d cs=some (cs',l)→bD G w cs vs→∀ G2:Gh,(∀ r,l8 G h l r→G2.bB r)→bD G2 w cs' vs
 | 0,cs,vs,cs',l,hc,_,_,_=>by simp [gg] at hc
 | d+1,[],vs,cs',l,hc,hr,G2,_=>by
  simp only [gg,Option.some.injEq,Prod.mk.injEq] at hc
  obtain ⟨rfl,rfl⟩:=hc
  obtain rfl:vs=[]:=List.length_eq_zero_iff.1 hr.1.symm
  exact .nil
 | d+1,c::cs,vs,cs',l,hc,hr,G2,hi=>by
  obtain ⟨v,r,rfl,hv,hrest⟩:=hr.dK
  simp only [gg] at hc
  split at hc
  ·rename_i x l1 h1
   split at hc
   ·rename_i xs l2 h2
    simp only [Option.some.injEq,Prod.mk.injEq] at hc
    obtain ⟨rfl,rfl⟩:=hc
    exact .cons (e_ hs hg d c v x l1 h1 hv G2 (fun r hr=>hi r (eJ (fun b hb=>by simp [hb]) hr))) (gv hs hg d cs r xs l2 h2 hrest G2 (fun r hr=>hi r (eJ (fun b hb=>by simp [hb]) hr)))
   ·cases hc
  ·cases hc
theorem od (hs:cR B0 w0 G h w) {get:Nat→Option B} (hg:∀ b x,get b=some x→h.get b=some x):∀ (d:Nat) (es es':List (S × S)) (l:List Nat),ig get d es=some (es',l)→∀ G2:Gh,(∀ r,l8 G h l r→G2.bB r)→
  es'.length=es.length∧∀ (i:Nat) (e e':S × S) (k v:Value),es[i]?=some e→es'[i]?=some e'→aY G w e.1 k→aY G w e.2 v→aY G2 w e'.1 k∧aY G2 w e'.2 v
 | 0,es,es',l,hc,_,_=>by simp [ig] at hc
 | d+1,[],es',l,hc,G2,_=>by
  simp only [ig,Option.some.injEq,Prod.mk.injEq] at hc
  obtain ⟨rfl,rfl⟩:=hc
  exact ⟨rfl,fun i e e' k v h=>by simp at h⟩
 | d+1,e::es,es',l,hc,G2,hi=>by
  simp only [ig] at hc
  split at hc
  ·rename_i k l1 h1
   split at hc
   ·rename_i v l2 h2
    split at hc
    ·rename_i r l3 h3
     simp only [Option.some.injEq,Prod.mk.injEq] at hc
     obtain ⟨rfl,rfl⟩:=hc
     obtain ⟨q1,q2⟩:=od hs hg d es r l3 h3 G2 (fun r hr=>hi r (eJ (fun b hb=>by simp [hb]) hr))
     refine ⟨by simp [q1],fun i e0 e' kv vv a1 a2 r1 r2=>?_⟩
     cases i with
     | zero=>
      simp only [List.getElem?_cons_zero,Option.some.injEq] at a1 a2
      subst a1;subst a2
      exact ⟨e_ hs hg d e.1 kv k l1 h1 r1 G2 (fun r hr=>hi r (eJ (fun b hb=>by simp [hb]) hr)),e_ hs hg d e.2 vv v l2 h2 r2 G2 (fun r hr=>hi r (eJ (fun b hb=>by simp [hb]) hr))⟩
     | succ i=>exact q2 i e0 e' kv vv (by simpa using a1) (by simpa using a2) r1 r2
    ·cases hc
   ·cases hc
  ·cases hc
end
mutual
theorem np {G2:Gh} {w2:World}:∀ (d:Nat) (s:S) (v:Value),eS d s=true→aY G w s v→aY G2 w2 s v
 | 0,s,v,hf,_=>by simp [eS] at hf
 | d+1,s,v,hf,hr=>by
  cases hr with
  | un v=>exact .un v
  | nn t v=>exact .nn t v
  | ud=>exact .ud
  | t hr=>cases hr with
   | v _ ho=>exact .t (.v _ ho)
   | rows=>simp [eS] at hf
   | fr=>simp [eS] at hf
  | agg hl hv=>
   rename_i cs vs
   simp only [eS] at hf
   exact (qU (G2:=G2) (w2:=w2) d cs vs.toList hf ⟨by simpa using hl,fun i s v h1 h2=>hv i s v h1 (by simpa using h2)⟩).L8
  | bJ hl hv=>
   rename_i cs vs
   simp only [eS] at hf
   have:=qU (G2:=G2) (w2:=w2) d cs vs.toList hf ⟨by simpa using hl,fun i s v h1 h2=>hv i s v h1 (by simpa using h2)⟩
   exact .bJ hl (fun i s v h1 h2=>this.2 i s v h1 (by simpa using h2))
  | full=>simp [eS] at hf
  | top=>simp [eS] at hf
  | pt=>simp [eS] at hf
  | ptr=>simp [eS] at hf
  | sl=>simp [eS] at hf
  | ep=>simp [eS] at hf
  | fn=>simp [eS] at hf
  | mp=>simp [eS] at hf
  | mt=>simp [eS] at hf
  | it=>simp [eS] at hf
theorem qU {G2:Gh} {w2:World}:∀ (d:Nat) (cs:List S) (vs:List Value),wy d cs=true→bD G w cs vs→bD G2 w2 cs vs
 | 0,cs,vs,hf,_=>by simp [wy] at hf
 | d+1,[],vs,hf,hr=>by
  obtain rfl:vs=[]:=List.length_eq_zero_iff.1 hr.1.symm
  exact .nil
 | d+1,c::cs,vs,hf,hr=>by
  obtain ⟨v,r,rfl,hv,hrest⟩:=hr.dK
  simp only [wy,Bool.and_eq_true] at hf
  exact .cons (np d c v hf.1 hv) (qU d cs r hf.2 hrest)
end
def Gh.bare (I:Nat→Prop):Gh:=⟨fun _=>none,fun _=>none,I⟩
def vH (I:Nat→Prop) (w:World) (r:S) (e:Ending) (w':World):Prop:=
 ∃ v I',e=.returned v∧Below w.heap.size w w'∧(∀ q,I q→I' q)∧(∀ q,I' q→q < w'.heap.size)∧(∀ q,I' q→q < w.heap.size→I q)∧iW I' w'∧aY (Gh.bare I') w' r v
def UH (V:World→Prop) (P:Program) (aE:FuncId→List S→Option S):Prop:=
 ∀ f args r,aE f args=some r→f < 2000000→∀ (I:Nat→Prop) (w:World) (vs:Array Value),(∀ q,I q→q < w.heap.size)→iW I w→V w→bD (Gh.bare I) w args vs.toList→Calls P f vs w (vH I w r)
def aew (B0:Nat) (w0:World) (G:Gh) (h:Heap) (w:World) (r:S) (h':Heap) (e:Ending) (w':World):Prop:=
 ∃ v G',e=.returned v∧cR B0 w0 G' h' w'∧Nx B0 h.next G h w G' h' w'∧aY G' w' r v
def UD (V:World→Prop) (P:Program) (eR:FuncId→List S→Heap→Option (S × Heap)):Prop:=
 ∀ f args h r h',eR f args h=some (r,h')→∀ (B0:Nat) (w0:World) (G:Gh) (w:World) (vs:Array Value),(∀ w',Below B0 w0 w'→V w')→cR B0 w0 G h w→bD G w args vs.toList→Calls P f vs w (aew B0 w0 G h w r h')
def agv (P:Program) (ok:FuncId→Bool):Prop:=∀ f,ok f=true→∃ fn,P.funcs[f]?=some fn∧(fn.name == "runtime.NumGoroutine")=false∧fn.body.isNone=false∧f < 2000000
def QR (P:Program) (sp:jE):Prop:=
 ∀ (I:Nat→Prop) (l r1 r2:Nat) (W:World) (n:Nat) (g:Fin n→List T) (o:Nat) (ft:TypeId) (vr:Value) (J:Nat→World→Prop),
  n < 4611686018427387904→gQ P sp.ts sp.fi=some (o,ft)→W.cell? ⟨r1,o,none⟩=some vr→
  (∀ j W1,J j W1→dH W1 I (.rows (P.cellsOf sp.te) n g) vr∧∃ s,W1.cell? ⟨r2,0,none⟩=some (.string s)∧∀ h:j < n,∃ q,FG P sp (g ⟨j,h⟩)=some q∧(ah q s=false→J (j+1) W1)∧
   (ah q s=true→∀ W2,Below W1.heap.size W1 W2→∀ vs:Array Value,bD (Gh.bare I) W2 ((g ⟨j,h⟩).map .t) vs.toList→YieldAt Fence.wide 0 P l #[.agg vs] W2 fun e W'=>e=.returned (.bool true)∧J (j+1) W'))→
  (∀ j W1 W2,J j W1→Below W1.heap.size W1 W2→J j W2)→J 0 W→
  CallsIn Fence.wide 0 P sp.g #[.func (.yield l) #[] #[],.pointer (some ⟨r1,0,none⟩),.pointer (some ⟨r2,0,none⟩)] W fun e W'=>(∃ v,e=.returned v)∧J n W'
structure kg (V:World→Prop) (E:Env):Prop where
 k:M8 E.P E.K
 fn:agv E.P E.fnOk
 t:UH V E.P E.aE
 i:UD V E.P E.eR
 rf:∀ f r sp,oJ E.live f r=some sp→QR E.P sp∧∀ vs w,(callFunc sp.g vs).run E.P w=.ok (.enter sp.g vs) w
theorem cR.later (hs:cR B0 w0 G h w) {w':World} (hb:Below w.heap.size w w') (id:Nat):cR B0 w0 G h w'∧Nx B0 id G h w G h w':=by
 have hk:∀ r,G.bB r→w'.heap[r]?=w.heap[r]?:=fun r hr=>hb.block r (hs.bB r hr)
 refine ⟨⟨hs.below.trans (hb.mono hs.b0),fun r hr=>Nat.lt_of_lt_of_le (hs.bB r hr) hb.size,fun b x hx=>?_,hs.inj,hs.lo,Nat.le_trans hs.b0 hb.size,hs.gP.mono hk,hs.bs⟩,⟨fun _ h=>h,hk,fun _ _ _=>rfl,fun _ _ _ h=>h,Nat.le_refl _,fun _ h=>.inl h,db.below hb⟩⟩
 exact (hs.rep b x hx).mono (fun _ h=>h) (fun _ _ h=>h) hk (fun _ _ h=>h) rfl (fun q hq=>hb.block q ((hs.rep b x hx).lt hq))
theorem cR.more (hs:cR B0 w0 G h w) {I':Nat→Prop} (h1:∀ r,G.bB r→I' r) (h2:∀ r,I' r→r < w.heap.size) (h3:∀ b r,h.get b≠none→G.own b=some r→I' r→G.bB r) (h4:∀ r,I' r→G.bB r∨B0≤r) (h5:iW I' w) (id:Nat):cR B0 w0 ⟨G.mu,G.own,I'⟩ h w∧Nx B0 id G h w ⟨G.mu,G.own,I'⟩ h w:=by
 refine ⟨⟨hs.below,h2,fun b x hx=>?_,hs.inj,hs.lo,hs.b0,h5,hs.bs⟩,⟨h1,fun _ _=>rfl,fun _ _ _=>rfl,fun _ _ _ h=>h,Nat.le_refl _,h4,db.refl w⟩⟩
 exact (hs.rep b x hx).mono h1 (fun r ho hi=>h3 b r (by rw [hx];simp) ho hi) (fun _ _=>rfl) (fun _ _ h=>h) rfl (fun _ _=>rfl)
theorem Nx.at {G':Gh} {h':Heap} {w':World} (n:Nx B0 h.next G h w G' h' w') (id:Nat):Nx B0 id G h w G' h' w':=
 ⟨n.bB,n.bO,fun b _ hb=>n.mu b (by omega) hb,fun b _ hb hn=>n.r_ b (by omega) hb hn,n.next,n.old,n.ld⟩
theorem nN {V:World→Prop} {E:Env} (hE:kg V E) (hV:∀ w',Below B0 w0 w'→V w') (hs:cR B0 w0 G h w) {get:Nat→Option B} (hg:∀ b x,get b=some x→h.get b=some x) {f:FuncId} {args:List S} {vs:Array Value} (ha:bD G w args vs.toList) {r:S} {l:List Nat} (hq:dh E get f args=some (r,l)) (hlt:f < 2000000) (id:Nat):
  Calls E.P f vs w fun e w'=>∃ v,e=.returned v∧im B0 w0 id G h w r (h.freeze l) v w':=by
 unfold dh at hq
 split at hq
 ·rename_i args' l' hc
  split at hq
  ·rename_i r' hr
   have hlb:∀ q,l8 G h l' q→q < w.heap.size:=fun q hq=>by
    rcases hq with hq | ⟨b,_,hb,ho⟩
    ·exact hs.bB q hq
    ·cases hx:h.get b with
     | none=>exact absurd hx hb
     | some x=>exact (hs.rep b x hx).lt ho
   have hargs:=gv hs hg bZ args vs.toList args' l' hc ha (Gh.bare (l8 G h l')) (fun _ h=>h)
   have hnl:iW (l8 G h l') w:=fun r o hr ho=>by
    rcases hr with hr | ⟨b,_,hb,hown⟩
    ·exact hs.gP r o hr ho
    ·cases hx:h.get b with
     | none=>exact absurd hx hb
     | some x=>exact (hs.rep b x hx).wa hown ho
   refine (hE.t f args' r' hr hlt (l8 G h l') w vs hlb hnl (hV w hs.below) hargs).mono fun e w' ⟨v,I',he,hbe,i1,i2,i3,i4,hsr⟩=>⟨v,he,?_⟩
   cases hfl:eS bZ r' with
   | true=>
    rw [hfl,cond_true] at hq
    simp only [Option.some.injEq,Prod.mk.injEq] at hq
    obtain ⟨rfl,rfl⟩:=hq
    obtain ⟨s1,s2⟩:=hs.later hbe id
    exact ⟨G,s1,s2,np bZ r' v hfl hsr⟩
   | false=>
    rw [hfl,cond_false] at hq
    cases hrows:l'.all (rowAt get) with
    | false=>rw [hrows] at hq;cases hq
    | true=>
     rw [hrows,cond_true] at hq
     have lf:∀ q,l8 G h l' q→(G.dJ h l').bB q:=fun q hq=>by
      rcases hq with hq | ⟨b,hb,hb2,ho⟩
      ·exact .inl hq
      ·have:=List.all_eq_true.1 hrows b hb
       unfold rowAt at this
       cases hx:get b with
       | none=>rw [hx] at this;cases this
       | some x=>rw [hx] at this;exact .inr ⟨b,hb,x,hg _ _ hx,this,ho⟩
     cases hmf:ib r' && l'.all (tD get) with
     | true=>
      rw [hmf,cond_true] at hq
      obtain ⟨hmf,hnm⟩:=Bool.and_eq_true_iff.1 hmf
      simp only [Option.some.injEq,Prod.mk.injEq] at hq
      obtain ⟨rfl,rfl⟩:=hq
      obtain ⟨s1,s2⟩:=hs.later hbe id
      obtain ⟨t1,t2⟩:=s1.more (I':=fun q=>G.bB q∨(I' q∧w.heap.size≤q)) (fun _ h=>.inl h) (fun q hq=>hq.elim (s1.bB q) (fun hq=>i2 q hq.1)) (fun b q hb ho hi=>hi.elim (fun h=>h) (fun hi=>by
       cases hx:h.get b with
       | none=>exact absurd hx hb
       | some x=>exact absurd ((hs.rep b x hx).lt ho) (by omega))) (fun q hq=>hq.elim .inl (fun hq=>.inr (by have:=hs.b0;omega))) (fun q o hq ho=>hq.elim (fun hq=>s1.gP q o hq ho) (fun hq=>i4 q o hq.1 ho)) id
      refine ⟨_,t1,s2.trans t2,?_⟩
      unfold ib at hmf
      split at hmf
      ·rename_i es
       cases hsr with | mt hi hb hl hk hv hw=>
       rename_i q arr clock
       refine .mt ?_ hb hl (fun i e m h1 h2=>np bZ _ _ (Bool.and_eq_true_iff.1 (List.all_eq_true.1 hmf e (List.mem_of_getElem? h1))).1 (hk i e m h1 h2)) (fun i e m h1 h2=>np bZ _ _ (Bool.and_eq_true_iff.1 (List.all_eq_true.1 hmf e (List.mem_of_getElem? h1))).2 (hv i e m h1 h2)) hw
       by_cases hlt:q < w.heap.size
       ·rcases i3 q hi hlt with hq | ⟨b,hb1,hb2,ho⟩
        ·exact .inl hq
        ·exfalso
         have hr1:=List.all_eq_true.1 hrows b hb1
         have hr2:=List.all_eq_true.1 hnm b hb1
         unfold rowAt at hr1
         unfold tD at hr2
         cases hx0:get b with
         | none=>rw [hx0] at hr1;cases hr1
         | some x=>
         rw [hx0] at hr1 hr2
         have hx:=hg _ _ hx0
         rw [hbe.block q hlt] at hb
         cases hs.rep b x hx with
         | box=>cases hr1
         | mp=>cases hr2
         | fO _ ho' hb'=>rw [ho] at ho';obtain rfl:=Option.some.inj ho';rw [hb] at hb';cases hb'
         | row _ ho' hb'=>rw [ho] at ho';obtain rfl:=Option.some.inj ho';rw [hb] at hb';cases hb'
         | none _ ho'=>rw [ho] at ho';cases ho'
       ·exact .inr ⟨hi,by omega⟩
      ·cases hmf
     | false=>
     rw [hmf,cond_false] at hq
     simp only [Option.some.injEq,Prod.mk.injEq] at hq
     obtain ⟨rfl,rfl⟩:=hq
     obtain ⟨f1,f2⟩:=hs.freeze l' id
     obtain ⟨s1,s2⟩:=f1.later hbe id
     have i1':∀ q,(G.dJ h l').bB q→I' q:=fun q hq=>i1 q (qQ hq)
     have i3':∀ q,I' q→q < w.heap.size→(G.dJ h l').bB q:=fun q hq hlt=>lf q (i3 q hq hlt)
     obtain ⟨t1,t2⟩:=s1.more i1' i2 (fun b q hb ho hi=>i3' q hi (by
      cases hx:(h.freeze l').get b with
      | none=>exact absurd hx hb
      | some x=>exact (f1.rep b x hx).lt ho)) (fun q hq=>by
       by_cases hlt:q < w.heap.size
       ·exact .inl (i3' q hq hlt)
       ·have:=f1.b0;exact .inr (by omega)) i4 id
     refine ⟨_,t1,f2.trans (s2.trans t2),aY.mono (G:=Gh.bare I') (G':=⟨(G.dJ h l').mu,(G.dJ h l').own,I'⟩) (w:=w') (fun _ h=>h) (fun _ _=>rfl) (fun _ _ h=>by cases h) hsr⟩
  ·cases hq
 ·cases hq
theorem xr {α:Type}:∀ (n:Nat) (g:Fin n→α) (i:Fin n),(kf n g)[i.1]?=some (g i)
 | 0,g,i=>absurd i.2 (Nat.not_lt_zero _)
 | n+1,g,⟨0,_⟩=>rfl
 | n+1,g,⟨i+1,hi⟩=>by
  unfold kf
  rw [List.getElem?_cons_succ]
  exact xr n (fun i=>g i.succ) ⟨i,by omega⟩
theorem w8 {α:Type}:∀ (n:Nat) (g:Fin n→α),(kf n g).length=n
 | 0,_=>rfl
 | n+1,g=>by simp [kf,w8 n]
theorem rG:∀ {l:List (List T)} {ks:List Int},zm l=some ks→ks.length=l.length∧∀ (i:Nat) (k:Int),ks[i]?=some k→l[i]?=some [T.v (.int .u8 k)]
 | [],ks,h=>by
  obtain rfl:=Option.some.inj h
  exact ⟨rfl,fun i k h=>by simp at h⟩
 | c::r,ks,h=>by
  unfold zm at h
  split at h
  ·cases ‹_::_=[]›
  ·rename_i k r' e
   cases e
   obtain ⟨ks',h1,rfl⟩:=Option.map_eq_some_iff.1 h
   obtain ⟨q1,q2⟩:=rG h1
   refine ⟨by simp [q1],fun i k' hk=>?_⟩
   cases i with
   | zero=>simp at hk;subst hk;rfl
   | succ i=>simpa using q2 i k' (by simpa using hk)
  ·cases h
theorem foldl_push:∀ (ks:List Int) (r:ByteArray),ks.foldl (fun r n=>r.push (UInt8.ofNat n.toNat)) r=⟨r.data++(ks.map fun k=>UInt8.ofNat k.toNat).toArray⟩
 | [],r=>by simp
 | k::ks,r=>by
  simp only [List.foldl_cons,List.map_cons]
  rw [foldl_push ks]
  simp [ByteArray.push]
theorem Mu {o:Oper} {src dst:TypeId} {x:Operand} (ho:o.op=.convert src dst x) (hs:cR B0 w0 G h w) (hf:cV nt G w fr a) {get:Nat→Option B} (hg:∀ b x,get b=some x→h.get b=some x) {s:S} (hc:xB P get src dst (ev fr x)=some s) (id:Nat):
  ∃ v w',(execOp a.eval o).run P w=.ok (.value v) w'∧im B0 w0 id G h w s h v w':=by
 have wrap:∀ {v:Value} {w':World},(convert src dst (a.eval x)).run P w=.ok v w'→(execOp a.eval o).run P w=.ok (.value v) w':=fun hv=>by
  obtain ⟨d,op,type,pos,after,guard⟩:=o
  simp only at ho
  subst ho
  simp only [execOp,Sem.run_bind,hv,Result.andThen_ok,Sem.run_pure]
 unfold xB at hc
 split at hc
 ·rename_i s' h1
  obtain rfl:=Option.some.inj hc
  obtain ⟨r,hr,hsr⟩:=LU (P:=P) (hf.ev x) h1
  exact ⟨r,w,wrap hr,G,hs,Nx.refl _ _ _ _ _,hsr⟩
 ·split at hc
  ·rename_i e ha hb
   split at hc
   ·rename_i str he hx
    cases e0:str.size.ble gw with
    | false=>rw [e0] at hc;cases hc
    | true=>
     rw [e0,cond_true] at hc
     obtain rfl:=Option.some.inj hc
     have hv:=hf.ev x
     rw [hx] at hv
     obtain ⟨hv,_⟩:=a_ hv
     have hrun:=run_bytes_of_string (P:=P) w src dst e str ha hb he
     rw [← hv] at hrun
     refine ⟨_,_,wrap hrun,?_⟩
     have hbe:Below w.heap.size w (w.drew.alloc (.cells (bytesRow str (grownCap w str.size 0 e)) e ((bytesRow str (grownCap w str.size 0 e)).size,(bytesRow str (grownCap w str.size 0 e)).size+1))):=((Below.refl _ _).drew).alloc (Nat.le_refl _) _
     obtain ⟨s1,s2⟩:=hs.later hbe id
     obtain ⟨t1,t2⟩:=s1.more (I':=fun q=>G.bB q∨q=w.heap.size) (fun _ h=>.inl h) (fun q hq=>by
      rcases hq with hq | rfl
      ·exact s1.bB q hq
      ·simp) (fun b q hb ho hq=>by
      rcases hq with hq | rfl
      ·exact hq
      ·cases hx:h.get b with
       | none=>exact absurd hx hb
       | some y=>have:=(hs.rep b y hx).lt ho;omega) (fun q hq=>by
      rcases hq with hq | rfl
      ·exact .inl hq
      ·exact .inr hs.b0) (fun q o hq ho=>by
      rcases hq with hq | rfl
      ·exact s1.gP q o hq ho
      ·have hn:=jw w.drew (.cells (bytesRow str (grownCap w str.size 0 e)) e ((bytesRow str (grownCap w str.size 0 e)).size,(bytesRow str (grownCap w str.size 0 e)).size+1))
       have hn':(w.drew.alloc (.cells (bytesRow str (grownCap w str.size 0 e)) e ((bytesRow str (grownCap w str.size 0 e)).size,(bytesRow str (grownCap w str.size 0 e)).size+1))).heap[w.heap.size]?=some o:=ho
       rw [show w.drew.heap.size=w.heap.size from rfl] at hn
       rw [hn] at hn'
       obtain rfl:=Option.some.inj hn'
       rfl) id
     refine ⟨_,t1,s2.trans t2,.t (.rows 1 str.size _ _ _ (fun i _=>.int .u8 (str[i.1]'i.2).toNat) (grownCap_ge w _ _ _) (fun i=>rfl) (fun hn=>⟨w.heap.size,0,rfl,.inr rfl,fun i k c hk=>?_⟩) (fun i k c hk=>?_))⟩
     ·have hk0:k=0:=by
       have:=(List.getElem?_eq_some_iff.1 hk).1
       simp at this;exact this
      subst hk0
      have hnew:(w.drew.alloc (.cells (bytesRow str (grownCap w str.size 0 e)) e ((bytesRow str (grownCap w str.size 0 e)).size,(bytesRow str (grownCap w str.size 0 e)).size+1))).heap[w.heap.size]?=some (.cells (bytesRow str (grownCap w str.size 0 e)) e ((bytesRow str (grownCap w str.size 0 e)).size,(bytesRow str (grownCap w str.size 0 e)).size+1)):=by
       show (w.heap.push _)[w.heap.size]?=_
       simp
      rw [eB hnew]
      have hsz:i.1 < str.data.size:=i.2
      simp only [bytesRow,Nat.zero_add,Nat.mul_one,Nat.add_zero]
      rw [Array.getElem?_append_left (by simp),Array.getElem?_map,Array.getElem?_eq_getElem hsz]
      rfl
     ·have hk0:k=0:=by
       have:=(List.getElem?_eq_some_iff.1 hk).1
       simp at this;exact this
      subst hk0
      simp only [List.getElem?_cons_zero,Option.some.injEq] at hk
      subst hk
      exact .v _ rfl
   ·cases hc
  ·rename_i e ha hb
   split at hc
   ·rename_i n g l he hsrc
    obtain ⟨ks,hks,rfl⟩:=Option.map_eq_some_iff.1 hc
    obtain ⟨cap,base,vl,hv,hel,hfc,hbs⟩:=pK (P:=P) hs hg (by decide) (hf.ev x) hsrc
    obtain ⟨q1,q2⟩:=rG hks
    rw [w8] at q1
    have hvl:vl=ks.map (Value.int .u8):=by
     apply List.ext_getElem?
     intro i
     by_cases hi:i < n
     ·have hk:ks[i]?=some ks[i]:=by simp [q1,hi]
      have:=q2 i _ hk
      have h3:=xr n g ⟨i,hi⟩
      simp only at h3
      rw [h3] at this
      have hgi:g ⟨i,hi⟩=[.v (.int .u8 ks[i])]:=Option.some.inj this
      obtain ⟨v,hv1,hv2⟩:=hel.2.2.2 ⟨i,hi⟩ 0 _ (by rw [hgi];rfl)
      cases hv2
      simp only [Nat.mul_one,Nat.add_zero] at hv1
      rw [hv1,List.getElem?_map,hk];rfl
     ·have h4:=hel.1
      rw [List.getElem?_eq_none (by omega),List.getElem?_eq_none (by simp;omega)]
    refine ⟨_,w,wrap (v:=.string (ofBytes ks)) ?_,G,hs,Nx.refl _ _ _ _ _,ct rfl⟩
    rw [hv,run_convert_bytes_string w src dst e base n cap ha he hb]
    cases base with
    | none=>
     have hn:n=0:=by
      by_cases hn:n=0
      ·exact hn
      ·obtain ⟨_,_,e⟩:=hbs hn;cases e
     have:ks=[]:=List.length_eq_zero_iff.1 (by omega)
     subst this
     rfl
    | some p=>
     have:=hfc w rfl
     rw [hv,hvl] at this
     simp only [Builtin.firstCells,Nat.mul_one] at this
     rw [run_bytesToString w p n cap ks this,foldl_push]
     simp only [ofBytes]
     congr 2
     simp
   ·cases hc
  ·cases hc
theorem qH {K:TypeId→Option (List Nat)} (hK:M8 P K) {t:TypeId} {x y:S} {u v:Value} {p:Bool} (hx:aY G w x u) (hy:aY G w y v) (h:oS P K t x y=some p):
  (Op.equal t u v).run P w=.ok p w∧(∀ d,P.underlying t=some d→(∃ fs,d=.struct fs)∨Instr.sameNow d u v=some p)∧(p=true→∀ n,Instr.sameBits (n+1) v u=true):=by
 have sc:∀ {k:Nat} {ks:List Nat} {d:TypeDesc},P.underlying t=some d→ks=[k]→b_ P t=false→EM P 10000 t ks→iv k x y=some p→(Op.equal t u v).run P w=.ok p w:=by
  intro k ks d hd hks ha hok hc
  subst hks
  have:=hok G w [x] [y] [u] [v] p (.cons hx .nil) (.cons hy .nil) (by simp [cE,hc])
  have this2:(Op.equalIn 10000 t u v).run P w=.ok p w:=by simpa [Eb,ha] using this
  exact this2
 unfold oS at h
 split at h
 ·rename_i hu
  refine ⟨sc hu rfl (by simp [b_,hu]) (wJ (D:=9999) hu) h,fun d hd=>.inr ?_,fun hp n=>?_⟩
  all_goals
   unfold iv at h
   split at h<;>first | (cases h;done) | skip
   all_goals (try omega)
   obtain ⟨rfl,_⟩:=a_ hx
   obtain ⟨rfl,_⟩:=a_ hy
   obtain rfl:=Option.some.inj h
  ·rw [hu] at hd;cases hd;rfl
  ·simp only [beq_iff_eq] at hp
   subst hp;simp [Instr.sameBits]
 ·rename_i k0 hu
  refine ⟨sc hu rfl (by simp [b_,hu]) (B1 (D:=9999) hu) h,fun d hd=>.inr ?_,fun hp n=>?_⟩
  all_goals
   unfold iv at h
   split at h<;>first | (cases h;done) | skip
   all_goals (try omega)
   rename_i k m k' m' _
   obtain ⟨rfl,_⟩:=a_ hx
   obtain ⟨rfl,_⟩:=a_ hy
   by_cases e:k=k'
   ·subst e
    simp only [decide_true,cond_true,Option.some.injEq] at h
    subst h
    first
     | (rw [hu] at hd;cases hd;simp only [Instr.sameNow,if_true];rfl)
     | (simp only [decide_eq_true_eq] at hp;subst hp;simp [Instr.sameBits])
   ·simp [e] at h
 ·rename_i hu
  refine ⟨sc hu rfl (by simp [b_,hu]) (re (D:=9999) hu) h,fun d hd=>.inr ?_,fun hp n=>?_⟩
  all_goals
   unfold iv at h
   split at h<;>first | (cases h;done) | skip
   all_goals (try omega)
   obtain ⟨rfl,_⟩:=a_ hx
   obtain ⟨rfl,_⟩:=a_ hy
   obtain rfl:=Option.some.inj h
  ·rw [hu] at hd;cases hd
   simp only [Instr.sameNow,ah,eU]
   rw [beq_toListBytes,Lib.toList_data,Lib.toList_data]
  ·simp only [ah,eU,beq_iff_eq] at hp
   have e2:=Go.WideShapes.bytes_inj hp
   subst e2;simp only [Instr.sameBits];rw [beq_toListBytes];simp
 ·rename_i fs hu
  split at h
  ·rename_i xs ys ks hks
   obtain ⟨hk,h1,h2⟩:=hK t ks hks
   obtain ⟨vx,rfl,hvx⟩:=fQ hx
   obtain ⟨vy,rfl,hvy⟩:=fQ hy
   have:=o_ 20 t ks hk Op.maxDepth (by decide) G w xs ys _ _ p hvx hvy h
   rw [jx h1,jx h1] at this
   refine ⟨this,fun d hd=>.inl ⟨fs,by rw [hu] at hd;exact (Option.some.inj hd).symm⟩,fun hp n=>?_⟩
   subst hp
   have key:∀ (ks:List Nat) (xs ys:List S) (vx vy:List Value),bD G w xs vx→bD G w ys vy→cE ks xs ys=some true→vy.length=vx.length∧∀ n,((vy.zip vx).all fun (a,b)=>Instr.sameBits n a b)=true:=by
    intro ks
    induction ks with
    | nil=>
     intro xs ys vx vy a1 a2 a3
     obtain ⟨l1,l2⟩:=eV a3
     have e1:=List.length_eq_zero_iff.1 l1
     have e2:=List.length_eq_zero_iff.1 l2
     subst e1;subst e2
     obtain rfl:vx=[]:=List.length_eq_zero_iff.1 a1.1.symm
     obtain rfl:vy=[]:=List.length_eq_zero_iff.1 a2.1.symm
     exact ⟨rfl,fun _=>rfl⟩
    | cons k ks ih=>
     intro xs ys vx vy a1 a2 a3
     obtain ⟨l1,l2⟩:=eV a3
     cases xs with
     | nil=>simp at l1
     | cons x xs=>
      cases ys with
      | nil=>simp at l2
      | cons y ys=>
       obtain ⟨u,r,rfl,hu,hr⟩:=a1.dK
       obtain ⟨v,r',rfl,hv,hr'⟩:=a2.dK
       simp only [cE,Option.bind_eq_some_iff,Option.map_eq_some_iff] at a3
       obtain ⟨p,hp,q,hq,e⟩:=a3
       rw [Bool.and_eq_true] at e
       obtain ⟨rfl,rfl⟩:=e
       obtain ⟨i1,i2⟩:=ih xs ys r r' hr hr' hq
       refine ⟨by simp [i1],fun n=>?_⟩
       simp only [List.zip_cons_cons,List.all_cons,i2 n,Bool.and_true]
       unfold iv at hp
       split at hp<;>first | (cases hp;done) | skip
       ·obtain ⟨rfl,_⟩:=a_ hu
        obtain ⟨rfl,_⟩:=a_ hv
        simp only [Option.some.injEq,beq_iff_eq] at hp
        subst hp;simp [Instr.sameBits]
       ·rename_i k1 m k2 m'
        obtain ⟨rfl,_⟩:=a_ hu
        obtain ⟨rfl,_⟩:=a_ hv
        by_cases e:k1=k2
        ·subst e
         simp only [decide_true,cond_true,Option.some.injEq,decide_eq_true_eq] at hp
         subst hp;simp [Instr.sameBits]
        ·simp [e] at hp
       ·obtain ⟨rfl,_⟩:=a_ hu
        obtain ⟨rfl,_⟩:=a_ hv
        simp only [Option.some.injEq,ah,eU,beq_iff_eq] at hp
        have e2:=Go.WideShapes.bytes_inj hp
        subst e2;simp only [Instr.sameBits];rw [beq_toListBytes];simp
   obtain ⟨q1,q2⟩:=key ks xs ys _ _ hvx hvy h
   simp only [Instr.sameBits,q2 n,Bool.and_true,beq_iff_eq]
   simpa using q1
  ·cases h
 ·cases h
def Found (G:Gh) (w:World) (P:Program) (K:TypeId→Option (List Nat)) (t:TypeId) (k:S) (es:List (S × S)) (i:Nat):Option (Nat × S)→Option (Nat × Value)→Prop
 | none,none=>True
 | some (j,s),some (j',v)=>j=j'∧i≤j∧aY G w s v∧∃ e,es[j - i]?=some e∧oS P K t k e.1=some true
 | _,_=>False
theorem Found.cons {K:TypeId→Option (List Nat)} {t:TypeId} {k:S} {e:S × S} {es:List (S × S)} {i:Nat} {r:Option (Nat × S)} {r':Option (Nat × Value)} (h:Found G w P K t k es (i+1) r r'):Found G w P K t k (e::es) i r r':=by
 cases r<;>cases r'<;>first | exact h | skip
 obtain ⟨h1,h2,h3,e2,h4,h5⟩:=h
 refine ⟨h1,by omega,h3,e2,?_,h5⟩
 rename_i p q
 rw [show p.1 - i=(p.1 - (i+1))+1 by omega]
 simpa using h4
theorem rL {K:TypeId→Option (List Nat)} (hK:M8 P K) {t:TypeId} {d:TypeDesc} (hd:P.underlying t=some d) (hns:∀ fs,d≠.struct fs) {k:S} {u:Value} (hk:aY G w k u):∀ (es:List (S × S)) (l:List MapEntry) (i:Nat) (r:Option (Nat × S)),es.length=l.length→
  (∀ (i:Nat) (e:S × S) (m:MapEntry),es[i]?=some e→l[i]?=some m→aY G w e.1 m.key∧aY G w e.2 m.val)→eT P K t k es i=some r→∃ r',Instr.findNow d u l i=some r'∧Found G w P K t k es i r r'
 | [],l,i,r,hl,_,h=>by
  obtain rfl:l=[]:=List.length_eq_zero_iff.1 hl.symm
  obtain rfl:=Option.some.inj h
  exact ⟨none,rfl,trivial⟩
 | e::es,l,i,r,hl,he,h=>by
  cases l with
  | nil=>simp at hl
  | cons m l=>
   obtain ⟨h1,h2⟩:=he 0 e m rfl rfl
   unfold eT at h
   obtain ⟨p,hp,h⟩:=Option.bind_eq_some_iff.1 h
   obtain ⟨_,q2,_⟩:=qH hK hk h1 hp
   have hsn:=(q2 d hd).resolve_left (fun ⟨fs,e⟩=>hns fs e)
   cases p with
   | true=>
    simp only [cond_true,Option.some.injEq] at h
    subst h
    exact ⟨some (i,m.val),by simp [Instr.findNow,hsn],rfl,Nat.le_refl _,h2,e,by simp,hp⟩
   | false=>
    simp only [cond_false] at h
    obtain ⟨r',a1,a2⟩:=rL hK hd hns hk es l (i+1) r (by simpa using hl) (fun j e' m' b1 b2=>he (j+1) e' m' (by simpa using b1) (by simpa using b2)) h
    exact ⟨r',by simp only [Instr.findNow,hsn];exact a1,a2.cons⟩
theorem mU {K:TypeId→Option (List Nat)} (hK:M8 P K) {t:TypeId} {k:S} {u:Value} (hk:aY G w k u):∀ (es:List (S × S)) (l:List MapEntry) (i:Nat) (r:Option (Nat × S)),es.length=l.length→
  (∀ (i:Nat) (e:S × S) (m:MapEntry),es[i]?=some e→l[i]?=some m→aY G w e.1 m.key∧aY G w e.2 m.val)→eT P K t k es i=some r→∃ r',(Instr.findAsking t u l i).run P w=.ok r' w∧Found G w P K t k es i r r'
 | [],l,i,r,hl,_,h=>by
  obtain rfl:l=[]:=List.length_eq_zero_iff.1 hl.symm
  obtain rfl:=Option.some.inj h
  exact ⟨none,rfl,trivial⟩
 | e::es,l,i,r,hl,he,h=>by
  cases l with
  | nil=>simp at hl
  | cons m l=>
   obtain ⟨h1,h2⟩:=he 0 e m rfl rfl
   unfold eT at h
   obtain ⟨p,hp,h⟩:=Option.bind_eq_some_iff.1 h
   obtain ⟨q1,_,_⟩:=qH hK hk h1 hp
   cases p with
   | true=>
    simp only [cond_true,Option.some.injEq] at h
    subst h
    exact ⟨some (i,m.val),by simp only [Instr.findAsking,Sem.run_bind,q1,Result.andThen_ok,if_true,Sem.run_pure],rfl,Nat.le_refl _,h2,e,by simp,hp⟩
   | false=>
    simp only [cond_false] at h
    obtain ⟨r',a1,a2⟩:=mU hK hk es l (i+1) r (by simpa using hl) (fun j e' m' b1 b2=>he (j+1) e' m' (by simpa using b1) (by simpa using b2)) h
    exact ⟨r',by simp only [Instr.findAsking,Sem.run_bind,q1,Result.andThen_ok,Bool.false_eq_true,if_false];exact a1,a2.cons⟩
theorem rj {K:TypeId→Option (List Nat)} (hK:M8 P K) {t:TypeId} {k:S} {u:Value} (hk:aY G w k u) (hfit:fV P K t k=true) {es:List (S × S)} {arr:Array MapEntry} (he:jb G w arr es) {r:Option (Nat × S)} (h:eT P K t k es 0=some r):
  ∃ r',(Instr.findKey t u arr.toList).run P w=.ok r' w∧Found G w P K t k es 0 r r':=by
 obtain ⟨d,hd⟩:∃ d,P.underlying t=some d:=by
  unfold fV at hfit
  cases hu:P.underlying t with
  | some d=>exact ⟨d,rfl⟩
  | none=>rw [hu] at hfit;cases hfit
 have hl:es.length=arr.toList.length:=by simpa using he.1
 have hent:∀ (i:Nat) (e:S × S) (m:MapEntry),es[i]?=some e→arr.toList[i]?=some m→aY G w e.1 m.key∧aY G w e.2 m.val:=fun i e m a b=>he.2 i e m a (by simpa using b)
 unfold Instr.findKey
 simp only [Sem.run_bind,run_underlying hd,Result.andThen_ok]
 by_cases hs:∃ fs,d=.struct fs
 ·obtain ⟨fs,rfl⟩:=hs
  obtain ⟨r',a1,a2⟩:=mU hK hk es arr.toList 0 r hl hent h
  refine ⟨r',?_,a2⟩
  cases hal:arr.toList with
  | nil=>
   rw [hal] at a1
   simp only [Instr.findAsking,Sem.run_pure,Result.ok.injEq,and_true] at a1
   subst a1
   rfl
  | cons m l=>
   rw [hal] at a1
   have:Instr.findNow (.struct fs) u (m::l) 0=none:=by simp [Instr.findNow,Instr.sameNow]
   rw [this]
   exact a1
 ·obtain ⟨r',a1,a2⟩:=rL hK hd (fun fs e=>hs ⟨fs,e⟩) hk es arr.toList 0 r hl hent h
  exact ⟨r',by rw [a1];rfl,a2⟩
theorem fl {b:Bool} {n:Nat} {t:TypeId} {d:TypeDesc} {v:Value} (hd:P.underlying t=some d) (h:(∀ ms,d≠.interface ms)∧(∀ m e,d≠.array m e)∧(∀ fs,d≠.struct fs)):(Instr.checkKey b (n+1) t v).run P w=.ok () w:=by
 simp only [Instr.checkKey,Sem.run_bind,run_underlying hd,Result.andThen_ok]
 cases d<;>first
  | rfl
  | (exact absurd rfl (h.1 _))
  | (exact absurd rfl (h.2.1 _ _))
  | (exact absurd rfl (h.2.2 _))
theorem nX {β:Type} (w:World) (g:β→PUnit→Sem (ForInStep PUnit)):∀ (l:List β),(∀ x∈l,(g x ⟨⟩).run P w=.ok (.yield ⟨⟩) w)→(forIn l PUnit.unit g:Sem PUnit).run P w=.ok PUnit.unit w
 | [],_=>rfl
 | x::l,h=>by
  rw [List.forIn_cons]
  simp only [Sem.run_bind,h x (by simp),Result.andThen_ok]
  exact nX w g l (fun y hy=>h y (by simp [hy]))
theorem lg {rec:TypeId→Option (List Nat)}:∀ {fs:List Field} {o:Nat} {ks:List Nat},fI P rec fs o=some ks→∀ f∈fs,∃ k1,rec f.type=some k1∧k1.length=P.cellsOf f.type∧o≤f.offset∧f.offset+P.cellsOf f.type≤o+ks.length
 | [],o,ks,_,f,hf=>by cases hf
 | g::fs,o,ks,h,f,hf=>by
  unfold fI at h
  cases e:g.name != "_" && g.offset.beq o with
  | false=>rw [e] at h;cases h
  | true=>
   rw [e,cond_true] at h
   rw [Bool.and_eq_true] at e
   have ho:g.offset=o:=Nat.eq_of_beq_eq_true e.2
   obtain ⟨k1,h1,h⟩:=Option.bind_eq_some_iff.1 h
   cases e2:k1.length.beq (P.cellsOf g.type) with
   | false=>rw [e2] at h;cases h
   | true=>
    rw [e2,cond_true] at h
    have hl:=Nat.eq_of_beq_eq_true e2
    obtain ⟨k2,h2,rfl⟩:=Option.map_eq_some_iff.1 h
    rcases List.mem_cons.1 hf with rfl | hf
    ·exact ⟨k1,h1,hl,by omega,by simp;omega⟩
    ·obtain ⟨k3,q1,q2,q3,q4⟩:=lg h2 f hf
     exact ⟨k3,q1,q2,by omega,by simp;omega⟩
theorem rb:∀ (d:Nat) (t:TypeId) (ks:List Nat),ey P d t=some ks→∀ (n:Nat),d≤n→∀ (b:Bool) (w:World) (vs:List Value),vs.length=ks.length→(Instr.checkKey b n t (Eb P t vs)).run P w=.ok () w
 | 0,_,_,h,_,_,_,_,_,_=>(lq h).elim
 | d+1,t,ks,h,n,hn,b,w,vs,hl=>by
  obtain ⟨n,rfl⟩:∃ m,n=m+1:=⟨n - 1,by omega⟩
  have ih:=fun t ks h=>rb d t ks h n (by omega)
  obtain ⟨dd,hd⟩:=fJ h
  have h':=h
  simp only [ey,hd] at h
  cases dd<;>simp only at h<;>first | (cases h;done) | skip
  case bool=>exact fl hd ⟨fun _=>by simp,fun _ _=>by simp,fun _=>by simp⟩
  case int k=>exact fl hd ⟨fun _=>by simp,fun _ _=>by simp,fun _=>by simp⟩
  case string=>exact fl hd ⟨fun _=>by simp,fun _ _=>by simp,fun _=>by simp⟩
  case array m e=>
   obtain ⟨k1,hk1,h⟩:=Option.bind_eq_some_iff.1 h
   cases e1:k1.length.beq (P.cellsOf e) && (P.info? e).isSome<;>rw [e1] at h
   ·cases h
   ·obtain rfl:=Option.some.inj h
    rw [Bool.and_eq_true] at e1
    have hke:=Nat.eq_of_beq_eq_true e1.1
    obtain ⟨i,hi⟩:=Option.isSome_iff_exists.1 e1.2
    obtain ⟨d2,hd2⟩:=fJ hk1
    have ha:b_ P t=true:=by simp [b_,hd]
    simp only [Eb,ha,if_true,Instr.checkKey,Sem.run_bind,run_underlying hd,Result.andThen_ok]
    simp only [Std.Legacy.Range.forIn_eq_forIn_range',Std.Legacy.Range.size,Nat.sub_zero,Nat.add_one_sub_one,Nat.div_one]
    have hlen:vs.length=m*P.cellsOf e:=by rw [hl];simp [List.length_flatten,List.map_replicate,hke]
    refine congrArg (fun r=>Result.andThen r fun _ w'=>.ok () w') (nX (P:=P) w _ (List.range' 0 m 1) (fun x hx=>?_))
    ·have hx':x < m:=by have:=List.mem_range'.1 hx;omega
     have hle:(x+1)*P.cellsOf e≤vs.length:=by rw [hlen];exact Nat.mul_le_mul_right _ hx'
     rw [Nat.succ_mul] at hle
     have hp:=(gJ (P:=P) (w:=w) hd2 vs (x*P.cellsOf e) (fun ha2=>by have:=kP hk1 ha2;omega)).resolve_right (fun h=>kP hk1 h.1 h.2)
     have hq:=ih e k1 hk1 b w ((vs.drop (x*P.cellsOf e)).take (P.cellsOf e)) (by rw [List.length_take,List.length_drop,hke];omega)
     simp only [Sem.run_bind,run_sizeOf w hi,Result.andThen_ok,hp,hq,Sem.run_pure]
  case struct fs=>
   cases e:P.stoodInHeld t<;>rw [e] at h
   ·simp only [cond_false] at h
    have ha:b_ P t=true:=by simp [b_,hd]
    have hsp:=lg h
    simp only [Eb,ha,if_true,Instr.checkKey,Sem.run_bind,run_underlying hd,Result.andThen_ok]
    rw [← Array.forIn_toList]
    refine congrArg (fun r=>Result.andThen r fun _ w'=>.ok () w') (nX (P:=P) w _ fs.toList (fun f hf=>?_))
    ·skip
     obtain ⟨k1,q1,q2,q3,q4⟩:=hsp f hf
     obtain ⟨d2,hd2⟩:=fJ q1
     have hp:=(gJ (P:=P) (w:=w) hd2 vs f.offset (fun ha2=>by have:=kP q1 ha2;omega)).resolve_right (fun h=>kP q1 h.1 h.2)
     rw [Sem.run_ite]
     split
     ·have hq:=ih f.type k1 q1 b w ((vs.drop f.offset).take (P.cellsOf f.type)) (by rw [List.length_take,List.length_drop,q2];omega)
      simp only [Sem.run_bind,hp,Result.andThen_ok,hq,Sem.run_pure]
     ·rfl
   ·cases h
theorem lG {K:TypeId→Option (List Nat)} (hK:M8 P K) {t:TypeId} {k:S} {u:Value} (hk:aY G w k u) (hfit:fV P K t k=true) (b:Bool):(Instr.checkKey b 10000 t u).run P w=.ok () w:=by
 unfold fV at hfit
 split at hfit
 ·rename_i hu;exact fl hu ⟨fun _=>by simp,fun _ _=>by simp,fun _=>by simp⟩
 ·rename_i hu;exact fl hu ⟨fun _=>by simp,fun _ _=>by simp,fun _=>by simp⟩
 ·rename_i hu;exact fl hu ⟨fun _=>by simp,fun _ _=>by simp,fun _=>by simp⟩
 ·rename_i fs xs hu
  split at hfit
  ·rename_i ks hks
   obtain ⟨q1,q2,_⟩:=hK t ks hks
   obtain ⟨vs,rfl,hl⟩:=fQ hk
   have:=rb 20 t ks q1 10000 (by omega) b w vs.toList (by rw [← hl.1];exact Nat.eq_of_beq_eq_true hfit)
   simpa [Eb,q2] using this
  ·cases hfit
 ·cases hfit
theorem om {r clock:Nat} {arr:Array MapEntry} (hb:w.heap[r]?=some (.map arr clock)):(getObj r).run P w=.ok (.map arr clock) w:=by simp [getObj,Sem.run,hb]
theorem uU {r clock:Nat} {arr:Array MapEntry} (o:Obj) (hb:w.heap[r]?=some (.map arr clock)):(setObj r o).run P w=.ok () { w with heap:=w.heap.setIfInBounds r o }:=by
 simp [setObj,Sem.run,hb]
theorem MU {K:TypeId→Option (List Nat)} (hK:M8 P K) (hs:cR B0 w0 G h w) {get:Nat→Option B} (hg:∀ b x,get b=some x→h.get b=some x) {t:TypeId} {x k s:S} {vx vk:Value} {ok:Bool} (hx:aY G w x vx) (hk:aY G w k vk) (hl:wo P K get t x k ok=some s):
  ∃ v,(Instr.lookup t vx vk ok).run P w=.ok v w∧aY G w s v:=by
 unfold wo at hl
 split at hl
 ·rename_i kt et hu
  cases hfit:fV P K kt k with
  | false=>rw [hfit] at hl;cases hl
  | true=>
   rw [hfit,Bool.not_true,cond_false] at hl
   have rest:∀ {es:List (S × S)} {arr:Array MapEntry},jb G w arr es→((eT P K kt k es 0).bind fun r=>match r with
     | some (_,v)=>some (bif ok then S.bJ [v,sv (.bool true)] else v)
     | none=>(mS P et).map fun z=>bif ok then S.bJ [z,sv (.bool false)] else z)=some s→
     ∃ v,(do
      Instr.checkKey arr.isEmpty 10000 kt vk
      let (v,o) ← match ← Instr.findKey kt vk arr.toList with
       | some (_,v)=>pure (v,true)
       | none=>pure (← zeroValue et,false)
      pure (if ok then .tuple #[v,.bool o] else v):Sem Value).run P w=.ok v w∧aY G w s v:=by
    intro es arr he hf
    obtain ⟨r,hr,hf⟩:=Option.bind_eq_some_iff.1 hf
    obtain ⟨r',h1,h2⟩:=rj hK hk hfit he hr
    have bJ:∀ {z:S} {v:Value} (o:Bool),aY G w z v→aY G w (bif ok then S.bJ [z,sv (.bool o)] else z) (if ok then .tuple #[v,.bool o] else v):=by
     intro z v o hz
     cases ok
     ·simpa using hz
     ·have hl:bD G w [z,sv (.bool o)] [v,.bool o]:=.cons hz (.cons (.t (.v _ rfl)) .nil)
      exact .bJ (by simp) (fun i s v h1 h2=>hl.2 i s v h1 (by simpa using h2))
    simp only [Sem.run_bind,lG hK hk hfit,Result.andThen_ok,h1]
    cases r with
    | some p=>
     cases r' with
     | none=>exact h2.elim
     | some p'=>
      obtain ⟨_,_,h3,_⟩:=h2
      obtain rfl:=Option.some.inj hf
      exact ⟨_,rfl,bJ true h3⟩
    | none=>
     cases r' with
     | some _=>exact h2.elim
     | none=>
      obtain ⟨z,hz,rfl⟩:=Option.map_eq_some_iff.1 hf
      obtain ⟨i,v,hi,hv,rfl⟩:=gD hz
      simp only [Sem.run_bind,eH hi hv,Result.andThen_ok,Sem.run_pure]
      exact ⟨_,rfl,bJ false (oI v)⟩
   split at hl
   ·rename_i es hes
    have fin:∃ arr:Array MapEntry,jb G w arr es∧((vx=.map none∧arr=#[])∨∃ r clock,vx=.map (some r)∧w.heap[r]?=some (.map arr clock)):=by
     split at hes
     ·rename_i b
      split at hes
      ·rename_i es' hb
       obtain rfl:=Option.some.inj hes
       cases hx with | mp hmu=>
       have hrep:=hs.rep b _ (hg _ _ hb)
       cases hrep with | mp hmu' hown hbl hc hi hB=>
       rw [hmu] at hmu'
       simp only [Option.some.injEq,Value.map.injEq] at hmu'
       subst hmu'
       exact ⟨_,hc,.inr ⟨_,_,rfl,hbl⟩⟩
      ·cases hes
     ·obtain rfl:=Option.some.inj hes
      cases hx with | mt h1 h2 h3 h4 h5=>exact ⟨_,⟨h3,fun i e m a b=>⟨h4 i e m a b,h5 i e m a b⟩⟩,.inr ⟨_,_,rfl,h2⟩⟩
     ·obtain rfl:=Option.some.inj hes
      obtain ⟨rfl,_⟩:=a_ hx
      exact ⟨#[],⟨rfl,fun i e m h=>by simp at h⟩,.inl ⟨rfl,rfl⟩⟩
     ·cases hes
    obtain ⟨arr,he,hcase⟩:=fin
    obtain ⟨v,hv,hsv⟩:=rest he hl
    refine ⟨v,?_,hsv⟩
    rw [← hv]
    rcases hcase with ⟨rfl,rfl⟩ | ⟨r,clock,rfl,hbl⟩
    ·simp only [Instr.lookup,Sem.run_bind,run_underlying hu,Result.andThen_ok,Sem.run_pure]
     rfl
    ·simp only [Instr.lookup,Sem.run_bind,run_underlying hu,Result.andThen_ok,om hbl,Sem.run_pure]
     rfl
   ·cases hl
 ·cases hl
theorem CJ:∀ (es:List (S × S)) (i:Nat) (k v:S),(oL es i k v).length=es.length
 | [],_,_,_=>rfl
 | _::_,0,_,_=>rfl
 | _::es,i+1,k,v=>by simp [oL,CJ es i k v]
theorem BO:∀ (es:List (S × S)) (i:Nat) (k v:S) (j:Nat) (e:S × S),(oL es i k v)[j]?=some e→(j=i∧e=(k,v))∨(j≠i∧es[j]?=some e)
 | [],_,_,_,j,e,h=>by simp [oL] at h
 | _::es,0,k,v,0,e,h=>by simp [oL] at h;exact .inl ⟨rfl,h.symm⟩
 | _::es,0,k,v,j+1,e,h=>by simp [oL] at h;exact .inr ⟨by omega,by simpa using h⟩
 | x::es,i+1,k,v,0,e,h=>by simp [oL] at h;exact .inr ⟨by omega,by simpa using h⟩
 | _::es,i+1,k,v,j+1,e,h=>by
  simp only [oL,List.getElem?_cons_succ] at h
  rcases BO es i k v j e h with ⟨h1,h2⟩ | ⟨h1,h2⟩
  ·exact .inl ⟨by omega,h2⟩
  ·exact .inr ⟨by omega,by simpa using h2⟩
theorem LO {arr:Array MapEntry} {es:List (S × S)} (he:jb G w arr es) (i:Nat) {k v:S} {u x:Value} (hk:aY G w k u) (hv:aY G w v x):jb G w (arr.modify i fun e=>{ e with key:=u,val:=x }) (oL es i k v):=by
 refine ⟨by rw [CJ,Array.size_modify];exact he.1,fun j e m h1 h2=>?_⟩
 rw [Array.getElem?_modify] at h2
 rcases BO es i k v j e h1 with ⟨rfl,rfl⟩ | ⟨hne,h1⟩
 ·rw [if_pos rfl] at h2
  obtain ⟨m',_,rfl⟩:=Option.map_eq_some_iff.1 h2
  exact ⟨hk,hv⟩
 ·rw [if_neg (fun e=>hne e.symm)] at h2
  exact he.2 j e m h1 h2
theorem H6 {arr:Array MapEntry} {es:List (S × S)} (he:jb G w arr es) {k v:S} {m:MapEntry} (hk:aY G w k m.key) (hv:aY G w v m.val):jb G w (arr.push m) (es++[(k,v)]):=by
 refine ⟨by simp [he.1],fun j e m' h1 h2=>?_⟩
 rw [Array.getElem?_push] at h2
 by_cases hj:j=arr.size
 ·rw [if_pos hj] at h2
  obtain rfl:=Option.some.inj h2
  rw [hj,← he.1,List.getElem?_append_right (Nat.le_refl _)] at h1
  simp only [Nat.sub_self,List.getElem?_cons_zero,Option.some.injEq] at h1
  subst h1
  exact ⟨hk,hv⟩
 ·rw [if_neg hj] at h2
  have hlt:j < es.length:=by rw [he.1];exact (Array.getElem?_eq_some_iff.1 h2).1
  rw [List.getElem?_append_left hlt] at h1
  exact he.2 j e m' h1 h2
theorem Om {K:TypeId→Option (List Nat)} (hK:M8 P K) (hs:cR B0 w0 G h w) {t:TypeId} {m k v:S} {vm vk vv:Value} {h':Heap} (hm:aY G w m vm) (hk:aY G w k vk) (hv:aY G w v vv) (hst:Cj P K h t m k v=some h') (id:Nat):
  ∃ w' G',(Instr.mapUpdate t vm vk vv).run P w=.ok () w'∧cR B0 w0 G' h' w'∧Nx B0 id G h w G' h' w':=by
 unfold Cj at hst
 split at hst
 ·rename_i kt et b hu
  split at hst
  ·rename_i k' l1 v' l2 hk' hv'
   cases e0:!fV P K kt k' || l1.contains b || l2.contains b || !l1.all (rowAt h.get) || !l2.all (rowAt h.get) with
   | true=>rw [e0] at hst;cases hst
   | false=>
    rw [e0,cond_false] at hst
    simp only [Bool.or_eq_false_iff,Bool.not_eq_false'] at e0
    obtain ⟨⟨⟨⟨e1,e2⟩,e3⟩,e4⟩,e5⟩:=e0
    have nb:∀ {l:List Nat},l.contains b=false→b∉l:=fun h hb=>by
     rw [List.contains_eq_mem] at h;simp [hb] at h
    split at hst
    ·rename_i es hb
     obtain ⟨r,hr,rfl⟩:=Option.map_eq_some_iff.1 hst
     obtain ⟨s1,n1⟩:=hs.freeze l1 id
     obtain ⟨s2,n2⟩:=s1.freeze l2 id
     have rowAll:∀ {l:List Nat},l.all (rowAt h.get)=true→∀ b∈l,∃ x,h.get b=some x∧wR x=true:=fun hall b hb=>by
      have:=List.all_eq_true.1 hall b hb
      unfold rowAt at this
      cases hx:h.get b with
      | none=>rw [hx] at this;cases this
      | some x=>rw [hx] at this;exact ⟨x,rfl,this⟩
     have row1:∀ x:B,wR (jk x)=wR x:=fun x=>by cases x<;>rfl
     have lent1:∀ q,l8 G h l1 q→((G.dJ h l1).dJ (h.freeze l1) l2).bB q:=fun q hq=>by
      rcases hq with hq | ⟨c,hc,_,ho⟩
      ·exact .inl (.inl hq)
      ·obtain ⟨x,hx,hrx⟩:=rowAll e4 c hc
       exact .inl (.inr ⟨c,hc,x,hx,hrx,ho⟩)
     have lent2:∀ q,l8 G h l2 q→((G.dJ h l1).dJ (h.freeze l1) l2).bB q:=fun q hq=>by
      rcases hq with hq | ⟨c,hc,_,ho⟩
      ·exact .inl (.inl hq)
      ·obtain ⟨x,hx,hrx⟩:=rowAll e5 c hc
       refine .inr ⟨c,hc,if c∈l1 then jk x else x,by rw [(cA l1 h c).1,hx];rfl,?_,ho⟩
       split
       ·rw [row1];exact hrx
       ·exact hrx
     have hk2:=e_ hs (fun _ _ h=>h) bZ k vk k' l1 hk' hk _ lent1
     have hv2:=e_ hs (fun _ _ h=>h) bZ v vv v' l2 hv' hv _ lent2
     have hb2:((h.freeze l1).freeze l2).get b=some (.mp false es):=by
      rw [(cA l2 _ b).1,(cA l1 h b).1,hb]
      simp [nb e2,nb e3]
     cases hm with | mp hmu=>
     have hrep:=s2.rep b _ hb2
     cases hrep with | mp hmu' hown hbl hc hi hB hw=>
     have hmu2:((G.dJ h l1).dJ (h.freeze l1) l2).mu b=G.mu b:=rfl
     rw [hmu2,hmu] at hmu'
     simp only [Option.some.injEq,Value.map.injEq] at hmu'
     subst hmu'
     rename_i rr clock arr
     obtain ⟨r',f1,f2⟩:=rj hK hk2 e1 hc hr
     have hni:=hi rfl
     have hlt:rr < w.heap.size:=(Array.getElem?_eq_some_iff.1 hbl).1
     have wr:∀ (arr':Array MapEntry) (clock':Nat) (es':List (S × S)),jb ((G.dJ h l1).dJ (h.freeze l1) l2) w arr' es'→oG arr' clock'→
       cR B0 w0 ((G.dJ h l1).dJ (h.freeze l1) l2) (((h.freeze l1).freeze l2).put b (.mp false es')) { w with heap:=w.heap.setIfInBounds rr (.map arr' clock') }∧
       Nx B0 id ((G.dJ h l1).dJ (h.freeze l1) l2) ((h.freeze l1).freeze l2) w ((G.dJ h l1).dJ (h.freeze l1) l2) (((h.freeze l1).freeze l2).put b (.mp false es')) { w with heap:=w.heap.setIfInBounds rr (.map arr' clock') }:=by
      intro arr' clock' es' hin hw'
      have hkp:∀ q,q≠rr→(w.heap.setIfInBounds rr (.map arr' clock'))[q]?=w.heap[q]?:=fun q hq=>Array.getElem?_setIfInBounds_ne (fun e=>hq e.symm)
      refine s2.write hb2 hown hni hB (w':={ w with heap:=w.heap.setIfInBounds rr (.map arr' clock') }) hkp (by simp) rfl rfl rfl ?_ id
      refine .mp hmu hown (by show (w.heap.setIfInBounds rr _)[rr]?=_;rw [Array.getElem?_setIfInBounds_self_of_lt hlt]) (hin.mono (fun _ h=>h) (fun q hq=>hkp q (fun e=>hni (e ▸ hq))) (fun _ _ h=>h)) (fun _=>hni) hB hw'
     cases r with
     | none=>
      cases r' with
      | some _=>exact f2.elim
      | none=>
       obtain ⟨q1,q2⟩:=wr (arr.push { key:=vk,val:=vv,born:=clock }) (clock+1) (es++[(k',v')]) (H6 hc hk2 hv2) (BR hw _ _)
       refine ⟨_,_,?_,q1,(n1.trans n2).trans q2⟩
       simp only [Instr.mapUpdate,Sem.run_bind,run_underlying hu,Result.andThen_ok,om hbl,lG hK hk2 e1,f1,uU _ hbl]
     | some p=>
      obtain ⟨i,s⟩:=p
      cases r' with
      | none=>exact f2.elim
      | some p'=>
       obtain ⟨i',s'⟩:=p'
       obtain ⟨rfl,_,_,e,he,heq⟩:=f2
       rw [Nat.sub_zero] at he
       have hia:i < arr.size:=by rw [← hc.1];exact (List.getElem?_eq_some_iff.1 he).1
       have hai:arr[i]?=some arr[i]:=by simp [hia]
       obtain ⟨_,_,hsame⟩:=qH hK hk2 (hc.2 i e _ he hai).1 heq
       obtain ⟨q1,q2⟩:=wr (arr.modify i fun e=>{ e with key:=vk,val:=vv }) clock (oL es i k' v') (LO hc i hk2 hv2) (vI hw _ _ _)
       refine ⟨_,_,?_,q1,(n1.trans n2).trans q2⟩
       have hstay:(Instr.keyThatStays (((arr[i]?).map (·.key)).getD vk) vk).run P w=.ok vk w:=by
        rw [hai]
        simp only [Option.map_some,Option.getD_some,Instr.keyThatStays,hsame rfl 9999,if_true,Sem.run_pure]
       simp only [Instr.mapUpdate,Sem.run_bind,run_underlying hu,Result.andThen_ok,om hbl,lG hK hk2 e1,f1,hstay,uU _ hbl]
    ·cases hst
  ·cases hst
 ·cases hst
theorem pO {f:Operand} {az az':List S} {g:FuncId} {c:Call} (hcal:c.callee=.value f) (hf:cV nt G w fr a) (ha:az=c.args.toList.map (ev fr)) (hc:fX fr f az=some (g,az')) (type:TypeId):
  ∃ first cap,(resolve a.eval c type).run P w=.ok { target:=.fn (.func g) cap,args:=first++c.args.map a.eval } w∧bD G w az' ((first++c.args.map a.eval)++cap).toList:=by
 have hx:=hf.ev f
 have hl:=pV hf c.args.toList
 unfold fX at hc
 split at hc
 ·rename_i g' first cap he
  rw [he] at hx
  obtain ⟨hv,_⟩:=a_ hx
  cases e:first.size.beq 0 && cap.size.beq 0 with
  | false=>rw [e] at hc;cases hc
  | true=>
   rw [e,cond_true] at hc
   simp only [Option.some.injEq,Prod.mk.injEq] at hc
   obtain ⟨rfl,rfl⟩:=hc
   rw [Bool.and_eq_true] at e
   have h1:first=#[]:=Array.eq_empty_of_size_eq_zero (Nat.eq_of_beq_eq_true e.1)
   have h2:cap=#[]:=Array.eq_empty_of_size_eq_zero (Nat.eq_of_beq_eq_true e.2)
   subst h1;subst h2
   refine ⟨#[],#[],?_,?_⟩
   ·simp only [resolve,hcal,hv,Deferred.ofValue,Sem.run_pure]
   ·subst ha;simpa using hl
 ·rename_i g' first cap he
  rw [he] at hx
  simp only [Option.some.injEq,Prod.mk.injEq] at hc
  obtain ⟨rfl,rfl⟩:=hc
  generalize hv:a.eval f=vv at hx
  cases hx with | fn ha1 h1 hc1 h2=>
  rename_i va vc
  refine ⟨va,vc,?_,?_⟩
  ·simp only [resolve,hcal,hv,Deferred.ofValue,Sem.run_pure]
  ·have e1:bD G w first va.toList:=⟨by simpa using ha1,fun i s v q1 q2=>h1 i s v q1 (by simpa using q2)⟩
   have e2:bD G w cap vc.toList:=⟨by simpa using hc1,fun i s v q1 q2=>h2 i s v q1 (by simpa using q2)⟩
   subst ha
   have:=(e1.append hl).append e2
   simpa using this
 ·cases hc
theorem AS {V:World→Prop} {E:Env} (hE:kg V E) {g:FuncId} (hg:E.fnOk g=true) (vs:Array Value):(callFunc g vs).run E.P w=.ok (.enter g vs) w:=by
 obtain ⟨fn,h1,h2,h3,_⟩:=hE.fn g hg
 simp only [callFunc,Sem.run_bind,run_program,Result.andThen_ok,h1,h2,h3,Bool.false_eq_true,if_false,Sem.run_pure]
theorem CF {V:World→Prop} {E:Env} (hE:kg V E) {o:Oper} {c:Call} (ho:o.op=.call c) {g:FuncId} (hg:E.fnOk g=true) {first cap:Array Value} (hr:(resolve a.eval c o.type).run E.P w=.ok { target:=.fn (.func g) cap,args:=first++c.args.map a.eval } w):
  (execOp a.eval o).run E.P w=.ok (.enter g ((first++c.args.map a.eval)++cap)) w:=by
 obtain ⟨dst,op,type,pos,after,guard⟩:=o
 simp only at ho hr
 subst ho
 simp only [execOp,Sem.run_bind,hr,Result.andThen_ok,invoke,AS hE hg]
theorem cR.laid (hs:cR B0 w0 G h w) (o:Obj) (ho:CS o=false) (id:Nat):cR B0 w0 ⟨G.mu,G.own,fun q=>G.bB q∨q=w.heap.size⟩ h (w.alloc o)∧Nx B0 id G h w ⟨G.mu,G.own,fun q=>G.bB q∨q=w.heap.size⟩ h (w.alloc o):=by
 have hbe:Below w.heap.size w (w.alloc o):=(Below.refl _ _).alloc (Nat.le_refl _) _
 obtain ⟨s1,s2⟩:=hs.later hbe id
 obtain ⟨t1,t2⟩:=s1.more (I':=fun q=>G.bB q∨q=w.heap.size) (fun _ h=>.inl h) (fun q hq=>by
  rcases hq with hq | rfl
  ·exact s1.bB q hq
  ·show _ < (w.heap.push o).size
   simp) (fun b q hb ho hq=>by
  rcases hq with hq | rfl
  ·exact hq
  ·cases hx:h.get b with
   | none=>exact absurd hx hb
   | some y=>have:=(hs.rep b y hx).lt ho;omega) (fun q hq=>by
  rcases hq with hq | rfl
  ·exact .inl hq
  ·exact .inr hs.b0) (fun q o' hq ho'=>by
  rcases hq with hq | rfl
  ·exact s1.gP q o' hq ho'
  ·rw [jw] at ho'
   obtain rfl:=Option.some.inj ho'
   exact ho) id
 exact ⟨t1,s2.trans t2⟩
theorem Dc {E:Env} {o:Oper} (hs:cR B0 w0 G h w) (hf:cV nt G w fr a) {get:Nat→Option B} {s:S} (hop:(∃ t x,o.op=.range t x)∨∃ x z,o.op=.next x z) (hp:cb E get fr o.op=some s) (id:Nat):
  ∃ v w',(execOp a.eval o).run E.P w=.ok (.value v) w'∧im B0 w0 id G h w s h v w':=by
 obtain ⟨dst,op,type,pos,after,guard⟩:=o
 rcases hop with ⟨t,x,rfl⟩ | ⟨x,z,rfl⟩
 ·simp only [cb] at hp
  split at hp
  ·rename_i k e hu hx
   obtain rfl:=Option.some.inj hp
   have hv:=hf.ev x
   rw [hx] at hv
   generalize hva:a.eval x=va at hv
   cases hv with | mt hi hb hl hk hv hw=>
   rename_i r arr clock
   obtain rfl:arr=#[]:=Array.eq_empty_of_size_eq_zero hl.symm
   obtain ⟨q1,q2⟩:=hs.laid (.mapIter (some r) clock #[] clock) rfl id
   refine ⟨_,_,by simp only [execOp,Sem.run_bind,hva,run_range_map (P:=E.P) w t k e r #[] clock hu hb,Result.andThen_ok,Sem.run_pure],_,q1,q2,.it (.inr rfl) (.inr ⟨r,clock,.inl hi,?_,heap_alloc_new w _⟩)⟩
   rw [heap_alloc_old w _ (hs.bB r hi)];exact hb
  ·rename_i k e hu hx
   obtain rfl:=Option.some.inj hp
   have hv:=hf.ev x
   rw [hx] at hv
   obtain ⟨hv,_⟩:=a_ hv
   obtain ⟨q1,q2⟩:=hs.laid (.mapIter none 0 #[] 0) rfl id
   exact ⟨_,_,by simp only [execOp,Sem.run_bind,hv,run_range_nilMap (P:=E.P) w t k e hu,Result.andThen_ok,Sem.run_pure],_,q1,q2,.it (.inr rfl) (.inl (heap_alloc_new w _))⟩
  ·cases hp
 ·cases z with
  | true=>simp [cb] at hp
  | false=>
  simp only [cb] at hp
  split at hp
  ·rename_i hx
   obtain rfl:=Option.some.inj hp
   have hv:=hf.ev x
   rw [hx] at hv
   generalize hva:a.eval x=va at hv
   cases hv with | it hi hb=>
   rename_i r
   have hrun:∀ ty,(Instr.next (.pointer (some ⟨r,0,none⟩)) false ty).run E.P w=.ok (.tuple #[.bool false]) w:=fun ty=>by
    rcases hb with hb | ⟨m,c,h1,h2,h3⟩
    ·simp only [Instr.next,getObj,Sem.run_bind,Sem.run,hb,Result.andThen]
     rfl
    ·rcases run_next_at (P:=E.P) w ty r m c c #[] #[] c h3 h2 (by simp) (Nat.le_refl _) with ⟨_,h⟩ | ⟨e,he,_⟩
     ·exact h
     ·simp [leftOf] at he
   refine ⟨.tuple #[.bool false],w,by simp only [execOp,Sem.run_bind,hva,hrun,Result.andThen_ok,Sem.run_pure],G,hs,Nx.refl _ _ _ _ _,?_⟩
   exact .bJ rfl (fun i s v h1 h2=>by
    match i with
    | 0=>
     obtain rfl:=Option.some.inj h1
     obtain rfl:Value.bool false=v:=by simpa using h2
     exact .t (.v _ rfl)
    | i+1=>simp at h1)
  ·cases hp
theorem Bq {V:World→Prop} {E:Env} (hE:kg V E) (hV:∀ w',Below B0 w0 w'→V w') (hs:cR B0 w0 G h w) (hf:cV nt G w fr a) {dr:Bool} {get:Nat→Option B} (hg:∀ b x,get b=some x→h.get b=some x) {id:Nat} (hlt:id < h.next) (hid:G.mu id=none) (hh:h.get id=none)
  {o:Oper} {s:S} {h':Heap} (hst:bx E dr get id fr h o.op=some (s,h')) {next:Act→World→Prop} {Q:Exit→Act→World→Prop} (hn:∀ v w',im B0 w0 id G h w s h' v w'→next (a.put o.dst v) w'):o.wp E.P a w next Q:=by
 unfold Oper.wp
 have val:∀ {v:Value} {w':World},(execOp a.eval o).run E.P w=.ok (.value v) w'→im B0 w0 id G h w s h' v w'→o.upon E.P a next Q ((execOp a.eval o).run E.P w):=fun h1 h2=>by
  rw [h1,Oper.upon_value];exact hn _ _ h2
 have same:∀ {v:Value},h'=h→aY G w s v→im B0 w0 id G h w s h' v w:=fun h1 h2=>by subst h1;exact ⟨G,hs,Nx.refl _ _ _ _ _,h2⟩
 have calls:∀ {g:FuncId} {vs:Array Value},(execOp a.eval o).run E.P w=.ok (.enter g vs) w→(Calls E.P g vs w fun e w'=>∃ v,e=.returned v∧im B0 w0 id G h w s h' v w')→o.upon E.P a next Q ((execOp a.eval o).run E.P w):=fun h1 h2=>by
  rw [h1,Oper.upon_enter]
  refine h2.mono fun e w' ⟨v,he,haf⟩=>?_
  subst he
  exact hn _ _ haf
 have load:∀ {get:Nat→Option B} {t:TypeId} {p:Operand},(∀ b x,get b=some x→h.get b=some x)→o.op=.load t p→gT E.P get t (ev fr p)=some s→h'=h→o.upon E.P a next Q ((execOp a.eval o).run E.P w):=fun hg' ho hl e=>by
  obtain ⟨u,hu,hsu⟩:=xv (P:=E.P) hs hg' (hf.ev _) hl
  obtain ⟨dst,op,type,pos,after,guard⟩:=o
  simp only at ho
  subst ho
  exact val (by simp only [execOp,Sem.run_bind,hu,Result.andThen_ok,Sem.run_pure]) (same e hsu)
 have look:∀ {get:Nat→Option B} {t:TypeId} {p k:Operand} {ok:Bool},(∀ b x,get b=some x→h.get b=some x)→o.op=.lookup t p k ok→wo E.P E.K get t (ev fr p) (ev fr k) ok=some s→h'=h→o.upon E.P a next Q ((execOp a.eval o).run E.P w):=fun hg' ho hl e=>by
  obtain ⟨u,hu,hsu⟩:=MU hE.k hs hg' (hf.ev _) (hf.ev _) hl
  obtain ⟨dst,op,type,pos,after,guard⟩:=o
  simp only at ho
  subst ho
  exact val (by simp only [execOp,Sem.run_bind,hu,Result.andThen_ok,Sem.run_pure]) (same e hsu)
 have write:cf E h id fr o.op=some (s,h')→o.upon E.P a next Q ((execOp a.eval o).run E.P w):=by
  intro hw
  cases hop:o.op with
  | store t p x=>
   rw [hop] at hw
   simp only [cf] at hw
   obtain ⟨h2,hst2,e⟩:=Option.map_eq_some_iff.1 hw
   simp only [Prod.mk.injEq] at e
   obtain ⟨rfl,rfl⟩:=e
   obtain ⟨w',G',hr,q1,q2⟩:=Hp (P:=E.P) hs (hf.ev p) (hf.ev x) hst2 id
   have hrun:(execOp a.eval o).run E.P w=.ok .skip w':=by
    obtain ⟨dst,op,type,pos,after,guard⟩:=o
    simp only at hop
    subst hop
    simp only [execOp,Sem.run_bind,hr,Result.andThen_ok,Sem.run_pure]
   rw [hrun,Oper.upon_skip]
   exact hn _ _ ⟨G',q1,q2,.ud⟩
  | mapUpdate t m k x=>
   rw [hop] at hw
   simp only [cf] at hw
   obtain ⟨h2,hst2,e⟩:=Option.map_eq_some_iff.1 hw
   simp only [Prod.mk.injEq] at e
   obtain ⟨rfl,rfl⟩:=e
   obtain ⟨w',G',hr,q1,q2⟩:=Om hE.k hs (hf.ev m) (hf.ev k) (hf.ev x) hst2 id
   have hrun:(execOp a.eval o).run E.P w=.ok .skip w':=by
    obtain ⟨dst,op,type,pos,after,guard⟩:=o
    simp only at hop
    subst hop
    simp only [execOp,Sem.run_bind,hr,Result.andThen_ok,Sem.run_pure]
   rw [hrun,Oper.upon_skip]
   exact hn _ _ ⟨G',q1,q2,.ud⟩
  | call c=>
   obtain ⟨callee,args,argTypes⟩:=c
   rw [hop] at hw
   cases callee with
   | invoke r m=>cases hw
   | builtin b=>
    cases b<;>first | (cases hw;done) | skip
    simp only [cf] at hw
    split at hw
    ·rename_i x y t u hxy htu
     split at hw
     ·rename_i e e' ht hu
      have hl:=pV hf args.toList
      rw [hxy] at hl
      obtain ⟨vx,r1,e1,hvx,hr1⟩:=hl.dK
      obtain ⟨vy,r2,e2,hvy,hr2⟩:=hr1.dK
      obtain rfl:r2=[]:=List.length_eq_zero_iff.1 hr2.1.symm
      subst e2
      have hargs:args.map a.eval=#[vx,vy]:=Array.ext' (by simpa using e1)
      have hats:argTypes=#[t,u]:=Array.ext' htu
      obtain ⟨v,w',hr,haf⟩:=Dk (P:=E.P) hs hlt hid hh ht hu (ty:=o.type) hvx hvy hw
      refine val (v:=v) (w':=w') ?_ haf
      obtain ⟨dst,op,type,pos,after,guard⟩:=o
      simp only at hop hr
      subst hop
      subst hats
      simp only [execOp,resolve,Sem.run_bind,Sem.run_pure,Result.andThen_ok,invoke,builtin,hargs,hr]
     ·cases hw
    ·cases hw
   | value f=>
    simp only [cf] at hw
    split at hw
    ·rename_i g az hcal
     cases hfo:E.fnOk g with
     | false=>rw [hfo] at hw;cases hw
     | true=>
      rw [hfo,Bool.not_true,cond_false] at hw
      obtain ⟨first,cap,hres,hla⟩:=pO (P:=E.P) (c:=⟨.value f,args,argTypes⟩) rfl hf rfl hcal o.type
      have hrun:=CF hE hop hfo hres
      refine calls hrun ?_
      cases hi:E.inl g with
      | true=>
       rw [hi,cond_true] at hw
       refine (hE.i g az h s h' hw B0 w0 G w _ hV hs hla).mono fun e w' ⟨v,G',he,q1,q2,q3⟩=>⟨v,he,G',q1,q2.at id,q3⟩
      | false=>
       rw [hi,cond_false] at hw
       split at hw
       ·rename_i r l hq
        simp only [Option.some.injEq,Prod.mk.injEq] at hw
        obtain ⟨rfl,rfl⟩:=hw
        exact nN hE hV hs (fun _ _ h=>h) hla hq (by obtain ⟨_,_,_,_,q⟩:=hE.fn g hfo;exact q) id
       ·cases hw
    ·cases hw
  | _=>rw [hop] at hw;cases hw
 have read:∀ {get:Nat→Option B},(∀ b x,get b=some x→h.get b=some x)→dN o.op=false→cb E get fr o.op=some s→h'=h→o.upon E.P a next Q ((execOp a.eval o).run E.P w):=fun {get} hg hnc hp e=>by
  subst e
  cases hop:o.op with
  | load t p=>
   rw [hop] at hp
   exact load hg hop hp rfl
  | lookup t p k ok=>
   rw [hop] at hp
   exact look hg hop hp rfl
  | convert src dst x=>
   rw [hop] at hp
   obtain ⟨v,w',hr,haf⟩:=Mu hop hs hf hg hp id
   exact val hr haf
  | range t x=>
   obtain ⟨v,w',hr,haf⟩:=Dc hs hf (.inl ⟨t,x,hop⟩) hp id
   exact val hr haf
  | next x z=>
   obtain ⟨v,w',hr,haf⟩:=Dc hs hf (.inr ⟨x,z,hop⟩) hp id
   exact val hr haf
  | call c=>rw [hop] at hnc;cases hnc
  | _=>rw [hop] at hp;cases hp
 unfold bx at hst
 split at hst
 ·obtain ⟨s',hp,e⟩:=Option.map_eq_some_iff.1 hst
  simp only [Prod.mk.injEq] at e
  obtain ⟨rfl,rfl⟩:=e
  obtain ⟨v,hv,hsv⟩:=HO hE.k hf hp
  exact val hv (same rfl hsv)
 ·rename_i hcls
  cases dr with
  | true=>
   rw [cond_true] at hst
   obtain ⟨s',hp,e⟩:=Option.map_eq_some_iff.1 hst
   simp only [Prod.mk.injEq] at e
   obtain ⟨rfl,rfl⟩:=e
   cases hnc:dN o.op with
   | false=>exact read hg hnc hp rfl
   | true=>
   cases hop:o.op with
   | call c=>
    obtain ⟨callee,args,argTypes⟩:=c
    rw [hop] at hp
    cases callee with
    | invoke r m=>cases hp
    | builtin b=>cases hp
    | value f=>
     simp only [cb] at hp
     split at hp
     ·rename_i g az hcal
      cases hfo:!E.fnOk g || E.inl g with
      | true=>rw [hfo] at hp;cases hp
      | false=>
       rw [hfo,cond_false] at hp
       simp only [Bool.or_eq_false_iff,Bool.not_eq_false'] at hfo
       split at hp
       ·rename_i r hq
        obtain rfl:=Option.some.inj hp
        obtain ⟨first,cap,hres,hla⟩:=pO (P:=E.P) (c:=⟨.value f,args,argTypes⟩) rfl hf rfl hcal o.type
        refine calls (CF hE hop hfo.1 hres) ?_
        exact nN hE hV hs hg hla hq (by obtain ⟨_,_,_,_,q⟩:=hE.fn _ hfo.1;exact q) id
       ·cases hp
     ·cases hp
   | _=>rw [hop] at hnc;cases hnc
  | false=>
   rw [cond_false] at hst
   cases hnc:dN o.op with
   | true=>rw [hnc,cond_true] at hst;exact write hst
   | false=>
    rw [hnc,cond_false] at hst
    obtain ⟨s',hp,e⟩:=Option.map_eq_some_iff.1 hst
    simp only [Prod.mk.injEq] at e
    obtain ⟨rfl,rfl⟩:=e
    exact read (fun _ _ h=>h) hnc hp rfl
 ·obtain ⟨⟨s',x⟩,hp,e⟩:=Option.map_eq_some_iff.1 hst
  simp only [Prod.mk.injEq] at e
  obtain ⟨rfl,rfl⟩:=e
  obtain ⟨v,w',hr,haf⟩:=LH (P:=E.P) hs hf hlt hid hh hp
  exact val hr haf
 ·exact write hst
end
end Go.Proofs.YtonkoellfaopiaaGreatDoor.H
