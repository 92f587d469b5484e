import Derived.Test.YtonkoellfaopiaaGreatDoorD1
import Derived.Great.BuildSlice
import Derived.Deep.Upon
import Derived.Laws.AppendOwn
set_option linter.unusedSimpArgs false
set_option linter.unusedVariables false
set_option linter.unusedSectionVars false
namespace Go.Proofs.YtonkoellfaopiaaGreatDoor.H
open Go Go.RowKit
section
variable [dq] {P:Program} {G:Gh} {w w0:World} {nt B0:Nat} {fr:Fr} {a:Act} {h:Heap}
def vn (G:Gh) (w:World) (r o:Nat) (cs:List S):Prop:=∀ (k:Nat) (s:S),cs[k]?=some s→∃ v,w.cell? ⟨r,o+k,none⟩=some v∧aY G w s v
theorem vn.drop {r o:Nat} {cs:List S} (h:vn G w r o cs) (n:Nat):vn G w r (o+n) (cs.drop n):=fun k s hk=>by
 rw [List.getElem?_drop] at hk
 have:=h (n+k) s hk
 rwa [← Nat.add_assoc] at this
theorem vn.ia {r o:Nat} {cs:List S} (h:vn G w r o cs):∃ vs:List Value,bD G w cs vs∧∀ k v,vs[k]?=some v→w.cell? ⟨r,o+k,none⟩=some v:=by
 induction cs generalizing o with
 | nil=>exact ⟨[],.nil,fun k v hk=>by simp at hk⟩
 | cons s cs ih=>
  obtain ⟨v,hv,hs⟩:=h 0 s rfl
  obtain ⟨vs,hl,hc⟩:=ih (o:=o+1) (fun k s' hk=>by
   have:=h (k+1) s' (by simpa using hk)
   rwa [show o+(k+1)=o+1+k by omega] at this)
  refine ⟨v::vs,.cons hs hl,fun k u hk=>?_⟩
  cases k with
  | zero=>simp at hk;subst hk;exact hv
  | succ k=>have:=hc k u (by simpa using hk);rwa [show o+1+k=o+(k+1) by omega] at this
theorem rN {t:TypeId} {r o:Nat} {cs:List S} {s:S} (hc:vn G w r o cs) (h:mA P t cs=some s):∃ v,(loadVar t ⟨r,o,none⟩).run P w=.ok v w∧aY G w s v:=by
 obtain ⟨d,hd,ht⟩:=qq h
 unfold BL at ht
 unfold loadVar
 simp only [Sem.run_bind,qz t hd,Result.andThen_ok]
 cases e:b_ P t with
 | false=>
  rw [e] at ht
  simp only [cond_false] at ht
  cases cs with
  | nil=>cases ht
  | cons c r'=>
   obtain rfl:=Option.some.inj ht
   obtain ⟨v,hv,hs⟩:=hc 0 c rfl
   exact ⟨v,by simp only [Bool.false_eq_true,if_false,run_load];rw [show (⟨r,o,none⟩:Addr)=⟨r,o+0,none⟩ from rfl,hv],hs⟩
 | true=>
  rw [e] at ht
  simp only [cond_true] at ht
  cases hl:(P.cellsOf t).ble cs.length with
  | false=>rw [hl] at ht;cases ht
  | true=>
   rw [hl] at ht
   obtain rfl:=Option.some.inj ht
   obtain ⟨vs,hr,hcell⟩:=hc.ia
   have hlen:P.cellsOf t≤vs.length:=by rw [← hr.1];exact Nat.le_of_ble_eq_true hl
   have:=run_loadCells_list (P:=P) (w:=w) ⟨r,o,none⟩ (vs.take (P.cellsOf t)) (fun j v hj=>by
    rw [addr_add]
    rw [List.getElem?_take] at hj
    split at hj
    ·exact hcell j v hj
    ·cases hj)
   rw [List.length_take,Nat.min_eq_left hlen] at this
   exact ⟨.agg (vs.take (P.cellsOf t)).toArray,by simp only [if_true,Sem.run_bind,iK hd,Result.andThen_ok,this,Sem.run_pure],(hr.take _).agg⟩
theorem Vj {r o:Nat} {cs:List T} (hc:j6 w G.bB ⟨r,o,none⟩ cs):vn G w r o (cs.map fun c=>.t (kp c)):=fun k s hk=>by
 rw [List.getElem?_map] at hk
 cases e:cs[k]? with
 | none=>rw [e] at hk;cases hk
 | some c=>
  rw [e] at hk
  obtain rfl:=Option.some.inj hk
  obtain ⟨v,hv,ht⟩:=hc k c e
  exact ⟨v,hv,.t ht.kp⟩
theorem eB {r:Nat} {c:Array Value} {ty:TypeId} {fz:Nat × Nat} (hb:w.heap[r]?=some (.cells c ty fz)) (k:Nat):w.cell? ⟨r,k,none⟩=c[k]?:=by
 simp [World.cell?,hb]
theorem uY {r:Nat} {c:Array Value} {ty:TypeId} {fz:Nat × Nat} {cs:List S} (hb:w.heap[r]?=some (.cells c ty fz)) (hc:nf G w c cs):vn G w r 0 cs:=fun k s hk=>by
 obtain ⟨v,hv,hs⟩:=hc k s hk
 exact ⟨v,by rw [Nat.zero_add,eB hb];exact hv,hs⟩
theorem S_ {r sz n:Nat} {get:Fin n→List T} {c:Array Value} {ty:TypeId} {fz:Nat × Nat} (hb:w.heap[r]?=some (.cells c ty fz)) (hc:pP G w c sz n get) (i:Fin n):vn G w r (i.1*sz) ((get i).map fun c=>.t (kp c)):=fun k s hk=>by
 rw [List.getElem?_map] at hk
 cases e:(get i)[k]? with
 | none=>rw [e] at hk;cases hk
 | some t=>
  rw [e] at hk
  obtain rfl:=Option.some.inj hk
  obtain ⟨v,hv,ht⟩:=hc i k t e
  exact ⟨v,by rw [eB hb];exact hv,.t ht.kp⟩
theorem xv (hs:cR B0 w0 G h w) {get:Nat→Option B} (hg:∀ b x,get b=some x→h.get b=some x) {t:TypeId} {x s:S} {v:Value} (hx:aY G w x v) (hl:gT P get t x=some s):
  ∃ u,(Instr.loadAt t v).run P w=.ok u w∧aY G w s u:=by
 have fin:∀ {r o:Nat} {cs:List S},v=.pointer (some ⟨r,o,none⟩)→vn G w r o cs→mA P t cs=some s→∃ u,(Instr.loadAt t v).run P w=.ok u w∧aY G w s u:=by
  intro r o cs hv hc hval
  obtain ⟨u,hu,hsu⟩:=rN hc hval
  exact ⟨u,by rw [hv];simp only [Instr.loadAt,Instr.sureAddr,Sem.run_bind,Sem.run_pure,Result.andThen_ok,hu],hsu⟩
 unfold gT at hl
 split at hl
 ·cases hx with | pt hi hc=>exact fin rfl (Vj hc) hl
 ·rename_i b o
  cases hx with | ptr hmu=>
  split at hl
  ·rename_i cs hb
   have hrep:=hs.rep b _ (hg _ _ hb)
   cases hrep with | box hmu' hown hbl hf hle hc hi hB=>
   rw [hmu] at hmu'
   simp only [Option.some.injEq,Value.pointer.injEq,Addr.mk.injEq,and_true] at hmu'
   subst hmu'
   have:=(uY hbl hc).drop o
   rw [Nat.zero_add] at this
   exact fin rfl this hl
  ·cases hl
 ·rename_i b z i o
  cases hx with | ep hmu=>
  split at hl
  ·rename_i fz sz n g hb
   have hrep:=hs.rep b _ (hg _ _ hb)
   split at hl
   ·rename_i hin
    cases e:z.beq sz && (o+P.cellsOf t).ble sz with
    | false=>rw [e] at hl;cases hl
    | true=>
     rw [e,cond_true] at hl
     rw [Bool.and_eq_true] at e
     obtain rfl:z=sz:=Nat.eq_of_beq_eq_true e.1
     cases hrep with
     | row hmu' hown hbl hf hcap hle hc hlen hi hB=>
      rw [hmu] at hmu'
      simp only [Option.some.injEq,Value.slice.injEq,Addr.mk.injEq,and_true] at hmu'
      obtain ⟨rfl,-,-⟩:=hmu'
      have:=(S_ hbl hc ⟨i,hin⟩).drop o
      rw [← List.map_drop] at this
      exact fin rfl this hl
     | none=>omega
   ·cases hl
  ·rename_i fz sz n cs hb
   have hrep:=hs.rep b _ (hg _ _ hb)
   cases e:z.beq sz && decide (i < n) && (o+P.cellsOf t).ble sz with
   | false=>rw [e] at hl;cases hl
   | true=>
    rw [e,cond_true] at hl
    simp only [Bool.and_eq_true] at e
    obtain rfl:z=sz:=Nat.eq_of_beq_eq_true e.1.1
    cases hrep with
    | fO hmu' hown hbl hf hle hn hc hi hB=>
     rw [hmu] at hmu'
     simp only [Option.some.injEq,Value.slice.injEq,Addr.mk.injEq,and_true] at hmu'
     obtain ⟨rfl,-,-⟩:=hmu'
     have:=(uY hbl hc).drop (i*z+o)
     rw [Nat.zero_add] at this
     exact fin rfl this hl
  ·cases hl
 ·cases hl
def Gh.with (G:Gh) (id:Nat) (v:Value) (r:Option Nat):Gh:=⟨fun b=>if b=id then some v else G.mu b,fun b=>if b=id then r else G.own b,G.bB⟩
theorem Gh.yO (G:Gh) (id:Nat) (v:Value) (r:Option Nat) (hid:G.mu id=none):∀ b x,G.mu b=some x→(G.with id v r).mu b=some x:=fun b x hb=>by
 show (if b=id then _ else _)=_
 rw [if_neg (fun e=>by rw [e,hid] at hb;cases hb)]
 exact hb
theorem kD (w:World) (o:Obj) {r:Nat} (h:r < w.heap.size):(w.alloc o).heap[r]?=w.heap[r]?:=Below.heap_alloc w o r h
theorem jG.mono {G G':Gh} {w w':World} {b:Nat} {x:B} (hr:jG G B0 w b x) (hI:∀ r,G.bB r→G'.bB r) (hI':∀ r,G.own b=some r→G'.bB r→G.bB r) (hk:∀ r,G.bB r→w'.heap[r]?=w.heap[r]?) (hm:∀ b x,G.mu b=some x→G'.mu b=some x) (ho:G'.own b=G.own b)
  (hb:∀ r,G.own b=some r→w'.heap[r]?=w.heap[r]?):jG G' B0 w' b x:=by
 cases hr with
 | box hmu hown hbl hf hl hc hi hB=>
  exact .box (hm _ _ hmu) (ho.trans hown) ((hb _ hown).trans hbl) hf hl (fun k s hk'=>let ⟨v,hv,hs⟩:=hc k s hk';⟨v,hv,hs.mono hI hk hm⟩) (fun h=>hi (hI' _ hown h)) hB
 | fO hmu hown hbl hf hl hn hc hi hB=>
  exact .fO (hm _ _ hmu) (ho.trans hown) ((hb _ hown).trans hbl) hf hl hn (fun k s hk'=>let ⟨v,hv,hs⟩:=hc k s hk';⟨v,hv,hs.mono hI hk hm⟩) (fun e h=>hi e (hI' _ hown h)) hB
 | row hmu hown hbl hf hcap hl hc hlen hi hB=>
  exact .row (hm _ _ hmu) (ho.trans hown) ((hb _ hown).trans hbl) hf hcap hl (fun i k t hk'=>let ⟨v,hv,hs⟩:=hc i k t hk';⟨v,hv,hs.mono hI hk⟩) hlen (fun e h=>hi e (hI' _ hown h)) hB
 | mp hmu hown hbl hc hi hB hw=>exact .mp (hm _ _ hmu) (ho.trans hown) ((hb _ hown).trans hbl) (hc.mono hI hk hm) (fun e h=>hi e (hI' _ hown h)) hB hw
 | none hmu hown=>exact .none (hm _ _ hmu) (ho.trans hown)
theorem jG.lt {b:Nat} {x:B} (hr:jG G B0 w b x) {r:Nat} (ho:G.own b=some r):r < w.heap.size:=by
 have key:∀ {r':Nat} {o:Obj},w.heap[r']?=some o→r' < w.heap.size:=fun h=>(Array.getElem?_eq_some_iff.1 h).1
 cases hr with
 | box hmu hown hbl=>rw [hown] at ho;obtain rfl:=Option.some.inj ho;exact key hbl
 | fO hmu hown hbl=>rw [hown] at ho;obtain rfl:=Option.some.inj ho;exact key hbl
 | row hmu hown hbl=>rw [hown] at ho;obtain rfl:=Option.some.inj ho;exact key hbl
 | mp hmu hown hbl=>rw [hown] at ho;obtain rfl:=Option.some.inj ho;exact key hbl
 | none hmu hown=>rw [hown] at ho;cases ho
theorem jG.wa {b:Nat} {x:B} (hr:jG G B0 w b x) {r:Nat} (ho:G.own b=some r) {o:Obj} (hb:w.heap[r]?=some o):CS o=false:=by
 cases hr with
 | box hmu hown hbl=>rw [hown] at ho;obtain rfl:=Option.some.inj ho;rw [hbl] at hb;obtain rfl:=Option.some.inj hb;rfl
 | fO hmu hown hbl=>rw [hown] at ho;obtain rfl:=Option.some.inj ho;rw [hbl] at hb;obtain rfl:=Option.some.inj hb;rfl
 | row hmu hown hbl=>rw [hown] at ho;obtain rfl:=Option.some.inj ho;rw [hbl] at hb;obtain rfl:=Option.some.inj hb;rfl
 | mp hmu hown hbl=>rw [hown] at ho;obtain rfl:=Option.some.inj ho;rw [hbl] at hb;obtain rfl:=Option.some.inj hb;rfl
 | none hmu hown=>rw [hown] at ho;cases ho
theorem jG.ge {b:Nat} {x:B} (hr:jG G B0 w b x) {r:Nat} (ho:G.own b=some r):B0≤r:=by
 cases hr with
 | box hmu hown hbl hf hl hc hi hB=>rw [hown] at ho;obtain rfl:=Option.some.inj ho;exact hB
 | fO hmu hown hbl hf hl hn hc hi hB=>rw [hown] at ho;obtain rfl:=Option.some.inj ho;exact hB
 | row hmu hown hbl hf hcap hl hc hlen hi hB=>rw [hown] at ho;obtain rfl:=Option.some.inj ho;exact hB
 | mp hmu hown hbl hc hi hB=>rw [hown] at ho;obtain rfl:=Option.some.inj ho;exact hB
 | none hmu hown=>rw [hown] at ho;cases ho
theorem cN (h:Heap) (i j:Nat) (x:B):(h.put i x).get j=if i=j then some x else h.get j:=gV _ _ _ _
theorem lM (h:Heap) (i j:Nat):(h.del i).get j=if i=j then none else h.get j:=gV _ _ _ _
theorem cR.NM (hs:cR B0 w0 G h w) {id:Nat} (hlt:id < h.next) (hid:G.mu id=none) (hh:h.get id=none) {ob:Obj} {x:B} {v:Value}
  (hx:∀ G' w',(∀ b x,G.mu b=some x→G'.mu b=some x)→G'.bB=G.bB→(∀ r,G.bB r→w'.heap[r]?=w.heap[r]?)→G'.mu id=some v→G'.own id=some w.heap.size→w'.heap[w.heap.size]?=some ob→jG G' B0 w' id x):
  cR B0 w0 (G.with id v (some w.heap.size)) (h.put id x) (w.alloc ob)∧Nx B0 id G h w (G.with id v (some w.heap.size)) (h.put id x) (w.alloc ob):=by
 have hm:=G.yO id v (some w.heap.size) hid
 have hk:∀ r,G.bB r→(w.alloc ob).heap[r]?=w.heap[r]?:=fun r hr=>kD w _ (hs.bB r hr)
 have hnew:(w.alloc ob).heap[w.heap.size]?=some ob:=by
  show (w.heap.push _)[w.heap.size]?=_
  simp
 refine ⟨⟨hs.below.alloc hs.b0 _,fun r hr=>?_,fun b y hb=>?_,fun b b' r h1 h2 h3 h4=>?_,fun b hb=>?_,?_,hs.gP.mono hk,hs.bs⟩,⟨fun _ h=>h,hk,fun b hb _=>?_,fun b hb _ hn=>?_,Nat.le_refl _,fun _ h=>.inl h,db.below ((Below.refl _ _).alloc (Nat.le_refl _) _)⟩⟩
 ·have:=hs.bB r hr;simp;omega
 ·rw [cN] at hb
  split at hb
  ·rename_i e
   subst e
   obtain rfl:=Option.some.inj hb
   exact hx _ _ hm rfl hk (by show (if _ then _ else _)=_;rw [if_pos rfl]) (by show (if _ then _ else _)=_;rw [if_pos rfl]) hnew
  ·rename_i e
   have hr:=hs.rep b y hb
   have ho:(G.with id v (some w.heap.size)).own b=G.own b:=by show (if _ then _ else _)=_;rw [if_neg (fun e'=>e e'.symm)]
   exact hr.mono (fun _ h=>h) (fun _ _ h=>h) hk hm ho (fun r hr'=>kD w _ (hr.lt hr'))
 ·have ow:∀ b r,(h.put id x).get b≠none→(G.with id v (some w.heap.size)).own b=some r→(b=id∧r=w.heap.size)∨(b≠id∧h.get b≠none∧G.own b=some r∧r < w.heap.size):=by
   intro b r hb ho
   by_cases e:b=id
   ·subst e
    left
    have:(if b=b then some w.heap.size else G.own b)=some r:=ho
    rw [if_pos rfl] at this
    exact ⟨rfl,(Option.some.inj this).symm⟩
   ·right
    rw [cN,if_neg (fun e'=>e e'.symm)] at hb
    have ho':(if b=id then some w.heap.size else G.own b)=some r:=ho
    rw [if_neg e] at ho'
    cases hy:h.get b with
    | none=>exact absurd hy hb
    | some y=>exact ⟨e,by simp,ho',(hs.rep b y hy).lt ho'⟩
  rcases ow b r h1 h3 with ⟨rfl,e1⟩ | ⟨n1,a1,o1,l1⟩<;>rcases ow b' r h2 h4 with ⟨rfl,e2⟩ | ⟨n2,a2,o2,l2⟩
  ·rfl
  ·omega
  ·omega
  ·exact hs.inj b b' r a1 a2 o1 o2
 ·have hb':h.next≤b:=hb
  have hne:b≠id:=by omega
  refine ⟨?_,?_⟩
  ·show (if _ then _ else _)=_
   rw [if_neg hne];exact (hs.lo b hb').1
  ·rw [cN,if_neg (fun e=>hne e.symm)];exact (hs.lo b hb').2
 ·have:=hs.b0;simp;omega
 ·show (if _ then _ else _)=_
  rw [if_neg hb]
 ·rw [cN,if_neg (fun e=>hb e.symm)];exact hn
theorem cR.alloc (hs:cR B0 w0 G h w) {id:Nat} (hlt:id < h.next) (hid:G.mu id=none) (hh:h.get id=none) {c:Array Value} {ty:TypeId} {x:B} {v:Value}
  (hx:∀ G' w',(∀ b x,G.mu b=some x→G'.mu b=some x)→G'.bB=G.bB→(∀ r,G.bB r→w'.heap[r]?=w.heap[r]?)→G'.mu id=some v→G'.own id=some w.heap.size→w'.heap[w.heap.size]?=some (.cells c ty (0,0))→jG G' B0 w' id x):
  cR B0 w0 (G.with id v (some w.heap.size)) (h.put id x) (w.alloc (.cells c ty))∧Nx B0 id G h w (G.with id v (some w.heap.size)) (h.put id x) (w.alloc (.cells c ty)):=hs.NM hlt hid hh hx
end
section
variable [dq] {P:Program} {G:Gh} {w w0:World} {nt B0:Nat} {fr:Fr} {a:Act} {h:Heap}
def im (B0:Nat) (w0:World) (id:Nat) (G:Gh) (h:Heap) (w:World) (s:S) (h':Heap) (v:Value) (w':World):Prop:=
 ∃ G',cR B0 w0 G' h' w'∧Nx B0 id G h w G' h' w'∧aY G' w' s v
theorem dY {cs:List S} {c:Array Value} (hl:bD G w cs c.toList):nf G w c cs:=fun k s hk=>by
 have hlt:k < c.size:=by have:=(List.getElem?_eq_some_iff.1 hk).1;rw [hl.1] at this;simpa using this
 have hv:c[k]?=some c[k]:=by simp [hlt]
 exact ⟨c[k],hv,hl.2 k s _ hk (by simp)⟩
theorem bD.mono {G':Gh} {w':World} {cs:List S} {vs:List Value} (hl:bD G w cs vs) (hI:∀ r,G.bB r→G'.bB r) (hk:∀ r,G.bB r→w'.heap[r]?=w.heap[r]?) (hm:∀ b x,G.mu b=some x→G'.mu b=some x):bD G' w' cs vs:=
 ⟨hl.1,fun i s v h1 h2=>(hl.2 i s v h1 h2).mono hI hk hm⟩
theorem KF (hs:cR B0 w0 G h w) {id:Nat} (hlt:id < h.next) (hid:G.mu id=none) (hh:h.get id=none) {cs:List S} {c:Array Value} (hl:bD G w cs c.toList) (ty:TypeId):
  im B0 w0 id G h w (.ptr id 0) (h.put id (.box cs)) (.pointer (some ⟨w.heap.size,0,none⟩)) (w.alloc (.cells c ty)):=by
 obtain ⟨h1,h2⟩:=hs.alloc hlt hid hh (c:=c) (ty:=ty) (x:=.box cs) (v:=.pointer (some ⟨w.heap.size,0,none⟩)) (fun G' w' hm hI hk hmu hown hb=>by
  refine .box hmu hown hb (.inl (Nat.le_refl _)) (by have:=hl.1;simpa using this.symm) (dY (hl.mono (fun r hr=>by rw [hI];exact hr) hk hm)) (fun hi=>?_) hs.b0
  rw [hI] at hi
  have:=hs.bB _ hi
  omega)
 exact ⟨_,h1,h2,.ptr (by show (if _ then _ else _)=_;rw [if_pos rfl])⟩
theorem Hr (n:Nat) (z:List Value) (hz:z≠[]):((Array.range (n*z.length)).map (fun i=>z.toArray[i % z.toArray.size]!)).toList=(List.replicate n z).flatten:=by
 apply List.ext_getElem?
 intro i
 simp only [Array.toList_map,Array.toList_range,List.getElem?_map]
 have hpos:0 < z.length:=List.length_pos_iff.2 hz
 by_cases hi:i < n*z.length
 ·have:(List.range (n*z.length))[i]?=some i:=by simp [hi]
  rw [this]
  have hm:i % z.length < z.length:=Nat.mod_lt _ hpos
  have h1:(z.toArray[i % z.toArray.size]!)=z[i % z.length]:=by
   rw [List.size_toArray]
   rw [getElem!_pos _ _ (by simpa using hm)]
   simp
  simp only [Option.map_some,h1]
  induction n generalizing i with
  | zero=>simp at hi
  | succ n ih=>
   rw [List.replicate_succ,List.flatten_cons,List.getElem?_append]
   by_cases hlt:i < z.length
   ·rw [if_pos hlt]
    have:i % z.length=i:=Nat.mod_eq_of_lt hlt
    simp [this,hlt]
   ·rw [if_neg hlt]
    have hi':i - z.length < n*z.length:=by rw [Nat.succ_mul] at hi;omega
    have hmod:(i - z.length) % z.length=i % z.length:=by
     conv=>rhs;rw [show i=(i - z.length)+z.length by omega,Nat.add_mod_right]
    have:=ih (i:=i - z.length) hi' (by simp [hi']) (Nat.mod_lt _ hpos) (by
     rw [List.size_toArray,getElem!_pos _ _ (by simpa using Nat.mod_lt _ hpos)];simp)
    rw [← this]
    simp [hmod]
 ·have h1:(List.range (n*z.length))[i]?=none:=by simp;omega
  have h2:((List.replicate n z).flatten)[i]?=none:=by
   rw [List.getElem?_eq_none]
   simp [List.length_flatten,List.map_replicate];omega
  rw [h1,h2];rfl
theorem nQ {z:List S} {vz:List Value} (hz:bD G w z vz):∀ n,bD G w (List.replicate n z).flatten (List.replicate n vz).flatten
 | 0=>.nil
 | n+1=>by rw [List.replicate_succ,List.replicate_succ,List.flatten_cons,List.flatten_cons];exact hz.append (nQ hz n)
theorem xt {place:Nat→Option (Nat × Nat)}:∀ {parts:List (Nat × S)} {cs out:List S},mT place cs parts=some out→out.length=cs.length
 | [],cs,out,h=>by simp only [mT,Option.some.injEq] at h;rw [h]
 | (i,s)::r,cs,out,h=>by
  unfold mT at h
  split at h
  ·cases h
  ·rename_i off size _
   cases e:kY s && (bf s).length.beq size && (off+(bf s).length).ble cs.length with
   | false=>rw [e] at h;cases h
   | true=>
    rw [e,cond_true] at h
    rw [xt h]
    have:∀ (xs cs:List S) (o:Nat),(setFrom cs o xs).length=cs.length:=by
     intro xs
     induction xs with
     | nil=>intros;rfl
     | cons x xs ih=>intro cs o;simp only [setFrom];rw [ih];simp
    exact this _ _ _
theorem LH (hs:cR B0 w0 G h w) (hf:cV nt G w fr a) {id:Nat} (hlt:id < h.next) (hid:G.mu id=none) (hh:h.get id=none) {o:Oper} {s:S} {x:B} (ho:lS P fr id o.op=some (s,x)):
  ∃ v w',(execOp a.eval o).run P w=.ok (.value v) w'∧im B0 w0 id G h w s (h.put id x) v w':=by
 obtain ⟨dst,op,type,pos,after,guard⟩:=o
 simp only at ho
 cases op with
 | alloc t=>
  simp only [lS] at ho
  split at ho
  ·rename_i z hz
   obtain ⟨i,v,hi,hv,rfl⟩:=gD hz
   cases e0:kY (gj v) with
   | false=>rw [e0] at ho;cases ho
   | true=>
    rw [e0,cond_true] at ho
    simp only [Option.some.injEq,Prod.mk.injEq] at ho
    obtain ⟨rfl,rfl⟩:=ho
    have hrun:(execOp a.eval { dst:=dst,op:=.alloc t,type:=type,pos:=pos,after:=after,guard:=guard }).run P w=.ok (.value (.pointer (some ⟨w.heap.size,0,none⟩))) (w.alloc (.cells v.cells t)):=by
     simp only [execOp,Instr.alloc,Sem.run_bind,eH hi hv,Result.andThen_ok,newVar,newRow,run_newObj,Sem.run_pure]
     rfl
    exact ⟨_,_,hrun,KF hs hlt hid hh (lx e0) t⟩
  ·cases ho
 | makeMap t r=>
  simp only [lS] at ho
  cases r with
  | some x=>simp only at ho;split at ho<;>cases ho
  | none=>
   simp only [Option.some.injEq,Prod.mk.injEq] at ho
   obtain ⟨rfl,rfl⟩:=ho
   refine ⟨.map (some w.heap.size),w.alloc (.map #[] 0),rfl,?_⟩
   obtain ⟨h1,h2⟩:=hs.NM hlt hid hh (ob:=.map #[] 0) (x:=.mp false []) (v:=.map (some w.heap.size)) (fun G' w' hm hI hk hmu hown hb=>by
    refine .mp hmu hown hb ⟨rfl,fun i e m h=>by simp at h⟩ (fun _ hi=>?_) hs.b0 ⟨by simp,by simp⟩
    rw [hI] at hi
    have:=hs.bB _ hi
    omega)
   exact ⟨_,h1,h2,.mp (by show (if _ then _ else _)=_;rw [if_pos rfl])⟩
 | box t x=>
  simp only [lS] at ho
  cases e0:kY (ev fr x) with
  | false=>rw [e0] at ho;cases ho
  | true=>
   rw [e0,cond_true] at ho
   simp only [Option.some.injEq,Prod.mk.injEq] at ho
   obtain ⟨rfl,rfl⟩:=ho
   exact ⟨_,_,rfl,KF hs hlt hid hh (lQ (hf.ev x) e0) t⟩
 | buildSlice t n parts=>
  simp only [lS] at ho
  split at ho
  ·rename_i e hu
   split at ho
   ·rename_i z hz
    obtain ⟨i,v,hi,hv,rfl⟩:=gD hz
    cases e0:(P.cellsOf e).beq 0 || (n*P.cellsOf e).ble 16777216 == false || !((bf (gj v)).length.beq (P.cellsOf e)) || !kY (gj v) with
    | true=>rw [e0] at ho;cases ho
    | false=>
     rw [e0,cond_false] at ho
     simp only [Bool.or_eq_false_iff] at e0
     obtain ⟨⟨⟨e1,e2⟩,e3⟩,e4⟩:=e0
     obtain ⟨cs,hcs,e⟩:=Option.map_eq_some_iff.1 ho
     simp only [Prod.mk.injEq] at e
     obtain ⟨rfl,rfl⟩:=e
     have hz:=lx (G:=G) (w:=w) (v:=v) (by simpa using e4)
     have hlen:v.cells.size=P.cellsOf e:=by
      have h1:(bf (gj v)).length=P.cellsOf e:=Nat.eq_of_beq_eq_true (by simpa using e3)
      have:=hz.1
      rw [h1] at this;simpa using this.symm
     have hpos:P.cellsOf e≠0:=fun h0=>by rw [h0] at e1;cases e1
     have hsmall:n*P.cellsOf e≤16777216:=Nat.le_of_ble_eq_true (by simpa using e2)
     have hne:v.cells.toList≠[]:=fun h0=>by rw [← Array.length_toList,h0] at hlen;exact hpos hlen.symm
     obtain ⟨c',hc',hr⟩:=vw (G:=G) (w:=w) (fun i=>some (i*P.cellsOf e,P.cellsOf e)) (parts.toList.map fun p=>(p.1,ev fr p.2)) ((parts.map fun (i,x)=>(i,a.eval x)).toList) _ ((List.replicate n v.cells.toList).flatten.toArray) cs (nQ hz n) (by simp) (fun i p q h1 h2=>by
      simp only [List.getElem?_map,Array.toList_map] at h1 h2
      cases hp:parts.toList[i]? with
      | none=>rw [hp] at h1;cases h1
      | some pq=>
       rw [hp] at h1 h2
       obtain rfl:=Option.some.inj h1
       obtain rfl:=Option.some.inj h2
       exact ⟨rfl,hf.ev _⟩) hcs
     have hrun:(Instr.buildSlice t n (parts.map fun (i,x)=>(i,a.eval x))).run P w=.ok (.slice (some ⟨w.heap.size,0,none⟩) n n) (w.alloc (.cells c' e)):=by
      have hsz:i.size=P.cellsOf e:=(lT hi).symm
      by_cases hn:n=0
      ·subst hn
       have hc2:Instr.fill (fun j=>some (j*i.size,i.size)) #[] ((parts.map fun (i,x)=>(i,a.eval x)).toList)=some c':=by rw [hsz];exact hc'
       have e0:((Array.range 0).map (fun k=>(#[]:Array Value)[k % (#[]:Array Value).size]!))=#[]:=by simp
       simp only [Instr.buildSlice,Sem.run_bind,run_underlying hu,sizeOf,typeInfo,run_program,Result.andThen_ok,hi,Sem.run_pure,Nat.zero_mul,Nat.not_lt_zero,if_false,if_true,e0,hc2,newRow,run_newObj,gt_iff_lt]
       rfl
      ·have hcells:(List.replicate n v.cells.toList).flatten.toArray=(Array.range (n*i.size)).map (v.cells[· % v.cells.size]!):=by
        apply Array.ext'
        have:=Hr n v.cells.toList hne
        rw [Array.length_toList,hlen] at this
        rw [hsz,hlen]
        simpa using this.symm
       refine run_buildSlice w t e n _ c' i v hu hi hv (by rw [hsz];omega) (by rw [hsz];exact Nat.mul_ne_zero hn hpos) ?_
       rw [← hcells,hsz]
       exact hc'
     refine ⟨.slice (some ⟨w.heap.size,0,none⟩) n n,w.alloc (.cells c' e),by simp only [execOp,Sem.run_bind,hrun,Result.andThen_ok,Sem.run_pure],?_⟩
     have hcl:cs.length=n*P.cellsOf e:=by
      rw [xt hcs]
      simp [List.length_flatten,List.map_replicate,Nat.eq_of_beq_eq_true (by simpa using e3:(bf (gj v)).length.beq (P.cellsOf e)=true)]
     obtain ⟨h1,h2⟩:=hs.alloc hlt hid hh (c:=c') (ty:=e) (x:=.fO false (P.cellsOf e) n cs) (v:=.slice (some ⟨w.heap.size,0,none⟩) n n) (fun G' w' hm hI hk hmu hown hb=>by
      refine .fO hmu hown hb (.inl (Nat.le_refl _)) (by have:=hr.1;simpa using this.symm) hcl (dY (hr.mono (fun r hr=>by rw [hI];exact hr) hk hm)) (fun _ hi=>?_) hs.b0
      rw [hI] at hi
      have:=hs.bB _ hi
      omega)
     exact ⟨_,h1,h2,.sl (by show (if _ then _ else _)=_;rw [if_pos rfl]) (fun _=>⟨_,rfl⟩)⟩
   ·cases ho
  ·cases ho
 | _=>cases ho
end
section
variable [dq] {P:Program} {G:Gh} {w w0:World} {nt B0:Nat} {fr:Fr} {a:Act} {h:Heap}
def oo:List Value→Nat→List Value→List Value
 | cs,_,[]=>cs
 | cs,o,x::r=>oo (cs.set o x) (o+1) r
theorem tY:∀ (xs cs:List Value) (o:Nat),(oo cs o xs).length=cs.length
 | [],_,_=>rfl
 | x::r,cs,o=>by simp only [oo];rw [tY r];simp
theorem sa:∀ (xs cs:List Value) (o k:Nat),k < o→(oo cs o xs)[k]?=cs[k]?
 | [],_,_,_,_=>rfl
 | x::r,cs,o,k,hk=>by
  simp only [oo]
  rw [sa r _ (o+1) k (by omega),List.getElem?_set_ne (by omega)]
theorem Kj:∀ (xs cs:List Value) (o k:Nat),o+xs.length≤k→(oo cs o xs)[k]?=cs[k]?
 | [],_,_,_,_=>rfl
 | x::r,cs,o,k,hk=>by
  simp only [oo]
  simp only [List.length_cons] at hk
  rw [Kj r _ (o+1) k (by omega),List.getElem?_set_ne (by omega)]
theorem sw:∀ (xs cs:List Value) (o j:Nat),o+xs.length≤cs.length→j < xs.length→(oo cs o xs)[o+j]?=xs[j]?
 | [],_,_,_,_,hj=>by simp at hj
 | x::r,cs,o,0,hl,hj=>by
  simp only [oo]
  rw [sa r _ (o+1) (o+0) (by omega)]
  simp only [List.length_cons] at hl
  rw [Nat.add_zero,List.getElem?_set_self (by omega)]
  rfl
 | x::r,cs,o,j+1,hl,hj=>by
  simp only [oo]
  simp only [List.length_cons] at hl hj
  have:=sw r (cs.set o x) (o+1) j (by simp;omega) (by omega)
  rw [show o+(j+1)=o+1+j by omega,this]
  rfl
theorem lE:∀ (xs:List S) (us:List Value) (cs:List S) (vs:List Value) (o:Nat),bD G w cs vs→bD G w xs us→bD G w (setFrom cs o xs) (oo vs o us)
 | [],us,cs,vs,o,h,h'=>by
  obtain rfl:us=[]:=List.length_eq_zero_iff.1 h'.1.symm
  exact h
 | x::xs,us,cs,vs,o,h,h'=>by
  obtain ⟨u,r,rfl,hu,hr⟩:=h'.dK
  exact lE xs r _ _ (o+1) (h.set o hu) hr
theorem jB (b:Nat):∀ (vs:List Value) (o:Nat) (w:World) (c:Array Value) (ty:TypeId) (fz:Nat × Nat),w.heap[b]?=some (.cells c ty fz)→
  ∃ c',(w.setCells b o vs).heap[b]?=some (.cells c' ty fz)∧c'.toList=oo c.toList o vs∧(∀ k,k≠b→(w.setCells b o vs).heap[k]?=w.heap[k]?)∧(w.setCells b o vs).heap.size=w.heap.size∧
   (w.setCells b o vs).os=w.os∧(w.setCells b o vs).tape=w.tape∧(w.setCells b o vs).output=w.output
 | [],o,w,c,ty,fz,hb=>⟨c,hb,rfl,fun _ _=>rfl,rfl,rfl,rfl,rfl⟩
 | v::r,o,w,c,ty,fz,hb=>by
  have h1:(w.setCell ⟨b,o,none⟩ v).heap[b]?=some (.cells (c.setIfInBounds o v) ty fz):=by
   simp only [World.setCell,Array.getElem?_modify,if_true,hb,Option.map_some]
   rfl
  obtain ⟨c',e1,e2,e3,e4,e5,e6,e7⟩:=jB b r (o+1) (w.setCell ⟨b,o,none⟩ v) _ ty fz h1
  refine ⟨c',e1,?_,fun k hk=>(e3 k hk).trans (Below.heap_setCell w ⟨b,o,none⟩ v k hk),e4.trans (by simp [World.setCell]),e5,e6,e7⟩
  rw [e2,Array.toList_setIfInBounds]
  rfl
theorem lk {r:Nat} {c:Array Value} {ty:TypeId} {fz:Nat × Nat} (hb:w.heap[r]?=some (.cells c ty fz)) (hf:kZ c fz) {k:Nat} (hk:k < c.size):(w.cell? ⟨r,k,none⟩).isSome=true∧w.frozen? ⟨r,k,none⟩=false:=by
 refine ⟨by rw [eB hb];simp [hk],?_⟩
 simp only [World.frozen?,hb]
 unfold kZ at hf
 simp only [Bool.and_eq_false_iff,decide_eq_false_iff_not]
 omega
theorem cR.write (hs:cR B0 w0 G h w) {b r:Nat} {x x':B} (hb:h.get b=some x) (hown:G.own b=some r) (hni:¬ G.bB r) (hB:B0≤r) {w':World} (hk:∀ k,k≠r→w'.heap[k]?=w.heap[k]?) (hsz:w'.heap.size=w.heap.size)
  (hos:w'.os=w.os) (htape:w'.tape=w.tape) (hout:w'.output=w.output) (hx':jG G B0 w' b x') (id:Nat):cR B0 w0 G (h.put b x') w'∧Nx B0 id G h w G (h.put b x') w':=by
 have hkeep:∀ q,G.bB q→w'.heap[q]?=w.heap[q]?:=fun q hq=>hk q (fun e=>hni (e ▸ hq))
 have hbe:Below B0 w w':=⟨hos,htape,hout,by omega,fun k hk'=>hk k (by omega)⟩
 refine ⟨⟨hs.below.trans hbe,fun q hq=>by rw [hsz];exact hs.bB q hq,fun b2 y hb2=>?_,fun b1 b2 q h1 h2 h3 h4=>?_,fun b2 hb2=>⟨(hs.lo b2 hb2).1,?_⟩,by rw [hsz];exact hs.b0,hs.gP.mono hkeep,hs.bs⟩,⟨fun _ h=>h,hkeep,fun _ _ _=>rfl,fun b2 _ _ hn=>?_,Nat.le_refl _,fun _ h=>.inl h,fun k o hk1 hl=>(hk k (fun e=>by subst e;have hq:=(hs.rep b x hb).wa hown hk1;rw [hq] at hl;cases hl)).trans hk1⟩⟩
 ·rw [cN] at hb2
  split at hb2
  ·rename_i e
   subst e
   obtain rfl:=Option.some.inj hb2
   exact hx'
  ·rename_i e
   refine (hs.rep b2 y hb2).mono (fun _ h=>h) (fun _ _ h=>h) hkeep (fun _ _ h=>h) rfl (fun q hq=>hk q (fun eq=>?_))
   subst eq
   exact e (hs.inj b b2 q (by rw [hb];simp) (by rw [hb2];simp) hown hq)
 ·have ne:∀ b3,(h.put b x').get b3≠none→h.get b3≠none:=by
   intro b3 h3
   rw [cN] at h3
   split at h3
   ·rename_i e;subst e;rw [hb];simp
   ·exact h3
  exact hs.inj b1 b2 q (ne b1 h1) (ne b2 h2) h3 h4
 ·rw [cN]
  split
  ·rename_i e;subst e;rw [(hs.lo b hb2).2] at hb;cases hb
  ·exact (hs.lo b2 hb2).2
 ·rw [cN]
  split
  ·rename_i e;subst e;rw [hn] at hb;cases hb
  ·exact hn
def Gh.dJ (G:Gh) (h:Heap) (l:List Nat):Gh:=⟨G.mu,G.own,fun r=>G.bB r∨∃ b,b∈l∧∃ x,h.get b=some x∧wR x=true∧G.own b=some r⟩
theorem qS {l l':List Nat} (hl:∀ b,b∈l→b∈l') {r:Nat} (hi:(G.dJ h l).bB r):(G.dJ h l').bB r:=by
 rcases hi with hi | ⟨b,hb,x,hx,hr,ho⟩
 ·exact .inl hi
 ·exact .inr ⟨b,hl b hb,x,hx,hr,ho⟩
theorem Bd (x:B):jk (jk x)=jk x:=by cases x<;>rfl
theorem cA:∀ (l:List Nat) (h:Heap) (b:Nat),(h.freeze l).get b=(h.get b).map (fun x=>if b∈l then jk x else x)∧(h.freeze l).next=h.next
 | [],h,b=>by simp [Heap.freeze]
 | c::l,h,b=>by
  unfold Heap.freeze
  cases hc:h.get c with
  | none=>
   simp only
   have:=cA l h b
   refine ⟨?_,this.2⟩
   rw [this.1]
   by_cases e:b=c
   ·subst e;simp [hc]
   ·simp [e]
  | some x=>
   simp only
   have:=cA l (h.put c (jk x)) b
   refine ⟨?_,this.2⟩
   rw [this.1,cN]
   by_cases e:c=b
   ·subst e
    simp only [if_true,hc,Option.map_some,List.mem_cons,true_or]
    by_cases m:c∈l<;>simp [m,Bd]
   ·simp only [if_neg e,List.mem_cons]
    have:¬ b=c:=fun e'=>e e'.symm
    simp [this]
theorem cR.L_ (hs:cR B0 w0 G h w) (l:List Nat):iW (G.dJ h l).bB w:=fun r o hr ho=>by
 rcases hr with hr | ⟨b,_,x,hx,_,hown⟩
 ·exact hs.gP r o hr ho
 ·exact (hs.rep b x hx).wa hown ho
theorem cR.freeze (hs:cR B0 w0 G h w) (l:List Nat) (id:Nat):cR B0 w0 (G.dJ h l) (h.freeze l) w∧Nx B0 id G h w (G.dJ h l) (h.freeze l) w:=by
 have getf:=fun b=>(cA l h b).1
 refine ⟨⟨hs.below,fun r hr=>?_,fun b y hb=>?_,fun b1 b2 q h1 h2 h3 h4=>?_,fun b hb=>?_,hs.b0,hs.L_ l,hs.bs⟩,⟨fun _ h=>.inl h,fun _ _=>rfl,fun _ _ _=>rfl,fun b _ _ hn=>?_,?_,fun q hq=>?_,db.refl w⟩⟩
 ·rcases hr with hr | ⟨b,_,x,hx,_,ho⟩
  ·exact hs.bB r hr
  ·exact (hs.rep b x hx).lt ho
 ·rw [getf] at hb
  obtain ⟨x,hx,e⟩:=Option.map_eq_some_iff.1 hb
  have hr:=hs.rep b x hx
  have only:∀ r,G.own b=some r→(G.dJ h l).bB r→G.bB r∨(b∈l∧wR x=true):=by
   intro r ho hi
   rcases hi with hi | ⟨b',hb',x',hx',hr',ho'⟩
   ·exact .inl hi
   ·have:b'=b:=hs.inj b' b r (by rw [hx'];simp) (by rw [hx];simp) ho' ho
    subst this
    rw [hx] at hx'
    obtain rfl:=Option.some.inj hx'
    exact .inr ⟨hb',hr'⟩
  have hI:∀ r,G.bB r→(G.dJ h l).bB r:=fun _ h=>.inl h
  have hk:∀ r,G.bB r→w.heap[r]?=w.heap[r]?:=fun _ _=>rfl
  have hm:∀ b x,G.mu b=some x→(G.dJ h l).mu b=some x:=fun _ _ h=>h
  subst e
  cases hr with
  | box hmu hown hbl hf hle hc hi hB=>
   have e:∀ cs,(if b∈l then jk (.box cs) else .box cs:B)=.box cs:=fun cs=>by split<;>rfl
   rw [e]
   refine .box hmu hown hbl hf hle (fun k s hk'=>let ⟨v,hv,hsv⟩:=hc k s hk';⟨v,hv,hsv.mono hI hk hm⟩) (fun h'=>?_) hB
   rcases only _ hown h' with h1 | h1
   ·exact hi h1
   ·cases h1.2
  | fO hmu hown hbl hf hle hn hc hi hB=>
   by_cases m:b∈l
   ·rw [if_pos m]
    exact .fO hmu hown hbl hf hle hn (fun k s hk'=>let ⟨v,hv,hsv⟩:=hc k s hk';⟨v,hv,hsv.mono hI hk hm⟩) (fun h=>by cases h) hB
   ·rw [if_neg m]
    refine .fO hmu hown hbl hf hle hn (fun k s hk'=>let ⟨v,hv,hsv⟩:=hc k s hk';⟨v,hv,hsv.mono hI hk hm⟩) (fun e h'=>?_) hB
    rcases only _ hown h' with h1 | h1
    ·exact hi e h1
    ·exact m h1.1
  | row hmu hown hbl hf hcap hle hc hlen hi hB=>
   by_cases m:b∈l
   ·rw [if_pos m]
    exact .row hmu hown hbl hf hcap hle (fun i k t hk'=>let ⟨v,hv,hsv⟩:=hc i k t hk';⟨v,hv,hsv.mono hI hk⟩) hlen (fun h=>by cases h) hB
   ·rw [if_neg m]
    refine .row hmu hown hbl hf hcap hle (fun i k t hk'=>let ⟨v,hv,hsv⟩:=hc i k t hk';⟨v,hv,hsv.mono hI hk⟩) hlen (fun e h'=>?_) hB
    rcases only _ hown h' with h1 | h1
    ·exact hi e h1
    ·exact m h1.1
  | mp hmu hown hbl hc hi hB hw=>
   by_cases m:b∈l
   ·rw [if_pos m]
    exact .mp hmu hown hbl (hc.mono hI hk hm) (fun h=>by cases h) hB hw
   ·rw [if_neg m]
    refine .mp hmu hown hbl (hc.mono hI hk hm) (fun e h'=>?_) hB hw
    rcases only _ hown h' with h1 | h1
    ·exact hi e h1
    ·exact m h1.1
  | none hmu hown=>
   by_cases m:b∈l
   ·rw [if_pos m];exact .none hmu hown
   ·rw [if_neg m];exact .none hmu hown
 ·have ne:∀ b3,(h.freeze l).get b3≠none→h.get b3≠none:=fun b3 h3 e=>h3 (by rw [getf,e];rfl)
  exact hs.inj b1 b2 q (ne b1 h1) (ne b2 h2) h3 h4
 ·have hb':h.next≤b:=by rw [(cA l h b).2] at hb;exact hb
  exact ⟨(hs.lo b hb').1,by rw [getf,(hs.lo b hb').2];rfl⟩
 ·rw [getf,hn];rfl
 ·rw [(cA l h 0).2];exact Nat.le_refl _
 ·rcases hq with hq | ⟨b,_,x,hx,_,ho⟩
  ·exact .inl hq
  ·exact .inr ((hs.rep b x hx).ge ho)
def TL (w:World) (I:Nat→Prop) (ts:List T) (vs:List Value):Prop:=ts.length=vs.length∧∀ (k:Nat) (t:T) (v:Value),ts[k]?=some t→vs[k]?=some v→dH w I t v
theorem TL.nil {I:Nat→Prop}:TL w I [] []:=⟨rfl,fun k t v h=>by simp at h⟩
theorem TL.cons {I:Nat→Prop} {t:T} {v:Value} {ts:List T} {vs:List Value} (h:dH w I t v) (r:TL w I ts vs):TL w I (t::ts) (v::vs):=
 ⟨by simp [r.1],fun k t' v' h1 h2=>by
  cases k with
  | zero=>simp at h1 h2;subst h1;subst h2;exact h
  | succ k=>simp at h1 h2;exact r.2 k t' v' h1 h2⟩
theorem TL.mono {w':World} {I I':Nat→Prop} {ts:List T} {vs:List Value} (h:TL w I ts vs) (hI:∀ r,I r→I' r) (hk:∀ r,I r→w'.heap[r]?=w.heap[r]?):TL w' I' ts vs:=⟨h.1,fun k t v h1 h2=>(h.2 k t v h1 h2).mono hI hk⟩
theorem kO {I:Nat→Prop} {t:T} {v:Value} (h:dH w I t v):v.oneCell'=true:=by
 cases h with
 | v _ ho=>exact ho
 | rows=>rfl
 | fr=>rfl
theorem DX {b r sz n cap:Nat} {get:Fin n→List T} {c:Array Value} {ty:TypeId} {fz:Nat × Nat} {I:Nat→Prop} (hI:∀ r,G.bB r→I r) (hr:I r) (hbl:w.heap[r]?=some (.cells c ty fz)) (hcap:n≤cap) (hc:pP G w c sz n get) (hlen:∀ i,(get i).length=sz):
  dH w I (.rows sz n get) (.slice (some ⟨r,0,none⟩) n cap):=by
 refine .rows sz n get _ cap (fun i k=>(c[i.1*sz+k]?).getD undef) hcap hlen (fun _=>⟨r,0,rfl,hr,fun i k t hk=>?_⟩) (fun i k t hk=>?_)
 ·obtain ⟨v,hv,_⟩:=hc i k t hk
  rw [Nat.zero_add,eB hbl,hv];rfl
 ·obtain ⟨v,hv,ht⟩:=hc i k t hk
  rw [hv]
  exact ht.mono hI (fun _ _=>rfl)
theorem Mk {b r sz n cap:Nat} {get:Fin n→List T} {c:Array Value} {ty:TypeId} {fz:Nat × Nat} {I:Nat→Prop} (hI:∀ r,G.bB r→I r) (hr:I r) (hB:dq.n≤r) (hbl:w.heap[r]?=some (.cells c ty fz)) (hf:kZ c fz) (hcap:n≤cap) (hc:pP G w c sz n get) (hlen:∀ i,(get i).length=sz):
  dH w I (.fr sz n get) (.slice (some ⟨r,0,none⟩) n cap):=by
 refine .fr sz n get _ cap (fun i k=>(c[i.1*sz+k]?).getD undef) hcap hlen (fun _=>⟨r,0,c,ty,fz,rfl,hr,hB,hbl,hf,fun i k t hk=>?_⟩) (fun i k t hk=>?_)
 ·obtain ⟨v,hv,_⟩:=hc i k t hk
  rw [Nat.zero_add,hv];rfl
 ·obtain ⟨v,hv,ht⟩:=hc i k t hk
  rw [hv]
  exact ht.mono hI (fun _ _=>rfl)
theorem lD {α:Type} {ts:List α} {sz i k:Nat} {t:α} (h:((ts.drop (i*sz)).take sz)[k]?=some t):ts[i*sz+k]?=some t∧k < sz:=by
 rw [List.getElem?_take] at h
 split at h
 ·rename_i hk;rw [List.getElem?_drop] at h;exact ⟨h,hk⟩
 ·cases h
mutual
theorem Kq (hs:cR B0 w0 G h w) {get:Nat→Option B} (hg:∀ b x,get b=some x→h.get b=some x):∀ (d:Nat) (s:S) (v:Value) (t:T) (l:List Nat),toT get d s=some (t,l)→aY G w s v→dH w (G.dJ h l).bB t v
 | 0,s,v,t,l,ht,_=>by simp [toT] at ht
 | d+1,s,v,t,l,ht,hr=>by
  unfold toT at ht
  split at ht<;>first | (cases ht;done) | skip
  ·rename_i x he
   cases he
   simp only [Option.some.injEq,Prod.mk.injEq] at ht
   obtain ⟨rfl,rfl⟩:=ht
   cases hr with | t hr=>exact hr.mono (fun _ h=>.inl h) (fun _ _=>rfl)
  ·rename_i sz n g he
   cases he
   simp only [Option.some.injEq,Prod.mk.injEq] at ht
   obtain ⟨rfl,rfl⟩:=ht
   cases hr with | full hr=>exact hr.mono (fun _ h=>.inl h) (fun _ _=>rfl)
  ·rename_i sz n g he
   cases he
   simp only [Option.some.injEq,Prod.mk.injEq] at ht
   obtain ⟨rfl,rfl⟩:=ht
   cases hr with | top hr=>exact (hr.mono (fun _ h=>.inl h) (fun _ _=>rfl)).fr
  ·rename_i d' b n0 he
   cases he
   cases hr with | sl hmu hbase=>
   split at ht
   ·rename_i fz sz n g hb
    simp only [Option.some.injEq,Prod.mk.injEq] at ht
    obtain ⟨rfl,rfl⟩:=ht
    have hrep:=hs.rep b _ (hg _ _ hb)
    cases hrep with
    | row hmu' hown hbl hf hcap hle hc hlen hi hB=>
     rw [hmu] at hmu'
     simp only [Option.some.injEq,Value.slice.injEq] at hmu'
     obtain ⟨rfl,rfl,rfl⟩:=hmu'
     exact Mk (b:=b) (fun _ h=>.inl h) (.inr ⟨b,by simp,_,hg _ _ hb,rfl,hown⟩) (Nat.le_trans hs.bs hB) hbl hf hcap hc hlen
    | none hmu' hown=>
     rw [hmu] at hmu'
     simp only [Option.some.injEq,Value.slice.injEq] at hmu'
     obtain ⟨rfl,rfl,rfl⟩:=hmu'
     exact .fr sz 0 _ _ 0 (fun i=>absurd i.2 (Nat.not_lt_zero _)) (Nat.le_refl _) (fun i=>absurd i.2 (Nat.not_lt_zero _)) (fun h=>absurd rfl h) (fun i=>absurd i.2 (Nat.not_lt_zero _))
   ·rename_i fz sz n cs hb
    split at ht
    ·rename_i ts l' hts
     simp only [Option.some.injEq,Prod.mk.injEq] at ht
     obtain ⟨rfl,rfl⟩:=ht
     have hrep:=hs.rep b _ (hg _ _ hb)
     cases hrep with
     | fO hmu' hown hbl hf hle hn hc hi hB=>
      rw [hmu] at hmu'
      simp only [Option.some.injEq,Value.slice.injEq] at hmu'
      obtain ⟨rfl,rfl,rfl⟩:=hmu'
      rename_i r c ty fz'
      have hl:bD G w cs c.toList:=⟨by simpa using hle.symm,fun k s v h1 h2=>by
       obtain ⟨u,hu,hs'⟩:=hc k s h1
       rw [Array.getElem?_toList] at h2
       rw [hu] at h2
       obtain rfl:=Option.some.inj h2
       exact hs'⟩
      have:=mO hs hg d cs c.toList ts l' hts hl
      have hlen:=this.1.trans (hl.1.symm.trans hn)
      refine .rows sz _ _ _ _ (fun i k=>(c[i.1*sz+k]?).getD undef) (Nat.le_refl _) (fun i=>?_) (fun _=>⟨r,0,rfl,.inr ⟨b,by simp,_,hg _ _ hb,rfl,hown⟩,fun i k t hk=>?_⟩) (fun i k t hk=>?_)
      ·rw [List.length_take,List.length_drop,hlen]
       have:=i.2
       have:=Nat.mul_le_mul_right sz this
       rw [Nat.succ_eq_add_one,Nat.succ_mul] at this
       omega
      ·obtain ⟨h1,h2⟩:=lD hk
       have hlt:=(List.getElem?_eq_some_iff.1 h1).1
       rw [this.1,Array.length_toList] at hlt
       rw [Nat.zero_add,eB hbl]
       simp [hlt]
      ·obtain ⟨h1,h2⟩:=lD hk
       have hlt:=(List.getElem?_eq_some_iff.1 h1).1
       rw [this.1,Array.length_toList] at hlt
       have hv:c[i.1*sz+k]?=some c[i.1*sz+k]:=by simp [hlt]
       rw [hv]
       exact (this.2 _ t _ h1 (by simp)).mono (fun _ hi=>qS (fun b hb=>by simp [hb]) hi) (fun _ _=>rfl)
    ·cases ht
   ·cases ht
theorem mO (hs:cR B0 w0 G h w) {get:Nat→Option B} (hg:∀ b x,get b=some x→h.get b=some x):∀ (d:Nat) (cs:List S) (vs:List Value) (ts:List T) (l:List Nat),tJ get d cs=some (ts,l)→bD G w cs vs→TL w (G.dJ h l).bB ts vs
 | 0,cs,vs,ts,l,ht,_=>by simp [tJ] at ht
 | d+1,[],vs,ts,l,ht,hr=>by
  simp only [tJ,Option.some.injEq,Prod.mk.injEq] at ht
  obtain ⟨rfl,rfl⟩:=ht
  obtain rfl:vs=[]:=List.length_eq_zero_iff.1 hr.1.symm
  exact .nil
 | d+1,c::cs,vs,ts,l,ht,hr=>by
  obtain ⟨v,r,rfl,hv,hrest⟩:=hr.dK
  simp only [tJ] at ht
  split at ht
  ·rename_i x l1 h1
   split at ht
   ·rename_i xs l2 h2
    simp only [Option.some.injEq,Prod.mk.injEq] at ht
    obtain ⟨rfl,rfl⟩:=ht
    exact .cons ((Kq hs hg d c v x l1 h1 hv).mono (fun _ hi=>qS (fun b hb=>by simp [hb]) hi) (fun _ _=>rfl)) ((mO hs hg d cs r xs l2 h2 hrest).mono (fun _ hi=>qS (fun b hb=>by simp [hb]) hi) (fun _ _=>rfl))
   ·cases ht
  ·cases ht
end
end
section
variable [dq] {P:Program} {G:Gh} {w w0:World} {nt B0:Nat} {fr:Fr} {a:Act} {h:Heap}
theorem tA:∀ (xs cs:List T) (o:Nat),(rS cs o xs).length=cs.length
 | [],_,_=>rfl
 | x::r,cs,o=>by simp only [rS];rw [tA r];simp
theorem zS:∀ (xs cs:List T) (o k:Nat),k < o→(rS cs o xs)[k]?=cs[k]?
 | [],_,_,_,_=>rfl
 | x::r,cs,o,k,hk=>by
  simp only [rS]
  rw [zS r _ (o+1) k (by omega),List.getElem?_set_ne (by omega)]
theorem Lq:∀ (xs cs:List T) (o k:Nat),o+xs.length≤k→(rS cs o xs)[k]?=cs[k]?
 | [],_,_,_,_=>rfl
 | x::r,cs,o,k,hk=>by
  simp only [rS]
  simp only [List.length_cons] at hk
  rw [Lq r _ (o+1) k (by omega),List.getElem?_set_ne (by omega)]
theorem KV:∀ (xs cs:List T) (o j:Nat),o+xs.length≤cs.length→j < xs.length→(rS cs o xs)[o+j]?=xs[j]?
 | [],_,_,_,_,hj=>by simp at hj
 | x::r,cs,o,0,hl,hj=>by
  simp only [rS]
  rw [zS r _ (o+1) (o+0) (by omega)]
  simp only [List.length_cons] at hl
  rw [Nat.add_zero,List.getElem?_set_self (by omega)]
  rfl
 | x::r,cs,o,j+1,hl,hj=>by
  simp only [rS]
  simp only [List.length_cons] at hl hj
  have:=KV r (cs.set o x) (o+1) j (by simp;omega) (by omega)
  rw [show o+(j+1)=o+1+j by omega,this]
  rfl
theorem MF {s:S} {v:Value} (ho:Vc s=true) (h:aY G w s v):v.oneCell'=true:=by
 cases h with
 | t h=>exact kO h
 | un=>cases ho
 | agg=>cases ho
 | bJ=>cases ho
 | ud=>cases ho
 | _=>rfl
theorem dZ {cs:List S} {c:Array Value} (hl:c.size=cs.length) (hc:nf G w c cs):bD G w cs c.toList:=
 ⟨by simpa using hl.symm,fun k s v h1 h2=>by
  obtain ⟨u,hu,hs'⟩:=hc k s h1
  rw [Array.getElem?_toList,hu] at h2
  obtain rfl:=Option.some.inj h2
  exact hs'⟩
theorem toList_eq {c:Array Value} {l:List Value} (h:c.toList=l):c=l.toArray:=Array.ext' (by simpa using h)
theorem nA {c c':Array Value} {fz:Nat × Nat} (h:kZ c fz) (hs:c'.size=c.size):kZ c' fz:=by unfold kZ at *;rw [hs];exact h
theorem gm {r o:Nat} {c:Array Value} {ty:TypeId} {fz:Nat × Nat} (hbl:w.heap[r]?=some (.cells c ty fz)) (hf:kZ c fz) {us:List Value} (ho:o+us.length≤c.size) (h1:∀ u∈us,u.oneCell'=true):
  ∃ w' c',(storeCells ⟨r,o,none⟩ us).run P w=.ok () w'∧w'.heap[r]?=some (.cells c' ty fz)∧c'.toList=oo c.toList o us∧c'.size=c.size∧(∀ k,k≠r→w'.heap[k]?=w.heap[k]?)∧w'.heap.size=w.heap.size∧w'.os=w.os∧w'.tape=w.tape∧w'.output=w.output:=by
 have hst:=run_storeCells_cells (P:=P) r o us 0 w (fun j hj=>(lk hbl hf (k:=o+0+j) (by omega)).1) (fun j hj=>(lk hbl hf (k:=o+0+j) (by omega)).2) h1
 obtain ⟨c',e1,e2,e3,e4,e5,e6,e7⟩:=jB r us o w c ty fz hbl
 exact ⟨_,c',hst,e1,e2,by rw [← Array.length_toList,e2,tY,Array.length_toList],e3,e4,e5,e6,e7⟩
theorem Hp (hs:cR B0 w0 G h w) {t:TypeId} {p x:S} {vp vx:Value} {h':Heap} (hp:aY G w p vp) (hx:aY G w x vx) (hst:tV P h t p x=some h') (id:Nat):
  ∃ w' G',(Instr.storeAt t vp vx).run P w=.ok () w'∧cR B0 w0 G' h' w'∧Nx B0 id G h w G' h' w':=by
 unfold tV at hst
 cases e0:!(P.info? t).isSome || !kY x || !((bf x).length.beq (P.cellsOf t)) || !((bf x).all Vc) with
 | true=>rw [e0] at hst;cases hst
 | false=>
  rw [e0,cond_false] at hst
  simp only [Bool.or_eq_false_iff,Bool.not_eq_false'] at e0
  obtain ⟨⟨⟨e1,e2⟩,e3⟩,e4⟩:=e0
  obtain ⟨ie,hie⟩:=Option.isSome_iff_exists.1 e1
  have hl:=lQ hx e2
  have hlen:vx.cells.size=P.cellsOf t:=by
   have h1:=Nat.eq_of_beq_eq_true e3
   have:=hl.1
   rw [h1] at this;simpa using this.symm
  have hone:∀ u∈vx.cells.toList,u.oneCell'=true:=fun u hu=>by
   obtain ⟨k,hk,rfl⟩:=List.mem_iff_getElem.1 hu
   have hk':k < (bf x).length:=by rw [hl.1];exact hk
   exact MF (List.all_eq_true.1 e4 _ (List.getElem_mem hk')) (hl.2 k _ _ (List.getElem?_eq_getElem hk') (List.getElem?_eq_getElem hk))
  have hus:vx.cells.toList.length=(bf x).length:=hl.1.symm
  have run:∀ {r o:Nat} {w':World},vp=.pointer (some ⟨r,o,none⟩)→(storeCells ⟨r,o,none⟩ vx.cells.toList).run P w=.ok () w'→(Instr.storeAt t vp vx).run P w=.ok () w':=by
   intro r o w' hv hrun
   rw [hv]
   simp only [Instr.storeAt,Instr.sureAddr,Sem.run_bind,Sem.run_pure,Result.andThen_ok,storeVar,run_sizeOf w hie,hlen,ne_eq,not_true_eq_false,if_false,hrun]
  split at hst
  ·rename_i b o
   cases hp with | ptr hmu=>
   split at hst
   ·rename_i cs hb
    cases e5:(o+(bf x).length).ble cs.length with
    | false=>rw [e5] at hst;cases hst
    | true=>
     rw [e5,cond_true] at hst
     obtain rfl:=Option.some.inj hst
     have hrep:=hs.rep b _ hb
     cases hrep with | box hmu' hown hbl hf hle hc hi hB=>
     rw [hmu] at hmu'
     simp only [Option.some.injEq,Value.pointer.injEq,Addr.mk.injEq,and_true] at hmu'
     subst hmu'
     have hle2:=Nat.le_of_ble_eq_true e5
     obtain ⟨w',c',hrun,hb',hc',hsz',hk,hsz,hos,hta,hou⟩:=gm (P:=P) (o:=o) (us:=vx.cells.toList) hbl hf (by rw [hus,hle];exact hle2) hone
     have hrep':bD G w (setFrom cs o (bf x)) c'.toList:=by
      rw [hc'];exact lE _ _ _ _ o (dZ hle hc) hl
     have hkeep:∀ q,G.bB q→w'.heap[q]?=w.heap[q]?:=fun q hq=>hk q (fun e=>hi (e ▸ hq))
     obtain ⟨s1,s2⟩:=hs.write hb hown hi hB hk hsz hos hta hou (x':=.box (setFrom cs o (bf x)))
      (.box hmu hown hb' (nA hf hsz') (by have:=hrep'.1;simpa using this.symm) (dY (hrep'.mono (fun _ h=>h) hkeep (fun _ _ h=>h))) hi hB) id
     exact ⟨w',G,run rfl hrun,s1,s2⟩
   ·cases hst
  ·rename_i b z i o
   cases hp with | ep hmu=>
   split at hst
   ·rename_i sz n cs hb
    cases e5:z.beq sz && decide (i < n) && (o+(bf x).length).ble sz && (i*sz+sz).ble cs.length with
    | false=>rw [e5] at hst;cases hst
    | true=>
     rw [e5,cond_true] at hst
     obtain rfl:=Option.some.inj hst
     simp only [Bool.and_eq_true,decide_eq_true_eq] at e5
     obtain rfl:z=sz:=Nat.eq_of_beq_eq_true e5.1.1.1
     have h1:=Nat.le_of_ble_eq_true e5.1.2
     have h2:=Nat.le_of_ble_eq_true e5.2
     have hrep:=hs.rep b _ hb
     cases hrep with | fO hmu' hown hbl hf hle hn hc hi hB=>
     rw [hmu] at hmu'
     simp only [Option.some.injEq,Value.slice.injEq,Addr.mk.injEq,and_true] at hmu'
     obtain ⟨rfl,rfl,rfl⟩:=hmu'
     obtain ⟨w',c',hrun,hb',hc',hsz',hk,hsz,hos,hta,hou⟩:=gm (P:=P) (o:=i*z+o) (us:=vx.cells.toList) hbl hf (by rw [hus,hle];omega) hone
     have hrep':bD G w (setFrom cs (i*z+o) (bf x)) c'.toList:=by
      rw [hc'];exact lE _ _ _ _ _ (dZ hle hc) hl
     have hi':=hi rfl
     have hkeep:∀ q,G.bB q→w'.heap[q]?=w.heap[q]?:=fun q hq=>hk q (fun e=>hi' (e ▸ hq))
     have hle':c'.size=(setFrom cs (i*z+o) (bf x)).length:=by have:=hrep'.1;simpa using this.symm
     obtain ⟨s1,s2⟩:=hs.write hb hown hi' hB hk hsz hos hta hou
      (.fO hmu hown hb' (nA hf hsz') hle' (by rw [← hle',hsz',hle,hn]) (dY (hrep'.mono (fun _ h=>h) hkeep (fun _ _ h=>h))) hi hB) id
     exact ⟨w',G,run rfl hrun,s1,s2⟩
   ·rename_i sz n g hb
    cases e5:z.beq sz && decide (i < n) && (o+(bf x).length).ble sz with
    | false=>rw [e5] at hst;cases hst
    | true=>
     rw [e5,cond_true] at hst
     simp only [Bool.and_eq_true,decide_eq_true_eq] at e5
     obtain rfl:z=sz:=Nat.eq_of_beq_eq_true e5.1.1
     have h1:=Nat.le_of_ble_eq_true e5.2
     have hin:=e5.1.2
     split at hst
     ·rename_i ts l hts
      cases e6:l.contains b with
      | true=>rw [e6] at hst;cases hst
      | false=>
       rw [e6,cond_false] at hst
       obtain rfl:=Option.some.inj hst
       have hnl:b∉l:=by simpa using e6
       have htl:=mO hs (fun _ _ h=>h) bZ _ _ ts l hts hl
       obtain ⟨f1,f2⟩:=hs.freeze l id
       have hb2:(h.freeze l).get b=some (.row false z n g):=by rw [(cA l h b).1,hb];simp [hnl]
       have hrep:=f1.rep b _ hb2
       cases hrep with
       | none=>omega
       | row hmu' hown hbl hf hcap hle hc hlen2 hi hB=>
       have hmuG:G.mu b=_:=hmu'
       rw [hmu] at hmuG
       simp only [Option.some.injEq,Value.slice.injEq,Addr.mk.injEq,and_true] at hmuG
       obtain ⟨rfl,rfl,rfl⟩:=hmuG
       rename_i r n cap x1 x2 c ty fz
       have hiz:i*z+z≤n*z:=by
        have:=Nat.mul_le_mul_right z hin
        rw [Nat.succ_eq_add_one,Nat.succ_mul] at this;exact this
       have hnz:=Nat.mul_le_mul_right z hcap
       obtain ⟨w',c',hrun,hb',hc',hsz',hk,hsz,hos,hta,hou⟩:=gm (P:=P) (o:=i*z+o) (us:=vx.cells.toList) hbl hf (by rw [hus];omega) hone
       have hi':=hi rfl
       have hkeep:∀ q,(G.dJ h l).bB q→w'.heap[q]?=w.heap[q]?:=fun q hq=>hk q (fun e=>hi' (e ▸ hq))
       have htslen:ts.length=(bf x).length:=by rw [htl.1,hus]
       obtain ⟨s1,s2⟩:=f1.write hb2 hown hi' hB hk hsz hos hta hou (x':=.row false z n (fun j=>bif j.1.beq i then rS (g j) o ts else g j))
        (.row hmu' hown hb' (nA hf hsz') hcap (by rw [hsz'];exact hle) (fun j k t hjk=>by
         have hget:∀ q,c'[q]?=(oo c.toList (i*z+o) vx.cells.toList)[q]?:=fun q=>by rw [← hc',Array.getElem?_toList]
         have old:∀ (t:T),(g j)[k]?=some t→(j.1*z+k < i*z+o∨i*z+o+vx.cells.toList.length≤j.1*z+k)→∃ v,c'[j.1*z+k]?=some v∧dH w' (G.dJ h l).bB t v:=by
          intro t ht hout
          obtain ⟨v,hv,hr⟩:=hc j k t ht
          refine ⟨v,?_,hr.mono (fun _ h=>h) hkeep⟩
          rw [hget]
          rcases hout with hout | hout
          ·rw [sa _ _ _ _ hout,Array.getElem?_toList];exact hv
          ·rw [Kj _ _ _ _ hout,Array.getElem?_toList];exact hv
         by_cases hji:j.1=i
         ·have hbe:j.1.beq i=true:=by rw [hji];exact Nat.beq_refl i
          simp only [hbe,cond_true] at hjk
          have hkz:k < z:=by have:=(List.getElem?_eq_some_iff.1 hjk).1;rw [tA,hlen2] at this;exact this
          by_cases hko:k < o
          ·rw [zS _ _ _ _ hko] at hjk
           exact old t hjk (.inl (by rw [hji];omega))
          ·by_cases hkl:o+ts.length≤k
           ·rw [Lq _ _ _ _ hkl] at hjk
            exact old t hjk (.inr (by rw [hji,hus,← htslen];omega))
           ·have hj2:k=o+(k - o):=by omega
            rw [hj2,KV _ _ _ _ (by rw [hlen2,htslen];exact h1) (by omega)] at hjk
            have hul:k - o < vx.cells.toList.length:=by rw [hus,← htslen];omega
            refine ⟨vx.cells.toList[k - o],?_,(htl.2 (k - o) t _ hjk (List.getElem?_eq_getElem hul)).mono (fun _ h=>h) hkeep⟩
            rw [hget,show j.1*z+k=i*z+o+(k - o) by rw [hji];omega,sw _ _ _ _ (by have hcl:c.toList.length=c.size:=Array.length_toList;omega) hul]
            exact List.getElem?_eq_getElem hul
         ·have hbe:j.1.beq i=false:=by
           cases e:j.1.beq i with
           | false=>rfl
           | true=>exact absurd (Nat.eq_of_beq_eq_true e) hji
          simp only [hbe,cond_false] at hjk
          have hkz:k < z:=by have:=(List.getElem?_eq_some_iff.1 hjk).1;rw [hlen2] at this;exact this
          refine old t hjk ?_
          rw [hus]
          rcases Nat.lt_or_gt_of_ne hji with hlt | hgt
          ·left
           have:=Nat.mul_le_mul_right z hlt
           rw [Nat.succ_eq_add_one,Nat.succ_mul] at this
           omega
          ·right
           have:=Nat.mul_le_mul_right z hgt
           rw [Nat.succ_eq_add_one,Nat.succ_mul] at this
           omega) (fun j=>by cases e:j.1.beq i<;>simp [e,tA,hlen2]) hi hB) id
       exact ⟨w',_,run rfl hrun,s1,f2.trans s2⟩
     ·cases hst
   ·cases hst
  ·cases hst
end
section
variable [dq] {P:Program} {G:Gh} {w w0:World} {nt B0:Nat} {fr:Fr} {a:Act} {h:Heap}
def xN (w:World) (I:Nat→Prop) (r o sz n:Nat) (g:Fin n→List T):Prop:=
 ∀ (i:Fin n) (k:Nat) (t:T),(g i)[k]?=some t→∃ v,w.cell? ⟨r,o+i.1*sz+k,none⟩=some v∧dH w I t v
def eX (w:World) (I:Nat→Prop) (l:List Value) (sz n:Nat) (g:Fin n→List T):Prop:=
 l.length=n*sz∧(∀ i,(g i).length=sz)∧(∀ v∈l,v.oneCell'=true)∧∀ (i:Fin n) (k:Nat) (t:T),(g i)[k]?=some t→∃ v,l[i.1*sz+k]?=some v∧dH w I t v
theorem eX.mono {w':World} {I I':Nat→Prop} {l:List Value} {sz n:Nat} {g:Fin n→List T} (h:eX w I l sz n g) (hI:∀ r,I r→I' r) (hk:∀ r,I r→w'.heap[r]?=w.heap[r]?):eX w' I' l sz n g:=
 ⟨h.1,h.2.1,h.2.2.1,fun i k t ht=>let ⟨v,hv,hr⟩:=h.2.2.2 i k t ht;⟨v,hv,hr.mono hI hk⟩⟩
theorem tC {I:Nat→Prop} {r o sz n:Nat} {g:Fin n→List T} (hz:sz≠0) (hl:∀ i,(g i).length=sz) (h:xN w I r o sz n g):
  ∃ l,eX w I l sz n g∧∀ j v,l[j]?=some v→w.cell? ⟨r,o+j,none⟩=some v:=by
 have hv:∀ q,q < n*sz→∃ v,w.cell? ⟨r,o+q,none⟩=some v∧v.oneCell'=true:=by
  intro q hq
  have hi:q / sz < n:=Nat.div_lt_of_lt_mul (by rw [Nat.mul_comm];exact hq)
  have hk:q % sz < sz:=Nat.mod_lt _ (by omega)
  obtain ⟨v,hc,ht⟩:=h ⟨q / sz,hi⟩ (q % sz) _ (List.getElem?_eq_getElem (by rw [hl];exact hk))
  refine ⟨v,?_,kO ht⟩
  rw [← hc]
  congr 2
  have:=Nat.div_add_mod q sz
  rw [Nat.mul_comm] at this
  simp only
  omega
 have hget:∀ j,j < n*sz→((List.range (n*sz)).map fun q=>(w.cell? ⟨r,o+q,none⟩).getD undef)[j]?=w.cell? ⟨r,o+j,none⟩:=by
  intro j hj
  obtain ⟨v,hv,_⟩:=hv j hj
  rw [List.getElem?_map,List.getElem?_range hj,Option.map_some,hv]
  rfl
 refine ⟨(List.range (n*sz)).map fun q=>(w.cell? ⟨r,o+q,none⟩).getD undef,⟨by simp,hl,fun v hm=>?_,fun i k t ht=>?_⟩,fun j v hj=>?_⟩
 ·obtain ⟨q,hq,rfl⟩:=List.mem_map.1 hm
  obtain ⟨v,hv,ho⟩:=hv q (List.mem_range.1 hq)
  rw [hv];exact ho
 ·obtain ⟨v,hc,hr⟩:=h i k t ht
  have hk:k < sz:=by have:=(List.getElem?_eq_some_iff.1 ht).1;rwa [hl] at this
  have hq:i.1*sz+k < n*sz:=by
   have:=Nat.mul_le_mul_right sz i.2
   rw [Nat.succ_eq_add_one,Nat.succ_mul] at this;omega
  refine ⟨v,?_,hr⟩
  rw [hget _ hq,← Nat.add_assoc];exact hc
 ·have hlt:j < n*sz:=by have:=(List.getElem?_eq_some_iff.1 hj).1;simpa using this
  rw [hget j hlt] at hj
  exact hj
def Yields (P:Program) (w:World) (I:Nat→Prop) (v:Value) (sz n cap:Nat) (g:Fin n→List T):Prop:=
 ∃ base l,v=.slice base n cap∧eX w I l sz n g∧(∀ w',w'.heap=w.heap→(Builtin.firstCells sz n v).run P w'=.ok l.toArray w')∧(n≠0→∃ r o,base=some ⟨r,o,none⟩)
theorem ny {I:Nat→Prop} {sz n cap r o:Nat} {g:Fin n→List T} (hz:sz≠0) (hl:∀ i,(g i).length=sz) (h:xN w I r o sz n g):Yields P w I (.slice (some ⟨r,o,none⟩) n cap) sz n cap g:=by
 obtain ⟨l,h1,h2⟩:=tC hz hl h
 refine ⟨_,l,rfl,h1,fun w' hw=>?_,fun _=>⟨r,o,rfl⟩⟩
 refine run_firstCells_some w' sz n ⟨r,o,none⟩ n cap l h1.1 (fun j v hj=>?_)
 rw [addr_add]
 have:=h2 j v hj
 rwa [← cell_of_heap (w:=w) (w':=w') (a:=⟨r,o+j,none⟩) (by rw [hw])] at this
theorem iV {I:Nat→Prop} {sz cap:Nat} {g:Fin 0→List T} (base:Option Addr):Yields P w I (.slice base 0 cap) sz 0 cap g:=by
 refine ⟨base,[],rfl,⟨by simp,fun i=>absurd i.2 (Nat.not_lt_zero _),(fun v h=>by cases h),fun i=>absurd i.2 (Nat.not_lt_zero _)⟩,fun w' _=>?_,fun h=>absurd rfl h⟩
 cases base with
 | none=>exact run_firstCells_none w' sz 0 0 cap
 | some a=>exact run_firstCells_some w' sz 0 a 0 cap [] (by simp) (fun j v hj=>by simp at hj)
theorem mX {I:Nat→Prop} {sz n:Nat} {g:Fin n→List T} {v:Value} (hz:sz≠0) (h:dH w I (.rows sz n g) v):∃ cap,Yields P w I v sz n cap g∧n≤cap:=by
 cases h with
 | rows _ _ _ base cap vs hcap hlen hb hc=>
  refine ⟨cap,?_,hcap⟩
  by_cases hn:n=0
  ·subst hn;exact iV base
  ·obtain ⟨r,o,rfl,_,hcell⟩:=hb hn
   exact ny hz hlen (fun i k t ht=>⟨_,hcell i k t ht,hc i k t ht⟩)
theorem Yields.mono {w':World} {I I':Nat→Prop} {v:Value} {sz n cap:Nat} {g:Fin n→List T} (h:Yields P w I v sz n cap g) (hI:∀ r,I r→I' r) (hw:w'.heap=w.heap):Yields P w' I' v sz n cap g:=by
 obtain ⟨base,l,e,h1,h2,h3⟩:=h
 exact ⟨base,l,e,h1.mono hI (fun _ _=>by rw [hw]),fun w2 h=>h2 w2 (h.trans hw),h3⟩
theorem Yields.src {I:Nat→Prop} {v:Value} {sz n cap:Nat} {g:Fin n→List T} {tx e':TypeId} (hk:P.underlying tx=some (.slice e')) (h:Yields P w I v sz n cap g):∃ l,Src P sz tx v n l w∧eX w I l sz n g:=by
 obtain ⟨base,l,rfl,h1,h2,h3⟩:=h
 exact ⟨l,⟨.inl ⟨e',hk⟩,fun _=>rfl,h2 w rfl,h2 w.drew rfl,h1.1,h1.2.2.1⟩,h1⟩
theorem lP {sz n m:Nat} {g:Fin n→List T} {g':Fin m→List T} (h:∀ i,(g i).length=sz) (h':∀ i,(g' i).length=sz) (i:Fin (n+m)):(bo g g' i).length=sz:=by
 unfold bo;split
 ·exact h _
 ·exact h' _
theorem eX.app {I:Nat→Prop} {l l':List Value} {sz n m:Nat} {g:Fin n→List T} {g':Fin m→List T} (h:eX w I l sz n g) (h':eX w I l' sz m g'):eX w I (l++l') sz (n+m) (bo g g'):=by
 refine ⟨by rw [List.length_append,h.1,h'.1,Nat.add_mul],lP h.2.1 h'.2.1,fun v hv=>?_,fun i k t ht=>?_⟩
 ·rcases List.mem_append.1 hv with hv | hv
  ·exact h.2.2.1 v hv
  ·exact h'.2.2.1 v hv
 ·have hk:k < sz:=by have:=(List.getElem?_eq_some_iff.1 ht).1;rwa [lP h.2.1 h'.2.1] at this
  unfold bo at ht
  split at ht
  ·rename_i hi
   obtain ⟨v,hv,hr⟩:=h.2.2.2 ⟨i.1,hi⟩ k t ht
   exact ⟨v,by rw [List.getElem?_append_left (List.getElem?_eq_some_iff.1 hv).1];exact hv,hr⟩
  ·rename_i hi
   obtain ⟨v,hv,hr⟩:=h'.2.2.2 ⟨i.1 - n,by have:=i.2;omega⟩ k t ht
   refine ⟨v,?_,hr⟩
   have e:i.1*sz=n*sz+(i.1 - n)*sz:=by rw [← Nat.add_mul];congr 1;omega
   rw [e,List.getElem?_append_right (by rw [h.1];omega),h.1,show n*sz+(i.1 - n)*sz+k - n*sz=(i.1 - n)*sz+k by omega]
   exact hv
theorem eX.row {I:Nat→Prop} {c:Array Value} {l:List Value} {sz n:Nat} {g:Fin n→List T} (hI:I=G.bB) (h:eX w I l sz n g) (hc:∀ (j:Nat) (v:Value),l[j]?=some v→c[j]?=some v):pP G w c sz n g:=fun i k t ht=>by
 obtain ⟨v,hv,hr⟩:=h.2.2.2 i k t ht
 exact ⟨v,hc _ _ hv,hI ▸ hr⟩
theorem cR.drew (hs:cR B0 w0 G h w):cR B0 w0 G h w.drew:=
 ⟨hs.below.drew,hs.bB,fun b x hb=>(hs.rep b x hb).mono (fun _ h=>h) (fun _ _ h=>h) (fun _ _=>rfl) (fun _ _ h=>h) rfl (fun _ _=>rfl),hs.inj,hs.lo,hs.b0,hs.gP,hs.bs⟩
theorem cR.del (hs:cR B0 w0 G h w) (b id:Nat):cR B0 w0 G (h.del b) w∧Nx B0 id G h w G (h.del b) w:=by
 refine ⟨⟨hs.below,hs.bB,fun c x hc=>?_,fun b1 b2 q h1 h2 h3 h4=>?_,fun c hc=>⟨(hs.lo c hc).1,?_⟩,hs.b0,hs.gP,hs.bs⟩,⟨fun _ h=>h,fun _ _=>rfl,fun _ _ _=>rfl,fun c _ _ hn=>?_,Nat.le_refl _,fun _ h=>.inl h,db.refl w⟩⟩
 ·rw [lM] at hc
  split at hc
  ·cases hc
  ·exact hs.rep c x hc
 ·have ne:∀ c,(h.del b).get c≠none→h.get c≠none:=fun c hc e=>hc (by rw [lM];split<;>simp [e])
  exact hs.inj b1 b2 q (ne b1 h1) (ne b2 h2) h3 h4
 ·rw [lM];split
  ·rfl
  ·exact (hs.lo c hc).2
 ·rw [lM];split
  ·rfl
  ·exact hn
theorem cR.renew (hs:cR B0 w0 G h w) {id:Nat} (hlt:id < h.next) (hid:G.mu id=none) (hh:h.get id=none) {v:Value} {or:Option Nat} (hno:∀ b r,h.get b≠none→G.own b=some r→or≠some r) (hni:∀ r,or=some r→¬ G.bB r∧B0≤r∧∀ o,w.heap[r]?=some o→CS o=false)
  {w':World} (hk:∀ k,or≠some k→w'.heap[k]?=w.heap[k]?) (hsz:w'.heap.size=w.heap.size) (hos:w'.os=w.os) (htape:w'.tape=w.tape) (hout:w'.output=w.output) {x:B}
  (hx:jG (G.with id v or) B0 w' id x):cR B0 w0 (G.with id v or) (h.put id x) w'∧Nx B0 id G h w (G.with id v or) (h.put id x) w':=by
 have hm:=G.yO id v or hid
 have hkeep:∀ q,G.bB q→w'.heap[q]?=w.heap[q]?:=fun q hq=>hk q (fun e=>(hni q e).1 hq)
 have hbe:Below B0 w w':=⟨hos,htape,hout,by omega,fun k hk'=>hk k (fun e=>by have:=(hni k e).2.1;omega)⟩
 have oth:∀ b,b≠id→(G.with id v or).own b=G.own b:=fun b hb=>by show (if _ then _ else _)=_;rw [if_neg hb]
 have own1:(G.with id v or).own id=or:=by show (if _ then _ else _)=_;rw [if_pos rfl]
 refine ⟨⟨hs.below.trans hbe,fun q hq=>by rw [hsz];exact hs.bB q hq,fun b y hb=>?_,fun b1 b2 q h1 h2 h3 h4=>?_,fun b hb=>?_,by rw [hsz];exact hs.b0,hs.gP.mono hkeep,hs.bs⟩,⟨fun _ h=>h,hkeep,fun b hb _=>?_,fun b hb _ hn=>?_,Nat.le_refl _,fun _ h=>.inl h,fun k o hk1 hl=>(hk k (fun e=>by have hq:=(hni k e).2.2 o hk1;rw [hq] at hl;cases hl)).trans hk1⟩⟩
 ·rw [cN] at hb
  split at hb
  ·rename_i e
   subst e
   obtain rfl:=Option.some.inj hb
   exact hx
  ·rename_i e
   refine (hs.rep b y hb).mono (fun _ h=>h) (fun _ _ h=>h) hkeep hm (oth b (fun e'=>e e'.symm)) (fun q hq=>hk q (hno b q (by rw [hb];simp) hq))
 ·have ow:∀ b r,(h.put id x).get b≠none→(G.with id v or).own b=some r→(b=id∧or=some r)∨(b≠id∧h.get b≠none∧G.own b=some r):=by
   intro b r hb ho
   by_cases e:b=id
   ·subst e;rw [own1] at ho;exact .inl ⟨rfl,ho⟩
   ·rw [cN,if_neg (fun e'=>e e'.symm)] at hb
    rw [oth b e] at ho
    exact .inr ⟨e,hb,ho⟩
  rcases ow b1 q h1 h3 with ⟨rfl,e1⟩ | ⟨n1,a1,o1⟩<;>rcases ow b2 q h2 h4 with ⟨rfl,e2⟩ | ⟨n2,a2,o2⟩
  ·rfl
  ·exact absurd e1 (hno b2 q a2 o2)
  ·exact absurd e2 (hno b1 q a1 o1)
  ·exact hs.inj b1 b2 q a1 a2 o1 o2
 ·have hb':h.next≤b:=hb
  have hne:b≠id:=by omega
  refine ⟨?_,?_⟩
  ·show (if _ then _ else _)=_
   rw [if_neg hne];exact (hs.lo b hb').1
  ·rw [cN,if_neg (fun e=>hne e.symm)];exact (hs.lo b hb').2
 ·show (if _ then _ else _)=_
  rw [if_neg hb]
 ·rw [cN,if_neg (fun e=>hb e.symm)];exact hn
end
section
variable [dq] {P:Program} {G:Gh} {w w0:World} {nt B0:Nat} {fr:Fr} {a:Act} {h:Heap}
theorem gH {e:TypeId} (h:lC P e=true):∃ i z,P.info? e=some i∧i.zero=some z∧P.cellsOf e≠0∧z.cells.size=P.cellsOf e∧i.size=P.cellsOf e∧i.bytes=P.bytesOf e:=by
 unfold lC at h
 split at h
 ·rename_i z hz
  obtain ⟨i,v,hi,hv,rfl⟩:=gD hz
  simp only [Bool.and_eq_true,Bool.not_eq_true'] at h
  have h1:=Nat.eq_of_beq_eq_true h.1.2
  have hr:=lx (G:=⟨fun _=>none,fun _=>none,fun _=>False⟩) (w:=default) h.2
  have h2:P.cellsOf e≠0:=fun h0=>by
   have:=h.1.1
   rw [h0] at this
   cases this
  refine ⟨i,v,hi,hv,h2,?_,(lT hi).symm,by simp [Program.bytesOf,hi]⟩
  have:=hr.1
  rw [h1] at this;simpa using this.symm
 ·cases h
theorem uu (z:Array Value) (n:Nat):(Builtin.zeroCells z n).size=n*z.size:=by simp [Builtin.zeroCells]
theorem jZ (hs:cR B0 w0 G h w) {id:Nat} (hlt:id < h.next) (hid:G.mu id=none) (hh:h.get id=none) {t u e e' ty:TypeId} (ht:P.underlying t=some (.slice e)) (hu:P.underlying u=some (.slice e')) (hok:lC P e=true)
  {vx vy:Value} {n m cap capy:Nat} {g:Fin n→List T} {g':Fin m→List T} (hx:Yields P w G.bB vx (P.cellsOf e) n cap g) (hy:Yields P w G.bB vy (P.cellsOf e) m capy g') (hcap:cap < n+m) (hb:(n+m)*P.bytesOf e≤bE) (hn:n+m≤bE):
  ∃ v w',(Builtin.append_ #[t,u] ty #[vx,vy]).run P w=.ok v w'∧im B0 w0 id G h w (.sl id (n+m)) (h.put id (.row false (P.cellsOf e) (n+m) (bo g g'))) v w':=by
 obtain ⟨i,z,hi,hz,hne,hzs,his,hib⟩:=gH hok
 obtain ⟨l',hsrc,hl'⟩:=hy.src hu
 obtain ⟨base,l,rfl,hl,hfc,_⟩:=hx
 rw [← his] at hsrc
 have hfit:Builtin.nextslicecap (n+m) cap*i.bytes≤281474976710656:=by
  refine Nat.le_trans (Nat.mul_le_mul_right _ (nextslicecap_le hcap)) ?_
  rw [hib,Nat.mul_assoc]
  unfold bE at hb
  omega
 have hrun:=run_append_grow_src w t u ty e i z ht hi hz base n cap l (by rw [his];exact hfc w.drew rfl) vy m l' hsrc hcap (by unfold bE at hn;omega) hfit
 refine ⟨_,_,hrun,?_⟩
 have hge:=grownCap_ge w (n+m) cap e
 have happ:=hl.app hl'
 have hs':=hs.drew
 obtain ⟨s1,s2⟩:=hs'.alloc hlt hid hh (c:=(l++l').toArray++Builtin.zeroCells z.cells (grownCap w (n+m) cap e - (n+m))) (ty:=e) (x:=.row false (P.cellsOf e) (n+m) (bo g g')) (v:=.slice (some ⟨w.heap.size,0,none⟩) (n+m) (grownCap w (n+m) cap e)) (fun G' w' hm hI hk hmu hown hb=>by
  refine .row hmu hown hb (.inl (Nat.le_refl _)) hge ?_ ?_ happ.2.1 (fun _ hi=>?_) hs.b0
  ·simp only [Array.size_append,List.size_toArray,happ.1,uu,hzs]
   rw [← Nat.add_mul]
   exact Nat.mul_le_mul_right _ (by omega)
  ·refine (happ.mono (fun _ h=>h) hk).row hI.symm (fun j v hj=>?_)
   rw [Array.getElem?_append_left (by simpa using (List.getElem?_eq_some_iff.1 hj).1)]
   simpa using hj
  ·rw [hI] at hi
   have:=hs.bB _ hi
   omega)
 exact ⟨_,s1,⟨s2.bB,s2.bO,s2.mu,s2.r_,s2.next,s2.old,s2.ld⟩,.sl (by show (if _ then _ else _)=_;rw [if_pos rfl]) (fun _=>⟨_,rfl⟩)⟩
theorem rO (hs:cR B0 w0 G h w) {id:Nat} (hlt:id < h.next) (hid:G.mu id=none) (hh:h.get id=none) {t u e e' ty:TypeId} (ht:P.underlying t=some (.slice e)) (hu:P.underlying u=some (.slice e')) (hok:lC P e=true)
  {base:Option Addr} {vy:Value} {capy:Nat} {g':Fin 0→List T} (hy:Yields P w G.bB vy (P.cellsOf e) 0 capy g') {g2:Fin 0→List T}:
  (Builtin.append_ #[t,u] ty #[.slice base 0 0,vy]).run P w=.ok (.slice base 0 0) w∧im B0 w0 id G h w (.sl id 0) (h.put id (.row false (P.cellsOf e) 0 g2)) (.slice base 0 0) w:=by
 obtain ⟨i,z,hi,hz,hne,hzs,his,hib⟩:=gH hok
 obtain ⟨l',hsrc,hl'⟩:=hy.src hu
 obtain rfl:l'=[]:=List.length_eq_zero_iff.1 (by rw [hl'.1];simp)
 rw [← his] at hsrc
 refine ⟨run_append_nothing w t u ty e i ht hi base 0 0 (Nat.le_refl _) vy hsrc,?_⟩
 obtain ⟨s1,s2⟩:=hs.renew hlt hid hh (v:=.slice base 0 0) (or:=none) (fun _ _ _ _=>by simp) (fun _ h=>by cases h) (w':=w) (fun _ _=>rfl) rfl rfl rfl rfl (x:=.row false (P.cellsOf e) 0 g2)
  (.none (by show (if _ then _ else _)=_;rw [if_pos rfl]) (by show (if _ then _ else _)=_;rw [if_pos rfl]))
 exact ⟨_,s1,s2,.sl (by show (if _ then _ else _)=_;rw [if_pos rfl]) (fun h=>absurd rfl h)⟩
theorem Ce (hs:cR B0 w0 G h w) {id:Nat} (hlt:id < h.next) (hid:G.mu id=none) (hh:h.get id=none) {t u e e' ty:TypeId} (ht:P.underlying t=some (.slice e)) (hu:P.underlying u=some (.slice e')) (hok:lC P e=true)
  {r n m cap capy:Nat} {g:Fin n→List T} {g':Fin m→List T} {vy:Value} {c:Array Value} {tc:TypeId} {fz:Nat × Nat} (hno:∀ b,h.get b≠none→G.own b≠some r) (hni:¬ G.bB r) (hB:B0≤r)
  (hbl:w.heap[r]?=some (.cells c tc fz)) (hf:kZ c fz) (hl:cap*P.cellsOf e≤c.size) (hc:pP G w c (P.cellsOf e) n g) (hlen:∀ i,(g i).length=P.cellsOf e) (hy:Yields P w G.bB vy (P.cellsOf e) m capy g') (hcap:n+m≤cap):
  ∃ v w',(Builtin.append_ #[t,u] ty #[.slice (some ⟨r,0,none⟩) n cap,vy]).run P w=.ok v w'∧im B0 w0 id G h w (.sl id (n+m)) (h.put id (.row false (P.cellsOf e) (n+m) (bo g g'))) v w':=by
 obtain ⟨i,z,hi,hz,hne,hzs,his,hib⟩:=gH hok
 obtain ⟨l',hsrc,hl'⟩:=hy.src hu
 rw [← his] at hsrc
 have hsz:n*P.cellsOf e+l'.length≤c.size:=by
  rw [hl'.1,← Nat.add_mul]
  exact Nat.le_trans (Nat.mul_le_mul_right _ hcap) hl
 have hrun:=run_append_room_src w t u ty e i ht hi r 0 n cap vy m l' hsrc hcap (fun j hj=>by rw [his];exact (lk hbl hf (k:=0+n*P.cellsOf e+j) (by omega)).1) (fun j hj=>by rw [his];exact (lk hbl hf (k:=0+n*P.cellsOf e+j) (by omega)).2)
 rw [his,Nat.zero_add] at hrun
 obtain ⟨c',e1,e2,e3,e4,e5,e6,e7⟩:=jB r l' (n*P.cellsOf e) w c tc fz hbl
 have hcs:c'.size=c.size:=by rw [← Array.length_toList,e2,tY,Array.length_toList]
 have hget:∀ q,c'[q]?=(oo c.toList (n*P.cellsOf e) l')[q]?:=fun q=>by rw [← e2,Array.getElem?_toList]
 refine ⟨_,_,hrun,?_⟩
 have hkeep:∀ q,G.bB q→(w.setCells r (n*P.cellsOf e) l').heap[q]?=w.heap[q]?:=fun q hq=>e3 q (fun eq=>hni (eq ▸ hq))
 have hcl:c.toList.length=c.size:=Array.length_toList
 obtain ⟨s1,s2⟩:=hs.renew hlt hid hh (v:=.slice (some ⟨r,0,none⟩) (n+m) cap) (or:=some r) (fun b q hb ho e=>hno b hb (by rw [ho];exact e.symm)) (fun q hq=>by obtain rfl:=Option.some.inj hq;exact ⟨hni,hB,fun o ho=>by rw [hbl] at ho;obtain rfl:=Option.some.inj ho;rfl⟩)
  (fun k hk=>e3 k (fun e=>hk (by rw [e]))) e4 e5 e6 e7 (x:=.row false (P.cellsOf e) (n+m) (bo g g'))
  (.row (by show (if _ then _ else _)=_;rw [if_pos rfl]) (by show (if _ then _ else _)=_;rw [if_pos rfl]) e1 (nA hf hcs) hcap (by rw [hcs];exact hl) (fun j k q hq=>by
   have hk:k < P.cellsOf e:=by have:=(List.getElem?_eq_some_iff.1 hq).1;rwa [lP hlen hl'.2.1] at this
   unfold bo at hq
   split at hq
   ·rename_i hj
    obtain ⟨v,hv,hr⟩:=hc ⟨j.1,hj⟩ k q hq
    refine ⟨v,?_,hr.mono (fun _ h=>h) hkeep⟩
    have hlt2:=Nat.mul_le_mul_right (P.cellsOf e) hj
    rw [Nat.succ_eq_add_one,Nat.succ_mul] at hlt2
    rw [hget,sa _ _ _ _ (by omega),Array.getElem?_toList]
    exact hv
   ·rename_i hj
    obtain ⟨v,hv,hr⟩:=hl'.2.2.2 ⟨j.1 - n,by have:=j.2;omega⟩ k q hq
    refine ⟨v,?_,hr.mono (fun _ h=>h) hkeep⟩
    have hlt3:=(List.getElem?_eq_some_iff.1 hv).1
    have eqm:j.1*P.cellsOf e=n*P.cellsOf e+(j.1 - n)*P.cellsOf e:=by rw [← Nat.add_mul];congr 1;omega
    rw [hget,eqm,Nat.add_assoc,sw _ _ _ _ (by omega) hlt3]
    exact hv) (lP hlen hl'.2.1) (fun _=>hni) hB)
 exact ⟨_,s1,s2,.sl (by show (if _ then _ else _)=_;rw [if_pos rfl]) (fun _=>⟨r,rfl⟩)⟩
end
end Go.Proofs.YtonkoellfaopiaaGreatDoor.H
