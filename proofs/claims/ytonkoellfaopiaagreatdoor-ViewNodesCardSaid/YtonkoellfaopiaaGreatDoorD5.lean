import Derived.Test.YtonkoellfaopiaaGreatDoorD4
import Derived.LoopNIn
import Derived.OrdersIn
import Derived.LoopN
set_option linter.unusedSimpArgs false
set_option linter.unusedVariables false
set_option linter.unusedSectionVars false
namespace Go.Proofs.YtonkoellfaopiaaGreatDoor.H
open Go Go.RowKit
section
variable [dq] {P:Program} {G:Gh} {w w0:World} {nt B0:Nat} {fr:Fr} {a:Act} {h:Heap}
theorem wK {α:Type} (x:α):∀ (k:List Bool) (t:Tr α),t.l_ k=some x→Tr.jn (some x) k t=t
 | [],.leaf,h=>by cases h
 | [],.node v l r,h=>by simp only [Tr.l_] at h;simp [Tr.jn,h]
 | b::bs,.leaf,h=>by cases h
 | b::bs,.node v l r,h=>by
  cases b<;>simp only [Tr.l_,Tr.jn,cond_true,cond_false] at h ⊢<;>rw [wK x bs _ h]
theorem CD {α:Type} {t:Tr α} {i:Nat} {x:α} (h:t.get i=some x):t.set i (some x)=t:=wK x _ _ h
theorem jQ {ops:Array Oper} {o:Oper} {p:Bool} {fr':Fr} (h:cM ops fr o=some (p,fr')):fr'=fr:=by
 unfold cM at h
 split at h
 ·simp only [Option.some.injEq,Prod.mk.injEq] at h;exact h.2.symm
 ·split at h
  ·rename_i d hd
   split at h
   ·rename_i b hb
    cases b<;>simp only [cond_true,cond_false,Option.some.injEq,Prod.mk.injEq] at h
    ·rw [← h.2];exact CD hb
    ·rw [← h.2];exact CD hb
   ·simp only [Option.some.injEq,Prod.mk.injEq] at h;exact h.2.symm
   ·simp only [Option.some.injEq,Prod.mk.injEq] at h;exact h.2.symm
   ·cases h
  ·cases h
theorem pv {ops:Array Oper} {o:Oper} {p:Bool} {fr':Fr} (hf:cV nt G w fr a) (h:cM ops fr o=some (p,fr')):Region.wanted o (yielded ops a.tmps)=p:=by
 unfold cM at h
 unfold Region.wanted
 split at h
 ·rename_i hg
  rw [hg]
  simp only [Option.some.injEq,Prod.mk.injEq] at h;exact h.1
 ·rename_i j want hg
  rw [hg]
  simp only
  split at h
  ·rename_i d hd
   have y:yielded ops a.tmps j=(match a.tmps[d]? with | some (.bool b)=>some b | _=>none):=by
    unfold yielded;rw [hd];rfl
   rw [y]
   split at h
   ·rename_i b hb
    obtain ⟨v,hv,hs⟩:=hf.rep d _ hb
    obtain ⟨rfl,_⟩:=a_ hs
    rw [hv]
    cases b<;>simp only [cond_true,cond_false,Option.some.injEq,Prod.mk.injEq] at h<;>rw [← h.1]<;>cases want<;>rfl
   ·rename_i x hx hb
    obtain ⟨v,hv,hs⟩:=hf.rep d _ hb
    obtain ⟨rfl,_⟩:=a_ hs
    rw [hv]
    simp only [Option.some.injEq,Prod.mk.injEq] at h
    rw [← h.1]
    cases v<;>first | rfl | (exact absurd rfl (hx _))
   ·rename_i hb
    obtain ⟨v,hv,hs⟩:=hf.rep d _ hb
    cases hs
    rw [hv]
    simp only [Option.some.injEq,Prod.mk.injEq] at h
    rw [← h.1]
    rfl
   ·cases h
  ·cases h
structure D9 (B0 base:Nat) (G:Gh) (h:Heap) (w:World) (G':Gh) (h':Heap) (w':World):Prop where
 bB:∀ r,G.bB r→G'.bB r
 bO:∀ r,G.bB r→w'.heap[r]?=w.heap[r]?
 mu:∀ b,b < base→G'.mu b=G.mu b
 r_:∀ b,b < base→h.get b=none→h'.get b=none
 next:h.next≤h'.next
 old:∀ q,G'.bB q→G.bB q∨B0≤q
 ld:db w w'
theorem D9.refl (B0 base:Nat) (G:Gh) (h:Heap) (w:World):D9 B0 base G h w G h w:=⟨fun _ h=>h,fun _ _=>rfl,fun _ _=>rfl,fun _ _ h=>h,Nat.le_refl _,fun _ h=>.inl h,db.refl w⟩
theorem D9.trans {B0 base:Nat} {G G1 G2:Gh} {h h1 h2:Heap} {w w1 w2:World} (x:D9 B0 base G h w G1 h1 w1) (y:D9 B0 base G1 h1 w1 G2 h2 w2):D9 B0 base G h w G2 h2 w2:=
 ⟨fun r hr=>y.bB r (x.bB r hr),fun r hr=>(y.bO r (x.bB r hr)).trans (x.bO r hr),fun b hb=>(y.mu b hb).trans (x.mu b hb),fun b hb hn=>y.r_ b hb (x.r_ b hb hn),Nat.le_trans x.next y.next,fun q h=>(y.old q h).elim (x.old q) .inr,x.ld.trans y.ld⟩
theorem Nx.region {id base:Nat} {G':Gh} {h':Heap} {w':World} (n:Nx B0 id G h w G' h' w') (hb:base≤id) (hb':base≤h.next):D9 B0 base G h w G' h' w':=
 ⟨n.bB,n.bO,fun b h1=>n.mu b (by omega) (by omega),fun b h1 h2=>n.r_ b (by omega) (by omega) h2,n.next,n.old,n.ld⟩
structure Mid (L B0:Nat) (w0:World) (nt base:Nat) (todo:Nat→Prop) (G:Gh) (st:St) (a:Act) (w:World):Prop where
 sim:cR B0 w0 G st.h w
 fr:cV nt G w st.fr a
 free:∀ i,todo i→base+i < st.h.next∧G.mu (base+i)=none∧st.h.get (base+i)=none
 base:base≤st.h.next
 marks:vJ L w a.defers
def Jj (o:Oper):Prop:=∀ c,o.op≠.defer c
def tE (P:Program) (ops:Array Oper) (Q:Exit→Act→World→Prop) (i:Nat) (K:Act→World→Prop) (a:Act) (w:World):Prop:=
 match ops[i]? with
 | none=>K a w
 | some o=>if Region.wanted o (yielded ops a.tmps) then Jj o∧o.wp P a w K Q else K (a.put o.dst undef) w
def A0 (P:Program) (ops:Array Oper) (Q:Exit→Act→World→Prop):List Nat→Act→World→Prop
 | [],a,w=>Q .normal a w
 | i::l,a,w=>tE P ops Q i (A0 P ops Q l) a w
def Ip (P:Program) (ops:Array Oper) (Q:Exit→Act→World→Prop):Nat→Array Bool→Act→World→Prop
 | 0,listed,a,w=>Region.ready .any ops listed=[]∧Q .normal a w
 | fuel+1,listed,a,w=>
  (Region.ready .any ops listed=[]→Q .normal a w)∧
  ∀ i∈Region.ready .any ops listed,tE P ops Q i (Ip P ops Q fuel (listed.setIfInBounds i true)) a w
theorem yD {E:Env} {dr:Bool} {get:Nat→Option B} {id:Nat} {fr:Fr} {h:Heap} {op:Op} {x:S × Heap} (hx:bx E dr get id fr h op=some x):∀ c,op≠.defer c:=fun c e=>by
 subst e
 simp [bx,cp,bX] at hx
theorem bP {α:Type} {c:Bool} {x:Option α} {y:α} (h:(bif c then x else none)=some y):c=true∧x=some y:=by
 cases c with
 | true=>exact ⟨rfl,h⟩
 | false=>cases h
theorem put_defers {a:Act} {d:Option Tmp} {v:Value}:(a.put d v).defers=a.defers:=by cases d<;>rfl
theorem ri {V:World→Prop} {E:Env} (hE:kg V E) (hV:∀ w',Below B0 w0 w'→V w') {L:Nat} {dr:Bool} {ops:Array Oper} {base i:Nat} {st st':St} {todo:Nat→Prop} (hm:Mid L B0 w0 nt base todo G st a w) (hi:todo i) (hr:jL E nt dr ops base i st=some st')
  {K:Act→World→Prop} {Q:Exit→Act→World→Prop} (hK:∀ G' a' w',Mid L B0 w0 nt base (fun j=>todo j∧j≠i) G' st' a' w'→D9 B0 base G st.h w G' st'.h w'→K a' w'):tE E.P ops Q i K a w:=by
 unfold jL at hr
 unfold tE
 cases ho:ops[i]? with
 | none=>rw [ho] at hr;cases hr
 | some o=>
  rw [ho] at hr
  simp only at hr ⊢
  split at hr
  ·rename_i fr' hw
   obtain rfl:=jQ hw
   rw [pv hm.fr hw,if_pos rfl]
   obtain ⟨_,hr⟩:=bP hr
   split at hr
   ·rename_i s h' hst
    obtain ⟨fr2,hp,rfl⟩:=Option.map_eq_some_iff.1 hr
    obtain ⟨f1,f2,f3⟩:=hm.free i hi
    refine ⟨yD hst,?_⟩
    refine Bq hE hV hm.sim hm.fr (fun b x hb=>?_) f1 f2 f3 hst (fun v w' ⟨G',q1,q2,q3⟩=>hK G' _ w' ⟨q1,?_,fun j hj=>?_,Nat.le_trans hm.base q2.next,put_defers.symm ▸ hm.marks.mono q2.ld⟩ (q2.region (by omega) hm.base))
    ·cases e:b.blt base || allowed o (b - base) with
     | true=>rw [e] at hb;exact hb
     | false=>rw [e] at hb;cases hb
    ·exact (hm.fr.mono (fun s v hs=>q2.ajk hm.sim f2 hs)).put hp q3
    ·obtain ⟨g1,g2,g3⟩:=hm.free j hj.1
     have hne:base+j≠base+i:=by have:=hj.2;omega
     exact ⟨Nat.lt_of_lt_of_le g1 q2.next,(q2.mu _ hne g1).trans g2,q2.r_ _ hne g1 g3⟩
   ·cases hr
  ·rename_i fr' hw
   obtain rfl:=jQ hw
   rw [pv hm.fr hw]
   obtain ⟨fr2,hp,rfl⟩:=Option.map_eq_some_iff.1 hr
   simp only [Bool.false_eq_true,if_false]
   exact hK G _ w ⟨hm.sim,hm.fr.put hp .ud,fun j hj=>hm.free j hj.1,hm.base,put_defers.symm ▸ hm.marks⟩ (D9.refl _ _ _ _ _)
  ·cases hr
theorem py {L:Nat} {V:World→Prop} {E:Env} (hE:kg V E) (hV:∀ w',Below B0 w0 w'→V w') {dr:Bool} {ops:Array Oper} {base:Nat} {Q:Exit→Act→World→Prop} {stf:St} {G0:Gh} {h0:Heap} {wb:World} (hQ:∀ G' a' w',cR B0 w0 G' stf.h w'→cV nt G' w' stf.fr a'→D9 B0 base G0 h0 wb G' stf.h w'→vJ L w' a'.defers→Q .normal a' w'):
  ∀ (l:List Nat) (st:St) (G:Gh) (a:Act) (w:World),l.Nodup→Mid L B0 w0 nt base (·∈l) G st a w→D9 B0 base G0 h0 wb G st.h w→gi E nt dr ops base l st=some stf→A0 E.P ops Q l a w
 | [],st,G,a,w,_,hm,hx,hr=>by
  obtain rfl:=Option.some.inj hr
  exact hQ G a w hm.sim hm.fr hx hm.marks
 | i::l,st,G,a,w,hnd,hm,hx,hr=>by
  obtain ⟨st1,h1,h2⟩:=Option.bind_eq_some_iff.1 hr
  show tE E.P ops Q i (A0 E.P ops Q l) a w
  refine ri hE hV hm (by simp) h1 (fun G' a' w' hm' hx'=>py hE hV hQ l st1 G' a' w' (List.nodup_cons.1 hnd).2 ⟨hm'.sim,hm'.fr,fun j hj=>hm'.free j ⟨by simp [hj],fun e=>(List.nodup_cons.1 hnd).1 (e ▸ hj)⟩,hm'.base,hm'.marks⟩ (hx.trans hx') h2)
end
section
variable [dq] {P:Program} {G:Gh} {w w0:World} {nt B0:Nat} {fr:Fr} {a:Act} {h:Heap}
theorem map_congr {fr fr':Fr} {xs:List Operand} (h:∀ x∈xs,ev fr x=ev fr' x):xs.map (ev fr)=xs.map (ev fr'):=List.map_congr_left h
theorem lp {fr fr':Fr} {x:Option Operand} (h:∀ y∈x.toArray,ev fr y=ev fr' y):iC fr x=iC fr' x:=by
 cases x with
 | none=>rfl
 | some y=>simp only [iC];rw [h y (by simp)]
theorem Ac {K:TypeId→Option (List Nat)} {fr fr':Fr} {op:Op} (h:∀ x∈op.operands,ev fr x=ev fr' x):bX P K fr op=bX P K fr' op:=by
 cases op with
 | build t parts=>
  simp only [bX]
  congr 1
  refine List.map_congr_left (fun p hp=>?_)
  rw [h p.2 (by simp only [Op.operands,List.mem_toArray];exact List.mem_map.2 ⟨p,hp,rfl⟩)]
 | makeFunc f first cap=>
  simp only [bX]
  rw [map_congr (xs:=first.toList) (fun x hx=>h x (by simp only [Op.operands,Array.mem_append];exact .inl (by simpa using hx))),map_congr (xs:=cap.toList) (fun x hx=>h x (by simp only [Op.operands,Array.mem_append];exact .inr (by simpa using hx)))]
 | slice t x lo hi mx=>
  simp only [bX]
  simp only [Op.operands,Array.mem_append] at h
  rw [h x (.inl (.inl (.inl (by simp)))),lp (x:=lo) (fun y hy=>h y (.inl (.inl (.inr hy)))),lp (x:=hi) (fun y hy=>h y (.inl (.inr hy))),lp (x:=mx) (fun y hy=>h y (.inr hy))]
 | call c=>
  obtain ⟨callee,args,argTypes⟩:=c
  cases callee with
  | value f=>rfl
  | invoke r m=>rfl
  | builtin b=>
   have:args.toList.map (ev fr)=args.toList.map (ev fr'):=map_congr (fun x hx=>h x (by simp [Op.operands,Call.operands];simpa using hx))
   cases b<;>simp only [bX,this]
 | move x=>simp only [bX,h x (by simp [Op.operands])]
 | assign x=>simp only [bX,h x (by simp [Op.operands])]
 | pick c x y=>simp only [bX,h c (by simp [Op.operands]),h x (by simp [Op.operands]),h y (by simp [Op.operands])]
 | nilCheck x=>simp only [bX,h x (by simp [Op.operands])]
 | binOp op t x y yt=>simp only [bX,h x (by simp [Op.operands]),h y (by simp [Op.operands])]
 | unOp op t x=>simp only [bX,h x (by simp [Op.operands])]
 | fieldAddr t x f=>simp only [bX,h x (by simp [Op.operands])]
 | field t x f=>simp only [bX,h x (by simp [Op.operands])]
 | index t x i=>simp only [bX,h x (by simp [Op.operands]),h i (by simp [Op.operands])]
 | indexAddr t x i=>simp only [bX,h x (by simp [Op.operands]),h i (by simp [Op.operands])]
 | extract x i=>simp only [bX,h x (by simp [Op.operands])]
 | _=>rfl
theorem nO {fr fr':Fr} {f:Operand} {az:List S} (h:ev fr f=ev fr' f):fX fr f az=fX fr' f az:=by unfold fX;rw [h]
theorem pM {E:Env} {get:Nat→Option B} {fr fr':Fr} {op:Op} (h:∀ x∈op.operands,ev fr x=ev fr' x):cb E get fr op=cb E get fr' op:=by
 cases op with
 | load t x=>simp only [cb,h x (by simp [Op.operands])]
 | convert s d x=>simp only [cb,h x (by simp [Op.operands])]
 | lookup t x k ok=>simp only [cb,h x (by simp [Op.operands]),h k (by simp [Op.operands])]
 | range t x=>simp only [cb,h x (by simp [Op.operands])]
 | next x s=>cases s<;>simp only [cb,h x (by simp [Op.operands])]
 | call c=>
  obtain ⟨callee,args,argTypes⟩:=c
  cases callee with
  | builtin b=>rfl
  | invoke r m=>rfl
  | value f=>
   simp only [cb]
   rw [map_congr (fr:=fr) (fr':=fr') (xs:=args.toList) (fun x hx=>h x (by simp [Op.operands,Call.operands];exact .inr (by simpa using hx))),nO (h f (by simp [Op.operands,Call.operands]))]
 | _=>rfl
theorem CW {id:Nat} {fr fr':Fr} {op:Op} (h:∀ x∈op.operands,ev fr x=ev fr' x):lS P fr id op=lS P fr' id op:=by
 cases op with
 | box t x=>simp only [lS,h x (by simp [Op.operands])]
 | makeMap t r=>
  cases r with
  | none=>rfl
  | some x=>simp only [lS,h x (by simp [Op.operands])]
 | buildSlice t n parts=>
  simp only [lS]
  have:(parts.toList.map fun p=>(p.1,ev fr p.2))=(parts.toList.map fun p=>(p.1,ev fr' p.2)):=
   List.map_congr_left (fun p hp=>by rw [h p.2 (by simp only [Op.operands,List.mem_toArray];exact List.mem_map.2 ⟨p,hp,rfl⟩)])
  rw [this]
 | _=>rfl
theorem vN {E:Env} {id:Nat} {fr fr':Fr} {op:Op} (h:∀ x∈op.operands,ev fr x=ev fr' x) (hp:Heap):cf E hp id fr op=cf E hp id fr' op:=by
 cases op with
 | store t x y=>simp only [cf,h x (by simp [Op.operands]),h y (by simp [Op.operands])]
 | mapUpdate t m k v=>simp only [cf,h m (by simp [Op.operands]),h k (by simp [Op.operands]),h v (by simp [Op.operands])]
 | call c=>
  obtain ⟨callee,args,argTypes⟩:=c
  cases callee with
  | builtin b=>
   have:args.toList.map (ev fr)=args.toList.map (ev fr'):=map_congr (fun x hx=>h x (by simp [Op.operands,Call.operands];simpa using hx))
   cases b<;>simp only [cf,this]
  | invoke r m=>rfl
  | value f=>
   simp only [cf]
   rw [map_congr (fr:=fr) (fr':=fr') (xs:=args.toList) (fun x hx=>h x (by simp [Op.operands,Call.operands];exact .inr (by simpa using hx))),nO (h f (by simp [Op.operands,Call.operands]))]
 | _=>rfl
theorem pE {E:Env} {dr:Bool} {get:Nat→Option B} {id:Nat} {fr fr':Fr} {op:Op} (h:∀ x∈op.operands,ev fr x=ev fr' x) (hp:Heap):bx E dr get id fr hp op=bx E dr get id fr' hp op:=by
 unfold bx
 rw [Ac h,CW h,vN h,pM (get:=get) h]
 split<;>first | rfl | skip
 cases dr<;>simp only [cond_true,cond_false]
 rw [pM (get:=hp.get) h]
def vD (o:Oper) (base:Nat) (h:Heap):Nat→Option B:=fun b=>bif b.blt base || allowed o (b - base) then h.get b else none
theorem Uq (o:Oper) (base k:Nat) (hk:allowed o k=false) (h:Heap) (x:B):vD o base (h.put (base+k) x)=vD o base h:=by
 funext b
 unfold vD
 cases e:b.blt base || allowed o (b - base) with
 | false=>rfl
 | true=>
  simp only [cond_true]
  rw [cN,if_neg (fun e'=>?_)]
  subst e'
  rw [Nat.add_sub_cancel_left,hk,Bool.or_false,Nat.blt_eq] at e
  omega
def core (E:Env) (get:Nat→Option B) (id:Nat) (fr:Fr) (op:Op):Option (S × Option B):=
 match cp E.inl op with
 | .p=>(bX E.P E.K fr op).map fun s=>(s,none)
 | .r=>(cb E get fr op).map fun s=>(s,none)
 | .a=>(lS E.P fr id op).map fun p=>(p.1,some p.2)
 | .w=>none
def EB (h:Heap) (id:Nat):Option B→Heap
 | none=>h
 | some x=>h.put id x
theorem fC {E:Env} {get:Nat→Option B} {id:Nat} {fr:Fr} {h:Heap} {op:Op} (hc:cp E.inl op≠.w):bx E true get id fr h op=(core E get id fr op).map fun p=>(p.1,EB h id p.2):=by
 unfold bx core
 cases e:cp E.inl op with
 | p=>simp only [Option.map_map];rfl
 | r=>simp only [cond_true,Option.map_map];rfl
 | a=>simp only [Option.map_map];rfl
 | w=>exact absurd e hc
theorem Q6 {E:Env} {get get':Nat→Option B} {id:Nat} {fr:Fr} {op:Op} (hc:cp E.inl op=.p):core E get id fr op=core E get' id fr op:=by unfold core;rw [hc]
theorem rH {E:Env} {get:Nat→Option B} {id:Nat} {fr:Fr} {op:Op} {s:S} {x:Option B} (hc:cp E.inl op=.p) (h:core E get id fr op=some (s,x)):x=none:=by
 unfold core at h
 rw [hc] at h
 obtain ⟨_,_,e⟩:=Option.map_eq_some_iff.1 h
 simp only [Prod.mk.injEq] at e
 exact e.2.symm
theorem put_comm (h:Heap) {i j:Nat} (x y:B) (hne:i≠j):(h.put i x).put j y=(h.put j y).put i x:=by
 unfold Heap.put
 simp only
 rw [set_comm _ _ _ hne]
theorem Mc (h:Heap) {i j:Nat} (x y:Option B) (hne:i≠j):EB (EB h i x) j y=EB (EB h j y) i x:=by
 cases x<;>cases y<;>first | rfl | exact put_comm h _ _ hne
theorem Cp (o:Oper) (base k:Nat) (hk:allowed o k=false) (h:Heap) (x:Option B):vD o base (EB h (base+k) x)=vD o base h:=by
 cases x with
 | none=>rfl
 | some x=>exact Uq o base k hk h x
theorem LW {fr f1 f2:Fr} {dx dy:Option Tmp} {s t:S} (hne:∀ d,dx=some d→dy≠some d) (h1:jm nt fr dx s=some f1) (h2:jm nt f1 dy t=some f2):∃ f3,jm nt fr dy t=some f3∧jm nt f3 dx s=some f2:=by
 unfold jm at *
 cases dx with
 | none=>
  obtain rfl:=Option.some.inj h1
  exact ⟨f2,h2,rfl⟩
 | some d=>
  simp only at h1
  cases e:d.blt nt with
  | false=>rw [e] at h1;cases h1
  | true=>
   rw [e] at h1
   obtain rfl:=Option.some.inj h1
   cases dy with
   | none=>
    obtain rfl:=Option.some.inj h2
    exact ⟨fr,rfl,by simp [e]⟩
   | some d'=>
    simp only at h2
    cases e':d'.blt nt with
    | false=>rw [e'] at h2;cases h2
    | true=>
     rw [e'] at h2
     obtain rfl:=Option.some.inj h2
     refine ⟨fr.set d' (some t),by simp [e'],?_⟩
     simp only [e,cond_true,Option.some.injEq]
     exact set_comm _ _ _ (fun eq=>hne d rfl (by rw [eq]))
theorem Gk {fr f1:Fr} {dst:Option Tmp} {s:S} (h:jm nt fr dst s=some f1) {x:Operand} (hx:∀ d,dst=some d→x≠.tmp d):ev f1 x=ev fr x:=by
 unfold jm at h
 cases dst with
 | none=>obtain rfl:=Option.some.inj h;rfl
 | some d=>
  simp only at h
  cases e:d.blt nt with
  | false=>rw [e] at h;cases h
  | true=>
   rw [e] at h
   obtain rfl:=Option.some.inj h
   cases x with
   | tmp t=>
    have:d≠t:=fun eq=>hx d rfl (by rw [eq])
    simp only [ev]
    rw [jR _ _ this]
   | _=>rfl
theorem ue {fr f1:Fr} {dst:Option Tmp} {s:S} (h:jm nt fr dst s=some f1) {t:Nat} (hx:dst≠some t):f1.get t=fr.get t:=by
 unfold jm at h
 cases dst with
 | none=>obtain rfl:=Option.some.inj h;rfl
 | some d=>
  simp only at h
  cases e:d.blt nt with
  | false=>rw [e] at h;cases h
  | true=>
   rw [e] at h
   obtain rfl:=Option.some.inj h
   exact jR _ _ (fun eq=>hx (by rw [eq]))
theorem DB {ops:Array Oper} {fr f1:Fr} {dst:Option Tmp} {s:S} {o:Oper} {p:Bool} {fr':Fr} (h:jm nt fr dst s=some f1) (hd:∀ d,dst=some d→d∉o.looksAt ops):
  cM ops f1 o=some (p,fr')→cM ops fr o=some (p,fr):=by
 intro hw
 have key:∀ {d:Nat},(∀ j want,o.guard=some (j,want)→(ops[j]?).bind (·.dst)=some d→f1.get d=fr.get d):=by
  intro d j want hg hd'
  refine ue h (fun e=>?_)
  refine hd d e ?_
  unfold Oper.looksAt
  rw [hg]
  simp [hd']
 have gen:(cM ops f1 o).map (·.1)=(cM ops fr o).map (·.1):=by
  unfold cM
  split
  ·rfl
  ·rename_i j want hg
   split
   ·rename_i d hd'
    rw [key j want hg hd']
    split<;>first | rfl | (rename_i b _;cases b<;>rfl)
   ·rfl
 rw [hw] at gen
 cases e:cM ops fr o with
 | none=>rw [e] at gen;cases gen
 | some q=>
  obtain ⟨p2,f2⟩:=q
  rw [e] at gen
  simp only [Option.map_some,Option.some.injEq] at gen
  rw [gen,jQ e]
def Px (E:Env) (ops:Array Oper) (base:Nat) (i:Nat) (o:Oper) (fr:Fr) (h:Heap):Option (S × Heap):=
 match cM ops fr o with
 | some (true,_)=>bif jz ops i o fr then bx E true (vD o base h) (base+i) fr h o.op else none
 | some (false,_)=>some (.ud,h)
 | none=>none
theorem nB {E:Env} {ops:Array Oper} {base i:Nat} {st st':St} {o:Oper} (ho:ops[i]?=some o):jL E nt true ops base i st=some st'↔∃ s h f,Px E ops base i o st.fr st.h=some (s,h)∧jm nt st.fr o.dst s=some f∧st'=⟨f,h⟩:=by
 unfold jL Px
 rw [ho]
 simp only
 cases hw:cM ops st.fr o with
 | none=>simp
 | some q=>
  obtain ⟨p,f⟩:=q
  obtain rfl:=jQ hw
  cases p
  ·simp only
   constructor
   ·intro e
    obtain ⟨f,hf,rfl⟩:=Option.map_eq_some_iff.1 e
    exact ⟨_,_,f,rfl,hf,rfl⟩
   ·rintro ⟨s,h,f,e1,e2,rfl⟩
    simp only [Option.some.injEq,Prod.mk.injEq] at e1
    obtain ⟨rfl,rfl⟩:=e1
    rw [e2];rfl
  ·simp only
   show (bif !true || jz ops i o st.fr then (match bx E true (vD o base st.h) (base+i) st.fr st.h o.op with | some (s,h)=>(jm nt st.fr o.dst s).map fun fr=>(⟨fr,h⟩:St) | none=>none) else none)=some st'↔_
   simp only [Bool.not_true,Bool.false_or]
   cases jz ops i o st.fr with
   | false=>simp
   | true=>
   simp only [cond_true]
   cases e:bx E true (vD o base st.h) (base+i) st.fr st.h o.op with
   | none=>simp
   | some q=>
    obtain ⟨s,h⟩:=q
    simp only [Option.some.injEq,Prod.mk.injEq]
    constructor
    ·intro e'
     obtain ⟨f,hf,rfl⟩:=Option.map_eq_some_iff.1 e'
     exact ⟨s,h,f,⟨rfl,rfl⟩,hf,rfl⟩
    ·rintro ⟨s2,h2,f,⟨rfl,rfl⟩,e2,rfl⟩
     rw [e2];rfl
theorem kj {ops:Array Oper} {o:Oper} {x:Operand} (hx:x∈o.op.operands) {d:Tmp} (hd:d∉o.looksAt ops):x≠.tmp d:=fun e=>hd (by
 unfold Oper.looksAt
 refine List.mem_append_left _ (List.mem_filterMap.2 ⟨x,by simpa using hx,by rw [e]⟩))
def mq:Option B→Option B
 | some (.mp _ _)=>none
 | some (.fO _ sz n cs)=>some (.fO true sz n cs)
 | some (.row _ sz n g)=>some (.row true sz n g)
 | x=>x
theorem sU {P:Program} {t:TypeId} {x:S} (g:Nat→Option B):gT P g t x=gT P (fun b=>mq (g b)) t x:=by
 cases x with
 | ptr b o=>
  unfold gT
  dsimp only
  cases g b with
  | none=>rfl
  | some y=>cases y<;>rfl
 | ep b z i o=>
  unfold gT
  dsimp only
  cases g b with
  | none=>rfl
  | some y=>cases y<;>rfl
 | _=>rfl
theorem kh (b:Nat):∀ (l:List Nat) (h:Heap),mq ((h.freeze l).get b)=mq (h.get b)
 | [],h=>rfl
 | c::l,h=>by
  unfold Heap.freeze
  cases hc:h.get c with
  | none=>exact kh b l h
  | some x=>
   dsimp only
   rw [kh b l,cN]
   by_cases e:c=b
   ·subst e
    rw [if_pos rfl,hc]
    cases x<;>rfl
   ·rw [if_neg e]
theorem Sk {P:Program} {K:TypeId→Option (List Nat)} {h h':Heap} {t:TypeId} {m k v:S} (hu:Cj P K h t m k v=some h') (b:Nat):mq (h'.get b)=mq (h.get b):=by
 unfold Cj at hu
 split at hu
 ·rename_i kt et c hkt
  split at hu
  ·rename_i k' l1 v' l2 h1 h2
   cases hq:(!fV P K kt k' || l1.contains c || l2.contains c || !l1.all (rowAt h.get) || !l2.all (rowAt h.get)) with
   | true=>rw [hq] at hu;cases hu
   | false=>
    rw [hq,cond_false] at hu
    split at hu
    ·rename_i es hc
     obtain ⟨r,_,e⟩:=Option.map_eq_some_iff.1 hu
     subst e
     rw [cN]
     by_cases e:c=b
     ·subst e
      rw [if_pos rfl,hc]
      cases r<;>rfl
     ·rw [if_neg e,kh,kh]
    ·cases hu
  ·cases hu
 ·cases hu
theorem DJ {P:Program} {K:TypeId→Option (List Nat)} {h h':Heap} {t:TypeId} {m k v:S} (hu:Cj P K h t m k v=some h') (o:Oper) (base:Nat) (t2:TypeId) (x:S):gT P (vD o base h') t2 x=gT P (vD o base h) t2 x:=by
 rw [sU (vD o base h'),sU (vD o base h)]
 congr 1
 funext b
 unfold vD
 cases b.blt base || allowed o (b - base) with
 | true=>exact Sk hu b
 | false=>rfl
theorem tG {P:Program} {h h':Heap} {t t2:TypeId} {x v A:S} (hs:tV P h t x v=some h') (hf:WI (some A) x=true) (o:Oper) (base:Nat):gT P (vD o base h') t2 A=gT P (vD o base h) t2 A:=by
 unfold WI at hf
 split at hf
 ·rename_i b o1 c o2 e
  obtain rfl:=Option.some.inj e
  have hne:b≠c:=fun e=>by subst e;simp at hf
  unfold tV at hs
  generalize (!(P.info? t).isSome || !kY v || !((bf v).length.beq (P.cellsOf t)) || !((bf v).all Vc))=q at hs
  cases q with
  | true=>cases hs
  | false=>
  rw [cond_false] at hs
  dsimp only at hs
  have:h'.get b=h.get b:=by
   split at hs
   ·rename_i cs hb
    obtain ⟨_,hs⟩:=bP hs
    obtain rfl:=Option.some.inj hs
    rw [cN,if_neg (fun e=>hne e.symm)]
   ·cases hs
  show (match vD o base h' b with | some (.box cs)=>_ | _=>none)=(match vD o base h b with | some (.box cs)=>_ | _=>none)
  have e2:vD o base h' b=vD o base h b:=by unfold vD;rw [this]
  rw [e2]
 ·rename_i cs e
  obtain rfl:=Option.some.inj e
  rfl
 ·cases hf
theorem P0 {ops:Array Oper} {a k:Nat} {ok:Oper} (hk:ops[k]?=some ok) (h:qd ops a=false):ok.dst≠some a:=fun e=>by
 unfold qd at h
 have hm:ok∈ops.toList:=by
  have:ok∈ops:=Array.mem_of_getElem? hk
  simpa using this
 have:=List.any_eq_false.1 h ok hm
 rw [e] at this
 simp at this
theorem oa {ops:Array Oper} {i k:Nat} {o ok:Oper} (hk:ops[k]?=some ok) {fr f1:Fr} {s:S} (hp:jm nt fr ok.dst s=some f1) (hd:∀ d,ok.dst=some d→d∉o.looksAt ops):jz ops i o f1=jz ops i o fr:=by
 unfold jz
 split
 ·rename_i t x v ho
  have hx:ev f1 x=ev fr x:=Gk hp (fun d hd'=>kj (by rw [ho];simp [Op.operands]) (hd d hd'))
  rw [hx]
  congr 1
  funext j
  unfold Ia
  cases hj:ops[j]? with
  | none=>rfl
  | some oj=>
   dsimp only
   split
   ·rename_i t2 a hl
    cases hin:qd ops a with
    | true=>simp
    | false=>rw [ue hp (P0 hk hin)]
   ·rfl
 ·rfl
theorem Dr {ops:Array Oper} {i j:Nat} {oi oj:Oper} {fr:Fr} {t t2:TypeId} {x v:Operand} {a:Nat} (hij:j≠i) (hj:ops[j]?=some oj) (hoi:oi.op=.store t x v) (hoj:oj.op=.load t2 (.tmp a)) (h1:allowed oi j=false) (h2:allowed oj i=false) (h3:qd ops a=false) (h:jz ops i oi fr=true):WI (fr.get a) (ev fr x)=true:=by
 unfold jz at h
 rw [hoi] at h
 dsimp only at h
 have hlt:j < ops.size:=by
  rcases Nat.lt_or_ge j ops.size with h | h
  ·exact h
  ·rw [Array.getElem?_eq_none h] at hj;cases hj
 have:=List.all_eq_true.1 h j (List.mem_range.2 hlt)
 unfold Ia at this
 rw [hj] at this
 dsimp only at this
 rw [hoj] at this
 dsimp only at this
 rw [h1,h2,h3] at this
 have hb:j.beq i=false:=by
  cases e:j.beq i with
  | false=>rfl
  | true=>exact absurd (Nat.eq_of_beq_eq_true e) hij
 rw [hb] at this
 simpa using this
theorem FZ {E:Env} {ops:Array Oper} {base i j:Nat} (hij:i≠j) {st s1 s2:St} {oi oj:Oper} (hoi:ops[i]?=some oi) (hoj:ops[j]?=some oj) (hap:Oper.apart ops oj oi=true) (hcl:(oR E.inl oj.op oi.op || nE ops oj.op oi.op)=true) (hai:allowed oi j=false) (haj:allowed oj i=false)
  (h1:jL E nt true ops base j st=some s1) (h2:jL E nt true ops base i s1=some s2):∃ s1',jL E nt true ops base i st=some s1'∧jL E nt true ops base j s1'=some s2:=by
 obtain ⟨a1,a2,a3⟩:=Oper.apart_spec hap
 obtain ⟨s,hj,fj,e1,e2,rfl⟩:=(nB hoj).1 h1
 obtain ⟨t,hi,fi,e3,e4,rfl⟩:=(nB hoi).1 h2
 simp only at e3 e4
 have main:∃ h',Px E ops base i oi st.fr st.h=some (t,h')∧∀ f',jm nt st.fr oi.dst t=some f'→Px E ops base j oj f' h'=some (s,hi):=by
  have wi:∀ p f,cM ops fj oi=some (p,f)→cM ops st.fr oi=some (p,st.fr):=fun p f hw=>DB e2 a1 hw
  have wj:∀ p f f',jm nt st.fr oi.dst t=some f'→cM ops st.fr oj=some (p,f)→cM ops f' oj=some (p,f'):=by
   intro p f f' hp hw
   have gen:(cM ops f' oj).map (·.1)=(cM ops st.fr oj).map (·.1):=by
    unfold cM
    split
    ·rfl
    ·rename_i k want hg
     split
     ·rename_i d hd'
      have:f'.get d=st.fr.get d:=ue hp (fun e=>a3 d e (by unfold Oper.looksAt;rw [hg];simp [hd']))
      rw [this]
      split<;>first | rfl | (rename_i b _;cases b<;>rfl)
     ·rfl
   rw [hw] at gen
   cases e:cM ops f' oj with
   | none=>rw [e] at gen;cases gen
   | some q=>
    obtain ⟨p2,f2⟩:=q
    rw [e] at gen
    simp only [Option.map_some,Option.some.injEq] at gen
    rw [gen,jQ e]
  have ci:∀ (get:Nat→Option B) (hp:Heap),bx E true get (base+i) fj hp oi.op=bx E true get (base+i) st.fr hp oi.op:=fun get hp=>
   pE (fun x hx=>Gk e2 (fun d hd=>kj hx (a1 d hd))) hp
  have cj:∀ (f':Fr),jm nt st.fr oi.dst t=some f'→∀ (get:Nat→Option B) (hp:Heap),bx E true get (base+j) f' hp oj.op=bx E true get (base+j) st.fr hp oj.op:=fun f' hp' get hp=>
   pE (fun x hx=>Gk hp' (fun d hd=>kj hx (a3 d hd))) hp
  unfold Px at e1 e3 ⊢
  cases hwj:cM ops st.fr oj with
  | none=>rw [hwj] at e1;cases e1
  | some qj=>
   obtain ⟨pj,fj'⟩:=qj
   rw [hwj] at e1
   cases hwi:cM ops fj oi with
   | none=>rw [hwi] at e3;cases e3
   | some qi=>
    obtain ⟨pi,fi'⟩:=qi
    rw [hwi] at e3
    rw [wi pi fi' hwi]
    cases pj with
    | false=>
     simp only [Option.some.injEq,Prod.mk.injEq] at e1
     obtain ⟨rfl,rfl⟩:=e1
     cases pi with
     | false=>
      simp only [Option.some.injEq,Prod.mk.injEq] at e3
      obtain ⟨rfl,rfl⟩:=e3
      exact ⟨_,rfl,fun f' hf'=>by rw [wj false fj' f' hf' hwj]⟩
     | true=>
      simp only at e3
      obtain ⟨li,e3⟩:=bP e3
      rw [oa hoj e2 a1] at li
      rw [ci] at e3
      exact ⟨hi,by simp only [li,cond_true];exact e3,fun f' hf'=>by rw [wj false fj' f' hf' hwj]⟩
    | true=>
     simp only at e1
     obtain ⟨lj,e1⟩:=bP e1
     have lj':∀ f',jm nt st.fr oi.dst t=some f'→jz ops j oj f'=true:=fun f' hf'=>by rw [oa hoi hf' a3];exact lj
     cases pi with
     | false=>
      simp only [Option.some.injEq,Prod.mk.injEq] at e3
      obtain ⟨rfl,rfl⟩:=e3
      exact ⟨_,rfl,fun f' hf'=>by rw [wj true fj' f' hf' hwj];simp only [lj' f' hf',cond_true];rw [cj f' hf'];exact e1⟩
     | true=>
      simp only at e3
      obtain ⟨li0,e3⟩:=bP e3
      have li:=li0
      rw [oa hoj e2 a1] at li
      rw [ci] at e3
      rcases Bool.or_eq_true_iff.1 hcl with hcl | hls
      rotate_left
      ·unfold nE at hls
       split at hls
       ·rename_i t1 a t2 x v ej ei
        have hin:qd ops a=false:=by simpa using hls
        have Co:=Dr (fun e=>hij e.symm) hoj ei ej hai haj hin li
        rw [ej] at e1
        rw [ei] at e3
        simp only [bx,cp,cond_true,cb,Option.map_eq_some_iff,Prod.mk.injEq] at e1
        obtain ⟨s',hl,rfl,rfl⟩:=e1
        simp only [bx,cp,cf,Option.map_eq_some_iff,Prod.mk.injEq] at e3
        obtain ⟨hh2,hu,rfl,rfl⟩:=e3
        refine ⟨hh2,?_,fun f' hf'=>?_⟩
        ·simp only [li,cond_true,ei,bx,cp,cf,hu,Option.map_some]
        ·rw [wj true fj' f' hf' hwj]
         simp only [lj' f' hf',cond_true]
         rw [cj f' hf',ej]
         have hg:∃ A,st.fr.get a=some A:=by
          cases e:st.fr.get a with
          | none=>rw [e] at Co;cases Co
          | some A=>exact ⟨A,rfl⟩
         obtain ⟨A,hA⟩:=hg
         rw [hA] at Co
         have hev:ev st.fr (.tmp a)=A:=by show (st.fr.get a).getD .un=A;rw [hA];rfl
         rw [hev] at hl
         simp only [bx,cp,cond_true,cb,hev,tG hu Co,hl,Option.map_some]
       ·rename_i t2 x v t1 a ej ei
        have hin:qd ops a=false:=by simpa using hls
        have Co:=Dr hij hoi ej ei haj hai hin lj
        rw [ej] at e1
        rw [ei] at e3
        simp only [bx,cp,cf,Option.map_eq_some_iff,Prod.mk.injEq] at e1
        obtain ⟨hh2,hu,rfl,rfl⟩:=e1
        simp only [bx,cp,cond_true,cb,Option.map_eq_some_iff,Prod.mk.injEq] at e3
        obtain ⟨s',hl,rfl,rfl⟩:=e3
        have hg:∃ A,st.fr.get a=some A:=by
         cases e:st.fr.get a with
         | none=>rw [e] at Co;cases Co
         | some A=>exact ⟨A,rfl⟩
        obtain ⟨A,hA⟩:=hg
        rw [hA] at Co
        have hev:ev st.fr (.tmp a)=A:=by show (st.fr.get a).getD .un=A;rw [hA];rfl
        rw [hev,tG hu Co] at hl
        refine ⟨st.h,?_,fun f' hf'=>?_⟩
        ·simp only [li,cond_true,ei,bx,cp,cb,hev,hl,Option.map_some]
        ·rw [wj true fj' f' hf' hwj]
         simp only [lj' f' hf',cond_true]
         rw [cj f' hf',ej]
         simp only [bx,cp,cf,hu,Option.map_some]
       ·cases hls
      unfold oR at hcl
      rcases Bool.or_eq_true_iff.1 hcl with hlu | hcl
      ·unfold KW at hlu
       split at hlu
       ·rename_i t1 a1' t2 m k v ej ei
        rw [ej] at e1
        rw [ei] at e3
        simp only [bx,cp,cond_true,cb,Option.map_eq_some_iff,Prod.mk.injEq] at e1
        obtain ⟨s',hl,rfl,rfl⟩:=e1
        simp only [bx,cp,cf,Option.map_eq_some_iff,Prod.mk.injEq] at e3
        obtain ⟨hh2,hu,rfl,rfl⟩:=e3
        refine ⟨hh2,?_,fun f' hf'=>?_⟩
        ·simp only [li,cond_true,ei,bx,cp,cf,hu,Option.map_some]
        ·rw [wj true fj' f' hf' hwj]
         simp only [lj' f' hf',cond_true]
         rw [cj f' hf',ej]
         simp only [bx,cp,cond_true,cb,DJ hu,hl,Option.map_some]
       ·rename_i t2 m k v t1 a1' ej ei
        rw [ej] at e1
        rw [ei] at e3
        simp only [bx,cp,cf,Option.map_eq_some_iff,Prod.mk.injEq] at e1
        obtain ⟨hh2,hu,rfl,rfl⟩:=e1
        simp only [bx,cp,cond_true,cb,Option.map_eq_some_iff,Prod.mk.injEq] at e3
        obtain ⟨s',hl,rfl,rfl⟩:=e3
        rw [DJ hu] at hl
        refine ⟨st.h,?_,fun f' hf'=>?_⟩
        ·simp only [li,ei,bx,cp,cond_true,cb,hl,Option.map_some]
        ·rw [wj true fj' f' hf' hwj]
         simp only [lj' f' hf',cond_true]
         rw [cj f' hf',ej]
         simp only [bx,cp,cf,hu,Option.map_some]
       ·cases hlu
      by_cases hjw:cp E.inl oj.op=.w
      ·-- the first writes: the second looks at no memory
       have hip:cp E.inl oi.op=.p:=by rw [hjw] at hcl;cases e:cp E.inl oi.op<;>rw [e] at hcl<;>first | rfl | cases hcl
       rw [fC (by rw [hip];simp)] at e3
       obtain ⟨⟨t',x⟩,hc,e⟩:=Option.map_eq_some_iff.1 e3
       obtain rfl:=rH hip hc
       simp only [Prod.mk.injEq] at e
       obtain ⟨rfl,rfl⟩:=e
       refine ⟨st.h,?_,fun f' hf'=>?_⟩
       ·simp only [li,cond_true]
        rw [fC (by rw [hip];simp),Q6 (get':=vD oi base hj) hip,hc];rfl
       ·rw [wj true fj' f' hf' hwj];simp only [lj' f' hf',cond_true];rw [cj f' hf'];exact e1
      ·rw [fC hjw] at e1
       obtain ⟨⟨s',x⟩,hcj,e⟩:=Option.map_eq_some_iff.1 e1
       simp only [Prod.mk.injEq] at e
       obtain ⟨rfl,rfl⟩:=e
       by_cases hiw:cp E.inl oi.op=.w
       ·have hjp:cp E.inl oj.op=.p:=by rw [hiw] at hcl;cases e:cp E.inl oj.op<;>rw [e] at hcl<;>first | rfl | cases hcl
        obtain rfl:=rH hjp hcj
        refine ⟨hi,by simp only [li,cond_true];exact e3,fun f' hf'=>?_⟩
        rw [wj true fj' f' hf' hwj]
        simp only [lj' f' hf',cond_true]
        rw [cj f' hf',fC hjw,Q6 (get':=vD oj base st.h) hjp,hcj];rfl
       ·rw [fC hiw,Cp oi base j hai] at e3
        obtain ⟨⟨t',y⟩,hci,e⟩:=Option.map_eq_some_iff.1 e3
        simp only [Prod.mk.injEq] at e
        obtain ⟨rfl,rfl⟩:=e
        refine ⟨EB st.h (base+i) y,?_,fun f' hf'=>?_⟩
        ·simp only [li,cond_true];rw [fC hiw,hci];rfl
        ·rw [wj true fj' f' hf' hwj]
         simp only [lj' f' hf',cond_true]
         rw [cj f' hf',fC hjw,Cp oj base i haj,hcj]
         simp only [Option.map_some,Option.some.injEq,Prod.mk.injEq,true_and]
         exact Mc _ _ _ (by omega)
 obtain ⟨h',m1,m2⟩:=main
 obtain ⟨f3,p1,p2⟩:=LW (nt:=nt) (fun d hd=>fun he=>a2 d hd he) e2 e4
 exact ⟨⟨f3,h'⟩,(nB hoi).2 ⟨t,h',f3,m1,p1,rfl⟩,(nB hoj).2 ⟨s,hi,fi,m2 f3 p1,p2,rfl⟩⟩
end
section
variable [dq] {P:Program} {G:Gh} {w w0:World} {nt B0:Nat} {fr:Fr} {a:Act} {h:Heap}
def gN (acc:Array Nat) (o:Oper):Array Nat:=acc.push (o.after.foldl (fun s e=>if Region.binds .any e then s ||| 2 ^ e.on ||| acc.getD e.on 0 else s) 0)
theorem nS (acc:Array Nat) (j:Nat):∀ (es:List Edge) (s:Nat),(es.foldl (fun s e=>if Region.binds .any e then s ||| 2 ^ e.on ||| acc.getD e.on 0 else s) s).testBit j=true→
  s.testBit j=true∨∃ e∈es,Region.binds .any e=true∧(e.on=j∨(acc.getD e.on 0).testBit j=true)
 | [],s,h=>.inl h
 | e::es,s,h=>by
  simp only [List.foldl_cons] at h
  rcases nS acc j es _ h with h | ⟨e',he',h1,h2⟩
  ·by_cases hb:Region.binds .any e=true
   ·rw [if_pos hb] at h
    simp only [Nat.testBit_or,Bool.or_eq_true] at h
    rcases h with (h | h) | h
    ·exact .inl h
    ·refine .inr ⟨e,by simp,hb,.inl ?_⟩
     rw [Nat.testBit_two_pow] at h
     simpa using h
    ·exact .inr ⟨e,by simp,hb,.inr h⟩
   ·rw [if_neg hb] at h
    exact .inl h
  ·exact .inr ⟨e',by simp [he'],h1,h2⟩
theorem DA (ops:Array Oper):Region.before ops=ops.toList.foldl gN #[]:=by
 unfold Region.before
 rw [← Array.foldl_toList]
 rfl
def Ai (j:Nat) (l:List Oper) (A:Array Nat):Prop:=
 A.size=l.length∧∀ i,(A.getD i 0).testBit j=true→∃ o e,l[i]?=some o∧e∈o.after.toList∧Region.binds .any e=true∧(e.on=j∨(A.getD e.on 0).testBit j=true)
theorem CX {j:Nat} {l:List Oper} {A:Array Nat} (h:Ai j l A) (o:Oper):Ai j (l++[o]) (gN A o):=by
  obtain ⟨h1,h2⟩:=h
  have hold:∀ k,k < A.size→(gN A o).getD k 0=A.getD k 0:=fun k hk=>by
   simp [gN,Array.getD_eq_getD_getElem?,Array.getElem?_push,Nat.ne_of_lt hk]
  have hge:∀ k,A.size≤k→A.getD k 0=0:=fun k hk=>by simp [Array.getD_eq_getD_getElem?,Array.getElem?_eq_none hk]
  refine ⟨by simp [gN,h1],fun i hb=>?_⟩
  by_cases hi:i < A.size
  ·rw [hold i hi] at hb
   obtain ⟨o',e,e1,e2,e3,e4⟩:=h2 i hb
   refine ⟨o',e,by rw [List.getElem?_append_left (by omega)];exact e1,e2,e3,e4.imp id (fun h=>?_)⟩
   by_cases hk:e.on < A.size
   ·rw [hold _ hk];exact h
   ·rw [hge _ (by omega)] at h;simp at h
  ·by_cases hi2:i=A.size
   ·subst hi2
    have:(gN A o).getD A.size 0=o.after.foldl (fun s e=>if Region.binds .any e then s ||| 2 ^ e.on ||| A.getD e.on 0 else s) 0:=by
     simp [gN,Array.getD_eq_getD_getElem?]
    rw [this,← Array.foldl_toList] at hb
    rcases nS A j _ 0 hb with hb | ⟨e,e1,e2,e3⟩
    ·simp at hb
    ·refine ⟨o,e,by rw [List.getElem?_append_right (by omega),h1];simp,e1,e2,e3.imp id (fun h=>?_)⟩
     by_cases hk:e.on < A.size
     ·rw [hold _ hk];exact h
     ·rw [hge _ (by omega)] at h;simp at h
   ·have:(gN A o).getD i 0=0:=by
     simp only [gN,Array.getD_eq_getD_getElem?]
     rw [Array.getElem?_eq_none (by simp;omega)];rfl
    rw [this] at hb;simp at hb
theorem pS (j:Nat):∀ (l p:List Oper) (A:Array Nat),Ai j p A→Ai j (p++l) (l.foldl gN A)
 | [],p,A,h=>by simpa using h
 | o::l,p,A,h=>by
  have:=pS j l (p++[o]) (gN A o) (CX h o)
  simpa using this
theorem BP {ops:Array Oper} {i j:Nat} (hb:((Region.before ops).getD i 0).testBit j=true):∃ o e,ops[i]?=some o∧e∈o.after.toList∧Region.binds .any e=true∧(e.on=j∨((Region.before ops).getD e.on 0).testBit j=true):=by
 rw [DA] at hb ⊢
 obtain ⟨o,e,h1,h2⟩:=(pS j ops.toList [] #[] ⟨rfl,fun i h=>by simp at h⟩).2 i hb
 exact ⟨o,e,by simpa using h1,h2⟩
def aav (ops:Array Oper) (done:Array Bool):Prop:=∀ i,i < ops.size→done.getD i true=true→∀ j,((Region.before ops).getD i 0).testBit j=true→done.getD j false=true
theorem oe {ops:Array Oper} {done:Array Bool} {i:Nat} (h:i∈Region.ready .any ops done):i < ops.size∧done.getD i true=false∧∀ o,ops[i]?=some o→∀ e∈o.after.toList,Region.binds .any e=true→done.getD e.on false=true:=by
 unfold Region.ready at h
 rw [List.mem_filter] at h
 obtain ⟨h1,h2⟩:=h
 rw [Bool.and_eq_true] at h2
 refine ⟨List.mem_range.1 h1,by simpa using h2.1,fun o ho e he hb=>?_⟩
 have h3:=h2.2
 rw [ho] at h3
 simp only [Option.map_some,Option.getD_some,Array.all_eq_true'] at h3
 have:=h3 e (by simpa using he)
 rw [hb] at this
 simpa using this
theorem D6 {done:Array Bool} {i j:Nat} {d:Bool} (hi:i < done.size):(done.setIfInBounds i true).getD j d=if j=i then true else done.getD j d:=by
 simp only [Array.getD_eq_getD_getElem?,Array.getElem?_setIfInBounds]
 by_cases e:i=j
 ·subst e;simp [hi]
 ·rw [if_neg e,if_neg (fun h=>e h.symm)]
theorem E0 {ops:Array Oper} {done:Array Bool} (hsz:done.size=ops.size) (hs:aav ops done) {i:Nat} (hr:i∈Region.ready .any ops done):(∀ j,((Region.before ops).getD i 0).testBit j=true→done.getD j false=true)∧aav ops (done.setIfInBounds i true):=by
 obtain ⟨h1,h2,h3⟩:=oe hr
 have key:∀ j,((Region.before ops).getD i 0).testBit j=true→done.getD j false=true:=fun j hb=>by
  obtain ⟨o,e,e1,e2,e3,e4⟩:=BP hb
  have hd:=h3 o e1 e e2 e3
  rcases e4 with rfl | e4
  ·exact hd
  ·have hlt:e.on < ops.size:=by
    rw [← hsz]
    by_cases hh:e.on < done.size
    ·exact hh
    ·simp [Array.getD_eq_getD_getElem?,Array.getElem?_eq_none (Nat.le_of_not_lt hh)] at hd
   refine hs e.on hlt ?_ j e4
   simp only [Array.getD_eq_getD_getElem?] at hd ⊢
   rw [Array.getElem?_eq_getElem (by omega)] at hd ⊢
   exact hd
 refine ⟨key,fun k hk hd j hb=>?_⟩
 rw [D6 (by omega)] at hd ⊢
 split
 ·rfl
 ·by_cases e:k=i
  ·subst e;exact key j hb
  ·rw [if_neg e] at hd
   exact hs k hk hd j hb
def rest (n:Nat) (done:Array Bool):List Nat:=(List.range n).filter fun i=>!done.getD i true
theorem front {E:Env} {ops:Array Oper} {base i:Nat} {oi:Oper} (hoi:ops[i]?=some oi):∀ (l1 l2:List Nat) (st stf:St),(∀ j∈l1,j≠i∧∃ oj,ops[j]?=some oj∧Oper.apart ops oj oi=true∧(oR E.inl oj.op oi.op || nE ops oj.op oi.op)=true∧allowed oi j=false∧allowed oj i=false)→
  gi E nt true ops base (l1++i::l2) st=some stf→∃ s1,jL E nt true ops base i st=some s1∧gi E nt true ops base (l1++l2) s1=some stf
 | [],l2,st,stf,_,h=>by
  obtain ⟨s1,h1,h2⟩:=Option.bind_eq_some_iff.1 h
  exact ⟨s1,h1,h2⟩
 | j::l1,l2,st,stf,hj,h=>by
  obtain ⟨s1,h1,h2⟩:=Option.bind_eq_some_iff.1 h
  obtain ⟨s2,h3,h4⟩:=front hoi l1 l2 s1 stf (fun k hk=>hj k (by simp [hk])) h2
  obtain ⟨hne,oj,hoj,hap,hcl,ha1,ha2⟩:=hj j (by simp)
  obtain ⟨s3,h5,h6⟩:=FZ (fun e=>hne e.symm) hoi hoj hap hcl ha1 ha2 h1 h3
  exact ⟨s3,h5,Option.bind_eq_some_iff.2 ⟨s2,h6,h4⟩⟩
theorem range_split {n i:Nat} (p:Nat→Bool) (hi:i < n) (hp:p i=true):∃ l1 l2,(List.range n).filter p=l1++i::l2∧(∀ j∈l1,j < i∧p j=true)∧(List.range n).filter (fun j=>p j && !(j == i))=l1++l2:=by
 obtain ⟨m,rfl⟩:∃ m,n=i+(m+1):=⟨n - i - 1,by omega⟩
 refine ⟨(List.range i).filter p,((List.range m).map (fun k=>i+1+k)).filter p,?_,fun j hj=>?_,?_⟩
 ·rw [List.range_add,List.filter_append]
  congr 1
  rw [List.range_succ_eq_map,List.map_cons,List.filter_cons]
  simp only [Nat.add_zero,hp,if_true,List.map_map]
  congr 2
  apply List.map_congr_left
  intro k _
  simp;omega
 ·rw [List.mem_filter,List.mem_range] at hj;exact hj
 ·rw [List.range_add,List.filter_append]
  congr 1
  ·apply List.filter_congr
   intro k hk
   have:=List.mem_range.1 hk
   have:(k == i)=false:=by simp;omega
   simp [this]
  ·rw [List.range_succ_eq_map,List.map_cons,List.filter_cons]
   simp only [Nat.add_zero,beq_self_eq_true,Bool.not_true,Bool.and_false,Bool.false_eq_true,if_false,List.map_map]
   have e1:((fun x=>i+x) ∘ Nat.succ)=fun k=>i+1+k:=by funext k;simp;omega
   rw [e1]
   apply List.filter_congr
   intro x hx
   obtain ⟨k,_,rfl⟩:=List.mem_map.1 hx
   have:(i+1+k == i)=false:=by simp;omega
   simp [this]
theorem Ql {n i:Nat} {done:Array Bool} (hi:i < done.size):rest n (done.setIfInBounds i true)=(List.range n).filter (fun j=>(!done.getD j true) && !(j == i)):=by
 unfold rest
 apply List.filter_congr
 intro j _
 rw [D6 hi]
 by_cases e:j=i
 ·subst e;simp
 ·simp [e]
theorem GM (n:Nat) (done:Array Bool):(rest n done).Nodup:=List.Pairwise.filter _ List.nodup_range
theorem Ch {L:Nat} {V:World→Prop} {E:Env} (hE:kg V E) (hV:∀ w',Below B0 w0 w'→V w') {ops:Array Oper} {base:Nat} (hind:Lw E.inl ops=true) (hed:JA ops=true) {Q:Exit→Act→World→Prop} {stf:St} {G0:Gh} {h0:Heap} {wb:World}
  (hQ:∀ G' a' w',cR B0 w0 G' stf.h w'→cV nt G' w' stf.fr a'→D9 B0 base G0 h0 wb G' stf.h w'→vJ L w' a'.defers→Q .normal a' w'):
  ∀ (fuel:Nat) (done:Array Bool) (st:St) (G:Gh) (a:Act) (w:World),done.size=ops.size→aav ops done→(rest ops.size done).length≤fuel→Mid L B0 w0 nt base (·∈rest ops.size done) G st a w→D9 B0 base G0 h0 wb G st.h w→gi E nt true ops base (rest ops.size done) st=some stf→
   Ip E.P ops Q fuel done a w:=by
 have stop:∀ (done:Array Bool),done.size=ops.size→Region.ready .any ops done=[]→rest ops.size done=[]:=by
  intro done hsz hr
  cases e:rest ops.size done with
  | nil=>rfl
  | cons i r=>
   exfalso
   have hi:i∈rest ops.size done:=by rw [e];simp
   obtain ⟨m,hm⟩:∃ m,m < ops.size∧done.getD m true=false∧∀ k,k < m→done.getD k true=true:=by
    have hex:∃ m,m < ops.size∧done.getD m true=false:=by
     unfold rest at hi
     rw [List.mem_filter,List.mem_range] at hi
     exact ⟨i,hi.1,by simpa using hi.2⟩
    obtain ⟨m0,hm0⟩:=hex
    induction m0 using Nat.strongRecOn with
    | _ m0 ih=>
     by_cases hall:∀ k,k < m0→done.getD k true=true
     ·exact ⟨m0,hm0.1,hm0.2,hall⟩
     ·obtain ⟨k,hk⟩:=Classical.not_forall.1 hall
      obtain ⟨hk1,hk2⟩:=Classical.not_imp.1 hk
      exact ih k hk1 ⟨by omega,by simpa using hk2⟩
   obtain ⟨hm1,hm2,hm3⟩:=hm
   have:m∈Region.ready .any ops done:=by
    unfold Region.ready
    rw [List.mem_filter]
    refine ⟨List.mem_range.2 hm1,?_⟩
    rw [Bool.and_eq_true]
    refine ⟨by simp [hm2],?_⟩
    have ho:ops[m]?=some ops[m]:=by simp [hm1]
    rw [ho]
    simp only [Option.map_some,Option.getD_some,Array.all_eq_true']
    intro e he
    cases hb:Region.binds .any e with
    | false=>rfl
    | true=>
     have:=List.all_eq_true.1 hed m (List.mem_range.2 hm1)
     rw [ho] at this
     simp only [Array.all_eq_true'] at this
     have:=this e he
     rw [hb] at this
     have hlt:e.on < m:=by simpa [Nat.blt_eq] using this
     have:=hm3 e.on hlt
     simp only [Array.getD_eq_getD_getElem?] at this ⊢
     rw [Array.getElem?_eq_getElem (by omega)] at this ⊢
     simpa using this
   rw [hr] at this
   cases this
 intro fuel
 induction fuel with
 | zero=>
  intro done st G a w hsz hshut hlen hm hx hr
  have hn:rest ops.size done=[]:=List.length_eq_zero_iff.1 (by omega)
  rw [hn] at hr
  obtain rfl:=Option.some.inj hr
  refine ⟨?_,hQ G a w hm.sim hm.fr hx hm.marks⟩
  cases e:Region.ready .any ops done with
  | nil=>rfl
  | cons i r=>
   obtain ⟨h1,h2,_⟩:=oe (show i∈Region.ready .any ops done by rw [e];simp)
   have:i∈rest ops.size done:=by unfold rest;rw [List.mem_filter];exact ⟨List.mem_range.2 h1,by simp [h2]⟩
   rw [hn] at this;cases this
 | succ fuel ih=>
  intro done st G a w hsz hshut hlen hm hx hr
  refine ⟨fun hnil=>?_,fun i hi=>?_⟩
  ·rw [stop done hsz hnil] at hr
   obtain rfl:=Option.some.inj hr
   exact hQ G a w hm.sim hm.fr hx hm.marks
  ·obtain ⟨hi1,hi2,_⟩:=oe hi
   obtain ⟨hanc,hshut'⟩:=E0 hsz hshut hi
   obtain ⟨l1,l2,e1,e2,e3⟩:=range_split (n:=ops.size) (fun j=>!done.getD j true) hi1 (by simp [hi2])
   have hoi:ops[i]?=some ops[i]:=by simp [hi1]
   have e1':rest ops.size done=l1++i::l2:=e1
   rw [e1'] at hr
   obtain ⟨s1,h1,h2⟩:=front hoi l1 l2 st stf (fun j hj=>by
    obtain ⟨hji,hjd⟩:=e2 j hj
    refine ⟨by omega,?_⟩
    have hall:=List.all_eq_true.1 (List.all_eq_true.1 hind i (List.mem_range.2 hi1)) j (List.mem_range.2 hji)
    rw [Bool.or_eq_true] at hall
    rcases hall with hb | hall
    ·have:=hanc j hb
     exfalso
     simp only [Array.getD_eq_getD_getElem?] at this hjd
     rw [Array.getElem?_eq_getElem (by omega)] at this hjd
     simp only [Option.getD_some] at this hjd
     rw [this] at hjd;cases hjd
    ·have hoj:ops[j]?=some ops[j]:=by simp [Nat.lt_trans hji hi1]
     rw [hoj,hoi] at hall
     simp only [Bool.and_eq_true,Bool.not_eq_true'] at hall
     exact ⟨_,hoj,hall.1.1.1,hall.1.1.2,hall.1.2,hall.2⟩) hr
   have hrest:rest ops.size (done.setIfInBounds i true)=l1++l2:=by rw [Ql (by omega)];exact e3
   refine ri hE hV hm (by rw [e1'];simp) h1 (fun G' a' w' hm' hx'=>ih (done.setIfInBounds i true) s1 G' a' w' (by simp [hsz]) hshut' ?_ ⟨hm'.sim,hm'.fr,fun j hj=>hm'.free j ?_,hm'.base,hm'.marks⟩ (hx.trans hx') (by rw [hrest];exact h2))
   ·rw [hrest]
    rw [e1'] at hlen
    simp only [List.length_append,List.length_cons] at hlen ⊢
    omega
   ·have hnd:=GM ops.size done
    rw [e1'] at hnd
    rw [hrest] at hj
    have hne:j≠i:=fun e=>by
     subst e
     rw [List.nodup_append] at hnd
     rcases List.mem_append.1 hj with hj | hj
     ·exact hnd.2.2 j hj j (by simp) rfl
     ·exact (List.nodup_cons.1 hnd.2.1).1 hj
    refine ⟨?_,hne⟩
    rw [e1']
    rcases List.mem_append.1 hj with hj | hj
    ·simp [hj]
    ·simp [hj]
end
section
variable [dq] {P:Program} {G:Gh} {w w0:World} {nt B0:Nat} {fr:Fr} {a:Act} {h:Heap}
def Gh.ren (G:Gh) (ids:List Nat):Gh:=⟨fun j=>(ids[j]?).bind G.mu,fun j=>(ids[j]?).bind G.own,G.bB⟩
theorem qe:∀ (ids:List Nat) (b i j:Nat),nv ids b i=some j→i≤j∧ids[j - i]?=some b
 | [],b,i,j,h=>by cases h
 | c::r,b,i,j,h=>by
  unfold nv at h
  cases e:c.beq b with
  | true=>
   rw [e,cond_true] at h
   obtain rfl:=Option.some.inj h
   exact ⟨Nat.le_refl _,by simp [Nat.eq_of_beq_eq_true e]⟩
  | false=>
   rw [e,cond_false] at h
   obtain ⟨h1,h2⟩:=qe r b (i+1) j h
   refine ⟨by omega,?_⟩
   rw [show j - i=(j - (i+1))+1 by omega]
   simpa using h2
mutual
theorem pL {G':Gh} {m:Nat→Option Nat} (hI:G'.bB=G.bB) (hm:∀ b j,m b=some j→G'.mu j=G.mu b):∀ (s s':S) (v:Value),qu m s=some s'→aY G w s v→aY G' w s' v:=fun s s' v hs hr=>by
 have i1:∀ r,G.bB r→G'.bB r:=fun r h=>by rw [hI];exact h
 have i2:∀ r,G.bB r→w.heap[r]?=w.heap[r]?:=fun _ _=>rfl
 cases s with
 | ptr b o=>
  obtain ⟨j,hj,rfl⟩:=Option.map_eq_some_iff.1 hs
  cases hr with | ptr hmu=>exact .ptr (by rw [hm b j hj];exact hmu)
 | sl b n=>
  obtain ⟨j,hj,rfl⟩:=Option.map_eq_some_iff.1 hs
  cases hr with | sl hmu hb=>exact .sl (by rw [hm b j hj];exact hmu) hb
 | ep b z i o=>
  obtain ⟨j,hj,rfl⟩:=Option.map_eq_some_iff.1 hs
  cases hr with | ep hmu=>exact .ep (by rw [hm b j hj];exact hmu)
 | agg cs=>
  obtain ⟨cs',hc,rfl⟩:=Option.map_eq_some_iff.1 hs
  obtain ⟨vs,rfl,hl⟩:=fQ hr
  exact (jW hI hm cs cs' vs.toList hc hl).L8
 | bJ cs=>
  obtain ⟨cs',hc,rfl⟩:=Option.map_eq_some_iff.1 hs
  obtain ⟨vs,rfl,hl,hv⟩:=qk hr
  have:=jW hI hm cs cs' vs.toList hc ⟨by simpa using hl,fun i s v h1 h2=>hv i s v h1 (by simpa using h2)⟩
  exact .bJ (by simpa using this.1) (fun i s v h1 h2=>this.2 i s v h1 (by simpa using h2))
 | fn f x y=>
  obtain ⟨x',hx,hs⟩:=Option.bind_eq_some_iff.1 hs
  obtain ⟨y',hy,rfl⟩:=Option.map_eq_some_iff.1 hs
  cases hr with | fn ha h1 hc2 h2=>
  rename_i va vc
  have r1:=jW hI hm x x' va.toList hx ⟨by simpa using ha,fun i s v q1 q2=>h1 i s v q1 (by simpa using q2)⟩
  have r2:=jW hI hm y y' vc.toList hy ⟨by simpa using hc2,fun i s v q1 q2=>h2 i s v q1 (by simpa using q2)⟩
  exact .fn (by simpa using r1.1) (fun i s v q1 q2=>r1.2 i s v q1 (by simpa using q2)) (by simpa using r2.1) (fun i s v q1 q2=>r2.2 i s v q1 (by simpa using q2))
 | un=>obtain rfl:=Option.some.inj hs;exact .un v
 | t x=>obtain rfl:=Option.some.inj hs;cases hr with | t hr=>exact .t (hr.mono i1 i2)
 | full sz n g=>obtain rfl:=Option.some.inj hs;cases hr with | full hr=>exact .full (hr.mono i1 i2)
 | top sz n g=>obtain rfl:=Option.some.inj hs;cases hr with | top hr=>exact .top (hr.mono i1 i2)
 | pt cs=>obtain rfl:=Option.some.inj hs;cases hr with | pt h1 h2=>exact .pt (i1 _ h1) (h2.mono i1 i2 h1)
 | nn=>obtain rfl:=Option.some.inj hs;cases hr with | nn t v=>exact .nn t v
 | ud=>obtain rfl:=Option.some.inj hs;cases hr with | ud=>exact .ud
 | mp b=>
  obtain ⟨j,hj,rfl⟩:=Option.map_eq_some_iff.1 hs
  cases hr with | mp hmu=>exact .mp (by rw [hm b j hj];exact hmu)
 | it=>obtain rfl:=Option.some.inj hs;cases hr with | it h1 h2=>exact .it (i1 _ h1) (h2.imp (fun e=>e) fun ⟨m,c,q1,q2,q3⟩=>⟨m,c,i1 _ q1,q2,q3⟩)
 | mt es=>
  obtain ⟨es',he,rfl⟩:=Option.map_eq_some_iff.1 hs
  cases hr with | mt h1 h2 h3 h4 h5 h6=>
  obtain ⟨q1,q2⟩:=ui hI hm es es' he
  have hin:jb G w _ es:=⟨h3,fun i e m a b=>⟨h4 i e m a b,h5 i e m a b⟩⟩
  have he:=hin.sub q1 q2
  exact .mt (i1 _ h1) h2 he.1 (fun i e m h1 h2=>(he.2 i e m h1 h2).1) (fun i e m h1 h2=>(he.2 i e m h1 h2).2) h6
theorem jW {G':Gh} {m:Nat→Option Nat} (hI:G'.bB=G.bB) (hm:∀ b j,m b=some j→G'.mu j=G.mu b):∀ (cs cs':List S) (vs:List Value),sX m cs=some cs'→bD G w cs vs→bD G' w cs' vs
 | [],cs',vs,hs,hr=>by
  obtain rfl:=Option.some.inj hs
  obtain rfl:vs=[]:=List.length_eq_zero_iff.1 hr.1.symm
  exact .nil
 | c::cs,cs',vs,hs,hr=>by
  obtain ⟨v,r,rfl,hv,hrest⟩:=hr.dK
  obtain ⟨c',hc,hs⟩:=Option.bind_eq_some_iff.1 hs
  obtain ⟨r',hr',rfl⟩:=Option.map_eq_some_iff.1 hs
  exact .cons (pL hI hm c c' v hc hv) (jW hI hm cs r' r hr' hrest)
theorem ui {G':Gh} {m:Nat→Option Nat} (hI:G'.bB=G.bB) (hm:∀ b j,m b=some j→G'.mu j=G.mu b):∀ (es es':List (S × S)),tN m es=some es'→
  es'.length=es.length∧∀ (i:Nat) (e e':S × S) (k v:Value),es[i]?=some e→es'[i]?=some e'→aY G w e.1 k→aY G w e.2 v→aY G' w e'.1 k∧aY G' w e'.2 v
 | [],es',h=>by
  obtain rfl:=Option.some.inj h
  exact ⟨rfl,fun i e e' k v h=>by simp at h⟩
 | (k,v)::es,es',h=>by
  obtain ⟨k',hk,h⟩:=Option.bind_eq_some_iff.1 h
  obtain ⟨v',hv,h⟩:=Option.bind_eq_some_iff.1 h
  obtain ⟨r,hr,rfl⟩:=Option.map_eq_some_iff.1 h
  obtain ⟨q1,q2⟩:=ui hI hm es r hr
  refine ⟨by simp [q1],fun i e0 e' kv vv a1 a2 r1 r2=>?_⟩
  cases i with
  | zero=>
   simp only [List.getElem?_cons_zero,Option.some.injEq] at a1 a2
   subst a1;subst a2
   exact ⟨pL hI hm k k' kv hk r1,pL hI hm v v' vv hv r2⟩
  | succ i=>exact q2 i e0 e' kv vv (by simpa using a1) (by simpa using a2) r1 r2
end
theorem oQ {m:Nat→Option Nat}:∀ {cs cs':List S},sX m cs=some cs'→cs'.length=cs.length
 | [],cs',h=>by obtain rfl:=Option.some.inj h;rfl
 | c::cs,cs',h=>by
  obtain ⟨c',hc,h⟩:=Option.bind_eq_some_iff.1 h
  obtain ⟨r',hr',rfl⟩:=Option.map_eq_some_iff.1 h
  simp [oQ hr']
theorem Tk {G':Gh} {m:Nat→Option Nat} (hI:G'.bB=G.bB) (hm:∀ b j,m b=some j→G'.mu j=G.mu b) {b j:Nat} {x y:B} (hmu:G'.mu j=G.mu b) (hown:G'.own j=G.own b) (hx:Fv m x=some y) (hr:jG G B0 w b x):jG G' B0 w j y:=by
 have i1:∀ r,G.bB r→G'.bB r:=fun r h=>by rw [hI];exact h
 cases hr with
 | box h1 h2 hb hf hl hc hi hB=>
  obtain ⟨cs',hc',rfl⟩:=Option.map_eq_some_iff.1 hx
  exact .box (hmu.trans h1) (hown.trans h2) hb hf (by rw [oQ hc',hl]) (dY (jW hI hm _ _ _ hc' (dZ hl hc))) (by rw [hI];exact hi) hB
 | fO h1 h2 hb hf hl hn hc hi hB=>
  obtain ⟨cs',hc',rfl⟩:=Option.map_eq_some_iff.1 hx
  exact .fO (hmu.trans h1) (hown.trans h2) hb hf (by rw [oQ hc',hl]) (by rw [oQ hc',hn]) (dY (jW hI hm _ _ _ hc' (dZ hl hc))) (by rw [hI];exact hi) hB
 | row h1 h2 hb hf hcap hl hc hlen hi hB=>
  obtain rfl:=Option.some.inj hx
  exact .row (hmu.trans h1) (hown.trans h2) hb hf hcap hl (fun i k t ht=>let ⟨v,hv,q⟩:=hc i k t ht;⟨v,hv,q.mono i1 (fun _ _=>rfl)⟩) hlen (by rw [hI];exact hi) hB
 | mp h1 h2 hb hc hi hB hw=>
  obtain ⟨es',he,rfl⟩:=Option.map_eq_some_iff.1 hx
  obtain ⟨q1,q2⟩:=ui hI hm _ _ he
  exact .mp (hmu.trans h1) (hown.trans h2) hb (hc.sub q1 q2) (by rw [hI];exact hi) hB hw
 | none h1 h2=>
  obtain rfl:=Option.some.inj hx
  exact .none (hmu.trans h1) (hown.trans h2)
theorem lL {m:Nat→Option Nat} {fr:Fr}:∀ {l:List Nat} {f:Fr},j1 m fr l=some f→∀ t s',f.get t=some s'→∃ s,fr.get t=some s∧qu m s=some s'
 | [],f,h,t,s',hs=>by
  obtain rfl:=Option.some.inj h
  rw [kK] at hs;cases hs
 | x::l,f,h,t,s',hs=>by
  unfold j1 at h
  split at h
  ·rename_i s0 hs0
   obtain ⟨s1,h1,h⟩:=Option.bind_eq_some_iff.1 h
   obtain ⟨f',h2,rfl⟩:=Option.map_eq_some_iff.1 h
   rw [gV] at hs
   split at hs
   ·rename_i e;subst e
    obtain rfl:=Option.some.inj hs
    exact ⟨s0,hs0,h1⟩
   ·exact lL h2 t s' hs
  ·exact lL h t s' hs
theorem jo {m:Nat→Option Nat} {h:Heap}:∀ {ids:List Nat} {i0:Nat} {t:Tr B},j3 m h ids i0=some t→∀ j y,t.get j=some y→∃ b x,i0≤j∧ids[j - i0]?=some b∧h.get b=some x∧Fv m x=some y
 | [],i0,t,ht,j,y,hy=>by
  obtain rfl:=Option.some.inj ht
  rw [kK] at hy;cases hy
 | b::r,i0,t,ht,j,y,hy=>by
  have tail:∀ {t':Tr B},j3 m h r (i0+1)=some t'→t'.get j=some y→∃ b' x,i0≤j∧(b::r)[j - i0]?=some b'∧h.get b'=some x∧Fv m x=some y:=by
   intro t' h1 h2
   obtain ⟨b',x,q1,q2,q3,q4⟩:=jo h1 j y h2
   refine ⟨b',x,by omega,?_,q3,q4⟩
   rw [show j - i0=(j - (i0+1))+1 by omega]
   simpa using q2
  unfold j3 at ht
  split at ht
  ·rename_i x hx
   obtain ⟨x',h1,ht⟩:=Option.bind_eq_some_iff.1 ht
   obtain ⟨t',h2,rfl⟩:=Option.map_eq_some_iff.1 ht
   rw [gV] at hy
   split at hy
   ·rename_i e;subst e
    obtain rfl:=Option.some.inj hy
    exact ⟨b,x,Nat.le_refl _,by simp,hx,h1⟩
   ·exact tail h2 hy
  ·exact tail ht hy
theorem jq (h:Heap):∀ (f:Nat) (todo seen:List Nat),seen.Nodup→(jO h f todo seen).Nodup
 | 0,todo,seen,hs=>by unfold jO;exact List.pairwise_reverse.2 (hs.imp (fun h e=>h e.symm))
 | f+1,[],seen,hs=>by unfold jO;exact List.pairwise_reverse.2 (hs.imp (fun h e=>h e.symm))
 | f+1,b::todo,seen,hs=>by
  unfold jO
  cases e:seen.contains b with
  | true=>exact jq h f todo seen hs
  | false=>
   simp only [cond_false]
   have:(b::seen).Nodup:=List.nodup_cons.2 ⟨by simpa using e,hs⟩
   split
   ·exact jq h f _ _ this
   ·exact jq h f _ _ this
theorem CA {bO:List Nat} {st st':St} (hs:cR B0 w0 G st.h w) (hf:cV nt G w st.fr a) (hc:clean bO st=some st'):∃ G',G'.bB=G.bB∧cR B0 w0 G' st'.h w∧cV nt G' w st'.fr a:=by
 unfold clean at hc
 simp only at hc
 obtain ⟨fr',h1,hc⟩:=Option.bind_eq_some_iff.1 hc
 obtain ⟨t,h2,rfl⟩:=Option.map_eq_some_iff.1 hc
 generalize hids:jO st.h 1000 (mf st.fr bO) []=ids at h1 h2
 have hnd:ids.Nodup:=by rw [← hids];exact jq _ _ _ _ List.nodup_nil
 have hm:∀ b j,nv ids b 0=some j→(G.ren ids).mu j=G.mu b:=fun b j hj=>by
  obtain ⟨_,h⟩:=qe ids b 0 j hj
  show (ids[j]?).bind G.mu=_
  rw [Nat.sub_zero] at h
  rw [h];rfl
 refine ⟨G.ren ids,rfl,⟨hs.below,hs.bB,fun j y hy=>?_,fun j j' r hj hj' ho ho'=>?_,fun j hj=>⟨?_,?_⟩,hs.b0,hs.gP,hs.bs⟩,⟨hf.size,fun t s' hs'=>?_⟩⟩
 ·obtain ⟨b,x,_,q2,q3,q4⟩:=jo h2 j y hy
  rw [Nat.sub_zero] at q2
  exact Tk (G:=G) (G':=G.ren ids) rfl hm (by show (ids[j]?).bind G.mu=_;rw [q2];rfl) (by show (ids[j]?).bind G.own=_;rw [q2];rfl) q4 (hs.rep b x q3)
 ·have pres:∀ j,t.get j≠none→∃ b,ids[j]?=some b∧st.h.get b≠none:=fun j hj=>by
   cases e:t.get j with
   | none=>exact absurd e hj
   | some y=>
    obtain ⟨b,x,_,q2,q3,_⟩:=jo h2 j y e
    rw [Nat.sub_zero] at q2
    exact ⟨b,q2,by rw [q3];simp⟩
  obtain ⟨b,e1,p1⟩:=pres j hj
  obtain ⟨b',e2,p2⟩:=pres j' hj'
  have o1:G.own b=some r:=by have:(ids[j]?).bind G.own=some r:=ho;rw [e1] at this;exact this
  have o2:G.own b'=some r:=by have:(ids[j']?).bind G.own=some r:=ho';rw [e2] at this;exact this
  have hb:=hs.inj b b' r p1 p2 o1 o2
  subst hb
  obtain ⟨l1,g1⟩:=List.getElem?_eq_some_iff.1 e1
  obtain ⟨l2,g2⟩:=List.getElem?_eq_some_iff.1 e2
  exact (List.getElem_inj hnd).1 (g1.trans g2.symm)
 ·have:ids.length≤j:=hj
  show (ids[j]?).bind G.mu=none
  rw [List.getElem?_eq_none this];rfl
 ·cases e:t.get j with
  | none=>exact e
  | some y=>
   obtain ⟨b,x,_,q2,_⟩:=jo h2 j y e
   have:ids.length≤j:=hj
   rw [Nat.sub_zero,List.getElem?_eq_none this] at q2
   cases q2
 ·obtain ⟨s,e1,e2⟩:=lL h1 t s' hs'
  obtain ⟨v,hv,hr⟩:=hf.rep t s e1
  exact ⟨v,hv,pL (G:=G) (G':=G.ren ids) rfl hm s s' v e2 hr⟩
theorem cR.XA (hs:cR B0 w0 G h w) {b:Nat} {x x':B} (hb:h.get b=some x) (hx:jG G B0 w b x'):cR B0 w0 G (h.put b x') w:=by
 have ne:∀ c,(h.put b x').get c≠none→h.get c≠none:=fun c hc e=>by
  rw [cN] at hc
  split at hc
  ·rename_i e';rw [← e',hb] at e;cases e
  ·exact hc e
 refine ⟨hs.below,hs.bB,fun c y hc=>?_,fun b1 b2 q h1 h2 h3 h4=>hs.inj b1 b2 q (ne _ h1) (ne _ h2) h3 h4,fun c hc=>⟨(hs.lo c hc).1,?_⟩,hs.b0,hs.gP,hs.bs⟩
 ·rw [cN] at hc
  split at hc
  ·rename_i e;subst e;obtain rfl:=Option.some.inj hc;exact hx
  ·exact hs.rep c y hc
 ·rw [cN,if_neg]
  ·exact (hs.lo c hc).2
  ·rintro rfl;rw [(hs.lo _ hc).2] at hb;cases hb
theorem R_ (hs:cR B0 w0 G h w) (sz:Nat):cR B0 w0 (G.with h.next (.slice none 0 0) none) ⟨h.next+1,h.tr.set h.next (some (.row false sz 0 fun i=>i.elim0))⟩ w:=by
 have hs1:cR B0 w0 G ⟨h.next+1,h.tr⟩ w:=⟨hs.below,hs.bB,hs.rep,hs.inj,fun b hb=>hs.lo b (by have:h.next+1≤b:=hb;omega),hs.b0,hs.gP,hs.bs⟩
 exact (hs1.renew (id:=h.next) (Nat.lt_succ_self _) (hs.lo _ (Nat.le_refl _)).1 (hs.lo _ (Nat.le_refl _)).2 (or:=none) (v:=.slice none 0 0) (fun _ _ _ _ e=>by cases e) (fun _ e=>by cases e)
  (fun _ _=>rfl) rfl rfl rfl rfl (.none (base:=none) (show (if _ then _ else _)=_ by rw [if_pos rfl]) (show (if _ then _ else _)=_ by rw [if_pos rfl]))).1
theorem Bu (t o sz:Nat) {st:St} (hs:cR B0 w0 G st.h w) (hf:cV nt G w st.fr a):∃ G',G'.bB=G.bB∧cR B0 w0 G' (qO t o sz st).h w∧cV nt G' w (qO t o sz st).fr a:=by
 have hm:=G.yO st.h.next (.slice none 0 0) none (hs.lo _ (Nat.le_refl _)).1
 have hn:=R_ hs sz
 have hmu:(G.with st.h.next (.slice none 0 0) none).mu st.h.next=some (.slice none 0 0):=show (if _ then _ else _)=_ by rw [if_pos rfl]
 have hf1:cV nt (G.with st.h.next (.slice none 0 0) none) w st.fr a:=cV.mono (G:=G) hf fun s v hr=>aY.mono (G:=G) (G':=G.with st.h.next (.slice none 0 0) none) (fun _ h=>h) (fun _ _=>rfl) hm hr
 unfold qO
 split
 ·rename_i he
  refine ⟨G.with st.h.next (.slice none 0 0) none,rfl,hn,hf1.size,fun t' s' hs'=>?_⟩
  rw [gV] at hs'
  split at hs'
  ·rename_i e
   subst e
   obtain rfl:=Option.some.inj hs'
   obtain ⟨v,hv,hr⟩:=hf.rep _ _ he
   obtain ⟨rfl,_⟩:=a_ hr
   exact ⟨_,hv,.sl hmu fun h=>absurd rfl h⟩
  ·exact hf1.rep _ _ hs'
 ·rename_i k b he
  split
  ·rename_i cs hb
   split
   ·rename_i hk
    have hne:st.h.next≠b:=fun e=>by rw [← e,(hs.lo _ (Nat.le_refl _)).2] at hb;cases hb
    have hb1:(⟨st.h.next+1,st.h.tr.set st.h.next (some (.row false sz 0 fun i=>i.elim0))⟩:Heap).get b=some (.box cs):=by
     show (st.h.tr.set _ _).get b=_
     rw [gV,if_neg hne];exact hb
    refine ⟨G.with st.h.next (.slice none 0 0) none,rfl,hn.XA hb1 ?_,hf1⟩
    have hr:=hn.rep b _ hb1
    cases hr with | box h1 h2 h3 hz hl hc hi hB=>
    refine .box h1 h2 h3 hz (by rw [List.length_set];exact hl) (fun j s hj=>?_) hi hB
    rw [List.getElem?_set] at hj
    split at hj
    ·rename_i e
     subst e
     split at hj
     ·obtain rfl:=Option.some.inj hj
      obtain ⟨v,hv,hsr⟩:=hc _ _ hk
      obtain ⟨rfl,_⟩:=a_ hsr
      exact ⟨_,hv,.sl hmu fun h=>absurd rfl h⟩
     ·cases hj
    ·exact hc j s hj
   ·exact ⟨G,rfl,hs,hf⟩
  ·exact ⟨G,rfl,hs,hf⟩
 ·exact ⟨G,rfl,hs,hf⟩
theorem nJ:∀ (l:List Nat) {G:Gh} {st:St},cR B0 w0 G st.h w→cV nt G w st.fr a→∃ G',G'.bB=G.bB∧cR B0 w0 G' (iJ l st).h w∧cV nt G' w (iJ l st).fr a
 | t::o::sz::r,G,st,hs,hf=>by
  obtain ⟨G1,e1,s1,f1⟩:=Bu t o sz hs hf
  obtain ⟨G2,e2,s2,f2⟩:=nJ r s1 f1
  exact ⟨G2,e2.trans e1,s2,f2⟩
 | [],G,st,hs,hf=>⟨G,rfl,hs,hf⟩
 | [_],G,st,hs,hf=>⟨G,rfl,hs,hf⟩
 | [_,_],G,st,hs,hf=>⟨G,rfl,hs,hf⟩
theorem oW {bO nils:List Nat} {st st':St} (hs:cR B0 w0 G st.h w) (hf:cV nt G w st.fr a) (hc:gX bO nils st=some st'):∃ G',G'.bB=G.bB∧cR B0 w0 G' st'.h w∧cV nt G' w st'.fr a:=by
 obtain ⟨st1,h1,rfl⟩:=Option.map_eq_some_iff.1 hc
 obtain ⟨G1,e1,s1,f1⟩:=CA hs hf h1
 obtain ⟨G2,e2,s2,f2⟩:=nJ nils s1 f1
 exact ⟨G2,e2.trans e1,s2,f2⟩
structure Xt (B0:Nat) (gc:Bool) (base:Nat) (G:Gh) (h:Heap) (w:World) (G':Gh) (h':Heap) (w':World):Prop where
 bB:∀ r,G.bB r→G'.bB r
 bO:∀ r,G.bB r→w'.heap[r]?=w.heap[r]?
 mu:gc=false→∀ b,b < base→G'.mu b=G.mu b
 r_:gc=false→∀ b,b < base→h.get b=none→h'.get b=none
 next:gc=false→base≤h'.next
 old:∀ q,G'.bB q→G.bB q∨B0≤q
 ld:db w w'
theorem Xt.trans {B0:Nat} {gc:Bool} {base:Nat} {G G1 G2:Gh} {h h1 h2:Heap} {w w1 w2:World} (x:Xt B0 gc base G h w G1 h1 w1) (y:Xt B0 gc base G1 h1 w1 G2 h2 w2):Xt B0 gc base G h w G2 h2 w2:=
 ⟨fun r hr=>y.bB r (x.bB r hr),fun r hr=>(y.bO r (x.bB r hr)).trans (x.bO r hr),fun e b hb=>(y.mu e b hb).trans (x.mu e b hb),fun e b hb hn=>y.r_ e b hb (x.r_ e b hb hn),y.next,fun q h=>(y.old q h).elim (x.old q) .inr,x.ld.trans y.ld⟩
def Ex.to:Ex→Exit
 | .normal=>.normal
 | .exit id=>.exit id
 | .ret=>.ret
theorem kG {E:Env} {f:FuncId} {gc:Bool} {key base:Nat} {st st1:St} (h1:fP E f gc key st=some st1) (hs:cR B0 w0 G st.h w) (hf:cV nt G w st.fr a) (hb:gc=false→base≤st.h.next):
  ∃ G1,cR B0 w0 G1 st1.h w∧cV nt G1 w st1.fr a∧Xt B0 gc base G st.h w G1 st1.h w:=by
 unfold fP at h1
 cases gc with
 | false=>
  obtain rfl:=Option.some.inj h1
  exact ⟨G,hs,hf,⟨fun _ h=>h,fun _ _=>rfl,fun _ _ _=>rfl,fun _ _ _ h=>h,hb,fun _ h=>.inl h,db.refl w⟩⟩
 | true=>
  simp only [cond_true] at h1
  split at h1
  ·obtain ⟨G1,i1,i2,i3⟩:=oW hs hf h1
   exact ⟨G1,i2,i3,⟨fun r hr=>by rw [i1];exact hr,fun _ _=>rfl,(fun e=>by cases e),(fun e=>by cases e),(fun e=>by cases e),fun q hq=>.inl (by rw [i1] at hq;exact hq),db.refl w⟩⟩
  ·obtain rfl:=Option.some.inj h1
   exact ⟨G,hs,hf,⟨fun _ h=>h,fun _ _=>rfl,(fun e=>by cases e),(fun e=>by cases e),(fun e=>by cases e),fun _ h=>.inl h,db.refl w⟩⟩
theorem jh {gc:Bool} {base:Nat} (hgc:gc=true):∀ (l:List Nat) {G:Gh} {st st1:St},iy l st=some st1→cR B0 w0 G st.h w→cV nt G w st.fr a→
  ∃ G1,cR B0 w0 G1 st1.h w∧cV nt G1 w st1.fr a∧Xt B0 gc base G st.h w G1 st1.h w
 | [],G,st,st1,h,hs,hf=>by
  obtain rfl:=Option.some.inj h
  subst hgc
  exact ⟨G,hs,hf,⟨fun _ h=>h,fun _ _=>rfl,(fun e=>by cases e),(fun e=>by cases e),(fun e=>by cases e),fun _ h=>.inl h,db.refl w⟩⟩
 | t::l,G,st,st1,h,hs,hf=>by
  unfold iy at h
  split at h
  ·rename_i s hg
   split at h
   ·rename_i x q hc
    cases hq:q.all (rowAt st.h.get) with
    | false=>rw [hq] at h;cases h
    | true=>
     rw [hq,cond_true] at h
     obtain ⟨f1,f2⟩:=hs.freeze q 0
     have lf:∀ r,l8 G st.h q r→(G.dJ st.h q).bB r:=fun r hr=>by
      rcases hr with hr | ⟨b,hb,hn,ho⟩
      ·exact .inl hr
      ·cases hx:st.h.get b with
       | none=>exact absurd hx hn
       | some y=>
        have:=List.all_eq_true.1 hq b hb
        unfold rowAt at this
        rw [hx] at this
        exact .inr ⟨b,hb,y,hx,this,ho⟩
     have hf1:cV nt (G.dJ st.h q) w (st.fr.set t (some x)) a:=by
      refine ⟨hf.size,fun t2 s2 h2=>?_⟩
      rw [gV] at h2
      split at h2
      ·rename_i e
       subst e
       obtain rfl:=Option.some.inj h2
       obtain ⟨v,hv,hr⟩:=hf.rep _ _ hg
       exact ⟨v,hv,e_ hs (fun _ _ h=>h) bZ s v _ q hc hr (G.dJ st.h q) lf⟩
      ·obtain ⟨v,hv,hr⟩:=hf.rep _ _ h2
       exact ⟨v,hv,hr.mono (G':=G.dJ st.h q) (fun _ h=>.inl h) (fun _ _=>rfl) fun _ _ h=>h⟩
     obtain ⟨G2,r1,r2,r3⟩:=jh hgc l (base:=base) h f1 hf1
     refine ⟨G2,r1,r2,Xt.trans (G1:=G.dJ st.h q) (h1:=st.h.freeze q) (w1:=w) ?_ r3⟩
     subst hgc
     exact ⟨f2.bB,f2.bO,(fun e=>by cases e),(fun e=>by cases e),(fun e=>by cases e),f2.old,db.refl w⟩
   ·cases h
  ·exact jh hgc l h hs hf
theorem vY {E:Env} {f:FuncId} {gc:Bool} {key base:Nat} {st st1:St} (h1:so E f gc key st=some st1) (hs:cR B0 w0 G st.h w) (hf:cV nt G w st.fr a) (hb:gc=false→base≤st.h.next):
  ∃ G1,cR B0 w0 G1 st1.h w∧cV nt G1 w st1.fr a∧Xt B0 gc base G st.h w G1 st1.h w:=by
 obtain ⟨st2,h2,h3⟩:=Option.bind_eq_some_iff.1 h1
 obtain ⟨G2,r1,r2,r3⟩:=kG h2 hs hf hb
 cases gc with
 | false=>
  obtain rfl:=Option.some.inj h3
  exact ⟨G2,r1,r2,r3⟩
 | true=>
  rw [cond_true] at h3
  obtain ⟨G3,q1,q2,q3⟩:=jh rfl _ (base:=base) h3 r1 r2
  exact ⟨G3,q1,q2,r3.trans q3⟩
def FR (ro:Option Nat):Fence:={ Fence.wide with round:=ro }
theorem Vh {ro:Option Nat} {n:Nat} {row:String} {args:Array Value} {R:Value→World→Prop} (h:Rows P row args w R):RowsIn (FR ro) n P row args w R:=fun c cs _=>by
 obtain ⟨v,w',r,s⟩:=h c cs
 exact ⟨v,w',r,(stepsIn_wide (P:=P)).2 s⟩
theorem QN {ro:Option Nat} {n:Nat} {f:FuncId} {args:Array Value} {R:Ending→World→Prop} (h:Calls P f args w R):CallsIn (FR ro) n P f args w R:=(callsIn_wide (n:=n)).2 h
theorem UI {ro:Option Nat} {n:Nat} {o:Oper} {K:Act→World→Prop} {Q:Exit→Act→World→Prop} (hd:Jj o) (h:o.wp P a w K Q):o.wpIn (FR ro) n P a w K Q:=by
 unfold Oper.wp at h
 unfold Oper.wpIn
 refine ⟨fun _ _=>trivial,?_⟩
 have e:o.semAt (FR ro).round a.eval=execOp a.eval o:=Oper.semAt_eq ro _ _ hd
 rw [e]
 generalize (execOp a.eval o).run P w=r at h ⊢
 cases r with
 | ok x w'=>
  cases x with
  | value v=>exact h
  | skip=>exact h
  | defer d=>exact h
  | enter f args=>exact ⟨(fun h=>by cases h),QN h⟩
  | row row args=>exact ⟨(fun h=>by cases h),Vh h⟩
  | _=>exact h.elim
 | halt x w'=>cases x<;>exact h
theorem QA {ro:Option Nat} {n:Nat} {ops:Array Oper} {i:Nat} {K K':Act→World→Prop} {Q:Exit→Act→World→Prop} (hK:∀ a w,K a w→K' a w) (h:tE P ops Q i K a w):wpOpIn (FR ro) n P ops Q i K' a w:=by
 unfold tE at h
 unfold wpOpIn
 cases ho:ops[i]? with
 | none=>rw [ho] at h;exact hK _ _ h
 | some o=>
  rw [ho] at h
  dsimp only at h ⊢
  split
  ·rename_i hw
   rw [if_pos hw] at h
   exact Oper.wpIn_mono hK (UI h.1 h.2)
  ·rename_i hw
   rw [if_neg hw] at h
   exact ⟨fun _ _=>trivial,hK _ _ h⟩
theorem IA {ro:Option Nat} {n:Nat} {ops:Array Oper} {Q:Exit→Act→World→Prop}:∀ {l:List Nat} {a:Act} {w:World},A0 P ops Q l a w→wpOpsIn (FR ro) n P ops Q l a w
 | [],_,_,h=>h
 | i::l,a,w,h=>by
  rw [wpOpsIn_cons]
  exact QA (fun a w h=>IA h) h
theorem I8 {ro:Option Nat} {n:Nat} {ops:Array Oper} {Q:Exit→Act→World→Prop}:∀ (fuel:Nat) (d:Array Bool) (a:Act) (w:World),Ip P ops Q fuel d a w→wpAnyIn (FR ro) n P .any ops Q fuel d a w
 | 0,_,_,_,h=>h
 | fuel+1,d,a,w,h=>⟨h.1,fun i hi=>QA (fun a w h=>I8 fuel _ a w h) (h.2 i hi)⟩
theorem zD {L:Nat} {V:World→Prop} {E:Env} (hE:kg V E) (hV:∀ w',Below B0 w0 w'→V w') {f:FuncId} {gc:Bool} {k base:Nat} {id:Nat} {ops:Array Oper} {draw:Bool} (hmix:E.P.follows .mixedOrders=true) (hok:fc E.inl (.region id ops draw)=true) {st st':St} {ex:Ex} (hx:exec E f nt gc k (.region id ops draw) st=some (ex,st'))
  (hs:cR B0 w0 G st.h w) (hf:cV nt G w st.fr a) (hb:gc=false→base≤st.h.next) (hmk:vJ L w a.defers) {ro:Option Nat} {n:Nat} {Q:Exit→Act→World→Prop} (hQ:∀ G' a' w',cR B0 w0 G' st'.h w'→cV nt G' w' st'.fr a'→Xt B0 gc base G st.h w G' st'.h w'→vJ L w' a'.defers→Q ex.to a' w'):(Code.region id ops draw).wpIn (FR ro) n E.P Q a w:=by
 unfold exec at hx
 obtain ⟨st1,h1⟩:∃ st1,st1=st:=⟨st,rfl⟩
 rw [← h1] at hx
 obtain ⟨st2,h2,e⟩:=Option.map_eq_some_iff.1 hx
 simp only [Prod.mk.injEq] at e
 obtain ⟨rfl,rfl⟩:=e
 have hclean:∃ G1,cR B0 w0 G1 st1.h w∧cV nt G1 w st1.fr a∧Xt B0 gc base G st.h w G1 st1.h w:=by
  subst h1
  exact ⟨G,hs,hf,⟨fun _ h=>h,fun _ _=>rfl,fun _ _ _=>rfl,fun _ _ _ h=>h,hb,fun _ h=>.inl h,db.refl w⟩⟩
 obtain ⟨G1,s1,f1,x1⟩:=hclean
 have s2:cR B0 w0 G1 ⟨st1.h.next+ops.size,st1.h.tr⟩ w:=⟨s1.below,s1.bB,s1.rep,s1.inj,fun b hb=>s1.lo b (by have:st1.h.next+ops.size≤b:=hb;omega),s1.b0,s1.gP,s1.bs⟩
 have free:∀ i,i < ops.size→st1.h.next+i < st1.h.next+ops.size∧G1.mu (st1.h.next+i)=none∧(Heap.mk (st1.h.next+ops.size) st1.h.tr).get (st1.h.next+i)=none:=fun i hi=>
  ⟨by omega,(s1.lo _ (by omega)).1,(s1.lo _ (by omega)).2⟩
 have fin:∀ {wx:World},wx.heap=w.heap→∀ G' a' w',cR B0 w0 G' st2.h w'→cV nt G' w' st2.fr a'→D9 B0 st1.h.next G1 ⟨st1.h.next+ops.size,st1.h.tr⟩ wx G' st2.h w'→vJ L w' a'.defers→Q .normal a' w':=by
  intro wx hwx G' a' w' q1 q2 q3 q4
  refine hQ G' a' w' q1 q2 (x1.trans ⟨q3.bB,fun r hr=>(q3.bO r hr).trans (by rw [hwx]),fun e b hb'=>q3.mu b ?_,fun e b hb' hn=>q3.r_ b ?_ hn,fun e=>?_,q3.old,fun k o hk hl=>q3.ld k o (by rw [hwx];exact hk) hl⟩) q4
  ·have:=x1.next e;omega
  ·have:=x1.next e;omega
  ·have:=x1.next e
   have:=q3.next
   simp only at this
   omega
 cases draw with
 | false=>
  refine wpIn_region (IA (py hE hV (dr:=false) (base:=st1.h.next) (stf:=st2) (G0:=G1) (h0:=⟨st1.h.next+ops.size,st1.h.tr⟩) (wb:=w) (fin rfl) (List.range ops.size) ⟨st1.fr,⟨st1.h.next+ops.size,st1.h.tr⟩⟩ G1 a w List.nodup_range ⟨s2,f1,fun i hi=>free i (List.mem_range.1 hi),by simp,hmk⟩ (D9.refl _ _ _ _ _) h2))
 | true=>
  simp only [fc,Bool.and_eq_true] at hok
  have e0:rest ops.size (Array.replicate ops.size false)=List.range ops.size:=by
   unfold rest
   rw [List.filter_eq_self]
   intro i hi
   have:=List.mem_range.1 hi
   simp [Array.getD_eq_getD_getElem?,this]
  refine wpIn_region_any hmix (I8 _ _ _ _ (Ch hE hV hok.1 hok.2 (base:=st1.h.next) (stf:=st2) (G0:=G1) (h0:=⟨st1.h.next+ops.size,st1.h.tr⟩) (wb:=w.drew) (fin rfl) ops.size (Array.replicate ops.size false) ⟨st1.fr,⟨st1.h.next+ops.size,st1.h.tr⟩⟩ G1 a w.drew (by simp) (fun i hi hd=>?_) (by rw [e0];simp) ⟨s2.drew,f1.mono (w':=w.drew) (fun s v hs=>aY.mono (w:=w) (w':=w.drew) (fun _ h=>h) (fun _ _=>rfl) (fun _ _ h=>h) hs),fun i hi=>free i (by rw [e0] at hi;exact List.mem_range.1 hi),by simp,hmk⟩ (D9.refl _ _ _ _ _) (by rw [e0];exact h2)))
  simp [Array.getD_eq_getD_getElem?,hi] at hd
end
end Go.Proofs.YtonkoellfaopiaaGreatDoor.H
