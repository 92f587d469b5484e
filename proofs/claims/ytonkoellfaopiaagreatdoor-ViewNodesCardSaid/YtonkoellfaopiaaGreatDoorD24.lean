import Derived.Test.YtonkoellfaopiaaGreatDoorD22
import Derived.Deep.LoopGhost
import Derived.Test.YtonkoellfaopiaaGreatDoorD21
import Derived.Test.YtonkoellfaopiaaGreatDoorD23
set_option linter.unusedSimpArgs false
set_option linter.unusedVariables false
set_option linter.unusedSectionVars false
namespace Go.Proofs.YtonkoellfaopiaaGreatDoor.H
open Go Go.Proofs Go.RowKit Go.Shelf
def Wr (n0:Nat) (w:World) (A:Option Addr) (n sz:Nat):Prop:=n≠0→∃ g o c ty fz,A=some ⟨g,o,none⟩∧n0≤g∧w.heap[g]?=some (.cells c ty fz)∧kZ c fz∧o+n*sz≤c.size
structure Cu (n0:Nat) (g:Nat) (w w':World):Prop where
 below:Below n0 w w'
 size:w'.heap.size=w.heap.size
 Co:∀ k,k≠g→w'.heap[k]?=w.heap[k]?
 same:∀ c ty fz,w.heap[g]?=some (.cells c ty fz)→∃ c',w'.heap[g]?=some (.cells c' ty fz)∧c'.size=c.size
theorem Wr.wrote {n0 g n sz:Nat} {w w':World} {A:Option Addr} (h:Wr n0 w A n sz) (hw:Cu n0 g w w'):Wr n0 w' A n sz:=fun hn=>by
 obtain ⟨q,o,c,ty,fz,e,hq,hb,hf,hl⟩:=h hn
 by_cases hg:q=g
 ·subst hg
  obtain ⟨c',h1,h2⟩:=hw.same c ty fz hb
  refine ⟨q,o,c',ty,fz,e,hq,h1,?_,by omega⟩
  unfold kZ at hf ⊢
  omega
 ·exact ⟨q,o,c,ty,fz,e,hq,(hw.Co q hg).trans hb,hf,hl⟩
theorem Wr.after {n0 n sz:Nat} {w w':World} {A:Option Addr} (h:Wr n0 w A n sz) (hw:Below w.heap.size w w'):Wr n0 w' A n sz:=fun hn=>by
 obtain ⟨q,o,c,ty,fz,e,hq,hb,hf,hl⟩:=h hn
 exact ⟨q,o,c,ty,fz,e,hq,(hw.block q (Array.getElem?_eq_some_iff.1 hb).1).trans hb,hf,hl⟩
theorem qT {n0 n sz:Nat} {w:World} {A:Option Addr} (z:ByteArray) (h:Wr n0 w A n sz) (hn:n≠0):∃ g o,A=some ⟨g,o,none⟩∧n0≤g∧g < w.heap.size∧
  ∀ i,i < n*sz→∃ w',(Instr.storeAt 9 (.pointer (some ⟨g,o+i,none⟩)) (.string z)).run Tryz.prog w=.ok () w'∧Cu n0 g w w':=by
 obtain ⟨g,o,c,ty,fz,e,hq,hb,hf,hl⟩:=h hn
 refine ⟨g,o,e,hq,(Array.getElem?_eq_some_iff.1 hb).1,fun i hi=>?_⟩
 obtain ⟨ie,hie⟩:∃ ie,Tryz.prog.info? 9=some ie:=Option.isSome_iff_exists.1 (by kernel_rfl)
 obtain ⟨w',c',hrun,hb',hc',hsz',hk,hsz,hos,hta,hou⟩:=gm (P:=Tryz.prog) (o:=o+i) (us:=[.string z]) hb hf (by simp;omega) (fun u hu=>by rw [List.mem_singleton.1 hu];rfl)
 have hlen:(Value.string z).cells.size=Tryz.prog.cellsOf 9:=by kernel_rfl
 refine ⟨w',?_,⟨hos,hta,hou,by omega,fun k hk'=>hk k (by omega)⟩,hsz,hk,fun c2 ty2 fz2 h2=>?_⟩
 ·have hc:(Value.string z).cells.toList=[.string z]:=rfl
  simp only [Instr.storeAt,Instr.sureAddr,Sem.run_bind,Sem.run_pure,Result.andThen_ok,storeVar,run_sizeOf w hie,hlen,ne_eq,not_true_eq_false,if_false,hc,hrun]
 ·rw [hb] at h2
  injection h2 with h2
  injection h2 with h3 h4 h5
  subst h3 h4 h5
  exact ⟨c',hb',hsz'⟩
structure Nd (n0:Nat) (w:World) (g a:Nat) (v:Nat→Value) (A9 A15 A20:Option Addr) (n9 n15 n20 c9 c15 c20:Nat):Prop where
 cell:∀ k,k < 21→w.cell? ⟨g,a+k,none⟩=some (v k)
 one:∀ k,k < 21→(v k).oneCell'=true
 v9:v 9=.slice A9 n9 c9
 dn:v 15=.slice A15 n15 c15
 v20:v 20=.slice A20 n20 c20
 w9:Wr n0 w A9 n9 3
 w15:Wr n0 w A15 n15 2
 w20:Wr n0 w A20 n20 1
 f9:n9≠0→∀ x,A9=some x→x.block≠g
 f15:n15≠0→∀ x,A15=some x→x.block≠g
 f20:n20≠0→∀ x,A20=some x→x.block≠g
 l9:n9≤1000000
 l15:n15≤1000000
 l20:n20≤1000000
def Nds (n0:Nat) (w:World) (A:Option Addr) (n:Nat):Prop:=n≠0→∃ g o,A=some ⟨g,o,none⟩∧g < w.heap.size∧∀ i,i < n→∃ v A9 A15 A20 n9 n15 n20 c9 c15 c20,Nd n0 w g (o+i*21) v A9 A15 A20 n9 n15 n20 c9 c15 c20
theorem Nd.wrote {n0 g a q:Nat} {w w':World} {v:Nat→Value} {A9 A15 A20:Option Addr} {n9 n15 n20 c9 c15 c20:Nat} (h:Nd n0 w g a v A9 A15 A20 n9 n15 n20 c9 c15 c20) (hw:Cu n0 q w w') (hg:g≠q):Nd n0 w' g a v A9 A15 A20 n9 n15 n20 c9 c15 c20:=
 ⟨fun k hk=>(cell_of_heap (a:=⟨g,a+k,none⟩) (hw.Co g hg)).trans (h.cell k hk),h.one,h.v9,h.dn,h.v20,h.w9.wrote hw,h.w15.wrote hw,h.w20.wrote hw,h.f9,h.f15,h.f20,h.l9,h.l15,h.l20⟩
theorem Nd.after {n0 g a:Nat} {w w':World} {v:Nat→Value} {A9 A15 A20:Option Addr} {n9 n15 n20 c9 c15 c20:Nat} (h:Nd n0 w g a v A9 A15 A20 n9 n15 n20 c9 c15 c20) (hw:Below w.heap.size w w') (hg:g < w.heap.size):Nd n0 w' g a v A9 A15 A20 n9 n15 n20 c9 c15 c20:=
 ⟨fun k hk=>(cell_of_heap (a:=⟨g,a+k,none⟩) (hw.block g hg)).trans (h.cell k hk),h.one,h.v9,h.dn,h.v20,h.w9.after hw,h.w15.after hw,h.w20.after hw,h.f9,h.f15,h.f20,h.l9,h.l15,h.l20⟩
theorem Nds.wrote {n0 n q:Nat} {w w':World} {A:Option Addr} (h:Nds n0 w A n) (hw:Cu n0 q w w') (hg:∀ x,A=some x→x.block≠q):Nds n0 w' A n:=fun hn=>by
 obtain ⟨g,o,e,hlt,hi⟩:=h hn
 refine ⟨g,o,e,by rw [hw.size];exact hlt,fun i hi2=>?_⟩
 obtain ⟨v,A9,A15,A20,n9,n15,n20,c9,c15,c20,hd⟩:=hi i hi2
 exact ⟨v,A9,A15,A20,n9,n15,n20,c9,c15,c20,hd.wrote hw (hg _ e)⟩
theorem Nds.after {n0 n:Nat} {w w':World} {A:Option Addr} (h:Nds n0 w A n) (hw:Below w.heap.size w w'):Nds n0 w' A n:=fun hn=>by
 obtain ⟨g,o,e,hlt,hi⟩:=h hn
 refine ⟨g,o,e,Nat.lt_of_lt_of_le hlt hw.size,fun i hi2=>?_⟩
 obtain ⟨v,A9,A15,A20,n9,n15,n20,c9,c15,c20,hd⟩:=hi i hi2
 exact ⟨v,A9,A15,A20,n9,n15,n20,c9,c15,c20,hd.after hw hlt⟩
structure In (n0:Nat) (w0:World) (A:Option Addr) (n p:Nat) (v:Nat→Value) (A9 A15 A20:Option Addr) (n9 n15 n20:Nat) (w:World):Prop where
 below:Below n0 w0 w
 nds:Nds n0 w A n
 cell:∀ k,k < 21→w.cell? ⟨p,k,none⟩=some (v k)
 w9:Wr n0 w A9 n9 3
 w15:Wr n0 w A15 n15 2
 w20:Wr n0 w A20 n20 1
theorem In.wrote {n0:Nat} {w0:World} {A:Option Addr} {n p:Nat} {v:Nat→Value} {A9 A15 A20:Option Addr} {n9 n15 n20:Nat} {w w':World} (h:In n0 w0 A n p v A9 A15 A20 n9 n15 n20 w) {q:Nat} (hw:Cu n0 q w w') (hq:q < p) (hg:∀ x,A=some x→x.block≠q):In n0 w0 A n p v A9 A15 A20 n9 n15 n20 w':=
 ⟨h.below.trans hw.below,h.nds.wrote hw hg,fun k hk=>(cell_of_heap (a:=⟨p,k,none⟩) (hw.Co p (by omega))).trans (h.cell k hk),h.w9.wrote hw,h.w15.wrote hw,h.w20.wrote hw⟩
theorem tX {j:Nat} (h:j < 1000000000):wrap64 ((j:Int)+1)=((j+1:Nat):Int):=by
 unfold wrap64
 omega
section
variable {P:Program} {ops:Array Oper} {rest:List Oper} {o:Oper} {a:Act} {Q:Exit→Act→World→Prop} {w:World}
theorem mH {N:Tmp} (_hN:o.dst=some N) (h:wpList P ops Q (o::rest) a w):wpList P ops Q (o::rest) a w:=h
theorem lA {t:TypeId} {p:Tmp} {v:Operand} (_ho:o.op=.store t (.tmp p) v) (h:wpList P ops Q (o::rest) a w):wpList P ops Q (o::rest) a w:=h
theorem nw {w1:World} {v:Value} (hgd:o.guard=none) (hrun:(execOp a.eval o).run P w=.ok (.value v) w1) (h:wpList P ops Q rest (a.put o.dst v) w1):wpList P ops Q (o::rest) a w:=by
 refine wpList_plain hgd fun K hK=>?_
 unfold Oper.wp
 rw [hrun]
 exact hK _ _ h
theorem ke {w1:World} (hgd:o.guard=none) {t:TypeId} {p:Tmp} {x:Operand} (ho:o.op=.store t (.tmp p) x) (hN:o.dst=none) {vp vx:Value} (hp:a.eval (.tmp p)=vp) (hx:a.eval x=vx)
  (hrun:(Instr.storeAt t vp vx).run P w=.ok () w1) (h:wpList P ops Q rest a w1):wpList P ops Q (o::rest) a w:=by
 refine wpList_plain hgd fun K hK=>?_
 unfold Oper.wp
 have e:(execOp a.eval o).run P w=.ok .skip w1:=by
  obtain ⟨dst,op,type,pos,after,guard⟩:=o
  simp only at ho hN
  subst ho hN
  simp only [execOp,hp,hx,Sem.run_bind,hrun,Result.andThen_ok,Sem.run_pure]
 rw [e]
 show K (a.put o.dst undef) w1
 rw [hN]
 exact hK _ _ h
end
def BV (v:Nat→Value):List Value:=(List.range 21).map v
theorem loadT {t n:Nat} {w:World} {g q:Nat} {v:Nat→Value} (hval:mA Tryz.prog t ((List.range n).map fun k=>S.t (.v (v k)))=some (.agg ((List.range n).map fun k=>S.t (.v (v k)))))
  (hc:∀ k,k < n→w.cell? ⟨g,q+k,none⟩=some (v k)) (h1:∀ k,k < n→(v k).oneCell'=true):
  ∃ u:Array Value,(Instr.loadAt t (.pointer (some ⟨g,q,none⟩))).run Tryz.prog w=.ok (.agg u) w∧u.toList=(List.range n).map v:=by
 have hcr:vn (Gh.bare fun _=>False) w g q ((List.range n).map fun k=>S.t (.v (v k))):=fun k s hk=>by
  rw [List.getElem?_map] at hk
  obtain ⟨j,hj,rfl⟩:=Option.map_eq_some_iff.1 hk
  have hk21:k < n:=by
   have:=(List.getElem?_eq_some_iff.1 hj).1
   simpa using this
  rw [List.getElem?_range hk21] at hj
  obtain rfl:=Option.some.inj hj
  exact ⟨v k,hc k hk21,.t (.v _ (h1 k hk21))⟩
 obtain ⟨x,hx,hr⟩:=rN (P:=Tryz.prog) hcr hval
 cases hr with | agg hl h=>
 rename_i vs
 refine ⟨vs,by simp only [Instr.loadAt,Instr.sureAddr,Sem.run_bind,Sem.run_pure,Result.andThen_ok,hx],?_⟩
 have hl':vs.size=n:=by simpa using hl.symm
 refine List.ext_getElem (by simpa using hl') fun k h2 h3=>?_
 have hk:k < n:=by simpa using h3
 have hs:=h k (.t (.v (v k))) (vs[k]'(by omega)) (by rw [List.getElem?_map,List.getElem?_range hk];rfl) (by rw [Array.getElem?_eq_getElem])
 obtain ⟨e,_⟩:=a_ hs
 simpa using e
theorem acC {w:World} {g q:Nat} {v:Nat→Value} (hc:∀ k,k < 21→w.cell? ⟨g,q+k,none⟩=some (v k)) (h1:∀ k,k < 21→(v k).oneCell'=true):
  ∃ u:Array Value,(Instr.loadAt 55 (.pointer (some ⟨g,q,none⟩))).run Tryz.prog w=.ok (.agg u) w∧u.toList=BV v:=loadT (by kernel_rfl) hc h1
theorem WY (a:Act) (o:Oper) (ho:o.op=.alloc 55) (w:World):∃ c:Array Value,c.size=21∧(execOp a.eval o).run Tryz.prog w=.ok (.value (.pointer (some ⟨w.heap.size,0,none⟩))) (w.alloc (.cells c 55)):=by
 obtain ⟨dst,op,type,pos,after,guard⟩:=o
 simp only at ho
 subst ho
 obtain ⟨z,hz⟩:∃ z,mS Tryz.prog 55=some z:=Option.isSome_iff_exists.1 (by kernel_rfl)
 obtain ⟨i,v,hi,hv,rfl⟩:=gD hz
 have hd:∃ v',(Tryz.prog.info? 55).bind (·.zero)=some v'∧v'.cells.size=21:=by
  have:((Tryz.prog.info? 55).bind (·.zero)).any (fun v=>v.cells.size.beq 21)=true:=by kernel_rfl
  cases e:(Tryz.prog.info? 55).bind (·.zero) with
  | none=>rw [e] at this;cases this
  | some v'=>rw [e] at this;exact ⟨v',rfl,Nat.eq_of_beq_eq_true this⟩
 obtain ⟨v',e,hsz⟩:=hd
 rw [hi] at e
 obtain rfl:v=v':=by simpa [hv] using e
 refine ⟨v.cells,hsz,?_⟩
 simp only [execOp,Instr.alloc,Sem.run_bind,eH hi hv,Result.andThen_ok,newVar,newRow,run_newObj,Sem.run_pure]
 rfl
theorem UU {w:World} {c u:Array Value} {v:Nat→Value} (hu:u.toList=BV v) (h1:∀ k,k < 21→(v k).oneCell'=true) {p:Nat} {ty:TypeId} (hb:w.heap[p]?=some (.cells c ty (0,0))) (hc:c.size=21):
  ∃ w2,(Instr.storeAt 55 (.pointer (some ⟨p,0,none⟩)) (.agg u)).run Tryz.prog w=.ok () w2∧(∀ k,k < 21→w2.cell? ⟨p,k,none⟩=some (v k))∧Below p w w2∧w2.heap.size=w.heap.size:=by
 obtain ⟨ie,hie⟩:∃ ie,Tryz.prog.info? 55=some ie:=Option.isSome_iff_exists.1 (by kernel_rfl)
 have hone:∀ x∈(Value.agg u).cells.toList,x.oneCell'=true:=fun x hx=>by
  have hx:x∈u.toList:=hx
  rw [hu] at hx
  obtain ⟨k,hk,rfl⟩:=List.mem_map.1 hx
  exact h1 k (List.mem_range.1 hk)
 have hl:u.toList.length=21:=by rw [hu];simp [BV]
 have hlc:(Value.agg u).cells.toList.length=21:=hl
 obtain ⟨w',c',hrun,hb',hc',hsz',hk,hsz,hos,hta,hou⟩:=gm (P:=Tryz.prog) (o:=0) (us:=(Value.agg u).cells.toList) hb (.inl (Nat.le_refl 0)) (by omega) hone
 have hlen:(Value.agg u).cells.size=Tryz.prog.cellsOf 55:=by
  rw [show Tryz.prog.cellsOf 55=21 by kernel_rfl]
  simpa using hlc
 refine ⟨w',?_,fun k hk21=>?_,⟨hos,hta,hou,by omega,fun k hk'=>hk k (by omega)⟩,hsz⟩
 ·simp only [Instr.storeAt,Instr.sureAddr,Sem.run_bind,Sem.run_pure,Result.andThen_ok,storeVar,run_sizeOf w hie,hlen,ne_eq,not_true_eq_false,if_false,hrun]
 ·rw [eB hb',← Array.getElem?_toList,hc']
  have:=sw (Value.agg u).cells.toList c.toList 0 k (by rw [hlc];simpa using (Nat.le_of_eq hc.symm)) (by omega)
  rw [Nat.zero_add] at this
  rw [this]
  show u.toList[k]?=_
  rw [hu]
  unfold BV
  rw [List.getElem?_map,List.getElem?_range hk21]
  rfl
section
variable {ops:Array Oper} {rest:List Oper} {o:Oper} {a:Act} {Q:Exit→Act→World→Prop} {w:World}
theorem LR (hgd:o.guard=none) {x:Operand} (ho:o.op=.load 55 x) {g q:Nat} {u:Array Value} (hld:(Instr.loadAt 55 (.pointer (some ⟨g,q,none⟩))).run Tryz.prog w=.ok (.agg u) w) (hp:a.eval x=.pointer (some ⟨g,q,none⟩))
  (h:wpList Tryz.prog ops Q rest (a.put o.dst (.agg u)) w):wpList Tryz.prog ops Q (o::rest) a w:=by
 refine nw hgd (v:=.agg u) (w1:=w) ?_ h
 obtain ⟨dst,op,type,pos,after,guard⟩:=o
 simp only at ho
 subst ho
 simp only [execOp,hp,Sem.run_bind,hld,Result.andThen_ok,Sem.run_pure]
theorem Gt (hgd:o.guard=none) (ho:o.op=.alloc 55)
  (h:∀ p c w1,p=w.heap.size→c.size=21→w1.heap[p]?=some (.cells c 55 (0,0))→Below w.heap.size w w1→w1.heap.size=p+1→wpList Tryz.prog ops Q rest (a.put o.dst (.pointer (some ⟨p,0,none⟩))) w1):wpList Tryz.prog ops Q (o::rest) a w:=by
 obtain ⟨c,hc,hrun⟩:=WY a o ho w
 exact nw hgd hrun (h _ c _ rfl hc (jw w _) ((Below.refl _ w).alloc (Nat.le_refl _) _) (by show (w.heap.push _).size=_;simp))
theorem GV (hgd:o.guard=none) {pt:Tmp} {x:Operand} (ho:o.op=.store 55 (.tmp pt) x) (hN:o.dst=none) {p:Nat} {c u:Array Value} {v:Nat→Value} (hu:u.toList=BV v) (h1:∀ k,k < 21→(v k).oneCell'=true)
  (hb:w.heap[p]?=some (.cells c 55 (0,0))) (hc:c.size=21) (hp:a.eval (.tmp pt)=.pointer (some ⟨p,0,none⟩)) (hx:a.eval x=.agg u)
  (h:∀ w2,(∀ k,k < 21→w2.cell? ⟨p,k,none⟩=some (v k))→Below p w w2→w2.heap.size=w.heap.size→wpList Tryz.prog ops Q rest a w2):wpList Tryz.prog ops Q (o::rest) a w:=by
 obtain ⟨w2,hrun,q1,q2,q3⟩:=UU hu h1 hb hc
 exact ke hgd ho hN hp hx hrun (h w2 q1 q2 q3)
end
set_option maxRecDepth 100000 in
set_option maxHeartbeats 4000000 in
theorem U6 (n0:Nat) (w:World) (A:Option Addr) (n c:Nat) (hn:n≤1000000) (hA:Nds n0 w A n) (h0:n0≤w.heap.size):
  Calls Tryz.prog 14 #[.slice A n c] w fun e w'=>e=.returned (.tuple #[])∧Below n0 w w':=by
 have HN:=aI.mk hn
 have HA0:=aI.mk hA
 have H0:=aI.mk h0
 clear hn hA h0
 go_enter Tryz.func14,Tryz.ntmps14
 go_wp2
 go_loopg [9] (n+1) (fun kq v9 w'=>∃ (i:Nat),v9=.int .i64 (i:Int)∧aI (kq+i=n+1)∧aI (i≤n)∧aI (Below n0 w w')∧aI (Nds n0 w' A n))
 case atStart=>exact ⟨0,rfl,⟨rfl⟩,⟨Nat.zero_le _⟩,⟨Below.refl _ _⟩,HA0⟩
 case round=>
  obtain ⟨i,rfl,HK,HI,HB,HD⟩:=hrel
  cases gk with
  | zero=>exact absurd HK.out (by have:=HI.out;omega)
  | succ k1=>
   by_cases c5:i < n
   ·have c5':(i:Int) < (n:Int):=by omega
    have p0:(0:Int)≤(i:Int):=by omega
    obtain ⟨g,o,e1,hlt,hnd⟩:=HD.out (by omega)
    subst e1
    obtain ⟨v,A9,A15,A20,n9,n15,n20,c9,c15,c20,hd⟩:=hnd i c5
    have HD1:=aI.mk hd
    have HLT:=aI.mk hlt
    obtain ⟨u,hld,hu⟩:=acC hd.cell hd.one
    have HLD:=aI.mk hld
    have HU:=aI.mk hu
    have hiw:wrap64 ((i:Int)+1)=((i+1:Nat):Int):=tX (by have:=HN.out;omega)
    clear hd hnd hlt hld hu
    go_wp2_with (first
     | ((with_reducible refine mH (N:=12) rfl ?_);refine LR rfl rfl HLD.out rfl ?_)
     | ((with_reducible refine mH (N:=3) rfl ?_);refine Gt rfl rfl ?_;intro p c0 w1 hpe hc0 hb1 hbe hsz
        have HP:=aI.mk hpe;have HC0:=aI.mk hc0;have HB1:=aI.mk hb1;have HBE:=aI.mk hbe;have HSZ:=aI.mk hsz;clear hpe hc0 hb1 hbe hsz)
     | ((with_reducible refine lA (p:=3) rfl ?_);refine GV rfl rfl rfl HU.out HD1.out.one HB1.out HC0.out rfl rfl ?_;intro w2 hce hbe2 hsz2
        have HCE:=aI.mk hce
        have HBX:=aI.mk (show Below wr.heap.size wr w2 from HBE.out.trans (HP.out ▸ hbe2))
        have HS2:=aI.mk hsz2
        have HIN:aI (In n0 w (some ⟨g,o,none⟩) n p v A9 A15 A20 n9 n15 n20 w2):=aI.mk ⟨HB.out.trans (HBX.out.mono (Nat.le_trans H0.out HB.out.size)),HD.out.after HBX.out,HCE.out,HD1.out.w9.after HBX.out,HD1.out.w15.after HBX.out,HD1.out.w20.after HBX.out⟩
        have z20:w2.cell? ⟨p,20,none⟩=some (.slice A20 n20 c20):=(HIN.out.cell 20 (by decide)).trans (congrArg some HD1.out.v20)
        clear hce hbe2 hsz2))
    have HL20:aI (n20≠0→∀ x,A20=some x→x.block < p):=aI.mk fun hz x hx=>by
     obtain ⟨q,qo,c,ty,fz,e,_,hb,_⟩:=HD1.out.w20 hz
     rw [e] at hx;cases hx;rw [HP.out];exact (Array.getElem?_eq_some_iff.1 hb).1
    have HL15:aI (n15≠0→∀ x,A15=some x→x.block < p):=aI.mk fun hz x hx=>by
     obtain ⟨q,qo,c,ty,fz,e,_,hb,_⟩:=HD1.out.w15 hz
     rw [e] at hx;cases hx;rw [HP.out];exact (Array.getElem?_eq_some_iff.1 hb).1
    have HL9:aI (n9≠0→∀ x,A9=some x→x.block < p):=aI.mk fun hz x hx=>by
     obtain ⟨q,qo,c,ty,fz,e,_,hb,_⟩:=HD1.out.w9 hz
     rw [e] at hx;cases hx;rw [HP.out];exact (Array.getElem?_eq_some_iff.1 hb).1
    go_loopg [16] (n20+1) (fun kq2 v2 w'=>∃ (j:Nat),v2=.int .i64 (j:Int)∧aI (kq2+j=n20+1)∧aI (j≤n20)∧aI (In n0 w (some ⟨g,o,none⟩) n p v A9 A15 A20 n9 n15 n20 w'))
    case atStart=>exact ⟨0,rfl,⟨rfl⟩,⟨Nat.zero_le _⟩,HIN⟩
    case round=>
     clear z20
     obtain ⟨j,rfl,HK20,HJ20,HI20⟩:=hrel
     have z20:wr.cell? ⟨p,20,none⟩=some (.slice A20 n20 c20):=(HI20.out.cell 20 (by decide)).trans (congrArg some HD1.out.v20)
     cases gk with
     | zero=>exact absurd HK20.out (by have:=HJ20.out;omega)
     | succ k2=>
      by_cases c6:j < n20
      ·have c6':(j:Int) < (n20:Int):=by omega
       have j0:(0:Int)≤(j:Int):=by omega
       have hjw:wrap64 ((j:Int)+1)=((j+1:Nat):Int):=tX (by have:=HD1.out.l20;omega)
       have HL0:=aI.mk (HL20.out (by omega))
       have HF0:=aI.mk (HD1.out.f20 (by omega))
       obtain ⟨gq,oq,eA,hq0,hqlt,hst⟩:=qT ⟨#[122,122]⟩ HI20.out.w20 (by omega)
       subst eA
       obtain ⟨w3,hrun,hwr⟩:=hst (j) (by omega)
       have HRUN:=aI.mk hrun
       have HWR:=aI.mk hwr
       have HI3:aI (In n0 w (some ⟨g,o,none⟩) n p v A9 A15 (some ⟨gq,oq,none⟩) n9 n15 n20 w3):=aI.mk (HI20.out.wrote hwr (HL0.out _ rfl) (fun x hx=>by cases hx;exact fun e=>HF0.out _ rfl e.symm))
       clear hst hrun hwr hq0 hqlt
       go_wp2_with ((with_reducible refine lA (p:=22) rfl ?_);refine ke rfl rfl rfl (vp:=.pointer (some ⟨gq,oq+(j),none⟩)) (by first | rfl | (simp;done) | (simp;omega)) rfl HRUN.out ?_)
       go_roundg k2
       case measure=>have:=HK20.out;omega
       case rel=>exact ⟨j+1,(by first | rfl | (simp;done) | (simp [*];done)),⟨by have:=HK20.out;omega⟩,⟨by omega⟩,HI3⟩
      ·have c6':¬ (j:Int) < (n20:Int):=by omega
       have z15:wr.cell? ⟨p,15,none⟩=some (.slice A15 n15 c15):=(HI20.out.cell 15 (by decide)).trans (congrArg some HD1.out.dn)
       go_wp2
       go_loopg [27] (n15+1) (fun kq2 v2 w'=>∃ (j:Nat),v2=.int .i64 (j:Int)∧aI (kq2+j=n15+1)∧aI (j≤n15)∧aI (In n0 w (some ⟨g,o,none⟩) n p v A9 A15 A20 n9 n15 n20 w'))
       case atStart=>exact ⟨0,rfl,⟨rfl⟩,⟨Nat.zero_le _⟩,HI20⟩
       case round=>
        clear z15
        obtain ⟨j,rfl,HK15,HJ15,HI15⟩:=hrel
        have z15:wr.cell? ⟨p,15,none⟩=some (.slice A15 n15 c15):=(HI15.out.cell 15 (by decide)).trans (congrArg some HD1.out.dn)
        cases gk with
        | zero=>exact absurd HK15.out (by have:=HJ15.out;omega)
        | succ k2=>
         by_cases c6:j < n15
         ·have c6':(j:Int) < (n15:Int):=by omega
          have j0:(0:Int)≤(j:Int):=by omega
          have hjw:wrap64 ((j:Int)+1)=((j+1:Nat):Int):=tX (by have:=HD1.out.l15;omega)
          have HL0:=aI.mk (HL15.out (by omega))
          have HF0:=aI.mk (HD1.out.f15 (by omega))
          obtain ⟨gq,oq,eA,hq0,hqlt,hst⟩:=qT ⟨#[122,122]⟩ HI15.out.w15 (by omega)
          subst eA
          obtain ⟨w3,hrun,hwr⟩:=hst (j*2+1) (by omega)
          have HRUN:=aI.mk hrun
          have HWR:=aI.mk hwr
          have HI3:aI (In n0 w (some ⟨g,o,none⟩) n p v A9 (some ⟨gq,oq,none⟩) A20 n9 n15 n20 w3):=aI.mk (HI15.out.wrote hwr (HL0.out _ rfl) (fun x hx=>by cases hx;exact fun e=>HF0.out _ rfl e.symm))
          clear hst hrun hwr hq0 hqlt
          go_wp2_with ((with_reducible refine lA (p:=34) rfl ?_);refine ke rfl rfl rfl (vp:=.pointer (some ⟨gq,oq+(j*2+1),none⟩)) (by first | rfl | (simp;done) | (simp;omega)) rfl HRUN.out ?_)
          go_roundg k2
          case measure=>have:=HK15.out;omega
          case rel=>exact ⟨j+1,(by first | rfl | (simp;done) | (simp [*];done)),⟨by have:=HK15.out;omega⟩,⟨by omega⟩,HI3⟩
         ·have c6':¬ (j:Int) < (n15:Int):=by omega
          have z9:wr.cell? ⟨p,9,none⟩=some (.slice A9 n9 c9):=(HI15.out.cell 9 (by decide)).trans (congrArg some HD1.out.v9)
          go_wp2
          go_loopg [40] (n9+1) (fun kq2 v2 w'=>∃ (j:Nat),v2=.int .i64 (j:Int)∧aI (kq2+j=n9+1)∧aI (j≤n9)∧aI (In n0 w (some ⟨g,o,none⟩) n p v A9 A15 A20 n9 n15 n20 w'))
          case atStart=>exact ⟨0,rfl,⟨rfl⟩,⟨Nat.zero_le _⟩,HI15⟩
          case round=>
           clear z9
           obtain ⟨j,rfl,HK9,HJ9,HI9⟩:=hrel
           have z9:wr.cell? ⟨p,9,none⟩=some (.slice A9 n9 c9):=(HI9.out.cell 9 (by decide)).trans (congrArg some HD1.out.v9)
           cases gk with
           | zero=>exact absurd HK9.out (by have:=HJ9.out;omega)
           | succ k2=>
            by_cases c6:j < n9
            ·have c6':(j:Int) < (n9:Int):=by omega
             have j0:(0:Int)≤(j:Int):=by omega
             have hjw:wrap64 ((j:Int)+1)=((j+1:Nat):Int):=tX (by have:=HD1.out.l9;omega)
             have HL0:=aI.mk (HL9.out (by omega))
             have HF0:=aI.mk (HD1.out.f9 (by omega))
             obtain ⟨gq,oq,eA,hq0,hqlt,hst⟩:=qT ⟨#[122,122]⟩ HI9.out.w9 (by omega)
             subst eA
             obtain ⟨w3,hrun,hwr⟩:=hst (j*3) (by omega)
             have HRUN:=aI.mk hrun
             have HWR:=aI.mk hwr
             have HI3:aI (In n0 w (some ⟨g,o,none⟩) n p v (some ⟨gq,oq,none⟩) A15 A20 n9 n15 n20 w3):=aI.mk (HI9.out.wrote hwr (HL0.out _ rfl) (fun x hx=>by cases hx;exact fun e=>HF0.out _ rfl e.symm))
             clear hst hrun hwr hq0 hqlt
             go_wp2_with ((with_reducible refine lA (p:=48) rfl ?_);refine ke rfl rfl rfl (vp:=.pointer (some ⟨gq,oq+(j*3),none⟩)) (by first | rfl | (simp;done) | (simp;omega)) rfl HRUN.out ?_)
             go_roundg k2
             case measure=>have:=HK9.out;omega
             case rel=>exact ⟨j+1,(by first | rfl | (simp;done) | (simp [*];done)),⟨by have:=HK9.out;omega⟩,⟨by omega⟩,HI3⟩
            ·have c6':¬ (j:Int) < (n9:Int):=by omega
             go_wp2
             go_roundg k1
             case measure=>have:=HK.out;omega
             case rel=>exact ⟨i+1,(by first | rfl | (simp;done) | (simp [*];done)),⟨by have:=HK.out;omega⟩,⟨by omega⟩,⟨HI9.out.below⟩,⟨HI9.out.nds⟩⟩
   ·have c5':¬ (i:Int) < (n:Int):=by omega
    go_wp2
    go_end0
    exact ⟨rfl,HB.out⟩
end Go.Proofs.YtonkoellfaopiaaGreatDoor.H
namespace Go.Proofs.YtonkoellfaopiaaGreatDoor.H
open Go
noncomputable section
theorem aa8 {f:FuncId} {sz n:Nat} {g:Fin n→List T} {sz0 n0:Nat} {g0:Fin n0→List T} {rest:List S} (hs:wh O.P f=none) (hz:sz0=sz) (h:ca f (.t (.rows sz0 n0 g0)::rest) (.t (.rows sz n g))):
  ∃ y:Y,S.t (.rows sz (y.r 0).n (y.r 0).g)=S.t (.rows sz n g)∧∀ (ρ:Type) (K:Y→Option ρ),yC (aa O) f (.t (.rows sz0 n0 g0)::rest) K=K y:=by
 subst hz
 have hA:shA O.P f (.t (.rows sz0 n0 g0)::rest)=some (.rows sz0 0):=by unfold shA;rw [hs]
 have hx:∃ y:Y,build y (.rows sz0 0)=.t (.rows sz0 n g):=⟨⟨fun _=>0,fun _=>false,fun _=>⟨#[]⟩,fun _=>⟨n,g⟩,fun _=>[]⟩,rfl⟩
 refine ⟨hx.choose,hx.choose_spec,fun ρ K=>?_⟩
 have hr:aa O f (.t (.rows sz0 n0 g0)::rest)=some hx.choose:=by
  unfold aa
  rw [hA,show (W O).aE f (.t (.rows sz0 n0 g0)::rest)=some (.t (.rows sz0 n g)) from h]
  dsimp only
  rw [dif_pos hx]
 unfold yC
 rw [hr]
 rfl
theorem DT {sz n m:Nat} {g:Fin n→List T} {g':Fin m→List T} (h:S.t (.rows sz n g)=S.t (.rows sz m g')):S.top sz n g=S.top sz m g':=by
 simp only [S.t.injEq,T.rows.injEq,true_and] at h
 obtain ⟨rfl,h⟩:=h
 obtain rfl:=eq_of_heq h
 rfl
theorem HM {f:FuncId} {args:List S} {sz n:Nat} {g:Fin n→List T} (hs:wh O.P f=some (.top sz 0)) (h:ca f args (.top sz n g)):∃ y:Y,S.top sz (y.r 0).n (y.r 0).g=S.top sz n g∧∀ (ρ:Type) (K:Y→Option ρ),yC (aa O) f args K=K y:=by
 obtain ⟨y,h1,h2⟩:=iR (y0:=⟨fun _=>0,fun _=>false,fun _=>⟨#[]⟩,fun _=>⟨n,g⟩,fun _=>[]⟩) hs h
 exact ⟨y,h1,h2⟩
def NJ (l:List (ByteArray × ByteArray)):S:=.top 2 l.length fun i=>[.v (.string (l[i.1]'i.2).1),.v (.string (l[i.1]'i.2).2)]
theorem Kx:∀ {n:Nat} {g:Fin n→List T} {l:List (ByteArray × ByteArray)},l.length=n→(∀ (i:Nat) (h:i < n),Bx (g ⟨i,h⟩)=l[i]?)→yY (kf n g)=some l
 | 0,g,[],_,_=>rfl
 | 0,g,_::_,h,_=>by cases h
 | n+1,g,[],h,_=>by cases h
 | n+1,g,x::l,h,hg=>by
  have h0:=hg 0 (Nat.succ_pos _)
  have ih:=Kx (n:=n) (g:=fun i=>g i.succ) (l:=l) (by simpa using h) fun i hi=>by
   have:=hg (i+1) (by omega)
   simpa using this
  show (match Bx (g 0),yY (kf n fun i=>g i.succ) with
   | some x,some l=>some (x::l)
   | _,_=>none)=_
  rw [ih,show Bx (g 0)=some x from h0]
theorem mL:∀ {l:List ByteArray},dG l=true↔l.Nodup
 | []=>⟨fun _=>List.nodup_nil,fun _=>rfl⟩
 | k::r=>by
  unfold dG
  rw [Bool.and_eq_true,Bool.not_eq_true',List.nodup_cons,mL (l:=r),List.any_eq_false]
  refine and_congr ⟨fun h hk=>?_,fun h x hx e=>?_⟩ Iff.rfl
  ·exact h k hk (dc.2 rfl)
  ·rw [dc] at e;exact h (e ▸ hx)
def oz (o:bu) (bV name:ByteArray):List (ByteArray × ByteArray):=[(bs [104,111,115,116],name),(bs [107,105,110,100],o.bn),(bs [112,111,111,108],bV),(bs [116,121,112,101],o.fType),(bs [122,111,110,101],o.bj)]
def jU (r:Rw ch):List (ByteArray × ByteArray):=(List.range r.n).map fun j=>((r.at j).aZ,(r.at j).cP)
def gC (r:Rw ch) (o:bu) (bV name:ByteArray):List (ByteArray × ByteArray):=oz o bV name++jU r
theorem nz (r:Rw ch):(jU r).length=r.n:=by unfold jU;simp
theorem sV (r:Rw ch) (o:bu) (bV name:ByteArray):(gC r o bV name).length=5+r.n:=by unfold gC;rw [List.length_append,nz];rfl
theorem oC {r:Rw ch} (h:js r=0) (o:bu) (bV name:ByteArray):r.n≤4∧((gC r o bV name).map (·.1)).Nodup:=by
 unfold js at h
 cases hm:decide (4 < r.n) with
 | true=>rw [hm] at h;exact absurd (show (3:Int)=0 from h) (by decide)
 | false=>
  rw [hm,cond_false] at h
  have hf:=fK.1 h
  refine ⟨by have:=of_decide_eq_false hm;omega,?_⟩
  have hj:∀ j,j < r.n→zq (r.at j).aZ=false∧∀ i,i < j→ah (r.at i).aZ (r.at j).aZ=false:=fun j hj=>by
   have:=hf j hj
   unfold mZ at this
   simp only [bQ] at this
   have h1:=(dm (show (1:Int)≠0 by decide)).1 this.2.1
   have h2:=(dm (show (6:Int)≠0 by decide)).1 this.2.2.2
   rw [Bool.not_eq_true'] at h1 h2
   exact ⟨h1,fun i hi=>by simpa using List.any_eq_false.1 h2 i (List.mem_range.2 hi)⟩
  unfold gC
  rw [List.map_append,List.nodup_append]
  refine ⟨?_,?_,?_⟩
  ·show [bs [104,111,115,116],bs [107,105,110,100],bs [112,111,111,108],bs [116,121,112,101],bs [122,111,110,101]].Nodup
   exact mL.1 (by kernel_rfl)
  ·unfold jU
   rw [List.map_map]
   show List.Pairwise (·≠·) _
   rw [List.pairwise_iff_getElem]
   intro i j hi hjl hij
   have hj1:j < r.n:=by simpa using hjl
   have:=(hj j hj1).2 i hij
   rw [Cf] at this
   simpa using this
  ·intro x hx y hy e
   subst e
   unfold jU at hy
   rw [List.map_map] at hy
   obtain ⟨j,hjr,rfl⟩:=List.mem_map.1 hy
   have:=(hj j (List.mem_range.1 hjr)).1
   unfold zq at this
   have hne:=List.any_eq_false.1 this (r.at j).aZ
   have hin:(r.at j).aZ∈MX:=by
    unfold MX
    unfold oz at hx
    simp only [List.map_cons,List.map_nil,List.mem_cons,List.not_mem_nil,or_false,Function.comp] at hx ⊢
    rcases hx with h | h | h | h | h<;>simp [h]
   exact hne hin (dc.2 rfl)
theorem yg (r:Rw ch) (o:bu) (bV name:ByteArray) (h:∀ i:Fin 5,(fun i:Fin 5=>List.take 2 (List.drop (i.1*2) [ts (bs [104,111,115,116]),ts name,ts (bs [107,105,110,100]),ts o.bn,ts (bs [112,111,111,108]),ts bV,ts (bs [116,121,112,101]),ts o.fType,ts (bs [122,111,110,101]),ts o.bj])) i=[ts ((oz o bV name)[i.1]'(by have:=i.2;exact this)).1,ts ((oz o bV name)[i.1]'(by have:=i.2;exact this)).2]):
  yY (kf (bC 5 r.n) (bo (fun i:Fin 5=>List.take 2 (List.drop (i.1*2) [ts (bs [104,111,115,116]),ts name,ts (bs [107,105,110,100]),ts o.bn,ts (bs [112,111,111,108]),ts bV,ts (bs [116,121,112,101]),ts o.fType,ts (bs [122,111,110,101]),ts o.bj])) fun i=>dv (r.get i)))=some (gC r o bV name):=by
 refine Kx (sV r o bV name) fun i hi=>?_
 unfold bo
 by_cases h5:i < 5
 ·rw [dif_pos h5]
  have:=h ⟨i,h5⟩
  rw [this]
  have h5':i < (oz o bV name).length:=h5
  unfold gC
  rw [List.getElem?_append_left h5',List.getElem?_eq_getElem h5']
  rfl
 ·rw [dif_neg h5]
  have hi2:i - 5 < r.n:=by have:i < 5+r.n:=hi;omega
  show Bx (dv (r.get ⟨i - 5,_⟩))=_
  rw [get_at]
  show some ((r.at (i - 5)).aZ,(r.at (i - 5)).cP)=_
  have h5':(oz o bV name).length≤i:=by show 5≤i;omega
  unfold gC
  rw [List.getElem?_append_right h5',show (oz o bV name).length=5 from rfl]
  unfold jU
  rw [List.getElem?_map,List.getElem?_range hi2]
  rfl
theorem uj (o:bu) (bV name:ByteArray) (i:Fin 5):(fun i:Fin 5=>List.take 2 (List.drop (i.1*2) [ts (bs [104,111,115,116]),ts name,ts (bs [107,105,110,100]),ts o.bn,ts (bs [112,111,111,108]),ts bV,ts (bs [116,121,112,101]),ts o.fType,ts (bs [122,111,110,101]),ts o.bj])) i=[ts ((oz o bV name)[i.1]'(by have:=i.2;exact this)).1,ts ((oz o bV name)[i.1]'(by have:=i.2;exact this)).2]:=by
 match i with
 | ⟨0,_⟩=>rfl
 | ⟨1,_⟩=>rfl
 | ⟨2,_⟩=>rfl
 | ⟨3,_⟩=>rfl
 | ⟨4,_⟩=>rfl
def ai3 (p:oN):Mi:=⟨p.1.af,p.1.a6,p.1.a8,p.1.cx,p.1.cv,p.1.aS,p.1.aF,p.2.bj,p.2.bn,p.2.bG,p.2.CB⟩
theorem c84 (p:oN) (o:bu) (bV name:ByteArray) (h:js p.1.aS=0):ca 84 [mF p,ag (bS o),ss bV,ss name] (NJ (fG (gC p.1.aS o bV name))):=by
 obtain ⟨h4,hnd⟩:=oC h o bV name
 have hF:ca 2000133 [S.t (T.rows 2 (bC 5 p.1.aS.n) (bo (fun i:Fin 5=>List.take 2 (List.drop (i.1*2) [ts (bs [104,111,115,116]),ts name,ts (bs [107,105,110,100]),ts o.bn,ts (bs [112,111,111,108]),ts bV,ts (bs [116,121,112,101]),ts o.fType,ts (bs [122,111,110,101]),ts o.bj])) fun i=>dv (p.1.aS.get i))),S.t (T.v (.func (Go.Fn.func 134) #[] #[]))] (qM (fG (gC p.1.aS o bV name))):=by
  refine wL (F:=WH) rfl ?_
  show (bif (bC 5 p.1.aS.n).ble 1048576 then (match yY (kf (bC 5 p.1.aS.n) _) with
   | some l=>bif dG (l.map (·.1)) then some (qM (fG l)) else none
   | none=>none) else none)=_
  rw [yg _ o bV name (uj o bV name)]
  have e1:(bC 5 p.1.aS.n).ble 1048576=true:=by rw [Nat.ble_eq];unfold bC;omega
  have e2:dG ((gC p.1.aS o bV name).map (·.1))=true:=mL.2 hnd
  rw [e1,cond_true]
  dsimp only
  rw [e2,cond_true]
 obtain ⟨y,hy,hK⟩:=aa8 (by kernel_rfl) rfl hF
 refine W84 (ai3 p) o bV name 0 _ ?_
 have f:bY (bC 5 p.1.aS.n) 32=true:=by
  unfold bY bC bE
  rw [Bool.and_eq_true,Nat.ble_eq,Nat.ble_eq]
  omega
 show (bif bY (bC 5 p.1.aS.n) 32 then _ else none)=_
 rw [f,cond_true]
 refine (hK S _).trans ?_
 exact congrArg some (DT hy)
theorem EG {ρ:Type} {l:List oN} {b:bu} {p:oN} (h:l.find? (fun q=>dV b (keyOf q))=some p):∃ y:Y,build y uJ=mF p∧∀ (Kt:Y→Option ρ) (Kf:Option ρ),lookW O.P O.K 47 141 (gh l) (ag (bS b)) Kt Kf=Kt y:=by
 obtain ⟨k,hk⟩:=tH h 0
 obtain ⟨y,hy,he⟩:=nF (sh:=uJ) (y:=VE p)
 have hb:build (VE p) uJ=mF p:=rfl
 rw [hb] at hy he
 refine ⟨y,he,fun Kt Kf=>?_⟩
 unfold lookW
 rw [Er,hk]
 dsimp only
 rw [hy]
 rfl
theorem agL {f:FuncId} {args:List S} {sz n:Nat} {g:Fin n→List T} (hs:wh O.P f=some (.rows sz 0)) (h:ca f args (.t (.rows sz n g))):∃ y:Y,S.t (.rows sz (y.r 0).n (y.r 0).g)=S.t (.rows sz n g)∧∀ (ρ:Type) (K:Y→Option ρ),yC (aa O) f args K=K y:=by
 obtain ⟨y,h1,h2⟩:=iR (y0:=⟨fun _=>0,fun _=>false,fun _=>⟨#[]⟩,fun _=>⟨n,g⟩,fun _=>[]⟩) hs h
 exact ⟨y,h1,h2⟩
def nR (a:Rw aV) (o:bu) (bV name:ByteArray):List (ByteArray × ByteArray):=match iF a o with
 | some p=>fG (gC p.1.aS o bV name)
 | none=>[]
theorem oc {a:Rw aV} (ha:dX a=0) {o:bu} {p:oN} (h:iF a o=some p):js p.1.aS=0:=by
 have hm:p∈vU a:=List.mem_of_find?_eq_some h
 unfold vU at hm
 rw [cJ.2 ha,cond_true] at hm
 obtain ⟨i,hi,hm⟩:=List.mem_flatMap.1 hm
 obtain ⟨k,_,rfl⟩:=List.mem_map.1 hm
 have hi:=List.mem_range.1 hi
 have h:=ha
 unfold dX at h
 cases hm:decide (12 < a.n) with
 | true=>rw [hm] at h;exact absurd (show (3:Int)=0 from h) (by decide)
 | false=>
  rw [hm,cond_false] at h
  have:=fK.1 h i hi
  unfold pT at this
  have:=(bQ.1 this).1
  unfold kT at this
  simp only [bQ] at this
  exact this.2.2.2.2.1
theorem c39 (a:Rw aV) (o:bu) (bV name:ByteArray) (ha:ga eQ a) (ht:dX a=0) (ho:hasB a o=true):ca 39 [S.t (T.rows 7 a.n fun i=>bk (a.get i)),ag (bS o),ss bV,ss name] (NJ (nR a o bV name)):=by
 obtain ⟨y,hy,hK⟩:=tB (by kernel_rfl) (c83 a ha)
 obtain ⟨p,hp⟩:=Option.isSome_iff_exists.1 (show (iF a o).isSome=true from ho)
 have hl:=oc ht hp
 obtain ⟨x,hx,hM⟩:=EG (ρ:=S) (show (vU a).find? (fun q=>dV o (keyOf q))=some p from hp)
 obtain ⟨z,hz,hL⟩:=HM (by kernel_rfl) (c84 p o bV name hl)
 refine W39 a o bV name 0 _ ?_
 simp only [ET,hK,hy,hM]
 have hx2:S.agg [ss (x.s 0),ii (x.i 1),ii (x.i 2),ii (x.i 3),ii (x.i 4),S.t (T.rows 2 (x.r 5).n (x.r 5).g),S.t (T.rows 4 (x.r 6).n (x.r 6).g),ss (x.s 7),ss (x.s 8),ii (x.i 9),bb (x.b 10)]=mF p:=hx
 rw [hx2,hL]
 unfold nR
 rw [hp]
 exact congrArg some hz
structure qb (a:aP):Prop where
 types:dX a.aw=0
 qR:a.an.n≤24
 jg:a.ae.n≤16
 Pw:∀ j,j < a.ae.n→eE a j=0
 pod:∀ j,j < a.an.n→oX a j=0
theorem aaQ {a:aP} (h:fH a=0):qb a:=by
 unfold fH gd at h
 simp only [bQ,fK] at h
 obtain ⟨_,h1,h2,_,h3,h4,_⟩:=h
 have h2:=(dm (by decide)).1 h2
 unfold Ma at h2
 simp only [Bool.and_eq_true,decide_eq_true_eq] at h2
 exact ⟨h1,h2.1,h2.2.2.1,h3,h4⟩
theorem Ci {x:Int} (h:rh x=0):0≤x∧x≤1125899906842624:=by
 unfold rh at h
 cases h1:bm x 0 with
 | true=>rw [h1] at h;exact absurd (show (11:Int)=0 from h) (by decide)
 | false=>
  rw [h1,cond_false] at h
  cases h2:bl x 1125899906842624 with
  | true=>rw [h2] at h;exact absurd (show (10:Int)=0 from h) (by decide)
  | false=>
   have:=of_decide_eq_false h1
   have:=of_decide_eq_false h2
   omega
theorem wu {x z:Int} (h:kl x z=0):(0≤x∧x≤1125899906842624)∧0≤z∧z≤1125899906842624:=by
 unfold kl at h
 cases h1:aR (rh x) 0 with
 | true=>
  rw [h1] at h
  exact ⟨Ci (cJ.1 h1),Ci (show rh z=0 from h)⟩
 | false=>
  rw [h1] at h
  have:=k_.1 h1
  exact absurd (show rh x=0 from h) this
theorem qb.WS {a:aP} (h:qb a) {j:Nat} (hj:j < a.an.n):(0≤(a.an.at j).dj∧(a.an.at j).dj≤1125899906842624)∧0≤(a.an.at j).dk∧(a.an.at j).dk≤1125899906842624:=by
 have:=h.pod j hj
 unfold oX at this
 have:=(bQ.1 this).1
 unfold BW at this
 simp only [bQ] at this
 exact wu this.2.1
theorem qb.cap {a:aP} (h:qb a) {j:Nat} (hj:j < a.ae.n):(0≤(a.ae.at j).a6∧(a.ae.at j).a6≤1125899906842624)∧0≤(a.ae.at j).a8∧(a.ae.at j).a8≤1125899906842624:=by
 have:=h.Pw j hj
 unfold eE at this
 have:=(bQ.1 this).1
 unfold ku at this
 simp only [bQ] at this
 exact wu this.2.2.1
theorem qb.has {a:aP} (h:qb a) {j:Nat} (hj:j < a.ae.n):hasB a.aw (lB (a.ae.at j))=true:=by
 have:=h.Pw j hj
 unfold eE at this
 simp only [bQ] at this
 have:=(dm (by decide)).1 this.2.2.1
 simp only [Bool.and_eq_true] at this
 exact this.2.1
theorem qb.opts {a:aP} (h:qb a) {j:Nat} (hj:j < a.ae.n):(a.ae.at j).bh.n≤72:=by
 have:=h.Pw j hj
 unfold eE at this
 have:=(bQ.1 this).1
 unfold ku at this
 simp only [bQ] at this
 have:=this.2.2.2.1
 unfold fx at this
 cases hm:decide (72 < (a.ae.at j).bh.n) with
 | true=>rw [hm] at this;exact absurd (show (3:Int)=0 from this) (by decide)
 | false=>have:=of_decide_eq_false hm;omega
theorem jt {n n':Nat} {g:Fin n→List T} {g':Fin n'→List T} (h:n=n') (hg:∀ (i:Nat) (h1:i < n) (h2:i < n'),g ⟨i,h1⟩=g' ⟨i,h2⟩):(⟨n,g⟩:bN)=⟨n',g'⟩:=by
 subst h
 congr 1
 funext i
 exact hg i.1 i.2 i.2
theorem TS {sz n:Nat} {g:Fin n→List T} {r:bN} (h:S.t (.rows sz r.n r.g)=S.t (.rows sz n g)):r=⟨n,g⟩:=by
 obtain ⟨m,g'⟩:=r
 simp only [S.t.injEq,T.rows.injEq,true_and] at h
 obtain ⟨rfl,h⟩:=h
 obtain rfl:=eq_of_heq h
 rfl
theorem vo {sz n:Nat} {g:Fin n→List T} {r:bN} (h:S.top sz r.n r.g=S.top sz n g):r=⟨n,g⟩:=by
 obtain ⟨m,g'⟩:=r
 simp only [S.top.injEq,true_and] at h
 obtain ⟨rfl,h⟩:=h
 obtain rfl:=eq_of_heq h
 rfl
def l6 (l:List ByteArray):bN:=⟨l.length,fun i=>[ts (l[i.1]'i.2)]⟩
theorem tz:(⟨0,fT⟩:bN)=l6 []:=jt rfl fun i h=>by cases h
theorem Xl {k:Nat} {c:List T} (hc:c.length=k) (i:Fin 1):List.take k (List.drop (i.1*k) c)=c:=by
 have:i.1=0:=by omega
 rw [this,Nat.zero_mul,List.drop_zero,List.take_of_length_le (by omega)]
theorem kX {n m:Nat} {g:Fin n→List T} {g':Fin m→List T} {i:Nat} (h:i < n+m) (h1:i < n):bo g g' ⟨i,h⟩=g ⟨i,h1⟩:=dif_pos h1
theorem iZ {n k:Nat} {g:Fin n→List T} {c:List T} (hc:c.length=k) {i:Nat} (h:i < n+1) (hi:¬ i < n):bo g (fun i:Fin 1=>List.take k (List.drop (i.1*k) c)) ⟨i,h⟩=c:=by
 unfold bo
 rw [dif_neg hi]
 exact Xl hc ⟨i - n,by omega⟩
theorem C5 (l:List ByteArray) (x:ByteArray):(⟨bC (l6 l).n 1,bo (l6 l).g fun i:Fin 1=>List.take 1 (List.drop (i.1*1) [ts x])⟩:bN)=l6 (l++[x]):=by
 refine jt (by unfold l6 bC;simp) fun i h1 h2=>?_
 have h3:i < (l++[x]).length:=h2
 by_cases h:i < l.length
 ·refine (kX (m:=1) h1 h).trans ?_
  show [ts l[i]]=[ts ((l++[x])[i]'h3)]
  rw [List.getElem_append_left h]
 ·refine (iZ (g:=(l6 l).g) (k:=1) (c:=[ts x]) rfl h1 h).trans ?_
  have hi:i=l.length:=by rw [List.length_append] at h3;simp at h3;omega
  subst hi
  show [ts x]=[ts ((l++[x])[l.length]'h3)]
  rw [List.getElem_append_right (Nat.le_refl _)]
  simp
theorem SG (x:ByteArray):(⟨bC 0 1,bo fT fun i:Fin 1=>List.take 1 (List.drop (i.1*1) [ts x])⟩:bN)=l6 [x]:=by
 refine jt rfl fun i h1 h2=>?_
 refine (iZ (g:=fT) (k:=1) (c:=[ts x]) rfl h1 (Nat.not_lt_zero _)).trans ?_
 have:i=0:=by have:i < 0+1:=h1;omega
 subst this
 rfl
theorem r7 {j n:Nat}:bm (ay j) (ay n)=decide (j < n):=aq
theorem wI {ρ:Type} {j n:Nat} {K:(ay j).toNat < n→Option ρ} (h:j < n):aU (ay j) n K=K (by simpa [ay] using h):=av h
theorem JU {α:Type} [Inhabited α] {a:Rw α} {j:Nat} {h:(ay j).toNat < a.n}:a.get (Fin.mk (ay j).toNat h)=a.at j:=aK
theorem IV (v k:Int):(Bool.rec (motive:=fun _=>Int) v k (decide (k > v)):Int)=max v k:=by
 by_cases h:k > v
 ·rw [show decide (k > v)=true from decide_eq_true h];show k=max v k;omega
 ·rw [show decide (k > v)=false from decide_eq_false h];show v=max v k;omega
theorem Jb (v k:Int):(Bool.rec (motive:=fun _=>Int) v k (decide (k < v)):Int)=min v k:=by
 by_cases h:k < v
 ·rw [show decide (k < v)=true from decide_eq_true h];show k=min v k;omega
 ·rw [show decide (k < v)=false from decide_eq_false h];show v=min v k;omega
theorem eZ {n b:Nat} (h:n*b≤1000000) (hn:n≤1000000):bY n b=true:=by
 unfold bY bE
 rw [Bool.and_eq_true,Nat.ble_eq,Nat.ble_eq]
 omega
def BI (a:aP) (nm:ByteArray) (m:Nat):Bool:=ah (a.an.at m).jI nm
def iq (k:Nat) (p:fB):Int:=match k with | 0=>p.dj | _=>p.dk
def bU (a:aP) (nm:ByteArray) (k:Nat):Nat→Int
 | 0=>0
 | m+1=>bif BI a nm m then min 1125899906842624 (bU a nm k m+iq k (a.an.at m)) else bU a nm k m
def eu (a:aP) (nm:ByteArray):Nat→List ByteArray
 | 0=>[]
 | m+1=>bif BI a nm m then eu a nm m++[(a.an.at m).af] else eu a nm m
theorem lK (a:aP) (nm:ByteArray):∀ m,(eu a nm m).length≤m
 | 0=>Nat.le_refl 0
 | m+1=>by
  have:=lK a nm m
  unfold eu
  cases BI a nm m with
  | true=>rw [cond_true,List.length_append];simp;omega
  | false=>rw [cond_false];omega
theorem dM {a:aP} (h:qb a) (nm:ByteArray) (k:Nat):∀ m,m≤a.an.n→0≤bU a nm k m∧bU a nm k m≤1125899906842624
 | 0,_=>⟨Int.le_refl 0,show (0:Int)≤1125899906842624 by decide⟩
 | m+1,hm=>by
  have ih:=dM h nm k m (by omega)
  have hn:=h.WS (j:=m) (by omega)
  have hk:0≤iq k (a.an.at m)∧iq k (a.an.at m)≤1125899906842624:=by
   unfold iq
   split
   ·exact hn.1
   ·exact hn.2
  unfold bU
  cases BI a nm m with
  | true=>rw [cond_true];omega
  | false=>rw [cond_false];exact ih
def YY (l:List (ByteArray × ByteArray)):Rw ch:=⟨l.length,fun i=>⟨(l[i.1]'i.2).1,(l[i.1]'i.2).2⟩⟩
def cU (a:aP) (nm:ByteArray) (k:Nat):Int:=bU a nm k a.an.n
def p_ (a:aP) (nm:ByteArray):List ByteArray:=eu a nm a.an.n
def SK (a:aP) (c:cQ):gM:=⟨c.af,c.bc,c.dB,c.al,c.aj,c.ak,c.bG,c.a6,c.a8,c.bh,c.dQ,c.eG,c.bM,c.dD,c.dE,YY (nR a.aw (lB c) c.bc c.af),cU a c.af 0,cU a c.af 1,max 0 (c.a6 - cU a c.af 0),max 0 (c.a8 - cU a c.af 1),nK (p_ a c.af)⟩
def lW (a:aP) (j:Nat):gM:=SK a (a.ae.at j)
def qL (a:aP):Rw gM:=⟨a.ae.n,fun i=>lW a i.1⟩
def f55 (x:gM):List T:=[.v (.string x.iO),.v (.string x.iP),.v (.int .i64 x.jF),.v (.string x.eh),.v (.string x.d_),.v (.string x.ea),.v (.int .i64 x.gS),.v (.int .i64 x.gY),.v (.int .i64 x.gW),.fr 3 x.bw.n (fun i=>bS (x.bw.get i)),.v (.int .i64 x.jM),.v (.string x.kH),.v (.int .i64 x.gZ),.v (.int .i64 x.iY),.v (.bool x.gl),.fr 2 x.aS.n (fun i=>dv (x.aS.get i)),.v (.int .i64 x.pZ),.v (.int .i64 x.p6),.v (.int .i64 x.pk),.v (.int .i64 x.pd),.fr 1 x.an.n (fun i=>e9 (x.an.get i))]
def h55 (x:gM):List T:=[.v (.string x.iO),.v (.string x.iP),.v (.int .i64 x.jF),.v (.string x.eh),.v (.string x.d_),.v (.string x.ea),.v (.int .i64 x.gS),.v (.int .i64 x.gY),.v (.int .i64 x.gW),.rows 3 x.bw.n (fun i=>bS (x.bw.get i)),.v (.int .i64 x.jM),.v (.string x.kH),.v (.int .i64 x.gZ),.v (.int .i64 x.iY),.v (.bool x.gl),.rows 2 x.aS.n (fun i=>dv (x.aS.get i)),.v (.int .i64 x.pZ),.v (.int .i64 x.p6),.v (.int .i64 x.pk),.v (.int .i64 x.pd),.fr 1 x.an.n (fun i=>e9 (x.an.get i))]
def kR (a:aP) (m:Nat):bN:=⟨m,fun i=>f55 (lW a i.1)⟩
theorem PY (a:aP) (m:Nat):(⟨bC (kR a m).n 1,bo (kR a m).g fun i:Fin 1=>List.take 21 (List.drop (i.1*21) (f55 (lW a m)))⟩:bN)=kR a (m+1):=by
 refine jt rfl fun i h1 h2=>?_
 by_cases h:i < m
 ·exact kX (n:=m) (m:=1) h1 h
 ·refine (iZ (g:=(kR a m).g) (k:=21) (c:=f55 (lW a m)) rfl h1 h).trans ?_
  have:i < m+1:=h1
  obtain rfl:i=m:=by omega
  rfl
abbrev rwO (c:cQ):bN:=⟨c.bh.n,fun i=>bS (c.bh.get i)⟩
abbrev me (a:aP) (c:cQ):bN:=⟨(YY (nR a.aw (lB c) c.bc c.af)).n,fun i=>dv ((YY (nR a.aw (lB c) c.bc c.af)).get i)⟩
theorem c40 (r:Rw bu) (h:r.n≤72):∃ y:Y,y.r 0=⟨r.n,fun i=>bS (r.get i)⟩∧∀ (ρ:Type) (K:Y→Option ρ),yC (aa O) 40 [S.t (T.rows 3 r.n fun i=>bS (r.get i))] K=K y:=by
 have hr:ca 40 [S.t (T.rows 3 r.n fun i=>bS (r.get i))] (S.top 3 r.n fun i=>bS (r.get i)):=by
  refine wL (F:=A3 3 48) rfl ?_
  show (bif Nat.beq 3 3 && (r.n*48).ble 140737488355328 then _ else none)=_
  rw [show (Nat.beq 3 3 && (r.n*48).ble 140737488355328)=true by rw [Bool.and_eq_true,Nat.ble_eq];exact ⟨rfl,by omega⟩]
  rfl
 obtain ⟨y,hy,hK⟩:=HM (by kernel_rfl) hr
 exact ⟨y,vo hy,hK⟩
theorem Ny {a:aP} (ok:qb a) {j:Nat} (hj:j < a.ae.n) {c:cQ} (ec:a.ae.at j=c) (m:Nat):
  (fy (aa O) a (m+3)).x2 c c.af c.bc c.dB c.al c.aj c.ak c.bG c.a6 c.a8 (rwO c) c.dQ c.eG c.bM c.dD c.dE (me a c) (l6 (p_ a c.af)) (cU a c.af 0) (cU a c.af 1) (j:Int) (kR a j)
   = (fy (aa O) a m).x0 ((j+1:Nat):Int) (kR a (j+1)):=by
 have hj2:j < 2 ^ 62:=by have:=ok.jg;omega
 have hc:=ok.cap hj
 rw [ec] at hc
 have u0:=dM ok c.af 0 a.an.n (Nat.le_refl _)
 have u1:=dM ok c.af 1 a.an.n (Nat.le_refl _)
 have s0:bF .i64 c.a6 (cU a c.af 0)=c.a6 - cU a c.af 0:=by unfold bF cU;exact i64_in (by omega)
 have s1:bF .i64 c.a8 (cU a c.af 1)=c.a8 - cU a c.af 1:=by unfold bF cU;exact i64_in (by omega)
 have f:bY (bC (kR a j).n 1) 264=true:=eZ (by have:=ok.jg;show (j+1)*264≤_;omega) (by have:=ok.jg;show j+1≤_;omega)
 have e:=PY a j
 have en:f55 (lW a j)=f55 (SK a c):=by unfold lW;rw [ec]
 rw [en] at e
 have h5:(fy (aa O) a (m+1)).x5 (l6 (p_ a c.af)) c.af c.bc c.dB c.al c.aj c.ak c.bG c.a6 c.a8 (rwO c) c.dQ c.eG c.bM c.dD c.dE (me a c) (cU a c.af 0) (cU a c.af 1) (max 0 (c.a6 - cU a c.af 0)) (max 0 (c.a8 - cU a c.af 1)) (j:Int) (kR a j)
   = (fy (aa O) a m).x0 ((j+1:Nat):Int) (kR a (j+1)):=by
  rw [fy]
  generalize fy (aa O) a m=X
  simp only [vP,Nr,Cs,f,cond_true,aA hj2]
  exact congrArg (X.x0 _) e
 have h4:(fy (aa O) a (m+2)).x4 c c.af c.bc c.dB c.al c.aj c.ak c.bG c.a6 c.a8 (rwO c) c.dQ c.eG c.bM c.dD c.dE (me a c) (max 0 (c.a6 - cU a c.af 0)) (l6 (p_ a c.af)) (cU a c.af 0) (cU a c.af 1) (j:Int) (kR a j)
   = (fy (aa O) a m).x0 ((j+1:Nat):Int) (kR a (j+1)):=by
  rw [fy]
  generalize fy (aa O) a (m+1)=X at h5 ⊢
  simp only [vP,Tp,PC,s1,IV,h5]
 rw [fy]
 generalize fy (aa O) a (m+2)=X at h4 ⊢
 simp only [vP,Re,N0,s0,IV,h4]
theorem agi {a:aP} (ok:qb a) {j:Nat} (hj:j < a.ae.n) {c:cQ} (ec:a.ae.at j=c) {V:S} (hV:Ev (fun m=>(fy (aa O) a m).x0 ((j+1:Nat):Int) (kR a (j+1))) V):∀ k m,m+k=a.an.n→
  Ev (fun q=>(fy (aa O) a q).x3 c c.af c.af c.bc c.dB c.al c.aj c.ak c.bG c.a6 c.a8 (rwO c) c.dQ c.eG c.bM c.dD c.dE (me a c) (l6 (eu a c.af m)) (bU a c.af 0 m) (bU a c.af 1 m) m (j:Int) (kR a j)) V
 | 0,m,hm=>by
  obtain rfl:m=a.an.n:=by omega
  refine Ev.by 4 (fun q=>?_) hV
  have h2:=Ny ok hj ec q
  rw [fy]
  generalize fy (aa O) a (q+3)=X at h2 ⊢
  simp only [vP,IM,B3,r7,Nat.lt_irrefl,decide_false,cond_false]
  exact h2
 | k+1,m,hm=>by
  have hlt:m < a.an.n:=by omega
  have hn:=ok.WS hlt
  have u0:=dM ok c.af 0 m (by omega)
  have u1:=dM ok c.af 1 m (by omega)
  have pl:=lK a c.af m
  have hp:=ok.qR
  have f:bY (bC (l6 (eu a c.af m)).n 1) 16=true:=eZ (by show ((eu a c.af m).length+1)*16≤_;omega) (by show (eu a c.af m).length+1≤_;omega)
  have a0:a7 .i64 (bU a c.af 0 m) (a.an.at m).dj=bU a c.af 0 m+iq 0 (a.an.at m):=by unfold a7;exact i64_in (by omega)
  have a1:a7 .i64 (bU a c.af 1 m) (a.an.at m).dk=bU a c.af 1 m+iq 1 (a.an.at m):=by unfold a7;exact i64_in (by omega)
  refine Ev.by 1 (fun q=>?_) (agi ok hj ec hV k (m+1) (by omega))
  rw [fy]
  generalize fy (aa O) a q=X
  simp only [vP,IM,BU,r7,hlt,decide_true,cond_true,wI hlt,JU,f,a0,a1,Jb,C5]
  have e1:eu a c.af (m+1)=bif BI a c.af m then eu a c.af m++[(a.an.at m).af] else eu a c.af m:=rfl
  have e2:bU a c.af 0 (m+1)=bif BI a c.af m then min 1125899906842624 (bU a c.af 0 m+iq 0 (a.an.at m)) else bU a c.af 0 m:=rfl
  have e3:bU a c.af 1 (m+1)=bif BI a c.af m then min 1125899906842624 (bU a c.af 1 m+iq 1 (a.an.at m)) else bU a c.af 1 m:=rfl
  rw [e1,e2,e3]
  show (bif BI a c.af m then _ else _)=_
  cases BI a c.af m<;>rfl
theorem c11 (a:aP) (ha:vL a):ca 11 [ag (bI a)] (.bJ [.top 21 (bif aR (fH a) 0 then qL a else ⟨0,fun i=>i.elim0⟩).n fun i=>f55 ((bif aR (fH a) 0 then qL a else ⟨0,fun i=>i.elim0⟩:Rw gM).get i),ii (fH a)]):=by
 obtain ⟨y,hy,hK⟩:=aN (by kernel_rfl) (c9 a ha)
 cases hc:aR (fH a) 0 with
 | false=>
  refine W11 a 0 _ ?_
  simp only [By,hK,hy,hc,Bool.not_false,cond_true]
  refine congrArg some ?_
  congr 3
  congr 1
  funext i
  exact i.elim0
 | true=>
  have ok:=aaQ (cJ.1 hc)
  have all:∀ k j,j+k=a.ae.n→Ev (fun m=>(fy (aa O) a m).x0 (j:Int) (kR a j)) (.bJ [.top 21 (kR a a.ae.n).n (kR a a.ae.n).g,ii 0]):=by
   intro k
   induction k with
   | zero=>
    intro j hj
    obtain rfl:j=a.ae.n:=by omega
    refine Ev.one 1 fun m=>?_
    rw [fy]
    generalize fy (aa O) a m=X
    simp only [vP,Jw,aq,Nat.lt_irrefl,decide_false,cond_false]
   | succ k ih=>
    intro j hj
    have hlt:j < a.ae.n:=by omega
    have hV:=ih (j+1) (by omega)
    obtain ⟨c,ec⟩:∃ c,a.ae.at j=c:=⟨_,rfl⟩
    have hh:=ok.has hlt
    rw [ec] at hh
    obtain ⟨l,hl,hL⟩:=HM (by kernel_rfl) (c39 a.aw (lB c) c.bc c.af ha.types ok.types hh)
    have hl:l.r 0=me a c:=vo hl
    have ho:=ok.opts hlt
    rw [ec] at ho
    obtain ⟨o,ho2,hO⟩:=c40 c.bh ho
    have f1:bY a.an.n 1=true:=eZ (by have:=ok.qR;omega) (by have:=ok.qR;omega)
    have hL:∀ (ρ:Type) (K:Y→Option ρ),yC (aa O) 39 [S.t (T.rows 7 a.aw.n fun i=>bk (a.aw.get i)),S.agg [ss c.al,ss c.aj,ss c.ak],ss c.bc,ss c.af] K=K l:=hL
    have start:Ev (fun m=>(fy (aa O) a m).x1 c c.af c.af c.bc c.dB c.al c.aj c.ak c.bG c.a6 c.a8 (rwO c) c.dQ c.eG c.bM c.dD c.dE (me a c) (j:Int) (kR a j)) (.bJ [.top 21 (kR a a.ae.n).n (kR a a.ae.n).g,ii 0]):=by
     by_cases h0:0 < a.an.n
     ·have hn:=ok.WS h0
      have a0:a7 .i64 0 (a.an.at 0).dj=bU a c.af 0 0+iq 0 (a.an.at 0):=by unfold a7;rw [i64_in (by omega)];rfl
      have a1:a7 .i64 0 (a.an.at 0).dk=bU a c.af 1 0+iq 1 (a.an.at 0):=by unfold a7;rw [i64_in (by omega)];rfl
      refine Ev.by 1 (fun q=>?_) (agi ok hlt ec hV (a.an.n - 1) 1 (by omega))
      have f2:bY 1 16=true:=eZ (by decide) (by decide)
      rw [fy]
      generalize fy (aa O) a q=X
      simp only [vP,Kl,BU,r7,h0,decide_true,cond_true,wI h0,JU,f2,a0,a1,Jb,SG,tz]
      have e1:eu a c.af 1=bif BI a c.af 0 then [(a.an.at 0).af] else []:=rfl
      have e2:bU a c.af 0 1=bif BI a c.af 0 then min 1125899906842624 (bU a c.af 0 0+iq 0 (a.an.at 0)) else 0:=rfl
      have e3:bU a c.af 1 1=bif BI a c.af 0 then min 1125899906842624 (bU a c.af 1 0+iq 1 (a.an.at 0)) else 0:=rfl
      rw [e1,e2,e3]
      show (bif BI a c.af 0 then _ else _)=_
      cases BI a c.af 0<;>rfl
     ·have hz:a.an.n=0:=by omega
      refine Ev.by 4 (fun q=>?_) hV
      have h2:=Ny ok hlt ec q
      have e1:p_ a c.af=[]:=by unfold p_;rw [hz];rfl
      have e2:cU a c.af 0=0:=by unfold cU;rw [hz];rfl
      have e3:cU a c.af 1=0:=by unfold cU;rw [hz];rfl
      rw [e1,e2,e3] at h2
      rw [fy]
      generalize fy (aa O) a (q+3)=X at h2 ⊢
      simp only [vP,Kl,B3,r7,h0,decide_false,cond_false,tz]
      exact h2
    refine Ev.by 1 (fun m=>?_) start
    rw [fy]
    generalize fy (aa O) a m=X
    simp only [vP,Jw,On,aq,hlt,decide_true,cond_true,av hlt,aK,ec,hL,hl,f1]
    have hg:∀ h,a.ae.get ⟨(j:Int).toNat,h⟩=c:=fun h=>aK.trans ec
    rw [hg,hO,ho2]
  obtain ⟨n,hn⟩:=(all a.ae.n 0 (by omega)).get
  refine W11 a n _ ?_
  have e0:(⟨0,fT⟩:bN)=kR a 0:=jt rfl fun i h=>by cases h
  simp only [By,hK,hy,hc,Bool.not_true,cond_false,Cs,e0]
  refine hn.trans ?_
  rw [cJ.1 hc]
  rfl
theorem wg {a b:ByteArray} (h:a≠b):(strLt a b=true∧strLt b a=false)∨(strLt a b=false∧strLt b a=true):=by
 simp only [jy,decide_eq_true_eq,decide_eq_false_iff_not]
 rcases Classical.em (a.data.toList < b.data.toList) with h1 | h1
 ·exact .inl ⟨h1,fun h2=>List.lt_asymm h1 h2⟩
 ·refine .inr ⟨h1,?_⟩
  rcases Classical.em (b.data.toList < a.data.toList) with h2 | h2
  ·exact h2
  ·exact absurd (bytes_inj (List.le_antisymm (List.not_lt.1 h2) (List.not_lt.1 h1))) h
theorem Ov {a b c:ByteArray} (h1:strLt a b=true) (h2:strLt b c=true):strLt a c=true:=by
 simp only [jy,decide_eq_true_eq] at *
 exact List.lt_trans h1 h2
theorem oB {x y:ByteArray × ByteArray} (h1:strLt x.1 y.1=true) (h2:strLt y.1 x.1=false):∀ l,fp x (fp y l)=fp y (fp x l)
 | []=>by simp only [fp,h1,h2,cond_true,cond_false]
 | z::r=>by
  have ih:=oB h1 h2 r
  cases hy:strLt y.1 z.1 with
  | true=>
   have hx:=Ov h1 hy
   simp only [fp,h1,h2,hy,hx,cond_true,cond_false]
  | false=>
   cases hx:strLt x.1 z.1 with
   | true=>simp only [fp,h1,h2,hy,hx,cond_true,cond_false]
   | false=>simp only [fp,hy,hx,cond_false,ih]
theorem MY {x y:ByteArray × ByteArray} (h:x.1≠y.1) (l:List (ByteArray × ByteArray)):fp x (fp y l)=fp y (fp x l):=by
 rcases wg h with ⟨h1,h2⟩ | ⟨h1,h2⟩
 ·exact oB h1 h2 l
 ·exact (oB h2 h1 l).symm
theorem tQ (x:ByteArray × ByteArray):∀ l:List (ByteArray × ByteArray),(∀ y∈l,y.1≠x.1)→fG (l++[x])=fp x (fG l)
 | [],_=>rfl
 | y::r,h=>by
  show fp y (fG (r++[x]))=fp x (fp y (fG r))
  rw [tQ x r fun z hz=>h z (List.mem_cons_of_mem _ hz),MY (h y List.mem_cons_self)]
def jA (k:ByteArray):List (ByteArray × ByteArray)→Nat
 | []=>0
 | y::r=>bif strLt y.1 k then jA k r+1 else 0
theorem yR (k:ByteArray):∀ l,jA k l≤l.length
 | []=>Nat.le_refl 0
 | y::r=>by
  have:=yR k r
  unfold jA
  cases strLt y.1 k with
  | true=>rw [cond_true];simpa using this
  | false=>rw [cond_false];exact Nat.zero_le _
theorem K5 (k:ByteArray):∀ (l:List (ByteArray × ByteArray)) (j:Nat) (h:j < l.length),j < jA k l→strLt l[j].1 k=true
 | y::r,j,h,hj=>by
  unfold jA at hj
  cases e:strLt y.1 k with
  | false=>rw [e] at hj;exact absurd hj (Nat.not_lt_zero _)
  | true=>
   rw [e,cond_true] at hj
   cases j with
   | zero=>exact e
   | succ j=>exact K5 k r j (by simpa using h) (by omega)
theorem Jt (k:ByteArray):∀ (l:List (ByteArray × ByteArray)) (h:jA k l < l.length),strLt l[jA k l].1 k=false
 | y::r,h=>by
  cases e:strLt y.1 k with
  | false=>
   have hp:jA k (y::r)=0:=by unfold jA;rw [e];rfl
   simp only [hp,List.getElem_cons_zero,e]
  | true=>
   have hp:jA k (y::r)=jA k r+1:=by
    show (bif strLt y.1 k then jA k r+1 else 0)=_
    rw [e]
    rfl
   have h':jA k r < r.length:=by rw [hp] at h;simpa using h
   simp only [hp,List.getElem_cons_succ]
   exact Jt k r h'
theorem J9 (x:ByteArray × ByteArray):∀ l:List (ByteArray × ByteArray),(∀ y∈l,y.1≠x.1)→fp x l=l.take (jA x.1 l)++x::l.drop (jA x.1 l)
 | [],_=>rfl
 | y::r,h=>by
  have ih:=J9 x r fun z hz=>h z (List.mem_cons_of_mem _ hz)
  rcases wg (h y List.mem_cons_self) with ⟨h1,h2⟩ | ⟨h1,h2⟩
  ·simp only [fp,jA,h1,h2,cond_true,cond_false,List.take_succ_cons,List.drop_succ_cons,List.cons_append,ih]
  ·simp only [fp,jA,h1,h2,cond_true,cond_false,List.take_zero,List.drop_zero,List.nil_append]
def jS (r:Rw ch) (o:bu) (bV name:ByteArray) (m:Nat):List (ByteArray × ByteArray):=fG (oz o bV name++(jU r).take m)
end
end Go.Proofs.YtonkoellfaopiaaGreatDoor.H
