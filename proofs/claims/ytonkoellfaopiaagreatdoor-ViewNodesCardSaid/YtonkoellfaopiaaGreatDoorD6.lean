import Derived.Test.YtonkoellfaopiaaGreatDoorD5
import Derived.RangeFuncLeaves
import Derived.RangeFuncRecord
import Derived.RangeFuncFrom
set_option linter.unusedSimpArgs false
set_option linter.unusedVariables false
set_option linter.unusedSectionVars false
namespace Go.Proofs.YtonkoellfaopiaaGreatDoor.H
open Go Go.RowKit
section
variable [dq] {P:Program} {G:Gh} {w w0:World} {nt B0:Nat} {fr:Fr} {a:Act} {h:Heap}
def Ends (L:Nat) (gc:Bool) (B0:Nat) (w0:World) (nt base:Nat) (G:Gh) (h:Heap) (w:World) (ex:Ex) (st':St) (Q:Exit→Act→World→Prop):Prop:=
 ∀ G' a' w',cR B0 w0 G' st'.h w'→cV nt G' w' st'.fr a'→Xt B0 gc base G h w G' st'.h w'→vJ L w' a'.defers→Q ex.to a' w'
def Sound (ro:Option Nat) (n:Nat) (V:World→Prop) (E:Env) (f:FuncId) (nt:Nat) (gc:Bool) (k:Nat) (c:Code):Prop:=
 ∀ (L B0:Nat) (w0:World) (base:Nat) (st:St) (ex:Ex) (st':St) (G:Gh) (a:Act) (w:World) (Q:Exit→Act→World→Prop),(∀ w',Below B0 w0 w'→V w')→exec E f nt gc k c st=some (ex,st')→cR B0 w0 G st.h w→cV nt G w st.fr a→(gc=false→base≤st.h.next)→vJ L w a.defers→(gc=true→L≤w0.heap.size)→
  Ends L gc B0 w0 nt base G st.h w ex st' Q→c.wpIn (FR ro) n E.P Q a w
theorem uf {V:World→Prop} {E:Env} {f:FuncId} {gc:Bool} {k:Nat} {c:Code} {ro:Option Nat} {m:Nat} (hc:Sound ro m V E f nt gc k c) (L B0:Nat) (w0:World) (base:Nat) (hV:∀ w',Below B0 w0 w'→V w') {key:Nat} {ex:Ex} {st':St} {Q:Exit→Act→World→Prop}:
  ∀ (n:Nat) (st:St) (G:Gh) (a:Act) (w:World),iter (fun st=>(fP E f gc key st).bind (exec E f nt gc k c)) n st=some (ex,st')→cR B0 w0 G st.h w→cV nt G w st.fr a→(gc=false→base≤st.h.next)→vJ L w a.defers→(gc=true→L≤w0.heap.size)→Ends L gc B0 w0 nt base G st.h w ex st' Q→Code.roundsIn (FR ro) m E.P c Q n a w
 | 0,st,G,a,w,hx,_,_,_,_,_,_=>by cases hx
 | n+1,st,G,a,w,hx,hs,hf,hb,hmk,hL,hQ=>by
  rw [roundsIn_succ]
  unfold iter at hx
  cases hcl:fP E f gc key st with
  | none=>rw [hcl] at hx;cases hx
  | some st0=>
  rw [hcl,Option.bind_some] at hx
  obtain ⟨G0,hs,hf,hx0⟩:=kG hcl hs hf hb
  have hb:=hx0.next
  have hQ:Ends L gc B0 w0 nt base G0 st0.h w ex st' Q:=fun G' a' w' q1 q2 q3 q4=>hQ G' a' w' q1 q2 (hx0.trans q3) q4
  cases he:exec E f nt gc k c st0 with
  | none=>rw [he] at hx;cases hx
  | some p=>
   obtain ⟨e1,st1⟩:=p
   rw [he] at hx
   cases e1 with
   | normal=>
    simp only at hx
    refine hc L B0 w0 base st0 .normal st1 G0 a w _ hV he hs hf hb hmk hL (fun G' a' w' q1 q2 q3 q4=>?_)
    exact uf hc L B0 w0 base hV n st1 G' a' w' hx q1 q2 q3.next q4 hL (fun G2 a2 w2 r1 r2 r3 r4=>hQ G2 a2 w2 r1 r2 (q3.trans r3) r4)
   | exit id=>
    simp only [Option.some.injEq,Prod.mk.injEq] at hx
    obtain ⟨rfl,rfl⟩:=hx
    exact hc L B0 w0 base st0 (.exit id) st1 G0 a w _ hV he hs hf hb hmk hL (fun G' a' w' q1 q2 q3 q4=>hQ G' a' w' q1 q2 q3 q4)
   | ret=>
    simp only [Option.some.injEq,Prod.mk.injEq] at hx
    obtain ⟨rfl,rfl⟩:=hx
    exact hc L B0 w0 base st0 .ret st1 G0 a w _ hV he hs hf hb hmk hL (fun G' a' w' q1 q2 q3 q4=>hQ G' a' w' q1 q2 q3 q4)
theorem cR.xn (hs:cR B0 w0 G h w) {D:Nat} {o o':Obj} (hD:w.heap[D]?=some o) (hl:CS o=true) (hB:B0≤D):cR B0 w0 G h (w.putObj D o')∧∀ s v,aY G w s v→aY G (w.putObj D o') s v:=by
 have hk:∀ k,k≠D→(w.putObj D o').heap[k]?=w.heap[k]?:=fun k hk=>World.putObj_heap_other hk
 have hkeep:∀ q,G.bB q→(w.putObj D o').heap[q]?=w.heap[q]?:=fun q hq=>hk q (fun e=>by
  subst e
  have:=hs.gP q o hq hD
  rw [this] at hl;cases hl)
 have hsz:(w.putObj D o').heap.size=w.heap.size:=by simp [World.putObj]
 have hbe:Below B0 w (w.putObj D o'):=⟨rfl,rfl,rfl,by omega,fun k hk'=>hk k (by omega)⟩
 refine ⟨⟨hs.below.trans hbe,fun q hq=>by rw [hsz];exact hs.bB q hq,fun b x hb=>?_,hs.inj,hs.lo,by rw [hsz];exact hs.b0,hs.gP.mono hkeep,hs.bs⟩,fun s v hr=>hr.mono (fun _ h=>h) hkeep (fun _ _ h=>h)⟩
 exact (hs.rep b x hb).mono (fun _ h=>h) (fun _ _ h=>h) hkeep (fun _ _ h=>h) rfl (fun q hq=>hk q (fun e=>by
  subst e
  have:=(hs.rep b x hb).wa hq hD
  rw [this] at hl;cases hl))
theorem vJ.xn {L:Nat} {w:World} {l:List Deferred} (h:vJ L w l) {D:Nat} {r:Loop} {o':Obj} (hD:w.heap[D]?=some (.loop r)):vJ L (w.putObj D o') l:=
 ⟨fun d hd=>let ⟨D',e,hb,hw⟩:=h.1 d hd;⟨D',e,hb,(World.putObj_heap_other (fun eq=>by subst eq;rw [hD] at hw;cases hw)).trans hw⟩,h.2⟩
theorem DP {V:World→Prop} {E:Env} (hE:kg V E) {f:FuncId} {gc:Bool} {k:Nat} {q:Operand} {ps:Array Tmp} {az bd:Code} (iha:∀ l,Sound (some l) 0 V E f nt false k az) (ihb:∀ l,Sound (some l) 0 V E f nt false k bd)
  {L base n:Nat} {ro:Option Nat} {st st':St} {ex:Ex} {Q:Exit→Act→World→Prop} (hro:gc=true→ro=none) (hV:∀ w',Below B0 w0 w'→V w') (hx:exec E f nt gc k (.rangeFunc q ps az bd) st=some (ex,st')) (hs:cR B0 w0 G st.h w) (hf:cV nt G w st.fr a) (hb:gc=false→base≤st.h.next)
  (hmk:vJ L w a.defers) (hL:gc=true→L≤w0.heap.size) (hQ:Ends L gc B0 w0 nt base G st.h w ex st' Q):(Code.rangeFunc q ps az bd).wpIn (FR ro) n E.P Q a w:=by
 simp only [exec] at hx
 obtain ⟨p,hps,hx⟩:=Option.bind_eq_some_iff.1 hx
 obtain ⟨sp,hsp,hx⟩:=Option.bind_eq_some_iff.1 hx
 obtain ⟨bO,hkeep,hx⟩:=Option.bind_eq_some_iff.1 hx
 have hps:ps.toList=[p]:=by
  unfold Cx at hps
  split at hps
  ·rename_i p' e
   obtain rfl:=Option.some.inj hps
   exact e
  ·cases hps
 obtain ⟨hg,hx2⟩:=bP hx
 clear hx
 rw [Bool.and_eq_true] at hg
 obtain ⟨rfl,hg⟩:=hg
 rw [Bool.and_eq_true] at hg
 have hpn:p < nt:=by simpa [Nat.blt_eq] using hg.2
 obtain rfl:=hro rfl
 have hL:=hL rfl
 ·obtain ⟨⟨b1,b2⟩,hcap,hx⟩:=Option.bind_eq_some_iff.1 hx2
  clear hx2
  obtain ⟨⟨N,g⟩,hrow,hx⟩:=Option.bind_eq_some_iff.1 hx
  ·obtain ⟨stf,hit,e⟩:=Option.map_eq_some_iff.1 hx
   simp only [Prod.mk.injEq] at e
   obtain ⟨rfl,rfl⟩:=e
   obtain ⟨hseq,hcall⟩:=hE.rf f (bH az) sp hsp
   have caps:∀ {fr:Fr} {G1:Gh} {W:World} {c:Nat × Nat},cV nt G1 W fr a→ln (ev fr q) sp.g=some c→∃ r1 r2,a.eval q=.func (.func sp.g) #[] #[.pointer (some ⟨r1,0,none⟩),.pointer (some ⟨r2,0,none⟩)]∧G1.mu c.1=some (.pointer (some ⟨r1,0,none⟩))∧G1.mu c.2=some (.pointer (some ⟨r2,0,none⟩)):=by
    intro fr G1 W c hf1 hc
    have hv:=hf1.ev q
    unfold ln at hc
    split at hc
    ·rename_i hh c1 c2 he
     rw [he] at hv
     obtain ⟨hbq,hc2⟩:=bP hc
     clear hc
     obtain rfl:=Option.some.inj hc2
     obtain rfl:=Nat.eq_of_beq_eq_true hbq
     generalize a.eval q=vq at hv
     cases hv with | fn ha h1 hc1 h2=>
     rename_i va vc
     have e1:va=#[]:=Array.eq_empty_of_size_eq_zero (by simpa using ha.symm)
     have hsz:vc.size=2:=by simpa using hc1.symm
     have g0:vc[0]?=some vc[0]:=by simp [hsz]
     have g1:vc[1]?=some vc[1]:=by simp [hsz]
     have s0:=h2 0 _ _ rfl g0
     have s1:=h2 1 _ _ rfl g1
     generalize vc[0]=x0 at g0 s0
     generalize vc[1]=x1 at g1 s1
     cases s0 with | ptr m0=>
     cases s1 with | ptr m1=>
     refine ⟨_,_,?_,m0,m1⟩
     subst e1
     congr 1
     apply Array.ext_getElem?
     intro i
     match i with
     | 0=>exact g0
     | 1=>exact g1
     | i+2=>rw [Array.getElem?_eq_none (by omega)];simp
    ·cases hc
   obtain ⟨r1,r2,hval,hm1,hm2⟩:=caps hf hcap
   unfold IU at hrow
   split at hrow
   ·rename_i o ft cs ho hb1
    split at hrow
    ·rename_i sz n0 g0 hcs
     obtain ⟨hq2,hrow2⟩:=bP hrow
     clear hrow
     rw [Bool.and_eq_true] at hq2
     obtain ⟨hsz,hlt⟩:=hq2
     obtain rfl:=Nat.eq_of_beq_eq_true hsz
     have hlt:n0 < 4611686018427387904:=by
      rw [Bool.and_eq_true,Nat.ble_eq,Nat.ble_eq] at hlt
      have h2:=hlt.2
      unfold bE at h2
      omega
     cases hrow2
     have hrep1:=hs.rep b1 _ hb1
     obtain ⟨vr,hcell,hrowv⟩:∃ vr,w.cell? ⟨r1,o,none⟩=some vr∧dH w G.bB (.rows (E.P.cellsOf sp.te) N g) vr:=by
      cases hrep1 with | box hmu hown hbl hfz hl hc hi hB=>
      rename_i rr cc ty fz
      rw [hm1] at hmu
      simp only [Option.some.injEq,Value.pointer.injEq,Addr.mk.injEq,and_true] at hmu
      subst hmu
      obtain ⟨v,hv,hsr⟩:=hc o _ hcs
      refine ⟨v,by rw [eB hbl];exact hv,?_⟩
      cases hsr with | t h=>exact h
     refine wpIn_rangeFunc (F:=FR none) ?_
     intro fn _
     obtain ⟨rec,hrec⟩:∃ rec:LoopState→Option Code→Loop,rec=fun s pe=>{ state:=s,pending:=pe,fn:=fn,tmps:=a.tmps,params:=ps,assign:=az,body:=bd,defers:=w.heap.size }:=⟨_,rfl⟩
     obtain ⟨W1,hW1⟩:∃ W1,(w.alloc (.deferred (some []))).alloc (.loop (rec .ready none))=W1:=⟨_,rfl⟩
     have hb1w:Below w.heap.size w W1:=by
      rw [← hW1];exact ((Below.refl _ w).alloc (Nat.le_refl _) _).alloc (by simp) _
     have hD1:W1.heap[w.heap.size]?=some (.deferred (some [])):=by
      rw [← hW1,kD _ _ (by simp)];exact jw w _
     have hl1:W1.heap[w.heap.size+1]?=some (.loop (rec .ready none)):=by
      rw [← hW1];have:=jw (w.alloc (.deferred (some []))) (.loop (rec .ready none));simpa using this
     have hps1:ps=#[p]:=by
      apply Array.toList_inj.1;rw [hps]
     refine ⟨w.heap.size+1,[{ target:=.collected w.heap.size,args:=#[] }],W1,{ target:=.fn (.func sp.g) #[.pointer (some ⟨r1,0,none⟩),.pointer (some ⟨r2,0,none⟩)],args:=#[.func (.yield (w.heap.size+1)) #[] #[]] },W1,sp.g,
      #[.func (.yield (w.heap.size+1)) #[] #[]]++#[.pointer (some ⟨r1,0,none⟩),.pointer (some ⟨r2,0,none⟩)],W1,?_,?_,(fun _ _=>trivial),?_,(fun h=>by cases h),?_⟩
     ·rw [← hW1,hrec];exact run_enterLoop_outer _ _ _ _ _
     ·simp only [resolve,rangeCall,hval]
      simp [Deferred.ofValue,Act.eval,Sem.run_pure]
     ·simp only [invoke,hcall]
     ·-- from element to element
      let J:Nat→World→Prop:=fun j W=>∃ k' stj Gj,dt E.P sp q p (gX bO (fM E.live f (3*bH az))) (exec E f nt false k az) (exec E f nt false k bd) g k' j stj=some stf∧cR B0 w0 Gj stj.h W∧cV nt Gj W stj.fr a∧
       W.heap[w.heap.size+1]?=some (.loop (rec .ready none))∧W.heap[w.heap.size]?=some (.deferred (some []))∧
       (∀ r,G.bB r→Gj.bB r)∧(∀ r,G.bB r→W.heap[r]?=w.heap[r]?)∧(∀ r,Gj.bB r→G.bB r∨B0≤r)∧db w W
      have head:∀ {j:Nat} {W:World} {k':Nat} {stj:St} {Gj:Gh},dt E.P sp q p (gX bO (fM E.live f (3*bH az))) (exec E f nt false k az) (exec E f nt false k bd) g k' j stj=some stf→cR B0 w0 Gj stj.h W→cV nt Gj W stj.fr a→
        ∃ k2 st1 G1 s,G1.bB=Gj.bB∧cR B0 w0 G1 st1.h W∧cV nt G1 W st1.fr a∧W.cell? ⟨r2,0,none⟩=some (.string s)∧
         (if h:j < N then (match FG E.P sp (g ⟨j,h⟩) with
          | none=>none
          | some r=>bif ah r s then (match exec E f nt false k az ⟨st1.fr.set p (some (.agg ((g ⟨j,h⟩).map .t))),st1.h⟩ with
            | some (.normal,st2)=>(match exec E f nt false k bd st2 with
             | some (.normal,st3)=>dt E.P sp q p (gX bO (fM E.live f (3*bH az))) (exec E f nt false k az) (exec E f nt false k bd) g k2 (j+1) ⟨st1.fr,st3.h⟩
             | _=>none)
            | _=>none) else dt E.P sp q p (gX bO (fM E.live f (3*bH az))) (exec E f nt false k az) (exec E f nt false k bd) g k2 (j+1) st1) else some st1)=some stf:=by
       intro j W k' stj Gj hit hsj hfj
       cases k' with
       | zero=>cases hit
       | succ k2=>
        unfold dt at hit
        obtain ⟨st1,hcl,hit⟩:=Option.bind_eq_some_iff.1 hit
        obtain ⟨G1,i1,i2,i3⟩:=oW hsj hfj hcl
        split at hit
        ·cases hit
        ·rename_i s hs1
         obtain ⟨c,hc1,hc2⟩:=Option.bind_eq_some_iff.1 hs1
         obtain ⟨q1,q2,hv2,_,m2⟩:=caps i3 hc1
         rw [hval] at hv2
         simp only [Value.func.injEq,true_and,Array.mk.injEq,List.cons.injEq,Value.pointer.injEq,Option.some.injEq,Addr.mk.injEq,and_true] at hv2
         obtain ⟨rfl,rfl⟩:=hv2
         refine ⟨k2,st1,G1,s,i1,i2,i3,?_,hit⟩
         unfold qn at hc2
         split at hc2
         ·rename_i s' rst hbx
          obtain rfl:=Option.some.inj hc2
          have hrep2:=i2.rep c.2 _ hbx
          cases hrep2 with | box hmu hown hbl hfz hl hc hi hB=>
          rw [m2] at hmu
          simp only [Option.some.injEq,Value.pointer.injEq,Addr.mk.injEq,and_true] at hmu
          subst hmu
          obtain ⟨v,hv,hsr⟩:=hc 0 _ rfl
          obtain ⟨rfl,_⟩:=a_ hsr
          rw [eB hbl];exact hv
         ·cases hc2
      have hJnew:∀ j W1 W2,J j W1→Below W1.heap.size W1 W2→J j W2:=fun j Wa Wb ⟨k',stj,Gj,h1,h2,h3,h4,h5,h6,h7,h8,h9⟩ hbw=>by
       obtain ⟨s2,n2⟩:=h2.later hbw 0
       have old:∀ {k:Nat} {o:Obj},Wa.heap[k]?=some o→Wb.heap[k]?=some o:=fun h=>(hbw.block _ (Array.getElem?_eq_some_iff.1 h).1).trans h
       exact ⟨k',stj,Gj,h1,s2,h3.mono (fun s v hr=>hr.mono n2.bB n2.bO (fun _ _ h=>h)),old h4,old h5,h6,fun r hr=>(n2.bO r (h6 r hr)).trans (h7 r hr),h8,h9.trans n2.ld⟩
      have h0:J 0 W1:=by
       obtain ⟨s2,n2⟩:=hs.later hb1w 0
       exact ⟨k,st,G,hit,s2,hf.mono (fun s v hr=>hr.mono n2.bB n2.bO (fun _ _ h=>h)),hl1,hD1,fun _ h=>h,n2.bO,fun _ h=>.inl h,n2.ld⟩
      have hcell1:W1.cell? ⟨r1,o,none⟩=some vr:=by
       have hlt1:r1 < w.heap.size:=by
        cases hrep1 with | box hmu hown hbl hfz hl hc hi hB=>
        rw [hm1] at hmu
        simp only [Option.some.injEq,Value.pointer.injEq,Addr.mk.injEq,and_true] at hmu
        subst hmu
        exact (Array.getElem?_eq_some_iff.1 hbl).1
       exact (cell_of_heap (a:=⟨r1,o,none⟩) (hb1w.block r1 hlt1)).trans hcell
      have step:=hseq G.bB (w.heap.size+1) r1 r2 W1 N g o ft vr J hlt ho hcell1 ?_ hJnew h0
      ·refine CallsIn.mono (show CallsIn (FR none) (n - 1) E.P sp.g _ W1 _ from callsIn_wide.2 (callsIn_wide.1 step)) fun e W3 ⟨⟨v,he⟩,k',stj,Gj,h1,h2,h3,h4,h5,h6,h7,h8,h9⟩=>?_
       subst he
       obtain ⟨k2,st1,G1,s,i1,i2,i3,_,hend⟩:=head h1 h2 h3
       rw [dif_neg (Nat.lt_irrefl _)] at hend
       obtain rfl:=Option.some.inj hend
       obtain ⟨o',her⟩:∃ o',(Instr.endLoop (w.heap.size+1)).run E.P W3=.ok none (W3.putObj (w.heap.size+1) o'):=⟨_,by have:=run_endLoop (P:=E.P) h4 (by rw [hrec];simp);rw [hrec] at this;exact this⟩
       obtain ⟨s4,p4⟩:=i2.xn (o':=o') h4 rfl (Nat.le_trans hs.b0 (Nat.le_succ _))
       refine ⟨none,_,her,?_⟩
       have old:∀ {k:Nat},k≠w.heap.size+1→(W3.putObj (w.heap.size+1) o').heap[k]?=W3.heap[k]?:=fun h=>World.putObj_heap_other h
       refine hQ G1 _ _ s4 (show cV nt G1 _ st1.fr { a with defers:=_ } from ⟨i3.size,fun t s hs=>let ⟨v,hv,hr⟩:=i3.rep t s hs;⟨v,hv,p4 s v hr⟩⟩) ⟨fun r hr=>by rw [i1];exact h6 r hr,fun r hr=>(old (by have:=hs.bB r hr;omega)).trans (h7 r hr),(fun e=>by cases e),(fun e=>by cases e),(fun e=>by cases e),fun r hr=>by rw [i1] at hr;exact h8 r hr,fun k o hk hl=>(old (by have:=(Array.getElem?_eq_some_iff.1 hk).1;omega)).trans (h9 k o hk hl)⟩ ⟨fun d hd=>?_,?_⟩
       ·rcases List.mem_cons.1 hd with rfl | hd
        ·exact ⟨w.heap.size,rfl,Nat.le_trans hL hs.below.size,(old (by omega)).trans h5⟩
        ·obtain ⟨D,e,hD,hw⟩:=hmk.1 d hd
         have hlt:=(Array.getElem?_eq_some_iff.1 hw).1
         exact ⟨D,e,hD,(old (by omega)).trans (h9 D _ hw rfl)⟩
       ·refine List.nodup_cons.2 ⟨fun hd=>?_,hmk.2⟩
        obtain ⟨D,e,hD,hw⟩:=hmk.1 _ hd
        have hlt:=(Array.getElem?_eq_some_iff.1 hw).1
        simp only [Deferred.mk.injEq,Target.collected.injEq,and_true] at e
        omega
      ·rintro j W ⟨k',stj,Gj,h1,h2,h3,h4,h5,h6,h7,h8,h9⟩
       refine ⟨hrowv.mono (fun _ h=>h) h7,?_⟩
       obtain ⟨k2,st1,G1,s,i1,i2,i3,hcs2,hrun⟩:=head h1 h2 h3
       refine ⟨s,hcs2,fun hj=>?_⟩
       rw [dif_pos hj] at hrun
       split at hrun
       ·cases hrun
       ·rename_i r hr
        refine ⟨r,hr,fun hne=>?_,fun heq W2 hbw vs hvs=>?_⟩
        ·rw [hne,cond_false] at hrun
         exact ⟨k2,st1,G1,hrun,i2,i3,h4,h5,fun r hr=>by rw [i1];exact h6 r hr,h7,fun r hr=>by rw [i1] at hr;exact h8 r hr,h9⟩
        ·rw [heq,cond_true] at hrun
         split at hrun
         ·rename_i st2 hA
          split at hrun
          ·rename_i st3 hB
           have hl2:W2.heap[w.heap.size+1]?=some (.loop (rec .ready none)):=(hbw.block _ (Array.getElem?_eq_some_iff.1 h4).1).trans h4
           have hD2:W2.heap[w.heap.size]?=some (.deferred (some [])):=(hbw.block _ (Array.getElem?_eq_some_iff.1 h5).1).trans h5
           obtain ⟨s2,n2⟩:=i2.later hbw 0
           have hy:(Instr.yield (w.heap.size+1) #[Value.agg vs]).run E.P W2=.ok (.round (w.heap.size+1) fn (a.tmps.setIfInBounds p (.agg vs)) az bd) W2:=by
            have:=run_yield (P:=E.P) (args:=#[Value.agg vs]) hl2 (by rw [hrec,hps1];rfl)
            rw [hrec] at this
            simpa [hps1] using this
           refine ⟨_,_,_,_,hy,?_⟩
           refine roundIn_of_wpIn (F:=Fence.wide) (n:=0) trivial ?_
           have f2:cV nt G1 W2 st1.fr a:=i3.mono (fun s v hr=>hr.mono n2.bB n2.bO (fun _ _ h=>h))
           have hxr:aY G1 W2 (.agg ((g ⟨j,hj⟩).map .t)) (.agg vs):=by
            refine .agg (by have:=hvs.1;simpa using this) fun i s v hs' hv'=>?_
            exact (hvs.2 i s v hs' (by simpa using hv')).mono (fun r hr=>by rw [i1];exact h6 r hr) (fun _ _=>rfl) (fun _ _ h=>by cases h)
           have fput:cV nt G1 W2 (st1.fr.set p (some (.agg ((g ⟨j,hj⟩).map .t)))) { tmps:=a.tmps.setIfInBounds p (.agg vs),defers:=[] }:=by
            refine ⟨by simp [f2.size],fun t s hs'=>?_⟩
            rw [gV] at hs'
            by_cases e:p=t
            ·subst e
             rw [if_pos rfl] at hs'
             obtain rfl:=Option.some.inj hs'
             exact ⟨_,by simp [f2.size,hpn],hxr⟩
            ·rw [if_neg e] at hs'
             obtain ⟨v,hv,hr⟩:=f2.rep t s hs'
             exact ⟨v,by simp only [];rw [Array.getElem?_setIfInBounds_ne e];exact hv,hr⟩
           refine iha (w.heap.size+1) 0 B0 w0 st1.h.next ⟨st1.fr.set p (some (.agg ((g ⟨j,hj⟩).map .t))),st1.h⟩ .normal st2 G1 _ W2 _ hV hA s2 fput (fun _=>Nat.le_refl _) (vJ.nil _ _) (fun h=>by cases h) (fun G2 a2 W4 t1 t2 t3 t4=>?_)
           have hl4:=t3.ld _ _ hl2 rfl
           refine ⟨_,run_beginRound hl4 (by rw [hrec]),?_⟩
           have hBl:B0≤w.heap.size+1:=Nat.le_trans hs.b0 (Nat.le_succ _)
           obtain ⟨s5,p5⟩:=t1.xn (o':=.loop { rec .ready none with state:=.busy }) hl4 rfl hBl
           have hl5:(W4.putObj (w.heap.size+1) (.loop { rec .ready none with state:=.busy })).heap[w.heap.size+1]?=some (.loop { rec .ready none with state:=.busy }):=World.putObj_heap_same (Array.getElem?_eq_some_iff.1 hl4).1
           refine ihb (w.heap.size+1) 0 B0 w0 st1.h.next st2 .normal st3 G2 a2 _ _ hV hB s5 (t2.mono p5) (fun _=>t3.next rfl) (t4.xn hl4) (fun h=>by cases h) (fun G3 a3 W6 u1 u2 u3 _=>?_)
           have hl6:=u3.ld _ _ hl5 rfl
           have her:=run_endRound (P:=E.P) none hl6
           refine ⟨_,_,her,rfl,?_⟩
           obtain ⟨s7,p7⟩:=u1.xn (o':=.loop { ({ rec .ready none with state:=.busy }:Loop) with state:=.ready,pending:=none }) hl6 rfl hBl
           have keep7:∀ r,G1.bB r→((W6.putObj (w.heap.size+1) (.loop { ({ rec .ready none with state:=.busy }:Loop) with state:=.ready,pending:=none })).heap[r]?=W.heap[r]?):=fun r hr=>by
            have hr2:=t3.bB r hr
            have ne:r≠w.heap.size+1:=fun e=>by subst e;have:=t1.gP _ _ hr2 hl4;cases this
            rw [World.putObj_heap_other ne,u3.bO r hr2,World.putObj_heap_other ne,t3.bO r hr,n2.bO r hr]
           have ld7:∀ {r:Nat} {o:Obj},r≠w.heap.size+1→CS o=true→W.heap[r]?=some o→(W6.putObj (w.heap.size+1) (.loop { ({ rec .ready none with state:=.busy }:Loop) with state:=.ready,pending:=none })).heap[r]?=some o:=fun ne hl h=>by
            rw [World.putObj_heap_other ne]
            refine u3.ld _ _ ?_ hl
            rw [World.putObj_heap_other ne]
            exact t3.ld _ _ (n2.ld _ _ h hl) hl
           refine ⟨k2,⟨st1.fr,st3.h⟩,G3,hrun,s7,i3.mono (fun s v hr=>hr.mono (fun r h=>u3.bB r (t3.bB r h)) keep7 (fun b x hb=>?_)),?_,ld7 (by omega) rfl h5,fun r hr=>u3.bB r (t3.bB r (by rw [i1];exact h6 r hr)),fun r hr=>(keep7 r (by rw [i1];exact h6 r hr)).trans (h7 r hr),fun r hr=>?_,fun k o hk hl=>ld7 (by have:=(Array.getElem?_eq_some_iff.1 hk).1;omega) hl (h9 k o hk hl)⟩
           ·have hlt:b < st1.h.next:=by
             rcases Nat.lt_or_ge b st1.h.next with h | h
             ·exact h
             ·rw [(i2.lo b h).1] at hb;cases hb
            rw [u3.mu rfl b hlt,t3.mu rfl b hlt];exact hb
           ·rw [World.putObj_heap_same (Array.getElem?_eq_some_iff.1 hl6).1]
            have hpd:(rec .ready none).pending=none:=by rw [hrec]
            have hst:(rec .ready none).state=.ready:=by rw [hrec]
            generalize rec .ready none=rr at hpd hst ⊢
            cases rr
            simp only at hpd hst
            subst hpd;subst hst;rfl
           ·rcases u3.old r hr with hr | hr
            ·rcases t3.old r hr with hr | hr
             ·rw [i1] at hr;exact h8 r hr
             ·exact .inr hr
            ·exact .inr hr
          ·cases hrun
         ·cases hrun
    ·cases hrow
   ·cases hrow
theorem H_ {V:World→Prop} {E:Env} (hE:kg V E) (hmix:E.P.follows .mixedOrders=true) {f:FuncId} {k:Nat}:∀ (c:Code),fc E.inl c=true→∀ (gc:Bool) (ro:Option Nat) (n:Nat),(gc=true→ro=none)→Sound ro n V E f nt gc k c:=by
 have refl:∀ {B0:Nat} {gc:Bool} {base:Nat} {G:Gh} {st:St} {w:World},(gc=false→base≤st.h.next)→Xt B0 gc base G st.h w G st.h w:=fun hb=>⟨fun _ h=>h,fun _ _=>rfl,fun _ _ _=>rfl,fun _ _ _ h=>h,hb,fun _ h=>.inl h,db.refl _⟩
 intro c
 induction c with
 | skip=>
  intro _ gc ro n hro L B0 w0 base st ex st' G a w Q hV hx hs hf hb hmk hL hQ
  simp only [exec,Option.some.injEq,Prod.mk.injEq] at hx
  obtain ⟨rfl,rfl⟩:=hx
  exact wpIn_skip (hQ G a w hs hf (refl hb) hmk)
 | region id ops draw=>
  intro hok gc ro n hro L B0 w0 base st ex st' G a w Q hV hx hs hf hb hmk hL hQ
  exact zD hE hV hmix hok hx hs hf hb hmk hQ
 | seq x y ihx ihy=>
  intro hok gc ro n hro L B0 w0 base st ex st' G a w Q hV hx hs hf hb hmk hL hQ
  simp only [fc,Bool.and_eq_true] at hok
  simp only [exec] at hx
  obtain ⟨⟨e1,st1⟩,h1,h2⟩:=Option.bind_eq_some_iff.1 hx
  refine wpIn_seq (ihx hok.1 gc ro n hro L B0 w0 base st e1 st1 G a w _ hV h1 hs hf hb hmk hL (fun G' a' w' q1 q2 q3 q4=>?_))
  cases e1 with
  | normal=>
   simp only at h2
   exact ihy hok.2 gc ro n hro L B0 w0 base st1 ex st' G' a' w' Q hV h2 q1 q2 q3.next q4 hL (fun G2 a2 w2 r1 r2 r3 r4=>hQ G2 a2 w2 r1 r2 (q3.trans r3) r4)
  | exit id=>
   simp only [Option.some.injEq,Prod.mk.injEq] at h2
   obtain ⟨rfl,rfl⟩:=h2
   exact hQ G' a' w' q1 q2 q3 q4
  | ret=>
   simp only [Option.some.injEq,Prod.mk.injEq] at h2
   obtain ⟨rfl,rfl⟩:=h2
   exact hQ G' a' w' q1 q2 q3 q4
 | cond c x y ihx ihy=>
  intro hok gc ro n hro L B0 w0 base st ex st' G a w Q hV hx hs hf hb hmk hL hQ
  simp only [fc,Bool.and_eq_true] at hok
  simp only [exec] at hx
  have hc:=hf.ev c
  split at hx
  ·rename_i p hp
   rw [hp] at hc
   obtain ⟨hv,_⟩:=a_ hc
   refine wpIn_cond hv ?_
   cases p with
   | true=>exact ihx hok.1 gc ro n hro L B0 w0 base st ex st' G a w Q hV hx hs hf hb hmk hL hQ
   | false=>exact ihy hok.2 gc ro n hro L B0 w0 base st ex st' G a w Q hV hx hs hf hb hmk hL hQ
  ·cases hx
 | block id b ih=>
  intro hok gc ro n hro L B0 w0 base st ex st' G a w Q hV hx hs hf hb hmk hL hQ
  simp only [fc] at hok
  simp only [exec] at hx
  obtain ⟨⟨e1,st1⟩,h1,h2⟩:=Option.bind_eq_some_iff.1 hx
  refine wpIn_block (ih hok gc ro n hro L B0 w0 base st e1 st1 G a w _ hV h1 hs hf hb hmk hL (fun G' a' w' q1 q2 q3 q4=>?_))
  cases e1 with
  | normal=>
   simp only [Option.some.injEq,Prod.mk.injEq] at h2
   obtain ⟨rfl,rfl⟩:=h2
   exact hQ G' a' w' q1 q2 q3 q4
  | exit i=>
   simp only at h2
   show Exit.inBlock id Q (.exit i) a' w'
   simp only [Exit.inBlock]
   by_cases e:i=id
   ·subst e
    simp only [Nat.beq_refl,cond_true,Option.some.injEq,Prod.mk.injEq] at h2
    obtain ⟨rfl,rfl⟩:=h2
    rw [if_pos rfl]
    exact hQ G' a' w' q1 q2 q3 q4
   ·have hb2:i.beq id=false:=by
     cases e2:i.beq id with
     | false=>rfl
     | true=>exact absurd (Nat.eq_of_beq_eq_true e2) e
    rw [hb2] at h2
    simp only [cond_false,Option.some.injEq,Prod.mk.injEq] at h2
    obtain ⟨rfl,rfl⟩:=h2
    rw [if_neg e]
    exact hQ G' a' w' q1 q2 q3 q4
  | ret=>
   simp only [Option.some.injEq,Prod.mk.injEq] at h2
   obtain ⟨rfl,rfl⟩:=h2
   exact hQ G' a' w' q1 q2 q3 q4
 | loop b ih=>
  intro hok gc ro n hro L B0 w0 base st ex st' G a w Q hV hx hs hf hb hmk hL hQ
  simp only [fc] at hok
  simp only [exec] at hx
  obtain ⟨⟨e1,st1⟩,h1,h2⟩:=Option.bind_eq_some_iff.1 hx
  refine wpIn_loop_rounds k (uf (ih hok gc ro n hro) L B0 w0 base hV k st G a w h1 hs hf hb hmk hL (fun G' a' w' q1 q2 q3 q4=>?_))
  cases e1 with
  | normal=>cases h2
  | exit id=>
   obtain ⟨st2,h3,e⟩:=Option.map_eq_some_iff.1 h2
   simp only [Prod.mk.injEq] at e
   obtain ⟨rfl,rfl⟩:=e
   obtain ⟨G2,r1,r2,r3⟩:=vY h3 q1 q2 q3.next
   exact hQ G2 a' w' r1 r2 (q3.trans r3) q4
  | ret=>
   obtain ⟨st2,h3,e⟩:=Option.map_eq_some_iff.1 h2
   simp only [Prod.mk.injEq] at e
   obtain ⟨rfl,rfl⟩:=e
   obtain ⟨G2,r1,r2,r3⟩:=kG h3 q1 q2 q3.next
   exact hQ G2 a' w' r1 r2 (q3.trans r3) q4
 | exit id=>
  intro _ gc ro n hro L B0 w0 base st ex st' G a w Q hV hx hs hf hb hmk hL hQ
  simp only [exec,Option.some.injEq,Prod.mk.injEq] at hx
  obtain ⟨rfl,rfl⟩:=hx
  exact wpIn_exit (hQ G a w hs hf (refl hb) hmk)
 | ret=>
  intro _ gc ro n hro L B0 w0 base st ex st' G a w Q hV hx hs hf hb hmk hL hQ
  simp only [exec,Option.some.injEq,Prod.mk.injEq] at hx
  obtain ⟨rfl,rfl⟩:=hx
  exact wpIn_ret (hQ G a w hs hf (refl hb) hmk)
 | rangeFunc q ps az bd iha ihb=>
  intro hok gc ro n hro L B0 w0 base st ex st' G a w Q hV hx hs hf hb hmk hL hQ
  simp only [fc,Bool.and_eq_true] at hok
  exact DP hE (fun l=>iha hok.1 false (some l) 0 (fun h=>by cases h)) (fun l=>ihb hok.2 false (some l) 0 (fun h=>by cases h)) hro hV hx hs hf hb hmk hL hQ
 | scope=>intro _ gc ro n hro L B0 w0 base st ex st' G a w Q _ hx;cases hx
 | label=>intro _ gc ro n hro L B0 w0 base st ex st' G a w Q _ hx;cases hx
 | goto=>intro _ gc ro n hro L B0 w0 base st ex st' G a w Q _ hx;cases hx
 | refuse=>intro _ gc ro n hro L B0 w0 base st ex st' G a w Q _ hx;cases hx
theorem C9:∀ (args:List S) (i t:Nat) (s:S),(zv i args).get t=some s→i≤t∧args[t - i]?=some s
 | [],i,t,s,h=>by
  have:(zv i []).get t=none:=kK t
  rw [this] at h;cases h
 | x::r,i,t,s,h=>by
  unfold zv at h
  rw [gV] at h
  split at h
  ·rename_i e;subst e
   obtain rfl:=Option.some.inj h
   exact ⟨Nat.le_refl _,by simp⟩
  ·obtain ⟨h1,h2⟩:=C9 r (i+1) t s h
   refine ⟨by omega,?_⟩
   rw [show t - i=(t - (i+1))+1 by omega]
   simpa using h2
theorem R3 {n:Nat} {args:List S} {vs:Array Value} (hl:bD G w args vs.toList) (hn:args.length≤n):cV n G w (zv 0 args) { tmps:=vs++Array.replicate (n - vs.size) undef,defers:=[] }:=by
 have hsz:vs.size=args.length:=by have:=hl.1;simpa using this.symm
 refine ⟨by simp;omega,fun t s hs=>?_⟩
 obtain ⟨_,h2⟩:=C9 args 0 t s hs
 rw [Nat.sub_zero] at h2
 have hlt:t < vs.size:=by rw [hsz];exact (List.getElem?_eq_some_iff.1 h2).1
 have hv:vs[t]?=some vs[t]:=by simp [hlt]
 exact ⟨vs[t],by rw [Array.getElem?_append_left hlt];exact hv,hl.2 t s _ h2 (by simp)⟩
theorem vu (hs:cR B0 w0 G h w) (hf:cV nt G w fr a):∀ (rs:List ResultVar) (l:List S),vM P ⟨fr,h⟩ rs=some l→
  ∃ vs,(rs.mapM (fun | .tmp t=>pure (a.tmps.getD t undef) | .cell a' t=>do loadVar t (← asAddr (a.tmps.getD a' undef))):Sem (List Value)).run P w=.ok vs w∧bD G w l vs
 | [],l,hr=>by
  obtain rfl:=Option.some.inj hr
  exact ⟨[],rfl,.nil⟩
 | .tmp t::r,l,hr=>by
  obtain ⟨l',hl',rfl⟩:=Option.map_eq_some_iff.1 hr
  obtain ⟨vs,h1,h2⟩:=vu hs hf r l' hl'
  exact ⟨a.tmps.getD t undef::vs,by rw [List.mapM_cons];simp only [Sem.run_bind,Sem.run_pure,Result.andThen_ok,h1],.cons (hf.ev (.tmp t)) h2⟩
 | .cell x t::r,l,hr=>by
  obtain ⟨s,hs',hr⟩:=Option.bind_eq_some_iff.1 hr
  obtain ⟨l',hl',rfl⟩:=Option.map_eq_some_iff.1 hr
  obtain ⟨vs,h1,h2⟩:=vu hs hf r l' hl'
  have hx:=hf.ev (.tmp x)
  obtain ⟨u,hu,hsu⟩:=xv (P:=P) hs (fun _ _ h=>h) hx hs'
  have e1:a.eval (.tmp x)=a.tmps.getD x undef:=rfl
  rw [e1] at hu
  have hrun:(do loadVar t (← asAddr (a.tmps.getD x undef)):Sem Value).run P w=.ok u w:=by
   cases hv:a.tmps.getD x undef with
   | pointer p=>
    rw [hv] at hu
    cases p with
    | some p=>simpa [Instr.loadAt,Instr.sureAddr,asAddr] using hu
    | none=>simp [Instr.loadAt,Instr.sureAddr] at hu
   | _=>rw [hv] at hu;simp [Instr.loadAt,Instr.sureAddr] at hu
  refine ⟨u::vs,?_,.cons hsu h2⟩
  rw [List.mapM_cons]
  simp only [Sem.run_bind,Sem.run_pure,Result.andThen_ok,h1] at hrun ⊢
  rw [hrun]
  simp only [Result.andThen_ok,h1]
theorem CU (hs:cR B0 w0 G h w) (hf:cV nt G w fr a) {fn:Func} {l:List S} (hr:vM P ⟨fr,h⟩ fn.results.toList=some l):∃ v,(results fn a.tmps).run P w=.ok v w∧aY G w (j4 l) v:=by
 obtain ⟨vs,h1,h2⟩:=vu (P:=P) hs hf fn.results.toList l hr
 unfold results
 rw [Array.mapM_eq_mapM_toList]
 simp only [Sem.run_bind,Sem.run_map,h1,Result.andThen_ok,Sem.run_pure]
 refine ⟨(if h:vs.toArray.size=1 then vs.toArray[0] else Value.tuple vs.toArray),congrArg (fun x:Result (List Value)=>(x.andThen fun (a:List Value) w'=>Result.ok a.toArray w').andThen fun (a:Array Value) w'=>Result.ok (if h:a.size=1 then a[0] else Value.tuple a) w') h1,?_⟩
 cases l with
 | nil=>
  obtain rfl:vs=[]:=List.length_eq_zero_iff.1 h2.1.symm
  exact .bJ (by simp) (fun i s v h=>by simp at h)
 | cons s r=>
  cases r with
  | nil=>
   obtain ⟨v,r',rfl,hv,hr'⟩:=h2.dK
   obtain rfl:r'=[]:=List.length_eq_zero_iff.1 hr'.1.symm
   exact hv
  | cons s2 r=>
   have hl:vs.toArray.size≠1:=by have:=h2.1;simp at this ⊢;omega
   rw [dif_neg hl]
   exact .bJ (by have:=h2.1;simpa using this) (fun i s v q1 q2=>h2.2 i s v q1 (by simpa using q2))
theorem tj {f:FuncId} {fn:Func} {c:Code} {args:Array Value} {w:World} {R:Ending→World→Prop} (hf:P.funcs[f]?=some fn) (hb:fn.body=some c)
  (h:c.wpIn (FR none) 0 P (bodyPostM (FR none) 0 P fn R) { tmps:=args++Array.replicate (fn.ntmps - args.size) undef,defers:=[] } w):Calls P f args w R:=
 callsIn_wide.1 (callsIn_of_wp_marks (F:=FR none) (n:=0) hf hb trivial h)
theorem xc {gc:Bool} {nt base:Nat} {st:St} {fn:Func} {l:List S} {a:Act} {G0 G1:Gh} {h0:Heap} {ws w1:World} (hL:B0≤ws.heap.size) (s1:cR B0 w0 G1 st.h w1) (f1:cV nt G1 w1 st.fr a) (x1:Xt B0 gc base G0 h0 ws G1 st.h w1) (hi0:∀ r,G0.bB r→r < ws.heap.size)
  (hr:vM P st fn.results.toList=some l):∀ (ds:List Deferred) (w:World),vJ ws.heap.size w ds→cR B0 w0 G1 st.h w→cV nt G1 w st.fr a→(∀ k,k < ws.heap.size→w.heap[k]?=w1.heap[k]?)→
  LeavesInM (FR none) 0 P fn a.tmps (fun e w'=>∃ v G',e=.returned v∧cR B0 w0 G' st.h w'∧Xt B0 gc base G0 h0 ws G' st.h w'∧aY G' w' (j4 l) v) ds .returning w
 | [],w,_,hs,hf,hk=>by
  obtain ⟨v,h1,h2⟩:=CU (P:=P) (fn:=fn) hs hf hr
  exact ⟨v,h1,v,G1,rfl,hs,⟨x1.bB,fun r hr=>(hk r (hi0 r hr)).trans (x1.bO r hr),x1.mu,x1.r_,x1.next,x1.old,fun k o ho hl=>by
   have hlt:k < ws.heap.size:=(Array.getElem?_eq_some_iff.1 ho).1
   exact (hk k hlt).trans (x1.ld k o ho hl)⟩,h2⟩
 | d::ds,w,hm,hs,hf,hk=>by
  obtain ⟨D,e,hD,hw⟩:=hm.1 d (by simp)
  obtain ⟨s2,r2⟩:=hs.xn (o':=.deferred none) hw rfl (Nat.le_trans hL hD)
  refine ⟨by simp,.inl ⟨D,w.putObj D (.deferred none),by rw [e],run_takeDeferred hw,?_⟩⟩
  refine xc hL s1 f1 x1 hi0 hr ds _ ⟨fun d' hd'=>?_,(List.nodup_cons.1 hm.2).2⟩ s2 (hf.mono r2) (fun k hk'=>(World.putObj_heap_other (by omega)).trans (hk k hk'))
  obtain ⟨D',e',hD',hw'⟩:=hm.1 d' (by simp [hd'])
  refine ⟨D',e',hD',(World.putObj_heap_other (fun eq=>?_)).trans hw'⟩
  subst eq
  exact (List.nodup_cons.1 hm.2).1 (by rw [e,← e'];exact hd')
theorem sW {V:World→Prop} {E:Env} (hE:kg V E) (hV:∀ w',Below B0 w0 w'→V w') (hmix:E.P.follows .mixedOrders=true) {f:FuncId} (hno:E.ov f=none) {gc:Bool} {k:Nat} {args:List S} {r:S} {h':Heap} (hok:∀ fn c,E.P.funcs[f]?=some fn→fn.body=some c→fc E.inl c=true) (hx:cD E gc k f args h=some (r,h')) {vs:Array Value}
  (hs:cR B0 w0 G h w) (hL:gc=true→w.heap.size≤w0.heap.size) (hl:bD G w args vs.toList):
  Calls E.P f vs w fun e w'=>∃ v G',e=.returned v∧cR B0 w0 G' h' w'∧Xt B0 gc h.next G h w G' h' w'∧aY G' w' r v:=by
 unfold cD at hx
 have hfe:E.fn f=E.P.funcs[f]?:=by unfold Env.fn;rw [hno]
 rw [hfe] at hx
 split at hx
 ·cases hx
 ·rename_i fn hfn
  split at hx
  ·cases hx
  ·rename_i c hb
   cases e:args.length.ble fn.ntmps with
   | false=>rw [e] at hx;cases hx
   | true=>
    rw [e,cond_true] at hx
    have hn:=Nat.le_of_ble_eq_true e
    have main:∀ (ex:Ex) (st:St),(ex=.normal∨ex=.ret)→exec E f fn.ntmps gc k c ⟨zv 0 args,h⟩=some (ex,st)→((vM E.P st fn.results.toList).map fun l=>(j4 l,st.h))=some (r,h')→
      Calls E.P f vs w fun e w'=>∃ v G',e=.returned v∧cR B0 w0 G' h' w'∧Xt B0 gc h.next G h w G' h' w'∧aY G' w' r v:=by
     intro ex st hex he hr
     obtain ⟨l,hl2,e2⟩:=Option.map_eq_some_iff.1 hr
     simp only [Prod.mk.injEq] at e2
     obtain ⟨rfl,rfl⟩:=e2
     refine tj hfn hb ?_
     refine H_ hE hmix c (hok fn c hfn hb) gc none 0 (fun _=>rfl) w.heap.size B0 w0 h.next ⟨zv 0 args,h⟩ ex st G _ w _ hV he hs (R3 hl hn) (fun _=>Nat.le_refl _) (vJ.nil _ _) hL (fun G' a' w' q1 q2 q3 q4=>?_)
     have fin:=xc (fn:=fn) (st:=st) (P:=E.P) hs.b0 q1 q2 q3 (fun r hr=>hs.bB r hr) hl2 a'.defers w' q4 q1 q2 (fun _ _=>rfl)
     rcases hex with rfl | rfl<;>exact fin
    obtain ⟨⟨ex,st⟩,he,hx⟩:=Option.bind_eq_some_iff.1 hx
    cases ex with
    | normal=>exact main .normal st (.inl rfl) he hx
    | ret=>exact main .ret st (.inr rfl) he hx
    | exit id=>cases hx
def X4 (V:World→Prop) (P:Program) (ext:FuncId→Option (List S→Option S)):Prop:=
 ∀ f F,ext f=some F→f < 2000000→∀ args r,F args=some r→∀ (I:Nat→Prop) (w:World) (vs:Array Value),(∀ q,I q→q < w.heap.size)→iW I w→V w→bD (Gh.bare I) w args vs.toList→Calls P f vs w (vH I w r)
def abj (w:World) (I:Nat→Prop) (c:Array Value) (sz m:Nat) (g:Fin m→List T):Prop:=∀ (i:Fin m) (k:Nat) (t:T),(g i)[k]?=some t→∃ v,c[i.1*sz+k]?=some v∧dH w I t v
def La (V:World→Prop) (P:Program) (g:FuncId) (F:List S→Option S):Prop:=
 ∀ (sz m:Nat) (g0:Fin m→List T) (x:T) (r:S),F [.t (.rows sz m g0),.t x]=some r→∃ g':Fin m→List T,r=.t (.rows sz m g')∧(∀ i,(g' i).length=sz)∧
  (∀ (I:Nat→Prop) (w:World) (q cap:Nat) (c:Array Value) (ty:TypeId) (fz:Nat × Nat) (vx:Value),(∀ k,I k→k < w.heap.size)→iW I w→V w→w.heap[q]?=some (.cells c ty fz)→kZ c fz→¬ I q→m≤cap→cap*sz≤c.size→abj w I c sz m g0→(∀ i,(g0 i).length=sz)→dH w I x vx→
   Calls P g #[.slice (some ⟨q,0,none⟩) m cap,vx] w fun e w'=>e=.returned (.tuple #[])∧w'.os=w.os∧w'.tape=w.tape∧w'.output=w.output∧w.heap.size≤w'.heap.size∧(∀ k,k≠q→k < w.heap.size→w'.heap[k]?=w.heap[k]?)∧∃ c',w'.heap[q]?=some (.cells c' ty fz)∧c'.size=c.size∧abj w' I c' sz m g')∧
  (m=0→∀ (I:Nat→Prop) (w:World) (base:Option Addr) (vx:Value),V w→dH w I x vx→Calls P g #[.slice base 0 0,vx] w fun e w'=>e=.returned (.tuple #[])∧Below w.heap.size w w')
def aiZ (V:World→Prop) (O:jl):Prop:=
 ∀ f fn,O.ov f=some fn→∀ k,kg V (dR O k)→∀ args r h',cD (dR O k) true k f args .empty=some (r,h')→∀ (G:Gh) (w:World) (vs:Array Value),(∀ w',Below w.heap.size w w'→V w')→cR w.heap.size w G .empty w→bD G w args vs.toList→
  Calls O.P f vs w fun e w'=>∃ v G',e=.returned v∧cR w.heap.size w G' h' w'∧Xt w.heap.size true 0 G .empty w G' h' w'∧aY G' w' r v
structure G6 (V:World→Prop) (O:jl):Prop where
 vst:∀ w w',V w→Below w.heap.size w w'→V w'
 base:∀ w,V w→dq.n≤w.heap.size
 k:M8 O.P O.K
 fn:agv O.P O.fnOk
 mix:O.P.follows .mixedOrders=true
 code:∀ f fn c,O.fns f=true→O.ov f=none→O.P.funcs[f]?=some fn→fn.body=some c→fc O.inl c=true
 ext:X4 V O.P O.ext
 inp:∀ f F,O.ext (2000000+f)=some F→La V O.P f F
 ov:aiZ V O
 rf:∀ f r sp,oJ O.live f r=some sp→QR O.P sp∧∀ vs w,(callFunc sp.g vs).run O.P w=.ok (.enter sp.g vs) w
theorem Fe (O:jl):∀ k,(dR O k).P=O.P∧(dR O k).inl=O.inl∧(dR O k).K=O.K∧(dR O k).fnOk=O.fnOk∧(dR O k).ov=O.ov∧(dR O k).live=O.live
 | 0=>⟨rfl,rfl,rfl,rfl,rfl,rfl⟩
 | k+1=>⟨rfl,rfl,rfl,rfl,rfl,rfl⟩
theorem xo (I:Nat→Prop) (hI:∀ q,I q→q < w.heap.size) (hN:iW I w) (hb:dq.n≤w.heap.size):cR w.heap.size w (Gh.bare I) .empty w:=
 ⟨Below.refl _ _,hI,(fun b x hb=>by rw [show Heap.empty.get b=none from kK b] at hb;cases hb),fun b b' r hb=>absurd (show Heap.empty.get b=none from kK b) hb,fun b _=>⟨rfl,kK b⟩,Nat.le_refl _,hN,hb⟩
theorem rI {G:Gh} {h:Heap} {w w0:World} {B0:Nat} (hs:cR B0 w0 G h w) {d:Nat} {s s':S} {v:Value} {l:List Nat} (hc:sL h.get d s=some (s',l)) (hr:aY G w s v):∀ G2:Gh,(∀ r,l8 G h l r→G2.bB r)→aY G2 w s' v:=by
 intro G2 hi
 unfold sL at hc
 split at hc
 ·rename_i b n
  split at hc
  ·rename_i sz n' g hb
   simp only [Option.some.injEq,Prod.mk.injEq] at hc
   obtain ⟨rfl,rfl⟩:=hc
   cases hr with | sl hmu hbase=>
   have hrep:=hs.rep b _ hb
   cases hrep with
   | row hmu' hown hbl hf hcap hle hc hlen hi2 hB=>
    rw [hmu] at hmu'
    simp only [Option.some.injEq,Value.slice.injEq] at hmu'
    obtain ⟨rfl,rfl,rfl⟩:=hmu'
    exact .top ⟨hcap,hlen,G.bB,fun q hq=>hi q (.inl hq),fun _=>⟨_,0,_,_,_,rfl,hi _ (.inr ⟨b,by simp,by rw [hb];simp,hown⟩),hi2 rfl,Nat.le_trans hs.bs hB,hbl,hf,fun i k t ht=>by rw [Nat.zero_add];exact hc i k t ht⟩⟩
   | none hmu' hown=>
    rw [hmu] at hmu'
    simp only [Option.some.injEq,Value.slice.injEq] at hmu'
    obtain ⟨rfl,rfl,rfl⟩:=hmu'
    exact .top ⟨Nat.le_refl _,fun i=>i.elim0,fun _=>False,fun _ h=>h.elim,fun h=>absurd rfl h⟩
  ·exact e_ hs (fun _ _ h=>h) d _ v s' l hc hr G2 hi
 ·exact e_ hs (fun _ _ h=>h) d _ v s' l hc hr G2 hi
theorem Gx {G:Gh} {h:Heap} {w w0:World} {B0:Nat} (hs:cR B0 w0 G h w) {d:Nat} {s s':S} {v:Value} {l:List Nat} (hc:yb h.get d s=some (s',l)) (hr:aY G w s v):∀ G2:Gh,(∀ r,l8 G h l r→G2.bB r)→aY G2 w s' v:=by
 intro G2 hi
 unfold yb at hc
 split at hc
 ·rename_i s r
  split at hc
  ·rename_i x l1 hx
   split at hc
   ·rename_i xs l2 hxs
    simp only [Option.some.injEq,Prod.mk.injEq] at hc
    obtain ⟨rfl,rfl⟩:=hc
    obtain ⟨vs,rfl,hl,hv⟩:=qk hr
    have hL:bD G w (s::r) vs.toList:=⟨by simpa using hl,fun i s v h1 h2=>hv i s v h1 (by simpa using h2)⟩
    obtain ⟨u,us,e,hu,hus⟩:=hL.dK
    have r1:=rI hs hx hu G2 (fun r hr=>hi r (eJ (fun b hb=>by simp [hb]) hr))
    have r2:=gv hs (fun _ _ h=>h) d r us xs l2 hxs hus G2 (fun r hr=>hi r (eJ (fun b hb=>by simp [hb]) hr))
    have r3:bD G2 w (x::xs) vs.toList:=by rw [e];exact .cons r1 r2
    exact .bJ (by simpa using r3.1) (fun i s v h1 h2=>r3.2 i s v h1 (by simpa using h2))
   ·cases hc
  ·cases hc
 ·exact rI hs hc hr G2 hi
theorem GZ {G:Gh} {h:Heap} {w w0:World} {B0 f:Nat} (hs:cR B0 w0 G h w) {s s':S} {v:Value} {l:List Nat} (hc:mE f h.get bZ s=some (s',l)) (hr:aY G w s v):aY (Gh.bare (l8 G h l)) w s' v:=by
 unfold mE at hc
 cases e:BS f with
 | true=>rw [e] at hc;exact Gx hs hc hr _ fun _ h=>h
 | false=>rw [e] at hc;exact e_ hs (fun _ _ h=>h) bZ s v s' l hc hr _ fun _ h=>h
mutual
theorem D3 {G:Gh} {w:World}:∀ (sh:Sh) (s:S) (v:Value),aY G w s v→aY G w (sT sh s) v
 | .rows sz j,s,v,h=>by
  unfold sT
  split
  ·rename_i e1
   simp only [Sh.rows.injEq] at e1
   cases h with
   | t h=>cases h with
    | v x hx=>exact .t (.rows _ 0 _ none 0 (fun i=>i.elim0) (Nat.le_refl 0) (fun i=>i.elim0) (fun h=>absurd rfl h) (fun i=>i.elim0))
  ·rename_i e;cases e
  ·rename_i e;cases e
  ·rename_i e;cases e
  ·exact h
 | .top sz j,s,v,h=>by
  unfold sT
  split
  ·rename_i e;cases e
  ·rename_i e1
   simp only [Sh.top.injEq] at e1
   cases h with
   | t h=>cases h with
    | v x hx=>exact .top ⟨Nat.le_refl 0,fun i=>i.elim0,fun _=>False,fun _ h=>h.elim,fun h=>absurd rfl h⟩
  ·rename_i e;cases e
  ·rename_i e;cases e
  ·exact h
 | .agg l,s,v,h=>by
  unfold sT
  split
  ·rename_i e;cases e
  ·rename_i e;cases e
  ·rename_i l' cs e
   simp only [Sh.agg.injEq] at e
   subst e
   cases h with
   | agg hl h=>
    rename_i vs
    obtain ⟨p,q⟩:=tP l cs (fun i=>vs[i]?) (fun i s v hs hv=>h i s v hs hv)
    exact .agg (p.trans hl) (fun i s v hs hv=>q i s v hs hv)
  ·rename_i e;cases e
  ·exact h
 | .bJ l,s,v,h=>by
  unfold sT
  split
  ·rename_i e;cases e
  ·rename_i e;cases e
  ·rename_i e;cases e
  ·rename_i l' cs e
   simp only [Sh.bJ.injEq] at e
   subst e
   cases h with
   | bJ hl h=>
    rename_i vs
    obtain ⟨p,q⟩:=tP l cs (fun i=>vs[i]?) (fun i s v hs hv=>h i s v hs hv)
    exact .bJ (p.trans hl) (fun i s v hs hv=>q i s v hs hv)
  ·exact h
 | .int _ _,s,v,h=>by unfold sT;exact h
 | .bool _,s,v,h=>by unfold sT;exact h
 | .str _,s,v,h=>by unfold sT;exact h
 | .mt _,s,v,h=>by unfold sT;exact h
theorem tP {G:Gh} {w:World}:∀ (l:List Sh) (cs:List S) (V:Nat→Option Value),(∀ i s v,cs[i]?=some s→V i=some v→aY G w s v)→(DE l cs).length=cs.length∧∀ i s v,(DE l cs)[i]?=some s→V i=some v→aY G w s v
 | [],cs,V,h=>by unfold DE;exact ⟨rfl,h⟩
 | _::_,[],V,h=>by unfold DE;exact ⟨rfl,h⟩
 | sh::l,s::r,V,h=>by
  unfold DE
  obtain ⟨p,q⟩:=tP l r (fun i=>V (i+1)) (fun i s v hs hv=>h (i+1) s v hs hv)
  refine ⟨by simp [p],fun i s' v hs hv=>?_⟩
  cases i with
  | zero=>
   simp only [List.getElem?_cons_zero,Option.some.injEq] at hs
   subst hs
   exact D3 sh s v (h 0 s v rfl hv)
  | succ i=>exact q i s' v hs hv
end
theorem Ms {P:Program} {f:FuncId} {G:Gh} {w:World} {s:S} {v:Value} (h:aY G w s v):aY G w (oU P f s) v:=by
 unfold oU
 split
 ·exact D3 _ _ _ h
 ·exact h
theorem cR.Z1 (hs:cR B0 w0 G h w) {b r:Nat} {x x':B} (hb:h.get b=some x) (hown:G.own b=some r) (hni:¬ G.bB r) (hB:B0≤r) {w':World} (hk:∀ k,k≠r→k < w.heap.size→w'.heap[k]?=w.heap[k]?) (hsz:w.heap.size≤w'.heap.size)
  (hos:w'.os=w.os) (htape:w'.tape=w.tape) (hout:w'.output=w.output) (hx':jG G B0 w' b x'):cR B0 w0 G (h.put b x') w'∧Nx B0 h.next G h w G (h.put b x') w':=by
 have hkeep:∀ q,G.bB q→w'.heap[q]?=w.heap[q]?:=fun q hq=>hk q (fun e=>hni (e ▸ hq)) (hs.bB q hq)
 have hbe:Below B0 w w':=⟨hos,htape,hout,hsz,fun k hk'=>hk k (by omega) (by have:=hs.b0;omega)⟩
 refine ⟨⟨hs.below.trans hbe,fun q hq=>by have:=hs.bB q hq;omega,fun b2 y hb2=>?_,fun b1 b2 q h1 h2 h3 h4=>?_,fun b2 hb2=>⟨(hs.lo b2 hb2).1,?_⟩,by have:=hs.b0;omega,hs.gP.mono hkeep,hs.bs⟩,⟨fun _ h=>h,hkeep,fun _ _ _=>rfl,fun b2 _ _ hn=>?_,Nat.le_refl _,fun _ h=>.inl h,fun k o hk1 hl=>(hk k (fun e=>by subst e;have hq:=(hs.rep b x hb).wa hown hk1;rw [hq] at hl;cases hl) (Array.getElem?_eq_some_iff.1 hk1).1).trans hk1⟩⟩
 ·rw [cN] at hb2
  split at hb2
  ·rename_i e
   subst e
   obtain rfl:=Option.some.inj hb2
   exact hx'
  ·rename_i e
   refine (hs.rep b2 y hb2).mono (fun _ h=>h) (fun _ _ h=>h) hkeep (fun _ _ h=>h) rfl (fun q hq=>hk q (fun eq=>?_) ((hs.rep b2 y hb2).lt hq))
   subst eq
   exact e (hs.inj b b2 q (by rw [hb];simp) (by rw [hb2];simp) hown hq)
 ·have ne:∀ b3,(h.put b x').get b3≠none→h.get b3≠none:=by
   intro b3 h3
   rw [cN] at h3
   split at h3
   ·rename_i e;subst e;rw [hb];simp
   ·exact h3
  exact hs.inj b1 b2 q (ne b1 h1) (ne b2 h2) h3 h4
 ·rw [cN]
  split
  ·rename_i e;subst e;rw [(hs.lo b hb2).2] at hb;cases hb
  ·exact (hs.lo b2 hb2).2
 ·rw [cN]
  split
  ·rename_i e;subst e;rw [hn] at hb;cases hb
  ·exact hn
theorem U8 {V:World→Prop} {g:FuncId} {F:List S→Option S} (hF:La V P g F) {args:List S} {r:S} {h':Heap} (hx:kN F args h=some (r,h')) {vs:Array Value} (hV:V w) (hs:cR B0 w0 G h w) (hl:bD G w args vs.toList):
  Calls P g vs w (aew B0 w0 G h w r h'):=by
 unfold kN at hx
 split at hx
 ·rename_i b n x
  split at hx
  ·rename_i sz m g0 hb
   split at hx
   ·rename_i sz' m' g' hr
    obtain ⟨e,hx2⟩:=bP hx
    obtain ⟨g1,e1,hlen,hrow,hnil⟩:=hF sz m g0 x _ hr
    simp only [S.t.injEq,T.rows.injEq] at e1
    obtain ⟨rfl,rfl,e1⟩:=e1
    obtain rfl:=eq_of_heq e1
    simp only [Option.some.injEq,Prod.mk.injEq] at hx2
    obtain ⟨rfl,rfl⟩:=hx2
    obtain ⟨v0,l1,e2,hv0,hl1⟩:=hl.dK
    obtain ⟨v1,l2,rfl,hv1,hl2⟩:=hl1.dK
    obtain rfl:l2=[]:=List.length_eq_zero_iff.1 hl2.1.symm
    obtain rfl:vs=#[v0,v1]:=Array.toList_inj.1 e2
    cases hv1 with | t hx1=>
    cases hv0 with | sl hmu hbase=>
    have hrep:=hs.rep b _ hb
    cases hrep with
    | row h1 h2 h3 hz hcap hsz hc hl0 hi hB=>
     rw [h1] at hmu
     simp only [Option.some.injEq,Value.slice.injEq] at hmu
     obtain ⟨rfl,rfl,rfl⟩:=hmu
     refine (hrow G.bB w _ _ _ _ _ v1 hs.bB hs.gP hV h3 hz (hi rfl) hcap hsz hc hl0 hx1).mono fun e w' ⟨he,q1,q2,q3,q4,q5,c',q6,q7,q8⟩=>?_
     obtain ⟨s1,s2⟩:=hs.Z1 hb h2 (hi rfl) hB q5 q4 q1 q2 q3 (x':=.row false sz' m' g') (.row h1 h2 q6 (by unfold kZ at *;rw [q7];exact hz) hcap (by rw [q7];exact hsz) q8 hlen hi hB)
     exact ⟨_,G,he,s1,s2,.bJ (by simp) fun i s v h=>by simp at h⟩
    | none h1 h2=>
     rw [h1] at hmu
     simp only [Option.some.injEq,Value.slice.injEq] at hmu
     obtain ⟨rfl,rfl,rfl⟩:=hmu
     refine (hnil rfl G.bB w _ v1 hV hx1).mono fun e w' ⟨he,hbe⟩=>?_
     obtain ⟨s1,s2⟩:=hs.later hbe h.next
     have s3:=s1.XA hb (x':=.row false sz' 0 g') (.none h1 h2)
     refine ⟨_,G,he,s3,⟨s2.bB,s2.bO,s2.mu,fun b2 hn1 hn2 hn=>?_,s2.next,s2.old,s2.ld⟩,.bJ (by simp) fun i s v h=>by simp at h⟩
     rw [cN]
     split
     ·rename_i e;subst e;rw [hb] at hn;cases hn
     ·exact s2.r_ b2 hn1 hn2 hn
   ·cases hx
  ·cases hx
 ·cases hx
theorem AM {V:World→Prop} {O:jl} (hO:G6 V O):∀ k,kg V (dR O k)
 | 0=>⟨hO.k,hO.fn,(fun f args r h=>by cases h),(fun f args h r h' hx=>by cases hx),hO.rf⟩
 | k+1=>by
  have ih:=AM hO k
  obtain ⟨eP,eI,eK,eF,eO,_⟩:=Fe O k
  have hmix:(dR O k).P.follows .mixedOrders=true:=by rw [eP];exact hO.mix
  refine ⟨hO.k,hO.fn,fun f args r hx hlt I w vs hI hN hv hl=>?_,fun f args h r h' hx B0 w0 G w vs hV hs hl=>?_,hO.rf⟩
  ·have hx':(match O.ext f with
    | some F=>F args
    | none=>bif O.fns f then
     (match cD (dR O k) true k f args .empty with
      | some (r,h)=>(mE f h.get bZ r).map fun p=>oU O.P f p.1
      | none=>none) else none)=some r:=hx
   split at hx'
   ·rename_i F hF
    exact hO.ext f F hF hlt args r hx' I w vs hI hN hv hl
   ·cases hf:O.fns f with
    | false=>rw [hf] at hx';cases hx'
    | true=>
     rw [hf,cond_true] at hx'
     split at hx'
     ·rename_i r0 h1 hb
      obtain ⟨⟨r1,l⟩,hcl,e⟩:=Option.map_eq_some_iff.1 hx'
      simp only at e
      subst e
      have hcall:Calls O.P f vs w fun e w'=>∃ v G',e=.returned v∧cR w.heap.size w G' h1 w'∧Xt w.heap.size true 0 (Gh.bare I) .empty w G' h1 w'∧aY G' w' r0 v:=by
       cases hov:O.ov f with
       | some fn=>exact hO.ov f fn hov k ih args r0 h1 hb (Gh.bare I) w vs (fun w' hb=>hO.vst w w' hv hb) (xo I hI hN (hO.base w hv)) hl
       | none=>
        have hcall:=sW ih (fun w' hb=>hO.vst w w' hv hb) hmix (by rw [eO];exact hov) (fun fn c h1 h2=>by rw [eI];exact hO.code f fn c hf hov (by rw [← eP];exact h1) h2) hb (xo I hI hN (hO.base w hv)) (fun _=>Nat.le_refl _) hl
        rw [eP] at hcall
        exact hcall
      refine hcall.mono fun e w' ⟨v,G',he,q1,q2,q3⟩=>?_
      refine ⟨v,l8 G' h1 l,he,q1.below,fun q hq=>.inl (q2.bB q hq),fun q hq=>?_,fun q hq hlt=>?_,fun q o hq ho=>?_,Ms (GZ q1 hcl q3)⟩
      ·rcases hq with hq | ⟨b,_,hb,ho⟩
       ·exact q1.bB q hq
       ·cases hx:h1.get b with
        | none=>exact absurd hx hb
        | some x=>exact (q1.rep b x hx).lt ho
      ·rcases hq with hq | ⟨b,_,hb,ho⟩
       ·rcases q2.old q hq with hq | hq
        ·exact hq
        ·omega
       ·cases hx:h1.get b with
        | none=>exact absurd hx hb
        | some x=>have:=(q1.rep b x hx).ge ho;omega
      ·rcases hq with hq | ⟨b,_,hb,hown⟩
       ·exact q1.gP q o hq ho
       ·cases hx:h1.get b with
        | none=>exact absurd hx hb
        | some x=>exact (q1.rep b x hx).wa hown ho
     ·cases hx'
  ·have hx':(match O.ext (2000000+f) with
    | some F=>kN F args h
    | none=>bif O.fns f && (O.ov f).isNone then cD (dR O k) false k f args h else none)=some (r,h'):=hx
   split at hx'
   ·rename_i F hF
    exact U8 (hO.inp f F hF) hx' (hV w hs.below) hs hl
   obtain ⟨hf2,hx'⟩:=bP hx'
   rw [Bool.and_eq_true] at hf2
   obtain ⟨hf,hov⟩:=hf2
   have hov:O.ov f=none:=by simpa using hov
   ·have hcall:=sW ih hV hmix (by rw [eO];exact hov) (fun fn c h1 h2=>by rw [eI];exact hO.code f fn c hf hov (by rw [← eP];exact h1) h2) hx' hs (fun h=>by cases h) hl
    rw [eP] at hcall
    refine hcall.mono fun e w' ⟨v,G',he,q1,q2,q3⟩=>⟨v,G',he,q1,⟨q2.bB,q2.bO,fun b _ hb=>q2.mu rfl b hb,fun b _ hb hn=>q2.r_ rfl b hb hn,q2.next rfl,q2.old,q2.ld⟩,q3⟩
end
end Go.Proofs.YtonkoellfaopiaaGreatDoor.H
namespace Go.Proofs.YtonkoellfaopiaaGreatDoor.H
open Go
abbrev CT:=FuncId→List S→Option S
abbrev CI:=FuncId→List S→Heap→Option (S × Heap)
section
variable {P:Program} {K:TypeId→Option (List Nat)} {fnOk inl:FuncId→Bool} {live:FuncId→Nat→Option (List Nat)} {ov:FuncId→Option Func} {α β:Type}
abbrev mk (P:Program) (K:TypeId→Option (List Nat)) (fnOk inl:FuncId→Bool) (live:FuncId→Nat→Option (List Nat)) (ov:FuncId→Option Func) (t:CT) (i:CI):Env:=⟨P,K,fnOk,inl,live,ov,t,i⟩
def IT (t:CT) (L:List (FuncId × List S × S)):Prop:=∀ q∈L,t q.1 q.2.1=some q.2.2
def Js (i:CI) (M:List (FuncId × List S × Heap × S × Heap)):Prop:=∀ q∈M,i q.1 q.2.1 q.2.2.1=some q.2.2.2
def dA (t:CT) (i:CI) (k:Nat) (R:CT→CI→Nat→Option α) (y:α):Prop:=
 ∃ L M,IT t L∧Js i M∧∀ t' i' k',IT t' L→Js i' M→k≤k'→R t' i' k'=some y
theorem gR {t:CT} {L L':List (FuncId × List S × S)}:IT t (L++L')↔IT t L∧IT t L':=by simp [IT,or_imp,forall_and]
theorem hZ {i:CI} {L L':List (FuncId × List S × Heap × S × Heap)}:Js i (L++L')↔Js i L∧Js i L':=by simp [Js,or_imp,forall_and]
theorem dA.const {t:CT} {i:CI} {k:Nat} {R:Option α} {y:α} (h:R=some y):dA t i k (fun _ _ _=>R) y:=
 ⟨[],[],(fun _ h=>by cases h),(fun _ h=>by cases h),fun _ _ _ _ _ _=>h⟩
theorem dA.bind {t:CT} {i:CI} {k:Nat} {R:CT→CI→Nat→Option α} {x:α} {R2:CT→CI→Nat→α→Option β} {y:β} (h:dA t i k R x) (h2:dA t i k (fun t i k=>R2 t i k x) y):dA t i k (fun t i k=>(R t i k).bind (R2 t i k)) y:=by
 obtain ⟨L,M,a,b,c⟩:=h
 obtain ⟨L',M',a',b',c'⟩:=h2
 refine ⟨L++L',M++M',gR.2 ⟨a,a'⟩,hZ.2 ⟨b,b'⟩,fun t i k q1 q2 q3=>?_⟩
 show (R t i k).bind (R2 t i k)=_
 rw [c t i k (gR.1 q1).1 (hZ.1 q2).1 q3]
 exact c' t i k (gR.1 q1).2 (hZ.1 q2).2 q3
theorem dA.congr {t:CT} {i:CI} {k:Nat} {R R':CT→CI→Nat→Option α} {y:α} (h:dA t i k R y) (e:∀ t i k,R t i k=R' t i k):dA t i k R' y:=by
 have:R'=R:=by funext t i k;exact (e t i k).symm
 rw [this];exact h
theorem dA.map {t:CT} {i:CI} {k:Nat} {R:CT→CI→Nat→Option α} {x:α} {g:α→β} {y:β} (h:dA t i k R x) (e:g x=y):dA t i k (fun t i k=>(R t i k).map g) y:=by
 refine (h.bind (R2:=fun _ _ _ x=>some (g x)) (dA.const (by rw [e]))).congr (fun t i k=>?_)
 cases R t i k<;>rfl
theorem dA.aE {t:CT} {i:CI} {k:Nat} {f:FuncId} {args:List S} {r:S} (h:t f args=some r):dA t i k (fun t _ _=>t f args) r:=
 ⟨[(f,args,r)],[],(fun q hq=>by rw [List.mem_singleton.1 hq];exact h),(fun _ h=>by cases h),fun t' _ _ h1 _ _=>h1 (f,args,r) (by simp)⟩
theorem dA.eR {t:CT} {i:CI} {k:Nat} {f:FuncId} {args:List S} {hp:Heap} {r:S × Heap} (h:i f args hp=some r):dA t i k (fun _ i _=>i f args hp) r:=
 ⟨[],[(f,args,hp,r)],(fun _ h=>by cases h),(fun q hq=>by rw [List.mem_singleton.1 hq];exact h),fun _ i' _ _ h2 _=>h2 (f,args,hp,r) (by simp)⟩
theorem mJ {t:CT} {i:CI} {k:Nat} {get:Nat→Option B} {f:FuncId} {args:List S} {y:S × List Nat} (h:dh (mk P K fnOk inl live ov t i) get f args=some y):
  dA t i k (fun t i _=>dh (mk P K fnOk inl live ov t i) get f args) y:=by
 unfold dh at h ⊢
 split at h
 ·rename_i args' l hc
  try simp only [hc]
  split at h
  ·rename_i r hr
   refine ((dA.aE (i:=i) (k:=k) hr).bind (R2:=fun _ _ _ r=>bif eS bZ r then some (r,[]) else bif l.all (rowAt get) then (bif ib r && l.all (tD get) then some (r,[]) else some (r,l)) else none) (dA.const h)).congr (fun t i k=>?_)
   show Option.bind (t f args') _=_
   cases e:t f args'<;>rfl
  ·cases h
 ·cases h
theorem Du {t:CT} {i:CI} {k:Nat} {get:Nat→Option B} {fr:Fr} {op:Op} {y:S} (h:cb (mk P K fnOk inl live ov t i) get fr op=some y):
  dA t i k (fun t i _=>cb (mk P K fnOk inl live ov t i) get fr op) y:=by
 cases op with
 | call c=>
  obtain ⟨callee,args,argTypes⟩:=c
  cases callee with
  | value f=>
   simp only [cb] at h ⊢
   split at h
   ·rename_i g az hc
    try simp only [hc]
    cases e:!fnOk g || inl g with
    | true=>simp only [e,cond_true] at h;cases h
    | false=>
     simp only [e,cond_false] at h ⊢
     split at h
     ·rename_i r hq
      refine ((mJ (k:=k) hq).bind (R2:=fun _ _ _ p=>match p with | (r,[])=>some r | _=>none) (dA.const h)).congr (fun t i k=>?_)
      cases e:dh (mk P K fnOk inl live ov t i) get g az with
      | none=>rfl
      | some p=>
       obtain ⟨r,l⟩:=p
       cases l<;>rfl
     ·cases h
   ·cases h
  | _=>cases h
 | next x z=>cases z<;>exact dA.const h
 | _=>exact dA.const h
theorem px {t:CT} {i:CI} {k:Nat} {hp:Heap} {id:Nat} {fr:Fr} {op:Op} {y:S × Heap} (h:cf (mk P K fnOk inl live ov t i) hp id fr op=some y):
  dA t i k (fun t i _=>cf (mk P K fnOk inl live ov t i) hp id fr op) y:=by
 cases op with
 | call c=>
  obtain ⟨callee,args,argTypes⟩:=c
  cases callee with
  | value f=>
   simp only [cf] at h ⊢
   split at h
   ·rename_i g az hc
    try simp only [hc]
    cases e:!fnOk g with
    | true=>simp only [e,cond_true] at h;cases h
    | false=>
     simp only [e,cond_false] at h ⊢
     cases e2:inl g with
     | true=>
      simp only [e2,cond_true] at h ⊢
      exact dA.eR h
     | false=>
      simp only [e2,cond_false] at h ⊢
      split at h
      ·rename_i r l hq
       refine ((mJ (k:=k) hq).bind (R2:=fun _ _ _ p=>some (p.1,hp.freeze p.2)) (dA.const h)).congr (fun t i k=>?_)
       cases e:dh (mk P K fnOk inl live ov t i) hp.get g az<;>rfl
      ·cases h
   ·cases h
  | builtin b=>cases b<;>exact dA.const h
  | _=>cases h
 | _=>exact dA.const h
theorem DK {t:CT} {i:CI} {k:Nat} {dr:Bool} {get:Nat→Option B} {id:Nat} {fr:Fr} {hp:Heap} {op:Op} {y:S × Heap} (h:bx (mk P K fnOk inl live ov t i) dr get id fr hp op=some y):
  dA t i k (fun t i _=>bx (mk P K fnOk inl live ov t i) dr get id fr hp op) y:=by
 unfold bx at h ⊢
 cases e:cp inl op with
 | p=>simp only [e] at h ⊢;exact dA.const h
 | a=>simp only [e] at h ⊢;exact dA.const h
 | w=>simp only [e] at h ⊢;exact px h
 | r=>
  simp only [e] at h ⊢
  have rd:∀ {get:Nat→Option B},(cb (mk P K fnOk inl live ov t i) get fr op).map (fun s=>(s,hp))=some y→dA t i k (fun t i _=>(cb (mk P K fnOk inl live ov t i) get fr op).map (fun s=>(s,hp))) y:=fun h=>by
   obtain ⟨s,hs,e⟩:=Option.map_eq_some_iff.1 h
   exact (Du hs).map e
  cases dr with
  | true=>simp only [cond_true] at h ⊢;exact rd h
  | false=>
   simp only [cond_false] at h ⊢
   cases e2:dN op with
   | true=>simp only [e2,cond_true] at h ⊢;exact px h
   | false=>simp only [e2,cond_false] at h ⊢;exact rd h
theorem GC {t:CT} {i:CI} {k nt:Nat} {dr:Bool} {ops:Array Oper} {base j:Nat} {st st':St} (h:jL (mk P K fnOk inl live ov t i) nt dr ops base j st=some st'):
  dA t i k (fun t i _=>jL (mk P K fnOk inl live ov t i) nt dr ops base j st) st':=by
 unfold jL at h ⊢
 cases ho:ops[j]? with
 | none=>rw [ho] at h;cases h
 | some o=>
  simp only [ho] at h ⊢
  split at h
  ·rename_i fr hw
   try simp only [hw]
   obtain ⟨hl,h⟩:=bP h
   simp only [hl,cond_true]
   split at h
   ·rename_i s h' hs
    refine ((DK (k:=k) hs).bind (R2:=fun _ _ _ p=>(jm nt fr o.dst p.1).map fun fr=>⟨fr,p.2⟩) (dA.const h)).congr (fun t i k=>?_)
    generalize bx (mk P K fnOk inl live ov t i) _ _ _ _ _ _=q
    cases q<;>rfl
   ·cases h
  ·rename_i fr hw
   try simp only [hw]
   exact dA.const h
  ·cases h
theorem rA {t:CT} {i:CI} {k nt:Nat} {dr:Bool} {ops:Array Oper} {base:Nat}:∀ (l:List Nat) {st st':St},gi (mk P K fnOk inl live ov t i) nt dr ops base l st=some st'→dA t i k (fun t i _=>gi (mk P K fnOk inl live ov t i) nt dr ops base l st) st'
 | [],_,_,h=>dA.const h
 | j::l,st,st',h=>by
  obtain ⟨st1,h1,h2⟩:=Option.bind_eq_some_iff.1 h
  exact (GC h1).bind (R2:=fun t i _ st1=>gi (mk P K fnOk inl live ov t i) nt dr ops base l st1) (rA l h2)
theorem xh {t:CT} {i:CI} {F:CT→CI→Nat→St→Option (Ex × St)}:∀ (n k:Nat),n≤k→(∀ st y,F t i k st=some y→dA t i k (fun t i k=>F t i k st) y)→∀ {st:St} {y:Ex × St},iter (F t i k) n st=some y→
  ∃ L M,IT t L∧Js i M∧∀ t' i' k' n',IT t' L→Js i' M→k≤k'→n≤n'→iter (F t' i' k') n' st=some y
 | 0,_,_,_,_,_,h=>by cases h
 | n+1,k,hk,hF,st,y,h=>by
  unfold iter at h
  cases e:F t i k st with
  | none=>rw [e] at h;cases h
  | some p=>
   obtain ⟨ex,st1⟩:=p
   rw [e] at h
   obtain ⟨L,M,a,b,c⟩:=hF st _ e
   cases ex with
   | normal=>
    simp only at h
    obtain ⟨L',M',a',b',c'⟩:=xh n k (by omega) hF h
    refine ⟨L++L',M++M',gR.2 ⟨a,a'⟩,hZ.2 ⟨b,b'⟩,fun t' i' k' n' q1 q2 q3 q4=>?_⟩
    obtain ⟨m,rfl⟩:∃ m,n'=m+1:=⟨n' - 1,by omega⟩
    unfold iter
    have hc:=c t' i' k' (gR.1 q1).1 (hZ.1 q2).1 q3
    simp only at hc
    rw [hc]
    exact c' t' i' k' m (gR.1 q1).2 (hZ.1 q2).2 q3 (by omega)
   | exit id=>
    obtain rfl:=Option.some.inj h
    refine ⟨L,M,a,b,fun t' i' k' n' q1 q2 q3 q4=>?_⟩
    obtain ⟨m,rfl⟩:∃ m,n'=m+1:=⟨n' - 1,by omega⟩
    unfold iter
    have hc:=c t' i' k' q1 q2 q3
    simp only at hc
    rw [hc]
   | ret=>
    obtain rfl:=Option.some.inj h
    refine ⟨L,M,a,b,fun t' i' k' n' q1 q2 q3 q4=>?_⟩
    obtain ⟨m,rfl⟩:∃ m,n'=m+1:=⟨n' - 1,by omega⟩
    unfold iter
    have hc:=c t' i' k' q1 q2 q3
    simp only at hc
    rw [hc]
theorem rz {t:CT} {i:CI} {sp:jE} {q:Operand} {p:Nat} {cl:St→Option St} {A B:CT→CI→Nat→St→Option (Ex × St)} {N:Nat} {g:Fin N→List T}:∀ (n k:Nat),n≤k→(∀ st y,A t i k st=some y→dA t i k (fun t i k=>A t i k st) y)→(∀ st y,B t i k st=some y→dA t i k (fun t i k=>B t i k st) y)→
  ∀ {j:Nat} {st y:St},dt P sp q p cl (A t i k) (B t i k) g n j st=some y→∃ L M,IT t L∧Js i M∧∀ t' i' k' n',IT t' L→Js i' M→k≤k'→n≤n'→dt P sp q p cl (A t' i' k') (B t' i' k') g n' j st=some y
 | 0,_,_,_,_,_,_,_,h=>by cases h
 | n+1,k,hk,hA,hB,j,st,y,h=>by
  unfold dt at h
  obtain ⟨st1,hcl,h⟩:=Option.bind_eq_some_iff.1 h
  have go:∀ {j':Nat} {st':St},dt P sp q p cl (A t i k) (B t i k) g n j' st'=some y→∃ L M,IT t L∧Js i M∧∀ t' i' k' n',IT t' L→Js i' M→k≤k'→n≤n'→dt P sp q p cl (A t' i' k') (B t' i' k') g n' j' st'=some y:=fun h=>rz n k (by omega) hA hB h
  split at h
  ·cases h
  ·rename_i s hs
   split at h
   ·rename_i hj
    split at h
    ·cases h
    ·rename_i r hr
     cases he:ah r s with
     | false=>
      rw [he,cond_false] at h
      obtain ⟨L,M,a,b,c⟩:=go h
      refine ⟨L,M,a,b,fun t' i' k' n' q1 q2 q3 q4=>?_⟩
      obtain ⟨m,rfl⟩:∃ m,n'=m+1:=⟨n' - 1,by omega⟩
      unfold dt
      rw [hcl,Option.bind_some,hs]
      dsimp only
      rw [dif_pos hj,hr]
      dsimp only
      rw [he,cond_false]
      exact c t' i' k' m q1 q2 q3 (by omega)
     | true=>
      rw [he,cond_true] at h
      split at h
      ·rename_i st2 h2
       split at h
       ·rename_i st3 h3
        obtain ⟨L1,M1,a1,b1,c1⟩:=hA _ _ h2
        obtain ⟨L2,M2,a2,b2,c2⟩:=hB _ _ h3
        obtain ⟨L3,M3,a3,b3,c3⟩:=go h
        refine ⟨L1++(L2++L3),M1++(M2++M3),gR.2 ⟨a1,gR.2 ⟨a2,a3⟩⟩,hZ.2 ⟨b1,hZ.2 ⟨b2,b3⟩⟩,fun t' i' k' n' q1 q2 q3 q4=>?_⟩
        obtain ⟨m,rfl⟩:∃ m,n'=m+1:=⟨n' - 1,by omega⟩
        obtain ⟨q11,q12⟩:=gR.1 q1
        obtain ⟨q21,q22⟩:=hZ.1 q2
        have e1:=c1 t' i' k' q11 q21 q3
        have e2:=c2 t' i' k' (gR.1 q12).1 (hZ.1 q22).1 q3
        simp only at e1 e2
        unfold dt
        rw [hcl,Option.bind_some,hs]
        dsimp only
        rw [dif_pos hj,hr]
        dsimp only
        rw [he,cond_true,e1]
        dsimp only
        rw [e2]
        exact c3 t' i' k' m (gR.1 q12).2 (hZ.1 q22).2 q3 (by omega)
       ·cases h
      ·cases h
   ·rename_i hj
    refine ⟨[],[],(fun _ h=>by cases h),(fun _ h=>by cases h),fun t' i' k' n' q1 q2 q3 q4=>?_⟩
    obtain ⟨m,rfl⟩:∃ m,n'=m+1:=⟨n' - 1,by omega⟩
    unfold dt
    rw [hcl,Option.bind_some,hs]
    dsimp only
    rw [dif_neg hj]
    exact h
theorem wY {t:CT} {i:CI} {f:FuncId} {nt:Nat} {k:Nat}:∀ (c:Code) {gc:Bool} {st:St} {y:Ex × St},exec (mk P K fnOk inl live ov t i) f nt gc k c st=some y→dA t i k (fun t i k=>exec (mk P K fnOk inl live ov t i) f nt gc k c st) y:=by
 intro c
 induction c with
 | region id ops draw=>
  intro gc st y h
  simp only [exec] at h ⊢
  obtain ⟨st2,h3,h4⟩:=Option.map_eq_some_iff.1 h
  exact (rA _ h3).map h4
 | seq a b iha ihb=>
  intro gc st y h
  simp only [exec] at h ⊢
  obtain ⟨⟨e,st1⟩,h1,h2⟩:=Option.bind_eq_some_iff.1 h
  refine (iha h1).bind (R2:=fun t i k p=>match p with | (.normal,st')=>exec (mk P K fnOk inl live ov t i) f nt gc k b st' | p=>some p) ?_
  cases e with
  | normal=>exact ihb h2
  | exit id=>exact dA.const h2
  | ret=>exact dA.const h2
 | cond c a b iha ihb=>
  intro gc st y h
  simp only [exec] at h ⊢
  split at h
  ·rename_i p hp
   try simp only [hp]
   cases p with
   | true=>simp only [cond_true] at h ⊢;exact iha h
   | false=>simp only [cond_false] at h ⊢;exact ihb h
  ·cases h
 | block id b ih=>
  intro gc st y h
  simp only [exec] at h ⊢
  obtain ⟨p,h1,h2⟩:=Option.bind_eq_some_iff.1 h
  exact (ih h1).bind (R2:=fun _ _ _ p=>match p with | (.exit i,st')=>bif i.beq id then some (.normal,st') else some (.exit i,st') | p=>some p) (dA.const h2)
 | loop b ih=>
  intro gc st y h
  simp only [exec] at h ⊢
  obtain ⟨p,h1,h2⟩:=Option.bind_eq_some_iff.1 h
  obtain ⟨L,M,a,b',c⟩:=xh (F:=fun t i k st=>(fP (mk P K fnOk inl live ov t i) f gc (3*bH b) st).bind (exec (mk P K fnOk inl live ov t i) f nt gc k b)) k k (Nat.le_refl _) (fun st y h=>by
   obtain ⟨st1,q1,q2⟩:=Option.bind_eq_some_iff.1 h
   have q1':∀ t i,fP (mk P K fnOk inl live ov t i) f gc (3*bH b) st=some st1:=fun _ _=>q1
   refine (ih q2).congr (fun t i k=>?_)
   rw [q1'];rfl) h1
  refine dA.bind (R:=fun t i k=>iter (fun st=>(fP (mk P K fnOk inl live ov t i) f gc (3*bH b) st).bind (exec (mk P K fnOk inl live ov t i) f nt gc k b)) k st) (x:=p) (R2:=fun t i k p=>kz (mk P K fnOk inl live ov t i) f gc (bH b) p.1 p.2) ⟨L,M,a,b',fun t' i' k' q1 q2 q3=>c t' i' k' k' q1 q2 q3 q3⟩ ?_
  have:∀ t i,kz (mk P K fnOk inl live ov t i) f gc (bH b) p.1 p.2=some y:=fun t i=>by
   obtain ⟨ex,st1⟩:=p
   cases ex<;>exact h2
  exact (dA.const (h2)).congr (fun t i k=>by rw [this t i];exact h2)
 | skip=>intro gc st y h;exact dA.const h
 | exit id=>intro gc st y h;exact dA.const h
 | ret=>intro gc st y h;exact dA.const h
 | rangeFunc q ps az bd iha ihb=>
  intro gc st y h
  simp only [exec] at h ⊢
  obtain ⟨p,h1,h⟩:=Option.bind_eq_some_iff.1 h
  obtain ⟨sp,h2,h⟩:=Option.bind_eq_some_iff.1 h
  obtain ⟨bO,h3,h⟩:=Option.bind_eq_some_iff.1 h
  obtain ⟨h4,h5⟩:=bP h
  clear h
  obtain ⟨b,h6,h⟩:=Option.bind_eq_some_iff.1 h5
  clear h5
  obtain ⟨row,h7,h⟩:=Option.bind_eq_some_iff.1 h
  obtain ⟨stf,h8,h9⟩:=Option.map_eq_some_iff.1 h
  obtain ⟨L,M,a,b',c⟩:=rz (A:=fun t i k st=>exec (mk P K fnOk inl live ov t i) f nt false k az st) (B:=fun t i k st=>exec (mk P K fnOk inl live ov t i) f nt false k bd st) k k (Nat.le_refl _) (fun st y h=>iha h) (fun st y h=>ihb h) h8
  refine ⟨L,M,a,b',fun t' i' k' q1 q2 q3=>?_⟩
  dsimp only
  rw [h1,Option.bind_some,h2,Option.bind_some,h3,Option.bind_some,h4,cond_true,h6,Option.bind_some,h7,Option.bind_some]
  have:=c t' i' k' k' q1 q2 q3 q3
  rw [this]
  exact congrArg some h9
 | scope=>intro gc st y h;cases h
 | label=>intro gc st y h;cases h
 | goto=>intro gc st y h;cases h
 | refuse=>intro gc st y h;cases h
theorem ly {t:CT} {i:CI} {f:FuncId} {gc:Bool} {k:Nat} {args:List S} {h:Heap} {y:S × Heap} (hx:cD (mk P K fnOk inl live ov t i) gc k f args h=some y):dA t i k (fun t i k=>cD (mk P K fnOk inl live ov t i) gc k f args h) y:=by
 unfold cD at hx ⊢
 cases hfn:(mk P K fnOk inl live ov t i).fn f with
 | none=>rw [hfn] at hx;cases hx
 | some fn=>
  have hfn':∀ t i,(mk P K fnOk inl live ov t i).fn f=some fn:=fun _ _=>hfn
  rw [hfn] at hx
  simp only [hfn'] at hx ⊢
  split at hx
  ·cases hx
  ·rename_i c hb
   try simp only [hb]
   cases e:args.length.ble fn.ntmps with
   | false=>rw [e] at hx;cases hx
   | true=>
    simp only [e,cond_true] at hx ⊢
    obtain ⟨p,h1,h2⟩:=Option.bind_eq_some_iff.1 hx
    exact (wY c h1).bind (R2:=fun _ _ _ p=>bif Qq p.1 then (vM P p.2 fn.results.toList).map fun vs=>(j4 vs,p.2.h) else none) (dA.const h2)
end
section
variable [dq] {O:jl}
theorem xZ (O:jl):∀ k,dR O k=mk O.P O.K O.fnOk O.inl O.live O.ov (dR O k).aE (dR O k).eR
 | 0=>rfl
 | _+1=>rfl
theorem lR (O:jl) (k:Nat) (f:FuncId) (args:List S):(dR O (k+1)).aE f args=(match O.ext f with
  | some F=>F args
  | none=>bif O.fns f then
   (match cD (dR O k) true k f args .empty with
    | some (r,h)=>(mE f h.get bZ r).map fun p=>oU O.P f p.1
    | none=>none) else none):=rfl
theorem oh (O:jl) (k:Nat) (f:FuncId) (args:List S) (h:Heap):(dR O (k+1)).eR f args h=(match O.ext (2000000+f) with
  | some F=>kN F args h
  | none=>bif O.fns f && (O.ov f).isNone then cD (dR O k) false k f args h else none):=rfl
theorem LD {k:Nat} (hT:∀ f a r,(dR O k).aE f a=some r→(dR O (k+1)).aE f a=some r) (hI:∀ f a h r,(dR O k).eR f a h=some r→(dR O (k+1)).eR f a h=some r) {gc:Bool} {f:FuncId} {args:List S} {h:Heap} {y:S × Heap}
  (hx:cD (dR O k) gc k f args h=some y):cD (dR O (k+1)) gc (k+1) f args h=some y:=by
 rw [xZ O k] at hx
 obtain ⟨L,M,a,b,c⟩:=ly hx
 have:=c (dR O (k+1)).aE (dR O (k+1)).eR (k+1) (fun q hq=>hT _ _ _ (a q hq)) (fun q hq=>hI _ _ _ _ (b q hq)) (Nat.le_succ k)
 rw [xZ O (k+1)]
 exact this
theorem yK (O:jl):∀ k,(∀ f a r,(dR O k).aE f a=some r→(dR O (k+1)).aE f a=some r)∧(∀ f a h r,(dR O k).eR f a h=some r→(dR O (k+1)).eR f a h=some r)
 | 0=>⟨(fun f a r h=>by cases h),(fun f a h r hx=>by cases hx)⟩
 | k+1=>by
  obtain ⟨iT,iI⟩:=yK O k
  refine ⟨fun f a r hx=>?_,fun f a h r hx=>?_⟩
  ·rw [lR] at hx ⊢
   split at hx
   ·exact hx
   ·cases hf:O.fns f with
    | false=>rw [hf] at hx;cases hx
    | true=>
     rw [hf,cond_true] at hx
     rw [cond_true]
     split at hx
     ·rename_i r0 h0 hb
      rw [LD iT iI hb]
      exact hx
     ·cases hx
  ·rw [oh] at hx ⊢
   cases hF:O.ext (2000000+f) with
   | some F=>rw [hF] at hx;exact hx
   | none=>
   rw [hF] at hx
   dsimp only at hx ⊢
   cases hf:O.fns f && (O.ov f).isNone with
   | false=>rw [hf] at hx;cases hx
   | true=>
    rw [hf,cond_true] at hx
    rw [cond_true]
    exact LD iT iI hx
theorem nG (O:jl) {k k':Nat} (h:k≤k'):(∀ f a r,(dR O k).aE f a=some r→(dR O k').aE f a=some r)∧(∀ f a h r,(dR O k).eR f a h=some r→(dR O k').eR f a h=some r):=by
 induction h with
 | refl=>exact ⟨fun _ _ _ h=>h,fun _ _ _ _ h=>h⟩
 | step _ ih=>exact ⟨fun f a r h=>(yK O _).1 f a r (ih.1 f a r h),fun f a h r hx=>(yK O _).2 f a h r (ih.2 f a h r hx)⟩
noncomputable def Xa (O:jl):CT:=fun f a=>open Classical in if h:∃ r k,(dR O k).aE f a=some r then some h.choose else none
noncomputable def Vn (O:jl):CI:=fun f a hp=>open Classical in if h:∃ r k,(dR O k).eR f a hp=some r then some h.choose else none
theorem kM {f:FuncId} {a:List S} {r:S}:Xa O f a=some r↔∃ k,(dR O k).aE f a=some r:=by
 unfold Xa
 constructor
 ·intro h
  split at h
  ·rename_i hx
   obtain rfl:=Option.some.inj h
   exact hx.choose_spec
  ·cases h
 ·rintro ⟨k,hk⟩
  have hx:∃ r k,(dR O k).aE f a=some r:=⟨r,k,hk⟩
  rw [dif_pos hx]
  obtain ⟨k',hk'⟩:=hx.choose_spec
  have h1:=(nG O (Nat.le_max_left k k')).1 f a r hk
  have h2:=(nG O (Nat.le_max_right k k')).1 f a _ hk'
  rw [h1] at h2
  exact h2.symm
theorem pC {f:FuncId} {a:List S} {hp:Heap} {r:S × Heap}:Vn O f a hp=some r↔∃ k,(dR O k).eR f a hp=some r:=by
 unfold Vn
 constructor
 ·intro h
  split at h
  ·rename_i hx
   obtain rfl:=Option.some.inj h
   exact hx.choose_spec
  ·cases h
 ·rintro ⟨k,hk⟩
  have hx:∃ r k,(dR O k).eR f a hp=some r:=⟨r,k,hk⟩
  rw [dif_pos hx]
  obtain ⟨k',hk'⟩:=hx.choose_spec
  have h1:=(nG O (Nat.le_max_left k k')).2 f a hp r hk
  have h2:=(nG O (Nat.le_max_right k k')).2 f a hp _ hk'
  rw [h1] at h2
  exact h2.symm
noncomputable def W (O:jl):Env:=mk O.P O.K O.fnOk O.inl O.live O.ov (Xa O) (Vn O)
theorem ail {V:World→Prop} (hO:G6 V O):kg V (W O):=
 ⟨hO.k,hO.fn,fun f args r h hlt=>by
  obtain ⟨k,hk⟩:=kM.1 h
  have:=(AM hO k).t f args r hk hlt
  rw [(Fe O k).1] at this
  exact this,
  fun f args h r h' hx=>by
  obtain ⟨k,hk⟩:=pC.1 hx
  have:=(AM hO k).i f args h r h' hk
  rw [(Fe O k).1] at this
  exact this,hO.rf⟩
theorem RV {L:List (FuncId × List S × S)} (h:IT (Xa O) L):∃ K,∀ k,K≤k→IT (dR O k).aE L:=by
 induction L with
 | nil=>exact ⟨0,fun _ _ q hq=>by cases hq⟩
 | cons x L ih=>
  obtain ⟨K1,h1⟩:=kM.1 (h x (by simp))
  obtain ⟨K2,h2⟩:=ih (fun q hq=>h q (by simp [hq]))
  refine ⟨max K1 K2,fun k hk q hq=>?_⟩
  rcases List.mem_cons.1 hq with rfl | hq
  ·exact (nG O (by omega)).1 _ _ _ h1
  ·exact h2 k (by omega) q hq
theorem MP {L:List (FuncId × List S × Heap × S × Heap)} (h:Js (Vn O) L):∃ K,∀ k,K≤k→Js (dR O k).eR L:=by
 induction L with
 | nil=>exact ⟨0,fun _ _ q hq=>by cases hq⟩
 | cons x L ih=>
  obtain ⟨K1,h1⟩:=pC.1 (h x (by simp))
  obtain ⟨K2,h2⟩:=ih (fun q hq=>h q (by simp [hq]))
  refine ⟨max K1 K2,fun k hk q hq=>?_⟩
  rcases List.mem_cons.1 hq with rfl | hq
  ·exact (nG O (by omega)).2 _ _ _ _ h1
  ·exact h2 k (by omega) q hq
theorem Sf {gc:Bool} {k:Nat} {f:FuncId} {args:List S} {h:Heap} {y:S × Heap} (hx:cD (W O) gc k f args h=some y):∃ n,cD (dR O n) gc n f args h=some y:=by
 obtain ⟨L,M,a,b,c⟩:=ly hx
 obtain ⟨K1,h1⟩:=RV a
 obtain ⟨K2,h2⟩:=MP b
 refine ⟨max k (max K1 K2),?_⟩
 rw [xZ]
 exact c _ _ _ (h1 _ (by omega)) (h2 _ (by omega)) (by omega)
theorem Y7 {k:Nat} {f:FuncId} {args:List S} {r r':S} {h:Heap} {l:List Nat} (hf:O.fns f=true) (he:O.ext f=none) (hx:cD (W O) true k f args .empty=some (r,h)) (hc:mE f h.get bZ r=some (r',l)):(W O).aE f args=some (oU O.P f r'):=by
 obtain ⟨n,hn⟩:=Sf hx
 refine kM.2 ⟨n+1,?_⟩
 rw [lR,he,hf]
 simp only [cond_true,hn,hc,Option.map_some]
theorem ae1 {k:Nat} {f:FuncId} {args:List S} {h:Heap} {y:S × Heap} (hF:O.ext (2000000+f)=none) (hf:(O.fns f && (O.ov f).isNone)=true) (hx:cD (W O) false k f args h=some y):(W O).eR f args h=some y:=by
 obtain ⟨n,hn⟩:=Sf hx
 refine pC.2 ⟨n+1,?_⟩
 rw [oh,hF]
 dsimp only
 rw [hf,cond_true,hn]
theorem afq {f:FuncId} {F:List S→Option S} (hF:O.ext (2000000+f)=some F) {args:List S} {h:Heap} {y:S × Heap} (hx:kN F args h=some y):(W O).eR f args h=some y:=by
 refine pC.2 ⟨1,?_⟩
 rw [oh,hF]
 exact hx
theorem wL {f:FuncId} {F:List S→Option S} (he:O.ext f=some F) {args:List S} {r:S} (h:F args=some r):(W O).aE f args=some r:=
 kM.2 ⟨1,by rw [lR,he];exact h⟩
theorem aiX {k:Nat} {f:FuncId} {args:List S} {r:S} (h:(dR O k).aE f args=some r):(W O).aE f args=some r:=kM.2 ⟨k,h⟩
theorem S8 {gc:Bool} {k:Nat} {f:FuncId} {args:List S} {h:Heap} {y:S × Heap} {t:CT} {i:CI} (ht:∀ f a r,t f a=some r→(W O).aE f a=some r) (hi:∀ f a h r,i f a h=some r→(W O).eR f a h=some r)
  (hx:cD (mk O.P O.K O.fnOk O.inl O.live O.ov t i) gc k f args h=some y):cD (W O) gc k f args h=some y:=by
 obtain ⟨L,M,a,b,c⟩:=ly hx
 exact c _ _ _ (fun q hq=>ht _ _ _ (a q hq)) (fun q hq=>hi _ _ _ _ (b q hq)) (Nat.le_refl k)
end
end Go.Proofs.YtonkoellfaopiaaGreatDoor.H
