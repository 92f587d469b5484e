import Derived.Test.YtonkoellfaopiaaGreatDoorD19
set_option linter.unusedSimpArgs false
set_option linter.unusedVariables false
set_option linter.unusedSectionVars false
namespace Go.Proofs.YtonkoellfaopiaaGreatDoor.H
open Go
noncomputable section
structure Cb (a:cQ):Prop where
 name:sm (aM a.af)
 bV:sm (aM a.bc)
 type:sm (aM a.al)
 OY:sm (aM a.aj)
 kind:sm (aM a.ak)
 opts:ga qg a.bh
def qC (a:cQ):Bool:=ba a.af && (ba a.bc && (ba a.al && (ba a.aj && ba a.ak)))
def qD (a:cQ):Bool:=within a.bM 1 4 && (within a.dB 0 1099511627776 && within a.dD 0 1099511627776)
def ku (a:cQ):Int:=bq (aC (qC a) 7) (bq (rh a.bG) (bq (kl a.a6 a.a8) (bq (fx a.bh) (bq (aC (within a.dQ 1 32) 1) (bq (aC (bp (cI a.eG) 16) 2) (aC (qD a) 1))))))
theorem c62 (a:cQ) (ha:Cb a):ca 62 [ag (dp a)] (ii (ku a)):=by
 obtain ⟨g,hg,hG⟩:=aB (by kernel_rfl) (Mt a.dB 0 1099511627776)
 obtain ⟨b,hb,hB⟩:=aB (by kernel_rfl) (Mt a.dD 0 1099511627776)
 have h3:∀ m v0 v1 v2 v3 v4 v5 b,(lb (aa O) a (m+1)).x3 v0 v1 v2 v3 v4 v5 b=some (ii (dw [v2,v4,v0,v5,v1,v3,aC b 1])):=fun m v0 v1 v2 v3 v4 v5 b=>by
  obtain ⟨y,hy,hK⟩:=l5 b 1
  obtain ⟨z,hz,hL⟩:=Qm [v2,v4,v0,v5,v1,v3,aC b 1] (show (7:Nat) < 2 ^ 62 by decide)
  have hL:∀ (ρ:Type) (K:Y→Option ρ),yC (aa O) 107 [S.t (T.rows 1 7 fun i=>List.take 1 (List.drop (i.1*1) [ti v2,ti v4,ti v0,ti v5,ti v1,ti v3,ti (aC b 1)]))] K=K z:=hL
  rw [lb]
  generalize lb (aa O) a m=X
  simp only [TN,Og,hK,hy,hL,hz]
 have h2:∀ m v0 v1 v2 v3 v4 v5 b,(lb (aa O) a (m+2)).x2 v0 v1 v2 v3 v4 v5 b=some (ii (dw [v2,v4,v0,v5,v1,v3,aC (b && within a.dD 0 1099511627776) 1])):=fun m v0 v1 v2 v3 v4 v5 c=>by
  have:=h3 m
  rw [lb]
  generalize lb (aa O) a (m+1)=X at this ⊢
  simp only [TN,NA,PW,hB,hb,this]
  cases c<;>rfl
 have h1:∀ m v0 v1 v2 v3 v4 v5 b,(lb (aa O) a (m+3)).x1 v0 v1 v2 v3 v4 v5 b=some (ii (dw [v2,v4,v0,v5,v1,v3,aC (b && (within a.dB 0 1099511627776 && within a.dD 0 1099511627776)) 1])):=fun m v0 v1 v2 v3 v4 v5 c=>by
  have:=h2 m
  rw [lb]
  generalize lb (aa O) a (m+2)=X at this ⊢
  simp only [TN,RB,R7,hG,hg,this]
  cases c<;>rfl
 have h0:∀ m v0 v1 v2 v3 b,(lb (aa O) a (m+4)).x0 v0 v1 v2 v3 b=some (ii (dw [v1,v2,v0,v3,aC b 1,aC (bp (cI a.eG) 16) 2,aC (qD a) 1])):=fun m v0 v1 v2 v3 c=>by
  obtain ⟨y,hy,hK⟩:=l5 c 1
  obtain ⟨z,hz,hL⟩:=l5 (bp (cI a.eG) 16) 2
  have:=h1 m
  rw [lb]
  generalize lb (aa O) a (m+3)=X at this ⊢
  simp only [TN,Qu,Qt,hK,hy,hL,hz,this]
  unfold qD within
  cases cT a.bM 1<;>rfl
 obtain ⟨y,hy,hK⟩:=aed [a.af,a.bc,a.al,a.aj,a.ak] (show (5:Nat) < 2 ^ 62 by decide) (fun x hx=>by
  simp only [List.mem_cons,List.not_mem_nil,or_false] at hx
  rcases hx with rfl | rfl | rfl | rfl | rfl
  ·exact ha.name
  ·exact ha.bV
  ·exact ha.type
  ·exact ha.OY
  ·exact ha.kind)
 have hK:∀ (ρ:Type) (K:Y→Option ρ),yC (aa O) 109 [S.t (T.rows 1 5 fun i=>List.take 1 (List.drop (i.1*1) [ts a.af,ts a.bc,ts a.al,ts a.aj,ts a.ak]))] K=K y:=hK
 have hy:y.b 0=qC a:=by rw [hy];simp only [List.all_cons,List.all_nil,Bool.and_true];rfl
 obtain ⟨z,hz,hL⟩:=l5 (qC a) 7
 obtain ⟨x,hx,hM⟩:=aN (by kernel_rfl) (Xj a.bG)
 obtain ⟨w,hw,hN⟩:=aN (by kernel_rfl) (G7 a.a6 a.a8)
 obtain ⟨u,hu,hP⟩:=aN (by kernel_rfl) (aer a.bh ha.opts)
 refine W62 a 4 _ ?_
 have e:xL (aa O) a (Kr (lb (aa O) a 4))=(lb (aa O) a 4).x0 (kl a.a6 a.a8) (aC (qC a) 7) (rh a.bG) (fx a.bh) (within a.dQ 1 32):=by
  simp only [xL,hK,hy,hL,hz,hM,hx,hN,hw,hP,hu,Kr]
  unfold within
  cases cT a.dQ 1<;>rfl
 rw [e,h0 0]
 simp only [gI,iu]
 rfl
theorem c75 (a:cQ) (ha:Cb a):ca 75 [ag (dp a)] (ii (ku a)):=by
 obtain ⟨y,hy,hK⟩:=aB (by kernel_rfl) (vW a.af ha.name)
 obtain ⟨y1,hy1,hK1⟩:=aB (by kernel_rfl) (vW a.bc ha.bV)
 obtain ⟨y2,hy2,hK2⟩:=aB (by kernel_rfl) (c130 a.al a.aj a.ak ha.type ha.OY ha.kind)
 obtain ⟨y3,hy3,hK3⟩:=aN (by kernel_rfl) (c91 a.bG)
 obtain ⟨y4,hy4,hK4⟩:=aN (by kernel_rfl) (c49 a.a6 a.a8)
 obtain ⟨y5,hy5,hK5⟩:=aN (by kernel_rfl) (c131 a.bh ha.opts)
 obtain ⟨g,hg,hG⟩:=aB (by kernel_rfl) (c74 a.dB 0 1099511627776)
 obtain ⟨b,hb,hB⟩:=aB (by kernel_rfl) (c74 a.dD 0 1099511627776)
 have h2:∀ m c,(qa (aa O) a (m+1)).x2 c=some (ii (aC (!c && within a.dD 0 1099511627776) 1)):=fun m c=>by
  rw [qa]
  generalize qa (aa O) a m=X
  simp only [V9,NS,hB,hb]
  cases c<;>cases within a.dD 0 1099511627776<;>rfl
 have h1:∀ m c,(qa (aa O) a (m+2)).x1 c=some (ii (aC (!c && (within a.dB 0 1099511627776 && within a.dD 0 1099511627776)) 1)):=fun m c=>by
  have:=h2 m
  rw [qa]
  generalize qa (aa O) a (m+1)=X at this ⊢
  simp only [V9,OB,NR,hG,hg,this]
  cases c<;>cases within a.dB 0 1099511627776<;>rfl
 have h0:∀ m c,(qa (aa O) a (m+3)).x0 c=some (ii (bq (aC (!c && (ba a.al && (ba a.aj && ba a.ak))) 7) (bq (rh a.bG) (bq (kl a.a6 a.a8) (bq (fx a.bh) (bq (aC (within a.dQ 1 32) 1) (bq (aC (bp (cI a.eG) 16) 2) (aC (qD a) 1)))))))):=fun m c=>by
  have:=h1 m
  rw [qa]
  generalize qa (aa O) a (m+2)=X at this ⊢
  simp only [V9,Ug,O6,hK2,hK3,hK4,hK5,hy2,hy3,hy4,hy5,this]
  simp only [iB,ez]
  have e:(bif !cT a.bM 1 then some (ii (aC (!true && (within a.dB 0 1099511627776 && within a.dD 0 1099511627776)) 1)) else some (ii (aC (!(!bp a.bM 4) && (within a.dB 0 1099511627776 && within a.dD 0 1099511627776)) 1)))=some (ii (aC (qD a) 1)):=by
   unfold qD
   generalize (within a.dB 0 1099511627776 && within a.dD 0 1099511627776)=w
   unfold within
   cases cT a.bM 1<;>cases bp a.bM 4<;>rfl
  simp only [e,or_some,eD (e:=7) rfl,eD (e:=1) rfl,eD (e:=2) rfl,uT (e:=1) rfl]
  cases c<;>rfl
 refine W75 a 3 _ ?_
 have e0:=h0 0
 simp only [Nat.zero_add] at e0
 simp only [FX,hK,hK1,hy,hy1,S9,e0]
 unfold ku qC
 generalize (ba a.al && (ba a.aj && ba a.ak))=w
 cases ba a.af<;>cases ba a.bc<;>rfl
def eC (g:Nat→Int):Nat→Nat→Int
 | _,0=>0
 | j,k+1=>bq (g j) (eC g (j+1) k)
theorem oT (g:Nat→Int) (n:Nat):eC g 0 n=bg n g:=by
 have:∀ k j,eC g j k=((List.range' j k).findSome? fun j=>bif !(aR (g j) 0) then some (g j) else none).getD 0:=by
  intro k
  induction k with
  | zero=>intro j;rfl
  | succ k ih=>
   intro j
   unfold eC
   simp only [List.range'_succ,List.findSome?_cons]
   unfold bq
   cases aR (g j) 0 with
   | false=>rfl
   | true=>exact ih (j+1)
 rw [this,← List.range_eq_range']
 rfl
theorem w7 (a b c:Int):bq (bq a b) c=bq a (bq b c):=by
 unfold bq
 cases h1:aR a 0<;>simp [h1]
theorem jT {j:Nat} (h:0 < j) (h2:j < 2 ^ 62):bF .i64 (j:Int) 1=((j - 1:Nat):Int):=by
 unfold bF
 rw [i64_in (by omega)]
 omega
structure wT (a:cO):Prop where
 nodes:ga (fun x:ByteArray=>sm (aM x)) a.aH
 fresh:sm (aM a.gA)
 bV:sm (aM a.bc)
 opts:ga qg a.bh
def fF (a:Rw ByteArray) (j:Nat):Int:=bq (aC (ba (a.at j)) 7) (aC (decide (j=0) || strLt (a.at (j - 1)) (a.at j)) 6)
def ahs (a:cO):Bool:=within a.dI 1 4 && within a.gn 1 3
def iz (a:cO):Int:=bq (aC (within a.dT 0 1099511627776) 1) (bq (aC (gr a.gA && gr a.bc) 7) (fx a.bh))
def LS (a:cO):Int:=bq (aC (ahs a) 1) (bq (aC (decide (a.aH.n≤4)) 3) (bq (aC (decide (0 < a.aH.n)) 1) (bq (bg a.aH.n (fF a.aH)) (iz a))))
theorem Vm {n k:Nat}:bp (ay n) (k:Int)=decide (n≤k):=by unfold bp ay;simp
theorem Q4 {n:Nat}:bl (ay n) 0=decide (0 < n):=by unfold bl ay;simp
theorem OK {n:Nat}:aR (ay n) 0=decide (n=0):=by unfold aR ay;simp
theorem c68 (a:cO) (ha:wT a):ca 68 [ag (eN a)] (ii (LS a)):=by
 have hn:=cF ha.nodes.1
 obtain ⟨y1,hy1,hK1⟩:=aB (by kernel_rfl) (Mt a.dT 0 1099511627776)
 obtain ⟨y2,hy2,hK2⟩:=l5 (within a.dT 0 1099511627776) 1
 obtain ⟨y3,hy3,hK3⟩:=aB (by kernel_rfl) (Yw a.gA ha.fresh)
 obtain ⟨y4,hy4,hK4⟩:=aB (by kernel_rfl) (Yw a.bc ha.bV)
 obtain ⟨y5,hy5,hK5⟩:=aN (by kernel_rfl) (aer a.bh ha.opts)
 have h4:∀ m v0 v1 b,(fg (aa O) a (m+1)).x4 v0 v1 b=some (ii (dw [v1,v0,aC b 7,fx a.bh])):=fun m v0 v1 b=>by
  obtain ⟨y,hy,hK⟩:=l5 b 7
  obtain ⟨z,hz,hL⟩:=Qm [v1,v0,aC b 7,fx a.bh] (show (4:Nat) < 2 ^ 62 by decide)
  have hL:∀ (ρ:Type) (K:Y→Option ρ),yC (aa O) 107 [S.t (T.rows 1 4 fun i=>List.take 1 (List.drop (i.1*1) [ti v1,ti v0,ti (aC b 7),ti (fx a.bh)]))] K=K z:=hL
  rw [fg]
  generalize fg (aa O) a m=X
  simp only [HX,SU,hK,hK5,hy,hy5,hL,hz]
 have loop:∀ k j,j+k=a.aH.n→∀ e,Ev (fun m=>(fg (aa O) a m).x3 e (j:Int)) (ii (bq e (bq (eC (fF a.aH) j k) (iz a)))):=by
  intro k
  induction k with
  | zero=>
   intro j hj e
   obtain rfl:j=a.aH.n:=by omega
   refine Ev.one 2 fun m=>?_
   have:=h4 m
   show (fg (aa O) a (m+2)).x3 e (a.aH.n:Int)=_
   rw [fg]
   generalize fg (aa O) a (m+1)=X at this ⊢
   simp only [HX,Dp,QD,aq,Nat.lt_irrefl,decide_false,cond_false,hK1,hK2,hK3,hK4,hy1,hy2,hy3,hy4,this,gI,iu]
   unfold iz eC
   cases gr a.gA<;>rfl
  | succ k ih=>
   intro j hj e
   have hj1:j < a.aH.n:=by omega
   have hj2:j < 2 ^ 62:=by omega
   cases he:aR e 0 with
   | false=>
    refine (Ev.one 1 fun m=>?_:Ev _ (ii e)).to (by unfold bq;rw [he];rfl)
    show (fg (aa O) a (m+1)).x3 e (j:Int)=_
    rw [fg]
    generalize fg (aa O) a m=X
    simp only [HX,Dp,aq,av hj1,hj1,decide_true,cond_true,he,Bool.not_false]
   | true=>
    obtain ⟨z,hz,hL⟩:=YR (ha.nodes.2 j hj1)
    obtain ⟨x,hx,hM⟩:=l5 (ba (a.aH.at j)) 7
    obtain ⟨w,hw,hN⟩:=l5 (decide (j=0) || strLt (a.aH.at (j - 1)) (a.aH.at j)) 6
    obtain ⟨u,hu,hP⟩:=Qr (aC (ba (a.aH.at j)) 7) (aC (decide (j=0) || strLt (a.aH.at (j - 1)) (a.aH.at j)) 6)
    have step:∀ m,(fg (aa O) a (m+2)).x3 e (j:Int)=(fg (aa O) a m).x3 (fF a.aH j) ((j+1:Nat):Int):=fun m=>by
     have h5:∀ m b,b=(decide (j=0) || strLt (a.aH.at (j - 1)) (a.aH.at j))→(fg (aa O) a (m+1)).x5 (aC (ba (a.aH.at j)) 7) (j:Int) b=(fg (aa O) a m).x3 (fF a.aH j) ((j+1:Nat):Int):=fun m b hb=>by
      subst hb
      rw [fg]
      generalize fg (aa O) a m=X
      simp only [HX,QO,Db,hN,hw,hP,hu,aA hj2]
      rfl
     have:=h5 m
     rw [fg]
     generalize fg (aa O) a (m+1)=X at this ⊢
     simp only [HX,Dp,QL,aq,av hj1,hj1,decide_true,cond_true,he,Bool.not_true,cond_false,aK,hL,hz,hM,hx,B_]
     by_cases h0:j=0
     ·simp only [h0,decide_true,cond_true]
      rw [h0] at this
      exact this true rfl
     ·simp only [h0,decide_false,cond_false]
      have hs:=jT (show 0 < j by omega) hj2
      have hlt:j - 1 < a.aH.n:=by omega
      rw [hs,av hlt]
      simp only [aK]
      exact this _ (by simp [h0])
    refine (Ev.by 2 step (ih (j+1) (by omega) (fF a.aH j))).to ?_
    rw [cJ.1 he]
    refine congrArg ii ?_
    show bq (fF a.aH j) (bq (eC (fF a.aH) (j+1) k) (iz a))=bq (bq (fF a.aH j) (eC (fF a.aH) (j+1) k)) (iz a)
    rw [w7]
 have h3:=loop a.aH.n 0 (by omega)
 simp only [oT] at h3
 have h2:∀ b,Ev (fun m=>(fg (aa O) a m).x2 b) (ii (bq (aC b 1) (bq (aC (decide (a.aH.n≤4)) 3) (bq (aC (decide (0 < a.aH.n)) 1) (bq (bg a.aH.n (fF a.aH)) (iz a)))))):=fun b=>by
  obtain ⟨y,hy,hK⟩:=l5 b 1
  obtain ⟨z,hz,hL⟩:=l5 (decide (a.aH.n≤4)) 3
  obtain ⟨x,hx,hM⟩:=l5 (decide (0 < a.aH.n)) 1
  obtain ⟨w,hw,hN⟩:=Qm [aC b 1,aC (decide (a.aH.n≤4)) 3,aC (decide (0 < a.aH.n)) 1] (show (3:Nat) < 2 ^ 62 by decide)
  have hN:∀ (ρ:Type) (K:Y→Option ρ),yC (aa O) 107 [S.t (T.rows 1 3 fun i=>List.take 1 (List.drop (i.1*1) [ti (aC b 1),ti (aC (decide (a.aH.n≤4)) 3),ti (aC (decide (0 < a.aH.n)) 1)]))] K=K w:=hN
  have l4:bp (ay a.aH.n) 4=decide (a.aH.n≤4):=Vm (k:=4)
  refine (Ev.by 1 (fun m=>?_) (h3 (dw [aC b 1,aC (decide (a.aH.n≤4)) 3,aC (decide (0 < a.aH.n)) 1]))).to ?_
  ·rw [fg]
   generalize fg (aa O) a m=X
   simp only [HX,SA,Db,hK,hy,l4,Q4,hL,hz,hM,hx,hN,hw]
   rfl
  ·simp only [gI,iu,w7]
 have h1:∀ b,Ev (fun m=>(fg (aa O) a m).x1 b) (ii (bq (aC (b && bp a.gn 3) 1) (bq (aC (decide (a.aH.n≤4)) 3) (bq (aC (decide (0 < a.aH.n)) 1) (bq (bg a.aH.n (fF a.aH)) (iz a)))))):=fun b=>
  Ev.by 1 (fun m=>by
   rw [fg]
   generalize fg (aa O) a m=X
   cases b<;>rfl) (h2 (b && bp a.gn 3))
 have h0:∀ b,Ev (fun m=>(fg (aa O) a m).x0 b) (ii (bq (aC ((b && cT a.gn 1) && bp a.gn 3) 1) (bq (aC (decide (a.aH.n≤4)) 3) (bq (aC (decide (0 < a.aH.n)) 1) (bq (bg a.aH.n (fF a.aH)) (iz a)))))):=fun b=>
  Ev.by 1 (fun m=>by
   rw [fg]
   generalize fg (aa O) a m=X
   cases b<;>rfl) (h1 (b && cT a.gn 1))
 obtain ⟨n,h⟩:=(h0 (within a.dI 1 4)).get
 refine W68 a n _ ?_
 have e:Ay (aa O) a (Tq (fg (aa O) a n))=(fg (aa O) a n).x0 (within a.dI 1 4):=by
  generalize fg (aa O) a n=X
  unfold Ay within
  cases cT a.dI 1<;>rfl
 rw [e,h]
 unfold LS ahs
 rw [Bool.and_assoc]
 rfl
theorem c81 (a:cO) (ha:wT a):ca 81 [ag (eN a)] (ii (LS a)):=by
 have hn:=cF ha.nodes.1
 obtain ⟨y1,hy1,hK1⟩:=aB (by kernel_rfl) (c74 a.dT 0 1099511627776)
 obtain ⟨y3,hy3,hK3⟩:=aB (by kernel_rfl) (vW a.gA ha.fresh)
 obtain ⟨y4,hy4,hK4⟩:=aB (by kernel_rfl) (vW a.bc ha.bV)
 obtain ⟨y5,hy5,hK5⟩:=aN (by kernel_rfl) (c131 a.bh ha.opts)
 have h3:∀ m b,(iX (aa O) a (m+1)).x3 b=some (ii (bq (aC (!b && gr a.bc) 7) (fx a.bh))):=fun m b=>by
  rw [iX]
  generalize iX (aa O) a m=X
  simp only [TI,OH,hK4,hK5,hy4,hy5,dz]
  unfold gr
  cases b<;>cases decide (aM a.bc=0)<;>cases ba a.bc<;>rfl
 have h2:Ev (fun m=>(iX (aa O) a m).x2 0) (ii (bq (bg a.aH.n (fF a.aH)) (iz a))):=
  Ev.lO (X:=fun m j=>(iX (aa O) a m).x2 (j:Int)) 1 a.aH.n (fF a.aH) (iz a) (fun m j hj=>by
   have hj2:j < 2 ^ 62:=by omega
   obtain ⟨z,hz,hL⟩:=aB (by kernel_rfl) (vW (a.aH.at j) (ha.nodes.2 j hj))
   show (iX (aa O) a (m+1)).x2 (j:Int)=_
   rw [iX]
   generalize iX (aa O) a m=X
   have g0:bl (j:Int) 0=!decide (j=0):=by unfold bl;by_cases h:j=0<;>simp [h]<;>omega
   simp only [TI,KB,CV,aq,av hj,hj,decide_true,cond_true,aK,hL,hz,aA hj2,g0]
   unfold fF
   by_cases h0:j=0
   ·simp only [h0,decide_true,Bool.not_true,cond_false,Bool.true_or]
    unfold aC bq
    cases ba (a.aH.at 0)<;>rfl
   ·have hs:=jT (show 0 < j by omega) hj2
    have hlt:j - 1 < a.aH.n:=by omega
    simp only [h0,decide_false,Bool.not_false,cond_true,Bool.false_or]
    rw [hs,av hlt]
    simp only [aK]
    unfold aC bq
    cases ba (a.aH.at j)<;>cases strLt (a.aH.at (j - 1)) (a.aH.at j)<;>rfl) (Ev.one 2 fun m=>by
   have:=h3 m
   show (iX (aa O) a (m+2)).x2 (a.aH.n:Int)=_
   rw [iX]
   generalize iX (aa O) a (m+1)=X at this ⊢
   simp only [TI,KB,R1,aq,Nat.lt_irrefl,decide_false,cond_false,hK1,hK3,hy1,hy3,dz,this]
   unfold iz
   generalize fx a.bh=w
   generalize hp:gr a.bc=p
   unfold gr aC bq
   cases within a.dT 0 1099511627776<;>cases decide (aM a.gA=0)<;>cases ba a.gA<;>rfl)
 obtain ⟨n,h⟩:=h2.get
 have g4:bl (ay a.aH.n) 4=!decide (a.aH.n≤4):=by
  rw [show bl (ay a.aH.n) 4=decide (4 < a.aH.n) from dO (k:=4)]
  by_cases h:a.aH.n≤4<;>simp [h]<;>omega
 have z0:aR (ay a.aH.n) 0=!decide (0 < a.aH.n):=by
  rw [OK]
  by_cases h:a.aH.n=0<;>simp [h]<;>omega
 have h1:∀ b,(iX (aa O) a (n+1)).x1 b=some (ii (bq (aC (!b && bp a.gn 3) 1) (bq (aC (decide (a.aH.n≤4)) 3) (bq (aC (decide (0 < a.aH.n)) 1) (bq (bg a.aH.n (fF a.aH)) (iz a)))))):=fun b=>by
  rw [iX]
  generalize iX (aa O) a n=X at h
  simp only [TI,Tn,CV,h,g4,z0,ez,eD (e:=1) rfl,eD (e:=3) rfl]
  cases b<;>rfl
 have h0:∀ b,(iX (aa O) a (n+2)).x0 b=some (ii (bq (aC (!b && (cT a.gn 1 && bp a.gn 3)) 1) (bq (aC (decide (a.aH.n≤4)) 3) (bq (aC (decide (0 < a.aH.n)) 1) (bq (bg a.aH.n (fF a.aH)) (iz a)))))):=fun b=>by
  rw [iX]
  generalize iX (aa O) a (n+1)=X at h1
  cases b with
  | true=>exact h1 _
  | false=>
   refine (h1 (bm a.gn 1)).trans ?_
   rw [iB,Bool.not_not]
   rfl
 refine W81 a (n+2) _ ?_
 have e:Af (aa O) a (O8 (iX (aa O) a (n+2)))=(iX (aa O) a (n+2)).x0 (!within a.dI 1 4):=by
  generalize iX (aa O) a (n+2)=X
  unfold Af within
  rw [iB,ez]
  cases cT a.dI 1<;>rfl
 rw [e,h0,Bool.not_not]
 rfl
theorem c182 (a:Rw ByteArray) (b:ByteArray) (ha:a.n < 2 ^ 62):ca 182 [S.t (T.rows 1 a.n fun i=>[ts (a.get i)]),ss b] (ii (idx a.n fun j=>ah b (a.at j))):=by
 have key:=Ev.rW (X:=fun m j=>(xA (aa O) a b m).x0 (j:Int)) 1 a.n (fun j=>ah b (a.at j)) (fun m j hj=>by
  have hj2:j < 2 ^ 62:=by omega
  simp only [xA,Pf,xF,sS,aq,av hj,aK,hj,decide_true,cond_true,aA hj2]) (fun m=>by
  simp only [xA,Pf,xF,sS,aq,Nat.lt_irrefl,decide_false,cond_false];rfl)
 obtain ⟨n,h⟩:=key.get
 exact aiI a b n _ h
theorem c145 (a:Rw ByteArray) (b:ByteArray) (ha:a.n < 2 ^ 62):ca 145 [S.t (T.rows 1 a.n fun i=>[ts (a.get i)]),ss b] (bb ((List.range a.n).any fun j=>ah b (a.at j))):=by
 obtain ⟨y,hy,hK⟩:=aN (by kernel_rfl) (c182 a b ha)
 exact aje a b 0 _ (by simp only [Ar,hK,hy,je])
theorem UW {α:Type} [Inhabited α] {l:List α} {p:α→Bool}:((List.range (nK l).n).any fun j=>p ((nK l).at j))=l.any p:=by
 rw [Bool.eq_iff_iff]
 simp only [List.any_eq_true,List.mem_range]
 constructor
 ·rintro ⟨j,hj,hp⟩
  have hj:j < l.length:=hj
  rw [pr hj] at hp
  exact ⟨_,List.getElem_mem hj,hp⟩
 ·rintro ⟨x,hx,hp⟩
  obtain ⟨j,hj,rfl⟩:=List.getElem_of_mem hx
  exact ⟨j,hj,by rw [pr hj];exact hp⟩
def MX:List ByteArray:=[bs [122,111,110,101],bs [116,121,112,101],bs [107,105,110,100],bs [112,111,111,108],bs [104,111,115,116]]
def zq (a:ByteArray):Bool:=MX.any fun x=>ah a x
theorem aci (a:ByteArray):∃ y:Y,y.b 0=zq a∧∀ (ρ:Type) (K:Y→Option ρ),yC (aa O) 145 [S.t (T.rows 1 5 fun i=>List.take 1 (List.drop (i.1*1) [ts (bs [122,111,110,101]),ts (bs [116,121,112,101]),ts (bs [107,105,110,100]),ts (bs [112,111,111,108]),ts (bs [104,111,115,116])])),ss a] K=K y:=by
 have h:=c145 (nK MX) a (show (5:Nat) < 2 ^ 62 by decide)
 rw [UW] at h
 obtain ⟨y,hy,hK⟩:=aB (by kernel_rfl) h
 refine ⟨y,hy,fun ρ K=>?_⟩
 rw [← hK ρ K]
 have:=Uf MX ts
 exact congrArg (fun g:Fin 5→List T=>yC (aa O) 145 [S.t (T.rows 1 5 g),ss a] K) this
theorem aiM (a:ByteArray):ca 161 [ss a] (bb (zq a)):=ahY a 4 _ (by
 unfold ze Fi
 unfold zq MX
 simp only [List.any_cons,List.any_nil,Bool.or_false]
 cases ah a (bs [122,111,110,101])<;>cases ah a (bs [116,121,112,101])<;>simp only [cond_true,cond_false,uL,XB,H8,GA,Ht,EW,FH,Et,E4,Bool.true_or,Bool.false_or]<;>cases ah a (bs [107,105,110,100])<;>simp only [cond_true,cond_false,Bool.true_or,Bool.false_or]<;>cases ah a (bs [112,111,111,108])<;>simp only [cond_true,cond_false,Bool.true_or,Bool.false_or])
def mZ (a:Rw ch) (j:Nat):Int:=bq (aC (ba (a.at j).aZ) 7) (bq (aC (!zq (a.at j).aZ) 1) (bq (aC (jr (a.at j).cP) 20) (aC (!(List.range j).any (fun i=>ah (a.at i).aZ (a.at j).aZ)) 6)))
def js (a:Rw ch):Int:=bif decide (4 < a.n) then 3 else bg a.n (mZ a)
theorem ahR (a:Rw ch) (ha:ga yn a):ca 104 [S.t (T.rows 2 a.n fun i=>dv (a.get i))] (ii (js a)):=by
 have hn:=cF ha.1
 have key:=Ev.jc (X:=fun m j=>(mj (aa O) a m).x0 (j:Int)) 1 a.n (mZ a) (fun m j hj=>by
  have hj2:j < 2 ^ 62:=by omega
  obtain ⟨y,hy,hK⟩:=aB (by kernel_rfl) (vE (a.at j).aZ (ha.2 j hj).1)
  obtain ⟨z,hz,hL⟩:=aB (by kernel_rfl) (c146 (a.at j).cP (ha.2 j hj).2)
  obtain ⟨w,hw,hN⟩:=aci (a.at j).aZ
  obtain ⟨x,hx,hM⟩:=aB (by kernel_rfl) (ahQ (a.sub j (by omega)) (a.at j) (by rw [nT];omega))
  rw [nC (p:=fun (t:ch)=>ah t.aZ (a.at j).aZ)] at hx
  simp only [Rw.sub] at hM
  show (mj (aa O) a (m+1)).x0 (j:Int)=bif !aR (mZ a j) 0 then some (ii (mZ a j)) else (mj (aa O) a m).x0 ((j+1:Nat):Int)
  rw [mj]
  generalize mj (aa O) a m=X
  simp only [PI,z8,sQ,aq,av hj,aK,hj,decide_true,cond_true,aA hj2,hK,hy,hL,hz,hN,hw,kC (Nat.le_of_lt hj),iU (Nat.le_of_lt hj),hM,hx]
  unfold mZ aC bq
  cases ba (a.at j).aZ<;>cases zq (a.at j).aZ<;>cases jr (a.at j).cP<;>cases (List.range j).any (fun i=>ah (a.at i).aZ (a.at j).aZ)<;>rfl) (fun m=>by
  show (mj (aa O) a (m+1)).x0 (a.n:Int)=_
  rw [mj]
  generalize mj (aa O) a m=X
  simp only [PI,z8,sQ,aq,Nat.lt_irrefl,decide_false,cond_false])
 obtain ⟨n,h⟩:=key.get
 refine aky a n _ ?_
 have e:bl (ay a.n) 4=decide (4 < a.n):=dO (k:=4)
 unfold js
 simp only [ya,e]
 cases decide (4 < a.n) with
 | true=>rfl
 | false=>exact h
theorem aiy (a:Rw ch) (ha:ga yn a):ca 126 [S.t (T.rows 2 a.n fun i=>dv (a.get i))] (ii (js a)):=by
 have hn:=cF ha.1
 have key:=Ev.rq (X:=fun m j=>(kb (aa O) a m).x0 (j:Int)) a.n (mZ a) (fun j hj=>by
  have hj2:j < 2 ^ 62:=by omega
  obtain ⟨y,hy,hK⟩:=aB (by kernel_rfl) (vW (a.at j).aZ (ha.2 j hj).1)
  obtain ⟨z,hz,hL⟩:=aB (by kernel_rfl) (UK (a.at j).cP (ha.2 j hj).2)
  obtain ⟨w,hw,hN⟩:=aB (by kernel_rfl) (aiM (a.at j).aZ)
  obtain ⟨inT,inF⟩:=Ev.vO (X:=fun m i=>(kb (aa O) a m).x1 (j:Int) (i:Int)) 1 j (fun i=>ah (a.at i).aZ (a.at j).aZ) (ii 6) (fun m i hi=>by
   have hi':i < a.n:=by omega
   simp only [kb,CL,Bn,oM,qW,ek,hi,decide_true,cond_true,av hi',av hj,aK,aA (show i < 2 ^ 62 by omega)])
  have out:∀ m,(kb (aa O) a (m+1)).x1 (j:Int) (j:Int)=(kb (aa O) a m).x0 ((j+1:Nat):Int):=fun m=>by
   simp only [kb,CL,Bn,oM,qW,ek,Nat.lt_irrefl,decide_false,cond_false,aA hj2]
  have one:∀ m,(kb (aa O) a (m+1)).x0 (j:Int)=bif !ba (a.at j).aZ then some (ii 7) else bif zq (a.at j).aZ then some (ii 1) else bif !jr (a.at j).cP then some (ii 20) else (kb (aa O) a m).x1 (j:Int) 0:=fun m=>by
   simp only [kb,CL,Ab,oM,qW,aq,av hj,aK,hj,decide_true,cond_true,hK,hy,hL,hz,hN,hw]
  unfold mZ
  cases h1:ba (a.at j).aZ with
  | false=>exact ⟨fun _=>Ev.one 1 fun m=>by rw [one,h1];rfl,fun h=>absurd (show (7:Int)=0 from h) (by decide)⟩
  | true=>
   cases h0:zq (a.at j).aZ with
   | true=>exact ⟨fun _=>Ev.one 1 fun m=>by rw [one,h1,h0];rfl,fun h=>absurd (show (1:Int)=0 from h) (by decide)⟩
   | false=>
    cases h2:jr (a.at j).cP with
    | false=>exact ⟨fun _=>Ev.one 1 fun m=>by rw [one,h1,h0,h2];rfl,fun h=>absurd (show (20:Int)=0 from h) (by decide)⟩
    | true=>
     cases h3:(List.range j).any (fun i=>ah (a.at i).aZ (a.at j).aZ) with
     | true=>exact ⟨fun _=>Ev.by 1 (fun m=>by rw [one,h1,h0,h2];rfl) (inT h3),fun h=>absurd (show (6:Int)=0 from h) (by decide)⟩
     | false=>exact ⟨fun h=>absurd rfl h,fun _ v hv=>Ev.by 1 (fun m=>by rw [one,h1,h0,h2];rfl) (inF h3 v (Ev.by 1 out hv))⟩) (Ev.one 1 fun m=>by
  simp only [kb,CL,Ab,oM,aq,Nat.lt_irrefl,decide_false,cond_false])
 obtain ⟨n,h⟩:=key.get
 refine ajs a n _ ?_
 have e:bl (ay a.n) 4=decide (4 < a.n):=dO (k:=4)
 unfold js
 simp only [zf,e]
 cases decide (4 < a.n) with
 | true=>rfl
 | false=>exact h
def C7 (a:bK):Prop:=sm (aM a.bj)∧sm (aM a.bn)
def fY (a b:bK):Bool:=ah a.bj b.bj && ah a.bn b.bn
theorem ah5 (a b:bK):ca 150 [ag (cL a),S.pt (cL b)] (bb (fY a b)):=ain a b 1 _ (by
 unfold Ap fY
 cases ah a.bj b.bj<;>rfl)
theorem aja (a:Rw bK) (b:bK) (ha:a.n < 2 ^ 62):ca 185 [S.t (T.rows 4 a.n fun i=>cL (a.get i)),S.fn (Go.Fn.func 150) [] [S.pt (cL b)]] (ii (idx a.n fun j=>fY (a.at j) b)):=by
 have key:=Ev.rW (X:=fun m j=>(wF (aa O) a b m).x0 (j:Int)) 1 a.n (fun j=>fY (a.at j) b) (fun m j hj=>by
  have hj2:j < 2 ^ 62:=by omega
  obtain ⟨y,hy,hK⟩:=aB (by kernel_rfl) (ah5 (a.at j) b)
  simp only [wF,T9,Bs,uG,aq,av hj,aK,hj,decide_true,cond_true,aA hj2,hK,hy]) (fun m=>by
  simp only [wF,T9,Bs,uG,aq,Nat.lt_irrefl,decide_false,cond_false];rfl)
 obtain ⟨n,h⟩:=key.get
 exact ajN a b n _ h
theorem akn (a:Rw bK) (b:bK) (ha:a.n < 2 ^ 62):ca 149 [S.t (T.rows 4 a.n fun i=>cL (a.get i)),S.fn (Go.Fn.func 150) [] [S.pt (cL b)]] (bb ((List.range a.n).any fun j=>fY (a.at j) b)):=by
 obtain ⟨y,hy,hK⟩:=aN (by kernel_rfl) (aja a b ha)
 exact aid a b 0 _ (by simp only [yH,hK,hy,je])
def fR (a:Rw bK) (j:Nat):Int:=bq (aC (ba (a.at j).bj && ba (a.at j).bn) 7) (bq (rh (a.at j).bG) (aC (!(List.range j).any (fun i=>fY (a.at i) (a.at j))) 6))
def gB (a:Rw bK):Int:=bif decide (6 < a.n) then 3 else bg a.n (fR a)
theorem c105 (a:Rw bK) (ha:ga C7 a):ca 105 [S.t (T.rows 4 a.n fun i=>cL (a.get i))] (ii (gB a)):=by
 have hn:=cF ha.1
 have key:=Ev.jc (X:=fun m j=>(nd (aa O) a m).x0 (j:Int)) 1 a.n (fR a) (fun m j hj=>by
  have hj2:j < 2 ^ 62:=by omega
  obtain ⟨y,hy,hK⟩:=aB (by kernel_rfl) (vE (a.at j).bj (ha.2 j hj).1)
  obtain ⟨z,hz,hL⟩:=aB (by kernel_rfl) (vE (a.at j).bn (ha.2 j hj).2)
  obtain ⟨w,hw,hN⟩:=aN (by kernel_rfl) (Xj (a.at j).bG)
  obtain ⟨x,hx,hM⟩:=aB (by kernel_rfl) (akn (a.sub j (by omega)) (a.at j) (by rw [nT];omega))
  rw [nC (p:=fun (t:bK)=>fY t (a.at j))] at hx
  simp only [Rw.sub] at hM
  show (nd (aa O) a (m+1)).x0 (j:Int)=bif !aR (fR a j) 0 then some (ii (fR a j)) else (nd (aa O) a m).x0 ((j+1:Nat):Int)
  rw [nd]
  generalize nd (aa O) a m=X
  simp only [Sy,zo,tW,aq,av hj,aK,hj,decide_true,cond_true,aA hj2,hK,hy,hL,hz,hN,hw,kC (Nat.le_of_lt hj),iU (Nat.le_of_lt hj),hM,hx]
  unfold fR aC bq
  cases ba (a.at j).bj<;>cases ba (a.at j).bn<;>try rfl
  cases hc:aR (rh (a.at j).bG) 0 with
  | false=>simp [hc,show aR 0 0=true from rfl]
  | true=>cases (List.range j).any (fun i=>fY (a.at i) (a.at j))<;>rfl) (fun m=>by
  show (nd (aa O) a (m+1)).x0 (a.n:Int)=_
  rw [nd]
  generalize nd (aa O) a m=X
  simp only [Sy,zo,tW,aq,Nat.lt_irrefl,decide_false,cond_false])
 obtain ⟨n,h⟩:=key.get
 refine ajB a n _ ?_
 have e:bl (ay a.n) 6=decide (6 < a.n):=dO (k:=6)
 unfold gB
 simp only [AR,e]
 cases decide (6 < a.n) with
 | true=>rfl
 | false=>exact h
theorem c127 (a:Rw bK) (ha:ga C7 a):ca 127 [S.t (T.rows 4 a.n fun i=>cL (a.get i))] (ii (gB a)):=by
 have hn:=cF ha.1
 have key:=Ev.rq (X:=fun m j=>(ka (aa O) a m).x0 (j:Int)) a.n (fR a) (fun j hj=>by
  have hj2:j < 2 ^ 62:=by omega
  obtain ⟨y,hy,hK⟩:=aB (by kernel_rfl) (vW (a.at j).bj (ha.2 j hj).1)
  obtain ⟨z,hz,hL⟩:=aB (by kernel_rfl) (vW (a.at j).bn (ha.2 j hj).2)
  obtain ⟨w,hw,hN⟩:=aN (by kernel_rfl) (c91 (a.at j).bG)
  obtain ⟨inT,inF⟩:=Ev.vO (X:=fun m i=>(ka (aa O) a m).x1 (j:Int) (i:Int)) 1 j (fun i=>fY (a.at i) (a.at j)) (ii 6) (fun m i hi=>by
   have hi':i < a.n:=by omega
   simp only [ka,Cn,zK,oF,qx,ek,hi,decide_true,cond_true,av hi',av hj,aK,aA (show i < 2 ^ 62 by omega)]
   unfold fY
   cases ah (a.at i).bj (a.at j).bj<;>rfl)
  have out:∀ m,(ka (aa O) a (m+1)).x1 (j:Int) (j:Int)=(ka (aa O) a m).x0 ((j+1:Nat):Int):=fun m=>by
   simp only [ka,Cn,zK,oF,qx,ek,Nat.lt_irrefl,decide_false,cond_false,aA hj2]
  have one:∀ m,(ka (aa O) a (m+1)).x0 (j:Int)=bif !ba (a.at j).bj then some (ii 7) else bif !ba (a.at j).bn then some (ii 7) else bif !aR (rh (a.at j).bG) 0 then some (ii (rh (a.at j).bG)) else (ka (aa O) a m).x1 (j:Int) 0:=fun m=>by
   simp only [ka,Cn,Bi,oF,qx,aq,av hj,aK,hj,decide_true,cond_true,hK,hy,hL,hz,hN,hw]
  unfold fR
  cases h1:ba (a.at j).bj with
  | false=>exact ⟨fun _=>Ev.one 1 fun m=>by rw [one,h1];rfl,fun h=>absurd (show (7:Int)=0 from h) (by decide)⟩
  | true=>
   cases h0:ba (a.at j).bn with
   | false=>exact ⟨fun _=>Ev.one 1 fun m=>by rw [one,h1,h0];rfl,fun h=>absurd (show (7:Int)=0 from h) (by decide)⟩
   | true=>
    have e7:∀ r,bq (aC (true && true) 7) r=r:=fun r=>rfl
    rw [e7]
    cases h2:aR (rh (a.at j).bG) 0 with
    | false=>
     have e8:∀ r,bq (rh (a.at j).bG) r=rh (a.at j).bG:=fun r=>by unfold bq;rw [h2];rfl
     rw [e8]
     exact ⟨fun _=>Ev.one 1 fun m=>by rw [one,h1,h0,h2];rfl,fun h=>absurd (cJ.2 h) (by rw [h2];decide)⟩
    | true=>
     have e8:∀ r,bq (rh (a.at j).bG) r=r:=fun r=>by unfold bq;rw [h2];rfl
     rw [e8]
     cases h3:(List.range j).any (fun i=>fY (a.at i) (a.at j)) with
     | true=>exact ⟨fun _=>Ev.by 1 (fun m=>by rw [one,h1,h0,h2];rfl) (inT h3),fun h=>absurd (show (6:Int)=0 from h) (by decide)⟩
     | false=>exact ⟨fun h=>absurd rfl h,fun _ v hv=>Ev.by 1 (fun m=>by rw [one,h1,h0,h2];rfl) (inF h3 v (Ev.by 1 out hv))⟩) (Ev.one 1 fun m=>by
  simp only [ka,Cn,Bi,oF,aq,Nat.lt_irrefl,decide_false,cond_false])
 obtain ⟨n,h⟩:=key.get
 refine akc a n _ ?_
 have e:bl (ay a.n) 6=decide (6 < a.n):=dO (k:=6)
 unfold gB
 simp only [AT,e]
 cases decide (6 < a.n) with
 | true=>rfl
 | false=>exact h
structure eQ (a:aV):Prop where
 name:sm (aM a.af)
 labels:ga yn a.aS
 offers:ga C7 a.aF
def kT (a:aV):Int:=bq (aC (ba a.af) 7) (bq (kl a.a6 a.a8) (bq (kl a.cx a.cv) (bq (aC (fits a.cx a.cv a.a6 a.a8) 1) (bq (js a.aS) (gB a.aF)))))
theorem c58 (a:aV) (ha:eQ a):ca 58 [ag (bk a)] (ii (kT a)):=by
 obtain ⟨y,hy,hK⟩:=aB (by kernel_rfl) (vE a.af ha.name)
 obtain ⟨y1,hy1,hK1⟩:=aN (by kernel_rfl) (G7 a.a6 a.a8)
 obtain ⟨y2,hy2,hK2⟩:=aN (by kernel_rfl) (G7 a.cx a.cv)
 obtain ⟨y3,hy3,hK3⟩:=aB (by kernel_rfl) (aiD a.cx a.cv a.a6 a.a8)
 obtain ⟨y4,hy4,hK4⟩:=aN (by kernel_rfl) (ahR a.aS ha.labels)
 obtain ⟨y5,hy5,hK5⟩:=aN (by kernel_rfl) (c105 a.aF ha.offers)
 refine W58 a 3 _ ?_
 simp only [F_,T0,SP,O5,LY,adL,OV,Sw,RJ,hK,hK1,hK2,hK3,hK4,hK5,hy,hy1,hy2,hy3,hy4,hy5,or_some,eD (e:=7) rfl,eD (e:=1) rfl]
 rfl
theorem c70 (a:aV) (ha:eQ a):ca 70 [ag (bk a)] (ii (kT a)):=by
 obtain ⟨y,hy,hK⟩:=aB (by kernel_rfl) (vW a.af ha.name)
 obtain ⟨y1,hy1,hK1⟩:=aN (by kernel_rfl) (c49 a.a6 a.a8)
 obtain ⟨y2,hy2,hK2⟩:=aN (by kernel_rfl) (c49 a.cx a.cv)
 obtain ⟨y3,hy3,hK3⟩:=aB (by kernel_rfl) (aia a.cx a.cv a.a6 a.a8)
 obtain ⟨y4,hy4,hK4⟩:=aN (by kernel_rfl) (aiy a.aS ha.labels)
 obtain ⟨y5,hy5,hK5⟩:=aN (by kernel_rfl) (c127 a.aF ha.offers)
 refine W70 a 0 _ ?_
 simp only [Fj,hK,hK1,hK2,hK3,hK4,hK5,hy,hy1,hy2,hy3,hy4,hy5,or_some,eD (e:=7) rfl,eD (e:=1) rfl]
 rfl
theorem c60 (a b:aV):ca 60 [ag (bk a),S.pt (bk b)] (bb (ah a.af b.af)):=W60 a b 0 _ rfl
theorem akj (a:Rw aV) (b:aV) (ha:a.n < 2 ^ 62):ca 106 [S.t (T.rows 7 a.n fun i=>bk (a.get i)),S.fn (Go.Fn.func 60) [] [S.pt (bk b)]] (ii (idx a.n fun j=>ah (a.at j).af b.af)):=by
 have key:=Ev.rW (X:=fun m j=>(wB (aa O) a b m).x0 (j:Int)) 1 a.n (fun j=>ah (a.at j).af b.af) (fun m j hj=>by
  have hj2:j < 2 ^ 62:=by omega
  obtain ⟨y,hy,hK⟩:=aB (by kernel_rfl) (c60 (a.at j) b)
  simp only [wB,QH,Bw,tI,aq,av hj,aK,hj,decide_true,cond_true,aA hj2,hK,hy]) (fun m=>by
  simp only [wB,QH,Bw,tI,aq,Nat.lt_irrefl,decide_false,cond_false];rfl)
 obtain ⟨n,h⟩:=key.get
 exact ajV a b n _ h
theorem c59 (a:Rw aV) (b:aV) (ha:a.n < 2 ^ 62):ca 59 [S.t (T.rows 7 a.n fun i=>bk (a.get i)),S.fn (Go.Fn.func 60) [] [S.pt (bk b)]] (bb ((List.range a.n).any fun j=>ah (a.at j).af b.af)):=by
 obtain ⟨y,hy,hK⟩:=aN (by kernel_rfl) (akj a b ha)
 exact W59 a b 0 _ (by simp only [FJ,hK,hy,je])
def pT (a:Rw aV) (j:Nat):Int:=bq (kT (a.at j)) (aC (!(List.range j).any (fun i=>ah (a.at i).af (a.at j).af)) 6)
def dX (a:Rw aV):Int:=bif decide (12 < a.n) then 3 else bg a.n (pT a)
theorem c24 (a:Rw aV) (ha:ga eQ a):ca 24 [S.t (T.rows 7 a.n fun i=>bk (a.get i))] (ii (dX a)):=by
 have hn:=cF ha.1
 have key:=Ev.jc (X:=fun m j=>(tk (aa O) a m).x0 (j:Int)) 1 a.n (pT a) (fun m j hj=>by
  have hj2:j < 2 ^ 62:=by omega
  obtain ⟨y,hy,hK⟩:=aN (by kernel_rfl) (c58 (a.at j) (ha.2 j hj))
  obtain ⟨x,hx,hM⟩:=aB (by kernel_rfl) (c59 (a.sub j (by omega)) (a.at j) (by rw [nT];omega))
  rw [nC (p:=fun (t:aV)=>ah t.af (a.at j).af)] at hx
  simp only [Rw.sub] at hM
  show (tk (aa O) a (m+1)).x0 (j:Int)=bif !aR (pT a j) 0 then some (ii (pT a j)) else (tk (aa O) a m).x0 ((j+1:Nat):Int)
  rw [tk]
  generalize tk (aa O) a m=X
  simp only [acX,JJ,DU,aq,av hj,aK,hj,decide_true,cond_true,aA hj2,hK,hy,kC (Nat.le_of_lt hj),iU (Nat.le_of_lt hj),hM,hx]
  unfold pT aC bq
  cases hc:aR (kT (a.at j)) 0 with
  | false=>simp [hc]
  | true=>cases (List.range j).any (fun i=>ah (a.at i).af (a.at j).af)<;>rfl) (fun m=>by
  show (tk (aa O) a (m+1)).x0 (a.n:Int)=_
  rw [tk]
  generalize tk (aa O) a m=X
  simp only [acX,JJ,DU,aq,Nat.lt_irrefl,decide_false,cond_false])
 obtain ⟨n,h⟩:=key.get
 refine W24 a n _ ?_
 have e:bl (ay a.n) 12=decide (12 < a.n):=dO (k:=12)
 unfold dX
 simp only [ED,e]
 cases decide (12 < a.n) with
 | true=>rfl
 | false=>exact h
theorem c33 (a:Rw aV) (ha:ga eQ a):ca 33 [S.t (T.rows 7 a.n fun i=>bk (a.get i))] (ii (dX a)):=by
 have hn:=cF ha.1
 have key:=Ev.rq (X:=fun m j=>(pN (aa O) a m).x0 (j:Int)) a.n (pT a) (fun j hj=>by
  have hj2:j < 2 ^ 62:=by omega
  obtain ⟨y,hy,hK⟩:=aN (by kernel_rfl) (c70 (a.at j) (ha.2 j hj))
  obtain ⟨inT,inF⟩:=Ev.vO (X:=fun m i=>(pN (aa O) a m).x1 (j:Int) (i:Int)) 1 j (fun i=>ah (a.at i).af (a.at j).af) (ii 6) (fun m i hi=>by
   have hi':i < a.n:=by omega
   simp only [pN,SQ,I_,uP,xl,ek,hi,decide_true,cond_true,av hi',av hj,aK,aA (show i < 2 ^ 62 by omega)])
  have out:∀ m,(pN (aa O) a (m+1)).x1 (j:Int) (j:Int)=(pN (aa O) a m).x0 ((j+1:Nat):Int):=fun m=>by
   simp only [pN,SQ,I_,uP,xl,ek,Nat.lt_irrefl,decide_false,cond_false,aA hj2]
  have one:∀ m,(pN (aa O) a (m+1)).x0 (j:Int)=bif !aR (kT (a.at j)) 0 then some (ii (kT (a.at j))) else (pN (aa O) a m).x1 (j:Int) 0:=fun m=>by
   simp only [pN,SQ,Jy,uP,xl,aq,av hj,aK,hj,decide_true,cond_true,hK,hy]
  unfold pT
  cases h2:aR (kT (a.at j)) 0 with
  | false=>
   have e8:∀ r,bq (kT (a.at j)) r=kT (a.at j):=fun r=>by unfold bq;rw [h2];rfl
   rw [e8]
   exact ⟨fun _=>Ev.one 1 fun m=>by rw [one,h2];rfl,fun h=>absurd (cJ.2 h) (by rw [h2];decide)⟩
  | true=>
   have e8:∀ r,bq (kT (a.at j)) r=r:=fun r=>by unfold bq;rw [h2];rfl
   rw [e8]
   cases h3:(List.range j).any (fun i=>ah (a.at i).af (a.at j).af) with
   | true=>exact ⟨fun _=>Ev.by 1 (fun m=>by rw [one,h2];rfl) (inT h3),fun h=>absurd (show (6:Int)=0 from h) (by decide)⟩
   | false=>exact ⟨fun h=>absurd rfl h,fun _ v hv=>Ev.by 1 (fun m=>by rw [one,h2];rfl) (inF h3 v (Ev.by 1 out hv))⟩) (Ev.one 1 fun m=>by
  simp only [pN,SQ,Jy,uP,aq,Nat.lt_irrefl,decide_false,cond_false])
 obtain ⟨n,h⟩:=key.get
 refine W33 a n _ ?_
 have e:bl (ay a.n) 12=decide (12 < a.n):=dO (k:=12)
 unfold dX
 simp only [GX,e]
 cases decide (12 < a.n) with
 | true=>rfl
 | false=>exact h
abbrev oN:=aV × bK
def keyOf (p:oN):bu:=⟨p.1.af,p.2.bj,p.2.bn⟩
def mF (p:oN):S:=S.agg (ss p.1.af::ii p.1.a6::ii p.1.a8::ii p.1.cx::ii p.1.cv::S.t (T.rows 2 p.1.aS.n fun i=>dv (p.1.aS.get i))::S.t (T.rows 4 p.1.aF.n fun i=>cL (p.1.aF.get i))::List.map S.t (cL p.2))
def gh (l:List oN):List (S × S):=l.map fun p=>(ag (bS (keyOf p)),mF p)
theorem P7 (l r:List oN):gh (l++r)=gh l++gh r:=by simp [gh]
theorem JZ (a b:bu):oS O.P O.K 47 (ag (bS a)) (ag (bS b))=some (dV a b):=by kernel_rfl
theorem tg (b:bu):∀ (l:List oN) (i:Nat),eT O.P O.K 47 (ag (bS b)) (gh l) i=some ((l.findSome? fun p=>bif dV b (keyOf p) then some p else none).bind fun _=>none)∨∃ k p,l.find? (fun p=>dV b (keyOf p))=some p∧eT O.P O.K 47 (ag (bS b)) (gh l) i=some (some (k,mF p))
 | [],i=>.inl rfl
 | p::l,i=>by
  have hc:eT O.P O.K 47 (ag (bS b)) (gh (p::l)) i=bif dV b (keyOf p) then some (some (i,mF p)) else eT O.P O.K 47 (ag (bS b)) (gh l) (i+1):=by
   show (oS O.P O.K 47 (ag (bS b)) (ag (bS (keyOf p)))).bind _=_
   rw [JZ]
   rfl
  rw [hc]
  cases h:dV b (keyOf p) with
  | true=>exact .inr ⟨i,p,by simp [h],rfl⟩
  | false=>
   rcases tg b l (i+1) with h1 | ⟨k,q,h1,h2⟩
   ·refine .inl ?_
    rw [cond_false,h1]
    simp [h]
   ·exact .inr ⟨k,q,by simp [h,h1],h2⟩
theorem ve {b:bu} {l:List oN} (h:l.find? (fun p=>dV b (keyOf p))=none) (i:Nat):eT O.P O.K 47 (ag (bS b)) (gh l) i=some none:=by
 rcases tg b l i with h1 | ⟨k,p,h1,_⟩
 ·rw [h1]
  congr 1
  cases l.findSome? (fun p=>bif dV b (keyOf p) then some p else none)<;>rfl
 ·rw [h] at h1;cases h1
theorem tH {b:bu} {l:List oN} {p:oN} (h:l.find? (fun p=>dV b (keyOf p))=some p) (i:Nat):∃ k,eT O.P O.K 47 (ag (bS b)) (gh l) i=some (some (k,mF p)):=by
 rcases tg b l i with h1 | ⟨k,q,h1,h2⟩
 ·exfalso
  have:∀ (l:List oN) (i:Nat),l.find? (fun p=>dV b (keyOf p))=some p→eT O.P O.K 47 (ag (bS b)) (gh l) i≠some none:=by
   intro l
   induction l with
   | nil=>intro i h;cases h
   | cons q l ih=>
    intro i h
    have hc:eT O.P O.K 47 (ag (bS b)) (gh (q::l)) i=bif dV b (keyOf q) then some (some (i,mF q)) else eT O.P O.K 47 (ag (bS b)) (gh l) (i+1):=by
     show (oS O.P O.K 47 (ag (bS b)) (ag (bS (keyOf q)))).bind _=_
     rw [JZ]
     rfl
    rw [hc]
    cases hq:dV b (keyOf q) with
    | true=>simp
    | false=>
     rw [cond_false]
     exact ih (i+1) (by simpa [hq] using h)
  refine this l i h ?_
  rw [h1]
  congr 1
  cases l.findSome? (fun p=>bif dV b (keyOf p) then some p else none)<;>rfl
 ·rw [h] at h1
  obtain rfl:=Option.some.inj h1
  exact ⟨k,h2⟩
theorem MG (get:Nat→Option B) (d:Nat) (a:bu):cd get (d+40) (ag (bS a))=some (ag (bS a),[]):=rfl
theorem ME (get:Nat→Option B) (d:Nat) (p:oN):cd get (d+40) (mF p)=some (mF p,[]):=rfl
theorem th (get:Nat→Option B):∀ (l:List oN) (d:Nat),ig get (d+41+l.length) (gh l)=some (gh l,[])
 | [],d=>rfl
 | p::l,d=>by
  have e:d+41+(p::l).length=(d+41+l.length)+1:=by simp;omega
  rw [e]
  show ig get ((d+41+l.length)+1) ((ag (bS (keyOf p)),mF p)::gh l)=_
  unfold ig
  have e2:d+41+l.length=(d+1+l.length)+40:=by omega
  have h1:=MG get (d+1+l.length) (keyOf p)
  have h2:=ME get (d+1+l.length) p
  rw [← e2] at h1 h2
  simp only [h1,h2,th get l d]
  rfl
theorem Rq {d:Nat} {l:List oN} (h:l.length+41≤d):RO d (gh l) where
 close:=fun get=>by
  have:=th get l (d - 41 - l.length)
  rwa [show d - 41 - l.length+41+l.length=d by omega] at this
 refs:=by
  induction l with
  | nil=>rfl
  | cons p l ih=>
   show rp ((ag (bS (keyOf p)),mF p)::gh l)=[]
   unfold rp
   rw [ih (by simp at h;omega)]
   rfl
 ren:=fun m=>by
  induction l with
  | nil=>rfl
  | cons p l ih=>
   show tN m ((ag (bS (keyOf p)),mF p)::gh l)=_
   unfold tN
   rw [ih (by simp at h;omega)]
   rfl
theorem iD {ρ:Type} {d:Nat} {l:List oN} {K:Option ρ} (h:l.length+41≤d):bL d (gh l) K=K:=by
 unfold bL
 exact if_pos (Rq h)
theorem Su {ρ:Type} {l:List oN} {p:oN} {K:List (S × S)→Option ρ} (h:l.find? (fun q=>dV (keyOf p) (keyOf q))=none):n_ O.P O.K 47 (gh l) (ag (bS (keyOf p))) (mF p) K=K (gh (l++[p])):=by
 unfold n_
 rw [ve h]
 rw [P7]
 rfl
theorem bQ {a b:Int}:bq a b=0↔a=0∧b=0:=by
 unfold bq
 cases h:aR a 0 with
 | false=>
  have:=k_.1 h
  simp [this]
 | true=>
  have:=cJ.1 h
  simp [this]
theorem dm {b:Bool} {e:Int} (he:e≠0):aC b e=0↔b=true:=by
 unfold aC
 cases b<;>simp [he]
theorem fK {n:Nat} {g:Nat→Int}:bg n g=0↔∀ j,j < n→g j=0:=by
 rw [← oT]
 have:∀ k j,eC g j k=0↔∀ i,j≤i→i < j+k→g i=0:=by
  intro k
  induction k with
  | zero=>intro j;simp [eC];omega
  | succ k ih=>
   intro j
   unfold eC
   rw [bQ,ih]
   constructor
   ·rintro ⟨h1,h2⟩ i hi hk
    by_cases h:i=j
    ·rw [h];exact h1
    ·exact h2 i (by omega) (by omega)
   ·intro h
    exact ⟨h j (by omega) (by omega),fun i hi hk=>h i (by omega) (by omega)⟩
 rw [this]
 exact ⟨fun h j hj=>h j (by omega) (by omega),fun h i _ hi=>h i (by omega)⟩
structure A_ (a:Rw aV):Prop where
 few:a.n≤12
 names:∀ i j,i < j→j < a.n→ah (a.at i).af (a.at j).af=false
 offers:∀ i,i < a.n→(a.at i).aF.n≤6
 apart:∀ i,i < a.n→∀ k l,k < l→l < (a.at i).aF.n→fY ((a.at i).aF.at k) ((a.at i).aF.at l)=false
theorem Li {a:Rw aV} (h:dX a=0):A_ a:=by
 unfold dX at h
 cases hm:decide (12 < a.n) with
 | true=>rw [hm] at h;exact absurd (show (3:Int)=0 from h) (by decide)
 | false=>
  rw [hm,cond_false] at h
  have hf:=fK.1 h
  have ht:∀ j,j < a.n→kT (a.at j)=0∧(!(List.range j).any (fun i=>ah (a.at i).af (a.at j).af))=true:=fun j hj=>by
   have:=hf j hj
   unfold pT at this
   rw [bQ,dm (by decide)] at this
   exact this
  have ho:∀ j,j < a.n→gB (a.at j).aF=0:=fun j hj=>by
   have:=(ht j hj).1
   unfold kT at this
   simp only [bQ] at this
   exact this.2.2.2.2.2
  have hof:∀ j,j < a.n→(a.at j).aF.n≤6∧∀ l,l < (a.at j).aF.n→fR (a.at j).aF l=0:=fun j hj=>by
   have:=ho j hj
   unfold gB at this
   cases hm:decide (6 < (a.at j).aF.n) with
   | true=>rw [hm] at this;exact absurd (show (3:Int)=0 from this) (by decide)
   | false=>
    rw [hm,cond_false] at this
    exact ⟨by have:=of_decide_eq_false hm;omega,fK.1 this⟩
  refine ⟨by have:=of_decide_eq_false hm;omega,fun i j hij hj=>?_,fun i hi=>(hof i hi).1,fun i hi k l hkl hl=>?_⟩
  ·have:=(ht j hj).2
   rw [Bool.not_eq_true'] at this
   have:=List.any_eq_false.1 this i (List.mem_range.2 hij)
   simpa using this
  ·have:=(hof i hi).2 l hl
   unfold fR at this
   simp only [bQ] at this
   have:=(dm (show (6:Int)≠0 by decide)).1 this.2.2
   rw [Bool.not_eq_true'] at this
   have:=List.any_eq_false.1 this k (List.mem_range.2 hkl)
   simpa using this
def cm (t:aV) (k:Nat):List oN:=(List.range k).map fun k=>(t,t.aF.at k)
def nu (a:Rw aV) (i:Nat):List oN:=(List.range i).flatMap fun i=>cm (a.at i) (a.at i).aF.n
theorem pJ (a:Rw aV) (i:Nat):nu a (i+1)=nu a i++cm (a.at i) (a.at i).aF.n:=by
 unfold nu
 rw [List.range_succ,List.flatMap_append]
 simp
theorem kn (t:aV) (k:Nat):cm t (k+1)=cm t k++[(t,t.aF.at k)]:=by
 unfold cm
 rw [List.range_succ]
 simp
theorem sg {a:Rw aV} (h:A_ a):∀ i,i≤a.n→(nu a i).length≤6*i
 | 0,_=>by simp [nu]
 | i+1,hi=>by
  rw [pJ,List.length_append]
  have:=sg h i (by omega)
  have:=h.offers i (by omega)
  have:(cm (a.at i) (a.at i).aF.n).length=(a.at i).aF.n:=by simp [cm]
  omega
theorem aby {a:Rw aV} (h:A_ a) {i k:Nat} (hi:i < a.n) (hk:k < (a.at i).aF.n):(nu a i++cm (a.at i) k).find? (fun q=>dV (keyOf (a.at i,(a.at i).aF.at k)) (keyOf q))=none:=by
 rw [List.find?_eq_none]
 intro q hq
 rcases List.mem_append.1 hq with hq | hq
 ·obtain ⟨i',hi',hq⟩:=List.mem_flatMap.1 hq
  obtain ⟨k',_,rfl⟩:=List.mem_map.1 hq
  have:=h.names i' i (List.mem_range.1 hi') hi
  rw [de] at this
  simp [dV,keyOf,this]
 ·obtain ⟨k',hk',rfl⟩:=List.mem_map.1 hq
  have:=h.apart i hi k' k (List.mem_range.1 hk') hk
  unfold fY at this
  rw [de,de (a:=(((a.at i).aF).at k').bn)] at this
  simp only [dV,keyOf,Bool.and_true,this,Bool.and_false,Bool.false_eq_true,not_false_eq_true]
def vU (a:Rw aV):List oN:=bif aR (dX a) 0 then nu a a.n else []
theorem c83 (a:Rw aV) (ha:ga eQ a):ca 83 [S.t (T.rows 7 a.n fun i=>bk (a.get i))] (S.mt (gh (vU a))):=by
 have hn:=cF ha.1
 obtain ⟨y,hy,hK⟩:=aN (by kernel_rfl) (c24 a ha)
 cases ht:aR (dX a) 0 with
 | false=>
  refine W83 a 0 _ ?_
  have f:=iD (d:=999) (l:=[]) (K:=some (S.mt [])) (by decide)
  have f:bL 999 [] (some (S.mt []))=some (S.mt []):=f
  simp only [yl,hK,hy,ht,Bool.not_false,cond_true,f]
  unfold vU
  rw [ht]
  rfl
 | true=>
  have ok:=Li (cJ.1 ht)
  have inner:∀ i,i < a.n→∀ V,Ev (fun m=>(lH (aa O) a m).x0 ((i+1:Nat):Int) (gh (nu a (i+1)))) V→∀ r k,k+r=(a.at i).aF.n→Ev (fun m=>(lH (aa O) a m).x1 (a.at i).aF (ay (a.at i).aF.n) (a.at i) (k:Int) (gh (nu a i++cm (a.at i) k)) (i:Int)) V:=by
   intro i hi V hV r
   have hi2:i < 2 ^ 62:=by omega
   have h6:=ok.offers i hi
   have hl:=sg ok i (by omega)
   have M6:=ok.few
   induction r with
   | zero=>
    intro k hk
    obtain rfl:k=(a.at i).aF.n:=by omega
    refine Ev.by 1 (fun m=>?_) hV
    have len:(nu a i++cm (a.at i) (a.at i).aF.n).length+41≤900:=by simp [cm];omega
    rw [lH]
    generalize lH (aa O) a m=X
    simp only [Sx,J4,D2,aq,Nat.lt_irrefl,decide_false,cond_false,iD len,aA hi2,pJ]
   | succ r ih=>
    intro k hk
    have hk1:k < (a.at i).aF.n:=by omega
    refine Ev.by 1 (fun m=>?_) (ih (k+1) (by omega))
    have len:(nu a i++cm (a.at i) (k+1)).length+41≤900:=by simp [cm];omega
    have upd:=fun (K:List (S × S)→Option S)=>Su (K:=K) (aby ok hi hk1)
    rw [List.append_assoc,← kn] at upd
    have upd:∀ (K:List (S × S)→Option S),n_ O.P O.K 47 (gh (nu a i++cm (a.at i) k)) (S.agg [ss (a.at i).af,ss ((a.at i).aF.at k).bj,ss ((a.at i).aF.at k).bn]) (S.agg (ss (a.at i).af::ii (a.at i).a6::ii (a.at i).a8::ii (a.at i).cx::ii (a.at i).cv::S.t (T.rows 2 (a.at i).aS.n fun j=>dv ((a.at i).aS.get j))::S.t (T.rows 4 (a.at i).aF.n fun j=>cL ((a.at i).aF.get j))::List.map S.t (cL ((a.at i).aF.at k)))) K=K (gh (nu a i++cm (a.at i) (k+1))):=upd
    rw [lH]
    generalize lH (aa O) a m=X
    simp only [Sx,J4,Cr,aq,hk1,decide_true,cond_true,av hk1,aK,upd,iD len,aA (show k < 2 ^ 62 by omega)]
  have outer:∀ r i,i+r=a.n→Ev (fun m=>(lH (aa O) a m).x0 (i:Int) (gh (nu a i))) (S.mt (gh (nu a a.n))):=by
   intro r
   induction r with
   | zero=>
    intro i hi
    obtain rfl:i=a.n:=by omega
    have hl:=sg ok a.n (Nat.le_refl _)
    have M6:=ok.few
    refine Ev.one 1 fun m=>?_
    show (lH (aa O) a (m+1)).x0 (a.n:Int) (gh (nu a a.n))=_
    rw [lH]
    generalize lH (aa O) a m=X
    simp only [Sx,Jq,aq,Nat.lt_irrefl,decide_false,cond_false,iD (show (nu a a.n).length+41≤900 by omega),iD (show (nu a a.n).length+41≤999 by omega)]
   | succ r ih=>
    intro i hi
    have hi1:i < a.n:=by omega
    have hl:=sg ok i (by omega)
    have M6:=ok.few
    have:=inner i hi1 _ (ih (i+1) (by omega)) (a.at i).aF.n 0 (by omega)
    have e0:nu a i++cm (a.at i) 0=nu a i:=by simp [cm]
    rw [e0] at this
    refine Ev.by 1 (fun m=>?_) this
    rw [lH]
    generalize lH (aa O) a m=X
    simp only [Sx,Jq,Cr,aq,hi1,decide_true,cond_true,av hi1,aK,iD (show (nu a i).length+41≤900 by omega)]
    rfl
  obtain ⟨n,h⟩:=(outer a.n 0 (by omega)).get
  refine W83 a n _ ?_
  have f:=iD (d:=900) (l:=[]) (K:=(lH (aa O) a n).x0 0 []) (by decide)
  have f:bL 900 [] ((lH (aa O) a n).x0 0 [])=(lH (aa O) a n).x0 0 []:=f
  simp only [yl,hK,hy,ht,Bool.not_true,cond_false,D2,f]
  unfold vU
  rw [ht]
  exact h
def iF (a:Rw aV) (b:bu):Option oN:=(vU a).find? fun q=>dV b (keyOf q)
def q_ (a:Rw aV) (b:bu):Int × Int:=match iF a b with
 | some p=>(LX p.1.a6 p.1.a8 p.1.cx p.1.cv p.1.a6 p.1.cx,LX p.1.a6 p.1.a8 p.1.cx p.1.cv p.1.a8 p.1.cv)
 | none=>(0,0)
abbrev VP (a:Rw aV) (b:bu):S:=.bJ [.agg [ii (q_ a b).1,ii (q_ a b).2],bb (iF a b).isSome]
theorem zE (t:aV) (k d:Nat):∃ r,cm t (k+d)=cm t k++r:=by
 unfold cm
 rw [List.range_add,List.map_append]
 exact ⟨_,rfl⟩
theorem Vl (a:Rw aV) (i d:Nat):∃ r,nu a (i+d)=nu a i++r:=by
 unfold nu
 rw [List.range_add,List.flatMap_append]
 exact ⟨_,rfl⟩
theorem SI {a:Rw aV} {i k:Nat} (hi:i < a.n) (hk:k < (a.at i).aF.n):∃ r,nu a a.n=(nu a i++cm (a.at i) k)++(a.at i,(a.at i).aF.at k)::r:=by
 obtain ⟨r1,h1⟩:=Vl a (i+1) (a.n - (i+1))
 obtain ⟨r2,h2⟩:=zE (a.at i) (k+1) ((a.at i).aF.n - (k+1))
 rw [show i+1+(a.n - (i+1))=a.n by omega] at h1
 rw [show k+1+((a.at i).aF.n - (k+1))=(a.at i).aF.n by omega,kn] at h2
 rw [h1,pJ,h2]
 exact ⟨r2++r1,by simp⟩
def t_:Sh:=.bJ [.agg [.str 0,.int .i64 1,.int .i64 2,.int .i64 3,.int .i64 4,.rows 2 5,.rows 4 6],.agg [.str 7,.str 8,.int .i64 9,.bool 10],.bool 11]
def yQ (p:Option oN):Y:=match p with
 | some p=>⟨fun i=>match i with | 1=>p.1.a6 | 2=>p.1.a8 | 3=>p.1.cx | 4=>p.1.cv | _=>p.2.bG,fun i=>match i with | 10=>p.2.CB | _=>true,fun i=>match i with | 0=>p.1.af | 7=>p.2.bj | _=>p.2.bn,
   fun i=>match i with | 5=>⟨p.1.aS.n,fun i=>dv (p.1.aS.get i)⟩ | _=>⟨p.1.aF.n,fun i=>cL (p.1.aF.get i)⟩,fun _=>[]⟩
 | none=>⟨fun _=>0,fun _=>false,fun _=>bs [],fun _=>⟨0,fun i=>i.elim0⟩,fun _=>[]⟩
def qp (p:Option oN):S:=build (yQ p) t_
theorem X_ (sz:Nat) (g g':Fin 0→List T):T.rows sz 0 g=T.rows sz 0 g':=by rw [show g=g' from funext fun i=>i.elim0]
theorem ag9 (a:Rw aV) (b:bu) (ha:ga eQ a):ca 86 [S.t (T.rows 7 a.n fun i=>bk (a.get i)),ag (bS b)] (qp (iF a b)):=by
 have hn:=cF ha.1
 obtain ⟨y,hy,hK⟩:=aN (by kernel_rfl) (c33 a ha)
 have r_:∀ g2 g4,S.bJ [S.agg [ss (bs []),ii 0,ii 0,ii 0,ii 0,S.t (T.rows 2 0 g2),S.t (T.rows 4 0 g4)],S.agg [ss (bs []),ss (bs []),ii 0,bb false],bb false]=qp none:=fun g2 g4=>by
  rw [X_ 2 g2 (fun i=>i.elim0),X_ 4 g4 (fun i=>i.elim0)];rfl
 by_cases hz:dX a=0
 ·have e0:aR (dX a) 0=true:=by unfold aR;simpa using hz
  have hall:iF a b=(nu a a.n).find? fun q=>dV b (keyOf q):=by unfold iF vU;rw [e0];rfl
  have small:∀ i,i < a.n→(a.at i).aF.n < 2 ^ 62:=fun i hi=>by have:=(Li hz).offers i hi;omega
  have step:∀ i k,i < a.n→k < (a.at i).aF.n→∀ m,(jY (aa O) a b (m+2)).x1 (i:Int) (k:Int)=bif dV b (keyOf (a.at i,(a.at i).aF.at k)) then some (qp (some (a.at i,(a.at i).aF.at k))) else (jY (aa O) a b m).x1 (i:Int) ((k+1:Nat):Int):=fun i k hi hk m=>by
   have hs:=small i hi
   have hg:∀ h:(i:Int).toNat < a.n,a.get (Fin.mk (i:Int).toNat h)=a.at i:=fun h=>aK
   have hk':∀ h:(i:Int).toNat < a.n,k < (a.get (Fin.mk (i:Int).toNat h)).aF.n:=fun h=>by rw [hg];exact hk
   have h2:∀ v z,(jY (aa O) a b (m+1)).x2 v z (i:Int) (k:Int)=bif z && ah v.bn b.bn then some (S.bJ [ag (bk (a.at i)),ag (cL v),bb true]) else (jY (aa O) a b m).x1 (i:Int) ((k+1:Nat):Int):=fun v z=>by
    rw [jY]
    simp only [Mg,OM,Dm,av hi,hg,aA (show k < 2 ^ 62 by omega)]
    cases z with
    | false=>rfl
    | true=>cases ah v.bn b.bn<;>rfl
   rw [jY]
   generalize jY (aa O) a b (m+1)=X at h2 ⊢
   have hl:bm (k:Int) (ay (a.at i).aF.n)=true:=by rw [aq];simpa using hk
   simp only [Mg,Ll,RA,av hi,hl,cond_true,av (hk' _),aK,h2]
   have e:dV b (keyOf (a.at i,(a.at i).aF.at k))=(ah (a.at i).af b.fType && ah ((a.at i).aF.at k).bj b.bj && ah ((a.at i).aF.at k).bn b.bn):=by
    unfold dV keyOf
    rw [de (a:=b.fType),de (a:=b.bj),de (a:=b.bn)]
    cases ah (a.at i).af b.fType<;>cases ah ((a.at i).aF.at k).bj b.bj<;>cases ah ((a.at i).aF.at k).bn b.bn<;>rfl
   rw [e]
   cases ah (a.at i).af b.fType with
   | false=>rfl
   | true=>cases ah ((a.at i).aF.at k).bj b.bj<;>cases ah ((a.at i).aF.at k).bn b.bn<;>rfl
  have AQ:∀ i,i < a.n→∀ m,(jY (aa O) a b (m+1)).x1 (i:Int) (((a.at i).aF.n:Nat):Int)=(jY (aa O) a b m).x0 ((i+1:Nat):Int):=fun i hi m=>by
   have hg:∀ h:(i:Int).toNat < a.n,a.get (Fin.mk (i:Int).toNat h)=a.at i:=fun h=>aK
   have hl:bm (((a.at i).aF.n:Nat):Int) (ay (a.at i).aF.n)=false:=by rw [aq];simp
   rw [jY]
   simp only [Mg,Ll,BX,av hi,hg,hl,cond_false,aA (show i < 2 ^ 62 by omega)]
  have inner:∀ i,i < a.n→((nu a (i+1)).find? (fun q=>dV b (keyOf q))=none→Ev (fun m=>(jY (aa O) a b m).x0 ((i+1:Nat):Int)) (qp ((nu a a.n).find? fun q=>dV b (keyOf q))))→
    ∀ d k,k+d=(a.at i).aF.n→(nu a i++cm (a.at i) k).find? (fun q=>dV b (keyOf q))=none→Ev (fun m=>(jY (aa O) a b m).x1 (i:Int) (k:Int)) (qp ((nu a a.n).find? fun q=>dV b (keyOf q))):=by
   intro i hi nxt d
   induction d with
   | zero=>
    intro k hk hf
    obtain rfl:k=(a.at i).aF.n:=by omega
    refine Ev.succ ((nxt (by rw [pJ];exact hf)).of_eq fun m=>?_)
    exact AQ i hi m
   | succ d ih=>
    intro k hk hf
    have hk1:k < (a.at i).aF.n:=by omega
    cases he:dV b (keyOf (a.at i,(a.at i).aF.at k)) with
    | true=>
     obtain ⟨r,hr⟩:=SI hi hk1
     have:(nu a a.n).find? (fun q=>dV b (keyOf q))=some (a.at i,(a.at i).aF.at k):=by
      rw [hr,List.find?_append,hf]
      simp only [Option.none_or,List.find?_cons,he]
     rw [this]
     refine Ev.one 2 fun m=>?_
     rw [step i k hi hk1,he];rfl
    | false=>
     refine Ev.add 2 ((ih (k+1) (by omega) (by rw [kn,← List.append_assoc,List.find?_append,hf];simp [he])).of_eq fun m=>?_)
     show (jY (aa O) a b (m+2)).x1 (i:Int) (k:Int)=_
     rw [step i k hi hk1,he];rfl
  have outer:∀ d i,i+d=a.n→(nu a i).find? (fun q=>dV b (keyOf q))=none→Ev (fun m=>(jY (aa O) a b m).x0 (i:Int)) (qp ((nu a a.n).find? fun q=>dV b (keyOf q))):=by
   intro d
   induction d with
   | zero=>
    intro i hi hf
    obtain rfl:i=a.n:=by omega
    rw [hf]
    refine Ev.one 1 fun m=>?_
    rw [jY]
    simp only [Mg,Jm,aq,Nat.lt_irrefl,decide_false,cond_false]
    exact congrArg some (r_ _ _)
   | succ d ih=>
    intro i hi hf
    have hi1:i < a.n:=by omega
    refine Ev.succ ((inner i hi1 (fun h=>ih (i+1) (by omega) h) (a.at i).aF.n 0 (by omega) (by simpa [cm] using hf)).of_eq fun m=>?_)
    rw [jY]
    simp only [Mg,Jm,Dm,aq,hi1,decide_true,cond_true]
    rfl
  obtain ⟨n,h⟩:=(outer a.n 0 (by omega) rfl).get
  rw [hall]
  refine W86 a b n _ ?_
  show sP (aa O) a b (BX (jY (aa O) a b n))=_
  simp only [sP,hK,hy,e0,Bool.not_true,cond_false]
  exact h
 ·have e0:aR (dX a) 0=false:=by unfold aR;simpa using hz
  have:iF a b=none:=by unfold iF vU;rw [e0];rfl
  rw [this]
  refine W86 a b 0 _ ?_
  simp only [sP,hK,hy,e0,Bool.not_false,cond_true]
  exact congrArg some (r_ _ _)
theorem c86 (a:Rw aV) (b:bu) (ha:ga eQ a) (hb:qg b):∃ y:Y,y.i 1=((iF a b).map fun p=>p.1.a6).getD 0∧y.i 2=((iF a b).map fun p=>p.1.a8).getD 0∧y.i 3=((iF a b).map fun p=>p.1.cx).getD 0∧y.i 4=((iF a b).map fun p=>p.1.cv).getD 0∧y.b 11=(iF a b).isSome∧
  ∀ (ρ:Type) (K:Y→Option ρ),yC (aa O) 86 [S.t (T.rows 7 a.n fun i=>bk (a.get i)),ag (bS b)] K=K y:=by
 obtain ⟨y,h1,h2⟩:=iR (sh:=t_) (y0:=yQ (iF a b)) (by kernel_rfl) (ag9 a b ha)
 simp only [t_,build,gb,S.bJ.injEq,S.agg.injEq,List.cons.injEq,S.t.injEq,T.v.injEq,Value.int.injEq,Value.bool.injEq,true_and,and_true] at h1
 obtain ⟨⟨_,q1,q2,q3,q4,_⟩,_,q5⟩:=h1
 refine ⟨y,?_,?_,?_,?_,?_,h2⟩
 ·rw [q1];cases iF a b<;>rfl
 ·rw [q2];cases iF a b<;>rfl
 ·rw [q3];cases iF a b<;>rfl
 ·rw [q4];cases iF a b<;>rfl
 ·rw [q5];cases iF a b<;>rfl
theorem zh {f:FuncId} {args:List S} {x z e:Int} (hs:wh O.P f=some (.bJ [.agg [.int .i64 0,.int .i64 1],.int .i64 2])) (h:ca f args (S.bJ [S.agg [ii x,ii z],ii e])):∃ y:Y,y.i 0=x∧y.i 1=z∧y.i 2=e∧∀ (ρ:Type) (K:Y→Option ρ),yC (aa O) f args K=K y:=by
 obtain ⟨y,h1,h2⟩:=iR (y0:=⟨fun i=>match i with | 0=>x | 1=>z | _=>e,fun _=>false,fun _=>⟨#[]⟩,fun _=>⟨0,fun i=>i.elim0⟩,fun _=>[]⟩) hs h
 simp only [build,gb,S.bJ.injEq,S.agg.injEq,List.cons.injEq,S.t.injEq,T.v.injEq,Value.int.injEq,true_and,and_true] at h1
 exact ⟨y,h1.1.1,h1.1.2,h1.2,h2⟩
theorem AN {f:FuncId} {args:List S} {x z:Int} {b:Bool} (hs:wh O.P f=some (.bJ [.agg [.int .i64 0,.int .i64 1],.bool 2])) (h:ca f args (S.bJ [S.agg [ii x,ii z],bb b])):∃ y:Y,y.i 0=x∧y.i 1=z∧y.b 2=b∧∀ (ρ:Type) (K:Y→Option ρ),yC (aa O) f args K=K y:=by
 obtain ⟨y,h1,h2⟩:=iR (y0:=⟨fun i=>match i with | 0=>x | _=>z,fun _=>b,fun _=>⟨#[]⟩,fun _=>⟨0,fun i=>i.elim0⟩,fun _=>[]⟩) hs h
 simp only [build,gb,S.bJ.injEq,S.agg.injEq,List.cons.injEq,S.t.injEq,T.v.injEq,Value.int.injEq,Value.bool.injEq,true_and,and_true] at h1
 exact ⟨y,h1.1.1,h1.1.2,h1.2,h2⟩
def VE (p:oN):Y:=⟨fun i=>match i with | 1=>p.1.a6 | 2=>p.1.a8 | 3=>p.1.cx | 4=>p.1.cv | _=>p.2.bG,fun _=>p.2.CB,fun i=>match i with | 0=>p.1.af | 7=>p.2.bj | _=>p.2.bn,
 fun i=>match i with | 5=>⟨p.1.aS.n,fun i=>dv (p.1.aS.get i)⟩ | _=>⟨p.1.aF.n,fun i=>cL (p.1.aF.get i)⟩,fun _=>[]⟩
def uJ:Sh:=.agg [.str 0,.int .i64 1,.int .i64 2,.int .i64 3,.int .i64 4,.rows 2 5,.rows 4 6,.str 7,.str 8,.int .i64 9,.bool 10]
theorem Er:shV O.P 141 0=some (uJ,11):=by kernel_rfl
theorem L9 {ρ:Type} {l:List oN} {b:bu} {p:oN} (h:l.find? (fun q=>dV b (keyOf q))=some p):∃ y:Y,y.i 1=p.1.a6∧y.i 2=p.1.a8∧y.i 3=p.1.cx∧y.i 4=p.1.cv∧∀ (Kt:Y→Option ρ) (Kf:Option ρ),lookW O.P O.K 47 141 (gh l) (ag (bS b)) Kt Kf=Kt y:=by
 obtain ⟨k,hk⟩:=tH h 0
 obtain ⟨y,hy,he⟩:=nF (sh:=uJ) (y:=VE p)
 have hb:build (VE p) uJ=mF p:=rfl
 rw [hb] at hy he
 have he2:=he
 simp only [uJ,build,gb,mF,cL,List.map,S.agg.injEq,List.cons.injEq,S.t.injEq,T.v.injEq,Value.int.injEq,true_and,and_true] at he2
 refine ⟨y,he2.2.1,he2.2.2.1,he2.2.2.2.1,he2.2.2.2.2.1,fun Kt Kf=>?_⟩
 unfold lookW
 rw [Er,hk]
 dsimp only
 rw [hy]
 rfl
theorem MJ {ρ:Type} {l:List oN} {b:bu} (h:l.find? (fun q=>dV b (keyOf q))=none) (Kt:Y→Option ρ) (Kf:Option ρ):lookW O.P O.K 47 141 (gh l) (ag (bS b)) Kt Kf=Kf:=by
 unfold lookW
 rw [Er,ve h]
theorem c63 (a:Rw aV) (b:bu) (ha:ga eQ a):ca 63 [S.t (T.rows 7 a.n fun i=>bk (a.get i)),ag (bS b)] (VP a b):=by
 obtain ⟨y,hy,hK⟩:=tB (by kernel_rfl) (c83 a ha)
 refine W63 a b 0 _ ?_
 simp only [GF,hK,hy]
 unfold VP q_ iF
 cases h:(vU a).find? (fun q=>dV b (keyOf q)) with
 | none=>
  rw [MJ h]
  obtain ⟨z,hz,hz1,hz2,hL⟩:=zh (by kernel_rfl) (aeS 0 0 0 0)
  simp only [hL,hz,hz1]
  all_goals rfl
 | some p=>
  obtain ⟨x,h1,h2,h3,h4,hM⟩:=L9 (ρ:=S) h
  obtain ⟨z,hz,hz1,hz2,hL⟩:=zh (by kernel_rfl) (aeS p.1.a6 p.1.a8 p.1.cx p.1.cv)
  simp only [hM,h1,h2,h3,h4,hL,hz,hz1]
  all_goals rfl
theorem c78 (a:Rw aV) (b:bu) (ha:ga eQ a) (hb:qg b):ca 78 [S.t (T.rows 7 a.n fun i=>bk (a.get i)),ag (bS b)] (VP a b):=by
 obtain ⟨y,h1,h2,h3,h4,h5,hK⟩:=c86 a b ha hb
 refine W78 a b 0 _ ?_
 simp only [Fp,hK,h1,h2,h3,h4,h5]
 unfold VP q_
 cases h:iF a b with
 | none=>
  obtain ⟨z,hz,hz1,hz2,hL⟩:=zh (by kernel_rfl) (afR 0 0 0 0)
  simp only [Option.map_none,Option.getD_none,hL,hz,hz1]
  all_goals rfl
 | some p=>
  obtain ⟨z,hz,hz1,hz2,hL⟩:=zh (by kernel_rfl) (afR p.1.a6 p.1.a8 p.1.cx p.1.cv)
  simp only [Option.map_some,Option.getD_some,hL,hz,hz1]
  all_goals rfl
def hasB (a:Rw aV) (b:bu):Bool:=(iF a b).isSome
def eY (a:Rw aV) (l:Rw bu):Bool:=(List.range l.n).all fun j=>hasB a (l.at j)
theorem c119 (a:bu) (b:aP) (hb:ga eQ b.aw):ca 119 [ag (bS a),S.pt (bI b)] (bb !hasB b.aw a):=by
 obtain ⟨y,hy,hy1,hy2,hK⟩:=AN (by kernel_rfl) (c63 b.aw a hb)
 exact ajP a b 0 _ (by simp only [zg,hK,hy2];rfl)
theorem c157 (a:Rw bu) (b:aP) (ha:a.n < 2 ^ 62) (hb:ga eQ b.aw):ca 157 [S.t (T.rows 3 a.n fun i=>bS (a.get i)),S.fn (Go.Fn.func 119) [] [S.pt (bI b)]] (ii (idx a.n fun j=>!hasB b.aw (a.at j))):=by
 have key:=Ev.rW (X:=fun m j=>(wH (aa O) a b m).x0 (j:Int)) 1 a.n (fun j=>!hasB b.aw (a.at j)) (fun m j hj=>by
  have hj2:j < 2 ^ 62:=by omega
  obtain ⟨y,hy,hK⟩:=aB (by kernel_rfl) (c119 (a.at j) b hb)
  simp only [wH,SO,yZ,uC,aq,av hj,aK,hj,decide_true,cond_true,aA hj2,hK,hy]) (fun m=>by
  simp only [wH,SO,yZ,uC,aq,Nat.lt_irrefl,decide_false,cond_false];rfl)
 obtain ⟨n,h⟩:=key.get
 exact aiB a b n _ h
theorem ajx (a:Rw bu) (b:aP) (ha:a.n < 2 ^ 62) (hb:ga eQ b.aw):ca 118 [S.t (T.rows 3 a.n fun i=>bS (a.get i)),S.fn (Go.Fn.func 119) [] [S.pt (bI b)]] (bb ((List.range a.n).any fun j=>!hasB b.aw (a.at j))):=by
 obtain ⟨y,hy,hK⟩:=aN (by kernel_rfl) (c157 a b ha hb)
 exact akf a b 0 _ (by simp only [zV,hK,hy,je])
theorem c65 (a:aP) (b:Rw bu) (hb:b.n < 2 ^ 62) (ha:ga eQ a.aw):ca 65 [ag (bI a),S.t (T.rows 3 b.n fun i=>bS (b.get i))] (bb (eY a.aw b)):=by
 obtain ⟨y,hy,hK⟩:=aB (by kernel_rfl) (ajx b a hb ha)
 refine W65 a b 0 _ ?_
 simp only [GP,hK,hy,List.not_any_eq_all_not,Bool.not_not]
 rfl
theorem c77 (a:Rw aV) (b:Rw bu) (ha:ga eQ a) (hb:ga qg b):ca 77 [S.t (T.rows 7 a.n fun i=>bk (a.get i)),S.t (T.rows 3 b.n fun i=>bS (b.get i))] (bb (eY a b)):=by
 have hn:=cF hb.1
 have key:=Ev.tR (X:=fun m j=>(DC (aa O) a b m).x0 (j:Int)) b.n (fun j=>bif hasB a (b.at j) then none else some (bb false)) (bb true) (fun j hj=>by
  have hj2:j < 2 ^ 62:=by omega
  obtain ⟨y,hy,hy1,hy2,hK⟩:=AN (by kernel_rfl) (c78 a (b.at j) ha (hb.2 j hj))
  have hy2:y.b 2=hasB a (b.at j):=hy2
  have one:∀ m,(DC (aa O) a b (m+1)).x0 (j:Int)=bif hasB a (b.at j) then (DC (aa O) a b m).x0 ((j+1:Nat):Int) else some (bb false):=fun m=>by
   simp only [DC,ZH,Lx,Cz,aq,av hj,aK,hj,decide_true,cond_true,aA hj2,hK,hy2]
   cases hasB a (b.at j)<;>rfl
  cases h:hasB a (b.at j) with
  | true=>exact ⟨fun e he=>(by cases he),fun _ v hv=>Ev.by 1 (fun m=>by rw [one,h];rfl) hv⟩
  | false=>exact ⟨fun e he=>(by obtain rfl:=Option.some.inj he;exact Ev.one 1 fun m=>by rw [one,h];rfl),fun hn=>(by cases hn)⟩) (Ev.one 1 fun m=>by
  simp only [DC,ZH,Lx,Cz,aq,Nat.lt_irrefl,decide_false,cond_false])
 rw [ua (p:=fun j=>hasB a (b.at j)) (fun j=>rfl)] at key
 have e:(bif (List.range b.n).all (fun j=>hasB a (b.at j)) then bb true else bb false)=bb (eY a b):=by
  unfold eY
  cases (List.range b.n).all (fun j=>hasB a (b.at j))<;>rfl
 rw [e] at key
 obtain ⟨n,h⟩:=key.get
 exact W77 a b n _ h
def jJ (a:aP) (b:ByteArray):Bool:=(List.range a.aW.n).any fun j=>ah (a.aW.at j).af b
def j2 (a:aP) (b:ByteArray):Bool:=(List.range a.ae.n).any fun j=>ah (a.ae.at j).af b
theorem c156 (a:Rw fU) (b:ByteArray) (ha:a.n < 2 ^ 62):ca 156 [S.t (T.rows 10 a.n fun i=>jd (a.get i)),S.fn (Go.Fn.func 117) [] [S.pt [ts b]]] (ii (idx a.n fun j=>ah (a.at j).af b)):=by
 have key:=Ev.rW (X:=fun m j=>(wz (aa O) a b m).x0 (j:Int)) 1 a.n (fun j=>ah (a.at j).af b) (fun m j hj=>by
  have hj2:j < 2 ^ 62:=by omega
  obtain ⟨y,hy,hK⟩:=aB (x:=ah (a.at j).af b) (by kernel_rfl) (ahL (a.at j) b 0 _ rfl)
  simp only [wz,P4,z6,ux,aq,av hj,aK,hj,decide_true,cond_true,aA hj2,hK,hy]) (fun m=>by
  simp only [wz,P4,z6,ux,aq,Nat.lt_irrefl,decide_false,cond_false];rfl)
 obtain ⟨n,h⟩:=key.get
 exact aif a b n _ h
theorem c64 (a:aP) (b:ByteArray) (ha:a.aW.n < 2 ^ 62):ca 64 [ag (bI a),ss b] (bb (jJ a b)):=by
 obtain ⟨y,hy,hK⟩:=aN (by kernel_rfl) (c156 a.aW b ha)
 have h:ca 116 [S.t (T.rows 10 a.aW.n fun i=>jd (a.aW.get i)),S.fn (Go.Fn.func 117) [] [S.pt [ts b]]] (bb (jJ a b)):=ajb a.aW b 0 _ (by simp only [yr,hK,hy,je];rfl)
 obtain ⟨z,hz,hL⟩:=aB (by kernel_rfl) h
 exact W64 a b 0 _ (by simp only [Fx,hL,hz])
theorem c160 (a:Rw cQ) (b:ByteArray) (ha:a.n < 2 ^ 62):ca 160 [S.t (T.rows 15 a.n fun i=>dp (a.get i)),S.fn (Go.Fn.func 124) [] [S.pt [ts b]]] (ii (idx a.n fun j=>ah (a.at j).af b)):=by
 have key:=Ev.rW (X:=fun m j=>(wN (aa O) a b m).x0 (j:Int)) 1 a.n (fun j=>ah (a.at j).af b) (fun m j hj=>by
  have hj2:j < 2 ^ 62:=by omega
  obtain ⟨y,hy,hK⟩:=aB (x:=ah (a.at j).af b) (by kernel_rfl) (aij (a.at j) b 0 _ rfl)
  simp only [wN,Nj,AI,uI,aq,av hj,aK,hj,decide_true,cond_true,aA hj2,hK,hy]) (fun m=>by
  simp only [wN,Nj,AI,uI,aq,Nat.lt_irrefl,decide_false,cond_false];rfl)
 obtain ⟨n,h⟩:=key.get
 exact ajL a b n _ h
theorem c67 (a:aP) (b:ByteArray) (ha:a.ae.n < 2 ^ 62):ca 67 [ag (bI a),ss b] (bb (j2 a b)):=by
 obtain ⟨y,hy,hK⟩:=aN (by kernel_rfl) (c160 a.ae b ha)
 have h:ca 123 [S.t (T.rows 15 a.ae.n fun i=>dp (a.ae.get i)),S.fn (Go.Fn.func 124) [] [S.pt [ts b]]] (bb (j2 a b)):=aiz a.ae b 0 _ (by simp only [zF,hK,hy,je];rfl)
 obtain ⟨z,hz,hL⟩:=aB (by kernel_rfl) h
 exact W67 a b 0 _ (by simp only [Fk,hL,hz])
end
end Go.Proofs.YtonkoellfaopiaaGreatDoor.H
