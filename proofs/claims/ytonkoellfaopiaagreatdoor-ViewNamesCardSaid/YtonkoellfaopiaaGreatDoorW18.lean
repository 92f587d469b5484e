import Derived.Test.YtonkoellfaopiaaGreatDoorW17
set_option linter.unusedSimpArgs false
set_option linter.unusedVariables false
namespace Go.Proofs.YtonkoellfaopiaaGreatDoor.H
open Go
noncomputable section
structure sm52 (a:D52):Prop where
 name:sm (sizeN a.fName)
 pool:sm (sizeN a.fPool)
 type:sm (sizeN a.fOffer_Type)
 zone:sm (sizeN a.fOffer_Zone)
 kind:sm (sizeN a.fOffer_Kind)
 opts:smR sm47 a.fOpts
def claimN (a:D52):Bool:=nameB a.fName && (nameB a.fPool && (nameB a.fOffer_Type && (nameB a.fOffer_Zone && nameB a.fOffer_Kind)))
def claimB (a:D52):Bool:=within a.fPhase 1 4 && (within a.fGen 0 1099511627776 && within a.fBorn 0 1099511627776)
def claimV (a:D52):Int:=orE (wantE (claimN a) 7) (orE (chk a.fPrice) (orE (chk2 a.fCap_0 a.fCap_1) (orE (offersV a.fOpts) (orE (wantE (within a.fTry 1 32) 1) (orE (wantE (leI (sizeS a.fId) 16) 2) (wantE (claimB a) 1))))))
theorem c62 (a:D52) (ha:sm52 a):Ret 62 [ag (e52 a)] (ii (claimV a)):=by
 obtain ⟨g,hg,hG⟩:=yC_bool (by kernel_rfl) (c112 a.fGen 0 1099511627776)
 obtain ⟨b,hb,hB⟩:=yC_bool (by kernel_rfl) (c112 a.fBorn 0 1099511627776)
 have h3:∀ m v0 v1 v2 v3 v4 v5 b,(X62n (regs O) a (m+1)).x3 v0 v1 v2 v3 v4 v5 b=some (ii (firstL [v2,v4,v0,v5,v1,v3,wantE b 1])):=fun m v0 v1 v2 v3 v4 v5 b=>by
  obtain ⟨y,hy,hK⟩:=retW b 1
  obtain ⟨z,hz,hL⟩:=retF [v2,v4,v0,v5,v1,v3,wantE b 1] (show (7:Nat) < 2 ^ 62 by decide)
  have hL:∀ (ρ:Type) (K:Y→Option ρ),yC (regs O) 107 [S.t (T.rows 1 7 fun i=>List.take 1 (List.drop (i.1*1) [ti v2,ti v4,ti v0,ti v5,ti v1,ti v3,ti (wantE b 1)]))] K=K z:=hL
  rw [X62n]
  generalize X62n (regs O) a m=X
  simp only [X62s,b62_3,hK,hy,hL,hz]
 have h2:∀ m v0 v1 v2 v3 v4 v5 b,(X62n (regs O) a (m+2)).x2 v0 v1 v2 v3 v4 v5 b=some (ii (firstL [v2,v4,v0,v5,v1,v3,wantE (b && within a.fBorn 0 1099511627776) 1])):=fun m v0 v1 v2 v3 v4 v5 c=>by
  have:=h3 m
  rw [X62n]
  generalize X62n (regs O) a (m+1)=X at this ⊢
  simp only [X62s,b62_2,D62_3,hB,hb,this]
  cases c<;>rfl
 have h1:∀ m v0 v1 v2 v3 v4 v5 b,(X62n (regs O) a (m+3)).x1 v0 v1 v2 v3 v4 v5 b=some (ii (firstL [v2,v4,v0,v5,v1,v3,wantE (b && (within a.fGen 0 1099511627776 && within a.fBorn 0 1099511627776)) 1])):=fun m v0 v1 v2 v3 v4 v5 c=>by
  have:=h2 m
  rw [X62n]
  generalize X62n (regs O) a (m+2)=X at this ⊢
  simp only [X62s,b62_1,D62_2,hG,hg,this]
  cases c<;>rfl
 have h0:∀ m v0 v1 v2 v3 b,(X62n (regs O) a (m+4)).x0 v0 v1 v2 v3 b=some (ii (firstL [v1,v2,v0,v3,wantE b 1,wantE (leI (sizeS a.fId) 16) 2,wantE (claimB a) 1])):=fun m v0 v1 v2 v3 c=>by
  obtain ⟨y,hy,hK⟩:=retW c 1
  obtain ⟨z,hz,hL⟩:=retW (leI (sizeS a.fId) 16) 2
  have:=h1 m
  rw [X62n]
  generalize X62n (regs O) a (m+3)=X at this ⊢
  simp only [X62s,b62_0,D62_1,hK,hy,hL,hz,this]
  unfold claimB within
  cases geI a.fPhase 1<;>rfl
 obtain ⟨y,hy,hK⟩:=retN [a.fName,a.fPool,a.fOffer_Type,a.fOffer_Zone,a.fOffer_Kind] (show (5:Nat) < 2 ^ 62 by decide) (fun x hx=>by
  simp only [List.mem_cons,List.not_mem_nil,or_false] at hx
  rcases hx with rfl | rfl | rfl | rfl | rfl
  ·exact ha.name
  ·exact ha.pool
  ·exact ha.type
  ·exact ha.zone
  ·exact ha.kind)
 have hK:∀ (ρ:Type) (K:Y→Option ρ),yC (regs O) 109 [S.t (T.rows 1 5 fun i=>List.take 1 (List.drop (i.1*1) [ts a.fName,ts a.fPool,ts a.fOffer_Type,ts a.fOffer_Zone,ts a.fOffer_Kind]))] K=K y:=hK
 have hy:y.b 0=claimN a:=by rw [hy];simp only [List.all_cons,List.all_nil,Bool.and_true];rfl
 obtain ⟨z,hz,hL⟩:=retW (claimN a) 7
 obtain ⟨x,hx,hM⟩:=yC_int (by kernel_rfl) (c113 a.fPrice)
 obtain ⟨w,hw,hN⟩:=yC_int (by kernel_rfl) (c102 a.fCap_0 a.fCap_1)
 obtain ⟨u,hu,hP⟩:=yC_int (by kernel_rfl) (c114 a.fOpts ha.opts)
 refine W62 a 4 _ ?_
 have e:e62_in (regs O) a (D62_0 (X62n (regs O) a 4))=(X62n (regs O) a 4).x0 (chk2 a.fCap_0 a.fCap_1) (wantE (claimN a) 7) (chk a.fPrice) (offersV a.fOpts) (within a.fTry 1 32):=by
  simp only [e62_in,hK,hy,hL,hz,hM,hx,hN,hw,hP,hu,D62_0]
  unfold within
  cases geI a.fTry 1<;>rfl
 rw [e,h0 0]
 simp only [firstL_cons,firstL_one]
 rfl
theorem c75 (a:D52) (ha:sm52 a):Ret 75 [ag (e52 a)] (ii (claimV a)):=by
 obtain ⟨y,hy,hK⟩:=yC_bool (by kernel_rfl) (c71 a.fName ha.name)
 obtain ⟨y1,hy1,hK1⟩:=yC_bool (by kernel_rfl) (c71 a.fPool ha.pool)
 obtain ⟨y2,hy2,hK2⟩:=yC_bool (by kernel_rfl) (c130 a.fOffer_Type a.fOffer_Zone a.fOffer_Kind ha.type ha.zone ha.kind)
 obtain ⟨y3,hy3,hK3⟩:=yC_int (by kernel_rfl) (c91 a.fPrice)
 obtain ⟨y4,hy4,hK4⟩:=yC_int (by kernel_rfl) (c49 a.fCap_0 a.fCap_1)
 obtain ⟨y5,hy5,hK5⟩:=yC_int (by kernel_rfl) (c131 a.fOpts ha.opts)
 obtain ⟨g,hg,hG⟩:=yC_bool (by kernel_rfl) (c74 a.fGen 0 1099511627776)
 obtain ⟨b,hb,hB⟩:=yC_bool (by kernel_rfl) (c74 a.fBorn 0 1099511627776)
 have h2:∀ m c,(X75n (regs O) a (m+1)).x2 c=some (ii (wantE (!c && within a.fBorn 0 1099511627776) 1)):=fun m c=>by
  rw [X75n]
  generalize X75n (regs O) a m=X
  simp only [X75s,b75_2,hB,hb]
  cases c<;>cases within a.fBorn 0 1099511627776<;>rfl
 have h1:∀ m c,(X75n (regs O) a (m+2)).x1 c=some (ii (wantE (!c && (within a.fGen 0 1099511627776 && within a.fBorn 0 1099511627776)) 1)):=fun m c=>by
  have:=h2 m
  rw [X75n]
  generalize X75n (regs O) a (m+1)=X at this ⊢
  simp only [X75s,b75_1,D75_2,hG,hg,this]
  cases c<;>cases within a.fGen 0 1099511627776<;>rfl
 have h0:∀ m c,(X75n (regs O) a (m+3)).x0 c=some (ii (orE (wantE (!c && (nameB a.fOffer_Type && (nameB a.fOffer_Zone && nameB a.fOffer_Kind))) 7) (orE (chk a.fPrice) (orE (chk2 a.fCap_0 a.fCap_1) (orE (offersV a.fOpts) (orE (wantE (within a.fTry 1 32) 1) (orE (wantE (leI (sizeS a.fId) 16) 2) (wantE (claimB a) 1)))))))):=fun m c=>by
  have:=h1 m
  rw [X75n]
  generalize X75n (regs O) a (m+2)=X at this ⊢
  simp only [X75s,b75_0,D75_1,hK2,hK3,hK4,hK5,hy2,hy3,hy4,hy5,this]
  simp only [ltI_ge,gtI_leI]
  have e:(bif !geI a.fPhase 1 then some (ii (wantE (!true && (within a.fGen 0 1099511627776 && within a.fBorn 0 1099511627776)) 1)) else some (ii (wantE (!(!leI a.fPhase 4) && (within a.fGen 0 1099511627776 && within a.fBorn 0 1099511627776)) 1)))=some (ii (wantE (claimB a) 1)):=by
   unfold claimB
   generalize (within a.fGen 0 1099511627776 && within a.fBorn 0 1099511627776)=w
   unfold within
   cases geI a.fPhase 1<;>cases leI a.fPhase 4<;>rfl
  simp only [e,or_some,want_some (e:=7) rfl,want_some (e:=1) rfl,want_some (e:=2) rfl,want_and (e:=1) rfl]
  cases c<;>rfl
 refine W75 a 3 _ ?_
 have e0:=h0 0
 simp only [Nat.zero_add] at e0
 simp only [e75_in,hK,hK1,hy,hy1,D75_0,e0]
 unfold claimV claimN
 generalize (nameB a.fOffer_Type && (nameB a.fOffer_Zone && nameB a.fOffer_Kind))=w
 cases nameB a.fName<;>cases nameB a.fPool<;>rfl
def firstFrom (g:Nat→Int):Nat→Nat→Int
 | _,0=>0
 | j,k+1=>orE (g j) (firstFrom g (j+1) k)
theorem firstFrom_eq (g:Nat→Int) (n:Nat):firstFrom g 0 n=firstE n g:=by
 have:∀ k j,firstFrom g j k=((List.range' j k).findSome? fun j=>bif !(eqI (g j) 0) then some (g j) else none).getD 0:=by
  intro k
  induction k with
  | zero=>intro j;rfl
  | succ k ih=>
   intro j
   unfold firstFrom
   simp only [List.range'_succ,List.findSome?_cons]
   unfold orE
   cases eqI (g j) 0 with
   | false=>rfl
   | true=>exact ih (j+1)
 rw [this,← List.range_eq_range']
 rfl
theorem orE_assoc (a b c:Int):orE (orE a b) c=orE a (orE b c):=by
 unfold orE
 cases h1:eqI a 0<;>simp [h1]
theorem subI_nat {j:Nat} (h:0 < j) (h2:j < 2 ^ 62):subI .i64 (j:Int) 1=((j - 1:Nat):Int):=by
 unfold subI
 rw [i64_in (by omega)]
 omega
structure sm122 (a:D122):Prop where
 nodes:smR (fun x:ByteArray=>sm (sizeN x)) a.fNodes
 fresh:sm (sizeN a.fFresh)
 pool:sm (sizeN a.fPool)
 opts:smR sm47 a.fOpts
def nodesV (a:Rw ByteArray) (j:Nat):Int:=orE (wantE (nameB (a.at j)) 7) (wantE (decide (j=0) || strLt (a.at (j - 1)) (a.at j)) 6)
def cmdB (a:D122):Bool:=within a.fCause 1 4 && within a.fStep 1 3
def cmdEnd (a:D122):Int:=orE (wantE (within a.fUntil 0 1099511627776) 1) (orE (wantE (noneB a.fFresh && noneB a.fPool) 7) (offersV a.fOpts))
def cmdV (a:D122):Int:=orE (wantE (cmdB a) 1) (orE (wantE (decide (a.fNodes.n≤4)) 3) (orE (wantE (decide (0 < a.fNodes.n)) 1) (orE (firstE a.fNodes.n (nodesV a.fNodes)) (cmdEnd a))))
theorem leI_ofN {n k:Nat}:leI (ofN n) (k:Int)=decide (n≤k):=by unfold leI ofN;simp
theorem gtI_ofN0 {n:Nat}:gtI (ofN n) 0=decide (0 < n):=by unfold gtI ofN;simp
theorem eqI_ofN0 {n:Nat}:eqI (ofN n) 0=decide (n=0):=by unfold eqI ofN;simp
theorem c68 (a:D122) (ha:sm122 a):Ret 68 [ag (e122 a)] (ii (cmdV a)):=by
 have hn:=sm_lt ha.nodes.1
 obtain ⟨y1,hy1,hK1⟩:=yC_bool (by kernel_rfl) (c112 a.fUntil 0 1099511627776)
 obtain ⟨y2,hy2,hK2⟩:=retW (within a.fUntil 0 1099511627776) 1
 obtain ⟨y3,hy3,hK3⟩:=yC_bool (by kernel_rfl) (c122 a.fFresh ha.fresh)
 obtain ⟨y4,hy4,hK4⟩:=yC_bool (by kernel_rfl) (c122 a.fPool ha.pool)
 obtain ⟨y5,hy5,hK5⟩:=yC_int (by kernel_rfl) (c114 a.fOpts ha.opts)
 have h4:∀ m v0 v1 b,(X68n (regs O) a (m+1)).x4 v0 v1 b=some (ii (firstL [v1,v0,wantE b 7,offersV a.fOpts])):=fun m v0 v1 b=>by
  obtain ⟨y,hy,hK⟩:=retW b 7
  obtain ⟨z,hz,hL⟩:=retF [v1,v0,wantE b 7,offersV a.fOpts] (show (4:Nat) < 2 ^ 62 by decide)
  have hL:∀ (ρ:Type) (K:Y→Option ρ),yC (regs O) 107 [S.t (T.rows 1 4 fun i=>List.take 1 (List.drop (i.1*1) [ti v1,ti v0,ti (wantE b 7),ti (offersV a.fOpts)]))] K=K z:=hL
  rw [X68n]
  generalize X68n (regs O) a m=X
  simp only [X68s,b68_4,hK,hK5,hy,hy5,hL,hz]
 have loop:∀ k j,j+k=a.fNodes.n→∀ e,Ev (fun m=>(X68n (regs O) a m).x3 e (j:Int)) (ii (orE e (orE (firstFrom (nodesV a.fNodes) j k) (cmdEnd a)))):=by
  intro k
  induction k with
  | zero=>
   intro j hj e
   obtain rfl:j=a.fNodes.n:=by omega
   refine Ev.one 2 fun m=>?_
   have:=h4 m
   show (X68n (regs O) a (m+2)).x3 e (a.fNodes.n:Int)=_
   rw [X68n]
   generalize X68n (regs O) a (m+1)=X at this ⊢
   simp only [X68s,b68_3,D68_4,ltI_nat,Nat.lt_irrefl,decide_false,cond_false,hK1,hK2,hK3,hK4,hy1,hy2,hy3,hy4,this,firstL_cons,firstL_one]
   unfold cmdEnd firstFrom
   cases noneB a.fFresh<;>rfl
  | succ k ih=>
   intro j hj e
   have hj1:j < a.fNodes.n:=by omega
   have hj2:j < 2 ^ 62:=by omega
   cases he:eqI e 0 with
   | false=>
    refine (Ev.one 1 fun m=>?_:Ev _ (ii e)).to (by unfold orE;rw [he];rfl)
    show (X68n (regs O) a (m+1)).x3 e (j:Int)=_
    rw [X68n]
    generalize X68n (regs O) a m=X
    simp only [X68s,b68_3,ltI_nat,elemO_nat hj1,hj1,decide_true,cond_true,he,Bool.not_false]
   | true=>
    obtain ⟨z,hz,hL⟩:=ret1 (ha.nodes.2 j hj1)
    obtain ⟨x,hx,hM⟩:=retW (nameB (a.fNodes.at j)) 7
    obtain ⟨w,hw,hN⟩:=retW (decide (j=0) || strLt (a.fNodes.at (j - 1)) (a.fNodes.at j)) 6
    obtain ⟨u,hu,hP⟩:=retF2 (wantE (nameB (a.fNodes.at j)) 7) (wantE (decide (j=0) || strLt (a.fNodes.at (j - 1)) (a.fNodes.at j)) 6)
    have step:∀ m,(X68n (regs O) a (m+2)).x3 e (j:Int)=(X68n (regs O) a m).x3 (nodesV a.fNodes j) ((j+1:Nat):Int):=fun m=>by
     have h5:∀ m b,b=(decide (j=0) || strLt (a.fNodes.at (j - 1)) (a.fNodes.at j))→(X68n (regs O) a (m+1)).x5 (wantE (nameB (a.fNodes.at j)) 7) (j:Int) b=(X68n (regs O) a m).x3 (nodesV a.fNodes j) ((j+1:Nat):Int):=fun m b hb=>by
      subst hb
      rw [X68n]
      generalize X68n (regs O) a m=X
      simp only [X68s,b68_5,D68_3,hN,hw,hP,hu,addI_nat1 hj2]
      rfl
     have:=h5 m
     rw [X68n]
     generalize X68n (regs O) a (m+1)=X at this ⊢
     simp only [X68s,b68_3,D68_5,ltI_nat,elemO_nat hj1,hj1,decide_true,cond_true,he,Bool.not_true,cond_false,get_nat,hL,hz,hM,hx,eqI_nat0]
     by_cases h0:j=0
     ·simp only [h0,decide_true,cond_true]
      rw [h0] at this
      exact this true rfl
     ·simp only [h0,decide_false,cond_false]
      have hs:=subI_nat (show 0 < j by omega) hj2
      have hlt:j - 1 < a.fNodes.n:=by omega
      rw [hs,elemO_nat hlt]
      simp only [get_nat]
      exact this _ (by simp [h0])
    refine (Ev.by 2 step (ih (j+1) (by omega) (nodesV a.fNodes j))).to ?_
    rw [eqI_true.1 he]
    refine congrArg ii ?_
    show orE (nodesV a.fNodes j) (orE (firstFrom (nodesV a.fNodes) (j+1) k) (cmdEnd a))=orE (orE (nodesV a.fNodes j) (firstFrom (nodesV a.fNodes) (j+1) k)) (cmdEnd a)
    rw [orE_assoc]
 have h3:=loop a.fNodes.n 0 (by omega)
 simp only [firstFrom_eq] at h3
 have h2:∀ b,Ev (fun m=>(X68n (regs O) a m).x2 b) (ii (orE (wantE b 1) (orE (wantE (decide (a.fNodes.n≤4)) 3) (orE (wantE (decide (0 < a.fNodes.n)) 1) (orE (firstE a.fNodes.n (nodesV a.fNodes)) (cmdEnd a)))))):=fun b=>by
  obtain ⟨y,hy,hK⟩:=retW b 1
  obtain ⟨z,hz,hL⟩:=retW (decide (a.fNodes.n≤4)) 3
  obtain ⟨x,hx,hM⟩:=retW (decide (0 < a.fNodes.n)) 1
  obtain ⟨w,hw,hN⟩:=retF [wantE b 1,wantE (decide (a.fNodes.n≤4)) 3,wantE (decide (0 < a.fNodes.n)) 1] (show (3:Nat) < 2 ^ 62 by decide)
  have hN:∀ (ρ:Type) (K:Y→Option ρ),yC (regs O) 107 [S.t (T.rows 1 3 fun i=>List.take 1 (List.drop (i.1*1) [ti (wantE b 1),ti (wantE (decide (a.fNodes.n≤4)) 3),ti (wantE (decide (0 < a.fNodes.n)) 1)]))] K=K w:=hN
  have l4:leI (ofN a.fNodes.n) 4=decide (a.fNodes.n≤4):=leI_ofN (k:=4)
  refine (Ev.by 1 (fun m=>?_) (h3 (firstL [wantE b 1,wantE (decide (a.fNodes.n≤4)) 3,wantE (decide (0 < a.fNodes.n)) 1]))).to ?_
  ·rw [X68n]
   generalize X68n (regs O) a m=X
   simp only [X68s,b68_2,D68_3,hK,hy,l4,gtI_ofN0,hL,hz,hM,hx,hN,hw]
   rfl
  ·simp only [firstL_cons,firstL_one,orE_assoc]
 have h1:∀ b,Ev (fun m=>(X68n (regs O) a m).x1 b) (ii (orE (wantE (b && leI a.fStep 3) 1) (orE (wantE (decide (a.fNodes.n≤4)) 3) (orE (wantE (decide (0 < a.fNodes.n)) 1) (orE (firstE a.fNodes.n (nodesV a.fNodes)) (cmdEnd a)))))):=fun b=>
  Ev.by 1 (fun m=>by
   rw [X68n]
   generalize X68n (regs O) a m=X
   cases b<;>rfl) (h2 (b && leI a.fStep 3))
 have h0:∀ b,Ev (fun m=>(X68n (regs O) a m).x0 b) (ii (orE (wantE ((b && geI a.fStep 1) && leI a.fStep 3) 1) (orE (wantE (decide (a.fNodes.n≤4)) 3) (orE (wantE (decide (0 < a.fNodes.n)) 1) (orE (firstE a.fNodes.n (nodesV a.fNodes)) (cmdEnd a)))))):=fun b=>
  Ev.by 1 (fun m=>by
   rw [X68n]
   generalize X68n (regs O) a m=X
   cases b<;>rfl) (h1 (b && geI a.fStep 1))
 obtain ⟨n,h⟩:=(h0 (within a.fCause 1 4)).get
 refine W68 a n _ ?_
 have e:e68_in (regs O) a (D68_0 (X68n (regs O) a n))=(X68n (regs O) a n).x0 (within a.fCause 1 4):=by
  generalize X68n (regs O) a n=X
  unfold e68_in within
  cases geI a.fCause 1<;>rfl
 rw [e,h]
 unfold cmdV cmdB
 rw [Bool.and_assoc]
 rfl
theorem c81 (a:D122) (ha:sm122 a):Ret 81 [ag (e122 a)] (ii (cmdV a)):=by
 have hn:=sm_lt ha.nodes.1
 obtain ⟨y1,hy1,hK1⟩:=yC_bool (by kernel_rfl) (c74 a.fUntil 0 1099511627776)
 obtain ⟨y3,hy3,hK3⟩:=yC_bool (by kernel_rfl) (c71 a.fFresh ha.fresh)
 obtain ⟨y4,hy4,hK4⟩:=yC_bool (by kernel_rfl) (c71 a.fPool ha.pool)
 obtain ⟨y5,hy5,hK5⟩:=yC_int (by kernel_rfl) (c131 a.fOpts ha.opts)
 have h3:∀ m b,(X81n (regs O) a (m+1)).x3 b=some (ii (orE (wantE (!b && noneB a.fPool) 7) (offersV a.fOpts))):=fun m b=>by
  rw [X81n]
  generalize X81n (regs O) a m=X
  simp only [X81s,b81_3,hK4,hK5,hy4,hy5,strEq_empty]
  unfold noneB
  cases b<;>cases decide (sizeN a.fPool=0)<;>cases nameB a.fPool<;>rfl
 have h2:Ev (fun m=>(X81n (regs O) a m).x2 0) (ii (orE (firstE a.fNodes.n (nodesV a.fNodes)) (cmdEnd a))):=
  Ev.errsKC (X:=fun m j=>(X81n (regs O) a m).x2 (j:Int)) 1 a.fNodes.n (nodesV a.fNodes) (cmdEnd a) (fun m j hj=>by
   have hj2:j < 2 ^ 62:=by omega
   obtain ⟨z,hz,hL⟩:=yC_bool (by kernel_rfl) (c71 (a.fNodes.at j) (ha.nodes.2 j hj))
   show (X81n (regs O) a (m+1)).x2 (j:Int)=_
   rw [X81n]
   generalize X81n (regs O) a m=X
   have g0:gtI (j:Int) 0=!decide (j=0):=by unfold gtI;by_cases h:j=0<;>simp [h]<;>omega
   simp only [X81s,b81_2,D81_2,ltI_nat,elemO_nat hj,hj,decide_true,cond_true,get_nat,hL,hz,addI_nat1 hj2,g0]
   unfold nodesV
   by_cases h0:j=0
   ·simp only [h0,decide_true,Bool.not_true,cond_false,Bool.true_or]
    unfold wantE orE
    cases nameB (a.fNodes.at 0)<;>rfl
   ·have hs:=subI_nat (show 0 < j by omega) hj2
    have hlt:j - 1 < a.fNodes.n:=by omega
    simp only [h0,decide_false,Bool.not_false,cond_true,Bool.false_or]
    rw [hs,elemO_nat hlt]
    simp only [get_nat]
    unfold wantE orE
    cases nameB (a.fNodes.at j)<;>cases strLt (a.fNodes.at (j - 1)) (a.fNodes.at j)<;>rfl) (Ev.one 2 fun m=>by
   have:=h3 m
   show (X81n (regs O) a (m+2)).x2 (a.fNodes.n:Int)=_
   rw [X81n]
   generalize X81n (regs O) a (m+1)=X at this ⊢
   simp only [X81s,b81_2,D81_3,ltI_nat,Nat.lt_irrefl,decide_false,cond_false,hK1,hK3,hy1,hy3,strEq_empty,this]
   unfold cmdEnd
   generalize offersV a.fOpts=w
   generalize hp:noneB a.fPool=p
   unfold noneB wantE orE
   cases within a.fUntil 0 1099511627776<;>cases decide (sizeN a.fFresh=0)<;>cases nameB a.fFresh<;>rfl)
 obtain ⟨n,h⟩:=h2.get
 have g4:gtI (ofN a.fNodes.n) 4=!decide (a.fNodes.n≤4):=by
  rw [show gtI (ofN a.fNodes.n) 4=decide (4 < a.fNodes.n) from gtI_ofN (k:=4)]
  by_cases h:a.fNodes.n≤4<;>simp [h]<;>omega
 have z0:eqI (ofN a.fNodes.n) 0=!decide (0 < a.fNodes.n):=by
  rw [eqI_ofN0]
  by_cases h:a.fNodes.n=0<;>simp [h]<;>omega
 have h1:∀ b,(X81n (regs O) a (n+1)).x1 b=some (ii (orE (wantE (!b && leI a.fStep 3) 1) (orE (wantE (decide (a.fNodes.n≤4)) 3) (orE (wantE (decide (0 < a.fNodes.n)) 1) (orE (firstE a.fNodes.n (nodesV a.fNodes)) (cmdEnd a)))))):=fun b=>by
  rw [X81n]
  generalize X81n (regs O) a n=X at h
  simp only [X81s,b81_1,D81_2,h,g4,z0,gtI_leI,want_some (e:=1) rfl,want_some (e:=3) rfl]
  cases b<;>rfl
 have h0:∀ b,(X81n (regs O) a (n+2)).x0 b=some (ii (orE (wantE (!b && (geI a.fStep 1 && leI a.fStep 3)) 1) (orE (wantE (decide (a.fNodes.n≤4)) 3) (orE (wantE (decide (0 < a.fNodes.n)) 1) (orE (firstE a.fNodes.n (nodesV a.fNodes)) (cmdEnd a)))))):=fun b=>by
  rw [X81n]
  generalize X81n (regs O) a (n+1)=X at h1
  cases b with
  | true=>exact h1 _
  | false=>
   refine (h1 (ltI a.fStep 1)).trans ?_
   rw [ltI_ge,Bool.not_not]
   rfl
 refine W81 a (n+2) _ ?_
 have e:e81_in (regs O) a (D81_0 (X81n (regs O) a (n+2)))=(X81n (regs O) a (n+2)).x0 (!within a.fCause 1 4):=by
  generalize X81n (regs O) a (n+2)=X
  unfold e81_in within
  rw [ltI_ge,gtI_leI]
  cases geI a.fCause 1<;>rfl
 rw [e,h0,Bool.not_not]
 rfl
theorem c182 (a:Rw ByteArray) (b:ByteArray) (ha:a.n < 2 ^ 62):Ret 182 [S.t (T.rows 1 a.n fun i=>[ts (a.get i)]),ss b] (ii (idx a.n fun j=>strEq b (a.at j))):=by
 have key:=Ev.idxC (X:=fun m j=>(X182n (regs O) a b m).x0 (j:Int)) 1 a.n (fun j=>strEq b (a.at j)) (fun m j hj=>by
  have hj2:j < 2 ^ 62:=by omega
  simp only [X182n,X182s,b182_0,D182_0,ltI_nat,elemO_nat hj,get_nat,hj,decide_true,cond_true,addI_nat1 hj2]) (fun m=>by
  simp only [X182n,X182s,b182_0,D182_0,ltI_nat,Nat.lt_irrefl,decide_false,cond_false];rfl)
 obtain ⟨n,h⟩:=key.get
 exact W182 a b n _ h
theorem c145 (a:Rw ByteArray) (b:ByteArray) (ha:a.n < 2 ^ 62):Ret 145 [S.t (T.rows 1 a.n fun i=>[ts (a.get i)]),ss b] (bb ((List.range a.n).any fun j=>strEq b (a.at j))):=by
 obtain ⟨y,hy,hK⟩:=yC_int (by kernel_rfl) (c182 a b ha)
 exact W145 a b 0 _ (by simp only [e145_in,hK,hy,idx_ge])
theorem any_rwL {α:Type} [Inhabited α] {l:List α} {p:α→Bool}:((List.range (rwL l).n).any fun j=>p ((rwL l).at j))=l.any p:=by
 rw [Bool.eq_iff_iff]
 simp only [List.any_eq_true,List.mem_range]
 constructor
 ·rintro ⟨j,hj,hp⟩
  have hj:j < l.length:=hj
  rw [rwL_get hj] at hp
  exact ⟨_,List.getElem_mem hj,hp⟩
 ·rintro ⟨x,hx,hp⟩
  obtain ⟨j,hj,rfl⟩:=List.getElem_of_mem hx
  exact ⟨j,hj,by rw [rwL_get hj];exact hp⟩
def ownL:List ByteArray:=[bs [122,111,110,101],bs [116,121,112,101],bs [107,105,110,100],bs [112,111,111,108],bs [104,111,115,116]]
def ownB (a:ByteArray):Bool:=ownL.any fun x=>strEq a x
theorem retOwn (a:ByteArray):∃ y:Y,y.b 0=ownB a∧∀ (ρ:Type) (K:Y→Option ρ),yC (regs O) 145 [S.t (T.rows 1 5 fun i=>List.take 1 (List.drop (i.1*1) [ts (bs [122,111,110,101]),ts (bs [116,121,112,101]),ts (bs [107,105,110,100]),ts (bs [112,111,111,108]),ts (bs [104,111,115,116])])),ss a] K=K y:=by
 have h:=c145 (rwL ownL) a (show (5:Nat) < 2 ^ 62 by decide)
 rw [any_rwL] at h
 obtain ⟨y,hy,hK⟩:=yC_bool (by kernel_rfl) h
 refine ⟨y,hy,fun ρ K=>?_⟩
 rw [← hK ρ K]
 have:=lit1 ownL ts
 exact congrArg (fun g:Fin 5→List T=>yC (regs O) 145 [S.t (T.rows 1 5 g),ss a] K) this
theorem c161 (a:ByteArray):Ret 161 [ss a] (bb (ownB a)):=W161 a 4 _ (by
 unfold e161_in D161_0
 unfold ownB ownL
 simp only [List.any_cons,List.any_nil,Bool.or_false]
 cases strEq a (bs [122,111,110,101])<;>cases strEq a (bs [116,121,112,101])<;>simp only [cond_true,cond_false,X161n,X161s,b161_0,b161_1,b161_2,b161_3,D161_1,D161_2,D161_3,Bool.true_or,Bool.false_or]<;>cases strEq a (bs [107,105,110,100])<;>simp only [cond_true,cond_false,Bool.true_or,Bool.false_or]<;>cases strEq a (bs [112,111,111,108])<;>simp only [cond_true,cond_false,Bool.true_or,Bool.false_or])
def labelV (a:Rw D88) (j:Nat):Int:=orE (wantE (nameB (a.at j).fKey) 7) (orE (wantE (!ownB (a.at j).fKey) 1) (orE (wantE (valB (a.at j).fVal) 20) (wantE (!(List.range j).any (fun i=>strEq (a.at i).fKey (a.at j).fKey)) 6)))
def labelsV (a:Rw D88):Int:=bif decide (4 < a.n) then 3 else firstE a.n (labelV a)
theorem c104 (a:Rw D88) (ha:smR sm88 a):Ret 104 [S.t (T.rows 2 a.n fun i=>e88 (a.get i))] (ii (labelsV a)):=by
 have hn:=sm_lt ha.1
 have key:=Ev.errsC (X:=fun m j=>(X104n (regs O) a m).x0 (j:Int)) 1 a.n (labelV a) (fun m j hj=>by
  have hj2:j < 2 ^ 62:=by omega
  obtain ⟨y,hy,hK⟩:=yC_bool (by kernel_rfl) (c101 (a.at j).fKey (ha.2 j hj).1)
  obtain ⟨z,hz,hL⟩:=yC_bool (by kernel_rfl) (c146 (a.at j).fVal (ha.2 j hj).2)
  obtain ⟨w,hw,hN⟩:=retOwn (a.at j).fKey
  obtain ⟨x,hx,hM⟩:=yC_bool (by kernel_rfl) (c147 (a.sub j (by omega)) (a.at j) (by rw [sub_n];omega))
  rw [any_sub (p:=fun (t:D88)=>strEq t.fKey (a.at j).fKey)] at hx
  simp only [Rw.sub] at hM
  show (X104n (regs O) a (m+1)).x0 (j:Int)=bif !eqI (labelV a j) 0 then some (ii (labelV a j)) else (X104n (regs O) a m).x0 ((j+1:Nat):Int)
  rw [X104n]
  generalize X104n (regs O) a m=X
  simp only [X104s,b104_0,D104_0,ltI_nat,elemO_nat hj,get_nat,hj,decide_true,cond_true,addI_nat1 hj2,hK,hy,hL,hz,hN,hw,le_nat (Nat.le_of_lt hj),subO_nat (Nat.le_of_lt hj),hM,hx]
  unfold labelV wantE orE
  cases nameB (a.at j).fKey<;>cases ownB (a.at j).fKey<;>cases valB (a.at j).fVal<;>cases (List.range j).any (fun i=>strEq (a.at i).fKey (a.at j).fKey)<;>rfl) (fun m=>by
  show (X104n (regs O) a (m+1)).x0 (a.n:Int)=_
  rw [X104n]
  generalize X104n (regs O) a m=X
  simp only [X104s,b104_0,D104_0,ltI_nat,Nat.lt_irrefl,decide_false,cond_false])
 obtain ⟨n,h⟩:=key.get
 refine W104 a n _ ?_
 have e:gtI (ofN a.n) 4=decide (4 < a.n):=gtI_ofN (k:=4)
 unfold labelsV
 simp only [e104_in,e]
 cases decide (4 < a.n) with
 | true=>rfl
 | false=>exact h
theorem c126 (a:Rw D88) (ha:smR sm88 a):Ret 126 [S.t (T.rows 2 a.n fun i=>e88 (a.get i))] (ii (labelsV a)):=by
 have hn:=sm_lt ha.1
 have key:=Ev.errsN (X:=fun m j=>(X126n (regs O) a m).x0 (j:Int)) a.n (labelV a) (fun j hj=>by
  have hj2:j < 2 ^ 62:=by omega
  obtain ⟨y,hy,hK⟩:=yC_bool (by kernel_rfl) (c71 (a.at j).fKey (ha.2 j hj).1)
  obtain ⟨z,hz,hL⟩:=yC_bool (by kernel_rfl) (c129 (a.at j).fVal (ha.2 j hj).2)
  obtain ⟨w,hw,hN⟩:=yC_bool (by kernel_rfl) (c161 (a.at j).fKey)
  obtain ⟨inT,inF⟩:=Ev.anyC (X:=fun m i=>(X126n (regs O) a m).x1 (j:Int) (i:Int)) 1 j (fun i=>strEq (a.at i).fKey (a.at j).fKey) (ii 6) (fun m i hi=>by
   have hi':i < a.n:=by omega
   simp only [X126n,X126s,b126_1,D126_0,D126_1,ltI_cast,hi,decide_true,cond_true,elemO_nat hi',elemO_nat hj,get_nat,addI_nat1 (show i < 2 ^ 62 by omega)])
  have out:∀ m,(X126n (regs O) a (m+1)).x1 (j:Int) (j:Int)=(X126n (regs O) a m).x0 ((j+1:Nat):Int):=fun m=>by
   simp only [X126n,X126s,b126_1,D126_0,D126_1,ltI_cast,Nat.lt_irrefl,decide_false,cond_false,addI_nat1 hj2]
  have one:∀ m,(X126n (regs O) a (m+1)).x0 (j:Int)=bif !nameB (a.at j).fKey then some (ii 7) else bif ownB (a.at j).fKey then some (ii 1) else bif !valB (a.at j).fVal then some (ii 20) else (X126n (regs O) a m).x1 (j:Int) 0:=fun m=>by
   simp only [X126n,X126s,b126_0,D126_0,D126_1,ltI_nat,elemO_nat hj,get_nat,hj,decide_true,cond_true,hK,hy,hL,hz,hN,hw]
  unfold labelV
  cases h1:nameB (a.at j).fKey with
  | false=>exact ⟨fun _=>Ev.one 1 fun m=>by rw [one,h1];rfl,fun h=>absurd (show (7:Int)=0 from h) (by decide)⟩
  | true=>
   cases h0:ownB (a.at j).fKey with
   | true=>exact ⟨fun _=>Ev.one 1 fun m=>by rw [one,h1,h0];rfl,fun h=>absurd (show (1:Int)=0 from h) (by decide)⟩
   | false=>
    cases h2:valB (a.at j).fVal with
    | false=>exact ⟨fun _=>Ev.one 1 fun m=>by rw [one,h1,h0,h2];rfl,fun h=>absurd (show (20:Int)=0 from h) (by decide)⟩
    | true=>
     cases h3:(List.range j).any (fun i=>strEq (a.at i).fKey (a.at j).fKey) with
     | true=>exact ⟨fun _=>Ev.by 1 (fun m=>by rw [one,h1,h0,h2];rfl) (inT h3),fun h=>absurd (show (6:Int)=0 from h) (by decide)⟩
     | false=>exact ⟨fun h=>absurd rfl h,fun _ v hv=>Ev.by 1 (fun m=>by rw [one,h1,h0,h2];rfl) (inF h3 v (Ev.by 1 out hv))⟩) (Ev.one 1 fun m=>by
  simp only [X126n,X126s,b126_0,D126_0,ltI_nat,Nat.lt_irrefl,decide_false,cond_false])
 obtain ⟨n,h⟩:=key.get
 refine W126 a n _ ?_
 have e:gtI (ofN a.n) 4=decide (4 < a.n):=gtI_ofN (k:=4)
 unfold labelsV
 simp only [e126_in,e]
 cases decide (4 < a.n) with
 | true=>rfl
 | false=>exact h
def sm109 (a:D109):Prop:=sm (sizeN a.fZone)∧sm (sizeN a.fKind)
def same109 (a b:D109):Bool:=strEq a.fZone b.fZone && strEq a.fKind b.fKind
theorem c150 (a b:D109):Ret 150 [ag (e109 a),S.pt (e109 b)] (bb (same109 a b)):=W150 a b 1 _ (by
 unfold e150_in same109
 cases strEq a.fZone b.fZone<;>rfl)
theorem c185 (a:Rw D109) (b:D109) (ha:a.n < 2 ^ 62):Ret 185 [S.t (T.rows 4 a.n fun i=>e109 (a.get i)),S.fn (Go.Fn.func 150) [] [S.pt (e109 b)]] (ii (idx a.n fun j=>same109 (a.at j) b)):=by
 have key:=Ev.idxC (X:=fun m j=>(X185n (regs O) a b m).x0 (j:Int)) 1 a.n (fun j=>same109 (a.at j) b) (fun m j hj=>by
  have hj2:j < 2 ^ 62:=by omega
  obtain ⟨y,hy,hK⟩:=yC_bool (by kernel_rfl) (c150 (a.at j) b)
  simp only [X185n,X185s,b185_0,D185_0,ltI_nat,elemO_nat hj,get_nat,hj,decide_true,cond_true,addI_nat1 hj2,hK,hy]) (fun m=>by
  simp only [X185n,X185s,b185_0,D185_0,ltI_nat,Nat.lt_irrefl,decide_false,cond_false];rfl)
 obtain ⟨n,h⟩:=key.get
 exact W185 a b n _ h
theorem c149 (a:Rw D109) (b:D109) (ha:a.n < 2 ^ 62):Ret 149 [S.t (T.rows 4 a.n fun i=>e109 (a.get i)),S.fn (Go.Fn.func 150) [] [S.pt (e109 b)]] (bb ((List.range a.n).any fun j=>same109 (a.at j) b)):=by
 obtain ⟨y,hy,hK⟩:=yC_int (by kernel_rfl) (c185 a b ha)
 exact W149 a b 0 _ (by simp only [e149_in,hK,hy,idx_ge])
def offeringV (a:Rw D109) (j:Nat):Int:=orE (wantE (nameB (a.at j).fZone && nameB (a.at j).fKind) 7) (orE (chk (a.at j).fPrice) (wantE (!(List.range j).any (fun i=>same109 (a.at i) (a.at j))) 6))
def offeringsV (a:Rw D109):Int:=bif decide (6 < a.n) then 3 else firstE a.n (offeringV a)
theorem c105 (a:Rw D109) (ha:smR sm109 a):Ret 105 [S.t (T.rows 4 a.n fun i=>e109 (a.get i))] (ii (offeringsV a)):=by
 have hn:=sm_lt ha.1
 have key:=Ev.errsC (X:=fun m j=>(X105n (regs O) a m).x0 (j:Int)) 1 a.n (offeringV a) (fun m j hj=>by
  have hj2:j < 2 ^ 62:=by omega
  obtain ⟨y,hy,hK⟩:=yC_bool (by kernel_rfl) (c101 (a.at j).fZone (ha.2 j hj).1)
  obtain ⟨z,hz,hL⟩:=yC_bool (by kernel_rfl) (c101 (a.at j).fKind (ha.2 j hj).2)
  obtain ⟨w,hw,hN⟩:=yC_int (by kernel_rfl) (c113 (a.at j).fPrice)
  obtain ⟨x,hx,hM⟩:=yC_bool (by kernel_rfl) (c149 (a.sub j (by omega)) (a.at j) (by rw [sub_n];omega))
  rw [any_sub (p:=fun (t:D109)=>same109 t (a.at j))] at hx
  simp only [Rw.sub] at hM
  show (X105n (regs O) a (m+1)).x0 (j:Int)=bif !eqI (offeringV a j) 0 then some (ii (offeringV a j)) else (X105n (regs O) a m).x0 ((j+1:Nat):Int)
  rw [X105n]
  generalize X105n (regs O) a m=X
  simp only [X105s,b105_0,D105_0,ltI_nat,elemO_nat hj,get_nat,hj,decide_true,cond_true,addI_nat1 hj2,hK,hy,hL,hz,hN,hw,le_nat (Nat.le_of_lt hj),subO_nat (Nat.le_of_lt hj),hM,hx]
  unfold offeringV wantE orE
  cases nameB (a.at j).fZone<;>cases nameB (a.at j).fKind<;>try rfl
  cases hc:eqI (chk (a.at j).fPrice) 0 with
  | false=>simp [hc,show eqI 0 0=true from rfl]
  | true=>cases (List.range j).any (fun i=>same109 (a.at i) (a.at j))<;>rfl) (fun m=>by
  show (X105n (regs O) a (m+1)).x0 (a.n:Int)=_
  rw [X105n]
  generalize X105n (regs O) a m=X
  simp only [X105s,b105_0,D105_0,ltI_nat,Nat.lt_irrefl,decide_false,cond_false])
 obtain ⟨n,h⟩:=key.get
 refine W105 a n _ ?_
 have e:gtI (ofN a.n) 6=decide (6 < a.n):=gtI_ofN (k:=6)
 unfold offeringsV
 simp only [e105_in,e]
 cases decide (6 < a.n) with
 | true=>rfl
 | false=>exact h
theorem c127 (a:Rw D109) (ha:smR sm109 a):Ret 127 [S.t (T.rows 4 a.n fun i=>e109 (a.get i))] (ii (offeringsV a)):=by
 have hn:=sm_lt ha.1
 have key:=Ev.errsN (X:=fun m j=>(X127n (regs O) a m).x0 (j:Int)) a.n (offeringV a) (fun j hj=>by
  have hj2:j < 2 ^ 62:=by omega
  obtain ⟨y,hy,hK⟩:=yC_bool (by kernel_rfl) (c71 (a.at j).fZone (ha.2 j hj).1)
  obtain ⟨z,hz,hL⟩:=yC_bool (by kernel_rfl) (c71 (a.at j).fKind (ha.2 j hj).2)
  obtain ⟨w,hw,hN⟩:=yC_int (by kernel_rfl) (c91 (a.at j).fPrice)
  obtain ⟨inT,inF⟩:=Ev.anyC (X:=fun m i=>(X127n (regs O) a m).x1 (j:Int) (i:Int)) 1 j (fun i=>same109 (a.at i) (a.at j)) (ii 6) (fun m i hi=>by
   have hi':i < a.n:=by omega
   simp only [X127n,X127s,b127_1,D127_0,D127_1,ltI_cast,hi,decide_true,cond_true,elemO_nat hi',elemO_nat hj,get_nat,addI_nat1 (show i < 2 ^ 62 by omega)]
   unfold same109
   cases strEq (a.at i).fZone (a.at j).fZone<;>rfl)
  have out:∀ m,(X127n (regs O) a (m+1)).x1 (j:Int) (j:Int)=(X127n (regs O) a m).x0 ((j+1:Nat):Int):=fun m=>by
   simp only [X127n,X127s,b127_1,D127_0,D127_1,ltI_cast,Nat.lt_irrefl,decide_false,cond_false,addI_nat1 hj2]
  have one:∀ m,(X127n (regs O) a (m+1)).x0 (j:Int)=bif !nameB (a.at j).fZone then some (ii 7) else bif !nameB (a.at j).fKind then some (ii 7) else bif !eqI (chk (a.at j).fPrice) 0 then some (ii (chk (a.at j).fPrice)) else (X127n (regs O) a m).x1 (j:Int) 0:=fun m=>by
   simp only [X127n,X127s,b127_0,D127_0,D127_1,ltI_nat,elemO_nat hj,get_nat,hj,decide_true,cond_true,hK,hy,hL,hz,hN,hw]
  unfold offeringV
  cases h1:nameB (a.at j).fZone with
  | false=>exact ⟨fun _=>Ev.one 1 fun m=>by rw [one,h1];rfl,fun h=>absurd (show (7:Int)=0 from h) (by decide)⟩
  | true=>
   cases h0:nameB (a.at j).fKind with
   | false=>exact ⟨fun _=>Ev.one 1 fun m=>by rw [one,h1,h0];rfl,fun h=>absurd (show (7:Int)=0 from h) (by decide)⟩
   | true=>
    have e7:∀ r,orE (wantE (true && true) 7) r=r:=fun r=>rfl
    rw [e7]
    cases h2:eqI (chk (a.at j).fPrice) 0 with
    | false=>
     have e8:∀ r,orE (chk (a.at j).fPrice) r=chk (a.at j).fPrice:=fun r=>by unfold orE;rw [h2];rfl
     rw [e8]
     exact ⟨fun _=>Ev.one 1 fun m=>by rw [one,h1,h0,h2];rfl,fun h=>absurd (eqI_true.2 h) (by rw [h2];decide)⟩
    | true=>
     have e8:∀ r,orE (chk (a.at j).fPrice) r=r:=fun r=>by unfold orE;rw [h2];rfl
     rw [e8]
     cases h3:(List.range j).any (fun i=>same109 (a.at i) (a.at j)) with
     | true=>exact ⟨fun _=>Ev.by 1 (fun m=>by rw [one,h1,h0,h2];rfl) (inT h3),fun h=>absurd (show (6:Int)=0 from h) (by decide)⟩
     | false=>exact ⟨fun h=>absurd rfl h,fun _ v hv=>Ev.by 1 (fun m=>by rw [one,h1,h0,h2];rfl) (inF h3 v (Ev.by 1 out hv))⟩) (Ev.one 1 fun m=>by
  simp only [X127n,X127s,b127_0,D127_0,ltI_nat,Nat.lt_irrefl,decide_false,cond_false])
 obtain ⟨n,h⟩:=key.get
 refine W127 a n _ ?_
 have e:gtI (ofN a.n) 6=decide (6 < a.n):=gtI_ofN (k:=6)
 unfold offeringsV
 simp only [e127_in,e]
 cases decide (6 < a.n) with
 | true=>rfl
 | false=>exact h
structure sm112 (a:D112):Prop where
 name:sm (sizeN a.fName)
 labels:smR sm88 a.fLabels
 offers:smR sm109 a.fOffers
def typeV (a:D112):Int:=orE (wantE (nameB a.fName) 7) (orE (chk2 a.fCap_0 a.fCap_1) (orE (chk2 a.fOver_0 a.fOver_1) (orE (wantE (fits a.fOver_0 a.fOver_1 a.fCap_0 a.fCap_1) 1) (orE (labelsV a.fLabels) (offeringsV a.fOffers)))))
theorem c58 (a:D112) (ha:sm112 a):Ret 58 [ag (e112 a)] (ii (typeV a)):=by
 obtain ⟨y,hy,hK⟩:=yC_bool (by kernel_rfl) (c101 a.fName ha.name)
 obtain ⟨y1,hy1,hK1⟩:=yC_int (by kernel_rfl) (c102 a.fCap_0 a.fCap_1)
 obtain ⟨y2,hy2,hK2⟩:=yC_int (by kernel_rfl) (c102 a.fOver_0 a.fOver_1)
 obtain ⟨y3,hy3,hK3⟩:=yC_bool (by kernel_rfl) (c103 a.fOver_0 a.fOver_1 a.fCap_0 a.fCap_1)
 obtain ⟨y4,hy4,hK4⟩:=yC_int (by kernel_rfl) (c104 a.fLabels ha.labels)
 obtain ⟨y5,hy5,hK5⟩:=yC_int (by kernel_rfl) (c105 a.fOffers ha.offers)
 refine W58 a 3 _ ?_
 simp only [e58_in,D58_0,D58_1,D58_2,X58n,X58s,b58_0,b58_1,b58_2,hK,hK1,hK2,hK3,hK4,hK5,hy,hy1,hy2,hy3,hy4,hy5,or_some,want_some (e:=7) rfl,want_some (e:=1) rfl]
 rfl
theorem c70 (a:D112) (ha:sm112 a):Ret 70 [ag (e112 a)] (ii (typeV a)):=by
 obtain ⟨y,hy,hK⟩:=yC_bool (by kernel_rfl) (c71 a.fName ha.name)
 obtain ⟨y1,hy1,hK1⟩:=yC_int (by kernel_rfl) (c49 a.fCap_0 a.fCap_1)
 obtain ⟨y2,hy2,hK2⟩:=yC_int (by kernel_rfl) (c49 a.fOver_0 a.fOver_1)
 obtain ⟨y3,hy3,hK3⟩:=yC_bool (by kernel_rfl) (c125 a.fOver_0 a.fOver_1 a.fCap_0 a.fCap_1)
 obtain ⟨y4,hy4,hK4⟩:=yC_int (by kernel_rfl) (c126 a.fLabels ha.labels)
 obtain ⟨y5,hy5,hK5⟩:=yC_int (by kernel_rfl) (c127 a.fOffers ha.offers)
 refine W70 a 0 _ ?_
 simp only [e70_in,hK,hK1,hK2,hK3,hK4,hK5,hy,hy1,hy2,hy3,hy4,hy5,or_some,want_some (e:=7) rfl,want_some (e:=1) rfl]
 rfl
theorem c60 (a b:D112):Ret 60 [ag (e112 a),S.pt (e112 b)] (bb (strEq a.fName b.fName)):=W60 a b 0 _ rfl
theorem c106 (a:Rw D112) (b:D112) (ha:a.n < 2 ^ 62):Ret 106 [S.t (T.rows 7 a.n fun i=>e112 (a.get i)),S.fn (Go.Fn.func 60) [] [S.pt (e112 b)]] (ii (idx a.n fun j=>strEq (a.at j).fName b.fName)):=by
 have key:=Ev.idxC (X:=fun m j=>(X106n (regs O) a b m).x0 (j:Int)) 1 a.n (fun j=>strEq (a.at j).fName b.fName) (fun m j hj=>by
  have hj2:j < 2 ^ 62:=by omega
  obtain ⟨y,hy,hK⟩:=yC_bool (by kernel_rfl) (c60 (a.at j) b)
  simp only [X106n,X106s,b106_0,D106_0,ltI_nat,elemO_nat hj,get_nat,hj,decide_true,cond_true,addI_nat1 hj2,hK,hy]) (fun m=>by
  simp only [X106n,X106s,b106_0,D106_0,ltI_nat,Nat.lt_irrefl,decide_false,cond_false];rfl)
 obtain ⟨n,h⟩:=key.get
 exact W106 a b n _ h
theorem c59 (a:Rw D112) (b:D112) (ha:a.n < 2 ^ 62):Ret 59 [S.t (T.rows 7 a.n fun i=>e112 (a.get i)),S.fn (Go.Fn.func 60) [] [S.pt (e112 b)]] (bb ((List.range a.n).any fun j=>strEq (a.at j).fName b.fName)):=by
 obtain ⟨y,hy,hK⟩:=yC_int (by kernel_rfl) (c106 a b ha)
 exact W59 a b 0 _ (by simp only [e59_in,hK,hy,idx_ge])
def typeE (a:Rw D112) (j:Nat):Int:=orE (typeV (a.at j)) (wantE (!(List.range j).any (fun i=>strEq (a.at i).fName (a.at j).fName)) 6)
def typesV (a:Rw D112):Int:=bif decide (12 < a.n) then 3 else firstE a.n (typeE a)
theorem c24 (a:Rw D112) (ha:smR sm112 a):Ret 24 [S.t (T.rows 7 a.n fun i=>e112 (a.get i))] (ii (typesV a)):=by
 have hn:=sm_lt ha.1
 have key:=Ev.errsC (X:=fun m j=>(X24n (regs O) a m).x0 (j:Int)) 1 a.n (typeE a) (fun m j hj=>by
  have hj2:j < 2 ^ 62:=by omega
  obtain ⟨y,hy,hK⟩:=yC_int (by kernel_rfl) (c58 (a.at j) (ha.2 j hj))
  obtain ⟨x,hx,hM⟩:=yC_bool (by kernel_rfl) (c59 (a.sub j (by omega)) (a.at j) (by rw [sub_n];omega))
  rw [any_sub (p:=fun (t:D112)=>strEq t.fName (a.at j).fName)] at hx
  simp only [Rw.sub] at hM
  show (X24n (regs O) a (m+1)).x0 (j:Int)=bif !eqI (typeE a j) 0 then some (ii (typeE a j)) else (X24n (regs O) a m).x0 ((j+1:Nat):Int)
  rw [X24n]
  generalize X24n (regs O) a m=X
  simp only [X24s,b24_0,D24_0,ltI_nat,elemO_nat hj,get_nat,hj,decide_true,cond_true,addI_nat1 hj2,hK,hy,le_nat (Nat.le_of_lt hj),subO_nat (Nat.le_of_lt hj),hM,hx]
  unfold typeE wantE orE
  cases hc:eqI (typeV (a.at j)) 0 with
  | false=>simp [hc]
  | true=>cases (List.range j).any (fun i=>strEq (a.at i).fName (a.at j).fName)<;>rfl) (fun m=>by
  show (X24n (regs O) a (m+1)).x0 (a.n:Int)=_
  rw [X24n]
  generalize X24n (regs O) a m=X
  simp only [X24s,b24_0,D24_0,ltI_nat,Nat.lt_irrefl,decide_false,cond_false])
 obtain ⟨n,h⟩:=key.get
 refine W24 a n _ ?_
 have e:gtI (ofN a.n) 12=decide (12 < a.n):=gtI_ofN (k:=12)
 unfold typesV
 simp only [e24_in,e]
 cases decide (12 < a.n) with
 | true=>rfl
 | false=>exact h
theorem c33 (a:Rw D112) (ha:smR sm112 a):Ret 33 [S.t (T.rows 7 a.n fun i=>e112 (a.get i))] (ii (typesV a)):=by
 have hn:=sm_lt ha.1
 have key:=Ev.errsN (X:=fun m j=>(X33n (regs O) a m).x0 (j:Int)) a.n (typeE a) (fun j hj=>by
  have hj2:j < 2 ^ 62:=by omega
  obtain ⟨y,hy,hK⟩:=yC_int (by kernel_rfl) (c70 (a.at j) (ha.2 j hj))
  obtain ⟨inT,inF⟩:=Ev.anyC (X:=fun m i=>(X33n (regs O) a m).x1 (j:Int) (i:Int)) 1 j (fun i=>strEq (a.at i).fName (a.at j).fName) (ii 6) (fun m i hi=>by
   have hi':i < a.n:=by omega
   simp only [X33n,X33s,b33_1,D33_0,D33_1,ltI_cast,hi,decide_true,cond_true,elemO_nat hi',elemO_nat hj,get_nat,addI_nat1 (show i < 2 ^ 62 by omega)])
  have out:∀ m,(X33n (regs O) a (m+1)).x1 (j:Int) (j:Int)=(X33n (regs O) a m).x0 ((j+1:Nat):Int):=fun m=>by
   simp only [X33n,X33s,b33_1,D33_0,D33_1,ltI_cast,Nat.lt_irrefl,decide_false,cond_false,addI_nat1 hj2]
  have one:∀ m,(X33n (regs O) a (m+1)).x0 (j:Int)=bif !eqI (typeV (a.at j)) 0 then some (ii (typeV (a.at j))) else (X33n (regs O) a m).x1 (j:Int) 0:=fun m=>by
   simp only [X33n,X33s,b33_0,D33_0,D33_1,ltI_nat,elemO_nat hj,get_nat,hj,decide_true,cond_true,hK,hy]
  unfold typeE
  cases h2:eqI (typeV (a.at j)) 0 with
  | false=>
   have e8:∀ r,orE (typeV (a.at j)) r=typeV (a.at j):=fun r=>by unfold orE;rw [h2];rfl
   rw [e8]
   exact ⟨fun _=>Ev.one 1 fun m=>by rw [one,h2];rfl,fun h=>absurd (eqI_true.2 h) (by rw [h2];decide)⟩
  | true=>
   have e8:∀ r,orE (typeV (a.at j)) r=r:=fun r=>by unfold orE;rw [h2];rfl
   rw [e8]
   cases h3:(List.range j).any (fun i=>strEq (a.at i).fName (a.at j).fName) with
   | true=>exact ⟨fun _=>Ev.by 1 (fun m=>by rw [one,h2];rfl) (inT h3),fun h=>absurd (show (6:Int)=0 from h) (by decide)⟩
   | false=>exact ⟨fun h=>absurd rfl h,fun _ v hv=>Ev.by 1 (fun m=>by rw [one,h2];rfl) (inF h3 v (Ev.by 1 out hv))⟩) (Ev.one 1 fun m=>by
  simp only [X33n,X33s,b33_0,D33_0,ltI_nat,Nat.lt_irrefl,decide_false,cond_false])
 obtain ⟨n,h⟩:=key.get
 refine W33 a n _ ?_
 have e:gtI (ofN a.n) 12=decide (12 < a.n):=gtI_ofN (k:=12)
 unfold typesV
 simp only [e33_in,e]
 cases decide (12 < a.n) with
 | true=>rfl
 | false=>exact h
abbrev Ent:=D112 × D109
def keyOf (p:Ent):D47:=⟨p.1.fName,p.2.fZone,p.2.fKind⟩
def entS (p:Ent):S:=S.agg (ss p.1.fName::ii p.1.fCap_0::ii p.1.fCap_1::ii p.1.fOver_0::ii p.1.fOver_1::S.t (T.rows 2 p.1.fLabels.n fun i=>e88 (p.1.fLabels.get i))::S.t (T.rows 4 p.1.fOffers.n fun i=>e109 (p.1.fOffers.get i))::List.map S.t (e109 p.2))
def encM (l:List Ent):List (S × S):=l.map fun p=>(ag (e47 (keyOf p)),entS p)
theorem encM_app (l r:List Ent):encM (l++r)=encM l++encM r:=by simp [encM]
theorem eqKey47 (a b:D47):eqKey O.P O.K 47 (ag (e47 a)) (ag (e47 b))=some (eq47 a b):=by kernel_rfl
theorem find_enc (b:D47):∀ (l:List Ent) (i:Nat),findS O.P O.K 47 (ag (e47 b)) (encM l) i=some ((l.findSome? fun p=>bif eq47 b (keyOf p) then some p else none).bind fun _=>none)∨∃ k p,l.find? (fun p=>eq47 b (keyOf p))=some p∧findS O.P O.K 47 (ag (e47 b)) (encM l) i=some (some (k,entS p))
 | [],i=>.inl rfl
 | p::l,i=>by
  have hc:findS O.P O.K 47 (ag (e47 b)) (encM (p::l)) i=bif eq47 b (keyOf p) then some (some (i,entS p)) else findS O.P O.K 47 (ag (e47 b)) (encM l) (i+1):=by
   show (eqKey O.P O.K 47 (ag (e47 b)) (ag (e47 (keyOf p)))).bind _=_
   rw [eqKey47]
   rfl
  rw [hc]
  cases h:eq47 b (keyOf p) with
  | true=>exact .inr ⟨i,p,by simp [h],rfl⟩
  | false=>
   rcases find_enc b l (i+1) with h1 | ⟨k,q,h1,h2⟩
   ·refine .inl ?_
    rw [cond_false,h1]
    simp [h]
   ·exact .inr ⟨k,q,by simp [h,h1],h2⟩
theorem find_none' {b:D47} {l:List Ent} (h:l.find? (fun p=>eq47 b (keyOf p))=none) (i:Nat):findS O.P O.K 47 (ag (e47 b)) (encM l) i=some none:=by
 rcases find_enc b l i with h1 | ⟨k,p,h1,_⟩
 ·rw [h1]
  congr 1
  cases l.findSome? (fun p=>bif eq47 b (keyOf p) then some p else none)<;>rfl
 ·rw [h] at h1;cases h1
theorem find_some' {b:D47} {l:List Ent} {p:Ent} (h:l.find? (fun p=>eq47 b (keyOf p))=some p) (i:Nat):∃ k,findS O.P O.K 47 (ag (e47 b)) (encM l) i=some (some (k,entS p)):=by
 rcases find_enc b l i with h1 | ⟨k,q,h1,h2⟩
 ·exfalso
  have:∀ (l:List Ent) (i:Nat),l.find? (fun p=>eq47 b (keyOf p))=some p→findS O.P O.K 47 (ag (e47 b)) (encM l) i≠some none:=by
   intro l
   induction l with
   | nil=>intro i h;cases h
   | cons q l ih=>
    intro i h
    have hc:findS O.P O.K 47 (ag (e47 b)) (encM (q::l)) i=bif eq47 b (keyOf q) then some (some (i,entS q)) else findS O.P O.K 47 (ag (e47 b)) (encM l) (i+1):=by
     show (eqKey O.P O.K 47 (ag (e47 b)) (ag (e47 (keyOf q)))).bind _=_
     rw [eqKey47]
     rfl
    rw [hc]
    cases hq:eq47 b (keyOf q) with
    | true=>simp
    | false=>
     rw [cond_false]
     exact ih (i+1) (by simpa [hq] using h)
  refine this l i h ?_
  rw [h1]
  congr 1
  cases l.findSome? (fun p=>bif eq47 b (keyOf p) then some p else none)<;>rfl
 ·rw [h] at h1
  obtain rfl:=Option.some.inj h1
  exact ⟨k,h2⟩
theorem close_key (get:Nat→Option B) (d:Nat) (a:D47):closeS get (d+40) (ag (e47 a))=some (ag (e47 a),[]):=rfl
theorem close_ent (get:Nat→Option B) (d:Nat) (p:Ent):closeS get (d+40) (entS p)=some (entS p,[]):=rfl
theorem closeE_enc (get:Nat→Option B):∀ (l:List Ent) (d:Nat),closeE get (d+41+l.length) (encM l)=some (encM l,[])
 | [],d=>rfl
 | p::l,d=>by
  have e:d+41+(p::l).length=(d+41+l.length)+1:=by simp;omega
  rw [e]
  show closeE get ((d+41+l.length)+1) ((ag (e47 (keyOf p)),entS p)::encM l)=_
  unfold closeE
  have e2:d+41+l.length=(d+1+l.length)+40:=by omega
  have h1:=close_key get (d+1+l.length) (keyOf p)
  have h2:=close_ent get (d+1+l.length) p
  rw [← e2] at h1 h2
  simp only [h1,h2,closeE_enc get l d]
  rfl
theorem flat_enc {d:Nat} {l:List Ent} (h:l.length+41≤d):FlatE d (encM l) where
 close:=fun get=>by
  have:=closeE_enc get l (d - 41 - l.length)
  rwa [show d - 41 - l.length+41+l.length=d by omega] at this
 refs:=by
  induction l with
  | nil=>rfl
  | cons p l ih=>
   show refsE ((ag (e47 (keyOf p)),entS p)::encM l)=[]
   unfold refsE
   rw [ih (by simp at h;omega)]
   rfl
 ren:=fun m=>by
  induction l with
  | nil=>rfl
  | cons p l ih=>
   show renE m ((ag (e47 (keyOf p)),entS p)::encM l)=_
   unfold renE
   rw [ih (by simp at h;omega)]
   rfl
theorem flatW_enc {ρ:Type} {d:Nat} {l:List Ent} {K:Option ρ} (h:l.length+41≤d):flatW d (encM l) K=K:=by
 unfold flatW
 exact if_pos (flat_enc h)
theorem updW_new {ρ:Type} {l:List Ent} {p:Ent} {K:List (S × S)→Option ρ} (h:l.find? (fun q=>eq47 (keyOf p) (keyOf q))=none):updW O.P O.K 47 (encM l) (ag (e47 (keyOf p))) (entS p) K=K (encM (l++[p])):=by
 unfold updW
 rw [find_none' h]
 rw [encM_app]
 rfl
theorem orE_eq_zero {a b:Int}:orE a b=0↔a=0∧b=0:=by
 unfold orE
 cases h:eqI a 0 with
 | false=>
  have:=eqI_false.1 h
  simp [this]
 | true=>
  have:=eqI_true.1 h
  simp [this]
theorem wantE_eq_zero {b:Bool} {e:Int} (he:e≠0):wantE b e=0↔b=true:=by
 unfold wantE
 cases b<;>simp [he]
theorem firstE_eq_zero {n:Nat} {g:Nat→Int}:firstE n g=0↔∀ j,j < n→g j=0:=by
 rw [← firstFrom_eq]
 have:∀ k j,firstFrom g j k=0↔∀ i,j≤i→i < j+k→g i=0:=by
  intro k
  induction k with
  | zero=>intro j;simp [firstFrom];omega
  | succ k ih=>
   intro j
   unfold firstFrom
   rw [orE_eq_zero,ih]
   constructor
   ·rintro ⟨h1,h2⟩ i hi hk
    by_cases h:i=j
    ·rw [h];exact h1
    ·exact h2 i (by omega) (by omega)
   ·intro h
    exact ⟨h j (by omega) (by omega),fun i hi hk=>h i (by omega) (by omega)⟩
 rw [this]
 exact ⟨fun h j hj=>h j (by omega) (by omega),fun h i _ hi=>h i (by omega)⟩
structure TypesOk (a:Rw D112):Prop where
 few:a.n≤12
 names:∀ i j,i < j→j < a.n→strEq (a.at i).fName (a.at j).fName=false
 offers:∀ i,i < a.n→(a.at i).fOffers.n≤6
 apart:∀ i,i < a.n→∀ k l,k < l→l < (a.at i).fOffers.n→same109 ((a.at i).fOffers.at k) ((a.at i).fOffers.at l)=false
theorem typesOk {a:Rw D112} (h:typesV a=0):TypesOk a:=by
 unfold typesV at h
 cases hm:decide (12 < a.n) with
 | true=>rw [hm] at h;exact absurd (show (3:Int)=0 from h) (by decide)
 | false=>
  rw [hm,cond_false] at h
  have hf:=firstE_eq_zero.1 h
  have ht:∀ j,j < a.n→typeV (a.at j)=0∧(!(List.range j).any (fun i=>strEq (a.at i).fName (a.at j).fName))=true:=fun j hj=>by
   have:=hf j hj
   unfold typeE at this
   rw [orE_eq_zero,wantE_eq_zero (by decide)] at this
   exact this
  have ho:∀ j,j < a.n→offeringsV (a.at j).fOffers=0:=fun j hj=>by
   have:=(ht j hj).1
   unfold typeV at this
   simp only [orE_eq_zero] at this
   exact this.2.2.2.2.2
  have hof:∀ j,j < a.n→(a.at j).fOffers.n≤6∧∀ l,l < (a.at j).fOffers.n→offeringV (a.at j).fOffers l=0:=fun j hj=>by
   have:=ho j hj
   unfold offeringsV at this
   cases hm:decide (6 < (a.at j).fOffers.n) with
   | true=>rw [hm] at this;exact absurd (show (3:Int)=0 from this) (by decide)
   | false=>
    rw [hm,cond_false] at this
    exact ⟨by have:=of_decide_eq_false hm;omega,firstE_eq_zero.1 this⟩
  refine ⟨by have:=of_decide_eq_false hm;omega,fun i j hij hj=>?_,fun i hi=>(hof i hi).1,fun i hi k l hkl hl=>?_⟩
  ·have:=(ht j hj).2
   rw [Bool.not_eq_true'] at this
   have:=List.any_eq_false.1 this i (List.mem_range.2 hij)
   simpa using this
  ·have:=(hof i hi).2 l hl
   unfold offeringV at this
   simp only [orE_eq_zero] at this
   have:=(wantE_eq_zero (show (6:Int)≠0 by decide)).1 this.2.2
   rw [Bool.not_eq_true'] at this
   have:=List.any_eq_false.1 this k (List.mem_range.2 hkl)
   simpa using this
def offersOf (t:D112) (k:Nat):List Ent:=(List.range k).map fun k=>(t,t.fOffers.at k)
def prI (a:Rw D112) (i:Nat):List Ent:=(List.range i).flatMap fun i=>offersOf (a.at i) (a.at i).fOffers.n
theorem prI_succ (a:Rw D112) (i:Nat):prI a (i+1)=prI a i++offersOf (a.at i) (a.at i).fOffers.n:=by
 unfold prI
 rw [List.range_succ,List.flatMap_append]
 simp
theorem offersOf_succ (t:D112) (k:Nat):offersOf t (k+1)=offersOf t k++[(t,t.fOffers.at k)]:=by
 unfold offersOf
 rw [List.range_succ]
 simp
theorem prI_len {a:Rw D112} (h:TypesOk a):∀ i,i≤a.n→(prI a i).length≤6*i
 | 0,_=>by simp [prI]
 | i+1,hi=>by
  rw [prI_succ,List.length_append]
  have:=prI_len h i (by omega)
  have:=h.offers i (by omega)
  have:(offersOf (a.at i) (a.at i).fOffers.n).length=(a.at i).fOffers.n:=by simp [offersOf]
  omega
theorem pr_new {a:Rw D112} (h:TypesOk a) {i k:Nat} (hi:i < a.n) (hk:k < (a.at i).fOffers.n):(prI a i++offersOf (a.at i) k).find? (fun q=>eq47 (keyOf (a.at i,(a.at i).fOffers.at k)) (keyOf q))=none:=by
 rw [List.find?_eq_none]
 intro q hq
 rcases List.mem_append.1 hq with hq | hq
 ·obtain ⟨i',hi',hq⟩:=List.mem_flatMap.1 hq
  obtain ⟨k',_,rfl⟩:=List.mem_map.1 hq
  have:=h.names i' i (List.mem_range.1 hi') hi
  rw [strEq_comm] at this
  simp [eq47,keyOf,this]
 ·obtain ⟨k',hk',rfl⟩:=List.mem_map.1 hq
  have:=h.apart i hi k' k (List.mem_range.1 hk') hk
  unfold same109 at this
  rw [strEq_comm,strEq_comm (a:=(((a.at i).fOffers).at k').fKind)] at this
  simp only [eq47,keyOf,Bool.and_true,this,Bool.and_false,Bool.false_eq_true,not_false_eq_true]
def allL (a:Rw D112):List Ent:=bif eqI (typesV a) 0 then prI a a.n else []
theorem c83 (a:Rw D112) (ha:smR sm112 a):Ret 83 [S.t (T.rows 7 a.n fun i=>e112 (a.get i))] (S.mt (encM (allL a))):=by
 have hn:=sm_lt ha.1
 obtain ⟨y,hy,hK⟩:=yC_int (by kernel_rfl) (c24 a ha)
 cases ht:eqI (typesV a) 0 with
 | false=>
  refine W83 a 0 _ ?_
  have f:=flatW_enc (d:=999) (l:=[]) (K:=some (S.mt [])) (by decide)
  have f:flatW 999 [] (some (S.mt []))=some (S.mt []):=f
  simp only [e83_in,hK,hy,ht,Bool.not_false,cond_true,f]
  unfold allL
  rw [ht]
  rfl
 | true=>
  have ok:=typesOk (eqI_true.1 ht)
  have inner:∀ i,i < a.n→∀ V,Ev (fun m=>(X83n (regs O) a m).x0 ((i+1:Nat):Int) (encM (prI a (i+1)))) V→∀ r k,k+r=(a.at i).fOffers.n→Ev (fun m=>(X83n (regs O) a m).x1 (a.at i).fOffers (ofN (a.at i).fOffers.n) (a.at i) (k:Int) (encM (prI a i++offersOf (a.at i) k)) (i:Int)) V:=by
   intro i hi V hV r
   have hi2:i < 2 ^ 62:=by omega
   have h6:=ok.offers i hi
   have hl:=prI_len ok i (by omega)
   have h12:=ok.few
   induction r with
   | zero=>
    intro k hk
    obtain rfl:k=(a.at i).fOffers.n:=by omega
    refine Ev.by 1 (fun m=>?_) hV
    have len:(prI a i++offersOf (a.at i) (a.at i).fOffers.n).length+41≤900:=by simp [offersOf];omega
    rw [X83n]
    generalize X83n (regs O) a m=X
    simp only [X83s,b83_1,D83_0,ltI_nat,Nat.lt_irrefl,decide_false,cond_false,flatW_enc len,addI_nat1 hi2,prI_succ]
   | succ r ih=>
    intro k hk
    have hk1:k < (a.at i).fOffers.n:=by omega
    refine Ev.by 1 (fun m=>?_) (ih (k+1) (by omega))
    have len:(prI a i++offersOf (a.at i) (k+1)).length+41≤900:=by simp [offersOf];omega
    have upd:=fun (K:List (S × S)→Option S)=>updW_new (K:=K) (pr_new ok hi hk1)
    rw [List.append_assoc,← offersOf_succ] at upd
    have upd:∀ (K:List (S × S)→Option S),updW O.P O.K 47 (encM (prI a i++offersOf (a.at i) k)) (S.agg [ss (a.at i).fName,ss ((a.at i).fOffers.at k).fZone,ss ((a.at i).fOffers.at k).fKind]) (S.agg (ss (a.at i).fName::ii (a.at i).fCap_0::ii (a.at i).fCap_1::ii (a.at i).fOver_0::ii (a.at i).fOver_1::S.t (T.rows 2 (a.at i).fLabels.n fun j=>e88 ((a.at i).fLabels.get j))::S.t (T.rows 4 (a.at i).fOffers.n fun j=>e109 ((a.at i).fOffers.get j))::List.map S.t (e109 ((a.at i).fOffers.at k)))) K=K (encM (prI a i++offersOf (a.at i) (k+1))):=upd
    rw [X83n]
    generalize X83n (regs O) a m=X
    simp only [X83s,b83_1,D83_1,ltI_nat,hk1,decide_true,cond_true,elemO_nat hk1,get_nat,upd,flatW_enc len,addI_nat1 (show k < 2 ^ 62 by omega)]
  have outer:∀ r i,i+r=a.n→Ev (fun m=>(X83n (regs O) a m).x0 (i:Int) (encM (prI a i))) (S.mt (encM (prI a a.n))):=by
   intro r
   induction r with
   | zero=>
    intro i hi
    obtain rfl:i=a.n:=by omega
    have hl:=prI_len ok a.n (Nat.le_refl _)
    have h12:=ok.few
    refine Ev.one 1 fun m=>?_
    show (X83n (regs O) a (m+1)).x0 (a.n:Int) (encM (prI a a.n))=_
    rw [X83n]
    generalize X83n (regs O) a m=X
    simp only [X83s,b83_0,ltI_nat,Nat.lt_irrefl,decide_false,cond_false,flatW_enc (show (prI a a.n).length+41≤900 by omega),flatW_enc (show (prI a a.n).length+41≤999 by omega)]
   | succ r ih=>
    intro i hi
    have hi1:i < a.n:=by omega
    have hl:=prI_len ok i (by omega)
    have h12:=ok.few
    have:=inner i hi1 _ (ih (i+1) (by omega)) (a.at i).fOffers.n 0 (by omega)
    have e0:prI a i++offersOf (a.at i) 0=prI a i:=by simp [offersOf]
    rw [e0] at this
    refine Ev.by 1 (fun m=>?_) this
    rw [X83n]
    generalize X83n (regs O) a m=X
    simp only [X83s,b83_0,D83_1,ltI_nat,hi1,decide_true,cond_true,elemO_nat hi1,get_nat,flatW_enc (show (prI a i).length+41≤900 by omega)]
    rfl
  obtain ⟨n,h⟩:=(outer a.n 0 (by omega)).get
  refine W83 a n _ ?_
  have f:=flatW_enc (d:=900) (l:=[]) (K:=(X83n (regs O) a n).x0 0 []) (by decide)
  have f:flatW 900 [] ((X83n (regs O) a n).x0 0 [])=(X83n (regs O) a n).x0 0 []:=f
  simp only [e83_in,hK,hy,ht,Bool.not_true,cond_false,D83_0,f]
  unfold allL
  rw [ht]
  exact h
def hasP (a:Rw D112) (b:D47):Option Ent:=(allL a).find? fun q=>eq47 b (keyOf q)
def capOf (a:Rw D112) (b:D47):Int × Int:=match hasP a b with
 | some p=>(subA p.1.fCap_0 p.1.fCap_1 p.1.fOver_0 p.1.fOver_1 p.1.fCap_0 p.1.fOver_0,subA p.1.fCap_0 p.1.fCap_1 p.1.fOver_0 p.1.fOver_1 p.1.fCap_1 p.1.fOver_1)
 | none=>(0,0)
abbrev hasS (a:Rw D112) (b:D47):S:=.tup [.agg [ii (capOf a b).1,ii (capOf a b).2],bb (hasP a b).isSome]
theorem offersOf_pre (t:D112) (k d:Nat):∃ r,offersOf t (k+d)=offersOf t k++r:=by
 unfold offersOf
 rw [List.range_add,List.map_append]
 exact ⟨_,rfl⟩
theorem prI_pre (a:Rw D112) (i d:Nat):∃ r,prI a (i+d)=prI a i++r:=by
 unfold prI
 rw [List.range_add,List.flatMap_append]
 exact ⟨_,rfl⟩
theorem pr_split {a:Rw D112} {i k:Nat} (hi:i < a.n) (hk:k < (a.at i).fOffers.n):∃ r,prI a a.n=(prI a i++offersOf (a.at i) k)++(a.at i,(a.at i).fOffers.at k)::r:=by
 obtain ⟨r1,h1⟩:=prI_pre a (i+1) (a.n - (i+1))
 obtain ⟨r2,h2⟩:=offersOf_pre (a.at i) (k+1) ((a.at i).fOffers.n - (k+1))
 rw [show i+1+(a.n - (i+1))=a.n by omega] at h1
 rw [show k+1+((a.at i).fOffers.n - (k+1))=(a.at i).fOffers.n by omega,offersOf_succ] at h2
 rw [h1,prI_succ,h2]
 exact ⟨r2++r1,by simp⟩
def shFind:Sh:=.tup [.agg [.str 0,.int .i64 1,.int .i64 2,.int .i64 3,.int .i64 4,.rows 2 5,.rows 4 6],.agg [.str 7,.str 8,.int .i64 9,.bool 10],.bool 11]
def foundY (p:Option Ent):Y:=match p with
 | some p=>⟨fun i=>match i with | 1=>p.1.fCap_0 | 2=>p.1.fCap_1 | 3=>p.1.fOver_0 | 4=>p.1.fOver_1 | _=>p.2.fPrice,fun i=>match i with | 10=>p.2.fOpen | _=>true,fun i=>match i with | 0=>p.1.fName | 7=>p.2.fZone | _=>p.2.fKind,
   fun i=>match i with | 5=>⟨p.1.fLabels.n,fun i=>e88 (p.1.fLabels.get i)⟩ | _=>⟨p.1.fOffers.n,fun i=>e109 (p.1.fOffers.get i)⟩,fun _=>[]⟩
 | none=>⟨fun _=>0,fun _=>false,fun _=>bs [],fun _=>⟨0,fun i=>i.elim0⟩,fun _=>[]⟩
def foundS (p:Option Ent):S:=build (foundY p) shFind
theorem rowsE (sz:Nat) (g g':Fin 0→List T):T.rows sz 0 g=T.rows sz 0 g':=by rw [show g=g' from funext fun i=>i.elim0]
theorem c86r (a:Rw D112) (b:D47) (ha:smR sm112 a):Ret 86 [S.t (T.rows 7 a.n fun i=>e112 (a.get i)),ag (e47 b)] (foundS (hasP a b)):=by
 have hn:=sm_lt ha.1
 obtain ⟨y,hy,hK⟩:=yC_int (by kernel_rfl) (c33 a ha)
 have non:∀ g2 g4,S.tup [S.agg [ss (bs []),ii 0,ii 0,ii 0,ii 0,S.t (T.rows 2 0 g2),S.t (T.rows 4 0 g4)],S.agg [ss (bs []),ss (bs []),ii 0,bb false],bb false]=foundS none:=fun g2 g4=>by
  rw [rowsE 2 g2 (fun i=>i.elim0),rowsE 4 g4 (fun i=>i.elim0)];rfl
 by_cases hz:typesV a=0
 ·have e0:eqI (typesV a) 0=true:=by unfold eqI;simpa using hz
  have hall:hasP a b=(prI a a.n).find? fun q=>eq47 b (keyOf q):=by unfold hasP allL;rw [e0];rfl
  have small:∀ i,i < a.n→(a.at i).fOffers.n < 2 ^ 62:=fun i hi=>by have:=(typesOk hz).offers i hi;omega
  have step:∀ i k,i < a.n→k < (a.at i).fOffers.n→∀ m,(X86n (regs O) a b (m+2)).x1 (i:Int) (k:Int)=bif eq47 b (keyOf (a.at i,(a.at i).fOffers.at k)) then some (foundS (some (a.at i,(a.at i).fOffers.at k))) else (X86n (regs O) a b m).x1 (i:Int) ((k+1:Nat):Int):=fun i k hi hk m=>by
   have hs:=small i hi
   have hg:∀ h:(i:Int).toNat < a.n,a.get (Fin.mk (i:Int).toNat h)=a.at i:=fun h=>get_nat
   have hk':∀ h:(i:Int).toNat < a.n,k < (a.get (Fin.mk (i:Int).toNat h)).fOffers.n:=fun h=>by rw [hg];exact hk
   have h2:∀ v z,(X86n (regs O) a b (m+1)).x2 v z (i:Int) (k:Int)=bif z && strEq v.fKind b.fKind then some (S.tup [ag (e112 (a.at i)),ag (e109 v),bb true]) else (X86n (regs O) a b m).x1 (i:Int) ((k+1:Nat):Int):=fun v z=>by
    rw [X86n]
    simp only [X86s,b86_2,D86_1,elemO_nat hi,hg,addI_nat1 (show k < 2 ^ 62 by omega)]
    cases z with
    | false=>rfl
    | true=>cases strEq v.fKind b.fKind<;>rfl
   rw [X86n]
   generalize X86n (regs O) a b (m+1)=X at h2 ⊢
   have hl:ltI (k:Int) (ofN (a.at i).fOffers.n)=true:=by rw [ltI_nat];simpa using hk
   simp only [X86s,b86_1,D86_2,elemO_nat hi,hl,cond_true,elemO_nat (hk' _),get_nat,h2]
   have e:eq47 b (keyOf (a.at i,(a.at i).fOffers.at k))=(strEq (a.at i).fName b.fType && strEq ((a.at i).fOffers.at k).fZone b.fZone && strEq ((a.at i).fOffers.at k).fKind b.fKind):=by
    unfold eq47 keyOf
    rw [strEq_comm (a:=b.fType),strEq_comm (a:=b.fZone),strEq_comm (a:=b.fKind)]
    cases strEq (a.at i).fName b.fType<;>cases strEq ((a.at i).fOffers.at k).fZone b.fZone<;>cases strEq ((a.at i).fOffers.at k).fKind b.fKind<;>rfl
   rw [e]
   cases strEq (a.at i).fName b.fType with
   | false=>rfl
   | true=>cases strEq ((a.at i).fOffers.at k).fZone b.fZone<;>cases strEq ((a.at i).fOffers.at k).fKind b.fKind<;>rfl
  have endK:∀ i,i < a.n→∀ m,(X86n (regs O) a b (m+1)).x1 (i:Int) (((a.at i).fOffers.n:Nat):Int)=(X86n (regs O) a b m).x0 ((i+1:Nat):Int):=fun i hi m=>by
   have hg:∀ h:(i:Int).toNat < a.n,a.get (Fin.mk (i:Int).toNat h)=a.at i:=fun h=>get_nat
   have hl:ltI (((a.at i).fOffers.n:Nat):Int) (ofN (a.at i).fOffers.n)=false:=by rw [ltI_nat];simp
   rw [X86n]
   simp only [X86s,b86_1,D86_0,elemO_nat hi,hg,hl,cond_false,addI_nat1 (show i < 2 ^ 62 by omega)]
  have inner:∀ i,i < a.n→((prI a (i+1)).find? (fun q=>eq47 b (keyOf q))=none→Ev (fun m=>(X86n (regs O) a b m).x0 ((i+1:Nat):Int)) (foundS ((prI a a.n).find? fun q=>eq47 b (keyOf q))))→
    ∀ d k,k+d=(a.at i).fOffers.n→(prI a i++offersOf (a.at i) k).find? (fun q=>eq47 b (keyOf q))=none→Ev (fun m=>(X86n (regs O) a b m).x1 (i:Int) (k:Int)) (foundS ((prI a a.n).find? fun q=>eq47 b (keyOf q))):=by
   intro i hi nxt d
   induction d with
   | zero=>
    intro k hk hf
    obtain rfl:k=(a.at i).fOffers.n:=by omega
    refine Ev.succ ((nxt (by rw [prI_succ];exact hf)).of_eq fun m=>?_)
    exact endK i hi m
   | succ d ih=>
    intro k hk hf
    have hk1:k < (a.at i).fOffers.n:=by omega
    cases he:eq47 b (keyOf (a.at i,(a.at i).fOffers.at k)) with
    | true=>
     obtain ⟨r,hr⟩:=pr_split hi hk1
     have:(prI a a.n).find? (fun q=>eq47 b (keyOf q))=some (a.at i,(a.at i).fOffers.at k):=by
      rw [hr,List.find?_append,hf]
      simp only [Option.none_or,List.find?_cons,he]
     rw [this]
     refine Ev.one 2 fun m=>?_
     rw [step i k hi hk1,he];rfl
    | false=>
     refine Ev.add 2 ((ih (k+1) (by omega) (by rw [offersOf_succ,← List.append_assoc,List.find?_append,hf];simp [he])).of_eq fun m=>?_)
     show (X86n (regs O) a b (m+2)).x1 (i:Int) (k:Int)=_
     rw [step i k hi hk1,he];rfl
  have outer:∀ d i,i+d=a.n→(prI a i).find? (fun q=>eq47 b (keyOf q))=none→Ev (fun m=>(X86n (regs O) a b m).x0 (i:Int)) (foundS ((prI a a.n).find? fun q=>eq47 b (keyOf q))):=by
   intro d
   induction d with
   | zero=>
    intro i hi hf
    obtain rfl:i=a.n:=by omega
    rw [hf]
    refine Ev.one 1 fun m=>?_
    rw [X86n]
    simp only [X86s,b86_0,ltI_nat,Nat.lt_irrefl,decide_false,cond_false]
    exact congrArg some (non _ _)
   | succ d ih=>
    intro i hi hf
    have hi1:i < a.n:=by omega
    refine Ev.succ ((inner i hi1 (fun h=>ih (i+1) (by omega) h) (a.at i).fOffers.n 0 (by omega) (by simpa [offersOf] using hf)).of_eq fun m=>?_)
    rw [X86n]
    simp only [X86s,b86_0,D86_1,ltI_nat,hi1,decide_true,cond_true]
    rfl
  obtain ⟨n,h⟩:=(outer a.n 0 (by omega) rfl).get
  rw [hall]
  refine W86 a b n _ ?_
  show e86_in (regs O) a b (D86_0 (X86n (regs O) a b n))=_
  simp only [e86_in,hK,hy,e0,Bool.not_true,cond_false]
  exact h
 ·have e0:eqI (typesV a) 0=false:=by unfold eqI;simpa using hz
  have:hasP a b=none:=by unfold hasP allL;rw [e0];rfl
  rw [this]
  refine W86 a b 0 _ ?_
  simp only [e86_in,hK,hy,e0,Bool.not_false,cond_true]
  exact congrArg some (non _ _)
theorem c86 (a:Rw D112) (b:D47) (ha:smR sm112 a) (hb:sm47 b):∃ y:Y,y.i 1=((hasP a b).map fun p=>p.1.fCap_0).getD 0∧y.i 2=((hasP a b).map fun p=>p.1.fCap_1).getD 0∧y.i 3=((hasP a b).map fun p=>p.1.fOver_0).getD 0∧y.i 4=((hasP a b).map fun p=>p.1.fOver_1).getD 0∧y.b 11=(hasP a b).isSome∧
  ∀ (ρ:Type) (K:Y→Option ρ),yC (regs O) 86 [S.t (T.rows 7 a.n fun i=>e112 (a.get i)),ag (e47 b)] K=K y:=by
 obtain ⟨y,h1,h2⟩:=yC_of (sh:=shFind) (y0:=foundY (hasP a b)) (by kernel_rfl) (c86r a b ha)
 simp only [shFind,build,buildL,S.tup.injEq,S.agg.injEq,List.cons.injEq,S.t.injEq,T.v.injEq,Value.int.injEq,Value.bool.injEq,true_and,and_true] at h1
 obtain ⟨⟨_,q1,q2,q3,q4,_⟩,_,q5⟩:=h1
 refine ⟨y,?_,?_,?_,?_,?_,h2⟩
 ·rw [q1];cases hasP a b<;>rfl
 ·rw [q2];cases hasP a b<;>rfl
 ·rw [q3];cases hasP a b<;>rfl
 ·rw [q4];cases hasP a b<;>rfl
 ·rw [q5];cases hasP a b<;>rfl
theorem yC_sub {f:FuncId} {args:List S} {x z e:Int} (hs:shF O.P f=some (.tup [.agg [.int .i64 0,.int .i64 1],.int .i64 2])) (h:Ret f args (S.tup [S.agg [ii x,ii z],ii e])):∃ y:Y,y.i 0=x∧y.i 1=z∧y.i 2=e∧∀ (ρ:Type) (K:Y→Option ρ),yC (regs O) f args K=K y:=by
 obtain ⟨y,h1,h2⟩:=yC_of (y0:=⟨fun i=>match i with | 0=>x | 1=>z | _=>e,fun _=>false,fun _=>⟨#[]⟩,fun _=>⟨0,fun i=>i.elim0⟩,fun _=>[]⟩) hs h
 simp only [build,buildL,S.tup.injEq,S.agg.injEq,List.cons.injEq,S.t.injEq,T.v.injEq,Value.int.injEq,true_and,and_true] at h1
 exact ⟨y,h1.1.1,h1.1.2,h1.2,h2⟩
theorem yC_aab {f:FuncId} {args:List S} {x z:Int} {b:Bool} (hs:shF O.P f=some (.tup [.agg [.int .i64 0,.int .i64 1],.bool 2])) (h:Ret f args (S.tup [S.agg [ii x,ii z],bb b])):∃ y:Y,y.i 0=x∧y.i 1=z∧y.b 2=b∧∀ (ρ:Type) (K:Y→Option ρ),yC (regs O) f args K=K y:=by
 obtain ⟨y,h1,h2⟩:=yC_of (y0:=⟨fun i=>match i with | 0=>x | _=>z,fun _=>b,fun _=>⟨#[]⟩,fun _=>⟨0,fun i=>i.elim0⟩,fun _=>[]⟩) hs h
 simp only [build,buildL,S.tup.injEq,S.agg.injEq,List.cons.injEq,S.t.injEq,T.v.injEq,Value.int.injEq,Value.bool.injEq,true_and,and_true] at h1
 exact ⟨y,h1.1.1,h1.1.2,h1.2,h2⟩
def entY (p:Ent):Y:=⟨fun i=>match i with | 1=>p.1.fCap_0 | 2=>p.1.fCap_1 | 3=>p.1.fOver_0 | 4=>p.1.fOver_1 | _=>p.2.fPrice,fun _=>p.2.fOpen,fun i=>match i with | 0=>p.1.fName | 7=>p.2.fZone | _=>p.2.fKind,
 fun i=>match i with | 5=>⟨p.1.fLabels.n,fun i=>e88 (p.1.fLabels.get i)⟩ | _=>⟨p.1.fOffers.n,fun i=>e109 (p.1.fOffers.get i)⟩,fun _=>[]⟩
def sh141:Sh:=.agg [.str 0,.int .i64 1,.int .i64 2,.int .i64 3,.int .i64 4,.rows 2 5,.rows 4 6,.str 7,.str 8,.int .i64 9,.bool 10]
theorem shV141:shV O.P 141 0=some (sh141,11):=by kernel_rfl
theorem look_some {ρ:Type} {l:List Ent} {b:D47} {p:Ent} (h:l.find? (fun q=>eq47 b (keyOf q))=some p):∃ y:Y,y.i 1=p.1.fCap_0∧y.i 2=p.1.fCap_1∧y.i 3=p.1.fOver_0∧y.i 4=p.1.fOver_1∧∀ (Kt:Y→Option ρ) (Kf:Option ρ),lookW O.P O.K 47 141 (encM l) (ag (e47 b)) Kt Kf=Kt y:=by
 obtain ⟨k,hk⟩:=find_some' h 0
 obtain ⟨y,hy,he⟩:=unb_build (sh:=sh141) (y:=entY p)
 have hb:build (entY p) sh141=entS p:=rfl
 rw [hb] at hy he
 have he2:=he
 simp only [sh141,build,buildL,entS,e109,List.map,S.agg.injEq,List.cons.injEq,S.t.injEq,T.v.injEq,Value.int.injEq,true_and,and_true] at he2
 refine ⟨y,he2.2.1,he2.2.2.1,he2.2.2.2.1,he2.2.2.2.2.1,fun Kt Kf=>?_⟩
 unfold lookW
 rw [shV141,hk]
 dsimp only
 rw [hy]
 rfl
theorem look_none {ρ:Type} {l:List Ent} {b:D47} (h:l.find? (fun q=>eq47 b (keyOf q))=none) (Kt:Y→Option ρ) (Kf:Option ρ):lookW O.P O.K 47 141 (encM l) (ag (e47 b)) Kt Kf=Kf:=by
 unfold lookW
 rw [shV141,find_none' h]
theorem c63 (a:Rw D112) (b:D47) (ha:smR sm112 a):Ret 63 [S.t (T.rows 7 a.n fun i=>e112 (a.get i)),ag (e47 b)] (hasS a b):=by
 obtain ⟨y,hy,hK⟩:=yC_map (by kernel_rfl) (c83 a ha)
 refine W63 a b 0 _ ?_
 simp only [e63_in,hK,hy]
 unfold hasS capOf hasP
 cases h:(allL a).find? (fun q=>eq47 b (keyOf q)) with
 | none=>
  rw [look_none h]
  obtain ⟨z,hz,hz1,hz2,hL⟩:=yC_sub (by kernel_rfl) (c115 0 0 0 0)
  simp only [hL,hz,hz1]
  all_goals rfl
 | some p=>
  obtain ⟨x,h1,h2,h3,h4,hM⟩:=look_some (ρ:=S) h
  obtain ⟨z,hz,hz1,hz2,hL⟩:=yC_sub (by kernel_rfl) (c115 p.1.fCap_0 p.1.fCap_1 p.1.fOver_0 p.1.fOver_1)
  simp only [hM,h1,h2,h3,h4,hL,hz,hz1]
  all_goals rfl
theorem c78 (a:Rw D112) (b:D47) (ha:smR sm112 a) (hb:sm47 b):Ret 78 [S.t (T.rows 7 a.n fun i=>e112 (a.get i)),ag (e47 b)] (hasS a b):=by
 obtain ⟨y,h1,h2,h3,h4,h5,hK⟩:=c86 a b ha hb
 refine W78 a b 0 _ ?_
 simp only [e78_in,hK,h1,h2,h3,h4,h5]
 unfold hasS capOf
 cases h:hasP a b with
 | none=>
  obtain ⟨z,hz,hz1,hz2,hL⟩:=yC_sub (by kernel_rfl) (c132 0 0 0 0)
  simp only [Option.map_none,Option.getD_none,hL,hz,hz1]
  all_goals rfl
 | some p=>
  obtain ⟨z,hz,hz1,hz2,hL⟩:=yC_sub (by kernel_rfl) (c132 p.1.fCap_0 p.1.fCap_1 p.1.fOver_0 p.1.fOver_1)
  simp only [Option.map_some,Option.getD_some,hL,hz,hz1]
  all_goals rfl
def hasB (a:Rw D112) (b:D47):Bool:=(hasP a b).isSome
def knownB (a:Rw D112) (l:Rw D47):Bool:=(List.range l.n).all fun j=>hasB a (l.at j)
theorem c119 (a:D47) (b:D33) (hb:smR sm112 b.fTypes):Ret 119 [ag (e47 a),S.pt (e33 b)] (bb !hasB b.fTypes a):=by
 obtain ⟨y,hy,hy1,hy2,hK⟩:=yC_aab (by kernel_rfl) (c63 b.fTypes a hb)
 exact W119 a b 0 _ (by simp only [e119_in,hK,hy2];rfl)
theorem c157 (a:Rw D47) (b:D33) (ha:a.n < 2 ^ 62) (hb:smR sm112 b.fTypes):Ret 157 [S.t (T.rows 3 a.n fun i=>e47 (a.get i)),S.fn (Go.Fn.func 119) [] [S.pt (e33 b)]] (ii (idx a.n fun j=>!hasB b.fTypes (a.at j))):=by
 have key:=Ev.idxC (X:=fun m j=>(X157n (regs O) a b m).x0 (j:Int)) 1 a.n (fun j=>!hasB b.fTypes (a.at j)) (fun m j hj=>by
  have hj2:j < 2 ^ 62:=by omega
  obtain ⟨y,hy,hK⟩:=yC_bool (by kernel_rfl) (c119 (a.at j) b hb)
  simp only [X157n,X157s,b157_0,D157_0,ltI_nat,elemO_nat hj,get_nat,hj,decide_true,cond_true,addI_nat1 hj2,hK,hy]) (fun m=>by
  simp only [X157n,X157s,b157_0,D157_0,ltI_nat,Nat.lt_irrefl,decide_false,cond_false];rfl)
 obtain ⟨n,h⟩:=key.get
 exact W157 a b n _ h
theorem c118 (a:Rw D47) (b:D33) (ha:a.n < 2 ^ 62) (hb:smR sm112 b.fTypes):Ret 118 [S.t (T.rows 3 a.n fun i=>e47 (a.get i)),S.fn (Go.Fn.func 119) [] [S.pt (e33 b)]] (bb ((List.range a.n).any fun j=>!hasB b.fTypes (a.at j))):=by
 obtain ⟨y,hy,hK⟩:=yC_int (by kernel_rfl) (c157 a b ha hb)
 exact W118 a b 0 _ (by simp only [e118_in,hK,hy,idx_ge])
theorem c65 (a:D33) (b:Rw D47) (hb:b.n < 2 ^ 62) (ha:smR sm112 a.fTypes):Ret 65 [ag (e33 a),S.t (T.rows 3 b.n fun i=>e47 (b.get i))] (bb (knownB a.fTypes b)):=by
 obtain ⟨y,hy,hK⟩:=yC_bool (by kernel_rfl) (c118 b a hb ha)
 refine W65 a b 0 _ ?_
 simp only [e65_in,hK,hy,List.not_any_eq_all_not,Bool.not_not]
 rfl
theorem c77 (a:Rw D112) (b:Rw D47) (ha:smR sm112 a) (hb:smR sm47 b):Ret 77 [S.t (T.rows 7 a.n fun i=>e112 (a.get i)),S.t (T.rows 3 b.n fun i=>e47 (b.get i))] (bb (knownB a b)):=by
 have hn:=sm_lt hb.1
 have key:=Ev.loopN (X:=fun m j=>(X77n (regs O) a b m).x0 (j:Int)) b.n (fun j=>bif hasB a (b.at j) then none else some (bb false)) (bb true) (fun j hj=>by
  have hj2:j < 2 ^ 62:=by omega
  obtain ⟨y,hy,hy1,hy2,hK⟩:=yC_aab (by kernel_rfl) (c78 a (b.at j) ha (hb.2 j hj))
  have hy2:y.b 2=hasB a (b.at j):=hy2
  have one:∀ m,(X77n (regs O) a b (m+1)).x0 (j:Int)=bif hasB a (b.at j) then (X77n (regs O) a b m).x0 ((j+1:Nat):Int) else some (bb false):=fun m=>by
   simp only [X77n,X77s,b77_0,D77_0,ltI_nat,elemO_nat hj,get_nat,hj,decide_true,cond_true,addI_nat1 hj2,hK,hy2]
   cases hasB a (b.at j)<;>rfl
  cases h:hasB a (b.at j) with
  | true=>exact ⟨fun e he=>(by cases he),fun _ v hv=>Ev.by 1 (fun m=>by rw [one,h];rfl) hv⟩
  | false=>exact ⟨fun e he=>(by obtain rfl:=Option.some.inj he;exact Ev.one 1 fun m=>by rw [one,h];rfl),fun hn=>(by cases hn)⟩) (Ev.one 1 fun m=>by
  simp only [X77n,X77s,b77_0,D77_0,ltI_nat,Nat.lt_irrefl,decide_false,cond_false])
 rw [find_all (p:=fun j=>hasB a (b.at j)) (fun j=>rfl)] at key
 have e:(bif (List.range b.n).all (fun j=>hasB a (b.at j)) then bb true else bb false)=bb (knownB a b):=by
  unfold knownB
  cases (List.range b.n).all (fun j=>hasB a (b.at j))<;>rfl
 rw [e] at key
 obtain ⟨n,h⟩:=key.get
 exact W77 a b n _ h
def poolIn (a:D33) (b:ByteArray):Bool:=(List.range a.fPools.n).any fun j=>strEq (a.fPools.at j).fName b
def claimIn (a:D33) (b:ByteArray):Bool:=(List.range a.fClaims.n).any fun j=>strEq (a.fClaims.at j).fName b
theorem c156 (a:Rw D77) (b:ByteArray) (ha:a.n < 2 ^ 62):Ret 156 [S.t (T.rows 10 a.n fun i=>e77 (a.get i)),S.fn (Go.Fn.func 117) [] [S.pt [ts b]]] (ii (idx a.n fun j=>strEq (a.at j).fName b)):=by
 have key:=Ev.idxC (X:=fun m j=>(X156n (regs O) a b m).x0 (j:Int)) 1 a.n (fun j=>strEq (a.at j).fName b) (fun m j hj=>by
  have hj2:j < 2 ^ 62:=by omega
  obtain ⟨y,hy,hK⟩:=yC_bool (x:=strEq (a.at j).fName b) (by kernel_rfl) (W117 (a.at j) b 0 _ rfl)
  simp only [X156n,X156s,b156_0,D156_0,ltI_nat,elemO_nat hj,get_nat,hj,decide_true,cond_true,addI_nat1 hj2,hK,hy]) (fun m=>by
  simp only [X156n,X156s,b156_0,D156_0,ltI_nat,Nat.lt_irrefl,decide_false,cond_false];rfl)
 obtain ⟨n,h⟩:=key.get
 exact W156 a b n _ h
theorem c64 (a:D33) (b:ByteArray) (ha:a.fPools.n < 2 ^ 62):Ret 64 [ag (e33 a),ss b] (bb (poolIn a b)):=by
 obtain ⟨y,hy,hK⟩:=yC_int (by kernel_rfl) (c156 a.fPools b ha)
 have h:Ret 116 [S.t (T.rows 10 a.fPools.n fun i=>e77 (a.fPools.get i)),S.fn (Go.Fn.func 117) [] [S.pt [ts b]]] (bb (poolIn a b)):=W116 a.fPools b 0 _ (by simp only [e116_in,hK,hy,idx_ge];rfl)
 obtain ⟨z,hz,hL⟩:=yC_bool (by kernel_rfl) h
 exact W64 a b 0 _ (by simp only [e64_in,hL,hz])
theorem c160 (a:Rw D52) (b:ByteArray) (ha:a.n < 2 ^ 62):Ret 160 [S.t (T.rows 15 a.n fun i=>e52 (a.get i)),S.fn (Go.Fn.func 124) [] [S.pt [ts b]]] (ii (idx a.n fun j=>strEq (a.at j).fName b)):=by
 have key:=Ev.idxC (X:=fun m j=>(X160n (regs O) a b m).x0 (j:Int)) 1 a.n (fun j=>strEq (a.at j).fName b) (fun m j hj=>by
  have hj2:j < 2 ^ 62:=by omega
  obtain ⟨y,hy,hK⟩:=yC_bool (x:=strEq (a.at j).fName b) (by kernel_rfl) (W124 (a.at j) b 0 _ rfl)
  simp only [X160n,X160s,b160_0,D160_0,ltI_nat,elemO_nat hj,get_nat,hj,decide_true,cond_true,addI_nat1 hj2,hK,hy]) (fun m=>by
  simp only [X160n,X160s,b160_0,D160_0,ltI_nat,Nat.lt_irrefl,decide_false,cond_false];rfl)
 obtain ⟨n,h⟩:=key.get
 exact W160 a b n _ h
theorem c67 (a:D33) (b:ByteArray) (ha:a.fClaims.n < 2 ^ 62):Ret 67 [ag (e33 a),ss b] (bb (claimIn a b)):=by
 obtain ⟨y,hy,hK⟩:=yC_int (by kernel_rfl) (c160 a.fClaims b ha)
 have h:Ret 123 [S.t (T.rows 15 a.fClaims.n fun i=>e52 (a.fClaims.get i)),S.fn (Go.Fn.func 124) [] [S.pt [ts b]]] (bb (claimIn a b)):=W123 a.fClaims b 0 _ (by simp only [e123_in,hK,hy,idx_ge];rfl)
 obtain ⟨z,hz,hL⟩:=yC_bool (by kernel_rfl) h
 exact W67 a b 0 _ (by simp only [e67_in,hL,hz])
end
end Go.Proofs.YtonkoellfaopiaaGreatDoor.H
