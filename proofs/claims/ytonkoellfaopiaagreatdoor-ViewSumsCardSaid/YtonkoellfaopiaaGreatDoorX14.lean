import Derived.Test.YtonkoellfaopiaaGreatDoorX13
set_option linter.unusedSimpArgs false
set_option linter.unusedVariables false
namespace Go.Proofs.YtonkoellfaopiaaGreatDoor.H
open Go
noncomputable section
def wantE (b:Bool) (e:Int):Int:=bif b then 0 else e
theorem retW (b:Bool) (e:Int):∃ y:Y,y.i 0=wantE b e∧∀ (ρ:Type) (K:Y→Option ρ),yC (regs O) 108 [bb b,ii e] K=K y:=yC_int (by kernel_rfl) (c108 b e)
theorem retF (l:List Int) (hl:l.length < 2 ^ 62):∃ y:Y,y.i 0=firstL l∧∀ (ρ:Type) (K:Y→Option ρ),yC (regs O) 107 [S.t (T.rows 1 l.length fun i=>List.take 1 (List.drop (i.1*1) (l.map ti)))] K=K y:=yC_int (by kernel_rfl) (c107 l hl)
theorem firstL_cons (a b:Int) (l:List Int):firstL (a::b::l)=orE a (firstL (b::l)):=rfl
structure sm77 (a:D77):Prop where
 name:sm (sizeN a.fName)
 reqs:smR sm68 a.fReqs
 taints:smR sm88 a.fTaints
def poolB (a:D77):Bool:=within a.fGen 0 1099511627776 && (within a.fExpire 0 1073741824 && (geI a.fBudget 0 && (leI a.fBudget 16 && (geI a.fMerge 0 && leI a.fMerge 2))))
def poolV (a:D77):Int:=orE (wantE (nameB a.fName) 7) (orE (wantE (within a.fWeight 0 100) 1) (orE (chk2 a.fLimit_0 a.fLimit_1) (orE (reqsV a.fReqs) (orE (taintsV a.fTaints) (wantE (poolB a) 1)))))
theorem orE_zero (a:Int):orE a 0=a:=by
 unfold orE
 cases h:eqI a 0 with
 | false=>rfl
 | true=>exact (eqI_true.1 h).symm
theorem firstL_one (a:Int):firstL [a]=a:=orE_zero a
theorem c61 (a:D77) (ha:sm77 a):Ret 61 [ag (e77 a)] (ii (poolV a)):=by
 have h5:∀ m v16 v22 v25 v19 v7 b,(X61n (regs O) a (m+1)).x5 v16 v22 v25 v19 v7 b=some (ii (firstL [v7,v16,v19,v22,v25,wantE b 1])):=fun m v16 v22 v25 v19 v7 b=>by
  obtain ⟨y,hy,hK⟩:=retW b 1
  obtain ⟨z,hz,hL⟩:=retF [v7,v16,v19,v22,v25,wantE b 1] (show (6:Nat) < 2 ^ 62 by decide)
  have hL:∀ (ρ:Type) (K:Y→Option ρ),yC (regs O) 107 [S.t (T.rows 1 6 fun i=>List.take 1 (List.drop (i.1*1) [ti v7,ti v16,ti v19,ti v22,ti v25,ti (wantE b 1)]))] K=K z:=hL
  simp only [X61n,X61s,b61_5,hK,hy,hL,hz]
 have h4:∀ m v16 v22 v25 v19 v7 b,(X61n (regs O) a (m+2)).x4 v16 v22 v25 v19 v7 b=some (ii (firstL [v7,v16,v19,v22,v25,wantE (b && leI a.fMerge 2) 1])):=fun m v16 v22 v25 v19 v7 b=>by
  have:=h5 m
  rw [X61n]
  generalize X61n (regs O) a (m+1)=X at this ⊢
  cases b<;>exact this _ _ _ _ _ _
 have h3:∀ m v16 v22 v25 v19 v7 b,(X61n (regs O) a (m+3)).x3 v16 v22 v25 v19 v7 b=some (ii (firstL [v7,v16,v19,v22,v25,wantE (b && (geI a.fMerge 0 && leI a.fMerge 2)) 1])):=fun m v16 v22 v25 v19 v7 b=>by
  have:=h4 m
  rw [X61n]
  generalize X61n (regs O) a (m+2)=X at this ⊢
  cases b<;>exact this _ _ _ _ _ _
 have h2:∀ m v16 v22 v25 v19 v7 b,(X61n (regs O) a (m+4)).x2 v16 v22 v25 v19 v7 b=some (ii (firstL [v7,v16,v19,v22,v25,wantE (b && (leI a.fBudget 16 && (geI a.fMerge 0 && leI a.fMerge 2))) 1])):=fun m v16 v22 v25 v19 v7 b=>by
  have:=h3 m
  rw [X61n]
  generalize X61n (regs O) a (m+3)=X at this ⊢
  cases b<;>exact this _ _ _ _ _ _
 have h1:∀ m v16 v22 v25 v19 v7 b,(X61n (regs O) a (m+5)).x1 v16 v22 v25 v19 v7 b=some (ii (firstL [v7,v16,v19,v22,v25,wantE (b && (geI a.fBudget 0 && (leI a.fBudget 16 && (geI a.fMerge 0 && leI a.fMerge 2)))) 1])):=fun m v16 v22 v25 v19 v7 b=>by
  have:=h2 m
  rw [X61n]
  generalize X61n (regs O) a (m+4)=X at this ⊢
  cases b<;>exact this _ _ _ _ _ _
 have h0:∀ m v7 b,(X61n (regs O) a (m+6)).x0 v7 b=some (ii (firstL [v7,wantE b 1,chk2 a.fLimit_0 a.fLimit_1,reqsV a.fReqs,taintsV a.fTaints,wantE (poolB a) 1])):=fun m v7 b=>by
  obtain ⟨y,hy,hK⟩:=retW b 1
  obtain ⟨y1,hy1,hK1⟩:=yC_int (by kernel_rfl) (c102 a.fLimit_0 a.fLimit_1)
  obtain ⟨y2,hy2,hK2⟩:=yC_int (by kernel_rfl) (c110 a.fReqs ha.reqs)
  obtain ⟨y3,hy3,hK3⟩:=yC_int (by kernel_rfl) (c111 a.fTaints ha.taints)
  obtain ⟨y4,hy4,hK4⟩:=yC_bool (by kernel_rfl) (c112 a.fGen 0 1099511627776)
  obtain ⟨y5,hy5,hK5⟩:=yC_bool (by kernel_rfl) (c112 a.fExpire 0 1073741824)
  have:=h1 m
  rw [X61n]
  generalize X61n (regs O) a (m+5)=X at this ⊢
  simp only [X61s,b61_0,hK,hK1,hK2,hK3,hK4,hK5,hy,hy1,hy2,hy3,hy4,hy5,D61_1,this]
  unfold poolB
  cases within a.fGen 0 1099511627776<;>rfl
 obtain ⟨y,hy,hK⟩:=ret1 ha.name
 obtain ⟨z,hz,hL⟩:=retW (nameB a.fName) 7
 refine W61 a 6 _ ?_
 have e:e61_in (regs O) a (D61_0 (X61n (regs O) a 6))=(X61n (regs O) a 6).x0 (wantE (nameB a.fName) 7) (within a.fWeight 0 100):=by
  simp only [e61_in,hK,hy,hL,hz,D61_0]
  unfold within
  cases geI a.fWeight 0<;>rfl
 rw [e,h0 0]
 simp only [firstL_cons,firstL_one]
 rfl
theorem or_some {x r:Int}:(bif !eqI x 0 then some (ii x) else some (ii r))=some (ii (orE x r)):=by
 unfold orE
 cases eqI x 0<;>rfl
theorem want_some {b:Bool} {e r:Int} (he:eqI e 0=false):(bif !b then some (ii e) else some (ii r))=some (ii (orE (wantE b e) r)):=by
 unfold orE wantE
 cases b with
 | true=>rfl
 | false=>simp [he]
theorem retN (l:List ByteArray) (hl:l.length < 2 ^ 62) (ha:∀ x∈l,sm (sizeN x)):∃ y:Y,y.b 0=l.all nameB∧∀ (ρ:Type) (K:Y→Option ρ),yC (regs O) 109 [S.t (T.rows 1 l.length fun i=>List.take 1 (List.drop (i.1*1) (l.map ts)))] K=K y:=yC_bool (by kernel_rfl) (c109 l hl ha)
structure sm61 (a:D61):Prop where
 name:sm (sizeN a.fName)
 app:sm (sizeN a.fApp)
 reqs:smR sm68 a.fReqs
 tols:smR sm160 a.fTols
 spread:smR sm70 a.fSpread
 near:smR sm138 a.fNear
 apart:smR sm138 a.fApart
 on:sm (sizeN a.fOn)
def podV (a:D61):Int:=orE (wantE (nameB a.fName && nameB a.fApp) 7) (orE (chk2 a.fNeed_0 a.fNeed_1) (orE (wantE (within a.fPrio (Int.negSucc 999) 1000) 1) (orE (reqsV a.fReqs) (orE (tolsV a.fTols) (orE (termsV a) (orE (wantE (within a.fSince 0 1099511627776) 1) (wantE (noneB a.fOn) 7)))))))
theorem c66 (a:D61) (ha:sm61 a):Ret 66 [ag (e61 a)] (ii (podV a)):=by
 have h0:∀ m v0 v1 b,(X66n (regs O) a (m+1)).x0 v0 v1 b=some (ii (firstL [v1,v0,wantE b 1,reqsV a.fReqs,tolsV a.fTols,termsV a,wantE (within a.fSince 0 1099511627776) 1,wantE (noneB a.fOn) 7])):=fun m v0 v1 b=>by
  obtain ⟨y,hy,hK⟩:=retW b 1
  obtain ⟨y1,hy1,hK1⟩:=yC_int (by kernel_rfl) (c110 a.fReqs ha.reqs)
  obtain ⟨y2,hy2,hK2⟩:=yC_int (by kernel_rfl) (c120 a.fTols ha.tols)
  obtain ⟨y3,hy3,hK3⟩:=yC_int (by kernel_rfl) (c121 a ha.spread ha.near ha.apart)
  obtain ⟨y4,hy4,hK4⟩:=yC_bool (by kernel_rfl) (c112 a.fSince 0 1099511627776)
  obtain ⟨y5,hy5,hK5⟩:=retW (within a.fSince 0 1099511627776) 1
  obtain ⟨y6,hy6,hK6⟩:=yC_bool (by kernel_rfl) (c122 a.fOn ha.on)
  obtain ⟨y7,hy7,hK7⟩:=retW (noneB a.fOn) 7
  obtain ⟨z,hz,hL⟩:=retF [v1,v0,wantE b 1,reqsV a.fReqs,tolsV a.fTols,termsV a,wantE (within a.fSince 0 1099511627776) 1,wantE (noneB a.fOn) 7] (show (8:Nat) < 2 ^ 62 by decide)
  have hL:∀ (ρ:Type) (K:Y→Option ρ),yC (regs O) 107 [S.t (T.rows 1 8 fun i=>List.take 1 (List.drop (i.1*1) [ti v1,ti v0,ti (wantE b 1),ti (reqsV a.fReqs),ti (tolsV a.fTols),ti (termsV a),ti (wantE (within a.fSince 0 1099511627776) 1),ti (wantE (noneB a.fOn) 7)]))] K=K z:=hL
  rw [X66n]
  generalize X66n (regs O) a m=X
  simp only [X66s,b66_0,hK,hK1,hK2,hK3,hK4,hK5,hK6,hK7,hy,hy1,hy2,hy3,hy4,hy5,hy6,hy7,hL,hz]
 obtain ⟨y,hy,hK⟩:=retN [a.fName,a.fApp] (show (2:Nat) < 2 ^ 62 by decide) (fun x hx=>by
  simp only [List.mem_cons,List.not_mem_nil,or_false] at hx
  rcases hx with rfl | rfl
  ·exact ha.name
  ·exact ha.app)
 have hK:∀ (ρ:Type) (K:Y→Option ρ),yC (regs O) 109 [S.t (T.rows 1 2 fun i=>List.take 1 (List.drop (i.1*1) [ts a.fName,ts a.fApp]))] K=K y:=hK
 have hy:y.b 0=(nameB a.fName && nameB a.fApp):=by rw [hy];simp
 obtain ⟨z,hz,hL⟩:=retW (nameB a.fName && nameB a.fApp) 7
 obtain ⟨x,hx,hM⟩:=yC_int (by kernel_rfl) (c102 a.fNeed_0 a.fNeed_1)
 refine W66 a 1 _ ?_
 have e:e66_in (regs O) a (D66_0 (X66n (regs O) a 1))=(X66n (regs O) a 1).x0 (chk2 a.fNeed_0 a.fNeed_1) (wantE (nameB a.fName && nameB a.fApp) 7) (within a.fPrio (Int.negSucc 999) 1000):=by
  simp only [e66_in,hK,hy,hL,hz,hM,hx,D66_0]
  unfold within
  cases geI a.fPrio (Int.negSucc 999)<;>rfl
 rw [e,h0 0]
 simp only [firstL_cons,firstL_one]
 rfl
structure sm52 (a:D52):Prop where
 name:sm (sizeN a.fName)
 pool:sm (sizeN a.fPool)
 type:sm (sizeN a.fOffer_Type)
 zone:sm (sizeN a.fOffer_Zone)
 kind:sm (sizeN a.fOffer_Kind)
 opts:smR sm47 a.fOpts
def claimN (a:D52):Bool:=nameB a.fName && (nameB a.fPool && (nameB a.fOffer_Type && (nameB a.fOffer_Zone && nameB a.fOffer_Kind)))
def claimB (a:D52):Bool:=within a.fPhase 1 4 && (within a.fGen 0 1099511627776 && within a.fBorn 0 1099511627776)
def claimV (a:D52):Int:=orE (wantE (claimN a) 7) (orE (chk a.fPrice) (orE (chk2 a.fCap_0 a.fCap_1) (orE (offersV a.fOpts) (orE (wantE (within a.fTry 1 32) 1) (orE (wantE (leI (sizeS a.fId) 16) 2) (wantE (claimB a) 1))))))
theorem c62 (a:D52) (ha:sm52 a):Ret 62 [ag (e52 a)] (ii (claimV a)):=by
 obtain ⟨g,hg,hG⟩:=yC_bool (by kernel_rfl) (c112 a.fGen 0 1099511627776)
 obtain ⟨b,hb,hB⟩:=yC_bool (by kernel_rfl) (c112 a.fBorn 0 1099511627776)
 have h3:∀ m v0 v1 v2 v3 v4 v5 b,(X62n (regs O) a (m+1)).x3 v0 v1 v2 v3 v4 v5 b=some (ii (firstL [v2,v4,v0,v5,v1,v3,wantE b 1])):=fun m v0 v1 v2 v3 v4 v5 b=>by
  obtain ⟨y,hy,hK⟩:=retW b 1
  obtain ⟨z,hz,hL⟩:=retF [v2,v4,v0,v5,v1,v3,wantE b 1] (show (7:Nat) < 2 ^ 62 by decide)
  have hL:∀ (ρ:Type) (K:Y→Option ρ),yC (regs O) 107 [S.t (T.rows 1 7 fun i=>List.take 1 (List.drop (i.1*1) [ti v2,ti v4,ti v0,ti v5,ti v1,ti v3,ti (wantE b 1)]))] K=K z:=hL
  rw [X62n]
  generalize X62n (regs O) a m=X
  simp only [X62s,b62_3,hK,hy,hL,hz]
 have h2:∀ m v0 v1 v2 v3 v4 v5 b,(X62n (regs O) a (m+2)).x2 v0 v1 v2 v3 v4 v5 b=some (ii (firstL [v2,v4,v0,v5,v1,v3,wantE (b && within a.fBorn 0 1099511627776) 1])):=fun m v0 v1 v2 v3 v4 v5 c=>by
  have:=h3 m
  rw [X62n]
  generalize X62n (regs O) a (m+1)=X at this ⊢
  simp only [X62s,b62_2,D62_3,hB,hb,this]
  cases c<;>rfl
 have h1:∀ m v0 v1 v2 v3 v4 v5 b,(X62n (regs O) a (m+3)).x1 v0 v1 v2 v3 v4 v5 b=some (ii (firstL [v2,v4,v0,v5,v1,v3,wantE (b && (within a.fGen 0 1099511627776 && within a.fBorn 0 1099511627776)) 1])):=fun m v0 v1 v2 v3 v4 v5 c=>by
  have:=h2 m
  rw [X62n]
  generalize X62n (regs O) a (m+2)=X at this ⊢
  simp only [X62s,b62_1,D62_2,hG,hg,this]
  cases c<;>rfl
 have h0:∀ m v0 v1 v2 v3 b,(X62n (regs O) a (m+4)).x0 v0 v1 v2 v3 b=some (ii (firstL [v1,v2,v0,v3,wantE b 1,wantE (leI (sizeS a.fId) 16) 2,wantE (claimB a) 1])):=fun m v0 v1 v2 v3 c=>by
  obtain ⟨y,hy,hK⟩:=retW c 1
  obtain ⟨z,hz,hL⟩:=retW (leI (sizeS a.fId) 16) 2
  have:=h1 m
  rw [X62n]
  generalize X62n (regs O) a (m+3)=X at this ⊢
  simp only [X62s,b62_0,D62_1,hK,hy,hL,hz,this]
  unfold claimB within
  cases geI a.fPhase 1<;>rfl
 obtain ⟨y,hy,hK⟩:=retN [a.fName,a.fPool,a.fOffer_Type,a.fOffer_Zone,a.fOffer_Kind] (show (5:Nat) < 2 ^ 62 by decide) (fun x hx=>by
  simp only [List.mem_cons,List.not_mem_nil,or_false] at hx
  rcases hx with rfl | rfl | rfl | rfl | rfl
  ·exact ha.name
  ·exact ha.pool
  ·exact ha.type
  ·exact ha.zone
  ·exact ha.kind)
 have hK:∀ (ρ:Type) (K:Y→Option ρ),yC (regs O) 109 [S.t (T.rows 1 5 fun i=>List.take 1 (List.drop (i.1*1) [ts a.fName,ts a.fPool,ts a.fOffer_Type,ts a.fOffer_Zone,ts a.fOffer_Kind]))] K=K y:=hK
 have hy:y.b 0=claimN a:=by rw [hy];simp only [List.all_cons,List.all_nil,Bool.and_true];rfl
 obtain ⟨z,hz,hL⟩:=retW (claimN a) 7
 obtain ⟨x,hx,hM⟩:=yC_int (by kernel_rfl) (c113 a.fPrice)
 obtain ⟨w,hw,hN⟩:=yC_int (by kernel_rfl) (c102 a.fCap_0 a.fCap_1)
 obtain ⟨u,hu,hP⟩:=yC_int (by kernel_rfl) (c114 a.fOpts ha.opts)
 refine W62 a 4 _ ?_
 have e:e62_in (regs O) a (D62_0 (X62n (regs O) a 4))=(X62n (regs O) a 4).x0 (chk2 a.fCap_0 a.fCap_1) (wantE (claimN a) 7) (chk a.fPrice) (offersV a.fOpts) (within a.fTry 1 32):=by
  simp only [e62_in,hK,hy,hL,hz,hM,hx,hN,hw,hP,hu,D62_0]
  unfold within
  cases geI a.fTry 1<;>rfl
 rw [e,h0 0]
 simp only [firstL_cons,firstL_one]
 rfl
def firstFrom (g:Nat→Int):Nat→Nat→Int
 | _,0=>0
 | j,k+1=>orE (g j) (firstFrom g (j+1) k)
theorem firstFrom_eq (g:Nat→Int) (n:Nat):firstFrom g 0 n=firstE n g:=by
 have:∀ k j,firstFrom g j k=((List.range' j k).findSome? fun j=>bif !(eqI (g j) 0) then some (g j) else none).getD 0:=by
  intro k
  induction k with
  | zero=>intro j;rfl
  | succ k ih=>
   intro j
   unfold firstFrom
   simp only [List.range'_succ,List.findSome?_cons]
   unfold orE
   cases eqI (g j) 0 with
   | false=>rfl
   | true=>exact ih (j+1)
 rw [this,← List.range_eq_range']
 rfl
theorem orE_assoc (a b c:Int):orE (orE a b) c=orE a (orE b c):=by
 unfold orE
 cases h1:eqI a 0<;>simp [h1]
theorem subI_nat {j:Nat} (h:0 < j) (h2:j < 2 ^ 62):subI .i64 (j:Int) 1=((j - 1:Nat):Int):=by
 unfold subI
 rw [i64_in (by omega)]
 omega
structure sm122 (a:D122):Prop where
 nodes:smR (fun x:ByteArray=>sm (sizeN x)) a.fNodes
 fresh:sm (sizeN a.fFresh)
 pool:sm (sizeN a.fPool)
 opts:smR sm47 a.fOpts
def nodesV (a:Rw ByteArray) (j:Nat):Int:=orE (wantE (nameB (a.at j)) 7) (wantE (decide (j=0) || strLt (a.at (j - 1)) (a.at j)) 6)
def cmdB (a:D122):Bool:=within a.fCause 1 4 && within a.fStep 1 3
def cmdEnd (a:D122):Int:=orE (wantE (within a.fUntil 0 1099511627776) 1) (orE (wantE (noneB a.fFresh && noneB a.fPool) 7) (offersV a.fOpts))
def cmdV (a:D122):Int:=orE (wantE (cmdB a) 1) (orE (wantE (decide (a.fNodes.n≤4)) 3) (orE (wantE (decide (0 < a.fNodes.n)) 1) (orE (firstE a.fNodes.n (nodesV a.fNodes)) (cmdEnd a))))
theorem leI_ofN {n k:Nat}:leI (ofN n) (k:Int)=decide (n≤k):=by unfold leI ofN;simp
theorem gtI_ofN0 {n:Nat}:gtI (ofN n) 0=decide (0 < n):=by unfold gtI ofN;simp
theorem c68 (a:D122) (ha:sm122 a):Ret 68 [ag (e122 a)] (ii (cmdV a)):=by
 have hn:=sm_lt ha.nodes.1
 obtain ⟨y1,hy1,hK1⟩:=yC_bool (by kernel_rfl) (c112 a.fUntil 0 1099511627776)
 obtain ⟨y2,hy2,hK2⟩:=retW (within a.fUntil 0 1099511627776) 1
 obtain ⟨y3,hy3,hK3⟩:=yC_bool (by kernel_rfl) (c122 a.fFresh ha.fresh)
 obtain ⟨y4,hy4,hK4⟩:=yC_bool (by kernel_rfl) (c122 a.fPool ha.pool)
 obtain ⟨y5,hy5,hK5⟩:=yC_int (by kernel_rfl) (c114 a.fOpts ha.opts)
 have h4:∀ m v0 v1 b,(X68n (regs O) a (m+1)).x4 v0 v1 b=some (ii (firstL [v1,v0,wantE b 7,offersV a.fOpts])):=fun m v0 v1 b=>by
  obtain ⟨y,hy,hK⟩:=retW b 7
  obtain ⟨z,hz,hL⟩:=retF [v1,v0,wantE b 7,offersV a.fOpts] (show (4:Nat) < 2 ^ 62 by decide)
  have hL:∀ (ρ:Type) (K:Y→Option ρ),yC (regs O) 107 [S.t (T.rows 1 4 fun i=>List.take 1 (List.drop (i.1*1) [ti v1,ti v0,ti (wantE b 7),ti (offersV a.fOpts)]))] K=K z:=hL
  rw [X68n]
  generalize X68n (regs O) a m=X
  simp only [X68s,b68_4,hK,hK5,hy,hy5,hL,hz]
 have loop:∀ k j,j+k=a.fNodes.n→∀ e,Ev (fun m=>(X68n (regs O) a m).x3 e (j:Int)) (ii (orE e (orE (firstFrom (nodesV a.fNodes) j k) (cmdEnd a)))):=by
  intro k
  induction k with
  | zero=>
   intro j hj e
   obtain rfl:j=a.fNodes.n:=by omega
   refine Ev.one 2 fun m=>?_
   have:=h4 m
   show (X68n (regs O) a (m+2)).x3 e (a.fNodes.n:Int)=_
   rw [X68n]
   generalize X68n (regs O) a (m+1)=X at this ⊢
   simp only [X68s,b68_3,D68_4,ltI_nat,Nat.lt_irrefl,decide_false,cond_false,hK1,hK2,hK3,hK4,hy1,hy2,hy3,hy4,this,firstL_cons,firstL_one]
   unfold cmdEnd firstFrom
   cases noneB a.fFresh<;>rfl
  | succ k ih=>
   intro j hj e
   have hj1:j < a.fNodes.n:=by omega
   have hj2:j < 2 ^ 62:=by omega
   cases he:eqI e 0 with
   | false=>
    refine (Ev.one 1 fun m=>?_:Ev _ (ii e)).to (by unfold orE;rw [he];rfl)
    show (X68n (regs O) a (m+1)).x3 e (j:Int)=_
    rw [X68n]
    generalize X68n (regs O) a m=X
    simp only [X68s,b68_3,ltI_nat,elemO_nat hj1,hj1,decide_true,cond_true,he,Bool.not_false]
   | true=>
    obtain ⟨z,hz,hL⟩:=ret1 (ha.nodes.2 j hj1)
    obtain ⟨x,hx,hM⟩:=retW (nameB (a.fNodes.at j)) 7
    obtain ⟨w,hw,hN⟩:=retW (decide (j=0) || strLt (a.fNodes.at (j - 1)) (a.fNodes.at j)) 6
    obtain ⟨u,hu,hP⟩:=retF2 (wantE (nameB (a.fNodes.at j)) 7) (wantE (decide (j=0) || strLt (a.fNodes.at (j - 1)) (a.fNodes.at j)) 6)
    have step:∀ m,(X68n (regs O) a (m+2)).x3 e (j:Int)=(X68n (regs O) a m).x3 (nodesV a.fNodes j) ((j+1:Nat):Int):=fun m=>by
     have h5:∀ m b,b=(decide (j=0) || strLt (a.fNodes.at (j - 1)) (a.fNodes.at j))→(X68n (regs O) a (m+1)).x5 (wantE (nameB (a.fNodes.at j)) 7) (j:Int) b=(X68n (regs O) a m).x3 (nodesV a.fNodes j) ((j+1:Nat):Int):=fun m b hb=>by
      subst hb
      rw [X68n]
      generalize X68n (regs O) a m=X
      simp only [X68s,b68_5,D68_3,hN,hw,hP,hu,addI_nat1 hj2]
      rfl
     have:=h5 m
     rw [X68n]
     generalize X68n (regs O) a (m+1)=X at this ⊢
     simp only [X68s,b68_3,D68_5,ltI_nat,elemO_nat hj1,hj1,decide_true,cond_true,he,Bool.not_true,cond_false,get_nat,hL,hz,hM,hx,eqI_nat0]
     by_cases h0:j=0
     ·simp only [h0,decide_true,cond_true]
      rw [h0] at this
      exact this true rfl
     ·simp only [h0,decide_false,cond_false]
      have hs:=subI_nat (show 0 < j by omega) hj2
      have hlt:j - 1 < a.fNodes.n:=by omega
      rw [hs,elemO_nat hlt]
      simp only [get_nat]
      exact this _ (by simp [h0])
    refine (Ev.by 2 step (ih (j+1) (by omega) (nodesV a.fNodes j))).to ?_
    rw [eqI_true.1 he]
    refine congrArg ii ?_
    show orE (nodesV a.fNodes j) (orE (firstFrom (nodesV a.fNodes) (j+1) k) (cmdEnd a))=orE (orE (nodesV a.fNodes j) (firstFrom (nodesV a.fNodes) (j+1) k)) (cmdEnd a)
    rw [orE_assoc]
 have h3:=loop a.fNodes.n 0 (by omega)
 simp only [firstFrom_eq] at h3
 have h2:∀ b,Ev (fun m=>(X68n (regs O) a m).x2 b) (ii (orE (wantE b 1) (orE (wantE (decide (a.fNodes.n≤4)) 3) (orE (wantE (decide (0 < a.fNodes.n)) 1) (orE (firstE a.fNodes.n (nodesV a.fNodes)) (cmdEnd a)))))):=fun b=>by
  obtain ⟨y,hy,hK⟩:=retW b 1
  obtain ⟨z,hz,hL⟩:=retW (decide (a.fNodes.n≤4)) 3
  obtain ⟨x,hx,hM⟩:=retW (decide (0 < a.fNodes.n)) 1
  obtain ⟨w,hw,hN⟩:=retF [wantE b 1,wantE (decide (a.fNodes.n≤4)) 3,wantE (decide (0 < a.fNodes.n)) 1] (show (3:Nat) < 2 ^ 62 by decide)
  have hN:∀ (ρ:Type) (K:Y→Option ρ),yC (regs O) 107 [S.t (T.rows 1 3 fun i=>List.take 1 (List.drop (i.1*1) [ti (wantE b 1),ti (wantE (decide (a.fNodes.n≤4)) 3),ti (wantE (decide (0 < a.fNodes.n)) 1)]))] K=K w:=hN
  have l4:leI (ofN a.fNodes.n) 4=decide (a.fNodes.n≤4):=leI_ofN (k:=4)
  refine (Ev.by 1 (fun m=>?_) (h3 (firstL [wantE b 1,wantE (decide (a.fNodes.n≤4)) 3,wantE (decide (0 < a.fNodes.n)) 1]))).to ?_
  ·rw [X68n]
   generalize X68n (regs O) a m=X
   simp only [X68s,b68_2,D68_3,hK,hy,l4,gtI_ofN0,hL,hz,hM,hx,hN,hw]
   rfl
  ·simp only [firstL_cons,firstL_one,orE_assoc]
 have h1:∀ b,Ev (fun m=>(X68n (regs O) a m).x1 b) (ii (orE (wantE (b && leI a.fStep 3) 1) (orE (wantE (decide (a.fNodes.n≤4)) 3) (orE (wantE (decide (0 < a.fNodes.n)) 1) (orE (firstE a.fNodes.n (nodesV a.fNodes)) (cmdEnd a)))))):=fun b=>
  Ev.by 1 (fun m=>by
   rw [X68n]
   generalize X68n (regs O) a m=X
   cases b<;>rfl) (h2 (b && leI a.fStep 3))
 have h0:∀ b,Ev (fun m=>(X68n (regs O) a m).x0 b) (ii (orE (wantE ((b && geI a.fStep 1) && leI a.fStep 3) 1) (orE (wantE (decide (a.fNodes.n≤4)) 3) (orE (wantE (decide (0 < a.fNodes.n)) 1) (orE (firstE a.fNodes.n (nodesV a.fNodes)) (cmdEnd a)))))):=fun b=>
  Ev.by 1 (fun m=>by
   rw [X68n]
   generalize X68n (regs O) a m=X
   cases b<;>rfl) (h1 (b && geI a.fStep 1))
 obtain ⟨n,h⟩:=(h0 (within a.fCause 1 4)).get
 refine W68 a n _ ?_
 have e:e68_in (regs O) a (D68_0 (X68n (regs O) a n))=(X68n (regs O) a n).x0 (within a.fCause 1 4):=by
  generalize X68n (regs O) a n=X
  unfold e68_in within
  cases geI a.fCause 1<;>rfl
 rw [e,h]
 unfold cmdV cmdB
 rw [Bool.and_assoc]
 rfl
theorem c182 (a:Rw ByteArray) (b:ByteArray) (ha:a.n < 2 ^ 62):Ret 182 [S.t (T.rows 1 a.n fun i=>[ts (a.get i)]),ss b] (ii (idx a.n fun j=>strEq b (a.at j))):=by
 have key:=Ev.idxC (X:=fun m j=>(X182n (regs O) a b m).x0 (j:Int)) 1 a.n (fun j=>strEq b (a.at j)) (fun m j hj=>by
  have hj2:j < 2 ^ 62:=by omega
  simp only [X182n,X182s,b182_0,D182_0,ltI_nat,elemO_nat hj,get_nat,hj,decide_true,cond_true,addI_nat1 hj2]) (fun m=>by
  simp only [X182n,X182s,b182_0,D182_0,ltI_nat,Nat.lt_irrefl,decide_false,cond_false];rfl)
 obtain ⟨n,h⟩:=key.get
 exact W182 a b n _ h
theorem c145 (a:Rw ByteArray) (b:ByteArray) (ha:a.n < 2 ^ 62):Ret 145 [S.t (T.rows 1 a.n fun i=>[ts (a.get i)]),ss b] (bb ((List.range a.n).any fun j=>strEq b (a.at j))):=by
 obtain ⟨y,hy,hK⟩:=yC_int (by kernel_rfl) (c182 a b ha)
 exact W145 a b 0 _ (by simp only [e145_in,hK,hy,idx_ge])
theorem any_rwL {α:Type} [Inhabited α] {l:List α} {p:α→Bool}:((List.range (rwL l).n).any fun j=>p ((rwL l).at j))=l.any p:=by
 rw [Bool.eq_iff_iff]
 simp only [List.any_eq_true,List.mem_range]
 constructor
 ·rintro ⟨j,hj,hp⟩
  have hj:j < l.length:=hj
  rw [rwL_get hj] at hp
  exact ⟨_,List.getElem_mem hj,hp⟩
 ·rintro ⟨x,hx,hp⟩
  obtain ⟨j,hj,rfl⟩:=List.getElem_of_mem hx
  exact ⟨j,hj,by rw [rwL_get hj];exact hp⟩
def ownL:List ByteArray:=[bs [122,111,110,101],bs [116,121,112,101],bs [107,105,110,100],bs [112,111,111,108],bs [104,111,115,116]]
def ownB (a:ByteArray):Bool:=ownL.any fun x=>strEq a x
theorem retOwn (a:ByteArray):∃ y:Y,y.b 0=ownB a∧∀ (ρ:Type) (K:Y→Option ρ),yC (regs O) 145 [S.t (T.rows 1 5 fun i=>List.take 1 (List.drop (i.1*1) [ts (bs [122,111,110,101]),ts (bs [116,121,112,101]),ts (bs [107,105,110,100]),ts (bs [112,111,111,108]),ts (bs [104,111,115,116])])),ss a] K=K y:=by
 have h:=c145 (rwL ownL) a (show (5:Nat) < 2 ^ 62 by decide)
 rw [any_rwL] at h
 obtain ⟨y,hy,hK⟩:=yC_bool (by kernel_rfl) h
 refine ⟨y,hy,fun ρ K=>?_⟩
 rw [← hK ρ K]
 have:=lit1 ownL ts
 exact congrArg (fun g:Fin 5→List T=>yC (regs O) 145 [S.t (T.rows 1 5 g),ss a] K) this
def labelV (a:Rw D88) (j:Nat):Int:=orE (wantE (nameB (a.at j).fKey) 7) (orE (wantE (!ownB (a.at j).fKey) 1) (orE (wantE (valB (a.at j).fVal) 20) (wantE (!(List.range j).any (fun i=>strEq (a.at i).fKey (a.at j).fKey)) 6)))
def labelsV (a:Rw D88):Int:=bif decide (4 < a.n) then 3 else firstE a.n (labelV a)
theorem c104 (a:Rw D88) (ha:smR sm88 a):Ret 104 [S.t (T.rows 2 a.n fun i=>e88 (a.get i))] (ii (labelsV a)):=by
 have hn:=sm_lt ha.1
 have key:=Ev.errsC (X:=fun m j=>(X104n (regs O) a m).x0 (j:Int)) 1 a.n (labelV a) (fun m j hj=>by
  have hj2:j < 2 ^ 62:=by omega
  obtain ⟨y,hy,hK⟩:=yC_bool (by kernel_rfl) (c101 (a.at j).fKey (ha.2 j hj).1)
  obtain ⟨z,hz,hL⟩:=yC_bool (by kernel_rfl) (c146 (a.at j).fVal (ha.2 j hj).2)
  obtain ⟨w,hw,hN⟩:=retOwn (a.at j).fKey
  obtain ⟨x,hx,hM⟩:=yC_bool (by kernel_rfl) (c147 (a.sub j (by omega)) (a.at j) (by rw [sub_n];omega))
  rw [any_sub (p:=fun (t:D88)=>strEq t.fKey (a.at j).fKey)] at hx
  simp only [Rw.sub] at hM
  show (X104n (regs O) a (m+1)).x0 (j:Int)=bif !eqI (labelV a j) 0 then some (ii (labelV a j)) else (X104n (regs O) a m).x0 ((j+1:Nat):Int)
  rw [X104n]
  generalize X104n (regs O) a m=X
  simp only [X104s,b104_0,D104_0,ltI_nat,elemO_nat hj,get_nat,hj,decide_true,cond_true,addI_nat1 hj2,hK,hy,hL,hz,hN,hw,le_nat (Nat.le_of_lt hj),subO_nat (Nat.le_of_lt hj),hM,hx]
  unfold labelV wantE orE
  cases nameB (a.at j).fKey<;>cases ownB (a.at j).fKey<;>cases valB (a.at j).fVal<;>cases (List.range j).any (fun i=>strEq (a.at i).fKey (a.at j).fKey)<;>rfl) (fun m=>by
  show (X104n (regs O) a (m+1)).x0 (a.n:Int)=_
  rw [X104n]
  generalize X104n (regs O) a m=X
  simp only [X104s,b104_0,D104_0,ltI_nat,Nat.lt_irrefl,decide_false,cond_false])
 obtain ⟨n,h⟩:=key.get
 refine W104 a n _ ?_
 have e:gtI (ofN a.n) 4=decide (4 < a.n):=gtI_ofN (k:=4)
 unfold labelsV
 simp only [e104_in,e]
 cases decide (4 < a.n) with
 | true=>rfl
 | false=>exact h
def sm109 (a:D109):Prop:=sm (sizeN a.fZone)∧sm (sizeN a.fKind)
def same109 (a b:D109):Bool:=strEq a.fZone b.fZone && strEq a.fKind b.fKind
theorem c150 (a b:D109):Ret 150 [ag (e109 a),S.pt (e109 b)] (bb (same109 a b)):=W150 a b 1 _ (by
 unfold e150_in same109
 cases strEq a.fZone b.fZone<;>rfl)
theorem c185 (a:Rw D109) (b:D109) (ha:a.n < 2 ^ 62):Ret 185 [S.t (T.rows 4 a.n fun i=>e109 (a.get i)),S.fn (Go.Fn.func 150) [] [S.pt (e109 b)]] (ii (idx a.n fun j=>same109 (a.at j) b)):=by
 have key:=Ev.idxC (X:=fun m j=>(X185n (regs O) a b m).x0 (j:Int)) 1 a.n (fun j=>same109 (a.at j) b) (fun m j hj=>by
  have hj2:j < 2 ^ 62:=by omega
  obtain ⟨y,hy,hK⟩:=yC_bool (by kernel_rfl) (c150 (a.at j) b)
  simp only [X185n,X185s,b185_0,D185_0,ltI_nat,elemO_nat hj,get_nat,hj,decide_true,cond_true,addI_nat1 hj2,hK,hy]) (fun m=>by
  simp only [X185n,X185s,b185_0,D185_0,ltI_nat,Nat.lt_irrefl,decide_false,cond_false];rfl)
 obtain ⟨n,h⟩:=key.get
 exact W185 a b n _ h
theorem c149 (a:Rw D109) (b:D109) (ha:a.n < 2 ^ 62):Ret 149 [S.t (T.rows 4 a.n fun i=>e109 (a.get i)),S.fn (Go.Fn.func 150) [] [S.pt (e109 b)]] (bb ((List.range a.n).any fun j=>same109 (a.at j) b)):=by
 obtain ⟨y,hy,hK⟩:=yC_int (by kernel_rfl) (c185 a b ha)
 exact W149 a b 0 _ (by simp only [e149_in,hK,hy,idx_ge])
def offeringV (a:Rw D109) (j:Nat):Int:=orE (wantE (nameB (a.at j).fZone && nameB (a.at j).fKind) 7) (orE (chk (a.at j).fPrice) (wantE (!(List.range j).any (fun i=>same109 (a.at i) (a.at j))) 6))
def offeringsV (a:Rw D109):Int:=bif decide (6 < a.n) then 3 else firstE a.n (offeringV a)
theorem c105 (a:Rw D109) (ha:smR sm109 a):Ret 105 [S.t (T.rows 4 a.n fun i=>e109 (a.get i))] (ii (offeringsV a)):=by
 have hn:=sm_lt ha.1
 have key:=Ev.errsC (X:=fun m j=>(X105n (regs O) a m).x0 (j:Int)) 1 a.n (offeringV a) (fun m j hj=>by
  have hj2:j < 2 ^ 62:=by omega
  obtain ⟨y,hy,hK⟩:=yC_bool (by kernel_rfl) (c101 (a.at j).fZone (ha.2 j hj).1)
  obtain ⟨z,hz,hL⟩:=yC_bool (by kernel_rfl) (c101 (a.at j).fKind (ha.2 j hj).2)
  obtain ⟨w,hw,hN⟩:=yC_int (by kernel_rfl) (c113 (a.at j).fPrice)
  obtain ⟨x,hx,hM⟩:=yC_bool (by kernel_rfl) (c149 (a.sub j (by omega)) (a.at j) (by rw [sub_n];omega))
  rw [any_sub (p:=fun (t:D109)=>same109 t (a.at j))] at hx
  simp only [Rw.sub] at hM
  show (X105n (regs O) a (m+1)).x0 (j:Int)=bif !eqI (offeringV a j) 0 then some (ii (offeringV a j)) else (X105n (regs O) a m).x0 ((j+1:Nat):Int)
  rw [X105n]
  generalize X105n (regs O) a m=X
  simp only [X105s,b105_0,D105_0,ltI_nat,elemO_nat hj,get_nat,hj,decide_true,cond_true,addI_nat1 hj2,hK,hy,hL,hz,hN,hw,le_nat (Nat.le_of_lt hj),subO_nat (Nat.le_of_lt hj),hM,hx]
  unfold offeringV wantE orE
  cases nameB (a.at j).fZone<;>cases nameB (a.at j).fKind<;>try rfl
  cases hc:eqI (chk (a.at j).fPrice) 0 with
  | false=>simp [hc,show eqI 0 0=true from rfl]
  | true=>cases (List.range j).any (fun i=>same109 (a.at i) (a.at j))<;>rfl) (fun m=>by
  show (X105n (regs O) a (m+1)).x0 (a.n:Int)=_
  rw [X105n]
  generalize X105n (regs O) a m=X
  simp only [X105s,b105_0,D105_0,ltI_nat,Nat.lt_irrefl,decide_false,cond_false])
 obtain ⟨n,h⟩:=key.get
 refine W105 a n _ ?_
 have e:gtI (ofN a.n) 6=decide (6 < a.n):=gtI_ofN (k:=6)
 unfold offeringsV
 simp only [e105_in,e]
 cases decide (6 < a.n) with
 | true=>rfl
 | false=>exact h
structure sm112 (a:D112):Prop where
 name:sm (sizeN a.fName)
 labels:smR sm88 a.fLabels
 offers:smR sm109 a.fOffers
def typeV (a:D112):Int:=orE (wantE (nameB a.fName) 7) (orE (chk2 a.fCap_0 a.fCap_1) (orE (chk2 a.fOver_0 a.fOver_1) (orE (wantE (fits a.fOver_0 a.fOver_1 a.fCap_0 a.fCap_1) 1) (orE (labelsV a.fLabels) (offeringsV a.fOffers)))))
theorem c58 (a:D112) (ha:sm112 a):Ret 58 [ag (e112 a)] (ii (typeV a)):=by
 obtain ⟨y,hy,hK⟩:=yC_bool (by kernel_rfl) (c101 a.fName ha.name)
 obtain ⟨y1,hy1,hK1⟩:=yC_int (by kernel_rfl) (c102 a.fCap_0 a.fCap_1)
 obtain ⟨y2,hy2,hK2⟩:=yC_int (by kernel_rfl) (c102 a.fOver_0 a.fOver_1)
 obtain ⟨y3,hy3,hK3⟩:=yC_bool (by kernel_rfl) (c103 a.fOver_0 a.fOver_1 a.fCap_0 a.fCap_1)
 obtain ⟨y4,hy4,hK4⟩:=yC_int (by kernel_rfl) (c104 a.fLabels ha.labels)
 obtain ⟨y5,hy5,hK5⟩:=yC_int (by kernel_rfl) (c105 a.fOffers ha.offers)
 refine W58 a 3 _ ?_
 simp only [e58_in,D58_0,D58_1,D58_2,X58n,X58s,b58_0,b58_1,b58_2,hK,hK1,hK2,hK3,hK4,hK5,hy,hy1,hy2,hy3,hy4,hy5,or_some,want_some (e:=7) rfl,want_some (e:=1) rfl]
 rfl
theorem c60 (a b:D112):Ret 60 [ag (e112 a),S.pt (e112 b)] (bb (strEq a.fName b.fName)):=W60 a b 0 _ rfl
theorem c106 (a:Rw D112) (b:D112) (ha:a.n < 2 ^ 62):Ret 106 [S.t (T.rows 7 a.n fun i=>e112 (a.get i)),S.fn (Go.Fn.func 60) [] [S.pt (e112 b)]] (ii (idx a.n fun j=>strEq (a.at j).fName b.fName)):=by
 have key:=Ev.idxC (X:=fun m j=>(X106n (regs O) a b m).x0 (j:Int)) 1 a.n (fun j=>strEq (a.at j).fName b.fName) (fun m j hj=>by
  have hj2:j < 2 ^ 62:=by omega
  obtain ⟨y,hy,hK⟩:=yC_bool (by kernel_rfl) (c60 (a.at j) b)
  simp only [X106n,X106s,b106_0,D106_0,ltI_nat,elemO_nat hj,get_nat,hj,decide_true,cond_true,addI_nat1 hj2,hK,hy]) (fun m=>by
  simp only [X106n,X106s,b106_0,D106_0,ltI_nat,Nat.lt_irrefl,decide_false,cond_false];rfl)
 obtain ⟨n,h⟩:=key.get
 exact W106 a b n _ h
theorem c59 (a:Rw D112) (b:D112) (ha:a.n < 2 ^ 62):Ret 59 [S.t (T.rows 7 a.n fun i=>e112 (a.get i)),S.fn (Go.Fn.func 60) [] [S.pt (e112 b)]] (bb ((List.range a.n).any fun j=>strEq (a.at j).fName b.fName)):=by
 obtain ⟨y,hy,hK⟩:=yC_int (by kernel_rfl) (c106 a b ha)
 exact W59 a b 0 _ (by simp only [e59_in,hK,hy,idx_ge])
def typeE (a:Rw D112) (j:Nat):Int:=orE (typeV (a.at j)) (wantE (!(List.range j).any (fun i=>strEq (a.at i).fName (a.at j).fName)) 6)
def typesV (a:Rw D112):Int:=bif decide (12 < a.n) then 3 else firstE a.n (typeE a)
theorem c24 (a:Rw D112) (ha:smR sm112 a):Ret 24 [S.t (T.rows 7 a.n fun i=>e112 (a.get i))] (ii (typesV a)):=by
 have hn:=sm_lt ha.1
 have key:=Ev.errsC (X:=fun m j=>(X24n (regs O) a m).x0 (j:Int)) 1 a.n (typeE a) (fun m j hj=>by
  have hj2:j < 2 ^ 62:=by omega
  obtain ⟨y,hy,hK⟩:=yC_int (by kernel_rfl) (c58 (a.at j) (ha.2 j hj))
  obtain ⟨x,hx,hM⟩:=yC_bool (by kernel_rfl) (c59 (a.sub j (by omega)) (a.at j) (by rw [sub_n];omega))
  rw [any_sub (p:=fun (t:D112)=>strEq t.fName (a.at j).fName)] at hx
  simp only [Rw.sub] at hM
  show (X24n (regs O) a (m+1)).x0 (j:Int)=bif !eqI (typeE a j) 0 then some (ii (typeE a j)) else (X24n (regs O) a m).x0 ((j+1:Nat):Int)
  rw [X24n]
  generalize X24n (regs O) a m=X
  simp only [X24s,b24_0,D24_0,ltI_nat,elemO_nat hj,get_nat,hj,decide_true,cond_true,addI_nat1 hj2,hK,hy,le_nat (Nat.le_of_lt hj),subO_nat (Nat.le_of_lt hj),hM,hx]
  unfold typeE wantE orE
  cases hc:eqI (typeV (a.at j)) 0 with
  | false=>simp [hc]
  | true=>cases (List.range j).any (fun i=>strEq (a.at i).fName (a.at j).fName)<;>rfl) (fun m=>by
  show (X24n (regs O) a (m+1)).x0 (a.n:Int)=_
  rw [X24n]
  generalize X24n (regs O) a m=X
  simp only [X24s,b24_0,D24_0,ltI_nat,Nat.lt_irrefl,decide_false,cond_false])
 obtain ⟨n,h⟩:=key.get
 refine W24 a n _ ?_
 have e:gtI (ofN a.n) 12=decide (12 < a.n):=gtI_ofN (k:=12)
 unfold typesV
 simp only [e24_in,e]
 cases decide (12 < a.n) with
 | true=>rfl
 | false=>exact h
abbrev Ent:=D112 × D109
def keyOf (p:Ent):D47:=⟨p.1.fName,p.2.fZone,p.2.fKind⟩
def entS (p:Ent):S:=S.agg (ss p.1.fName::ii p.1.fCap_0::ii p.1.fCap_1::ii p.1.fOver_0::ii p.1.fOver_1::S.t (T.rows 2 p.1.fLabels.n fun i=>e88 (p.1.fLabels.get i))::S.t (T.rows 4 p.1.fOffers.n fun i=>e109 (p.1.fOffers.get i))::List.map S.t (e109 p.2))
def encM (l:List Ent):List (S × S):=l.map fun p=>(ag (e47 (keyOf p)),entS p)
theorem encM_app (l r:List Ent):encM (l++r)=encM l++encM r:=by simp [encM]
theorem eqKey47 (a b:D47):eqKey O.P O.K 47 (ag (e47 a)) (ag (e47 b))=some (eq47 a b):=by kernel_rfl
theorem find_enc (b:D47):∀ (l:List Ent) (i:Nat),findS O.P O.K 47 (ag (e47 b)) (encM l) i=some ((l.findSome? fun p=>bif eq47 b (keyOf p) then some p else none).bind fun _=>none)∨∃ k p,l.find? (fun p=>eq47 b (keyOf p))=some p∧findS O.P O.K 47 (ag (e47 b)) (encM l) i=some (some (k,entS p))
 | [],i=>.inl rfl
 | p::l,i=>by
  have hc:findS O.P O.K 47 (ag (e47 b)) (encM (p::l)) i=bif eq47 b (keyOf p) then some (some (i,entS p)) else findS O.P O.K 47 (ag (e47 b)) (encM l) (i+1):=by
   show (eqKey O.P O.K 47 (ag (e47 b)) (ag (e47 (keyOf p)))).bind _=_
   rw [eqKey47]
   rfl
  rw [hc]
  cases h:eq47 b (keyOf p) with
  | true=>exact .inr ⟨i,p,by simp [h],rfl⟩
  | false=>
   rcases find_enc b l (i+1) with h1 | ⟨k,q,h1,h2⟩
   ·refine .inl ?_
    rw [cond_false,h1]
    simp [h]
   ·exact .inr ⟨k,q,by simp [h,h1],h2⟩
theorem find_none' {b:D47} {l:List Ent} (h:l.find? (fun p=>eq47 b (keyOf p))=none) (i:Nat):findS O.P O.K 47 (ag (e47 b)) (encM l) i=some none:=by
 rcases find_enc b l i with h1 | ⟨k,p,h1,_⟩
 ·rw [h1]
  congr 1
  cases l.findSome? (fun p=>bif eq47 b (keyOf p) then some p else none)<;>rfl
 ·rw [h] at h1;cases h1
theorem find_some' {b:D47} {l:List Ent} {p:Ent} (h:l.find? (fun p=>eq47 b (keyOf p))=some p) (i:Nat):∃ k,findS O.P O.K 47 (ag (e47 b)) (encM l) i=some (some (k,entS p)):=by
 rcases find_enc b l i with h1 | ⟨k,q,h1,h2⟩
 ·exfalso
  have:∀ (l:List Ent) (i:Nat),l.find? (fun p=>eq47 b (keyOf p))=some p→findS O.P O.K 47 (ag (e47 b)) (encM l) i≠some none:=by
   intro l
   induction l with
   | nil=>intro i h;cases h
   | cons q l ih=>
    intro i h
    have hc:findS O.P O.K 47 (ag (e47 b)) (encM (q::l)) i=bif eq47 b (keyOf q) then some (some (i,entS q)) else findS O.P O.K 47 (ag (e47 b)) (encM l) (i+1):=by
     show (eqKey O.P O.K 47 (ag (e47 b)) (ag (e47 (keyOf q)))).bind _=_
     rw [eqKey47]
     rfl
    rw [hc]
    cases hq:eq47 b (keyOf q) with
    | true=>simp
    | false=>
     rw [cond_false]
     exact ih (i+1) (by simpa [hq] using h)
  refine this l i h ?_
  rw [h1]
  congr 1
  cases l.findSome? (fun p=>bif eq47 b (keyOf p) then some p else none)<;>rfl
 ·rw [h] at h1
  obtain rfl:=Option.some.inj h1
  exact ⟨k,h2⟩
theorem close_key (get:Nat→Option B) (d:Nat) (a:D47):closeS get (d+40) (ag (e47 a))=some (ag (e47 a),[]):=rfl
theorem close_ent (get:Nat→Option B) (d:Nat) (p:Ent):closeS get (d+40) (entS p)=some (entS p,[]):=rfl
theorem closeE_enc (get:Nat→Option B):∀ (l:List Ent) (d:Nat),closeE get (d+41+l.length) (encM l)=some (encM l,[])
 | [],d=>rfl
 | p::l,d=>by
  have e:d+41+(p::l).length=(d+41+l.length)+1:=by simp;omega
  rw [e]
  show closeE get ((d+41+l.length)+1) ((ag (e47 (keyOf p)),entS p)::encM l)=_
  unfold closeE
  have e2:d+41+l.length=(d+1+l.length)+40:=by omega
  have h1:=close_key get (d+1+l.length) (keyOf p)
  have h2:=close_ent get (d+1+l.length) p
  rw [← e2] at h1 h2
  simp only [h1,h2,closeE_enc get l d]
  rfl
theorem flat_enc {d:Nat} {l:List Ent} (h:l.length+41≤d):FlatE d (encM l) where
 close:=fun get=>by
  have:=closeE_enc get l (d - 41 - l.length)
  rwa [show d - 41 - l.length+41+l.length=d by omega] at this
 refs:=by
  induction l with
  | nil=>rfl
  | cons p l ih=>
   show refsE ((ag (e47 (keyOf p)),entS p)::encM l)=[]
   unfold refsE
   rw [ih (by simp at h;omega)]
   rfl
 ren:=fun m=>by
  induction l with
  | nil=>rfl
  | cons p l ih=>
   show renE m ((ag (e47 (keyOf p)),entS p)::encM l)=_
   unfold renE
   rw [ih (by simp at h;omega)]
   rfl
theorem flatW_enc {ρ:Type} {d:Nat} {l:List Ent} {K:Option ρ} (h:l.length+41≤d):flatW d (encM l) K=K:=by
 unfold flatW
 exact if_pos (flat_enc h)
theorem updW_new {ρ:Type} {l:List Ent} {p:Ent} {K:List (S × S)→Option ρ} (h:l.find? (fun q=>eq47 (keyOf p) (keyOf q))=none):updW O.P O.K 47 (encM l) (ag (e47 (keyOf p))) (entS p) K=K (encM (l++[p])):=by
 unfold updW
 rw [find_none' h]
 rw [encM_app]
 rfl
theorem orE_eq_zero {a b:Int}:orE a b=0↔a=0∧b=0:=by
 unfold orE
 cases h:eqI a 0 with
 | false=>
  have:=eqI_false.1 h
  simp [this]
 | true=>
  have:=eqI_true.1 h
  simp [this]
theorem wantE_eq_zero {b:Bool} {e:Int} (he:e≠0):wantE b e=0↔b=true:=by
 unfold wantE
 cases b<;>simp [he]
theorem firstE_eq_zero {n:Nat} {g:Nat→Int}:firstE n g=0↔∀ j,j < n→g j=0:=by
 rw [← firstFrom_eq]
 have:∀ k j,firstFrom g j k=0↔∀ i,j≤i→i < j+k→g i=0:=by
  intro k
  induction k with
  | zero=>intro j;simp [firstFrom];omega
  | succ k ih=>
   intro j
   unfold firstFrom
   rw [orE_eq_zero,ih]
   constructor
   ·rintro ⟨h1,h2⟩ i hi hk
    by_cases h:i=j
    ·rw [h];exact h1
    ·exact h2 i (by omega) (by omega)
   ·intro h
    exact ⟨h j (by omega) (by omega),fun i hi hk=>h i (by omega) (by omega)⟩
 rw [this]
 exact ⟨fun h j hj=>h j (by omega) (by omega),fun h i _ hi=>h i (by omega)⟩
structure TypesOk (a:Rw D112):Prop where
 few:a.n≤12
 names:∀ i j,i < j→j < a.n→strEq (a.at i).fName (a.at j).fName=false
 offers:∀ i,i < a.n→(a.at i).fOffers.n≤6
 apart:∀ i,i < a.n→∀ k l,k < l→l < (a.at i).fOffers.n→same109 ((a.at i).fOffers.at k) ((a.at i).fOffers.at l)=false
theorem typesOk {a:Rw D112} (h:typesV a=0):TypesOk a:=by
 unfold typesV at h
 cases hm:decide (12 < a.n) with
 | true=>rw [hm] at h;exact absurd (show (3:Int)=0 from h) (by decide)
 | false=>
  rw [hm,cond_false] at h
  have hf:=firstE_eq_zero.1 h
  have ht:∀ j,j < a.n→typeV (a.at j)=0∧(!(List.range j).any (fun i=>strEq (a.at i).fName (a.at j).fName))=true:=fun j hj=>by
   have:=hf j hj
   unfold typeE at this
   rw [orE_eq_zero,wantE_eq_zero (by decide)] at this
   exact this
  have ho:∀ j,j < a.n→offeringsV (a.at j).fOffers=0:=fun j hj=>by
   have:=(ht j hj).1
   unfold typeV at this
   simp only [orE_eq_zero] at this
   exact this.2.2.2.2.2
  have hof:∀ j,j < a.n→(a.at j).fOffers.n≤6∧∀ l,l < (a.at j).fOffers.n→offeringV (a.at j).fOffers l=0:=fun j hj=>by
   have:=ho j hj
   unfold offeringsV at this
   cases hm:decide (6 < (a.at j).fOffers.n) with
   | true=>rw [hm] at this;exact absurd (show (3:Int)=0 from this) (by decide)
   | false=>
    rw [hm,cond_false] at this
    exact ⟨by have:=of_decide_eq_false hm;omega,firstE_eq_zero.1 this⟩
  refine ⟨by have:=of_decide_eq_false hm;omega,fun i j hij hj=>?_,fun i hi=>(hof i hi).1,fun i hi k l hkl hl=>?_⟩
  ·have:=(ht j hj).2
   rw [Bool.not_eq_true'] at this
   have:=List.any_eq_false.1 this i (List.mem_range.2 hij)
   simpa using this
  ·have:=(hof i hi).2 l hl
   unfold offeringV at this
   simp only [orE_eq_zero] at this
   have:=(wantE_eq_zero (show (6:Int)≠0 by decide)).1 this.2.2
   rw [Bool.not_eq_true'] at this
   have:=List.any_eq_false.1 this k (List.mem_range.2 hkl)
   simpa using this
def offersOf (t:D112) (k:Nat):List Ent:=(List.range k).map fun k=>(t,t.fOffers.at k)
def prI (a:Rw D112) (i:Nat):List Ent:=(List.range i).flatMap fun i=>offersOf (a.at i) (a.at i).fOffers.n
theorem prI_succ (a:Rw D112) (i:Nat):prI a (i+1)=prI a i++offersOf (a.at i) (a.at i).fOffers.n:=by
 unfold prI
 rw [List.range_succ,List.flatMap_append]
 simp
theorem offersOf_succ (t:D112) (k:Nat):offersOf t (k+1)=offersOf t k++[(t,t.fOffers.at k)]:=by
 unfold offersOf
 rw [List.range_succ]
 simp
theorem prI_len {a:Rw D112} (h:TypesOk a):∀ i,i≤a.n→(prI a i).length≤6*i
 | 0,_=>by simp [prI]
 | i+1,hi=>by
  rw [prI_succ,List.length_append]
  have:=prI_len h i (by omega)
  have:=h.offers i (by omega)
  have:(offersOf (a.at i) (a.at i).fOffers.n).length=(a.at i).fOffers.n:=by simp [offersOf]
  omega
theorem pr_new {a:Rw D112} (h:TypesOk a) {i k:Nat} (hi:i < a.n) (hk:k < (a.at i).fOffers.n):(prI a i++offersOf (a.at i) k).find? (fun q=>eq47 (keyOf (a.at i,(a.at i).fOffers.at k)) (keyOf q))=none:=by
 rw [List.find?_eq_none]
 intro q hq
 rcases List.mem_append.1 hq with hq | hq
 ·obtain ⟨i',hi',hq⟩:=List.mem_flatMap.1 hq
  obtain ⟨k',_,rfl⟩:=List.mem_map.1 hq
  have:=h.names i' i (List.mem_range.1 hi') hi
  rw [strEq_comm] at this
  simp [eq47,keyOf,this]
 ·obtain ⟨k',hk',rfl⟩:=List.mem_map.1 hq
  have:=h.apart i hi k' k (List.mem_range.1 hk') hk
  unfold same109 at this
  rw [strEq_comm,strEq_comm (a:=(((a.at i).fOffers).at k').fKind)] at this
  simp only [eq47,keyOf,Bool.and_true,this,Bool.and_false,Bool.false_eq_true,not_false_eq_true]
def allL (a:Rw D112):List Ent:=bif eqI (typesV a) 0 then prI a a.n else []
theorem c83 (a:Rw D112) (ha:smR sm112 a):Ret 83 [S.t (T.rows 7 a.n fun i=>e112 (a.get i))] (S.mt (encM (allL a))):=by
 have hn:=sm_lt ha.1
 obtain ⟨y,hy,hK⟩:=yC_int (by kernel_rfl) (c24 a ha)
 cases ht:eqI (typesV a) 0 with
 | false=>
  refine W83 a 0 _ ?_
  have f:=flatW_enc (d:=999) (l:=[]) (K:=some (S.mt [])) (by decide)
  have f:flatW 999 [] (some (S.mt []))=some (S.mt []):=f
  simp only [e83_in,hK,hy,ht,Bool.not_false,cond_true,f]
  unfold allL
  rw [ht]
  rfl
 | true=>
  have ok:=typesOk (eqI_true.1 ht)
  have inner:∀ i,i < a.n→∀ V,Ev (fun m=>(X83n (regs O) a m).x0 ((i+1:Nat):Int) (encM (prI a (i+1)))) V→∀ r k,k+r=(a.at i).fOffers.n→Ev (fun m=>(X83n (regs O) a m).x1 (a.at i).fOffers (ofN (a.at i).fOffers.n) (a.at i) (k:Int) (encM (prI a i++offersOf (a.at i) k)) (i:Int)) V:=by
   intro i hi V hV r
   have hi2:i < 2 ^ 62:=by omega
   have h6:=ok.offers i hi
   have hl:=prI_len ok i (by omega)
   have h12:=ok.few
   induction r with
   | zero=>
    intro k hk
    obtain rfl:k=(a.at i).fOffers.n:=by omega
    refine Ev.by 1 (fun m=>?_) hV
    have len:(prI a i++offersOf (a.at i) (a.at i).fOffers.n).length+41≤900:=by simp [offersOf];omega
    rw [X83n]
    generalize X83n (regs O) a m=X
    simp only [X83s,b83_1,D83_0,ltI_nat,Nat.lt_irrefl,decide_false,cond_false,flatW_enc len,addI_nat1 hi2,prI_succ]
   | succ r ih=>
    intro k hk
    have hk1:k < (a.at i).fOffers.n:=by omega
    refine Ev.by 1 (fun m=>?_) (ih (k+1) (by omega))
    have len:(prI a i++offersOf (a.at i) (k+1)).length+41≤900:=by simp [offersOf];omega
    have upd:=fun (K:List (S × S)→Option S)=>updW_new (K:=K) (pr_new ok hi hk1)
    rw [List.append_assoc,← offersOf_succ] at upd
    have upd:∀ (K:List (S × S)→Option S),updW O.P O.K 47 (encM (prI a i++offersOf (a.at i) k)) (S.agg [ss (a.at i).fName,ss ((a.at i).fOffers.at k).fZone,ss ((a.at i).fOffers.at k).fKind]) (S.agg (ss (a.at i).fName::ii (a.at i).fCap_0::ii (a.at i).fCap_1::ii (a.at i).fOver_0::ii (a.at i).fOver_1::S.t (T.rows 2 (a.at i).fLabels.n fun j=>e88 ((a.at i).fLabels.get j))::S.t (T.rows 4 (a.at i).fOffers.n fun j=>e109 ((a.at i).fOffers.get j))::List.map S.t (e109 ((a.at i).fOffers.at k)))) K=K (encM (prI a i++offersOf (a.at i) (k+1))):=upd
    rw [X83n]
    generalize X83n (regs O) a m=X
    simp only [X83s,b83_1,D83_1,ltI_nat,hk1,decide_true,cond_true,elemO_nat hk1,get_nat,upd,flatW_enc len,addI_nat1 (show k < 2 ^ 62 by omega)]
  have outer:∀ r i,i+r=a.n→Ev (fun m=>(X83n (regs O) a m).x0 (i:Int) (encM (prI a i))) (S.mt (encM (prI a a.n))):=by
   intro r
   induction r with
   | zero=>
    intro i hi
    obtain rfl:i=a.n:=by omega
    have hl:=prI_len ok a.n (Nat.le_refl _)
    have h12:=ok.few
    refine Ev.one 1 fun m=>?_
    show (X83n (regs O) a (m+1)).x0 (a.n:Int) (encM (prI a a.n))=_
    rw [X83n]
    generalize X83n (regs O) a m=X
    simp only [X83s,b83_0,ltI_nat,Nat.lt_irrefl,decide_false,cond_false,flatW_enc (show (prI a a.n).length+41≤900 by omega),flatW_enc (show (prI a a.n).length+41≤999 by omega)]
   | succ r ih=>
    intro i hi
    have hi1:i < a.n:=by omega
    have hl:=prI_len ok i (by omega)
    have h12:=ok.few
    have:=inner i hi1 _ (ih (i+1) (by omega)) (a.at i).fOffers.n 0 (by omega)
    have e0:prI a i++offersOf (a.at i) 0=prI a i:=by simp [offersOf]
    rw [e0] at this
    refine Ev.by 1 (fun m=>?_) this
    rw [X83n]
    generalize X83n (regs O) a m=X
    simp only [X83s,b83_0,D83_1,ltI_nat,hi1,decide_true,cond_true,elemO_nat hi1,get_nat,flatW_enc (show (prI a i).length+41≤900 by omega)]
    rfl
  obtain ⟨n,h⟩:=(outer a.n 0 (by omega)).get
  refine W83 a n _ ?_
  have f:=flatW_enc (d:=900) (l:=[]) (K:=(X83n (regs O) a n).x0 0 []) (by decide)
  have f:flatW 900 [] ((X83n (regs O) a n).x0 0 [])=(X83n (regs O) a n).x0 0 []:=f
  simp only [e83_in,hK,hy,ht,Bool.not_true,cond_false,D83_0,f]
  unfold allL
  rw [ht]
  exact h
def hasP (a:Rw D112) (b:D47):Option Ent:=(allL a).find? fun q=>eq47 b (keyOf q)
def capOf (a:Rw D112) (b:D47):Int × Int:=match hasP a b with
 | some p=>(subA p.1.fCap_0 p.1.fCap_1 p.1.fOver_0 p.1.fOver_1 p.1.fCap_0 p.1.fOver_0,subA p.1.fCap_0 p.1.fCap_1 p.1.fOver_0 p.1.fOver_1 p.1.fCap_1 p.1.fOver_1)
 | none=>(0,0)
abbrev hasS (a:Rw D112) (b:D47):S:=.tup [.agg [ii (capOf a b).1,ii (capOf a b).2],bb (hasP a b).isSome]
theorem yC_sub {f:FuncId} {args:List S} {x z e:Int} (hs:shF O.P f=some (.tup [.agg [.int .i64 0,.int .i64 1],.int .i64 2])) (h:Ret f args (S.tup [S.agg [ii x,ii z],ii e])):∃ y:Y,y.i 0=x∧y.i 1=z∧y.i 2=e∧∀ (ρ:Type) (K:Y→Option ρ),yC (regs O) f args K=K y:=by
 obtain ⟨y,h1,h2⟩:=yC_of (y0:=⟨fun i=>match i with | 0=>x | 1=>z | _=>e,fun _=>false,fun _=>⟨#[]⟩,fun _=>⟨0,fun i=>i.elim0⟩,fun _=>[]⟩) hs h
 simp only [build,buildL,S.tup.injEq,S.agg.injEq,List.cons.injEq,S.t.injEq,T.v.injEq,Value.int.injEq,true_and,and_true] at h1
 exact ⟨y,h1.1.1,h1.1.2,h1.2,h2⟩
theorem yC_aab {f:FuncId} {args:List S} {x z:Int} {b:Bool} (hs:shF O.P f=some (.tup [.agg [.int .i64 0,.int .i64 1],.bool 2])) (h:Ret f args (S.tup [S.agg [ii x,ii z],bb b])):∃ y:Y,y.i 0=x∧y.i 1=z∧y.b 2=b∧∀ (ρ:Type) (K:Y→Option ρ),yC (regs O) f args K=K y:=by
 obtain ⟨y,h1,h2⟩:=yC_of (y0:=⟨fun i=>match i with | 0=>x | _=>z,fun _=>b,fun _=>⟨#[]⟩,fun _=>⟨0,fun i=>i.elim0⟩,fun _=>[]⟩) hs h
 simp only [build,buildL,S.tup.injEq,S.agg.injEq,List.cons.injEq,S.t.injEq,T.v.injEq,Value.int.injEq,Value.bool.injEq,true_and,and_true] at h1
 exact ⟨y,h1.1.1,h1.1.2,h1.2,h2⟩
def entY (p:Ent):Y:=⟨fun i=>match i with | 1=>p.1.fCap_0 | 2=>p.1.fCap_1 | 3=>p.1.fOver_0 | 4=>p.1.fOver_1 | _=>p.2.fPrice,fun _=>p.2.fOpen,fun i=>match i with | 0=>p.1.fName | 7=>p.2.fZone | _=>p.2.fKind,
 fun i=>match i with | 5=>⟨p.1.fLabels.n,fun i=>e88 (p.1.fLabels.get i)⟩ | _=>⟨p.1.fOffers.n,fun i=>e109 (p.1.fOffers.get i)⟩,fun _=>[]⟩
def sh141:Sh:=.agg [.str 0,.int .i64 1,.int .i64 2,.int .i64 3,.int .i64 4,.rows 2 5,.rows 4 6,.str 7,.str 8,.int .i64 9,.bool 10]
theorem shV141:shV O.P 141 0=some (sh141,11):=by kernel_rfl
theorem look_some {ρ:Type} {l:List Ent} {b:D47} {p:Ent} (h:l.find? (fun q=>eq47 b (keyOf q))=some p):∃ y:Y,y.i 1=p.1.fCap_0∧y.i 2=p.1.fCap_1∧y.i 3=p.1.fOver_0∧y.i 4=p.1.fOver_1∧∀ (Kt:Y→Option ρ) (Kf:Option ρ),lookW O.P O.K 47 141 (encM l) (ag (e47 b)) Kt Kf=Kt y:=by
 obtain ⟨k,hk⟩:=find_some' h 0
 obtain ⟨y,hy,he⟩:=unb_build (sh:=sh141) (y:=entY p)
 have hb:build (entY p) sh141=entS p:=rfl
 rw [hb] at hy he
 have he2:=he
 simp only [sh141,build,buildL,entS,e109,List.map,S.agg.injEq,List.cons.injEq,S.t.injEq,T.v.injEq,Value.int.injEq,true_and,and_true] at he2
 refine ⟨y,he2.2.1,he2.2.2.1,he2.2.2.2.1,he2.2.2.2.2.1,fun Kt Kf=>?_⟩
 unfold lookW
 rw [shV141,hk]
 dsimp only
 rw [hy]
 rfl
theorem look_none {ρ:Type} {l:List Ent} {b:D47} (h:l.find? (fun q=>eq47 b (keyOf q))=none) (Kt:Y→Option ρ) (Kf:Option ρ):lookW O.P O.K 47 141 (encM l) (ag (e47 b)) Kt Kf=Kf:=by
 unfold lookW
 rw [shV141,find_none' h]
theorem c63 (a:Rw D112) (b:D47) (ha:smR sm112 a):Ret 63 [S.t (T.rows 7 a.n fun i=>e112 (a.get i)),ag (e47 b)] (hasS a b):=by
 obtain ⟨y,hy,hK⟩:=yC_map (by kernel_rfl) (c83 a ha)
 refine W63 a b 0 _ ?_
 simp only [e63_in,hK,hy]
 unfold hasS capOf hasP
 cases h:(allL a).find? (fun q=>eq47 b (keyOf q)) with
 | none=>
  rw [look_none h]
  obtain ⟨z,hz,hz1,hz2,hL⟩:=yC_sub (by kernel_rfl) (c115 0 0 0 0)
  simp only [hL,hz,hz1]
  all_goals rfl
 | some p=>
  obtain ⟨x,h1,h2,h3,h4,hM⟩:=look_some (ρ:=S) h
  obtain ⟨z,hz,hz1,hz2,hL⟩:=yC_sub (by kernel_rfl) (c115 p.1.fCap_0 p.1.fCap_1 p.1.fOver_0 p.1.fOver_1)
  simp only [hM,h1,h2,h3,h4,hL,hz,hz1]
  all_goals rfl
def hasB (a:Rw D112) (b:D47):Bool:=(hasP a b).isSome
def knownB (a:Rw D112) (l:Rw D47):Bool:=(List.range l.n).all fun j=>hasB a (l.at j)
theorem c119 (a:D47) (b:D33) (hb:smR sm112 b.fTypes):Ret 119 [ag (e47 a),S.pt (e33 b)] (bb !hasB b.fTypes a):=by
 obtain ⟨y,hy,hy1,hy2,hK⟩:=yC_aab (by kernel_rfl) (c63 b.fTypes a hb)
 exact W119 a b 0 _ (by simp only [e119_in,hK,hy2];rfl)
theorem c157 (a:Rw D47) (b:D33) (ha:a.n < 2 ^ 62) (hb:smR sm112 b.fTypes):Ret 157 [S.t (T.rows 3 a.n fun i=>e47 (a.get i)),S.fn (Go.Fn.func 119) [] [S.pt (e33 b)]] (ii (idx a.n fun j=>!hasB b.fTypes (a.at j))):=by
 have key:=Ev.idxC (X:=fun m j=>(X157n (regs O) a b m).x0 (j:Int)) 1 a.n (fun j=>!hasB b.fTypes (a.at j)) (fun m j hj=>by
  have hj2:j < 2 ^ 62:=by omega
  obtain ⟨y,hy,hK⟩:=yC_bool (by kernel_rfl) (c119 (a.at j) b hb)
  simp only [X157n,X157s,b157_0,D157_0,ltI_nat,elemO_nat hj,get_nat,hj,decide_true,cond_true,addI_nat1 hj2,hK,hy]) (fun m=>by
  simp only [X157n,X157s,b157_0,D157_0,ltI_nat,Nat.lt_irrefl,decide_false,cond_false];rfl)
 obtain ⟨n,h⟩:=key.get
 exact W157 a b n _ h
theorem c118 (a:Rw D47) (b:D33) (ha:a.n < 2 ^ 62) (hb:smR sm112 b.fTypes):Ret 118 [S.t (T.rows 3 a.n fun i=>e47 (a.get i)),S.fn (Go.Fn.func 119) [] [S.pt (e33 b)]] (bb ((List.range a.n).any fun j=>!hasB b.fTypes (a.at j))):=by
 obtain ⟨y,hy,hK⟩:=yC_int (by kernel_rfl) (c157 a b ha hb)
 exact W118 a b 0 _ (by simp only [e118_in,hK,hy,idx_ge])
theorem c65 (a:D33) (b:Rw D47) (hb:b.n < 2 ^ 62) (ha:smR sm112 a.fTypes):Ret 65 [ag (e33 a),S.t (T.rows 3 b.n fun i=>e47 (b.get i))] (bb (knownB a.fTypes b)):=by
 obtain ⟨y,hy,hK⟩:=yC_bool (by kernel_rfl) (c118 b a hb ha)
 refine W65 a b 0 _ ?_
 simp only [e65_in,hK,hy,List.not_any_eq_all_not,Bool.not_not]
 rfl
def poolIn (a:D33) (b:ByteArray):Bool:=(List.range a.fPools.n).any fun j=>strEq (a.fPools.at j).fName b
def claimIn (a:D33) (b:ByteArray):Bool:=(List.range a.fClaims.n).any fun j=>strEq (a.fClaims.at j).fName b
theorem c156 (a:Rw D77) (b:ByteArray) (ha:a.n < 2 ^ 62):Ret 156 [S.t (T.rows 10 a.n fun i=>e77 (a.get i)),S.fn (Go.Fn.func 117) [] [S.pt [ts b]]] (ii (idx a.n fun j=>strEq (a.at j).fName b)):=by
 have key:=Ev.idxC (X:=fun m j=>(X156n (regs O) a b m).x0 (j:Int)) 1 a.n (fun j=>strEq (a.at j).fName b) (fun m j hj=>by
  have hj2:j < 2 ^ 62:=by omega
  obtain ⟨y,hy,hK⟩:=yC_bool (x:=strEq (a.at j).fName b) (by kernel_rfl) (W117 (a.at j) b 0 _ rfl)
  simp only [X156n,X156s,b156_0,D156_0,ltI_nat,elemO_nat hj,get_nat,hj,decide_true,cond_true,addI_nat1 hj2,hK,hy]) (fun m=>by
  simp only [X156n,X156s,b156_0,D156_0,ltI_nat,Nat.lt_irrefl,decide_false,cond_false];rfl)
 obtain ⟨n,h⟩:=key.get
 exact W156 a b n _ h
theorem c64 (a:D33) (b:ByteArray) (ha:a.fPools.n < 2 ^ 62):Ret 64 [ag (e33 a),ss b] (bb (poolIn a b)):=by
 obtain ⟨y,hy,hK⟩:=yC_int (by kernel_rfl) (c156 a.fPools b ha)
 have h:Ret 116 [S.t (T.rows 10 a.fPools.n fun i=>e77 (a.fPools.get i)),S.fn (Go.Fn.func 117) [] [S.pt [ts b]]] (bb (poolIn a b)):=W116 a.fPools b 0 _ (by simp only [e116_in,hK,hy,idx_ge];rfl)
 obtain ⟨z,hz,hL⟩:=yC_bool (by kernel_rfl) h
 exact W64 a b 0 _ (by simp only [e64_in,hL,hz])
theorem c160 (a:Rw D52) (b:ByteArray) (ha:a.n < 2 ^ 62):Ret 160 [S.t (T.rows 15 a.n fun i=>e52 (a.get i)),S.fn (Go.Fn.func 124) [] [S.pt [ts b]]] (ii (idx a.n fun j=>strEq (a.at j).fName b)):=by
 have key:=Ev.idxC (X:=fun m j=>(X160n (regs O) a b m).x0 (j:Int)) 1 a.n (fun j=>strEq (a.at j).fName b) (fun m j hj=>by
  have hj2:j < 2 ^ 62:=by omega
  obtain ⟨y,hy,hK⟩:=yC_bool (x:=strEq (a.at j).fName b) (by kernel_rfl) (W124 (a.at j) b 0 _ rfl)
  simp only [X160n,X160s,b160_0,D160_0,ltI_nat,elemO_nat hj,get_nat,hj,decide_true,cond_true,addI_nat1 hj2,hK,hy]) (fun m=>by
  simp only [X160n,X160s,b160_0,D160_0,ltI_nat,Nat.lt_irrefl,decide_false,cond_false];rfl)
 obtain ⟨n,h⟩:=key.get
 exact W160 a b n _ h
theorem c67 (a:D33) (b:ByteArray) (ha:a.fClaims.n < 2 ^ 62):Ret 67 [ag (e33 a),ss b] (bb (claimIn a b)):=by
 obtain ⟨y,hy,hK⟩:=yC_int (by kernel_rfl) (c160 a.fClaims b ha)
 have h:Ret 123 [S.t (T.rows 15 a.fClaims.n fun i=>e52 (a.fClaims.get i)),S.fn (Go.Fn.func 124) [] [S.pt [ts b]]] (bb (claimIn a b)):=W123 a.fClaims b 0 _ (by simp only [e123_in,hK,hy,idx_ge];rfl)
 obtain ⟨z,hz,hL⟩:=yC_bool (by kernel_rfl) h
 exact W67 a b 0 _ (by simp only [e67_in,hL,hz])
theorem less_total:∀ (a b:List UInt8),(Op.bytesLess a b || decide (a=b))=!Op.bytesLess b a
 | [],[]=>rfl
 | [],_::_=>rfl
 | _::_,[]=>rfl
 | x::a,y::b=>by
  have ih:=less_total a b
  unfold Op.bytesLess
  by_cases h:x=y
  ·subst h
   simp
   simpa using ih
  ·have:x < y∨y < x:=by
    rcases Nat.lt_or_gt_of_ne (fun e=>h (UInt8.toNat_inj.1 e):x.toNat≠y.toNat) with h | h
    ·exact .inl h
    ·exact .inr h
   rcases this with h1 | h1
   ·have h2:¬ y < x:=fun h2=>absurd (Nat.lt_trans h1 h2) (Nat.lt_irrefl _)
    simp [h,h1,h2,Ne.symm h]
   ·have h2:¬ x < y:=fun h2=>absurd (Nat.lt_trans h1 h2) (Nat.lt_irrefl _)
    simp [h,h1,h2,Ne.symm h]
theorem lt_total (a b:ByteArray):(strLt a b || strEq a b)=!strLt b a:=by
 unfold strLt
 rw [strEq_data]
 exact less_total _ _
def prevS (f:Nat→ByteArray) (j:Nat):ByteArray:=if j=0 then bs [] else f (j - 1)
def ordB (f:Nat→ByteArray) (j:Nat):Bool:=decide (j=0) || strLt (f (j - 1)) (f j)
theorem prevS_succ (f:Nat→ByteArray) (j:Nat):prevS f (j+1)=f j:=by simp [prevS]
theorem lt_empty {a:ByteArray} (h:¬ sizeN a=0):strLt (bs []) a=true:=by
 unfold strLt
 have:a.data.toList≠[]:=fun e=>h (by unfold sizeN;show a.data.size=0;rw [← Array.length_toList,e];rfl)
 cases hl:a.data.toList with
 | nil=>exact absurd hl this
 | cons x l=>rfl
theorem nameB_ne {a:ByteArray} (h:nameB a=true):¬ sizeN a=0:=fun e=>by
 unfold nameB at h
 rw [e] at h
 cases h
theorem last_ord {f:Nat→ByteArray} {j:Nat} (h:nameB (f j)=true):(strLt (f j) (prevS f j) || strEq (f j) (prevS f j))=!ordB f j:=by
 rw [lt_total]
 unfold prevS ordB
 by_cases h0:j=0
 ·subst h0
  rw [if_pos rfl,lt_empty (nameB_ne h)]
  rfl
 ·rw [if_neg h0]
  simp [h0]
theorem orE_false {a:Int} (h:eqI a 0=false) (r:Int):orE a r=a:=by unfold orE;rw [h];rfl
theorem orE_true {a:Int} (h:eqI a 0=true) (r:Int):orE a r=r:=by unfold orE;rw [h];rfl
def poolN (a:D33) (i:Nat):ByteArray:=(a.fPools.at i).fName
def poolE (a:D33) (j:Nat):Int:=orE (poolV (a.fPools.at j)) (wantE (ordB (poolN a) j) 6)
theorem pool_name {x:D77} (h:poolV x=0):nameB x.fName=true:=by
 unfold poolV at h
 exact (wantE_eq_zero (by decide)).1 (orE_eq_zero.1 h).1
theorem c25 (a:D33) (ha:smR sm77 a.fPools):Ret 25 [ag (e33 a)] (ii (firstE a.fPools.n (poolE a))):=by
 have hn:=sm_lt ha.1
 have key:=Ev.errsC (X:=fun m j=>(X25n (regs O) a m).x0 (j:Int) (prevS (poolN a) j)) 1 a.fPools.n (poolE a) (fun m j hj=>by
  have hj2:j < 2 ^ 62:=by omega
  obtain ⟨y,hy,hK⟩:=yC_int (by kernel_rfl) (c61 (a.fPools.at j) (ha.2 j hj))
  show (X25n (regs O) a (m+1)).x0 (j:Int) (prevS (poolN a) j)=bif !eqI (poolE a j) 0 then some (ii (poolE a j)) else (X25n (regs O) a m).x0 ((j+1:Nat):Int) (prevS (poolN a) (j+1))
  rw [X25n,prevS_succ]
  generalize X25n (regs O) a m=X
  simp only [X25s,b25_0,D25_0,ltI_nat,elemO_nat hj,get_nat,hj,decide_true,cond_true,addI_nat1 hj2,hK,hy]
  unfold poolE
  cases hc:eqI (poolV (a.fPools.at j)) 0 with
  | false=>rw [orE_false hc,hc];rfl
  | true=>
   rw [orE_true hc]
   have:=last_ord (f:=poolN a) (j:=j) (pool_name (eqI_true.1 hc))
   simp only [Bool.not_true,cond_false]
   have this':(strLt (a.fPools.at j).fName (prevS (poolN a) j) || strEq (a.fPools.at j).fName (prevS (poolN a) j))=!ordB (poolN a) j:=this
   rw [this']
   cases ordB (poolN a) j<;>rfl) (fun m=>by
  show (X25n (regs O) a (m+1)).x0 (a.fPools.n:Int) (prevS (poolN a) a.fPools.n)=_
  rw [X25n]
  generalize X25n (regs O) a m=X
  simp only [X25s,b25_0,D25_0,ltI_nat,Nat.lt_irrefl,decide_false,cond_false])
 obtain ⟨n,h⟩:=key.get
 exact W25 a n _ h
def podN (a:D33) (i:Nat):ByteArray:=(a.fPods.at i).fName
def podE (a:D33) (j:Nat):Int:=orE (podV (a.fPods.at j)) (orE (wantE (ordB (podN a) j) 6) (orE (wantE (decide (sizeN (a.fPods.at j).fOn=0) || claimIn a (a.fPods.at j).fOn) 5) (wantE (leI (a.fPods.at j).fSince a.fNow) 1)))
theorem pod_name {x:D61} (h:podV x=0):nameB x.fName=true:=by
 unfold podV at h
 have:=(wantE_eq_zero (by decide)).1 (orE_eq_zero.1 h).1
 rw [Bool.and_eq_true] at this
 exact this.1
theorem c27 (a:D33) (ha:smR sm61 a.fPods) (hc:a.fClaims.n < 2 ^ 62):Ret 27 [ag (e33 a)] (ii (firstE a.fPods.n (podE a))):=by
 have hn:=sm_lt ha.1
 have key:=Ev.errsC (X:=fun m j=>(X27n (regs O) a m).x0 (j:Int) (prevS (podN a) j)) 2 a.fPods.n (podE a) (fun m j hj=>by
  have hj2:j < 2 ^ 62:=by omega
  obtain ⟨y,hy,hK⟩:=yC_int (by kernel_rfl) (c66 (a.fPods.at j) (ha.2 j hj))
  obtain ⟨z,hz,hL⟩:=yC_bool (by kernel_rfl) (c67 a (a.fPods.at j).fOn hc)
  show (X27n (regs O) a (m+2)).x0 (j:Int) (prevS (podN a) j)=bif !eqI (podE a j) 0 then some (ii (podE a j)) else (X27n (regs O) a m).x0 ((j+1:Nat):Int) (prevS (podN a) (j+1))
  have h1:∀ b,(X27n (regs O) a (m+1)).x1 (a.fPods.at j) b (j:Int)=bif b then some (ii 5) else bif gtI (a.fPods.at j).fSince a.fNow then some (ii 1) else (X27n (regs O) a m).x0 ((j+1:Nat):Int) (a.fPods.at j).fName:=fun b=>by
   rw [X27n]
   generalize X27n (regs O) a m=X
   simp only [X27s,b27_1,D27_0,addI_nat1 hj2]
  rw [X27n,prevS_succ]
  generalize X27n (regs O) a (m+1)=X at h1 ⊢
  generalize X27n (regs O) a m=X' at h1 ⊢
  simp only [X27s,b27_0,D27_1,ltI_nat,elemO_nat hj,get_nat,hj,decide_true,cond_true,hK,hy,hL,hz,strEq_empty,h1]
  unfold podE
  cases hc:eqI (podV (a.fPods.at j)) 0 with
  | false=>rw [orE_false hc,hc];rfl
  | true=>
   rw [orE_true hc]
   have:=last_ord (f:=podN a) (j:=j) (pod_name (eqI_true.1 hc))
   have this':(strLt (a.fPods.at j).fName (prevS (podN a) j) || strEq (a.fPods.at j).fName (prevS (podN a) j))=!ordB (podN a) j:=this
   simp only [Bool.not_true,cond_false,this',gtI_leI]
   unfold orE wantE
   cases ordB (podN a) j<;>cases decide (sizeN (a.fPods.at j).fOn=0)<;>cases claimIn a (a.fPods.at j).fOn<;>cases leI (a.fPods.at j).fSince a.fNow<;>rfl) (fun m=>by
  show (X27n (regs O) a (m+2)).x0 (a.fPods.n:Int) (prevS (podN a) a.fPods.n)=_
  rw [X27n]
  generalize X27n (regs O) a (m+1)=X
  simp only [X27s,b27_0,ltI_nat,Nat.lt_irrefl,decide_false,cond_false])
 obtain ⟨n,h⟩:=key.get
 exact W27 a n _ h
def cmdE (a:D33) (j:Nat):Int:=orE (cmdV (a.fCommands.at j)) (wantE ((decide (sizeN (a.fCommands.at j).fPool=0) || poolIn a (a.fCommands.at j).fPool) && knownB a.fTypes (a.fCommands.at j).fOpts) 5)
theorem c28 (a:D33) (ha:smR sm122 a.fCommands) (hp:a.fPools.n < 2 ^ 62) (ht:smR sm112 a.fTypes):Ret 28 [ag (e33 a)] (ii (firstE a.fCommands.n (cmdE a))):=by
 have hn:=sm_lt ha.1
 have key:=Ev.errsC (X:=fun m j=>(X28n (regs O) a m).x0 (j:Int)) 2 a.fCommands.n (cmdE a) (fun m j hj=>by
  have hj2:j < 2 ^ 62:=by omega
  obtain ⟨y,hy,hK⟩:=yC_int (by kernel_rfl) (c68 (a.fCommands.at j) (ha.2 j hj))
  obtain ⟨z,hz,hL⟩:=yC_bool (by kernel_rfl) (c64 a (a.fCommands.at j).fPool hp)
  obtain ⟨x,hx,hM⟩:=yC_bool (by kernel_rfl) (c65 a (a.fCommands.at j).fOpts (sm_lt (ha.2 j hj).opts.1) ht)
  show (X28n (regs O) a (m+2)).x0 (j:Int)=bif !eqI (cmdE a j) 0 then some (ii (cmdE a j)) else (X28n (regs O) a m).x0 ((j+1:Nat):Int)
  have h1:∀ b,(X28n (regs O) a (m+1)).x1 (a.fCommands.at j) b (j:Int)=bif b then some (ii 5) else bif !knownB a.fTypes (a.fCommands.at j).fOpts then some (ii 5) else (X28n (regs O) a m).x0 ((j+1:Nat):Int):=fun b=>by
   rw [X28n]
   generalize X28n (regs O) a m=X
   simp only [X28s,b28_1,D28_0,addI_nat1 hj2,hM,hx]
  rw [X28n]
  generalize X28n (regs O) a (m+1)=X at h1 ⊢
  generalize X28n (regs O) a m=X' at h1 ⊢
  simp only [X28s,b28_0,D28_1,ltI_nat,elemO_nat hj,get_nat,hj,decide_true,cond_true,hK,hy,hL,hz,strEq_empty,h1]
  unfold cmdE
  cases hc:eqI (cmdV (a.fCommands.at j)) 0 with
  | false=>rw [orE_false hc,hc];rfl
  | true=>
   rw [orE_true hc]
   unfold wantE
   cases decide (sizeN (a.fCommands.at j).fPool=0)<;>cases poolIn a (a.fCommands.at j).fPool<;>cases knownB a.fTypes (a.fCommands.at j).fOpts<;>rfl) (fun m=>by
  show (X28n (regs O) a (m+2)).x0 (a.fCommands.n:Int)=_
  rw [X28n]
  generalize X28n (regs O) a (m+1)=X
  simp only [X28s,b28_0,ltI_nat,Nat.lt_irrefl,decide_false,cond_false])
 obtain ⟨n,h⟩:=key.get
 exact W28 a n _ h
theorem one47 (o:D47):(fun i:Fin 1=>List.take 3 (List.drop (i.1*3) (e47 o)))=fun i:Fin 1=>e47 ((rwL [o]).get i):=by
 funext i
 obtain ⟨i,hi⟩:=i
 obtain rfl:i=0:=by omega
 rfl
theorem known_one (a:Rw D112) (o:D47):knownB a (rwL [o])=hasB a o:=by
 unfold knownB
 show (List.range 1).all _=_
 simp only [List.range_one,List.all_cons,List.all_nil,Bool.and_true]
 rfl
theorem ret65 (a:D33) (o:D47) (ha:smR sm112 a.fTypes):∃ y:Y,y.b 0=hasB a.fTypes o∧∀ (ρ:Type) (K:Y→Option ρ),yC (regs O) 65 [ag (e33 a),S.t (T.rows 3 1 fun i=>List.take 3 (List.drop (i.1*3) (e47 o)))] K=K y:=by
 obtain ⟨y,hy,hK⟩:=yC_bool (by kernel_rfl) (c65 a (rwL [o]) (show (1:Nat) < 2 ^ 62 by decide) ha)
 refine ⟨y,by rw [hy,known_one],fun ρ K=>?_⟩
 rw [one47]
 exact hK ρ K
def offC (c:D52):D47:=⟨c.fOffer_Type,c.fOffer_Zone,c.fOffer_Kind⟩
def claimNm (a:D33) (i:Nat):ByteArray:=(a.fClaims.at i).fName
def capB (a:D33) (c:D52):Bool:=eqI c.fCap_0 (capOf a.fTypes (offC c)).1 && eqI c.fCap_1 (capOf a.fTypes (offC c)).2
def claimE (a:D33) (j:Nat):Int:=orE (claimV (a.fClaims.at j)) (orE (wantE (ordB (claimNm a) j) 6) (orE (wantE (poolIn a (a.fClaims.at j).fPool && (hasB a.fTypes (offC (a.fClaims.at j)) && knownB a.fTypes (a.fClaims.at j).fOpts)) 5) (wantE (capB a (a.fClaims.at j)) 1)))
theorem claim_name {x:D52} (h:claimV x=0):nameB x.fName=true:=by
 unfold claimV at h
 have:=(wantE_eq_zero (by decide)).1 (orE_eq_zero.1 h).1
 unfold claimN at this
 rw [Bool.and_eq_true] at this
 exact this.1
theorem c26 (a:D33) (ha:smR sm52 a.fClaims) (hp:a.fPools.n < 2 ^ 62) (ht:smR sm112 a.fTypes):Ret 26 [ag (e33 a)] (ii (firstE a.fClaims.n (claimE a))):=by
 have hn:=sm_lt ha.1
 have key:=Ev.errsC (X:=fun m j=>(X26n (regs O) a m).x0 (j:Int) (prevS (claimNm a) j)) 3 a.fClaims.n (claimE a) (fun m j hj=>by
  have hj2:j < 2 ^ 62:=by omega
  obtain ⟨y,hy,hK⟩:=yC_int (by kernel_rfl) (c62 (a.fClaims.at j) (ha.2 j hj))
  obtain ⟨h,hh0,hh1,hh2,hH⟩:=yC_aab (by kernel_rfl) (c63 a.fTypes (offC (a.fClaims.at j)) ht)
  have hH:∀ (ρ:Type) (K:Y→Option ρ),yC (regs O) 63 [S.t (T.rows 7 a.fTypes.n fun i=>e112 (a.fTypes.get i)),S.agg [ss (a.fClaims.at j).fOffer_Type,ss (a.fClaims.at j).fOffer_Zone,ss (a.fClaims.at j).fOffer_Kind]] K=K h:=hH
  obtain ⟨z,hz,hL⟩:=yC_bool (by kernel_rfl) (c64 a (a.fClaims.at j).fPool hp)
  obtain ⟨o,ho,hO⟩:=ret65 a (offC (a.fClaims.at j)) ht
  have hO:∀ (ρ:Type) (K:Y→Option ρ),yC (regs O) 65 [ag (e33 a),S.t (T.rows 3 1 fun i=>List.take 3 (List.drop (i.1*3) [ts (a.fClaims.at j).fOffer_Type,ts (a.fClaims.at j).fOffer_Zone,ts (a.fClaims.at j).fOffer_Kind]))] K=K o:=hO
  obtain ⟨x,hx,hM⟩:=yC_bool (by kernel_rfl) (c65 a (a.fClaims.at j).fOpts (sm_lt (ha.2 j hj).opts.1) ht)
  show (X26n (regs O) a (m+3)).x0 (j:Int) (prevS (claimNm a) j)=bif !eqI (claimE a j) 0 then some (ii (claimE a j)) else (X26n (regs O) a m).x0 ((j+1:Nat):Int) (prevS (claimNm a) (j+1))
  rw [prevS_succ]
  have k3:∀ b v2 v3,(X26n (regs O) a (m+1)).x3 b (a.fClaims.at j) v2 v3 (j:Int)=bif b then some (ii 5) else bif !(eqI (a.fClaims.at j).fCap_0 v2 && (eqI (a.fClaims.at j).fCap_1 v3 && true)) then some (ii 1) else (X26n (regs O) a m).x0 ((j+1:Nat):Int) (claimNm a j):=fun b v2 v3=>by
   rw [X26n]
   generalize X26n (regs O) a m=X
   simp only [X26s,b26_3,D26_0,addI_nat1 hj2]
   rfl
  have k1:∀ b v2 v3,(X26n (regs O) a (m+2)).x1 b (a.fClaims.at j) v2 v3 (j:Int)=bif b || !knownB a.fTypes (a.fClaims.at j).fOpts then some (ii 5) else bif !(eqI (a.fClaims.at j).fCap_0 v2 && (eqI (a.fClaims.at j).fCap_1 v3 && true)) then some (ii 1) else (X26n (regs O) a m).x0 ((j+1:Nat):Int) (claimNm a j):=fun b v2 v3=>by
   rw [X26n]
   generalize X26n (regs O) a (m+1)=X at k3 ⊢
   generalize X26n (regs O) a m=X' at k3 ⊢
   simp only [X26s,b26_1,D26_3,hM,hx,k3]
   cases b<;>cases knownB a.fTypes (a.fClaims.at j).fOpts<;>rfl
  have k4:(X26n (regs O) a (m+1)).x4=some (ii 5):=by
   rw [X26n]
   generalize X26n (regs O) a m=X
   simp only [X26s,b26_4]
  have k2:(X26n (regs O) a (m+2)).x2=some (ii 5):=by
   rw [X26n]
   generalize X26n (regs O) a (m+1)=X at k4 ⊢
   simp only [X26s,b26_2,D26_4,k4]
  rw [X26n]
  generalize X26n (regs O) a (m+2)=X at k1 k2 ⊢
  generalize X26n (regs O) a m=X' at k1 ⊢
  simp only [X26s,b26_0,D26_1,D26_2,ltI_nat,elemO_nat hj,get_nat,hj,decide_true,cond_true,hK,hy,hH,hh0,hh1,hh2,hL,hz,hO,ho,k1,k2]
  unfold claimE
  cases hc:eqI (claimV (a.fClaims.at j)) 0 with
  | false=>rw [orE_false hc,hc];rfl
  | true=>
   rw [orE_true hc]
   have:=last_ord (f:=claimNm a) (j:=j) (claim_name (eqI_true.1 hc))
   have this':(strLt (a.fClaims.at j).fName (prevS (claimNm a) j) || strEq (a.fClaims.at j).fName (prevS (claimNm a) j))=!ordB (claimNm a) j:=this
   simp only [Bool.not_true,cond_false,this',Bool.and_true]
   have ec:(eqI (a.fClaims.at j).fCap_0 (capOf a.fTypes (offC (a.fClaims.at j))).1 && eqI (a.fClaims.at j).fCap_1 (capOf a.fTypes (offC (a.fClaims.at j))).2)=capB a (a.fClaims.at j):=rfl
   simp only [ec]
   unfold orE wantE
   cases ordB (claimNm a) j<;>cases poolIn a (a.fClaims.at j).fPool<;>cases hasB a.fTypes (offC (a.fClaims.at j))<;>cases knownB a.fTypes (a.fClaims.at j).fOpts<;>cases capB a (a.fClaims.at j)<;>rfl) (fun m=>by
  show (X26n (regs O) a (m+3)).x0 (a.fClaims.n:Int) (prevS (claimNm a) a.fClaims.n)=_
  rw [X26n]
  generalize X26n (regs O) a (m+2)=X
  simp only [X26s,b26_0,ltI_nat,Nat.lt_irrefl,decide_false,cond_false])
 obtain ⟨n,h⟩:=key.get
 exact W26 a n _ h
theorem gtI_nat0 {j:Nat}:gtI (j:Int) 0=!decide (j=0):=by unfold gtI;by_cases h:j=0<;>simp [h]<;>omega
theorem cmp_less:∀ (a b:List UInt8),Lib.compareBytes a b=if Op.bytesLess a b=true then -1 else if a=b then 0 else 1
 | [],[]=>rfl
 | [],_::_=>rfl
 | _::_,[]=>rfl
 | x::a,y::b=>by
  have ih:=cmp_less a b
  unfold Lib.compareBytes Op.bytesLess
  by_cases h:x=y
  ·subst h
   have hx:¬ x < x:=fun h=>absurd h (Nat.lt_irrefl _)
   simp only [hx,if_false,ih]
   simp
  ·have:x < y∨y < x:=by
    rcases Nat.lt_or_gt_of_ne (fun e=>h (UInt8.toNat_inj.1 e):x.toNat≠y.toNat) with h | h
    ·exact .inl h
    ·exact .inr h
   rcases this with h1 | h1
   ·simp [h,h1]
   ·have h2:¬ x < y:=fun h2=>absurd (Nat.lt_trans h1 h2) (Nat.lt_irrefl _)
    simp [h,h1,h2]
theorem cmpS_eq (a b:ByteArray):cmpS a b=bif strLt a b then -1 else bif strEq a b then 0 else 1:=by
 unfold cmpS strLt
 rw [cmp_less,strEq_data]
 cases Op.bytesLess a.data.toList b.data.toList with
 | true=>rfl
 | false=>
  by_cases h:a.data.toList=b.data.toList
  ·simp [h]
  ·simp [h]
theorem c53r (a:Rw Int) (ha:a.n < 2 ^ 62):Ret 53 [S.t (T.rows 1 a.n fun i=>[ti (a.get i)])] (ii (firstE a.n a.at)):=by
 have key:=Ev.errsC (X:=fun m j=>(X53n (regs O) a m).x0 (j:Int)) 1 a.n a.at (fun m j hj=>by
  have hj2:j < 2 ^ 62:=by omega
  simp only [X53n,X53s,b53_0,D53_0,ltI_nat,elemO_nat hj,get_nat,hj,decide_true,cond_true,addI_nat1 hj2]) (fun m=>by
  simp only [X53n,X53s,b53_0,D53_0,ltI_nat,Nat.lt_irrefl,decide_false,cond_false])
 obtain ⟨n,h⟩:=key.get
 exact W53 a n _ h
theorem ret53 (a b c:Int):∃ y:Y,y.i 0=orE a (orE b c)∧∀ (ρ:Type) (K:Y→Option ρ),yC (regs O) 53 [S.t (T.rows 1 3 fun i=>List.take 1 (List.drop (i.1*1) [ti a,ti b,ti c]))] K=K y:=by
 have h:=c53r (rwL [a,b,c]) (show (3:Nat) < 2 ^ 62 by decide)
 rw [firstL_eq] at h
 obtain ⟨y,hy,hK⟩:=yC_int (by kernel_rfl) h
 refine ⟨y,by rw [hy];simp only [firstL_cons,firstL_one],fun ρ K=>?_⟩
 rw [← hK ρ K]
 have:=lit1 [a,b,c] ti
 exact congrArg (fun g:Fin 3→List T=>yC (regs O) 53 [S.t (T.rows 1 3 g)] K) this
def offLt (a b:D47):Bool:=bif !strEq a.fType b.fType then strLt a.fType b.fType else bif !strEq a.fZone b.fZone then strLt a.fZone b.fZone else strLt a.fKind b.fKind
def cmp47 (a b:D47):Int:=orE (cmpS a.fType b.fType) (orE (cmpS a.fZone b.fZone) (cmpS a.fKind b.fKind))
theorem c69 (a b:D47):Ret 69 [ag (e47 a),ag (e47 b)] (ii (cmp47 a b)):=by
 obtain ⟨y,hy,hK⟩:=yC_int (by kernel_rfl) (c56 a.fType b.fType)
 obtain ⟨y1,hy1,hK1⟩:=yC_int (by kernel_rfl) (c56 a.fZone b.fZone)
 obtain ⟨y2,hy2,hK2⟩:=yC_int (by kernel_rfl) (c56 a.fKind b.fKind)
 obtain ⟨z,hz,hL⟩:=ret53 (cmpS a.fType b.fType) (cmpS a.fZone b.fZone) (cmpS a.fKind b.fKind)
 refine W69 a b 0 _ ?_
 simp only [e69_in,hK,hK1,hK2,hy,hy1,hy2,hL,hz]
 rfl
theorem lt_irrefl (a b:ByteArray) (h:strEq a b=true):strLt a b=false:=by
 have:=lt_total a b
 rw [h,Bool.or_true] at this
 have h2:strLt b a=false:=by simpa using this.symm
 rw [strEq_iff] at h
 subst h
 exact h2
theorem cmp47_ge (a b:D47):geI (cmp47 a b) 0=!offLt a b:=by
 unfold cmp47 offLt
 rw [cmpS_eq,cmpS_eq,cmpS_eq]
 cases h1:strEq a.fType b.fType with
 | false=>cases strLt a.fType b.fType<;>rfl
 | true=>
  rw [lt_irrefl _ _ h1]
  cases h2:strEq a.fZone b.fZone with
  | false=>cases strLt a.fZone b.fZone<;>rfl
  | true=>
   rw [lt_irrefl _ _ h2]
   cases h3:strEq a.fKind b.fKind with
   | false=>cases strLt a.fKind b.fKind<;>rfl
   | true=>rw [lt_irrefl _ _ h3];rfl
def offK (c:D125):D47:=⟨c.fOffer_Type,c.fOffer_Zone,c.fOffer_Kind⟩
def sm125 (c:D125):Prop:=sm47 (offK c)
def coolE (a:D33) (j:Nat):Int:=orE (wantE (hasB a.fTypes (offK (a.fCools.at j))) 5) (orE (wantE (decide (j=0) || offLt (offK (a.fCools.at (j - 1))) (offK (a.fCools.at j))) 6) (wantE (within (a.fCools.at j).fUntil 0 1099511627776) 1))
theorem c29 (a:D33) (hn:a.fCools.n < 2 ^ 62) (ht:smR sm112 a.fTypes):Ret 29 [ag (e33 a)] (ii (firstE a.fCools.n (coolE a))):=by
 have key:=Ev.errsC (X:=fun m j=>(X29n (regs O) a m).x0 (j:Int)) 2 a.fCools.n (coolE a) (fun m j hj=>by
  have hj2:j < 2 ^ 62:=by omega
  obtain ⟨o,ho,hO⟩:=ret65 a (offK (a.fCools.at j)) ht
  have hO:∀ (ρ:Type) (K:Y→Option ρ),yC (regs O) 65 [ag (e33 a),S.t (T.rows 3 1 fun i=>List.take 3 (List.drop (i.1*3) [ts (a.fCools.at j).fOffer_Type,ts (a.fCools.at j).fOffer_Zone,ts (a.fCools.at j).fOffer_Kind]))] K=K o:=hO
  obtain ⟨z,hz,hL⟩:=yC_int (by kernel_rfl) (c69 (offK (a.fCools.at (j - 1))) (offK (a.fCools.at j)))
  have hL:∀ (ρ:Type) (K:Y→Option ρ),yC (regs O) 69 [S.agg [ss (a.fCools.at (j - 1)).fOffer_Type,ss (a.fCools.at (j - 1)).fOffer_Zone,ss (a.fCools.at (j - 1)).fOffer_Kind],S.agg [ss (a.fCools.at j).fOffer_Type,ss (a.fCools.at j).fOffer_Zone,ss (a.fCools.at j).fOffer_Kind]] K=K z:=hL
  obtain ⟨x,hx,hM⟩:=yC_bool (by kernel_rfl) (c22 (a.fCools.at j).fUntil)
  show (X29n (regs O) a (m+2)).x0 (j:Int)=bif !eqI (coolE a j) 0 then some (ii (coolE a j)) else (X29n (regs O) a m).x0 ((j+1:Nat):Int)
  have k1:∀ b,(X29n (regs O) a (m+1)).x1 (a.fCools.at j) (j:Int) b=bif b then some (ii 6) else bif !within (a.fCools.at j).fUntil 0 1099511627776 then some (ii 1) else (X29n (regs O) a m).x0 ((j+1:Nat):Int):=fun b=>by
   rw [X29n]
   generalize X29n (regs O) a m=X
   simp only [X29s,b29_1,D29_0,hM,hx,addI_nat1 hj2]
  rw [X29n]
  generalize X29n (regs O) a (m+1)=X at k1 ⊢
  generalize X29n (regs O) a m=X' at k1 ⊢
  simp only [X29s,b29_0,D29_1,ltI_nat,elemO_nat hj,get_nat,hj,decide_true,cond_true,hO,ho,k1,gtI_nat0]
  unfold coolE
  by_cases h0:j=0
  ·simp only [h0,decide_true,Bool.not_true,cond_false,Bool.true_or]
   unfold orE wantE
   cases hasB a.fTypes (offK (a.fCools.at 0))<;>cases within (a.fCools.at 0).fUntil 0 1099511627776<;>rfl
  ·have hlt:j - 1 < a.fCools.n:=by omega
   simp only [h0,decide_false,Bool.not_false,cond_true,Bool.false_or]
   rw [subI_nat (show 0 < j by omega) hj2,elemO_nat hlt]
   simp only [get_nat,hL,hz,cmp47_ge]
   unfold orE wantE
   cases hasB a.fTypes (offK (a.fCools.at j))<;>cases offLt (offK (a.fCools.at (j - 1))) (offK (a.fCools.at j))<;>cases within (a.fCools.at j).fUntil 0 1099511627776<;>rfl) (fun m=>by
  show (X29n (regs O) a (m+2)).x0 (a.fCools.n:Int)=_
  rw [X29n]
  generalize X29n (regs O) a (m+1)=X
  simp only [X29s,b29_0,ltI_nat,Nat.lt_irrefl,decide_false,cond_false])
 obtain ⟨n,h⟩:=key.get
 exact W29 a n _ h
end
end Go.Proofs.YtonkoellfaopiaaGreatDoor.H
