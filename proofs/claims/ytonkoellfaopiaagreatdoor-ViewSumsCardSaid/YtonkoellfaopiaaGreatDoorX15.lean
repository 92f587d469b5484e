import Derived.Test.YtonkoellfaopiaaGreatDoorX14
set_option linter.unusedSimpArgs false
set_option linter.unusedVariables false
namespace Go.Proofs.YtonkoellfaopiaaGreatDoor.H
open Go
noncomputable section
def offI (c:D91):D47:=⟨c.fOffer_Type,c.fOffer_Zone,c.fOffer_Kind⟩
structure sm91 (c:D91):Prop where
 token:sm (sizeN c.fToken)
 type:sm (sizeN c.fOffer_Type)
 zone:sm (sizeN c.fOffer_Zone)
 kind:sm (sizeN c.fOffer_Kind)
theorem sm91.off {c:D91} (h:sm91 c):sm47 (offI c):=⟨h.type,h.zone,h.kind⟩
def idsOf (a:D33) (j:Nat):List ByteArray:=(List.range j).map fun i=>(a.fInsts.at i).fId
def toksOf (a:D33) (j:Nat):List ByteArray:=(List.range j).map fun i=>(a.fInsts.at i).fToken
theorem idsOf_succ (a:D33) (j:Nat):idsOf a (j+1)=idsOf a j++[(a.fInsts.at j).fId]:=by unfold idsOf;rw [List.range_succ];simp
theorem toksOf_succ (a:D33) (j:Nat):toksOf a (j+1)=toksOf a j++[(a.fInsts.at j).fToken]:=by unfold toksOf;rw [List.range_succ];simp
def goodI (c:D91):Bool:=!decide (sizeN c.fId=0) && (!decide (sizeN c.fToken=0) && (within c.fState 1 3 && within c.fReady 0 1099511627776))
def dupI (a:D33) (j:Nat):Bool:=(List.range j).any fun i=>strEq (a.fInsts.at j).fId (a.fInsts.at i).fId || strEq (a.fInsts.at j).fToken (a.fInsts.at i).fToken
theorem dup_eq (a:D33) (j:Nat):((idsOf a j).any (strEq (a.fInsts.at j).fId) || (toksOf a j).any (strEq (a.fInsts.at j).fToken))=dupI a j:=by
 unfold idsOf toksOf dupI
 rw [List.any_map,List.any_map]
 generalize List.range j=l
 induction l with
 | nil=>rfl
 | cons i l ih=>
  simp only [List.any_cons,Function.comp] at ih ⊢
  rw [← ih]
  cases strEq (a.fInsts.at j).fId (a.fInsts.at i).fId<;>cases strEq (a.fInsts.at j).fToken (a.fInsts.at i).fToken<;>simp
def instE (a:D33) (j:Nat):Int:=orE (wantE (goodI (a.fInsts.at j)) 1) (orE (wantE (!dupI a j) 6) (wantE (hasB a.fTypes (offI (a.fInsts.at j))) 5))
theorem c30 (a:D33) (hn:a.fInsts.n≤64) (ht:smR sm112 a.fTypes):Ret 30 [ag (e33 a)] (ii (firstE a.fInsts.n (instE a))):=by
 have key:=Ev.errsC (X:=fun m j=>(X30n (regs O) a m).x0 (j:Int) (encT (toksOf a j)) (encT (idsOf a j))) 6 a.fInsts.n (instE a) (fun m j hj=>by
  have hj2:j < 2 ^ 62:=by omega
  obtain ⟨o,ho,hO⟩:=ret65 a (offI (a.fInsts.at j)) ht
  have hO:∀ (ρ:Type) (K:Y→Option ρ),yC (regs O) 65 [ag (e33 a),S.t (T.rows 3 1 fun i=>List.take 3 (List.drop (i.1*3) [ts (a.fInsts.at j).fOffer_Type,ts (a.fInsts.at j).fOffer_Zone,ts (a.fInsts.at j).fOffer_Kind]))] K=K o:=hO
  obtain ⟨x,hx,hM⟩:=yC_bool (by kernel_rfl) (c22 (a.fInsts.at j).fReady)
  show (X30n (regs O) a (m+6)).x0 (j:Int) (encT (toksOf a j)) (encT (idsOf a j))=bif !eqI (instE a j) 0 then some (ii (instE a j)) else (X30n (regs O) a m).x0 ((j+1:Nat):Int) (encT (toksOf a (j+1))) (encT (idsOf a (j+1)))
  have l1:(idsOf a (j+1)).length≤800:=by simp [idsOf];omega
  have l2:(toksOf a (j+1)).length≤800:=by simp [toksOf];omega
  have k5:∀ b,b=dupI a j→(X30n (regs O) a (m+1)).x5 b (a.fInsts.at j) (j:Int) (encT (toksOf a j)) (encT (idsOf a j))=bif dupI a j then some (ii 6) else bif !hasB a.fTypes (offI (a.fInsts.at j)) then some (ii 5) else (X30n (regs O) a m).x0 ((j+1:Nat):Int) (encT (toksOf a (j+1))) (encT (idsOf a (j+1))):=fun b hb=>by
   subst hb
   rw [X30n]
   generalize X30n (regs O) a m=X
   simp only [X30s,b30_5,D30_0,hO,ho,addI_nat1 hj2]
   cases hd:dupI a j with
   | true=>rfl
   | false=>
    rw [← dup_eq,Bool.or_eq_false_iff] at hd
    simp only [cond_false,updT hd.1,updT hd.2,← idsOf_succ,← toksOf_succ,flatT l1,flatT l2]
  have k4:∀ b,(X30n (regs O) a (m+2)).x4 b (a.fInsts.at j) (j:Int) (encT (toksOf a j)) (encT (idsOf a j))=bif b then some (ii 1) else bif dupI a j then some (ii 6) else bif !hasB a.fTypes (offI (a.fInsts.at j)) then some (ii 5) else (X30n (regs O) a m).x0 ((j+1:Nat):Int) (encT (toksOf a (j+1))) (encT (idsOf a (j+1))):=fun b=>by
   rw [X30n]
   generalize X30n (regs O) a (m+1)=X at k5 ⊢
   generalize X30n (regs O) a m=X' at k5 ⊢
   simp only [X30s,b30_4,D30_5]
   cases b with
   | true=>simp only [cond_true]
   | false=>
    simp only [cond_false]
    have hd:=dup_eq a j
    cases h1:(idsOf a j).any (strEq (a.fInsts.at j).fId) with
    | true=>
     obtain ⟨y,hy,hL⟩:=(lookT (ρ:=S) (a.fInsts.at j).fId (idsOf a j)).2 h1
     rw [hL,hy]
     rw [h1] at hd
     exact k5 _ hd
    | false=>
     rw [(lookT (ρ:=S) (a.fInsts.at j).fId (idsOf a j)).1 h1]
     rw [h1,Bool.false_or] at hd
     cases h2:(toksOf a j).any (strEq (a.fInsts.at j).fToken) with
     | true=>
      obtain ⟨y,hy,hL⟩:=(lookT (ρ:=S) (a.fInsts.at j).fToken (toksOf a j)).2 h2
      rw [hL,hy]
      rw [h2] at hd
      exact k5 _ hd
     | false=>
      rw [(lookT (ρ:=S) (a.fInsts.at j).fToken (toksOf a j)).1 h2]
      rw [h2] at hd
      exact k5 _ hd
  generalize hRdef:(bif dupI a j then some (ii 6) else bif !hasB a.fTypes (offI (a.fInsts.at j)) then some (ii 5) else (X30n (regs O) a m).x0 ((j+1:Nat):Int) (encT (toksOf a (j+1))) (encT (idsOf a (j+1))))=R at k4
  have k3:∀ b,(X30n (regs O) a (m+3)).x3 b (a.fInsts.at j) (j:Int) (encT (toksOf a j)) (encT (idsOf a j))=bif b || !within (a.fInsts.at j).fReady 0 1099511627776 then some (ii 1) else R:=fun b=>by
   rw [X30n]
   generalize X30n (regs O) a (m+2)=X at k4 ⊢
   simp only [X30s,b30_3,D30_4,hM,hx,k4]
   cases b<;>rfl
  have k2:∀ b,(X30n (regs O) a (m+4)).x2 b (a.fInsts.at j) (j:Int) (encT (toksOf a j)) (encT (idsOf a j))=bif b || (!leI (a.fInsts.at j).fState 3 || !within (a.fInsts.at j).fReady 0 1099511627776) then some (ii 1) else R:=fun b=>by
   rw [X30n]
   generalize X30n (regs O) a (m+3)=X at k3 ⊢
   simp only [X30s,b30_2,D30_3,k3,gtI_leI]
   cases b<;>rfl
  have k1:∀ b,(X30n (regs O) a (m+5)).x1 b (a.fInsts.at j) (j:Int) (encT (toksOf a j)) (encT (idsOf a j))=bif b || (!geI (a.fInsts.at j).fState 1 || (!leI (a.fInsts.at j).fState 3 || !within (a.fInsts.at j).fReady 0 1099511627776)) then some (ii 1) else R:=fun b=>by
   rw [X30n]
   generalize X30n (regs O) a (m+4)=X at k2 ⊢
   simp only [X30s,b30_1,D30_2,k2,ltI_ge]
   cases b<;>rfl
  have hR:(bif !eqI (instE a j) 0 then some (ii (instE a j)) else (X30n (regs O) a m).x0 ((j+1:Nat):Int) (encT (toksOf a (j+1))) (encT (idsOf a (j+1))))=bif !goodI (a.fInsts.at j) then some (ii 1) else R:=by
   rw [← hRdef]
   unfold instE orE wantE
   cases goodI (a.fInsts.at j)<;>cases dupI a j<;>cases hasB a.fTypes (offI (a.fInsts.at j))<;>rfl
  rw [hR]
  have hg:(!goodI (a.fInsts.at j))=(decide (sizeN (a.fInsts.at j).fId=0) || (decide (sizeN (a.fInsts.at j).fToken=0) || (!geI (a.fInsts.at j).fState 1 || (!leI (a.fInsts.at j).fState 3 || !within (a.fInsts.at j).fReady 0 1099511627776)))):=by
   unfold goodI
   generalize within (a.fInsts.at j).fReady 0 1099511627776=w
   unfold within
   cases decide (sizeN (a.fInsts.at j).fId=0)<;>cases decide (sizeN (a.fInsts.at j).fToken=0)<;>cases geI (a.fInsts.at j).fState 1<;>cases leI (a.fInsts.at j).fState 3<;>cases w<;>rfl
  rw [hg]
  rw [X30n]
  generalize X30n (regs O) a (m+5)=X at k1 ⊢
  simp only [X30s,b30_0,D30_1,ltI_nat,elemO_nat hj,get_nat,hj,decide_true,cond_true,strEq_empty,k1]
  cases decide (sizeN (a.fInsts.at j).fId=0)<;>rfl) (fun m=>by
  show (X30n (regs O) a (m+6)).x0 (a.fInsts.n:Int) _ _=_
  rw [X30n]
  generalize X30n (regs O) a (m+5)=X
  simp only [X30s,b30_0,ltI_nat,Nat.lt_irrefl,decide_false,cond_false])
 obtain ⟨n,h⟩:=key.get
 refine W30 a n _ ?_
 have f1:=flatT (l:=[]) (K:=(X30n (regs O) a n).x0 0 [] []) (by decide)
 have f1:flatW 900 [] ((X30n (regs O) a n).x0 0 [] [])=(X30n (regs O) a n).x0 0 [] []:=f1
 have f2:∀ K:Option S,flatW 900 [] K=K:=fun K=>flatT (l:=[]) (K:=K) (by decide)
 simp only [e30_in,D30_0,f2]
 exact h
def restV (a:D33):Int:=orE (firstE a.fCommands.n (cmdE a)) (orE (firstE a.fCools.n (coolE a)) (firstE a.fInsts.n (instE a)))
structure sm33 (a:D33):Prop where
 types:smR sm112 a.fTypes
 pods:smR sm61 a.fPods
 pools:smR sm77 a.fPools
 claims:smR sm52 a.fClaims
 commands:smR sm122 a.fCommands
 cools:smR sm125 a.fCools
 insts:smR sm91 a.fInsts
def timesB (a:D33):Bool:=within a.fNow 0 1099511627776 && (within a.fConf_Idle 0 1073741824 && (within a.fConf_Most 0 1073741824 && (within a.fConf_Hold 0 1073741824 && (within a.fConf_Late 0 1073741824 && within a.fConf_Cool 0 1073741824))))
def fewB (a:D33):Bool:=decide (a.fPods.n≤24) && (decide (a.fPools.n≤4) && (decide (a.fClaims.n≤16) && (decide (a.fCommands.n≤1) && (decide (a.fCools.n≤72) && (decide (a.fInsts.n≤64) && decide (a.fNotes.n≤32))))))
def partsV (a:D33):Int:=orE (firstE a.fPools.n (poolE a)) (orE (firstE a.fClaims.n (claimE a)) (orE (firstE a.fPods.n (podE a)) (restV a)))
def checkV (a:D33):Int:=orE (wantE (timesB a) 1) (orE (typesV a.fTypes) (orE (wantE (fewB a) 3) (partsV a)))
theorem gtI_le {n:Nat} (k:Nat):gtI (ofN n) (k:Int)=!decide (n≤k):=by
 rw [gtI_ofN]
 by_cases h:n≤k<;>simp [h]<;>omega
theorem c9 (a:D33) (ha:sm33 a):Ret 9 [ag (e33 a)] (ii (checkV a)):=by
 have n1:=sm_lt ha.pools.1
 have nc:=sm_lt ha.claims.1
 have nk:=sm_lt ha.cools.1
 obtain ⟨p,hp,hP⟩:=yC_int (by kernel_rfl) (c25 a ha.pools)
 obtain ⟨c,hc,hC⟩:=yC_int (by kernel_rfl) (c26 a ha.claims n1 ha.types)
 obtain ⟨d,hd,hD⟩:=yC_int (by kernel_rfl) (c27 a ha.pods nc)
 obtain ⟨e,he,hE⟩:=yC_int (by kernel_rfl) (c28 a ha.commands n1 ha.types)
 obtain ⟨f,hf,hF⟩:=yC_int (by kernel_rfl) (c29 a nk ha.types)
 generalize hn:(0:Nat)=n
 have h9:a.fInsts.n≤64→(X9n (regs O) a (n+7)).x9=some (ii (partsV a)):=fun hi=>by
  obtain ⟨g,hg,hG⟩:=yC_int (by kernel_rfl) (c30 a hi ha.types)
  have x15:(X9n (regs O) a (n+1)).x15=some (ii 0):=by
   rw [X9n]
   generalize X9n (regs O) a n=X
   simp only [X9s,b9_15]
  have x14:(X9n (regs O) a (n+2)).x14=some (ii (orE (firstE a.fInsts.n (instE a)) 0)):=by
   rw [X9n]
   generalize X9n (regs O) a (n+1)=X at x15 ⊢
   simp only [X9s,b9_14,D9_15,x15,hG,hg,or_some]
  have x13:(X9n (regs O) a (n+3)).x13=some (ii (orE (firstE a.fCools.n (coolE a)) (orE (firstE a.fInsts.n (instE a)) 0))):=by
   rw [X9n]
   generalize X9n (regs O) a (n+2)=X at x14 ⊢
   simp only [X9s,b9_13,D9_14,x14,hF,hf,or_some]
  have x12:(X9n (regs O) a (n+4)).x12=some (ii (restV a)):=by
   rw [X9n]
   generalize X9n (regs O) a (n+3)=X at x13 ⊢
   simp only [X9s,b9_12,D9_13,x13,hE,he,or_some,orE_zero]
   rfl
  have x11:(X9n (regs O) a (n+5)).x11=some (ii (orE (firstE a.fPods.n (podE a)) (restV a))):=by
   rw [X9n]
   generalize X9n (regs O) a (n+4)=X at x12 ⊢
   simp only [X9s,b9_11,D9_12,x12,hD,hd,or_some]
  have x10:(X9n (regs O) a (n+6)).x10=some (ii (orE (firstE a.fClaims.n (claimE a)) (orE (firstE a.fPods.n (podE a)) (restV a)))):=by
   rw [X9n]
   generalize X9n (regs O) a (n+5)=X at x11 ⊢
   simp only [X9s,b9_10,D9_11,x11,hC,hc,or_some]
  rw [X9n]
  generalize X9n (regs O) a (n+6)=X at x10 ⊢
  simp only [X9s,b9_9,D9_10,x10,hP,hp,or_some]
  rfl
 have g24:gtI (ofN a.fPods.n) 24=!decide (a.fPods.n≤24):=gtI_le 24
 have g4:gtI (ofN a.fPools.n) 4=!decide (a.fPools.n≤4):=gtI_le 4
 have g16:gtI (ofN a.fClaims.n) 16=!decide (a.fClaims.n≤16):=gtI_le 16
 have g1:gtI (ofN a.fCommands.n) 1=!decide (a.fCommands.n≤1):=gtI_le 1
 have g72:gtI (ofN a.fCools.n) 72=!decide (a.fCools.n≤72):=gtI_le 72
 have g64:gtI (ofN a.fInsts.n) 64=!decide (a.fInsts.n≤64):=gtI_le 64
 have g32:gtI (ofN a.fNotes.n) 32=!decide (a.fNotes.n≤32):=gtI_le 32
 have w3:∀ (b:Bool) r,(bif b then some (ii 3) else some (ii r))=some (ii (orE (wantE (!b) 3) r)):=fun b r=>by cases b<;>rfl
 have k8:∀ b,(b=false→a.fInsts.n≤64)→(X9n (regs O) a (n+8)).x8 b=some (ii (orE (wantE (!b && decide (a.fNotes.n≤32)) 3) (partsV a))):=fun b hb=>by
  cases b with
  | true=>
   rw [X9n]
   generalize X9n (regs O) a (n+7)=X
   simp only [X9s,b9_8]
   rfl
  | false=>
   have:=h9 (hb rfl)
   rw [X9n]
   generalize X9n (regs O) a (n+7)=X at this ⊢
   simp only [X9s,b9_8,D9_9,g32,this]
   cases decide (a.fNotes.n≤32)<;>rfl
 have k7:∀ b,(X9n (regs O) a (n+9)).x7 b=some (ii (orE (wantE (!b && (decide (a.fInsts.n≤64) && decide (a.fNotes.n≤32))) 3) (partsV a))):=fun b=>by
  cases b with
  | true=>
   have:=k8 true (fun h=>by cases h)
   rw [X9n]
   generalize X9n (regs O) a (n+8)=X at this ⊢
   simp only [X9s,b9_7,D9_8,cond_true]
   exact this
  | false=>
   have:=k8 (!decide (a.fInsts.n≤64)) (fun h=>by simpa using h)
   rw [X9n]
   generalize X9n (regs O) a (n+8)=X at this ⊢
   simp only [X9s,b9_7,D9_8,cond_false,g64]
   rw [Bool.not_not] at this
   exact this
 have k6:∀ b,(X9n (regs O) a (n+10)).x6 b=some (ii (orE (wantE (!b && (decide (a.fCools.n≤72) && (decide (a.fInsts.n≤64) && decide (a.fNotes.n≤32)))) 3) (partsV a))):=fun b=>by
  rw [X9n]
  generalize X9n (regs O) a (n+9)=X at k7 ⊢
  simp only [X9s,b9_6,D9_7,g72,k7,Bool.not_not]
  cases b<;>rfl
 have k5:∀ b,(X9n (regs O) a (n+11)).x5 b=some (ii (orE (wantE (!b && (decide (a.fCommands.n≤1) && (decide (a.fCools.n≤72) && (decide (a.fInsts.n≤64) && decide (a.fNotes.n≤32))))) 3) (partsV a))):=fun b=>by
  rw [X9n]
  generalize X9n (regs O) a (n+10)=X at k6 ⊢
  simp only [X9s,b9_5,D9_6,g1,k6,Bool.not_not]
  cases b<;>rfl
 have k4:∀ b,(X9n (regs O) a (n+12)).x4 b=some (ii (orE (wantE (!b && (decide (a.fClaims.n≤16) && (decide (a.fCommands.n≤1) && (decide (a.fCools.n≤72) && (decide (a.fInsts.n≤64) && decide (a.fNotes.n≤32)))))) 3) (partsV a))):=fun b=>by
  rw [X9n]
  generalize X9n (regs O) a (n+11)=X at k5 ⊢
  simp only [X9s,b9_4,D9_5,g16,k5,Bool.not_not]
  cases b<;>rfl
 obtain ⟨t0,ht0,hT0⟩:=yC_bool (by kernel_rfl) (c22 a.fNow)
 obtain ⟨t1,ht1,hT1⟩:=yC_bool (by kernel_rfl) (c23 a.fConf_Idle)
 obtain ⟨t2,ht2,hT2⟩:=yC_bool (by kernel_rfl) (c23 a.fConf_Most)
 obtain ⟨t3,ht3,hT3⟩:=yC_bool (by kernel_rfl) (c23 a.fConf_Hold)
 obtain ⟨t4,ht4,hT4⟩:=yC_bool (by kernel_rfl) (c23 a.fConf_Late)
 obtain ⟨t5,ht5,hT5⟩:=yC_bool (by kernel_rfl) (c23 a.fConf_Cool)
 obtain ⟨ty,hty,hTY⟩:=yC_int (by kernel_rfl) (c24 a.fTypes ha.types)
 generalize hR:orE (typesV a.fTypes) (orE (wantE (fewB a) 3) (partsV a))=R
 have k3:∀ b,(X9n (regs O) a (n+13)).x3 b=some (ii (orE (wantE (!b && within a.fConf_Cool 0 1073741824) 1) R)):=fun b=>by
  rw [X9n]
  generalize X9n (regs O) a (n+12)=X at k4 ⊢
  simp only [X9s,b9_3,D9_4,g24,g4,k4,hT5,ht5,hTY,hty,Bool.not_not]
  rw [← hR]
  unfold fewB
  cases b with
  | true=>rfl
  | false=>
   cases within a.fConf_Cool 0 1073741824 with
   | false=>rfl
   | true=>
    simp only [cond_false,Bool.not_true]
    cases hc:eqI (typesV a.fTypes) 0 with
    | false=>rw [orE_false hc];rfl
    | true=>
     rw [orE_true hc]
     cases decide (a.fPods.n≤24)<;>rfl
 have k2:∀ b,(X9n (regs O) a (n+14)).x2 b=some (ii (orE (wantE (!b && (within a.fConf_Late 0 1073741824 && within a.fConf_Cool 0 1073741824)) 1) R)):=fun b=>by
  rw [X9n]
  generalize X9n (regs O) a (n+13)=X at k3 ⊢
  simp only [X9s,b9_2,D9_3,k3,hT4,ht4,Bool.not_not]
  cases b<;>rfl
 have k1:∀ b,(X9n (regs O) a (n+15)).x1 b=some (ii (orE (wantE (!b && (within a.fConf_Hold 0 1073741824 && (within a.fConf_Late 0 1073741824 && within a.fConf_Cool 0 1073741824))) 1) R)):=fun b=>by
  rw [X9n]
  generalize X9n (regs O) a (n+14)=X at k2 ⊢
  simp only [X9s,b9_1,D9_2,k2,hT3,ht3,Bool.not_not]
  cases b<;>rfl
 have k0:∀ b,(X9n (regs O) a (n+16)).x0 b=some (ii (orE (wantE (!b && (within a.fConf_Most 0 1073741824 && (within a.fConf_Hold 0 1073741824 && (within a.fConf_Late 0 1073741824 && within a.fConf_Cool 0 1073741824)))) 1) R)):=fun b=>by
  rw [X9n]
  generalize X9n (regs O) a (n+15)=X at k1 ⊢
  simp only [X9s,b9_0,D9_1,k1,hT2,ht2,Bool.not_not]
  cases b<;>rfl
 refine W9 a (n+16) _ ?_
 generalize X9n (regs O) a (n+16)=X at k0 ⊢
 simp only [e9_in,D9_0,k0,hT0,ht0,hT1,ht1,Bool.not_not]
 unfold checkV timesB
 rw [hR]
 cases within a.fNow 0 1099511627776<;>rfl
set_option maxRecDepth 100000 in
theorem live60:(envN O 60).callT 8 []=some (bb true):=by kernel_rfl
theorem c8:Ret 8 [] (bb true):=W_of live60
end
end Go.Proofs.YtonkoellfaopiaaGreatDoor.H
