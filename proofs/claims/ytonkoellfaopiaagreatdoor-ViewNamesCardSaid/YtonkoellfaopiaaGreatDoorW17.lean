import Derived.Test.YtonkoellfaopiaaGreatDoorW16
set_option linter.unusedSimpArgs false
set_option linter.unusedVariables false
namespace Go.Proofs.YtonkoellfaopiaaGreatDoor.H
open Go Go.Lib
noncomputable section
def sm68 (a:D68):Prop:=sm (sizeN a.fKey)∧smR (fun x:ByteArray=>sm (sizeN x)) a.fVals
def dupB (a:Rw ByteArray):Bool:=(List.range a.n).any fun j=>(List.range j).any fun i=>strEq (a.at i) (a.at j)
def vlsV (a:Rw ByteArray):Int:=bif gtI (ofN a.n) 8 then 3 else bif (List.range a.n).any (fun j=>!valB (a.at j)) then 20 else bif dupB a then 6 else 0
def opBad (x:D68):Bool:=(ltI x.fOp 1 || gtI x.fOp 6) || (!eqB (eqI x.fOp 1 || eqI x.fOp 2) (gtI (ofN x.fVals.n) 0) || ((!(eqI x.fOp 5 || eqI x.fOp 6) && !eqI x.fN 0) || (ltI x.fN (-2147483648) || gtI x.fN 2147483648)))
def reqV (x:D68):Int:=bif !nameB x.fKey then 7 else bif opBad x then 30 else vlsV x.fVals
def reqsV (a:Rw D68):Int:=bif gtI (ofN a.n) 8 then 3 else firstE a.n fun j=>reqV (a.at j)
theorem c229 (a:ByteArray) (ha:sm (sizeN a)):Ret 229 [ss a] (bb (!valB a)):=by
 obtain ⟨y,hy,hK⟩:=yC_bool (by kernel_rfl) (c146 a ha)
 exact W229 a 0 _ (by simp only [e229_in,hK,hy])
theorem c186c (a:Rw ByteArray) (ha:smR (fun x:ByteArray=>sm (sizeN x)) a):Ret 186 [S.t (T.rows 1 a.n fun i=>[ts (a.get i)]),S.t (T.v (.func (Go.Fn.func 229) #[] #[]))] (ii (idx a.n fun j=>!valB (a.at j))):=by
 have hn:=sm_lt ha.1
 have key:=Ev.idxC (X:=fun m j=>(X186bn (regs O) a m).x0 (j:Int)) 1 a.n (fun j=>!valB (a.at j)) (fun m j hj=>by
  have hj2:j < 2 ^ 62:=by omega
  obtain ⟨y,hy,hK⟩:=yC_bool (by kernel_rfl) (c229 (a.at j) (ha.2 j hj))
  simp only [X186bn,X186bs,b186b_0,D186b_0,ltI_nat,elemO_nat hj,get_nat,hj,decide_true,cond_true,addI_nat1 hj2,hK,hy]) (fun m=>by
  simp only [X186bn,X186bs,b186b_0,D186b_0,ltI_nat,Nat.lt_irrefl,decide_false,cond_false];rfl)
 obtain ⟨n,h⟩:=key.get
 exact W186b a n _ h
theorem c151c (a:Rw ByteArray) (ha:smR (fun x:ByteArray=>sm (sizeN x)) a):Ret 151 [S.t (T.rows 1 a.n fun i=>[ts (a.get i)]),S.t (T.v (.func (Go.Fn.func 229) #[] #[]))] (bb ((List.range a.n).any fun j=>!valB (a.at j))):=by
 obtain ⟨y,hy,hK⟩:=yC_int (by kernel_rfl) (c186c a ha)
 exact W151b a 0 _ (by simp only [e151b_in,hK,hy,idx_ge])
def grp (a:Rw ByteArray):Nat→List ByteArray
 | 0=>[]
 | j+1=>addL (grp a j) (a.at j)
theorem addL_any (l:List ByteArray) (b c:ByteArray):(addL l b).any (strEq c)=(l.any (strEq c) || strEq c b):=by
 unfold addL
 cases h:l.any (strEq b) with
 | false=>simp [List.any_append]
 | true=>
  rw [cond_true]
  cases hc:strEq c b with
  | false=>rw [Bool.or_false]
  | true=>obtain rfl:=strEq_iff.1 hc;rw [h];rfl
theorem grp_any (a:Rw ByteArray) (b:ByteArray):∀ j,(grp a j).any (strEq b)=(List.range j).any fun i=>strEq b (a.at i)
 | 0=>rfl
 | j+1=>by
  rw [List.range_succ,List.any_append,← grp_any a b j]
  show (addL (grp a j) (a.at j)).any (strEq b)=_
  rw [addL_any]
  simp
theorem grp_len (a:Rw ByteArray):∀ j,(grp a j).length≤j∧decide ((grp a j).length < j)=(List.range j).any fun k=>(List.range k).any fun i=>strEq (a.at i) (a.at k)
 | 0=>⟨Nat.le_refl _,rfl⟩
 | j+1=>by
  obtain ⟨h1,h2⟩:=grp_len a j
  rw [List.range_succ,List.any_append,← h2]
  have hc:((List.range j).any fun i=>strEq (a.at i) (a.at j))=(grp a j).any (strEq (a.at j)):=by
   rw [grp_any]
   exact List.any_congr rfl fun i=>strEq_comm
  simp only [List.any_cons,List.any_nil,Bool.or_false,hc]
  show (addL (grp a j) (a.at j)).length≤j+1∧decide ((addL (grp a j) (a.at j)).length < j+1)=_
  unfold addL
  cases (grp a j).any (strEq (a.at j)) with
  | true=>simp only [cond_true,Bool.or_true,decide_eq_true_eq];omega
  | false=>
   simp only [cond_false,Bool.or_false,List.length_append,List.length_cons,List.length_nil,Nat.zero_add]
   refine ⟨by omega,?_⟩
   by_cases h:(grp a j).length < j
   ·simp [h]
   ·simp [h]
theorem noTwice_app (l:List ByteArray) (b:ByteArray):noTwice (l++[b])=(noTwice l && !l.any (strEq b)):=by
 induction l with
 | nil=>rfl
 | cons k l ih=>
  show (!(l++[b]).any (strEq k) && noTwice (l++[b]))=(!l.any (strEq k) && noTwice l && !(strEq b k || l.any (strEq b)))
  rw [ih,List.any_append,@strEq_comm b k]
  simp only [List.any_cons,List.any_nil,Bool.or_false]
  cases l.any (strEq k)<;>cases noTwice l<;>cases strEq k b<;>cases l.any (strEq b)<;>rfl
theorem noTwice_add {l:List ByteArray} (b:ByteArray) (h:noTwice l=true):noTwice (addL l b)=true:=by
 unfold addL
 cases hb:l.any (strEq b) with
 | true=>exact h
 | false=>rw [cond_false,noTwice_app,h,hb];rfl
theorem grp_noTwice (a:Rw ByteArray):∀ j,noTwice (grp a j)=true
 | 0=>rfl
 | j+1=>noTwice_add _ (grp_noTwice a j)
theorem addL_all {p:ByteArray→Bool} {l:List ByteArray} {b:ByteArray} (h:l.all p=true) (hb:p b=true):(addL l b).all p=true:=by
 unfold addL
 cases l.any (strEq b) with
 | true=>exact h
 | false=>rw [cond_false,List.all_append,h];simp [hb]
theorem grp_all (a:Rw ByteArray) {p:ByteArray→Bool}:∀ j,(∀ i,i < j→p (a.at i)=true)→(grp a j).all p=true
 | 0,_=>rfl
 | j+1,h=>addL_all (grp_all a j fun i hi=>h i (by omega)) (h j (by omega))
theorem lenE_T (l:List ByteArray):lenE (encT l)=l.length:=by unfold lenE encT;simp
theorem matT {ρ:Type} (l:List ByteArray) (K:Option ρ):matW (encT l) K=K:=by
 unfold matW
 refine if_pos ?_
 show (encT l).all _=true
 rw [List.all_eq_true]
 intro e he
 obtain ⟨s,_,rfl⟩:=List.mem_map.1 he
 rfl
theorem c217 (a:Rw ByteArray) (hn:a.n≤800):Ret 217 [S.t (T.rows 1 1 fun i=>List.take 1 (List.drop (i.1*1) [T.rows 1 a.n fun i=>[ts (a.get i)]]))] (.mt (encT (grp a a.n))):=by
 have inner:∀ (k j:Nat),j+k=a.n→Ev (fun m=>(X217n (regs O) (rwL [a]) m).x1 (ofN a.n) a (j:Int) (encT (grp a j)) 0) (.mt (encT (grp a a.n))):=by
  intro k
  induction k with
  | zero=>
   intro j hj
   obtain rfl:j=a.n:=by omega
   have hl:=(grp_len a a.n).1
   refine Ev.add 2 ⟨0,fun m _=>?_⟩
   show (X217n (regs O) (rwL [a]) (m+2)).x1 (ofN a.n) a ((a.n:Nat):Int) (encT (grp a a.n)) 0=_
   rw [X217n]
   simp only [X217s,b217_1,ltI_nat,Nat.lt_irrefl,decide_false,cond_false,flatT (show (grp a a.n).length≤800 by omega)]
   show (X217n (regs O) (rwL [a]) (m+1)).x0 1 (encT (grp a a.n))=_
   rw [X217n]
   have h1:ltI 1 (ofN (rwL [a]).n)=false:=rfl
   simp only [X217s,b217_0,h1,cond_false,flatT (show (grp a a.n).length≤800 by omega),flatD (d:=999) (show (grp a a.n).length+11≤999 by omega)]
  | succ k ih=>
   intro j hj
   have hj1:j < a.n:=by omega
   have hl:=(grp_len a (j+1)).1
   refine Ev.succ ((ih (j+1) (by omega)).of_eq fun m=>?_)
   rw [X217n]
   simp only [X217s,b217_1,D217_1,ltI_nat,hj1,decide_true,cond_true,elemO_nat hj1,get_nat,updA,addI_nat1 (show j < 2 ^ 62 by omega)]
   show flatW 900 (encT (grp a (j+1))) _=_
   rw [flatT (show (grp a (j+1)).length≤800 by omega)]
   rfl
 have key:Ev (fun m=>(X217n (regs O) (rwL [a]) m).x0 0 []) (.mt (encT (grp a a.n))):=by
  refine Ev.succ ((inner a.n 0 (by omega)).of_eq fun m=>?_)
  rw [X217n]
  have h1:ltI 0 (ofN (rwL [a]).n)=true:=rfl
  simp only [X217s,b217_0,D217_1,h1,cond_true]
  have f:∀ K:Option S,flatW 900 [] K=K:=fun K=>flatT (l:=[]) (by decide)
  show elemO 0 1 (fun h=>flatW 900 [] _)=_
  rw [elemO_pos (by decide) (by decide),f]
  rfl
 obtain ⟨n,h⟩:=key.get
 have e:(fun i:Fin 1=>List.take 1 (List.drop (i.1*1) [T.rows 1 a.n fun i=>[ts (a.get i)]]))=fun i:Fin (rwL [a]).n=>e31 ((rwL [a]).get i):=lit1 [a] (fun x=>T.rows 1 x.n fun i=>[ts (x.get i)])
 rw [e]
 refine W217 (rwL [a]) n _ ?_
 show flatW 900 [] ((X217n (regs O) (rwL [a]) n).x0 0 [])=_
 have f:∀ K:Option S,flatW 900 [] K=K:=fun K=>flatT (l:=[]) (by decide)
 rw [f];exact h
theorem c217b:Ret 217 [S.t (T.v (.slice none 0 0))] (.mt []):=by
 have f:∀ K:Option S,flatW 900 [] K=K:=fun K=>flatT (l:=[]) (by decide)
 have g:∀ K:Option S,flatW 999 [] K=K:=fun K=>flatD (d:=999) (l:=[]) (by decide)
 refine W217b 1 _ ?_
 show flatW 900 [] (flatW 900 [] (flatW 999 [] (some (S.mt []))))=_
 rw [f,f,g]
theorem c215 (x:D68) (hx:sm68 x):Ret 215 [ag (e68 x)] (ii (reqV x)):=by
 obtain ⟨y1,hy1,hK1⟩:=yC_bool (by kernel_rfl) (c101 x.fKey hx.1)
 obtain ⟨y2,hy2,hK2⟩:=yC_bool (by kernel_rfl) (c151c x.fVals hx.2)
 have rest:(bif gtI (ofN x.fVals.n) 8 then some (ii 3) else yC (regs O) 151 [S.t (T.rows 1 x.fVals.n fun i=>[ts (x.fVals.get i)]),S.t (T.v (.func (Go.Fn.func 229) (Array.mk []) (Array.mk [])))] fun y=>bif y.b 0 then some (ii 20) else yC (regs O) 217 [S.t (T.rows 1 1 fun i=>List.take 1 (List.drop (i.1*1) [T.rows 1 x.fVals.n fun i=>[ts (x.fVals.get i)]]))] fun y=>matW (y.m 0) (bif ltI (ofN (lenE (y.m 0))) (ofN x.fVals.n) then some (ii 6) else some (ii 0)))=some (ii (vlsV x.fVals)):=by
  unfold vlsV
  have e:gtI (ofN x.fVals.n) 8=decide (8 < x.fVals.n):=gtI_ofN (k:=8)
  by_cases h:8 < x.fVals.n
  ·rw [e];simp [h]
  ·obtain ⟨y3,hy3,hK3⟩:=yC_map (by kernel_rfl) (c217 x.fVals (by omega))
   have hd:ltI (ofN (grp x.fVals x.fVals.n).length) (ofN x.fVals.n)=dupB x.fVals:=by
    unfold dupB
    rw [← (grp_len x.fVals x.fVals.n).2]
    exact ltI_nat
   rw [e,hK2,hy2,hK3,hy3,matT,lenE_T,hd]
   simp only [h,decide_false,cond_false]
   cases (List.range x.fVals.n).any (fun j=>!valB (x.fVals.at j))<;>cases dupB x.fVals<;>rfl
 have h3:∀ m b,(X215n (regs O) x (m+1)).x3 b=some (ii (bif b || (ltI x.fN (-2147483648) || gtI x.fN 2147483648) then 30 else vlsV x.fVals)):=fun m b=>by
  rw [X215n]
  simp only [X215s,b215_3]
  rw [rest]
  have e:ltI x.fN (Int.negSucc 2147483647)=ltI x.fN (-2147483648):=rfl
  rw [e]
  cases b<;>cases ltI x.fN (-2147483648)<;>cases gtI x.fN 2147483648<;>rfl
 have h2:∀ m num vals b,(X215n (regs O) x (m+2)).x2 num vals b=some (ii (bif b || (!eqB vals (gtI (ofN x.fVals.n) 0) || ((!num && !eqI x.fN 0) || (ltI x.fN (-2147483648) || gtI x.fN 2147483648))) then 30 else vlsV x.fVals)):=fun m num vals b=>by
  have t:=h3 m
  rw [X215n]
  generalize X215n (regs O) x (m+1)=X at t ⊢
  simp only [X215s,b215_2]
  rw [rest]
  simp only [D215_3,t]
  cases b<;>cases eqB vals (gtI (ofN x.fVals.n) 0)<;>cases num<;>cases eqI x.fN 0<;>cases ltI x.fN (-2147483648)<;>cases gtI x.fN 2147483648<;>rfl
 have h1:∀ m vals num,(X215n (regs O) x (m+3)).x1 vals num=some (ii (bif !nameB x.fKey then 7 else bif (ltI x.fOp 1 || gtI x.fOp 6) || (!eqB vals (gtI (ofN x.fVals.n) 0) || ((!num && !eqI x.fN 0) || (ltI x.fN (-2147483648) || gtI x.fN 2147483648))) then 30 else vlsV x.fVals)):=fun m vals num=>by
  have t:=h2 m
  rw [X215n]
  generalize X215n (regs O) x (m+2)=X at t ⊢
  simp only [X215s,b215_1]
  rw [hK1,hy1]
  simp only [D215_2,t]
  cases nameB x.fKey<;>cases ltI x.fOp 1<;>rfl
 have h0:∀ m vals,(X215n (regs O) x (m+4)).x0 vals=some (ii (bif !nameB x.fKey then 7 else bif (ltI x.fOp 1 || gtI x.fOp 6) || (!eqB vals (gtI (ofN x.fVals.n) 0) || ((!(eqI x.fOp 5 || eqI x.fOp 6) && !eqI x.fN 0) || (ltI x.fN (-2147483648) || gtI x.fN 2147483648))) then 30 else vlsV x.fVals)):=fun m vals=>by
  have t:=h1 m
  rw [X215n]
  generalize X215n (regs O) x (m+3)=X at t ⊢
  simp only [X215s,b215_0]
  simp only [D215_1,t]
  cases eqI x.fOp 5<;>rfl
 refine W215 x 4 _ ?_
 show e215_in (regs O) x (D215_0 (X215n (regs O) x 4))=_
 unfold e215_in
 simp only [D215_0,h0 0]
 unfold reqV opBad
 cases eqI x.fOp 1<;>rfl
theorem keysE_T:∀ l:List ByteArray,keysE (encT l)=some l
 | []=>rfl
 | s::l=>by
  show (keysE (encT l)).map (s::·)=_
  rw [keysE_T l];rfl
def keyFit (k:ByteArray):Bool:=k.size.ble 281474976710656
theorem yC_any {f:FuncId} {args:List S} {sh:Sh} {y0:Y} (hs:shF O.P f=some sh) (h:Ret f args (build y0 sh)):∃ y:Y,∀ (ρ:Type) (K:Y→Option ρ),yC (regs O) f args K=K y:=by
 obtain ⟨y,_,h2⟩:=yC_of hs h
 exact ⟨y,h2⟩
theorem c216 (l:List ByteArray) (h1:noTwice l=true) (h2:l.all keyFit=true) (h3:l.length≤1048576):∃ y:Y,∀ (ρ:Type) (K:Y→Option ρ),yC (regs O) 216 [S.mt (encT l)] K=K y:=by
 have hr:Ret 216 [S.mt (encT l)] (rowTexts (risingL l)):=by
  refine W_ext (F:=F216) rfl ?_
  show (match keysE (encT l) with | some ks=>bif noTwice ks && ks.all (fun k=>k.size.ble 281474976710656) && (encT l).length.ble 1048576 then some (rowTexts (risingL ks)) else none | none=>none)=_
  rw [keysE_T]
  have e1:(encT l).length.ble 1048576=true:=by rw [Nat.ble_eq];unfold encT;simpa using h3
  have e2:l.all (fun k=>k.size.ble 281474976710656)=true:=h2
  dsimp only
  rw [h1,e1,e2];rfl
 exact yC_any (sh:=.rows 1 0) (y0:=⟨fun _=>0,fun _=>false,fun _=>⟨#[]⟩,fun _=>⟨(risingL l).length,fun i=>[.v (.string ⟨((risingL l)[i.1]'i.2).toArray⟩)]⟩,fun _=>[]⟩) (by kernel_rfl) hr
theorem c214 (n:Int) (h0 : -2147483648≤n) (h1:n≤2147483648):∃ y:Y,y.s 0=decS n∧∀ (ρ:Type) (K:Y→Option ρ),yC (regs O) 214 [ii n,ii 10] K=K y:=by
 have hr:Ret 214 [ii n,ii 10] (ss (decS n)):=by
  refine W_ext (F:=F214) rfl ?_
  show (bif decide (-9223372036854775808≤n) && decide (n≤9223372036854775807) then some (ss (decS n)) else none)=_
  have e1:decide (-9223372036854775808≤n)=true:=by rw [decide_eq_true_eq];omega
  have e2:decide (n≤9223372036854775807)=true:=by rw [decide_eq_true_eq];omega
  rw [e1,e2];rfl
 exact yC_str (by kernel_rfl) hr
theorem decS_fit {n:Int} (h0 : -2147483648≤n) (h1:n≤2147483648):keyFit (decS n)=true:=by
 have:=itoa_len h0 h1
 unfold keyFit decS
 rw [Nat.ble_eq]
 show (itoa n).toArray.size≤_
 rw [List.size_toArray];omega
theorem lookNil {ρ:Type} (b:ByteArray) (Kt:Y→Option ρ) (Kf:Option ρ):lookW O.P O.K 9 4 [] (ss b) Kt Kf=Kf:=(lookT b []).1 rfl Kt Kf
theorem i64 {n:Int} (h0 : -4611686018427387904≤n) (h1:n≤4611686018427387904):IntKind.i64.wrap n=n:=i64_in (by omega)
def sh218:Sh:=.tup [.agg [.bool 0,.bool 1,.bool 2,.rows 1 3,.int .i64 4,.int .i64 5],.bool 6]
def setS (b0 b1 b2:Bool) (r:Rw0) (lo hi:Int) (x:S):S:=.tup [.agg [bb b0,bb b1,bb b2,.t (.rows 1 r.n r.g),ii lo,ii hi],x]
theorem setS_b (b0 b1 b2:Bool) (r:Rw0) (lo hi:Int) (x:Bool):∃ y:Y,build y sh218=setS b0 b1 b2 r lo hi (bb x):=
 ⟨⟨fun i=>match i with | 4=>lo | _=>hi,fun i=>match i with | 0=>b0 | 1=>b1 | 2=>b2 | _=>x,fun _=>⟨#[]⟩,fun _=>r,fun _=>[]⟩,rfl⟩
theorem c218 (lo hi:Int) (h1 : -2147483648≤lo) (h2:lo≤2147483649) (h3 : -2147483649≤hi) (h4:hi≤2147483648):∃ y:Y,∀ (ρ:Type) (K:Y→Option ρ),yC (regs O) 218 [ii lo,ii hi,S.mt []] K=K y:=by
 have f9:∀ K:Option S,flatW 900 [] K=K:=fun K=>flatT (l:=[]) (by decide)
 have f998:∀ K:Option S,flatW 998 [] K=K:=fun K=>flatD (l:=[]) (by decide)
 have wr:∀ (k:Nat) (n:Int) (l:List ByteArray),n+k=hi+1 → -2147483648≤n→l.length+k≤700→noTwice l=true→l.all keyFit=true→∃ y:Y,Ev (fun m=>(X218bn (regs O) lo hi m).x3 n hi (encT l)) (build y sh218):=by
  intro k
  induction k with
  | zero=>
   intro n l hn h0 hl ht hf
   obtain ⟨y,hK⟩:=c216 l ht hf (by omega)
   obtain ⟨z,hz⟩:=setS_b false false false (y.r 0) 0 0 true
   refine ⟨z,Ev.succ ⟨0,fun m _=>?_⟩⟩
   show (X218bn (regs O) lo hi (m+1)).x3 n hi (encT l)=_
   rw [X218bn]
   have e:leI n hi=false:=by unfold leI;rw [decide_eq_false_iff_not];omega
   simp only [X218bs,b218b_3,e,cond_false,flatT (show l.length≤800 by omega),flatD (d:=998) (show l.length+11≤998 by omega),hK]
   rw [hz];rfl
  | succ k ih=>
   intro n l hn h0 hl ht hf
   obtain ⟨y,hy,hK⟩:=c214 n h0 (by omega)
   have hlen:(addL l (decS n)).length≤l.length+1:=by
    unfold addL
    cases l.any (strEq (decS n))<;>simp
   obtain ⟨z,hz⟩:=ih (n+1) (addL l (decS n)) (by omega) (by omega) (by omega) (noTwice_add _ ht) (addL_all hf (decS_fit h0 (by omega)))
   refine ⟨z,Ev.succ (hz.of_eq fun m=>?_)⟩
   rw [X218bn]
   have e:leI n hi=true:=by unfold leI;rw [decide_eq_true_eq];omega
   have e2:addI .i64 n 1=n+1:=i64 (n:=n+1) (by omega) (by omega)
   simp only [X218bs,b218b_3,D218b_3,e,cond_true,hK,lookNil,hy,updA,flatT (show (addL l (decS n)).length≤800 by omega),e2]
 obtain ⟨y,hy⟩:∃ y:Y,Ev (fun m=>(X218bn (regs O) lo hi m).x2 lo hi) (build y sh218):=by
  have e1:subI .i64 (addI .i64 (subI .i64 hi lo) 1) (ofN (lenE []))=hi - lo+1:=by
   unfold subI addI
   rw [i64 (n:=hi - lo) (by omega) (by omega)]
   show IntKind.i64.wrap (IntKind.i64.wrap (hi - lo+1) - 0)=_
   rw [i64 (n:=hi - lo+1) (by omega) (by omega),i64 (by omega) (by omega)];omega
  by_cases hm:hi - lo+1 > 64
  ·obtain ⟨y,hK⟩:=c216 [] rfl rfl (by decide)
   obtain ⟨z,hz⟩:=setS_b false true true (y.r 0) lo hi (leI (ofN (lenE [])) 64)
   refine ⟨z,Ev.succ ⟨0,fun m _=>?_⟩⟩
   show (X218bn (regs O) lo hi (m+1)).x2 lo hi=_
   rw [X218bn]
   have e:gtI (hi - lo+1) 64=true:=by unfold gtI;rw [decide_eq_true_eq];exact hm
   have hK':∀ (ρ:Type) (K:Y→Option ρ),yC (regs O) 216 [S.mt []] K=K y:=hK
   simp only [X218bs,b218b_2,e1,e,cond_true,f998,hK']
   rw [hz];rfl
  ·have e:gtI (hi - lo+1) 64=false:=by
    unfold gtI;rw [decide_eq_false_iff_not];exact hm
   by_cases hl:hi < lo
   ·obtain ⟨y,hK⟩:=c216 [] rfl rfl (by decide)
    obtain ⟨z,hz⟩:=setS_b false false false (y.r 0) 0 0 true
    refine ⟨z,Ev.add 2 ⟨0,fun m _=>?_⟩⟩
    have hK':∀ (ρ:Type) (K:Y→Option ρ),yC (regs O) 216 [S.mt []] K=K y:=hK
    have t:(X218bn (regs O) lo hi (m+1)).x3 lo hi []=some (build z sh218):=by
     rw [X218bn]
     have e:leI lo hi=false:=by unfold leI;rw [decide_eq_false_iff_not];omega
     simp only [X218bs,b218b_3,e,cond_false,f9,f998,hK']
     rw [hz];rfl
    show (X218bn (regs O) lo hi (m+2)).x2 lo hi=_
    rw [X218bn]
    generalize X218bn (regs O) lo hi (m+1)=X at t ⊢
    simp only [X218bs,b218b_2,D218b_3,e1,e,cond_false,f9]
    exact t
   ·obtain ⟨y,hy⟩:=wr (hi+1 - lo).toNat lo [] (by omega) h1 (by simp only [List.length_nil];omega) rfl rfl
    refine ⟨y,Ev.succ (hy.of_eq fun m=>?_)⟩
    rw [X218bn]
    simp only [X218bs,b218b_2,D218b_3,e1,e,cond_false,f9]
    rfl
 have s1:∀ m,(X218bn (regs O) lo hi (m+1)).x1 lo hi=(X218bn (regs O) lo hi m).x2 lo hi:=fun m=>by
  rw [X218bn]
  simp only [X218bs,b218b_1,D218b_2]
  cases e:leI lo hi with
  | false=>rfl
  | true=>
   obtain ⟨y,hy,hK⟩:=c214 hi (by unfold leI at e;rw [decide_eq_true_eq] at e;omega) h4
   rw [cond_true,hK,lookNil]
 have s0:∀ m,(X218bn (regs O) lo hi (m+1)).x0 lo=(X218bn (regs O) lo hi m).x1 lo hi:=fun m=>by
  rw [X218bn]
  simp only [X218bs,b218b_0,D218b_1]
  cases e:leI lo hi with
  | false=>rfl
  | true=>
   obtain ⟨y,hy,hK⟩:=c214 lo h1 (by unfold leI at e;rw [decide_eq_true_eq] at e;omega)
   rw [cond_true,hK,lookNil]
 have key:Ev (fun m=>(X218bn (regs O) lo hi m).x0 lo) (build y sh218):=Ev.add 2 (hy.of_eq fun m=>by
  show (X218bn (regs O) lo hi (m+2)).x0 lo=_
  rw [s0,s1])
 obtain ⟨n,h⟩:=key.get
 exact yC_any (sh:=sh218) (y0:=y) (by kernel_rfl) (W218b lo hi n _ h)
def sh187:Sh:=.tup [.agg [.bool 0,.bool 1,.bool 2,.rows 1 3,.int .i64 4,.int .i64 5],.int .i64 6]
theorem setS_i (b0 b1 b2:Bool) (r:Rw0) (lo hi:Int) (x:Int):∃ y:Y,y.i 6=x∧build y sh187=setS b0 b1 b2 r lo hi (ii x):=
 ⟨⟨fun i=>match i with | 4=>lo | 5=>hi | _=>x,fun i=>match i with | 0=>b0 | 1=>b1 | _=>b2,fun _=>⟨#[]⟩,fun _=>r,fun _=>[]⟩,rfl,rfl⟩
theorem ret187 {f:FuncId} {args:List S} {x:Int} (hs:shF O.P f=some sh187) {b0 b1 b2:Bool} {r:Rw0} {lo hi:Int} (h:Ret f args (setS b0 b1 b2 r lo hi (ii x))):∃ y:Y,y.i 6=x∧∀ (ρ:Type) (K:Y→Option ρ),yC (regs O) f args K=K y:=by
 obtain ⟨z,hz,he⟩:=setS_i b0 b1 b2 r lo hi x
 rw [← he] at h
 obtain ⟨y,h1,h2⟩:=yC_of hs h
 refine ⟨y,?_,h2⟩
 have:build y (.int .i64 6)=build z (.int .i64 6):=by
  simp only [sh187,build,buildL,S.tup.injEq,List.cons.injEq] at h1
  exact h1.2.1
 simpa [build,hz] using this
theorem rows0 (g:Fin 0→List T):S.t (T.rows 1 0 g)=S.t (T.rows 1 (⟨0,fun i=>i.elim0⟩:Rw0).n (⟨0,fun i=>i.elim0⟩:Rw0).g):=by
 have:g=fun i=>i.elim0:=funext fun i=>i.elim0
 rw [this]
theorem rest0 {a:Rw ByteArray} (h:vlsV a=0):a.n≤8:=by
 unfold vlsV at h
 by_cases hn:8 < a.n
 ·have e:gtI (ofN a.n) 8=true:=by rw [show gtI (ofN a.n) 8=decide (8 < a.n) from gtI_ofN (k:=8)];simp [hn]
  rw [e] at h;cases h
 ·omega
theorem fN_range {x:D68} (h:opBad x=false) : -2147483648≤x.fN∧x.fN≤2147483648:=by
 unfold opBad at h
 simp only [Bool.or_eq_false_iff] at h
 have h1:=h.2.2.2.1
 have h2:=h.2.2.2.2
 unfold ltI at h1;unfold gtI at h2
 simp only [decide_eq_false_iff_not] at h1 h2
 omega
theorem req0 {x:D68} (h:reqV x=0):opBad x=false∧vlsV x.fVals=0:=by
 unfold reqV at h
 cases h1:nameB x.fKey with
 | false=>rw [h1] at h;cases h
 | true=>
  cases h2:opBad x with
  | true=>rw [h1,h2] at h;cases h
  | false=>rw [h1,h2] at h;exact ⟨rfl,h⟩
theorem c187 (x:D68) (hx:sm68 x):∃ y:Y,y.i 6=reqV x∧∀ (ρ:Type) (K:Y→Option ρ),yC (regs O) 187 [ag (e68 x)] K=K y:=by
 obtain ⟨y1,hy1,hK1⟩:=yC_int (by kernel_rfl) (c215 x hx)
 by_cases hz:reqV x=0
 ·obtain ⟨ho,hr⟩:=req0 hz
  have hn:=rest0 hr
  obtain ⟨h0,h1⟩:=fN_range ho
  obtain ⟨y2,hy2,hK2⟩:=yC_map (by kernel_rfl) (c217 x.fVals (by omega))
  have hl:=(grp_len x.fVals x.fVals.n).1
  obtain ⟨y3,hK3⟩:=c216 (grp x.fVals x.fVals.n) (grp_noTwice _ _) (grp_all _ _ fun i hi=>by
   have:=hx.2.2 i hi
   unfold keyFit;rw [Nat.ble_eq];unfold sm at this;have e:(x.fVals.at i).size=sizeN (x.fVals.at i):=rfl;omega) (by omega)
  obtain ⟨y4,hy4,hK4⟩:=yC_map (by kernel_rfl) c217b
  have f996:∀ K:Option S,flatW 996 [] K=K:=fun K=>flatD (l:=[]) (by decide)
  have a1:addI .i64 x.fN 1=x.fN+1:=i64 (n:=x.fN+1) (by omega) (by omega)
  have a2:subI .i64 x.fN 1=x.fN - 1:=i64 (n:=x.fN - 1) (by omega) (by omega)
  obtain ⟨y5,hK5⟩:=c218 (x.fN+1) 2147483648 (by omega) (by omega) (by decide) (by decide)
  obtain ⟨y6,hK6⟩:=c218 (-2147483648) (x.fN - 1) (by decide) (by decide) (by omega) (by omega)
  have hK6':∀ (ρ:Type) (K:Y→Option ρ),yC (regs O) 218 [ii (Int.negSucc 2147483647),ii (x.fN - 1),S.mt []] K=K y6:=hK6
  have hK5':∀ (ρ:Type) (K:Y→Option ρ),yC (regs O) 218 [ii (x.fN+1),ii 2147483648,S.mt []] K=K y5:=hK5
  have e0:eqI (0:Int) 0=true:=rfl
  have hW:∀ v,e187_in (regs O) x=some v→Ret 187 [ag (e68 x)] v:=fun v h=>W187 x 0 v h
  rw [hz]
  have main:∃ b0 b1 b2 r lo hi,e187_in (regs O) x=some (setS b0 b1 b2 r lo hi (ii 0)):=by
   simp only [e187_in,hK1,hy1,hz,e0,Bool.not_true,cond_false,hK2,hy2,matT,flatD (d:=998) (show (grp x.fVals x.fVals.n).length+11≤998 by omega),hK3,hK4,hy4,f996,a1,a2,hK5',hK6']
   cases eqI x.fOp 2 with
   | true=>exact ⟨_,_,_,_,_,_,rfl⟩
   | false=>
    cases eqI x.fOp 3 with
    | true=>exact ⟨_,_,_,_,_,_,rfl⟩
    | false=>
     cases eqI x.fOp 4 with
     | true=>exact ⟨_,_,_,_,_,_,rfl⟩
     | false=>
      cases eqI x.fOp 5 with
      | true=>exact ⟨_,_,_,_,_,_,rfl⟩
      | false=>
       cases eqI x.fOp 6 with
       | true=>exact ⟨_,_,_,_,_,_,rfl⟩
       | false=>exact ⟨_,_,_,_,_,_,rfl⟩
  obtain ⟨b0,b1,b2,r,lo,hi,h⟩:=main
  exact ret187 (by kernel_rfl) (hW _ h)
 ·have e:eqI (reqV x) 0=false:=by unfold eqI;simpa using hz
  have hr:Ret 187 [ag (e68 x)] (setS false false false ⟨0,fun i=>i.elim0⟩ 0 0 (ii (reqV x))):=by
   refine W187 x 0 _ ?_
   simp only [e187_in,hK1,hy1,e,Bool.not_false,cond_true]
   rw [rows0];rfl
  exact ret187 (by kernel_rfl) hr
instance:Inhabited Y:=⟨⟨fun _=>0,fun _=>false,fun _=>⟨#[]⟩,fun _=>⟨0,fun i=>i.elim0⟩,fun _=>[]⟩⟩
def chY (a:Rw D68) (j:Nat):Y:=open Classical in if h:sm68 (a.at j) then (c187 (a.at j) h).choose else default
theorem chY_ok {a:Rw D68} {j:Nat} (h:sm68 (a.at j)):(chY a j).i 6=reqV (a.at j)∧∀ (ρ:Type) (K:Y→Option ρ),yC (regs O) 187 [ag (e68 (a.at j))] K=K (chY a j):=by
 unfold chY
 rw [dif_pos h]
 exact (c187 (a.at j) h).choose_spec
def setT6 (y:Y):List T:=[T.v (Go.Value.bool (y.b 0)),T.v (Go.Value.bool (y.b 1)),T.v (Go.Value.bool (y.b 2)),T.rows 1 (y.r 3).n (y.r 3).g,T.v (Go.Value.int Go.IntKind.i64 (y.i 4)),T.v (Go.Value.int Go.IntKind.i64 (y.i 5))]
def outs (a:Rw D68):Nat→Rw0
 | 0=>⟨0,fun i=>i.elim0⟩
 | 1=>⟨1,fun i=>List.take 6 (List.drop (i.1*6) (setT6 (chY a 0)))⟩
 | j+2=>⟨addN (outs a (j+1)).n 1,appGet (outs a (j+1)).g fun i:Fin 1=>List.take 6 (List.drop (i.1*6) (setT6 (chY a (j+1))))⟩
theorem outs_n (a:Rw D68):∀ j,(outs a j).n=j
 | 0=>rfl
 | 1=>rfl
 | j+2=>by
  show (outs a (j+1)).n+1=_
  rw [outs_n a (j+1)]
def res153 (r:Rw0) (e:Int):S:=.tup [.t (.rows 6 r.n r.g),ii e]
def x153 (a:Rw D68) (m:Nat):Nat→Option S
 | 0=>(X153n (regs O) a 8 m).x0
 | j+1=>(X153n (regs O) a 8 m).x1 (outs a (j+1)) ((j+1:Nat):Int)
theorem rows06 (g:Fin 0→List T):S.t (T.rows 6 0 g)=S.t (T.rows 6 (⟨0,fun i=>i.elim0⟩:Rw0).n (⟨0,fun i=>i.elim0⟩:Rw0).g):=by
 have:g=fun i=>i.elim0:=funext fun i=>i.elim0
 rw [this]
theorem fits8 {n:Nat} (h:n≤8):fitsR (addN n 1) 48=true:=by
 unfold fitsR addN roomMax
 rw [Bool.and_eq_true,Nat.ble_eq,Nat.ble_eq];omega
theorem c153 (a:Rw D68) (ha:smR sm68 a):∃ y:Y,y.i 1=reqsV a∧∀ (ρ:Type) (K:Y→Option ρ),yC (regs O) 153 [S.t (T.rows 4 a.n fun i=>e68 (a.get i)),ii 8] K=K y:=by
 have fin:∀ (r:Rw0) (e:Int),Ret 153 [S.t (T.rows 4 a.n fun i=>e68 (a.get i)),ii 8] (res153 r e)→∃ y:Y,y.i 1=e∧∀ (ρ:Type) (K:Y→Option ρ),yC (regs O) 153 [S.t (T.rows 4 a.n fun i=>e68 (a.get i)),ii 8] K=K y:=fun r e h=>by
  obtain ⟨y,h1,h2⟩:=yC_of (sh:=.tup [.rows 6 0,.int .i64 1]) (y0:=⟨fun _=>e,fun _=>false,fun _=>⟨#[]⟩,fun _=>r,fun _=>[]⟩) (by kernel_rfl) h
  refine ⟨y,?_,h2⟩
  have:build y (.int .i64 1)=ii e:=by
   simp only [build,buildL,S.tup.injEq,List.cons.injEq] at h1
   exact h1.2.1
  simpa [build] using this
 by_cases hn:8 < a.n
 ·have e:gtI (ofN a.n) 8=true:=by rw [show gtI (ofN a.n) 8=decide (8 < a.n) from gtI_ofN (k:=8)];simp [hn]
  have:reqsV a=3:=by unfold reqsV;rw [e];rfl
  rw [this]
  refine fin ⟨0,fun i=>i.elim0⟩ 3 (W153 a 8 0 _ ?_)
  simp only [e153_in,e,cond_true]
  rw [rows06];rfl
 ·have e:gtI (ofN a.n) 8=false:=by rw [show gtI (ofN a.n) 8=decide (8 < a.n) from gtI_ofN (k:=8)];simp [hn]
  let g:Nat→Option S:=fun j=>bif !(eqI (reqV (a.at j)) 0) then some (res153 ⟨0,fun i=>i.elim0⟩ (reqV (a.at j))) else none
  have step:∀ m j,j < a.n→x153 a (m+1) j=(match g j with | some e=>some e | none=>x153 a m (j+1)):=fun m j hj=>by
   obtain ⟨h1,h2⟩:=chY_ok (a:=a) (j:=j) (ha.2 j hj)
   cases j with
   | zero=>
    show (X153n (regs O) a 8 (m+1)).x0=_
    rw [X153n]
    have hl:ltI 0 (ofN a.n)=true:=by
     show ltI ((0:Nat):Int) (ofN a.n)=true
     rw [ltI_nat];simpa using hj
    have he:∀ (K:(0:Int).toNat < a.n→Option S),elemO (0:Int) a.n K=K (by simpa using hj):=fun K=>elemO_nat (j:=0) hj
    have hg:a.get (Fin.mk (Int.ofNat 0).toNat (by simpa using hj))=a.at 0:=get_nat (j:=0)
    simp only [X153s,b153_0,D153_1,hl,cond_true,he,hg,h2,h1,g]
    rw [rows06]
    cases eqI (reqV (a.at 0)) 0<;>rfl
   | succ i=>
    show (X153n (regs O) a 8 (m+1)).x1 (outs a (i+1)) ((i+1:Nat):Int)=_
    rw [X153n]
    have hf:fitsR (addN (outs a (i+1)).n 1) 48=true:=fits8 (by rw [outs_n];omega)
    simp only [X153s,b153_1,D153_1,ltI_nat,hj,decide_true,cond_true,elemO_nat hj,get_nat,h2,h1,g,hf,addI_nat1 (show i+1 < 2 ^ 62 by omega)]
    rw [rows06]
    cases eqI (reqV (a.at (i+1))) 0<;>rfl
  have stop:∀ m,x153 a (m+1) a.n=some (res153 (outs a a.n) 0):=fun m=>by
   have key:∀ k,k=a.n→x153 a (m+1) k=some (res153 (outs a k) 0):=fun k hk=>by
    cases k with
    | zero=>
     show (X153n (regs O) a 8 (m+1)).x0=_
     rw [X153n]
     have hl:ltI 0 (ofN a.n)=false:=by
      show ltI ((0:Nat):Int) (ofN a.n)=false
      rw [ltI_nat,← hk];rfl
     simp only [X153s,b153_0,hl,cond_false]
     rw [rows06];rfl
    | succ i=>
     show (X153n (regs O) a 8 (m+1)).x1 (outs a (i+1)) ((i+1:Nat):Int)=_
     rw [X153n]
     simp only [X153s,b153_1,ltI_nat,← hk,Nat.lt_irrefl,decide_false,cond_false]
     rfl
   exact key a.n rfl
  have main:Ev (fun m=>x153 a m 0) (((List.range a.n).findSome? g).getD (res153 (outs a a.n) 0)):=
   Ev.loopN a.n g _ (fun j hj=>⟨fun e he=>Ev.succ ⟨0,fun m _=>by show x153 a (m+1) j=_;rw [step m j hj,he]⟩,fun hn v hv=>Ev.succ (hv.of_eq fun m=>by rw [step m j hj,hn])⟩) (Ev.succ ⟨0,fun m _=>stop m⟩)
  have fe:∃ r,((List.range a.n).findSome? g).getD (res153 (outs a a.n) 0)=res153 r (reqsV a):=by
   have:reqsV a=firstE a.n fun j=>reqV (a.at j):=by unfold reqsV;rw [e];rfl
   rw [this]
   unfold firstE
   generalize List.range a.n=l
   induction l with
   | nil=>exact ⟨_,rfl⟩
   | cons j l ih=>
    simp only [List.findSome?_cons,g]
    cases eqI (reqV (a.at j)) 0 with
    | true=>exact ih
    | false=>exact ⟨_,rfl⟩
  obtain ⟨r,hr⟩:=fe
  rw [hr] at main
  obtain ⟨n,h⟩:=main.get
  refine fin r _ (W153 a 8 n _ ?_)
  show e153_in (regs O) a 8 (D153_0 (X153n (regs O) a 8 n))=_
  unfold e153_in
  rw [e]
  exact h
theorem c110 (a:Rw D68) (ha:smR sm68 a):Ret 110 [S.t (T.rows 4 a.n fun i=>e68 (a.get i))] (ii (reqsV a)):=by
 obtain ⟨y,hy,hK⟩:=c153 a ha
 have hK':∀ (ρ:Type) (K:Y→Option ρ),yC (regs O) 153 [S.t (T.rows 4 a.n fun i=>e68 (a.get i)),ii 8] K=K y:=hK
 exact W110 a 0 _ (by simp only [e110_in,hK',hy])
def isTx {n:Nat} (g:Fin n→List T):Prop:=∀ i,∃ s,g i=[ts s]
theorem isTx_app {n m:Nat} {g:Fin n→List T} {g':Fin m→List T} (h:isTx g) (h':isTx g'):isTx (appGet g g'):=fun i=>by
 unfold appGet
 split
 ·exact h _
 ·exact h' _
theorem isTx_rw {n:Nat} {g:Fin n→List T} (h:isTx g):∃ r:Rw ByteArray,r.n=n∧T.rows 1 n g=T.rows 1 r.n fun i=>[ts (r.get i)]:=by
 refine ⟨⟨n,fun i=>(h i).choose⟩,rfl,?_⟩
 have:g=fun i=>[ts (h i).choose]:=funext fun i=>(h i).choose_spec
 exact congrArg (T.rows 1 n) this
theorem isTx_one (b:ByteArray):isTx (fun i:Fin 1=>List.take 1 (List.drop (i.1*1) [T.v (Go.Value.string b)])):=fun i=>by
 refine ⟨b,?_⟩
 have e:i.1=0:=by have:=i.2;omega
 show List.take 1 (List.drop (i.1*1) _)=_
 rw [e];rfl
abbrev txS (r:Rw ByteArray):S:=S.t (T.rows 1 r.n fun i=>[ts (r.get i)])
theorem c219 (a:Rw ByteArray) (b:ByteArray) (ha:a.n < 2 ^ 62):Ret 219 [txS a,ss b] (bb ((List.range a.n).any fun i=>strEq (a.at i) b)):=by
 have L:=Ev.anyC (X:=fun m j=>(X219n (regs O) a b m).x0 ((j:Nat):Int)) 1 a.n (fun i=>strEq (a.at i) b) (bb true) (fun m j hj=>by
  show (X219n (regs O) a b (m+1)).x0 (j:Int)=_
  rw [X219n]
  simp only [X219s,b219_0,D219_0,ltI_nat,hj,decide_true,cond_true,elemO_nat hj,get_nat,addI_nat1 (show j < 2 ^ 62 by omega)])
 have key:Ev (fun m=>(X219n (regs O) a b m).x0 ((0:Nat):Int)) (bb ((List.range a.n).any fun i=>strEq (a.at i) b)):=by
  cases h:(List.range a.n).any fun i=>strEq (a.at i) b with
  | true=>exact L.1 h
  | false=>
   refine L.2 h _ (Ev.one 1 fun m=>?_)
   show (X219n (regs O) a b (m+1)).x0 ((a.n:Nat):Int)=_
   rw [X219n]
   simp only [X219s,b219_0,ltI_nat,Nat.lt_irrefl,decide_false,cond_false]
 obtain ⟨n,h⟩:=key.get
 exact W219 a b n _ h
theorem fits16 {n:Nat} (h:n≤1000):fitsR n 16=true:=by
 unfold fitsR roomMax
 rw [Bool.and_eq_true,Nat.ble_eq,Nat.ble_eq];omega
def insR (a:Rw ByteArray) (b:ByteArray) (j:Nat) (hj:j≤a.n):Fin (j+1+(a.n - j))→List T:=
 appGet (appGet (fun i:Fin j=>[ts (a.get ⟨0+i.1,by have:=i.2;omega⟩)]) (fun i:Fin 1=>List.take 1 (List.drop (i.1*1) [T.v (Go.Value.string b)]))) (fun i:Fin (a.n - j)=>[ts (a.get ⟨j+i.1,by have:=i.2;omega⟩)])
theorem insR_tx (a:Rw ByteArray) (b:ByteArray) (j:Nat) (hj:j≤a.n):isTx (insR a b j hj):=isTx_app (isTx_app (fun i=>⟨_,rfl⟩) (isTx_one b)) (fun i=>⟨_,rfl⟩)
theorem c220 (a:Rw ByteArray) (b:ByteArray) (ha:a.n≤700):∃ r:Rw ByteArray,r.n≤a.n+1∧Ret 220 [txS a,ss b] (txS r):=by
 have key:∀ k j,j+k=a.n→∃ (n:Nat) (g:Fin n→List T),n≤a.n+1∧isTx g∧Ev (fun m=>(X220n (regs O) a b m).x0 ((j:Nat):Int)) (S.t (T.rows 1 n g)):=by
  intro k
  have tail:∀ j,j≤a.n→(leI 0 (j:Int) && leI (j:Int) (ofN a.n))=true∧leI (ofN a.n) (ofN a.n)=true∧fitsR (toN (j:Int)) 16=true∧fitsR (addN (toN (j:Int)) 1) 16=true∧fitsR (addN (addN (toN (j:Int)) 1) (subN a.n (toN (j:Int)))) 16=true:=fun j hj=>by
   have h1:(leI 0 (j:Int) && leI (j:Int) (ofN a.n))=true:=le_nat hj
   have h0:toN (j:Int)=j:=rfl
   refine ⟨h1,?_,fits16 (by omega),fits16 (by unfold addN;omega),fits16 (by unfold addN subN;omega)⟩
   unfold leI;simp
  induction k with
  | zero=>
   intro j hj
   obtain rfl:j=a.n:=by omega
   obtain ⟨t1,t2,t3,t4,t5⟩:=tail a.n (Nat.le_refl _)
   have h:∃ (n:Nat) (g:Fin n→List T),n≤a.n+1∧isTx g∧∀ X,b220_0 (regs O) a b X ((a.n:Nat):Int)=some (S.t (T.rows 1 n g)):=by
    refine ⟨_,insR a b a.n (Nat.le_refl _),by omega,insR_tx _ _ _ _,fun X=>?_⟩
    simp only [b220_0,ltI_nat,Nat.lt_irrefl,decide_false,cond_false,t1,t2,t3,t4,t5,Bool.and_self,cond_true]
    rw [subO_pos (show 0+toN ((a.n:Nat):Int)≤a.n by show 0+a.n≤_;omega),subO_pos (show toN ((a.n:Nat):Int)+subN a.n (toN ((a.n:Nat):Int))≤a.n by show a.n+(a.n - a.n)≤_;omega)]
    rfl
   obtain ⟨n,g,h1,h2,h3⟩:=h
   refine ⟨n,g,h1,h2,Ev.one 1 fun m=>?_⟩
   show (X220n (regs O) a b (m+1)).x0 _=_
   rw [X220n]
   exact h3 _
  | succ k ih=>
   intro j hj
   have hj1:j < a.n:=by omega
   obtain ⟨t1,t2,t3,t4,t5⟩:=tail j (by omega)
   cases hlt:strLt (a.at j) b with
   | true=>
    obtain ⟨n,g,h1,h2,h3⟩:=ih (j+1) (by omega)
    refine ⟨n,g,h1,h2,Ev.succ (h3.of_eq fun m=>?_)⟩
    show (X220n (regs O) a b (m+1)).x0 _=_
    rw [X220n]
    simp only [X220s,b220_0,D220_0,ltI_nat,hj1,decide_true,cond_true,elemO_nat hj1,get_nat,hlt,addI_nat1 (show j < 2 ^ 62 by omega)]
   | false=>
    cases heq:strEq (a.at j) b with
    | true=>
     refine ⟨a.n,fun i=>[ts (a.get i)],by omega,fun i=>⟨_,rfl⟩,Ev.one 1 fun m=>?_⟩
     show (X220n (regs O) a b (m+1)).x0 _=_
     rw [X220n]
     simp only [X220s,b220_0,ltI_nat,hj1,decide_true,cond_true,elemO_nat hj1,get_nat,hlt,heq,cond_false]
    | false=>
     have h:∃ (n:Nat) (g:Fin n→List T),n≤a.n+1∧isTx g∧∀ X,b220_0 (regs O) a b X (j:Int)=some (S.t (T.rows 1 n g)):=by
      refine ⟨_,insR a b j (by omega),by omega,insR_tx _ _ _ _,fun X=>?_⟩
      simp only [b220_0,ltI_nat,hj1,decide_true,cond_true,elemO_nat hj1,get_nat,hlt,heq,cond_false,t1,t2,t3,t4,t5,Bool.and_self]
      rw [subO_pos (show 0+toN (j:Int)≤a.n by show 0+j≤_;omega),subO_pos (show toN (j:Int)+subN a.n (toN (j:Int))≤a.n by show j+(a.n - j)≤_;omega)]
      rfl
     obtain ⟨n,g,h1,h2,h3⟩:=h
     refine ⟨n,g,h1,h2,Ev.one 1 fun m=>?_⟩
     show (X220n (regs O) a b (m+1)).x0 _=_
     rw [X220n]
     exact h3 _
 obtain ⟨n,g,h1,h2,h3⟩:=key a.n 0 (by omega)
 obtain ⟨r,hr,he⟩:=isTx_rw h2
 refine ⟨r,by omega,?_⟩
 obtain ⟨m,h⟩:=h3.get
 rw [he] at h
 exact W220 a b m _ h
theorem c220n (b:ByteArray):∃ r:Rw ByteArray,r.n≤1∧Ret 220 [S.t (T.v (.slice none 0 0)),ss b] (txS r):=by
 have h:∃ (n:Nat) (g:Fin n→List T),n≤1∧isTx g∧b220b_0 (regs O) b=some (S.t (T.rows 1 n g)):=by
  exact ⟨1,appGet (appGet (fun i:Fin 0=>i.elim0) (fun i:Fin 1=>List.take 1 (List.drop (i.1*1) [T.v (Go.Value.string b)]))) (fun i:Fin 0=>i.elim0),by decide,isTx_app (isTx_app (fun i=>i.elim0) (isTx_one b)) (fun i=>i.elim0),rfl⟩
 obtain ⟨n,g,h1,h2,h3⟩:=h
 obtain ⟨r,hr,he⟩:=isTx_rw h2
 refine ⟨r,by omega,W220b b 1 _ ?_⟩
 show e220b_in (regs O) b (D220b_0 (X220bn (regs O) b 1))=some (S.t (T.rows 1 r.n fun i=>[ts (r.get i)]))
 rw [← he]
 exact h3
theorem yC_row {f:FuncId} {args:List S} {r:Rw ByteArray} (hs:shF O.P f=some (.rows 1 0)) (h:Ret f args (txS r)):∃ y:Y,S.t (T.rows 1 (y.r 0).n (y.r 0).g)=txS r∧∀ (ρ:Type) (K:Y→Option ρ),yC (regs O) f args K=K y:=by
 obtain ⟨y,h1,h2⟩:=yC_of (y0:=⟨fun _=>0,fun _=>false,fun _=>⟨#[]⟩,fun _=>⟨r.n,fun i=>[ts (r.get i)]⟩,fun _=>[]⟩) hs h
 exact ⟨y,h1,h2⟩
def rwT (r:Rw ByteArray):Rw0:=⟨r.n,fun i=>[ts (r.get i)]⟩
theorem eta_rw {y:Rw0} {r:Rw ByteArray} (h:S.t (T.rows 1 y.n y.g)=txS r):y=rwT r:=by
 obtain ⟨n,g⟩:=y
 simp only [S.t.injEq,T.rows.injEq,true_and] at h
 obtain ⟨rfl,h⟩:=h
 have:=eq_of_heq h
 subst this
 rfl
theorem c191 (a:Rw ByteArray) (ha:a.n≤600):∃ y:Y,∀ (ρ:Type) (K:Y→Option ρ),yC (regs O) 191 [txS a] K=K y:=by
 have key:∀ k j (r:Rw ByteArray),j+k=a.n→r.n≤j→∃ r':Rw ByteArray,Ev (fun m=>(X191n (regs O) a m).x1 (rwT r) ((j:Nat):Int)) (txS r'):=by
  intro k
  induction k with
  | zero=>
   intro j r hj hr
   obtain rfl:j=a.n:=by omega
   refine ⟨r,Ev.one 1 fun m=>?_⟩
   show (X191n (regs O) a (m+1)).x1 _ _=_
   rw [X191n]
   simp only [X191s,b191_1,ltI_nat,Nat.lt_irrefl,decide_false,cond_false]
   rfl
  | succ k ih=>
   intro j r hj hr
   have hj1:j < a.n:=by omega
   obtain ⟨r2,h1,h2⟩:=c220 r (a.at j) (by omega)
   obtain ⟨y,hy,hK⟩:=yC_row (by kernel_rfl) h2
   obtain ⟨r3,h3⟩:=ih (j+1) r2 (by omega) (by omega)
   refine ⟨r3,Ev.succ (h3.of_eq fun m=>?_)⟩
   show (X191n (regs O) a (m+1)).x1 _ _=_
   rw [X191n]
   have hK':∀ (ρ:Type) (K:Y→Option ρ),yC (regs O) 220 [S.t (T.rows 1 (rwT r).n (rwT r).g),S.t (T.v (Go.Value.string (a.at j)))] K=K y:=hK
   simp only [X191s,b191_1,D191_1,ltI_nat,hj1,decide_true,cond_true,elemO_nat hj1,get_nat,hK',eta_rw hy,addI_nat1 (show j < 2 ^ 62 by omega)]
 have top:∃ r':Rw ByteArray,Ev (fun m=>(X191n (regs O) a m).x0) (txS r'):=by
  by_cases h0:0 < a.n
  ·obtain ⟨r2,h1,h2⟩:=c220n (a.at 0)
   obtain ⟨y,hy,hK⟩:=yC_row (by kernel_rfl) h2
   obtain ⟨r3,h3⟩:=key (a.n - 1) 1 r2 (by omega) h1
   refine ⟨r3,Ev.succ (h3.of_eq fun m=>?_)⟩
   show (X191n (regs O) a (m+1)).x0=_
   rw [X191n]
   have hl:ltI 0 (ofN a.n)=true:=by
    show ltI ((0:Nat):Int) (ofN a.n)=true
    rw [ltI_nat];simpa using h0
   have he:∀ (K:(0:Int).toNat < a.n→Option S),elemO (0:Int) a.n K=K (by simpa using h0):=fun K=>elemO_nat (j:=0) h0
   have hg:a.get (Fin.mk (Int.ofNat 0).toNat (by simpa using h0))=a.at 0:=get_nat (j:=0)
   simp only [X191s,b191_0,D191_1,hl,cond_true,he,hg,hK,eta_rw hy]
   rfl
  ·refine ⟨⟨0,fun i=>i.elim0⟩,Ev.one 1 fun m=>?_⟩
   show (X191n (regs O) a (m+1)).x0=_
   rw [X191n]
   have hl:ltI 0 (ofN a.n)=false:=by
    show ltI ((0:Nat):Int) (ofN a.n)=false
    rw [ltI_nat];simpa using h0
   simp only [X191s,b191_0,hl,cond_false]
   have:∀ g g':Fin 0→List T,S.t (T.rows 1 0 g)=S.t (T.rows 1 0 g'):=fun g g'=>by rw [show g=g' from funext fun i=>i.elim0]
   exact congrArg some (this _ _)
 obtain ⟨r,h⟩:=top
 obtain ⟨n,h⟩:=h.get
 obtain ⟨y,_,hK⟩:=yC_row (by kernel_rfl) (W191 a n _ h)
 exact ⟨y,hK⟩
theorem c219n (b:ByteArray):Ret 219 [S.t (T.v (.slice none 0 0)),ss b] (bb false):=W219b b 1 _ rfl
theorem c192 (lo hi:Int) (h1 : -2147483648≤lo) (h2:lo≤2147483649) (h3 : -2147483649≤hi) (h4:hi≤2147483648):∃ y:Y,∀ (ρ:Type) (K:Y→Option ρ),yC (regs O) 192 [ii lo,ii hi,S.t (T.v (.slice none 0 0))] K=K y:=by
 have dec:∀ n:Int,-2147483648≤n→n≤2147483648→∃ y:Y,∀ (ρ:Type) (K:Y→Option ρ),yC (regs O) 193 [ii n] K=K y:=fun n a b=>by
  obtain ⟨y,_,hK⟩:=yC_str (by kernel_rfl) (c193 n (by omega))
  exact ⟨y,hK⟩
 have non:∀ b:ByteArray,∃ y:Y,y.b 0=false∧∀ (ρ:Type) (K:Y→Option ρ),yC (regs O) 219 [S.t (T.v (.slice none 0 0)),ss b] K=K y:=fun b=>yC_bool (by kernel_rfl) (c219n b)
 have any:∀ (r:Rw ByteArray) (b:ByteArray),r.n < 2 ^ 62→∃ y:Y,∀ (ρ:Type) (K:Y→Option ρ),yC (regs O) 219 [S.t (T.rows 1 (rwT r).n (rwT r).g),ss b] K=K y:=fun r b h=>by
  obtain ⟨y,_,hK⟩:=yC_bool (by kernel_rfl) (c219 r b h)
  exact ⟨y,hK⟩
 have wr:∀ (k:Nat) (n:Int) (r:Rw ByteArray),n+k=hi+1 → -2147483648≤n→r.n+k≤600→∃ y:Y,Ev (fun m=>(X192bn (regs O) lo hi m).x4 (rwT r) hi n) (build y sh218):=by
  intro k
  induction k with
  | zero=>
   intro n r hn h0 hr
   obtain ⟨z,hz⟩:=setS_b false false false (rwT r) 0 0 true
   refine ⟨z,Ev.succ ⟨0,fun m _=>?_⟩⟩
   show (X192bn (regs O) lo hi (m+1)).x4 (rwT r) hi n=_
   rw [X192bn]
   have e:leI n hi=false:=by unfold leI;rw [decide_eq_false_iff_not];omega
   simp only [X192bs,b192b_4,e,cond_false]
   rw [hz];rfl
  | succ k ih=>
   intro n r hn h0 hr
   obtain ⟨y,hK⟩:=dec n h0 (by omega)
   obtain ⟨y2,hy2,hK2⟩:=non (y.s 0)
   obtain ⟨r2,q1,q2⟩:=c220 r (y.s 0) (by omega)
   obtain ⟨y3,hy3,hK3⟩:=yC_row (by kernel_rfl) q2
   obtain ⟨z,hz⟩:=ih (n+1) r2 (by omega) (by omega) (by omega)
   refine ⟨z,Ev.succ (hz.of_eq fun m=>?_)⟩
   rw [X192bn]
   have e:leI n hi=true:=by unfold leI;rw [decide_eq_true_eq];omega
   have e2:addI .i64 n 1=n+1:=i64 (n:=n+1) (by omega) (by omega)
   have hK3':∀ (ρ:Type) (K:Y→Option ρ),yC (regs O) 220 [S.t (T.rows 1 (rwT r).n (rwT r).g),S.t (T.v (Go.Value.string (y.s 0)))] K=K y3:=hK3
   simp only [X192bs,b192b_4,D192b_4,e,cond_true,hK,hK2,hy2,Bool.not_false,hK3',eta_rw hy3,e2]
 obtain ⟨y,hy⟩:∃ y:Y,Ev (fun m=>(X192bn (regs O) lo hi m).x2 lo hi) (build y sh218):=by
  have e1:subI .i64 (addI .i64 (subI .i64 hi lo) 1) (ofN 0)=hi - lo+1:=by
   unfold subI addI
   rw [i64 (n:=hi - lo) (by omega) (by omega)]
   show IntKind.i64.wrap (IntKind.i64.wrap (hi - lo+1) - 0)=_
   rw [i64 (n:=hi - lo+1) (by omega) (by omega),i64 (by omega) (by omega)];omega
  by_cases hm:hi - lo+1 > 64
  ·obtain ⟨z,hz⟩:=setS_b false true true ⟨0,fun i=>i.elim0⟩ lo hi true
   refine ⟨z,Ev.succ ⟨0,fun m _=>?_⟩⟩
   show (X192bn (regs O) lo hi (m+1)).x2 lo hi=_
   rw [X192bn]
   have e:leI (hi - lo+1) 64=false:=by
    unfold leI;rw [decide_eq_false_iff_not]
    show ¬ (hi - lo+1≤64)
    omega
   simp only [X192bs,b192b_2,e1,e,cond_false]
   rw [rows0,hz];rfl
  ·have e:leI (hi - lo+1) 64=true:=by
    unfold leI;rw [decide_eq_true_eq]
    show hi - lo+1≤64
    omega
   suffices h:∃ y:Y,Ev (fun m=>(X192bn (regs O) lo hi m).x3 hi lo) (build y sh218) by
    obtain ⟨y,hy⟩:=h
    refine ⟨y,Ev.succ (hy.of_eq fun m=>?_)⟩
    rw [X192bn]
    simp only [X192bs,b192b_2,D192b_3,e1,e,cond_true]
   by_cases hl:hi < lo
   ·obtain ⟨z,hz⟩:=setS_b false false false ⟨0,fun i=>i.elim0⟩ 0 0 true
    refine ⟨z,Ev.succ ⟨0,fun m _=>?_⟩⟩
    show (X192bn (regs O) lo hi (m+1)).x3 hi lo=_
    rw [X192bn]
    have e:leI lo hi=false:=by unfold leI;rw [decide_eq_false_iff_not];omega
    simp only [X192bs,b192b_3,e,cond_false]
    rw [rows0,hz];rfl
   ·obtain ⟨y,hK⟩:=dec lo h1 (by omega)
    obtain ⟨y2,hy2,hK2⟩:=non (y.s 0)
    obtain ⟨r2,q1,q2⟩:=c220n (y.s 0)
    obtain ⟨y3,hy3,hK3⟩:=yC_row (by kernel_rfl) q2
    obtain ⟨z,hz⟩:=wr (hi - lo).toNat (lo+1) r2 (by omega) (by omega) (by omega)
    refine ⟨z,Ev.succ (hz.of_eq fun m=>?_)⟩
    rw [X192bn]
    have e:leI lo hi=true:=by unfold leI;rw [decide_eq_true_eq];omega
    have e2:addI .i64 lo 1=lo+1:=i64 (n:=lo+1) (by omega) (by omega)
    simp only [X192bs,b192b_3,D192b_4,e,cond_true,hK,hK2,hy2,Bool.not_false,hK3,eta_rw hy3,e2]
 have s1:∀ m,(X192bn (regs O) lo hi (m+1)).x1 lo hi=(X192bn (regs O) lo hi m).x2 lo hi:=fun m=>by
  rw [X192bn]
  simp only [X192bs,b192b_1,D192b_2]
  cases e:leI lo hi with
  | false=>rfl
  | true=>
   obtain ⟨y,hK⟩:=dec hi (by unfold leI at e;rw [decide_eq_true_eq] at e;omega) h4
   obtain ⟨y2,hy2,hK2⟩:=non (y.s 0)
   rw [cond_true,hK,hK2,hy2];rfl
 have s0:∀ m,(X192bn (regs O) lo hi (m+1)).x0 lo=(X192bn (regs O) lo hi m).x1 lo hi:=fun m=>by
  rw [X192bn]
  simp only [X192bs,b192b_0,D192b_1]
  cases e:leI lo hi with
  | false=>rfl
  | true=>
   obtain ⟨y,hK⟩:=dec lo h1 (by unfold leI at e;rw [decide_eq_true_eq] at e;omega)
   obtain ⟨y2,hy2,hK2⟩:=non (y.s 0)
   rw [cond_true,hK,hK2,hy2];rfl
 have key:Ev (fun m=>(X192bn (regs O) lo hi m).x0 lo) (build y sh218):=Ev.add 2 (hy.of_eq fun m=>by
  show (X192bn (regs O) lo hi (m+2)).x0 lo=_
  rw [s0,s1])
 obtain ⟨n,h⟩:=key.get
 exact yC_any (sh:=sh218) (y0:=y) (by kernel_rfl) (W192b lo hi n _ h)
theorem Ev.bif {α:Type} {g g1 g2:Nat→Option α} {v1 v2:α} (c:Bool) (h:∀ m,g m=bif c then g1 m else g2 m) (h1:c=true→Ev g1 v1) (h2:c=false→Ev g2 v2):Ev g (bif c then v1 else v2):=by
 cases c with
 | true=>exact (h1 rfl).of_eq h
 | false=>exact (h2 rfl).of_eq h
theorem c190 (x:D68) (hx:sm68 x):Ret 190 [ag (e68 x)] (ii (reqV x)):=by
 have hn:=sm_lt hx.2.1
 obtain ⟨y1,hy1,hK1⟩:=yC_bool (by kernel_rfl) (c71 x.fKey hx.1)
 have L7:Ev (fun m=>(X190n (regs O) x m).x7 ((0:Nat):Int)) (ii (bif dupB x.fVals then 6 else 0)):=by
  have L:=Ev.anyC (X:=fun m j=>(X190n (regs O) x m).x7 ((j:Nat):Int)) 1 x.fVals.n (fun j=>(List.range j).any fun i=>strEq (x.fVals.at i) (x.fVals.at j)) (ii 6) (fun m j hj=>by
   show (X190n (regs O) x (m+1)).x7 (j:Int)=_
   rw [X190n]
   let s:Rw ByteArray:=⟨j,fun i=>x.fVals.get ⟨0+i.1,by have:=i.2;omega⟩⟩
   have hs:(List.range s.n).any (fun i=>strEq (s.at i) (x.fVals.at j))=(List.range j).any fun i=>strEq (x.fVals.at i) (x.fVals.at j):=by
    have e:∀ i,i < j→s.at i=x.fVals.at i:=fun i hi=>by
     unfold Rw.at
     rw [dif_pos (show i < s.n from hi),dif_pos (by omega)]
     show x.fVals.get ⟨0+i,_⟩=_
     congr 1
     exact Fin.ext (Nat.zero_add i)
    show (List.range j).any _=_
    rw [Bool.eq_iff_iff,List.any_eq_true,List.any_eq_true]
    exact ⟨fun ⟨i,hi,h⟩=>⟨i,hi,by rw [← e i (List.mem_range.1 hi)];exact h⟩,fun ⟨i,hi,h⟩=>⟨i,hi,by rw [e i (List.mem_range.1 hi)];exact h⟩⟩
   obtain ⟨y,hy,hK⟩:=yC_bool (by kernel_rfl) (c219 s (x.fVals.at j) (by show j < _;omega))
   have hK':∀ (K:Y→Option S),yC (regs O) 219 [S.t (T.rows 1 (toN (j:Int)) fun i=>[T.v (Go.Value.string (x.fVals.get (Fin.mk (0+i.1) (by have:=i.2;have:toN (j:Int)=j:=rfl;omega))))]),S.t (T.v (Go.Value.string (x.fVals.at j)))] K=K y:=fun K=>hK S K
   have e0:(leI 0 (j:Int) && leI (j:Int) (ofN x.fVals.n))=true:=le_nat (Nat.le_of_lt hj)
   simp only [X190s,b190_7,D190_7,ltI_nat,hj,decide_true,cond_true,e0,elemO_nat hj,get_nat,addI_nat1 (show j < 2 ^ 62 by omega)]
   rw [subO_pos (show 0+toN (j:Int)≤x.fVals.n by show 0+j≤_;omega),hK',hy,hs])
  unfold dupB
  cases h:(List.range x.fVals.n).any (fun j=>(List.range j).any fun i=>strEq (x.fVals.at i) (x.fVals.at j)) with
  | true=>exact L.1 h
  | false=>
   refine L.2 h _ (Ev.one 1 fun m=>?_)
   show (X190n (regs O) x (m+1)).x7 _=_
   rw [X190n]
   simp only [X190s,b190_7,ltI_nat,Nat.lt_irrefl,decide_false,cond_false]
 have L6:Ev (fun m=>(X190n (regs O) x m).x6 ((0:Nat):Int)) (ii (bif (List.range x.fVals.n).any (fun j=>!valB (x.fVals.at j)) then 20 else bif dupB x.fVals then 6 else 0)):=by
  have L:=Ev.anyC (X:=fun m j=>(X190n (regs O) x m).x6 ((j:Nat):Int)) 1 x.fVals.n (fun j=>!valB (x.fVals.at j)) (ii 20) (fun m j hj=>by
   show (X190n (regs O) x (m+1)).x6 (j:Int)=_
   rw [X190n]
   obtain ⟨y,hy,hK⟩:=yC_bool (by kernel_rfl) (c129 (x.fVals.at j) (hx.2.2 j hj))
   simp only [X190s,b190_6,D190_6,ltI_nat,hj,decide_true,cond_true,elemO_nat hj,get_nat,hK,hy,addI_nat1 (show j < 2 ^ 62 by omega)])
  cases h:(List.range x.fVals.n).any (fun j=>!valB (x.fVals.at j)) with
  | true=>exact L.1 h
  | false=>
   refine L.2 h _ (Ev.succ (L7.of_eq fun m=>?_))
   show (X190n (regs O) x (m+1)).x6 _=_
   rw [X190n]
   simp only [X190s,b190_6,D190_7,ltI_nat,Nat.lt_irrefl,decide_false,cond_false]
   rfl
 have L5:∀ b,Ev (fun m=>(X190n (regs O) x m).x5 b) (ii (bif b || gtI x.fN 2147483648 then 30 else vlsV x.fVals)):=fun b=>by
  refine Ev.succ ?_
  have e:gtI x.fN 2147483648=gtI x.fN 2147483648:=rfl
  have e8:gtI (ofN x.fVals.n) 8=gtI (ofN x.fVals.n) 8:=rfl
  cases hb:b || gtI x.fN 2147483648 with
  | true=>
   refine ⟨0,fun m _=>?_⟩
   show (X190n (regs O) x (m+1)).x5 b=_
   rw [X190n]
   simp only [X190s,b190_5,e]
   cases b with
   | true=>rfl
   | false=>rw [Bool.false_or] at hb;rw [hb];rfl
  | false=>
   rw [Bool.or_eq_false_iff] at hb
   unfold vlsV
   cases h8:gtI (ofN x.fVals.n) 8 with
   | true=>
    refine ⟨0,fun m _=>?_⟩
    show (X190n (regs O) x (m+1)).x5 b=_
    rw [X190n]
    simp only [X190s,b190_5,e,e8,hb.1,hb.2,h8,cond_false,cond_true]
   | false=>
    refine L6.of_eq fun m=>?_
    rw [X190n]
    simp only [X190s,b190_5,D190_6,e,e8,hb.1,hb.2,h8,cond_false]
    rfl
 have L4:∀ b,Ev (fun m=>(X190n (regs O) x m).x4 b) (ii (bif b || (ltI x.fN (-2147483648) || gtI x.fN 2147483648) then 30 else vlsV x.fVals)):=fun b=>by
  refine Ev.succ ?_
  cases b with
  | true=>
   refine (L5 true).of_eq fun m=>?_
   rw [X190n];rfl
  | false=>
   refine (L5 (ltI x.fN (-2147483648))).of_eq fun m=>?_
   rw [X190n];rfl
 have L3:∀ b num,Ev (fun m=>(X190n (regs O) x m).x3 b num) (ii (bif b || ((!num && !eqI x.fN 0) || (ltI x.fN (-2147483648) || gtI x.fN 2147483648)) then 30 else vlsV x.fVals)):=fun b num=>by
  refine Ev.succ ?_
  cases b with
  | true=>
   refine (L4 true).of_eq fun m=>?_
   rw [X190n];rfl
  | false=>
   cases num with
   | true=>
    refine (L4 false).of_eq fun m=>?_
    rw [X190n];rfl
   | false=>
    refine (L4 (!eqI x.fN 0)).of_eq fun m=>?_
    rw [X190n];rfl
 have L2:∀ vals num b,Ev (fun m=>(X190n (regs O) x m).x2 vals num b) (ii (bif b || (!eqB vals (gtI (ofN x.fVals.n) 0) || ((!num && !eqI x.fN 0) || (ltI x.fN (-2147483648) || gtI x.fN 2147483648))) then 30 else vlsV x.fVals)):=fun vals num b=>by
  refine Ev.succ ?_
  cases b with
  | true=>
   refine (L3 true num).of_eq fun m=>?_
   rw [X190n];rfl
  | false=>
   refine (L3 (!eqB vals (gtI (ofN x.fVals.n) 0)) num).of_eq fun m=>?_
   rw [X190n];rfl
 have L1:∀ vals num,Ev (fun m=>(X190n (regs O) x m).x1 vals num) (ii (bif (ltI x.fOp 1 || gtI x.fOp 6) || (!eqB vals (gtI (ofN x.fVals.n) 0) || ((!num && !eqI x.fN 0) || (ltI x.fN (-2147483648) || gtI x.fN 2147483648))) then 30 else vlsV x.fVals)):=fun vals num=>by
  refine Ev.succ ?_
  refine (L2 vals num (ltI x.fOp 1 || gtI x.fOp 6)).of_eq fun m=>?_
  rw [X190n]
  generalize X190n (regs O) x m=X
  simp only [X190s,b190_1,D190_2]
  have e1:ltI x.fOp 1=ltI x.fOp 1:=rfl
  have e2:gtI x.fOp 6=gtI x.fOp 6:=rfl
  rw [e1,e2]
  cases ltI x.fOp 1<;>rfl
 have L0:∀ vals,Ev (fun m=>(X190n (regs O) x m).x0 vals) (ii (bif (ltI x.fOp 1 || gtI x.fOp 6) || (!eqB vals (gtI (ofN x.fVals.n) 0) || ((!(eqI x.fOp 5 || eqI x.fOp 6) && !eqI x.fN 0) || (ltI x.fN (-2147483648) || gtI x.fN 2147483648))) then 30 else vlsV x.fVals)):=fun vals=>by
  refine Ev.succ ?_
  refine (L1 vals (eqI x.fOp 5 || eqI x.fOp 6)).of_eq fun m=>?_
  rw [X190n]
  generalize X190n (regs O) x m=X
  simp only [X190s,b190_0,D190_1]
  have e1:eqI x.fOp 5=eqI x.fOp 5:=rfl
  have e2:eqI x.fOp 6=eqI x.fOp 6:=rfl
  rw [e1,e2]
  cases eqI x.fOp 5<;>rfl
 have top:Ev (fun m=>e190_in (regs O) x (D190_0 (X190n (regs O) x m))) (ii (reqV x)):=by
  unfold reqV opBad
  cases hk:nameB x.fKey with
  | false=>
   refine ⟨0,fun m _=>?_⟩
   simp only [e190_in,hK1,hy1,hk]
   rfl
  | true=>
   refine (L0 (eqI x.fOp 1 || eqI x.fOp 2)).of_eq fun m=>?_
   simp only [e190_in,hK1,hy1,hk]
   generalize X190n (regs O) x m=X
   simp only [D190_0]
   have e1:eqI x.fOp 1=eqI x.fOp 1:=rfl
   have e2:eqI x.fOp 2=eqI x.fOp 2:=rfl
   rw [e1,e2]
   cases eqI x.fOp 1<;>rfl
 obtain ⟨n,h⟩:=top.get
 exact W190 x n _ h
theorem c162 (x:D68) (hx:sm68 x):∃ y:Y,y.i 6=reqV x∧∀ (ρ:Type) (K:Y→Option ρ),yC (regs O) 162 [ag (e68 x)] K=K y:=by
 obtain ⟨y1,hy1,hK1⟩:=yC_int (by kernel_rfl) (c190 x hx)
 by_cases hz:reqV x=0
 ·obtain ⟨ho,hr⟩:=req0 hz
  have hn:=rest0 hr
  obtain ⟨h0,h1⟩:=fN_range ho
  obtain ⟨y2,hK2⟩:=c191 x.fVals (by omega)
  have a1:addI .i64 x.fN 1=x.fN+1:=i64 (n:=x.fN+1) (by omega) (by omega)
  have a2:subI .i64 x.fN 1=x.fN - 1:=i64 (n:=x.fN - 1) (by omega) (by omega)
  obtain ⟨y5,hK5⟩:=c192 (x.fN+1) 2147483648 (by omega) (by omega) (by decide) (by decide)
  obtain ⟨y6,hK6⟩:=c192 (-2147483648) (x.fN - 1) (by decide) (by decide) (by omega) (by omega)
  have hK6':∀ (ρ:Type) (K:Y→Option ρ),yC (regs O) 192 [ii (Int.negSucc 2147483647),ii (x.fN - 1),S.t (T.v (.slice none 0 0))] K=K y6:=hK6
  have hK5':∀ (ρ:Type) (K:Y→Option ρ),yC (regs O) 192 [ii (x.fN+1),ii 2147483648,S.t (T.v (.slice none 0 0))] K=K y5:=hK5
  have e0:eqI (0:Int) 0=true:=rfl
  have hW:∀ v,e162_in (regs O) x=some v→Ret 162 [ag (e68 x)] v:=fun v h=>W162 x 0 v h
  rw [hz]
  have main:∃ b0 b1 b2 r lo hi,e162_in (regs O) x=some (setS b0 b1 b2 r lo hi (ii 0)):=by
   simp only [e162_in,hK1,hy1,hz,e0,Bool.not_true,cond_false,hK2,a1,a2,hK5',hK6']
   cases eqI x.fOp 1 with
   | true=>exact ⟨_,_,_,_,_,_,rfl⟩
   | false=>
    cases eqI x.fOp 2 with
    | true=>exact ⟨_,_,_,_,_,_,rfl⟩
    | false=>
     cases eqI x.fOp 3 with
     | true=>exact ⟨_,_,_,⟨0,_⟩,_,_,rfl⟩
     | false=>
      cases eqI x.fOp 4 with
      | true=>exact ⟨_,_,_,⟨0,_⟩,_,_,rfl⟩
      | false=>
       cases eqI x.fOp 5 with
       | true=>exact ⟨_,_,_,_,_,_,rfl⟩
       | false=>exact ⟨_,_,_,_,_,_,rfl⟩
  obtain ⟨b0,b1,b2,r,lo,hi,h⟩:=main
  exact ret187 (by kernel_rfl) (hW _ h)
 ·have e:eqI (reqV x) 0=false:=by unfold eqI;simpa using hz
  have hr:Ret 162 [ag (e68 x)] (setS false false false ⟨0,fun i=>i.elim0⟩ 0 0 (ii (reqV x))):=by
   refine W162 x 0 _ ?_
   simp only [e162_in,hK1,hy1,e,Bool.not_false,cond_true]
   rw [rows0];rfl
  exact ret187 (by kernel_rfl) hr
theorem c128 (a:Rw D68) (ha:smR sm68 a):Ret 128 [S.t (T.rows 4 a.n fun i=>e68 (a.get i))] (ii (firstE a.n fun j=>reqV (a.at j))):=by
 have hn:=sm_lt ha.1
 have key:=Ev.errsC (X:=fun m j=>(X128n (regs O) a m).x0 ((j:Nat):Int)) 1 a.n (fun j=>reqV (a.at j)) (fun m j hj=>by
  obtain ⟨y,hy,hK⟩:=c162 (a.at j) (ha.2 j hj)
  show (X128n (regs O) a (m+1)).x0 (j:Int)=_
  rw [X128n]
  simp only [X128s,b128_0,D128_0,ltI_nat,hj,decide_true,cond_true,elemO_nat hj,get_nat,hK,hy,addI_nat1 (show j < 2 ^ 62 by omega)]) (fun m=>by
  show (X128n (regs O) a (m+1)).x0 (a.n:Int)=_
  rw [X128n]
  simp only [X128s,b128_0,ltI_nat,Nat.lt_irrefl,decide_false,cond_false])
 obtain ⟨n,h⟩:=key.get
 exact W128 a n _ h
theorem c72 (a:Rw D68) (ha:smR sm68 a):Ret 72 [S.t (T.rows 4 a.n fun i=>e68 (a.get i))] (ii (reqsV a)):=by
 obtain ⟨y,hy,hK⟩:=yC_int (by kernel_rfl) (c128 a ha)
 refine W72 a 0 _ ?_
 have e8:gtI (ofN a.n) 8=gtI (ofN a.n) 8:=rfl
 unfold reqsV
 simp only [e72_in,e8,hK,hy]
 cases gtI (ofN a.n) 8<;>rfl
end
end Go.Proofs.YtonkoellfaopiaaGreatDoor.H

namespace Go.Proofs.YtonkoellfaopiaaGreatDoor.H
open Go
noncomputable section
def wantE (b:Bool) (e:Int):Int:=bif b then 0 else e
theorem retW (b:Bool) (e:Int):∃ y:Y,y.i 0=wantE b e∧∀ (ρ:Type) (K:Y→Option ρ),yC (regs O) 108 [bb b,ii e] K=K y:=yC_int (by kernel_rfl) (c108 b e)
theorem retF (l:List Int) (hl:l.length < 2 ^ 62):∃ y:Y,y.i 0=firstL l∧∀ (ρ:Type) (K:Y→Option ρ),yC (regs O) 107 [S.t (T.rows 1 l.length fun i=>List.take 1 (List.drop (i.1*1) (l.map ti)))] K=K y:=yC_int (by kernel_rfl) (c107 l hl)
theorem firstL_cons (a b:Int) (l:List Int):firstL (a::b::l)=orE a (firstL (b::l)):=rfl
structure sm77 (a:D77):Prop where
 name:sm (sizeN a.fName)
 reqs:smR sm68 a.fReqs
 taints:smR sm88 a.fTaints
def poolB (a:D77):Bool:=within a.fGen 0 1099511627776 && (within a.fExpire 0 1073741824 && (geI a.fBudget 0 && (leI a.fBudget 16 && (geI a.fMerge 0 && leI a.fMerge 2))))
def poolV (a:D77):Int:=orE (wantE (nameB a.fName) 7) (orE (wantE (within a.fWeight 0 100) 1) (orE (chk2 a.fLimit_0 a.fLimit_1) (orE (reqsV a.fReqs) (orE (taintsV a.fTaints) (wantE (poolB a) 1)))))
theorem orE_zero (a:Int):orE a 0=a:=by
 unfold orE
 cases h:eqI a 0 with
 | false=>rfl
 | true=>exact (eqI_true.1 h).symm
theorem firstL_one (a:Int):firstL [a]=a:=orE_zero a
theorem c61 (a:D77) (ha:sm77 a):Ret 61 [ag (e77 a)] (ii (poolV a)):=by
 have h5:∀ m v16 v22 v25 v19 v7 b,(X61n (regs O) a (m+1)).x5 v16 v22 v25 v19 v7 b=some (ii (firstL [v7,v16,v19,v22,v25,wantE b 1])):=fun m v16 v22 v25 v19 v7 b=>by
  obtain ⟨y,hy,hK⟩:=retW b 1
  obtain ⟨z,hz,hL⟩:=retF [v7,v16,v19,v22,v25,wantE b 1] (show (6:Nat) < 2 ^ 62 by decide)
  have hL:∀ (ρ:Type) (K:Y→Option ρ),yC (regs O) 107 [S.t (T.rows 1 6 fun i=>List.take 1 (List.drop (i.1*1) [ti v7,ti v16,ti v19,ti v22,ti v25,ti (wantE b 1)]))] K=K z:=hL
  simp only [X61n,X61s,b61_5,hK,hy,hL,hz]
 have h4:∀ m v16 v22 v25 v19 v7 b,(X61n (regs O) a (m+2)).x4 v16 v22 v25 v19 v7 b=some (ii (firstL [v7,v16,v19,v22,v25,wantE (b && leI a.fMerge 2) 1])):=fun m v16 v22 v25 v19 v7 b=>by
  have:=h5 m
  rw [X61n]
  generalize X61n (regs O) a (m+1)=X at this ⊢
  cases b<;>exact this _ _ _ _ _ _
 have h3:∀ m v16 v22 v25 v19 v7 b,(X61n (regs O) a (m+3)).x3 v16 v22 v25 v19 v7 b=some (ii (firstL [v7,v16,v19,v22,v25,wantE (b && (geI a.fMerge 0 && leI a.fMerge 2)) 1])):=fun m v16 v22 v25 v19 v7 b=>by
  have:=h4 m
  rw [X61n]
  generalize X61n (regs O) a (m+2)=X at this ⊢
  cases b<;>exact this _ _ _ _ _ _
 have h2:∀ m v16 v22 v25 v19 v7 b,(X61n (regs O) a (m+4)).x2 v16 v22 v25 v19 v7 b=some (ii (firstL [v7,v16,v19,v22,v25,wantE (b && (leI a.fBudget 16 && (geI a.fMerge 0 && leI a.fMerge 2))) 1])):=fun m v16 v22 v25 v19 v7 b=>by
  have:=h3 m
  rw [X61n]
  generalize X61n (regs O) a (m+3)=X at this ⊢
  cases b<;>exact this _ _ _ _ _ _
 have h1:∀ m v16 v22 v25 v19 v7 b,(X61n (regs O) a (m+5)).x1 v16 v22 v25 v19 v7 b=some (ii (firstL [v7,v16,v19,v22,v25,wantE (b && (geI a.fBudget 0 && (leI a.fBudget 16 && (geI a.fMerge 0 && leI a.fMerge 2)))) 1])):=fun m v16 v22 v25 v19 v7 b=>by
  have:=h2 m
  rw [X61n]
  generalize X61n (regs O) a (m+4)=X at this ⊢
  cases b<;>exact this _ _ _ _ _ _
 have h0:∀ m v7 b,(X61n (regs O) a (m+6)).x0 v7 b=some (ii (firstL [v7,wantE b 1,chk2 a.fLimit_0 a.fLimit_1,reqsV a.fReqs,taintsV a.fTaints,wantE (poolB a) 1])):=fun m v7 b=>by
  obtain ⟨y,hy,hK⟩:=retW b 1
  obtain ⟨y1,hy1,hK1⟩:=yC_int (by kernel_rfl) (c102 a.fLimit_0 a.fLimit_1)
  obtain ⟨y2,hy2,hK2⟩:=yC_int (by kernel_rfl) (c110 a.fReqs ha.reqs)
  obtain ⟨y3,hy3,hK3⟩:=yC_int (by kernel_rfl) (c111 a.fTaints ha.taints)
  obtain ⟨y4,hy4,hK4⟩:=yC_bool (by kernel_rfl) (c112 a.fGen 0 1099511627776)
  obtain ⟨y5,hy5,hK5⟩:=yC_bool (by kernel_rfl) (c112 a.fExpire 0 1073741824)
  have:=h1 m
  rw [X61n]
  generalize X61n (regs O) a (m+5)=X at this ⊢
  simp only [X61s,b61_0,hK,hK1,hK2,hK3,hK4,hK5,hy,hy1,hy2,hy3,hy4,hy5,D61_1,this]
  unfold poolB
  cases within a.fGen 0 1099511627776<;>rfl
 obtain ⟨y,hy,hK⟩:=ret1 ha.name
 obtain ⟨z,hz,hL⟩:=retW (nameB a.fName) 7
 refine W61 a 6 _ ?_
 have e:e61_in (regs O) a (D61_0 (X61n (regs O) a 6))=(X61n (regs O) a 6).x0 (wantE (nameB a.fName) 7) (within a.fWeight 0 100):=by
  simp only [e61_in,hK,hy,hL,hz,D61_0]
  unfold within
  cases geI a.fWeight 0<;>rfl
 rw [e,h0 0]
 simp only [firstL_cons,firstL_one]
 rfl
theorem c34 (a:D77) (ha:sm77 a):Ret 34 [ag (e77 a)] (ii (poolV a)):=by
 obtain ⟨y,hy,hK⟩:=yC_bool (by kernel_rfl) (c71 a.fName ha.name)
 obtain ⟨y1,hy1,hK1⟩:=yC_int (by kernel_rfl) (c49 a.fLimit_0 a.fLimit_1)
 obtain ⟨y2,hy2,hK2⟩:=yC_int (by kernel_rfl) (c72 a.fReqs ha.reqs)
 obtain ⟨y3,hy3,hK3⟩:=yC_int (by kernel_rfl) (c73 a.fTaints ha.taints)
 obtain ⟨y4,hy4,hK4⟩:=yC_bool (by kernel_rfl) (c74 a.fGen 0 1099511627776)
 obtain ⟨y5,hy5,hK5⟩:=yC_bool (by kernel_rfl) (c74 a.fExpire 0 1073741824)
 have h3:∀ m b,(X34n (regs O) a (m+1)).x3 b=some (ii (wantE (!b && leI a.fMerge 2) 1)):=fun m b=>by
  simp only [X34n,X34s,b34_3,gtI_leI]
  unfold wantE
  cases b<;>cases leI a.fMerge 2<;>rfl
 have h2:∀ m b,(X34n (regs O) a (m+2)).x2 b=some (ii (wantE (!b && (geI a.fMerge 0 && leI a.fMerge 2)) 1)):=fun m b=>by
  have:=h3 m
  rw [X34n]
  generalize X34n (regs O) a (m+1)=X at this ⊢
  cases b with
  | true=>exact this _
  | false=>
   refine (this (ltI a.fMerge 0)).trans ?_
   rw [ltI_ge,Bool.not_not]
   rfl
 have h1:∀ m b,(X34n (regs O) a (m+3)).x1 b=some (ii (wantE (!b && (leI a.fBudget 16 && (geI a.fMerge 0 && leI a.fMerge 2))) 1)):=fun m b=>by
  have:=h2 m
  rw [X34n]
  generalize X34n (regs O) a (m+2)=X at this ⊢
  cases b with
  | true=>exact this _
  | false=>
   refine (this (gtI a.fBudget 16)).trans ?_
   rw [gtI_leI,Bool.not_not]
   rfl
 have h0:∀ m b,(X34n (regs O) a (m+4)).x0 b=some (ii (wantE (!b && (geI a.fBudget 0 && (leI a.fBudget 16 && (geI a.fMerge 0 && leI a.fMerge 2)))) 1)):=fun m b=>by
  have:=h1 m
  rw [X34n]
  generalize X34n (regs O) a (m+3)=X at this ⊢
  cases b with
  | true=>exact this _
  | false=>
   refine (this (ltI a.fBudget 0)).trans ?_
   rw [ltI_ge,Bool.not_not]
   rfl
 refine W34 a 4 _ ?_
 simp only [e34_in,hK,hK1,hK2,hK3,hK4,hK5,hy,hy1,hy2,hy3,hy4,hy5,D34_0,h0,ltI_ge,gtI_leI]
 unfold poolV poolB
 generalize within a.fGen 0 1099511627776=g
 generalize within a.fExpire 0 1073741824=x
 generalize (geI a.fBudget 0 && (leI a.fBudget 16 && (geI a.fMerge 0 && leI a.fMerge 2)))=w
 unfold orE within
 cases nameB a.fName<;>cases geI a.fWeight 0<;>cases leI a.fWeight 100<;>try rfl
 simp only [wantE,Bool.and_self,cond_true,Bool.not_true,cond_false]
 cases eqI (chk2 a.fLimit_0 a.fLimit_1) 0<;>cases eqI (reqsV a.fReqs) 0<;>cases eqI (taintsV a.fTaints) 0<;>cases g<;>cases x<;>cases w<;>rfl
theorem or_some {x r:Int}:(bif !eqI x 0 then some (ii x) else some (ii r))=some (ii (orE x r)):=by
 unfold orE
 cases eqI x 0<;>rfl
theorem want_some {b:Bool} {e r:Int} (he:eqI e 0=false):(bif !b then some (ii e) else some (ii r))=some (ii (orE (wantE b e) r)):=by
 unfold orE wantE
 cases b with
 | true=>rfl
 | false=>simp [he]
theorem want_and {b c:Bool} {e r:Int} (he:eqI e 0=false):orE (wantE b e) (orE (wantE c e) r)=orE (wantE (b && c) e) r:=by
 unfold orE wantE
 cases b<;>cases c<;>simp [he,show eqI 0 0=true from rfl]
theorem retN (l:List ByteArray) (hl:l.length < 2 ^ 62) (ha:∀ x∈l,sm (sizeN x)):∃ y:Y,y.b 0=l.all nameB∧∀ (ρ:Type) (K:Y→Option ρ),yC (regs O) 109 [S.t (T.rows 1 l.length fun i=>List.take 1 (List.drop (i.1*1) (l.map ts)))] K=K y:=yC_bool (by kernel_rfl) (c109 l hl ha)
structure sm61 (a:D61):Prop where
 name:sm (sizeN a.fName)
 app:sm (sizeN a.fApp)
 reqs:smR sm68 a.fReqs
 tols:smR sm160 a.fTols
 spread:smR sm70 a.fSpread
 near:smR sm138 a.fNear
 apart:smR sm138 a.fApart
 on:sm (sizeN a.fOn)
def podV (a:D61):Int:=orE (wantE (nameB a.fName && nameB a.fApp) 7) (orE (chk2 a.fNeed_0 a.fNeed_1) (orE (wantE (within a.fPrio (Int.negSucc 999) 1000) 1) (orE (reqsV a.fReqs) (orE (tolsV a.fTols) (orE (termsV a) (orE (wantE (within a.fSince 0 1099511627776) 1) (wantE (noneB a.fOn) 7)))))))
theorem c66 (a:D61) (ha:sm61 a):Ret 66 [ag (e61 a)] (ii (podV a)):=by
 have h0:∀ m v0 v1 b,(X66n (regs O) a (m+1)).x0 v0 v1 b=some (ii (firstL [v1,v0,wantE b 1,reqsV a.fReqs,tolsV a.fTols,termsV a,wantE (within a.fSince 0 1099511627776) 1,wantE (noneB a.fOn) 7])):=fun m v0 v1 b=>by
  obtain ⟨y,hy,hK⟩:=retW b 1
  obtain ⟨y1,hy1,hK1⟩:=yC_int (by kernel_rfl) (c110 a.fReqs ha.reqs)
  obtain ⟨y2,hy2,hK2⟩:=yC_int (by kernel_rfl) (c120 a.fTols ha.tols)
  obtain ⟨y3,hy3,hK3⟩:=yC_int (by kernel_rfl) (c121 a ha.spread ha.near ha.apart)
  obtain ⟨y4,hy4,hK4⟩:=yC_bool (by kernel_rfl) (c112 a.fSince 0 1099511627776)
  obtain ⟨y5,hy5,hK5⟩:=retW (within a.fSince 0 1099511627776) 1
  obtain ⟨y6,hy6,hK6⟩:=yC_bool (by kernel_rfl) (c122 a.fOn ha.on)
  obtain ⟨y7,hy7,hK7⟩:=retW (noneB a.fOn) 7
  obtain ⟨z,hz,hL⟩:=retF [v1,v0,wantE b 1,reqsV a.fReqs,tolsV a.fTols,termsV a,wantE (within a.fSince 0 1099511627776) 1,wantE (noneB a.fOn) 7] (show (8:Nat) < 2 ^ 62 by decide)
  have hL:∀ (ρ:Type) (K:Y→Option ρ),yC (regs O) 107 [S.t (T.rows 1 8 fun i=>List.take 1 (List.drop (i.1*1) [ti v1,ti v0,ti (wantE b 1),ti (reqsV a.fReqs),ti (tolsV a.fTols),ti (termsV a),ti (wantE (within a.fSince 0 1099511627776) 1),ti (wantE (noneB a.fOn) 7)]))] K=K z:=hL
  rw [X66n]
  generalize X66n (regs O) a m=X
  simp only [X66s,b66_0,hK,hK1,hK2,hK3,hK4,hK5,hK6,hK7,hy,hy1,hy2,hy3,hy4,hy5,hy6,hy7,hL,hz]
 obtain ⟨y,hy,hK⟩:=retN [a.fName,a.fApp] (show (2:Nat) < 2 ^ 62 by decide) (fun x hx=>by
  simp only [List.mem_cons,List.not_mem_nil,or_false] at hx
  rcases hx with rfl | rfl
  ·exact ha.name
  ·exact ha.app)
 have hK:∀ (ρ:Type) (K:Y→Option ρ),yC (regs O) 109 [S.t (T.rows 1 2 fun i=>List.take 1 (List.drop (i.1*1) [ts a.fName,ts a.fApp]))] K=K y:=hK
 have hy:y.b 0=(nameB a.fName && nameB a.fApp):=by rw [hy];simp
 obtain ⟨z,hz,hL⟩:=retW (nameB a.fName && nameB a.fApp) 7
 obtain ⟨x,hx,hM⟩:=yC_int (by kernel_rfl) (c102 a.fNeed_0 a.fNeed_1)
 refine W66 a 1 _ ?_
 have e:e66_in (regs O) a (D66_0 (X66n (regs O) a 1))=(X66n (regs O) a 1).x0 (chk2 a.fNeed_0 a.fNeed_1) (wantE (nameB a.fName && nameB a.fApp) 7) (within a.fPrio (Int.negSucc 999) 1000):=by
  simp only [e66_in,hK,hy,hL,hz,hM,hx,D66_0]
  unfold within
  cases geI a.fPrio (Int.negSucc 999)<;>rfl
 rw [e,h0 0]
 simp only [firstL_cons,firstL_one]
 rfl
theorem firstE_one {g:Nat→Int}:firstE 1 g=g 0:=by
 unfold firstE
 simp only [List.range_one,List.findSome?_cons,List.findSome?_nil]
 cases h:eqI (g 0) 0 with
 | false=>rfl
 | true=>exact (eqI_true.1 h).symm
theorem c36 (a:D61) (ha:sm61 a):Ret 36 [ag (e61 a)] (ii (podV a)):=by
 obtain ⟨y,hy,hK⟩:=yC_bool (by kernel_rfl) (c71 a.fName ha.name)
 obtain ⟨y1,hy1,hK1⟩:=yC_bool (by kernel_rfl) (c71 a.fApp ha.app)
 obtain ⟨y2,hy2,hK2⟩:=yC_int (by kernel_rfl) (c49 a.fNeed_0 a.fNeed_1)
 obtain ⟨y3,hy3,hK3⟩:=yC_int (by kernel_rfl) (c72 a.fReqs ha.reqs)
 obtain ⟨y4,hy4,hK4⟩:=yC_int (by kernel_rfl) (c79 a.fTols ha.tols)
 obtain ⟨y5,hy5,hK5⟩:=yC_int (by kernel_rfl) (c80 a.fNear ha.near)
 obtain ⟨y6,hy6,hK6⟩:=yC_int (by kernel_rfl) (c80 a.fApart ha.apart)
 obtain ⟨y7,hy7,hK7⟩:=yC_bool (by kernel_rfl) (c74 a.fSince 0 1099511627776)
 obtain ⟨y8,hy8,hK8⟩:=yC_bool (by kernel_rfl) (c71 a.fOn ha.on)
 have hn:=sm_lt ha.spread.1
 have k1:Ev (fun m=>(X36n (regs O) a m).x1 0) (ii (orE (firstE a.fSpread.n fun j=>spreadV (a.fSpread.at j)) (orE (termsE a.fNear) (orE (termsE a.fApart) (orE (wantE (within a.fSince 0 1099511627776) 1) (wantE (noneB a.fOn) 7)))))):=
  Ev.errsKC (X:=fun m j=>(X36n (regs O) a m).x1 (j:Int)) 1 a.fSpread.n (fun j=>spreadV (a.fSpread.at j)) _ (fun m j hj=>by
   have hk:=ha.spread.2 j hj
   obtain ⟨z,hz,hL⟩:=yC_int (by kernel_rfl) (c80 (rwL [⟨(a.fSpread.at j).fKey,(a.fSpread.at j).fApp⟩]) ⟨show (1:Nat)≤_ by decide,fun i hi=>by
    have hi:i < 1:=hi
    obtain rfl:i=0:=by omega
    exact hk⟩)
   have hL:∀ (ρ:Type) (K:Y→Option ρ),yC (regs O) 80 [S.t (T.rows 2 1 fun i=>List.take 2 (List.drop (i.1*2) [ts (a.fSpread.at j).fKey,ts (a.fSpread.at j).fApp]))] K=K z:=fun ρ K=>by
    rw [← hL ρ K]
    have:(fun i:Fin 1=>List.take 2 (List.drop (i.1*2) [ts (a.fSpread.at j).fKey,ts (a.fSpread.at j).fApp]))=fun i:Fin 1=>e138 ((rwL [(⟨(a.fSpread.at j).fKey,(a.fSpread.at j).fApp⟩:D138)]).get i):=by
     funext i
     obtain ⟨i,hi⟩:=i
     obtain rfl:i=0:=by omega
     rfl
    rw [this]
    rfl
   have hz:z.i 0=termV (a.fSpread.at j).fKey (a.fSpread.at j).fApp:=by rw [hz];exact firstE_one
   simp only [X36n,X36s,b36_1,D36_1,ltI_nat,elemO_nat hj,get_nat,hj,decide_true,cond_true,addI_nat1 (show j < 2 ^ 62 by omega),hL,hz]
   simp only [ltI_ge,gtI_leI]
   unfold spreadV orE
   cases h:eqI (termV (a.fSpread.at j).fKey (a.fSpread.at j).fApp) 0 with
   | false=>simp only [Bool.not_false,cond_true,h]
   | true=>cases geI (a.fSpread.at j).fSkew 1<;>cases leI (a.fSpread.at j).fSkew 16<;>rfl) (Ev.one 1 fun m=>by
   simp only [X36n,X36s,b36_1,D36_1,ltI_nat,Nat.lt_irrefl,decide_false,cond_false,hK5,hK6,hK7,hK8,hy5,hy6,hy7,hy8,strEq_empty]
   unfold orE wantE noneB
   cases h1:eqI (termsE a.fNear) 0 with
   | false=>rfl
   | true=>
    cases h2:eqI (termsE a.fApart) 0 with
    | false=>rfl
    | true=>cases within a.fSince 0 1099511627776<;>cases decide (sizeN a.fOn=0)<;>cases nameB a.fOn<;>rfl)
 obtain ⟨n,h1⟩:=k1.get
 have g3:∀ k:Nat,gtI (ofN k) 3=decide (3 < k):=fun k=>gtI_ofN (k:=3)
 refine W36 a (n+1) _ ?_
 have h0:∀ b,(X36n (regs O) a (n+1)).x0 b=some (ii (orE (wantE (!b && !decide (3 < a.fApart.n)) 3) (orE (firstE a.fSpread.n fun j=>spreadV (a.fSpread.at j)) (orE (termsE a.fNear) (orE (termsE a.fApart) (orE (wantE (within a.fSince 0 1099511627776) 1) (wantE (noneB a.fOn) 7))))))):=fun b=>by
  rw [X36n]
  generalize X36n (regs O) a n=X at h1
  simp only [X36s,b36_0,D36_1,g3,h1]
  cases b<;>cases decide (3 < a.fApart.n)<;>rfl
 simp only [e36_in,hK,hK1,hK2,hK3,hK4,hy,hy1,hy2,hy3,hy4,D36_0,h0,g3]
 simp only [ltI_ge,gtI_leI]
 have e1:(bif decide (3 < a.fSpread.n) then some (ii (orE (wantE (!true && !decide (3 < a.fApart.n)) 3) (orE (firstE a.fSpread.n fun j=>spreadV (a.fSpread.at j)) (orE (termsE a.fNear) (orE (termsE a.fApart) (orE (wantE (within a.fSince 0 1099511627776) 1) (wantE (noneB a.fOn) 7))))))) else some (ii (orE (wantE (!decide (3 < a.fNear.n) && !decide (3 < a.fApart.n)) 3) (orE (firstE a.fSpread.n fun j=>spreadV (a.fSpread.at j)) (orE (termsE a.fNear) (orE (termsE a.fApart) (orE (wantE (within a.fSince 0 1099511627776) 1) (wantE (noneB a.fOn) 7))))))))=some (ii (orE (termsV a) (orE (wantE (within a.fSince 0 1099511627776) 1) (wantE (noneB a.fOn) 7)))):=by
  unfold termsV many3
  generalize orE (wantE (within a.fSince 0 1099511627776) 1) (wantE (noneB a.fOn) 7)=w
  generalize (firstE a.fSpread.n fun j=>spreadV (a.fSpread.at j))=u
  generalize termsE a.fNear=v
  generalize termsE a.fApart=t
  have e:orE (orE u (orE v t)) w=orE u (orE v (orE t w)):=by
   unfold orE
   cases h1:eqI u 0<;>simp [h1]
   cases h2:eqI v 0<;>simp [h2]
  cases decide (3 < a.fSpread.n)<;>cases decide (3 < a.fNear.n)<;>cases decide (3 < a.fApart.n)<;>first | rfl | exact congrArg (fun x=>some (ii x)) e.symm
 simp only [e1,or_some,want_some (e:=7) rfl,want_some (e:=1) rfl,want_and (e:=7) rfl,want_and (e:=1) rfl]
 rfl
end
end Go.Proofs.YtonkoellfaopiaaGreatDoor.H
