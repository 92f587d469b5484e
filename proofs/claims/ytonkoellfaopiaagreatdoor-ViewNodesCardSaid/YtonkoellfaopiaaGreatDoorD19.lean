import Derived.Test.YtonkoellfaopiaaGreatDoorD18
set_option linter.unusedSimpArgs false
set_option linter.unusedVariables false
set_option linter.unusedSectionVars false
namespace Go.Proofs.YtonkoellfaopiaaGreatDoor.H
open Go Go.Lib
noncomputable section
def ou (a:dC):Prop:=sm (aM a.aZ)∧ga (fun x:ByteArray=>sm (aM x)) a.aL
def Ir (a:Rw ByteArray):Bool:=(List.range a.n).any fun j=>(List.range j).any fun i=>ah (a.at i) (a.at j)
def mw (a:Rw ByteArray):Int:=bif bl (ay a.n) 8 then 3 else bif (List.range a.n).any (fun j=>!jr (a.at j)) then 20 else bif Ir a then 6 else 0
def tm (x:dC):Bool:=(bm x.cz 1 || bl x.cz 6) || (!r9 (aR x.cz 1 || aR x.cz 2) (bl (ay x.aL.n) 0) || ((!(aR x.cz 5 || aR x.cz 6) && !aR x.fN 0) || (bm x.fN (-2147483648) || bl x.fN 2147483648)))
def jf (x:dC):Int:=bif !ba x.aZ then 7 else bif tm x then 30 else mw x.aL
def ji (a:Rw dC):Int:=bif bl (ay a.n) 8 then 3 else bg a.n fun j=>jf (a.at j)
theorem c229 (a:ByteArray) (ha:sm (aM a)):ca 229 [ss a] (bb (!jr a)):=by
 obtain ⟨y,hy,hK⟩:=aB (by kernel_rfl) (c146 a ha)
 exact akt a 0 _ (by simp only [zJ,hK,hy])
theorem adR (a:Rw ByteArray) (ha:ga (fun x:ByteArray=>sm (aM x)) a):ca 186 [S.t (T.rows 1 a.n fun i=>[ts (a.get i)]),S.t (T.v (.func (Go.Fn.func 229) #[] #[]))] (ii (idx a.n fun j=>!jr (a.at j))):=by
 have hn:=cF ha.1
 have key:=Ev.rW (X:=fun m j=>(qv (aa O) a m).x0 (j:Int)) 1 a.n (fun j=>!jr (a.at j)) (fun m j hj=>by
  have hj2:j < 2 ^ 62:=by omega
  obtain ⟨y,hy,hK⟩:=aB (by kernel_rfl) (c229 (a.at j) (ha.2 j hj))
  simp only [qv,FO,sK,p8,aq,av hj,aK,hj,decide_true,cond_true,aA hj2,hK,hy]) (fun m=>by
  simp only [qv,FO,sK,p8,aq,Nat.lt_irrefl,decide_false,cond_false];rfl)
 obtain ⟨n,h⟩:=key.get
 exact afV a n _ h
theorem agj (a:Rw ByteArray) (ha:ga (fun x:ByteArray=>sm (aM x)) a):ca 151 [S.t (T.rows 1 a.n fun i=>[ts (a.get i)]),S.t (T.v (.func (Go.Fn.func 229) #[] #[]))] (bb ((List.range a.n).any fun j=>!jr (a.at j))):=by
 obtain ⟨y,hy,hK⟩:=aN (by kernel_rfl) (adR a ha)
 exact adt a 0 _ (by simp only [vb,hK,hy,je])
def rl (a:Rw ByteArray):Nat→List ByteArray
 | 0=>[]
 | j+1=>l0 (rl a j) (a.at j)
theorem NO (l:List ByteArray) (b c:ByteArray):(l0 l b).any (ah c)=(l.any (ah c) || ah c b):=by
 unfold l0
 cases h:l.any (ah b) with
 | false=>simp [List.any_append]
 | true=>
  rw [cond_true]
  cases hc:ah c b with
  | false=>rw [Bool.or_false]
  | true=>obtain rfl:=dc.1 hc;rw [h];rfl
theorem J0 (a:Rw ByteArray) (b:ByteArray):∀ j,(rl a j).any (ah b)=(List.range j).any fun i=>ah b (a.at i)
 | 0=>rfl
 | j+1=>by
  rw [List.range_succ,List.any_append,← J0 a b j]
  show (l0 (rl a j) (a.at j)).any (ah b)=_
  rw [NO]
  simp
theorem oO (a:Rw ByteArray):∀ j,(rl a j).length≤j∧decide ((rl a j).length < j)=(List.range j).any fun k=>(List.range k).any fun i=>ah (a.at i) (a.at k)
 | 0=>⟨Nat.le_refl _,rfl⟩
 | j+1=>by
  obtain ⟨h1,h2⟩:=oO a j
  rw [List.range_succ,List.any_append,← h2]
  have hc:((List.range j).any fun i=>ah (a.at i) (a.at j))=(rl a j).any (ah (a.at j)):=by
   rw [J0]
   exact List.any_congr rfl fun i=>de
  simp only [List.any_cons,List.any_nil,Bool.or_false,hc]
  show (l0 (rl a j) (a.at j)).length≤j+1∧decide ((l0 (rl a j) (a.at j)).length < j+1)=_
  unfold l0
  cases (rl a j).any (ah (a.at j)) with
  | true=>simp only [cond_true,Bool.or_true,decide_eq_true_eq];omega
  | false=>
   simp only [cond_false,Bool.or_false,List.length_append,List.length_cons,List.length_nil,Nat.zero_add]
   refine ⟨by omega,?_⟩
   by_cases h:(rl a j).length < j
   ·simp [h]
   ·simp [h]
theorem C3 (l:List ByteArray) (b:ByteArray):dG (l++[b])=(dG l && !l.any (ah b)):=by
 induction l with
 | nil=>rfl
 | cons k l ih=>
  show (!(l++[b]).any (ah k) && dG (l++[b]))=(!l.any (ah k) && dG l && !(ah b k || l.any (ah b)))
  rw [ih,List.any_append,@de b k]
  simp only [List.any_cons,List.any_nil,Bool.or_false]
  cases l.any (ah k)<;>cases dG l<;>cases ah k b<;>cases l.any (ah b)<;>rfl
theorem ra {l:List ByteArray} (b:ByteArray) (h:dG l=true):dG (l0 l b)=true:=by
 unfold l0
 cases hb:l.any (ah b) with
 | true=>exact h
 | false=>rw [cond_false,C3,h,hb];rfl
theorem rB (a:Rw ByteArray):∀ j,dG (rl a j)=true
 | 0=>rfl
 | j+1=>ra _ (rB a j)
theorem CC {p:ByteArray→Bool} {l:List ByteArray} {b:ByteArray} (h:l.all p=true) (hb:p b=true):(l0 l b).all p=true:=by
 unfold l0
 cases l.any (ah b) with
 | true=>exact h
 | false=>rw [cond_false,List.all_append,h];simp [hb]
theorem Kg (a:Rw ByteArray) {p:ByteArray→Bool}:∀ j,(∀ i,i < j→p (a.at i)=true)→(rl a j).all p=true
 | 0,_=>rfl
 | j+1,h=>CC (Kg a j fun i hi=>h i (by omega)) (h j (by omega))
theorem abB (l:List ByteArray):rR (cB l)=l.length:=by unfold rR cB;simp
theorem agV {ρ:Type} (l:List ByteArray) (K:Option ρ):rT (cB l) K=K:=by
 unfold rT
 refine if_pos ?_
 show (cB l).all _=true
 rw [List.all_eq_true]
 intro e he
 obtain ⟨s,_,rfl⟩:=List.mem_map.1 he
 rfl
theorem ag1 (a:Rw ByteArray) (hn:a.n≤800):ca 217 [S.t (T.rows 1 1 fun i=>List.take 1 (List.drop (i.1*1) [T.rows 1 a.n fun i=>[ts (a.get i)]]))] (.mt (cB (rl a a.n))):=by
 have inner:∀ (k j:Nat),j+k=a.n→Ev (fun m=>(kV (aa O) (nK [a]) m).x1 (ay a.n) a (j:Int) (cB (rl a j)) 0) (.mt (cB (rl a a.n))):=by
  intro k
  induction k with
  | zero=>
   intro j hj
   obtain rfl:j=a.n:=by omega
   have hl:=(oO a a.n).1
   refine Ev.add 2 ⟨0,fun m _=>?_⟩
   show (kV (aa O) (nK [a]) (m+2)).x1 (ay a.n) a ((a.n:Nat):Int) (cB (rl a a.n)) 0=_
   rw [kV]
   simp only [CZ,yv,aq,Nat.lt_irrefl,decide_false,cond_false,kJ (show (rl a a.n).length≤800 by omega)]
   show (kV (aa O) (nK [a]) (m+1)).x0 1 (cB (rl a a.n))=_
   rw [kV]
   have h1:bm 1 (ay (nK [a]).n)=false:=rfl
   simp only [CZ,yp,h1,cond_false,kJ (show (rl a a.n).length≤800 by omega),tT (d:=999) (show (rl a a.n).length+11≤999 by omega)]
  | succ k ih=>
   intro j hj
   have hj1:j < a.n:=by omega
   have hl:=(oO a (j+1)).1
   refine Ev.succ ((ih (j+1) (by omega)).of_eq fun m=>?_)
   rw [kV]
   simp only [CZ,yv,uK,aq,hj1,decide_true,cond_true,av hj1,aK,agP,aA (show j < 2 ^ 62 by omega)]
   show bL 900 (cB (rl a (j+1))) _=_
   rw [kJ (show (rl a (j+1)).length≤800 by omega)]
   rfl
 have key:Ev (fun m=>(kV (aa O) (nK [a]) m).x0 0 []) (.mt (cB (rl a a.n))):=by
  refine Ev.succ ((inner a.n 0 (by omega)).of_eq fun m=>?_)
  rw [kV]
  have h1:bm 0 (ay (nK [a]).n)=true:=rfl
  simp only [CZ,yp,uK,h1,cond_true]
  have f:∀ K:Option S,bL 900 [] K=K:=fun K=>kJ (l:=[]) (by decide)
  show aU 0 1 (fun h=>bL 900 [] _)=_
  rw [wO (by decide) (by decide),f]
  rfl
 obtain ⟨n,h⟩:=key.get
 have e:(fun i:Fin 1=>List.take 1 (List.drop (i.1*1) [T.rows 1 a.n fun i=>[ts (a.get i)]]))=fun i:Fin (nK [a]).n=>e31 ((nK [a]).get i):=Uf [a] (fun x=>T.rows 1 x.n fun i=>[ts (x.get i)])
 rw [e]
 refine ahX (nK [a]) n _ ?_
 show bL 900 [] ((kV (aa O) (nK [a]) n).x0 0 [])=_
 have f:∀ K:Option S,bL 900 [] K=K:=fun K=>kJ (l:=[]) (by decide)
 rw [f];exact h
theorem afL:ca 217 [S.t (T.v (.slice none 0 0))] (.mt []):=by
 have f:∀ K:Option S,bL 900 [] K=K:=fun K=>kJ (l:=[]) (by decide)
 have g:∀ K:Option S,bL 999 [] K=K:=fun K=>tT (d:=999) (l:=[]) (by decide)
 refine adH 1 _ ?_
 show bL 900 [] (bL 900 [] (bL 999 [] (some (S.mt []))))=_
 rw [f,f,g]
theorem ajT (x:dC) (hx:ou x):ca 215 [ag (eL x)] (ii (jf x)):=by
 obtain ⟨y1,hy1,hK1⟩:=aB (by kernel_rfl) (vE x.aZ hx.1)
 obtain ⟨y2,hy2,hK2⟩:=aB (by kernel_rfl) (agj x.aL hx.2)
 have rest:(bif bl (ay x.aL.n) 8 then some (ii 3) else yC (aa O) 151 [S.t (T.rows 1 x.aL.n fun i=>[ts (x.aL.get i)]),S.t (T.v (.func (Go.Fn.func 229) (Array.mk []) (Array.mk [])))] fun y=>bif y.b 0 then some (ii 20) else yC (aa O) 217 [S.t (T.rows 1 1 fun i=>List.take 1 (List.drop (i.1*1) [T.rows 1 x.aL.n fun i=>[ts (x.aL.get i)]]))] fun y=>rT (y.m 0) (bif bm (ay (rR (y.m 0))) (ay x.aL.n) then some (ii 6) else some (ii 0)))=some (ii (mw x.aL)):=by
  unfold mw
  have e:bl (ay x.aL.n) 8=decide (8 < x.aL.n):=dO (k:=8)
  by_cases h:8 < x.aL.n
  ·rw [e];simp [h]
  ·obtain ⟨y3,hy3,hK3⟩:=tB (by kernel_rfl) (ag1 x.aL (by omega))
   have hd:bm (ay (rl x.aL x.aL.n).length) (ay x.aL.n)=Ir x.aL:=by
    unfold Ir
    rw [← (oO x.aL x.aL.n).2]
    exact aq
   rw [e,hK2,hy2,hK3,hy3,agV,abB,hd]
   simp only [h,decide_false,cond_false]
   cases (List.range x.aL.n).any (fun j=>!jr (x.aL.at j))<;>cases Ir x.aL<;>rfl
 have h3:∀ m b,(il (aa O) x (m+1)).x3 b=some (ii (bif b || (bm x.fN (-2147483648) || bl x.fN 2147483648) then 30 else mw x.aL)):=fun m b=>by
  rw [il]
  simp only [CR,HJ]
  rw [rest]
  have e:bm x.fN (Int.negSucc 2147483647)=bm x.fN (-2147483648):=rfl
  rw [e]
  cases b<;>cases bm x.fN (-2147483648)<;>cases bl x.fN 2147483648<;>rfl
 have h2:∀ m num ia b,(il (aa O) x (m+2)).x2 num ia b=some (ii (bif b || (!r9 ia (bl (ay x.aL.n) 0) || ((!num && !aR x.fN 0) || (bm x.fN (-2147483648) || bl x.fN 2147483648))) then 30 else mw x.aL)):=fun m num ia b=>by
  have t:=h3 m
  rw [il]
  generalize il (aa O) x (m+1)=X at t ⊢
  simp only [CR,GO]
  rw [rest]
  simp only [G8,t]
  cases b<;>cases r9 ia (bl (ay x.aL.n) 0)<;>cases num<;>cases aR x.fN 0<;>cases bm x.fN (-2147483648)<;>cases bl x.fN 2147483648<;>rfl
 have h1:∀ m ia num,(il (aa O) x (m+3)).x1 ia num=some (ii (bif !ba x.aZ then 7 else bif (bm x.cz 1 || bl x.cz 6) || (!r9 ia (bl (ay x.aL.n) 0) || ((!num && !aR x.fN 0) || (bm x.fN (-2147483648) || bl x.fN 2147483648))) then 30 else mw x.aL)):=fun m ia num=>by
  have t:=h2 m
  rw [il]
  generalize il (aa O) x (m+2)=X at t ⊢
  simp only [CR,EA]
  rw [hK1,hy1]
  simp only [Gz,t]
  cases ba x.aZ<;>cases bm x.cz 1<;>rfl
 have h0:∀ m ia,(il (aa O) x (m+4)).x0 ia=some (ii (bif !ba x.aZ then 7 else bif (bm x.cz 1 || bl x.cz 6) || (!r9 ia (bl (ay x.aL.n) 0) || ((!(aR x.cz 5 || aR x.cz 6) && !aR x.fN 0) || (bm x.fN (-2147483648) || bl x.fN 2147483648))) then 30 else mw x.aL)):=fun m ia=>by
  have t:=h1 m
  rw [il]
  generalize il (aa O) x (m+3)=X at t ⊢
  simp only [CR,Eg]
  simp only [ES,t]
  cases aR x.cz 5<;>rfl
 refine ai8 x 4 _ ?_
 show sA (aa O) x (zr (il (aa O) x 4))=_
 unfold sA
 simp only [zr,h0 0]
 unfold jf tm
 cases aR x.cz 1<;>rfl
theorem LB:∀ l:List ByteArray,ru (cB l)=some l
 | []=>rfl
 | s::l=>by
  show (ru (cB l)).map (s::·)=_
  rw [LB l];rfl
def uA (k:ByteArray):Bool:=k.size.ble 281474976710656
theorem FQ {f:FuncId} {args:List S} {sh:Sh} {y0:Y} (hs:wh O.P f=some sh) (h:ca f args (build y0 sh)):∃ y:Y,∀ (ρ:Type) (K:Y→Option ρ),yC (aa O) f args K=K y:=by
 obtain ⟨y,_,h2⟩:=iR hs h
 exact ⟨y,h2⟩
theorem WL (l:List ByteArray) (h1:dG l=true) (h2:l.all uA=true) (h3:l.length≤1048576):∃ y:Y,∀ (ρ:Type) (K:Y→Option ρ),yC (aa O) 216 [S.mt (cB l)] K=K y:=by
 have hr:ca 216 [S.mt (cB l)] (qh (gu l)):=by
  refine wL (F:=UG) rfl ?_
  show (match ru (cB l) with | some ks=>bif dG ks && ks.all (fun k=>k.size.ble 281474976710656) && (cB l).length.ble 1048576 then some (qh (gu ks)) else none | none=>none)=_
  rw [LB]
  have e1:(cB l).length.ble 1048576=true:=by rw [Nat.ble_eq];unfold cB;simpa using h3
  have e2:l.all (fun k=>k.size.ble 281474976710656)=true:=h2
  dsimp only
  rw [h1,e1,e2];rfl
 exact FQ (sh:=.rows 1 0) (y0:=⟨fun _=>0,fun _=>false,fun _=>⟨#[]⟩,fun _=>⟨(gu l).length,fun i=>[.v (.string ⟨((gu l)[i.1]'i.2).toArray⟩)]⟩,fun _=>[]⟩) (by kernel_rfl) hr
theorem Z3 (n:Int) (h0 : -2147483648≤n) (h1:n≤2147483648):∃ y:Y,y.s 0=lI n∧∀ (ρ:Type) (K:Y→Option ρ),yC (aa O) 214 [ii n,ii 10] K=K y:=by
 have hr:ca 214 [ii n,ii 10] (ss (lI n)):=by
  refine wL (F:=W0) rfl ?_
  show (bif decide (-9223372036854775808≤n) && decide (n≤9223372036854775807) then some (ss (lI n)) else none)=_
  have e1:decide (-9223372036854775808≤n)=true:=by rw [decide_eq_true_eq];omega
  have e2:decide (n≤9223372036854775807)=true:=by rw [decide_eq_true_eq];omega
  rw [e1,e2];rfl
 exact yq (by kernel_rfl) hr
theorem TV {n:Int} (h0 : -2147483648≤n) (h1:n≤2147483648):uA (lI n)=true:=by
 have:=De h0 h1
 unfold uA lI
 rw [Nat.ble_eq]
 show (itoa n).toArray.size≤_
 rw [List.size_toArray];omega
theorem zU {ρ:Type} (b:ByteArray) (Kt:Y→Option ρ) (Kf:Option ρ):lookW O.P O.K 9 4 [] (ss b) Kt Kf=Kf:=(Dy b []).1 rfl Kt Kf
theorem i64 {n:Int} (h0 : -4611686018427387904≤n) (h1:n≤4611686018427387904):IntKind.i64.wrap n=n:=i64_in (by omega)
def mm:Sh:=.bJ [.agg [.bool 0,.bool 1,.bool 2,.rows 1 3,.int .i64 4,.int .i64 5],.bool 6]
def Hh (b0 b1 b2:Bool) (r:bN) (lo hi:Int) (x:S):S:=.bJ [.agg [bb b0,bb b1,bb b2,.t (.rows 1 r.n r.g),ii lo,ii hi],x]
theorem qE (b0 b1 b2:Bool) (r:bN) (lo hi:Int) (x:Bool):∃ y:Y,build y mm=Hh b0 b1 b2 r lo hi (bb x):=
 ⟨⟨fun i=>match i with | 4=>lo | _=>hi,fun i=>match i with | 0=>b0 | 1=>b1 | 2=>b2 | _=>x,fun _=>⟨#[]⟩,fun _=>r,fun _=>[]⟩,rfl⟩
theorem c218 (lo hi:Int) (h1 : -2147483648≤lo) (h2:lo≤2147483649) (h3 : -2147483649≤hi) (h4:hi≤2147483648):∃ y:Y,∀ (ρ:Type) (K:Y→Option ρ),yC (aa O) 218 [ii lo,ii hi,S.mt []] K=K y:=by
 have f9:∀ K:Option S,bL 900 [] K=K:=fun K=>kJ (l:=[]) (by decide)
 have f998:∀ K:Option S,bL 998 [] K=K:=fun K=>tT (l:=[]) (by decide)
 have wr:∀ (k:Nat) (n:Int) (l:List ByteArray),n+k=hi+1 → -2147483648≤n→l.length+k≤700→dG l=true→l.all uA=true→∃ y:Y,Ev (fun m=>(di (aa O) lo hi m).x3 n hi (cB l)) (build y mm):=by
  intro k
  induction k with
  | zero=>
   intro n l hn h0 hl ht hf
   obtain ⟨y,hK⟩:=WL l ht hf (by omega)
   obtain ⟨z,hz⟩:=qE false false false (y.r 0) 0 0 true
   refine ⟨z,Ev.succ ⟨0,fun m _=>?_⟩⟩
   show (di (aa O) lo hi (m+1)).x3 n hi (cB l)=_
   rw [di]
   have e:bp n hi=false:=by unfold bp;rw [decide_eq_false_iff_not];omega
   simp only [lu,pU,e,cond_false,kJ (show l.length≤800 by omega),tT (d:=998) (show l.length+11≤998 by omega),hK]
   rw [hz];rfl
  | succ k ih=>
   intro n l hn h0 hl ht hf
   obtain ⟨y,hy,hK⟩:=Z3 n h0 (by omega)
   have hlen:(l0 l (lI n)).length≤l.length+1:=by
    unfold l0
    cases l.any (ah (lI n))<;>simp
   obtain ⟨z,hz⟩:=ih (n+1) (l0 l (lI n)) (by omega) (by omega) (by omega) (ra _ ht) (CC hf (TV h0 (by omega)))
   refine ⟨z,Ev.succ (hz.of_eq fun m=>?_)⟩
   rw [di]
   have e:bp n hi=true:=by unfold bp;rw [decide_eq_true_eq];omega
   have e2:a7 .i64 n 1=n+1:=i64 (n:=n+1) (by omega) (by omega)
   simp only [lu,pU,nq,e,cond_true,hK,zU,hy,agP,kJ (show (l0 l (lI n)).length≤800 by omega),e2]
 obtain ⟨y,hy⟩:∃ y:Y,Ev (fun m=>(di (aa O) lo hi m).x2 lo hi) (build y mm):=by
  have e1:bF .i64 (a7 .i64 (bF .i64 hi lo) 1) (ay (rR []))=hi - lo+1:=by
   unfold bF a7
   rw [i64 (n:=hi - lo) (by omega) (by omega)]
   show IntKind.i64.wrap (IntKind.i64.wrap (hi - lo+1) - 0)=_
   rw [i64 (n:=hi - lo+1) (by omega) (by omega),i64 (by omega) (by omega)];omega
  by_cases hm:hi - lo+1 > 64
  ·obtain ⟨y,hK⟩:=WL [] rfl rfl (by decide)
   obtain ⟨z,hz⟩:=qE false true true (y.r 0) lo hi (bp (ay (rR [])) 64)
   refine ⟨z,Ev.succ ⟨0,fun m _=>?_⟩⟩
   show (di (aa O) lo hi (m+1)).x2 lo hi=_
   rw [di]
   have e:bl (hi - lo+1) 64=true:=by unfold bl;rw [decide_eq_true_eq];exact hm
   have hK':∀ (ρ:Type) (K:Y→Option ρ),yC (aa O) 216 [S.mt []] K=K y:=hK
   simp only [lu,pF,e1,e,cond_true,f998,hK']
   rw [hz];rfl
  ·have e:bl (hi - lo+1) 64=false:=by
    unfold bl;rw [decide_eq_false_iff_not];exact hm
   by_cases hl:hi < lo
   ·obtain ⟨y,hK⟩:=WL [] rfl rfl (by decide)
    obtain ⟨z,hz⟩:=qE false false false (y.r 0) 0 0 true
    refine ⟨z,Ev.add 2 ⟨0,fun m _=>?_⟩⟩
    have hK':∀ (ρ:Type) (K:Y→Option ρ),yC (aa O) 216 [S.mt []] K=K y:=hK
    have t:(di (aa O) lo hi (m+1)).x3 lo hi []=some (build z mm):=by
     rw [di]
     have e:bp lo hi=false:=by unfold bp;rw [decide_eq_false_iff_not];omega
     simp only [lu,pU,e,cond_false,f9,f998,hK']
     rw [hz];rfl
    show (di (aa O) lo hi (m+2)).x2 lo hi=_
    rw [di]
    generalize di (aa O) lo hi (m+1)=X at t ⊢
    simp only [lu,pF,nq,e1,e,cond_false,f9]
    exact t
   ·obtain ⟨y,hy⟩:=wr (hi+1 - lo).toNat lo [] (by omega) h1 (by simp only [List.length_nil];omega) rfl rfl
    refine ⟨y,Ev.succ (hy.of_eq fun m=>?_)⟩
    rw [di]
    simp only [lu,pF,nq,e1,e,cond_false,f9]
    rfl
 have s1:∀ m,(di (aa O) lo hi (m+1)).x1 lo hi=(di (aa O) lo hi m).x2 lo hi:=fun m=>by
  rw [di]
  simp only [lu,ye,xY]
  cases e:bp lo hi with
  | false=>rfl
  | true=>
   obtain ⟨y,hy,hK⟩:=Z3 hi (by unfold bp at e;rw [decide_eq_true_eq] at e;omega) h4
   rw [cond_true,hK,zU]
 have s0:∀ m,(di (aa O) lo hi (m+1)).x0 lo=(di (aa O) lo hi m).x1 lo hi:=fun m=>by
  rw [di]
  simp only [lu,zQ,sB]
  cases e:bp lo hi with
  | false=>rfl
  | true=>
   obtain ⟨y,hy,hK⟩:=Z3 lo h1 (by unfold bp at e;rw [decide_eq_true_eq] at e;omega)
   rw [cond_true,hK,zU]
 have key:Ev (fun m=>(di (aa O) lo hi m).x0 lo) (build y mm):=Ev.add 2 (hy.of_eq fun m=>by
  show (di (aa O) lo hi (m+2)).x0 lo=_
  rw [s0,s1])
 obtain ⟨n,h⟩:=key.get
 exact FQ (sh:=mm) (y0:=y) (by kernel_rfl) (agA lo hi n _ h)
def RW:Sh:=.bJ [.agg [.bool 0,.bool 1,.bool 2,.rows 1 3,.int .i64 4,.int .i64 5],.int .i64 6]
theorem ab3 (b0 b1 b2:Bool) (r:bN) (lo hi:Int) (x:Int):∃ y:Y,y.i 6=x∧build y RW=Hh b0 b1 b2 r lo hi (ii x):=
 ⟨⟨fun i=>match i with | 4=>lo | 5=>hi | _=>x,fun i=>match i with | 0=>b0 | 1=>b1 | _=>b2,fun _=>⟨#[]⟩,fun _=>r,fun _=>[]⟩,rfl,rfl⟩
theorem zp {f:FuncId} {args:List S} {x:Int} (hs:wh O.P f=some RW) {b0 b1 b2:Bool} {r:bN} {lo hi:Int} (h:ca f args (Hh b0 b1 b2 r lo hi (ii x))):∃ y:Y,y.i 6=x∧∀ (ρ:Type) (K:Y→Option ρ),yC (aa O) f args K=K y:=by
 obtain ⟨z,hz,he⟩:=ab3 b0 b1 b2 r lo hi x
 rw [← he] at h
 obtain ⟨y,h1,h2⟩:=iR hs h
 refine ⟨y,?_,h2⟩
 have:build y (.int .i64 6)=build z (.int .i64 6):=by
  simp only [RW,build,gb,S.bJ.injEq,List.cons.injEq] at h1
  exact h1.2.1
 simpa [build,hz] using this
theorem JC (g:Fin 0→List T):S.t (T.rows 1 0 g)=S.t (T.rows 1 (⟨0,fun i=>i.elim0⟩:bN).n (⟨0,fun i=>i.elim0⟩:bN).g):=by
 have:g=fun i=>i.elim0:=funext fun i=>i.elim0
 rw [this]
theorem Xv {a:Rw ByteArray} (h:mw a=0):a.n≤8:=by
 unfold mw at h
 by_cases hn:8 < a.n
 ·have e:bl (ay a.n) 8=true:=by rw [show bl (ay a.n) 8=decide (8 < a.n) from dO (k:=8)];simp [hn]
  rw [e] at h;cases h
 ·omega
theorem Cv {x:dC} (h:tm x=false) : -2147483648≤x.fN∧x.fN≤2147483648:=by
 unfold tm at h
 simp only [Bool.or_eq_false_iff] at h
 have h1:=h.2.2.2.1
 have h2:=h.2.2.2.2
 unfold bm at h1;unfold bl at h2
 simp only [decide_eq_false_iff_not] at h1 h2
 omega
theorem ag7 {x:dC} (h:jf x=0):tm x=false∧mw x.aL=0:=by
 unfold jf at h
 cases h1:ba x.aZ with
 | false=>rw [h1] at h;cases h
 | true=>
  cases h2:tm x with
  | true=>rw [h1,h2] at h;cases h
  | false=>rw [h1,h2] at h;exact ⟨rfl,h⟩
theorem adQ (x:dC) (hx:ou x):∃ y:Y,y.i 6=jf x∧∀ (ρ:Type) (K:Y→Option ρ),yC (aa O) 187 [ag (eL x)] K=K y:=by
 obtain ⟨y1,hy1,hK1⟩:=aN (by kernel_rfl) (ajT x hx)
 by_cases hz:jf x=0
 ·obtain ⟨ho,hr⟩:=ag7 hz
  have hn:=Xv hr
  obtain ⟨h0,h1⟩:=Cv ho
  obtain ⟨y2,hy2,hK2⟩:=tB (by kernel_rfl) (ag1 x.aL (by omega))
  have hl:=(oO x.aL x.aL.n).1
  obtain ⟨y3,hK3⟩:=WL (rl x.aL x.aL.n) (rB _ _) (Kg _ _ fun i hi=>by
   have:=hx.2.2 i hi
   unfold uA;rw [Nat.ble_eq];unfold sm at this;have e:(x.aL.at i).size=aM (x.aL.at i):=rfl;omega) (by omega)
  obtain ⟨y4,hy4,hK4⟩:=tB (by kernel_rfl) afL
  have f996:∀ K:Option S,bL 996 [] K=K:=fun K=>tT (l:=[]) (by decide)
  have a1:a7 .i64 x.fN 1=x.fN+1:=i64 (n:=x.fN+1) (by omega) (by omega)
  have a2:bF .i64 x.fN 1=x.fN - 1:=i64 (n:=x.fN - 1) (by omega) (by omega)
  obtain ⟨y5,hK5⟩:=c218 (x.fN+1) 2147483648 (by omega) (by omega) (by decide) (by decide)
  obtain ⟨y6,hK6⟩:=c218 (-2147483648) (x.fN - 1) (by decide) (by decide) (by omega) (by omega)
  have hK6':∀ (ρ:Type) (K:Y→Option ρ),yC (aa O) 218 [ii (Int.negSucc 2147483647),ii (x.fN - 1),S.mt []] K=K y6:=hK6
  have hK5':∀ (ρ:Type) (K:Y→Option ρ),yC (aa O) 218 [ii (x.fN+1),ii 2147483648,S.mt []] K=K y5:=hK5
  have e0:aR (0:Int) 0=true:=rfl
  have hW:∀ v,nD (aa O) x=some v→ca 187 [ag (eL x)] v:=fun v h=>ad8 x 0 v h
  rw [hz]
  have main:∃ b0 b1 b2 r lo hi,nD (aa O) x=some (Hh b0 b1 b2 r lo hi (ii 0)):=by
   simp only [nD,hK1,hy1,hz,e0,Bool.not_true,cond_false,hK2,hy2,agV,tT (d:=998) (show (rl x.aL x.aL.n).length+11≤998 by omega),hK3,hK4,hy4,f996,a1,a2,hK5',hK6']
   cases aR x.cz 2 with
   | true=>exact ⟨_,_,_,_,_,_,rfl⟩
   | false=>
    cases aR x.cz 3 with
    | true=>exact ⟨_,_,_,_,_,_,rfl⟩
    | false=>
     cases aR x.cz 4 with
     | true=>exact ⟨_,_,_,_,_,_,rfl⟩
     | false=>
      cases aR x.cz 5 with
      | true=>exact ⟨_,_,_,_,_,_,rfl⟩
      | false=>
       cases aR x.cz 6 with
       | true=>exact ⟨_,_,_,_,_,_,rfl⟩
       | false=>exact ⟨_,_,_,_,_,_,rfl⟩
  obtain ⟨b0,b1,b2,r,lo,hi,h⟩:=main
  exact zp (by kernel_rfl) (hW _ h)
 ·have e:aR (jf x) 0=false:=by unfold aR;simpa using hz
  have hr:ca 187 [ag (eL x)] (Hh false false false ⟨0,fun i=>i.elim0⟩ 0 0 (ii (jf x))):=by
   refine ad8 x 0 _ ?_
   simp only [nD,hK1,hy1,e,Bool.not_false,cond_true]
   rw [JC];rfl
  exact zp (by kernel_rfl) hr
instance:Inhabited Y:=⟨⟨fun _=>0,fun _=>false,fun _=>⟨#[]⟩,fun _=>⟨0,fun i=>i.elim0⟩,fun _=>[]⟩⟩
def chY (a:Rw dC) (j:Nat):Y:=open Classical in if h:ou (a.at j) then (adQ (a.at j) h).choose else default
theorem abN {a:Rw dC} {j:Nat} (h:ou (a.at j)):(chY a j).i 6=jf (a.at j)∧∀ (ρ:Type) (K:Y→Option ρ),yC (aa O) 187 [ag (eL (a.at j))] K=K (chY a j):=by
 unfold chY
 rw [dif_pos h]
 exact (adQ (a.at j) h).choose_spec
def XQ (y:Y):List T:=[T.v (Go.Value.bool (y.b 0)),T.v (Go.Value.bool (y.b 1)),T.v (Go.Value.bool (y.b 2)),T.rows 1 (y.r 3).n (y.r 3).g,T.v (Go.Value.int Go.IntKind.i64 (y.i 4)),T.v (Go.Value.int Go.IntKind.i64 (y.i 5))]
def outs (a:Rw dC):Nat→bN
 | 0=>⟨0,fun i=>i.elim0⟩
 | 1=>⟨1,fun i=>List.take 6 (List.drop (i.1*6) (XQ (chY a 0)))⟩
 | j+2=>⟨bC (outs a (j+1)).n 1,bo (outs a (j+1)).g fun i:Fin 1=>List.take 6 (List.drop (i.1*6) (XQ (chY a (j+1))))⟩
theorem Ol (a:Rw dC):∀ j,(outs a j).n=j
 | 0=>rfl
 | 1=>rfl
 | j+2=>by
  show (outs a (j+1)).n+1=_
  rw [Ol a (j+1)]
def n4 (r:bN) (e:Int):S:=.bJ [.t (.rows 6 r.n r.g),ii e]
def MS (a:Rw dC) (m:Nat):Nat→Option S
 | 0=>(jV (aa O) a 8 m).x0
 | j+1=>(jV (aa O) a 8 m).x1 (outs a (j+1)) ((j+1:Nat):Int)
theorem Bv (g:Fin 0→List T):S.t (T.rows 6 0 g)=S.t (T.rows 6 (⟨0,fun i=>i.elim0⟩:bN).n (⟨0,fun i=>i.elim0⟩:bN).g):=by
 have:g=fun i=>i.elim0:=funext fun i=>i.elim0
 rw [this]
theorem ahi {n:Nat} (h:n≤8):bY (bC n 1) 48=true:=by
 unfold bY bC bE
 rw [Bool.and_eq_true,Nat.ble_eq,Nat.ble_eq];omega
theorem ako (a:Rw dC) (ha:ga ou a):∃ y:Y,y.i 1=ji a∧∀ (ρ:Type) (K:Y→Option ρ),yC (aa O) 153 [S.t (T.rows 4 a.n fun i=>eL (a.get i)),ii 8] K=K y:=by
 have fin:∀ (r:bN) (e:Int),ca 153 [S.t (T.rows 4 a.n fun i=>eL (a.get i)),ii 8] (n4 r e)→∃ y:Y,y.i 1=e∧∀ (ρ:Type) (K:Y→Option ρ),yC (aa O) 153 [S.t (T.rows 4 a.n fun i=>eL (a.get i)),ii 8] K=K y:=fun r e h=>by
  obtain ⟨y,h1,h2⟩:=iR (sh:=.bJ [.rows 6 0,.int .i64 1]) (y0:=⟨fun _=>e,fun _=>false,fun _=>⟨#[]⟩,fun _=>r,fun _=>[]⟩) (by kernel_rfl) h
  refine ⟨y,?_,h2⟩
  have:build y (.int .i64 1)=ii e:=by
   simp only [build,gb,S.bJ.injEq,List.cons.injEq] at h1
   exact h1.2.1
  simpa [build] using this
 by_cases hn:8 < a.n
 ·have e:bl (ay a.n) 8=true:=by rw [show bl (ay a.n) 8=decide (8 < a.n) from dO (k:=8)];simp [hn]
  have:ji a=3:=by unfold ji;rw [e];rfl
  rw [this]
  refine fin ⟨0,fun i=>i.elim0⟩ 3 (adw a 8 0 _ ?_)
  simp only [po,e,cond_true]
  rw [Bv];rfl
 ·have e:bl (ay a.n) 8=false:=by rw [show bl (ay a.n) 8=decide (8 < a.n) from dO (k:=8)];simp [hn]
  let g:Nat→Option S:=fun j=>bif !(aR (jf (a.at j)) 0) then some (n4 ⟨0,fun i=>i.elim0⟩ (jf (a.at j))) else none
  have step:∀ m j,j < a.n→MS a (m+1) j=(match g j with | some e=>some e | none=>MS a m (j+1)):=fun m j hj=>by
   obtain ⟨h1,h2⟩:=abN (a:=a) (j:=j) (ha.2 j hj)
   cases j with
   | zero=>
    show (jV (aa O) a 8 (m+1)).x0=_
    rw [jV]
    have hl:bm 0 (ay a.n)=true:=by
     show bm ((0:Nat):Int) (ay a.n)=true
     rw [aq];simpa using hj
    have he:∀ (K:(0:Int).toNat < a.n→Option S),aU (0:Int) a.n K=K (by simpa using hj):=fun K=>av (j:=0) hj
    have hg:a.get (Fin.mk (Int.ofNat 0).toNat (by simpa using hj))=a.at 0:=aK (j:=0)
    simp only [B2,zc,uc,hl,cond_true,he,hg,h2,h1,g]
    rw [Bv]
    cases aR (jf (a.at 0)) 0<;>rfl
   | succ i=>
    show (jV (aa O) a 8 (m+1)).x1 (outs a (i+1)) ((i+1:Nat):Int)=_
    rw [jV]
    have hf:bY (bC (outs a (i+1)).n 1) 48=true:=ahi (by rw [Ol];omega)
    simp only [B2,zN,uc,aq,hj,decide_true,cond_true,av hj,aK,h2,h1,g,hf,aA (show i+1 < 2 ^ 62 by omega)]
    rw [Bv]
    cases aR (jf (a.at (i+1))) 0<;>rfl
  have stop:∀ m,MS a (m+1) a.n=some (n4 (outs a a.n) 0):=fun m=>by
   have key:∀ k,k=a.n→MS a (m+1) k=some (n4 (outs a k) 0):=fun k hk=>by
    cases k with
    | zero=>
     show (jV (aa O) a 8 (m+1)).x0=_
     rw [jV]
     have hl:bm 0 (ay a.n)=false:=by
      show bm ((0:Nat):Int) (ay a.n)=false
      rw [aq,← hk];rfl
     simp only [B2,zc,hl,cond_false]
     rw [Bv];rfl
    | succ i=>
     show (jV (aa O) a 8 (m+1)).x1 (outs a (i+1)) ((i+1:Nat):Int)=_
     rw [jV]
     simp only [B2,zN,aq,← hk,Nat.lt_irrefl,decide_false,cond_false]
     rfl
   exact key a.n rfl
  have main:Ev (fun m=>MS a m 0) (((List.range a.n).findSome? g).getD (n4 (outs a a.n) 0)):=
   Ev.tR a.n g _ (fun j hj=>⟨fun e he=>Ev.succ ⟨0,fun m _=>by show MS a (m+1) j=_;rw [step m j hj,he]⟩,fun hn v hv=>Ev.succ (hv.of_eq fun m=>by rw [step m j hj,hn])⟩) (Ev.succ ⟨0,fun m _=>stop m⟩)
  have fe:∃ r,((List.range a.n).findSome? g).getD (n4 (outs a a.n) 0)=n4 r (ji a):=by
   have:ji a=bg a.n fun j=>jf (a.at j):=by unfold ji;rw [e];rfl
   rw [this]
   unfold bg
   generalize List.range a.n=l
   induction l with
   | nil=>exact ⟨_,rfl⟩
   | cons j l ih=>
    simp only [List.findSome?_cons,g]
    cases aR (jf (a.at j)) 0 with
    | true=>exact ih
    | false=>exact ⟨_,rfl⟩
  obtain ⟨r,hr⟩:=fe
  rw [hr] at main
  obtain ⟨n,h⟩:=main.get
  refine fin r _ (adw a 8 n _ ?_)
  show po (aa O) a 8 (F1 (jV (aa O) a 8 n))=_
  unfold po
  rw [e]
  exact h
theorem adA (a:Rw dC) (ha:ga ou a):ca 110 [S.t (T.rows 4 a.n fun i=>eL (a.get i))] (ii (ji a)):=by
 obtain ⟨y,hy,hK⟩:=ako a ha
 have hK':∀ (ρ:Type) (K:Y→Option ρ),yC (aa O) 153 [S.t (T.rows 4 a.n fun i=>eL (a.get i)),ii 8] K=K y:=hK
 exact aiA a 0 _ (by simp only [AX,hK',hy])
def vK {n:Nat} (g:Fin n→List T):Prop:=∀ i,∃ s,g i=[ts s]
theorem pB {n m:Nat} {g:Fin n→List T} {g':Fin m→List T} (h:vK g) (h':vK g'):vK (bo g g'):=fun i=>by
 unfold bo
 split
 ·exact h _
 ·exact h' _
theorem ID {n:Nat} {g:Fin n→List T} (h:vK g):∃ r:Rw ByteArray,r.n=n∧T.rows 1 n g=T.rows 1 r.n fun i=>[ts (r.get i)]:=by
 refine ⟨⟨n,fun i=>(h i).choose⟩,rfl,?_⟩
 have:g=fun i=>[ts (h i).choose]:=funext fun i=>(h i).choose_spec
 exact congrArg (T.rows 1 n) this
theorem DY (b:ByteArray):vK (fun i:Fin 1=>List.take 1 (List.drop (i.1*1) [T.v (Go.Value.string b)])):=fun i=>by
 refine ⟨b,?_⟩
 have e:i.1=0:=by have:=i.2;omega
 show List.take 1 (List.drop (i.1*1) _)=_
 rw [e];rfl
abbrev txS (r:Rw ByteArray):S:=S.t (T.rows 1 r.n fun i=>[ts (r.get i)])
theorem aeu (a:Rw ByteArray) (b:ByteArray) (ha:a.n < 2 ^ 62):ca 219 [txS a,ss b] (bb ((List.range a.n).any fun i=>ah (a.at i) b)):=by
 have L:=Ev.vO (X:=fun m j=>(pR (aa O) a b m).x0 ((j:Nat):Int)) 1 a.n (fun i=>ah (a.at i) b) (bb true) (fun m j hj=>by
  show (pR (aa O) a b (m+1)).x0 (j:Int)=_
  rw [pR]
  simp only [Ti,xJ,BB,aq,hj,decide_true,cond_true,av hj,aK,aA (show j < 2 ^ 62 by omega)])
 have key:Ev (fun m=>(pR (aa O) a b m).x0 ((0:Nat):Int)) (bb ((List.range a.n).any fun i=>ah (a.at i) b)):=by
  cases h:(List.range a.n).any fun i=>ah (a.at i) b with
  | true=>exact L.1 h
  | false=>
   refine L.2 h _ (Ev.one 1 fun m=>?_)
   show (pR (aa O) a b (m+1)).x0 ((a.n:Nat):Int)=_
   rw [pR]
   simp only [Ti,xJ,aq,Nat.lt_irrefl,decide_false,cond_false]
 obtain ⟨n,h⟩:=key.get
 exact ajA a b n _ h
theorem E8 {n:Nat} (h:n≤1000):bY n 16=true:=by
 unfold bY bE
 rw [Bool.and_eq_true,Nat.ble_eq,Nat.ble_eq];omega
def YC (a:Rw ByteArray) (b:ByteArray) (j:Nat) (hj:j≤a.n):Fin (j+1+(a.n - j))→List T:=
 bo (bo (fun i:Fin j=>[ts (a.get ⟨0+i.1,by have:=i.2;omega⟩)]) (fun i:Fin 1=>List.take 1 (List.drop (i.1*1) [T.v (Go.Value.string b)]))) (fun i:Fin (a.n - j)=>[ts (a.get ⟨j+i.1,by have:=i.2;omega⟩)])
theorem Lu (a:Rw ByteArray) (b:ByteArray) (j:Nat) (hj:j≤a.n):vK (YC a b j hj):=pB (pB (fun i=>⟨_,rfl⟩) (DY b)) (fun i=>⟨_,rfl⟩)
theorem aeA (a:Rw ByteArray) (b:ByteArray) (ha:a.n≤700):∃ r:Rw ByteArray,r.n≤a.n+1∧ca 220 [txS a,ss b] (txS r):=by
 have key:∀ k j,j+k=a.n→∃ (n:Nat) (g:Fin n→List T),n≤a.n+1∧vK g∧Ev (fun m=>(lZ (aa O) a b m).x0 ((j:Nat):Int)) (S.t (T.rows 1 n g)):=by
  intro k
  have tail:∀ j,j≤a.n→(bp 0 (j:Int) && bp (j:Int) (ay a.n))=true∧bp (ay a.n) (ay a.n)=true∧bY (cK (j:Int)) 16=true∧bY (bC (cK (j:Int)) 1) 16=true∧bY (bC (bC (cK (j:Int)) 1) (eM a.n (cK (j:Int)))) 16=true:=fun j hj=>by
   have h1:(bp 0 (j:Int) && bp (j:Int) (ay a.n))=true:=kC hj
   have h0:cK (j:Int)=j:=rfl
   refine ⟨h1,?_,E8 (by omega),E8 (by unfold bC;omega),E8 (by unfold bC eM;omega)⟩
   unfold bp;simp
  induction k with
  | zero=>
   intro j hj
   obtain rfl:j=a.n:=by omega
   obtain ⟨t1,t2,t3,t4,t5⟩:=tail a.n (Nat.le_refl _)
   have h:∃ (n:Nat) (g:Fin n→List T),n≤a.n+1∧vK g∧∀ X,mr (aa O) a b X ((a.n:Nat):Int)=some (S.t (T.rows 1 n g)):=by
    refine ⟨_,YC a b a.n (Nat.le_refl _),by omega,Lu _ _ _ _,fun X=>?_⟩
    simp only [mr,aq,Nat.lt_irrefl,decide_false,cond_false,t1,t2,t3,t4,t5,Bool.and_self,cond_true]
    rw [iQ (show 0+cK ((a.n:Nat):Int)≤a.n by show 0+a.n≤_;omega),iQ (show cK ((a.n:Nat):Int)+eM a.n (cK ((a.n:Nat):Int))≤a.n by show a.n+(a.n - a.n)≤_;omega)]
    rfl
   obtain ⟨n,g,h1,h2,h3⟩:=h
   refine ⟨n,g,h1,h2,Ev.one 1 fun m=>?_⟩
   show (lZ (aa O) a b (m+1)).x0 _=_
   rw [lZ]
   exact h3 _
  | succ k ih=>
   intro j hj
   have hj1:j < a.n:=by omega
   obtain ⟨t1,t2,t3,t4,t5⟩:=tail j (by omega)
   cases hlt:strLt (a.at j) b with
   | true=>
    obtain ⟨n,g,h1,h2,h3⟩:=ih (j+1) (by omega)
    refine ⟨n,g,h1,h2,Ev.succ (h3.of_eq fun m=>?_)⟩
    show (lZ (aa O) a b (m+1)).x0 _=_
    rw [lZ]
    simp only [NZ,mr,AE,aq,hj1,decide_true,cond_true,av hj1,aK,hlt,aA (show j < 2 ^ 62 by omega)]
   | false=>
    cases heq:ah (a.at j) b with
    | true=>
     refine ⟨a.n,fun i=>[ts (a.get i)],by omega,fun i=>⟨_,rfl⟩,Ev.one 1 fun m=>?_⟩
     show (lZ (aa O) a b (m+1)).x0 _=_
     rw [lZ]
     simp only [NZ,mr,aq,hj1,decide_true,cond_true,av hj1,aK,hlt,heq,cond_false]
    | false=>
     have h:∃ (n:Nat) (g:Fin n→List T),n≤a.n+1∧vK g∧∀ X,mr (aa O) a b X (j:Int)=some (S.t (T.rows 1 n g)):=by
      refine ⟨_,YC a b j (by omega),by omega,Lu _ _ _ _,fun X=>?_⟩
      simp only [mr,aq,hj1,decide_true,cond_true,av hj1,aK,hlt,heq,cond_false,t1,t2,t3,t4,t5,Bool.and_self]
      rw [iQ (show 0+cK (j:Int)≤a.n by show 0+j≤_;omega),iQ (show cK (j:Int)+eM a.n (cK (j:Int))≤a.n by show j+(a.n - j)≤_;omega)]
      rfl
     obtain ⟨n,g,h1,h2,h3⟩:=h
     refine ⟨n,g,h1,h2,Ev.one 1 fun m=>?_⟩
     show (lZ (aa O) a b (m+1)).x0 _=_
     rw [lZ]
     exact h3 _
 obtain ⟨n,g,h1,h2,h3⟩:=key a.n 0 (by omega)
 obtain ⟨r,hr,he⟩:=ID h2
 refine ⟨r,by omega,?_⟩
 obtain ⟨m,h⟩:=h3.get
 rw [he] at h
 exact ajC a b m _ h
theorem XT (b:ByteArray):∃ r:Rw ByteArray,r.n≤1∧ca 220 [S.t (T.v (.slice none 0 0)),ss b] (txS r):=by
 have h:∃ (n:Nat) (g:Fin n→List T),n≤1∧vK g∧Aj (aa O) b=some (S.t (T.rows 1 n g)):=by
  exact ⟨1,bo (bo (fun i:Fin 0=>i.elim0) (fun i:Fin 1=>List.take 1 (List.drop (i.1*1) [T.v (Go.Value.string b)]))) (fun i:Fin 0=>i.elim0),by decide,pB (pB (fun i=>i.elim0) (DY b)) (fun i=>i.elim0),rfl⟩
 obtain ⟨n,g,h1,h2,h3⟩:=h
 obtain ⟨r,hr,he⟩:=ID h2
 refine ⟨r,by omega,aej b 1 _ ?_⟩
 show uw (aa O) b (Ae (Am (aa O) b 1))=some (S.t (T.rows 1 r.n fun i=>[ts (r.get i)]))
 rw [← he]
 exact h3
theorem uV {f:FuncId} {args:List S} {r:Rw ByteArray} (hs:wh O.P f=some (.rows 1 0)) (h:ca f args (txS r)):∃ y:Y,S.t (T.rows 1 (y.r 0).n (y.r 0).g)=txS r∧∀ (ρ:Type) (K:Y→Option ρ),yC (aa O) f args K=K y:=by
 obtain ⟨y,h1,h2⟩:=iR (y0:=⟨fun _=>0,fun _=>false,fun _=>⟨#[]⟩,fun _=>⟨r.n,fun i=>[ts (r.get i)]⟩,fun _=>[]⟩) hs h
 exact ⟨y,h1,h2⟩
def rwT (r:Rw ByteArray):bN:=⟨r.n,fun i=>[ts (r.get i)]⟩
theorem xW {y:bN} {r:Rw ByteArray} (h:S.t (T.rows 1 y.n y.g)=txS r):y=rwT r:=by
 obtain ⟨n,g⟩:=y
 simp only [S.t.injEq,T.rows.injEq,true_and] at h
 obtain ⟨rfl,h⟩:=h
 have:=eq_of_heq h
 subst this
 rfl
theorem akg (a:Rw ByteArray) (ha:a.n≤600):∃ y:Y,∀ (ρ:Type) (K:Y→Option ρ),yC (aa O) 191 [txS a] K=K y:=by
 have key:∀ k j (r:Rw ByteArray),j+k=a.n→r.n≤j→∃ r':Rw ByteArray,Ev (fun m=>(j5 (aa O) a m).x1 (rwT r) ((j:Nat):Int)) (txS r'):=by
  intro k
  induction k with
  | zero=>
   intro j r hj hr
   obtain rfl:j=a.n:=by omega
   refine ⟨r,Ev.one 1 fun m=>?_⟩
   show (j5 (aa O) a (m+1)).x1 _ _=_
   rw [j5]
   simp only [Ds,Ba,aq,Nat.lt_irrefl,decide_false,cond_false]
   rfl
  | succ k ih=>
   intro j r hj hr
   have hj1:j < a.n:=by omega
   obtain ⟨r2,h1,h2⟩:=aeA r (a.at j) (by omega)
   obtain ⟨y,hy,hK⟩:=uV (by kernel_rfl) h2
   obtain ⟨r3,h3⟩:=ih (j+1) r2 (by omega) (by omega)
   refine ⟨r3,Ev.succ (h3.of_eq fun m=>?_)⟩
   show (j5 (aa O) a (m+1)).x1 _ _=_
   rw [j5]
   have hK':∀ (ρ:Type) (K:Y→Option ρ),yC (aa O) 220 [S.t (T.rows 1 (rwT r).n (rwT r).g),S.t (T.v (Go.Value.string (a.at j)))] K=K y:=hK
   simp only [Ds,Ba,tL,aq,hj1,decide_true,cond_true,av hj1,aK,hK',xW hy,aA (show j < 2 ^ 62 by omega)]
 have top:∃ r':Rw ByteArray,Ev (fun m=>(j5 (aa O) a m).x0) (txS r'):=by
  by_cases h0:0 < a.n
  ·obtain ⟨r2,h1,h2⟩:=XT (a.at 0)
   obtain ⟨y,hy,hK⟩:=uV (by kernel_rfl) h2
   obtain ⟨r3,h3⟩:=key (a.n - 1) 1 r2 (by omega) h1
   refine ⟨r3,Ev.succ (h3.of_eq fun m=>?_)⟩
   show (j5 (aa O) a (m+1)).x0=_
   rw [j5]
   have hl:bm 0 (ay a.n)=true:=by
    show bm ((0:Nat):Int) (ay a.n)=true
    rw [aq];simpa using h0
   have he:∀ (K:(0:Int).toNat < a.n→Option S),aU (0:Int) a.n K=K (by simpa using h0):=fun K=>av (j:=0) h0
   have hg:a.get (Fin.mk (Int.ofNat 0).toNat (by simpa using h0))=a.at 0:=aK (j:=0)
   simp only [Ds,Ao,tL,hl,cond_true,he,hg,hK,xW hy]
   rfl
  ·refine ⟨⟨0,fun i=>i.elim0⟩,Ev.one 1 fun m=>?_⟩
   show (j5 (aa O) a (m+1)).x0=_
   rw [j5]
   have hl:bm 0 (ay a.n)=false:=by
    show bm ((0:Nat):Int) (ay a.n)=false
    rw [aq];simpa using h0
   simp only [Ds,Ao,hl,cond_false]
   have:∀ g g':Fin 0→List T,S.t (T.rows 1 0 g)=S.t (T.rows 1 0 g'):=fun g g'=>by rw [show g=g' from funext fun i=>i.elim0]
   exact congrArg some (this _ _)
 obtain ⟨r,h⟩:=top
 obtain ⟨n,h⟩:=h.get
 obtain ⟨y,_,hK⟩:=uV (by kernel_rfl) (ajD a n _ h)
 exact ⟨y,hK⟩
theorem adU (b:ByteArray):ca 219 [S.t (T.v (.slice none 0 0)),ss b] (bb false):=agT b 1 _ rfl
theorem aft (lo hi:Int) (h1 : -2147483648≤lo) (h2:lo≤2147483649) (h3 : -2147483649≤hi) (h4:hi≤2147483648):∃ y:Y,∀ (ρ:Type) (K:Y→Option ρ),yC (aa O) 192 [ii lo,ii hi,S.t (T.v (.slice none 0 0))] K=K y:=by
 have dec:∀ n:Int,-2147483648≤n→n≤2147483648→∃ y:Y,∀ (ρ:Type) (K:Y→Option ρ),yC (aa O) 193 [ii n] K=K y:=fun n a b=>by
  obtain ⟨y,_,hK⟩:=yq (by kernel_rfl) (c193 n (by omega))
  exact ⟨y,hK⟩
 have r_:∀ b:ByteArray,∃ y:Y,y.b 0=false∧∀ (ρ:Type) (K:Y→Option ρ),yC (aa O) 219 [S.t (T.v (.slice none 0 0)),ss b] K=K y:=fun b=>aB (by kernel_rfl) (adU b)
 have any:∀ (r:Rw ByteArray) (b:ByteArray),r.n < 2 ^ 62→∃ y:Y,∀ (ρ:Type) (K:Y→Option ρ),yC (aa O) 219 [S.t (T.rows 1 (rwT r).n (rwT r).g),ss b] K=K y:=fun r b h=>by
  obtain ⟨y,_,hK⟩:=aB (by kernel_rfl) (aeu r b h)
  exact ⟨y,hK⟩
 have wr:∀ (k:Nat) (n:Int) (r:Rw ByteArray),n+k=hi+1 → -2147483648≤n→r.n+k≤600→∃ y:Y,Ev (fun m=>(da (aa O) lo hi m).x4 (rwT r) hi n) (build y mm):=by
  intro k
  induction k with
  | zero=>
   intro n r hn h0 hr
   obtain ⟨z,hz⟩:=qE false false false (rwT r) 0 0 true
   refine ⟨z,Ev.succ ⟨0,fun m _=>?_⟩⟩
   show (da (aa O) lo hi (m+1)).x4 (rwT r) hi n=_
   rw [da]
   have e:bp n hi=false:=by unfold bp;rw [decide_eq_false_iff_not];omega
   simp only [lv,sr,e,cond_false]
   rw [hz];rfl
  | succ k ih=>
   intro n r hn h0 hr
   obtain ⟨y,hK⟩:=dec n h0 (by omega)
   obtain ⟨y2,hy2,hK2⟩:=r_ (y.s 0)
   obtain ⟨r2,q1,q2⟩:=aeA r (y.s 0) (by omega)
   obtain ⟨y3,hy3,hK3⟩:=uV (by kernel_rfl) q2
   obtain ⟨z,hz⟩:=ih (n+1) r2 (by omega) (by omega) (by omega)
   refine ⟨z,Ev.succ (hz.of_eq fun m=>?_)⟩
   rw [da]
   have e:bp n hi=true:=by unfold bp;rw [decide_eq_true_eq];omega
   have e2:a7 .i64 n 1=n+1:=i64 (n:=n+1) (by omega) (by omega)
   have hK3':∀ (ρ:Type) (K:Y→Option ρ),yC (aa O) 220 [S.t (T.rows 1 (rwT r).n (rwT r).g),S.t (T.v (Go.Value.string (y.s 0)))] K=K y3:=hK3
   simp only [lv,sr,oZ,e,cond_true,hK,hK2,hy2,Bool.not_false,hK3',xW hy3,e2]
 obtain ⟨y,hy⟩:∃ y:Y,Ev (fun m=>(da (aa O) lo hi m).x2 lo hi) (build y mm):=by
  have e1:bF .i64 (a7 .i64 (bF .i64 hi lo) 1) (ay 0)=hi - lo+1:=by
   unfold bF a7
   rw [i64 (n:=hi - lo) (by omega) (by omega)]
   show IntKind.i64.wrap (IntKind.i64.wrap (hi - lo+1) - 0)=_
   rw [i64 (n:=hi - lo+1) (by omega) (by omega),i64 (by omega) (by omega)];omega
  by_cases hm:hi - lo+1 > 64
  ·obtain ⟨z,hz⟩:=qE false true true ⟨0,fun i=>i.elim0⟩ lo hi true
   refine ⟨z,Ev.succ ⟨0,fun m _=>?_⟩⟩
   show (da (aa O) lo hi (m+1)).x2 lo hi=_
   rw [da]
   have e:bp (hi - lo+1) 64=false:=by
    unfold bp;rw [decide_eq_false_iff_not]
    show ¬ (hi - lo+1≤64)
    omega
   simp only [lv,sb,e1,e,cond_false]
   rw [JC,hz];rfl
  ·have e:bp (hi - lo+1) 64=true:=by
    unfold bp;rw [decide_eq_true_eq]
    show hi - lo+1≤64
    omega
   suffices h:∃ y:Y,Ev (fun m=>(da (aa O) lo hi m).x3 hi lo) (build y mm) by
    obtain ⟨y,hy⟩:=h
    refine ⟨y,Ev.succ (hy.of_eq fun m=>?_)⟩
    rw [da]
    simp only [lv,sb,sD,e1,e,cond_true]
   by_cases hl:hi < lo
   ·obtain ⟨z,hz⟩:=qE false false false ⟨0,fun i=>i.elim0⟩ 0 0 true
    refine ⟨z,Ev.succ ⟨0,fun m _=>?_⟩⟩
    show (da (aa O) lo hi (m+1)).x3 hi lo=_
    rw [da]
    have e:bp lo hi=false:=by unfold bp;rw [decide_eq_false_iff_not];omega
    simp only [lv,sd,e,cond_false]
    rw [JC,hz];rfl
   ·obtain ⟨y,hK⟩:=dec lo h1 (by omega)
    obtain ⟨y2,hy2,hK2⟩:=r_ (y.s 0)
    obtain ⟨r2,q1,q2⟩:=XT (y.s 0)
    obtain ⟨y3,hy3,hK3⟩:=uV (by kernel_rfl) q2
    obtain ⟨z,hz⟩:=wr (hi - lo).toNat (lo+1) r2 (by omega) (by omega) (by omega)
    refine ⟨z,Ev.succ (hz.of_eq fun m=>?_)⟩
    rw [da]
    have e:bp lo hi=true:=by unfold bp;rw [decide_eq_true_eq];omega
    have e2:a7 .i64 lo 1=lo+1:=i64 (n:=lo+1) (by omega) (by omega)
    simp only [lv,sd,oZ,e,cond_true,hK,hK2,hy2,Bool.not_false,hK3,xW hy3,e2]
 have s1:∀ m,(da (aa O) lo hi (m+1)).x1 lo hi=(da (aa O) lo hi m).x2 lo hi:=fun m=>by
  rw [da]
  simp only [lv,zW,zb]
  cases e:bp lo hi with
  | false=>rfl
  | true=>
   obtain ⟨y,hK⟩:=dec hi (by unfold bp at e;rw [decide_eq_true_eq] at e;omega) h4
   obtain ⟨y2,hy2,hK2⟩:=r_ (y.s 0)
   rw [cond_true,hK,hK2,hy2];rfl
 have s0:∀ m,(da (aa O) lo hi (m+1)).x0 lo=(da (aa O) lo hi m).x1 lo hi:=fun m=>by
  rw [da]
  simp only [lv,A5,sE]
  cases e:bp lo hi with
  | false=>rfl
  | true=>
   obtain ⟨y,hK⟩:=dec lo h1 (by unfold bp at e;rw [decide_eq_true_eq] at e;omega)
   obtain ⟨y2,hy2,hK2⟩:=r_ (y.s 0)
   rw [cond_true,hK,hK2,hy2];rfl
 have key:Ev (fun m=>(da (aa O) lo hi m).x0 lo) (build y mm):=Ev.add 2 (hy.of_eq fun m=>by
  show (da (aa O) lo hi (m+2)).x0 lo=_
  rw [s0,s1])
 obtain ⟨n,h⟩:=key.get
 exact FQ (sh:=mm) (y0:=y) (by kernel_rfl) (adi lo hi n _ h)
theorem Ev.bif {α:Type} {g g1 g2:Nat→Option α} {v1 v2:α} (c:Bool) (h:∀ m,g m=bif c then g1 m else g2 m) (h1:c=true→Ev g1 v1) (h2:c=false→Ev g2 v2):Ev g (bif c then v1 else v2):=by
 cases c with
 | true=>exact (h1 rfl).of_eq h
 | false=>exact (h2 rfl).of_eq h
theorem aj2 (x:dC) (hx:ou x):ca 190 [ag (eL x)] (ii (jf x)):=by
 have hn:=cF hx.2.1
 obtain ⟨y1,hy1,hK1⟩:=aB (by kernel_rfl) (vW x.aZ hx.1)
 have L7:Ev (fun m=>(cn (aa O) x m).x7 ((0:Nat):Int)) (ii (bif Ir x.aL then 6 else 0)):=by
  have L:=Ev.vO (X:=fun m j=>(cn (aa O) x m).x7 ((j:Nat):Int)) 1 x.aL.n (fun j=>(List.range j).any fun i=>ah (x.aL.at i) (x.aL.at j)) (ii 6) (fun m j hj=>by
   show (cn (aa O) x (m+1)).x7 (j:Int)=_
   rw [cn]
   let s:Rw ByteArray:=⟨j,fun i=>x.aL.get ⟨0+i.1,by have:=i.2;omega⟩⟩
   have hs:(List.range s.n).any (fun i=>ah (s.at i) (x.aL.at j))=(List.range j).any fun i=>ah (x.aL.at i) (x.aL.at j):=by
    have e:∀ i,i < j→s.at i=x.aL.at i:=fun i hi=>by
     unfold Rw.at
     rw [dif_pos (show i < s.n from hi),dif_pos (by omega)]
     show x.aL.get ⟨0+i,_⟩=_
     congr 1
     exact Fin.ext (Nat.zero_add i)
    show (List.range j).any _=_
    rw [Bool.eq_iff_iff,List.any_eq_true,List.any_eq_true]
    exact ⟨fun ⟨i,hi,h⟩=>⟨i,hi,by rw [← e i (List.mem_range.1 hi)];exact h⟩,fun ⟨i,hi,h⟩=>⟨i,hi,by rw [e i (List.mem_range.1 hi)];exact h⟩⟩
   obtain ⟨y,hy,hK⟩:=aB (by kernel_rfl) (aeu s (x.aL.at j) (by show j < _;omega))
   have hK':∀ (K:Y→Option S),yC (aa O) 219 [S.t (T.rows 1 (cK (j:Int)) fun i=>[T.v (Go.Value.string (x.aL.get (Fin.mk (0+i.1) (by have:=i.2;have:cK (j:Int)=j:=rfl;omega))))]),S.t (T.v (Go.Value.string (x.aL.at j)))] K=K y:=fun K=>hK S K
   have e0:(bp 0 (j:Int) && bp (j:Int) (ay x.aL.n))=true:=kC (Nat.le_of_lt hj)
   simp only [nU,xP,ur,aq,hj,decide_true,cond_true,e0,av hj,aK,aA (show j < 2 ^ 62 by omega)]
   rw [iQ (show 0+cK (j:Int)≤x.aL.n by show 0+j≤_;omega),hK',hy,hs])
  unfold Ir
  cases h:(List.range x.aL.n).any (fun j=>(List.range j).any fun i=>ah (x.aL.at i) (x.aL.at j)) with
  | true=>exact L.1 h
  | false=>
   refine L.2 h _ (Ev.one 1 fun m=>?_)
   show (cn (aa O) x (m+1)).x7 _=_
   rw [cn]
   simp only [nU,xP,aq,Nat.lt_irrefl,decide_false,cond_false]
 have L6:Ev (fun m=>(cn (aa O) x m).x6 ((0:Nat):Int)) (ii (bif (List.range x.aL.n).any (fun j=>!jr (x.aL.at j)) then 20 else bif Ir x.aL then 6 else 0)):=by
  have L:=Ev.vO (X:=fun m j=>(cn (aa O) x m).x6 ((j:Nat):Int)) 1 x.aL.n (fun j=>!jr (x.aL.at j)) (ii 20) (fun m j hj=>by
   show (cn (aa O) x (m+1)).x6 (j:Int)=_
   rw [cn]
   obtain ⟨y,hy,hK⟩:=aB (by kernel_rfl) (UK (x.aL.at j) (hx.2.2 j hj))
   simp only [nU,xD,ta,aq,hj,decide_true,cond_true,av hj,aK,hK,hy,aA (show j < 2 ^ 62 by omega)])
  cases h:(List.range x.aL.n).any (fun j=>!jr (x.aL.at j)) with
  | true=>exact L.1 h
  | false=>
   refine L.2 h _ (Ev.succ (L7.of_eq fun m=>?_))
   show (cn (aa O) x (m+1)).x6 _=_
   rw [cn]
   simp only [nU,xD,ur,aq,Nat.lt_irrefl,decide_false,cond_false]
   rfl
 have L5:∀ b,Ev (fun m=>(cn (aa O) x m).x5 b) (ii (bif b || bl x.fN 2147483648 then 30 else mw x.aL)):=fun b=>by
  refine Ev.succ ?_
  have e:bl x.fN 2147483648=bl x.fN 2147483648:=rfl
  have e8:bl (ay x.aL.n) 8=bl (ay x.aL.n) 8:=rfl
  cases hb:b || bl x.fN 2147483648 with
  | true=>
   refine ⟨0,fun m _=>?_⟩
   show (cn (aa O) x (m+1)).x5 b=_
   rw [cn]
   simp only [nU,uk,e]
   cases b with
   | true=>rfl
   | false=>rw [Bool.false_or] at hb;rw [hb];rfl
  | false=>
   rw [Bool.or_eq_false_iff] at hb
   unfold mw
   cases h8:bl (ay x.aL.n) 8 with
   | true=>
    refine ⟨0,fun m _=>?_⟩
    show (cn (aa O) x (m+1)).x5 b=_
    rw [cn]
    simp only [nU,uk,e,e8,hb.1,hb.2,h8,cond_false,cond_true]
   | false=>
    refine L6.of_eq fun m=>?_
    rw [cn]
    simp only [nU,uk,ta,e,e8,hb.1,hb.2,h8,cond_false]
    rfl
 have L4:∀ b,Ev (fun m=>(cn (aa O) x m).x4 b) (ii (bif b || (bm x.fN (-2147483648) || bl x.fN 2147483648) then 30 else mw x.aL)):=fun b=>by
  refine Ev.succ ?_
  cases b with
  | true=>
   refine (L5 true).of_eq fun m=>?_
   rw [cn];rfl
  | false=>
   refine (L5 (bm x.fN (-2147483648))).of_eq fun m=>?_
   rw [cn];rfl
 have L3:∀ b num,Ev (fun m=>(cn (aa O) x m).x3 b num) (ii (bif b || ((!num && !aR x.fN 0) || (bm x.fN (-2147483648) || bl x.fN 2147483648)) then 30 else mw x.aL)):=fun b num=>by
  refine Ev.succ ?_
  cases b with
  | true=>
   refine (L4 true).of_eq fun m=>?_
   rw [cn];rfl
  | false=>
   cases num with
   | true=>
    refine (L4 false).of_eq fun m=>?_
    rw [cn];rfl
   | false=>
    refine (L4 (!aR x.fN 0)).of_eq fun m=>?_
    rw [cn];rfl
 have L2:∀ ia num b,Ev (fun m=>(cn (aa O) x m).x2 ia num b) (ii (bif b || (!r9 ia (bl (ay x.aL.n) 0) || ((!num && !aR x.fN 0) || (bm x.fN (-2147483648) || bl x.fN 2147483648))) then 30 else mw x.aL)):=fun ia num b=>by
  refine Ev.succ ?_
  cases b with
  | true=>
   refine (L3 true num).of_eq fun m=>?_
   rw [cn];rfl
  | false=>
   refine (L3 (!r9 ia (bl (ay x.aL.n) 0)) num).of_eq fun m=>?_
   rw [cn];rfl
 have L1:∀ ia num,Ev (fun m=>(cn (aa O) x m).x1 ia num) (ii (bif (bm x.cz 1 || bl x.cz 6) || (!r9 ia (bl (ay x.aL.n) 0) || ((!num && !aR x.fN 0) || (bm x.fN (-2147483648) || bl x.fN 2147483648))) then 30 else mw x.aL)):=fun ia num=>by
  refine Ev.succ ?_
  refine (L2 ia num (bm x.cz 1 || bl x.cz 6)).of_eq fun m=>?_
  rw [cn]
  generalize cn (aa O) x m=X
  simp only [nU,Hb,ER]
  have e1:bm x.cz 1=bm x.cz 1:=rfl
  have e2:bl x.cz 6=bl x.cz 6:=rfl
  rw [e1,e2]
  cases bm x.cz 1<;>rfl
 have L0:∀ ia,Ev (fun m=>(cn (aa O) x m).x0 ia) (ii (bif (bm x.cz 1 || bl x.cz 6) || (!r9 ia (bl (ay x.aL.n) 0) || ((!(aR x.cz 5 || aR x.cz 6) && !aR x.fN 0) || (bm x.fN (-2147483648) || bl x.fN 2147483648))) then 30 else mw x.aL)):=fun ia=>by
  refine Ev.succ ?_
  refine (L1 ia (aR x.cz 5 || aR x.cz 6)).of_eq fun m=>?_
  rw [cn]
  generalize cn (aa O) x m=X
  simp only [nU,Gp,Hw]
  have e1:aR x.cz 5=aR x.cz 5:=rfl
  have e2:aR x.cz 6=aR x.cz 6:=rfl
  rw [e1,e2]
  cases aR x.cz 5<;>rfl
 have top:Ev (fun m=>pQ (aa O) x (xH (cn (aa O) x m))) (ii (jf x)):=by
  unfold jf tm
  cases hk:ba x.aZ with
  | false=>
   refine ⟨0,fun m _=>?_⟩
   simp only [pQ,hK1,hy1,hk]
   rfl
  | true=>
   refine (L0 (aR x.cz 1 || aR x.cz 2)).of_eq fun m=>?_
   simp only [pQ,hK1,hy1,hk]
   generalize cn (aa O) x m=X
   simp only [xH]
   have e1:aR x.cz 1=aR x.cz 1:=rfl
   have e2:aR x.cz 2=aR x.cz 2:=rfl
   rw [e1,e2]
   cases aR x.cz 1<;>rfl
 obtain ⟨n,h⟩:=top.get
 exact ajm x n _ h
theorem c162 (x:dC) (hx:ou x):∃ y:Y,y.i 6=jf x∧∀ (ρ:Type) (K:Y→Option ρ),yC (aa O) 162 [ag (eL x)] K=K y:=by
 obtain ⟨y1,hy1,hK1⟩:=aN (by kernel_rfl) (aj2 x hx)
 by_cases hz:jf x=0
 ·obtain ⟨ho,hr⟩:=ag7 hz
  have hn:=Xv hr
  obtain ⟨h0,h1⟩:=Cv ho
  obtain ⟨y2,hK2⟩:=akg x.aL (by omega)
  have a1:a7 .i64 x.fN 1=x.fN+1:=i64 (n:=x.fN+1) (by omega) (by omega)
  have a2:bF .i64 x.fN 1=x.fN - 1:=i64 (n:=x.fN - 1) (by omega) (by omega)
  obtain ⟨y5,hK5⟩:=aft (x.fN+1) 2147483648 (by omega) (by omega) (by decide) (by decide)
  obtain ⟨y6,hK6⟩:=aft (-2147483648) (x.fN - 1) (by decide) (by decide) (by omega) (by omega)
  have hK6':∀ (ρ:Type) (K:Y→Option ρ),yC (aa O) 192 [ii (Int.negSucc 2147483647),ii (x.fN - 1),S.t (T.v (.slice none 0 0))] K=K y6:=hK6
  have hK5':∀ (ρ:Type) (K:Y→Option ρ),yC (aa O) 192 [ii (x.fN+1),ii 2147483648,S.t (T.v (.slice none 0 0))] K=K y5:=hK5
  have e0:aR (0:Int) 0=true:=rfl
  have hW:∀ v,ng (aa O) x=some v→ca 162 [ag (eL x)] v:=fun v h=>agN x 0 v h
  rw [hz]
  have main:∃ b0 b1 b2 r lo hi,ng (aa O) x=some (Hh b0 b1 b2 r lo hi (ii 0)):=by
   simp only [ng,hK1,hy1,hz,e0,Bool.not_true,cond_false,hK2,a1,a2,hK5',hK6']
   cases aR x.cz 1 with
   | true=>exact ⟨_,_,_,_,_,_,rfl⟩
   | false=>
    cases aR x.cz 2 with
    | true=>exact ⟨_,_,_,_,_,_,rfl⟩
    | false=>
     cases aR x.cz 3 with
     | true=>exact ⟨_,_,_,⟨0,_⟩,_,_,rfl⟩
     | false=>
      cases aR x.cz 4 with
      | true=>exact ⟨_,_,_,⟨0,_⟩,_,_,rfl⟩
      | false=>
       cases aR x.cz 5 with
       | true=>exact ⟨_,_,_,_,_,_,rfl⟩
       | false=>exact ⟨_,_,_,_,_,_,rfl⟩
  obtain ⟨b0,b1,b2,r,lo,hi,h⟩:=main
  exact zp (by kernel_rfl) (hW _ h)
 ·have e:aR (jf x) 0=false:=by unfold aR;simpa using hz
  have hr:ca 162 [ag (eL x)] (Hh false false false ⟨0,fun i=>i.elim0⟩ 0 0 (ii (jf x))):=by
   refine agN x 0 _ ?_
   simp only [ng,hK1,hy1,e,Bool.not_false,cond_true]
   rw [JC];rfl
  exact zp (by kernel_rfl) hr
theorem air (a:Rw dC) (ha:ga ou a):ca 128 [S.t (T.rows 4 a.n fun i=>eL (a.get i))] (ii (bg a.n fun j=>jf (a.at j))):=by
 have hn:=cF ha.1
 have key:=Ev.jc (X:=fun m j=>(rC (aa O) a m).x0 ((j:Nat):Int)) 1 a.n (fun j=>jf (a.at j)) (fun m j hj=>by
  obtain ⟨y,hy,hK⟩:=c162 (a.at j) (ha.2 j hj)
  show (rC (aa O) a (m+1)).x0 (j:Int)=_
  rw [rC]
  simp only [QE,zy,zI,aq,hj,decide_true,cond_true,av hj,aK,hK,hy,aA (show j < 2 ^ 62 by omega)]) (fun m=>by
  show (rC (aa O) a (m+1)).x0 (a.n:Int)=_
  rw [rC]
  simp only [QE,zy,aq,Nat.lt_irrefl,decide_false,cond_false])
 obtain ⟨n,h⟩:=key.get
 exact ait a n _ h
theorem c72 (a:Rw dC) (ha:ga ou a):ca 72 [S.t (T.rows 4 a.n fun i=>eL (a.get i))] (ii (ji a)):=by
 obtain ⟨y,hy,hK⟩:=aN (by kernel_rfl) (air a ha)
 refine W72 a 0 _ ?_
 have e8:bl (ay a.n) 8=bl (ay a.n) 8:=rfl
 unfold ji
 simp only [HT,e8,hK,hy]
 cases bl (ay a.n) 8<;>rfl
end
end Go.Proofs.YtonkoellfaopiaaGreatDoor.H

namespace Go.Proofs.YtonkoellfaopiaaGreatDoor.H
open Go
noncomputable section
def aC (b:Bool) (e:Int):Int:=bif b then 0 else e
theorem l5 (b:Bool) (e:Int):∃ y:Y,y.i 0=aC b e∧∀ (ρ:Type) (K:Y→Option ρ),yC (aa O) 108 [bb b,ii e] K=K y:=aN (by kernel_rfl) (MQ b e)
theorem Qm (l:List Int) (hl:l.length < 2 ^ 62):∃ y:Y,y.i 0=dw l∧∀ (ρ:Type) (K:Y→Option ρ),yC (aa O) 107 [S.t (T.rows 1 l.length fun i=>List.take 1 (List.drop (i.1*1) (l.map ti)))] K=K y:=aN (by kernel_rfl) (c107 l hl)
theorem gI (a b:Int) (l:List Int):dw (a::b::l)=bq a (dw (b::l)):=rfl
structure ML (a:fU):Prop where
 name:sm (aM a.af)
 reqs:ga ou a.cg
 OU:ga yn a.bW
def JY (a:fU):Bool:=within a.dB 0 1099511627776 && (within a.iM 0 1073741824 && (cT a.cC 0 && (bp a.cC 16 && (cT a.cH 0 && bp a.cH 2))))
def rM (a:fU):Int:=bq (aC (ba a.af) 7) (bq (aC (within a.bt 0 100) 1) (bq (kl a.cY a.c_) (bq (ji a.cg) (bq (lF a.bW) (aC (JY a) 1)))))
theorem Ck (a:Int):bq a 0=a:=by
 unfold bq
 cases h:aR a 0 with
 | false=>rfl
 | true=>exact (cJ.1 h).symm
theorem iu (a:Int):dw [a]=a:=Ck a
theorem c61 (a:fU) (ha:ML a):ca 61 [ag (jd a)] (ii (rM a)):=by
 have h5:∀ m v16 v22 v25 v19 v7 b,(iw (aa O) a (m+1)).x5 v16 v22 v25 v19 v7 b=some (ii (dw [v7,v16,v19,v22,v25,aC b 1])):=fun m v16 v22 v25 v19 v7 b=>by
  obtain ⟨y,hy,hK⟩:=l5 b 1
  obtain ⟨z,hz,hL⟩:=Qm [v7,v16,v19,v22,v25,aC b 1] (show (6:Nat) < 2 ^ 62 by decide)
  have hL:∀ (ρ:Type) (K:Y→Option ρ),yC (aa O) 107 [S.t (T.rows 1 6 fun i=>List.take 1 (List.drop (i.1*1) [ti v7,ti v16,ti v19,ti v22,ti v25,ti (aC b 1)]))] K=K z:=hL
  simp only [iw,Y1,SX,hK,hy,hL,hz]
 have h4:∀ m v16 v22 v25 v19 v7 b,(iw (aa O) a (m+2)).x4 v16 v22 v25 v19 v7 b=some (ii (dw [v7,v16,v19,v22,v25,aC (b && bp a.cH 2) 1])):=fun m v16 v22 v25 v19 v7 b=>by
  have:=h5 m
  rw [iw]
  generalize iw (aa O) a (m+1)=X at this ⊢
  cases b<;>exact this _ _ _ _ _ _
 have h3:∀ m v16 v22 v25 v19 v7 b,(iw (aa O) a (m+3)).x3 v16 v22 v25 v19 v7 b=some (ii (dw [v7,v16,v19,v22,v25,aC (b && (cT a.cH 0 && bp a.cH 2)) 1])):=fun m v16 v22 v25 v19 v7 b=>by
  have:=h4 m
  rw [iw]
  generalize iw (aa O) a (m+2)=X at this ⊢
  cases b<;>exact this _ _ _ _ _ _
 have h2:∀ m v16 v22 v25 v19 v7 b,(iw (aa O) a (m+4)).x2 v16 v22 v25 v19 v7 b=some (ii (dw [v7,v16,v19,v22,v25,aC (b && (bp a.cC 16 && (cT a.cH 0 && bp a.cH 2))) 1])):=fun m v16 v22 v25 v19 v7 b=>by
  have:=h3 m
  rw [iw]
  generalize iw (aa O) a (m+3)=X at this ⊢
  cases b<;>exact this _ _ _ _ _ _
 have h1:∀ m v16 v22 v25 v19 v7 b,(iw (aa O) a (m+5)).x1 v16 v22 v25 v19 v7 b=some (ii (dw [v7,v16,v19,v22,v25,aC (b && (cT a.cC 0 && (bp a.cC 16 && (cT a.cH 0 && bp a.cH 2)))) 1])):=fun m v16 v22 v25 v19 v7 b=>by
  have:=h2 m
  rw [iw]
  generalize iw (aa O) a (m+4)=X at this ⊢
  cases b<;>exact this _ _ _ _ _ _
 have h0:∀ m v7 b,(iw (aa O) a (m+6)).x0 v7 b=some (ii (dw [v7,aC b 1,kl a.cY a.c_,ji a.cg,lF a.bW,aC (JY a) 1])):=fun m v7 b=>by
  obtain ⟨y,hy,hK⟩:=l5 b 1
  obtain ⟨y1,hy1,hK1⟩:=aN (by kernel_rfl) (G7 a.cY a.c_)
  obtain ⟨y2,hy2,hK2⟩:=aN (by kernel_rfl) (adA a.cg ha.reqs)
  obtain ⟨y3,hy3,hK3⟩:=aN (by kernel_rfl) (ajS a.bW ha.OU)
  obtain ⟨y4,hy4,hK4⟩:=aB (by kernel_rfl) (Mt a.dB 0 1099511627776)
  obtain ⟨y5,hy5,hK5⟩:=aB (by kernel_rfl) (Mt a.iM 0 1073741824)
  have:=h1 m
  rw [iw]
  generalize iw (aa O) a (m+5)=X at this ⊢
  simp only [Y1,TC,hK,hK1,hK2,hK3,hK4,hK5,hy,hy1,hy2,hy3,hy4,hy5,O4,this]
  unfold JY
  cases within a.dB 0 1099511627776<;>rfl
 obtain ⟨y,hy,hK⟩:=YR ha.name
 obtain ⟨z,hz,hL⟩:=l5 (ba a.af) 7
 refine W61 a 6 _ ?_
 have e:xX (aa O) a (Jz (iw (aa O) a 6))=(iw (aa O) a 6).x0 (aC (ba a.af) 7) (within a.bt 0 100):=by
  simp only [xX,hK,hy,hL,hz,Jz]
  unfold within
  cases cT a.bt 0<;>rfl
 rw [e,h0 0]
 simp only [gI,iu]
 rfl
theorem c34 (a:fU) (ha:ML a):ca 34 [ag (jd a)] (ii (rM a)):=by
 obtain ⟨y,hy,hK⟩:=aB (by kernel_rfl) (vW a.af ha.name)
 obtain ⟨y1,hy1,hK1⟩:=aN (by kernel_rfl) (c49 a.cY a.c_)
 obtain ⟨y2,hy2,hK2⟩:=aN (by kernel_rfl) (c72 a.cg ha.reqs)
 obtain ⟨y3,hy3,hK3⟩:=aN (by kernel_rfl) (c73 a.bW ha.OU)
 obtain ⟨y4,hy4,hK4⟩:=aB (by kernel_rfl) (c74 a.dB 0 1099511627776)
 obtain ⟨y5,hy5,hK5⟩:=aB (by kernel_rfl) (c74 a.iM 0 1073741824)
 have h3:∀ m b,(m_ (aa O) a (m+1)).x3 b=some (ii (aC (!b && bp a.cH 2) 1)):=fun m b=>by
  simp only [m_,agk,QQ,ez]
  unfold aC
  cases b<;>cases bp a.cH 2<;>rfl
 have h2:∀ m b,(m_ (aa O) a (m+2)).x2 b=some (ii (aC (!b && (cT a.cH 0 && bp a.cH 2)) 1)):=fun m b=>by
  have:=h3 m
  rw [m_]
  generalize m_ (aa O) a (m+1)=X at this ⊢
  cases b with
  | true=>exact this _
  | false=>
   refine (this (bm a.cH 0)).trans ?_
   rw [iB,Bool.not_not]
   rfl
 have h1:∀ m b,(m_ (aa O) a (m+3)).x1 b=some (ii (aC (!b && (bp a.cC 16 && (cT a.cH 0 && bp a.cH 2))) 1)):=fun m b=>by
  have:=h2 m
  rw [m_]
  generalize m_ (aa O) a (m+2)=X at this ⊢
  cases b with
  | true=>exact this _
  | false=>
   refine (this (bl a.cC 16)).trans ?_
   rw [ez,Bool.not_not]
   rfl
 have h0:∀ m b,(m_ (aa O) a (m+4)).x0 b=some (ii (aC (!b && (cT a.cC 0 && (bp a.cC 16 && (cT a.cH 0 && bp a.cH 2)))) 1)):=fun m b=>by
  have:=h1 m
  rw [m_]
  generalize m_ (aa O) a (m+3)=X at this ⊢
  cases b with
  | true=>exact this _
  | false=>
   refine (this (bm a.cC 0)).trans ?_
   rw [iB,Bool.not_not]
   rfl
 refine W34 a 4 _ ?_
 simp only [Fy,hK,hK1,hK2,hK3,hK4,hK5,hy,hy1,hy2,hy3,hy4,hy5,S6,h0,iB,ez]
 unfold rM JY
 generalize within a.dB 0 1099511627776=g
 generalize within a.iM 0 1073741824=x
 generalize (cT a.cC 0 && (bp a.cC 16 && (cT a.cH 0 && bp a.cH 2)))=w
 unfold bq within
 cases ba a.af<;>cases cT a.bt 0<;>cases bp a.bt 100<;>try rfl
 simp only [aC,Bool.and_self,cond_true,Bool.not_true,cond_false]
 cases aR (kl a.cY a.c_) 0<;>cases aR (ji a.cg) 0<;>cases aR (lF a.bW) 0<;>cases g<;>cases x<;>cases w<;>rfl
theorem or_some {x r:Int}:(bif !aR x 0 then some (ii x) else some (ii r))=some (ii (bq x r)):=by
 unfold bq
 cases aR x 0<;>rfl
theorem eD {b:Bool} {e r:Int} (he:aR e 0=false):(bif !b then some (ii e) else some (ii r))=some (ii (bq (aC b e) r)):=by
 unfold bq aC
 cases b with
 | true=>rfl
 | false=>simp [he]
theorem uT {b c:Bool} {e r:Int} (he:aR e 0=false):bq (aC b e) (bq (aC c e) r)=bq (aC (b && c) e) r:=by
 unfold bq aC
 cases b<;>cases c<;>simp [he,show aR 0 0=true from rfl]
theorem aed (l:List ByteArray) (hl:l.length < 2 ^ 62) (ha:∀ x∈l,sm (aM x)):∃ y:Y,y.b 0=l.all ba∧∀ (ρ:Type) (K:Y→Option ρ),yC (aa O) 109 [S.t (T.rows 1 l.length fun i=>List.take 1 (List.drop (i.1*1) (l.map ts)))] K=K y:=aB (by kernel_rfl) (c109 l hl ha)
structure LV (a:fB):Prop where
 name:sm (aM a.af)
 app:sm (aM a.ef)
 reqs:ga ou a.cg
 ahg:ga D1 a.jN
 spread:ga Vi a.aD
 aeg:ga rK a.bR
 apart:ga rK a.bA
 on:sm (aM a.jI)
def BW (a:fB):Int:=bq (aC (ba a.af && ba a.ef) 7) (bq (kl a.dj a.dk) (bq (aC (within a.iS (Int.negSucc 999) 1000) 1) (bq (ji a.cg) (bq (rP a.jN) (bq (my a) (bq (aC (within a.df 0 1099511627776) 1) (aC (gr a.jI) 7)))))))
theorem c66 (a:fB) (ha:LV a):ca 66 [ag (jv a)] (ii (BW a)):=by
 have h0:∀ m v0 v1 b,(Di (aa O) a (m+1)).x0 v0 v1 b=some (ii (dw [v1,v0,aC b 1,ji a.cg,rP a.jN,my a,aC (within a.df 0 1099511627776) 1,aC (gr a.jI) 7])):=fun m v0 v1 b=>by
  obtain ⟨y,hy,hK⟩:=l5 b 1
  obtain ⟨y1,hy1,hK1⟩:=aN (by kernel_rfl) (adA a.cg ha.reqs)
  obtain ⟨y2,hy2,hK2⟩:=aN (by kernel_rfl) (ajy a.jN ha.ahg)
  obtain ⟨y3,hy3,hK3⟩:=aN (by kernel_rfl) (aiC a ha.spread ha.aeg ha.apart)
  obtain ⟨y4,hy4,hK4⟩:=aB (by kernel_rfl) (Mt a.df 0 1099511627776)
  obtain ⟨y5,hy5,hK5⟩:=l5 (within a.df 0 1099511627776) 1
  obtain ⟨y6,hy6,hK6⟩:=aB (by kernel_rfl) (Yw a.jI ha.on)
  obtain ⟨y7,hy7,hK7⟩:=l5 (gr a.jI) 7
  obtain ⟨z,hz,hL⟩:=Qm [v1,v0,aC b 1,ji a.cg,rP a.jN,my a,aC (within a.df 0 1099511627776) 1,aC (gr a.jI) 7] (show (8:Nat) < 2 ^ 62 by decide)
  have hL:∀ (ρ:Type) (K:Y→Option ρ),yC (aa O) 107 [S.t (T.rows 1 8 fun i=>List.take 1 (List.drop (i.1*1) [ti v1,ti v0,ti (aC b 1),ti (ji a.cg),ti (rP a.jN),ti (my a),ti (aC (within a.df 0 1099511627776) 1),ti (aC (gr a.jI) 7)]))] K=K z:=hL
  rw [Di]
  generalize Di (aa O) a m=X
  simp only [aeE,R8,hK,hK1,hK2,hK3,hK4,hK5,hK6,hK7,hy,hy1,hy2,hy3,hy4,hy5,hy6,hy7,hL,hz]
 obtain ⟨y,hy,hK⟩:=aed [a.af,a.ef] (show (2:Nat) < 2 ^ 62 by decide) (fun x hx=>by
  simp only [List.mem_cons,List.not_mem_nil,or_false] at hx
  rcases hx with rfl | rfl
  ·exact ha.name
  ·exact ha.app)
 have hK:∀ (ρ:Type) (K:Y→Option ρ),yC (aa O) 109 [S.t (T.rows 1 2 fun i=>List.take 1 (List.drop (i.1*1) [ts a.af,ts a.ef]))] K=K y:=hK
 have hy:y.b 0=(ba a.af && ba a.ef):=by rw [hy];simp
 obtain ⟨z,hz,hL⟩:=l5 (ba a.af && ba a.ef) 7
 obtain ⟨x,hx,hM⟩:=aN (by kernel_rfl) (G7 a.dj a.dk)
 refine W66 a 1 _ ?_
 have e:Al (aa O) a (JR (Di (aa O) a 1))=(Di (aa O) a 1).x0 (kl a.dj a.dk) (aC (ba a.af && ba a.ef) 7) (within a.iS (Int.negSucc 999) 1000):=by
  simp only [Al,hK,hy,hL,hz,hM,hx,JR]
  unfold within
  cases cT a.iS (Int.negSucc 999)<;>rfl
 rw [e,h0 0]
 simp only [gI,iu]
 rfl
theorem EU {g:Nat→Int}:bg 1 g=g 0:=by
 unfold bg
 simp only [List.range_one,List.findSome?_cons,List.findSome?_nil]
 cases h:aR (g 0) 0 with
 | false=>rfl
 | true=>exact (cJ.1 h).symm
theorem c36 (a:fB) (ha:LV a):ca 36 [ag (jv a)] (ii (BW a)):=by
 obtain ⟨y,hy,hK⟩:=aB (by kernel_rfl) (vW a.af ha.name)
 obtain ⟨y1,hy1,hK1⟩:=aB (by kernel_rfl) (vW a.ef ha.app)
 obtain ⟨y2,hy2,hK2⟩:=aN (by kernel_rfl) (c49 a.dj a.dk)
 obtain ⟨y3,hy3,hK3⟩:=aN (by kernel_rfl) (c72 a.cg ha.reqs)
 obtain ⟨y4,hy4,hK4⟩:=aN (by kernel_rfl) (c79 a.jN ha.ahg)
 obtain ⟨y5,hy5,hK5⟩:=aN (by kernel_rfl) (c80 a.bR ha.aeg)
 obtain ⟨y6,hy6,hK6⟩:=aN (by kernel_rfl) (c80 a.bA ha.apart)
 obtain ⟨y7,hy7,hK7⟩:=aB (by kernel_rfl) (c74 a.df 0 1099511627776)
 obtain ⟨y8,hy8,hK8⟩:=aB (by kernel_rfl) (vW a.jI ha.on)
 have hn:=cF ha.spread.1
 have k1:Ev (fun m=>(tw (aa O) a m).x1 0) (ii (bq (bg a.aD.n fun j=>iH (a.aD.at j)) (bq (du a.bR) (bq (du a.bA) (bq (aC (within a.df 0 1099511627776) 1) (aC (gr a.jI) 7)))))):=
  Ev.lO (X:=fun m j=>(tw (aa O) a m).x1 (j:Int)) 1 a.aD.n (fun j=>iH (a.aD.at j)) _ (fun m j hj=>by
   have hk:=ha.spread.2 j hj
   obtain ⟨z,hz,hL⟩:=aN (by kernel_rfl) (c80 (nK [⟨(a.aD.at j).aZ,(a.aD.at j).ef⟩]) ⟨show (1:Nat)≤_ by decide,fun i hi=>by
    have hi:i < 1:=hi
    obtain rfl:i=0:=by omega
    exact hk⟩)
   have hL:∀ (ρ:Type) (K:Y→Option ρ),yC (aa O) 80 [S.t (T.rows 2 1 fun i=>List.take 2 (List.drop (i.1*2) [ts (a.aD.at j).aZ,ts (a.aD.at j).ef]))] K=K z:=fun ρ K=>by
    rw [← hL ρ K]
    have:(fun i:Fin 1=>List.take 2 (List.drop (i.1*2) [ts (a.aD.at j).aZ,ts (a.aD.at j).ef]))=fun i:Fin 1=>iA ((nK [(⟨(a.aD.at j).aZ,(a.aD.at j).ef⟩:ma)]).get i):=by
     funext i
     obtain ⟨i,hi⟩:=i
     obtain rfl:i=0:=by omega
     rfl
    rw [this]
    rfl
   have hz:z.i 0=lV (a.aD.at j).aZ (a.aD.at j).ef:=by rw [hz];exact EU
   simp only [tw,Us,JM,wv,aq,av hj,aK,hj,decide_true,cond_true,aA (show j < 2 ^ 62 by omega),hL,hz]
   simp only [iB,ez]
   unfold iH bq
   cases h:aR (lV (a.aD.at j).aZ (a.aD.at j).ef) 0 with
   | false=>simp only [Bool.not_false,cond_true,h]
   | true=>cases cT (a.aD.at j).f_ 1<;>cases bp (a.aD.at j).f_ 16<;>rfl) (Ev.one 1 fun m=>by
   simp only [tw,Us,JM,wv,aq,Nat.lt_irrefl,decide_false,cond_false,hK5,hK6,hK7,hK8,hy5,hy6,hy7,hy8,dz]
   unfold bq aC gr
   cases h1:aR (du a.bR) 0 with
   | false=>rfl
   | true=>
    cases h2:aR (du a.bA) 0 with
    | false=>rfl
    | true=>cases within a.df 0 1099511627776<;>cases decide (aM a.jI=0)<;>cases ba a.jI<;>rfl)
 obtain ⟨n,h1⟩:=k1.get
 have g3:∀ k:Nat,bl (ay k) 3=decide (3 < k):=fun k=>dO (k:=3)
 refine W36 a (n+1) _ ?_
 have h0:∀ b,(tw (aa O) a (n+1)).x0 b=some (ii (bq (aC (!b && !decide (3 < a.bA.n)) 3) (bq (bg a.aD.n fun j=>iH (a.aD.at j)) (bq (du a.bR) (bq (du a.bA) (bq (aC (within a.df 0 1099511627776) 1) (aC (gr a.jI) 7))))))):=fun b=>by
  rw [tw]
  generalize tw (aa O) a n=X at h1
  simp only [Us,NX,wv,g3,h1]
  cases b<;>cases decide (3 < a.bA.n)<;>rfl
 simp only [Hg,hK,hK1,hK2,hK3,hK4,hy,hy1,hy2,hy3,hy4,Rm,h0,g3]
 simp only [iB,ez]
 have e1:(bif decide (3 < a.aD.n) then some (ii (bq (aC (!true && !decide (3 < a.bA.n)) 3) (bq (bg a.aD.n fun j=>iH (a.aD.at j)) (bq (du a.bR) (bq (du a.bA) (bq (aC (within a.df 0 1099511627776) 1) (aC (gr a.jI) 7))))))) else some (ii (bq (aC (!decide (3 < a.bR.n) && !decide (3 < a.bA.n)) 3) (bq (bg a.aD.n fun j=>iH (a.aD.at j)) (bq (du a.bR) (bq (du a.bA) (bq (aC (within a.df 0 1099511627776) 1) (aC (gr a.jI) 7))))))))=some (ii (bq (my a) (bq (aC (within a.df 0 1099511627776) 1) (aC (gr a.jI) 7)))):=by
  unfold my TM
  generalize bq (aC (within a.df 0 1099511627776) 1) (aC (gr a.jI) 7)=w
  generalize (bg a.aD.n fun j=>iH (a.aD.at j))=u
  generalize du a.bR=v
  generalize du a.bA=t
  have e:bq (bq u (bq v t)) w=bq u (bq v (bq t w)):=by
   unfold bq
   cases h1:aR u 0<;>simp [h1]
   cases h2:aR v 0<;>simp [h2]
  cases decide (3 < a.aD.n)<;>cases decide (3 < a.bR.n)<;>cases decide (3 < a.bA.n)<;>first | rfl | exact congrArg (fun x=>some (ii x)) e.symm
 simp only [e1,or_some,eD (e:=7) rfl,eD (e:=1) rfl,uT (e:=7) rfl,uT (e:=1) rfl]
 rfl
end
end Go.Proofs.YtonkoellfaopiaaGreatDoor.H
