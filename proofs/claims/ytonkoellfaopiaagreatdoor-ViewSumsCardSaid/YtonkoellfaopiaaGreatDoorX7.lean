import Derived.Test.YtonkoellfaopiaaGreatDoorX6
set_option linter.unusedSimpArgs false
set_option linter.unusedVariables false
namespace Go.Proofs.YtonkoellfaopiaaGreatDoor.H
open Go
section
variable {ρ:Type}
abbrev PK (ρ:Type):=Nat→Nat→Nat→St→Option ρ
section
variable {E:Env} {ck:CK ρ}
noncomputable def closeX (get:Nat→Option B) (d:Nat) (s:S) (K:S→List Nat→Option ρ):Option ρ:=match s with
 | .mp b=>(match d,get b with
  | d+1,some (.mp _ es)=>flatW d es (K (.mt es) [b])
  | _,_=>none)
 | .mt es=>(match d with
  | d+1=>flatW d es (K (.mt es) [])
  | 0=>none)
 | s=>(closeS get d s).bind fun p=>K p.1 p.2
theorem flatW_some {d:Nat} {es:List (S × S)} {K:Option ρ} {x:ρ} (h:flatW d es K=some x):FlatE d es∧K=some x:=by
 unfold flatW at h
 split at h
 ·rename_i hx;exact ⟨hx,h⟩
 ·cases h
theorem closeX_le {get:Nat→Option B} {d:Nat} {s:S} {K:S→List Nat→Option ρ} {x:ρ} (h:closeX get d s K=some x):∃ p,closeS get d s=some p∧K p.1 p.2=some x:=by
 unfold closeX at h
 split at h
 ·rename_i b
  split at h
  ·rename_i d f es hb
   obtain ⟨h1,h2⟩:=flatW_some h
   exact ⟨(.mt es,[b]),by unfold closeS;simp only [hb,h1.close],h2⟩
  ·cases h
 ·rename_i es
  split at h
  ·obtain ⟨h1,h2⟩:=flatW_some h
   exact ⟨(.mt es,[]),by unfold closeS;simp only [h1.close],h2⟩
  ·cases h
 ·exact Option.bind_eq_some_iff.1 h
noncomputable def closeLX (get:Nat→Option B):Nat→List S→(List S→List Nat→Option ρ)→Option ρ
 | 0,_,_=>none
 | _+1,[],K=>K [] []
 | d+1,c::cs,K=>closeX get d c fun x l=>closeLX get d cs fun xs l'=>K (x::xs) (l++l')
theorem closeLX_le {get:Nat→Option B} {x:ρ}:∀ {d:Nat} {cs:List S} {K:List S→List Nat→Option ρ},closeLX get d cs K=some x→∃ p,closeL get d cs=some p∧K p.1 p.2=some x
 | 0,_,_,h=>by cases h
 | _+1,[],K,h=>⟨([],[]),by unfold closeL;rfl,h⟩
 | d+1,c::cs,K,h=>by
  obtain ⟨p,h1,h2⟩:=closeX_le h
  obtain ⟨q,h3,h4⟩:=closeLX_le h2
  exact ⟨(p.1::q.1,p.2++q.2),by unfold closeL;simp only [h1,h3],h4⟩
noncomputable def quietX (ck:CK ρ) (get:Nat→Option B) (f:FuncId) (args:List S) (K:S→List Nat→Option ρ):Option ρ:=
 closeLX get depthS args fun args' l=>ck f args' fun r=>match l with
  | []=>K r []
  | l=>bif flatS depthS r then K r [] else bif l.all (rowAt get) then (match r with
   | .mt es=>bif l.all (noMap get) then matW es (K r []) else none
   | r=>K r l) else none
theorem matW_some {es:List (S × S)} {K:Option ρ} {x:ρ} (h:matW es K=some x):mapFlat (.mt es)=true∧K=some x:=by
 unfold matW at h
 split at h
 ·rename_i hx;exact ⟨hx,h⟩
 ·cases h
theorem quietX_le (hk:CKOk E ck) {get:Nat→Option B} {f:FuncId} {args:List S} {K:S→List Nat→Option ρ} {x:ρ} (h:quietX ck get f args K=some x):quietK ck get f args K=some x:=by
 obtain ⟨⟨a,l⟩,h1,h2⟩:=closeLX_le h
 unfold quietK
 rw [h1]
 dsimp only at h2 ⊢
 rw [hk] at h2 ⊢
 obtain ⟨r,h3,h4⟩:=Option.bind_eq_some_iff.1 h2
 refine Option.bind_eq_some_iff.2 ⟨r,h3,?_⟩
 cases l with
 | nil=>
  dsimp only at h4
  cases flatS depthS r with
  | true=>exact h4
  | false=>
   show (bif mapFlat r && true then K r [] else K r [])=some x
   cases mapFlat r<;>exact h4
 | cons b l=>
  dsimp only at h4 ⊢
  cases hf:flatS depthS r with
  | true=>rw [hf] at h4;exact h4
  | false=>
   rw [hf,cond_false] at h4
   rw [cond_false]
   cases hr:(b::l).all (rowAt get) with
   | false=>rw [hr] at h4;cases h4
   | true=>
    rw [hr,cond_true] at h4
    rw [cond_true]
    split at h4
    ·cases hn:(b::l).all (noMap get) with
     | false=>rw [hn] at h4;cases h4
     | true=>
      rw [hn,cond_true] at h4
      obtain ⟨h5,h6⟩:=matW_some h4
      rw [h5,Bool.and_self,cond_true];exact h6
    ·rename_i hne
     have:mapFlat r=false:=by
      unfold mapFlat
      split
      ·exact absurd rfl (hne _)
      ·rfl
     rw [this,Bool.false_and,cond_false];exact h4
def inpOn (E:Env) (g:FuncId):Bool:=(E.live (2000000+g) 0).isSome
def InpE (E:Env):Prop:=∀ g,inpOn E g=true→∀ az h,E.callI g az h=inplF (fun a=>E.callT (2000000+g) a) az h
structure CKI (E:Env) (ck:CK ρ):Prop where
 ck:CKOk E ck
 inp:InpE E
def inplX (ck:CK ρ) (g:FuncId) (az:List S) (h:Heap) (K:S→Heap→Option ρ):Option ρ:=match az with
 | [.sl b _,.t x]=>(match h.get b with
  | some (.row false sz m g0)=>ck (2000000+g) [.t (.rows sz m g0),.t x] fun r=>(match r with
   | .t (.rows sz' m' g')=>bif sz'.beq sz then K (.tup []) (h.put b (.row false sz m' g')) else none
   | _=>none)
  | _=>none)
 | _=>none
theorem inplX_le {E:Env} {ck:CK ρ} (hk:CKOk E ck) {g:FuncId} {az:List S} {h:Heap} {K:S→Heap→Option ρ} {x:ρ} (hx:inplX ck g az h K=some x):∃ p,inplF (fun a=>E.callT (2000000+g) a) az h=some p∧K p.1 p.2=some x:=by
 unfold inplX at hx
 unfold inplF
 split at hx
 ·rename_i b n t
  dsimp only
  split at hx
  ·rename_i sz m g0 hb
   rw [hk] at hx
   obtain ⟨r,h1,h2⟩:=Option.bind_eq_some_iff.1 hx
   split at h2
   ·rename_i sz' m' g'
    obtain ⟨e,h3⟩:=bif_some h2
    refine ⟨(.tup [],h.put b (.row false sz m' g')),?_,h3⟩
    try simp only [hb]
    rw [h1]
    dsimp only
    rw [e];rfl
   ·cases h2
  ·cases hx
 ·cases hx
noncomputable def callX (E:Env) (ck:CK ρ) (ro:Bool) (get:Nat→Option B) (h:Heap) (g:FuncId) (az:List S) (K:S→Heap→Option ρ):Option ρ:=
 bif ro then (bif !E.fnOk g || E.inl g then none else quietX ck get g az fun r l=>match l with | []=>K r h | _=>none)
 else bif !E.fnOk g then none else bif E.inl g then (bif inpOn E g then inplX ck g az h K else (E.callI g az h).bind fun p=>K p.1 p.2) else quietX ck h.get g az fun r l=>K r (h.freeze l)
theorem callX_le (hk:CKI E ck) {ro:Bool} {get:Nat→Option B} {h:Heap} {g:FuncId} {az:List S} {K:S→Heap→Option ρ} {x:ρ} (hx:callX E ck ro get h g az K=some x):callK E ck ro get h g az K=some x:=by
 unfold callX at hx
 unfold callK
 cases ro with
 | true=>
  rw [cond_true] at hx ⊢
  cases hq:(!E.fnOk g || E.inl g) with
  | true=>rw [hq] at hx;cases hx
  | false=>rw [hq,cond_false] at hx;rw [cond_false];exact quietX_le hk.ck hx
 | false=>
  rw [cond_false] at hx ⊢
  cases hq:!E.fnOk g with
  | true=>rw [hq] at hx;cases hx
  | false=>
   rw [hq,cond_false] at hx
   rw [cond_false]
   cases hi:E.inl g with
   | true=>
    rw [hi,cond_true] at hx
    rw [cond_true]
    cases hp:inpOn E g with
    | false=>rw [hp,cond_false] at hx;exact hx
    | true=>
     rw [hp,cond_true] at hx
     obtain ⟨p,h1,h2⟩:=inplX_le hk.ck hx
     rw [hk.inp g hp az h,h1]
     exact h2
   | false=>rw [hi,cond_false] at hx;rw [cond_false];exact quietX_le hk.ck hx
def entX (get:Nat→Option B) (x:S):Option (List (S × S)):=match x with
 | .mp b=>(match get b with | some (.mp _ es)=>some es | _=>none)
 | .mt es=>some es
 | _=>none
noncomputable def lookX (E:Env) (get:Nat→Option B) (t:TypeId) (x k:S) (ok:Bool) (K:S→Option ρ):Option ρ:=
 match E.P.underlying t with
 | some (.map kt et)=>bif !keyFits E.P E.K kt k then none else
  (match entX get x,shV E.P et 0 with
   | some es,some (sh,_)=>lookW E.P E.K kt et es k (fun y=>K (bif ok then .tup [build y sh,sv (.bool true)] else build y sh))
    ((zeroS E.P et).bind fun z=>K (bif ok then .tup [z,sv (.bool false)] else z))
   | _,_=>none)
 | _=>none
theorem lookX_le {get:Nat→Option B} {t:TypeId} {x k:S} {ok:Bool} {K:S→Option ρ} {r:ρ} (h:lookX E get t x k ok K=some r):∃ s,lookS E.P E.K get t x k ok=some s∧K s=some r:=by
 unfold lookX at h
 unfold lookS
 split at h
 ·rename_i kt et hu
  rw [hu]
  dsimp only
  cases hq:!keyFits E.P E.K kt k with
  | true=>rw [hq] at h;cases h
  | false=>
   rw [hq,cond_false] at h
   rw [cond_false]
   split at h
   ·rename_i es sh j he hs
    have gen:∃ s,((findS E.P E.K kt k es 0).bind fun r=>match r with
       | some (_,v)=>some (bif ok then .tup [v,sv (.bool true)] else v)
       | none=>(zeroS E.P et).map fun z=>bif ok then .tup [z,sv (.bool false)] else z)=some s∧K s=some r:=by
     unfold lookW at h
     rw [hs] at h
     split at h
     ·rename_i sh' j' i v hs' hf
      obtain ⟨rfl,rfl⟩:sh=sh'∧j=j':=by simpa using hs'
      obtain ⟨y,hy,hK⟩:=Option.bind_eq_some_iff.1 h
      rw [hf]
      rw [unb_some hy] at hK
      exact ⟨_,rfl,hK⟩
     ·rename_i hf
      rw [hf]
      obtain ⟨z,hz,hK⟩:=Option.bind_eq_some_iff.1 h
      exact ⟨_,by simp only [Option.bind_some,hz,Option.map_some],hK⟩
     ·cases h
    unfold entX at he
    split at he
    ·rename_i b
     dsimp only
     cases hb:get b with
     | none=>rw [hb] at he;cases he
     | some z=>
      rw [hb] at he
      cases z with
      | mp f es'=>obtain rfl:=Option.some.inj he;exact gen
      | _=>cases he
    ·obtain rfl:=Option.some.inj he
     exact gen
    ·cases he
   ·cases h
 ·cases h
noncomputable def updX (E:Env) (h:Heap) (t:TypeId) (m k v:S) (K:Heap→Option ρ):Option ρ:=
 match E.P.underlying t,m with
 | some (.map kt _),.mp b=>
  (match closeS h.get depthS k,closeS h.get depthS v with
   | some (k',l1),some (v',l2)=>bif !keyFits E.P E.K kt k' || l1.contains b || l2.contains b || !l1.all (rowAt h.get) || !l2.all (rowAt h.get) then none else
    (match h.get b with
    | some (.mp false es)=>updW E.P E.K kt es k' v' fun es=>K (((h.freeze l1).freeze l2).put b (.mp false es))
    | _=>none)
   | _,_=>none)
 | _,_=>none
theorem updX_le {h:Heap} {t:TypeId} {m k v:S} {K:Heap→Option ρ} {r:ρ} (hx:updX E h t m k v K=some r):∃ h',updS E.P E.K h t m k v=some h'∧K h'=some r:=by
 unfold updX at hx
 unfold updS
 split at hx
 ·rename_i kt et b hu
  rw [hu]
  dsimp only
  split at hx
  ·rename_i k' l1 v' l2 h1 h2
   rw [h1,h2]
   dsimp only
   generalize hq:(!keyFits E.P E.K kt k' || l1.contains b || l2.contains b || !l1.all (rowAt h.get) || !l2.all (rowAt h.get))=q at hx
   cases q with
   | true=>cases hx
   | false=>
    rw [cond_false] at hx ⊢
    split at hx
    ·rename_i es hb
     rw [hb]
     dsimp only
     unfold updW at hx
     split at hx
     ·rename_i i x hf
      rw [hf]
      exact ⟨_,rfl,hx⟩
     ·rename_i hf
      rw [hf]
      exact ⟨_,rfl,hx⟩
     ·cases hx
    ·cases hx
  ·cases hx
 ·cases hx
noncomputable def loadX (P:Program) (cw:Bool) (get:Nat→Option B) (t:TypeId) (x:S) (K:S→Option ρ):Option ρ:=match x with
 | .pt cs=>bif cw then (match shV P t 0 with
   | some (sh,_)=>cellsW P t cs fun y=>K (build y sh)
   | none=>none) else loadK P get t (.pt cs) K
 | .ep b z i o=>(match get b with
  | some (.row _ sz n g)=>elemN i n fun h=>bif z.beq sz && (o+P.cellsOf t).ble sz then (match shV P t 0 with
   | some (sh,_)=>cellsW P t ((g ⟨i,h⟩).drop o) fun y=>K (build y sh)
   | none=>none) else none
  | _=>loadK P get t x K)
 | x=>loadK P get t x K
theorem loadX_le {P:Program} {cw:Bool} {get:Nat→Option B} {t:TypeId} {x:S} {K:S→Option ρ} {r:ρ} (hx:loadX P cw get t x K=some r):∃ s,loadS P get t x=some s∧K s=some r:=by
 have gen:loadK P get t x K=some r→∃ s,loadS P get t x=some s∧K s=some r:=fun h=>by
  rw [loadK_eq] at h
  exact Option.bind_eq_some_iff.1 h
 unfold loadX at hx
 split at hx
 ·rename_i cs
  cases cw with
  | false=>exact gen hx
  | true=>
   rw [cond_true] at hx
   split at hx
   ·rename_i sh j hs
    unfold cellsW at hx
    rw [hs] at hx
    obtain ⟨y,h1,h2⟩:=Option.bind_eq_some_iff.1 hx
    obtain ⟨s,h3,h4⟩:=Option.bind_eq_some_iff.1 h1
    rw [unb_some h4] at h2
    exact ⟨s,h3,h2⟩
   ·cases hx
 ·rename_i b z i o
  split at hx
  ·rename_i f sz n g hb
   unfold elemN at hx
   split at hx
   ·rename_i hi
    dsimp only at hx
    cases hq:(z.beq sz && (o+P.cellsOf t).ble sz) with
    | false=>rw [hq] at hx;cases hx
    | true=>
     rw [hq,cond_true] at hx
     split at hx
     ·rename_i sh j hs
      unfold cellsW at hx
      rw [hs] at hx
      obtain ⟨y,h1,h2⟩:=Option.bind_eq_some_iff.1 hx
      obtain ⟨s,h3,h4⟩:=Option.bind_eq_some_iff.1 h1
      rw [unb_some h4] at h2
      refine ⟨s,?_,h2⟩
      unfold loadS
      simp only [hb,dif_pos hi,hq,cond_true]
      exact h3
     ·cases hx
   ·cases hx
  ·exact gen hx
 ·exact gen hx
noncomputable def stepX (E:Env) (ck:CK ρ) (cw dr:Bool) (get:Nat→Option B) (id:Nat) (fr:Fr) (h:Heap) (op:Op) (K:S→Heap→Option ρ):Option ρ:=
 match op with
 | .load t a=>loadX E.P cw (bif dr then get else h.get) t (ev fr a) fun s=>K s h
 | .lookup t x k ok=>lookX E (bif dr then get else h.get) t (ev fr x) (ev fr k) ok fun s=>K s h
 | .mapUpdate t m k v=>updX E h t (ev fr m) (ev fr k) (ev fr v) fun h=>K .ud h
 | .call { callee:=.value f,args,.. }=>(match calleeS fr f (args.toList.map (ev fr)) with
  | some (g,az)=>callX E ck (match f with | .func f=>!E.inl f && dr | _=>false) get h g az K
  | none=>none)
 | op=>stepK E ck dr get id fr h op K
theorem stepX_le (hk:CKI E ck) {cw dr:Bool} {get:Nat→Option B} {id:Nat} {fr:Fr} {h:Heap} {op:Op} {K:S→Heap→Option ρ} {x:ρ} (hx:stepX E ck cw dr get id fr h op K=some x):∃ p,stepOp E dr get id fr h op=some p∧K p.1 p.2=some x:=by
 have gen:stepK E ck dr get id fr h op K=some x→∃ p,stepOp E dr get id fr h op=some p∧K p.1 p.2=some x:=fun hx=>by
  rw [stepK_eq hk.ck] at hx
  exact Option.bind_eq_some_iff.1 hx
 unfold stepX at hx
 split at hx
 ·rename_i t a
  obtain ⟨s,h1,h2⟩:=loadX_le hx
  refine ⟨(s,h),?_,h2⟩
  cases dr with
  | true=>
   rw [cond_true] at h1
   simp only [stepOp,clsOf,isCallO,cond_true,readOp,h1,Option.map_some]
  | false=>
   rw [cond_false] at h1
   simp only [stepOp,clsOf,isCallO,cond_false,readOp,h1,Option.map_some]
 ·rename_i t a k ok
  obtain ⟨s,h1,h2⟩:=lookX_le hx
  refine ⟨(s,h),?_,h2⟩
  cases dr with
  | true=>
   rw [cond_true] at h1
   simp only [stepOp,clsOf,isCallO,cond_true,readOp,h1,Option.map_some]
  | false=>
   rw [cond_false] at h1
   simp only [stepOp,clsOf,isCallO,cond_false,readOp,h1,Option.map_some]
 ·rename_i t m k v
  obtain ⟨h',h1,h2⟩:=updX_le hx
  exact ⟨(.ud,h'),by simp only [stepOp,clsOf,isCallO,writeOp,h1,Option.map_some],h2⟩
 ·rename_i f args argTypes
  refine gen ?_
  unfold stepK
  dsimp only
  split at hx
  ·rename_i g az hc
   try simp only [hc]
   exact callX_le hk hx
  ·cases hx
 ·exact gen hx
noncomputable def opX (E:Env) (ck:CK ρ) (cw:Bool) (nt:Nat) (dr:Bool) (ops:Array Oper) (base:Nat) (i:Nat) (st:St) (K:St→Option ρ):Option ρ:=
 match ops[i]? with
 | none=>none
 | some o=>wantK ops st.fr o fun w fr=>
  bif w then (bif !dr || loneOk ops i o fr then stepX E ck cw dr (fun b=>bif b.blt base || allowed o (b - base) then st.h.get b else none) (base+i) fr st.h o.op fun s h=>(putS nt fr o.dst s).bind fun fr=>K ⟨fr,h⟩ else none)
  else (putS nt fr o.dst .ud).bind fun fr=>K ⟨fr,st.h⟩
theorem opX_le (hk:CKI E ck) {cw:Bool} {nt:Nat} {dr:Bool} {ops:Array Oper} {base i:Nat} {st:St} {K:St→Option ρ} {x:ρ} (h:opX E ck cw nt dr ops base i st K=some x):∃ st1,runOp E nt dr ops base i st=some st1∧K st1=some x:=by
 unfold opX at h
 unfold runOp
 cases ho:ops[i]? with
 | none=>rw [ho] at h;cases h
 | some o=>
  rw [ho] at h
  dsimp only at h ⊢
  rw [wantK_eq] at h
  obtain ⟨⟨w,fr⟩,h1,h2⟩:=Option.bind_eq_some_iff.1 h
  rw [h1]
  dsimp only at h2 ⊢
  cases w with
  | true=>
   rw [cond_true] at h2
   obtain ⟨hl,h2⟩:=bif_some h2
   obtain ⟨p,h3,h4⟩:=stepX_le hk h2
   obtain ⟨fr',h5,h6⟩:=Option.bind_eq_some_iff.1 h4
   refine ⟨⟨fr',p.2⟩,?_,h6⟩
   simp only [Option.bind_some,cond_true,hl,h3,h5,Option.map_some]
  | false=>
   rw [cond_false] at h2
   obtain ⟨fr',h5,h6⟩:=Option.bind_eq_some_iff.1 h2
   refine ⟨⟨fr',st.h⟩,?_,h6⟩
   simp only [Option.bind_some,cond_false,h5,Option.map_some]
end
noncomputable def topX (P:Program) (f:FuncId) (r:S) (h:Heap):Option S:=closeX h.get depthS r fun s _=>some (normF P f s)
theorem topX_le {P:Program} {f:FuncId} {r:S} {h:Heap} {x:S} (hx:topX P f r h=some x):topK P f r h=some x:=by
 obtain ⟨p,h1,h2⟩:=closeX_le hx
 unfold topK
 rw [h1]
 exact h2
section
def refsBX:B→List Nat
 | .mp _ _=>[]
 | b=>refsB b
def renBX (m:Nat→Option Nat):B→Option B
 | .mp fz es=>some (.mp fz es)
 | b=>renB m b
def gatherX (h:Heap):Nat→List Nat→List Nat→List Nat
 | 0,_,seen=>seen.reverse
 | _+1,[],seen=>seen.reverse
 | f+1,b::todo,seen=>bif seen.contains b then gatherX h f todo seen else
  match h.get b with
  | some x=>gatherX h f (refsBX x++todo) (b::seen)
  | none=>gatherX h f todo (b::seen)
def renHeapX (m:Nat→Option Nat) (h:Heap):List Nat→Nat→Option (Tr B)
 | [],_=>some .leaf
 | b::r,i=>match h.get b with
  | some x=>(renBX m x).bind fun x=>(renHeapX m h r (i+1)).map fun t=>t.set i (some x)
  | none=>renHeapX m h r (i+1)
noncomputable def flatIds (h:Heap):List Nat→Option ρ→Option ρ
 | [],K=>K
 | b::r,K=>match h.get b with
  | some (.mp _ es)=>flatW 900 es (flatIds h r K)
  | _=>flatIds h r K
noncomputable def cleanX (keep:List Nat) (st:St) (K:St→Option ρ):Option ρ:=
 let ids:=gatherX st.h 1000 (keepRefs st.fr keep) []
 let m:=fun b=>indexIn ids b 0
 flatIds st.h ids ((renFr m st.fr keep).bind fun fr=>(renHeapX m st.h ids 0).bind fun t=>K ⟨fr,⟨ids.length,t⟩⟩)
def FlatAt (h:Heap) (b:Nat):Prop:=∀ x,h.get b=some x→refsBX x=refsB x∧∀ m,renBX m x=renB m x
theorem flatIds_some {h:Heap} {x:ρ}:∀ {ids:List Nat} {K:Option ρ},flatIds h ids K=some x→(∀ b∈ids,FlatAt h b)∧K=some x
 | [],K,hx=>⟨(fun b hb=>by cases hb),hx⟩
 | b::r,K,hx=>by
  unfold flatIds at hx
  split at hx
  ·rename_i f es hb
   obtain ⟨h1,h2⟩:=flatW_some hx
   obtain ⟨h3,h4⟩:=flatIds_some h2
   refine ⟨fun c hc=>?_,h4⟩
   rcases List.mem_cons.1 hc with rfl | hc
   ·intro y hy
    rw [hb] at hy
    obtain rfl:=Option.some.inj hy
    exact ⟨by simp only [refsBX,refsB,h1.refs],fun m=>by simp only [renBX,renB,h1.ren,Option.map_some]⟩
   ·exact h3 c hc
  ·rename_i hb
   obtain ⟨h3,h4⟩:=flatIds_some hx
   refine ⟨fun c hc=>?_,h4⟩
   rcases List.mem_cons.1 hc with rfl | hc
   ·intro y hy
    cases y with
    | mp f es=>exact absurd hy (hb f es)
    | _=>exact ⟨rfl,fun _=>rfl⟩
   ·exact h3 c hc
theorem gatherX_seen {h:Heap}:∀ (f:Nat) (todo seen:List Nat) (b:Nat),b∈seen→b∈gatherX h f todo seen
 | 0,_,seen,b,hb=>by unfold gatherX;simpa using hb
 | _+1,[],seen,b,hb=>by unfold gatherX;simpa using hb
 | f+1,c::todo,seen,b,hb=>by
  unfold gatherX
  cases seen.contains c with
  | true=>exact gatherX_seen f todo seen b hb
  | false=>
   rw [cond_false]
   cases h.get c with
   | none=>exact gatherX_seen f _ _ b (List.mem_cons_of_mem _ hb)
   | some x=>exact gatherX_seen f _ _ b (List.mem_cons_of_mem _ hb)
theorem gatherX_eq {h:Heap}:∀ (f:Nat) (todo seen:List Nat),(∀ b∈gatherX h f todo seen,FlatAt h b)→gather h f todo seen=gatherX h f todo seen
 | 0,_,seen,_=>rfl
 | _+1,[],seen,_=>rfl
 | f+1,c::todo,seen,hx=>by
  unfold gatherX at hx ⊢
  unfold gather
  cases hs:seen.contains c with
  | true=>
   rw [hs,cond_true] at hx
   exact gatherX_eq f todo seen hx
  | false=>
   rw [hs,cond_false] at hx
   rw [cond_false,cond_false]
   cases hc:h.get c with
   | none=>
    rw [hc] at hx
    exact gatherX_eq f todo _ hx
   | some x=>
    rw [hc] at hx
    dsimp only at hx ⊢
    have:=hx c (gatherX_seen f _ _ c List.mem_cons_self)
    rw [← (this x hc).1]
    exact gatherX_eq f _ _ hx
theorem renHeapX_eq {m:Nat→Option Nat} {h:Heap}:∀ (ids:List Nat) (i:Nat),(∀ b∈ids,FlatAt h b)→renHeapX m h ids i=renHeap m h ids i
 | [],_,_=>rfl
 | b::r,i,hx=>by
  unfold renHeapX renHeap
  cases hb:h.get b with
  | none=>exact renHeapX_eq r _ fun c hc=>hx c (List.mem_cons_of_mem _ hc)
  | some x=>
   dsimp only
   rw [(hx b List.mem_cons_self x hb).2,renHeapX_eq r _ fun c hc=>hx c (List.mem_cons_of_mem _ hc)]
theorem cleanX_le {keep:List Nat} {st:St} {K:St→Option ρ} {x:ρ} (h:cleanX keep st K=some x):∃ st',clean keep st=some st'∧K st'=some x:=by
 unfold cleanX at h
 obtain ⟨h1,h2⟩:=flatIds_some h
 obtain ⟨fr,h3,h4⟩:=Option.bind_eq_some_iff.1 h2
 obtain ⟨t,h5,h6⟩:=Option.bind_eq_some_iff.1 h4
 refine ⟨_,?_,h6⟩
 unfold clean
 simp only [gatherX_eq _ _ _ h1,h3,Option.bind_some]
 rw [← renHeapX_eq _ _ h1,h5]
 rfl
noncomputable def cleanAtX (E:Env) (f:FuncId) (gc:Bool) (key:Nat) (st:St) (K:St→Option ρ):Option ρ:=
 bif gc then (match E.live f key with
  | some keep=>cleanX keep st fun st=>K (nilRows (nilsOf E.live f key) st)
  | none=>K st) else K st
theorem cleanAtX_le {E:Env} {f:FuncId} {gc:Bool} {key:Nat} {st:St} {K:St→Option ρ} {x:ρ} (h:cleanAtX E f gc key st K=some x):∃ st',cleanAt E f gc key st=some st'∧K st'=some x:=by
 unfold cleanAtX at h
 unfold cleanAt
 cases gc with
 | false=>exact ⟨st,rfl,h⟩
 | true=>
  rw [cond_true] at h ⊢
  cases hl:E.live f key with
  | none=>rw [hl] at h;exact ⟨st,rfl,h⟩
  | some keep=>
   rw [hl] at h
   obtain ⟨st',h1,h2⟩:=cleanX_le h
   exact ⟨_,by show cleanR _ _ _=_;unfold cleanR;rw [h1];rfl,h2⟩
noncomputable def leaveLX (E:Env) (f:FuncId) (gc:Bool) (r:Nat) (K:Ex→St→Option ρ):Ex→St→Option ρ
 | .normal,_=>none
 | .exit id,st=>cleanAtX E f gc (3*r+1) st (K (.exit id))
 | .ret,st=>cleanAtX E f gc (3*r+2) st (K .ret)
theorem leaveLX_le {E:Env} {f:FuncId} {gc:Bool} {r:Nat} {K:Ex→St→Option ρ} {ex:Ex} {st:St} {x:ρ} (h:leaveLX E f gc r K ex st=some x):∃ p,leaveL E f gc r ex st=some p∧K p.1 p.2=some x:=by
 cases ex with
 | normal=>cases h
 | exit id=>
  obtain ⟨st',h1,h2⟩:=cleanAtX_le h
  exact ⟨(.exit id,st'),by unfold leaveL;dsimp only;rw [h1];rfl,h2⟩
 | ret=>
  obtain ⟨st',h1,h2⟩:=cleanAtX_le h
  exact ⟨(.ret,st'),by unfold leaveL;dsimp only;rw [h1];rfl,h2⟩
end
def isPick (ops:Array Oper) (i:Nat):Bool:=match ops[i]? with
 | some o=>(match o.op with
  | .pick .. => o.guard.isNone
  | _=>false)
 | none=>false
noncomputable def opsP (E:Env) (ck:CK ρ) (kk:PK ρ) (cut cw:Bool) (r nt:Nat) (dr:Bool) (ops:Array Oper) (base:Nat):List Nat→St→(St→Option ρ)→Option ρ
 | [],st,K=>K st
 | i::l,st,K=>bif cut && isPick ops (i - 1) then kk r (i+1) base st else opX E ck cw nt dr ops base i st fun st=>opsP E ck kk cut cw r nt dr ops base l st K
def cutOn (E:Env) (f r:Nat):Bool:=(E.live f (3000000+r)).isNone
def cwOn (E:Env) (f r:Nat):Bool:=(E.live f (4000000+r)).isSome
def reFr (fr:Fr) (keep:List Nat):Option Fr:=renFr (fun b=>some b) fr keep
def boxOnly:List Nat→Bool
 | _::o::_::r=>!o.beq 0 && boxOnly r
 | _=>true
noncomputable def headRf (E:Env) (f r nt:Nat) (keep:List Nat) (j:Nat) (n:Nat) (g:Fin n→List T) (st:St) (kk:PK ρ):Option ρ:=
 cleanX keep st fun st1=>kk r 0 0 ⟨((nilRows (nilsOf E.live f (3*r)) st1).fr.set nt (some (.sl 0 j))).set (nt+1) (some (.t (.rows 0 n g))),(nilRows (nilsOf E.live f (3*r)) st1).h⟩
def rfRowX (P:Program) (sp:RfSpec) (get:Nat→Option B) (b1:Nat) (K:(n:Nat)→(Fin n→List T)→Option ρ):Option ρ:=match fieldOf P sp.ts sp.fi,get b1 with
 | some (o,_),some (.box cs)=>(match cs[o]? with
  | some (.t (.rows sz n g))=>bif sz.beq (P.cellsOf sp.te) then (bif ((n*1).ble roomMax && n.ble roomMax) then K n g else none) else none
  | _=>none)
 | _,_=>none
theorem rfRowX_le {P:Program} {sp:RfSpec} {get:Nat→Option B} {b1:Nat} {K:(n:Nat)→(Fin n→List T)→Option ρ} {x:ρ} (h:rfRowX P sp get b1 K=some x):∃ n g,rfRow P sp get b1=some ⟨n,g⟩∧K n g=some x:=by
 unfold rfRowX at h
 unfold rfRow
 split at h
 ·rename_i o t cs h1 h2
  split at h
  ·rename_i sz n g h3
   cases e1:sz.beq (P.cellsOf sp.te) with
   | false=>rw [e1] at h;cases h
   | true=>
    rw [e1,cond_true] at h
    cases e2:((n*1).ble roomMax && n.ble roomMax) with
    | false=>rw [e2] at h;cases h
    | true=>
     rw [e2,cond_true] at h
     refine ⟨n,g,?_,h⟩
     try simp only [h1,h2,h3]
     rw [e1,e2];rfl
  ·cases h
 ·cases h
noncomputable def execP (E:Env) (ck:CK ρ) (kk:PK ρ) (f:FuncId) (nt:Nat) (gc:Bool):Code→St→(Ex→St→Option ρ)→Option ρ
 | .skip,st,K=>K .normal st
 | .region r ops draw,st,K=>opsP E ck kk (cutOn E f r) (cwOn E f r) r nt draw ops st.h.next (List.range ops.size) ⟨st.fr,⟨st.h.next+ops.size,st.h.tr⟩⟩ fun st=>K .normal st
 | .seq a b,st,K=>execP E ck kk f nt gc a st fun ex st=>match ex with
  | .normal=>execP E ck kk f nt gc b st K
  | ex=>K ex st
 | .cond c a b,st,K=>match ev st.fr c with
  | .t (.v (.bool p))=>bif p then execP E ck kk f nt gc a st K else execP E ck kk f nt gc b st K
  | _=>none
 | .block id b,st,K=>execP E ck kk f nt gc b st fun ex st=>match ex with
  | .exit i=>bif i.beq id then K .normal st else K (.exit i) st
  | ex=>K ex st
 | .loop b,st,_=>cleanAtX E f gc (3*firstR b) st (kk (firstR b) 0 0)
 | .exit id,st,K=>K (.exit id) st
 | .ret,st,K=>K .ret st
 | .rangeFunc q ps az bd,st,_=>(match onlyP ps,rfSpec E.live f (firstR az),E.live f (3*firstR az) with
  | some p,some sp,some keep=>bif gc && (rfKeep keep p az bd && p.blt nt) && (boxOnly (nilsOf E.live f (3*firstR az)) && keep.all (fun t=>t.blt nt)) then
    (match rfCaps (ev st.fr q) sp.g with
     | some b=>rfRowX E.P sp st.h.get b.1 fun n g=>headRf E f (firstR az) nt keep 0 n g st kk
     | none=>none) else none
  | _,_,_=>none)
 | _,_,_=>none
noncomputable def opsQ (E:Env) (ck:CK ρ) (nt:Nat) (dr:Bool) (ops:Array Oper) (base:Nat):List Nat→St→(St→Option ρ)→Option ρ
 | [],st,K=>K st
 | i::l,st,K=>opX E ck false nt dr ops base i st fun st=>opsQ E ck nt dr ops base l st K
def nrm (st:St) (K:St→Option ρ):Option ρ:=K st
noncomputable def iterQ (F:St→(Ex→St→Option ρ)→Option ρ):Nat→St→(Ex→St→Option ρ)→Option ρ
 | 0,_,_=>none
 | k+1,st,K=>F st fun ex st=>match ex with
  | .normal=>nrm st fun st=>iterQ F k st K
  | ex=>K ex st
noncomputable def execQ (E:Env) (ck:CK ρ) (nt:Nat) (n:Nat):Code→St→(Ex→St→Option ρ)→Option ρ
 | .skip,st,K=>K .normal st
 | .region _ ops draw,st,K=>opsQ E ck nt draw ops st.h.next (List.range ops.size) ⟨st.fr,⟨st.h.next+ops.size,st.h.tr⟩⟩ fun st=>K .normal st
 | .seq a b,st,K=>execQ E ck nt n a st fun ex st=>match ex with
  | .normal=>execQ E ck nt n b st K
  | ex=>K ex st
 | .cond c a b,st,K=>match ev st.fr c with
  | .t (.v (.bool p))=>bif p then execQ E ck nt n a st K else execQ E ck nt n b st K
  | _=>none
 | .block id b,st,K=>execQ E ck nt n b st fun ex st=>match ex with
  | .exit i=>bif i.beq id then K .normal st else K (.exit i) st
  | ex=>K ex st
 | .loop b,st,K=>iterQ (execQ E ck nt n b) n st K
 | .exit id,st,K=>K (.exit id) st
 | .ret,st,K=>K .ret st
 | _,_,_=>none
inductive Frm where
 | seq (b:Code)
 | block (id:Nat)
 | loop (b:Code)
noncomputable def contP (E:Env) (ck:CK ρ) (kk:PK ρ) (f:FuncId) (nt:Nat) (gc:Bool) (KE:Ex→St→Option ρ):List Frm→Ex→St→Option ρ
 | [],ex,st=>KE ex st
 | .seq b::l,ex,st=>(match ex with
  | .normal=>execP E ck kk f nt gc b st (contP E ck kk f nt gc KE l)
  | ex=>contP E ck kk f nt gc KE l ex st)
 | .block id::l,ex,st=>(match ex with
  | .exit i=>bif i.beq id then contP E ck kk f nt gc KE l .normal st else contP E ck kk f nt gc KE l (.exit i) st
  | ex=>contP E ck kk f nt gc KE l ex st)
 | .loop b::l,ex,st=>(match ex with
  | .normal=>cleanAtX E f gc (3*firstR b) st (kk (firstR b) 0 0)
  | ex=>leaveLX E f gc (firstR b) (contP E ck kk f nt gc KE l) ex st)
inductive Piece where
 | head (b:Code) (l:List Frm)
 | mid (ops:Array Oper) (dr:Bool) (l:List Frm)
 | rf (q:Operand) (ps:Array Tmp) (az bd:Code) (l:List Frm)
def pts:Code→List Frm→List (Nat × Piece)
 | .region r ops dr,l=>[(2*r+1,.mid ops dr l)]
 | .seq a b,l=>pts a (.seq b::l)++pts b l
 | .cond _ a b,l=>pts a l++pts b l
 | .block id b,l=>pts b (.block id::l)
 | .loop b,l=>(2*firstR b,.head b l)::pts b (.loop b::l)
 | .rangeFunc q ps az bd,l=>[(2*firstR az,.rf q ps az bd l)]
 | _,_=>[]
def lookP:List (Nat × Piece)→Nat→Option Piece
 | [],_=>none
 | (i,x)::r,t=>bif i.beq t then some x else lookP r t
noncomputable def runP (E:Env) (ck:CK ρ) (kk:PK ρ) (f:FuncId) (nt:Nat) (gc:Bool) (KE:Ex→St→Option ρ) (r:Nat) (i base:Nat) (st:St):Piece→Option ρ
 | .head b l=>execP E ck kk f nt gc b st (contP E ck kk f nt gc KE (.loop b::l))
 | .mid ops dr l=>opX E ck (cwOn E f r) nt dr ops base i st fun st=>opsP E ck kk (cutOn E f r) (cwOn E f r) r nt dr ops base ((List.range ops.size).drop (i+1)) st fun st=>contP E ck kk f nt gc KE l .normal st
 | .rf q ps az bd l=>(match onlyP ps,rfSpec E.live f (firstR az),E.live f (3*firstR az),st.fr.get nt,st.fr.get (nt+1) with
  | some p,some sp,some keep,some (.sl 0 m),some (.t (.rows _ n g))=>bif gc && (rfKeep keep p az bd && p.blt nt) && (boxOnly (nilsOf E.live f (3*firstR az)) && keep.all (fun t=>t.blt nt)) then (match reFr st.fr keep with
   | some fr=>(match rfCaps (ev fr q) sp.g with
    | some b=>(match rfText st.h.get b.2 with
     | some s=>bif ltI (ofN m) (ofN n) then elemO (ofN m) n fun h=>(match rfOn E.P sp (g ⟨(ofN m).toNat,h⟩) with
       | some r=>bif strEq r s then execQ E ck nt 8 az ⟨fr.set p (some (.agg ((g ⟨(ofN m).toNat,h⟩).map .t))),st.h⟩ (fun ex st2=>match ex with
         | .normal=>execQ E ck nt 8 bd st2 (fun ex st3=>match ex with
          | .normal=>headRf E f (firstR az) nt keep (addN m 1) n g ⟨fr,st3.h⟩ kk
          | _=>none)
         | _=>none) else headRf E f (firstR az) nt keep (addN m 1) n g ⟨fr,st.h⟩ kk
       | none=>none)
      else contP E ck kk f nt gc KE l .normal ⟨fr,st.h⟩
     | none=>none)
    | none=>none)
   | none=>none) else none
  | _,_,_,_,_=>none)
noncomputable def ptP (E:Env) (ck:CK ρ) (f:FuncId) (nt:Nat) (gc:Bool) (T:List (Nat × Piece)) (KE:Ex→St→Option ρ) (kk:PK ρ):PK ρ:=fun r i base st=>match i with
 | 0=>(match lookP T (2*r) with
  | some p=>runP E ck kk f nt gc KE r 0 base st p
  | none=>none)
 | i+1=>(match lookP T (2*r+1) with
  | some p=>runP E ck kk f nt gc KE r i base st p
  | none=>none)
noncomputable def ptH (E:Env) (ck:CK ρ) (f:FuncId) (nt:Nat) (gc:Bool) (T:List (Nat × Piece)) (KE:Ex→St→Option ρ):Nat→PK ρ
 | 0=>fun _ _ _ _=>none
 | n+1=>ptP E ck f nt gc T KE (ptH E ck f nt gc T KE n)
theorem exec_mono {E:Env} {f:FuncId} {nt:Nat} {gc:Bool} {c:Code} {st:St} {k k':Nat} {y:Ex × St} (h:exec E f nt gc k c st=some y) (hk:k≤k'):exec E f nt gc k' c st=some y:=by
 obtain ⟨P,K,fnOk,inl,live,ov,t,i⟩:=E
 obtain ⟨L,M,h1,h2,h3⟩:=exec_supp (P:=P) (K:=K) (fnOk:=fnOk) (inl:=inl) (live:=live) (ov:=ov) (t:=t) (i:=i) c h
 exact h3 t i k' h1 h2 hk
theorem iter_mono {F G:St→Option (Ex × St)} (h:∀ st y,F st=some y→G st=some y):∀ (n:Nat) {st:St} {y:Ex × St},iter F n st=some y→iter G n st=some y
 | 0,_,_,hx=>by cases hx
 | n+1,st,y,hx=>by
  unfold iter at hx ⊢
  cases hf:F st with
  | none=>rw [hf] at hx;cases hx
  | some p=>
   rw [hf] at hx
   rw [h st p hf]
   obtain ⟨ex,st'⟩:=p
   cases ex with
   | normal=>exact iter_mono h n hx
   | exit id=>exact hx
   | ret=>exact hx
def Sem (E:Env) (f:FuncId) (nt:Nat) (gc:Bool) (c:Code) (st:St) (ex:Ex) (st':St):Prop:=∃ k,exec E f nt gc k c st=some (ex,st')
def Fin2 (E:Env) (f:FuncId) (nt:Nat) (gc:Bool) (KE:Ex→St→Option ρ):List Frm→Ex→St→ρ→Prop
 | [],ex,st,x=>KE ex st=some x
 | .seq b::l,ex,st,x=>(match ex with
  | .normal=>∃ ex' st',Sem E f nt gc b st ex' st'∧Fin2 E f nt gc KE l ex' st' x
  | ex=>Fin2 E f nt gc KE l ex st x)
 | .block id::l,ex,st,x=>(match ex with
  | .exit i=>if i.beq id=true then Fin2 E f nt gc KE l .normal st x else Fin2 E f nt gc KE l (.exit i) st x
  | ex=>Fin2 E f nt gc KE l ex st x)
 | .loop b::l,ex,st,x=>(match ex with
  | .normal=>∃ ex' st',Sem E f nt gc (.loop b) st ex' st'∧Fin2 E f nt gc KE l ex' st' x
  | ex=>∃ p,leaveL E f gc (firstR b) ex st=some p∧Fin2 E f nt gc KE l p.1 p.2 x)
def rfRun (P:Program) (sp:RfSpec) (q:Operand) (p:Nat) (cl:St→Option St) (A B:St→Option (Ex × St)) {n:Nat} (g:Fin n→List T) (k j:Nat) (st1:St):Option St:=
 match (rfCaps (ev st1.fr q) sp.g).bind fun b=>rfText st1.h.get b.2 with
  | none=>none
  | some s=>if h:j < n then (match rfOn P sp (g ⟨j,h⟩) with
    | none=>none
    | some r=>bif strEq r s then (match A ⟨st1.fr.set p (some (.agg ((g ⟨j,h⟩).map .t))),st1.h⟩ with
      | some (.normal,st2)=>(match B st2 with
       | some (.normal,st3)=>rfIter P sp q p cl A B g k (j+1) ⟨st1.fr,st3.h⟩
       | _=>none)
      | _=>none) else rfIter P sp q p cl A B g k (j+1) st1) else some st1
theorem rfIter_succ {P:Program} {sp:RfSpec} {q:Operand} {p:Nat} {cl:St→Option St} {A B:St→Option (Ex × St)} {n:Nat} {g:Fin n→List T} {k j:Nat} {st:St}:
  rfIter P sp q p cl A B g (k+1) j st=(cl st).bind (rfRun P sp q p cl A B g k j):=rfl
theorem rfIter_mono {P:Program} {sp:RfSpec} {q:Operand} {p:Nat} {cl:St→Option St} {A B A' B':St→Option (Ex × St)} {n:Nat} {g:Fin n→List T} (hA:∀ st y,A st=some y→A' st=some y) (hB:∀ st y,B st=some y→B' st=some y):
  ∀ (k k':Nat),k≤k'→∀ (j:Nat) (st y:St),(rfIter P sp q p cl A B g k j st=some y→rfIter P sp q p cl A' B' g k' j st=some y)∧(rfRun P sp q p cl A B g k j st=some y→rfRun P sp q p cl A' B' g k' j st=some y):=by
 have run:∀ (kk kk':Nat),(∀ j st y,rfIter P sp q p cl A B g kk j st=some y→rfIter P sp q p cl A' B' g kk' j st=some y)→∀ j st y,rfRun P sp q p cl A B g kk j st=some y→rfRun P sp q p cl A' B' g kk' j st=some y:=by
  intro kk kk' hi j st y h
  unfold rfRun at h ⊢
  generalize ((rfCaps (ev st.fr q) sp.g).bind fun b=>rfText st.h.get b.2)=os at h ⊢
  cases os with
  | none=>cases h
  | some s=>
   dsimp only at h ⊢
   by_cases hj:j < n
   ·rw [dif_pos hj] at h ⊢
    generalize rfOn P sp (g ⟨j,hj⟩)=orr at h ⊢
    cases orr with
    | none=>cases h
    | some r=>
     dsimp only at h ⊢
     cases e:strEq r s with
     | false=>
      rw [e,cond_false] at h
      exact hi _ _ _ h
     | true=>
      rw [e,cond_true] at h
      rw [cond_true]
      cases ha:A ⟨st.fr.set p (some (.agg ((g ⟨j,hj⟩).map .t))),st.h⟩ with
      | none=>rw [ha] at h;cases h
      | some pa=>
       rw [ha] at h
       rw [hA _ _ ha]
       obtain ⟨ex,st2⟩:=pa
       cases ex with
       | normal=>
        dsimp only at h ⊢
        cases hb:B st2 with
        | none=>rw [hb] at h;cases h
        | some pb=>
         rw [hb] at h
         rw [hB _ _ hb]
         obtain ⟨ex,st3⟩:=pb
         cases ex with
         | normal=>exact hi _ _ _ h
         | exit id=>cases h
         | ret=>cases h
       | exit id=>cases h
       | ret=>cases h
   ·rw [dif_neg hj] at h ⊢;exact h
 intro k
 induction k with
 | zero=>
  intro k' _ j st y
  exact ⟨fun h=>(by cases h),run 0 k' (fun j st y h=>by cases h) j st y⟩
 | succ k ih=>
  intro k' hk j st y
  obtain ⟨k1,rfl⟩:∃ k1,k'=k1+1:=⟨k' - 1,by omega⟩
  have it:∀ j st y,rfIter P sp q p cl A B g (k+1) j st=some y→rfIter P sp q p cl A' B' g (k1+1) j st=some y:=fun j st y h=>by
   rw [rfIter_succ] at h ⊢
   obtain ⟨st1,h1,h2⟩:=Option.bind_eq_some_iff.1 h
   exact Option.bind_eq_some_iff.2 ⟨st1,h1,(ih k1 (by omega) j st1 y).2 h2⟩
  exact ⟨it j st y,run _ _ it j st y⟩
def RfOk (E:Env) (f nt:Nat) (gc:Bool) (KE:Ex→St→Option ρ) (q:Operand) (ps:Array Tmp) (az bd:Code) (l:List Frm) (st:St) (x:ρ):Prop:=
 ∃ p sp keep m z n,∃ g:Fin n→List T,∃ fr k stf,onlyP ps=some p∧rfSpec E.live f (firstR az)=some sp∧E.live f (3*firstR az)=some keep∧st.fr.get nt=some (.sl 0 m)∧st.fr.get (nt+1)=some (.t (.rows z n g))∧reFr st.fr keep=some fr∧
  rfRun E.P sp q p (cleanR keep (nilsOf E.live f (3*firstR az))) (exec E f nt false k az) (exec E f nt false k bd) g k m ⟨fr,st.h⟩=some stf∧Fin2 E f nt gc KE l .normal stf x
mutual
theorem renS_id:∀ s:S,renS (fun b=>some b) s=some s
 | .ptr b o=>rfl
 | .sl b n=>rfl
 | .ep b z i o=>rfl
 | .agg cs=>by unfold renS;rw [renL_id cs];rfl
 | .tup cs=>by unfold renS;rw [renL_id cs];rfl
 | .mp b=>rfl
 | .mt es=>by unfold renS;rw [renE_id es];rfl
 | .fn f a c=>by unfold renS;rw [renL_id a,renL_id c];rfl
 | .un=>rfl
 | .t x=>rfl
 | .full sz n g=>rfl
 | .pt cs=>rfl
 | .nn=>rfl
 | .ud=>rfl
 | .it=>rfl
theorem renL_id:∀ l:List S,renL (fun b=>some b) l=some l
 | []=>rfl
 | s::r=>by unfold renL;rw [renS_id s,renL_id r];rfl
theorem renE_id:∀ l:List (S × S),renE (fun b=>some b) l=some l
 | []=>rfl
 | (k,v)::r=>by unfold renE;rw [renS_id k,renS_id v,renE_id r];rfl
end
theorem renFr_get {m:Nat→Option Nat} {fr:Fr}:∀ {l:List Nat} {f:Fr},renFr m fr l=some f→∀ t∈l,f.get t=(fr.get t).bind (renS m)∨(fr.get t=none∧f.get t=none)
 | [],f,h,t,ht=>by cases ht
 | x::l,f,h,t,ht=>by
  have hall:=h
  unfold renFr at h
  split at h
  ·rename_i s0 hs0
   obtain ⟨s1,h1,h⟩:=Option.bind_eq_some_iff.1 h
   obtain ⟨f',h2,rfl⟩:=Option.map_eq_some_iff.1 h
   rw [get_set]
   by_cases e:x=t
   ·subst e
    rw [if_pos rfl,hs0,Option.bind_some,h1]
    exact .inl rfl
   ·rw [if_neg e]
    rcases List.mem_cons.1 ht with ht | ht
    ·exact absurd ht.symm e
    ·exact renFr_get h2 t ht
  ·rename_i hn
   by_cases e:x=t
   ·subst e
    right
    refine ⟨hn,?_⟩
    cases hg:f.get x with
    | none=>rfl
    | some s'=>
     obtain ⟨s,e1,_⟩:=renFr_spec h x s' hg
     rw [hn] at e1;cases e1
   ·rcases List.mem_cons.1 ht with ht | ht
    ·exact absurd ht.symm e
    ·exact renFr_get h t ht
theorem reFr_ren {m:Nat→Option Nat} {fr0 F:Fr}:∀ {l:List Nat} {f:Fr},renFr m fr0 l=some f→(∀ t∈l,F.get t=(fr0.get t).bind (renS m)∨(fr0.get t=none∧F.get t=none))→reFr F l=some f
 | [],f,h,_=>h
 | x::l,f,h,hF=>by
  unfold renFr at h
  unfold reFr renFr
  have hx:=hF x List.mem_cons_self
  split at h
  ·rename_i s0 hs0
   obtain ⟨s1,h1,h⟩:=Option.bind_eq_some_iff.1 h
   obtain ⟨f',h2,rfl⟩:=Option.map_eq_some_iff.1 h
   have ih:renFr (fun b=>some b) F l=some f':=reFr_ren h2 fun t ht=>hF t (List.mem_cons_of_mem _ ht)
   rcases hx with hx | ⟨hx,_⟩
   ·rw [hs0,Option.bind_some,h1] at hx
    rw [hx]
    dsimp only
    rw [renS_id,Option.bind_some,ih];rfl
   ·rw [hs0] at hx;cases hx
  ·rename_i hn
   have ih:renFr (fun b=>some b) F l=some f:=reFr_ren h fun t ht=>hF t (List.mem_cons_of_mem _ ht)
   have:F.get x=none:=by
    rcases hx with hx | ⟨_,hx⟩
    ·rw [hn] at hx;exact hx
    ·exact hx
   rw [this]
   exact ih
theorem nilRow_fr {t o sz:Nat} {st:St} (h:o.beq 0=false):(nilRow t o sz st).fr=st.fr:=by
 unfold nilRow
 split
 ·cases h
 ·split
  ·split<;>rfl
  ·rfl
 ·rfl
theorem nilRows_fr:∀ (l:List Nat) {st:St},boxOnly l=true→(nilRows l st).fr=st.fr
 | t::o::sz::r,st,h=>by
  unfold boxOnly at h
  rw [Bool.and_eq_true,Bool.not_eq_true'] at h
  unfold nilRows
  rw [nilRows_fr r h.2,nilRow_fr h.1]
 | [],st,h=>rfl
 | [_],st,h=>rfl
 | [_,_],st,h=>rfl
theorem headRf_le {E:Env} {f r nt:Nat} {keep:List Nat} {j n:Nat} {g:Fin n→List T} {st:St} {kk:PK ρ} {x:ρ} (hb:boxOnly (nilsOf E.live f (3*r))=true) (hk:keep.all (fun t=>t.blt nt)=true) (h:headRf E f r nt keep j n g st kk=some x):
  ∃ st2 F,cleanR keep (nilsOf E.live f (3*r)) st=some st2∧kk r 0 0 ⟨F,st2.h⟩=some x∧F.get nt=some (.sl 0 j)∧F.get (nt+1)=some (.t (.rows 0 n g))∧reFr F keep=some st2.fr:=by
 unfold headRf at h
 obtain ⟨st1,h1,h2⟩:=cleanX_le h
 refine ⟨nilRows (nilsOf E.live f (3*r)) st1,_,by unfold cleanR;rw [h1];rfl,h2,?_,get_set_same _ _ _,?_⟩
 ·rw [get_set_ne _ _ (by omega),get_set_same]
 ·rw [nilRows_fr _ hb]
  unfold clean at h1
  simp only at h1
  obtain ⟨fr',q1,q2⟩:=Option.bind_eq_some_iff.1 h1
  obtain ⟨t,_,e⟩:=Option.map_eq_some_iff.1 q2
  subst e
  refine reFr_ren q1 fun t ht=>?_
  have hlt:t < nt:=by have:=List.all_eq_true.1 hk t ht;simpa [Nat.blt_eq] using this
  rw [get_set_ne _ _ (by omega),get_set_ne _ _ (by omega)]
  exact renFr_get q1 t ht
structure KkOk (E:Env) (f:FuncId) (nt:Nat) (gc:Bool) (KE:Ex→St→Option ρ) (T:List (Nat × Piece)) (kk:PK ρ):Prop where
 hd:∀ r b l,(2*r,Piece.head b l)∈T→∀ base st x,kk r 0 base st=some x→∃ ex st',Sem E f nt gc b st ex st'∧Fin2 E f nt gc KE (.loop b::l) ex st' x
 md:∀ r ops dr l,(2*r+1,Piece.mid ops dr l)∈T→∀ i base st x,i < ops.size→kk r (i+1) base st=some x→∃ st',runOps E nt dr ops base ((List.range ops.size).drop i) st=some st'∧Fin2 E f nt gc KE l .normal st' x
 rf:∀ r q ps az bd l,(2*r,Piece.rf q ps az bd l)∈T→r=firstR az→∀ base st x,kk r 0 base st=some x→RfOk E f nt gc KE q ps az bd l st x
theorem range_drop {n i:Nat} (h:i < n):(List.range n).drop i=i::(List.range n).drop (i+1):=by
 rw [List.drop_eq_getElem_cons (by simpa using h)]
 simp
theorem opsP_fin {E:Env} {ck:CK ρ} (hk:CKI E ck) {kk:PK ρ} {cut cw:Bool} {r nt:Nat} {dr:Bool} {ops:Array Oper} {base:Nat} {K:St→Option ρ} {Q:St→ρ→Prop} (hK:∀ st x,K st=some x→Q st x)
  (hq:∀ i st x,i < ops.size→kk r (i+1) base st=some x→∃ st',runOps E nt dr ops base ((List.range ops.size).drop i) st=some st'∧Q st' x):
  ∀ (m i:Nat),ops.size - i=m→∀ st x,opsP E ck kk cut cw r nt dr ops base ((List.range ops.size).drop i) st K=some x→∃ st',runOps E nt dr ops base ((List.range ops.size).drop i) st=some st'∧Q st' x:=by
 intro m
 induction m with
 | zero=>
  intro i hi st x h
  have:(List.range ops.size).drop i=[]:=List.drop_eq_nil_of_le (by simp;omega)
  rw [this] at h ⊢
  exact ⟨st,rfl,hK st x h⟩
 | succ m ih=>
  intro i hi st x h
  have hlt:i < ops.size:=by omega
  rw [range_drop hlt] at h ⊢
  unfold opsP at h
  cases hp:(cut && isPick ops (i - 1)) with
  | true=>
   rw [hp,cond_true] at h
   have:=hq i st x hlt h
   rwa [range_drop hlt] at this
  | false=>
   rw [hp,cond_false] at h
   obtain ⟨st1,h1,h2⟩:=opX_le hk h
   obtain ⟨st',h3,h4⟩:=ih (i+1) (by omega) st1 x h2
   refine ⟨st',?_,h4⟩
   unfold runOps
   rw [h1]
   exact h3
theorem Sem.loop {E:Env} {f:FuncId} {nt:Nat} {gc:Bool} {b:Code} {st st1 st2:St} {ex ex':Ex} {st':St} (hc:cleanAt E f gc (3*firstR b) st=some st1) (h:Sem E f nt gc b st1 ex st2)
  (hn:(match ex with
   | .normal=>Sem E f nt gc (.loop b) st2 ex' st'
   | ex=>leaveL E f gc (firstR b) ex st2=some (ex',st'))):Sem E f nt gc (.loop b) st ex' st':=by
 obtain ⟨k1,h1⟩:=h
 cases ex with
 | normal=>
  obtain ⟨k2,h2⟩:=hn
  have h2:=exec_mono h2 (Nat.le_max_right k1 k2)
  have h1:=exec_mono h1 (Nat.le_max_left k1 k2)
  generalize max k1 k2=k at h1 h2
  refine ⟨k+1,?_⟩
  simp only [exec,iter,hc,Option.bind_some] at h2 ⊢
  rw [exec_mono h1 (Nat.le_succ k)]
  obtain ⟨y,h3,h4⟩:=Option.bind_eq_some_iff.1 h2
  refine Option.bind_eq_some_iff.2 ⟨y,?_,h4⟩
  exact iter_mono (fun st y hy=>by
   obtain ⟨s,e1,e2⟩:=Option.bind_eq_some_iff.1 hy
   exact Option.bind_eq_some_iff.2 ⟨s,e1,exec_mono e2 (Nat.le_succ k)⟩) k h3
 | exit id=>
  refine ⟨k1+1,?_⟩
  simp only [exec,iter,hc,Option.bind_some]
  rw [exec_mono h1 (Nat.le_succ k1)]
  exact hn
 | ret=>
  refine ⟨k1+1,?_⟩
  simp only [exec,iter,hc,Option.bind_some]
  rw [exec_mono h1 (Nat.le_succ k1)]
  exact hn
theorem opsQ_le {E:Env} {ck:CK ρ} (hk:CKI E ck) {nt:Nat} {dr:Bool} {ops:Array Oper} {base:Nat}:∀ (l:List Nat) (st:St) (K:St→Option ρ) (x:ρ),opsQ E ck nt dr ops base l st K=some x→∃ st',runOps E nt dr ops base l st=some st'∧K st'=some x
 | [],st,K,x,h=>⟨st,rfl,h⟩
 | i::l,st,K,x,h=>by
  obtain ⟨st1,h1,h2⟩:=opX_le hk h
  obtain ⟨st',h3,h4⟩:=opsQ_le hk l st1 K x h2
  refine ⟨st',?_,h4⟩
  unfold runOps
  rw [h1]
  exact h3
theorem execQ_le {E:Env} {ck:CK ρ} (hk:CKI E ck) {f:FuncId} {nt n:Nat}:∀ (c:Code) (st:St) (K:Ex→St→Option ρ) (x:ρ),execQ E ck nt n c st K=some x→∃ ex st',Sem E f nt false c st ex st'∧K ex st'=some x:=by
 intro c
 induction c with
 | skip=>intro st K x h;exact ⟨.normal,st,⟨0,rfl⟩,h⟩
 | exit id=>intro st K x h;exact ⟨.exit id,st,⟨0,rfl⟩,h⟩
 | ret=>intro st K x h;exact ⟨.ret,st,⟨0,rfl⟩,h⟩
 | region r ops dr=>
  intro st K x h
  obtain ⟨st',h1,h2⟩:=opsQ_le hk _ _ _ _ h
  exact ⟨.normal,st',⟨0,by simp only [exec];rw [h1];rfl⟩,h2⟩
 | seq a b iha ihb=>
  intro st K x h
  unfold execQ at h
  obtain ⟨ex,st1,⟨k1,h1⟩,h2⟩:=iha st _ x h
  cases ex with
  | normal=>
   obtain ⟨ex',st',⟨k2,h3⟩,h4⟩:=ihb st1 K x h2
   refine ⟨ex',st',⟨max k1 k2,?_⟩,h4⟩
   simp only [exec]
   rw [exec_mono h1 (Nat.le_max_left k1 k2)]
   exact exec_mono h3 (Nat.le_max_right k1 k2)
  | exit id=>exact ⟨_,_,⟨k1,by simp only [exec,h1,Option.bind_some]⟩,h2⟩
  | ret=>exact ⟨_,_,⟨k1,by simp only [exec,h1,Option.bind_some]⟩,h2⟩
 | cond q a b iha ihb=>
  intro st K x h
  unfold execQ at h
  generalize hv:ev st.fr q=s at h
  split at h
  ·rename_i p
   cases p with
   | true=>
    obtain ⟨ex,st',⟨k1,h1⟩,h2⟩:=iha st K x h
    exact ⟨ex,st',⟨k1,by simp only [exec,hv,cond_true];exact h1⟩,h2⟩
   | false=>
    obtain ⟨ex,st',⟨k1,h1⟩,h2⟩:=ihb st K x h
    exact ⟨ex,st',⟨k1,by simp only [exec,hv,cond_false];exact h1⟩,h2⟩
  ·cases h
 | block id b ih=>
  intro st K x h
  unfold execQ at h
  obtain ⟨ex,st',⟨k1,h1⟩,h2⟩:=ih st _ x h
  cases ex with
  | normal=>exact ⟨_,_,⟨k1,by simp only [exec,h1,Option.bind_some]⟩,h2⟩
  | ret=>exact ⟨_,_,⟨k1,by simp only [exec,h1,Option.bind_some]⟩,h2⟩
  | exit i=>
   cases e:i.beq id with
   | true=>exact ⟨.normal,st',⟨k1,by simp only [exec,h1,Option.bind_some,e,cond_true]⟩,by simp only [e,cond_true] at h2;exact h2⟩
   | false=>exact ⟨.exit i,st',⟨k1,by simp only [exec,h1,Option.bind_some,e,cond_false]⟩,by simp only [e,cond_false] at h2;exact h2⟩
 | loop b ih=>
  intro st K x h
  unfold execQ at h
  have go:∀ (m:Nat) (st:St),iterQ (execQ E ck nt n b) m st K=some x→∃ ex st',Sem E f nt false (.loop b) st ex st'∧K ex st'=some x:=by
   intro m
   induction m with
   | zero=>intro st h;cases h
   | succ m ihm=>
    intro st h
    unfold iterQ at h
    obtain ⟨ex,st1,h1,h2⟩:=ih st _ x h
    cases ex with
    | normal=>
     obtain ⟨ex',st',h3,h4⟩:=ihm st1 h2
     exact ⟨ex',st',Sem.loop rfl h1 h3,h4⟩
    | exit id=>exact ⟨.exit id,st1,Sem.loop rfl h1 (show leaveL E f false (firstR b) (.exit id) st1=some (.exit id,st1) from rfl),h2⟩
    | ret=>exact ⟨.ret,st1,Sem.loop rfl h1 (show leaveL E f false (firstR b) .ret st1=some (.ret,st1) from rfl),h2⟩
  exact go n st h
 | _=>intro st K x h;cases h
def Here (T:List (Nat × Piece)) (c:Code) (l:List Frm):Prop:=∀ p∈pts c l,p∈T
def HereL (T:List (Nat × Piece)):List Frm→Prop
 | []=>True
 | .seq b::l=>Here T b l∧HereL T l
 | .block _::l=>HereL T l
 | .loop b::l=>(2*firstR b,Piece.head b l)∈T∧HereL T l
theorem execP_fin {E:Env} {ck:CK ρ} (hk:CKI E ck) {f:FuncId} {nt:Nat} {gc:Bool} {KE:Ex→St→Option ρ} {T:List (Nat × Piece)} {kk:PK ρ} (hkk:KkOk E f nt gc KE T kk):
  ∀ (c:Code) (l:List Frm) (K:Ex→St→Option ρ),Here T c l→(∀ ex st x,K ex st=some x→Fin2 E f nt gc KE l ex st x)→∀ st x,execP E ck kk f nt gc c st K=some x→∃ ex st',Sem E f nt gc c st ex st'∧Fin2 E f nt gc KE l ex st' x:=by
 intro c
 induction c with
 | skip=>intro l K hT hK st x h;exact ⟨.normal,st,⟨0,rfl⟩,hK _ _ _ h⟩
 | region r ops dr=>
  intro l K hT hK st x h
  have hm:(2*r+1,Piece.mid ops dr l)∈T:=hT _ (by simp [pts])
  unfold execP at h
  obtain ⟨st',h1,h2⟩:=opsP_fin hk (Q:=fun st x=>Fin2 E f nt gc KE l .normal st x) (fun st x h=>hK .normal st x h) (fun i st' x hi h=>hkk.md r ops dr l hm i st.h.next st' x hi h) _ 0 rfl _ x h
  exact ⟨.normal,st',⟨0,by simp only [exec];rw [List.drop_zero] at h1;rw [h1];rfl⟩,h2⟩
 | seq a b iha ihb=>
  intro l K hT hK st x h
  unfold execP at h
  obtain ⟨ex,st',⟨k1,h1⟩,h2⟩:=iha (.seq b::l) _ (fun p hp=>hT p (by simp [pts,hp])) (fun ex st x h=>by
   cases ex with
   | normal=>
    exact ihb l K (fun p hp=>hT p (by simp [pts,hp])) hK st x h
   | exit id=>exact hK _ _ _ h
   | ret=>exact hK _ _ _ h) st x h
  cases ex with
  | normal=>
   obtain ⟨ex',st'',⟨k2,h3⟩,h4⟩:=h2
   refine ⟨ex',st'',⟨max k1 k2,?_⟩,h4⟩
   simp only [exec]
   rw [exec_mono h1 (Nat.le_max_left k1 k2)]
   exact exec_mono h3 (Nat.le_max_right k1 k2)
  | exit id=>
   refine ⟨_,_,⟨k1,?_⟩,h2⟩
   simp only [exec,h1,Option.bind_some]
  | ret=>
   refine ⟨_,_,⟨k1,?_⟩,h2⟩
   simp only [exec,h1,Option.bind_some]
 | cond q a b iha ihb=>
  intro l K hT hK st x h
  unfold execP at h
  generalize hv:ev st.fr q=s at h
  split at h
  ·rename_i p
   cases p with
   | true=>
    obtain ⟨ex,st',⟨k1,h1⟩,h2⟩:=iha l K (fun p hp=>hT p (by simp [pts,hp])) hK st x h
    exact ⟨ex,st',⟨k1,by simp only [exec,hv,cond_true];exact h1⟩,h2⟩
   | false=>
    obtain ⟨ex,st',⟨k1,h1⟩,h2⟩:=ihb l K (fun p hp=>hT p (by simp [pts,hp])) hK st x h
    exact ⟨ex,st',⟨k1,by simp only [exec,hv,cond_false];exact h1⟩,h2⟩
  ·cases h
 | block id b ih=>
  intro l K hT hK st x h
  unfold execP at h
  obtain ⟨ex,st',⟨k1,h1⟩,h2⟩:=ih (.block id::l) _ hT (fun ex st x h=>by
   cases ex with
   | normal=>exact hK _ _ _ h
   | ret=>exact hK _ _ _ h
   | exit i=>
    show if i.beq id=true then _ else _
    simp only at h
    split
    ·rename_i e;rw [e] at h;exact hK _ _ _ h
    ·rename_i e;rw [Bool.not_eq_true] at e;rw [e] at h;exact hK _ _ _ h) st x h
  cases ex with
  | normal=>exact ⟨_,_,⟨k1,by simp only [exec,h1,Option.bind_some]⟩,h2⟩
  | ret=>exact ⟨_,_,⟨k1,by simp only [exec,h1,Option.bind_some]⟩,h2⟩
  | exit i=>
   have h2:if i.beq id=true then Fin2 E f nt gc KE l .normal st' x else Fin2 E f nt gc KE l (.exit i) st' x:=h2
   split at h2
   ·rename_i e
    exact ⟨_,_,⟨k1,by simp only [exec,h1,Option.bind_some,e,cond_true]⟩,h2⟩
   ·rename_i e
    rw [Bool.not_eq_true] at e
    exact ⟨_,_,⟨k1,by simp only [exec,h1,Option.bind_some,e,cond_false]⟩,h2⟩
 | loop b ih=>
  intro l K hT hK st x h
  unfold execP at h
  obtain ⟨st1,hc,h⟩:=cleanAtX_le h
  obtain ⟨ex,st2,h1,h2⟩:=hkk.hd _ b l (hT _ (by simp [pts])) _ _ _ h
  cases ex with
  | normal=>
   obtain ⟨ex',st',h3,h4⟩:=h2
   exact ⟨ex',st',Sem.loop hc h1 h3,h4⟩
  | exit id=>
   obtain ⟨p,h3,h4⟩:=h2
   exact ⟨p.1,p.2,Sem.loop hc h1 h3,h4⟩
  | ret=>
   obtain ⟨p,h3,h4⟩:=h2
   exact ⟨p.1,p.2,Sem.loop hc h1 h3,h4⟩
 | exit id=>intro l K hT hK st x h;exact ⟨.exit id,st,⟨0,rfl⟩,hK _ _ _ h⟩
 | ret=>intro l K hT hK st x h;exact ⟨.ret,st,⟨0,rfl⟩,hK _ _ _ h⟩
 | rangeFunc q ps az bd=>
  intro l K hT hK st x h
  unfold execP at h
  split at h
  ·rename_i p sp keep hp hsp hkeep
   obtain ⟨hg,h'⟩:=bif_some h
   clear h
   rw [Bool.and_eq_true,Bool.and_eq_true,Bool.and_eq_true,Bool.and_eq_true] at hg
   obtain ⟨⟨rfl,hkp⟩,hbox,hlt⟩:=hg
   split at h'
   ·rename_i b hcap
    ·obtain ⟨n,g,hrow,h'⟩:=rfRowX_le h'
     obtain ⟨st2,F,h1,h2,h3,h4,h5⟩:=headRf_le hbox hlt h'
     obtain ⟨p',sp',keep',m,z,n',g',fr,k,stf,e1,e2,e3,e4,e5,e6,hrun,hfin⟩:=hkk.rf _ q ps az bd l (hT _ (by simp [pts])) rfl _ _ _ h2
     rw [hp] at e1;obtain rfl:=Option.some.inj e1
     rw [hsp] at e2;obtain rfl:=Option.some.inj e2
     rw [hkeep] at e3;obtain rfl:=Option.some.inj e3
     simp only [h3,Option.some.injEq,S.sl.injEq,true_and] at e4
     subst e4
     simp only [h4,Option.some.injEq,S.t.injEq,Go.Proofs.YtonkoellfaopiaaGreatDoor.H.T.rows.injEq] at e5
     obtain ⟨rfl,rfl,e5⟩:=e5
     obtain rfl:=eq_of_heq e5
     rw [h5] at e6;obtain rfl:=Option.some.inj e6
     refine ⟨.normal,stf,⟨k+1,?_⟩,hfin⟩
     simp only [exec]
     rw [hp,Option.bind_some,hsp,Option.bind_some,hkeep,Option.bind_some]
     have e7:(true && (rfKeep keep p az bd && p.blt nt))=true:=by rw [Bool.true_and,Bool.and_eq_true];exact hkp
     rw [e7,cond_true,hcap,Option.bind_some,hrow,Option.bind_some,rfIter_succ,h1,Option.bind_some]
     dsimp only
     rw [((rfIter_mono (fun _ _ h=>exec_mono h (Nat.le_succ k)) (fun _ _ h=>exec_mono h (Nat.le_succ k)) k k (Nat.le_refl k) 0 _ stf).2 hrun)]
     rfl
   ·cases h'
  ·cases h
 | scope=>intro l K hT hK st x h;cases h
 | label=>intro l K hT hK st x h;cases h
 | goto=>intro l K hT hK st x h;cases h
 | refuse=>intro l K hT hK st x h;cases h
theorem contP_fin {E:Env} {ck:CK ρ} (hk:CKI E ck) {f:FuncId} {nt:Nat} {gc:Bool} {KE:Ex→St→Option ρ} {T:List (Nat × Piece)} {kk:PK ρ} (hkk:KkOk E f nt gc KE T kk):
  ∀ (l:List Frm),HereL T l→∀ ex st x,contP E ck kk f nt gc KE l ex st=some x→Fin2 E f nt gc KE l ex st x:=by
 intro l
 induction l with
 | nil=>intro _ ex st x h;exact h
 | cons a l ih=>
  intro hl ex st x h
  cases a with
  | seq b=>
   have ih:=ih hl.2
   cases ex with
   | normal=>exact execP_fin hk hkk b l _ hl.1 ih st x h
   | exit id=>exact ih _ _ _ h
   | ret=>exact ih _ _ _ h
  | block id=>
   have ih:=ih hl
   cases ex with
   | normal=>exact ih _ _ _ h
   | ret=>exact ih _ _ _ h
   | exit i=>
    show if i.beq id=true then _ else _
    have h:(bif i.beq id then _ else _)=some x:=h
    split
    ·rename_i e;rw [e] at h;exact ih _ _ _ h
    ·rename_i e;rw [Bool.not_eq_true] at e;rw [e] at h;exact ih _ _ _ h
  | loop b=>
   have ih:=ih hl.2
   cases ex with
   | normal=>
    have h:cleanAtX E f gc (3*firstR b) st (kk (firstR b) 0 0)=some x:=h
    obtain ⟨st1,hc,h⟩:=cleanAtX_le h
    obtain ⟨ex,st2,h1,h2⟩:=hkk.hd _ b l hl.1 _ _ _ h
    cases ex with
    | normal=>
     obtain ⟨ex',st',h3,h4⟩:=h2
     exact ⟨ex',st',Sem.loop hc h1 h3,h4⟩
    | exit id=>
     obtain ⟨p,h3,h4⟩:=h2
     exact ⟨p.1,p.2,Sem.loop hc h1 h3,h4⟩
    | ret=>
     obtain ⟨p,h3,h4⟩:=h2
     exact ⟨p.1,p.2,Sem.loop hc h1 h3,h4⟩
   | exit id=>
    obtain ⟨p,h1,h2⟩:=leaveLX_le (show leaveLX E f gc (firstR b) (contP E ck kk f nt gc KE l) (.exit id) st=some x from h)
    exact ⟨p,h1,ih _ _ _ h2⟩
   | ret=>
    obtain ⟨p,h1,h2⟩:=leaveLX_le (show leaveLX E f gc (firstR b) (contP E ck kk f nt gc KE l) .ret st=some x from h)
    exact ⟨p,h1,ih _ _ _ h2⟩
def HereP (T:List (Nat × Piece)):Piece→Prop
 | .rf _ _ _ _ l=>HereL T l
 | .head b l=>Here T b (.loop b::l)∧HereL T (.loop b::l)
 | .mid _ _ l=>HereL T l
theorem pts_here {T:List (Nat × Piece)}:∀ (c:Code) (l:List Frm),Here T c l→HereL T l→∀ p∈pts c l,HereP T p.2:=by
 intro c
 induction c with
 | region r ops dr=>intro l hT hl p hp;simp only [pts,List.mem_singleton] at hp;subst hp;exact hl
 | seq a b iha ihb=>
  intro l hT hl p hp
  have hb:Here T b l:=fun p hp=>hT p (by simp [pts,hp])
  rcases List.mem_append.1 hp with hp | hp
  ·exact iha _ (fun p hp=>hT p (by simp [pts,hp])) (show HereL T (.seq b::l) from ⟨hb,hl⟩) p hp
  ·exact ihb _ hb hl p hp
 | cond q a b iha ihb=>
  intro l hT hl p hp
  rcases List.mem_append.1 hp with hp | hp
  ·exact iha _ (fun p hp=>hT p (by simp [pts,hp])) hl p hp
  ·exact ihb _ (fun p hp=>hT p (by simp [pts,hp])) hl p hp
 | block id b ih=>intro l hT hl p hp;exact ih _ hT hl p hp
 | loop b ih=>
  intro l hT hl p hp
  have h1:Here T b (.loop b::l):=fun p hp=>hT p (by simp [pts,hp])
  have h2:HereL T (.loop b::l):=⟨hT _ (by simp [pts]),hl⟩
  rcases List.mem_cons.1 hp with rfl | hp
  ·exact ⟨h1,h2⟩
  ·exact ih _ h1 h2 p hp
 | rangeFunc q ps az bd=>intro l hT hl p hp;simp only [pts,List.mem_singleton] at hp;subst hp;exact hl
 | _=>intro l hT hl p hp;cases hp
theorem mem_lookP:∀ {T:List (Nat × Piece)},namesOk (T.map (·.1))=true→∀ {i:Nat} {p:Piece},(i,p)∈T→lookP T i=some p
 | [],_,_,_,h=>by cases h
 | (j,x)::r,hn,i,p,h=>by
  simp only [List.map_cons,namesOk,Bool.and_eq_true,Bool.not_eq_true'] at hn
  unfold lookP
  rcases List.mem_cons.1 h with h | h
  ·simp only [Prod.mk.injEq] at h
   obtain ⟨rfl,rfl⟩:=h
   simp
  ·have hne:j.beq i=false:=by
    cases e:j.beq i with
    | false=>rfl
    | true=>
     obtain rfl:=Nat.eq_of_beq_eq_true e
     have:(r.map (·.1)).contains j=true:=by
      rw [List.contains_eq_mem,decide_eq_true_eq]
      exact List.mem_map.2 ⟨(j,p),h,rfl⟩
     rw [this] at hn;cases hn.1
   rw [hne,cond_false]
   exact mem_lookP hn.2 h
theorem ptH_ok {E:Env} {ck:CK ρ} (hk:CKI E ck) {f:FuncId} {nt:Nat} {gc:Bool} {KE:Ex→St→Option ρ} {c:Code} (hn:namesOk ((pts c []).map (·.1))=true):∀ n,KkOk E f nt gc KE (pts c []) (ptH E ck f nt gc (pts c []) KE n)
 | 0=>⟨fun _ _ _ _ _ _ _ h=>(by cases h),fun _ _ _ _ _ _ _ _ _ _ h=>(by cases h),fun _ _ _ _ _ _ _ _ _ _ _ h=>(by cases h)⟩
 | n+1=>by
  have ih:=ptH_ok hk (f:=f) (nt:=nt) (gc:=gc) (KE:=KE) hn n
  refine ⟨fun r b l hT base st x h=>?_,fun r ops dr l hT i base st x hi h=>?_,fun r q ps az bd l hT hr base st x h=>?_⟩
  ·have hp:=pts_here c [] (fun _ h=>h) trivial _ hT
   have h:(match lookP (pts c []) (2*r) with
    | some p=>runP E ck (ptH E ck f nt gc (pts c []) KE n) f nt gc KE r 0 base st p
    | none=>none)=some x:=h
   rw [mem_lookP hn hT] at h
   exact execP_fin hk ih b (.loop b::l) _ hp.1 (contP_fin hk ih _ hp.2) st x h
  ·have hp:HereL (pts c []) l:=pts_here c [] (fun _ h=>h) trivial _ hT
   have h:(match lookP (pts c []) (2*r+1) with
    | some p=>runP E ck (ptH E ck f nt gc (pts c []) KE n) f nt gc KE r i base st p
    | none=>none)=some x:=h
   rw [mem_lookP hn hT] at h
   have h:opX E ck (cwOn E f r) nt dr ops base i st (fun st=>opsP E ck (ptH E ck f nt gc (pts c []) KE n) (cutOn E f r) (cwOn E f r) r nt dr ops base ((List.range ops.size).drop (i+1)) st fun st=>contP E ck (ptH E ck f nt gc (pts c []) KE n) f nt gc KE l .normal st)=some x:=h
   obtain ⟨st1,h1,h2⟩:=opX_le hk h
   obtain ⟨st',h3,h4⟩:=opsP_fin hk (Q:=fun st x=>Fin2 E f nt gc KE l .normal st x) (fun st x h=>contP_fin hk ih l hp .normal st x h) (fun i st x hi h=>ih.md r ops dr l hT i base st x hi h) _ (i+1) rfl st1 x h2
   refine ⟨st',?_,h4⟩
   rw [range_drop hi]
   unfold runOps
   rw [h1]
   exact h3
  ·have hl:HereL (pts c []) l:=pts_here c [] (fun _ h=>h) trivial _ hT
   have h:(match lookP (pts c []) (2*r) with
    | some p=>runP E ck (ptH E ck f nt gc (pts c []) KE n) f nt gc KE r 0 base st p
    | none=>none)=some x:=h
   rw [mem_lookP hn hT] at h
   dsimp only [runP] at h
   split at h
   ·rename_i p sp keep m z N g hp hsp hkeep hs1 hs2
    obtain ⟨hg,h'⟩:=bif_some h
    clear h
    rw [Bool.and_eq_true,Bool.and_eq_true,Bool.and_eq_true,Bool.and_eq_true] at hg
    obtain ⟨⟨_,_⟩,hbox,hlt⟩:=hg
    split at h'
    ·rename_i fr hfr
     split at h'
     ·rename_i b hcap
      split at h'
      ·rename_i s htxt
       have hcs:((rfCaps (ev fr q) sp.g).bind fun b=>rfText st.h.get b.2)=some s:=by rw [hcap];exact htxt
       have next:∀ {st':St},headRf E f (firstR az) nt keep (addN m 1) N g st' (ptH E ck f nt gc (pts c []) KE n)=some x→∃ k stf,rfIter E.P sp q p (cleanR keep (nilsOf E.live f (3*firstR az))) (exec E f nt false k az) (exec E f nt false k bd) g (k+1) (m+1) st'=some stf∧Fin2 E f nt gc KE l .normal stf x:=by
        intro st' h
        obtain ⟨st2,F,h1,h2,h3,h4,h5⟩:=headRf_le hbox hlt h
        obtain ⟨p',sp',keep',m',z',n',g',fr',k,stf,e1,e2,e3,e4,e5,e6,hrun,hfin⟩:=ih.rf _ q ps az bd l (hr ▸ hT) rfl _ _ _ h2
        rw [hp] at e1;obtain rfl:=Option.some.inj e1
        rw [hsp] at e2;obtain rfl:=Option.some.inj e2
        rw [hkeep] at e3;obtain rfl:=Option.some.inj e3
        simp only [h3,Option.some.injEq,S.sl.injEq,true_and] at e4
        subst e4
        simp only [h4,Option.some.injEq,S.t.injEq,Go.Proofs.YtonkoellfaopiaaGreatDoor.H.T.rows.injEq] at e5
        obtain ⟨rfl,rfl,e5⟩:=e5
        obtain rfl:=eq_of_heq e5
        rw [h5] at e6;obtain rfl:=Option.some.inj e6
        exact ⟨k,stf,by rw [rfIter_succ,h1,Option.bind_some];exact hrun,hfin⟩
       have wrap:∀ {k stf},rfRun E.P sp q p (cleanR keep (nilsOf E.live f (3*firstR az))) (exec E f nt false k az) (exec E f nt false k bd) g k m ⟨fr,st.h⟩=some stf→Fin2 E f nt gc KE l .normal stf x→RfOk E f nt gc KE q ps az bd l st x:=fun {k stf} h1 h2=>⟨p,sp,keep,m,z,N,g,fr,k,stf,hp,hsp,hkeep,hs1,hs2,hfr,h1,h2⟩
       have hm:(ofN m).toNat=m:=Int.toNat_natCast m
       cases hlt2:ltI (ofN m) (ofN N) with
       | false=>
        rw [hlt2,cond_false] at h'
        have hge:¬ m < N:=by have:=of_decide_eq_false hlt2;unfold ofN at this;omega
        refine wrap (k:=0) (stf:=⟨fr,st.h⟩) ?_ (contP_fin hk ih l hl .normal _ x h')
        unfold rfRun
        dsimp only
        rw [hcs]
        dsimp only
        rw [dif_neg hge]
       | true=>
        rw [hlt2,cond_true] at h'
        unfold elemO at h'
        split at h'
        ·rename_i hj
         have hj2:m < N:=by have:=hj.2;rw [hm] at this;exact this
         have eg:g ⟨(ofN m).toNat,hj.2⟩=g ⟨m,hj2⟩:=congrArg g (Fin.ext hm)
         dsimp only at h'
         rw [eg] at h'
         split at h'
         ·rename_i r' hon
          cases he:strEq r' s with
          | false=>
           rw [he,cond_false] at h'
           obtain ⟨k,stf,h1,h2⟩:=next h'
           refine wrap (k:=k+1) (stf:=stf) ?_ h2
           unfold rfRun
           dsimp only
           rw [hcs]
           dsimp only
           rw [dif_pos hj2,hon]
           dsimp only
           rw [he,cond_false]
           exact (rfIter_mono (fun _ _ h=>exec_mono h (Nat.le_succ k)) (fun _ _ h=>exec_mono h (Nat.le_succ k)) _ _ (Nat.le_refl _) _ _ _).1 h1
          | true=>
           rw [he,cond_true] at h'
           obtain ⟨ex2,st2,⟨kA,hA⟩,h2⟩:=execQ_le hk (f:=f) _ _ _ _ h'
           cases ex2 with
           | exit id=>cases h2
           | ret=>cases h2
           | normal=>
           obtain ⟨ex3,st3,⟨kB,hB⟩,h3⟩:=execQ_le hk (f:=f) _ _ _ _ h2
           cases ex3 with
           | exit id=>cases h3
           | ret=>cases h3
           | normal=>
           obtain ⟨k,stf,h1,h2⟩:=next h3
           have k1:k≤max (k+1) (max kA kB):=by omega
           have k2:kA≤max (k+1) (max kA kB):=by omega
           have k3:kB≤max (k+1) (max kA kB):=by omega
           refine wrap (k:=max (k+1) (max kA kB)) (stf:=stf) ?_ h2
           unfold rfRun
           dsimp only
           rw [hcs]
           dsimp only
           rw [dif_pos hj2,hon]
           dsimp only
           rw [he,cond_true,exec_mono hA k2]
           dsimp only
           rw [exec_mono hB k3]
           exact (rfIter_mono (fun _ _ h=>exec_mono h k1) (fun _ _ h=>exec_mono h k1) _ _ (by omega) _ _ _).1 h1
         ·cases h'
        ·cases h'
      ·cases h'
     ·cases h'
    ·cases h'
   ·cases h
noncomputable def bodyP (E:Env) (ck:CK ρ) (kk:PK ρ) (gc:Bool) (f:FuncId) (fn:Func) (c:Code) (args:List S) (h:Heap) (K:S→Heap→Option ρ):Option ρ:=
 bif args.length.ble fn.ntmps then execP E ck kk f fn.ntmps gc c ⟨frOf 0 args,h⟩ (endK E fn K) else none
theorem bodyP_run {E:Env} {ck:CK ρ} (hk:CKI E ck) {f:FuncId} {fn:Func} {gc:Bool} {c:Code} {K:S→Heap→Option ρ} (hf:E.fn f=some fn) (hb:fn.body=some c) (hn:namesOk ((pts c []).map (·.1))=true) {n:Nat} {args:List S} {h:Heap} {x:ρ}
  (hx:bodyP E ck (ptH E ck f fn.ntmps gc (pts c []) (endK E fn K) n) gc f fn c args h K=some x):∃ k p,runBody E gc k f args h=some p∧K p.1 p.2=some x:=by
 unfold bodyP at hx
 cases hl:args.length.ble fn.ntmps with
 | false=>rw [hl] at hx;cases hx
 | true=>
  rw [hl,cond_true] at hx
  obtain ⟨ex,st',⟨k,h1⟩,h2⟩:=execP_fin hk (ptH_ok hk hn n) c [] _ (fun _ h=>h) (fun _ _ _ h=>h) _ _ hx
  have h2:endK E fn K ex st'=some x:=h2
  have go:isEnd ex=true→(resS E.P st' fn.results.toList).bind (fun vs=>K (resultS vs) st'.h)=some x→∃ k p,runBody E gc k f args h=some p∧K p.1 p.2=some x:=fun he h3=>by
   obtain ⟨vs,q1,q2⟩:=Option.bind_eq_some_iff.1 h3
   refine ⟨k,(resultS vs,st'.h),?_,q2⟩
   unfold runBody
   rw [hf]
   dsimp only
   rw [hb]
   dsimp only
   rw [hl,cond_true,h1,Option.bind_some,he,cond_true,q1];rfl
  cases ex with
  | normal=>exact go rfl h2
  | ret=>exact go rfl h2
  | exit id=>cases h2
end
theorem W_ptsG {O:Opts} (hinp:∀ g,(O.live (2000000+g) 0).isSome=true→(O.ext (2000000+g)).isSome=true) {f:FuncId} {fn:Func} {c:Code} (hf:(W O).fn f=some fn) (hb:fn.body=some c) (hfns:O.fns f=true) (hext:O.ext f=none) (hn:namesOk ((pts c []).map (·.1))=true) {n:Nat} {args:List S} {x:S}
  (h:bodyP (EY O (regs O)) (orc O.P (regs O)) (ptH (EY O (regs O)) (orc O.P (regs O)) f fn.ntmps true (pts c []) (endK (EY O (regs O)) fn (topX O.P f)) n) true f fn c args .empty (topX O.P f)=some x):(W O).callT f args=some x:=by
 obtain ⟨k,p,h1,h2⟩:=bodyP_run (E:=EY O (regs O)) ⟨orc_ok rfl,fun g hg az h=>by
  obtain ⟨F,hF⟩:=Option.isSome_iff_exists.1 (hinp g hg)
  show inlY O (regs O) g az h=_
  unfold inlY
  rw [hF]
  rfl⟩ hf hb hn h
 exact W_run hfns hext h1 (topX_le h2)
end Go.Proofs.YtonkoellfaopiaaGreatDoor.H
