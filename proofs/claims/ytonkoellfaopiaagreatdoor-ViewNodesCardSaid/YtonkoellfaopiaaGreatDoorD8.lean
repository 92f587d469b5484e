import Derived.Test.YtonkoellfaopiaaGreatDoorD7
set_option linter.unusedSimpArgs false
set_option linter.unusedVariables false
set_option linter.unusedSectionVars false
namespace Go.Proofs.YtonkoellfaopiaaGreatDoor.H
open Go
section
variable {ρ:Type}
abbrev PK (ρ:Type):=Nat→Nat→Nat→St→Option ρ
section
variable {E:Env} {ck:CK ρ}
noncomputable def AW (get:Nat→Option B) (d:Nat) (s:S) (K:S→List Nat→Option ρ):Option ρ:=match s with
 | .mp b=>(match d,get b with
  | d+1,some (.mp _ es)=>bL d es (K (.mt es) [b])
  | _,_=>none)
 | .mt es=>(match d with
  | d+1=>bL d es (K (.mt es) [])
  | 0=>none)
 | s=>(cd get d s).bind fun p=>K p.1 p.2
theorem og {d:Nat} {es:List (S × S)} {K:Option ρ} {x:ρ} (h:bL d es K=some x):RO d es∧K=some x:=by
 unfold bL at h
 split at h
 ·rename_i hx;exact ⟨hx,h⟩
 ·cases h
theorem xw {get:Nat→Option B} {d:Nat} {s:S} {K:S→List Nat→Option ρ} {x:ρ} (h:AW get d s K=some x):∃ p,cd get d s=some p∧K p.1 p.2=some x:=by
 unfold AW at h
 split at h
 ·rename_i b
  split at h
  ·rename_i d f es hb
   obtain ⟨h1,h2⟩:=og h
   exact ⟨(.mt es,[b]),by unfold cd;simp only [hb,h1.close],h2⟩
  ·cases h
 ·rename_i es
  split at h
  ·obtain ⟨h1,h2⟩:=og h
   exact ⟨(.mt es,[]),by unfold cd;simp only [h1.close],h2⟩
  ·cases h
 ·exact Option.bind_eq_some_iff.1 h
noncomputable def yu (get:Nat→Option B):Nat→List S→(List S→List Nat→Option ρ)→Option ρ
 | 0,_,_=>none
 | _+1,[],K=>K [] []
 | d+1,c::cs,K=>AW get d c fun x l=>yu get d cs fun xs l'=>K (x::xs) (l++l')
theorem tn {get:Nat→Option B} {x:ρ}:∀ {d:Nat} {cs:List S} {K:List S→List Nat→Option ρ},yu get d cs K=some x→∃ p,gg get d cs=some p∧K p.1 p.2=some x
 | 0,_,_,h=>by cases h
 | _+1,[],K,h=>⟨([],[]),by unfold gg;rfl,h⟩
 | d+1,c::cs,K,h=>by
  obtain ⟨p,h1,h2⟩:=xw h
  obtain ⟨q,h3,h4⟩:=tn h2
  exact ⟨(p.1::q.1,p.2++q.2),by unfold gg;simp only [h1,h3],h4⟩
noncomputable def Gb (ck:CK ρ) (get:Nat→Option B) (f:FuncId) (args:List S) (K:S→List Nat→Option ρ):Option ρ:=
 yu get bZ args fun args' l=>ck f args' fun r=>match l with
  | []=>K r []
  | l=>bif eS bZ r then K r [] else bif l.all (rowAt get) then (match r with
   | .mt es=>bif l.all (tD get) then rT es (K r []) else none
   | r=>K r l) else none
theorem Mb {es:List (S × S)} {K:Option ρ} {x:ρ} (h:rT es K=some x):ib (.mt es)=true∧K=some x:=by
 unfold rT at h
 split at h
 ·rename_i hx;exact ⟨hx,h⟩
 ·cases h
theorem wM (hk:Hu E ck) {get:Nat→Option B} {f:FuncId} {args:List S} {K:S→List Nat→Option ρ} {x:ρ} (h:Gb ck get f args K=some x):qN ck get f args K=some x:=by
 obtain ⟨⟨a,l⟩,h1,h2⟩:=tn h
 unfold qN
 rw [h1]
 dsimp only at h2 ⊢
 rw [hk] at h2 ⊢
 obtain ⟨r,h3,h4⟩:=Option.bind_eq_some_iff.1 h2
 refine Option.bind_eq_some_iff.2 ⟨r,h3,?_⟩
 cases l with
 | nil=>
  dsimp only at h4
  cases eS bZ r with
  | true=>exact h4
  | false=>
   show (bif ib r && true then K r [] else K r [])=some x
   cases ib r<;>exact h4
 | cons b l=>
  dsimp only at h4 ⊢
  cases hf:eS bZ r with
  | true=>rw [hf] at h4;exact h4
  | false=>
   rw [hf,cond_false] at h4
   rw [cond_false]
   cases hr:(b::l).all (rowAt get) with
   | false=>rw [hr] at h4;cases h4
   | true=>
    rw [hr,cond_true] at h4
    rw [cond_true]
    split at h4
    ·cases hn:(b::l).all (tD get) with
     | false=>rw [hn] at h4;cases h4
     | true=>
      rw [hn,cond_true] at h4
      obtain ⟨h5,h6⟩:=Mb h4
      rw [h5,Bool.and_self,cond_true];exact h6
    ·rename_i hne
     have:ib r=false:=by
      unfold ib
      split
      ·exact absurd rfl (hne _)
      ·rfl
     rw [this,Bool.false_and,cond_false];exact h4
def QI (E:Env) (g:FuncId):Bool:=(E.live (2000000+g) 0).isSome
def ajj (E:Env):Prop:=∀ g,QI E g=true→∀ az h,E.eR g az h=kN (fun a=>E.aE (2000000+g) a) az h
structure CKI (E:Env) (ck:CK ρ):Prop where
 ck:Hu E ck
 inp:ajj E
def S7 (ck:CK ρ) (g:FuncId) (az:List S) (h:Heap) (K:S→Heap→Option ρ):Option ρ:=match az with
 | [.sl b _,.t x]=>(match h.get b with
  | some (.row false sz m g0)=>ck (2000000+g) [.t (.rows sz m g0),.t x] fun r=>(match r with
   | .t (.rows sz' m' g')=>bif sz'.beq sz then K (.bJ []) (h.put b (.row false sz m' g')) else none
   | _=>none)
  | _=>none)
 | _=>none
theorem ND {E:Env} {ck:CK ρ} (hk:Hu E ck) {g:FuncId} {az:List S} {h:Heap} {K:S→Heap→Option ρ} {x:ρ} (hx:S7 ck g az h K=some x):∃ p,kN (fun a=>E.aE (2000000+g) a) az h=some p∧K p.1 p.2=some x:=by
 unfold S7 at hx
 unfold kN
 split at hx
 ·rename_i b n t
  dsimp only
  split at hx
  ·rename_i sz m g0 hb
   rw [hk] at hx
   obtain ⟨r,h1,h2⟩:=Option.bind_eq_some_iff.1 hx
   split at h2
   ·rename_i sz' m' g'
    obtain ⟨e,h3⟩:=bP h2
    refine ⟨(.bJ [],h.put b (.row false sz m' g')),?_,h3⟩
    try simp only [hb]
    rw [h1]
    dsimp only
    rw [e];rfl
   ·cases h2
  ·cases hx
 ·cases hx
noncomputable def Sp (E:Env) (ck:CK ρ) (ro:Bool) (get:Nat→Option B) (h:Heap) (g:FuncId) (az:List S) (K:S→Heap→Option ρ):Option ρ:=
 bif ro then (bif !E.fnOk g || E.inl g then none else Gb ck get g az fun r l=>match l with | []=>K r h | _=>none)
 else bif !E.fnOk g then none else bif E.inl g then (bif QI E g then S7 ck g az h K else (E.eR g az h).bind fun p=>K p.1 p.2) else Gb ck h.get g az fun r l=>K r (h.freeze l)
theorem TU (hk:CKI E ck) {ro:Bool} {get:Nat→Option B} {h:Heap} {g:FuncId} {az:List S} {K:S→Heap→Option ρ} {x:ρ} (hx:Sp E ck ro get h g az K=some x):Df E ck ro get h g az K=some x:=by
 unfold Sp at hx
 unfold Df
 cases ro with
 | true=>
  rw [cond_true] at hx ⊢
  cases hq:(!E.fnOk g || E.inl g) with
  | true=>rw [hq] at hx;cases hx
  | false=>rw [hq,cond_false] at hx;rw [cond_false];exact wM hk.ck hx
 | false=>
  rw [cond_false] at hx ⊢
  cases hq:!E.fnOk g with
  | true=>rw [hq] at hx;cases hx
  | false=>
   rw [hq,cond_false] at hx
   rw [cond_false]
   cases hi:E.inl g with
   | true=>
    rw [hi,cond_true] at hx
    rw [cond_true]
    cases hp:QI E g with
    | false=>rw [hp,cond_false] at hx;exact hx
    | true=>
     rw [hp,cond_true] at hx
     obtain ⟨p,h1,h2⟩:=ND hk.ck hx
     rw [hk.inp g hp az h,h1]
     exact h2
   | false=>rw [hi,cond_false] at hx;rw [cond_false];exact wM hk.ck hx
def adS (get:Nat→Option B) (x:S):Option (List (S × S)):=match x with
 | .mp b=>(match get b with | some (.mp _ es)=>some es | _=>none)
 | .mt es=>some es
 | _=>none
noncomputable def OQ (E:Env) (get:Nat→Option B) (t:TypeId) (x k:S) (ok:Bool) (K:S→Option ρ):Option ρ:=
 match E.P.underlying t with
 | some (.map kt et)=>bif !fV E.P E.K kt k then none else
  (match adS get x,shV E.P et 0 with
   | some es,some (sh,_)=>lookW E.P E.K kt et es k (fun y=>K (bif ok then .bJ [build y sh,sv (.bool true)] else build y sh))
    ((mS E.P et).bind fun z=>K (bif ok then .bJ [z,sv (.bool false)] else z))
   | _,_=>none)
 | _=>none
theorem Pu {get:Nat→Option B} {t:TypeId} {x k:S} {ok:Bool} {K:S→Option ρ} {r:ρ} (h:OQ E get t x k ok K=some r):∃ s,wo E.P E.K get t x k ok=some s∧K s=some r:=by
 unfold OQ at h
 unfold wo
 split at h
 ·rename_i kt et hu
  rw [hu]
  dsimp only
  cases hq:!fV E.P E.K kt k with
  | true=>rw [hq] at h;cases h
  | false=>
   rw [hq,cond_false] at h
   rw [cond_false]
   split at h
   ·rename_i es sh j he hs
    have gen:∃ s,((eT E.P E.K kt k es 0).bind fun r=>match r with
       | some (_,v)=>some (bif ok then .bJ [v,sv (.bool true)] else v)
       | none=>(mS E.P et).map fun z=>bif ok then .bJ [z,sv (.bool false)] else z)=some s∧K s=some r:=by
     unfold lookW at h
     rw [hs] at h
     split at h
     ·rename_i sh' j' i v hs' hf
      obtain ⟨rfl,rfl⟩:sh=sh'∧j=j':=by simpa using hs'
      obtain ⟨y,hy,hK⟩:=Option.bind_eq_some_iff.1 h
      rw [hf]
      rw [tu hy] at hK
      exact ⟨_,rfl,hK⟩
     ·rename_i hf
      rw [hf]
      obtain ⟨z,hz,hK⟩:=Option.bind_eq_some_iff.1 h
      exact ⟨_,by simp only [Option.bind_some,hz,Option.map_some],hK⟩
     ·cases h
    unfold adS at he
    split at he
    ·rename_i b
     dsimp only
     cases hb:get b with
     | none=>rw [hb] at he;cases he
     | some z=>
      rw [hb] at he
      cases z with
      | mp f es'=>obtain rfl:=Option.some.inj he;exact gen
      | _=>cases he
    ·obtain rfl:=Option.some.inj he
     exact gen
    ·cases he
   ·cases h
 ·cases h
noncomputable def YX (E:Env) (h:Heap) (t:TypeId) (m k v:S) (K:Heap→Option ρ):Option ρ:=
 match E.P.underlying t,m with
 | some (.map kt _),.mp b=>
  (match cd h.get bZ k,cd h.get bZ v with
   | some (k',l1),some (v',l2)=>bif !fV E.P E.K kt k' || l1.contains b || l2.contains b || !l1.all (rowAt h.get) || !l2.all (rowAt h.get) then none else
    (match h.get b with
    | some (.mp false es)=>n_ E.P E.K kt es k' v' fun es=>K (((h.freeze l1).freeze l2).put b (.mp false es))
    | _=>none)
   | _,_=>none)
 | _,_=>none
theorem W5 {h:Heap} {t:TypeId} {m k v:S} {K:Heap→Option ρ} {r:ρ} (hx:YX E h t m k v K=some r):∃ h',Cj E.P E.K h t m k v=some h'∧K h'=some r:=by
 unfold YX at hx
 unfold Cj
 split at hx
 ·rename_i kt et b hu
  rw [hu]
  dsimp only
  split at hx
  ·rename_i k' l1 v' l2 h1 h2
   rw [h1,h2]
   dsimp only
   generalize hq:(!fV E.P E.K kt k' || l1.contains b || l2.contains b || !l1.all (rowAt h.get) || !l2.all (rowAt h.get))=q at hx
   cases q with
   | true=>cases hx
   | false=>
    rw [cond_false] at hx ⊢
    split at hx
    ·rename_i es hb
     rw [hb]
     dsimp only
     unfold n_ at hx
     split at hx
     ·rename_i i x hf
      rw [hf]
      exact ⟨_,rfl,hx⟩
     ·rename_i hf
      rw [hf]
      exact ⟨_,rfl,hx⟩
     ·cases hx
    ·cases hx
  ·cases hx
 ·cases hx
noncomputable def PU (P:Program) (cw:Bool) (get:Nat→Option B) (t:TypeId) (x:S) (K:S→Option ρ):Option ρ:=match x with
 | .pt cs=>bif cw then (match shV P t 0 with
   | some (sh,_)=>ff P t cs fun y=>K (build y sh)
   | none=>none) else vi P get t (.pt cs) K
 | .ep b z i o=>(match get b with
  | some (.row _ sz n g)=>Ln i n fun h=>bif z.beq sz && (o+P.cellsOf t).ble sz then (match shV P t 0 with
   | some (sh,_)=>ff P t ((g ⟨i,h⟩).drop o) fun y=>K (build y sh)
   | none=>none) else none
  | _=>vi P get t x K)
 | x=>vi P get t x K
theorem SH {P:Program} {cw:Bool} {get:Nat→Option B} {t:TypeId} {x:S} {K:S→Option ρ} {r:ρ} (hx:PU P cw get t x K=some r):∃ s,gT P get t x=some s∧K s=some r:=by
 have gen:vi P get t x K=some r→∃ s,gT P get t x=some s∧K s=some r:=fun h=>by
  rw [Cd] at h
  exact Option.bind_eq_some_iff.1 h
 unfold PU at hx
 split at hx
 ·rename_i cs
  cases cw with
  | false=>exact gen hx
  | true=>
   rw [cond_true] at hx
   split at hx
   ·rename_i sh j hs
    unfold ff at hx
    rw [hs] at hx
    obtain ⟨y,h1,h2⟩:=Option.bind_eq_some_iff.1 hx
    obtain ⟨s,h3,h4⟩:=Option.bind_eq_some_iff.1 h1
    rw [tu h4] at h2
    exact ⟨s,h3,h2⟩
   ·cases hx
 ·rename_i b z i o
  split at hx
  ·rename_i f sz n g hb
   unfold Ln at hx
   split at hx
   ·rename_i hi
    dsimp only at hx
    cases hq:(z.beq sz && (o+P.cellsOf t).ble sz) with
    | false=>rw [hq] at hx;cases hx
    | true=>
     rw [hq,cond_true] at hx
     split at hx
     ·rename_i sh j hs
      unfold ff at hx
      rw [hs] at hx
      obtain ⟨y,h1,h2⟩:=Option.bind_eq_some_iff.1 hx
      obtain ⟨s,h3,h4⟩:=Option.bind_eq_some_iff.1 h1
      rw [tu h4] at h2
      refine ⟨s,?_,h2⟩
      unfold gT
      simp only [hb,dif_pos hi,hq,cond_true]
      exact h3
     ·cases hx
   ·cases hx
  ·exact gen hx
 ·exact gen hx
noncomputable def N5 (E:Env) (ck:CK ρ) (cw dr:Bool) (get:Nat→Option B) (id:Nat) (fr:Fr) (h:Heap) (op:Op) (K:S→Heap→Option ρ):Option ρ:=
 match op with
 | .load t a=>PU E.P cw (bif dr then get else h.get) t (ev fr a) fun s=>K s h
 | .lookup t x k ok=>OQ E (bif dr then get else h.get) t (ev fr x) (ev fr k) ok fun s=>K s h
 | .mapUpdate t m k v=>YX E h t (ev fr m) (ev fr k) (ev fr v) fun h=>K .ud h
 | .call { callee:=.value f,args,.. }=>(match fX fr f (args.toList.map (ev fr)) with
  | some (g,az)=>Sp E ck (match f with | .func f=>!E.inl f && dr | _=>false) get h g az K
  | none=>none)
 | op=>lX E ck dr get id fr h op K
theorem Qk (hk:CKI E ck) {cw dr:Bool} {get:Nat→Option B} {id:Nat} {fr:Fr} {h:Heap} {op:Op} {K:S→Heap→Option ρ} {x:ρ} (hx:N5 E ck cw dr get id fr h op K=some x):∃ p,bx E dr get id fr h op=some p∧K p.1 p.2=some x:=by
 have gen:lX E ck dr get id fr h op K=some x→∃ p,bx E dr get id fr h op=some p∧K p.1 p.2=some x:=fun hx=>by
  rw [PZ hk.ck] at hx
  exact Option.bind_eq_some_iff.1 hx
 unfold N5 at hx
 split at hx
 ·rename_i t a
  obtain ⟨s,h1,h2⟩:=SH hx
  refine ⟨(s,h),?_,h2⟩
  cases dr with
  | true=>
   rw [cond_true] at h1
   simp only [bx,cp,dN,cond_true,cb,h1,Option.map_some]
  | false=>
   rw [cond_false] at h1
   simp only [bx,cp,dN,cond_false,cb,h1,Option.map_some]
 ·rename_i t a k ok
  obtain ⟨s,h1,h2⟩:=Pu hx
  refine ⟨(s,h),?_,h2⟩
  cases dr with
  | true=>
   rw [cond_true] at h1
   simp only [bx,cp,dN,cond_true,cb,h1,Option.map_some]
  | false=>
   rw [cond_false] at h1
   simp only [bx,cp,dN,cond_false,cb,h1,Option.map_some]
 ·rename_i t m k v
  obtain ⟨h',h1,h2⟩:=W5 hx
  exact ⟨(.ud,h'),by simp only [bx,cp,dN,cf,h1,Option.map_some],h2⟩
 ·rename_i f args argTypes
  refine gen ?_
  unfold lX
  dsimp only
  split at hx
  ·rename_i g az hc
   try simp only [hc]
   exact TU hk hx
  ·cases hx
 ·exact gen hx
noncomputable def opX (E:Env) (ck:CK ρ) (cw:Bool) (nt:Nat) (dr:Bool) (ops:Array Oper) (base:Nat) (i:Nat) (st:St) (K:St→Option ρ):Option ρ:=
 match ops[i]? with
 | none=>none
 | some o=>Pj ops st.fr o fun w fr=>
  bif w then (bif !dr || jz ops i o fr then N5 E ck cw dr (fun b=>bif b.blt base || allowed o (b - base) then st.h.get b else none) (base+i) fr st.h o.op fun s h=>(jm nt fr o.dst s).bind fun fr=>K ⟨fr,h⟩ else none)
  else (jm nt fr o.dst .ud).bind fun fr=>K ⟨fr,st.h⟩
theorem GJ (hk:CKI E ck) {cw:Bool} {nt:Nat} {dr:Bool} {ops:Array Oper} {base i:Nat} {st:St} {K:St→Option ρ} {x:ρ} (h:opX E ck cw nt dr ops base i st K=some x):∃ st1,jL E nt dr ops base i st=some st1∧K st1=some x:=by
 unfold opX at h
 unfold jL
 cases ho:ops[i]? with
 | none=>rw [ho] at h;cases h
 | some o=>
  rw [ho] at h
  dsimp only at h ⊢
  rw [NH] at h
  obtain ⟨⟨w,fr⟩,h1,h2⟩:=Option.bind_eq_some_iff.1 h
  rw [h1]
  dsimp only at h2 ⊢
  cases w with
  | true=>
   rw [cond_true] at h2
   obtain ⟨hl,h2⟩:=bP h2
   obtain ⟨p,h3,h4⟩:=Qk hk h2
   obtain ⟨fr',h5,h6⟩:=Option.bind_eq_some_iff.1 h4
   refine ⟨⟨fr',p.2⟩,?_,h6⟩
   simp only [Option.bind_some,cond_true,hl,h3,h5,Option.map_some]
  | false=>
   rw [cond_false] at h2
   obtain ⟨fr',h5,h6⟩:=Option.bind_eq_some_iff.1 h2
   refine ⟨⟨fr',st.h⟩,?_,h6⟩
   simp only [Option.bind_some,cond_false,h5,Option.map_some]
end
noncomputable def Ad (P:Program) (f:FuncId) (r:S) (h:Heap):Option S:=bif BS f then (yb h.get bZ r).map fun p=>oU P f p.1 else AW h.get bZ r fun s _=>some (oU P f s)
theorem WK {P:Program} {f:FuncId} {r:S} {h:Heap} {x:S} (hx:Ad P f r h=some x):ZX P f r h=some x:=by
 unfold Ad at hx
 unfold ZX mE
 cases e:BS f with
 | true=>rw [e] at hx;exact hx
 | false=>
  rw [e,cond_false] at hx
  obtain ⟨p,h1,h2⟩:=xw hx
  rw [cond_false,h1]
  exact h2
section
def G_:B→List Nat
 | .mp _ _=>[]
 | b=>IS b
def NF (m:Nat→Option Nat):B→Option B
 | .mp fz es=>some (.mp fz es)
 | b=>Fv m b
def hU (h:Heap):Nat→List Nat→List Nat→List Nat
 | 0,_,seen=>seen.reverse
 | _+1,[],seen=>seen.reverse
 | f+1,b::todo,seen=>bif seen.contains b then hU h f todo seen else
  match h.get b with
  | some x=>hU h f (G_ x++todo) (b::seen)
  | none=>hU h f todo (b::seen)
def mI (m:Nat→Option Nat) (h:Heap):List Nat→Nat→Option (Tr B)
 | [],_=>some .leaf
 | b::r,i=>match h.get b with
  | some x=>(NF m x).bind fun x=>(mI m h r (i+1)).map fun t=>t.set i (some x)
  | none=>mI m h r (i+1)
noncomputable def pn (h:Heap):List Nat→Option ρ→Option ρ
 | [],K=>K
 | b::r,K=>match h.get b with
  | some (.mp _ es)=>bL 900 es (pn h r K)
  | _=>pn h r K
noncomputable def Bk (bO:List Nat) (st:St) (K:St→Option ρ):Option ρ:=
 let ids:=hU st.h 1000 (mf st.fr bO) []
 let m:=fun b=>nv ids b 0
 pn st.h ids ((j1 m st.fr bO).bind fun fr=>(mI m st.h ids 0).bind fun t=>K ⟨fr,⟨ids.length,t⟩⟩)
def Ik (h:Heap) (b:Nat):Prop:=∀ x,h.get b=some x→G_ x=IS x∧∀ m,NF m x=Fv m x
theorem lz {h:Heap} {x:ρ}:∀ {ids:List Nat} {K:Option ρ},pn h ids K=some x→(∀ b∈ids,Ik h b)∧K=some x
 | [],K,hx=>⟨(fun b hb=>by cases hb),hx⟩
 | b::r,K,hx=>by
  unfold pn at hx
  split at hx
  ·rename_i f es hb
   obtain ⟨h1,h2⟩:=og hx
   obtain ⟨h3,h4⟩:=lz h2
   refine ⟨fun c hc=>?_,h4⟩
   rcases List.mem_cons.1 hc with rfl | hc
   ·intro y hy
    rw [hb] at hy
    obtain rfl:=Option.some.inj hy
    exact ⟨by simp only [G_,IS,h1.refs],fun m=>by simp only [NF,Fv,h1.ren,Option.map_some]⟩
   ·exact h3 c hc
  ·rename_i hb
   obtain ⟨h3,h4⟩:=lz hx
   refine ⟨fun c hc=>?_,h4⟩
   rcases List.mem_cons.1 hc with rfl | hc
   ·intro y hy
    cases y with
    | mp f es=>exact absurd hy (hb f es)
    | _=>exact ⟨rfl,fun _=>rfl⟩
   ·exact h3 c hc
theorem jj {h:Heap}:∀ (f:Nat) (todo seen:List Nat) (b:Nat),b∈seen→b∈hU h f todo seen
 | 0,_,seen,b,hb=>by unfold hU;simpa using hb
 | _+1,[],seen,b,hb=>by unfold hU;simpa using hb
 | f+1,c::todo,seen,b,hb=>by
  unfold hU
  cases seen.contains c with
  | true=>exact jj f todo seen b hb
  | false=>
   rw [cond_false]
   cases h.get c with
   | none=>exact jj f _ _ b (List.mem_cons_of_mem _ hb)
   | some x=>exact jj f _ _ b (List.mem_cons_of_mem _ hb)
theorem lJ {h:Heap}:∀ (f:Nat) (todo seen:List Nat),(∀ b∈hU h f todo seen,Ik h b)→jO h f todo seen=hU h f todo seen
 | 0,_,seen,_=>rfl
 | _+1,[],seen,_=>rfl
 | f+1,c::todo,seen,hx=>by
  unfold hU at hx ⊢
  unfold jO
  cases hs:seen.contains c with
  | true=>
   rw [hs,cond_true] at hx
   exact lJ f todo seen hx
  | false=>
   rw [hs,cond_false] at hx
   rw [cond_false,cond_false]
   cases hc:h.get c with
   | none=>
    rw [hc] at hx
    exact lJ f todo _ hx
   | some x=>
    rw [hc] at hx
    dsimp only at hx ⊢
    have:=hx c (jj f _ _ c List.mem_cons_self)
    rw [← (this x hc).1]
    exact lJ f _ _ hx
theorem mD {m:Nat→Option Nat} {h:Heap}:∀ (ids:List Nat) (i:Nat),(∀ b∈ids,Ik h b)→mI m h ids i=j3 m h ids i
 | [],_,_=>rfl
 | b::r,i,hx=>by
  unfold mI j3
  cases hb:h.get b with
  | none=>exact mD r _ fun c hc=>hx c (List.mem_cons_of_mem _ hc)
  | some x=>
   dsimp only
   rw [(hx b List.mem_cons_self x hb).2,mD r _ fun c hc=>hx c (List.mem_cons_of_mem _ hc)]
theorem xa {bO:List Nat} {st:St} {K:St→Option ρ} {x:ρ} (h:Bk bO st K=some x):∃ st',clean bO st=some st'∧K st'=some x:=by
 unfold Bk at h
 obtain ⟨h1,h2⟩:=lz h
 obtain ⟨fr,h3,h4⟩:=Option.bind_eq_some_iff.1 h2
 obtain ⟨t,h5,h6⟩:=Option.bind_eq_some_iff.1 h4
 refine ⟨_,?_,h6⟩
 unfold clean
 simp only [lJ _ _ _ h1,h3,Option.bind_some]
 rw [← mD _ _ h1,h5]
 rfl
noncomputable def jP (E:Env) (f:FuncId) (gc:Bool) (key:Nat) (st:St) (K:St→Option ρ):Option ρ:=
 bif gc then (match E.live f key with
  | some bO=>Bk bO st fun st=>K (iJ (fM E.live f key) st)
  | none=>K st) else K st
theorem kc {E:Env} {f:FuncId} {gc:Bool} {key:Nat} {st:St} {K:St→Option ρ} {x:ρ} (h:jP E f gc key st K=some x):∃ st',fP E f gc key st=some st'∧K st'=some x:=by
 unfold jP at h
 unfold fP
 cases gc with
 | false=>exact ⟨st,rfl,h⟩
 | true=>
  rw [cond_true] at h ⊢
  cases hl:E.live f key with
  | none=>rw [hl] at h;exact ⟨st,rfl,h⟩
  | some bO=>
   rw [hl] at h
   obtain ⟨st',h1,h2⟩:=xa h
   exact ⟨_,by show gX _ _ _=_;unfold gX;rw [h1];rfl,h2⟩
noncomputable def CM (E:Env) (f:FuncId) (gc:Bool) (key:Nat) (st:St) (K:St→Option ρ):Option ρ:=
 jP E f gc key st fun st=>bif gc then (match iy (zB E.live f key) st with
  | some st=>K st
  | none=>none) else K st
theorem Dj {E:Env} {f:FuncId} {gc:Bool} {key:Nat} {st:St} {K:St→Option ρ} {x:ρ} (h:CM E f gc key st K=some x):∃ st',so E f gc key st=some st'∧K st'=some x:=by
 obtain ⟨st1,h1,h2⟩:=kc h
 unfold so
 rw [h1]
 cases gc with
 | false=>exact ⟨st1,rfl,h2⟩
 | true=>
  rw [cond_true] at h2
  cases e:iy (zB E.live f key) st1 with
  | none=>rw [e] at h2;cases h2
  | some st2=>rw [e] at h2;exact ⟨st2,e,h2⟩
noncomputable def sI (E:Env) (f:FuncId) (gc:Bool) (r:Nat) (K:Ex→St→Option ρ):Ex→St→Option ρ
 | .normal,_=>none
 | .exit id,st=>CM E f gc (3*r+1) st (K (.exit id))
 | .ret,st=>jP E f gc (3*r+2) st (K .ret)
theorem vd {E:Env} {f:FuncId} {gc:Bool} {r:Nat} {K:Ex→St→Option ρ} {ex:Ex} {st:St} {x:ρ} (h:sI E f gc r K ex st=some x):∃ p,kz E f gc r ex st=some p∧K p.1 p.2=some x:=by
 cases ex with
 | normal=>cases h
 | exit id=>
  obtain ⟨st',h1,h2⟩:=Dj h
  exact ⟨(.exit id,st'),by unfold kz;dsimp only;rw [h1];rfl,h2⟩
 | ret=>
  obtain ⟨st',h1,h2⟩:=kc h
  exact ⟨(.ret,st'),by unfold kz;dsimp only;rw [h1];rfl,h2⟩
end
def PL (ops:Array Oper) (i:Nat):Bool:=match ops[i]? with
 | some o=>(match o.op with
  | .pick .. => o.guard.isNone
  | _=>false)
 | none=>false
noncomputable def Mz (E:Env) (ck:CK ρ) (kk:PK ρ) (cut cw:Bool) (r nt:Nat) (dr:Bool) (ops:Array Oper) (base:Nat):List Nat→St→(St→Option ρ)→Option ρ
 | [],st,K=>K st
 | i::l,st,K=>bif cut && PL ops (i - 1) then kk r (i+1) base st else opX E ck cw nt dr ops base i st fun st=>Mz E ck kk cut cw r nt dr ops base l st K
def Qi (E:Env) (f r:Nat):Bool:=(E.live f (3000000+r)).isNone
def N4 (E:Env) (f r:Nat):Bool:=(E.live f (4000000+r)).isSome
def NP (fr:Fr) (bO:List Nat):Option Fr:=j1 (fun b=>some b) fr bO
def nx:List Nat→Bool
 | _::o::_::r=>!o.beq 0 && nx r
 | _=>true
noncomputable def qt (E:Env) (f r nt:Nat) (bO:List Nat) (j:Nat) (n:Nat) (g:Fin n→List T) (st:St) (kk:PK ρ):Option ρ:=
 Bk bO st fun st1=>kk r 0 0 ⟨((iJ (fM E.live f (3*r)) st1).fr.set nt (some (.sl 0 j))).set (nt+1) (some (.t (.rows 0 n g))),(iJ (fM E.live f (3*r)) st1).h⟩
def Hz (P:Program) (sp:jE) (get:Nat→Option B) (b1:Nat) (K:(n:Nat)→(Fin n→List T)→Option ρ):Option ρ:=match gQ P sp.ts sp.fi,get b1 with
 | some (o,_),some (.box cs)=>(match cs[o]? with
  | some (.t (.rows sz n g))=>bif sz.beq (P.cellsOf sp.te) then (bif ((n*1).ble bE && n.ble bE) then K n g else none) else none
  | _=>none)
 | _,_=>none
theorem MD {P:Program} {sp:jE} {get:Nat→Option B} {b1:Nat} {K:(n:Nat)→(Fin n→List T)→Option ρ} {x:ρ} (h:Hz P sp get b1 K=some x):∃ n g,IU P sp get b1=some ⟨n,g⟩∧K n g=some x:=by
 unfold Hz at h
 unfold IU
 split at h
 ·rename_i o t cs h1 h2
  split at h
  ·rename_i sz n g h3
   cases e1:sz.beq (P.cellsOf sp.te) with
   | false=>rw [e1] at h;cases h
   | true=>
    rw [e1,cond_true] at h
    cases e2:((n*1).ble bE && n.ble bE) with
    | false=>rw [e2] at h;cases h
    | true=>
     rw [e2,cond_true] at h
     refine ⟨n,g,?_,h⟩
     try simp only [h1,h2,h3]
     rw [e1,e2];rfl
  ·cases h
 ·cases h
noncomputable def jC (E:Env) (ck:CK ρ) (kk:PK ρ) (f:FuncId) (nt:Nat) (gc:Bool):Code→St→(Ex→St→Option ρ)→Option ρ
 | .skip,st,K=>K .normal st
 | .region r ops draw,st,K=>Mz E ck kk (Qi E f r) (N4 E f r) r nt draw ops st.h.next (List.range ops.size) ⟨st.fr,⟨st.h.next+ops.size,st.h.tr⟩⟩ fun st=>K .normal st
 | .seq a b,st,K=>jC E ck kk f nt gc a st fun ex st=>match ex with
  | .normal=>jC E ck kk f nt gc b st K
  | ex=>K ex st
 | .cond c a b,st,K=>match ev st.fr c with
  | .t (.v (.bool p))=>bif p then jC E ck kk f nt gc a st K else jC E ck kk f nt gc b st K
  | _=>none
 | .block id b,st,K=>jC E ck kk f nt gc b st fun ex st=>match ex with
  | .exit i=>bif i.beq id then K .normal st else K (.exit i) st
  | ex=>K ex st
 | .loop b,st,_=>jP E f gc (3*bH b) st (kk (bH b) 0 0)
 | .exit id,st,K=>K (.exit id) st
 | .ret,st,K=>K .ret st
 | .rangeFunc q ps az bd,st,_=>(match Cx ps,oJ E.live f (bH az),E.live f (3*bH az) with
  | some p,some sp,some bO=>bif gc && (AG bO p az bd && p.blt nt) && (nx (fM E.live f (3*bH az)) && bO.all (fun t=>t.blt nt)) then
    (match ln (ev st.fr q) sp.g with
     | some b=>Hz E.P sp st.h.get b.1 fun n g=>qt E f (bH az) nt bO 0 n g st kk
     | none=>none) else none
  | _,_,_=>none)
 | _,_,_=>none
noncomputable def aaZ (E:Env) (ck:CK ρ) (nt:Nat) (dr:Bool) (ops:Array Oper) (base:Nat):List Nat→St→(St→Option ρ)→Option ρ
 | [],st,K=>K st
 | i::l,st,K=>opX E ck false nt dr ops base i st fun st=>aaZ E ck nt dr ops base l st K
def nrm (st:St) (K:St→Option ρ):Option ρ:=K st
noncomputable def KZ (F:St→(Ex→St→Option ρ)→Option ρ):Nat→St→(Ex→St→Option ρ)→Option ρ
 | 0,_,_=>none
 | k+1,st,K=>F st fun ex st=>match ex with
  | .normal=>nrm st fun st=>KZ F k st K
  | ex=>K ex st
noncomputable def j7 (E:Env) (ck:CK ρ) (nt:Nat) (n:Nat):Code→St→(Ex→St→Option ρ)→Option ρ
 | .skip,st,K=>K .normal st
 | .region _ ops draw,st,K=>aaZ E ck nt draw ops st.h.next (List.range ops.size) ⟨st.fr,⟨st.h.next+ops.size,st.h.tr⟩⟩ fun st=>K .normal st
 | .seq a b,st,K=>j7 E ck nt n a st fun ex st=>match ex with
  | .normal=>j7 E ck nt n b st K
  | ex=>K ex st
 | .cond c a b,st,K=>match ev st.fr c with
  | .t (.v (.bool p))=>bif p then j7 E ck nt n a st K else j7 E ck nt n b st K
  | _=>none
 | .block id b,st,K=>j7 E ck nt n b st fun ex st=>match ex with
  | .exit i=>bif i.beq id then K .normal st else K (.exit i) st
  | ex=>K ex st
 | .loop b,st,K=>KZ (j7 E ck nt n b) n st K
 | .exit id,st,K=>K (.exit id) st
 | .ret,st,K=>K .ret st
 | _,_,_=>none
inductive M5 where
 | seq (b:Code)
 | block (id:Nat)
 | loop (b:Code)
noncomputable def kU (E:Env) (ck:CK ρ) (kk:PK ρ) (f:FuncId) (nt:Nat) (gc:Bool) (KE:Ex→St→Option ρ):List M5→Ex→St→Option ρ
 | [],ex,st=>KE ex st
 | .seq b::l,ex,st=>(match ex with
  | .normal=>jC E ck kk f nt gc b st (kU E ck kk f nt gc KE l)
  | ex=>kU E ck kk f nt gc KE l ex st)
 | .block id::l,ex,st=>(match ex with
  | .exit i=>bif i.beq id then kU E ck kk f nt gc KE l .normal st else kU E ck kk f nt gc KE l (.exit i) st
  | ex=>kU E ck kk f nt gc KE l ex st)
 | .loop b::l,ex,st=>(match ex with
  | .normal=>jP E f gc (3*bH b) st (kk (bH b) 0 0)
  | ex=>sI E f gc (bH b) (kU E ck kk f nt gc KE l) ex st)
inductive Piece where
 | head (b:Code) (l:List M5)
 | mid (ops:Array Oper) (dr:Bool) (l:List M5)
 | rf (q:Operand) (ps:Array Tmp) (az bd:Code) (l:List M5)
def jX:Code→List M5→List (Nat × Piece)
 | .region r ops dr,l=>[(2*r+1,.mid ops dr l)]
 | .seq a b,l=>jX a (.seq b::l)++jX b l
 | .cond _ a b,l=>jX a l++jX b l
 | .block id b,l=>jX b (.block id::l)
 | .loop b,l=>(2*bH b,.head b l)::jX b (.loop b::l)
 | .rangeFunc q ps az bd,l=>[(2*bH az,.rf q ps az bd l)]
 | _,_=>[]
def rJ:List (Nat × Piece)→Nat→Option Piece
 | [],_=>none
 | (i,x)::r,t=>bif i.beq t then some x else rJ r t
noncomputable def MT (E:Env) (ck:CK ρ) (kk:PK ρ) (f:FuncId) (nt:Nat) (gc:Bool) (KE:Ex→St→Option ρ) (r:Nat) (i base:Nat) (st:St):Piece→Option ρ
 | .head b l=>jC E ck kk f nt gc b st (kU E ck kk f nt gc KE (.loop b::l))
 | .mid ops dr l=>opX E ck (N4 E f r) nt dr ops base i st fun st=>Mz E ck kk (Qi E f r) (N4 E f r) r nt dr ops base ((List.range ops.size).drop (i+1)) st fun st=>kU E ck kk f nt gc KE l .normal st
 | .rf q ps az bd l=>(match Cx ps,oJ E.live f (bH az),E.live f (3*bH az),st.fr.get nt,st.fr.get (nt+1) with
  | some p,some sp,some bO,some (.sl 0 m),some (.t (.rows _ n g))=>bif gc && (AG bO p az bd && p.blt nt) && (nx (fM E.live f (3*bH az)) && bO.all (fun t=>t.blt nt)) then (match NP st.fr bO with
   | some fr=>(match ln (ev fr q) sp.g with
    | some b=>(match qn st.h.get b.2 with
     | some s=>bif bm (ay m) (ay n) then aU (ay m) n fun h=>(match FG E.P sp (g ⟨(ay m).toNat,h⟩) with
       | some r=>bif ah r s then j7 E ck nt 8 az ⟨fr.set p (some (.agg ((g ⟨(ay m).toNat,h⟩).map .t))),st.h⟩ (fun ex st2=>match ex with
         | .normal=>j7 E ck nt 8 bd st2 (fun ex st3=>match ex with
          | .normal=>qt E f (bH az) nt bO (bC m 1) n g ⟨fr,st3.h⟩ kk
          | _=>none)
         | _=>none) else qt E f (bH az) nt bO (bC m 1) n g ⟨fr,st.h⟩ kk
       | none=>none)
      else kU E ck kk f nt gc KE l .normal ⟨fr,st.h⟩
     | none=>none)
    | none=>none)
   | none=>none) else none
  | _,_,_,_,_=>none)
noncomputable def ptP (E:Env) (ck:CK ρ) (f:FuncId) (nt:Nat) (gc:Bool) (T:List (Nat × Piece)) (KE:Ex→St→Option ρ) (kk:PK ρ):PK ρ:=fun r i base st=>match i with
 | 0=>(match rJ T (2*r) with
  | some p=>MT E ck kk f nt gc KE r 0 base st p
  | none=>none)
 | i+1=>(match rJ T (2*r+1) with
  | some p=>MT E ck kk f nt gc KE r i base st p
  | none=>none)
noncomputable def M7 (E:Env) (ck:CK ρ) (f:FuncId) (nt:Nat) (gc:Bool) (T:List (Nat × Piece)) (KE:Ex→St→Option ρ):Nat→PK ρ
 | 0=>fun _ _ _ _=>none
 | n+1=>ptP E ck f nt gc T KE (M7 E ck f nt gc T KE n)
theorem cG {E:Env} {f:FuncId} {nt:Nat} {gc:Bool} {c:Code} {st:St} {k k':Nat} {y:Ex × St} (h:exec E f nt gc k c st=some y) (hk:k≤k'):exec E f nt gc k' c st=some y:=by
 obtain ⟨P,K,fnOk,inl,live,ov,t,i⟩:=E
 obtain ⟨L,M,h1,h2,h3⟩:=wY (P:=P) (K:=K) (fnOk:=fnOk) (inl:=inl) (live:=live) (ov:=ov) (t:=t) (i:=i) c h
 exact h3 t i k' h1 h2 hk
theorem wG {F G:St→Option (Ex × St)} (h:∀ st y,F st=some y→G st=some y):∀ (n:Nat) {st:St} {y:Ex × St},iter F n st=some y→iter G n st=some y
 | 0,_,_,hx=>by cases hx
 | n+1,st,y,hx=>by
  unfold iter at hx ⊢
  cases hf:F st with
  | none=>rw [hf] at hx;cases hx
  | some p=>
   rw [hf] at hx
   rw [h st p hf]
   obtain ⟨ex,st'⟩:=p
   cases ex with
   | normal=>exact wG h n hx
   | exit id=>exact hx
   | ret=>exact hx
def Sem (E:Env) (f:FuncId) (nt:Nat) (gc:Bool) (c:Code) (st:St) (ex:Ex) (st':St):Prop:=∃ k,exec E f nt gc k c st=some (ex,st')
def lr (E:Env) (f:FuncId) (nt:Nat) (gc:Bool) (KE:Ex→St→Option ρ):List M5→Ex→St→ρ→Prop
 | [],ex,st,x=>KE ex st=some x
 | .seq b::l,ex,st,x=>(match ex with
  | .normal=>∃ ex' st',Sem E f nt gc b st ex' st'∧lr E f nt gc KE l ex' st' x
  | ex=>lr E f nt gc KE l ex st x)
 | .block id::l,ex,st,x=>(match ex with
  | .exit i=>if i.beq id=true then lr E f nt gc KE l .normal st x else lr E f nt gc KE l (.exit i) st x
  | ex=>lr E f nt gc KE l ex st x)
 | .loop b::l,ex,st,x=>(match ex with
  | .normal=>∃ ex' st',Sem E f nt gc (.loop b) st ex' st'∧lr E f nt gc KE l ex' st' x
  | ex=>∃ p,kz E f gc (bH b) ex st=some p∧lr E f nt gc KE l p.1 p.2 x)
def mc (P:Program) (sp:jE) (q:Operand) (p:Nat) (cl:St→Option St) (A B:St→Option (Ex × St)) {n:Nat} (g:Fin n→List T) (k j:Nat) (st1:St):Option St:=
 match (ln (ev st1.fr q) sp.g).bind fun b=>qn st1.h.get b.2 with
  | none=>none
  | some s=>if h:j < n then (match FG P sp (g ⟨j,h⟩) with
    | none=>none
    | some r=>bif ah r s then (match A ⟨st1.fr.set p (some (.agg ((g ⟨j,h⟩).map .t))),st1.h⟩ with
      | some (.normal,st2)=>(match B st2 with
       | some (.normal,st3)=>dt P sp q p cl A B g k (j+1) ⟨st1.fr,st3.h⟩
       | _=>none)
      | _=>none) else dt P sp q p cl A B g k (j+1) st1) else some st1
theorem mV {P:Program} {sp:jE} {q:Operand} {p:Nat} {cl:St→Option St} {A B:St→Option (Ex × St)} {n:Nat} {g:Fin n→List T} {k j:Nat} {st:St}:
  dt P sp q p cl A B g (k+1) j st=(cl st).bind (mc P sp q p cl A B g k j):=rfl
theorem mG {P:Program} {sp:jE} {q:Operand} {p:Nat} {cl:St→Option St} {A B A' B':St→Option (Ex × St)} {n:Nat} {g:Fin n→List T} (hA:∀ st y,A st=some y→A' st=some y) (hB:∀ st y,B st=some y→B' st=some y):
  ∀ (k k':Nat),k≤k'→∀ (j:Nat) (st y:St),(dt P sp q p cl A B g k j st=some y→dt P sp q p cl A' B' g k' j st=some y)∧(mc P sp q p cl A B g k j st=some y→mc P sp q p cl A' B' g k' j st=some y):=by
 have run:∀ (kk kk':Nat),(∀ j st y,dt P sp q p cl A B g kk j st=some y→dt P sp q p cl A' B' g kk' j st=some y)→∀ j st y,mc P sp q p cl A B g kk j st=some y→mc P sp q p cl A' B' g kk' j st=some y:=by
  intro kk kk' hi j st y h
  unfold mc at h ⊢
  generalize ((ln (ev st.fr q) sp.g).bind fun b=>qn st.h.get b.2)=os at h ⊢
  cases os with
  | none=>cases h
  | some s=>
   dsimp only at h ⊢
   by_cases hj:j < n
   ·rw [dif_pos hj] at h ⊢
    generalize FG P sp (g ⟨j,hj⟩)=orr at h ⊢
    cases orr with
    | none=>cases h
    | some r=>
     dsimp only at h ⊢
     cases e:ah r s with
     | false=>
      rw [e,cond_false] at h
      exact hi _ _ _ h
     | true=>
      rw [e,cond_true] at h
      rw [cond_true]
      cases ha:A ⟨st.fr.set p (some (.agg ((g ⟨j,hj⟩).map .t))),st.h⟩ with
      | none=>rw [ha] at h;cases h
      | some pa=>
       rw [ha] at h
       rw [hA _ _ ha]
       obtain ⟨ex,st2⟩:=pa
       cases ex with
       | normal=>
        dsimp only at h ⊢
        cases hb:B st2 with
        | none=>rw [hb] at h;cases h
        | some pb=>
         rw [hb] at h
         rw [hB _ _ hb]
         obtain ⟨ex,st3⟩:=pb
         cases ex with
         | normal=>exact hi _ _ _ h
         | exit id=>cases h
         | ret=>cases h
       | exit id=>cases h
       | ret=>cases h
   ·rw [dif_neg hj] at h ⊢;exact h
 intro k
 induction k with
 | zero=>
  intro k' _ j st y
  exact ⟨fun h=>(by cases h),run 0 k' (fun j st y h=>by cases h) j st y⟩
 | succ k ih=>
  intro k' hk j st y
  obtain ⟨k1,rfl⟩:∃ k1,k'=k1+1:=⟨k' - 1,by omega⟩
  have it:∀ j st y,dt P sp q p cl A B g (k+1) j st=some y→dt P sp q p cl A' B' g (k1+1) j st=some y:=fun j st y h=>by
   rw [mV] at h ⊢
   obtain ⟨st1,h1,h2⟩:=Option.bind_eq_some_iff.1 h
   exact Option.bind_eq_some_iff.2 ⟨st1,h1,(ih k1 (by omega) j st1 y).2 h2⟩
  exact ⟨it j st y,run _ _ it j st y⟩
def adE (E:Env) (f nt:Nat) (gc:Bool) (KE:Ex→St→Option ρ) (q:Operand) (ps:Array Tmp) (az bd:Code) (l:List M5) (st:St) (x:ρ):Prop:=
 ∃ p sp bO m z n,∃ g:Fin n→List T,∃ fr k stf,Cx ps=some p∧oJ E.live f (bH az)=some sp∧E.live f (3*bH az)=some bO∧st.fr.get nt=some (.sl 0 m)∧st.fr.get (nt+1)=some (.t (.rows z n g))∧NP st.fr bO=some fr∧
  mc E.P sp q p (gX bO (fM E.live f (3*bH az))) (exec E f nt false k az) (exec E f nt false k bd) g k m ⟨fr,st.h⟩=some stf∧lr E f nt gc KE l .normal stf x
mutual
theorem si:∀ s:S,qu (fun b=>some b) s=some s
 | .ptr b o=>rfl
 | .sl b n=>rfl
 | .ep b z i o=>rfl
 | .agg cs=>by unfold qu;rw [qf cs];rfl
 | .bJ cs=>by unfold qu;rw [qf cs];rfl
 | .mp b=>rfl
 | .mt es=>by unfold qu;rw [JN es];rfl
 | .fn f a c=>by unfold qu;rw [qf a,qf c];rfl
 | .un=>rfl
 | .t x=>rfl
 | .full sz n g=>rfl
 | .top sz n g=>rfl
 | .pt cs=>rfl
 | .nn=>rfl
 | .ud=>rfl
 | .it=>rfl
theorem qf:∀ l:List S,sX (fun b=>some b) l=some l
 | []=>rfl
 | s::r=>by unfold sX;rw [si s,qf r];rfl
theorem JN:∀ l:List (S × S),tN (fun b=>some b) l=some l
 | []=>rfl
 | (k,v)::r=>by unfold tN;rw [si k,si v,JN r];rfl
end
theorem qm {m:Nat→Option Nat} {fr:Fr}:∀ {l:List Nat} {f:Fr},j1 m fr l=some f→∀ t∈l,f.get t=(fr.get t).bind (qu m)∨(fr.get t=none∧f.get t=none)
 | [],f,h,t,ht=>by cases ht
 | x::l,f,h,t,ht=>by
  have hall:=h
  unfold j1 at h
  split at h
  ·rename_i s0 hs0
   obtain ⟨s1,h1,h⟩:=Option.bind_eq_some_iff.1 h
   obtain ⟨f',h2,rfl⟩:=Option.map_eq_some_iff.1 h
   rw [gV]
   by_cases e:x=t
   ·subst e
    rw [if_pos rfl,hs0,Option.bind_some,h1]
    exact .inl rfl
   ·rw [if_neg e]
    rcases List.mem_cons.1 ht with ht | ht
    ·exact absurd ht.symm e
    ·exact qm h2 t ht
  ·rename_i hn
   by_cases e:x=t
   ·subst e
    right
    refine ⟨hn,?_⟩
    cases hg:f.get x with
    | none=>rfl
    | some s'=>
     obtain ⟨s,e1,_⟩:=lL h x s' hg
     rw [hn] at e1;cases e1
   ·rcases List.mem_cons.1 ht with ht | ht
    ·exact absurd ht.symm e
    ·exact qm h t ht
theorem ug {m:Nat→Option Nat} {fr0 F:Fr}:∀ {l:List Nat} {f:Fr},j1 m fr0 l=some f→(∀ t∈l,F.get t=(fr0.get t).bind (qu m)∨(fr0.get t=none∧F.get t=none))→NP F l=some f
 | [],f,h,_=>h
 | x::l,f,h,hF=>by
  unfold j1 at h
  unfold NP j1
  have hx:=hF x List.mem_cons_self
  split at h
  ·rename_i s0 hs0
   obtain ⟨s1,h1,h⟩:=Option.bind_eq_some_iff.1 h
   obtain ⟨f',h2,rfl⟩:=Option.map_eq_some_iff.1 h
   have ih:j1 (fun b=>some b) F l=some f':=ug h2 fun t ht=>hF t (List.mem_cons_of_mem _ ht)
   rcases hx with hx | ⟨hx,_⟩
   ·rw [hs0,Option.bind_some,h1] at hx
    rw [hx]
    dsimp only
    rw [si,Option.bind_some,ih];rfl
   ·rw [hs0] at hx;cases hx
  ·rename_i hn
   have ih:j1 (fun b=>some b) F l=some f:=ug h fun t ht=>hF t (List.mem_cons_of_mem _ ht)
   have:F.get x=none:=by
    rcases hx with hx | ⟨_,hx⟩
    ·rw [hn] at hx;exact hx
    ·exact hx
   rw [this]
   exact ih
theorem My {t o sz:Nat} {st:St} (h:o.beq 0=false):(qO t o sz st).fr=st.fr:=by
 unfold qO
 split
 ·cases h
 ·split
  ·split<;>rfl
  ·rfl
 ·rfl
theorem tp:∀ (l:List Nat) {st:St},nx l=true→(iJ l st).fr=st.fr
 | t::o::sz::r,st,h=>by
  unfold nx at h
  rw [Bool.and_eq_true,Bool.not_eq_true'] at h
  unfold iJ
  rw [tp r h.2,My h.1]
 | [],st,h=>rfl
 | [_],st,h=>rfl
 | [_,_],st,h=>rfl
theorem xk {E:Env} {f r nt:Nat} {bO:List Nat} {j n:Nat} {g:Fin n→List T} {st:St} {kk:PK ρ} {x:ρ} (hb:nx (fM E.live f (3*r))=true) (hk:bO.all (fun t=>t.blt nt)=true) (h:qt E f r nt bO j n g st kk=some x):
  ∃ st2 F,gX bO (fM E.live f (3*r)) st=some st2∧kk r 0 0 ⟨F,st2.h⟩=some x∧F.get nt=some (.sl 0 j)∧F.get (nt+1)=some (.t (.rows 0 n g))∧NP F bO=some st2.fr:=by
 unfold qt at h
 obtain ⟨st1,h1,h2⟩:=xa h
 refine ⟨iJ (fM E.live f (3*r)) st1,_,by unfold gX;rw [h1];rfl,h2,?_,get_set_same _ _ _,?_⟩
 ·rw [jR _ _ (by omega),get_set_same]
 ·rw [tp _ hb]
  unfold clean at h1
  simp only at h1
  obtain ⟨fr',q1,q2⟩:=Option.bind_eq_some_iff.1 h1
  obtain ⟨t,_,e⟩:=Option.map_eq_some_iff.1 q2
  subst e
  refine ug q1 fun t ht=>?_
  have hlt:t < nt:=by have:=List.all_eq_true.1 hk t ht;simpa [Nat.blt_eq] using this
  rw [jR _ _ (by omega),jR _ _ (by omega)]
  exact qm q1 t ht
structure acr (E:Env) (f:FuncId) (nt:Nat) (gc:Bool) (KE:Ex→St→Option ρ) (T:List (Nat × Piece)) (kk:PK ρ):Prop where
 hd:∀ r b l,(2*r,Piece.head b l)∈T→∀ base st x,kk r 0 base st=some x→∃ ex st',Sem E f nt gc b st ex st'∧lr E f nt gc KE (.loop b::l) ex st' x
 md:∀ r ops dr l,(2*r+1,Piece.mid ops dr l)∈T→∀ i base st x,i < ops.size→kk r (i+1) base st=some x→∃ st',gi E nt dr ops base ((List.range ops.size).drop i) st=some st'∧lr E f nt gc KE l .normal st' x
 rf:∀ r q ps az bd l,(2*r,Piece.rf q ps az bd l)∈T→r=bH az→∀ base st x,kk r 0 base st=some x→adE E f nt gc KE q ps az bd l st x
theorem nZ {n i:Nat} (h:i < n):(List.range n).drop i=i::(List.range n).drop (i+1):=by
 rw [List.drop_eq_getElem_cons (by simpa using h)]
 simp
theorem Dn {E:Env} {ck:CK ρ} (hk:CKI E ck) {kk:PK ρ} {cut cw:Bool} {r nt:Nat} {dr:Bool} {ops:Array Oper} {base:Nat} {K:St→Option ρ} {Q:St→ρ→Prop} (hK:∀ st x,K st=some x→Q st x)
  (hq:∀ i st x,i < ops.size→kk r (i+1) base st=some x→∃ st',gi E nt dr ops base ((List.range ops.size).drop i) st=some st'∧Q st' x):
  ∀ (m i:Nat),ops.size - i=m→∀ st x,Mz E ck kk cut cw r nt dr ops base ((List.range ops.size).drop i) st K=some x→∃ st',gi E nt dr ops base ((List.range ops.size).drop i) st=some st'∧Q st' x:=by
 intro m
 induction m with
 | zero=>
  intro i hi st x h
  have:(List.range ops.size).drop i=[]:=List.drop_eq_nil_of_le (by simp;omega)
  rw [this] at h ⊢
  exact ⟨st,rfl,hK st x h⟩
 | succ m ih=>
  intro i hi st x h
  have hlt:i < ops.size:=by omega
  rw [nZ hlt] at h ⊢
  unfold Mz at h
  cases hp:(cut && PL ops (i - 1)) with
  | true=>
   rw [hp,cond_true] at h
   have:=hq i st x hlt h
   rwa [nZ hlt] at this
  | false=>
   rw [hp,cond_false] at h
   obtain ⟨st1,h1,h2⟩:=GJ hk h
   obtain ⟨st',h3,h4⟩:=ih (i+1) (by omega) st1 x h2
   refine ⟨st',?_,h4⟩
   unfold gi
   rw [h1]
   exact h3
theorem Sem.loop {E:Env} {f:FuncId} {nt:Nat} {gc:Bool} {b:Code} {st st1 st2:St} {ex ex':Ex} {st':St} (hc:fP E f gc (3*bH b) st=some st1) (h:Sem E f nt gc b st1 ex st2)
  (hn:(match ex with
   | .normal=>Sem E f nt gc (.loop b) st2 ex' st'
   | ex=>kz E f gc (bH b) ex st2=some (ex',st'))):Sem E f nt gc (.loop b) st ex' st':=by
 obtain ⟨k1,h1⟩:=h
 cases ex with
 | normal=>
  obtain ⟨k2,h2⟩:=hn
  have h2:=cG h2 (Nat.le_max_right k1 k2)
  have h1:=cG h1 (Nat.le_max_left k1 k2)
  generalize max k1 k2=k at h1 h2
  refine ⟨k+1,?_⟩
  simp only [exec,iter,hc,Option.bind_some] at h2 ⊢
  rw [cG h1 (Nat.le_succ k)]
  obtain ⟨y,h3,h4⟩:=Option.bind_eq_some_iff.1 h2
  refine Option.bind_eq_some_iff.2 ⟨y,?_,h4⟩
  exact wG (fun st y hy=>by
   obtain ⟨s,e1,e2⟩:=Option.bind_eq_some_iff.1 hy
   exact Option.bind_eq_some_iff.2 ⟨s,e1,cG e2 (Nat.le_succ k)⟩) k h3
 | exit id=>
  refine ⟨k1+1,?_⟩
  simp only [exec,iter,hc,Option.bind_some]
  rw [cG h1 (Nat.le_succ k1)]
  exact hn
 | ret=>
  refine ⟨k1+1,?_⟩
  simp only [exec,iter,hc,Option.bind_some]
  rw [cG h1 (Nat.le_succ k1)]
  exact hn
theorem Lr {E:Env} {ck:CK ρ} (hk:CKI E ck) {nt:Nat} {dr:Bool} {ops:Array Oper} {base:Nat}:∀ (l:List Nat) (st:St) (K:St→Option ρ) (x:ρ),aaZ E ck nt dr ops base l st K=some x→∃ st',gi E nt dr ops base l st=some st'∧K st'=some x
 | [],st,K,x,h=>⟨st,rfl,h⟩
 | i::l,st,K,x,h=>by
  obtain ⟨st1,h1,h2⟩:=GJ hk h
  obtain ⟨st',h3,h4⟩:=Lr hk l st1 K x h2
  refine ⟨st',?_,h4⟩
  unfold gi
  rw [h1]
  exact h3
theorem B4 {E:Env} {ck:CK ρ} (hk:CKI E ck) {f:FuncId} {nt n:Nat}:∀ (c:Code) (st:St) (K:Ex→St→Option ρ) (x:ρ),j7 E ck nt n c st K=some x→∃ ex st',Sem E f nt false c st ex st'∧K ex st'=some x:=by
 intro c
 induction c with
 | skip=>intro st K x h;exact ⟨.normal,st,⟨0,rfl⟩,h⟩
 | exit id=>intro st K x h;exact ⟨.exit id,st,⟨0,rfl⟩,h⟩
 | ret=>intro st K x h;exact ⟨.ret,st,⟨0,rfl⟩,h⟩
 | region r ops dr=>
  intro st K x h
  obtain ⟨st',h1,h2⟩:=Lr hk _ _ _ _ h
  exact ⟨.normal,st',⟨0,by simp only [exec];rw [h1];rfl⟩,h2⟩
 | seq a b iha ihb=>
  intro st K x h
  unfold j7 at h
  obtain ⟨ex,st1,⟨k1,h1⟩,h2⟩:=iha st _ x h
  cases ex with
  | normal=>
   obtain ⟨ex',st',⟨k2,h3⟩,h4⟩:=ihb st1 K x h2
   refine ⟨ex',st',⟨max k1 k2,?_⟩,h4⟩
   simp only [exec]
   rw [cG h1 (Nat.le_max_left k1 k2)]
   exact cG h3 (Nat.le_max_right k1 k2)
  | exit id=>exact ⟨_,_,⟨k1,by simp only [exec,h1,Option.bind_some]⟩,h2⟩
  | ret=>exact ⟨_,_,⟨k1,by simp only [exec,h1,Option.bind_some]⟩,h2⟩
 | cond q a b iha ihb=>
  intro st K x h
  unfold j7 at h
  generalize hv:ev st.fr q=s at h
  split at h
  ·rename_i p
   cases p with
   | true=>
    obtain ⟨ex,st',⟨k1,h1⟩,h2⟩:=iha st K x h
    exact ⟨ex,st',⟨k1,by simp only [exec,hv,cond_true];exact h1⟩,h2⟩
   | false=>
    obtain ⟨ex,st',⟨k1,h1⟩,h2⟩:=ihb st K x h
    exact ⟨ex,st',⟨k1,by simp only [exec,hv,cond_false];exact h1⟩,h2⟩
  ·cases h
 | block id b ih=>
  intro st K x h
  unfold j7 at h
  obtain ⟨ex,st',⟨k1,h1⟩,h2⟩:=ih st _ x h
  cases ex with
  | normal=>exact ⟨_,_,⟨k1,by simp only [exec,h1,Option.bind_some]⟩,h2⟩
  | ret=>exact ⟨_,_,⟨k1,by simp only [exec,h1,Option.bind_some]⟩,h2⟩
  | exit i=>
   cases e:i.beq id with
   | true=>exact ⟨.normal,st',⟨k1,by simp only [exec,h1,Option.bind_some,e,cond_true]⟩,by simp only [e,cond_true] at h2;exact h2⟩
   | false=>exact ⟨.exit i,st',⟨k1,by simp only [exec,h1,Option.bind_some,e,cond_false]⟩,by simp only [e,cond_false] at h2;exact h2⟩
 | loop b ih=>
  intro st K x h
  unfold j7 at h
  have go:∀ (m:Nat) (st:St),KZ (j7 E ck nt n b) m st K=some x→∃ ex st',Sem E f nt false (.loop b) st ex st'∧K ex st'=some x:=by
   intro m
   induction m with
   | zero=>intro st h;cases h
   | succ m ihm=>
    intro st h
    unfold KZ at h
    obtain ⟨ex,st1,h1,h2⟩:=ih st _ x h
    cases ex with
    | normal=>
     obtain ⟨ex',st',h3,h4⟩:=ihm st1 h2
     exact ⟨ex',st',Sem.loop rfl h1 h3,h4⟩
    | exit id=>exact ⟨.exit id,st1,Sem.loop rfl h1 (show kz E f false (bH b) (.exit id) st1=some (.exit id,st1) from rfl),h2⟩
    | ret=>exact ⟨.ret,st1,Sem.loop rfl h1 (show kz E f false (bH b) .ret st1=some (.ret,st1) from rfl),h2⟩
  exact go n st h
 | _=>intro st K x h;cases h
def LP (T:List (Nat × Piece)) (c:Code) (l:List M5):Prop:=∀ p∈jX c l,p∈T
def lY (T:List (Nat × Piece)):List M5→Prop
 | []=>True
 | .seq b::l=>LP T b l∧lY T l
 | .block _::l=>lY T l
 | .loop b::l=>(2*bH b,Piece.head b l)∈T∧lY T l
theorem qK {E:Env} {ck:CK ρ} (hk:CKI E ck) {f:FuncId} {nt:Nat} {gc:Bool} {KE:Ex→St→Option ρ} {T:List (Nat × Piece)} {kk:PK ρ} (hkk:acr E f nt gc KE T kk):
  ∀ (c:Code) (l:List M5) (K:Ex→St→Option ρ),LP T c l→(∀ ex st x,K ex st=some x→lr E f nt gc KE l ex st x)→∀ st x,jC E ck kk f nt gc c st K=some x→∃ ex st',Sem E f nt gc c st ex st'∧lr E f nt gc KE l ex st' x:=by
 intro c
 induction c with
 | skip=>intro l K hT hK st x h;exact ⟨.normal,st,⟨0,rfl⟩,hK _ _ _ h⟩
 | region r ops dr=>
  intro l K hT hK st x h
  have hm:(2*r+1,Piece.mid ops dr l)∈T:=hT _ (by simp [jX])
  unfold jC at h
  obtain ⟨st',h1,h2⟩:=Dn hk (Q:=fun st x=>lr E f nt gc KE l .normal st x) (fun st x h=>hK .normal st x h) (fun i st' x hi h=>hkk.md r ops dr l hm i st.h.next st' x hi h) _ 0 rfl _ x h
  exact ⟨.normal,st',⟨0,by simp only [exec];rw [List.drop_zero] at h1;rw [h1];rfl⟩,h2⟩
 | seq a b iha ihb=>
  intro l K hT hK st x h
  unfold jC at h
  obtain ⟨ex,st',⟨k1,h1⟩,h2⟩:=iha (.seq b::l) _ (fun p hp=>hT p (by simp [jX,hp])) (fun ex st x h=>by
   cases ex with
   | normal=>
    exact ihb l K (fun p hp=>hT p (by simp [jX,hp])) hK st x h
   | exit id=>exact hK _ _ _ h
   | ret=>exact hK _ _ _ h) st x h
  cases ex with
  | normal=>
   obtain ⟨ex',st'',⟨k2,h3⟩,h4⟩:=h2
   refine ⟨ex',st'',⟨max k1 k2,?_⟩,h4⟩
   simp only [exec]
   rw [cG h1 (Nat.le_max_left k1 k2)]
   exact cG h3 (Nat.le_max_right k1 k2)
  | exit id=>
   refine ⟨_,_,⟨k1,?_⟩,h2⟩
   simp only [exec,h1,Option.bind_some]
  | ret=>
   refine ⟨_,_,⟨k1,?_⟩,h2⟩
   simp only [exec,h1,Option.bind_some]
 | cond q a b iha ihb=>
  intro l K hT hK st x h
  unfold jC at h
  generalize hv:ev st.fr q=s at h
  split at h
  ·rename_i p
   cases p with
   | true=>
    obtain ⟨ex,st',⟨k1,h1⟩,h2⟩:=iha l K (fun p hp=>hT p (by simp [jX,hp])) hK st x h
    exact ⟨ex,st',⟨k1,by simp only [exec,hv,cond_true];exact h1⟩,h2⟩
   | false=>
    obtain ⟨ex,st',⟨k1,h1⟩,h2⟩:=ihb l K (fun p hp=>hT p (by simp [jX,hp])) hK st x h
    exact ⟨ex,st',⟨k1,by simp only [exec,hv,cond_false];exact h1⟩,h2⟩
  ·cases h
 | block id b ih=>
  intro l K hT hK st x h
  unfold jC at h
  obtain ⟨ex,st',⟨k1,h1⟩,h2⟩:=ih (.block id::l) _ hT (fun ex st x h=>by
   cases ex with
   | normal=>exact hK _ _ _ h
   | ret=>exact hK _ _ _ h
   | exit i=>
    show if i.beq id=true then _ else _
    simp only at h
    split
    ·rename_i e;rw [e] at h;exact hK _ _ _ h
    ·rename_i e;rw [Bool.not_eq_true] at e;rw [e] at h;exact hK _ _ _ h) st x h
  cases ex with
  | normal=>exact ⟨_,_,⟨k1,by simp only [exec,h1,Option.bind_some]⟩,h2⟩
  | ret=>exact ⟨_,_,⟨k1,by simp only [exec,h1,Option.bind_some]⟩,h2⟩
  | exit i=>
   have h2:if i.beq id=true then lr E f nt gc KE l .normal st' x else lr E f nt gc KE l (.exit i) st' x:=h2
   split at h2
   ·rename_i e
    exact ⟨_,_,⟨k1,by simp only [exec,h1,Option.bind_some,e,cond_true]⟩,h2⟩
   ·rename_i e
    rw [Bool.not_eq_true] at e
    exact ⟨_,_,⟨k1,by simp only [exec,h1,Option.bind_some,e,cond_false]⟩,h2⟩
 | loop b ih=>
  intro l K hT hK st x h
  unfold jC at h
  obtain ⟨st1,hc,h⟩:=kc h
  obtain ⟨ex,st2,h1,h2⟩:=hkk.hd _ b l (hT _ (by simp [jX])) _ _ _ h
  cases ex with
  | normal=>
   obtain ⟨ex',st',h3,h4⟩:=h2
   exact ⟨ex',st',Sem.loop hc h1 h3,h4⟩
  | exit id=>
   obtain ⟨p,h3,h4⟩:=h2
   exact ⟨p.1,p.2,Sem.loop hc h1 h3,h4⟩
  | ret=>
   obtain ⟨p,h3,h4⟩:=h2
   exact ⟨p.1,p.2,Sem.loop hc h1 h3,h4⟩
 | exit id=>intro l K hT hK st x h;exact ⟨.exit id,st,⟨0,rfl⟩,hK _ _ _ h⟩
 | ret=>intro l K hT hK st x h;exact ⟨.ret,st,⟨0,rfl⟩,hK _ _ _ h⟩
 | rangeFunc q ps az bd=>
  intro l K hT hK st x h
  unfold jC at h
  split at h
  ·rename_i p sp bO hp hsp hkeep
   obtain ⟨hg,h'⟩:=bP h
   clear h
   rw [Bool.and_eq_true,Bool.and_eq_true,Bool.and_eq_true,Bool.and_eq_true] at hg
   obtain ⟨⟨rfl,hkp⟩,hbox,hlt⟩:=hg
   split at h'
   ·rename_i b hcap
    ·obtain ⟨n,g,hrow,h'⟩:=MD h'
     obtain ⟨st2,F,h1,h2,h3,h4,h5⟩:=xk hbox hlt h'
     obtain ⟨p',sp',keep',m,z,n',g',fr,k,stf,e1,e2,e3,e4,e5,e6,hrun,hfin⟩:=hkk.rf _ q ps az bd l (hT _ (by simp [jX])) rfl _ _ _ h2
     rw [hp] at e1;obtain rfl:=Option.some.inj e1
     rw [hsp] at e2;obtain rfl:=Option.some.inj e2
     rw [hkeep] at e3;obtain rfl:=Option.some.inj e3
     simp only [h3,Option.some.injEq,S.sl.injEq,true_and] at e4
     subst e4
     simp only [h4,Option.some.injEq,S.t.injEq,Go.Proofs.YtonkoellfaopiaaGreatDoor.H.T.rows.injEq] at e5
     obtain ⟨rfl,rfl,e5⟩:=e5
     obtain rfl:=eq_of_heq e5
     rw [h5] at e6;obtain rfl:=Option.some.inj e6
     refine ⟨.normal,stf,⟨k+1,?_⟩,hfin⟩
     simp only [exec]
     rw [hp,Option.bind_some,hsp,Option.bind_some,hkeep,Option.bind_some]
     have e7:(true && (AG bO p az bd && p.blt nt))=true:=by rw [Bool.true_and,Bool.and_eq_true];exact hkp
     rw [e7,cond_true,hcap,Option.bind_some,hrow,Option.bind_some,mV,h1,Option.bind_some]
     dsimp only
     rw [((mG (fun _ _ h=>cG h (Nat.le_succ k)) (fun _ _ h=>cG h (Nat.le_succ k)) k k (Nat.le_refl k) 0 _ stf).2 hrun)]
     rfl
   ·cases h'
  ·cases h
 | scope=>intro l K hT hK st x h;cases h
 | label=>intro l K hT hK st x h;cases h
 | goto=>intro l K hT hK st x h;cases h
 | refuse=>intro l K hT hK st x h;cases h
theorem qP {E:Env} {ck:CK ρ} (hk:CKI E ck) {f:FuncId} {nt:Nat} {gc:Bool} {KE:Ex→St→Option ρ} {T:List (Nat × Piece)} {kk:PK ρ} (hkk:acr E f nt gc KE T kk):
  ∀ (l:List M5),lY T l→∀ ex st x,kU E ck kk f nt gc KE l ex st=some x→lr E f nt gc KE l ex st x:=by
 intro l
 induction l with
 | nil=>intro _ ex st x h;exact h
 | cons a l ih=>
  intro hl ex st x h
  cases a with
  | seq b=>
   have ih:=ih hl.2
   cases ex with
   | normal=>exact qK hk hkk b l _ hl.1 ih st x h
   | exit id=>exact ih _ _ _ h
   | ret=>exact ih _ _ _ h
  | block id=>
   have ih:=ih hl
   cases ex with
   | normal=>exact ih _ _ _ h
   | ret=>exact ih _ _ _ h
   | exit i=>
    show if i.beq id=true then _ else _
    have h:(bif i.beq id then _ else _)=some x:=h
    split
    ·rename_i e;rw [e] at h;exact ih _ _ _ h
    ·rename_i e;rw [Bool.not_eq_true] at e;rw [e] at h;exact ih _ _ _ h
  | loop b=>
   have ih:=ih hl.2
   cases ex with
   | normal=>
    have h:jP E f gc (3*bH b) st (kk (bH b) 0 0)=some x:=h
    obtain ⟨st1,hc,h⟩:=kc h
    obtain ⟨ex,st2,h1,h2⟩:=hkk.hd _ b l hl.1 _ _ _ h
    cases ex with
    | normal=>
     obtain ⟨ex',st',h3,h4⟩:=h2
     exact ⟨ex',st',Sem.loop hc h1 h3,h4⟩
    | exit id=>
     obtain ⟨p,h3,h4⟩:=h2
     exact ⟨p.1,p.2,Sem.loop hc h1 h3,h4⟩
    | ret=>
     obtain ⟨p,h3,h4⟩:=h2
     exact ⟨p.1,p.2,Sem.loop hc h1 h3,h4⟩
   | exit id=>
    obtain ⟨p,h1,h2⟩:=vd (show sI E f gc (bH b) (kU E ck kk f nt gc KE l) (.exit id) st=some x from h)
    exact ⟨p,h1,ih _ _ _ h2⟩
   | ret=>
    obtain ⟨p,h1,h2⟩:=vd (show sI E f gc (bH b) (kU E ck kk f nt gc KE l) .ret st=some x from h)
    exact ⟨p,h1,ih _ _ _ h2⟩
def af3 (T:List (Nat × Piece)):Piece→Prop
 | .rf _ _ _ _ l=>lY T l
 | .head b l=>LP T b (.loop b::l)∧lY T (.loop b::l)
 | .mid _ _ l=>lY T l
theorem uZ {T:List (Nat × Piece)}:∀ (c:Code) (l:List M5),LP T c l→lY T l→∀ p∈jX c l,af3 T p.2:=by
 intro c
 induction c with
 | region r ops dr=>intro l hT hl p hp;simp only [jX,List.mem_singleton] at hp;subst hp;exact hl
 | seq a b iha ihb=>
  intro l hT hl p hp
  have hb:LP T b l:=fun p hp=>hT p (by simp [jX,hp])
  rcases List.mem_append.1 hp with hp | hp
  ·exact iha _ (fun p hp=>hT p (by simp [jX,hp])) (show lY T (.seq b::l) from ⟨hb,hl⟩) p hp
  ·exact ihb _ hb hl p hp
 | cond q a b iha ihb=>
  intro l hT hl p hp
  rcases List.mem_append.1 hp with hp | hp
  ·exact iha _ (fun p hp=>hT p (by simp [jX,hp])) hl p hp
  ·exact ihb _ (fun p hp=>hT p (by simp [jX,hp])) hl p hp
 | block id b ih=>intro l hT hl p hp;exact ih _ hT hl p hp
 | loop b ih=>
  intro l hT hl p hp
  have h1:LP T b (.loop b::l):=fun p hp=>hT p (by simp [jX,hp])
  have h2:lY T (.loop b::l):=⟨hT _ (by simp [jX]),hl⟩
  rcases List.mem_cons.1 hp with rfl | hp
  ·exact ⟨h1,h2⟩
  ·exact ih _ h1 h2 p hp
 | rangeFunc q ps az bd=>intro l hT hl p hp;simp only [jX,List.mem_singleton] at hp;subst hp;exact hl
 | _=>intro l hT hl p hp;cases hp
theorem nj:∀ {T:List (Nat × Piece)},ki (T.map (·.1))=true→∀ {i:Nat} {p:Piece},(i,p)∈T→rJ T i=some p
 | [],_,_,_,h=>by cases h
 | (j,x)::r,hn,i,p,h=>by
  simp only [List.map_cons,ki,Bool.and_eq_true,Bool.not_eq_true'] at hn
  unfold rJ
  rcases List.mem_cons.1 h with h | h
  ·simp only [Prod.mk.injEq] at h
   obtain ⟨rfl,rfl⟩:=h
   simp
  ·have hne:j.beq i=false:=by
    cases e:j.beq i with
    | false=>rfl
    | true=>
     obtain rfl:=Nat.eq_of_beq_eq_true e
     have:(r.map (·.1)).contains j=true:=by
      rw [List.contains_eq_mem,decide_eq_true_eq]
      exact List.mem_map.2 ⟨(j,p),h,rfl⟩
     rw [this] at hn;cases hn.1
   rw [hne,cond_false]
   exact nj hn.2 h
theorem NY {E:Env} {ck:CK ρ} (hk:CKI E ck) {f:FuncId} {nt:Nat} {gc:Bool} {KE:Ex→St→Option ρ} {c:Code} (hn:ki ((jX c []).map (·.1))=true):∀ n,acr E f nt gc KE (jX c []) (M7 E ck f nt gc (jX c []) KE n)
 | 0=>⟨fun _ _ _ _ _ _ _ h=>(by cases h),fun _ _ _ _ _ _ _ _ _ _ h=>(by cases h),fun _ _ _ _ _ _ _ _ _ _ _ h=>(by cases h)⟩
 | n+1=>by
  have ih:=NY hk (f:=f) (nt:=nt) (gc:=gc) (KE:=KE) hn n
  refine ⟨fun r b l hT base st x h=>?_,fun r ops dr l hT i base st x hi h=>?_,fun r q ps az bd l hT hr base st x h=>?_⟩
  ·have hp:=uZ c [] (fun _ h=>h) trivial _ hT
   have h:(match rJ (jX c []) (2*r) with
    | some p=>MT E ck (M7 E ck f nt gc (jX c []) KE n) f nt gc KE r 0 base st p
    | none=>none)=some x:=h
   rw [nj hn hT] at h
   exact qK hk ih b (.loop b::l) _ hp.1 (qP hk ih _ hp.2) st x h
  ·have hp:lY (jX c []) l:=uZ c [] (fun _ h=>h) trivial _ hT
   have h:(match rJ (jX c []) (2*r+1) with
    | some p=>MT E ck (M7 E ck f nt gc (jX c []) KE n) f nt gc KE r i base st p
    | none=>none)=some x:=h
   rw [nj hn hT] at h
   have h:opX E ck (N4 E f r) nt dr ops base i st (fun st=>Mz E ck (M7 E ck f nt gc (jX c []) KE n) (Qi E f r) (N4 E f r) r nt dr ops base ((List.range ops.size).drop (i+1)) st fun st=>kU E ck (M7 E ck f nt gc (jX c []) KE n) f nt gc KE l .normal st)=some x:=h
   obtain ⟨st1,h1,h2⟩:=GJ hk h
   obtain ⟨st',h3,h4⟩:=Dn hk (Q:=fun st x=>lr E f nt gc KE l .normal st x) (fun st x h=>qP hk ih l hp .normal st x h) (fun i st x hi h=>ih.md r ops dr l hT i base st x hi h) _ (i+1) rfl st1 x h2
   refine ⟨st',?_,h4⟩
   rw [nZ hi]
   unfold gi
   rw [h1]
   exact h3
  ·have hl:lY (jX c []) l:=uZ c [] (fun _ h=>h) trivial _ hT
   have h:(match rJ (jX c []) (2*r) with
    | some p=>MT E ck (M7 E ck f nt gc (jX c []) KE n) f nt gc KE r 0 base st p
    | none=>none)=some x:=h
   rw [nj hn hT] at h
   dsimp only [MT] at h
   split at h
   ·rename_i p sp bO m z N g hp hsp hkeep hs1 hs2
    obtain ⟨hg,h'⟩:=bP h
    clear h
    rw [Bool.and_eq_true,Bool.and_eq_true,Bool.and_eq_true,Bool.and_eq_true] at hg
    obtain ⟨⟨_,_⟩,hbox,hlt⟩:=hg
    split at h'
    ·rename_i fr hfr
     split at h'
     ·rename_i b hcap
      split at h'
      ·rename_i s htxt
       have hcs:((ln (ev fr q) sp.g).bind fun b=>qn st.h.get b.2)=some s:=by rw [hcap];exact htxt
       have next:∀ {st':St},qt E f (bH az) nt bO (bC m 1) N g st' (M7 E ck f nt gc (jX c []) KE n)=some x→∃ k stf,dt E.P sp q p (gX bO (fM E.live f (3*bH az))) (exec E f nt false k az) (exec E f nt false k bd) g (k+1) (m+1) st'=some stf∧lr E f nt gc KE l .normal stf x:=by
        intro st' h
        obtain ⟨st2,F,h1,h2,h3,h4,h5⟩:=xk hbox hlt h
        obtain ⟨p',sp',keep',m',z',n',g',fr',k,stf,e1,e2,e3,e4,e5,e6,hrun,hfin⟩:=ih.rf _ q ps az bd l (hr ▸ hT) rfl _ _ _ h2
        rw [hp] at e1;obtain rfl:=Option.some.inj e1
        rw [hsp] at e2;obtain rfl:=Option.some.inj e2
        rw [hkeep] at e3;obtain rfl:=Option.some.inj e3
        simp only [h3,Option.some.injEq,S.sl.injEq,true_and] at e4
        subst e4
        simp only [h4,Option.some.injEq,S.t.injEq,Go.Proofs.YtonkoellfaopiaaGreatDoor.H.T.rows.injEq] at e5
        obtain ⟨rfl,rfl,e5⟩:=e5
        obtain rfl:=eq_of_heq e5
        rw [h5] at e6;obtain rfl:=Option.some.inj e6
        exact ⟨k,stf,by rw [mV,h1,Option.bind_some];exact hrun,hfin⟩
       have wrap:∀ {k stf},mc E.P sp q p (gX bO (fM E.live f (3*bH az))) (exec E f nt false k az) (exec E f nt false k bd) g k m ⟨fr,st.h⟩=some stf→lr E f nt gc KE l .normal stf x→adE E f nt gc KE q ps az bd l st x:=fun {k stf} h1 h2=>⟨p,sp,bO,m,z,N,g,fr,k,stf,hp,hsp,hkeep,hs1,hs2,hfr,h1,h2⟩
       have hm:(ay m).toNat=m:=Int.toNat_natCast m
       cases hlt2:bm (ay m) (ay N) with
       | false=>
        rw [hlt2,cond_false] at h'
        have hge:¬ m < N:=by have:=of_decide_eq_false hlt2;unfold ay at this;omega
        refine wrap (k:=0) (stf:=⟨fr,st.h⟩) ?_ (qP hk ih l hl .normal _ x h')
        unfold mc
        dsimp only
        rw [hcs]
        dsimp only
        rw [dif_neg hge]
       | true=>
        rw [hlt2,cond_true] at h'
        unfold aU at h'
        split at h'
        ·rename_i hj
         have hj2:m < N:=by have:=hj.2;rw [hm] at this;exact this
         have eg:g ⟨(ay m).toNat,hj.2⟩=g ⟨m,hj2⟩:=congrArg g (Fin.ext hm)
         dsimp only at h'
         rw [eg] at h'
         split at h'
         ·rename_i r' hon
          cases he:ah r' s with
          | false=>
           rw [he,cond_false] at h'
           obtain ⟨k,stf,h1,h2⟩:=next h'
           refine wrap (k:=k+1) (stf:=stf) ?_ h2
           unfold mc
           dsimp only
           rw [hcs]
           dsimp only
           rw [dif_pos hj2,hon]
           dsimp only
           rw [he,cond_false]
           exact (mG (fun _ _ h=>cG h (Nat.le_succ k)) (fun _ _ h=>cG h (Nat.le_succ k)) _ _ (Nat.le_refl _) _ _ _).1 h1
          | true=>
           rw [he,cond_true] at h'
           obtain ⟨ex2,st2,⟨kA,hA⟩,h2⟩:=B4 hk (f:=f) _ _ _ _ h'
           cases ex2 with
           | exit id=>cases h2
           | ret=>cases h2
           | normal=>
           obtain ⟨ex3,st3,⟨kB,hB⟩,h3⟩:=B4 hk (f:=f) _ _ _ _ h2
           cases ex3 with
           | exit id=>cases h3
           | ret=>cases h3
           | normal=>
           obtain ⟨k,stf,h1,h2⟩:=next h3
           have k1:k≤max (k+1) (max kA kB):=by omega
           have k2:kA≤max (k+1) (max kA kB):=by omega
           have k3:kB≤max (k+1) (max kA kB):=by omega
           refine wrap (k:=max (k+1) (max kA kB)) (stf:=stf) ?_ h2
           unfold mc
           dsimp only
           rw [hcs]
           dsimp only
           rw [dif_pos hj2,hon]
           dsimp only
           rw [he,cond_true,cG hA k2]
           dsimp only
           rw [cG hB k3]
           exact (mG (fun _ _ h=>cG h k1) (fun _ _ h=>cG h k1) _ _ (by omega) _ _ _).1 h1
         ·cases h'
        ·cases h'
      ·cases h'
     ·cases h'
    ·cases h'
   ·cases h
noncomputable def BJ (E:Env) (ck:CK ρ) (kk:PK ρ) (gc:Bool) (f:FuncId) (fn:Func) (c:Code) (args:List S) (h:Heap) (K:S→Heap→Option ρ):Option ρ:=
 bif args.length.ble fn.ntmps then jC E ck kk f fn.ntmps gc c ⟨zv 0 args,h⟩ (AQ E fn K) else none
theorem LI {E:Env} {ck:CK ρ} (hk:CKI E ck) {f:FuncId} {fn:Func} {gc:Bool} {c:Code} {K:S→Heap→Option ρ} (hf:E.fn f=some fn) (hb:fn.body=some c) (hn:ki ((jX c []).map (·.1))=true) {n:Nat} {args:List S} {h:Heap} {x:ρ}
  (hx:BJ E ck (M7 E ck f fn.ntmps gc (jX c []) (AQ E fn K) n) gc f fn c args h K=some x):∃ k p,cD E gc k f args h=some p∧K p.1 p.2=some x:=by
 unfold BJ at hx
 cases hl:args.length.ble fn.ntmps with
 | false=>rw [hl] at hx;cases hx
 | true=>
  rw [hl,cond_true] at hx
  obtain ⟨ex,st',⟨k,h1⟩,h2⟩:=qK hk (NY hk hn n) c [] _ (fun _ h=>h) (fun _ _ _ h=>h) _ _ hx
  have h2:AQ E fn K ex st'=some x:=h2
  have go:Qq ex=true→(vM E.P st' fn.results.toList).bind (fun vs=>K (j4 vs) st'.h)=some x→∃ k p,cD E gc k f args h=some p∧K p.1 p.2=some x:=fun he h3=>by
   obtain ⟨vs,q1,q2⟩:=Option.bind_eq_some_iff.1 h3
   refine ⟨k,(j4 vs,st'.h),?_,q2⟩
   unfold cD
   rw [hf]
   dsimp only
   rw [hb]
   dsimp only
   rw [hl,cond_true,h1,Option.bind_some,he,cond_true,q1];rfl
  cases ex with
  | normal=>exact go rfl h2
  | ret=>exact go rfl h2
  | exit id=>cases h2
end
theorem YD {O:jl} (hinp:∀ g,(O.live (2000000+g) 0).isSome=true→(O.ext (2000000+g)).isSome=true) {f:FuncId} {fn:Func} {c:Code} (hf:(W O).fn f=some fn) (hb:fn.body=some c) (hfns:O.fns f=true) (hext:O.ext f=none) (hn:ki ((jX c []).map (·.1))=true) {n:Nat} {args:List S} {x:S}
  (h:BJ (EY O (aa O)) (orc O.P (aa O)) (M7 (EY O (aa O)) (orc O.P (aa O)) f fn.ntmps true (jX c []) (AQ (EY O (aa O)) fn (Ad O.P f)) n) true f fn c args .empty (Ad O.P f)=some x):(W O).aE f args=some x:=by
 obtain ⟨k,p,h1,h2⟩:=LI (E:=EY O (aa O)) ⟨acy rfl,fun g hg az h=>by
  obtain ⟨F,hF⟩:=Option.isSome_iff_exists.1 (hinp g hg)
  show Pk O (aa O) g az h=_
  unfold Pk
  rw [hF]
  rfl⟩ hf hb hn h
 exact aeI hfns hext h1 (WK h2)
end Go.Proofs.YtonkoellfaopiaaGreatDoor.H
