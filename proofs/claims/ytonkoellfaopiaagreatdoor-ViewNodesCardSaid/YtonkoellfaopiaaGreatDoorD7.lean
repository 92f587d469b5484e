import Derived.Test.YtonkoellfaopiaaGreatDoorD6
set_option linter.unusedSimpArgs false
set_option linter.unusedVariables false
set_option linter.unusedSectionVars false
namespace Go.Proofs.YtonkoellfaopiaaGreatDoor.H
open Go
section
variable {ρ:Type}
theorem cy {α:Type} (c:Bool) (x y:Option α) (K:α→Option ρ):(bif c then x else y).bind K=bif c then x.bind K else y.bind K:=by cases c<;>rfl
def Pj (ops:Array Oper) (fr:Fr) (o:Oper) (K:Bool→Fr→Option ρ):Option ρ:=
 match o.guard with
 | none=>K true fr
 | some (j,want)=>match (ops[j]?).bind (·.dst) with
  | some d=>match fr.get d with
   | some (.t (.v (.bool b)))=>bif b then K want (fr.set d (some (sv (.bool true)))) else K (!want) (fr.set d (some (sv (.bool false))))
   | some (.t (.v _))=>K false fr
   | some .ud=>K false fr
   | _=>none
  | none=>none
theorem NH (ops:Array Oper) (fr:Fr) (o:Oper) (K:Bool→Fr→Option ρ):Pj ops fr o K=(cM ops fr o).bind fun p=>K p.1 p.2:=by
 unfold Pj cM
 cases o.guard with
 | none=>rfl
 | some q=>
  obtain ⟨j,want⟩:=q
  dsimp only
  cases (ops[j]?).bind (·.dst) with
  | none=>rfl
  | some d=>
   dsimp only
   cases fr.get d with
   | none=>rfl
   | some s=>
    cases s with
    | t x=>
     cases x with
     | v y=>cases y<;>first | rfl | (rename_i b;cases b<;>rfl)
     | rows=>rfl
     | fr=>rfl
    | _=>rfl
def Dl (n:Nat) (get:Fin n→List T) (i:Int) (K:S→Option ρ):Option ρ:=
 if h:0≤i∧i.toNat < n then K (.pt (get ⟨i.toNat,h.2⟩)) else none
theorem tq (n:Nat) (get:Fin n→List T) (i:Int) (K:S→Option ρ):Dl n get i K=(uR n get i).bind K:=by
 unfold Dl uR
 split<;>rfl
def ac3 (P:Program) (KT:TypeId→Option (List Nat)) (lit:Bool) (op:BinOp) (t:TypeId) (x y:S) (K:S→Option ρ):Option ρ:=
 match op,x,y with
 | .quo,.t (.v (.int k a)),.t (.v (.int k' b))=>bif decide (k=k') then (bif decide (b=0) then none else K (sv (.int k (k.wrap (a.tdiv b))))) else none
 | .rem,.t (.v (.int k a)),.t (.v (.int k' b))=>bif decide (k=k') then (bif decide (b=0) then none else K (sv (.int k (a.tmod b)))) else none
 | .add,.t (.v (.string a)),.t (.v (.string b))=>bif decide (a.size+b.size≤gw) then K (sv (.string (a++b))) else none
 | op,x,y=>(zx P KT lit op t x y).bind K
theorem UF (P:Program) (KT:TypeId→Option (List Nat)) (lit:Bool) (op:BinOp) (t:TypeId) (x y:S) (K:S→Option ρ):ac3 P KT lit op t x y K=(zx P KT lit op t x y).bind K:=by
 have two:∀ (a b:Bool) (s:S),(bif a then (bif b then none else K s) else none)=(bif a then (bif b then none else some s) else none).bind K:=fun a b s=>by cases a<;>cases b<;>rfl
 unfold ac3
 split
 ·rename_i k a k' b
  show _=(Option.map sv (bif decide (k=k') then (bif decide (b=0) then none else some (.int k (k.wrap (a.tdiv b)))) else none)).bind K
  rw [two]
  cases decide (k=k')<;>cases decide (b=0)<;>rfl
 ·rename_i k a k' b
  show _=(Option.map sv (bif decide (k=k') then (bif decide (b=0) then none else some (.int k (a.tmod b))) else none)).bind K
  rw [two]
  cases decide (k=k')<;>cases decide (b=0)<;>rfl
 ·rename_i a b
  show _=(Option.map sv (bif decide (a.size+b.size≤gw) then some (.string (a++b)) else none)).bind K
  cases decide (a.size+b.size≤gw)<;>rfl
 ·rfl
def Zb (P:Program) (t:TypeId) (x ix:S) (K:S→Option ρ):Option ρ:=
 match P.underlying t,x,gf ix with
  | some (.slice e),.t (.rows sz n get),some i=>bif sz.beq (P.cellsOf e) && (P.info? e).isSome then Dl n get i K else none
  | some (.slice e),.full sz n get,some i=>bif sz.beq (P.cellsOf e) && (P.info? e).isSome then Dl n get i K else none
  | some (.slice e),.top sz n get,some i=>bif sz.beq (P.cellsOf e) && (P.info? e).isSome then Dl n get i K else none
  | some (.slice e),.sl b n,some i=>bif (P.info? e).isSome then (bif decide (0≤i) && decide (i < n) then K (.ep b (P.cellsOf e) i.toNat 0) else none) else none
  | some (.array n e),.ptr b o,some i=>bif (P.info? e).isSome then (bif decide (0≤i) && decide (i < n) then K (.ptr b (o+i.toNat*P.cellsOf e)) else none) else none
  | some (.array n e),.pt cs,some i=>bif (P.info? e).isSome then (bif decide (0≤i) && decide (i < n) then K (.pt (cs.drop (i.toNat*P.cellsOf e))) else none) else none
  | some (.array n e),.ep b z j o,some i=>bif (P.info? e).isSome then (bif decide (0≤i) && decide (i < n) then K (.ep b z j (o+i.toNat*P.cellsOf e)) else none) else none
  | _,_,_=>none
theorem Vx (P:Program) (KT:TypeId→Option (List Nat)) (fr:Fr) (t:TypeId) (x ix:Operand) (K:S→Option ρ):Zb P t (ev fr x) (ev fr ix) K=(bX P KT fr (.indexAddr t x ix)).bind K:=by
 unfold Zb
 simp only [bX]
 have two:∀ (a b c:Bool) (s:S),(bif a then (bif b && c then K s else none) else none)=(bif a && b && c then some s else none).bind K:=fun a b c s=>by cases a<;>cases b<;>cases c<;>rfl
 cases P.underlying t with
 | none=>rfl
 | some d=>
  cases d with
  | slice e=>
   cases ev fr x with
   | t y=>
    cases y with
    | v=>rfl
    | fr=>rfl
    | rows sz n get=>
     cases gf (ev fr ix) with
     | none=>rfl
     | some i=>simp only [cy,tq];rfl
   | full sz n get=>
    cases gf (ev fr ix) with
    | none=>rfl
    | some i=>simp only [cy,tq];rfl
   | top sz n get=>
    cases gf (ev fr ix) with
    | none=>rfl
    | some i=>simp only [cy,tq];rfl
   | sl b n=>
    cases gf (ev fr ix) with
    | none=>rfl
    | some i=>exact two _ _ _ _
   | _=>rfl
  | array m e=>
   cases ev fr x with
   | ptr b o=>
    cases gf (ev fr ix) with
    | none=>rfl
    | some i=>exact two _ _ _ _
   | pt cs=>
    cases gf (ev fr ix) with
    | none=>rfl
    | some i=>exact two _ _ _ _
   | ep b z j o=>
    cases gf (ev fr ix) with
    | none=>rfl
    | some i=>exact two _ _ _ _
   | _=>rfl
  | _=>rfl
def atK (P:Program) (t:TypeId) (x ix:S) (K:S→Option ρ):Option ρ:=
 match P.underlying t,x,gf ix with
  | some (.array n e),.agg cs,some i=>bif decide (0≤i) && decide (i < n) then ((mA P e (cs.drop (i.toNat*P.cellsOf e))).bind K) else none
  | some .string,.t (.v (.string s)),some i=>if h:0≤i∧i.toNat < s.size then K (sv (.int .u8 (s[i.toNat]'h.2).toNat)) else none
  | _,_,_=>none
theorem aaF (P:Program) (KT:TypeId→Option (List Nat)) (fr:Fr) (t:TypeId) (x ix:Operand) (K:S→Option ρ):atK P t (ev fr x) (ev fr ix) K=(bX P KT fr (.index t x ix)).bind K:=by
 unfold atK
 simp only [bX]
 cases P.underlying t with
 | none=>rfl
 | some d=>
  cases d with
  | array m e=>
   cases ev fr x with
   | agg cs=>
    cases gf (ev fr ix) with
    | none=>rfl
    | some i=>simp only [cy];rfl
   | _=>rfl
  | string=>
   cases ev fr x with
   | t y=>
    cases y with
    | v z=>
     cases z with
     | string s=>
      cases gf (ev fr ix) with
      | none=>rfl
      | some i=>dsimp only;split<;>rfl
     | _=>rfl
    | rows=>rfl
    | fr=>rfl
   | _=>rfl
  | _=>rfl
def Rh (n:Nat) (lo hi mx:Option Int) (K:Nat→Nat→Bool→Option ρ):Option ρ:=
 bif decide (0≤lo.getD 0) && decide (lo.getD 0≤hi.getD n) && decide (hi.getD n≤n) then
  (match mx with
   | none=>K (lo.getD 0).toNat ((hi.getD n).toNat - (lo.getD 0).toNat) false
   | some m=>bif decide (m=hi.getD n) && hi.isSome then K (lo.getD 0).toNat ((hi.getD n).toNat - (lo.getD 0).toNat) true else none)
 else none
theorem Wx (n:Nat) (lo hi mx:Option Int) (K:Nat→Nat→Bool→Option ρ):Rh n lo hi mx K=(rX n lo hi mx).bind fun p=>K p.1 p.2.1 p.2.2:=by
 unfold Rh rX
 simp only
 rw [cy]
 congr 1
 split
 ·rfl
 ·rw [cy];rfl
def FN (P:Program) (t:TypeId) (x:S) (lo hi mx:Option Int) (K:S→Option ρ):Option ρ:=
 match P.underlying t,x with
 | some .string,.t (.v (.string s))=>
  (match mx with
   | none=>bif decide (0≤lo.getD 0) && decide (lo.getD 0≤hi.getD s.size) && decide (hi.getD s.size≤s.size) then K (sv (.string (s.extract (lo.getD 0).toNat (hi.getD s.size).toNat))) else none
   | _=>none)
 | some (.slice e),.t (.rows sz n get)=>bif !(sz.beq (P.cellsOf e)) || !(P.info? e).isSome then none else
  Rh n lo hi mx fun l m f=>if h:l+m≤n then K (bif f then .full sz m (gy get l m h) else .t (.rows sz m (gy get l m h))) else none
 | some (.slice e),.full sz n get=>bif !(sz.beq (P.cellsOf e)) || !(P.info? e).isSome then none else
  Rh n lo hi mx fun l m f=>if h:l+m≤n then K (bif f then .full sz m (gy get l m h) else .t (.rows sz m (gy get l m h))) else none
 | _,_=>(ml P t x lo hi mx).bind K
theorem MV (P:Program) (t:TypeId) (x:S) (lo hi mx:Option Int) (K:S→Option ρ):FN P t x lo hi mx K=(ml P t x lo hi mx).bind K:=by
 have cutR:∀ (c:Bool) (n sz:Nat) (get:Fin n→List T),(bif c then none else Rh n lo hi mx fun l m f=>if h:l+m≤n then K (bif f then .full sz m (gy get l m h) else .t (.rows sz m (gy get l m h))) else none)=
   (bif c then none else (match rX n lo hi mx with
    | some (l,m,f)=>if h:l+m≤n then some (bif f then S.full sz m (gy get l m h) else .t (.rows sz m (gy get l m h))) else none
    | none=>none)).bind K:=fun c n sz get=>by
  rw [cy,Wx]
  congr 1
  cases rX n lo hi mx with
  | none=>rfl
  | some p=>
   obtain ⟨l,m,f⟩:=p
   simp only [Option.bind_some]
   split<;>rfl
 unfold FN
 cases hu:P.underlying t with
 | none=>rfl
 | some d=>
  cases d with
  | string=>
   cases x with
   | t y=>
    cases y with
    | v z=>
     cases z with
     | string s=>
      simp only [ml,hu]
      cases mx with
      | none=>simp only [cy];rfl
      | some _=>rfl
     | _=>rfl
    | rows=>rfl
    | fr=>rfl
   | _=>rfl
  | slice e=>
   cases x with
   | t y=>
    cases y with
    | v=>rfl
    | fr=>rfl
    | rows sz n get=>simp only [ml,hu];exact cutR _ _ _ _
   | full sz n get=>simp only [ml,hu];exact cutR _ _ _ _
   | _=>rfl
  | _=>rfl
def vi (P:Program) (get:Nat→Option B) (t:TypeId) (x:S) (K:S→Option ρ):Option ρ:=
 match x with
 | .ep b z i o=>match get b with
  | some (.row _ sz n g)=>if h:i < n then (bif z.beq sz && (o+P.cellsOf t).ble sz then ((mA P t (((g ⟨i,h⟩).drop o).map fun c=>.t (kp c))).bind K) else none) else none
  | some (.fO _ sz n cs)=>bif z.beq sz && (o+P.cellsOf t).ble sz then (bif decide (i < n) then ((mA P t (cs.drop (i*sz+o))).bind K) else none) else none
  | _=>none
 | x=>(gT P get t x).bind K
theorem Cd (P:Program) (get:Nat→Option B) (t:TypeId) (x:S) (K:S→Option ρ):vi P get t x K=(gT P get t x).bind K:=by
 unfold vi
 cases x with
 | ep b z i o=>
  simp only [gT]
  cases get b with
  | none=>rfl
  | some y=>
   cases y with
   | row f sz n g=>
    by_cases h:i < n
    ·simp only [dif_pos h,cy];rfl
    ·simp only [dif_neg h];rfl
   | fO f sz n cs=>
    dsimp only
    cases z.beq sz<;>cases decide (i < n)<;>cases (o+P.cellsOf t).ble sz<;>rfl
   | _=>rfl
 | _=>rfl
def TA (P:Program) (get:Nat→Option B) (a b:TypeId) (x:S) (K:S→Option ρ):Option ρ:=
 match P.underlying a,P.underlying b,x with
 | some .string,some (.slice e),.t (.v (.string s))=>(match P.underlying e with
  | some (.int .u8)=>bif s.size.ble gw then K (C6 s) else none
  | _=>none)
 | _,_,x=>(xB P get a b x).bind K
theorem Qh (P:Program) (get:Nat→Option B) (a b:TypeId) (x:S) (K:S→Option ρ):TA P get a b x K=(xB P get a b x).bind K:=by
 unfold TA
 split
 ·rename_i e s h1 h2
  simp only [xB,LA,h1,h2]
  cases P.underlying e with
  | none=>rfl
  | some d=>
   cases d with
   | int k=>cases k<;>first | rfl | (dsimp only;rw [cy];rfl)
   | _=>rfl
 ·rfl
def zC (P:Program) (h:Heap) (id:Nat) (e:TypeId) (x y:S) (K:S→Heap→Option ρ):Option ρ:=
 bif !lC P e then none else
 match ni h.get (P.cellsOf e) y with
 | none=>none
 | some ⟨m,g',l⟩=>
  match x with
  | .t (.v (.slice none 0 0))=>bif (m*P.bytesOf e).ble bE && m.ble bE then K (.sl id m) ((h.freeze l).put id (.row false (P.cellsOf e) m g')) else none
  | .full sz n g=>bif sz.beq (P.cellsOf e) then (bif ((n+m)*P.bytesOf e).ble bE && (n+m).ble bE then (bif m.beq 0 then K (.full sz n g) (h.freeze l) else K (.sl id (n+m)) ((h.freeze l).put id (.row false (P.cellsOf e) (n+m) (bo g g')))) else none) else none
  | .sl b _=>match D8 (h.freeze l).get (P.cellsOf e) b with
   | some ⟨n,g,l'⟩=>bif ((n+m)*P.bytesOf e).ble bE && (n+m).ble bE then K (.sl id (n+m)) ((((h.freeze l).freeze l').del b).put id (.row false (P.cellsOf e) (n+m) (bo g g'))) else none
   | none=>none
  | _=>none
theorem Ep (P:Program) (h:Heap) (id:Nat) (e:TypeId) (x y:S) (K:S→Heap→Option ρ):zC P h id e x y K=(pg P h id e x y).bind fun p=>K p.1 p.2:=by
 unfold zC pg
 rw [cy]
 congr 1
 cases ni h.get (P.cellsOf e) y with
 | none=>rfl
 | some q=>
  obtain ⟨m,g',l⟩:=q
  dsimp only
  split
  ·cases (m*P.bytesOf e).ble bE && m.ble bE<;>rfl
  ·rename_i sz n g
   dsimp only
   cases sz.beq (P.cellsOf e)<;>cases ((n+m)*P.bytesOf e).ble bE<;>cases (n+m).ble bE<;>first | rfl | (simp only [cond_true,Bool.and_self];rw [cy];rfl)
  ·dsimp only
   cases D8 (h.freeze l).get (P.cellsOf e) _ with
   | none=>rfl
   | some q=>
    obtain ⟨n,g,l'⟩:=q
    dsimp only
    rw [cy];rfl
  ·rename_i h1 h2 h3
   split<;>first | rfl | (exact absurd rfl h1) | (exact absurd rfl (h2 _ _ _)) | (exact absurd rfl (h3 _ _))
abbrev CK (ρ:Type):=FuncId→List S→(S→Option ρ)→Option ρ
def Hu (E:Env) (ck:CK ρ):Prop:=∀ f a K,ck f a K=(E.aE f a).bind K
def qN (ck:CK ρ) (get:Nat→Option B) (f:FuncId) (args:List S) (K:S→List Nat→Option ρ):Option ρ:=
 match gg get bZ args with
 | some (args',l)=>ck f args' fun r=>bif eS bZ r then K r [] else bif l.all (rowAt get) then (bif ib r && l.all (tD get) then K r [] else K r l) else none
 | none=>none
theorem wZ {E:Env} {ck:CK ρ} (hk:Hu E ck) (get:Nat→Option B) (f:FuncId) (args:List S) (K:S→List Nat→Option ρ):qN ck get f args K=(dh E get f args).bind fun p=>K p.1 p.2:=by
 unfold qN dh
 cases gg get bZ args with
 | none=>rfl
 | some q=>
  obtain ⟨args',l⟩:=q
  dsimp only
  rw [hk]
  cases E.aE f args' with
  | none=>rfl
  | some r=>
   simp only [Option.bind_some]
   rw [cy,cy,cy];rfl
def Df (E:Env) (ck:CK ρ) (ro:Bool) (get:Nat→Option B) (h:Heap) (g:FuncId) (az:List S) (K:S→Heap→Option ρ):Option ρ:=
 bif ro then (bif !E.fnOk g || E.inl g then none else qN ck get g az fun r l=>match l with | []=>K r h | _=>none)
 else bif !E.fnOk g then none else bif E.inl g then (E.eR g az h).bind fun p=>K p.1 p.2 else qN ck h.get g az fun r l=>K r (h.freeze l)
def lX (E:Env) (ck:CK ρ) (dr:Bool) (get:Nat→Option B) (id:Nat) (fr:Fr) (h:Heap) (op:Op) (K:S→Heap→Option ρ):Option ρ:=
 match op with
 | .indexAddr t x ix=>Zb E.P t (ev fr x) (ev fr ix) fun s=>K s h
 | .index t x ix=>atK E.P t (ev fr x) (ev fr ix) fun s=>K s h
 | .slice t x lo hi mx=>(iC fr lo).bind fun lo=>(iC fr hi).bind fun hi=>(iC fr mx).bind fun mx=>FN E.P t (ev fr x) lo hi mx fun s=>K s h
 | .binOp op t x y _=>ac3 E.P E.K (isConst x || isConst y) op t (ev fr x) (ev fr y) fun s=>K s h
 | .load t a=>vi E.P (bif dr then get else h.get) t (ev fr a) fun s=>K s h
 | .convert a b x=>TA E.P (bif dr then get else h.get) a b (ev fr x) fun s=>K s h
 | .call { callee:=.builtin .append,args,argTypes }=>(match args.toList.map (ev fr),argTypes.toList with
  | [x,y],[t,u]=>match E.P.underlying t,E.P.underlying u with
   | some (.slice e),some (.slice _)=>zC E.P h id e x y K
   | _,_=>none
  | _,_=>none)
 | .call { callee:=.value f,args,.. }=>(match fX fr f (args.toList.map (ev fr)) with
  | some (g,az)=>Df E ck (match f with | .func f=>!E.inl f && dr | _=>false) get h g az K
  | none=>none)
 | op=>(bx E dr get id fr h op).bind fun p=>K p.1 p.2
theorem CP {α β:Type} (o:Option α) (g:α→β) (K:β→Option ρ):(o.map g).bind K=o.bind fun a=>K (g a):=by cases o<;>rfl
theorem pD {E:Env} {ck:CK ρ} (hk:Hu E ck) {ro:Bool} {get:Nat→Option B} {h:Heap} {g:FuncId} {az:List S} {K:S→Heap→Option ρ}:
  Df E ck ro get h g az K=(bif ro then ((bif !E.fnOk g || E.inl g then none else (match dh E get g az with | some (r,[])=>some r | _=>none)):Option S).map (fun s=>(s,h)) else
   (bif !E.fnOk g then none else bif E.inl g then E.eR g az h else (match dh E h.get g az with | some (r,l)=>some (r,h.freeze l) | none=>none))).bind fun p=>K p.1 p.2:=by
 unfold Df
 cases ro with
 | true=>
  simp only [cond_true]
  rw [CP,cy,wZ hk]
  congr 1
  cases dh E get g az with
  | none=>rfl
  | some p=>obtain ⟨r,l⟩:=p;cases l<;>rfl
 | false=>
  simp only [cond_false]
  rw [cy,cy,wZ hk]
  congr 2
  cases dh E h.get g az<;>rfl
theorem PZ {E:Env} {ck:CK ρ} (hk:Hu E ck) (dr:Bool) (get:Nat→Option B) (id:Nat) (fr:Fr) (h:Heap) (op:Op) (K:S→Heap→Option ρ):lX E ck dr get id fr h op K=(bx E dr get id fr h op).bind fun p=>K p.1 p.2:=by
 cases op with
 | indexAddr t x ix=>simp only [lX,bx,cp,dN,Vx E.P E.K,CP]
 | index t x ix=>simp only [lX,bx,cp,dN,aaF E.P E.K,CP]
 | slice t x lo hi mx=>
  simp only [lX,bx,cp,dN,bX,CP,MV]
  cases iC fr lo with
  | none=>rfl
  | some lo=>
   cases iC fr hi with
   | none=>rfl
   | some hi=>
    cases iC fr mx with
    | none=>rfl
    | some mx=>rfl
 | binOp o t x y yt=>simp only [lX,bx,cp,dN,bX,UF,CP]
 | load t x=>cases dr<;>simp only [lX,bx,cp,dN,cb,Cd,CP,cond_true,cond_false]
 | convert a b x=>cases dr<;>simp only [lX,bx,cp,dN,cb,Qh,CP,cond_true,cond_false]
 | call c=>
  obtain ⟨callee,args,argTypes⟩:=c
  cases callee with
  | builtin b=>
   cases b<;>first | rfl | skip
   simp only [lX,bx,cp,dN,cf]
   generalize args.toList.map (ev fr)=az
   generalize argTypes.toList=ts
   rcases az with _ | ⟨x,_ | ⟨y,_ | ⟨z,r⟩⟩⟩<;>rcases ts with _ | ⟨t,_ | ⟨u,_ | ⟨v,r'⟩⟩⟩<;>first | rfl | skip
   dsimp only
   cases E.P.underlying t with
   | none=>rfl
   | some d=>
    cases d with
    | slice e=>
     cases E.P.underlying u with
     | none=>rfl
     | some d'=>cases d'<;>first | rfl | exact Ep _ _ _ _ _ _ _
    | _=>rfl
  | invoke r m=>rfl
  | value f=>
   simp only [lX]
   cases f with
   | func f=>
    simp only [bx,cp,dN]
    cases hi:E.inl f with
    | true=>
     simp only [cond_true,cf,Bool.not_true,Bool.false_and]
     cases fX fr (.func f) (args.toList.map (ev fr)) with
     | none=>rfl
     | some q=>obtain ⟨g,az⟩:=q;dsimp only;rw [pD hk];rfl
    | false=>
     simp only [cond_false,Bool.not_false,Bool.true_and]
     cases dr with
     | true=>
      simp only [cond_true,cb]
      cases fX fr (.func f) (args.toList.map (ev fr)) with
      | none=>rfl
      | some q=>obtain ⟨g,az⟩:=q;dsimp only;rw [pD hk];rfl
     | false=>
      simp only [cond_false,cf]
      cases fX fr (.func f) (args.toList.map (ev fr)) with
      | none=>rfl
      | some q=>obtain ⟨g,az⟩:=q;dsimp only;rw [pD hk];rfl
   | _=>
    simp only [bx,cp,dN,cf]
    cases fX fr _ (args.toList.map (ev fr)) with
    | none=>rfl
    | some q=>obtain ⟨g,az⟩:=q;dsimp only;rw [pD hk];rfl
 | _=>rfl
end
def a7 (k:IntKind) (a b:Int):Int:=k.wrap (a+b)
def bF (k:IntKind) (a b:Int):Int:=k.wrap (a - b)
def Z_ (k:IntKind) (a b:Int):Int:=k.wrap (a*b)
def Gn (k:IntKind) (a b:Int):Int:=k.wrap (a.tdiv b)
def na (a b:Int):Int:=a.tmod b
def gE (k:IntKind) (a:Int):Int:=k.wrap a
def aR (a b:Int):Bool:=decide (a=b)
def bm (a b:Int):Bool:=decide (a < b)
def bp (a b:Int):Bool:=decide (a≤b)
def bl (a b:Int):Bool:=decide (a > b)
def cT (a b:Int):Bool:=decide (a≥b)
def r9 (a b:Bool):Bool:=a == b
def vX (a b:ByteArray):Bool:=decide (a.size+b.size≤gw)
def nI (a b:ByteArray):ByteArray:=a++b
def ay (n:Nat):Int:=(n:Int)
def cI (s:ByteArray):Int:=(s.size:Int)
def aU {ρ:Type} (i:Int) (n:Nat) (K:i.toNat < n→Option ρ):Option ρ:=if h:0≤i∧i.toNat < n then K h.2 else none
def mP {ρ:Type} (i:Int) (s:ByteArray) (K:Int→Option ρ):Option ρ:=if h:0≤i∧i.toNat < s.size then K ((s[i.toNat]'h.2).toNat:Int) else none
def bs (l:List Nat):ByteArray:=⟨(l.map UInt8.ofNat).toArray⟩
def cK (i:Int):Nat:=i.toNat
def eM (a b:Nat):Nat:=a - b
def bC (a b:Nat):Nat:=a+b
def bY (n b:Nat):Bool:=(n*b).ble bE && n.ble bE
def aM (s:ByteArray):Nat:=s.size
def S5 (s:ByteArray):Bool:=s.size.ble gw
def fq (s:ByteArray) (i:Fin (aM s)):Int:=((s[i.1]'i.2).toNat:Int)
def fD (ks:List Int):ByteArray:=ofBytes ks
def iE {ρ:Type} (l m n:Nat) (K:l+m≤n→Option ρ):Option ρ:=if h:l+m≤n then K h else none
structure bN where
 n:Nat
 g:Fin n→List T
structure Y where
 i:Nat→Int
 b:Nat→Bool
 s:Nat→ByteArray
 r:Nat→bN
 m:Nat→List (S × S)
mutual
def build (y:Y):Sh→S
 | .int k j=>.t (.v (.int k (y.i j)))
 | .bool j=>.t (.v (.bool (y.b j)))
 | .str j=>.t (.v (.string (y.s j)))
 | .rows sz j=>.t (.rows sz (y.r j).n (y.r j).g)
 | .top sz j=>.top sz (y.r j).n (y.r j).g
 | .mt j=>.mt (y.m j)
 | .agg l=>.agg (gb y l)
 | .bJ l=>.bJ (gb y l)
def gb (y:Y):List Sh→List S
 | []=>[]
 | s::r=>build y s::gb y r
end
abbrev YF:=FuncId→List S→Option Y
def yC {ρ:Type} (q:YF) (f:FuncId) (args:List S) (K:Y→Option ρ):Option ρ:=(q f args).bind K
def shA (P:Program) (f:FuncId) (args:List S):Option Sh:=match wh P f with
 | some sh=>some sh
 | none=>match args with
  | .t (.rows sz _ _)::_=>some (.rows sz 0)
  | _=>none
theorem acd {P:Program} {f:FuncId} {args:List S} {sh:Sh} (h:wh P f=some sh):shA P f args=some sh:=by unfold shA;rw [h]
def orc {ρ:Type} (P:Program) (q:YF):CK ρ:=fun f args K=>match shA P f args with
 | some sh=>yC q f args fun y=>K (build y sh)
 | none=>none
def Dw (P:Program) (q:YF):CT:=fun f args=>match shA P f args with
 | some sh=>(q f args).map fun y=>build y sh
 | none=>none
theorem acy {ρ:Type} {P:Program} {q:YF} {E:Env} (hE:E.aE=Dw P q):Hu E (orc (ρ:=ρ) P q):=fun f a K=>by
 rw [hE]
 unfold orc Dw yC
 cases shA P f a with
 | none=>rfl
 | some sh=>dsimp only;rw [CP]
noncomputable def aa (O:jl):YF:=fun f a=>open Classical in
 match shA O.P f a,(W O).aE f a with
 | some sh,some r=>if h:∃ y,build y sh=r then some h.choose else none
 | _,_=>none
theorem WM {O:jl} {f:FuncId} {a:List S} {y:Y} (h:aa O f a=some y):∃ sh,shA O.P f a=some sh∧(W O).aE f a=some (build y sh):=by
 unfold aa at h
 split at h
 ·rename_i sh r h1 h2
  split at h
  ·rename_i hx
   obtain rfl:=Option.some.inj h
   exact ⟨sh,h1,by rw [h2,hx.choose_spec]⟩
  ·cases h
 ·cases h
theorem Mo {O:jl} {f:FuncId} {a:List S} {sh:Sh} {y:Y} (hs0:wh O.P f=some sh) (h:(W O).aE f a=some (build y sh)):∃ y',aa O f a=some y'∧build y' sh=build y sh:=by
 have hs:=acd (args:=a) hs0
 unfold aa
 rw [hs,h]
 have hx:∃ y',build y' sh=build y sh:=⟨y,rfl⟩
 dsimp only
 rw [dif_pos hx]
 exact ⟨_,rfl,hx.choose_spec⟩
theorem zR {O:jl}:∀ f a r,Dw O.P (aa O) f a=some r→(W O).aE f a=some r:=fun f a r h=>by
 unfold Dw at h
 split at h
 ·rename_i sh hs
  obtain ⟨y,hy,rfl⟩:=Option.map_eq_some_iff.1 h
  obtain ⟨sh',h1,h2⟩:=WM hy
  rw [hs] at h1
  obtain rfl:=Option.some.inj h1
  exact h2
 ·cases h
theorem E6 {F F':List S→Option S} (h:∀ a r,F a=some r→F' a=some r) {args:List S} {hp:Heap} {y:S × Heap} (hx:kN F args hp=some y):kN F' args hp=some y:=by
 unfold kN at hx ⊢
 split at hx
 ·rename_i b n x
  try dsimp only
  split at hx
  ·rename_i sz m g hb
   try rw [hb]
   try dsimp only
   split at hx
   ·rename_i sz' m' g' hr
    rw [h _ _ hr]
    exact hx
   ·cases hx
  ·cases hx
 ·cases hx
noncomputable def unb (sh:Sh) (v:S):Option Y:=open Classical in if h:∃ y,build y sh=v then some h.choose else none
theorem tu {sh:Sh} {v:S} {y:Y} (h:unb sh v=some y):build y sh=v:=by
 unfold unb at h
 split at h
 ·rename_i hx
  obtain rfl:=Option.some.inj h
  exact hx.choose_spec
 ·cases h
theorem nF {sh:Sh} {y:Y}:∃ y',unb sh (build y sh)=some y'∧build y' sh=build y sh:=by
 have hx:∃ y',build y' sh=build y sh:=⟨y,rfl⟩
 exact ⟨hx.choose,by unfold unb;rw [dif_pos hx],hx.choose_spec⟩
noncomputable def lookW {ρ:Type} (P:Program) (KT:TypeId→Option (List Nat)) (kt et:TypeId) (es:List (S × S)) (k:S) (Kt:Y→Option ρ) (Kf:Option ρ):Option ρ:=
 match shV P et 0,eT P KT kt k es 0 with
 | some (sh,_),some (some (_,v))=>(unb sh v).bind Kt
 | _,some none=>Kf
 | _,_=>none
def n_ {ρ:Type} (P:Program) (KT:TypeId→Option (List Nat)) (kt:TypeId) (es:List (S × S)) (k v:S) (K:List (S × S)→Option ρ):Option ρ:=
 match eT P KT kt k es 0 with
 | some (some (i,_))=>K (oL es i k v)
 | some none=>K (es++[(k,v)])
 | none=>none
noncomputable def ff {ρ:Type} (P:Program) (t:TypeId) (cs:List T) (K:Y→Option ρ):Option ρ:=match shV P t 0 with
 | some (sh,_)=>((mA P t (cs.map fun c=>.t (kp c))).bind (unb sh)).bind K
 | none=>none
def Ln {ρ:Type} (i n:Nat) (K:i < n→Option ρ):Option ρ:=if h:i < n then K h else none
structure RO (d:Nat) (es:List (S × S)):Prop where
 close:∀ get,ig get d es=some (es,[])
 refs:rp es=[]
 ren:∀ m,tN m es=some es
def rT {ρ:Type} (es:List (S × S)) (K:Option ρ):Option ρ:=if ib (.mt es)=true then K else none
noncomputable def bL {ρ:Type} (d:Nat) (es:List (S × S)) (K:Option ρ):Option ρ:=open Classical in if RO d es then K else none
def rR (es:List (S × S)):Nat:=es.length
noncomputable def EY0 (O:jl) (q:YF):Env:=mk O.P O.K O.fnOk O.inl O.live O.ov (Dw O.P q) (fun _ _ _=>none)
noncomputable def Pk (O:jl) (q:YF) (f:FuncId) (args:List S) (h:Heap):Option (S × Heap):=match O.ext (2000000+f) with
 | some _=>kN (fun a=>Dw O.P q (2000000+f) a) args h
 | none=>bif O.fns f && (O.ov f).isNone then cD (EY0 O q) false 8 f args h else none
noncomputable def EY (O:jl) (q:YF):Env:=mk O.P O.K O.fnOk O.inl O.live O.ov (Dw O.P q) (Pk O q)
def ZX (P:Program) (f:FuncId) (r:S) (h:Heap):Option S:=(mE f h.get bZ r).map fun p=>oU P f p.1
theorem aeI {O:jl} {f:FuncId} (hfns:O.fns f=true) (hext:O.ext f=none) {k:Nat} {args:List S} {r:S} {p:S × Heap}
  (h1:cD (EY O (aa O)) true k f args .empty=some p) (h2:ZX O.P f p.1 p.2=some r):(W O).aE f args=some r:=by
 obtain ⟨r0,hp⟩:=p
 have h1:cD (mk O.P O.K O.fnOk O.inl O.live O.ov (Dw O.P (aa O)) (Pk O (aa O))) true k f args .empty=some (r0,hp):=h1
 obtain ⟨⟨r1,l⟩,h3,h4⟩:=Option.map_eq_some_iff.1 h2
 simp only at h4
 subst h4
 exact Y7 hfns hext (S8 zR (fun f a h r hi=>by
  unfold Pk at hi
  cases hF:O.ext (2000000+f) with
  | some F=>
   rw [hF] at hi
   refine afq hF (E6 (fun a r hr=>?_) hi)
   obtain ⟨k,hk⟩:=kM.1 (zR _ _ _ hr)
   cases k with
   | zero=>cases hk
   | succ k=>
    rw [lR,hF] at hk
    exact hk
  | none=>
  rw [hF] at hi
  dsimp only at hi
  obtain ⟨e,hi⟩:=bP hi
  exact ae1 hF e (S8 zR (fun _ _ _ _ h=>by cases h) hi)) h1) h3
section
variable {ρ:Type}
def AQ (E:Env) (fn:Func) (K:S→Heap→Option ρ):Ex→St→Option ρ:=fun ex st=>match ex with
 | .exit _=>none
 | _=>(vM E.P st fn.results.toList).bind fun vs=>K (j4 vs) st.h
def ki:List Nat→Bool
 | []=>true
 | x::l=>!l.contains x && ki l
end
end Go.Proofs.YtonkoellfaopiaaGreatDoor.H
