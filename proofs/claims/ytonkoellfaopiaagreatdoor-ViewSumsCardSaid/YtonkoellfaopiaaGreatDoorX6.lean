import Derived.Test.YtonkoellfaopiaaGreatDoorX5
set_option linter.unusedSimpArgs false
set_option linter.unusedVariables false
namespace Go.Proofs.YtonkoellfaopiaaGreatDoor.H
open Go
section
variable {ρ:Type}
theorem bind_cond {α:Type} (c:Bool) (x y:Option α) (K:α→Option ρ):(bif c then x else y).bind K=bif c then x.bind K else y.bind K:=by cases c<;>rfl
def wantK (ops:Array Oper) (fr:Fr) (o:Oper) (K:Bool→Fr→Option ρ):Option ρ:=
 match o.guard with
 | none=>K true fr
 | some (j,want)=>match (ops[j]?).bind (·.dst) with
  | some d=>match fr.get d with
   | some (.t (.v (.bool b)))=>bif b then K want (fr.set d (some (sv (.bool true)))) else K (!want) (fr.set d (some (sv (.bool false))))
   | some (.t (.v _))=>K false fr
   | some .ud=>K false fr
   | _=>none
  | none=>none
theorem wantK_eq (ops:Array Oper) (fr:Fr) (o:Oper) (K:Bool→Fr→Option ρ):wantK ops fr o K=(wantedS ops fr o).bind fun p=>K p.1 p.2:=by
 unfold wantK wantedS
 cases o.guard with
 | none=>rfl
 | some q=>
  obtain ⟨j,want⟩:=q
  dsimp only
  cases (ops[j]?).bind (·.dst) with
  | none=>rfl
  | some d=>
   dsimp only
   cases fr.get d with
   | none=>rfl
   | some s=>
    cases s with
    | t x=>
     cases x with
     | v y=>cases y<;>first | rfl | (rename_i b;cases b<;>rfl)
     | rows=>rfl
    | _=>rfl
def elemK (n:Nat) (get:Fin n→List T) (i:Int) (K:S→Option ρ):Option ρ:=
 if h:0≤i∧i.toNat < n then K (.pt (get ⟨i.toNat,h.2⟩)) else none
theorem elemK_eq (n:Nat) (get:Fin n→List T) (i:Int) (K:S→Option ρ):elemK n get i K=(elemS n get i).bind K:=by
 unfold elemK elemS
 split<;>rfl
def binK (P:Program) (KT:TypeId→Option (List Nat)) (lit:Bool) (op:BinOp) (t:TypeId) (x y:S) (K:S→Option ρ):Option ρ:=
 match op,x,y with
 | .quo,.t (.v (.int k a)),.t (.v (.int k' b))=>bif decide (k=k') then (bif decide (b=0) then none else K (sv (.int k (k.wrap (a.tdiv b))))) else none
 | .rem,.t (.v (.int k a)),.t (.v (.int k' b))=>bif decide (k=k') then (bif decide (b=0) then none else K (sv (.int k (a.tmod b)))) else none
 | .add,.t (.v (.string a)),.t (.v (.string b))=>bif decide (a.size+b.size≤strMax) then K (sv (.string (a++b))) else none
 | op,x,y=>(binS P KT lit op t x y).bind K
theorem binK_eq (P:Program) (KT:TypeId→Option (List Nat)) (lit:Bool) (op:BinOp) (t:TypeId) (x y:S) (K:S→Option ρ):binK P KT lit op t x y K=(binS P KT lit op t x y).bind K:=by
 have two:∀ (a b:Bool) (s:S),(bif a then (bif b then none else K s) else none)=(bif a then (bif b then none else some s) else none).bind K:=fun a b s=>by cases a<;>cases b<;>rfl
 unfold binK
 split
 ·rename_i k a k' b
  show _=(Option.map sv (bif decide (k=k') then (bif decide (b=0) then none else some (.int k (k.wrap (a.tdiv b)))) else none)).bind K
  rw [two]
  cases decide (k=k')<;>cases decide (b=0)<;>rfl
 ·rename_i k a k' b
  show _=(Option.map sv (bif decide (k=k') then (bif decide (b=0) then none else some (.int k (a.tmod b))) else none)).bind K
  rw [two]
  cases decide (k=k')<;>cases decide (b=0)<;>rfl
 ·rename_i a b
  show _=(Option.map sv (bif decide (a.size+b.size≤strMax) then some (.string (a++b)) else none)).bind K
  cases decide (a.size+b.size≤strMax)<;>rfl
 ·rfl
def idxK (P:Program) (t:TypeId) (x ix:S) (K:S→Option ρ):Option ρ:=
 match P.underlying t,x,intOfS ix with
  | some (.slice e),.t (.rows sz n get),some i=>bif sz.beq (P.cellsOf e) && (P.info? e).isSome then elemK n get i K else none
  | some (.slice e),.full sz n get,some i=>bif sz.beq (P.cellsOf e) && (P.info? e).isSome then elemK n get i K else none
  | some (.slice e),.sl b n,some i=>bif (P.info? e).isSome then (bif decide (0≤i) && decide (i < n) then K (.ep b (P.cellsOf e) i.toNat 0) else none) else none
  | some (.array n e),.ptr b o,some i=>bif (P.info? e).isSome then (bif decide (0≤i) && decide (i < n) then K (.ptr b (o+i.toNat*P.cellsOf e)) else none) else none
  | some (.array n e),.pt cs,some i=>bif (P.info? e).isSome then (bif decide (0≤i) && decide (i < n) then K (.pt (cs.drop (i.toNat*P.cellsOf e))) else none) else none
  | some (.array n e),.ep b z j o,some i=>bif (P.info? e).isSome then (bif decide (0≤i) && decide (i < n) then K (.ep b z j (o+i.toNat*P.cellsOf e)) else none) else none
  | _,_,_=>none
theorem idxK_eq (P:Program) (KT:TypeId→Option (List Nat)) (fr:Fr) (t:TypeId) (x ix:Operand) (K:S→Option ρ):idxK P t (ev fr x) (ev fr ix) K=(pureOp P KT fr (.indexAddr t x ix)).bind K:=by
 unfold idxK
 simp only [pureOp]
 have two:∀ (a b c:Bool) (s:S),(bif a then (bif b && c then K s else none) else none)=(bif a && b && c then some s else none).bind K:=fun a b c s=>by cases a<;>cases b<;>cases c<;>rfl
 cases P.underlying t with
 | none=>rfl
 | some d=>
  cases d with
  | slice e=>
   cases ev fr x with
   | t y=>
    cases y with
    | v=>rfl
    | rows sz n get=>
     cases intOfS (ev fr ix) with
     | none=>rfl
     | some i=>simp only [bind_cond,elemK_eq];rfl
   | full sz n get=>
    cases intOfS (ev fr ix) with
    | none=>rfl
    | some i=>simp only [bind_cond,elemK_eq];rfl
   | sl b n=>
    cases intOfS (ev fr ix) with
    | none=>rfl
    | some i=>exact two _ _ _ _
   | _=>rfl
  | array m e=>
   cases ev fr x with
   | ptr b o=>
    cases intOfS (ev fr ix) with
    | none=>rfl
    | some i=>exact two _ _ _ _
   | pt cs=>
    cases intOfS (ev fr ix) with
    | none=>rfl
    | some i=>exact two _ _ _ _
   | ep b z j o=>
    cases intOfS (ev fr ix) with
    | none=>rfl
    | some i=>exact two _ _ _ _
   | _=>rfl
  | _=>rfl
def atK (P:Program) (t:TypeId) (x ix:S) (K:S→Option ρ):Option ρ:=
 match P.underlying t,x,intOfS ix with
  | some (.array n e),.agg cs,some i=>bif decide (0≤i) && decide (i < n) then ((valS P e (cs.drop (i.toNat*P.cellsOf e))).bind K) else none
  | some .string,.t (.v (.string s)),some i=>if h:0≤i∧i.toNat < s.size then K (sv (.int .u8 (s[i.toNat]'h.2).toNat)) else none
  | _,_,_=>none
theorem atK_eq (P:Program) (KT:TypeId→Option (List Nat)) (fr:Fr) (t:TypeId) (x ix:Operand) (K:S→Option ρ):atK P t (ev fr x) (ev fr ix) K=(pureOp P KT fr (.index t x ix)).bind K:=by
 unfold atK
 simp only [pureOp]
 cases P.underlying t with
 | none=>rfl
 | some d=>
  cases d with
  | array m e=>
   cases ev fr x with
   | agg cs=>
    cases intOfS (ev fr ix) with
    | none=>rfl
    | some i=>simp only [bind_cond];rfl
   | _=>rfl
  | string=>
   cases ev fr x with
   | t y=>
    cases y with
    | v z=>
     cases z with
     | string s=>
      cases intOfS (ev fr ix) with
      | none=>rfl
      | some i=>dsimp only;split<;>rfl
     | _=>rfl
    | rows=>rfl
   | _=>rfl
  | _=>rfl
def cutK (n:Nat) (lo hi mx:Option Int) (K:Nat→Nat→Bool→Option ρ):Option ρ:=
 bif decide (0≤lo.getD 0) && decide (lo.getD 0≤hi.getD n) && decide (hi.getD n≤n) then
  (match mx with
   | none=>K (lo.getD 0).toNat ((hi.getD n).toNat - (lo.getD 0).toNat) false
   | some m=>bif decide (m=hi.getD n) && hi.isSome then K (lo.getD 0).toNat ((hi.getD n).toNat - (lo.getD 0).toNat) true else none)
 else none
theorem cutK_eq (n:Nat) (lo hi mx:Option Int) (K:Nat→Nat→Bool→Option ρ):cutK n lo hi mx K=(cutS n lo hi mx).bind fun p=>K p.1 p.2.1 p.2.2:=by
 unfold cutK cutS
 simp only
 rw [bind_cond]
 congr 1
 split
 ·rfl
 ·rw [bind_cond];rfl
def sliceK (P:Program) (t:TypeId) (x:S) (lo hi mx:Option Int) (K:S→Option ρ):Option ρ:=
 match P.underlying t,x with
 | some .string,.t (.v (.string s))=>
  (match mx with
   | none=>bif decide (0≤lo.getD 0) && decide (lo.getD 0≤hi.getD s.size) && decide (hi.getD s.size≤s.size) then K (sv (.string (s.extract (lo.getD 0).toNat (hi.getD s.size).toNat))) else none
   | _=>none)
 | some (.slice e),.t (.rows sz n get)=>bif !(sz.beq (P.cellsOf e)) || !(P.info? e).isSome then none else
  cutK n lo hi mx fun l m f=>if h:l+m≤n then K (bif f then .full sz m (subGet get l m h) else .t (.rows sz m (subGet get l m h))) else none
 | some (.slice e),.full sz n get=>bif !(sz.beq (P.cellsOf e)) || !(P.info? e).isSome then none else
  cutK n lo hi mx fun l m f=>if h:l+m≤n then K (bif f then .full sz m (subGet get l m h) else .t (.rows sz m (subGet get l m h))) else none
 | _,_=>(sliceS P t x lo hi mx).bind K
theorem sliceK_eq (P:Program) (t:TypeId) (x:S) (lo hi mx:Option Int) (K:S→Option ρ):sliceK P t x lo hi mx K=(sliceS P t x lo hi mx).bind K:=by
 have cutR:∀ (c:Bool) (n sz:Nat) (get:Fin n→List T),(bif c then none else cutK n lo hi mx fun l m f=>if h:l+m≤n then K (bif f then .full sz m (subGet get l m h) else .t (.rows sz m (subGet get l m h))) else none)=
   (bif c then none else (match cutS n lo hi mx with
    | some (l,m,f)=>if h:l+m≤n then some (bif f then S.full sz m (subGet get l m h) else .t (.rows sz m (subGet get l m h))) else none
    | none=>none)).bind K:=fun c n sz get=>by
  rw [bind_cond,cutK_eq]
  congr 1
  cases cutS n lo hi mx with
  | none=>rfl
  | some p=>
   obtain ⟨l,m,f⟩:=p
   simp only [Option.bind_some]
   split<;>rfl
 unfold sliceK
 cases hu:P.underlying t with
 | none=>rfl
 | some d=>
  cases d with
  | string=>
   cases x with
   | t y=>
    cases y with
    | v z=>
     cases z with
     | string s=>
      simp only [sliceS,hu]
      cases mx with
      | none=>simp only [bind_cond];rfl
      | some _=>rfl
     | _=>rfl
    | rows=>rfl
   | _=>rfl
  | slice e=>
   cases x with
   | t y=>
    cases y with
    | v=>rfl
    | rows sz n get=>simp only [sliceS,hu];exact cutR _ _ _ _
   | full sz n get=>simp only [sliceS,hu];exact cutR _ _ _ _
   | _=>rfl
  | _=>rfl
def loadK (P:Program) (get:Nat→Option B) (t:TypeId) (x:S) (K:S→Option ρ):Option ρ:=
 match x with
 | .ep b z i o=>match get b with
  | some (.row _ sz n g)=>if h:i < n then (bif z.beq sz && (o+P.cellsOf t).ble sz then ((valS P t (((g ⟨i,h⟩).drop o).map .t)).bind K) else none) else none
  | some (.lst _ sz n cs)=>bif z.beq sz && (o+P.cellsOf t).ble sz then (bif decide (i < n) then ((valS P t (cs.drop (i*sz+o))).bind K) else none) else none
  | _=>none
 | x=>(loadS P get t x).bind K
theorem loadK_eq (P:Program) (get:Nat→Option B) (t:TypeId) (x:S) (K:S→Option ρ):loadK P get t x K=(loadS P get t x).bind K:=by
 unfold loadK
 cases x with
 | ep b z i o=>
  simp only [loadS]
  cases get b with
  | none=>rfl
  | some y=>
   cases y with
   | row f sz n g=>
    by_cases h:i < n
    ·simp only [dif_pos h,bind_cond];rfl
    ·simp only [dif_neg h];rfl
   | lst f sz n cs=>
    dsimp only
    cases z.beq sz<;>cases decide (i < n)<;>cases (o+P.cellsOf t).ble sz<;>rfl
   | _=>rfl
 | _=>rfl
def convK (P:Program) (get:Nat→Option B) (a b:TypeId) (x:S) (K:S→Option ρ):Option ρ:=
 match P.underlying a,P.underlying b,x with
 | some .string,some (.slice e),.t (.v (.string s))=>(match P.underlying e with
  | some (.int .u8)=>bif s.size.ble strMax then K (rowOfStr s) else none
  | _=>none)
 | _,_,x=>(convR P get a b x).bind K
theorem convK_eq (P:Program) (get:Nat→Option B) (a b:TypeId) (x:S) (K:S→Option ρ):convK P get a b x K=(convR P get a b x).bind K:=by
 unfold convK
 split
 ·rename_i e s h1 h2
  simp only [convR,convS,h1,h2]
  cases P.underlying e with
  | none=>rfl
  | some d=>
   cases d with
   | int k=>cases k<;>first | rfl | (dsimp only;rw [bind_cond];rfl)
   | _=>rfl
 ·rfl
def appendK (P:Program) (h:Heap) (id:Nat) (e:TypeId) (x y:S) (K:S→Heap→Option ρ):Option ρ:=
 bif !elemOk P e then none else
 match sourceS h.get (P.cellsOf e) y with
 | none=>none
 | some ⟨m,g',l⟩=>
  match x with
  | .t (.v (.slice none 0 0))=>bif (m*P.bytesOf e).ble roomMax && m.ble roomMax then K (.sl id m) ((h.freeze l).put id (.row false (P.cellsOf e) m g')) else none
  | .full sz n g=>bif sz.beq (P.cellsOf e) then (bif ((n+m)*P.bytesOf e).ble roomMax && (n+m).ble roomMax then (bif m.beq 0 then K (.full sz n g) (h.freeze l) else K (.sl id (n+m)) ((h.freeze l).put id (.row false (P.cellsOf e) (n+m) (appGet g g')))) else none) else none
  | .sl b _=>match destS (h.freeze l).get (P.cellsOf e) b with
   | some ⟨n,g,l'⟩=>bif ((n+m)*P.bytesOf e).ble roomMax && (n+m).ble roomMax then K (.sl id (n+m)) ((((h.freeze l).freeze l').del b).put id (.row false (P.cellsOf e) (n+m) (appGet g g'))) else none
   | none=>none
  | _=>none
theorem appendK_eq (P:Program) (h:Heap) (id:Nat) (e:TypeId) (x y:S) (K:S→Heap→Option ρ):appendK P h id e x y K=(appendS P h id e x y).bind fun p=>K p.1 p.2:=by
 unfold appendK appendS
 rw [bind_cond]
 congr 1
 cases sourceS h.get (P.cellsOf e) y with
 | none=>rfl
 | some q=>
  obtain ⟨m,g',l⟩:=q
  dsimp only
  split
  ·cases (m*P.bytesOf e).ble roomMax && m.ble roomMax<;>rfl
  ·rename_i sz n g
   dsimp only
   cases sz.beq (P.cellsOf e)<;>cases ((n+m)*P.bytesOf e).ble roomMax<;>cases (n+m).ble roomMax<;>first | rfl | (simp only [cond_true,Bool.and_self];rw [bind_cond];rfl)
  ·dsimp only
   cases destS (h.freeze l).get (P.cellsOf e) _ with
   | none=>rfl
   | some q=>
    obtain ⟨n,g,l'⟩:=q
    dsimp only
    rw [bind_cond];rfl
  ·rename_i h1 h2 h3
   split<;>first | rfl | (exact absurd rfl h1) | (exact absurd rfl (h2 _ _ _)) | (exact absurd rfl (h3 _ _))
abbrev CK (ρ:Type):=FuncId→List S→(S→Option ρ)→Option ρ
def CKOk (E:Env) (ck:CK ρ):Prop:=∀ f a K,ck f a K=(E.callT f a).bind K
def quietK (ck:CK ρ) (get:Nat→Option B) (f:FuncId) (args:List S) (K:S→List Nat→Option ρ):Option ρ:=
 match closeL get depthS args with
 | some (args',l)=>ck f args' fun r=>bif flatS depthS r then K r [] else bif l.all (rowAt get) then (bif mapFlat r && l.all (noMap get) then K r [] else K r l) else none
 | none=>none
theorem quietK_eq {E:Env} {ck:CK ρ} (hk:CKOk E ck) (get:Nat→Option B) (f:FuncId) (args:List S) (K:S→List Nat→Option ρ):quietK ck get f args K=(quietCall E get f args).bind fun p=>K p.1 p.2:=by
 unfold quietK quietCall
 cases closeL get depthS args with
 | none=>rfl
 | some q=>
  obtain ⟨args',l⟩:=q
  dsimp only
  rw [hk]
  cases E.callT f args' with
  | none=>rfl
  | some r=>
   simp only [Option.bind_some]
   rw [bind_cond,bind_cond,bind_cond];rfl
def callK (E:Env) (ck:CK ρ) (ro:Bool) (get:Nat→Option B) (h:Heap) (g:FuncId) (az:List S) (K:S→Heap→Option ρ):Option ρ:=
 bif ro then (bif !E.fnOk g || E.inl g then none else quietK ck get g az fun r l=>match l with | []=>K r h | _=>none)
 else bif !E.fnOk g then none else bif E.inl g then (E.callI g az h).bind fun p=>K p.1 p.2 else quietK ck h.get g az fun r l=>K r (h.freeze l)
def stepK (E:Env) (ck:CK ρ) (dr:Bool) (get:Nat→Option B) (id:Nat) (fr:Fr) (h:Heap) (op:Op) (K:S→Heap→Option ρ):Option ρ:=
 match op with
 | .indexAddr t x ix=>idxK E.P t (ev fr x) (ev fr ix) fun s=>K s h
 | .index t x ix=>atK E.P t (ev fr x) (ev fr ix) fun s=>K s h
 | .slice t x lo hi mx=>(optInt fr lo).bind fun lo=>(optInt fr hi).bind fun hi=>(optInt fr mx).bind fun mx=>sliceK E.P t (ev fr x) lo hi mx fun s=>K s h
 | .binOp op t x y _=>binK E.P E.K (isConst x || isConst y) op t (ev fr x) (ev fr y) fun s=>K s h
 | .load t a=>loadK E.P (bif dr then get else h.get) t (ev fr a) fun s=>K s h
 | .convert a b x=>convK E.P (bif dr then get else h.get) a b (ev fr x) fun s=>K s h
 | .call { callee:=.builtin .append,args,argTypes }=>(match args.toList.map (ev fr),argTypes.toList with
  | [x,y],[t,u]=>match E.P.underlying t,E.P.underlying u with
   | some (.slice e),some (.slice _)=>appendK E.P h id e x y K
   | _,_=>none
  | _,_=>none)
 | .call { callee:=.value f,args,.. }=>(match calleeS fr f (args.toList.map (ev fr)) with
  | some (g,az)=>callK E ck (match f with | .func f=>!E.inl f && dr | _=>false) get h g az K
  | none=>none)
 | op=>(stepOp E dr get id fr h op).bind fun p=>K p.1 p.2
theorem mapb {α β:Type} (o:Option α) (g:α→β) (K:β→Option ρ):(o.map g).bind K=o.bind fun a=>K (g a):=by cases o<;>rfl
theorem callK_eq {E:Env} {ck:CK ρ} (hk:CKOk E ck) {ro:Bool} {get:Nat→Option B} {h:Heap} {g:FuncId} {az:List S} {K:S→Heap→Option ρ}:
  callK E ck ro get h g az K=(bif ro then ((bif !E.fnOk g || E.inl g then none else (match quietCall E get g az with | some (r,[])=>some r | _=>none)):Option S).map (fun s=>(s,h)) else
   (bif !E.fnOk g then none else bif E.inl g then E.callI g az h else (match quietCall E h.get g az with | some (r,l)=>some (r,h.freeze l) | none=>none))).bind fun p=>K p.1 p.2:=by
 unfold callK
 cases ro with
 | true=>
  simp only [cond_true]
  rw [mapb,bind_cond,quietK_eq hk]
  congr 1
  cases quietCall E get g az with
  | none=>rfl
  | some p=>obtain ⟨r,l⟩:=p;cases l<;>rfl
 | false=>
  simp only [cond_false]
  rw [bind_cond,bind_cond,quietK_eq hk]
  congr 2
  cases quietCall E h.get g az<;>rfl
theorem stepK_eq {E:Env} {ck:CK ρ} (hk:CKOk E ck) (dr:Bool) (get:Nat→Option B) (id:Nat) (fr:Fr) (h:Heap) (op:Op) (K:S→Heap→Option ρ):stepK E ck dr get id fr h op K=(stepOp E dr get id fr h op).bind fun p=>K p.1 p.2:=by
 cases op with
 | indexAddr t x ix=>simp only [stepK,stepOp,clsOf,isCallO,idxK_eq E.P E.K,mapb]
 | index t x ix=>simp only [stepK,stepOp,clsOf,isCallO,atK_eq E.P E.K,mapb]
 | slice t x lo hi mx=>
  simp only [stepK,stepOp,clsOf,isCallO,pureOp,mapb,sliceK_eq]
  cases optInt fr lo with
  | none=>rfl
  | some lo=>
   cases optInt fr hi with
   | none=>rfl
   | some hi=>
    cases optInt fr mx with
    | none=>rfl
    | some mx=>rfl
 | binOp o t x y yt=>simp only [stepK,stepOp,clsOf,isCallO,pureOp,binK_eq,mapb]
 | load t x=>cases dr<;>simp only [stepK,stepOp,clsOf,isCallO,readOp,loadK_eq,mapb,cond_true,cond_false]
 | convert a b x=>cases dr<;>simp only [stepK,stepOp,clsOf,isCallO,readOp,convK_eq,mapb,cond_true,cond_false]
 | call c=>
  obtain ⟨callee,args,argTypes⟩:=c
  cases callee with
  | builtin b=>
   cases b<;>first | rfl | skip
   simp only [stepK,stepOp,clsOf,isCallO,writeOp]
   generalize args.toList.map (ev fr)=az
   generalize argTypes.toList=ts
   rcases az with _ | ⟨x,_ | ⟨y,_ | ⟨z,r⟩⟩⟩<;>rcases ts with _ | ⟨t,_ | ⟨u,_ | ⟨v,r'⟩⟩⟩<;>first | rfl | skip
   dsimp only
   cases E.P.underlying t with
   | none=>rfl
   | some d=>
    cases d with
    | slice e=>
     cases E.P.underlying u with
     | none=>rfl
     | some d'=>cases d'<;>first | rfl | exact appendK_eq _ _ _ _ _ _ _
    | _=>rfl
  | invoke r m=>rfl
  | value f=>
   simp only [stepK]
   cases f with
   | func f=>
    simp only [stepOp,clsOf,isCallO]
    cases hi:E.inl f with
    | true=>
     simp only [cond_true,writeOp,Bool.not_true,Bool.false_and]
     cases calleeS fr (.func f) (args.toList.map (ev fr)) with
     | none=>rfl
     | some q=>obtain ⟨g,az⟩:=q;dsimp only;rw [callK_eq hk];rfl
    | false=>
     simp only [cond_false,Bool.not_false,Bool.true_and]
     cases dr with
     | true=>
      simp only [cond_true,readOp]
      cases calleeS fr (.func f) (args.toList.map (ev fr)) with
      | none=>rfl
      | some q=>obtain ⟨g,az⟩:=q;dsimp only;rw [callK_eq hk];rfl
     | false=>
      simp only [cond_false,writeOp]
      cases calleeS fr (.func f) (args.toList.map (ev fr)) with
      | none=>rfl
      | some q=>obtain ⟨g,az⟩:=q;dsimp only;rw [callK_eq hk];rfl
   | _=>
    simp only [stepOp,clsOf,isCallO,writeOp]
    cases calleeS fr _ (args.toList.map (ev fr)) with
    | none=>rfl
    | some q=>obtain ⟨g,az⟩:=q;dsimp only;rw [callK_eq hk];rfl
 | _=>rfl
end
def addI (k:IntKind) (a b:Int):Int:=k.wrap (a+b)
def subI (k:IntKind) (a b:Int):Int:=k.wrap (a - b)
def eqI (a b:Int):Bool:=decide (a=b)
def ltI (a b:Int):Bool:=decide (a < b)
def leI (a b:Int):Bool:=decide (a≤b)
def gtI (a b:Int):Bool:=decide (a > b)
def geI (a b:Int):Bool:=decide (a≥b)
def eqB (a b:Bool):Bool:=a == b
def ofN (n:Nat):Int:=(n:Int)
def sizeS (s:ByteArray):Int:=(s.size:Int)
def elemO {ρ:Type} (i:Int) (n:Nat) (K:i.toNat < n→Option ρ):Option ρ:=if h:0≤i∧i.toNat < n then K h.2 else none
def bs (l:List Nat):ByteArray:=⟨(l.map UInt8.ofNat).toArray⟩
def toN (i:Int):Nat:=i.toNat
def addN (a b:Nat):Nat:=a+b
def fitsR (n b:Nat):Bool:=(n*b).ble roomMax && n.ble roomMax
def sizeN (s:ByteArray):Nat:=s.size
def roomS (s:ByteArray):Bool:=s.size.ble strMax
def byteAt (s:ByteArray) (i:Fin (sizeN s)):Int:=((s[i.1]'i.2).toNat:Int)
def subO {ρ:Type} (l m n:Nat) (K:l+m≤n→Option ρ):Option ρ:=if h:l+m≤n then K h else none
structure Rw0 where
 n:Nat
 g:Fin n→List T
structure Y where
 i:Nat→Int
 b:Nat→Bool
 s:Nat→ByteArray
 r:Nat→Rw0
 m:Nat→List (S × S)
mutual
def build (y:Y):Sh→S
 | .int k j=>.t (.v (.int k (y.i j)))
 | .bool j=>.t (.v (.bool (y.b j)))
 | .str j=>.t (.v (.string (y.s j)))
 | .rows sz j=>.t (.rows sz (y.r j).n (y.r j).g)
 | .mt j=>.mt (y.m j)
 | .agg l=>.agg (buildL y l)
 | .tup l=>.tup (buildL y l)
def buildL (y:Y):List Sh→List S
 | []=>[]
 | s::r=>build y s::buildL y r
end
abbrev YF:=FuncId→List S→Option Y
def yC {ρ:Type} (q:YF) (f:FuncId) (args:List S) (K:Y→Option ρ):Option ρ:=(q f args).bind K
def shA (P:Program) (f:FuncId) (args:List S):Option Sh:=match shF P f with
 | some sh=>some sh
 | none=>match args with
  | .t (.rows sz _ _)::_=>some (.rows sz 0)
  | _=>none
theorem shA_of {P:Program} {f:FuncId} {args:List S} {sh:Sh} (h:shF P f=some sh):shA P f args=some sh:=by unfold shA;rw [h]
def orc {ρ:Type} (P:Program) (q:YF):CK ρ:=fun f args K=>match shA P f args with
 | some sh=>yC q f args fun y=>K (build y sh)
 | none=>none
def orcT (P:Program) (q:YF):CT:=fun f args=>match shA P f args with
 | some sh=>(q f args).map fun y=>build y sh
 | none=>none
theorem orc_ok {ρ:Type} {P:Program} {q:YF} {E:Env} (hE:E.callT=orcT P q):CKOk E (orc (ρ:=ρ) P q):=fun f a K=>by
 rw [hE]
 unfold orc orcT yC
 cases shA P f a with
 | none=>rfl
 | some sh=>dsimp only;rw [mapb]
noncomputable def regs (O:Opts):YF:=fun f a=>open Classical in
 match shA O.P f a,(W O).callT f a with
 | some sh,some r=>if h:∃ y,build y sh=r then some h.choose else none
 | _,_=>none
theorem regs_of {O:Opts} {f:FuncId} {a:List S} {y:Y} (h:regs O f a=some y):∃ sh,shA O.P f a=some sh∧(W O).callT f a=some (build y sh):=by
 unfold regs at h
 split at h
 ·rename_i sh r h1 h2
  split at h
  ·rename_i hx
   obtain rfl:=Option.some.inj h
   exact ⟨sh,h1,by rw [h2,hx.choose_spec]⟩
  ·cases h
 ·cases h
theorem regs_some {O:Opts} {f:FuncId} {a:List S} {sh:Sh} {y:Y} (hs0:shF O.P f=some sh) (h:(W O).callT f a=some (build y sh)):∃ y',regs O f a=some y'∧build y' sh=build y sh:=by
 have hs:=shA_of (args:=a) hs0
 unfold regs
 rw [hs,h]
 have hx:∃ y',build y' sh=build y sh:=⟨y,rfl⟩
 dsimp only
 rw [dif_pos hx]
 exact ⟨_,rfl,hx.choose_spec⟩
theorem orcT_le {O:Opts}:∀ f a r,orcT O.P (regs O) f a=some r→(W O).callT f a=some r:=fun f a r h=>by
 unfold orcT at h
 split at h
 ·rename_i sh hs
  obtain ⟨y,hy,rfl⟩:=Option.map_eq_some_iff.1 h
  obtain ⟨sh',h1,h2⟩:=regs_of hy
  rw [hs] at h1
  obtain rfl:=Option.some.inj h1
  exact h2
 ·cases h
theorem inplF_mono {F F':List S→Option S} (h:∀ a r,F a=some r→F' a=some r) {args:List S} {hp:Heap} {y:S × Heap} (hx:inplF F args hp=some y):inplF F' args hp=some y:=by
 unfold inplF at hx ⊢
 split at hx
 ·rename_i b n x
  try dsimp only
  split at hx
  ·rename_i sz m g hb
   try rw [hb]
   try dsimp only
   split at hx
   ·rename_i sz' m' g' hr
    rw [h _ _ hr]
    exact hx
   ·cases hx
  ·cases hx
 ·cases hx
noncomputable def unb (sh:Sh) (v:S):Option Y:=open Classical in if h:∃ y,build y sh=v then some h.choose else none
theorem unb_some {sh:Sh} {v:S} {y:Y} (h:unb sh v=some y):build y sh=v:=by
 unfold unb at h
 split at h
 ·rename_i hx
  obtain rfl:=Option.some.inj h
  exact hx.choose_spec
 ·cases h
theorem unb_build {sh:Sh} {y:Y}:∃ y',unb sh (build y sh)=some y'∧build y' sh=build y sh:=by
 have hx:∃ y',build y' sh=build y sh:=⟨y,rfl⟩
 exact ⟨hx.choose,by unfold unb;rw [dif_pos hx],hx.choose_spec⟩
noncomputable def lookW {ρ:Type} (P:Program) (KT:TypeId→Option (List Nat)) (kt et:TypeId) (es:List (S × S)) (k:S) (Kt:Y→Option ρ) (Kf:Option ρ):Option ρ:=
 match shV P et 0,findS P KT kt k es 0 with
 | some (sh,_),some (some (_,v))=>(unb sh v).bind Kt
 | _,some none=>Kf
 | _,_=>none
def updW {ρ:Type} (P:Program) (KT:TypeId→Option (List Nat)) (kt:TypeId) (es:List (S × S)) (k v:S) (K:List (S × S)→Option ρ):Option ρ:=
 match findS P KT kt k es 0 with
 | some (some (i,_))=>K (setE es i k v)
 | some none=>K (es++[(k,v)])
 | none=>none
noncomputable def cellsW {ρ:Type} (P:Program) (t:TypeId) (cs:List T) (K:Y→Option ρ):Option ρ:=match shV P t 0 with
 | some (sh,_)=>((valS P t (cs.map .t)).bind (unb sh)).bind K
 | none=>none
def elemN {ρ:Type} (i n:Nat) (K:i < n→Option ρ):Option ρ:=if h:i < n then K h else none
structure FlatE (d:Nat) (es:List (S × S)):Prop where
 close:∀ get,closeE get d es=some (es,[])
 refs:refsE es=[]
 ren:∀ m,renE m es=some es
def matW {ρ:Type} (es:List (S × S)) (K:Option ρ):Option ρ:=if mapFlat (.mt es)=true then K else none
noncomputable def flatW {ρ:Type} (d:Nat) (es:List (S × S)) (K:Option ρ):Option ρ:=open Classical in if FlatE d es then K else none
def lenE (es:List (S × S)):Nat:=es.length
noncomputable def EY0 (O:Opts) (q:YF):Env:=mk O.P O.K O.fnOk O.inl O.live O.ov (orcT O.P q) (fun _ _ _=>none)
noncomputable def inlY (O:Opts) (q:YF) (f:FuncId) (args:List S) (h:Heap):Option (S × Heap):=match O.ext (2000000+f) with
 | some _=>inplF (fun a=>orcT O.P q (2000000+f) a) args h
 | none=>bif O.fns f && (O.ov f).isNone then runBody (EY0 O q) false 8 f args h else none
noncomputable def EY (O:Opts) (q:YF):Env:=mk O.P O.K O.fnOk O.inl O.live O.ov (orcT O.P q) (inlY O q)
def topK (P:Program) (f:FuncId) (r:S) (h:Heap):Option S:=(closeS h.get depthS r).map fun p=>normF P f p.1
theorem W_run {O:Opts} {f:FuncId} (hfns:O.fns f=true) (hext:O.ext f=none) {k:Nat} {args:List S} {r:S} {p:S × Heap}
  (h1:runBody (EY O (regs O)) true k f args .empty=some p) (h2:topK O.P f p.1 p.2=some r):(W O).callT f args=some r:=by
 obtain ⟨r0,hp⟩:=p
 have h1:runBody (mk O.P O.K O.fnOk O.inl O.live O.ov (orcT O.P (regs O)) (inlY O (regs O))) true k f args .empty=some (r0,hp):=h1
 obtain ⟨⟨r1,l⟩,h3,h4⟩:=Option.map_eq_some_iff.1 h2
 simp only at h4
 subst h4
 exact W_call hfns hext (W_more orcT_le (fun f a h r hi=>by
  unfold inlY at hi
  cases hF:O.ext (2000000+f) with
  | some F=>
   rw [hF] at hi
   refine W_inp hF (inplF_mono (fun a r hr=>?_) hi)
   obtain ⟨k,hk⟩:=limT_iff.1 (orcT_le _ _ _ hr)
   cases k with
   | zero=>cases hk
   | succ k=>
    rw [envN_callT,hF] at hk
    exact hk
  | none=>
  rw [hF] at hi
  dsimp only at hi
  obtain ⟨e,hi⟩:=bif_some hi
  exact W_inl hF e (W_more orcT_le (fun _ _ _ _ h=>by cases h) hi)) h1) h3
section
variable {ρ:Type}
def endK (E:Env) (fn:Func) (K:S→Heap→Option ρ):Ex→St→Option ρ:=fun ex st=>match ex with
 | .exit _=>none
 | _=>(resS E.P st fn.results.toList).bind fun vs=>K (resultS vs) st.h
def namesOk:List Nat→Bool
 | []=>true
 | x::l=>!l.contains x && namesOk l
end
end Go.Proofs.YtonkoellfaopiaaGreatDoor.H
