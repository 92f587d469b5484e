import Derived.Test.YtonkoellfaopiaaGreatDoorW5
set_option linter.unusedSimpArgs false
set_option linter.unusedVariables false
namespace Go.Proofs.YtonkoellfaopiaaGreatDoor.H
open Go
section
variable {ρ:Type}
theorem bind_cond {α:Type} (c:Bool) (x y:Option α) (K:α→Option ρ):(bif c then x else y).bind K=bif c then x.bind K else y.bind K:=by cases c<;>rfl
def wantK (ops:Array Oper) (fr:Fr) (o:Oper) (K:Bool→Fr→Option ρ):Option ρ:=
 match o.guard with
 | none=>K true fr
 | some (j,want)=>match (ops[j]?).bind (·.dst) with
  | some d=>match fr.get d with
   | some (.t (.v (.bool b)))=>bif b then K want (fr.set d (some (sv (.bool true)))) else K (!want) (fr.set d (some (sv (.bool false))))
   | some (.t (.v _))=>K false fr
   | some .ud=>K false fr
   | _=>none
  | none=>none
theorem wantK_eq (ops:Array Oper) (fr:Fr) (o:Oper) (K:Bool→Fr→Option ρ):wantK ops fr o K=(wantedS ops fr o).bind fun p=>K p.1 p.2:=by
 unfold wantK wantedS
 cases o.guard with
 | none=>rfl
 | some q=>
  obtain ⟨j,want⟩:=q
  dsimp only
  cases (ops[j]?).bind (·.dst) with
  | none=>rfl
  | some d=>
   dsimp only
   cases fr.get d with
   | none=>rfl
   | some s=>
    cases s with
    | t x=>
     cases x with
     | v y=>cases y<;>first | rfl | (rename_i b;cases b<;>rfl)
     | rows=>rfl
    | _=>rfl
def elemK (n:Nat) (get:Fin n→List T) (i:Int) (K:S→Option ρ):Option ρ:=
 if h:0≤i∧i.toNat < n then K (.pt (get ⟨i.toNat,h.2⟩)) else none
theorem elemK_eq (n:Nat) (get:Fin n→List T) (i:Int) (K:S→Option ρ):elemK n get i K=(elemS n get i).bind K:=by
 unfold elemK elemS
 split<;>rfl
def binK (P:Program) (KT:TypeId→Option (List Nat)) (lit:Bool) (op:BinOp) (t:TypeId) (x y:S) (K:S→Option ρ):Option ρ:=
 match op,x,y with
 | .quo,.t (.v (.int k a)),.t (.v (.int k' b))=>bif decide (k=k') then (bif decide (b=0) then none else K (sv (.int k (k.wrap (a.tdiv b))))) else none
 | .rem,.t (.v (.int k a)),.t (.v (.int k' b))=>bif decide (k=k') then (bif decide (b=0) then none else K (sv (.int k (a.tmod b)))) else none
 | .add,.t (.v (.string a)),.t (.v (.string b))=>bif decide (a.size+b.size≤strMax) then K (sv (.string (a++b))) else none
 | op,x,y=>(binS P KT lit op t x y).bind K
theorem binK_eq (P:Program) (KT:TypeId→Option (List Nat)) (lit:Bool) (op:BinOp) (t:TypeId) (x y:S) (K:S→Option ρ):binK P KT lit op t x y K=(binS P KT lit op t x y).bind K:=by
 have two:∀ (a b:Bool) (s:S),(bif a then (bif b then none else K s) else none)=(bif a then (bif b then none else some s) else none).bind K:=fun a b s=>by cases a<;>cases b<;>rfl
 unfold binK
 split
 ·rename_i k a k' b
  show _=(Option.map sv (bif decide (k=k') then (bif decide (b=0) then none else some (.int k (k.wrap (a.tdiv b)))) else none)).bind K
  rw [two]
  cases decide (k=k')<;>cases decide (b=0)<;>rfl
 ·rename_i k a k' b
  show _=(Option.map sv (bif decide (k=k') then (bif decide (b=0) then none else some (.int k (a.tmod b))) else none)).bind K
  rw [two]
  cases decide (k=k')<;>cases decide (b=0)<;>rfl
 ·rename_i a b
  show _=(Option.map sv (bif decide (a.size+b.size≤strMax) then some (.string (a++b)) else none)).bind K
  cases decide (a.size+b.size≤strMax)<;>rfl
 ·rfl
def idxK (P:Program) (t:TypeId) (x ix:S) (K:S→Option ρ):Option ρ:=
 match P.underlying t,x,intOfS ix with
  | some (.slice e),.t (.rows sz n get),some i=>bif sz.beq (P.cellsOf e) && (P.info? e).isSome then elemK n get i K else none
  | some (.slice e),.full sz n get,some i=>bif sz.beq (P.cellsOf e) && (P.info? e).isSome then elemK n get i K else none
  | some (.slice e),.sl b n,some i=>bif (P.info? e).isSome then (bif decide (0≤i) && decide (i < n) then K (.ep b (P.cellsOf e) i.toNat 0) else none) else none
  | some (.array n e),.ptr b o,some i=>bif (P.info? e).isSome then (bif decide (0≤i) && decide (i < n) then K (.ptr b (o+i.toNat*P.cellsOf e)) else none) else none
  | some (.array n e),.pt cs,some i=>bif (P.info? e).isSome then (bif decide (0≤i) && decide (i < n) then K (.pt (cs.drop (i.toNat*P.cellsOf e))) else none) else none
  | some (.array n e),.ep b z j o,some i=>bif (P.info? e).isSome then (bif decide (0≤i) && decide (i < n) then K (.ep b z j (o+i.toNat*P.cellsOf e)) else none) else none
  | _,_,_=>none
theorem idxK_eq (P:Program) (KT:TypeId→Option (List Nat)) (fr:Fr) (t:TypeId) (x ix:Operand) (K:S→Option ρ):idxK P t (ev fr x) (ev fr ix) K=(pureOp P KT fr (.indexAddr t x ix)).bind K:=by
 unfold idxK
 simp only [pureOp]
 have two:∀ (a b c:Bool) (s:S),(bif a then (bif b && c then K s else none) else none)=(bif a && b && c then some s else none).bind K:=fun a b c s=>by cases a<;>cases b<;>cases c<;>rfl
 cases P.underlying t with
 | none=>rfl
 | some d=>
  cases d with
  | slice e=>
   cases ev fr x with
   | t y=>
    cases y with
    | v=>rfl
    | rows sz n get=>
     cases intOfS (ev fr ix) with
     | none=>rfl
     | some i=>simp only [bind_cond,elemK_eq];rfl
   | full sz n get=>
    cases intOfS (ev fr ix) with
    | none=>rfl
    | some i=>simp only [bind_cond,elemK_eq];rfl
   | sl b n=>
    cases intOfS (ev fr ix) with
    | none=>rfl
    | some i=>exact two _ _ _ _
   | _=>rfl
  | array m e=>
   cases ev fr x with
   | ptr b o=>
    cases intOfS (ev fr ix) with
    | none=>rfl
    | some i=>exact two _ _ _ _
   | pt cs=>
    cases intOfS (ev fr ix) with
    | none=>rfl
    | some i=>exact two _ _ _ _
   | ep b z j o=>
    cases intOfS (ev fr ix) with
    | none=>rfl
    | some i=>exact two _ _ _ _
   | _=>rfl
  | _=>rfl
def atK (P:Program) (t:TypeId) (x ix:S) (K:S→Option ρ):Option ρ:=
 match P.underlying t,x,intOfS ix with
  | some (.array n e),.agg cs,some i=>bif decide (0≤i) && decide (i < n) then ((valS P e (cs.drop (i.toNat*P.cellsOf e))).bind K) else none
  | some .string,.t (.v (.string s)),some i=>if h:0≤i∧i.toNat < s.size then K (sv (.int .u8 (s[i.toNat]'h.2).toNat)) else none
  | _,_,_=>none
theorem atK_eq (P:Program) (KT:TypeId→Option (List Nat)) (fr:Fr) (t:TypeId) (x ix:Operand) (K:S→Option ρ):atK P t (ev fr x) (ev fr ix) K=(pureOp P KT fr (.index t x ix)).bind K:=by
 unfold atK
 simp only [pureOp]
 cases P.underlying t with
 | none=>rfl
 | some d=>
  cases d with
  | array m e=>
   cases ev fr x with
   | agg cs=>
    cases intOfS (ev fr ix) with
    | none=>rfl
    | some i=>simp only [bind_cond];rfl
   | _=>rfl
  | string=>
   cases ev fr x with
   | t y=>
    cases y with
    | v z=>
     cases z with
     | string s=>
      cases intOfS (ev fr ix) with
      | none=>rfl
      | some i=>dsimp only;split<;>rfl
     | _=>rfl
    | rows=>rfl
   | _=>rfl
  | _=>rfl
def cutK (n:Nat) (lo hi mx:Option Int) (K:Nat→Nat→Bool→Option ρ):Option ρ:=
 bif decide (0≤lo.getD 0) && decide (lo.getD 0≤hi.getD n) && decide (hi.getD n≤n) then
  (match mx with
   | none=>K (lo.getD 0).toNat ((hi.getD n).toNat - (lo.getD 0).toNat) false
   | some m=>bif decide (m=hi.getD n) && hi.isSome then K (lo.getD 0).toNat ((hi.getD n).toNat - (lo.getD 0).toNat) true else none)
 else none
theorem cutK_eq (n:Nat) (lo hi mx:Option Int) (K:Nat→Nat→Bool→Option ρ):cutK n lo hi mx K=(cutS n lo hi mx).bind fun p=>K p.1 p.2.1 p.2.2:=by
 unfold cutK cutS
 simp only
 rw [bind_cond]
 congr 1
 split
 ·rfl
 ·rw [bind_cond];rfl
def sliceK (P:Program) (t:TypeId) (x:S) (lo hi mx:Option Int) (K:S→Option ρ):Option ρ:=
 match P.underlying t,x with
 | some .string,.t (.v (.string s))=>
  (match mx with
   | none=>bif decide (0≤lo.getD 0) && decide (lo.getD 0≤hi.getD s.size) && decide (hi.getD s.size≤s.size) then K (sv (.string (s.extract (lo.getD 0).toNat (hi.getD s.size).toNat))) else none
   | _=>none)
 | some (.slice e),.t (.rows sz n get)=>bif !(sz.beq (P.cellsOf e)) || !(P.info? e).isSome then none else
  cutK n lo hi mx fun l m f=>if h:l+m≤n then K (bif f then .full sz m (subGet get l m h) else .t (.rows sz m (subGet get l m h))) else none
 | some (.slice e),.full sz n get=>bif !(sz.beq (P.cellsOf e)) || !(P.info? e).isSome then none else
  cutK n lo hi mx fun l m f=>if h:l+m≤n then K (bif f then .full sz m (subGet get l m h) else .t (.rows sz m (subGet get l m h))) else none
 | _,_=>(sliceS P t x lo hi mx).bind K
theorem sliceK_eq (P:Program) (t:TypeId) (x:S) (lo hi mx:Option Int) (K:S→Option ρ):sliceK P t x lo hi mx K=(sliceS P t x lo hi mx).bind K:=by
 have cutR:∀ (c:Bool) (n sz:Nat) (get:Fin n→List T),(bif c then none else cutK n lo hi mx fun l m f=>if h:l+m≤n then K (bif f then .full sz m (subGet get l m h) else .t (.rows sz m (subGet get l m h))) else none)=
   (bif c then none else (match cutS n lo hi mx with
    | some (l,m,f)=>if h:l+m≤n then some (bif f then S.full sz m (subGet get l m h) else .t (.rows sz m (subGet get l m h))) else none
    | none=>none)).bind K:=fun c n sz get=>by
  rw [bind_cond,cutK_eq]
  congr 1
  cases cutS n lo hi mx with
  | none=>rfl
  | some p=>
   obtain ⟨l,m,f⟩:=p
   simp only [Option.bind_some]
   split<;>rfl
 unfold sliceK
 cases hu:P.underlying t with
 | none=>rfl
 | some d=>
  cases d with
  | string=>
   cases x with
   | t y=>
    cases y with
    | v z=>
     cases z with
     | string s=>
      simp only [sliceS,hu]
      cases mx with
      | none=>simp only [bind_cond];rfl
      | some _=>rfl
     | _=>rfl
    | rows=>rfl
   | _=>rfl
  | slice e=>
   cases x with
   | t y=>
    cases y with
    | v=>rfl
    | rows sz n get=>simp only [sliceS,hu];exact cutR _ _ _ _
   | full sz n get=>simp only [sliceS,hu];exact cutR _ _ _ _
   | _=>rfl
  | _=>rfl
def loadK (P:Program) (get:Nat→Option B) (t:TypeId) (x:S) (K:S→Option ρ):Option ρ:=
 match x with
 | .ep b z i o=>match get b with
  | some (.row _ sz n g)=>if h:i < n then (bif z.beq sz && (o+P.cellsOf t).ble sz then ((valS P t (((g ⟨i,h⟩).drop o).map .t)).bind K) else none) else none
  | some (.lst _ sz n cs)=>bif z.beq sz && (o+P.cellsOf t).ble sz then (bif decide (i < n) then ((valS P t (cs.drop (i*sz+o))).bind K) else none) else none
  | _=>none
 | x=>(loadS P get t x).bind K
theorem loadK_eq (P:Program) (get:Nat→Option B) (t:TypeId) (x:S) (K:S→Option ρ):loadK P get t x K=(loadS P get t x).bind K:=by
 unfold loadK
 cases x with
 | ep b z i o=>
  simp only [loadS]
  cases get b with
  | none=>rfl
  | some y=>
   cases y with
   | row f sz n g=>
    by_cases h:i < n
    ·simp only [dif_pos h,bind_cond];rfl
    ·simp only [dif_neg h];rfl
   | lst f sz n cs=>
    dsimp only
    cases z.beq sz<;>cases decide (i < n)<;>cases (o+P.cellsOf t).ble sz<;>rfl
   | _=>rfl
 | _=>rfl
def convK (P:Program) (get:Nat→Option B) (a b:TypeId) (x:S) (K:S→Option ρ):Option ρ:=
 match P.underlying a,P.underlying b,x with
 | some .string,some (.slice e),.t (.v (.string s))=>(match P.underlying e with
  | some (.int .u8)=>bif s.size.ble strMax then K (rowOfStr s) else none
  | _=>none)
 | _,_,x=>(convR P get a b x).bind K
theorem convK_eq (P:Program) (get:Nat→Option B) (a b:TypeId) (x:S) (K:S→Option ρ):convK P get a b x K=(convR P get a b x).bind K:=by
 unfold convK
 split
 ·rename_i e s h1 h2
  simp only [convR,convS,h1,h2]
  cases P.underlying e with
  | none=>rfl
  | some d=>
   cases d with
   | int k=>cases k<;>first | rfl | (dsimp only;rw [bind_cond];rfl)
   | _=>rfl
 ·rfl
def appendK (P:Program) (h:Heap) (id:Nat) (e:TypeId) (x y:S) (K:S→Heap→Option ρ):Option ρ:=
 bif !elemOk P e then none else
 match sourceS h.get (P.cellsOf e) y with
 | none=>none
 | some ⟨m,g',l⟩=>
  match x with
  | .t (.v (.slice none 0 0))=>bif (m*P.bytesOf e).ble roomMax && m.ble roomMax then K (.sl id m) ((h.freeze l).put id (.row false (P.cellsOf e) m g')) else none
  | .full sz n g=>bif sz.beq (P.cellsOf e) then (bif ((n+m)*P.bytesOf e).ble roomMax && (n+m).ble roomMax then (bif m.beq 0 then K (.full sz n g) (h.freeze l) else K (.sl id (n+m)) ((h.freeze l).put id (.row false (P.cellsOf e) (n+m) (appGet g g')))) else none) else none
  | .sl b _=>match destS (h.freeze l).get (P.cellsOf e) b with
   | some ⟨n,g,l'⟩=>bif ((n+m)*P.bytesOf e).ble roomMax && (n+m).ble roomMax then K (.sl id (n+m)) ((((h.freeze l).freeze l').del b).put id (.row false (P.cellsOf e) (n+m) (appGet g g'))) else none
   | none=>none
  | _=>none
theorem appendK_eq (P:Program) (h:Heap) (id:Nat) (e:TypeId) (x y:S) (K:S→Heap→Option ρ):appendK P h id e x y K=(appendS P h id e x y).bind fun p=>K p.1 p.2:=by
 unfold appendK appendS
 rw [bind_cond]
 congr 1
 cases sourceS h.get (P.cellsOf e) y with
 | none=>rfl
 | some q=>
  obtain ⟨m,g',l⟩:=q
  dsimp only
  split
  ·cases (m*P.bytesOf e).ble roomMax && m.ble roomMax<;>rfl
  ·rename_i sz n g
   dsimp only
   cases sz.beq (P.cellsOf e)<;>cases ((n+m)*P.bytesOf e).ble roomMax<;>cases (n+m).ble roomMax<;>first | rfl | (simp only [cond_true,Bool.and_self];rw [bind_cond];rfl)
  ·dsimp only
   cases destS (h.freeze l).get (P.cellsOf e) _ with
   | none=>rfl
   | some q=>
    obtain ⟨n,g,l'⟩:=q
    dsimp only
    rw [bind_cond];rfl
  ·rename_i h1 h2 h3
   split<;>first | rfl | (exact absurd rfl h1) | (exact absurd rfl (h2 _ _ _)) | (exact absurd rfl (h3 _ _))
abbrev CK (ρ:Type):=FuncId→List S→(S→Option ρ)→Option ρ
def CKOk (E:Env) (ck:CK ρ):Prop:=∀ f a K,ck f a K=(E.callT f a).bind K
def quietK (ck:CK ρ) (get:Nat→Option B) (f:FuncId) (args:List S) (K:S→List Nat→Option ρ):Option ρ:=
 match closeL get depthS args with
 | some (args',l)=>ck f args' fun r=>bif flatS depthS r then K r [] else bif l.all (rowAt get) then (bif mapFlat r && l.all (noMap get) then K r [] else K r l) else none
 | none=>none
theorem quietK_eq {E:Env} {ck:CK ρ} (hk:CKOk E ck) (get:Nat→Option B) (f:FuncId) (args:List S) (K:S→List Nat→Option ρ):quietK ck get f args K=(quietCall E get f args).bind fun p=>K p.1 p.2:=by
 unfold quietK quietCall
 cases closeL get depthS args with
 | none=>rfl
 | some q=>
  obtain ⟨args',l⟩:=q
  dsimp only
  rw [hk]
  cases E.callT f args' with
  | none=>rfl
  | some r=>
   simp only [Option.bind_some]
   rw [bind_cond,bind_cond,bind_cond];rfl
def callK (E:Env) (ck:CK ρ) (ro:Bool) (get:Nat→Option B) (h:Heap) (g:FuncId) (az:List S) (K:S→Heap→Option ρ):Option ρ:=
 bif ro then (bif !E.fnOk g || E.inl g then none else quietK ck get g az fun r l=>match l with | []=>K r h | _=>none)
 else bif !E.fnOk g then none else bif E.inl g then (E.callI g az h).bind fun p=>K p.1 p.2 else quietK ck h.get g az fun r l=>K r (h.freeze l)
def stepK (E:Env) (ck:CK ρ) (dr:Bool) (get:Nat→Option B) (id:Nat) (fr:Fr) (h:Heap) (op:Op) (K:S→Heap→Option ρ):Option ρ:=
 match op with
 | .indexAddr t x ix=>idxK E.P t (ev fr x) (ev fr ix) fun s=>K s h
 | .index t x ix=>atK E.P t (ev fr x) (ev fr ix) fun s=>K s h
 | .slice t x lo hi mx=>(optInt fr lo).bind fun lo=>(optInt fr hi).bind fun hi=>(optInt fr mx).bind fun mx=>sliceK E.P t (ev fr x) lo hi mx fun s=>K s h
 | .binOp op t x y _=>binK E.P E.K (isConst x || isConst y) op t (ev fr x) (ev fr y) fun s=>K s h
 | .load t a=>loadK E.P (bif dr then get else h.get) t (ev fr a) fun s=>K s h
 | .convert a b x=>convK E.P (bif dr then get else h.get) a b (ev fr x) fun s=>K s h
 | .call { callee:=.builtin .append,args,argTypes }=>(match args.toList.map (ev fr),argTypes.toList with
  | [x,y],[t,u]=>match E.P.underlying t,E.P.underlying u with
   | some (.slice e),some (.slice _)=>appendK E.P h id e x y K
   | _,_=>none
  | _,_=>none)
 | .call { callee:=.value f,args,.. }=>(match calleeS fr f (args.toList.map (ev fr)) with
  | some (g,az)=>callK E ck (match f with | .func f=>!E.inl f && dr | _=>false) get h g az K
  | none=>none)
 | op=>(stepOp E dr get id fr h op).bind fun p=>K p.1 p.2
theorem mapb {α β:Type} (o:Option α) (g:α→β) (K:β→Option ρ):(o.map g).bind K=o.bind fun a=>K (g a):=by cases o<;>rfl
theorem callK_eq {E:Env} {ck:CK ρ} (hk:CKOk E ck) {ro:Bool} {get:Nat→Option B} {h:Heap} {g:FuncId} {az:List S} {K:S→Heap→Option ρ}:
  callK E ck ro get h g az K=(bif ro then ((bif !E.fnOk g || E.inl g then none else (match quietCall E get g az with | some (r,[])=>some r | _=>none)):Option S).map (fun s=>(s,h)) else
   (bif !E.fnOk g then none else bif E.inl g then E.callI g az h else (match quietCall E h.get g az with | some (r,l)=>some (r,h.freeze l) | none=>none))).bind fun p=>K p.1 p.2:=by
 unfold callK
 cases ro with
 | true=>
  simp only [cond_true]
  rw [mapb,bind_cond,quietK_eq hk]
  congr 1
  cases quietCall E get g az with
  | none=>rfl
  | some p=>obtain ⟨r,l⟩:=p;cases l<;>rfl
 | false=>
  simp only [cond_false]
  rw [bind_cond,bind_cond,quietK_eq hk]
  congr 2
  cases quietCall E h.get g az<;>rfl
theorem stepK_eq {E:Env} {ck:CK ρ} (hk:CKOk E ck) (dr:Bool) (get:Nat→Option B) (id:Nat) (fr:Fr) (h:Heap) (op:Op) (K:S→Heap→Option ρ):stepK E ck dr get id fr h op K=(stepOp E dr get id fr h op).bind fun p=>K p.1 p.2:=by
 cases op with
 | indexAddr t x ix=>simp only [stepK,stepOp,clsOf,isCallO,idxK_eq E.P E.K,mapb]
 | index t x ix=>simp only [stepK,stepOp,clsOf,isCallO,atK_eq E.P E.K,mapb]
 | slice t x lo hi mx=>
  simp only [stepK,stepOp,clsOf,isCallO,pureOp,mapb,sliceK_eq]
  cases optInt fr lo with
  | none=>rfl
  | some lo=>
   cases optInt fr hi with
   | none=>rfl
   | some hi=>
    cases optInt fr mx with
    | none=>rfl
    | some mx=>rfl
 | binOp o t x y yt=>simp only [stepK,stepOp,clsOf,isCallO,pureOp,binK_eq,mapb]
 | load t x=>cases dr<;>simp only [stepK,stepOp,clsOf,isCallO,readOp,loadK_eq,mapb,cond_true,cond_false]
 | convert a b x=>cases dr<;>simp only [stepK,stepOp,clsOf,isCallO,readOp,convK_eq,mapb,cond_true,cond_false]
 | call c=>
  obtain ⟨callee,args,argTypes⟩:=c
  cases callee with
  | builtin b=>
   cases b<;>first | rfl | skip
   simp only [stepK,stepOp,clsOf,isCallO,writeOp]
   generalize args.toList.map (ev fr)=az
   generalize argTypes.toList=ts
   rcases az with _ | ⟨x,_ | ⟨y,_ | ⟨z,r⟩⟩⟩<;>rcases ts with _ | ⟨t,_ | ⟨u,_ | ⟨v,r'⟩⟩⟩<;>first | rfl | skip
   dsimp only
   cases E.P.underlying t with
   | none=>rfl
   | some d=>
    cases d with
    | slice e=>
     cases E.P.underlying u with
     | none=>rfl
     | some d'=>cases d'<;>first | rfl | exact appendK_eq _ _ _ _ _ _ _
    | _=>rfl
  | invoke r m=>rfl
  | value f=>
   simp only [stepK]
   cases f with
   | func f=>
    simp only [stepOp,clsOf,isCallO]
    cases hi:E.inl f with
    | true=>
     simp only [cond_true,writeOp,Bool.not_true,Bool.false_and]
     cases calleeS fr (.func f) (args.toList.map (ev fr)) with
     | none=>rfl
     | some q=>obtain ⟨g,az⟩:=q;dsimp only;rw [callK_eq hk];rfl
    | false=>
     simp only [cond_false,Bool.not_false,Bool.true_and]
     cases dr with
     | true=>
      simp only [cond_true,readOp]
      cases calleeS fr (.func f) (args.toList.map (ev fr)) with
      | none=>rfl
      | some q=>obtain ⟨g,az⟩:=q;dsimp only;rw [callK_eq hk];rfl
     | false=>
      simp only [cond_false,writeOp]
      cases calleeS fr (.func f) (args.toList.map (ev fr)) with
      | none=>rfl
      | some q=>obtain ⟨g,az⟩:=q;dsimp only;rw [callK_eq hk];rfl
   | _=>
    simp only [stepOp,clsOf,isCallO,writeOp]
    cases calleeS fr _ (args.toList.map (ev fr)) with
    | none=>rfl
    | some q=>obtain ⟨g,az⟩:=q;dsimp only;rw [callK_eq hk];rfl
 | _=>rfl
end
def addI (k:IntKind) (a b:Int):Int:=k.wrap (a+b)
def subI (k:IntKind) (a b:Int):Int:=k.wrap (a - b)
def mulI (k:IntKind) (a b:Int):Int:=k.wrap (a*b)
def quoI (k:IntKind) (a b:Int):Int:=k.wrap (a.tdiv b)
def remI (a b:Int):Int:=a.tmod b
def wrapI (k:IntKind) (a:Int):Int:=k.wrap a
def eqI (a b:Int):Bool:=decide (a=b)
def ltI (a b:Int):Bool:=decide (a < b)
def leI (a b:Int):Bool:=decide (a≤b)
def gtI (a b:Int):Bool:=decide (a > b)
def geI (a b:Int):Bool:=decide (a≥b)
def eqB (a b:Bool):Bool:=a == b
def fitS (a b:ByteArray):Bool:=decide (a.size+b.size≤strMax)
def catS (a b:ByteArray):ByteArray:=a++b
def ofN (n:Nat):Int:=(n:Int)
def sizeS (s:ByteArray):Int:=(s.size:Int)
def elemO {ρ:Type} (i:Int) (n:Nat) (K:i.toNat < n→Option ρ):Option ρ:=if h:0≤i∧i.toNat < n then K h.2 else none
def byteO {ρ:Type} (i:Int) (s:ByteArray) (K:Int→Option ρ):Option ρ:=if h:0≤i∧i.toNat < s.size then K ((s[i.toNat]'h.2).toNat:Int) else none
def bs (l:List Nat):ByteArray:=⟨(l.map UInt8.ofNat).toArray⟩
def toN (i:Int):Nat:=i.toNat
def subN (a b:Nat):Nat:=a - b
def addN (a b:Nat):Nat:=a+b
def fitsR (n b:Nat):Bool:=(n*b).ble roomMax && n.ble roomMax
def sizeN (s:ByteArray):Nat:=s.size
def roomS (s:ByteArray):Bool:=s.size.ble strMax
def byteAt (s:ByteArray) (i:Fin (sizeN s)):Int:=((s[i.1]'i.2).toNat:Int)
def extS (s:ByteArray) (a b:Nat):ByteArray:=s.extract a b
def bytesS (ks:List Int):ByteArray:=ofBytes ks
def subO {ρ:Type} (l m n:Nat) (K:l+m≤n→Option ρ):Option ρ:=if h:l+m≤n then K h else none
structure Rw0 where
 n:Nat
 g:Fin n→List T
structure Y where
 i:Nat→Int
 b:Nat→Bool
 s:Nat→ByteArray
 r:Nat→Rw0
 m:Nat→List (S × S)
mutual
def build (y:Y):Sh→S
 | .int k j=>.t (.v (.int k (y.i j)))
 | .bool j=>.t (.v (.bool (y.b j)))
 | .str j=>.t (.v (.string (y.s j)))
 | .rows sz j=>.t (.rows sz (y.r j).n (y.r j).g)
 | .mt j=>.mt (y.m j)
 | .agg l=>.agg (buildL y l)
 | .tup l=>.tup (buildL y l)
def buildL (y:Y):List Sh→List S
 | []=>[]
 | s::r=>build y s::buildL y r
end
abbrev YF:=FuncId→List S→Option Y
def yC {ρ:Type} (q:YF) (f:FuncId) (args:List S) (K:Y→Option ρ):Option ρ:=(q f args).bind K
def orc {ρ:Type} (P:Program) (q:YF):CK ρ:=fun f args K=>match shF P f with
 | some sh=>yC q f args fun y=>K (build y sh)
 | none=>none
def orcT (P:Program) (q:YF):CT:=fun f args=>match shF P f with
 | some sh=>(q f args).map fun y=>build y sh
 | none=>none
theorem orc_ok {ρ:Type} {P:Program} {q:YF} {E:Env} (hE:E.callT=orcT P q):CKOk E (orc (ρ:=ρ) P q):=fun f a K=>by
 rw [hE]
 unfold orc orcT yC
 cases shF P f with
 | none=>rfl
 | some sh=>dsimp only;rw [mapb]
noncomputable def regs (O:Opts):YF:=fun f a=>open Classical in
 match shF O.P f,(W O).callT f a with
 | some sh,some r=>if h:∃ y,build y sh=r then some h.choose else none
 | _,_=>none
theorem regs_of {O:Opts} {f:FuncId} {a:List S} {y:Y} (h:regs O f a=some y):∃ sh,shF O.P f=some sh∧(W O).callT f a=some (build y sh):=by
 unfold regs at h
 split at h
 ·rename_i sh r h1 h2
  split at h
  ·rename_i hx
   obtain rfl:=Option.some.inj h
   exact ⟨sh,h1,by rw [h2,hx.choose_spec]⟩
  ·cases h
 ·cases h
theorem regs_some {O:Opts} {f:FuncId} {a:List S} {sh:Sh} {y:Y} (hs:shF O.P f=some sh) (h:(W O).callT f a=some (build y sh)):∃ y',regs O f a=some y'∧build y' sh=build y sh:=by
 unfold regs
 rw [hs,h]
 have hx:∃ y',build y' sh=build y sh:=⟨y,rfl⟩
 dsimp only
 rw [dif_pos hx]
 exact ⟨_,rfl,hx.choose_spec⟩
theorem orcT_le {O:Opts}:∀ f a r,orcT O.P (regs O) f a=some r→(W O).callT f a=some r:=fun f a r h=>by
 unfold orcT at h
 split at h
 ·rename_i sh hs
  obtain ⟨y,hy,rfl⟩:=Option.map_eq_some_iff.1 h
  obtain ⟨sh',h1,h2⟩:=regs_of hy
  rw [hs] at h1
  obtain rfl:=Option.some.inj h1
  exact h2
 ·cases h
noncomputable def unb (sh:Sh) (v:S):Option Y:=open Classical in if h:∃ y,build y sh=v then some h.choose else none
theorem unb_some {sh:Sh} {v:S} {y:Y} (h:unb sh v=some y):build y sh=v:=by
 unfold unb at h
 split at h
 ·rename_i hx
  obtain rfl:=Option.some.inj h
  exact hx.choose_spec
 ·cases h
theorem unb_build {sh:Sh} {y:Y}:∃ y',unb sh (build y sh)=some y'∧build y' sh=build y sh:=by
 have hx:∃ y',build y' sh=build y sh:=⟨y,rfl⟩
 exact ⟨hx.choose,by unfold unb;rw [dif_pos hx],hx.choose_spec⟩
noncomputable def lookW {ρ:Type} (P:Program) (KT:TypeId→Option (List Nat)) (kt et:TypeId) (es:List (S × S)) (k:S) (Kt:Y→Option ρ) (Kf:Option ρ):Option ρ:=
 match shV P et 0,findS P KT kt k es 0 with
 | some (sh,_),some (some (_,v))=>(unb sh v).bind Kt
 | _,some none=>Kf
 | _,_=>none
def updW {ρ:Type} (P:Program) (KT:TypeId→Option (List Nat)) (kt:TypeId) (es:List (S × S)) (k v:S) (K:List (S × S)→Option ρ):Option ρ:=
 match findS P KT kt k es 0 with
 | some (some (i,_))=>K (setE es i k v)
 | some none=>K (es++[(k,v)])
 | none=>none
noncomputable def cellsW {ρ:Type} (P:Program) (t:TypeId) (cs:List T) (K:Y→Option ρ):Option ρ:=match shV P t 0 with
 | some (sh,_)=>((valS P t (cs.map .t)).bind (unb sh)).bind K
 | none=>none
def elemN {ρ:Type} (i n:Nat) (K:i < n→Option ρ):Option ρ:=if h:i < n then K h else none
structure FlatE (d:Nat) (es:List (S × S)):Prop where
 close:∀ get,closeE get d es=some (es,[])
 refs:refsE es=[]
 ren:∀ m,renE m es=some es
def matW {ρ:Type} (es:List (S × S)) (K:Option ρ):Option ρ:=if mapFlat (.mt es)=true then K else none
noncomputable def flatW {ρ:Type} (d:Nat) (es:List (S × S)) (K:Option ρ):Option ρ:=open Classical in if FlatE d es then K else none
def lenE (es:List (S × S)):Nat:=es.length
noncomputable def EY (O:Opts) (q:YF):Env:=mk O.P O.K O.fnOk O.inl O.live O.ov (orcT O.P q) (limI O)
def topK (P:Program) (f:FuncId) (r:S) (h:Heap):Option S:=(closeS h.get depthS r).map fun p=>normF P f p.1
theorem W_run {O:Opts} {f:FuncId} (hfns:O.fns f=true) (hext:O.ext f=none) {k:Nat} {args:List S} {r:S} {p:S × Heap}
  (h1:runBody (EY O (regs O)) true k f args .empty=some p) (h2:topK O.P f p.1 p.2=some r):(W O).callT f args=some r:=by
 obtain ⟨r0,hp⟩:=p
 have h1:runBody (mk O.P O.K O.fnOk O.inl O.live O.ov (orcT O.P (regs O)) (limI O)) true k f args .empty=some (r0,hp):=h1
 obtain ⟨⟨r1,l⟩,h3,h4⟩:=Option.map_eq_some_iff.1 h2
 simp only at h4
 subst h4
 exact W_call hfns hext (W_more orcT_le (fun _ _ _ _ h=>h) h1) h3
section
variable {ρ:Type}
def endK (E:Env) (fn:Func) (K:S→Heap→Option ρ):Ex→St→Option ρ:=fun ex st=>match ex with
 | .exit _=>none
 | _=>(resS E.P st fn.results.toList).bind fun vs=>K (resultS vs) st.h
def namesOk:List Nat→Bool
 | []=>true
 | x::l=>!l.contains x && namesOk l
end
section
variable {ρ:Type}
abbrev PK (ρ:Type):=Nat→Nat→Nat→St→Option ρ
section
variable {E:Env} {ck:CK ρ}
noncomputable def closeX (get:Nat→Option B) (d:Nat) (s:S) (K:S→List Nat→Option ρ):Option ρ:=match s with
 | .mp b=>(match d,get b with
  | d+1,some (.mp _ es)=>flatW d es (K (.mt es) [b])
  | _,_=>none)
 | .mt es=>(match d with
  | d+1=>flatW d es (K (.mt es) [])
  | 0=>none)
 | s=>(closeS get d s).bind fun p=>K p.1 p.2
theorem flatW_some {d:Nat} {es:List (S × S)} {K:Option ρ} {x:ρ} (h:flatW d es K=some x):FlatE d es∧K=some x:=by
 unfold flatW at h
 split at h
 ·rename_i hx;exact ⟨hx,h⟩
 ·cases h
theorem closeX_le {get:Nat→Option B} {d:Nat} {s:S} {K:S→List Nat→Option ρ} {x:ρ} (h:closeX get d s K=some x):∃ p,closeS get d s=some p∧K p.1 p.2=some x:=by
 unfold closeX at h
 split at h
 ·rename_i b
  split at h
  ·rename_i d f es hb
   obtain ⟨h1,h2⟩:=flatW_some h
   exact ⟨(.mt es,[b]),by unfold closeS;simp only [hb,h1.close],h2⟩
  ·cases h
 ·rename_i es
  split at h
  ·obtain ⟨h1,h2⟩:=flatW_some h
   exact ⟨(.mt es,[]),by unfold closeS;simp only [h1.close],h2⟩
  ·cases h
 ·exact Option.bind_eq_some_iff.1 h
noncomputable def closeLX (get:Nat→Option B):Nat→List S→(List S→List Nat→Option ρ)→Option ρ
 | 0,_,_=>none
 | _+1,[],K=>K [] []
 | d+1,c::cs,K=>closeX get d c fun x l=>closeLX get d cs fun xs l'=>K (x::xs) (l++l')
theorem closeLX_le {get:Nat→Option B} {x:ρ}:∀ {d:Nat} {cs:List S} {K:List S→List Nat→Option ρ},closeLX get d cs K=some x→∃ p,closeL get d cs=some p∧K p.1 p.2=some x
 | 0,_,_,h=>by cases h
 | _+1,[],K,h=>⟨([],[]),by unfold closeL;rfl,h⟩
 | d+1,c::cs,K,h=>by
  obtain ⟨p,h1,h2⟩:=closeX_le h
  obtain ⟨q,h3,h4⟩:=closeLX_le h2
  exact ⟨(p.1::q.1,p.2++q.2),by unfold closeL;simp only [h1,h3],h4⟩
noncomputable def quietX (ck:CK ρ) (get:Nat→Option B) (f:FuncId) (args:List S) (K:S→List Nat→Option ρ):Option ρ:=
 closeLX get depthS args fun args' l=>ck f args' fun r=>match l with
  | []=>K r []
  | l=>bif flatS depthS r then K r [] else bif l.all (rowAt get) then (match r with
   | .mt es=>bif l.all (noMap get) then matW es (K r []) else none
   | r=>K r l) else none
theorem matW_some {es:List (S × S)} {K:Option ρ} {x:ρ} (h:matW es K=some x):mapFlat (.mt es)=true∧K=some x:=by
 unfold matW at h
 split at h
 ·rename_i hx;exact ⟨hx,h⟩
 ·cases h
theorem quietX_le (hk:CKOk E ck) {get:Nat→Option B} {f:FuncId} {args:List S} {K:S→List Nat→Option ρ} {x:ρ} (h:quietX ck get f args K=some x):quietK ck get f args K=some x:=by
 obtain ⟨⟨a,l⟩,h1,h2⟩:=closeLX_le h
 unfold quietK
 rw [h1]
 dsimp only at h2 ⊢
 rw [hk] at h2 ⊢
 obtain ⟨r,h3,h4⟩:=Option.bind_eq_some_iff.1 h2
 refine Option.bind_eq_some_iff.2 ⟨r,h3,?_⟩
 cases l with
 | nil=>
  dsimp only at h4
  cases flatS depthS r with
  | true=>exact h4
  | false=>
   show (bif mapFlat r && true then K r [] else K r [])=some x
   cases mapFlat r<;>exact h4
 | cons b l=>
  dsimp only at h4 ⊢
  cases hf:flatS depthS r with
  | true=>rw [hf] at h4;exact h4
  | false=>
   rw [hf,cond_false] at h4
   rw [cond_false]
   cases hr:(b::l).all (rowAt get) with
   | false=>rw [hr] at h4;cases h4
   | true=>
    rw [hr,cond_true] at h4
    rw [cond_true]
    split at h4
    ·cases hn:(b::l).all (noMap get) with
     | false=>rw [hn] at h4;cases h4
     | true=>
      rw [hn,cond_true] at h4
      obtain ⟨h5,h6⟩:=matW_some h4
      rw [h5,Bool.and_self,cond_true];exact h6
    ·rename_i hne
     have:mapFlat r=false:=by
      unfold mapFlat
      split
      ·exact absurd rfl (hne _)
      ·rfl
     rw [this,Bool.false_and,cond_false];exact h4
noncomputable def callX (E:Env) (ck:CK ρ) (ro:Bool) (get:Nat→Option B) (h:Heap) (g:FuncId) (az:List S) (K:S→Heap→Option ρ):Option ρ:=
 bif ro then (bif !E.fnOk g || E.inl g then none else quietX ck get g az fun r l=>match l with | []=>K r h | _=>none)
 else bif !E.fnOk g then none else bif E.inl g then (E.callI g az h).bind fun p=>K p.1 p.2 else quietX ck h.get g az fun r l=>K r (h.freeze l)
theorem callX_le (hk:CKOk E ck) {ro:Bool} {get:Nat→Option B} {h:Heap} {g:FuncId} {az:List S} {K:S→Heap→Option ρ} {x:ρ} (hx:callX E ck ro get h g az K=some x):callK E ck ro get h g az K=some x:=by
 unfold callX at hx
 unfold callK
 cases ro with
 | true=>
  rw [cond_true] at hx ⊢
  cases hq:(!E.fnOk g || E.inl g) with
  | true=>rw [hq] at hx;cases hx
  | false=>rw [hq,cond_false] at hx;rw [cond_false];exact quietX_le hk hx
 | false=>
  rw [cond_false] at hx ⊢
  cases hq:!E.fnOk g with
  | true=>rw [hq] at hx;cases hx
  | false=>
   rw [hq,cond_false] at hx
   rw [cond_false]
   cases hi:E.inl g with
   | true=>rw [hi,cond_true] at hx;rw [cond_true];exact hx
   | false=>rw [hi,cond_false] at hx;rw [cond_false];exact quietX_le hk hx
def entX (get:Nat→Option B) (x:S):Option (List (S × S)):=match x with
 | .mp b=>(match get b with | some (.mp _ es)=>some es | _=>none)
 | .mt es=>some es
 | _=>none
noncomputable def lookX (E:Env) (get:Nat→Option B) (t:TypeId) (x k:S) (ok:Bool) (K:S→Option ρ):Option ρ:=
 match E.P.underlying t with
 | some (.map kt et)=>bif !keyFits E.P E.K kt k then none else
  (match entX get x,shV E.P et 0 with
   | some es,some (sh,_)=>lookW E.P E.K kt et es k (fun y=>K (bif ok then .tup [build y sh,sv (.bool true)] else build y sh))
    ((zeroS E.P et).bind fun z=>K (bif ok then .tup [z,sv (.bool false)] else z))
   | _,_=>none)
 | _=>none
theorem lookX_le {get:Nat→Option B} {t:TypeId} {x k:S} {ok:Bool} {K:S→Option ρ} {r:ρ} (h:lookX E get t x k ok K=some r):∃ s,lookS E.P E.K get t x k ok=some s∧K s=some r:=by
 unfold lookX at h
 unfold lookS
 split at h
 ·rename_i kt et hu
  rw [hu]
  dsimp only
  cases hq:!keyFits E.P E.K kt k with
  | true=>rw [hq] at h;cases h
  | false=>
   rw [hq,cond_false] at h
   rw [cond_false]
   split at h
   ·rename_i es sh j he hs
    have gen:∃ s,((findS E.P E.K kt k es 0).bind fun r=>match r with
       | some (_,v)=>some (bif ok then .tup [v,sv (.bool true)] else v)
       | none=>(zeroS E.P et).map fun z=>bif ok then .tup [z,sv (.bool false)] else z)=some s∧K s=some r:=by
     unfold lookW at h
     rw [hs] at h
     split at h
     ·rename_i sh' j' i v hs' hf
      obtain ⟨rfl,rfl⟩:sh=sh'∧j=j':=by simpa using hs'
      obtain ⟨y,hy,hK⟩:=Option.bind_eq_some_iff.1 h
      rw [hf]
      rw [unb_some hy] at hK
      exact ⟨_,rfl,hK⟩
     ·rename_i hf
      rw [hf]
      obtain ⟨z,hz,hK⟩:=Option.bind_eq_some_iff.1 h
      exact ⟨_,by simp only [Option.bind_some,hz,Option.map_some],hK⟩
     ·cases h
    unfold entX at he
    split at he
    ·rename_i b
     dsimp only
     cases hb:get b with
     | none=>rw [hb] at he;cases he
     | some z=>
      rw [hb] at he
      cases z with
      | mp f es'=>obtain rfl:=Option.some.inj he;exact gen
      | _=>cases he
    ·obtain rfl:=Option.some.inj he
     exact gen
    ·cases he
   ·cases h
 ·cases h
noncomputable def updX (E:Env) (h:Heap) (t:TypeId) (m k v:S) (K:Heap→Option ρ):Option ρ:=
 match E.P.underlying t,m with
 | some (.map kt _),.mp b=>
  (match closeS h.get depthS k,closeS h.get depthS v with
   | some (k',l1),some (v',l2)=>bif !keyFits E.P E.K kt k' || l1.contains b || l2.contains b || !l1.all (rowAt h.get) || !l2.all (rowAt h.get) then none else
    (match h.get b with
    | some (.mp false es)=>updW E.P E.K kt es k' v' fun es=>K (((h.freeze l1).freeze l2).put b (.mp false es))
    | _=>none)
   | _,_=>none)
 | _,_=>none
theorem updX_le {h:Heap} {t:TypeId} {m k v:S} {K:Heap→Option ρ} {r:ρ} (hx:updX E h t m k v K=some r):∃ h',updS E.P E.K h t m k v=some h'∧K h'=some r:=by
 unfold updX at hx
 unfold updS
 split at hx
 ·rename_i kt et b hu
  rw [hu]
  dsimp only
  split at hx
  ·rename_i k' l1 v' l2 h1 h2
   rw [h1,h2]
   dsimp only
   generalize hq:(!keyFits E.P E.K kt k' || l1.contains b || l2.contains b || !l1.all (rowAt h.get) || !l2.all (rowAt h.get))=q at hx
   cases q with
   | true=>cases hx
   | false=>
    rw [cond_false] at hx ⊢
    split at hx
    ·rename_i es hb
     rw [hb]
     dsimp only
     unfold updW at hx
     split at hx
     ·rename_i i x hf
      rw [hf]
      exact ⟨_,rfl,hx⟩
     ·rename_i hf
      rw [hf]
      exact ⟨_,rfl,hx⟩
     ·cases hx
    ·cases hx
  ·cases hx
 ·cases hx
noncomputable def loadX (P:Program) (get:Nat→Option B) (t:TypeId) (x:S) (K:S→Option ρ):Option ρ:=match x with
 | .ep b z i o=>(match get b with
  | some (.row _ sz n g)=>elemN i n fun h=>bif z.beq sz && (o+P.cellsOf t).ble sz then (match shV P t 0 with
   | some (sh,_)=>cellsW P t ((g ⟨i,h⟩).drop o) fun y=>K (build y sh)
   | none=>none) else none
  | _=>loadK P get t x K)
 | x=>loadK P get t x K
theorem loadX_le {P:Program} {get:Nat→Option B} {t:TypeId} {x:S} {K:S→Option ρ} {r:ρ} (hx:loadX P get t x K=some r):∃ s,loadS P get t x=some s∧K s=some r:=by
 have gen:loadK P get t x K=some r→∃ s,loadS P get t x=some s∧K s=some r:=fun h=>by
  rw [loadK_eq] at h
  exact Option.bind_eq_some_iff.1 h
 unfold loadX at hx
 split at hx
 ·rename_i b z i o
  split at hx
  ·rename_i f sz n g hb
   unfold elemN at hx
   split at hx
   ·rename_i hi
    dsimp only at hx
    cases hq:(z.beq sz && (o+P.cellsOf t).ble sz) with
    | false=>rw [hq] at hx;cases hx
    | true=>
     rw [hq,cond_true] at hx
     split at hx
     ·rename_i sh j hs
      unfold cellsW at hx
      rw [hs] at hx
      obtain ⟨y,h1,h2⟩:=Option.bind_eq_some_iff.1 hx
      obtain ⟨s,h3,h4⟩:=Option.bind_eq_some_iff.1 h1
      rw [unb_some h4] at h2
      refine ⟨s,?_,h2⟩
      unfold loadS
      simp only [hb,dif_pos hi,hq,cond_true]
      exact h3
     ·cases hx
   ·cases hx
  ·exact gen hx
 ·exact gen hx
noncomputable def stepX (E:Env) (ck:CK ρ) (dr:Bool) (get:Nat→Option B) (id:Nat) (fr:Fr) (h:Heap) (op:Op) (K:S→Heap→Option ρ):Option ρ:=
 match op with
 | .load t a=>loadX E.P (bif dr then get else h.get) t (ev fr a) fun s=>K s h
 | .lookup t x k ok=>lookX E (bif dr then get else h.get) t (ev fr x) (ev fr k) ok fun s=>K s h
 | .mapUpdate t m k v=>updX E h t (ev fr m) (ev fr k) (ev fr v) fun h=>K .ud h
 | .call { callee:=.value f,args,.. }=>(match calleeS fr f (args.toList.map (ev fr)) with
  | some (g,az)=>callX E ck (match f with | .func f=>!E.inl f && dr | _=>false) get h g az K
  | none=>none)
 | op=>stepK E ck dr get id fr h op K
theorem stepX_le (hk:CKOk E ck) {dr:Bool} {get:Nat→Option B} {id:Nat} {fr:Fr} {h:Heap} {op:Op} {K:S→Heap→Option ρ} {x:ρ} (hx:stepX E ck dr get id fr h op K=some x):∃ p,stepOp E dr get id fr h op=some p∧K p.1 p.2=some x:=by
 have gen:stepK E ck dr get id fr h op K=some x→∃ p,stepOp E dr get id fr h op=some p∧K p.1 p.2=some x:=fun hx=>by
  rw [stepK_eq hk] at hx
  exact Option.bind_eq_some_iff.1 hx
 unfold stepX at hx
 split at hx
 ·rename_i t a
  obtain ⟨s,h1,h2⟩:=loadX_le hx
  refine ⟨(s,h),?_,h2⟩
  cases dr with
  | true=>
   rw [cond_true] at h1
   simp only [stepOp,clsOf,isCallO,cond_true,readOp,h1,Option.map_some]
  | false=>
   rw [cond_false] at h1
   simp only [stepOp,clsOf,isCallO,cond_false,readOp,h1,Option.map_some]
 ·rename_i t a k ok
  obtain ⟨s,h1,h2⟩:=lookX_le hx
  refine ⟨(s,h),?_,h2⟩
  cases dr with
  | true=>
   rw [cond_true] at h1
   simp only [stepOp,clsOf,isCallO,cond_true,readOp,h1,Option.map_some]
  | false=>
   rw [cond_false] at h1
   simp only [stepOp,clsOf,isCallO,cond_false,readOp,h1,Option.map_some]
 ·rename_i t m k v
  obtain ⟨h',h1,h2⟩:=updX_le hx
  exact ⟨(.ud,h'),by simp only [stepOp,clsOf,isCallO,writeOp,h1,Option.map_some],h2⟩
 ·rename_i f args argTypes
  refine gen ?_
  unfold stepK
  dsimp only
  split at hx
  ·rename_i g az hc
   try simp only [hc]
   exact callX_le hk hx
  ·cases hx
 ·exact gen hx
noncomputable def opX (E:Env) (ck:CK ρ) (nt:Nat) (dr:Bool) (ops:Array Oper) (base:Nat) (i:Nat) (st:St) (K:St→Option ρ):Option ρ:=
 match ops[i]? with
 | none=>none
 | some o=>wantK ops st.fr o fun w fr=>
  bif w then (bif !dr || loneOk ops i o fr then stepX E ck dr (fun b=>bif b.blt base || allowed o (b - base) then st.h.get b else none) (base+i) fr st.h o.op fun s h=>(putS nt fr o.dst s).bind fun fr=>K ⟨fr,h⟩ else none)
  else (putS nt fr o.dst .ud).bind fun fr=>K ⟨fr,st.h⟩
theorem opX_le (hk:CKOk E ck) {nt:Nat} {dr:Bool} {ops:Array Oper} {base i:Nat} {st:St} {K:St→Option ρ} {x:ρ} (h:opX E ck nt dr ops base i st K=some x):∃ st1,runOp E nt dr ops base i st=some st1∧K st1=some x:=by
 unfold opX at h
 unfold runOp
 cases ho:ops[i]? with
 | none=>rw [ho] at h;cases h
 | some o=>
  rw [ho] at h
  dsimp only at h ⊢
  rw [wantK_eq] at h
  obtain ⟨⟨w,fr⟩,h1,h2⟩:=Option.bind_eq_some_iff.1 h
  rw [h1]
  dsimp only at h2 ⊢
  cases w with
  | true=>
   rw [cond_true] at h2
   obtain ⟨hl,h2⟩:=bif_some h2
   obtain ⟨p,h3,h4⟩:=stepX_le hk h2
   obtain ⟨fr',h5,h6⟩:=Option.bind_eq_some_iff.1 h4
   refine ⟨⟨fr',p.2⟩,?_,h6⟩
   simp only [Option.bind_some,cond_true,hl,h3,h5,Option.map_some]
  | false=>
   rw [cond_false] at h2
   obtain ⟨fr',h5,h6⟩:=Option.bind_eq_some_iff.1 h2
   refine ⟨⟨fr',st.h⟩,?_,h6⟩
   simp only [Option.bind_some,cond_false,h5,Option.map_some]
end
noncomputable def topX (P:Program) (f:FuncId) (r:S) (h:Heap):Option S:=closeX h.get depthS r fun s _=>some (normF P f s)
theorem topX_le {P:Program} {f:FuncId} {r:S} {h:Heap} {x:S} (hx:topX P f r h=some x):topK P f r h=some x:=by
 obtain ⟨p,h1,h2⟩:=closeX_le hx
 unfold topK
 rw [h1]
 exact h2
section
def refsBX:B→List Nat
 | .mp _ _=>[]
 | b=>refsB b
def renBX (m:Nat→Option Nat):B→Option B
 | .mp fz es=>some (.mp fz es)
 | b=>renB m b
def gatherX (h:Heap):Nat→List Nat→List Nat→List Nat
 | 0,_,seen=>seen.reverse
 | _+1,[],seen=>seen.reverse
 | f+1,b::todo,seen=>bif seen.contains b then gatherX h f todo seen else
  match h.get b with
  | some x=>gatherX h f (refsBX x++todo) (b::seen)
  | none=>gatherX h f todo (b::seen)
def renHeapX (m:Nat→Option Nat) (h:Heap):List Nat→Nat→Option (Tr B)
 | [],_=>some .leaf
 | b::r,i=>match h.get b with
  | some x=>(renBX m x).bind fun x=>(renHeapX m h r (i+1)).map fun t=>t.set i (some x)
  | none=>renHeapX m h r (i+1)
noncomputable def flatIds (h:Heap):List Nat→Option ρ→Option ρ
 | [],K=>K
 | b::r,K=>match h.get b with
  | some (.mp _ es)=>flatW 900 es (flatIds h r K)
  | _=>flatIds h r K
noncomputable def cleanX (keep:List Nat) (st:St) (K:St→Option ρ):Option ρ:=
 let ids:=gatherX st.h 1000 (keepRefs st.fr keep) []
 let m:=fun b=>indexIn ids b 0
 flatIds st.h ids ((renFr m st.fr keep).bind fun fr=>(renHeapX m st.h ids 0).bind fun t=>K ⟨fr,⟨ids.length,t⟩⟩)
def FlatAt (h:Heap) (b:Nat):Prop:=∀ x,h.get b=some x→refsBX x=refsB x∧∀ m,renBX m x=renB m x
theorem flatIds_some {h:Heap} {x:ρ}:∀ {ids:List Nat} {K:Option ρ},flatIds h ids K=some x→(∀ b∈ids,FlatAt h b)∧K=some x
 | [],K,hx=>⟨(fun b hb=>by cases hb),hx⟩
 | b::r,K,hx=>by
  unfold flatIds at hx
  split at hx
  ·rename_i f es hb
   obtain ⟨h1,h2⟩:=flatW_some hx
   obtain ⟨h3,h4⟩:=flatIds_some h2
   refine ⟨fun c hc=>?_,h4⟩
   rcases List.mem_cons.1 hc with rfl | hc
   ·intro y hy
    rw [hb] at hy
    obtain rfl:=Option.some.inj hy
    exact ⟨by simp only [refsBX,refsB,h1.refs],fun m=>by simp only [renBX,renB,h1.ren,Option.map_some]⟩
   ·exact h3 c hc
  ·rename_i hb
   obtain ⟨h3,h4⟩:=flatIds_some hx
   refine ⟨fun c hc=>?_,h4⟩
   rcases List.mem_cons.1 hc with rfl | hc
   ·intro y hy
    cases y with
    | mp f es=>exact absurd hy (hb f es)
    | _=>exact ⟨rfl,fun _=>rfl⟩
   ·exact h3 c hc
theorem gatherX_seen {h:Heap}:∀ (f:Nat) (todo seen:List Nat) (b:Nat),b∈seen→b∈gatherX h f todo seen
 | 0,_,seen,b,hb=>by unfold gatherX;simpa using hb
 | _+1,[],seen,b,hb=>by unfold gatherX;simpa using hb
 | f+1,c::todo,seen,b,hb=>by
  unfold gatherX
  cases seen.contains c with
  | true=>exact gatherX_seen f todo seen b hb
  | false=>
   rw [cond_false]
   cases h.get c with
   | none=>exact gatherX_seen f _ _ b (List.mem_cons_of_mem _ hb)
   | some x=>exact gatherX_seen f _ _ b (List.mem_cons_of_mem _ hb)
theorem gatherX_eq {h:Heap}:∀ (f:Nat) (todo seen:List Nat),(∀ b∈gatherX h f todo seen,FlatAt h b)→gather h f todo seen=gatherX h f todo seen
 | 0,_,seen,_=>rfl
 | _+1,[],seen,_=>rfl
 | f+1,c::todo,seen,hx=>by
  unfold gatherX at hx ⊢
  unfold gather
  cases hs:seen.contains c with
  | true=>
   rw [hs,cond_true] at hx
   exact gatherX_eq f todo seen hx
  | false=>
   rw [hs,cond_false] at hx
   rw [cond_false,cond_false]
   cases hc:h.get c with
   | none=>
    rw [hc] at hx
    exact gatherX_eq f todo _ hx
   | some x=>
    rw [hc] at hx
    dsimp only at hx ⊢
    have:=hx c (gatherX_seen f _ _ c List.mem_cons_self)
    rw [← (this x hc).1]
    exact gatherX_eq f _ _ hx
theorem renHeapX_eq {m:Nat→Option Nat} {h:Heap}:∀ (ids:List Nat) (i:Nat),(∀ b∈ids,FlatAt h b)→renHeapX m h ids i=renHeap m h ids i
 | [],_,_=>rfl
 | b::r,i,hx=>by
  unfold renHeapX renHeap
  cases hb:h.get b with
  | none=>exact renHeapX_eq r _ fun c hc=>hx c (List.mem_cons_of_mem _ hc)
  | some x=>
   dsimp only
   rw [(hx b List.mem_cons_self x hb).2,renHeapX_eq r _ fun c hc=>hx c (List.mem_cons_of_mem _ hc)]
theorem cleanX_le {keep:List Nat} {st:St} {K:St→Option ρ} {x:ρ} (h:cleanX keep st K=some x):∃ st',clean keep st=some st'∧K st'=some x:=by
 unfold cleanX at h
 obtain ⟨h1,h2⟩:=flatIds_some h
 obtain ⟨fr,h3,h4⟩:=Option.bind_eq_some_iff.1 h2
 obtain ⟨t,h5,h6⟩:=Option.bind_eq_some_iff.1 h4
 refine ⟨_,?_,h6⟩
 unfold clean
 simp only [gatherX_eq _ _ _ h1,h3,Option.bind_some]
 rw [← renHeapX_eq _ _ h1,h5]
 rfl
noncomputable def cleanAtX (E:Env) (f:FuncId) (gc:Bool) (key:Nat) (st:St) (K:St→Option ρ):Option ρ:=
 bif gc then (match E.live f key with
  | some keep=>cleanX keep st K
  | none=>K st) else K st
theorem cleanAtX_le {E:Env} {f:FuncId} {gc:Bool} {key:Nat} {st:St} {K:St→Option ρ} {x:ρ} (h:cleanAtX E f gc key st K=some x):∃ st',cleanAt E f gc key st=some st'∧K st'=some x:=by
 unfold cleanAtX at h
 unfold cleanAt
 cases gc with
 | false=>exact ⟨st,rfl,h⟩
 | true=>
  rw [cond_true] at h ⊢
  cases hl:E.live f key with
  | none=>rw [hl] at h;exact ⟨st,rfl,h⟩
  | some keep=>rw [hl] at h;exact cleanX_le h
noncomputable def leaveLX (E:Env) (f:FuncId) (gc:Bool) (r:Nat) (K:Ex→St→Option ρ):Ex→St→Option ρ
 | .normal,_=>none
 | .exit id,st=>cleanAtX E f gc (3*r+1) st (K (.exit id))
 | .ret,st=>cleanAtX E f gc (3*r+2) st (K .ret)
theorem leaveLX_le {E:Env} {f:FuncId} {gc:Bool} {r:Nat} {K:Ex→St→Option ρ} {ex:Ex} {st:St} {x:ρ} (h:leaveLX E f gc r K ex st=some x):∃ p,leaveL E f gc r ex st=some p∧K p.1 p.2=some x:=by
 cases ex with
 | normal=>cases h
 | exit id=>
  obtain ⟨st',h1,h2⟩:=cleanAtX_le h
  exact ⟨(.exit id,st'),by unfold leaveL;dsimp only;rw [h1];rfl,h2⟩
 | ret=>
  obtain ⟨st',h1,h2⟩:=cleanAtX_le h
  exact ⟨(.ret,st'),by unfold leaveL;dsimp only;rw [h1];rfl,h2⟩
end
def isPick (ops:Array Oper) (i:Nat):Bool:=match ops[i]? with
 | some o=>(match o.op with
  | .pick .. => o.guard.isNone
  | _=>false)
 | none=>false
noncomputable def opsP (E:Env) (ck:CK ρ) (kk:PK ρ) (r nt:Nat) (dr:Bool) (ops:Array Oper) (base:Nat):List Nat→St→(St→Option ρ)→Option ρ
 | [],st,K=>K st
 | i::l,st,K=>bif isPick ops (i - 1) then kk r (i+1) base st else opX E ck nt dr ops base i st fun st=>opsP E ck kk r nt dr ops base l st K
noncomputable def execP (E:Env) (ck:CK ρ) (kk:PK ρ) (f:FuncId) (nt:Nat) (gc:Bool):Code→St→(Ex→St→Option ρ)→Option ρ
 | .skip,st,K=>K .normal st
 | .region r ops draw,st,K=>opsP E ck kk r nt draw ops st.h.next (List.range ops.size) ⟨st.fr,⟨st.h.next+ops.size,st.h.tr⟩⟩ fun st=>K .normal st
 | .seq a b,st,K=>execP E ck kk f nt gc a st fun ex st=>match ex with
  | .normal=>execP E ck kk f nt gc b st K
  | ex=>K ex st
 | .cond c a b,st,K=>match ev st.fr c with
  | .t (.v (.bool p))=>bif p then execP E ck kk f nt gc a st K else execP E ck kk f nt gc b st K
  | _=>none
 | .block id b,st,K=>execP E ck kk f nt gc b st fun ex st=>match ex with
  | .exit i=>bif i.beq id then K .normal st else K (.exit i) st
  | ex=>K ex st
 | .loop b,st,_=>cleanAtX E f gc (3*firstR b) st (kk (firstR b) 0 0)
 | .exit id,st,K=>K (.exit id) st
 | .ret,st,K=>K .ret st
 | _,_,_=>none
inductive Frm where
 | seq (b:Code)
 | block (id:Nat)
 | loop (b:Code)
noncomputable def contP (E:Env) (ck:CK ρ) (kk:PK ρ) (f:FuncId) (nt:Nat) (gc:Bool) (KE:Ex→St→Option ρ):List Frm→Ex→St→Option ρ
 | [],ex,st=>KE ex st
 | .seq b::l,ex,st=>(match ex with
  | .normal=>execP E ck kk f nt gc b st (contP E ck kk f nt gc KE l)
  | ex=>contP E ck kk f nt gc KE l ex st)
 | .block id::l,ex,st=>(match ex with
  | .exit i=>bif i.beq id then contP E ck kk f nt gc KE l .normal st else contP E ck kk f nt gc KE l (.exit i) st
  | ex=>contP E ck kk f nt gc KE l ex st)
 | .loop b::l,ex,st=>(match ex with
  | .normal=>cleanAtX E f gc (3*firstR b) st (kk (firstR b) 0 0)
  | ex=>leaveLX E f gc (firstR b) (contP E ck kk f nt gc KE l) ex st)
inductive Piece where
 | head (b:Code) (l:List Frm)
 | mid (ops:Array Oper) (dr:Bool) (l:List Frm)
def pts:Code→List Frm→List (Nat × Piece)
 | .region r ops dr,l=>[(2*r+1,.mid ops dr l)]
 | .seq a b,l=>pts a (.seq b::l)++pts b l
 | .cond _ a b,l=>pts a l++pts b l
 | .block id b,l=>pts b (.block id::l)
 | .loop b,l=>(2*firstR b,.head b l)::pts b (.loop b::l)
 | _,_=>[]
def lookP:List (Nat × Piece)→Nat→Option Piece
 | [],_=>none
 | (i,x)::r,t=>bif i.beq t then some x else lookP r t
noncomputable def runP (E:Env) (ck:CK ρ) (kk:PK ρ) (f:FuncId) (nt:Nat) (gc:Bool) (KE:Ex→St→Option ρ) (r:Nat) (i base:Nat) (st:St):Piece→Option ρ
 | .head b l=>execP E ck kk f nt gc b st (contP E ck kk f nt gc KE (.loop b::l))
 | .mid ops dr l=>opX E ck nt dr ops base i st fun st=>opsP E ck kk r nt dr ops base ((List.range ops.size).drop (i+1)) st fun st=>contP E ck kk f nt gc KE l .normal st
noncomputable def ptP (E:Env) (ck:CK ρ) (f:FuncId) (nt:Nat) (gc:Bool) (T:List (Nat × Piece)) (KE:Ex→St→Option ρ) (kk:PK ρ):PK ρ:=fun r i base st=>match i with
 | 0=>(match lookP T (2*r) with
  | some p=>runP E ck kk f nt gc KE r 0 base st p
  | none=>none)
 | i+1=>(match lookP T (2*r+1) with
  | some p=>runP E ck kk f nt gc KE r i base st p
  | none=>none)
noncomputable def ptH (E:Env) (ck:CK ρ) (f:FuncId) (nt:Nat) (gc:Bool) (T:List (Nat × Piece)) (KE:Ex→St→Option ρ):Nat→PK ρ
 | 0=>fun _ _ _ _=>none
 | n+1=>ptP E ck f nt gc T KE (ptH E ck f nt gc T KE n)
theorem exec_mono {E:Env} {f:FuncId} {nt:Nat} {gc:Bool} {c:Code} {st:St} {k k':Nat} {y:Ex × St} (h:exec E f nt gc k c st=some y) (hk:k≤k'):exec E f nt gc k' c st=some y:=by
 obtain ⟨P,K,fnOk,inl,live,ov,t,i⟩:=E
 obtain ⟨L,M,h1,h2,h3⟩:=exec_supp (P:=P) (K:=K) (fnOk:=fnOk) (inl:=inl) (live:=live) (ov:=ov) (t:=t) (i:=i) c h
 exact h3 t i k' h1 h2 hk
theorem iter_mono {F G:St→Option (Ex × St)} (h:∀ st y,F st=some y→G st=some y):∀ (n:Nat) {st:St} {y:Ex × St},iter F n st=some y→iter G n st=some y
 | 0,_,_,hx=>by cases hx
 | n+1,st,y,hx=>by
  unfold iter at hx ⊢
  cases hf:F st with
  | none=>rw [hf] at hx;cases hx
  | some p=>
   rw [hf] at hx
   rw [h st p hf]
   obtain ⟨ex,st'⟩:=p
   cases ex with
   | normal=>exact iter_mono h n hx
   | exit id=>exact hx
   | ret=>exact hx
def Sem (E:Env) (f:FuncId) (nt:Nat) (gc:Bool) (c:Code) (st:St) (ex:Ex) (st':St):Prop:=∃ k,exec E f nt gc k c st=some (ex,st')
def Fin2 (E:Env) (f:FuncId) (nt:Nat) (gc:Bool) (KE:Ex→St→Option ρ):List Frm→Ex→St→ρ→Prop
 | [],ex,st,x=>KE ex st=some x
 | .seq b::l,ex,st,x=>(match ex with
  | .normal=>∃ ex' st',Sem E f nt gc b st ex' st'∧Fin2 E f nt gc KE l ex' st' x
  | ex=>Fin2 E f nt gc KE l ex st x)
 | .block id::l,ex,st,x=>(match ex with
  | .exit i=>if i.beq id=true then Fin2 E f nt gc KE l .normal st x else Fin2 E f nt gc KE l (.exit i) st x
  | ex=>Fin2 E f nt gc KE l ex st x)
 | .loop b::l,ex,st,x=>(match ex with
  | .normal=>∃ ex' st',Sem E f nt gc (.loop b) st ex' st'∧Fin2 E f nt gc KE l ex' st' x
  | ex=>∃ p,leaveL E f gc (firstR b) ex st=some p∧Fin2 E f nt gc KE l p.1 p.2 x)
structure KkOk (E:Env) (f:FuncId) (nt:Nat) (gc:Bool) (KE:Ex→St→Option ρ) (T:List (Nat × Piece)) (kk:PK ρ):Prop where
 hd:∀ r b l,(2*r,Piece.head b l)∈T→∀ base st x,kk r 0 base st=some x→∃ ex st',Sem E f nt gc b st ex st'∧Fin2 E f nt gc KE (.loop b::l) ex st' x
 md:∀ r ops dr l,(2*r+1,Piece.mid ops dr l)∈T→∀ i base st x,i < ops.size→kk r (i+1) base st=some x→∃ st',runOps E nt dr ops base ((List.range ops.size).drop i) st=some st'∧Fin2 E f nt gc KE l .normal st' x
theorem range_drop {n i:Nat} (h:i < n):(List.range n).drop i=i::(List.range n).drop (i+1):=by
 rw [List.drop_eq_getElem_cons (by simpa using h)]
 simp
theorem opsP_fin {E:Env} {ck:CK ρ} (hk:CKOk E ck) {kk:PK ρ} {r nt:Nat} {dr:Bool} {ops:Array Oper} {base:Nat} {K:St→Option ρ} {Q:St→ρ→Prop} (hK:∀ st x,K st=some x→Q st x)
  (hq:∀ i st x,i < ops.size→kk r (i+1) base st=some x→∃ st',runOps E nt dr ops base ((List.range ops.size).drop i) st=some st'∧Q st' x):
  ∀ (m i:Nat),ops.size - i=m→∀ st x,opsP E ck kk r nt dr ops base ((List.range ops.size).drop i) st K=some x→∃ st',runOps E nt dr ops base ((List.range ops.size).drop i) st=some st'∧Q st' x:=by
 intro m
 induction m with
 | zero=>
  intro i hi st x h
  have:(List.range ops.size).drop i=[]:=List.drop_eq_nil_of_le (by simp;omega)
  rw [this] at h ⊢
  exact ⟨st,rfl,hK st x h⟩
 | succ m ih=>
  intro i hi st x h
  have hlt:i < ops.size:=by omega
  rw [range_drop hlt] at h ⊢
  unfold opsP at h
  cases hp:isPick ops (i - 1) with
  | true=>
   rw [hp,cond_true] at h
   have:=hq i st x hlt h
   rwa [range_drop hlt] at this
  | false=>
   rw [hp,cond_false] at h
   obtain ⟨st1,h1,h2⟩:=opX_le hk h
   obtain ⟨st',h3,h4⟩:=ih (i+1) (by omega) st1 x h2
   refine ⟨st',?_,h4⟩
   unfold runOps
   rw [h1]
   exact h3
theorem Sem.loop {E:Env} {f:FuncId} {nt:Nat} {gc:Bool} {b:Code} {st st1 st2:St} {ex ex':Ex} {st':St} (hc:cleanAt E f gc (3*firstR b) st=some st1) (h:Sem E f nt gc b st1 ex st2)
  (hn:(match ex with
   | .normal=>Sem E f nt gc (.loop b) st2 ex' st'
   | ex=>leaveL E f gc (firstR b) ex st2=some (ex',st'))):Sem E f nt gc (.loop b) st ex' st':=by
 obtain ⟨k1,h1⟩:=h
 cases ex with
 | normal=>
  obtain ⟨k2,h2⟩:=hn
  have h2:=exec_mono h2 (Nat.le_max_right k1 k2)
  have h1:=exec_mono h1 (Nat.le_max_left k1 k2)
  generalize max k1 k2=k at h1 h2
  refine ⟨k+1,?_⟩
  simp only [exec,iter,hc,Option.bind_some] at h2 ⊢
  rw [exec_mono h1 (Nat.le_succ k)]
  obtain ⟨y,h3,h4⟩:=Option.bind_eq_some_iff.1 h2
  refine Option.bind_eq_some_iff.2 ⟨y,?_,h4⟩
  exact iter_mono (fun st y hy=>by
   obtain ⟨s,e1,e2⟩:=Option.bind_eq_some_iff.1 hy
   exact Option.bind_eq_some_iff.2 ⟨s,e1,exec_mono e2 (Nat.le_succ k)⟩) k h3
 | exit id=>
  refine ⟨k1+1,?_⟩
  simp only [exec,iter,hc,Option.bind_some]
  rw [exec_mono h1 (Nat.le_succ k1)]
  exact hn
 | ret=>
  refine ⟨k1+1,?_⟩
  simp only [exec,iter,hc,Option.bind_some]
  rw [exec_mono h1 (Nat.le_succ k1)]
  exact hn
def Here (T:List (Nat × Piece)) (c:Code) (l:List Frm):Prop:=∀ p∈pts c l,p∈T
def HereL (T:List (Nat × Piece)):List Frm→Prop
 | []=>True
 | .seq b::l=>Here T b l∧HereL T l
 | .block _::l=>HereL T l
 | .loop b::l=>(2*firstR b,Piece.head b l)∈T∧HereL T l
theorem execP_fin {E:Env} {ck:CK ρ} (hk:CKOk E ck) {f:FuncId} {nt:Nat} {gc:Bool} {KE:Ex→St→Option ρ} {T:List (Nat × Piece)} {kk:PK ρ} (hkk:KkOk E f nt gc KE T kk):
  ∀ (c:Code) (l:List Frm) (K:Ex→St→Option ρ),Here T c l→(∀ ex st x,K ex st=some x→Fin2 E f nt gc KE l ex st x)→∀ st x,execP E ck kk f nt gc c st K=some x→∃ ex st',Sem E f nt gc c st ex st'∧Fin2 E f nt gc KE l ex st' x:=by
 intro c
 induction c with
 | skip=>intro l K hT hK st x h;exact ⟨.normal,st,⟨0,rfl⟩,hK _ _ _ h⟩
 | region r ops dr=>
  intro l K hT hK st x h
  have hm:(2*r+1,Piece.mid ops dr l)∈T:=hT _ (by simp [pts])
  unfold execP at h
  obtain ⟨st',h1,h2⟩:=opsP_fin hk (Q:=fun st x=>Fin2 E f nt gc KE l .normal st x) (fun st x h=>hK .normal st x h) (fun i st' x hi h=>hkk.md r ops dr l hm i st.h.next st' x hi h) _ 0 rfl _ x h
  exact ⟨.normal,st',⟨0,by simp only [exec];rw [List.drop_zero] at h1;rw [h1];rfl⟩,h2⟩
 | seq a b iha ihb=>
  intro l K hT hK st x h
  unfold execP at h
  obtain ⟨ex,st',⟨k1,h1⟩,h2⟩:=iha (.seq b::l) _ (fun p hp=>hT p (by simp [pts,hp])) (fun ex st x h=>by
   cases ex with
   | normal=>
    exact ihb l K (fun p hp=>hT p (by simp [pts,hp])) hK st x h
   | exit id=>exact hK _ _ _ h
   | ret=>exact hK _ _ _ h) st x h
  cases ex with
  | normal=>
   obtain ⟨ex',st'',⟨k2,h3⟩,h4⟩:=h2
   refine ⟨ex',st'',⟨max k1 k2,?_⟩,h4⟩
   simp only [exec]
   rw [exec_mono h1 (Nat.le_max_left k1 k2)]
   exact exec_mono h3 (Nat.le_max_right k1 k2)
  | exit id=>
   refine ⟨_,_,⟨k1,?_⟩,h2⟩
   simp only [exec,h1,Option.bind_some]
  | ret=>
   refine ⟨_,_,⟨k1,?_⟩,h2⟩
   simp only [exec,h1,Option.bind_some]
 | cond q a b iha ihb=>
  intro l K hT hK st x h
  unfold execP at h
  generalize hv:ev st.fr q=s at h
  split at h
  ·rename_i p
   cases p with
   | true=>
    obtain ⟨ex,st',⟨k1,h1⟩,h2⟩:=iha l K (fun p hp=>hT p (by simp [pts,hp])) hK st x h
    exact ⟨ex,st',⟨k1,by simp only [exec,hv,cond_true];exact h1⟩,h2⟩
   | false=>
    obtain ⟨ex,st',⟨k1,h1⟩,h2⟩:=ihb l K (fun p hp=>hT p (by simp [pts,hp])) hK st x h
    exact ⟨ex,st',⟨k1,by simp only [exec,hv,cond_false];exact h1⟩,h2⟩
  ·cases h
 | block id b ih=>
  intro l K hT hK st x h
  unfold execP at h
  obtain ⟨ex,st',⟨k1,h1⟩,h2⟩:=ih (.block id::l) _ hT (fun ex st x h=>by
   cases ex with
   | normal=>exact hK _ _ _ h
   | ret=>exact hK _ _ _ h
   | exit i=>
    show if i.beq id=true then _ else _
    simp only at h
    split
    ·rename_i e;rw [e] at h;exact hK _ _ _ h
    ·rename_i e;rw [Bool.not_eq_true] at e;rw [e] at h;exact hK _ _ _ h) st x h
  cases ex with
  | normal=>exact ⟨_,_,⟨k1,by simp only [exec,h1,Option.bind_some]⟩,h2⟩
  | ret=>exact ⟨_,_,⟨k1,by simp only [exec,h1,Option.bind_some]⟩,h2⟩
  | exit i=>
   have h2:if i.beq id=true then Fin2 E f nt gc KE l .normal st' x else Fin2 E f nt gc KE l (.exit i) st' x:=h2
   split at h2
   ·rename_i e
    exact ⟨_,_,⟨k1,by simp only [exec,h1,Option.bind_some,e,cond_true]⟩,h2⟩
   ·rename_i e
    rw [Bool.not_eq_true] at e
    exact ⟨_,_,⟨k1,by simp only [exec,h1,Option.bind_some,e,cond_false]⟩,h2⟩
 | loop b ih=>
  intro l K hT hK st x h
  unfold execP at h
  obtain ⟨st1,hc,h⟩:=cleanAtX_le h
  obtain ⟨ex,st2,h1,h2⟩:=hkk.hd _ b l (hT _ (by simp [pts])) _ _ _ h
  cases ex with
  | normal=>
   obtain ⟨ex',st',h3,h4⟩:=h2
   exact ⟨ex',st',Sem.loop hc h1 h3,h4⟩
  | exit id=>
   obtain ⟨p,h3,h4⟩:=h2
   exact ⟨p.1,p.2,Sem.loop hc h1 h3,h4⟩
  | ret=>
   obtain ⟨p,h3,h4⟩:=h2
   exact ⟨p.1,p.2,Sem.loop hc h1 h3,h4⟩
 | exit id=>intro l K hT hK st x h;exact ⟨.exit id,st,⟨0,rfl⟩,hK _ _ _ h⟩
 | ret=>intro l K hT hK st x h;exact ⟨.ret,st,⟨0,rfl⟩,hK _ _ _ h⟩
 | rangeFunc=>intro l K hT hK st x h;cases h
 | scope=>intro l K hT hK st x h;cases h
 | label=>intro l K hT hK st x h;cases h
 | goto=>intro l K hT hK st x h;cases h
 | refuse=>intro l K hT hK st x h;cases h
theorem contP_fin {E:Env} {ck:CK ρ} (hk:CKOk E ck) {f:FuncId} {nt:Nat} {gc:Bool} {KE:Ex→St→Option ρ} {T:List (Nat × Piece)} {kk:PK ρ} (hkk:KkOk E f nt gc KE T kk):
  ∀ (l:List Frm),HereL T l→∀ ex st x,contP E ck kk f nt gc KE l ex st=some x→Fin2 E f nt gc KE l ex st x:=by
 intro l
 induction l with
 | nil=>intro _ ex st x h;exact h
 | cons a l ih=>
  intro hl ex st x h
  cases a with
  | seq b=>
   have ih:=ih hl.2
   cases ex with
   | normal=>exact execP_fin hk hkk b l _ hl.1 ih st x h
   | exit id=>exact ih _ _ _ h
   | ret=>exact ih _ _ _ h
  | block id=>
   have ih:=ih hl
   cases ex with
   | normal=>exact ih _ _ _ h
   | ret=>exact ih _ _ _ h
   | exit i=>
    show if i.beq id=true then _ else _
    have h:(bif i.beq id then _ else _)=some x:=h
    split
    ·rename_i e;rw [e] at h;exact ih _ _ _ h
    ·rename_i e;rw [Bool.not_eq_true] at e;rw [e] at h;exact ih _ _ _ h
  | loop b=>
   have ih:=ih hl.2
   cases ex with
   | normal=>
    have h:cleanAtX E f gc (3*firstR b) st (kk (firstR b) 0 0)=some x:=h
    obtain ⟨st1,hc,h⟩:=cleanAtX_le h
    obtain ⟨ex,st2,h1,h2⟩:=hkk.hd _ b l hl.1 _ _ _ h
    cases ex with
    | normal=>
     obtain ⟨ex',st',h3,h4⟩:=h2
     exact ⟨ex',st',Sem.loop hc h1 h3,h4⟩
    | exit id=>
     obtain ⟨p,h3,h4⟩:=h2
     exact ⟨p.1,p.2,Sem.loop hc h1 h3,h4⟩
    | ret=>
     obtain ⟨p,h3,h4⟩:=h2
     exact ⟨p.1,p.2,Sem.loop hc h1 h3,h4⟩
   | exit id=>
    obtain ⟨p,h1,h2⟩:=leaveLX_le (show leaveLX E f gc (firstR b) (contP E ck kk f nt gc KE l) (.exit id) st=some x from h)
    exact ⟨p,h1,ih _ _ _ h2⟩
   | ret=>
    obtain ⟨p,h1,h2⟩:=leaveLX_le (show leaveLX E f gc (firstR b) (contP E ck kk f nt gc KE l) .ret st=some x from h)
    exact ⟨p,h1,ih _ _ _ h2⟩
def HereP (T:List (Nat × Piece)):Piece→Prop
 | .head b l=>Here T b (.loop b::l)∧HereL T (.loop b::l)
 | .mid _ _ l=>HereL T l
theorem pts_here {T:List (Nat × Piece)}:∀ (c:Code) (l:List Frm),Here T c l→HereL T l→∀ p∈pts c l,HereP T p.2:=by
 intro c
 induction c with
 | region r ops dr=>intro l hT hl p hp;simp only [pts,List.mem_singleton] at hp;subst hp;exact hl
 | seq a b iha ihb=>
  intro l hT hl p hp
  have hb:Here T b l:=fun p hp=>hT p (by simp [pts,hp])
  rcases List.mem_append.1 hp with hp | hp
  ·exact iha _ (fun p hp=>hT p (by simp [pts,hp])) (show HereL T (.seq b::l) from ⟨hb,hl⟩) p hp
  ·exact ihb _ hb hl p hp
 | cond q a b iha ihb=>
  intro l hT hl p hp
  rcases List.mem_append.1 hp with hp | hp
  ·exact iha _ (fun p hp=>hT p (by simp [pts,hp])) hl p hp
  ·exact ihb _ (fun p hp=>hT p (by simp [pts,hp])) hl p hp
 | block id b ih=>intro l hT hl p hp;exact ih _ hT hl p hp
 | loop b ih=>
  intro l hT hl p hp
  have h1:Here T b (.loop b::l):=fun p hp=>hT p (by simp [pts,hp])
  have h2:HereL T (.loop b::l):=⟨hT _ (by simp [pts]),hl⟩
  rcases List.mem_cons.1 hp with rfl | hp
  ·exact ⟨h1,h2⟩
  ·exact ih _ h1 h2 p hp
 | _=>intro l hT hl p hp;cases hp
theorem mem_lookP:∀ {T:List (Nat × Piece)},namesOk (T.map (·.1))=true→∀ {i:Nat} {p:Piece},(i,p)∈T→lookP T i=some p
 | [],_,_,_,h=>by cases h
 | (j,x)::r,hn,i,p,h=>by
  simp only [List.map_cons,namesOk,Bool.and_eq_true,Bool.not_eq_true'] at hn
  unfold lookP
  rcases List.mem_cons.1 h with h | h
  ·simp only [Prod.mk.injEq] at h
   obtain ⟨rfl,rfl⟩:=h
   simp
  ·have hne:j.beq i=false:=by
    cases e:j.beq i with
    | false=>rfl
    | true=>
     obtain rfl:=Nat.eq_of_beq_eq_true e
     have:(r.map (·.1)).contains j=true:=by
      rw [List.contains_eq_mem,decide_eq_true_eq]
      exact List.mem_map.2 ⟨(j,p),h,rfl⟩
     rw [this] at hn;cases hn.1
   rw [hne,cond_false]
   exact mem_lookP hn.2 h
theorem ptH_ok {E:Env} {ck:CK ρ} (hk:CKOk E ck) {f:FuncId} {nt:Nat} {gc:Bool} {KE:Ex→St→Option ρ} {c:Code} (hn:namesOk ((pts c []).map (·.1))=true):∀ n,KkOk E f nt gc KE (pts c []) (ptH E ck f nt gc (pts c []) KE n)
 | 0=>⟨fun _ _ _ _ _ _ _ h=>(by cases h),fun _ _ _ _ _ _ _ _ _ _ h=>(by cases h)⟩
 | n+1=>by
  have ih:=ptH_ok hk (f:=f) (nt:=nt) (gc:=gc) (KE:=KE) hn n
  refine ⟨fun r b l hT base st x h=>?_,fun r ops dr l hT i base st x hi h=>?_⟩
  ·have hp:=pts_here c [] (fun _ h=>h) trivial _ hT
   have h:(match lookP (pts c []) (2*r) with
    | some p=>runP E ck (ptH E ck f nt gc (pts c []) KE n) f nt gc KE r 0 base st p
    | none=>none)=some x:=h
   rw [mem_lookP hn hT] at h
   exact execP_fin hk ih b (.loop b::l) _ hp.1 (contP_fin hk ih _ hp.2) st x h
  ·have hp:HereL (pts c []) l:=pts_here c [] (fun _ h=>h) trivial _ hT
   have h:(match lookP (pts c []) (2*r+1) with
    | some p=>runP E ck (ptH E ck f nt gc (pts c []) KE n) f nt gc KE r i base st p
    | none=>none)=some x:=h
   rw [mem_lookP hn hT] at h
   have h:opX E ck nt dr ops base i st (fun st=>opsP E ck (ptH E ck f nt gc (pts c []) KE n) r nt dr ops base ((List.range ops.size).drop (i+1)) st fun st=>contP E ck (ptH E ck f nt gc (pts c []) KE n) f nt gc KE l .normal st)=some x:=h
   obtain ⟨st1,h1,h2⟩:=opX_le hk h
   obtain ⟨st',h3,h4⟩:=opsP_fin hk (Q:=fun st x=>Fin2 E f nt gc KE l .normal st x) (fun st x h=>contP_fin hk ih l hp .normal st x h) (fun i st x hi h=>ih.md r ops dr l hT i base st x hi h) _ (i+1) rfl st1 x h2
   refine ⟨st',?_,h4⟩
   rw [range_drop hi]
   unfold runOps
   rw [h1]
   exact h3
noncomputable def bodyP (E:Env) (ck:CK ρ) (kk:PK ρ) (gc:Bool) (f:FuncId) (fn:Func) (c:Code) (args:List S) (h:Heap) (K:S→Heap→Option ρ):Option ρ:=
 bif args.length.ble fn.ntmps then execP E ck kk f fn.ntmps gc c ⟨frOf 0 args,h⟩ (endK E fn K) else none
theorem bodyP_run {E:Env} {ck:CK ρ} (hk:CKOk E ck) {f:FuncId} {fn:Func} {gc:Bool} {c:Code} {K:S→Heap→Option ρ} (hf:E.fn f=some fn) (hb:fn.body=some c) (hn:namesOk ((pts c []).map (·.1))=true) {n:Nat} {args:List S} {h:Heap} {x:ρ}
  (hx:bodyP E ck (ptH E ck f fn.ntmps gc (pts c []) (endK E fn K) n) gc f fn c args h K=some x):∃ k p,runBody E gc k f args h=some p∧K p.1 p.2=some x:=by
 unfold bodyP at hx
 cases hl:args.length.ble fn.ntmps with
 | false=>rw [hl] at hx;cases hx
 | true=>
  rw [hl,cond_true] at hx
  obtain ⟨ex,st',⟨k,h1⟩,h2⟩:=execP_fin hk (ptH_ok hk hn n) c [] _ (fun _ h=>h) (fun _ _ _ h=>h) _ _ hx
  have h2:endK E fn K ex st'=some x:=h2
  have go:isEnd ex=true→(resS E.P st' fn.results.toList).bind (fun vs=>K (resultS vs) st'.h)=some x→∃ k p,runBody E gc k f args h=some p∧K p.1 p.2=some x:=fun he h3=>by
   obtain ⟨vs,q1,q2⟩:=Option.bind_eq_some_iff.1 h3
   refine ⟨k,(resultS vs,st'.h),?_,q2⟩
   unfold runBody
   rw [hf]
   dsimp only
   rw [hb]
   dsimp only
   rw [hl,cond_true,h1,Option.bind_some,he,cond_true,q1];rfl
  cases ex with
  | normal=>exact go rfl h2
  | ret=>exact go rfl h2
  | exit id=>cases h2
end
theorem W_pts {O:Opts} {f:FuncId} {fn:Func} {c:Code} (hf:(W O).fn f=some fn) (hb:fn.body=some c) (hfns:O.fns f=true) (hext:O.ext f=none) (hn:namesOk ((pts c []).map (·.1))=true) {n:Nat} {args:List S} {x:S}
  (h:bodyP (EY O (regs O)) (orc O.P (regs O)) (ptH (EY O (regs O)) (orc O.P (regs O)) f fn.ntmps true (pts c []) (endK (EY O (regs O)) fn (topX O.P f)) n) true f fn c args .empty (topX O.P f)=some x):(W O).callT f args=some x:=by
 obtain ⟨k,p,h1,h2⟩:=bodyP_run (E:=EY O (regs O)) (orc_ok rfl) hf hb hn h
 exact W_run hfns hext h1 (topX_le h2)
end Go.Proofs.YtonkoellfaopiaaGreatDoor.H
