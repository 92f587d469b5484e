import Derived.Test.YtonkoellfaopiaaGreatDoorX8
set_option linter.unusedSimpArgs false
set_option linter.unusedVariables false
namespace Go.Proofs.YtonkoellfaopiaaGreatDoor.H
open Go
noncomputable section
abbrev H145 (q:YF):Nat→PK S:=HG q 145 Tryz.f145
def e145_in (q:YF) (a:Rw BA) (b:BA):OS:=yC q 182 [S.t (T.rows 1 a.n fun i=>[ts (a.get i)]),ss b] fun y=>some (bb (geI (y.i 0) 0))
theorem l145_in (q:YF) (a:Rw BA) (b:BA) (kk:PK S):BG q kk 145 Tryz.f145 [S.t (T.rows 1 a.n fun i=>e9 (a.get i)),ss b]=e145_in q a b:=by
 kernel_rfl
theorem W145 (a:Rw BA) (b:BA) (n:Nat) (x:S) (h:e145_in (regs O) a b=some x):(W O).callT 145 [S.t (T.rows 1 a.n fun i=>e9 (a.get i)),ss b]=some x:=by
 refine WG (fn:=Tryz.f145) (by kernel_rfl) (by kernel_rfl) (n:=n) ?_
 refine (l145_in (regs O) a b (H145 (regs O) n)).trans ?_
 exact h
abbrev P146 (q:YF) (kk:PK S):PK S:=PG q 146 Tryz.f146 kk
abbrev H146 (q:YF):Nat→PK S:=HG q 146 Tryz.f146
abbrev T146_0:Type:=Bool→Int→Bool→Int→Bool→Int→Bool→Int→Bool→Bool→Bool→S→S→OS
def K146_0 (a:BA) (kk:PK S):T146_0:=fun v0 u1 u2 u3 u4 u5 u6 u7 u8 u9 u10 u11 u12=> kk 2 6 8 (mkSt [(0,ss a),(2,bb false),(3,ii u1),(4,bb u2),(5,S.tup [ii u3,bb u4]),(6,ss a),(7,S.tup [ii u5,bb u6]),(8,ii u7),(9,bb u8),(10,bb u9),(11,bb u10),(12,u11),(13,u12),(14,bb v0)] 14 [])
def b146_0 (q:YF) (a:BA):T146_0:=fun v0 u1 u2 u3 u4 u5 u6 u7 u8 u9 u10 u11 u12=>some (bb v0)
def e146_in (q:YF) (a:BA) (k0:T146_0):OS:=yC q 183 [ss a] fun y=>bif y.b 1 then k0 true (y.i 0) (y.b 1) (y.i 0) (y.b 1) (y.i 0) (y.b 1) (y.i 0) (y.b 1) (y.b 1) true S.ud S.ud else yC q 101 [ss a] fun y_1=>k0 (y_1.b 0) (y.i 0) (y.b 1) (y.i 0) (y.b 1) (y.i 0) (y.b 1) (y.i 0) (y.b 1) (y.b 1) false (ss a) (bb (y_1.b 0))
structure X146 where
 x0:Bool→OS
def D146_0 (X:X146):T146_0:=fun v0 _ _ _ _ _ _ _ _ _ _ _ _=>X.x0 v0
def X146s (q:YF) (a:BA) (X:X146):X146:=⟨fun v0=>b146_0 q a v0 dd dd dd dd dd dd dd dd dd dd dd dd⟩
def X146n (q:YF) (a:BA):Nat→X146
 | 0=>⟨fun _=>none⟩
 | n+1=>X146s q a (X146n q a n)
theorem l146_0 (q:YF) (a:BA) (kk:PK S):K146_0 a (P146 q kk)=b146_0 q a:=by
 kernel_rfl
theorem l146_in (q:YF) (a:BA) (kk:PK S):BG q kk 146 Tryz.f146 [ss a]=e146_in q a (K146_0 a kk):=by
 kernel_rfl
theorem h146 (q:YF) (a:BA):∀ n,K146_0 a (H146 q n)=D146_0 (X146n q a n)
 | 0=>rfl
 | n+1=>by
  have h0:=h146 q a n
  exact (l146_0 q a (H146 q n)).trans (by kernel_rfl)
theorem W146 (a:BA) (n:Nat) (x:S) (h:e146_in (regs O) a (D146_0 (X146n (regs O) a n))=some x):(W O).callT 146 [ss a]=some x:=by
 refine WG (fn:=Tryz.f146) (by kernel_rfl) (by kernel_rfl) (n:=n) ?_
 refine (l146_in (regs O) a (H146 (regs O) n)).trans ?_
 have h0:=h146 (regs O) a n
 rw [h0]
 exact h
abbrev H147 (q:YF):Nat→PK S:=HG q 147 Tryz.f147
def e147_in (q:YF) (a:Rw D88) (b:D88):OS:=yC q 184 [S.t (T.rows 2 a.n fun i=>e88 (a.get i)),S.fn (Go.Fn.func 148) [] [S.pt (e88 b)]] fun y=>some (bb (geI (y.i 0) 0))
theorem l147_in (q:YF) (a:Rw D88) (b:D88) (kk:PK S):BG q kk 147 Tryz.f147 [S.t (T.rows 2 a.n fun i=>e88 (a.get i)),S.fn (Go.Fn.func 148) [] [S.pt (e88 b)]]=e147_in q a b:=by
 kernel_rfl
theorem W147 (a:Rw D88) (b:D88) (n:Nat) (x:S) (h:e147_in (regs O) a b=some x):(W O).callT 147 [S.t (T.rows 2 a.n fun i=>e88 (a.get i)),S.fn (Go.Fn.func 148) [] [S.pt (e88 b)]]=some x:=by
 refine WG (fn:=Tryz.f147) (by kernel_rfl) (by kernel_rfl) (n:=n) ?_
 refine (l147_in (regs O) a b (H147 (regs O) n)).trans ?_
 exact h
abbrev H147b (q:YF):Nat→PK S:=HG q 147 Tryz.f147
def e147b_in (q:YF) (a:Rw D88) (b:D88):OS:=yC q 184 [S.t (T.rows 2 a.n fun i=>e88 (a.get i)),S.fn (Go.Fn.func 154) [] [S.pt (e88 b)]] fun y=>some (bb (geI (y.i 0) 0))
theorem l147b_in (q:YF) (a:Rw D88) (b:D88) (kk:PK S):BG q kk 147 Tryz.f147 [S.t (T.rows 2 a.n fun i=>e88 (a.get i)),S.fn (Go.Fn.func 154) [] [S.pt (e88 b)]]=e147b_in q a b:=by
 kernel_rfl
theorem W147b (a:Rw D88) (b:D88) (n:Nat) (x:S) (h:e147b_in (regs O) a b=some x):(W O).callT 147 [S.t (T.rows 2 a.n fun i=>e88 (a.get i)),S.fn (Go.Fn.func 154) [] [S.pt (e88 b)]]=some x:=by
 refine WG (fn:=Tryz.f147) (by kernel_rfl) (by kernel_rfl) (n:=n) ?_
 refine (l147b_in (regs O) a b (H147b (regs O) n)).trans ?_
 exact h
abbrev H148 (q:YF):Nat→PK S:=HG q 148 Tryz.f148
def e148_in (q:YF) (a:D88) (b:D88):OS:=some (bb (strEq a.fKey b.fKey))
theorem l148_in (q:YF) (a:D88) (b:D88) (kk:PK S):BG q kk 148 Tryz.f148 [ag (e88 a),S.pt (e88 b)]=e148_in q a b:=by
 kernel_rfl
theorem W148 (a:D88) (b:D88) (n:Nat) (x:S) (h:e148_in (regs O) a b=some x):(W O).callT 148 [ag (e88 a),S.pt (e88 b)]=some x:=by
 refine WG (fn:=Tryz.f148) (by kernel_rfl) (by kernel_rfl) (n:=n) ?_
 refine (l148_in (regs O) a b (H148 (regs O) n)).trans ?_
 exact h
abbrev H149 (q:YF):Nat→PK S:=HG q 149 Tryz.f149
def e149_in (q:YF) (a:Rw D109) (b:D109):OS:=yC q 185 [S.t (T.rows 4 a.n fun i=>e109 (a.get i)),S.fn (Go.Fn.func 150) [] [S.pt (e109 b)]] fun y=>some (bb (geI (y.i 0) 0))
theorem l149_in (q:YF) (a:Rw D109) (b:D109) (kk:PK S):BG q kk 149 Tryz.f149 [S.t (T.rows 4 a.n fun i=>e109 (a.get i)),S.fn (Go.Fn.func 150) [] [S.pt (e109 b)]]=e149_in q a b:=by
 kernel_rfl
theorem W149 (a:Rw D109) (b:D109) (n:Nat) (x:S) (h:e149_in (regs O) a b=some x):(W O).callT 149 [S.t (T.rows 4 a.n fun i=>e109 (a.get i)),S.fn (Go.Fn.func 150) [] [S.pt (e109 b)]]=some x:=by
 refine WG (fn:=Tryz.f149) (by kernel_rfl) (by kernel_rfl) (n:=n) ?_
 refine (l149_in (regs O) a b (H149 (regs O) n)).trans ?_
 exact h
abbrev P150 (q:YF) (kk:PK S):PK S:=PG q 150 Tryz.f150 kk
abbrev H150 (q:YF):Nat→PK S:=HG q 150 Tryz.f150
abbrev T150_0:Type:=Bool→S→S→S→Bool→S→S→OS
def K150_0 (a:D109) (b:D109) (kk:PK S):T150_0:=fun v0 u1 u2 u3 u4 u5 u6=> kk 1 13 2 (mkSt [(0,ag (e109 a)),(8,bb (strEq a.fZone b.fZone)),(4,S.ptr 0 0),(12,u1),(2,S.ptr 0 0),(10,u2),(6,S.pt (e109 b)),(14,u3),(1,S.pt (e109 b)),(9,bb u4),(5,ss a.fZone),(13,u5),(3,bb false),(11,u6),(7,ss b.fZone),(15,bb v0)] 15 [(0,B.box (List.map S.t (e109 a)))])
def b150_0 (q:YF) (a:D109) (b:D109):T150_0:=fun v0 u1 u2 u3 u4 u5 u6=>some (bb v0)
def e150_in (q:YF) (a:D109) (b:D109) (k0:T150_0):OS:=bif strEq a.fZone b.fZone then k0 (strEq a.fKind b.fKind) (S.pt [ts b.fKind,ti b.fPrice,tb b.fOpen]) (S.ptr 0 1) (bb (strEq a.fKind b.fKind)) true (ss b.fKind) (ss a.fKind) else k0 false S.ud S.ud S.ud false S.ud S.ud
structure X150 where
 x0:Bool→OS
def D150_0 (X:X150):T150_0:=fun v0 _ _ _ _ _ _=>X.x0 v0
def X150s (q:YF) (a:D109) (b:D109) (X:X150):X150:=⟨fun v0=>b150_0 q a b v0 dd dd dd dd dd dd⟩
def X150n (q:YF) (a:D109) (b:D109):Nat→X150
 | 0=>⟨fun _=>none⟩
 | n+1=>X150s q a b (X150n q a b n)
theorem l150_0 (q:YF) (a:D109) (b:D109) (kk:PK S):K150_0 a b (P150 q kk)=b150_0 q a b:=by
 kernel_rfl
theorem l150_in (q:YF) (a:D109) (b:D109) (kk:PK S):BG q kk 150 Tryz.f150 [ag (e109 a),S.pt (e109 b)]=e150_in q a b (K150_0 a b kk):=by
 kernel_rfl
theorem h150 (q:YF) (a:D109) (b:D109):∀ n,K150_0 a b (H150 q n)=D150_0 (X150n q a b n)
 | 0=>rfl
 | n+1=>by
  have h0:=h150 q a b n
  exact (l150_0 q a b (H150 q n)).trans (by kernel_rfl)
theorem W150 (a:D109) (b:D109) (n:Nat) (x:S) (h:e150_in (regs O) a b (D150_0 (X150n (regs O) a b n))=some x):(W O).callT 150 [ag (e109 a),S.pt (e109 b)]=some x:=by
 refine WG (fn:=Tryz.f150) (by kernel_rfl) (by kernel_rfl) (n:=n) ?_
 refine (l150_in (regs O) a b (H150 (regs O) n)).trans ?_
 have h0:=h150 (regs O) a b n
 rw [h0]
 exact h
abbrev H151 (q:YF):Nat→PK S:=HG q 151 Tryz.f151
def e151_in (q:YF) (a:Rw BA):OS:=yC q 186 [S.t (T.rows 1 a.n fun i=>[ts (a.get i)]),S.t (T.v (.func (Go.Fn.func 152) #[] #[]))] fun y=>some (bb (geI (y.i 0) 0))
theorem l151_in (q:YF) (a:Rw BA) (kk:PK S):BG q kk 151 Tryz.f151 [S.t (T.rows 1 a.n fun i=>[ts (a.get i)]),S.t (T.v (.func (Go.Fn.func 152) #[] #[]))]=e151_in q a:=by
 kernel_rfl
theorem W151 (a:Rw BA) (n:Nat) (x:S) (h:e151_in (regs O) a=some x):(W O).callT 151 [S.t (T.rows 1 a.n fun i=>[ts (a.get i)]),S.t (T.v (.func (Go.Fn.func 152) #[] #[]))]=some x:=by
 refine WG (fn:=Tryz.f151) (by kernel_rfl) (by kernel_rfl) (n:=n) ?_
 refine (l151_in (regs O) a (H151 (regs O) n)).trans ?_
 exact h
abbrev H151b (q:YF):Nat→PK S:=HG q 151 Tryz.f151
def e151b_in (q:YF) (a:Rw BA):OS:=yC q 186 [S.t (T.rows 1 a.n fun i=>[ts (a.get i)]),S.t (T.v (.func (Go.Fn.func 229) #[] #[]))] fun y=>some (bb (geI (y.i 0) 0))
theorem l151b_in (q:YF) (a:Rw BA) (kk:PK S):BG q kk 151 Tryz.f151 [S.t (T.rows 1 a.n fun i=>[ts (a.get i)]),S.t (T.v (.func (Go.Fn.func 229) #[] #[]))]=e151b_in q a:=by
 kernel_rfl
theorem W151b (a:Rw BA) (n:Nat) (x:S) (h:e151b_in (regs O) a=some x):(W O).callT 151 [S.t (T.rows 1 a.n fun i=>[ts (a.get i)]),S.t (T.v (.func (Go.Fn.func 229) #[] #[]))]=some x:=by
 refine WG (fn:=Tryz.f151) (by kernel_rfl) (by kernel_rfl) (n:=n) ?_
 refine (l151b_in (regs O) a (H151b (regs O) n)).trans ?_
 exact h
abbrev H152 (q:YF):Nat→PK S:=HG q 152 Tryz.f152
def e152_in (q:YF) (a:BA):OS:=yC q 101 [ss a] fun y=>some (S.t (T.v (.bool !y.b 0)))
theorem l152_in (q:YF) (a:BA) (kk:PK S):BG q kk 152 Tryz.f152 [ss a]=e152_in q a:=by
 kernel_rfl
theorem W152 (a:BA) (n:Nat) (x:S) (h:e152_in (regs O) a=some x):(W O).callT 152 [ss a]=some x:=by
 refine WG (fn:=Tryz.f152) (by kernel_rfl) (by kernel_rfl) (n:=n) ?_
 refine (l152_in (regs O) a (H152 (regs O) n)).trans ?_
 exact h
abbrev P153 (q:YF) (kk:PK S):PK S:=PG q 153 Tryz.f153 kk
abbrev H153 (q:YF):Nat→PK S:=HG q 153 Tryz.f153
def K153_0 (a:Rw D68) (b:Int) (kk:PK S):OS:=kk 5 0 0 (mkSt [(16,ii (ofN a.n)),(6,S.t (T.v (.slice none 0 0))),(17,ii 0),(15,S.t (T.rows 4 a.n fun i=>e68 (a.get i)))] 0 [])
abbrev T153_1:Type:=Rw0→Int→Nat→OS
def K153_1 (a:Rw D68) (b:Int) (kk:PK S):T153_1:=fun v0 v1 u2=> kk 5 0 0 (mkSt [(16,ii (ofN a.n)),(6,S.sl 0 u2),(17,ii v1),(15,S.t (T.rows 4 a.n fun i=>e68 (a.get i)))] 1 [(0,B.row false 6 v0.n v0.g)])
def b153_0 (q:YF) (a:Rw D68) (b:Int) (k1:T153_1):OS:=bif ltI 0 (ofN a.n) then elemO 0 a.n fun h=>yC q 187 [ag (e68 (a.get (Fin.mk (Int.ofNat 0).toNat h)))] fun y=>bif !eqI (y.i 6) 0 then some (S.tup [S.t (T.rows 6 0 nil0),ii (y.i 6)]) else k1 (Rw0.mk 1 fun i=>List.take 6 (List.drop (↑i*6) [tb (y.b 0),tb (y.b 1),tb (y.b 2),T.rows 1 (y.r 3).n (y.r 3).g,ti (y.i 4),ti (y.i 5)])) 1 1 else some (S.tup [S.t (T.rows 6 0 nil0),ii 0])
def b153_1 (q:YF) (a:Rw D68) (b:Int) (k1:T153_1):T153_1:=fun v0 v1 u2=>bif ltI v1 (ofN a.n) then elemO v1 a.n fun h=>yC q 187 [ag (e68 (a.get (Fin.mk v1.toNat h)))] fun y=>bif !eqI (y.i 6) 0 then some (S.tup [S.t (T.rows 6 0 nil0),ii (y.i 6)]) else bif fitsR (addN v0.n 1) 48 then k1 (Rw0.mk (addN v0.n 1) (appGet v0.g fun i=>List.take 6 (List.drop (↑i*6) [tb (y.b 0),tb (y.b 1),tb (y.b 2),T.rows 1 (y.r 3).n (y.r 3).g,ti (y.i 4),ti (y.i 5)]))) (addI .i64 v1 1) (addN v0.n 1) else none else some (S.tup [S.t (T.rows 6 v0.n v0.g),ii 0])
def e153_in (q:YF) (a:Rw D68) (b:Int) (k0:OS):OS:=bif gtI (ofN a.n) b then some (S.tup [S.t (T.rows 6 0 nil0),ii 3]) else k0
structure X153 where
 x0:OS
 x1:Rw0→Int→OS
def D153_0 (X:X153):OS:=X.x0
def D153_1 (X:X153):T153_1:=fun v0 v1 _=>X.x1 v0 v1
def X153s (q:YF) (a:Rw D68) (b:Int) (X:X153):X153:=⟨b153_0 q a b (D153_1 X),
 fun v0 v1=>b153_1 q a b (D153_1 X) v0 v1 dd⟩
def X153n (q:YF) (a:Rw D68) (b:Int):Nat→X153
 | 0=>⟨none,fun _ _=>none⟩
 | n+1=>X153s q a b (X153n q a b n)
theorem l153_0 (q:YF) (a:Rw D68) (b:Int) (kk:PK S):K153_0 a b (P153 q kk)=b153_0 q a b (K153_1 a b kk):=by
 kernel_rfl
theorem l153_1 (q:YF) (a:Rw D68) (b:Int) (kk:PK S):K153_1 a b (P153 q kk)=b153_1 q a b (K153_1 a b kk):=by
 kernel_rfl
theorem l153_in (q:YF) (a:Rw D68) (b:Int) (kk:PK S):BG q kk 153 Tryz.f153 [S.t (T.rows 4 a.n fun i=>e68 (a.get i)),ii b]=e153_in q a b (K153_0 a b kk):=by
 kernel_rfl
theorem h153 (q:YF) (a:Rw D68) (b:Int):∀ n,K153_0 a b (H153 q n)=D153_0 (X153n q a b n)∧K153_1 a b (H153 q n)=D153_1 (X153n q a b n)
 | 0=>⟨rfl,rfl⟩
 | n+1=>by
  obtain ⟨h0,h1⟩:=h153 q a b n
  exact ⟨(l153_0 q a b (H153 q n)).trans (by rw [h1];kernel_rfl),(l153_1 q a b (H153 q n)).trans (by rw [h1];kernel_rfl)⟩
theorem W153 (a:Rw D68) (b:Int) (n:Nat) (x:S) (h:e153_in (regs O) a b (D153_0 (X153n (regs O) a b n))=some x):(W O).callT 153 [S.t (T.rows 4 a.n fun i=>e68 (a.get i)),ii b]=some x:=by
 refine WG (fn:=Tryz.f153) (by kernel_rfl) (by kernel_rfl) (n:=n) ?_
 refine (l153_in (regs O) a b (H153 (regs O) n)).trans ?_
 obtain ⟨h0,h1⟩:=h153 (regs O) a b n
 rw [h0]
 exact h
abbrev H154 (q:YF):Nat→PK S:=HG q 154 Tryz.f154
def e154_in (q:YF) (a:D88) (b:D88):OS:=some (bb (strEq a.fKey b.fKey))
theorem l154_in (q:YF) (a:D88) (b:D88) (kk:PK S):BG q kk 154 Tryz.f154 [ag (e88 a),S.pt (e88 b)]=e154_in q a b:=by
 kernel_rfl
theorem W154 (a:D88) (b:D88) (n:Nat) (x:S) (h:e154_in (regs O) a b=some x):(W O).callT 154 [ag (e88 a),S.pt (e88 b)]=some x:=by
 refine WG (fn:=Tryz.f154) (by kernel_rfl) (by kernel_rfl) (n:=n) ?_
 refine (l154_in (regs O) a b (H154 (regs O) n)).trans ?_
 exact h
abbrev H155 (q:YF):Nat→PK S:=HG q 155 Tryz.f155
def e155_in (q:YF) (a:Rw D47) (b:D47):OS:=yC q 188 [S.t (T.rows 3 a.n fun i=>e47 (a.get i)),ag (e47 b)] fun y=>some (bb (geI (y.i 0) 0))
theorem l155_in (q:YF) (a:Rw D47) (b:D47) (kk:PK S):BG q kk 155 Tryz.f155 [S.t (T.rows 3 a.n fun i=>e47 (a.get i)),ag (e47 b)]=e155_in q a b:=by
 kernel_rfl
theorem W155 (a:Rw D47) (b:D47) (n:Nat) (x:S) (h:e155_in (regs O) a b=some x):(W O).callT 155 [S.t (T.rows 3 a.n fun i=>e47 (a.get i)),ag (e47 b)]=some x:=by
 refine WG (fn:=Tryz.f155) (by kernel_rfl) (by kernel_rfl) (n:=n) ?_
 refine (l155_in (regs O) a b (H155 (regs O) n)).trans ?_
 exact h
abbrev P156 (q:YF) (kk:PK S):PK S:=PG q 156 Tryz.f156 kk
abbrev H156 (q:YF):Nat→PK S:=HG q 156 Tryz.f156
def K156_0 (a:Rw D77) (b:BA) (kk:PK S):Int→OS:=fun v0=> kk 2 0 0 (mkSt [(0,S.t (T.rows 10 a.n fun i=>e77 (a.get i))),(8,ii v0),(1,S.fn (Go.Fn.func 117) [] [S.pt [ts b]]),(7,ii (ofN a.n))] 0 [])
def b156_0 (q:YF) (a:Rw D77) (b:BA) (k0:Int→OS) (v0:Int):OS:=bif ltI v0 (ofN a.n) then elemO v0 a.n fun h=>yC q 117 [ag (e77 (a.get (Fin.mk v0.toNat h))),S.pt [ts b]] fun y=>bif y.b 0 then some (ii v0) else k0 (addI .i64 v0 1) else some (ii (Int.negSucc 0))
def e156_in (q:YF) (a:Rw D77) (b:BA) (k0:Int→OS):OS:=k0 0
structure X156 where
 x0:Int→OS
def D156_0 (X:X156):Int→OS:=fun v0=>X.x0 v0
def X156s (q:YF) (a:Rw D77) (b:BA) (X:X156):X156:=⟨fun v0=>b156_0 q a b (D156_0 X) v0⟩
def X156n (q:YF) (a:Rw D77) (b:BA):Nat→X156
 | 0=>⟨fun _=>none⟩
 | n+1=>X156s q a b (X156n q a b n)
theorem l156_0 (q:YF) (a:Rw D77) (b:BA) (kk:PK S):K156_0 a b (P156 q kk)=b156_0 q a b (K156_0 a b kk):=by
 kernel_rfl
theorem l156_in (q:YF) (a:Rw D77) (b:BA) (kk:PK S):BG q kk 156 Tryz.f156 [S.t (T.rows 10 a.n fun i=>e77 (a.get i)),S.fn (Go.Fn.func 117) [] [S.pt [ts b]]]=e156_in q a b (K156_0 a b kk):=by
 kernel_rfl
theorem h156 (q:YF) (a:Rw D77) (b:BA):∀ n,K156_0 a b (H156 q n)=D156_0 (X156n q a b n)
 | 0=>rfl
 | n+1=>by
  have h0:=h156 q a b n
  exact (l156_0 q a b (H156 q n)).trans (by rw [h0];kernel_rfl)
theorem W156 (a:Rw D77) (b:BA) (n:Nat) (x:S) (h:e156_in (regs O) a b (D156_0 (X156n (regs O) a b n))=some x):(W O).callT 156 [S.t (T.rows 10 a.n fun i=>e77 (a.get i)),S.fn (Go.Fn.func 117) [] [S.pt [ts b]]]=some x:=by
 refine WG (fn:=Tryz.f156) (by kernel_rfl) (by kernel_rfl) (n:=n) ?_
 refine (l156_in (regs O) a b (H156 (regs O) n)).trans ?_
 have h0:=h156 (regs O) a b n
 rw [h0]
 exact h
abbrev P157 (q:YF) (kk:PK S):PK S:=PG q 157 Tryz.f157 kk
abbrev H157 (q:YF):Nat→PK S:=HG q 157 Tryz.f157
def K157_0 (a:Rw D47) (b:D33) (kk:PK S):Int→OS:=fun v0=> kk 2 0 0 (mkSt [(0,S.t (T.rows 3 a.n fun i=>e47 (a.get i))),(8,ii v0),(1,S.fn (Go.Fn.func 119) [] [S.pt (e33 b)]),(7,ii (ofN a.n))] 0 [])
def b157_0 (q:YF) (a:Rw D47) (b:D33) (k0:Int→OS) (v0:Int):OS:=bif ltI v0 (ofN a.n) then elemO v0 a.n fun h=>yC q 119 [ag (e47 (a.get (Fin.mk v0.toNat h))),S.pt (e33 b)] fun y=>bif y.b 0 then some (ii v0) else k0 (addI .i64 v0 1) else some (ii (Int.negSucc 0))
def e157_in (q:YF) (a:Rw D47) (b:D33) (k0:Int→OS):OS:=k0 0
structure X157 where
 x0:Int→OS
def D157_0 (X:X157):Int→OS:=fun v0=>X.x0 v0
def X157s (q:YF) (a:Rw D47) (b:D33) (X:X157):X157:=⟨fun v0=>b157_0 q a b (D157_0 X) v0⟩
def X157n (q:YF) (a:Rw D47) (b:D33):Nat→X157
 | 0=>⟨fun _=>none⟩
 | n+1=>X157s q a b (X157n q a b n)
theorem l157_0 (q:YF) (a:Rw D47) (b:D33) (kk:PK S):K157_0 a b (P157 q kk)=b157_0 q a b (K157_0 a b kk):=by
 kernel_rfl
theorem l157_in (q:YF) (a:Rw D47) (b:D33) (kk:PK S):BG q kk 157 Tryz.f157 [S.t (T.rows 3 a.n fun i=>e47 (a.get i)),S.fn (Go.Fn.func 119) [] [S.pt (e33 b)]]=e157_in q a b (K157_0 a b kk):=by
 kernel_rfl
theorem h157 (q:YF) (a:Rw D47) (b:D33):∀ n,K157_0 a b (H157 q n)=D157_0 (X157n q a b n)
 | 0=>rfl
 | n+1=>by
  have h0:=h157 q a b n
  exact (l157_0 q a b (H157 q n)).trans (by rw [h0];kernel_rfl)
theorem W157 (a:Rw D47) (b:D33) (n:Nat) (x:S) (h:e157_in (regs O) a b (D157_0 (X157n (regs O) a b n))=some x):(W O).callT 157 [S.t (T.rows 3 a.n fun i=>e47 (a.get i)),S.fn (Go.Fn.func 119) [] [S.pt (e33 b)]]=some x:=by
 refine WG (fn:=Tryz.f157) (by kernel_rfl) (by kernel_rfl) (n:=n) ?_
 refine (l157_in (regs O) a b (H157 (regs O) n)).trans ?_
 have h0:=h157 (regs O) a b n
 rw [h0]
 exact h
abbrev H158 (q:YF):Nat→PK S:=HG q 158 Tryz.f158
def e158_in (q:YF) (a:Rw D160) (b:D160):OS:=yC q 189 [S.t (T.rows 3 a.n fun i=>e160 (a.get i)),ag (e160 b)] fun y=>some (bb (geI (y.i 0) 0))
theorem l158_in (q:YF) (a:Rw D160) (b:D160) (kk:PK S):BG q kk 158 Tryz.f158 [S.t (T.rows 3 a.n fun i=>e160 (a.get i)),ag (e160 b)]=e158_in q a b:=by
 kernel_rfl
theorem W158 (a:Rw D160) (b:D160) (n:Nat) (x:S) (h:e158_in (regs O) a b=some x):(W O).callT 158 [S.t (T.rows 3 a.n fun i=>e160 (a.get i)),ag (e160 b)]=some x:=by
 refine WG (fn:=Tryz.f158) (by kernel_rfl) (by kernel_rfl) (n:=n) ?_
 refine (l158_in (regs O) a b (H158 (regs O) n)).trans ?_
 exact h
abbrev P159 (q:YF) (kk:PK S):PK S:=PG q 159 Tryz.f159 kk
abbrev H159 (q:YF):Nat→PK S:=HG q 159 Tryz.f159
abbrev T159_0:Type:=Bool→S→S→Bool→OS
def K159_0 (a:BA) (b:BA) (kk:PK S):T159_0:=fun v0 u1 u2 u3=> kk 1 7 1 (mkSt [(0,ss a),(8,u1),(4,ii 0),(10,bb v0),(6,bb (strEq a (bs [122,111,110,101]))),(1,ss b),(9,u2),(5,ss a),(7,bb u3)] 15 [])
def b159_0 (q:YF) (a:BA) (b:BA):T159_0:=fun v0 u1 u2 u3=>yC q 108 [bb v0,ii 1] fun y=>yC q 109 [S.t (T.rows 1 1 fun i=>List.take 1 (List.drop (↑i*1) [ts b]))] fun y_1=>yC q 108 [bb (y_1.b 0),ii 7] fun y_2=>yC q 107 [S.t (T.rows 1 2 fun i=>List.take 1 (List.drop (↑i*1) [ti (y.i 0),ti (y_2.i 0)]))] fun y=>some (ii (y.i 0))
def e159_in (q:YF) (a:BA) (b:BA) (k0:T159_0):OS:=bif strEq a (bs [122,111,110,101]) then k0 true S.ud S.ud true else k0 (strEq a (bs [104,111,115,116])) (ss a) (bb (strEq a (bs [104,111,115,116]))) false
structure X159 where
 x0:Bool→OS
def D159_0 (X:X159):T159_0:=fun v0 _ _ _=>X.x0 v0
def X159s (q:YF) (a:BA) (b:BA) (X:X159):X159:=⟨fun v0=>b159_0 q a b v0 dd dd dd⟩
def X159n (q:YF) (a:BA) (b:BA):Nat→X159
 | 0=>⟨fun _=>none⟩
 | n+1=>X159s q a b (X159n q a b n)
theorem l159_0 (q:YF) (a:BA) (b:BA) (kk:PK S):K159_0 a b (P159 q kk)=b159_0 q a b:=by
 kernel_rfl
theorem l159_in (q:YF) (a:BA) (b:BA) (kk:PK S):BG q kk 159 Tryz.f159 [ss a,ss b]=e159_in q a b (K159_0 a b kk):=by
 kernel_rfl
theorem h159 (q:YF) (a:BA) (b:BA):∀ n,K159_0 a b (H159 q n)=D159_0 (X159n q a b n)
 | 0=>rfl
 | n+1=>by
  have h0:=h159 q a b n
  exact (l159_0 q a b (H159 q n)).trans (by kernel_rfl)
theorem W159 (a:BA) (b:BA) (n:Nat) (x:S) (h:e159_in (regs O) a b (D159_0 (X159n (regs O) a b n))=some x):(W O).callT 159 [ss a,ss b]=some x:=by
 refine WG (fn:=Tryz.f159) (by kernel_rfl) (by kernel_rfl) (n:=n) ?_
 refine (l159_in (regs O) a b (H159 (regs O) n)).trans ?_
 have h0:=h159 (regs O) a b n
 rw [h0]
 exact h
abbrev P160 (q:YF) (kk:PK S):PK S:=PG q 160 Tryz.f160 kk
abbrev H160 (q:YF):Nat→PK S:=HG q 160 Tryz.f160
def K160_0 (a:Rw D52) (b:BA) (kk:PK S):Int→OS:=fun v0=> kk 2 0 0 (mkSt [(0,S.t (T.rows 15 a.n fun i=>e52 (a.get i))),(8,ii v0),(1,S.fn (Go.Fn.func 124) [] [S.pt [ts b]]),(7,ii (ofN a.n))] 0 [])
def b160_0 (q:YF) (a:Rw D52) (b:BA) (k0:Int→OS) (v0:Int):OS:=bif ltI v0 (ofN a.n) then elemO v0 a.n fun h=>yC q 124 [ag (e52 (a.get (Fin.mk v0.toNat h))),S.pt [ts b]] fun y=>bif y.b 0 then some (ii v0) else k0 (addI .i64 v0 1) else some (ii (Int.negSucc 0))
def e160_in (q:YF) (a:Rw D52) (b:BA) (k0:Int→OS):OS:=k0 0
structure X160 where
 x0:Int→OS
def D160_0 (X:X160):Int→OS:=fun v0=>X.x0 v0
def X160s (q:YF) (a:Rw D52) (b:BA) (X:X160):X160:=⟨fun v0=>b160_0 q a b (D160_0 X) v0⟩
def X160n (q:YF) (a:Rw D52) (b:BA):Nat→X160
 | 0=>⟨fun _=>none⟩
 | n+1=>X160s q a b (X160n q a b n)
theorem l160_0 (q:YF) (a:Rw D52) (b:BA) (kk:PK S):K160_0 a b (P160 q kk)=b160_0 q a b (K160_0 a b kk):=by
 kernel_rfl
theorem l160_in (q:YF) (a:Rw D52) (b:BA) (kk:PK S):BG q kk 160 Tryz.f160 [S.t (T.rows 15 a.n fun i=>e52 (a.get i)),S.fn (Go.Fn.func 124) [] [S.pt [ts b]]]=e160_in q a b (K160_0 a b kk):=by
 kernel_rfl
theorem h160 (q:YF) (a:Rw D52) (b:BA):∀ n,K160_0 a b (H160 q n)=D160_0 (X160n q a b n)
 | 0=>rfl
 | n+1=>by
  have h0:=h160 q a b n
  exact (l160_0 q a b (H160 q n)).trans (by rw [h0];kernel_rfl)
theorem W160 (a:Rw D52) (b:BA) (n:Nat) (x:S) (h:e160_in (regs O) a b (D160_0 (X160n (regs O) a b n))=some x):(W O).callT 160 [S.t (T.rows 15 a.n fun i=>e52 (a.get i)),S.fn (Go.Fn.func 124) [] [S.pt [ts b]]]=some x:=by
 refine WG (fn:=Tryz.f160) (by kernel_rfl) (by kernel_rfl) (n:=n) ?_
 refine (l160_in (regs O) a b (H160 (regs O) n)).trans ?_
 have h0:=h160 (regs O) a b n
 rw [h0]
 exact h
abbrev P182 (q:YF) (kk:PK S):PK S:=PG q 182 Tryz.f182 kk
abbrev H182 (q:YF):Nat→PK S:=HG q 182 Tryz.f182
def K182_0 (a:Rw BA) (b:BA) (kk:PK S):Int→OS:=fun v0=> kk 2 0 0 (mkSt [(0,S.t (T.rows 1 a.n fun i=>[ts (a.get i)])),(8,ii v0),(1,ss b),(7,ii (ofN a.n))] 0 [])
def b182_0 (q:YF) (a:Rw BA) (b:BA) (k0:Int→OS) (v0:Int):OS:=bif ltI v0 (ofN a.n) then elemO v0 a.n fun h=>bif strEq b (a.get (Fin.mk v0.toNat h)) then some (ii v0) else k0 (addI .i64 v0 1) else some (ii (Int.negSucc 0))
def e182_in (q:YF) (a:Rw BA) (b:BA) (k0:Int→OS):OS:=k0 0
structure X182 where
 x0:Int→OS
def D182_0 (X:X182):Int→OS:=fun v0=>X.x0 v0
def X182s (q:YF) (a:Rw BA) (b:BA) (X:X182):X182:=⟨fun v0=>b182_0 q a b (D182_0 X) v0⟩
def X182n (q:YF) (a:Rw BA) (b:BA):Nat→X182
 | 0=>⟨fun _=>none⟩
 | n+1=>X182s q a b (X182n q a b n)
theorem l182_0 (q:YF) (a:Rw BA) (b:BA) (kk:PK S):K182_0 a b (P182 q kk)=b182_0 q a b (K182_0 a b kk):=by
 kernel_rfl
theorem l182_in (q:YF) (a:Rw BA) (b:BA) (kk:PK S):BG q kk 182 Tryz.f182 [S.t (T.rows 1 a.n fun i=>e9 (a.get i)),ss b]=e182_in q a b (K182_0 a b kk):=by
 kernel_rfl
theorem h182 (q:YF) (a:Rw BA) (b:BA):∀ n,K182_0 a b (H182 q n)=D182_0 (X182n q a b n)
 | 0=>rfl
 | n+1=>by
  have h0:=h182 q a b n
  exact (l182_0 q a b (H182 q n)).trans (by rw [h0];kernel_rfl)
theorem W182 (a:Rw BA) (b:BA) (n:Nat) (x:S) (h:e182_in (regs O) a b (D182_0 (X182n (regs O) a b n))=some x):(W O).callT 182 [S.t (T.rows 1 a.n fun i=>e9 (a.get i)),ss b]=some x:=by
 refine WG (fn:=Tryz.f182) (by kernel_rfl) (by kernel_rfl) (n:=n) ?_
 refine (l182_in (regs O) a b (H182 (regs O) n)).trans ?_
 have h0:=h182 (regs O) a b n
 rw [h0]
 exact h
abbrev P184 (q:YF) (kk:PK S):PK S:=PG q 184 Tryz.f184 kk
abbrev H184 (q:YF):Nat→PK S:=HG q 184 Tryz.f184
def K184_0 (a:Rw D88) (b:D88) (kk:PK S):Int→OS:=fun v0=> kk 2 0 0 (mkSt [(0,S.t (T.rows 2 a.n fun i=>e88 (a.get i))),(8,ii v0),(1,S.fn (Go.Fn.func 148) [] [S.pt (e88 b)]),(7,ii (ofN a.n))] 0 [])
def b184_0 (q:YF) (a:Rw D88) (b:D88) (k0:Int→OS) (v0:Int):OS:=bif ltI v0 (ofN a.n) then elemO v0 a.n fun h=>yC q 148 [ag (e88 (a.get (Fin.mk v0.toNat h))),S.pt (e88 b)] fun y=>bif y.b 0 then some (ii v0) else k0 (addI .i64 v0 1) else some (ii (Int.negSucc 0))
def e184_in (q:YF) (a:Rw D88) (b:D88) (k0:Int→OS):OS:=k0 0
structure X184 where
 x0:Int→OS
def D184_0 (X:X184):Int→OS:=fun v0=>X.x0 v0
def X184s (q:YF) (a:Rw D88) (b:D88) (X:X184):X184:=⟨fun v0=>b184_0 q a b (D184_0 X) v0⟩
def X184n (q:YF) (a:Rw D88) (b:D88):Nat→X184
 | 0=>⟨fun _=>none⟩
 | n+1=>X184s q a b (X184n q a b n)
theorem l184_0 (q:YF) (a:Rw D88) (b:D88) (kk:PK S):K184_0 a b (P184 q kk)=b184_0 q a b (K184_0 a b kk):=by
 kernel_rfl
theorem l184_in (q:YF) (a:Rw D88) (b:D88) (kk:PK S):BG q kk 184 Tryz.f184 [S.t (T.rows 2 a.n fun i=>e88 (a.get i)),S.fn (Go.Fn.func 148) [] [S.pt (e88 b)]]=e184_in q a b (K184_0 a b kk):=by
 kernel_rfl
theorem h184 (q:YF) (a:Rw D88) (b:D88):∀ n,K184_0 a b (H184 q n)=D184_0 (X184n q a b n)
 | 0=>rfl
 | n+1=>by
  have h0:=h184 q a b n
  exact (l184_0 q a b (H184 q n)).trans (by rw [h0];kernel_rfl)
theorem W184 (a:Rw D88) (b:D88) (n:Nat) (x:S) (h:e184_in (regs O) a b (D184_0 (X184n (regs O) a b n))=some x):(W O).callT 184 [S.t (T.rows 2 a.n fun i=>e88 (a.get i)),S.fn (Go.Fn.func 148) [] [S.pt (e88 b)]]=some x:=by
 refine WG (fn:=Tryz.f184) (by kernel_rfl) (by kernel_rfl) (n:=n) ?_
 refine (l184_in (regs O) a b (H184 (regs O) n)).trans ?_
 have h0:=h184 (regs O) a b n
 rw [h0]
 exact h
abbrev P184b (q:YF) (kk:PK S):PK S:=PG q 184 Tryz.f184 kk
abbrev H184b (q:YF):Nat→PK S:=HG q 184 Tryz.f184
def K184b_0 (a:Rw D88) (b:D88) (kk:PK S):Int→OS:=fun v0=> kk 2 0 0 (mkSt [(0,S.t (T.rows 2 a.n fun i=>e88 (a.get i))),(8,ii v0),(1,S.fn (Go.Fn.func 154) [] [S.pt (e88 b)]),(7,ii (ofN a.n))] 0 [])
def b184b_0 (q:YF) (a:Rw D88) (b:D88) (k0:Int→OS) (v0:Int):OS:=bif ltI v0 (ofN a.n) then elemO v0 a.n fun h=>yC q 154 [ag (e88 (a.get (Fin.mk v0.toNat h))),S.pt (e88 b)] fun y=>bif y.b 0 then some (ii v0) else k0 (addI .i64 v0 1) else some (ii (Int.negSucc 0))
def e184b_in (q:YF) (a:Rw D88) (b:D88) (k0:Int→OS):OS:=k0 0
structure X184b where
 x0:Int→OS
def D184b_0 (X:X184b):Int→OS:=fun v0=>X.x0 v0
def X184bs (q:YF) (a:Rw D88) (b:D88) (X:X184b):X184b:=⟨fun v0=>b184b_0 q a b (D184b_0 X) v0⟩
def X184bn (q:YF) (a:Rw D88) (b:D88):Nat→X184b
 | 0=>⟨fun _=>none⟩
 | n+1=>X184bs q a b (X184bn q a b n)
theorem l184b_0 (q:YF) (a:Rw D88) (b:D88) (kk:PK S):K184b_0 a b (P184b q kk)=b184b_0 q a b (K184b_0 a b kk):=by
 kernel_rfl
theorem l184b_in (q:YF) (a:Rw D88) (b:D88) (kk:PK S):BG q kk 184 Tryz.f184 [S.t (T.rows 2 a.n fun i=>e88 (a.get i)),S.fn (Go.Fn.func 154) [] [S.pt (e88 b)]]=e184b_in q a b (K184b_0 a b kk):=by
 kernel_rfl
theorem h184b (q:YF) (a:Rw D88) (b:D88):∀ n,K184b_0 a b (H184b q n)=D184b_0 (X184bn q a b n)
 | 0=>rfl
 | n+1=>by
  have h0:=h184b q a b n
  exact (l184b_0 q a b (H184b q n)).trans (by rw [h0];kernel_rfl)
theorem W184b (a:Rw D88) (b:D88) (n:Nat) (x:S) (h:e184b_in (regs O) a b (D184b_0 (X184bn (regs O) a b n))=some x):(W O).callT 184 [S.t (T.rows 2 a.n fun i=>e88 (a.get i)),S.fn (Go.Fn.func 154) [] [S.pt (e88 b)]]=some x:=by
 refine WG (fn:=Tryz.f184) (by kernel_rfl) (by kernel_rfl) (n:=n) ?_
 refine (l184b_in (regs O) a b (H184b (regs O) n)).trans ?_
 have h0:=h184b (regs O) a b n
 rw [h0]
 exact h
abbrev P185 (q:YF) (kk:PK S):PK S:=PG q 185 Tryz.f185 kk
abbrev H185 (q:YF):Nat→PK S:=HG q 185 Tryz.f185
def K185_0 (a:Rw D109) (b:D109) (kk:PK S):Int→OS:=fun v0=> kk 2 0 0 (mkSt [(0,S.t (T.rows 4 a.n fun i=>e109 (a.get i))),(8,ii v0),(1,S.fn (Go.Fn.func 150) [] [S.pt (e109 b)]),(7,ii (ofN a.n))] 0 [])
def b185_0 (q:YF) (a:Rw D109) (b:D109) (k0:Int→OS) (v0:Int):OS:=bif ltI v0 (ofN a.n) then elemO v0 a.n fun h=>yC q 150 [ag (e109 (a.get (Fin.mk v0.toNat h))),S.pt (e109 b)] fun y=>bif y.b 0 then some (ii v0) else k0 (addI .i64 v0 1) else some (ii (Int.negSucc 0))
def e185_in (q:YF) (a:Rw D109) (b:D109) (k0:Int→OS):OS:=k0 0
structure X185 where
 x0:Int→OS
def D185_0 (X:X185):Int→OS:=fun v0=>X.x0 v0
def X185s (q:YF) (a:Rw D109) (b:D109) (X:X185):X185:=⟨fun v0=>b185_0 q a b (D185_0 X) v0⟩
def X185n (q:YF) (a:Rw D109) (b:D109):Nat→X185
 | 0=>⟨fun _=>none⟩
 | n+1=>X185s q a b (X185n q a b n)
theorem l185_0 (q:YF) (a:Rw D109) (b:D109) (kk:PK S):K185_0 a b (P185 q kk)=b185_0 q a b (K185_0 a b kk):=by
 kernel_rfl
theorem l185_in (q:YF) (a:Rw D109) (b:D109) (kk:PK S):BG q kk 185 Tryz.f185 [S.t (T.rows 4 a.n fun i=>e109 (a.get i)),S.fn (Go.Fn.func 150) [] [S.pt (e109 b)]]=e185_in q a b (K185_0 a b kk):=by
 kernel_rfl
theorem h185 (q:YF) (a:Rw D109) (b:D109):∀ n,K185_0 a b (H185 q n)=D185_0 (X185n q a b n)
 | 0=>rfl
 | n+1=>by
  have h0:=h185 q a b n
  exact (l185_0 q a b (H185 q n)).trans (by rw [h0];kernel_rfl)
theorem W185 (a:Rw D109) (b:D109) (n:Nat) (x:S) (h:e185_in (regs O) a b (D185_0 (X185n (regs O) a b n))=some x):(W O).callT 185 [S.t (T.rows 4 a.n fun i=>e109 (a.get i)),S.fn (Go.Fn.func 150) [] [S.pt (e109 b)]]=some x:=by
 refine WG (fn:=Tryz.f185) (by kernel_rfl) (by kernel_rfl) (n:=n) ?_
 refine (l185_in (regs O) a b (H185 (regs O) n)).trans ?_
 have h0:=h185 (regs O) a b n
 rw [h0]
 exact h
abbrev P186 (q:YF) (kk:PK S):PK S:=PG q 186 Tryz.f186 kk
abbrev H186 (q:YF):Nat→PK S:=HG q 186 Tryz.f186
def K186_0 (a:Rw BA) (kk:PK S):Int→OS:=fun v0=> kk 2 0 0 (mkSt [(0,S.t (T.rows 1 a.n fun i=>[ts (a.get i)])),(8,ii v0),(1,S.t (T.v (.func (Go.Fn.func 152) #[] #[]))),(7,ii (ofN a.n))] 0 [])
def b186_0 (q:YF) (a:Rw BA) (k0:Int→OS) (v0:Int):OS:=bif ltI v0 (ofN a.n) then elemO v0 a.n fun h=>yC q 152 [ss (a.get (Fin.mk v0.toNat h))] fun y=>bif y.b 0 then some (ii v0) else k0 (addI .i64 v0 1) else some (ii (Int.negSucc 0))
def e186_in (q:YF) (a:Rw BA) (k0:Int→OS):OS:=k0 0
structure X186 where
 x0:Int→OS
def D186_0 (X:X186):Int→OS:=fun v0=>X.x0 v0
def X186s (q:YF) (a:Rw BA) (X:X186):X186:=⟨fun v0=>b186_0 q a (D186_0 X) v0⟩
def X186n (q:YF) (a:Rw BA):Nat→X186
 | 0=>⟨fun _=>none⟩
 | n+1=>X186s q a (X186n q a n)
theorem l186_0 (q:YF) (a:Rw BA) (kk:PK S):K186_0 a (P186 q kk)=b186_0 q a (K186_0 a kk):=by
 kernel_rfl
theorem l186_in (q:YF) (a:Rw BA) (kk:PK S):BG q kk 186 Tryz.f186 [S.t (T.rows 1 a.n fun i=>[ts (a.get i)]),S.t (T.v (.func (Go.Fn.func 152) #[] #[]))]=e186_in q a (K186_0 a kk):=by
 kernel_rfl
theorem h186 (q:YF) (a:Rw BA):∀ n,K186_0 a (H186 q n)=D186_0 (X186n q a n)
 | 0=>rfl
 | n+1=>by
  have h0:=h186 q a n
  exact (l186_0 q a (H186 q n)).trans (by rw [h0];kernel_rfl)
theorem W186 (a:Rw BA) (n:Nat) (x:S) (h:e186_in (regs O) a (D186_0 (X186n (regs O) a n))=some x):(W O).callT 186 [S.t (T.rows 1 a.n fun i=>[ts (a.get i)]),S.t (T.v (.func (Go.Fn.func 152) #[] #[]))]=some x:=by
 refine WG (fn:=Tryz.f186) (by kernel_rfl) (by kernel_rfl) (n:=n) ?_
 refine (l186_in (regs O) a (H186 (regs O) n)).trans ?_
 have h0:=h186 (regs O) a n
 rw [h0]
 exact h
abbrev P186b (q:YF) (kk:PK S):PK S:=PG q 186 Tryz.f186 kk
abbrev H186b (q:YF):Nat→PK S:=HG q 186 Tryz.f186
def K186b_0 (a:Rw BA) (kk:PK S):Int→OS:=fun v0=> kk 2 0 0 (mkSt [(0,S.t (T.rows 1 a.n fun i=>[ts (a.get i)])),(8,ii v0),(1,S.t (T.v (.func (Go.Fn.func 229) #[] #[]))),(7,ii (ofN a.n))] 0 [])
def b186b_0 (q:YF) (a:Rw BA) (k0:Int→OS) (v0:Int):OS:=bif ltI v0 (ofN a.n) then elemO v0 a.n fun h=>yC q 229 [ss (a.get (Fin.mk v0.toNat h))] fun y=>bif y.b 0 then some (ii v0) else k0 (addI .i64 v0 1) else some (ii (Int.negSucc 0))
def e186b_in (q:YF) (a:Rw BA) (k0:Int→OS):OS:=k0 0
structure X186b where
 x0:Int→OS
def D186b_0 (X:X186b):Int→OS:=fun v0=>X.x0 v0
def X186bs (q:YF) (a:Rw BA) (X:X186b):X186b:=⟨fun v0=>b186b_0 q a (D186b_0 X) v0⟩
def X186bn (q:YF) (a:Rw BA):Nat→X186b
 | 0=>⟨fun _=>none⟩
 | n+1=>X186bs q a (X186bn q a n)
theorem l186b_0 (q:YF) (a:Rw BA) (kk:PK S):K186b_0 a (P186b q kk)=b186b_0 q a (K186b_0 a kk):=by
 kernel_rfl
theorem l186b_in (q:YF) (a:Rw BA) (kk:PK S):BG q kk 186 Tryz.f186 [S.t (T.rows 1 a.n fun i=>[ts (a.get i)]),S.t (T.v (.func (Go.Fn.func 229) #[] #[]))]=e186b_in q a (K186b_0 a kk):=by
 kernel_rfl
theorem h186b (q:YF) (a:Rw BA):∀ n,K186b_0 a (H186b q n)=D186b_0 (X186bn q a n)
 | 0=>rfl
 | n+1=>by
  have h0:=h186b q a n
  exact (l186b_0 q a (H186b q n)).trans (by rw [h0];kernel_rfl)
theorem W186b (a:Rw BA) (n:Nat) (x:S) (h:e186b_in (regs O) a (D186b_0 (X186bn (regs O) a n))=some x):(W O).callT 186 [S.t (T.rows 1 a.n fun i=>[ts (a.get i)]),S.t (T.v (.func (Go.Fn.func 229) #[] #[]))]=some x:=by
 refine WG (fn:=Tryz.f186) (by kernel_rfl) (by kernel_rfl) (n:=n) ?_
 refine (l186b_in (regs O) a (H186b (regs O) n)).trans ?_
 have h0:=h186b (regs O) a n
 rw [h0]
 exact h
abbrev H187 (q:YF):Nat→PK S:=HG q 187 Tryz.f187
def e187_in (q:YF) (a:D68):OS:=yC q 215 [ag (e68 a)] fun y=>bif !eqI (y.i 0) 0 then some (S.tup [S.agg [bb false,bb false,bb false,S.t (T.rows 1 0 nil0),ii 0,ii 0],ii (y.i 0)]) else yC q 217 [S.t (T.rows 1 1 fun i=>List.take 1 (List.drop (↑i*1) [T.rows 1 a.fVals.n fun i=>[ts (a.fVals.get i)]]))] fun y=>matW (y.m 0) (flatW 998 (y.m 0) (yC q 216 [S.mt (y.m 0)] fun y=>bif eqI a.fOp 2 then some (S.tup [S.agg [bb true,bb true,bb false,S.t (T.rows 1 (y.r 0).n (y.r 0).g),ii 0,ii 0],ii 0]) else bif eqI a.fOp 3 then some (S.tup [S.agg [bb false,bb true,bb false,S.t (T.rows 1 (y.r 0).n (y.r 0).g),ii 0,ii 0],ii 0]) else bif eqI a.fOp 4 then some (S.tup [S.agg [bb true,bb false,bb false,S.t (T.rows 1 (y.r 0).n (y.r 0).g),ii 0,ii 0],ii 0]) else bif eqI a.fOp 5 then yC q 217 [S.t (T.v (.slice none 0 0))] fun y=>flatW 996 (y.m 0) (yC q 218 [ii (addI .i64 a.fN 1),ii 2147483648,S.mt (y.m 0)] fun y=>some (S.tup [S.agg [bb (y.b 0),bb (y.b 1),bb (y.b 2),S.t (T.rows 1 (y.r 3).n (y.r 3).g),ii (y.i 4),ii (y.i 5)],ii 0])) else bif eqI a.fOp 6 then yC q 217 [S.t (T.v (.slice none 0 0))] fun y=>flatW 996 (y.m 0) (yC q 218 [ii (Int.negSucc 2147483647),ii (subI .i64 a.fN 1),S.mt (y.m 0)] fun y=>some (S.tup [S.agg [bb (y.b 0),bb (y.b 1),bb (y.b 2),S.t (T.rows 1 (y.r 3).n (y.r 3).g),ii (y.i 4),ii (y.i 5)],ii 0])) else some (S.tup [S.agg [bb false,bb false,bb false,S.t (T.rows 1 (y.r 0).n (y.r 0).g),ii 0,ii 0],ii 0])))
theorem l187_in (q:YF) (a:D68) (kk:PK S):BG q kk 187 Tryz.f187 [ag (e68 a)]=e187_in q a:=by
 kernel_rfl
theorem W187 (a:D68) (n:Nat) (x:S) (h:e187_in (regs O) a=some x):(W O).callT 187 [ag (e68 a)]=some x:=by
 refine WG (fn:=Tryz.f187) (by kernel_rfl) (by kernel_rfl) (n:=n) ?_
 refine (l187_in (regs O) a (H187 (regs O) n)).trans ?_
 exact h
abbrev P188 (q:YF) (kk:PK S):PK S:=PG q 188 Tryz.f188 kk
abbrev H188 (q:YF):Nat→PK S:=HG q 188 Tryz.f188
def K188_0 (a:Rw D47) (b:D47) (kk:PK S):Int→OS:=fun v0=> kk 2 0 0 (mkSt [(0,S.t (T.rows 3 a.n fun i=>e47 (a.get i))),(8,ii v0),(3,S.ptr 0 0),(7,ii (ofN a.n))] 1 [(0,B.box (List.map S.t (e47 b)))])
def b188_0 (q:YF) (a:Rw D47) (b:D47) (k0:Int→OS) (v0:Int):OS:=bif ltI v0 (ofN a.n) then elemO v0 a.n fun h=>bif strEq b.fType (a.get (Fin.mk v0.toNat h)).fType && (strEq b.fZone (a.get (Fin.mk v0.toNat h)).fZone && (strEq b.fKind (a.get (Fin.mk v0.toNat h)).fKind && true)) then some (ii v0) else k0 (addI .i64 v0 1) else some (ii (Int.negSucc 0))
def e188_in (q:YF) (a:Rw D47) (b:D47) (k0:Int→OS):OS:=k0 0
structure X188 where
 x0:Int→OS
def D188_0 (X:X188):Int→OS:=fun v0=>X.x0 v0
def X188s (q:YF) (a:Rw D47) (b:D47) (X:X188):X188:=⟨fun v0=>b188_0 q a b (D188_0 X) v0⟩
def X188n (q:YF) (a:Rw D47) (b:D47):Nat→X188
 | 0=>⟨fun _=>none⟩
 | n+1=>X188s q a b (X188n q a b n)
theorem l188_0 (q:YF) (a:Rw D47) (b:D47) (kk:PK S):K188_0 a b (P188 q kk)=b188_0 q a b (K188_0 a b kk):=by
 kernel_rfl
theorem l188_in (q:YF) (a:Rw D47) (b:D47) (kk:PK S):BG q kk 188 Tryz.f188 [S.t (T.rows 3 a.n fun i=>e47 (a.get i)),ag (e47 b)]=e188_in q a b (K188_0 a b kk):=by
 kernel_rfl
theorem h188 (q:YF) (a:Rw D47) (b:D47):∀ n,K188_0 a b (H188 q n)=D188_0 (X188n q a b n)
 | 0=>rfl
 | n+1=>by
  have h0:=h188 q a b n
  exact (l188_0 q a b (H188 q n)).trans (by rw [h0];kernel_rfl)
theorem W188 (a:Rw D47) (b:D47) (n:Nat) (x:S) (h:e188_in (regs O) a b (D188_0 (X188n (regs O) a b n))=some x):(W O).callT 188 [S.t (T.rows 3 a.n fun i=>e47 (a.get i)),ag (e47 b)]=some x:=by
 refine WG (fn:=Tryz.f188) (by kernel_rfl) (by kernel_rfl) (n:=n) ?_
 refine (l188_in (regs O) a b (H188 (regs O) n)).trans ?_
 have h0:=h188 (regs O) a b n
 rw [h0]
 exact h
abbrev P189 (q:YF) (kk:PK S):PK S:=PG q 189 Tryz.f189 kk
abbrev H189 (q:YF):Nat→PK S:=HG q 189 Tryz.f189
def K189_0 (a:Rw D160) (b:D160) (kk:PK S):Int→OS:=fun v0=> kk 2 0 0 (mkSt [(0,S.t (T.rows 3 a.n fun i=>e160 (a.get i))),(8,ii v0),(3,S.ptr 0 0),(7,ii (ofN a.n))] 1 [(0,B.box (List.map S.t (e160 b)))])
def b189_0 (q:YF) (a:Rw D160) (b:D160) (k0:Int→OS) (v0:Int):OS:=bif ltI v0 (ofN a.n) then elemO v0 a.n fun h=>bif strEq b.fKey (a.get (Fin.mk v0.toNat h)).fKey && (strEq b.fVal (a.get (Fin.mk v0.toNat h)).fVal && (eqB b.fAny (a.get (Fin.mk v0.toNat h)).fAny && true)) then some (ii v0) else k0 (addI .i64 v0 1) else some (ii (Int.negSucc 0))
def e189_in (q:YF) (a:Rw D160) (b:D160) (k0:Int→OS):OS:=k0 0
structure X189 where
 x0:Int→OS
def D189_0 (X:X189):Int→OS:=fun v0=>X.x0 v0
def X189s (q:YF) (a:Rw D160) (b:D160) (X:X189):X189:=⟨fun v0=>b189_0 q a b (D189_0 X) v0⟩
def X189n (q:YF) (a:Rw D160) (b:D160):Nat→X189
 | 0=>⟨fun _=>none⟩
 | n+1=>X189s q a b (X189n q a b n)
theorem l189_0 (q:YF) (a:Rw D160) (b:D160) (kk:PK S):K189_0 a b (P189 q kk)=b189_0 q a b (K189_0 a b kk):=by
 kernel_rfl
theorem l189_in (q:YF) (a:Rw D160) (b:D160) (kk:PK S):BG q kk 189 Tryz.f189 [S.t (T.rows 3 a.n fun i=>e160 (a.get i)),ag (e160 b)]=e189_in q a b (K189_0 a b kk):=by
 kernel_rfl
theorem h189 (q:YF) (a:Rw D160) (b:D160):∀ n,K189_0 a b (H189 q n)=D189_0 (X189n q a b n)
 | 0=>rfl
 | n+1=>by
  have h0:=h189 q a b n
  exact (l189_0 q a b (H189 q n)).trans (by rw [h0];kernel_rfl)
theorem W189 (a:Rw D160) (b:D160) (n:Nat) (x:S) (h:e189_in (regs O) a b (D189_0 (X189n (regs O) a b n))=some x):(W O).callT 189 [S.t (T.rows 3 a.n fun i=>e160 (a.get i)),ag (e160 b)]=some x:=by
 refine WG (fn:=Tryz.f189) (by kernel_rfl) (by kernel_rfl) (n:=n) ?_
 refine (l189_in (regs O) a b (H189 (regs O) n)).trans ?_
 have h0:=h189 (regs O) a b n
 rw [h0]
 exact h
abbrev P215 (q:YF) (kk:PK S):PK S:=PG q 215 Tryz.f215 kk
abbrev H215 (q:YF):Nat→PK S:=HG q 215 Tryz.f215
abbrev T215_0:Type:=Bool→Bool→S→S→S→OS
def K215_0 (a:D68) (kk:PK S):T215_0:=fun v0 u1 u2 u3 u4=> kk 1 9 2 (mkSt [(0,ag (e68 a)),(8,bb u1),(12,bb v0),(2,ii 0),(10,u2),(6,ii a.fOp),(1,S.ptr 0 0),(9,u3),(5,S.ptr 0 1),(11,u4),(7,bb (eqI a.fOp 1))] 11 [(0,B.box (List.map S.t (e68 a)))])
abbrev T215_1:Type:=Bool→Bool→Bool→Bool→S→S→S→Bool→S→S→S→OS
def K215_1 (a:D68) (kk:PK S):T215_1:=fun v0 v1 u2 u3 u4 u5 u6 u7 u8 u9 u10=> kk 2 9 11 (mkSt [(0,ag (e68 a)),(16,bb u7),(8,bb u2),(20,bb v1),(12,bb u3),(2,ii 0),(18,u8),(10,u4),(6,ii a.fOp),(14,ii a.fOp),(1,S.ptr 0 0),(17,u9),(9,u5),(5,S.ptr 0 1),(13,S.ptr 0 1),(3,bb v0),(19,u10),(11,u6),(7,bb (eqI a.fOp 1)),(15,bb (eqI a.fOp 5))] 20 [(0,B.box (List.map S.t (e68 a)))])
abbrev T215_2:Type:=Bool→Bool→Bool→Bool→Bool→Bool→Bool→Bool→S→S→S→S→Bool→Bool→S→S→S→Bool→S→S→OS
def K215_2 (a:D68) (kk:PK S):T215_2:=fun v0 v1 v2 u3 u4 u5 u6 u7 u8 u9 u10 u11 u12 u13 u14 u15 u16 u17 u18 u19=> kk 5 9 25 (mkSt [(0,ag (e68 a)),(32,u16),(16,bb u3),(8,bb u4),(24,bb u5),(4,bb v0),(20,bb u6),(12,bb u7),(28,ii a.fOp),(2,ii 0),(34,bb v2),(18,u8),(10,u9),(6,ii a.fOp),(22,S.ptr 0 0),(14,ii a.fOp),(30,bb u17),(1,S.ptr 0 0),(33,u18),(17,u10),(9,u11),(25,bb u12),(5,S.ptr 0 1),(21,bb u13),(13,S.ptr 0 1),(29,bb (ltI a.fOp 1)),(3,bb v1),(19,u14),(11,u15),(27,S.ptr 0 1),(7,bb (eqI a.fOp 1)),(23,ss a.fKey),(15,bb (eqI a.fOp 5)),(31,u19)] 34 [(0,B.box (List.map S.t (e68 a)))])
abbrev T215_3:Type:=Bool→S→Bool→Bool→Bool→Bool→Bool→Bool→Bool→Bool→S→S→Bool→Bool→Bool→S→S→S→Bool→Bool→Bool→Bool→Bool→S→S→S→S→S→S→Bool→OS
def K215_3 (a:D68) (kk:PK S):T215_3:=fun v0 u1 u2 u3 u4 u5 u6 u7 u8 u9 u10 u11 u12 u13 u14 u15 u16 u17 u18 u19 u20 u21 u22 u23 u24 u25 u26 u27 u28 u29=> kk 7 8 41 (mkSt [(0,ag (e68 a)),(32,u1),(16,bb u2),(8,bb u3),(40,bb u4),(24,bb u5),(4,bb u6),(36,S.ptr 0 2),(20,bb u7),(12,bb u8),(44,u26),(28,ii a.fOp),(2,ii 0),(34,bb u9),(18,u10),(10,u11),(42,bb u12),(26,bb u13),(6,ii a.fOp),(38,ii (ofN a.fVals.n)),(22,S.ptr 0 0),(14,ii a.fOp),(46,u27),(30,bb u14),(1,S.ptr 0 0),(33,u15),(17,u16),(9,u17),(41,bb u18),(25,bb u19),(5,S.ptr 0 1),(37,S.t (T.rows 1 a.fVals.n fun i=>[ts (a.fVals.get i)])),(21,bb u20),(13,S.ptr 0 1),(45,u28),(29,bb (ltI a.fOp 1)),(3,bb u21),(35,bb u22),(19,u23),(11,u24),(43,bb u29),(27,S.ptr 0 1),(7,bb (eqI a.fOp 1)),(39,bb (gtI (ofN a.fVals.n) 0)),(23,ss a.fKey),(15,bb (eqI a.fOp 5)),(47,bb v0),(31,u25)] 49 [(0,B.box (List.map S.t (e68 a)))])
def b215_0 (q:YF) (a:D68) (k1:T215_1):T215_0:=fun v0 u1 u2 u3 u4=>bif eqI a.fOp 5 then k1 v0 true u1 v0 u2 u3 u4 true S.ud S.ud S.ud else k1 v0 (eqI a.fOp 6) u1 v0 u2 u3 u4 false (ii a.fOp) (S.ptr 0 1) (bb (eqI a.fOp 6))
def b215_1 (q:YF) (a:D68) (k2:T215_2):T215_1:=fun v0 v1 u2 u3 u4 u5 u6 u7 u8 u9 u10=>yC q 101 [ss a.fKey] fun y=>bif !y.b 0 then some (ii 7) else bif ltI a.fOp 1 then k2 v1 v0 true u7 u2 (y.b 0) v1 u3 u8 u4 u9 u5 (!y.b 0) (!y.b 0) u10 u6 S.ud true S.ud S.ud else k2 v1 v0 (gtI a.fOp 6) u7 u2 (y.b 0) v1 u3 u8 u4 u9 u5 (!y.b 0) (!y.b 0) u10 u6 (ii a.fOp) false (bb (gtI a.fOp 6)) (S.ptr 0 1)
def b215_2 (q:YF) (a:D68) (k3:T215_3):T215_2:=fun v0 v1 v2 u3 u4 u5 u6 u7 u8 u9 u10 u11 u12 u13 u14 u15 u16 u17 u18 u19=>bif v2 then bif v2 then some (ii 30) else bif gtI (ofN a.fVals.n) 8 then some (ii 3) else yC q 151 [S.t (T.rows 1 a.fVals.n fun i=>[ts (a.fVals.get i)]),S.t (T.v (.func (Go.Fn.func 229) #[] #[]))] fun y=>bif y.b 0 then some (ii 20) else yC q 217 [S.t (T.rows 1 1 fun i=>List.take 1 (List.drop (↑i*1) [T.rows 1 a.fVals.n fun i=>[ts (a.fVals.get i)]]))] fun y=>matW (y.m 0) (bif ltI (ofN (lenE (y.m 0))) (ofN a.fVals.n) then some (ii 6) else some (ii 0)) else bif !eqB v1 (gtI (ofN a.fVals.n) 0) then bif !eqB v1 (gtI (ofN a.fVals.n) 0) then some (ii 30) else bif gtI (ofN a.fVals.n) 8 then some (ii 3) else yC q 151 [S.t (T.rows 1 a.fVals.n fun i=>[ts (a.fVals.get i)]),S.t (T.v (.func (Go.Fn.func 229) #[] #[]))] fun y=>bif y.b 0 then some (ii 20) else yC q 217 [S.t (T.rows 1 1 fun i=>List.take 1 (List.drop (↑i*1) [T.rows 1 a.fVals.n fun i=>[ts (a.fVals.get i)]]))] fun y=>matW (y.m 0) (bif ltI (ofN (lenE (y.m 0))) (ofN a.fVals.n) then some (ii 6) else some (ii 0)) else bif !v0 then k3 (!eqI a.fN 0) u16 u3 u4 (!eqB v1 (gtI (ofN a.fVals.n) 0)) u5 v0 u6 u7 v2 u8 u9 (!v0) (!eqB v1 (gtI (ofN a.fVals.n) 0)) u17 u18 u10 u11 v0 u12 u13 v1 v1 u14 u15 u19 (S.ptr 0 3) (S.t (T.v (.bool !eqI a.fN 0))) (ii a.fN) true else k3 false u16 u3 u4 (!eqB v1 (gtI (ofN a.fVals.n) 0)) u5 v0 u6 u7 v2 u8 u9 (!v0) (!eqB v1 (gtI (ofN a.fVals.n) 0)) u17 u18 u10 u11 v0 u12 u13 v1 v1 u14 u15 u19 S.ud S.ud S.ud false
def b215_3 (q:YF) (a:D68):T215_3:=fun v0 u1 u2 u3 u4 u5 u6 u7 u8 u9 u10 u11 u12 u13 u14 u15 u16 u17 u18 u19 u20 u21 u22 u23 u24 u25 u26 u27 u28 u29=>bif v0 then bif v0 then some (ii 30) else bif gtI (ofN a.fVals.n) 8 then some (ii 3) else yC q 151 [S.t (T.rows 1 a.fVals.n fun i=>[ts (a.fVals.get i)]),S.t (T.v (.func (Go.Fn.func 229) #[] #[]))] fun y=>bif y.b 0 then some (ii 20) else yC q 217 [S.t (T.rows 1 1 fun i=>List.take 1 (List.drop (↑i*1) [T.rows 1 a.fVals.n fun i=>[ts (a.fVals.get i)]]))] fun y=>matW (y.m 0) (bif ltI (ofN (lenE (y.m 0))) (ofN a.fVals.n) then some (ii 6) else some (ii 0)) else bif ltI a.fN (Int.negSucc 2147483647) then bif ltI a.fN (Int.negSucc 2147483647) then some (ii 30) else bif gtI (ofN a.fVals.n) 8 then some (ii 3) else yC q 151 [S.t (T.rows 1 a.fVals.n fun i=>[ts (a.fVals.get i)]),S.t (T.v (.func (Go.Fn.func 229) #[] #[]))] fun y=>bif y.b 0 then some (ii 20) else yC q 217 [S.t (T.rows 1 1 fun i=>List.take 1 (List.drop (↑i*1) [T.rows 1 a.fVals.n fun i=>[ts (a.fVals.get i)]]))] fun y=>matW (y.m 0) (bif ltI (ofN (lenE (y.m 0))) (ofN a.fVals.n) then some (ii 6) else some (ii 0)) else bif gtI a.fN 2147483648 then some (ii 30) else bif gtI (ofN a.fVals.n) 8 then some (ii 3) else yC q 151 [S.t (T.rows 1 a.fVals.n fun i=>[ts (a.fVals.get i)]),S.t (T.v (.func (Go.Fn.func 229) #[] #[]))] fun y=>bif y.b 0 then some (ii 20) else yC q 217 [S.t (T.rows 1 1 fun i=>List.take 1 (List.drop (↑i*1) [T.rows 1 a.fVals.n fun i=>[ts (a.fVals.get i)]]))] fun y=>matW (y.m 0) (bif ltI (ofN (lenE (y.m 0))) (ofN a.fVals.n) then some (ii 6) else some (ii 0))
def e215_in (q:YF) (a:D68) (k0:T215_0):OS:=bif eqI a.fOp 1 then k0 true true S.ud S.ud S.ud else k0 (eqI a.fOp 2) false (ii a.fOp) (S.ptr 0 1) (bb (eqI a.fOp 2))
structure X215 where
 x0:Bool→OS
 x1:Bool→Bool→OS
 x2:Bool→Bool→Bool→OS
 x3:Bool→OS
def D215_0 (X:X215):T215_0:=fun v0 _ _ _ _=>X.x0 v0
def D215_1 (X:X215):T215_1:=fun v0 v1 _ _ _ _ _ _ _ _ _=>X.x1 v0 v1
def D215_2 (X:X215):T215_2:=fun v0 v1 v2 _ _ _ _ _ _ _ _ _ _ _ _ _ _ _ _ _=>X.x2 v0 v1 v2
def D215_3 (X:X215):T215_3:=fun v0 _ _ _ _ _ _ _ _ _ _ _ _ _ _ _ _ _ _ _ _ _ _ _ _ _ _ _ _ _=>X.x3 v0
def X215s (q:YF) (a:D68) (X:X215):X215:=⟨fun v0=>b215_0 q a (D215_1 X) v0 dd dd dd dd,
 fun v0 v1=>b215_1 q a (D215_2 X) v0 v1 dd dd dd dd dd dd dd dd dd,
 fun v0 v1 v2=>b215_2 q a (D215_3 X) v0 v1 v2 dd dd dd dd dd dd dd dd dd dd dd dd dd dd dd dd dd,
 fun v0=>b215_3 q a v0 dd dd dd dd dd dd dd dd dd dd dd dd dd dd dd dd dd dd dd dd dd dd dd dd dd dd dd dd dd⟩
def X215n (q:YF) (a:D68):Nat→X215
 | 0=>⟨fun _=>none,fun _ _=>none,fun _ _ _=>none,fun _=>none⟩
 | n+1=>X215s q a (X215n q a n)
theorem l215_0 (q:YF) (a:D68) (kk:PK S):K215_0 a (P215 q kk)=b215_0 q a (K215_1 a kk):=by
 kernel_rfl
theorem l215_1 (q:YF) (a:D68) (kk:PK S):K215_1 a (P215 q kk)=b215_1 q a (K215_2 a kk):=by
 kernel_rfl
theorem l215_2 (q:YF) (a:D68) (kk:PK S):K215_2 a (P215 q kk)=b215_2 q a (K215_3 a kk):=by
 kernel_rfl
theorem l215_3 (q:YF) (a:D68) (kk:PK S):K215_3 a (P215 q kk)=b215_3 q a:=by
 kernel_rfl
theorem l215_in (q:YF) (a:D68) (kk:PK S):BG q kk 215 Tryz.f215 [ag (e68 a)]=e215_in q a (K215_0 a kk):=by
 kernel_rfl
theorem h215 (q:YF) (a:D68):∀ n,K215_0 a (H215 q n)=D215_0 (X215n q a n)∧K215_1 a (H215 q n)=D215_1 (X215n q a n)∧K215_2 a (H215 q n)=D215_2 (X215n q a n)∧K215_3 a (H215 q n)=D215_3 (X215n q a n)
 | 0=>⟨rfl,rfl,rfl,rfl⟩
 | n+1=>by
  obtain ⟨h0,h1,h2,h3⟩:=h215 q a n
  exact ⟨(l215_0 q a (H215 q n)).trans (by rw [h1];kernel_rfl),(l215_1 q a (H215 q n)).trans (by rw [h2];kernel_rfl),(l215_2 q a (H215 q n)).trans (by rw [h3];kernel_rfl),(l215_3 q a (H215 q n)).trans (by kernel_rfl)⟩
theorem W215 (a:D68) (n:Nat) (x:S) (h:e215_in (regs O) a (D215_0 (X215n (regs O) a n))=some x):(W O).callT 215 [ag (e68 a)]=some x:=by
 refine WG (fn:=Tryz.f215) (by kernel_rfl) (by kernel_rfl) (n:=n) ?_
 refine (l215_in (regs O) a (H215 (regs O) n)).trans ?_
 obtain ⟨h0,h1,h2,h3⟩:=h215 (regs O) a n
 rw [h0]
 exact h
abbrev P217 (q:YF) (kk:PK S):PK S:=PG q 217 Tryz.f217 kk
abbrev H217 (q:YF):Nat→PK S:=HG q 217 Tryz.f217
def K217_0 (a:Rw (Rw BA)) (kk:PK S):Int→(List (S × S))→OS:=fun v0 v1=> kk 3 0 0 (mkSt [(10,ii (ofN a.n)),(9,S.t (T.rows 1 a.n fun i=>[T.rows 1 (a.get i).n fun i_1=>[ts ((a.get i).get i_1)]])),(3,S.mp 0),(11,ii v0)] 1 [(0,B.mp false v1)])
def K217_1 (a:Rw (Rw BA)) (kk:PK S):Int→(Rw BA)→Int→(List (S × S))→Int→OS:=fun v0 v1 v2 v3 v4=> kk 6 0 0 (mkSt [(16,ii v0),(10,ii (ofN a.n)),(17,ii v2),(9,S.t (T.rows 1 a.n fun i=>[T.rows 1 (a.get i).n fun i_1=>[ts ((a.get i).get i_1)]])),(3,S.mp 0),(11,ii v4),(15,S.t (T.rows 1 v1.n fun i=>[ts (v1.get i)]))] 1 [(0,B.mp false v3)])
def b217_0 (q:YF) (a:Rw (Rw BA)) (k1:Int→(Rw BA)→Int→(List (S × S))→Int→OS) (v0:Int) (v1:List (S × S)):OS:=bif ltI v0 (ofN a.n) then elemO v0 a.n fun h=>flatW 900 v1 (k1 (ofN (a.get (Fin.mk v0.toNat h)).n) (a.get (Fin.mk v0.toNat h)) 0 v1 v0) else flatW 900 v1 (flatW 999 v1 (some (S.mt v1)))
def b217_1 (q:YF) (a:Rw (Rw BA)) (k0:Int→(List (S × S))→OS) (k1:Int→(Rw BA)→Int→(List (S × S))→Int→OS) (v0:Int) (v1:Rw BA) (v2:Int) (v3:List (S × S)) (v4:Int):OS:=bif ltI v2 v0 then elemO v2 v1.n fun h=>updW O.P O.K 9 v3 (ss (v1.get (Fin.mk v2.toNat h))) (bb true) fun m=>flatW 900 m (k1 v0 v1 (addI .i64 v2 1) m v4) else flatW 900 v3 (flatW 900 v3 (k0 (addI .i64 v4 1) v3))
def e217_in (q:YF) (a:Rw (Rw BA)) (k0:Int→(List (S × S))→OS):OS:=flatW 900 [] (k0 0 [])
structure X217 where
 x0:Int→(List (S × S))→OS
 x1:Int→(Rw BA)→Int→(List (S × S))→Int→OS
def D217_0 (X:X217):Int→(List (S × S))→OS:=fun v0 v1=>X.x0 v0 v1
def D217_1 (X:X217):Int→(Rw BA)→Int→(List (S × S))→Int→OS:=fun v0 v1 v2 v3 v4=>X.x1 v0 v1 v2 v3 v4
def X217s (q:YF) (a:Rw (Rw BA)) (X:X217):X217:=⟨fun v0 v1=>b217_0 q a (D217_1 X) v0 v1,
 fun v0 v1 v2 v3 v4=>b217_1 q a (D217_0 X) (D217_1 X) v0 v1 v2 v3 v4⟩
def X217n (q:YF) (a:Rw (Rw BA)):Nat→X217
 | 0=>⟨fun _ _=>none,fun _ _ _ _ _=>none⟩
 | n+1=>X217s q a (X217n q a n)
theorem l217_0 (q:YF) (a:Rw (Rw BA)) (kk:PK S):K217_0 a (P217 q kk)=b217_0 q a (K217_1 a kk):=by
 kernel_rfl
theorem l217_1 (q:YF) (a:Rw (Rw BA)) (kk:PK S):K217_1 a (P217 q kk)=b217_1 q a (K217_0 a kk) (K217_1 a kk):=by
 kernel_rfl
theorem l217_in (q:YF) (a:Rw (Rw BA)) (kk:PK S):BG q kk 217 Tryz.f217 [S.t (T.rows 1 a.n fun i=>e31 (a.get i))]=e217_in q a (K217_0 a kk):=by
 kernel_rfl
theorem h217 (q:YF) (a:Rw (Rw BA)):∀ n,K217_0 a (H217 q n)=D217_0 (X217n q a n)∧K217_1 a (H217 q n)=D217_1 (X217n q a n)
 | 0=>⟨rfl,rfl⟩
 | n+1=>by
  obtain ⟨h0,h1⟩:=h217 q a n
  exact ⟨(l217_0 q a (H217 q n)).trans (by rw [h1];kernel_rfl),(l217_1 q a (H217 q n)).trans (by rw [h0,h1];kernel_rfl)⟩
theorem W217 (a:Rw (Rw BA)) (n:Nat) (x:S) (h:e217_in (regs O) a (D217_0 (X217n (regs O) a n))=some x):(W O).callT 217 [S.t (T.rows 1 a.n fun i=>e31 (a.get i))]=some x:=by
 refine WG (fn:=Tryz.f217) (by kernel_rfl) (by kernel_rfl) (n:=n) ?_
 refine (l217_in (regs O) a (H217 (regs O) n)).trans ?_
 obtain ⟨h0,h1⟩:=h217 (regs O) a n
 rw [h0]
 exact h
abbrev P217b (q:YF) (kk:PK S):PK S:=PG q 217 Tryz.f217 kk
abbrev H217b (q:YF):Nat→PK S:=HG q 217 Tryz.f217
def K217b_0 (kk:PK S):OS:=kk 3 0 0 (mkSt [(10,ii (ofN 0)),(9,S.t (T.v (.slice none 0 0))),(3,S.mp 0),(11,ii 0)] 1 [(0,B.mp false [])])
def b217b_0 (q:YF):OS:=flatW 900 [] (flatW 999 [] (some (S.mt [])))
def e217b_in (q:YF) (k0:OS):OS:=flatW 900 [] k0
structure X217b where
 x0:OS
def D217b_0 (X:X217b):OS:=X.x0
def X217bs (q:YF) (X:X217b):X217b:=⟨b217b_0 q⟩
def X217bn (q:YF):Nat→X217b
 | 0=>⟨none⟩
 | n+1=>X217bs q (X217bn q n)
theorem l217b_0 (q:YF) (kk:PK S):K217b_0 (P217b q kk)=b217b_0 q:=by
 kernel_rfl
theorem l217b_in (q:YF) (kk:PK S):BG q kk 217 Tryz.f217 [S.t (T.v (.slice none 0 0))]=e217b_in q (K217b_0 kk):=by
 kernel_rfl
theorem h217b (q:YF):∀ n,K217b_0 (H217b q n)=D217b_0 (X217bn q n)
 | 0=>rfl
 | n+1=>by
  have h0:=h217b q n
  exact (l217b_0 q (H217b q n)).trans (by kernel_rfl)
theorem W217b (n:Nat) (x:S) (h:e217b_in (regs O) (D217b_0 (X217bn (regs O) n))=some x):(W O).callT 217 [S.t (T.v (.slice none 0 0))]=some x:=by
 refine WG (fn:=Tryz.f217) (by kernel_rfl) (by kernel_rfl) (n:=n) ?_
 refine (l217b_in (regs O) (H217b (regs O) n)).trans ?_
 have h0:=h217b (regs O) n
 rw [h0]
 exact h
abbrev P218b (q:YF) (kk:PK S):PK S:=PG q 218 Tryz.f218 kk
abbrev H218b (q:YF):Nat→PK S:=HG q 218 Tryz.f218
def K218b_0 (a:Int) (b:Int) (kk:PK S):Int→OS:=fun v0=> kk 1 0 0 (mkSt [(0,ii v0),(2,S.mt []),(6,S.ptr 0 0),(1,ii b)] 1 [(0,B.box [bb false,bb false,bb false,S.t (T.v (.slice none 0 0)),ii 0,ii 0])])
def K218b_1 (a:Int) (b:Int) (kk:PK S):Int→Int→OS:=fun v0 v1=> kk 3 0 0 (mkSt [(0,ii v0),(2,S.mt []),(6,S.ptr 0 0),(1,ii v1)] 1 [(0,B.box [bb false,bb false,bb false,S.t (T.v (.slice none 0 0)),ii 0,ii 0])])
def K218b_2 (a:Int) (b:Int) (kk:PK S):Int→Int→OS:=fun v0 v1=> kk 6 0 0 (mkSt [(0,ii v0),(2,S.mt []),(6,S.ptr 0 0),(1,ii v1),(37,S.it)] 1 [(0,B.box [bb false,bb false,bb false,S.t (T.v (.slice none 0 0)),ii 0,ii 0])])
abbrev T218b_3:Type:=Int→Int→(List (S × S))→OS
def K218b_3 (a:Int) (b:Int) (kk:PK S):T218b_3:=fun v0 v1 v2=> kk 15 0 0 (mkSt [(12,ii v0),(2,S.mt []),(6,S.ptr 0 0),(1,ii v1),(11,S.mp 1)] 2 [(0,B.box [bb false,bb false,bb false,S.t (T.v (.slice none 0 0)),ii 0,ii 0]),(1,B.mp false v2)])
def b218b_0 (q:YF) (a:Int) (b:Int) (k0:Int→OS) (k1:Int→Int→OS) (v0:Int):OS:=bif leI v0 b then yC q 214 [ii v0,ii 10] fun y=>lookW O.P O.K 9 4 [] (ss (y.s 0)) (fun y=>bif y.b 0 then k0 (addI .i64 v0 1) else k1 v0 b) (k1 v0 b) else k1 v0 b
def b218b_1 (q:YF) (a:Int) (b:Int) (k1:Int→Int→OS) (k2:Int→Int→OS) (v0 v1:Int):OS:=bif leI v0 v1 then yC q 214 [ii v1,ii 10] fun y=>lookW O.P O.K 9 4 [] (ss (y.s 0)) (fun y=>bif y.b 0 then k1 v0 (subI .i64 v1 1) else k2 v0 v1) (k2 v0 v1) else k2 v0 v1
def b218b_2 (q:YF) (a:Int) (b:Int) (k3:T218b_3) (v0 v1:Int):OS:=bif gtI (subI .i64 (addI .i64 (subI .i64 v1 v0) 1) (ofN (lenE []))) 64 then flatW 998 [] (yC q 216 [S.mt []] fun y=>some (S.tup [S.agg [bb false,bb true,bb true,S.t (T.rows 1 (y.r 0).n (y.r 0).g),ii v0,ii v1],bb (leI (ofN (lenE [])) 64)])) else flatW 900 [] (k3 v0 v1 [])
def b218b_3 (q:YF) (a:Int) (b:Int) (k3:T218b_3) (v0 v1:Int) (v2:List (S × S)):OS:=bif leI v0 v1 then yC q 214 [ii v0,ii 10] fun y=>lookW O.P O.K 9 4 [] (ss (y.s 0)) (fun y_1=>bif !y_1.b 0 then updW O.P O.K 9 v2 (ss (y.s 0)) (bb true) fun m=>flatW 900 m (k3 (addI .i64 v0 1) v1 m) else flatW 900 v2 (k3 (addI .i64 v0 1) v1 v2)) (updW O.P O.K 9 v2 (ss (y.s 0)) (bb true) fun m=>flatW 900 m (k3 (addI .i64 v0 1) v1 m)) else flatW 900 v2 (flatW 998 v2 (yC q 216 [S.mt v2] fun y=>some (S.tup [S.agg [bb false,bb false,bb false,S.t (T.rows 1 (y.r 0).n (y.r 0).g),ii 0,ii 0],bb true])))
def e218b_in (q:YF) (a:Int) (b:Int) (k0:Int→OS):OS:=k0 a
structure X218b where
 x0:Int→OS
 x1:Int→Int→OS
 x2:Int→Int→OS
 x3:Int→Int→(List (S × S))→OS
def D218b_0 (X:X218b):Int→OS:=fun v0=>X.x0 v0
def D218b_1 (X:X218b):Int→Int→OS:=fun v0 v1=>X.x1 v0 v1
def D218b_2 (X:X218b):Int→Int→OS:=fun v0 v1=>X.x2 v0 v1
def D218b_3 (X:X218b):T218b_3:=fun v0 v1 v2=>X.x3 v0 v1 v2
def X218bs (q:YF) (a:Int) (b:Int) (X:X218b):X218b:=⟨fun v0=>b218b_0 q a b (D218b_0 X) (D218b_1 X) v0,
 fun v0 v1=>b218b_1 q a b (D218b_1 X) (D218b_2 X) v0 v1,
 fun v0 v1=>b218b_2 q a b (D218b_3 X) v0 v1,
 fun v0 v1 v2=>b218b_3 q a b (D218b_3 X) v0 v1 v2⟩
def X218bn (q:YF) (a:Int) (b:Int):Nat→X218b
 | 0=>⟨fun _=>none,fun _ _=>none,fun _ _=>none,fun _ _ _=>none⟩
 | n+1=>X218bs q a b (X218bn q a b n)
theorem l218b_0 (q:YF) (a:Int) (b:Int) (kk:PK S):K218b_0 a b (P218b q kk)=b218b_0 q a b (K218b_0 a b kk) (K218b_1 a b kk):=by
 kernel_rfl
theorem l218b_1 (q:YF) (a:Int) (b:Int) (kk:PK S):K218b_1 a b (P218b q kk)=b218b_1 q a b (K218b_1 a b kk) (K218b_2 a b kk):=by
 kernel_rfl
theorem l218b_2 (q:YF) (a:Int) (b:Int) (kk:PK S):K218b_2 a b (P218b q kk)=b218b_2 q a b (K218b_3 a b kk):=by
 kernel_rfl
theorem l218b_3 (q:YF) (a:Int) (b:Int) (kk:PK S):K218b_3 a b (P218b q kk)=b218b_3 q a b (K218b_3 a b kk):=by
 kernel_rfl
theorem l218b_in (q:YF) (a:Int) (b:Int) (kk:PK S):BG q kk 218 Tryz.f218 [ii a,ii b,S.mt []]=e218b_in q a b (K218b_0 a b kk):=by
 kernel_rfl
theorem h218b (q:YF) (a:Int) (b:Int):∀ n,K218b_0 a b (H218b q n)=D218b_0 (X218bn q a b n)∧K218b_1 a b (H218b q n)=D218b_1 (X218bn q a b n)∧K218b_2 a b (H218b q n)=D218b_2 (X218bn q a b n)∧K218b_3 a b (H218b q n)=D218b_3 (X218bn q a b n)
 | 0=>⟨rfl,rfl,rfl,rfl⟩
 | n+1=>by
  obtain ⟨h0,h1,h2,h3⟩:=h218b q a b n
  exact ⟨(l218b_0 q a b (H218b q n)).trans (by rw [h0,h1];kernel_rfl),(l218b_1 q a b (H218b q n)).trans (by rw [h1,h2];kernel_rfl),(l218b_2 q a b (H218b q n)).trans (by rw [h3];kernel_rfl),(l218b_3 q a b (H218b q n)).trans (by rw [h3];kernel_rfl)⟩
theorem W218b (a:Int) (b:Int) (n:Nat) (x:S) (h:e218b_in (regs O) a b (D218b_0 (X218bn (regs O) a b n))=some x):(W O).callT 218 [ii a,ii b,S.mt []]=some x:=by
 refine WG (fn:=Tryz.f218) (by kernel_rfl) (by kernel_rfl) (n:=n) ?_
 refine (l218b_in (regs O) a b (H218b (regs O) n)).trans ?_
 obtain ⟨h0,h1,h2,h3⟩:=h218b (regs O) a b n
 rw [h0]
 exact h
abbrev H229 (q:YF):Nat→PK S:=HG q 229 Tryz.f229
def e229_in (q:YF) (a:BA):OS:=yC q 146 [ss a] fun y=>some (S.t (T.v (.bool !y.b 0)))
theorem l229_in (q:YF) (a:BA) (kk:PK S):BG q kk 229 Tryz.f229 [ss a]=e229_in q a:=by
 kernel_rfl
theorem W229 (a:BA) (n:Nat) (x:S) (h:e229_in (regs O) a=some x):(W O).callT 229 [ss a]=some x:=by
 refine WG (fn:=Tryz.f229) (by kernel_rfl) (by kernel_rfl) (n:=n) ?_
 refine (l229_in (regs O) a (H229 (regs O) n)).trans ?_
 exact h
end
end Go.Proofs.YtonkoellfaopiaaGreatDoor.H
