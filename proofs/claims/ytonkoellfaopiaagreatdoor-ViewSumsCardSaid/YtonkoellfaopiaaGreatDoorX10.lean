import Derived.Test.YtonkoellfaopiaaGreatDoorX8
set_option linter.unusedSimpArgs false
set_option linter.unusedVariables false
namespace Go.Proofs.YtonkoellfaopiaaGreatDoor.H
open Go
noncomputable section
abbrev P27 (q:YF) (kk:PK S):PK S:=PG q 27 Tryz.f27 kk
abbrev H27 (q:YF):Nat→PK S:=HG q 27 Tryz.f27
abbrev T27_0:Type:=Int→BA→OS
def K27_0 (a:D33) (kk:PK S):T27_0:=fun v0 v1=> kk 3 0 0 (mkSt [(8,S.t (T.rows 12 a.fPods.n fun i=>e61 (a.fPods.get i))),(10,ii v0),(1,S.ptr 0 0),(9,ii (ofN a.fPods.n)),(3,ss v1)] 1 [(0,B.box (List.map S.t (e33 a)))])
abbrev T27_1:Type:=D61→Bool→Int→Int→D61→BA→Int→D61→Bool→BA→D61→Bool→Bool→Bool→Int→S→Bool→S→S→S→S→BA→BA→Bool→OS
def K27_1 (a:D33) (kk:PK S):T27_1:=fun v0 v1 v2 u3 u4 u5 u6 u7 u8 u9 u10 u11 u12 u13 u14 u15 u16 u17 u18 u19 u20 u21 u22 u23=> kk 10 11 16 (mkSt [(32,u15),(16,ii u3),(8,S.t (T.rows 12 a.fPods.n fun i=>e61 (a.fPods.get i))),(20,S.ptr 4 0),(12,S.pt (e61 u4)),(28,bb u16),(34,bb v1),(10,ii v2),(26,ss u5),(6,ii u6),(22,ss u21),(14,ag (e61 u7)),(30,u17),(1,S.ptr 0 0),(33,u18),(17,bb u8),(9,ii (ofN a.fPods.n)),(25,S.ptr 4 11),(5,S.ptr 4 0),(21,ss u9),(13,ag (e61 u10)),(29,u19),(3,ss u22),(19,bb u11),(11,bb u23),(27,bb u12),(23,bb u13),(15,ii u14),(31,u20)] 27 [(0,B.box (List.map S.t (e33 a))),(4,B.box (List.map S.t (e61 v0)))])
def b27_0 (q:YF) (a:D33) (k1:T27_1):T27_0:=fun v0 v1=>bif ltI v0 (ofN a.fPods.n) then elemO v0 a.fPods.n fun h=>yC q 66 [ag (e61 (a.fPods.get (Fin.mk v0.toNat h)))] fun y=>bif !eqI (y.i 0) 0 then some (ii (y.i 0)) else bif strLt (a.fPods.get (Fin.mk v0.toNat h)).fName v1 || strEq (a.fPods.get (Fin.mk v0.toNat h)).fName v1 then some (ii 6) else bif !strEq (a.fPods.get (Fin.mk v0.toNat h)).fOn (bs []) then yC q 67 [ag (e33 a),ss (a.fPods.get (Fin.mk v0.toNat h)).fOn] fun y_1=>k1 (a.fPods.get (Fin.mk v0.toNat h)) (!y_1.b 0) v0 (y.i 0) (a.fPods.get (Fin.mk v0.toNat h)) (a.fPods.get (Fin.mk v0.toNat h)).fOn (y.i 0) (a.fPods.get (Fin.mk v0.toNat h)) (!eqI (y.i 0) 0) (a.fPods.get (Fin.mk v0.toNat h)).fName (a.fPods.get (Fin.mk v0.toNat h)) (strLt (a.fPods.get (Fin.mk v0.toNat h)).fName v1 || strEq (a.fPods.get (Fin.mk v0.toNat h)).fName v1) (!strEq (a.fPods.get (Fin.mk v0.toNat h)).fOn (bs [])) (strLt (a.fPods.get (Fin.mk v0.toNat h)).fName v1 || strEq (a.fPods.get (Fin.mk v0.toNat h)).fName v1) (y.i 0) (bb (y_1.b 0)) true (S.ptr 4 11) (S.t (T.v (.bool !y_1.b 0))) (ag (e33 a)) (ss (a.fPods.get (Fin.mk v0.toNat h)).fOn) v1 v1 (ltI v0 (ofN a.fPods.n)) else k1 (a.fPods.get (Fin.mk v0.toNat h)) false v0 (y.i 0) (a.fPods.get (Fin.mk v0.toNat h)) (a.fPods.get (Fin.mk v0.toNat h)).fOn (y.i 0) (a.fPods.get (Fin.mk v0.toNat h)) (!eqI (y.i 0) 0) (a.fPods.get (Fin.mk v0.toNat h)).fName (a.fPods.get (Fin.mk v0.toNat h)) (strLt (a.fPods.get (Fin.mk v0.toNat h)).fName v1 || strEq (a.fPods.get (Fin.mk v0.toNat h)).fName v1) (!strEq (a.fPods.get (Fin.mk v0.toNat h)).fOn (bs [])) (strLt (a.fPods.get (Fin.mk v0.toNat h)).fName v1 || strEq (a.fPods.get (Fin.mk v0.toNat h)).fName v1) (y.i 0) S.ud false S.ud S.ud S.ud S.ud v1 v1 (ltI v0 (ofN a.fPods.n)) else some (ii 0)
def b27_1 (q:YF) (a:D33) (k0:T27_0):T27_1:=fun v0 v1 v2 u3 u4 u5 u6 u7 u8 u9 u10 u11 u12 u13 u14 u15 u16 u17 u18 u19 u20 u21 u22 u23=>bif v1 then some (ii 5) else bif gtI v0.fSince a.fNow then some (ii 1) else k0 (addI .i64 v2 1) v0.fName
def e27_in (q:YF) (a:D33) (k0:T27_0):OS:=k0 0 (bs [])
structure X27 where
 x0:Int→BA→OS
 x1:D61→Bool→Int→OS
def D27_0 (X:X27):T27_0:=fun v0 v1=>X.x0 v0 v1
def D27_1 (X:X27):T27_1:=fun v0 v1 v2 _ _ _ _ _ _ _ _ _ _ _ _ _ _ _ _ _ _ _ _ _=>X.x1 v0 v1 v2
def X27s (q:YF) (a:D33) (X:X27):X27:=⟨fun v0 v1=>b27_0 q a (D27_1 X) v0 v1,
 fun v0 v1 v2=>b27_1 q a (D27_0 X) v0 v1 v2 dd dd dd dd dd dd dd dd dd dd dd dd dd dd dd dd dd dd dd dd dd⟩
def X27n (q:YF) (a:D33):Nat→X27
 | 0=>⟨fun _ _=>none,fun _ _ _=>none⟩
 | n+1=>X27s q a (X27n q a n)
theorem l27_0 (q:YF) (a:D33) (kk:PK S):K27_0 a (P27 q kk)=b27_0 q a (K27_1 a kk):=by
 kernel_rfl
theorem l27_1 (q:YF) (a:D33) (kk:PK S):K27_1 a (P27 q kk)=b27_1 q a (K27_0 a kk):=by
 kernel_rfl
theorem l27_in (q:YF) (a:D33) (kk:PK S):BG q kk 27 Tryz.f27 [ag (e33 a)]=e27_in q a (K27_0 a kk):=by
 kernel_rfl
theorem h27 (q:YF) (a:D33):∀ n,K27_0 a (H27 q n)=D27_0 (X27n q a n)∧K27_1 a (H27 q n)=D27_1 (X27n q a n)
 | 0=>⟨rfl,rfl⟩
 | n+1=>by
  obtain ⟨h0,h1⟩:=h27 q a n
  exact ⟨(l27_0 q a (H27 q n)).trans (by rw [h1];kernel_rfl),(l27_1 q a (H27 q n)).trans (by rw [h0];kernel_rfl)⟩
theorem W27 (a:D33) (n:Nat) (x:S) (h:e27_in (regs O) a (D27_0 (X27n (regs O) a n))=some x):(W O).callT 27 [ag (e33 a)]=some x:=by
 refine WG (fn:=Tryz.f27) (by kernel_rfl) (by kernel_rfl) (n:=n) ?_
 refine (l27_in (regs O) a (H27 (regs O) n)).trans ?_
 obtain ⟨h0,h1⟩:=h27 (regs O) a n
 rw [h0]
 exact h
abbrev P28 (q:YF) (kk:PK S):PK S:=PG q 28 Tryz.f28 kk
abbrev H28 (q:YF):Nat→PK S:=HG q 28 Tryz.f28
def K28_0 (a:D33) (kk:PK S):Int→OS:=fun v0=> kk 2 0 0 (mkSt [(8,ii (ofN a.fCommands.n)),(1,S.ptr 0 0),(9,ii v0),(7,S.t (T.rows 8 a.fCommands.n fun i=>e122 (a.fCommands.get i)))] 1 [(0,B.box (List.map S.t (e33 a)))])
abbrev T28_1:Type:=D122→Bool→Int→Bool→Bool→D122→Int→Int→D122→BA→D122→Int→S→S→S→S→Bool→S→Bool→OS
def K28_1 (a:D33) (kk:PK S):T28_1:=fun v0 v1 v2 u3 u4 u5 u6 u7 u8 u9 u10 u11 u12 u13 u14 u15 u16 u17 u18=> kk 7 11 11 (mkSt [(16,bb u3),(8,ii (ofN a.fCommands.n)),(24,u12),(4,S.ptr 4 0),(20,bb u4),(12,ag (e122 u5)),(18,S.ptr 4 5),(10,bb u18),(26,u13),(22,u14),(14,ii u6),(1,S.ptr 0 0),(9,ii v2),(25,u15),(5,ii u7),(21,bb u16),(13,ag (e122 u8)),(19,ss u9),(11,S.pt (e122 u10)),(27,bb v1),(7,S.t (T.rows 8 a.fCommands.n fun i=>e122 (a.fCommands.get i))),(23,u17),(15,ii u11)] 28 [(0,B.box (List.map S.t (e33 a))),(4,B.box (List.map S.t (e122 v0)))])
def b28_0 (q:YF) (a:D33) (k1:T28_1) (v0:Int):OS:=bif ltI v0 (ofN a.fCommands.n) then elemO v0 a.fCommands.n fun h=>yC q 68 [ag (e122 (a.fCommands.get (Fin.mk v0.toNat h)))] fun y=>bif !eqI (y.i 0) 0 then some (ii (y.i 0)) else bif !strEq (a.fCommands.get (Fin.mk v0.toNat h)).fPool (bs []) then yC q 64 [ag (e33 a),ss (a.fCommands.get (Fin.mk v0.toNat h)).fPool] fun y_1=>k1 (a.fCommands.get (Fin.mk v0.toNat h)) (!y_1.b 0) v0 (!eqI (y.i 0) 0) (!strEq (a.fCommands.get (Fin.mk v0.toNat h)).fPool (bs [])) (a.fCommands.get (Fin.mk v0.toNat h)) (y.i 0) (y.i 0) (a.fCommands.get (Fin.mk v0.toNat h)) (a.fCommands.get (Fin.mk v0.toNat h)).fPool (a.fCommands.get (Fin.mk v0.toNat h)) (y.i 0) (ss (a.fCommands.get (Fin.mk v0.toNat h)).fPool) (S.t (T.v (.bool !y_1.b 0))) (ag (e33 a)) (bb (y_1.b 0)) true (S.ptr 4 5) (ltI v0 (ofN a.fCommands.n)) else k1 (a.fCommands.get (Fin.mk v0.toNat h)) false v0 (!eqI (y.i 0) 0) (!strEq (a.fCommands.get (Fin.mk v0.toNat h)).fPool (bs [])) (a.fCommands.get (Fin.mk v0.toNat h)) (y.i 0) (y.i 0) (a.fCommands.get (Fin.mk v0.toNat h)) (a.fCommands.get (Fin.mk v0.toNat h)).fPool (a.fCommands.get (Fin.mk v0.toNat h)) (y.i 0) S.ud S.ud S.ud S.ud false S.ud (ltI v0 (ofN a.fCommands.n)) else some (ii 0)
def b28_1 (q:YF) (a:D33) (k0:Int→OS):T28_1:=fun v0 v1 v2 u3 u4 u5 u6 u7 u8 u9 u10 u11 u12 u13 u14 u15 u16 u17 u18=>bif v1 then some (ii 5) else yC q 65 [ag (e33 a),S.t (T.rows 3 v0.fOpts.n fun i=>e47 (v0.fOpts.get i))] fun y=>bif !y.b 0 then some (ii 5) else k0 (addI .i64 v2 1)
def e28_in (q:YF) (a:D33) (k0:Int→OS):OS:=k0 0
structure X28 where
 x0:Int→OS
 x1:D122→Bool→Int→OS
def D28_0 (X:X28):Int→OS:=fun v0=>X.x0 v0
def D28_1 (X:X28):T28_1:=fun v0 v1 v2 _ _ _ _ _ _ _ _ _ _ _ _ _ _ _ _=>X.x1 v0 v1 v2
def X28s (q:YF) (a:D33) (X:X28):X28:=⟨fun v0=>b28_0 q a (D28_1 X) v0,
 fun v0 v1 v2=>b28_1 q a (D28_0 X) v0 v1 v2 dd dd dd dd dd dd dd dd dd dd dd dd dd dd dd dd⟩
def X28n (q:YF) (a:D33):Nat→X28
 | 0=>⟨fun _=>none,fun _ _ _=>none⟩
 | n+1=>X28s q a (X28n q a n)
theorem l28_0 (q:YF) (a:D33) (kk:PK S):K28_0 a (P28 q kk)=b28_0 q a (K28_1 a kk):=by
 kernel_rfl
theorem l28_1 (q:YF) (a:D33) (kk:PK S):K28_1 a (P28 q kk)=b28_1 q a (K28_0 a kk):=by
 kernel_rfl
theorem l28_in (q:YF) (a:D33) (kk:PK S):BG q kk 28 Tryz.f28 [ag (e33 a)]=e28_in q a (K28_0 a kk):=by
 kernel_rfl
theorem h28 (q:YF) (a:D33):∀ n,K28_0 a (H28 q n)=D28_0 (X28n q a n)∧K28_1 a (H28 q n)=D28_1 (X28n q a n)
 | 0=>⟨rfl,rfl⟩
 | n+1=>by
  obtain ⟨h0,h1⟩:=h28 q a n
  exact ⟨(l28_0 q a (H28 q n)).trans (by rw [h1];kernel_rfl),(l28_1 q a (H28 q n)).trans (by rw [h0];kernel_rfl)⟩
theorem W28 (a:D33) (n:Nat) (x:S) (h:e28_in (regs O) a (D28_0 (X28n (regs O) a n))=some x):(W O).callT 28 [ag (e33 a)]=some x:=by
 refine WG (fn:=Tryz.f28) (by kernel_rfl) (by kernel_rfl) (n:=n) ?_
 refine (l28_in (regs O) a (H28 (regs O) n)).trans ?_
 obtain ⟨h0,h1⟩:=h28 (regs O) a n
 rw [h0]
 exact h
abbrev P29 (q:YF) (kk:PK S):PK S:=PG q 29 Tryz.f29 kk
abbrev H29 (q:YF):Nat→PK S:=HG q 29 Tryz.f29
def K29_0 (a:D33) (kk:PK S):Int→OS:=fun v0=> kk 2 0 0 (mkSt [(8,ii v0),(6,S.t (T.rows 4 a.fCools.n fun i=>e125 (a.fCools.get i))),(1,S.ptr 0 0),(7,ii (ofN a.fCools.n))] 1 [(0,B.box (List.map S.t (e33 a)))])
abbrev T29_1:Type:=D125→Int→Bool→BA→BA→BA→D125→Bool→Bool→Bool→D125→BA→BA→BA→Int→Bool→Bool→Int→Int→S→S→S→S→S→S→S→S→S→S→Bool→S→OS
def K29_1 (a:D33) (kk:PK S):T29_1:=fun v0 v1 v2 u3 u4 u5 u6 u7 u8 u9 u10 u11 u12 u13 u14 u15 u16 u17 u18 u19 u20 u21 u22 u23 u24 u25 u26 u27 u28 u29 u30=> kk 6 16 15 (mkSt [(32,u19),(16,S.agg [ss u3,ss u4,ss u5]),(8,ii v1),(24,u20),(4,S.ptr 5 0),(12,ag (e125 u6)),(28,u21),(34,u22),(18,bb u7),(10,ii u14),(26,u23),(6,S.t (T.rows 4 a.fCools.n fun i=>e125 (a.fCools.get i))),(22,bb u15),(14,ag (e33 a)),(30,u24),(1,S.ptr 0 0),(33,u25),(17,S.sl 11 1),(9,bb u16),(25,u26),(21,ii u17),(13,bb u8),(29,u27),(3,ii u18),(35,bb v2),(19,bb u9),(11,S.pt (e125 u10)),(27,u28),(7,ii (ofN a.fCools.n)),(23,bb u29),(15,S.ptr 5 0),(31,u30)] 31 [(0,B.box (List.map S.t (e33 a))),(5,B.box (List.map S.t (e125 v0))),(11,B.lst false 3 1 [ss u11,ss u12,ss u13])])
def b29_0 (q:YF) (a:D33) (k1:T29_1) (v0:Int):OS:=bif ltI v0 (ofN a.fCools.n) then elemO v0 a.fCools.n fun h=>yC q 65 [ag (e33 a),S.t (T.rows 3 1 fun i=>List.take 3 (List.drop (↑i*3) [ts (a.fCools.get (Fin.mk v0.toNat h)).fOffer_Type,ts (a.fCools.get (Fin.mk v0.toNat h)).fOffer_Zone,ts (a.fCools.get (Fin.mk v0.toNat h)).fOffer_Kind]))] fun y=>bif !y.b 0 then some (ii 5) else bif gtI v0 0 then elemO (subI .i64 v0 1) a.fCools.n fun h_1=>yC q 69 [S.agg [ss (a.fCools.get (Fin.mk (subI .i64 v0 1).toNat h_1)).fOffer_Type,ss (a.fCools.get (Fin.mk (subI .i64 v0 1).toNat h_1)).fOffer_Zone,ss (a.fCools.get (Fin.mk (subI .i64 v0 1).toNat h_1)).fOffer_Kind],S.agg [ss (a.fCools.get (Fin.mk v0.toNat h)).fOffer_Type,ss (a.fCools.get (Fin.mk v0.toNat h)).fOffer_Zone,ss (a.fCools.get (Fin.mk v0.toNat h)).fOffer_Kind]] fun y_1=>k1 (a.fCools.get (Fin.mk v0.toNat h)) v0 (geI (y_1.i 0) 0) (a.fCools.get (Fin.mk v0.toNat h)).fOffer_Type (a.fCools.get (Fin.mk v0.toNat h)).fOffer_Zone (a.fCools.get (Fin.mk v0.toNat h)).fOffer_Kind (a.fCools.get (Fin.mk v0.toNat h)) (y.b 0) (!y.b 0) (!y.b 0) (a.fCools.get (Fin.mk v0.toNat h)) (a.fCools.get (Fin.mk v0.toNat h)).fOffer_Type (a.fCools.get (Fin.mk v0.toNat h)).fOffer_Zone (a.fCools.get (Fin.mk v0.toNat h)).fOffer_Kind v0 (gtI v0 0) (ltI v0 (ofN a.fCools.n)) v0 v0 (S.agg [ss (a.fCools.get (Fin.mk v0.toNat h)).fOffer_Type,ss (a.fCools.get (Fin.mk v0.toNat h)).fOffer_Zone,ss (a.fCools.get (Fin.mk v0.toNat h)).fOffer_Kind]) (S.ptr 0 11) (S.pt (e125 (a.fCools.get (Fin.mk (subI .i64 v0 1).toNat h_1)))) (bb (geI (y_1.i 0) 0)) (ii v0) (S.agg [ss (a.fCools.get (Fin.mk (subI .i64 v0 1).toNat h_1)).fOffer_Type,ss (a.fCools.get (Fin.mk (subI .i64 v0 1).toNat h_1)).fOffer_Zone,ss (a.fCools.get (Fin.mk (subI .i64 v0 1).toNat h_1)).fOffer_Kind]) (ii (y_1.i 0)) (S.t (T.rows 4 a.fCools.n fun i=>e125 (a.fCools.get i))) (S.pt (e125 (a.fCools.get (Fin.mk (subI .i64 v0 1).toNat h_1)))) (ii (subI .i64 v0 1)) true (S.ptr 5 0) else k1 (a.fCools.get (Fin.mk v0.toNat h)) v0 false (a.fCools.get (Fin.mk v0.toNat h)).fOffer_Type (a.fCools.get (Fin.mk v0.toNat h)).fOffer_Zone (a.fCools.get (Fin.mk v0.toNat h)).fOffer_Kind (a.fCools.get (Fin.mk v0.toNat h)) (y.b 0) (!y.b 0) (!y.b 0) (a.fCools.get (Fin.mk v0.toNat h)) (a.fCools.get (Fin.mk v0.toNat h)).fOffer_Type (a.fCools.get (Fin.mk v0.toNat h)).fOffer_Zone (a.fCools.get (Fin.mk v0.toNat h)).fOffer_Kind v0 (gtI v0 0) (ltI v0 (ofN a.fCools.n)) v0 v0 S.ud S.ud S.ud S.ud S.ud S.ud S.ud S.ud S.ud S.ud false S.ud else some (ii 0)
def b29_1 (q:YF) (a:D33) (k0:Int→OS):T29_1:=fun v0 v1 v2 u3 u4 u5 u6 u7 u8 u9 u10 u11 u12 u13 u14 u15 u16 u17 u18 u19 u20 u21 u22 u23 u24 u25 u26 u27 u28 u29 u30=>bif v2 then some (ii 6) else yC q 22 [ii v0.fUntil] fun y=>bif !y.b 0 then some (ii 1) else k0 (addI .i64 v1 1)
def e29_in (q:YF) (a:D33) (k0:Int→OS):OS:=k0 0
structure X29 where
 x0:Int→OS
 x1:D125→Int→Bool→OS
def D29_0 (X:X29):Int→OS:=fun v0=>X.x0 v0
def D29_1 (X:X29):T29_1:=fun v0 v1 v2 _ _ _ _ _ _ _ _ _ _ _ _ _ _ _ _ _ _ _ _ _ _ _ _ _ _ _ _=>X.x1 v0 v1 v2
def X29s (q:YF) (a:D33) (X:X29):X29:=⟨fun v0=>b29_0 q a (D29_1 X) v0,
 fun v0 v1 v2=>b29_1 q a (D29_0 X) v0 v1 v2 dd dd dd dd dd dd dd dd dd dd dd dd dd dd dd dd dd dd dd dd dd dd dd dd dd dd dd dd⟩
def X29n (q:YF) (a:D33):Nat→X29
 | 0=>⟨fun _=>none,fun _ _ _=>none⟩
 | n+1=>X29s q a (X29n q a n)
theorem l29_0 (q:YF) (a:D33) (kk:PK S):K29_0 a (P29 q kk)=b29_0 q a (K29_1 a kk):=by
 kernel_rfl
theorem l29_1 (q:YF) (a:D33) (kk:PK S):K29_1 a (P29 q kk)=b29_1 q a (K29_0 a kk):=by
 kernel_rfl
theorem l29_in (q:YF) (a:D33) (kk:PK S):BG q kk 29 Tryz.f29 [ag (e33 a)]=e29_in q a (K29_0 a kk):=by
 kernel_rfl
theorem h29 (q:YF) (a:D33):∀ n,K29_0 a (H29 q n)=D29_0 (X29n q a n)∧K29_1 a (H29 q n)=D29_1 (X29n q a n)
 | 0=>⟨rfl,rfl⟩
 | n+1=>by
  obtain ⟨h0,h1⟩:=h29 q a n
  exact ⟨(l29_0 q a (H29 q n)).trans (by rw [h1];kernel_rfl),(l29_1 q a (H29 q n)).trans (by rw [h0];kernel_rfl)⟩
theorem W29 (a:D33) (n:Nat) (x:S) (h:e29_in (regs O) a (D29_0 (X29n (regs O) a n))=some x):(W O).callT 29 [ag (e33 a)]=some x:=by
 refine WG (fn:=Tryz.f29) (by kernel_rfl) (by kernel_rfl) (n:=n) ?_
 refine (l29_in (regs O) a (H29 (regs O) n)).trans ?_
 obtain ⟨h0,h1⟩:=h29 (regs O) a n
 rw [h0]
 exact h
abbrev P30 (q:YF) (kk:PK S):PK S:=PG q 30 Tryz.f30 kk
abbrev H30 (q:YF):Nat→PK S:=HG q 30 Tryz.f30
abbrev T30_0:Type:=Int→(List (S × S))→(List (S × S))→OS
def K30_0 (a:D33) (kk:PK S):T30_0:=fun v0 v1 v2=> kk 3 0 0 (mkSt [(4,S.mp 2),(12,ii v0),(10,S.t (T.rows 7 a.fInsts.n fun i=>e91 (a.fInsts.get i))),(1,S.ptr 0 0),(3,S.mp 1),(11,ii (ofN a.fInsts.n))] 3 [(0,B.box (List.map S.t (e33 a))),(2,B.mp false v1),(1,B.mp false v2)])
abbrev T30_1:Type:=Bool→D91→Int→(List (S × S))→(List (S × S))→BA→D91→Bool→D91→Bool→S→S→S→Bool→OS
def K30_1 (a:D33) (kk:PK S):T30_1:=fun v0 v1 v2 v3 v4 u5 u6 u7 u8 u9 u10 u11 u12 u13=> kk 5 9 8 (mkSt [(24,bb v0),(4,S.mp 2),(20,bb u9),(12,ii v2),(18,ss u5),(10,S.t (T.rows 7 a.fInsts.n fun i=>e91 (a.fInsts.get i))),(6,S.ptr 6 0),(22,u10),(14,S.pt (e91 u6)),(1,S.ptr 0 0),(17,S.ptr 6 0),(21,u11),(13,bb u13),(3,S.mp 1),(19,bb u7),(11,ii (ofN a.fInsts.n)),(23,u12),(15,ag (e91 u8))] 33 [(0,B.box (List.map S.t (e33 a))),(2,B.mp false v3),(6,B.box (List.map S.t (e91 v1))),(1,B.mp false v4)])
abbrev T30_2:Type:=Bool→D91→Int→(List (S × S))→(List (S × S))→Bool→Bool→BA→S→D91→S→Bool→S→D91→S→S→Bool→S→Bool→OS
def K30_2 (a:D33) (kk:PK S):T30_2:=fun v0 v1 v2 v3 v4 u5 u6 u7 u8 u9 u10 u11 u12 u13 u14 u15 u16 u17 u18=> kk 5 14 8 (mkSt [(24,bb u5),(4,S.mp 2),(20,bb u6),(12,ii v2),(28,u14),(18,ss u7),(10,S.t (T.rows 7 a.fInsts.n fun i=>e91 (a.fInsts.get i))),(26,u15),(6,S.ptr 6 0),(22,u8),(14,S.pt (e91 u9)),(1,S.ptr 0 0),(17,S.ptr 6 0),(25,bb u16),(21,u10),(13,bb u18),(29,bb v0),(3,S.mp 1),(19,bb u11),(11,ii (ofN a.fInsts.n)),(27,u17),(23,u12),(15,ag (e91 u13))] 33 [(0,B.box (List.map S.t (e33 a))),(2,B.mp false v3),(6,B.box (List.map S.t (e91 v1))),(1,B.mp false v4)])
abbrev T30_3:Type:=Bool→D91→Int→(List (S × S))→(List (S × S))→Bool→Bool→S→BA→S→S→D91→Bool→S→Bool→Bool→S→S→D91→S→Bool→S→S→Bool→OS
def K30_3 (a:D33) (kk:PK S):T30_3:=fun v0 v1 v2 v3 v4 u5 u6 u7 u8 u9 u10 u11 u12 u13 u14 u15 u16 u17 u18 u19 u20 u21 u22 u23=> kk 5 19 8 (mkSt [(32,u19),(24,bb u5),(4,S.mp 2),(20,bb u6),(12,ii v2),(28,u7),(34,bb v0),(18,ss u8),(10,S.t (T.rows 7 a.fInsts.n fun i=>e91 (a.fInsts.get i))),(26,u9),(6,S.ptr 6 0),(22,u10),(14,S.pt (e91 u11)),(30,bb u20),(1,S.ptr 0 0),(33,u21),(17,S.ptr 6 0),(25,bb u12),(21,u13),(13,bb u23),(29,bb u14),(3,S.mp 1),(19,bb u15),(11,ii (ofN a.fInsts.n)),(27,u16),(23,u17),(15,ag (e91 u18)),(31,u22)] 33 [(0,B.box (List.map S.t (e33 a))),(2,B.mp false v3),(6,B.box (List.map S.t (e91 v1))),(1,B.mp false v4)])
abbrev T30_4:Type:=Bool→D91→Int→(List (S × S))→(List (S × S))→S→Bool→Bool→S→Bool→BA→S→S→D91→Bool→S→Bool→S→Bool→Bool→S→S→D91→S→S→S→S→Bool→S→Bool→OS
def K30_4 (a:D33) (kk:PK S):T30_4:=fun v0 v1 v2 v3 v4 u5 u6 u7 u8 u9 u10 u11 u12 u13 u14 u15 u16 u17 u18 u19 u20 u21 u22 u23 u24 u25 u26 u27 u28 u29=> kk 5 25 8 (mkSt [(32,u5),(40,bb v0),(24,bb u6),(4,S.mp 2),(36,u24),(20,bb u7),(12,ii v2),(28,u8),(34,bb u9),(18,ss u10),(10,S.t (T.rows 7 a.fInsts.n fun i=>e91 (a.fInsts.get i))),(26,u11),(6,S.ptr 6 0),(38,u25),(22,u12),(14,S.pt (e91 u13)),(30,bb u14),(1,S.ptr 0 0),(33,u15),(17,S.ptr 6 0),(25,bb u16),(37,u26),(21,u17),(13,bb u29),(29,bb u18),(3,S.mp 1),(35,bb u27),(19,bb u19),(11,ii (ofN a.fInsts.n)),(27,u20),(39,u28),(23,u21),(15,ag (e91 u22)),(31,u23)] 33 [(0,B.box (List.map S.t (e33 a))),(2,B.mp false v3),(6,B.box (List.map S.t (e91 v1))),(1,B.mp false v4)])
abbrev T30_5:Type:=Bool→D91→Int→(List (S × S))→(List (S × S))→S→Bool→Bool→Bool→S→Bool→BA→S→Bool→BA→S→S→S→D91→Bool→S→Bool→S→S→Bool→Bool→Bool→Bool→S→S→S→D91→S→S→S→Bool→S→S→Bool→OS
def K30_5 (a:D33) (kk:PK S):T30_5:=fun v0 v1 v2 v3 v4 u5 u6 u7 u8 u9 u10 u11 u12 u13 u14 u15 u16 u17 u18 u19 u20 u21 u22 u23 u24 u25 u26 u27 u28 u29 u30 u31 u32 u33 u34 u35 u36 u37 u38=> kk 7 11 33 (mkSt [(32,u5),(16,bb u6),(48,u33),(40,bb u7),(24,bb u8),(4,S.mp 2),(36,u9),(20,bb u10),(12,ii v2),(44,ss u11),(28,u12),(34,bb u13),(18,ss u14),(50,u34),(10,S.t (T.rows 7 a.fInsts.n fun i=>e91 (a.fInsts.get i))),(42,S.mp 1),(26,u15),(6,S.ptr 6 0),(38,u16),(22,u17),(14,S.pt (e91 u18)),(46,bb u35),(30,bb u19),(1,S.ptr 0 0),(33,u20),(17,S.ptr 6 0),(49,u36),(25,bb u21),(37,u22),(21,u23),(13,bb u38),(45,bb u24),(29,bb u25),(3,S.mp 1),(35,bb u26),(19,bb u27),(51,bb v0),(11,ii (ofN a.fInsts.n)),(43,S.ptr 6 0),(27,u28),(39,u29),(23,u30),(15,ag (e91 u31)),(47,u37),(31,u32)] 44 [(0,B.box (List.map S.t (e33 a))),(2,B.mp false v3),(6,B.box (List.map S.t (e91 v1))),(1,B.mp false v4)])
def b30_0 (q:YF) (a:D33) (k1:T30_1) (v0:Int) (v1 v2:List (S × S)):OS:=bif ltI v0 (ofN a.fInsts.n) then elemO v0 a.fInsts.n fun h=>bif strEq (a.fInsts.get (Fin.mk v0.toNat h)).fId (bs []) then k1 true (a.fInsts.get (Fin.mk v0.toNat h)) v0 v1 v2 (a.fInsts.get (Fin.mk v0.toNat h)).fId (a.fInsts.get (Fin.mk v0.toNat h)) (strEq (a.fInsts.get (Fin.mk v0.toNat h)).fId (bs [])) (a.fInsts.get (Fin.mk v0.toNat h)) true S.ud S.ud S.ud (ltI v0 (ofN a.fInsts.n)) else k1 (strEq (a.fInsts.get (Fin.mk v0.toNat h)).fToken (bs [])) (a.fInsts.get (Fin.mk v0.toNat h)) v0 v1 v2 (a.fInsts.get (Fin.mk v0.toNat h)).fId (a.fInsts.get (Fin.mk v0.toNat h)) (strEq (a.fInsts.get (Fin.mk v0.toNat h)).fId (bs [])) (a.fInsts.get (Fin.mk v0.toNat h)) false (ss (a.fInsts.get (Fin.mk v0.toNat h)).fToken) (S.ptr 6 1) (bb (strEq (a.fInsts.get (Fin.mk v0.toNat h)).fToken (bs []))) (ltI v0 (ofN a.fInsts.n)) else some (ii 0)
def b30_1 (q:YF) (a:D33) (k2:T30_2) (v0:Bool) (v1:D91) (v2:Int) (v3 v4:List (S × S)) (u5:BA) (u6:D91) (u7:Bool) (u8:D91) (u9:Bool) (u10 u11 u12:S) (u13:Bool):OS:=bif v0 then k2 true v1 v2 v3 v4 v0 u9 u5 u10 u6 u11 u7 u12 u8 S.ud S.ud true S.ud u13 else k2 (ltI v1.fState 1) v1 v2 v3 v4 v0 u9 u5 u10 u6 u11 u7 u12 u8 (bb (ltI v1.fState 1)) (S.ptr 6 5) false (ii v1.fState) u13
def b30_2 (q:YF) (a:D33) (k3:T30_3) (v0:Bool) (v1:D91) (v2:Int) (v3 v4:List (S × S)) (u5 u6:Bool) (u7:BA) (u8:S) (u9:D91) (u10:S) (u11:Bool) (u12:S) (u13:D91) (u14 u15:S) (u16:Bool) (u17:S) (u18:Bool):OS:=bif v0 then k3 true v1 v2 v3 v4 u5 u6 u14 u7 u15 u8 u9 u16 u10 v0 u11 u17 u12 u13 S.ud true S.ud S.ud u18 else k3 (gtI v1.fState 3) v1 v2 v3 v4 u5 u6 u14 u7 u15 u8 u9 u16 u10 v0 u11 u17 u12 u13 (ii v1.fState) false (bb (gtI v1.fState 3)) (S.ptr 6 5) u18
def b30_3 (q:YF) (a:D33) (k4:T30_4) (v0:Bool) (v1:D91) (v2:Int) (v3 v4:List (S × S)) (u5 u6:Bool) (u7:S) (u8:BA) (u9 u10:S) (u11:D91) (u12:Bool) (u13:S) (u14 u15:Bool) (u16 u17:S) (u18:D91) (u19:S) (u20:Bool) (u21 u22:S) (u23:Bool):OS:=bif v0 then k4 true v1 v2 v3 v4 u19 u5 u6 u7 v0 u8 u9 u10 u11 u20 u21 u12 u13 u14 u15 u16 u17 u18 u22 S.ud S.ud S.ud true S.ud u23 else yC q 22 [ii v1.fReady] fun y=>k4 (!y.b 0) v1 v2 v3 v4 u19 u5 u6 u7 v0 u8 u9 u10 u11 u20 u21 u12 u13 u14 u15 u16 u17 u18 u22 (S.ptr 6 6) (bb (y.b 0)) (ii v1.fReady) false (S.t (T.v (.bool !y.b 0))) u23
def b30_4 (q:YF) (a:D33) (k5:T30_5) (v0:Bool) (v1:D91) (v2:Int) (v3 v4:List (S × S)) (u5:S) (u6 u7:Bool) (u8:S) (u9:Bool) (u10:BA) (u11 u12:S) (u13:D91) (u14:Bool) (u15:S) (u16:Bool) (u17:S) (u18 u19:Bool) (u20 u21:S) (u22:D91) (u23 u24 u25 u26:S) (u27:Bool) (u28:S) (u29:Bool):OS:=bif v0 then some (ii 1) else lookW O.P O.K 9 4 v4 (ss v1.fId) (fun y=>bif y.b 0 then k5 true v1 v2 v3 v4 u5 v0 v0 u6 u24 u7 v1.fId u8 u9 u10 u11 u25 u12 u13 u14 u15 u16 u26 u17 (y.b 0) u18 u27 u19 u20 u28 u21 u22 u23 S.ud S.ud true S.ud S.ud u29 else lookW O.P O.K 9 4 v3 (ss v1.fToken) (fun y_1=>k5 (y_1.b 0) v1 v2 v3 v4 u5 v0 v0 u6 u24 u7 v1.fId u8 u9 u10 u11 u25 u12 u13 u14 u15 u16 u26 u17 (y.b 0) u18 u27 u19 u20 u28 u21 u22 u23 (S.ptr 6 1) (bb (y_1.b 0)) false (ss v1.fToken) (S.mp 2) u29) (k5 false v1 v2 v3 v4 u5 v0 v0 u6 u24 u7 v1.fId u8 u9 u10 u11 u25 u12 u13 u14 u15 u16 u26 u17 (y.b 0) u18 u27 u19 u20 u28 u21 u22 u23 (S.ptr 6 1) (bb false) false (ss v1.fToken) (S.mp 2) u29)) (lookW O.P O.K 9 4 v3 (ss v1.fToken) (fun y=>k5 (y.b 0) v1 v2 v3 v4 u5 v0 v0 u6 u24 u7 v1.fId u8 u9 u10 u11 u25 u12 u13 u14 u15 u16 u26 u17 false u18 u27 u19 u20 u28 u21 u22 u23 (S.ptr 6 1) (bb (y.b 0)) false (ss v1.fToken) (S.mp 2) u29) (k5 false v1 v2 v3 v4 u5 v0 v0 u6 u24 u7 v1.fId u8 u9 u10 u11 u25 u12 u13 u14 u15 u16 u26 u17 false u18 u27 u19 u20 u28 u21 u22 u23 (S.ptr 6 1) (bb false) false (ss v1.fToken) (S.mp 2) u29))
def b30_5 (q:YF) (a:D33) (k0:T30_0) (v0:Bool) (v1:D91) (v2:Int) (v3 v4:List (S × S)) (u5:S) (u6 u7 u8:Bool) (u9:S) (u10:Bool) (u11:BA) (u12:S) (u13:Bool) (u14:BA) (u15 u16 u17:S) (u18:D91) (u19:Bool) (u20:S) (u21:Bool) (u22 u23:S) (u24 u25 u26 u27:Bool) (u28 u29 u30:S) (u31:D91) (u32 u33 u34:S) (u35:Bool) (u36 u37:S) (u38:Bool):OS:=bif v0 then some (ii 6) else yC q 65 [ag (e33 a),S.t (T.rows 3 1 fun i=>List.take 3 (List.drop (↑i*3) [ts v1.fOffer_Type,ts v1.fOffer_Zone,ts v1.fOffer_Kind]))] fun y=>bif !y.b 0 then some (ii 5) else updW O.P O.K 9 v4 (ss v1.fId) (bb true) fun m=>updW O.P O.K 9 v3 (ss v1.fToken) (bb true) fun m_1=>flatW 900 m (flatW 900 m_1 (k0 (addI .i64 v2 1) m_1 m))
def e30_in (q:YF) (a:D33) (k0:T30_0):OS:=flatW 900 [] (flatW 900 [] (k0 0 [] []))
structure X30 where
 x0:Int→(List (S × S))→(List (S × S))→OS
 x1:Bool→D91→Int→(List (S × S))→(List (S × S))→OS
 x2:Bool→D91→Int→(List (S × S))→(List (S × S))→OS
 x3:Bool→D91→Int→(List (S × S))→(List (S × S))→OS
 x4:Bool→D91→Int→(List (S × S))→(List (S × S))→OS
 x5:Bool→D91→Int→(List (S × S))→(List (S × S))→OS
def D30_0 (X:X30):T30_0:=fun v0 v1 v2=>X.x0 v0 v1 v2
def D30_1 (X:X30):T30_1:=fun v0 v1 v2 v3 v4 _ _ _ _ _ _ _ _ _=>X.x1 v0 v1 v2 v3 v4
def D30_2 (X:X30):T30_2:=fun v0 v1 v2 v3 v4 _ _ _ _ _ _ _ _ _ _ _ _ _ _=>X.x2 v0 v1 v2 v3 v4
def D30_3 (X:X30):T30_3:=fun v0 v1 v2 v3 v4 _ _ _ _ _ _ _ _ _ _ _ _ _ _ _ _ _ _ _=>X.x3 v0 v1 v2 v3 v4
def D30_4 (X:X30):T30_4:=fun v0 v1 v2 v3 v4 _ _ _ _ _ _ _ _ _ _ _ _ _ _ _ _ _ _ _ _ _ _ _ _ _=>X.x4 v0 v1 v2 v3 v4
def D30_5 (X:X30):T30_5:=fun v0 v1 v2 v3 v4 _ _ _ _ _ _ _ _ _ _ _ _ _ _ _ _ _ _ _ _ _ _ _ _ _ _ _ _ _ _ _ _ _ _=>X.x5 v0 v1 v2 v3 v4
def X30s (q:YF) (a:D33) (X:X30):X30:=⟨fun v0 v1 v2=>b30_0 q a (D30_1 X) v0 v1 v2,
 fun v0 v1 v2 v3 v4=>b30_1 q a (D30_2 X) v0 v1 v2 v3 v4 dd dd dd dd dd dd dd dd dd,
 fun v0 v1 v2 v3 v4=>b30_2 q a (D30_3 X) v0 v1 v2 v3 v4 dd dd dd dd dd dd dd dd dd dd dd dd dd dd,
 fun v0 v1 v2 v3 v4=>b30_3 q a (D30_4 X) v0 v1 v2 v3 v4 dd dd dd dd dd dd dd dd dd dd dd dd dd dd dd dd dd dd dd,
 fun v0 v1 v2 v3 v4=>b30_4 q a (D30_5 X) v0 v1 v2 v3 v4 dd dd dd dd dd dd dd dd dd dd dd dd dd dd dd dd dd dd dd dd dd dd dd dd dd,
 fun v0 v1 v2 v3 v4=>b30_5 q a (D30_0 X) v0 v1 v2 v3 v4 dd dd dd dd dd dd dd dd dd dd dd dd dd dd dd dd dd dd dd dd dd dd dd dd dd dd dd dd dd dd dd dd dd dd⟩
def X30n (q:YF) (a:D33):Nat→X30
 | 0=>⟨fun _ _ _=>none,fun _ _ _ _ _=>none,fun _ _ _ _ _=>none,fun _ _ _ _ _=>none,fun _ _ _ _ _=>none,fun _ _ _ _ _=>none⟩
 | n+1=>X30s q a (X30n q a n)
theorem l30_0 (q:YF) (a:D33) (kk:PK S):K30_0 a (P30 q kk)=b30_0 q a (K30_1 a kk):=by
 kernel_rfl
theorem l30_1 (q:YF) (a:D33) (kk:PK S):K30_1 a (P30 q kk)=b30_1 q a (K30_2 a kk):=by
 kernel_rfl
theorem l30_2 (q:YF) (a:D33) (kk:PK S):K30_2 a (P30 q kk)=b30_2 q a (K30_3 a kk):=by
 kernel_rfl
theorem l30_3 (q:YF) (a:D33) (kk:PK S):K30_3 a (P30 q kk)=b30_3 q a (K30_4 a kk):=by
 kernel_rfl
theorem l30_4 (q:YF) (a:D33) (kk:PK S):K30_4 a (P30 q kk)=b30_4 q a (K30_5 a kk):=by
 kernel_rfl
theorem l30_5 (q:YF) (a:D33) (kk:PK S):K30_5 a (P30 q kk)=b30_5 q a (K30_0 a kk):=by
 kernel_rfl
theorem l30_in (q:YF) (a:D33) (kk:PK S):BG q kk 30 Tryz.f30 [ag (e33 a)]=e30_in q a (K30_0 a kk):=by
 kernel_rfl
theorem h30 (q:YF) (a:D33):∀ n,K30_0 a (H30 q n)=D30_0 (X30n q a n)∧K30_1 a (H30 q n)=D30_1 (X30n q a n)∧K30_2 a (H30 q n)=D30_2 (X30n q a n)∧K30_3 a (H30 q n)=D30_3 (X30n q a n)∧K30_4 a (H30 q n)=D30_4 (X30n q a n)∧K30_5 a (H30 q n)=D30_5 (X30n q a n)
 | 0=>⟨rfl,rfl,rfl,rfl,rfl,rfl⟩
 | n+1=>by
  obtain ⟨h0,h1,h2,h3,h4,h5⟩:=h30 q a n
  exact ⟨(l30_0 q a (H30 q n)).trans (by rw [h1];kernel_rfl),(l30_1 q a (H30 q n)).trans (by rw [h2];kernel_rfl),(l30_2 q a (H30 q n)).trans (by rw [h3];kernel_rfl),(l30_3 q a (H30 q n)).trans (by rw [h4];kernel_rfl),(l30_4 q a (H30 q n)).trans (by rw [h5];kernel_rfl),(l30_5 q a (H30 q n)).trans (by rw [h0];kernel_rfl)⟩
theorem W30 (a:D33) (n:Nat) (x:S) (h:e30_in (regs O) a (D30_0 (X30n (regs O) a n))=some x):(W O).callT 30 [ag (e33 a)]=some x:=by
 refine WG (fn:=Tryz.f30) (by kernel_rfl) (by kernel_rfl) (n:=n) ?_
 refine (l30_in (regs O) a (H30 (regs O) n)).trans ?_
 obtain ⟨h0,h1,h2,h3,h4,h5⟩:=h30 (regs O) a n
 rw [h0]
 exact h
abbrev H39 (q:YF):Nat→PK S:=HG q 39 Tryz.f39
def e39_in (q:YF) (a:Rw D112) (b:D47) (c:BA) (d:BA):OS:=yC q 83 [S.t (T.rows 7 a.n fun i=>e112 (a.get i))] fun y=>lookW O.P O.K 47 141 (y.m 0) (ag (e47 b)) (fun y=>yC q 84 [S.agg [ss (y.s 0),ii (y.i 1),ii (y.i 2),ii (y.i 3),ii (y.i 4),S.t (T.rows 2 (y.r 5).n (y.r 5).g),S.t (T.rows 4 (y.r 6).n (y.r 6).g),ss (y.s 7),ss (y.s 8),ii (y.i 9),bb (y.b 10)],ag (e47 b),ss c,ss d] fun y=>some (S.t (T.rows 2 (y.r 0).n (y.r 0).g))) (some (S.t (T.rows 2 0 nil0)))
theorem l39_in (q:YF) (a:Rw D112) (b:D47) (c:BA) (d:BA) (kk:PK S):BG q kk 39 Tryz.f39 [S.t (T.rows 7 a.n fun i=>e112 (a.get i)),ag (e47 b),ss c,ss d]=e39_in q a b c d:=by
 kernel_rfl
theorem W39 (a:Rw D112) (b:D47) (c:BA) (d:BA) (n:Nat) (x:S) (h:e39_in (regs O) a b c d=some x):(W O).callT 39 [S.t (T.rows 7 a.n fun i=>e112 (a.get i)),ag (e47 b),ss c,ss d]=some x:=by
 refine WG (fn:=Tryz.f39) (by kernel_rfl) (by kernel_rfl) (n:=n) ?_
 refine (l39_in (regs O) a b c d (H39 (regs O) n)).trans ?_
 exact h
abbrev H48 (q:YF):Nat→PK S:=HG q 48 Tryz.f48
def e48_in (q:YF) (a:D49) (b:D49):OS:=yC q 49 [ag (e49 a)] fun y=>bif !eqI (y.i 0) 0 then some (ii (y.i 0)) else yC q 49 [ag (e49 b)] fun y=>some (ii (y.i 0))
theorem l48_in (q:YF) (a:D49) (b:D49) (kk:PK S):BG q kk 48 Tryz.f48 [ag (e49 a),ag (e49 b)]=e48_in q a b:=by
 kernel_rfl
theorem W48 (a:D49) (b:D49) (n:Nat) (x:S) (h:e48_in (regs O) a b=some x):(W O).callT 48 [ag (e49 a),ag (e49 b)]=some x:=by
 refine WG (fn:=Tryz.f48) (by kernel_rfl) (by kernel_rfl) (n:=n) ?_
 refine (l48_in (regs O) a b (H48 (regs O) n)).trans ?_
 exact h
abbrev H49 (q:YF):Nat→PK S:=HG q 49 Tryz.f49
def e49_in (q:YF) (a:D49):OS:=yC q 91 [ii a.fa_0] fun y=>bif !eqI (y.i 0) 0 then some (ii (y.i 0)) else yC q 91 [ii a.fa_1] fun y=>some (ii (y.i 0))
theorem l49_in (q:YF) (a:D49) (kk:PK S):BG q kk 49 Tryz.f49 [ag (e49 a)]=e49_in q a:=by
 kernel_rfl
theorem W49 (a:D49) (n:Nat) (x:S) (h:e49_in (regs O) a=some x):(W O).callT 49 [ag (e49 a)]=some x:=by
 refine WG (fn:=Tryz.f49) (by kernel_rfl) (by kernel_rfl) (n:=n) ?_
 refine (l49_in (regs O) a (H49 (regs O) n)).trans ?_
 exact h
abbrev P53 (q:YF) (kk:PK S):PK S:=PG q 53 Tryz.f53 kk
abbrev H53 (q:YF):Nat→PK S:=HG q 53 Tryz.f53
def K53_0 (a:Rw Int) (kk:PK S):Int→OS:=fun v0=> kk 3 0 0 (mkSt [(8,ii v0),(6,S.t (T.rows 1 a.n fun i=>[ti (a.get i)])),(3,ii 0),(7,ii (ofN a.n))] 0 [])
def b53_0 (q:YF) (a:Rw Int) (k0:Int→OS) (v0:Int):OS:=bif ltI v0 (ofN a.n) then elemO v0 a.n fun h=>bif !eqI (a.get (Fin.mk v0.toNat h)) 0 then some (ii (a.get (Fin.mk v0.toNat h))) else k0 (addI .i64 v0 1) else some (ii 0)
def e53_in (q:YF) (a:Rw Int) (k0:Int→OS):OS:=k0 0
structure X53 where
 x0:Int→OS
def D53_0 (X:X53):Int→OS:=fun v0=>X.x0 v0
def X53s (q:YF) (a:Rw Int) (X:X53):X53:=⟨fun v0=>b53_0 q a (D53_0 X) v0⟩
def X53n (q:YF) (a:Rw Int):Nat→X53
 | 0=>⟨fun _=>none⟩
 | n+1=>X53s q a (X53n q a n)
theorem l53_0 (q:YF) (a:Rw Int) (kk:PK S):K53_0 a (P53 q kk)=b53_0 q a (K53_0 a kk):=by
 kernel_rfl
theorem l53_in (q:YF) (a:Rw Int) (kk:PK S):BG q kk 53 Tryz.f53 [S.t (T.rows 1 a.n fun i=>e3 (a.get i))]=e53_in q a (K53_0 a kk):=by
 kernel_rfl
theorem h53 (q:YF) (a:Rw Int):∀ n,K53_0 a (H53 q n)=D53_0 (X53n q a n)
 | 0=>rfl
 | n+1=>by
  have h0:=h53 q a n
  exact (l53_0 q a (H53 q n)).trans (by rw [h0];kernel_rfl)
theorem W53 (a:Rw Int) (n:Nat) (x:S) (h:e53_in (regs O) a (D53_0 (X53n (regs O) a n))=some x):(W O).callT 53 [S.t (T.rows 1 a.n fun i=>e3 (a.get i))]=some x:=by
 refine WG (fn:=Tryz.f53) (by kernel_rfl) (by kernel_rfl) (n:=n) ?_
 refine (l53_in (regs O) a (H53 (regs O) n)).trans ?_
 have h0:=h53 (regs O) a n
 rw [h0]
 exact h
abbrev P58 (q:YF) (kk:PK S):PK S:=PG q 58 Tryz.f58 kk
abbrev H58 (q:YF):Nat→PK S:=HG q 58 Tryz.f58
def K58_0 (a:D112) (kk:PK S):OS:=kk 4 0 0 (mkSt [(16,ii (ofN 2)),(1,S.ptr 0 0),(17,ii 0),(15,S.sl 1 2)] 2 [(0,B.box (List.map S.t (e112 a))),(1,B.lst false 2 2 [ii a.fCap_0,ii a.fCap_1,ii a.fOver_0,ii a.fOver_1])])
def K58_1 (a:D112) (kk:PK S):OS:=kk 4 0 0 (mkSt [(16,ii (ofN 2)),(1,S.ptr 0 0),(17,ii 1),(15,S.sl 1 2)] 2 [(0,B.box (List.map S.t (e112 a))),(1,B.lst false 2 2 [ii a.fCap_0,ii a.fCap_1,ii a.fOver_0,ii a.fOver_1])])
def K58_2 (a:D112) (kk:PK S):OS:=kk 4 0 0 (mkSt [(16,ii (ofN 2)),(1,S.ptr 0 0),(17,ii 2),(15,S.sl 1 2)] 2 [(0,B.box (List.map S.t (e112 a))),(1,B.lst false 2 2 [ii a.fCap_0,ii a.fCap_1,ii a.fOver_0,ii a.fOver_1])])
def b58_0 (q:YF) (a:D112) (k1:OS):OS:=yC q 102 [S.agg [ii a.fCap_0,ii a.fCap_1]] fun y=>bif !eqI (y.i 0) 0 then some (ii (y.i 0)) else k1
def b58_1 (q:YF) (a:D112) (k2:OS):OS:=yC q 102 [S.agg [ii a.fOver_0,ii a.fOver_1]] fun y=>bif !eqI (y.i 0) 0 then some (ii (y.i 0)) else k2
def b58_2 (q:YF) (a:D112):OS:=yC q 103 [S.agg [ii a.fOver_0,ii a.fOver_1],S.agg [ii a.fCap_0,ii a.fCap_1]] fun y=>bif !y.b 0 then some (ii 1) else yC q 104 [S.t (T.rows 2 a.fLabels.n fun i=>e88 (a.fLabels.get i))] fun y=>bif !eqI (y.i 0) 0 then some (ii (y.i 0)) else yC q 105 [S.t (T.rows 4 a.fOffers.n fun i=>e109 (a.fOffers.get i))] fun y=>some (ii (y.i 0))
def e58_in (q:YF) (a:D112) (k0:OS):OS:=yC q 101 [ss a.fName] fun y=>bif !y.b 0 then some (ii 7) else k0
structure X58 where
 x0:OS
 x1:OS
 x2:OS
def D58_0 (X:X58):OS:=X.x0
def D58_1 (X:X58):OS:=X.x1
def D58_2 (X:X58):OS:=X.x2
def X58s (q:YF) (a:D112) (X:X58):X58:=⟨b58_0 q a (D58_1 X),
 b58_1 q a (D58_2 X),
 b58_2 q a⟩
def X58n (q:YF) (a:D112):Nat→X58
 | 0=>⟨none,none,none⟩
 | n+1=>X58s q a (X58n q a n)
theorem l58_0 (q:YF) (a:D112) (kk:PK S):K58_0 a (P58 q kk)=b58_0 q a (K58_1 a kk):=by
 kernel_rfl
theorem l58_1 (q:YF) (a:D112) (kk:PK S):K58_1 a (P58 q kk)=b58_1 q a (K58_2 a kk):=by
 kernel_rfl
theorem l58_2 (q:YF) (a:D112) (kk:PK S):K58_2 a (P58 q kk)=b58_2 q a:=by
 kernel_rfl
theorem l58_in (q:YF) (a:D112) (kk:PK S):BG q kk 58 Tryz.f58 [ag (e112 a)]=e58_in q a (K58_0 a kk):=by
 kernel_rfl
theorem h58 (q:YF) (a:D112):∀ n,K58_0 a (H58 q n)=D58_0 (X58n q a n)∧K58_1 a (H58 q n)=D58_1 (X58n q a n)∧K58_2 a (H58 q n)=D58_2 (X58n q a n)
 | 0=>⟨rfl,rfl,rfl⟩
 | n+1=>by
  obtain ⟨h0,h1,h2⟩:=h58 q a n
  exact ⟨(l58_0 q a (H58 q n)).trans (by rw [h1];kernel_rfl),(l58_1 q a (H58 q n)).trans (by rw [h2];kernel_rfl),(l58_2 q a (H58 q n)).trans (by kernel_rfl)⟩
theorem W58 (a:D112) (n:Nat) (x:S) (h:e58_in (regs O) a (D58_0 (X58n (regs O) a n))=some x):(W O).callT 58 [ag (e112 a)]=some x:=by
 refine WG (fn:=Tryz.f58) (by kernel_rfl) (by kernel_rfl) (n:=n) ?_
 refine (l58_in (regs O) a (H58 (regs O) n)).trans ?_
 obtain ⟨h0,h1,h2⟩:=h58 (regs O) a n
 rw [h0]
 exact h
abbrev H59 (q:YF):Nat→PK S:=HG q 59 Tryz.f59
def e59_in (q:YF) (a:Rw D112) (b:D112):OS:=yC q 106 [S.t (T.rows 7 a.n fun i=>e112 (a.get i)),S.fn (Go.Fn.func 60) [] [S.pt (e112 b)]] fun y=>some (bb (geI (y.i 0) 0))
theorem l59_in (q:YF) (a:Rw D112) (b:D112) (kk:PK S):BG q kk 59 Tryz.f59 [S.t (T.rows 7 a.n fun i=>e112 (a.get i)),S.fn (Go.Fn.func 60) [] [S.pt (e112 b)]]=e59_in q a b:=by
 kernel_rfl
theorem W59 (a:Rw D112) (b:D112) (n:Nat) (x:S) (h:e59_in (regs O) a b=some x):(W O).callT 59 [S.t (T.rows 7 a.n fun i=>e112 (a.get i)),S.fn (Go.Fn.func 60) [] [S.pt (e112 b)]]=some x:=by
 refine WG (fn:=Tryz.f59) (by kernel_rfl) (by kernel_rfl) (n:=n) ?_
 refine (l59_in (regs O) a b (H59 (regs O) n)).trans ?_
 exact h
abbrev H60 (q:YF):Nat→PK S:=HG q 60 Tryz.f60
def e60_in (q:YF) (a:D112) (b:D112):OS:=some (bb (strEq a.fName b.fName))
theorem l60_in (q:YF) (a:D112) (b:D112) (kk:PK S):BG q kk 60 Tryz.f60 [ag (e112 a),S.pt (e112 b)]=e60_in q a b:=by
 kernel_rfl
theorem W60 (a:D112) (b:D112) (n:Nat) (x:S) (h:e60_in (regs O) a b=some x):(W O).callT 60 [ag (e112 a),S.pt (e112 b)]=some x:=by
 refine WG (fn:=Tryz.f60) (by kernel_rfl) (by kernel_rfl) (n:=n) ?_
 refine (l60_in (regs O) a b (H60 (regs O) n)).trans ?_
 exact h
abbrev P61 (q:YF) (kk:PK S):PK S:=PG q 61 Tryz.f61 kk
abbrev H61 (q:YF):Nat→PK S:=HG q 61 Tryz.f61
abbrev T61_0:Type:=Int→Bool→Bool→S→S→S→Bool→OS
def K61_0 (a:D77) (kk:PK S):T61_0:=fun v0 v1 u2 u3 u4 u5 u6=> kk 1 14 2 (mkSt [(0,ag (e77 a)),(8,S.ptr 0 1),(4,ss a.fName),(12,u3),(2,ii 0),(10,bb (geI a.fWeight 0)),(6,bb u2),(14,u4),(1,S.ptr 0 0),(9,ii a.fWeight),(5,S.sl 4 1),(13,u5),(3,S.ptr 0 0),(11,bb u6),(7,ii v0),(15,bb v1)] 57 [(0,B.box (List.map S.t (e77 a))),(4,B.lst false 1 1 [ss a.fName])])
abbrev T61_1:Type:=Int→Int→Int→Int→Int→Bool→S→Bool→Bool→S→S→Bool→Bool→S→S→Bool→S→OS
def K61_1 (a:D77) (kk:PK S):T61_1:=fun v0 v1 v2 v3 v4 v5 u6 u7 u8 u9 u10 u11 u12 u13 u14 u15 u16=> kk 1 32 2 (mkSt [(0,ag (e77 a)),(32,u13),(16,ii v0),(8,S.ptr 0 1),(24,S.t (T.rows 2 a.fTaints.n fun i=>e88 (a.fTaints.get i))),(4,ss a.fName),(20,S.ptr 0 4),(12,u6),(28,bb u7),(2,ii 0),(18,S.agg [ii a.fLimit_0,ii a.fLimit_1]),(10,bb (geI a.fWeight 0)),(26,S.ptr 0 6),(6,bb u8),(22,ii v1),(14,u9),(30,u14),(1,S.ptr 0 0),(33,bb v5),(17,S.ptr 0 2),(9,ii a.fWeight),(25,ii v2),(5,S.sl 4 1),(21,S.t (T.rows 4 a.fReqs.n fun i=>e68 (a.fReqs.get i))),(13,u10),(29,bb u15),(3,S.ptr 0 0),(19,ii v3),(11,bb u11),(27,ii a.fGen),(7,ii v4),(23,S.ptr 0 5),(15,bb u12),(31,u16)] 57 [(0,B.box (List.map S.t (e77 a))),(4,B.lst false 1 1 [ss a.fName])])
abbrev T61_2:Type:=Int→Int→Int→Int→Int→Bool→S→S→Bool→Bool→S→S→Bool→S→Bool→Bool→Bool→S→S→Bool→S→S→OS
def K61_2 (a:D77) (kk:PK S):T61_2:=fun v0 v1 v2 v3 v4 v5 u6 u7 u8 u9 u10 u11 u12 u13 u14 u15 u16 u17 u18 u19 u20 u21=> kk 1 37 2 (mkSt [(0,ag (e77 a)),(32,u6),(16,ii v0),(8,S.ptr 0 1),(24,S.t (T.rows 2 a.fTaints.n fun i=>e88 (a.fTaints.get i))),(4,ss a.fName),(36,u18),(20,S.ptr 0 4),(12,u7),(28,bb u8),(2,ii 0),(34,bb u19),(18,S.agg [ii a.fLimit_0,ii a.fLimit_1]),(10,bb (geI a.fWeight 0)),(26,S.ptr 0 6),(6,bb u9),(38,bb v5),(22,ii v1),(14,u10),(30,u11),(1,S.ptr 0 0),(33,bb u12),(17,S.ptr 0 2),(9,ii a.fWeight),(25,ii v2),(5,S.sl 4 1),(37,u20),(21,S.t (T.rows 4 a.fReqs.n fun i=>e68 (a.fReqs.get i))),(13,u13),(29,bb u14),(3,S.ptr 0 0),(35,u21),(19,ii v3),(11,bb u15),(27,ii a.fGen),(7,ii v4),(23,S.ptr 0 5),(15,bb u16),(31,u17)] 57 [(0,B.box (List.map S.t (e77 a))),(4,B.lst false 1 1 [ss a.fName])])
abbrev T61_3:Type:=Int→Int→Int→Int→Int→Bool→S→S→S→Bool→Bool→Bool→Bool→S→S→Bool→S→S→Bool→S→Bool→Bool→S→S→S→S→Bool→OS
def K61_3 (a:D77) (kk:PK S):T61_3:=fun v0 v1 v2 v3 v4 v5 u6 u7 u8 u9 u10 u11 u12 u13 u14 u15 u16 u17 u18 u19 u20 u21 u22 u23 u24 u25 u26=> kk 1 42 2 (mkSt [(0,ag (e77 a)),(32,u6),(16,ii v0),(8,S.ptr 0 1),(40,u23),(24,S.t (T.rows 2 a.fTaints.n fun i=>e88 (a.fTaints.get i))),(4,ss a.fName),(36,u7),(20,S.ptr 0 4),(12,u8),(28,bb u9),(2,ii 0),(34,bb u10),(18,S.agg [ii a.fLimit_0,ii a.fLimit_1]),(10,bb (geI a.fWeight 0)),(42,u24),(26,S.ptr 0 6),(6,bb u11),(38,bb u12),(22,ii v1),(14,u13),(30,u14),(1,S.ptr 0 0),(33,bb u15),(17,S.ptr 0 2),(9,ii a.fWeight),(41,u25),(25,ii v2),(5,S.sl 4 1),(37,u16),(21,S.t (T.rows 4 a.fReqs.n fun i=>e68 (a.fReqs.get i))),(13,u17),(29,bb u18),(3,S.ptr 0 0),(35,u19),(19,ii v3),(11,bb u20),(43,bb v5),(27,ii a.fGen),(7,ii v4),(39,bb u26),(23,S.ptr 0 5),(15,bb u21),(31,u22)] 57 [(0,B.box (List.map S.t (e77 a))),(4,B.lst false 1 1 [ss a.fName])])
abbrev T61_4:Type:=Int→Int→Int→Int→Int→Bool→S→S→S→S→Bool→Bool→S→Bool→Bool→S→S→Bool→S→S→S→Bool→S→Bool→Bool→Bool→Bool→S→Bool→S→S→S→OS
def K61_4 (a:D77) (kk:PK S):T61_4:=fun v0 v1 v2 v3 v4 v5 u6 u7 u8 u9 u10 u11 u12 u13 u14 u15 u16 u17 u18 u19 u20 u21 u22 u23 u24 u25 u26 u27 u28 u29 u30 u31=> kk 1 47 2 (mkSt [(0,ag (e77 a)),(32,u6),(16,ii v0),(48,bb v5),(8,S.ptr 0 1),(40,u7),(24,S.t (T.rows 2 a.fTaints.n fun i=>e88 (a.fTaints.get i))),(4,ss a.fName),(36,u8),(20,S.ptr 0 4),(12,u9),(44,bb u28),(28,bb u10),(2,ii 0),(34,bb u11),(18,S.agg [ii a.fLimit_0,ii a.fLimit_1]),(10,bb (geI a.fWeight 0)),(42,u12),(26,S.ptr 0 6),(6,bb u13),(38,bb u14),(22,ii v1),(14,u15),(46,u29),(30,u16),(1,S.ptr 0 0),(33,bb u17),(17,S.ptr 0 2),(9,ii a.fWeight),(41,u18),(25,ii v2),(5,S.sl 4 1),(37,u19),(21,S.t (T.rows 4 a.fReqs.n fun i=>e68 (a.fReqs.get i))),(13,u20),(45,u30),(29,bb u21),(3,S.ptr 0 0),(35,u22),(19,ii v3),(11,bb u23),(43,bb u24),(27,ii a.fGen),(7,ii v4),(39,bb u25),(23,S.ptr 0 5),(15,bb u26),(47,u31),(31,u27)] 57 [(0,B.box (List.map S.t (e77 a))),(4,B.lst false 1 1 [ss a.fName])])
abbrev T61_5:Type:=Int→Int→Int→Int→Int→Bool→S→Bool→S→S→S→Bool→Bool→Bool→S→Bool→Bool→S→S→S→Bool→S→S→S→S→Bool→S→Bool→Bool→Bool→Bool→S→S→S→S→Bool→S→OS
def K61_5 (a:D77) (kk:PK S):T61_5:=fun v0 v1 v2 v3 v4 v5 u6 u7 u8 u9 u10 u11 u12 u13 u14 u15 u16 u17 u18 u19 u20 u21 u22 u23 u24 u25 u26 u27 u28 u29 u30 u31 u32 u33 u34 u35 u36=> kk 1 52 2 (mkSt [(0,ag (e77 a)),(32,u6),(16,ii v0),(48,bb u7),(8,S.ptr 0 1),(40,u8),(24,S.t (T.rows 2 a.fTaints.n fun i=>e88 (a.fTaints.get i))),(4,ss a.fName),(36,u9),(20,S.ptr 0 4),(52,u33),(12,u10),(44,bb u11),(28,bb u12),(2,ii 0),(34,bb u13),(18,S.agg [ii a.fLimit_0,ii a.fLimit_1]),(50,u34),(10,bb (geI a.fWeight 0)),(42,u14),(26,S.ptr 0 6),(6,bb u15),(38,bb u16),(22,ii v1),(14,u17),(46,u18),(30,u19),(1,S.ptr 0 0),(33,bb u20),(17,S.ptr 0 2),(49,bb u35),(9,ii a.fWeight),(41,u21),(25,ii v2),(5,S.sl 4 1),(37,u22),(21,S.t (T.rows 4 a.fReqs.n fun i=>e68 (a.fReqs.get i))),(53,bb v5),(13,u23),(45,u24),(29,bb u25),(3,S.ptr 0 0),(35,u26),(19,ii v3),(51,u36),(11,bb u27),(43,bb u28),(27,ii a.fGen),(7,ii v4),(39,bb u29),(23,S.ptr 0 5),(15,bb u30),(47,u31),(31,u32)] 57 [(0,B.box (List.map S.t (e77 a))),(4,B.lst false 1 1 [ss a.fName])])
def b61_0 (q:YF) (a:D77) (k1:T61_1):T61_0:=fun v0 v1 u2 u3 u4 u5 u6=>yC q 108 [bb v1,ii 1] fun y=>yC q 102 [S.agg [ii a.fLimit_0,ii a.fLimit_1]] fun y_1=>yC q 110 [S.t (T.rows 4 a.fReqs.n fun i=>e68 (a.fReqs.get i))] fun y_2=>yC q 111 [S.t (T.rows 2 a.fTaints.n fun i=>e88 (a.fTaints.get i))] fun y_3=>yC q 112 [ii a.fGen,ii 0,ii 1099511627776] fun y_4=>bif y_4.b 0 then yC q 112 [ii a.fExpire,ii 0,ii 1073741824] fun y_5=>k1 (y.i 0) (y_2.i 0) (y_3.i 0) (y_1.i 0) v0 (y_5.b 0) u3 (y_4.b 0) u2 u4 u5 u6 v1 (bb (y_5.b 0)) (S.ptr 0 7) true (ii a.fExpire) else k1 (y.i 0) (y_2.i 0) (y_3.i 0) (y_1.i 0) v0 false u3 (y_4.b 0) u2 u4 u5 u6 v1 S.ud S.ud false S.ud
def b61_1 (q:YF) (a:D77) (k2:T61_2):T61_1:=fun v0 v1 v2 v3 v4 v5 u6 u7 u8 u9 u10 u11 u12 u13 u14 u15 u16=>bif v5 then k2 v0 v1 v2 v3 v4 (geI a.fBudget 0) u13 u6 u7 u8 u9 u14 v5 u10 u15 u11 u12 u16 (ii a.fBudget) true (bb (geI a.fBudget 0)) (S.ptr 0 8) else k2 v0 v1 v2 v3 v4 false u13 u6 u7 u8 u9 u14 v5 u10 u15 u11 u12 u16 S.ud false S.ud S.ud
def b61_2 (q:YF) (a:D77) (k3:T61_3):T61_2:=fun v0 v1 v2 v3 v4 v5 u6 u7 u8 u9 u10 u11 u12 u13 u14 u15 u16 u17 u18 u19 u20 u21=>bif v5 then k3 v0 v1 v2 v3 v4 (leI a.fBudget 16) u6 u18 u7 u8 u19 u9 v5 u10 u11 u12 u20 u13 u14 u21 u15 u16 u17 (S.ptr 0 8) (bb (leI a.fBudget 16)) (ii a.fBudget) true else k3 v0 v1 v2 v3 v4 false u6 u18 u7 u8 u19 u9 v5 u10 u11 u12 u20 u13 u14 u21 u15 u16 u17 S.ud S.ud S.ud false
def b61_3 (q:YF) (a:D77) (k4:T61_4):T61_3:=fun v0 v1 v2 v3 v4 v5 u6 u7 u8 u9 u10 u11 u12 u13 u14 u15 u16 u17 u18 u19 u20 u21 u22 u23 u24 u25 u26=>bif v5 then k4 v0 v1 v2 v3 v4 (geI a.fMerge 0) u6 u23 u7 u8 u9 u10 u24 u11 u12 u13 u14 u15 u25 u16 u17 u18 u19 u20 v5 u26 u21 u22 true (ii a.fMerge) (S.ptr 0 9) (bb (geI a.fMerge 0)) else k4 v0 v1 v2 v3 v4 false u6 u23 u7 u8 u9 u10 u24 u11 u12 u13 u14 u15 u25 u16 u17 u18 u19 u20 v5 u26 u21 u22 false S.ud S.ud S.ud
def b61_4 (q:YF) (a:D77) (k5:T61_5):T61_4:=fun v0 v1 v2 v3 v4 v5 u6 u7 u8 u9 u10 u11 u12 u13 u14 u15 u16 u17 u18 u19 u20 u21 u22 u23 u24 u25 u26 u27 u28 u29 u30 u31=>bif v5 then k5 v0 v1 v2 v3 v4 (leI a.fMerge 2) u6 v5 u7 u8 u9 u28 u10 u11 u12 u13 u14 u15 u29 u16 u17 u18 u19 u20 u30 u21 u22 u23 u24 u25 u26 u31 u27 (bb (leI a.fMerge 2)) (S.ptr 0 9) true (ii a.fMerge) else k5 v0 v1 v2 v3 v4 false u6 v5 u7 u8 u9 u28 u10 u11 u12 u13 u14 u15 u29 u16 u17 u18 u19 u20 u30 u21 u22 u23 u24 u25 u26 u31 u27 S.ud S.ud false S.ud
def b61_5 (q:YF) (a:D77):T61_5:=fun v0 v1 v2 v3 v4 v5 u6 u7 u8 u9 u10 u11 u12 u13 u14 u15 u16 u17 u18 u19 u20 u21 u22 u23 u24 u25 u26 u27 u28 u29 u30 u31 u32 u33 u34 u35 u36=>yC q 108 [bb v5,ii 1] fun y=>yC q 107 [S.t (T.rows 1 6 fun i=>List.take 1 (List.drop (↑i*1) [ti v4,ti v0,ti v3,ti v1,ti v2,ti (y.i 0)]))] fun y=>some (ii (y.i 0))
def e61_in (q:YF) (a:D77) (k0:T61_0):OS:=yC q 109 [S.t (T.rows 1 1 fun i=>List.take 1 (List.drop (↑i*1) [ts a.fName]))] fun y=>yC q 108 [bb (y.b 0),ii 7] fun y_1=>bif geI a.fWeight 0 then k0 (y_1.i 0) (leI a.fWeight 100) (y.b 0) (S.ptr 0 1) (bb (leI a.fWeight 100)) (ii a.fWeight) true else k0 (y_1.i 0) false (y.b 0) S.ud S.ud S.ud false
structure X61 where
 x0:Int→Bool→OS
 x1:Int→Int→Int→Int→Int→Bool→OS
 x2:Int→Int→Int→Int→Int→Bool→OS
 x3:Int→Int→Int→Int→Int→Bool→OS
 x4:Int→Int→Int→Int→Int→Bool→OS
 x5:Int→Int→Int→Int→Int→Bool→OS
def D61_0 (X:X61):T61_0:=fun v0 v1 _ _ _ _ _=>X.x0 v0 v1
def D61_1 (X:X61):T61_1:=fun v0 v1 v2 v3 v4 v5 _ _ _ _ _ _ _ _ _ _ _=>X.x1 v0 v1 v2 v3 v4 v5
def D61_2 (X:X61):T61_2:=fun v0 v1 v2 v3 v4 v5 _ _ _ _ _ _ _ _ _ _ _ _ _ _ _ _=>X.x2 v0 v1 v2 v3 v4 v5
def D61_3 (X:X61):T61_3:=fun v0 v1 v2 v3 v4 v5 _ _ _ _ _ _ _ _ _ _ _ _ _ _ _ _ _ _ _ _ _=>X.x3 v0 v1 v2 v3 v4 v5
def D61_4 (X:X61):T61_4:=fun v0 v1 v2 v3 v4 v5 _ _ _ _ _ _ _ _ _ _ _ _ _ _ _ _ _ _ _ _ _ _ _ _ _ _=>X.x4 v0 v1 v2 v3 v4 v5
def D61_5 (X:X61):T61_5:=fun v0 v1 v2 v3 v4 v5 _ _ _ _ _ _ _ _ _ _ _ _ _ _ _ _ _ _ _ _ _ _ _ _ _ _ _ _ _ _ _=>X.x5 v0 v1 v2 v3 v4 v5
def X61s (q:YF) (a:D77) (X:X61):X61:=⟨fun v0 v1=>b61_0 q a (D61_1 X) v0 v1 dd dd dd dd dd,
 fun v0 v1 v2 v3 v4 v5=>b61_1 q a (D61_2 X) v0 v1 v2 v3 v4 v5 dd dd dd dd dd dd dd dd dd dd dd,
 fun v0 v1 v2 v3 v4 v5=>b61_2 q a (D61_3 X) v0 v1 v2 v3 v4 v5 dd dd dd dd dd dd dd dd dd dd dd dd dd dd dd dd,
 fun v0 v1 v2 v3 v4 v5=>b61_3 q a (D61_4 X) v0 v1 v2 v3 v4 v5 dd dd dd dd dd dd dd dd dd dd dd dd dd dd dd dd dd dd dd dd dd,
 fun v0 v1 v2 v3 v4 v5=>b61_4 q a (D61_5 X) v0 v1 v2 v3 v4 v5 dd dd dd dd dd dd dd dd dd dd dd dd dd dd dd dd dd dd dd dd dd dd dd dd dd dd,
 fun v0 v1 v2 v3 v4 v5=>b61_5 q a v0 v1 v2 v3 v4 v5 dd dd dd dd dd dd dd dd dd dd dd dd dd dd dd dd dd dd dd dd dd dd dd dd dd dd dd dd dd dd dd⟩
def X61n (q:YF) (a:D77):Nat→X61
 | 0=>⟨fun _ _=>none,fun _ _ _ _ _ _=>none,fun _ _ _ _ _ _=>none,fun _ _ _ _ _ _=>none,fun _ _ _ _ _ _=>none,fun _ _ _ _ _ _=>none⟩
 | n+1=>X61s q a (X61n q a n)
theorem l61_0 (q:YF) (a:D77) (kk:PK S):K61_0 a (P61 q kk)=b61_0 q a (K61_1 a kk):=by
 kernel_rfl
theorem l61_1 (q:YF) (a:D77) (kk:PK S):K61_1 a (P61 q kk)=b61_1 q a (K61_2 a kk):=by
 kernel_rfl
theorem l61_2 (q:YF) (a:D77) (kk:PK S):K61_2 a (P61 q kk)=b61_2 q a (K61_3 a kk):=by
 kernel_rfl
theorem l61_3 (q:YF) (a:D77) (kk:PK S):K61_3 a (P61 q kk)=b61_3 q a (K61_4 a kk):=by
 kernel_rfl
theorem l61_4 (q:YF) (a:D77) (kk:PK S):K61_4 a (P61 q kk)=b61_4 q a (K61_5 a kk):=by
 kernel_rfl
theorem l61_5 (q:YF) (a:D77) (kk:PK S):K61_5 a (P61 q kk)=b61_5 q a:=by
 kernel_rfl
theorem l61_in (q:YF) (a:D77) (kk:PK S):BG q kk 61 Tryz.f61 [ag (e77 a)]=e61_in q a (K61_0 a kk):=by
 kernel_rfl
theorem h61 (q:YF) (a:D77):∀ n,K61_0 a (H61 q n)=D61_0 (X61n q a n)∧K61_1 a (H61 q n)=D61_1 (X61n q a n)∧K61_2 a (H61 q n)=D61_2 (X61n q a n)∧K61_3 a (H61 q n)=D61_3 (X61n q a n)∧K61_4 a (H61 q n)=D61_4 (X61n q a n)∧K61_5 a (H61 q n)=D61_5 (X61n q a n)
 | 0=>⟨rfl,rfl,rfl,rfl,rfl,rfl⟩
 | n+1=>by
  obtain ⟨h0,h1,h2,h3,h4,h5⟩:=h61 q a n
  exact ⟨(l61_0 q a (H61 q n)).trans (by rw [h1];kernel_rfl),(l61_1 q a (H61 q n)).trans (by rw [h2];kernel_rfl),(l61_2 q a (H61 q n)).trans (by rw [h3];kernel_rfl),(l61_3 q a (H61 q n)).trans (by rw [h4];kernel_rfl),(l61_4 q a (H61 q n)).trans (by rw [h5];kernel_rfl),(l61_5 q a (H61 q n)).trans (by kernel_rfl)⟩
theorem W61 (a:D77) (n:Nat) (x:S) (h:e61_in (regs O) a (D61_0 (X61n (regs O) a n))=some x):(W O).callT 61 [ag (e77 a)]=some x:=by
 refine WG (fn:=Tryz.f61) (by kernel_rfl) (by kernel_rfl) (n:=n) ?_
 refine (l61_in (regs O) a (H61 (regs O) n)).trans ?_
 obtain ⟨h0,h1,h2,h3,h4,h5⟩:=h61 (regs O) a n
 rw [h0]
 exact h
abbrev P62 (q:YF) (kk:PK S):PK S:=PG q 62 Tryz.f62 kk
abbrev H62 (q:YF):Nat→PK S:=HG q 62 Tryz.f62
abbrev T62_0:Type:=Int→Int→Int→Int→Bool→Bool→S→S→S→Bool→OS
def K62_0 (a:D52) (kk:PK S):T62_0:=fun v0 v1 v2 v3 v4 u5 u6 u7 u8 u9=> kk 1 34 2 (mkSt [(0,ag (e52 a)),(32,u6),(16,S.sl 15 5),(8,S.ptr 0 3),(24,ii v0),(4,ss a.fName),(20,ii a.fPrice),(12,ss a.fOffer_Zone),(28,S.ptr 0 10),(2,ii 0),(34,u7),(18,ii v1),(10,S.ptr 0 3),(26,S.t (T.rows 3 a.fOpts.n fun i=>e47 (a.fOpts.get i))),(6,ss a.fPool),(22,S.ptr 0 7),(14,S.ptr 0 5),(30,bb (geI a.fTry 1)),(1,S.ptr 0 0),(33,u8),(17,bb u5),(9,ss a.fOffer_Type),(25,S.ptr 0 9),(5,S.ptr 0 1),(21,ii v2),(13,S.ptr 0 3),(29,ii a.fTry),(3,S.ptr 0 0),(35,bb v4),(19,S.ptr 0 6),(11,S.ptr 0 4),(27,ii v3),(7,S.ptr 0 3),(23,S.agg [ii a.fCap_0,ii a.fCap_1]),(15,ss a.fOffer_Kind),(31,bb u9)] 63 [(0,B.box (List.map S.t (e52 a))),(15,B.lst false 1 5 [ss a.fName,ss a.fPool,ss a.fOffer_Type,ss a.fOffer_Zone,ss a.fOffer_Kind])])
abbrev T62_1:Type:=Int→Int→Int→Int→Int→Int→Bool→S→S→S→Bool→Bool→Bool→S→S→Bool→S→OS
def K62_1 (a:D52) (kk:PK S):T62_1:=fun v0 v1 v2 v3 v4 v5 v6 u7 u8 u9 u10 u11 u12 u13 u14 u15 u16=> kk 1 48 2 (mkSt [(0,ag (e52 a)),(32,u7),(16,S.sl 15 5),(48,u13),(8,S.ptr 0 3),(40,bb (leI (sizeS a.fId) 16)),(24,ii v0),(4,ss a.fName),(36,ii v1),(20,ii a.fPrice),(12,ss a.fOffer_Zone),(44,bb (geI a.fPhase 1)),(28,S.ptr 0 10),(2,ii 0),(34,u8),(18,ii v2),(10,S.ptr 0 3),(42,S.ptr 0 12),(26,S.t (T.rows 3 a.fOpts.n fun i=>e47 (a.fOpts.get i))),(6,ss a.fPool),(38,ss a.fId),(22,S.ptr 0 7),(14,S.ptr 0 5),(46,u14),(30,bb (geI a.fTry 1)),(1,S.ptr 0 0),(33,u9),(17,bb u10),(49,bb v6),(9,ss a.fOffer_Type),(41,ii v3),(25,S.ptr 0 9),(5,S.ptr 0 1),(37,S.ptr 0 11),(21,ii v4),(13,S.ptr 0 3),(45,bb u15),(29,ii a.fTry),(3,S.ptr 0 0),(35,bb u11),(19,S.ptr 0 6),(11,S.ptr 0 4),(43,ii a.fPhase),(27,ii v5),(7,S.ptr 0 3),(39,ii (sizeS a.fId)),(23,S.agg [ii a.fCap_0,ii a.fCap_1]),(15,ss a.fOffer_Kind),(47,u16),(31,bb u12)] 63 [(0,B.box (List.map S.t (e52 a))),(15,B.lst false 1 5 [ss a.fName,ss a.fPool,ss a.fOffer_Type,ss a.fOffer_Zone,ss a.fOffer_Kind])])
abbrev T62_2:Type:=Int→Int→Int→Int→Int→Int→Bool→S→S→S→S→S→Bool→Bool→Bool→Bool→S→Bool→S→Bool→S→S→OS
def K62_2 (a:D52) (kk:PK S):T62_2:=fun v0 v1 v2 v3 v4 v5 v6 u7 u8 u9 u10 u11 u12 u13 u14 u15 u16 u17 u18 u19 u20 u21=> kk 1 53 2 (mkSt [(0,ag (e52 a)),(32,u7),(16,S.sl 15 5),(48,u8),(8,S.ptr 0 3),(40,bb (leI (sizeS a.fId) 16)),(24,ii v0),(4,ss a.fName),(36,ii v1),(20,ii a.fPrice),(52,u18),(12,ss a.fOffer_Zone),(44,bb (geI a.fPhase 1)),(28,S.ptr 0 10),(2,ii 0),(34,u9),(18,ii v2),(50,bb u19),(10,S.ptr 0 3),(42,S.ptr 0 12),(26,S.t (T.rows 3 a.fOpts.n fun i=>e47 (a.fOpts.get i))),(6,ss a.fPool),(38,ss a.fId),(22,S.ptr 0 7),(54,bb v6),(14,S.ptr 0 5),(46,u10),(30,bb (geI a.fTry 1)),(1,S.ptr 0 0),(33,u11),(17,bb u12),(49,bb u13),(9,ss a.fOffer_Type),(41,ii v3),(25,S.ptr 0 9),(5,S.ptr 0 1),(37,S.ptr 0 11),(21,ii v4),(53,u20),(13,S.ptr 0 3),(45,bb u14),(29,ii a.fTry),(3,S.ptr 0 0),(35,bb u15),(19,S.ptr 0 6),(51,u21),(11,S.ptr 0 4),(43,ii a.fPhase),(27,ii v5),(7,S.ptr 0 3),(39,ii (sizeS a.fId)),(23,S.agg [ii a.fCap_0,ii a.fCap_1]),(15,ss a.fOffer_Kind),(47,u16),(31,bb u17)] 63 [(0,B.box (List.map S.t (e52 a))),(15,B.lst false 1 5 [ss a.fName,ss a.fPool,ss a.fOffer_Type,ss a.fOffer_Zone,ss a.fOffer_Kind])])
abbrev T62_3:Type:=Int→Int→Int→Int→Int→Int→Bool→S→S→S→S→Bool→Bool→S→S→Bool→Bool→S→Bool→Bool→S→S→Bool→S→S→S→Bool→OS
def K62_3 (a:D52) (kk:PK S):T62_3:=fun v0 v1 v2 v3 v4 v5 v6 u7 u8 u9 u10 u11 u12 u13 u14 u15 u16 u17 u18 u19 u20 u21 u22 u23 u24 u25 u26=> kk 1 58 2 (mkSt [(0,ag (e52 a)),(32,u7),(16,S.sl 15 5),(48,u8),(8,S.ptr 0 3),(40,bb (leI (sizeS a.fId) 16)),(24,ii v0),(56,u23),(4,ss a.fName),(36,ii v1),(20,ii a.fPrice),(52,u9),(12,ss a.fOffer_Zone),(44,bb (geI a.fPhase 1)),(28,S.ptr 0 10),(2,ii 0),(34,u10),(18,ii v2),(50,bb u11),(10,S.ptr 0 3),(42,S.ptr 0 12),(26,S.t (T.rows 3 a.fOpts.n fun i=>e47 (a.fOpts.get i))),(58,u24),(6,ss a.fPool),(38,ss a.fId),(22,S.ptr 0 7),(54,bb u12),(14,S.ptr 0 5),(46,u13),(30,bb (geI a.fTry 1)),(1,S.ptr 0 0),(33,u14),(17,bb u15),(49,bb u16),(9,ss a.fOffer_Type),(41,ii v3),(25,S.ptr 0 9),(57,u25),(5,S.ptr 0 1),(37,S.ptr 0 11),(21,ii v4),(53,u17),(13,S.ptr 0 3),(45,bb u18),(29,ii a.fTry),(3,S.ptr 0 0),(35,bb u19),(19,S.ptr 0 6),(51,u20),(11,S.ptr 0 4),(43,ii a.fPhase),(27,ii v5),(59,bb v6),(7,S.ptr 0 3),(39,ii (sizeS a.fId)),(23,S.agg [ii a.fCap_0,ii a.fCap_1]),(55,bb u26),(15,ss a.fOffer_Kind),(47,u21),(31,bb u22)] 63 [(0,B.box (List.map S.t (e52 a))),(15,B.lst false 1 5 [ss a.fName,ss a.fPool,ss a.fOffer_Type,ss a.fOffer_Zone,ss a.fOffer_Kind])])
def b62_0 (q:YF) (a:D52) (k1:T62_1):T62_0:=fun v0 v1 v2 v3 v4 u5 u6 u7 u8 u9=>yC q 108 [bb v4,ii 1] fun y=>yC q 108 [bb (leI (sizeS a.fId) 16),ii 2] fun y_1=>bif geI a.fPhase 1 then k1 v0 (y.i 0) v1 (y_1.i 0) v2 v3 (leI a.fPhase 4) u6 u7 u8 u5 v4 u9 (bb (leI a.fPhase 4)) (S.ptr 0 12) true (ii a.fPhase) else k1 v0 (y.i 0) v1 (y_1.i 0) v2 v3 false u6 u7 u8 u5 v4 u9 S.ud S.ud false S.ud
def b62_1 (q:YF) (a:D52) (k2:T62_2):T62_1:=fun v0 v1 v2 v3 v4 v5 v6 u7 u8 u9 u10 u11 u12 u13 u14 u15 u16=>bif v6 then yC q 112 [ii a.fGen,ii 0,ii 1099511627776] fun y=>k2 v0 v1 v2 v3 v4 v5 (y.b 0) u7 u13 u8 u14 u9 u10 v6 u15 u11 u16 u12 (ii a.fGen) true (bb (y.b 0)) (S.ptr 0 2) else k2 v0 v1 v2 v3 v4 v5 false u7 u13 u8 u14 u9 u10 v6 u15 u11 u16 u12 S.ud false S.ud S.ud
def b62_2 (q:YF) (a:D52) (k3:T62_3):T62_2:=fun v0 v1 v2 v3 v4 v5 v6 u7 u8 u9 u10 u11 u12 u13 u14 u15 u16 u17 u18 u19 u20 u21=>bif v6 then yC q 112 [ii a.fBorn,ii 0,ii 1099511627776] fun y=>k3 v0 v1 v2 v3 v4 v5 (y.b 0) u7 u8 u18 u9 u19 v6 u10 u11 u12 u13 u20 u14 u15 u21 u16 u17 (S.ptr 0 13) (bb (y.b 0)) (ii a.fBorn) true else k3 v0 v1 v2 v3 v4 v5 false u7 u8 u18 u9 u19 v6 u10 u11 u12 u13 u20 u14 u15 u21 u16 u17 S.ud S.ud S.ud false
def b62_3 (q:YF) (a:D52):T62_3:=fun v0 v1 v2 v3 v4 v5 v6 u7 u8 u9 u10 u11 u12 u13 u14 u15 u16 u17 u18 u19 u20 u21 u22 u23 u24 u25 u26=>yC q 108 [bb v6,ii 1] fun y=>yC q 107 [S.t (T.rows 1 7 fun i=>List.take 1 (List.drop (↑i*1) [ti v2,ti v4,ti v0,ti v5,ti v1,ti v3,ti (y.i 0)]))] fun y=>some (ii (y.i 0))
def e62_in (q:YF) (a:D52) (k0:T62_0):OS:=yC q 109 [S.t (T.rows 1 5 fun i=>List.take 1 (List.drop (↑i*1) [ts a.fName,ts a.fPool,ts a.fOffer_Type,ts a.fOffer_Zone,ts a.fOffer_Kind]))] fun y=>yC q 108 [bb (y.b 0),ii 7] fun y_1=>yC q 113 [ii a.fPrice] fun y_2=>yC q 102 [S.agg [ii a.fCap_0,ii a.fCap_1]] fun y_3=>yC q 114 [S.t (T.rows 3 a.fOpts.n fun i=>e47 (a.fOpts.get i))] fun y_4=>bif geI a.fTry 1 then k0 (y_3.i 0) (y_1.i 0) (y_2.i 0) (y_4.i 0) (leI a.fTry 32) (y.b 0) (S.ptr 0 10) (bb (leI a.fTry 32)) (ii a.fTry) true else k0 (y_3.i 0) (y_1.i 0) (y_2.i 0) (y_4.i 0) false (y.b 0) S.ud S.ud S.ud false
structure X62 where
 x0:Int→Int→Int→Int→Bool→OS
 x1:Int→Int→Int→Int→Int→Int→Bool→OS
 x2:Int→Int→Int→Int→Int→Int→Bool→OS
 x3:Int→Int→Int→Int→Int→Int→Bool→OS
def D62_0 (X:X62):T62_0:=fun v0 v1 v2 v3 v4 _ _ _ _ _=>X.x0 v0 v1 v2 v3 v4
def D62_1 (X:X62):T62_1:=fun v0 v1 v2 v3 v4 v5 v6 _ _ _ _ _ _ _ _ _ _=>X.x1 v0 v1 v2 v3 v4 v5 v6
def D62_2 (X:X62):T62_2:=fun v0 v1 v2 v3 v4 v5 v6 _ _ _ _ _ _ _ _ _ _ _ _ _ _ _=>X.x2 v0 v1 v2 v3 v4 v5 v6
def D62_3 (X:X62):T62_3:=fun v0 v1 v2 v3 v4 v5 v6 _ _ _ _ _ _ _ _ _ _ _ _ _ _ _ _ _ _ _ _=>X.x3 v0 v1 v2 v3 v4 v5 v6
def X62s (q:YF) (a:D52) (X:X62):X62:=⟨fun v0 v1 v2 v3 v4=>b62_0 q a (D62_1 X) v0 v1 v2 v3 v4 dd dd dd dd dd,
 fun v0 v1 v2 v3 v4 v5 v6=>b62_1 q a (D62_2 X) v0 v1 v2 v3 v4 v5 v6 dd dd dd dd dd dd dd dd dd dd,
 fun v0 v1 v2 v3 v4 v5 v6=>b62_2 q a (D62_3 X) v0 v1 v2 v3 v4 v5 v6 dd dd dd dd dd dd dd dd dd dd dd dd dd dd dd,
 fun v0 v1 v2 v3 v4 v5 v6=>b62_3 q a v0 v1 v2 v3 v4 v5 v6 dd dd dd dd dd dd dd dd dd dd dd dd dd dd dd dd dd dd dd dd⟩
def X62n (q:YF) (a:D52):Nat→X62
 | 0=>⟨fun _ _ _ _ _=>none,fun _ _ _ _ _ _ _=>none,fun _ _ _ _ _ _ _=>none,fun _ _ _ _ _ _ _=>none⟩
 | n+1=>X62s q a (X62n q a n)
theorem l62_0 (q:YF) (a:D52) (kk:PK S):K62_0 a (P62 q kk)=b62_0 q a (K62_1 a kk):=by
 kernel_rfl
theorem l62_1 (q:YF) (a:D52) (kk:PK S):K62_1 a (P62 q kk)=b62_1 q a (K62_2 a kk):=by
 kernel_rfl
theorem l62_2 (q:YF) (a:D52) (kk:PK S):K62_2 a (P62 q kk)=b62_2 q a (K62_3 a kk):=by
 kernel_rfl
theorem l62_3 (q:YF) (a:D52) (kk:PK S):K62_3 a (P62 q kk)=b62_3 q a:=by
 kernel_rfl
theorem l62_in (q:YF) (a:D52) (kk:PK S):BG q kk 62 Tryz.f62 [ag (e52 a)]=e62_in q a (K62_0 a kk):=by
 kernel_rfl
theorem h62 (q:YF) (a:D52):∀ n,K62_0 a (H62 q n)=D62_0 (X62n q a n)∧K62_1 a (H62 q n)=D62_1 (X62n q a n)∧K62_2 a (H62 q n)=D62_2 (X62n q a n)∧K62_3 a (H62 q n)=D62_3 (X62n q a n)
 | 0=>⟨rfl,rfl,rfl,rfl⟩
 | n+1=>by
  obtain ⟨h0,h1,h2,h3⟩:=h62 q a n
  exact ⟨(l62_0 q a (H62 q n)).trans (by rw [h1];kernel_rfl),(l62_1 q a (H62 q n)).trans (by rw [h2];kernel_rfl),(l62_2 q a (H62 q n)).trans (by rw [h3];kernel_rfl),(l62_3 q a (H62 q n)).trans (by kernel_rfl)⟩
theorem W62 (a:D52) (n:Nat) (x:S) (h:e62_in (regs O) a (D62_0 (X62n (regs O) a n))=some x):(W O).callT 62 [ag (e52 a)]=some x:=by
 refine WG (fn:=Tryz.f62) (by kernel_rfl) (by kernel_rfl) (n:=n) ?_
 refine (l62_in (regs O) a (H62 (regs O) n)).trans ?_
 obtain ⟨h0,h1,h2,h3⟩:=h62 (regs O) a n
 rw [h0]
 exact h
abbrev H63 (q:YF):Nat→PK S:=HG q 63 Tryz.f63
def e63_in (q:YF) (a:Rw D112) (b:D47):OS:=yC q 83 [S.t (T.rows 7 a.n fun i=>e112 (a.get i))] fun y=>lookW O.P O.K 47 141 (y.m 0) (ag (e47 b)) (fun y=>yC q 115 [S.agg [ii (y.i 1),ii (y.i 2)],S.agg [ii (y.i 3),ii (y.i 4)]] fun y=>some (S.tup [S.agg [ii (y.i 0),ii (y.i 1)],bb true])) (yC q 115 [S.agg [ii 0,ii 0],S.agg [ii 0,ii 0]] fun y=>some (S.tup [S.agg [ii (y.i 0),ii (y.i 1)],bb false]))
theorem l63_in (q:YF) (a:Rw D112) (b:D47) (kk:PK S):BG q kk 63 Tryz.f63 [S.t (T.rows 7 a.n fun i=>e112 (a.get i)),ag (e47 b)]=e63_in q a b:=by
 kernel_rfl
theorem W63 (a:Rw D112) (b:D47) (n:Nat) (x:S) (h:e63_in (regs O) a b=some x):(W O).callT 63 [S.t (T.rows 7 a.n fun i=>e112 (a.get i)),ag (e47 b)]=some x:=by
 refine WG (fn:=Tryz.f63) (by kernel_rfl) (by kernel_rfl) (n:=n) ?_
 refine (l63_in (regs O) a b (H63 (regs O) n)).trans ?_
 exact h
abbrev H64 (q:YF):Nat→PK S:=HG q 64 Tryz.f64
def e64_in (q:YF) (a:D33) (b:BA):OS:=yC q 116 [S.t (T.rows 10 a.fPools.n fun i=>e77 (a.fPools.get i)),S.fn (Go.Fn.func 117) [] [S.pt [ts b]]] fun y=>some (bb (y.b 0))
theorem l64_in (q:YF) (a:D33) (b:BA) (kk:PK S):BG q kk 64 Tryz.f64 [ag (e33 a),ss b]=e64_in q a b:=by
 kernel_rfl
theorem W64 (a:D33) (b:BA) (n:Nat) (x:S) (h:e64_in (regs O) a b=some x):(W O).callT 64 [ag (e33 a),ss b]=some x:=by
 refine WG (fn:=Tryz.f64) (by kernel_rfl) (by kernel_rfl) (n:=n) ?_
 refine (l64_in (regs O) a b (H64 (regs O) n)).trans ?_
 exact h
abbrev H65 (q:YF):Nat→PK S:=HG q 65 Tryz.f65
def e65_in (q:YF) (a:D33) (b:Rw D47):OS:=yC q 118 [S.t (T.rows 3 b.n fun i=>e47 (b.get i)),S.fn (Go.Fn.func 119) [] [S.pt (e33 a)]] fun y=>some (S.t (T.v (.bool !y.b 0)))
theorem l65_in (q:YF) (a:D33) (b:Rw D47) (kk:PK S):BG q kk 65 Tryz.f65 [ag (e33 a),S.t (T.rows 3 b.n fun i=>e47 (b.get i))]=e65_in q a b:=by
 kernel_rfl
theorem W65 (a:D33) (b:Rw D47) (n:Nat) (x:S) (h:e65_in (regs O) a b=some x):(W O).callT 65 [ag (e33 a),S.t (T.rows 3 b.n fun i=>e47 (b.get i))]=some x:=by
 refine WG (fn:=Tryz.f65) (by kernel_rfl) (by kernel_rfl) (n:=n) ?_
 refine (l65_in (regs O) a b (H65 (regs O) n)).trans ?_
 exact h
abbrev P66 (q:YF) (kk:PK S):PK S:=PG q 66 Tryz.f66 kk
abbrev H66 (q:YF):Nat→PK S:=HG q 66 Tryz.f66
abbrev T66_0:Type:=Int→Int→Bool→Bool→Bool→S→S→S→OS
def K66_0 (a:D61) (kk:PK S):T66_0:=fun v0 v1 v2 u3 u4 u5 u6 u7=> kk 1 19 2 (mkSt [(0,ag (e61 a)),(16,bb u4),(8,bb u3),(4,ss a.fName),(20,bb v2),(12,ii v0),(2,ii 0),(18,u5),(10,S.ptr 0 2),(6,ss a.fApp),(14,ii a.fPrio),(1,S.ptr 0 0),(17,u6),(9,ii v1),(5,S.ptr 0 1),(13,S.ptr 0 4),(3,S.ptr 0 0),(19,u7),(11,S.agg [ii a.fNeed_0,ii a.fNeed_1]),(7,S.sl 6 2),(15,bb (geI a.fPrio (Int.negSucc 999)))] 40 [(0,B.box (List.map S.t (e61 a))),(6,B.lst false 1 2 [ss a.fName,ss a.fApp])])
def b66_0 (q:YF) (a:D61):T66_0:=fun v0 v1 v2 u3 u4 u5 u6 u7=>yC q 108 [bb v2,ii 1] fun y=>yC q 110 [S.t (T.rows 4 a.fReqs.n fun i=>e68 (a.fReqs.get i))] fun y_1=>yC q 120 [S.t (T.rows 3 a.fTols.n fun i=>e160 (a.fTols.get i))] fun y_2=>yC q 121 [ag (e61 a)] fun y_3=>yC q 112 [ii a.fSince,ii 0,ii 1099511627776] fun y_4=>yC q 108 [bb (y_4.b 0),ii 1] fun y_5=>yC q 122 [ss a.fOn] fun y_6=>yC q 108 [bb (y_6.b 0),ii 7] fun y_7=>yC q 107 [S.t (T.rows 1 8 fun i=>List.take 1 (List.drop (↑i*1) [ti v1,ti v0,ti (y.i 0),ti (y_1.i 0),ti (y_2.i 0),ti (y_3.i 0),ti (y_5.i 0),ti (y_7.i 0)]))] fun y=>some (ii (y.i 0))
def e66_in (q:YF) (a:D61) (k0:T66_0):OS:=yC q 109 [S.t (T.rows 1 2 fun i=>List.take 1 (List.drop (↑i*1) [ts a.fName,ts a.fApp]))] fun y=>yC q 108 [bb (y.b 0),ii 7] fun y_1=>yC q 102 [S.agg [ii a.fNeed_0,ii a.fNeed_1]] fun y_2=>bif geI a.fPrio (Int.negSucc 999) then k0 (y_2.i 0) (y_1.i 0) (leI a.fPrio 1000) (y.b 0) true (ii a.fPrio) (S.ptr 0 4) (bb (leI a.fPrio 1000)) else k0 (y_2.i 0) (y_1.i 0) false (y.b 0) false S.ud S.ud S.ud
structure X66 where
 x0:Int→Int→Bool→OS
def D66_0 (X:X66):T66_0:=fun v0 v1 v2 _ _ _ _ _=>X.x0 v0 v1 v2
def X66s (q:YF) (a:D61) (X:X66):X66:=⟨fun v0 v1 v2=>b66_0 q a v0 v1 v2 dd dd dd dd dd⟩
def X66n (q:YF) (a:D61):Nat→X66
 | 0=>⟨fun _ _ _=>none⟩
 | n+1=>X66s q a (X66n q a n)
theorem l66_0 (q:YF) (a:D61) (kk:PK S):K66_0 a (P66 q kk)=b66_0 q a:=by
 kernel_rfl
theorem l66_in (q:YF) (a:D61) (kk:PK S):BG q kk 66 Tryz.f66 [ag (e61 a)]=e66_in q a (K66_0 a kk):=by
 kernel_rfl
theorem h66 (q:YF) (a:D61):∀ n,K66_0 a (H66 q n)=D66_0 (X66n q a n)
 | 0=>rfl
 | n+1=>by
  have h0:=h66 q a n
  exact (l66_0 q a (H66 q n)).trans (by kernel_rfl)
theorem W66 (a:D61) (n:Nat) (x:S) (h:e66_in (regs O) a (D66_0 (X66n (regs O) a n))=some x):(W O).callT 66 [ag (e61 a)]=some x:=by
 refine WG (fn:=Tryz.f66) (by kernel_rfl) (by kernel_rfl) (n:=n) ?_
 refine (l66_in (regs O) a (H66 (regs O) n)).trans ?_
 have h0:=h66 (regs O) a n
 rw [h0]
 exact h
abbrev H67 (q:YF):Nat→PK S:=HG q 67 Tryz.f67
def e67_in (q:YF) (a:D33) (b:BA):OS:=yC q 123 [S.t (T.rows 15 a.fClaims.n fun i=>e52 (a.fClaims.get i)),S.fn (Go.Fn.func 124) [] [S.pt [ts b]]] fun y=>some (bb (y.b 0))
theorem l67_in (q:YF) (a:D33) (b:BA) (kk:PK S):BG q kk 67 Tryz.f67 [ag (e33 a),ss b]=e67_in q a b:=by
 kernel_rfl
theorem W67 (a:D33) (b:BA) (n:Nat) (x:S) (h:e67_in (regs O) a b=some x):(W O).callT 67 [ag (e33 a),ss b]=some x:=by
 refine WG (fn:=Tryz.f67) (by kernel_rfl) (by kernel_rfl) (n:=n) ?_
 refine (l67_in (regs O) a b (H67 (regs O) n)).trans ?_
 exact h
abbrev P68 (q:YF) (kk:PK S):PK S:=PG q 68 Tryz.f68 kk
abbrev H68 (q:YF):Nat→PK S:=HG q 68 Tryz.f68
abbrev T68_0:Type:=Bool→S→S→Bool→S→OS
def K68_0 (a:D122) (kk:PK S):T68_0:=fun v0 u1 u2 u3 u4=> kk 1 9 2 (mkSt [(0,ag (e122 a)),(8,bb (geI a.fCause 1)),(12,u1),(2,ii 0),(10,u2),(6,S.ptr 0 0),(1,S.ptr 0 0),(9,bb u3),(13,bb v0),(11,u4),(7,ii a.fCause)] 34 [(0,B.box (List.map S.t (e122 a)))])
abbrev T68_1:Type:=Bool→S→S→Bool→Bool→S→S→Bool→S→S→OS
def K68_1 (a:D122) (kk:PK S):T68_1:=fun v0 u1 u2 u3 u4 u5 u6 u7 u8 u9=> kk 1 14 2 (mkSt [(0,ag (e122 a)),(16,u6),(8,bb (geI a.fCause 1)),(12,u1),(2,ii 0),(18,bb v0),(10,u2),(6,S.ptr 0 0),(14,bb u7),(1,S.ptr 0 0),(17,u8),(9,bb u3),(13,bb u4),(11,u5),(7,ii a.fCause),(15,u9)] 34 [(0,B.box (List.map S.t (e122 a)))])
abbrev T68_2:Type:=Bool→S→S→Bool→S→Bool→S→Bool→Bool→S→S→S→S→S→Bool→OS
def K68_2 (a:D122) (kk:PK S):T68_2:=fun v0 u1 u2 u3 u4 u5 u6 u7 u8 u9 u10 u11 u12 u13 u14=> kk 1 19 2 (mkSt [(0,ag (e122 a)),(16,u1),(8,bb (geI a.fCause 1)),(20,u11),(12,u2),(2,ii 0),(18,bb u3),(10,u4),(6,S.ptr 0 0),(22,u12),(14,bb u5),(1,S.ptr 0 0),(17,u6),(9,bb u7),(21,u13),(13,bb u8),(19,bb u14),(11,u9),(7,ii a.fCause),(23,bb v0),(15,u10)] 34 [(0,B.box (List.map S.t (e122 a)))])
def K68_3 (a:D122) (kk:PK S):Int→Int→OS:=fun v0 v1=> kk 3 0 0 (mkSt [(40,ii v1),(38,S.t (T.rows 1 a.fNodes.n fun i=>[ts (a.fNodes.get i)])),(1,S.ptr 0 0),(3,ii v0),(39,ii (ofN a.fNodes.n))] 1 [(0,B.box (List.map S.t (e122 a)))])
abbrev T68_4:Type:=Int→Int→Bool→Int→Bool→Bool→Bool→S→S→S→OS
def K68_4 (a:D122) (kk:PK S):T68_4:=fun v0 v1 v2 u3 u4 u5 u6 u7 u8 u9=> kk 9 14 1 (mkSt [(80,bb v2),(72,ii v0),(68,ii v1),(76,bb u6),(74,ss a.fFresh),(70,ii a.fUntil),(78,u7),(1,S.ptr 0 0),(73,S.ptr 0 4),(69,S.ptr 0 3),(77,u8),(3,ii u3),(75,bb u4),(71,bb u5),(79,u9)] 21 [(0,B.box (List.map S.t (e122 a)))])
abbrev T68_5:Type:=Int→Int→Bool→BA→BA→Bool→Bool→BA→Int→Int→BA→BA→S→Int→Int→S→Int→S→Bool→S→Bool→S→Bool→S→S→S→OS
def K68_5 (a:D122) (kk:PK S):T68_5:=fun v0 v1 v2 u3 u4 u5 u6 u7 u8 u9 u10 u11 u12 u13 u14 u15 u16 u17 u18 u19 u20 u21 u22 u23 u24 u25=> kk 7 17 9 (mkSt [(48,ss u3),(40,ii v1),(56,u12),(4,ii u13),(52,ii u14),(44,ss u4),(60,u15),(50,bb u5),(42,ii u16),(58,u17),(38,S.t (T.rows 1 a.fNodes.n fun i=>[ts (a.fNodes.get i)])),(54,bb u18),(46,bb u6),(62,u19),(1,S.ptr 0 0),(49,S.sl 10 1),(41,bb u20),(57,u21),(5,ss u7),(53,bb u22),(45,ii u8),(61,u23),(3,ii u9),(51,ii v0),(43,S.pt [ts u10]),(59,u24),(39,ii (ofN a.fNodes.n)),(55,u25),(63,bb v2)] 29 [(0,B.box (List.map S.t (e122 a))),(10,B.lst false 1 1 [ss u11])])
def b68_0 (q:YF) (a:D122) (k1:T68_1):T68_0:=fun v0 u1 u2 u3 u4=>bif v0 then k1 (geI a.fStep 1) u1 u2 u3 v0 u4 (ii a.fStep) true (bb (geI a.fStep 1)) (S.ptr 0 2) else k1 false u1 u2 u3 v0 u4 S.ud false S.ud S.ud
def b68_1 (q:YF) (a:D122) (k2:T68_2):T68_1:=fun v0 u1 u2 u3 u4 u5 u6 u7 u8 u9=>bif v0 then k2 (leI a.fStep 3) u6 u1 v0 u2 u7 u8 u3 u4 u5 u9 (S.ptr 0 2) (bb (leI a.fStep 3)) (ii a.fStep) true else k2 false u6 u1 v0 u2 u7 u8 u3 u4 u5 u9 S.ud S.ud S.ud false
def b68_2 (q:YF) (a:D122) (k3:Int→Int→OS):T68_2:=fun v0 u1 u2 u3 u4 u5 u6 u7 u8 u9 u10 u11 u12 u13 u14=>yC q 108 [bb v0,ii 1] fun y=>yC q 108 [bb (leI (ofN a.fNodes.n) 4),ii 3] fun y_1=>yC q 108 [bb (gtI (ofN a.fNodes.n) 0),ii 1] fun y_2=>yC q 107 [S.t (T.rows 1 3 fun i=>List.take 1 (List.drop (↑i*1) [ti (y.i 0),ti (y_1.i 0),ti (y_2.i 0)]))] fun y=>k3 (y.i 0) 0
def b68_3 (q:YF) (a:D122) (k4:T68_4) (k5:T68_5) (v0 v1:Int):OS:=bif ltI v1 (ofN a.fNodes.n) then elemO v1 a.fNodes.n fun h=>bif !eqI v0 0 then some (ii v0) else yC q 109 [S.t (T.rows 1 1 fun i=>List.take 1 (List.drop (↑i*1) [ts (a.fNodes.get (Fin.mk v1.toNat h))]))] fun y=>yC q 108 [bb (y.b 0),ii 7] fun y_1=>bif eqI v1 0 then k5 (y_1.i 0) v1 true (a.fNodes.get (Fin.mk v1.toNat h)) (a.fNodes.get (Fin.mk v1.toNat h)) (y.b 0) (!eqI v0 0) (a.fNodes.get (Fin.mk v1.toNat h)) v0 v0 (a.fNodes.get (Fin.mk v1.toNat h)) (a.fNodes.get (Fin.mk v1.toNat h)) S.ud v1 v1 S.ud v1 S.ud true S.ud (ltI v1 (ofN a.fNodes.n)) S.ud (eqI v1 0) S.ud S.ud S.ud else elemO (subI .i64 v1 1) a.fNodes.n fun h_1=>k5 (y_1.i 0) v1 (strLt (a.fNodes.get (Fin.mk (subI .i64 v1 1).toNat h_1)) (a.fNodes.get (Fin.mk v1.toNat h))) (a.fNodes.get (Fin.mk v1.toNat h)) (a.fNodes.get (Fin.mk v1.toNat h)) (y.b 0) (!eqI v0 0) (a.fNodes.get (Fin.mk v1.toNat h)) v0 v0 (a.fNodes.get (Fin.mk v1.toNat h)) (a.fNodes.get (Fin.mk v1.toNat h)) (S.t (T.rows 1 a.fNodes.n fun i=>[ts (a.fNodes.get i)])) v1 v1 (ss (a.fNodes.get (Fin.mk (subI .i64 v1 1).toNat h_1))) v1 (ii (subI .i64 v1 1)) false (bb (strLt (a.fNodes.get (Fin.mk (subI .i64 v1 1).toNat h_1)) (a.fNodes.get (Fin.mk v1.toNat h)))) (ltI v1 (ofN a.fNodes.n)) (ii v1) (eqI v1 0) (ss (a.fNodes.get (Fin.mk v1.toNat h))) (S.pt [ts (a.fNodes.get (Fin.mk (subI .i64 v1 1).toNat h_1))]) (S.ptr 0 1) else yC q 112 [ii a.fUntil,ii 0,ii 1099511627776] fun y=>yC q 108 [bb (y.b 0),ii 1] fun y_1=>yC q 122 [ss a.fFresh] fun y_2=>bif y_2.b 0 then yC q 122 [ss a.fPool] fun y_3=>k4 (y_1.i 0) v0 (y_3.b 0) v0 (y_2.b 0) (y.b 0) true (ss a.fPool) (S.ptr 0 5) (bb (y_3.b 0)) else k4 (y_1.i 0) v0 false v0 (y_2.b 0) (y.b 0) false S.ud S.ud S.ud
def b68_4 (q:YF) (a:D122):T68_4:=fun v0 v1 v2 u3 u4 u5 u6 u7 u8 u9=>yC q 108 [bb v2,ii 7] fun y=>yC q 114 [S.t (T.rows 3 a.fOpts.n fun i=>e47 (a.fOpts.get i))] fun y_1=>yC q 107 [S.t (T.rows 1 4 fun i=>List.take 1 (List.drop (↑i*1) [ti v1,ti v0,ti (y.i 0),ti (y_1.i 0)]))] fun y=>some (ii (y.i 0))
def b68_5 (q:YF) (a:D122) (k3:Int→Int→OS):T68_5:=fun v0 v1 v2 u3 u4 u5 u6 u7 u8 u9 u10 u11 u12 u13 u14 u15 u16 u17 u18 u19 u20 u21 u22 u23 u24 u25=>yC q 108 [bb v2,ii 6] fun y=>yC q 107 [S.t (T.rows 1 2 fun i=>List.take 1 (List.drop (↑i*1) [ti v0,ti (y.i 0)]))] fun y=>k3 (y.i 0) (addI .i64 v1 1)
def e68_in (q:YF) (a:D122) (k0:T68_0):OS:=bif geI a.fCause 1 then k0 (leI a.fCause 4) (bb (leI a.fCause 4)) (S.ptr 0 0) true (ii a.fCause) else k0 false S.ud S.ud false S.ud
structure X68 where
 x0:Bool→OS
 x1:Bool→OS
 x2:Bool→OS
 x3:Int→Int→OS
 x4:Int→Int→Bool→OS
 x5:Int→Int→Bool→OS
def D68_0 (X:X68):T68_0:=fun v0 _ _ _ _=>X.x0 v0
def D68_1 (X:X68):T68_1:=fun v0 _ _ _ _ _ _ _ _ _=>X.x1 v0
def D68_2 (X:X68):T68_2:=fun v0 _ _ _ _ _ _ _ _ _ _ _ _ _ _=>X.x2 v0
def D68_3 (X:X68):Int→Int→OS:=fun v0 v1=>X.x3 v0 v1
def D68_4 (X:X68):T68_4:=fun v0 v1 v2 _ _ _ _ _ _ _=>X.x4 v0 v1 v2
def D68_5 (X:X68):T68_5:=fun v0 v1 v2 _ _ _ _ _ _ _ _ _ _ _ _ _ _ _ _ _ _ _ _ _ _ _=>X.x5 v0 v1 v2
def X68s (q:YF) (a:D122) (X:X68):X68:=⟨fun v0=>b68_0 q a (D68_1 X) v0 dd dd dd dd,
 fun v0=>b68_1 q a (D68_2 X) v0 dd dd dd dd dd dd dd dd dd,
 fun v0=>b68_2 q a (D68_3 X) v0 dd dd dd dd dd dd dd dd dd dd dd dd dd dd,
 fun v0 v1=>b68_3 q a (D68_4 X) (D68_5 X) v0 v1,
 fun v0 v1 v2=>b68_4 q a v0 v1 v2 dd dd dd dd dd dd dd,
 fun v0 v1 v2=>b68_5 q a (D68_3 X) v0 v1 v2 dd dd dd dd dd dd dd dd dd dd dd dd dd dd dd dd dd dd dd dd dd dd dd⟩
def X68n (q:YF) (a:D122):Nat→X68
 | 0=>⟨fun _=>none,fun _=>none,fun _=>none,fun _ _=>none,fun _ _ _=>none,fun _ _ _=>none⟩
 | n+1=>X68s q a (X68n q a n)
theorem l68_0 (q:YF) (a:D122) (kk:PK S):K68_0 a (P68 q kk)=b68_0 q a (K68_1 a kk):=by
 kernel_rfl
theorem l68_1 (q:YF) (a:D122) (kk:PK S):K68_1 a (P68 q kk)=b68_1 q a (K68_2 a kk):=by
 kernel_rfl
theorem l68_2 (q:YF) (a:D122) (kk:PK S):K68_2 a (P68 q kk)=b68_2 q a (K68_3 a kk):=by
 kernel_rfl
theorem l68_3 (q:YF) (a:D122) (kk:PK S):K68_3 a (P68 q kk)=b68_3 q a (K68_4 a kk) (K68_5 a kk):=by
 kernel_rfl
theorem l68_4 (q:YF) (a:D122) (kk:PK S):K68_4 a (P68 q kk)=b68_4 q a:=by
 kernel_rfl
theorem l68_5 (q:YF) (a:D122) (kk:PK S):K68_5 a (P68 q kk)=b68_5 q a (K68_3 a kk):=by
 kernel_rfl
theorem l68_in (q:YF) (a:D122) (kk:PK S):BG q kk 68 Tryz.f68 [ag (e122 a)]=e68_in q a (K68_0 a kk):=by
 kernel_rfl
theorem h68 (q:YF) (a:D122):∀ n,K68_0 a (H68 q n)=D68_0 (X68n q a n)∧K68_1 a (H68 q n)=D68_1 (X68n q a n)∧K68_2 a (H68 q n)=D68_2 (X68n q a n)∧K68_3 a (H68 q n)=D68_3 (X68n q a n)∧K68_4 a (H68 q n)=D68_4 (X68n q a n)∧K68_5 a (H68 q n)=D68_5 (X68n q a n)
 | 0=>⟨rfl,rfl,rfl,rfl,rfl,rfl⟩
 | n+1=>by
  obtain ⟨h0,h1,h2,h3,h4,h5⟩:=h68 q a n
  exact ⟨(l68_0 q a (H68 q n)).trans (by rw [h1];kernel_rfl),(l68_1 q a (H68 q n)).trans (by rw [h2];kernel_rfl),(l68_2 q a (H68 q n)).trans (by rw [h3];kernel_rfl),(l68_3 q a (H68 q n)).trans (by rw [h4,h5];kernel_rfl),(l68_4 q a (H68 q n)).trans (by kernel_rfl),(l68_5 q a (H68 q n)).trans (by rw [h3];kernel_rfl)⟩
theorem W68 (a:D122) (n:Nat) (x:S) (h:e68_in (regs O) a (D68_0 (X68n (regs O) a n))=some x):(W O).callT 68 [ag (e122 a)]=some x:=by
 refine WG (fn:=Tryz.f68) (by kernel_rfl) (by kernel_rfl) (n:=n) ?_
 refine (l68_in (regs O) a (H68 (regs O) n)).trans ?_
 obtain ⟨h0,h1,h2,h3,h4,h5⟩:=h68 (regs O) a n
 rw [h0]
 exact h
abbrev H69 (q:YF):Nat→PK S:=HG q 69 Tryz.f69
def e69_in (q:YF) (a:D47) (b:D47):OS:=yC q 56 [ss a.fType,ss b.fType] fun y=>yC q 56 [ss a.fZone,ss b.fZone] fun y_1=>yC q 56 [ss a.fKind,ss b.fKind] fun y_2=>yC q 53 [S.t (T.rows 1 3 fun i=>List.take 1 (List.drop (↑i*1) [ti (y.i 0),ti (y_1.i 0),ti (y_2.i 0)]))] fun y=>some (ii (y.i 0))
theorem l69_in (q:YF) (a:D47) (b:D47) (kk:PK S):BG q kk 69 Tryz.f69 [ag (e47 a),ag (e47 b)]=e69_in q a b:=by
 kernel_rfl
theorem W69 (a:D47) (b:D47) (n:Nat) (x:S) (h:e69_in (regs O) a b=some x):(W O).callT 69 [ag (e47 a),ag (e47 b)]=some x:=by
 refine WG (fn:=Tryz.f69) (by kernel_rfl) (by kernel_rfl) (n:=n) ?_
 refine (l69_in (regs O) a b (H69 (regs O) n)).trans ?_
 exact h
end
end Go.Proofs.YtonkoellfaopiaaGreatDoor.H
