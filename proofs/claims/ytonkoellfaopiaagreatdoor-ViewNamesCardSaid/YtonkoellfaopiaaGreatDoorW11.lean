import Derived.Test.YtonkoellfaopiaaGreatDoorW7
set_option linter.unusedSimpArgs false
set_option linter.unusedVariables false
namespace Go.Proofs.YtonkoellfaopiaaGreatDoor.H
open Go
noncomputable section
abbrev P61 (q:YF) (kk:PK S):PK S:=PG q 61 Tryz.f61 kk
abbrev H61 (q:YF):Nat→PK S:=HG q 61 Tryz.f61
def s61_0 (a:D77) (v0:Int) (v1 u2:Bool) (u3 u4 u5:S) (u6:Bool):St:=mkSt [(0,ag (e77 a)),(8,S.ptr 0 1),(4,ss a.fName),(12,u3),(2,ii 0),(10,bb (geI a.fWeight 0)),(6,bb u2),(14,u4),(1,S.ptr 0 0),(9,ii a.fWeight),(5,S.sl 4 1),(13,u5),(3,S.ptr 0 0),(11,bb u6),(7,ii v0),(15,bb v1)] 57 [(0,B.box (List.map S.t (e77 a))),(4,B.lst false 1 1 [ss a.fName])]
abbrev T61_0:Type:=Int→Bool→Bool→S→S→S→Bool→OS
def K61_0 (a:D77) (kk:PK S):T61_0:=fun v0 v1 u2 u3 u4 u5 u6=> kk 1 14 2 (s61_0 a v0 v1 u2 u3 u4 u5 u6)
def s61_1 (a:D77) (v0 v1 v2 v3 v4:Int) (v5:Bool) (u6:S) (u7 u8:Bool) (u9 u10:S) (u11 u12:Bool) (u13 u14:S) (u15:Bool) (u16:S):St:=mkSt [(0,ag (e77 a)),(32,u13),(16,ii v0),(8,S.ptr 0 1),(24,S.t (T.rows 2 a.fTaints.n fun i=>e88 (a.fTaints.get i))),(4,ss a.fName),(20,S.ptr 0 4),(12,u6),(28,bb u7),(2,ii 0),(18,S.agg [ii a.fLimit_0,ii a.fLimit_1]),(10,bb (geI a.fWeight 0)),(26,S.ptr 0 6),(6,bb u8),(22,ii v1),(14,u9),(30,u14),(1,S.ptr 0 0),(33,bb v5),(17,S.ptr 0 2),(9,ii a.fWeight),(25,ii v2),(5,S.sl 4 1),(21,S.t (T.rows 4 a.fReqs.n fun i=>e68 (a.fReqs.get i))),(13,u10),(29,bb u15),(3,S.ptr 0 0),(19,ii v3),(11,bb u11),(27,ii a.fGen),(7,ii v4),(23,S.ptr 0 5),(15,bb u12),(31,u16)] 57 [(0,B.box (List.map S.t (e77 a))),(4,B.lst false 1 1 [ss a.fName])]
abbrev T61_1:Type:=Int→Int→Int→Int→Int→Bool→S→Bool→Bool→S→S→Bool→Bool→S→S→Bool→S→OS
def K61_1 (a:D77) (kk:PK S):T61_1:=fun v0 v1 v2 v3 v4 v5 u6 u7 u8 u9 u10 u11 u12 u13 u14 u15 u16=> kk 1 32 2 (s61_1 a v0 v1 v2 v3 v4 v5 u6 u7 u8 u9 u10 u11 u12 u13 u14 u15 u16)
def s61_2 (a:D77) (v0 v1 v2 v3 v4:Int) (v5:Bool) (u6 u7:S) (u8 u9:Bool) (u10 u11:S) (u12:Bool) (u13:S) (u14 u15 u16:Bool) (u17 u18:S) (u19:Bool) (u20 u21:S):St:=mkSt [(0,ag (e77 a)),(32,u6),(16,ii v0),(8,S.ptr 0 1),(24,S.t (T.rows 2 a.fTaints.n fun i=>e88 (a.fTaints.get i))),(4,ss a.fName),(36,u18),(20,S.ptr 0 4),(12,u7),(28,bb u8),(2,ii 0),(34,bb u19),(18,S.agg [ii a.fLimit_0,ii a.fLimit_1]),(10,bb (geI a.fWeight 0)),(26,S.ptr 0 6),(6,bb u9),(38,bb v5),(22,ii v1),(14,u10),(30,u11),(1,S.ptr 0 0),(33,bb u12),(17,S.ptr 0 2),(9,ii a.fWeight),(25,ii v2),(5,S.sl 4 1),(37,u20),(21,S.t (T.rows 4 a.fReqs.n fun i=>e68 (a.fReqs.get i))),(13,u13),(29,bb u14),(3,S.ptr 0 0),(35,u21),(19,ii v3),(11,bb u15),(27,ii a.fGen),(7,ii v4),(23,S.ptr 0 5),(15,bb u16),(31,u17)] 57 [(0,B.box (List.map S.t (e77 a))),(4,B.lst false 1 1 [ss a.fName])]
abbrev T61_2:Type:=Int→Int→Int→Int→Int→Bool→S→S→Bool→Bool→S→S→Bool→S→Bool→Bool→Bool→S→S→Bool→S→S→OS
def K61_2 (a:D77) (kk:PK S):T61_2:=fun v0 v1 v2 v3 v4 v5 u6 u7 u8 u9 u10 u11 u12 u13 u14 u15 u16 u17 u18 u19 u20 u21=> kk 1 37 2 (s61_2 a v0 v1 v2 v3 v4 v5 u6 u7 u8 u9 u10 u11 u12 u13 u14 u15 u16 u17 u18 u19 u20 u21)
def s61_3 (a:D77) (v0 v1 v2 v3 v4:Int) (v5:Bool) (u6 u7 u8:S) (u9 u10 u11 u12:Bool) (u13 u14:S) (u15:Bool) (u16 u17:S) (u18:Bool) (u19:S) (u20 u21:Bool) (u22 u23 u24 u25:S) (u26:Bool):St:=mkSt [(0,ag (e77 a)),(32,u6),(16,ii v0),(8,S.ptr 0 1),(40,u23),(24,S.t (T.rows 2 a.fTaints.n fun i=>e88 (a.fTaints.get i))),(4,ss a.fName),(36,u7),(20,S.ptr 0 4),(12,u8),(28,bb u9),(2,ii 0),(34,bb u10),(18,S.agg [ii a.fLimit_0,ii a.fLimit_1]),(10,bb (geI a.fWeight 0)),(42,u24),(26,S.ptr 0 6),(6,bb u11),(38,bb u12),(22,ii v1),(14,u13),(30,u14),(1,S.ptr 0 0),(33,bb u15),(17,S.ptr 0 2),(9,ii a.fWeight),(41,u25),(25,ii v2),(5,S.sl 4 1),(37,u16),(21,S.t (T.rows 4 a.fReqs.n fun i=>e68 (a.fReqs.get i))),(13,u17),(29,bb u18),(3,S.ptr 0 0),(35,u19),(19,ii v3),(11,bb u20),(43,bb v5),(27,ii a.fGen),(7,ii v4),(39,bb u26),(23,S.ptr 0 5),(15,bb u21),(31,u22)] 57 [(0,B.box (List.map S.t (e77 a))),(4,B.lst false 1 1 [ss a.fName])]
abbrev T61_3:Type:=Int→Int→Int→Int→Int→Bool→S→S→S→Bool→Bool→Bool→Bool→S→S→Bool→S→S→Bool→S→Bool→Bool→S→S→S→S→Bool→OS
def K61_3 (a:D77) (kk:PK S):T61_3:=fun v0 v1 v2 v3 v4 v5 u6 u7 u8 u9 u10 u11 u12 u13 u14 u15 u16 u17 u18 u19 u20 u21 u22 u23 u24 u25 u26=> kk 1 42 2 (s61_3 a v0 v1 v2 v3 v4 v5 u6 u7 u8 u9 u10 u11 u12 u13 u14 u15 u16 u17 u18 u19 u20 u21 u22 u23 u24 u25 u26)
def s61_4 (a:D77) (v0 v1 v2 v3 v4:Int) (v5:Bool) (u6 u7 u8 u9:S) (u10 u11:Bool) (u12:S) (u13 u14:Bool) (u15 u16:S) (u17:Bool) (u18 u19 u20:S) (u21:Bool) (u22:S) (u23 u24 u25 u26:Bool) (u27:S) (u28:Bool) (u29 u30 u31:S):St:=mkSt [(0,ag (e77 a)),(32,u6),(16,ii v0),(48,bb v5),(8,S.ptr 0 1),(40,u7),(24,S.t (T.rows 2 a.fTaints.n fun i=>e88 (a.fTaints.get i))),(4,ss a.fName),(36,u8),(20,S.ptr 0 4),(12,u9),(44,bb u28),(28,bb u10),(2,ii 0),(34,bb u11),(18,S.agg [ii a.fLimit_0,ii a.fLimit_1]),(10,bb (geI a.fWeight 0)),(42,u12),(26,S.ptr 0 6),(6,bb u13),(38,bb u14),(22,ii v1),(14,u15),(46,u29),(30,u16),(1,S.ptr 0 0),(33,bb u17),(17,S.ptr 0 2),(9,ii a.fWeight),(41,u18),(25,ii v2),(5,S.sl 4 1),(37,u19),(21,S.t (T.rows 4 a.fReqs.n fun i=>e68 (a.fReqs.get i))),(13,u20),(45,u30),(29,bb u21),(3,S.ptr 0 0),(35,u22),(19,ii v3),(11,bb u23),(43,bb u24),(27,ii a.fGen),(7,ii v4),(39,bb u25),(23,S.ptr 0 5),(15,bb u26),(47,u31),(31,u27)] 57 [(0,B.box (List.map S.t (e77 a))),(4,B.lst false 1 1 [ss a.fName])]
abbrev T61_4:Type:=Int→Int→Int→Int→Int→Bool→S→S→S→S→Bool→Bool→S→Bool→Bool→S→S→Bool→S→S→S→Bool→S→Bool→Bool→Bool→Bool→S→Bool→S→S→S→OS
def K61_4 (a:D77) (kk:PK S):T61_4:=fun v0 v1 v2 v3 v4 v5 u6 u7 u8 u9 u10 u11 u12 u13 u14 u15 u16 u17 u18 u19 u20 u21 u22 u23 u24 u25 u26 u27 u28 u29 u30 u31=> kk 1 47 2 (s61_4 a v0 v1 v2 v3 v4 v5 u6 u7 u8 u9 u10 u11 u12 u13 u14 u15 u16 u17 u18 u19 u20 u21 u22 u23 u24 u25 u26 u27 u28 u29 u30 u31)
def s61_5 (a:D77) (v0 v1 v2 v3 v4:Int) (v5:Bool) (u6:S) (u7:Bool) (u8 u9 u10:S) (u11 u12 u13:Bool) (u14:S) (u15 u16:Bool) (u17 u18 u19:S) (u20:Bool) (u21 u22 u23 u24:S) (u25:Bool) (u26:S) (u27 u28 u29 u30:Bool) (u31 u32 u33 u34:S) (u35:Bool) (u36:S):St:=mkSt [(0,ag (e77 a)),(32,u6),(16,ii v0),(48,bb u7),(8,S.ptr 0 1),(40,u8),(24,S.t (T.rows 2 a.fTaints.n fun i=>e88 (a.fTaints.get i))),(4,ss a.fName),(36,u9),(20,S.ptr 0 4),(52,u33),(12,u10),(44,bb u11),(28,bb u12),(2,ii 0),(34,bb u13),(18,S.agg [ii a.fLimit_0,ii a.fLimit_1]),(50,u34),(10,bb (geI a.fWeight 0)),(42,u14),(26,S.ptr 0 6),(6,bb u15),(38,bb u16),(22,ii v1),(14,u17),(46,u18),(30,u19),(1,S.ptr 0 0),(33,bb u20),(17,S.ptr 0 2),(49,bb u35),(9,ii a.fWeight),(41,u21),(25,ii v2),(5,S.sl 4 1),(37,u22),(21,S.t (T.rows 4 a.fReqs.n fun i=>e68 (a.fReqs.get i))),(53,bb v5),(13,u23),(45,u24),(29,bb u25),(3,S.ptr 0 0),(35,u26),(19,ii v3),(51,u36),(11,bb u27),(43,bb u28),(27,ii a.fGen),(7,ii v4),(39,bb u29),(23,S.ptr 0 5),(15,bb u30),(47,u31),(31,u32)] 57 [(0,B.box (List.map S.t (e77 a))),(4,B.lst false 1 1 [ss a.fName])]
abbrev T61_5:Type:=Int→Int→Int→Int→Int→Bool→S→Bool→S→S→S→Bool→Bool→Bool→S→Bool→Bool→S→S→S→Bool→S→S→S→S→Bool→S→Bool→Bool→Bool→Bool→S→S→S→S→Bool→S→OS
def K61_5 (a:D77) (kk:PK S):T61_5:=fun v0 v1 v2 v3 v4 v5 u6 u7 u8 u9 u10 u11 u12 u13 u14 u15 u16 u17 u18 u19 u20 u21 u22 u23 u24 u25 u26 u27 u28 u29 u30 u31 u32 u33 u34 u35 u36=> kk 1 52 2 (s61_5 a v0 v1 v2 v3 v4 v5 u6 u7 u8 u9 u10 u11 u12 u13 u14 u15 u16 u17 u18 u19 u20 u21 u22 u23 u24 u25 u26 u27 u28 u29 u30 u31 u32 u33 u34 u35 u36)
def b61_0 (q:YF) (a:D77) (k1:T61_1) (v0:Int) (v1 u2:Bool) (u3 u4 u5:S) (u6:Bool):OS:=yC q 108 [bb v1,ii 1] fun y=>yC q 102 [S.agg [ii a.fLimit_0,ii a.fLimit_1]] fun y_1=>yC q 110 [S.t (T.rows 4 a.fReqs.n fun i=>e68 (a.fReqs.get i))] fun y_2=>yC q 111 [S.t (T.rows 2 a.fTaints.n fun i=>e88 (a.fTaints.get i))] fun y_3=>yC q 112 [ii a.fGen,ii 0,ii 1099511627776] fun y_4=>bif y_4.b 0 then yC q 112 [ii a.fExpire,ii 0,ii 1073741824] fun y_5=>k1 (y.i 0) (y_2.i 0) (y_3.i 0) (y_1.i 0) v0 (y_5.b 0) u3 (y_4.b 0) u2 u4 u5 u6 v1 (bb (y_5.b 0)) (S.ptr 0 7) true (ii a.fExpire) else k1 (y.i 0) (y_2.i 0) (y_3.i 0) (y_1.i 0) v0 false u3 (y_4.b 0) u2 u4 u5 u6 v1 S.ud S.ud false S.ud
def b61_1 (q:YF) (a:D77) (k2:T61_2) (v0 v1 v2 v3 v4:Int) (v5:Bool) (u6:S) (u7 u8:Bool) (u9 u10:S) (u11 u12:Bool) (u13 u14:S) (u15:Bool) (u16:S):OS:=bif v5 then k2 v0 v1 v2 v3 v4 (geI a.fBudget 0) u13 u6 u7 u8 u9 u14 v5 u10 u15 u11 u12 u16 (ii a.fBudget) true (bb (geI a.fBudget 0)) (S.ptr 0 8) else k2 v0 v1 v2 v3 v4 false u13 u6 u7 u8 u9 u14 v5 u10 u15 u11 u12 u16 S.ud false S.ud S.ud
def b61_2 (q:YF) (a:D77) (k3:T61_3) (v0 v1 v2 v3 v4:Int) (v5:Bool) (u6 u7:S) (u8 u9:Bool) (u10 u11:S) (u12:Bool) (u13:S) (u14 u15 u16:Bool) (u17 u18:S) (u19:Bool) (u20 u21:S):OS:=bif v5 then k3 v0 v1 v2 v3 v4 (leI a.fBudget 16) u6 u18 u7 u8 u19 u9 v5 u10 u11 u12 u20 u13 u14 u21 u15 u16 u17 (S.ptr 0 8) (bb (leI a.fBudget 16)) (ii a.fBudget) true else k3 v0 v1 v2 v3 v4 false u6 u18 u7 u8 u19 u9 v5 u10 u11 u12 u20 u13 u14 u21 u15 u16 u17 S.ud S.ud S.ud false
def b61_3 (q:YF) (a:D77) (k4:T61_4) (v0 v1 v2 v3 v4:Int) (v5:Bool) (u6 u7 u8:S) (u9 u10 u11 u12:Bool) (u13 u14:S) (u15:Bool) (u16 u17:S) (u18:Bool) (u19:S) (u20 u21:Bool) (u22 u23 u24 u25:S) (u26:Bool):OS:=bif v5 then k4 v0 v1 v2 v3 v4 (geI a.fMerge 0) u6 u23 u7 u8 u9 u10 u24 u11 u12 u13 u14 u15 u25 u16 u17 u18 u19 u20 v5 u26 u21 u22 true (ii a.fMerge) (S.ptr 0 9) (bb (geI a.fMerge 0)) else k4 v0 v1 v2 v3 v4 false u6 u23 u7 u8 u9 u10 u24 u11 u12 u13 u14 u15 u25 u16 u17 u18 u19 u20 v5 u26 u21 u22 false S.ud S.ud S.ud
def b61_4 (q:YF) (a:D77) (k5:T61_5) (v0 v1 v2 v3 v4:Int) (v5:Bool) (u6 u7 u8 u9:S) (u10 u11:Bool) (u12:S) (u13 u14:Bool) (u15 u16:S) (u17:Bool) (u18 u19 u20:S) (u21:Bool) (u22:S) (u23 u24 u25 u26:Bool) (u27:S) (u28:Bool) (u29 u30 u31:S):OS:=bif v5 then k5 v0 v1 v2 v3 v4 (leI a.fMerge 2) u6 v5 u7 u8 u9 u28 u10 u11 u12 u13 u14 u15 u29 u16 u17 u18 u19 u20 u30 u21 u22 u23 u24 u25 u26 u31 u27 (bb (leI a.fMerge 2)) (S.ptr 0 9) true (ii a.fMerge) else k5 v0 v1 v2 v3 v4 false u6 v5 u7 u8 u9 u28 u10 u11 u12 u13 u14 u15 u29 u16 u17 u18 u19 u20 u30 u21 u22 u23 u24 u25 u26 u31 u27 S.ud S.ud false S.ud
def b61_5 (q:YF) (a:D77) (v0 v1 v2 v3 v4:Int) (v5:Bool) (u6:S) (u7:Bool) (u8 u9 u10:S) (u11 u12 u13:Bool) (u14:S) (u15 u16:Bool) (u17 u18 u19:S) (u20:Bool) (u21 u22 u23 u24:S) (u25:Bool) (u26:S) (u27 u28 u29 u30:Bool) (u31 u32 u33 u34:S) (u35:Bool) (u36:S):OS:=yC q 108 [bb v5,ii 1] fun y=>yC q 107 [S.t (T.rows 1 6 fun i=>List.take 1 (List.drop (↑i*1) [ti v4,ti v0,ti v3,ti v1,ti v2,ti (y.i 0)]))] fun y=>some (ii (y.i 0))
def e61_in (q:YF) (a:D77) (k0:T61_0):OS:=yC q 109 [S.t (T.rows 1 1 fun i=>List.take 1 (List.drop (↑i*1) [ts a.fName]))] fun y=>yC q 108 [bb (y.b 0),ii 7] fun y_1=>bif geI a.fWeight 0 then k0 (y_1.i 0) (leI a.fWeight 100) (y.b 0) (S.ptr 0 1) (bb (leI a.fWeight 100)) (ii a.fWeight) true else k0 (y_1.i 0) false (y.b 0) S.ud S.ud S.ud false
structure X61 where
 x0:Int→Bool→OS
 x1:Int→Int→Int→Int→Int→Bool→OS
 x2:Int→Int→Int→Int→Int→Bool→OS
 x3:Int→Int→Int→Int→Int→Bool→OS
 x4:Int→Int→Int→Int→Int→Bool→OS
 x5:Int→Int→Int→Int→Int→Bool→OS
def D61_0 (X:X61):T61_0:=fun v0 v1 _ _ _ _ _=>X.x0 v0 v1
def D61_1 (X:X61):T61_1:=fun v0 v1 v2 v3 v4 v5 _ _ _ _ _ _ _ _ _ _ _=>X.x1 v0 v1 v2 v3 v4 v5
def D61_2 (X:X61):T61_2:=fun v0 v1 v2 v3 v4 v5 _ _ _ _ _ _ _ _ _ _ _ _ _ _ _ _=>X.x2 v0 v1 v2 v3 v4 v5
def D61_3 (X:X61):T61_3:=fun v0 v1 v2 v3 v4 v5 _ _ _ _ _ _ _ _ _ _ _ _ _ _ _ _ _ _ _ _ _=>X.x3 v0 v1 v2 v3 v4 v5
def D61_4 (X:X61):T61_4:=fun v0 v1 v2 v3 v4 v5 _ _ _ _ _ _ _ _ _ _ _ _ _ _ _ _ _ _ _ _ _ _ _ _ _ _=>X.x4 v0 v1 v2 v3 v4 v5
def D61_5 (X:X61):T61_5:=fun v0 v1 v2 v3 v4 v5 _ _ _ _ _ _ _ _ _ _ _ _ _ _ _ _ _ _ _ _ _ _ _ _ _ _ _ _ _ _ _=>X.x5 v0 v1 v2 v3 v4 v5
def X61s (q:YF) (a:D77) (X:X61):X61:=⟨fun v0 v1=>b61_0 q a (D61_1 X) v0 v1 dd dd dd dd dd,
 fun v0 v1 v2 v3 v4 v5=>b61_1 q a (D61_2 X) v0 v1 v2 v3 v4 v5 dd dd dd dd dd dd dd dd dd dd dd,
 fun v0 v1 v2 v3 v4 v5=>b61_2 q a (D61_3 X) v0 v1 v2 v3 v4 v5 dd dd dd dd dd dd dd dd dd dd dd dd dd dd dd dd,
 fun v0 v1 v2 v3 v4 v5=>b61_3 q a (D61_4 X) v0 v1 v2 v3 v4 v5 dd dd dd dd dd dd dd dd dd dd dd dd dd dd dd dd dd dd dd dd dd,
 fun v0 v1 v2 v3 v4 v5=>b61_4 q a (D61_5 X) v0 v1 v2 v3 v4 v5 dd dd dd dd dd dd dd dd dd dd dd dd dd dd dd dd dd dd dd dd dd dd dd dd dd dd,
 fun v0 v1 v2 v3 v4 v5=>b61_5 q a v0 v1 v2 v3 v4 v5 dd dd dd dd dd dd dd dd dd dd dd dd dd dd dd dd dd dd dd dd dd dd dd dd dd dd dd dd dd dd dd⟩
def X61n (q:YF) (a:D77):Nat→X61
 | 0=>⟨fun _ _=>none,fun _ _ _ _ _ _=>none,fun _ _ _ _ _ _=>none,fun _ _ _ _ _ _=>none,fun _ _ _ _ _ _=>none,fun _ _ _ _ _ _=>none⟩
 | n+1=>X61s q a (X61n q a n)
theorem l61_0 (q:YF) (a:D77) (kk:PK S):K61_0 a (P61 q kk)=b61_0 q a (K61_1 a kk):=by
 kernel_rfl
theorem l61_1 (q:YF) (a:D77) (kk:PK S):K61_1 a (P61 q kk)=b61_1 q a (K61_2 a kk):=by
 kernel_rfl
theorem l61_2 (q:YF) (a:D77) (kk:PK S):K61_2 a (P61 q kk)=b61_2 q a (K61_3 a kk):=by
 kernel_rfl
theorem l61_3 (q:YF) (a:D77) (kk:PK S):K61_3 a (P61 q kk)=b61_3 q a (K61_4 a kk):=by
 kernel_rfl
theorem l61_4 (q:YF) (a:D77) (kk:PK S):K61_4 a (P61 q kk)=b61_4 q a (K61_5 a kk):=by
 kernel_rfl
theorem l61_5 (q:YF) (a:D77) (kk:PK S):K61_5 a (P61 q kk)=b61_5 q a:=by
 kernel_rfl
theorem l61_in (q:YF) (a:D77) (kk:PK S):BG q kk 61 Tryz.f61 [ag (e77 a)]=e61_in q a (K61_0 a kk):=by
 kernel_rfl
theorem h61 (q:YF) (a:D77):∀ n,K61_0 a (H61 q n)=D61_0 (X61n q a n)∧K61_1 a (H61 q n)=D61_1 (X61n q a n)∧K61_2 a (H61 q n)=D61_2 (X61n q a n)∧K61_3 a (H61 q n)=D61_3 (X61n q a n)∧K61_4 a (H61 q n)=D61_4 (X61n q a n)∧K61_5 a (H61 q n)=D61_5 (X61n q a n)
 | 0=>⟨rfl,rfl,rfl,rfl,rfl,rfl⟩
 | n+1=>by
  obtain ⟨h0,h1,h2,h3,h4,h5⟩:=h61 q a n
  exact ⟨(l61_0 q a (H61 q n)).trans (by rw [h1];kernel_rfl),(l61_1 q a (H61 q n)).trans (by rw [h2];kernel_rfl),(l61_2 q a (H61 q n)).trans (by rw [h3];kernel_rfl),(l61_3 q a (H61 q n)).trans (by rw [h4];kernel_rfl),(l61_4 q a (H61 q n)).trans (by rw [h5];kernel_rfl),(l61_5 q a (H61 q n)).trans (by kernel_rfl)⟩
theorem W61 (a:D77) (n:Nat) (x:S) (h:e61_in (regs O) a (D61_0 (X61n (regs O) a n))=some x):(W O).callT 61 [ag (e77 a)]=some x:=by
 refine WG (fn:=Tryz.f61) (by kernel_rfl) (by kernel_rfl) (n:=n) ?_
 refine (l61_in (regs O) a (H61 (regs O) n)).trans ?_
 obtain ⟨h0,h1,h2,h3,h4,h5⟩:=h61 (regs O) a n
 rw [h0]
 exact h
abbrev P62 (q:YF) (kk:PK S):PK S:=PG q 62 Tryz.f62 kk
abbrev H62 (q:YF):Nat→PK S:=HG q 62 Tryz.f62
def s62_0 (a:D52) (v0 v1 v2 v3:Int) (v4 u5:Bool) (u6 u7 u8:S) (u9:Bool):St:=mkSt [(0,ag (e52 a)),(32,u6),(16,S.sl 15 5),(8,S.ptr 0 3),(24,ii v0),(4,ss a.fName),(20,ii a.fPrice),(12,ss a.fOffer_Zone),(28,S.ptr 0 10),(2,ii 0),(34,u7),(18,ii v1),(10,S.ptr 0 3),(26,S.t (T.rows 3 a.fOpts.n fun i=>e47 (a.fOpts.get i))),(6,ss a.fPool),(22,S.ptr 0 7),(14,S.ptr 0 5),(30,bb (geI a.fTry 1)),(1,S.ptr 0 0),(33,u8),(17,bb u5),(9,ss a.fOffer_Type),(25,S.ptr 0 9),(5,S.ptr 0 1),(21,ii v2),(13,S.ptr 0 3),(29,ii a.fTry),(3,S.ptr 0 0),(35,bb v4),(19,S.ptr 0 6),(11,S.ptr 0 4),(27,ii v3),(7,S.ptr 0 3),(23,S.agg [ii a.fCap_0,ii a.fCap_1]),(15,ss a.fOffer_Kind),(31,bb u9)] 63 [(0,B.box (List.map S.t (e52 a))),(15,B.lst false 1 5 [ss a.fName,ss a.fPool,ss a.fOffer_Type,ss a.fOffer_Zone,ss a.fOffer_Kind])]
abbrev T62_0:Type:=Int→Int→Int→Int→Bool→Bool→S→S→S→Bool→OS
def K62_0 (a:D52) (kk:PK S):T62_0:=fun v0 v1 v2 v3 v4 u5 u6 u7 u8 u9=> kk 1 34 2 (s62_0 a v0 v1 v2 v3 v4 u5 u6 u7 u8 u9)
def s62_1 (a:D52) (v0 v1 v2 v3 v4 v5:Int) (v6:Bool) (u7 u8 u9:S) (u10 u11 u12:Bool) (u13 u14:S) (u15:Bool) (u16:S):St:=mkSt [(0,ag (e52 a)),(32,u7),(16,S.sl 15 5),(48,u13),(8,S.ptr 0 3),(40,bb (leI (sizeS a.fId) 16)),(24,ii v0),(4,ss a.fName),(36,ii v1),(20,ii a.fPrice),(12,ss a.fOffer_Zone),(44,bb (geI a.fPhase 1)),(28,S.ptr 0 10),(2,ii 0),(34,u8),(18,ii v2),(10,S.ptr 0 3),(42,S.ptr 0 12),(26,S.t (T.rows 3 a.fOpts.n fun i=>e47 (a.fOpts.get i))),(6,ss a.fPool),(38,ss a.fId),(22,S.ptr 0 7),(14,S.ptr 0 5),(46,u14),(30,bb (geI a.fTry 1)),(1,S.ptr 0 0),(33,u9),(17,bb u10),(49,bb v6),(9,ss a.fOffer_Type),(41,ii v3),(25,S.ptr 0 9),(5,S.ptr 0 1),(37,S.ptr 0 11),(21,ii v4),(13,S.ptr 0 3),(45,bb u15),(29,ii a.fTry),(3,S.ptr 0 0),(35,bb u11),(19,S.ptr 0 6),(11,S.ptr 0 4),(43,ii a.fPhase),(27,ii v5),(7,S.ptr 0 3),(39,ii (sizeS a.fId)),(23,S.agg [ii a.fCap_0,ii a.fCap_1]),(15,ss a.fOffer_Kind),(47,u16),(31,bb u12)] 63 [(0,B.box (List.map S.t (e52 a))),(15,B.lst false 1 5 [ss a.fName,ss a.fPool,ss a.fOffer_Type,ss a.fOffer_Zone,ss a.fOffer_Kind])]
abbrev T62_1:Type:=Int→Int→Int→Int→Int→Int→Bool→S→S→S→Bool→Bool→Bool→S→S→Bool→S→OS
def K62_1 (a:D52) (kk:PK S):T62_1:=fun v0 v1 v2 v3 v4 v5 v6 u7 u8 u9 u10 u11 u12 u13 u14 u15 u16=> kk 1 48 2 (s62_1 a v0 v1 v2 v3 v4 v5 v6 u7 u8 u9 u10 u11 u12 u13 u14 u15 u16)
def s62_2 (a:D52) (v0 v1 v2 v3 v4 v5:Int) (v6:Bool) (u7 u8 u9 u10 u11:S) (u12 u13 u14 u15:Bool) (u16:S) (u17:Bool) (u18:S) (u19:Bool) (u20 u21:S):St:=mkSt [(0,ag (e52 a)),(32,u7),(16,S.sl 15 5),(48,u8),(8,S.ptr 0 3),(40,bb (leI (sizeS a.fId) 16)),(24,ii v0),(4,ss a.fName),(36,ii v1),(20,ii a.fPrice),(52,u18),(12,ss a.fOffer_Zone),(44,bb (geI a.fPhase 1)),(28,S.ptr 0 10),(2,ii 0),(34,u9),(18,ii v2),(50,bb u19),(10,S.ptr 0 3),(42,S.ptr 0 12),(26,S.t (T.rows 3 a.fOpts.n fun i=>e47 (a.fOpts.get i))),(6,ss a.fPool),(38,ss a.fId),(22,S.ptr 0 7),(54,bb v6),(14,S.ptr 0 5),(46,u10),(30,bb (geI a.fTry 1)),(1,S.ptr 0 0),(33,u11),(17,bb u12),(49,bb u13),(9,ss a.fOffer_Type),(41,ii v3),(25,S.ptr 0 9),(5,S.ptr 0 1),(37,S.ptr 0 11),(21,ii v4),(53,u20),(13,S.ptr 0 3),(45,bb u14),(29,ii a.fTry),(3,S.ptr 0 0),(35,bb u15),(19,S.ptr 0 6),(51,u21),(11,S.ptr 0 4),(43,ii a.fPhase),(27,ii v5),(7,S.ptr 0 3),(39,ii (sizeS a.fId)),(23,S.agg [ii a.fCap_0,ii a.fCap_1]),(15,ss a.fOffer_Kind),(47,u16),(31,bb u17)] 63 [(0,B.box (List.map S.t (e52 a))),(15,B.lst false 1 5 [ss a.fName,ss a.fPool,ss a.fOffer_Type,ss a.fOffer_Zone,ss a.fOffer_Kind])]
abbrev T62_2:Type:=Int→Int→Int→Int→Int→Int→Bool→S→S→S→S→S→Bool→Bool→Bool→Bool→S→Bool→S→Bool→S→S→OS
def K62_2 (a:D52) (kk:PK S):T62_2:=fun v0 v1 v2 v3 v4 v5 v6 u7 u8 u9 u10 u11 u12 u13 u14 u15 u16 u17 u18 u19 u20 u21=> kk 1 53 2 (s62_2 a v0 v1 v2 v3 v4 v5 v6 u7 u8 u9 u10 u11 u12 u13 u14 u15 u16 u17 u18 u19 u20 u21)
def s62_3 (a:D52) (v0 v1 v2 v3 v4 v5:Int) (v6:Bool) (u7 u8 u9 u10:S) (u11 u12:Bool) (u13 u14:S) (u15 u16:Bool) (u17:S) (u18 u19:Bool) (u20 u21:S) (u22:Bool) (u23 u24 u25:S) (u26:Bool):St:=mkSt [(0,ag (e52 a)),(32,u7),(16,S.sl 15 5),(48,u8),(8,S.ptr 0 3),(40,bb (leI (sizeS a.fId) 16)),(24,ii v0),(56,u23),(4,ss a.fName),(36,ii v1),(20,ii a.fPrice),(52,u9),(12,ss a.fOffer_Zone),(44,bb (geI a.fPhase 1)),(28,S.ptr 0 10),(2,ii 0),(34,u10),(18,ii v2),(50,bb u11),(10,S.ptr 0 3),(42,S.ptr 0 12),(26,S.t (T.rows 3 a.fOpts.n fun i=>e47 (a.fOpts.get i))),(58,u24),(6,ss a.fPool),(38,ss a.fId),(22,S.ptr 0 7),(54,bb u12),(14,S.ptr 0 5),(46,u13),(30,bb (geI a.fTry 1)),(1,S.ptr 0 0),(33,u14),(17,bb u15),(49,bb u16),(9,ss a.fOffer_Type),(41,ii v3),(25,S.ptr 0 9),(57,u25),(5,S.ptr 0 1),(37,S.ptr 0 11),(21,ii v4),(53,u17),(13,S.ptr 0 3),(45,bb u18),(29,ii a.fTry),(3,S.ptr 0 0),(35,bb u19),(19,S.ptr 0 6),(51,u20),(11,S.ptr 0 4),(43,ii a.fPhase),(27,ii v5),(59,bb v6),(7,S.ptr 0 3),(39,ii (sizeS a.fId)),(23,S.agg [ii a.fCap_0,ii a.fCap_1]),(55,bb u26),(15,ss a.fOffer_Kind),(47,u21),(31,bb u22)] 63 [(0,B.box (List.map S.t (e52 a))),(15,B.lst false 1 5 [ss a.fName,ss a.fPool,ss a.fOffer_Type,ss a.fOffer_Zone,ss a.fOffer_Kind])]
abbrev T62_3:Type:=Int→Int→Int→Int→Int→Int→Bool→S→S→S→S→Bool→Bool→S→S→Bool→Bool→S→Bool→Bool→S→S→Bool→S→S→S→Bool→OS
def K62_3 (a:D52) (kk:PK S):T62_3:=fun v0 v1 v2 v3 v4 v5 v6 u7 u8 u9 u10 u11 u12 u13 u14 u15 u16 u17 u18 u19 u20 u21 u22 u23 u24 u25 u26=> kk 1 58 2 (s62_3 a v0 v1 v2 v3 v4 v5 v6 u7 u8 u9 u10 u11 u12 u13 u14 u15 u16 u17 u18 u19 u20 u21 u22 u23 u24 u25 u26)
def b62_0 (q:YF) (a:D52) (k1:T62_1) (v0 v1 v2 v3:Int) (v4 u5:Bool) (u6 u7 u8:S) (u9:Bool):OS:=yC q 108 [bb v4,ii 1] fun y=>yC q 108 [bb (leI (sizeS a.fId) 16),ii 2] fun y_1=>bif geI a.fPhase 1 then k1 v0 (y.i 0) v1 (y_1.i 0) v2 v3 (leI a.fPhase 4) u6 u7 u8 u5 v4 u9 (bb (leI a.fPhase 4)) (S.ptr 0 12) true (ii a.fPhase) else k1 v0 (y.i 0) v1 (y_1.i 0) v2 v3 false u6 u7 u8 u5 v4 u9 S.ud S.ud false S.ud
def b62_1 (q:YF) (a:D52) (k2:T62_2) (v0 v1 v2 v3 v4 v5:Int) (v6:Bool) (u7 u8 u9:S) (u10 u11 u12:Bool) (u13 u14:S) (u15:Bool) (u16:S):OS:=bif v6 then yC q 112 [ii a.fGen,ii 0,ii 1099511627776] fun y=>k2 v0 v1 v2 v3 v4 v5 (y.b 0) u7 u13 u8 u14 u9 u10 v6 u15 u11 u16 u12 (ii a.fGen) true (bb (y.b 0)) (S.ptr 0 2) else k2 v0 v1 v2 v3 v4 v5 false u7 u13 u8 u14 u9 u10 v6 u15 u11 u16 u12 S.ud false S.ud S.ud
def b62_2 (q:YF) (a:D52) (k3:T62_3) (v0 v1 v2 v3 v4 v5:Int) (v6:Bool) (u7 u8 u9 u10 u11:S) (u12 u13 u14 u15:Bool) (u16:S) (u17:Bool) (u18:S) (u19:Bool) (u20 u21:S):OS:=bif v6 then yC q 112 [ii a.fBorn,ii 0,ii 1099511627776] fun y=>k3 v0 v1 v2 v3 v4 v5 (y.b 0) u7 u8 u18 u9 u19 v6 u10 u11 u12 u13 u20 u14 u15 u21 u16 u17 (S.ptr 0 13) (bb (y.b 0)) (ii a.fBorn) true else k3 v0 v1 v2 v3 v4 v5 false u7 u8 u18 u9 u19 v6 u10 u11 u12 u13 u20 u14 u15 u21 u16 u17 S.ud S.ud S.ud false
def b62_3 (q:YF) (a:D52) (v0 v1 v2 v3 v4 v5:Int) (v6:Bool) (u7 u8 u9 u10:S) (u11 u12:Bool) (u13 u14:S) (u15 u16:Bool) (u17:S) (u18 u19:Bool) (u20 u21:S) (u22:Bool) (u23 u24 u25:S) (u26:Bool):OS:=yC q 108 [bb v6,ii 1] fun y=>yC q 107 [S.t (T.rows 1 7 fun i=>List.take 1 (List.drop (↑i*1) [ti v2,ti v4,ti v0,ti v5,ti v1,ti v3,ti (y.i 0)]))] fun y=>some (ii (y.i 0))
def e62_in (q:YF) (a:D52) (k0:T62_0):OS:=yC q 109 [S.t (T.rows 1 5 fun i=>List.take 1 (List.drop (↑i*1) [ts a.fName,ts a.fPool,ts a.fOffer_Type,ts a.fOffer_Zone,ts a.fOffer_Kind]))] fun y=>yC q 108 [bb (y.b 0),ii 7] fun y_1=>yC q 113 [ii a.fPrice] fun y_2=>yC q 102 [S.agg [ii a.fCap_0,ii a.fCap_1]] fun y_3=>yC q 114 [S.t (T.rows 3 a.fOpts.n fun i=>e47 (a.fOpts.get i))] fun y_4=>bif geI a.fTry 1 then k0 (y_3.i 0) (y_1.i 0) (y_2.i 0) (y_4.i 0) (leI a.fTry 32) (y.b 0) (S.ptr 0 10) (bb (leI a.fTry 32)) (ii a.fTry) true else k0 (y_3.i 0) (y_1.i 0) (y_2.i 0) (y_4.i 0) false (y.b 0) S.ud S.ud S.ud false
structure X62 where
 x0:Int→Int→Int→Int→Bool→OS
 x1:Int→Int→Int→Int→Int→Int→Bool→OS
 x2:Int→Int→Int→Int→Int→Int→Bool→OS
 x3:Int→Int→Int→Int→Int→Int→Bool→OS
def D62_0 (X:X62):T62_0:=fun v0 v1 v2 v3 v4 _ _ _ _ _=>X.x0 v0 v1 v2 v3 v4
def D62_1 (X:X62):T62_1:=fun v0 v1 v2 v3 v4 v5 v6 _ _ _ _ _ _ _ _ _ _=>X.x1 v0 v1 v2 v3 v4 v5 v6
def D62_2 (X:X62):T62_2:=fun v0 v1 v2 v3 v4 v5 v6 _ _ _ _ _ _ _ _ _ _ _ _ _ _ _=>X.x2 v0 v1 v2 v3 v4 v5 v6
def D62_3 (X:X62):T62_3:=fun v0 v1 v2 v3 v4 v5 v6 _ _ _ _ _ _ _ _ _ _ _ _ _ _ _ _ _ _ _ _=>X.x3 v0 v1 v2 v3 v4 v5 v6
def X62s (q:YF) (a:D52) (X:X62):X62:=⟨fun v0 v1 v2 v3 v4=>b62_0 q a (D62_1 X) v0 v1 v2 v3 v4 dd dd dd dd dd,
 fun v0 v1 v2 v3 v4 v5 v6=>b62_1 q a (D62_2 X) v0 v1 v2 v3 v4 v5 v6 dd dd dd dd dd dd dd dd dd dd,
 fun v0 v1 v2 v3 v4 v5 v6=>b62_2 q a (D62_3 X) v0 v1 v2 v3 v4 v5 v6 dd dd dd dd dd dd dd dd dd dd dd dd dd dd dd,
 fun v0 v1 v2 v3 v4 v5 v6=>b62_3 q a v0 v1 v2 v3 v4 v5 v6 dd dd dd dd dd dd dd dd dd dd dd dd dd dd dd dd dd dd dd dd⟩
def X62n (q:YF) (a:D52):Nat→X62
 | 0=>⟨fun _ _ _ _ _=>none,fun _ _ _ _ _ _ _=>none,fun _ _ _ _ _ _ _=>none,fun _ _ _ _ _ _ _=>none⟩
 | n+1=>X62s q a (X62n q a n)
theorem l62_0 (q:YF) (a:D52) (kk:PK S):K62_0 a (P62 q kk)=b62_0 q a (K62_1 a kk):=by
 kernel_rfl
theorem l62_1 (q:YF) (a:D52) (kk:PK S):K62_1 a (P62 q kk)=b62_1 q a (K62_2 a kk):=by
 kernel_rfl
theorem l62_2 (q:YF) (a:D52) (kk:PK S):K62_2 a (P62 q kk)=b62_2 q a (K62_3 a kk):=by
 kernel_rfl
theorem l62_3 (q:YF) (a:D52) (kk:PK S):K62_3 a (P62 q kk)=b62_3 q a:=by
 kernel_rfl
theorem l62_in (q:YF) (a:D52) (kk:PK S):BG q kk 62 Tryz.f62 [ag (e52 a)]=e62_in q a (K62_0 a kk):=by
 kernel_rfl
theorem h62 (q:YF) (a:D52):∀ n,K62_0 a (H62 q n)=D62_0 (X62n q a n)∧K62_1 a (H62 q n)=D62_1 (X62n q a n)∧K62_2 a (H62 q n)=D62_2 (X62n q a n)∧K62_3 a (H62 q n)=D62_3 (X62n q a n)
 | 0=>⟨rfl,rfl,rfl,rfl⟩
 | n+1=>by
  obtain ⟨h0,h1,h2,h3⟩:=h62 q a n
  exact ⟨(l62_0 q a (H62 q n)).trans (by rw [h1];kernel_rfl),(l62_1 q a (H62 q n)).trans (by rw [h2];kernel_rfl),(l62_2 q a (H62 q n)).trans (by rw [h3];kernel_rfl),(l62_3 q a (H62 q n)).trans (by kernel_rfl)⟩
theorem W62 (a:D52) (n:Nat) (x:S) (h:e62_in (regs O) a (D62_0 (X62n (regs O) a n))=some x):(W O).callT 62 [ag (e52 a)]=some x:=by
 refine WG (fn:=Tryz.f62) (by kernel_rfl) (by kernel_rfl) (n:=n) ?_
 refine (l62_in (regs O) a (H62 (regs O) n)).trans ?_
 obtain ⟨h0,h1,h2,h3⟩:=h62 (regs O) a n
 rw [h0]
 exact h
abbrev H63 (q:YF):Nat→PK S:=HG q 63 Tryz.f63
def e63_in (q:YF) (a:Rw D112) (b:D47):OS:=yC q 83 [S.t (T.rows 7 a.n fun i=>e112 (a.get i))] fun y=>lookW O.P O.K 47 141 (y.m 0) (ag (e47 b)) (fun y=>yC q 115 [S.agg [ii (y.i 1),ii (y.i 2)],S.agg [ii (y.i 3),ii (y.i 4)]] fun y=>some (S.tup [S.agg [ii (y.i 0),ii (y.i 1)],bb true])) (yC q 115 [S.agg [ii 0,ii 0],S.agg [ii 0,ii 0]] fun y=>some (S.tup [S.agg [ii (y.i 0),ii (y.i 1)],bb false]))
theorem l63_in (q:YF) (a:Rw D112) (b:D47) (kk:PK S):BG q kk 63 Tryz.f63 [S.t (T.rows 7 a.n fun i=>e112 (a.get i)),ag (e47 b)]=e63_in q a b:=by
 kernel_rfl
theorem W63 (a:Rw D112) (b:D47) (n:Nat) (x:S) (h:e63_in (regs O) a b=some x):(W O).callT 63 [S.t (T.rows 7 a.n fun i=>e112 (a.get i)),ag (e47 b)]=some x:=by
 refine WG (fn:=Tryz.f63) (by kernel_rfl) (by kernel_rfl) (n:=n) ?_
 refine (l63_in (regs O) a b (H63 (regs O) n)).trans ?_
 exact h
abbrev H64 (q:YF):Nat→PK S:=HG q 64 Tryz.f64
def e64_in (q:YF) (a:D33) (b:BA):OS:=yC q 116 [S.t (T.rows 10 a.fPools.n fun i=>e77 (a.fPools.get i)),S.fn (Go.Fn.func 117) [] [S.pt [ts b]]] fun y=>some (bb (y.b 0))
theorem l64_in (q:YF) (a:D33) (b:BA) (kk:PK S):BG q kk 64 Tryz.f64 [ag (e33 a),ss b]=e64_in q a b:=by
 kernel_rfl
theorem W64 (a:D33) (b:BA) (n:Nat) (x:S) (h:e64_in (regs O) a b=some x):(W O).callT 64 [ag (e33 a),ss b]=some x:=by
 refine WG (fn:=Tryz.f64) (by kernel_rfl) (by kernel_rfl) (n:=n) ?_
 refine (l64_in (regs O) a b (H64 (regs O) n)).trans ?_
 exact h
abbrev H65 (q:YF):Nat→PK S:=HG q 65 Tryz.f65
def e65_in (q:YF) (a:D33) (b:Rw D47):OS:=yC q 118 [S.t (T.rows 3 b.n fun i=>e47 (b.get i)),S.fn (Go.Fn.func 119) [] [S.pt (e33 a)]] fun y=>some (S.t (T.v (.bool !y.b 0)))
theorem l65_in (q:YF) (a:D33) (b:Rw D47) (kk:PK S):BG q kk 65 Tryz.f65 [ag (e33 a),S.t (T.rows 3 b.n fun i=>e47 (b.get i))]=e65_in q a b:=by
 kernel_rfl
theorem W65 (a:D33) (b:Rw D47) (n:Nat) (x:S) (h:e65_in (regs O) a b=some x):(W O).callT 65 [ag (e33 a),S.t (T.rows 3 b.n fun i=>e47 (b.get i))]=some x:=by
 refine WG (fn:=Tryz.f65) (by kernel_rfl) (by kernel_rfl) (n:=n) ?_
 refine (l65_in (regs O) a b (H65 (regs O) n)).trans ?_
 exact h
abbrev P66 (q:YF) (kk:PK S):PK S:=PG q 66 Tryz.f66 kk
abbrev H66 (q:YF):Nat→PK S:=HG q 66 Tryz.f66
def s66_0 (a:D61) (v0 v1:Int) (v2 u3 u4:Bool) (u5 u6 u7:S):St:=mkSt [(0,ag (e61 a)),(16,bb u4),(8,bb u3),(4,ss a.fName),(20,bb v2),(12,ii v0),(2,ii 0),(18,u5),(10,S.ptr 0 2),(6,ss a.fApp),(14,ii a.fPrio),(1,S.ptr 0 0),(17,u6),(9,ii v1),(5,S.ptr 0 1),(13,S.ptr 0 4),(3,S.ptr 0 0),(19,u7),(11,S.agg [ii a.fNeed_0,ii a.fNeed_1]),(7,S.sl 6 2),(15,bb (geI a.fPrio (Int.negSucc 999)))] 40 [(0,B.box (List.map S.t (e61 a))),(6,B.lst false 1 2 [ss a.fName,ss a.fApp])]
abbrev T66_0:Type:=Int→Int→Bool→Bool→Bool→S→S→S→OS
def K66_0 (a:D61) (kk:PK S):T66_0:=fun v0 v1 v2 u3 u4 u5 u6 u7=> kk 1 19 2 (s66_0 a v0 v1 v2 u3 u4 u5 u6 u7)
def b66_0 (q:YF) (a:D61) (v0 v1:Int) (v2 u3 u4:Bool) (u5 u6 u7:S):OS:=yC q 108 [bb v2,ii 1] fun y=>yC q 110 [S.t (T.rows 4 a.fReqs.n fun i=>e68 (a.fReqs.get i))] fun y_1=>yC q 120 [S.t (T.rows 3 a.fTols.n fun i=>e160 (a.fTols.get i))] fun y_2=>yC q 121 [ag (e61 a)] fun y_3=>yC q 112 [ii a.fSince,ii 0,ii 1099511627776] fun y_4=>yC q 108 [bb (y_4.b 0),ii 1] fun y_5=>yC q 122 [ss a.fOn] fun y_6=>yC q 108 [bb (y_6.b 0),ii 7] fun y_7=>yC q 107 [S.t (T.rows 1 8 fun i=>List.take 1 (List.drop (↑i*1) [ti v1,ti v0,ti (y.i 0),ti (y_1.i 0),ti (y_2.i 0),ti (y_3.i 0),ti (y_5.i 0),ti (y_7.i 0)]))] fun y=>some (ii (y.i 0))
def e66_in (q:YF) (a:D61) (k0:T66_0):OS:=yC q 109 [S.t (T.rows 1 2 fun i=>List.take 1 (List.drop (↑i*1) [ts a.fName,ts a.fApp]))] fun y=>yC q 108 [bb (y.b 0),ii 7] fun y_1=>yC q 102 [S.agg [ii a.fNeed_0,ii a.fNeed_1]] fun y_2=>bif geI a.fPrio (Int.negSucc 999) then k0 (y_2.i 0) (y_1.i 0) (leI a.fPrio 1000) (y.b 0) true (ii a.fPrio) (S.ptr 0 4) (bb (leI a.fPrio 1000)) else k0 (y_2.i 0) (y_1.i 0) false (y.b 0) false S.ud S.ud S.ud
structure X66 where
 x0:Int→Int→Bool→OS
def D66_0 (X:X66):T66_0:=fun v0 v1 v2 _ _ _ _ _=>X.x0 v0 v1 v2
def X66s (q:YF) (a:D61) (X:X66):X66:=⟨fun v0 v1 v2=>b66_0 q a v0 v1 v2 dd dd dd dd dd⟩
def X66n (q:YF) (a:D61):Nat→X66
 | 0=>⟨fun _ _ _=>none⟩
 | n+1=>X66s q a (X66n q a n)
theorem l66_0 (q:YF) (a:D61) (kk:PK S):K66_0 a (P66 q kk)=b66_0 q a:=by
 kernel_rfl
theorem l66_in (q:YF) (a:D61) (kk:PK S):BG q kk 66 Tryz.f66 [ag (e61 a)]=e66_in q a (K66_0 a kk):=by
 kernel_rfl
theorem h66 (q:YF) (a:D61):∀ n,K66_0 a (H66 q n)=D66_0 (X66n q a n)
 | 0=>rfl
 | n+1=>by
  have h0:=h66 q a n
  exact (l66_0 q a (H66 q n)).trans (by kernel_rfl)
theorem W66 (a:D61) (n:Nat) (x:S) (h:e66_in (regs O) a (D66_0 (X66n (regs O) a n))=some x):(W O).callT 66 [ag (e61 a)]=some x:=by
 refine WG (fn:=Tryz.f66) (by kernel_rfl) (by kernel_rfl) (n:=n) ?_
 refine (l66_in (regs O) a (H66 (regs O) n)).trans ?_
 have h0:=h66 (regs O) a n
 rw [h0]
 exact h
abbrev H67 (q:YF):Nat→PK S:=HG q 67 Tryz.f67
def e67_in (q:YF) (a:D33) (b:BA):OS:=yC q 123 [S.t (T.rows 15 a.fClaims.n fun i=>e52 (a.fClaims.get i)),S.fn (Go.Fn.func 124) [] [S.pt [ts b]]] fun y=>some (bb (y.b 0))
theorem l67_in (q:YF) (a:D33) (b:BA) (kk:PK S):BG q kk 67 Tryz.f67 [ag (e33 a),ss b]=e67_in q a b:=by
 kernel_rfl
theorem W67 (a:D33) (b:BA) (n:Nat) (x:S) (h:e67_in (regs O) a b=some x):(W O).callT 67 [ag (e33 a),ss b]=some x:=by
 refine WG (fn:=Tryz.f67) (by kernel_rfl) (by kernel_rfl) (n:=n) ?_
 refine (l67_in (regs O) a b (H67 (regs O) n)).trans ?_
 exact h
abbrev P68 (q:YF) (kk:PK S):PK S:=PG q 68 Tryz.f68 kk
abbrev H68 (q:YF):Nat→PK S:=HG q 68 Tryz.f68
def s68_0 (a:D122) (v0:Bool) (u1 u2:S) (u3:Bool) (u4:S):St:=mkSt [(0,ag (e122 a)),(8,bb (geI a.fCause 1)),(12,u1),(2,ii 0),(10,u2),(6,S.ptr 0 0),(1,S.ptr 0 0),(9,bb u3),(13,bb v0),(11,u4),(7,ii a.fCause)] 34 [(0,B.box (List.map S.t (e122 a)))]
abbrev T68_0:Type:=Bool→S→S→Bool→S→OS
def K68_0 (a:D122) (kk:PK S):T68_0:=fun v0 u1 u2 u3 u4=> kk 1 9 2 (s68_0 a v0 u1 u2 u3 u4)
def s68_1 (a:D122) (v0:Bool) (u1 u2:S) (u3 u4:Bool) (u5 u6:S) (u7:Bool) (u8 u9:S):St:=mkSt [(0,ag (e122 a)),(16,u6),(8,bb (geI a.fCause 1)),(12,u1),(2,ii 0),(18,bb v0),(10,u2),(6,S.ptr 0 0),(14,bb u7),(1,S.ptr 0 0),(17,u8),(9,bb u3),(13,bb u4),(11,u5),(7,ii a.fCause),(15,u9)] 34 [(0,B.box (List.map S.t (e122 a)))]
abbrev T68_1:Type:=Bool→S→S→Bool→Bool→S→S→Bool→S→S→OS
def K68_1 (a:D122) (kk:PK S):T68_1:=fun v0 u1 u2 u3 u4 u5 u6 u7 u8 u9=> kk 1 14 2 (s68_1 a v0 u1 u2 u3 u4 u5 u6 u7 u8 u9)
def s68_2 (a:D122) (v0:Bool) (u1 u2:S) (u3:Bool) (u4:S) (u5:Bool) (u6:S) (u7 u8:Bool) (u9 u10 u11 u12 u13:S) (u14:Bool):St:=mkSt [(0,ag (e122 a)),(16,u1),(8,bb (geI a.fCause 1)),(20,u11),(12,u2),(2,ii 0),(18,bb u3),(10,u4),(6,S.ptr 0 0),(22,u12),(14,bb u5),(1,S.ptr 0 0),(17,u6),(9,bb u7),(21,u13),(13,bb u8),(19,bb u14),(11,u9),(7,ii a.fCause),(23,bb v0),(15,u10)] 34 [(0,B.box (List.map S.t (e122 a)))]
abbrev T68_2:Type:=Bool→S→S→Bool→S→Bool→S→Bool→Bool→S→S→S→S→S→Bool→OS
def K68_2 (a:D122) (kk:PK S):T68_2:=fun v0 u1 u2 u3 u4 u5 u6 u7 u8 u9 u10 u11 u12 u13 u14=> kk 1 19 2 (s68_2 a v0 u1 u2 u3 u4 u5 u6 u7 u8 u9 u10 u11 u12 u13 u14)
def s68_3 (a:D122) (v0 v1:Int):St:=mkSt [(40,ii v1),(38,S.t (T.rows 1 a.fNodes.n fun i=>[ts (a.fNodes.get i)])),(1,S.ptr 0 0),(3,ii v0),(39,ii (ofN a.fNodes.n))] 1 [(0,B.box (List.map S.t (e122 a)))]
def K68_3 (a:D122) (kk:PK S):Int→Int→OS:=fun v0 v1=> kk 3 0 0 (s68_3 a v0 v1)
def s68_4 (a:D122) (v0 v1:Int) (v2:Bool) (u3:Int) (u4 u5 u6:Bool) (u7 u8 u9:S):St:=mkSt [(80,bb v2),(72,ii v0),(68,ii v1),(76,bb u6),(74,ss a.fFresh),(70,ii a.fUntil),(78,u7),(1,S.ptr 0 0),(73,S.ptr 0 4),(69,S.ptr 0 3),(77,u8),(3,ii u3),(75,bb u4),(71,bb u5),(79,u9)] 21 [(0,B.box (List.map S.t (e122 a)))]
abbrev T68_4:Type:=Int→Int→Bool→Int→Bool→Bool→Bool→S→S→S→OS
def K68_4 (a:D122) (kk:PK S):T68_4:=fun v0 v1 v2 u3 u4 u5 u6 u7 u8 u9=> kk 9 14 1 (s68_4 a v0 v1 v2 u3 u4 u5 u6 u7 u8 u9)
def s68_5 (a:D122) (v0 v1:Int) (v2:Bool) (u3 u4:BA) (u5 u6:Bool) (u7:BA) (u8 u9:Int) (u10 u11:BA) (u12:S) (u13 u14:Int) (u15:S) (u16:Int) (u17:S) (u18:Bool) (u19:S) (u20:Bool) (u21:S) (u22:Bool) (u23 u24 u25:S):St:=mkSt [(48,ss u3),(40,ii v1),(56,u12),(4,ii u13),(52,ii u14),(44,ss u4),(60,u15),(50,bb u5),(42,ii u16),(58,u17),(38,S.t (T.rows 1 a.fNodes.n fun i=>[ts (a.fNodes.get i)])),(54,bb u18),(46,bb u6),(62,u19),(1,S.ptr 0 0),(49,S.sl 10 1),(41,bb u20),(57,u21),(5,ss u7),(53,bb u22),(45,ii u8),(61,u23),(3,ii u9),(51,ii v0),(43,S.pt [ts u10]),(59,u24),(39,ii (ofN a.fNodes.n)),(55,u25),(63,bb v2)] 29 [(0,B.box (List.map S.t (e122 a))),(10,B.lst false 1 1 [ss u11])]
abbrev T68_5:Type:=Int→Int→Bool→BA→BA→Bool→Bool→BA→Int→Int→BA→BA→S→Int→Int→S→Int→S→Bool→S→Bool→S→Bool→S→S→S→OS
def K68_5 (a:D122) (kk:PK S):T68_5:=fun v0 v1 v2 u3 u4 u5 u6 u7 u8 u9 u10 u11 u12 u13 u14 u15 u16 u17 u18 u19 u20 u21 u22 u23 u24 u25=> kk 7 17 9 (s68_5 a v0 v1 v2 u3 u4 u5 u6 u7 u8 u9 u10 u11 u12 u13 u14 u15 u16 u17 u18 u19 u20 u21 u22 u23 u24 u25)
def b68_0 (q:YF) (a:D122) (k1:T68_1) (v0:Bool) (u1 u2:S) (u3:Bool) (u4:S):OS:=bif v0 then k1 (geI a.fStep 1) u1 u2 u3 v0 u4 (ii a.fStep) true (bb (geI a.fStep 1)) (S.ptr 0 2) else k1 false u1 u2 u3 v0 u4 S.ud false S.ud S.ud
def b68_1 (q:YF) (a:D122) (k2:T68_2) (v0:Bool) (u1 u2:S) (u3 u4:Bool) (u5 u6:S) (u7:Bool) (u8 u9:S):OS:=bif v0 then k2 (leI a.fStep 3) u6 u1 v0 u2 u7 u8 u3 u4 u5 u9 (S.ptr 0 2) (bb (leI a.fStep 3)) (ii a.fStep) true else k2 false u6 u1 v0 u2 u7 u8 u3 u4 u5 u9 S.ud S.ud S.ud false
def b68_2 (q:YF) (a:D122) (k3:Int→Int→OS) (v0:Bool) (u1 u2:S) (u3:Bool) (u4:S) (u5:Bool) (u6:S) (u7 u8:Bool) (u9 u10 u11 u12 u13:S) (u14:Bool):OS:=yC q 108 [bb v0,ii 1] fun y=>yC q 108 [bb (leI (ofN a.fNodes.n) 4),ii 3] fun y_1=>yC q 108 [bb (gtI (ofN a.fNodes.n) 0),ii 1] fun y_2=>yC q 107 [S.t (T.rows 1 3 fun i=>List.take 1 (List.drop (↑i*1) [ti (y.i 0),ti (y_1.i 0),ti (y_2.i 0)]))] fun y=>k3 (y.i 0) 0
def b68_3 (q:YF) (a:D122) (k4:T68_4) (k5:T68_5) (v0 v1:Int):OS:=bif ltI v1 (ofN a.fNodes.n) then elemO v1 a.fNodes.n fun h=>bif !eqI v0 0 then some (ii v0) else yC q 109 [S.t (T.rows 1 1 fun i=>List.take 1 (List.drop (↑i*1) [ts (a.fNodes.get (Fin.mk v1.toNat h))]))] fun y=>yC q 108 [bb (y.b 0),ii 7] fun y_1=>bif eqI v1 0 then k5 (y_1.i 0) v1 true (a.fNodes.get (Fin.mk v1.toNat h)) (a.fNodes.get (Fin.mk v1.toNat h)) (y.b 0) (!eqI v0 0) (a.fNodes.get (Fin.mk v1.toNat h)) v0 v0 (a.fNodes.get (Fin.mk v1.toNat h)) (a.fNodes.get (Fin.mk v1.toNat h)) S.ud v1 v1 S.ud v1 S.ud true S.ud (ltI v1 (ofN a.fNodes.n)) S.ud (eqI v1 0) S.ud S.ud S.ud else elemO (subI .i64 v1 1) a.fNodes.n fun h_1=>k5 (y_1.i 0) v1 (strLt (a.fNodes.get (Fin.mk (subI .i64 v1 1).toNat h_1)) (a.fNodes.get (Fin.mk v1.toNat h))) (a.fNodes.get (Fin.mk v1.toNat h)) (a.fNodes.get (Fin.mk v1.toNat h)) (y.b 0) (!eqI v0 0) (a.fNodes.get (Fin.mk v1.toNat h)) v0 v0 (a.fNodes.get (Fin.mk v1.toNat h)) (a.fNodes.get (Fin.mk v1.toNat h)) (S.t (T.rows 1 a.fNodes.n fun i=>[ts (a.fNodes.get i)])) v1 v1 (ss (a.fNodes.get (Fin.mk (subI .i64 v1 1).toNat h_1))) v1 (ii (subI .i64 v1 1)) false (bb (strLt (a.fNodes.get (Fin.mk (subI .i64 v1 1).toNat h_1)) (a.fNodes.get (Fin.mk v1.toNat h)))) (ltI v1 (ofN a.fNodes.n)) (ii v1) (eqI v1 0) (ss (a.fNodes.get (Fin.mk v1.toNat h))) (S.pt [ts (a.fNodes.get (Fin.mk (subI .i64 v1 1).toNat h_1))]) (S.ptr 0 1) else yC q 112 [ii a.fUntil,ii 0,ii 1099511627776] fun y=>yC q 108 [bb (y.b 0),ii 1] fun y_1=>yC q 122 [ss a.fFresh] fun y_2=>bif y_2.b 0 then yC q 122 [ss a.fPool] fun y_3=>k4 (y_1.i 0) v0 (y_3.b 0) v0 (y_2.b 0) (y.b 0) true (ss a.fPool) (S.ptr 0 5) (bb (y_3.b 0)) else k4 (y_1.i 0) v0 false v0 (y_2.b 0) (y.b 0) false S.ud S.ud S.ud
def b68_4 (q:YF) (a:D122) (v0 v1:Int) (v2:Bool) (u3:Int) (u4 u5 u6:Bool) (u7 u8 u9:S):OS:=yC q 108 [bb v2,ii 7] fun y=>yC q 114 [S.t (T.rows 3 a.fOpts.n fun i=>e47 (a.fOpts.get i))] fun y_1=>yC q 107 [S.t (T.rows 1 4 fun i=>List.take 1 (List.drop (↑i*1) [ti v1,ti v0,ti (y.i 0),ti (y_1.i 0)]))] fun y=>some (ii (y.i 0))
def b68_5 (q:YF) (a:D122) (k3:Int→Int→OS) (v0 v1:Int) (v2:Bool) (u3 u4:BA) (u5 u6:Bool) (u7:BA) (u8 u9:Int) (u10 u11:BA) (u12:S) (u13 u14:Int) (u15:S) (u16:Int) (u17:S) (u18:Bool) (u19:S) (u20:Bool) (u21:S) (u22:Bool) (u23 u24 u25:S):OS:=yC q 108 [bb v2,ii 6] fun y=>yC q 107 [S.t (T.rows 1 2 fun i=>List.take 1 (List.drop (↑i*1) [ti v0,ti (y.i 0)]))] fun y=>k3 (y.i 0) (addI .i64 v1 1)
def e68_in (q:YF) (a:D122) (k0:T68_0):OS:=bif geI a.fCause 1 then k0 (leI a.fCause 4) (bb (leI a.fCause 4)) (S.ptr 0 0) true (ii a.fCause) else k0 false S.ud S.ud false S.ud
structure X68 where
 x0:Bool→OS
 x1:Bool→OS
 x2:Bool→OS
 x3:Int→Int→OS
 x4:Int→Int→Bool→OS
 x5:Int→Int→Bool→OS
def D68_0 (X:X68):T68_0:=fun v0 _ _ _ _=>X.x0 v0
def D68_1 (X:X68):T68_1:=fun v0 _ _ _ _ _ _ _ _ _=>X.x1 v0
def D68_2 (X:X68):T68_2:=fun v0 _ _ _ _ _ _ _ _ _ _ _ _ _ _=>X.x2 v0
def D68_3 (X:X68):Int→Int→OS:=fun v0 v1=>X.x3 v0 v1
def D68_4 (X:X68):T68_4:=fun v0 v1 v2 _ _ _ _ _ _ _=>X.x4 v0 v1 v2
def D68_5 (X:X68):T68_5:=fun v0 v1 v2 _ _ _ _ _ _ _ _ _ _ _ _ _ _ _ _ _ _ _ _ _ _ _=>X.x5 v0 v1 v2
def X68s (q:YF) (a:D122) (X:X68):X68:=⟨fun v0=>b68_0 q a (D68_1 X) v0 dd dd dd dd,
 fun v0=>b68_1 q a (D68_2 X) v0 dd dd dd dd dd dd dd dd dd,
 fun v0=>b68_2 q a (D68_3 X) v0 dd dd dd dd dd dd dd dd dd dd dd dd dd dd,
 fun v0 v1=>b68_3 q a (D68_4 X) (D68_5 X) v0 v1,
 fun v0 v1 v2=>b68_4 q a v0 v1 v2 dd dd dd dd dd dd dd,
 fun v0 v1 v2=>b68_5 q a (D68_3 X) v0 v1 v2 dd dd dd dd dd dd dd dd dd dd dd dd dd dd dd dd dd dd dd dd dd dd dd⟩
def X68n (q:YF) (a:D122):Nat→X68
 | 0=>⟨fun _=>none,fun _=>none,fun _=>none,fun _ _=>none,fun _ _ _=>none,fun _ _ _=>none⟩
 | n+1=>X68s q a (X68n q a n)
theorem l68_0 (q:YF) (a:D122) (kk:PK S):K68_0 a (P68 q kk)=b68_0 q a (K68_1 a kk):=by
 kernel_rfl
theorem l68_1 (q:YF) (a:D122) (kk:PK S):K68_1 a (P68 q kk)=b68_1 q a (K68_2 a kk):=by
 kernel_rfl
theorem l68_2 (q:YF) (a:D122) (kk:PK S):K68_2 a (P68 q kk)=b68_2 q a (K68_3 a kk):=by
 kernel_rfl
theorem l68_3 (q:YF) (a:D122) (kk:PK S):K68_3 a (P68 q kk)=b68_3 q a (K68_4 a kk) (K68_5 a kk):=by
 kernel_rfl
theorem l68_4 (q:YF) (a:D122) (kk:PK S):K68_4 a (P68 q kk)=b68_4 q a:=by
 kernel_rfl
theorem l68_5 (q:YF) (a:D122) (kk:PK S):K68_5 a (P68 q kk)=b68_5 q a (K68_3 a kk):=by
 kernel_rfl
theorem l68_in (q:YF) (a:D122) (kk:PK S):BG q kk 68 Tryz.f68 [ag (e122 a)]=e68_in q a (K68_0 a kk):=by
 kernel_rfl
theorem h68 (q:YF) (a:D122):∀ n,K68_0 a (H68 q n)=D68_0 (X68n q a n)∧K68_1 a (H68 q n)=D68_1 (X68n q a n)∧K68_2 a (H68 q n)=D68_2 (X68n q a n)∧K68_3 a (H68 q n)=D68_3 (X68n q a n)∧K68_4 a (H68 q n)=D68_4 (X68n q a n)∧K68_5 a (H68 q n)=D68_5 (X68n q a n)
 | 0=>⟨rfl,rfl,rfl,rfl,rfl,rfl⟩
 | n+1=>by
  obtain ⟨h0,h1,h2,h3,h4,h5⟩:=h68 q a n
  exact ⟨(l68_0 q a (H68 q n)).trans (by rw [h1];kernel_rfl),(l68_1 q a (H68 q n)).trans (by rw [h2];kernel_rfl),(l68_2 q a (H68 q n)).trans (by rw [h3];kernel_rfl),(l68_3 q a (H68 q n)).trans (by rw [h4,h5];kernel_rfl),(l68_4 q a (H68 q n)).trans (by kernel_rfl),(l68_5 q a (H68 q n)).trans (by rw [h3];kernel_rfl)⟩
theorem W68 (a:D122) (n:Nat) (x:S) (h:e68_in (regs O) a (D68_0 (X68n (regs O) a n))=some x):(W O).callT 68 [ag (e122 a)]=some x:=by
 refine WG (fn:=Tryz.f68) (by kernel_rfl) (by kernel_rfl) (n:=n) ?_
 refine (l68_in (regs O) a (H68 (regs O) n)).trans ?_
 obtain ⟨h0,h1,h2,h3,h4,h5⟩:=h68 (regs O) a n
 rw [h0]
 exact h
abbrev H69 (q:YF):Nat→PK S:=HG q 69 Tryz.f69
def e69_in (q:YF) (a:D47) (b:D47):OS:=yC q 56 [ss a.fType,ss b.fType] fun y=>yC q 56 [ss a.fZone,ss b.fZone] fun y_1=>yC q 56 [ss a.fKind,ss b.fKind] fun y_2=>yC q 53 [S.t (T.rows 1 3 fun i=>List.take 1 (List.drop (↑i*1) [ti (y.i 0),ti (y_1.i 0),ti (y_2.i 0)]))] fun y=>some (ii (y.i 0))
theorem l69_in (q:YF) (a:D47) (b:D47) (kk:PK S):BG q kk 69 Tryz.f69 [ag (e47 a),ag (e47 b)]=e69_in q a b:=by
 kernel_rfl
theorem W69 (a:D47) (b:D47) (n:Nat) (x:S) (h:e69_in (regs O) a b=some x):(W O).callT 69 [ag (e47 a),ag (e47 b)]=some x:=by
 refine WG (fn:=Tryz.f69) (by kernel_rfl) (by kernel_rfl) (n:=n) ?_
 refine (l69_in (regs O) a b (H69 (regs O) n)).trans ?_
 exact h
abbrev H70 (q:YF):Nat→PK S:=HG q 70 Tryz.f70
def e70_in (q:YF) (a:D112):OS:=yC q 71 [ss a.fName] fun y=>bif !y.b 0 then some (ii 7) else yC q 49 [S.agg [ii a.fCap_0,ii a.fCap_1]] fun y=>bif !eqI (y.i 0) 0 then some (ii (y.i 0)) else yC q 49 [S.agg [ii a.fOver_0,ii a.fOver_1]] fun y=>bif !eqI (y.i 0) 0 then some (ii (y.i 0)) else yC q 125 [S.agg [ii a.fOver_0,ii a.fOver_1],S.agg [ii a.fCap_0,ii a.fCap_1]] fun y=>bif !y.b 0 then some (ii 1) else yC q 126 [S.t (T.rows 2 a.fLabels.n fun i=>e88 (a.fLabels.get i))] fun y=>bif !eqI (y.i 0) 0 then some (ii (y.i 0)) else yC q 127 [S.t (T.rows 4 a.fOffers.n fun i=>e109 (a.fOffers.get i))] fun y=>some (ii (y.i 0))
theorem l70_in (q:YF) (a:D112) (kk:PK S):BG q kk 70 Tryz.f70 [ag (e112 a)]=e70_in q a:=by
 kernel_rfl
theorem W70 (a:D112) (n:Nat) (x:S) (h:e70_in (regs O) a=some x):(W O).callT 70 [ag (e112 a)]=some x:=by
 refine WG (fn:=Tryz.f70) (by kernel_rfl) (by kernel_rfl) (n:=n) ?_
 refine (l70_in (regs O) a (H70 (regs O) n)).trans ?_
 exact h
abbrev P71 (q:YF) (kk:PK S):PK S:=PG q 71 Tryz.f71 kk
abbrev H71 (q:YF):Nat→PK S:=HG q 71 Tryz.f71
def s71_0 (a:BA) (v0 u1:Bool) (u2 u3 u4:S):St:=mkSt [(0,ss a),(8,bb u1),(12,bb v0),(2,bb false),(10,u2),(6,ii (sizeS a)),(9,u3),(5,ss a),(11,u4),(7,bb (ltI (sizeS a) 1))] 19 []
abbrev T71_0:Type:=Bool→Bool→S→S→S→OS
def K71_0 (a:BA) (kk:PK S):T71_0:=fun v0 u1 u2 u3 u4=> kk 1 9 1 (s71_0 a v0 u1 u2 u3 u4)
def s71_1 (a:BA) (v0 u1 u2:Bool) (u3 u4 u5 u6 u7:S) (u8:Bool) (u9:S):St:=mkSt [(0,ss a),(16,u6),(8,bb u1),(12,bb u2),(2,bb false),(10,u3),(6,ii (sizeS a)),(14,u7),(17,bb v0),(9,u4),(5,ss a),(13,bb u8),(11,u5),(7,bb (ltI (sizeS a) 1)),(15,u9)] 19 []
abbrev T71_1:Type:=Bool→Bool→Bool→S→S→S→S→S→Bool→S→OS
def K71_1 (a:BA) (kk:PK S):T71_1:=fun v0 u1 u2 u3 u4 u5 u6 u7 u8 u9=> kk 1 14 1 (s71_1 a v0 u1 u2 u3 u4 u5 u6 u7 u8 u9)
def s71_2 (a:BA) (v0:Int):St:=mkSt [(0,ss a),(3,ii v0)] 0 []
def K71_2 (a:BA) (kk:PK S):Int→OS:=fun v0=> kk 4 0 0 (s71_2 a v0)
def s71_3 (a:BA) (v0:Int) (v1:Bool) (v2 u3:Int) (u4:Bool) (u5:Int) (u6:S) (u7:Bool) (u8:S) (u9:Bool) (u10 u11:Int):St:=mkSt [(0,ss a),(32,S.t (T.v (.int .u8 u3))),(24,ss a),(4,S.t (T.v (.int .u8 v0))),(36,u6),(34,bb u7),(26,bb u9),(30,ii u10),(33,bb u4),(25,ii (sizeS a)),(37,bb v1),(29,ss a),(3,ii v2),(35,u8),(23,ii u11),(31,S.t (T.v (.int .u8 u5)))] 30 []
abbrev T71_3:Type:=Int→Bool→Int→Int→Bool→Int→S→Bool→S→Bool→Int→Int→OS
def K71_3 (a:BA) (kk:PK S):T71_3:=fun v0 v1 v2 u3 u4 u5 u6 u7 u8 u9 u10 u11=> kk 7 7 8 (s71_3 a v0 v1 v2 u3 u4 u5 u6 u7 u8 u9 u10 u11)
def s71_4 (a:BA) (v0:Int) (v1:Bool) (v2 u3:Int) (u4:S) (u5 u6 u7:Bool) (u8:S) (u9:Int) (u10 u11 u12:S) (u13:Bool) (u14 u15 u16:S) (u17:Bool) (u18 u19:Int):St:=mkSt [(0,ss a),(32,S.t (T.v (.int .u8 u3))),(40,u10),(24,ss a),(4,S.t (T.v (.int .u8 v0))),(36,u4),(44,u11),(34,bb u5),(42,u12),(26,bb u17),(38,bb u13),(30,ii u18),(33,bb u6),(41,u14),(25,ii (sizeS a)),(37,bb u7),(45,bb v1),(29,ss a),(3,ii v2),(35,u8),(43,u15),(39,u16),(23,ii u19),(31,S.t (T.v (.int .u8 u9)))] 30 []
abbrev T71_4:Type:=Int→Bool→Int→Int→S→Bool→Bool→Bool→S→Int→S→S→S→Bool→S→S→S→Bool→Int→Int→OS
def K71_4 (a:BA) (kk:PK S):T71_4:=fun v0 v1 v2 u3 u4 u5 u6 u7 u8 u9 u10 u11 u12 u13 u14 u15 u16 u17 u18 u19=> kk 7 15 8 (s71_4 a v0 v1 v2 u3 u4 u5 u6 u7 u8 u9 u10 u11 u12 u13 u14 u15 u16 u17 u18 u19)
def s71_5 (a:BA) (v0:Int) (v1:Bool) (v2 u3:Int) (u4 u5 u6:S) (u7:Bool) (u8:S) (u9 u10:Bool) (u11:S) (u12 u13:Bool) (u14 u15 u16:S) (u17:Int) (u18:S) (u19:Bool) (u20:S) (u21:Bool) (u22 u23:Int):St:=mkSt [(0,ss a),(32,S.t (T.v (.int .u8 u3))),(48,u18),(40,u4),(24,ss a),(4,S.t (T.v (.int .u8 v0))),(36,u5),(44,u6),(34,bb u7),(42,u8),(26,bb u21),(38,bb u9),(46,bb u19),(30,ii u22),(33,bb u10),(49,bb v1),(41,u11),(25,ii (sizeS a)),(37,bb u12),(45,bb u13),(29,ss a),(3,ii v2),(35,u14),(43,u15),(39,u16),(23,ii u23),(47,u20),(31,S.t (T.v (.int .u8 u17)))] 30 []
abbrev T71_5:Type:=Int→Bool→Int→Int→S→S→S→Bool→S→Bool→Bool→S→Bool→Bool→S→S→S→Int→S→Bool→S→Bool→Int→Int→OS
def K71_5 (a:BA) (kk:PK S):T71_5:=fun v0 v1 v2 u3 u4 u5 u6 u7 u8 u9 u10 u11 u12 u13 u14 u15 u16 u17 u18 u19 u20 u21 u22 u23=> kk 7 19 8 (s71_5 a v0 v1 v2 u3 u4 u5 u6 u7 u8 u9 u10 u11 u12 u13 u14 u15 u16 u17 u18 u19 u20 u21 u22 u23)
def b71_0 (q:YF) (a:BA) (k1:T71_1) (v0 u1:Bool) (u2 u3 u4:S):OS:=bif v0 then k1 true u1 v0 u2 u3 u4 S.ud S.ud true S.ud else byteO 0 a fun c=>k1 (ltI c 97) u1 v0 u2 u3 u4 (bb (ltI c 97)) (ss a) false (S.t (T.v (.int .u8 c)))
def b71_1 (q:YF) (a:BA) (k2:Int→OS) (v0 u1 u2:Bool) (u3 u4 u5 u6 u7:S) (u8:Bool) (u9:S):OS:=bif v0 then some (bb false) else byteO 0 a fun c=>bif gtI c 122 then some (bb false) else k2 0
def b71_2 (q:YF) (a:BA) (k3:T71_3) (v0:Int):OS:=bif ltI v0 (sizeS a) then byteO v0 a fun c=>bif ltI c 97 then k3 c true v0 c (ltI c 97) c S.ud true S.ud (ltI v0 (sizeS a)) v0 v0 else k3 c (gtI c 122) v0 c (ltI c 97) c (bb (gtI c 122)) false (S.t (T.v (.int .u8 c))) (ltI v0 (sizeS a)) v0 v0 else some (bb true)
def b71_3 (q:YF) (a:BA) (k4:T71_4) (v0:Int) (v1:Bool) (v2 u3:Int) (u4:Bool) (u5:Int) (u6:S) (u7:Bool) (u8:S) (u9:Bool) (u10 u11:Int):OS:=bif v1 then bif ltI v0 48 then k4 v0 true v2 u3 u6 u7 u4 v1 u8 u5 (bb (ltI v0 48)) (bb true) S.ud true (bb true) S.ud (S.t (T.v (.int .u8 v0))) u9 u10 u11 else k4 v0 (gtI v0 57) v2 u3 u6 u7 u4 v1 u8 u5 (bb (ltI v0 48)) (bb (gtI v0 57)) (S.t (T.v (.int .u8 v0))) true (bb false) (bb (gtI v0 57)) (S.t (T.v (.int .u8 v0))) u9 u10 u11 else k4 v0 false v2 u3 u6 u7 u4 v1 u8 u5 S.ud S.ud S.ud false S.ud S.ud S.ud u9 u10 u11
def b71_4 (q:YF) (a:BA) (k5:T71_5) (v0:Int) (v1:Bool) (v2 u3:Int) (u4:S) (u5 u6 u7:Bool) (u8:S) (u9:Int) (u10 u11 u12:S) (u13:Bool) (u14 u15 u16:S) (u17:Bool) (u18 u19:Int):OS:=bif v1 then k5 v0 (!eqI v0 46) v2 u3 u10 u4 u11 u5 u12 u13 u6 u14 u7 v1 u8 u15 u16 u9 (S.t (T.v (.bool !eqI v0 46))) true (S.t (T.v (.int .u8 v0))) u17 u18 u19 else k5 v0 false v2 u3 u10 u4 u11 u5 u12 u13 u6 u14 u7 v1 u8 u15 u16 u9 S.ud false S.ud u17 u18 u19
def b71_5 (q:YF) (a:BA) (k2:Int→OS) (v0:Int) (v1:Bool) (v2 u3:Int) (u4 u5 u6:S) (u7:Bool) (u8:S) (u9 u10:Bool) (u11:S) (u12 u13:Bool) (u14 u15 u16:S) (u17:Int) (u18:S) (u19:Bool) (u20:S) (u21:Bool) (u22 u23:Int):OS:=bif v1 then bif !eqI v0 45 then some (bb false) else k2 (addI .i64 v2 1) else k2 (addI .i64 v2 1)
def e71_in (q:YF) (a:BA) (k0:T71_0):OS:=bif ltI (sizeS a) 1 then k0 true true S.ud S.ud S.ud else k0 (gtI (sizeS a) 16) false (ii (sizeS a)) (ss a) (bb (gtI (sizeS a) 16))
structure X71 where
 x0:Bool→OS
 x1:Bool→OS
 x2:Int→OS
 x3:Int→Bool→Int→OS
 x4:Int→Bool→Int→OS
 x5:Int→Bool→Int→OS
def D71_0 (X:X71):T71_0:=fun v0 _ _ _ _=>X.x0 v0
def D71_1 (X:X71):T71_1:=fun v0 _ _ _ _ _ _ _ _ _=>X.x1 v0
def D71_2 (X:X71):Int→OS:=fun v0=>X.x2 v0
def D71_3 (X:X71):T71_3:=fun v0 v1 v2 _ _ _ _ _ _ _ _ _=>X.x3 v0 v1 v2
def D71_4 (X:X71):T71_4:=fun v0 v1 v2 _ _ _ _ _ _ _ _ _ _ _ _ _ _ _ _ _=>X.x4 v0 v1 v2
def D71_5 (X:X71):T71_5:=fun v0 v1 v2 _ _ _ _ _ _ _ _ _ _ _ _ _ _ _ _ _ _ _ _ _=>X.x5 v0 v1 v2
def X71s (q:YF) (a:BA) (X:X71):X71:=⟨fun v0=>b71_0 q a (D71_1 X) v0 dd dd dd dd,
 fun v0=>b71_1 q a (D71_2 X) v0 dd dd dd dd dd dd dd dd dd,
 fun v0=>b71_2 q a (D71_3 X) v0,
 fun v0 v1 v2=>b71_3 q a (D71_4 X) v0 v1 v2 dd dd dd dd dd dd dd dd dd,
 fun v0 v1 v2=>b71_4 q a (D71_5 X) v0 v1 v2 dd dd dd dd dd dd dd dd dd dd dd dd dd dd dd dd dd,
 fun v0 v1 v2=>b71_5 q a (D71_2 X) v0 v1 v2 dd dd dd dd dd dd dd dd dd dd dd dd dd dd dd dd dd dd dd dd dd⟩
def X71n (q:YF) (a:BA):Nat→X71
 | 0=>⟨fun _=>none,fun _=>none,fun _=>none,fun _ _ _=>none,fun _ _ _=>none,fun _ _ _=>none⟩
 | n+1=>X71s q a (X71n q a n)
theorem l71_0 (q:YF) (a:BA) (kk:PK S):K71_0 a (P71 q kk)=b71_0 q a (K71_1 a kk):=by
 kernel_rfl
theorem l71_1 (q:YF) (a:BA) (kk:PK S):K71_1 a (P71 q kk)=b71_1 q a (K71_2 a kk):=by
 kernel_rfl
theorem l71_2 (q:YF) (a:BA) (kk:PK S):K71_2 a (P71 q kk)=b71_2 q a (K71_3 a kk):=by
 kernel_rfl
theorem l71_3 (q:YF) (a:BA) (kk:PK S):K71_3 a (P71 q kk)=b71_3 q a (K71_4 a kk):=by
 kernel_rfl
theorem l71_4 (q:YF) (a:BA) (kk:PK S):K71_4 a (P71 q kk)=b71_4 q a (K71_5 a kk):=by
 kernel_rfl
theorem l71_5 (q:YF) (a:BA) (kk:PK S):K71_5 a (P71 q kk)=b71_5 q a (K71_2 a kk):=by
 kernel_rfl
theorem l71_in (q:YF) (a:BA) (kk:PK S):BG q kk 71 Tryz.f71 [ss a]=e71_in q a (K71_0 a kk):=by
 kernel_rfl
theorem h71 (q:YF) (a:BA):∀ n,K71_0 a (H71 q n)=D71_0 (X71n q a n)∧K71_1 a (H71 q n)=D71_1 (X71n q a n)∧K71_2 a (H71 q n)=D71_2 (X71n q a n)∧K71_3 a (H71 q n)=D71_3 (X71n q a n)∧K71_4 a (H71 q n)=D71_4 (X71n q a n)∧K71_5 a (H71 q n)=D71_5 (X71n q a n)
 | 0=>⟨rfl,rfl,rfl,rfl,rfl,rfl⟩
 | n+1=>by
  obtain ⟨h0,h1,h2,h3,h4,h5⟩:=h71 q a n
  exact ⟨(l71_0 q a (H71 q n)).trans (by rw [h1];kernel_rfl),(l71_1 q a (H71 q n)).trans (by rw [h2];kernel_rfl),(l71_2 q a (H71 q n)).trans (by rw [h3];kernel_rfl),(l71_3 q a (H71 q n)).trans (by rw [h4];kernel_rfl),(l71_4 q a (H71 q n)).trans (by rw [h5];kernel_rfl),(l71_5 q a (H71 q n)).trans (by rw [h2];kernel_rfl)⟩
theorem W71 (a:BA) (n:Nat) (x:S) (h:e71_in (regs O) a (D71_0 (X71n (regs O) a n))=some x):(W O).callT 71 [ss a]=some x:=by
 refine WG (fn:=Tryz.f71) (by kernel_rfl) (by kernel_rfl) (n:=n) ?_
 refine (l71_in (regs O) a (H71 (regs O) n)).trans ?_
 obtain ⟨h0,h1,h2,h3,h4,h5⟩:=h71 (regs O) a n
 rw [h0]
 exact h
abbrev H72 (q:YF):Nat→PK S:=HG q 72 Tryz.f72
def e72_in (q:YF) (a:Rw D68):OS:=bif gtI (ofN a.n) 8 then some (ii 3) else yC q 128 [S.t (T.rows 4 a.n fun i=>e68 (a.get i))] fun y=>some (ii (y.i 0))
theorem l72_in (q:YF) (a:Rw D68) (kk:PK S):BG q kk 72 Tryz.f72 [S.t (T.rows 4 a.n fun i=>e68 (a.get i))]=e72_in q a:=by
 kernel_rfl
theorem W72 (a:Rw D68) (n:Nat) (x:S) (h:e72_in (regs O) a=some x):(W O).callT 72 [S.t (T.rows 4 a.n fun i=>e68 (a.get i))]=some x:=by
 refine WG (fn:=Tryz.f72) (by kernel_rfl) (by kernel_rfl) (n:=n) ?_
 refine (l72_in (regs O) a (H72 (regs O) n)).trans ?_
 exact h
abbrev P73 (q:YF) (kk:PK S):PK S:=PG q 73 Tryz.f73 kk
abbrev H73 (q:YF):Nat→PK S:=HG q 73 Tryz.f73
def s73_0 (a:Rw D88) (v0:Int):St:=mkSt [(0,S.t (T.rows 2 a.n fun i=>e88 (a.get i))),(3,ii v0)] 0 []
def K73_0 (a:Rw D88) (kk:PK S):Int→OS:=fun v0=> kk 4 0 0 (s73_0 a v0)
def s73_1 (a:Rw D88) (v0 v1:Int):St:=mkSt [(0,S.t (T.rows 2 a.n fun i=>e88 (a.get i))),(6,ii v1),(3,ii v0)] 0 []
def K73_1 (a:Rw D88) (kk:PK S):Int→Int→OS:=fun v0 v1=> kk 13 0 0 (s73_1 a v0 v1)
def b73_0 (q:YF) (a:Rw D88) (k1:Int→Int→OS) (v0:Int):OS:=bif ltI v0 (ofN a.n) then elemO v0 a.n fun h=>yC q 71 [ss (a.get (Fin.mk v0.toNat h)).fKey] fun y=>bif !y.b 0 then some (ii 7) else elemO v0 a.n fun h=>yC q 129 [ss (a.get (Fin.mk v0.toNat h)).fVal] fun y=>bif !y.b 0 then some (ii 20) else k1 v0 0 else some (ii 0)
def b73_1 (q:YF) (a:Rw D88) (k0:Int→OS) (k1:Int→Int→OS) (v0 v1:Int):OS:=bif ltI v1 v0 then elemO v1 a.n fun h=>elemO v0 a.n fun h_1=>bif strEq (a.get (Fin.mk v1.toNat h)).fKey (a.get (Fin.mk v0.toNat h_1)).fKey then some (ii 6) else k1 v0 (addI .i64 v1 1) else k0 (addI .i64 v0 1)
def e73_in (q:YF) (a:Rw D88) (k0:Int→OS):OS:=bif gtI (ofN a.n) 4 then some (ii 3) else k0 0
structure X73 where
 x0:Int→OS
 x1:Int→Int→OS
def D73_0 (X:X73):Int→OS:=fun v0=>X.x0 v0
def D73_1 (X:X73):Int→Int→OS:=fun v0 v1=>X.x1 v0 v1
def X73s (q:YF) (a:Rw D88) (X:X73):X73:=⟨fun v0=>b73_0 q a (D73_1 X) v0,
 fun v0 v1=>b73_1 q a (D73_0 X) (D73_1 X) v0 v1⟩
def X73n (q:YF) (a:Rw D88):Nat→X73
 | 0=>⟨fun _=>none,fun _ _=>none⟩
 | n+1=>X73s q a (X73n q a n)
theorem l73_0 (q:YF) (a:Rw D88) (kk:PK S):K73_0 a (P73 q kk)=b73_0 q a (K73_1 a kk):=by
 kernel_rfl
theorem l73_1 (q:YF) (a:Rw D88) (kk:PK S):K73_1 a (P73 q kk)=b73_1 q a (K73_0 a kk) (K73_1 a kk):=by
 kernel_rfl
theorem l73_in (q:YF) (a:Rw D88) (kk:PK S):BG q kk 73 Tryz.f73 [S.t (T.rows 2 a.n fun i=>e88 (a.get i))]=e73_in q a (K73_0 a kk):=by
 kernel_rfl
theorem h73 (q:YF) (a:Rw D88):∀ n,K73_0 a (H73 q n)=D73_0 (X73n q a n)∧K73_1 a (H73 q n)=D73_1 (X73n q a n)
 | 0=>⟨rfl,rfl⟩
 | n+1=>by
  obtain ⟨h0,h1⟩:=h73 q a n
  exact ⟨(l73_0 q a (H73 q n)).trans (by rw [h1];kernel_rfl),(l73_1 q a (H73 q n)).trans (by rw [h0,h1];kernel_rfl)⟩
theorem W73 (a:Rw D88) (n:Nat) (x:S) (h:e73_in (regs O) a (D73_0 (X73n (regs O) a n))=some x):(W O).callT 73 [S.t (T.rows 2 a.n fun i=>e88 (a.get i))]=some x:=by
 refine WG (fn:=Tryz.f73) (by kernel_rfl) (by kernel_rfl) (n:=n) ?_
 refine (l73_in (regs O) a (H73 (regs O) n)).trans ?_
 obtain ⟨h0,h1⟩:=h73 (regs O) a n
 rw [h0]
 exact h
abbrev P74 (q:YF) (kk:PK S):PK S:=PG q 74 Tryz.f74 kk
abbrev H74 (q:YF):Nat→PK S:=HG q 74 Tryz.f74
def s74_0 (a:Int) (b:Int) (c:Int) (v0:Bool) (u1:S) (u2:Bool) (u3 u4:S):St:=mkSt [(0,ii a),(8,ii b),(12,u1),(2,ii c),(10,bb u2),(6,bb false),(14,bb v0),(1,ii b),(9,bb (geI a b)),(13,u3),(11,u4),(7,ii a)] 10 []
abbrev T74_0:Type:=Bool→S→Bool→S→S→OS
def K74_0 (a:Int) (b:Int) (c:Int) (kk:PK S):T74_0:=fun v0 u1 u2 u3 u4=> kk 1 9 1 (s74_0 a b c v0 u1 u2 u3 u4)
def b74_0 (q:YF) (a:Int) (b:Int) (c:Int) (v0:Bool) (u1:S) (u2:Bool) (u3 u4:S):OS:=some (bb v0)
def e74_in (q:YF) (a:Int) (b:Int) (c:Int) (k0:T74_0):OS:=bif geI a b then k0 (leI a c) (ii c) true (bb (leI a c)) (ii a) else k0 false S.ud false S.ud S.ud
structure X74 where
 x0:Bool→OS
def D74_0 (X:X74):T74_0:=fun v0 _ _ _ _=>X.x0 v0
def X74s (q:YF) (a:Int) (b:Int) (c:Int) (X:X74):X74:=⟨fun v0=>b74_0 q a b c v0 dd dd dd dd⟩
def X74n (q:YF) (a:Int) (b:Int) (c:Int):Nat→X74
 | 0=>⟨fun _=>none⟩
 | n+1=>X74s q a b c (X74n q a b c n)
theorem l74_0 (q:YF) (a:Int) (b:Int) (c:Int) (kk:PK S):K74_0 a b c (P74 q kk)=b74_0 q a b c:=by
 kernel_rfl
theorem l74_in (q:YF) (a:Int) (b:Int) (c:Int) (kk:PK S):BG q kk 74 Tryz.f74 [ii a,ii b,ii c]=e74_in q a b c (K74_0 a b c kk):=by
 kernel_rfl
theorem h74 (q:YF) (a:Int) (b:Int) (c:Int):∀ n,K74_0 a b c (H74 q n)=D74_0 (X74n q a b c n)
 | 0=>rfl
 | n+1=>by
  have h0:=h74 q a b c n
  exact (l74_0 q a b c (H74 q n)).trans (by kernel_rfl)
theorem W74 (a:Int) (b:Int) (c:Int) (n:Nat) (x:S) (h:e74_in (regs O) a b c (D74_0 (X74n (regs O) a b c n))=some x):(W O).callT 74 [ii a,ii b,ii c]=some x:=by
 refine WG (fn:=Tryz.f74) (by kernel_rfl) (by kernel_rfl) (n:=n) ?_
 refine (l74_in (regs O) a b c (H74 (regs O) n)).trans ?_
 have h0:=h74 (regs O) a b c n
 rw [h0]
 exact h
abbrev P75 (q:YF) (kk:PK S):PK S:=PG q 75 Tryz.f75 kk
abbrev H75 (q:YF):Nat→PK S:=HG q 75 Tryz.f75
def s75_0 (a:D52) (v0 u1 u2:Bool) (u3:S) (u4:Bool) (u5 u6 u7:S):St:=mkSt [(0,ag (e52 a)),(8,bb u1),(12,u3),(2,ii 0),(10,bb u4),(6,S.ptr 0 0),(14,u5),(1,S.ptr 0 0),(9,bb u2),(13,u6),(11,u7),(7,ss a.fName),(15,bb v0)] 18 [(0,B.box (List.map S.t (e52 a)))]
abbrev T75_0:Type:=Bool→Bool→Bool→S→Bool→S→S→S→OS
def K75_0 (a:D52) (kk:PK S):T75_0:=fun v0 u1 u2 u3 u4 u5 u6 u7=> kk 1 11 2 (s75_0 a v0 u1 u2 u3 u4 u5 u6 u7)
def s75_1 (a:D52) (v0 u1 u2:Bool) (u3 u4 u5:Int) (u6:Bool) (u7:S) (u8 u9 u10:Bool) (u11:S) (u12:Int) (u13:Bool) (u14 u15 u16:Int) (u17:Bool) (u18:S) (u19:Int) (u20:Bool) (u21:S) (u22:Bool) (u23:Int) (u24 u25 u26:S) (u27:Bool):St:=mkSt [(0,ag (e52 a)),(32,bb u1),(16,bb false),(48,S.ptr 0 11),(8,bb u2),(40,S.ptr 0 10),(24,ii u3),(56,u24),(4,ii u4),(36,ii u5),(20,bb u6),(52,S.ptr 0 12),(12,u7),(44,S.ptr 0 10),(28,S.ptr 0 7),(2,ii 0),(34,S.ptr 0 9),(18,S.agg [ss a.fOffer_Type,ss a.fOffer_Zone,ss a.fOffer_Kind]),(50,ii (sizeS a.fId)),(10,bb u8),(42,bb (ltI a.fTry 1)),(26,bb u9),(58,u25),(6,S.ptr 0 0),(38,bb u10),(22,S.ptr 0 6),(54,bb (ltI a.fPhase 1)),(14,u11),(46,bb (gtI a.fTry 32)),(30,ii u12),(1,S.ptr 0 0),(17,S.ptr 0 3),(49,ss a.fId),(9,bb u13),(41,ii a.fTry),(25,ii u14),(57,u26),(5,ii u15),(37,ii u16),(21,bb u17),(53,ii a.fPhase),(13,u18),(45,ii a.fTry),(29,S.agg [ii a.fCap_0,ii a.fCap_1]),(3,ii u19),(35,S.t (T.rows 3 a.fOpts.n fun i=>e47 (a.fOpts.get i))),(19,bb u20),(51,bb (gtI (sizeS a.fId) 16)),(11,u21),(43,bb false),(59,bb v0),(7,ss a.fName),(23,ii a.fPrice),(55,bb u27),(15,bb u22),(47,bb (gtI a.fTry 32)),(31,ii u23)] 68 [(0,B.box (List.map S.t (e52 a)))]
abbrev T75_1:Type:=Bool→Bool→Bool→Int→Int→Int→Bool→S→Bool→Bool→Bool→S→Int→Bool→Int→Int→Int→Bool→S→Int→Bool→S→Bool→Int→S→S→S→Bool→OS
def K75_1 (a:D52) (kk:PK S):T75_1:=fun v0 u1 u2 u3 u4 u5 u6 u7 u8 u9 u10 u11 u12 u13 u14 u15 u16 u17 u18 u19 u20 u21 u22 u23 u24 u25 u26 u27=> kk 16 9 48 (s75_1 a v0 u1 u2 u3 u4 u5 u6 u7 u8 u9 u10 u11 u12 u13 u14 u15 u16 u17 u18 u19 u20 u21 u22 u23 u24 u25 u26 u27)
def s75_2 (a:D52) (v0 u1 u2:Bool) (u3:Int) (u4:S) (u5 u6:Int) (u7:Bool) (u8:S) (u9 u10:Bool) (u11:S) (u12:Bool) (u13:S) (u14:Int) (u15:Bool) (u16:Int) (u17:S) (u18 u19:Int) (u20:Bool) (u21:S) (u22:Int) (u23:Bool) (u24:S) (u25 u26 u27:Bool) (u28:Int) (u29:S) (u30:Bool) (u31 u32 u33:S):St:=mkSt [(0,ag (e52 a)),(64,u29),(32,bb u1),(16,bb false),(48,S.ptr 0 11),(8,bb u2),(40,S.ptr 0 10),(24,ii u3),(56,u4),(4,ii u5),(36,ii u6),(20,bb u7),(52,S.ptr 0 12),(12,u8),(44,S.ptr 0 10),(28,S.ptr 0 7),(60,bb u30),(2,ii 0),(34,S.ptr 0 9),(18,S.agg [ss a.fOffer_Type,ss a.fOffer_Zone,ss a.fOffer_Kind]),(50,ii (sizeS a.fId)),(10,bb u9),(42,bb (ltI a.fTry 1)),(26,bb u10),(58,u11),(6,S.ptr 0 0),(38,bb u12),(22,S.ptr 0 6),(54,bb (ltI a.fPhase 1)),(14,u13),(46,bb (gtI a.fTry 32)),(30,ii u14),(62,u31),(1,S.ptr 0 0),(65,bb v0),(17,S.ptr 0 3),(49,ss a.fId),(9,bb u15),(41,ii a.fTry),(25,ii u16),(57,u17),(5,ii u18),(37,ii u19),(21,bb u20),(53,ii a.fPhase),(13,u21),(45,ii a.fTry),(29,S.agg [ii a.fCap_0,ii a.fCap_1]),(61,u32),(3,ii u22),(35,S.t (T.rows 3 a.fOpts.n fun i=>e47 (a.fOpts.get i))),(19,bb u23),(51,bb (gtI (sizeS a.fId) 16)),(11,u24),(43,bb false),(59,bb u25),(7,ss a.fName),(23,ii a.fPrice),(55,bb u26),(15,bb u27),(47,bb (gtI a.fTry 32)),(31,ii u28),(63,u33)] 68 [(0,B.box (List.map S.t (e52 a)))]
abbrev T75_2:Type:=Bool→Bool→Bool→Int→S→Int→Int→Bool→S→Bool→Bool→S→Bool→S→Int→Bool→Int→S→Int→Int→Bool→S→Int→Bool→S→Bool→Bool→Bool→Int→S→Bool→S→S→S→OS
def K75_2 (a:D52) (kk:PK S):T75_2:=fun v0 u1 u2 u3 u4 u5 u6 u7 u8 u9 u10 u11 u12 u13 u14 u15 u16 u17 u18 u19 u20 u21 u22 u23 u24 u25 u26 u27 u28 u29 u30 u31 u32 u33=> kk 16 15 48 (s75_2 a v0 u1 u2 u3 u4 u5 u6 u7 u8 u9 u10 u11 u12 u13 u14 u15 u16 u17 u18 u19 u20 u21 u22 u23 u24 u25 u26 u27 u28 u29 u30 u31 u32 u33)
def b75_0 (q:YF) (a:D52) (k1:T75_1) (v0 u1 u2:Bool) (u3:S) (u4:Bool) (u5 u6 u7:S):OS:=bif v0 then some (ii 7) else yC q 130 [S.agg [ss a.fOffer_Type,ss a.fOffer_Zone,ss a.fOffer_Kind]] fun y=>bif !y.b 0 then some (ii 7) else yC q 91 [ii a.fPrice] fun y_1=>bif !eqI (y_1.i 0) 0 then some (ii (y_1.i 0)) else yC q 49 [S.agg [ii a.fCap_0,ii a.fCap_1]] fun y_2=>bif !eqI (y_2.i 0) 0 then some (ii (y_2.i 0)) else yC q 131 [S.t (T.rows 3 a.fOpts.n fun i=>e47 (a.fOpts.get i))] fun y_3=>bif !eqI (y_3.i 0) 0 then some (ii (y_3.i 0)) else bif ltI a.fTry 1 then some (ii 1) else bif gtI a.fTry 32 then some (ii 1) else bif gtI (sizeS a.fId) 16 then some (ii 2) else bif ltI a.fPhase 1 then k1 true (!eqI (y_2.i 0) 0) u1 (y_1.i 0) (y_2.i 0) (y_3.i 0) (!y.b 0) u3 u4 (!eqI (y_1.i 0) 0) (!eqI (y_3.i 0) 0) u5 (y_2.i 0) u2 (y_1.i 0) (y_3.i 0) (y_3.i 0) (!y.b 0) u6 (y_1.i 0) (y.b 0) u7 v0 (y_2.i 0) S.ud S.ud S.ud true else k1 (gtI a.fPhase 4) (!eqI (y_2.i 0) 0) u1 (y_1.i 0) (y_2.i 0) (y_3.i 0) (!y.b 0) u3 u4 (!eqI (y_1.i 0) 0) (!eqI (y_3.i 0) 0) u5 (y_2.i 0) u2 (y_1.i 0) (y_3.i 0) (y_3.i 0) (!y.b 0) u6 (y_1.i 0) (y.b 0) u7 v0 (y_2.i 0) (S.ptr 0 12) (bb (gtI a.fPhase 4)) (ii a.fPhase) false
def b75_1 (q:YF) (a:D52) (k2:T75_2) (v0 u1 u2:Bool) (u3 u4 u5:Int) (u6:Bool) (u7:S) (u8 u9 u10:Bool) (u11:S) (u12:Int) (u13:Bool) (u14 u15 u16:Int) (u17:Bool) (u18:S) (u19:Int) (u20:Bool) (u21:S) (u22:Bool) (u23:Int) (u24 u25 u26:S) (u27:Bool):OS:=bif v0 then k2 true u1 u2 u3 u24 u4 u5 u6 u7 u8 u9 u25 u10 u11 u12 u13 u14 u26 u15 u16 u17 u18 u19 u20 u21 v0 u27 u22 u23 S.ud true S.ud S.ud S.ud else yC q 74 [ii a.fGen,ii 0,ii 1099511627776] fun y=>k2 (!y.b 0) u1 u2 u3 u24 u4 u5 u6 u7 u8 u9 u25 u10 u11 u12 u13 u14 u26 u15 u16 u17 u18 u19 u20 u21 v0 u27 u22 u23 (S.t (T.v (.bool !y.b 0))) false (ii a.fGen) (S.ptr 0 2) (bb (y.b 0))
def b75_2 (q:YF) (a:D52) (v0 u1 u2:Bool) (u3:Int) (u4:S) (u5 u6:Int) (u7:Bool) (u8:S) (u9 u10:Bool) (u11:S) (u12:Bool) (u13:S) (u14:Int) (u15:Bool) (u16:Int) (u17:S) (u18 u19:Int) (u20:Bool) (u21:S) (u22:Int) (u23:Bool) (u24:S) (u25 u26 u27:Bool) (u28:Int) (u29:S) (u30:Bool) (u31 u32 u33:S):OS:=bif v0 then some (ii 1) else yC q 74 [ii a.fBorn,ii 0,ii 1099511627776] fun y=>bif !y.b 0 then some (ii 1) else some (ii 0)
def e75_in (q:YF) (a:D52) (k0:T75_0):OS:=yC q 71 [ss a.fName] fun y=>bif !y.b 0 then k0 true (y.b 0) (!y.b 0) S.ud true S.ud S.ud S.ud else yC q 71 [ss a.fPool] fun y_1=>k0 (!y_1.b 0) (y.b 0) (!y.b 0) (ss a.fPool) false (S.t (T.v (.bool !y_1.b 0))) (bb (y_1.b 0)) (S.ptr 0 1)
structure X75 where
 x0:Bool→OS
 x1:Bool→OS
 x2:Bool→OS
def D75_0 (X:X75):T75_0:=fun v0 _ _ _ _ _ _ _=>X.x0 v0
def D75_1 (X:X75):T75_1:=fun v0 _ _ _ _ _ _ _ _ _ _ _ _ _ _ _ _ _ _ _ _ _ _ _ _ _ _ _=>X.x1 v0
def D75_2 (X:X75):T75_2:=fun v0 _ _ _ _ _ _ _ _ _ _ _ _ _ _ _ _ _ _ _ _ _ _ _ _ _ _ _ _ _ _ _ _ _=>X.x2 v0
def X75s (q:YF) (a:D52) (X:X75):X75:=⟨fun v0=>b75_0 q a (D75_1 X) v0 dd dd dd dd dd dd dd,
 fun v0=>b75_1 q a (D75_2 X) v0 dd dd dd dd dd dd dd dd dd dd dd dd dd dd dd dd dd dd dd dd dd dd dd dd dd dd dd,
 fun v0=>b75_2 q a v0 dd dd dd dd dd dd dd dd dd dd dd dd dd dd dd dd dd dd dd dd dd dd dd dd dd dd dd dd dd dd dd dd dd⟩
def X75n (q:YF) (a:D52):Nat→X75
 | 0=>⟨fun _=>none,fun _=>none,fun _=>none⟩
 | n+1=>X75s q a (X75n q a n)
theorem l75_0 (q:YF) (a:D52) (kk:PK S):K75_0 a (P75 q kk)=b75_0 q a (K75_1 a kk):=by
 kernel_rfl
theorem l75_1 (q:YF) (a:D52) (kk:PK S):K75_1 a (P75 q kk)=b75_1 q a (K75_2 a kk):=by
 kernel_rfl
theorem l75_2 (q:YF) (a:D52) (kk:PK S):K75_2 a (P75 q kk)=b75_2 q a:=by
 kernel_rfl
theorem l75_in (q:YF) (a:D52) (kk:PK S):BG q kk 75 Tryz.f75 [ag (e52 a)]=e75_in q a (K75_0 a kk):=by
 kernel_rfl
theorem h75 (q:YF) (a:D52):∀ n,K75_0 a (H75 q n)=D75_0 (X75n q a n)∧K75_1 a (H75 q n)=D75_1 (X75n q a n)∧K75_2 a (H75 q n)=D75_2 (X75n q a n)
 | 0=>⟨rfl,rfl,rfl⟩
 | n+1=>by
  obtain ⟨h0,h1,h2⟩:=h75 q a n
  exact ⟨(l75_0 q a (H75 q n)).trans (by rw [h1];kernel_rfl),(l75_1 q a (H75 q n)).trans (by rw [h2];kernel_rfl),(l75_2 q a (H75 q n)).trans (by kernel_rfl)⟩
theorem W75 (a:D52) (n:Nat) (x:S) (h:e75_in (regs O) a (D75_0 (X75n (regs O) a n))=some x):(W O).callT 75 [ag (e52 a)]=some x:=by
 refine WG (fn:=Tryz.f75) (by kernel_rfl) (by kernel_rfl) (n:=n) ?_
 refine (l75_in (regs O) a (H75 (regs O) n)).trans ?_
 obtain ⟨h0,h1,h2⟩:=h75 (regs O) a n
 rw [h0]
 exact h
abbrev P76 (q:YF) (kk:PK S):PK S:=PG q 76 Tryz.f76 kk
abbrev H76 (q:YF):Nat→PK S:=HG q 76 Tryz.f76
def s76_0 (a:D33) (b:BA) (v0:Int):St:=mkSt [(4,S.ptr 0 0),(10,ii (ofN a.fPools.n)),(1,ss b),(9,S.t (T.rows 10 a.fPools.n fun i=>e77 (a.fPools.get i))),(11,ii v0)] 1 [(0,B.box [ss (bs []),ii 0,ii 0,ii 0,S.t (T.v (.slice none 0 0)),S.t (T.v (.slice none 0 0)),ii 0,ii 0,ii 0,ii 0])]
def K76_0 (a:D33) (b:BA) (kk:PK S):Int→OS:=fun v0=> kk 2 0 0 (s76_0 a b v0)
def b76_0 (q:YF) (a:D33) (b:BA) (k0:Int→OS) (v0:Int):OS:=bif ltI v0 (ofN a.fPools.n) then elemO v0 a.fPools.n fun h=>bif strEq (a.fPools.get (Fin.mk v0.toNat h)).fName b then some (S.tup [ag (e77 (a.fPools.get (Fin.mk v0.toNat h))),bb true]) else k0 (addI .i64 v0 1) else some (S.tup [S.agg [ss (bs []),ii 0,ii 0,ii 0,S.t (T.rows 4 0 fun i=>False.rec (fun x=>List T) (by first | omega | (have:=i.2;omega) | (have:=i_1.2;omega))),S.t (T.rows 2 0 fun i=>False.rec (fun x=>List T) (by first | omega | (have:=i.2;omega) | (have:=i_1.2;omega))),ii 0,ii 0,ii 0,ii 0],bb false])
def e76_in (q:YF) (a:D33) (b:BA) (k0:Int→OS):OS:=k0 0
structure X76 where
 x0:Int→OS
def D76_0 (X:X76):Int→OS:=fun v0=>X.x0 v0
def X76s (q:YF) (a:D33) (b:BA) (X:X76):X76:=⟨fun v0=>b76_0 q a b (D76_0 X) v0⟩
def X76n (q:YF) (a:D33) (b:BA):Nat→X76
 | 0=>⟨fun _=>none⟩
 | n+1=>X76s q a b (X76n q a b n)
theorem l76_0 (q:YF) (a:D33) (b:BA) (kk:PK S):K76_0 a b (P76 q kk)=b76_0 q a b (K76_0 a b kk):=by
 kernel_rfl
theorem l76_in (q:YF) (a:D33) (b:BA) (kk:PK S):BG q kk 76 Tryz.f76 [ag (e33 a),ss b]=e76_in q a b (K76_0 a b kk):=by
 kernel_rfl
theorem h76 (q:YF) (a:D33) (b:BA):∀ n,K76_0 a b (H76 q n)=D76_0 (X76n q a b n)
 | 0=>rfl
 | n+1=>by
  have h0:=h76 q a b n
  exact (l76_0 q a b (H76 q n)).trans (by rw [h0];kernel_rfl)
theorem W76 (a:D33) (b:BA) (n:Nat) (x:S) (h:e76_in (regs O) a b (D76_0 (X76n (regs O) a b n))=some x):(W O).callT 76 [ag (e33 a),ss b]=some x:=by
 refine WG (fn:=Tryz.f76) (by kernel_rfl) (by kernel_rfl) (n:=n) ?_
 refine (l76_in (regs O) a b (H76 (regs O) n)).trans ?_
 have h0:=h76 (regs O) a b n
 rw [h0]
 exact h
abbrev P77 (q:YF) (kk:PK S):PK S:=PG q 77 Tryz.f77 kk
abbrev H77 (q:YF):Nat→PK S:=HG q 77 Tryz.f77
def s77_0 (a:Rw D112) (b:Rw D47) (v0:Int):St:=mkSt [(0,S.t (T.rows 7 a.n fun i=>e112 (a.get i))),(10,ii (ofN b.n)),(9,S.t (T.rows 3 b.n fun i=>e47 (b.get i))),(11,ii v0)] 0 []
def K77_0 (a:Rw D112) (b:Rw D47) (kk:PK S):Int→OS:=fun v0=> kk 2 0 0 (s77_0 a b v0)
def b77_0 (q:YF) (a:Rw D112) (b:Rw D47) (k0:Int→OS) (v0:Int):OS:=bif ltI v0 (ofN b.n) then elemO v0 b.n fun h=>yC q 78 [S.t (T.rows 7 a.n fun i=>e112 (a.get i)),ag (e47 (b.get (Fin.mk v0.toNat h)))] fun y=>bif !y.b 2 then some (bb false) else k0 (addI .i64 v0 1) else some (bb true)
def e77_in (q:YF) (a:Rw D112) (b:Rw D47) (k0:Int→OS):OS:=k0 0
structure X77 where
 x0:Int→OS
def D77_0 (X:X77):Int→OS:=fun v0=>X.x0 v0
def X77s (q:YF) (a:Rw D112) (b:Rw D47) (X:X77):X77:=⟨fun v0=>b77_0 q a b (D77_0 X) v0⟩
def X77n (q:YF) (a:Rw D112) (b:Rw D47):Nat→X77
 | 0=>⟨fun _=>none⟩
 | n+1=>X77s q a b (X77n q a b n)
theorem l77_0 (q:YF) (a:Rw D112) (b:Rw D47) (kk:PK S):K77_0 a b (P77 q kk)=b77_0 q a b (K77_0 a b kk):=by
 kernel_rfl
theorem l77_in (q:YF) (a:Rw D112) (b:Rw D47) (kk:PK S):BG q kk 77 Tryz.f77 [S.t (T.rows 7 a.n fun i=>e112 (a.get i)),S.t (T.rows 3 b.n fun i=>e47 (b.get i))]=e77_in q a b (K77_0 a b kk):=by
 kernel_rfl
theorem h77 (q:YF) (a:Rw D112) (b:Rw D47):∀ n,K77_0 a b (H77 q n)=D77_0 (X77n q a b n)
 | 0=>rfl
 | n+1=>by
  have h0:=h77 q a b n
  exact (l77_0 q a b (H77 q n)).trans (by rw [h0];kernel_rfl)
theorem W77 (a:Rw D112) (b:Rw D47) (n:Nat) (x:S) (h:e77_in (regs O) a b (D77_0 (X77n (regs O) a b n))=some x):(W O).callT 77 [S.t (T.rows 7 a.n fun i=>e112 (a.get i)),S.t (T.rows 3 b.n fun i=>e47 (b.get i))]=some x:=by
 refine WG (fn:=Tryz.f77) (by kernel_rfl) (by kernel_rfl) (n:=n) ?_
 refine (l77_in (regs O) a b (H77 (regs O) n)).trans ?_
 have h0:=h77 (regs O) a b n
 rw [h0]
 exact h
end
end Go.Proofs.YtonkoellfaopiaaGreatDoor.H
