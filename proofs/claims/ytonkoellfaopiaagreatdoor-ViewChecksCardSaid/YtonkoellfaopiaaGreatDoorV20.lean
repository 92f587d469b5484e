import Derived.Test.YtonkoellfaopiaaGreatDoorV8
set_option linter.unusedSimpArgs false
set_option linter.unusedVariables false
namespace Go.Proofs.YtonkoellfaopiaaGreatDoor.H
open Go
noncomputable section
abbrev P190 (q : YF) (kk : PK S) : PK S := PG q 190 Tryz.f190 kk
abbrev H190 (q : YF) : Nat → PK S := HG q 190 Tryz.f190
def s190_0 (a : D68) (v0 u1 u2 u3 u4 : Bool) (u5 : S) (u6 : Bool) (u7 u8 : S) : St := mkSt [(0, ag (e68 a)), (16, ii a.fOp), (20, u5), (12, bb u1), (2, ii 0), (18, bb u6), (10, S.ptr 0 0), (22, bb v0), (14, bb u2), (1, S.ptr 0 0), (17, bb (eqI a.fOp 1)), (21, u7), (13, bb u3), (3, bb u4), (19, u8), (11, ss a.fKey), (15, S.ptr 0 1)] 17 [(0, B.box (List.map S.t (e68 a)))]
abbrev T190_0 : Type := Bool → Bool → Bool → Bool → Bool → S → Bool → S → S → OS
def K190_0 (a : D68) (kk : PK S) : T190_0 := fun v0 u1 u2 u3 u4 u5 u6 u7 u8=> kk 4 9 8 (s190_0 a v0 u1 u2 u3 u4 u5 u6 u7 u8)
def s190_1 (a : D68) (v0 v1 : Bool) (u2 : S) (u3 u4 u5 u6 : Bool) (u7 : S) (u8 u9 : Bool) (u10 u11 : S) (u12 : Bool) (u13 u14 : S) : St := mkSt [(0, ag (e68 a)), (16, ii a.fOp), (24, ii a.fOp), (4, bb v0), (20, u2), (12, bb u3), (28, u11), (2, ii 0), (18, bb u4), (10, S.ptr 0 0), (26, bb u12), (22, bb u5), (14, bb u6), (30, bb v1), (1, S.ptr 0 0), (17, bb (eqI a.fOp 1)), (25, bb (eqI a.fOp 5)), (21, u7), (13, bb u8), (29, u13), (3, bb u9), (19, u10), (11, ss a.fKey), (27, u14), (23, S.ptr 0 1), (15, S.ptr 0 1)] 26 [(0, B.box (List.map S.t (e68 a)))]
abbrev T190_1 : Type := Bool → Bool → S → Bool → Bool → Bool → Bool → S → Bool → Bool → S → S → Bool → S → S → OS
def K190_1 (a : D68) (kk : PK S) : T190_1 := fun v0 v1 u2 u3 u4 u5 u6 u7 u8 u9 u10 u11 u12 u13 u14=> kk 5 9 17 (s190_1 a v0 v1 u2 u3 u4 u5 u6 u7 u8 u9 u10 u11 u12 u13 u14)
def s190_2 (a : D68) (v0 v1 v2 : Bool) (u3 : S) (u4 : Bool) (u5 : S) (u6 u7 u8 u9 u10 : Bool) (u11 : S) (u12 : Bool) (u13 : S) (u14 : Bool) (u15 u16 u17 : S) (u18 : Bool) (u19 u20 : S) : St := mkSt [(0, ag (e68 a)), (32, ii a.fOp), (16, ii a.fOp), (24, ii a.fOp), (4, bb v0), (36, u17), (20, u3), (12, bb u4), (28, u5), (2, ii 0), (34, bb u18), (18, bb u6), (10, S.ptr 0 0), (26, bb u7), (38, bb v2), (22, bb u8), (14, bb u9), (30, bb u10), (1, S.ptr 0 0), (33, bb (ltI a.fOp 1)), (17, bb (eqI a.fOp 1)), (25, bb (eqI a.fOp 5)), (5, bb v1), (37, u19), (21, u11), (13, bb u12), (29, u13), (3, bb u14), (35, u20), (19, u15), (11, ss a.fKey), (27, u16), (23, S.ptr 0 1), (15, S.ptr 0 1), (31, S.ptr 0 1)] 61 [(0, B.box (List.map S.t (e68 a)))]
abbrev T190_2 : Type := Bool → Bool → Bool → S → Bool → S → Bool → Bool → Bool → Bool → Bool → S → Bool → S → Bool → S → S → S → Bool → S → S → OS
def K190_2 (a : D68) (kk : PK S) : T190_2 := fun v0 v1 v2 u3 u4 u5 u6 u7 u8 u9 u10 u11 u12 u13 u14 u15 u16 u17 u18 u19 u20=> kk 6 9 26 (s190_2 a v0 v1 v2 u3 u4 u5 u6 u7 u8 u9 u10 u11 u12 u13 u14 u15 u16 u17 u18 u19 u20)
def s190_3 (a : D68) (v0 v1 u2 : Bool) (u3 u4 : S) (u5 : Bool) (u6 : S) (u7 u8 u9 u10 u11 u12 u13 : Bool) (u14 u15 : S) (u16 : Bool) (u17 : S) (u18 : Bool) (u19 u20 u21 u22 u23 u24 u25 u26 u27 : S) (u28 : Bool) : St := mkSt [(0, ag (e68 a)), (32, ii a.fOp), (16, ii a.fOp), (40, u22), (24, ii a.fOp), (4, bb u2), (36, u3), (20, u4), (12, bb u5), (44, u23), (28, u6), (2, ii 0), (34, bb u7), (18, bb u8), (10, S.ptr 0 0), (42, u24), (26, bb u9), (38, bb u10), (22, bb u11), (14, bb u12), (46, bb v0), (30, bb u13), (1, S.ptr 0 0), (33, bb (ltI a.fOp 1)), (17, bb (eqI a.fOp 1)), (41, u25), (25, bb (eqI a.fOp 5)), (5, bb v1), (37, u14), (21, u15), (13, bb u16), (45, u26), (29, u17), (3, bb u18), (35, u19), (19, u20), (11, ss a.fKey), (43, u27), (27, u21), (39, bb u28), (23, S.ptr 0 1), (15, S.ptr 0 1), (31, S.ptr 0 1)] 61 [(0, B.box (List.map S.t (e68 a)))]
abbrev T190_3 : Type := Bool → Bool → Bool → S → S → Bool → S → Bool → Bool → Bool → Bool → Bool → Bool → Bool → S → S → Bool → S → Bool → S → S → S → S → S → S → S → S → S → Bool → OS
def K190_3 (a : D68) (kk : PK S) : T190_3 := fun v0 v1 u2 u3 u4 u5 u6 u7 u8 u9 u10 u11 u12 u13 u14 u15 u16 u17 u18 u19 u20 u21 u22 u23 u24 u25 u26 u27 u28=> kk 6 17 26 (s190_3 a v0 v1 u2 u3 u4 u5 u6 u7 u8 u9 u10 u11 u12 u13 u14 u15 u16 u17 u18 u19 u20 u21 u22 u23 u24 u25 u26 u27 u28)
def s190_4 (a : D68) (v0 : Bool) (u1 : S) (u2 : Bool) (u3 u4 : S) (u5 : Bool) (u6 u7 : S) (u8 u9 : Bool) (u10 : S) (u11 u12 u13 u14 u15 u16 : Bool) (u17 : S) (u18 : Bool) (u19 u20 : S) (u21 : Bool) (u22 u23 : S) (u24 : Bool) (u25 u26 u27 u28 : S) (u29 : Bool) (u30 u31 u32 u33 u34 u35 u36 : S) (u37 : Bool) : St := mkSt [(0, ag (e68 a)), (32, ii a.fOp), (16, ii a.fOp), (48, u33), (40, u1), (24, ii a.fOp), (4, bb u2), (36, u3), (20, u4), (52, u30), (12, bb u5), (44, u6), (28, u7), (2, ii 0), (34, bb u8), (18, bb u9), (50, u34), (10, S.ptr 0 0), (42, u10), (26, bb u11), (38, bb u12), (22, bb u13), (54, u35), (14, bb u14), (46, bb u15), (30, bb u16), (1, S.ptr 0 0), (33, bb (ltI a.fOp 1)), (17, bb (eqI a.fOp 1)), (49, u36), (41, u17), (25, bb (eqI a.fOp 5)), (5, bb u18), (37, u19), (21, u20), (53, u31), (13, bb u21), (45, u22), (29, u23), (3, bb u24), (35, u25), (19, u26), (51, u32), (11, ss a.fKey), (43, u27), (27, u28), (39, bb u29), (23, S.ptr 0 1), (55, bb v0), (15, S.ptr 0 1), (47, bb u37), (31, S.ptr 0 1)] 61 [(0, B.box (List.map S.t (e68 a)))]
abbrev T190_4 : Type := Bool → S → Bool → S → S → Bool → S → S → Bool → Bool → S → Bool → Bool → Bool → Bool → Bool → Bool → S → Bool → S → S → Bool → S → S → Bool → S → S → S → S → Bool → S → S → S → S → S → S → S → Bool → OS
def K190_4 (a : D68) (kk : PK S) : T190_4 := fun v0 u1 u2 u3 u4 u5 u6 u7 u8 u9 u10 u11 u12 u13 u14 u15 u16 u17 u18 u19 u20 u21 u22 u23 u24 u25 u26 u27 u28 u29 u30 u31 u32 u33 u34 u35 u36 u37=> kk 6 26 26 (s190_4 a v0 u1 u2 u3 u4 u5 u6 u7 u8 u9 u10 u11 u12 u13 u14 u15 u16 u17 u18 u19 u20 u21 u22 u23 u24 u25 u26 u27 u28 u29 u30 u31 u32 u33 u34 u35 u36 u37)
def s190_5 (a : D68) (v0 : Bool) (u1 u2 : S) (u3 : Bool) (u4 u5 u6 : S) (u7 : Bool) (u8 u9 : S) (u10 u11 : Bool) (u12 u13 : S) (u14 u15 u16 : Bool) (u17 : S) (u18 u19 u20 : Bool) (u21 u22 : S) (u23 : Bool) (u24 u25 u26 : S) (u27 : Bool) (u28 u29 : S) (u30 : Bool) (u31 u32 u33 u34 u35 : S) (u36 u37 u38 u39 : Bool) (u40 u41 u42 : S) : St := mkSt [(0, ag (e68 a)), (32, ii a.fOp), (16, ii a.fOp), (48, u1), (40, u2), (24, ii a.fOp), (56, bb u39), (4, bb u3), (36, u4), (20, u5), (52, u6), (12, bb u7), (44, u8), (28, u9), (60, bb v0), (2, ii 0), (34, bb u10), (18, bb u11), (50, u12), (10, S.ptr 0 0), (42, u13), (26, bb u14), (58, u40), (38, bb u15), (22, bb u16), (54, u17), (14, bb u18), (46, bb u19), (30, bb u20), (1, S.ptr 0 0), (33, bb (ltI a.fOp 1)), (17, bb (eqI a.fOp 1)), (49, u21), (41, u22), (25, bb (eqI a.fOp 5)), (57, u41), (5, bb u23), (37, u24), (21, u25), (53, u26), (13, bb u27), (45, u28), (29, u29), (3, bb u30), (35, u31), (19, u32), (51, u33), (11, ss a.fKey), (43, u34), (27, u35), (59, u42), (39, bb u36), (23, S.ptr 0 1), (55, bb u37), (15, S.ptr 0 1), (47, bb u38), (31, S.ptr 0 1)] 61 [(0, B.box (List.map S.t (e68 a)))]
abbrev T190_5 : Type := Bool → S → S → Bool → S → S → S → Bool → S → S → Bool → Bool → S → S → Bool → Bool → Bool → S → Bool → Bool → Bool → S → S → Bool → S → S → S → Bool → S → S → Bool → S → S → S → S → S → Bool → Bool → Bool → Bool → S → S → S → OS
def K190_5 (a : D68) (kk : PK S) : T190_5 := fun v0 u1 u2 u3 u4 u5 u6 u7 u8 u9 u10 u11 u12 u13 u14 u15 u16 u17 u18 u19 u20 u21 u22 u23 u24 u25 u26 u27 u28 u29 u30 u31 u32 u33 u34 u35 u36 u37 u38 u39 u40 u41 u42=> kk 6 31 26 (s190_5 a v0 u1 u2 u3 u4 u5 u6 u7 u8 u9 u10 u11 u12 u13 u14 u15 u16 u17 u18 u19 u20 u21 u22 u23 u24 u25 u26 u27 u28 u29 u30 u31 u32 u33 u34 u35 u36 u37 u38 u39 u40 u41 u42)
def s190_6 (a : D68) (v0 : Int) : St := mkSt [(6, ii v0), (1, S.ptr 0 0)] 1 [(0, B.box (List.map S.t (e68 a)))]
def K190_6 (a : D68) (kk : PK S) : Int → OS := fun v0=> kk 11 0 0 (s190_6 a v0)
def s190_7 (a : D68) (v0 : Int) : St := mkSt [(8, ii v0), (1, S.ptr 0 0)] 1 [(0, B.box (List.map S.t (e68 a)))]
def K190_7 (a : D68) (kk : PK S) : Int → OS := fun v0=> kk 17 0 0 (s190_7 a v0)
def b190_0 (q : YF) (a : D68) (k1 : T190_1) (v0 u1 u2 u3 u4 : Bool) (u5 : S) (u6 : Bool) (u7 u8 : S) : OS := bif eqI a.fOp 5 then k1 v0 true u5 u1 u6 v0 u2 u7 u3 u4 u8 S.ud true S.ud S.ud else k1 v0 (eqI a.fOp 6) u5 u1 u6 v0 u2 u7 u3 u4 u8 (ii a.fOp) false (bb (eqI a.fOp 6)) (S.ptr 0 1)
def b190_1 (q : YF) (a : D68) (k2 : T190_2) (v0 v1 : Bool) (u2 : S) (u3 u4 u5 u6 : Bool) (u7 : S) (u8 u9 : Bool) (u10 u11 : S) (u12 : Bool) (u13 u14 : S) : OS := bif ltI a.fOp 1 then k2 v0 v1 true u2 u3 u11 u4 u12 u5 u6 v1 u7 u8 u13 u9 u10 u14 S.ud true S.ud S.ud else k2 v0 v1 (gtI a.fOp 6) u2 u3 u11 u4 u12 u5 u6 v1 u7 u8 u13 u9 u10 u14 (ii a.fOp) false (bb (gtI a.fOp 6)) (S.ptr 0 1)
def b190_2 (q : YF) (a : D68) (k3 : T190_3) (v0 v1 v2 : Bool) (u3 : S) (u4 : Bool) (u5 : S) (u6 u7 u8 u9 u10 : Bool) (u11 : S) (u12 : Bool) (u13 : S) (u14 : Bool) (u15 u16 u17 : S) (u18 : Bool) (u19 u20 : S) : OS := bif v2 then k3 true v1 v0 u17 u3 u4 u5 u18 u6 u7 v2 u8 u9 u10 u19 u11 u12 u13 u14 u20 u15 u16 S.ud S.ud S.ud S.ud S.ud S.ud true else k3 (!eqB v0 (gtI (ofN a.fVals.n) 0)) v1 v0 u17 u3 u4 u5 u18 u6 u7 v2 u8 u9 u10 u19 u11 u12 u13 u14 u20 u15 u16 (bb v0) (bb (gtI (ofN a.fVals.n) 0)) (S.t (T.rows 1 a.fVals.n fun i => [ts (a.fVals.get i)])) (S.ptr 0 2) (S.t (T.v (.bool !eqB v0 (gtI (ofN a.fVals.n) 0)))) (ii (ofN a.fVals.n)) false
def b190_3 (q : YF) (a : D68) (k4 : T190_4) (v0 v1 u2 : Bool) (u3 u4 : S) (u5 : Bool) (u6 : S) (u7 u8 u9 u10 u11 u12 u13 : Bool) (u14 u15 : S) (u16 : Bool) (u17 : S) (u18 : Bool) (u19 u20 u21 u22 u23 u24 u25 u26 u27 : S) (u28 : Bool) : OS := bif v0 then k4 true u22 u2 u3 u4 u5 u23 u6 u7 u8 u24 u9 u10 u11 u12 v0 u13 u25 v1 u14 u15 u16 u26 u17 u18 u19 u20 u27 u21 u28 S.ud S.ud S.ud S.ud S.ud S.ud S.ud true else bif !v1 then k4 (!eqI a.fN 0) u22 u2 u3 u4 u5 u23 u6 u7 u8 u24 u9 u10 u11 u12 v0 u13 u25 v1 u14 u15 u16 u26 u17 u18 u19 u20 u27 u21 u28 (ii a.fN) (S.t (T.v (.bool !eqI a.fN 0))) (S.ptr 0 3) (bb v1) (bb true) (S.t (T.v (.bool !eqI a.fN 0))) (bb !v1) false else k4 false u22 u2 u3 u4 u5 u23 u6 u7 u8 u24 u9 u10 u11 u12 v0 u13 u25 v1 u14 u15 u16 u26 u17 u18 u19 u20 u27 u21 u28 S.ud S.ud S.ud (bb v1) (bb false) (bb false) (bb !v1) false
def b190_4 (q : YF) (a : D68) (k5 : T190_5) (v0 : Bool) (u1 : S) (u2 : Bool) (u3 u4 : S) (u5 : Bool) (u6 u7 : S) (u8 u9 : Bool) (u10 : S) (u11 u12 u13 u14 u15 u16 : Bool) (u17 : S) (u18 : Bool) (u19 u20 : S) (u21 : Bool) (u22 u23 : S) (u24 : Bool) (u25 u26 u27 u28 : S) (u29 : Bool) (u30 u31 u32 u33 u34 u35 u36 : S) (u37 : Bool) : OS := bif v0 then k5 true u33 u1 u2 u3 u4 u30 u5 u6 u7 u8 u9 u34 u10 u11 u12 u13 u35 u14 u15 u16 u36 u17 u18 u19 u20 u31 u21 u22 u23 u24 u25 u26 u32 u27 u28 u29 v0 u37 true S.ud S.ud S.ud else k5 (ltI a.fN (Int.negSucc 2147483647)) u33 u1 u2 u3 u4 u30 u5 u6 u7 u8 u9 u34 u10 u11 u12 u13 u35 u14 u15 u16 u36 u17 u18 u19 u20 u31 u21 u22 u23 u24 u25 u26 u32 u27 u28 u29 v0 u37 false (ii a.fN) (S.ptr 0 3) (bb (ltI a.fN (Int.negSucc 2147483647)))
def b190_5 (q : YF) (a : D68) (k6 : Int → OS) (v0 : Bool) (u1 u2 : S) (u3 : Bool) (u4 u5 u6 : S) (u7 : Bool) (u8 u9 : S) (u10 u11 : Bool) (u12 u13 : S) (u14 u15 u16 : Bool) (u17 : S) (u18 u19 u20 : Bool) (u21 u22 : S) (u23 : Bool) (u24 u25 u26 : S) (u27 : Bool) (u28 u29 : S) (u30 : Bool) (u31 u32 u33 u34 u35 : S) (u36 u37 u38 u39 : Bool) (u40 u41 u42 : S) : OS := bif v0 then some (ii 30) else bif gtI a.fN 2147483648 then some (ii 30) else bif gtI (ofN a.fVals.n) 8 then some (ii 3) else k6 0
def b190_6 (q : YF) (a : D68) (k6 : Int → OS) (k7 : Int → OS) (v0 : Int) : OS := bif ltI v0 (ofN a.fVals.n) then elemO v0 a.fVals.n fun h => yC q 129 [ss (a.fVals.get (Fin.mk v0.toNat h))] fun y => bif !y.b 0 then some (ii 20) else k6 (addI .i64 v0 1) else k7 0
def b190_7 (q : YF) (a : D68) (k7 : Int → OS) (v0 : Int) : OS := bif ltI v0 (ofN a.fVals.n) then bif leI 0 v0 && leI v0 (ofN a.fVals.n) then subO 0 (toN v0) a.fVals.n fun h => elemO v0 a.fVals.n fun h_1 => yC q 219 [S.t (T.rows 1 (toN v0) fun i => [ts (a.fVals.get (Fin.mk (0 + ↑i) (by first | omega | (have := i.2; omega) | (have := i_1.2; omega))))]), ss (a.fVals.get (Fin.mk v0.toNat h_1))] fun y => bif y.b 0 then some (ii 6) else k7 (addI .i64 v0 1) else none else some (ii 0)
def e190_in (q : YF) (a : D68) (k0 : T190_0) : OS := yC q 71 [ss a.fKey] fun y => bif !y.b 0 then some (ii 7) else bif eqI a.fOp 1 then k0 true (y.b 0) (!y.b 0) (y.b 0) (y.b 0) S.ud true S.ud S.ud else k0 (eqI a.fOp 2) (y.b 0) (!y.b 0) (y.b 0) (y.b 0) (ii a.fOp) false (bb (eqI a.fOp 2)) (S.ptr 0 1)
structure X190 where
 x0 : Bool → OS
 x1 : Bool → Bool → OS
 x2 : Bool → Bool → Bool → OS
 x3 : Bool → Bool → OS
 x4 : Bool → OS
 x5 : Bool → OS
 x6 : Int → OS
 x7 : Int → OS
def D190_0 (X : X190) : T190_0 := fun v0 _ _ _ _ _ _ _ _ => X.x0 v0
def D190_1 (X : X190) : T190_1 := fun v0 v1 _ _ _ _ _ _ _ _ _ _ _ _ _ => X.x1 v0 v1
def D190_2 (X : X190) : T190_2 := fun v0 v1 v2 _ _ _ _ _ _ _ _ _ _ _ _ _ _ _ _ _ _ => X.x2 v0 v1 v2
def D190_3 (X : X190) : T190_3 := fun v0 v1 _ _ _ _ _ _ _ _ _ _ _ _ _ _ _ _ _ _ _ _ _ _ _ _ _ _ _ => X.x3 v0 v1
def D190_4 (X : X190) : T190_4 := fun v0 _ _ _ _ _ _ _ _ _ _ _ _ _ _ _ _ _ _ _ _ _ _ _ _ _ _ _ _ _ _ _ _ _ _ _ _ _ => X.x4 v0
def D190_5 (X : X190) : T190_5 := fun v0 _ _ _ _ _ _ _ _ _ _ _ _ _ _ _ _ _ _ _ _ _ _ _ _ _ _ _ _ _ _ _ _ _ _ _ _ _ _ _ _ _ _ => X.x5 v0
def D190_6 (X : X190) : Int → OS := fun v0 => X.x6 v0
def D190_7 (X : X190) : Int → OS := fun v0 => X.x7 v0
def X190s (q : YF) (a : D68) (X : X190) : X190 := ⟨fun v0 => b190_0 q a (D190_1 X) v0 dd dd dd dd dd dd dd dd,
 fun v0 v1 => b190_1 q a (D190_2 X) v0 v1 dd dd dd dd dd dd dd dd dd dd dd dd dd,
 fun v0 v1 v2 => b190_2 q a (D190_3 X) v0 v1 v2 dd dd dd dd dd dd dd dd dd dd dd dd dd dd dd dd dd dd,
 fun v0 v1 => b190_3 q a (D190_4 X) v0 v1 dd dd dd dd dd dd dd dd dd dd dd dd dd dd dd dd dd dd dd dd dd dd dd dd dd dd dd,
 fun v0 => b190_4 q a (D190_5 X) v0 dd dd dd dd dd dd dd dd dd dd dd dd dd dd dd dd dd dd dd dd dd dd dd dd dd dd dd dd dd dd dd dd dd dd dd dd dd,
 fun v0 => b190_5 q a (D190_6 X) v0 dd dd dd dd dd dd dd dd dd dd dd dd dd dd dd dd dd dd dd dd dd dd dd dd dd dd dd dd dd dd dd dd dd dd dd dd dd dd dd dd dd dd,
 fun v0 => b190_6 q a (D190_6 X) (D190_7 X) v0,
 fun v0 => b190_7 q a (D190_7 X) v0⟩
def X190n (q : YF) (a : D68) : Nat → X190
 | 0 => ⟨fun _ => none, fun _ _ => none, fun _ _ _ => none, fun _ _ => none, fun _ => none, fun _ => none, fun _ => none, fun _ => none⟩
 | n + 1 => X190s q a (X190n q a n)
theorem l190_0 (q : YF) (a : D68) (kk : PK S) : K190_0 a (P190 q kk) = b190_0 q a (K190_1 a kk) := by
 kernel_rfl
theorem l190_1 (q : YF) (a : D68) (kk : PK S) : K190_1 a (P190 q kk) = b190_1 q a (K190_2 a kk) := by
 kernel_rfl
theorem l190_2 (q : YF) (a : D68) (kk : PK S) : K190_2 a (P190 q kk) = b190_2 q a (K190_3 a kk) := by
 kernel_rfl
theorem l190_3 (q : YF) (a : D68) (kk : PK S) : K190_3 a (P190 q kk) = b190_3 q a (K190_4 a kk) := by
 kernel_rfl
theorem l190_4 (q : YF) (a : D68) (kk : PK S) : K190_4 a (P190 q kk) = b190_4 q a (K190_5 a kk) := by
 kernel_rfl
theorem l190_5 (q : YF) (a : D68) (kk : PK S) : K190_5 a (P190 q kk) = b190_5 q a (K190_6 a kk) := by
 kernel_rfl
theorem l190_6 (q : YF) (a : D68) (kk : PK S) : K190_6 a (P190 q kk) = b190_6 q a (K190_6 a kk) (K190_7 a kk) := by
 kernel_rfl
theorem l190_7 (q : YF) (a : D68) (kk : PK S) : K190_7 a (P190 q kk) = b190_7 q a (K190_7 a kk) := by
 kernel_rfl
theorem l190_in (q : YF) (a : D68) (kk : PK S) : BG q kk 190 Tryz.f190 [ag (e68 a)] = e190_in q a (K190_0 a kk) := by
 kernel_rfl
theorem h190 (q : YF) (a : D68) : ∀ n, K190_0 a (H190 q n) = D190_0 (X190n q a n) ∧ K190_1 a (H190 q n) = D190_1 (X190n q a n) ∧ K190_2 a (H190 q n) = D190_2 (X190n q a n) ∧ K190_3 a (H190 q n) = D190_3 (X190n q a n) ∧ K190_4 a (H190 q n) = D190_4 (X190n q a n) ∧ K190_5 a (H190 q n) = D190_5 (X190n q a n) ∧ K190_6 a (H190 q n) = D190_6 (X190n q a n) ∧ K190_7 a (H190 q n) = D190_7 (X190n q a n)
 | 0 => ⟨rfl, rfl, rfl, rfl, rfl, rfl, rfl, rfl⟩
 | n + 1 => by
  obtain ⟨h0, h1, h2, h3, h4, h5, h6, h7⟩ := h190 q a n
  exact ⟨(l190_0 q a (H190 q n)).trans (by rw [h1]; kernel_rfl), (l190_1 q a (H190 q n)).trans (by rw [h2]; kernel_rfl), (l190_2 q a (H190 q n)).trans (by rw [h3]; kernel_rfl), (l190_3 q a (H190 q n)).trans (by rw [h4]; kernel_rfl), (l190_4 q a (H190 q n)).trans (by rw [h5]; kernel_rfl), (l190_5 q a (H190 q n)).trans (by rw [h6]; kernel_rfl), (l190_6 q a (H190 q n)).trans (by rw [h6, h7]; kernel_rfl), (l190_7 q a (H190 q n)).trans (by rw [h7]; kernel_rfl)⟩
theorem W190 (a : D68) (n : Nat) (x : S) (h : e190_in (regs O) a (D190_0 (X190n (regs O) a n)) = some x) : (W O).callT 190 [ag (e68 a)] = some x := by
 refine WG (fn := Tryz.f190) (by kernel_rfl) (by kernel_rfl) (n := n) ?_
 refine (l190_in (regs O) a (H190 (regs O) n)).trans ?_
 obtain ⟨h0, h1, h2, h3, h4, h5, h6, h7⟩ := h190 (regs O) a n
 rw [h0]
 exact h
abbrev P191 (q : YF) (kk : PK S) : PK S := PG q 191 Tryz.f191 kk
abbrev H191 (q : YF) : Nat → PK S := HG q 191 Tryz.f191
def s191_0 (a : Rw BA) : St := mkSt [(0, S.t (T.rows 1 a.n fun i => [ts (a.get i)])), (4, ii 0), (3, S.t (T.v (.slice none 0 0)))] 0 []
def K191_0 (a : Rw BA) (kk : PK S) : OS := kk 3 0 0 (s191_0 a)
def s191_1 (a : Rw BA) (v0 : Rw0) (v1 : Int) : St := mkSt [(0, S.t (T.rows 1 a.n fun i => [ts (a.get i)])), (4, ii v1), (3, S.t (T.rows 1 v0.n v0.g))] 0 []
def K191_1 (a : Rw BA) (kk : PK S) : Rw0 → Int → OS := fun v0 v1=> kk 3 0 0 (s191_1 a v0 v1)
def b191_0 (q : YF) (a : Rw BA) (k1 : Rw0 → Int → OS) : OS := bif ltI 0 (ofN a.n) then elemO 0 a.n fun h => yC q 220 [S.t (T.v (.slice none 0 0)), ss (a.get (Fin.mk (Int.ofNat 0).toNat h))] fun y => k1 (y.r 0) 1 else some (S.t (T.rows 1 0 fun i => False.rec (fun x => List T) (by first | omega | (have := i.2; omega) | (have := i_1.2; omega))))
def b191_1 (q : YF) (a : Rw BA) (k1 : Rw0 → Int → OS) (v0 : Rw0) (v1 : Int) : OS := bif ltI v1 (ofN a.n) then elemO v1 a.n fun h => yC q 220 [S.t (T.rows 1 v0.n v0.g), ss (a.get (Fin.mk v1.toNat h))] fun y => k1 (y.r 0) (addI .i64 v1 1) else some (S.t (T.rows 1 v0.n v0.g))
def e191_in (q : YF) (a : Rw BA) (k0 : OS) : OS := k0
structure X191 where
 x0 : OS
 x1 : Rw0 → Int → OS
def D191_0 (X : X191) : OS := X.x0
def D191_1 (X : X191) : Rw0 → Int → OS := fun v0 v1 => X.x1 v0 v1
def X191s (q : YF) (a : Rw BA) (X : X191) : X191 := ⟨b191_0 q a (D191_1 X),
 fun v0 v1 => b191_1 q a (D191_1 X) v0 v1⟩
def X191n (q : YF) (a : Rw BA) : Nat → X191
 | 0 => ⟨none, fun _ _ => none⟩
 | n + 1 => X191s q a (X191n q a n)
theorem l191_0 (q : YF) (a : Rw BA) (kk : PK S) : K191_0 a (P191 q kk) = b191_0 q a (K191_1 a kk) := by
 kernel_rfl
theorem l191_1 (q : YF) (a : Rw BA) (kk : PK S) : K191_1 a (P191 q kk) = b191_1 q a (K191_1 a kk) := by
 kernel_rfl
theorem l191_in (q : YF) (a : Rw BA) (kk : PK S) : BG q kk 191 Tryz.f191 [S.t (T.rows 1 a.n fun i => e9 (a.get i))] = e191_in q a (K191_0 a kk) := by
 kernel_rfl
theorem h191 (q : YF) (a : Rw BA) : ∀ n, K191_0 a (H191 q n) = D191_0 (X191n q a n) ∧ K191_1 a (H191 q n) = D191_1 (X191n q a n)
 | 0 => ⟨rfl, rfl⟩
 | n + 1 => by
  obtain ⟨h0, h1⟩ := h191 q a n
  exact ⟨(l191_0 q a (H191 q n)).trans (by rw [h1]; kernel_rfl), (l191_1 q a (H191 q n)).trans (by rw [h1]; kernel_rfl)⟩
theorem W191 (a : Rw BA) (n : Nat) (x : S) (h : e191_in (regs O) a (D191_0 (X191n (regs O) a n)) = some x) : (W O).callT 191 [S.t (T.rows 1 a.n fun i => e9 (a.get i))] = some x := by
 refine WG (fn := Tryz.f191) (by kernel_rfl) (by kernel_rfl) (n := n) ?_
 refine (l191_in (regs O) a (H191 (regs O) n)).trans ?_
 obtain ⟨h0, h1⟩ := h191 (regs O) a n
 rw [h0]
 exact h
abbrev P192b (q : YF) (kk : PK S) : PK S := PG q 192 Tryz.f192 kk
abbrev H192b (q : YF) : Nat → PK S := HG q 192 Tryz.f192
def s192b_0 (a : Int) (b : Int) (v0 : Int) : St := mkSt [(0, ii v0), (2, S.t (T.v (.slice none 0 0))), (6, S.ptr 0 0), (1, ii b)] 1 [(0, B.box [bb false, bb false, bb false, S.t (T.v (.slice none 0 0)), ii 0, ii 0])]
def K192b_0 (a : Int) (b : Int) (kk : PK S) : Int → OS := fun v0=> kk 1 0 0 (s192b_0 a b v0)
def s192b_1 (a : Int) (b : Int) (v0 v1 : Int) : St := mkSt [(0, ii v0), (2, S.t (T.v (.slice none 0 0))), (6, S.ptr 0 0), (1, ii v1)] 1 [(0, B.box [bb false, bb false, bb false, S.t (T.v (.slice none 0 0)), ii 0, ii 0])]
def K192b_1 (a : Int) (b : Int) (kk : PK S) : Int → Int → OS := fun v0 v1=> kk 6 0 0 (s192b_1 a b v0 v1)
def s192b_2 (a : Int) (b : Int) (v0 v1 : Int) : St := mkSt [(0, ii v0), (12, S.t (T.v (.slice none 0 0))), (2, S.t (T.v (.slice none 0 0))), (6, S.ptr 0 0), (1, ii v1), (13, ii 0)] 1 [(0, B.box [bb false, bb false, bb false, S.t (T.v (.slice none 0 0)), ii 0, ii 0])]
def K192b_2 (a : Int) (b : Int) (kk : PK S) : Int → Int → OS := fun v0 v1=> kk 13 0 0 (s192b_2 a b v0 v1)
def s192b_3 (a : Int) (b : Int) (v0 v1 : Int) : St := mkSt [(16, S.t (T.v (.slice none 0 0))), (12, S.t (T.v (.slice none 0 0))), (6, S.ptr 0 0), (1, ii v0), (17, ii v1)] 1 [(0, B.box [bb false, bb false, bb false, S.t (T.v (.slice none 0 0)), ii 0, ii 0])]
def K192b_3 (a : Int) (b : Int) (kk : PK S) : Int → Int → OS := fun v0 v1=> kk 21 0 0 (s192b_3 a b v0 v1)
def s192b_4 (a : Int) (b : Int) (v0 : Rw0) (v1 v2 : Int) : St := mkSt [(16, S.t (T.rows 1 v0.n v0.g)), (12, S.t (T.v (.slice none 0 0))), (6, S.ptr 0 0), (1, ii v1), (17, ii v2)] 1 [(0, B.box [bb false, bb false, bb false, S.t (T.v (.slice none 0 0)), ii 0, ii 0])]
abbrev T192b_4 : Type := Rw0 → Int → Int → OS
def K192b_4 (a : Int) (b : Int) (kk : PK S) : T192b_4 := fun v0 v1 v2=> kk 21 0 0 (s192b_4 a b v0 v1 v2)
def b192b_0 (q : YF) (a : Int) (b : Int) (k0 : Int → OS) (k1 : Int → Int → OS) (v0 : Int) : OS := bif leI v0 b then yC q 193 [ii v0] fun y => yC q 219 [S.t (T.v (.slice none 0 0)), ss (y.s 0)] fun y => bif !y.b 0 then k1 v0 b else k0 (addI .i64 v0 1) else k1 v0 b
def b192b_1 (q : YF) (a : Int) (b : Int) (k1 : Int → Int → OS) (k2 : Int → Int → OS) (v0 v1 : Int) : OS := bif leI v0 v1 then yC q 193 [ii v1] fun y => yC q 219 [S.t (T.v (.slice none 0 0)), ss (y.s 0)] fun y => bif !y.b 0 then k2 v0 v1 else k1 v0 (subI .i64 v1 1) else k2 v0 v1
def b192b_2 (q : YF) (a : Int) (b : Int) (k3 : Int → Int → OS) (v0 v1 : Int) : OS := bif leI (subI .i64 (addI .i64 (subI .i64 v1 v0) 1) (ofN 0)) 64 then k3 v1 v0 else some (S.tup [S.agg [bb false, bb true, bb true, S.t (T.rows 1 0 fun i => False.rec (fun x => List T) (by first | omega | (have := i.2; omega) | (have := i_1.2; omega))), ii v0, ii v1], bb true])
def b192b_3 (q : YF) (a : Int) (b : Int) (k3 : Int → Int → OS) (k4 : T192b_4) (v0 v1 : Int) : OS := bif leI v1 v0 then yC q 193 [ii v1] fun y => yC q 219 [S.t (T.v (.slice none 0 0)), ss (y.s 0)] fun y_1 => bif !y_1.b 0 then yC q 220 [S.t (T.v (.slice none 0 0)), ss (y.s 0)] fun y => k4 (y.r 0) v0 (addI .i64 v1 1) else k3 v0 (addI .i64 v1 1) else some (S.tup [S.agg [bb false, bb false, bb false, S.t (T.rows 1 0 fun i => False.rec (fun x => List T) (by first | omega | (have := i.2; omega) | (have := i_1.2; omega))), ii 0, ii 0], bb true])
def b192b_4 (q : YF) (a : Int) (b : Int) (k4 : T192b_4) (v0 : Rw0) (v1 v2 : Int) : OS := bif leI v2 v1 then yC q 193 [ii v2] fun y => yC q 219 [S.t (T.v (.slice none 0 0)), ss (y.s 0)] fun y_1 => bif !y_1.b 0 then yC q 220 [S.t (T.rows 1 v0.n v0.g), ss (y.s 0)] fun y => k4 (y.r 0) v1 (addI .i64 v2 1) else k4 v0 v1 (addI .i64 v2 1) else some (S.tup [S.agg [bb false, bb false, bb false, S.t (T.rows 1 v0.n v0.g), ii 0, ii 0], bb true])
def e192b_in (q : YF) (a : Int) (b : Int) (k0 : Int → OS) : OS := k0 a
structure X192b where
 x0 : Int → OS
 x1 : Int → Int → OS
 x2 : Int → Int → OS
 x3 : Int → Int → OS
 x4 : Rw0 → Int → Int → OS
def D192b_0 (X : X192b) : Int → OS := fun v0 => X.x0 v0
def D192b_1 (X : X192b) : Int → Int → OS := fun v0 v1 => X.x1 v0 v1
def D192b_2 (X : X192b) : Int → Int → OS := fun v0 v1 => X.x2 v0 v1
def D192b_3 (X : X192b) : Int → Int → OS := fun v0 v1 => X.x3 v0 v1
def D192b_4 (X : X192b) : T192b_4 := fun v0 v1 v2 => X.x4 v0 v1 v2
def X192bs (q : YF) (a : Int) (b : Int) (X : X192b) : X192b := ⟨fun v0 => b192b_0 q a b (D192b_0 X) (D192b_1 X) v0,
 fun v0 v1 => b192b_1 q a b (D192b_1 X) (D192b_2 X) v0 v1,
 fun v0 v1 => b192b_2 q a b (D192b_3 X) v0 v1,
 fun v0 v1 => b192b_3 q a b (D192b_3 X) (D192b_4 X) v0 v1,
 fun v0 v1 v2 => b192b_4 q a b (D192b_4 X) v0 v1 v2⟩
def X192bn (q : YF) (a : Int) (b : Int) : Nat → X192b
 | 0 => ⟨fun _ => none, fun _ _ => none, fun _ _ => none, fun _ _ => none, fun _ _ _ => none⟩
 | n + 1 => X192bs q a b (X192bn q a b n)
theorem l192b_0 (q : YF) (a : Int) (b : Int) (kk : PK S) : K192b_0 a b (P192b q kk) = b192b_0 q a b (K192b_0 a b kk) (K192b_1 a b kk) := by
 kernel_rfl
theorem l192b_1 (q : YF) (a : Int) (b : Int) (kk : PK S) : K192b_1 a b (P192b q kk) = b192b_1 q a b (K192b_1 a b kk) (K192b_2 a b kk) := by
 kernel_rfl
theorem l192b_2 (q : YF) (a : Int) (b : Int) (kk : PK S) : K192b_2 a b (P192b q kk) = b192b_2 q a b (K192b_3 a b kk) := by
 kernel_rfl
theorem l192b_3 (q : YF) (a : Int) (b : Int) (kk : PK S) : K192b_3 a b (P192b q kk) = b192b_3 q a b (K192b_3 a b kk) (K192b_4 a b kk) := by
 kernel_rfl
theorem l192b_4 (q : YF) (a : Int) (b : Int) (kk : PK S) : K192b_4 a b (P192b q kk) = b192b_4 q a b (K192b_4 a b kk) := by
 kernel_rfl
theorem l192b_in (q : YF) (a : Int) (b : Int) (kk : PK S) : BG q kk 192 Tryz.f192 [ii a, ii b, S.t (T.v (.slice none 0 0))] = e192b_in q a b (K192b_0 a b kk) := by
 kernel_rfl
theorem h192b (q : YF) (a : Int) (b : Int) : ∀ n, K192b_0 a b (H192b q n) = D192b_0 (X192bn q a b n) ∧ K192b_1 a b (H192b q n) = D192b_1 (X192bn q a b n) ∧ K192b_2 a b (H192b q n) = D192b_2 (X192bn q a b n) ∧ K192b_3 a b (H192b q n) = D192b_3 (X192bn q a b n) ∧ K192b_4 a b (H192b q n) = D192b_4 (X192bn q a b n)
 | 0 => ⟨rfl, rfl, rfl, rfl, rfl⟩
 | n + 1 => by
  obtain ⟨h0, h1, h2, h3, h4⟩ := h192b q a b n
  exact ⟨(l192b_0 q a b (H192b q n)).trans (by rw [h0, h1]; kernel_rfl), (l192b_1 q a b (H192b q n)).trans (by rw [h1, h2]; kernel_rfl), (l192b_2 q a b (H192b q n)).trans (by rw [h3]; kernel_rfl), (l192b_3 q a b (H192b q n)).trans (by rw [h3, h4]; kernel_rfl), (l192b_4 q a b (H192b q n)).trans (by rw [h4]; kernel_rfl)⟩
theorem W192b (a : Int) (b : Int) (n : Nat) (x : S) (h : e192b_in (regs O) a b (D192b_0 (X192bn (regs O) a b n)) = some x) : (W O).callT 192 [ii a, ii b, S.t (T.v (.slice none 0 0))] = some x := by
 refine WG (fn := Tryz.f192) (by kernel_rfl) (by kernel_rfl) (n := n) ?_
 refine (l192b_in (regs O) a b (H192b (regs O) n)).trans ?_
 obtain ⟨h0, h1, h2, h3, h4⟩ := h192b (regs O) a b n
 rw [h0]
 exact h
abbrev P193 (q : YF) (kk : PK S) : PK S := PG q 193 Tryz.f193 kk
abbrev H193 (q : YF) : Nat → PK S := HG q 193 Tryz.f193
def s193_0 (a : Int) (v0 : Int) (v1 : BA) : St := mkSt [(0, ii a), (4, ii v0), (3, ss v1)] 0 []
abbrev T193_0 : Type := Int → BA → OS
def K193_0 (a : Int) (kk : PK S) : T193_0 := fun v0 v1=> kk 3 0 0 (s193_0 a v0 v1)
def b193_0 (q : YF) (a : Int) (k0 : T193_0) (v0 : Int) (v1 : BA) : OS := bif ltI (remI v0 10) 0 then bif fitS (bytesS [wrapI .u8 (addI .i64 48 (subI .i64 0 (remI v0 10)))]) v1 then bif eqI (quoI .i64 v0 10) 0 then bif ltI a 0 then bif fitS (bs [45]) (catS (bytesS [wrapI .u8 (addI .i64 48 (subI .i64 0 (remI v0 10)))]) v1) then some (ss (catS (bs [45]) (catS (bytesS [wrapI .u8 (addI .i64 48 (subI .i64 0 (remI v0 10)))]) v1))) else none else some (ss (catS (bytesS [wrapI .u8 (addI .i64 48 (subI .i64 0 (remI v0 10)))]) v1)) else k0 (quoI .i64 v0 10) (catS (bytesS [wrapI .u8 (addI .i64 48 (subI .i64 0 (remI v0 10)))]) v1) else none else bif fitS (bytesS [wrapI .u8 (addI .i64 48 (remI v0 10))]) v1 then bif eqI (quoI .i64 v0 10) 0 then bif ltI a 0 then bif fitS (bs [45]) (catS (bytesS [wrapI .u8 (addI .i64 48 (remI v0 10))]) v1) then some (ss (catS (bs [45]) (catS (bytesS [wrapI .u8 (addI .i64 48 (remI v0 10))]) v1))) else none else some (ss (catS (bytesS [wrapI .u8 (addI .i64 48 (remI v0 10))]) v1)) else k0 (quoI .i64 v0 10) (catS (bytesS [wrapI .u8 (addI .i64 48 (remI v0 10))]) v1) else none
def e193_in (q : YF) (a : Int) (k0 : T193_0) : OS := k0 a (bs [])
structure X193 where
 x0 : Int → BA → OS
def D193_0 (X : X193) : T193_0 := fun v0 v1 => X.x0 v0 v1
def X193s (q : YF) (a : Int) (X : X193) : X193 := ⟨fun v0 v1 => b193_0 q a (D193_0 X) v0 v1⟩
def X193n (q : YF) (a : Int) : Nat → X193
 | 0 => ⟨fun _ _ => none⟩
 | n + 1 => X193s q a (X193n q a n)
theorem l193_0 (q : YF) (a : Int) (kk : PK S) : K193_0 a (P193 q kk) = b193_0 q a (K193_0 a kk) := by
 kernel_rfl
theorem l193_in (q : YF) (a : Int) (kk : PK S) : BG q kk 193 Tryz.f193 [ii a] = e193_in q a (K193_0 a kk) := by
 kernel_rfl
theorem h193 (q : YF) (a : Int) : ∀ n, K193_0 a (H193 q n) = D193_0 (X193n q a n)
 | 0 => rfl
 | n + 1 => by
  have h0 := h193 q a n
  exact (l193_0 q a (H193 q n)).trans (by rw [h0]; kernel_rfl)
theorem W193 (a : Int) (n : Nat) (x : S) (h : e193_in (regs O) a (D193_0 (X193n (regs O) a n)) = some x) : (W O).callT 193 [ii a] = some x := by
 refine WG (fn := Tryz.f193) (by kernel_rfl) (by kernel_rfl) (n := n) ?_
 refine (l193_in (regs O) a (H193 (regs O) n)).trans ?_
 have h0 := h193 (regs O) a n
 rw [h0]
 exact h
abbrev P215 (q : YF) (kk : PK S) : PK S := PG q 215 Tryz.f215 kk
abbrev H215 (q : YF) : Nat → PK S := HG q 215 Tryz.f215
def s215_0 (a : D68) (v0 u1 : Bool) (u2 u3 u4 : S) : St := mkSt [(0, ag (e68 a)), (8, bb u1), (12, bb v0), (2, ii 0), (10, u2), (6, ii a.fOp), (1, S.ptr 0 0), (9, u3), (5, S.ptr 0 1), (11, u4), (7, bb (eqI a.fOp 1))] 11 [(0, B.box (List.map S.t (e68 a)))]
abbrev T215_0 : Type := Bool → Bool → S → S → S → OS
def K215_0 (a : D68) (kk : PK S) : T215_0 := fun v0 u1 u2 u3 u4=> kk 1 9 2 (s215_0 a v0 u1 u2 u3 u4)
def s215_1 (a : D68) (v0 v1 u2 u3 : Bool) (u4 u5 u6 : S) (u7 : Bool) (u8 u9 u10 : S) : St := mkSt [(0, ag (e68 a)), (16, bb u7), (8, bb u2), (20, bb v1), (12, bb u3), (2, ii 0), (18, u8), (10, u4), (6, ii a.fOp), (14, ii a.fOp), (1, S.ptr 0 0), (17, u9), (9, u5), (5, S.ptr 0 1), (13, S.ptr 0 1), (3, bb v0), (19, u10), (11, u6), (7, bb (eqI a.fOp 1)), (15, bb (eqI a.fOp 5))] 20 [(0, B.box (List.map S.t (e68 a)))]
abbrev T215_1 : Type := Bool → Bool → Bool → Bool → S → S → S → Bool → S → S → S → OS
def K215_1 (a : D68) (kk : PK S) : T215_1 := fun v0 v1 u2 u3 u4 u5 u6 u7 u8 u9 u10=> kk 2 9 11 (s215_1 a v0 v1 u2 u3 u4 u5 u6 u7 u8 u9 u10)
def s215_2 (a : D68) (v0 v1 v2 u3 u4 u5 u6 u7 : Bool) (u8 u9 u10 u11 : S) (u12 u13 : Bool) (u14 u15 u16 : S) (u17 : Bool) (u18 u19 : S) : St := mkSt [(0, ag (e68 a)), (32, u16), (16, bb u3), (8, bb u4), (24, bb u5), (4, bb v0), (20, bb u6), (12, bb u7), (28, ii a.fOp), (2, ii 0), (34, bb v2), (18, u8), (10, u9), (6, ii a.fOp), (22, S.ptr 0 0), (14, ii a.fOp), (30, bb u17), (1, S.ptr 0 0), (33, u18), (17, u10), (9, u11), (25, bb u12), (5, S.ptr 0 1), (21, bb u13), (13, S.ptr 0 1), (29, bb (ltI a.fOp 1)), (3, bb v1), (19, u14), (11, u15), (27, S.ptr 0 1), (7, bb (eqI a.fOp 1)), (23, ss a.fKey), (15, bb (eqI a.fOp 5)), (31, u19)] 34 [(0, B.box (List.map S.t (e68 a)))]
abbrev T215_2 : Type := Bool → Bool → Bool → Bool → Bool → Bool → Bool → Bool → S → S → S → S → Bool → Bool → S → S → S → Bool → S → S → OS
def K215_2 (a : D68) (kk : PK S) : T215_2 := fun v0 v1 v2 u3 u4 u5 u6 u7 u8 u9 u10 u11 u12 u13 u14 u15 u16 u17 u18 u19=> kk 5 9 25 (s215_2 a v0 v1 v2 u3 u4 u5 u6 u7 u8 u9 u10 u11 u12 u13 u14 u15 u16 u17 u18 u19)
def s215_3 (a : D68) (v0 : Bool) (u1 : S) (u2 u3 u4 u5 u6 u7 u8 u9 : Bool) (u10 u11 : S) (u12 u13 u14 : Bool) (u15 u16 u17 : S) (u18 u19 u20 u21 u22 : Bool) (u23 u24 u25 u26 u27 u28 : S) (u29 : Bool) : St := mkSt [(0, ag (e68 a)), (32, u1), (16, bb u2), (8, bb u3), (40, bb u4), (24, bb u5), (4, bb u6), (36, S.ptr 0 2), (20, bb u7), (12, bb u8), (44, u26), (28, ii a.fOp), (2, ii 0), (34, bb u9), (18, u10), (10, u11), (42, bb u12), (26, bb u13), (6, ii a.fOp), (38, ii (ofN a.fVals.n)), (22, S.ptr 0 0), (14, ii a.fOp), (46, u27), (30, bb u14), (1, S.ptr 0 0), (33, u15), (17, u16), (9, u17), (41, bb u18), (25, bb u19), (5, S.ptr 0 1), (37, S.t (T.rows 1 a.fVals.n fun i => [ts (a.fVals.get i)])), (21, bb u20), (13, S.ptr 0 1), (45, u28), (29, bb (ltI a.fOp 1)), (3, bb u21), (35, bb u22), (19, u23), (11, u24), (43, bb u29), (27, S.ptr 0 1), (7, bb (eqI a.fOp 1)), (39, bb (gtI (ofN a.fVals.n) 0)), (23, ss a.fKey), (15, bb (eqI a.fOp 5)), (47, bb v0), (31, u25)] 49 [(0, B.box (List.map S.t (e68 a)))]
abbrev T215_3 : Type := Bool → S → Bool → Bool → Bool → Bool → Bool → Bool → Bool → Bool → S → S → Bool → Bool → Bool → S → S → S → Bool → Bool → Bool → Bool → Bool → S → S → S → S → S → S → Bool → OS
def K215_3 (a : D68) (kk : PK S) : T215_3 := fun v0 u1 u2 u3 u4 u5 u6 u7 u8 u9 u10 u11 u12 u13 u14 u15 u16 u17 u18 u19 u20 u21 u22 u23 u24 u25 u26 u27 u28 u29=> kk 7 8 41 (s215_3 a v0 u1 u2 u3 u4 u5 u6 u7 u8 u9 u10 u11 u12 u13 u14 u15 u16 u17 u18 u19 u20 u21 u22 u23 u24 u25 u26 u27 u28 u29)
def b215_0 (q : YF) (a : D68) (k1 : T215_1) (v0 u1 : Bool) (u2 u3 u4 : S) : OS := bif eqI a.fOp 5 then k1 v0 true u1 v0 u2 u3 u4 true S.ud S.ud S.ud else k1 v0 (eqI a.fOp 6) u1 v0 u2 u3 u4 false (ii a.fOp) (S.ptr 0 1) (bb (eqI a.fOp 6))
def b215_1 (q : YF) (a : D68) (k2 : T215_2) (v0 v1 u2 u3 : Bool) (u4 u5 u6 : S) (u7 : Bool) (u8 u9 u10 : S) : OS := yC q 101 [ss a.fKey] fun y => bif !y.b 0 then some (ii 7) else bif ltI a.fOp 1 then k2 v1 v0 true u7 u2 (y.b 0) v1 u3 u8 u4 u9 u5 (!y.b 0) (!y.b 0) u10 u6 S.ud true S.ud S.ud else k2 v1 v0 (gtI a.fOp 6) u7 u2 (y.b 0) v1 u3 u8 u4 u9 u5 (!y.b 0) (!y.b 0) u10 u6 (ii a.fOp) false (bb (gtI a.fOp 6)) (S.ptr 0 1)
def b215_2 (q : YF) (a : D68) (k3 : T215_3) (v0 v1 v2 u3 u4 u5 u6 u7 : Bool) (u8 u9 u10 u11 : S) (u12 u13 : Bool) (u14 u15 u16 : S) (u17 : Bool) (u18 u19 : S) : OS := bif v2 then bif v2 then some (ii 30) else bif gtI (ofN a.fVals.n) 8 then some (ii 3) else yC q 151 [S.t (T.rows 1 a.fVals.n fun i => [ts (a.fVals.get i)]), S.t (T.v (.func (Go.Fn.func 229) #[] #[]))] fun y => bif y.b 0 then some (ii 20) else yC q 217 [S.t (T.rows 1 1 fun i => List.take 1 (List.drop (↑i * 1) [T.rows 1 a.fVals.n fun i => [ts (a.fVals.get i)]]))] fun y => matW (y.m 0) (bif ltI (ofN (lenE (y.m 0))) (ofN a.fVals.n) then some (ii 6) else some (ii 0)) else bif !eqB v1 (gtI (ofN a.fVals.n) 0) then bif !eqB v1 (gtI (ofN a.fVals.n) 0) then some (ii 30) else bif gtI (ofN a.fVals.n) 8 then some (ii 3) else yC q 151 [S.t (T.rows 1 a.fVals.n fun i => [ts (a.fVals.get i)]), S.t (T.v (.func (Go.Fn.func 229) #[] #[]))] fun y => bif y.b 0 then some (ii 20) else yC q 217 [S.t (T.rows 1 1 fun i => List.take 1 (List.drop (↑i * 1) [T.rows 1 a.fVals.n fun i => [ts (a.fVals.get i)]]))] fun y => matW (y.m 0) (bif ltI (ofN (lenE (y.m 0))) (ofN a.fVals.n) then some (ii 6) else some (ii 0)) else bif !v0 then k3 (!eqI a.fN 0) u16 u3 u4 (!eqB v1 (gtI (ofN a.fVals.n) 0)) u5 v0 u6 u7 v2 u8 u9 (!v0) (!eqB v1 (gtI (ofN a.fVals.n) 0)) u17 u18 u10 u11 v0 u12 u13 v1 v1 u14 u15 u19 (S.ptr 0 3) (S.t (T.v (.bool !eqI a.fN 0))) (ii a.fN) true else k3 false u16 u3 u4 (!eqB v1 (gtI (ofN a.fVals.n) 0)) u5 v0 u6 u7 v2 u8 u9 (!v0) (!eqB v1 (gtI (ofN a.fVals.n) 0)) u17 u18 u10 u11 v0 u12 u13 v1 v1 u14 u15 u19 S.ud S.ud S.ud false
def b215_3 (q : YF) (a : D68) (v0 : Bool) (u1 : S) (u2 u3 u4 u5 u6 u7 u8 u9 : Bool) (u10 u11 : S) (u12 u13 u14 : Bool) (u15 u16 u17 : S) (u18 u19 u20 u21 u22 : Bool) (u23 u24 u25 u26 u27 u28 : S) (u29 : Bool) : OS := bif v0 then bif v0 then some (ii 30) else bif gtI (ofN a.fVals.n) 8 then some (ii 3) else yC q 151 [S.t (T.rows 1 a.fVals.n fun i => [ts (a.fVals.get i)]), S.t (T.v (.func (Go.Fn.func 229) #[] #[]))] fun y => bif y.b 0 then some (ii 20) else yC q 217 [S.t (T.rows 1 1 fun i => List.take 1 (List.drop (↑i * 1) [T.rows 1 a.fVals.n fun i => [ts (a.fVals.get i)]]))] fun y => matW (y.m 0) (bif ltI (ofN (lenE (y.m 0))) (ofN a.fVals.n) then some (ii 6) else some (ii 0)) else bif ltI a.fN (Int.negSucc 2147483647) then bif ltI a.fN (Int.negSucc 2147483647) then some (ii 30) else bif gtI (ofN a.fVals.n) 8 then some (ii 3) else yC q 151 [S.t (T.rows 1 a.fVals.n fun i => [ts (a.fVals.get i)]), S.t (T.v (.func (Go.Fn.func 229) #[] #[]))] fun y => bif y.b 0 then some (ii 20) else yC q 217 [S.t (T.rows 1 1 fun i => List.take 1 (List.drop (↑i * 1) [T.rows 1 a.fVals.n fun i => [ts (a.fVals.get i)]]))] fun y => matW (y.m 0) (bif ltI (ofN (lenE (y.m 0))) (ofN a.fVals.n) then some (ii 6) else some (ii 0)) else bif gtI a.fN 2147483648 then some (ii 30) else bif gtI (ofN a.fVals.n) 8 then some (ii 3) else yC q 151 [S.t (T.rows 1 a.fVals.n fun i => [ts (a.fVals.get i)]), S.t (T.v (.func (Go.Fn.func 229) #[] #[]))] fun y => bif y.b 0 then some (ii 20) else yC q 217 [S.t (T.rows 1 1 fun i => List.take 1 (List.drop (↑i * 1) [T.rows 1 a.fVals.n fun i => [ts (a.fVals.get i)]]))] fun y => matW (y.m 0) (bif ltI (ofN (lenE (y.m 0))) (ofN a.fVals.n) then some (ii 6) else some (ii 0))
def e215_in (q : YF) (a : D68) (k0 : T215_0) : OS := bif eqI a.fOp 1 then k0 true true S.ud S.ud S.ud else k0 (eqI a.fOp 2) false (ii a.fOp) (S.ptr 0 1) (bb (eqI a.fOp 2))
structure X215 where
 x0 : Bool → OS
 x1 : Bool → Bool → OS
 x2 : Bool → Bool → Bool → OS
 x3 : Bool → OS
def D215_0 (X : X215) : T215_0 := fun v0 _ _ _ _ => X.x0 v0
def D215_1 (X : X215) : T215_1 := fun v0 v1 _ _ _ _ _ _ _ _ _ => X.x1 v0 v1
def D215_2 (X : X215) : T215_2 := fun v0 v1 v2 _ _ _ _ _ _ _ _ _ _ _ _ _ _ _ _ _ => X.x2 v0 v1 v2
def D215_3 (X : X215) : T215_3 := fun v0 _ _ _ _ _ _ _ _ _ _ _ _ _ _ _ _ _ _ _ _ _ _ _ _ _ _ _ _ _ => X.x3 v0
def X215s (q : YF) (a : D68) (X : X215) : X215 := ⟨fun v0 => b215_0 q a (D215_1 X) v0 dd dd dd dd,
 fun v0 v1 => b215_1 q a (D215_2 X) v0 v1 dd dd dd dd dd dd dd dd dd,
 fun v0 v1 v2 => b215_2 q a (D215_3 X) v0 v1 v2 dd dd dd dd dd dd dd dd dd dd dd dd dd dd dd dd dd,
 fun v0 => b215_3 q a v0 dd dd dd dd dd dd dd dd dd dd dd dd dd dd dd dd dd dd dd dd dd dd dd dd dd dd dd dd dd⟩
def X215n (q : YF) (a : D68) : Nat → X215
 | 0 => ⟨fun _ => none, fun _ _ => none, fun _ _ _ => none, fun _ => none⟩
 | n + 1 => X215s q a (X215n q a n)
theorem l215_0 (q : YF) (a : D68) (kk : PK S) : K215_0 a (P215 q kk) = b215_0 q a (K215_1 a kk) := by
 kernel_rfl
theorem l215_1 (q : YF) (a : D68) (kk : PK S) : K215_1 a (P215 q kk) = b215_1 q a (K215_2 a kk) := by
 kernel_rfl
theorem l215_2 (q : YF) (a : D68) (kk : PK S) : K215_2 a (P215 q kk) = b215_2 q a (K215_3 a kk) := by
 kernel_rfl
theorem l215_3 (q : YF) (a : D68) (kk : PK S) : K215_3 a (P215 q kk) = b215_3 q a := by
 kernel_rfl
theorem l215_in (q : YF) (a : D68) (kk : PK S) : BG q kk 215 Tryz.f215 [ag (e68 a)] = e215_in q a (K215_0 a kk) := by
 kernel_rfl
theorem h215 (q : YF) (a : D68) : ∀ n, K215_0 a (H215 q n) = D215_0 (X215n q a n) ∧ K215_1 a (H215 q n) = D215_1 (X215n q a n) ∧ K215_2 a (H215 q n) = D215_2 (X215n q a n) ∧ K215_3 a (H215 q n) = D215_3 (X215n q a n)
 | 0 => ⟨rfl, rfl, rfl, rfl⟩
 | n + 1 => by
  obtain ⟨h0, h1, h2, h3⟩ := h215 q a n
  exact ⟨(l215_0 q a (H215 q n)).trans (by rw [h1]; kernel_rfl), (l215_1 q a (H215 q n)).trans (by rw [h2]; kernel_rfl), (l215_2 q a (H215 q n)).trans (by rw [h3]; kernel_rfl), (l215_3 q a (H215 q n)).trans (by kernel_rfl)⟩
theorem W215 (a : D68) (n : Nat) (x : S) (h : e215_in (regs O) a (D215_0 (X215n (regs O) a n)) = some x) : (W O).callT 215 [ag (e68 a)] = some x := by
 refine WG (fn := Tryz.f215) (by kernel_rfl) (by kernel_rfl) (n := n) ?_
 refine (l215_in (regs O) a (H215 (regs O) n)).trans ?_
 obtain ⟨h0, h1, h2, h3⟩ := h215 (regs O) a n
 rw [h0]
 exact h
abbrev P217 (q : YF) (kk : PK S) : PK S := PG q 217 Tryz.f217 kk
abbrev H217 (q : YF) : Nat → PK S := HG q 217 Tryz.f217
def s217_0 (a : Rw (Rw BA)) (v0 : Int) (v1 : List (S × S)) : St := mkSt [(10, ii (ofN a.n)), (9, S.t (T.rows 1 a.n fun i => [T.rows 1 (a.get i).n fun i_1 => [ts ((a.get i).get i_1)]])), (3, S.mp 0), (11, ii v0)] 1 [(0, B.mp false v1)]
def K217_0 (a : Rw (Rw BA)) (kk : PK S) : Int → (List (S × S)) → OS := fun v0 v1=> kk 3 0 0 (s217_0 a v0 v1)
def s217_1 (a : Rw (Rw BA)) (v0 : Int) (v1 : Rw BA) (v2 : Int) (v3 : List (S × S)) (v4 : Int) : St := mkSt [(16, ii v0), (10, ii (ofN a.n)), (17, ii v2), (9, S.t (T.rows 1 a.n fun i => [T.rows 1 (a.get i).n fun i_1 => [ts ((a.get i).get i_1)]])), (3, S.mp 0), (11, ii v4), (15, S.t (T.rows 1 v1.n fun i => [ts (v1.get i)]))] 1 [(0, B.mp false v3)]
def K217_1 (a : Rw (Rw BA)) (kk : PK S) : Int → (Rw BA) → Int → (List (S × S)) → Int → OS := fun v0 v1 v2 v3 v4=> kk 6 0 0 (s217_1 a v0 v1 v2 v3 v4)
def b217_0 (q : YF) (a : Rw (Rw BA)) (k1 : Int → (Rw BA) → Int → (List (S × S)) → Int → OS) (v0 : Int) (v1 : List (S × S)) : OS := bif ltI v0 (ofN a.n) then elemO v0 a.n fun h => flatW 900 v1 (k1 (ofN (a.get (Fin.mk v0.toNat h)).n) (a.get (Fin.mk v0.toNat h)) 0 v1 v0) else flatW 900 v1 (flatW 999 v1 (some (S.mt v1)))
def b217_1 (q : YF) (a : Rw (Rw BA)) (k0 : Int → (List (S × S)) → OS) (k1 : Int → (Rw BA) → Int → (List (S × S)) → Int → OS) (v0 : Int) (v1 : Rw BA) (v2 : Int) (v3 : List (S × S)) (v4 : Int) : OS := bif ltI v2 v0 then elemO v2 v1.n fun h => updW O.P O.K 9 v3 (ss (v1.get (Fin.mk v2.toNat h))) (bb true) fun m => flatW 900 m (k1 v0 v1 (addI .i64 v2 1) m v4) else flatW 900 v3 (flatW 900 v3 (k0 (addI .i64 v4 1) v3))
def e217_in (q : YF) (a : Rw (Rw BA)) (k0 : Int → (List (S × S)) → OS) : OS := flatW 900 [] (k0 0 [])
structure X217 where
 x0 : Int → (List (S × S)) → OS
 x1 : Int → (Rw BA) → Int → (List (S × S)) → Int → OS
def D217_0 (X : X217) : Int → (List (S × S)) → OS := fun v0 v1 => X.x0 v0 v1
def D217_1 (X : X217) : Int → (Rw BA) → Int → (List (S × S)) → Int → OS := fun v0 v1 v2 v3 v4 => X.x1 v0 v1 v2 v3 v4
def X217s (q : YF) (a : Rw (Rw BA)) (X : X217) : X217 := ⟨fun v0 v1 => b217_0 q a (D217_1 X) v0 v1,
 fun v0 v1 v2 v3 v4 => b217_1 q a (D217_0 X) (D217_1 X) v0 v1 v2 v3 v4⟩
def X217n (q : YF) (a : Rw (Rw BA)) : Nat → X217
 | 0 => ⟨fun _ _ => none, fun _ _ _ _ _ => none⟩
 | n + 1 => X217s q a (X217n q a n)
theorem l217_0 (q : YF) (a : Rw (Rw BA)) (kk : PK S) : K217_0 a (P217 q kk) = b217_0 q a (K217_1 a kk) := by
 kernel_rfl
theorem l217_1 (q : YF) (a : Rw (Rw BA)) (kk : PK S) : K217_1 a (P217 q kk) = b217_1 q a (K217_0 a kk) (K217_1 a kk) := by
 kernel_rfl
theorem l217_in (q : YF) (a : Rw (Rw BA)) (kk : PK S) : BG q kk 217 Tryz.f217 [S.t (T.rows 1 a.n fun i => e31 (a.get i))] = e217_in q a (K217_0 a kk) := by
 kernel_rfl
theorem h217 (q : YF) (a : Rw (Rw BA)) : ∀ n, K217_0 a (H217 q n) = D217_0 (X217n q a n) ∧ K217_1 a (H217 q n) = D217_1 (X217n q a n)
 | 0 => ⟨rfl, rfl⟩
 | n + 1 => by
  obtain ⟨h0, h1⟩ := h217 q a n
  exact ⟨(l217_0 q a (H217 q n)).trans (by rw [h1]; kernel_rfl), (l217_1 q a (H217 q n)).trans (by rw [h0, h1]; kernel_rfl)⟩
theorem W217 (a : Rw (Rw BA)) (n : Nat) (x : S) (h : e217_in (regs O) a (D217_0 (X217n (regs O) a n)) = some x) : (W O).callT 217 [S.t (T.rows 1 a.n fun i => e31 (a.get i))] = some x := by
 refine WG (fn := Tryz.f217) (by kernel_rfl) (by kernel_rfl) (n := n) ?_
 refine (l217_in (regs O) a (H217 (regs O) n)).trans ?_
 obtain ⟨h0, h1⟩ := h217 (regs O) a n
 rw [h0]
 exact h
abbrev P217b (q : YF) (kk : PK S) : PK S := PG q 217 Tryz.f217 kk
abbrev H217b (q : YF) : Nat → PK S := HG q 217 Tryz.f217
def s217b_0 : St := mkSt [(10, ii (ofN 0)), (9, S.t (T.v (.slice none 0 0))), (3, S.mp 0), (11, ii 0)] 1 [(0, B.mp false [])]
def K217b_0 (kk : PK S) : OS := kk 3 0 0 (s217b_0)
def b217b_0 (q : YF) : OS := flatW 900 [] (flatW 999 [] (some (S.mt [])))
def e217b_in (q : YF) (k0 : OS) : OS := flatW 900 [] k0
structure X217b where
 x0 : OS
def D217b_0 (X : X217b) : OS := X.x0
def X217bs (q : YF) (X : X217b) : X217b := ⟨b217b_0 q⟩
def X217bn (q : YF) : Nat → X217b
 | 0 => ⟨none⟩
 | n + 1 => X217bs q (X217bn q n)
theorem l217b_0 (q : YF) (kk : PK S) : K217b_0 (P217b q kk) = b217b_0 q := by
 kernel_rfl
theorem l217b_in (q : YF) (kk : PK S) : BG q kk 217 Tryz.f217 [S.t (T.v (.slice none 0 0))] = e217b_in q (K217b_0 kk) := by
 kernel_rfl
theorem h217b (q : YF) : ∀ n, K217b_0 (H217b q n) = D217b_0 (X217bn q n)
 | 0 => rfl
 | n + 1 => by
  have h0 := h217b q n
  exact (l217b_0 q (H217b q n)).trans (by kernel_rfl)
theorem W217b (n : Nat) (x : S) (h : e217b_in (regs O) (D217b_0 (X217bn (regs O) n)) = some x) : (W O).callT 217 [S.t (T.v (.slice none 0 0))] = some x := by
 refine WG (fn := Tryz.f217) (by kernel_rfl) (by kernel_rfl) (n := n) ?_
 refine (l217b_in (regs O) (H217b (regs O) n)).trans ?_
 have h0 := h217b (regs O) n
 rw [h0]
 exact h
abbrev P218b (q : YF) (kk : PK S) : PK S := PG q 218 Tryz.f218 kk
abbrev H218b (q : YF) : Nat → PK S := HG q 218 Tryz.f218
def s218b_0 (a : Int) (b : Int) (v0 : Int) : St := mkSt [(0, ii v0), (2, S.mt []), (6, S.ptr 0 0), (1, ii b)] 1 [(0, B.box [bb false, bb false, bb false, S.t (T.v (.slice none 0 0)), ii 0, ii 0])]
def K218b_0 (a : Int) (b : Int) (kk : PK S) : Int → OS := fun v0=> kk 1 0 0 (s218b_0 a b v0)
def s218b_1 (a : Int) (b : Int) (v0 v1 : Int) : St := mkSt [(0, ii v0), (2, S.mt []), (6, S.ptr 0 0), (1, ii v1)] 1 [(0, B.box [bb false, bb false, bb false, S.t (T.v (.slice none 0 0)), ii 0, ii 0])]
def K218b_1 (a : Int) (b : Int) (kk : PK S) : Int → Int → OS := fun v0 v1=> kk 3 0 0 (s218b_1 a b v0 v1)
def s218b_2 (a : Int) (b : Int) (v0 v1 : Int) : St := mkSt [(0, ii v0), (2, S.mt []), (6, S.ptr 0 0), (1, ii v1), (37, S.it)] 1 [(0, B.box [bb false, bb false, bb false, S.t (T.v (.slice none 0 0)), ii 0, ii 0])]
def K218b_2 (a : Int) (b : Int) (kk : PK S) : Int → Int → OS := fun v0 v1=> kk 6 0 0 (s218b_2 a b v0 v1)
def s218b_3 (a : Int) (b : Int) (v0 v1 : Int) (v2 : List (S × S)) : St := mkSt [(12, ii v0), (2, S.mt []), (6, S.ptr 0 0), (1, ii v1), (11, S.mp 1)] 2 [(0, B.box [bb false, bb false, bb false, S.t (T.v (.slice none 0 0)), ii 0, ii 0]), (1, B.mp false v2)]
abbrev T218b_3 : Type := Int → Int → (List (S × S)) → OS
def K218b_3 (a : Int) (b : Int) (kk : PK S) : T218b_3 := fun v0 v1 v2=> kk 15 0 0 (s218b_3 a b v0 v1 v2)
def b218b_0 (q : YF) (a : Int) (b : Int) (k0 : Int → OS) (k1 : Int → Int → OS) (v0 : Int) : OS := bif leI v0 b then yC q 214 [ii v0, ii 10] fun y => lookW O.P O.K 9 4 [] (ss (y.s 0)) (fun y => bif y.b 0 then k0 (addI .i64 v0 1) else k1 v0 b) (k1 v0 b) else k1 v0 b
def b218b_1 (q : YF) (a : Int) (b : Int) (k1 : Int → Int → OS) (k2 : Int → Int → OS) (v0 v1 : Int) : OS := bif leI v0 v1 then yC q 214 [ii v1, ii 10] fun y => lookW O.P O.K 9 4 [] (ss (y.s 0)) (fun y => bif y.b 0 then k1 v0 (subI .i64 v1 1) else k2 v0 v1) (k2 v0 v1) else k2 v0 v1
def b218b_2 (q : YF) (a : Int) (b : Int) (k3 : T218b_3) (v0 v1 : Int) : OS := bif gtI (subI .i64 (addI .i64 (subI .i64 v1 v0) 1) (ofN (lenE []))) 64 then flatW 998 [] (yC q 216 [S.mt []] fun y => some (S.tup [S.agg [bb false, bb true, bb true, S.t (T.rows 1 (y.r 0).n (y.r 0).g), ii v0, ii v1], bb (leI (ofN (lenE [])) 64)])) else flatW 900 [] (k3 v0 v1 [])
def b218b_3 (q : YF) (a : Int) (b : Int) (k3 : T218b_3) (v0 v1 : Int) (v2 : List (S × S)) : OS := bif leI v0 v1 then yC q 214 [ii v0, ii 10] fun y => lookW O.P O.K 9 4 [] (ss (y.s 0)) (fun y_1 => bif !y_1.b 0 then updW O.P O.K 9 v2 (ss (y.s 0)) (bb true) fun m => flatW 900 m (k3 (addI .i64 v0 1) v1 m) else flatW 900 v2 (k3 (addI .i64 v0 1) v1 v2)) (updW O.P O.K 9 v2 (ss (y.s 0)) (bb true) fun m => flatW 900 m (k3 (addI .i64 v0 1) v1 m)) else flatW 900 v2 (flatW 998 v2 (yC q 216 [S.mt v2] fun y => some (S.tup [S.agg [bb false, bb false, bb false, S.t (T.rows 1 (y.r 0).n (y.r 0).g), ii 0, ii 0], bb true])))
def e218b_in (q : YF) (a : Int) (b : Int) (k0 : Int → OS) : OS := k0 a
structure X218b where
 x0 : Int → OS
 x1 : Int → Int → OS
 x2 : Int → Int → OS
 x3 : Int → Int → (List (S × S)) → OS
def D218b_0 (X : X218b) : Int → OS := fun v0 => X.x0 v0
def D218b_1 (X : X218b) : Int → Int → OS := fun v0 v1 => X.x1 v0 v1
def D218b_2 (X : X218b) : Int → Int → OS := fun v0 v1 => X.x2 v0 v1
def D218b_3 (X : X218b) : T218b_3 := fun v0 v1 v2 => X.x3 v0 v1 v2
def X218bs (q : YF) (a : Int) (b : Int) (X : X218b) : X218b := ⟨fun v0 => b218b_0 q a b (D218b_0 X) (D218b_1 X) v0,
 fun v0 v1 => b218b_1 q a b (D218b_1 X) (D218b_2 X) v0 v1,
 fun v0 v1 => b218b_2 q a b (D218b_3 X) v0 v1,
 fun v0 v1 v2 => b218b_3 q a b (D218b_3 X) v0 v1 v2⟩
def X218bn (q : YF) (a : Int) (b : Int) : Nat → X218b
 | 0 => ⟨fun _ => none, fun _ _ => none, fun _ _ => none, fun _ _ _ => none⟩
 | n + 1 => X218bs q a b (X218bn q a b n)
theorem l218b_0 (q : YF) (a : Int) (b : Int) (kk : PK S) : K218b_0 a b (P218b q kk) = b218b_0 q a b (K218b_0 a b kk) (K218b_1 a b kk) := by
 kernel_rfl
theorem l218b_1 (q : YF) (a : Int) (b : Int) (kk : PK S) : K218b_1 a b (P218b q kk) = b218b_1 q a b (K218b_1 a b kk) (K218b_2 a b kk) := by
 kernel_rfl
theorem l218b_2 (q : YF) (a : Int) (b : Int) (kk : PK S) : K218b_2 a b (P218b q kk) = b218b_2 q a b (K218b_3 a b kk) := by
 kernel_rfl
theorem l218b_3 (q : YF) (a : Int) (b : Int) (kk : PK S) : K218b_3 a b (P218b q kk) = b218b_3 q a b (K218b_3 a b kk) := by
 kernel_rfl
theorem l218b_in (q : YF) (a : Int) (b : Int) (kk : PK S) : BG q kk 218 Tryz.f218 [ii a, ii b, S.mt []] = e218b_in q a b (K218b_0 a b kk) := by
 kernel_rfl
theorem h218b (q : YF) (a : Int) (b : Int) : ∀ n, K218b_0 a b (H218b q n) = D218b_0 (X218bn q a b n) ∧ K218b_1 a b (H218b q n) = D218b_1 (X218bn q a b n) ∧ K218b_2 a b (H218b q n) = D218b_2 (X218bn q a b n) ∧ K218b_3 a b (H218b q n) = D218b_3 (X218bn q a b n)
 | 0 => ⟨rfl, rfl, rfl, rfl⟩
 | n + 1 => by
  obtain ⟨h0, h1, h2, h3⟩ := h218b q a b n
  exact ⟨(l218b_0 q a b (H218b q n)).trans (by rw [h0, h1]; kernel_rfl), (l218b_1 q a b (H218b q n)).trans (by rw [h1, h2]; kernel_rfl), (l218b_2 q a b (H218b q n)).trans (by rw [h3]; kernel_rfl), (l218b_3 q a b (H218b q n)).trans (by rw [h3]; kernel_rfl)⟩
theorem W218b (a : Int) (b : Int) (n : Nat) (x : S) (h : e218b_in (regs O) a b (D218b_0 (X218bn (regs O) a b n)) = some x) : (W O).callT 218 [ii a, ii b, S.mt []] = some x := by
 refine WG (fn := Tryz.f218) (by kernel_rfl) (by kernel_rfl) (n := n) ?_
 refine (l218b_in (regs O) a b (H218b (regs O) n)).trans ?_
 obtain ⟨h0, h1, h2, h3⟩ := h218b (regs O) a b n
 rw [h0]
 exact h
abbrev P219 (q : YF) (kk : PK S) : PK S := PG q 219 Tryz.f219 kk
abbrev H219 (q : YF) : Nat → PK S := HG q 219 Tryz.f219
def s219_0 (a : Rw BA) (b : BA) (v0 : Int) : St := mkSt [(0, S.t (T.rows 1 a.n fun i => [ts (a.get i)])), (1, ss b), (5, ii v0)] 0 []
def K219_0 (a : Rw BA) (b : BA) (kk : PK S) : Int → OS := fun v0=> kk 2 0 0 (s219_0 a b v0)
def b219_0 (q : YF) (a : Rw BA) (b : BA) (k0 : Int → OS) (v0 : Int) : OS := bif ltI v0 (ofN a.n) then elemO v0 a.n fun h => bif strEq (a.get (Fin.mk v0.toNat h)) b then some (bb true) else k0 (addI .i64 v0 1) else some (bb false)
def e219_in (q : YF) (a : Rw BA) (b : BA) (k0 : Int → OS) : OS := k0 0
structure X219 where
 x0 : Int → OS
def D219_0 (X : X219) : Int → OS := fun v0 => X.x0 v0
def X219s (q : YF) (a : Rw BA) (b : BA) (X : X219) : X219 := ⟨fun v0 => b219_0 q a b (D219_0 X) v0⟩
def X219n (q : YF) (a : Rw BA) (b : BA) : Nat → X219
 | 0 => ⟨fun _ => none⟩
 | n + 1 => X219s q a b (X219n q a b n)
theorem l219_0 (q : YF) (a : Rw BA) (b : BA) (kk : PK S) : K219_0 a b (P219 q kk) = b219_0 q a b (K219_0 a b kk) := by
 kernel_rfl
theorem l219_in (q : YF) (a : Rw BA) (b : BA) (kk : PK S) : BG q kk 219 Tryz.f219 [S.t (T.rows 1 a.n fun i => e9 (a.get i)), ss b] = e219_in q a b (K219_0 a b kk) := by
 kernel_rfl
theorem h219 (q : YF) (a : Rw BA) (b : BA) : ∀ n, K219_0 a b (H219 q n) = D219_0 (X219n q a b n)
 | 0 => rfl
 | n + 1 => by
  have h0 := h219 q a b n
  exact (l219_0 q a b (H219 q n)).trans (by rw [h0]; kernel_rfl)
theorem W219 (a : Rw BA) (b : BA) (n : Nat) (x : S) (h : e219_in (regs O) a b (D219_0 (X219n (regs O) a b n)) = some x) : (W O).callT 219 [S.t (T.rows 1 a.n fun i => e9 (a.get i)), ss b] = some x := by
 refine WG (fn := Tryz.f219) (by kernel_rfl) (by kernel_rfl) (n := n) ?_
 refine (l219_in (regs O) a b (H219 (regs O) n)).trans ?_
 have h0 := h219 (regs O) a b n
 rw [h0]
 exact h
abbrev P219b (q : YF) (kk : PK S) : PK S := PG q 219 Tryz.f219 kk
abbrev H219b (q : YF) : Nat → PK S := HG q 219 Tryz.f219
def s219b_0 (b : BA) : St := mkSt [(0, S.t (T.v (.slice none 0 0))), (1, ss b), (5, ii 0)] 0 []
def K219b_0 (b : BA) (kk : PK S) : OS := kk 2 0 0 (s219b_0 b)
def b219b_0 (q : YF) (b : BA) : OS := some (bb false)
def e219b_in (q : YF) (b : BA) (k0 : OS) : OS := k0
structure X219b where
 x0 : OS
def D219b_0 (X : X219b) : OS := X.x0
def X219bs (q : YF) (b : BA) (X : X219b) : X219b := ⟨b219b_0 q b⟩
def X219bn (q : YF) (b : BA) : Nat → X219b
 | 0 => ⟨none⟩
 | n + 1 => X219bs q b (X219bn q b n)
theorem l219b_0 (q : YF) (b : BA) (kk : PK S) : K219b_0 b (P219b q kk) = b219b_0 q b := by
 kernel_rfl
theorem l219b_in (q : YF) (b : BA) (kk : PK S) : BG q kk 219 Tryz.f219 [S.t (T.v (.slice none 0 0)), ss b] = e219b_in q b (K219b_0 b kk) := by
 kernel_rfl
theorem h219b (q : YF) (b : BA) : ∀ n, K219b_0 b (H219b q n) = D219b_0 (X219bn q b n)
 | 0 => rfl
 | n + 1 => by
  have h0 := h219b q b n
  exact (l219b_0 q b (H219b q n)).trans (by kernel_rfl)
theorem W219b (b : BA) (n : Nat) (x : S) (h : e219b_in (regs O) b (D219b_0 (X219bn (regs O) b n)) = some x) : (W O).callT 219 [S.t (T.v (.slice none 0 0)), ss b] = some x := by
 refine WG (fn := Tryz.f219) (by kernel_rfl) (by kernel_rfl) (n := n) ?_
 refine (l219b_in (regs O) b (H219b (regs O) n)).trans ?_
 have h0 := h219b (regs O) b n
 rw [h0]
 exact h
abbrev P220 (q : YF) (kk : PK S) : PK S := PG q 220 Tryz.f220 kk
abbrev H220 (q : YF) : Nat → PK S := HG q 220 Tryz.f220
def s220_0 (a : Rw BA) (b : BA) (v0 : Int) : St := mkSt [(0, S.t (T.rows 1 a.n fun i => [ts (a.get i)])), (1, ss b), (5, ii v0)] 0 []
def K220_0 (a : Rw BA) (b : BA) (kk : PK S) : Int → OS := fun v0=> kk 2 0 0 (s220_0 a b v0)
def b220_0 (q : YF) (a : Rw BA) (b : BA) (k0 : Int → OS) (v0 : Int) : OS := bif ltI v0 (ofN a.n) then elemO v0 a.n fun h => bif strLt (a.get (Fin.mk v0.toNat h)) b then k0 (addI .i64 v0 1) else bif ltI v0 (ofN a.n) then elemO v0 a.n fun h => bif strEq (a.get (Fin.mk v0.toNat h)) b then some (S.t (T.rows 1 a.n fun i => [ts (a.get i)])) else bif leI 0 v0 && leI v0 (ofN a.n) then subO 0 (toN v0) a.n fun h => bif fitsR (toN v0) 16 then bif fitsR (addN (toN v0) 1) 16 then bif leI 0 v0 && leI v0 (ofN a.n) && leI (ofN a.n) (ofN a.n) then subO (toN v0) (subN a.n (toN v0)) a.n fun h_1 => bif fitsR (addN (addN (toN v0) 1) (subN a.n (toN v0))) 16 then some (S.t (T.rows 1 (addN (addN (toN v0) 1) (subN a.n (toN v0))) (appGet (appGet (fun i => [ts (a.get (Fin.mk (0 + ↑i) (by first | omega | (have := i.2; omega) | (have := i_1.2; omega))))]) fun i => List.take 1 (List.drop (↑i * 1) [ts b])) fun i => [ts (a.get (Fin.mk (toN v0 + ↑i) (by first | omega | (have := i.2; omega) | (have := i_1.2; omega))))]))) else none else none else none else none else none else bif leI 0 v0 && leI v0 (ofN a.n) then subO 0 (toN v0) a.n fun h => bif fitsR (toN v0) 16 then bif fitsR (addN (toN v0) 1) 16 then bif leI 0 v0 && leI v0 (ofN a.n) && leI (ofN a.n) (ofN a.n) then subO (toN v0) (subN a.n (toN v0)) a.n fun h_1 => bif fitsR (addN (addN (toN v0) 1) (subN a.n (toN v0))) 16 then some (S.t (T.rows 1 (addN (addN (toN v0) 1) (subN a.n (toN v0))) (appGet (appGet (fun i => [ts (a.get (Fin.mk (0 + ↑i) (by first | omega | (have := i.2; omega) | (have := i_1.2; omega))))]) fun i => List.take 1 (List.drop (↑i * 1) [ts b])) fun i => [ts (a.get (Fin.mk (toN v0 + ↑i) (by first | omega | (have := i.2; omega) | (have := i_1.2; omega))))]))) else none else none else none else none else none else bif ltI v0 (ofN a.n) then elemO v0 a.n fun h => bif strEq (a.get (Fin.mk v0.toNat h)) b then some (S.t (T.rows 1 a.n fun i => [ts (a.get i)])) else bif leI 0 v0 && leI v0 (ofN a.n) then subO 0 (toN v0) a.n fun h => bif fitsR (toN v0) 16 then bif fitsR (addN (toN v0) 1) 16 then bif leI 0 v0 && leI v0 (ofN a.n) && leI (ofN a.n) (ofN a.n) then subO (toN v0) (subN a.n (toN v0)) a.n fun h_1 => bif fitsR (addN (addN (toN v0) 1) (subN a.n (toN v0))) 16 then some (S.t (T.rows 1 (addN (addN (toN v0) 1) (subN a.n (toN v0))) (appGet (appGet (fun i => [ts (a.get (Fin.mk (0 + ↑i) (by first | omega | (have := i.2; omega) | (have := i_1.2; omega))))]) fun i => List.take 1 (List.drop (↑i * 1) [ts b])) fun i => [ts (a.get (Fin.mk (toN v0 + ↑i) (by first | omega | (have := i.2; omega) | (have := i_1.2; omega))))]))) else none else none else none else none else none else bif leI 0 v0 && leI v0 (ofN a.n) then subO 0 (toN v0) a.n fun h => bif fitsR (toN v0) 16 then bif fitsR (addN (toN v0) 1) 16 then bif leI 0 v0 && leI v0 (ofN a.n) && leI (ofN a.n) (ofN a.n) then subO (toN v0) (subN a.n (toN v0)) a.n fun h_1 => bif fitsR (addN (addN (toN v0) 1) (subN a.n (toN v0))) 16 then some (S.t (T.rows 1 (addN (addN (toN v0) 1) (subN a.n (toN v0))) (appGet (appGet (fun i => [ts (a.get (Fin.mk (0 + ↑i) (by first | omega | (have := i.2; omega) | (have := i_1.2; omega))))]) fun i => List.take 1 (List.drop (↑i * 1) [ts b])) fun i => [ts (a.get (Fin.mk (toN v0 + ↑i) (by first | omega | (have := i.2; omega) | (have := i_1.2; omega))))]))) else none else none else none else none else none
def e220_in (q : YF) (a : Rw BA) (b : BA) (k0 : Int → OS) : OS := k0 0
structure X220 where
 x0 : Int → OS
def D220_0 (X : X220) : Int → OS := fun v0 => X.x0 v0
def X220s (q : YF) (a : Rw BA) (b : BA) (X : X220) : X220 := ⟨fun v0 => b220_0 q a b (D220_0 X) v0⟩
def X220n (q : YF) (a : Rw BA) (b : BA) : Nat → X220
 | 0 => ⟨fun _ => none⟩
 | n + 1 => X220s q a b (X220n q a b n)
theorem l220_0 (q : YF) (a : Rw BA) (b : BA) (kk : PK S) : K220_0 a b (P220 q kk) = b220_0 q a b (K220_0 a b kk) := by
 kernel_rfl
theorem l220_in (q : YF) (a : Rw BA) (b : BA) (kk : PK S) : BG q kk 220 Tryz.f220 [S.t (T.rows 1 a.n fun i => e9 (a.get i)), ss b] = e220_in q a b (K220_0 a b kk) := by
 kernel_rfl
theorem h220 (q : YF) (a : Rw BA) (b : BA) : ∀ n, K220_0 a b (H220 q n) = D220_0 (X220n q a b n)
 | 0 => rfl
 | n + 1 => by
  have h0 := h220 q a b n
  exact (l220_0 q a b (H220 q n)).trans (by rw [h0]; kernel_rfl)
theorem W220 (a : Rw BA) (b : BA) (n : Nat) (x : S) (h : e220_in (regs O) a b (D220_0 (X220n (regs O) a b n)) = some x) : (W O).callT 220 [S.t (T.rows 1 a.n fun i => e9 (a.get i)), ss b] = some x := by
 refine WG (fn := Tryz.f220) (by kernel_rfl) (by kernel_rfl) (n := n) ?_
 refine (l220_in (regs O) a b (H220 (regs O) n)).trans ?_
 have h0 := h220 (regs O) a b n
 rw [h0]
 exact h
abbrev P220b (q : YF) (kk : PK S) : PK S := PG q 220 Tryz.f220 kk
abbrev H220b (q : YF) : Nat → PK S := HG q 220 Tryz.f220
def s220b_0 (b : BA) : St := mkSt [(0, S.t (T.v (.slice none 0 0))), (1, ss b), (5, ii 0)] 0 []
def K220b_0 (b : BA) (kk : PK S) : OS := kk 2 0 0 (s220b_0 b)
def b220b_0 (q : YF) (b : BA) : OS := bif fitsR 1 16 then bif fitsR 1 16 then some (S.t (T.rows 1 1 (appGet (appGet (fun (i : Fin 0) => False.rec (fun x => List T) (by have := i.2; omega)) fun (i : Fin 1) => List.take 1 (List.drop (↑i * 1) [ts b])) fun (i : Fin 0) => False.rec (fun x => List T) (by have := i.2; omega)))) else none else none
def e220b_in (q : YF) (b : BA) (k0 : OS) : OS := k0
structure X220b where
 x0 : OS
def D220b_0 (X : X220b) : OS := X.x0
def X220bs (q : YF) (b : BA) (X : X220b) : X220b := ⟨b220b_0 q b⟩
def X220bn (q : YF) (b : BA) : Nat → X220b
 | 0 => ⟨none⟩
 | n + 1 => X220bs q b (X220bn q b n)
theorem l220b_0 (q : YF) (b : BA) (kk : PK S) : K220b_0 b (P220b q kk) = b220b_0 q b := by
 kernel_rfl
theorem l220b_in (q : YF) (b : BA) (kk : PK S) : BG q kk 220 Tryz.f220 [S.t (T.v (.slice none 0 0)), ss b] = e220b_in q b (K220b_0 b kk) := by
 kernel_rfl
theorem h220b (q : YF) (b : BA) : ∀ n, K220b_0 b (H220b q n) = D220b_0 (X220bn q b n)
 | 0 => rfl
 | n + 1 => by
  have h0 := h220b q b n
  exact (l220b_0 q b (H220b q n)).trans (by kernel_rfl)
theorem W220b (b : BA) (n : Nat) (x : S) (h : e220b_in (regs O) b (D220b_0 (X220bn (regs O) b n)) = some x) : (W O).callT 220 [S.t (T.v (.slice none 0 0)), ss b] = some x := by
 refine WG (fn := Tryz.f220) (by kernel_rfl) (by kernel_rfl) (n := n) ?_
 refine (l220b_in (regs O) b (H220b (regs O) n)).trans ?_
 have h0 := h220b (regs O) b n
 rw [h0]
 exact h
abbrev H229 (q : YF) : Nat → PK S := HG q 229 Tryz.f229
def e229_in (q : YF) (a : BA) : OS := yC q 146 [ss a] fun y => some (S.t (T.v (.bool !y.b 0)))
theorem l229_in (q : YF) (a : BA) (kk : PK S) : BG q kk 229 Tryz.f229 [ss a] = e229_in q a := by
 kernel_rfl
theorem W229 (a : BA) (n : Nat) (x : S) (h : e229_in (regs O) a = some x) : (W O).callT 229 [ss a] = some x := by
 refine WG (fn := Tryz.f229) (by kernel_rfl) (by kernel_rfl) (n := n) ?_
 refine (l229_in (regs O) a (H229 (regs O) n)).trans ?_
 exact h
end
end Go.Proofs.YtonkoellfaopiaaGreatDoor.H
