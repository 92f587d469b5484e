import Derived.Test.YtonkoellfaopiaaGreatDoorV8
set_option linter.unusedSimpArgs false
set_option linter.unusedVariables false
namespace Go.Proofs.YtonkoellfaopiaaGreatDoor.H
open Go
noncomputable section
abbrev P38 (q : YF) (kk : PK S) : PK S := PG q 38 Tryz.f38 kk
abbrev H38 (q : YF) : Nat → PK S := HG q 38 Tryz.f38
def s38_0 (a : D33) (v0 : Int) : St := mkSt [(16, ii (ofN a.fCommands.n)), (1, S.ptr 0 0), (17, ii v0), (15, S.t (T.rows 8 a.fCommands.n fun i => e122 (a.fCommands.get i)))] 1 [(0, B.box (List.map S.t (e33 a)))]
def K38_0 (a : D33) (kk : PK S) : Int → OS := fun v0=> kk 2 0 0 (s38_0 a v0)
def s38_1 (a : D33) (v0 : Int) : St := mkSt [(52, ii v0), (50, S.t (T.rows 4 a.fCools.n fun i => e125 (a.fCools.get i))), (1, S.ptr 0 0), (51, ii (ofN a.fCools.n))] 1 [(0, B.box (List.map S.t (e33 a)))]
def K38_1 (a : D33) (kk : PK S) : Int → OS := fun v0=> kk 12 0 0 (s38_1 a v0)
def s38_2 (a : D33) (v0 : D122) (v1 : Bool) (v2 : Int) (u3 u4 : Bool) (u5 : D122) (u6 u7 : BA) (u8 u9 u10 : Int) (u11 u12 : Rw0) (u13 u14 u15 u16 : Int) (u17 : Bool) (u18 : Int) (u19 : BA) (u20 u21 u22 : Int) (u23 u24 : Rw0) (u25 u26 u27 u28 : Int) (u29 : Bool) (u30 : Int) (u31 : D122) (u32 : BA) (u33 : Bool) (u34 : D122) (u35 : Bool) (u36 : Int) (u37 : BA) (u38 u39 u40 : Int) (u41 u42 : Rw0) (u43 u44 u45 u46 : Int) (u47 : BA) (u48 u49 u50 : Int) (u51 u52 : Rw0) (u53 u54 u55 u56 : Int) (u57 : Bool) (u58 u59 : S) (u60 : Bool) : St := mkSt [(32, bb u3), (16, ii (ofN a.fCommands.n)), (24, bb u4), (4, S.ptr 4 0), (36, bb u57), (20, ag (e122 u5)), (28, S.ptr 4 5), (34, ss u6), (18, bb u60), (26, S.tup [S.agg [ss u7, ii u8, ii u9, ii u10, S.t (T.rows 4 u11.n u11.g), S.t (T.rows 2 u12.n u12.g), ii u13, ii u14, ii u15, ii u16], bb u17]), (6, S.ptr 18 0), (38, u58), (22, ii u18), (30, S.tup [S.agg [ss u19, ii u20, ii u21, ii u22, S.t (T.rows 4 u23.n u23.g), S.t (T.rows 2 u24.n u24.g), ii u25, ii u26, ii u27, ii u28], bb u29]), (1, S.ptr 0 0), (33, S.ptr 4 5), (17, ii v2), (5, ii u30), (37, u59), (21, ag (e122 u31)), (29, ss u32), (35, bb u33), (19, S.pt (e122 u34)), (27, ag (e33 a)), (7, bb u35), (39, bb v1), (23, ii u36), (15, S.t (T.rows 8 a.fCommands.n fun i => e122 (a.fCommands.get i))), (31, S.agg [ss u37, ii u38, ii u39, ii u40, S.t (T.rows 4 u41.n u41.g), S.t (T.rows 2 u42.n u42.g), ii u43, ii u44, ii u45, ii u46])] 36 [(0, B.box (List.map S.t (e33 a))), (4, B.box (List.map S.t (e122 v0))), (18, B.box [ss u47, ii u48, ii u49, ii u50, S.t (T.rows 4 u51.n u51.g), S.t (T.rows 2 u52.n u52.g), ii u53, ii u54, ii u55, ii u56])]
abbrev T38_2 : Type := D122 → Bool → Int → Bool → Bool → D122 → BA → BA → Int → Int → Int → Rw0 → Rw0 → Int → Int → Int → Int → Bool → Int → BA → Int → Int → Int → Rw0 → Rw0 → Int → Int → Int → Int → Bool → Int → D122 → BA → Bool → D122 → Bool → Int → BA → Int → Int → Int → Rw0 → Rw0 → Int → Int → Int → Int → BA → Int → Int → Int → Rw0 → Rw0 → Int → Int → Int → Int → Bool → S → S → Bool → OS
def K38_2 (a : D33) (kk : PK S) : T38_2 := fun v0 v1 v2 u3 u4 u5 u6 u7 u8 u9 u10 u11 u12 u13 u14 u15 u16 u17 u18 u19 u20 u21 u22 u23 u24 u25 u26 u27 u28 u29 u30 u31 u32 u33 u34 u35 u36 u37 u38 u39 u40 u41 u42 u43 u44 u45 u46 u47 u48 u49 u50 u51 u52 u53 u54 u55 u56 u57 u58 u59 u60=> kk 8 8 21 (s38_2 a v0 v1 v2 u3 u4 u5 u6 u7 u8 u9 u10 u11 u12 u13 u14 u15 u16 u17 u18 u19 u20 u21 u22 u23 u24 u25 u26 u27 u28 u29 u30 u31 u32 u33 u34 u35 u36 u37 u38 u39 u40 u41 u42 u43 u44 u45 u46 u47 u48 u49 u50 u51 u52 u53 u54 u55 u56 u57 u58 u59 u60)
def s38_3 (a : D33) (v0 : Int) : St := mkSt [(86, ii (ofN a.fInsts.n)), (1, S.ptr 0 0), (85, S.t (T.rows 7 a.fInsts.n fun i => e91 (a.fInsts.get i))), (87, ii v0)] 1 [(0, B.box (List.map S.t (e33 a)))]
def K38_3 (a : D33) (kk : PK S) : Int → OS := fun v0=> kk 22 0 0 (s38_3 a v0)
def s38_4 (a : D33) (v0 : Bool) (v1 : D91) (v2 v3 : Int) (u4 : D91) (u5 : Bool) (u6 : BA) (u7 : D91) (u8 u9 u10 : S) (u11 u12 : Bool) (u13 : Int) : St := mkSt [(96, u8), (88, bb u12), (92, S.ptr 5 0), (98, u9), (10, ii v2), (90, S.pt (e91 u4)), (86, ii (ofN a.fInsts.n)), (94, bb u5), (1, S.ptr 0 0), (97, u10), (89, ii u13), (85, S.t (T.rows 7 a.fInsts.n fun i => e91 (a.fInsts.get i))), (93, ss u6), (99, bb v0), (11, S.ptr 5 0), (91, ag (e91 u7)), (87, ii v3), (95, bb u11)] 32 [(0, B.box (List.map S.t (e33 a))), (5, B.box (List.map S.t (e91 v1)))]
abbrev T38_4 : Type := Bool → D91 → Int → Int → D91 → Bool → BA → D91 → S → S → S → Bool → Bool → Int → OS
def K38_4 (a : D33) (kk : PK S) : T38_4 := fun v0 v1 v2 v3 u4 u5 u6 u7 u8 u9 u10 u11 u12 u13=> kk 24 9 8 (s38_4 a v0 v1 v2 v3 u4 u5 u6 u7 u8 u9 u10 u11 u12 u13)
def s38_5 (a : D33) (v0 : Bool) (v1 : D91) (v2 v3 : Int) (u4 u5 : S) (u6 : D91) (u7 : Bool) (u8 : S) (u9 : BA) (u10 : Bool) (u11 : D91) (u12 u13 : Bool) (u14 u15 u16 : S) (u17 : Bool) (u18 : Int) : St := mkSt [(96, u4), (104, bb v0), (88, bb u17), (100, bb u13), (92, S.ptr 5 0), (98, u5), (10, ii v2), (90, S.pt (e91 u6)), (102, u14), (86, ii (ofN a.fInsts.n)), (94, bb u7), (1, S.ptr 0 0), (97, u8), (89, ii u18), (101, u15), (85, S.t (T.rows 7 a.fInsts.n fun i => e91 (a.fInsts.get i))), (93, ss u9), (99, bb u10), (11, S.ptr 5 0), (91, ag (e91 u11)), (103, u16), (87, ii v3), (95, bb u12)] 32 [(0, B.box (List.map S.t (e33 a))), (5, B.box (List.map S.t (e91 v1)))]
abbrev T38_5 : Type := Bool → D91 → Int → Int → S → S → D91 → Bool → S → BA → Bool → D91 → Bool → Bool → S → S → S → Bool → Int → OS
def K38_5 (a : D33) (kk : PK S) : T38_5 := fun v0 v1 v2 v3 u4 u5 u6 u7 u8 u9 u10 u11 u12 u13 u14 u15 u16 u17 u18=> kk 24 14 8 (s38_5 a v0 v1 v2 v3 u4 u5 u6 u7 u8 u9 u10 u11 u12 u13 u14 u15 u16 u17 u18)
def s38_6 (a : D33) (v0 : Bool) (v1 : D91) (v2 v3 : Int) (u4 : S) (u5 u6 : Bool) (u7 : S) (u8 : D91) (u9 : S) (u10 : Bool) (u11 u12 : S) (u13 : BA) (u14 : Bool) (u15 : D91) (u16 : S) (u17 : Bool) (u18 u19 : S) (u20 : Bool) (u21 : S) (u22 : Bool) (u23 : Int) : St := mkSt [(96, u4), (104, bb u5), (88, bb u22), (100, bb u6), (108, u18), (92, S.ptr 5 0), (98, u7), (10, ii v2), (106, u19), (90, S.pt (e91 u8)), (102, u9), (86, ii (ofN a.fInsts.n)), (94, bb u10), (1, S.ptr 0 0), (97, u11), (105, bb u20), (89, ii u23), (101, u12), (85, S.t (T.rows 7 a.fInsts.n fun i => e91 (a.fInsts.get i))), (109, bb v0), (93, ss u13), (99, bb u14), (11, S.ptr 5 0), (107, u21), (91, ag (e91 u15)), (103, u16), (87, ii v3), (95, bb u17)] 32 [(0, B.box (List.map S.t (e33 a))), (5, B.box (List.map S.t (e91 v1)))]
abbrev T38_6 : Type := Bool → D91 → Int → Int → S → Bool → Bool → S → D91 → S → Bool → S → S → BA → Bool → D91 → S → Bool → S → S → Bool → S → Bool → Int → OS
def K38_6 (a : D33) (kk : PK S) : T38_6 := fun v0 v1 v2 v3 u4 u5 u6 u7 u8 u9 u10 u11 u12 u13 u14 u15 u16 u17 u18 u19 u20 u21 u22 u23=> kk 24 19 8 (s38_6 a v0 v1 v2 v3 u4 u5 u6 u7 u8 u9 u10 u11 u12 u13 u14 u15 u16 u17 u18 u19 u20 u21 u22 u23)
def s38_7 (a : D33) (v0 : Rw D91) (v1 : D91) (v2 v3 v4 : Int) : St := mkSt [(120, ii v2), (86, ii (ofN a.fInsts.n)), (1, S.ptr 0 0), (121, ii v4), (85, S.t (T.rows 7 a.fInsts.n fun i => e91 (a.fInsts.get i))), (11, S.ptr 1 0), (87, ii v3), (119, S.t (T.rows 7 v0.n fun i => e91 (v0.get i)))] 2 [(0, B.box (List.map S.t (e33 a))), (1, B.box (List.map S.t (e91 v1)))]
abbrev T38_7 : Type := (Rw D91) → D91 → Int → Int → Int → OS
def K38_7 (a : D33) (kk : PK S) : T38_7 := fun v0 v1 v2 v3 v4=> kk 27 0 0 (s38_7 a v0 v1 v2 v3 v4)
def b38_0 (q : YF) (a : D33) (k1 : Int → OS) (k2 : T38_2) (v0 : Int) : OS := bif ltI v0 (ofN a.fCommands.n) then elemO v0 a.fCommands.n fun h => yC q 81 [ag (e122 (a.fCommands.get (Fin.mk v0.toNat h)))] fun y => bif !eqI (y.i 0) 0 then some (ii (y.i 0)) else yC q 76 [ag (e33 a), ss (a.fCommands.get (Fin.mk v0.toNat h)).fPool] fun y_1 => bif !strEq (a.fCommands.get (Fin.mk v0.toNat h)).fPool (bs []) then k2 (a.fCommands.get (Fin.mk v0.toNat h)) (!y_1.b 10) v0 (y_1.b 10) (!eqI (y.i 0) 0) (a.fCommands.get (Fin.mk v0.toNat h)) (a.fCommands.get (Fin.mk v0.toNat h)).fPool (y_1.s 0) (y_1.i 1) (y_1.i 2) (y_1.i 3) (y_1.r 4) (y_1.r 5) (y_1.i 6) (y_1.i 7) (y_1.i 8) (y_1.i 9) (y_1.b 10) (y.i 0) (y_1.s 0) (y_1.i 1) (y_1.i 2) (y_1.i 3) (y_1.r 4) (y_1.r 5) (y_1.i 6) (y_1.i 7) (y_1.i 8) (y_1.i 9) (y_1.b 10) (y.i 0) (a.fCommands.get (Fin.mk v0.toNat h)) (a.fCommands.get (Fin.mk v0.toNat h)).fPool (!strEq (a.fCommands.get (Fin.mk v0.toNat h)).fPool (bs [])) (a.fCommands.get (Fin.mk v0.toNat h)) (y_1.b 10) (y.i 0) (y_1.s 0) (y_1.i 1) (y_1.i 2) (y_1.i 3) (y_1.r 4) (y_1.r 5) (y_1.i 6) (y_1.i 7) (y_1.i 8) (y_1.i 9) (y_1.s 0) (y_1.i 1) (y_1.i 2) (y_1.i 3) (y_1.r 4) (y_1.r 5) (y_1.i 6) (y_1.i 7) (y_1.i 8) (y_1.i 9) true (S.t (T.v (.bool !y_1.b 10))) (bb (y_1.b 10)) (ltI v0 (ofN a.fCommands.n)) else k2 (a.fCommands.get (Fin.mk v0.toNat h)) false v0 (y_1.b 10) (!eqI (y.i 0) 0) (a.fCommands.get (Fin.mk v0.toNat h)) (a.fCommands.get (Fin.mk v0.toNat h)).fPool (y_1.s 0) (y_1.i 1) (y_1.i 2) (y_1.i 3) (y_1.r 4) (y_1.r 5) (y_1.i 6) (y_1.i 7) (y_1.i 8) (y_1.i 9) (y_1.b 10) (y.i 0) (y_1.s 0) (y_1.i 1) (y_1.i 2) (y_1.i 3) (y_1.r 4) (y_1.r 5) (y_1.i 6) (y_1.i 7) (y_1.i 8) (y_1.i 9) (y_1.b 10) (y.i 0) (a.fCommands.get (Fin.mk v0.toNat h)) (a.fCommands.get (Fin.mk v0.toNat h)).fPool (!strEq (a.fCommands.get (Fin.mk v0.toNat h)).fPool (bs [])) (a.fCommands.get (Fin.mk v0.toNat h)) (y_1.b 10) (y.i 0) (y_1.s 0) (y_1.i 1) (y_1.i 2) (y_1.i 3) (y_1.r 4) (y_1.r 5) (y_1.i 6) (y_1.i 7) (y_1.i 8) (y_1.i 9) (y_1.s 0) (y_1.i 1) (y_1.i 2) (y_1.i 3) (y_1.r 4) (y_1.r 5) (y_1.i 6) (y_1.i 7) (y_1.i 8) (y_1.i 9) false S.ud S.ud (ltI v0 (ofN a.fCommands.n)) else k1 0
def b38_1 (q : YF) (a : D33) (k1 : Int → OS) (k3 : Int → OS) (v0 : Int) : OS := bif ltI v0 (ofN a.fCools.n) then elemO v0 a.fCools.n fun h => yC q 77 [S.t (T.rows 7 a.fTypes.n fun i => e112 (a.fTypes.get i)), S.t (T.rows 3 1 fun i => List.take 3 (List.drop (↑i * 3) [ts (a.fCools.get (Fin.mk v0.toNat h)).fOffer_Type, ts (a.fCools.get (Fin.mk v0.toNat h)).fOffer_Zone, ts (a.fCools.get (Fin.mk v0.toNat h)).fOffer_Kind]))] fun y => bif !y.b 0 then some (ii 5) else bif gtI v0 0 then elemO (subI .i64 v0 1) a.fCools.n fun h_1 => yC q 82 [S.agg [ss (a.fCools.get (Fin.mk (subI .i64 v0 1).toNat h_1)).fOffer_Type, ss (a.fCools.get (Fin.mk (subI .i64 v0 1).toNat h_1)).fOffer_Zone, ss (a.fCools.get (Fin.mk (subI .i64 v0 1).toNat h_1)).fOffer_Kind], S.agg [ss (a.fCools.get (Fin.mk v0.toNat h)).fOffer_Type, ss (a.fCools.get (Fin.mk v0.toNat h)).fOffer_Zone, ss (a.fCools.get (Fin.mk v0.toNat h)).fOffer_Kind]] fun y => bif !y.b 0 then some (ii 6) else yC q 31 [ii (a.fCools.get (Fin.mk v0.toNat h)).fUntil] fun y => bif !y.b 0 then some (ii 1) else k1 (addI .i64 v0 1) else yC q 31 [ii (a.fCools.get (Fin.mk v0.toNat h)).fUntil] fun y => bif !y.b 0 then some (ii 1) else k1 (addI .i64 v0 1) else k3 0
def b38_2 (q : YF) (a : D33) (k0 : Int → OS) (v0 : D122) (v1 : Bool) (v2 : Int) (u3 u4 : Bool) (u5 : D122) (u6 u7 : BA) (u8 u9 u10 : Int) (u11 u12 : Rw0) (u13 u14 u15 u16 : Int) (u17 : Bool) (u18 : Int) (u19 : BA) (u20 u21 u22 : Int) (u23 u24 : Rw0) (u25 u26 u27 u28 : Int) (u29 : Bool) (u30 : Int) (u31 : D122) (u32 : BA) (u33 : Bool) (u34 : D122) (u35 : Bool) (u36 : Int) (u37 : BA) (u38 u39 u40 : Int) (u41 u42 : Rw0) (u43 u44 u45 u46 : Int) (u47 : BA) (u48 u49 u50 : Int) (u51 u52 : Rw0) (u53 u54 u55 u56 : Int) (u57 : Bool) (u58 u59 : S) (u60 : Bool) : OS := bif v1 then some (ii 5) else yC q 77 [S.t (T.rows 7 a.fTypes.n fun i => e112 (a.fTypes.get i)), S.t (T.rows 3 v0.fOpts.n fun i => e47 (v0.fOpts.get i))] fun y => bif !y.b 0 then some (ii 5) else k0 (addI .i64 v2 1)
def b38_3 (q : YF) (a : D33) (k4 : T38_4) (v0 : Int) : OS := bif ltI v0 (ofN a.fInsts.n) then elemO v0 a.fInsts.n fun h => bif strEq (a.fInsts.get (Fin.mk v0.toNat h)).fId (bs []) then k4 true (a.fInsts.get (Fin.mk v0.toNat h)) v0 v0 (a.fInsts.get (Fin.mk v0.toNat h)) (strEq (a.fInsts.get (Fin.mk v0.toNat h)).fId (bs [])) (a.fInsts.get (Fin.mk v0.toNat h)).fId (a.fInsts.get (Fin.mk v0.toNat h)) S.ud S.ud S.ud true (ltI v0 (ofN a.fInsts.n)) v0 else k4 (strEq (a.fInsts.get (Fin.mk v0.toNat h)).fToken (bs [])) (a.fInsts.get (Fin.mk v0.toNat h)) v0 v0 (a.fInsts.get (Fin.mk v0.toNat h)) (strEq (a.fInsts.get (Fin.mk v0.toNat h)).fId (bs [])) (a.fInsts.get (Fin.mk v0.toNat h)).fId (a.fInsts.get (Fin.mk v0.toNat h)) (S.ptr 5 1) (bb (strEq (a.fInsts.get (Fin.mk v0.toNat h)).fToken (bs []))) (ss (a.fInsts.get (Fin.mk v0.toNat h)).fToken) false (ltI v0 (ofN a.fInsts.n)) v0 else some (ii 0)
def b38_4 (q : YF) (a : D33) (k5 : T38_5) (v0 : Bool) (v1 : D91) (v2 v3 : Int) (u4 : D91) (u5 : Bool) (u6 : BA) (u7 : D91) (u8 u9 u10 : S) (u11 u12 : Bool) (u13 : Int) : OS := bif v0 then k5 true v1 v2 v3 u8 u9 u4 u5 u10 u6 v0 u7 u11 true S.ud S.ud S.ud u12 u13 else k5 (ltI v1.fState 1) v1 v2 v3 u8 u9 u4 u5 u10 u6 v0 u7 u11 false (ii v1.fState) (S.ptr 5 5) (bb (ltI v1.fState 1)) u12 u13
def b38_5 (q : YF) (a : D33) (k6 : T38_6) (v0 : Bool) (v1 : D91) (v2 v3 : Int) (u4 u5 : S) (u6 : D91) (u7 : Bool) (u8 : S) (u9 : BA) (u10 : Bool) (u11 : D91) (u12 u13 : Bool) (u14 u15 u16 : S) (u17 : Bool) (u18 : Int) : OS := bif v0 then k6 true v1 v2 v3 u4 v0 u13 u5 u6 u14 u7 u8 u15 u9 u10 u11 u16 u12 S.ud S.ud true S.ud u17 u18 else k6 (gtI v1.fState 3) v1 v2 v3 u4 v0 u13 u5 u6 u14 u7 u8 u15 u9 u10 u11 u16 u12 (bb (gtI v1.fState 3)) (S.ptr 5 5) false (ii v1.fState) u17 u18
def b38_6 (q : YF) (a : D33) (k7 : T38_7) (v0 : Bool) (v1 : D91) (v2 v3 : Int) (u4 : S) (u5 u6 : Bool) (u7 : S) (u8 : D91) (u9 : S) (u10 : Bool) (u11 u12 : S) (u13 : BA) (u14 : Bool) (u15 : D91) (u16 : S) (u17 : Bool) (u18 u19 : S) (u20 : Bool) (u21 : S) (u22 : Bool) (u23 : Int) : OS := bif v0 then some (ii 1) else yC q 31 [ii v1.fReady] fun y => bif !y.b 0 then some (ii 1) else bif leI 0 v2 && leI v2 (ofN a.fInsts.n) then subO 0 (toN v2) a.fInsts.n fun h => k7 (Rw.mk (toN v2) fun i => a.fInsts.get (Fin.mk (0 + ↑i) (by first | omega | (have := i.2; omega) | (have := i_1.2; omega)))) v1 (ofN (toN v2)) v3 0 else none
def b38_7 (q : YF) (a : D33) (k3 : Int → OS) (k7 : T38_7) (v0 : Rw D91) (v1 : D91) (v2 v3 v4 : Int) : OS := bif ltI v4 v2 then elemO v4 v0.n fun h => bif strEq v1.fId (v0.get (Fin.mk v4.toNat h)).fId then some (ii 6) else bif strEq v1.fToken (v0.get (Fin.mk v4.toNat h)).fToken then some (ii 6) else k7 v0 v1 v2 v3 (addI .i64 v4 1) else yC q 77 [S.t (T.rows 7 a.fTypes.n fun i => e112 (a.fTypes.get i)), S.t (T.rows 3 1 fun i => List.take 3 (List.drop (↑i * 3) [ts v1.fOffer_Type, ts v1.fOffer_Zone, ts v1.fOffer_Kind]))] fun y => bif !y.b 0 then some (ii 5) else k3 (addI .i64 v3 1)
def e38_in (q : YF) (a : D33) (k0 : Int → OS) : OS := k0 0
structure X38 where
 x0 : Int → OS
 x1 : Int → OS
 x2 : D122 → Bool → Int → OS
 x3 : Int → OS
 x4 : Bool → D91 → Int → Int → OS
 x5 : Bool → D91 → Int → Int → OS
 x6 : Bool → D91 → Int → Int → OS
 x7 : (Rw D91) → D91 → Int → Int → Int → OS
def D38_0 (X : X38) : Int → OS := fun v0 => X.x0 v0
def D38_1 (X : X38) : Int → OS := fun v0 => X.x1 v0
def D38_2 (X : X38) : T38_2 := fun v0 v1 v2 _ _ _ _ _ _ _ _ _ _ _ _ _ _ _ _ _ _ _ _ _ _ _ _ _ _ _ _ _ _ _ _ _ _ _ _ _ _ _ _ _ _ _ _ _ _ _ _ _ _ _ _ _ _ _ _ _ _ => X.x2 v0 v1 v2
def D38_3 (X : X38) : Int → OS := fun v0 => X.x3 v0
def D38_4 (X : X38) : T38_4 := fun v0 v1 v2 v3 _ _ _ _ _ _ _ _ _ _ => X.x4 v0 v1 v2 v3
def D38_5 (X : X38) : T38_5 := fun v0 v1 v2 v3 _ _ _ _ _ _ _ _ _ _ _ _ _ _ _ => X.x5 v0 v1 v2 v3
def D38_6 (X : X38) : T38_6 := fun v0 v1 v2 v3 _ _ _ _ _ _ _ _ _ _ _ _ _ _ _ _ _ _ _ _ => X.x6 v0 v1 v2 v3
def D38_7 (X : X38) : T38_7 := fun v0 v1 v2 v3 v4 => X.x7 v0 v1 v2 v3 v4
def X38s (q : YF) (a : D33) (X : X38) : X38 := ⟨fun v0 => b38_0 q a (D38_1 X) (D38_2 X) v0,
 fun v0 => b38_1 q a (D38_1 X) (D38_3 X) v0,
 fun v0 v1 v2 => b38_2 q a (D38_0 X) v0 v1 v2 dd dd dd dd dd dd dd dd dd dd dd dd dd dd dd dd dd dd dd dd dd dd dd dd dd dd dd dd dd dd dd dd dd dd dd dd dd dd dd dd dd dd dd dd dd dd dd dd dd dd dd dd dd dd dd dd dd dd,
 fun v0 => b38_3 q a (D38_4 X) v0,
 fun v0 v1 v2 v3 => b38_4 q a (D38_5 X) v0 v1 v2 v3 dd dd dd dd dd dd dd dd dd dd,
 fun v0 v1 v2 v3 => b38_5 q a (D38_6 X) v0 v1 v2 v3 dd dd dd dd dd dd dd dd dd dd dd dd dd dd dd,
 fun v0 v1 v2 v3 => b38_6 q a (D38_7 X) v0 v1 v2 v3 dd dd dd dd dd dd dd dd dd dd dd dd dd dd dd dd dd dd dd dd,
 fun v0 v1 v2 v3 v4 => b38_7 q a (D38_3 X) (D38_7 X) v0 v1 v2 v3 v4⟩
def X38n (q : YF) (a : D33) : Nat → X38
 | 0 => ⟨fun _ => none, fun _ => none, fun _ _ _ => none, fun _ => none, fun _ _ _ _ => none, fun _ _ _ _ => none, fun _ _ _ _ => none, fun _ _ _ _ _ => none⟩
 | n + 1 => X38s q a (X38n q a n)
theorem l38_0 (q : YF) (a : D33) (kk : PK S) : K38_0 a (P38 q kk) = b38_0 q a (K38_1 a kk) (K38_2 a kk) := by
 kernel_rfl
theorem l38_1 (q : YF) (a : D33) (kk : PK S) : K38_1 a (P38 q kk) = b38_1 q a (K38_1 a kk) (K38_3 a kk) := by
 kernel_rfl
theorem l38_2 (q : YF) (a : D33) (kk : PK S) : K38_2 a (P38 q kk) = b38_2 q a (K38_0 a kk) := by
 kernel_rfl
theorem l38_3 (q : YF) (a : D33) (kk : PK S) : K38_3 a (P38 q kk) = b38_3 q a (K38_4 a kk) := by
 kernel_rfl
theorem l38_4 (q : YF) (a : D33) (kk : PK S) : K38_4 a (P38 q kk) = b38_4 q a (K38_5 a kk) := by
 kernel_rfl
theorem l38_5 (q : YF) (a : D33) (kk : PK S) : K38_5 a (P38 q kk) = b38_5 q a (K38_6 a kk) := by
 kernel_rfl
theorem l38_6 (q : YF) (a : D33) (kk : PK S) : K38_6 a (P38 q kk) = b38_6 q a (K38_7 a kk) := by
 kernel_rfl
theorem l38_7 (q : YF) (a : D33) (kk : PK S) : K38_7 a (P38 q kk) = b38_7 q a (K38_3 a kk) (K38_7 a kk) := by
 kernel_rfl
theorem l38_in (q : YF) (a : D33) (kk : PK S) : BG q kk 38 Tryz.f38 [ag (e33 a)] = e38_in q a (K38_0 a kk) := by
 kernel_rfl
theorem h38 (q : YF) (a : D33) : ∀ n, K38_0 a (H38 q n) = D38_0 (X38n q a n) ∧ K38_1 a (H38 q n) = D38_1 (X38n q a n) ∧ K38_2 a (H38 q n) = D38_2 (X38n q a n) ∧ K38_3 a (H38 q n) = D38_3 (X38n q a n) ∧ K38_4 a (H38 q n) = D38_4 (X38n q a n) ∧ K38_5 a (H38 q n) = D38_5 (X38n q a n) ∧ K38_6 a (H38 q n) = D38_6 (X38n q a n) ∧ K38_7 a (H38 q n) = D38_7 (X38n q a n)
 | 0 => ⟨rfl, rfl, rfl, rfl, rfl, rfl, rfl, rfl⟩
 | n + 1 => by
  obtain ⟨h0, h1, h2, h3, h4, h5, h6, h7⟩ := h38 q a n
  exact ⟨(l38_0 q a (H38 q n)).trans (by rw [h1, h2]; kernel_rfl), (l38_1 q a (H38 q n)).trans (by rw [h1, h3]; kernel_rfl), (l38_2 q a (H38 q n)).trans (by rw [h0]; kernel_rfl), (l38_3 q a (H38 q n)).trans (by rw [h4]; kernel_rfl), (l38_4 q a (H38 q n)).trans (by rw [h5]; kernel_rfl), (l38_5 q a (H38 q n)).trans (by rw [h6]; kernel_rfl), (l38_6 q a (H38 q n)).trans (by rw [h7]; kernel_rfl), (l38_7 q a (H38 q n)).trans (by rw [h3, h7]; kernel_rfl)⟩
theorem W38 (a : D33) (n : Nat) (x : S) (h : e38_in (regs O) a (D38_0 (X38n (regs O) a n)) = some x) : (W O).callT 38 [ag (e33 a)] = some x := by
 refine WG (fn := Tryz.f38) (by kernel_rfl) (by kernel_rfl) (n := n) ?_
 refine (l38_in (regs O) a (H38 (regs O) n)).trans ?_
 obtain ⟨h0, h1, h2, h3, h4, h5, h6, h7⟩ := h38 (regs O) a n
 rw [h0]
 exact h
abbrev H48 (q : YF) : Nat → PK S := HG q 48 Tryz.f48
def e48_in (q : YF) (a : D49) (b : D49) : OS := yC q 49 [ag (e49 a)] fun y => bif !eqI (y.i 0) 0 then some (ii (y.i 0)) else yC q 49 [ag (e49 b)] fun y => some (ii (y.i 0))
theorem l48_in (q : YF) (a : D49) (b : D49) (kk : PK S) : BG q kk 48 Tryz.f48 [ag (e49 a), ag (e49 b)] = e48_in q a b := by
 kernel_rfl
theorem W48 (a : D49) (b : D49) (n : Nat) (x : S) (h : e48_in (regs O) a b = some x) : (W O).callT 48 [ag (e49 a), ag (e49 b)] = some x := by
 refine WG (fn := Tryz.f48) (by kernel_rfl) (by kernel_rfl) (n := n) ?_
 refine (l48_in (regs O) a b (H48 (regs O) n)).trans ?_
 exact h
abbrev H49 (q : YF) : Nat → PK S := HG q 49 Tryz.f49
def e49_in (q : YF) (a : D49) : OS := yC q 91 [ii a.fa_0] fun y => bif !eqI (y.i 0) 0 then some (ii (y.i 0)) else yC q 91 [ii a.fa_1] fun y => some (ii (y.i 0))
theorem l49_in (q : YF) (a : D49) (kk : PK S) : BG q kk 49 Tryz.f49 [ag (e49 a)] = e49_in q a := by
 kernel_rfl
theorem W49 (a : D49) (n : Nat) (x : S) (h : e49_in (regs O) a = some x) : (W O).callT 49 [ag (e49 a)] = some x := by
 refine WG (fn := Tryz.f49) (by kernel_rfl) (by kernel_rfl) (n := n) ?_
 refine (l49_in (regs O) a (H49 (regs O) n)).trans ?_
 exact h
abbrev P53 (q : YF) (kk : PK S) : PK S := PG q 53 Tryz.f53 kk
abbrev H53 (q : YF) : Nat → PK S := HG q 53 Tryz.f53
def s53_0 (a : Rw Int) (v0 : Int) : St := mkSt [(8, ii v0), (6, S.t (T.rows 1 a.n fun i => [ti (a.get i)])), (3, ii 0), (7, ii (ofN a.n))] 0 []
def K53_0 (a : Rw Int) (kk : PK S) : Int → OS := fun v0=> kk 3 0 0 (s53_0 a v0)
def b53_0 (q : YF) (a : Rw Int) (k0 : Int → OS) (v0 : Int) : OS := bif ltI v0 (ofN a.n) then elemO v0 a.n fun h => bif !eqI (a.get (Fin.mk v0.toNat h)) 0 then some (ii (a.get (Fin.mk v0.toNat h))) else k0 (addI .i64 v0 1) else some (ii 0)
def e53_in (q : YF) (a : Rw Int) (k0 : Int → OS) : OS := k0 0
structure X53 where
 x0 : Int → OS
def D53_0 (X : X53) : Int → OS := fun v0 => X.x0 v0
def X53s (q : YF) (a : Rw Int) (X : X53) : X53 := ⟨fun v0 => b53_0 q a (D53_0 X) v0⟩
def X53n (q : YF) (a : Rw Int) : Nat → X53
 | 0 => ⟨fun _ => none⟩
 | n + 1 => X53s q a (X53n q a n)
theorem l53_0 (q : YF) (a : Rw Int) (kk : PK S) : K53_0 a (P53 q kk) = b53_0 q a (K53_0 a kk) := by
 kernel_rfl
theorem l53_in (q : YF) (a : Rw Int) (kk : PK S) : BG q kk 53 Tryz.f53 [S.t (T.rows 1 a.n fun i => e3 (a.get i))] = e53_in q a (K53_0 a kk) := by
 kernel_rfl
theorem h53 (q : YF) (a : Rw Int) : ∀ n, K53_0 a (H53 q n) = D53_0 (X53n q a n)
 | 0 => rfl
 | n + 1 => by
  have h0 := h53 q a n
  exact (l53_0 q a (H53 q n)).trans (by rw [h0]; kernel_rfl)
theorem W53 (a : Rw Int) (n : Nat) (x : S) (h : e53_in (regs O) a (D53_0 (X53n (regs O) a n)) = some x) : (W O).callT 53 [S.t (T.rows 1 a.n fun i => e3 (a.get i))] = some x := by
 refine WG (fn := Tryz.f53) (by kernel_rfl) (by kernel_rfl) (n := n) ?_
 refine (l53_in (regs O) a (H53 (regs O) n)).trans ?_
 have h0 := h53 (regs O) a n
 rw [h0]
 exact h
abbrev P58 (q : YF) (kk : PK S) : PK S := PG q 58 Tryz.f58 kk
abbrev H58 (q : YF) : Nat → PK S := HG q 58 Tryz.f58
def s58_0 (a : D112) : St := mkSt [(16, ii (ofN 2)), (1, S.ptr 0 0), (17, ii 0), (15, S.sl 1 2)] 2 [(0, B.box (List.map S.t (e112 a))), (1, B.lst false 2 2 [ii a.fCap_0, ii a.fCap_1, ii a.fOver_0, ii a.fOver_1])]
def K58_0 (a : D112) (kk : PK S) : OS := kk 4 0 0 (s58_0 a)
def s58_1 (a : D112) : St := mkSt [(16, ii (ofN 2)), (1, S.ptr 0 0), (17, ii 1), (15, S.sl 1 2)] 2 [(0, B.box (List.map S.t (e112 a))), (1, B.lst false 2 2 [ii a.fCap_0, ii a.fCap_1, ii a.fOver_0, ii a.fOver_1])]
def K58_1 (a : D112) (kk : PK S) : OS := kk 4 0 0 (s58_1 a)
def s58_2 (a : D112) : St := mkSt [(16, ii (ofN 2)), (1, S.ptr 0 0), (17, ii 2), (15, S.sl 1 2)] 2 [(0, B.box (List.map S.t (e112 a))), (1, B.lst false 2 2 [ii a.fCap_0, ii a.fCap_1, ii a.fOver_0, ii a.fOver_1])]
def K58_2 (a : D112) (kk : PK S) : OS := kk 4 0 0 (s58_2 a)
def b58_0 (q : YF) (a : D112) (k1 : OS) : OS := yC q 102 [S.agg [ii a.fCap_0, ii a.fCap_1]] fun y => bif !eqI (y.i 0) 0 then some (ii (y.i 0)) else k1
def b58_1 (q : YF) (a : D112) (k2 : OS) : OS := yC q 102 [S.agg [ii a.fOver_0, ii a.fOver_1]] fun y => bif !eqI (y.i 0) 0 then some (ii (y.i 0)) else k2
def b58_2 (q : YF) (a : D112) : OS := yC q 103 [S.agg [ii a.fOver_0, ii a.fOver_1], S.agg [ii a.fCap_0, ii a.fCap_1]] fun y => bif !y.b 0 then some (ii 1) else yC q 104 [S.t (T.rows 2 a.fLabels.n fun i => e88 (a.fLabels.get i))] fun y => bif !eqI (y.i 0) 0 then some (ii (y.i 0)) else yC q 105 [S.t (T.rows 4 a.fOffers.n fun i => e109 (a.fOffers.get i))] fun y => some (ii (y.i 0))
def e58_in (q : YF) (a : D112) (k0 : OS) : OS := yC q 101 [ss a.fName] fun y => bif !y.b 0 then some (ii 7) else k0
structure X58 where
 x0 : OS
 x1 : OS
 x2 : OS
def D58_0 (X : X58) : OS := X.x0
def D58_1 (X : X58) : OS := X.x1
def D58_2 (X : X58) : OS := X.x2
def X58s (q : YF) (a : D112) (X : X58) : X58 := ⟨b58_0 q a (D58_1 X),
 b58_1 q a (D58_2 X),
 b58_2 q a⟩
def X58n (q : YF) (a : D112) : Nat → X58
 | 0 => ⟨none, none, none⟩
 | n + 1 => X58s q a (X58n q a n)
theorem l58_0 (q : YF) (a : D112) (kk : PK S) : K58_0 a (P58 q kk) = b58_0 q a (K58_1 a kk) := by
 kernel_rfl
theorem l58_1 (q : YF) (a : D112) (kk : PK S) : K58_1 a (P58 q kk) = b58_1 q a (K58_2 a kk) := by
 kernel_rfl
theorem l58_2 (q : YF) (a : D112) (kk : PK S) : K58_2 a (P58 q kk) = b58_2 q a := by
 kernel_rfl
theorem l58_in (q : YF) (a : D112) (kk : PK S) : BG q kk 58 Tryz.f58 [ag (e112 a)] = e58_in q a (K58_0 a kk) := by
 kernel_rfl
theorem h58 (q : YF) (a : D112) : ∀ n, K58_0 a (H58 q n) = D58_0 (X58n q a n) ∧ K58_1 a (H58 q n) = D58_1 (X58n q a n) ∧ K58_2 a (H58 q n) = D58_2 (X58n q a n)
 | 0 => ⟨rfl, rfl, rfl⟩
 | n + 1 => by
  obtain ⟨h0, h1, h2⟩ := h58 q a n
  exact ⟨(l58_0 q a (H58 q n)).trans (by rw [h1]; kernel_rfl), (l58_1 q a (H58 q n)).trans (by rw [h2]; kernel_rfl), (l58_2 q a (H58 q n)).trans (by kernel_rfl)⟩
theorem W58 (a : D112) (n : Nat) (x : S) (h : e58_in (regs O) a (D58_0 (X58n (regs O) a n)) = some x) : (W O).callT 58 [ag (e112 a)] = some x := by
 refine WG (fn := Tryz.f58) (by kernel_rfl) (by kernel_rfl) (n := n) ?_
 refine (l58_in (regs O) a (H58 (regs O) n)).trans ?_
 obtain ⟨h0, h1, h2⟩ := h58 (regs O) a n
 rw [h0]
 exact h
abbrev H59 (q : YF) : Nat → PK S := HG q 59 Tryz.f59
def e59_in (q : YF) (a : Rw D112) (b : D112) : OS := yC q 106 [S.t (T.rows 7 a.n fun i => e112 (a.get i)), S.fn (Go.Fn.func 60) [] [S.pt (e112 b)]] fun y => some (bb (geI (y.i 0) 0))
theorem l59_in (q : YF) (a : Rw D112) (b : D112) (kk : PK S) : BG q kk 59 Tryz.f59 [S.t (T.rows 7 a.n fun i => e112 (a.get i)), S.fn (Go.Fn.func 60) [] [S.pt (e112 b)]] = e59_in q a b := by
 kernel_rfl
theorem W59 (a : Rw D112) (b : D112) (n : Nat) (x : S) (h : e59_in (regs O) a b = some x) : (W O).callT 59 [S.t (T.rows 7 a.n fun i => e112 (a.get i)), S.fn (Go.Fn.func 60) [] [S.pt (e112 b)]] = some x := by
 refine WG (fn := Tryz.f59) (by kernel_rfl) (by kernel_rfl) (n := n) ?_
 refine (l59_in (regs O) a b (H59 (regs O) n)).trans ?_
 exact h
abbrev H60 (q : YF) : Nat → PK S := HG q 60 Tryz.f60
def e60_in (q : YF) (a : D112) (b : D112) : OS := some (bb (strEq a.fName b.fName))
theorem l60_in (q : YF) (a : D112) (b : D112) (kk : PK S) : BG q kk 60 Tryz.f60 [ag (e112 a), S.pt (e112 b)] = e60_in q a b := by
 kernel_rfl
theorem W60 (a : D112) (b : D112) (n : Nat) (x : S) (h : e60_in (regs O) a b = some x) : (W O).callT 60 [ag (e112 a), S.pt (e112 b)] = some x := by
 refine WG (fn := Tryz.f60) (by kernel_rfl) (by kernel_rfl) (n := n) ?_
 refine (l60_in (regs O) a b (H60 (regs O) n)).trans ?_
 exact h
abbrev P61 (q : YF) (kk : PK S) : PK S := PG q 61 Tryz.f61 kk
abbrev H61 (q : YF) : Nat → PK S := HG q 61 Tryz.f61
def s61_0 (a : D77) (v0 : Int) (v1 u2 : Bool) (u3 u4 u5 : S) (u6 : Bool) : St := mkSt [(0, ag (e77 a)), (8, S.ptr 0 1), (4, ss a.fName), (12, u3), (2, ii 0), (10, bb (geI a.fWeight 0)), (6, bb u2), (14, u4), (1, S.ptr 0 0), (9, ii a.fWeight), (5, S.sl 4 1), (13, u5), (3, S.ptr 0 0), (11, bb u6), (7, ii v0), (15, bb v1)] 57 [(0, B.box (List.map S.t (e77 a))), (4, B.lst false 1 1 [ss a.fName])]
abbrev T61_0 : Type := Int → Bool → Bool → S → S → S → Bool → OS
def K61_0 (a : D77) (kk : PK S) : T61_0 := fun v0 v1 u2 u3 u4 u5 u6=> kk 1 14 2 (s61_0 a v0 v1 u2 u3 u4 u5 u6)
def s61_1 (a : D77) (v0 v1 v2 v3 v4 : Int) (v5 : Bool) (u6 : S) (u7 u8 : Bool) (u9 u10 : S) (u11 u12 : Bool) (u13 u14 : S) (u15 : Bool) (u16 : S) : St := mkSt [(0, ag (e77 a)), (32, u13), (16, ii v0), (8, S.ptr 0 1), (24, S.t (T.rows 2 a.fTaints.n fun i => e88 (a.fTaints.get i))), (4, ss a.fName), (20, S.ptr 0 4), (12, u6), (28, bb u7), (2, ii 0), (18, S.agg [ii a.fLimit_0, ii a.fLimit_1]), (10, bb (geI a.fWeight 0)), (26, S.ptr 0 6), (6, bb u8), (22, ii v1), (14, u9), (30, u14), (1, S.ptr 0 0), (33, bb v5), (17, S.ptr 0 2), (9, ii a.fWeight), (25, ii v2), (5, S.sl 4 1), (21, S.t (T.rows 4 a.fReqs.n fun i => e68 (a.fReqs.get i))), (13, u10), (29, bb u15), (3, S.ptr 0 0), (19, ii v3), (11, bb u11), (27, ii a.fGen), (7, ii v4), (23, S.ptr 0 5), (15, bb u12), (31, u16)] 57 [(0, B.box (List.map S.t (e77 a))), (4, B.lst false 1 1 [ss a.fName])]
abbrev T61_1 : Type := Int → Int → Int → Int → Int → Bool → S → Bool → Bool → S → S → Bool → Bool → S → S → Bool → S → OS
def K61_1 (a : D77) (kk : PK S) : T61_1 := fun v0 v1 v2 v3 v4 v5 u6 u7 u8 u9 u10 u11 u12 u13 u14 u15 u16=> kk 1 32 2 (s61_1 a v0 v1 v2 v3 v4 v5 u6 u7 u8 u9 u10 u11 u12 u13 u14 u15 u16)
def s61_2 (a : D77) (v0 v1 v2 v3 v4 : Int) (v5 : Bool) (u6 u7 : S) (u8 u9 : Bool) (u10 u11 : S) (u12 : Bool) (u13 : S) (u14 u15 u16 : Bool) (u17 u18 : S) (u19 : Bool) (u20 u21 : S) : St := mkSt [(0, ag (e77 a)), (32, u6), (16, ii v0), (8, S.ptr 0 1), (24, S.t (T.rows 2 a.fTaints.n fun i => e88 (a.fTaints.get i))), (4, ss a.fName), (36, u18), (20, S.ptr 0 4), (12, u7), (28, bb u8), (2, ii 0), (34, bb u19), (18, S.agg [ii a.fLimit_0, ii a.fLimit_1]), (10, bb (geI a.fWeight 0)), (26, S.ptr 0 6), (6, bb u9), (38, bb v5), (22, ii v1), (14, u10), (30, u11), (1, S.ptr 0 0), (33, bb u12), (17, S.ptr 0 2), (9, ii a.fWeight), (25, ii v2), (5, S.sl 4 1), (37, u20), (21, S.t (T.rows 4 a.fReqs.n fun i => e68 (a.fReqs.get i))), (13, u13), (29, bb u14), (3, S.ptr 0 0), (35, u21), (19, ii v3), (11, bb u15), (27, ii a.fGen), (7, ii v4), (23, S.ptr 0 5), (15, bb u16), (31, u17)] 57 [(0, B.box (List.map S.t (e77 a))), (4, B.lst false 1 1 [ss a.fName])]
abbrev T61_2 : Type := Int → Int → Int → Int → Int → Bool → S → S → Bool → Bool → S → S → Bool → S → Bool → Bool → Bool → S → S → Bool → S → S → OS
def K61_2 (a : D77) (kk : PK S) : T61_2 := fun v0 v1 v2 v3 v4 v5 u6 u7 u8 u9 u10 u11 u12 u13 u14 u15 u16 u17 u18 u19 u20 u21=> kk 1 37 2 (s61_2 a v0 v1 v2 v3 v4 v5 u6 u7 u8 u9 u10 u11 u12 u13 u14 u15 u16 u17 u18 u19 u20 u21)
def s61_3 (a : D77) (v0 v1 v2 v3 v4 : Int) (v5 : Bool) (u6 u7 u8 : S) (u9 u10 u11 u12 : Bool) (u13 u14 : S) (u15 : Bool) (u16 u17 : S) (u18 : Bool) (u19 : S) (u20 u21 : Bool) (u22 u23 u24 u25 : S) (u26 : Bool) : St := mkSt [(0, ag (e77 a)), (32, u6), (16, ii v0), (8, S.ptr 0 1), (40, u23), (24, S.t (T.rows 2 a.fTaints.n fun i => e88 (a.fTaints.get i))), (4, ss a.fName), (36, u7), (20, S.ptr 0 4), (12, u8), (28, bb u9), (2, ii 0), (34, bb u10), (18, S.agg [ii a.fLimit_0, ii a.fLimit_1]), (10, bb (geI a.fWeight 0)), (42, u24), (26, S.ptr 0 6), (6, bb u11), (38, bb u12), (22, ii v1), (14, u13), (30, u14), (1, S.ptr 0 0), (33, bb u15), (17, S.ptr 0 2), (9, ii a.fWeight), (41, u25), (25, ii v2), (5, S.sl 4 1), (37, u16), (21, S.t (T.rows 4 a.fReqs.n fun i => e68 (a.fReqs.get i))), (13, u17), (29, bb u18), (3, S.ptr 0 0), (35, u19), (19, ii v3), (11, bb u20), (43, bb v5), (27, ii a.fGen), (7, ii v4), (39, bb u26), (23, S.ptr 0 5), (15, bb u21), (31, u22)] 57 [(0, B.box (List.map S.t (e77 a))), (4, B.lst false 1 1 [ss a.fName])]
abbrev T61_3 : Type := Int → Int → Int → Int → Int → Bool → S → S → S → Bool → Bool → Bool → Bool → S → S → Bool → S → S → Bool → S → Bool → Bool → S → S → S → S → Bool → OS
def K61_3 (a : D77) (kk : PK S) : T61_3 := fun v0 v1 v2 v3 v4 v5 u6 u7 u8 u9 u10 u11 u12 u13 u14 u15 u16 u17 u18 u19 u20 u21 u22 u23 u24 u25 u26=> kk 1 42 2 (s61_3 a v0 v1 v2 v3 v4 v5 u6 u7 u8 u9 u10 u11 u12 u13 u14 u15 u16 u17 u18 u19 u20 u21 u22 u23 u24 u25 u26)
def s61_4 (a : D77) (v0 v1 v2 v3 v4 : Int) (v5 : Bool) (u6 u7 u8 u9 : S) (u10 u11 : Bool) (u12 : S) (u13 u14 : Bool) (u15 u16 : S) (u17 : Bool) (u18 u19 u20 : S) (u21 : Bool) (u22 : S) (u23 u24 u25 u26 : Bool) (u27 : S) (u28 : Bool) (u29 u30 u31 : S) : St := mkSt [(0, ag (e77 a)), (32, u6), (16, ii v0), (48, bb v5), (8, S.ptr 0 1), (40, u7), (24, S.t (T.rows 2 a.fTaints.n fun i => e88 (a.fTaints.get i))), (4, ss a.fName), (36, u8), (20, S.ptr 0 4), (12, u9), (44, bb u28), (28, bb u10), (2, ii 0), (34, bb u11), (18, S.agg [ii a.fLimit_0, ii a.fLimit_1]), (10, bb (geI a.fWeight 0)), (42, u12), (26, S.ptr 0 6), (6, bb u13), (38, bb u14), (22, ii v1), (14, u15), (46, u29), (30, u16), (1, S.ptr 0 0), (33, bb u17), (17, S.ptr 0 2), (9, ii a.fWeight), (41, u18), (25, ii v2), (5, S.sl 4 1), (37, u19), (21, S.t (T.rows 4 a.fReqs.n fun i => e68 (a.fReqs.get i))), (13, u20), (45, u30), (29, bb u21), (3, S.ptr 0 0), (35, u22), (19, ii v3), (11, bb u23), (43, bb u24), (27, ii a.fGen), (7, ii v4), (39, bb u25), (23, S.ptr 0 5), (15, bb u26), (47, u31), (31, u27)] 57 [(0, B.box (List.map S.t (e77 a))), (4, B.lst false 1 1 [ss a.fName])]
abbrev T61_4 : Type := Int → Int → Int → Int → Int → Bool → S → S → S → S → Bool → Bool → S → Bool → Bool → S → S → Bool → S → S → S → Bool → S → Bool → Bool → Bool → Bool → S → Bool → S → S → S → OS
def K61_4 (a : D77) (kk : PK S) : T61_4 := fun v0 v1 v2 v3 v4 v5 u6 u7 u8 u9 u10 u11 u12 u13 u14 u15 u16 u17 u18 u19 u20 u21 u22 u23 u24 u25 u26 u27 u28 u29 u30 u31=> kk 1 47 2 (s61_4 a v0 v1 v2 v3 v4 v5 u6 u7 u8 u9 u10 u11 u12 u13 u14 u15 u16 u17 u18 u19 u20 u21 u22 u23 u24 u25 u26 u27 u28 u29 u30 u31)
def s61_5 (a : D77) (v0 v1 v2 v3 v4 : Int) (v5 : Bool) (u6 : S) (u7 : Bool) (u8 u9 u10 : S) (u11 u12 u13 : Bool) (u14 : S) (u15 u16 : Bool) (u17 u18 u19 : S) (u20 : Bool) (u21 u22 u23 u24 : S) (u25 : Bool) (u26 : S) (u27 u28 u29 u30 : Bool) (u31 u32 u33 u34 : S) (u35 : Bool) (u36 : S) : St := mkSt [(0, ag (e77 a)), (32, u6), (16, ii v0), (48, bb u7), (8, S.ptr 0 1), (40, u8), (24, S.t (T.rows 2 a.fTaints.n fun i => e88 (a.fTaints.get i))), (4, ss a.fName), (36, u9), (20, S.ptr 0 4), (52, u33), (12, u10), (44, bb u11), (28, bb u12), (2, ii 0), (34, bb u13), (18, S.agg [ii a.fLimit_0, ii a.fLimit_1]), (50, u34), (10, bb (geI a.fWeight 0)), (42, u14), (26, S.ptr 0 6), (6, bb u15), (38, bb u16), (22, ii v1), (14, u17), (46, u18), (30, u19), (1, S.ptr 0 0), (33, bb u20), (17, S.ptr 0 2), (49, bb u35), (9, ii a.fWeight), (41, u21), (25, ii v2), (5, S.sl 4 1), (37, u22), (21, S.t (T.rows 4 a.fReqs.n fun i => e68 (a.fReqs.get i))), (53, bb v5), (13, u23), (45, u24), (29, bb u25), (3, S.ptr 0 0), (35, u26), (19, ii v3), (51, u36), (11, bb u27), (43, bb u28), (27, ii a.fGen), (7, ii v4), (39, bb u29), (23, S.ptr 0 5), (15, bb u30), (47, u31), (31, u32)] 57 [(0, B.box (List.map S.t (e77 a))), (4, B.lst false 1 1 [ss a.fName])]
abbrev T61_5 : Type := Int → Int → Int → Int → Int → Bool → S → Bool → S → S → S → Bool → Bool → Bool → S → Bool → Bool → S → S → S → Bool → S → S → S → S → Bool → S → Bool → Bool → Bool → Bool → S → S → S → S → Bool → S → OS
def K61_5 (a : D77) (kk : PK S) : T61_5 := fun v0 v1 v2 v3 v4 v5 u6 u7 u8 u9 u10 u11 u12 u13 u14 u15 u16 u17 u18 u19 u20 u21 u22 u23 u24 u25 u26 u27 u28 u29 u30 u31 u32 u33 u34 u35 u36=> kk 1 52 2 (s61_5 a v0 v1 v2 v3 v4 v5 u6 u7 u8 u9 u10 u11 u12 u13 u14 u15 u16 u17 u18 u19 u20 u21 u22 u23 u24 u25 u26 u27 u28 u29 u30 u31 u32 u33 u34 u35 u36)
def b61_0 (q : YF) (a : D77) (k1 : T61_1) (v0 : Int) (v1 u2 : Bool) (u3 u4 u5 : S) (u6 : Bool) : OS := yC q 108 [bb v1, ii 1] fun y => yC q 102 [S.agg [ii a.fLimit_0, ii a.fLimit_1]] fun y_1 => yC q 110 [S.t (T.rows 4 a.fReqs.n fun i => e68 (a.fReqs.get i))] fun y_2 => yC q 111 [S.t (T.rows 2 a.fTaints.n fun i => e88 (a.fTaints.get i))] fun y_3 => yC q 112 [ii a.fGen, ii 0, ii 1099511627776] fun y_4 => bif y_4.b 0 then yC q 112 [ii a.fExpire, ii 0, ii 1073741824] fun y_5 => k1 (y.i 0) (y_2.i 0) (y_3.i 0) (y_1.i 0) v0 (y_5.b 0) u3 (y_4.b 0) u2 u4 u5 u6 v1 (bb (y_5.b 0)) (S.ptr 0 7) true (ii a.fExpire) else k1 (y.i 0) (y_2.i 0) (y_3.i 0) (y_1.i 0) v0 false u3 (y_4.b 0) u2 u4 u5 u6 v1 S.ud S.ud false S.ud
def b61_1 (q : YF) (a : D77) (k2 : T61_2) (v0 v1 v2 v3 v4 : Int) (v5 : Bool) (u6 : S) (u7 u8 : Bool) (u9 u10 : S) (u11 u12 : Bool) (u13 u14 : S) (u15 : Bool) (u16 : S) : OS := bif v5 then k2 v0 v1 v2 v3 v4 (geI a.fBudget 0) u13 u6 u7 u8 u9 u14 v5 u10 u15 u11 u12 u16 (ii a.fBudget) true (bb (geI a.fBudget 0)) (S.ptr 0 8) else k2 v0 v1 v2 v3 v4 false u13 u6 u7 u8 u9 u14 v5 u10 u15 u11 u12 u16 S.ud false S.ud S.ud
def b61_2 (q : YF) (a : D77) (k3 : T61_3) (v0 v1 v2 v3 v4 : Int) (v5 : Bool) (u6 u7 : S) (u8 u9 : Bool) (u10 u11 : S) (u12 : Bool) (u13 : S) (u14 u15 u16 : Bool) (u17 u18 : S) (u19 : Bool) (u20 u21 : S) : OS := bif v5 then k3 v0 v1 v2 v3 v4 (leI a.fBudget 16) u6 u18 u7 u8 u19 u9 v5 u10 u11 u12 u20 u13 u14 u21 u15 u16 u17 (S.ptr 0 8) (bb (leI a.fBudget 16)) (ii a.fBudget) true else k3 v0 v1 v2 v3 v4 false u6 u18 u7 u8 u19 u9 v5 u10 u11 u12 u20 u13 u14 u21 u15 u16 u17 S.ud S.ud S.ud false
def b61_3 (q : YF) (a : D77) (k4 : T61_4) (v0 v1 v2 v3 v4 : Int) (v5 : Bool) (u6 u7 u8 : S) (u9 u10 u11 u12 : Bool) (u13 u14 : S) (u15 : Bool) (u16 u17 : S) (u18 : Bool) (u19 : S) (u20 u21 : Bool) (u22 u23 u24 u25 : S) (u26 : Bool) : OS := bif v5 then k4 v0 v1 v2 v3 v4 (geI a.fMerge 0) u6 u23 u7 u8 u9 u10 u24 u11 u12 u13 u14 u15 u25 u16 u17 u18 u19 u20 v5 u26 u21 u22 true (ii a.fMerge) (S.ptr 0 9) (bb (geI a.fMerge 0)) else k4 v0 v1 v2 v3 v4 false u6 u23 u7 u8 u9 u10 u24 u11 u12 u13 u14 u15 u25 u16 u17 u18 u19 u20 v5 u26 u21 u22 false S.ud S.ud S.ud
def b61_4 (q : YF) (a : D77) (k5 : T61_5) (v0 v1 v2 v3 v4 : Int) (v5 : Bool) (u6 u7 u8 u9 : S) (u10 u11 : Bool) (u12 : S) (u13 u14 : Bool) (u15 u16 : S) (u17 : Bool) (u18 u19 u20 : S) (u21 : Bool) (u22 : S) (u23 u24 u25 u26 : Bool) (u27 : S) (u28 : Bool) (u29 u30 u31 : S) : OS := bif v5 then k5 v0 v1 v2 v3 v4 (leI a.fMerge 2) u6 v5 u7 u8 u9 u28 u10 u11 u12 u13 u14 u15 u29 u16 u17 u18 u19 u20 u30 u21 u22 u23 u24 u25 u26 u31 u27 (bb (leI a.fMerge 2)) (S.ptr 0 9) true (ii a.fMerge) else k5 v0 v1 v2 v3 v4 false u6 v5 u7 u8 u9 u28 u10 u11 u12 u13 u14 u15 u29 u16 u17 u18 u19 u20 u30 u21 u22 u23 u24 u25 u26 u31 u27 S.ud S.ud false S.ud
def b61_5 (q : YF) (a : D77) (v0 v1 v2 v3 v4 : Int) (v5 : Bool) (u6 : S) (u7 : Bool) (u8 u9 u10 : S) (u11 u12 u13 : Bool) (u14 : S) (u15 u16 : Bool) (u17 u18 u19 : S) (u20 : Bool) (u21 u22 u23 u24 : S) (u25 : Bool) (u26 : S) (u27 u28 u29 u30 : Bool) (u31 u32 u33 u34 : S) (u35 : Bool) (u36 : S) : OS := yC q 108 [bb v5, ii 1] fun y => yC q 107 [S.t (T.rows 1 6 fun i => List.take 1 (List.drop (↑i * 1) [ti v4, ti v0, ti v3, ti v1, ti v2, ti (y.i 0)]))] fun y => some (ii (y.i 0))
def e61_in (q : YF) (a : D77) (k0 : T61_0) : OS := yC q 109 [S.t (T.rows 1 1 fun i => List.take 1 (List.drop (↑i * 1) [ts a.fName]))] fun y => yC q 108 [bb (y.b 0), ii 7] fun y_1 => bif geI a.fWeight 0 then k0 (y_1.i 0) (leI a.fWeight 100) (y.b 0) (S.ptr 0 1) (bb (leI a.fWeight 100)) (ii a.fWeight) true else k0 (y_1.i 0) false (y.b 0) S.ud S.ud S.ud false
structure X61 where
 x0 : Int → Bool → OS
 x1 : Int → Int → Int → Int → Int → Bool → OS
 x2 : Int → Int → Int → Int → Int → Bool → OS
 x3 : Int → Int → Int → Int → Int → Bool → OS
 x4 : Int → Int → Int → Int → Int → Bool → OS
 x5 : Int → Int → Int → Int → Int → Bool → OS
def D61_0 (X : X61) : T61_0 := fun v0 v1 _ _ _ _ _ => X.x0 v0 v1
def D61_1 (X : X61) : T61_1 := fun v0 v1 v2 v3 v4 v5 _ _ _ _ _ _ _ _ _ _ _ => X.x1 v0 v1 v2 v3 v4 v5
def D61_2 (X : X61) : T61_2 := fun v0 v1 v2 v3 v4 v5 _ _ _ _ _ _ _ _ _ _ _ _ _ _ _ _ => X.x2 v0 v1 v2 v3 v4 v5
def D61_3 (X : X61) : T61_3 := fun v0 v1 v2 v3 v4 v5 _ _ _ _ _ _ _ _ _ _ _ _ _ _ _ _ _ _ _ _ _ => X.x3 v0 v1 v2 v3 v4 v5
def D61_4 (X : X61) : T61_4 := fun v0 v1 v2 v3 v4 v5 _ _ _ _ _ _ _ _ _ _ _ _ _ _ _ _ _ _ _ _ _ _ _ _ _ _ => X.x4 v0 v1 v2 v3 v4 v5
def D61_5 (X : X61) : T61_5 := fun v0 v1 v2 v3 v4 v5 _ _ _ _ _ _ _ _ _ _ _ _ _ _ _ _ _ _ _ _ _ _ _ _ _ _ _ _ _ _ _ => X.x5 v0 v1 v2 v3 v4 v5
def X61s (q : YF) (a : D77) (X : X61) : X61 := ⟨fun v0 v1 => b61_0 q a (D61_1 X) v0 v1 dd dd dd dd dd,
 fun v0 v1 v2 v3 v4 v5 => b61_1 q a (D61_2 X) v0 v1 v2 v3 v4 v5 dd dd dd dd dd dd dd dd dd dd dd,
 fun v0 v1 v2 v3 v4 v5 => b61_2 q a (D61_3 X) v0 v1 v2 v3 v4 v5 dd dd dd dd dd dd dd dd dd dd dd dd dd dd dd dd,
 fun v0 v1 v2 v3 v4 v5 => b61_3 q a (D61_4 X) v0 v1 v2 v3 v4 v5 dd dd dd dd dd dd dd dd dd dd dd dd dd dd dd dd dd dd dd dd dd,
 fun v0 v1 v2 v3 v4 v5 => b61_4 q a (D61_5 X) v0 v1 v2 v3 v4 v5 dd dd dd dd dd dd dd dd dd dd dd dd dd dd dd dd dd dd dd dd dd dd dd dd dd dd,
 fun v0 v1 v2 v3 v4 v5 => b61_5 q a v0 v1 v2 v3 v4 v5 dd dd dd dd dd dd dd dd dd dd dd dd dd dd dd dd dd dd dd dd dd dd dd dd dd dd dd dd dd dd dd⟩
def X61n (q : YF) (a : D77) : Nat → X61
 | 0 => ⟨fun _ _ => none, fun _ _ _ _ _ _ => none, fun _ _ _ _ _ _ => none, fun _ _ _ _ _ _ => none, fun _ _ _ _ _ _ => none, fun _ _ _ _ _ _ => none⟩
 | n + 1 => X61s q a (X61n q a n)
theorem l61_0 (q : YF) (a : D77) (kk : PK S) : K61_0 a (P61 q kk) = b61_0 q a (K61_1 a kk) := by
 kernel_rfl
theorem l61_1 (q : YF) (a : D77) (kk : PK S) : K61_1 a (P61 q kk) = b61_1 q a (K61_2 a kk) := by
 kernel_rfl
theorem l61_2 (q : YF) (a : D77) (kk : PK S) : K61_2 a (P61 q kk) = b61_2 q a (K61_3 a kk) := by
 kernel_rfl
theorem l61_3 (q : YF) (a : D77) (kk : PK S) : K61_3 a (P61 q kk) = b61_3 q a (K61_4 a kk) := by
 kernel_rfl
theorem l61_4 (q : YF) (a : D77) (kk : PK S) : K61_4 a (P61 q kk) = b61_4 q a (K61_5 a kk) := by
 kernel_rfl
theorem l61_5 (q : YF) (a : D77) (kk : PK S) : K61_5 a (P61 q kk) = b61_5 q a := by
 kernel_rfl
theorem l61_in (q : YF) (a : D77) (kk : PK S) : BG q kk 61 Tryz.f61 [ag (e77 a)] = e61_in q a (K61_0 a kk) := by
 kernel_rfl
theorem h61 (q : YF) (a : D77) : ∀ n, K61_0 a (H61 q n) = D61_0 (X61n q a n) ∧ K61_1 a (H61 q n) = D61_1 (X61n q a n) ∧ K61_2 a (H61 q n) = D61_2 (X61n q a n) ∧ K61_3 a (H61 q n) = D61_3 (X61n q a n) ∧ K61_4 a (H61 q n) = D61_4 (X61n q a n) ∧ K61_5 a (H61 q n) = D61_5 (X61n q a n)
 | 0 => ⟨rfl, rfl, rfl, rfl, rfl, rfl⟩
 | n + 1 => by
  obtain ⟨h0, h1, h2, h3, h4, h5⟩ := h61 q a n
  exact ⟨(l61_0 q a (H61 q n)).trans (by rw [h1]; kernel_rfl), (l61_1 q a (H61 q n)).trans (by rw [h2]; kernel_rfl), (l61_2 q a (H61 q n)).trans (by rw [h3]; kernel_rfl), (l61_3 q a (H61 q n)).trans (by rw [h4]; kernel_rfl), (l61_4 q a (H61 q n)).trans (by rw [h5]; kernel_rfl), (l61_5 q a (H61 q n)).trans (by kernel_rfl)⟩
theorem W61 (a : D77) (n : Nat) (x : S) (h : e61_in (regs O) a (D61_0 (X61n (regs O) a n)) = some x) : (W O).callT 61 [ag (e77 a)] = some x := by
 refine WG (fn := Tryz.f61) (by kernel_rfl) (by kernel_rfl) (n := n) ?_
 refine (l61_in (regs O) a (H61 (regs O) n)).trans ?_
 obtain ⟨h0, h1, h2, h3, h4, h5⟩ := h61 (regs O) a n
 rw [h0]
 exact h
abbrev P62 (q : YF) (kk : PK S) : PK S := PG q 62 Tryz.f62 kk
abbrev H62 (q : YF) : Nat → PK S := HG q 62 Tryz.f62
def s62_0 (a : D52) (v0 v1 v2 v3 : Int) (v4 u5 : Bool) (u6 u7 u8 : S) (u9 : Bool) : St := mkSt [(0, ag (e52 a)), (32, u6), (16, S.sl 15 5), (8, S.ptr 0 3), (24, ii v0), (4, ss a.fName), (20, ii a.fPrice), (12, ss a.fOffer_Zone), (28, S.ptr 0 10), (2, ii 0), (34, u7), (18, ii v1), (10, S.ptr 0 3), (26, S.t (T.rows 3 a.fOpts.n fun i => e47 (a.fOpts.get i))), (6, ss a.fPool), (22, S.ptr 0 7), (14, S.ptr 0 5), (30, bb (geI a.fTry 1)), (1, S.ptr 0 0), (33, u8), (17, bb u5), (9, ss a.fOffer_Type), (25, S.ptr 0 9), (5, S.ptr 0 1), (21, ii v2), (13, S.ptr 0 3), (29, ii a.fTry), (3, S.ptr 0 0), (35, bb v4), (19, S.ptr 0 6), (11, S.ptr 0 4), (27, ii v3), (7, S.ptr 0 3), (23, S.agg [ii a.fCap_0, ii a.fCap_1]), (15, ss a.fOffer_Kind), (31, bb u9)] 63 [(0, B.box (List.map S.t (e52 a))), (15, B.lst false 1 5 [ss a.fName, ss a.fPool, ss a.fOffer_Type, ss a.fOffer_Zone, ss a.fOffer_Kind])]
abbrev T62_0 : Type := Int → Int → Int → Int → Bool → Bool → S → S → S → Bool → OS
def K62_0 (a : D52) (kk : PK S) : T62_0 := fun v0 v1 v2 v3 v4 u5 u6 u7 u8 u9=> kk 1 34 2 (s62_0 a v0 v1 v2 v3 v4 u5 u6 u7 u8 u9)
def s62_1 (a : D52) (v0 v1 v2 v3 v4 v5 : Int) (v6 : Bool) (u7 u8 u9 : S) (u10 u11 u12 : Bool) (u13 u14 : S) (u15 : Bool) (u16 : S) : St := mkSt [(0, ag (e52 a)), (32, u7), (16, S.sl 15 5), (48, u13), (8, S.ptr 0 3), (40, bb (leI (sizeS a.fId) 16)), (24, ii v0), (4, ss a.fName), (36, ii v1), (20, ii a.fPrice), (12, ss a.fOffer_Zone), (44, bb (geI a.fPhase 1)), (28, S.ptr 0 10), (2, ii 0), (34, u8), (18, ii v2), (10, S.ptr 0 3), (42, S.ptr 0 12), (26, S.t (T.rows 3 a.fOpts.n fun i => e47 (a.fOpts.get i))), (6, ss a.fPool), (38, ss a.fId), (22, S.ptr 0 7), (14, S.ptr 0 5), (46, u14), (30, bb (geI a.fTry 1)), (1, S.ptr 0 0), (33, u9), (17, bb u10), (49, bb v6), (9, ss a.fOffer_Type), (41, ii v3), (25, S.ptr 0 9), (5, S.ptr 0 1), (37, S.ptr 0 11), (21, ii v4), (13, S.ptr 0 3), (45, bb u15), (29, ii a.fTry), (3, S.ptr 0 0), (35, bb u11), (19, S.ptr 0 6), (11, S.ptr 0 4), (43, ii a.fPhase), (27, ii v5), (7, S.ptr 0 3), (39, ii (sizeS a.fId)), (23, S.agg [ii a.fCap_0, ii a.fCap_1]), (15, ss a.fOffer_Kind), (47, u16), (31, bb u12)] 63 [(0, B.box (List.map S.t (e52 a))), (15, B.lst false 1 5 [ss a.fName, ss a.fPool, ss a.fOffer_Type, ss a.fOffer_Zone, ss a.fOffer_Kind])]
abbrev T62_1 : Type := Int → Int → Int → Int → Int → Int → Bool → S → S → S → Bool → Bool → Bool → S → S → Bool → S → OS
def K62_1 (a : D52) (kk : PK S) : T62_1 := fun v0 v1 v2 v3 v4 v5 v6 u7 u8 u9 u10 u11 u12 u13 u14 u15 u16=> kk 1 48 2 (s62_1 a v0 v1 v2 v3 v4 v5 v6 u7 u8 u9 u10 u11 u12 u13 u14 u15 u16)
def s62_2 (a : D52) (v0 v1 v2 v3 v4 v5 : Int) (v6 : Bool) (u7 u8 u9 u10 u11 : S) (u12 u13 u14 u15 : Bool) (u16 : S) (u17 : Bool) (u18 : S) (u19 : Bool) (u20 u21 : S) : St := mkSt [(0, ag (e52 a)), (32, u7), (16, S.sl 15 5), (48, u8), (8, S.ptr 0 3), (40, bb (leI (sizeS a.fId) 16)), (24, ii v0), (4, ss a.fName), (36, ii v1), (20, ii a.fPrice), (52, u18), (12, ss a.fOffer_Zone), (44, bb (geI a.fPhase 1)), (28, S.ptr 0 10), (2, ii 0), (34, u9), (18, ii v2), (50, bb u19), (10, S.ptr 0 3), (42, S.ptr 0 12), (26, S.t (T.rows 3 a.fOpts.n fun i => e47 (a.fOpts.get i))), (6, ss a.fPool), (38, ss a.fId), (22, S.ptr 0 7), (54, bb v6), (14, S.ptr 0 5), (46, u10), (30, bb (geI a.fTry 1)), (1, S.ptr 0 0), (33, u11), (17, bb u12), (49, bb u13), (9, ss a.fOffer_Type), (41, ii v3), (25, S.ptr 0 9), (5, S.ptr 0 1), (37, S.ptr 0 11), (21, ii v4), (53, u20), (13, S.ptr 0 3), (45, bb u14), (29, ii a.fTry), (3, S.ptr 0 0), (35, bb u15), (19, S.ptr 0 6), (51, u21), (11, S.ptr 0 4), (43, ii a.fPhase), (27, ii v5), (7, S.ptr 0 3), (39, ii (sizeS a.fId)), (23, S.agg [ii a.fCap_0, ii a.fCap_1]), (15, ss a.fOffer_Kind), (47, u16), (31, bb u17)] 63 [(0, B.box (List.map S.t (e52 a))), (15, B.lst false 1 5 [ss a.fName, ss a.fPool, ss a.fOffer_Type, ss a.fOffer_Zone, ss a.fOffer_Kind])]
abbrev T62_2 : Type := Int → Int → Int → Int → Int → Int → Bool → S → S → S → S → S → Bool → Bool → Bool → Bool → S → Bool → S → Bool → S → S → OS
def K62_2 (a : D52) (kk : PK S) : T62_2 := fun v0 v1 v2 v3 v4 v5 v6 u7 u8 u9 u10 u11 u12 u13 u14 u15 u16 u17 u18 u19 u20 u21=> kk 1 53 2 (s62_2 a v0 v1 v2 v3 v4 v5 v6 u7 u8 u9 u10 u11 u12 u13 u14 u15 u16 u17 u18 u19 u20 u21)
def s62_3 (a : D52) (v0 v1 v2 v3 v4 v5 : Int) (v6 : Bool) (u7 u8 u9 u10 : S) (u11 u12 : Bool) (u13 u14 : S) (u15 u16 : Bool) (u17 : S) (u18 u19 : Bool) (u20 u21 : S) (u22 : Bool) (u23 u24 u25 : S) (u26 : Bool) : St := mkSt [(0, ag (e52 a)), (32, u7), (16, S.sl 15 5), (48, u8), (8, S.ptr 0 3), (40, bb (leI (sizeS a.fId) 16)), (24, ii v0), (56, u23), (4, ss a.fName), (36, ii v1), (20, ii a.fPrice), (52, u9), (12, ss a.fOffer_Zone), (44, bb (geI a.fPhase 1)), (28, S.ptr 0 10), (2, ii 0), (34, u10), (18, ii v2), (50, bb u11), (10, S.ptr 0 3), (42, S.ptr 0 12), (26, S.t (T.rows 3 a.fOpts.n fun i => e47 (a.fOpts.get i))), (58, u24), (6, ss a.fPool), (38, ss a.fId), (22, S.ptr 0 7), (54, bb u12), (14, S.ptr 0 5), (46, u13), (30, bb (geI a.fTry 1)), (1, S.ptr 0 0), (33, u14), (17, bb u15), (49, bb u16), (9, ss a.fOffer_Type), (41, ii v3), (25, S.ptr 0 9), (57, u25), (5, S.ptr 0 1), (37, S.ptr 0 11), (21, ii v4), (53, u17), (13, S.ptr 0 3), (45, bb u18), (29, ii a.fTry), (3, S.ptr 0 0), (35, bb u19), (19, S.ptr 0 6), (51, u20), (11, S.ptr 0 4), (43, ii a.fPhase), (27, ii v5), (59, bb v6), (7, S.ptr 0 3), (39, ii (sizeS a.fId)), (23, S.agg [ii a.fCap_0, ii a.fCap_1]), (55, bb u26), (15, ss a.fOffer_Kind), (47, u21), (31, bb u22)] 63 [(0, B.box (List.map S.t (e52 a))), (15, B.lst false 1 5 [ss a.fName, ss a.fPool, ss a.fOffer_Type, ss a.fOffer_Zone, ss a.fOffer_Kind])]
abbrev T62_3 : Type := Int → Int → Int → Int → Int → Int → Bool → S → S → S → S → Bool → Bool → S → S → Bool → Bool → S → Bool → Bool → S → S → Bool → S → S → S → Bool → OS
def K62_3 (a : D52) (kk : PK S) : T62_3 := fun v0 v1 v2 v3 v4 v5 v6 u7 u8 u9 u10 u11 u12 u13 u14 u15 u16 u17 u18 u19 u20 u21 u22 u23 u24 u25 u26=> kk 1 58 2 (s62_3 a v0 v1 v2 v3 v4 v5 v6 u7 u8 u9 u10 u11 u12 u13 u14 u15 u16 u17 u18 u19 u20 u21 u22 u23 u24 u25 u26)
def b62_0 (q : YF) (a : D52) (k1 : T62_1) (v0 v1 v2 v3 : Int) (v4 u5 : Bool) (u6 u7 u8 : S) (u9 : Bool) : OS := yC q 108 [bb v4, ii 1] fun y => yC q 108 [bb (leI (sizeS a.fId) 16), ii 2] fun y_1 => bif geI a.fPhase 1 then k1 v0 (y.i 0) v1 (y_1.i 0) v2 v3 (leI a.fPhase 4) u6 u7 u8 u5 v4 u9 (bb (leI a.fPhase 4)) (S.ptr 0 12) true (ii a.fPhase) else k1 v0 (y.i 0) v1 (y_1.i 0) v2 v3 false u6 u7 u8 u5 v4 u9 S.ud S.ud false S.ud
def b62_1 (q : YF) (a : D52) (k2 : T62_2) (v0 v1 v2 v3 v4 v5 : Int) (v6 : Bool) (u7 u8 u9 : S) (u10 u11 u12 : Bool) (u13 u14 : S) (u15 : Bool) (u16 : S) : OS := bif v6 then yC q 112 [ii a.fGen, ii 0, ii 1099511627776] fun y => k2 v0 v1 v2 v3 v4 v5 (y.b 0) u7 u13 u8 u14 u9 u10 v6 u15 u11 u16 u12 (ii a.fGen) true (bb (y.b 0)) (S.ptr 0 2) else k2 v0 v1 v2 v3 v4 v5 false u7 u13 u8 u14 u9 u10 v6 u15 u11 u16 u12 S.ud false S.ud S.ud
def b62_2 (q : YF) (a : D52) (k3 : T62_3) (v0 v1 v2 v3 v4 v5 : Int) (v6 : Bool) (u7 u8 u9 u10 u11 : S) (u12 u13 u14 u15 : Bool) (u16 : S) (u17 : Bool) (u18 : S) (u19 : Bool) (u20 u21 : S) : OS := bif v6 then yC q 112 [ii a.fBorn, ii 0, ii 1099511627776] fun y => k3 v0 v1 v2 v3 v4 v5 (y.b 0) u7 u8 u18 u9 u19 v6 u10 u11 u12 u13 u20 u14 u15 u21 u16 u17 (S.ptr 0 13) (bb (y.b 0)) (ii a.fBorn) true else k3 v0 v1 v2 v3 v4 v5 false u7 u8 u18 u9 u19 v6 u10 u11 u12 u13 u20 u14 u15 u21 u16 u17 S.ud S.ud S.ud false
def b62_3 (q : YF) (a : D52) (v0 v1 v2 v3 v4 v5 : Int) (v6 : Bool) (u7 u8 u9 u10 : S) (u11 u12 : Bool) (u13 u14 : S) (u15 u16 : Bool) (u17 : S) (u18 u19 : Bool) (u20 u21 : S) (u22 : Bool) (u23 u24 u25 : S) (u26 : Bool) : OS := yC q 108 [bb v6, ii 1] fun y => yC q 107 [S.t (T.rows 1 7 fun i => List.take 1 (List.drop (↑i * 1) [ti v2, ti v4, ti v0, ti v5, ti v1, ti v3, ti (y.i 0)]))] fun y => some (ii (y.i 0))
def e62_in (q : YF) (a : D52) (k0 : T62_0) : OS := yC q 109 [S.t (T.rows 1 5 fun i => List.take 1 (List.drop (↑i * 1) [ts a.fName, ts a.fPool, ts a.fOffer_Type, ts a.fOffer_Zone, ts a.fOffer_Kind]))] fun y => yC q 108 [bb (y.b 0), ii 7] fun y_1 => yC q 113 [ii a.fPrice] fun y_2 => yC q 102 [S.agg [ii a.fCap_0, ii a.fCap_1]] fun y_3 => yC q 114 [S.t (T.rows 3 a.fOpts.n fun i => e47 (a.fOpts.get i))] fun y_4 => bif geI a.fTry 1 then k0 (y_3.i 0) (y_1.i 0) (y_2.i 0) (y_4.i 0) (leI a.fTry 32) (y.b 0) (S.ptr 0 10) (bb (leI a.fTry 32)) (ii a.fTry) true else k0 (y_3.i 0) (y_1.i 0) (y_2.i 0) (y_4.i 0) false (y.b 0) S.ud S.ud S.ud false
structure X62 where
 x0 : Int → Int → Int → Int → Bool → OS
 x1 : Int → Int → Int → Int → Int → Int → Bool → OS
 x2 : Int → Int → Int → Int → Int → Int → Bool → OS
 x3 : Int → Int → Int → Int → Int → Int → Bool → OS
def D62_0 (X : X62) : T62_0 := fun v0 v1 v2 v3 v4 _ _ _ _ _ => X.x0 v0 v1 v2 v3 v4
def D62_1 (X : X62) : T62_1 := fun v0 v1 v2 v3 v4 v5 v6 _ _ _ _ _ _ _ _ _ _ => X.x1 v0 v1 v2 v3 v4 v5 v6
def D62_2 (X : X62) : T62_2 := fun v0 v1 v2 v3 v4 v5 v6 _ _ _ _ _ _ _ _ _ _ _ _ _ _ _ => X.x2 v0 v1 v2 v3 v4 v5 v6
def D62_3 (X : X62) : T62_3 := fun v0 v1 v2 v3 v4 v5 v6 _ _ _ _ _ _ _ _ _ _ _ _ _ _ _ _ _ _ _ _ => X.x3 v0 v1 v2 v3 v4 v5 v6
def X62s (q : YF) (a : D52) (X : X62) : X62 := ⟨fun v0 v1 v2 v3 v4 => b62_0 q a (D62_1 X) v0 v1 v2 v3 v4 dd dd dd dd dd,
 fun v0 v1 v2 v3 v4 v5 v6 => b62_1 q a (D62_2 X) v0 v1 v2 v3 v4 v5 v6 dd dd dd dd dd dd dd dd dd dd,
 fun v0 v1 v2 v3 v4 v5 v6 => b62_2 q a (D62_3 X) v0 v1 v2 v3 v4 v5 v6 dd dd dd dd dd dd dd dd dd dd dd dd dd dd dd,
 fun v0 v1 v2 v3 v4 v5 v6 => b62_3 q a v0 v1 v2 v3 v4 v5 v6 dd dd dd dd dd dd dd dd dd dd dd dd dd dd dd dd dd dd dd dd⟩
def X62n (q : YF) (a : D52) : Nat → X62
 | 0 => ⟨fun _ _ _ _ _ => none, fun _ _ _ _ _ _ _ => none, fun _ _ _ _ _ _ _ => none, fun _ _ _ _ _ _ _ => none⟩
 | n + 1 => X62s q a (X62n q a n)
theorem l62_0 (q : YF) (a : D52) (kk : PK S) : K62_0 a (P62 q kk) = b62_0 q a (K62_1 a kk) := by
 kernel_rfl
theorem l62_1 (q : YF) (a : D52) (kk : PK S) : K62_1 a (P62 q kk) = b62_1 q a (K62_2 a kk) := by
 kernel_rfl
theorem l62_2 (q : YF) (a : D52) (kk : PK S) : K62_2 a (P62 q kk) = b62_2 q a (K62_3 a kk) := by
 kernel_rfl
theorem l62_3 (q : YF) (a : D52) (kk : PK S) : K62_3 a (P62 q kk) = b62_3 q a := by
 kernel_rfl
theorem l62_in (q : YF) (a : D52) (kk : PK S) : BG q kk 62 Tryz.f62 [ag (e52 a)] = e62_in q a (K62_0 a kk) := by
 kernel_rfl
theorem h62 (q : YF) (a : D52) : ∀ n, K62_0 a (H62 q n) = D62_0 (X62n q a n) ∧ K62_1 a (H62 q n) = D62_1 (X62n q a n) ∧ K62_2 a (H62 q n) = D62_2 (X62n q a n) ∧ K62_3 a (H62 q n) = D62_3 (X62n q a n)
 | 0 => ⟨rfl, rfl, rfl, rfl⟩
 | n + 1 => by
  obtain ⟨h0, h1, h2, h3⟩ := h62 q a n
  exact ⟨(l62_0 q a (H62 q n)).trans (by rw [h1]; kernel_rfl), (l62_1 q a (H62 q n)).trans (by rw [h2]; kernel_rfl), (l62_2 q a (H62 q n)).trans (by rw [h3]; kernel_rfl), (l62_3 q a (H62 q n)).trans (by kernel_rfl)⟩
theorem W62 (a : D52) (n : Nat) (x : S) (h : e62_in (regs O) a (D62_0 (X62n (regs O) a n)) = some x) : (W O).callT 62 [ag (e52 a)] = some x := by
 refine WG (fn := Tryz.f62) (by kernel_rfl) (by kernel_rfl) (n := n) ?_
 refine (l62_in (regs O) a (H62 (regs O) n)).trans ?_
 obtain ⟨h0, h1, h2, h3⟩ := h62 (regs O) a n
 rw [h0]
 exact h
abbrev H63 (q : YF) : Nat → PK S := HG q 63 Tryz.f63
def e63_in (q : YF) (a : Rw D112) (b : D47) : OS := yC q 83 [S.t (T.rows 7 a.n fun i => e112 (a.get i))] fun y => lookW O.P O.K 47 141 (y.m 0) (ag (e47 b)) (fun y => yC q 115 [S.agg [ii (y.i 1), ii (y.i 2)], S.agg [ii (y.i 3), ii (y.i 4)]] fun y => some (S.tup [S.agg [ii (y.i 0), ii (y.i 1)], bb true])) (yC q 115 [S.agg [ii 0, ii 0], S.agg [ii 0, ii 0]] fun y => some (S.tup [S.agg [ii (y.i 0), ii (y.i 1)], bb false]))
theorem l63_in (q : YF) (a : Rw D112) (b : D47) (kk : PK S) : BG q kk 63 Tryz.f63 [S.t (T.rows 7 a.n fun i => e112 (a.get i)), ag (e47 b)] = e63_in q a b := by
 kernel_rfl
theorem W63 (a : Rw D112) (b : D47) (n : Nat) (x : S) (h : e63_in (regs O) a b = some x) : (W O).callT 63 [S.t (T.rows 7 a.n fun i => e112 (a.get i)), ag (e47 b)] = some x := by
 refine WG (fn := Tryz.f63) (by kernel_rfl) (by kernel_rfl) (n := n) ?_
 refine (l63_in (regs O) a b (H63 (regs O) n)).trans ?_
 exact h
abbrev H64 (q : YF) : Nat → PK S := HG q 64 Tryz.f64
def e64_in (q : YF) (a : D33) (b : BA) : OS := yC q 116 [S.t (T.rows 10 a.fPools.n fun i => e77 (a.fPools.get i)), S.fn (Go.Fn.func 117) [] [S.pt [ts b]]] fun y => some (bb (y.b 0))
theorem l64_in (q : YF) (a : D33) (b : BA) (kk : PK S) : BG q kk 64 Tryz.f64 [ag (e33 a), ss b] = e64_in q a b := by
 kernel_rfl
theorem W64 (a : D33) (b : BA) (n : Nat) (x : S) (h : e64_in (regs O) a b = some x) : (W O).callT 64 [ag (e33 a), ss b] = some x := by
 refine WG (fn := Tryz.f64) (by kernel_rfl) (by kernel_rfl) (n := n) ?_
 refine (l64_in (regs O) a b (H64 (regs O) n)).trans ?_
 exact h
abbrev H65 (q : YF) : Nat → PK S := HG q 65 Tryz.f65
def e65_in (q : YF) (a : D33) (b : Rw D47) : OS := yC q 118 [S.t (T.rows 3 b.n fun i => e47 (b.get i)), S.fn (Go.Fn.func 119) [] [S.pt (e33 a)]] fun y => some (S.t (T.v (.bool !y.b 0)))
theorem l65_in (q : YF) (a : D33) (b : Rw D47) (kk : PK S) : BG q kk 65 Tryz.f65 [ag (e33 a), S.t (T.rows 3 b.n fun i => e47 (b.get i))] = e65_in q a b := by
 kernel_rfl
theorem W65 (a : D33) (b : Rw D47) (n : Nat) (x : S) (h : e65_in (regs O) a b = some x) : (W O).callT 65 [ag (e33 a), S.t (T.rows 3 b.n fun i => e47 (b.get i))] = some x := by
 refine WG (fn := Tryz.f65) (by kernel_rfl) (by kernel_rfl) (n := n) ?_
 refine (l65_in (regs O) a b (H65 (regs O) n)).trans ?_
 exact h
abbrev P66 (q : YF) (kk : PK S) : PK S := PG q 66 Tryz.f66 kk
abbrev H66 (q : YF) : Nat → PK S := HG q 66 Tryz.f66
def s66_0 (a : D61) (v0 v1 : Int) (v2 u3 u4 : Bool) (u5 u6 u7 : S) : St := mkSt [(0, ag (e61 a)), (16, bb u4), (8, bb u3), (4, ss a.fName), (20, bb v2), (12, ii v0), (2, ii 0), (18, u5), (10, S.ptr 0 2), (6, ss a.fApp), (14, ii a.fPrio), (1, S.ptr 0 0), (17, u6), (9, ii v1), (5, S.ptr 0 1), (13, S.ptr 0 4), (3, S.ptr 0 0), (19, u7), (11, S.agg [ii a.fNeed_0, ii a.fNeed_1]), (7, S.sl 6 2), (15, bb (geI a.fPrio (Int.negSucc 999)))] 40 [(0, B.box (List.map S.t (e61 a))), (6, B.lst false 1 2 [ss a.fName, ss a.fApp])]
abbrev T66_0 : Type := Int → Int → Bool → Bool → Bool → S → S → S → OS
def K66_0 (a : D61) (kk : PK S) : T66_0 := fun v0 v1 v2 u3 u4 u5 u6 u7=> kk 1 19 2 (s66_0 a v0 v1 v2 u3 u4 u5 u6 u7)
def b66_0 (q : YF) (a : D61) (v0 v1 : Int) (v2 u3 u4 : Bool) (u5 u6 u7 : S) : OS := yC q 108 [bb v2, ii 1] fun y => yC q 110 [S.t (T.rows 4 a.fReqs.n fun i => e68 (a.fReqs.get i))] fun y_1 => yC q 120 [S.t (T.rows 3 a.fTols.n fun i => e160 (a.fTols.get i))] fun y_2 => yC q 121 [ag (e61 a)] fun y_3 => yC q 112 [ii a.fSince, ii 0, ii 1099511627776] fun y_4 => yC q 108 [bb (y_4.b 0), ii 1] fun y_5 => yC q 122 [ss a.fOn] fun y_6 => yC q 108 [bb (y_6.b 0), ii 7] fun y_7 => yC q 107 [S.t (T.rows 1 8 fun i => List.take 1 (List.drop (↑i * 1) [ti v1, ti v0, ti (y.i 0), ti (y_1.i 0), ti (y_2.i 0), ti (y_3.i 0), ti (y_5.i 0), ti (y_7.i 0)]))] fun y => some (ii (y.i 0))
def e66_in (q : YF) (a : D61) (k0 : T66_0) : OS := yC q 109 [S.t (T.rows 1 2 fun i => List.take 1 (List.drop (↑i * 1) [ts a.fName, ts a.fApp]))] fun y => yC q 108 [bb (y.b 0), ii 7] fun y_1 => yC q 102 [S.agg [ii a.fNeed_0, ii a.fNeed_1]] fun y_2 => bif geI a.fPrio (Int.negSucc 999) then k0 (y_2.i 0) (y_1.i 0) (leI a.fPrio 1000) (y.b 0) true (ii a.fPrio) (S.ptr 0 4) (bb (leI a.fPrio 1000)) else k0 (y_2.i 0) (y_1.i 0) false (y.b 0) false S.ud S.ud S.ud
structure X66 where
 x0 : Int → Int → Bool → OS
def D66_0 (X : X66) : T66_0 := fun v0 v1 v2 _ _ _ _ _ => X.x0 v0 v1 v2
def X66s (q : YF) (a : D61) (X : X66) : X66 := ⟨fun v0 v1 v2 => b66_0 q a v0 v1 v2 dd dd dd dd dd⟩
def X66n (q : YF) (a : D61) : Nat → X66
 | 0 => ⟨fun _ _ _ => none⟩
 | n + 1 => X66s q a (X66n q a n)
theorem l66_0 (q : YF) (a : D61) (kk : PK S) : K66_0 a (P66 q kk) = b66_0 q a := by
 kernel_rfl
theorem l66_in (q : YF) (a : D61) (kk : PK S) : BG q kk 66 Tryz.f66 [ag (e61 a)] = e66_in q a (K66_0 a kk) := by
 kernel_rfl
theorem h66 (q : YF) (a : D61) : ∀ n, K66_0 a (H66 q n) = D66_0 (X66n q a n)
 | 0 => rfl
 | n + 1 => by
  have h0 := h66 q a n
  exact (l66_0 q a (H66 q n)).trans (by kernel_rfl)
theorem W66 (a : D61) (n : Nat) (x : S) (h : e66_in (regs O) a (D66_0 (X66n (regs O) a n)) = some x) : (W O).callT 66 [ag (e61 a)] = some x := by
 refine WG (fn := Tryz.f66) (by kernel_rfl) (by kernel_rfl) (n := n) ?_
 refine (l66_in (regs O) a (H66 (regs O) n)).trans ?_
 have h0 := h66 (regs O) a n
 rw [h0]
 exact h
abbrev H67 (q : YF) : Nat → PK S := HG q 67 Tryz.f67
def e67_in (q : YF) (a : D33) (b : BA) : OS := yC q 123 [S.t (T.rows 15 a.fClaims.n fun i => e52 (a.fClaims.get i)), S.fn (Go.Fn.func 124) [] [S.pt [ts b]]] fun y => some (bb (y.b 0))
theorem l67_in (q : YF) (a : D33) (b : BA) (kk : PK S) : BG q kk 67 Tryz.f67 [ag (e33 a), ss b] = e67_in q a b := by
 kernel_rfl
theorem W67 (a : D33) (b : BA) (n : Nat) (x : S) (h : e67_in (regs O) a b = some x) : (W O).callT 67 [ag (e33 a), ss b] = some x := by
 refine WG (fn := Tryz.f67) (by kernel_rfl) (by kernel_rfl) (n := n) ?_
 refine (l67_in (regs O) a b (H67 (regs O) n)).trans ?_
 exact h
end
end Go.Proofs.YtonkoellfaopiaaGreatDoor.H
