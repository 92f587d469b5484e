import Derived.Test.YtonkoellfaopiaaGreatDoorW7
set_option linter.unusedSimpArgs false
set_option linter.unusedVariables false
namespace Go.Proofs.YtonkoellfaopiaaGreatDoor.H
open Go
noncomputable section
abbrev P35 (q:YF) (kk:PK S):PK S:=PG q 35 Tryz.f35 kk
abbrev H35 (q:YF):Nat→PK S:=HG q 35 Tryz.f35
def s35_0 (a:D33) (v0:Int):St:=mkSt [(12,ii (ofN a.fClaims.n)),(1,S.ptr 0 0),(13,ii v0),(11,S.t (T.rows 15 a.fClaims.n fun i=>e52 (a.fClaims.get i)))] 1 [(0,B.box (List.map S.t (e33 a)))]
def K35_0 (a:D33) (kk:PK S):Int→OS:=fun v0=> kk 2 0 0 (s35_0 a v0)
def s35_1 (a:D33) (v0:Bool) (v1:D52) (v2:Int) (u3:D52) (u4:BA) (u5:Int) (u6 u7:Bool) (u8:D52) (u9 u10 u11 u12:BA) (u13 u14 u15:Int) (u16 u17:Rw0) (u18 u19 u20 u21:Int) (u22:D52) (u23:BA) (u24 u25 u26:Int) (u27 u28:Rw0) (u29 u30 u31 u32:Int) (u33:Bool) (u34:Int) (u35:BA) (u36 u37 u38:Int) (u39 u40:Rw0) (u41 u42 u43 u44:Int) (u45 u46 u47 u48:Bool) (u49:Int) (u50 u51:Bool) (u52 u53 u54 u55:BA) (u56 u57 u58:Int) (u59 u60:Rw0) (u61 u62 u63 u64:Int) (u65 u66:Bool) (u67 u68 u69:Int) (u70:S) (u71:Bool) (u72 u73 u74 u75 u76:S) (u77:Bool) (u78 u79 u80 u81:S):St:=mkSt [(32,u70),(16,S.pt (e52 u3)),(48,S.t (T.rows 7 a.fTypes.n fun i=>e112 (a.fTypes.get i))),(40,ss u4),(24,bb u65),(4,S.ptr 5 0),(36,bb u71),(20,ii u5),(52,bb u6),(12,ii (ofN a.fClaims.n)),(44,bb u7),(28,u72),(34,u73),(18,ag (e52 u8)),(50,S.agg [ss u9,ss u10,ss u11]),(42,S.agg [ss u12,ii u13,ii u14,ii u15,S.t (T.rows 4 u16.n u16.g),S.t (T.rows 2 u17.n u17.g),ii u18,ii u19,ii u20,ii u21]),(26,u74),(6,S.ptr 34 0),(38,ag (e33 a)),(54,bb v0),(14,bb u66),(46,bb false),(30,u75),(1,S.ptr 0 0),(33,u76),(17,ag (e52 u22)),(49,S.ptr 5 3),(41,S.tup [S.agg [ss u23,ii u24,ii u25,ii u26,S.t (T.rows 4 u27.n u27.g),S.t (T.rows 2 u28.n u28.g),ii u29,ii u30,ii u31,ii u32],bb u33]),(25,bb u77),(5,ii u34),(37,S.tup [S.agg [ss u35,ii u36,ii u37,ii u38,S.t (T.rows 4 u39.n u39.g),S.t (T.rows 2 u40.n u40.g),ii u41,ii u42,ii u43,ii u44],bb u45]),(21,bb u46),(53,bb u47),(13,ii v2),(45,bb u48),(29,u78),(3,ii u67),(35,u79),(19,ii u49),(51,S.sl 44 1),(11,S.t (T.rows 15 a.fClaims.n fun i=>e52 (a.fClaims.get i))),(43,bb u50),(27,u80),(7,bb u51),(39,S.ptr 5 1),(23,ii u68),(15,ii u69),(47,S.ptr 0 6),(31,u81)] 56 [(0,B.box (List.map S.t (e33 a))),(44,B.lst false 3 1 [ss u52,ss u53,ss u54]),(34,B.box [ss u55,ii u56,ii u57,ii u58,S.t (T.rows 4 u59.n u59.g),S.t (T.rows 2 u60.n u60.g),ii u61,ii u62,ii u63,ii u64]),(5,B.box (List.map S.t (e52 v1)))]
abbrev T35_1:Type:=Bool→D52→Int→D52→BA→Int→Bool→Bool→D52→BA→BA→BA→BA→Int→Int→Int→Rw0→Rw0→Int→Int→Int→Int→D52→BA→Int→Int→Int→Rw0→Rw0→Int→Int→Int→Int→Bool→Int→BA→Int→Int→Int→Rw0→Rw0→Int→Int→Int→Int→Bool→Bool→Bool→Bool→Int→Bool→Bool→BA→BA→BA→BA→Int→Int→Int→Rw0→Rw0→Int→Int→Int→Int→Bool→Bool→Int→Int→Int→S→Bool→S→S→S→S→S→Bool→S→S→S→S→OS
def K35_1 (a:D33) (kk:PK S):T35_1:=fun v0 v1 v2 u3 u4 u5 u6 u7 u8 u9 u10 u11 u12 u13 u14 u15 u16 u17 u18 u19 u20 u21 u22 u23 u24 u25 u26 u27 u28 u29 u30 u31 u32 u33 u34 u35 u36 u37 u38 u39 u40 u41 u42 u43 u44 u45 u46 u47 u48 u49 u50 u51 u52 u53 u54 u55 u56 u57 u58 u59 u60 u61 u62 u63 u64 u65 u66 u67 u68 u69 u70 u71 u72 u73 u74 u75 u76 u77 u78 u79 u80 u81=> kk 10 12 37 (s35_1 a v0 v1 v2 u3 u4 u5 u6 u7 u8 u9 u10 u11 u12 u13 u14 u15 u16 u17 u18 u19 u20 u21 u22 u23 u24 u25 u26 u27 u28 u29 u30 u31 u32 u33 u34 u35 u36 u37 u38 u39 u40 u41 u42 u43 u44 u45 u46 u47 u48 u49 u50 u51 u52 u53 u54 u55 u56 u57 u58 u59 u60 u61 u62 u63 u64 u65 u66 u67 u68 u69 u70 u71 u72 u73 u74 u75 u76 u77 u78 u79 u80 u81)
def s35_2 (a:D33) (u0:D52) (u1:BA) (u2:Int) (u3:Bool) (u4:D52) (u5:BA) (u6 u7 u8:Int) (u9 u10:Rw0) (u11 u12 u13 u14:Int) (u15:D52) (u16:BA) (u17 u18 u19:Int) (u20 u21:Rw0) (u22 u23 u24 u25:Int) (u26:Bool) (u27:Int) (u28:BA) (u29 u30 u31:Int) (u32 u33:Rw0) (u34 u35 u36 u37:Int) (u38 u39 u40:Bool) (u41:Int) (u42 u43:Bool) (u44:BA) (u45 u46 u47:Int) (u48 u49:Rw0) (u50 u51 u52 u53:Int) (u54:D52) (u55 u56:Bool) (u57 u58 u59 u60:Int) (u61:S) (u62:Bool) (u63 u64 u65 u66 u67:S) (u68:Bool) (u69 u70 u71 u72:S):St:=mkSt [(32,u61),(16,S.pt (e52 u0)),(48,S.ud),(40,ss u1),(24,bb u55),(4,S.ptr 5 0),(36,bb u62),(20,ii u2),(52,S.ud),(12,ii (ofN a.fClaims.n)),(44,bb u3),(28,u63),(34,u64),(18,ag (e52 u4)),(50,S.ud),(42,S.agg [ss u5,ii u6,ii u7,ii u8,S.t (T.rows 4 u9.n u9.g),S.t (T.rows 2 u10.n u10.g),ii u11,ii u12,ii u13,ii u14]),(26,u65),(6,S.ptr 34 0),(38,ag (e33 a)),(54,bb true),(14,bb u56),(46,bb true),(30,u66),(1,S.ptr 0 0),(33,u67),(17,ag (e52 u15)),(49,S.ud),(41,S.tup [S.agg [ss u16,ii u17,ii u18,ii u19,S.t (T.rows 4 u20.n u20.g),S.t (T.rows 2 u21.n u21.g),ii u22,ii u23,ii u24,ii u25],bb u26]),(25,bb u68),(5,ii u27),(37,S.tup [S.agg [ss u28,ii u29,ii u30,ii u31,S.t (T.rows 4 u32.n u32.g),S.t (T.rows 2 u33.n u33.g),ii u34,ii u35,ii u36,ii u37],bb u38]),(21,bb u39),(53,S.ud),(13,ii u57),(45,bb u40),(29,u69),(3,ii u58),(35,u70),(19,ii u41),(51,S.ud),(11,S.t (T.rows 15 a.fClaims.n fun i=>e52 (a.fClaims.get i))),(43,bb u42),(27,u71),(7,bb u43),(39,S.ptr 5 1),(23,ii u59),(15,ii u60),(47,S.ud),(31,u72)] 56 [(0,B.box (List.map S.t (e33 a))),(34,B.box [ss u44,ii u45,ii u46,ii u47,S.t (T.rows 4 u48.n u48.g),S.t (T.rows 2 u49.n u49.g),ii u50,ii u51,ii u52,ii u53]),(5,B.box (List.map S.t (e52 u54)))]
abbrev T35_2:Type:=D52→BA→Int→Bool→D52→BA→Int→Int→Int→Rw0→Rw0→Int→Int→Int→Int→D52→BA→Int→Int→Int→Rw0→Rw0→Int→Int→Int→Int→Bool→Int→BA→Int→Int→Int→Rw0→Rw0→Int→Int→Int→Int→Bool→Bool→Bool→Int→Bool→Bool→BA→Int→Int→Int→Rw0→Rw0→Int→Int→Int→Int→D52→Bool→Bool→Int→Int→Int→Int→S→Bool→S→S→S→S→S→Bool→S→S→S→S→OS
def K35_2 (a:D33) (kk:PK S):T35_2:=fun u0 u1 u2 u3 u4 u5 u6 u7 u8 u9 u10 u11 u12 u13 u14 u15 u16 u17 u18 u19 u20 u21 u22 u23 u24 u25 u26 u27 u28 u29 u30 u31 u32 u33 u34 u35 u36 u37 u38 u39 u40 u41 u42 u43 u44 u45 u46 u47 u48 u49 u50 u51 u52 u53 u54 u55 u56 u57 u58 u59 u60 u61 u62 u63 u64 u65 u66 u67 u68 u69 u70 u71 u72=> kk 10 12 37 (s35_2 a u0 u1 u2 u3 u4 u5 u6 u7 u8 u9 u10 u11 u12 u13 u14 u15 u16 u17 u18 u19 u20 u21 u22 u23 u24 u25 u26 u27 u28 u29 u30 u31 u32 u33 u34 u35 u36 u37 u38 u39 u40 u41 u42 u43 u44 u45 u46 u47 u48 u49 u50 u51 u52 u53 u54 u55 u56 u57 u58 u59 u60 u61 u62 u63 u64 u65 u66 u67 u68 u69 u70 u71 u72)
def b35_0 (q:YF) (a:D33) (k1:T35_1) (k2:T35_2) (v0:Int):OS:=bif ltI v0 (ofN a.fClaims.n) then elemO v0 a.fClaims.n fun h=>yC q 75 [ag (e52 (a.fClaims.get (Fin.mk v0.toNat h)))] fun y=>bif !eqI (y.i 0) 0 then some (ii (y.i 0)) else bif gtI v0 0 then elemO (subI .i64 v0 1) a.fClaims.n fun h_1=>bif !strLt (a.fClaims.get (Fin.mk (subI .i64 v0 1).toNat h_1)).fName (a.fClaims.get (Fin.mk v0.toNat h)).fName then some (ii 6) else yC q 76 [ag (e33 a),ss (a.fClaims.get (Fin.mk v0.toNat h)).fPool] fun y_1=>bif !y_1.b 10 then k2 (a.fClaims.get (Fin.mk v0.toNat h)) (a.fClaims.get (Fin.mk v0.toNat h)).fPool (y.i 0) (y_1.b 10) (a.fClaims.get (Fin.mk v0.toNat h)) (y_1.s 0) (y_1.i 1) (y_1.i 2) (y_1.i 3) (y_1.r 4) (y_1.r 5) (y_1.i 6) (y_1.i 7) (y_1.i 8) (y_1.i 9) (a.fClaims.get (Fin.mk v0.toNat h)) (y_1.s 0) (y_1.i 1) (y_1.i 2) (y_1.i 3) (y_1.r 4) (y_1.r 5) (y_1.i 6) (y_1.i 7) (y_1.i 8) (y_1.i 9) (y_1.b 10) (y.i 0) (y_1.s 0) (y_1.i 1) (y_1.i 2) (y_1.i 3) (y_1.r 4) (y_1.r 5) (y_1.i 6) (y_1.i 7) (y_1.i 8) (y_1.i 9) (y_1.b 10) (!eqI (y.i 0) 0) (!y_1.b 10) (y.i 0) (y_1.b 10) (y_1.b 10) (y_1.s 0) (y_1.i 1) (y_1.i 2) (y_1.i 3) (y_1.r 4) (y_1.r 5) (y_1.i 6) (y_1.i 7) (y_1.i 8) (y_1.i 9) (a.fClaims.get (Fin.mk v0.toNat h)) (gtI v0 0) (ltI v0 (ofN a.fClaims.n)) v0 v0 v0 v0 (ss (a.fClaims.get (Fin.mk (subI .i64 v0 1).toNat h_1)).fName) (!strLt (a.fClaims.get (Fin.mk (subI .i64 v0 1).toNat h_1)).fName (a.fClaims.get (Fin.mk v0.toNat h)).fName) (ii v0) (ss (a.fClaims.get (Fin.mk v0.toNat h)).fName) (S.ptr 0 9) (S.pt (e52 (a.fClaims.get (Fin.mk (subI .i64 v0 1).toNat h_1)))) (S.ptr 5 0) true (ii (subI .i64 v0 1)) (S.t (T.v (.bool !strLt (a.fClaims.get (Fin.mk (subI .i64 v0 1).toNat h_1)).fName (a.fClaims.get (Fin.mk v0.toNat h)).fName))) (S.t (T.rows 15 a.fClaims.n fun i=>e52 (a.fClaims.get i))) (S.pt (e52 (a.fClaims.get (Fin.mk (subI .i64 v0 1).toNat h_1)))) else yC q 77 [S.t (T.rows 7 a.fTypes.n fun i=>e112 (a.fTypes.get i)),S.t (T.rows 3 1 fun i=>List.take 3 (List.drop (↑i*3) [ts (a.fClaims.get (Fin.mk v0.toNat h)).fOffer_Type,ts (a.fClaims.get (Fin.mk v0.toNat h)).fOffer_Zone,ts (a.fClaims.get (Fin.mk v0.toNat h)).fOffer_Kind]))] fun y_2=>k1 (!y_2.b 0) (a.fClaims.get (Fin.mk v0.toNat h)) v0 (a.fClaims.get (Fin.mk v0.toNat h)) (a.fClaims.get (Fin.mk v0.toNat h)).fPool (y.i 0) (y_2.b 0) (y_1.b 10) (a.fClaims.get (Fin.mk v0.toNat h)) (a.fClaims.get (Fin.mk v0.toNat h)).fOffer_Type (a.fClaims.get (Fin.mk v0.toNat h)).fOffer_Zone (a.fClaims.get (Fin.mk v0.toNat h)).fOffer_Kind (y_1.s 0) (y_1.i 1) (y_1.i 2) (y_1.i 3) (y_1.r 4) (y_1.r 5) (y_1.i 6) (y_1.i 7) (y_1.i 8) (y_1.i 9) (a.fClaims.get (Fin.mk v0.toNat h)) (y_1.s 0) (y_1.i 1) (y_1.i 2) (y_1.i 3) (y_1.r 4) (y_1.r 5) (y_1.i 6) (y_1.i 7) (y_1.i 8) (y_1.i 9) (y_1.b 10) (y.i 0) (y_1.s 0) (y_1.i 1) (y_1.i 2) (y_1.i 3) (y_1.r 4) (y_1.r 5) (y_1.i 6) (y_1.i 7) (y_1.i 8) (y_1.i 9) (y_1.b 10) (!eqI (y.i 0) 0) (!y_2.b 0) (!y_1.b 10) (y.i 0) (y_1.b 10) (y_1.b 10) (a.fClaims.get (Fin.mk v0.toNat h)).fOffer_Type (a.fClaims.get (Fin.mk v0.toNat h)).fOffer_Zone (a.fClaims.get (Fin.mk v0.toNat h)).fOffer_Kind (y_1.s 0) (y_1.i 1) (y_1.i 2) (y_1.i 3) (y_1.r 4) (y_1.r 5) (y_1.i 6) (y_1.i 7) (y_1.i 8) (y_1.i 9) (gtI v0 0) (ltI v0 (ofN a.fClaims.n)) v0 v0 v0 (ss (a.fClaims.get (Fin.mk (subI .i64 v0 1).toNat h_1)).fName) (!strLt (a.fClaims.get (Fin.mk (subI .i64 v0 1).toNat h_1)).fName (a.fClaims.get (Fin.mk v0.toNat h)).fName) (ii v0) (ss (a.fClaims.get (Fin.mk v0.toNat h)).fName) (S.ptr 0 9) (S.pt (e52 (a.fClaims.get (Fin.mk (subI .i64 v0 1).toNat h_1)))) (S.ptr 5 0) true (ii (subI .i64 v0 1)) (S.t (T.v (.bool !strLt (a.fClaims.get (Fin.mk (subI .i64 v0 1).toNat h_1)).fName (a.fClaims.get (Fin.mk v0.toNat h)).fName))) (S.t (T.rows 15 a.fClaims.n fun i=>e52 (a.fClaims.get i))) (S.pt (e52 (a.fClaims.get (Fin.mk (subI .i64 v0 1).toNat h_1)))) else yC q 76 [ag (e33 a),ss (a.fClaims.get (Fin.mk v0.toNat h)).fPool] fun y_1=>bif !y_1.b 10 then k2 (a.fClaims.get (Fin.mk v0.toNat h)) (a.fClaims.get (Fin.mk v0.toNat h)).fPool (y.i 0) (y_1.b 10) (a.fClaims.get (Fin.mk v0.toNat h)) (y_1.s 0) (y_1.i 1) (y_1.i 2) (y_1.i 3) (y_1.r 4) (y_1.r 5) (y_1.i 6) (y_1.i 7) (y_1.i 8) (y_1.i 9) (a.fClaims.get (Fin.mk v0.toNat h)) (y_1.s 0) (y_1.i 1) (y_1.i 2) (y_1.i 3) (y_1.r 4) (y_1.r 5) (y_1.i 6) (y_1.i 7) (y_1.i 8) (y_1.i 9) (y_1.b 10) (y.i 0) (y_1.s 0) (y_1.i 1) (y_1.i 2) (y_1.i 3) (y_1.r 4) (y_1.r 5) (y_1.i 6) (y_1.i 7) (y_1.i 8) (y_1.i 9) (y_1.b 10) (!eqI (y.i 0) 0) (!y_1.b 10) (y.i 0) (y_1.b 10) (y_1.b 10) (y_1.s 0) (y_1.i 1) (y_1.i 2) (y_1.i 3) (y_1.r 4) (y_1.r 5) (y_1.i 6) (y_1.i 7) (y_1.i 8) (y_1.i 9) (a.fClaims.get (Fin.mk v0.toNat h)) (gtI v0 0) (ltI v0 (ofN a.fClaims.n)) v0 v0 v0 v0 S.ud false S.ud S.ud S.ud S.ud S.ud false S.ud S.ud S.ud S.ud else yC q 77 [S.t (T.rows 7 a.fTypes.n fun i=>e112 (a.fTypes.get i)),S.t (T.rows 3 1 fun i=>List.take 3 (List.drop (↑i*3) [ts (a.fClaims.get (Fin.mk v0.toNat h)).fOffer_Type,ts (a.fClaims.get (Fin.mk v0.toNat h)).fOffer_Zone,ts (a.fClaims.get (Fin.mk v0.toNat h)).fOffer_Kind]))] fun y_2=>k1 (!y_2.b 0) (a.fClaims.get (Fin.mk v0.toNat h)) v0 (a.fClaims.get (Fin.mk v0.toNat h)) (a.fClaims.get (Fin.mk v0.toNat h)).fPool (y.i 0) (y_2.b 0) (y_1.b 10) (a.fClaims.get (Fin.mk v0.toNat h)) (a.fClaims.get (Fin.mk v0.toNat h)).fOffer_Type (a.fClaims.get (Fin.mk v0.toNat h)).fOffer_Zone (a.fClaims.get (Fin.mk v0.toNat h)).fOffer_Kind (y_1.s 0) (y_1.i 1) (y_1.i 2) (y_1.i 3) (y_1.r 4) (y_1.r 5) (y_1.i 6) (y_1.i 7) (y_1.i 8) (y_1.i 9) (a.fClaims.get (Fin.mk v0.toNat h)) (y_1.s 0) (y_1.i 1) (y_1.i 2) (y_1.i 3) (y_1.r 4) (y_1.r 5) (y_1.i 6) (y_1.i 7) (y_1.i 8) (y_1.i 9) (y_1.b 10) (y.i 0) (y_1.s 0) (y_1.i 1) (y_1.i 2) (y_1.i 3) (y_1.r 4) (y_1.r 5) (y_1.i 6) (y_1.i 7) (y_1.i 8) (y_1.i 9) (y_1.b 10) (!eqI (y.i 0) 0) (!y_2.b 0) (!y_1.b 10) (y.i 0) (y_1.b 10) (y_1.b 10) (a.fClaims.get (Fin.mk v0.toNat h)).fOffer_Type (a.fClaims.get (Fin.mk v0.toNat h)).fOffer_Zone (a.fClaims.get (Fin.mk v0.toNat h)).fOffer_Kind (y_1.s 0) (y_1.i 1) (y_1.i 2) (y_1.i 3) (y_1.r 4) (y_1.r 5) (y_1.i 6) (y_1.i 7) (y_1.i 8) (y_1.i 9) (gtI v0 0) (ltI v0 (ofN a.fClaims.n)) v0 v0 v0 S.ud false S.ud S.ud S.ud S.ud S.ud false S.ud S.ud S.ud S.ud else some (ii 0)
def b35_1 (q:YF) (a:D33) (k0:Int→OS) (v0:Bool) (v1:D52) (v2:Int) (u3:D52) (u4:BA) (u5:Int) (u6 u7:Bool) (u8:D52) (u9 u10 u11 u12:BA) (u13 u14 u15:Int) (u16 u17:Rw0) (u18 u19 u20 u21:Int) (u22:D52) (u23:BA) (u24 u25 u26:Int) (u27 u28:Rw0) (u29 u30 u31 u32:Int) (u33:Bool) (u34:Int) (u35:BA) (u36 u37 u38:Int) (u39 u40:Rw0) (u41 u42 u43 u44:Int) (u45 u46 u47 u48:Bool) (u49:Int) (u50 u51:Bool) (u52 u53 u54 u55:BA) (u56 u57 u58:Int) (u59 u60:Rw0) (u61 u62 u63 u64:Int) (u65 u66:Bool) (u67 u68 u69:Int) (u70:S) (u71:Bool) (u72 u73 u74 u75 u76:S) (u77:Bool) (u78 u79 u80 u81:S):OS:=bif v0 then some (ii 5) else yC q 77 [S.t (T.rows 7 a.fTypes.n fun i=>e112 (a.fTypes.get i)),S.t (T.rows 3 v1.fOpts.n fun i=>e47 (v1.fOpts.get i))] fun y=>bif !y.b 0 then some (ii 5) else yC q 78 [S.t (T.rows 7 a.fTypes.n fun i=>e112 (a.fTypes.get i)),S.agg [ss v1.fOffer_Type,ss v1.fOffer_Zone,ss v1.fOffer_Kind]] fun y=>bif !(eqI v1.fCap_0 (y.i 0) && (eqI v1.fCap_1 (y.i 1) && true)) then some (ii 1) else k0 (addI .i64 v2 1)
def b35_2 (q:YF) (a:D33) (u0:D52) (u1:BA) (u2:Int) (u3:Bool) (u4:D52) (u5:BA) (u6 u7 u8:Int) (u9 u10:Rw0) (u11 u12 u13 u14:Int) (u15:D52) (u16:BA) (u17 u18 u19:Int) (u20 u21:Rw0) (u22 u23 u24 u25:Int) (u26:Bool) (u27:Int) (u28:BA) (u29 u30 u31:Int) (u32 u33:Rw0) (u34 u35 u36 u37:Int) (u38 u39 u40:Bool) (u41:Int) (u42 u43:Bool) (u44:BA) (u45 u46 u47:Int) (u48 u49:Rw0) (u50 u51 u52 u53:Int) (u54:D52) (u55 u56:Bool) (u57 u58 u59 u60:Int) (u61:S) (u62:Bool) (u63 u64 u65 u66 u67:S) (u68:Bool) (u69 u70 u71 u72:S):OS:=some (ii 5)
def e35_in (q:YF) (a:D33) (k0:Int→OS):OS:=k0 0
structure X35 where
 x0:Int→OS
 x1:Bool→D52→Int→OS
 x2:OS
def D35_0 (X:X35):Int→OS:=fun v0=>X.x0 v0
def D35_1 (X:X35):T35_1:=fun v0 v1 v2 _ _ _ _ _ _ _ _ _ _ _ _ _ _ _ _ _ _ _ _ _ _ _ _ _ _ _ _ _ _ _ _ _ _ _ _ _ _ _ _ _ _ _ _ _ _ _ _ _ _ _ _ _ _ _ _ _ _ _ _ _ _ _ _ _ _ _ _ _ _ _ _ _ _ _ _ _ _ _=>X.x1 v0 v1 v2
def D35_2 (X:X35):T35_2:=fun _ _ _ _ _ _ _ _ _ _ _ _ _ _ _ _ _ _ _ _ _ _ _ _ _ _ _ _ _ _ _ _ _ _ _ _ _ _ _ _ _ _ _ _ _ _ _ _ _ _ _ _ _ _ _ _ _ _ _ _ _ _ _ _ _ _ _ _ _ _ _ _ _=>X.x2
def X35s (q:YF) (a:D33) (X:X35):X35:=⟨fun v0=>b35_0 q a (D35_1 X) (D35_2 X) v0,
 fun v0 v1 v2=>b35_1 q a (D35_0 X) v0 v1 v2 dd dd dd dd dd dd dd dd dd dd dd dd dd dd dd dd dd dd dd dd dd dd dd dd dd dd dd dd dd dd dd dd dd dd dd dd dd dd dd dd dd dd dd dd dd dd dd dd dd dd dd dd dd dd dd dd dd dd dd dd dd dd dd dd dd dd dd dd dd dd dd dd dd dd dd dd dd dd dd,
 b35_2 q a dd dd dd dd dd dd dd dd dd dd dd dd dd dd dd dd dd dd dd dd dd dd dd dd dd dd dd dd dd dd dd dd dd dd dd dd dd dd dd dd dd dd dd dd dd dd dd dd dd dd dd dd dd dd dd dd dd dd dd dd dd dd dd dd dd dd dd dd dd dd dd dd dd⟩
def X35n (q:YF) (a:D33):Nat→X35
 | 0=>⟨fun _=>none,fun _ _ _=>none,none⟩
 | n+1=>X35s q a (X35n q a n)
theorem l35_0 (q:YF) (a:D33) (kk:PK S):K35_0 a (P35 q kk)=b35_0 q a (K35_1 a kk) (K35_2 a kk):=by
 kernel_rfl
theorem l35_1 (q:YF) (a:D33) (kk:PK S):K35_1 a (P35 q kk)=b35_1 q a (K35_0 a kk):=by
 kernel_rfl
theorem l35_2 (q:YF) (a:D33) (kk:PK S):K35_2 a (P35 q kk)=b35_2 q a:=by
 kernel_rfl
theorem l35_in (q:YF) (a:D33) (kk:PK S):BG q kk 35 Tryz.f35 [ag (e33 a)]=e35_in q a (K35_0 a kk):=by
 kernel_rfl
theorem h35 (q:YF) (a:D33):∀ n,K35_0 a (H35 q n)=D35_0 (X35n q a n)∧K35_1 a (H35 q n)=D35_1 (X35n q a n)∧K35_2 a (H35 q n)=D35_2 (X35n q a n)
 | 0=>⟨rfl,rfl,rfl⟩
 | n+1=>by
  obtain ⟨h0,h1,h2⟩:=h35 q a n
  exact ⟨(l35_0 q a (H35 q n)).trans (by rw [h1,h2];kernel_rfl),(l35_1 q a (H35 q n)).trans (by rw [h0];kernel_rfl),(l35_2 q a (H35 q n)).trans (by kernel_rfl)⟩
theorem W35 (a:D33) (n:Nat) (x:S) (h:e35_in (regs O) a (D35_0 (X35n (regs O) a n))=some x):(W O).callT 35 [ag (e33 a)]=some x:=by
 refine WG (fn:=Tryz.f35) (by kernel_rfl) (by kernel_rfl) (n:=n) ?_
 refine (l35_in (regs O) a (H35 (regs O) n)).trans ?_
 obtain ⟨h0,h1,h2⟩:=h35 (regs O) a n
 rw [h0]
 exact h
abbrev P36 (q:YF) (kk:PK S):PK S:=PG q 36 Tryz.f36 kk
abbrev H36 (q:YF):Nat→PK S:=HG q 36 Tryz.f36
def s36_0 (a:D61) (v0:Bool) (u1 u2:Int) (u3:Bool) (u4:Int) (u5:Bool) (u6:Int) (u7 u8:Bool) (u9 u10:Int) (u11 u12:Bool) (u13:Int) (u14:Bool) (u15:Int) (u16:Bool) (u17:Int) (u18 u19 u20:S) (u21:Bool) (u22:S):St:=mkSt [(0,ag (e61 a)),(32,ii a.fPrio),(16,S.ptr 0 1),(48,S.t (T.rows 3 a.fSpread.n fun i=>e70 (a.fSpread.get i))),(24,ii u1),(56,bb v0),(4,ii u2),(36,S.t (T.rows 4 a.fReqs.n fun i=>e68 (a.fReqs.get i))),(20,bb u3),(52,u18),(12,ss a.fName),(44,ii u4),(28,ii a.fPrio),(2,ii 0),(34,bb (gtI a.fPrio 1000)),(18,bb u5),(50,bb (gtI (ofN a.fSpread.n) 3)),(42,S.t (T.rows 3 a.fTols.n fun i=>e160 (a.fTols.get i))),(38,ii u6),(22,S.agg [ii a.fNeed_0,ii a.fNeed_1]),(54,u19),(14,bb u7),(30,bb false),(1,S.ptr 0 0),(33,bb (gtI a.fPrio 1000)),(17,ss a.fApp),(49,ii (ofN a.fSpread.n)),(41,S.ptr 0 6),(25,bb u8),(5,ii u9),(37,ii u10),(21,S.ptr 0 2),(53,u20),(13,bb u11),(45,bb u12),(29,bb (ltI a.fPrio (Int.negSucc 999))),(3,ii u13),(35,S.ptr 0 5),(19,bb u14),(51,bb u21),(11,S.ptr 0 0),(43,ii u15),(27,S.ptr 0 4),(39,bb u16),(23,ii u17),(55,u22),(15,bb false),(47,S.ptr 0 7),(31,S.ptr 0 4)] 54 [(0,B.box (List.map S.t (e61 a)))]
abbrev T36_0:Type:=Bool→Int→Int→Bool→Int→Bool→Int→Bool→Bool→Int→Int→Bool→Bool→Int→Bool→Int→Bool→Int→S→S→S→Bool→S→OS
def K36_0 (a:D61) (kk:PK S):T36_0:=fun v0 u1 u2 u3 u4 u5 u6 u7 u8 u9 u10 u11 u12 u13 u14 u15 u16 u17 u18 u19 u20 u21 u22=> kk 14 11 38 (s36_0 a v0 u1 u2 u3 u4 u5 u6 u7 u8 u9 u10 u11 u12 u13 u14 u15 u16 u17 u18 u19 u20 u21 u22)
def s36_1 (a:D61) (v0:Int):St:=mkSt [(64,S.t (T.rows 3 a.fSpread.n fun i=>e70 (a.fSpread.get i))),(66,ii v0),(1,S.ptr 0 0),(65,ii (ofN a.fSpread.n))] 1 [(0,B.box (List.map S.t (e61 a)))]
def K36_1 (a:D61) (kk:PK S):Int→OS:=fun v0=> kk 17 0 0 (s36_1 a v0)
def b36_0 (q:YF) (a:D61) (k1:Int→OS) (v0:Bool) (u1 u2:Int) (u3:Bool) (u4:Int) (u5:Bool) (u6:Int) (u7 u8:Bool) (u9 u10:Int) (u11 u12:Bool) (u13:Int) (u14:Bool) (u15:Int) (u16:Bool) (u17:Int) (u18 u19 u20:S) (u21:Bool) (u22:S):OS:=bif v0 then some (ii 3) else bif gtI (ofN a.fApart.n) 3 then some (ii 3) else k1 0
def b36_1 (q:YF) (a:D61) (k1:Int→OS) (v0:Int):OS:=bif ltI v0 (ofN a.fSpread.n) then elemO v0 a.fSpread.n fun h=>yC q 80 [S.t (T.rows 2 1 fun i=>List.take 2 (List.drop (↑i*2) [ts (a.fSpread.get (Fin.mk v0.toNat h)).fKey,ts (a.fSpread.get (Fin.mk v0.toNat h)).fApp]))] fun y=>bif !eqI (y.i 0) 0 then some (ii (y.i 0)) else bif ltI (a.fSpread.get (Fin.mk v0.toNat h)).fSkew 1 then some (ii 1) else bif gtI (a.fSpread.get (Fin.mk v0.toNat h)).fSkew 16 then some (ii 1) else k1 (addI .i64 v0 1) else yC q 80 [S.t (T.rows 2 a.fNear.n fun i=>e138 (a.fNear.get i))] fun y=>bif !eqI (y.i 0) 0 then some (ii (y.i 0)) else yC q 80 [S.t (T.rows 2 a.fApart.n fun i=>e138 (a.fApart.get i))] fun y=>bif !eqI (y.i 0) 0 then some (ii (y.i 0)) else yC q 74 [ii a.fSince,ii 0,ii 1099511627776] fun y=>bif !y.b 0 then some (ii 1) else bif !strEq a.fOn (bs []) then yC q 71 [ss a.fOn] fun y=>bif !y.b 0 then some (ii 7) else some (ii 0) else some (ii 0)
def e36_in (q:YF) (a:D61) (k0:T36_0):OS:=yC q 71 [ss a.fName] fun y=>bif !y.b 0 then some (ii 7) else yC q 71 [ss a.fApp] fun y_1=>bif !y_1.b 0 then some (ii 7) else yC q 49 [S.agg [ii a.fNeed_0,ii a.fNeed_1]] fun y_2=>bif !eqI (y_2.i 0) 0 then some (ii (y_2.i 0)) else bif ltI a.fPrio (Int.negSucc 999) then some (ii 1) else bif gtI a.fPrio 1000 then some (ii 1) else yC q 72 [S.t (T.rows 4 a.fReqs.n fun i=>e68 (a.fReqs.get i))] fun y_3=>bif !eqI (y_3.i 0) 0 then some (ii (y_3.i 0)) else yC q 79 [S.t (T.rows 3 a.fTols.n fun i=>e160 (a.fTols.get i))] fun y_4=>bif !eqI (y_4.i 0) 0 then some (ii (y_4.i 0)) else bif gtI (ofN a.fSpread.n) 3 then k0 true (y_2.i 0) (y_3.i 0) (!y_1.b 0) (y_4.i 0) (y_1.b 0) (y_3.i 0) (!y.b 0) (!eqI (y_2.i 0) 0) (y_4.i 0) (y_3.i 0) (y.b 0) (!eqI (y_4.i 0) 0) (y_2.i 0) (!y_1.b 0) (y_4.i 0) (!eqI (y_3.i 0) 0) (y_2.i 0) S.ud S.ud S.ud true S.ud else k0 (gtI (ofN a.fNear.n) 3) (y_2.i 0) (y_3.i 0) (!y_1.b 0) (y_4.i 0) (y_1.b 0) (y_3.i 0) (!y.b 0) (!eqI (y_2.i 0) 0) (y_4.i 0) (y_3.i 0) (y.b 0) (!eqI (y_4.i 0) 0) (y_2.i 0) (!y_1.b 0) (y_4.i 0) (!eqI (y_3.i 0) 0) (y_2.i 0) (S.ptr 0 8) (ii (ofN a.fNear.n)) (S.t (T.rows 2 a.fNear.n fun i=>e138 (a.fNear.get i))) false (bb (gtI (ofN a.fNear.n) 3))
structure X36 where
 x0:Bool→OS
 x1:Int→OS
def D36_0 (X:X36):T36_0:=fun v0 _ _ _ _ _ _ _ _ _ _ _ _ _ _ _ _ _ _ _ _ _ _=>X.x0 v0
def D36_1 (X:X36):Int→OS:=fun v0=>X.x1 v0
def X36s (q:YF) (a:D61) (X:X36):X36:=⟨fun v0=>b36_0 q a (D36_1 X) v0 dd dd dd dd dd dd dd dd dd dd dd dd dd dd dd dd dd dd dd dd dd dd,
 fun v0=>b36_1 q a (D36_1 X) v0⟩
def X36n (q:YF) (a:D61):Nat→X36
 | 0=>⟨fun _=>none,fun _=>none⟩
 | n+1=>X36s q a (X36n q a n)
theorem l36_0 (q:YF) (a:D61) (kk:PK S):K36_0 a (P36 q kk)=b36_0 q a (K36_1 a kk):=by
 kernel_rfl
theorem l36_1 (q:YF) (a:D61) (kk:PK S):K36_1 a (P36 q kk)=b36_1 q a (K36_1 a kk):=by
 kernel_rfl
theorem l36_in (q:YF) (a:D61) (kk:PK S):BG q kk 36 Tryz.f36 [ag (e61 a)]=e36_in q a (K36_0 a kk):=by
 kernel_rfl
theorem h36 (q:YF) (a:D61):∀ n,K36_0 a (H36 q n)=D36_0 (X36n q a n)∧K36_1 a (H36 q n)=D36_1 (X36n q a n)
 | 0=>⟨rfl,rfl⟩
 | n+1=>by
  obtain ⟨h0,h1⟩:=h36 q a n
  exact ⟨(l36_0 q a (H36 q n)).trans (by rw [h1];kernel_rfl),(l36_1 q a (H36 q n)).trans (by rw [h1];kernel_rfl)⟩
theorem W36 (a:D61) (n:Nat) (x:S) (h:e36_in (regs O) a (D36_0 (X36n (regs O) a n))=some x):(W O).callT 36 [ag (e61 a)]=some x:=by
 refine WG (fn:=Tryz.f36) (by kernel_rfl) (by kernel_rfl) (n:=n) ?_
 refine (l36_in (regs O) a (H36 (regs O) n)).trans ?_
 obtain ⟨h0,h1⟩:=h36 (regs O) a n
 rw [h0]
 exact h
abbrev P37 (q:YF) (kk:PK S):PK S:=PG q 37 Tryz.f37 kk
abbrev H37 (q:YF):Nat→PK S:=HG q 37 Tryz.f37
def s37_0 (a:D33) (b:BA) (v0:Int):St:=mkSt [(4,S.ptr 0 0),(10,ii (ofN a.fClaims.n)),(1,ss b),(9,S.t (T.rows 15 a.fClaims.n fun i=>e52 (a.fClaims.get i))),(11,ii v0)] 1 [(0,B.box [ss (bs []),ss (bs []),ii 0,ss (bs []),ss (bs []),ss (bs []),ii 0,ii 0,ii 0,S.t (T.v (.slice none 0 0)),ii 0,ss (bs []),ii 0,ii 0,bb false])]
def K37_0 (a:D33) (b:BA) (kk:PK S):Int→OS:=fun v0=> kk 2 0 0 (s37_0 a b v0)
def b37_0 (q:YF) (a:D33) (b:BA) (k0:Int→OS) (v0:Int):OS:=bif ltI v0 (ofN a.fClaims.n) then elemO v0 a.fClaims.n fun h=>bif strEq (a.fClaims.get (Fin.mk v0.toNat h)).fName b then some (S.tup [ag (e52 (a.fClaims.get (Fin.mk v0.toNat h))),bb true]) else k0 (addI .i64 v0 1) else some (S.tup [S.agg [ss (bs []),ss (bs []),ii 0,ss (bs []),ss (bs []),ss (bs []),ii 0,ii 0,ii 0,S.t (T.rows 3 0 fun i=>False.rec (fun x=>List T) (by first | omega | (have:=i.2;omega) | (have:=i_1.2;omega))),ii 0,ss (bs []),ii 0,ii 0,bb false],bb false])
def e37_in (q:YF) (a:D33) (b:BA) (k0:Int→OS):OS:=k0 0
structure X37 where
 x0:Int→OS
def D37_0 (X:X37):Int→OS:=fun v0=>X.x0 v0
def X37s (q:YF) (a:D33) (b:BA) (X:X37):X37:=⟨fun v0=>b37_0 q a b (D37_0 X) v0⟩
def X37n (q:YF) (a:D33) (b:BA):Nat→X37
 | 0=>⟨fun _=>none⟩
 | n+1=>X37s q a b (X37n q a b n)
theorem l37_0 (q:YF) (a:D33) (b:BA) (kk:PK S):K37_0 a b (P37 q kk)=b37_0 q a b (K37_0 a b kk):=by
 kernel_rfl
theorem l37_in (q:YF) (a:D33) (b:BA) (kk:PK S):BG q kk 37 Tryz.f37 [ag (e33 a),ss b]=e37_in q a b (K37_0 a b kk):=by
 kernel_rfl
theorem h37 (q:YF) (a:D33) (b:BA):∀ n,K37_0 a b (H37 q n)=D37_0 (X37n q a b n)
 | 0=>rfl
 | n+1=>by
  have h0:=h37 q a b n
  exact (l37_0 q a b (H37 q n)).trans (by rw [h0];kernel_rfl)
theorem W37 (a:D33) (b:BA) (n:Nat) (x:S) (h:e37_in (regs O) a b (D37_0 (X37n (regs O) a b n))=some x):(W O).callT 37 [ag (e33 a),ss b]=some x:=by
 refine WG (fn:=Tryz.f37) (by kernel_rfl) (by kernel_rfl) (n:=n) ?_
 refine (l37_in (regs O) a b (H37 (regs O) n)).trans ?_
 have h0:=h37 (regs O) a b n
 rw [h0]
 exact h
abbrev P38 (q:YF) (kk:PK S):PK S:=PG q 38 Tryz.f38 kk
abbrev H38 (q:YF):Nat→PK S:=HG q 38 Tryz.f38
def s38_0 (a:D33) (v0:Int):St:=mkSt [(16,ii (ofN a.fCommands.n)),(1,S.ptr 0 0),(17,ii v0),(15,S.t (T.rows 8 a.fCommands.n fun i=>e122 (a.fCommands.get i)))] 1 [(0,B.box (List.map S.t (e33 a)))]
def K38_0 (a:D33) (kk:PK S):Int→OS:=fun v0=> kk 2 0 0 (s38_0 a v0)
def s38_1 (a:D33) (v0:Int):St:=mkSt [(52,ii v0),(50,S.t (T.rows 4 a.fCools.n fun i=>e125 (a.fCools.get i))),(1,S.ptr 0 0),(51,ii (ofN a.fCools.n))] 1 [(0,B.box (List.map S.t (e33 a)))]
def K38_1 (a:D33) (kk:PK S):Int→OS:=fun v0=> kk 12 0 0 (s38_1 a v0)
def s38_2 (a:D33) (v0:D122) (v1:Bool) (v2:Int) (u3 u4:Bool) (u5:D122) (u6 u7:BA) (u8 u9 u10:Int) (u11 u12:Rw0) (u13 u14 u15 u16:Int) (u17:Bool) (u18:Int) (u19:BA) (u20 u21 u22:Int) (u23 u24:Rw0) (u25 u26 u27 u28:Int) (u29:Bool) (u30:Int) (u31:D122) (u32:BA) (u33:Bool) (u34:D122) (u35:Bool) (u36:Int) (u37:BA) (u38 u39 u40:Int) (u41 u42:Rw0) (u43 u44 u45 u46:Int) (u47:BA) (u48 u49 u50:Int) (u51 u52:Rw0) (u53 u54 u55 u56:Int) (u57:Bool) (u58 u59:S) (u60:Bool):St:=mkSt [(32,bb u3),(16,ii (ofN a.fCommands.n)),(24,bb u4),(4,S.ptr 4 0),(36,bb u57),(20,ag (e122 u5)),(28,S.ptr 4 5),(34,ss u6),(18,bb u60),(26,S.tup [S.agg [ss u7,ii u8,ii u9,ii u10,S.t (T.rows 4 u11.n u11.g),S.t (T.rows 2 u12.n u12.g),ii u13,ii u14,ii u15,ii u16],bb u17]),(6,S.ptr 18 0),(38,u58),(22,ii u18),(30,S.tup [S.agg [ss u19,ii u20,ii u21,ii u22,S.t (T.rows 4 u23.n u23.g),S.t (T.rows 2 u24.n u24.g),ii u25,ii u26,ii u27,ii u28],bb u29]),(1,S.ptr 0 0),(33,S.ptr 4 5),(17,ii v2),(5,ii u30),(37,u59),(21,ag (e122 u31)),(29,ss u32),(35,bb u33),(19,S.pt (e122 u34)),(27,ag (e33 a)),(7,bb u35),(39,bb v1),(23,ii u36),(15,S.t (T.rows 8 a.fCommands.n fun i=>e122 (a.fCommands.get i))),(31,S.agg [ss u37,ii u38,ii u39,ii u40,S.t (T.rows 4 u41.n u41.g),S.t (T.rows 2 u42.n u42.g),ii u43,ii u44,ii u45,ii u46])] 36 [(0,B.box (List.map S.t (e33 a))),(4,B.box (List.map S.t (e122 v0))),(18,B.box [ss u47,ii u48,ii u49,ii u50,S.t (T.rows 4 u51.n u51.g),S.t (T.rows 2 u52.n u52.g),ii u53,ii u54,ii u55,ii u56])]
abbrev T38_2:Type:=D122→Bool→Int→Bool→Bool→D122→BA→BA→Int→Int→Int→Rw0→Rw0→Int→Int→Int→Int→Bool→Int→BA→Int→Int→Int→Rw0→Rw0→Int→Int→Int→Int→Bool→Int→D122→BA→Bool→D122→Bool→Int→BA→Int→Int→Int→Rw0→Rw0→Int→Int→Int→Int→BA→Int→Int→Int→Rw0→Rw0→Int→Int→Int→Int→Bool→S→S→Bool→OS
def K38_2 (a:D33) (kk:PK S):T38_2:=fun v0 v1 v2 u3 u4 u5 u6 u7 u8 u9 u10 u11 u12 u13 u14 u15 u16 u17 u18 u19 u20 u21 u22 u23 u24 u25 u26 u27 u28 u29 u30 u31 u32 u33 u34 u35 u36 u37 u38 u39 u40 u41 u42 u43 u44 u45 u46 u47 u48 u49 u50 u51 u52 u53 u54 u55 u56 u57 u58 u59 u60=> kk 8 8 21 (s38_2 a v0 v1 v2 u3 u4 u5 u6 u7 u8 u9 u10 u11 u12 u13 u14 u15 u16 u17 u18 u19 u20 u21 u22 u23 u24 u25 u26 u27 u28 u29 u30 u31 u32 u33 u34 u35 u36 u37 u38 u39 u40 u41 u42 u43 u44 u45 u46 u47 u48 u49 u50 u51 u52 u53 u54 u55 u56 u57 u58 u59 u60)
def s38_3 (a:D33) (v0:Int):St:=mkSt [(86,ii (ofN a.fInsts.n)),(1,S.ptr 0 0),(85,S.t (T.rows 7 a.fInsts.n fun i=>e91 (a.fInsts.get i))),(87,ii v0)] 1 [(0,B.box (List.map S.t (e33 a)))]
def K38_3 (a:D33) (kk:PK S):Int→OS:=fun v0=> kk 22 0 0 (s38_3 a v0)
def s38_4 (a:D33) (v0:Bool) (v1:D91) (v2 v3:Int) (u4:D91) (u5:Bool) (u6:BA) (u7:D91) (u8 u9 u10:S) (u11 u12:Bool) (u13:Int):St:=mkSt [(96,u8),(88,bb u12),(92,S.ptr 5 0),(98,u9),(10,ii v2),(90,S.pt (e91 u4)),(86,ii (ofN a.fInsts.n)),(94,bb u5),(1,S.ptr 0 0),(97,u10),(89,ii u13),(85,S.t (T.rows 7 a.fInsts.n fun i=>e91 (a.fInsts.get i))),(93,ss u6),(99,bb v0),(11,S.ptr 5 0),(91,ag (e91 u7)),(87,ii v3),(95,bb u11)] 32 [(0,B.box (List.map S.t (e33 a))),(5,B.box (List.map S.t (e91 v1)))]
abbrev T38_4:Type:=Bool→D91→Int→Int→D91→Bool→BA→D91→S→S→S→Bool→Bool→Int→OS
def K38_4 (a:D33) (kk:PK S):T38_4:=fun v0 v1 v2 v3 u4 u5 u6 u7 u8 u9 u10 u11 u12 u13=> kk 24 9 8 (s38_4 a v0 v1 v2 v3 u4 u5 u6 u7 u8 u9 u10 u11 u12 u13)
def s38_5 (a:D33) (v0:Bool) (v1:D91) (v2 v3:Int) (u4 u5:S) (u6:D91) (u7:Bool) (u8:S) (u9:BA) (u10:Bool) (u11:D91) (u12 u13:Bool) (u14 u15 u16:S) (u17:Bool) (u18:Int):St:=mkSt [(96,u4),(104,bb v0),(88,bb u17),(100,bb u13),(92,S.ptr 5 0),(98,u5),(10,ii v2),(90,S.pt (e91 u6)),(102,u14),(86,ii (ofN a.fInsts.n)),(94,bb u7),(1,S.ptr 0 0),(97,u8),(89,ii u18),(101,u15),(85,S.t (T.rows 7 a.fInsts.n fun i=>e91 (a.fInsts.get i))),(93,ss u9),(99,bb u10),(11,S.ptr 5 0),(91,ag (e91 u11)),(103,u16),(87,ii v3),(95,bb u12)] 32 [(0,B.box (List.map S.t (e33 a))),(5,B.box (List.map S.t (e91 v1)))]
abbrev T38_5:Type:=Bool→D91→Int→Int→S→S→D91→Bool→S→BA→Bool→D91→Bool→Bool→S→S→S→Bool→Int→OS
def K38_5 (a:D33) (kk:PK S):T38_5:=fun v0 v1 v2 v3 u4 u5 u6 u7 u8 u9 u10 u11 u12 u13 u14 u15 u16 u17 u18=> kk 24 14 8 (s38_5 a v0 v1 v2 v3 u4 u5 u6 u7 u8 u9 u10 u11 u12 u13 u14 u15 u16 u17 u18)
def s38_6 (a:D33) (v0:Bool) (v1:D91) (v2 v3:Int) (u4:S) (u5 u6:Bool) (u7:S) (u8:D91) (u9:S) (u10:Bool) (u11 u12:S) (u13:BA) (u14:Bool) (u15:D91) (u16:S) (u17:Bool) (u18 u19:S) (u20:Bool) (u21:S) (u22:Bool) (u23:Int):St:=mkSt [(96,u4),(104,bb u5),(88,bb u22),(100,bb u6),(108,u18),(92,S.ptr 5 0),(98,u7),(10,ii v2),(106,u19),(90,S.pt (e91 u8)),(102,u9),(86,ii (ofN a.fInsts.n)),(94,bb u10),(1,S.ptr 0 0),(97,u11),(105,bb u20),(89,ii u23),(101,u12),(85,S.t (T.rows 7 a.fInsts.n fun i=>e91 (a.fInsts.get i))),(109,bb v0),(93,ss u13),(99,bb u14),(11,S.ptr 5 0),(107,u21),(91,ag (e91 u15)),(103,u16),(87,ii v3),(95,bb u17)] 32 [(0,B.box (List.map S.t (e33 a))),(5,B.box (List.map S.t (e91 v1)))]
abbrev T38_6:Type:=Bool→D91→Int→Int→S→Bool→Bool→S→D91→S→Bool→S→S→BA→Bool→D91→S→Bool→S→S→Bool→S→Bool→Int→OS
def K38_6 (a:D33) (kk:PK S):T38_6:=fun v0 v1 v2 v3 u4 u5 u6 u7 u8 u9 u10 u11 u12 u13 u14 u15 u16 u17 u18 u19 u20 u21 u22 u23=> kk 24 19 8 (s38_6 a v0 v1 v2 v3 u4 u5 u6 u7 u8 u9 u10 u11 u12 u13 u14 u15 u16 u17 u18 u19 u20 u21 u22 u23)
def s38_7 (a:D33) (v0:Rw D91) (v1:D91) (v2 v3 v4:Int):St:=mkSt [(120,ii v2),(86,ii (ofN a.fInsts.n)),(1,S.ptr 0 0),(121,ii v4),(85,S.t (T.rows 7 a.fInsts.n fun i=>e91 (a.fInsts.get i))),(11,S.ptr 1 0),(87,ii v3),(119,S.t (T.rows 7 v0.n fun i=>e91 (v0.get i)))] 2 [(0,B.box (List.map S.t (e33 a))),(1,B.box (List.map S.t (e91 v1)))]
abbrev T38_7:Type:=(Rw D91)→D91→Int→Int→Int→OS
def K38_7 (a:D33) (kk:PK S):T38_7:=fun v0 v1 v2 v3 v4=> kk 27 0 0 (s38_7 a v0 v1 v2 v3 v4)
def b38_0 (q:YF) (a:D33) (k1:Int→OS) (k2:T38_2) (v0:Int):OS:=bif ltI v0 (ofN a.fCommands.n) then elemO v0 a.fCommands.n fun h=>yC q 81 [ag (e122 (a.fCommands.get (Fin.mk v0.toNat h)))] fun y=>bif !eqI (y.i 0) 0 then some (ii (y.i 0)) else yC q 76 [ag (e33 a),ss (a.fCommands.get (Fin.mk v0.toNat h)).fPool] fun y_1=>bif !strEq (a.fCommands.get (Fin.mk v0.toNat h)).fPool (bs []) then k2 (a.fCommands.get (Fin.mk v0.toNat h)) (!y_1.b 10) v0 (y_1.b 10) (!eqI (y.i 0) 0) (a.fCommands.get (Fin.mk v0.toNat h)) (a.fCommands.get (Fin.mk v0.toNat h)).fPool (y_1.s 0) (y_1.i 1) (y_1.i 2) (y_1.i 3) (y_1.r 4) (y_1.r 5) (y_1.i 6) (y_1.i 7) (y_1.i 8) (y_1.i 9) (y_1.b 10) (y.i 0) (y_1.s 0) (y_1.i 1) (y_1.i 2) (y_1.i 3) (y_1.r 4) (y_1.r 5) (y_1.i 6) (y_1.i 7) (y_1.i 8) (y_1.i 9) (y_1.b 10) (y.i 0) (a.fCommands.get (Fin.mk v0.toNat h)) (a.fCommands.get (Fin.mk v0.toNat h)).fPool (!strEq (a.fCommands.get (Fin.mk v0.toNat h)).fPool (bs [])) (a.fCommands.get (Fin.mk v0.toNat h)) (y_1.b 10) (y.i 0) (y_1.s 0) (y_1.i 1) (y_1.i 2) (y_1.i 3) (y_1.r 4) (y_1.r 5) (y_1.i 6) (y_1.i 7) (y_1.i 8) (y_1.i 9) (y_1.s 0) (y_1.i 1) (y_1.i 2) (y_1.i 3) (y_1.r 4) (y_1.r 5) (y_1.i 6) (y_1.i 7) (y_1.i 8) (y_1.i 9) true (S.t (T.v (.bool !y_1.b 10))) (bb (y_1.b 10)) (ltI v0 (ofN a.fCommands.n)) else k2 (a.fCommands.get (Fin.mk v0.toNat h)) false v0 (y_1.b 10) (!eqI (y.i 0) 0) (a.fCommands.get (Fin.mk v0.toNat h)) (a.fCommands.get (Fin.mk v0.toNat h)).fPool (y_1.s 0) (y_1.i 1) (y_1.i 2) (y_1.i 3) (y_1.r 4) (y_1.r 5) (y_1.i 6) (y_1.i 7) (y_1.i 8) (y_1.i 9) (y_1.b 10) (y.i 0) (y_1.s 0) (y_1.i 1) (y_1.i 2) (y_1.i 3) (y_1.r 4) (y_1.r 5) (y_1.i 6) (y_1.i 7) (y_1.i 8) (y_1.i 9) (y_1.b 10) (y.i 0) (a.fCommands.get (Fin.mk v0.toNat h)) (a.fCommands.get (Fin.mk v0.toNat h)).fPool (!strEq (a.fCommands.get (Fin.mk v0.toNat h)).fPool (bs [])) (a.fCommands.get (Fin.mk v0.toNat h)) (y_1.b 10) (y.i 0) (y_1.s 0) (y_1.i 1) (y_1.i 2) (y_1.i 3) (y_1.r 4) (y_1.r 5) (y_1.i 6) (y_1.i 7) (y_1.i 8) (y_1.i 9) (y_1.s 0) (y_1.i 1) (y_1.i 2) (y_1.i 3) (y_1.r 4) (y_1.r 5) (y_1.i 6) (y_1.i 7) (y_1.i 8) (y_1.i 9) false S.ud S.ud (ltI v0 (ofN a.fCommands.n)) else k1 0
def b38_1 (q:YF) (a:D33) (k1:Int→OS) (k3:Int→OS) (v0:Int):OS:=bif ltI v0 (ofN a.fCools.n) then elemO v0 a.fCools.n fun h=>yC q 77 [S.t (T.rows 7 a.fTypes.n fun i=>e112 (a.fTypes.get i)),S.t (T.rows 3 1 fun i=>List.take 3 (List.drop (↑i*3) [ts (a.fCools.get (Fin.mk v0.toNat h)).fOffer_Type,ts (a.fCools.get (Fin.mk v0.toNat h)).fOffer_Zone,ts (a.fCools.get (Fin.mk v0.toNat h)).fOffer_Kind]))] fun y=>bif !y.b 0 then some (ii 5) else bif gtI v0 0 then elemO (subI .i64 v0 1) a.fCools.n fun h_1=>yC q 82 [S.agg [ss (a.fCools.get (Fin.mk (subI .i64 v0 1).toNat h_1)).fOffer_Type,ss (a.fCools.get (Fin.mk (subI .i64 v0 1).toNat h_1)).fOffer_Zone,ss (a.fCools.get (Fin.mk (subI .i64 v0 1).toNat h_1)).fOffer_Kind],S.agg [ss (a.fCools.get (Fin.mk v0.toNat h)).fOffer_Type,ss (a.fCools.get (Fin.mk v0.toNat h)).fOffer_Zone,ss (a.fCools.get (Fin.mk v0.toNat h)).fOffer_Kind]] fun y=>bif !y.b 0 then some (ii 6) else yC q 31 [ii (a.fCools.get (Fin.mk v0.toNat h)).fUntil] fun y=>bif !y.b 0 then some (ii 1) else k1 (addI .i64 v0 1) else yC q 31 [ii (a.fCools.get (Fin.mk v0.toNat h)).fUntil] fun y=>bif !y.b 0 then some (ii 1) else k1 (addI .i64 v0 1) else k3 0
def b38_2 (q:YF) (a:D33) (k0:Int→OS) (v0:D122) (v1:Bool) (v2:Int) (u3 u4:Bool) (u5:D122) (u6 u7:BA) (u8 u9 u10:Int) (u11 u12:Rw0) (u13 u14 u15 u16:Int) (u17:Bool) (u18:Int) (u19:BA) (u20 u21 u22:Int) (u23 u24:Rw0) (u25 u26 u27 u28:Int) (u29:Bool) (u30:Int) (u31:D122) (u32:BA) (u33:Bool) (u34:D122) (u35:Bool) (u36:Int) (u37:BA) (u38 u39 u40:Int) (u41 u42:Rw0) (u43 u44 u45 u46:Int) (u47:BA) (u48 u49 u50:Int) (u51 u52:Rw0) (u53 u54 u55 u56:Int) (u57:Bool) (u58 u59:S) (u60:Bool):OS:=bif v1 then some (ii 5) else yC q 77 [S.t (T.rows 7 a.fTypes.n fun i=>e112 (a.fTypes.get i)),S.t (T.rows 3 v0.fOpts.n fun i=>e47 (v0.fOpts.get i))] fun y=>bif !y.b 0 then some (ii 5) else k0 (addI .i64 v2 1)
def b38_3 (q:YF) (a:D33) (k4:T38_4) (v0:Int):OS:=bif ltI v0 (ofN a.fInsts.n) then elemO v0 a.fInsts.n fun h=>bif strEq (a.fInsts.get (Fin.mk v0.toNat h)).fId (bs []) then k4 true (a.fInsts.get (Fin.mk v0.toNat h)) v0 v0 (a.fInsts.get (Fin.mk v0.toNat h)) (strEq (a.fInsts.get (Fin.mk v0.toNat h)).fId (bs [])) (a.fInsts.get (Fin.mk v0.toNat h)).fId (a.fInsts.get (Fin.mk v0.toNat h)) S.ud S.ud S.ud true (ltI v0 (ofN a.fInsts.n)) v0 else k4 (strEq (a.fInsts.get (Fin.mk v0.toNat h)).fToken (bs [])) (a.fInsts.get (Fin.mk v0.toNat h)) v0 v0 (a.fInsts.get (Fin.mk v0.toNat h)) (strEq (a.fInsts.get (Fin.mk v0.toNat h)).fId (bs [])) (a.fInsts.get (Fin.mk v0.toNat h)).fId (a.fInsts.get (Fin.mk v0.toNat h)) (S.ptr 5 1) (bb (strEq (a.fInsts.get (Fin.mk v0.toNat h)).fToken (bs []))) (ss (a.fInsts.get (Fin.mk v0.toNat h)).fToken) false (ltI v0 (ofN a.fInsts.n)) v0 else some (ii 0)
def b38_4 (q:YF) (a:D33) (k5:T38_5) (v0:Bool) (v1:D91) (v2 v3:Int) (u4:D91) (u5:Bool) (u6:BA) (u7:D91) (u8 u9 u10:S) (u11 u12:Bool) (u13:Int):OS:=bif v0 then k5 true v1 v2 v3 u8 u9 u4 u5 u10 u6 v0 u7 u11 true S.ud S.ud S.ud u12 u13 else k5 (ltI v1.fState 1) v1 v2 v3 u8 u9 u4 u5 u10 u6 v0 u7 u11 false (ii v1.fState) (S.ptr 5 5) (bb (ltI v1.fState 1)) u12 u13
def b38_5 (q:YF) (a:D33) (k6:T38_6) (v0:Bool) (v1:D91) (v2 v3:Int) (u4 u5:S) (u6:D91) (u7:Bool) (u8:S) (u9:BA) (u10:Bool) (u11:D91) (u12 u13:Bool) (u14 u15 u16:S) (u17:Bool) (u18:Int):OS:=bif v0 then k6 true v1 v2 v3 u4 v0 u13 u5 u6 u14 u7 u8 u15 u9 u10 u11 u16 u12 S.ud S.ud true S.ud u17 u18 else k6 (gtI v1.fState 3) v1 v2 v3 u4 v0 u13 u5 u6 u14 u7 u8 u15 u9 u10 u11 u16 u12 (bb (gtI v1.fState 3)) (S.ptr 5 5) false (ii v1.fState) u17 u18
def b38_6 (q:YF) (a:D33) (k7:T38_7) (v0:Bool) (v1:D91) (v2 v3:Int) (u4:S) (u5 u6:Bool) (u7:S) (u8:D91) (u9:S) (u10:Bool) (u11 u12:S) (u13:BA) (u14:Bool) (u15:D91) (u16:S) (u17:Bool) (u18 u19:S) (u20:Bool) (u21:S) (u22:Bool) (u23:Int):OS:=bif v0 then some (ii 1) else yC q 31 [ii v1.fReady] fun y=>bif !y.b 0 then some (ii 1) else bif leI 0 v2 && leI v2 (ofN a.fInsts.n) then subO 0 (toN v2) a.fInsts.n fun h=>k7 (Rw.mk (toN v2) fun i=>a.fInsts.get (Fin.mk (0+↑i) (by first | omega | (have:=i.2;omega) | (have:=i_1.2;omega)))) v1 (ofN (toN v2)) v3 0 else none
def b38_7 (q:YF) (a:D33) (k3:Int→OS) (k7:T38_7) (v0:Rw D91) (v1:D91) (v2 v3 v4:Int):OS:=bif ltI v4 v2 then elemO v4 v0.n fun h=>bif strEq v1.fId (v0.get (Fin.mk v4.toNat h)).fId then some (ii 6) else bif strEq v1.fToken (v0.get (Fin.mk v4.toNat h)).fToken then some (ii 6) else k7 v0 v1 v2 v3 (addI .i64 v4 1) else yC q 77 [S.t (T.rows 7 a.fTypes.n fun i=>e112 (a.fTypes.get i)),S.t (T.rows 3 1 fun i=>List.take 3 (List.drop (↑i*3) [ts v1.fOffer_Type,ts v1.fOffer_Zone,ts v1.fOffer_Kind]))] fun y=>bif !y.b 0 then some (ii 5) else k3 (addI .i64 v3 1)
def e38_in (q:YF) (a:D33) (k0:Int→OS):OS:=k0 0
structure X38 where
 x0:Int→OS
 x1:Int→OS
 x2:D122→Bool→Int→OS
 x3:Int→OS
 x4:Bool→D91→Int→Int→OS
 x5:Bool→D91→Int→Int→OS
 x6:Bool→D91→Int→Int→OS
 x7:(Rw D91)→D91→Int→Int→Int→OS
def D38_0 (X:X38):Int→OS:=fun v0=>X.x0 v0
def D38_1 (X:X38):Int→OS:=fun v0=>X.x1 v0
def D38_2 (X:X38):T38_2:=fun v0 v1 v2 _ _ _ _ _ _ _ _ _ _ _ _ _ _ _ _ _ _ _ _ _ _ _ _ _ _ _ _ _ _ _ _ _ _ _ _ _ _ _ _ _ _ _ _ _ _ _ _ _ _ _ _ _ _ _ _ _ _=>X.x2 v0 v1 v2
def D38_3 (X:X38):Int→OS:=fun v0=>X.x3 v0
def D38_4 (X:X38):T38_4:=fun v0 v1 v2 v3 _ _ _ _ _ _ _ _ _ _=>X.x4 v0 v1 v2 v3
def D38_5 (X:X38):T38_5:=fun v0 v1 v2 v3 _ _ _ _ _ _ _ _ _ _ _ _ _ _ _=>X.x5 v0 v1 v2 v3
def D38_6 (X:X38):T38_6:=fun v0 v1 v2 v3 _ _ _ _ _ _ _ _ _ _ _ _ _ _ _ _ _ _ _ _=>X.x6 v0 v1 v2 v3
def D38_7 (X:X38):T38_7:=fun v0 v1 v2 v3 v4=>X.x7 v0 v1 v2 v3 v4
def X38s (q:YF) (a:D33) (X:X38):X38:=⟨fun v0=>b38_0 q a (D38_1 X) (D38_2 X) v0,
 fun v0=>b38_1 q a (D38_1 X) (D38_3 X) v0,
 fun v0 v1 v2=>b38_2 q a (D38_0 X) v0 v1 v2 dd dd dd dd dd dd dd dd dd dd dd dd dd dd dd dd dd dd dd dd dd dd dd dd dd dd dd dd dd dd dd dd dd dd dd dd dd dd dd dd dd dd dd dd dd dd dd dd dd dd dd dd dd dd dd dd dd dd,
 fun v0=>b38_3 q a (D38_4 X) v0,
 fun v0 v1 v2 v3=>b38_4 q a (D38_5 X) v0 v1 v2 v3 dd dd dd dd dd dd dd dd dd dd,
 fun v0 v1 v2 v3=>b38_5 q a (D38_6 X) v0 v1 v2 v3 dd dd dd dd dd dd dd dd dd dd dd dd dd dd dd,
 fun v0 v1 v2 v3=>b38_6 q a (D38_7 X) v0 v1 v2 v3 dd dd dd dd dd dd dd dd dd dd dd dd dd dd dd dd dd dd dd dd,
 fun v0 v1 v2 v3 v4=>b38_7 q a (D38_3 X) (D38_7 X) v0 v1 v2 v3 v4⟩
def X38n (q:YF) (a:D33):Nat→X38
 | 0=>⟨fun _=>none,fun _=>none,fun _ _ _=>none,fun _=>none,fun _ _ _ _=>none,fun _ _ _ _=>none,fun _ _ _ _=>none,fun _ _ _ _ _=>none⟩
 | n+1=>X38s q a (X38n q a n)
theorem l38_0 (q:YF) (a:D33) (kk:PK S):K38_0 a (P38 q kk)=b38_0 q a (K38_1 a kk) (K38_2 a kk):=by
 kernel_rfl
theorem l38_1 (q:YF) (a:D33) (kk:PK S):K38_1 a (P38 q kk)=b38_1 q a (K38_1 a kk) (K38_3 a kk):=by
 kernel_rfl
theorem l38_2 (q:YF) (a:D33) (kk:PK S):K38_2 a (P38 q kk)=b38_2 q a (K38_0 a kk):=by
 kernel_rfl
theorem l38_3 (q:YF) (a:D33) (kk:PK S):K38_3 a (P38 q kk)=b38_3 q a (K38_4 a kk):=by
 kernel_rfl
theorem l38_4 (q:YF) (a:D33) (kk:PK S):K38_4 a (P38 q kk)=b38_4 q a (K38_5 a kk):=by
 kernel_rfl
theorem l38_5 (q:YF) (a:D33) (kk:PK S):K38_5 a (P38 q kk)=b38_5 q a (K38_6 a kk):=by
 kernel_rfl
theorem l38_6 (q:YF) (a:D33) (kk:PK S):K38_6 a (P38 q kk)=b38_6 q a (K38_7 a kk):=by
 kernel_rfl
theorem l38_7 (q:YF) (a:D33) (kk:PK S):K38_7 a (P38 q kk)=b38_7 q a (K38_3 a kk) (K38_7 a kk):=by
 kernel_rfl
theorem l38_in (q:YF) (a:D33) (kk:PK S):BG q kk 38 Tryz.f38 [ag (e33 a)]=e38_in q a (K38_0 a kk):=by
 kernel_rfl
theorem h38 (q:YF) (a:D33):∀ n,K38_0 a (H38 q n)=D38_0 (X38n q a n)∧K38_1 a (H38 q n)=D38_1 (X38n q a n)∧K38_2 a (H38 q n)=D38_2 (X38n q a n)∧K38_3 a (H38 q n)=D38_3 (X38n q a n)∧K38_4 a (H38 q n)=D38_4 (X38n q a n)∧K38_5 a (H38 q n)=D38_5 (X38n q a n)∧K38_6 a (H38 q n)=D38_6 (X38n q a n)∧K38_7 a (H38 q n)=D38_7 (X38n q a n)
 | 0=>⟨rfl,rfl,rfl,rfl,rfl,rfl,rfl,rfl⟩
 | n+1=>by
  obtain ⟨h0,h1,h2,h3,h4,h5,h6,h7⟩:=h38 q a n
  exact ⟨(l38_0 q a (H38 q n)).trans (by rw [h1,h2];kernel_rfl),(l38_1 q a (H38 q n)).trans (by rw [h1,h3];kernel_rfl),(l38_2 q a (H38 q n)).trans (by rw [h0];kernel_rfl),(l38_3 q a (H38 q n)).trans (by rw [h4];kernel_rfl),(l38_4 q a (H38 q n)).trans (by rw [h5];kernel_rfl),(l38_5 q a (H38 q n)).trans (by rw [h6];kernel_rfl),(l38_6 q a (H38 q n)).trans (by rw [h7];kernel_rfl),(l38_7 q a (H38 q n)).trans (by rw [h3,h7];kernel_rfl)⟩
theorem W38 (a:D33) (n:Nat) (x:S) (h:e38_in (regs O) a (D38_0 (X38n (regs O) a n))=some x):(W O).callT 38 [ag (e33 a)]=some x:=by
 refine WG (fn:=Tryz.f38) (by kernel_rfl) (by kernel_rfl) (n:=n) ?_
 refine (l38_in (regs O) a (H38 (regs O) n)).trans ?_
 obtain ⟨h0,h1,h2,h3,h4,h5,h6,h7⟩:=h38 (regs O) a n
 rw [h0]
 exact h
abbrev P46 (q:YF) (kk:PK S):PK S:=PG q 46 Tryz.f46 kk
abbrev H46 (q:YF):Nat→PK S:=HG q 46 Tryz.f46
def s46_0 (a:BA) (v0 v1:Int):St:=mkSt [(0,ss a),(4,ii v0),(5,ii v1)] 0 []
def K46_0 (a:BA) (kk:PK S):Int→Int→OS:=fun v0 v1=> kk 5 0 0 (s46_0 a v0 v1)
def b46_0 (q:YF) (a:BA) (k0:Int→Int→OS) (v0 v1:Int):OS:=bif ltI v1 5 then byteO v1 a fun c=>bif ltI c 48 then some (S.tup [ii 0,ss (bs [])]) else byteO v1 a fun c=>bif gtI c 57 then some (S.tup [ii 0,ss (bs [])]) else byteO v1 a fun c=>k0 (addI .i64 (mulI .i64 10 v0) (wrapI .i64 (subI .u8 c 48))) (addI .i64 v1 1) else bif leI 5 (sizeS a) && leI (sizeS a) (sizeS a) then some (S.tup [ii v0,ss (extS a 5 (toN (sizeS a)))]) else none
def e46_in (q:YF) (a:BA) (k0:Int→Int→OS):OS:=bif ltI (sizeS a) 5 then some (S.tup [ii 0,ss (bs [])]) else byteO 0 a fun c=>bif !eqI c 99 then some (S.tup [ii 0,ss (bs [])]) else k0 0 1
structure X46 where
 x0:Int→Int→OS
def D46_0 (X:X46):Int→Int→OS:=fun v0 v1=>X.x0 v0 v1
def X46s (q:YF) (a:BA) (X:X46):X46:=⟨fun v0 v1=>b46_0 q a (D46_0 X) v0 v1⟩
def X46n (q:YF) (a:BA):Nat→X46
 | 0=>⟨fun _ _=>none⟩
 | n+1=>X46s q a (X46n q a n)
theorem l46_0 (q:YF) (a:BA) (kk:PK S):K46_0 a (P46 q kk)=b46_0 q a (K46_0 a kk):=by
 kernel_rfl
theorem l46_in (q:YF) (a:BA) (kk:PK S):BG q kk 46 Tryz.f46 [ss a]=e46_in q a (K46_0 a kk):=by
 kernel_rfl
theorem h46 (q:YF) (a:BA):∀ n,K46_0 a (H46 q n)=D46_0 (X46n q a n)
 | 0=>rfl
 | n+1=>by
  have h0:=h46 q a n
  exact (l46_0 q a (H46 q n)).trans (by rw [h0];kernel_rfl)
theorem W46 (a:BA) (n:Nat) (x:S) (h:e46_in (regs O) a (D46_0 (X46n (regs O) a n))=some x):(W O).callT 46 [ss a]=some x:=by
 refine WG (fn:=Tryz.f46) (by kernel_rfl) (by kernel_rfl) (n:=n) ?_
 refine (l46_in (regs O) a (H46 (regs O) n)).trans ?_
 have h0:=h46 (regs O) a n
 rw [h0]
 exact h
abbrev H47 (q:YF):Nat→PK S:=HG q 47 Tryz.f47
def e47_in (q:YF) (a:Int):OS:=bif ltI a 10 then some (ss (bytesS [wrapI .u8 (addI .i64 48 a)])) else yC q 47 [ii (quoI .i64 a 10)] fun y=>bif fitS (y.s 0) (bytesS [wrapI .u8 (addI .i64 48 (remI a 10))]) then some (ss (catS (y.s 0) (bytesS [wrapI .u8 (addI .i64 48 (remI a 10))]))) else none
theorem l47_in (q:YF) (a:Int) (kk:PK S):BG q kk 47 Tryz.f47 [ii a]=e47_in q a:=by
 kernel_rfl
theorem W47 (a:Int) (n:Nat) (x:S) (h:e47_in (regs O) a=some x):(W O).callT 47 [ii a]=some x:=by
 refine WG (fn:=Tryz.f47) (by kernel_rfl) (by kernel_rfl) (n:=n) ?_
 refine (l47_in (regs O) a (H47 (regs O) n)).trans ?_
 exact h
abbrev H48 (q:YF):Nat→PK S:=HG q 48 Tryz.f48
def e48_in (q:YF) (a:D49) (b:D49):OS:=yC q 49 [ag (e49 a)] fun y=>bif !eqI (y.i 0) 0 then some (ii (y.i 0)) else yC q 49 [ag (e49 b)] fun y=>some (ii (y.i 0))
theorem l48_in (q:YF) (a:D49) (b:D49) (kk:PK S):BG q kk 48 Tryz.f48 [ag (e49 a),ag (e49 b)]=e48_in q a b:=by
 kernel_rfl
theorem W48 (a:D49) (b:D49) (n:Nat) (x:S) (h:e48_in (regs O) a b=some x):(W O).callT 48 [ag (e49 a),ag (e49 b)]=some x:=by
 refine WG (fn:=Tryz.f48) (by kernel_rfl) (by kernel_rfl) (n:=n) ?_
 refine (l48_in (regs O) a b (H48 (regs O) n)).trans ?_
 exact h
abbrev H49 (q:YF):Nat→PK S:=HG q 49 Tryz.f49
def e49_in (q:YF) (a:D49):OS:=yC q 91 [ii a.fa_0] fun y=>bif !eqI (y.i 0) 0 then some (ii (y.i 0)) else yC q 91 [ii a.fa_1] fun y=>some (ii (y.i 0))
theorem l49_in (q:YF) (a:D49) (kk:PK S):BG q kk 49 Tryz.f49 [ag (e49 a)]=e49_in q a:=by
 kernel_rfl
theorem W49 (a:D49) (n:Nat) (x:S) (h:e49_in (regs O) a=some x):(W O).callT 49 [ag (e49 a)]=some x:=by
 refine WG (fn:=Tryz.f49) (by kernel_rfl) (by kernel_rfl) (n:=n) ?_
 refine (l49_in (regs O) a (H49 (regs O) n)).trans ?_
 exact h
abbrev P53 (q:YF) (kk:PK S):PK S:=PG q 53 Tryz.f53 kk
abbrev H53 (q:YF):Nat→PK S:=HG q 53 Tryz.f53
def s53_0 (a:Rw Int) (v0:Int):St:=mkSt [(8,ii v0),(6,S.t (T.rows 1 a.n fun i=>[ti (a.get i)])),(3,ii 0),(7,ii (ofN a.n))] 0 []
def K53_0 (a:Rw Int) (kk:PK S):Int→OS:=fun v0=> kk 3 0 0 (s53_0 a v0)
def b53_0 (q:YF) (a:Rw Int) (k0:Int→OS) (v0:Int):OS:=bif ltI v0 (ofN a.n) then elemO v0 a.n fun h=>bif !eqI (a.get (Fin.mk v0.toNat h)) 0 then some (ii (a.get (Fin.mk v0.toNat h))) else k0 (addI .i64 v0 1) else some (ii 0)
def e53_in (q:YF) (a:Rw Int) (k0:Int→OS):OS:=k0 0
structure X53 where
 x0:Int→OS
def D53_0 (X:X53):Int→OS:=fun v0=>X.x0 v0
def X53s (q:YF) (a:Rw Int) (X:X53):X53:=⟨fun v0=>b53_0 q a (D53_0 X) v0⟩
def X53n (q:YF) (a:Rw Int):Nat→X53
 | 0=>⟨fun _=>none⟩
 | n+1=>X53s q a (X53n q a n)
theorem l53_0 (q:YF) (a:Rw Int) (kk:PK S):K53_0 a (P53 q kk)=b53_0 q a (K53_0 a kk):=by
 kernel_rfl
theorem l53_in (q:YF) (a:Rw Int) (kk:PK S):BG q kk 53 Tryz.f53 [S.t (T.rows 1 a.n fun i=>e3 (a.get i))]=e53_in q a (K53_0 a kk):=by
 kernel_rfl
theorem h53 (q:YF) (a:Rw Int):∀ n,K53_0 a (H53 q n)=D53_0 (X53n q a n)
 | 0=>rfl
 | n+1=>by
  have h0:=h53 q a n
  exact (l53_0 q a (H53 q n)).trans (by rw [h0];kernel_rfl)
theorem W53 (a:Rw Int) (n:Nat) (x:S) (h:e53_in (regs O) a (D53_0 (X53n (regs O) a n))=some x):(W O).callT 53 [S.t (T.rows 1 a.n fun i=>e3 (a.get i))]=some x:=by
 refine WG (fn:=Tryz.f53) (by kernel_rfl) (by kernel_rfl) (n:=n) ?_
 refine (l53_in (regs O) a (H53 (regs O) n)).trans ?_
 have h0:=h53 (regs O) a n
 rw [h0]
 exact h
abbrev P58 (q:YF) (kk:PK S):PK S:=PG q 58 Tryz.f58 kk
abbrev H58 (q:YF):Nat→PK S:=HG q 58 Tryz.f58
def s58_0 (a:D112):St:=mkSt [(16,ii (ofN 2)),(1,S.ptr 0 0),(17,ii 0),(15,S.sl 1 2)] 2 [(0,B.box (List.map S.t (e112 a))),(1,B.lst false 2 2 [ii a.fCap_0,ii a.fCap_1,ii a.fOver_0,ii a.fOver_1])]
def K58_0 (a:D112) (kk:PK S):OS:=kk 4 0 0 (s58_0 a)
def s58_1 (a:D112):St:=mkSt [(16,ii (ofN 2)),(1,S.ptr 0 0),(17,ii 1),(15,S.sl 1 2)] 2 [(0,B.box (List.map S.t (e112 a))),(1,B.lst false 2 2 [ii a.fCap_0,ii a.fCap_1,ii a.fOver_0,ii a.fOver_1])]
def K58_1 (a:D112) (kk:PK S):OS:=kk 4 0 0 (s58_1 a)
def s58_2 (a:D112):St:=mkSt [(16,ii (ofN 2)),(1,S.ptr 0 0),(17,ii 2),(15,S.sl 1 2)] 2 [(0,B.box (List.map S.t (e112 a))),(1,B.lst false 2 2 [ii a.fCap_0,ii a.fCap_1,ii a.fOver_0,ii a.fOver_1])]
def K58_2 (a:D112) (kk:PK S):OS:=kk 4 0 0 (s58_2 a)
def b58_0 (q:YF) (a:D112) (k1:OS):OS:=yC q 102 [S.agg [ii a.fCap_0,ii a.fCap_1]] fun y=>bif !eqI (y.i 0) 0 then some (ii (y.i 0)) else k1
def b58_1 (q:YF) (a:D112) (k2:OS):OS:=yC q 102 [S.agg [ii a.fOver_0,ii a.fOver_1]] fun y=>bif !eqI (y.i 0) 0 then some (ii (y.i 0)) else k2
def b58_2 (q:YF) (a:D112):OS:=yC q 103 [S.agg [ii a.fOver_0,ii a.fOver_1],S.agg [ii a.fCap_0,ii a.fCap_1]] fun y=>bif !y.b 0 then some (ii 1) else yC q 104 [S.t (T.rows 2 a.fLabels.n fun i=>e88 (a.fLabels.get i))] fun y=>bif !eqI (y.i 0) 0 then some (ii (y.i 0)) else yC q 105 [S.t (T.rows 4 a.fOffers.n fun i=>e109 (a.fOffers.get i))] fun y=>some (ii (y.i 0))
def e58_in (q:YF) (a:D112) (k0:OS):OS:=yC q 101 [ss a.fName] fun y=>bif !y.b 0 then some (ii 7) else k0
structure X58 where
 x0:OS
 x1:OS
 x2:OS
def D58_0 (X:X58):OS:=X.x0
def D58_1 (X:X58):OS:=X.x1
def D58_2 (X:X58):OS:=X.x2
def X58s (q:YF) (a:D112) (X:X58):X58:=⟨b58_0 q a (D58_1 X),
 b58_1 q a (D58_2 X),
 b58_2 q a⟩
def X58n (q:YF) (a:D112):Nat→X58
 | 0=>⟨none,none,none⟩
 | n+1=>X58s q a (X58n q a n)
theorem l58_0 (q:YF) (a:D112) (kk:PK S):K58_0 a (P58 q kk)=b58_0 q a (K58_1 a kk):=by
 kernel_rfl
theorem l58_1 (q:YF) (a:D112) (kk:PK S):K58_1 a (P58 q kk)=b58_1 q a (K58_2 a kk):=by
 kernel_rfl
theorem l58_2 (q:YF) (a:D112) (kk:PK S):K58_2 a (P58 q kk)=b58_2 q a:=by
 kernel_rfl
theorem l58_in (q:YF) (a:D112) (kk:PK S):BG q kk 58 Tryz.f58 [ag (e112 a)]=e58_in q a (K58_0 a kk):=by
 kernel_rfl
theorem h58 (q:YF) (a:D112):∀ n,K58_0 a (H58 q n)=D58_0 (X58n q a n)∧K58_1 a (H58 q n)=D58_1 (X58n q a n)∧K58_2 a (H58 q n)=D58_2 (X58n q a n)
 | 0=>⟨rfl,rfl,rfl⟩
 | n+1=>by
  obtain ⟨h0,h1,h2⟩:=h58 q a n
  exact ⟨(l58_0 q a (H58 q n)).trans (by rw [h1];kernel_rfl),(l58_1 q a (H58 q n)).trans (by rw [h2];kernel_rfl),(l58_2 q a (H58 q n)).trans (by kernel_rfl)⟩
theorem W58 (a:D112) (n:Nat) (x:S) (h:e58_in (regs O) a (D58_0 (X58n (regs O) a n))=some x):(W O).callT 58 [ag (e112 a)]=some x:=by
 refine WG (fn:=Tryz.f58) (by kernel_rfl) (by kernel_rfl) (n:=n) ?_
 refine (l58_in (regs O) a (H58 (regs O) n)).trans ?_
 obtain ⟨h0,h1,h2⟩:=h58 (regs O) a n
 rw [h0]
 exact h
abbrev H59 (q:YF):Nat→PK S:=HG q 59 Tryz.f59
def e59_in (q:YF) (a:Rw D112) (b:D112):OS:=yC q 106 [S.t (T.rows 7 a.n fun i=>e112 (a.get i)),S.fn (Go.Fn.func 60) [] [S.pt (e112 b)]] fun y=>some (bb (geI (y.i 0) 0))
theorem l59_in (q:YF) (a:Rw D112) (b:D112) (kk:PK S):BG q kk 59 Tryz.f59 [S.t (T.rows 7 a.n fun i=>e112 (a.get i)),S.fn (Go.Fn.func 60) [] [S.pt (e112 b)]]=e59_in q a b:=by
 kernel_rfl
theorem W59 (a:Rw D112) (b:D112) (n:Nat) (x:S) (h:e59_in (regs O) a b=some x):(W O).callT 59 [S.t (T.rows 7 a.n fun i=>e112 (a.get i)),S.fn (Go.Fn.func 60) [] [S.pt (e112 b)]]=some x:=by
 refine WG (fn:=Tryz.f59) (by kernel_rfl) (by kernel_rfl) (n:=n) ?_
 refine (l59_in (regs O) a b (H59 (regs O) n)).trans ?_
 exact h
abbrev H60 (q:YF):Nat→PK S:=HG q 60 Tryz.f60
def e60_in (q:YF) (a:D112) (b:D112):OS:=some (bb (strEq a.fName b.fName))
theorem l60_in (q:YF) (a:D112) (b:D112) (kk:PK S):BG q kk 60 Tryz.f60 [ag (e112 a),S.pt (e112 b)]=e60_in q a b:=by
 kernel_rfl
theorem W60 (a:D112) (b:D112) (n:Nat) (x:S) (h:e60_in (regs O) a b=some x):(W O).callT 60 [ag (e112 a),S.pt (e112 b)]=some x:=by
 refine WG (fn:=Tryz.f60) (by kernel_rfl) (by kernel_rfl) (n:=n) ?_
 refine (l60_in (regs O) a b (H60 (regs O) n)).trans ?_
 exact h
end
end Go.Proofs.YtonkoellfaopiaaGreatDoor.H
