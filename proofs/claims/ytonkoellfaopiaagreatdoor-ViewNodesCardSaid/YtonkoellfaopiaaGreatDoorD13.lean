import Derived.Test.YtonkoellfaopiaaGreatDoorD9
set_option linter.unusedSimpArgs false
set_option linter.unusedVariables false
set_option linter.unusedSectionVars false
namespace Go.Proofs.YtonkoellfaopiaaGreatDoor.H
open Go
noncomputable section
abbrev P38 (q:YF) (kk:PK S):PK S:=PG q 38 Tryz.f38 kk
abbrev DQ (q:YF):Nat→PK S:=HG q 38 Tryz.f38
def JS (a:aP) (kk:PK S):Int→OS:=fun v0=> kk 2 0 0 (aJ [(16,ii (ay a.au.n)),(1,S.ptr 0 0),(17,ii v0),(15,S.t (T.rows 8 a.au.n fun i=>eN (a.au.get i)))] 1 [(0,B.box (List.map S.t (bI a)))])
def IF (a:aP) (kk:PK S):Int→OS:=fun v0=> kk 12 0 0 (aJ [(52,ii v0),(50,S.t (T.rows 4 a.ax.n fun i=>qB (a.ax.get i))),(1,S.ptr 0 0),(51,ii (ay a.ax.n))] 1 [(0,B.box (List.map S.t (bI a)))])
abbrev T38_2:Type:=cO→Bool→Int→Bool→Bool→cO→BA→BA→Int→Int→Int→bN→bN→Int→Int→Int→Int→Bool→Int→BA→Int→Int→Int→bN→bN→Int→Int→Int→Int→Bool→Int→cO→BA→Bool→cO→Bool→Int→BA→Int→Int→Int→bN→bN→Int→Int→Int→Int→BA→Int→Int→Int→bN→bN→Int→Int→Int→Int→Bool→S→S→Bool→OS
def PQ (a:aP) (kk:PK S):T38_2:=fun v0 v1 v2 u3 u4 u5 u6 u7 u8 u9 u10 u11 u12 u13 u14 u15 u16 u17 u18 u19 u20 u21 u22 u23 u24 u25 u26 u27 u28 u29 u30 u31 u32 u33 u34 u35 u36 u37 u38 u39 u40 u41 u42 u43 u44 u45 u46 u47 u48 u49 u50 u51 u52 u53 u54 u55 u56 u57 u58 u59 u60=> kk 8 8 21 (aJ [(32,bb u3),(16,ii (ay a.au.n)),(24,bb u4),(4,S.ptr 4 0),(36,bb u57),(20,ag (eN u5)),(28,S.ptr 4 5),(34,ss u6),(18,bb u60),(26,S.bJ [S.agg [ss u7,ii u8,ii u9,ii u10,S.t (T.rows 4 u11.n u11.g),S.t (T.rows 2 u12.n u12.g),ii u13,ii u14,ii u15,ii u16],bb u17]),(6,S.ptr 18 0),(38,u58),(22,ii u18),(30,S.bJ [S.agg [ss u19,ii u20,ii u21,ii u22,S.t (T.rows 4 u23.n u23.g),S.t (T.rows 2 u24.n u24.g),ii u25,ii u26,ii u27,ii u28],bb u29]),(1,S.ptr 0 0),(33,S.ptr 4 5),(17,ii v2),(5,ii u30),(37,u59),(21,ag (eN u31)),(29,ss u32),(35,bb u33),(19,S.pt (eN u34)),(27,ag (bI a)),(7,bb u35),(39,bb v1),(23,ii u36),(15,S.t (T.rows 8 a.au.n fun i=>eN (a.au.get i))),(31,S.agg [ss u37,ii u38,ii u39,ii u40,S.t (T.rows 4 u41.n u41.g),S.t (T.rows 2 u42.n u42.g),ii u43,ii u44,ii u45,ii u46])] 36 [(0,B.box (List.map S.t (bI a))),(4,B.box (List.map S.t (eN v0))),(18,B.box [ss u47,ii u48,ii u49,ii u50,S.t (T.rows 4 u51.n u51.g),S.t (T.rows 2 u52.n u52.g),ii u53,ii u54,ii u55,ii u56])])
def IQ (a:aP) (kk:PK S):Int→OS:=fun v0=> kk 22 0 0 (aJ [(86,ii (ay a.ai.n)),(1,S.ptr 0 0),(85,S.t (T.rows 7 a.ai.n fun i=>kQ (a.ai.get i))),(87,ii v0)] 1 [(0,B.box (List.map S.t (bI a)))])
abbrev T38_4:Type:=Bool→gO→Int→Int→gO→Bool→BA→gO→S→S→S→Bool→Bool→Int→OS
def SR (a:aP) (kk:PK S):T38_4:=fun v0 v1 v2 v3 u4 u5 u6 u7 u8 u9 u10 u11 u12 u13=> kk 24 9 8 (aJ [(96,u8),(88,bb u12),(92,S.ptr 5 0),(98,u9),(10,ii v2),(90,S.pt (kQ u4)),(86,ii (ay a.ai.n)),(94,bb u5),(1,S.ptr 0 0),(97,u10),(89,ii u13),(85,S.t (T.rows 7 a.ai.n fun i=>kQ (a.ai.get i))),(93,ss u6),(99,bb v0),(11,S.ptr 5 0),(91,ag (kQ u7)),(87,ii v3),(95,bb u11)] 32 [(0,B.box (List.map S.t (bI a))),(5,B.box (List.map S.t (kQ v1)))])
abbrev T38_5:Type:=Bool→gO→Int→Int→S→S→gO→Bool→S→BA→Bool→gO→Bool→Bool→S→S→S→Bool→Int→OS
def Q9 (a:aP) (kk:PK S):T38_5:=fun v0 v1 v2 v3 u4 u5 u6 u7 u8 u9 u10 u11 u12 u13 u14 u15 u16 u17 u18=> kk 24 14 8 (aJ [(96,u4),(104,bb v0),(88,bb u17),(100,bb u13),(92,S.ptr 5 0),(98,u5),(10,ii v2),(90,S.pt (kQ u6)),(102,u14),(86,ii (ay a.ai.n)),(94,bb u7),(1,S.ptr 0 0),(97,u8),(89,ii u18),(101,u15),(85,S.t (T.rows 7 a.ai.n fun i=>kQ (a.ai.get i))),(93,ss u9),(99,bb u10),(11,S.ptr 5 0),(91,ag (kQ u11)),(103,u16),(87,ii v3),(95,bb u12)] 32 [(0,B.box (List.map S.t (bI a))),(5,B.box (List.map S.t (kQ v1)))])
abbrev T38_6:Type:=Bool→gO→Int→Int→S→Bool→Bool→S→gO→S→Bool→S→S→BA→Bool→gO→S→Bool→S→S→Bool→S→Bool→Int→OS
def TW (a:aP) (kk:PK S):T38_6:=fun v0 v1 v2 v3 u4 u5 u6 u7 u8 u9 u10 u11 u12 u13 u14 u15 u16 u17 u18 u19 u20 u21 u22 u23=> kk 24 19 8 (aJ [(96,u4),(104,bb u5),(88,bb u22),(100,bb u6),(108,u18),(92,S.ptr 5 0),(98,u7),(10,ii v2),(106,u19),(90,S.pt (kQ u8)),(102,u9),(86,ii (ay a.ai.n)),(94,bb u10),(1,S.ptr 0 0),(97,u11),(105,bb u20),(89,ii u23),(101,u12),(85,S.t (T.rows 7 a.ai.n fun i=>kQ (a.ai.get i))),(109,bb v0),(93,ss u13),(99,bb u14),(11,S.ptr 5 0),(107,u21),(91,ag (kQ u15)),(103,u16),(87,ii v3),(95,bb u17)] 32 [(0,B.box (List.map S.t (bI a))),(5,B.box (List.map S.t (kQ v1)))])
abbrev T38_7:Type:=(Rw gO)→gO→Int→Int→Int→OS
def IB (a:aP) (kk:PK S):T38_7:=fun v0 v1 v2 v3 v4=> kk 27 0 0 (aJ [(120,ii v2),(86,ii (ay a.ai.n)),(1,S.ptr 0 0),(121,ii v4),(85,S.t (T.rows 7 a.ai.n fun i=>kQ (a.ai.get i))),(11,S.ptr 1 0),(87,ii v3),(119,S.t (T.rows 7 v0.n fun i=>kQ (v0.get i)))] 2 [(0,B.box (List.map S.t (bI a))),(1,B.box (List.map S.t (kQ v1)))])
def KS (q:YF) (a:aP) (k1:Int→OS) (k2:T38_2) (v0:Int):OS:=bif bm v0 (ay a.au.n) then aU v0 a.au.n fun h=>yC q 81 [ag (eN (a.au.get (Fin.mk v0.toNat h)))] fun y=>bif !aR (y.i 0) 0 then some (ii (y.i 0)) else yC q 76 [ag (bI a),ss (a.au.get (Fin.mk v0.toNat h)).bc] fun y_1=>bif !ah (a.au.get (Fin.mk v0.toNat h)).bc (bs []) then k2 (a.au.get (Fin.mk v0.toNat h)) (!y_1.b 10) v0 (y_1.b 10) (!aR (y.i 0) 0) (a.au.get (Fin.mk v0.toNat h)) (a.au.get (Fin.mk v0.toNat h)).bc (y_1.s 0) (y_1.i 1) (y_1.i 2) (y_1.i 3) (y_1.r 4) (y_1.r 5) (y_1.i 6) (y_1.i 7) (y_1.i 8) (y_1.i 9) (y_1.b 10) (y.i 0) (y_1.s 0) (y_1.i 1) (y_1.i 2) (y_1.i 3) (y_1.r 4) (y_1.r 5) (y_1.i 6) (y_1.i 7) (y_1.i 8) (y_1.i 9) (y_1.b 10) (y.i 0) (a.au.get (Fin.mk v0.toNat h)) (a.au.get (Fin.mk v0.toNat h)).bc (!ah (a.au.get (Fin.mk v0.toNat h)).bc (bs [])) (a.au.get (Fin.mk v0.toNat h)) (y_1.b 10) (y.i 0) (y_1.s 0) (y_1.i 1) (y_1.i 2) (y_1.i 3) (y_1.r 4) (y_1.r 5) (y_1.i 6) (y_1.i 7) (y_1.i 8) (y_1.i 9) (y_1.s 0) (y_1.i 1) (y_1.i 2) (y_1.i 3) (y_1.r 4) (y_1.r 5) (y_1.i 6) (y_1.i 7) (y_1.i 8) (y_1.i 9) true (S.t (T.v (.bool !y_1.b 10))) (bb (y_1.b 10)) (bm v0 (ay a.au.n)) else k2 (a.au.get (Fin.mk v0.toNat h)) false v0 (y_1.b 10) (!aR (y.i 0) 0) (a.au.get (Fin.mk v0.toNat h)) (a.au.get (Fin.mk v0.toNat h)).bc (y_1.s 0) (y_1.i 1) (y_1.i 2) (y_1.i 3) (y_1.r 4) (y_1.r 5) (y_1.i 6) (y_1.i 7) (y_1.i 8) (y_1.i 9) (y_1.b 10) (y.i 0) (y_1.s 0) (y_1.i 1) (y_1.i 2) (y_1.i 3) (y_1.r 4) (y_1.r 5) (y_1.i 6) (y_1.i 7) (y_1.i 8) (y_1.i 9) (y_1.b 10) (y.i 0) (a.au.get (Fin.mk v0.toNat h)) (a.au.get (Fin.mk v0.toNat h)).bc (!ah (a.au.get (Fin.mk v0.toNat h)).bc (bs [])) (a.au.get (Fin.mk v0.toNat h)) (y_1.b 10) (y.i 0) (y_1.s 0) (y_1.i 1) (y_1.i 2) (y_1.i 3) (y_1.r 4) (y_1.r 5) (y_1.i 6) (y_1.i 7) (y_1.i 8) (y_1.i 9) (y_1.s 0) (y_1.i 1) (y_1.i 2) (y_1.i 3) (y_1.r 4) (y_1.r 5) (y_1.i 6) (y_1.i 7) (y_1.i 8) (y_1.i 9) false S.ud S.ud (bm v0 (ay a.au.n)) else k1 0
def Jv (q:YF) (a:aP) (k1:Int→OS) (k3:Int→OS) (v0:Int):OS:=bif bm v0 (ay a.ax.n) then aU v0 a.ax.n fun h=>yC q 77 [S.t (T.rows 7 a.aw.n fun i=>bk (a.aw.get i)),S.t (T.rows 3 1 fun i=>List.take 3 (List.drop (↑i*3) [ts (a.ax.get (Fin.mk v0.toNat h)).al,ts (a.ax.get (Fin.mk v0.toNat h)).aj,ts (a.ax.get (Fin.mk v0.toNat h)).ak]))] fun y=>bif !y.b 0 then some (ii 5) else bif bl v0 0 then aU (bF .i64 v0 1) a.ax.n fun h_1=>yC q 82 [S.agg [ss (a.ax.get (Fin.mk (bF .i64 v0 1).toNat h_1)).al,ss (a.ax.get (Fin.mk (bF .i64 v0 1).toNat h_1)).aj,ss (a.ax.get (Fin.mk (bF .i64 v0 1).toNat h_1)).ak],S.agg [ss (a.ax.get (Fin.mk v0.toNat h)).al,ss (a.ax.get (Fin.mk v0.toNat h)).aj,ss (a.ax.get (Fin.mk v0.toNat h)).ak]] fun y=>bif !y.b 0 then some (ii 6) else yC q 31 [ii (a.ax.get (Fin.mk v0.toNat h)).dT] fun y=>bif !y.b 0 then some (ii 1) else k1 (a7 .i64 v0 1) else yC q 31 [ii (a.ax.get (Fin.mk v0.toNat h)).dT] fun y=>bif !y.b 0 then some (ii 1) else k1 (a7 .i64 v0 1) else k3 0
def Qj (q:YF) (a:aP) (k0:Int→OS):T38_2:=fun v0 v1 v2 u3 u4 u5 u6 u7 u8 u9 u10 u11 u12 u13 u14 u15 u16 u17 u18 u19 u20 u21 u22 u23 u24 u25 u26 u27 u28 u29 u30 u31 u32 u33 u34 u35 u36 u37 u38 u39 u40 u41 u42 u43 u44 u45 u46 u47 u48 u49 u50 u51 u52 u53 u54 u55 u56 u57 u58 u59 u60=>bif v1 then some (ii 5) else yC q 77 [S.t (T.rows 7 a.aw.n fun i=>bk (a.aw.get i)),S.t (T.rows 3 v0.bh.n fun i=>bS (v0.bh.get i))] fun y=>bif !y.b 0 then some (ii 5) else k0 (a7 .i64 v2 1)
def J6 (q:YF) (a:aP) (k4:T38_4) (v0:Int):OS:=bif bm v0 (ay a.ai.n) then aU v0 a.ai.n fun h=>bif ah (a.ai.get (Fin.mk v0.toNat h)).eG (bs []) then k4 true (a.ai.get (Fin.mk v0.toNat h)) v0 v0 (a.ai.get (Fin.mk v0.toNat h)) (ah (a.ai.get (Fin.mk v0.toNat h)).eG (bs [])) (a.ai.get (Fin.mk v0.toNat h)).eG (a.ai.get (Fin.mk v0.toNat h)) S.ud S.ud S.ud true (bm v0 (ay a.ai.n)) v0 else k4 (ah (a.ai.get (Fin.mk v0.toNat h)).cu (bs [])) (a.ai.get (Fin.mk v0.toNat h)) v0 v0 (a.ai.get (Fin.mk v0.toNat h)) (ah (a.ai.get (Fin.mk v0.toNat h)).eG (bs [])) (a.ai.get (Fin.mk v0.toNat h)).eG (a.ai.get (Fin.mk v0.toNat h)) (S.ptr 5 1) (bb (ah (a.ai.get (Fin.mk v0.toNat h)).cu (bs []))) (ss (a.ai.get (Fin.mk v0.toNat h)).cu) false (bm v0 (ay a.ai.n)) v0 else some (ii 0)
def Tt (q:YF) (a:aP) (k5:T38_5):T38_4:=fun v0 v1 v2 v3 u4 u5 u6 u7 u8 u9 u10 u11 u12 u13=>bif v0 then k5 true v1 v2 v3 u8 u9 u4 u5 u10 u6 v0 u7 u11 true S.ud S.ud S.ud u12 u13 else k5 (bm v1.cX 1) v1 v2 v3 u8 u9 u4 u5 u10 u6 v0 u7 u11 false (ii v1.cX) (S.ptr 5 5) (bb (bm v1.cX 1)) u12 u13
def NL (q:YF) (a:aP) (k6:T38_6):T38_5:=fun v0 v1 v2 v3 u4 u5 u6 u7 u8 u9 u10 u11 u12 u13 u14 u15 u16 u17 u18=>bif v0 then k6 true v1 v2 v3 u4 v0 u13 u5 u6 u14 u7 u8 u15 u9 u10 u11 u16 u12 S.ud S.ud true S.ud u17 u18 else k6 (bl v1.cX 3) v1 v2 v3 u4 v0 u13 u5 u6 u14 u7 u8 u15 u9 u10 u11 u16 u12 (bb (bl v1.cX 3)) (S.ptr 5 5) false (ii v1.cX) u17 u18
def P6 (q:YF) (a:aP) (k7:T38_7):T38_6:=fun v0 v1 v2 v3 u4 u5 u6 u7 u8 u9 u10 u11 u12 u13 u14 u15 u16 u17 u18 u19 u20 u21 u22 u23=>bif v0 then some (ii 1) else yC q 31 [ii v1.fu] fun y=>bif !y.b 0 then some (ii 1) else bif bp 0 v2 && bp v2 (ay a.ai.n) then iE 0 (cK v2) a.ai.n fun h=>k7 (Rw.mk (cK v2) fun i=>a.ai.get (Fin.mk (0+↑i) (by first | omega | (have:=i.2;omega) | (have:=i_1.2;omega)))) v1 (ay (cK v2)) v3 0 else none
def KY (q:YF) (a:aP) (k3:Int→OS) (k7:T38_7):T38_7:=fun v0 v1 v2 v3 v4=>bif bm v4 v2 then aU v4 v0.n fun h=>bif ah v1.eG (v0.get (Fin.mk v4.toNat h)).eG then some (ii 6) else bif ah v1.cu (v0.get (Fin.mk v4.toNat h)).cu then some (ii 6) else k7 v0 v1 v2 v3 (a7 .i64 v4 1) else yC q 77 [S.t (T.rows 7 a.aw.n fun i=>bk (a.aw.get i)),S.t (T.rows 3 1 fun i=>List.take 3 (List.drop (↑i*3) [ts v1.al,ts v1.aj,ts v1.ak]))] fun y=>bif !y.b 0 then some (ii 5) else k3 (a7 .i64 v3 1)
def SD (q:YF) (a:aP) (k0:Int→OS):OS:=k0 0
structure X38 where
 x0:Int→OS
 x1:Int→OS
 x2:cO→Bool→Int→OS
 x3:Int→OS
 x4:Bool→gO→Int→Int→OS
 x5:Bool→gO→Int→Int→OS
 x6:Bool→gO→Int→Int→OS
 x7:(Rw gO)→gO→Int→Int→Int→OS
def K7 (X:X38):Int→OS:=fun v0=>X.x0 v0
def C0 (X:X38):Int→OS:=fun v0=>X.x1 v0
def Rf (X:X38):T38_2:=fun v0 v1 v2 _ _ _ _ _ _ _ _ _ _ _ _ _ _ _ _ _ _ _ _ _ _ _ _ _ _ _ _ _ _ _ _ _ _ _ _ _ _ _ _ _ _ _ _ _ _ _ _ _ _ _ _ _ _ _ _ _ _=>X.x2 v0 v1 v2
def DD (X:X38):Int→OS:=fun v0=>X.x3 v0
def Nc (X:X38):T38_4:=fun v0 v1 v2 v3 _ _ _ _ _ _ _ _ _ _=>X.x4 v0 v1 v2 v3
def RY (X:X38):T38_5:=fun v0 v1 v2 v3 _ _ _ _ _ _ _ _ _ _ _ _ _ _ _=>X.x5 v0 v1 v2 v3
def Pv (X:X38):T38_6:=fun v0 v1 v2 v3 _ _ _ _ _ _ _ _ _ _ _ _ _ _ _ _ _ _ _ _=>X.x6 v0 v1 v2 v3
def DM (X:X38):T38_7:=fun v0 v1 v2 v3 v4=>X.x7 v0 v1 v2 v3 v4
def qF (q:YF) (a:aP) (X:X38):X38:=⟨fun v0=>KS q a (C0 X) (Rf X) v0,
 fun v0=>Jv q a (C0 X) (DD X) v0,
 fun v0 v1 v2=>Qj q a (K7 X) v0 v1 v2 dd dd dd dd dd dd dd dd dd dd dd dd dd dd dd dd dd dd dd dd dd dd dd dd dd dd dd dd dd dd dd dd dd dd dd dd dd dd dd dd dd dd dd dd dd dd dd dd dd dd dd dd dd dd dd dd dd dd,
 fun v0=>J6 q a (Nc X) v0,
 fun v0 v1 v2 v3=>Tt q a (RY X) v0 v1 v2 v3 dd dd dd dd dd dd dd dd dd dd,
 fun v0 v1 v2 v3=>NL q a (Pv X) v0 v1 v2 v3 dd dd dd dd dd dd dd dd dd dd dd dd dd dd dd,
 fun v0 v1 v2 v3=>P6 q a (DM X) v0 v1 v2 v3 dd dd dd dd dd dd dd dd dd dd dd dd dd dd dd dd dd dd dd dd,
 fun v0 v1 v2 v3 v4=>KY q a (DD X) (DM X) v0 v1 v2 v3 v4⟩
def cS (q:YF) (a:aP):Nat→X38
 | 0=>⟨fun _=>none,fun _=>none,fun _ _ _=>none,fun _=>none,fun _ _ _ _=>none,fun _ _ _ _=>none,fun _ _ _ _=>none,fun _ _ _ _ _=>none⟩
 | n+1=>qF q a (cS q a n)
theorem afl (q:YF) (a:aP) (kk:PK S):JS a (P38 q kk)=KS q a (IF a kk) (PQ a kk):=by
 kernel_rfl
theorem adx (q:YF) (a:aP) (kk:PK S):IF a (P38 q kk)=Jv q a (IF a kk) (IQ a kk):=by
 kernel_rfl
theorem ag4 (q:YF) (a:aP) (kk:PK S):PQ a (P38 q kk)=Qj q a (JS a kk):=by
 kernel_rfl
theorem afK (q:YF) (a:aP) (kk:PK S):IQ a (P38 q kk)=J6 q a (SR a kk):=by
 kernel_rfl
theorem agf (q:YF) (a:aP) (kk:PK S):SR a (P38 q kk)=Tt q a (Q9 a kk):=by
 kernel_rfl
theorem agX (q:YF) (a:aP) (kk:PK S):Q9 a (P38 q kk)=NL q a (TW a kk):=by
 kernel_rfl
theorem aeB (q:YF) (a:aP) (kk:PK S):TW a (P38 q kk)=P6 q a (IB a kk):=by
 kernel_rfl
theorem ae0 (q:YF) (a:aP) (kk:PK S):IB a (P38 q kk)=KY q a (IQ a kk) (IB a kk):=by
 kernel_rfl
theorem aah (q:YF) (a:aP) (kk:PK S):BG q kk 38 Tryz.f38 [ag (bI a)]=SD q a (JS a kk):=by
 kernel_rfl
theorem h38 (q:YF) (a:aP):∀ n,JS a (DQ q n)=K7 (cS q a n)∧IF a (DQ q n)=C0 (cS q a n)∧PQ a (DQ q n)=Rf (cS q a n)∧IQ a (DQ q n)=DD (cS q a n)∧SR a (DQ q n)=Nc (cS q a n)∧Q9 a (DQ q n)=RY (cS q a n)∧TW a (DQ q n)=Pv (cS q a n)∧IB a (DQ q n)=DM (cS q a n)
 | 0=>⟨rfl,rfl,rfl,rfl,rfl,rfl,rfl,rfl⟩
 | n+1=>by
  obtain ⟨h0,h1,h2,h3,h4,h5,h6,h7⟩:=h38 q a n
  exact ⟨(afl q a (DQ q n)).trans (by rw [h1,h2];kernel_rfl),(adx q a (DQ q n)).trans (by rw [h1,h3];kernel_rfl),(ag4 q a (DQ q n)).trans (by rw [h0];kernel_rfl),(afK q a (DQ q n)).trans (by rw [h4];kernel_rfl),(agf q a (DQ q n)).trans (by rw [h5];kernel_rfl),(agX q a (DQ q n)).trans (by rw [h6];kernel_rfl),(aeB q a (DQ q n)).trans (by rw [h7];kernel_rfl),(ae0 q a (DQ q n)).trans (by rw [h3,h7];kernel_rfl)⟩
theorem W38 (a:aP) (n:Nat) (x:S) (h:SD (aa O) a (K7 (cS (aa O) a n))=some x):(W O).aE 38 [ag (bI a)]=some x:=by
 refine WG (fn:=Tryz.f38) (by kernel_rfl) (by kernel_rfl) (n:=n) ?_
 refine (aah (aa O) a (DQ (aa O) n)).trans ?_
 obtain ⟨h0,h1,h2,h3,h4,h5,h6,h7⟩:=h38 (aa O) a n
 rw [h0]
 exact h
abbrev H39 (q:YF):Nat→PK S:=HG q 39 Tryz.f39
def ET (q:YF) (a:Rw aV) (b:bu) (c:BA) (d:BA):OS:=yC q 83 [S.t (T.rows 7 a.n fun i=>bk (a.get i))] fun y=>lookW O.P O.K 47 141 (y.m 0) (ag (bS b)) (fun y=>yC q 84 [S.agg [ss (y.s 0),ii (y.i 1),ii (y.i 2),ii (y.i 3),ii (y.i 4),S.t (T.rows 2 (y.r 5).n (y.r 5).g),S.t (T.rows 4 (y.r 6).n (y.r 6).g),ss (y.s 7),ss (y.s 8),ii (y.i 9),bb (y.b 10)],ag (bS b),ss c,ss d] fun y=>some (S.top 2 (y.r 0).n (y.r 0).g)) (some (S.top 2 0 fT))
theorem acA (q:YF) (a:Rw aV) (b:bu) (c:BA) (d:BA) (kk:PK S):BG q kk 39 Tryz.f39 [S.t (T.rows 7 a.n fun i=>bk (a.get i)),ag (bS b),ss c,ss d]=ET q a b c d:=by
 kernel_rfl
theorem W39 (a:Rw aV) (b:bu) (c:BA) (d:BA) (n:Nat) (x:S) (h:ET (aa O) a b c d=some x):(W O).aE 39 [S.t (T.rows 7 a.n fun i=>bk (a.get i)),ag (bS b),ss c,ss d]=some x:=by
 refine WG (fn:=Tryz.f39) (by kernel_rfl) (by kernel_rfl) (n:=n) ?_
 refine (acA (aa O) a b c d (H39 (aa O) n)).trans ?_
 exact h
abbrev H48 (q:YF):Nat→PK S:=HG q 48 Tryz.f48
def F3 (q:YF) (a:cr) (b:cr):OS:=yC q 49 [ag (ew a)] fun y=>bif !aR (y.i 0) 0 then some (ii (y.i 0)) else yC q 49 [ag (ew b)] fun y=>some (ii (y.i 0))
theorem Z6 (q:YF) (a:cr) (b:cr) (kk:PK S):BG q kk 48 Tryz.f48 [ag (ew a),ag (ew b)]=F3 q a b:=by
 kernel_rfl
theorem W48 (a:cr) (b:cr) (n:Nat) (x:S) (h:F3 (aa O) a b=some x):(W O).aE 48 [ag (ew a),ag (ew b)]=some x:=by
 refine WG (fn:=Tryz.f48) (by kernel_rfl) (by kernel_rfl) (n:=n) ?_
 refine (Z6 (aa O) a b (H48 (aa O) n)).trans ?_
 exact h
abbrev H49 (q:YF):Nat→PK S:=HG q 49 Tryz.f49
def GQ (q:YF) (a:cr):OS:=yC q 91 [ii a.fW] fun y=>bif !aR (y.i 0) 0 then some (ii (y.i 0)) else yC q 91 [ii a.gK] fun y=>some (ii (y.i 0))
theorem aaA (q:YF) (a:cr) (kk:PK S):BG q kk 49 Tryz.f49 [ag (ew a)]=GQ q a:=by
 kernel_rfl
theorem W49 (a:cr) (n:Nat) (x:S) (h:GQ (aa O) a=some x):(W O).aE 49 [ag (ew a)]=some x:=by
 refine WG (fn:=Tryz.f49) (by kernel_rfl) (by kernel_rfl) (n:=n) ?_
 refine (aaA (aa O) a (H49 (aa O) n)).trans ?_
 exact h
abbrev P53 (q:YF) (kk:PK S):PK S:=PG q 53 Tryz.f53 kk
abbrev H53 (q:YF):Nat→PK S:=HG q 53 Tryz.f53
def Jk (a:Rw Int) (kk:PK S):Int→OS:=fun v0=> kk 3 0 0 (aJ [(8,ii v0),(6,S.t (T.rows 1 a.n fun i=>[ti (a.get i)])),(3,ii 0),(7,ii (ay a.n))] 0 [])
def K6 (q:YF) (a:Rw Int) (k0:Int→OS) (v0:Int):OS:=bif bm v0 (ay a.n) then aU v0 a.n fun h=>bif !aR (a.get (Fin.mk v0.toNat h)) 0 then some (ii (a.get (Fin.mk v0.toNat h))) else k0 (a7 .i64 v0 1) else some (ii 0)
def QX (q:YF) (a:Rw Int) (k0:Int→OS):OS:=k0 0
structure X53 where
 x0:Int→OS
def DN (X:X53):Int→OS:=fun v0=>X.x0 v0
def aaL (q:YF) (a:Rw Int) (X:X53):X53:=⟨fun v0=>K6 q a (DN X) v0⟩
def Me (q:YF) (a:Rw Int):Nat→X53
 | 0=>⟨fun _=>none⟩
 | n+1=>aaL q a (Me q a n)
theorem aeR (q:YF) (a:Rw Int) (kk:PK S):Jk a (P53 q kk)=K6 q a (Jk a kk):=by
 kernel_rfl
theorem Zx (q:YF) (a:Rw Int) (kk:PK S):BG q kk 53 Tryz.f53 [S.t (T.rows 1 a.n fun i=>e3 (a.get i))]=QX q a (Jk a kk):=by
 kernel_rfl
theorem h53 (q:YF) (a:Rw Int):∀ n,Jk a (H53 q n)=DN (Me q a n)
 | 0=>rfl
 | n+1=>by
  have h0:=h53 q a n
  exact (aeR q a (H53 q n)).trans (by rw [h0];kernel_rfl)
theorem W53 (a:Rw Int) (n:Nat) (x:S) (h:QX (aa O) a (DN (Me (aa O) a n))=some x):(W O).aE 53 [S.t (T.rows 1 a.n fun i=>e3 (a.get i))]=some x:=by
 refine WG (fn:=Tryz.f53) (by kernel_rfl) (by kernel_rfl) (n:=n) ?_
 refine (Zx (aa O) a (H53 (aa O) n)).trans ?_
 have h0:=h53 (aa O) a n
 rw [h0]
 exact h
abbrev P58 (q:YF) (kk:PK S):PK S:=PG q 58 Tryz.f58 kk
abbrev H58 (q:YF):Nat→PK S:=HG q 58 Tryz.f58
def Q2 (a:aV) (kk:PK S):OS:=kk 4 0 0 (aJ [(16,ii (ay 2)),(1,S.ptr 0 0),(17,ii 0),(15,S.sl 1 2)] 2 [(0,B.box (List.map S.t (bk a))),(1,B.fO false 2 2 [ii a.a6,ii a.a8,ii a.cx,ii a.cv])])
def PD (a:aV) (kk:PK S):OS:=kk 4 0 0 (aJ [(16,ii (ay 2)),(1,S.ptr 0 0),(17,ii 1),(15,S.sl 1 2)] 2 [(0,B.box (List.map S.t (bk a))),(1,B.fO false 2 2 [ii a.a6,ii a.a8,ii a.cx,ii a.cv])])
def OC (a:aV) (kk:PK S):OS:=kk 4 0 0 (aJ [(16,ii (ay 2)),(1,S.ptr 0 0),(17,ii 2),(15,S.sl 1 2)] 2 [(0,B.box (List.map S.t (bk a))),(1,B.fO false 2 2 [ii a.a6,ii a.a8,ii a.cx,ii a.cv])])
def OV (q:YF) (a:aV) (k1:OS):OS:=yC q 102 [S.agg [ii a.a6,ii a.a8]] fun y=>bif !aR (y.i 0) 0 then some (ii (y.i 0)) else k1
def Sw (q:YF) (a:aV) (k2:OS):OS:=yC q 102 [S.agg [ii a.cx,ii a.cv]] fun y=>bif !aR (y.i 0) 0 then some (ii (y.i 0)) else k2
def RJ (q:YF) (a:aV):OS:=yC q 103 [S.agg [ii a.cx,ii a.cv],S.agg [ii a.a6,ii a.a8]] fun y=>bif !y.b 0 then some (ii 1) else yC q 104 [S.t (T.rows 2 a.aS.n fun i=>dv (a.aS.get i))] fun y=>bif !aR (y.i 0) 0 then some (ii (y.i 0)) else yC q 105 [S.t (T.rows 4 a.aF.n fun i=>cL (a.aF.get i))] fun y=>some (ii (y.i 0))
def F_ (q:YF) (a:aV) (k0:OS):OS:=yC q 101 [ss a.af] fun y=>bif !y.b 0 then some (ii 7) else k0
structure X58 where
 x0:OS
 x1:OS
 x2:OS
def T0 (X:X58):OS:=X.x0
def SP (X:X58):OS:=X.x1
def O5 (X:X58):OS:=X.x2
def adL (q:YF) (a:aV) (X:X58):X58:=⟨OV q a (SP X),
 Sw q a (O5 X),
 RJ q a⟩
def LY (q:YF) (a:aV):Nat→X58
 | 0=>⟨none,none,none⟩
 | n+1=>adL q a (LY q a n)
theorem agu (q:YF) (a:aV) (kk:PK S):Q2 a (P58 q kk)=OV q a (PD a kk):=by
 kernel_rfl
theorem agK (q:YF) (a:aV) (kk:PK S):PD a (P58 q kk)=Sw q a (OC a kk):=by
 kernel_rfl
theorem agJ (q:YF) (a:aV) (kk:PK S):OC a (P58 q kk)=RJ q a:=by
 kernel_rfl
theorem Ze (q:YF) (a:aV) (kk:PK S):BG q kk 58 Tryz.f58 [ag (bk a)]=F_ q a (Q2 a kk):=by
 kernel_rfl
theorem h58 (q:YF) (a:aV):∀ n,Q2 a (H58 q n)=T0 (LY q a n)∧PD a (H58 q n)=SP (LY q a n)∧OC a (H58 q n)=O5 (LY q a n)
 | 0=>⟨rfl,rfl,rfl⟩
 | n+1=>by
  obtain ⟨h0,h1,h2⟩:=h58 q a n
  exact ⟨(agu q a (H58 q n)).trans (by rw [h1];kernel_rfl),(agK q a (H58 q n)).trans (by rw [h2];kernel_rfl),(agJ q a (H58 q n)).trans (by kernel_rfl)⟩
theorem W58 (a:aV) (n:Nat) (x:S) (h:F_ (aa O) a (T0 (LY (aa O) a n))=some x):(W O).aE 58 [ag (bk a)]=some x:=by
 refine WG (fn:=Tryz.f58) (by kernel_rfl) (by kernel_rfl) (n:=n) ?_
 refine (Ze (aa O) a (H58 (aa O) n)).trans ?_
 obtain ⟨h0,h1,h2⟩:=h58 (aa O) a n
 rw [h0]
 exact h
abbrev H59 (q:YF):Nat→PK S:=HG q 59 Tryz.f59
def FJ (q:YF) (a:Rw aV) (b:aV):OS:=yC q 106 [S.t (T.rows 7 a.n fun i=>bk (a.get i)),S.fn (Go.Fn.func 60) [] [S.pt (bk b)]] fun y=>some (bb (cT (y.i 0) 0))
theorem abv (q:YF) (a:Rw aV) (b:aV) (kk:PK S):BG q kk 59 Tryz.f59 [S.t (T.rows 7 a.n fun i=>bk (a.get i)),S.fn (Go.Fn.func 60) [] [S.pt (bk b)]]=FJ q a b:=by
 kernel_rfl
theorem W59 (a:Rw aV) (b:aV) (n:Nat) (x:S) (h:FJ (aa O) a b=some x):(W O).aE 59 [S.t (T.rows 7 a.n fun i=>bk (a.get i)),S.fn (Go.Fn.func 60) [] [S.pt (bk b)]]=some x:=by
 refine WG (fn:=Tryz.f59) (by kernel_rfl) (by kernel_rfl) (n:=n) ?_
 refine (abv (aa O) a b (H59 (aa O) n)).trans ?_
 exact h
abbrev H60 (q:YF):Nat→PK S:=HG q 60 Tryz.f60
def T2 (q:YF) (a:aV) (b:aV):OS:=some (bb (ah a.af b.af))
theorem ab0 (q:YF) (a:aV) (b:aV) (kk:PK S):BG q kk 60 Tryz.f60 [ag (bk a),S.pt (bk b)]=T2 q a b:=by
 kernel_rfl
theorem W60 (a:aV) (b:aV) (n:Nat) (x:S) (h:T2 (aa O) a b=some x):(W O).aE 60 [ag (bk a),S.pt (bk b)]=some x:=by
 refine WG (fn:=Tryz.f60) (by kernel_rfl) (by kernel_rfl) (n:=n) ?_
 refine (ab0 (aa O) a b (H60 (aa O) n)).trans ?_
 exact h
abbrev P61 (q:YF) (kk:PK S):PK S:=PG q 61 Tryz.f61 kk
abbrev Mf (q:YF):Nat→PK S:=HG q 61 Tryz.f61
abbrev T61_0:Type:=Int→Bool→Bool→S→S→S→Bool→OS
def Tv (a:fU) (kk:PK S):T61_0:=fun v0 v1 u2 u3 u4 u5 u6=> kk 1 14 2 (aJ [(0,ag (jd a)),(8,S.ptr 0 1),(4,ss a.af),(12,u3),(2,ii 0),(10,bb (cT a.bt 0)),(6,bb u2),(14,u4),(1,S.ptr 0 0),(9,ii a.bt),(5,S.sl 4 1),(13,u5),(3,S.ptr 0 0),(11,bb u6),(7,ii v0),(15,bb v1)] 57 [(0,B.box (List.map S.t (jd a))),(4,B.fO false 1 1 [ss a.af])])
abbrev T61_1:Type:=Int→Int→Int→Int→Int→Bool→S→Bool→Bool→S→S→Bool→Bool→S→S→Bool→S→OS
def Qa (a:fU) (kk:PK S):T61_1:=fun v0 v1 v2 v3 v4 v5 u6 u7 u8 u9 u10 u11 u12 u13 u14 u15 u16=> kk 1 32 2 (aJ [(0,ag (jd a)),(32,u13),(16,ii v0),(8,S.ptr 0 1),(24,S.t (T.rows 2 a.bW.n fun i=>dv (a.bW.get i))),(4,ss a.af),(20,S.ptr 0 4),(12,u6),(28,bb u7),(2,ii 0),(18,S.agg [ii a.cY,ii a.c_]),(10,bb (cT a.bt 0)),(26,S.ptr 0 6),(6,bb u8),(22,ii v1),(14,u9),(30,u14),(1,S.ptr 0 0),(33,bb v5),(17,S.ptr 0 2),(9,ii a.bt),(25,ii v2),(5,S.sl 4 1),(21,S.t (T.rows 4 a.cg.n fun i=>eL (a.cg.get i))),(13,u10),(29,bb u15),(3,S.ptr 0 0),(19,ii v3),(11,bb u11),(27,ii a.dB),(7,ii v4),(23,S.ptr 0 5),(15,bb u12),(31,u16)] 57 [(0,B.box (List.map S.t (jd a))),(4,B.fO false 1 1 [ss a.af])])
abbrev T61_2:Type:=Int→Int→Int→Int→Int→Bool→S→S→Bool→Bool→S→S→Bool→S→Bool→Bool→Bool→S→S→Bool→S→S→OS
def QJ (a:fU) (kk:PK S):T61_2:=fun v0 v1 v2 v3 v4 v5 u6 u7 u8 u9 u10 u11 u12 u13 u14 u15 u16 u17 u18 u19 u20 u21=> kk 1 37 2 (aJ [(0,ag (jd a)),(32,u6),(16,ii v0),(8,S.ptr 0 1),(24,S.t (T.rows 2 a.bW.n fun i=>dv (a.bW.get i))),(4,ss a.af),(36,u18),(20,S.ptr 0 4),(12,u7),(28,bb u8),(2,ii 0),(34,bb u19),(18,S.agg [ii a.cY,ii a.c_]),(10,bb (cT a.bt 0)),(26,S.ptr 0 6),(6,bb u9),(38,bb v5),(22,ii v1),(14,u10),(30,u11),(1,S.ptr 0 0),(33,bb u12),(17,S.ptr 0 2),(9,ii a.bt),(25,ii v2),(5,S.sl 4 1),(37,u20),(21,S.t (T.rows 4 a.cg.n fun i=>eL (a.cg.get i))),(13,u13),(29,bb u14),(3,S.ptr 0 0),(35,u21),(19,ii v3),(11,bb u15),(27,ii a.dB),(7,ii v4),(23,S.ptr 0 5),(15,bb u16),(31,u17)] 57 [(0,B.box (List.map S.t (jd a))),(4,B.fO false 1 1 [ss a.af])])
abbrev T61_3:Type:=Int→Int→Int→Int→Int→Bool→S→S→S→Bool→Bool→Bool→Bool→S→S→Bool→S→S→Bool→S→Bool→Bool→S→S→S→S→Bool→OS
def RP (a:fU) (kk:PK S):T61_3:=fun v0 v1 v2 v3 v4 v5 u6 u7 u8 u9 u10 u11 u12 u13 u14 u15 u16 u17 u18 u19 u20 u21 u22 u23 u24 u25 u26=> kk 1 42 2 (aJ [(0,ag (jd a)),(32,u6),(16,ii v0),(8,S.ptr 0 1),(40,u23),(24,S.t (T.rows 2 a.bW.n fun i=>dv (a.bW.get i))),(4,ss a.af),(36,u7),(20,S.ptr 0 4),(12,u8),(28,bb u9),(2,ii 0),(34,bb u10),(18,S.agg [ii a.cY,ii a.c_]),(10,bb (cT a.bt 0)),(42,u24),(26,S.ptr 0 6),(6,bb u11),(38,bb u12),(22,ii v1),(14,u13),(30,u14),(1,S.ptr 0 0),(33,bb u15),(17,S.ptr 0 2),(9,ii a.bt),(41,u25),(25,ii v2),(5,S.sl 4 1),(37,u16),(21,S.t (T.rows 4 a.cg.n fun i=>eL (a.cg.get i))),(13,u17),(29,bb u18),(3,S.ptr 0 0),(35,u19),(19,ii v3),(11,bb u20),(43,bb v5),(27,ii a.dB),(7,ii v4),(39,bb u26),(23,S.ptr 0 5),(15,bb u21),(31,u22)] 57 [(0,B.box (List.map S.t (jd a))),(4,B.fO false 1 1 [ss a.af])])
abbrev T61_4:Type:=Int→Int→Int→Int→Int→Bool→S→S→S→S→Bool→Bool→S→Bool→Bool→S→S→Bool→S→S→S→Bool→S→Bool→Bool→Bool→Bool→S→Bool→S→S→S→OS
def RC (a:fU) (kk:PK S):T61_4:=fun v0 v1 v2 v3 v4 v5 u6 u7 u8 u9 u10 u11 u12 u13 u14 u15 u16 u17 u18 u19 u20 u21 u22 u23 u24 u25 u26 u27 u28 u29 u30 u31=> kk 1 47 2 (aJ [(0,ag (jd a)),(32,u6),(16,ii v0),(48,bb v5),(8,S.ptr 0 1),(40,u7),(24,S.t (T.rows 2 a.bW.n fun i=>dv (a.bW.get i))),(4,ss a.af),(36,u8),(20,S.ptr 0 4),(12,u9),(44,bb u28),(28,bb u10),(2,ii 0),(34,bb u11),(18,S.agg [ii a.cY,ii a.c_]),(10,bb (cT a.bt 0)),(42,u12),(26,S.ptr 0 6),(6,bb u13),(38,bb u14),(22,ii v1),(14,u15),(46,u29),(30,u16),(1,S.ptr 0 0),(33,bb u17),(17,S.ptr 0 2),(9,ii a.bt),(41,u18),(25,ii v2),(5,S.sl 4 1),(37,u19),(21,S.t (T.rows 4 a.cg.n fun i=>eL (a.cg.get i))),(13,u20),(45,u30),(29,bb u21),(3,S.ptr 0 0),(35,u22),(19,ii v3),(11,bb u23),(43,bb u24),(27,ii a.dB),(7,ii v4),(39,bb u25),(23,S.ptr 0 5),(15,bb u26),(47,u31),(31,u27)] 57 [(0,B.box (List.map S.t (jd a))),(4,B.fO false 1 1 [ss a.af])])
abbrev T61_5:Type:=Int→Int→Int→Int→Int→Bool→S→Bool→S→S→S→Bool→Bool→Bool→S→Bool→Bool→S→S→S→Bool→S→S→S→S→Bool→S→Bool→Bool→Bool→Bool→S→S→S→S→Bool→S→OS
def Th (a:fU) (kk:PK S):T61_5:=fun v0 v1 v2 v3 v4 v5 u6 u7 u8 u9 u10 u11 u12 u13 u14 u15 u16 u17 u18 u19 u20 u21 u22 u23 u24 u25 u26 u27 u28 u29 u30 u31 u32 u33 u34 u35 u36=> kk 1 52 2 (aJ [(0,ag (jd a)),(32,u6),(16,ii v0),(48,bb u7),(8,S.ptr 0 1),(40,u8),(24,S.t (T.rows 2 a.bW.n fun i=>dv (a.bW.get i))),(4,ss a.af),(36,u9),(20,S.ptr 0 4),(52,u33),(12,u10),(44,bb u11),(28,bb u12),(2,ii 0),(34,bb u13),(18,S.agg [ii a.cY,ii a.c_]),(50,u34),(10,bb (cT a.bt 0)),(42,u14),(26,S.ptr 0 6),(6,bb u15),(38,bb u16),(22,ii v1),(14,u17),(46,u18),(30,u19),(1,S.ptr 0 0),(33,bb u20),(17,S.ptr 0 2),(49,bb u35),(9,ii a.bt),(41,u21),(25,ii v2),(5,S.sl 4 1),(37,u22),(21,S.t (T.rows 4 a.cg.n fun i=>eL (a.cg.get i))),(53,bb v5),(13,u23),(45,u24),(29,bb u25),(3,S.ptr 0 0),(35,u26),(19,ii v3),(51,u36),(11,bb u27),(43,bb u28),(27,ii a.dB),(7,ii v4),(39,bb u29),(23,S.ptr 0 5),(15,bb u30),(47,u31),(31,u32)] 57 [(0,B.box (List.map S.t (jd a))),(4,B.fO false 1 1 [ss a.af])])
def TC (q:YF) (a:fU) (k1:T61_1):T61_0:=fun v0 v1 u2 u3 u4 u5 u6=>yC q 108 [bb v1,ii 1] fun y=>yC q 102 [S.agg [ii a.cY,ii a.c_]] fun y_1=>yC q 110 [S.t (T.rows 4 a.cg.n fun i=>eL (a.cg.get i))] fun y_2=>yC q 111 [S.t (T.rows 2 a.bW.n fun i=>dv (a.bW.get i))] fun y_3=>yC q 112 [ii a.dB,ii 0,ii 1099511627776] fun y_4=>bif y_4.b 0 then yC q 112 [ii a.iM,ii 0,ii 1073741824] fun y_5=>k1 (y.i 0) (y_2.i 0) (y_3.i 0) (y_1.i 0) v0 (y_5.b 0) u3 (y_4.b 0) u2 u4 u5 u6 v1 (bb (y_5.b 0)) (S.ptr 0 7) true (ii a.iM) else k1 (y.i 0) (y_2.i 0) (y_3.i 0) (y_1.i 0) v0 false u3 (y_4.b 0) u2 u4 u5 u6 v1 S.ud S.ud false S.ud
def Yr (q:YF) (a:fU) (k2:T61_2):T61_1:=fun v0 v1 v2 v3 v4 v5 u6 u7 u8 u9 u10 u11 u12 u13 u14 u15 u16=>bif v5 then k2 v0 v1 v2 v3 v4 (cT a.cC 0) u13 u6 u7 u8 u9 u14 v5 u10 u15 u11 u12 u16 (ii a.cC) true (bb (cT a.cC 0)) (S.ptr 0 8) else k2 v0 v1 v2 v3 v4 false u13 u6 u7 u8 u9 u14 v5 u10 u15 u11 u12 u16 S.ud false S.ud S.ud
def XV (q:YF) (a:fU) (k3:T61_3):T61_2:=fun v0 v1 v2 v3 v4 v5 u6 u7 u8 u9 u10 u11 u12 u13 u14 u15 u16 u17 u18 u19 u20 u21=>bif v5 then k3 v0 v1 v2 v3 v4 (bp a.cC 16) u6 u18 u7 u8 u19 u9 v5 u10 u11 u12 u20 u13 u14 u21 u15 u16 u17 (S.ptr 0 8) (bb (bp a.cC 16)) (ii a.cC) true else k3 v0 v1 v2 v3 v4 false u6 u18 u7 u8 u19 u9 v5 u10 u11 u12 u20 u13 u14 u21 u15 u16 u17 S.ud S.ud S.ud false
def X0 (q:YF) (a:fU) (k4:T61_4):T61_3:=fun v0 v1 v2 v3 v4 v5 u6 u7 u8 u9 u10 u11 u12 u13 u14 u15 u16 u17 u18 u19 u20 u21 u22 u23 u24 u25 u26=>bif v5 then k4 v0 v1 v2 v3 v4 (cT a.cH 0) u6 u23 u7 u8 u9 u10 u24 u11 u12 u13 u14 u15 u25 u16 u17 u18 u19 u20 v5 u26 u21 u22 true (ii a.cH) (S.ptr 0 9) (bb (cT a.cH 0)) else k4 v0 v1 v2 v3 v4 false u6 u23 u7 u8 u9 u10 u24 u11 u12 u13 u14 u15 u25 u16 u17 u18 u19 u20 v5 u26 u21 u22 false S.ud S.ud S.ud
def XK (q:YF) (a:fU) (k5:T61_5):T61_4:=fun v0 v1 v2 v3 v4 v5 u6 u7 u8 u9 u10 u11 u12 u13 u14 u15 u16 u17 u18 u19 u20 u21 u22 u23 u24 u25 u26 u27 u28 u29 u30 u31=>bif v5 then k5 v0 v1 v2 v3 v4 (bp a.cH 2) u6 v5 u7 u8 u9 u28 u10 u11 u12 u13 u14 u15 u29 u16 u17 u18 u19 u20 u30 u21 u22 u23 u24 u25 u26 u31 u27 (bb (bp a.cH 2)) (S.ptr 0 9) true (ii a.cH) else k5 v0 v1 v2 v3 v4 false u6 v5 u7 u8 u9 u28 u10 u11 u12 u13 u14 u15 u29 u16 u17 u18 u19 u20 u30 u21 u22 u23 u24 u25 u26 u31 u27 S.ud S.ud false S.ud
def SX (q:YF) (a:fU):T61_5:=fun v0 v1 v2 v3 v4 v5 u6 u7 u8 u9 u10 u11 u12 u13 u14 u15 u16 u17 u18 u19 u20 u21 u22 u23 u24 u25 u26 u27 u28 u29 u30 u31 u32 u33 u34 u35 u36=>yC q 108 [bb v5,ii 1] fun y=>yC q 107 [S.t (T.rows 1 6 fun i=>List.take 1 (List.drop (↑i*1) [ti v4,ti v0,ti v3,ti v1,ti v2,ti (y.i 0)]))] fun y=>some (ii (y.i 0))
def xX (q:YF) (a:fU) (k0:T61_0):OS:=yC q 109 [S.t (T.rows 1 1 fun i=>List.take 1 (List.drop (↑i*1) [ts a.af]))] fun y=>yC q 108 [bb (y.b 0),ii 7] fun y_1=>bif cT a.bt 0 then k0 (y_1.i 0) (bp a.bt 100) (y.b 0) (S.ptr 0 1) (bb (bp a.bt 100)) (ii a.bt) true else k0 (y_1.i 0) false (y.b 0) S.ud S.ud S.ud false
structure X61 where
 x0:Int→Bool→OS
 x1:Int→Int→Int→Int→Int→Bool→OS
 x2:Int→Int→Int→Int→Int→Bool→OS
 x3:Int→Int→Int→Int→Int→Bool→OS
 x4:Int→Int→Int→Int→Int→Bool→OS
 x5:Int→Int→Int→Int→Int→Bool→OS
def Jz (X:X61):T61_0:=fun v0 v1 _ _ _ _ _=>X.x0 v0 v1
def O4 (X:X61):T61_1:=fun v0 v1 v2 v3 v4 v5 _ _ _ _ _ _ _ _ _ _ _=>X.x1 v0 v1 v2 v3 v4 v5
def Yl (X:X61):T61_2:=fun v0 v1 v2 v3 v4 v5 _ _ _ _ _ _ _ _ _ _ _ _ _ _ _ _=>X.x2 v0 v1 v2 v3 v4 v5
def Yh (X:X61):T61_3:=fun v0 v1 v2 v3 v4 v5 _ _ _ _ _ _ _ _ _ _ _ _ _ _ _ _ _ _ _ _ _=>X.x3 v0 v1 v2 v3 v4 v5
def XJ (X:X61):T61_4:=fun v0 v1 v2 v3 v4 v5 _ _ _ _ _ _ _ _ _ _ _ _ _ _ _ _ _ _ _ _ _ _ _ _ _ _=>X.x4 v0 v1 v2 v3 v4 v5
def Xy (X:X61):T61_5:=fun v0 v1 v2 v3 v4 v5 _ _ _ _ _ _ _ _ _ _ _ _ _ _ _ _ _ _ _ _ _ _ _ _ _ _ _ _ _ _ _=>X.x5 v0 v1 v2 v3 v4 v5
def Y1 (q:YF) (a:fU) (X:X61):X61:=⟨fun v0 v1=>TC q a (O4 X) v0 v1 dd dd dd dd dd,
 fun v0 v1 v2 v3 v4 v5=>Yr q a (Yl X) v0 v1 v2 v3 v4 v5 dd dd dd dd dd dd dd dd dd dd dd,
 fun v0 v1 v2 v3 v4 v5=>XV q a (Yh X) v0 v1 v2 v3 v4 v5 dd dd dd dd dd dd dd dd dd dd dd dd dd dd dd dd,
 fun v0 v1 v2 v3 v4 v5=>X0 q a (XJ X) v0 v1 v2 v3 v4 v5 dd dd dd dd dd dd dd dd dd dd dd dd dd dd dd dd dd dd dd dd dd,
 fun v0 v1 v2 v3 v4 v5=>XK q a (Xy X) v0 v1 v2 v3 v4 v5 dd dd dd dd dd dd dd dd dd dd dd dd dd dd dd dd dd dd dd dd dd dd dd dd dd dd,
 fun v0 v1 v2 v3 v4 v5=>SX q a v0 v1 v2 v3 v4 v5 dd dd dd dd dd dd dd dd dd dd dd dd dd dd dd dd dd dd dd dd dd dd dd dd dd dd dd dd dd dd dd⟩
def iw (q:YF) (a:fU):Nat→X61
 | 0=>⟨fun _ _=>none,fun _ _ _ _ _ _=>none,fun _ _ _ _ _ _=>none,fun _ _ _ _ _ _=>none,fun _ _ _ _ _ _=>none,fun _ _ _ _ _ _=>none⟩
 | n+1=>Y1 q a (iw q a n)
theorem aeo (q:YF) (a:fU) (kk:PK S):Tv a (P61 q kk)=TC q a (Qa a kk):=by
 kernel_rfl
theorem afT (q:YF) (a:fU) (kk:PK S):Qa a (P61 q kk)=Yr q a (QJ a kk):=by
 kernel_rfl
theorem afc (q:YF) (a:fU) (kk:PK S):QJ a (P61 q kk)=XV q a (RP a kk):=by
 kernel_rfl
theorem ahH (q:YF) (a:fU) (kk:PK S):RP a (P61 q kk)=X0 q a (RC a kk):=by
 kernel_rfl
theorem adX (q:YF) (a:fU) (kk:PK S):RC a (P61 q kk)=XK q a (Th a kk):=by
 kernel_rfl
theorem aeJ (q:YF) (a:fU) (kk:PK S):Th a (P61 q kk)=SX q a:=by
 kernel_rfl
theorem acL (q:YF) (a:fU) (kk:PK S):BG q kk 61 Tryz.f61 [ag (jd a)]=xX q a (Tv a kk):=by
 kernel_rfl
theorem h61 (q:YF) (a:fU):∀ n,Tv a (Mf q n)=Jz (iw q a n)∧Qa a (Mf q n)=O4 (iw q a n)∧QJ a (Mf q n)=Yl (iw q a n)∧RP a (Mf q n)=Yh (iw q a n)∧RC a (Mf q n)=XJ (iw q a n)∧Th a (Mf q n)=Xy (iw q a n)
 | 0=>⟨rfl,rfl,rfl,rfl,rfl,rfl⟩
 | n+1=>by
  obtain ⟨h0,h1,h2,h3,h4,h5⟩:=h61 q a n
  exact ⟨(aeo q a (Mf q n)).trans (by rw [h1];kernel_rfl),(afT q a (Mf q n)).trans (by rw [h2];kernel_rfl),(afc q a (Mf q n)).trans (by rw [h3];kernel_rfl),(ahH q a (Mf q n)).trans (by rw [h4];kernel_rfl),(adX q a (Mf q n)).trans (by rw [h5];kernel_rfl),(aeJ q a (Mf q n)).trans (by kernel_rfl)⟩
theorem W61 (a:fU) (n:Nat) (x:S) (h:xX (aa O) a (Jz (iw (aa O) a n))=some x):(W O).aE 61 [ag (jd a)]=some x:=by
 refine WG (fn:=Tryz.f61) (by kernel_rfl) (by kernel_rfl) (n:=n) ?_
 refine (acL (aa O) a (Mf (aa O) n)).trans ?_
 obtain ⟨h0,h1,h2,h3,h4,h5⟩:=h61 (aa O) a n
 rw [h0]
 exact h
abbrev P62 (q:YF) (kk:PK S):PK S:=PG q 62 Tryz.f62 kk
abbrev H62 (q:YF):Nat→PK S:=HG q 62 Tryz.f62
abbrev T62_0:Type:=Int→Int→Int→Int→Bool→Bool→S→S→S→Bool→OS
def Q1 (a:cQ) (kk:PK S):T62_0:=fun v0 v1 v2 v3 v4 u5 u6 u7 u8 u9=> kk 1 34 2 (aJ [(0,ag (dp a)),(32,u6),(16,S.sl 15 5),(8,S.ptr 0 3),(24,ii v0),(4,ss a.af),(20,ii a.bG),(12,ss a.aj),(28,S.ptr 0 10),(2,ii 0),(34,u7),(18,ii v1),(10,S.ptr 0 3),(26,S.t (T.rows 3 a.bh.n fun i=>bS (a.bh.get i))),(6,ss a.bc),(22,S.ptr 0 7),(14,S.ptr 0 5),(30,bb (cT a.dQ 1)),(1,S.ptr 0 0),(33,u8),(17,bb u5),(9,ss a.al),(25,S.ptr 0 9),(5,S.ptr 0 1),(21,ii v2),(13,S.ptr 0 3),(29,ii a.dQ),(3,S.ptr 0 0),(35,bb v4),(19,S.ptr 0 6),(11,S.ptr 0 4),(27,ii v3),(7,S.ptr 0 3),(23,S.agg [ii a.a6,ii a.a8]),(15,ss a.ak),(31,bb u9)] 63 [(0,B.box (List.map S.t (dp a))),(15,B.fO false 1 5 [ss a.af,ss a.bc,ss a.al,ss a.aj,ss a.ak])])
abbrev T62_1:Type:=Int→Int→Int→Int→Int→Int→Bool→S→S→S→Bool→Bool→Bool→S→S→Bool→S→OS
def Ot (a:cQ) (kk:PK S):T62_1:=fun v0 v1 v2 v3 v4 v5 v6 u7 u8 u9 u10 u11 u12 u13 u14 u15 u16=> kk 1 48 2 (aJ [(0,ag (dp a)),(32,u7),(16,S.sl 15 5),(48,u13),(8,S.ptr 0 3),(40,bb (bp (cI a.eG) 16)),(24,ii v0),(4,ss a.af),(36,ii v1),(20,ii a.bG),(12,ss a.aj),(44,bb (cT a.bM 1)),(28,S.ptr 0 10),(2,ii 0),(34,u8),(18,ii v2),(10,S.ptr 0 3),(42,S.ptr 0 12),(26,S.t (T.rows 3 a.bh.n fun i=>bS (a.bh.get i))),(6,ss a.bc),(38,ss a.eG),(22,S.ptr 0 7),(14,S.ptr 0 5),(46,u14),(30,bb (cT a.dQ 1)),(1,S.ptr 0 0),(33,u9),(17,bb u10),(49,bb v6),(9,ss a.al),(41,ii v3),(25,S.ptr 0 9),(5,S.ptr 0 1),(37,S.ptr 0 11),(21,ii v4),(13,S.ptr 0 3),(45,bb u15),(29,ii a.dQ),(3,S.ptr 0 0),(35,bb u11),(19,S.ptr 0 6),(11,S.ptr 0 4),(43,ii a.bM),(27,ii v5),(7,S.ptr 0 3),(39,ii (cI a.eG)),(23,S.agg [ii a.a6,ii a.a8]),(15,ss a.ak),(47,u16),(31,bb u12)] 63 [(0,B.box (List.map S.t (dp a))),(15,B.fO false 1 5 [ss a.af,ss a.bc,ss a.al,ss a.aj,ss a.ak])])
abbrev T62_2:Type:=Int→Int→Int→Int→Int→Int→Bool→S→S→S→S→S→Bool→Bool→Bool→Bool→S→Bool→S→Bool→S→S→OS
def T4 (a:cQ) (kk:PK S):T62_2:=fun v0 v1 v2 v3 v4 v5 v6 u7 u8 u9 u10 u11 u12 u13 u14 u15 u16 u17 u18 u19 u20 u21=> kk 1 53 2 (aJ [(0,ag (dp a)),(32,u7),(16,S.sl 15 5),(48,u8),(8,S.ptr 0 3),(40,bb (bp (cI a.eG) 16)),(24,ii v0),(4,ss a.af),(36,ii v1),(20,ii a.bG),(52,u18),(12,ss a.aj),(44,bb (cT a.bM 1)),(28,S.ptr 0 10),(2,ii 0),(34,u9),(18,ii v2),(50,bb u19),(10,S.ptr 0 3),(42,S.ptr 0 12),(26,S.t (T.rows 3 a.bh.n fun i=>bS (a.bh.get i))),(6,ss a.bc),(38,ss a.eG),(22,S.ptr 0 7),(54,bb v6),(14,S.ptr 0 5),(46,u10),(30,bb (cT a.dQ 1)),(1,S.ptr 0 0),(33,u11),(17,bb u12),(49,bb u13),(9,ss a.al),(41,ii v3),(25,S.ptr 0 9),(5,S.ptr 0 1),(37,S.ptr 0 11),(21,ii v4),(53,u20),(13,S.ptr 0 3),(45,bb u14),(29,ii a.dQ),(3,S.ptr 0 0),(35,bb u15),(19,S.ptr 0 6),(51,u21),(11,S.ptr 0 4),(43,ii a.bM),(27,ii v5),(7,S.ptr 0 3),(39,ii (cI a.eG)),(23,S.agg [ii a.a6,ii a.a8]),(15,ss a.ak),(47,u16),(31,bb u17)] 63 [(0,B.box (List.map S.t (dp a))),(15,B.fO false 1 5 [ss a.af,ss a.bc,ss a.al,ss a.aj,ss a.ak])])
abbrev T62_3:Type:=Int→Int→Int→Int→Int→Int→Bool→S→S→S→S→Bool→Bool→S→S→Bool→Bool→S→Bool→Bool→S→S→Bool→S→S→S→Bool→OS
def SN (a:cQ) (kk:PK S):T62_3:=fun v0 v1 v2 v3 v4 v5 v6 u7 u8 u9 u10 u11 u12 u13 u14 u15 u16 u17 u18 u19 u20 u21 u22 u23 u24 u25 u26=> kk 1 58 2 (aJ [(0,ag (dp a)),(32,u7),(16,S.sl 15 5),(48,u8),(8,S.ptr 0 3),(40,bb (bp (cI a.eG) 16)),(24,ii v0),(56,u23),(4,ss a.af),(36,ii v1),(20,ii a.bG),(52,u9),(12,ss a.aj),(44,bb (cT a.bM 1)),(28,S.ptr 0 10),(2,ii 0),(34,u10),(18,ii v2),(50,bb u11),(10,S.ptr 0 3),(42,S.ptr 0 12),(26,S.t (T.rows 3 a.bh.n fun i=>bS (a.bh.get i))),(58,u24),(6,ss a.bc),(38,ss a.eG),(22,S.ptr 0 7),(54,bb u12),(14,S.ptr 0 5),(46,u13),(30,bb (cT a.dQ 1)),(1,S.ptr 0 0),(33,u14),(17,bb u15),(49,bb u16),(9,ss a.al),(41,ii v3),(25,S.ptr 0 9),(57,u25),(5,S.ptr 0 1),(37,S.ptr 0 11),(21,ii v4),(53,u17),(13,S.ptr 0 3),(45,bb u18),(29,ii a.dQ),(3,S.ptr 0 0),(35,bb u19),(19,S.ptr 0 6),(51,u20),(11,S.ptr 0 4),(43,ii a.bM),(27,ii v5),(59,bb v6),(7,S.ptr 0 3),(39,ii (cI a.eG)),(23,S.agg [ii a.a6,ii a.a8]),(55,bb u26),(15,ss a.ak),(47,u21),(31,bb u22)] 63 [(0,B.box (List.map S.t (dp a))),(15,B.fO false 1 5 [ss a.af,ss a.bc,ss a.al,ss a.aj,ss a.ak])])
def Qu (q:YF) (a:cQ) (k1:T62_1):T62_0:=fun v0 v1 v2 v3 v4 u5 u6 u7 u8 u9=>yC q 108 [bb v4,ii 1] fun y=>yC q 108 [bb (bp (cI a.eG) 16),ii 2] fun y_1=>bif cT a.bM 1 then k1 v0 (y.i 0) v1 (y_1.i 0) v2 v3 (bp a.bM 4) u6 u7 u8 u5 v4 u9 (bb (bp a.bM 4)) (S.ptr 0 12) true (ii a.bM) else k1 v0 (y.i 0) v1 (y_1.i 0) v2 v3 false u6 u7 u8 u5 v4 u9 S.ud S.ud false S.ud
def RB (q:YF) (a:cQ) (k2:T62_2):T62_1:=fun v0 v1 v2 v3 v4 v5 v6 u7 u8 u9 u10 u11 u12 u13 u14 u15 u16=>bif v6 then yC q 112 [ii a.dB,ii 0,ii 1099511627776] fun y=>k2 v0 v1 v2 v3 v4 v5 (y.b 0) u7 u13 u8 u14 u9 u10 v6 u15 u11 u16 u12 (ii a.dB) true (bb (y.b 0)) (S.ptr 0 2) else k2 v0 v1 v2 v3 v4 v5 false u7 u13 u8 u14 u9 u10 v6 u15 u11 u16 u12 S.ud false S.ud S.ud
def NA (q:YF) (a:cQ) (k3:T62_3):T62_2:=fun v0 v1 v2 v3 v4 v5 v6 u7 u8 u9 u10 u11 u12 u13 u14 u15 u16 u17 u18 u19 u20 u21=>bif v6 then yC q 112 [ii a.dD,ii 0,ii 1099511627776] fun y=>k3 v0 v1 v2 v3 v4 v5 (y.b 0) u7 u8 u18 u9 u19 v6 u10 u11 u12 u13 u20 u14 u15 u21 u16 u17 (S.ptr 0 13) (bb (y.b 0)) (ii a.dD) true else k3 v0 v1 v2 v3 v4 v5 false u7 u8 u18 u9 u19 v6 u10 u11 u12 u13 u20 u14 u15 u21 u16 u17 S.ud S.ud S.ud false
def Og (q:YF) (a:cQ):T62_3:=fun v0 v1 v2 v3 v4 v5 v6 u7 u8 u9 u10 u11 u12 u13 u14 u15 u16 u17 u18 u19 u20 u21 u22 u23 u24 u25 u26=>yC q 108 [bb v6,ii 1] fun y=>yC q 107 [S.t (T.rows 1 7 fun i=>List.take 1 (List.drop (↑i*1) [ti v2,ti v4,ti v0,ti v5,ti v1,ti v3,ti (y.i 0)]))] fun y=>some (ii (y.i 0))
def xL (q:YF) (a:cQ) (k0:T62_0):OS:=yC q 109 [S.t (T.rows 1 5 fun i=>List.take 1 (List.drop (↑i*1) [ts a.af,ts a.bc,ts a.al,ts a.aj,ts a.ak]))] fun y=>yC q 108 [bb (y.b 0),ii 7] fun y_1=>yC q 113 [ii a.bG] fun y_2=>yC q 102 [S.agg [ii a.a6,ii a.a8]] fun y_3=>yC q 114 [S.t (T.rows 3 a.bh.n fun i=>bS (a.bh.get i))] fun y_4=>bif cT a.dQ 1 then k0 (y_3.i 0) (y_1.i 0) (y_2.i 0) (y_4.i 0) (bp a.dQ 32) (y.b 0) (S.ptr 0 10) (bb (bp a.dQ 32)) (ii a.dQ) true else k0 (y_3.i 0) (y_1.i 0) (y_2.i 0) (y_4.i 0) false (y.b 0) S.ud S.ud S.ud false
structure X62 where
 x0:Int→Int→Int→Int→Bool→OS
 x1:Int→Int→Int→Int→Int→Int→Bool→OS
 x2:Int→Int→Int→Int→Int→Int→Bool→OS
 x3:Int→Int→Int→Int→Int→Int→Bool→OS
def Kr (X:X62):T62_0:=fun v0 v1 v2 v3 v4 _ _ _ _ _=>X.x0 v0 v1 v2 v3 v4
def Qt (X:X62):T62_1:=fun v0 v1 v2 v3 v4 v5 v6 _ _ _ _ _ _ _ _ _ _=>X.x1 v0 v1 v2 v3 v4 v5 v6
def R7 (X:X62):T62_2:=fun v0 v1 v2 v3 v4 v5 v6 _ _ _ _ _ _ _ _ _ _ _ _ _ _ _=>X.x2 v0 v1 v2 v3 v4 v5 v6
def PW (X:X62):T62_3:=fun v0 v1 v2 v3 v4 v5 v6 _ _ _ _ _ _ _ _ _ _ _ _ _ _ _ _ _ _ _ _=>X.x3 v0 v1 v2 v3 v4 v5 v6
def TN (q:YF) (a:cQ) (X:X62):X62:=⟨fun v0 v1 v2 v3 v4=>Qu q a (Qt X) v0 v1 v2 v3 v4 dd dd dd dd dd,
 fun v0 v1 v2 v3 v4 v5 v6=>RB q a (R7 X) v0 v1 v2 v3 v4 v5 v6 dd dd dd dd dd dd dd dd dd dd,
 fun v0 v1 v2 v3 v4 v5 v6=>NA q a (PW X) v0 v1 v2 v3 v4 v5 v6 dd dd dd dd dd dd dd dd dd dd dd dd dd dd dd,
 fun v0 v1 v2 v3 v4 v5 v6=>Og q a v0 v1 v2 v3 v4 v5 v6 dd dd dd dd dd dd dd dd dd dd dd dd dd dd dd dd dd dd dd dd⟩
def lb (q:YF) (a:cQ):Nat→X62
 | 0=>⟨fun _ _ _ _ _=>none,fun _ _ _ _ _ _ _=>none,fun _ _ _ _ _ _ _=>none,fun _ _ _ _ _ _ _=>none⟩
 | n+1=>TN q a (lb q a n)
theorem adV (q:YF) (a:cQ) (kk:PK S):Q1 a (P62 q kk)=Qu q a (Ot a kk):=by
 kernel_rfl
theorem ahl (q:YF) (a:cQ) (kk:PK S):Ot a (P62 q kk)=RB q a (T4 a kk):=by
 kernel_rfl
theorem ae3 (q:YF) (a:cQ) (kk:PK S):T4 a (P62 q kk)=NA q a (SN a kk):=by
 kernel_rfl
theorem aec (q:YF) (a:cQ) (kk:PK S):SN a (P62 q kk)=Og q a:=by
 kernel_rfl
theorem acz (q:YF) (a:cQ) (kk:PK S):BG q kk 62 Tryz.f62 [ag (dp a)]=xL q a (Q1 a kk):=by
 kernel_rfl
theorem h62 (q:YF) (a:cQ):∀ n,Q1 a (H62 q n)=Kr (lb q a n)∧Ot a (H62 q n)=Qt (lb q a n)∧T4 a (H62 q n)=R7 (lb q a n)∧SN a (H62 q n)=PW (lb q a n)
 | 0=>⟨rfl,rfl,rfl,rfl⟩
 | n+1=>by
  obtain ⟨h0,h1,h2,h3⟩:=h62 q a n
  exact ⟨(adV q a (H62 q n)).trans (by rw [h1];kernel_rfl),(ahl q a (H62 q n)).trans (by rw [h2];kernel_rfl),(ae3 q a (H62 q n)).trans (by rw [h3];kernel_rfl),(aec q a (H62 q n)).trans (by kernel_rfl)⟩
theorem W62 (a:cQ) (n:Nat) (x:S) (h:xL (aa O) a (Kr (lb (aa O) a n))=some x):(W O).aE 62 [ag (dp a)]=some x:=by
 refine WG (fn:=Tryz.f62) (by kernel_rfl) (by kernel_rfl) (n:=n) ?_
 refine (acz (aa O) a (H62 (aa O) n)).trans ?_
 obtain ⟨h0,h1,h2,h3⟩:=h62 (aa O) a n
 rw [h0]
 exact h
abbrev H63 (q:YF):Nat→PK S:=HG q 63 Tryz.f63
def GF (q:YF) (a:Rw aV) (b:bu):OS:=yC q 83 [S.t (T.rows 7 a.n fun i=>bk (a.get i))] fun y=>lookW O.P O.K 47 141 (y.m 0) (ag (bS b)) (fun y=>yC q 115 [S.agg [ii (y.i 1),ii (y.i 2)],S.agg [ii (y.i 3),ii (y.i 4)]] fun y=>some (S.bJ [S.agg [ii (y.i 0),ii (y.i 1)],bb true])) (yC q 115 [S.agg [ii 0,ii 0],S.agg [ii 0,ii 0]] fun y=>some (S.bJ [S.agg [ii (y.i 0),ii (y.i 1)],bb false]))
theorem Zr (q:YF) (a:Rw aV) (b:bu) (kk:PK S):BG q kk 63 Tryz.f63 [S.t (T.rows 7 a.n fun i=>bk (a.get i)),ag (bS b)]=GF q a b:=by
 kernel_rfl
theorem W63 (a:Rw aV) (b:bu) (n:Nat) (x:S) (h:GF (aa O) a b=some x):(W O).aE 63 [S.t (T.rows 7 a.n fun i=>bk (a.get i)),ag (bS b)]=some x:=by
 refine WG (fn:=Tryz.f63) (by kernel_rfl) (by kernel_rfl) (n:=n) ?_
 refine (Zr (aa O) a b (H63 (aa O) n)).trans ?_
 exact h
abbrev H64 (q:YF):Nat→PK S:=HG q 64 Tryz.f64
def Fx (q:YF) (a:aP) (b:BA):OS:=yC q 116 [S.t (T.rows 10 a.aW.n fun i=>jd (a.aW.get i)),S.fn (Go.Fn.func 117) [] [S.pt [ts b]]] fun y=>some (bb (y.b 0))
theorem YT (q:YF) (a:aP) (b:BA) (kk:PK S):BG q kk 64 Tryz.f64 [ag (bI a),ss b]=Fx q a b:=by
 kernel_rfl
theorem W64 (a:aP) (b:BA) (n:Nat) (x:S) (h:Fx (aa O) a b=some x):(W O).aE 64 [ag (bI a),ss b]=some x:=by
 refine WG (fn:=Tryz.f64) (by kernel_rfl) (by kernel_rfl) (n:=n) ?_
 refine (YT (aa O) a b (H64 (aa O) n)).trans ?_
 exact h
abbrev H65 (q:YF):Nat→PK S:=HG q 65 Tryz.f65
def GP (q:YF) (a:aP) (b:Rw bu):OS:=yC q 118 [S.t (T.rows 3 b.n fun i=>bS (b.get i)),S.fn (Go.Fn.func 119) [] [S.pt (bI a)]] fun y=>some (S.t (T.v (.bool !y.b 0)))
theorem abn (q:YF) (a:aP) (b:Rw bu) (kk:PK S):BG q kk 65 Tryz.f65 [ag (bI a),S.t (T.rows 3 b.n fun i=>bS (b.get i))]=GP q a b:=by
 kernel_rfl
theorem W65 (a:aP) (b:Rw bu) (n:Nat) (x:S) (h:GP (aa O) a b=some x):(W O).aE 65 [ag (bI a),S.t (T.rows 3 b.n fun i=>bS (b.get i))]=some x:=by
 refine WG (fn:=Tryz.f65) (by kernel_rfl) (by kernel_rfl) (n:=n) ?_
 refine (abn (aa O) a b (H65 (aa O) n)).trans ?_
 exact h
abbrev P66 (q:YF) (kk:PK S):PK S:=PG q 66 Tryz.f66 kk
abbrev H66 (q:YF):Nat→PK S:=HG q 66 Tryz.f66
abbrev T66_0:Type:=Int→Int→Bool→Bool→Bool→S→S→S→OS
def TK (a:fB) (kk:PK S):T66_0:=fun v0 v1 v2 u3 u4 u5 u6 u7=> kk 1 19 2 (aJ [(0,ag (jv a)),(16,bb u4),(8,bb u3),(4,ss a.af),(20,bb v2),(12,ii v0),(2,ii 0),(18,u5),(10,S.ptr 0 2),(6,ss a.ef),(14,ii a.iS),(1,S.ptr 0 0),(17,u6),(9,ii v1),(5,S.ptr 0 1),(13,S.ptr 0 4),(3,S.ptr 0 0),(19,u7),(11,S.agg [ii a.dj,ii a.dk]),(7,S.sl 6 2),(15,bb (cT a.iS (Int.negSucc 999)))] 40 [(0,B.box (List.map S.t (jv a))),(6,B.fO false 1 2 [ss a.af,ss a.ef])])
def R8 (q:YF) (a:fB):T66_0:=fun v0 v1 v2 u3 u4 u5 u6 u7=>yC q 108 [bb v2,ii 1] fun y=>yC q 110 [S.t (T.rows 4 a.cg.n fun i=>eL (a.cg.get i))] fun y_1=>yC q 120 [S.t (T.rows 3 a.jN.n fun i=>cZ (a.jN.get i))] fun y_2=>yC q 121 [ag (jv a)] fun y_3=>yC q 112 [ii a.df,ii 0,ii 1099511627776] fun y_4=>yC q 108 [bb (y_4.b 0),ii 1] fun y_5=>yC q 122 [ss a.jI] fun y_6=>yC q 108 [bb (y_6.b 0),ii 7] fun y_7=>yC q 107 [S.t (T.rows 1 8 fun i=>List.take 1 (List.drop (↑i*1) [ti v1,ti v0,ti (y.i 0),ti (y_1.i 0),ti (y_2.i 0),ti (y_3.i 0),ti (y_5.i 0),ti (y_7.i 0)]))] fun y=>some (ii (y.i 0))
def Al (q:YF) (a:fB) (k0:T66_0):OS:=yC q 109 [S.t (T.rows 1 2 fun i=>List.take 1 (List.drop (↑i*1) [ts a.af,ts a.ef]))] fun y=>yC q 108 [bb (y.b 0),ii 7] fun y_1=>yC q 102 [S.agg [ii a.dj,ii a.dk]] fun y_2=>bif cT a.iS (Int.negSucc 999) then k0 (y_2.i 0) (y_1.i 0) (bp a.iS 1000) (y.b 0) true (ii a.iS) (S.ptr 0 4) (bb (bp a.iS 1000)) else k0 (y_2.i 0) (y_1.i 0) false (y.b 0) false S.ud S.ud S.ud
structure X66 where
 x0:Int→Int→Bool→OS
def JR (X:X66):T66_0:=fun v0 v1 v2 _ _ _ _ _=>X.x0 v0 v1 v2
def aeE (q:YF) (a:fB) (X:X66):X66:=⟨fun v0 v1 v2=>R8 q a v0 v1 v2 dd dd dd dd dd⟩
def Di (q:YF) (a:fB):Nat→X66
 | 0=>⟨fun _ _ _=>none⟩
 | n+1=>aeE q a (Di q a n)
theorem adp (q:YF) (a:fB) (kk:PK S):TK a (P66 q kk)=R8 q a:=by
 kernel_rfl
theorem aaz (q:YF) (a:fB) (kk:PK S):BG q kk 66 Tryz.f66 [ag (jv a)]=Al q a (TK a kk):=by
 kernel_rfl
theorem h66 (q:YF) (a:fB):∀ n,TK a (H66 q n)=JR (Di q a n)
 | 0=>rfl
 | n+1=>by
  have h0:=h66 q a n
  exact (adp q a (H66 q n)).trans (by kernel_rfl)
theorem W66 (a:fB) (n:Nat) (x:S) (h:Al (aa O) a (JR (Di (aa O) a n))=some x):(W O).aE 66 [ag (jv a)]=some x:=by
 refine WG (fn:=Tryz.f66) (by kernel_rfl) (by kernel_rfl) (n:=n) ?_
 refine (aaz (aa O) a (H66 (aa O) n)).trans ?_
 have h0:=h66 (aa O) a n
 rw [h0]
 exact h
abbrev H67 (q:YF):Nat→PK S:=HG q 67 Tryz.f67
def Fk (q:YF) (a:aP) (b:BA):OS:=yC q 123 [S.t (T.rows 15 a.ae.n fun i=>dp (a.ae.get i)),S.fn (Go.Fn.func 124) [] [S.pt [ts b]]] fun y=>some (bb (y.b 0))
theorem aa2 (q:YF) (a:aP) (b:BA) (kk:PK S):BG q kk 67 Tryz.f67 [ag (bI a),ss b]=Fk q a b:=by
 kernel_rfl
theorem W67 (a:aP) (b:BA) (n:Nat) (x:S) (h:Fk (aa O) a b=some x):(W O).aE 67 [ag (bI a),ss b]=some x:=by
 refine WG (fn:=Tryz.f67) (by kernel_rfl) (by kernel_rfl) (n:=n) ?_
 refine (aa2 (aa O) a b (H67 (aa O) n)).trans ?_
 exact h
end
end Go.Proofs.YtonkoellfaopiaaGreatDoor.H
