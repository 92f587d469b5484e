import Derived.Test.YtonkoellfaopiaaGreatDoorD9
set_option linter.unusedSimpArgs false
set_option linter.unusedVariables false
set_option linter.unusedSectionVars false
namespace Go.Proofs.YtonkoellfaopiaaGreatDoor.H
open Go
noncomputable section
abbrev P68 (q:YF) (kk:PK S):PK S:=PG q 68 Tryz.f68 kk
abbrev Mp (q:YF):Nat→PK S:=HG q 68 Tryz.f68
abbrev T68_0:Type:=Bool→S→S→Bool→S→OS
def Tg (a:cO) (kk:PK S):T68_0:=fun v0 u1 u2 u3 u4=> kk 1 9 2 (aJ [(0,ag (eN a)),(8,bb (cT a.dI 1)),(12,u1),(2,ii 0),(10,u2),(6,S.ptr 0 0),(1,S.ptr 0 0),(9,bb u3),(13,bb v0),(11,u4),(7,ii a.dI)] 34 [(0,B.box (List.map S.t (eN a)))])
abbrev T68_1:Type:=Bool→S→S→Bool→Bool→S→S→Bool→S→S→OS
def Qp (a:cO) (kk:PK S):T68_1:=fun v0 u1 u2 u3 u4 u5 u6 u7 u8 u9=> kk 1 14 2 (aJ [(0,ag (eN a)),(16,u6),(8,bb (cT a.dI 1)),(12,u1),(2,ii 0),(18,bb v0),(10,u2),(6,S.ptr 0 0),(14,bb u7),(1,S.ptr 0 0),(17,u8),(9,bb u3),(13,bb u4),(11,u5),(7,ii a.dI),(15,u9)] 34 [(0,B.box (List.map S.t (eN a)))])
abbrev T68_2:Type:=Bool→S→S→Bool→S→Bool→S→Bool→Bool→S→S→S→S→S→Bool→OS
def Ry (a:cO) (kk:PK S):T68_2:=fun v0 u1 u2 u3 u4 u5 u6 u7 u8 u9 u10 u11 u12 u13 u14=> kk 1 19 2 (aJ [(0,ag (eN a)),(16,u1),(8,bb (cT a.dI 1)),(20,u11),(12,u2),(2,ii 0),(18,bb u3),(10,u4),(6,S.ptr 0 0),(22,u12),(14,bb u5),(1,S.ptr 0 0),(17,u6),(9,bb u7),(21,u13),(13,bb u8),(19,bb u14),(11,u9),(7,ii a.dI),(23,bb v0),(15,u10)] 34 [(0,B.box (List.map S.t (eN a)))])
def Jr (a:cO) (kk:PK S):Int→Int→OS:=fun v0 v1=> kk 3 0 0 (aJ [(40,ii v1),(38,S.t (T.rows 1 a.aH.n fun i=>[ts (a.aH.get i)])),(1,S.ptr 0 0),(3,ii v0),(39,ii (ay a.aH.n))] 1 [(0,B.box (List.map S.t (eN a)))])
abbrev T68_4:Type:=Int→Int→Bool→Int→Bool→Bool→Bool→S→S→S→OS
def Qy (a:cO) (kk:PK S):T68_4:=fun v0 v1 v2 u3 u4 u5 u6 u7 u8 u9=> kk 9 14 1 (aJ [(80,bb v2),(72,ii v0),(68,ii v1),(76,bb u6),(74,ss a.gA),(70,ii a.dT),(78,u7),(1,S.ptr 0 0),(73,S.ptr 0 4),(69,S.ptr 0 3),(77,u8),(3,ii u3),(75,bb u4),(71,bb u5),(79,u9)] 21 [(0,B.box (List.map S.t (eN a)))])
abbrev T68_5:Type:=Int→Int→Bool→BA→BA→Bool→Bool→BA→Int→Int→BA→BA→S→Int→Int→S→Int→S→Bool→S→Bool→S→Bool→S→S→S→OS
def OA (a:cO) (kk:PK S):T68_5:=fun v0 v1 v2 u3 u4 u5 u6 u7 u8 u9 u10 u11 u12 u13 u14 u15 u16 u17 u18 u19 u20 u21 u22 u23 u24 u25=> kk 7 17 9 (aJ [(48,ss u3),(40,ii v1),(56,u12),(4,ii u13),(52,ii u14),(44,ss u4),(60,u15),(50,bb u5),(42,ii u16),(58,u17),(38,S.t (T.rows 1 a.aH.n fun i=>[ts (a.aH.get i)])),(54,bb u18),(46,bb u6),(62,u19),(1,S.ptr 0 0),(49,S.sl 10 1),(41,bb u20),(57,u21),(5,ss u7),(53,bb u22),(45,ii u8),(61,u23),(3,ii u9),(51,ii v0),(43,S.pt [ts u10]),(59,u24),(39,ii (ay a.aH.n)),(55,u25),(63,bb v2)] 29 [(0,B.box (List.map S.t (eN a))),(10,B.fO false 1 1 [ss u11])])
def XO (q:YF) (a:cO) (k1:T68_1):T68_0:=fun v0 u1 u2 u3 u4=>bif v0 then k1 (cT a.gn 1) u1 u2 u3 v0 u4 (ii a.gn) true (bb (cT a.gn 1)) (S.ptr 0 2) else k1 false u1 u2 u3 v0 u4 S.ud false S.ud S.ud
def XF (q:YF) (a:cO) (k2:T68_2):T68_1:=fun v0 u1 u2 u3 u4 u5 u6 u7 u8 u9=>bif v0 then k2 (bp a.gn 3) u6 u1 v0 u2 u7 u8 u3 u4 u5 u9 (S.ptr 0 2) (bb (bp a.gn 3)) (ii a.gn) true else k2 false u6 u1 v0 u2 u7 u8 u3 u4 u5 u9 S.ud S.ud S.ud false
def SA (q:YF) (a:cO) (k3:Int→Int→OS):T68_2:=fun v0 u1 u2 u3 u4 u5 u6 u7 u8 u9 u10 u11 u12 u13 u14=>yC q 108 [bb v0,ii 1] fun y=>yC q 108 [bb (bp (ay a.aH.n) 4),ii 3] fun y_1=>yC q 108 [bb (bl (ay a.aH.n) 0),ii 1] fun y_2=>yC q 107 [S.t (T.rows 1 3 fun i=>List.take 1 (List.drop (↑i*1) [ti (y.i 0),ti (y_1.i 0),ti (y_2.i 0)]))] fun y=>k3 (y.i 0) 0
def Dp (q:YF) (a:cO) (k4:T68_4) (k5:T68_5) (v0 v1:Int):OS:=bif bm v1 (ay a.aH.n) then aU v1 a.aH.n fun h=>bif !aR v0 0 then some (ii v0) else yC q 109 [S.t (T.rows 1 1 fun i=>List.take 1 (List.drop (↑i*1) [ts (a.aH.get (Fin.mk v1.toNat h))]))] fun y=>yC q 108 [bb (y.b 0),ii 7] fun y_1=>bif aR v1 0 then k5 (y_1.i 0) v1 true (a.aH.get (Fin.mk v1.toNat h)) (a.aH.get (Fin.mk v1.toNat h)) (y.b 0) (!aR v0 0) (a.aH.get (Fin.mk v1.toNat h)) v0 v0 (a.aH.get (Fin.mk v1.toNat h)) (a.aH.get (Fin.mk v1.toNat h)) S.ud v1 v1 S.ud v1 S.ud true S.ud (bm v1 (ay a.aH.n)) S.ud (aR v1 0) S.ud S.ud S.ud else aU (bF .i64 v1 1) a.aH.n fun h_1=>k5 (y_1.i 0) v1 (strLt (a.aH.get (Fin.mk (bF .i64 v1 1).toNat h_1)) (a.aH.get (Fin.mk v1.toNat h))) (a.aH.get (Fin.mk v1.toNat h)) (a.aH.get (Fin.mk v1.toNat h)) (y.b 0) (!aR v0 0) (a.aH.get (Fin.mk v1.toNat h)) v0 v0 (a.aH.get (Fin.mk v1.toNat h)) (a.aH.get (Fin.mk v1.toNat h)) (S.t (T.rows 1 a.aH.n fun i=>[ts (a.aH.get i)])) v1 v1 (ss (a.aH.get (Fin.mk (bF .i64 v1 1).toNat h_1))) v1 (ii (bF .i64 v1 1)) false (bb (strLt (a.aH.get (Fin.mk (bF .i64 v1 1).toNat h_1)) (a.aH.get (Fin.mk v1.toNat h)))) (bm v1 (ay a.aH.n)) (ii v1) (aR v1 0) (ss (a.aH.get (Fin.mk v1.toNat h))) (S.pt [ts (a.aH.get (Fin.mk (bF .i64 v1 1).toNat h_1))]) (S.ptr 0 1) else yC q 112 [ii a.dT,ii 0,ii 1099511627776] fun y=>yC q 108 [bb (y.b 0),ii 1] fun y_1=>yC q 122 [ss a.gA] fun y_2=>bif y_2.b 0 then yC q 122 [ss a.bc] fun y_3=>k4 (y_1.i 0) v0 (y_3.b 0) v0 (y_2.b 0) (y.b 0) true (ss a.bc) (S.ptr 0 5) (bb (y_3.b 0)) else k4 (y_1.i 0) v0 false v0 (y_2.b 0) (y.b 0) false S.ud S.ud S.ud
def SU (q:YF) (a:cO):T68_4:=fun v0 v1 v2 u3 u4 u5 u6 u7 u8 u9=>yC q 108 [bb v2,ii 7] fun y=>yC q 114 [S.t (T.rows 3 a.bh.n fun i=>bS (a.bh.get i))] fun y_1=>yC q 107 [S.t (T.rows 1 4 fun i=>List.take 1 (List.drop (↑i*1) [ti v1,ti v0,ti (y.i 0),ti (y_1.i 0)]))] fun y=>some (ii (y.i 0))
def QO (q:YF) (a:cO) (k3:Int→Int→OS):T68_5:=fun v0 v1 v2 u3 u4 u5 u6 u7 u8 u9 u10 u11 u12 u13 u14 u15 u16 u17 u18 u19 u20 u21 u22 u23 u24 u25=>yC q 108 [bb v2,ii 6] fun y=>yC q 107 [S.t (T.rows 1 2 fun i=>List.take 1 (List.drop (↑i*1) [ti v0,ti (y.i 0)]))] fun y=>k3 (y.i 0) (a7 .i64 v1 1)
def Ay (q:YF) (a:cO) (k0:T68_0):OS:=bif cT a.dI 1 then k0 (bp a.dI 4) (bb (bp a.dI 4)) (S.ptr 0 0) true (ii a.dI) else k0 false S.ud S.ud false S.ud
structure X68 where
 x0:Bool→OS
 x1:Bool→OS
 x2:Bool→OS
 x3:Int→Int→OS
 x4:Int→Int→Bool→OS
 x5:Int→Int→Bool→OS
def Tq (X:X68):T68_0:=fun v0 _ _ _ _=>X.x0 v0
def Yp (X:X68):T68_1:=fun v0 _ _ _ _ _ _ _ _ _=>X.x1 v0
def Yt (X:X68):T68_2:=fun v0 _ _ _ _ _ _ _ _ _ _ _ _ _ _=>X.x2 v0
def Db (X:X68):Int→Int→OS:=fun v0 v1=>X.x3 v0 v1
def QD (X:X68):T68_4:=fun v0 v1 v2 _ _ _ _ _ _ _=>X.x4 v0 v1 v2
def QL (X:X68):T68_5:=fun v0 v1 v2 _ _ _ _ _ _ _ _ _ _ _ _ _ _ _ _ _ _ _ _ _ _ _=>X.x5 v0 v1 v2
def HX (q:YF) (a:cO) (X:X68):X68:=⟨fun v0=>XO q a (Yp X) v0 dd dd dd dd,
 fun v0=>XF q a (Yt X) v0 dd dd dd dd dd dd dd dd dd,
 fun v0=>SA q a (Db X) v0 dd dd dd dd dd dd dd dd dd dd dd dd dd dd,
 fun v0 v1=>Dp q a (QD X) (QL X) v0 v1,
 fun v0 v1 v2=>SU q a v0 v1 v2 dd dd dd dd dd dd dd,
 fun v0 v1 v2=>QO q a (Db X) v0 v1 v2 dd dd dd dd dd dd dd dd dd dd dd dd dd dd dd dd dd dd dd dd dd dd dd⟩
def fg (q:YF) (a:cO):Nat→X68
 | 0=>⟨fun _=>none,fun _=>none,fun _=>none,fun _ _=>none,fun _ _ _=>none,fun _ _ _=>none⟩
 | n+1=>HX q a (fg q a n)
theorem agM (q:YF) (a:cO) (kk:PK S):Tg a (P68 q kk)=XO q a (Qp a kk):=by
 kernel_rfl
theorem ahn (q:YF) (a:cO) (kk:PK S):Qp a (P68 q kk)=XF q a (Ry a kk):=by
 kernel_rfl
theorem agC (q:YF) (a:cO) (kk:PK S):Ry a (P68 q kk)=SA q a (Jr a kk):=by
 kernel_rfl
theorem af4 (q:YF) (a:cO) (kk:PK S):Jr a (P68 q kk)=Dp q a (Qy a kk) (OA a kk):=by
 kernel_rfl
theorem aeU (q:YF) (a:cO) (kk:PK S):Qy a (P68 q kk)=SU q a:=by
 kernel_rfl
theorem afb (q:YF) (a:cO) (kk:PK S):OA a (P68 q kk)=QO q a (Jr a kk):=by
 kernel_rfl
theorem acH (q:YF) (a:cO) (kk:PK S):BG q kk 68 Tryz.f68 [ag (eN a)]=Ay q a (Tg a kk):=by
 kernel_rfl
theorem h68 (q:YF) (a:cO):∀ n,Tg a (Mp q n)=Tq (fg q a n)∧Qp a (Mp q n)=Yp (fg q a n)∧Ry a (Mp q n)=Yt (fg q a n)∧Jr a (Mp q n)=Db (fg q a n)∧Qy a (Mp q n)=QD (fg q a n)∧OA a (Mp q n)=QL (fg q a n)
 | 0=>⟨rfl,rfl,rfl,rfl,rfl,rfl⟩
 | n+1=>by
  obtain ⟨h0,h1,h2,h3,h4,h5⟩:=h68 q a n
  exact ⟨(agM q a (Mp q n)).trans (by rw [h1];kernel_rfl),(ahn q a (Mp q n)).trans (by rw [h2];kernel_rfl),(agC q a (Mp q n)).trans (by rw [h3];kernel_rfl),(af4 q a (Mp q n)).trans (by rw [h4,h5];kernel_rfl),(aeU q a (Mp q n)).trans (by kernel_rfl),(afb q a (Mp q n)).trans (by rw [h3];kernel_rfl)⟩
theorem W68 (a:cO) (n:Nat) (x:S) (h:Ay (aa O) a (Tq (fg (aa O) a n))=some x):(W O).aE 68 [ag (eN a)]=some x:=by
 refine WG (fn:=Tryz.f68) (by kernel_rfl) (by kernel_rfl) (n:=n) ?_
 refine (acH (aa O) a (Mp (aa O) n)).trans ?_
 obtain ⟨h0,h1,h2,h3,h4,h5⟩:=h68 (aa O) a n
 rw [h0]
 exact h
abbrev H69 (q:YF):Nat→PK S:=HG q 69 Tryz.f69
def Ej (q:YF) (a:bu) (b:bu):OS:=yC q 56 [ss a.fType,ss b.fType] fun y=>yC q 56 [ss a.bj,ss b.bj] fun y_1=>yC q 56 [ss a.bn,ss b.bn] fun y_2=>yC q 53 [S.t (T.rows 1 3 fun i=>List.take 1 (List.drop (↑i*1) [ti (y.i 0),ti (y_1.i 0),ti (y_2.i 0)]))] fun y=>some (ii (y.i 0))
theorem Z0 (q:YF) (a:bu) (b:bu) (kk:PK S):BG q kk 69 Tryz.f69 [ag (bS a),ag (bS b)]=Ej q a b:=by
 kernel_rfl
theorem W69 (a:bu) (b:bu) (n:Nat) (x:S) (h:Ej (aa O) a b=some x):(W O).aE 69 [ag (bS a),ag (bS b)]=some x:=by
 refine WG (fn:=Tryz.f69) (by kernel_rfl) (by kernel_rfl) (n:=n) ?_
 refine (Z0 (aa O) a b (H69 (aa O) n)).trans ?_
 exact h
abbrev H70 (q:YF):Nat→PK S:=HG q 70 Tryz.f70
def Fj (q:YF) (a:aV):OS:=yC q 71 [ss a.af] fun y=>bif !y.b 0 then some (ii 7) else yC q 49 [S.agg [ii a.a6,ii a.a8]] fun y=>bif !aR (y.i 0) 0 then some (ii (y.i 0)) else yC q 49 [S.agg [ii a.cx,ii a.cv]] fun y=>bif !aR (y.i 0) 0 then some (ii (y.i 0)) else yC q 125 [S.agg [ii a.cx,ii a.cv],S.agg [ii a.a6,ii a.a8]] fun y=>bif !y.b 0 then some (ii 1) else yC q 126 [S.t (T.rows 2 a.aS.n fun i=>dv (a.aS.get i))] fun y=>bif !aR (y.i 0) 0 then some (ii (y.i 0)) else yC q 127 [S.t (T.rows 4 a.aF.n fun i=>cL (a.aF.get i))] fun y=>some (ii (y.i 0))
theorem aba (q:YF) (a:aV) (kk:PK S):BG q kk 70 Tryz.f70 [ag (bk a)]=Fj q a:=by
 kernel_rfl
theorem W70 (a:aV) (n:Nat) (x:S) (h:Fj (aa O) a=some x):(W O).aE 70 [ag (bk a)]=some x:=by
 refine WG (fn:=Tryz.f70) (by kernel_rfl) (by kernel_rfl) (n:=n) ?_
 refine (aba (aa O) a (H70 (aa O) n)).trans ?_
 exact h
abbrev P71 (q:YF) (kk:PK S):PK S:=PG q 71 Tryz.f71 kk
abbrev MM (q:YF):Nat→PK S:=HG q 71 Tryz.f71
abbrev T71_0:Type:=Bool→Bool→S→S→S→OS
def N2 (a:BA) (kk:PK S):T71_0:=fun v0 u1 u2 u3 u4=> kk 1 9 1 (aJ [(0,ss a),(8,bb u1),(12,bb v0),(2,bb false),(10,u2),(6,ii (cI a)),(9,u3),(5,ss a),(11,u4),(7,bb (bm (cI a) 1))] 19 [])
abbrev T71_1:Type:=Bool→Bool→Bool→S→S→S→S→S→Bool→S→OS
def S2 (a:BA) (kk:PK S):T71_1:=fun v0 u1 u2 u3 u4 u5 u6 u7 u8 u9=> kk 1 14 1 (aJ [(0,ss a),(16,u6),(8,bb u1),(12,bb u2),(2,bb false),(10,u3),(6,ii (cI a)),(14,u7),(17,bb v0),(9,u4),(5,ss a),(13,bb u8),(11,u5),(7,bb (bm (cI a) 1)),(15,u9)] 19 [])
def Lc (a:BA) (kk:PK S):Int→OS:=fun v0=> kk 4 0 0 (aJ [(0,ss a),(3,ii v0)] 0 [])
abbrev T71_3:Type:=Int→Bool→Int→Int→Bool→Int→S→Bool→S→Bool→Int→Int→OS
def Nb (a:BA) (kk:PK S):T71_3:=fun v0 v1 v2 u3 u4 u5 u6 u7 u8 u9 u10 u11=> kk 7 7 8 (aJ [(0,ss a),(32,S.t (T.v (.int .u8 u3))),(24,ss a),(4,S.t (T.v (.int .u8 v0))),(36,u6),(34,bb u7),(26,bb u9),(30,ii u10),(33,bb u4),(25,ii (cI a)),(37,bb v1),(29,ss a),(3,ii v2),(35,u8),(23,ii u11),(31,S.t (T.v (.int .u8 u5)))] 30 [])
abbrev T71_4:Type:=Int→Bool→Int→Int→S→Bool→Bool→Bool→S→Int→S→S→S→Bool→S→S→S→Bool→Int→Int→OS
def Na (a:BA) (kk:PK S):T71_4:=fun v0 v1 v2 u3 u4 u5 u6 u7 u8 u9 u10 u11 u12 u13 u14 u15 u16 u17 u18 u19=> kk 7 15 8 (aJ [(0,ss a),(32,S.t (T.v (.int .u8 u3))),(40,u10),(24,ss a),(4,S.t (T.v (.int .u8 v0))),(36,u4),(44,u11),(34,bb u5),(42,u12),(26,bb u17),(38,bb u13),(30,ii u18),(33,bb u6),(41,u14),(25,ii (cI a)),(37,bb u7),(45,bb v1),(29,ss a),(3,ii v2),(35,u8),(43,u15),(39,u16),(23,ii u19),(31,S.t (T.v (.int .u8 u9)))] 30 [])
abbrev T71_5:Type:=Int→Bool→Int→Int→S→S→S→Bool→S→Bool→Bool→S→Bool→Bool→S→S→S→Int→S→Bool→S→Bool→Int→Int→OS
def Q0 (a:BA) (kk:PK S):T71_5:=fun v0 v1 v2 u3 u4 u5 u6 u7 u8 u9 u10 u11 u12 u13 u14 u15 u16 u17 u18 u19 u20 u21 u22 u23=> kk 7 19 8 (aJ [(0,ss a),(32,S.t (T.v (.int .u8 u3))),(48,u18),(40,u4),(24,ss a),(4,S.t (T.v (.int .u8 v0))),(36,u5),(44,u6),(34,bb u7),(42,u8),(26,bb u21),(38,bb u9),(46,bb u19),(30,ii u22),(33,bb u10),(49,bb v1),(41,u11),(25,ii (cI a)),(37,bb u12),(45,bb u13),(29,ss a),(3,ii v2),(35,u14),(43,u15),(39,u16),(23,ii u23),(47,u20),(31,S.t (T.v (.int .u8 u17)))] 30 [])
def Lz (q:YF) (a:BA) (k1:T71_1):T71_0:=fun v0 u1 u2 u3 u4=>bif v0 then k1 true u1 v0 u2 u3 u4 S.ud S.ud true S.ud else mP 0 a fun c=>k1 (bm c 97) u1 v0 u2 u3 u4 (bb (bm c 97)) (ss a) false (S.t (T.v (.int .u8 c)))
def IN (q:YF) (a:BA) (k2:Int→OS):T71_1:=fun v0 u1 u2 u3 u4 u5 u6 u7 u8 u9=>bif v0 then some (bb false) else mP 0 a fun c=>bif bl c 122 then some (bb false) else k2 0
def K9 (q:YF) (a:BA) (k3:T71_3) (v0:Int):OS:=bif bm v0 (cI a) then mP v0 a fun c=>bif bm c 97 then k3 c true v0 c (bm c 97) c S.ud true S.ud (bm v0 (cI a)) v0 v0 else k3 c (bl c 122) v0 c (bm c 97) c (bb (bl c 122)) false (S.t (T.v (.int .u8 c))) (bm v0 (cI a)) v0 v0 else some (bb true)
def OE (q:YF) (a:BA) (k4:T71_4):T71_3:=fun v0 v1 v2 u3 u4 u5 u6 u7 u8 u9 u10 u11=>bif v1 then bif bm v0 48 then k4 v0 true v2 u3 u6 u7 u4 v1 u8 u5 (bb (bm v0 48)) (bb true) S.ud true (bb true) S.ud (S.t (T.v (.int .u8 v0))) u9 u10 u11 else k4 v0 (bl v0 57) v2 u3 u6 u7 u4 v1 u8 u5 (bb (bm v0 48)) (bb (bl v0 57)) (S.t (T.v (.int .u8 v0))) true (bb false) (bb (bl v0 57)) (S.t (T.v (.int .u8 v0))) u9 u10 u11 else k4 v0 false v2 u3 u6 u7 u4 v1 u8 u5 S.ud S.ud S.ud false S.ud S.ud S.ud u9 u10 u11
def Oe (q:YF) (a:BA) (k5:T71_5):T71_4:=fun v0 v1 v2 u3 u4 u5 u6 u7 u8 u9 u10 u11 u12 u13 u14 u15 u16 u17 u18 u19=>bif v1 then k5 v0 (!aR v0 46) v2 u3 u10 u4 u11 u5 u12 u13 u6 u14 u7 v1 u8 u15 u16 u9 (S.t (T.v (.bool !aR v0 46))) true (S.t (T.v (.int .u8 v0))) u17 u18 u19 else k5 v0 false v2 u3 u10 u4 u11 u5 u12 u13 u6 u14 u7 v1 u8 u15 u16 u9 S.ud false S.ud u17 u18 u19
def P5 (q:YF) (a:BA) (k2:Int→OS):T71_5:=fun v0 v1 v2 u3 u4 u5 u6 u7 u8 u9 u10 u11 u12 u13 u14 u15 u16 u17 u18 u19 u20 u21 u22 u23=>bif v1 then bif !aR v0 45 then some (bb false) else k2 (a7 .i64 v2 1) else k2 (a7 .i64 v2 1)
def Bl (q:YF) (a:BA) (k0:T71_0):OS:=bif bm (cI a) 1 then k0 true true S.ud S.ud S.ud else k0 (bl (cI a) 16) false (ii (cI a)) (ss a) (bb (bl (cI a) 16))
structure X71 where
 x0:Bool→OS
 x1:Bool→OS
 x2:Int→OS
 x3:Int→Bool→Int→OS
 x4:Int→Bool→Int→OS
 x5:Int→Bool→Int→OS
def Ly (X:X71):T71_0:=fun v0 _ _ _ _=>X.x0 v0
def Je (X:X71):T71_1:=fun v0 _ _ _ _ _ _ _ _ _=>X.x1 v0
def DR (X:X71):Int→OS:=fun v0=>X.x2 v0
def Tw (X:X71):T71_3:=fun v0 v1 v2 _ _ _ _ _ _ _ _ _=>X.x3 v0 v1 v2
def NQ (X:X71):T71_4:=fun v0 v1 v2 _ _ _ _ _ _ _ _ _ _ _ _ _ _ _ _ _=>X.x4 v0 v1 v2
def Ua (X:X71):T71_5:=fun v0 v1 v2 _ _ _ _ _ _ _ _ _ _ _ _ _ _ _ _ _ _ _ _ _=>X.x5 v0 v1 v2
def PJ (q:YF) (a:BA) (X:X71):X71:=⟨fun v0=>Lz q a (Je X) v0 dd dd dd dd,
 fun v0=>IN q a (DR X) v0 dd dd dd dd dd dd dd dd dd,
 fun v0=>K9 q a (Tw X) v0,
 fun v0 v1 v2=>OE q a (NQ X) v0 v1 v2 dd dd dd dd dd dd dd dd dd,
 fun v0 v1 v2=>Oe q a (Ua X) v0 v1 v2 dd dd dd dd dd dd dd dd dd dd dd dd dd dd dd dd dd,
 fun v0 v1 v2=>P5 q a (DR X) v0 v1 v2 dd dd dd dd dd dd dd dd dd dd dd dd dd dd dd dd dd dd dd dd dd⟩
def pz (q:YF) (a:BA):Nat→X71
 | 0=>⟨fun _=>none,fun _=>none,fun _=>none,fun _ _ _=>none,fun _ _ _=>none,fun _ _ _=>none⟩
 | n+1=>PJ q a (pz q a n)
theorem ag5 (q:YF) (a:BA) (kk:PK S):N2 a (P71 q kk)=Lz q a (S2 a kk):=by
 kernel_rfl
theorem afm (q:YF) (a:BA) (kk:PK S):S2 a (P71 q kk)=IN q a (Lc a kk):=by
 kernel_rfl
theorem aeM (q:YF) (a:BA) (kk:PK S):Lc a (P71 q kk)=K9 q a (Nb a kk):=by
 kernel_rfl
theorem ade (q:YF) (a:BA) (kk:PK S):Nb a (P71 q kk)=OE q a (Na a kk):=by
 kernel_rfl
theorem ahF (q:YF) (a:BA) (kk:PK S):Na a (P71 q kk)=Oe q a (Q0 a kk):=by
 kernel_rfl
theorem agH (q:YF) (a:BA) (kk:PK S):Q0 a (P71 q kk)=P5 q a (Lc a kk):=by
 kernel_rfl
theorem Zz (q:YF) (a:BA) (kk:PK S):BG q kk 71 Tryz.f71 [ss a]=Bl q a (N2 a kk):=by
 kernel_rfl
theorem h71 (q:YF) (a:BA):∀ n,N2 a (MM q n)=Ly (pz q a n)∧S2 a (MM q n)=Je (pz q a n)∧Lc a (MM q n)=DR (pz q a n)∧Nb a (MM q n)=Tw (pz q a n)∧Na a (MM q n)=NQ (pz q a n)∧Q0 a (MM q n)=Ua (pz q a n)
 | 0=>⟨rfl,rfl,rfl,rfl,rfl,rfl⟩
 | n+1=>by
  obtain ⟨h0,h1,h2,h3,h4,h5⟩:=h71 q a n
  exact ⟨(ag5 q a (MM q n)).trans (by rw [h1];kernel_rfl),(afm q a (MM q n)).trans (by rw [h2];kernel_rfl),(aeM q a (MM q n)).trans (by rw [h3];kernel_rfl),(ade q a (MM q n)).trans (by rw [h4];kernel_rfl),(ahF q a (MM q n)).trans (by rw [h5];kernel_rfl),(agH q a (MM q n)).trans (by rw [h2];kernel_rfl)⟩
theorem W71 (a:BA) (n:Nat) (x:S) (h:Bl (aa O) a (Ly (pz (aa O) a n))=some x):(W O).aE 71 [ss a]=some x:=by
 refine WG (fn:=Tryz.f71) (by kernel_rfl) (by kernel_rfl) (n:=n) ?_
 refine (Zz (aa O) a (MM (aa O) n)).trans ?_
 obtain ⟨h0,h1,h2,h3,h4,h5⟩:=h71 (aa O) a n
 rw [h0]
 exact h
abbrev H72 (q:YF):Nat→PK S:=HG q 72 Tryz.f72
def HT (q:YF) (a:Rw dC):OS:=bif bl (ay a.n) 8 then some (ii 3) else yC q 128 [S.t (T.rows 4 a.n fun i=>eL (a.get i))] fun y=>some (ii (y.i 0))
theorem aaK (q:YF) (a:Rw dC) (kk:PK S):BG q kk 72 Tryz.f72 [S.t (T.rows 4 a.n fun i=>eL (a.get i))]=HT q a:=by
 kernel_rfl
theorem W72 (a:Rw dC) (n:Nat) (x:S) (h:HT (aa O) a=some x):(W O).aE 72 [S.t (T.rows 4 a.n fun i=>eL (a.get i))]=some x:=by
 refine WG (fn:=Tryz.f72) (by kernel_rfl) (by kernel_rfl) (n:=n) ?_
 refine (aaK (aa O) a (H72 (aa O) n)).trans ?_
 exact h
abbrev P73 (q:YF) (kk:PK S):PK S:=PG q 73 Tryz.f73 kk
abbrev H73 (q:YF):Nat→PK S:=HG q 73 Tryz.f73
def Kz (a:Rw ch) (kk:PK S):Int→OS:=fun v0=> kk 4 0 0 (aJ [(0,S.t (T.rows 2 a.n fun i=>dv (a.get i))),(3,ii v0)] 0 [])
def I9 (a:Rw ch) (kk:PK S):Int→Int→OS:=fun v0 v1=> kk 13 0 0 (aJ [(0,S.t (T.rows 2 a.n fun i=>dv (a.get i))),(6,ii v1),(3,ii v0)] 0 [])
def Kh (q:YF) (a:Rw ch) (k1:Int→Int→OS) (v0:Int):OS:=bif bm v0 (ay a.n) then aU v0 a.n fun h=>yC q 71 [ss (a.get (Fin.mk v0.toNat h)).aZ] fun y=>bif !y.b 0 then some (ii 7) else aU v0 a.n fun h=>yC q 129 [ss (a.get (Fin.mk v0.toNat h)).cP] fun y=>bif !y.b 0 then some (ii 20) else k1 v0 0 else some (ii 0)
def JT (q:YF) (a:Rw ch) (k0:Int→OS) (k1:Int→Int→OS) (v0 v1:Int):OS:=bif bm v1 v0 then aU v1 a.n fun h=>aU v0 a.n fun h_1=>bif ah (a.get (Fin.mk v1.toNat h)).aZ (a.get (Fin.mk v0.toNat h_1)).aZ then some (ii 6) else k1 v0 (a7 .i64 v1 1) else k0 (a7 .i64 v0 1)
def Eo (q:YF) (a:Rw ch) (k0:Int→OS):OS:=bif bl (ay a.n) 4 then some (ii 3) else k0 0
structure X73 where
 x0:Int→OS
 x1:Int→Int→OS
def tK (X:X73):Int→OS:=fun v0=>X.x0 v0
def wk (X:X73):Int→Int→OS:=fun v0 v1=>X.x1 v0 v1
def O7 (q:YF) (a:Rw ch) (X:X73):X73:=⟨fun v0=>Kh q a (wk X) v0,
 fun v0 v1=>JT q a (tK X) (wk X) v0 v1⟩
def oD (q:YF) (a:Rw ch):Nat→X73
 | 0=>⟨fun _=>none,fun _ _=>none⟩
 | n+1=>O7 q a (oD q a n)
theorem ahA (q:YF) (a:Rw ch) (kk:PK S):Kz a (P73 q kk)=Kh q a (I9 a kk):=by
 kernel_rfl
theorem ahk (q:YF) (a:Rw ch) (kk:PK S):I9 a (P73 q kk)=JT q a (Kz a kk) (I9 a kk):=by
 kernel_rfl
theorem aa0 (q:YF) (a:Rw ch) (kk:PK S):BG q kk 73 Tryz.f73 [S.t (T.rows 2 a.n fun i=>dv (a.get i))]=Eo q a (Kz a kk):=by
 kernel_rfl
theorem h73 (q:YF) (a:Rw ch):∀ n,Kz a (H73 q n)=tK (oD q a n)∧I9 a (H73 q n)=wk (oD q a n)
 | 0=>⟨rfl,rfl⟩
 | n+1=>by
  obtain ⟨h0,h1⟩:=h73 q a n
  exact ⟨(ahA q a (H73 q n)).trans (by rw [h1];kernel_rfl),(ahk q a (H73 q n)).trans (by rw [h0,h1];kernel_rfl)⟩
theorem W73 (a:Rw ch) (n:Nat) (x:S) (h:Eo (aa O) a (tK (oD (aa O) a n))=some x):(W O).aE 73 [S.t (T.rows 2 a.n fun i=>dv (a.get i))]=some x:=by
 refine WG (fn:=Tryz.f73) (by kernel_rfl) (by kernel_rfl) (n:=n) ?_
 refine (aa0 (aa O) a (H73 (aa O) n)).trans ?_
 obtain ⟨h0,h1⟩:=h73 (aa O) a n
 rw [h0]
 exact h
abbrev P74 (q:YF) (kk:PK S):PK S:=PG q 74 Tryz.f74 kk
abbrev H74 (q:YF):Nat→PK S:=HG q 74 Tryz.f74
abbrev T74_0:Type:=Bool→S→Bool→S→S→OS
def Nq (a:Int) (b:Int) (c:Int) (kk:PK S):T74_0:=fun v0 u1 u2 u3 u4=> kk 1 9 1 (aJ [(0,ii a),(8,ii b),(12,u1),(2,ii c),(10,bb u2),(6,bb false),(14,bb v0),(1,ii b),(9,bb (cT a b)),(13,u3),(11,u4),(7,ii a)] 10 [])
def Yu (q:YF) (a:Int) (b:Int) (c:Int):T74_0:=fun v0 u1 u2 u3 u4=>some (bb v0)
def HL (q:YF) (a:Int) (b:Int) (c:Int) (k0:T74_0):OS:=bif cT a b then k0 (bp a c) (ii c) true (bb (bp a c)) (ii a) else k0 false S.ud false S.ud S.ud
structure X74 where
 x0:Bool→OS
def XW (X:X74):T74_0:=fun v0 _ _ _ _=>X.x0 v0
def ajv (q:YF) (a:Int) (b:Int) (c:Int) (X:X74):X74:=⟨fun v0=>Yu q a b c v0 dd dd dd dd⟩
def acS (q:YF) (a:Int) (b:Int) (c:Int):Nat→X74
 | 0=>⟨fun _=>none⟩
 | n+1=>ajv q a b c (acS q a b c n)
theorem adh (q:YF) (a:Int) (b:Int) (c:Int) (kk:PK S):Nq a b c (P74 q kk)=Yu q a b c:=by
 kernel_rfl
theorem ac1 (q:YF) (a:Int) (b:Int) (c:Int) (kk:PK S):BG q kk 74 Tryz.f74 [ii a,ii b,ii c]=HL q a b c (Nq a b c kk):=by
 kernel_rfl
theorem h74 (q:YF) (a:Int) (b:Int) (c:Int):∀ n,Nq a b c (H74 q n)=XW (acS q a b c n)
 | 0=>rfl
 | n+1=>by
  have h0:=h74 q a b c n
  exact (adh q a b c (H74 q n)).trans (by kernel_rfl)
theorem W74 (a:Int) (b:Int) (c:Int) (n:Nat) (x:S) (h:HL (aa O) a b c (XW (acS (aa O) a b c n))=some x):(W O).aE 74 [ii a,ii b,ii c]=some x:=by
 refine WG (fn:=Tryz.f74) (by kernel_rfl) (by kernel_rfl) (n:=n) ?_
 refine (ac1 (aa O) a b c (H74 (aa O) n)).trans ?_
 have h0:=h74 (aa O) a b c n
 rw [h0]
 exact h
abbrev P75 (q:YF) (kk:PK S):PK S:=PG q 75 Tryz.f75 kk
abbrev H75 (q:YF):Nat→PK S:=HG q 75 Tryz.f75
abbrev T75_0:Type:=Bool→Bool→Bool→S→Bool→S→S→S→OS
def QW (a:cQ) (kk:PK S):T75_0:=fun v0 u1 u2 u3 u4 u5 u6 u7=> kk 1 11 2 (aJ [(0,ag (dp a)),(8,bb u1),(12,u3),(2,ii 0),(10,bb u4),(6,S.ptr 0 0),(14,u5),(1,S.ptr 0 0),(9,bb u2),(13,u6),(11,u7),(7,ss a.af),(15,bb v0)] 18 [(0,B.box (List.map S.t (dp a)))])
abbrev T75_1:Type:=Bool→Bool→Bool→Int→Int→Int→Bool→S→Bool→Bool→Bool→S→Int→Bool→Int→Int→Int→Bool→S→Int→Bool→S→Bool→Int→S→S→S→Bool→OS
def Oi (a:cQ) (kk:PK S):T75_1:=fun v0 u1 u2 u3 u4 u5 u6 u7 u8 u9 u10 u11 u12 u13 u14 u15 u16 u17 u18 u19 u20 u21 u22 u23 u24 u25 u26 u27=> kk 16 9 48 (aJ [(0,ag (dp a)),(32,bb u1),(16,bb false),(48,S.ptr 0 11),(8,bb u2),(40,S.ptr 0 10),(24,ii u3),(56,u24),(4,ii u4),(36,ii u5),(20,bb u6),(52,S.ptr 0 12),(12,u7),(44,S.ptr 0 10),(28,S.ptr 0 7),(2,ii 0),(34,S.ptr 0 9),(18,S.agg [ss a.al,ss a.aj,ss a.ak]),(50,ii (cI a.eG)),(10,bb u8),(42,bb (bm a.dQ 1)),(26,bb u9),(58,u25),(6,S.ptr 0 0),(38,bb u10),(22,S.ptr 0 6),(54,bb (bm a.bM 1)),(14,u11),(46,bb (bl a.dQ 32)),(30,ii u12),(1,S.ptr 0 0),(17,S.ptr 0 3),(49,ss a.eG),(9,bb u13),(41,ii a.dQ),(25,ii u14),(57,u26),(5,ii u15),(37,ii u16),(21,bb u17),(53,ii a.bM),(13,u18),(45,ii a.dQ),(29,S.agg [ii a.a6,ii a.a8]),(3,ii u19),(35,S.t (T.rows 3 a.bh.n fun i=>bS (a.bh.get i))),(19,bb u20),(51,bb (bl (cI a.eG) 16)),(11,u21),(43,bb false),(59,bb v0),(7,ss a.af),(23,ii a.bG),(55,bb u27),(15,bb u22),(47,bb (bl a.dQ 32)),(31,ii u23)] 68 [(0,B.box (List.map S.t (dp a)))])
abbrev T75_2:Type:=Bool→Bool→Bool→Int→S→Int→Int→Bool→S→Bool→Bool→S→Bool→S→Int→Bool→Int→S→Int→Int→Bool→S→Int→Bool→S→Bool→Bool→Bool→Int→S→Bool→S→S→S→OS
def R5 (a:cQ) (kk:PK S):T75_2:=fun v0 u1 u2 u3 u4 u5 u6 u7 u8 u9 u10 u11 u12 u13 u14 u15 u16 u17 u18 u19 u20 u21 u22 u23 u24 u25 u26 u27 u28 u29 u30 u31 u32 u33=> kk 16 15 48 (aJ [(0,ag (dp a)),(64,u29),(32,bb u1),(16,bb false),(48,S.ptr 0 11),(8,bb u2),(40,S.ptr 0 10),(24,ii u3),(56,u4),(4,ii u5),(36,ii u6),(20,bb u7),(52,S.ptr 0 12),(12,u8),(44,S.ptr 0 10),(28,S.ptr 0 7),(60,bb u30),(2,ii 0),(34,S.ptr 0 9),(18,S.agg [ss a.al,ss a.aj,ss a.ak]),(50,ii (cI a.eG)),(10,bb u9),(42,bb (bm a.dQ 1)),(26,bb u10),(58,u11),(6,S.ptr 0 0),(38,bb u12),(22,S.ptr 0 6),(54,bb (bm a.bM 1)),(14,u13),(46,bb (bl a.dQ 32)),(30,ii u14),(62,u31),(1,S.ptr 0 0),(65,bb v0),(17,S.ptr 0 3),(49,ss a.eG),(9,bb u15),(41,ii a.dQ),(25,ii u16),(57,u17),(5,ii u18),(37,ii u19),(21,bb u20),(53,ii a.bM),(13,u21),(45,ii a.dQ),(29,S.agg [ii a.a6,ii a.a8]),(61,u32),(3,ii u22),(35,S.t (T.rows 3 a.bh.n fun i=>bS (a.bh.get i))),(19,bb u23),(51,bb (bl (cI a.eG) 16)),(11,u24),(43,bb false),(59,bb u25),(7,ss a.af),(23,ii a.bG),(55,bb u26),(15,bb u27),(47,bb (bl a.dQ 32)),(31,ii u28),(63,u33)] 68 [(0,B.box (List.map S.t (dp a)))])
def Ug (q:YF) (a:cQ) (k1:T75_1):T75_0:=fun v0 u1 u2 u3 u4 u5 u6 u7=>bif v0 then some (ii 7) else yC q 130 [S.agg [ss a.al,ss a.aj,ss a.ak]] fun y=>bif !y.b 0 then some (ii 7) else yC q 91 [ii a.bG] fun y_1=>bif !aR (y_1.i 0) 0 then some (ii (y_1.i 0)) else yC q 49 [S.agg [ii a.a6,ii a.a8]] fun y_2=>bif !aR (y_2.i 0) 0 then some (ii (y_2.i 0)) else yC q 131 [S.t (T.rows 3 a.bh.n fun i=>bS (a.bh.get i))] fun y_3=>bif !aR (y_3.i 0) 0 then some (ii (y_3.i 0)) else bif bm a.dQ 1 then some (ii 1) else bif bl a.dQ 32 then some (ii 1) else bif bl (cI a.eG) 16 then some (ii 2) else bif bm a.bM 1 then k1 true (!aR (y_2.i 0) 0) u1 (y_1.i 0) (y_2.i 0) (y_3.i 0) (!y.b 0) u3 u4 (!aR (y_1.i 0) 0) (!aR (y_3.i 0) 0) u5 (y_2.i 0) u2 (y_1.i 0) (y_3.i 0) (y_3.i 0) (!y.b 0) u6 (y_1.i 0) (y.b 0) u7 v0 (y_2.i 0) S.ud S.ud S.ud true else k1 (bl a.bM 4) (!aR (y_2.i 0) 0) u1 (y_1.i 0) (y_2.i 0) (y_3.i 0) (!y.b 0) u3 u4 (!aR (y_1.i 0) 0) (!aR (y_3.i 0) 0) u5 (y_2.i 0) u2 (y_1.i 0) (y_3.i 0) (y_3.i 0) (!y.b 0) u6 (y_1.i 0) (y.b 0) u7 v0 (y_2.i 0) (S.ptr 0 12) (bb (bl a.bM 4)) (ii a.bM) false
def OB (q:YF) (a:cQ) (k2:T75_2):T75_1:=fun v0 u1 u2 u3 u4 u5 u6 u7 u8 u9 u10 u11 u12 u13 u14 u15 u16 u17 u18 u19 u20 u21 u22 u23 u24 u25 u26 u27=>bif v0 then k2 true u1 u2 u3 u24 u4 u5 u6 u7 u8 u9 u25 u10 u11 u12 u13 u14 u26 u15 u16 u17 u18 u19 u20 u21 v0 u27 u22 u23 S.ud true S.ud S.ud S.ud else yC q 74 [ii a.dB,ii 0,ii 1099511627776] fun y=>k2 (!y.b 0) u1 u2 u3 u24 u4 u5 u6 u7 u8 u9 u25 u10 u11 u12 u13 u14 u26 u15 u16 u17 u18 u19 u20 u21 v0 u27 u22 u23 (S.t (T.v (.bool !y.b 0))) false (ii a.dB) (S.ptr 0 2) (bb (y.b 0))
def NS (q:YF) (a:cQ):T75_2:=fun v0 u1 u2 u3 u4 u5 u6 u7 u8 u9 u10 u11 u12 u13 u14 u15 u16 u17 u18 u19 u20 u21 u22 u23 u24 u25 u26 u27 u28 u29 u30 u31 u32 u33=>bif v0 then some (ii 1) else yC q 74 [ii a.dD,ii 0,ii 1099511627776] fun y=>bif !y.b 0 then some (ii 1) else some (ii 0)
def FX (q:YF) (a:cQ) (k0:T75_0):OS:=yC q 71 [ss a.af] fun y=>bif !y.b 0 then k0 true (y.b 0) (!y.b 0) S.ud true S.ud S.ud S.ud else yC q 71 [ss a.bc] fun y_1=>k0 (!y_1.b 0) (y.b 0) (!y.b 0) (ss a.bc) false (S.t (T.v (.bool !y_1.b 0))) (bb (y_1.b 0)) (S.ptr 0 1)
structure X75 where
 x0:Bool→OS
 x1:Bool→OS
 x2:Bool→OS
def S9 (X:X75):T75_0:=fun v0 _ _ _ _ _ _ _=>X.x0 v0
def O6 (X:X75):T75_1:=fun v0 _ _ _ _ _ _ _ _ _ _ _ _ _ _ _ _ _ _ _ _ _ _ _ _ _ _ _=>X.x1 v0
def NR (X:X75):T75_2:=fun v0 _ _ _ _ _ _ _ _ _ _ _ _ _ _ _ _ _ _ _ _ _ _ _ _ _ _ _ _ _ _ _ _ _=>X.x2 v0
def V9 (q:YF) (a:cQ) (X:X75):X75:=⟨fun v0=>Ug q a (O6 X) v0 dd dd dd dd dd dd dd,
 fun v0=>OB q a (NR X) v0 dd dd dd dd dd dd dd dd dd dd dd dd dd dd dd dd dd dd dd dd dd dd dd dd dd dd dd,
 fun v0=>NS q a v0 dd dd dd dd dd dd dd dd dd dd dd dd dd dd dd dd dd dd dd dd dd dd dd dd dd dd dd dd dd dd dd dd dd⟩
def qa (q:YF) (a:cQ):Nat→X75
 | 0=>⟨fun _=>none,fun _=>none,fun _=>none⟩
 | n+1=>V9 q a (qa q a n)
theorem adT (q:YF) (a:cQ) (kk:PK S):QW a (P75 q kk)=Ug q a (Oi a kk):=by
 kernel_rfl
theorem afW (q:YF) (a:cQ) (kk:PK S):Oi a (P75 q kk)=OB q a (R5 a kk):=by
 kernel_rfl
theorem adW (q:YF) (a:cQ) (kk:PK S):R5 a (P75 q kk)=NS q a:=by
 kernel_rfl
theorem Zw (q:YF) (a:cQ) (kk:PK S):BG q kk 75 Tryz.f75 [ag (dp a)]=FX q a (QW a kk):=by
 kernel_rfl
theorem h75 (q:YF) (a:cQ):∀ n,QW a (H75 q n)=S9 (qa q a n)∧Oi a (H75 q n)=O6 (qa q a n)∧R5 a (H75 q n)=NR (qa q a n)
 | 0=>⟨rfl,rfl,rfl⟩
 | n+1=>by
  obtain ⟨h0,h1,h2⟩:=h75 q a n
  exact ⟨(adT q a (H75 q n)).trans (by rw [h1];kernel_rfl),(afW q a (H75 q n)).trans (by rw [h2];kernel_rfl),(adW q a (H75 q n)).trans (by kernel_rfl)⟩
theorem W75 (a:cQ) (n:Nat) (x:S) (h:FX (aa O) a (S9 (qa (aa O) a n))=some x):(W O).aE 75 [ag (dp a)]=some x:=by
 refine WG (fn:=Tryz.f75) (by kernel_rfl) (by kernel_rfl) (n:=n) ?_
 refine (Zw (aa O) a (H75 (aa O) n)).trans ?_
 obtain ⟨h0,h1,h2⟩:=h75 (aa O) a n
 rw [h0]
 exact h
abbrev P76 (q:YF) (kk:PK S):PK S:=PG q 76 Tryz.f76 kk
abbrev H76 (q:YF):Nat→PK S:=HG q 76 Tryz.f76
def Kc (a:aP) (b:BA) (kk:PK S):Int→OS:=fun v0=> kk 2 0 0 (aJ [(4,S.ptr 0 0),(10,ii (ay a.aW.n)),(1,ss b),(9,S.t (T.rows 10 a.aW.n fun i=>jd (a.aW.get i))),(11,ii v0)] 1 [(0,B.box [ss (bs []),ii 0,ii 0,ii 0,S.t (T.v (.slice none 0 0)),S.t (T.v (.slice none 0 0)),ii 0,ii 0,ii 0,ii 0])])
def Ls (q:YF) (a:aP) (b:BA) (k0:Int→OS) (v0:Int):OS:=bif bm v0 (ay a.aW.n) then aU v0 a.aW.n fun h=>bif ah (a.aW.get (Fin.mk v0.toNat h)).af b then some (S.bJ [ag (jd (a.aW.get (Fin.mk v0.toNat h))),bb true]) else k0 (a7 .i64 v0 1) else some (S.bJ [S.agg [ss (bs []),ii 0,ii 0,ii 0,S.t (T.rows 4 0 fT),S.t (T.rows 2 0 fT),ii 0,ii 0,ii 0,ii 0],bb false])
def Ub (q:YF) (a:aP) (b:BA) (k0:Int→OS):OS:=k0 0
structure X76 where
 x0:Int→OS
def KJ (X:X76):Int→OS:=fun v0=>X.x0 v0
def ZI (q:YF) (a:aP) (b:BA) (X:X76):X76:=⟨fun v0=>Ls q a b (KJ X) v0⟩
def ub (q:YF) (a:aP) (b:BA):Nat→X76
 | 0=>⟨fun _=>none⟩
 | n+1=>ZI q a b (ub q a b n)
theorem ae9 (q:YF) (a:aP) (b:BA) (kk:PK S):Kc a b (P76 q kk)=Ls q a b (Kc a b kk):=by
 kernel_rfl
theorem acB (q:YF) (a:aP) (b:BA) (kk:PK S):BG q kk 76 Tryz.f76 [ag (bI a),ss b]=Ub q a b (Kc a b kk):=by
 kernel_rfl
theorem h76 (q:YF) (a:aP) (b:BA):∀ n,Kc a b (H76 q n)=KJ (ub q a b n)
 | 0=>rfl
 | n+1=>by
  have h0:=h76 q a b n
  exact (ae9 q a b (H76 q n)).trans (by rw [h0];kernel_rfl)
theorem W76 (a:aP) (b:BA) (n:Nat) (x:S) (h:Ub (aa O) a b (KJ (ub (aa O) a b n))=some x):(W O).aE 76 [ag (bI a),ss b]=some x:=by
 refine WG (fn:=Tryz.f76) (by kernel_rfl) (by kernel_rfl) (n:=n) ?_
 refine (acB (aa O) a b (H76 (aa O) n)).trans ?_
 have h0:=h76 (aa O) a b n
 rw [h0]
 exact h
abbrev P77 (q:YF) (kk:PK S):PK S:=PG q 77 Tryz.f77 kk
abbrev H77 (q:YF):Nat→PK S:=HG q 77 Tryz.f77
def J3 (a:Rw aV) (b:Rw bu) (kk:PK S):Int→OS:=fun v0=> kk 2 0 0 (aJ [(0,S.t (T.rows 7 a.n fun i=>bk (a.get i))),(10,ii (ay b.n)),(9,S.t (T.rows 3 b.n fun i=>bS (b.get i))),(11,ii v0)] 0 [])
def Lx (q:YF) (a:Rw aV) (b:Rw bu) (k0:Int→OS) (v0:Int):OS:=bif bm v0 (ay b.n) then aU v0 b.n fun h=>yC q 78 [S.t (T.rows 7 a.n fun i=>bk (a.get i)),ag (bS (b.get (Fin.mk v0.toNat h)))] fun y=>bif !y.b 2 then some (bb false) else k0 (a7 .i64 v0 1) else some (bb true)
def OO (q:YF) (a:Rw aV) (b:Rw bu) (k0:Int→OS):OS:=k0 0
structure X77 where
 x0:Int→OS
def Cz (X:X77):Int→OS:=fun v0=>X.x0 v0
def ZH (q:YF) (a:Rw aV) (b:Rw bu) (X:X77):X77:=⟨fun v0=>Lx q a b (Cz X) v0⟩
def DC (q:YF) (a:Rw aV) (b:Rw bu):Nat→X77
 | 0=>⟨fun _=>none⟩
 | n+1=>ZH q a b (DC q a b n)
theorem ady (q:YF) (a:Rw aV) (b:Rw bu) (kk:PK S):J3 a b (P77 q kk)=Lx q a b (J3 a b kk):=by
 kernel_rfl
theorem acJ (q:YF) (a:Rw aV) (b:Rw bu) (kk:PK S):BG q kk 77 Tryz.f77 [S.t (T.rows 7 a.n fun i=>bk (a.get i)),S.t (T.rows 3 b.n fun i=>bS (b.get i))]=OO q a b (J3 a b kk):=by
 kernel_rfl
theorem h77 (q:YF) (a:Rw aV) (b:Rw bu):∀ n,J3 a b (H77 q n)=Cz (DC q a b n)
 | 0=>rfl
 | n+1=>by
  have h0:=h77 q a b n
  exact (ady q a b (H77 q n)).trans (by rw [h0];kernel_rfl)
theorem W77 (a:Rw aV) (b:Rw bu) (n:Nat) (x:S) (h:OO (aa O) a b (Cz (DC (aa O) a b n))=some x):(W O).aE 77 [S.t (T.rows 7 a.n fun i=>bk (a.get i)),S.t (T.rows 3 b.n fun i=>bS (b.get i))]=some x:=by
 refine WG (fn:=Tryz.f77) (by kernel_rfl) (by kernel_rfl) (n:=n) ?_
 refine (acJ (aa O) a b (H77 (aa O) n)).trans ?_
 have h0:=h77 (aa O) a b n
 rw [h0]
 exact h
abbrev H78 (q:YF):Nat→PK S:=HG q 78 Tryz.f78
def Fp (q:YF) (a:Rw aV) (b:bu):OS:=yC q 86 [S.t (T.rows 7 a.n fun i=>bk (a.get i)),ag (bS b)] fun y=>yC q 132 [S.agg [ii (y.i 1),ii (y.i 2)],S.agg [ii (y.i 3),ii (y.i 4)]] fun y_1=>some (S.bJ [S.agg [ii (y_1.i 0),ii (y_1.i 1)],bb (y.b 11)])
theorem ab2 (q:YF) (a:Rw aV) (b:bu) (kk:PK S):BG q kk 78 Tryz.f78 [S.t (T.rows 7 a.n fun i=>bk (a.get i)),ag (bS b)]=Fp q a b:=by
 kernel_rfl
theorem W78 (a:Rw aV) (b:bu) (n:Nat) (x:S) (h:Fp (aa O) a b=some x):(W O).aE 78 [S.t (T.rows 7 a.n fun i=>bk (a.get i)),ag (bS b)]=some x:=by
 refine WG (fn:=Tryz.f78) (by kernel_rfl) (by kernel_rfl) (n:=n) ?_
 refine (ab2 (aa O) a b (H78 (aa O) n)).trans ?_
 exact h
abbrev P79 (q:YF) (kk:PK S):PK S:=PG q 79 Tryz.f79 kk
abbrev H79 (q:YF):Nat→PK S:=HG q 79 Tryz.f79
def Ky (a:Rw bT) (kk:PK S):Int→OS:=fun v0=> kk 4 0 0 (aJ [(0,S.t (T.rows 3 a.n fun i=>cZ (a.get i))),(3,ii v0)] 0 [])
abbrev T79_1:Type:=Bool→Bool→Int→bT→Bool→BA→BA→Bool→bT→bT→Bool→Bool→Bool→Bool→bT→BA→Bool→Bool→S→S→S→S→S→Bool→S→Int→Int→Int→Bool→Int→OS
def Ns (a:Rw bT) (kk:PK S):T79_1:=fun v0 v1 v2 u3 u4 u5 u6 u7 u8 u9 u10 u11 u12 u13 u14 u15 u16 u17 u18 u19 u20 u21 u22 u23 u24 u25 u26 u27 u28 u29=> kk 10 14 20 (aJ [(0,S.t (T.rows 3 a.n fun i=>cZ (a.get i))),(32,S.pt (cZ u3)),(16,S.t (T.rows 3 a.n fun i=>cZ (a.get i))),(40,u18),(24,S.t (T.rows 3 a.n fun i=>cZ (a.get i))),(4,bb u4),(36,u19),(20,ss u5),(12,ii (ay a.n)),(28,ss u6),(34,bb u7),(18,S.pt (cZ u8)),(10,ii u25),(42,bb v1),(26,S.pt (cZ u9)),(38,u20),(22,bb u10),(30,S.t (T.rows 3 a.n fun i=>cZ (a.get i))),(33,S.pt [tb u11]),(17,ii u26),(41,u21),(25,ii u27),(5,bb v0),(37,u22),(21,bb u12),(13,bb u28),(29,bb u13),(3,ii v2),(35,bb u23),(19,S.pt (cZ u14)),(11,S.t (T.rows 3 a.n fun i=>cZ (a.get i))),(27,S.pt [ts u15,tb u16]),(39,u24),(23,bb u17),(31,ii u29)] 45 [])
def Jd (a:Rw bT) (kk:PK S):Int→Int→OS:=fun v0 v1=> kk 13 0 0 (aJ [(0,S.t (T.rows 3 a.n fun i=>cZ (a.get i))),(6,ii v1),(3,ii v0)] 0 [])
def KN (q:YF) (a:Rw bT) (k1:T79_1) (v0:Int):OS:=bif bm v0 (ay a.n) then aU v0 a.n fun h=>yC q 71 [ss (a.get (Fin.mk v0.toNat h)).aZ] fun y=>bif !y.b 0 then some (ii 7) else aU v0 a.n fun h_1=>yC q 129 [ss (a.get (Fin.mk v0.toNat h_1)).cP] fun y_1=>aU v0 a.n fun h_2=>bif (a.get (Fin.mk v0.toNat h_2)).gL then aU v0 a.n fun h_3=>k1 (y_1.b 0) (!ah (a.get (Fin.mk v0.toNat h_3)).cP (bs [])) v0 (a.get (Fin.mk v0.toNat h_2)) (y.b 0) (a.get (Fin.mk v0.toNat h)).aZ (a.get (Fin.mk v0.toNat h_1)).cP (a.get (Fin.mk v0.toNat h_2)).gL (a.get (Fin.mk v0.toNat h)) (a.get (Fin.mk v0.toNat h_1)) (y.b 0) (a.get (Fin.mk v0.toNat h_2)).gL (y.b 0) (y_1.b 0) (a.get (Fin.mk v0.toNat h)) (a.get (Fin.mk v0.toNat h_1)).cP (a.get (Fin.mk v0.toNat h_1)).gL (!y.b 0) (ss (a.get (Fin.mk v0.toNat h_3)).cP) (S.t (T.rows 3 a.n fun i=>cZ (a.get i))) (S.pt (cZ (a.get (Fin.mk v0.toNat h_3)))) (S.t (T.v (.bool !ah (a.get (Fin.mk v0.toNat h_3)).cP (bs [])))) (ii v0) true (S.pt [ts (a.get (Fin.mk v0.toNat h_3)).cP,tb (a.get (Fin.mk v0.toNat h_3)).gL]) v0 v0 v0 (bm v0 (ay a.n)) v0 else k1 (y_1.b 0) false v0 (a.get (Fin.mk v0.toNat h_2)) (y.b 0) (a.get (Fin.mk v0.toNat h)).aZ (a.get (Fin.mk v0.toNat h_1)).cP (a.get (Fin.mk v0.toNat h_2)).gL (a.get (Fin.mk v0.toNat h)) (a.get (Fin.mk v0.toNat h_1)) (y.b 0) (a.get (Fin.mk v0.toNat h_2)).gL (y.b 0) (y_1.b 0) (a.get (Fin.mk v0.toNat h)) (a.get (Fin.mk v0.toNat h_1)).cP (a.get (Fin.mk v0.toNat h_1)).gL (!y.b 0) S.ud S.ud S.ud S.ud S.ud false S.ud v0 v0 v0 (bm v0 (ay a.n)) v0 else some (ii 0)
def T5 (q:YF) (a:Rw bT) (k2:Int→Int→OS):T79_1:=fun v0 v1 v2 u3 u4 u5 u6 u7 u8 u9 u10 u11 u12 u13 u14 u15 u16 u17 u18 u19 u20 u21 u22 u23 u24 u25 u26 u27 u28 u29=>bif v1 then some (ii 20) else aU v2 a.n fun h=>bif !(a.get (Fin.mk v2.toNat h)).gL then bif !v0 then some (ii 20) else k2 v2 0 else k2 v2 0
def Ju (q:YF) (a:Rw bT) (k0:Int→OS) (k2:Int→Int→OS) (v0 v1:Int):OS:=bif bm v1 v0 then aU v1 a.n fun h=>aU v0 a.n fun h_1=>bif ah (a.get (Fin.mk v1.toNat h)).aZ (a.get (Fin.mk v0.toNat h_1)).aZ && (ah (a.get (Fin.mk v1.toNat h)).cP (a.get (Fin.mk v0.toNat h_1)).cP && (r9 (a.get (Fin.mk v1.toNat h)).gL (a.get (Fin.mk v0.toNat h_1)).gL && true)) then some (ii 6) else k2 v0 (a7 .i64 v1 1) else k0 (a7 .i64 v0 1)
def Fw (q:YF) (a:Rw bT) (k0:Int→OS):OS:=bif bl (ay a.n) 4 then some (ii 3) else k0 0
structure X79 where
 x0:Int→OS
 x1:Bool→Bool→Int→OS
 x2:Int→Int→OS
def uz (X:X79):Int→OS:=fun v0=>X.x0 v0
def Qd (X:X79):T79_1:=fun v0 v1 v2 _ _ _ _ _ _ _ _ _ _ _ _ _ _ _ _ _ _ _ _ _ _ _ _ _ _ _=>X.x1 v0 v1 v2
def wU (X:X79):Int→Int→OS:=fun v0 v1=>X.x2 v0 v1
def Py (q:YF) (a:Rw bT) (X:X79):X79:=⟨fun v0=>KN q a (Qd X) v0,
 fun v0 v1 v2=>T5 q a (wU X) v0 v1 v2 dd dd dd dd dd dd dd dd dd dd dd dd dd dd dd dd dd dd dd dd dd dd dd dd dd dd dd,
 fun v0 v1=>Ju q a (uz X) (wU X) v0 v1⟩
def oy (q:YF) (a:Rw bT):Nat→X79
 | 0=>⟨fun _=>none,fun _ _ _=>none,fun _ _=>none⟩
 | n+1=>Py q a (oy q a n)
theorem ag6 (q:YF) (a:Rw bT) (kk:PK S):Ky a (P79 q kk)=KN q a (Ns a kk):=by
 kernel_rfl
theorem agl (q:YF) (a:Rw bT) (kk:PK S):Ns a (P79 q kk)=T5 q a (Jd a kk):=by
 kernel_rfl
theorem ahh (q:YF) (a:Rw bT) (kk:PK S):Jd a (P79 q kk)=Ju q a (Ky a kk) (Jd a kk):=by
 kernel_rfl
theorem Y9 (q:YF) (a:Rw bT) (kk:PK S):BG q kk 79 Tryz.f79 [S.t (T.rows 3 a.n fun i=>cZ (a.get i))]=Fw q a (Ky a kk):=by
 kernel_rfl
theorem h79 (q:YF) (a:Rw bT):∀ n,Ky a (H79 q n)=uz (oy q a n)∧Ns a (H79 q n)=Qd (oy q a n)∧Jd a (H79 q n)=wU (oy q a n)
 | 0=>⟨rfl,rfl,rfl⟩
 | n+1=>by
  obtain ⟨h0,h1,h2⟩:=h79 q a n
  exact ⟨(ag6 q a (H79 q n)).trans (by rw [h1];kernel_rfl),(agl q a (H79 q n)).trans (by rw [h2];kernel_rfl),(ahh q a (H79 q n)).trans (by rw [h0,h2];kernel_rfl)⟩
theorem W79 (a:Rw bT) (n:Nat) (x:S) (h:Fw (aa O) a (uz (oy (aa O) a n))=some x):(W O).aE 79 [S.t (T.rows 3 a.n fun i=>cZ (a.get i))]=some x:=by
 refine WG (fn:=Tryz.f79) (by kernel_rfl) (by kernel_rfl) (n:=n) ?_
 refine (Y9 (aa O) a (H79 (aa O) n)).trans ?_
 obtain ⟨h0,h1,h2⟩:=h79 (aa O) a n
 rw [h0]
 exact h
abbrev P80 (q:YF) (kk:PK S):PK S:=PG q 80 Tryz.f80 kk
abbrev H80 (q:YF):Nat→PK S:=HG q 80 Tryz.f80
def II (a:Rw ma) (kk:PK S):Int→OS:=fun v0=> kk 2 0 0 (aJ [(6,ii (ay a.n)),(5,S.t (T.rows 2 a.n fun i=>iA (a.get i))),(7,ii v0)] 0 [])
def J7 (q:YF) (a:Rw ma) (k0:Int→OS) (v0:Int):OS:=bif bm v0 (ay a.n) then aU v0 a.n fun h=>bif !ah (a.get (Fin.mk v0.toNat h)).aZ (bs [122,111,110,101]) then bif !ah (a.get (Fin.mk v0.toNat h)).aZ (bs [104,111,115,116]) then some (ii 1) else yC q 71 [ss (a.get (Fin.mk v0.toNat h)).ef] fun y=>bif !y.b 0 then some (ii 7) else k0 (a7 .i64 v0 1) else yC q 71 [ss (a.get (Fin.mk v0.toNat h)).ef] fun y=>bif !y.b 0 then some (ii 7) else k0 (a7 .i64 v0 1) else some (ii 0)
def PR (q:YF) (a:Rw ma) (k0:Int→OS):OS:=k0 0
structure X80 where
 x0:Int→OS
def CH (X:X80):Int→OS:=fun v0=>X.x0 v0
def Zl (q:YF) (a:Rw ma) (X:X80):X80:=⟨fun v0=>J7 q a (CH X) v0⟩
def Md (q:YF) (a:Rw ma):Nat→X80
 | 0=>⟨fun _=>none⟩
 | n+1=>Zl q a (Md q a n)
theorem afz (q:YF) (a:Rw ma) (kk:PK S):II a (P80 q kk)=J7 q a (II a kk):=by
 kernel_rfl
theorem aaP (q:YF) (a:Rw ma) (kk:PK S):BG q kk 80 Tryz.f80 [S.t (T.rows 2 a.n fun i=>iA (a.get i))]=PR q a (II a kk):=by
 kernel_rfl
theorem h80 (q:YF) (a:Rw ma):∀ n,II a (H80 q n)=CH (Md q a n)
 | 0=>rfl
 | n+1=>by
  have h0:=h80 q a n
  exact (afz q a (H80 q n)).trans (by rw [h0];kernel_rfl)
theorem W80 (a:Rw ma) (n:Nat) (x:S) (h:PR (aa O) a (CH (Md (aa O) a n))=some x):(W O).aE 80 [S.t (T.rows 2 a.n fun i=>iA (a.get i))]=some x:=by
 refine WG (fn:=Tryz.f80) (by kernel_rfl) (by kernel_rfl) (n:=n) ?_
 refine (aaP (aa O) a (H80 (aa O) n)).trans ?_
 have h0:=h80 (aa O) a n
 rw [h0]
 exact h
abbrev P81 (q:YF) (kk:PK S):PK S:=PG q 81 Tryz.f81 kk
abbrev H81 (q:YF):Nat→PK S:=HG q 81 Tryz.f81
abbrev T81_0:Type:=Bool→Bool→S→S→S→OS
def TG (a:cO) (kk:PK S):T81_0:=fun v0 u1 u2 u3 u4=> kk 1 9 2 (aJ [(0,ag (eN a)),(8,bb u1),(12,bb v0),(2,ii 0),(10,u2),(6,ii a.dI),(1,S.ptr 0 0),(9,u3),(5,S.ptr 0 0),(11,u4),(7,bb (bm a.dI 1))] 20 [(0,B.box (List.map S.t (eN a)))])
abbrev T81_1:Type:=Bool→Bool→Bool→S→S→S→S→S→Bool→S→OS
def QF (a:cO) (kk:PK S):T81_1:=fun v0 u1 u2 u3 u4 u5 u6 u7 u8 u9=> kk 1 14 2 (aJ [(0,ag (eN a)),(16,u6),(8,bb u1),(12,bb u2),(2,ii 0),(10,u3),(6,ii a.dI),(14,u7),(1,S.ptr 0 0),(17,bb v0),(9,u4),(5,S.ptr 0 0),(13,bb u8),(11,u5),(7,bb (bm a.dI 1)),(15,u9)] 20 [(0,B.box (List.map S.t (eN a)))])
def J5 (a:cO) (kk:PK S):Int→OS:=fun v0=> kk 8 0 0 (aJ [(32,S.t (T.rows 1 a.aH.n fun i=>[ts (a.aH.get i)])),(34,ii v0),(1,S.ptr 0 0),(33,ii (ay a.aH.n))] 1 [(0,B.box (List.map S.t (eN a)))])
abbrev T81_3:Type:=Bool→Bool→Bool→S→S→Bool→S→S→OS
def SB (a:cO) (kk:PK S):T81_3:=fun v0 u1 u2 u3 u4 u5 u6 u7=> kk 17 10 5 (aJ [(64,u3),(56,ii a.dT),(60,ss a.gA),(66,u4),(58,bb u1),(62,bb u5),(1,S.ptr 0 0),(65,u6),(57,bb u2),(61,S.t (T.v (.bool !ah a.gA (bs [])))),(67,bb v0),(59,S.ptr 0 4),(55,S.ptr 0 3),(63,u7)] 25 [(0,B.box (List.map S.t (eN a)))])
def Ym (q:YF) (a:cO) (k1:T81_1):T81_0:=fun v0 u1 u2 u3 u4=>bif v0 then k1 true u1 v0 u2 u3 u4 S.ud S.ud true S.ud else k1 (bm a.gn 1) u1 v0 u2 u3 u4 (bb (bm a.gn 1)) (S.ptr 0 2) false (ii a.gn)
def Tn (q:YF) (a:cO) (k2:Int→OS):T81_1:=fun v0 u1 u2 u3 u4 u5 u6 u7 u8 u9=>bif v0 then some (ii 1) else bif bl a.gn 3 then some (ii 1) else bif bl (ay a.aH.n) 4 then some (ii 3) else bif aR (ay a.aH.n) 0 then some (ii 1) else k2 0
def KB (q:YF) (a:cO) (k2:Int→OS) (k3:T81_3) (v0:Int):OS:=bif bm v0 (ay a.aH.n) then aU v0 a.aH.n fun h=>yC q 71 [ss (a.aH.get (Fin.mk v0.toNat h))] fun y=>bif !y.b 0 then some (ii 7) else bif bl v0 0 then aU (bF .i64 v0 1) a.aH.n fun h_1=>bif !strLt (a.aH.get (Fin.mk (bF .i64 v0 1).toNat h_1)) (a.aH.get (Fin.mk v0.toNat h)) then some (ii 6) else k2 (a7 .i64 v0 1) else k2 (a7 .i64 v0 1) else yC q 74 [ii a.dT,ii 0,ii 1099511627776] fun y=>bif !y.b 0 then some (ii 1) else bif !ah a.gA (bs []) then yC q 71 [ss a.gA] fun y_1=>k3 (!y_1.b 0) (!y.b 0) (y.b 0) (ss a.gA) (S.t (T.v (.bool !y_1.b 0))) true (bb (y_1.b 0)) (S.ptr 0 4) else k3 false (!y.b 0) (y.b 0) S.ud S.ud false S.ud S.ud
def OH (q:YF) (a:cO):T81_3:=fun v0 u1 u2 u3 u4 u5 u6 u7=>bif v0 then some (ii 7) else bif !ah a.bc (bs []) then yC q 71 [ss a.bc] fun y=>bif !y.b 0 then some (ii 7) else yC q 131 [S.t (T.rows 3 a.bh.n fun i=>bS (a.bh.get i))] fun y=>some (ii (y.i 0)) else yC q 131 [S.t (T.rows 3 a.bh.n fun i=>bS (a.bh.get i))] fun y=>some (ii (y.i 0))
def Af (q:YF) (a:cO) (k0:T81_0):OS:=bif bm a.dI 1 then k0 true true S.ud S.ud S.ud else k0 (bl a.dI 4) false (ii a.dI) (S.ptr 0 0) (bb (bl a.dI 4))
structure X81 where
 x0:Bool→OS
 x1:Bool→OS
 x2:Int→OS
 x3:Bool→OS
def O8 (X:X81):T81_0:=fun v0 _ _ _ _=>X.x0 v0
def XH (X:X81):T81_1:=fun v0 _ _ _ _ _ _ _ _ _=>X.x1 v0
def CV (X:X81):Int→OS:=fun v0=>X.x2 v0
def R1 (X:X81):T81_3:=fun v0 _ _ _ _ _ _ _=>X.x3 v0
def TI (q:YF) (a:cO) (X:X81):X81:=⟨fun v0=>Ym q a (XH X) v0 dd dd dd dd,
 fun v0=>Tn q a (CV X) v0 dd dd dd dd dd dd dd dd dd,
 fun v0=>KB q a (CV X) (R1 X) v0,
 fun v0=>OH q a v0 dd dd dd dd dd dd dd⟩
def iX (q:YF) (a:cO):Nat→X81
 | 0=>⟨fun _=>none,fun _=>none,fun _=>none,fun _=>none⟩
 | n+1=>TI q a (iX q a n)
theorem ac8 (q:YF) (a:cO) (kk:PK S):TG a (P81 q kk)=Ym q a (QF a kk):=by
 kernel_rfl
theorem afo (q:YF) (a:cO) (kk:PK S):QF a (P81 q kk)=Tn q a (J5 a kk):=by
 kernel_rfl
theorem agR (q:YF) (a:cO) (kk:PK S):J5 a (P81 q kk)=KB q a (J5 a kk) (SB a kk):=by
 kernel_rfl
theorem afn (q:YF) (a:cO) (kk:PK S):SB a (P81 q kk)=OH q a:=by
 kernel_rfl
theorem ab1 (q:YF) (a:cO) (kk:PK S):BG q kk 81 Tryz.f81 [ag (eN a)]=Af q a (TG a kk):=by
 kernel_rfl
theorem h81 (q:YF) (a:cO):∀ n,TG a (H81 q n)=O8 (iX q a n)∧QF a (H81 q n)=XH (iX q a n)∧J5 a (H81 q n)=CV (iX q a n)∧SB a (H81 q n)=R1 (iX q a n)
 | 0=>⟨rfl,rfl,rfl,rfl⟩
 | n+1=>by
  obtain ⟨h0,h1,h2,h3⟩:=h81 q a n
  exact ⟨(ac8 q a (H81 q n)).trans (by rw [h1];kernel_rfl),(afo q a (H81 q n)).trans (by rw [h2];kernel_rfl),(agR q a (H81 q n)).trans (by rw [h2,h3];kernel_rfl),(afn q a (H81 q n)).trans (by kernel_rfl)⟩
theorem W81 (a:cO) (n:Nat) (x:S) (h:Af (aa O) a (O8 (iX (aa O) a n))=some x):(W O).aE 81 [ag (eN a)]=some x:=by
 refine WG (fn:=Tryz.f81) (by kernel_rfl) (by kernel_rfl) (n:=n) ?_
 refine (ab1 (aa O) a (H81 (aa O) n)).trans ?_
 obtain ⟨h0,h1,h2,h3⟩:=h81 (aa O) a n
 rw [h0]
 exact h
abbrev H82 (q:YF):Nat→PK S:=HG q 82 Tryz.f82
def GI (q:YF) (a:bu) (b:bu):OS:=bif !ah a.fType b.fType then some (bb (strLt a.fType b.fType)) else bif !ah a.bj b.bj then some (bb (strLt a.bj b.bj)) else some (bb (strLt a.bn b.bn))
theorem acf (q:YF) (a:bu) (b:bu) (kk:PK S):BG q kk 82 Tryz.f82 [ag (bS a),ag (bS b)]=GI q a b:=by
 kernel_rfl
theorem W82 (a:bu) (b:bu) (n:Nat) (x:S) (h:GI (aa O) a b=some x):(W O).aE 82 [ag (bS a),ag (bS b)]=some x:=by
 refine WG (fn:=Tryz.f82) (by kernel_rfl) (by kernel_rfl) (n:=n) ?_
 refine (acf (aa O) a b (H82 (aa O) n)).trans ?_
 exact h
abbrev P83 (q:YF) (kk:PK S):PK S:=PG q 83 Tryz.f83 kk
abbrev H83 (q:YF):Nat→PK S:=HG q 83 Tryz.f83
abbrev T83_0:Type:=Int→(List (S × S))→OS
def IC (a:Rw aV) (kk:PK S):T83_0:=fun v0 v1=> kk 5 0 0 (aJ [(14,ii (ay a.n)),(13,S.t (T.rows 7 a.n fun i=>bk (a.get i))),(3,S.mp 0),(15,ii v0)] 1 [(0,B.mp false v1)])
abbrev T83_1:Type:=(Rw bK)→Int→aV→Int→(List (S × S))→Int→OS
def K0 (a:Rw aV) (kk:PK S):T83_1:=fun v0 v1 v2 v3 v4 v5=> kk 8 0 0 (aJ [(20,S.t (T.rows 4 v0.n fun i=>cL (v0.get i))),(22,ii v3),(14,ii (ay a.n)),(5,S.ptr 1 0),(21,ii v1),(13,S.t (T.rows 7 a.n fun i=>bk (a.get i))),(3,S.mp 0),(15,ii v5)] 2 [(0,B.mp false v4),(1,B.box (List.map S.t (bk v2)))])
def Jq (q:YF) (a:Rw aV) (k1:T83_1) (v0:Int) (v1:List (S × S)):OS:=bif bm v0 (ay a.n) then aU v0 a.n fun h=>bL 900 v1 (k1 (a.get (Fin.mk v0.toNat h)).aF (ay (a.get (Fin.mk v0.toNat h)).aF.n) (a.get (Fin.mk v0.toNat h)) 0 v1 v0) else bL 900 v1 (bL 999 v1 (some (S.mt v1)))
def J4 (q:YF) (a:Rw aV) (k0:T83_0) (k1:T83_1) (v0:Rw bK) (v1:Int) (v2:aV) (v3:Int) (v4:List (S × S)) (v5:Int):OS:=bif bm v3 v1 then aU v3 v0.n fun h=>n_ O.P O.K 47 v4 (S.agg [ss v2.af,ss (v0.get (Fin.mk v3.toNat h)).bj,ss (v0.get (Fin.mk v3.toNat h)).bn]) (S.agg (ss v2.af::ii v2.a6::ii v2.a8::ii v2.cx::ii v2.cv::S.t (T.rows 2 v2.aS.n fun i=>dv (v2.aS.get i))::S.t (T.rows 4 v2.aF.n fun i=>cL (v2.aF.get i))::List.map S.t (cL (v0.get (Fin.mk v3.toNat h))))) fun m=>bL 900 m (k1 v0 v1 v2 (a7 .i64 v3 1) m v5) else bL 900 v4 (bL 900 v4 (k0 (a7 .i64 v5 1) v4))
def yl (q:YF) (a:Rw aV) (k0:T83_0):OS:=yC q 24 [S.t (T.rows 7 a.n fun i=>bk (a.get i))] fun y=>bif !aR (y.i 0) 0 then bL 999 [] (some (S.mt [])) else bL 900 [] (k0 0 [])
structure X83 where
 x0:Int→(List (S × S))→OS
 x1:(Rw bK)→Int→aV→Int→(List (S × S))→Int→OS
def D2 (X:X83):T83_0:=fun v0 v1=>X.x0 v0 v1
def Cr (X:X83):T83_1:=fun v0 v1 v2 v3 v4 v5=>X.x1 v0 v1 v2 v3 v4 v5
def Sx (q:YF) (a:Rw aV) (X:X83):X83:=⟨fun v0 v1=>Jq q a (Cr X) v0 v1,
 fun v0 v1 v2 v3 v4 v5=>J4 q a (D2 X) (Cr X) v0 v1 v2 v3 v4 v5⟩
def lH (q:YF) (a:Rw aV):Nat→X83
 | 0=>⟨fun _ _=>none,fun _ _ _ _ _ _=>none⟩
 | n+1=>Sx q a (lH q a n)
theorem ahq (q:YF) (a:Rw aV) (kk:PK S):IC a (P83 q kk)=Jq q a (K0 a kk):=by
 kernel_rfl
theorem ahc (q:YF) (a:Rw aV) (kk:PK S):K0 a (P83 q kk)=J4 q a (IC a kk) (K0 a kk):=by
 kernel_rfl
theorem ab8 (q:YF) (a:Rw aV) (kk:PK S):BG q kk 83 Tryz.f83 [S.t (T.rows 7 a.n fun i=>bk (a.get i))]=yl q a (IC a kk):=by
 kernel_rfl
theorem h83 (q:YF) (a:Rw aV):∀ n,IC a (H83 q n)=D2 (lH q a n)∧K0 a (H83 q n)=Cr (lH q a n)
 | 0=>⟨rfl,rfl⟩
 | n+1=>by
  obtain ⟨h0,h1⟩:=h83 q a n
  exact ⟨(ahq q a (H83 q n)).trans (by rw [h1];kernel_rfl),(ahc q a (H83 q n)).trans (by rw [h0,h1];kernel_rfl)⟩
theorem W83 (a:Rw aV) (n:Nat) (x:S) (h:yl (aa O) a (D2 (lH (aa O) a n))=some x):(W O).aE 83 [S.t (T.rows 7 a.n fun i=>bk (a.get i))]=some x:=by
 refine WG (fn:=Tryz.f83) (by kernel_rfl) (by kernel_rfl) (n:=n) ?_
 refine (ab8 (aa O) a (H83 (aa O) n)).trans ?_
 obtain ⟨h0,h1⟩:=h83 (aa O) a n
 rw [h0]
 exact h
abbrev H84 (q:YF):Nat→PK S:=HG q 84 Tryz.f84
def Pp (q:YF) (a:Mi) (b:bu) (c:BA) (d:BA):OS:=bif bY (bC 5 a.ll.n) 32 then yC q 2000133 [S.t (T.rows 2 (bC 5 a.ll.n) (bo (fun i=>List.take 2 (List.drop (↑i*2) [ts (bs [104,111,115,116]),ts d,ts (bs [107,105,110,100]),ts b.bn,ts (bs [112,111,111,108]),ts c,ts (bs [116,121,112,101]),ts b.fType,ts (bs [122,111,110,101]),ts b.bj])) fun i=>dv (a.ll.get i))),S.t (T.v (.func (Go.Fn.func 134) #[] #[]))] fun y=>some (S.top 2 (y.r 0).n (y.r 0).g) else none
theorem abP (q:YF) (a:Mi) (b:bu) (c:BA) (d:BA) (kk:PK S):BG q kk 84 Tryz.f84 [ag (agn a),ag (bS b),ss c,ss d]=Pp q a b c d:=by
 kernel_rfl
theorem W84 (a:Mi) (b:bu) (c:BA) (d:BA) (n:Nat) (x:S) (h:Pp (aa O) a b c d=some x):(W O).aE 84 [ag (agn a),ag (bS b),ss c,ss d]=some x:=by
 refine WG (fn:=Tryz.f84) (by kernel_rfl) (by kernel_rfl) (n:=n) ?_
 refine (abP (aa O) a b c d (H84 (aa O) n)).trans ?_
 exact h
abbrev P86 (q:YF) (kk:PK S):PK S:=PG q 86 Tryz.f86 kk
abbrev H86 (q:YF):Nat→PK S:=HG q 86 Tryz.f86
def I7 (a:Rw aV) (b:bu) (kk:PK S):Int→OS:=fun v0=> kk 5 0 0 (aJ [(0,S.t (T.rows 7 a.n fun i=>bk (a.get i))),(8,ii v0),(4,S.ptr 1 0),(5,S.ptr 2 0),(3,S.ptr 0 0)] 3 [(0,B.box (List.map S.t (bS b))),(2,B.box [ss (bs []),ss (bs []),ii 0,bb false]),(1,B.box [ss (bs []),ii 0,ii 0,ii 0,ii 0,S.t (T.v (.slice none 0 0)),S.t (T.v (.slice none 0 0))])])
def KI (a:Rw aV) (b:bu) (kk:PK S):Int→Int→OS:=fun v0 v1=> kk 8 0 0 (aJ [(0,S.t (T.rows 7 a.n fun i=>bk (a.get i))),(8,ii v0),(4,S.ptr 1 0),(9,ii v1),(5,S.ptr 2 0),(3,S.ptr 0 0)] 3 [(0,B.box (List.map S.t (bS b))),(2,B.box [ss (bs []),ss (bs []),ii 0,bb false]),(1,B.box [ss (bs []),ii 0,ii 0,ii 0,ii 0,S.t (T.v (.slice none 0 0)),S.t (T.v (.slice none 0 0))])])
abbrev T86_2:Type:=bK→Bool→Int→Int→Bool→bK→(Rw bK)→aV→(Rw bK)→aV→Bool→(Rw bK)→BA→Int→aV→aV→(Rw bK)→bK→S→S→S→Bool→S→S→Int→Int→Int→Int→Int→OS
def Nz (a:Rw aV) (b:bu) (kk:PK S):T86_2:=fun v0 v1 v2 v3 u4 u5 u6 u7 u8 u9 u10 u11 u12 u13 u14 u15 u16 u17 u18 u19 u20 u21 u22 u23 u24 u25 u26 u27 u28=> kk 11 16 21 (aJ [(0,S.t (T.rows 7 a.n fun i=>bk (a.get i))),(48,bb u4),(8,ii v2),(40,ag (cL u5)),(24,S.t (T.rows 7 a.n fun i=>bk (a.get i))),(4,S.ptr 1 0),(36,S.pt [T.rows 4 u6.n fun i=>cL (u6.get i)]),(52,u18),(44,S.pt (bk u7)),(28,S.t (T.rows 4 u8.n fun i=>cL (u8.get i))),(34,ii u24),(50,u19),(10,S.ptr 19 0),(42,ii u25),(26,S.pt (bk u9)),(38,ii u27),(54,u20),(46,S.ptr 0 0),(30,bb u10),(33,S.t (T.rows 7 a.n fun i=>bk (a.get i))),(49,bb u21),(9,ii v3),(41,S.t (T.rows 7 a.n fun i=>bk (a.get i))),(25,ii u26),(5,S.ptr 2 0),(37,S.t (T.rows 4 u11.n fun i=>cL (u11.get i))),(53,u22),(45,ss u12),(29,ii u13),(3,S.ptr 0 0),(35,S.pt (bk u14)),(51,u23),(43,S.pt (bk u15)),(27,S.pt [T.rows 4 u16.n fun i=>cL (u16.get i)]),(39,S.pt (cL u17)),(23,ii u28),(55,bb v1),(47,ss b.fType)] 43 [(0,B.box (List.map S.t (bS b))),(2,B.box [ss (bs []),ss (bs []),ii 0,bb false]),(1,B.box [ss (bs []),ii 0,ii 0,ii 0,ii 0,S.t (T.v (.slice none 0 0)),S.t (T.v (.slice none 0 0))]),(19,B.box (List.map S.t (cL v0)))])
def Jm (q:YF) (a:Rw aV) (b:bu) (k1:Int→Int→OS) (v0:Int):OS:=bif bm v0 (ay a.n) then k1 v0 0 else some (S.bJ [S.agg [ss (bs []),ii 0,ii 0,ii 0,ii 0,S.t (T.rows 2 0 fT),S.t (T.rows 4 0 fT)],S.agg [ss (bs []),ss (bs []),ii 0,bb false],bb false])
def Ll (q:YF) (a:Rw aV) (b:bu) (k0:Int→OS) (k2:T86_2) (v0 v1:Int):OS:=aU v0 a.n fun h=>bif bm v1 (ay (a.get (Fin.mk v0.toNat h)).aF.n) then aU v0 a.n fun h_1=>aU v1 (a.get (Fin.mk v0.toNat h_1)).aF.n fun h_2=>aU v0 a.n fun h_3=>bif ah (a.get (Fin.mk v0.toNat h_3)).af b.fType then k2 ((a.get (Fin.mk v0.toNat h_1)).aF.get (Fin.mk v1.toNat h_2)) (ah ((a.get (Fin.mk v0.toNat h_1)).aF.get (Fin.mk v1.toNat h_2)).bj b.bj) v0 v1 (ah (a.get (Fin.mk v0.toNat h_3)).af b.fType) ((a.get (Fin.mk v0.toNat h_1)).aF.get (Fin.mk v1.toNat h_2)) (a.get (Fin.mk v0.toNat h_1)).aF (a.get (Fin.mk v0.toNat h_3)) (a.get (Fin.mk v0.toNat h)).aF (a.get (Fin.mk v0.toNat h)) (bm v1 (ay (a.get (Fin.mk v0.toNat h)).aF.n)) (a.get (Fin.mk v0.toNat h_1)).aF (a.get (Fin.mk v0.toNat h_3)).af (ay (a.get (Fin.mk v0.toNat h)).aF.n) (a.get (Fin.mk v0.toNat h_1)) (a.get (Fin.mk v0.toNat h_3)) (a.get (Fin.mk v0.toNat h)).aF ((a.get (Fin.mk v0.toNat h_1)).aF.get (Fin.mk v1.toNat h_2)) (S.ptr 0 1) (S.ptr 19 0) (bb (ah ((a.get (Fin.mk v0.toNat h_1)).aF.get (Fin.mk v1.toNat h_2)).bj b.bj)) true (ss b.bj) (ss ((a.get (Fin.mk v0.toNat h_1)).aF.get (Fin.mk v1.toNat h_2)).bj) v0 v0 v0 v1 v1 else k2 ((a.get (Fin.mk v0.toNat h_1)).aF.get (Fin.mk v1.toNat h_2)) false v0 v1 (ah (a.get (Fin.mk v0.toNat h_3)).af b.fType) ((a.get (Fin.mk v0.toNat h_1)).aF.get (Fin.mk v1.toNat h_2)) (a.get (Fin.mk v0.toNat h_1)).aF (a.get (Fin.mk v0.toNat h_3)) (a.get (Fin.mk v0.toNat h)).aF (a.get (Fin.mk v0.toNat h)) (bm v1 (ay (a.get (Fin.mk v0.toNat h)).aF.n)) (a.get (Fin.mk v0.toNat h_1)).aF (a.get (Fin.mk v0.toNat h_3)).af (ay (a.get (Fin.mk v0.toNat h)).aF.n) (a.get (Fin.mk v0.toNat h_1)) (a.get (Fin.mk v0.toNat h_3)) (a.get (Fin.mk v0.toNat h)).aF ((a.get (Fin.mk v0.toNat h_1)).aF.get (Fin.mk v1.toNat h_2)) S.ud S.ud S.ud false S.ud S.ud v0 v0 v0 v1 v1 else k0 (a7 .i64 v0 1)
def OM (q:YF) (a:Rw aV) (b:bu) (k1:Int→Int→OS):T86_2:=fun v0 v1 v2 v3 u4 u5 u6 u7 u8 u9 u10 u11 u12 u13 u14 u15 u16 u17 u18 u19 u20 u21 u22 u23 u24 u25 u26 u27 u28=>bif v1 then bif ah v0.bn b.bn then aU v2 a.n fun h=>some (S.bJ [ag (bk (a.get (Fin.mk v2.toNat h))),ag (cL v0),bb true]) else k1 v2 (a7 .i64 v3 1) else k1 v2 (a7 .i64 v3 1)
def sP (q:YF) (a:Rw aV) (b:bu) (k0:Int→OS):OS:=yC q 33 [S.t (T.rows 7 a.n fun i=>bk (a.get i))] fun y=>bif !aR (y.i 0) 0 then some (S.bJ [S.agg [ss (bs []),ii 0,ii 0,ii 0,ii 0,S.t (T.rows 2 0 fT),S.t (T.rows 4 0 fT)],S.agg [ss (bs []),ss (bs []),ii 0,bb false],bb false]) else k0 0
structure X86 where
 x0:Int→OS
 x1:Int→Int→OS
 x2:bK→Bool→Int→Int→OS
def BX (X:X86):Int→OS:=fun v0=>X.x0 v0
def Dm (X:X86):Int→Int→OS:=fun v0 v1=>X.x1 v0 v1
def RA (X:X86):T86_2:=fun v0 v1 v2 v3 _ _ _ _ _ _ _ _ _ _ _ _ _ _ _ _ _ _ _ _ _ _ _ _ _=>X.x2 v0 v1 v2 v3
def Mg (q:YF) (a:Rw aV) (b:bu) (X:X86):X86:=⟨fun v0=>Jm q a b (Dm X) v0,
 fun v0 v1=>Ll q a b (BX X) (RA X) v0 v1,
 fun v0 v1 v2 v3=>OM q a b (Dm X) v0 v1 v2 v3 dd dd dd dd dd dd dd dd dd dd dd dd dd dd dd dd dd dd dd dd dd dd dd dd dd⟩
def jY (q:YF) (a:Rw aV) (b:bu):Nat→X86
 | 0=>⟨fun _=>none,fun _ _=>none,fun _ _ _ _=>none⟩
 | n+1=>Mg q a b (jY q a b n)
theorem agc (q:YF) (a:Rw aV) (b:bu) (kk:PK S):I7 a b (P86 q kk)=Jm q a b (KI a b kk):=by
 kernel_rfl
theorem afG (q:YF) (a:Rw aV) (b:bu) (kk:PK S):KI a b (P86 q kk)=Ll q a b (I7 a b kk) (Nz a b kk):=by
 kernel_rfl
theorem agI (q:YF) (a:Rw aV) (b:bu) (kk:PK S):Nz a b (P86 q kk)=OM q a b (KI a b kk):=by
 kernel_rfl
theorem YA (q:YF) (a:Rw aV) (b:bu) (kk:PK S):BG q kk 86 Tryz.f86 [S.t (T.rows 7 a.n fun i=>bk (a.get i)),ag (bS b)]=sP q a b (I7 a b kk):=by
 kernel_rfl
theorem h86 (q:YF) (a:Rw aV) (b:bu):∀ n,I7 a b (H86 q n)=BX (jY q a b n)∧KI a b (H86 q n)=Dm (jY q a b n)∧Nz a b (H86 q n)=RA (jY q a b n)
 | 0=>⟨rfl,rfl,rfl⟩
 | n+1=>by
  obtain ⟨h0,h1,h2⟩:=h86 q a b n
  exact ⟨(agc q a b (H86 q n)).trans (by rw [h1];kernel_rfl),(afG q a b (H86 q n)).trans (by rw [h0,h2];kernel_rfl),(agI q a b (H86 q n)).trans (by rw [h1];kernel_rfl)⟩
theorem W86 (a:Rw aV) (b:bu) (n:Nat) (x:S) (h:sP (aa O) a b (BX (jY (aa O) a b n))=some x):(W O).aE 86 [S.t (T.rows 7 a.n fun i=>bk (a.get i)),ag (bS b)]=some x:=by
 refine WG (fn:=Tryz.f86) (by kernel_rfl) (by kernel_rfl) (n:=n) ?_
 refine (YA (aa O) a b (H86 (aa O) n)).trans ?_
 obtain ⟨h0,h1,h2⟩:=h86 (aa O) a b n
 rw [h0]
 exact h
abbrev H91 (q:YF):Nat→PK S:=HG q 91 Tryz.f91
def Es (q:YF) (a:Int):OS:=bif bm a 0 then some (ii 11) else bif bl a 1125899906842624 then some (ii 10) else some (ii 0)
theorem Z9 (q:YF) (a:Int) (kk:PK S):BG q kk 91 Tryz.f91 [ii a]=Es q a:=by
 kernel_rfl
theorem W91 (a:Int) (n:Nat) (x:S) (h:Es (aa O) a=some x):(W O).aE 91 [ii a]=some x:=by
 refine WG (fn:=Tryz.f91) (by kernel_rfl) (by kernel_rfl) (n:=n) ?_
 refine (Z9 (aa O) a (H91 (aa O) n)).trans ?_
 exact h
abbrev aao (q:YF) (kk:PK S):PK S:=PG q 101 Tryz.f101 kk
abbrev Hk (q:YF):Nat→PK S:=HG q 101 Tryz.f101
def xG (a:BA) (kk:PK S):Int→OS:=fun v0=> kk 2 0 0 (aJ [(0,ss a),(8,ii (ay (aM a))),(9,ii v0),(7,S.t (T.rows 1 (aM a) fun i=>[T.v (.int .u8 (fq a i))]))] 0 [])
abbrev T101_1:Type:=Bool→S→S→Bool→S→OS
def Gc (a:BA) (kk:PK S):T101_1:=fun v0 u1 u2 u3 u4=> kk 8 8 0 (aJ [(0,ss a),(48,u1),(44,S.t (T.v (.bool !ah a (bs [])))),(46,u2),(49,bb v0),(45,bb u3),(43,ss a),(47,u4)] 8 [])
abbrev T101_2:Type:=Int→Bool→Int→Int→Int→Int→Int→Bool→Bool→S→S→Bool→Int→OS
def FF (a:BA) (kk:PK S):T101_2:=fun v0 v1 v2 v3 u4 u5 u6 u7 u8 u9 u10 u11 u12=> kk 4 7 6 (aJ [(0,ss a),(16,bb u8),(8,ii (ay (aM a))),(4,S.t (T.v (.int .u8 v0))),(12,S.pt [T.v (.int .u8 u4)]),(18,u9),(10,bb u11),(14,S.t (T.v (.int .u8 u5))),(17,u10),(9,ii v2),(13,S.t (T.v (.int .u8 u6))),(3,ii v3),(19,bb v1),(11,ii u12),(7,S.t (T.rows 1 (aM a) fun i=>[T.v (.int .u8 (fq a i))])),(15,bb u7)] 13 [])
def yd (q:YF) (a:BA) (k1:T101_1) (k2:T101_2) (v0:Int):OS:=bif bm v0 (ay (aM a)) then aU v0 (aM a) fun h=>bif cT (fq a (Fin.mk v0.toNat h)) 97 then k2 (fq a (Fin.mk v0.toNat h)) (bp (fq a (Fin.mk v0.toNat h)) 122) v0 v0 (fq a (Fin.mk v0.toNat h)) (fq a (Fin.mk v0.toNat h)) (fq a (Fin.mk v0.toNat h)) (cT (fq a (Fin.mk v0.toNat h)) 97) true (bb (bp (fq a (Fin.mk v0.toNat h)) 122)) (S.t (T.v (.int .u8 (fq a (Fin.mk v0.toNat h))))) (bm v0 (ay (aM a))) v0 else k2 (fq a (Fin.mk v0.toNat h)) false v0 v0 (fq a (Fin.mk v0.toNat h)) (fq a (Fin.mk v0.toNat h)) (fq a (Fin.mk v0.toNat h)) (cT (fq a (Fin.mk v0.toNat h)) 97) false S.ud S.ud (bm v0 (ay (aM a))) v0 else bif !ah a (bs []) then k1 (bp (cI a) 16) (bb (bp (cI a) 16)) (ss a) true (ii (cI a)) else k1 false S.ud S.ud false S.ud
def Hi (q:YF) (a:BA):T101_1:=fun v0 u1 u2 u3 u4=>some (bb v0)
def H4 (q:YF) (a:BA) (k0:Int→OS):T101_2:=fun v0 v1 v2 v3 u4 u5 u6 u7 u8 u9 u10 u11 u12=>bif !v1 then bif aR v3 0 then some (bb false) else bif !aR v0 46 then bif !aR v0 45 then bif bm v0 48 then some (bb false) else bif bl v0 57 then some (bb false) else k0 (a7 .i64 v2 1) else k0 (a7 .i64 v2 1) else k0 (a7 .i64 v2 1) else k0 (a7 .i64 v2 1)
def Bp (q:YF) (a:BA) (k0:Int→OS):OS:=bif S5 a then k0 0 else none
structure MR where
 x0:Int→OS
 x1:Bool→OS
 x2:Int→Bool→Int→Int→OS
def zk (X:MR):Int→OS:=fun v0=>X.x0 v0
def AU (X:MR):T101_1:=fun v0 _ _ _ _=>X.x1 v0
def EZ (X:MR):T101_2:=fun v0 v1 v2 v3 _ _ _ _ _ _ _ _ _=>X.x2 v0 v1 v2 v3
def QM (q:YF) (a:BA) (X:MR):MR:=⟨fun v0=>yd q a (AU X) (EZ X) v0,
 fun v0=>Hi q a v0 dd dd dd dd,
 fun v0 v1 v2 v3=>H4 q a (zk X) v0 v1 v2 v3 dd dd dd dd dd dd dd dd dd⟩
def pI (q:YF) (a:BA):Nat→MR
 | 0=>⟨fun _=>none,fun _=>none,fun _ _ _ _=>none⟩
 | n+1=>QM q a (pI q a n)
theorem ZZ (q:YF) (a:BA) (kk:PK S):xG a (aao q kk)=yd q a (Gc a kk) (FF a kk):=by
 kernel_rfl
theorem abC (q:YF) (a:BA) (kk:PK S):Gc a (aao q kk)=Hi q a:=by
 kernel_rfl
theorem aam (q:YF) (a:BA) (kk:PK S):FF a (aao q kk)=H4 q a (xG a kk):=by
 kernel_rfl
theorem W7 (q:YF) (a:BA) (kk:PK S):BG q kk 101 Tryz.f101 [ss a]=Bp q a (xG a kk):=by
 kernel_rfl
theorem aha (q:YF) (a:BA):∀ n,xG a (Hk q n)=zk (pI q a n)∧Gc a (Hk q n)=AU (pI q a n)∧FF a (Hk q n)=EZ (pI q a n)
 | 0=>⟨rfl,rfl,rfl⟩
 | n+1=>by
  obtain ⟨h0,h1,h2⟩:=aha q a n
  exact ⟨(ZZ q a (Hk q n)).trans (by rw [h1,h2];kernel_rfl),(abC q a (Hk q n)).trans (by kernel_rfl),(aam q a (Hk q n)).trans (by rw [h0];kernel_rfl)⟩
theorem aiR (a:BA) (n:Nat) (x:S) (h:Bp (aa O) a (zk (pI (aa O) a n))=some x):(W O).aE 101 [ss a]=some x:=by
 refine WG (fn:=Tryz.f101) (by kernel_rfl) (by kernel_rfl) (n:=n) ?_
 refine (W7 (aa O) a (Hk (aa O) n)).trans ?_
 obtain ⟨h0,h1,h2⟩:=aha (aa O) a n
 rw [h0]
 exact h
abbrev abG (q:YF) (kk:PK S):PK S:=PG q 102 Tryz.f102 kk
abbrev FW (q:YF):Nat→PK S:=HG q 102 Tryz.f102
def Gg (a:cr) (kk:PK S):OS:=kk 2 0 0 (aJ [(6,ag (ew a)),(7,ii 0)] 0 [])
def FT (a:cr) (kk:PK S):OS:=kk 2 0 0 (aJ [(6,ag (ew a)),(7,ii 1)] 0 [])
def HS (a:cr) (kk:PK S):OS:=kk 2 0 0 (aJ [(6,ag (ew a)),(7,ii 2)] 0 [])
def Fl (q:YF) (a:cr) (k1:OS):OS:=yC q 113 [ii a.fW] fun y=>bif !aR (y.i 0) 0 then some (ii (y.i 0)) else k1
def FB (q:YF) (a:cr) (k2:OS):OS:=yC q 113 [ii a.gK] fun y=>bif !aR (y.i 0) 0 then some (ii (y.i 0)) else k2
def FL (q:YF) (a:cr):OS:=some (ii 0)
def ym (q:YF) (a:cr) (k0:OS):OS:=k0
structure LN where
 x0:OS
 x1:OS
 x2:OS
def Ie (X:LN):OS:=X.x0
def Gf (X:LN):OS:=X.x1
def Ed (X:LN):OS:=X.x2
def Yn (q:YF) (a:cr) (X:LN):LN:=⟨Fl q a (Gf X),
 FB q a (Ed X),
 FL q a⟩
def xf (q:YF) (a:cr):Nat→LN
 | 0=>⟨none,none,none⟩
 | n+1=>Yn q a (xf q a n)
theorem YS (q:YF) (a:cr) (kk:PK S):Gg a (abG q kk)=Fl q a (FT a kk):=by
 kernel_rfl
theorem aa5 (q:YF) (a:cr) (kk:PK S):FT a (abG q kk)=FB q a (HS a kk):=by
 kernel_rfl
theorem abh (q:YF) (a:cr) (kk:PK S):HS a (abG q kk)=FL q a:=by
 kernel_rfl
theorem UC (q:YF) (a:cr) (kk:PK S):BG q kk 102 Tryz.f102 [ag (ew a)]=ym q a (Gg a kk):=by
 kernel_rfl
theorem ad7 (q:YF) (a:cr):∀ n,Gg a (FW q n)=Ie (xf q a n)∧FT a (FW q n)=Gf (xf q a n)∧HS a (FW q n)=Ed (xf q a n)
 | 0=>⟨rfl,rfl,rfl⟩
 | n+1=>by
  obtain ⟨h0,h1,h2⟩:=ad7 q a n
  exact ⟨(YS q a (FW q n)).trans (by rw [h1];kernel_rfl),(aa5 q a (FW q n)).trans (by rw [h2];kernel_rfl),(abh q a (FW q n)).trans (by kernel_rfl)⟩
theorem ah3 (a:cr) (n:Nat) (x:S) (h:ym (aa O) a (Ie (xf (aa O) a n))=some x):(W O).aE 102 [ag (ew a)]=some x:=by
 refine WG (fn:=Tryz.f102) (by kernel_rfl) (by kernel_rfl) (n:=n) ?_
 refine (UC (aa O) a (FW (aa O) n)).trans ?_
 obtain ⟨h0,h1,h2⟩:=ad7 (aa O) a n
 rw [h0]
 exact h
end
end Go.Proofs.YtonkoellfaopiaaGreatDoor.H
