import Derived.Test.YtonkoellfaopiaaGreatDoorD9
set_option linter.unusedSimpArgs false
set_option linter.unusedVariables false
set_option linter.unusedSectionVars false
namespace Go.Proofs.YtonkoellfaopiaaGreatDoor.H
open Go
noncomputable section
abbrev C_ (q:YF) (kk:PK S):PK S:=PG q 190 Tryz.f190 kk
abbrev mi (q:YF):Nat→PK S:=HG q 190 Tryz.f190
abbrev T190_0:Type:=Bool→Bool→Bool→Bool→Bool→S→Bool→S→S→OS
def Ey (a:dC) (kk:PK S):T190_0:=fun v0 u1 u2 u3 u4 u5 u6 u7 u8=> kk 4 9 8 (aJ [(0,ag (eL a)),(16,ii a.cz),(20,u5),(12,bb u1),(2,ii 0),(18,bb u6),(10,S.ptr 0 0),(22,bb v0),(14,bb u2),(1,S.ptr 0 0),(17,bb (aR a.cz 1)),(21,u7),(13,bb u3),(3,bb u4),(19,u8),(11,ss a.aZ),(15,S.ptr 0 1)] 17 [(0,B.box (List.map S.t (eL a)))])
abbrev T190_1:Type:=Bool→Bool→S→Bool→Bool→Bool→Bool→S→Bool→Bool→S→S→Bool→S→S→OS
def EH (a:dC) (kk:PK S):T190_1:=fun v0 v1 u2 u3 u4 u5 u6 u7 u8 u9 u10 u11 u12 u13 u14=> kk 5 9 17 (aJ [(0,ag (eL a)),(16,ii a.cz),(24,ii a.cz),(4,bb v0),(20,u2),(12,bb u3),(28,u11),(2,ii 0),(18,bb u4),(10,S.ptr 0 0),(26,bb u12),(22,bb u5),(14,bb u6),(30,bb v1),(1,S.ptr 0 0),(17,bb (aR a.cz 1)),(25,bb (aR a.cz 5)),(21,u7),(13,bb u8),(29,u13),(3,bb u9),(19,u10),(11,ss a.aZ),(27,u14),(23,S.ptr 0 1),(15,S.ptr 0 1)] 26 [(0,B.box (List.map S.t (eL a)))])
abbrev T190_2:Type:=Bool→Bool→Bool→S→Bool→S→Bool→Bool→Bool→Bool→Bool→S→Bool→S→Bool→S→S→S→Bool→S→S→OS
def Ee (a:dC) (kk:PK S):T190_2:=fun v0 v1 v2 u3 u4 u5 u6 u7 u8 u9 u10 u11 u12 u13 u14 u15 u16 u17 u18 u19 u20=> kk 6 9 26 (aJ [(0,ag (eL a)),(32,ii a.cz),(16,ii a.cz),(24,ii a.cz),(4,bb v0),(36,u17),(20,u3),(12,bb u4),(28,u5),(2,ii 0),(34,bb u18),(18,bb u6),(10,S.ptr 0 0),(26,bb u7),(38,bb v2),(22,bb u8),(14,bb u9),(30,bb u10),(1,S.ptr 0 0),(33,bb (bm a.cz 1)),(17,bb (aR a.cz 1)),(25,bb (aR a.cz 5)),(5,bb v1),(37,u19),(21,u11),(13,bb u12),(29,u13),(3,bb u14),(35,u20),(19,u15),(11,ss a.aZ),(27,u16),(23,S.ptr 0 1),(15,S.ptr 0 1),(31,S.ptr 0 1)] 61 [(0,B.box (List.map S.t (eL a)))])
abbrev T190_3:Type:=Bool→Bool→Bool→S→S→Bool→S→Bool→Bool→Bool→Bool→Bool→Bool→Bool→S→S→Bool→S→Bool→S→S→S→S→S→S→S→S→S→Bool→OS
def Ho (a:dC) (kk:PK S):T190_3:=fun v0 v1 u2 u3 u4 u5 u6 u7 u8 u9 u10 u11 u12 u13 u14 u15 u16 u17 u18 u19 u20 u21 u22 u23 u24 u25 u26 u27 u28=> kk 6 17 26 (aJ [(0,ag (eL a)),(32,ii a.cz),(16,ii a.cz),(40,u22),(24,ii a.cz),(4,bb u2),(36,u3),(20,u4),(12,bb u5),(44,u23),(28,u6),(2,ii 0),(34,bb u7),(18,bb u8),(10,S.ptr 0 0),(42,u24),(26,bb u9),(38,bb u10),(22,bb u11),(14,bb u12),(46,bb v0),(30,bb u13),(1,S.ptr 0 0),(33,bb (bm a.cz 1)),(17,bb (aR a.cz 1)),(41,u25),(25,bb (aR a.cz 5)),(5,bb v1),(37,u14),(21,u15),(13,bb u16),(45,u26),(29,u17),(3,bb u18),(35,u19),(19,u20),(11,ss a.aZ),(43,u27),(27,u21),(39,bb u28),(23,S.ptr 0 1),(15,S.ptr 0 1),(31,S.ptr 0 1)] 61 [(0,B.box (List.map S.t (eL a)))])
abbrev T190_4:Type:=Bool→S→Bool→S→S→Bool→S→S→Bool→Bool→S→Bool→Bool→Bool→Bool→Bool→Bool→S→Bool→S→S→Bool→S→S→Bool→S→S→S→S→Bool→S→S→S→S→S→S→S→Bool→OS
def Iq (a:dC) (kk:PK S):T190_4:=fun v0 u1 u2 u3 u4 u5 u6 u7 u8 u9 u10 u11 u12 u13 u14 u15 u16 u17 u18 u19 u20 u21 u22 u23 u24 u25 u26 u27 u28 u29 u30 u31 u32 u33 u34 u35 u36 u37=> kk 6 26 26 (aJ [(0,ag (eL a)),(32,ii a.cz),(16,ii a.cz),(48,u33),(40,u1),(24,ii a.cz),(4,bb u2),(36,u3),(20,u4),(52,u30),(12,bb u5),(44,u6),(28,u7),(2,ii 0),(34,bb u8),(18,bb u9),(50,u34),(10,S.ptr 0 0),(42,u10),(26,bb u11),(38,bb u12),(22,bb u13),(54,u35),(14,bb u14),(46,bb u15),(30,bb u16),(1,S.ptr 0 0),(33,bb (bm a.cz 1)),(17,bb (aR a.cz 1)),(49,u36),(41,u17),(25,bb (aR a.cz 5)),(5,bb u18),(37,u19),(21,u20),(53,u31),(13,bb u21),(45,u22),(29,u23),(3,bb u24),(35,u25),(19,u26),(51,u32),(11,ss a.aZ),(43,u27),(27,u28),(39,bb u29),(23,S.ptr 0 1),(55,bb v0),(15,S.ptr 0 1),(47,bb u37),(31,S.ptr 0 1)] 61 [(0,B.box (List.map S.t (eL a)))])
abbrev T190_5:Type:=Bool→S→S→Bool→S→S→S→Bool→S→S→Bool→Bool→S→S→Bool→Bool→Bool→S→Bool→Bool→Bool→S→S→Bool→S→S→S→Bool→S→S→Bool→S→S→S→S→S→Bool→Bool→Bool→Bool→S→S→S→OS
def GN (a:dC) (kk:PK S):T190_5:=fun v0 u1 u2 u3 u4 u5 u6 u7 u8 u9 u10 u11 u12 u13 u14 u15 u16 u17 u18 u19 u20 u21 u22 u23 u24 u25 u26 u27 u28 u29 u30 u31 u32 u33 u34 u35 u36 u37 u38 u39 u40 u41 u42=> kk 6 31 26 (aJ [(0,ag (eL a)),(32,ii a.cz),(16,ii a.cz),(48,u1),(40,u2),(24,ii a.cz),(56,bb u39),(4,bb u3),(36,u4),(20,u5),(52,u6),(12,bb u7),(44,u8),(28,u9),(60,bb v0),(2,ii 0),(34,bb u10),(18,bb u11),(50,u12),(10,S.ptr 0 0),(42,u13),(26,bb u14),(58,u40),(38,bb u15),(22,bb u16),(54,u17),(14,bb u18),(46,bb u19),(30,bb u20),(1,S.ptr 0 0),(33,bb (bm a.cz 1)),(17,bb (aR a.cz 1)),(49,u21),(41,u22),(25,bb (aR a.cz 5)),(57,u41),(5,bb u23),(37,u24),(21,u25),(53,u26),(13,bb u27),(45,u28),(29,u29),(3,bb u30),(35,u31),(19,u32),(51,u33),(11,ss a.aZ),(43,u34),(27,u35),(59,u42),(39,bb u36),(23,S.ptr 0 1),(55,bb u37),(15,S.ptr 0 1),(47,bb u38),(31,S.ptr 0 1)] 61 [(0,B.box (List.map S.t (eL a)))])
def Bo (a:dC) (kk:PK S):Int→OS:=fun v0=> kk 11 0 0 (aJ [(6,ii v0),(1,S.ptr 0 0)] 1 [(0,B.box (List.map S.t (eL a)))])
def A7 (a:dC) (kk:PK S):Int→OS:=fun v0=> kk 17 0 0 (aJ [(8,ii v0),(1,S.ptr 0 0)] 1 [(0,B.box (List.map S.t (eL a)))])
def Gp (q:YF) (a:dC) (k1:T190_1):T190_0:=fun v0 u1 u2 u3 u4 u5 u6 u7 u8=>bif aR a.cz 5 then k1 v0 true u5 u1 u6 v0 u2 u7 u3 u4 u8 S.ud true S.ud S.ud else k1 v0 (aR a.cz 6) u5 u1 u6 v0 u2 u7 u3 u4 u8 (ii a.cz) false (bb (aR a.cz 6)) (S.ptr 0 1)
def Hb (q:YF) (a:dC) (k2:T190_2):T190_1:=fun v0 v1 u2 u3 u4 u5 u6 u7 u8 u9 u10 u11 u12 u13 u14=>bif bm a.cz 1 then k2 v0 v1 true u2 u3 u11 u4 u12 u5 u6 v1 u7 u8 u13 u9 u10 u14 S.ud true S.ud S.ud else k2 v0 v1 (bl a.cz 6) u2 u3 u11 u4 u12 u5 u6 v1 u7 u8 u13 u9 u10 u14 (ii a.cz) false (bb (bl a.cz 6)) (S.ptr 0 1)
def TR (q:YF) (a:dC) (k3:T190_3):T190_2:=fun v0 v1 v2 u3 u4 u5 u6 u7 u8 u9 u10 u11 u12 u13 u14 u15 u16 u17 u18 u19 u20=>bif v2 then k3 true v1 v0 u17 u3 u4 u5 u18 u6 u7 v2 u8 u9 u10 u19 u11 u12 u13 u14 u20 u15 u16 S.ud S.ud S.ud S.ud S.ud S.ud true else k3 (!r9 v0 (bl (ay a.aL.n) 0)) v1 v0 u17 u3 u4 u5 u18 u6 u7 v2 u8 u9 u10 u19 u11 u12 u13 u14 u20 u15 u16 (bb v0) (bb (bl (ay a.aL.n) 0)) (S.t (T.rows 1 a.aL.n fun i=>[ts (a.aL.get i)])) (S.ptr 0 2) (S.t (T.v (.bool !r9 v0 (bl (ay a.aL.n) 0)))) (ii (ay a.aL.n)) false
def Pm (q:YF) (a:dC) (k4:T190_4):T190_3:=fun v0 v1 u2 u3 u4 u5 u6 u7 u8 u9 u10 u11 u12 u13 u14 u15 u16 u17 u18 u19 u20 u21 u22 u23 u24 u25 u26 u27 u28=>bif v0 then k4 true u22 u2 u3 u4 u5 u23 u6 u7 u8 u24 u9 u10 u11 u12 v0 u13 u25 v1 u14 u15 u16 u26 u17 u18 u19 u20 u27 u21 u28 S.ud S.ud S.ud S.ud S.ud S.ud S.ud true else bif !v1 then k4 (!aR a.fN 0) u22 u2 u3 u4 u5 u23 u6 u7 u8 u24 u9 u10 u11 u12 v0 u13 u25 v1 u14 u15 u16 u26 u17 u18 u19 u20 u27 u21 u28 (ii a.fN) (S.t (T.v (.bool !aR a.fN 0))) (S.ptr 0 3) (bb v1) (bb true) (S.t (T.v (.bool !aR a.fN 0))) (bb !v1) false else k4 false u22 u2 u3 u4 u5 u23 u6 u7 u8 u24 u9 u10 u11 u12 v0 u13 u25 v1 u14 u15 u16 u26 u17 u18 u19 u20 u27 u21 u28 S.ud S.ud S.ud (bb v1) (bb false) (bb false) (bb !v1) false
def Oq (q:YF) (a:dC) (k5:T190_5):T190_4:=fun v0 u1 u2 u3 u4 u5 u6 u7 u8 u9 u10 u11 u12 u13 u14 u15 u16 u17 u18 u19 u20 u21 u22 u23 u24 u25 u26 u27 u28 u29 u30 u31 u32 u33 u34 u35 u36 u37=>bif v0 then k5 true u33 u1 u2 u3 u4 u30 u5 u6 u7 u8 u9 u34 u10 u11 u12 u13 u35 u14 u15 u16 u36 u17 u18 u19 u20 u31 u21 u22 u23 u24 u25 u26 u32 u27 u28 u29 v0 u37 true S.ud S.ud S.ud else k5 (bm a.fN (Int.negSucc 2147483647)) u33 u1 u2 u3 u4 u30 u5 u6 u7 u8 u9 u34 u10 u11 u12 u13 u35 u14 u15 u16 u36 u17 u18 u19 u20 u31 u21 u22 u23 u24 u25 u26 u32 u27 u28 u29 v0 u37 false (ii a.fN) (S.ptr 0 3) (bb (bm a.fN (Int.negSucc 2147483647)))
def uk (q:YF) (a:dC) (k6:Int→OS):T190_5:=fun v0 u1 u2 u3 u4 u5 u6 u7 u8 u9 u10 u11 u12 u13 u14 u15 u16 u17 u18 u19 u20 u21 u22 u23 u24 u25 u26 u27 u28 u29 u30 u31 u32 u33 u34 u35 u36 u37 u38 u39 u40 u41 u42=>bif v0 then some (ii 30) else bif bl a.fN 2147483648 then some (ii 30) else bif bl (ay a.aL.n) 8 then some (ii 3) else k6 0
def xD (q:YF) (a:dC) (k6:Int→OS) (k7:Int→OS) (v0:Int):OS:=bif bm v0 (ay a.aL.n) then aU v0 a.aL.n fun h=>yC q 129 [ss (a.aL.get (Fin.mk v0.toNat h))] fun y=>bif !y.b 0 then some (ii 20) else k6 (a7 .i64 v0 1) else k7 0
def xP (q:YF) (a:dC) (k7:Int→OS) (v0:Int):OS:=bif bm v0 (ay a.aL.n) then bif bp 0 v0 && bp v0 (ay a.aL.n) then iE 0 (cK v0) a.aL.n fun h=>aU v0 a.aL.n fun h_1=>yC q 219 [S.t (T.rows 1 (cK v0) fun i=>[ts (a.aL.get (Fin.mk (0+↑i) (by first | omega | (have:=i.2;omega) | (have:=i_1.2;omega))))]),ss (a.aL.get (Fin.mk v0.toNat h_1))] fun y=>bif y.b 0 then some (ii 6) else k7 (a7 .i64 v0 1) else none else some (ii 0)
def pQ (q:YF) (a:dC) (k0:T190_0):OS:=yC q 71 [ss a.aZ] fun y=>bif !y.b 0 then some (ii 7) else bif aR a.cz 1 then k0 true (y.b 0) (!y.b 0) (y.b 0) (y.b 0) S.ud true S.ud S.ud else k0 (aR a.cz 2) (y.b 0) (!y.b 0) (y.b 0) (y.b 0) (ii a.cz) false (bb (aR a.cz 2)) (S.ptr 0 1)
structure tU where
 x0:Bool→OS
 x1:Bool→Bool→OS
 x2:Bool→Bool→Bool→OS
 x3:Bool→Bool→OS
 x4:Bool→OS
 x5:Bool→OS
 x6:Int→OS
 x7:Int→OS
def xH (X:tU):T190_0:=fun v0 _ _ _ _ _ _ _ _=>X.x0 v0
def Hw (X:tU):T190_1:=fun v0 v1 _ _ _ _ _ _ _ _ _ _ _ _ _=>X.x1 v0 v1
def ER (X:tU):T190_2:=fun v0 v1 v2 _ _ _ _ _ _ _ _ _ _ _ _ _ _ _ _ _ _=>X.x2 v0 v1 v2
def QG (X:tU):T190_3:=fun v0 v1 _ _ _ _ _ _ _ _ _ _ _ _ _ _ _ _ _ _ _ _ _ _ _ _ _ _ _=>X.x3 v0 v1
def Q3 (X:tU):T190_4:=fun v0 _ _ _ _ _ _ _ _ _ _ _ _ _ _ _ _ _ _ _ _ _ _ _ _ _ _ _ _ _ _ _ _ _ _ _ _ _=>X.x4 v0
def Nu (X:tU):T190_5:=fun v0 _ _ _ _ _ _ _ _ _ _ _ _ _ _ _ _ _ _ _ _ _ _ _ _ _ _ _ _ _ _ _ _ _ _ _ _ _ _ _ _ _ _=>X.x5 v0
def ta (X:tU):Int→OS:=fun v0=>X.x6 v0
def ur (X:tU):Int→OS:=fun v0=>X.x7 v0
def nU (q:YF) (a:dC) (X:tU):tU:=⟨fun v0=>Gp q a (Hw X) v0 dd dd dd dd dd dd dd dd,
 fun v0 v1=>Hb q a (ER X) v0 v1 dd dd dd dd dd dd dd dd dd dd dd dd dd,
 fun v0 v1 v2=>TR q a (QG X) v0 v1 v2 dd dd dd dd dd dd dd dd dd dd dd dd dd dd dd dd dd dd,
 fun v0 v1=>Pm q a (Q3 X) v0 v1 dd dd dd dd dd dd dd dd dd dd dd dd dd dd dd dd dd dd dd dd dd dd dd dd dd dd dd,
 fun v0=>Oq q a (Nu X) v0 dd dd dd dd dd dd dd dd dd dd dd dd dd dd dd dd dd dd dd dd dd dd dd dd dd dd dd dd dd dd dd dd dd dd dd dd dd,
 fun v0=>uk q a (ta X) v0 dd dd dd dd dd dd dd dd dd dd dd dd dd dd dd dd dd dd dd dd dd dd dd dd dd dd dd dd dd dd dd dd dd dd dd dd dd dd dd dd dd dd,
 fun v0=>xD q a (ta X) (ur X) v0,
 fun v0=>xP q a (ur X) v0⟩
def cn (q:YF) (a:dC):Nat→tU
 | 0=>⟨fun _=>none,fun _ _=>none,fun _ _ _=>none,fun _ _=>none,fun _=>none,fun _=>none,fun _=>none,fun _=>none⟩
 | n+1=>nU q a (cn q a n)
theorem Z8 (q:YF) (a:dC) (kk:PK S):Ey a (C_ q kk)=Gp q a (EH a kk):=by
 kernel_rfl
theorem aau (q:YF) (a:dC) (kk:PK S):EH a (C_ q kk)=Hb q a (Ee a kk):=by
 kernel_rfl
theorem abm (q:YF) (a:dC) (kk:PK S):Ee a (C_ q kk)=TR q a (Ho a kk):=by
 kernel_rfl
theorem aaf (q:YF) (a:dC) (kk:PK S):Ho a (C_ q kk)=Pm q a (Iq a kk):=by
 kernel_rfl
theorem aaD (q:YF) (a:dC) (kk:PK S):Iq a (C_ q kk)=Oq q a (GN a kk):=by
 kernel_rfl
theorem YK (q:YF) (a:dC) (kk:PK S):GN a (C_ q kk)=uk q a (Bo a kk):=by
 kernel_rfl
theorem YQ (q:YF) (a:dC) (kk:PK S):Bo a (C_ q kk)=xD q a (Bo a kk) (A7 a kk):=by
 kernel_rfl
theorem ZK (q:YF) (a:dC) (kk:PK S):A7 a (C_ q kk)=xP q a (A7 a kk):=by
 kernel_rfl
theorem VW (q:YF) (a:dC) (kk:PK S):BG q kk 190 Tryz.f190 [ag (eL a)]=pQ q a (Ey a kk):=by
 kernel_rfl
theorem aez (q:YF) (a:dC):∀ n,Ey a (mi q n)=xH (cn q a n)∧EH a (mi q n)=Hw (cn q a n)∧Ee a (mi q n)=ER (cn q a n)∧Ho a (mi q n)=QG (cn q a n)∧Iq a (mi q n)=Q3 (cn q a n)∧GN a (mi q n)=Nu (cn q a n)∧Bo a (mi q n)=ta (cn q a n)∧A7 a (mi q n)=ur (cn q a n)
 | 0=>⟨rfl,rfl,rfl,rfl,rfl,rfl,rfl,rfl⟩
 | n+1=>by
  obtain ⟨h0,h1,h2,h3,h4,h5,h6,h7⟩:=aez q a n
  exact ⟨(Z8 q a (mi q n)).trans (by rw [h1];kernel_rfl),(aau q a (mi q n)).trans (by rw [h2];kernel_rfl),(abm q a (mi q n)).trans (by rw [h3];kernel_rfl),(aaf q a (mi q n)).trans (by rw [h4];kernel_rfl),(aaD q a (mi q n)).trans (by rw [h5];kernel_rfl),(YK q a (mi q n)).trans (by rw [h6];kernel_rfl),(YQ q a (mi q n)).trans (by rw [h6,h7];kernel_rfl),(ZK q a (mi q n)).trans (by rw [h7];kernel_rfl)⟩
theorem ajm (a:dC) (n:Nat) (x:S) (h:pQ (aa O) a (xH (cn (aa O) a n))=some x):(W O).aE 190 [ag (eL a)]=some x:=by
 refine WG (fn:=Tryz.f190) (by kernel_rfl) (by kernel_rfl) (n:=n) ?_
 refine (VW (aa O) a (mi (aa O) n)).trans ?_
 obtain ⟨h0,h1,h2,h3,h4,h5,h6,h7⟩:=aez (aa O) a n
 rw [h0]
 exact h
abbrev af7 (q:YF) (kk:PK S):PK S:=PG q 191 Tryz.f191 kk
abbrev SM (q:YF):Nat→PK S:=HG q 191 Tryz.f191
def Hn (a:Rw BA) (kk:PK S):OS:=kk 3 0 0 (aJ [(0,S.t (T.rows 1 a.n fun i=>[ts (a.get i)])),(4,ii 0),(3,S.t (T.v (.slice none 0 0)))] 0 [])
def xE (a:Rw BA) (kk:PK S):bN→Int→OS:=fun v0 v1=> kk 3 0 0 (aJ [(0,S.t (T.rows 1 a.n fun i=>[ts (a.get i)])),(4,ii v1),(3,S.t (T.rows 1 v0.n v0.g))] 0 [])
def Ao (q:YF) (a:Rw BA) (k1:bN→Int→OS):OS:=bif bm 0 (ay a.n) then aU 0 a.n fun h=>yC q 220 [S.t (T.v (.slice none 0 0)),ss (a.get (Fin.mk (Int.ofNat 0).toNat h))] fun y=>k1 (y.r 0) 1 else some (S.t (T.rows 1 0 fT))
def Ba (q:YF) (a:Rw BA) (k1:bN→Int→OS) (v0:bN) (v1:Int):OS:=bif bm v1 (ay a.n) then aU v1 a.n fun h=>yC q 220 [S.t (T.rows 1 v0.n v0.g),ss (a.get (Fin.mk v1.toNat h))] fun y=>k1 (y.r 0) (a7 .i64 v1 1) else some (S.t (T.rows 1 v0.n v0.g))
def JH (q:YF) (a:Rw BA) (k0:OS):OS:=k0
structure PB where
 x0:OS
 x1:bN→Int→OS
def TD (X:PB):OS:=X.x0
def tL (X:PB):bN→Int→OS:=fun v0 v1=>X.x1 v0 v1
def Ds (q:YF) (a:Rw BA) (X:PB):PB:=⟨Ao q a (tL X),
 fun v0 v1=>Ba q a (tL X) v0 v1⟩
def j5 (q:YF) (a:Rw BA):Nat→PB
 | 0=>⟨none,fun _ _=>none⟩
 | n+1=>Ds q a (j5 q a n)
theorem aaH (q:YF) (a:Rw BA) (kk:PK S):Hn a (af7 q kk)=Ao q a (xE a kk):=by
 kernel_rfl
theorem aae (q:YF) (a:Rw BA) (kk:PK S):xE a (af7 q kk)=Ba q a (xE a kk):=by
 kernel_rfl
theorem Wn (q:YF) (a:Rw BA) (kk:PK S):BG q kk 191 Tryz.f191 [S.t (T.rows 1 a.n fun i=>e9 (a.get i))]=JH q a (Hn a kk):=by
 kernel_rfl
theorem adJ (q:YF) (a:Rw BA):∀ n,Hn a (SM q n)=TD (j5 q a n)∧xE a (SM q n)=tL (j5 q a n)
 | 0=>⟨rfl,rfl⟩
 | n+1=>by
  obtain ⟨h0,h1⟩:=adJ q a n
  exact ⟨(aaH q a (SM q n)).trans (by rw [h1];kernel_rfl),(aae q a (SM q n)).trans (by rw [h1];kernel_rfl)⟩
theorem ajD (a:Rw BA) (n:Nat) (x:S) (h:JH (aa O) a (TD (j5 (aa O) a n))=some x):(W O).aE 191 [S.t (T.rows 1 a.n fun i=>e9 (a.get i))]=some x:=by
 refine WG (fn:=Tryz.f191) (by kernel_rfl) (by kernel_rfl) (n:=n) ?_
 refine (Wn (aa O) a (SM (aa O) n)).trans ?_
 obtain ⟨h0,h1⟩:=adJ (aa O) a n
 rw [h0]
 exact h
abbrev Dg (q:YF) (kk:PK S):PK S:=PG q 192 Tryz.f192 kk
abbrev mW (q:YF):Nat→PK S:=HG q 192 Tryz.f192
def r8 (a:Int) (b:Int) (kk:PK S):Int→OS:=fun v0=> kk 1 0 0 (aJ [(0,ii v0),(2,S.t (T.v (.slice none 0 0))),(6,S.ptr 0 0),(1,ii b)] 1 [(0,B.box [bb false,bb false,bb false,S.t (T.v (.slice none 0 0)),ii 0,ii 0])])
def sj (a:Int) (b:Int) (kk:PK S):Int→Int→OS:=fun v0 v1=> kk 6 0 0 (aJ [(0,ii v0),(2,S.t (T.v (.slice none 0 0))),(6,S.ptr 0 0),(1,ii v1)] 1 [(0,B.box [bb false,bb false,bb false,S.t (T.v (.slice none 0 0)),ii 0,ii 0])])
def yo (a:Int) (b:Int) (kk:PK S):Int→Int→OS:=fun v0 v1=> kk 13 0 0 (aJ [(0,ii v0),(12,S.t (T.v (.slice none 0 0))),(2,S.t (T.v (.slice none 0 0))),(6,S.ptr 0 0),(1,ii v1),(13,ii 0)] 1 [(0,B.box [bb false,bb false,bb false,S.t (T.v (.slice none 0 0)),ii 0,ii 0])])
def sC (a:Int) (b:Int) (kk:PK S):Int→Int→OS:=fun v0 v1=> kk 21 0 0 (aJ [(16,S.t (T.v (.slice none 0 0))),(12,S.t (T.v (.slice none 0 0))),(6,S.ptr 0 0),(1,ii v0),(17,ii v1)] 1 [(0,B.box [bb false,bb false,bb false,S.t (T.v (.slice none 0 0)),ii 0,ii 0])])
abbrev T192b_4:Type:=bN→Int→Int→OS
def sJ (a:Int) (b:Int) (kk:PK S):T192b_4:=fun v0 v1 v2=> kk 21 0 0 (aJ [(16,S.t (T.rows 1 v0.n v0.g)),(12,S.t (T.v (.slice none 0 0))),(6,S.ptr 0 0),(1,ii v1),(17,ii v2)] 1 [(0,B.box [bb false,bb false,bb false,S.t (T.v (.slice none 0 0)),ii 0,ii 0])])
def A5 (q:YF) (a:Int) (b:Int) (k0:Int→OS) (k1:Int→Int→OS) (v0:Int):OS:=bif bp v0 b then yC q 193 [ii v0] fun y=>yC q 219 [S.t (T.v (.slice none 0 0)),ss (y.s 0)] fun y=>bif !y.b 0 then k1 v0 b else k0 (a7 .i64 v0 1) else k1 v0 b
def zW (q:YF) (a:Int) (b:Int) (k1:Int→Int→OS) (k2:Int→Int→OS) (v0 v1:Int):OS:=bif bp v0 v1 then yC q 193 [ii v1] fun y=>yC q 219 [S.t (T.v (.slice none 0 0)),ss (y.s 0)] fun y=>bif !y.b 0 then k2 v0 v1 else k1 v0 (bF .i64 v1 1) else k2 v0 v1
def sb (q:YF) (a:Int) (b:Int) (k3:Int→Int→OS) (v0 v1:Int):OS:=bif bp (bF .i64 (a7 .i64 (bF .i64 v1 v0) 1) (ay 0)) 64 then k3 v1 v0 else some (S.bJ [S.agg [bb false,bb true,bb true,S.t (T.rows 1 0 fT),ii v0,ii v1],bb true])
def sd (q:YF) (a:Int) (b:Int) (k3:Int→Int→OS) (k4:T192b_4) (v0 v1:Int):OS:=bif bp v1 v0 then yC q 193 [ii v1] fun y=>yC q 219 [S.t (T.v (.slice none 0 0)),ss (y.s 0)] fun y_1=>bif !y_1.b 0 then yC q 220 [S.t (T.v (.slice none 0 0)),ss (y.s 0)] fun y=>k4 (y.r 0) v0 (a7 .i64 v1 1) else k3 v0 (a7 .i64 v1 1) else some (S.bJ [S.agg [bb false,bb false,bb false,S.t (T.rows 1 0 fT),ii 0,ii 0],bb true])
def sr (q:YF) (a:Int) (b:Int) (k4:T192b_4):T192b_4:=fun v0 v1 v2=>bif bp v2 v1 then yC q 193 [ii v2] fun y=>yC q 219 [S.t (T.v (.slice none 0 0)),ss (y.s 0)] fun y_1=>bif !y_1.b 0 then yC q 220 [S.t (T.rows 1 v0.n v0.g),ss (y.s 0)] fun y=>k4 (y.r 0) v1 (a7 .i64 v2 1) else k4 v0 v1 (a7 .i64 v2 1) else some (S.bJ [S.agg [bb false,bb false,bb false,S.t (T.rows 1 v0.n v0.g),ii 0,ii 0],bb true])
def D5 (q:YF) (a:Int) (b:Int) (k0:Int→OS):OS:=k0 a
structure rn where
 x0:Int→OS
 x1:Int→Int→OS
 x2:Int→Int→OS
 x3:Int→Int→OS
 x4:bN→Int→Int→OS
def AD (X:rn):Int→OS:=fun v0=>X.x0 v0
def sE (X:rn):Int→Int→OS:=fun v0 v1=>X.x1 v0 v1
def zb (X:rn):Int→Int→OS:=fun v0 v1=>X.x2 v0 v1
def sD (X:rn):Int→Int→OS:=fun v0 v1=>X.x3 v0 v1
def oZ (X:rn):T192b_4:=fun v0 v1 v2=>X.x4 v0 v1 v2
def lv (q:YF) (a:Int) (b:Int) (X:rn):rn:=⟨fun v0=>A5 q a b (AD X) (sE X) v0,
 fun v0 v1=>zW q a b (sE X) (zb X) v0 v1,
 fun v0 v1=>sb q a b (sD X) v0 v1,
 fun v0 v1=>sd q a b (sD X) (oZ X) v0 v1,
 fun v0 v1 v2=>sr q a b (oZ X) v0 v1 v2⟩
def da (q:YF) (a:Int) (b:Int):Nat→rn
 | 0=>⟨fun _=>none,fun _ _=>none,fun _ _=>none,fun _ _=>none,fun _ _ _=>none⟩
 | n+1=>lv q a b (da q a b n)
theorem Xe (q:YF) (a:Int) (b:Int) (kk:PK S):r8 a b (Dg q kk)=A5 q a b (r8 a b kk) (sj a b kk):=by
 kernel_rfl
theorem VH (q:YF) (a:Int) (b:Int) (kk:PK S):sj a b (Dg q kk)=zW q a b (sj a b kk) (yo a b kk):=by
 kernel_rfl
theorem WU (q:YF) (a:Int) (b:Int) (kk:PK S):yo a b (Dg q kk)=sb q a b (sC a b kk):=by
 kernel_rfl
theorem WW (q:YF) (a:Int) (b:Int) (kk:PK S):sC a b (Dg q kk)=sd q a b (sC a b kk) (sJ a b kk):=by
 kernel_rfl
theorem Xc (q:YF) (a:Int) (b:Int) (kk:PK S):sJ a b (Dg q kk)=sr q a b (sJ a b kk):=by
 kernel_rfl
theorem Sn (q:YF) (a:Int) (b:Int) (kk:PK S):BG q kk 192 Tryz.f192 [ii a,ii b,S.t (T.v (.slice none 0 0))]=D5 q a b (r8 a b kk):=by
 kernel_rfl
theorem XG (q:YF) (a:Int) (b:Int):∀ n,r8 a b (mW q n)=AD (da q a b n)∧sj a b (mW q n)=sE (da q a b n)∧yo a b (mW q n)=zb (da q a b n)∧sC a b (mW q n)=sD (da q a b n)∧sJ a b (mW q n)=oZ (da q a b n)
 | 0=>⟨rfl,rfl,rfl,rfl,rfl⟩
 | n+1=>by
  obtain ⟨h0,h1,h2,h3,h4⟩:=XG q a b n
  exact ⟨(Xe q a b (mW q n)).trans (by rw [h0,h1];kernel_rfl),(VH q a b (mW q n)).trans (by rw [h1,h2];kernel_rfl),(WU q a b (mW q n)).trans (by rw [h3];kernel_rfl),(WW q a b (mW q n)).trans (by rw [h3,h4];kernel_rfl),(Xc q a b (mW q n)).trans (by rw [h4];kernel_rfl)⟩
theorem adi (a:Int) (b:Int) (n:Nat) (x:S) (h:D5 (aa O) a b (AD (da (aa O) a b n))=some x):(W O).aE 192 [ii a,ii b,S.t (T.v (.slice none 0 0))]=some x:=by
 refine WG (fn:=Tryz.f192) (by kernel_rfl) (by kernel_rfl) (n:=n) ?_
 refine (Sn (aa O) a b (mW (aa O) n)).trans ?_
 obtain ⟨h0,h1,h2,h3,h4⟩:=XG (aa O) a b n
 rw [h0]
 exact h
abbrev aiN (q:YF) (kk:PK S):PK S:=PG q 193 Tryz.f193 kk
abbrev acV (q:YF):Nat→PK S:=HG q 193 Tryz.f193
abbrev T193_0:Type:=Int→BA→OS
def yh (a:Int) (kk:PK S):T193_0:=fun v0 v1=> kk 3 0 0 (aJ [(0,ii a),(4,ii v0),(3,ss v1)] 0 [])
def En (q:YF) (a:Int) (k0:T193_0):T193_0:=fun v0 v1=>bif bm (na v0 10) 0 then bif vX (fD [gE .u8 (a7 .i64 48 (bF .i64 0 (na v0 10)))]) v1 then bif aR (Gn .i64 v0 10) 0 then bif bm a 0 then bif vX (bs [45]) (nI (fD [gE .u8 (a7 .i64 48 (bF .i64 0 (na v0 10)))]) v1) then some (ss (nI (bs [45]) (nI (fD [gE .u8 (a7 .i64 48 (bF .i64 0 (na v0 10)))]) v1))) else none else some (ss (nI (fD [gE .u8 (a7 .i64 48 (bF .i64 0 (na v0 10)))]) v1)) else k0 (Gn .i64 v0 10) (nI (fD [gE .u8 (a7 .i64 48 (bF .i64 0 (na v0 10)))]) v1) else none else bif vX (fD [gE .u8 (a7 .i64 48 (na v0 10))]) v1 then bif aR (Gn .i64 v0 10) 0 then bif bm a 0 then bif vX (bs [45]) (nI (fD [gE .u8 (a7 .i64 48 (na v0 10))]) v1) then some (ss (nI (bs [45]) (nI (fD [gE .u8 (a7 .i64 48 (na v0 10))]) v1))) else none else some (ss (nI (fD [gE .u8 (a7 .i64 48 (na v0 10))]) v1)) else k0 (Gn .i64 v0 10) (nI (fD [gE .u8 (a7 .i64 48 (na v0 10))]) v1) else none
def BF (q:YF) (a:Int) (k0:T193_0):OS:=k0 a (bs [])
structure U3 where
 x0:Int→BA→OS
def qI (X:U3):T193_0:=fun v0 v1=>X.x0 v0 v1
def Xn (q:YF) (a:Int) (X:U3):U3:=⟨fun v0 v1=>En q a (qI X) v0 v1⟩
def wA (q:YF) (a:Int):Nat→U3
 | 0=>⟨fun _ _=>none⟩
 | n+1=>Xn q a (wA q a n)
theorem ac6 (q:YF) (a:Int) (kk:PK S):yh a (aiN q kk)=En q a (yh a kk):=by
 kernel_rfl
theorem Vz (q:YF) (a:Int) (kk:PK S):BG q kk 193 Tryz.f193 [ii a]=BF q a (yh a kk):=by
 kernel_rfl
theorem aeH (q:YF) (a:Int):∀ n,yh a (acV q n)=qI (wA q a n)
 | 0=>rfl
 | n+1=>by
  have h0:=aeH q a n
  exact (ac6 q a (acV q n)).trans (by rw [h0];kernel_rfl)
theorem ajd (a:Int) (n:Nat) (x:S) (h:BF (aa O) a (qI (wA (aa O) a n))=some x):(W O).aE 193 [ii a]=some x:=by
 refine WG (fn:=Tryz.f193) (by kernel_rfl) (by kernel_rfl) (n:=n) ?_
 refine (Vz (aa O) a (acV (aa O) n)).trans ?_
 have h0:=aeH (aa O) a n
 rw [h0]
 exact h
abbrev V3 (q:YF) (kk:PK S):PK S:=PG q 215 Tryz.f215 kk
abbrev zu (q:YF):Nat→PK S:=HG q 215 Tryz.f215
abbrev T215_0:Type:=Bool→Bool→S→S→S→OS
def Is (a:dC) (kk:PK S):T215_0:=fun v0 u1 u2 u3 u4=> kk 1 9 2 (aJ [(0,ag (eL a)),(8,bb u1),(12,bb v0),(2,ii 0),(10,u2),(6,ii a.cz),(1,S.ptr 0 0),(9,u3),(5,S.ptr 0 1),(11,u4),(7,bb (aR a.cz 1))] 11 [(0,B.box (List.map S.t (eL a)))])
abbrev T215_1:Type:=Bool→Bool→Bool→Bool→S→S→S→Bool→S→S→S→OS
def Hc (a:dC) (kk:PK S):T215_1:=fun v0 v1 u2 u3 u4 u5 u6 u7 u8 u9 u10=> kk 2 9 11 (aJ [(0,ag (eL a)),(16,bb u7),(8,bb u2),(20,bb v1),(12,bb u3),(2,ii 0),(18,u8),(10,u4),(6,ii a.cz),(14,ii a.cz),(1,S.ptr 0 0),(17,u9),(9,u5),(5,S.ptr 0 1),(13,S.ptr 0 1),(3,bb v0),(19,u10),(11,u6),(7,bb (aR a.cz 1)),(15,bb (aR a.cz 5))] 20 [(0,B.box (List.map S.t (eL a)))])
abbrev T215_2:Type:=Bool→Bool→Bool→Bool→Bool→Bool→Bool→Bool→S→S→S→S→Bool→Bool→S→S→S→Bool→S→S→OS
def Hv (a:dC) (kk:PK S):T215_2:=fun v0 v1 v2 u3 u4 u5 u6 u7 u8 u9 u10 u11 u12 u13 u14 u15 u16 u17 u18 u19=> kk 5 9 25 (aJ [(0,ag (eL a)),(32,u16),(16,bb u3),(8,bb u4),(24,bb u5),(4,bb v0),(20,bb u6),(12,bb u7),(28,ii a.cz),(2,ii 0),(34,bb v2),(18,u8),(10,u9),(6,ii a.cz),(22,S.ptr 0 0),(14,ii a.cz),(30,bb u17),(1,S.ptr 0 0),(33,u18),(17,u10),(9,u11),(25,bb u12),(5,S.ptr 0 1),(21,bb u13),(13,S.ptr 0 1),(29,bb (bm a.cz 1)),(3,bb v1),(19,u14),(11,u15),(27,S.ptr 0 1),(7,bb (aR a.cz 1)),(23,ss a.aZ),(15,bb (aR a.cz 5)),(31,u19)] 34 [(0,B.box (List.map S.t (eL a)))])
abbrev T215_3:Type:=Bool→S→Bool→Bool→Bool→Bool→Bool→Bool→Bool→Bool→S→S→Bool→Bool→Bool→S→S→S→Bool→Bool→Bool→Bool→Bool→S→S→S→S→S→S→Bool→OS
def Hj (a:dC) (kk:PK S):T215_3:=fun v0 u1 u2 u3 u4 u5 u6 u7 u8 u9 u10 u11 u12 u13 u14 u15 u16 u17 u18 u19 u20 u21 u22 u23 u24 u25 u26 u27 u28 u29=> kk 7 8 41 (aJ [(0,ag (eL a)),(32,u1),(16,bb u2),(8,bb u3),(40,bb u4),(24,bb u5),(4,bb u6),(36,S.ptr 0 2),(20,bb u7),(12,bb u8),(44,u26),(28,ii a.cz),(2,ii 0),(34,bb u9),(18,u10),(10,u11),(42,bb u12),(26,bb u13),(6,ii a.cz),(38,ii (ay a.aL.n)),(22,S.ptr 0 0),(14,ii a.cz),(46,u27),(30,bb u14),(1,S.ptr 0 0),(33,u15),(17,u16),(9,u17),(41,bb u18),(25,bb u19),(5,S.ptr 0 1),(37,S.t (T.rows 1 a.aL.n fun i=>[ts (a.aL.get i)])),(21,bb u20),(13,S.ptr 0 1),(45,u28),(29,bb (bm a.cz 1)),(3,bb u21),(35,bb u22),(19,u23),(11,u24),(43,bb u29),(27,S.ptr 0 1),(7,bb (aR a.cz 1)),(39,bb (bl (ay a.aL.n) 0)),(23,ss a.aZ),(15,bb (aR a.cz 5)),(47,bb v0),(31,u25)] 49 [(0,B.box (List.map S.t (eL a)))])
def Eg (q:YF) (a:dC) (k1:T215_1):T215_0:=fun v0 u1 u2 u3 u4=>bif aR a.cz 5 then k1 v0 true u1 v0 u2 u3 u4 true S.ud S.ud S.ud else k1 v0 (aR a.cz 6) u1 v0 u2 u3 u4 false (ii a.cz) (S.ptr 0 1) (bb (aR a.cz 6))
def EA (q:YF) (a:dC) (k2:T215_2):T215_1:=fun v0 v1 u2 u3 u4 u5 u6 u7 u8 u9 u10=>yC q 101 [ss a.aZ] fun y=>bif !y.b 0 then some (ii 7) else bif bm a.cz 1 then k2 v1 v0 true u7 u2 (y.b 0) v1 u3 u8 u4 u9 u5 (!y.b 0) (!y.b 0) u10 u6 S.ud true S.ud S.ud else k2 v1 v0 (bl a.cz 6) u7 u2 (y.b 0) v1 u3 u8 u4 u9 u5 (!y.b 0) (!y.b 0) u10 u6 (ii a.cz) false (bb (bl a.cz 6)) (S.ptr 0 1)
def GO (q:YF) (a:dC) (k3:T215_3):T215_2:=fun v0 v1 v2 u3 u4 u5 u6 u7 u8 u9 u10 u11 u12 u13 u14 u15 u16 u17 u18 u19=>bif v2 then bif v2 then some (ii 30) else bif bl (ay a.aL.n) 8 then some (ii 3) else yC q 151 [S.t (T.rows 1 a.aL.n fun i=>[ts (a.aL.get i)]),S.t (T.v (.func (Go.Fn.func 229) #[] #[]))] fun y=>bif y.b 0 then some (ii 20) else yC q 217 [S.t (T.rows 1 1 fun i=>List.take 1 (List.drop (↑i*1) [T.rows 1 a.aL.n fun i=>[ts (a.aL.get i)]]))] fun y=>rT (y.m 0) (bif bm (ay (rR (y.m 0))) (ay a.aL.n) then some (ii 6) else some (ii 0)) else bif !r9 v1 (bl (ay a.aL.n) 0) then bif !r9 v1 (bl (ay a.aL.n) 0) then some (ii 30) else bif bl (ay a.aL.n) 8 then some (ii 3) else yC q 151 [S.t (T.rows 1 a.aL.n fun i=>[ts (a.aL.get i)]),S.t (T.v (.func (Go.Fn.func 229) #[] #[]))] fun y=>bif y.b 0 then some (ii 20) else yC q 217 [S.t (T.rows 1 1 fun i=>List.take 1 (List.drop (↑i*1) [T.rows 1 a.aL.n fun i=>[ts (a.aL.get i)]]))] fun y=>rT (y.m 0) (bif bm (ay (rR (y.m 0))) (ay a.aL.n) then some (ii 6) else some (ii 0)) else bif !v0 then k3 (!aR a.fN 0) u16 u3 u4 (!r9 v1 (bl (ay a.aL.n) 0)) u5 v0 u6 u7 v2 u8 u9 (!v0) (!r9 v1 (bl (ay a.aL.n) 0)) u17 u18 u10 u11 v0 u12 u13 v1 v1 u14 u15 u19 (S.ptr 0 3) (S.t (T.v (.bool !aR a.fN 0))) (ii a.fN) true else k3 false u16 u3 u4 (!r9 v1 (bl (ay a.aL.n) 0)) u5 v0 u6 u7 v2 u8 u9 (!v0) (!r9 v1 (bl (ay a.aL.n) 0)) u17 u18 u10 u11 v0 u12 u13 v1 v1 u14 u15 u19 S.ud S.ud S.ud false
def HJ (q:YF) (a:dC):T215_3:=fun v0 u1 u2 u3 u4 u5 u6 u7 u8 u9 u10 u11 u12 u13 u14 u15 u16 u17 u18 u19 u20 u21 u22 u23 u24 u25 u26 u27 u28 u29=>bif v0 then bif v0 then some (ii 30) else bif bl (ay a.aL.n) 8 then some (ii 3) else yC q 151 [S.t (T.rows 1 a.aL.n fun i=>[ts (a.aL.get i)]),S.t (T.v (.func (Go.Fn.func 229) #[] #[]))] fun y=>bif y.b 0 then some (ii 20) else yC q 217 [S.t (T.rows 1 1 fun i=>List.take 1 (List.drop (↑i*1) [T.rows 1 a.aL.n fun i=>[ts (a.aL.get i)]]))] fun y=>rT (y.m 0) (bif bm (ay (rR (y.m 0))) (ay a.aL.n) then some (ii 6) else some (ii 0)) else bif bm a.fN (Int.negSucc 2147483647) then bif bm a.fN (Int.negSucc 2147483647) then some (ii 30) else bif bl (ay a.aL.n) 8 then some (ii 3) else yC q 151 [S.t (T.rows 1 a.aL.n fun i=>[ts (a.aL.get i)]),S.t (T.v (.func (Go.Fn.func 229) #[] #[]))] fun y=>bif y.b 0 then some (ii 20) else yC q 217 [S.t (T.rows 1 1 fun i=>List.take 1 (List.drop (↑i*1) [T.rows 1 a.aL.n fun i=>[ts (a.aL.get i)]]))] fun y=>rT (y.m 0) (bif bm (ay (rR (y.m 0))) (ay a.aL.n) then some (ii 6) else some (ii 0)) else bif bl a.fN 2147483648 then some (ii 30) else bif bl (ay a.aL.n) 8 then some (ii 3) else yC q 151 [S.t (T.rows 1 a.aL.n fun i=>[ts (a.aL.get i)]),S.t (T.v (.func (Go.Fn.func 229) #[] #[]))] fun y=>bif y.b 0 then some (ii 20) else yC q 217 [S.t (T.rows 1 1 fun i=>List.take 1 (List.drop (↑i*1) [T.rows 1 a.aL.n fun i=>[ts (a.aL.get i)]]))] fun y=>rT (y.m 0) (bif bm (ay (rR (y.m 0))) (ay a.aL.n) then some (ii 6) else some (ii 0))
def sA (q:YF) (a:dC) (k0:T215_0):OS:=bif aR a.cz 1 then k0 true true S.ud S.ud S.ud else k0 (aR a.cz 2) false (ii a.cz) (S.ptr 0 1) (bb (aR a.cz 2))
structure GR where
 x0:Bool→OS
 x1:Bool→Bool→OS
 x2:Bool→Bool→Bool→OS
 x3:Bool→OS
def zr (X:GR):T215_0:=fun v0 _ _ _ _=>X.x0 v0
def ES (X:GR):T215_1:=fun v0 v1 _ _ _ _ _ _ _ _ _=>X.x1 v0 v1
def Gz (X:GR):T215_2:=fun v0 v1 v2 _ _ _ _ _ _ _ _ _ _ _ _ _ _ _ _ _=>X.x2 v0 v1 v2
def G8 (X:GR):T215_3:=fun v0 _ _ _ _ _ _ _ _ _ _ _ _ _ _ _ _ _ _ _ _ _ _ _ _ _ _ _ _ _=>X.x3 v0
def CR (q:YF) (a:dC) (X:GR):GR:=⟨fun v0=>Eg q a (ES X) v0 dd dd dd dd,
 fun v0 v1=>EA q a (Gz X) v0 v1 dd dd dd dd dd dd dd dd dd,
 fun v0 v1 v2=>GO q a (G8 X) v0 v1 v2 dd dd dd dd dd dd dd dd dd dd dd dd dd dd dd dd dd,
 fun v0=>HJ q a v0 dd dd dd dd dd dd dd dd dd dd dd dd dd dd dd dd dd dd dd dd dd dd dd dd dd dd dd dd dd⟩
def il (q:YF) (a:dC):Nat→GR
 | 0=>⟨fun _=>none,fun _ _=>none,fun _ _ _=>none,fun _=>none⟩
 | n+1=>CR q a (il q a n)
theorem aaR (q:YF) (a:dC) (kk:PK S):Is a (V3 q kk)=Eg q a (Hc a kk):=by
 kernel_rfl
theorem acM (q:YF) (a:dC) (kk:PK S):Hc a (V3 q kk)=EA q a (Hv a kk):=by
 kernel_rfl
theorem aca (q:YF) (a:dC) (kk:PK S):Hv a (V3 q kk)=GO q a (Hj a kk):=by
 kernel_rfl
theorem ack (q:YF) (a:dC) (kk:PK S):Hj a (V3 q kk)=HJ q a:=by
 kernel_rfl
theorem Uw (q:YF) (a:dC) (kk:PK S):BG q kk 215 Tryz.f215 [ag (eL a)]=sA q a (Is a kk):=by
 kernel_rfl
theorem adZ (q:YF) (a:dC):∀ n,Is a (zu q n)=zr (il q a n)∧Hc a (zu q n)=ES (il q a n)∧Hv a (zu q n)=Gz (il q a n)∧Hj a (zu q n)=G8 (il q a n)
 | 0=>⟨rfl,rfl,rfl,rfl⟩
 | n+1=>by
  obtain ⟨h0,h1,h2,h3⟩:=adZ q a n
  exact ⟨(aaR q a (zu q n)).trans (by rw [h1];kernel_rfl),(acM q a (zu q n)).trans (by rw [h2];kernel_rfl),(aca q a (zu q n)).trans (by rw [h3];kernel_rfl),(ack q a (zu q n)).trans (by kernel_rfl)⟩
theorem ai8 (a:dC) (n:Nat) (x:S) (h:sA (aa O) a (zr (il (aa O) a n))=some x):(W O).aE 215 [ag (eL a)]=some x:=by
 refine WG (fn:=Tryz.f215) (by kernel_rfl) (by kernel_rfl) (n:=n) ?_
 refine (Uw (aa O) a (zu (aa O) n)).trans ?_
 obtain ⟨h0,h1,h2,h3⟩:=adZ (aa O) a n
 rw [h0]
 exact h
abbrev ads (q:YF) (kk:PK S):PK S:=PG q 217 Tryz.f217 kk
abbrev OR (q:YF):Nat→PK S:=HG q 217 Tryz.f217
def Bm (a:Rw (Rw BA)) (kk:PK S):Int→(List (S × S))→OS:=fun v0 v1=> kk 3 0 0 (aJ [(10,ii (ay a.n)),(9,S.t (T.rows 1 a.n fun i=>[T.rows 1 (a.get i).n fun i_1=>[ts ((a.get i).get i_1)]])),(3,S.mp 0),(11,ii v0)] 1 [(0,B.mp false v1)])
def xT (a:Rw (Rw BA)) (kk:PK S):Int→(Rw BA)→Int→(List (S × S))→Int→OS:=fun v0 v1 v2 v3 v4=> kk 6 0 0 (aJ [(16,ii v0),(10,ii (ay a.n)),(17,ii v2),(9,S.t (T.rows 1 a.n fun i=>[T.rows 1 (a.get i).n fun i_1=>[ts ((a.get i).get i_1)]])),(3,S.mp 0),(11,ii v4),(15,S.t (T.rows 1 v1.n fun i=>[ts (v1.get i)]))] 1 [(0,B.mp false v3)])
def yp (q:YF) (a:Rw (Rw BA)) (k1:Int→(Rw BA)→Int→(List (S × S))→Int→OS) (v0:Int) (v1:List (S × S)):OS:=bif bm v0 (ay a.n) then aU v0 a.n fun h=>bL 900 v1 (k1 (ay (a.get (Fin.mk v0.toNat h)).n) (a.get (Fin.mk v0.toNat h)) 0 v1 v0) else bL 900 v1 (bL 999 v1 (some (S.mt v1)))
def yv (q:YF) (a:Rw (Rw BA)) (k0:Int→(List (S × S))→OS) (k1:Int→(Rw BA)→Int→(List (S × S))→Int→OS) (v0:Int) (v1:Rw BA) (v2:Int) (v3:List (S × S)) (v4:Int):OS:=bif bm v2 v0 then aU v2 v1.n fun h=>n_ O.P O.K 9 v3 (ss (v1.get (Fin.mk v2.toNat h))) (bb true) fun m=>bL 900 m (k1 v0 v1 (a7 .i64 v2 1) m v4) else bL 900 v3 (bL 900 v3 (k0 (a7 .i64 v4 1) v3))
def Iv (q:YF) (a:Rw (Rw BA)) (k0:Int→(List (S × S))→OS):OS:=bL 900 [] (k0 0 [])
structure P8 where
 x0:Int→(List (S × S))→OS
 x1:Int→(Rw BA)→Int→(List (S × S))→Int→OS
def F2 (X:P8):Int→(List (S × S))→OS:=fun v0 v1=>X.x0 v0 v1
def uK (X:P8):Int→(Rw BA)→Int→(List (S × S))→Int→OS:=fun v0 v1 v2 v3 v4=>X.x1 v0 v1 v2 v3 v4
def CZ (q:YF) (a:Rw (Rw BA)) (X:P8):P8:=⟨fun v0 v1=>yp q a (uK X) v0 v1,
 fun v0 v1 v2 v3 v4=>yv q a (F2 X) (uK X) v0 v1 v2 v3 v4⟩
def kV (q:YF) (a:Rw (Rw BA)):Nat→P8
 | 0=>⟨fun _ _=>none,fun _ _ _ _ _=>none⟩
 | n+1=>CZ q a (kV q a n)
theorem aad (q:YF) (a:Rw (Rw BA)) (kk:PK S):Bm a (ads q kk)=yp q a (xT a kk):=by
 kernel_rfl
theorem aar (q:YF) (a:Rw (Rw BA)) (kk:PK S):xT a (ads q kk)=yv q a (Bm a kk) (xT a kk):=by
 kernel_rfl
theorem UQ (q:YF) (a:Rw (Rw BA)) (kk:PK S):BG q kk 217 Tryz.f217 [S.t (T.rows 1 a.n fun i=>e31 (a.get i))]=Iv q a (Bm a kk):=by
 kernel_rfl
theorem aeC (q:YF) (a:Rw (Rw BA)):∀ n,Bm a (OR q n)=F2 (kV q a n)∧xT a (OR q n)=uK (kV q a n)
 | 0=>⟨rfl,rfl⟩
 | n+1=>by
  obtain ⟨h0,h1⟩:=aeC q a n
  exact ⟨(aad q a (OR q n)).trans (by rw [h1];kernel_rfl),(aar q a (OR q n)).trans (by rw [h0,h1];kernel_rfl)⟩
theorem ahX (a:Rw (Rw BA)) (n:Nat) (x:S) (h:Iv (aa O) a (F2 (kV (aa O) a n))=some x):(W O).aE 217 [S.t (T.rows 1 a.n fun i=>e31 (a.get i))]=some x:=by
 refine WG (fn:=Tryz.f217) (by kernel_rfl) (by kernel_rfl) (n:=n) ?_
 refine (UQ (aa O) a (OR (aa O) n)).trans ?_
 obtain ⟨h0,h1⟩:=aeC (aa O) a n
 rw [h0]
 exact h
abbrev ag3 (q:YF) (kk:PK S):PK S:=PG q 217 Tryz.f217 kk
abbrev OP (q:YF):Nat→PK S:=HG q 217 Tryz.f217
def z7 (kk:PK S):OS:=kk 3 0 0 (aJ [(10,ii (ay 0)),(9,S.t (T.v (.slice none 0 0))),(3,S.mp 0),(11,ii 0)] 1 [(0,B.mp false [])])
def J1 (q:YF):OS:=bL 900 [] (bL 999 [] (some (S.mt [])))
def Dx (q:YF) (k0:OS):OS:=bL 900 [] k0
structure KC where
 x0:OS
def JX (X:KC):OS:=X.x0
def Zi (q:YF) (X:KC):KC:=⟨J1 q⟩
def Hd (q:YF):Nat→KC
 | 0=>⟨none⟩
 | n+1=>Zi q (Hd q n)
theorem Wt (q:YF) (kk:PK S):z7 (ag3 q kk)=J1 q:=by
 kernel_rfl
theorem RT (q:YF) (kk:PK S):BG q kk 217 Tryz.f217 [S.t (T.v (.slice none 0 0))]=Dx q (z7 kk):=by
 kernel_rfl
theorem XL (q:YF):∀ n,z7 (OP q n)=JX (Hd q n)
 | 0=>rfl
 | n+1=>by
  have h0:=XL q n
  exact (Wt q (OP q n)).trans (by kernel_rfl)
theorem adH (n:Nat) (x:S) (h:Dx (aa O) (JX (Hd (aa O) n))=some x):(W O).aE 217 [S.t (T.v (.slice none 0 0))]=some x:=by
 refine WG (fn:=Tryz.f217) (by kernel_rfl) (by kernel_rfl) (n:=n) ?_
 refine (RT (aa O) (OP (aa O) n)).trans ?_
 have h0:=XL (aa O) n
 rw [h0]
 exact h
abbrev J8 (q:YF) (kk:PK S):PK S:=PG q 218 Tryz.f218 kk
abbrev p3 (q:YF):Nat→PK S:=HG q 218 Tryz.f218
def sG (a:Int) (b:Int) (kk:PK S):Int→OS:=fun v0=> kk 1 0 0 (aJ [(0,ii v0),(2,S.mt []),(6,S.ptr 0 0),(1,ii b)] 1 [(0,B.box [bb false,bb false,bb false,S.t (T.v (.slice none 0 0)),ii 0,ii 0])])
def r6 (a:Int) (b:Int) (kk:PK S):Int→Int→OS:=fun v0 v1=> kk 3 0 0 (aJ [(0,ii v0),(2,S.mt []),(6,S.ptr 0 0),(1,ii v1)] 1 [(0,B.box [bb false,bb false,bb false,S.t (T.v (.slice none 0 0)),ii 0,ii 0])])
def A4 (a:Int) (b:Int) (kk:PK S):Int→Int→OS:=fun v0 v1=> kk 6 0 0 (aJ [(0,ii v0),(2,S.mt []),(6,S.ptr 0 0),(1,ii v1),(37,S.it)] 1 [(0,B.box [bb false,bb false,bb false,S.t (T.v (.slice none 0 0)),ii 0,ii 0])])
abbrev T218b_3:Type:=Int→Int→(List (S × S))→OS
def sq (a:Int) (b:Int) (kk:PK S):T218b_3:=fun v0 v1 v2=> kk 15 0 0 (aJ [(12,ii v0),(2,S.mt []),(6,S.ptr 0 0),(1,ii v1),(11,S.mp 1)] 2 [(0,B.box [bb false,bb false,bb false,S.t (T.v (.slice none 0 0)),ii 0,ii 0]),(1,B.mp false v2)])
def zQ (q:YF) (a:Int) (b:Int) (k0:Int→OS) (k1:Int→Int→OS) (v0:Int):OS:=bif bp v0 b then yC q 214 [ii v0,ii 10] fun y=>lookW O.P O.K 9 4 [] (ss (y.s 0)) (fun y=>bif y.b 0 then k0 (a7 .i64 v0 1) else k1 v0 b) (k1 v0 b) else k1 v0 b
def ye (q:YF) (a:Int) (b:Int) (k1:Int→Int→OS) (k2:Int→Int→OS) (v0 v1:Int):OS:=bif bp v0 v1 then yC q 214 [ii v1,ii 10] fun y=>lookW O.P O.K 9 4 [] (ss (y.s 0)) (fun y=>bif y.b 0 then k1 v0 (bF .i64 v1 1) else k2 v0 v1) (k2 v0 v1) else k2 v0 v1
def pF (q:YF) (a:Int) (b:Int) (k3:T218b_3) (v0 v1:Int):OS:=bif bl (bF .i64 (a7 .i64 (bF .i64 v1 v0) 1) (ay (rR []))) 64 then bL 998 [] (yC q 216 [S.mt []] fun y=>some (S.bJ [S.agg [bb false,bb true,bb true,S.t (T.rows 1 (y.r 0).n (y.r 0).g),ii v0,ii v1],bb (bp (ay (rR [])) 64)])) else bL 900 [] (k3 v0 v1 [])
def pU (q:YF) (a:Int) (b:Int) (k3:T218b_3) (v0 v1:Int) (v2:List (S × S)):OS:=bif bp v0 v1 then yC q 214 [ii v0,ii 10] fun y=>lookW O.P O.K 9 4 [] (ss (y.s 0)) (fun y_1=>bif !y_1.b 0 then n_ O.P O.K 9 v2 (ss (y.s 0)) (bb true) fun m=>bL 900 m (k3 (a7 .i64 v0 1) v1 m) else bL 900 v2 (k3 (a7 .i64 v0 1) v1 v2)) (n_ O.P O.K 9 v2 (ss (y.s 0)) (bb true) fun m=>bL 900 m (k3 (a7 .i64 v0 1) v1 m)) else bL 900 v2 (bL 998 v2 (yC q 216 [S.mt v2] fun y=>some (S.bJ [S.agg [bb false,bb false,bb false,S.t (T.rows 1 (y.r 0).n (y.r 0).g),ii 0,ii 0],bb true])))
def Ct (q:YF) (a:Int) (b:Int) (k0:Int→OS):OS:=k0 a
structure s_ where
 x0:Int→OS
 x1:Int→Int→OS
 x2:Int→Int→OS
 x3:Int→Int→(List (S × S))→OS
def xU (X:s_):Int→OS:=fun v0=>X.x0 v0
def sB (X:s_):Int→Int→OS:=fun v0 v1=>X.x1 v0 v1
def xY (X:s_):Int→Int→OS:=fun v0 v1=>X.x2 v0 v1
def nq (X:s_):T218b_3:=fun v0 v1 v2=>X.x3 v0 v1 v2
def lu (q:YF) (a:Int) (b:Int) (X:s_):s_:=⟨fun v0=>zQ q a b (xU X) (sB X) v0,
 fun v0 v1=>ye q a b (sB X) (xY X) v0 v1,
 fun v0 v1=>pF q a b (nq X) v0 v1,
 fun v0 v1 v2=>pU q a b (nq X) v0 v1 v2⟩
def di (q:YF) (a:Int) (b:Int):Nat→s_
 | 0=>⟨fun _=>none,fun _ _=>none,fun _ _=>none,fun _ _ _=>none⟩
 | n+1=>lu q a b (di q a b n)
theorem V8 (q:YF) (a:Int) (b:Int) (kk:PK S):sG a b (J8 q kk)=zQ q a b (sG a b kk) (r6 a b kk):=by
 kernel_rfl
theorem Ve (q:YF) (a:Int) (b:Int) (kk:PK S):r6 a b (J8 q kk)=ye q a b (r6 a b kk) (A4 a b kk):=by
 kernel_rfl
theorem VJ (q:YF) (a:Int) (b:Int) (kk:PK S):A4 a b (J8 q kk)=pF q a b (sq a b kk):=by
 kernel_rfl
theorem VU (q:YF) (a:Int) (b:Int) (kk:PK S):sq a b (J8 q kk)=pU q a b (sq a b kk):=by
 kernel_rfl
theorem Oa (q:YF) (a:Int) (b:Int) (kk:PK S):BG q kk 218 Tryz.f218 [ii a,ii b,S.mt []]=Ct q a b (sG a b kk):=by
 kernel_rfl
theorem XD (q:YF) (a:Int) (b:Int):∀ n,sG a b (p3 q n)=xU (di q a b n)∧r6 a b (p3 q n)=sB (di q a b n)∧A4 a b (p3 q n)=xY (di q a b n)∧sq a b (p3 q n)=nq (di q a b n)
 | 0=>⟨rfl,rfl,rfl,rfl⟩
 | n+1=>by
  obtain ⟨h0,h1,h2,h3⟩:=XD q a b n
  exact ⟨(V8 q a b (p3 q n)).trans (by rw [h0,h1];kernel_rfl),(Ve q a b (p3 q n)).trans (by rw [h1,h2];kernel_rfl),(VJ q a b (p3 q n)).trans (by rw [h3];kernel_rfl),(VU q a b (p3 q n)).trans (by rw [h3];kernel_rfl)⟩
theorem agA (a:Int) (b:Int) (n:Nat) (x:S) (h:Ct (aa O) a b (xU (di (aa O) a b n))=some x):(W O).aE 218 [ii a,ii b,S.mt []]=some x:=by
 refine WG (fn:=Tryz.f218) (by kernel_rfl) (by kernel_rfl) (n:=n) ?_
 refine (Oa (aa O) a b (p3 (aa O) n)).trans ?_
 obtain ⟨h0,h1,h2,h3⟩:=XD (aa O) a b n
 rw [h0]
 exact h
abbrev ai2 (q:YF) (kk:PK S):PK S:=PG q 219 Tryz.f219 kk
abbrev YV (q:YF):Nat→PK S:=HG q 219 Tryz.f219
def yc (a:Rw BA) (b:BA) (kk:PK S):Int→OS:=fun v0=> kk 2 0 0 (aJ [(0,S.t (T.rows 1 a.n fun i=>[ts (a.get i)])),(1,ss b),(5,ii v0)] 0 [])
def xJ (q:YF) (a:Rw BA) (b:BA) (k0:Int→OS) (v0:Int):OS:=bif bm v0 (ay a.n) then aU v0 a.n fun h=>bif ah (a.get (Fin.mk v0.toNat h)) b then some (bb true) else k0 (a7 .i64 v0 1) else some (bb false)
def Jg (q:YF) (a:Rw BA) (b:BA) (k0:Int→OS):OS:=k0 0
structure Vs where
 x0:Int→OS
def BB (X:Vs):Int→OS:=fun v0=>X.x0 v0
def Ti (q:YF) (a:Rw BA) (b:BA) (X:Vs):Vs:=⟨fun v0=>xJ q a b (BB X) v0⟩
def pR (q:YF) (a:Rw BA) (b:BA):Nat→Vs
 | 0=>⟨fun _=>none⟩
 | n+1=>Ti q a b (pR q a b n)
theorem Yz (q:YF) (a:Rw BA) (b:BA) (kk:PK S):yc a b (ai2 q kk)=xJ q a b (yc a b kk):=by
 kernel_rfl
theorem We (q:YF) (a:Rw BA) (b:BA) (kk:PK S):BG q kk 219 Tryz.f219 [S.t (T.rows 1 a.n fun i=>e9 (a.get i)),ss b]=Jg q a b (yc a b kk):=by
 kernel_rfl
theorem agq (q:YF) (a:Rw BA) (b:BA):∀ n,yc a b (YV q n)=BB (pR q a b n)
 | 0=>rfl
 | n+1=>by
  have h0:=agq q a b n
  exact (Yz q a b (YV q n)).trans (by rw [h0];kernel_rfl)
theorem ajA (a:Rw BA) (b:BA) (n:Nat) (x:S) (h:Jg (aa O) a b (BB (pR (aa O) a b n))=some x):(W O).aE 219 [S.t (T.rows 1 a.n fun i=>e9 (a.get i)),ss b]=some x:=by
 refine WG (fn:=Tryz.f219) (by kernel_rfl) (by kernel_rfl) (n:=n) ?_
 refine (We (aa O) a b (YV (aa O) n)).trans ?_
 have h0:=agq (aa O) a b n
 rw [h0]
 exact h
abbrev adM (q:YF) (kk:PK S):PK S:=PG q 219 Tryz.f219 kk
abbrev RD (q:YF):Nat→PK S:=HG q 219 Tryz.f219
def zY (b:BA) (kk:PK S):OS:=kk 2 0 0 (aJ [(0,S.t (T.v (.slice none 0 0))),(1,ss b),(5,ii 0)] 0 [])
def IW (q:YF) (b:BA):OS:=some (bb false)
def C1 (q:YF) (b:BA) (k0:OS):OS:=k0
structure JB where
 x0:OS
def JF (X:JB):OS:=X.x0
def abw (q:YF) (b:BA) (X:JB):JB:=⟨IW q b⟩
def HQ (q:YF) (b:BA):Nat→JB
 | 0=>⟨none⟩
 | n+1=>abw q b (HQ q b n)
theorem Ww (q:YF) (b:BA) (kk:PK S):zY b (adM q kk)=IW q b:=by
 kernel_rfl
theorem T3 (q:YF) (b:BA) (kk:PK S):BG q kk 219 Tryz.f219 [S.t (T.v (.slice none 0 0)),ss b]=C1 q b (zY b kk):=by
 kernel_rfl
theorem XP (q:YF) (b:BA):∀ n,zY b (RD q n)=JF (HQ q b n)
 | 0=>rfl
 | n+1=>by
  have h0:=XP q b n
  exact (Ww q b (RD q n)).trans (by kernel_rfl)
theorem agT (b:BA) (n:Nat) (x:S) (h:C1 (aa O) b (JF (HQ (aa O) b n))=some x):(W O).aE 219 [S.t (T.v (.slice none 0 0)),ss b]=some x:=by
 refine WG (fn:=Tryz.f219) (by kernel_rfl) (by kernel_rfl) (n:=n) ?_
 refine (T3 (aa O) b (RD (aa O) n)).trans ?_
 have h0:=XP (aa O) b n
 rw [h0]
 exact h
abbrev akh (q:YF) (kk:PK S):PK S:=PG q 220 Tryz.f220 kk
abbrev aaV (q:YF):Nat→PK S:=HG q 220 Tryz.f220
def yF (a:Rw BA) (b:BA) (kk:PK S):Int→OS:=fun v0=> kk 2 0 0 (aJ [(0,S.t (T.rows 1 a.n fun i=>[ts (a.get i)])),(1,ss b),(5,ii v0)] 0 [])
def mr (q:YF) (a:Rw BA) (b:BA) (k0:Int→OS) (v0:Int):OS:=bif bm v0 (ay a.n) then aU v0 a.n fun h=>bif strLt (a.get (Fin.mk v0.toNat h)) b then k0 (a7 .i64 v0 1) else bif bm v0 (ay a.n) then aU v0 a.n fun h=>bif ah (a.get (Fin.mk v0.toNat h)) b then some (S.t (T.rows 1 a.n fun i=>[ts (a.get i)])) else bif bp 0 v0 && bp v0 (ay a.n) then iE 0 (cK v0) a.n fun h=>bif bY (cK v0) 16 then bif bY (bC (cK v0) 1) 16 then bif bp 0 v0 && bp v0 (ay a.n) && bp (ay a.n) (ay a.n) then iE (cK v0) (eM a.n (cK v0)) a.n fun h_1=>bif bY (bC (bC (cK v0) 1) (eM a.n (cK v0))) 16 then some (S.t (T.rows 1 (bC (bC (cK v0) 1) (eM a.n (cK v0))) (bo (bo (fun i=>[ts (a.get (Fin.mk (0+↑i) (by first | omega | (have:=i.2;omega) | (have:=i_1.2;omega))))]) fun i=>List.take 1 (List.drop (↑i*1) [ts b])) fun i=>[ts (a.get (Fin.mk (cK v0+↑i) (by first | omega | (have:=i.2;omega) | (have:=i_1.2;omega))))]))) else none else none else none else none else none else bif bp 0 v0 && bp v0 (ay a.n) then iE 0 (cK v0) a.n fun h=>bif bY (cK v0) 16 then bif bY (bC (cK v0) 1) 16 then bif bp 0 v0 && bp v0 (ay a.n) && bp (ay a.n) (ay a.n) then iE (cK v0) (eM a.n (cK v0)) a.n fun h_1=>bif bY (bC (bC (cK v0) 1) (eM a.n (cK v0))) 16 then some (S.t (T.rows 1 (bC (bC (cK v0) 1) (eM a.n (cK v0))) (bo (bo (fun i=>[ts (a.get (Fin.mk (0+↑i) (by first | omega | (have:=i.2;omega) | (have:=i_1.2;omega))))]) fun i=>List.take 1 (List.drop (↑i*1) [ts b])) fun i=>[ts (a.get (Fin.mk (cK v0+↑i) (by first | omega | (have:=i.2;omega) | (have:=i_1.2;omega))))]))) else none else none else none else none else none else bif bm v0 (ay a.n) then aU v0 a.n fun h=>bif ah (a.get (Fin.mk v0.toNat h)) b then some (S.t (T.rows 1 a.n fun i=>[ts (a.get i)])) else bif bp 0 v0 && bp v0 (ay a.n) then iE 0 (cK v0) a.n fun h=>bif bY (cK v0) 16 then bif bY (bC (cK v0) 1) 16 then bif bp 0 v0 && bp v0 (ay a.n) && bp (ay a.n) (ay a.n) then iE (cK v0) (eM a.n (cK v0)) a.n fun h_1=>bif bY (bC (bC (cK v0) 1) (eM a.n (cK v0))) 16 then some (S.t (T.rows 1 (bC (bC (cK v0) 1) (eM a.n (cK v0))) (bo (bo (fun i=>[ts (a.get (Fin.mk (0+↑i) (by first | omega | (have:=i.2;omega) | (have:=i_1.2;omega))))]) fun i=>List.take 1 (List.drop (↑i*1) [ts b])) fun i=>[ts (a.get (Fin.mk (cK v0+↑i) (by first | omega | (have:=i.2;omega) | (have:=i_1.2;omega))))]))) else none else none else none else none else none else bif bp 0 v0 && bp v0 (ay a.n) then iE 0 (cK v0) a.n fun h=>bif bY (cK v0) 16 then bif bY (bC (cK v0) 1) 16 then bif bp 0 v0 && bp v0 (ay a.n) && bp (ay a.n) (ay a.n) then iE (cK v0) (eM a.n (cK v0)) a.n fun h_1=>bif bY (bC (bC (cK v0) 1) (eM a.n (cK v0))) 16 then some (S.t (T.rows 1 (bC (bC (cK v0) 1) (eM a.n (cK v0))) (bo (bo (fun i=>[ts (a.get (Fin.mk (0+↑i) (by first | omega | (have:=i.2;omega) | (have:=i_1.2;omega))))]) fun i=>List.take 1 (List.drop (↑i*1) [ts b])) fun i=>[ts (a.get (Fin.mk (cK v0+↑i) (by first | omega | (have:=i.2;omega) | (have:=i_1.2;omega))))]))) else none else none else none else none else none
def Kv (q:YF) (a:Rw BA) (b:BA) (k0:Int→OS):OS:=k0 0
structure Ut where
 x0:Int→OS
def AE (X:Ut):Int→OS:=fun v0=>X.x0 v0
def NZ (q:YF) (a:Rw BA) (b:BA) (X:Ut):Ut:=⟨fun v0=>mr q a b (AE X) v0⟩
def lZ (q:YF) (a:Rw BA) (b:BA):Nat→Ut
 | 0=>⟨fun _=>none⟩
 | n+1=>NZ q a b (lZ q a b n)
theorem abf (q:YF) (a:Rw BA) (b:BA) (kk:PK S):yF a b (akh q kk)=mr q a b (yF a b kk):=by
 kernel_rfl
theorem V6 (q:YF) (a:Rw BA) (b:BA) (kk:PK S):BG q kk 220 Tryz.f220 [S.t (T.rows 1 a.n fun i=>e9 (a.get i)),ss b]=Kv q a b (yF a b kk):=by
 kernel_rfl
theorem afx (q:YF) (a:Rw BA) (b:BA):∀ n,yF a b (aaV q n)=AE (lZ q a b n)
 | 0=>rfl
 | n+1=>by
  have h0:=afx q a b n
  exact (abf q a b (aaV q n)).trans (by rw [h0];kernel_rfl)
theorem ajC (a:Rw BA) (b:BA) (n:Nat) (x:S) (h:Kv (aa O) a b (AE (lZ (aa O) a b n))=some x):(W O).aE 220 [S.t (T.rows 1 a.n fun i=>e9 (a.get i)),ss b]=some x:=by
 refine WG (fn:=Tryz.f220) (by kernel_rfl) (by kernel_rfl) (n:=n) ?_
 refine (V6 (aa O) a b (aaV (aa O) n)).trans ?_
 have h0:=afx (aa O) a b n
 rw [h0]
 exact h
abbrev aeZ (q:YF) (kk:PK S):PK S:=PG q 220 Tryz.f220 kk
abbrev Q5 (q:YF):Nat→PK S:=HG q 220 Tryz.f220
def xM (b:BA) (kk:PK S):OS:=kk 2 0 0 (aJ [(0,S.t (T.v (.slice none 0 0))),(1,ss b),(5,ii 0)] 0 [])
def Aj (q:YF) (b:BA):OS:=bif bY 1 16 then bif bY 1 16 then some (S.t (T.rows 1 1 (bo (bo (fun (i:Fin 0)=>False.rec (fun x=>List T) (by have:=i.2;omega)) fun (i:Fin 1)=>List.take 1 (List.drop (↑i*1) [ts b])) fun (i:Fin 0)=>False.rec (fun x=>List T) (by have:=i.2;omega)))) else none else none
def uw (q:YF) (b:BA) (k0:OS):OS:=k0
structure Ku where
 x0:OS
def Ae (X:Ku):OS:=X.x0
def Zd (q:YF) (b:BA) (X:Ku):Ku:=⟨Aj q b⟩
def Am (q:YF) (b:BA):Nat→Ku
 | 0=>⟨none⟩
 | n+1=>Zd q b (Am q b n)
theorem Wj (q:YF) (b:BA) (kk:PK S):xM b (aeZ q kk)=Aj q b:=by
 kernel_rfl
theorem SF (q:YF) (b:BA) (kk:PK S):BG q kk 220 Tryz.f220 [S.t (T.v (.slice none 0 0)),ss b]=uw q b (xM b kk):=by
 kernel_rfl
theorem Yj (q:YF) (b:BA):∀ n,xM b (Q5 q n)=Ae (Am q b n)
 | 0=>rfl
 | n+1=>by
  have h0:=Yj q b n
  exact (Wj q b (Q5 q n)).trans (by kernel_rfl)
theorem aej (b:BA) (n:Nat) (x:S) (h:uw (aa O) b (Ae (Am (aa O) b n))=some x):(W O).aE 220 [S.t (T.v (.slice none 0 0)),ss b]=some x:=by
 refine WG (fn:=Tryz.f220) (by kernel_rfl) (by kernel_rfl) (n:=n) ?_
 refine (SF (aa O) b (Q5 (aa O) n)).trans ?_
 have h0:=Yj (aa O) b n
 rw [h0]
 exact h
abbrev akw (q:YF):Nat→PK S:=HG q 229 Tryz.f229
def zJ (q:YF) (a:BA):OS:=yC q 146 [ss a] fun y=>some (S.t (T.v (.bool !y.b 0)))
theorem UA (q:YF) (a:BA) (kk:PK S):BG q kk 229 Tryz.f229 [ss a]=zJ q a:=by
 kernel_rfl
theorem akt (a:BA) (n:Nat) (x:S) (h:zJ (aa O) a=some x):(W O).aE 229 [ss a]=some x:=by
 refine WG (fn:=Tryz.f229) (by kernel_rfl) (by kernel_rfl) (n:=n) ?_
 refine (UA (aa O) a (akw (aa O) n)).trans ?_
 exact h
end
end Go.Proofs.YtonkoellfaopiaaGreatDoor.H
