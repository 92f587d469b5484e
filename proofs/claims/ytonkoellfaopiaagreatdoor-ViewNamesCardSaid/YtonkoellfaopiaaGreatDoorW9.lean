import Derived.Test.YtonkoellfaopiaaGreatDoorW7
set_option linter.unusedSimpArgs false
set_option linter.unusedVariables false
namespace Go.Proofs.YtonkoellfaopiaaGreatDoor.H
open Go
noncomputable section
abbrev P22 (q:YF) (kk:PK S):PK S:=PG q 22 Tryz.f22 kk
abbrev H22 (q:YF):Nat→PK S:=HG q 22 Tryz.f22
def s22_0 (a:Int) (v0:Bool) (u1:S) (u2:Bool) (u3:S):St:=mkSt [(0,ii a),(8,bb v0),(4,bb (geI a 0)),(2,bb false),(6,u1),(5,bb u2),(3,ii a),(7,u3)] 8 []
abbrev T22_0:Type:=Bool→S→Bool→S→OS
def K22_0 (a:Int) (kk:PK S):T22_0:=fun v0 u1 u2 u3=> kk 1 7 1 (s22_0 a v0 u1 u2 u3)
def b22_0 (q:YF) (a:Int) (v0:Bool) (u1:S) (u2:Bool) (u3:S):OS:=some (bb v0)
def e22_in (q:YF) (a:Int) (k0:T22_0):OS:=bif geI a 0 then k0 (leI a 1099511627776) (ii a) true (bb (leI a 1099511627776)) else k0 false S.ud false S.ud
structure X22 where
 x0:Bool→OS
def D22_0 (X:X22):T22_0:=fun v0 _ _ _=>X.x0 v0
def X22s (q:YF) (a:Int) (X:X22):X22:=⟨fun v0=>b22_0 q a v0 dd dd dd⟩
def X22n (q:YF) (a:Int):Nat→X22
 | 0=>⟨fun _=>none⟩
 | n+1=>X22s q a (X22n q a n)
theorem l22_0 (q:YF) (a:Int) (kk:PK S):K22_0 a (P22 q kk)=b22_0 q a:=by
 kernel_rfl
theorem l22_in (q:YF) (a:Int) (kk:PK S):BG q kk 22 Tryz.f22 [ii a]=e22_in q a (K22_0 a kk):=by
 kernel_rfl
theorem h22 (q:YF) (a:Int):∀ n,K22_0 a (H22 q n)=D22_0 (X22n q a n)
 | 0=>rfl
 | n+1=>by
  have h0:=h22 q a n
  exact (l22_0 q a (H22 q n)).trans (by kernel_rfl)
theorem W22 (a:Int) (n:Nat) (x:S) (h:e22_in (regs O) a (D22_0 (X22n (regs O) a n))=some x):(W O).callT 22 [ii a]=some x:=by
 refine WG (fn:=Tryz.f22) (by kernel_rfl) (by kernel_rfl) (n:=n) ?_
 refine (l22_in (regs O) a (H22 (regs O) n)).trans ?_
 have h0:=h22 (regs O) a n
 rw [h0]
 exact h
abbrev P23 (q:YF) (kk:PK S):PK S:=PG q 23 Tryz.f23 kk
abbrev H23 (q:YF):Nat→PK S:=HG q 23 Tryz.f23
def s23_0 (a:Int) (v0:Bool) (u1:S) (u2:Bool) (u3:S):St:=mkSt [(0,ii a),(8,bb v0),(4,bb (geI a 0)),(2,bb false),(6,u1),(5,bb u2),(3,ii a),(7,u3)] 8 []
def K23_0 (a:Int) (kk:PK S):T22_0:=fun v0 u1 u2 u3=> kk 1 7 1 (s23_0 a v0 u1 u2 u3)
def b23_0 (q:YF) (a:Int) (v0:Bool) (u1:S) (u2:Bool) (u3:S):OS:=some (bb v0)
def e23_in (q:YF) (a:Int) (k0:T22_0):OS:=bif geI a 0 then k0 (leI a 1073741824) (ii a) true (bb (leI a 1073741824)) else k0 false S.ud false S.ud
structure X23 where
 x0:Bool→OS
def D23_0 (X:X23):T22_0:=fun v0 _ _ _=>X.x0 v0
def X23s (q:YF) (a:Int) (X:X23):X23:=⟨fun v0=>b23_0 q a v0 dd dd dd⟩
def X23n (q:YF) (a:Int):Nat→X23
 | 0=>⟨fun _=>none⟩
 | n+1=>X23s q a (X23n q a n)
theorem l23_0 (q:YF) (a:Int) (kk:PK S):K23_0 a (P23 q kk)=b23_0 q a:=by
 kernel_rfl
theorem l23_in (q:YF) (a:Int) (kk:PK S):BG q kk 23 Tryz.f23 [ii a]=e23_in q a (K23_0 a kk):=by
 kernel_rfl
theorem h23 (q:YF) (a:Int):∀ n,K23_0 a (H23 q n)=D23_0 (X23n q a n)
 | 0=>rfl
 | n+1=>by
  have h0:=h23 q a n
  exact (l23_0 q a (H23 q n)).trans (by kernel_rfl)
theorem W23 (a:Int) (n:Nat) (x:S) (h:e23_in (regs O) a (D23_0 (X23n (regs O) a n))=some x):(W O).callT 23 [ii a]=some x:=by
 refine WG (fn:=Tryz.f23) (by kernel_rfl) (by kernel_rfl) (n:=n) ?_
 refine (l23_in (regs O) a (H23 (regs O) n)).trans ?_
 have h0:=h23 (regs O) a n
 rw [h0]
 exact h
abbrev P24 (q:YF) (kk:PK S):PK S:=PG q 24 Tryz.f24 kk
abbrev H24 (q:YF):Nat→PK S:=HG q 24 Tryz.f24
def s24_0 (a:Rw D112) (v0:Int):St:=mkSt [(0,S.t (T.rows 7 a.n fun i=>e112 (a.get i))),(10,ii (ofN a.n)),(9,S.t (T.rows 7 a.n fun i=>e112 (a.get i))),(11,ii v0)] 0 []
def K24_0 (a:Rw D112) (kk:PK S):Int→OS:=fun v0=> kk 4 0 0 (s24_0 a v0)
def b24_0 (q:YF) (a:Rw D112) (k0:Int→OS) (v0:Int):OS:=bif ltI v0 (ofN a.n) then elemO v0 a.n fun h=>yC q 58 [ag (e112 (a.get (Fin.mk v0.toNat h)))] fun y=>bif !eqI (y.i 0) 0 then some (ii (y.i 0)) else bif leI 0 v0 && leI v0 (ofN a.n) then subO 0 (toN v0) a.n fun h_1=>yC q 59 [S.t (T.rows 7 (toN v0) fun i=>e112 (a.get (Fin.mk (0+↑i) (by first | omega | (have:=i.2;omega) | (have:=i_1.2;omega))))),S.fn (Go.Fn.func 60) [] [S.pt (e112 (a.get (Fin.mk v0.toNat h)))]] fun y=>bif y.b 0 then some (ii 6) else k0 (addI .i64 v0 1) else none else some (ii 0)
def e24_in (q:YF) (a:Rw D112) (k0:Int→OS):OS:=bif gtI (ofN a.n) 12 then some (ii 3) else k0 0
structure X24 where
 x0:Int→OS
def D24_0 (X:X24):Int→OS:=fun v0=>X.x0 v0
def X24s (q:YF) (a:Rw D112) (X:X24):X24:=⟨fun v0=>b24_0 q a (D24_0 X) v0⟩
def X24n (q:YF) (a:Rw D112):Nat→X24
 | 0=>⟨fun _=>none⟩
 | n+1=>X24s q a (X24n q a n)
theorem l24_0 (q:YF) (a:Rw D112) (kk:PK S):K24_0 a (P24 q kk)=b24_0 q a (K24_0 a kk):=by
 kernel_rfl
theorem l24_in (q:YF) (a:Rw D112) (kk:PK S):BG q kk 24 Tryz.f24 [S.t (T.rows 7 a.n fun i=>e112 (a.get i))]=e24_in q a (K24_0 a kk):=by
 kernel_rfl
theorem h24 (q:YF) (a:Rw D112):∀ n,K24_0 a (H24 q n)=D24_0 (X24n q a n)
 | 0=>rfl
 | n+1=>by
  have h0:=h24 q a n
  exact (l24_0 q a (H24 q n)).trans (by rw [h0];kernel_rfl)
theorem W24 (a:Rw D112) (n:Nat) (x:S) (h:e24_in (regs O) a (D24_0 (X24n (regs O) a n))=some x):(W O).callT 24 [S.t (T.rows 7 a.n fun i=>e112 (a.get i))]=some x:=by
 refine WG (fn:=Tryz.f24) (by kernel_rfl) (by kernel_rfl) (n:=n) ?_
 refine (l24_in (regs O) a (H24 (regs O) n)).trans ?_
 have h0:=h24 (regs O) a n
 rw [h0]
 exact h
abbrev P25 (q:YF) (kk:PK S):PK S:=PG q 25 Tryz.f25 kk
abbrev H25 (q:YF):Nat→PK S:=HG q 25 Tryz.f25
def s25_0 (a:D33) (v0:Int) (v1:BA):St:=mkSt [(8,S.t (T.rows 10 a.fPools.n fun i=>e77 (a.fPools.get i))),(10,ii v0),(9,ii (ofN a.fPools.n)),(3,ss v1)] 0 []
abbrev T25_0:Type:=Int→BA→OS
def K25_0 (a:D33) (kk:PK S):T25_0:=fun v0 v1=> kk 3 0 0 (s25_0 a v0 v1)
def b25_0 (q:YF) (a:D33) (k0:T25_0) (v0:Int) (v1:BA):OS:=bif ltI v0 (ofN a.fPools.n) then elemO v0 a.fPools.n fun h=>yC q 61 [ag (e77 (a.fPools.get (Fin.mk v0.toNat h)))] fun y=>bif !eqI (y.i 0) 0 then some (ii (y.i 0)) else bif strLt (a.fPools.get (Fin.mk v0.toNat h)).fName v1 || strEq (a.fPools.get (Fin.mk v0.toNat h)).fName v1 then some (ii 6) else k0 (addI .i64 v0 1) (a.fPools.get (Fin.mk v0.toNat h)).fName else some (ii 0)
def e25_in (q:YF) (a:D33) (k0:T25_0):OS:=k0 0 (bs [])
structure X25 where
 x0:Int→BA→OS
def D25_0 (X:X25):T25_0:=fun v0 v1=>X.x0 v0 v1
def X25s (q:YF) (a:D33) (X:X25):X25:=⟨fun v0 v1=>b25_0 q a (D25_0 X) v0 v1⟩
def X25n (q:YF) (a:D33):Nat→X25
 | 0=>⟨fun _ _=>none⟩
 | n+1=>X25s q a (X25n q a n)
theorem l25_0 (q:YF) (a:D33) (kk:PK S):K25_0 a (P25 q kk)=b25_0 q a (K25_0 a kk):=by
 kernel_rfl
theorem l25_in (q:YF) (a:D33) (kk:PK S):BG q kk 25 Tryz.f25 [ag (e33 a)]=e25_in q a (K25_0 a kk):=by
 kernel_rfl
theorem h25 (q:YF) (a:D33):∀ n,K25_0 a (H25 q n)=D25_0 (X25n q a n)
 | 0=>rfl
 | n+1=>by
  have h0:=h25 q a n
  exact (l25_0 q a (H25 q n)).trans (by rw [h0];kernel_rfl)
theorem W25 (a:D33) (n:Nat) (x:S) (h:e25_in (regs O) a (D25_0 (X25n (regs O) a n))=some x):(W O).callT 25 [ag (e33 a)]=some x:=by
 refine WG (fn:=Tryz.f25) (by kernel_rfl) (by kernel_rfl) (n:=n) ?_
 refine (l25_in (regs O) a (H25 (regs O) n)).trans ?_
 have h0:=h25 (regs O) a n
 rw [h0]
 exact h
abbrev P26 (q:YF) (kk:PK S):PK S:=PG q 26 Tryz.f26 kk
abbrev H26 (q:YF):Nat→PK S:=HG q 26 Tryz.f26
def s26_0 (a:D33) (v0:Int) (v1:BA):St:=mkSt [(12,ii v0),(10,S.t (T.rows 15 a.fClaims.n fun i=>e52 (a.fClaims.get i))),(1,S.ptr 0 0),(3,ss v1),(11,ii (ofN a.fClaims.n))] 1 [(0,B.box (List.map S.t (e33 a)))]
def K26_0 (a:D33) (kk:PK S):T25_0:=fun v0 v1=> kk 3 0 0 (s26_0 a v0 v1)
def s26_1 (a:D33) (v0:Bool) (v1:D52) (v2 v3 v4:Int) (u5:D52) (u6 u7:Bool) (u8 u9 u10:Int) (u11:Bool) (u12:Int) (u13:Bool) (u14:D52) (u15 u16:Bool) (u17:Int) (u18 u19 u20 u21:BA) (u22 u23:Int) (u24 u25 u26 u27:Bool) (u28 u29 u30:BA) (u31 u32:Int) (u33:Bool) (u34:D52) (u35 u36 u37 u38 u39:BA) (u40:Bool) (u41:BA):St:=mkSt [(32,ss u39),(16,ag (e52 u5)),(8,bb u6),(40,bb false),(24,S.ptr 4 3),(36,S.ptr 4 1),(12,ii v4),(44,S.sl 36 1),(28,bb u7),(18,ii u8),(10,S.t (T.rows 15 a.fClaims.n fun i=>e52 (a.fClaims.get i))),(42,S.ptr 4 3),(26,S.tup [S.agg [ii u9,ii u10],bb u11]),(6,ii u12),(38,bb u13),(22,S.ptr 0 6),(14,S.pt (e52 u14)),(46,bb u15),(30,S.ptr 4 0),(1,S.ptr 0 0),(33,bb u16),(17,ii u17),(41,ag (e33 a)),(25,S.agg [ss u18,ss u19,ss u20]),(5,S.ptr 4 0),(37,ss u21),(21,S.tup [S.agg [ii u22,ii u23],bb u24]),(13,bb u40),(45,bb u25),(29,bb u26),(3,ss u41),(35,ag (e33 a)),(19,bb u27),(11,ii (ofN a.fClaims.n)),(43,S.agg [ss u28,ss u29,ss u30]),(27,S.agg [ii u31,ii u32]),(7,S.ptr 19 0),(39,bb u33),(23,S.t (T.rows 7 a.fTypes.n fun i=>e112 (a.fTypes.get i))),(15,ag (e52 u34)),(47,bb v0),(31,ss u35)] 48 [(0,B.box (List.map S.t (e33 a))),(4,B.box (List.map S.t (e52 v1))),(36,B.lst false 3 1 [ss u36,ss u37,ss u38]),(19,B.box [ii v2,ii v3])]
abbrev T26_1:Type:=Bool→D52→Int→Int→Int→D52→Bool→Bool→Int→Int→Int→Bool→Int→Bool→D52→Bool→Bool→Int→BA→BA→BA→BA→Int→Int→Bool→Bool→Bool→Bool→BA→BA→BA→Int→Int→Bool→D52→BA→BA→BA→BA→BA→Bool→BA→OS
def K26_1 (a:D33) (kk:PK S):T26_1:=fun v0 v1 v2 v3 v4 u5 u6 u7 u8 u9 u10 u11 u12 u13 u14 u15 u16 u17 u18 u19 u20 u21 u22 u23 u24 u25 u26 u27 u28 u29 u30 u31 u32 u33 u34 u35 u36 u37 u38 u39 u40 u41=> kk 11 14 27 (s26_1 a v0 v1 v2 v3 v4 u5 u6 u7 u8 u9 u10 u11 u12 u13 u14 u15 u16 u17 u18 u19 u20 u21 u22 u23 u24 u25 u26 u27 u28 u29 u30 u31 u32 u33 u34 u35 u36 u37 u38 u39 u40 u41)
def s26_2 (a:D33) (u0:D52) (u1 u2:Bool) (u3 u4 u5:Int) (u6:Bool) (u7:Int) (u8:Bool) (u9:D52) (u10:Bool) (u11:Int) (u12 u13 u14 u15:BA) (u16 u17:Int) (u18 u19 u20:Bool) (u21 u22:Int) (u23:Bool) (u24:D52) (u25:BA) (u26:D52) (u27 u28:Int) (u29:BA) (u30:Int) (u31:Bool) (u32:BA):St:=mkSt [(32,ss u29),(16,ag (e52 u0)),(8,bb u1),(40,bb true),(24,S.ptr 4 3),(36,S.ptr 4 1),(12,ii u30),(44,S.ud),(28,bb u2),(18,ii u3),(10,S.t (T.rows 15 a.fClaims.n fun i=>e52 (a.fClaims.get i))),(42,S.ud),(26,S.tup [S.agg [ii u4,ii u5],bb u6]),(6,ii u7),(38,bb u8),(22,S.ptr 0 6),(14,S.pt (e52 u9)),(46,S.ud),(30,S.ptr 4 0),(1,S.ptr 0 0),(33,bb u10),(17,ii u11),(41,S.ud),(25,S.agg [ss u12,ss u13,ss u14]),(5,S.ptr 4 0),(37,ss u15),(21,S.tup [S.agg [ii u16,ii u17],bb u18]),(13,bb u31),(45,S.ud),(29,bb u19),(3,ss u32),(35,ag (e33 a)),(19,bb u20),(11,ii (ofN a.fClaims.n)),(43,S.ud),(27,S.agg [ii u21,ii u22]),(7,S.ptr 19 0),(39,bb u23),(23,S.t (T.rows 7 a.fTypes.n fun i=>e112 (a.fTypes.get i))),(15,ag (e52 u24)),(47,bb true),(31,ss u25)] 48 [(0,B.box (List.map S.t (e33 a))),(4,B.box (List.map S.t (e52 u26))),(19,B.box [ii u27,ii u28])]
abbrev T26_2:Type:=D52→Bool→Bool→Int→Int→Int→Bool→Int→Bool→D52→Bool→Int→BA→BA→BA→BA→Int→Int→Bool→Bool→Bool→Int→Int→Bool→D52→BA→D52→Int→Int→BA→Int→Bool→BA→OS
def K26_2 (a:D33) (kk:PK S):T26_2:=fun u0 u1 u2 u3 u4 u5 u6 u7 u8 u9 u10 u11 u12 u13 u14 u15 u16 u17 u18 u19 u20 u21 u22 u23 u24 u25 u26 u27 u28 u29 u30 u31 u32=> kk 11 14 27 (s26_2 a u0 u1 u2 u3 u4 u5 u6 u7 u8 u9 u10 u11 u12 u13 u14 u15 u16 u17 u18 u19 u20 u21 u22 u23 u24 u25 u26 u27 u28 u29 u30 u31 u32)
def s26_3 (a:D33) (v0:Bool) (v1:D52) (v2 v3 v4:Int) (u5:D52) (u6 u7:Bool) (u8 u9 u10:Int) (u11:Bool) (u12:Int) (u13:Bool) (u14:D52) (u15 u16:Bool) (u17:Int) (u18 u19 u20 u21:BA) (u22 u23:Int) (u24 u25 u26 u27:Bool) (u28 u29 u30:BA) (u31 u32:Int) (u33:Bool) (u34:D52) (u35:Bool) (u36 u37 u38 u39:BA) (u40:Bool) (u41 u42 u43 u44 u45:S) (u46:BA) (u47:Bool) (u48:BA):St:=mkSt [(32,ss u46),(16,ag (e52 u5)),(48,bb u40),(8,bb u6),(40,bb false),(24,S.ptr 4 3),(36,S.ptr 4 1),(52,u41),(12,ii v4),(44,S.sl 36 1),(28,bb u7),(18,ii u8),(50,u42),(10,S.t (T.rows 15 a.fClaims.n fun i=>e52 (a.fClaims.get i))),(42,S.ptr 4 3),(26,S.tup [S.agg [ii u9,ii u10],bb u11]),(6,ii u12),(38,bb u13),(22,S.ptr 0 6),(54,bb v0),(14,S.pt (e52 u14)),(46,bb u15),(30,S.ptr 4 0),(1,S.ptr 0 0),(33,bb u16),(17,ii u17),(49,u43),(41,ag (e33 a)),(25,S.agg [ss u18,ss u19,ss u20]),(5,S.ptr 4 0),(37,ss u21),(21,S.tup [S.agg [ii u22,ii u23],bb u24]),(53,u44),(13,bb u47),(45,bb u25),(29,bb u26),(3,ss u48),(35,ag (e33 a)),(19,bb u27),(51,u45),(11,ii (ofN a.fClaims.n)),(43,S.agg [ss u28,ss u29,ss u30]),(27,S.agg [ii u31,ii u32]),(7,S.ptr 19 0),(39,bb u33),(23,S.t (T.rows 7 a.fTypes.n fun i=>e112 (a.fTypes.get i))),(15,ag (e52 u34)),(47,bb u35),(31,ss u36)] 48 [(0,B.box (List.map S.t (e33 a))),(4,B.box (List.map S.t (e52 v1))),(36,B.lst false 3 1 [ss u37,ss u38,ss u39]),(19,B.box [ii v2,ii v3])]
abbrev T26_3:Type:=Bool→D52→Int→Int→Int→D52→Bool→Bool→Int→Int→Int→Bool→Int→Bool→D52→Bool→Bool→Int→BA→BA→BA→BA→Int→Int→Bool→Bool→Bool→Bool→BA→BA→BA→Int→Int→Bool→D52→Bool→BA→BA→BA→BA→Bool→S→S→S→S→S→BA→Bool→BA→OS
def K26_3 (a:D33) (kk:PK S):T26_3:=fun v0 v1 v2 v3 v4 u5 u6 u7 u8 u9 u10 u11 u12 u13 u14 u15 u16 u17 u18 u19 u20 u21 u22 u23 u24 u25 u26 u27 u28 u29 u30 u31 u32 u33 u34 u35 u36 u37 u38 u39 u40 u41 u42 u43 u44 u45 u46 u47 u48=> kk 11 21 27 (s26_3 a v0 v1 v2 v3 v4 u5 u6 u7 u8 u9 u10 u11 u12 u13 u14 u15 u16 u17 u18 u19 u20 u21 u22 u23 u24 u25 u26 u27 u28 u29 u30 u31 u32 u33 u34 u35 u36 u37 u38 u39 u40 u41 u42 u43 u44 u45 u46 u47 u48)
def s26_4 (a:D33) (u0:D52) (u1 u2:Bool) (u3 u4 u5:Int) (u6:Bool) (u7:Int) (u8:Bool) (u9:D52) (u10:Bool) (u11:Int) (u12 u13 u14 u15:BA) (u16 u17:Int) (u18 u19 u20:Bool) (u21 u22:Int) (u23:Bool) (u24:D52) (u25:BA) (u26:D52) (u27 u28:Int) (u29:BA) (u30:Int) (u31:Bool) (u32:BA):St:=mkSt [(32,ss u29),(16,ag (e52 u0)),(48,bb true),(8,bb u1),(40,bb true),(24,S.ptr 4 3),(36,S.ptr 4 1),(52,S.ud),(12,ii u30),(44,S.ud),(28,bb u2),(18,ii u3),(50,S.ud),(10,S.t (T.rows 15 a.fClaims.n fun i=>e52 (a.fClaims.get i))),(42,S.ud),(26,S.tup [S.agg [ii u4,ii u5],bb u6]),(6,ii u7),(38,bb u8),(22,S.ptr 0 6),(54,bb true),(14,S.pt (e52 u9)),(46,S.ud),(30,S.ptr 4 0),(1,S.ptr 0 0),(33,bb u10),(17,ii u11),(49,S.ud),(41,S.ud),(25,S.agg [ss u12,ss u13,ss u14]),(5,S.ptr 4 0),(37,ss u15),(21,S.tup [S.agg [ii u16,ii u17],bb u18]),(53,S.ud),(13,bb u31),(45,S.ud),(29,bb u19),(3,ss u32),(35,ag (e33 a)),(19,bb u20),(51,S.ud),(11,ii (ofN a.fClaims.n)),(43,S.ud),(27,S.agg [ii u21,ii u22]),(7,S.ptr 19 0),(39,bb u23),(23,S.t (T.rows 7 a.fTypes.n fun i=>e112 (a.fTypes.get i))),(15,ag (e52 u24)),(47,bb true),(31,ss u25)] 48 [(0,B.box (List.map S.t (e33 a))),(4,B.box (List.map S.t (e52 u26))),(19,B.box [ii u27,ii u28])]
def K26_4 (a:D33) (kk:PK S):T26_2:=fun u0 u1 u2 u3 u4 u5 u6 u7 u8 u9 u10 u11 u12 u13 u14 u15 u16 u17 u18 u19 u20 u21 u22 u23 u24 u25 u26 u27 u28 u29 u30 u31 u32=> kk 11 21 27 (s26_4 a u0 u1 u2 u3 u4 u5 u6 u7 u8 u9 u10 u11 u12 u13 u14 u15 u16 u17 u18 u19 u20 u21 u22 u23 u24 u25 u26 u27 u28 u29 u30 u31 u32)
def b26_0 (q:YF) (a:D33) (k1:T26_1) (k2:T26_2) (v0:Int) (v1:BA):OS:=bif ltI v0 (ofN a.fClaims.n) then elemO v0 a.fClaims.n fun h=>yC q 62 [ag (e52 (a.fClaims.get (Fin.mk v0.toNat h)))] fun y=>bif !eqI (y.i 0) 0 then some (ii (y.i 0)) else yC q 63 [S.t (T.rows 7 a.fTypes.n fun i=>e112 (a.fTypes.get i)),S.agg [ss (a.fClaims.get (Fin.mk v0.toNat h)).fOffer_Type,ss (a.fClaims.get (Fin.mk v0.toNat h)).fOffer_Zone,ss (a.fClaims.get (Fin.mk v0.toNat h)).fOffer_Kind]] fun y_1=>bif strLt (a.fClaims.get (Fin.mk v0.toNat h)).fName v1 || strEq (a.fClaims.get (Fin.mk v0.toNat h)).fName v1 then some (ii 6) else yC q 64 [ag (e33 a),ss (a.fClaims.get (Fin.mk v0.toNat h)).fPool] fun y_2=>bif !y_2.b 0 then k2 (a.fClaims.get (Fin.mk v0.toNat h)) (y_1.b 2) (y_1.b 2) (y.i 0) (y_1.i 0) (y_1.i 1) (y_1.b 2) (y.i 0) (y_2.b 0) (a.fClaims.get (Fin.mk v0.toNat h)) (strLt (a.fClaims.get (Fin.mk v0.toNat h)).fName v1 || strEq (a.fClaims.get (Fin.mk v0.toNat h)).fName v1) (y.i 0) (a.fClaims.get (Fin.mk v0.toNat h)).fOffer_Type (a.fClaims.get (Fin.mk v0.toNat h)).fOffer_Zone (a.fClaims.get (Fin.mk v0.toNat h)).fOffer_Kind (a.fClaims.get (Fin.mk v0.toNat h)).fPool (y_1.i 0) (y_1.i 1) (y_1.b 2) (strLt (a.fClaims.get (Fin.mk v0.toNat h)).fName v1 || strEq (a.fClaims.get (Fin.mk v0.toNat h)).fName v1) (!eqI (y.i 0) 0) (y_1.i 0) (y_1.i 1) (!y_2.b 0) (a.fClaims.get (Fin.mk v0.toNat h)) (a.fClaims.get (Fin.mk v0.toNat h)).fName (a.fClaims.get (Fin.mk v0.toNat h)) (y_1.i 0) (y_1.i 1) v1 v0 (ltI v0 (ofN a.fClaims.n)) v1 else yC q 65 [ag (e33 a),S.t (T.rows 3 1 fun i=>List.take 3 (List.drop (↑i*3) [ts (a.fClaims.get (Fin.mk v0.toNat h)).fOffer_Type,ts (a.fClaims.get (Fin.mk v0.toNat h)).fOffer_Zone,ts (a.fClaims.get (Fin.mk v0.toNat h)).fOffer_Kind]))] fun y_3=>k1 (!y_3.b 0) (a.fClaims.get (Fin.mk v0.toNat h)) (y_1.i 0) (y_1.i 1) v0 (a.fClaims.get (Fin.mk v0.toNat h)) (y_1.b 2) (y_1.b 2) (y.i 0) (y_1.i 0) (y_1.i 1) (y_1.b 2) (y.i 0) (y_2.b 0) (a.fClaims.get (Fin.mk v0.toNat h)) (!y_3.b 0) (strLt (a.fClaims.get (Fin.mk v0.toNat h)).fName v1 || strEq (a.fClaims.get (Fin.mk v0.toNat h)).fName v1) (y.i 0) (a.fClaims.get (Fin.mk v0.toNat h)).fOffer_Type (a.fClaims.get (Fin.mk v0.toNat h)).fOffer_Zone (a.fClaims.get (Fin.mk v0.toNat h)).fOffer_Kind (a.fClaims.get (Fin.mk v0.toNat h)).fPool (y_1.i 0) (y_1.i 1) (y_1.b 2) (y_3.b 0) (strLt (a.fClaims.get (Fin.mk v0.toNat h)).fName v1 || strEq (a.fClaims.get (Fin.mk v0.toNat h)).fName v1) (!eqI (y.i 0) 0) (a.fClaims.get (Fin.mk v0.toNat h)).fOffer_Type (a.fClaims.get (Fin.mk v0.toNat h)).fOffer_Zone (a.fClaims.get (Fin.mk v0.toNat h)).fOffer_Kind (y_1.i 0) (y_1.i 1) (!y_2.b 0) (a.fClaims.get (Fin.mk v0.toNat h)) (a.fClaims.get (Fin.mk v0.toNat h)).fName (a.fClaims.get (Fin.mk v0.toNat h)).fOffer_Type (a.fClaims.get (Fin.mk v0.toNat h)).fOffer_Zone (a.fClaims.get (Fin.mk v0.toNat h)).fOffer_Kind v1 (ltI v0 (ofN a.fClaims.n)) v1 else some (ii 0)
def b26_1 (q:YF) (a:D33) (k3:T26_3) (v0:Bool) (v1:D52) (v2 v3 v4:Int) (u5:D52) (u6 u7:Bool) (u8 u9 u10:Int) (u11:Bool) (u12:Int) (u13:Bool) (u14:D52) (u15 u16:Bool) (u17:Int) (u18 u19 u20 u21:BA) (u22 u23:Int) (u24 u25 u26 u27:Bool) (u28 u29 u30:BA) (u31 u32:Int) (u33:Bool) (u34:D52) (u35 u36 u37 u38 u39:BA) (u40:Bool) (u41:BA):OS:=bif v0 then k3 true v1 v2 v3 v4 u5 u6 u7 u8 u9 u10 u11 u12 u13 u14 u15 u16 u17 u18 u19 u20 u21 u22 u23 u24 u25 u26 u27 u28 u29 u30 u31 u32 u33 u34 v0 u35 u36 u37 u38 true S.ud S.ud S.ud S.ud S.ud u39 u40 u41 else yC q 65 [ag (e33 a),S.t (T.rows 3 v1.fOpts.n fun i=>e47 (v1.fOpts.get i))] fun y=>k3 (!y.b 0) v1 v2 v3 v4 u5 u6 u7 u8 u9 u10 u11 u12 u13 u14 u15 u16 u17 u18 u19 u20 u21 u22 u23 u24 u25 u26 u27 u28 u29 u30 u31 u32 u33 u34 v0 u35 u36 u37 u38 false (bb (y.b 0)) (S.ptr 4 9) (ag (e33 a)) (S.t (T.v (.bool !y.b 0))) (S.t (T.rows 3 v1.fOpts.n fun i=>e47 (v1.fOpts.get i))) u39 u40 u41
def b26_2 (q:YF) (a:D33) (k4:T26_2) (u0:D52) (u1 u2:Bool) (u3 u4 u5:Int) (u6:Bool) (u7:Int) (u8:Bool) (u9:D52) (u10:Bool) (u11:Int) (u12 u13 u14 u15:BA) (u16 u17:Int) (u18 u19 u20:Bool) (u21 u22:Int) (u23:Bool) (u24:D52) (u25:BA) (u26:D52) (u27 u28:Int) (u29:BA) (u30:Int) (u31:Bool) (u32:BA):OS:=k4 u0 u1 u2 u3 u4 u5 u6 u7 u8 u9 u10 u11 u12 u13 u14 u15 u16 u17 u18 u19 u20 u21 u22 u23 u24 u25 u26 u27 u28 u29 u30 u31 u32
def b26_3 (q:YF) (a:D33) (k0:T25_0) (v0:Bool) (v1:D52) (v2 v3 v4:Int) (u5:D52) (u6 u7:Bool) (u8 u9 u10:Int) (u11:Bool) (u12:Int) (u13:Bool) (u14:D52) (u15 u16:Bool) (u17:Int) (u18 u19 u20 u21:BA) (u22 u23:Int) (u24 u25 u26 u27:Bool) (u28 u29 u30:BA) (u31 u32:Int) (u33:Bool) (u34:D52) (u35:Bool) (u36 u37 u38 u39:BA) (u40:Bool) (u41 u42 u43 u44 u45:S) (u46:BA) (u47:Bool) (u48:BA):OS:=bif v0 then some (ii 5) else bif !(eqI v1.fCap_0 v2 && (eqI v1.fCap_1 v3 && true)) then some (ii 1) else k0 (addI .i64 v4 1) v1.fName
def b26_4 (q:YF) (a:D33) (u0:D52) (u1 u2:Bool) (u3 u4 u5:Int) (u6:Bool) (u7:Int) (u8:Bool) (u9:D52) (u10:Bool) (u11:Int) (u12 u13 u14 u15:BA) (u16 u17:Int) (u18 u19 u20:Bool) (u21 u22:Int) (u23:Bool) (u24:D52) (u25:BA) (u26:D52) (u27 u28:Int) (u29:BA) (u30:Int) (u31:Bool) (u32:BA):OS:=some (ii 5)
def e26_in (q:YF) (a:D33) (k0:T25_0):OS:=k0 0 (bs [])
structure X26 where
 x0:Int→BA→OS
 x1:Bool→D52→Int→Int→Int→OS
 x2:OS
 x3:Bool→D52→Int→Int→Int→OS
 x4:OS
def D26_0 (X:X26):T25_0:=fun v0 v1=>X.x0 v0 v1
def D26_1 (X:X26):T26_1:=fun v0 v1 v2 v3 v4 _ _ _ _ _ _ _ _ _ _ _ _ _ _ _ _ _ _ _ _ _ _ _ _ _ _ _ _ _ _ _ _ _ _ _ _ _=>X.x1 v0 v1 v2 v3 v4
def D26_2 (X:X26):T26_2:=fun _ _ _ _ _ _ _ _ _ _ _ _ _ _ _ _ _ _ _ _ _ _ _ _ _ _ _ _ _ _ _ _ _=>X.x2
def D26_3 (X:X26):T26_3:=fun v0 v1 v2 v3 v4 _ _ _ _ _ _ _ _ _ _ _ _ _ _ _ _ _ _ _ _ _ _ _ _ _ _ _ _ _ _ _ _ _ _ _ _ _ _ _ _ _ _ _ _=>X.x3 v0 v1 v2 v3 v4
def D26_4 (X:X26):T26_2:=fun _ _ _ _ _ _ _ _ _ _ _ _ _ _ _ _ _ _ _ _ _ _ _ _ _ _ _ _ _ _ _ _ _=>X.x4
def X26s (q:YF) (a:D33) (X:X26):X26:=⟨fun v0 v1=>b26_0 q a (D26_1 X) (D26_2 X) v0 v1,
 fun v0 v1 v2 v3 v4=>b26_1 q a (D26_3 X) v0 v1 v2 v3 v4 dd dd dd dd dd dd dd dd dd dd dd dd dd dd dd dd dd dd dd dd dd dd dd dd dd dd dd dd dd dd dd dd dd dd dd dd dd,
 b26_2 q a (D26_4 X) dd dd dd dd dd dd dd dd dd dd dd dd dd dd dd dd dd dd dd dd dd dd dd dd dd dd dd dd dd dd dd dd dd,
 fun v0 v1 v2 v3 v4=>b26_3 q a (D26_0 X) v0 v1 v2 v3 v4 dd dd dd dd dd dd dd dd dd dd dd dd dd dd dd dd dd dd dd dd dd dd dd dd dd dd dd dd dd dd dd dd dd dd dd dd dd dd dd dd dd dd dd dd,
 b26_4 q a dd dd dd dd dd dd dd dd dd dd dd dd dd dd dd dd dd dd dd dd dd dd dd dd dd dd dd dd dd dd dd dd dd⟩
def X26n (q:YF) (a:D33):Nat→X26
 | 0=>⟨fun _ _=>none,fun _ _ _ _ _=>none,none,fun _ _ _ _ _=>none,none⟩
 | n+1=>X26s q a (X26n q a n)
theorem l26_0 (q:YF) (a:D33) (kk:PK S):K26_0 a (P26 q kk)=b26_0 q a (K26_1 a kk) (K26_2 a kk):=by
 kernel_rfl
theorem l26_1 (q:YF) (a:D33) (kk:PK S):K26_1 a (P26 q kk)=b26_1 q a (K26_3 a kk):=by
 kernel_rfl
theorem l26_2 (q:YF) (a:D33) (kk:PK S):K26_2 a (P26 q kk)=b26_2 q a (K26_4 a kk):=by
 kernel_rfl
theorem l26_3 (q:YF) (a:D33) (kk:PK S):K26_3 a (P26 q kk)=b26_3 q a (K26_0 a kk):=by
 kernel_rfl
theorem l26_4 (q:YF) (a:D33) (kk:PK S):K26_4 a (P26 q kk)=b26_4 q a:=by
 kernel_rfl
theorem l26_in (q:YF) (a:D33) (kk:PK S):BG q kk 26 Tryz.f26 [ag (e33 a)]=e26_in q a (K26_0 a kk):=by
 kernel_rfl
theorem h26 (q:YF) (a:D33):∀ n,K26_0 a (H26 q n)=D26_0 (X26n q a n)∧K26_1 a (H26 q n)=D26_1 (X26n q a n)∧K26_2 a (H26 q n)=D26_2 (X26n q a n)∧K26_3 a (H26 q n)=D26_3 (X26n q a n)∧K26_4 a (H26 q n)=D26_4 (X26n q a n)
 | 0=>⟨rfl,rfl,rfl,rfl,rfl⟩
 | n+1=>by
  obtain ⟨h0,h1,h2,h3,h4⟩:=h26 q a n
  exact ⟨(l26_0 q a (H26 q n)).trans (by rw [h1,h2];kernel_rfl),(l26_1 q a (H26 q n)).trans (by rw [h3];kernel_rfl),(l26_2 q a (H26 q n)).trans (by rw [h4];kernel_rfl),(l26_3 q a (H26 q n)).trans (by rw [h0];kernel_rfl),(l26_4 q a (H26 q n)).trans (by kernel_rfl)⟩
theorem W26 (a:D33) (n:Nat) (x:S) (h:e26_in (regs O) a (D26_0 (X26n (regs O) a n))=some x):(W O).callT 26 [ag (e33 a)]=some x:=by
 refine WG (fn:=Tryz.f26) (by kernel_rfl) (by kernel_rfl) (n:=n) ?_
 refine (l26_in (regs O) a (H26 (regs O) n)).trans ?_
 obtain ⟨h0,h1,h2,h3,h4⟩:=h26 (regs O) a n
 rw [h0]
 exact h
abbrev P27 (q:YF) (kk:PK S):PK S:=PG q 27 Tryz.f27 kk
abbrev H27 (q:YF):Nat→PK S:=HG q 27 Tryz.f27
def s27_0 (a:D33) (v0:Int) (v1:BA):St:=mkSt [(8,S.t (T.rows 12 a.fPods.n fun i=>e61 (a.fPods.get i))),(10,ii v0),(1,S.ptr 0 0),(9,ii (ofN a.fPods.n)),(3,ss v1)] 1 [(0,B.box (List.map S.t (e33 a)))]
def K27_0 (a:D33) (kk:PK S):T25_0:=fun v0 v1=> kk 3 0 0 (s27_0 a v0 v1)
def s27_1 (a:D33) (v0:D61) (v1:Bool) (v2 u3:Int) (u4:D61) (u5:BA) (u6:Int) (u7:D61) (u8:Bool) (u9:BA) (u10:D61) (u11 u12 u13:Bool) (u14:Int) (u15:S) (u16:Bool) (u17 u18 u19 u20:S) (u21 u22:BA) (u23:Bool):St:=mkSt [(32,u15),(16,ii u3),(8,S.t (T.rows 12 a.fPods.n fun i=>e61 (a.fPods.get i))),(20,S.ptr 4 0),(12,S.pt (e61 u4)),(28,bb u16),(34,bb v1),(10,ii v2),(26,ss u5),(6,ii u6),(22,ss u21),(14,ag (e61 u7)),(30,u17),(1,S.ptr 0 0),(33,u18),(17,bb u8),(9,ii (ofN a.fPods.n)),(25,S.ptr 4 11),(5,S.ptr 4 0),(21,ss u9),(13,ag (e61 u10)),(29,u19),(3,ss u22),(19,bb u11),(11,bb u23),(27,bb u12),(23,bb u13),(15,ii u14),(31,u20)] 27 [(0,B.box (List.map S.t (e33 a))),(4,B.box (List.map S.t (e61 v0)))]
abbrev T27_1:Type:=D61→Bool→Int→Int→D61→BA→Int→D61→Bool→BA→D61→Bool→Bool→Bool→Int→S→Bool→S→S→S→S→BA→BA→Bool→OS
def K27_1 (a:D33) (kk:PK S):T27_1:=fun v0 v1 v2 u3 u4 u5 u6 u7 u8 u9 u10 u11 u12 u13 u14 u15 u16 u17 u18 u19 u20 u21 u22 u23=> kk 10 11 16 (s27_1 a v0 v1 v2 u3 u4 u5 u6 u7 u8 u9 u10 u11 u12 u13 u14 u15 u16 u17 u18 u19 u20 u21 u22 u23)
def b27_0 (q:YF) (a:D33) (k1:T27_1) (v0:Int) (v1:BA):OS:=bif ltI v0 (ofN a.fPods.n) then elemO v0 a.fPods.n fun h=>yC q 66 [ag (e61 (a.fPods.get (Fin.mk v0.toNat h)))] fun y=>bif !eqI (y.i 0) 0 then some (ii (y.i 0)) else bif strLt (a.fPods.get (Fin.mk v0.toNat h)).fName v1 || strEq (a.fPods.get (Fin.mk v0.toNat h)).fName v1 then some (ii 6) else bif !strEq (a.fPods.get (Fin.mk v0.toNat h)).fOn (bs []) then yC q 67 [ag (e33 a),ss (a.fPods.get (Fin.mk v0.toNat h)).fOn] fun y_1=>k1 (a.fPods.get (Fin.mk v0.toNat h)) (!y_1.b 0) v0 (y.i 0) (a.fPods.get (Fin.mk v0.toNat h)) (a.fPods.get (Fin.mk v0.toNat h)).fOn (y.i 0) (a.fPods.get (Fin.mk v0.toNat h)) (!eqI (y.i 0) 0) (a.fPods.get (Fin.mk v0.toNat h)).fName (a.fPods.get (Fin.mk v0.toNat h)) (strLt (a.fPods.get (Fin.mk v0.toNat h)).fName v1 || strEq (a.fPods.get (Fin.mk v0.toNat h)).fName v1) (!strEq (a.fPods.get (Fin.mk v0.toNat h)).fOn (bs [])) (strLt (a.fPods.get (Fin.mk v0.toNat h)).fName v1 || strEq (a.fPods.get (Fin.mk v0.toNat h)).fName v1) (y.i 0) (bb (y_1.b 0)) true (S.ptr 4 11) (S.t (T.v (.bool !y_1.b 0))) (ag (e33 a)) (ss (a.fPods.get (Fin.mk v0.toNat h)).fOn) v1 v1 (ltI v0 (ofN a.fPods.n)) else k1 (a.fPods.get (Fin.mk v0.toNat h)) false v0 (y.i 0) (a.fPods.get (Fin.mk v0.toNat h)) (a.fPods.get (Fin.mk v0.toNat h)).fOn (y.i 0) (a.fPods.get (Fin.mk v0.toNat h)) (!eqI (y.i 0) 0) (a.fPods.get (Fin.mk v0.toNat h)).fName (a.fPods.get (Fin.mk v0.toNat h)) (strLt (a.fPods.get (Fin.mk v0.toNat h)).fName v1 || strEq (a.fPods.get (Fin.mk v0.toNat h)).fName v1) (!strEq (a.fPods.get (Fin.mk v0.toNat h)).fOn (bs [])) (strLt (a.fPods.get (Fin.mk v0.toNat h)).fName v1 || strEq (a.fPods.get (Fin.mk v0.toNat h)).fName v1) (y.i 0) S.ud false S.ud S.ud S.ud S.ud v1 v1 (ltI v0 (ofN a.fPods.n)) else some (ii 0)
def b27_1 (q:YF) (a:D33) (k0:T25_0) (v0:D61) (v1:Bool) (v2 u3:Int) (u4:D61) (u5:BA) (u6:Int) (u7:D61) (u8:Bool) (u9:BA) (u10:D61) (u11 u12 u13:Bool) (u14:Int) (u15:S) (u16:Bool) (u17 u18 u19 u20:S) (u21 u22:BA) (u23:Bool):OS:=bif v1 then some (ii 5) else bif gtI v0.fSince a.fNow then some (ii 1) else k0 (addI .i64 v2 1) v0.fName
def e27_in (q:YF) (a:D33) (k0:T25_0):OS:=k0 0 (bs [])
structure X27 where
 x0:Int→BA→OS
 x1:D61→Bool→Int→OS
def D27_0 (X:X27):T25_0:=fun v0 v1=>X.x0 v0 v1
def D27_1 (X:X27):T27_1:=fun v0 v1 v2 _ _ _ _ _ _ _ _ _ _ _ _ _ _ _ _ _ _ _ _ _=>X.x1 v0 v1 v2
def X27s (q:YF) (a:D33) (X:X27):X27:=⟨fun v0 v1=>b27_0 q a (D27_1 X) v0 v1,
 fun v0 v1 v2=>b27_1 q a (D27_0 X) v0 v1 v2 dd dd dd dd dd dd dd dd dd dd dd dd dd dd dd dd dd dd dd dd dd⟩
def X27n (q:YF) (a:D33):Nat→X27
 | 0=>⟨fun _ _=>none,fun _ _ _=>none⟩
 | n+1=>X27s q a (X27n q a n)
theorem l27_0 (q:YF) (a:D33) (kk:PK S):K27_0 a (P27 q kk)=b27_0 q a (K27_1 a kk):=by
 kernel_rfl
theorem l27_1 (q:YF) (a:D33) (kk:PK S):K27_1 a (P27 q kk)=b27_1 q a (K27_0 a kk):=by
 kernel_rfl
theorem l27_in (q:YF) (a:D33) (kk:PK S):BG q kk 27 Tryz.f27 [ag (e33 a)]=e27_in q a (K27_0 a kk):=by
 kernel_rfl
theorem h27 (q:YF) (a:D33):∀ n,K27_0 a (H27 q n)=D27_0 (X27n q a n)∧K27_1 a (H27 q n)=D27_1 (X27n q a n)
 | 0=>⟨rfl,rfl⟩
 | n+1=>by
  obtain ⟨h0,h1⟩:=h27 q a n
  exact ⟨(l27_0 q a (H27 q n)).trans (by rw [h1];kernel_rfl),(l27_1 q a (H27 q n)).trans (by rw [h0];kernel_rfl)⟩
theorem W27 (a:D33) (n:Nat) (x:S) (h:e27_in (regs O) a (D27_0 (X27n (regs O) a n))=some x):(W O).callT 27 [ag (e33 a)]=some x:=by
 refine WG (fn:=Tryz.f27) (by kernel_rfl) (by kernel_rfl) (n:=n) ?_
 refine (l27_in (regs O) a (H27 (regs O) n)).trans ?_
 obtain ⟨h0,h1⟩:=h27 (regs O) a n
 rw [h0]
 exact h
abbrev P28 (q:YF) (kk:PK S):PK S:=PG q 28 Tryz.f28 kk
abbrev H28 (q:YF):Nat→PK S:=HG q 28 Tryz.f28
def s28_0 (a:D33) (v0:Int):St:=mkSt [(8,ii (ofN a.fCommands.n)),(1,S.ptr 0 0),(9,ii v0),(7,S.t (T.rows 8 a.fCommands.n fun i=>e122 (a.fCommands.get i)))] 1 [(0,B.box (List.map S.t (e33 a)))]
def K28_0 (a:D33) (kk:PK S):Int→OS:=fun v0=> kk 2 0 0 (s28_0 a v0)
def s28_1 (a:D33) (v0:D122) (v1:Bool) (v2:Int) (u3 u4:Bool) (u5:D122) (u6 u7:Int) (u8:D122) (u9:BA) (u10:D122) (u11:Int) (u12 u13 u14 u15:S) (u16:Bool) (u17:S) (u18:Bool):St:=mkSt [(16,bb u3),(8,ii (ofN a.fCommands.n)),(24,u12),(4,S.ptr 4 0),(20,bb u4),(12,ag (e122 u5)),(18,S.ptr 4 5),(10,bb u18),(26,u13),(22,u14),(14,ii u6),(1,S.ptr 0 0),(9,ii v2),(25,u15),(5,ii u7),(21,bb u16),(13,ag (e122 u8)),(19,ss u9),(11,S.pt (e122 u10)),(27,bb v1),(7,S.t (T.rows 8 a.fCommands.n fun i=>e122 (a.fCommands.get i))),(23,u17),(15,ii u11)] 28 [(0,B.box (List.map S.t (e33 a))),(4,B.box (List.map S.t (e122 v0)))]
abbrev T28_1:Type:=D122→Bool→Int→Bool→Bool→D122→Int→Int→D122→BA→D122→Int→S→S→S→S→Bool→S→Bool→OS
def K28_1 (a:D33) (kk:PK S):T28_1:=fun v0 v1 v2 u3 u4 u5 u6 u7 u8 u9 u10 u11 u12 u13 u14 u15 u16 u17 u18=> kk 7 11 11 (s28_1 a v0 v1 v2 u3 u4 u5 u6 u7 u8 u9 u10 u11 u12 u13 u14 u15 u16 u17 u18)
def b28_0 (q:YF) (a:D33) (k1:T28_1) (v0:Int):OS:=bif ltI v0 (ofN a.fCommands.n) then elemO v0 a.fCommands.n fun h=>yC q 68 [ag (e122 (a.fCommands.get (Fin.mk v0.toNat h)))] fun y=>bif !eqI (y.i 0) 0 then some (ii (y.i 0)) else bif !strEq (a.fCommands.get (Fin.mk v0.toNat h)).fPool (bs []) then yC q 64 [ag (e33 a),ss (a.fCommands.get (Fin.mk v0.toNat h)).fPool] fun y_1=>k1 (a.fCommands.get (Fin.mk v0.toNat h)) (!y_1.b 0) v0 (!eqI (y.i 0) 0) (!strEq (a.fCommands.get (Fin.mk v0.toNat h)).fPool (bs [])) (a.fCommands.get (Fin.mk v0.toNat h)) (y.i 0) (y.i 0) (a.fCommands.get (Fin.mk v0.toNat h)) (a.fCommands.get (Fin.mk v0.toNat h)).fPool (a.fCommands.get (Fin.mk v0.toNat h)) (y.i 0) (ss (a.fCommands.get (Fin.mk v0.toNat h)).fPool) (S.t (T.v (.bool !y_1.b 0))) (ag (e33 a)) (bb (y_1.b 0)) true (S.ptr 4 5) (ltI v0 (ofN a.fCommands.n)) else k1 (a.fCommands.get (Fin.mk v0.toNat h)) false v0 (!eqI (y.i 0) 0) (!strEq (a.fCommands.get (Fin.mk v0.toNat h)).fPool (bs [])) (a.fCommands.get (Fin.mk v0.toNat h)) (y.i 0) (y.i 0) (a.fCommands.get (Fin.mk v0.toNat h)) (a.fCommands.get (Fin.mk v0.toNat h)).fPool (a.fCommands.get (Fin.mk v0.toNat h)) (y.i 0) S.ud S.ud S.ud S.ud false S.ud (ltI v0 (ofN a.fCommands.n)) else some (ii 0)
def b28_1 (q:YF) (a:D33) (k0:Int→OS) (v0:D122) (v1:Bool) (v2:Int) (u3 u4:Bool) (u5:D122) (u6 u7:Int) (u8:D122) (u9:BA) (u10:D122) (u11:Int) (u12 u13 u14 u15:S) (u16:Bool) (u17:S) (u18:Bool):OS:=bif v1 then some (ii 5) else yC q 65 [ag (e33 a),S.t (T.rows 3 v0.fOpts.n fun i=>e47 (v0.fOpts.get i))] fun y=>bif !y.b 0 then some (ii 5) else k0 (addI .i64 v2 1)
def e28_in (q:YF) (a:D33) (k0:Int→OS):OS:=k0 0
structure X28 where
 x0:Int→OS
 x1:D122→Bool→Int→OS
def D28_0 (X:X28):Int→OS:=fun v0=>X.x0 v0
def D28_1 (X:X28):T28_1:=fun v0 v1 v2 _ _ _ _ _ _ _ _ _ _ _ _ _ _ _ _=>X.x1 v0 v1 v2
def X28s (q:YF) (a:D33) (X:X28):X28:=⟨fun v0=>b28_0 q a (D28_1 X) v0,
 fun v0 v1 v2=>b28_1 q a (D28_0 X) v0 v1 v2 dd dd dd dd dd dd dd dd dd dd dd dd dd dd dd dd⟩
def X28n (q:YF) (a:D33):Nat→X28
 | 0=>⟨fun _=>none,fun _ _ _=>none⟩
 | n+1=>X28s q a (X28n q a n)
theorem l28_0 (q:YF) (a:D33) (kk:PK S):K28_0 a (P28 q kk)=b28_0 q a (K28_1 a kk):=by
 kernel_rfl
theorem l28_1 (q:YF) (a:D33) (kk:PK S):K28_1 a (P28 q kk)=b28_1 q a (K28_0 a kk):=by
 kernel_rfl
theorem l28_in (q:YF) (a:D33) (kk:PK S):BG q kk 28 Tryz.f28 [ag (e33 a)]=e28_in q a (K28_0 a kk):=by
 kernel_rfl
theorem h28 (q:YF) (a:D33):∀ n,K28_0 a (H28 q n)=D28_0 (X28n q a n)∧K28_1 a (H28 q n)=D28_1 (X28n q a n)
 | 0=>⟨rfl,rfl⟩
 | n+1=>by
  obtain ⟨h0,h1⟩:=h28 q a n
  exact ⟨(l28_0 q a (H28 q n)).trans (by rw [h1];kernel_rfl),(l28_1 q a (H28 q n)).trans (by rw [h0];kernel_rfl)⟩
theorem W28 (a:D33) (n:Nat) (x:S) (h:e28_in (regs O) a (D28_0 (X28n (regs O) a n))=some x):(W O).callT 28 [ag (e33 a)]=some x:=by
 refine WG (fn:=Tryz.f28) (by kernel_rfl) (by kernel_rfl) (n:=n) ?_
 refine (l28_in (regs O) a (H28 (regs O) n)).trans ?_
 obtain ⟨h0,h1⟩:=h28 (regs O) a n
 rw [h0]
 exact h
abbrev P29 (q:YF) (kk:PK S):PK S:=PG q 29 Tryz.f29 kk
abbrev H29 (q:YF):Nat→PK S:=HG q 29 Tryz.f29
def s29_0 (a:D33) (v0:Int):St:=mkSt [(8,ii v0),(6,S.t (T.rows 4 a.fCools.n fun i=>e125 (a.fCools.get i))),(1,S.ptr 0 0),(7,ii (ofN a.fCools.n))] 1 [(0,B.box (List.map S.t (e33 a)))]
def K29_0 (a:D33) (kk:PK S):Int→OS:=fun v0=> kk 2 0 0 (s29_0 a v0)
def s29_1 (a:D33) (v0:D125) (v1:Int) (v2:Bool) (u3 u4 u5:BA) (u6:D125) (u7 u8 u9:Bool) (u10:D125) (u11 u12 u13:BA) (u14:Int) (u15 u16:Bool) (u17 u18:Int) (u19 u20 u21 u22 u23 u24 u25 u26 u27 u28:S) (u29:Bool) (u30:S):St:=mkSt [(32,u19),(16,S.agg [ss u3,ss u4,ss u5]),(8,ii v1),(24,u20),(4,S.ptr 5 0),(12,ag (e125 u6)),(28,u21),(34,u22),(18,bb u7),(10,ii u14),(26,u23),(6,S.t (T.rows 4 a.fCools.n fun i=>e125 (a.fCools.get i))),(22,bb u15),(14,ag (e33 a)),(30,u24),(1,S.ptr 0 0),(33,u25),(17,S.sl 11 1),(9,bb u16),(25,u26),(21,ii u17),(13,bb u8),(29,u27),(3,ii u18),(35,bb v2),(19,bb u9),(11,S.pt (e125 u10)),(27,u28),(7,ii (ofN a.fCools.n)),(23,bb u29),(15,S.ptr 5 0),(31,u30)] 31 [(0,B.box (List.map S.t (e33 a))),(5,B.box (List.map S.t (e125 v0))),(11,B.lst false 3 1 [ss u11,ss u12,ss u13])]
abbrev T29_1:Type:=D125→Int→Bool→BA→BA→BA→D125→Bool→Bool→Bool→D125→BA→BA→BA→Int→Bool→Bool→Int→Int→S→S→S→S→S→S→S→S→S→S→Bool→S→OS
def K29_1 (a:D33) (kk:PK S):T29_1:=fun v0 v1 v2 u3 u4 u5 u6 u7 u8 u9 u10 u11 u12 u13 u14 u15 u16 u17 u18 u19 u20 u21 u22 u23 u24 u25 u26 u27 u28 u29 u30=> kk 6 16 15 (s29_1 a v0 v1 v2 u3 u4 u5 u6 u7 u8 u9 u10 u11 u12 u13 u14 u15 u16 u17 u18 u19 u20 u21 u22 u23 u24 u25 u26 u27 u28 u29 u30)
def b29_0 (q:YF) (a:D33) (k1:T29_1) (v0:Int):OS:=bif ltI v0 (ofN a.fCools.n) then elemO v0 a.fCools.n fun h=>yC q 65 [ag (e33 a),S.t (T.rows 3 1 fun i=>List.take 3 (List.drop (↑i*3) [ts (a.fCools.get (Fin.mk v0.toNat h)).fOffer_Type,ts (a.fCools.get (Fin.mk v0.toNat h)).fOffer_Zone,ts (a.fCools.get (Fin.mk v0.toNat h)).fOffer_Kind]))] fun y=>bif !y.b 0 then some (ii 5) else bif gtI v0 0 then elemO (subI .i64 v0 1) a.fCools.n fun h_1=>yC q 69 [S.agg [ss (a.fCools.get (Fin.mk (subI .i64 v0 1).toNat h_1)).fOffer_Type,ss (a.fCools.get (Fin.mk (subI .i64 v0 1).toNat h_1)).fOffer_Zone,ss (a.fCools.get (Fin.mk (subI .i64 v0 1).toNat h_1)).fOffer_Kind],S.agg [ss (a.fCools.get (Fin.mk v0.toNat h)).fOffer_Type,ss (a.fCools.get (Fin.mk v0.toNat h)).fOffer_Zone,ss (a.fCools.get (Fin.mk v0.toNat h)).fOffer_Kind]] fun y_1=>k1 (a.fCools.get (Fin.mk v0.toNat h)) v0 (geI (y_1.i 0) 0) (a.fCools.get (Fin.mk v0.toNat h)).fOffer_Type (a.fCools.get (Fin.mk v0.toNat h)).fOffer_Zone (a.fCools.get (Fin.mk v0.toNat h)).fOffer_Kind (a.fCools.get (Fin.mk v0.toNat h)) (y.b 0) (!y.b 0) (!y.b 0) (a.fCools.get (Fin.mk v0.toNat h)) (a.fCools.get (Fin.mk v0.toNat h)).fOffer_Type (a.fCools.get (Fin.mk v0.toNat h)).fOffer_Zone (a.fCools.get (Fin.mk v0.toNat h)).fOffer_Kind v0 (gtI v0 0) (ltI v0 (ofN a.fCools.n)) v0 v0 (S.agg [ss (a.fCools.get (Fin.mk v0.toNat h)).fOffer_Type,ss (a.fCools.get (Fin.mk v0.toNat h)).fOffer_Zone,ss (a.fCools.get (Fin.mk v0.toNat h)).fOffer_Kind]) (S.ptr 0 11) (S.pt (e125 (a.fCools.get (Fin.mk (subI .i64 v0 1).toNat h_1)))) (bb (geI (y_1.i 0) 0)) (ii v0) (S.agg [ss (a.fCools.get (Fin.mk (subI .i64 v0 1).toNat h_1)).fOffer_Type,ss (a.fCools.get (Fin.mk (subI .i64 v0 1).toNat h_1)).fOffer_Zone,ss (a.fCools.get (Fin.mk (subI .i64 v0 1).toNat h_1)).fOffer_Kind]) (ii (y_1.i 0)) (S.t (T.rows 4 a.fCools.n fun i=>e125 (a.fCools.get i))) (S.pt (e125 (a.fCools.get (Fin.mk (subI .i64 v0 1).toNat h_1)))) (ii (subI .i64 v0 1)) true (S.ptr 5 0) else k1 (a.fCools.get (Fin.mk v0.toNat h)) v0 false (a.fCools.get (Fin.mk v0.toNat h)).fOffer_Type (a.fCools.get (Fin.mk v0.toNat h)).fOffer_Zone (a.fCools.get (Fin.mk v0.toNat h)).fOffer_Kind (a.fCools.get (Fin.mk v0.toNat h)) (y.b 0) (!y.b 0) (!y.b 0) (a.fCools.get (Fin.mk v0.toNat h)) (a.fCools.get (Fin.mk v0.toNat h)).fOffer_Type (a.fCools.get (Fin.mk v0.toNat h)).fOffer_Zone (a.fCools.get (Fin.mk v0.toNat h)).fOffer_Kind v0 (gtI v0 0) (ltI v0 (ofN a.fCools.n)) v0 v0 S.ud S.ud S.ud S.ud S.ud S.ud S.ud S.ud S.ud S.ud false S.ud else some (ii 0)
def b29_1 (q:YF) (a:D33) (k0:Int→OS) (v0:D125) (v1:Int) (v2:Bool) (u3 u4 u5:BA) (u6:D125) (u7 u8 u9:Bool) (u10:D125) (u11 u12 u13:BA) (u14:Int) (u15 u16:Bool) (u17 u18:Int) (u19 u20 u21 u22 u23 u24 u25 u26 u27 u28:S) (u29:Bool) (u30:S):OS:=bif v2 then some (ii 6) else yC q 22 [ii v0.fUntil] fun y=>bif !y.b 0 then some (ii 1) else k0 (addI .i64 v1 1)
def e29_in (q:YF) (a:D33) (k0:Int→OS):OS:=k0 0
structure X29 where
 x0:Int→OS
 x1:D125→Int→Bool→OS
def D29_0 (X:X29):Int→OS:=fun v0=>X.x0 v0
def D29_1 (X:X29):T29_1:=fun v0 v1 v2 _ _ _ _ _ _ _ _ _ _ _ _ _ _ _ _ _ _ _ _ _ _ _ _ _ _ _ _=>X.x1 v0 v1 v2
def X29s (q:YF) (a:D33) (X:X29):X29:=⟨fun v0=>b29_0 q a (D29_1 X) v0,
 fun v0 v1 v2=>b29_1 q a (D29_0 X) v0 v1 v2 dd dd dd dd dd dd dd dd dd dd dd dd dd dd dd dd dd dd dd dd dd dd dd dd dd dd dd dd⟩
def X29n (q:YF) (a:D33):Nat→X29
 | 0=>⟨fun _=>none,fun _ _ _=>none⟩
 | n+1=>X29s q a (X29n q a n)
theorem l29_0 (q:YF) (a:D33) (kk:PK S):K29_0 a (P29 q kk)=b29_0 q a (K29_1 a kk):=by
 kernel_rfl
theorem l29_1 (q:YF) (a:D33) (kk:PK S):K29_1 a (P29 q kk)=b29_1 q a (K29_0 a kk):=by
 kernel_rfl
theorem l29_in (q:YF) (a:D33) (kk:PK S):BG q kk 29 Tryz.f29 [ag (e33 a)]=e29_in q a (K29_0 a kk):=by
 kernel_rfl
theorem h29 (q:YF) (a:D33):∀ n,K29_0 a (H29 q n)=D29_0 (X29n q a n)∧K29_1 a (H29 q n)=D29_1 (X29n q a n)
 | 0=>⟨rfl,rfl⟩
 | n+1=>by
  obtain ⟨h0,h1⟩:=h29 q a n
  exact ⟨(l29_0 q a (H29 q n)).trans (by rw [h1];kernel_rfl),(l29_1 q a (H29 q n)).trans (by rw [h0];kernel_rfl)⟩
theorem W29 (a:D33) (n:Nat) (x:S) (h:e29_in (regs O) a (D29_0 (X29n (regs O) a n))=some x):(W O).callT 29 [ag (e33 a)]=some x:=by
 refine WG (fn:=Tryz.f29) (by kernel_rfl) (by kernel_rfl) (n:=n) ?_
 refine (l29_in (regs O) a (H29 (regs O) n)).trans ?_
 obtain ⟨h0,h1⟩:=h29 (regs O) a n
 rw [h0]
 exact h
abbrev P30 (q:YF) (kk:PK S):PK S:=PG q 30 Tryz.f30 kk
abbrev H30 (q:YF):Nat→PK S:=HG q 30 Tryz.f30
def s30_0 (a:D33) (v0:Int) (v1 v2:List (S × S)):St:=mkSt [(4,S.mp 2),(12,ii v0),(10,S.t (T.rows 7 a.fInsts.n fun i=>e91 (a.fInsts.get i))),(1,S.ptr 0 0),(3,S.mp 1),(11,ii (ofN a.fInsts.n))] 3 [(0,B.box (List.map S.t (e33 a))),(2,B.mp false v1),(1,B.mp false v2)]
abbrev T30_0:Type:=Int→(List (S × S))→(List (S × S))→OS
def K30_0 (a:D33) (kk:PK S):T30_0:=fun v0 v1 v2=> kk 3 0 0 (s30_0 a v0 v1 v2)
def s30_1 (a:D33) (v0:Bool) (v1:D91) (v2:Int) (v3 v4:List (S × S)) (u5:BA) (u6:D91) (u7:Bool) (u8:D91) (u9:Bool) (u10 u11 u12:S) (u13:Bool):St:=mkSt [(24,bb v0),(4,S.mp 2),(20,bb u9),(12,ii v2),(18,ss u5),(10,S.t (T.rows 7 a.fInsts.n fun i=>e91 (a.fInsts.get i))),(6,S.ptr 6 0),(22,u10),(14,S.pt (e91 u6)),(1,S.ptr 0 0),(17,S.ptr 6 0),(21,u11),(13,bb u13),(3,S.mp 1),(19,bb u7),(11,ii (ofN a.fInsts.n)),(23,u12),(15,ag (e91 u8))] 33 [(0,B.box (List.map S.t (e33 a))),(2,B.mp false v3),(6,B.box (List.map S.t (e91 v1))),(1,B.mp false v4)]
abbrev T30_1:Type:=Bool→D91→Int→(List (S × S))→(List (S × S))→BA→D91→Bool→D91→Bool→S→S→S→Bool→OS
def K30_1 (a:D33) (kk:PK S):T30_1:=fun v0 v1 v2 v3 v4 u5 u6 u7 u8 u9 u10 u11 u12 u13=> kk 5 9 8 (s30_1 a v0 v1 v2 v3 v4 u5 u6 u7 u8 u9 u10 u11 u12 u13)
def s30_2 (a:D33) (v0:Bool) (v1:D91) (v2:Int) (v3 v4:List (S × S)) (u5 u6:Bool) (u7:BA) (u8:S) (u9:D91) (u10:S) (u11:Bool) (u12:S) (u13:D91) (u14 u15:S) (u16:Bool) (u17:S) (u18:Bool):St:=mkSt [(24,bb u5),(4,S.mp 2),(20,bb u6),(12,ii v2),(28,u14),(18,ss u7),(10,S.t (T.rows 7 a.fInsts.n fun i=>e91 (a.fInsts.get i))),(26,u15),(6,S.ptr 6 0),(22,u8),(14,S.pt (e91 u9)),(1,S.ptr 0 0),(17,S.ptr 6 0),(25,bb u16),(21,u10),(13,bb u18),(29,bb v0),(3,S.mp 1),(19,bb u11),(11,ii (ofN a.fInsts.n)),(27,u17),(23,u12),(15,ag (e91 u13))] 33 [(0,B.box (List.map S.t (e33 a))),(2,B.mp false v3),(6,B.box (List.map S.t (e91 v1))),(1,B.mp false v4)]
abbrev T30_2:Type:=Bool→D91→Int→(List (S × S))→(List (S × S))→Bool→Bool→BA→S→D91→S→Bool→S→D91→S→S→Bool→S→Bool→OS
def K30_2 (a:D33) (kk:PK S):T30_2:=fun v0 v1 v2 v3 v4 u5 u6 u7 u8 u9 u10 u11 u12 u13 u14 u15 u16 u17 u18=> kk 5 14 8 (s30_2 a v0 v1 v2 v3 v4 u5 u6 u7 u8 u9 u10 u11 u12 u13 u14 u15 u16 u17 u18)
def s30_3 (a:D33) (v0:Bool) (v1:D91) (v2:Int) (v3 v4:List (S × S)) (u5 u6:Bool) (u7:S) (u8:BA) (u9 u10:S) (u11:D91) (u12:Bool) (u13:S) (u14 u15:Bool) (u16 u17:S) (u18:D91) (u19:S) (u20:Bool) (u21 u22:S) (u23:Bool):St:=mkSt [(32,u19),(24,bb u5),(4,S.mp 2),(20,bb u6),(12,ii v2),(28,u7),(34,bb v0),(18,ss u8),(10,S.t (T.rows 7 a.fInsts.n fun i=>e91 (a.fInsts.get i))),(26,u9),(6,S.ptr 6 0),(22,u10),(14,S.pt (e91 u11)),(30,bb u20),(1,S.ptr 0 0),(33,u21),(17,S.ptr 6 0),(25,bb u12),(21,u13),(13,bb u23),(29,bb u14),(3,S.mp 1),(19,bb u15),(11,ii (ofN a.fInsts.n)),(27,u16),(23,u17),(15,ag (e91 u18)),(31,u22)] 33 [(0,B.box (List.map S.t (e33 a))),(2,B.mp false v3),(6,B.box (List.map S.t (e91 v1))),(1,B.mp false v4)]
abbrev T30_3:Type:=Bool→D91→Int→(List (S × S))→(List (S × S))→Bool→Bool→S→BA→S→S→D91→Bool→S→Bool→Bool→S→S→D91→S→Bool→S→S→Bool→OS
def K30_3 (a:D33) (kk:PK S):T30_3:=fun v0 v1 v2 v3 v4 u5 u6 u7 u8 u9 u10 u11 u12 u13 u14 u15 u16 u17 u18 u19 u20 u21 u22 u23=> kk 5 19 8 (s30_3 a v0 v1 v2 v3 v4 u5 u6 u7 u8 u9 u10 u11 u12 u13 u14 u15 u16 u17 u18 u19 u20 u21 u22 u23)
def s30_4 (a:D33) (v0:Bool) (v1:D91) (v2:Int) (v3 v4:List (S × S)) (u5:S) (u6 u7:Bool) (u8:S) (u9:Bool) (u10:BA) (u11 u12:S) (u13:D91) (u14:Bool) (u15:S) (u16:Bool) (u17:S) (u18 u19:Bool) (u20 u21:S) (u22:D91) (u23 u24 u25 u26:S) (u27:Bool) (u28:S) (u29:Bool):St:=mkSt [(32,u5),(40,bb v0),(24,bb u6),(4,S.mp 2),(36,u24),(20,bb u7),(12,ii v2),(28,u8),(34,bb u9),(18,ss u10),(10,S.t (T.rows 7 a.fInsts.n fun i=>e91 (a.fInsts.get i))),(26,u11),(6,S.ptr 6 0),(38,u25),(22,u12),(14,S.pt (e91 u13)),(30,bb u14),(1,S.ptr 0 0),(33,u15),(17,S.ptr 6 0),(25,bb u16),(37,u26),(21,u17),(13,bb u29),(29,bb u18),(3,S.mp 1),(35,bb u27),(19,bb u19),(11,ii (ofN a.fInsts.n)),(27,u20),(39,u28),(23,u21),(15,ag (e91 u22)),(31,u23)] 33 [(0,B.box (List.map S.t (e33 a))),(2,B.mp false v3),(6,B.box (List.map S.t (e91 v1))),(1,B.mp false v4)]
abbrev T30_4:Type:=Bool→D91→Int→(List (S × S))→(List (S × S))→S→Bool→Bool→S→Bool→BA→S→S→D91→Bool→S→Bool→S→Bool→Bool→S→S→D91→S→S→S→S→Bool→S→Bool→OS
def K30_4 (a:D33) (kk:PK S):T30_4:=fun v0 v1 v2 v3 v4 u5 u6 u7 u8 u9 u10 u11 u12 u13 u14 u15 u16 u17 u18 u19 u20 u21 u22 u23 u24 u25 u26 u27 u28 u29=> kk 5 25 8 (s30_4 a v0 v1 v2 v3 v4 u5 u6 u7 u8 u9 u10 u11 u12 u13 u14 u15 u16 u17 u18 u19 u20 u21 u22 u23 u24 u25 u26 u27 u28 u29)
def s30_5 (a:D33) (v0:Bool) (v1:D91) (v2:Int) (v3 v4:List (S × S)) (u5:S) (u6 u7 u8:Bool) (u9:S) (u10:Bool) (u11:BA) (u12:S) (u13:Bool) (u14:BA) (u15 u16 u17:S) (u18:D91) (u19:Bool) (u20:S) (u21:Bool) (u22 u23:S) (u24 u25 u26 u27:Bool) (u28 u29 u30:S) (u31:D91) (u32 u33 u34:S) (u35:Bool) (u36 u37:S) (u38:Bool):St:=mkSt [(32,u5),(16,bb u6),(48,u33),(40,bb u7),(24,bb u8),(4,S.mp 2),(36,u9),(20,bb u10),(12,ii v2),(44,ss u11),(28,u12),(34,bb u13),(18,ss u14),(50,u34),(10,S.t (T.rows 7 a.fInsts.n fun i=>e91 (a.fInsts.get i))),(42,S.mp 1),(26,u15),(6,S.ptr 6 0),(38,u16),(22,u17),(14,S.pt (e91 u18)),(46,bb u35),(30,bb u19),(1,S.ptr 0 0),(33,u20),(17,S.ptr 6 0),(49,u36),(25,bb u21),(37,u22),(21,u23),(13,bb u38),(45,bb u24),(29,bb u25),(3,S.mp 1),(35,bb u26),(19,bb u27),(51,bb v0),(11,ii (ofN a.fInsts.n)),(43,S.ptr 6 0),(27,u28),(39,u29),(23,u30),(15,ag (e91 u31)),(47,u37),(31,u32)] 44 [(0,B.box (List.map S.t (e33 a))),(2,B.mp false v3),(6,B.box (List.map S.t (e91 v1))),(1,B.mp false v4)]
abbrev T30_5:Type:=Bool→D91→Int→(List (S × S))→(List (S × S))→S→Bool→Bool→Bool→S→Bool→BA→S→Bool→BA→S→S→S→D91→Bool→S→Bool→S→S→Bool→Bool→Bool→Bool→S→S→S→D91→S→S→S→Bool→S→S→Bool→OS
def K30_5 (a:D33) (kk:PK S):T30_5:=fun v0 v1 v2 v3 v4 u5 u6 u7 u8 u9 u10 u11 u12 u13 u14 u15 u16 u17 u18 u19 u20 u21 u22 u23 u24 u25 u26 u27 u28 u29 u30 u31 u32 u33 u34 u35 u36 u37 u38=> kk 7 11 33 (s30_5 a v0 v1 v2 v3 v4 u5 u6 u7 u8 u9 u10 u11 u12 u13 u14 u15 u16 u17 u18 u19 u20 u21 u22 u23 u24 u25 u26 u27 u28 u29 u30 u31 u32 u33 u34 u35 u36 u37 u38)
def b30_0 (q:YF) (a:D33) (k1:T30_1) (v0:Int) (v1 v2:List (S × S)):OS:=bif ltI v0 (ofN a.fInsts.n) then elemO v0 a.fInsts.n fun h=>bif strEq (a.fInsts.get (Fin.mk v0.toNat h)).fId (bs []) then k1 true (a.fInsts.get (Fin.mk v0.toNat h)) v0 v1 v2 (a.fInsts.get (Fin.mk v0.toNat h)).fId (a.fInsts.get (Fin.mk v0.toNat h)) (strEq (a.fInsts.get (Fin.mk v0.toNat h)).fId (bs [])) (a.fInsts.get (Fin.mk v0.toNat h)) true S.ud S.ud S.ud (ltI v0 (ofN a.fInsts.n)) else k1 (strEq (a.fInsts.get (Fin.mk v0.toNat h)).fToken (bs [])) (a.fInsts.get (Fin.mk v0.toNat h)) v0 v1 v2 (a.fInsts.get (Fin.mk v0.toNat h)).fId (a.fInsts.get (Fin.mk v0.toNat h)) (strEq (a.fInsts.get (Fin.mk v0.toNat h)).fId (bs [])) (a.fInsts.get (Fin.mk v0.toNat h)) false (ss (a.fInsts.get (Fin.mk v0.toNat h)).fToken) (S.ptr 6 1) (bb (strEq (a.fInsts.get (Fin.mk v0.toNat h)).fToken (bs []))) (ltI v0 (ofN a.fInsts.n)) else some (ii 0)
def b30_1 (q:YF) (a:D33) (k2:T30_2) (v0:Bool) (v1:D91) (v2:Int) (v3 v4:List (S × S)) (u5:BA) (u6:D91) (u7:Bool) (u8:D91) (u9:Bool) (u10 u11 u12:S) (u13:Bool):OS:=bif v0 then k2 true v1 v2 v3 v4 v0 u9 u5 u10 u6 u11 u7 u12 u8 S.ud S.ud true S.ud u13 else k2 (ltI v1.fState 1) v1 v2 v3 v4 v0 u9 u5 u10 u6 u11 u7 u12 u8 (bb (ltI v1.fState 1)) (S.ptr 6 5) false (ii v1.fState) u13
def b30_2 (q:YF) (a:D33) (k3:T30_3) (v0:Bool) (v1:D91) (v2:Int) (v3 v4:List (S × S)) (u5 u6:Bool) (u7:BA) (u8:S) (u9:D91) (u10:S) (u11:Bool) (u12:S) (u13:D91) (u14 u15:S) (u16:Bool) (u17:S) (u18:Bool):OS:=bif v0 then k3 true v1 v2 v3 v4 u5 u6 u14 u7 u15 u8 u9 u16 u10 v0 u11 u17 u12 u13 S.ud true S.ud S.ud u18 else k3 (gtI v1.fState 3) v1 v2 v3 v4 u5 u6 u14 u7 u15 u8 u9 u16 u10 v0 u11 u17 u12 u13 (ii v1.fState) false (bb (gtI v1.fState 3)) (S.ptr 6 5) u18
def b30_3 (q:YF) (a:D33) (k4:T30_4) (v0:Bool) (v1:D91) (v2:Int) (v3 v4:List (S × S)) (u5 u6:Bool) (u7:S) (u8:BA) (u9 u10:S) (u11:D91) (u12:Bool) (u13:S) (u14 u15:Bool) (u16 u17:S) (u18:D91) (u19:S) (u20:Bool) (u21 u22:S) (u23:Bool):OS:=bif v0 then k4 true v1 v2 v3 v4 u19 u5 u6 u7 v0 u8 u9 u10 u11 u20 u21 u12 u13 u14 u15 u16 u17 u18 u22 S.ud S.ud S.ud true S.ud u23 else yC q 22 [ii v1.fReady] fun y=>k4 (!y.b 0) v1 v2 v3 v4 u19 u5 u6 u7 v0 u8 u9 u10 u11 u20 u21 u12 u13 u14 u15 u16 u17 u18 u22 (S.ptr 6 6) (bb (y.b 0)) (ii v1.fReady) false (S.t (T.v (.bool !y.b 0))) u23
def b30_4 (q:YF) (a:D33) (k5:T30_5) (v0:Bool) (v1:D91) (v2:Int) (v3 v4:List (S × S)) (u5:S) (u6 u7:Bool) (u8:S) (u9:Bool) (u10:BA) (u11 u12:S) (u13:D91) (u14:Bool) (u15:S) (u16:Bool) (u17:S) (u18 u19:Bool) (u20 u21:S) (u22:D91) (u23 u24 u25 u26:S) (u27:Bool) (u28:S) (u29:Bool):OS:=bif v0 then some (ii 1) else lookW O.P O.K 9 4 v4 (ss v1.fId) (fun y=>bif y.b 0 then k5 true v1 v2 v3 v4 u5 v0 v0 u6 u24 u7 v1.fId u8 u9 u10 u11 u25 u12 u13 u14 u15 u16 u26 u17 (y.b 0) u18 u27 u19 u20 u28 u21 u22 u23 S.ud S.ud true S.ud S.ud u29 else lookW O.P O.K 9 4 v3 (ss v1.fToken) (fun y_1=>k5 (y_1.b 0) v1 v2 v3 v4 u5 v0 v0 u6 u24 u7 v1.fId u8 u9 u10 u11 u25 u12 u13 u14 u15 u16 u26 u17 (y.b 0) u18 u27 u19 u20 u28 u21 u22 u23 (S.ptr 6 1) (bb (y_1.b 0)) false (ss v1.fToken) (S.mp 2) u29) (k5 false v1 v2 v3 v4 u5 v0 v0 u6 u24 u7 v1.fId u8 u9 u10 u11 u25 u12 u13 u14 u15 u16 u26 u17 (y.b 0) u18 u27 u19 u20 u28 u21 u22 u23 (S.ptr 6 1) (bb false) false (ss v1.fToken) (S.mp 2) u29)) (lookW O.P O.K 9 4 v3 (ss v1.fToken) (fun y=>k5 (y.b 0) v1 v2 v3 v4 u5 v0 v0 u6 u24 u7 v1.fId u8 u9 u10 u11 u25 u12 u13 u14 u15 u16 u26 u17 false u18 u27 u19 u20 u28 u21 u22 u23 (S.ptr 6 1) (bb (y.b 0)) false (ss v1.fToken) (S.mp 2) u29) (k5 false v1 v2 v3 v4 u5 v0 v0 u6 u24 u7 v1.fId u8 u9 u10 u11 u25 u12 u13 u14 u15 u16 u26 u17 false u18 u27 u19 u20 u28 u21 u22 u23 (S.ptr 6 1) (bb false) false (ss v1.fToken) (S.mp 2) u29))
def b30_5 (q:YF) (a:D33) (k0:T30_0) (v0:Bool) (v1:D91) (v2:Int) (v3 v4:List (S × S)) (u5:S) (u6 u7 u8:Bool) (u9:S) (u10:Bool) (u11:BA) (u12:S) (u13:Bool) (u14:BA) (u15 u16 u17:S) (u18:D91) (u19:Bool) (u20:S) (u21:Bool) (u22 u23:S) (u24 u25 u26 u27:Bool) (u28 u29 u30:S) (u31:D91) (u32 u33 u34:S) (u35:Bool) (u36 u37:S) (u38:Bool):OS:=bif v0 then some (ii 6) else yC q 65 [ag (e33 a),S.t (T.rows 3 1 fun i=>List.take 3 (List.drop (↑i*3) [ts v1.fOffer_Type,ts v1.fOffer_Zone,ts v1.fOffer_Kind]))] fun y=>bif !y.b 0 then some (ii 5) else updW O.P O.K 9 v4 (ss v1.fId) (bb true) fun m=>updW O.P O.K 9 v3 (ss v1.fToken) (bb true) fun m_1=>flatW 900 m (flatW 900 m_1 (k0 (addI .i64 v2 1) m_1 m))
def e30_in (q:YF) (a:D33) (k0:T30_0):OS:=flatW 900 [] (flatW 900 [] (k0 0 [] []))
structure X30 where
 x0:Int→(List (S × S))→(List (S × S))→OS
 x1:Bool→D91→Int→(List (S × S))→(List (S × S))→OS
 x2:Bool→D91→Int→(List (S × S))→(List (S × S))→OS
 x3:Bool→D91→Int→(List (S × S))→(List (S × S))→OS
 x4:Bool→D91→Int→(List (S × S))→(List (S × S))→OS
 x5:Bool→D91→Int→(List (S × S))→(List (S × S))→OS
def D30_0 (X:X30):T30_0:=fun v0 v1 v2=>X.x0 v0 v1 v2
def D30_1 (X:X30):T30_1:=fun v0 v1 v2 v3 v4 _ _ _ _ _ _ _ _ _=>X.x1 v0 v1 v2 v3 v4
def D30_2 (X:X30):T30_2:=fun v0 v1 v2 v3 v4 _ _ _ _ _ _ _ _ _ _ _ _ _ _=>X.x2 v0 v1 v2 v3 v4
def D30_3 (X:X30):T30_3:=fun v0 v1 v2 v3 v4 _ _ _ _ _ _ _ _ _ _ _ _ _ _ _ _ _ _ _=>X.x3 v0 v1 v2 v3 v4
def D30_4 (X:X30):T30_4:=fun v0 v1 v2 v3 v4 _ _ _ _ _ _ _ _ _ _ _ _ _ _ _ _ _ _ _ _ _ _ _ _ _=>X.x4 v0 v1 v2 v3 v4
def D30_5 (X:X30):T30_5:=fun v0 v1 v2 v3 v4 _ _ _ _ _ _ _ _ _ _ _ _ _ _ _ _ _ _ _ _ _ _ _ _ _ _ _ _ _ _ _ _ _ _=>X.x5 v0 v1 v2 v3 v4
def X30s (q:YF) (a:D33) (X:X30):X30:=⟨fun v0 v1 v2=>b30_0 q a (D30_1 X) v0 v1 v2,
 fun v0 v1 v2 v3 v4=>b30_1 q a (D30_2 X) v0 v1 v2 v3 v4 dd dd dd dd dd dd dd dd dd,
 fun v0 v1 v2 v3 v4=>b30_2 q a (D30_3 X) v0 v1 v2 v3 v4 dd dd dd dd dd dd dd dd dd dd dd dd dd dd,
 fun v0 v1 v2 v3 v4=>b30_3 q a (D30_4 X) v0 v1 v2 v3 v4 dd dd dd dd dd dd dd dd dd dd dd dd dd dd dd dd dd dd dd,
 fun v0 v1 v2 v3 v4=>b30_4 q a (D30_5 X) v0 v1 v2 v3 v4 dd dd dd dd dd dd dd dd dd dd dd dd dd dd dd dd dd dd dd dd dd dd dd dd dd,
 fun v0 v1 v2 v3 v4=>b30_5 q a (D30_0 X) v0 v1 v2 v3 v4 dd dd dd dd dd dd dd dd dd dd dd dd dd dd dd dd dd dd dd dd dd dd dd dd dd dd dd dd dd dd dd dd dd dd⟩
def X30n (q:YF) (a:D33):Nat→X30
 | 0=>⟨fun _ _ _=>none,fun _ _ _ _ _=>none,fun _ _ _ _ _=>none,fun _ _ _ _ _=>none,fun _ _ _ _ _=>none,fun _ _ _ _ _=>none⟩
 | n+1=>X30s q a (X30n q a n)
theorem l30_0 (q:YF) (a:D33) (kk:PK S):K30_0 a (P30 q kk)=b30_0 q a (K30_1 a kk):=by
 kernel_rfl
theorem l30_1 (q:YF) (a:D33) (kk:PK S):K30_1 a (P30 q kk)=b30_1 q a (K30_2 a kk):=by
 kernel_rfl
theorem l30_2 (q:YF) (a:D33) (kk:PK S):K30_2 a (P30 q kk)=b30_2 q a (K30_3 a kk):=by
 kernel_rfl
theorem l30_3 (q:YF) (a:D33) (kk:PK S):K30_3 a (P30 q kk)=b30_3 q a (K30_4 a kk):=by
 kernel_rfl
theorem l30_4 (q:YF) (a:D33) (kk:PK S):K30_4 a (P30 q kk)=b30_4 q a (K30_5 a kk):=by
 kernel_rfl
theorem l30_5 (q:YF) (a:D33) (kk:PK S):K30_5 a (P30 q kk)=b30_5 q a (K30_0 a kk):=by
 kernel_rfl
theorem l30_in (q:YF) (a:D33) (kk:PK S):BG q kk 30 Tryz.f30 [ag (e33 a)]=e30_in q a (K30_0 a kk):=by
 kernel_rfl
theorem h30 (q:YF) (a:D33):∀ n,K30_0 a (H30 q n)=D30_0 (X30n q a n)∧K30_1 a (H30 q n)=D30_1 (X30n q a n)∧K30_2 a (H30 q n)=D30_2 (X30n q a n)∧K30_3 a (H30 q n)=D30_3 (X30n q a n)∧K30_4 a (H30 q n)=D30_4 (X30n q a n)∧K30_5 a (H30 q n)=D30_5 (X30n q a n)
 | 0=>⟨rfl,rfl,rfl,rfl,rfl,rfl⟩
 | n+1=>by
  obtain ⟨h0,h1,h2,h3,h4,h5⟩:=h30 q a n
  exact ⟨(l30_0 q a (H30 q n)).trans (by rw [h1];kernel_rfl),(l30_1 q a (H30 q n)).trans (by rw [h2];kernel_rfl),(l30_2 q a (H30 q n)).trans (by rw [h3];kernel_rfl),(l30_3 q a (H30 q n)).trans (by rw [h4];kernel_rfl),(l30_4 q a (H30 q n)).trans (by rw [h5];kernel_rfl),(l30_5 q a (H30 q n)).trans (by rw [h0];kernel_rfl)⟩
theorem W30 (a:D33) (n:Nat) (x:S) (h:e30_in (regs O) a (D30_0 (X30n (regs O) a n))=some x):(W O).callT 30 [ag (e33 a)]=some x:=by
 refine WG (fn:=Tryz.f30) (by kernel_rfl) (by kernel_rfl) (n:=n) ?_
 refine (l30_in (regs O) a (H30 (regs O) n)).trans ?_
 obtain ⟨h0,h1,h2,h3,h4,h5⟩:=h30 (regs O) a n
 rw [h0]
 exact h
abbrev P31 (q:YF) (kk:PK S):PK S:=PG q 31 Tryz.f31 kk
abbrev H31 (q:YF):Nat→PK S:=HG q 31 Tryz.f31
def s31_0 (a:Int) (v0:Bool) (u1:S) (u2:Bool) (u3:S):St:=mkSt [(0,ii a),(8,bb v0),(4,bb (geI a 0)),(2,bb false),(6,u1),(5,bb u2),(3,ii a),(7,u3)] 8 []
abbrev T31_0:Type:=Bool→S→Bool→S→OS
def K31_0 (a:Int) (kk:PK S):T31_0:=fun v0 u1 u2 u3=> kk 1 7 1 (s31_0 a v0 u1 u2 u3)
def b31_0 (q:YF) (a:Int) (v0:Bool) (u1:S) (u2:Bool) (u3:S):OS:=some (bb v0)
def e31_in (q:YF) (a:Int) (k0:T31_0):OS:=bif geI a 0 then k0 (leI a 1099511627776) (ii a) true (bb (leI a 1099511627776)) else k0 false S.ud false S.ud
structure X31 where
 x0:Bool→OS
def D31_0 (X:X31):T31_0:=fun v0 _ _ _=>X.x0 v0
def X31s (q:YF) (a:Int) (X:X31):X31:=⟨fun v0=>b31_0 q a v0 dd dd dd⟩
def X31n (q:YF) (a:Int):Nat→X31
 | 0=>⟨fun _=>none⟩
 | n+1=>X31s q a (X31n q a n)
theorem l31_0 (q:YF) (a:Int) (kk:PK S):K31_0 a (P31 q kk)=b31_0 q a:=by
 kernel_rfl
theorem l31_in (q:YF) (a:Int) (kk:PK S):BG q kk 31 Tryz.f31 [ii a]=e31_in q a (K31_0 a kk):=by
 kernel_rfl
theorem h31 (q:YF) (a:Int):∀ n,K31_0 a (H31 q n)=D31_0 (X31n q a n)
 | 0=>rfl
 | n+1=>by
  have h0:=h31 q a n
  exact (l31_0 q a (H31 q n)).trans (by kernel_rfl)
theorem W31 (a:Int) (n:Nat) (x:S) (h:e31_in (regs O) a (D31_0 (X31n (regs O) a n))=some x):(W O).callT 31 [ii a]=some x:=by
 refine WG (fn:=Tryz.f31) (by kernel_rfl) (by kernel_rfl) (n:=n) ?_
 refine (l31_in (regs O) a (H31 (regs O) n)).trans ?_
 have h0:=h31 (regs O) a n
 rw [h0]
 exact h
abbrev P32 (q:YF) (kk:PK S):PK S:=PG q 32 Tryz.f32 kk
abbrev H32 (q:YF):Nat→PK S:=HG q 32 Tryz.f32
def s32_0 (a:Int) (v0:Bool) (u1:S) (u2:Bool) (u3:S):St:=mkSt [(0,ii a),(8,bb v0),(4,bb (geI a 0)),(2,bb false),(6,u1),(5,bb u2),(3,ii a),(7,u3)] 8 []
def K32_0 (a:Int) (kk:PK S):T31_0:=fun v0 u1 u2 u3=> kk 1 7 1 (s32_0 a v0 u1 u2 u3)
def b32_0 (q:YF) (a:Int) (v0:Bool) (u1:S) (u2:Bool) (u3:S):OS:=some (bb v0)
def e32_in (q:YF) (a:Int) (k0:T31_0):OS:=bif geI a 0 then k0 (leI a 1073741824) (ii a) true (bb (leI a 1073741824)) else k0 false S.ud false S.ud
structure X32 where
 x0:Bool→OS
def D32_0 (X:X32):T31_0:=fun v0 _ _ _=>X.x0 v0
def X32s (q:YF) (a:Int) (X:X32):X32:=⟨fun v0=>b32_0 q a v0 dd dd dd⟩
def X32n (q:YF) (a:Int):Nat→X32
 | 0=>⟨fun _=>none⟩
 | n+1=>X32s q a (X32n q a n)
theorem l32_0 (q:YF) (a:Int) (kk:PK S):K32_0 a (P32 q kk)=b32_0 q a:=by
 kernel_rfl
theorem l32_in (q:YF) (a:Int) (kk:PK S):BG q kk 32 Tryz.f32 [ii a]=e32_in q a (K32_0 a kk):=by
 kernel_rfl
theorem h32 (q:YF) (a:Int):∀ n,K32_0 a (H32 q n)=D32_0 (X32n q a n)
 | 0=>rfl
 | n+1=>by
  have h0:=h32 q a n
  exact (l32_0 q a (H32 q n)).trans (by kernel_rfl)
theorem W32 (a:Int) (n:Nat) (x:S) (h:e32_in (regs O) a (D32_0 (X32n (regs O) a n))=some x):(W O).callT 32 [ii a]=some x:=by
 refine WG (fn:=Tryz.f32) (by kernel_rfl) (by kernel_rfl) (n:=n) ?_
 refine (l32_in (regs O) a (H32 (regs O) n)).trans ?_
 have h0:=h32 (regs O) a n
 rw [h0]
 exact h
abbrev P33 (q:YF) (kk:PK S):PK S:=PG q 33 Tryz.f33 kk
abbrev H33 (q:YF):Nat→PK S:=HG q 33 Tryz.f33
def s33_0 (a:Rw D112) (v0:Int):St:=mkSt [(0,S.t (T.rows 7 a.n fun i=>e112 (a.get i))),(3,ii v0)] 0 []
def K33_0 (a:Rw D112) (kk:PK S):Int→OS:=fun v0=> kk 4 0 0 (s33_0 a v0)
def s33_1 (a:Rw D112) (v0 v1:Int):St:=mkSt [(0,S.t (T.rows 7 a.n fun i=>e112 (a.get i))),(5,ii v1),(3,ii v0)] 0 []
def K33_1 (a:Rw D112) (kk:PK S):Int→Int→OS:=fun v0 v1=> kk 10 0 0 (s33_1 a v0 v1)
def b33_0 (q:YF) (a:Rw D112) (k1:Int→Int→OS) (v0:Int):OS:=bif ltI v0 (ofN a.n) then elemO v0 a.n fun h=>yC q 70 [ag (e112 (a.get (Fin.mk v0.toNat h)))] fun y=>bif !eqI (y.i 0) 0 then some (ii (y.i 0)) else k1 v0 0 else some (ii 0)
def b33_1 (q:YF) (a:Rw D112) (k0:Int→OS) (k1:Int→Int→OS) (v0 v1:Int):OS:=bif ltI v1 v0 then elemO v1 a.n fun h=>elemO v0 a.n fun h_1=>bif strEq (a.get (Fin.mk v1.toNat h)).fName (a.get (Fin.mk v0.toNat h_1)).fName then some (ii 6) else k1 v0 (addI .i64 v1 1) else k0 (addI .i64 v0 1)
def e33_in (q:YF) (a:Rw D112) (k0:Int→OS):OS:=bif gtI (ofN a.n) 12 then some (ii 3) else k0 0
structure X33 where
 x0:Int→OS
 x1:Int→Int→OS
def D33_0 (X:X33):Int→OS:=fun v0=>X.x0 v0
def D33_1 (X:X33):Int→Int→OS:=fun v0 v1=>X.x1 v0 v1
def X33s (q:YF) (a:Rw D112) (X:X33):X33:=⟨fun v0=>b33_0 q a (D33_1 X) v0,
 fun v0 v1=>b33_1 q a (D33_0 X) (D33_1 X) v0 v1⟩
def X33n (q:YF) (a:Rw D112):Nat→X33
 | 0=>⟨fun _=>none,fun _ _=>none⟩
 | n+1=>X33s q a (X33n q a n)
theorem l33_0 (q:YF) (a:Rw D112) (kk:PK S):K33_0 a (P33 q kk)=b33_0 q a (K33_1 a kk):=by
 kernel_rfl
theorem l33_1 (q:YF) (a:Rw D112) (kk:PK S):K33_1 a (P33 q kk)=b33_1 q a (K33_0 a kk) (K33_1 a kk):=by
 kernel_rfl
theorem l33_in (q:YF) (a:Rw D112) (kk:PK S):BG q kk 33 Tryz.f33 [S.t (T.rows 7 a.n fun i=>e112 (a.get i))]=e33_in q a (K33_0 a kk):=by
 kernel_rfl
theorem h33 (q:YF) (a:Rw D112):∀ n,K33_0 a (H33 q n)=D33_0 (X33n q a n)∧K33_1 a (H33 q n)=D33_1 (X33n q a n)
 | 0=>⟨rfl,rfl⟩
 | n+1=>by
  obtain ⟨h0,h1⟩:=h33 q a n
  exact ⟨(l33_0 q a (H33 q n)).trans (by rw [h1];kernel_rfl),(l33_1 q a (H33 q n)).trans (by rw [h0,h1];kernel_rfl)⟩
theorem W33 (a:Rw D112) (n:Nat) (x:S) (h:e33_in (regs O) a (D33_0 (X33n (regs O) a n))=some x):(W O).callT 33 [S.t (T.rows 7 a.n fun i=>e112 (a.get i))]=some x:=by
 refine WG (fn:=Tryz.f33) (by kernel_rfl) (by kernel_rfl) (n:=n) ?_
 refine (l33_in (regs O) a (H33 (regs O) n)).trans ?_
 obtain ⟨h0,h1⟩:=h33 (regs O) a n
 rw [h0]
 exact h
abbrev P34 (q:YF) (kk:PK S):PK S:=PG q 34 Tryz.f34 kk
abbrev H34 (q:YF):Nat→PK S:=HG q 34 Tryz.f34
def s34_0 (a:D77) (v0:Bool) (u1:Int) (u2:Bool) (u3 u4:Int) (u5 u6:Bool) (u7:Int) (u8 u9:Bool) (u10:Int) (u11:Bool) (u12 u13 u14 u15:Int) (u16 u17:Bool) (u18 u19 u20 u21:S):St:=mkSt [(0,ag (e77 a)),(32,ii u1),(16,bb (gtI a.fWeight 100)),(8,bb u2),(40,bb u17),(24,S.ptr 0 4),(4,ii u3),(36,S.ptr 0 6),(20,ii u4),(12,bb (ltI a.fWeight 0)),(44,u18),(28,bb u5),(2,ii 0),(34,bb u6),(18,S.ptr 0 2),(10,S.ptr 0 1),(42,u19),(26,ii u7),(6,S.ptr 0 0),(38,bb u8),(22,bb u9),(14,S.ptr 0 1),(30,S.ptr 0 5),(1,S.ptr 0 0),(33,ii u10),(17,bb (gtI a.fWeight 100)),(9,bb u11),(41,u20),(25,S.t (T.rows 4 a.fReqs.n fun i=>e68 (a.fReqs.get i))),(5,ii u12),(37,ii a.fGen),(21,ii u13),(13,bb false),(45,bb v0),(3,ii u14),(19,S.agg [ii a.fLimit_0,ii a.fLimit_1]),(11,ii a.fWeight),(43,u21),(27,ii u15),(7,ss a.fName),(39,bb u16),(15,ii a.fWeight),(31,S.t (T.rows 2 a.fTaints.n fun i=>e88 (a.fTaints.get i)))] 62 [(0,B.box (List.map S.t (e77 a)))]
abbrev T34_0:Type:=Bool→Int→Bool→Int→Int→Bool→Bool→Int→Bool→Bool→Int→Bool→Int→Int→Int→Int→Bool→Bool→S→S→S→S→OS
def K34_0 (a:D77) (kk:PK S):T34_0:=fun v0 u1 u2 u3 u4 u5 u6 u7 u8 u9 u10 u11 u12 u13 u14 u15 u16 u17 u18 u19 u20 u21=> kk 14 11 32 (s34_0 a v0 u1 u2 u3 u4 u5 u6 u7 u8 u9 u10 u11 u12 u13 u14 u15 u16 u17 u18 u19 u20 u21)
def s34_1 (a:D77) (v0:Bool) (u1:Int) (u2 u3:Bool) (u4 u5:Int) (u6:S) (u7 u8:Bool) (u9:S) (u10:Int) (u11 u12:Bool) (u13:Int) (u14:Bool) (u15:S) (u16 u17:Int) (u18:Bool) (u19:Int) (u20:S) (u21:Int) (u22:Bool) (u23:S) (u24:Bool) (u25 u26:S):St:=mkSt [(0,ag (e77 a)),(32,ii u1),(16,bb (gtI a.fWeight 100)),(48,u23),(8,bb u2),(40,bb u3),(24,S.ptr 0 4),(4,ii u4),(36,S.ptr 0 6),(20,ii u5),(12,bb (ltI a.fWeight 0)),(44,u6),(28,bb u7),(2,ii 0),(34,bb u8),(18,S.ptr 0 2),(50,bb v0),(10,S.ptr 0 1),(42,u9),(26,ii u10),(6,S.ptr 0 0),(38,bb u11),(22,bb u12),(14,S.ptr 0 1),(46,bb u24),(30,S.ptr 0 5),(1,S.ptr 0 0),(33,ii u13),(17,bb (gtI a.fWeight 100)),(49,u25),(9,bb u14),(41,u15),(25,S.t (T.rows 4 a.fReqs.n fun i=>e68 (a.fReqs.get i))),(5,ii u16),(37,ii a.fGen),(21,ii u17),(13,bb false),(45,bb u18),(3,ii u19),(19,S.agg [ii a.fLimit_0,ii a.fLimit_1]),(11,ii a.fWeight),(43,u20),(27,ii u21),(7,ss a.fName),(39,bb u22),(15,ii a.fWeight),(47,u26),(31,S.t (T.rows 2 a.fTaints.n fun i=>e88 (a.fTaints.get i)))] 62 [(0,B.box (List.map S.t (e77 a)))]
abbrev T34_1:Type:=Bool→Int→Bool→Bool→Int→Int→S→Bool→Bool→S→Int→Bool→Bool→Int→Bool→S→Int→Int→Bool→Int→S→Int→Bool→S→Bool→S→S→OS
def K34_1 (a:D77) (kk:PK S):T34_1:=fun v0 u1 u2 u3 u4 u5 u6 u7 u8 u9 u10 u11 u12 u13 u14 u15 u16 u17 u18 u19 u20 u21 u22 u23 u24 u25 u26=> kk 14 16 32 (s34_1 a v0 u1 u2 u3 u4 u5 u6 u7 u8 u9 u10 u11 u12 u13 u14 u15 u16 u17 u18 u19 u20 u21 u22 u23 u24 u25 u26)
def s34_2 (a:D77) (v0:Bool) (u1:Int) (u2:S) (u3 u4:Bool) (u5 u6:Int) (u7:S) (u8 u9 u10:Bool) (u11:S) (u12:Int) (u13 u14 u15:Bool) (u16:Int) (u17:S) (u18:Bool) (u19:S) (u20 u21:Int) (u22:Bool) (u23:Int) (u24:S) (u25:Int) (u26:Bool) (u27 u28 u29 u30:S) (u31:Bool):St:=mkSt [(0,ag (e77 a)),(32,ii u1),(16,bb (gtI a.fWeight 100)),(48,u2),(8,bb u3),(40,bb u4),(24,S.ptr 0 4),(4,ii u5),(36,S.ptr 0 6),(20,ii u6),(52,u28),(12,bb (ltI a.fWeight 0)),(44,u7),(28,bb u8),(2,ii 0),(34,bb u9),(18,S.ptr 0 2),(50,bb u10),(10,S.ptr 0 1),(42,u11),(26,ii u12),(6,S.ptr 0 0),(38,bb u13),(22,bb u14),(54,u29),(14,S.ptr 0 1),(46,bb u15),(30,S.ptr 0 5),(1,S.ptr 0 0),(33,ii u16),(17,bb (gtI a.fWeight 100)),(49,u17),(9,bb u18),(41,u19),(25,S.t (T.rows 4 a.fReqs.n fun i=>e68 (a.fReqs.get i))),(5,ii u20),(37,ii a.fGen),(21,ii u21),(53,u30),(13,bb false),(45,bb u22),(3,ii u23),(19,S.agg [ii a.fLimit_0,ii a.fLimit_1]),(51,bb u31),(11,ii a.fWeight),(43,u24),(27,ii u25),(7,ss a.fName),(39,bb u26),(55,bb v0),(15,ii a.fWeight),(47,u27),(31,S.t (T.rows 2 a.fTaints.n fun i=>e88 (a.fTaints.get i)))] 62 [(0,B.box (List.map S.t (e77 a)))]
abbrev T34_2:Type:=Bool→Int→S→Bool→Bool→Int→Int→S→Bool→Bool→Bool→S→Int→Bool→Bool→Bool→Int→S→Bool→S→Int→Int→Bool→Int→S→Int→Bool→S→S→S→S→Bool→OS
def K34_2 (a:D77) (kk:PK S):T34_2:=fun v0 u1 u2 u3 u4 u5 u6 u7 u8 u9 u10 u11 u12 u13 u14 u15 u16 u17 u18 u19 u20 u21 u22 u23 u24 u25 u26 u27 u28 u29 u30 u31=> kk 14 21 32 (s34_2 a v0 u1 u2 u3 u4 u5 u6 u7 u8 u9 u10 u11 u12 u13 u14 u15 u16 u17 u18 u19 u20 u21 u22 u23 u24 u25 u26 u27 u28 u29 u30 u31)
def s34_3 (a:D77) (v0:Bool) (u1:Int) (u2:S) (u3 u4:Bool) (u5 u6:Int) (u7 u8:S) (u9 u10 u11:Bool) (u12:S) (u13:Int) (u14 u15:Bool) (u16:S) (u17:Bool) (u18:Int) (u19:S) (u20:Bool) (u21:S) (u22 u23:Int) (u24:S) (u25:Bool) (u26:Int) (u27:Bool) (u28:S) (u29:Int) (u30 u31:Bool) (u32:S) (u33:Bool) (u34 u35 u36:S):St:=mkSt [(0,ag (e77 a)),(32,ii u1),(16,bb (gtI a.fWeight 100)),(48,u2),(8,bb u3),(40,bb u4),(24,S.ptr 0 4),(56,bb u33),(4,ii u5),(36,S.ptr 0 6),(20,ii u6),(52,u7),(12,bb (ltI a.fWeight 0)),(44,u8),(28,bb u9),(60,bb v0),(2,ii 0),(34,bb u10),(18,S.ptr 0 2),(50,bb u11),(10,S.ptr 0 1),(42,u12),(26,ii u13),(58,u34),(6,S.ptr 0 0),(38,bb u14),(22,bb u15),(54,u16),(14,S.ptr 0 1),(46,bb u17),(30,S.ptr 0 5),(1,S.ptr 0 0),(33,ii u18),(17,bb (gtI a.fWeight 100)),(49,u19),(9,bb u20),(41,u21),(25,S.t (T.rows 4 a.fReqs.n fun i=>e68 (a.fReqs.get i))),(57,u35),(5,ii u22),(37,ii a.fGen),(21,ii u23),(53,u24),(13,bb false),(45,bb u25),(3,ii u26),(19,S.agg [ii a.fLimit_0,ii a.fLimit_1]),(51,bb u27),(11,ii a.fWeight),(43,u28),(27,ii u29),(59,u36),(7,ss a.fName),(39,bb u30),(55,bb u31),(15,ii a.fWeight),(47,u32),(31,S.t (T.rows 2 a.fTaints.n fun i=>e88 (a.fTaints.get i)))] 62 [(0,B.box (List.map S.t (e77 a)))]
abbrev T34_3:Type:=Bool→Int→S→Bool→Bool→Int→Int→S→S→Bool→Bool→Bool→S→Int→Bool→Bool→S→Bool→Int→S→Bool→S→Int→Int→S→Bool→Int→Bool→S→Int→Bool→Bool→S→Bool→S→S→S→OS
def K34_3 (a:D77) (kk:PK S):T34_3:=fun v0 u1 u2 u3 u4 u5 u6 u7 u8 u9 u10 u11 u12 u13 u14 u15 u16 u17 u18 u19 u20 u21 u22 u23 u24 u25 u26 u27 u28 u29 u30 u31 u32 u33 u34 u35 u36=> kk 14 26 32 (s34_3 a v0 u1 u2 u3 u4 u5 u6 u7 u8 u9 u10 u11 u12 u13 u14 u15 u16 u17 u18 u19 u20 u21 u22 u23 u24 u25 u26 u27 u28 u29 u30 u31 u32 u33 u34 u35 u36)
def b34_0 (q:YF) (a:D77) (k1:T34_1) (v0:Bool) (u1:Int) (u2:Bool) (u3 u4:Int) (u5 u6:Bool) (u7:Int) (u8 u9:Bool) (u10:Int) (u11:Bool) (u12 u13 u14 u15:Int) (u16 u17:Bool) (u18 u19 u20 u21:S):OS:=bif v0 then k1 true u1 u2 u17 u3 u4 u18 u5 u6 u19 u7 u8 u9 u10 u11 u20 u12 u13 v0 u14 u21 u15 u16 S.ud true S.ud S.ud else k1 (ltI a.fBudget 0) u1 u2 u17 u3 u4 u18 u5 u6 u19 u7 u8 u9 u10 u11 u20 u12 u13 v0 u14 u21 u15 u16 (ii a.fBudget) false (bb (ltI a.fBudget 0)) (S.ptr 0 8)
def b34_1 (q:YF) (a:D77) (k2:T34_2) (v0:Bool) (u1:Int) (u2 u3:Bool) (u4 u5:Int) (u6:S) (u7 u8:Bool) (u9:S) (u10:Int) (u11 u12:Bool) (u13:Int) (u14:Bool) (u15:S) (u16 u17:Int) (u18:Bool) (u19:Int) (u20:S) (u21:Int) (u22:Bool) (u23:S) (u24:Bool) (u25 u26:S):OS:=bif v0 then k2 true u1 u23 u2 u3 u4 u5 u6 u7 u8 v0 u9 u10 u11 u12 u24 u13 u25 u14 u15 u16 u17 u18 u19 u20 u21 u22 u26 S.ud S.ud S.ud true else k2 (gtI a.fBudget 16) u1 u23 u2 u3 u4 u5 u6 u7 u8 v0 u9 u10 u11 u12 u24 u13 u25 u14 u15 u16 u17 u18 u19 u20 u21 u22 u26 (S.ptr 0 8) (bb (gtI a.fBudget 16)) (ii a.fBudget) false
def b34_2 (q:YF) (a:D77) (k3:T34_3) (v0:Bool) (u1:Int) (u2:S) (u3 u4:Bool) (u5 u6:Int) (u7:S) (u8 u9 u10:Bool) (u11:S) (u12:Int) (u13 u14 u15:Bool) (u16:Int) (u17:S) (u18:Bool) (u19:S) (u20 u21:Int) (u22:Bool) (u23:Int) (u24:S) (u25:Int) (u26:Bool) (u27 u28 u29 u30:S) (u31:Bool):OS:=bif v0 then k3 true u1 u2 u3 u4 u5 u6 u28 u7 u8 u9 u10 u11 u12 u13 u14 u29 u15 u16 u17 u18 u19 u20 u21 u30 u22 u23 u31 u24 u25 u26 v0 u27 true S.ud S.ud S.ud else k3 (ltI a.fMerge 0) u1 u2 u3 u4 u5 u6 u28 u7 u8 u9 u10 u11 u12 u13 u14 u29 u15 u16 u17 u18 u19 u20 u21 u30 u22 u23 u31 u24 u25 u26 v0 u27 false (ii a.fMerge) (S.ptr 0 9) (bb (ltI a.fMerge 0))
def b34_3 (q:YF) (a:D77) (v0:Bool) (u1:Int) (u2:S) (u3 u4:Bool) (u5 u6:Int) (u7 u8:S) (u9 u10 u11:Bool) (u12:S) (u13:Int) (u14 u15:Bool) (u16:S) (u17:Bool) (u18:Int) (u19:S) (u20:Bool) (u21:S) (u22 u23:Int) (u24:S) (u25:Bool) (u26:Int) (u27:Bool) (u28:S) (u29:Int) (u30 u31:Bool) (u32:S) (u33:Bool) (u34 u35 u36:S):OS:=bif v0 then some (ii 1) else bif gtI a.fMerge 2 then some (ii 1) else some (ii 0)
def e34_in (q:YF) (a:D77) (k0:T34_0):OS:=yC q 71 [ss a.fName] fun y=>bif !y.b 0 then some (ii 7) else bif ltI a.fWeight 0 then some (ii 1) else bif gtI a.fWeight 100 then some (ii 1) else yC q 49 [S.agg [ii a.fLimit_0,ii a.fLimit_1]] fun y_1=>bif !eqI (y_1.i 0) 0 then some (ii (y_1.i 0)) else yC q 72 [S.t (T.rows 4 a.fReqs.n fun i=>e68 (a.fReqs.get i))] fun y_2=>bif !eqI (y_2.i 0) 0 then some (ii (y_2.i 0)) else yC q 73 [S.t (T.rows 2 a.fTaints.n fun i=>e88 (a.fTaints.get i))] fun y_3=>bif !eqI (y_3.i 0) 0 then some (ii (y_3.i 0)) else yC q 74 [ii a.fGen,ii 0,ii 1099511627776] fun y_4=>bif !y_4.b 0 then k0 true (y_3.i 0) (y.b 0) (y_2.i 0) (y_1.i 0) (!eqI (y_2.i 0) 0) (!eqI (y_3.i 0) 0) (y_2.i 0) (y_4.b 0) (!eqI (y_1.i 0) 0) (y_3.i 0) (!y.b 0) (y_3.i 0) (y_1.i 0) (y_1.i 0) (y_2.i 0) (!y_4.b 0) true S.ud S.ud S.ud S.ud else yC q 74 [ii a.fExpire,ii 0,ii 1073741824] fun y_5=>k0 (!y_5.b 0) (y_3.i 0) (y.b 0) (y_2.i 0) (y_1.i 0) (!eqI (y_2.i 0) 0) (!eqI (y_3.i 0) 0) (y_2.i 0) (y_4.b 0) (!eqI (y_1.i 0) 0) (y_3.i 0) (!y.b 0) (y_3.i 0) (y_1.i 0) (y_1.i 0) (y_2.i 0) (!y_4.b 0) false (S.t (T.v (.bool !y_5.b 0))) (ii a.fExpire) (S.ptr 0 7) (bb (y_5.b 0))
structure X34 where
 x0:Bool→OS
 x1:Bool→OS
 x2:Bool→OS
 x3:Bool→OS
def D34_0 (X:X34):T34_0:=fun v0 _ _ _ _ _ _ _ _ _ _ _ _ _ _ _ _ _ _ _ _ _=>X.x0 v0
def D34_1 (X:X34):T34_1:=fun v0 _ _ _ _ _ _ _ _ _ _ _ _ _ _ _ _ _ _ _ _ _ _ _ _ _ _=>X.x1 v0
def D34_2 (X:X34):T34_2:=fun v0 _ _ _ _ _ _ _ _ _ _ _ _ _ _ _ _ _ _ _ _ _ _ _ _ _ _ _ _ _ _ _=>X.x2 v0
def D34_3 (X:X34):T34_3:=fun v0 _ _ _ _ _ _ _ _ _ _ _ _ _ _ _ _ _ _ _ _ _ _ _ _ _ _ _ _ _ _ _ _ _ _ _ _=>X.x3 v0
def X34s (q:YF) (a:D77) (X:X34):X34:=⟨fun v0=>b34_0 q a (D34_1 X) v0 dd dd dd dd dd dd dd dd dd dd dd dd dd dd dd dd dd dd dd dd dd,
 fun v0=>b34_1 q a (D34_2 X) v0 dd dd dd dd dd dd dd dd dd dd dd dd dd dd dd dd dd dd dd dd dd dd dd dd dd dd,
 fun v0=>b34_2 q a (D34_3 X) v0 dd dd dd dd dd dd dd dd dd dd dd dd dd dd dd dd dd dd dd dd dd dd dd dd dd dd dd dd dd dd dd,
 fun v0=>b34_3 q a v0 dd dd dd dd dd dd dd dd dd dd dd dd dd dd dd dd dd dd dd dd dd dd dd dd dd dd dd dd dd dd dd dd dd dd dd dd⟩
def X34n (q:YF) (a:D77):Nat→X34
 | 0=>⟨fun _=>none,fun _=>none,fun _=>none,fun _=>none⟩
 | n+1=>X34s q a (X34n q a n)
theorem l34_0 (q:YF) (a:D77) (kk:PK S):K34_0 a (P34 q kk)=b34_0 q a (K34_1 a kk):=by
 kernel_rfl
theorem l34_1 (q:YF) (a:D77) (kk:PK S):K34_1 a (P34 q kk)=b34_1 q a (K34_2 a kk):=by
 kernel_rfl
theorem l34_2 (q:YF) (a:D77) (kk:PK S):K34_2 a (P34 q kk)=b34_2 q a (K34_3 a kk):=by
 kernel_rfl
theorem l34_3 (q:YF) (a:D77) (kk:PK S):K34_3 a (P34 q kk)=b34_3 q a:=by
 kernel_rfl
theorem l34_in (q:YF) (a:D77) (kk:PK S):BG q kk 34 Tryz.f34 [ag (e77 a)]=e34_in q a (K34_0 a kk):=by
 kernel_rfl
theorem h34 (q:YF) (a:D77):∀ n,K34_0 a (H34 q n)=D34_0 (X34n q a n)∧K34_1 a (H34 q n)=D34_1 (X34n q a n)∧K34_2 a (H34 q n)=D34_2 (X34n q a n)∧K34_3 a (H34 q n)=D34_3 (X34n q a n)
 | 0=>⟨rfl,rfl,rfl,rfl⟩
 | n+1=>by
  obtain ⟨h0,h1,h2,h3⟩:=h34 q a n
  exact ⟨(l34_0 q a (H34 q n)).trans (by rw [h1];kernel_rfl),(l34_1 q a (H34 q n)).trans (by rw [h2];kernel_rfl),(l34_2 q a (H34 q n)).trans (by rw [h3];kernel_rfl),(l34_3 q a (H34 q n)).trans (by kernel_rfl)⟩
theorem W34 (a:D77) (n:Nat) (x:S) (h:e34_in (regs O) a (D34_0 (X34n (regs O) a n))=some x):(W O).callT 34 [ag (e77 a)]=some x:=by
 refine WG (fn:=Tryz.f34) (by kernel_rfl) (by kernel_rfl) (n:=n) ?_
 refine (l34_in (regs O) a (H34 (regs O) n)).trans ?_
 obtain ⟨h0,h1,h2,h3⟩:=h34 (regs O) a n
 rw [h0]
 exact h
end
end Go.Proofs.YtonkoellfaopiaaGreatDoor.H
