import Derived.Test.YtonkoellfaopiaaGreatDoorD9
set_option linter.unusedSimpArgs false
set_option linter.unusedVariables false
set_option linter.unusedSectionVars false
namespace Go.Proofs.YtonkoellfaopiaaGreatDoor.H
open Go
noncomputable section
abbrev P27 (q:YF) (kk:PK S):PK S:=PG q 27 Tryz.f27 kk
abbrev H27 (q:YF):Nat→PK S:=HG q 27 Tryz.f27
abbrev T27_0:Type:=Int→BA→OS
def Lg (a:aP) (kk:PK S):T27_0:=fun v0 v1=> kk 3 0 0 (aJ [(8,S.t (T.rows 12 a.an.n fun i=>jv (a.an.get i))),(10,ii v0),(1,S.ptr 0 0),(9,ii (ay a.an.n)),(3,ss v1)] 1 [(0,B.box (List.map S.t (bI a)))])
abbrev T27_1:Type:=fB→Bool→Int→Int→fB→BA→Int→fB→Bool→BA→fB→Bool→Bool→Bool→Int→S→Bool→S→S→S→S→BA→BA→Bool→OS
def To (a:aP) (kk:PK S):T27_1:=fun v0 v1 v2 u3 u4 u5 u6 u7 u8 u9 u10 u11 u12 u13 u14 u15 u16 u17 u18 u19 u20 u21 u22 u23=> kk 10 11 16 (aJ [(32,u15),(16,ii u3),(8,S.t (T.rows 12 a.an.n fun i=>jv (a.an.get i))),(20,S.ptr 4 0),(12,S.pt (jv u4)),(28,bb u16),(34,bb v1),(10,ii v2),(26,ss u5),(6,ii u6),(22,ss u21),(14,ag (jv u7)),(30,u17),(1,S.ptr 0 0),(33,u18),(17,bb u8),(9,ii (ay a.an.n)),(25,S.ptr 4 11),(5,S.ptr 4 0),(21,ss u9),(13,ag (jv u10)),(29,u19),(3,ss u22),(19,bb u11),(11,bb u23),(27,bb u12),(23,bb u13),(15,ii u14),(31,u20)] 27 [(0,B.box (List.map S.t (bI a))),(4,B.box (List.map S.t (jv v0)))])
def Jo (q:YF) (a:aP) (k1:T27_1):T27_0:=fun v0 v1=>bif bm v0 (ay a.an.n) then aU v0 a.an.n fun h=>yC q 66 [ag (jv (a.an.get (Fin.mk v0.toNat h)))] fun y=>bif !aR (y.i 0) 0 then some (ii (y.i 0)) else bif strLt (a.an.get (Fin.mk v0.toNat h)).af v1 || ah (a.an.get (Fin.mk v0.toNat h)).af v1 then some (ii 6) else bif !ah (a.an.get (Fin.mk v0.toNat h)).jI (bs []) then yC q 67 [ag (bI a),ss (a.an.get (Fin.mk v0.toNat h)).jI] fun y_1=>k1 (a.an.get (Fin.mk v0.toNat h)) (!y_1.b 0) v0 (y.i 0) (a.an.get (Fin.mk v0.toNat h)) (a.an.get (Fin.mk v0.toNat h)).jI (y.i 0) (a.an.get (Fin.mk v0.toNat h)) (!aR (y.i 0) 0) (a.an.get (Fin.mk v0.toNat h)).af (a.an.get (Fin.mk v0.toNat h)) (strLt (a.an.get (Fin.mk v0.toNat h)).af v1 || ah (a.an.get (Fin.mk v0.toNat h)).af v1) (!ah (a.an.get (Fin.mk v0.toNat h)).jI (bs [])) (strLt (a.an.get (Fin.mk v0.toNat h)).af v1 || ah (a.an.get (Fin.mk v0.toNat h)).af v1) (y.i 0) (bb (y_1.b 0)) true (S.ptr 4 11) (S.t (T.v (.bool !y_1.b 0))) (ag (bI a)) (ss (a.an.get (Fin.mk v0.toNat h)).jI) v1 v1 (bm v0 (ay a.an.n)) else k1 (a.an.get (Fin.mk v0.toNat h)) false v0 (y.i 0) (a.an.get (Fin.mk v0.toNat h)) (a.an.get (Fin.mk v0.toNat h)).jI (y.i 0) (a.an.get (Fin.mk v0.toNat h)) (!aR (y.i 0) 0) (a.an.get (Fin.mk v0.toNat h)).af (a.an.get (Fin.mk v0.toNat h)) (strLt (a.an.get (Fin.mk v0.toNat h)).af v1 || ah (a.an.get (Fin.mk v0.toNat h)).af v1) (!ah (a.an.get (Fin.mk v0.toNat h)).jI (bs [])) (strLt (a.an.get (Fin.mk v0.toNat h)).af v1 || ah (a.an.get (Fin.mk v0.toNat h)).af v1) (y.i 0) S.ud false S.ud S.ud S.ud S.ud v1 v1 (bm v0 (ay a.an.n)) else some (ii 0)
def Ss (q:YF) (a:aP) (k0:T27_0):T27_1:=fun v0 v1 v2 u3 u4 u5 u6 u7 u8 u9 u10 u11 u12 u13 u14 u15 u16 u17 u18 u19 u20 u21 u22 u23=>bif v1 then some (ii 5) else bif bl v0.df a.fA then some (ii 1) else k0 (a7 .i64 v2 1) v0.af
def Rc (q:YF) (a:aP) (k0:T27_0):OS:=k0 0 (bs [])
structure X27 where
 x0:Int→BA→OS
 x1:fB→Bool→Int→OS
def KH (X:X27):T27_0:=fun v0 v1=>X.x0 v0 v1
def NC (X:X27):T27_1:=fun v0 v1 v2 _ _ _ _ _ _ _ _ _ _ _ _ _ _ _ _ _ _ _ _ _=>X.x1 v0 v1 v2
def Up (q:YF) (a:aP) (X:X27):X27:=⟨fun v0 v1=>Jo q a (NC X) v0 v1,
 fun v0 v1 v2=>Ss q a (KH X) v0 v1 v2 dd dd dd dd dd dd dd dd dd dd dd dd dd dd dd dd dd dd dd dd dd⟩
def mz (q:YF) (a:aP):Nat→X27
 | 0=>⟨fun _ _=>none,fun _ _ _=>none⟩
 | n+1=>Up q a (mz q a n)
theorem ahp (q:YF) (a:aP) (kk:PK S):Lg a (P27 q kk)=Jo q a (To a kk):=by
 kernel_rfl
theorem ahG (q:YF) (a:aP) (kk:PK S):To a (P27 q kk)=Ss q a (Lg a kk):=by
 kernel_rfl
theorem abz (q:YF) (a:aP) (kk:PK S):BG q kk 27 Tryz.f27 [ag (bI a)]=Rc q a (Lg a kk):=by
 kernel_rfl
theorem h27 (q:YF) (a:aP):∀ n,Lg a (H27 q n)=KH (mz q a n)∧To a (H27 q n)=NC (mz q a n)
 | 0=>⟨rfl,rfl⟩
 | n+1=>by
  obtain ⟨h0,h1⟩:=h27 q a n
  exact ⟨(ahp q a (H27 q n)).trans (by rw [h1];kernel_rfl),(ahG q a (H27 q n)).trans (by rw [h0];kernel_rfl)⟩
theorem W27 (a:aP) (n:Nat) (x:S) (h:Rc (aa O) a (KH (mz (aa O) a n))=some x):(W O).aE 27 [ag (bI a)]=some x:=by
 refine WG (fn:=Tryz.f27) (by kernel_rfl) (by kernel_rfl) (n:=n) ?_
 refine (abz (aa O) a (H27 (aa O) n)).trans ?_
 obtain ⟨h0,h1⟩:=h27 (aa O) a n
 rw [h0]
 exact h
abbrev P28 (q:YF) (kk:PK S):PK S:=PG q 28 Tryz.f28 kk
abbrev H28 (q:YF):Nat→PK S:=HG q 28 Tryz.f28
def Jh (a:aP) (kk:PK S):Int→OS:=fun v0=> kk 2 0 0 (aJ [(8,ii (ay a.au.n)),(1,S.ptr 0 0),(9,ii v0),(7,S.t (T.rows 8 a.au.n fun i=>eN (a.au.get i)))] 1 [(0,B.box (List.map S.t (bI a)))])
abbrev T28_1:Type:=cO→Bool→Int→Bool→Bool→cO→Int→Int→cO→BA→cO→Int→S→S→S→S→Bool→S→Bool→OS
def RR (a:aP) (kk:PK S):T28_1:=fun v0 v1 v2 u3 u4 u5 u6 u7 u8 u9 u10 u11 u12 u13 u14 u15 u16 u17 u18=> kk 7 11 11 (aJ [(16,bb u3),(8,ii (ay a.au.n)),(24,u12),(4,S.ptr 4 0),(20,bb u4),(12,ag (eN u5)),(18,S.ptr 4 5),(10,bb u18),(26,u13),(22,u14),(14,ii u6),(1,S.ptr 0 0),(9,ii v2),(25,u15),(5,ii u7),(21,bb u16),(13,ag (eN u8)),(19,ss u9),(11,S.pt (eN u10)),(27,bb v1),(7,S.t (T.rows 8 a.au.n fun i=>eN (a.au.get i))),(23,u17),(15,ii u11)] 28 [(0,B.box (List.map S.t (bI a))),(4,B.box (List.map S.t (eN v0)))])
def Jf (q:YF) (a:aP) (k1:T28_1) (v0:Int):OS:=bif bm v0 (ay a.au.n) then aU v0 a.au.n fun h=>yC q 68 [ag (eN (a.au.get (Fin.mk v0.toNat h)))] fun y=>bif !aR (y.i 0) 0 then some (ii (y.i 0)) else bif !ah (a.au.get (Fin.mk v0.toNat h)).bc (bs []) then yC q 64 [ag (bI a),ss (a.au.get (Fin.mk v0.toNat h)).bc] fun y_1=>k1 (a.au.get (Fin.mk v0.toNat h)) (!y_1.b 0) v0 (!aR (y.i 0) 0) (!ah (a.au.get (Fin.mk v0.toNat h)).bc (bs [])) (a.au.get (Fin.mk v0.toNat h)) (y.i 0) (y.i 0) (a.au.get (Fin.mk v0.toNat h)) (a.au.get (Fin.mk v0.toNat h)).bc (a.au.get (Fin.mk v0.toNat h)) (y.i 0) (ss (a.au.get (Fin.mk v0.toNat h)).bc) (S.t (T.v (.bool !y_1.b 0))) (ag (bI a)) (bb (y_1.b 0)) true (S.ptr 4 5) (bm v0 (ay a.au.n)) else k1 (a.au.get (Fin.mk v0.toNat h)) false v0 (!aR (y.i 0) 0) (!ah (a.au.get (Fin.mk v0.toNat h)).bc (bs [])) (a.au.get (Fin.mk v0.toNat h)) (y.i 0) (y.i 0) (a.au.get (Fin.mk v0.toNat h)) (a.au.get (Fin.mk v0.toNat h)).bc (a.au.get (Fin.mk v0.toNat h)) (y.i 0) S.ud S.ud S.ud S.ud false S.ud (bm v0 (ay a.au.n)) else some (ii 0)
def QT (q:YF) (a:aP) (k0:Int→OS):T28_1:=fun v0 v1 v2 u3 u4 u5 u6 u7 u8 u9 u10 u11 u12 u13 u14 u15 u16 u17 u18=>bif v1 then some (ii 5) else yC q 65 [ag (bI a),S.t (T.rows 3 v0.bh.n fun i=>bS (v0.bh.get i))] fun y=>bif !y.b 0 then some (ii 5) else k0 (a7 .i64 v2 1)
def Uc (q:YF) (a:aP) (k0:Int→OS):OS:=k0 0
structure X28 where
 x0:Int→OS
 x1:cO→Bool→Int→OS
def JL (X:X28):Int→OS:=fun v0=>X.x0 v0
def Uh (X:X28):T28_1:=fun v0 v1 v2 _ _ _ _ _ _ _ _ _ _ _ _ _ _ _ _=>X.x1 v0 v1 v2
def Ux (q:YF) (a:aP) (X:X28):X28:=⟨fun v0=>Jf q a (Uh X) v0,
 fun v0 v1 v2=>QT q a (JL X) v0 v1 v2 dd dd dd dd dd dd dd dd dd dd dd dd dd dd dd dd⟩
def mY (q:YF) (a:aP):Nat→X28
 | 0=>⟨fun _=>none,fun _ _ _=>none⟩
 | n+1=>Ux q a (mY q a n)
theorem af9 (q:YF) (a:aP) (kk:PK S):Jh a (P28 q kk)=Jf q a (RR a kk):=by
 kernel_rfl
theorem afA (q:YF) (a:aP) (kk:PK S):RR a (P28 q kk)=QT q a (Jh a kk):=by
 kernel_rfl
theorem Zh (q:YF) (a:aP) (kk:PK S):BG q kk 28 Tryz.f28 [ag (bI a)]=Uc q a (Jh a kk):=by
 kernel_rfl
theorem h28 (q:YF) (a:aP):∀ n,Jh a (H28 q n)=JL (mY q a n)∧RR a (H28 q n)=Uh (mY q a n)
 | 0=>⟨rfl,rfl⟩
 | n+1=>by
  obtain ⟨h0,h1⟩:=h28 q a n
  exact ⟨(af9 q a (H28 q n)).trans (by rw [h1];kernel_rfl),(afA q a (H28 q n)).trans (by rw [h0];kernel_rfl)⟩
theorem W28 (a:aP) (n:Nat) (x:S) (h:Uc (aa O) a (JL (mY (aa O) a n))=some x):(W O).aE 28 [ag (bI a)]=some x:=by
 refine WG (fn:=Tryz.f28) (by kernel_rfl) (by kernel_rfl) (n:=n) ?_
 refine (Zh (aa O) a (H28 (aa O) n)).trans ?_
 obtain ⟨h0,h1⟩:=h28 (aa O) a n
 rw [h0]
 exact h
abbrev P29 (q:YF) (kk:PK S):PK S:=PG q 29 Tryz.f29 kk
abbrev H29 (q:YF):Nat→PK S:=HG q 29 Tryz.f29
def K8 (a:aP) (kk:PK S):Int→OS:=fun v0=> kk 2 0 0 (aJ [(8,ii v0),(6,S.t (T.rows 4 a.ax.n fun i=>qB (a.ax.get i))),(1,S.ptr 0 0),(7,ii (ay a.ax.n))] 1 [(0,B.box (List.map S.t (bI a)))])
abbrev T29_1:Type:=vR→Int→Bool→BA→BA→BA→vR→Bool→Bool→Bool→vR→BA→BA→BA→Int→Bool→Bool→Int→Int→S→S→S→S→S→S→S→S→S→S→Bool→S→OS
def R4 (a:aP) (kk:PK S):T29_1:=fun v0 v1 v2 u3 u4 u5 u6 u7 u8 u9 u10 u11 u12 u13 u14 u15 u16 u17 u18 u19 u20 u21 u22 u23 u24 u25 u26 u27 u28 u29 u30=> kk 6 16 15 (aJ [(32,u19),(16,S.agg [ss u3,ss u4,ss u5]),(8,ii v1),(24,u20),(4,S.ptr 5 0),(12,ag (qB u6)),(28,u21),(34,u22),(18,bb u7),(10,ii u14),(26,u23),(6,S.t (T.rows 4 a.ax.n fun i=>qB (a.ax.get i))),(22,bb u15),(14,ag (bI a)),(30,u24),(1,S.ptr 0 0),(33,u25),(17,S.sl 11 1),(9,bb u16),(25,u26),(21,ii u17),(13,bb u8),(29,u27),(3,ii u18),(35,bb v2),(19,bb u9),(11,S.pt (qB u10)),(27,u28),(7,ii (ay a.ax.n)),(23,bb u29),(15,S.ptr 5 0),(31,u30)] 31 [(0,B.box (List.map S.t (bI a))),(5,B.box (List.map S.t (qB v0))),(11,B.fO false 3 1 [ss u11,ss u12,ss u13])])
def JI (q:YF) (a:aP) (k1:T29_1) (v0:Int):OS:=bif bm v0 (ay a.ax.n) then aU v0 a.ax.n fun h=>yC q 65 [ag (bI a),S.t (T.rows 3 1 fun i=>List.take 3 (List.drop (↑i*3) [ts (a.ax.get (Fin.mk v0.toNat h)).al,ts (a.ax.get (Fin.mk v0.toNat h)).aj,ts (a.ax.get (Fin.mk v0.toNat h)).ak]))] fun y=>bif !y.b 0 then some (ii 5) else bif bl v0 0 then aU (bF .i64 v0 1) a.ax.n fun h_1=>yC q 69 [S.agg [ss (a.ax.get (Fin.mk (bF .i64 v0 1).toNat h_1)).al,ss (a.ax.get (Fin.mk (bF .i64 v0 1).toNat h_1)).aj,ss (a.ax.get (Fin.mk (bF .i64 v0 1).toNat h_1)).ak],S.agg [ss (a.ax.get (Fin.mk v0.toNat h)).al,ss (a.ax.get (Fin.mk v0.toNat h)).aj,ss (a.ax.get (Fin.mk v0.toNat h)).ak]] fun y_1=>k1 (a.ax.get (Fin.mk v0.toNat h)) v0 (cT (y_1.i 0) 0) (a.ax.get (Fin.mk v0.toNat h)).al (a.ax.get (Fin.mk v0.toNat h)).aj (a.ax.get (Fin.mk v0.toNat h)).ak (a.ax.get (Fin.mk v0.toNat h)) (y.b 0) (!y.b 0) (!y.b 0) (a.ax.get (Fin.mk v0.toNat h)) (a.ax.get (Fin.mk v0.toNat h)).al (a.ax.get (Fin.mk v0.toNat h)).aj (a.ax.get (Fin.mk v0.toNat h)).ak v0 (bl v0 0) (bm v0 (ay a.ax.n)) v0 v0 (S.agg [ss (a.ax.get (Fin.mk v0.toNat h)).al,ss (a.ax.get (Fin.mk v0.toNat h)).aj,ss (a.ax.get (Fin.mk v0.toNat h)).ak]) (S.ptr 0 11) (S.pt (qB (a.ax.get (Fin.mk (bF .i64 v0 1).toNat h_1)))) (bb (cT (y_1.i 0) 0)) (ii v0) (S.agg [ss (a.ax.get (Fin.mk (bF .i64 v0 1).toNat h_1)).al,ss (a.ax.get (Fin.mk (bF .i64 v0 1).toNat h_1)).aj,ss (a.ax.get (Fin.mk (bF .i64 v0 1).toNat h_1)).ak]) (ii (y_1.i 0)) (S.t (T.rows 4 a.ax.n fun i=>qB (a.ax.get i))) (S.pt (qB (a.ax.get (Fin.mk (bF .i64 v0 1).toNat h_1)))) (ii (bF .i64 v0 1)) true (S.ptr 5 0) else k1 (a.ax.get (Fin.mk v0.toNat h)) v0 false (a.ax.get (Fin.mk v0.toNat h)).al (a.ax.get (Fin.mk v0.toNat h)).aj (a.ax.get (Fin.mk v0.toNat h)).ak (a.ax.get (Fin.mk v0.toNat h)) (y.b 0) (!y.b 0) (!y.b 0) (a.ax.get (Fin.mk v0.toNat h)) (a.ax.get (Fin.mk v0.toNat h)).al (a.ax.get (Fin.mk v0.toNat h)).aj (a.ax.get (Fin.mk v0.toNat h)).ak v0 (bl v0 0) (bm v0 (ay a.ax.n)) v0 v0 S.ud S.ud S.ud S.ud S.ud S.ud S.ud S.ud S.ud S.ud false S.ud else some (ii 0)
def Tx (q:YF) (a:aP) (k0:Int→OS):T29_1:=fun v0 v1 v2 u3 u4 u5 u6 u7 u8 u9 u10 u11 u12 u13 u14 u15 u16 u17 u18 u19 u20 u21 u22 u23 u24 u25 u26 u27 u28 u29 u30=>bif v2 then some (ii 6) else yC q 22 [ii v0.dT] fun y=>bif !y.b 0 then some (ii 1) else k0 (a7 .i64 v1 1)
def Tb (q:YF) (a:aP) (k0:Int→OS):OS:=k0 0
structure X29 where
 x0:Int→OS
 x1:vR→Int→Bool→OS
def KM (X:X29):Int→OS:=fun v0=>X.x0 v0
def TF (X:X29):T29_1:=fun v0 v1 v2 _ _ _ _ _ _ _ _ _ _ _ _ _ _ _ _ _ _ _ _ _ _ _ _ _ _ _ _=>X.x1 v0 v1 v2
def VO (q:YF) (a:aP) (X:X29):X29:=⟨fun v0=>JI q a (TF X) v0,
 fun v0 v1 v2=>Tx q a (KM X) v0 v1 v2 dd dd dd dd dd dd dd dd dd dd dd dd dd dd dd dd dd dd dd dd dd dd dd dd dd dd dd dd⟩
def mR (q:YF) (a:aP):Nat→X29
 | 0=>⟨fun _=>none,fun _ _ _=>none⟩
 | n+1=>VO q a (mR q a n)
theorem agD (q:YF) (a:aP) (kk:PK S):K8 a (P29 q kk)=JI q a (R4 a kk):=by
 kernel_rfl
theorem aes (q:YF) (a:aP) (kk:PK S):R4 a (P29 q kk)=Tx q a (K8 a kk):=by
 kernel_rfl
theorem acW (q:YF) (a:aP) (kk:PK S):BG q kk 29 Tryz.f29 [ag (bI a)]=Tb q a (K8 a kk):=by
 kernel_rfl
theorem h29 (q:YF) (a:aP):∀ n,K8 a (H29 q n)=KM (mR q a n)∧R4 a (H29 q n)=TF (mR q a n)
 | 0=>⟨rfl,rfl⟩
 | n+1=>by
  obtain ⟨h0,h1⟩:=h29 q a n
  exact ⟨(agD q a (H29 q n)).trans (by rw [h1];kernel_rfl),(aes q a (H29 q n)).trans (by rw [h0];kernel_rfl)⟩
theorem W29 (a:aP) (n:Nat) (x:S) (h:Tb (aa O) a (KM (mR (aa O) a n))=some x):(W O).aE 29 [ag (bI a)]=some x:=by
 refine WG (fn:=Tryz.f29) (by kernel_rfl) (by kernel_rfl) (n:=n) ?_
 refine (acW (aa O) a (H29 (aa O) n)).trans ?_
 obtain ⟨h0,h1⟩:=h29 (aa O) a n
 rw [h0]
 exact h
abbrev P30 (q:YF) (kk:PK S):PK S:=PG q 30 Tryz.f30 kk
abbrev MB (q:YF):Nat→PK S:=HG q 30 Tryz.f30
abbrev T30_0:Type:=Int→(List (S × S))→(List (S × S))→OS
def IH (a:aP) (kk:PK S):T30_0:=fun v0 v1 v2=> kk 3 0 0 (aJ [(4,S.mp 2),(12,ii v0),(10,S.t (T.rows 7 a.ai.n fun i=>kQ (a.ai.get i))),(1,S.ptr 0 0),(3,S.mp 1),(11,ii (ay a.ai.n))] 3 [(0,B.box (List.map S.t (bI a))),(2,B.mp false v1),(1,B.mp false v2)])
abbrev T30_1:Type:=Bool→gO→Int→(List (S × S))→(List (S × S))→BA→gO→Bool→gO→Bool→S→S→S→Bool→OS
def Ue (a:aP) (kk:PK S):T30_1:=fun v0 v1 v2 v3 v4 u5 u6 u7 u8 u9 u10 u11 u12 u13=> kk 5 9 8 (aJ [(24,bb v0),(4,S.mp 2),(20,bb u9),(12,ii v2),(18,ss u5),(10,S.t (T.rows 7 a.ai.n fun i=>kQ (a.ai.get i))),(6,S.ptr 6 0),(22,u10),(14,S.pt (kQ u6)),(1,S.ptr 0 0),(17,S.ptr 6 0),(21,u11),(13,bb u13),(3,S.mp 1),(19,bb u7),(11,ii (ay a.ai.n)),(23,u12),(15,ag (kQ u8))] 33 [(0,B.box (List.map S.t (bI a))),(2,B.mp false v3),(6,B.box (List.map S.t (kQ v1))),(1,B.mp false v4)])
abbrev T30_2:Type:=Bool→gO→Int→(List (S × S))→(List (S × S))→Bool→Bool→BA→S→gO→S→Bool→S→gO→S→S→Bool→S→Bool→OS
def NW (a:aP) (kk:PK S):T30_2:=fun v0 v1 v2 v3 v4 u5 u6 u7 u8 u9 u10 u11 u12 u13 u14 u15 u16 u17 u18=> kk 5 14 8 (aJ [(24,bb u5),(4,S.mp 2),(20,bb u6),(12,ii v2),(28,u14),(18,ss u7),(10,S.t (T.rows 7 a.ai.n fun i=>kQ (a.ai.get i))),(26,u15),(6,S.ptr 6 0),(22,u8),(14,S.pt (kQ u9)),(1,S.ptr 0 0),(17,S.ptr 6 0),(25,bb u16),(21,u10),(13,bb u18),(29,bb v0),(3,S.mp 1),(19,bb u11),(11,ii (ay a.ai.n)),(27,u17),(23,u12),(15,ag (kQ u13))] 33 [(0,B.box (List.map S.t (bI a))),(2,B.mp false v3),(6,B.box (List.map S.t (kQ v1))),(1,B.mp false v4)])
abbrev T30_3:Type:=Bool→gO→Int→(List (S × S))→(List (S × S))→Bool→Bool→S→BA→S→S→gO→Bool→S→Bool→Bool→S→S→gO→S→Bool→S→S→Bool→OS
def Rz (a:aP) (kk:PK S):T30_3:=fun v0 v1 v2 v3 v4 u5 u6 u7 u8 u9 u10 u11 u12 u13 u14 u15 u16 u17 u18 u19 u20 u21 u22 u23=> kk 5 19 8 (aJ [(32,u19),(24,bb u5),(4,S.mp 2),(20,bb u6),(12,ii v2),(28,u7),(34,bb v0),(18,ss u8),(10,S.t (T.rows 7 a.ai.n fun i=>kQ (a.ai.get i))),(26,u9),(6,S.ptr 6 0),(22,u10),(14,S.pt (kQ u11)),(30,bb u20),(1,S.ptr 0 0),(33,u21),(17,S.ptr 6 0),(25,bb u12),(21,u13),(13,bb u23),(29,bb u14),(3,S.mp 1),(19,bb u15),(11,ii (ay a.ai.n)),(27,u16),(23,u17),(15,ag (kQ u18)),(31,u22)] 33 [(0,B.box (List.map S.t (bI a))),(2,B.mp false v3),(6,B.box (List.map S.t (kQ v1))),(1,B.mp false v4)])
abbrev T30_4:Type:=Bool→gO→Int→(List (S × S))→(List (S × S))→S→Bool→Bool→S→Bool→BA→S→S→gO→Bool→S→Bool→S→Bool→Bool→S→S→gO→S→S→S→S→Bool→S→Bool→OS
def N8 (a:aP) (kk:PK S):T30_4:=fun v0 v1 v2 v3 v4 u5 u6 u7 u8 u9 u10 u11 u12 u13 u14 u15 u16 u17 u18 u19 u20 u21 u22 u23 u24 u25 u26 u27 u28 u29=> kk 5 25 8 (aJ [(32,u5),(40,bb v0),(24,bb u6),(4,S.mp 2),(36,u24),(20,bb u7),(12,ii v2),(28,u8),(34,bb u9),(18,ss u10),(10,S.t (T.rows 7 a.ai.n fun i=>kQ (a.ai.get i))),(26,u11),(6,S.ptr 6 0),(38,u25),(22,u12),(14,S.pt (kQ u13)),(30,bb u14),(1,S.ptr 0 0),(33,u15),(17,S.ptr 6 0),(25,bb u16),(37,u26),(21,u17),(13,bb u29),(29,bb u18),(3,S.mp 1),(35,bb u27),(19,bb u19),(11,ii (ay a.ai.n)),(27,u20),(39,u28),(23,u21),(15,ag (kQ u22)),(31,u23)] 33 [(0,B.box (List.map S.t (bI a))),(2,B.mp false v3),(6,B.box (List.map S.t (kQ v1))),(1,B.mp false v4)])
abbrev T30_5:Type:=Bool→gO→Int→(List (S × S))→(List (S × S))→S→Bool→Bool→Bool→S→Bool→BA→S→Bool→BA→S→S→S→gO→Bool→S→Bool→S→S→Bool→Bool→Bool→Bool→S→S→S→gO→S→S→S→Bool→S→S→Bool→OS
def QY (a:aP) (kk:PK S):T30_5:=fun v0 v1 v2 v3 v4 u5 u6 u7 u8 u9 u10 u11 u12 u13 u14 u15 u16 u17 u18 u19 u20 u21 u22 u23 u24 u25 u26 u27 u28 u29 u30 u31 u32 u33 u34 u35 u36 u37 u38=> kk 7 11 33 (aJ [(32,u5),(16,bb u6),(48,u33),(40,bb u7),(24,bb u8),(4,S.mp 2),(36,u9),(20,bb u10),(12,ii v2),(44,ss u11),(28,u12),(34,bb u13),(18,ss u14),(50,u34),(10,S.t (T.rows 7 a.ai.n fun i=>kQ (a.ai.get i))),(42,S.mp 1),(26,u15),(6,S.ptr 6 0),(38,u16),(22,u17),(14,S.pt (kQ u18)),(46,bb u35),(30,bb u19),(1,S.ptr 0 0),(33,u20),(17,S.ptr 6 0),(49,u36),(25,bb u21),(37,u22),(21,u23),(13,bb u38),(45,bb u24),(29,bb u25),(3,S.mp 1),(35,bb u26),(19,bb u27),(51,bb v0),(11,ii (ay a.ai.n)),(43,S.ptr 6 0),(27,u28),(39,u29),(23,u30),(15,ag (kQ u31)),(47,u37),(31,u32)] 44 [(0,B.box (List.map S.t (bI a))),(2,B.mp false v3),(6,B.box (List.map S.t (kQ v1))),(1,B.mp false v4)])
def Kw (q:YF) (a:aP) (k1:T30_1) (v0:Int) (v1 v2:List (S × S)):OS:=bif bm v0 (ay a.ai.n) then aU v0 a.ai.n fun h=>bif ah (a.ai.get (Fin.mk v0.toNat h)).eG (bs []) then k1 true (a.ai.get (Fin.mk v0.toNat h)) v0 v1 v2 (a.ai.get (Fin.mk v0.toNat h)).eG (a.ai.get (Fin.mk v0.toNat h)) (ah (a.ai.get (Fin.mk v0.toNat h)).eG (bs [])) (a.ai.get (Fin.mk v0.toNat h)) true S.ud S.ud S.ud (bm v0 (ay a.ai.n)) else k1 (ah (a.ai.get (Fin.mk v0.toNat h)).cu (bs [])) (a.ai.get (Fin.mk v0.toNat h)) v0 v1 v2 (a.ai.get (Fin.mk v0.toNat h)).eG (a.ai.get (Fin.mk v0.toNat h)) (ah (a.ai.get (Fin.mk v0.toNat h)).eG (bs [])) (a.ai.get (Fin.mk v0.toNat h)) false (ss (a.ai.get (Fin.mk v0.toNat h)).cu) (S.ptr 6 1) (bb (ah (a.ai.get (Fin.mk v0.toNat h)).cu (bs []))) (bm v0 (ay a.ai.n)) else some (ii 0)
def Ow (q:YF) (a:aP) (k2:T30_2) (v0:Bool) (v1:gO) (v2:Int) (v3 v4:List (S × S)) (u5:BA) (u6:gO) (u7:Bool) (u8:gO) (u9:Bool) (u10 u11 u12:S) (u13:Bool):OS:=bif v0 then k2 true v1 v2 v3 v4 v0 u9 u5 u10 u6 u11 u7 u12 u8 S.ud S.ud true S.ud u13 else k2 (bm v1.cX 1) v1 v2 v3 v4 v0 u9 u5 u10 u6 u11 u7 u12 u8 (bb (bm v1.cX 1)) (S.ptr 6 5) false (ii v1.cX) u13
def QB (q:YF) (a:aP) (k3:T30_3) (v0:Bool) (v1:gO) (v2:Int) (v3 v4:List (S × S)) (u5 u6:Bool) (u7:BA) (u8:S) (u9:gO) (u10:S) (u11:Bool) (u12:S) (u13:gO) (u14 u15:S) (u16:Bool) (u17:S) (u18:Bool):OS:=bif v0 then k3 true v1 v2 v3 v4 u5 u6 u14 u7 u15 u8 u9 u16 u10 v0 u11 u17 u12 u13 S.ud true S.ud S.ud u18 else k3 (bl v1.cX 3) v1 v2 v3 v4 u5 u6 u14 u7 u15 u8 u9 u16 u10 v0 u11 u17 u12 u13 (ii v1.cX) false (bb (bl v1.cX 3)) (S.ptr 6 5) u18
def SE (q:YF) (a:aP) (k4:T30_4) (v0:Bool) (v1:gO) (v2:Int) (v3 v4:List (S × S)) (u5 u6:Bool) (u7:S) (u8:BA) (u9 u10:S) (u11:gO) (u12:Bool) (u13:S) (u14 u15:Bool) (u16 u17:S) (u18:gO) (u19:S) (u20:Bool) (u21 u22:S) (u23:Bool):OS:=bif v0 then k4 true v1 v2 v3 v4 u19 u5 u6 u7 v0 u8 u9 u10 u11 u20 u21 u12 u13 u14 u15 u16 u17 u18 u22 S.ud S.ud S.ud true S.ud u23 else yC q 22 [ii v1.fu] fun y=>k4 (!y.b 0) v1 v2 v3 v4 u19 u5 u6 u7 v0 u8 u9 u10 u11 u20 u21 u12 u13 u14 u15 u16 u17 u18 u22 (S.ptr 6 6) (bb (y.b 0)) (ii v1.fu) false (S.t (T.v (.bool !y.b 0))) u23
def Qv (q:YF) (a:aP) (k5:T30_5) (v0:Bool) (v1:gO) (v2:Int) (v3 v4:List (S × S)) (u5:S) (u6 u7:Bool) (u8:S) (u9:Bool) (u10:BA) (u11 u12:S) (u13:gO) (u14:Bool) (u15:S) (u16:Bool) (u17:S) (u18 u19:Bool) (u20 u21:S) (u22:gO) (u23 u24 u25 u26:S) (u27:Bool) (u28:S) (u29:Bool):OS:=bif v0 then some (ii 1) else lookW O.P O.K 9 4 v4 (ss v1.eG) (fun y=>bif y.b 0 then k5 true v1 v2 v3 v4 u5 v0 v0 u6 u24 u7 v1.eG u8 u9 u10 u11 u25 u12 u13 u14 u15 u16 u26 u17 (y.b 0) u18 u27 u19 u20 u28 u21 u22 u23 S.ud S.ud true S.ud S.ud u29 else lookW O.P O.K 9 4 v3 (ss v1.cu) (fun y_1=>k5 (y_1.b 0) v1 v2 v3 v4 u5 v0 v0 u6 u24 u7 v1.eG u8 u9 u10 u11 u25 u12 u13 u14 u15 u16 u26 u17 (y.b 0) u18 u27 u19 u20 u28 u21 u22 u23 (S.ptr 6 1) (bb (y_1.b 0)) false (ss v1.cu) (S.mp 2) u29) (k5 false v1 v2 v3 v4 u5 v0 v0 u6 u24 u7 v1.eG u8 u9 u10 u11 u25 u12 u13 u14 u15 u16 u26 u17 (y.b 0) u18 u27 u19 u20 u28 u21 u22 u23 (S.ptr 6 1) (bb false) false (ss v1.cu) (S.mp 2) u29)) (lookW O.P O.K 9 4 v3 (ss v1.cu) (fun y=>k5 (y.b 0) v1 v2 v3 v4 u5 v0 v0 u6 u24 u7 v1.eG u8 u9 u10 u11 u25 u12 u13 u14 u15 u16 u26 u17 false u18 u27 u19 u20 u28 u21 u22 u23 (S.ptr 6 1) (bb (y.b 0)) false (ss v1.cu) (S.mp 2) u29) (k5 false v1 v2 v3 v4 u5 v0 v0 u6 u24 u7 v1.eG u8 u9 u10 u11 u25 u12 u13 u14 u15 u16 u26 u17 false u18 u27 u19 u20 u28 u21 u22 u23 (S.ptr 6 1) (bb false) false (ss v1.cu) (S.mp 2) u29))
def Nw (q:YF) (a:aP) (k0:T30_0) (v0:Bool) (v1:gO) (v2:Int) (v3 v4:List (S × S)) (u5:S) (u6 u7 u8:Bool) (u9:S) (u10:Bool) (u11:BA) (u12:S) (u13:Bool) (u14:BA) (u15 u16 u17:S) (u18:gO) (u19:Bool) (u20:S) (u21:Bool) (u22 u23:S) (u24 u25 u26 u27:Bool) (u28 u29 u30:S) (u31:gO) (u32 u33 u34:S) (u35:Bool) (u36 u37:S) (u38:Bool):OS:=bif v0 then some (ii 6) else yC q 65 [ag (bI a),S.t (T.rows 3 1 fun i=>List.take 3 (List.drop (↑i*3) [ts v1.al,ts v1.aj,ts v1.ak]))] fun y=>bif !y.b 0 then some (ii 5) else n_ O.P O.K 9 v4 (ss v1.eG) (bb true) fun m=>n_ O.P O.K 9 v3 (ss v1.cu) (bb true) fun m_1=>bL 900 m (bL 900 m_1 (k0 (a7 .i64 v2 1) m_1 m))
def FY (q:YF) (a:aP) (k0:T30_0):OS:=bL 900 [] (bL 900 [] (k0 0 [] []))
structure X30 where
 x0:Int→(List (S × S))→(List (S × S))→OS
 x1:Bool→gO→Int→(List (S × S))→(List (S × S))→OS
 x2:Bool→gO→Int→(List (S × S))→(List (S × S))→OS
 x3:Bool→gO→Int→(List (S × S))→(List (S × S))→OS
 x4:Bool→gO→Int→(List (S × S))→(List (S × S))→OS
 x5:Bool→gO→Int→(List (S × S))→(List (S × S))→OS
def B9 (X:X30):T30_0:=fun v0 v1 v2=>X.x0 v0 v1 v2
def O2 (X:X30):T30_1:=fun v0 v1 v2 v3 v4 _ _ _ _ _ _ _ _ _=>X.x1 v0 v1 v2 v3 v4
def Rb (X:X30):T30_2:=fun v0 v1 v2 v3 v4 _ _ _ _ _ _ _ _ _ _ _ _ _ _=>X.x2 v0 v1 v2 v3 v4
def RQ (X:X30):T30_3:=fun v0 v1 v2 v3 v4 _ _ _ _ _ _ _ _ _ _ _ _ _ _ _ _ _ _ _=>X.x3 v0 v1 v2 v3 v4
def TQ (X:X30):T30_4:=fun v0 v1 v2 v3 v4 _ _ _ _ _ _ _ _ _ _ _ _ _ _ _ _ _ _ _ _ _ _ _ _ _=>X.x4 v0 v1 v2 v3 v4
def Nl (X:X30):T30_5:=fun v0 v1 v2 v3 v4 _ _ _ _ _ _ _ _ _ _ _ _ _ _ _ _ _ _ _ _ _ _ _ _ _ _ _ _ _ _ _ _ _ _=>X.x5 v0 v1 v2 v3 v4
def Cw (q:YF) (a:aP) (X:X30):X30:=⟨fun v0 v1 v2=>Kw q a (O2 X) v0 v1 v2,
 fun v0 v1 v2 v3 v4=>Ow q a (Rb X) v0 v1 v2 v3 v4 dd dd dd dd dd dd dd dd dd,
 fun v0 v1 v2 v3 v4=>QB q a (RQ X) v0 v1 v2 v3 v4 dd dd dd dd dd dd dd dd dd dd dd dd dd dd,
 fun v0 v1 v2 v3 v4=>SE q a (TQ X) v0 v1 v2 v3 v4 dd dd dd dd dd dd dd dd dd dd dd dd dd dd dd dd dd dd dd,
 fun v0 v1 v2 v3 v4=>Qv q a (Nl X) v0 v1 v2 v3 v4 dd dd dd dd dd dd dd dd dd dd dd dd dd dd dd dd dd dd dd dd dd dd dd dd dd,
 fun v0 v1 v2 v3 v4=>Nw q a (B9 X) v0 v1 v2 v3 v4 dd dd dd dd dd dd dd dd dd dd dd dd dd dd dd dd dd dd dd dd dd dd dd dd dd dd dd dd dd dd dd dd dd dd⟩
def eW (q:YF) (a:aP):Nat→X30
 | 0=>⟨fun _ _ _=>none,fun _ _ _ _ _=>none,fun _ _ _ _ _=>none,fun _ _ _ _ _=>none,fun _ _ _ _ _=>none,fun _ _ _ _ _=>none⟩
 | n+1=>Cw q a (eW q a n)
theorem ad6 (q:YF) (a:aP) (kk:PK S):IH a (P30 q kk)=Kw q a (Ue a kk):=by
 kernel_rfl
theorem agx (q:YF) (a:aP) (kk:PK S):Ue a (P30 q kk)=Ow q a (NW a kk):=by
 kernel_rfl
theorem ahD (q:YF) (a:aP) (kk:PK S):NW a (P30 q kk)=QB q a (Rz a kk):=by
 kernel_rfl
theorem af5 (q:YF) (a:aP) (kk:PK S):Rz a (P30 q kk)=SE q a (N8 a kk):=by
 kernel_rfl
theorem af2 (q:YF) (a:aP) (kk:PK S):N8 a (P30 q kk)=Qv q a (QY a kk):=by
 kernel_rfl
theorem aeL (q:YF) (a:aP) (kk:PK S):QY a (P30 q kk)=Nw q a (IH a kk):=by
 kernel_rfl
theorem Zg (q:YF) (a:aP) (kk:PK S):BG q kk 30 Tryz.f30 [ag (bI a)]=FY q a (IH a kk):=by
 kernel_rfl
theorem h30 (q:YF) (a:aP):∀ n,IH a (MB q n)=B9 (eW q a n)∧Ue a (MB q n)=O2 (eW q a n)∧NW a (MB q n)=Rb (eW q a n)∧Rz a (MB q n)=RQ (eW q a n)∧N8 a (MB q n)=TQ (eW q a n)∧QY a (MB q n)=Nl (eW q a n)
 | 0=>⟨rfl,rfl,rfl,rfl,rfl,rfl⟩
 | n+1=>by
  obtain ⟨h0,h1,h2,h3,h4,h5⟩:=h30 q a n
  exact ⟨(ad6 q a (MB q n)).trans (by rw [h1];kernel_rfl),(agx q a (MB q n)).trans (by rw [h2];kernel_rfl),(ahD q a (MB q n)).trans (by rw [h3];kernel_rfl),(af5 q a (MB q n)).trans (by rw [h4];kernel_rfl),(af2 q a (MB q n)).trans (by rw [h5];kernel_rfl),(aeL q a (MB q n)).trans (by rw [h0];kernel_rfl)⟩
theorem W30 (a:aP) (n:Nat) (x:S) (h:FY (aa O) a (B9 (eW (aa O) a n))=some x):(W O).aE 30 [ag (bI a)]=some x:=by
 refine WG (fn:=Tryz.f30) (by kernel_rfl) (by kernel_rfl) (n:=n) ?_
 refine (Zg (aa O) a (MB (aa O) n)).trans ?_
 obtain ⟨h0,h1,h2,h3,h4,h5⟩:=h30 (aa O) a n
 rw [h0]
 exact h
abbrev P31 (q:YF) (kk:PK S):PK S:=PG q 31 Tryz.f31 kk
abbrev H31 (q:YF):Nat→PK S:=HG q 31 Tryz.f31
abbrev T31_0:Type:=Bool→S→Bool→S→OS
def Tu (a:Int) (kk:PK S):T31_0:=fun v0 u1 u2 u3=> kk 1 7 1 (aJ [(0,ii a),(8,bb v0),(4,bb (cT a 0)),(2,bb false),(6,u1),(5,bb u2),(3,ii a),(7,u3)] 8 [])
def Yo (q:YF) (a:Int):T31_0:=fun v0 u1 u2 u3=>some (bb v0)
def H5 (q:YF) (a:Int) (k0:T31_0):OS:=bif cT a 0 then k0 (bp a 1099511627776) (ii a) true (bb (bp a 1099511627776)) else k0 false S.ud false S.ud
structure X31 where
 x0:Bool→OS
def Yc (X:X31):T31_0:=fun v0 _ _ _=>X.x0 v0
def aiE (q:YF) (a:Int) (X:X31):X31:=⟨fun v0=>Yo q a v0 dd dd dd⟩
def Yy (q:YF) (a:Int):Nat→X31
 | 0=>⟨fun _=>none⟩
 | n+1=>aiE q a (Yy q a n)
theorem aeP (q:YF) (a:Int) (kk:PK S):Tu a (P31 q kk)=Yo q a:=by
 kernel_rfl
theorem acN (q:YF) (a:Int) (kk:PK S):BG q kk 31 Tryz.f31 [ii a]=H5 q a (Tu a kk):=by
 kernel_rfl
theorem h31 (q:YF) (a:Int):∀ n,Tu a (H31 q n)=Yc (Yy q a n)
 | 0=>rfl
 | n+1=>by
  have h0:=h31 q a n
  exact (aeP q a (H31 q n)).trans (by kernel_rfl)
theorem W31 (a:Int) (n:Nat) (x:S) (h:H5 (aa O) a (Yc (Yy (aa O) a n))=some x):(W O).aE 31 [ii a]=some x:=by
 refine WG (fn:=Tryz.f31) (by kernel_rfl) (by kernel_rfl) (n:=n) ?_
 refine (acN (aa O) a (H31 (aa O) n)).trans ?_
 have h0:=h31 (aa O) a n
 rw [h0]
 exact h
abbrev P32 (q:YF) (kk:PK S):PK S:=PG q 32 Tryz.f32 kk
abbrev H32 (q:YF):Nat→PK S:=HG q 32 Tryz.f32
def O1 (a:Int) (kk:PK S):T31_0:=fun v0 u1 u2 u3=> kk 1 7 1 (aJ [(0,ii a),(8,bb v0),(4,bb (cT a 0)),(2,bb false),(6,u1),(5,bb u2),(3,ii a),(7,u3)] 8 [])
def Xq (q:YF) (a:Int) (v0:Bool) (u1:S) (u2:Bool) (u3:S):OS:=some (bb v0)
def FP (q:YF) (a:Int) (k0:T31_0):OS:=bif cT a 0 then k0 (bp a 1073741824) (ii a) true (bb (bp a 1073741824)) else k0 false S.ud false S.ud
structure X32 where
 x0:Bool→OS
def X2 (X:X32):T31_0:=fun v0 _ _ _=>X.x0 v0
def aix (q:YF) (a:Int) (X:X32):X32:=⟨fun v0=>Xq q a v0 dd dd dd⟩
def Z2 (q:YF) (a:Int):Nat→X32
 | 0=>⟨fun _=>none⟩
 | n+1=>aix q a (Z2 q a n)
theorem afH (q:YF) (a:Int) (kk:PK S):O1 a (P32 q kk)=Xq q a:=by
 kernel_rfl
theorem Zp (q:YF) (a:Int) (kk:PK S):BG q kk 32 Tryz.f32 [ii a]=FP q a (O1 a kk):=by
 kernel_rfl
theorem h32 (q:YF) (a:Int):∀ n,O1 a (H32 q n)=X2 (Z2 q a n)
 | 0=>rfl
 | n+1=>by
  have h0:=h32 q a n
  exact (afH q a (H32 q n)).trans (by kernel_rfl)
theorem W32 (a:Int) (n:Nat) (x:S) (h:FP (aa O) a (X2 (Z2 (aa O) a n))=some x):(W O).aE 32 [ii a]=some x:=by
 refine WG (fn:=Tryz.f32) (by kernel_rfl) (by kernel_rfl) (n:=n) ?_
 refine (Zp (aa O) a (H32 (aa O) n)).trans ?_
 have h0:=h32 (aa O) a n
 rw [h0]
 exact h
abbrev P33 (q:YF) (kk:PK S):PK S:=PG q 33 Tryz.f33 kk
abbrev H33 (q:YF):Nat→PK S:=HG q 33 Tryz.f33
def IY (a:Rw aV) (kk:PK S):Int→OS:=fun v0=> kk 4 0 0 (aJ [(0,S.t (T.rows 7 a.n fun i=>bk (a.get i))),(3,ii v0)] 0 [])
def KX (a:Rw aV) (kk:PK S):Int→Int→OS:=fun v0 v1=> kk 10 0 0 (aJ [(0,S.t (T.rows 7 a.n fun i=>bk (a.get i))),(5,ii v1),(3,ii v0)] 0 [])
def Jy (q:YF) (a:Rw aV) (k1:Int→Int→OS) (v0:Int):OS:=bif bm v0 (ay a.n) then aU v0 a.n fun h=>yC q 70 [ag (bk (a.get (Fin.mk v0.toNat h)))] fun y=>bif !aR (y.i 0) 0 then some (ii (y.i 0)) else k1 v0 0 else some (ii 0)
def I_ (q:YF) (a:Rw aV) (k0:Int→OS) (k1:Int→Int→OS) (v0 v1:Int):OS:=bif bm v1 v0 then aU v1 a.n fun h=>aU v0 a.n fun h_1=>bif ah (a.get (Fin.mk v1.toNat h)).af (a.get (Fin.mk v0.toNat h_1)).af then some (ii 6) else k1 v0 (a7 .i64 v1 1) else k0 (a7 .i64 v0 1)
def GX (q:YF) (a:Rw aV) (k0:Int→OS):OS:=bif bl (ay a.n) 12 then some (ii 3) else k0 0
structure X33 where
 x0:Int→OS
 x1:Int→Int→OS
def uP (X:X33):Int→OS:=fun v0=>X.x0 v0
def xl (X:X33):Int→Int→OS:=fun v0 v1=>X.x1 v0 v1
def SQ (q:YF) (a:Rw aV) (X:X33):X33:=⟨fun v0=>Jy q a (xl X) v0,
 fun v0 v1=>I_ q a (uP X) (xl X) v0 v1⟩
def pN (q:YF) (a:Rw aV):Nat→X33
 | 0=>⟨fun _=>none,fun _ _=>none⟩
 | n+1=>SQ q a (pN q a n)
theorem afy (q:YF) (a:Rw aV) (kk:PK S):IY a (P33 q kk)=Jy q a (KX a kk):=by
 kernel_rfl
theorem adl (q:YF) (a:Rw aV) (kk:PK S):KX a (P33 q kk)=I_ q a (IY a kk) (KX a kk):=by
 kernel_rfl
theorem ab6 (q:YF) (a:Rw aV) (kk:PK S):BG q kk 33 Tryz.f33 [S.t (T.rows 7 a.n fun i=>bk (a.get i))]=GX q a (IY a kk):=by
 kernel_rfl
theorem h33 (q:YF) (a:Rw aV):∀ n,IY a (H33 q n)=uP (pN q a n)∧KX a (H33 q n)=xl (pN q a n)
 | 0=>⟨rfl,rfl⟩
 | n+1=>by
  obtain ⟨h0,h1⟩:=h33 q a n
  exact ⟨(afy q a (H33 q n)).trans (by rw [h1];kernel_rfl),(adl q a (H33 q n)).trans (by rw [h0,h1];kernel_rfl)⟩
theorem W33 (a:Rw aV) (n:Nat) (x:S) (h:GX (aa O) a (uP (pN (aa O) a n))=some x):(W O).aE 33 [S.t (T.rows 7 a.n fun i=>bk (a.get i))]=some x:=by
 refine WG (fn:=Tryz.f33) (by kernel_rfl) (by kernel_rfl) (n:=n) ?_
 refine (ab6 (aa O) a (H33 (aa O) n)).trans ?_
 obtain ⟨h0,h1⟩:=h33 (aa O) a n
 rw [h0]
 exact h
abbrev P34 (q:YF) (kk:PK S):PK S:=PG q 34 Tryz.f34 kk
abbrev H34 (q:YF):Nat→PK S:=HG q 34 Tryz.f34
abbrev T34_0:Type:=Bool→Int→Bool→Int→Int→Bool→Bool→Int→Bool→Bool→Int→Bool→Int→Int→Int→Int→Bool→Bool→S→S→S→S→OS
def Rx (a:fU) (kk:PK S):T34_0:=fun v0 u1 u2 u3 u4 u5 u6 u7 u8 u9 u10 u11 u12 u13 u14 u15 u16 u17 u18 u19 u20 u21=> kk 14 11 32 (aJ [(0,ag (jd a)),(32,ii u1),(16,bb (bl a.bt 100)),(8,bb u2),(40,bb u17),(24,S.ptr 0 4),(4,ii u3),(36,S.ptr 0 6),(20,ii u4),(12,bb (bm a.bt 0)),(44,u18),(28,bb u5),(2,ii 0),(34,bb u6),(18,S.ptr 0 2),(10,S.ptr 0 1),(42,u19),(26,ii u7),(6,S.ptr 0 0),(38,bb u8),(22,bb u9),(14,S.ptr 0 1),(30,S.ptr 0 5),(1,S.ptr 0 0),(33,ii u10),(17,bb (bl a.bt 100)),(9,bb u11),(41,u20),(25,S.t (T.rows 4 a.cg.n fun i=>eL (a.cg.get i))),(5,ii u12),(37,ii a.dB),(21,ii u13),(13,bb false),(45,bb v0),(3,ii u14),(19,S.agg [ii a.cY,ii a.c_]),(11,ii a.bt),(43,u21),(27,ii u15),(7,ss a.af),(39,bb u16),(15,ii a.bt),(31,S.t (T.rows 2 a.bW.n fun i=>dv (a.bW.get i)))] 62 [(0,B.box (List.map S.t (jd a)))])
abbrev T34_1:Type:=Bool→Int→Bool→Bool→Int→Int→S→Bool→Bool→S→Int→Bool→Bool→Int→Bool→S→Int→Int→Bool→Int→S→Int→Bool→S→Bool→S→S→OS
def Qn (a:fU) (kk:PK S):T34_1:=fun v0 u1 u2 u3 u4 u5 u6 u7 u8 u9 u10 u11 u12 u13 u14 u15 u16 u17 u18 u19 u20 u21 u22 u23 u24 u25 u26=> kk 14 16 32 (aJ [(0,ag (jd a)),(32,ii u1),(16,bb (bl a.bt 100)),(48,u23),(8,bb u2),(40,bb u3),(24,S.ptr 0 4),(4,ii u4),(36,S.ptr 0 6),(20,ii u5),(12,bb (bm a.bt 0)),(44,u6),(28,bb u7),(2,ii 0),(34,bb u8),(18,S.ptr 0 2),(50,bb v0),(10,S.ptr 0 1),(42,u9),(26,ii u10),(6,S.ptr 0 0),(38,bb u11),(22,bb u12),(14,S.ptr 0 1),(46,bb u24),(30,S.ptr 0 5),(1,S.ptr 0 0),(33,ii u13),(17,bb (bl a.bt 100)),(49,u25),(9,bb u14),(41,u15),(25,S.t (T.rows 4 a.cg.n fun i=>eL (a.cg.get i))),(5,ii u16),(37,ii a.dB),(21,ii u17),(13,bb false),(45,bb u18),(3,ii u19),(19,S.agg [ii a.cY,ii a.c_]),(11,ii a.bt),(43,u20),(27,ii u21),(7,ss a.af),(39,bb u22),(15,ii a.bt),(47,u26),(31,S.t (T.rows 2 a.bW.n fun i=>dv (a.bW.get i)))] 62 [(0,B.box (List.map S.t (jd a)))])
abbrev T34_2:Type:=Bool→Int→S→Bool→Bool→Int→Int→S→Bool→Bool→Bool→S→Int→Bool→Bool→Bool→Int→S→Bool→S→Int→Int→Bool→Int→S→Int→Bool→S→S→S→S→Bool→OS
def Pz (a:fU) (kk:PK S):T34_2:=fun v0 u1 u2 u3 u4 u5 u6 u7 u8 u9 u10 u11 u12 u13 u14 u15 u16 u17 u18 u19 u20 u21 u22 u23 u24 u25 u26 u27 u28 u29 u30 u31=> kk 14 21 32 (aJ [(0,ag (jd a)),(32,ii u1),(16,bb (bl a.bt 100)),(48,u2),(8,bb u3),(40,bb u4),(24,S.ptr 0 4),(4,ii u5),(36,S.ptr 0 6),(20,ii u6),(52,u28),(12,bb (bm a.bt 0)),(44,u7),(28,bb u8),(2,ii 0),(34,bb u9),(18,S.ptr 0 2),(50,bb u10),(10,S.ptr 0 1),(42,u11),(26,ii u12),(6,S.ptr 0 0),(38,bb u13),(22,bb u14),(54,u29),(14,S.ptr 0 1),(46,bb u15),(30,S.ptr 0 5),(1,S.ptr 0 0),(33,ii u16),(17,bb (bl a.bt 100)),(49,u17),(9,bb u18),(41,u19),(25,S.t (T.rows 4 a.cg.n fun i=>eL (a.cg.get i))),(5,ii u20),(37,ii a.dB),(21,ii u21),(53,u30),(13,bb false),(45,bb u22),(3,ii u23),(19,S.agg [ii a.cY,ii a.c_]),(51,bb u31),(11,ii a.bt),(43,u24),(27,ii u25),(7,ss a.af),(39,bb u26),(55,bb v0),(15,ii a.bt),(47,u27),(31,S.t (T.rows 2 a.bW.n fun i=>dv (a.bW.get i)))] 62 [(0,B.box (List.map S.t (jd a)))])
abbrev T34_3:Type:=Bool→Int→S→Bool→Bool→Int→Int→S→S→Bool→Bool→Bool→S→Int→Bool→Bool→S→Bool→Int→S→Bool→S→Int→Int→S→Bool→Int→Bool→S→Int→Bool→Bool→S→Bool→S→S→S→OS
def Pa (a:fU) (kk:PK S):T34_3:=fun v0 u1 u2 u3 u4 u5 u6 u7 u8 u9 u10 u11 u12 u13 u14 u15 u16 u17 u18 u19 u20 u21 u22 u23 u24 u25 u26 u27 u28 u29 u30 u31 u32 u33 u34 u35 u36=> kk 14 26 32 (aJ [(0,ag (jd a)),(32,ii u1),(16,bb (bl a.bt 100)),(48,u2),(8,bb u3),(40,bb u4),(24,S.ptr 0 4),(56,bb u33),(4,ii u5),(36,S.ptr 0 6),(20,ii u6),(52,u7),(12,bb (bm a.bt 0)),(44,u8),(28,bb u9),(60,bb v0),(2,ii 0),(34,bb u10),(18,S.ptr 0 2),(50,bb u11),(10,S.ptr 0 1),(42,u12),(26,ii u13),(58,u34),(6,S.ptr 0 0),(38,bb u14),(22,bb u15),(54,u16),(14,S.ptr 0 1),(46,bb u17),(30,S.ptr 0 5),(1,S.ptr 0 0),(33,ii u18),(17,bb (bl a.bt 100)),(49,u19),(9,bb u20),(41,u21),(25,S.t (T.rows 4 a.cg.n fun i=>eL (a.cg.get i))),(57,u35),(5,ii u22),(37,ii a.dB),(21,ii u23),(53,u24),(13,bb false),(45,bb u25),(3,ii u26),(19,S.agg [ii a.cY,ii a.c_]),(51,bb u27),(11,ii a.bt),(43,u28),(27,ii u29),(59,u36),(7,ss a.af),(39,bb u30),(55,bb u31),(15,ii a.bt),(47,u32),(31,S.t (T.rows 2 a.bW.n fun i=>dv (a.bW.get i)))] 62 [(0,B.box (List.map S.t (jd a)))])
def XS (q:YF) (a:fU) (k1:T34_1):T34_0:=fun v0 u1 u2 u3 u4 u5 u6 u7 u8 u9 u10 u11 u12 u13 u14 u15 u16 u17 u18 u19 u20 u21=>bif v0 then k1 true u1 u2 u17 u3 u4 u18 u5 u6 u19 u7 u8 u9 u10 u11 u20 u12 u13 v0 u14 u21 u15 u16 S.ud true S.ud S.ud else k1 (bm a.cC 0) u1 u2 u17 u3 u4 u18 u5 u6 u19 u7 u8 u9 u10 u11 u20 u12 u13 v0 u14 u21 u15 u16 (ii a.cC) false (bb (bm a.cC 0)) (S.ptr 0 8)
def Ye (q:YF) (a:fU) (k2:T34_2):T34_1:=fun v0 u1 u2 u3 u4 u5 u6 u7 u8 u9 u10 u11 u12 u13 u14 u15 u16 u17 u18 u19 u20 u21 u22 u23 u24 u25 u26=>bif v0 then k2 true u1 u23 u2 u3 u4 u5 u6 u7 u8 v0 u9 u10 u11 u12 u24 u13 u25 u14 u15 u16 u17 u18 u19 u20 u21 u22 u26 S.ud S.ud S.ud true else k2 (bl a.cC 16) u1 u23 u2 u3 u4 u5 u6 u7 u8 v0 u9 u10 u11 u12 u24 u13 u25 u14 u15 u16 u17 u18 u19 u20 u21 u22 u26 (S.ptr 0 8) (bb (bl a.cC 16)) (ii a.cC) false
def Yf (q:YF) (a:fU) (k3:T34_3):T34_2:=fun v0 u1 u2 u3 u4 u5 u6 u7 u8 u9 u10 u11 u12 u13 u14 u15 u16 u17 u18 u19 u20 u21 u22 u23 u24 u25 u26 u27 u28 u29 u30 u31=>bif v0 then k3 true u1 u2 u3 u4 u5 u6 u28 u7 u8 u9 u10 u11 u12 u13 u14 u29 u15 u16 u17 u18 u19 u20 u21 u30 u22 u23 u31 u24 u25 u26 v0 u27 true S.ud S.ud S.ud else k3 (bm a.cH 0) u1 u2 u3 u4 u5 u6 u28 u7 u8 u9 u10 u11 u12 u13 u14 u29 u15 u16 u17 u18 u19 u20 u21 u30 u22 u23 u31 u24 u25 u26 v0 u27 false (ii a.cH) (S.ptr 0 9) (bb (bm a.cH 0))
def QQ (q:YF) (a:fU):T34_3:=fun v0 u1 u2 u3 u4 u5 u6 u7 u8 u9 u10 u11 u12 u13 u14 u15 u16 u17 u18 u19 u20 u21 u22 u23 u24 u25 u26 u27 u28 u29 u30 u31 u32 u33 u34 u35 u36=>bif v0 then some (ii 1) else bif bl a.cH 2 then some (ii 1) else some (ii 0)
def Fy (q:YF) (a:fU) (k0:T34_0):OS:=yC q 71 [ss a.af] fun y=>bif !y.b 0 then some (ii 7) else bif bm a.bt 0 then some (ii 1) else bif bl a.bt 100 then some (ii 1) else yC q 49 [S.agg [ii a.cY,ii a.c_]] fun y_1=>bif !aR (y_1.i 0) 0 then some (ii (y_1.i 0)) else yC q 72 [S.t (T.rows 4 a.cg.n fun i=>eL (a.cg.get i))] fun y_2=>bif !aR (y_2.i 0) 0 then some (ii (y_2.i 0)) else yC q 73 [S.t (T.rows 2 a.bW.n fun i=>dv (a.bW.get i))] fun y_3=>bif !aR (y_3.i 0) 0 then some (ii (y_3.i 0)) else yC q 74 [ii a.dB,ii 0,ii 1099511627776] fun y_4=>bif !y_4.b 0 then k0 true (y_3.i 0) (y.b 0) (y_2.i 0) (y_1.i 0) (!aR (y_2.i 0) 0) (!aR (y_3.i 0) 0) (y_2.i 0) (y_4.b 0) (!aR (y_1.i 0) 0) (y_3.i 0) (!y.b 0) (y_3.i 0) (y_1.i 0) (y_1.i 0) (y_2.i 0) (!y_4.b 0) true S.ud S.ud S.ud S.ud else yC q 74 [ii a.iM,ii 0,ii 1073741824] fun y_5=>k0 (!y_5.b 0) (y_3.i 0) (y.b 0) (y_2.i 0) (y_1.i 0) (!aR (y_2.i 0) 0) (!aR (y_3.i 0) 0) (y_2.i 0) (y_4.b 0) (!aR (y_1.i 0) 0) (y_3.i 0) (!y.b 0) (y_3.i 0) (y_1.i 0) (y_1.i 0) (y_2.i 0) (!y_4.b 0) false (S.t (T.v (.bool !y_5.b 0))) (ii a.iM) (S.ptr 0 7) (bb (y_5.b 0))
structure X34 where
 x0:Bool→OS
 x1:Bool→OS
 x2:Bool→OS
 x3:Bool→OS
def S6 (X:X34):T34_0:=fun v0 _ _ _ _ _ _ _ _ _ _ _ _ _ _ _ _ _ _ _ _ _=>X.x0 v0
def X1 (X:X34):T34_1:=fun v0 _ _ _ _ _ _ _ _ _ _ _ _ _ _ _ _ _ _ _ _ _ _ _ _ _ _=>X.x1 v0
def X7 (X:X34):T34_2:=fun v0 _ _ _ _ _ _ _ _ _ _ _ _ _ _ _ _ _ _ _ _ _ _ _ _ _ _ _ _ _ _ _=>X.x2 v0
def Yq (X:X34):T34_3:=fun v0 _ _ _ _ _ _ _ _ _ _ _ _ _ _ _ _ _ _ _ _ _ _ _ _ _ _ _ _ _ _ _ _ _ _ _ _=>X.x3 v0
def agk (q:YF) (a:fU) (X:X34):X34:=⟨fun v0=>XS q a (X1 X) v0 dd dd dd dd dd dd dd dd dd dd dd dd dd dd dd dd dd dd dd dd dd,
 fun v0=>Ye q a (X7 X) v0 dd dd dd dd dd dd dd dd dd dd dd dd dd dd dd dd dd dd dd dd dd dd dd dd dd dd,
 fun v0=>Yf q a (Yq X) v0 dd dd dd dd dd dd dd dd dd dd dd dd dd dd dd dd dd dd dd dd dd dd dd dd dd dd dd dd dd dd dd,
 fun v0=>QQ q a v0 dd dd dd dd dd dd dd dd dd dd dd dd dd dd dd dd dd dd dd dd dd dd dd dd dd dd dd dd dd dd dd dd dd dd dd dd⟩
def m_ (q:YF) (a:fU):Nat→X34
 | 0=>⟨fun _=>none,fun _=>none,fun _=>none,fun _=>none⟩
 | n+1=>agk q a (m_ q a n)
theorem aeV (q:YF) (a:fU) (kk:PK S):Rx a (P34 q kk)=XS q a (Qn a kk):=by
 kernel_rfl
theorem ahE (q:YF) (a:fU) (kk:PK S):Qn a (P34 q kk)=Ye q a (Pz a kk):=by
 kernel_rfl
theorem afC (q:YF) (a:fU) (kk:PK S):Pz a (P34 q kk)=Yf q a (Pa a kk):=by
 kernel_rfl
theorem ac9 (q:YF) (a:fU) (kk:PK S):Pa a (P34 q kk)=QQ q a:=by
 kernel_rfl
theorem ab9 (q:YF) (a:fU) (kk:PK S):BG q kk 34 Tryz.f34 [ag (jd a)]=Fy q a (Rx a kk):=by
 kernel_rfl
theorem h34 (q:YF) (a:fU):∀ n,Rx a (H34 q n)=S6 (m_ q a n)∧Qn a (H34 q n)=X1 (m_ q a n)∧Pz a (H34 q n)=X7 (m_ q a n)∧Pa a (H34 q n)=Yq (m_ q a n)
 | 0=>⟨rfl,rfl,rfl,rfl⟩
 | n+1=>by
  obtain ⟨h0,h1,h2,h3⟩:=h34 q a n
  exact ⟨(aeV q a (H34 q n)).trans (by rw [h1];kernel_rfl),(ahE q a (H34 q n)).trans (by rw [h2];kernel_rfl),(afC q a (H34 q n)).trans (by rw [h3];kernel_rfl),(ac9 q a (H34 q n)).trans (by kernel_rfl)⟩
theorem W34 (a:fU) (n:Nat) (x:S) (h:Fy (aa O) a (S6 (m_ (aa O) a n))=some x):(W O).aE 34 [ag (jd a)]=some x:=by
 refine WG (fn:=Tryz.f34) (by kernel_rfl) (by kernel_rfl) (n:=n) ?_
 refine (ab9 (aa O) a (H34 (aa O) n)).trans ?_
 obtain ⟨h0,h1,h2,h3⟩:=h34 (aa O) a n
 rw [h0]
 exact h
abbrev P35 (q:YF) (kk:PK S):PK S:=PG q 35 Tryz.f35 kk
abbrev H35 (q:YF):Nat→PK S:=HG q 35 Tryz.f35
def IK (a:aP) (kk:PK S):Int→OS:=fun v0=> kk 2 0 0 (aJ [(12,ii (ay a.ae.n)),(1,S.ptr 0 0),(13,ii v0),(11,S.t (T.rows 15 a.ae.n fun i=>dp (a.ae.get i)))] 1 [(0,B.box (List.map S.t (bI a)))])
abbrev T35_1:Type:=Bool→cQ→Int→cQ→BA→Int→Bool→Bool→cQ→BA→BA→BA→BA→Int→Int→Int→bN→bN→Int→Int→Int→Int→cQ→BA→Int→Int→Int→bN→bN→Int→Int→Int→Int→Bool→Int→BA→Int→Int→Int→bN→bN→Int→Int→Int→Int→Bool→Bool→Bool→Bool→Int→Bool→Bool→BA→BA→BA→BA→Int→Int→Int→bN→bN→Int→Int→Int→Int→Bool→Bool→Int→Int→Int→S→Bool→S→S→S→S→S→Bool→S→S→S→S→OS
def PF (a:aP) (kk:PK S):T35_1:=fun v0 v1 v2 u3 u4 u5 u6 u7 u8 u9 u10 u11 u12 u13 u14 u15 u16 u17 u18 u19 u20 u21 u22 u23 u24 u25 u26 u27 u28 u29 u30 u31 u32 u33 u34 u35 u36 u37 u38 u39 u40 u41 u42 u43 u44 u45 u46 u47 u48 u49 u50 u51 u52 u53 u54 u55 u56 u57 u58 u59 u60 u61 u62 u63 u64 u65 u66 u67 u68 u69 u70 u71 u72 u73 u74 u75 u76 u77 u78 u79 u80 u81=> kk 10 12 37 (aJ [(32,u70),(16,S.pt (dp u3)),(48,S.t (T.rows 7 a.aw.n fun i=>bk (a.aw.get i))),(40,ss u4),(24,bb u65),(4,S.ptr 5 0),(36,bb u71),(20,ii u5),(52,bb u6),(12,ii (ay a.ae.n)),(44,bb u7),(28,u72),(34,u73),(18,ag (dp u8)),(50,S.agg [ss u9,ss u10,ss u11]),(42,S.agg [ss u12,ii u13,ii u14,ii u15,S.t (T.rows 4 u16.n u16.g),S.t (T.rows 2 u17.n u17.g),ii u18,ii u19,ii u20,ii u21]),(26,u74),(6,S.ptr 34 0),(38,ag (bI a)),(54,bb v0),(14,bb u66),(46,bb false),(30,u75),(1,S.ptr 0 0),(33,u76),(17,ag (dp u22)),(49,S.ptr 5 3),(41,S.bJ [S.agg [ss u23,ii u24,ii u25,ii u26,S.t (T.rows 4 u27.n u27.g),S.t (T.rows 2 u28.n u28.g),ii u29,ii u30,ii u31,ii u32],bb u33]),(25,bb u77),(5,ii u34),(37,S.bJ [S.agg [ss u35,ii u36,ii u37,ii u38,S.t (T.rows 4 u39.n u39.g),S.t (T.rows 2 u40.n u40.g),ii u41,ii u42,ii u43,ii u44],bb u45]),(21,bb u46),(53,bb u47),(13,ii v2),(45,bb u48),(29,u78),(3,ii u67),(35,u79),(19,ii u49),(51,S.sl 44 1),(11,S.t (T.rows 15 a.ae.n fun i=>dp (a.ae.get i))),(43,bb u50),(27,u80),(7,bb u51),(39,S.ptr 5 1),(23,ii u68),(15,ii u69),(47,S.ptr 0 6),(31,u81)] 56 [(0,B.box (List.map S.t (bI a))),(44,B.fO false 3 1 [ss u52,ss u53,ss u54]),(34,B.box [ss u55,ii u56,ii u57,ii u58,S.t (T.rows 4 u59.n u59.g),S.t (T.rows 2 u60.n u60.g),ii u61,ii u62,ii u63,ii u64]),(5,B.box (List.map S.t (dp v1)))])
abbrev T35_2:Type:=cQ→BA→Int→Bool→cQ→BA→Int→Int→Int→bN→bN→Int→Int→Int→Int→cQ→BA→Int→Int→Int→bN→bN→Int→Int→Int→Int→Bool→Int→BA→Int→Int→Int→bN→bN→Int→Int→Int→Int→Bool→Bool→Bool→Int→Bool→Bool→BA→Int→Int→Int→bN→bN→Int→Int→Int→Int→cQ→Bool→Bool→Int→Int→Int→Int→S→Bool→S→S→S→S→S→Bool→S→S→S→S→OS
def PN (a:aP) (kk:PK S):T35_2:=fun u0 u1 u2 u3 u4 u5 u6 u7 u8 u9 u10 u11 u12 u13 u14 u15 u16 u17 u18 u19 u20 u21 u22 u23 u24 u25 u26 u27 u28 u29 u30 u31 u32 u33 u34 u35 u36 u37 u38 u39 u40 u41 u42 u43 u44 u45 u46 u47 u48 u49 u50 u51 u52 u53 u54 u55 u56 u57 u58 u59 u60 u61 u62 u63 u64 u65 u66 u67 u68 u69 u70 u71 u72=> kk 10 12 37 (aJ [(32,u61),(16,S.pt (dp u0)),(48,S.ud),(40,ss u1),(24,bb u55),(4,S.ptr 5 0),(36,bb u62),(20,ii u2),(52,S.ud),(12,ii (ay a.ae.n)),(44,bb u3),(28,u63),(34,u64),(18,ag (dp u4)),(50,S.ud),(42,S.agg [ss u5,ii u6,ii u7,ii u8,S.t (T.rows 4 u9.n u9.g),S.t (T.rows 2 u10.n u10.g),ii u11,ii u12,ii u13,ii u14]),(26,u65),(6,S.ptr 34 0),(38,ag (bI a)),(54,bb true),(14,bb u56),(46,bb true),(30,u66),(1,S.ptr 0 0),(33,u67),(17,ag (dp u15)),(49,S.ud),(41,S.bJ [S.agg [ss u16,ii u17,ii u18,ii u19,S.t (T.rows 4 u20.n u20.g),S.t (T.rows 2 u21.n u21.g),ii u22,ii u23,ii u24,ii u25],bb u26]),(25,bb u68),(5,ii u27),(37,S.bJ [S.agg [ss u28,ii u29,ii u30,ii u31,S.t (T.rows 4 u32.n u32.g),S.t (T.rows 2 u33.n u33.g),ii u34,ii u35,ii u36,ii u37],bb u38]),(21,bb u39),(53,S.ud),(13,ii u57),(45,bb u40),(29,u69),(3,ii u58),(35,u70),(19,ii u41),(51,S.ud),(11,S.t (T.rows 15 a.ae.n fun i=>dp (a.ae.get i))),(43,bb u42),(27,u71),(7,bb u43),(39,S.ptr 5 1),(23,ii u59),(15,ii u60),(47,S.ud),(31,u72)] 56 [(0,B.box (List.map S.t (bI a))),(34,B.box [ss u44,ii u45,ii u46,ii u47,S.t (T.rows 4 u48.n u48.g),S.t (T.rows 2 u49.n u49.g),ii u50,ii u51,ii u52,ii u53]),(5,B.box (List.map S.t (dp u54)))])
def KO (q:YF) (a:aP) (k1:T35_1) (k2:T35_2) (v0:Int):OS:=bif bm v0 (ay a.ae.n) then aU v0 a.ae.n fun h=>yC q 75 [ag (dp (a.ae.get (Fin.mk v0.toNat h)))] fun y=>bif !aR (y.i 0) 0 then some (ii (y.i 0)) else bif bl v0 0 then aU (bF .i64 v0 1) a.ae.n fun h_1=>bif !strLt (a.ae.get (Fin.mk (bF .i64 v0 1).toNat h_1)).af (a.ae.get (Fin.mk v0.toNat h)).af then some (ii 6) else yC q 76 [ag (bI a),ss (a.ae.get (Fin.mk v0.toNat h)).bc] fun y_1=>bif !y_1.b 10 then k2 (a.ae.get (Fin.mk v0.toNat h)) (a.ae.get (Fin.mk v0.toNat h)).bc (y.i 0) (y_1.b 10) (a.ae.get (Fin.mk v0.toNat h)) (y_1.s 0) (y_1.i 1) (y_1.i 2) (y_1.i 3) (y_1.r 4) (y_1.r 5) (y_1.i 6) (y_1.i 7) (y_1.i 8) (y_1.i 9) (a.ae.get (Fin.mk v0.toNat h)) (y_1.s 0) (y_1.i 1) (y_1.i 2) (y_1.i 3) (y_1.r 4) (y_1.r 5) (y_1.i 6) (y_1.i 7) (y_1.i 8) (y_1.i 9) (y_1.b 10) (y.i 0) (y_1.s 0) (y_1.i 1) (y_1.i 2) (y_1.i 3) (y_1.r 4) (y_1.r 5) (y_1.i 6) (y_1.i 7) (y_1.i 8) (y_1.i 9) (y_1.b 10) (!aR (y.i 0) 0) (!y_1.b 10) (y.i 0) (y_1.b 10) (y_1.b 10) (y_1.s 0) (y_1.i 1) (y_1.i 2) (y_1.i 3) (y_1.r 4) (y_1.r 5) (y_1.i 6) (y_1.i 7) (y_1.i 8) (y_1.i 9) (a.ae.get (Fin.mk v0.toNat h)) (bl v0 0) (bm v0 (ay a.ae.n)) v0 v0 v0 v0 (ss (a.ae.get (Fin.mk (bF .i64 v0 1).toNat h_1)).af) (!strLt (a.ae.get (Fin.mk (bF .i64 v0 1).toNat h_1)).af (a.ae.get (Fin.mk v0.toNat h)).af) (ii v0) (ss (a.ae.get (Fin.mk v0.toNat h)).af) (S.ptr 0 9) (S.pt (dp (a.ae.get (Fin.mk (bF .i64 v0 1).toNat h_1)))) (S.ptr 5 0) true (ii (bF .i64 v0 1)) (S.t (T.v (.bool !strLt (a.ae.get (Fin.mk (bF .i64 v0 1).toNat h_1)).af (a.ae.get (Fin.mk v0.toNat h)).af))) (S.t (T.rows 15 a.ae.n fun i=>dp (a.ae.get i))) (S.pt (dp (a.ae.get (Fin.mk (bF .i64 v0 1).toNat h_1)))) else yC q 77 [S.t (T.rows 7 a.aw.n fun i=>bk (a.aw.get i)),S.t (T.rows 3 1 fun i=>List.take 3 (List.drop (↑i*3) [ts (a.ae.get (Fin.mk v0.toNat h)).al,ts (a.ae.get (Fin.mk v0.toNat h)).aj,ts (a.ae.get (Fin.mk v0.toNat h)).ak]))] fun y_2=>k1 (!y_2.b 0) (a.ae.get (Fin.mk v0.toNat h)) v0 (a.ae.get (Fin.mk v0.toNat h)) (a.ae.get (Fin.mk v0.toNat h)).bc (y.i 0) (y_2.b 0) (y_1.b 10) (a.ae.get (Fin.mk v0.toNat h)) (a.ae.get (Fin.mk v0.toNat h)).al (a.ae.get (Fin.mk v0.toNat h)).aj (a.ae.get (Fin.mk v0.toNat h)).ak (y_1.s 0) (y_1.i 1) (y_1.i 2) (y_1.i 3) (y_1.r 4) (y_1.r 5) (y_1.i 6) (y_1.i 7) (y_1.i 8) (y_1.i 9) (a.ae.get (Fin.mk v0.toNat h)) (y_1.s 0) (y_1.i 1) (y_1.i 2) (y_1.i 3) (y_1.r 4) (y_1.r 5) (y_1.i 6) (y_1.i 7) (y_1.i 8) (y_1.i 9) (y_1.b 10) (y.i 0) (y_1.s 0) (y_1.i 1) (y_1.i 2) (y_1.i 3) (y_1.r 4) (y_1.r 5) (y_1.i 6) (y_1.i 7) (y_1.i 8) (y_1.i 9) (y_1.b 10) (!aR (y.i 0) 0) (!y_2.b 0) (!y_1.b 10) (y.i 0) (y_1.b 10) (y_1.b 10) (a.ae.get (Fin.mk v0.toNat h)).al (a.ae.get (Fin.mk v0.toNat h)).aj (a.ae.get (Fin.mk v0.toNat h)).ak (y_1.s 0) (y_1.i 1) (y_1.i 2) (y_1.i 3) (y_1.r 4) (y_1.r 5) (y_1.i 6) (y_1.i 7) (y_1.i 8) (y_1.i 9) (bl v0 0) (bm v0 (ay a.ae.n)) v0 v0 v0 (ss (a.ae.get (Fin.mk (bF .i64 v0 1).toNat h_1)).af) (!strLt (a.ae.get (Fin.mk (bF .i64 v0 1).toNat h_1)).af (a.ae.get (Fin.mk v0.toNat h)).af) (ii v0) (ss (a.ae.get (Fin.mk v0.toNat h)).af) (S.ptr 0 9) (S.pt (dp (a.ae.get (Fin.mk (bF .i64 v0 1).toNat h_1)))) (S.ptr 5 0) true (ii (bF .i64 v0 1)) (S.t (T.v (.bool !strLt (a.ae.get (Fin.mk (bF .i64 v0 1).toNat h_1)).af (a.ae.get (Fin.mk v0.toNat h)).af))) (S.t (T.rows 15 a.ae.n fun i=>dp (a.ae.get i))) (S.pt (dp (a.ae.get (Fin.mk (bF .i64 v0 1).toNat h_1)))) else yC q 76 [ag (bI a),ss (a.ae.get (Fin.mk v0.toNat h)).bc] fun y_1=>bif !y_1.b 10 then k2 (a.ae.get (Fin.mk v0.toNat h)) (a.ae.get (Fin.mk v0.toNat h)).bc (y.i 0) (y_1.b 10) (a.ae.get (Fin.mk v0.toNat h)) (y_1.s 0) (y_1.i 1) (y_1.i 2) (y_1.i 3) (y_1.r 4) (y_1.r 5) (y_1.i 6) (y_1.i 7) (y_1.i 8) (y_1.i 9) (a.ae.get (Fin.mk v0.toNat h)) (y_1.s 0) (y_1.i 1) (y_1.i 2) (y_1.i 3) (y_1.r 4) (y_1.r 5) (y_1.i 6) (y_1.i 7) (y_1.i 8) (y_1.i 9) (y_1.b 10) (y.i 0) (y_1.s 0) (y_1.i 1) (y_1.i 2) (y_1.i 3) (y_1.r 4) (y_1.r 5) (y_1.i 6) (y_1.i 7) (y_1.i 8) (y_1.i 9) (y_1.b 10) (!aR (y.i 0) 0) (!y_1.b 10) (y.i 0) (y_1.b 10) (y_1.b 10) (y_1.s 0) (y_1.i 1) (y_1.i 2) (y_1.i 3) (y_1.r 4) (y_1.r 5) (y_1.i 6) (y_1.i 7) (y_1.i 8) (y_1.i 9) (a.ae.get (Fin.mk v0.toNat h)) (bl v0 0) (bm v0 (ay a.ae.n)) v0 v0 v0 v0 S.ud false S.ud S.ud S.ud S.ud S.ud false S.ud S.ud S.ud S.ud else yC q 77 [S.t (T.rows 7 a.aw.n fun i=>bk (a.aw.get i)),S.t (T.rows 3 1 fun i=>List.take 3 (List.drop (↑i*3) [ts (a.ae.get (Fin.mk v0.toNat h)).al,ts (a.ae.get (Fin.mk v0.toNat h)).aj,ts (a.ae.get (Fin.mk v0.toNat h)).ak]))] fun y_2=>k1 (!y_2.b 0) (a.ae.get (Fin.mk v0.toNat h)) v0 (a.ae.get (Fin.mk v0.toNat h)) (a.ae.get (Fin.mk v0.toNat h)).bc (y.i 0) (y_2.b 0) (y_1.b 10) (a.ae.get (Fin.mk v0.toNat h)) (a.ae.get (Fin.mk v0.toNat h)).al (a.ae.get (Fin.mk v0.toNat h)).aj (a.ae.get (Fin.mk v0.toNat h)).ak (y_1.s 0) (y_1.i 1) (y_1.i 2) (y_1.i 3) (y_1.r 4) (y_1.r 5) (y_1.i 6) (y_1.i 7) (y_1.i 8) (y_1.i 9) (a.ae.get (Fin.mk v0.toNat h)) (y_1.s 0) (y_1.i 1) (y_1.i 2) (y_1.i 3) (y_1.r 4) (y_1.r 5) (y_1.i 6) (y_1.i 7) (y_1.i 8) (y_1.i 9) (y_1.b 10) (y.i 0) (y_1.s 0) (y_1.i 1) (y_1.i 2) (y_1.i 3) (y_1.r 4) (y_1.r 5) (y_1.i 6) (y_1.i 7) (y_1.i 8) (y_1.i 9) (y_1.b 10) (!aR (y.i 0) 0) (!y_2.b 0) (!y_1.b 10) (y.i 0) (y_1.b 10) (y_1.b 10) (a.ae.get (Fin.mk v0.toNat h)).al (a.ae.get (Fin.mk v0.toNat h)).aj (a.ae.get (Fin.mk v0.toNat h)).ak (y_1.s 0) (y_1.i 1) (y_1.i 2) (y_1.i 3) (y_1.r 4) (y_1.r 5) (y_1.i 6) (y_1.i 7) (y_1.i 8) (y_1.i 9) (bl v0 0) (bm v0 (ay a.ae.n)) v0 v0 v0 S.ud false S.ud S.ud S.ud S.ud S.ud false S.ud S.ud S.ud S.ud else some (ii 0)
def Ro (q:YF) (a:aP) (k0:Int→OS):T35_1:=fun v0 v1 v2 u3 u4 u5 u6 u7 u8 u9 u10 u11 u12 u13 u14 u15 u16 u17 u18 u19 u20 u21 u22 u23 u24 u25 u26 u27 u28 u29 u30 u31 u32 u33 u34 u35 u36 u37 u38 u39 u40 u41 u42 u43 u44 u45 u46 u47 u48 u49 u50 u51 u52 u53 u54 u55 u56 u57 u58 u59 u60 u61 u62 u63 u64 u65 u66 u67 u68 u69 u70 u71 u72 u73 u74 u75 u76 u77 u78 u79 u80 u81=>bif v0 then some (ii 5) else yC q 77 [S.t (T.rows 7 a.aw.n fun i=>bk (a.aw.get i)),S.t (T.rows 3 v1.bh.n fun i=>bS (v1.bh.get i))] fun y=>bif !y.b 0 then some (ii 5) else yC q 78 [S.t (T.rows 7 a.aw.n fun i=>bk (a.aw.get i)),S.agg [ss v1.al,ss v1.aj,ss v1.ak]] fun y=>bif !(aR v1.a6 (y.i 0) && (aR v1.a8 (y.i 1) && true)) then some (ii 1) else k0 (a7 .i64 v2 1)
def QU (q:YF) (a:aP):T35_2:=fun u0 u1 u2 u3 u4 u5 u6 u7 u8 u9 u10 u11 u12 u13 u14 u15 u16 u17 u18 u19 u20 u21 u22 u23 u24 u25 u26 u27 u28 u29 u30 u31 u32 u33 u34 u35 u36 u37 u38 u39 u40 u41 u42 u43 u44 u45 u46 u47 u48 u49 u50 u51 u52 u53 u54 u55 u56 u57 u58 u59 u60 u61 u62 u63 u64 u65 u66 u67 u68 u69 u70 u71 u72=>some (ii 5)
def Qz (q:YF) (a:aP) (k0:Int→OS):OS:=k0 0
structure X35 where
 x0:Int→OS
 x1:Bool→cQ→Int→OS
 x2:OS
def IX (X:X35):Int→OS:=fun v0=>X.x0 v0
def NN (X:X35):T35_1:=fun v0 v1 v2 _ _ _ _ _ _ _ _ _ _ _ _ _ _ _ _ _ _ _ _ _ _ _ _ _ _ _ _ _ _ _ _ _ _ _ _ _ _ _ _ _ _ _ _ _ _ _ _ _ _ _ _ _ _ _ _ _ _ _ _ _ _ _ _ _ _ _ _ _ _ _ _ _ _ _ _ _ _ _=>X.x1 v0 v1 v2
def Oz (X:X35):T35_2:=fun _ _ _ _ _ _ _ _ _ _ _ _ _ _ _ _ _ _ _ _ _ _ _ _ _ _ _ _ _ _ _ _ _ _ _ _ _ _ _ _ _ _ _ _ _ _ _ _ _ _ _ _ _ _ _ _ _ _ _ _ _ _ _ _ _ _ _ _ _ _ _ _ _=>X.x2
def Ru (q:YF) (a:aP) (X:X35):X35:=⟨fun v0=>KO q a (NN X) (Oz X) v0,
 fun v0 v1 v2=>Ro q a (IX X) v0 v1 v2 dd dd dd dd dd dd dd dd dd dd dd dd dd dd dd dd dd dd dd dd dd dd dd dd dd dd dd dd dd dd dd dd dd dd dd dd dd dd dd dd dd dd dd dd dd dd dd dd dd dd dd dd dd dd dd dd dd dd dd dd dd dd dd dd dd dd dd dd dd dd dd dd dd dd dd dd dd dd dd,
 QU q a dd dd dd dd dd dd dd dd dd dd dd dd dd dd dd dd dd dd dd dd dd dd dd dd dd dd dd dd dd dd dd dd dd dd dd dd dd dd dd dd dd dd dd dd dd dd dd dd dd dd dd dd dd dd dd dd dd dd dd dd dd dd dd dd dd dd dd dd dd dd dd dd dd⟩
def kr (q:YF) (a:aP):Nat→X35
 | 0=>⟨fun _=>none,fun _ _ _=>none,none⟩
 | n+1=>Ru q a (kr q a n)
theorem afI (q:YF) (a:aP) (kk:PK S):IK a (P35 q kk)=KO q a (PF a kk) (PN a kk):=by
 kernel_rfl
theorem ado (q:YF) (a:aP) (kk:PK S):PF a (P35 q kk)=Ro q a (IK a kk):=by
 kernel_rfl
theorem ahw (q:YF) (a:aP) (kk:PK S):PN a (P35 q kk)=QU q a:=by
 kernel_rfl
theorem Y4 (q:YF) (a:aP) (kk:PK S):BG q kk 35 Tryz.f35 [ag (bI a)]=Qz q a (IK a kk):=by
 kernel_rfl
theorem h35 (q:YF) (a:aP):∀ n,IK a (H35 q n)=IX (kr q a n)∧PF a (H35 q n)=NN (kr q a n)∧PN a (H35 q n)=Oz (kr q a n)
 | 0=>⟨rfl,rfl,rfl⟩
 | n+1=>by
  obtain ⟨h0,h1,h2⟩:=h35 q a n
  exact ⟨(afI q a (H35 q n)).trans (by rw [h1,h2];kernel_rfl),(ado q a (H35 q n)).trans (by rw [h0];kernel_rfl),(ahw q a (H35 q n)).trans (by kernel_rfl)⟩
theorem W35 (a:aP) (n:Nat) (x:S) (h:Qz (aa O) a (IX (kr (aa O) a n))=some x):(W O).aE 35 [ag (bI a)]=some x:=by
 refine WG (fn:=Tryz.f35) (by kernel_rfl) (by kernel_rfl) (n:=n) ?_
 refine (Y4 (aa O) a (H35 (aa O) n)).trans ?_
 obtain ⟨h0,h1,h2⟩:=h35 (aa O) a n
 rw [h0]
 exact h
abbrev P36 (q:YF) (kk:PK S):PK S:=PG q 36 Tryz.f36 kk
abbrev H36 (q:YF):Nat→PK S:=HG q 36 Tryz.f36
abbrev T36_0:Type:=Bool→Int→Int→Bool→Int→Bool→Int→Bool→Bool→Int→Int→Bool→Bool→Int→Bool→Int→Bool→Int→S→S→S→Bool→S→OS
def NB (a:fB) (kk:PK S):T36_0:=fun v0 u1 u2 u3 u4 u5 u6 u7 u8 u9 u10 u11 u12 u13 u14 u15 u16 u17 u18 u19 u20 u21 u22=> kk 14 11 38 (aJ [(0,ag (jv a)),(32,ii a.iS),(16,S.ptr 0 1),(48,S.t (T.rows 3 a.aD.n fun i=>e70 (a.aD.get i))),(24,ii u1),(56,bb v0),(4,ii u2),(36,S.t (T.rows 4 a.cg.n fun i=>eL (a.cg.get i))),(20,bb u3),(52,u18),(12,ss a.af),(44,ii u4),(28,ii a.iS),(2,ii 0),(34,bb (bl a.iS 1000)),(18,bb u5),(50,bb (bl (ay a.aD.n) 3)),(42,S.t (T.rows 3 a.jN.n fun i=>cZ (a.jN.get i))),(38,ii u6),(22,S.agg [ii a.dj,ii a.dk]),(54,u19),(14,bb u7),(30,bb false),(1,S.ptr 0 0),(33,bb (bl a.iS 1000)),(17,ss a.ef),(49,ii (ay a.aD.n)),(41,S.ptr 0 6),(25,bb u8),(5,ii u9),(37,ii u10),(21,S.ptr 0 2),(53,u20),(13,bb u11),(45,bb u12),(29,bb (bm a.iS (Int.negSucc 999))),(3,ii u13),(35,S.ptr 0 5),(19,bb u14),(51,bb u21),(11,S.ptr 0 0),(43,ii u15),(27,S.ptr 0 4),(39,bb u16),(23,ii u17),(55,u22),(15,bb false),(47,S.ptr 0 7),(31,S.ptr 0 4)] 54 [(0,B.box (List.map S.t (jv a)))])
def KK (a:fB) (kk:PK S):Int→OS:=fun v0=> kk 17 0 0 (aJ [(64,S.t (T.rows 3 a.aD.n fun i=>e70 (a.aD.get i))),(66,ii v0),(1,S.ptr 0 0),(65,ii (ay a.aD.n))] 1 [(0,B.box (List.map S.t (jv a)))])
def NX (q:YF) (a:fB) (k1:Int→OS):T36_0:=fun v0 u1 u2 u3 u4 u5 u6 u7 u8 u9 u10 u11 u12 u13 u14 u15 u16 u17 u18 u19 u20 u21 u22=>bif v0 then some (ii 3) else bif bl (ay a.bA.n) 3 then some (ii 3) else k1 0
def JM (q:YF) (a:fB) (k1:Int→OS) (v0:Int):OS:=bif bm v0 (ay a.aD.n) then aU v0 a.aD.n fun h=>yC q 80 [S.t (T.rows 2 1 fun i=>List.take 2 (List.drop (↑i*2) [ts (a.aD.get (Fin.mk v0.toNat h)).aZ,ts (a.aD.get (Fin.mk v0.toNat h)).ef]))] fun y=>bif !aR (y.i 0) 0 then some (ii (y.i 0)) else bif bm (a.aD.get (Fin.mk v0.toNat h)).f_ 1 then some (ii 1) else bif bl (a.aD.get (Fin.mk v0.toNat h)).f_ 16 then some (ii 1) else k1 (a7 .i64 v0 1) else yC q 80 [S.t (T.rows 2 a.bR.n fun i=>iA (a.bR.get i))] fun y=>bif !aR (y.i 0) 0 then some (ii (y.i 0)) else yC q 80 [S.t (T.rows 2 a.bA.n fun i=>iA (a.bA.get i))] fun y=>bif !aR (y.i 0) 0 then some (ii (y.i 0)) else yC q 74 [ii a.df,ii 0,ii 1099511627776] fun y=>bif !y.b 0 then some (ii 1) else bif !ah a.jI (bs []) then yC q 71 [ss a.jI] fun y=>bif !y.b 0 then some (ii 7) else some (ii 0) else some (ii 0)
def Hg (q:YF) (a:fB) (k0:T36_0):OS:=yC q 71 [ss a.af] fun y=>bif !y.b 0 then some (ii 7) else yC q 71 [ss a.ef] fun y_1=>bif !y_1.b 0 then some (ii 7) else yC q 49 [S.agg [ii a.dj,ii a.dk]] fun y_2=>bif !aR (y_2.i 0) 0 then some (ii (y_2.i 0)) else bif bm a.iS (Int.negSucc 999) then some (ii 1) else bif bl a.iS 1000 then some (ii 1) else yC q 72 [S.t (T.rows 4 a.cg.n fun i=>eL (a.cg.get i))] fun y_3=>bif !aR (y_3.i 0) 0 then some (ii (y_3.i 0)) else yC q 79 [S.t (T.rows 3 a.jN.n fun i=>cZ (a.jN.get i))] fun y_4=>bif !aR (y_4.i 0) 0 then some (ii (y_4.i 0)) else bif bl (ay a.aD.n) 3 then k0 true (y_2.i 0) (y_3.i 0) (!y_1.b 0) (y_4.i 0) (y_1.b 0) (y_3.i 0) (!y.b 0) (!aR (y_2.i 0) 0) (y_4.i 0) (y_3.i 0) (y.b 0) (!aR (y_4.i 0) 0) (y_2.i 0) (!y_1.b 0) (y_4.i 0) (!aR (y_3.i 0) 0) (y_2.i 0) S.ud S.ud S.ud true S.ud else k0 (bl (ay a.bR.n) 3) (y_2.i 0) (y_3.i 0) (!y_1.b 0) (y_4.i 0) (y_1.b 0) (y_3.i 0) (!y.b 0) (!aR (y_2.i 0) 0) (y_4.i 0) (y_3.i 0) (y.b 0) (!aR (y_4.i 0) 0) (y_2.i 0) (!y_1.b 0) (y_4.i 0) (!aR (y_3.i 0) 0) (y_2.i 0) (S.ptr 0 8) (ii (ay a.bR.n)) (S.t (T.rows 2 a.bR.n fun i=>iA (a.bR.get i))) false (bb (bl (ay a.bR.n) 3))
structure X36 where
 x0:Bool→OS
 x1:Int→OS
def Rm (X:X36):T36_0:=fun v0 _ _ _ _ _ _ _ _ _ _ _ _ _ _ _ _ _ _ _ _ _ _=>X.x0 v0
def wv (X:X36):Int→OS:=fun v0=>X.x1 v0
def Us (q:YF) (a:fB) (X:X36):X36:=⟨fun v0=>NX q a (wv X) v0 dd dd dd dd dd dd dd dd dd dd dd dd dd dd dd dd dd dd dd dd dd dd,
 fun v0=>JM q a (wv X) v0⟩
def tw (q:YF) (a:fB):Nat→X36
 | 0=>⟨fun _=>none,fun _=>none⟩
 | n+1=>Us q a (tw q a n)
theorem ada (q:YF) (a:fB) (kk:PK S):NB a (P36 q kk)=NX q a (KK a kk):=by
 kernel_rfl
theorem aey (q:YF) (a:fB) (kk:PK S):KK a (P36 q kk)=JM q a (KK a kk):=by
 kernel_rfl
theorem aaX (q:YF) (a:fB) (kk:PK S):BG q kk 36 Tryz.f36 [ag (jv a)]=Hg q a (NB a kk):=by
 kernel_rfl
theorem h36 (q:YF) (a:fB):∀ n,NB a (H36 q n)=Rm (tw q a n)∧KK a (H36 q n)=wv (tw q a n)
 | 0=>⟨rfl,rfl⟩
 | n+1=>by
  obtain ⟨h0,h1⟩:=h36 q a n
  exact ⟨(ada q a (H36 q n)).trans (by rw [h1];kernel_rfl),(aey q a (H36 q n)).trans (by rw [h1];kernel_rfl)⟩
theorem W36 (a:fB) (n:Nat) (x:S) (h:Hg (aa O) a (Rm (tw (aa O) a n))=some x):(W O).aE 36 [ag (jv a)]=some x:=by
 refine WG (fn:=Tryz.f36) (by kernel_rfl) (by kernel_rfl) (n:=n) ?_
 refine (aaX (aa O) a (H36 (aa O) n)).trans ?_
 obtain ⟨h0,h1⟩:=h36 (aa O) a n
 rw [h0]
 exact h
abbrev P37 (q:YF) (kk:PK S):PK S:=PG q 37 Tryz.f37 kk
abbrev H37 (q:YF):Nat→PK S:=HG q 37 Tryz.f37
def Kk (a:aP) (b:BA) (kk:PK S):Int→OS:=fun v0=> kk 2 0 0 (aJ [(4,S.ptr 0 0),(10,ii (ay a.ae.n)),(1,ss b),(9,S.t (T.rows 15 a.ae.n fun i=>dp (a.ae.get i))),(11,ii v0)] 1 [(0,B.box [ss (bs []),ss (bs []),ii 0,ss (bs []),ss (bs []),ss (bs []),ii 0,ii 0,ii 0,S.t (T.v (.slice none 0 0)),ii 0,ss (bs []),ii 0,ii 0,bb false])])
def KR (q:YF) (a:aP) (b:BA) (k0:Int→OS) (v0:Int):OS:=bif bm v0 (ay a.ae.n) then aU v0 a.ae.n fun h=>bif ah (a.ae.get (Fin.mk v0.toNat h)).af b then some (S.bJ [ag (dp (a.ae.get (Fin.mk v0.toNat h))),bb true]) else k0 (a7 .i64 v0 1) else some (S.bJ [S.agg [ss (bs []),ss (bs []),ii 0,ss (bs []),ss (bs []),ss (bs []),ii 0,ii 0,ii 0,S.t (T.rows 3 0 fT),ii 0,ss (bs []),ii 0,ii 0,bb false],bb false])
def T6 (q:YF) (a:aP) (b:BA) (k0:Int→OS):OS:=k0 0
structure X37 where
 x0:Int→OS
def I5 (X:X37):Int→OS:=fun v0=>X.x0 v0
def acs (q:YF) (a:aP) (b:BA) (X:X37):X37:=⟨fun v0=>KR q a b (I5 X) v0⟩
def uS (q:YF) (a:aP) (b:BA):Nat→X37
 | 0=>⟨fun _=>none⟩
 | n+1=>acs q a b (uS q a b n)
theorem ahm (q:YF) (a:aP) (b:BA) (kk:PK S):Kk a b (P37 q kk)=KR q a b (Kk a b kk):=by
 kernel_rfl
theorem aaU (q:YF) (a:aP) (b:BA) (kk:PK S):BG q kk 37 Tryz.f37 [ag (bI a),ss b]=T6 q a b (Kk a b kk):=by
 kernel_rfl
theorem h37 (q:YF) (a:aP) (b:BA):∀ n,Kk a b (H37 q n)=I5 (uS q a b n)
 | 0=>rfl
 | n+1=>by
  have h0:=h37 q a b n
  exact (ahm q a b (H37 q n)).trans (by rw [h0];kernel_rfl)
theorem W37 (a:aP) (b:BA) (n:Nat) (x:S) (h:T6 (aa O) a b (I5 (uS (aa O) a b n))=some x):(W O).aE 37 [ag (bI a),ss b]=some x:=by
 refine WG (fn:=Tryz.f37) (by kernel_rfl) (by kernel_rfl) (n:=n) ?_
 refine (aaU (aa O) a b (H37 (aa O) n)).trans ?_
 have h0:=h37 (aa O) a b n
 rw [h0]
 exact h
end
end Go.Proofs.YtonkoellfaopiaaGreatDoor.H
