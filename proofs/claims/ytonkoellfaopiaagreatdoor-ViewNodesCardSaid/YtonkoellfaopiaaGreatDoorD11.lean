import Derived.Test.YtonkoellfaopiaaGreatDoorD9
set_option linter.unusedSimpArgs false
set_option linter.unusedVariables false
set_option linter.unusedSectionVars false
namespace Go.Proofs.YtonkoellfaopiaaGreatDoor.H
open Go
noncomputable section
abbrev P11 (q:YF) (kk:PK S):PK S:=PG q 11 Tryz.f11 kk
abbrev LL (q:YF):Nat→PK S:=HG q 11 Tryz.f11
abbrev T11_0:Type:=Int→bN→Nat→OS
def Lb (a:aP) (kk:PK S):T11_0:=fun v0 v1 u2=> kk 6 0 0 (aJ [(20,ii v0),(18,S.t (T.rows 15 a.ae.n fun i=>dp (a.ae.get i))),(1,S.ptr 0 0),(5,S.sl 1 u2),(19,ii (ay a.ae.n))] 2 [(0,B.box (List.map S.t (bI a))),(1,B.row false 21 v1.n v1.g)])
abbrev T11_1:Type:=cQ→BA→BA→BA→Int→BA→BA→BA→Int→Int→Int→bN→Int→BA→Int→Int→Bool→bN→Int→bN→Nat→OS
def Sl (a:aP) (kk:PK S):T11_1:=fun v0 v1 v2 v3 v4 v5 v6 v7 v8 v9 v10 v11 v12 v13 v14 dn v16 v17 v18 v19 u20=> kk 11 0 0 (aJ [(8,S.ptr 3 0),(20,ii v18),(92,S.sl 0 0),(18,S.t (T.rows 15 a.ae.n fun i=>dp (a.ae.get i))),(1,S.ptr 0 0),(5,S.sl 1 u20),(93,S.t (T.rows 0 a.an.n fun i=>jv (a.an.get i))),(19,ii (ay a.ae.n)),(43,S.fn (Go.Fn.func 85) [] [S.ptr 4 0,S.ptr 5 0]),(7,S.ptr 2 0)] 7 [(0,B.box (List.map S.t (bI a))),(4,B.box (List.map S.t (bI a))),(2,B.box (List.map S.t (dp v0))),(6,B.row false 1 0 fT),(1,B.row false 21 v19.n v19.g),(5,B.box [ss v1]),(3,B.box [ss v2,ss v3,ii v4,ss v5,ss v6,ss v7,ii v8,ii v9,ii v10,S.top 3 v11.n v11.g,ii v12,ss v13,ii v14,ii dn,bb v16,S.top 2 v17.n v17.g,ii 0,ii 0,ii 0,ii 0,S.sl 6 0])])
abbrev T11_2:Type:=cQ→BA→BA→Int→BA→BA→BA→Int→Int→Int→bN→Int→BA→Int→Int→Bool→bN→bN→Int→Int→Int→bN→Nat→Nat→OS
def KD (a:aP) (kk:PK S):T11_2:=fun v0 v1 v2 v3 v4 v5 v6 v7 v8 v9 v10 v11 v12 v13 v14 dn v16 v17 v18 v19 v20 v21 u22 u23=> kk 19 0 0 (aJ [(8,S.ptr 3 0),(20,ii v20),(18,S.t (T.rows 15 a.ae.n fun i=>dp (a.ae.get i))),(1,S.ptr 0 0),(5,S.sl 1 u23),(69,ii 0),(19,ii (ay a.ae.n)),(7,S.ptr 2 0)] 5 [(0,B.box (List.map S.t (bI a))),(4,B.row false 1 v17.n v17.g),(2,B.box (List.map S.t (dp v0))),(1,B.row false 21 v21.n v21.g),(3,B.box [ss v1,ss v2,ii v3,ss v4,ss v5,ss v6,ii v7,ii v8,ii v9,S.top 3 v10.n v10.g,ii v11,ss v12,ii v13,ii v14,bb dn,S.top 2 v16.n v16.g,ii v18,ii v19,ii 0,ii 0,S.sl 4 u22])])
abbrev T11_3:Type:=cQ→BA→BA→BA→Int→BA→BA→BA→Int→Int→Int→bN→Int→BA→Int→Int→Bool→bN→bN→Int→Int→Nat→Int→bN→Nat→Nat→OS
def K_ (a:aP) (kk:PK S):T11_3:=fun v0 v1 v2 v3 v4 v5 v6 v7 v8 v9 v10 v11 v12 v13 v14 dn v16 v17 v18 v19 v20 v21 v22 v23 u24 u25=> kk 11 0 0 (aJ [(8,S.ptr 3 0),(20,ii v22),(92,S.sl 0 v21),(18,S.t (T.rows 15 a.ae.n fun i=>dp (a.ae.get i))),(1,S.ptr 0 0),(5,S.sl 1 u25),(93,S.t (T.rows 0 a.an.n fun i=>jv (a.an.get i))),(19,ii (ay a.ae.n)),(43,S.fn (Go.Fn.func 85) [] [S.ptr 5 0,S.ptr 6 0]),(7,S.ptr 2 0)] 7 [(0,B.box (List.map S.t (bI a))),(4,B.row false 1 v18.n v18.g),(2,B.box (List.map S.t (dp v0))),(6,B.box [ss v1]),(1,B.row false 21 v23.n v23.g),(5,B.box (List.map S.t (bI a))),(3,B.box [ss v2,ss v3,ii v4,ss v5,ss v6,ss v7,ii v8,ii v9,ii v10,S.top 3 v11.n v11.g,ii v12,ss v13,ii v14,ii dn,bb v16,S.top 2 v17.n v17.g,ii v19,ii v20,ii 0,ii 0,S.sl 4 u24])])
abbrev T11_4:Type:=cQ→BA→BA→Int→BA→BA→BA→Int→Int→Int→bN→Int→BA→Int→Int→Bool→bN→Int→bN→Int→Int→Int→bN→Nat→Nat→OS
def P2 (a:aP) (kk:PK S):T11_4:=fun v0 v1 v2 v3 v4 v5 v6 v7 v8 v9 v10 v11 v12 v13 v14 dn v16 v17 v18 v19 v20 v21 v22 u23 u24=> kk 19 0 0 (aJ [(8,S.ptr 3 0),(20,ii v21),(18,S.t (T.rows 15 a.ae.n fun i=>dp (a.ae.get i))),(1,S.ptr 0 0),(5,S.sl 1 u24),(69,ii 1),(19,ii (ay a.ae.n)),(7,S.ptr 2 0)] 5 [(0,B.box (List.map S.t (bI a))),(4,B.row false 1 v18.n v18.g),(2,B.box (List.map S.t (dp v0))),(1,B.row false 21 v22.n v22.g),(3,B.box [ss v1,ss v2,ii v3,ss v4,ss v5,ss v6,ii v7,ii v8,ii v9,S.top 3 v10.n v10.g,ii v11,ss v12,ii v13,ii v14,bb dn,S.top 2 v16.n v16.g,ii v19,ii v20,ii v17,ii 0,S.sl 4 u23])])
abbrev T11_5:Type:=bN→BA→BA→Int→BA→BA→BA→Int→Int→Int→bN→Int→BA→Int→Int→Bool→bN→Int→Int→Int→Int→Int→bN→cQ→Nat→Nat→OS
def Ob (a:aP) (kk:PK S):T11_5:=fun v0 v1 v2 v3 v4 v5 v6 v7 v8 v9 v10 v11 v12 v13 v14 dn v16 v17 v18 v19 v20 v21 v22 u23 u24 u25=> kk 19 0 0 (aJ [(8,S.ptr 3 0),(20,ii v21),(18,S.t (T.rows 15 a.ae.n fun i=>dp (a.ae.get i))),(1,S.ptr 0 0),(5,S.sl 1 u25),(69,ii 2),(19,ii (ay a.ae.n)),(7,S.ptr 2 0)] 5 [(0,B.box (List.map S.t (bI a))),(4,B.row false 1 v0.n v0.g),(2,B.box (List.map S.t (dp u23))),(1,B.row false 21 v22.n v22.g),(3,B.box [ss v1,ss v2,ii v3,ss v4,ss v5,ss v6,ii v7,ii v8,ii v9,S.top 3 v10.n v10.g,ii v11,ss v12,ii v13,ii v14,bb dn,S.top 2 v16.n v16.g,ii v17,ii v18,ii v19,ii v20,S.sl 4 u24])])
def Jw (q:YF) (a:aP) (k1:T11_1):T11_0:=fun v0 v1 u2=>bif bm v0 (ay a.ae.n) then aU v0 a.ae.n fun h=>yC q 39 [S.t (T.rows 7 a.aw.n fun i=>bk (a.aw.get i)),S.agg [ss (a.ae.get (Fin.mk v0.toNat h)).al,ss (a.ae.get (Fin.mk v0.toNat h)).aj,ss (a.ae.get (Fin.mk v0.toNat h)).ak],ss (a.ae.get (Fin.mk v0.toNat h)).bc,ss (a.ae.get (Fin.mk v0.toNat h)).af] fun y=>yC q 40 [S.t (T.rows 3 (a.ae.get (Fin.mk v0.toNat h)).bh.n fun i=>bS ((a.ae.get (Fin.mk v0.toNat h)).bh.get i))] fun y_1=>bif bY a.an.n 1 then k1 (a.ae.get (Fin.mk v0.toNat h)) (a.ae.get (Fin.mk v0.toNat h)).af (a.ae.get (Fin.mk v0.toNat h)).af (a.ae.get (Fin.mk v0.toNat h)).bc (a.ae.get (Fin.mk v0.toNat h)).dB (a.ae.get (Fin.mk v0.toNat h)).al (a.ae.get (Fin.mk v0.toNat h)).aj (a.ae.get (Fin.mk v0.toNat h)).ak (a.ae.get (Fin.mk v0.toNat h)).bG (a.ae.get (Fin.mk v0.toNat h)).a6 (a.ae.get (Fin.mk v0.toNat h)).a8 (y_1.r 0) (a.ae.get (Fin.mk v0.toNat h)).dQ (a.ae.get (Fin.mk v0.toNat h)).eG (a.ae.get (Fin.mk v0.toNat h)).bM (a.ae.get (Fin.mk v0.toNat h)).dD (a.ae.get (Fin.mk v0.toNat h)).dE (y.r 0) v0 v1 u2 else none else some (S.bJ [S.top 21 v1.n v1.g,ii 0])
def Kl (q:YF) (a:aP) (k2:T11_2) (k3:T11_3):T11_1:=fun v0 v1 v2 v3 v4 v5 v6 v7 v8 v9 v10 v11 v12 v13 v14 dn v16 v17 v18 v19 u20=>bif bm (ay 0) (ay a.an.n) then aU (ay 0) a.an.n fun h=>bif ah (a.an.get (Fin.mk (ay 0).toNat h)).jI v1 then bif bY 1 16 then k3 v0 v1 v2 v3 v4 v5 v6 v7 v8 v9 v10 v11 v12 v13 v14 dn v16 v17 (bN.mk (bC 0 1) (bo fT fun i=>List.take 1 (List.drop (↑i*1) [ts (a.an.get (Fin.mk (ay 0).toNat h)).af]))) (Bool.rec ((fun _=>1125899906842624) ()) ((fun _=>a7 .i64 0 (a.an.get (Fin.mk (ay 0).toNat h)).dj) ()) (decide (a7 .i64 0 (a.an.get (Fin.mk (ay 0).toNat h)).dj < 1125899906842624))) (Bool.rec ((fun _=>1125899906842624) ()) ((fun _=>a7 .i64 0 (a.an.get (Fin.mk (ay 0).toNat h)).dk) ()) (decide (a7 .i64 0 (a.an.get (Fin.mk (ay 0).toNat h)).dk < 1125899906842624))) 1 v18 v19 1 u20 else none else k3 v0 v1 v2 v3 v4 v5 v6 v7 v8 v9 v10 v11 v12 v13 v14 dn v16 v17 (bN.mk 0 fT) 0 0 1 v18 v19 0 u20 else k2 v0 v2 v3 v4 v5 v6 v7 v8 v9 v10 v11 v12 v13 v14 dn v16 v17 (bN.mk 0 fT) 0 0 v18 v19 0 u20
def Re (q:YF) (a:aP) (k4:T11_4):T11_2:=fun v0 v1 v2 v3 v4 v5 v6 v7 v8 v9 v10 v11 v12 v13 v14 dn v16 v17 v18 v19 v20 v21 u22 u23=>k4 v0 v1 v2 v3 v4 v5 v6 v7 v8 v9 v10 v11 v12 v13 v14 dn v16 (Bool.rec ((fun _=>0) ()) ((fun _=>bF .i64 v0.a6 v18) ()) (decide (bF .i64 v0.a6 v18 > 0))) v17 v18 v19 v20 v21 u22 u23
def IM (q:YF) (a:aP) (k2:T11_2) (k3:T11_3):T11_3:=fun v0 v1 v2 v3 v4 v5 v6 v7 v8 v9 v10 v11 v12 v13 v14 dn v16 v17 v18 v19 v20 v21 v22 v23 u24 u25=>bif bm (ay v21) (ay a.an.n) then aU (ay v21) a.an.n fun h=>bif ah (a.an.get (Fin.mk (ay v21).toNat h)).jI v1 then bif bY (bC v18.n 1) 16 then k3 v0 v1 v2 v3 v4 v5 v6 v7 v8 v9 v10 v11 v12 v13 v14 dn v16 v17 (bN.mk (bC v18.n 1) (bo v18.g fun i=>List.take 1 (List.drop (↑i*1) [ts (a.an.get (Fin.mk (ay v21).toNat h)).af]))) (Bool.rec ((fun _=>1125899906842624) ()) ((fun _=>a7 .i64 v19 (a.an.get (Fin.mk (ay v21).toNat h)).dj) ()) (decide (a7 .i64 v19 (a.an.get (Fin.mk (ay v21).toNat h)).dj < 1125899906842624))) (Bool.rec ((fun _=>1125899906842624) ()) ((fun _=>a7 .i64 v20 (a.an.get (Fin.mk (ay v21).toNat h)).dk) ()) (decide (a7 .i64 v20 (a.an.get (Fin.mk (ay v21).toNat h)).dk < 1125899906842624))) (bC v21 1) v22 v23 (bC v18.n 1) u25 else none else k3 v0 v1 v2 v3 v4 v5 v6 v7 v8 v9 v10 v11 v12 v13 v14 dn v16 v17 v18 v19 v20 (bC v21 1) v22 v23 u24 u25 else k2 v0 v2 v3 v4 v5 v6 v7 v8 v9 v10 v11 v12 v13 v14 dn v16 v17 v18 v19 v20 v22 v23 u24 u25
def Tp (q:YF) (a:aP) (k5:T11_5):T11_4:=fun v0 v1 v2 v3 v4 v5 v6 v7 v8 v9 v10 v11 v12 v13 v14 dn v16 v17 v18 v19 v20 v21 v22 u23 u24=>k5 v18 v1 v2 v3 v4 v5 v6 v7 v8 v9 v10 v11 v12 v13 v14 dn v16 v19 v20 v17 (Bool.rec ((fun _=>0) ()) ((fun _=>bF .i64 v0.a8 v20) ()) (decide (bF .i64 v0.a8 v20 > 0))) v21 v22 v0 u23 u24
def Nr (q:YF) (a:aP) (k0:T11_0):T11_5:=fun v0 v1 v2 v3 v4 v5 v6 v7 v8 v9 v10 v11 v12 v13 v14 dn v16 v17 v18 v19 v20 v21 v22 u23 u24 u25=>bif bY (bC v22.n 1) 264 then k0 (a7 .i64 v21 1) (bN.mk (bC v22.n 1) (bo v22.g fun i=>List.take 21 (List.drop (↑i*21) [ts v1,ts v2,ti v3,ts v4,ts v5,ts v6,ti v7,ti v8,ti v9,T.fr 3 v10.n v10.g,ti v11,ts v12,ti v13,ti v14,tb dn,T.fr 2 v16.n v16.g,ti v17,ti v18,ti v19,ti v20,T.fr 1 v0.n v0.g]))) (bC v22.n 1) else none
def By (q:YF) (a:aP) (k0:T11_0):OS:=yC q 9 [ag (bI a)] fun y=>bif !aR (y.i 0) 0 then some (S.bJ [S.top 21 0 fT,ii (y.i 0)]) else k0 0 (bN.mk 0 fT) 0
structure X11 where
 x0:Int→bN→OS
 x1:cQ→BA→BA→BA→Int→BA→BA→BA→Int→Int→Int→bN→Int→BA→Int→Int→Bool→bN→Int→bN→OS
 x2:cQ→BA→BA→Int→BA→BA→BA→Int→Int→Int→bN→Int→BA→Int→Int→Bool→bN→bN→Int→Int→Int→bN→OS
 x3:cQ→BA→BA→BA→Int→BA→BA→BA→Int→Int→Int→bN→Int→BA→Int→Int→Bool→bN→bN→Int→Int→Nat→Int→bN→OS
 x4:cQ→BA→BA→Int→BA→BA→BA→Int→Int→Int→bN→Int→BA→Int→Int→Bool→bN→Int→bN→Int→Int→Int→bN→OS
 x5:bN→BA→BA→Int→BA→BA→BA→Int→Int→Int→bN→Int→BA→Int→Int→Bool→bN→Int→Int→Int→Int→Int→bN→OS
def Cs (X:X11):T11_0:=fun v0 v1 _=>X.x0 v0 v1
def On (X:X11):T11_1:=fun v0 v1 v2 v3 v4 v5 v6 v7 v8 v9 v10 v11 v12 v13 v14 dn v16 v17 v18 v19 _=>X.x1 v0 v1 v2 v3 v4 v5 v6 v7 v8 v9 v10 v11 v12 v13 v14 dn v16 v17 v18 v19
def B3 (X:X11):T11_2:=fun v0 v1 v2 v3 v4 v5 v6 v7 v8 v9 v10 v11 v12 v13 v14 dn v16 v17 v18 v19 v20 v21 _ _=>X.x2 v0 v1 v2 v3 v4 v5 v6 v7 v8 v9 v10 v11 v12 v13 v14 dn v16 v17 v18 v19 v20 v21
def BU (X:X11):T11_3:=fun v0 v1 v2 v3 v4 v5 v6 v7 v8 v9 v10 v11 v12 v13 v14 dn v16 v17 v18 v19 v20 v21 v22 v23 _ _=>X.x3 v0 v1 v2 v3 v4 v5 v6 v7 v8 v9 v10 v11 v12 v13 v14 dn v16 v17 v18 v19 v20 v21 v22 v23
def N0 (X:X11):T11_4:=fun v0 v1 v2 v3 v4 v5 v6 v7 v8 v9 v10 v11 v12 v13 v14 dn v16 v17 v18 v19 v20 v21 v22 _ _=>X.x4 v0 v1 v2 v3 v4 v5 v6 v7 v8 v9 v10 v11 v12 v13 v14 dn v16 v17 v18 v19 v20 v21 v22
def PC (X:X11):T11_5:=fun v0 v1 v2 v3 v4 v5 v6 v7 v8 v9 v10 v11 v12 v13 v14 dn v16 v17 v18 v19 v20 v21 v22 _ _ _=>X.x5 v0 v1 v2 v3 v4 v5 v6 v7 v8 v9 v10 v11 v12 v13 v14 dn v16 v17 v18 v19 v20 v21 v22
def vP (q:YF) (a:aP) (X:X11):X11:=⟨fun v0 v1=>Jw q a (On X) v0 v1 dd,
 fun v0 v1 v2 v3 v4 v5 v6 v7 v8 v9 v10 v11 v12 v13 v14 dn v16 v17 v18 v19=>Kl q a (B3 X) (BU X) v0 v1 v2 v3 v4 v5 v6 v7 v8 v9 v10 v11 v12 v13 v14 dn v16 v17 v18 v19 dd,
 fun v0 v1 v2 v3 v4 v5 v6 v7 v8 v9 v10 v11 v12 v13 v14 dn v16 v17 v18 v19 v20 v21=>Re q a (N0 X) v0 v1 v2 v3 v4 v5 v6 v7 v8 v9 v10 v11 v12 v13 v14 dn v16 v17 v18 v19 v20 v21 dd dd,
 fun v0 v1 v2 v3 v4 v5 v6 v7 v8 v9 v10 v11 v12 v13 v14 dn v16 v17 v18 v19 v20 v21 v22 v23=>IM q a (B3 X) (BU X) v0 v1 v2 v3 v4 v5 v6 v7 v8 v9 v10 v11 v12 v13 v14 dn v16 v17 v18 v19 v20 v21 v22 v23 dd dd,
 fun v0 v1 v2 v3 v4 v5 v6 v7 v8 v9 v10 v11 v12 v13 v14 dn v16 v17 v18 v19 v20 v21 v22=>Tp q a (PC X) v0 v1 v2 v3 v4 v5 v6 v7 v8 v9 v10 v11 v12 v13 v14 dn v16 v17 v18 v19 v20 v21 v22 dd dd,
 fun v0 v1 v2 v3 v4 v5 v6 v7 v8 v9 v10 v11 v12 v13 v14 dn v16 v17 v18 v19 v20 v21 v22=>Nr q a (Cs X) v0 v1 v2 v3 v4 v5 v6 v7 v8 v9 v10 v11 v12 v13 v14 dn v16 v17 v18 v19 v20 v21 v22 dd dd dd⟩
def fy (q:YF) (a:aP):Nat→X11
 | 0=>⟨fun _ _=>none,fun _ _ _ _ _ _ _ _ _ _ _ _ _ _ _ _ _ _ _ _=>none,fun _ _ _ _ _ _ _ _ _ _ _ _ _ _ _ _ _ _ _ _ _ _=>none,fun _ _ _ _ _ _ _ _ _ _ _ _ _ _ _ _ _ _ _ _ _ _ _ _=>none,fun _ _ _ _ _ _ _ _ _ _ _ _ _ _ _ _ _ _ _ _ _ _ _=>none,fun _ _ _ _ _ _ _ _ _ _ _ _ _ _ _ _ _ _ _ _ _ _ _=>none⟩
 | n+1=>vP q a (fy q a n)
theorem aev (q:YF) (a:aP) (kk:PK S):Lb a (P11 q kk)=Jw q a (Sl a kk):=by
 kernel_rfl
theorem adj (q:YF) (a:aP) (kk:PK S):Sl a (P11 q kk)=Kl q a (KD a kk) (K_ a kk):=by
 kernel_rfl
theorem aeQ (q:YF) (a:aP) (kk:PK S):KD a (P11 q kk)=Re q a (P2 a kk):=by
 kernel_rfl
theorem agS (q:YF) (a:aP) (kk:PK S):K_ a (P11 q kk)=IM q a (KD a kk) (K_ a kk):=by
 kernel_rfl
theorem ahK (q:YF) (a:aP) (kk:PK S):P2 a (P11 q kk)=Tp q a (Ob a kk):=by
 kernel_rfl
theorem afS (q:YF) (a:aP) (kk:PK S):Ob a (P11 q kk)=Nr q a (Lb a kk):=by
 kernel_rfl
theorem Y6 (q:YF) (a:aP) (kk:PK S):BG q kk 11 Tryz.f11 [ag (bI a)]=By q a (Lb a kk):=by
 kernel_rfl
theorem h11 (q:YF) (a:aP):∀ n,Lb a (LL q n)=Cs (fy q a n)∧Sl a (LL q n)=On (fy q a n)∧KD a (LL q n)=B3 (fy q a n)∧K_ a (LL q n)=BU (fy q a n)∧P2 a (LL q n)=N0 (fy q a n)∧Ob a (LL q n)=PC (fy q a n)
 | 0=>⟨rfl,rfl,rfl,rfl,rfl,rfl⟩
 | n+1=>by
  obtain ⟨h0,h1,h2,h3,h4,h5⟩:=h11 q a n
  exact ⟨(aev q a (LL q n)).trans (by rw [h1];kernel_rfl),(adj q a (LL q n)).trans (by rw [h2,h3];kernel_rfl),(aeQ q a (LL q n)).trans (by rw [h4];kernel_rfl),(agS q a (LL q n)).trans (by rw [h2,h3];kernel_rfl),(ahK q a (LL q n)).trans (by rw [h5];kernel_rfl),(afS q a (LL q n)).trans (by rw [h0];kernel_rfl)⟩
theorem W11 (a:aP) (n:Nat) (x:S) (h:By (aa O) a (Cs (fy (aa O) a n))=some x):(W O).aE 11 [ag (bI a)]=some x:=by
 refine WG (fn:=Tryz.f11) (by kernel_rfl) (by kernel_rfl) (n:=n) ?_
 refine (Y6 (aa O) a (LL (aa O) n)).trans ?_
 obtain ⟨h0,h1,h2,h3,h4,h5⟩:=h11 (aa O) a n
 rw [h0]
 exact h
abbrev P12 (q:YF) (kk:PK S):PK S:=PG q 12 Tryz.f12 kk
abbrev CG (q:YF):Nat→PK S:=HG q 12 Tryz.f12
def Iy (a:aP) (kk:PK S):T11_0:=fun v0 v1 u2=> kk 6 0 0 (aJ [(20,ii (ay a.ae.n)),(1,S.ptr 0 0),(5,S.sl 1 u2),(21,ii v0),(19,S.t (T.rows 15 a.ae.n fun i=>dp (a.ae.get i)))] 2 [(0,B.box (List.map S.t (bI a))),(1,B.row false 21 v1.n v1.g)])
abbrev T12_1:Type:=cQ→BA→BA→Int→BA→BA→BA→Int→Int→Int→(Rw bu)→Int→BA→Int→Int→Bool→bN→Int→bN→Int→Int→Int→bN→Nat→Nat→OS
def B7 (a:aP) (kk:PK S):T12_1:=fun v0 v1 v2 v3 v4 v5 v6 v7 v8 v9 v10 v11 v12 v13 v14 dn v16 v17 v18 v19 v20 v21 v22 u23 u24=> kk 10 0 0 (aJ [(8,S.ptr 3 0),(20,ii (ay a.ae.n)),(38,ii (ay a.an.n)),(1,S.ptr 0 0),(5,S.sl 1 u24),(37,S.t (T.rows 12 a.an.n fun i=>jv (a.an.get i))),(21,ii v21),(19,S.t (T.rows 15 a.ae.n fun i=>dp (a.ae.get i))),(7,S.ptr 2 0),(39,ii v17)] 5 [(0,B.box (List.map S.t (bI a))),(4,B.row false 1 v18.n v18.g),(2,B.box (List.map S.t (dp v0))),(1,B.row false 21 v22.n v22.g),(3,B.box [ss v1,ss v2,ii v3,ss v4,ss v5,ss v6,ii v7,ii v8,ii v9,S.t (T.rows 3 v10.n fun i=>bS (v10.get i)),ii v11,ss v12,ii v13,ii v14,bb dn,S.t (T.rows 2 v16.n v16.g),ii v19,ii v20,ii 0,ii 0,S.sl 4 u23])])
abbrev T12_2:Type:=cQ→BA→BA→Int→BA→BA→BA→Int→Int→Int→(Rw bu)→Int→BA→Int→Int→Bool→bN→Int→bN→bN→Int→Int→Nat→Nat→OS
def ON (a:aP) (kk:PK S):T12_2:=fun v0 v1 v2 v3 v4 v5 v6 v7 v8 v9 v10 v11 v12 v13 v14 dn v16 v17 v18 v19 v20 v21 u22 u23=> kk 21 0 0 (aJ [(8,S.ptr 3 0),(20,ii (ay a.ae.n)),(1,S.ptr 0 0),(73,ii 0),(5,S.sl 1 u22),(21,ii v17),(19,S.t (T.rows 15 a.ae.n fun i=>dp (a.ae.get i))),(7,S.ptr 2 0)] 5 [(0,B.box (List.map S.t (bI a))),(4,B.row false 1 v18.n v18.g),(2,B.box (List.map S.t (dp v0))),(1,B.row false 21 v19.n v19.g),(3,B.box [ss v1,ss v2,ii v3,ss v4,ss v5,ss v6,ii v7,ii v8,ii v9,S.t (T.rows 3 v10.n fun i=>bS (v10.get i)),ii v11,ss v12,ii v13,ii v14,bb dn,S.t (T.rows 2 v16.n v16.g),ii v20,ii v21,ii 0,ii 0,S.sl 4 u23])])
abbrev T12_3:Type:=bN→cQ→fB→BA→BA→Int→BA→BA→BA→Int→Int→Int→(Rw bu)→Int→BA→Int→Int→Bool→bN→Int→Int→bN→Int→Int→Nat→Nat→OS
def Q_ (a:aP) (kk:PK S):T12_3:=fun v0 v1 v2 v3 v4 v5 v6 v7 v8 v9 v10 v11 v12 v13 v14 dn v16 v17 v18 v19 v20 v21 v22 v23 u24 u25=> kk 15 0 0 (aJ [(8,S.ptr 3 0),(20,ii (ay a.ae.n)),(10,S.ptr 5 0),(38,ii (ay a.an.n)),(1,S.ptr 0 0),(5,S.sl 1 u24),(37,S.t (T.rows 12 a.an.n fun i=>jv (a.an.get i))),(21,ii v20),(19,S.t (T.rows 15 a.ae.n fun i=>dp (a.ae.get i))),(7,S.ptr 2 0),(39,ii v19),(55,ii 0)] 6 [(0,B.box (List.map S.t (bI a))),(4,B.row false 1 v0.n v0.g),(2,B.box (List.map S.t (dp v1))),(1,B.row false 21 v21.n v21.g),(5,B.box (List.map S.t (jv v2))),(3,B.box [ss v3,ss v4,ii v5,ss v6,ss v7,ss v8,ii v9,ii v10,ii v11,S.t (T.rows 3 v12.n fun i=>bS (v12.get i)),ii v13,ss v14,ii dn,ii v16,bb v17,S.t (T.rows 2 v18.n v18.g),ii v22,ii v23,ii 0,ii 0,S.sl 4 u25])])
abbrev T12_4:Type:=cQ→BA→BA→Int→BA→BA→BA→Int→Int→Int→(Rw bu)→Int→BA→Int→Int→Bool→bN→Int→Int→bN→bN→Int→Int→Nat→Nat→OS
def QZ (a:aP) (kk:PK S):T12_4:=fun v0 v1 v2 v3 v4 v5 v6 v7 v8 v9 v10 v11 v12 v13 v14 dn v16 v17 v18 v19 v20 v21 v22 u23 u24=> kk 21 0 0 (aJ [(8,S.ptr 3 0),(20,ii (ay a.ae.n)),(1,S.ptr 0 0),(73,ii 1),(5,S.sl 1 u23),(21,ii v18),(19,S.t (T.rows 15 a.ae.n fun i=>dp (a.ae.get i))),(7,S.ptr 2 0)] 5 [(0,B.box (List.map S.t (bI a))),(4,B.row false 1 v19.n v19.g),(2,B.box (List.map S.t (dp v0))),(1,B.row false 21 v20.n v20.g),(3,B.box [ss v1,ss v2,ii v3,ss v4,ss v5,ss v6,ii v7,ii v8,ii v9,S.t (T.rows 3 v10.n fun i=>bS (v10.get i)),ii v11,ss v12,ii v13,ii v14,bb dn,S.t (T.rows 2 v16.n v16.g),ii v21,ii v22,ii v17,ii 0,S.sl 4 u24])])
abbrev T12_5:Type:=Int→bN→cQ→fB→BA→BA→Int→BA→BA→BA→Int→Int→Int→(Rw bu)→Int→BA→Int→Int→Bool→bN→Int→Int→bN→Int→Nat→Nat→OS
def TX (a:aP) (kk:PK S):T12_5:=fun v0 v1 v2 v3 v4 v5 v6 v7 v8 v9 v10 v11 v12 v13 v14 dn v16 v17 v18 v19 v20 v21 v22 v23 u24 u25=> kk 15 0 0 (aJ [(8,S.ptr 3 0),(20,ii (ay a.ae.n)),(10,S.ptr 5 0),(38,ii (ay a.an.n)),(1,S.ptr 0 0),(5,S.sl 1 u24),(37,S.t (T.rows 12 a.an.n fun i=>jv (a.an.get i))),(21,ii v21),(19,S.t (T.rows 15 a.ae.n fun i=>dp (a.ae.get i))),(7,S.ptr 2 0),(39,ii v0),(55,ii 1)] 6 [(0,B.box (List.map S.t (bI a))),(4,B.row false 1 v1.n v1.g),(2,B.box (List.map S.t (dp v2))),(1,B.row false 21 v22.n v22.g),(5,B.box (List.map S.t (jv v3))),(3,B.box [ss v4,ss v5,ii v6,ss v7,ss v8,ss v9,ii v10,ii v11,ii v12,S.t (T.rows 3 v13.n fun i=>bS (v13.get i)),ii v14,ss dn,ii v16,ii v17,bb v18,S.t (T.rows 2 v19.n v19.g),ii v20,ii v23,ii 0,ii 0,S.sl 4 u25])])
abbrev T12_6:Type:=BA→BA→Int→BA→BA→BA→Int→Int→Int→(Rw bu)→Int→BA→Int→Int→Bool→bN→Int→Int→Int→bN→bN→Int→Int→cQ→Nat→Nat→OS
def Ri (a:aP) (kk:PK S):T12_6:=fun v0 v1 v2 v3 v4 v5 v6 v7 v8 v9 v10 v11 v12 v13 v14 dn v16 v17 v18 v19 v20 v21 v22 u23 u24 u25=> kk 21 0 0 (aJ [(8,S.ptr 3 0),(20,ii (ay a.ae.n)),(1,S.ptr 0 0),(73,ii 2),(5,S.sl 1 u24),(21,ii v18),(19,S.t (T.rows 15 a.ae.n fun i=>dp (a.ae.get i))),(7,S.ptr 2 0)] 5 [(0,B.box (List.map S.t (bI a))),(4,B.row false 1 v19.n v19.g),(2,B.box (List.map S.t (dp u23))),(1,B.row false 21 v20.n v20.g),(3,B.box [ss v0,ss v1,ii v2,ss v3,ss v4,ss v5,ii v6,ii v7,ii v8,S.t (T.rows 3 v9.n fun i=>bS (v9.get i)),ii v10,ss v11,ii v12,ii v13,bb v14,S.t (T.rows 2 dn.n dn.g),ii v21,ii v22,ii v16,ii v17,S.sl 4 u25])])
abbrev T12_7:Type:=Int→bN→cQ→BA→BA→Int→BA→BA→BA→Int→Int→Int→(Rw bu)→Int→BA→Int→Int→Bool→bN→Int→Int→Int→bN→fB→Nat→Nat→OS
def Rv (a:aP) (kk:PK S):T12_7:=fun v0 v1 v2 v3 v4 v5 v6 v7 v8 v9 v10 v11 v12 v13 v14 dn v16 v17 v18 v19 v20 v21 v22 u23 u24 u25=> kk 15 0 0 (aJ [(8,S.ptr 3 0),(20,ii (ay a.ae.n)),(10,S.ptr 5 0),(38,ii (ay a.an.n)),(1,S.ptr 0 0),(5,S.sl 1 u24),(37,S.t (T.rows 12 a.an.n fun i=>jv (a.an.get i))),(21,ii v21),(19,S.t (T.rows 15 a.ae.n fun i=>dp (a.ae.get i))),(7,S.ptr 2 0),(39,ii v0),(55,ii 2)] 6 [(0,B.box (List.map S.t (bI a))),(4,B.row false 1 v1.n v1.g),(2,B.box (List.map S.t (dp v2))),(1,B.row false 21 v22.n v22.g),(5,B.box (List.map S.t (jv u23))),(3,B.box [ss v3,ss v4,ii v5,ss v6,ss v7,ss v8,ii v9,ii v10,ii v11,S.t (T.rows 3 v12.n fun i=>bS (v12.get i)),ii v13,ss v14,ii dn,ii v16,bb v17,S.t (T.rows 2 v18.n v18.g),ii v19,ii v20,ii 0,ii 0,S.sl 4 u25])])
def Jc (q:YF) (a:aP) (k1:T12_1) (v0:Int) (v1:bN) (u2:Nat):OS:=bif bm v0 (ay a.ae.n) then aU v0 a.ae.n fun h=>yC q 42 [S.t (T.rows 7 a.aw.n fun i=>bk (a.aw.get i)),S.agg [ss (a.ae.get (Fin.mk v0.toNat h)).al,ss (a.ae.get (Fin.mk v0.toNat h)).aj,ss (a.ae.get (Fin.mk v0.toNat h)).ak],ss (a.ae.get (Fin.mk v0.toNat h)).bc,ss (a.ae.get (Fin.mk v0.toNat h)).af] fun y=>k1 (a.ae.get (Fin.mk v0.toNat h)) (a.ae.get (Fin.mk v0.toNat h)).af (a.ae.get (Fin.mk v0.toNat h)).bc (a.ae.get (Fin.mk v0.toNat h)).dB (a.ae.get (Fin.mk v0.toNat h)).al (a.ae.get (Fin.mk v0.toNat h)).aj (a.ae.get (Fin.mk v0.toNat h)).ak (a.ae.get (Fin.mk v0.toNat h)).bG (a.ae.get (Fin.mk v0.toNat h)).a6 (a.ae.get (Fin.mk v0.toNat h)).a8 (a.ae.get (Fin.mk v0.toNat h)).bh (a.ae.get (Fin.mk v0.toNat h)).dQ (a.ae.get (Fin.mk v0.toNat h)).eG (a.ae.get (Fin.mk v0.toNat h)).bM (a.ae.get (Fin.mk v0.toNat h)).dD (a.ae.get (Fin.mk v0.toNat h)).dE (y.r 0) 0 (bN.mk 0 fT) 0 0 v0 v1 0 u2 else some (S.bJ [S.t (T.rows 21 v1.n v1.g),ii 0])
def Da (q:YF) (a:aP) (k1:T12_1) (k2:T12_2) (k3:T12_3):T12_1:=fun v0 v1 v2 v3 v4 v5 v6 v7 v8 v9 v10 v11 v12 v13 v14 dn v16 v17 v18 v19 v20 v21 v22 u23 u24=>bif bm v17 (ay a.an.n) then aU v17 a.an.n fun h=>bif ah (a.an.get (Fin.mk v17.toNat h)).jI v0.af then bif bY (bC v18.n 1) 16 then k3 (bN.mk (bC v18.n 1) (bo v18.g fun i=>List.take 1 (List.drop (↑i*1) [ts (a.an.get (Fin.mk v17.toNat h)).af]))) v0 (a.an.get (Fin.mk v17.toNat h)) v1 v2 v3 v4 v5 v6 v7 v8 v9 v10 v11 v12 v13 v14 dn v16 v17 v21 v22 v19 v20 u24 (bC v18.n 1) else none else k1 v0 v1 v2 v3 v4 v5 v6 v7 v8 v9 v10 v11 v12 v13 v14 dn v16 (a7 .i64 v17 1) v18 v19 v20 v21 v22 u23 u24 else k2 v0 v1 v2 v3 v4 v5 v6 v7 v8 v9 v10 v11 v12 v13 v14 dn v16 v21 v18 v22 v19 v20 u24 u23
def Ui (q:YF) (a:aP) (k4:T12_4):T12_2:=fun v0 v1 v2 v3 v4 v5 v6 v7 v8 v9 v10 v11 v12 v13 v14 dn v16 v17 v18 v19 v20 v21 u22 u23=>k4 v0 v1 v2 v3 v4 v5 v6 v7 v8 v9 v10 v11 v12 v13 v14 dn v16 (Bool.rec ((fun _=>0) ()) ((fun _=>bF .i64 v0.a6 v20) ()) (decide (bF .i64 v0.a6 v20 > 0))) v17 v18 v19 v20 v21 u22 u23
def Sj (q:YF) (a:aP) (k5:T12_5):T12_3:=fun v0 v1 v2 v3 v4 v5 v6 v7 v8 v9 v10 v11 v12 v13 v14 dn v16 v17 v18 v19 v20 v21 v22 v23 u24 u25=>k5 v19 v0 v1 v2 v3 v4 v5 v6 v7 v8 v9 v10 v11 v12 v13 v14 dn v16 v17 v18 (Bool.rec ((fun _=>1125899906842624) ()) ((fun _=>a7 .i64 v22 v2.dj) ()) (decide (a7 .i64 v22 v2.dj < 1125899906842624))) v20 v21 v23 u24 u25
def QP (q:YF) (a:aP) (k6:T12_6):T12_4:=fun v0 v1 v2 v3 v4 v5 v6 v7 v8 v9 v10 v11 v12 v13 v14 dn v16 v17 v18 v19 v20 v21 v22 u23 u24=>k6 v1 v2 v3 v4 v5 v6 v7 v8 v9 v10 v11 v12 v13 v14 dn v16 v17 (Bool.rec ((fun _=>0) ()) ((fun _=>bF .i64 v0.a8 v22) ()) (decide (bF .i64 v0.a8 v22 > 0))) v18 v19 v20 v21 v22 v0 u23 u24
def Sg (q:YF) (a:aP) (k7:T12_7):T12_5:=fun v0 v1 v2 v3 v4 v5 v6 v7 v8 v9 v10 v11 v12 v13 v14 dn v16 v17 v18 v19 v20 v21 v22 v23 u24 u25=>k7 v0 v1 v2 v4 v5 v6 v7 v8 v9 v10 v11 v12 v13 v14 dn v16 v17 v18 v19 v20 (Bool.rec ((fun _=>1125899906842624) ()) ((fun _=>a7 .i64 v23 v3.dk) ()) (decide (a7 .i64 v23 v3.dk < 1125899906842624))) v21 v22 v3 u24 u25
def Tf (q:YF) (a:aP) (k0:T11_0):T12_6:=fun v0 v1 v2 v3 v4 v5 v6 v7 v8 v9 v10 v11 v12 v13 v14 dn v16 v17 v18 v19 v20 v21 v22 u23 u24 u25=>bif bY (bC v20.n 1) 264 then k0 (a7 .i64 v18 1) (bN.mk (bC v20.n 1) (bo v20.g fun i=>List.take 21 (List.drop (↑i*21) [ts v0,ts v1,ti v2,ts v3,ts v4,ts v5,ti v6,ti v7,ti v8,T.rows 3 v9.n fun i=>bS (v9.get i),ti v10,ts v11,ti v12,ti v13,tb v14,T.rows 2 dn.n dn.g,ti v21,ti v22,ti v16,ti v17,T.fr 1 v19.n v19.g]))) (bC v20.n 1) else none
def RL (q:YF) (a:aP) (k1:T12_1):T12_7:=fun v0 v1 v2 v3 v4 v5 v6 v7 v8 v9 v10 v11 v12 v13 v14 dn v16 v17 v18 v19 v20 v21 v22 u23 u24 u25=>k1 v2 v3 v4 v5 v6 v7 v8 v9 v10 v11 v12 v13 v14 dn v16 v17 v18 (a7 .i64 v0 1) v1 v19 v20 v21 v22 u25 u24
def yV (q:YF) (a:aP) (k0:T11_0):OS:=yC q 10 [ag (bI a)] fun y=>bif !aR (y.i 0) 0 then some (S.bJ [S.t (T.rows 21 0 fT),ii (y.i 0)]) else k0 0 (bN.mk 0 fT) 0
structure X12 where
 x0:Int→bN→OS
 x1:cQ→BA→BA→Int→BA→BA→BA→Int→Int→Int→(Rw bu)→Int→BA→Int→Int→Bool→bN→Int→bN→Int→Int→Int→bN→OS
 x2:cQ→BA→BA→Int→BA→BA→BA→Int→Int→Int→(Rw bu)→Int→BA→Int→Int→Bool→bN→Int→bN→bN→Int→Int→OS
 x3:bN→cQ→fB→BA→BA→Int→BA→BA→BA→Int→Int→Int→(Rw bu)→Int→BA→Int→Int→Bool→bN→Int→Int→bN→Int→Int→OS
 x4:cQ→BA→BA→Int→BA→BA→BA→Int→Int→Int→(Rw bu)→Int→BA→Int→Int→Bool→bN→Int→Int→bN→bN→Int→Int→OS
 x5:Int→bN→cQ→fB→BA→BA→Int→BA→BA→BA→Int→Int→Int→(Rw bu)→Int→BA→Int→Int→Bool→bN→Int→Int→bN→Int→OS
 x6:BA→BA→Int→BA→BA→BA→Int→Int→Int→(Rw bu)→Int→BA→Int→Int→Bool→bN→Int→Int→Int→bN→bN→Int→Int→OS
 x7:Int→bN→cQ→BA→BA→Int→BA→BA→BA→Int→Int→Int→(Rw bu)→Int→BA→Int→Int→Bool→bN→Int→Int→Int→bN→OS
def CO (X:X12):T11_0:=fun v0 v1 _=>X.x0 v0 v1
def uv (X:X12):T12_1:=fun v0 v1 v2 v3 v4 v5 v6 v7 v8 v9 v10 v11 v12 v13 v14 dn v16 v17 v18 v19 v20 v21 v22 _ _=>X.x1 v0 v1 v2 v3 v4 v5 v6 v7 v8 v9 v10 v11 v12 v13 v14 dn v16 v17 v18 v19 v20 v21 v22
def Ra (X:X12):T12_2:=fun v0 v1 v2 v3 v4 v5 v6 v7 v8 v9 v10 v11 v12 v13 v14 dn v16 v17 v18 v19 v20 v21 _ _=>X.x2 v0 v1 v2 v3 v4 v5 v6 v7 v8 v9 v10 v11 v12 v13 v14 dn v16 v17 v18 v19 v20 v21
def Oy (X:X12):T12_3:=fun v0 v1 v2 v3 v4 v5 v6 v7 v8 v9 v10 v11 v12 v13 v14 dn v16 v17 v18 v19 v20 v21 v22 v23 _ _=>X.x3 v0 v1 v2 v3 v4 v5 v6 v7 v8 v9 v10 v11 v12 v13 v14 dn v16 v17 v18 v19 v20 v21 v22 v23
def Qb (X:X12):T12_4:=fun v0 v1 v2 v3 v4 v5 v6 v7 v8 v9 v10 v11 v12 v13 v14 dn v16 v17 v18 v19 v20 v21 v22 _ _=>X.x4 v0 v1 v2 v3 v4 v5 v6 v7 v8 v9 v10 v11 v12 v13 v14 dn v16 v17 v18 v19 v20 v21 v22
def Po (X:X12):T12_5:=fun v0 v1 v2 v3 v4 v5 v6 v7 v8 v9 v10 v11 v12 v13 v14 dn v16 v17 v18 v19 v20 v21 v22 v23 _ _=>X.x5 v0 v1 v2 v3 v4 v5 v6 v7 v8 v9 v10 v11 v12 v13 v14 dn v16 v17 v18 v19 v20 v21 v22 v23
def Oh (X:X12):T12_6:=fun v0 v1 v2 v3 v4 v5 v6 v7 v8 v9 v10 v11 v12 v13 v14 dn v16 v17 v18 v19 v20 v21 v22 _ _ _=>X.x6 v0 v1 v2 v3 v4 v5 v6 v7 v8 v9 v10 v11 v12 v13 v14 dn v16 v17 v18 v19 v20 v21 v22
def R9 (X:X12):T12_7:=fun v0 v1 v2 v3 v4 v5 v6 v7 v8 v9 v10 v11 v12 v13 v14 dn v16 v17 v18 v19 v20 v21 v22 _ _ _=>X.x7 v0 v1 v2 v3 v4 v5 v6 v7 v8 v9 v10 v11 v12 v13 v14 dn v16 v17 v18 v19 v20 v21 v22
def rV (q:YF) (a:aP) (X:X12):X12:=⟨fun v0 v1=>Jc q a (uv X) v0 v1 dd,
 fun v0 v1 v2 v3 v4 v5 v6 v7 v8 v9 v10 v11 v12 v13 v14 dn v16 v17 v18 v19 v20 v21 v22=>Da q a (uv X) (Ra X) (Oy X) v0 v1 v2 v3 v4 v5 v6 v7 v8 v9 v10 v11 v12 v13 v14 dn v16 v17 v18 v19 v20 v21 v22 dd dd,
 fun v0 v1 v2 v3 v4 v5 v6 v7 v8 v9 v10 v11 v12 v13 v14 dn v16 v17 v18 v19 v20 v21=>Ui q a (Qb X) v0 v1 v2 v3 v4 v5 v6 v7 v8 v9 v10 v11 v12 v13 v14 dn v16 v17 v18 v19 v20 v21 dd dd,
 fun v0 v1 v2 v3 v4 v5 v6 v7 v8 v9 v10 v11 v12 v13 v14 dn v16 v17 v18 v19 v20 v21 v22 v23=>Sj q a (Po X) v0 v1 v2 v3 v4 v5 v6 v7 v8 v9 v10 v11 v12 v13 v14 dn v16 v17 v18 v19 v20 v21 v22 v23 dd dd,
 fun v0 v1 v2 v3 v4 v5 v6 v7 v8 v9 v10 v11 v12 v13 v14 dn v16 v17 v18 v19 v20 v21 v22=>QP q a (Oh X) v0 v1 v2 v3 v4 v5 v6 v7 v8 v9 v10 v11 v12 v13 v14 dn v16 v17 v18 v19 v20 v21 v22 dd dd,
 fun v0 v1 v2 v3 v4 v5 v6 v7 v8 v9 v10 v11 v12 v13 v14 dn v16 v17 v18 v19 v20 v21 v22 v23=>Sg q a (R9 X) v0 v1 v2 v3 v4 v5 v6 v7 v8 v9 v10 v11 v12 v13 v14 dn v16 v17 v18 v19 v20 v21 v22 v23 dd dd,
 fun v0 v1 v2 v3 v4 v5 v6 v7 v8 v9 v10 v11 v12 v13 v14 dn v16 v17 v18 v19 v20 v21 v22=>Tf q a (CO X) v0 v1 v2 v3 v4 v5 v6 v7 v8 v9 v10 v11 v12 v13 v14 dn v16 v17 v18 v19 v20 v21 v22 dd dd dd,
 fun v0 v1 v2 v3 v4 v5 v6 v7 v8 v9 v10 v11 v12 v13 v14 dn v16 v17 v18 v19 v20 v21 v22=>RL q a (uv X) v0 v1 v2 v3 v4 v5 v6 v7 v8 v9 v10 v11 v12 v13 v14 dn v16 v17 v18 v19 v20 v21 v22 dd dd dd⟩
def dS (q:YF) (a:aP):Nat→X12
 | 0=>⟨fun _ _=>none,fun _ _ _ _ _ _ _ _ _ _ _ _ _ _ _ _ _ _ _ _ _ _ _=>none,fun _ _ _ _ _ _ _ _ _ _ _ _ _ _ _ _ _ _ _ _ _ _=>none,fun _ _ _ _ _ _ _ _ _ _ _ _ _ _ _ _ _ _ _ _ _ _ _ _=>none,fun _ _ _ _ _ _ _ _ _ _ _ _ _ _ _ _ _ _ _ _ _ _ _=>none,fun _ _ _ _ _ _ _ _ _ _ _ _ _ _ _ _ _ _ _ _ _ _ _ _=>none,fun _ _ _ _ _ _ _ _ _ _ _ _ _ _ _ _ _ _ _ _ _ _ _=>none,fun _ _ _ _ _ _ _ _ _ _ _ _ _ _ _ _ _ _ _ _ _ _ _=>none⟩
 | n+1=>rV q a (dS q a n)
theorem ae7 (q:YF) (a:aP) (kk:PK S):Iy a (P12 q kk)=Jc q a (B7 a kk):=by
 kernel_rfl
theorem aeO (q:YF) (a:aP) (kk:PK S):B7 a (P12 q kk)=Da q a (B7 a kk) (ON a kk) (Q_ a kk):=by
 kernel_rfl
theorem adO (q:YF) (a:aP) (kk:PK S):ON a (P12 q kk)=Ui q a (QZ a kk):=by
 kernel_rfl
theorem ae2 (q:YF) (a:aP) (kk:PK S):Q_ a (P12 q kk)=Sj q a (TX a kk):=by
 kernel_rfl
theorem adz (q:YF) (a:aP) (kk:PK S):QZ a (P12 q kk)=QP q a (Ri a kk):=by
 kernel_rfl
theorem ahj (q:YF) (a:aP) (kk:PK S):TX a (P12 q kk)=Sg q a (Rv a kk):=by
 kernel_rfl
theorem ahB (q:YF) (a:aP) (kk:PK S):Ri a (P12 q kk)=Tf q a (Iy a kk):=by
 kernel_rfl
theorem afJ (q:YF) (a:aP) (kk:PK S):Rv a (P12 q kk)=RL q a (B7 a kk):=by
 kernel_rfl
theorem abW (q:YF) (a:aP) (kk:PK S):BG q kk 12 Tryz.f12 [ag (bI a)]=yV q a (Iy a kk):=by
 kernel_rfl
theorem M6 (q:YF) (a:aP):∀ n,Iy a (CG q n)=CO (dS q a n)∧B7 a (CG q n)=uv (dS q a n)∧ON a (CG q n)=Ra (dS q a n)∧Q_ a (CG q n)=Oy (dS q a n)∧QZ a (CG q n)=Qb (dS q a n)∧TX a (CG q n)=Po (dS q a n)∧Ri a (CG q n)=Oh (dS q a n)∧Rv a (CG q n)=R9 (dS q a n)
 | 0=>⟨rfl,rfl,rfl,rfl,rfl,rfl,rfl,rfl⟩
 | n+1=>by
  obtain ⟨h0,h1,h2,h3,h4,h5,h6,h7⟩:=M6 q a n
  exact ⟨(ae7 q a (CG q n)).trans (by rw [h1];kernel_rfl),(aeO q a (CG q n)).trans (by rw [h1,h2,h3];kernel_rfl),(adO q a (CG q n)).trans (by rw [h4];kernel_rfl),(ae2 q a (CG q n)).trans (by rw [h5];kernel_rfl),(adz q a (CG q n)).trans (by rw [h6];kernel_rfl),(ahj q a (CG q n)).trans (by rw [h7];kernel_rfl),(ahB q a (CG q n)).trans (by rw [h0];kernel_rfl),(afJ q a (CG q n)).trans (by rw [h1];kernel_rfl)⟩
theorem W12 (a:aP) (n:Nat) (x:S) (h:yV (aa O) a (CO (dS (aa O) a n))=some x):(W O).aE 12 [ag (bI a)]=some x:=by
 refine WG (fn:=Tryz.f12) (by kernel_rfl) (by kernel_rfl) (n:=n) ?_
 refine (abW (aa O) a (CG (aa O) n)).trans ?_
 obtain ⟨h0,h1,h2,h3,h4,h5,h6,h7⟩:=M6 (aa O) a n
 rw [h0]
 exact h
abbrev P22 (q:YF) (kk:PK S):PK S:=PG q 22 Tryz.f22 kk
abbrev H22 (q:YF):Nat→PK S:=HG q 22 Tryz.f22
abbrev T22_0:Type:=Bool→S→Bool→S→OS
def Pt (a:Int) (kk:PK S):T22_0:=fun v0 u1 u2 u3=> kk 1 7 1 (aJ [(0,ii a),(8,bb v0),(4,bb (cT a 0)),(2,bb false),(6,u1),(5,bb u2),(3,ii a),(7,u3)] 8 [])
def XY (q:YF) (a:Int):T22_0:=fun v0 u1 u2 u3=>some (bb v0)
def H2 (q:YF) (a:Int) (k0:T22_0):OS:=bif cT a 0 then k0 (bp a 1099511627776) (ii a) true (bb (bp a 1099511627776)) else k0 false S.ud false S.ud
structure X22 where
 x0:Bool→OS
def Xu (X:X22):T22_0:=fun v0 _ _ _=>X.x0 v0
def ai7 (q:YF) (a:Int) (X:X22):X22:=⟨fun v0=>XY q a v0 dd dd dd⟩
def aai (q:YF) (a:Int):Nat→X22
 | 0=>⟨fun _=>none⟩
 | n+1=>ai7 q a (aai q a n)
theorem aep (q:YF) (a:Int) (kk:PK S):Pt a (P22 q kk)=XY q a:=by
 kernel_rfl
theorem abA (q:YF) (a:Int) (kk:PK S):BG q kk 22 Tryz.f22 [ii a]=H2 q a (Pt a kk):=by
 kernel_rfl
theorem h22 (q:YF) (a:Int):∀ n,Pt a (H22 q n)=Xu (aai q a n)
 | 0=>rfl
 | n+1=>by
  have h0:=h22 q a n
  exact (aep q a (H22 q n)).trans (by kernel_rfl)
theorem W22 (a:Int) (n:Nat) (x:S) (h:H2 (aa O) a (Xu (aai (aa O) a n))=some x):(W O).aE 22 [ii a]=some x:=by
 refine WG (fn:=Tryz.f22) (by kernel_rfl) (by kernel_rfl) (n:=n) ?_
 refine (abA (aa O) a (H22 (aa O) n)).trans ?_
 have h0:=h22 (aa O) a n
 rw [h0]
 exact h
abbrev P23 (q:YF) (kk:PK S):PK S:=PG q 23 Tryz.f23 kk
abbrev H23 (q:YF):Nat→PK S:=HG q 23 Tryz.f23
def TZ (a:Int) (kk:PK S):T22_0:=fun v0 u1 u2 u3=> kk 1 7 1 (aJ [(0,ii a),(8,bb v0),(4,bb (cT a 0)),(2,bb false),(6,u1),(5,bb u2),(3,ii a),(7,u3)] 8 [])
def Xm (q:YF) (a:Int) (v0:Bool) (u1:S) (u2:Bool) (u3:S):OS:=some (bb v0)
def HH (q:YF) (a:Int) (k0:T22_0):OS:=bif cT a 0 then k0 (bp a 1073741824) (ii a) true (bb (bp a 1073741824)) else k0 false S.ud false S.ud
structure X23 where
 x0:Bool→OS
def Xx (X:X23):T22_0:=fun v0 _ _ _=>X.x0 v0
def aik (q:YF) (a:Int) (X:X23):X23:=⟨fun v0=>Xm q a v0 dd dd dd⟩
def Zj (q:YF) (a:Int):Nat→X23
 | 0=>⟨fun _=>none⟩
 | n+1=>aik q a (Zj q a n)
theorem aee (q:YF) (a:Int) (kk:PK S):TZ a (P23 q kk)=Xm q a:=by
 kernel_rfl
theorem acE (q:YF) (a:Int) (kk:PK S):BG q kk 23 Tryz.f23 [ii a]=HH q a (TZ a kk):=by
 kernel_rfl
theorem h23 (q:YF) (a:Int):∀ n,TZ a (H23 q n)=Xx (Zj q a n)
 | 0=>rfl
 | n+1=>by
  have h0:=h23 q a n
  exact (aee q a (H23 q n)).trans (by kernel_rfl)
theorem W23 (a:Int) (n:Nat) (x:S) (h:HH (aa O) a (Xx (Zj (aa O) a n))=some x):(W O).aE 23 [ii a]=some x:=by
 refine WG (fn:=Tryz.f23) (by kernel_rfl) (by kernel_rfl) (n:=n) ?_
 refine (acE (aa O) a (H23 (aa O) n)).trans ?_
 have h0:=h23 (aa O) a n
 rw [h0]
 exact h
abbrev P24 (q:YF) (kk:PK S):PK S:=PG q 24 Tryz.f24 kk
abbrev H24 (q:YF):Nat→PK S:=HG q 24 Tryz.f24
def IL (a:Rw aV) (kk:PK S):Int→OS:=fun v0=> kk 4 0 0 (aJ [(0,S.t (T.rows 7 a.n fun i=>bk (a.get i))),(10,ii (ay a.n)),(9,S.t (T.rows 7 a.n fun i=>bk (a.get i))),(11,ii v0)] 0 [])
def JJ (q:YF) (a:Rw aV) (k0:Int→OS) (v0:Int):OS:=bif bm v0 (ay a.n) then aU v0 a.n fun h=>yC q 58 [ag (bk (a.get (Fin.mk v0.toNat h)))] fun y=>bif !aR (y.i 0) 0 then some (ii (y.i 0)) else bif bp 0 v0 && bp v0 (ay a.n) then iE 0 (cK v0) a.n fun h_1=>yC q 59 [S.t (T.rows 7 (cK v0) fun i=>bk (a.get (Fin.mk (0+↑i) (by first | omega | (have:=i.2;omega) | (have:=i_1.2;omega))))),S.fn (Go.Fn.func 60) [] [S.pt (bk (a.get (Fin.mk v0.toNat h)))]] fun y=>bif y.b 0 then some (ii 6) else k0 (a7 .i64 v0 1) else none else some (ii 0)
def ED (q:YF) (a:Rw aV) (k0:Int→OS):OS:=bif bl (ay a.n) 12 then some (ii 3) else k0 0
structure X24 where
 x0:Int→OS
def DU (X:X24):Int→OS:=fun v0=>X.x0 v0
def acX (q:YF) (a:Rw aV) (X:X24):X24:=⟨fun v0=>JJ q a (DU X) v0⟩
def tk (q:YF) (a:Rw aV):Nat→X24
 | 0=>⟨fun _=>none⟩
 | n+1=>acX q a (tk q a n)
theorem aeh (q:YF) (a:Rw aV) (kk:PK S):IL a (P24 q kk)=JJ q a (IL a kk):=by
 kernel_rfl
theorem aac (q:YF) (a:Rw aV) (kk:PK S):BG q kk 24 Tryz.f24 [S.t (T.rows 7 a.n fun i=>bk (a.get i))]=ED q a (IL a kk):=by
 kernel_rfl
theorem h24 (q:YF) (a:Rw aV):∀ n,IL a (H24 q n)=DU (tk q a n)
 | 0=>rfl
 | n+1=>by
  have h0:=h24 q a n
  exact (aeh q a (H24 q n)).trans (by rw [h0];kernel_rfl)
theorem W24 (a:Rw aV) (n:Nat) (x:S) (h:ED (aa O) a (DU (tk (aa O) a n))=some x):(W O).aE 24 [S.t (T.rows 7 a.n fun i=>bk (a.get i))]=some x:=by
 refine WG (fn:=Tryz.f24) (by kernel_rfl) (by kernel_rfl) (n:=n) ?_
 refine (aac (aa O) a (H24 (aa O) n)).trans ?_
 have h0:=h24 (aa O) a n
 rw [h0]
 exact h
abbrev P25 (q:YF) (kk:PK S):PK S:=PG q 25 Tryz.f25 kk
abbrev H25 (q:YF):Nat→PK S:=HG q 25 Tryz.f25
abbrev T25_0:Type:=Int→BA→OS
def Jn (a:aP) (kk:PK S):T25_0:=fun v0 v1=> kk 3 0 0 (aJ [(8,S.t (T.rows 10 a.aW.n fun i=>jd (a.aW.get i))),(10,ii v0),(9,ii (ay a.aW.n)),(3,ss v1)] 0 [])
def Ix (q:YF) (a:aP) (k0:T25_0):T25_0:=fun v0 v1=>bif bm v0 (ay a.aW.n) then aU v0 a.aW.n fun h=>yC q 61 [ag (jd (a.aW.get (Fin.mk v0.toNat h)))] fun y=>bif !aR (y.i 0) 0 then some (ii (y.i 0)) else bif strLt (a.aW.get (Fin.mk v0.toNat h)).af v1 || ah (a.aW.get (Fin.mk v0.toNat h)).af v1 then some (ii 6) else k0 (a7 .i64 v0 1) (a.aW.get (Fin.mk v0.toNat h)).af else some (ii 0)
def O9 (q:YF) (a:aP) (k0:T25_0):OS:=k0 0 (bs [])
structure X25 where
 x0:Int→BA→OS
def CQ (X:X25):T25_0:=fun v0 v1=>X.x0 v0 v1
def Zv (q:YF) (a:aP) (X:X25):X25:=⟨fun v0 v1=>Ix q a (CQ X) v0 v1⟩
def tv (q:YF) (a:aP):Nat→X25
 | 0=>⟨fun _ _=>none⟩
 | n+1=>Zv q a (tv q a n)
theorem afi (q:YF) (a:aP) (kk:PK S):Jn a (P25 q kk)=Ix q a (Jn a kk):=by
 kernel_rfl
theorem Y_ (q:YF) (a:aP) (kk:PK S):BG q kk 25 Tryz.f25 [ag (bI a)]=O9 q a (Jn a kk):=by
 kernel_rfl
theorem h25 (q:YF) (a:aP):∀ n,Jn a (H25 q n)=CQ (tv q a n)
 | 0=>rfl
 | n+1=>by
  have h0:=h25 q a n
  exact (afi q a (H25 q n)).trans (by rw [h0];kernel_rfl)
theorem W25 (a:aP) (n:Nat) (x:S) (h:O9 (aa O) a (CQ (tv (aa O) a n))=some x):(W O).aE 25 [ag (bI a)]=some x:=by
 refine WG (fn:=Tryz.f25) (by kernel_rfl) (by kernel_rfl) (n:=n) ?_
 refine (Y_ (aa O) a (H25 (aa O) n)).trans ?_
 have h0:=h25 (aa O) a n
 rw [h0]
 exact h
abbrev P26 (q:YF) (kk:PK S):PK S:=PG q 26 Tryz.f26 kk
abbrev H26 (q:YF):Nat→PK S:=HG q 26 Tryz.f26
def KG (a:aP) (kk:PK S):T25_0:=fun v0 v1=> kk 3 0 0 (aJ [(12,ii v0),(10,S.t (T.rows 15 a.ae.n fun i=>dp (a.ae.get i))),(1,S.ptr 0 0),(3,ss v1),(11,ii (ay a.ae.n))] 1 [(0,B.box (List.map S.t (bI a)))])
abbrev T26_1:Type:=Bool→cQ→Int→Int→Int→cQ→Bool→Bool→Int→Int→Int→Bool→Int→Bool→cQ→Bool→Bool→Int→BA→BA→BA→BA→Int→Int→Bool→Bool→Bool→Bool→BA→BA→BA→Int→Int→Bool→cQ→BA→BA→BA→BA→BA→Bool→BA→OS
def Pn (a:aP) (kk:PK S):T26_1:=fun v0 v1 v2 v3 v4 u5 u6 u7 u8 u9 u10 u11 u12 u13 u14 u15 u16 u17 u18 u19 u20 u21 u22 u23 u24 u25 u26 u27 u28 u29 u30 u31 u32 u33 u34 u35 u36 u37 u38 u39 u40 u41=> kk 11 14 27 (aJ [(32,ss u39),(16,ag (dp u5)),(8,bb u6),(40,bb false),(24,S.ptr 4 3),(36,S.ptr 4 1),(12,ii v4),(44,S.sl 36 1),(28,bb u7),(18,ii u8),(10,S.t (T.rows 15 a.ae.n fun i=>dp (a.ae.get i))),(42,S.ptr 4 3),(26,S.bJ [S.agg [ii u9,ii u10],bb u11]),(6,ii u12),(38,bb u13),(22,S.ptr 0 6),(14,S.pt (dp u14)),(46,bb u15),(30,S.ptr 4 0),(1,S.ptr 0 0),(33,bb u16),(17,ii u17),(41,ag (bI a)),(25,S.agg [ss u18,ss u19,ss u20]),(5,S.ptr 4 0),(37,ss u21),(21,S.bJ [S.agg [ii u22,ii u23],bb u24]),(13,bb u40),(45,bb u25),(29,bb u26),(3,ss u41),(35,ag (bI a)),(19,bb u27),(11,ii (ay a.ae.n)),(43,S.agg [ss u28,ss u29,ss u30]),(27,S.agg [ii u31,ii u32]),(7,S.ptr 19 0),(39,bb u33),(23,S.t (T.rows 7 a.aw.n fun i=>bk (a.aw.get i))),(15,ag (dp u34)),(47,bb v0),(31,ss u35)] 48 [(0,B.box (List.map S.t (bI a))),(4,B.box (List.map S.t (dp v1))),(36,B.fO false 3 1 [ss u36,ss u37,ss u38]),(19,B.box [ii v2,ii v3])])
abbrev T26_2:Type:=cQ→Bool→Bool→Int→Int→Int→Bool→Int→Bool→cQ→Bool→Int→BA→BA→BA→BA→Int→Int→Bool→Bool→Bool→Int→Int→Bool→cQ→BA→cQ→Int→Int→BA→Int→Bool→BA→OS
def M_ (a:aP) (kk:PK S):T26_2:=fun u0 u1 u2 u3 u4 u5 u6 u7 u8 u9 u10 u11 u12 u13 u14 u15 u16 u17 u18 u19 u20 u21 u22 u23 u24 u25 u26 u27 u28 u29 u30 u31 u32=> kk 11 14 27 (aJ [(32,ss u29),(16,ag (dp u0)),(8,bb u1),(40,bb true),(24,S.ptr 4 3),(36,S.ptr 4 1),(12,ii u30),(44,S.ud),(28,bb u2),(18,ii u3),(10,S.t (T.rows 15 a.ae.n fun i=>dp (a.ae.get i))),(42,S.ud),(26,S.bJ [S.agg [ii u4,ii u5],bb u6]),(6,ii u7),(38,bb u8),(22,S.ptr 0 6),(14,S.pt (dp u9)),(46,S.ud),(30,S.ptr 4 0),(1,S.ptr 0 0),(33,bb u10),(17,ii u11),(41,S.ud),(25,S.agg [ss u12,ss u13,ss u14]),(5,S.ptr 4 0),(37,ss u15),(21,S.bJ [S.agg [ii u16,ii u17],bb u18]),(13,bb u31),(45,S.ud),(29,bb u19),(3,ss u32),(35,ag (bI a)),(19,bb u20),(11,ii (ay a.ae.n)),(43,S.ud),(27,S.agg [ii u21,ii u22]),(7,S.ptr 19 0),(39,bb u23),(23,S.t (T.rows 7 a.aw.n fun i=>bk (a.aw.get i))),(15,ag (dp u24)),(47,bb true),(31,ss u25)] 48 [(0,B.box (List.map S.t (bI a))),(4,B.box (List.map S.t (dp u26))),(19,B.box [ii u27,ii u28])])
abbrev T26_3:Type:=Bool→cQ→Int→Int→Int→cQ→Bool→Bool→Int→Int→Int→Bool→Int→Bool→cQ→Bool→Bool→Int→BA→BA→BA→BA→Int→Int→Bool→Bool→Bool→Bool→BA→BA→BA→Int→Int→Bool→cQ→Bool→BA→BA→BA→BA→Bool→S→S→S→S→S→BA→Bool→BA→OS
def Sd (a:aP) (kk:PK S):T26_3:=fun v0 v1 v2 v3 v4 u5 u6 u7 u8 u9 u10 u11 u12 u13 u14 u15 u16 u17 u18 u19 u20 u21 u22 u23 u24 u25 u26 u27 u28 u29 u30 u31 u32 u33 u34 u35 u36 u37 u38 u39 u40 u41 u42 u43 u44 u45 u46 u47 u48=> kk 11 21 27 (aJ [(32,ss u46),(16,ag (dp u5)),(48,bb u40),(8,bb u6),(40,bb false),(24,S.ptr 4 3),(36,S.ptr 4 1),(52,u41),(12,ii v4),(44,S.sl 36 1),(28,bb u7),(18,ii u8),(50,u42),(10,S.t (T.rows 15 a.ae.n fun i=>dp (a.ae.get i))),(42,S.ptr 4 3),(26,S.bJ [S.agg [ii u9,ii u10],bb u11]),(6,ii u12),(38,bb u13),(22,S.ptr 0 6),(54,bb v0),(14,S.pt (dp u14)),(46,bb u15),(30,S.ptr 4 0),(1,S.ptr 0 0),(33,bb u16),(17,ii u17),(49,u43),(41,ag (bI a)),(25,S.agg [ss u18,ss u19,ss u20]),(5,S.ptr 4 0),(37,ss u21),(21,S.bJ [S.agg [ii u22,ii u23],bb u24]),(53,u44),(13,bb u47),(45,bb u25),(29,bb u26),(3,ss u48),(35,ag (bI a)),(19,bb u27),(51,u45),(11,ii (ay a.ae.n)),(43,S.agg [ss u28,ss u29,ss u30]),(27,S.agg [ii u31,ii u32]),(7,S.ptr 19 0),(39,bb u33),(23,S.t (T.rows 7 a.aw.n fun i=>bk (a.aw.get i))),(15,ag (dp u34)),(47,bb u35),(31,ss u36)] 48 [(0,B.box (List.map S.t (bI a))),(4,B.box (List.map S.t (dp v1))),(36,B.fO false 3 1 [ss u37,ss u38,ss u39]),(19,B.box [ii v2,ii v3])])
def Qc (a:aP) (kk:PK S):T26_2:=fun u0 u1 u2 u3 u4 u5 u6 u7 u8 u9 u10 u11 u12 u13 u14 u15 u16 u17 u18 u19 u20 u21 u22 u23 u24 u25 u26 u27 u28 u29 u30 u31 u32=> kk 11 21 27 (aJ [(32,ss u29),(16,ag (dp u0)),(48,bb true),(8,bb u1),(40,bb true),(24,S.ptr 4 3),(36,S.ptr 4 1),(52,S.ud),(12,ii u30),(44,S.ud),(28,bb u2),(18,ii u3),(50,S.ud),(10,S.t (T.rows 15 a.ae.n fun i=>dp (a.ae.get i))),(42,S.ud),(26,S.bJ [S.agg [ii u4,ii u5],bb u6]),(6,ii u7),(38,bb u8),(22,S.ptr 0 6),(54,bb true),(14,S.pt (dp u9)),(46,S.ud),(30,S.ptr 4 0),(1,S.ptr 0 0),(33,bb u10),(17,ii u11),(49,S.ud),(41,S.ud),(25,S.agg [ss u12,ss u13,ss u14]),(5,S.ptr 4 0),(37,ss u15),(21,S.bJ [S.agg [ii u16,ii u17],bb u18]),(53,S.ud),(13,bb u31),(45,S.ud),(29,bb u19),(3,ss u32),(35,ag (bI a)),(19,bb u20),(51,S.ud),(11,ii (ay a.ae.n)),(43,S.ud),(27,S.agg [ii u21,ii u22]),(7,S.ptr 19 0),(39,bb u23),(23,S.t (T.rows 7 a.aw.n fun i=>bk (a.aw.get i))),(15,ag (dp u24)),(47,bb true),(31,ss u25)] 48 [(0,B.box (List.map S.t (bI a))),(4,B.box (List.map S.t (dp u26))),(19,B.box [ii u27,ii u28])])
def Kn (q:YF) (a:aP) (k1:T26_1) (k2:T26_2) (v0:Int) (v1:BA):OS:=bif bm v0 (ay a.ae.n) then aU v0 a.ae.n fun h=>yC q 62 [ag (dp (a.ae.get (Fin.mk v0.toNat h)))] fun y=>bif !aR (y.i 0) 0 then some (ii (y.i 0)) else yC q 63 [S.t (T.rows 7 a.aw.n fun i=>bk (a.aw.get i)),S.agg [ss (a.ae.get (Fin.mk v0.toNat h)).al,ss (a.ae.get (Fin.mk v0.toNat h)).aj,ss (a.ae.get (Fin.mk v0.toNat h)).ak]] fun y_1=>bif strLt (a.ae.get (Fin.mk v0.toNat h)).af v1 || ah (a.ae.get (Fin.mk v0.toNat h)).af v1 then some (ii 6) else yC q 64 [ag (bI a),ss (a.ae.get (Fin.mk v0.toNat h)).bc] fun y_2=>bif !y_2.b 0 then k2 (a.ae.get (Fin.mk v0.toNat h)) (y_1.b 2) (y_1.b 2) (y.i 0) (y_1.i 0) (y_1.i 1) (y_1.b 2) (y.i 0) (y_2.b 0) (a.ae.get (Fin.mk v0.toNat h)) (strLt (a.ae.get (Fin.mk v0.toNat h)).af v1 || ah (a.ae.get (Fin.mk v0.toNat h)).af v1) (y.i 0) (a.ae.get (Fin.mk v0.toNat h)).al (a.ae.get (Fin.mk v0.toNat h)).aj (a.ae.get (Fin.mk v0.toNat h)).ak (a.ae.get (Fin.mk v0.toNat h)).bc (y_1.i 0) (y_1.i 1) (y_1.b 2) (strLt (a.ae.get (Fin.mk v0.toNat h)).af v1 || ah (a.ae.get (Fin.mk v0.toNat h)).af v1) (!aR (y.i 0) 0) (y_1.i 0) (y_1.i 1) (!y_2.b 0) (a.ae.get (Fin.mk v0.toNat h)) (a.ae.get (Fin.mk v0.toNat h)).af (a.ae.get (Fin.mk v0.toNat h)) (y_1.i 0) (y_1.i 1) v1 v0 (bm v0 (ay a.ae.n)) v1 else yC q 65 [ag (bI a),S.t (T.rows 3 1 fun i=>List.take 3 (List.drop (↑i*3) [ts (a.ae.get (Fin.mk v0.toNat h)).al,ts (a.ae.get (Fin.mk v0.toNat h)).aj,ts (a.ae.get (Fin.mk v0.toNat h)).ak]))] fun y_3=>k1 (!y_3.b 0) (a.ae.get (Fin.mk v0.toNat h)) (y_1.i 0) (y_1.i 1) v0 (a.ae.get (Fin.mk v0.toNat h)) (y_1.b 2) (y_1.b 2) (y.i 0) (y_1.i 0) (y_1.i 1) (y_1.b 2) (y.i 0) (y_2.b 0) (a.ae.get (Fin.mk v0.toNat h)) (!y_3.b 0) (strLt (a.ae.get (Fin.mk v0.toNat h)).af v1 || ah (a.ae.get (Fin.mk v0.toNat h)).af v1) (y.i 0) (a.ae.get (Fin.mk v0.toNat h)).al (a.ae.get (Fin.mk v0.toNat h)).aj (a.ae.get (Fin.mk v0.toNat h)).ak (a.ae.get (Fin.mk v0.toNat h)).bc (y_1.i 0) (y_1.i 1) (y_1.b 2) (y_3.b 0) (strLt (a.ae.get (Fin.mk v0.toNat h)).af v1 || ah (a.ae.get (Fin.mk v0.toNat h)).af v1) (!aR (y.i 0) 0) (a.ae.get (Fin.mk v0.toNat h)).al (a.ae.get (Fin.mk v0.toNat h)).aj (a.ae.get (Fin.mk v0.toNat h)).ak (y_1.i 0) (y_1.i 1) (!y_2.b 0) (a.ae.get (Fin.mk v0.toNat h)) (a.ae.get (Fin.mk v0.toNat h)).af (a.ae.get (Fin.mk v0.toNat h)).al (a.ae.get (Fin.mk v0.toNat h)).aj (a.ae.get (Fin.mk v0.toNat h)).ak v1 (bm v0 (ay a.ae.n)) v1 else some (ii 0)
def Np (q:YF) (a:aP) (k3:T26_3):T26_1:=fun v0 v1 v2 v3 v4 u5 u6 u7 u8 u9 u10 u11 u12 u13 u14 u15 u16 u17 u18 u19 u20 u21 u22 u23 u24 u25 u26 u27 u28 u29 u30 u31 u32 u33 u34 u35 u36 u37 u38 u39 u40 u41=>bif v0 then k3 true v1 v2 v3 v4 u5 u6 u7 u8 u9 u10 u11 u12 u13 u14 u15 u16 u17 u18 u19 u20 u21 u22 u23 u24 u25 u26 u27 u28 u29 u30 u31 u32 u33 u34 v0 u35 u36 u37 u38 true S.ud S.ud S.ud S.ud S.ud u39 u40 u41 else yC q 65 [ag (bI a),S.t (T.rows 3 v1.bh.n fun i=>bS (v1.bh.get i))] fun y=>k3 (!y.b 0) v1 v2 v3 v4 u5 u6 u7 u8 u9 u10 u11 u12 u13 u14 u15 u16 u17 u18 u19 u20 u21 u22 u23 u24 u25 u26 u27 u28 u29 u30 u31 u32 u33 u34 v0 u35 u36 u37 u38 false (bb (y.b 0)) (S.ptr 4 9) (ag (bI a)) (S.t (T.v (.bool !y.b 0))) (S.t (T.rows 3 v1.bh.n fun i=>bS (v1.bh.get i))) u39 u40 u41
def R6 (q:YF) (a:aP) (k4:T26_2):T26_2:=fun u0 u1 u2 u3 u4 u5 u6 u7 u8 u9 u10 u11 u12 u13 u14 u15 u16 u17 u18 u19 u20 u21 u22 u23 u24 u25 u26 u27 u28 u29 u30 u31 u32=>k4 u0 u1 u2 u3 u4 u5 u6 u7 u8 u9 u10 u11 u12 u13 u14 u15 u16 u17 u18 u19 u20 u21 u22 u23 u24 u25 u26 u27 u28 u29 u30 u31 u32
def PS (q:YF) (a:aP) (k0:T25_0):T26_3:=fun v0 v1 v2 v3 v4 u5 u6 u7 u8 u9 u10 u11 u12 u13 u14 u15 u16 u17 u18 u19 u20 u21 u22 u23 u24 u25 u26 u27 u28 u29 u30 u31 u32 u33 u34 u35 u36 u37 u38 u39 u40 u41 u42 u43 u44 u45 u46 u47 u48=>bif v0 then some (ii 5) else bif !(aR v1.a6 v2 && (aR v1.a8 v3 && true)) then some (ii 1) else k0 (a7 .i64 v4 1) v1.af
def Nk (q:YF) (a:aP) (u0:cQ) (u1 u2:Bool) (u3 u4 u5:Int) (u6:Bool) (u7:Int) (u8:Bool) (u9:cQ) (u10:Bool) (u11:Int) (u12 u13 u14 u15:BA) (u16 u17:Int) (u18 u19 u20:Bool) (u21 u22:Int) (u23:Bool) (u24:cQ) (u25:BA) (u26:cQ) (u27 u28:Int) (u29:BA) (u30:Int) (u31:Bool) (u32:BA):OS:=some (ii 5)
def Ts (q:YF) (a:aP) (k0:T25_0):OS:=k0 0 (bs [])
structure X26 where
 x0:Int→BA→OS
 x1:Bool→cQ→Int→Int→Int→OS
 x2:OS
 x3:Bool→cQ→Int→Int→Int→OS
 x4:OS
def I6 (X:X26):T25_0:=fun v0 v1=>X.x0 v0 v1
def N1 (X:X26):T26_1:=fun v0 v1 v2 v3 v4 _ _ _ _ _ _ _ _ _ _ _ _ _ _ _ _ _ _ _ _ _ _ _ _ _ _ _ _ _ _ _ _ _ _ _ _ _=>X.x1 v0 v1 v2 v3 v4
def SV (X:X26):T26_2:=fun _ _ _ _ _ _ _ _ _ _ _ _ _ _ _ _ _ _ _ _ _ _ _ _ _ _ _ _ _ _ _ _ _=>X.x2
def T_ (X:X26):T26_3:=fun v0 v1 v2 v3 v4 _ _ _ _ _ _ _ _ _ _ _ _ _ _ _ _ _ _ _ _ _ _ _ _ _ _ _ _ _ _ _ _ _ _ _ _ _ _ _ _ _ _ _ _=>X.x3 v0 v1 v2 v3 v4
def RX (X:X26):T26_2:=fun _ _ _ _ _ _ _ _ _ _ _ _ _ _ _ _ _ _ _ _ _ _ _ _ _ _ _ _ _ _ _ _ _=>X.x4
def F7 (q:YF) (a:aP) (X:X26):X26:=⟨fun v0 v1=>Kn q a (N1 X) (SV X) v0 v1,
 fun v0 v1 v2 v3 v4=>Np q a (T_ X) v0 v1 v2 v3 v4 dd dd dd dd dd dd dd dd dd dd dd dd dd dd dd dd dd dd dd dd dd dd dd dd dd dd dd dd dd dd dd dd dd dd dd dd dd,
 R6 q a (RX X) dd dd dd dd dd dd dd dd dd dd dd dd dd dd dd dd dd dd dd dd dd dd dd dd dd dd dd dd dd dd dd dd dd,
 fun v0 v1 v2 v3 v4=>PS q a (I6 X) v0 v1 v2 v3 v4 dd dd dd dd dd dd dd dd dd dd dd dd dd dd dd dd dd dd dd dd dd dd dd dd dd dd dd dd dd dd dd dd dd dd dd dd dd dd dd dd dd dd dd dd,
 Nk q a dd dd dd dd dd dd dd dd dd dd dd dd dd dd dd dd dd dd dd dd dd dd dd dd dd dd dd dd dd dd dd dd dd⟩
def gx (q:YF) (a:aP):Nat→X26
 | 0=>⟨fun _ _=>none,fun _ _ _ _ _=>none,none,fun _ _ _ _ _=>none,none⟩
 | n+1=>F7 q a (gx q a n)
theorem agW (q:YF) (a:aP) (kk:PK S):KG a (P26 q kk)=Kn q a (Pn a kk) (M_ a kk):=by
 kernel_rfl
theorem ae4 (q:YF) (a:aP) (kk:PK S):Pn a (P26 q kk)=Np q a (Sd a kk):=by
 kernel_rfl
theorem afQ (q:YF) (a:aP) (kk:PK S):M_ a (P26 q kk)=R6 q a (Qc a kk):=by
 kernel_rfl
theorem aeY (q:YF) (a:aP) (kk:PK S):Sd a (P26 q kk)=PS q a (KG a kk):=by
 kernel_rfl
theorem ahv (q:YF) (a:aP) (kk:PK S):Qc a (P26 q kk)=Nk q a:=by
 kernel_rfl
theorem aa6 (q:YF) (a:aP) (kk:PK S):BG q kk 26 Tryz.f26 [ag (bI a)]=Ts q a (KG a kk):=by
 kernel_rfl
theorem h26 (q:YF) (a:aP):∀ n,KG a (H26 q n)=I6 (gx q a n)∧Pn a (H26 q n)=N1 (gx q a n)∧M_ a (H26 q n)=SV (gx q a n)∧Sd a (H26 q n)=T_ (gx q a n)∧Qc a (H26 q n)=RX (gx q a n)
 | 0=>⟨rfl,rfl,rfl,rfl,rfl⟩
 | n+1=>by
  obtain ⟨h0,h1,h2,h3,h4⟩:=h26 q a n
  exact ⟨(agW q a (H26 q n)).trans (by rw [h1,h2];kernel_rfl),(ae4 q a (H26 q n)).trans (by rw [h3];kernel_rfl),(afQ q a (H26 q n)).trans (by rw [h4];kernel_rfl),(aeY q a (H26 q n)).trans (by rw [h0];kernel_rfl),(ahv q a (H26 q n)).trans (by kernel_rfl)⟩
theorem W26 (a:aP) (n:Nat) (x:S) (h:Ts (aa O) a (I6 (gx (aa O) a n))=some x):(W O).aE 26 [ag (bI a)]=some x:=by
 refine WG (fn:=Tryz.f26) (by kernel_rfl) (by kernel_rfl) (n:=n) ?_
 refine (aa6 (aa O) a (H26 (aa O) n)).trans ?_
 obtain ⟨h0,h1,h2,h3,h4⟩:=h26 (aa O) a n
 rw [h0]
 exact h
end
end Go.Proofs.YtonkoellfaopiaaGreatDoor.H
