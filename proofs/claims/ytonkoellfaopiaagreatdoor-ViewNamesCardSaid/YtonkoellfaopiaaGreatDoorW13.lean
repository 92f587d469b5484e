import Derived.Test.YtonkoellfaopiaaGreatDoorW7
set_option linter.unusedSimpArgs false
set_option linter.unusedVariables false
namespace Go.Proofs.YtonkoellfaopiaaGreatDoor.H
open Go
noncomputable section
abbrev P121 (q:YF) (kk:PK S):PK S:=PG q 121 Tryz.f121 kk
abbrev H121 (q:YF):Nat→PK S:=HG q 121 Tryz.f121
def s121_0 (a:D61) (v0:Int):St:=mkSt [(24,ii (ofN a.fSpread.n)),(1,S.ptr 0 0),(25,ii v0),(23,S.t (T.rows 3 a.fSpread.n fun i=>e70 (a.fSpread.get i)))] 1 [(0,B.box (List.map S.t (e61 a)))]
def K121_0 (a:D61) (kk:PK S):Int→OS:=fun v0=> kk 4 0 0 (s121_0 a v0)
def s121_1 (a:D61):St:=mkSt [(54,ii (ofN 2)),(53,S.sl 0 2),(55,ii 0)] 1 [(0,B.lst false 1 2 [S.t (T.rows 2 a.fNear.n fun i=>e138 (a.fNear.get i)),S.t (T.rows 2 a.fApart.n fun i=>e138 (a.fApart.get i))])]
def K121_1 (a:D61) (kk:PK S):OS:=kk 11 0 0 (s121_1 a)
def s121_2 (a:D61) (v0:Int) (v1:Bool) (v2:Int) (u3:BA) (u4:Bool) (u5:D70) (u6:BA) (u7:Int) (u8 u9:D70) (u10 u11:S) (u12:Bool) (u13:S) (u14:Bool):St:=mkSt [(32,ss u3),(40,u10),(24,ii (ofN a.fSpread.n)),(4,S.ptr 4 0),(36,bb u4),(28,ag (e70 u5)),(34,S.ptr 4 2),(26,bb u14),(38,u11),(30,ss u6),(1,S.ptr 0 0),(33,ii v0),(41,bb v1),(25,ii v2),(37,bb u12),(29,S.ptr 4 0),(35,ii u7),(27,S.pt (e70 u8)),(39,u13),(23,S.t (T.rows 3 a.fSpread.n fun i=>e70 (a.fSpread.get i))),(31,S.ptr 4 1)] 23 [(0,B.box (List.map S.t (e61 a))),(4,B.box (List.map S.t (e70 u9)))]
abbrev T121_2:Type:=Int→Bool→Int→BA→Bool→D70→BA→Int→D70→D70→S→S→Bool→S→Bool→OS
def K121_2 (a:D61) (kk:PK S):T121_2:=fun v0 v1 v2 u3 u4 u5 u6 u7 u8 u9 u10 u11 u12 u13 u14=> kk 6 14 6 (s121_2 a v0 v1 v2 u3 u4 u5 u6 u7 u8 u9 u10 u11 u12 u13 u14)
def s121_3 (a:D61) (v0:Int):St:=mkSt [(60,ii (ofN a.fNear.n)),(54,ii (ofN 2)),(53,S.sl 0 2),(61,ii v0),(59,S.t (T.rows 2 a.fNear.n fun i=>e138 (a.fNear.get i))),(55,ii 0)] 1 [(0,B.lst false 1 2 [S.t (T.rows 2 a.fNear.n fun i=>e138 (a.fNear.get i)),S.t (T.rows 2 a.fApart.n fun i=>e138 (a.fApart.get i))])]
def K121_3 (a:D61) (kk:PK S):Int→OS:=fun v0=> kk 14 0 0 (s121_3 a v0)
def s121_4 (a:D61):St:=mkSt [(54,ii (ofN 2)),(53,S.sl 0 2),(55,ii 1)] 1 [(0,B.lst false 1 2 [S.t (T.rows 2 a.fNear.n fun i=>e138 (a.fNear.get i)),S.t (T.rows 2 a.fApart.n fun i=>e138 (a.fApart.get i))])]
def K121_4 (a:D61) (kk:PK S):OS:=kk 11 0 0 (s121_4 a)
def s121_5 (a:D61) (v0:Int):St:=mkSt [(60,ii (ofN a.fApart.n)),(54,ii (ofN 2)),(53,S.sl 0 2),(61,ii v0),(59,S.t (T.rows 2 a.fApart.n fun i=>e138 (a.fApart.get i))),(55,ii 1)] 1 [(0,B.lst false 1 2 [S.t (T.rows 2 a.fNear.n fun i=>e138 (a.fNear.get i)),S.t (T.rows 2 a.fApart.n fun i=>e138 (a.fApart.get i))])]
def K121_5 (a:D61) (kk:PK S):Int→OS:=fun v0=> kk 14 0 0 (s121_5 a v0)
def s121_6 (a:D61):St:=mkSt [(54,ii (ofN 2)),(53,S.sl 0 2),(55,ii 2)] 1 [(0,B.lst false 1 2 [S.t (T.rows 2 a.fNear.n fun i=>e138 (a.fNear.get i)),S.t (T.rows 2 a.fApart.n fun i=>e138 (a.fApart.get i))])]
def K121_6 (a:D61) (kk:PK S):OS:=kk 11 0 0 (s121_6 a)
def b121_0 (q:YF) (a:D61) (k1:OS) (k2:T121_2) (v0:Int):OS:=bif ltI v0 (ofN a.fSpread.n) then elemO v0 a.fSpread.n fun h=>yC q 159 [ss (a.fSpread.get (Fin.mk v0.toNat h)).fKey,ss (a.fSpread.get (Fin.mk v0.toNat h)).fApp] fun y=>bif geI (a.fSpread.get (Fin.mk v0.toNat h)).fSkew 1 then k2 (y.i 0) (leI (a.fSpread.get (Fin.mk v0.toNat h)).fSkew 16) v0 (a.fSpread.get (Fin.mk v0.toNat h)).fApp (geI (a.fSpread.get (Fin.mk v0.toNat h)).fSkew 1) (a.fSpread.get (Fin.mk v0.toNat h)) (a.fSpread.get (Fin.mk v0.toNat h)).fKey (a.fSpread.get (Fin.mk v0.toNat h)).fSkew (a.fSpread.get (Fin.mk v0.toNat h)) (a.fSpread.get (Fin.mk v0.toNat h)) (bb (leI (a.fSpread.get (Fin.mk v0.toNat h)).fSkew 16)) (S.ptr 4 2) true (ii (a.fSpread.get (Fin.mk v0.toNat h)).fSkew) (ltI v0 (ofN a.fSpread.n)) else k2 (y.i 0) false v0 (a.fSpread.get (Fin.mk v0.toNat h)).fApp (geI (a.fSpread.get (Fin.mk v0.toNat h)).fSkew 1) (a.fSpread.get (Fin.mk v0.toNat h)) (a.fSpread.get (Fin.mk v0.toNat h)).fKey (a.fSpread.get (Fin.mk v0.toNat h)).fSkew (a.fSpread.get (Fin.mk v0.toNat h)) (a.fSpread.get (Fin.mk v0.toNat h)) S.ud S.ud false S.ud (ltI v0 (ofN a.fSpread.n)) else k1
def b121_1 (q:YF) (a:D61) (k3:Int→OS):OS:=k3 0
def b121_2 (q:YF) (a:D61) (k0:Int→OS) (v0:Int) (v1:Bool) (v2:Int) (u3:BA) (u4:Bool) (u5:D70) (u6:BA) (u7:Int) (u8 u9:D70) (u10 u11:S) (u12:Bool) (u13:S) (u14:Bool):OS:=yC q 108 [bb v1,ii 1] fun y=>yC q 107 [S.t (T.rows 1 2 fun i=>List.take 1 (List.drop (↑i*1) [ti v0,ti (y.i 0)]))] fun y=>bif !eqI (y.i 0) 0 then some (ii (y.i 0)) else k0 (addI .i64 v2 1)
def b121_3 (q:YF) (a:D61) (k3:Int→OS) (k4:OS) (v0:Int):OS:=bif ltI v0 (ofN a.fNear.n) then elemO v0 a.fNear.n fun h=>yC q 159 (List.map S.t (e138 (a.fNear.get (Fin.mk v0.toNat h)))) fun y=>bif !eqI (y.i 0) 0 then some (ii (y.i 0)) else k3 (addI .i64 v0 1) else k4
def b121_4 (q:YF) (a:D61) (k5:Int→OS):OS:=k5 0
def b121_5 (q:YF) (a:D61) (k5:Int→OS) (k6:OS) (v0:Int):OS:=bif ltI v0 (ofN a.fApart.n) then elemO v0 a.fApart.n fun h=>yC q 159 (List.map S.t (e138 (a.fApart.get (Fin.mk v0.toNat h)))) fun y=>bif !eqI (y.i 0) 0 then some (ii (y.i 0)) else k5 (addI .i64 v0 1) else k6
def b121_6 (q:YF) (a:D61):OS:=some (ii 0)
def e121_in (q:YF) (a:D61) (k0:Int→OS):OS:=bif gtI (Bool.rec ((fun _=>bif true then bif decide (ofN a.fNear.n > ofN a.fSpread.n) then ofN a.fNear.n else ofN a.fSpread.n else bif decide (ofN a.fNear.n < ofN a.fSpread.n) then ofN a.fNear.n else ofN a.fSpread.n) ()) ((fun _=>ofN a.fApart.n) ()) (decide (ofN a.fApart.n > bif true then bif decide (ofN a.fNear.n > ofN a.fSpread.n) then ofN a.fNear.n else ofN a.fSpread.n else bif decide (ofN a.fNear.n < ofN a.fSpread.n) then ofN a.fNear.n else ofN a.fSpread.n))) 3 then some (ii 3) else k0 0
structure X121 where
 x0:Int→OS
 x1:OS
 x2:Int→Bool→Int→OS
 x3:Int→OS
 x4:OS
 x5:Int→OS
 x6:OS
def D121_0 (X:X121):Int→OS:=fun v0=>X.x0 v0
def D121_1 (X:X121):OS:=X.x1
def D121_2 (X:X121):T121_2:=fun v0 v1 v2 _ _ _ _ _ _ _ _ _ _ _ _=>X.x2 v0 v1 v2
def D121_3 (X:X121):Int→OS:=fun v0=>X.x3 v0
def D121_4 (X:X121):OS:=X.x4
def D121_5 (X:X121):Int→OS:=fun v0=>X.x5 v0
def D121_6 (X:X121):OS:=X.x6
def X121s (q:YF) (a:D61) (X:X121):X121:=⟨fun v0=>b121_0 q a (D121_1 X) (D121_2 X) v0,
 b121_1 q a (D121_3 X),
 fun v0 v1 v2=>b121_2 q a (D121_0 X) v0 v1 v2 dd dd dd dd dd dd dd dd dd dd dd dd,
 fun v0=>b121_3 q a (D121_3 X) (D121_4 X) v0,
 b121_4 q a (D121_5 X),
 fun v0=>b121_5 q a (D121_5 X) (D121_6 X) v0,
 b121_6 q a⟩
def X121n (q:YF) (a:D61):Nat→X121
 | 0=>⟨fun _=>none,none,fun _ _ _=>none,fun _=>none,none,fun _=>none,none⟩
 | n+1=>X121s q a (X121n q a n)
theorem l121_0 (q:YF) (a:D61) (kk:PK S):K121_0 a (P121 q kk)=b121_0 q a (K121_1 a kk) (K121_2 a kk):=by
 kernel_rfl
theorem l121_1 (q:YF) (a:D61) (kk:PK S):K121_1 a (P121 q kk)=b121_1 q a (K121_3 a kk):=by
 kernel_rfl
theorem l121_2 (q:YF) (a:D61) (kk:PK S):K121_2 a (P121 q kk)=b121_2 q a (K121_0 a kk):=by
 kernel_rfl
theorem l121_3 (q:YF) (a:D61) (kk:PK S):K121_3 a (P121 q kk)=b121_3 q a (K121_3 a kk) (K121_4 a kk):=by
 kernel_rfl
theorem l121_4 (q:YF) (a:D61) (kk:PK S):K121_4 a (P121 q kk)=b121_4 q a (K121_5 a kk):=by
 kernel_rfl
theorem l121_5 (q:YF) (a:D61) (kk:PK S):K121_5 a (P121 q kk)=b121_5 q a (K121_5 a kk) (K121_6 a kk):=by
 kernel_rfl
theorem l121_6 (q:YF) (a:D61) (kk:PK S):K121_6 a (P121 q kk)=b121_6 q a:=by
 kernel_rfl
theorem l121_in (q:YF) (a:D61) (kk:PK S):BG q kk 121 Tryz.f121 [ag (e61 a)]=e121_in q a (K121_0 a kk):=by
 kernel_rfl
theorem h121 (q:YF) (a:D61):∀ n,K121_0 a (H121 q n)=D121_0 (X121n q a n)∧K121_1 a (H121 q n)=D121_1 (X121n q a n)∧K121_2 a (H121 q n)=D121_2 (X121n q a n)∧K121_3 a (H121 q n)=D121_3 (X121n q a n)∧K121_4 a (H121 q n)=D121_4 (X121n q a n)∧K121_5 a (H121 q n)=D121_5 (X121n q a n)∧K121_6 a (H121 q n)=D121_6 (X121n q a n)
 | 0=>⟨rfl,rfl,rfl,rfl,rfl,rfl,rfl⟩
 | n+1=>by
  obtain ⟨h0,h1,h2,h3,h4,h5,h6⟩:=h121 q a n
  exact ⟨(l121_0 q a (H121 q n)).trans (by rw [h1,h2];kernel_rfl),(l121_1 q a (H121 q n)).trans (by rw [h3];kernel_rfl),(l121_2 q a (H121 q n)).trans (by rw [h0];kernel_rfl),(l121_3 q a (H121 q n)).trans (by rw [h3,h4];kernel_rfl),(l121_4 q a (H121 q n)).trans (by rw [h5];kernel_rfl),(l121_5 q a (H121 q n)).trans (by rw [h5,h6];kernel_rfl),(l121_6 q a (H121 q n)).trans (by kernel_rfl)⟩
theorem W121 (a:D61) (n:Nat) (x:S) (h:e121_in (regs O) a (D121_0 (X121n (regs O) a n))=some x):(W O).callT 121 [ag (e61 a)]=some x:=by
 refine WG (fn:=Tryz.f121) (by kernel_rfl) (by kernel_rfl) (n:=n) ?_
 refine (l121_in (regs O) a (H121 (regs O) n)).trans ?_
 obtain ⟨h0,h1,h2,h3,h4,h5,h6⟩:=h121 (regs O) a n
 rw [h0]
 exact h
abbrev P122 (q:YF) (kk:PK S):PK S:=PG q 122 Tryz.f122 kk
abbrev H122 (q:YF):Nat→PK S:=HG q 122 Tryz.f122
def s122_0 (a:BA) (v0:Bool) (u1:S) (u2:Bool) (u3:S):St:=mkSt [(0,ss a),(8,bb v0),(4,bb (strEq a (bs []))),(2,bb false),(6,u1),(5,bb u2),(3,ss a),(7,u3)] 8 []
abbrev T122_0:Type:=Bool→S→Bool→S→OS
def K122_0 (a:BA) (kk:PK S):T122_0:=fun v0 u1 u2 u3=> kk 1 7 1 (s122_0 a v0 u1 u2 u3)
def b122_0 (q:YF) (a:BA) (v0:Bool) (u1:S) (u2:Bool) (u3:S):OS:=some (bb v0)
def e122_in (q:YF) (a:BA) (k0:T122_0):OS:=bif strEq a (bs []) then k0 true S.ud true S.ud else yC q 101 [ss a] fun y=>k0 (y.b 0) (ss a) false (bb (y.b 0))
structure X122 where
 x0:Bool→OS
def D122_0 (X:X122):T122_0:=fun v0 _ _ _=>X.x0 v0
def X122s (q:YF) (a:BA) (X:X122):X122:=⟨fun v0=>b122_0 q a v0 dd dd dd⟩
def X122n (q:YF) (a:BA):Nat→X122
 | 0=>⟨fun _=>none⟩
 | n+1=>X122s q a (X122n q a n)
theorem l122_0 (q:YF) (a:BA) (kk:PK S):K122_0 a (P122 q kk)=b122_0 q a:=by
 kernel_rfl
theorem l122_in (q:YF) (a:BA) (kk:PK S):BG q kk 122 Tryz.f122 [ss a]=e122_in q a (K122_0 a kk):=by
 kernel_rfl
theorem h122 (q:YF) (a:BA):∀ n,K122_0 a (H122 q n)=D122_0 (X122n q a n)
 | 0=>rfl
 | n+1=>by
  have h0:=h122 q a n
  exact (l122_0 q a (H122 q n)).trans (by kernel_rfl)
theorem W122 (a:BA) (n:Nat) (x:S) (h:e122_in (regs O) a (D122_0 (X122n (regs O) a n))=some x):(W O).callT 122 [ss a]=some x:=by
 refine WG (fn:=Tryz.f122) (by kernel_rfl) (by kernel_rfl) (n:=n) ?_
 refine (l122_in (regs O) a (H122 (regs O) n)).trans ?_
 have h0:=h122 (regs O) a n
 rw [h0]
 exact h
abbrev H123 (q:YF):Nat→PK S:=HG q 123 Tryz.f123
def e123_in (q:YF) (a:Rw D52) (b:BA):OS:=yC q 160 [S.t (T.rows 15 a.n fun i=>e52 (a.get i)),S.fn (Go.Fn.func 124) [] [S.pt [ts b]]] fun y=>some (bb (geI (y.i 0) 0))
theorem l123_in (q:YF) (a:Rw D52) (b:BA) (kk:PK S):BG q kk 123 Tryz.f123 [S.t (T.rows 15 a.n fun i=>e52 (a.get i)),S.fn (Go.Fn.func 124) [] [S.pt [ts b]]]=e123_in q a b:=by
 kernel_rfl
theorem W123 (a:Rw D52) (b:BA) (n:Nat) (x:S) (h:e123_in (regs O) a b=some x):(W O).callT 123 [S.t (T.rows 15 a.n fun i=>e52 (a.get i)),S.fn (Go.Fn.func 124) [] [S.pt [ts b]]]=some x:=by
 refine WG (fn:=Tryz.f123) (by kernel_rfl) (by kernel_rfl) (n:=n) ?_
 refine (l123_in (regs O) a b (H123 (regs O) n)).trans ?_
 exact h
abbrev H124 (q:YF):Nat→PK S:=HG q 124 Tryz.f124
def e124_in (q:YF) (a:D52) (b:BA):OS:=some (bb (strEq a.fName b))
theorem l124_in (q:YF) (a:D52) (b:BA) (kk:PK S):BG q kk 124 Tryz.f124 [ag (e52 a),S.pt [ts b]]=e124_in q a b:=by
 kernel_rfl
theorem W124 (a:D52) (b:BA) (n:Nat) (x:S) (h:e124_in (regs O) a b=some x):(W O).callT 124 [ag (e52 a),S.pt [ts b]]=some x:=by
 refine WG (fn:=Tryz.f124) (by kernel_rfl) (by kernel_rfl) (n:=n) ?_
 refine (l124_in (regs O) a b (H124 (regs O) n)).trans ?_
 exact h
abbrev P125 (q:YF) (kk:PK S):PK S:=PG q 125 Tryz.f125 kk
abbrev H125 (q:YF):Nat→PK S:=HG q 125 Tryz.f125
def s125_0 (a:D49) (b:D49) (v0:Bool) (u1:Int) (u2:Bool) (u3 u4:Int) (u5 u6 u7 u8:S) (u9:Bool) (u10:S):St:=mkSt [(0,ag (e49 a)),(16,u5),(8,ii u1),(4,bb false),(12,u6),(2,S.ptr 0 0),(10,bb u2),(6,ag (e49 a)),(14,u7),(1,ag (e49 b)),(17,bb v0),(9,ii u3),(5,ii u4),(13,u8),(3,S.ptr 1 0),(11,bb u9),(7,ag (e49 b)),(15,u10)] 24 [(0,B.box (List.map S.t (e49 a))),(1,B.box (List.map S.t (e49 b)))]
abbrev T125_0:Type:=Bool→Int→Bool→Int→Int→S→S→S→S→Bool→S→OS
def K125_0 (a:D49) (b:D49) (kk:PK S):T125_0:=fun v0 u1 u2 u3 u4 u5 u6 u7 u8 u9 u10=> kk 2 10 7 (s125_0 a b v0 u1 u2 u3 u4 u5 u6 u7 u8 u9 u10)
def s125_1 (a:D49) (b:D49) (v0:Bool) (u1:S) (u2:Int) (u3:S) (u4:Bool) (u5:S) (u6:Bool) (u7 u8:Int) (u9:S) (u10:Bool) (u11 u12:S) (u13:Bool) (u14 u15 u16 u17:S):St:=mkSt [(0,ag (e49 a)),(16,u1),(8,ii u2),(24,bb v0),(4,bb false),(20,u12),(12,u3),(2,S.ptr 0 0),(18,bb u13),(10,bb u4),(6,ag (e49 a)),(22,u14),(14,u5),(1,ag (e49 b)),(17,bb u6),(9,ii u7),(5,ii u8),(21,u15),(13,u9),(3,S.ptr 1 0),(19,u16),(11,bb u10),(7,ag (e49 b)),(23,u17),(15,u11)] 24 [(0,B.box (List.map S.t (e49 a))),(1,B.box (List.map S.t (e49 b)))]
abbrev T125_1:Type:=Bool→S→Int→S→Bool→S→Bool→Int→Int→S→Bool→S→S→Bool→S→S→S→S→OS
def K125_1 (a:D49) (b:D49) (kk:PK S):T125_1:=fun v0 u1 u2 u3 u4 u5 u6 u7 u8 u9 u10 u11 u12 u13 u14 u15 u16 u17=> kk 2 17 7 (s125_1 a b v0 u1 u2 u3 u4 u5 u6 u7 u8 u9 u10 u11 u12 u13 u14 u15 u16 u17)
def b125_0 (q:YF) (a:D49) (b:D49) (k1:T125_1) (v0:Bool) (u1:Int) (u2:Bool) (u3 u4:Int) (u5 u6 u7 u8:S) (u9:Bool) (u10:S):OS:=bif v0 then k1 (leI a.fa_1 b.fa_1) u5 u1 u6 u2 u7 v0 u3 u4 u8 u9 u10 (ii a.fa_1) true (ii b.fa_1) (S.ptr 1 1) (S.ptr 0 1) (bb (leI a.fa_1 b.fa_1)) else k1 false u5 u1 u6 u2 u7 v0 u3 u4 u8 u9 u10 S.ud false S.ud S.ud S.ud S.ud
def b125_1 (q:YF) (a:D49) (b:D49) (v0:Bool) (u1:S) (u2:Int) (u3:S) (u4:Bool) (u5:S) (u6:Bool) (u7 u8:Int) (u9:S) (u10:Bool) (u11 u12:S) (u13:Bool) (u14 u15 u16 u17:S):OS:=some (bb v0)
def e125_in (q:YF) (a:D49) (b:D49) (k0:T125_0):OS:=yC q 48 [ag (e49 a),ag (e49 b)] fun y=>bif eqI (y.i 0) 0 then k0 (leI a.fa_0 b.fa_0) (y.i 0) (eqI (y.i 0) 0) (y.i 0) (y.i 0) (bb (leI a.fa_0 b.fa_0)) (S.ptr 0 0) (S.ptr 1 0) (ii a.fa_0) true (ii b.fa_0) else k0 false (y.i 0) (eqI (y.i 0) 0) (y.i 0) (y.i 0) S.ud S.ud S.ud S.ud false S.ud
structure X125 where
 x0:Bool→OS
 x1:Bool→OS
def D125_0 (X:X125):T125_0:=fun v0 _ _ _ _ _ _ _ _ _ _=>X.x0 v0
def D125_1 (X:X125):T125_1:=fun v0 _ _ _ _ _ _ _ _ _ _ _ _ _ _ _ _ _=>X.x1 v0
def X125s (q:YF) (a:D49) (b:D49) (X:X125):X125:=⟨fun v0=>b125_0 q a b (D125_1 X) v0 dd dd dd dd dd dd dd dd dd dd,
 fun v0=>b125_1 q a b v0 dd dd dd dd dd dd dd dd dd dd dd dd dd dd dd dd dd⟩
def X125n (q:YF) (a:D49) (b:D49):Nat→X125
 | 0=>⟨fun _=>none,fun _=>none⟩
 | n+1=>X125s q a b (X125n q a b n)
theorem l125_0 (q:YF) (a:D49) (b:D49) (kk:PK S):K125_0 a b (P125 q kk)=b125_0 q a b (K125_1 a b kk):=by
 kernel_rfl
theorem l125_1 (q:YF) (a:D49) (b:D49) (kk:PK S):K125_1 a b (P125 q kk)=b125_1 q a b:=by
 kernel_rfl
theorem l125_in (q:YF) (a:D49) (b:D49) (kk:PK S):BG q kk 125 Tryz.f125 [ag (e49 a),ag (e49 b)]=e125_in q a b (K125_0 a b kk):=by
 kernel_rfl
theorem h125 (q:YF) (a:D49) (b:D49):∀ n,K125_0 a b (H125 q n)=D125_0 (X125n q a b n)∧K125_1 a b (H125 q n)=D125_1 (X125n q a b n)
 | 0=>⟨rfl,rfl⟩
 | n+1=>by
  obtain ⟨h0,h1⟩:=h125 q a b n
  exact ⟨(l125_0 q a b (H125 q n)).trans (by rw [h1];kernel_rfl),(l125_1 q a b (H125 q n)).trans (by kernel_rfl)⟩
theorem W125 (a:D49) (b:D49) (n:Nat) (x:S) (h:e125_in (regs O) a b (D125_0 (X125n (regs O) a b n))=some x):(W O).callT 125 [ag (e49 a),ag (e49 b)]=some x:=by
 refine WG (fn:=Tryz.f125) (by kernel_rfl) (by kernel_rfl) (n:=n) ?_
 refine (l125_in (regs O) a b (H125 (regs O) n)).trans ?_
 obtain ⟨h0,h1⟩:=h125 (regs O) a b n
 rw [h0]
 exact h
abbrev P126 (q:YF) (kk:PK S):PK S:=PG q 126 Tryz.f126 kk
abbrev H126 (q:YF):Nat→PK S:=HG q 126 Tryz.f126
def s126_0 (a:Rw D88) (v0:Int):St:=mkSt [(0,S.t (T.rows 2 a.n fun i=>e88 (a.get i))),(3,ii v0)] 0 []
def K126_0 (a:Rw D88) (kk:PK S):Int→OS:=fun v0=> kk 4 0 0 (s126_0 a v0)
def s126_1 (a:Rw D88) (v0 v1:Int):St:=mkSt [(0,S.t (T.rows 2 a.n fun i=>e88 (a.get i))),(3,ii v0),(7,ii v1)] 0 []
def K126_1 (a:Rw D88) (kk:PK S):Int→Int→OS:=fun v0 v1=> kk 16 0 0 (s126_1 a v0 v1)
def b126_0 (q:YF) (a:Rw D88) (k1:Int→Int→OS) (v0:Int):OS:=bif ltI v0 (ofN a.n) then elemO v0 a.n fun h=>yC q 71 [ss (a.get (Fin.mk v0.toNat h)).fKey] fun y=>bif !y.b 0 then some (ii 7) else elemO v0 a.n fun h=>yC q 161 [ss (a.get (Fin.mk v0.toNat h)).fKey] fun y=>bif y.b 0 then some (ii 1) else elemO v0 a.n fun h=>yC q 129 [ss (a.get (Fin.mk v0.toNat h)).fVal] fun y=>bif !y.b 0 then some (ii 20) else k1 v0 0 else some (ii 0)
def b126_1 (q:YF) (a:Rw D88) (k0:Int→OS) (k1:Int→Int→OS) (v0 v1:Int):OS:=bif ltI v1 v0 then elemO v1 a.n fun h=>elemO v0 a.n fun h_1=>bif strEq (a.get (Fin.mk v1.toNat h)).fKey (a.get (Fin.mk v0.toNat h_1)).fKey then some (ii 6) else k1 v0 (addI .i64 v1 1) else k0 (addI .i64 v0 1)
def e126_in (q:YF) (a:Rw D88) (k0:Int→OS):OS:=bif gtI (ofN a.n) 4 then some (ii 3) else k0 0
structure X126 where
 x0:Int→OS
 x1:Int→Int→OS
def D126_0 (X:X126):Int→OS:=fun v0=>X.x0 v0
def D126_1 (X:X126):Int→Int→OS:=fun v0 v1=>X.x1 v0 v1
def X126s (q:YF) (a:Rw D88) (X:X126):X126:=⟨fun v0=>b126_0 q a (D126_1 X) v0,
 fun v0 v1=>b126_1 q a (D126_0 X) (D126_1 X) v0 v1⟩
def X126n (q:YF) (a:Rw D88):Nat→X126
 | 0=>⟨fun _=>none,fun _ _=>none⟩
 | n+1=>X126s q a (X126n q a n)
theorem l126_0 (q:YF) (a:Rw D88) (kk:PK S):K126_0 a (P126 q kk)=b126_0 q a (K126_1 a kk):=by
 kernel_rfl
theorem l126_1 (q:YF) (a:Rw D88) (kk:PK S):K126_1 a (P126 q kk)=b126_1 q a (K126_0 a kk) (K126_1 a kk):=by
 kernel_rfl
theorem l126_in (q:YF) (a:Rw D88) (kk:PK S):BG q kk 126 Tryz.f126 [S.t (T.rows 2 a.n fun i=>e88 (a.get i))]=e126_in q a (K126_0 a kk):=by
 kernel_rfl
theorem h126 (q:YF) (a:Rw D88):∀ n,K126_0 a (H126 q n)=D126_0 (X126n q a n)∧K126_1 a (H126 q n)=D126_1 (X126n q a n)
 | 0=>⟨rfl,rfl⟩
 | n+1=>by
  obtain ⟨h0,h1⟩:=h126 q a n
  exact ⟨(l126_0 q a (H126 q n)).trans (by rw [h1];kernel_rfl),(l126_1 q a (H126 q n)).trans (by rw [h0,h1];kernel_rfl)⟩
theorem W126 (a:Rw D88) (n:Nat) (x:S) (h:e126_in (regs O) a (D126_0 (X126n (regs O) a n))=some x):(W O).callT 126 [S.t (T.rows 2 a.n fun i=>e88 (a.get i))]=some x:=by
 refine WG (fn:=Tryz.f126) (by kernel_rfl) (by kernel_rfl) (n:=n) ?_
 refine (l126_in (regs O) a (H126 (regs O) n)).trans ?_
 obtain ⟨h0,h1⟩:=h126 (regs O) a n
 rw [h0]
 exact h
abbrev P127 (q:YF) (kk:PK S):PK S:=PG q 127 Tryz.f127 kk
abbrev H127 (q:YF):Nat→PK S:=HG q 127 Tryz.f127
def s127_0 (a:Rw D109) (v0:Int):St:=mkSt [(0,S.t (T.rows 4 a.n fun i=>e109 (a.get i))),(3,ii v0)] 0 []
def K127_0 (a:Rw D109) (kk:PK S):Int→OS:=fun v0=> kk 4 0 0 (s127_0 a v0)
def s127_1 (a:Rw D109) (v0 v1:Int):St:=mkSt [(0,S.t (T.rows 4 a.n fun i=>e109 (a.get i))),(3,ii v0),(7,ii v1)] 0 []
def K127_1 (a:Rw D109) (kk:PK S):Int→Int→OS:=fun v0 v1=> kk 14 0 0 (s127_1 a v0 v1)
def b127_0 (q:YF) (a:Rw D109) (k1:Int→Int→OS) (v0:Int):OS:=bif ltI v0 (ofN a.n) then elemO v0 a.n fun h=>yC q 71 [ss (a.get (Fin.mk v0.toNat h)).fZone] fun y=>elemO v0 a.n fun h=>yC q 71 [ss (a.get (Fin.mk v0.toNat h)).fKind] fun y_1=>bif !y.b 0 then some (ii 7) else bif !y_1.b 0 then some (ii 7) else elemO v0 a.n fun h=>yC q 91 [ii (a.get (Fin.mk v0.toNat h)).fPrice] fun y=>bif !eqI (y.i 0) 0 then some (ii (y.i 0)) else k1 v0 0 else some (ii 0)
def b127_1 (q:YF) (a:Rw D109) (k0:Int→OS) (k1:Int→Int→OS) (v0 v1:Int):OS:=bif ltI v1 v0 then elemO v1 a.n fun h=>elemO v0 a.n fun h_1=>bif strEq (a.get (Fin.mk v1.toNat h)).fZone (a.get (Fin.mk v0.toNat h_1)).fZone then elemO v1 a.n fun h=>elemO v0 a.n fun h_2=>bif strEq (a.get (Fin.mk v1.toNat h)).fKind (a.get (Fin.mk v0.toNat h_2)).fKind then some (ii 6) else k1 v0 (addI .i64 v1 1) else k1 v0 (addI .i64 v1 1) else k0 (addI .i64 v0 1)
def e127_in (q:YF) (a:Rw D109) (k0:Int→OS):OS:=bif gtI (ofN a.n) 6 then some (ii 3) else k0 0
structure X127 where
 x0:Int→OS
 x1:Int→Int→OS
def D127_0 (X:X127):Int→OS:=fun v0=>X.x0 v0
def D127_1 (X:X127):Int→Int→OS:=fun v0 v1=>X.x1 v0 v1
def X127s (q:YF) (a:Rw D109) (X:X127):X127:=⟨fun v0=>b127_0 q a (D127_1 X) v0,
 fun v0 v1=>b127_1 q a (D127_0 X) (D127_1 X) v0 v1⟩
def X127n (q:YF) (a:Rw D109):Nat→X127
 | 0=>⟨fun _=>none,fun _ _=>none⟩
 | n+1=>X127s q a (X127n q a n)
theorem l127_0 (q:YF) (a:Rw D109) (kk:PK S):K127_0 a (P127 q kk)=b127_0 q a (K127_1 a kk):=by
 kernel_rfl
theorem l127_1 (q:YF) (a:Rw D109) (kk:PK S):K127_1 a (P127 q kk)=b127_1 q a (K127_0 a kk) (K127_1 a kk):=by
 kernel_rfl
theorem l127_in (q:YF) (a:Rw D109) (kk:PK S):BG q kk 127 Tryz.f127 [S.t (T.rows 4 a.n fun i=>e109 (a.get i))]=e127_in q a (K127_0 a kk):=by
 kernel_rfl
theorem h127 (q:YF) (a:Rw D109):∀ n,K127_0 a (H127 q n)=D127_0 (X127n q a n)∧K127_1 a (H127 q n)=D127_1 (X127n q a n)
 | 0=>⟨rfl,rfl⟩
 | n+1=>by
  obtain ⟨h0,h1⟩:=h127 q a n
  exact ⟨(l127_0 q a (H127 q n)).trans (by rw [h1];kernel_rfl),(l127_1 q a (H127 q n)).trans (by rw [h0,h1];kernel_rfl)⟩
theorem W127 (a:Rw D109) (n:Nat) (x:S) (h:e127_in (regs O) a (D127_0 (X127n (regs O) a n))=some x):(W O).callT 127 [S.t (T.rows 4 a.n fun i=>e109 (a.get i))]=some x:=by
 refine WG (fn:=Tryz.f127) (by kernel_rfl) (by kernel_rfl) (n:=n) ?_
 refine (l127_in (regs O) a (H127 (regs O) n)).trans ?_
 obtain ⟨h0,h1⟩:=h127 (regs O) a n
 rw [h0]
 exact h
abbrev P128 (q:YF) (kk:PK S):PK S:=PG q 128 Tryz.f128 kk
abbrev H128 (q:YF):Nat→PK S:=HG q 128 Tryz.f128
def s128_0 (a:Rw D68) (v0:Int):St:=mkSt [(0,S.t (T.rows 4 a.n fun i=>e68 (a.get i))),(3,ii v0)] 0 []
def K128_0 (a:Rw D68) (kk:PK S):Int→OS:=fun v0=> kk 2 0 0 (s128_0 a v0)
def b128_0 (q:YF) (a:Rw D68) (k0:Int→OS) (v0:Int):OS:=bif ltI v0 (ofN a.n) then elemO v0 a.n fun h=>yC q 162 [ag (e68 (a.get (Fin.mk v0.toNat h)))] fun y=>bif !eqI (y.i 6) 0 then some (ii (y.i 6)) else k0 (addI .i64 v0 1) else some (ii 0)
def e128_in (q:YF) (a:Rw D68) (k0:Int→OS):OS:=k0 0
structure X128 where
 x0:Int→OS
def D128_0 (X:X128):Int→OS:=fun v0=>X.x0 v0
def X128s (q:YF) (a:Rw D68) (X:X128):X128:=⟨fun v0=>b128_0 q a (D128_0 X) v0⟩
def X128n (q:YF) (a:Rw D68):Nat→X128
 | 0=>⟨fun _=>none⟩
 | n+1=>X128s q a (X128n q a n)
theorem l128_0 (q:YF) (a:Rw D68) (kk:PK S):K128_0 a (P128 q kk)=b128_0 q a (K128_0 a kk):=by
 kernel_rfl
theorem l128_in (q:YF) (a:Rw D68) (kk:PK S):BG q kk 128 Tryz.f128 [S.t (T.rows 4 a.n fun i=>e68 (a.get i))]=e128_in q a (K128_0 a kk):=by
 kernel_rfl
theorem h128 (q:YF) (a:Rw D68):∀ n,K128_0 a (H128 q n)=D128_0 (X128n q a n)
 | 0=>rfl
 | n+1=>by
  have h0:=h128 q a n
  exact (l128_0 q a (H128 q n)).trans (by rw [h0];kernel_rfl)
theorem W128 (a:Rw D68) (n:Nat) (x:S) (h:e128_in (regs O) a (D128_0 (X128n (regs O) a n))=some x):(W O).callT 128 [S.t (T.rows 4 a.n fun i=>e68 (a.get i))]=some x:=by
 refine WG (fn:=Tryz.f128) (by kernel_rfl) (by kernel_rfl) (n:=n) ?_
 refine (l128_in (regs O) a (H128 (regs O) n)).trans ?_
 have h0:=h128 (regs O) a n
 rw [h0]
 exact h
abbrev P129 (q:YF) (kk:PK S):PK S:=PG q 129 Tryz.f129 kk
abbrev H129 (q:YF):Nat→PK S:=HG q 129 Tryz.f129
def s129_0 (a:BA) (v0:Bool) (u1:Int) (u2:Bool) (u3:Int) (u4:Bool) (u5:Int) (u6 u7 u8 u9:Bool) (u10:Int) (u11 u12:Bool) (u13:S):St:=mkSt [(0,ss a),(16,bb v0),(8,S.tup [ii u1,bb u2]),(4,ii u3),(12,bb u4),(2,bb false),(10,S.tup [ii u5,bb u6]),(6,ss a),(14,bb u12),(9,ss a),(5,bb u7),(13,bb u8),(3,bb u9),(11,ii u10),(7,bb u11),(15,u13)] 16 []
abbrev T129_0:Type:=Bool→Int→Bool→Int→Bool→Int→Bool→Bool→Bool→Bool→Int→Bool→Bool→S→OS
def K129_0 (a:BA) (kk:PK S):T129_0:=fun v0 u1 u2 u3 u4 u5 u6 u7 u8 u9 u10 u11 u12 u13=> kk 3 5 11 (s129_0 a v0 u1 u2 u3 u4 u5 u6 u7 u8 u9 u10 u11 u12 u13)
def b129_0 (q:YF) (a:BA) (v0:Bool) (u1:Int) (u2:Bool) (u3:Int) (u4:Bool) (u5:Int) (u6 u7 u8 u9:Bool) (u10:Int) (u11 u12:Bool) (u13:S):OS:=some (bb v0)
def e129_in (q:YF) (a:BA) (k0:T129_0):OS:=yC q 71 [ss a] fun y=>yC q 163 [ss a] fun y_1=>bif y.b 0 then k0 true (y_1.i 0) (y_1.b 1) (y_1.i 0) (y_1.b 1) (y_1.i 0) (y_1.b 1) (y_1.b 1) (y.b 0) (y.b 0) (y_1.i 0) (y.b 0) true S.ud else k0 (y_1.b 1) (y_1.i 0) (y_1.b 1) (y_1.i 0) (y_1.b 1) (y_1.i 0) (y_1.b 1) (y_1.b 1) (y.b 0) (y.b 0) (y_1.i 0) (y.b 0) false (bb (y_1.b 1))
structure X129 where
 x0:Bool→OS
def D129_0 (X:X129):T129_0:=fun v0 _ _ _ _ _ _ _ _ _ _ _ _ _=>X.x0 v0
def X129s (q:YF) (a:BA) (X:X129):X129:=⟨fun v0=>b129_0 q a v0 dd dd dd dd dd dd dd dd dd dd dd dd dd⟩
def X129n (q:YF) (a:BA):Nat→X129
 | 0=>⟨fun _=>none⟩
 | n+1=>X129s q a (X129n q a n)
theorem l129_0 (q:YF) (a:BA) (kk:PK S):K129_0 a (P129 q kk)=b129_0 q a:=by
 kernel_rfl
theorem l129_in (q:YF) (a:BA) (kk:PK S):BG q kk 129 Tryz.f129 [ss a]=e129_in q a (K129_0 a kk):=by
 kernel_rfl
theorem h129 (q:YF) (a:BA):∀ n,K129_0 a (H129 q n)=D129_0 (X129n q a n)
 | 0=>rfl
 | n+1=>by
  have h0:=h129 q a n
  exact (l129_0 q a (H129 q n)).trans (by kernel_rfl)
theorem W129 (a:BA) (n:Nat) (x:S) (h:e129_in (regs O) a (D129_0 (X129n (regs O) a n))=some x):(W O).callT 129 [ss a]=some x:=by
 refine WG (fn:=Tryz.f129) (by kernel_rfl) (by kernel_rfl) (n:=n) ?_
 refine (l129_in (regs O) a (H129 (regs O) n)).trans ?_
 have h0:=h129 (regs O) a n
 rw [h0]
 exact h
abbrev P130 (q:YF) (kk:PK S):PK S:=PG q 130 Tryz.f130 kk
abbrev H130 (q:YF):Nat→PK S:=HG q 130 Tryz.f130
def s130_0 (a:D47) (v0 u1:Bool) (u2:S) (u3:Bool) (u4 u5:S):St:=mkSt [(0,ag (e47 a)),(8,u2),(4,ss a.fType),(2,bb false),(10,bb v0),(6,bb u3),(1,S.ptr 0 0),(9,u4),(5,bb u1),(3,S.ptr 0 0),(7,u5)] 16 [(0,B.box (List.map S.t (e47 a)))]
abbrev T130_0:Type:=Bool→Bool→S→Bool→S→S→OS
def K130_0 (a:D47) (kk:PK S):T130_0:=fun v0 u1 u2 u3 u4 u5=> kk 1 9 2 (s130_0 a v0 u1 u2 u3 u4 u5)
def s130_1 (a:D47) (v0:Bool) (u1:S) (u2 u3:Bool) (u4:S) (u5:Bool) (u6 u7 u8 u9:S) (u10:Bool):St:=mkSt [(0,ag (e47 a)),(8,u1),(4,ss a.fType),(12,u7),(2,bb false),(10,bb u2),(6,bb u3),(14,u8),(1,S.ptr 0 0),(9,u4),(5,bb u5),(13,u9),(3,S.ptr 0 0),(11,bb u10),(7,u6),(15,bb v0)] 16 [(0,B.box (List.map S.t (e47 a)))]
abbrev T130_1:Type:=Bool→S→Bool→Bool→S→Bool→S→S→S→S→Bool→OS
def K130_1 (a:D47) (kk:PK S):T130_1:=fun v0 u1 u2 u3 u4 u5 u6 u7 u8 u9 u10=> kk 1 14 2 (s130_1 a v0 u1 u2 u3 u4 u5 u6 u7 u8 u9 u10)
def b130_0 (q:YF) (a:D47) (k1:T130_1) (v0 u1:Bool) (u2:S) (u3:Bool) (u4 u5:S):OS:=bif v0 then yC q 71 [ss a.fKind] fun y=>k1 (y.b 0) u2 v0 u3 u4 u1 u5 (S.ptr 0 2) (bb (y.b 0)) (ss a.fKind) true else k1 false u2 v0 u3 u4 u1 u5 S.ud S.ud S.ud false
def b130_1 (q:YF) (a:D47) (v0:Bool) (u1:S) (u2 u3:Bool) (u4:S) (u5:Bool) (u6 u7 u8 u9:S) (u10:Bool):OS:=some (bb v0)
def e130_in (q:YF) (a:D47) (k0:T130_0):OS:=yC q 71 [ss a.fType] fun y=>bif y.b 0 then yC q 71 [ss a.fZone] fun y_1=>k0 (y_1.b 0) (y.b 0) (ss a.fZone) true (bb (y_1.b 0)) (S.ptr 0 1) else k0 false (y.b 0) S.ud false S.ud S.ud
structure X130 where
 x0:Bool→OS
 x1:Bool→OS
def D130_0 (X:X130):T130_0:=fun v0 _ _ _ _ _=>X.x0 v0
def D130_1 (X:X130):T130_1:=fun v0 _ _ _ _ _ _ _ _ _ _=>X.x1 v0
def X130s (q:YF) (a:D47) (X:X130):X130:=⟨fun v0=>b130_0 q a (D130_1 X) v0 dd dd dd dd dd,
 fun v0=>b130_1 q a v0 dd dd dd dd dd dd dd dd dd dd⟩
def X130n (q:YF) (a:D47):Nat→X130
 | 0=>⟨fun _=>none,fun _=>none⟩
 | n+1=>X130s q a (X130n q a n)
theorem l130_0 (q:YF) (a:D47) (kk:PK S):K130_0 a (P130 q kk)=b130_0 q a (K130_1 a kk):=by
 kernel_rfl
theorem l130_1 (q:YF) (a:D47) (kk:PK S):K130_1 a (P130 q kk)=b130_1 q a:=by
 kernel_rfl
theorem l130_in (q:YF) (a:D47) (kk:PK S):BG q kk 130 Tryz.f130 [ag (e47 a)]=e130_in q a (K130_0 a kk):=by
 kernel_rfl
theorem h130 (q:YF) (a:D47):∀ n,K130_0 a (H130 q n)=D130_0 (X130n q a n)∧K130_1 a (H130 q n)=D130_1 (X130n q a n)
 | 0=>⟨rfl,rfl⟩
 | n+1=>by
  obtain ⟨h0,h1⟩:=h130 q a n
  exact ⟨(l130_0 q a (H130 q n)).trans (by rw [h1];kernel_rfl),(l130_1 q a (H130 q n)).trans (by kernel_rfl)⟩
theorem W130 (a:D47) (n:Nat) (x:S) (h:e130_in (regs O) a (D130_0 (X130n (regs O) a n))=some x):(W O).callT 130 [ag (e47 a)]=some x:=by
 refine WG (fn:=Tryz.f130) (by kernel_rfl) (by kernel_rfl) (n:=n) ?_
 refine (l130_in (regs O) a (H130 (regs O) n)).trans ?_
 obtain ⟨h0,h1⟩:=h130 (regs O) a n
 rw [h0]
 exact h
abbrev P131 (q:YF) (kk:PK S):PK S:=PG q 131 Tryz.f131 kk
abbrev H131 (q:YF):Nat→PK S:=HG q 131 Tryz.f131
def s131_0 (a:Rw D47) (v0:Int):St:=mkSt [(0,S.t (T.rows 3 a.n fun i=>e47 (a.get i))),(12,ii v0),(10,S.t (T.rows 3 a.n fun i=>e47 (a.get i))),(11,ii (ofN a.n))] 0 []
def K131_0 (a:Rw D47) (kk:PK S):Int→OS:=fun v0=> kk 4 0 0 (s131_0 a v0)
def s131_1 (a:Rw D47) (v0:Rw D47) (v1:D47) (v2 v3 v4:Int):St:=mkSt [(0,S.t (T.rows 3 a.n fun i=>e47 (a.get i))),(24,ii v4),(4,S.ptr 0 0),(12,ii v2),(10,S.t (T.rows 3 a.n fun i=>e47 (a.get i))),(22,S.t (T.rows 3 v0.n fun i=>e47 (v0.get i))),(11,ii (ofN a.n)),(23,ii v3)] 1 [(0,B.box (List.map S.t (e47 v1)))]
abbrev T131_1:Type:=(Rw D47)→D47→Int→Int→Int→OS
def K131_1 (a:Rw D47) (kk:PK S):T131_1:=fun v0 v1 v2 v3 v4=> kk 9 0 0 (s131_1 a v0 v1 v2 v3 v4)
def b131_0 (q:YF) (a:Rw D47) (k1:T131_1) (v0:Int):OS:=bif ltI v0 (ofN a.n) then elemO v0 a.n fun h=>yC q 130 [ag (e47 (a.get (Fin.mk v0.toNat h)))] fun y=>bif !y.b 0 then some (ii 7) else bif leI 0 v0 && leI v0 (ofN a.n) then subO 0 (toN v0) a.n fun h_1=>k1 (Rw.mk (toN v0) fun i=>a.get (Fin.mk (0+↑i) (by first | omega | (have:=i.2;omega) | (have:=i_1.2;omega)))) (a.get (Fin.mk v0.toNat h)) v0 (ofN (toN v0)) 0 else none else some (ii 0)
def b131_1 (q:YF) (a:Rw D47) (k0:Int→OS) (k1:T131_1) (v0:Rw D47) (v1:D47) (v2 v3 v4:Int):OS:=bif ltI v4 v3 then elemO v4 v0.n fun h=>bif strEq (v0.get (Fin.mk v4.toNat h)).fType v1.fType && (strEq (v0.get (Fin.mk v4.toNat h)).fZone v1.fZone && (strEq (v0.get (Fin.mk v4.toNat h)).fKind v1.fKind && true)) then some (ii 6) else k1 v0 v1 v2 v3 (addI .i64 v4 1) else k0 (addI .i64 v2 1)
def e131_in (q:YF) (a:Rw D47) (k0:Int→OS):OS:=bif gtI (ofN a.n) 72 then some (ii 3) else k0 0
structure X131 where
 x0:Int→OS
 x1:(Rw D47)→D47→Int→Int→Int→OS
def D131_0 (X:X131):Int→OS:=fun v0=>X.x0 v0
def D131_1 (X:X131):T131_1:=fun v0 v1 v2 v3 v4=>X.x1 v0 v1 v2 v3 v4
def X131s (q:YF) (a:Rw D47) (X:X131):X131:=⟨fun v0=>b131_0 q a (D131_1 X) v0,
 fun v0 v1 v2 v3 v4=>b131_1 q a (D131_0 X) (D131_1 X) v0 v1 v2 v3 v4⟩
def X131n (q:YF) (a:Rw D47):Nat→X131
 | 0=>⟨fun _=>none,fun _ _ _ _ _=>none⟩
 | n+1=>X131s q a (X131n q a n)
theorem l131_0 (q:YF) (a:Rw D47) (kk:PK S):K131_0 a (P131 q kk)=b131_0 q a (K131_1 a kk):=by
 kernel_rfl
theorem l131_1 (q:YF) (a:Rw D47) (kk:PK S):K131_1 a (P131 q kk)=b131_1 q a (K131_0 a kk) (K131_1 a kk):=by
 kernel_rfl
theorem l131_in (q:YF) (a:Rw D47) (kk:PK S):BG q kk 131 Tryz.f131 [S.t (T.rows 3 a.n fun i=>e47 (a.get i))]=e131_in q a (K131_0 a kk):=by
 kernel_rfl
theorem h131 (q:YF) (a:Rw D47):∀ n,K131_0 a (H131 q n)=D131_0 (X131n q a n)∧K131_1 a (H131 q n)=D131_1 (X131n q a n)
 | 0=>⟨rfl,rfl⟩
 | n+1=>by
  obtain ⟨h0,h1⟩:=h131 q a n
  exact ⟨(l131_0 q a (H131 q n)).trans (by rw [h1];kernel_rfl),(l131_1 q a (H131 q n)).trans (by rw [h0,h1];kernel_rfl)⟩
theorem W131 (a:Rw D47) (n:Nat) (x:S) (h:e131_in (regs O) a (D131_0 (X131n (regs O) a n))=some x):(W O).callT 131 [S.t (T.rows 3 a.n fun i=>e47 (a.get i))]=some x:=by
 refine WG (fn:=Tryz.f131) (by kernel_rfl) (by kernel_rfl) (n:=n) ?_
 refine (l131_in (regs O) a (H131 (regs O) n)).trans ?_
 obtain ⟨h0,h1⟩:=h131 (regs O) a n
 rw [h0]
 exact h
abbrev H132 (q:YF):Nat→PK S:=HG q 132 Tryz.f132
def e132_in (q:YF) (a:D49) (b:D49):OS:=yC q 48 [ag (e49 a),ag (e49 b)] fun y=>bif !eqI (y.i 0) 0 then some (S.tup [S.agg [ii 0,ii 0],ii (y.i 0)]) else bif gtI b.fa_0 a.fa_0 then some (S.tup [S.agg [ii 0,ii 0],ii 11]) else bif gtI b.fa_1 a.fa_1 then some (S.tup [S.agg [ii 0,ii 0],ii 11]) else some (S.tup [S.agg [ii (subI .i64 a.fa_0 b.fa_0),ii (subI .i64 a.fa_1 b.fa_1)],ii 0])
theorem l132_in (q:YF) (a:D49) (b:D49) (kk:PK S):BG q kk 132 Tryz.f132 [ag (e49 a),ag (e49 b)]=e132_in q a b:=by
 kernel_rfl
theorem W132 (a:D49) (b:D49) (n:Nat) (x:S) (h:e132_in (regs O) a b=some x):(W O).callT 132 [ag (e49 a),ag (e49 b)]=some x:=by
 refine WG (fn:=Tryz.f132) (by kernel_rfl) (by kernel_rfl) (n:=n) ?_
 refine (l132_in (regs O) a b (H132 (regs O) n)).trans ?_
 exact h
abbrev H143 (q:YF):Nat→PK S:=HG q 143 Tryz.f143
def e143_in (q:YF) (a:D49) (b:D49):OS:=yC q 102 [ag (e49 a)] fun y=>bif !eqI (y.i 0) 0 then some (ii (y.i 0)) else yC q 102 [ag (e49 b)] fun y=>some (ii (y.i 0))
theorem l143_in (q:YF) (a:D49) (b:D49) (kk:PK S):BG q kk 143 Tryz.f143 [ag (e49 a),ag (e49 b)]=e143_in q a b:=by
 kernel_rfl
theorem W143 (a:D49) (b:D49) (n:Nat) (x:S) (h:e143_in (regs O) a b=some x):(W O).callT 143 [ag (e49 a),ag (e49 b)]=some x:=by
 refine WG (fn:=Tryz.f143) (by kernel_rfl) (by kernel_rfl) (n:=n) ?_
 refine (l143_in (regs O) a b (H143 (regs O) n)).trans ?_
 exact h
abbrev P144 (q:YF) (kk:PK S):PK S:=PG q 144 Tryz.f144 kk
abbrev H144 (q:YF):Nat→PK S:=HG q 144 Tryz.f144
def s144_0 (a:D49) (b:D49):St:=mkSt [(4,S.ptr 2 0),(2,S.ptr 0 0),(6,ii 0),(3,S.ptr 1 0)] 3 [(0,B.box (List.map S.t (e49 a))),(2,B.box [ii 0,ii 0]),(1,B.box (List.map S.t (e49 b)))]
def K144_0 (a:D49) (b:D49) (kk:PK S):OS:=kk 2 0 0 (s144_0 a b)
def s144_1 (a:D49) (b:D49):St:=mkSt [(4,S.ptr 2 0),(2,S.ptr 0 0),(6,ii 1),(3,S.ptr 1 0)] 3 [(0,B.box [ii (Bool.rec ((fun _=>a.fa_0) ()) ((fun _=>b.fa_0) ()) (decide (b.fa_0 < a.fa_0))),ii a.fa_1]),(2,B.box [ii 0,ii 0]),(1,B.box (List.map S.t (e49 b)))]
def K144_1 (a:D49) (b:D49) (kk:PK S):OS:=kk 2 0 0 (s144_1 a b)
def s144_2 (a:D49) (b:D49):St:=mkSt [(4,S.ptr 2 0),(2,S.ptr 0 0),(6,ii 2),(3,S.ptr 1 0)] 3 [(0,B.box [ii (Bool.rec ((fun _=>a.fa_0) ()) ((fun _=>b.fa_0) ()) (decide (b.fa_0 < a.fa_0))),ii (Bool.rec ((fun _=>a.fa_1) ()) ((fun _=>b.fa_1) ()) (decide (b.fa_1 < a.fa_1)))]),(2,B.box [ii 0,ii 0]),(1,B.box (List.map S.t (e49 b)))]
def K144_2 (a:D49) (b:D49) (kk:PK S):OS:=kk 2 0 0 (s144_2 a b)
def b144_0 (q:YF) (a:D49) (b:D49) (k1:OS):OS:=k1
def b144_1 (q:YF) (a:D49) (b:D49) (k2:OS):OS:=k2
def b144_2 (q:YF) (a:D49) (b:D49):OS:=some (S.agg [ii (Bool.rec ((fun _=>a.fa_0) ()) ((fun _=>b.fa_0) ()) (decide (b.fa_0 < a.fa_0))),ii (Bool.rec ((fun _=>a.fa_1) ()) ((fun _=>b.fa_1) ()) (decide (b.fa_1 < a.fa_1)))])
def e144_in (q:YF) (a:D49) (b:D49) (k0:OS):OS:=k0
structure X144 where
 x0:OS
 x1:OS
 x2:OS
def D144_0 (X:X144):OS:=X.x0
def D144_1 (X:X144):OS:=X.x1
def D144_2 (X:X144):OS:=X.x2
def X144s (q:YF) (a:D49) (b:D49) (X:X144):X144:=⟨b144_0 q a b (D144_1 X),
 b144_1 q a b (D144_2 X),
 b144_2 q a b⟩
def X144n (q:YF) (a:D49) (b:D49):Nat→X144
 | 0=>⟨none,none,none⟩
 | n+1=>X144s q a b (X144n q a b n)
theorem l144_0 (q:YF) (a:D49) (b:D49) (kk:PK S):K144_0 a b (P144 q kk)=b144_0 q a b (K144_1 a b kk):=by
 kernel_rfl
theorem l144_1 (q:YF) (a:D49) (b:D49) (kk:PK S):K144_1 a b (P144 q kk)=b144_1 q a b (K144_2 a b kk):=by
 kernel_rfl
theorem l144_2 (q:YF) (a:D49) (b:D49) (kk:PK S):K144_2 a b (P144 q kk)=b144_2 q a b:=by
 kernel_rfl
theorem l144_in (q:YF) (a:D49) (b:D49) (kk:PK S):BG q kk 144 Tryz.f144 [ag (e49 a),ag (e49 b)]=e144_in q a b (K144_0 a b kk):=by
 kernel_rfl
theorem h144 (q:YF) (a:D49) (b:D49):∀ n,K144_0 a b (H144 q n)=D144_0 (X144n q a b n)∧K144_1 a b (H144 q n)=D144_1 (X144n q a b n)∧K144_2 a b (H144 q n)=D144_2 (X144n q a b n)
 | 0=>⟨rfl,rfl,rfl⟩
 | n+1=>by
  obtain ⟨h0,h1,h2⟩:=h144 q a b n
  exact ⟨(l144_0 q a b (H144 q n)).trans (by rw [h1];kernel_rfl),(l144_1 q a b (H144 q n)).trans (by rw [h2];kernel_rfl),(l144_2 q a b (H144 q n)).trans (by kernel_rfl)⟩
theorem W144 (a:D49) (b:D49) (n:Nat) (x:S) (h:e144_in (regs O) a b (D144_0 (X144n (regs O) a b n))=some x):(W O).callT 144 [ag (e49 a),ag (e49 b)]=some x:=by
 refine WG (fn:=Tryz.f144) (by kernel_rfl) (by kernel_rfl) (n:=n) ?_
 refine (l144_in (regs O) a b (H144 (regs O) n)).trans ?_
 obtain ⟨h0,h1,h2⟩:=h144 (regs O) a b n
 rw [h0]
 exact h
abbrev H145 (q:YF):Nat→PK S:=HG q 145 Tryz.f145
def e145_in (q:YF) (a:Rw BA) (b:BA):OS:=yC q 182 [S.t (T.rows 1 a.n fun i=>[ts (a.get i)]),ss b] fun y=>some (bb (geI (y.i 0) 0))
theorem l145_in (q:YF) (a:Rw BA) (b:BA) (kk:PK S):BG q kk 145 Tryz.f145 [S.t (T.rows 1 a.n fun i=>e9 (a.get i)),ss b]=e145_in q a b:=by
 kernel_rfl
theorem W145 (a:Rw BA) (b:BA) (n:Nat) (x:S) (h:e145_in (regs O) a b=some x):(W O).callT 145 [S.t (T.rows 1 a.n fun i=>e9 (a.get i)),ss b]=some x:=by
 refine WG (fn:=Tryz.f145) (by kernel_rfl) (by kernel_rfl) (n:=n) ?_
 refine (l145_in (regs O) a b (H145 (regs O) n)).trans ?_
 exact h
abbrev P146 (q:YF) (kk:PK S):PK S:=PG q 146 Tryz.f146 kk
abbrev H146 (q:YF):Nat→PK S:=HG q 146 Tryz.f146
def s146_0 (a:BA) (v0:Bool) (u1:Int) (u2:Bool) (u3:Int) (u4:Bool) (u5:Int) (u6:Bool) (u7:Int) (u8 u9 u10:Bool) (u11 u12:S):St:=mkSt [(0,ss a),(2,bb false),(3,ii u1),(4,bb u2),(5,S.tup [ii u3,bb u4]),(6,ss a),(7,S.tup [ii u5,bb u6]),(8,ii u7),(9,bb u8),(10,bb u9),(11,bb u10),(12,u11),(13,u12),(14,bb v0)] 14 []
abbrev T146_0:Type:=Bool→Int→Bool→Int→Bool→Int→Bool→Int→Bool→Bool→Bool→S→S→OS
def K146_0 (a:BA) (kk:PK S):T146_0:=fun v0 u1 u2 u3 u4 u5 u6 u7 u8 u9 u10 u11 u12=> kk 2 6 8 (s146_0 a v0 u1 u2 u3 u4 u5 u6 u7 u8 u9 u10 u11 u12)
def b146_0 (q:YF) (a:BA) (v0:Bool) (u1:Int) (u2:Bool) (u3:Int) (u4:Bool) (u5:Int) (u6:Bool) (u7:Int) (u8 u9 u10:Bool) (u11 u12:S):OS:=some (bb v0)
def e146_in (q:YF) (a:BA) (k0:T146_0):OS:=yC q 183 [ss a] fun y=>bif y.b 1 then k0 true (y.i 0) (y.b 1) (y.i 0) (y.b 1) (y.i 0) (y.b 1) (y.i 0) (y.b 1) (y.b 1) true S.ud S.ud else yC q 101 [ss a] fun y_1=>k0 (y_1.b 0) (y.i 0) (y.b 1) (y.i 0) (y.b 1) (y.i 0) (y.b 1) (y.i 0) (y.b 1) (y.b 1) false (ss a) (bb (y_1.b 0))
structure X146 where
 x0:Bool→OS
def D146_0 (X:X146):T146_0:=fun v0 _ _ _ _ _ _ _ _ _ _ _ _=>X.x0 v0
def X146s (q:YF) (a:BA) (X:X146):X146:=⟨fun v0=>b146_0 q a v0 dd dd dd dd dd dd dd dd dd dd dd dd⟩
def X146n (q:YF) (a:BA):Nat→X146
 | 0=>⟨fun _=>none⟩
 | n+1=>X146s q a (X146n q a n)
theorem l146_0 (q:YF) (a:BA) (kk:PK S):K146_0 a (P146 q kk)=b146_0 q a:=by
 kernel_rfl
theorem l146_in (q:YF) (a:BA) (kk:PK S):BG q kk 146 Tryz.f146 [ss a]=e146_in q a (K146_0 a kk):=by
 kernel_rfl
theorem h146 (q:YF) (a:BA):∀ n,K146_0 a (H146 q n)=D146_0 (X146n q a n)
 | 0=>rfl
 | n+1=>by
  have h0:=h146 q a n
  exact (l146_0 q a (H146 q n)).trans (by kernel_rfl)
theorem W146 (a:BA) (n:Nat) (x:S) (h:e146_in (regs O) a (D146_0 (X146n (regs O) a n))=some x):(W O).callT 146 [ss a]=some x:=by
 refine WG (fn:=Tryz.f146) (by kernel_rfl) (by kernel_rfl) (n:=n) ?_
 refine (l146_in (regs O) a (H146 (regs O) n)).trans ?_
 have h0:=h146 (regs O) a n
 rw [h0]
 exact h
abbrev H147 (q:YF):Nat→PK S:=HG q 147 Tryz.f147
def e147_in (q:YF) (a:Rw D88) (b:D88):OS:=yC q 184 [S.t (T.rows 2 a.n fun i=>e88 (a.get i)),S.fn (Go.Fn.func 148) [] [S.pt (e88 b)]] fun y=>some (bb (geI (y.i 0) 0))
theorem l147_in (q:YF) (a:Rw D88) (b:D88) (kk:PK S):BG q kk 147 Tryz.f147 [S.t (T.rows 2 a.n fun i=>e88 (a.get i)),S.fn (Go.Fn.func 148) [] [S.pt (e88 b)]]=e147_in q a b:=by
 kernel_rfl
theorem W147 (a:Rw D88) (b:D88) (n:Nat) (x:S) (h:e147_in (regs O) a b=some x):(W O).callT 147 [S.t (T.rows 2 a.n fun i=>e88 (a.get i)),S.fn (Go.Fn.func 148) [] [S.pt (e88 b)]]=some x:=by
 refine WG (fn:=Tryz.f147) (by kernel_rfl) (by kernel_rfl) (n:=n) ?_
 refine (l147_in (regs O) a b (H147 (regs O) n)).trans ?_
 exact h
abbrev H147b (q:YF):Nat→PK S:=HG q 147 Tryz.f147
def e147b_in (q:YF) (a:Rw D88) (b:D88):OS:=yC q 184 [S.t (T.rows 2 a.n fun i=>e88 (a.get i)),S.fn (Go.Fn.func 154) [] [S.pt (e88 b)]] fun y=>some (bb (geI (y.i 0) 0))
theorem l147b_in (q:YF) (a:Rw D88) (b:D88) (kk:PK S):BG q kk 147 Tryz.f147 [S.t (T.rows 2 a.n fun i=>e88 (a.get i)),S.fn (Go.Fn.func 154) [] [S.pt (e88 b)]]=e147b_in q a b:=by
 kernel_rfl
theorem W147b (a:Rw D88) (b:D88) (n:Nat) (x:S) (h:e147b_in (regs O) a b=some x):(W O).callT 147 [S.t (T.rows 2 a.n fun i=>e88 (a.get i)),S.fn (Go.Fn.func 154) [] [S.pt (e88 b)]]=some x:=by
 refine WG (fn:=Tryz.f147) (by kernel_rfl) (by kernel_rfl) (n:=n) ?_
 refine (l147b_in (regs O) a b (H147b (regs O) n)).trans ?_
 exact h
abbrev H148 (q:YF):Nat→PK S:=HG q 148 Tryz.f148
def e148_in (q:YF) (a:D88) (b:D88):OS:=some (bb (strEq a.fKey b.fKey))
theorem l148_in (q:YF) (a:D88) (b:D88) (kk:PK S):BG q kk 148 Tryz.f148 [ag (e88 a),S.pt (e88 b)]=e148_in q a b:=by
 kernel_rfl
theorem W148 (a:D88) (b:D88) (n:Nat) (x:S) (h:e148_in (regs O) a b=some x):(W O).callT 148 [ag (e88 a),S.pt (e88 b)]=some x:=by
 refine WG (fn:=Tryz.f148) (by kernel_rfl) (by kernel_rfl) (n:=n) ?_
 refine (l148_in (regs O) a b (H148 (regs O) n)).trans ?_
 exact h
abbrev H149 (q:YF):Nat→PK S:=HG q 149 Tryz.f149
def e149_in (q:YF) (a:Rw D109) (b:D109):OS:=yC q 185 [S.t (T.rows 4 a.n fun i=>e109 (a.get i)),S.fn (Go.Fn.func 150) [] [S.pt (e109 b)]] fun y=>some (bb (geI (y.i 0) 0))
theorem l149_in (q:YF) (a:Rw D109) (b:D109) (kk:PK S):BG q kk 149 Tryz.f149 [S.t (T.rows 4 a.n fun i=>e109 (a.get i)),S.fn (Go.Fn.func 150) [] [S.pt (e109 b)]]=e149_in q a b:=by
 kernel_rfl
theorem W149 (a:Rw D109) (b:D109) (n:Nat) (x:S) (h:e149_in (regs O) a b=some x):(W O).callT 149 [S.t (T.rows 4 a.n fun i=>e109 (a.get i)),S.fn (Go.Fn.func 150) [] [S.pt (e109 b)]]=some x:=by
 refine WG (fn:=Tryz.f149) (by kernel_rfl) (by kernel_rfl) (n:=n) ?_
 refine (l149_in (regs O) a b (H149 (regs O) n)).trans ?_
 exact h
abbrev P150 (q:YF) (kk:PK S):PK S:=PG q 150 Tryz.f150 kk
abbrev H150 (q:YF):Nat→PK S:=HG q 150 Tryz.f150
def s150_0 (a:D109) (b:D109) (v0:Bool) (u1 u2 u3:S) (u4:Bool) (u5 u6:S):St:=mkSt [(0,ag (e109 a)),(8,bb (strEq a.fZone b.fZone)),(4,S.ptr 0 0),(12,u1),(2,S.ptr 0 0),(10,u2),(6,S.pt (e109 b)),(14,u3),(1,S.pt (e109 b)),(9,bb u4),(5,ss a.fZone),(13,u5),(3,bb false),(11,u6),(7,ss b.fZone),(15,bb v0)] 15 [(0,B.box (List.map S.t (e109 a)))]
abbrev T150_0:Type:=Bool→S→S→S→Bool→S→S→OS
def K150_0 (a:D109) (b:D109) (kk:PK S):T150_0:=fun v0 u1 u2 u3 u4 u5 u6=> kk 1 13 2 (s150_0 a b v0 u1 u2 u3 u4 u5 u6)
def b150_0 (q:YF) (a:D109) (b:D109) (v0:Bool) (u1 u2 u3:S) (u4:Bool) (u5 u6:S):OS:=some (bb v0)
def e150_in (q:YF) (a:D109) (b:D109) (k0:T150_0):OS:=bif strEq a.fZone b.fZone then k0 (strEq a.fKind b.fKind) (S.pt [ts b.fKind,ti b.fPrice,tb b.fOpen]) (S.ptr 0 1) (bb (strEq a.fKind b.fKind)) true (ss b.fKind) (ss a.fKind) else k0 false S.ud S.ud S.ud false S.ud S.ud
structure X150 where
 x0:Bool→OS
def D150_0 (X:X150):T150_0:=fun v0 _ _ _ _ _ _=>X.x0 v0
def X150s (q:YF) (a:D109) (b:D109) (X:X150):X150:=⟨fun v0=>b150_0 q a b v0 dd dd dd dd dd dd⟩
def X150n (q:YF) (a:D109) (b:D109):Nat→X150
 | 0=>⟨fun _=>none⟩
 | n+1=>X150s q a b (X150n q a b n)
theorem l150_0 (q:YF) (a:D109) (b:D109) (kk:PK S):K150_0 a b (P150 q kk)=b150_0 q a b:=by
 kernel_rfl
theorem l150_in (q:YF) (a:D109) (b:D109) (kk:PK S):BG q kk 150 Tryz.f150 [ag (e109 a),S.pt (e109 b)]=e150_in q a b (K150_0 a b kk):=by
 kernel_rfl
theorem h150 (q:YF) (a:D109) (b:D109):∀ n,K150_0 a b (H150 q n)=D150_0 (X150n q a b n)
 | 0=>rfl
 | n+1=>by
  have h0:=h150 q a b n
  exact (l150_0 q a b (H150 q n)).trans (by kernel_rfl)
theorem W150 (a:D109) (b:D109) (n:Nat) (x:S) (h:e150_in (regs O) a b (D150_0 (X150n (regs O) a b n))=some x):(W O).callT 150 [ag (e109 a),S.pt (e109 b)]=some x:=by
 refine WG (fn:=Tryz.f150) (by kernel_rfl) (by kernel_rfl) (n:=n) ?_
 refine (l150_in (regs O) a b (H150 (regs O) n)).trans ?_
 have h0:=h150 (regs O) a b n
 rw [h0]
 exact h
abbrev H151 (q:YF):Nat→PK S:=HG q 151 Tryz.f151
def e151_in (q:YF) (a:Rw BA):OS:=yC q 186 [S.t (T.rows 1 a.n fun i=>[ts (a.get i)]),S.t (T.v (.func (Go.Fn.func 152) #[] #[]))] fun y=>some (bb (geI (y.i 0) 0))
theorem l151_in (q:YF) (a:Rw BA) (kk:PK S):BG q kk 151 Tryz.f151 [S.t (T.rows 1 a.n fun i=>[ts (a.get i)]),S.t (T.v (.func (Go.Fn.func 152) #[] #[]))]=e151_in q a:=by
 kernel_rfl
theorem W151 (a:Rw BA) (n:Nat) (x:S) (h:e151_in (regs O) a=some x):(W O).callT 151 [S.t (T.rows 1 a.n fun i=>[ts (a.get i)]),S.t (T.v (.func (Go.Fn.func 152) #[] #[]))]=some x:=by
 refine WG (fn:=Tryz.f151) (by kernel_rfl) (by kernel_rfl) (n:=n) ?_
 refine (l151_in (regs O) a (H151 (regs O) n)).trans ?_
 exact h
abbrev H151b (q:YF):Nat→PK S:=HG q 151 Tryz.f151
def e151b_in (q:YF) (a:Rw BA):OS:=yC q 186 [S.t (T.rows 1 a.n fun i=>[ts (a.get i)]),S.t (T.v (.func (Go.Fn.func 229) #[] #[]))] fun y=>some (bb (geI (y.i 0) 0))
theorem l151b_in (q:YF) (a:Rw BA) (kk:PK S):BG q kk 151 Tryz.f151 [S.t (T.rows 1 a.n fun i=>[ts (a.get i)]),S.t (T.v (.func (Go.Fn.func 229) #[] #[]))]=e151b_in q a:=by
 kernel_rfl
theorem W151b (a:Rw BA) (n:Nat) (x:S) (h:e151b_in (regs O) a=some x):(W O).callT 151 [S.t (T.rows 1 a.n fun i=>[ts (a.get i)]),S.t (T.v (.func (Go.Fn.func 229) #[] #[]))]=some x:=by
 refine WG (fn:=Tryz.f151) (by kernel_rfl) (by kernel_rfl) (n:=n) ?_
 refine (l151b_in (regs O) a (H151b (regs O) n)).trans ?_
 exact h
abbrev H152 (q:YF):Nat→PK S:=HG q 152 Tryz.f152
def e152_in (q:YF) (a:BA):OS:=yC q 101 [ss a] fun y=>some (S.t (T.v (.bool !y.b 0)))
theorem l152_in (q:YF) (a:BA) (kk:PK S):BG q kk 152 Tryz.f152 [ss a]=e152_in q a:=by
 kernel_rfl
theorem W152 (a:BA) (n:Nat) (x:S) (h:e152_in (regs O) a=some x):(W O).callT 152 [ss a]=some x:=by
 refine WG (fn:=Tryz.f152) (by kernel_rfl) (by kernel_rfl) (n:=n) ?_
 refine (l152_in (regs O) a (H152 (regs O) n)).trans ?_
 exact h
abbrev P153 (q:YF) (kk:PK S):PK S:=PG q 153 Tryz.f153 kk
abbrev H153 (q:YF):Nat→PK S:=HG q 153 Tryz.f153
def s153_0 (a:Rw D68) (b:Int):St:=mkSt [(16,ii (ofN a.n)),(6,S.t (T.v (.slice none 0 0))),(17,ii 0),(15,S.t (T.rows 4 a.n fun i=>e68 (a.get i)))] 0 []
def K153_0 (a:Rw D68) (b:Int) (kk:PK S):OS:=kk 5 0 0 (s153_0 a b)
def s153_1 (a:Rw D68) (b:Int) (v0:Rw0) (v1:Int) (u2:Nat):St:=mkSt [(16,ii (ofN a.n)),(6,S.sl 0 u2),(17,ii v1),(15,S.t (T.rows 4 a.n fun i=>e68 (a.get i)))] 1 [(0,B.row false 6 v0.n v0.g)]
abbrev T153_1:Type:=Rw0→Int→Nat→OS
def K153_1 (a:Rw D68) (b:Int) (kk:PK S):T153_1:=fun v0 v1 u2=> kk 5 0 0 (s153_1 a b v0 v1 u2)
def b153_0 (q:YF) (a:Rw D68) (b:Int) (k1:T153_1):OS:=bif ltI 0 (ofN a.n) then elemO 0 a.n fun h=>yC q 187 [ag (e68 (a.get (Fin.mk (Int.ofNat 0).toNat h)))] fun y=>bif !eqI (y.i 6) 0 then some (S.tup [S.t (T.rows 6 0 fun i=>False.rec (fun x=>List T) (by first | omega | (have:=i.2;omega) | (have:=i_1.2;omega))),ii (y.i 6)]) else k1 (Rw0.mk 1 fun i=>List.take 6 (List.drop (↑i*6) [tb (y.b 0),tb (y.b 1),tb (y.b 2),T.rows 1 (y.r 3).n (y.r 3).g,ti (y.i 4),ti (y.i 5)])) 1 1 else some (S.tup [S.t (T.rows 6 0 fun i=>False.rec (fun x=>List T) (by first | omega | (have:=i.2;omega) | (have:=i_1.2;omega))),ii 0])
def b153_1 (q:YF) (a:Rw D68) (b:Int) (k1:T153_1) (v0:Rw0) (v1:Int) (u2:Nat):OS:=bif ltI v1 (ofN a.n) then elemO v1 a.n fun h=>yC q 187 [ag (e68 (a.get (Fin.mk v1.toNat h)))] fun y=>bif !eqI (y.i 6) 0 then some (S.tup [S.t (T.rows 6 0 fun i=>False.rec (fun x=>List T) (by first | omega | (have:=i.2;omega) | (have:=i_1.2;omega))),ii (y.i 6)]) else bif fitsR (addN v0.n 1) 48 then k1 (Rw0.mk (addN v0.n 1) (appGet v0.g fun i=>List.take 6 (List.drop (↑i*6) [tb (y.b 0),tb (y.b 1),tb (y.b 2),T.rows 1 (y.r 3).n (y.r 3).g,ti (y.i 4),ti (y.i 5)]))) (addI .i64 v1 1) (addN v0.n 1) else none else some (S.tup [S.t (T.rows 6 v0.n v0.g),ii 0])
def e153_in (q:YF) (a:Rw D68) (b:Int) (k0:OS):OS:=bif gtI (ofN a.n) b then some (S.tup [S.t (T.rows 6 0 fun i=>False.rec (fun x=>List T) (by first | omega | (have:=i.2;omega) | (have:=i_1.2;omega))),ii 3]) else k0
structure X153 where
 x0:OS
 x1:Rw0→Int→OS
def D153_0 (X:X153):OS:=X.x0
def D153_1 (X:X153):T153_1:=fun v0 v1 _=>X.x1 v0 v1
def X153s (q:YF) (a:Rw D68) (b:Int) (X:X153):X153:=⟨b153_0 q a b (D153_1 X),
 fun v0 v1=>b153_1 q a b (D153_1 X) v0 v1 dd⟩
def X153n (q:YF) (a:Rw D68) (b:Int):Nat→X153
 | 0=>⟨none,fun _ _=>none⟩
 | n+1=>X153s q a b (X153n q a b n)
theorem l153_0 (q:YF) (a:Rw D68) (b:Int) (kk:PK S):K153_0 a b (P153 q kk)=b153_0 q a b (K153_1 a b kk):=by
 kernel_rfl
theorem l153_1 (q:YF) (a:Rw D68) (b:Int) (kk:PK S):K153_1 a b (P153 q kk)=b153_1 q a b (K153_1 a b kk):=by
 kernel_rfl
theorem l153_in (q:YF) (a:Rw D68) (b:Int) (kk:PK S):BG q kk 153 Tryz.f153 [S.t (T.rows 4 a.n fun i=>e68 (a.get i)),ii b]=e153_in q a b (K153_0 a b kk):=by
 kernel_rfl
theorem h153 (q:YF) (a:Rw D68) (b:Int):∀ n,K153_0 a b (H153 q n)=D153_0 (X153n q a b n)∧K153_1 a b (H153 q n)=D153_1 (X153n q a b n)
 | 0=>⟨rfl,rfl⟩
 | n+1=>by
  obtain ⟨h0,h1⟩:=h153 q a b n
  exact ⟨(l153_0 q a b (H153 q n)).trans (by rw [h1];kernel_rfl),(l153_1 q a b (H153 q n)).trans (by rw [h1];kernel_rfl)⟩
theorem W153 (a:Rw D68) (b:Int) (n:Nat) (x:S) (h:e153_in (regs O) a b (D153_0 (X153n (regs O) a b n))=some x):(W O).callT 153 [S.t (T.rows 4 a.n fun i=>e68 (a.get i)),ii b]=some x:=by
 refine WG (fn:=Tryz.f153) (by kernel_rfl) (by kernel_rfl) (n:=n) ?_
 refine (l153_in (regs O) a b (H153 (regs O) n)).trans ?_
 obtain ⟨h0,h1⟩:=h153 (regs O) a b n
 rw [h0]
 exact h
abbrev H154 (q:YF):Nat→PK S:=HG q 154 Tryz.f154
def e154_in (q:YF) (a:D88) (b:D88):OS:=some (bb (strEq a.fKey b.fKey))
theorem l154_in (q:YF) (a:D88) (b:D88) (kk:PK S):BG q kk 154 Tryz.f154 [ag (e88 a),S.pt (e88 b)]=e154_in q a b:=by
 kernel_rfl
theorem W154 (a:D88) (b:D88) (n:Nat) (x:S) (h:e154_in (regs O) a b=some x):(W O).callT 154 [ag (e88 a),S.pt (e88 b)]=some x:=by
 refine WG (fn:=Tryz.f154) (by kernel_rfl) (by kernel_rfl) (n:=n) ?_
 refine (l154_in (regs O) a b (H154 (regs O) n)).trans ?_
 exact h
abbrev H155 (q:YF):Nat→PK S:=HG q 155 Tryz.f155
def e155_in (q:YF) (a:Rw D47) (b:D47):OS:=yC q 188 [S.t (T.rows 3 a.n fun i=>e47 (a.get i)),ag (e47 b)] fun y=>some (bb (geI (y.i 0) 0))
theorem l155_in (q:YF) (a:Rw D47) (b:D47) (kk:PK S):BG q kk 155 Tryz.f155 [S.t (T.rows 3 a.n fun i=>e47 (a.get i)),ag (e47 b)]=e155_in q a b:=by
 kernel_rfl
theorem W155 (a:Rw D47) (b:D47) (n:Nat) (x:S) (h:e155_in (regs O) a b=some x):(W O).callT 155 [S.t (T.rows 3 a.n fun i=>e47 (a.get i)),ag (e47 b)]=some x:=by
 refine WG (fn:=Tryz.f155) (by kernel_rfl) (by kernel_rfl) (n:=n) ?_
 refine (l155_in (regs O) a b (H155 (regs O) n)).trans ?_
 exact h
abbrev P156 (q:YF) (kk:PK S):PK S:=PG q 156 Tryz.f156 kk
abbrev H156 (q:YF):Nat→PK S:=HG q 156 Tryz.f156
def s156_0 (a:Rw D77) (b:BA) (v0:Int):St:=mkSt [(0,S.t (T.rows 10 a.n fun i=>e77 (a.get i))),(8,ii v0),(1,S.fn (Go.Fn.func 117) [] [S.pt [ts b]]),(7,ii (ofN a.n))] 0 []
def K156_0 (a:Rw D77) (b:BA) (kk:PK S):Int→OS:=fun v0=> kk 2 0 0 (s156_0 a b v0)
def b156_0 (q:YF) (a:Rw D77) (b:BA) (k0:Int→OS) (v0:Int):OS:=bif ltI v0 (ofN a.n) then elemO v0 a.n fun h=>yC q 117 [ag (e77 (a.get (Fin.mk v0.toNat h))),S.pt [ts b]] fun y=>bif y.b 0 then some (ii v0) else k0 (addI .i64 v0 1) else some (ii (Int.negSucc 0))
def e156_in (q:YF) (a:Rw D77) (b:BA) (k0:Int→OS):OS:=k0 0
structure X156 where
 x0:Int→OS
def D156_0 (X:X156):Int→OS:=fun v0=>X.x0 v0
def X156s (q:YF) (a:Rw D77) (b:BA) (X:X156):X156:=⟨fun v0=>b156_0 q a b (D156_0 X) v0⟩
def X156n (q:YF) (a:Rw D77) (b:BA):Nat→X156
 | 0=>⟨fun _=>none⟩
 | n+1=>X156s q a b (X156n q a b n)
theorem l156_0 (q:YF) (a:Rw D77) (b:BA) (kk:PK S):K156_0 a b (P156 q kk)=b156_0 q a b (K156_0 a b kk):=by
 kernel_rfl
theorem l156_in (q:YF) (a:Rw D77) (b:BA) (kk:PK S):BG q kk 156 Tryz.f156 [S.t (T.rows 10 a.n fun i=>e77 (a.get i)),S.fn (Go.Fn.func 117) [] [S.pt [ts b]]]=e156_in q a b (K156_0 a b kk):=by
 kernel_rfl
theorem h156 (q:YF) (a:Rw D77) (b:BA):∀ n,K156_0 a b (H156 q n)=D156_0 (X156n q a b n)
 | 0=>rfl
 | n+1=>by
  have h0:=h156 q a b n
  exact (l156_0 q a b (H156 q n)).trans (by rw [h0];kernel_rfl)
theorem W156 (a:Rw D77) (b:BA) (n:Nat) (x:S) (h:e156_in (regs O) a b (D156_0 (X156n (regs O) a b n))=some x):(W O).callT 156 [S.t (T.rows 10 a.n fun i=>e77 (a.get i)),S.fn (Go.Fn.func 117) [] [S.pt [ts b]]]=some x:=by
 refine WG (fn:=Tryz.f156) (by kernel_rfl) (by kernel_rfl) (n:=n) ?_
 refine (l156_in (regs O) a b (H156 (regs O) n)).trans ?_
 have h0:=h156 (regs O) a b n
 rw [h0]
 exact h
abbrev P157 (q:YF) (kk:PK S):PK S:=PG q 157 Tryz.f157 kk
abbrev H157 (q:YF):Nat→PK S:=HG q 157 Tryz.f157
def s157_0 (a:Rw D47) (b:D33) (v0:Int):St:=mkSt [(0,S.t (T.rows 3 a.n fun i=>e47 (a.get i))),(8,ii v0),(1,S.fn (Go.Fn.func 119) [] [S.pt (e33 b)]),(7,ii (ofN a.n))] 0 []
def K157_0 (a:Rw D47) (b:D33) (kk:PK S):Int→OS:=fun v0=> kk 2 0 0 (s157_0 a b v0)
def b157_0 (q:YF) (a:Rw D47) (b:D33) (k0:Int→OS) (v0:Int):OS:=bif ltI v0 (ofN a.n) then elemO v0 a.n fun h=>yC q 119 [ag (e47 (a.get (Fin.mk v0.toNat h))),S.pt (e33 b)] fun y=>bif y.b 0 then some (ii v0) else k0 (addI .i64 v0 1) else some (ii (Int.negSucc 0))
def e157_in (q:YF) (a:Rw D47) (b:D33) (k0:Int→OS):OS:=k0 0
structure X157 where
 x0:Int→OS
def D157_0 (X:X157):Int→OS:=fun v0=>X.x0 v0
def X157s (q:YF) (a:Rw D47) (b:D33) (X:X157):X157:=⟨fun v0=>b157_0 q a b (D157_0 X) v0⟩
def X157n (q:YF) (a:Rw D47) (b:D33):Nat→X157
 | 0=>⟨fun _=>none⟩
 | n+1=>X157s q a b (X157n q a b n)
theorem l157_0 (q:YF) (a:Rw D47) (b:D33) (kk:PK S):K157_0 a b (P157 q kk)=b157_0 q a b (K157_0 a b kk):=by
 kernel_rfl
theorem l157_in (q:YF) (a:Rw D47) (b:D33) (kk:PK S):BG q kk 157 Tryz.f157 [S.t (T.rows 3 a.n fun i=>e47 (a.get i)),S.fn (Go.Fn.func 119) [] [S.pt (e33 b)]]=e157_in q a b (K157_0 a b kk):=by
 kernel_rfl
theorem h157 (q:YF) (a:Rw D47) (b:D33):∀ n,K157_0 a b (H157 q n)=D157_0 (X157n q a b n)
 | 0=>rfl
 | n+1=>by
  have h0:=h157 q a b n
  exact (l157_0 q a b (H157 q n)).trans (by rw [h0];kernel_rfl)
theorem W157 (a:Rw D47) (b:D33) (n:Nat) (x:S) (h:e157_in (regs O) a b (D157_0 (X157n (regs O) a b n))=some x):(W O).callT 157 [S.t (T.rows 3 a.n fun i=>e47 (a.get i)),S.fn (Go.Fn.func 119) [] [S.pt (e33 b)]]=some x:=by
 refine WG (fn:=Tryz.f157) (by kernel_rfl) (by kernel_rfl) (n:=n) ?_
 refine (l157_in (regs O) a b (H157 (regs O) n)).trans ?_
 have h0:=h157 (regs O) a b n
 rw [h0]
 exact h
abbrev H158 (q:YF):Nat→PK S:=HG q 158 Tryz.f158
def e158_in (q:YF) (a:Rw D160) (b:D160):OS:=yC q 189 [S.t (T.rows 3 a.n fun i=>e160 (a.get i)),ag (e160 b)] fun y=>some (bb (geI (y.i 0) 0))
theorem l158_in (q:YF) (a:Rw D160) (b:D160) (kk:PK S):BG q kk 158 Tryz.f158 [S.t (T.rows 3 a.n fun i=>e160 (a.get i)),ag (e160 b)]=e158_in q a b:=by
 kernel_rfl
theorem W158 (a:Rw D160) (b:D160) (n:Nat) (x:S) (h:e158_in (regs O) a b=some x):(W O).callT 158 [S.t (T.rows 3 a.n fun i=>e160 (a.get i)),ag (e160 b)]=some x:=by
 refine WG (fn:=Tryz.f158) (by kernel_rfl) (by kernel_rfl) (n:=n) ?_
 refine (l158_in (regs O) a b (H158 (regs O) n)).trans ?_
 exact h
abbrev P159 (q:YF) (kk:PK S):PK S:=PG q 159 Tryz.f159 kk
abbrev H159 (q:YF):Nat→PK S:=HG q 159 Tryz.f159
def s159_0 (a:BA) (b:BA) (v0:Bool) (u1 u2:S) (u3:Bool):St:=mkSt [(0,ss a),(8,u1),(4,ii 0),(10,bb v0),(6,bb (strEq a (bs [122,111,110,101]))),(1,ss b),(9,u2),(5,ss a),(7,bb u3)] 15 []
abbrev T159_0:Type:=Bool→S→S→Bool→OS
def K159_0 (a:BA) (b:BA) (kk:PK S):T159_0:=fun v0 u1 u2 u3=> kk 1 7 1 (s159_0 a b v0 u1 u2 u3)
def b159_0 (q:YF) (a:BA) (b:BA) (v0:Bool) (u1 u2:S) (u3:Bool):OS:=yC q 108 [bb v0,ii 1] fun y=>yC q 109 [S.t (T.rows 1 1 fun i=>List.take 1 (List.drop (↑i*1) [ts b]))] fun y_1=>yC q 108 [bb (y_1.b 0),ii 7] fun y_2=>yC q 107 [S.t (T.rows 1 2 fun i=>List.take 1 (List.drop (↑i*1) [ti (y.i 0),ti (y_2.i 0)]))] fun y=>some (ii (y.i 0))
def e159_in (q:YF) (a:BA) (b:BA) (k0:T159_0):OS:=bif strEq a (bs [122,111,110,101]) then k0 true S.ud S.ud true else k0 (strEq a (bs [104,111,115,116])) (ss a) (bb (strEq a (bs [104,111,115,116]))) false
structure X159 where
 x0:Bool→OS
def D159_0 (X:X159):T159_0:=fun v0 _ _ _=>X.x0 v0
def X159s (q:YF) (a:BA) (b:BA) (X:X159):X159:=⟨fun v0=>b159_0 q a b v0 dd dd dd⟩
def X159n (q:YF) (a:BA) (b:BA):Nat→X159
 | 0=>⟨fun _=>none⟩
 | n+1=>X159s q a b (X159n q a b n)
theorem l159_0 (q:YF) (a:BA) (b:BA) (kk:PK S):K159_0 a b (P159 q kk)=b159_0 q a b:=by
 kernel_rfl
theorem l159_in (q:YF) (a:BA) (b:BA) (kk:PK S):BG q kk 159 Tryz.f159 [ss a,ss b]=e159_in q a b (K159_0 a b kk):=by
 kernel_rfl
theorem h159 (q:YF) (a:BA) (b:BA):∀ n,K159_0 a b (H159 q n)=D159_0 (X159n q a b n)
 | 0=>rfl
 | n+1=>by
  have h0:=h159 q a b n
  exact (l159_0 q a b (H159 q n)).trans (by kernel_rfl)
theorem W159 (a:BA) (b:BA) (n:Nat) (x:S) (h:e159_in (regs O) a b (D159_0 (X159n (regs O) a b n))=some x):(W O).callT 159 [ss a,ss b]=some x:=by
 refine WG (fn:=Tryz.f159) (by kernel_rfl) (by kernel_rfl) (n:=n) ?_
 refine (l159_in (regs O) a b (H159 (regs O) n)).trans ?_
 have h0:=h159 (regs O) a b n
 rw [h0]
 exact h
abbrev P160 (q:YF) (kk:PK S):PK S:=PG q 160 Tryz.f160 kk
abbrev H160 (q:YF):Nat→PK S:=HG q 160 Tryz.f160
def s160_0 (a:Rw D52) (b:BA) (v0:Int):St:=mkSt [(0,S.t (T.rows 15 a.n fun i=>e52 (a.get i))),(8,ii v0),(1,S.fn (Go.Fn.func 124) [] [S.pt [ts b]]),(7,ii (ofN a.n))] 0 []
def K160_0 (a:Rw D52) (b:BA) (kk:PK S):Int→OS:=fun v0=> kk 2 0 0 (s160_0 a b v0)
def b160_0 (q:YF) (a:Rw D52) (b:BA) (k0:Int→OS) (v0:Int):OS:=bif ltI v0 (ofN a.n) then elemO v0 a.n fun h=>yC q 124 [ag (e52 (a.get (Fin.mk v0.toNat h))),S.pt [ts b]] fun y=>bif y.b 0 then some (ii v0) else k0 (addI .i64 v0 1) else some (ii (Int.negSucc 0))
def e160_in (q:YF) (a:Rw D52) (b:BA) (k0:Int→OS):OS:=k0 0
structure X160 where
 x0:Int→OS
def D160_0 (X:X160):Int→OS:=fun v0=>X.x0 v0
def X160s (q:YF) (a:Rw D52) (b:BA) (X:X160):X160:=⟨fun v0=>b160_0 q a b (D160_0 X) v0⟩
def X160n (q:YF) (a:Rw D52) (b:BA):Nat→X160
 | 0=>⟨fun _=>none⟩
 | n+1=>X160s q a b (X160n q a b n)
theorem l160_0 (q:YF) (a:Rw D52) (b:BA) (kk:PK S):K160_0 a b (P160 q kk)=b160_0 q a b (K160_0 a b kk):=by
 kernel_rfl
theorem l160_in (q:YF) (a:Rw D52) (b:BA) (kk:PK S):BG q kk 160 Tryz.f160 [S.t (T.rows 15 a.n fun i=>e52 (a.get i)),S.fn (Go.Fn.func 124) [] [S.pt [ts b]]]=e160_in q a b (K160_0 a b kk):=by
 kernel_rfl
theorem h160 (q:YF) (a:Rw D52) (b:BA):∀ n,K160_0 a b (H160 q n)=D160_0 (X160n q a b n)
 | 0=>rfl
 | n+1=>by
  have h0:=h160 q a b n
  exact (l160_0 q a b (H160 q n)).trans (by rw [h0];kernel_rfl)
theorem W160 (a:Rw D52) (b:BA) (n:Nat) (x:S) (h:e160_in (regs O) a b (D160_0 (X160n (regs O) a b n))=some x):(W O).callT 160 [S.t (T.rows 15 a.n fun i=>e52 (a.get i)),S.fn (Go.Fn.func 124) [] [S.pt [ts b]]]=some x:=by
 refine WG (fn:=Tryz.f160) (by kernel_rfl) (by kernel_rfl) (n:=n) ?_
 refine (l160_in (regs O) a b (H160 (regs O) n)).trans ?_
 have h0:=h160 (regs O) a b n
 rw [h0]
 exact h
abbrev P161 (q:YF) (kk:PK S):PK S:=PG q 161 Tryz.f161 kk
abbrev H161 (q:YF):Nat→PK S:=HG q 161 Tryz.f161
def s161_0 (a:BA) (v0:Bool) (u1:S) (u2:Bool) (u3:S):St:=mkSt [(0,ss a),(8,bb v0),(4,bb (strEq a (bs [122,111,110,101]))),(2,bb false),(6,u1),(5,bb u2),(3,ss a),(7,u3)] 20 []
abbrev T161_0:Type:=Bool→S→Bool→S→OS
def K161_0 (a:BA) (kk:PK S):T161_0:=fun v0 u1 u2 u3=> kk 1 7 1 (s161_0 a v0 u1 u2 u3)
def s161_1 (a:BA) (v0 u1:Bool) (u2:S) (u3:Bool) (u4 u5:S) (u6:Bool) (u7:S):St:=mkSt [(0,ss a),(8,bb u1),(4,bb (strEq a (bs [122,111,110,101]))),(12,bb v0),(2,bb false),(10,u5),(6,u2),(9,bb u6),(5,bb u3),(3,ss a),(11,u7),(7,u4)] 20 []
abbrev T161_1:Type:=Bool→Bool→S→Bool→S→S→Bool→S→OS
def K161_1 (a:BA) (kk:PK S):T161_1:=fun v0 u1 u2 u3 u4 u5 u6 u7=> kk 1 11 1 (s161_1 a v0 u1 u2 u3 u4 u5 u6 u7)
def s161_2 (a:BA) (v0 u1 u2:Bool) (u3 u4:S) (u5 u6:Bool) (u7 u8 u9:S) (u10:Bool) (u11:S):St:=mkSt [(0,ss a),(16,bb v0),(8,bb u1),(4,bb (strEq a (bs [122,111,110,101]))),(12,bb u2),(2,bb false),(10,u3),(6,u4),(14,u9),(9,bb u5),(5,bb u6),(13,bb u10),(3,ss a),(11,u7),(7,u8),(15,u11)] 20 []
abbrev T161_2:Type:=Bool→Bool→Bool→S→S→Bool→Bool→S→S→S→Bool→S→OS
def K161_2 (a:BA) (kk:PK S):T161_2:=fun v0 u1 u2 u3 u4 u5 u6 u7 u8 u9 u10 u11=> kk 1 15 1 (s161_2 a v0 u1 u2 u3 u4 u5 u6 u7 u8 u9 u10 u11)
def s161_3 (a:BA) (v0 u1 u2 u3:Bool) (u4 u5 u6:S) (u7 u8 u9:Bool) (u10 u11 u12 u13:S) (u14:Bool) (u15:S):St:=mkSt [(0,ss a),(16,bb u1),(8,bb u2),(4,bb (strEq a (bs [122,111,110,101]))),(20,bb v0),(12,bb u3),(2,bb false),(18,u13),(10,u4),(6,u5),(14,u6),(17,bb u14),(9,bb u7),(5,bb u8),(13,bb u9),(3,ss a),(19,u15),(11,u10),(7,u11),(15,u12)] 20 []
abbrev T161_3:Type:=Bool→Bool→Bool→Bool→S→S→S→Bool→Bool→Bool→S→S→S→S→Bool→S→OS
def K161_3 (a:BA) (kk:PK S):T161_3:=fun v0 u1 u2 u3 u4 u5 u6 u7 u8 u9 u10 u11 u12 u13 u14 u15=> kk 1 19 1 (s161_3 a v0 u1 u2 u3 u4 u5 u6 u7 u8 u9 u10 u11 u12 u13 u14 u15)
def b161_0 (q:YF) (a:BA) (k1:T161_1) (v0:Bool) (u1:S) (u2:Bool) (u3:S):OS:=bif v0 then k1 true v0 u1 u2 u3 S.ud true S.ud else k1 (strEq a (bs [107,105,110,100])) v0 u1 u2 u3 (ss a) false (bb (strEq a (bs [107,105,110,100])))
def b161_1 (q:YF) (a:BA) (k2:T161_2) (v0 u1:Bool) (u2:S) (u3:Bool) (u4 u5:S) (u6:Bool) (u7:S):OS:=bif v0 then k2 true u1 v0 u5 u2 u6 u3 u7 u4 S.ud true S.ud else k2 (strEq a (bs [112,111,111,108])) u1 v0 u5 u2 u6 u3 u7 u4 (ss a) false (bb (strEq a (bs [112,111,111,108])))
def b161_2 (q:YF) (a:BA) (k3:T161_3) (v0 u1 u2:Bool) (u3 u4:S) (u5 u6:Bool) (u7 u8 u9:S) (u10:Bool) (u11:S):OS:=bif v0 then k3 true v0 u1 u2 u3 u4 u9 u5 u6 u10 u7 u8 u11 S.ud true S.ud else k3 (strEq a (bs [104,111,115,116])) v0 u1 u2 u3 u4 u9 u5 u6 u10 u7 u8 u11 (ss a) false (bb (strEq a (bs [104,111,115,116])))
def b161_3 (q:YF) (a:BA) (v0 u1 u2 u3:Bool) (u4 u5 u6:S) (u7 u8 u9:Bool) (u10 u11 u12 u13:S) (u14:Bool) (u15:S):OS:=some (bb v0)
def e161_in (q:YF) (a:BA) (k0:T161_0):OS:=bif strEq a (bs [122,111,110,101]) then k0 true S.ud true S.ud else k0 (strEq a (bs [116,121,112,101])) (ss a) false (bb (strEq a (bs [116,121,112,101])))
structure X161 where
 x0:Bool→OS
 x1:Bool→OS
 x2:Bool→OS
 x3:Bool→OS
def D161_0 (X:X161):T161_0:=fun v0 _ _ _=>X.x0 v0
def D161_1 (X:X161):T161_1:=fun v0 _ _ _ _ _ _ _=>X.x1 v0
def D161_2 (X:X161):T161_2:=fun v0 _ _ _ _ _ _ _ _ _ _ _=>X.x2 v0
def D161_3 (X:X161):T161_3:=fun v0 _ _ _ _ _ _ _ _ _ _ _ _ _ _ _=>X.x3 v0
def X161s (q:YF) (a:BA) (X:X161):X161:=⟨fun v0=>b161_0 q a (D161_1 X) v0 dd dd dd,
 fun v0=>b161_1 q a (D161_2 X) v0 dd dd dd dd dd dd dd,
 fun v0=>b161_2 q a (D161_3 X) v0 dd dd dd dd dd dd dd dd dd dd dd,
 fun v0=>b161_3 q a v0 dd dd dd dd dd dd dd dd dd dd dd dd dd dd dd⟩
def X161n (q:YF) (a:BA):Nat→X161
 | 0=>⟨fun _=>none,fun _=>none,fun _=>none,fun _=>none⟩
 | n+1=>X161s q a (X161n q a n)
theorem l161_0 (q:YF) (a:BA) (kk:PK S):K161_0 a (P161 q kk)=b161_0 q a (K161_1 a kk):=by
 kernel_rfl
theorem l161_1 (q:YF) (a:BA) (kk:PK S):K161_1 a (P161 q kk)=b161_1 q a (K161_2 a kk):=by
 kernel_rfl
theorem l161_2 (q:YF) (a:BA) (kk:PK S):K161_2 a (P161 q kk)=b161_2 q a (K161_3 a kk):=by
 kernel_rfl
theorem l161_3 (q:YF) (a:BA) (kk:PK S):K161_3 a (P161 q kk)=b161_3 q a:=by
 kernel_rfl
theorem l161_in (q:YF) (a:BA) (kk:PK S):BG q kk 161 Tryz.f161 [ss a]=e161_in q a (K161_0 a kk):=by
 kernel_rfl
theorem h161 (q:YF) (a:BA):∀ n,K161_0 a (H161 q n)=D161_0 (X161n q a n)∧K161_1 a (H161 q n)=D161_1 (X161n q a n)∧K161_2 a (H161 q n)=D161_2 (X161n q a n)∧K161_3 a (H161 q n)=D161_3 (X161n q a n)
 | 0=>⟨rfl,rfl,rfl,rfl⟩
 | n+1=>by
  obtain ⟨h0,h1,h2,h3⟩:=h161 q a n
  exact ⟨(l161_0 q a (H161 q n)).trans (by rw [h1];kernel_rfl),(l161_1 q a (H161 q n)).trans (by rw [h2];kernel_rfl),(l161_2 q a (H161 q n)).trans (by rw [h3];kernel_rfl),(l161_3 q a (H161 q n)).trans (by kernel_rfl)⟩
theorem W161 (a:BA) (n:Nat) (x:S) (h:e161_in (regs O) a (D161_0 (X161n (regs O) a n))=some x):(W O).callT 161 [ss a]=some x:=by
 refine WG (fn:=Tryz.f161) (by kernel_rfl) (by kernel_rfl) (n:=n) ?_
 refine (l161_in (regs O) a (H161 (regs O) n)).trans ?_
 obtain ⟨h0,h1,h2,h3⟩:=h161 (regs O) a n
 rw [h0]
 exact h
abbrev H162 (q:YF):Nat→PK S:=HG q 162 Tryz.f162
def e162_in (q:YF) (a:D68):OS:=yC q 190 [ag (e68 a)] fun y=>bif !eqI (y.i 0) 0 then some (S.tup [S.agg [bb false,bb false,bb false,S.t (T.rows 1 0 fun i=>False.rec (fun x=>List T) (by first | omega | (have:=i.2;omega) | (have:=i_1.2;omega))),ii 0,ii 0],ii (y.i 0)]) else bif eqI a.fOp 1 then yC q 191 [S.t (T.rows 1 a.fVals.n fun i=>[ts (a.fVals.get i)])] fun y=>some (S.tup [S.agg [bb false,bb false,bb false,S.t (T.rows 1 (y.r 0).n (y.r 0).g),ii 0,ii 0],ii 0]) else bif eqI a.fOp 2 then yC q 191 [S.t (T.rows 1 a.fVals.n fun i=>[ts (a.fVals.get i)])] fun y=>some (S.tup [S.agg [bb true,bb true,bb false,S.t (T.rows 1 (y.r 0).n (y.r 0).g),ii 0,ii 0],ii 0]) else bif eqI a.fOp 3 then some (S.tup [S.agg [bb false,bb true,bb false,S.t (T.rows 1 0 fun i=>False.rec (fun x=>List T) (by first | omega | (have:=i.2;omega) | (have:=i_1.2;omega))),ii 0,ii 0],ii 0]) else bif eqI a.fOp 4 then some (S.tup [S.agg [bb true,bb false,bb false,S.t (T.rows 1 0 fun i=>False.rec (fun x=>List T) (by first | omega | (have:=i.2;omega) | (have:=i_1.2;omega))),ii 0,ii 0],ii 0]) else bif eqI a.fOp 5 then yC q 192 [ii (addI .i64 a.fN 1),ii 2147483648,S.t (T.v (.slice none 0 0))] fun y=>some (S.tup [S.agg [bb (y.b 0),bb (y.b 1),bb (y.b 2),S.t (T.rows 1 (y.r 3).n (y.r 3).g),ii (y.i 4),ii (y.i 5)],ii 0]) else yC q 192 [ii (Int.negSucc 2147483647),ii (subI .i64 a.fN 1),S.t (T.v (.slice none 0 0))] fun y=>some (S.tup [S.agg [bb (y.b 0),bb (y.b 1),bb (y.b 2),S.t (T.rows 1 (y.r 3).n (y.r 3).g),ii (y.i 4),ii (y.i 5)],ii 0])
theorem l162_in (q:YF) (a:D68) (kk:PK S):BG q kk 162 Tryz.f162 [ag (e68 a)]=e162_in q a:=by
 kernel_rfl
theorem W162 (a:D68) (n:Nat) (x:S) (h:e162_in (regs O) a=some x):(W O).callT 162 [ag (e68 a)]=some x:=by
 refine WG (fn:=Tryz.f162) (by kernel_rfl) (by kernel_rfl) (n:=n) ?_
 refine (l162_in (regs O) a (H162 (regs O) n)).trans ?_
 exact h
end
end Go.Proofs.YtonkoellfaopiaaGreatDoor.H
