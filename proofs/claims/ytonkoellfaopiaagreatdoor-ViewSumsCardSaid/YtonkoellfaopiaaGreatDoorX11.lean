import Derived.Test.YtonkoellfaopiaaGreatDoorX8
set_option linter.unusedSimpArgs false
set_option linter.unusedVariables false
namespace Go.Proofs.YtonkoellfaopiaaGreatDoor.H
open Go
noncomputable section
abbrev P83 (q:YF) (kk:PK S):PK S:=PG q 83 Tryz.f83 kk
abbrev H83 (q:YF):Nat→PK S:=HG q 83 Tryz.f83
abbrev T83_0:Type:=Int→(List (S × S))→OS
def K83_0 (a:Rw D112) (kk:PK S):T83_0:=fun v0 v1=> kk 5 0 0 (mkSt [(14,ii (ofN a.n)),(13,S.t (T.rows 7 a.n fun i=>e112 (a.get i))),(3,S.mp 0),(15,ii v0)] 1 [(0,B.mp false v1)])
abbrev T83_1:Type:=(Rw D109)→Int→D112→Int→(List (S × S))→Int→OS
def K83_1 (a:Rw D112) (kk:PK S):T83_1:=fun v0 v1 v2 v3 v4 v5=> kk 8 0 0 (mkSt [(20,S.t (T.rows 4 v0.n fun i=>e109 (v0.get i))),(22,ii v3),(14,ii (ofN a.n)),(5,S.ptr 1 0),(21,ii v1),(13,S.t (T.rows 7 a.n fun i=>e112 (a.get i))),(3,S.mp 0),(15,ii v5)] 2 [(0,B.mp false v4),(1,B.box (List.map S.t (e112 v2)))])
def b83_0 (q:YF) (a:Rw D112) (k1:T83_1) (v0:Int) (v1:List (S × S)):OS:=bif ltI v0 (ofN a.n) then elemO v0 a.n fun h=>flatW 900 v1 (k1 (a.get (Fin.mk v0.toNat h)).fOffers (ofN (a.get (Fin.mk v0.toNat h)).fOffers.n) (a.get (Fin.mk v0.toNat h)) 0 v1 v0) else flatW 900 v1 (flatW 999 v1 (some (S.mt v1)))
def b83_1 (q:YF) (a:Rw D112) (k0:T83_0) (k1:T83_1) (v0:Rw D109) (v1:Int) (v2:D112) (v3:Int) (v4:List (S × S)) (v5:Int):OS:=bif ltI v3 v1 then elemO v3 v0.n fun h=>updW O.P O.K 47 v4 (S.agg [ss v2.fName,ss (v0.get (Fin.mk v3.toNat h)).fZone,ss (v0.get (Fin.mk v3.toNat h)).fKind]) (S.agg (ss v2.fName::ii v2.fCap_0::ii v2.fCap_1::ii v2.fOver_0::ii v2.fOver_1::S.t (T.rows 2 v2.fLabels.n fun i=>e88 (v2.fLabels.get i))::S.t (T.rows 4 v2.fOffers.n fun i=>e109 (v2.fOffers.get i))::List.map S.t (e109 (v0.get (Fin.mk v3.toNat h))))) fun m=>flatW 900 m (k1 v0 v1 v2 (addI .i64 v3 1) m v5) else flatW 900 v4 (flatW 900 v4 (k0 (addI .i64 v5 1) v4))
def e83_in (q:YF) (a:Rw D112) (k0:T83_0):OS:=yC q 24 [S.t (T.rows 7 a.n fun i=>e112 (a.get i))] fun y=>bif !eqI (y.i 0) 0 then flatW 999 [] (some (S.mt [])) else flatW 900 [] (k0 0 [])
structure X83 where
 x0:Int→(List (S × S))→OS
 x1:(Rw D109)→Int→D112→Int→(List (S × S))→Int→OS
def D83_0 (X:X83):T83_0:=fun v0 v1=>X.x0 v0 v1
def D83_1 (X:X83):T83_1:=fun v0 v1 v2 v3 v4 v5=>X.x1 v0 v1 v2 v3 v4 v5
def X83s (q:YF) (a:Rw D112) (X:X83):X83:=⟨fun v0 v1=>b83_0 q a (D83_1 X) v0 v1,
 fun v0 v1 v2 v3 v4 v5=>b83_1 q a (D83_0 X) (D83_1 X) v0 v1 v2 v3 v4 v5⟩
def X83n (q:YF) (a:Rw D112):Nat→X83
 | 0=>⟨fun _ _=>none,fun _ _ _ _ _ _=>none⟩
 | n+1=>X83s q a (X83n q a n)
theorem l83_0 (q:YF) (a:Rw D112) (kk:PK S):K83_0 a (P83 q kk)=b83_0 q a (K83_1 a kk):=by
 kernel_rfl
theorem l83_1 (q:YF) (a:Rw D112) (kk:PK S):K83_1 a (P83 q kk)=b83_1 q a (K83_0 a kk) (K83_1 a kk):=by
 kernel_rfl
theorem l83_in (q:YF) (a:Rw D112) (kk:PK S):BG q kk 83 Tryz.f83 [S.t (T.rows 7 a.n fun i=>e112 (a.get i))]=e83_in q a (K83_0 a kk):=by
 kernel_rfl
theorem h83 (q:YF) (a:Rw D112):∀ n,K83_0 a (H83 q n)=D83_0 (X83n q a n)∧K83_1 a (H83 q n)=D83_1 (X83n q a n)
 | 0=>⟨rfl,rfl⟩
 | n+1=>by
  obtain ⟨h0,h1⟩:=h83 q a n
  exact ⟨(l83_0 q a (H83 q n)).trans (by rw [h1];kernel_rfl),(l83_1 q a (H83 q n)).trans (by rw [h0,h1];kernel_rfl)⟩
theorem W83 (a:Rw D112) (n:Nat) (x:S) (h:e83_in (regs O) a (D83_0 (X83n (regs O) a n))=some x):(W O).callT 83 [S.t (T.rows 7 a.n fun i=>e112 (a.get i))]=some x:=by
 refine WG (fn:=Tryz.f83) (by kernel_rfl) (by kernel_rfl) (n:=n) ?_
 refine (l83_in (regs O) a (H83 (regs O) n)).trans ?_
 obtain ⟨h0,h1⟩:=h83 (regs O) a n
 rw [h0]
 exact h
abbrev H84 (q:YF):Nat→PK S:=HG q 84 Tryz.f84
def e84_in (q:YF) (a:D141) (b:D47) (c:BA) (d:BA):OS:=bif fitsR (addN 5 a.ft_Labels.n) 32 then yC q 2000133 [S.t (T.rows 2 (addN 5 a.ft_Labels.n) (appGet (fun i=>List.take 2 (List.drop (↑i*2) [ts (bs [104,111,115,116]),ts d,ts (bs [107,105,110,100]),ts b.fKind,ts (bs [112,111,111,108]),ts c,ts (bs [116,121,112,101]),ts b.fType,ts (bs [122,111,110,101]),ts b.fZone])) fun i=>e88 (a.ft_Labels.get i))),S.t (T.v (.func (Go.Fn.func 134) #[] #[]))] fun y=>some (S.t (T.rows 2 (y.r 0).n (y.r 0).g)) else none
theorem l84_in (q:YF) (a:D141) (b:D47) (c:BA) (d:BA) (kk:PK S):BG q kk 84 Tryz.f84 [ag (e141 a),ag (e47 b),ss c,ss d]=e84_in q a b c d:=by
 kernel_rfl
theorem W84 (a:D141) (b:D47) (c:BA) (d:BA) (n:Nat) (x:S) (h:e84_in (regs O) a b c d=some x):(W O).callT 84 [ag (e141 a),ag (e47 b),ss c,ss d]=some x:=by
 refine WG (fn:=Tryz.f84) (by kernel_rfl) (by kernel_rfl) (n:=n) ?_
 refine (l84_in (regs O) a b c d (H84 (regs O) n)).trans ?_
 exact h
abbrev H91 (q:YF):Nat→PK S:=HG q 91 Tryz.f91
def e91_in (q:YF) (a:Int):OS:=bif ltI a 0 then some (ii 11) else bif gtI a 1125899906842624 then some (ii 10) else some (ii 0)
theorem l91_in (q:YF) (a:Int) (kk:PK S):BG q kk 91 Tryz.f91 [ii a]=e91_in q a:=by
 kernel_rfl
theorem W91 (a:Int) (n:Nat) (x:S) (h:e91_in (regs O) a=some x):(W O).callT 91 [ii a]=some x:=by
 refine WG (fn:=Tryz.f91) (by kernel_rfl) (by kernel_rfl) (n:=n) ?_
 refine (l91_in (regs O) a (H91 (regs O) n)).trans ?_
 exact h
abbrev P101 (q:YF) (kk:PK S):PK S:=PG q 101 Tryz.f101 kk
abbrev H101 (q:YF):Nat→PK S:=HG q 101 Tryz.f101
def K101_0 (a:BA) (kk:PK S):Int→OS:=fun v0=> kk 2 0 0 (mkSt [(0,ss a),(8,ii (ofN (sizeN a))),(9,ii v0),(7,S.t (T.rows 1 (sizeN a) fun i=>[T.v (.int .u8 (byteAt a i))]))] 0 [])
abbrev T101_1:Type:=Bool→S→S→Bool→S→OS
def K101_1 (a:BA) (kk:PK S):T101_1:=fun v0 u1 u2 u3 u4=> kk 8 8 0 (mkSt [(0,ss a),(48,u1),(44,S.t (T.v (.bool !strEq a (bs [])))),(46,u2),(49,bb v0),(45,bb u3),(43,ss a),(47,u4)] 8 [])
abbrev T101_2:Type:=Int→Bool→Int→Int→Int→Int→Int→Bool→Bool→S→S→Bool→Int→OS
def K101_2 (a:BA) (kk:PK S):T101_2:=fun v0 v1 v2 v3 u4 u5 u6 u7 u8 u9 u10 u11 u12=> kk 4 7 6 (mkSt [(0,ss a),(16,bb u8),(8,ii (ofN (sizeN a))),(4,S.t (T.v (.int .u8 v0))),(12,S.pt [T.v (.int .u8 u4)]),(18,u9),(10,bb u11),(14,S.t (T.v (.int .u8 u5))),(17,u10),(9,ii v2),(13,S.t (T.v (.int .u8 u6))),(3,ii v3),(19,bb v1),(11,ii u12),(7,S.t (T.rows 1 (sizeN a) fun i=>[T.v (.int .u8 (byteAt a i))])),(15,bb u7)] 13 [])
def b101_0 (q:YF) (a:BA) (k1:T101_1) (k2:T101_2) (v0:Int):OS:=bif ltI v0 (ofN (sizeN a)) then elemO v0 (sizeN a) fun h=>bif geI (byteAt a (Fin.mk v0.toNat h)) 97 then k2 (byteAt a (Fin.mk v0.toNat h)) (leI (byteAt a (Fin.mk v0.toNat h)) 122) v0 v0 (byteAt a (Fin.mk v0.toNat h)) (byteAt a (Fin.mk v0.toNat h)) (byteAt a (Fin.mk v0.toNat h)) (geI (byteAt a (Fin.mk v0.toNat h)) 97) true (bb (leI (byteAt a (Fin.mk v0.toNat h)) 122)) (S.t (T.v (.int .u8 (byteAt a (Fin.mk v0.toNat h))))) (ltI v0 (ofN (sizeN a))) v0 else k2 (byteAt a (Fin.mk v0.toNat h)) false v0 v0 (byteAt a (Fin.mk v0.toNat h)) (byteAt a (Fin.mk v0.toNat h)) (byteAt a (Fin.mk v0.toNat h)) (geI (byteAt a (Fin.mk v0.toNat h)) 97) false S.ud S.ud (ltI v0 (ofN (sizeN a))) v0 else bif !strEq a (bs []) then k1 (leI (sizeS a) 16) (bb (leI (sizeS a) 16)) (ss a) true (ii (sizeS a)) else k1 false S.ud S.ud false S.ud
def b101_1 (q:YF) (a:BA):T101_1:=fun v0 u1 u2 u3 u4=>some (bb v0)
def b101_2 (q:YF) (a:BA) (k0:Int→OS):T101_2:=fun v0 v1 v2 v3 u4 u5 u6 u7 u8 u9 u10 u11 u12=>bif !v1 then bif eqI v3 0 then some (bb false) else bif !eqI v0 46 then bif !eqI v0 45 then bif ltI v0 48 then some (bb false) else bif gtI v0 57 then some (bb false) else k0 (addI .i64 v2 1) else k0 (addI .i64 v2 1) else k0 (addI .i64 v2 1) else k0 (addI .i64 v2 1)
def e101_in (q:YF) (a:BA) (k0:Int→OS):OS:=bif roomS a then k0 0 else none
structure X101 where
 x0:Int→OS
 x1:Bool→OS
 x2:Int→Bool→Int→Int→OS
def D101_0 (X:X101):Int→OS:=fun v0=>X.x0 v0
def D101_1 (X:X101):T101_1:=fun v0 _ _ _ _=>X.x1 v0
def D101_2 (X:X101):T101_2:=fun v0 v1 v2 v3 _ _ _ _ _ _ _ _ _=>X.x2 v0 v1 v2 v3
def X101s (q:YF) (a:BA) (X:X101):X101:=⟨fun v0=>b101_0 q a (D101_1 X) (D101_2 X) v0,
 fun v0=>b101_1 q a v0 dd dd dd dd,
 fun v0 v1 v2 v3=>b101_2 q a (D101_0 X) v0 v1 v2 v3 dd dd dd dd dd dd dd dd dd⟩
def X101n (q:YF) (a:BA):Nat→X101
 | 0=>⟨fun _=>none,fun _=>none,fun _ _ _ _=>none⟩
 | n+1=>X101s q a (X101n q a n)
theorem l101_0 (q:YF) (a:BA) (kk:PK S):K101_0 a (P101 q kk)=b101_0 q a (K101_1 a kk) (K101_2 a kk):=by
 kernel_rfl
theorem l101_1 (q:YF) (a:BA) (kk:PK S):K101_1 a (P101 q kk)=b101_1 q a:=by
 kernel_rfl
theorem l101_2 (q:YF) (a:BA) (kk:PK S):K101_2 a (P101 q kk)=b101_2 q a (K101_0 a kk):=by
 kernel_rfl
theorem l101_in (q:YF) (a:BA) (kk:PK S):BG q kk 101 Tryz.f101 [ss a]=e101_in q a (K101_0 a kk):=by
 kernel_rfl
theorem h101 (q:YF) (a:BA):∀ n,K101_0 a (H101 q n)=D101_0 (X101n q a n)∧K101_1 a (H101 q n)=D101_1 (X101n q a n)∧K101_2 a (H101 q n)=D101_2 (X101n q a n)
 | 0=>⟨rfl,rfl,rfl⟩
 | n+1=>by
  obtain ⟨h0,h1,h2⟩:=h101 q a n
  exact ⟨(l101_0 q a (H101 q n)).trans (by rw [h1,h2];kernel_rfl),(l101_1 q a (H101 q n)).trans (by kernel_rfl),(l101_2 q a (H101 q n)).trans (by rw [h0];kernel_rfl)⟩
theorem W101 (a:BA) (n:Nat) (x:S) (h:e101_in (regs O) a (D101_0 (X101n (regs O) a n))=some x):(W O).callT 101 [ss a]=some x:=by
 refine WG (fn:=Tryz.f101) (by kernel_rfl) (by kernel_rfl) (n:=n) ?_
 refine (l101_in (regs O) a (H101 (regs O) n)).trans ?_
 obtain ⟨h0,h1,h2⟩:=h101 (regs O) a n
 rw [h0]
 exact h
abbrev P102 (q:YF) (kk:PK S):PK S:=PG q 102 Tryz.f102 kk
abbrev H102 (q:YF):Nat→PK S:=HG q 102 Tryz.f102
def K102_0 (a:D49) (kk:PK S):OS:=kk 2 0 0 (mkSt [(6,ag (e49 a)),(7,ii 0)] 0 [])
def K102_1 (a:D49) (kk:PK S):OS:=kk 2 0 0 (mkSt [(6,ag (e49 a)),(7,ii 1)] 0 [])
def K102_2 (a:D49) (kk:PK S):OS:=kk 2 0 0 (mkSt [(6,ag (e49 a)),(7,ii 2)] 0 [])
def b102_0 (q:YF) (a:D49) (k1:OS):OS:=yC q 113 [ii a.fa_0] fun y=>bif !eqI (y.i 0) 0 then some (ii (y.i 0)) else k1
def b102_1 (q:YF) (a:D49) (k2:OS):OS:=yC q 113 [ii a.fa_1] fun y=>bif !eqI (y.i 0) 0 then some (ii (y.i 0)) else k2
def b102_2 (q:YF) (a:D49):OS:=some (ii 0)
def e102_in (q:YF) (a:D49) (k0:OS):OS:=k0
structure X102 where
 x0:OS
 x1:OS
 x2:OS
def D102_0 (X:X102):OS:=X.x0
def D102_1 (X:X102):OS:=X.x1
def D102_2 (X:X102):OS:=X.x2
def X102s (q:YF) (a:D49) (X:X102):X102:=⟨b102_0 q a (D102_1 X),
 b102_1 q a (D102_2 X),
 b102_2 q a⟩
def X102n (q:YF) (a:D49):Nat→X102
 | 0=>⟨none,none,none⟩
 | n+1=>X102s q a (X102n q a n)
theorem l102_0 (q:YF) (a:D49) (kk:PK S):K102_0 a (P102 q kk)=b102_0 q a (K102_1 a kk):=by
 kernel_rfl
theorem l102_1 (q:YF) (a:D49) (kk:PK S):K102_1 a (P102 q kk)=b102_1 q a (K102_2 a kk):=by
 kernel_rfl
theorem l102_2 (q:YF) (a:D49) (kk:PK S):K102_2 a (P102 q kk)=b102_2 q a:=by
 kernel_rfl
theorem l102_in (q:YF) (a:D49) (kk:PK S):BG q kk 102 Tryz.f102 [ag (e49 a)]=e102_in q a (K102_0 a kk):=by
 kernel_rfl
theorem h102 (q:YF) (a:D49):∀ n,K102_0 a (H102 q n)=D102_0 (X102n q a n)∧K102_1 a (H102 q n)=D102_1 (X102n q a n)∧K102_2 a (H102 q n)=D102_2 (X102n q a n)
 | 0=>⟨rfl,rfl,rfl⟩
 | n+1=>by
  obtain ⟨h0,h1,h2⟩:=h102 q a n
  exact ⟨(l102_0 q a (H102 q n)).trans (by rw [h1];kernel_rfl),(l102_1 q a (H102 q n)).trans (by rw [h2];kernel_rfl),(l102_2 q a (H102 q n)).trans (by kernel_rfl)⟩
theorem W102 (a:D49) (n:Nat) (x:S) (h:e102_in (regs O) a (D102_0 (X102n (regs O) a n))=some x):(W O).callT 102 [ag (e49 a)]=some x:=by
 refine WG (fn:=Tryz.f102) (by kernel_rfl) (by kernel_rfl) (n:=n) ?_
 refine (l102_in (regs O) a (H102 (regs O) n)).trans ?_
 obtain ⟨h0,h1,h2⟩:=h102 (regs O) a n
 rw [h0]
 exact h
abbrev P103 (q:YF) (kk:PK S):PK S:=PG q 103 Tryz.f103 kk
abbrev H103 (q:YF):Nat→PK S:=HG q 103 Tryz.f103
abbrev T103_0:Type:=Bool→Bool→Int→S→S→S→Bool→S→S→OS
def K103_0 (a:D49) (b:D49) (kk:PK S):T103_0:=fun v0 u1 u2 u3 u4 u5 u6 u7 u8=> kk 1 12 3 (mkSt [(0,ag (e49 a)),(8,bb u1),(4,bb false),(12,u3),(2,S.ptr 0 0),(10,u4),(6,ag (e49 b)),(14,u5),(1,ag (e49 b)),(9,bb u6),(5,ag (e49 a)),(13,u7),(3,S.ptr 1 0),(11,u8),(7,ii u2),(15,bb v0)] 15 [(0,B.box (List.map S.t (e49 a))),(1,B.box (List.map S.t (e49 b)))])
def b103_0 (q:YF) (a:D49) (b:D49):T103_0:=fun v0 u1 u2 u3 u4 u5 u6 u7 u8=>some (bb v0)
def e103_in (q:YF) (a:D49) (b:D49) (k0:T103_0):OS:=yC q 143 [ag (e49 a),ag (e49 b)] fun y=>bif eqI (y.i 0) 0 then yC q 144 [ag (e49 a),ag (e49 b)] fun y_1=>k0 (eqI (y_1.i 0) a.fa_0 && (eqI (y_1.i 1) a.fa_1 && true)) (eqI (y.i 0) 0) (y.i 0) (S.agg [ii (y_1.i 0),ii (y_1.i 1)]) (ag (e49 a)) (bb (eqI (y_1.i 0) a.fa_0 && (eqI (y_1.i 1) a.fa_1 && true))) true (ag (e49 a)) (ag (e49 b)) else k0 false (eqI (y.i 0) 0) (y.i 0) S.ud S.ud S.ud false S.ud S.ud
structure X103 where
 x0:Bool→OS
def D103_0 (X:X103):T103_0:=fun v0 _ _ _ _ _ _ _ _=>X.x0 v0
def X103s (q:YF) (a:D49) (b:D49) (X:X103):X103:=⟨fun v0=>b103_0 q a b v0 dd dd dd dd dd dd dd dd⟩
def X103n (q:YF) (a:D49) (b:D49):Nat→X103
 | 0=>⟨fun _=>none⟩
 | n+1=>X103s q a b (X103n q a b n)
theorem l103_0 (q:YF) (a:D49) (b:D49) (kk:PK S):K103_0 a b (P103 q kk)=b103_0 q a b:=by
 kernel_rfl
theorem l103_in (q:YF) (a:D49) (b:D49) (kk:PK S):BG q kk 103 Tryz.f103 [ag (e49 a),ag (e49 b)]=e103_in q a b (K103_0 a b kk):=by
 kernel_rfl
theorem h103 (q:YF) (a:D49) (b:D49):∀ n,K103_0 a b (H103 q n)=D103_0 (X103n q a b n)
 | 0=>rfl
 | n+1=>by
  have h0:=h103 q a b n
  exact (l103_0 q a b (H103 q n)).trans (by kernel_rfl)
theorem W103 (a:D49) (b:D49) (n:Nat) (x:S) (h:e103_in (regs O) a b (D103_0 (X103n (regs O) a b n))=some x):(W O).callT 103 [ag (e49 a),ag (e49 b)]=some x:=by
 refine WG (fn:=Tryz.f103) (by kernel_rfl) (by kernel_rfl) (n:=n) ?_
 refine (l103_in (regs O) a b (H103 (regs O) n)).trans ?_
 have h0:=h103 (regs O) a b n
 rw [h0]
 exact h
abbrev P104 (q:YF) (kk:PK S):PK S:=PG q 104 Tryz.f104 kk
abbrev H104 (q:YF):Nat→PK S:=HG q 104 Tryz.f104
def K104_0 (a:Rw D88) (kk:PK S):Int→OS:=fun v0=> kk 4 0 0 (mkSt [(0,S.t (T.rows 2 a.n fun i=>e88 (a.get i))),(8,S.t (T.rows 2 a.n fun i=>e88 (a.get i))),(10,ii v0),(9,ii (ofN a.n))] 0 [])
def b104_0 (q:YF) (a:Rw D88) (k0:Int→OS) (v0:Int):OS:=bif ltI v0 (ofN a.n) then elemO v0 a.n fun h=>yC q 101 [ss (a.get (Fin.mk v0.toNat h)).fKey] fun y=>bif !y.b 0 then some (ii 7) else yC q 145 [S.t (T.rows 1 5 fun i=>List.take 1 (List.drop (↑i*1) [ts (bs [122,111,110,101]),ts (bs [116,121,112,101]),ts (bs [107,105,110,100]),ts (bs [112,111,111,108]),ts (bs [104,111,115,116])])),ss (a.get (Fin.mk v0.toNat h)).fKey] fun y=>bif y.b 0 then some (ii 1) else yC q 146 [ss (a.get (Fin.mk v0.toNat h)).fVal] fun y=>bif !y.b 0 then some (ii 20) else bif leI 0 v0 && leI v0 (ofN a.n) then subO 0 (toN v0) a.n fun h_1=>yC q 147 [S.t (T.rows 2 (toN v0) fun i=>e88 (a.get (Fin.mk (0+↑i) (by first | omega | (have:=i.2;omega) | (have:=i_1.2;omega))))),S.fn (Go.Fn.func 148) [] [S.pt (e88 (a.get (Fin.mk v0.toNat h)))]] fun y=>bif y.b 0 then some (ii 6) else k0 (addI .i64 v0 1) else none else some (ii 0)
def e104_in (q:YF) (a:Rw D88) (k0:Int→OS):OS:=bif gtI (ofN a.n) 4 then some (ii 3) else k0 0
structure X104 where
 x0:Int→OS
def D104_0 (X:X104):Int→OS:=fun v0=>X.x0 v0
def X104s (q:YF) (a:Rw D88) (X:X104):X104:=⟨fun v0=>b104_0 q a (D104_0 X) v0⟩
def X104n (q:YF) (a:Rw D88):Nat→X104
 | 0=>⟨fun _=>none⟩
 | n+1=>X104s q a (X104n q a n)
theorem l104_0 (q:YF) (a:Rw D88) (kk:PK S):K104_0 a (P104 q kk)=b104_0 q a (K104_0 a kk):=by
 kernel_rfl
theorem l104_in (q:YF) (a:Rw D88) (kk:PK S):BG q kk 104 Tryz.f104 [S.t (T.rows 2 a.n fun i=>e88 (a.get i))]=e104_in q a (K104_0 a kk):=by
 kernel_rfl
theorem h104 (q:YF) (a:Rw D88):∀ n,K104_0 a (H104 q n)=D104_0 (X104n q a n)
 | 0=>rfl
 | n+1=>by
  have h0:=h104 q a n
  exact (l104_0 q a (H104 q n)).trans (by rw [h0];kernel_rfl)
theorem W104 (a:Rw D88) (n:Nat) (x:S) (h:e104_in (regs O) a (D104_0 (X104n (regs O) a n))=some x):(W O).callT 104 [S.t (T.rows 2 a.n fun i=>e88 (a.get i))]=some x:=by
 refine WG (fn:=Tryz.f104) (by kernel_rfl) (by kernel_rfl) (n:=n) ?_
 refine (l104_in (regs O) a (H104 (regs O) n)).trans ?_
 have h0:=h104 (regs O) a n
 rw [h0]
 exact h
abbrev P105 (q:YF) (kk:PK S):PK S:=PG q 105 Tryz.f105 kk
abbrev H105 (q:YF):Nat→PK S:=HG q 105 Tryz.f105
def K105_0 (a:Rw D109) (kk:PK S):Int→OS:=fun v0=> kk 4 0 0 (mkSt [(0,S.t (T.rows 4 a.n fun i=>e109 (a.get i))),(10,ii (ofN a.n)),(9,S.t (T.rows 4 a.n fun i=>e109 (a.get i))),(11,ii v0)] 0 [])
def b105_0 (q:YF) (a:Rw D109) (k0:Int→OS) (v0:Int):OS:=bif ltI v0 (ofN a.n) then elemO v0 a.n fun h=>yC q 101 [ss (a.get (Fin.mk v0.toNat h)).fZone] fun y=>bif !y.b 0 then some (ii 7) else yC q 101 [ss (a.get (Fin.mk v0.toNat h)).fKind] fun y=>bif !y.b 0 then some (ii 7) else yC q 113 [ii (a.get (Fin.mk v0.toNat h)).fPrice] fun y=>bif !eqI (y.i 0) 0 then some (ii (y.i 0)) else bif leI 0 v0 && leI v0 (ofN a.n) then subO 0 (toN v0) a.n fun h_1=>yC q 149 [S.t (T.rows 4 (toN v0) fun i=>e109 (a.get (Fin.mk (0+↑i) (by first | omega | (have:=i.2;omega) | (have:=i_1.2;omega))))),S.fn (Go.Fn.func 150) [] [S.pt (e109 (a.get (Fin.mk v0.toNat h)))]] fun y=>bif y.b 0 then some (ii 6) else k0 (addI .i64 v0 1) else none else some (ii 0)
def e105_in (q:YF) (a:Rw D109) (k0:Int→OS):OS:=bif gtI (ofN a.n) 6 then some (ii 3) else k0 0
structure X105 where
 x0:Int→OS
def D105_0 (X:X105):Int→OS:=fun v0=>X.x0 v0
def X105s (q:YF) (a:Rw D109) (X:X105):X105:=⟨fun v0=>b105_0 q a (D105_0 X) v0⟩
def X105n (q:YF) (a:Rw D109):Nat→X105
 | 0=>⟨fun _=>none⟩
 | n+1=>X105s q a (X105n q a n)
theorem l105_0 (q:YF) (a:Rw D109) (kk:PK S):K105_0 a (P105 q kk)=b105_0 q a (K105_0 a kk):=by
 kernel_rfl
theorem l105_in (q:YF) (a:Rw D109) (kk:PK S):BG q kk 105 Tryz.f105 [S.t (T.rows 4 a.n fun i=>e109 (a.get i))]=e105_in q a (K105_0 a kk):=by
 kernel_rfl
theorem h105 (q:YF) (a:Rw D109):∀ n,K105_0 a (H105 q n)=D105_0 (X105n q a n)
 | 0=>rfl
 | n+1=>by
  have h0:=h105 q a n
  exact (l105_0 q a (H105 q n)).trans (by rw [h0];kernel_rfl)
theorem W105 (a:Rw D109) (n:Nat) (x:S) (h:e105_in (regs O) a (D105_0 (X105n (regs O) a n))=some x):(W O).callT 105 [S.t (T.rows 4 a.n fun i=>e109 (a.get i))]=some x:=by
 refine WG (fn:=Tryz.f105) (by kernel_rfl) (by kernel_rfl) (n:=n) ?_
 refine (l105_in (regs O) a (H105 (regs O) n)).trans ?_
 have h0:=h105 (regs O) a n
 rw [h0]
 exact h
abbrev P106 (q:YF) (kk:PK S):PK S:=PG q 106 Tryz.f106 kk
abbrev H106 (q:YF):Nat→PK S:=HG q 106 Tryz.f106
def K106_0 (a:Rw D112) (b:D112) (kk:PK S):Int→OS:=fun v0=> kk 2 0 0 (mkSt [(0,S.t (T.rows 7 a.n fun i=>e112 (a.get i))),(8,ii v0),(1,S.fn (Go.Fn.func 60) [] [S.pt (e112 b)]),(7,ii (ofN a.n))] 0 [])
def b106_0 (q:YF) (a:Rw D112) (b:D112) (k0:Int→OS) (v0:Int):OS:=bif ltI v0 (ofN a.n) then elemO v0 a.n fun h=>yC q 60 [ag (e112 (a.get (Fin.mk v0.toNat h))),S.pt (e112 b)] fun y=>bif y.b 0 then some (ii v0) else k0 (addI .i64 v0 1) else some (ii (Int.negSucc 0))
def e106_in (q:YF) (a:Rw D112) (b:D112) (k0:Int→OS):OS:=k0 0
structure X106 where
 x0:Int→OS
def D106_0 (X:X106):Int→OS:=fun v0=>X.x0 v0
def X106s (q:YF) (a:Rw D112) (b:D112) (X:X106):X106:=⟨fun v0=>b106_0 q a b (D106_0 X) v0⟩
def X106n (q:YF) (a:Rw D112) (b:D112):Nat→X106
 | 0=>⟨fun _=>none⟩
 | n+1=>X106s q a b (X106n q a b n)
theorem l106_0 (q:YF) (a:Rw D112) (b:D112) (kk:PK S):K106_0 a b (P106 q kk)=b106_0 q a b (K106_0 a b kk):=by
 kernel_rfl
theorem l106_in (q:YF) (a:Rw D112) (b:D112) (kk:PK S):BG q kk 106 Tryz.f106 [S.t (T.rows 7 a.n fun i=>e112 (a.get i)),S.fn (Go.Fn.func 60) [] [S.pt (e112 b)]]=e106_in q a b (K106_0 a b kk):=by
 kernel_rfl
theorem h106 (q:YF) (a:Rw D112) (b:D112):∀ n,K106_0 a b (H106 q n)=D106_0 (X106n q a b n)
 | 0=>rfl
 | n+1=>by
  have h0:=h106 q a b n
  exact (l106_0 q a b (H106 q n)).trans (by rw [h0];kernel_rfl)
theorem W106 (a:Rw D112) (b:D112) (n:Nat) (x:S) (h:e106_in (regs O) a b (D106_0 (X106n (regs O) a b n))=some x):(W O).callT 106 [S.t (T.rows 7 a.n fun i=>e112 (a.get i)),S.fn (Go.Fn.func 60) [] [S.pt (e112 b)]]=some x:=by
 refine WG (fn:=Tryz.f106) (by kernel_rfl) (by kernel_rfl) (n:=n) ?_
 refine (l106_in (regs O) a b (H106 (regs O) n)).trans ?_
 have h0:=h106 (regs O) a b n
 rw [h0]
 exact h
abbrev P107 (q:YF) (kk:PK S):PK S:=PG q 107 Tryz.f107 kk
abbrev H107 (q:YF):Nat→PK S:=HG q 107 Tryz.f107
def K107_0 (a:Rw Int) (kk:PK S):Int→OS:=fun v0=> kk 2 0 0 (mkSt [(6,ii (ofN a.n)),(5,S.t (T.rows 1 a.n fun i=>[ti (a.get i)])),(7,ii v0)] 0 [])
def b107_0 (q:YF) (a:Rw Int) (k0:Int→OS) (v0:Int):OS:=bif ltI v0 (ofN a.n) then elemO v0 a.n fun h=>bif !eqI (a.get (Fin.mk v0.toNat h)) 0 then some (ii (a.get (Fin.mk v0.toNat h))) else k0 (addI .i64 v0 1) else some (ii 0)
def e107_in (q:YF) (a:Rw Int) (k0:Int→OS):OS:=k0 0
structure X107 where
 x0:Int→OS
def D107_0 (X:X107):Int→OS:=fun v0=>X.x0 v0
def X107s (q:YF) (a:Rw Int) (X:X107):X107:=⟨fun v0=>b107_0 q a (D107_0 X) v0⟩
def X107n (q:YF) (a:Rw Int):Nat→X107
 | 0=>⟨fun _=>none⟩
 | n+1=>X107s q a (X107n q a n)
theorem l107_0 (q:YF) (a:Rw Int) (kk:PK S):K107_0 a (P107 q kk)=b107_0 q a (K107_0 a kk):=by
 kernel_rfl
theorem l107_in (q:YF) (a:Rw Int) (kk:PK S):BG q kk 107 Tryz.f107 [S.t (T.rows 1 a.n fun i=>e3 (a.get i))]=e107_in q a (K107_0 a kk):=by
 kernel_rfl
theorem h107 (q:YF) (a:Rw Int):∀ n,K107_0 a (H107 q n)=D107_0 (X107n q a n)
 | 0=>rfl
 | n+1=>by
  have h0:=h107 q a n
  exact (l107_0 q a (H107 q n)).trans (by rw [h0];kernel_rfl)
theorem W107 (a:Rw Int) (n:Nat) (x:S) (h:e107_in (regs O) a (D107_0 (X107n (regs O) a n))=some x):(W O).callT 107 [S.t (T.rows 1 a.n fun i=>e3 (a.get i))]=some x:=by
 refine WG (fn:=Tryz.f107) (by kernel_rfl) (by kernel_rfl) (n:=n) ?_
 refine (l107_in (regs O) a (H107 (regs O) n)).trans ?_
 have h0:=h107 (regs O) a n
 rw [h0]
 exact h
abbrev H108 (q:YF):Nat→PK S:=HG q 108 Tryz.f108
def e108_in (q:YF) (a:Bool) (b:Int):OS:=bif a then some (ii 0) else some (ii b)
theorem l108_in (q:YF) (a:Bool) (b:Int) (kk:PK S):BG q kk 108 Tryz.f108 [bb a,ii b]=e108_in q a b:=by
 kernel_rfl
theorem W108 (a:Bool) (b:Int) (n:Nat) (x:S) (h:e108_in (regs O) a b=some x):(W O).callT 108 [bb a,ii b]=some x:=by
 refine WG (fn:=Tryz.f108) (by kernel_rfl) (by kernel_rfl) (n:=n) ?_
 refine (l108_in (regs O) a b (H108 (regs O) n)).trans ?_
 exact h
abbrev H109 (q:YF):Nat→PK S:=HG q 109 Tryz.f109
def e109_in (q:YF) (a:Rw BA):OS:=yC q 151 [S.t (T.rows 1 a.n fun i=>[ts (a.get i)]),S.t (T.v (.func (Go.Fn.func 152) #[] #[]))] fun y=>some (S.t (T.v (.bool !y.b 0)))
theorem l109_in (q:YF) (a:Rw BA) (kk:PK S):BG q kk 109 Tryz.f109 [S.t (T.rows 1 a.n fun i=>e9 (a.get i))]=e109_in q a:=by
 kernel_rfl
theorem W109 (a:Rw BA) (n:Nat) (x:S) (h:e109_in (regs O) a=some x):(W O).callT 109 [S.t (T.rows 1 a.n fun i=>e9 (a.get i))]=some x:=by
 refine WG (fn:=Tryz.f109) (by kernel_rfl) (by kernel_rfl) (n:=n) ?_
 refine (l109_in (regs O) a (H109 (regs O) n)).trans ?_
 exact h
abbrev H110 (q:YF):Nat→PK S:=HG q 110 Tryz.f110
def e110_in (q:YF) (a:Rw D68):OS:=yC q 153 [S.t (T.rows 4 a.n fun i=>e68 (a.get i)),ii 8] fun y=>some (ii (y.i 1))
theorem l110_in (q:YF) (a:Rw D68) (kk:PK S):BG q kk 110 Tryz.f110 [S.t (T.rows 4 a.n fun i=>e68 (a.get i))]=e110_in q a:=by
 kernel_rfl
theorem W110 (a:Rw D68) (n:Nat) (x:S) (h:e110_in (regs O) a=some x):(W O).callT 110 [S.t (T.rows 4 a.n fun i=>e68 (a.get i))]=some x:=by
 refine WG (fn:=Tryz.f110) (by kernel_rfl) (by kernel_rfl) (n:=n) ?_
 refine (l110_in (regs O) a (H110 (regs O) n)).trans ?_
 exact h
abbrev P111 (q:YF) (kk:PK S):PK S:=PG q 111 Tryz.f111 kk
abbrev H111 (q:YF):Nat→PK S:=HG q 111 Tryz.f111
def K111_0 (a:Rw D88) (kk:PK S):Int→OS:=fun v0=> kk 4 0 0 (mkSt [(0,S.t (T.rows 2 a.n fun i=>e88 (a.get i))),(8,S.t (T.rows 2 a.n fun i=>e88 (a.get i))),(10,ii v0),(9,ii (ofN a.n))] 0 [])
def b111_0 (q:YF) (a:Rw D88) (k0:Int→OS) (v0:Int):OS:=bif ltI v0 (ofN a.n) then elemO v0 a.n fun h=>yC q 101 [ss (a.get (Fin.mk v0.toNat h)).fKey] fun y=>bif !y.b 0 then some (ii 7) else yC q 146 [ss (a.get (Fin.mk v0.toNat h)).fVal] fun y=>bif !y.b 0 then some (ii 20) else bif leI 0 v0 && leI v0 (ofN a.n) then subO 0 (toN v0) a.n fun h_1=>yC q 147 [S.t (T.rows 2 (toN v0) fun i=>e88 (a.get (Fin.mk (0+↑i) (by first | omega | (have:=i.2;omega) | (have:=i_1.2;omega))))),S.fn (Go.Fn.func 154) [] [S.pt (e88 (a.get (Fin.mk v0.toNat h)))]] fun y=>bif y.b 0 then some (ii 6) else k0 (addI .i64 v0 1) else none else some (ii 0)
def e111_in (q:YF) (a:Rw D88) (k0:Int→OS):OS:=bif gtI (ofN a.n) 4 then some (ii 3) else k0 0
structure X111 where
 x0:Int→OS
def D111_0 (X:X111):Int→OS:=fun v0=>X.x0 v0
def X111s (q:YF) (a:Rw D88) (X:X111):X111:=⟨fun v0=>b111_0 q a (D111_0 X) v0⟩
def X111n (q:YF) (a:Rw D88):Nat→X111
 | 0=>⟨fun _=>none⟩
 | n+1=>X111s q a (X111n q a n)
theorem l111_0 (q:YF) (a:Rw D88) (kk:PK S):K111_0 a (P111 q kk)=b111_0 q a (K111_0 a kk):=by
 kernel_rfl
theorem l111_in (q:YF) (a:Rw D88) (kk:PK S):BG q kk 111 Tryz.f111 [S.t (T.rows 2 a.n fun i=>e88 (a.get i))]=e111_in q a (K111_0 a kk):=by
 kernel_rfl
theorem h111 (q:YF) (a:Rw D88):∀ n,K111_0 a (H111 q n)=D111_0 (X111n q a n)
 | 0=>rfl
 | n+1=>by
  have h0:=h111 q a n
  exact (l111_0 q a (H111 q n)).trans (by rw [h0];kernel_rfl)
theorem W111 (a:Rw D88) (n:Nat) (x:S) (h:e111_in (regs O) a (D111_0 (X111n (regs O) a n))=some x):(W O).callT 111 [S.t (T.rows 2 a.n fun i=>e88 (a.get i))]=some x:=by
 refine WG (fn:=Tryz.f111) (by kernel_rfl) (by kernel_rfl) (n:=n) ?_
 refine (l111_in (regs O) a (H111 (regs O) n)).trans ?_
 have h0:=h111 (regs O) a n
 rw [h0]
 exact h
abbrev P112 (q:YF) (kk:PK S):PK S:=PG q 112 Tryz.f112 kk
abbrev H112 (q:YF):Nat→PK S:=HG q 112 Tryz.f112
abbrev T112_0:Type:=Bool→S→Bool→S→S→OS
def K112_0 (a:Int) (b:Int) (c:Int) (kk:PK S):T112_0:=fun v0 u1 u2 u3 u4=> kk 1 9 1 (mkSt [(0,ii a),(8,ii b),(12,u1),(2,ii c),(10,bb u2),(6,bb false),(14,bb v0),(1,ii b),(9,bb (geI a b)),(13,u3),(11,u4),(7,ii a)] 10 [])
def b112_0 (q:YF) (a:Int) (b:Int) (c:Int):T112_0:=fun v0 u1 u2 u3 u4=>some (bb v0)
def e112_in (q:YF) (a:Int) (b:Int) (c:Int) (k0:T112_0):OS:=bif geI a b then k0 (leI a c) (ii c) true (bb (leI a c)) (ii a) else k0 false S.ud false S.ud S.ud
structure X112 where
 x0:Bool→OS
def D112_0 (X:X112):T112_0:=fun v0 _ _ _ _=>X.x0 v0
def X112s (q:YF) (a:Int) (b:Int) (c:Int) (X:X112):X112:=⟨fun v0=>b112_0 q a b c v0 dd dd dd dd⟩
def X112n (q:YF) (a:Int) (b:Int) (c:Int):Nat→X112
 | 0=>⟨fun _=>none⟩
 | n+1=>X112s q a b c (X112n q a b c n)
theorem l112_0 (q:YF) (a:Int) (b:Int) (c:Int) (kk:PK S):K112_0 a b c (P112 q kk)=b112_0 q a b c:=by
 kernel_rfl
theorem l112_in (q:YF) (a:Int) (b:Int) (c:Int) (kk:PK S):BG q kk 112 Tryz.f112 [ii a,ii b,ii c]=e112_in q a b c (K112_0 a b c kk):=by
 kernel_rfl
theorem h112 (q:YF) (a:Int) (b:Int) (c:Int):∀ n,K112_0 a b c (H112 q n)=D112_0 (X112n q a b c n)
 | 0=>rfl
 | n+1=>by
  have h0:=h112 q a b c n
  exact (l112_0 q a b c (H112 q n)).trans (by kernel_rfl)
theorem W112 (a:Int) (b:Int) (c:Int) (n:Nat) (x:S) (h:e112_in (regs O) a b c (D112_0 (X112n (regs O) a b c n))=some x):(W O).callT 112 [ii a,ii b,ii c]=some x:=by
 refine WG (fn:=Tryz.f112) (by kernel_rfl) (by kernel_rfl) (n:=n) ?_
 refine (l112_in (regs O) a b c (H112 (regs O) n)).trans ?_
 have h0:=h112 (regs O) a b c n
 rw [h0]
 exact h
abbrev H113 (q:YF):Nat→PK S:=HG q 113 Tryz.f113
def e113_in (q:YF) (a:Int):OS:=bif ltI a 0 then some (ii 11) else bif gtI a 1125899906842624 then some (ii 10) else some (ii 0)
theorem l113_in (q:YF) (a:Int) (kk:PK S):BG q kk 113 Tryz.f113 [ii a]=e113_in q a:=by
 kernel_rfl
theorem W113 (a:Int) (n:Nat) (x:S) (h:e113_in (regs O) a=some x):(W O).callT 113 [ii a]=some x:=by
 refine WG (fn:=Tryz.f113) (by kernel_rfl) (by kernel_rfl) (n:=n) ?_
 refine (l113_in (regs O) a (H113 (regs O) n)).trans ?_
 exact h
abbrev P114 (q:YF) (kk:PK S):PK S:=PG q 114 Tryz.f114 kk
abbrev H114 (q:YF):Nat→PK S:=HG q 114 Tryz.f114
def K114_0 (a:Rw D47) (kk:PK S):Int→OS:=fun v0=> kk 4 0 0 (mkSt [(0,S.t (T.rows 3 a.n fun i=>e47 (a.get i))),(10,ii (ofN a.n)),(9,S.t (T.rows 3 a.n fun i=>e47 (a.get i))),(11,ii v0)] 0 [])
def b114_0 (q:YF) (a:Rw D47) (k0:Int→OS) (v0:Int):OS:=bif ltI v0 (ofN a.n) then elemO v0 a.n fun h=>yC q 109 [S.t (T.rows 1 3 fun i=>List.take 1 (List.drop (↑i*1) (e47 (a.get (Fin.mk v0.toNat h)))))] fun y=>yC q 108 [bb (y.b 0),ii 7] fun y=>bif leI 0 v0 && leI v0 (ofN a.n) then subO 0 (toN v0) a.n fun h_1=>yC q 155 [S.t (T.rows 3 (toN v0) fun i=>e47 (a.get (Fin.mk (0+↑i) (by first | omega | (have:=i.2;omega) | (have:=i_1.2;omega))))),ag (e47 (a.get (Fin.mk v0.toNat h)))] fun y_1=>yC q 108 [S.t (T.v (.bool !y_1.b 0)),ii 6] fun y_2=>yC q 107 [S.t (T.rows 1 2 fun i=>List.take 1 (List.drop (↑i*1) [ti (y.i 0),ti (y_2.i 0)]))] fun y=>bif !eqI (y.i 0) 0 then some (ii (y.i 0)) else k0 (addI .i64 v0 1) else none else some (ii 0)
def e114_in (q:YF) (a:Rw D47) (k0:Int→OS):OS:=bif gtI (ofN a.n) 72 then some (ii 3) else k0 0
structure X114 where
 x0:Int→OS
def D114_0 (X:X114):Int→OS:=fun v0=>X.x0 v0
def X114s (q:YF) (a:Rw D47) (X:X114):X114:=⟨fun v0=>b114_0 q a (D114_0 X) v0⟩
def X114n (q:YF) (a:Rw D47):Nat→X114
 | 0=>⟨fun _=>none⟩
 | n+1=>X114s q a (X114n q a n)
theorem l114_0 (q:YF) (a:Rw D47) (kk:PK S):K114_0 a (P114 q kk)=b114_0 q a (K114_0 a kk):=by
 kernel_rfl
theorem l114_in (q:YF) (a:Rw D47) (kk:PK S):BG q kk 114 Tryz.f114 [S.t (T.rows 3 a.n fun i=>e47 (a.get i))]=e114_in q a (K114_0 a kk):=by
 kernel_rfl
theorem h114 (q:YF) (a:Rw D47):∀ n,K114_0 a (H114 q n)=D114_0 (X114n q a n)
 | 0=>rfl
 | n+1=>by
  have h0:=h114 q a n
  exact (l114_0 q a (H114 q n)).trans (by rw [h0];kernel_rfl)
theorem W114 (a:Rw D47) (n:Nat) (x:S) (h:e114_in (regs O) a (D114_0 (X114n (regs O) a n))=some x):(W O).callT 114 [S.t (T.rows 3 a.n fun i=>e47 (a.get i))]=some x:=by
 refine WG (fn:=Tryz.f114) (by kernel_rfl) (by kernel_rfl) (n:=n) ?_
 refine (l114_in (regs O) a (H114 (regs O) n)).trans ?_
 have h0:=h114 (regs O) a n
 rw [h0]
 exact h
abbrev P115 (q:YF) (kk:PK S):PK S:=PG q 115 Tryz.f115 kk
abbrev H115 (q:YF):Nat→PK S:=HG q 115 Tryz.f115
def K115_0 (a:D49) (b:D49) (kk:PK S):OS:=kk 7 0 0 (mkSt [(4,S.ptr 2 0),(2,S.ptr 0 0),(21,ii 0),(3,S.ptr 1 0)] 3 [(0,B.box (List.map S.t (e49 a))),(2,B.box [ii 0,ii 0]),(1,B.box (List.map S.t (e49 b)))])
def K115_1 (a:D49) (b:D49) (kk:PK S):OS:=kk 7 0 0 (mkSt [(4,S.ptr 2 0),(2,S.ptr 0 0),(21,ii 1),(3,S.ptr 1 0)] 3 [(0,B.box [ii (subI .i64 a.fa_0 b.fa_0),ii a.fa_1]),(2,B.box [ii 0,ii 0]),(1,B.box (List.map S.t (e49 b)))])
def K115_2 (a:D49) (b:D49) (kk:PK S):OS:=kk 7 0 0 (mkSt [(4,S.ptr 2 0),(2,S.ptr 0 0),(21,ii 2),(3,S.ptr 1 0)] 3 [(0,B.box [ii (subI .i64 a.fa_0 b.fa_0),ii (subI .i64 a.fa_1 b.fa_1)]),(2,B.box [ii 0,ii 0]),(1,B.box (List.map S.t (e49 b)))])
def b115_0 (q:YF) (a:D49) (b:D49) (k1:OS):OS:=k1
def b115_1 (q:YF) (a:D49) (b:D49) (k2:OS):OS:=k2
def b115_2 (q:YF) (a:D49) (b:D49):OS:=some (S.tup [S.agg [ii (subI .i64 a.fa_0 b.fa_0),ii (subI .i64 a.fa_1 b.fa_1)],ii 0])
def e115_in (q:YF) (a:D49) (b:D49) (k0:OS):OS:=yC q 143 [ag (e49 a),ag (e49 b)] fun y=>bif !eqI (y.i 0) 0 then some (S.tup [S.agg [ii 0,ii 0],ii (y.i 0)]) else yC q 144 [ag (e49 a),ag (e49 b)] fun y=>bif !(eqI (y.i 0) b.fa_0 && (eqI (y.i 1) b.fa_1 && true)) then some (S.tup [S.agg [ii 0,ii 0],ii 11]) else k0
structure X115 where
 x0:OS
 x1:OS
 x2:OS
def D115_0 (X:X115):OS:=X.x0
def D115_1 (X:X115):OS:=X.x1
def D115_2 (X:X115):OS:=X.x2
def X115s (q:YF) (a:D49) (b:D49) (X:X115):X115:=⟨b115_0 q a b (D115_1 X),
 b115_1 q a b (D115_2 X),
 b115_2 q a b⟩
def X115n (q:YF) (a:D49) (b:D49):Nat→X115
 | 0=>⟨none,none,none⟩
 | n+1=>X115s q a b (X115n q a b n)
theorem l115_0 (q:YF) (a:D49) (b:D49) (kk:PK S):K115_0 a b (P115 q kk)=b115_0 q a b (K115_1 a b kk):=by
 kernel_rfl
theorem l115_1 (q:YF) (a:D49) (b:D49) (kk:PK S):K115_1 a b (P115 q kk)=b115_1 q a b (K115_2 a b kk):=by
 kernel_rfl
theorem l115_2 (q:YF) (a:D49) (b:D49) (kk:PK S):K115_2 a b (P115 q kk)=b115_2 q a b:=by
 kernel_rfl
theorem l115_in (q:YF) (a:D49) (b:D49) (kk:PK S):BG q kk 115 Tryz.f115 [ag (e49 a),ag (e49 b)]=e115_in q a b (K115_0 a b kk):=by
 kernel_rfl
theorem h115 (q:YF) (a:D49) (b:D49):∀ n,K115_0 a b (H115 q n)=D115_0 (X115n q a b n)∧K115_1 a b (H115 q n)=D115_1 (X115n q a b n)∧K115_2 a b (H115 q n)=D115_2 (X115n q a b n)
 | 0=>⟨rfl,rfl,rfl⟩
 | n+1=>by
  obtain ⟨h0,h1,h2⟩:=h115 q a b n
  exact ⟨(l115_0 q a b (H115 q n)).trans (by rw [h1];kernel_rfl),(l115_1 q a b (H115 q n)).trans (by rw [h2];kernel_rfl),(l115_2 q a b (H115 q n)).trans (by kernel_rfl)⟩
theorem W115 (a:D49) (b:D49) (n:Nat) (x:S) (h:e115_in (regs O) a b (D115_0 (X115n (regs O) a b n))=some x):(W O).callT 115 [ag (e49 a),ag (e49 b)]=some x:=by
 refine WG (fn:=Tryz.f115) (by kernel_rfl) (by kernel_rfl) (n:=n) ?_
 refine (l115_in (regs O) a b (H115 (regs O) n)).trans ?_
 obtain ⟨h0,h1,h2⟩:=h115 (regs O) a b n
 rw [h0]
 exact h
abbrev H116 (q:YF):Nat→PK S:=HG q 116 Tryz.f116
def e116_in (q:YF) (a:Rw D77) (b:BA):OS:=yC q 156 [S.t (T.rows 10 a.n fun i=>e77 (a.get i)),S.fn (Go.Fn.func 117) [] [S.pt [ts b]]] fun y=>some (bb (geI (y.i 0) 0))
theorem l116_in (q:YF) (a:Rw D77) (b:BA) (kk:PK S):BG q kk 116 Tryz.f116 [S.t (T.rows 10 a.n fun i=>e77 (a.get i)),S.fn (Go.Fn.func 117) [] [S.pt [ts b]]]=e116_in q a b:=by
 kernel_rfl
theorem W116 (a:Rw D77) (b:BA) (n:Nat) (x:S) (h:e116_in (regs O) a b=some x):(W O).callT 116 [S.t (T.rows 10 a.n fun i=>e77 (a.get i)),S.fn (Go.Fn.func 117) [] [S.pt [ts b]]]=some x:=by
 refine WG (fn:=Tryz.f116) (by kernel_rfl) (by kernel_rfl) (n:=n) ?_
 refine (l116_in (regs O) a b (H116 (regs O) n)).trans ?_
 exact h
abbrev H117 (q:YF):Nat→PK S:=HG q 117 Tryz.f117
def e117_in (q:YF) (a:D77) (b:BA):OS:=some (bb (strEq a.fName b))
theorem l117_in (q:YF) (a:D77) (b:BA) (kk:PK S):BG q kk 117 Tryz.f117 [ag (e77 a),S.pt [ts b]]=e117_in q a b:=by
 kernel_rfl
theorem W117 (a:D77) (b:BA) (n:Nat) (x:S) (h:e117_in (regs O) a b=some x):(W O).callT 117 [ag (e77 a),S.pt [ts b]]=some x:=by
 refine WG (fn:=Tryz.f117) (by kernel_rfl) (by kernel_rfl) (n:=n) ?_
 refine (l117_in (regs O) a b (H117 (regs O) n)).trans ?_
 exact h
abbrev H118 (q:YF):Nat→PK S:=HG q 118 Tryz.f118
def e118_in (q:YF) (a:Rw D47) (b:D33):OS:=yC q 157 [S.t (T.rows 3 a.n fun i=>e47 (a.get i)),S.fn (Go.Fn.func 119) [] [S.pt (e33 b)]] fun y=>some (bb (geI (y.i 0) 0))
theorem l118_in (q:YF) (a:Rw D47) (b:D33) (kk:PK S):BG q kk 118 Tryz.f118 [S.t (T.rows 3 a.n fun i=>e47 (a.get i)),S.fn (Go.Fn.func 119) [] [S.pt (e33 b)]]=e118_in q a b:=by
 kernel_rfl
theorem W118 (a:Rw D47) (b:D33) (n:Nat) (x:S) (h:e118_in (regs O) a b=some x):(W O).callT 118 [S.t (T.rows 3 a.n fun i=>e47 (a.get i)),S.fn (Go.Fn.func 119) [] [S.pt (e33 b)]]=some x:=by
 refine WG (fn:=Tryz.f118) (by kernel_rfl) (by kernel_rfl) (n:=n) ?_
 refine (l118_in (regs O) a b (H118 (regs O) n)).trans ?_
 exact h
abbrev H119 (q:YF):Nat→PK S:=HG q 119 Tryz.f119
def e119_in (q:YF) (a:D47) (b:D33):OS:=yC q 63 [S.t (T.rows 7 b.fTypes.n fun i=>e112 (b.fTypes.get i)),ag (e47 a)] fun y=>some (S.t (T.v (.bool !y.b 2)))
theorem l119_in (q:YF) (a:D47) (b:D33) (kk:PK S):BG q kk 119 Tryz.f119 [ag (e47 a),S.pt (e33 b)]=e119_in q a b:=by
 kernel_rfl
theorem W119 (a:D47) (b:D33) (n:Nat) (x:S) (h:e119_in (regs O) a b=some x):(W O).callT 119 [ag (e47 a),S.pt (e33 b)]=some x:=by
 refine WG (fn:=Tryz.f119) (by kernel_rfl) (by kernel_rfl) (n:=n) ?_
 refine (l119_in (regs O) a b (H119 (regs O) n)).trans ?_
 exact h
abbrev P120 (q:YF) (kk:PK S):PK S:=PG q 120 Tryz.f120 kk
abbrev H120 (q:YF):Nat→PK S:=HG q 120 Tryz.f120
def K120_0 (a:Rw D160) (kk:PK S):Int→OS:=fun v0=> kk 4 0 0 (mkSt [(0,S.t (T.rows 3 a.n fun i=>e160 (a.get i))),(8,S.t (T.rows 3 a.n fun i=>e160 (a.get i))),(10,ii v0),(9,ii (ofN a.n))] 0 [])
abbrev T120_1:Type:=D160→Bool→Int→Int→Bool→Bool→D160→BA→D160→Bool→Bool→S→S→S→Bool→Int→Bool→OS
def K120_1 (a:Rw D160) (kk:PK S):T120_1:=fun v0 v1 v2 v3 u4 u5 u6 u7 u8 u9 u10 u11 u12 u13 u14 u15 u16=> kk 8 8 12 (mkSt [(0,S.t (T.rows 3 a.n fun i=>e160 (a.get i))),(16,S.ptr 4 0),(8,S.t (T.rows 3 a.n fun i=>e160 (a.get i))),(24,u11),(4,S.ptr 4 0),(12,ii u15),(18,bb u4),(10,ii v2),(26,u12),(22,bb u5),(14,ag (e160 u6)),(17,ss u7),(9,ii (ofN a.n)),(25,u13),(21,S.ptr 4 2),(13,S.pt (e160 u8)),(3,ii v3),(19,bb u9),(11,bb u16),(27,bb v1),(23,bb u14),(15,bb u10)] 20 [(4,B.box (List.map S.t (e160 v0)))])
abbrev T120_2:Type:=D160→Bool→Int→Int→S→Bool→Bool→S→Bool→D160→Bool→BA→S→D160→Bool→Bool→Bool→Bool→Bool→S→S→S→S→Bool→Int→Bool→OS
def K120_2 (a:Rw D160) (kk:PK S):T120_2:=fun v0 v1 v2 v3 u4 u5 u6 u7 u8 u9 u10 u11 u12 u13 u14 u15 u16 u17 u18 u19 u20 u21 u22 u23 u24 u25=> kk 9 10 20 (mkSt [(0,S.t (T.rows 3 a.n fun i=>e160 (a.get i))),(32,u19),(16,S.ptr 4 0),(8,S.t (T.rows 3 a.n fun i=>e160 (a.get i))),(24,u4),(4,S.ptr 4 0),(36,bb v1),(20,bb u5),(12,ii u24),(28,S.ptr 4 2),(34,u20),(18,bb u6),(10,ii v2),(26,u7),(22,bb u8),(14,ag (e160 u9)),(30,bb u10),(33,u21),(17,ss u11),(9,ii (ofN a.n)),(25,u12),(21,S.ptr 4 2),(13,S.pt (e160 u13)),(29,bb u14),(3,ii v3),(35,u22),(19,bb u15),(11,bb u25),(27,bb u16),(23,bb u17),(15,bb u18),(31,bb u23)] 30 [(4,B.box (List.map S.t (e160 v0)))])
def b120_0 (q:YF) (a:Rw D160) (k1:T120_1) (v0:Int):OS:=bif ltI v0 (ofN a.n) then elemO v0 a.n fun h=>yC q 101 [ss (a.get (Fin.mk v0.toNat h)).fKey] fun y=>bif !y.b 0 then some (ii 7) else bif (a.get (Fin.mk v0.toNat h)).fAny then k1 (a.get (Fin.mk v0.toNat h)) (!strEq (a.get (Fin.mk v0.toNat h)).fVal (bs [])) v0 v0 (y.b 0) (a.get (Fin.mk v0.toNat h)).fAny (a.get (Fin.mk v0.toNat h)) (a.get (Fin.mk v0.toNat h)).fKey (a.get (Fin.mk v0.toNat h)) (!y.b 0) (!y.b 0) (S.ptr 4 1) (S.t (T.v (.bool !strEq (a.get (Fin.mk v0.toNat h)).fVal (bs [])))) (ss (a.get (Fin.mk v0.toNat h)).fVal) true v0 (ltI v0 (ofN a.n)) else k1 (a.get (Fin.mk v0.toNat h)) false v0 v0 (y.b 0) (a.get (Fin.mk v0.toNat h)).fAny (a.get (Fin.mk v0.toNat h)) (a.get (Fin.mk v0.toNat h)).fKey (a.get (Fin.mk v0.toNat h)) (!y.b 0) (!y.b 0) S.ud S.ud S.ud false v0 (ltI v0 (ofN a.n)) else some (ii 0)
def b120_1 (q:YF) (a:Rw D160) (k0:Int→OS) (k2:T120_2):T120_1:=fun v0 v1 v2 v3 u4 u5 u6 u7 u8 u9 u10 u11 u12 u13 u14 u15 u16=>bif v1 then bif v1 then some (ii 20) else bif leI 0 v3 && leI v3 (ofN a.n) then subO 0 (toN v3) a.n fun h=>yC q 158 [S.t (T.rows 3 (toN v3) fun i=>e160 (a.get (Fin.mk (0+↑i) (by first | omega | (have:=i.2;omega) | (have:=i_1.2;omega))))),ag (e160 v0)] fun y=>bif y.b 0 then some (ii 6) else k0 (addI .i64 v2 1) else none else bif !v0.fAny then yC q 146 [ss v0.fVal] fun y=>k2 v0 (!y.b 0) v2 v3 u11 v1 u4 u12 u5 u6 (!v0.fAny) u7 u13 u8 v0.fAny u9 v1 u14 u10 (S.ptr 4 1) (bb (y.b 0)) (ss v0.fVal) (S.t (T.v (.bool !y.b 0))) true u15 u16 else k2 v0 false v2 v3 u11 v1 u4 u12 u5 u6 (!v0.fAny) u7 u13 u8 v0.fAny u9 v1 u14 u10 S.ud S.ud S.ud S.ud false u15 u16
def b120_2 (q:YF) (a:Rw D160) (k0:Int→OS):T120_2:=fun v0 v1 v2 v3 u4 u5 u6 u7 u8 u9 u10 u11 u12 u13 u14 u15 u16 u17 u18 u19 u20 u21 u22 u23 u24 u25=>bif v1 then some (ii 20) else bif leI 0 v3 && leI v3 (ofN a.n) then subO 0 (toN v3) a.n fun h=>yC q 158 [S.t (T.rows 3 (toN v3) fun i=>e160 (a.get (Fin.mk (0+↑i) (by first | omega | (have:=i.2;omega) | (have:=i_1.2;omega))))),ag (e160 v0)] fun y=>bif y.b 0 then some (ii 6) else k0 (addI .i64 v2 1) else none
def e120_in (q:YF) (a:Rw D160) (k0:Int→OS):OS:=bif gtI (ofN a.n) 4 then some (ii 3) else k0 0
structure X120 where
 x0:Int→OS
 x1:D160→Bool→Int→Int→OS
 x2:D160→Bool→Int→Int→OS
def D120_0 (X:X120):Int→OS:=fun v0=>X.x0 v0
def D120_1 (X:X120):T120_1:=fun v0 v1 v2 v3 _ _ _ _ _ _ _ _ _ _ _ _ _=>X.x1 v0 v1 v2 v3
def D120_2 (X:X120):T120_2:=fun v0 v1 v2 v3 _ _ _ _ _ _ _ _ _ _ _ _ _ _ _ _ _ _ _ _ _ _=>X.x2 v0 v1 v2 v3
def X120s (q:YF) (a:Rw D160) (X:X120):X120:=⟨fun v0=>b120_0 q a (D120_1 X) v0,
 fun v0 v1 v2 v3=>b120_1 q a (D120_0 X) (D120_2 X) v0 v1 v2 v3 dd dd dd dd dd dd dd dd dd dd dd dd dd,
 fun v0 v1 v2 v3=>b120_2 q a (D120_0 X) v0 v1 v2 v3 dd dd dd dd dd dd dd dd dd dd dd dd dd dd dd dd dd dd dd dd dd dd⟩
def X120n (q:YF) (a:Rw D160):Nat→X120
 | 0=>⟨fun _=>none,fun _ _ _ _=>none,fun _ _ _ _=>none⟩
 | n+1=>X120s q a (X120n q a n)
theorem l120_0 (q:YF) (a:Rw D160) (kk:PK S):K120_0 a (P120 q kk)=b120_0 q a (K120_1 a kk):=by
 kernel_rfl
theorem l120_1 (q:YF) (a:Rw D160) (kk:PK S):K120_1 a (P120 q kk)=b120_1 q a (K120_0 a kk) (K120_2 a kk):=by
 kernel_rfl
theorem l120_2 (q:YF) (a:Rw D160) (kk:PK S):K120_2 a (P120 q kk)=b120_2 q a (K120_0 a kk):=by
 kernel_rfl
theorem l120_in (q:YF) (a:Rw D160) (kk:PK S):BG q kk 120 Tryz.f120 [S.t (T.rows 3 a.n fun i=>e160 (a.get i))]=e120_in q a (K120_0 a kk):=by
 kernel_rfl
theorem h120 (q:YF) (a:Rw D160):∀ n,K120_0 a (H120 q n)=D120_0 (X120n q a n)∧K120_1 a (H120 q n)=D120_1 (X120n q a n)∧K120_2 a (H120 q n)=D120_2 (X120n q a n)
 | 0=>⟨rfl,rfl,rfl⟩
 | n+1=>by
  obtain ⟨h0,h1,h2⟩:=h120 q a n
  exact ⟨(l120_0 q a (H120 q n)).trans (by rw [h1];kernel_rfl),(l120_1 q a (H120 q n)).trans (by rw [h0,h2];kernel_rfl),(l120_2 q a (H120 q n)).trans (by rw [h0];kernel_rfl)⟩
theorem W120 (a:Rw D160) (n:Nat) (x:S) (h:e120_in (regs O) a (D120_0 (X120n (regs O) a n))=some x):(W O).callT 120 [S.t (T.rows 3 a.n fun i=>e160 (a.get i))]=some x:=by
 refine WG (fn:=Tryz.f120) (by kernel_rfl) (by kernel_rfl) (n:=n) ?_
 refine (l120_in (regs O) a (H120 (regs O) n)).trans ?_
 obtain ⟨h0,h1,h2⟩:=h120 (regs O) a n
 rw [h0]
 exact h
abbrev P121 (q:YF) (kk:PK S):PK S:=PG q 121 Tryz.f121 kk
abbrev H121 (q:YF):Nat→PK S:=HG q 121 Tryz.f121
def K121_0 (a:D61) (kk:PK S):Int→OS:=fun v0=> kk 4 0 0 (mkSt [(24,ii (ofN a.fSpread.n)),(1,S.ptr 0 0),(25,ii v0),(23,S.t (T.rows 3 a.fSpread.n fun i=>e70 (a.fSpread.get i)))] 1 [(0,B.box (List.map S.t (e61 a)))])
def K121_1 (a:D61) (kk:PK S):OS:=kk 11 0 0 (mkSt [(54,ii (ofN 2)),(53,S.sl 0 2),(55,ii 0)] 1 [(0,B.lst false 1 2 [S.t (T.rows 2 a.fNear.n fun i=>e138 (a.fNear.get i)),S.t (T.rows 2 a.fApart.n fun i=>e138 (a.fApart.get i))])])
abbrev T121_2:Type:=Int→Bool→Int→BA→Bool→D70→BA→Int→D70→D70→S→S→Bool→S→Bool→OS
def K121_2 (a:D61) (kk:PK S):T121_2:=fun v0 v1 v2 u3 u4 u5 u6 u7 u8 u9 u10 u11 u12 u13 u14=> kk 6 14 6 (mkSt [(32,ss u3),(40,u10),(24,ii (ofN a.fSpread.n)),(4,S.ptr 4 0),(36,bb u4),(28,ag (e70 u5)),(34,S.ptr 4 2),(26,bb u14),(38,u11),(30,ss u6),(1,S.ptr 0 0),(33,ii v0),(41,bb v1),(25,ii v2),(37,bb u12),(29,S.ptr 4 0),(35,ii u7),(27,S.pt (e70 u8)),(39,u13),(23,S.t (T.rows 3 a.fSpread.n fun i=>e70 (a.fSpread.get i))),(31,S.ptr 4 1)] 23 [(0,B.box (List.map S.t (e61 a))),(4,B.box (List.map S.t (e70 u9)))])
def K121_3 (a:D61) (kk:PK S):Int→OS:=fun v0=> kk 14 0 0 (mkSt [(60,ii (ofN a.fNear.n)),(54,ii (ofN 2)),(53,S.sl 0 2),(61,ii v0),(59,S.t (T.rows 2 a.fNear.n fun i=>e138 (a.fNear.get i))),(55,ii 0)] 1 [(0,B.lst false 1 2 [S.t (T.rows 2 a.fNear.n fun i=>e138 (a.fNear.get i)),S.t (T.rows 2 a.fApart.n fun i=>e138 (a.fApart.get i))])])
def K121_4 (a:D61) (kk:PK S):OS:=kk 11 0 0 (mkSt [(54,ii (ofN 2)),(53,S.sl 0 2),(55,ii 1)] 1 [(0,B.lst false 1 2 [S.t (T.rows 2 a.fNear.n fun i=>e138 (a.fNear.get i)),S.t (T.rows 2 a.fApart.n fun i=>e138 (a.fApart.get i))])])
def K121_5 (a:D61) (kk:PK S):Int→OS:=fun v0=> kk 14 0 0 (mkSt [(60,ii (ofN a.fApart.n)),(54,ii (ofN 2)),(53,S.sl 0 2),(61,ii v0),(59,S.t (T.rows 2 a.fApart.n fun i=>e138 (a.fApart.get i))),(55,ii 1)] 1 [(0,B.lst false 1 2 [S.t (T.rows 2 a.fNear.n fun i=>e138 (a.fNear.get i)),S.t (T.rows 2 a.fApart.n fun i=>e138 (a.fApart.get i))])])
def K121_6 (a:D61) (kk:PK S):OS:=kk 11 0 0 (mkSt [(54,ii (ofN 2)),(53,S.sl 0 2),(55,ii 2)] 1 [(0,B.lst false 1 2 [S.t (T.rows 2 a.fNear.n fun i=>e138 (a.fNear.get i)),S.t (T.rows 2 a.fApart.n fun i=>e138 (a.fApart.get i))])])
def b121_0 (q:YF) (a:D61) (k1:OS) (k2:T121_2) (v0:Int):OS:=bif ltI v0 (ofN a.fSpread.n) then elemO v0 a.fSpread.n fun h=>yC q 159 [ss (a.fSpread.get (Fin.mk v0.toNat h)).fKey,ss (a.fSpread.get (Fin.mk v0.toNat h)).fApp] fun y=>bif geI (a.fSpread.get (Fin.mk v0.toNat h)).fSkew 1 then k2 (y.i 0) (leI (a.fSpread.get (Fin.mk v0.toNat h)).fSkew 16) v0 (a.fSpread.get (Fin.mk v0.toNat h)).fApp (geI (a.fSpread.get (Fin.mk v0.toNat h)).fSkew 1) (a.fSpread.get (Fin.mk v0.toNat h)) (a.fSpread.get (Fin.mk v0.toNat h)).fKey (a.fSpread.get (Fin.mk v0.toNat h)).fSkew (a.fSpread.get (Fin.mk v0.toNat h)) (a.fSpread.get (Fin.mk v0.toNat h)) (bb (leI (a.fSpread.get (Fin.mk v0.toNat h)).fSkew 16)) (S.ptr 4 2) true (ii (a.fSpread.get (Fin.mk v0.toNat h)).fSkew) (ltI v0 (ofN a.fSpread.n)) else k2 (y.i 0) false v0 (a.fSpread.get (Fin.mk v0.toNat h)).fApp (geI (a.fSpread.get (Fin.mk v0.toNat h)).fSkew 1) (a.fSpread.get (Fin.mk v0.toNat h)) (a.fSpread.get (Fin.mk v0.toNat h)).fKey (a.fSpread.get (Fin.mk v0.toNat h)).fSkew (a.fSpread.get (Fin.mk v0.toNat h)) (a.fSpread.get (Fin.mk v0.toNat h)) S.ud S.ud false S.ud (ltI v0 (ofN a.fSpread.n)) else k1
def b121_1 (q:YF) (a:D61) (k3:Int→OS):OS:=k3 0
def b121_2 (q:YF) (a:D61) (k0:Int→OS):T121_2:=fun v0 v1 v2 u3 u4 u5 u6 u7 u8 u9 u10 u11 u12 u13 u14=>yC q 108 [bb v1,ii 1] fun y=>yC q 107 [S.t (T.rows 1 2 fun i=>List.take 1 (List.drop (↑i*1) [ti v0,ti (y.i 0)]))] fun y=>bif !eqI (y.i 0) 0 then some (ii (y.i 0)) else k0 (addI .i64 v2 1)
def b121_3 (q:YF) (a:D61) (k3:Int→OS) (k4:OS) (v0:Int):OS:=bif ltI v0 (ofN a.fNear.n) then elemO v0 a.fNear.n fun h=>yC q 159 (List.map S.t (e138 (a.fNear.get (Fin.mk v0.toNat h)))) fun y=>bif !eqI (y.i 0) 0 then some (ii (y.i 0)) else k3 (addI .i64 v0 1) else k4
def b121_4 (q:YF) (a:D61) (k5:Int→OS):OS:=k5 0
def b121_5 (q:YF) (a:D61) (k5:Int→OS) (k6:OS) (v0:Int):OS:=bif ltI v0 (ofN a.fApart.n) then elemO v0 a.fApart.n fun h=>yC q 159 (List.map S.t (e138 (a.fApart.get (Fin.mk v0.toNat h)))) fun y=>bif !eqI (y.i 0) 0 then some (ii (y.i 0)) else k5 (addI .i64 v0 1) else k6
def b121_6 (q:YF) (a:D61):OS:=some (ii 0)
def e121_in (q:YF) (a:D61) (k0:Int→OS):OS:=bif gtI (Bool.rec ((fun _=>bif true then bif decide (ofN a.fNear.n > ofN a.fSpread.n) then ofN a.fNear.n else ofN a.fSpread.n else bif decide (ofN a.fNear.n < ofN a.fSpread.n) then ofN a.fNear.n else ofN a.fSpread.n) ()) ((fun _=>ofN a.fApart.n) ()) (decide (ofN a.fApart.n > bif true then bif decide (ofN a.fNear.n > ofN a.fSpread.n) then ofN a.fNear.n else ofN a.fSpread.n else bif decide (ofN a.fNear.n < ofN a.fSpread.n) then ofN a.fNear.n else ofN a.fSpread.n))) 3 then some (ii 3) else k0 0
structure X121 where
 x0:Int→OS
 x1:OS
 x2:Int→Bool→Int→OS
 x3:Int→OS
 x4:OS
 x5:Int→OS
 x6:OS
def D121_0 (X:X121):Int→OS:=fun v0=>X.x0 v0
def D121_1 (X:X121):OS:=X.x1
def D121_2 (X:X121):T121_2:=fun v0 v1 v2 _ _ _ _ _ _ _ _ _ _ _ _=>X.x2 v0 v1 v2
def D121_3 (X:X121):Int→OS:=fun v0=>X.x3 v0
def D121_4 (X:X121):OS:=X.x4
def D121_5 (X:X121):Int→OS:=fun v0=>X.x5 v0
def D121_6 (X:X121):OS:=X.x6
def X121s (q:YF) (a:D61) (X:X121):X121:=⟨fun v0=>b121_0 q a (D121_1 X) (D121_2 X) v0,
 b121_1 q a (D121_3 X),
 fun v0 v1 v2=>b121_2 q a (D121_0 X) v0 v1 v2 dd dd dd dd dd dd dd dd dd dd dd dd,
 fun v0=>b121_3 q a (D121_3 X) (D121_4 X) v0,
 b121_4 q a (D121_5 X),
 fun v0=>b121_5 q a (D121_5 X) (D121_6 X) v0,
 b121_6 q a⟩
def X121n (q:YF) (a:D61):Nat→X121
 | 0=>⟨fun _=>none,none,fun _ _ _=>none,fun _=>none,none,fun _=>none,none⟩
 | n+1=>X121s q a (X121n q a n)
theorem l121_0 (q:YF) (a:D61) (kk:PK S):K121_0 a (P121 q kk)=b121_0 q a (K121_1 a kk) (K121_2 a kk):=by
 kernel_rfl
theorem l121_1 (q:YF) (a:D61) (kk:PK S):K121_1 a (P121 q kk)=b121_1 q a (K121_3 a kk):=by
 kernel_rfl
theorem l121_2 (q:YF) (a:D61) (kk:PK S):K121_2 a (P121 q kk)=b121_2 q a (K121_0 a kk):=by
 kernel_rfl
theorem l121_3 (q:YF) (a:D61) (kk:PK S):K121_3 a (P121 q kk)=b121_3 q a (K121_3 a kk) (K121_4 a kk):=by
 kernel_rfl
theorem l121_4 (q:YF) (a:D61) (kk:PK S):K121_4 a (P121 q kk)=b121_4 q a (K121_5 a kk):=by
 kernel_rfl
theorem l121_5 (q:YF) (a:D61) (kk:PK S):K121_5 a (P121 q kk)=b121_5 q a (K121_5 a kk) (K121_6 a kk):=by
 kernel_rfl
theorem l121_6 (q:YF) (a:D61) (kk:PK S):K121_6 a (P121 q kk)=b121_6 q a:=by
 kernel_rfl
theorem l121_in (q:YF) (a:D61) (kk:PK S):BG q kk 121 Tryz.f121 [ag (e61 a)]=e121_in q a (K121_0 a kk):=by
 kernel_rfl
theorem h121 (q:YF) (a:D61):∀ n,K121_0 a (H121 q n)=D121_0 (X121n q a n)∧K121_1 a (H121 q n)=D121_1 (X121n q a n)∧K121_2 a (H121 q n)=D121_2 (X121n q a n)∧K121_3 a (H121 q n)=D121_3 (X121n q a n)∧K121_4 a (H121 q n)=D121_4 (X121n q a n)∧K121_5 a (H121 q n)=D121_5 (X121n q a n)∧K121_6 a (H121 q n)=D121_6 (X121n q a n)
 | 0=>⟨rfl,rfl,rfl,rfl,rfl,rfl,rfl⟩
 | n+1=>by
  obtain ⟨h0,h1,h2,h3,h4,h5,h6⟩:=h121 q a n
  exact ⟨(l121_0 q a (H121 q n)).trans (by rw [h1,h2];kernel_rfl),(l121_1 q a (H121 q n)).trans (by rw [h3];kernel_rfl),(l121_2 q a (H121 q n)).trans (by rw [h0];kernel_rfl),(l121_3 q a (H121 q n)).trans (by rw [h3,h4];kernel_rfl),(l121_4 q a (H121 q n)).trans (by rw [h5];kernel_rfl),(l121_5 q a (H121 q n)).trans (by rw [h5,h6];kernel_rfl),(l121_6 q a (H121 q n)).trans (by kernel_rfl)⟩
theorem W121 (a:D61) (n:Nat) (x:S) (h:e121_in (regs O) a (D121_0 (X121n (regs O) a n))=some x):(W O).callT 121 [ag (e61 a)]=some x:=by
 refine WG (fn:=Tryz.f121) (by kernel_rfl) (by kernel_rfl) (n:=n) ?_
 refine (l121_in (regs O) a (H121 (regs O) n)).trans ?_
 obtain ⟨h0,h1,h2,h3,h4,h5,h6⟩:=h121 (regs O) a n
 rw [h0]
 exact h
abbrev P122 (q:YF) (kk:PK S):PK S:=PG q 122 Tryz.f122 kk
abbrev H122 (q:YF):Nat→PK S:=HG q 122 Tryz.f122
abbrev T122_0:Type:=Bool→S→Bool→S→OS
def K122_0 (a:BA) (kk:PK S):T122_0:=fun v0 u1 u2 u3=> kk 1 7 1 (mkSt [(0,ss a),(8,bb v0),(4,bb (strEq a (bs []))),(2,bb false),(6,u1),(5,bb u2),(3,ss a),(7,u3)] 8 [])
def b122_0 (q:YF) (a:BA):T122_0:=fun v0 u1 u2 u3=>some (bb v0)
def e122_in (q:YF) (a:BA) (k0:T122_0):OS:=bif strEq a (bs []) then k0 true S.ud true S.ud else yC q 101 [ss a] fun y=>k0 (y.b 0) (ss a) false (bb (y.b 0))
structure X122 where
 x0:Bool→OS
def D122_0 (X:X122):T122_0:=fun v0 _ _ _=>X.x0 v0
def X122s (q:YF) (a:BA) (X:X122):X122:=⟨fun v0=>b122_0 q a v0 dd dd dd⟩
def X122n (q:YF) (a:BA):Nat→X122
 | 0=>⟨fun _=>none⟩
 | n+1=>X122s q a (X122n q a n)
theorem l122_0 (q:YF) (a:BA) (kk:PK S):K122_0 a (P122 q kk)=b122_0 q a:=by
 kernel_rfl
theorem l122_in (q:YF) (a:BA) (kk:PK S):BG q kk 122 Tryz.f122 [ss a]=e122_in q a (K122_0 a kk):=by
 kernel_rfl
theorem h122 (q:YF) (a:BA):∀ n,K122_0 a (H122 q n)=D122_0 (X122n q a n)
 | 0=>rfl
 | n+1=>by
  have h0:=h122 q a n
  exact (l122_0 q a (H122 q n)).trans (by kernel_rfl)
theorem W122 (a:BA) (n:Nat) (x:S) (h:e122_in (regs O) a (D122_0 (X122n (regs O) a n))=some x):(W O).callT 122 [ss a]=some x:=by
 refine WG (fn:=Tryz.f122) (by kernel_rfl) (by kernel_rfl) (n:=n) ?_
 refine (l122_in (regs O) a (H122 (regs O) n)).trans ?_
 have h0:=h122 (regs O) a n
 rw [h0]
 exact h
abbrev H123 (q:YF):Nat→PK S:=HG q 123 Tryz.f123
def e123_in (q:YF) (a:Rw D52) (b:BA):OS:=yC q 160 [S.t (T.rows 15 a.n fun i=>e52 (a.get i)),S.fn (Go.Fn.func 124) [] [S.pt [ts b]]] fun y=>some (bb (geI (y.i 0) 0))
theorem l123_in (q:YF) (a:Rw D52) (b:BA) (kk:PK S):BG q kk 123 Tryz.f123 [S.t (T.rows 15 a.n fun i=>e52 (a.get i)),S.fn (Go.Fn.func 124) [] [S.pt [ts b]]]=e123_in q a b:=by
 kernel_rfl
theorem W123 (a:Rw D52) (b:BA) (n:Nat) (x:S) (h:e123_in (regs O) a b=some x):(W O).callT 123 [S.t (T.rows 15 a.n fun i=>e52 (a.get i)),S.fn (Go.Fn.func 124) [] [S.pt [ts b]]]=some x:=by
 refine WG (fn:=Tryz.f123) (by kernel_rfl) (by kernel_rfl) (n:=n) ?_
 refine (l123_in (regs O) a b (H123 (regs O) n)).trans ?_
 exact h
abbrev H124 (q:YF):Nat→PK S:=HG q 124 Tryz.f124
def e124_in (q:YF) (a:D52) (b:BA):OS:=some (bb (strEq a.fName b))
theorem l124_in (q:YF) (a:D52) (b:BA) (kk:PK S):BG q kk 124 Tryz.f124 [ag (e52 a),S.pt [ts b]]=e124_in q a b:=by
 kernel_rfl
theorem W124 (a:D52) (b:BA) (n:Nat) (x:S) (h:e124_in (regs O) a b=some x):(W O).callT 124 [ag (e52 a),S.pt [ts b]]=some x:=by
 refine WG (fn:=Tryz.f124) (by kernel_rfl) (by kernel_rfl) (n:=n) ?_
 refine (l124_in (regs O) a b (H124 (regs O) n)).trans ?_
 exact h
abbrev H143 (q:YF):Nat→PK S:=HG q 143 Tryz.f143
def e143_in (q:YF) (a:D49) (b:D49):OS:=yC q 102 [ag (e49 a)] fun y=>bif !eqI (y.i 0) 0 then some (ii (y.i 0)) else yC q 102 [ag (e49 b)] fun y=>some (ii (y.i 0))
theorem l143_in (q:YF) (a:D49) (b:D49) (kk:PK S):BG q kk 143 Tryz.f143 [ag (e49 a),ag (e49 b)]=e143_in q a b:=by
 kernel_rfl
theorem W143 (a:D49) (b:D49) (n:Nat) (x:S) (h:e143_in (regs O) a b=some x):(W O).callT 143 [ag (e49 a),ag (e49 b)]=some x:=by
 refine WG (fn:=Tryz.f143) (by kernel_rfl) (by kernel_rfl) (n:=n) ?_
 refine (l143_in (regs O) a b (H143 (regs O) n)).trans ?_
 exact h
abbrev P144 (q:YF) (kk:PK S):PK S:=PG q 144 Tryz.f144 kk
abbrev H144 (q:YF):Nat→PK S:=HG q 144 Tryz.f144
def K144_0 (a:D49) (b:D49) (kk:PK S):OS:=kk 2 0 0 (mkSt [(4,S.ptr 2 0),(2,S.ptr 0 0),(6,ii 0),(3,S.ptr 1 0)] 3 [(0,B.box (List.map S.t (e49 a))),(2,B.box [ii 0,ii 0]),(1,B.box (List.map S.t (e49 b)))])
def K144_1 (a:D49) (b:D49) (kk:PK S):OS:=kk 2 0 0 (mkSt [(4,S.ptr 2 0),(2,S.ptr 0 0),(6,ii 1),(3,S.ptr 1 0)] 3 [(0,B.box [ii (Bool.rec ((fun _=>a.fa_0) ()) ((fun _=>b.fa_0) ()) (decide (b.fa_0 < a.fa_0))),ii a.fa_1]),(2,B.box [ii 0,ii 0]),(1,B.box (List.map S.t (e49 b)))])
def K144_2 (a:D49) (b:D49) (kk:PK S):OS:=kk 2 0 0 (mkSt [(4,S.ptr 2 0),(2,S.ptr 0 0),(6,ii 2),(3,S.ptr 1 0)] 3 [(0,B.box [ii (Bool.rec ((fun _=>a.fa_0) ()) ((fun _=>b.fa_0) ()) (decide (b.fa_0 < a.fa_0))),ii (Bool.rec ((fun _=>a.fa_1) ()) ((fun _=>b.fa_1) ()) (decide (b.fa_1 < a.fa_1)))]),(2,B.box [ii 0,ii 0]),(1,B.box (List.map S.t (e49 b)))])
def b144_0 (q:YF) (a:D49) (b:D49) (k1:OS):OS:=k1
def b144_1 (q:YF) (a:D49) (b:D49) (k2:OS):OS:=k2
def b144_2 (q:YF) (a:D49) (b:D49):OS:=some (S.agg [ii (Bool.rec ((fun _=>a.fa_0) ()) ((fun _=>b.fa_0) ()) (decide (b.fa_0 < a.fa_0))),ii (Bool.rec ((fun _=>a.fa_1) ()) ((fun _=>b.fa_1) ()) (decide (b.fa_1 < a.fa_1)))])
def e144_in (q:YF) (a:D49) (b:D49) (k0:OS):OS:=k0
structure X144 where
 x0:OS
 x1:OS
 x2:OS
def D144_0 (X:X144):OS:=X.x0
def D144_1 (X:X144):OS:=X.x1
def D144_2 (X:X144):OS:=X.x2
def X144s (q:YF) (a:D49) (b:D49) (X:X144):X144:=⟨b144_0 q a b (D144_1 X),
 b144_1 q a b (D144_2 X),
 b144_2 q a b⟩
def X144n (q:YF) (a:D49) (b:D49):Nat→X144
 | 0=>⟨none,none,none⟩
 | n+1=>X144s q a b (X144n q a b n)
theorem l144_0 (q:YF) (a:D49) (b:D49) (kk:PK S):K144_0 a b (P144 q kk)=b144_0 q a b (K144_1 a b kk):=by
 kernel_rfl
theorem l144_1 (q:YF) (a:D49) (b:D49) (kk:PK S):K144_1 a b (P144 q kk)=b144_1 q a b (K144_2 a b kk):=by
 kernel_rfl
theorem l144_2 (q:YF) (a:D49) (b:D49) (kk:PK S):K144_2 a b (P144 q kk)=b144_2 q a b:=by
 kernel_rfl
theorem l144_in (q:YF) (a:D49) (b:D49) (kk:PK S):BG q kk 144 Tryz.f144 [ag (e49 a),ag (e49 b)]=e144_in q a b (K144_0 a b kk):=by
 kernel_rfl
theorem h144 (q:YF) (a:D49) (b:D49):∀ n,K144_0 a b (H144 q n)=D144_0 (X144n q a b n)∧K144_1 a b (H144 q n)=D144_1 (X144n q a b n)∧K144_2 a b (H144 q n)=D144_2 (X144n q a b n)
 | 0=>⟨rfl,rfl,rfl⟩
 | n+1=>by
  obtain ⟨h0,h1,h2⟩:=h144 q a b n
  exact ⟨(l144_0 q a b (H144 q n)).trans (by rw [h1];kernel_rfl),(l144_1 q a b (H144 q n)).trans (by rw [h2];kernel_rfl),(l144_2 q a b (H144 q n)).trans (by kernel_rfl)⟩
theorem W144 (a:D49) (b:D49) (n:Nat) (x:S) (h:e144_in (regs O) a b (D144_0 (X144n (regs O) a b n))=some x):(W O).callT 144 [ag (e49 a),ag (e49 b)]=some x:=by
 refine WG (fn:=Tryz.f144) (by kernel_rfl) (by kernel_rfl) (n:=n) ?_
 refine (l144_in (regs O) a b (H144 (regs O) n)).trans ?_
 obtain ⟨h0,h1,h2⟩:=h144 (regs O) a b n
 rw [h0]
 exact h
end
end Go.Proofs.YtonkoellfaopiaaGreatDoor.H
