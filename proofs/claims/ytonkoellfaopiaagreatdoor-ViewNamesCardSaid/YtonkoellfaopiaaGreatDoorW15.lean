import Derived.Test.YtonkoellfaopiaaGreatDoorW7
set_option linter.unusedSimpArgs false
set_option linter.unusedVariables false
namespace Go.Proofs.YtonkoellfaopiaaGreatDoor.H
open Go
noncomputable section
abbrev P217b (q:YF) (kk:PK S):PK S:=PG q 217 Tryz.f217 kk
abbrev H217b (q:YF):Nat→PK S:=HG q 217 Tryz.f217
def s217b_0:St:=mkSt [(10,ii (ofN 0)),(9,S.t (T.v (.slice none 0 0))),(3,S.mp 0),(11,ii 0)] 1 [(0,B.mp false [])]
def K217b_0 (kk:PK S):OS:=kk 3 0 0 (s217b_0)
def b217b_0 (q:YF):OS:=flatW 900 [] (flatW 999 [] (some (S.mt [])))
def e217b_in (q:YF) (k0:OS):OS:=flatW 900 [] k0
structure X217b where
 x0:OS
def D217b_0 (X:X217b):OS:=X.x0
def X217bs (q:YF) (X:X217b):X217b:=⟨b217b_0 q⟩
def X217bn (q:YF):Nat→X217b
 | 0=>⟨none⟩
 | n+1=>X217bs q (X217bn q n)
theorem l217b_0 (q:YF) (kk:PK S):K217b_0 (P217b q kk)=b217b_0 q:=by
 kernel_rfl
theorem l217b_in (q:YF) (kk:PK S):BG q kk 217 Tryz.f217 [S.t (T.v (.slice none 0 0))]=e217b_in q (K217b_0 kk):=by
 kernel_rfl
theorem h217b (q:YF):∀ n,K217b_0 (H217b q n)=D217b_0 (X217bn q n)
 | 0=>rfl
 | n+1=>by
  have h0:=h217b q n
  exact (l217b_0 q (H217b q n)).trans (by kernel_rfl)
theorem W217b (n:Nat) (x:S) (h:e217b_in (regs O) (D217b_0 (X217bn (regs O) n))=some x):(W O).callT 217 [S.t (T.v (.slice none 0 0))]=some x:=by
 refine WG (fn:=Tryz.f217) (by kernel_rfl) (by kernel_rfl) (n:=n) ?_
 refine (l217b_in (regs O) (H217b (regs O) n)).trans ?_
 have h0:=h217b (regs O) n
 rw [h0]
 exact h
abbrev P218b (q:YF) (kk:PK S):PK S:=PG q 218 Tryz.f218 kk
abbrev H218b (q:YF):Nat→PK S:=HG q 218 Tryz.f218
def s218b_0 (a:Int) (b:Int) (v0:Int):St:=mkSt [(0,ii v0),(2,S.mt []),(6,S.ptr 0 0),(1,ii b)] 1 [(0,B.box [bb false,bb false,bb false,S.t (T.v (.slice none 0 0)),ii 0,ii 0])]
def K218b_0 (a:Int) (b:Int) (kk:PK S):Int→OS:=fun v0=> kk 1 0 0 (s218b_0 a b v0)
def s218b_1 (a:Int) (b:Int) (v0 v1:Int):St:=mkSt [(0,ii v0),(2,S.mt []),(6,S.ptr 0 0),(1,ii v1)] 1 [(0,B.box [bb false,bb false,bb false,S.t (T.v (.slice none 0 0)),ii 0,ii 0])]
def K218b_1 (a:Int) (b:Int) (kk:PK S):Int→Int→OS:=fun v0 v1=> kk 3 0 0 (s218b_1 a b v0 v1)
def s218b_2 (a:Int) (b:Int) (v0 v1:Int):St:=mkSt [(0,ii v0),(2,S.mt []),(6,S.ptr 0 0),(1,ii v1),(37,S.it)] 1 [(0,B.box [bb false,bb false,bb false,S.t (T.v (.slice none 0 0)),ii 0,ii 0])]
def K218b_2 (a:Int) (b:Int) (kk:PK S):Int→Int→OS:=fun v0 v1=> kk 6 0 0 (s218b_2 a b v0 v1)
def s218b_3 (a:Int) (b:Int) (v0 v1:Int) (v2:List (S × S)):St:=mkSt [(12,ii v0),(2,S.mt []),(6,S.ptr 0 0),(1,ii v1),(11,S.mp 1)] 2 [(0,B.box [bb false,bb false,bb false,S.t (T.v (.slice none 0 0)),ii 0,ii 0]),(1,B.mp false v2)]
abbrev T218b_3:Type:=Int→Int→(List (S × S))→OS
def K218b_3 (a:Int) (b:Int) (kk:PK S):T218b_3:=fun v0 v1 v2=> kk 15 0 0 (s218b_3 a b v0 v1 v2)
def b218b_0 (q:YF) (a:Int) (b:Int) (k0:Int→OS) (k1:Int→Int→OS) (v0:Int):OS:=bif leI v0 b then yC q 214 [ii v0,ii 10] fun y=>lookW O.P O.K 9 4 [] (ss (y.s 0)) (fun y=>bif y.b 0 then k0 (addI .i64 v0 1) else k1 v0 b) (k1 v0 b) else k1 v0 b
def b218b_1 (q:YF) (a:Int) (b:Int) (k1:Int→Int→OS) (k2:Int→Int→OS) (v0 v1:Int):OS:=bif leI v0 v1 then yC q 214 [ii v1,ii 10] fun y=>lookW O.P O.K 9 4 [] (ss (y.s 0)) (fun y=>bif y.b 0 then k1 v0 (subI .i64 v1 1) else k2 v0 v1) (k2 v0 v1) else k2 v0 v1
def b218b_2 (q:YF) (a:Int) (b:Int) (k3:T218b_3) (v0 v1:Int):OS:=bif gtI (subI .i64 (addI .i64 (subI .i64 v1 v0) 1) (ofN (lenE []))) 64 then flatW 998 [] (yC q 216 [S.mt []] fun y=>some (S.tup [S.agg [bb false,bb true,bb true,S.t (T.rows 1 (y.r 0).n (y.r 0).g),ii v0,ii v1],bb (leI (ofN (lenE [])) 64)])) else flatW 900 [] (k3 v0 v1 [])
def b218b_3 (q:YF) (a:Int) (b:Int) (k3:T218b_3) (v0 v1:Int) (v2:List (S × S)):OS:=bif leI v0 v1 then yC q 214 [ii v0,ii 10] fun y=>lookW O.P O.K 9 4 [] (ss (y.s 0)) (fun y_1=>bif !y_1.b 0 then updW O.P O.K 9 v2 (ss (y.s 0)) (bb true) fun m=>flatW 900 m (k3 (addI .i64 v0 1) v1 m) else flatW 900 v2 (k3 (addI .i64 v0 1) v1 v2)) (updW O.P O.K 9 v2 (ss (y.s 0)) (bb true) fun m=>flatW 900 m (k3 (addI .i64 v0 1) v1 m)) else flatW 900 v2 (flatW 998 v2 (yC q 216 [S.mt v2] fun y=>some (S.tup [S.agg [bb false,bb false,bb false,S.t (T.rows 1 (y.r 0).n (y.r 0).g),ii 0,ii 0],bb true])))
def e218b_in (q:YF) (a:Int) (b:Int) (k0:Int→OS):OS:=k0 a
structure X218b where
 x0:Int→OS
 x1:Int→Int→OS
 x2:Int→Int→OS
 x3:Int→Int→(List (S × S))→OS
def D218b_0 (X:X218b):Int→OS:=fun v0=>X.x0 v0
def D218b_1 (X:X218b):Int→Int→OS:=fun v0 v1=>X.x1 v0 v1
def D218b_2 (X:X218b):Int→Int→OS:=fun v0 v1=>X.x2 v0 v1
def D218b_3 (X:X218b):T218b_3:=fun v0 v1 v2=>X.x3 v0 v1 v2
def X218bs (q:YF) (a:Int) (b:Int) (X:X218b):X218b:=⟨fun v0=>b218b_0 q a b (D218b_0 X) (D218b_1 X) v0,
 fun v0 v1=>b218b_1 q a b (D218b_1 X) (D218b_2 X) v0 v1,
 fun v0 v1=>b218b_2 q a b (D218b_3 X) v0 v1,
 fun v0 v1 v2=>b218b_3 q a b (D218b_3 X) v0 v1 v2⟩
def X218bn (q:YF) (a:Int) (b:Int):Nat→X218b
 | 0=>⟨fun _=>none,fun _ _=>none,fun _ _=>none,fun _ _ _=>none⟩
 | n+1=>X218bs q a b (X218bn q a b n)
theorem l218b_0 (q:YF) (a:Int) (b:Int) (kk:PK S):K218b_0 a b (P218b q kk)=b218b_0 q a b (K218b_0 a b kk) (K218b_1 a b kk):=by
 kernel_rfl
theorem l218b_1 (q:YF) (a:Int) (b:Int) (kk:PK S):K218b_1 a b (P218b q kk)=b218b_1 q a b (K218b_1 a b kk) (K218b_2 a b kk):=by
 kernel_rfl
theorem l218b_2 (q:YF) (a:Int) (b:Int) (kk:PK S):K218b_2 a b (P218b q kk)=b218b_2 q a b (K218b_3 a b kk):=by
 kernel_rfl
theorem l218b_3 (q:YF) (a:Int) (b:Int) (kk:PK S):K218b_3 a b (P218b q kk)=b218b_3 q a b (K218b_3 a b kk):=by
 kernel_rfl
theorem l218b_in (q:YF) (a:Int) (b:Int) (kk:PK S):BG q kk 218 Tryz.f218 [ii a,ii b,S.mt []]=e218b_in q a b (K218b_0 a b kk):=by
 kernel_rfl
theorem h218b (q:YF) (a:Int) (b:Int):∀ n,K218b_0 a b (H218b q n)=D218b_0 (X218bn q a b n)∧K218b_1 a b (H218b q n)=D218b_1 (X218bn q a b n)∧K218b_2 a b (H218b q n)=D218b_2 (X218bn q a b n)∧K218b_3 a b (H218b q n)=D218b_3 (X218bn q a b n)
 | 0=>⟨rfl,rfl,rfl,rfl⟩
 | n+1=>by
  obtain ⟨h0,h1,h2,h3⟩:=h218b q a b n
  exact ⟨(l218b_0 q a b (H218b q n)).trans (by rw [h0,h1];kernel_rfl),(l218b_1 q a b (H218b q n)).trans (by rw [h1,h2];kernel_rfl),(l218b_2 q a b (H218b q n)).trans (by rw [h3];kernel_rfl),(l218b_3 q a b (H218b q n)).trans (by rw [h3];kernel_rfl)⟩
theorem W218b (a:Int) (b:Int) (n:Nat) (x:S) (h:e218b_in (regs O) a b (D218b_0 (X218bn (regs O) a b n))=some x):(W O).callT 218 [ii a,ii b,S.mt []]=some x:=by
 refine WG (fn:=Tryz.f218) (by kernel_rfl) (by kernel_rfl) (n:=n) ?_
 refine (l218b_in (regs O) a b (H218b (regs O) n)).trans ?_
 obtain ⟨h0,h1,h2,h3⟩:=h218b (regs O) a b n
 rw [h0]
 exact h
abbrev P219 (q:YF) (kk:PK S):PK S:=PG q 219 Tryz.f219 kk
abbrev H219 (q:YF):Nat→PK S:=HG q 219 Tryz.f219
def s219_0 (a:Rw BA) (b:BA) (v0:Int):St:=mkSt [(0,S.t (T.rows 1 a.n fun i=>[ts (a.get i)])),(1,ss b),(5,ii v0)] 0 []
def K219_0 (a:Rw BA) (b:BA) (kk:PK S):Int→OS:=fun v0=> kk 2 0 0 (s219_0 a b v0)
def b219_0 (q:YF) (a:Rw BA) (b:BA) (k0:Int→OS) (v0:Int):OS:=bif ltI v0 (ofN a.n) then elemO v0 a.n fun h=>bif strEq (a.get (Fin.mk v0.toNat h)) b then some (bb true) else k0 (addI .i64 v0 1) else some (bb false)
def e219_in (q:YF) (a:Rw BA) (b:BA) (k0:Int→OS):OS:=k0 0
structure X219 where
 x0:Int→OS
def D219_0 (X:X219):Int→OS:=fun v0=>X.x0 v0
def X219s (q:YF) (a:Rw BA) (b:BA) (X:X219):X219:=⟨fun v0=>b219_0 q a b (D219_0 X) v0⟩
def X219n (q:YF) (a:Rw BA) (b:BA):Nat→X219
 | 0=>⟨fun _=>none⟩
 | n+1=>X219s q a b (X219n q a b n)
theorem l219_0 (q:YF) (a:Rw BA) (b:BA) (kk:PK S):K219_0 a b (P219 q kk)=b219_0 q a b (K219_0 a b kk):=by
 kernel_rfl
theorem l219_in (q:YF) (a:Rw BA) (b:BA) (kk:PK S):BG q kk 219 Tryz.f219 [S.t (T.rows 1 a.n fun i=>e9 (a.get i)),ss b]=e219_in q a b (K219_0 a b kk):=by
 kernel_rfl
theorem h219 (q:YF) (a:Rw BA) (b:BA):∀ n,K219_0 a b (H219 q n)=D219_0 (X219n q a b n)
 | 0=>rfl
 | n+1=>by
  have h0:=h219 q a b n
  exact (l219_0 q a b (H219 q n)).trans (by rw [h0];kernel_rfl)
theorem W219 (a:Rw BA) (b:BA) (n:Nat) (x:S) (h:e219_in (regs O) a b (D219_0 (X219n (regs O) a b n))=some x):(W O).callT 219 [S.t (T.rows 1 a.n fun i=>e9 (a.get i)),ss b]=some x:=by
 refine WG (fn:=Tryz.f219) (by kernel_rfl) (by kernel_rfl) (n:=n) ?_
 refine (l219_in (regs O) a b (H219 (regs O) n)).trans ?_
 have h0:=h219 (regs O) a b n
 rw [h0]
 exact h
abbrev P219b (q:YF) (kk:PK S):PK S:=PG q 219 Tryz.f219 kk
abbrev H219b (q:YF):Nat→PK S:=HG q 219 Tryz.f219
def s219b_0 (b:BA):St:=mkSt [(0,S.t (T.v (.slice none 0 0))),(1,ss b),(5,ii 0)] 0 []
def K219b_0 (b:BA) (kk:PK S):OS:=kk 2 0 0 (s219b_0 b)
def b219b_0 (q:YF) (b:BA):OS:=some (bb false)
def e219b_in (q:YF) (b:BA) (k0:OS):OS:=k0
structure X219b where
 x0:OS
def D219b_0 (X:X219b):OS:=X.x0
def X219bs (q:YF) (b:BA) (X:X219b):X219b:=⟨b219b_0 q b⟩
def X219bn (q:YF) (b:BA):Nat→X219b
 | 0=>⟨none⟩
 | n+1=>X219bs q b (X219bn q b n)
theorem l219b_0 (q:YF) (b:BA) (kk:PK S):K219b_0 b (P219b q kk)=b219b_0 q b:=by
 kernel_rfl
theorem l219b_in (q:YF) (b:BA) (kk:PK S):BG q kk 219 Tryz.f219 [S.t (T.v (.slice none 0 0)),ss b]=e219b_in q b (K219b_0 b kk):=by
 kernel_rfl
theorem h219b (q:YF) (b:BA):∀ n,K219b_0 b (H219b q n)=D219b_0 (X219bn q b n)
 | 0=>rfl
 | n+1=>by
  have h0:=h219b q b n
  exact (l219b_0 q b (H219b q n)).trans (by kernel_rfl)
theorem W219b (b:BA) (n:Nat) (x:S) (h:e219b_in (regs O) b (D219b_0 (X219bn (regs O) b n))=some x):(W O).callT 219 [S.t (T.v (.slice none 0 0)),ss b]=some x:=by
 refine WG (fn:=Tryz.f219) (by kernel_rfl) (by kernel_rfl) (n:=n) ?_
 refine (l219b_in (regs O) b (H219b (regs O) n)).trans ?_
 have h0:=h219b (regs O) b n
 rw [h0]
 exact h
abbrev P220 (q:YF) (kk:PK S):PK S:=PG q 220 Tryz.f220 kk
abbrev H220 (q:YF):Nat→PK S:=HG q 220 Tryz.f220
def s220_0 (a:Rw BA) (b:BA) (v0:Int):St:=mkSt [(0,S.t (T.rows 1 a.n fun i=>[ts (a.get i)])),(1,ss b),(5,ii v0)] 0 []
def K220_0 (a:Rw BA) (b:BA) (kk:PK S):Int→OS:=fun v0=> kk 2 0 0 (s220_0 a b v0)
def b220_0 (q:YF) (a:Rw BA) (b:BA) (k0:Int→OS) (v0:Int):OS:=bif ltI v0 (ofN a.n) then elemO v0 a.n fun h=>bif strLt (a.get (Fin.mk v0.toNat h)) b then k0 (addI .i64 v0 1) else bif ltI v0 (ofN a.n) then elemO v0 a.n fun h=>bif strEq (a.get (Fin.mk v0.toNat h)) b then some (S.t (T.rows 1 a.n fun i=>[ts (a.get i)])) else bif leI 0 v0 && leI v0 (ofN a.n) then subO 0 (toN v0) a.n fun h=>bif fitsR (toN v0) 16 then bif fitsR (addN (toN v0) 1) 16 then bif leI 0 v0 && leI v0 (ofN a.n) && leI (ofN a.n) (ofN a.n) then subO (toN v0) (subN a.n (toN v0)) a.n fun h_1=>bif fitsR (addN (addN (toN v0) 1) (subN a.n (toN v0))) 16 then some (S.t (T.rows 1 (addN (addN (toN v0) 1) (subN a.n (toN v0))) (appGet (appGet (fun i=>[ts (a.get (Fin.mk (0+↑i) (by first | omega | (have:=i.2;omega) | (have:=i_1.2;omega))))]) fun i=>List.take 1 (List.drop (↑i*1) [ts b])) fun i=>[ts (a.get (Fin.mk (toN v0+↑i) (by first | omega | (have:=i.2;omega) | (have:=i_1.2;omega))))]))) else none else none else none else none else none else bif leI 0 v0 && leI v0 (ofN a.n) then subO 0 (toN v0) a.n fun h=>bif fitsR (toN v0) 16 then bif fitsR (addN (toN v0) 1) 16 then bif leI 0 v0 && leI v0 (ofN a.n) && leI (ofN a.n) (ofN a.n) then subO (toN v0) (subN a.n (toN v0)) a.n fun h_1=>bif fitsR (addN (addN (toN v0) 1) (subN a.n (toN v0))) 16 then some (S.t (T.rows 1 (addN (addN (toN v0) 1) (subN a.n (toN v0))) (appGet (appGet (fun i=>[ts (a.get (Fin.mk (0+↑i) (by first | omega | (have:=i.2;omega) | (have:=i_1.2;omega))))]) fun i=>List.take 1 (List.drop (↑i*1) [ts b])) fun i=>[ts (a.get (Fin.mk (toN v0+↑i) (by first | omega | (have:=i.2;omega) | (have:=i_1.2;omega))))]))) else none else none else none else none else none else bif ltI v0 (ofN a.n) then elemO v0 a.n fun h=>bif strEq (a.get (Fin.mk v0.toNat h)) b then some (S.t (T.rows 1 a.n fun i=>[ts (a.get i)])) else bif leI 0 v0 && leI v0 (ofN a.n) then subO 0 (toN v0) a.n fun h=>bif fitsR (toN v0) 16 then bif fitsR (addN (toN v0) 1) 16 then bif leI 0 v0 && leI v0 (ofN a.n) && leI (ofN a.n) (ofN a.n) then subO (toN v0) (subN a.n (toN v0)) a.n fun h_1=>bif fitsR (addN (addN (toN v0) 1) (subN a.n (toN v0))) 16 then some (S.t (T.rows 1 (addN (addN (toN v0) 1) (subN a.n (toN v0))) (appGet (appGet (fun i=>[ts (a.get (Fin.mk (0+↑i) (by first | omega | (have:=i.2;omega) | (have:=i_1.2;omega))))]) fun i=>List.take 1 (List.drop (↑i*1) [ts b])) fun i=>[ts (a.get (Fin.mk (toN v0+↑i) (by first | omega | (have:=i.2;omega) | (have:=i_1.2;omega))))]))) else none else none else none else none else none else bif leI 0 v0 && leI v0 (ofN a.n) then subO 0 (toN v0) a.n fun h=>bif fitsR (toN v0) 16 then bif fitsR (addN (toN v0) 1) 16 then bif leI 0 v0 && leI v0 (ofN a.n) && leI (ofN a.n) (ofN a.n) then subO (toN v0) (subN a.n (toN v0)) a.n fun h_1=>bif fitsR (addN (addN (toN v0) 1) (subN a.n (toN v0))) 16 then some (S.t (T.rows 1 (addN (addN (toN v0) 1) (subN a.n (toN v0))) (appGet (appGet (fun i=>[ts (a.get (Fin.mk (0+↑i) (by first | omega | (have:=i.2;omega) | (have:=i_1.2;omega))))]) fun i=>List.take 1 (List.drop (↑i*1) [ts b])) fun i=>[ts (a.get (Fin.mk (toN v0+↑i) (by first | omega | (have:=i.2;omega) | (have:=i_1.2;omega))))]))) else none else none else none else none else none
def e220_in (q:YF) (a:Rw BA) (b:BA) (k0:Int→OS):OS:=k0 0
structure X220 where
 x0:Int→OS
def D220_0 (X:X220):Int→OS:=fun v0=>X.x0 v0
def X220s (q:YF) (a:Rw BA) (b:BA) (X:X220):X220:=⟨fun v0=>b220_0 q a b (D220_0 X) v0⟩
def X220n (q:YF) (a:Rw BA) (b:BA):Nat→X220
 | 0=>⟨fun _=>none⟩
 | n+1=>X220s q a b (X220n q a b n)
theorem l220_0 (q:YF) (a:Rw BA) (b:BA) (kk:PK S):K220_0 a b (P220 q kk)=b220_0 q a b (K220_0 a b kk):=by
 kernel_rfl
theorem l220_in (q:YF) (a:Rw BA) (b:BA) (kk:PK S):BG q kk 220 Tryz.f220 [S.t (T.rows 1 a.n fun i=>e9 (a.get i)),ss b]=e220_in q a b (K220_0 a b kk):=by
 kernel_rfl
theorem h220 (q:YF) (a:Rw BA) (b:BA):∀ n,K220_0 a b (H220 q n)=D220_0 (X220n q a b n)
 | 0=>rfl
 | n+1=>by
  have h0:=h220 q a b n
  exact (l220_0 q a b (H220 q n)).trans (by rw [h0];kernel_rfl)
theorem W220 (a:Rw BA) (b:BA) (n:Nat) (x:S) (h:e220_in (regs O) a b (D220_0 (X220n (regs O) a b n))=some x):(W O).callT 220 [S.t (T.rows 1 a.n fun i=>e9 (a.get i)),ss b]=some x:=by
 refine WG (fn:=Tryz.f220) (by kernel_rfl) (by kernel_rfl) (n:=n) ?_
 refine (l220_in (regs O) a b (H220 (regs O) n)).trans ?_
 have h0:=h220 (regs O) a b n
 rw [h0]
 exact h
abbrev P220b (q:YF) (kk:PK S):PK S:=PG q 220 Tryz.f220 kk
abbrev H220b (q:YF):Nat→PK S:=HG q 220 Tryz.f220
def s220b_0 (b:BA):St:=mkSt [(0,S.t (T.v (.slice none 0 0))),(1,ss b),(5,ii 0)] 0 []
def K220b_0 (b:BA) (kk:PK S):OS:=kk 2 0 0 (s220b_0 b)
def b220b_0 (q:YF) (b:BA):OS:=bif fitsR 1 16 then bif fitsR 1 16 then some (S.t (T.rows 1 1 (appGet (appGet (fun (i:Fin 0)=>False.rec (fun x=>List T) (by have:=i.2;omega)) fun (i:Fin 1)=>List.take 1 (List.drop (↑i*1) [ts b])) fun (i:Fin 0)=>False.rec (fun x=>List T) (by have:=i.2;omega)))) else none else none
def e220b_in (q:YF) (b:BA) (k0:OS):OS:=k0
structure X220b where
 x0:OS
def D220b_0 (X:X220b):OS:=X.x0
def X220bs (q:YF) (b:BA) (X:X220b):X220b:=⟨b220b_0 q b⟩
def X220bn (q:YF) (b:BA):Nat→X220b
 | 0=>⟨none⟩
 | n+1=>X220bs q b (X220bn q b n)
theorem l220b_0 (q:YF) (b:BA) (kk:PK S):K220b_0 b (P220b q kk)=b220b_0 q b:=by
 kernel_rfl
theorem l220b_in (q:YF) (b:BA) (kk:PK S):BG q kk 220 Tryz.f220 [S.t (T.v (.slice none 0 0)),ss b]=e220b_in q b (K220b_0 b kk):=by
 kernel_rfl
theorem h220b (q:YF) (b:BA):∀ n,K220b_0 b (H220b q n)=D220b_0 (X220bn q b n)
 | 0=>rfl
 | n+1=>by
  have h0:=h220b q b n
  exact (l220b_0 q b (H220b q n)).trans (by kernel_rfl)
theorem W220b (b:BA) (n:Nat) (x:S) (h:e220b_in (regs O) b (D220b_0 (X220bn (regs O) b n))=some x):(W O).callT 220 [S.t (T.v (.slice none 0 0)),ss b]=some x:=by
 refine WG (fn:=Tryz.f220) (by kernel_rfl) (by kernel_rfl) (n:=n) ?_
 refine (l220b_in (regs O) b (H220b (regs O) n)).trans ?_
 have h0:=h220b (regs O) b n
 rw [h0]
 exact h
abbrev H229 (q:YF):Nat→PK S:=HG q 229 Tryz.f229
def e229_in (q:YF) (a:BA):OS:=yC q 146 [ss a] fun y=>some (S.t (T.v (.bool !y.b 0)))
theorem l229_in (q:YF) (a:BA) (kk:PK S):BG q kk 229 Tryz.f229 [ss a]=e229_in q a:=by
 kernel_rfl
theorem W229 (a:BA) (n:Nat) (x:S) (h:e229_in (regs O) a=some x):(W O).callT 229 [ss a]=some x:=by
 refine WG (fn:=Tryz.f229) (by kernel_rfl) (by kernel_rfl) (n:=n) ?_
 refine (l229_in (regs O) a (H229 (regs O) n)).trans ?_
 exact h
end
end Go.Proofs.YtonkoellfaopiaaGreatDoor.H
