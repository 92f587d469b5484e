import Derived.Test.YtonkoellfaopiaaGreatDoorW7
set_option linter.unusedSimpArgs false
set_option linter.unusedVariables false
namespace Go.Proofs.YtonkoellfaopiaaGreatDoor.H
open Go
noncomputable section
abbrev P163 (q:YF) (kk:PK S):PK S:=PG q 163 Tryz.f163 kk
abbrev H163 (q:YF):Nat→PK S:=HG q 163 Tryz.f163
def s163_0 (a:BA) (v0 v1:Int):St:=mkSt [(0,ss a),(4,ii v1),(5,ii v0)] 0 []
def K163_0 (a:BA) (kk:PK S):Int→Int→OS:=fun v0 v1=> kk 5 0 0 (s163_0 a v0 v1)
def s163_1 (a:BA) (v0:Bool) (v1:Int) (u2:Bool) (u3 u4 u5:BA) (u6:S) (u7:Bool) (u8 u9 u10:S) (u11 u12:Bool) (u13:S) (u14:Int):St:=mkSt [(0,ss a),(48,bb u2),(40,u9),(4,ii v1),(36,bb (gtI (sizeS a) 0)),(52,bb v0),(44,ii u14),(34,ss a),(50,u6),(6,ss u3),(38,u10),(46,ss u4),(49,bb u7),(41,bb u11),(37,bb u12),(45,ss u5),(35,ii (sizeS a)),(51,u8),(39,u13),(47,ss a)] 22 []
abbrev T163_1:Type:=Bool→Int→Bool→BA→BA→BA→S→Bool→S→S→S→Bool→Bool→S→Int→OS
def K163_1 (a:BA) (kk:PK S):T163_1:=fun v0 v1 u2 u3 u4 u5 u6 u7 u8 u9 u10 u11 u12 u13 u14=> kk 12 8 11 (s163_1 a v0 v1 u2 u3 u4 u5 u6 u7 u8 u9 u10 u11 u12 u13 u14)
def s163_2 (a:BA) (v0:Bool) (v1:Int) (u2 u3:Bool) (u4 u5:BA) (u6:Bool) (u7:BA) (u8:Int) (u9:S) (u10:Bool) (u11:S) (u12 u13 u14:Int):St:=mkSt [(0,ss a),(48,bb u2),(40,bb u3),(4,ii v1),(36,bb (gtI (sizeS a) 0)),(52,bb v0),(44,ii u12),(34,ss a),(50,u9),(42,ii u13),(6,ss u4),(38,ss a),(46,ss u5),(49,bb u10),(41,bb u6),(37,bb true),(45,ss u7),(35,ii (sizeS a)),(51,u11),(43,ii u14),(39,S.t (T.v (.int .u8 u8))),(47,ss a)] 25 []
abbrev T163_2:Type:=Bool→Int→Bool→Bool→BA→BA→Bool→BA→Int→S→Bool→S→Int→Int→Int→OS
def K163_2 (a:BA) (kk:PK S):T163_2:=fun v0 v1 u2 u3 u4 u5 u6 u7 u8 u9 u10 u11 u12 u13 u14=> kk 12 8 14 (s163_2 a v0 v1 u2 u3 u4 u5 u6 u7 u8 u9 u10 u11 u12 u13 u14)
def b163_0 (q:YF) (a:BA) (k0:Int→Int→OS) (k1:T163_1) (k2:T163_2) (v0 v1:Int):OS:=bif ltI v0 (sizeS a) then byteO v0 a fun c=>bif geI c 48 then byteO v0 a fun c=>bif leI c 57 then byteO v0 a fun c=>k0 (addI .i64 v0 1) (addI .i64 (mulI .i64 v1 10) (wrapI .i64 (subI .u8 c 48))) else k0 (addI .i64 v0 1) v1 else k0 (addI .i64 v0 1) v1 else bif gtI (sizeS a) 0 then byteO 0 a fun c=>bif eqI c 45 then yC q 193 [ii (subI .i64 0 v1)] fun y=>bif !strEq (y.s 0) a then k2 true (subI .i64 0 v1) (!strEq (y.s 0) a) (eqI c 45) (y.s 0) (y.s 0) (eqI c 45) (y.s 0) c S.ud true S.ud (subI .i64 0 v1) v1 (subI .i64 0 v1) else k2 (ltI (subI .i64 0 v1) (Int.negSucc 2147483647)) (subI .i64 0 v1) (!strEq (y.s 0) a) (eqI c 45) (y.s 0) (y.s 0) (eqI c 45) (y.s 0) c (ii (subI .i64 0 v1)) false (bb (ltI (subI .i64 0 v1) (Int.negSucc 2147483647))) (subI .i64 0 v1) v1 (subI .i64 0 v1) else yC q 193 [ii v1] fun y=>bif !strEq (y.s 0) a then k1 true v1 (!strEq (y.s 0) a) (y.s 0) (y.s 0) (y.s 0) S.ud true S.ud (bb (eqI c 45)) (ss a) (eqI c 45) true (S.t (T.v (.int .u8 c))) v1 else k1 (ltI v1 (Int.negSucc 2147483647)) v1 (!strEq (y.s 0) a) (y.s 0) (y.s 0) (y.s 0) (ii v1) false (bb (ltI v1 (Int.negSucc 2147483647))) (bb (eqI c 45)) (ss a) (eqI c 45) true (S.t (T.v (.int .u8 c))) v1 else yC q 193 [ii v1] fun y=>bif !strEq (y.s 0) a then k1 true v1 (!strEq (y.s 0) a) (y.s 0) (y.s 0) (y.s 0) S.ud true S.ud S.ud S.ud false false S.ud v1 else k1 (ltI v1 (Int.negSucc 2147483647)) v1 (!strEq (y.s 0) a) (y.s 0) (y.s 0) (y.s 0) (ii v1) false (bb (ltI v1 (Int.negSucc 2147483647))) S.ud S.ud false false S.ud v1
def b163_1 (q:YF) (a:BA) (v0:Bool) (v1:Int) (u2:Bool) (u3 u4 u5:BA) (u6:S) (u7:Bool) (u8 u9 u10:S) (u11 u12:Bool) (u13:S) (u14:Int):OS:=bif v0 then some (S.tup [ii 0,bb false]) else bif gtI v1 2147483648 then some (S.tup [ii 0,bb false]) else some (S.tup [ii v1,bb true])
def b163_2 (q:YF) (a:BA) (v0:Bool) (v1:Int) (u2 u3:Bool) (u4 u5:BA) (u6:Bool) (u7:BA) (u8:Int) (u9:S) (u10:Bool) (u11:S) (u12 u13 u14:Int):OS:=bif v0 then some (S.tup [ii 0,bb false]) else bif gtI v1 2147483648 then some (S.tup [ii 0,bb false]) else some (S.tup [ii v1,bb true])
def e163_in (q:YF) (a:BA) (k0:Int→Int→OS):OS:=bif gtI (sizeS a) 11 then some (S.tup [ii 0,bb false]) else k0 0 0
structure X163 where
 x0:Int→Int→OS
 x1:Bool→Int→OS
 x2:Bool→Int→OS
def D163_0 (X:X163):Int→Int→OS:=fun v0 v1=>X.x0 v0 v1
def D163_1 (X:X163):T163_1:=fun v0 v1 _ _ _ _ _ _ _ _ _ _ _ _ _=>X.x1 v0 v1
def D163_2 (X:X163):T163_2:=fun v0 v1 _ _ _ _ _ _ _ _ _ _ _ _ _=>X.x2 v0 v1
def X163s (q:YF) (a:BA) (X:X163):X163:=⟨fun v0 v1=>b163_0 q a (D163_0 X) (D163_1 X) (D163_2 X) v0 v1,
 fun v0 v1=>b163_1 q a v0 v1 dd dd dd dd dd dd dd dd dd dd dd dd dd,
 fun v0 v1=>b163_2 q a v0 v1 dd dd dd dd dd dd dd dd dd dd dd dd dd⟩
def X163n (q:YF) (a:BA):Nat→X163
 | 0=>⟨fun _ _=>none,fun _ _=>none,fun _ _=>none⟩
 | n+1=>X163s q a (X163n q a n)
theorem l163_0 (q:YF) (a:BA) (kk:PK S):K163_0 a (P163 q kk)=b163_0 q a (K163_0 a kk) (K163_1 a kk) (K163_2 a kk):=by
 kernel_rfl
theorem l163_1 (q:YF) (a:BA) (kk:PK S):K163_1 a (P163 q kk)=b163_1 q a:=by
 kernel_rfl
theorem l163_2 (q:YF) (a:BA) (kk:PK S):K163_2 a (P163 q kk)=b163_2 q a:=by
 kernel_rfl
theorem l163_in (q:YF) (a:BA) (kk:PK S):BG q kk 163 Tryz.f163 [ss a]=e163_in q a (K163_0 a kk):=by
 kernel_rfl
theorem h163 (q:YF) (a:BA):∀ n,K163_0 a (H163 q n)=D163_0 (X163n q a n)∧K163_1 a (H163 q n)=D163_1 (X163n q a n)∧K163_2 a (H163 q n)=D163_2 (X163n q a n)
 | 0=>⟨rfl,rfl,rfl⟩
 | n+1=>by
  obtain ⟨h0,h1,h2⟩:=h163 q a n
  exact ⟨(l163_0 q a (H163 q n)).trans (by rw [h0,h1,h2];kernel_rfl),(l163_1 q a (H163 q n)).trans (by kernel_rfl),(l163_2 q a (H163 q n)).trans (by kernel_rfl)⟩
theorem W163 (a:BA) (n:Nat) (x:S) (h:e163_in (regs O) a (D163_0 (X163n (regs O) a n))=some x):(W O).callT 163 [ss a]=some x:=by
 refine WG (fn:=Tryz.f163) (by kernel_rfl) (by kernel_rfl) (n:=n) ?_
 refine (l163_in (regs O) a (H163 (regs O) n)).trans ?_
 obtain ⟨h0,h1,h2⟩:=h163 (regs O) a n
 rw [h0]
 exact h
abbrev P182 (q:YF) (kk:PK S):PK S:=PG q 182 Tryz.f182 kk
abbrev H182 (q:YF):Nat→PK S:=HG q 182 Tryz.f182
def s182_0 (a:Rw BA) (b:BA) (v0:Int):St:=mkSt [(0,S.t (T.rows 1 a.n fun i=>[ts (a.get i)])),(8,ii v0),(1,ss b),(7,ii (ofN a.n))] 0 []
def K182_0 (a:Rw BA) (b:BA) (kk:PK S):Int→OS:=fun v0=> kk 2 0 0 (s182_0 a b v0)
def b182_0 (q:YF) (a:Rw BA) (b:BA) (k0:Int→OS) (v0:Int):OS:=bif ltI v0 (ofN a.n) then elemO v0 a.n fun h=>bif strEq b (a.get (Fin.mk v0.toNat h)) then some (ii v0) else k0 (addI .i64 v0 1) else some (ii (Int.negSucc 0))
def e182_in (q:YF) (a:Rw BA) (b:BA) (k0:Int→OS):OS:=k0 0
structure X182 where
 x0:Int→OS
def D182_0 (X:X182):Int→OS:=fun v0=>X.x0 v0
def X182s (q:YF) (a:Rw BA) (b:BA) (X:X182):X182:=⟨fun v0=>b182_0 q a b (D182_0 X) v0⟩
def X182n (q:YF) (a:Rw BA) (b:BA):Nat→X182
 | 0=>⟨fun _=>none⟩
 | n+1=>X182s q a b (X182n q a b n)
theorem l182_0 (q:YF) (a:Rw BA) (b:BA) (kk:PK S):K182_0 a b (P182 q kk)=b182_0 q a b (K182_0 a b kk):=by
 kernel_rfl
theorem l182_in (q:YF) (a:Rw BA) (b:BA) (kk:PK S):BG q kk 182 Tryz.f182 [S.t (T.rows 1 a.n fun i=>e9 (a.get i)),ss b]=e182_in q a b (K182_0 a b kk):=by
 kernel_rfl
theorem h182 (q:YF) (a:Rw BA) (b:BA):∀ n,K182_0 a b (H182 q n)=D182_0 (X182n q a b n)
 | 0=>rfl
 | n+1=>by
  have h0:=h182 q a b n
  exact (l182_0 q a b (H182 q n)).trans (by rw [h0];kernel_rfl)
theorem W182 (a:Rw BA) (b:BA) (n:Nat) (x:S) (h:e182_in (regs O) a b (D182_0 (X182n (regs O) a b n))=some x):(W O).callT 182 [S.t (T.rows 1 a.n fun i=>e9 (a.get i)),ss b]=some x:=by
 refine WG (fn:=Tryz.f182) (by kernel_rfl) (by kernel_rfl) (n:=n) ?_
 refine (l182_in (regs O) a b (H182 (regs O) n)).trans ?_
 have h0:=h182 (regs O) a b n
 rw [h0]
 exact h
abbrev P184 (q:YF) (kk:PK S):PK S:=PG q 184 Tryz.f184 kk
abbrev H184 (q:YF):Nat→PK S:=HG q 184 Tryz.f184
def s184_0 (a:Rw D88) (b:D88) (v0:Int):St:=mkSt [(0,S.t (T.rows 2 a.n fun i=>e88 (a.get i))),(8,ii v0),(1,S.fn (Go.Fn.func 148) [] [S.pt (e88 b)]),(7,ii (ofN a.n))] 0 []
def K184_0 (a:Rw D88) (b:D88) (kk:PK S):Int→OS:=fun v0=> kk 2 0 0 (s184_0 a b v0)
def b184_0 (q:YF) (a:Rw D88) (b:D88) (k0:Int→OS) (v0:Int):OS:=bif ltI v0 (ofN a.n) then elemO v0 a.n fun h=>yC q 148 [ag (e88 (a.get (Fin.mk v0.toNat h))),S.pt (e88 b)] fun y=>bif y.b 0 then some (ii v0) else k0 (addI .i64 v0 1) else some (ii (Int.negSucc 0))
def e184_in (q:YF) (a:Rw D88) (b:D88) (k0:Int→OS):OS:=k0 0
structure X184 where
 x0:Int→OS
def D184_0 (X:X184):Int→OS:=fun v0=>X.x0 v0
def X184s (q:YF) (a:Rw D88) (b:D88) (X:X184):X184:=⟨fun v0=>b184_0 q a b (D184_0 X) v0⟩
def X184n (q:YF) (a:Rw D88) (b:D88):Nat→X184
 | 0=>⟨fun _=>none⟩
 | n+1=>X184s q a b (X184n q a b n)
theorem l184_0 (q:YF) (a:Rw D88) (b:D88) (kk:PK S):K184_0 a b (P184 q kk)=b184_0 q a b (K184_0 a b kk):=by
 kernel_rfl
theorem l184_in (q:YF) (a:Rw D88) (b:D88) (kk:PK S):BG q kk 184 Tryz.f184 [S.t (T.rows 2 a.n fun i=>e88 (a.get i)),S.fn (Go.Fn.func 148) [] [S.pt (e88 b)]]=e184_in q a b (K184_0 a b kk):=by
 kernel_rfl
theorem h184 (q:YF) (a:Rw D88) (b:D88):∀ n,K184_0 a b (H184 q n)=D184_0 (X184n q a b n)
 | 0=>rfl
 | n+1=>by
  have h0:=h184 q a b n
  exact (l184_0 q a b (H184 q n)).trans (by rw [h0];kernel_rfl)
theorem W184 (a:Rw D88) (b:D88) (n:Nat) (x:S) (h:e184_in (regs O) a b (D184_0 (X184n (regs O) a b n))=some x):(W O).callT 184 [S.t (T.rows 2 a.n fun i=>e88 (a.get i)),S.fn (Go.Fn.func 148) [] [S.pt (e88 b)]]=some x:=by
 refine WG (fn:=Tryz.f184) (by kernel_rfl) (by kernel_rfl) (n:=n) ?_
 refine (l184_in (regs O) a b (H184 (regs O) n)).trans ?_
 have h0:=h184 (regs O) a b n
 rw [h0]
 exact h
abbrev P184b (q:YF) (kk:PK S):PK S:=PG q 184 Tryz.f184 kk
abbrev H184b (q:YF):Nat→PK S:=HG q 184 Tryz.f184
def s184b_0 (a:Rw D88) (b:D88) (v0:Int):St:=mkSt [(0,S.t (T.rows 2 a.n fun i=>e88 (a.get i))),(8,ii v0),(1,S.fn (Go.Fn.func 154) [] [S.pt (e88 b)]),(7,ii (ofN a.n))] 0 []
def K184b_0 (a:Rw D88) (b:D88) (kk:PK S):Int→OS:=fun v0=> kk 2 0 0 (s184b_0 a b v0)
def b184b_0 (q:YF) (a:Rw D88) (b:D88) (k0:Int→OS) (v0:Int):OS:=bif ltI v0 (ofN a.n) then elemO v0 a.n fun h=>yC q 154 [ag (e88 (a.get (Fin.mk v0.toNat h))),S.pt (e88 b)] fun y=>bif y.b 0 then some (ii v0) else k0 (addI .i64 v0 1) else some (ii (Int.negSucc 0))
def e184b_in (q:YF) (a:Rw D88) (b:D88) (k0:Int→OS):OS:=k0 0
structure X184b where
 x0:Int→OS
def D184b_0 (X:X184b):Int→OS:=fun v0=>X.x0 v0
def X184bs (q:YF) (a:Rw D88) (b:D88) (X:X184b):X184b:=⟨fun v0=>b184b_0 q a b (D184b_0 X) v0⟩
def X184bn (q:YF) (a:Rw D88) (b:D88):Nat→X184b
 | 0=>⟨fun _=>none⟩
 | n+1=>X184bs q a b (X184bn q a b n)
theorem l184b_0 (q:YF) (a:Rw D88) (b:D88) (kk:PK S):K184b_0 a b (P184b q kk)=b184b_0 q a b (K184b_0 a b kk):=by
 kernel_rfl
theorem l184b_in (q:YF) (a:Rw D88) (b:D88) (kk:PK S):BG q kk 184 Tryz.f184 [S.t (T.rows 2 a.n fun i=>e88 (a.get i)),S.fn (Go.Fn.func 154) [] [S.pt (e88 b)]]=e184b_in q a b (K184b_0 a b kk):=by
 kernel_rfl
theorem h184b (q:YF) (a:Rw D88) (b:D88):∀ n,K184b_0 a b (H184b q n)=D184b_0 (X184bn q a b n)
 | 0=>rfl
 | n+1=>by
  have h0:=h184b q a b n
  exact (l184b_0 q a b (H184b q n)).trans (by rw [h0];kernel_rfl)
theorem W184b (a:Rw D88) (b:D88) (n:Nat) (x:S) (h:e184b_in (regs O) a b (D184b_0 (X184bn (regs O) a b n))=some x):(W O).callT 184 [S.t (T.rows 2 a.n fun i=>e88 (a.get i)),S.fn (Go.Fn.func 154) [] [S.pt (e88 b)]]=some x:=by
 refine WG (fn:=Tryz.f184) (by kernel_rfl) (by kernel_rfl) (n:=n) ?_
 refine (l184b_in (regs O) a b (H184b (regs O) n)).trans ?_
 have h0:=h184b (regs O) a b n
 rw [h0]
 exact h
abbrev P185 (q:YF) (kk:PK S):PK S:=PG q 185 Tryz.f185 kk
abbrev H185 (q:YF):Nat→PK S:=HG q 185 Tryz.f185
def s185_0 (a:Rw D109) (b:D109) (v0:Int):St:=mkSt [(0,S.t (T.rows 4 a.n fun i=>e109 (a.get i))),(8,ii v0),(1,S.fn (Go.Fn.func 150) [] [S.pt (e109 b)]),(7,ii (ofN a.n))] 0 []
def K185_0 (a:Rw D109) (b:D109) (kk:PK S):Int→OS:=fun v0=> kk 2 0 0 (s185_0 a b v0)
def b185_0 (q:YF) (a:Rw D109) (b:D109) (k0:Int→OS) (v0:Int):OS:=bif ltI v0 (ofN a.n) then elemO v0 a.n fun h=>yC q 150 [ag (e109 (a.get (Fin.mk v0.toNat h))),S.pt (e109 b)] fun y=>bif y.b 0 then some (ii v0) else k0 (addI .i64 v0 1) else some (ii (Int.negSucc 0))
def e185_in (q:YF) (a:Rw D109) (b:D109) (k0:Int→OS):OS:=k0 0
structure X185 where
 x0:Int→OS
def D185_0 (X:X185):Int→OS:=fun v0=>X.x0 v0
def X185s (q:YF) (a:Rw D109) (b:D109) (X:X185):X185:=⟨fun v0=>b185_0 q a b (D185_0 X) v0⟩
def X185n (q:YF) (a:Rw D109) (b:D109):Nat→X185
 | 0=>⟨fun _=>none⟩
 | n+1=>X185s q a b (X185n q a b n)
theorem l185_0 (q:YF) (a:Rw D109) (b:D109) (kk:PK S):K185_0 a b (P185 q kk)=b185_0 q a b (K185_0 a b kk):=by
 kernel_rfl
theorem l185_in (q:YF) (a:Rw D109) (b:D109) (kk:PK S):BG q kk 185 Tryz.f185 [S.t (T.rows 4 a.n fun i=>e109 (a.get i)),S.fn (Go.Fn.func 150) [] [S.pt (e109 b)]]=e185_in q a b (K185_0 a b kk):=by
 kernel_rfl
theorem h185 (q:YF) (a:Rw D109) (b:D109):∀ n,K185_0 a b (H185 q n)=D185_0 (X185n q a b n)
 | 0=>rfl
 | n+1=>by
  have h0:=h185 q a b n
  exact (l185_0 q a b (H185 q n)).trans (by rw [h0];kernel_rfl)
theorem W185 (a:Rw D109) (b:D109) (n:Nat) (x:S) (h:e185_in (regs O) a b (D185_0 (X185n (regs O) a b n))=some x):(W O).callT 185 [S.t (T.rows 4 a.n fun i=>e109 (a.get i)),S.fn (Go.Fn.func 150) [] [S.pt (e109 b)]]=some x:=by
 refine WG (fn:=Tryz.f185) (by kernel_rfl) (by kernel_rfl) (n:=n) ?_
 refine (l185_in (regs O) a b (H185 (regs O) n)).trans ?_
 have h0:=h185 (regs O) a b n
 rw [h0]
 exact h
abbrev P186 (q:YF) (kk:PK S):PK S:=PG q 186 Tryz.f186 kk
abbrev H186 (q:YF):Nat→PK S:=HG q 186 Tryz.f186
def s186_0 (a:Rw BA) (v0:Int):St:=mkSt [(0,S.t (T.rows 1 a.n fun i=>[ts (a.get i)])),(8,ii v0),(1,S.t (T.v (.func (Go.Fn.func 152) #[] #[]))),(7,ii (ofN a.n))] 0 []
def K186_0 (a:Rw BA) (kk:PK S):Int→OS:=fun v0=> kk 2 0 0 (s186_0 a v0)
def b186_0 (q:YF) (a:Rw BA) (k0:Int→OS) (v0:Int):OS:=bif ltI v0 (ofN a.n) then elemO v0 a.n fun h=>yC q 152 [ss (a.get (Fin.mk v0.toNat h))] fun y=>bif y.b 0 then some (ii v0) else k0 (addI .i64 v0 1) else some (ii (Int.negSucc 0))
def e186_in (q:YF) (a:Rw BA) (k0:Int→OS):OS:=k0 0
structure X186 where
 x0:Int→OS
def D186_0 (X:X186):Int→OS:=fun v0=>X.x0 v0
def X186s (q:YF) (a:Rw BA) (X:X186):X186:=⟨fun v0=>b186_0 q a (D186_0 X) v0⟩
def X186n (q:YF) (a:Rw BA):Nat→X186
 | 0=>⟨fun _=>none⟩
 | n+1=>X186s q a (X186n q a n)
theorem l186_0 (q:YF) (a:Rw BA) (kk:PK S):K186_0 a (P186 q kk)=b186_0 q a (K186_0 a kk):=by
 kernel_rfl
theorem l186_in (q:YF) (a:Rw BA) (kk:PK S):BG q kk 186 Tryz.f186 [S.t (T.rows 1 a.n fun i=>[ts (a.get i)]),S.t (T.v (.func (Go.Fn.func 152) #[] #[]))]=e186_in q a (K186_0 a kk):=by
 kernel_rfl
theorem h186 (q:YF) (a:Rw BA):∀ n,K186_0 a (H186 q n)=D186_0 (X186n q a n)
 | 0=>rfl
 | n+1=>by
  have h0:=h186 q a n
  exact (l186_0 q a (H186 q n)).trans (by rw [h0];kernel_rfl)
theorem W186 (a:Rw BA) (n:Nat) (x:S) (h:e186_in (regs O) a (D186_0 (X186n (regs O) a n))=some x):(W O).callT 186 [S.t (T.rows 1 a.n fun i=>[ts (a.get i)]),S.t (T.v (.func (Go.Fn.func 152) #[] #[]))]=some x:=by
 refine WG (fn:=Tryz.f186) (by kernel_rfl) (by kernel_rfl) (n:=n) ?_
 refine (l186_in (regs O) a (H186 (regs O) n)).trans ?_
 have h0:=h186 (regs O) a n
 rw [h0]
 exact h
abbrev P186b (q:YF) (kk:PK S):PK S:=PG q 186 Tryz.f186 kk
abbrev H186b (q:YF):Nat→PK S:=HG q 186 Tryz.f186
def s186b_0 (a:Rw BA) (v0:Int):St:=mkSt [(0,S.t (T.rows 1 a.n fun i=>[ts (a.get i)])),(8,ii v0),(1,S.t (T.v (.func (Go.Fn.func 229) #[] #[]))),(7,ii (ofN a.n))] 0 []
def K186b_0 (a:Rw BA) (kk:PK S):Int→OS:=fun v0=> kk 2 0 0 (s186b_0 a v0)
def b186b_0 (q:YF) (a:Rw BA) (k0:Int→OS) (v0:Int):OS:=bif ltI v0 (ofN a.n) then elemO v0 a.n fun h=>yC q 229 [ss (a.get (Fin.mk v0.toNat h))] fun y=>bif y.b 0 then some (ii v0) else k0 (addI .i64 v0 1) else some (ii (Int.negSucc 0))
def e186b_in (q:YF) (a:Rw BA) (k0:Int→OS):OS:=k0 0
structure X186b where
 x0:Int→OS
def D186b_0 (X:X186b):Int→OS:=fun v0=>X.x0 v0
def X186bs (q:YF) (a:Rw BA) (X:X186b):X186b:=⟨fun v0=>b186b_0 q a (D186b_0 X) v0⟩
def X186bn (q:YF) (a:Rw BA):Nat→X186b
 | 0=>⟨fun _=>none⟩
 | n+1=>X186bs q a (X186bn q a n)
theorem l186b_0 (q:YF) (a:Rw BA) (kk:PK S):K186b_0 a (P186b q kk)=b186b_0 q a (K186b_0 a kk):=by
 kernel_rfl
theorem l186b_in (q:YF) (a:Rw BA) (kk:PK S):BG q kk 186 Tryz.f186 [S.t (T.rows 1 a.n fun i=>[ts (a.get i)]),S.t (T.v (.func (Go.Fn.func 229) #[] #[]))]=e186b_in q a (K186b_0 a kk):=by
 kernel_rfl
theorem h186b (q:YF) (a:Rw BA):∀ n,K186b_0 a (H186b q n)=D186b_0 (X186bn q a n)
 | 0=>rfl
 | n+1=>by
  have h0:=h186b q a n
  exact (l186b_0 q a (H186b q n)).trans (by rw [h0];kernel_rfl)
theorem W186b (a:Rw BA) (n:Nat) (x:S) (h:e186b_in (regs O) a (D186b_0 (X186bn (regs O) a n))=some x):(W O).callT 186 [S.t (T.rows 1 a.n fun i=>[ts (a.get i)]),S.t (T.v (.func (Go.Fn.func 229) #[] #[]))]=some x:=by
 refine WG (fn:=Tryz.f186) (by kernel_rfl) (by kernel_rfl) (n:=n) ?_
 refine (l186b_in (regs O) a (H186b (regs O) n)).trans ?_
 have h0:=h186b (regs O) a n
 rw [h0]
 exact h
abbrev H187 (q:YF):Nat→PK S:=HG q 187 Tryz.f187
def e187_in (q:YF) (a:D68):OS:=yC q 215 [ag (e68 a)] fun y=>bif !eqI (y.i 0) 0 then some (S.tup [S.agg [bb false,bb false,bb false,S.t (T.rows 1 0 fun i=>False.rec (fun x=>List T) (by first | omega | (have:=i.2;omega) | (have:=i_1.2;omega))),ii 0,ii 0],ii (y.i 0)]) else yC q 217 [S.t (T.rows 1 1 fun i=>List.take 1 (List.drop (↑i*1) [T.rows 1 a.fVals.n fun i=>[ts (a.fVals.get i)]]))] fun y=>matW (y.m 0) (flatW 998 (y.m 0) (yC q 216 [S.mt (y.m 0)] fun y=>bif eqI a.fOp 2 then some (S.tup [S.agg [bb true,bb true,bb false,S.t (T.rows 1 (y.r 0).n (y.r 0).g),ii 0,ii 0],ii 0]) else bif eqI a.fOp 3 then some (S.tup [S.agg [bb false,bb true,bb false,S.t (T.rows 1 (y.r 0).n (y.r 0).g),ii 0,ii 0],ii 0]) else bif eqI a.fOp 4 then some (S.tup [S.agg [bb true,bb false,bb false,S.t (T.rows 1 (y.r 0).n (y.r 0).g),ii 0,ii 0],ii 0]) else bif eqI a.fOp 5 then yC q 217 [S.t (T.v (.slice none 0 0))] fun y=>flatW 996 (y.m 0) (yC q 218 [ii (addI .i64 a.fN 1),ii 2147483648,S.mt (y.m 0)] fun y=>some (S.tup [S.agg [bb (y.b 0),bb (y.b 1),bb (y.b 2),S.t (T.rows 1 (y.r 3).n (y.r 3).g),ii (y.i 4),ii (y.i 5)],ii 0])) else bif eqI a.fOp 6 then yC q 217 [S.t (T.v (.slice none 0 0))] fun y=>flatW 996 (y.m 0) (yC q 218 [ii (Int.negSucc 2147483647),ii (subI .i64 a.fN 1),S.mt (y.m 0)] fun y=>some (S.tup [S.agg [bb (y.b 0),bb (y.b 1),bb (y.b 2),S.t (T.rows 1 (y.r 3).n (y.r 3).g),ii (y.i 4),ii (y.i 5)],ii 0])) else some (S.tup [S.agg [bb false,bb false,bb false,S.t (T.rows 1 (y.r 0).n (y.r 0).g),ii 0,ii 0],ii 0])))
theorem l187_in (q:YF) (a:D68) (kk:PK S):BG q kk 187 Tryz.f187 [ag (e68 a)]=e187_in q a:=by
 kernel_rfl
theorem W187 (a:D68) (n:Nat) (x:S) (h:e187_in (regs O) a=some x):(W O).callT 187 [ag (e68 a)]=some x:=by
 refine WG (fn:=Tryz.f187) (by kernel_rfl) (by kernel_rfl) (n:=n) ?_
 refine (l187_in (regs O) a (H187 (regs O) n)).trans ?_
 exact h
abbrev P188 (q:YF) (kk:PK S):PK S:=PG q 188 Tryz.f188 kk
abbrev H188 (q:YF):Nat→PK S:=HG q 188 Tryz.f188
def s188_0 (a:Rw D47) (b:D47) (v0:Int):St:=mkSt [(0,S.t (T.rows 3 a.n fun i=>e47 (a.get i))),(8,ii v0),(3,S.ptr 0 0),(7,ii (ofN a.n))] 1 [(0,B.box (List.map S.t (e47 b)))]
def K188_0 (a:Rw D47) (b:D47) (kk:PK S):Int→OS:=fun v0=> kk 2 0 0 (s188_0 a b v0)
def b188_0 (q:YF) (a:Rw D47) (b:D47) (k0:Int→OS) (v0:Int):OS:=bif ltI v0 (ofN a.n) then elemO v0 a.n fun h=>bif strEq b.fType (a.get (Fin.mk v0.toNat h)).fType && (strEq b.fZone (a.get (Fin.mk v0.toNat h)).fZone && (strEq b.fKind (a.get (Fin.mk v0.toNat h)).fKind && true)) then some (ii v0) else k0 (addI .i64 v0 1) else some (ii (Int.negSucc 0))
def e188_in (q:YF) (a:Rw D47) (b:D47) (k0:Int→OS):OS:=k0 0
structure X188 where
 x0:Int→OS
def D188_0 (X:X188):Int→OS:=fun v0=>X.x0 v0
def X188s (q:YF) (a:Rw D47) (b:D47) (X:X188):X188:=⟨fun v0=>b188_0 q a b (D188_0 X) v0⟩
def X188n (q:YF) (a:Rw D47) (b:D47):Nat→X188
 | 0=>⟨fun _=>none⟩
 | n+1=>X188s q a b (X188n q a b n)
theorem l188_0 (q:YF) (a:Rw D47) (b:D47) (kk:PK S):K188_0 a b (P188 q kk)=b188_0 q a b (K188_0 a b kk):=by
 kernel_rfl
theorem l188_in (q:YF) (a:Rw D47) (b:D47) (kk:PK S):BG q kk 188 Tryz.f188 [S.t (T.rows 3 a.n fun i=>e47 (a.get i)),ag (e47 b)]=e188_in q a b (K188_0 a b kk):=by
 kernel_rfl
theorem h188 (q:YF) (a:Rw D47) (b:D47):∀ n,K188_0 a b (H188 q n)=D188_0 (X188n q a b n)
 | 0=>rfl
 | n+1=>by
  have h0:=h188 q a b n
  exact (l188_0 q a b (H188 q n)).trans (by rw [h0];kernel_rfl)
theorem W188 (a:Rw D47) (b:D47) (n:Nat) (x:S) (h:e188_in (regs O) a b (D188_0 (X188n (regs O) a b n))=some x):(W O).callT 188 [S.t (T.rows 3 a.n fun i=>e47 (a.get i)),ag (e47 b)]=some x:=by
 refine WG (fn:=Tryz.f188) (by kernel_rfl) (by kernel_rfl) (n:=n) ?_
 refine (l188_in (regs O) a b (H188 (regs O) n)).trans ?_
 have h0:=h188 (regs O) a b n
 rw [h0]
 exact h
abbrev P189 (q:YF) (kk:PK S):PK S:=PG q 189 Tryz.f189 kk
abbrev H189 (q:YF):Nat→PK S:=HG q 189 Tryz.f189
def s189_0 (a:Rw D160) (b:D160) (v0:Int):St:=mkSt [(0,S.t (T.rows 3 a.n fun i=>e160 (a.get i))),(8,ii v0),(3,S.ptr 0 0),(7,ii (ofN a.n))] 1 [(0,B.box (List.map S.t (e160 b)))]
def K189_0 (a:Rw D160) (b:D160) (kk:PK S):Int→OS:=fun v0=> kk 2 0 0 (s189_0 a b v0)
def b189_0 (q:YF) (a:Rw D160) (b:D160) (k0:Int→OS) (v0:Int):OS:=bif ltI v0 (ofN a.n) then elemO v0 a.n fun h=>bif strEq b.fKey (a.get (Fin.mk v0.toNat h)).fKey && (strEq b.fVal (a.get (Fin.mk v0.toNat h)).fVal && (eqB b.fAny (a.get (Fin.mk v0.toNat h)).fAny && true)) then some (ii v0) else k0 (addI .i64 v0 1) else some (ii (Int.negSucc 0))
def e189_in (q:YF) (a:Rw D160) (b:D160) (k0:Int→OS):OS:=k0 0
structure X189 where
 x0:Int→OS
def D189_0 (X:X189):Int→OS:=fun v0=>X.x0 v0
def X189s (q:YF) (a:Rw D160) (b:D160) (X:X189):X189:=⟨fun v0=>b189_0 q a b (D189_0 X) v0⟩
def X189n (q:YF) (a:Rw D160) (b:D160):Nat→X189
 | 0=>⟨fun _=>none⟩
 | n+1=>X189s q a b (X189n q a b n)
theorem l189_0 (q:YF) (a:Rw D160) (b:D160) (kk:PK S):K189_0 a b (P189 q kk)=b189_0 q a b (K189_0 a b kk):=by
 kernel_rfl
theorem l189_in (q:YF) (a:Rw D160) (b:D160) (kk:PK S):BG q kk 189 Tryz.f189 [S.t (T.rows 3 a.n fun i=>e160 (a.get i)),ag (e160 b)]=e189_in q a b (K189_0 a b kk):=by
 kernel_rfl
theorem h189 (q:YF) (a:Rw D160) (b:D160):∀ n,K189_0 a b (H189 q n)=D189_0 (X189n q a b n)
 | 0=>rfl
 | n+1=>by
  have h0:=h189 q a b n
  exact (l189_0 q a b (H189 q n)).trans (by rw [h0];kernel_rfl)
theorem W189 (a:Rw D160) (b:D160) (n:Nat) (x:S) (h:e189_in (regs O) a b (D189_0 (X189n (regs O) a b n))=some x):(W O).callT 189 [S.t (T.rows 3 a.n fun i=>e160 (a.get i)),ag (e160 b)]=some x:=by
 refine WG (fn:=Tryz.f189) (by kernel_rfl) (by kernel_rfl) (n:=n) ?_
 refine (l189_in (regs O) a b (H189 (regs O) n)).trans ?_
 have h0:=h189 (regs O) a b n
 rw [h0]
 exact h
abbrev P190 (q:YF) (kk:PK S):PK S:=PG q 190 Tryz.f190 kk
abbrev H190 (q:YF):Nat→PK S:=HG q 190 Tryz.f190
def s190_0 (a:D68) (v0 u1 u2 u3 u4:Bool) (u5:S) (u6:Bool) (u7 u8:S):St:=mkSt [(0,ag (e68 a)),(16,ii a.fOp),(20,u5),(12,bb u1),(2,ii 0),(18,bb u6),(10,S.ptr 0 0),(22,bb v0),(14,bb u2),(1,S.ptr 0 0),(17,bb (eqI a.fOp 1)),(21,u7),(13,bb u3),(3,bb u4),(19,u8),(11,ss a.fKey),(15,S.ptr 0 1)] 17 [(0,B.box (List.map S.t (e68 a)))]
abbrev T190_0:Type:=Bool→Bool→Bool→Bool→Bool→S→Bool→S→S→OS
def K190_0 (a:D68) (kk:PK S):T190_0:=fun v0 u1 u2 u3 u4 u5 u6 u7 u8=> kk 4 9 8 (s190_0 a v0 u1 u2 u3 u4 u5 u6 u7 u8)
def s190_1 (a:D68) (v0 v1:Bool) (u2:S) (u3 u4 u5 u6:Bool) (u7:S) (u8 u9:Bool) (u10 u11:S) (u12:Bool) (u13 u14:S):St:=mkSt [(0,ag (e68 a)),(16,ii a.fOp),(24,ii a.fOp),(4,bb v0),(20,u2),(12,bb u3),(28,u11),(2,ii 0),(18,bb u4),(10,S.ptr 0 0),(26,bb u12),(22,bb u5),(14,bb u6),(30,bb v1),(1,S.ptr 0 0),(17,bb (eqI a.fOp 1)),(25,bb (eqI a.fOp 5)),(21,u7),(13,bb u8),(29,u13),(3,bb u9),(19,u10),(11,ss a.fKey),(27,u14),(23,S.ptr 0 1),(15,S.ptr 0 1)] 26 [(0,B.box (List.map S.t (e68 a)))]
abbrev T190_1:Type:=Bool→Bool→S→Bool→Bool→Bool→Bool→S→Bool→Bool→S→S→Bool→S→S→OS
def K190_1 (a:D68) (kk:PK S):T190_1:=fun v0 v1 u2 u3 u4 u5 u6 u7 u8 u9 u10 u11 u12 u13 u14=> kk 5 9 17 (s190_1 a v0 v1 u2 u3 u4 u5 u6 u7 u8 u9 u10 u11 u12 u13 u14)
def s190_2 (a:D68) (v0 v1 v2:Bool) (u3:S) (u4:Bool) (u5:S) (u6 u7 u8 u9 u10:Bool) (u11:S) (u12:Bool) (u13:S) (u14:Bool) (u15 u16 u17:S) (u18:Bool) (u19 u20:S):St:=mkSt [(0,ag (e68 a)),(32,ii a.fOp),(16,ii a.fOp),(24,ii a.fOp),(4,bb v0),(36,u17),(20,u3),(12,bb u4),(28,u5),(2,ii 0),(34,bb u18),(18,bb u6),(10,S.ptr 0 0),(26,bb u7),(38,bb v2),(22,bb u8),(14,bb u9),(30,bb u10),(1,S.ptr 0 0),(33,bb (ltI a.fOp 1)),(17,bb (eqI a.fOp 1)),(25,bb (eqI a.fOp 5)),(5,bb v1),(37,u19),(21,u11),(13,bb u12),(29,u13),(3,bb u14),(35,u20),(19,u15),(11,ss a.fKey),(27,u16),(23,S.ptr 0 1),(15,S.ptr 0 1),(31,S.ptr 0 1)] 61 [(0,B.box (List.map S.t (e68 a)))]
abbrev T190_2:Type:=Bool→Bool→Bool→S→Bool→S→Bool→Bool→Bool→Bool→Bool→S→Bool→S→Bool→S→S→S→Bool→S→S→OS
def K190_2 (a:D68) (kk:PK S):T190_2:=fun v0 v1 v2 u3 u4 u5 u6 u7 u8 u9 u10 u11 u12 u13 u14 u15 u16 u17 u18 u19 u20=> kk 6 9 26 (s190_2 a v0 v1 v2 u3 u4 u5 u6 u7 u8 u9 u10 u11 u12 u13 u14 u15 u16 u17 u18 u19 u20)
def s190_3 (a:D68) (v0 v1 u2:Bool) (u3 u4:S) (u5:Bool) (u6:S) (u7 u8 u9 u10 u11 u12 u13:Bool) (u14 u15:S) (u16:Bool) (u17:S) (u18:Bool) (u19 u20 u21 u22 u23 u24 u25 u26 u27:S) (u28:Bool):St:=mkSt [(0,ag (e68 a)),(32,ii a.fOp),(16,ii a.fOp),(40,u22),(24,ii a.fOp),(4,bb u2),(36,u3),(20,u4),(12,bb u5),(44,u23),(28,u6),(2,ii 0),(34,bb u7),(18,bb u8),(10,S.ptr 0 0),(42,u24),(26,bb u9),(38,bb u10),(22,bb u11),(14,bb u12),(46,bb v0),(30,bb u13),(1,S.ptr 0 0),(33,bb (ltI a.fOp 1)),(17,bb (eqI a.fOp 1)),(41,u25),(25,bb (eqI a.fOp 5)),(5,bb v1),(37,u14),(21,u15),(13,bb u16),(45,u26),(29,u17),(3,bb u18),(35,u19),(19,u20),(11,ss a.fKey),(43,u27),(27,u21),(39,bb u28),(23,S.ptr 0 1),(15,S.ptr 0 1),(31,S.ptr 0 1)] 61 [(0,B.box (List.map S.t (e68 a)))]
abbrev T190_3:Type:=Bool→Bool→Bool→S→S→Bool→S→Bool→Bool→Bool→Bool→Bool→Bool→Bool→S→S→Bool→S→Bool→S→S→S→S→S→S→S→S→S→Bool→OS
def K190_3 (a:D68) (kk:PK S):T190_3:=fun v0 v1 u2 u3 u4 u5 u6 u7 u8 u9 u10 u11 u12 u13 u14 u15 u16 u17 u18 u19 u20 u21 u22 u23 u24 u25 u26 u27 u28=> kk 6 17 26 (s190_3 a v0 v1 u2 u3 u4 u5 u6 u7 u8 u9 u10 u11 u12 u13 u14 u15 u16 u17 u18 u19 u20 u21 u22 u23 u24 u25 u26 u27 u28)
def s190_4 (a:D68) (v0:Bool) (u1:S) (u2:Bool) (u3 u4:S) (u5:Bool) (u6 u7:S) (u8 u9:Bool) (u10:S) (u11 u12 u13 u14 u15 u16:Bool) (u17:S) (u18:Bool) (u19 u20:S) (u21:Bool) (u22 u23:S) (u24:Bool) (u25 u26 u27 u28:S) (u29:Bool) (u30 u31 u32 u33 u34 u35 u36:S) (u37:Bool):St:=mkSt [(0,ag (e68 a)),(32,ii a.fOp),(16,ii a.fOp),(48,u33),(40,u1),(24,ii a.fOp),(4,bb u2),(36,u3),(20,u4),(52,u30),(12,bb u5),(44,u6),(28,u7),(2,ii 0),(34,bb u8),(18,bb u9),(50,u34),(10,S.ptr 0 0),(42,u10),(26,bb u11),(38,bb u12),(22,bb u13),(54,u35),(14,bb u14),(46,bb u15),(30,bb u16),(1,S.ptr 0 0),(33,bb (ltI a.fOp 1)),(17,bb (eqI a.fOp 1)),(49,u36),(41,u17),(25,bb (eqI a.fOp 5)),(5,bb u18),(37,u19),(21,u20),(53,u31),(13,bb u21),(45,u22),(29,u23),(3,bb u24),(35,u25),(19,u26),(51,u32),(11,ss a.fKey),(43,u27),(27,u28),(39,bb u29),(23,S.ptr 0 1),(55,bb v0),(15,S.ptr 0 1),(47,bb u37),(31,S.ptr 0 1)] 61 [(0,B.box (List.map S.t (e68 a)))]
abbrev T190_4:Type:=Bool→S→Bool→S→S→Bool→S→S→Bool→Bool→S→Bool→Bool→Bool→Bool→Bool→Bool→S→Bool→S→S→Bool→S→S→Bool→S→S→S→S→Bool→S→S→S→S→S→S→S→Bool→OS
def K190_4 (a:D68) (kk:PK S):T190_4:=fun v0 u1 u2 u3 u4 u5 u6 u7 u8 u9 u10 u11 u12 u13 u14 u15 u16 u17 u18 u19 u20 u21 u22 u23 u24 u25 u26 u27 u28 u29 u30 u31 u32 u33 u34 u35 u36 u37=> kk 6 26 26 (s190_4 a v0 u1 u2 u3 u4 u5 u6 u7 u8 u9 u10 u11 u12 u13 u14 u15 u16 u17 u18 u19 u20 u21 u22 u23 u24 u25 u26 u27 u28 u29 u30 u31 u32 u33 u34 u35 u36 u37)
def s190_5 (a:D68) (v0:Bool) (u1 u2:S) (u3:Bool) (u4 u5 u6:S) (u7:Bool) (u8 u9:S) (u10 u11:Bool) (u12 u13:S) (u14 u15 u16:Bool) (u17:S) (u18 u19 u20:Bool) (u21 u22:S) (u23:Bool) (u24 u25 u26:S) (u27:Bool) (u28 u29:S) (u30:Bool) (u31 u32 u33 u34 u35:S) (u36 u37 u38 u39:Bool) (u40 u41 u42:S):St:=mkSt [(0,ag (e68 a)),(32,ii a.fOp),(16,ii a.fOp),(48,u1),(40,u2),(24,ii a.fOp),(56,bb u39),(4,bb u3),(36,u4),(20,u5),(52,u6),(12,bb u7),(44,u8),(28,u9),(60,bb v0),(2,ii 0),(34,bb u10),(18,bb u11),(50,u12),(10,S.ptr 0 0),(42,u13),(26,bb u14),(58,u40),(38,bb u15),(22,bb u16),(54,u17),(14,bb u18),(46,bb u19),(30,bb u20),(1,S.ptr 0 0),(33,bb (ltI a.fOp 1)),(17,bb (eqI a.fOp 1)),(49,u21),(41,u22),(25,bb (eqI a.fOp 5)),(57,u41),(5,bb u23),(37,u24),(21,u25),(53,u26),(13,bb u27),(45,u28),(29,u29),(3,bb u30),(35,u31),(19,u32),(51,u33),(11,ss a.fKey),(43,u34),(27,u35),(59,u42),(39,bb u36),(23,S.ptr 0 1),(55,bb u37),(15,S.ptr 0 1),(47,bb u38),(31,S.ptr 0 1)] 61 [(0,B.box (List.map S.t (e68 a)))]
abbrev T190_5:Type:=Bool→S→S→Bool→S→S→S→Bool→S→S→Bool→Bool→S→S→Bool→Bool→Bool→S→Bool→Bool→Bool→S→S→Bool→S→S→S→Bool→S→S→Bool→S→S→S→S→S→Bool→Bool→Bool→Bool→S→S→S→OS
def K190_5 (a:D68) (kk:PK S):T190_5:=fun v0 u1 u2 u3 u4 u5 u6 u7 u8 u9 u10 u11 u12 u13 u14 u15 u16 u17 u18 u19 u20 u21 u22 u23 u24 u25 u26 u27 u28 u29 u30 u31 u32 u33 u34 u35 u36 u37 u38 u39 u40 u41 u42=> kk 6 31 26 (s190_5 a v0 u1 u2 u3 u4 u5 u6 u7 u8 u9 u10 u11 u12 u13 u14 u15 u16 u17 u18 u19 u20 u21 u22 u23 u24 u25 u26 u27 u28 u29 u30 u31 u32 u33 u34 u35 u36 u37 u38 u39 u40 u41 u42)
def s190_6 (a:D68) (v0:Int):St:=mkSt [(6,ii v0),(1,S.ptr 0 0)] 1 [(0,B.box (List.map S.t (e68 a)))]
def K190_6 (a:D68) (kk:PK S):Int→OS:=fun v0=> kk 11 0 0 (s190_6 a v0)
def s190_7 (a:D68) (v0:Int):St:=mkSt [(8,ii v0),(1,S.ptr 0 0)] 1 [(0,B.box (List.map S.t (e68 a)))]
def K190_7 (a:D68) (kk:PK S):Int→OS:=fun v0=> kk 17 0 0 (s190_7 a v0)
def b190_0 (q:YF) (a:D68) (k1:T190_1) (v0 u1 u2 u3 u4:Bool) (u5:S) (u6:Bool) (u7 u8:S):OS:=bif eqI a.fOp 5 then k1 v0 true u5 u1 u6 v0 u2 u7 u3 u4 u8 S.ud true S.ud S.ud else k1 v0 (eqI a.fOp 6) u5 u1 u6 v0 u2 u7 u3 u4 u8 (ii a.fOp) false (bb (eqI a.fOp 6)) (S.ptr 0 1)
def b190_1 (q:YF) (a:D68) (k2:T190_2) (v0 v1:Bool) (u2:S) (u3 u4 u5 u6:Bool) (u7:S) (u8 u9:Bool) (u10 u11:S) (u12:Bool) (u13 u14:S):OS:=bif ltI a.fOp 1 then k2 v0 v1 true u2 u3 u11 u4 u12 u5 u6 v1 u7 u8 u13 u9 u10 u14 S.ud true S.ud S.ud else k2 v0 v1 (gtI a.fOp 6) u2 u3 u11 u4 u12 u5 u6 v1 u7 u8 u13 u9 u10 u14 (ii a.fOp) false (bb (gtI a.fOp 6)) (S.ptr 0 1)
def b190_2 (q:YF) (a:D68) (k3:T190_3) (v0 v1 v2:Bool) (u3:S) (u4:Bool) (u5:S) (u6 u7 u8 u9 u10:Bool) (u11:S) (u12:Bool) (u13:S) (u14:Bool) (u15 u16 u17:S) (u18:Bool) (u19 u20:S):OS:=bif v2 then k3 true v1 v0 u17 u3 u4 u5 u18 u6 u7 v2 u8 u9 u10 u19 u11 u12 u13 u14 u20 u15 u16 S.ud S.ud S.ud S.ud S.ud S.ud true else k3 (!eqB v0 (gtI (ofN a.fVals.n) 0)) v1 v0 u17 u3 u4 u5 u18 u6 u7 v2 u8 u9 u10 u19 u11 u12 u13 u14 u20 u15 u16 (bb v0) (bb (gtI (ofN a.fVals.n) 0)) (S.t (T.rows 1 a.fVals.n fun i=>[ts (a.fVals.get i)])) (S.ptr 0 2) (S.t (T.v (.bool !eqB v0 (gtI (ofN a.fVals.n) 0)))) (ii (ofN a.fVals.n)) false
def b190_3 (q:YF) (a:D68) (k4:T190_4) (v0 v1 u2:Bool) (u3 u4:S) (u5:Bool) (u6:S) (u7 u8 u9 u10 u11 u12 u13:Bool) (u14 u15:S) (u16:Bool) (u17:S) (u18:Bool) (u19 u20 u21 u22 u23 u24 u25 u26 u27:S) (u28:Bool):OS:=bif v0 then k4 true u22 u2 u3 u4 u5 u23 u6 u7 u8 u24 u9 u10 u11 u12 v0 u13 u25 v1 u14 u15 u16 u26 u17 u18 u19 u20 u27 u21 u28 S.ud S.ud S.ud S.ud S.ud S.ud S.ud true else bif !v1 then k4 (!eqI a.fN 0) u22 u2 u3 u4 u5 u23 u6 u7 u8 u24 u9 u10 u11 u12 v0 u13 u25 v1 u14 u15 u16 u26 u17 u18 u19 u20 u27 u21 u28 (ii a.fN) (S.t (T.v (.bool !eqI a.fN 0))) (S.ptr 0 3) (bb v1) (bb true) (S.t (T.v (.bool !eqI a.fN 0))) (bb !v1) false else k4 false u22 u2 u3 u4 u5 u23 u6 u7 u8 u24 u9 u10 u11 u12 v0 u13 u25 v1 u14 u15 u16 u26 u17 u18 u19 u20 u27 u21 u28 S.ud S.ud S.ud (bb v1) (bb false) (bb false) (bb !v1) false
def b190_4 (q:YF) (a:D68) (k5:T190_5) (v0:Bool) (u1:S) (u2:Bool) (u3 u4:S) (u5:Bool) (u6 u7:S) (u8 u9:Bool) (u10:S) (u11 u12 u13 u14 u15 u16:Bool) (u17:S) (u18:Bool) (u19 u20:S) (u21:Bool) (u22 u23:S) (u24:Bool) (u25 u26 u27 u28:S) (u29:Bool) (u30 u31 u32 u33 u34 u35 u36:S) (u37:Bool):OS:=bif v0 then k5 true u33 u1 u2 u3 u4 u30 u5 u6 u7 u8 u9 u34 u10 u11 u12 u13 u35 u14 u15 u16 u36 u17 u18 u19 u20 u31 u21 u22 u23 u24 u25 u26 u32 u27 u28 u29 v0 u37 true S.ud S.ud S.ud else k5 (ltI a.fN (Int.negSucc 2147483647)) u33 u1 u2 u3 u4 u30 u5 u6 u7 u8 u9 u34 u10 u11 u12 u13 u35 u14 u15 u16 u36 u17 u18 u19 u20 u31 u21 u22 u23 u24 u25 u26 u32 u27 u28 u29 v0 u37 false (ii a.fN) (S.ptr 0 3) (bb (ltI a.fN (Int.negSucc 2147483647)))
def b190_5 (q:YF) (a:D68) (k6:Int→OS) (v0:Bool) (u1 u2:S) (u3:Bool) (u4 u5 u6:S) (u7:Bool) (u8 u9:S) (u10 u11:Bool) (u12 u13:S) (u14 u15 u16:Bool) (u17:S) (u18 u19 u20:Bool) (u21 u22:S) (u23:Bool) (u24 u25 u26:S) (u27:Bool) (u28 u29:S) (u30:Bool) (u31 u32 u33 u34 u35:S) (u36 u37 u38 u39:Bool) (u40 u41 u42:S):OS:=bif v0 then some (ii 30) else bif gtI a.fN 2147483648 then some (ii 30) else bif gtI (ofN a.fVals.n) 8 then some (ii 3) else k6 0
def b190_6 (q:YF) (a:D68) (k6:Int→OS) (k7:Int→OS) (v0:Int):OS:=bif ltI v0 (ofN a.fVals.n) then elemO v0 a.fVals.n fun h=>yC q 129 [ss (a.fVals.get (Fin.mk v0.toNat h))] fun y=>bif !y.b 0 then some (ii 20) else k6 (addI .i64 v0 1) else k7 0
def b190_7 (q:YF) (a:D68) (k7:Int→OS) (v0:Int):OS:=bif ltI v0 (ofN a.fVals.n) then bif leI 0 v0 && leI v0 (ofN a.fVals.n) then subO 0 (toN v0) a.fVals.n fun h=>elemO v0 a.fVals.n fun h_1=>yC q 219 [S.t (T.rows 1 (toN v0) fun i=>[ts (a.fVals.get (Fin.mk (0+↑i) (by first | omega | (have:=i.2;omega) | (have:=i_1.2;omega))))]),ss (a.fVals.get (Fin.mk v0.toNat h_1))] fun y=>bif y.b 0 then some (ii 6) else k7 (addI .i64 v0 1) else none else some (ii 0)
def e190_in (q:YF) (a:D68) (k0:T190_0):OS:=yC q 71 [ss a.fKey] fun y=>bif !y.b 0 then some (ii 7) else bif eqI a.fOp 1 then k0 true (y.b 0) (!y.b 0) (y.b 0) (y.b 0) S.ud true S.ud S.ud else k0 (eqI a.fOp 2) (y.b 0) (!y.b 0) (y.b 0) (y.b 0) (ii a.fOp) false (bb (eqI a.fOp 2)) (S.ptr 0 1)
structure X190 where
 x0:Bool→OS
 x1:Bool→Bool→OS
 x2:Bool→Bool→Bool→OS
 x3:Bool→Bool→OS
 x4:Bool→OS
 x5:Bool→OS
 x6:Int→OS
 x7:Int→OS
def D190_0 (X:X190):T190_0:=fun v0 _ _ _ _ _ _ _ _=>X.x0 v0
def D190_1 (X:X190):T190_1:=fun v0 v1 _ _ _ _ _ _ _ _ _ _ _ _ _=>X.x1 v0 v1
def D190_2 (X:X190):T190_2:=fun v0 v1 v2 _ _ _ _ _ _ _ _ _ _ _ _ _ _ _ _ _ _=>X.x2 v0 v1 v2
def D190_3 (X:X190):T190_3:=fun v0 v1 _ _ _ _ _ _ _ _ _ _ _ _ _ _ _ _ _ _ _ _ _ _ _ _ _ _ _=>X.x3 v0 v1
def D190_4 (X:X190):T190_4:=fun v0 _ _ _ _ _ _ _ _ _ _ _ _ _ _ _ _ _ _ _ _ _ _ _ _ _ _ _ _ _ _ _ _ _ _ _ _ _=>X.x4 v0
def D190_5 (X:X190):T190_5:=fun v0 _ _ _ _ _ _ _ _ _ _ _ _ _ _ _ _ _ _ _ _ _ _ _ _ _ _ _ _ _ _ _ _ _ _ _ _ _ _ _ _ _ _=>X.x5 v0
def D190_6 (X:X190):Int→OS:=fun v0=>X.x6 v0
def D190_7 (X:X190):Int→OS:=fun v0=>X.x7 v0
def X190s (q:YF) (a:D68) (X:X190):X190:=⟨fun v0=>b190_0 q a (D190_1 X) v0 dd dd dd dd dd dd dd dd,
 fun v0 v1=>b190_1 q a (D190_2 X) v0 v1 dd dd dd dd dd dd dd dd dd dd dd dd dd,
 fun v0 v1 v2=>b190_2 q a (D190_3 X) v0 v1 v2 dd dd dd dd dd dd dd dd dd dd dd dd dd dd dd dd dd dd,
 fun v0 v1=>b190_3 q a (D190_4 X) v0 v1 dd dd dd dd dd dd dd dd dd dd dd dd dd dd dd dd dd dd dd dd dd dd dd dd dd dd dd,
 fun v0=>b190_4 q a (D190_5 X) v0 dd dd dd dd dd dd dd dd dd dd dd dd dd dd dd dd dd dd dd dd dd dd dd dd dd dd dd dd dd dd dd dd dd dd dd dd dd,
 fun v0=>b190_5 q a (D190_6 X) v0 dd dd dd dd dd dd dd dd dd dd dd dd dd dd dd dd dd dd dd dd dd dd dd dd dd dd dd dd dd dd dd dd dd dd dd dd dd dd dd dd dd dd,
 fun v0=>b190_6 q a (D190_6 X) (D190_7 X) v0,
 fun v0=>b190_7 q a (D190_7 X) v0⟩
def X190n (q:YF) (a:D68):Nat→X190
 | 0=>⟨fun _=>none,fun _ _=>none,fun _ _ _=>none,fun _ _=>none,fun _=>none,fun _=>none,fun _=>none,fun _=>none⟩
 | n+1=>X190s q a (X190n q a n)
theorem l190_0 (q:YF) (a:D68) (kk:PK S):K190_0 a (P190 q kk)=b190_0 q a (K190_1 a kk):=by
 kernel_rfl
theorem l190_1 (q:YF) (a:D68) (kk:PK S):K190_1 a (P190 q kk)=b190_1 q a (K190_2 a kk):=by
 kernel_rfl
theorem l190_2 (q:YF) (a:D68) (kk:PK S):K190_2 a (P190 q kk)=b190_2 q a (K190_3 a kk):=by
 kernel_rfl
theorem l190_3 (q:YF) (a:D68) (kk:PK S):K190_3 a (P190 q kk)=b190_3 q a (K190_4 a kk):=by
 kernel_rfl
theorem l190_4 (q:YF) (a:D68) (kk:PK S):K190_4 a (P190 q kk)=b190_4 q a (K190_5 a kk):=by
 kernel_rfl
theorem l190_5 (q:YF) (a:D68) (kk:PK S):K190_5 a (P190 q kk)=b190_5 q a (K190_6 a kk):=by
 kernel_rfl
theorem l190_6 (q:YF) (a:D68) (kk:PK S):K190_6 a (P190 q kk)=b190_6 q a (K190_6 a kk) (K190_7 a kk):=by
 kernel_rfl
theorem l190_7 (q:YF) (a:D68) (kk:PK S):K190_7 a (P190 q kk)=b190_7 q a (K190_7 a kk):=by
 kernel_rfl
theorem l190_in (q:YF) (a:D68) (kk:PK S):BG q kk 190 Tryz.f190 [ag (e68 a)]=e190_in q a (K190_0 a kk):=by
 kernel_rfl
theorem h190 (q:YF) (a:D68):∀ n,K190_0 a (H190 q n)=D190_0 (X190n q a n)∧K190_1 a (H190 q n)=D190_1 (X190n q a n)∧K190_2 a (H190 q n)=D190_2 (X190n q a n)∧K190_3 a (H190 q n)=D190_3 (X190n q a n)∧K190_4 a (H190 q n)=D190_4 (X190n q a n)∧K190_5 a (H190 q n)=D190_5 (X190n q a n)∧K190_6 a (H190 q n)=D190_6 (X190n q a n)∧K190_7 a (H190 q n)=D190_7 (X190n q a n)
 | 0=>⟨rfl,rfl,rfl,rfl,rfl,rfl,rfl,rfl⟩
 | n+1=>by
  obtain ⟨h0,h1,h2,h3,h4,h5,h6,h7⟩:=h190 q a n
  exact ⟨(l190_0 q a (H190 q n)).trans (by rw [h1];kernel_rfl),(l190_1 q a (H190 q n)).trans (by rw [h2];kernel_rfl),(l190_2 q a (H190 q n)).trans (by rw [h3];kernel_rfl),(l190_3 q a (H190 q n)).trans (by rw [h4];kernel_rfl),(l190_4 q a (H190 q n)).trans (by rw [h5];kernel_rfl),(l190_5 q a (H190 q n)).trans (by rw [h6];kernel_rfl),(l190_6 q a (H190 q n)).trans (by rw [h6,h7];kernel_rfl),(l190_7 q a (H190 q n)).trans (by rw [h7];kernel_rfl)⟩
theorem W190 (a:D68) (n:Nat) (x:S) (h:e190_in (regs O) a (D190_0 (X190n (regs O) a n))=some x):(W O).callT 190 [ag (e68 a)]=some x:=by
 refine WG (fn:=Tryz.f190) (by kernel_rfl) (by kernel_rfl) (n:=n) ?_
 refine (l190_in (regs O) a (H190 (regs O) n)).trans ?_
 obtain ⟨h0,h1,h2,h3,h4,h5,h6,h7⟩:=h190 (regs O) a n
 rw [h0]
 exact h
abbrev P191 (q:YF) (kk:PK S):PK S:=PG q 191 Tryz.f191 kk
abbrev H191 (q:YF):Nat→PK S:=HG q 191 Tryz.f191
def s191_0 (a:Rw BA):St:=mkSt [(0,S.t (T.rows 1 a.n fun i=>[ts (a.get i)])),(4,ii 0),(3,S.t (T.v (.slice none 0 0)))] 0 []
def K191_0 (a:Rw BA) (kk:PK S):OS:=kk 3 0 0 (s191_0 a)
def s191_1 (a:Rw BA) (v0:Rw0) (v1:Int):St:=mkSt [(0,S.t (T.rows 1 a.n fun i=>[ts (a.get i)])),(4,ii v1),(3,S.t (T.rows 1 v0.n v0.g))] 0 []
def K191_1 (a:Rw BA) (kk:PK S):Rw0→Int→OS:=fun v0 v1=> kk 3 0 0 (s191_1 a v0 v1)
def b191_0 (q:YF) (a:Rw BA) (k1:Rw0→Int→OS):OS:=bif ltI 0 (ofN a.n) then elemO 0 a.n fun h=>yC q 220 [S.t (T.v (.slice none 0 0)),ss (a.get (Fin.mk (Int.ofNat 0).toNat h))] fun y=>k1 (y.r 0) 1 else some (S.t (T.rows 1 0 fun i=>False.rec (fun x=>List T) (by first | omega | (have:=i.2;omega) | (have:=i_1.2;omega))))
def b191_1 (q:YF) (a:Rw BA) (k1:Rw0→Int→OS) (v0:Rw0) (v1:Int):OS:=bif ltI v1 (ofN a.n) then elemO v1 a.n fun h=>yC q 220 [S.t (T.rows 1 v0.n v0.g),ss (a.get (Fin.mk v1.toNat h))] fun y=>k1 (y.r 0) (addI .i64 v1 1) else some (S.t (T.rows 1 v0.n v0.g))
def e191_in (q:YF) (a:Rw BA) (k0:OS):OS:=k0
structure X191 where
 x0:OS
 x1:Rw0→Int→OS
def D191_0 (X:X191):OS:=X.x0
def D191_1 (X:X191):Rw0→Int→OS:=fun v0 v1=>X.x1 v0 v1
def X191s (q:YF) (a:Rw BA) (X:X191):X191:=⟨b191_0 q a (D191_1 X),
 fun v0 v1=>b191_1 q a (D191_1 X) v0 v1⟩
def X191n (q:YF) (a:Rw BA):Nat→X191
 | 0=>⟨none,fun _ _=>none⟩
 | n+1=>X191s q a (X191n q a n)
theorem l191_0 (q:YF) (a:Rw BA) (kk:PK S):K191_0 a (P191 q kk)=b191_0 q a (K191_1 a kk):=by
 kernel_rfl
theorem l191_1 (q:YF) (a:Rw BA) (kk:PK S):K191_1 a (P191 q kk)=b191_1 q a (K191_1 a kk):=by
 kernel_rfl
theorem l191_in (q:YF) (a:Rw BA) (kk:PK S):BG q kk 191 Tryz.f191 [S.t (T.rows 1 a.n fun i=>e9 (a.get i))]=e191_in q a (K191_0 a kk):=by
 kernel_rfl
theorem h191 (q:YF) (a:Rw BA):∀ n,K191_0 a (H191 q n)=D191_0 (X191n q a n)∧K191_1 a (H191 q n)=D191_1 (X191n q a n)
 | 0=>⟨rfl,rfl⟩
 | n+1=>by
  obtain ⟨h0,h1⟩:=h191 q a n
  exact ⟨(l191_0 q a (H191 q n)).trans (by rw [h1];kernel_rfl),(l191_1 q a (H191 q n)).trans (by rw [h1];kernel_rfl)⟩
theorem W191 (a:Rw BA) (n:Nat) (x:S) (h:e191_in (regs O) a (D191_0 (X191n (regs O) a n))=some x):(W O).callT 191 [S.t (T.rows 1 a.n fun i=>e9 (a.get i))]=some x:=by
 refine WG (fn:=Tryz.f191) (by kernel_rfl) (by kernel_rfl) (n:=n) ?_
 refine (l191_in (regs O) a (H191 (regs O) n)).trans ?_
 obtain ⟨h0,h1⟩:=h191 (regs O) a n
 rw [h0]
 exact h
abbrev P192b (q:YF) (kk:PK S):PK S:=PG q 192 Tryz.f192 kk
abbrev H192b (q:YF):Nat→PK S:=HG q 192 Tryz.f192
def s192b_0 (a:Int) (b:Int) (v0:Int):St:=mkSt [(0,ii v0),(2,S.t (T.v (.slice none 0 0))),(6,S.ptr 0 0),(1,ii b)] 1 [(0,B.box [bb false,bb false,bb false,S.t (T.v (.slice none 0 0)),ii 0,ii 0])]
def K192b_0 (a:Int) (b:Int) (kk:PK S):Int→OS:=fun v0=> kk 1 0 0 (s192b_0 a b v0)
def s192b_1 (a:Int) (b:Int) (v0 v1:Int):St:=mkSt [(0,ii v0),(2,S.t (T.v (.slice none 0 0))),(6,S.ptr 0 0),(1,ii v1)] 1 [(0,B.box [bb false,bb false,bb false,S.t (T.v (.slice none 0 0)),ii 0,ii 0])]
def K192b_1 (a:Int) (b:Int) (kk:PK S):Int→Int→OS:=fun v0 v1=> kk 6 0 0 (s192b_1 a b v0 v1)
def s192b_2 (a:Int) (b:Int) (v0 v1:Int):St:=mkSt [(0,ii v0),(12,S.t (T.v (.slice none 0 0))),(2,S.t (T.v (.slice none 0 0))),(6,S.ptr 0 0),(1,ii v1),(13,ii 0)] 1 [(0,B.box [bb false,bb false,bb false,S.t (T.v (.slice none 0 0)),ii 0,ii 0])]
def K192b_2 (a:Int) (b:Int) (kk:PK S):Int→Int→OS:=fun v0 v1=> kk 13 0 0 (s192b_2 a b v0 v1)
def s192b_3 (a:Int) (b:Int) (v0 v1:Int):St:=mkSt [(16,S.t (T.v (.slice none 0 0))),(12,S.t (T.v (.slice none 0 0))),(6,S.ptr 0 0),(1,ii v0),(17,ii v1)] 1 [(0,B.box [bb false,bb false,bb false,S.t (T.v (.slice none 0 0)),ii 0,ii 0])]
def K192b_3 (a:Int) (b:Int) (kk:PK S):Int→Int→OS:=fun v0 v1=> kk 21 0 0 (s192b_3 a b v0 v1)
def s192b_4 (a:Int) (b:Int) (v0:Rw0) (v1 v2:Int):St:=mkSt [(16,S.t (T.rows 1 v0.n v0.g)),(12,S.t (T.v (.slice none 0 0))),(6,S.ptr 0 0),(1,ii v1),(17,ii v2)] 1 [(0,B.box [bb false,bb false,bb false,S.t (T.v (.slice none 0 0)),ii 0,ii 0])]
abbrev T192b_4:Type:=Rw0→Int→Int→OS
def K192b_4 (a:Int) (b:Int) (kk:PK S):T192b_4:=fun v0 v1 v2=> kk 21 0 0 (s192b_4 a b v0 v1 v2)
def b192b_0 (q:YF) (a:Int) (b:Int) (k0:Int→OS) (k1:Int→Int→OS) (v0:Int):OS:=bif leI v0 b then yC q 193 [ii v0] fun y=>yC q 219 [S.t (T.v (.slice none 0 0)),ss (y.s 0)] fun y=>bif !y.b 0 then k1 v0 b else k0 (addI .i64 v0 1) else k1 v0 b
def b192b_1 (q:YF) (a:Int) (b:Int) (k1:Int→Int→OS) (k2:Int→Int→OS) (v0 v1:Int):OS:=bif leI v0 v1 then yC q 193 [ii v1] fun y=>yC q 219 [S.t (T.v (.slice none 0 0)),ss (y.s 0)] fun y=>bif !y.b 0 then k2 v0 v1 else k1 v0 (subI .i64 v1 1) else k2 v0 v1
def b192b_2 (q:YF) (a:Int) (b:Int) (k3:Int→Int→OS) (v0 v1:Int):OS:=bif leI (subI .i64 (addI .i64 (subI .i64 v1 v0) 1) (ofN 0)) 64 then k3 v1 v0 else some (S.tup [S.agg [bb false,bb true,bb true,S.t (T.rows 1 0 fun i=>False.rec (fun x=>List T) (by first | omega | (have:=i.2;omega) | (have:=i_1.2;omega))),ii v0,ii v1],bb true])
def b192b_3 (q:YF) (a:Int) (b:Int) (k3:Int→Int→OS) (k4:T192b_4) (v0 v1:Int):OS:=bif leI v1 v0 then yC q 193 [ii v1] fun y=>yC q 219 [S.t (T.v (.slice none 0 0)),ss (y.s 0)] fun y_1=>bif !y_1.b 0 then yC q 220 [S.t (T.v (.slice none 0 0)),ss (y.s 0)] fun y=>k4 (y.r 0) v0 (addI .i64 v1 1) else k3 v0 (addI .i64 v1 1) else some (S.tup [S.agg [bb false,bb false,bb false,S.t (T.rows 1 0 fun i=>False.rec (fun x=>List T) (by first | omega | (have:=i.2;omega) | (have:=i_1.2;omega))),ii 0,ii 0],bb true])
def b192b_4 (q:YF) (a:Int) (b:Int) (k4:T192b_4) (v0:Rw0) (v1 v2:Int):OS:=bif leI v2 v1 then yC q 193 [ii v2] fun y=>yC q 219 [S.t (T.v (.slice none 0 0)),ss (y.s 0)] fun y_1=>bif !y_1.b 0 then yC q 220 [S.t (T.rows 1 v0.n v0.g),ss (y.s 0)] fun y=>k4 (y.r 0) v1 (addI .i64 v2 1) else k4 v0 v1 (addI .i64 v2 1) else some (S.tup [S.agg [bb false,bb false,bb false,S.t (T.rows 1 v0.n v0.g),ii 0,ii 0],bb true])
def e192b_in (q:YF) (a:Int) (b:Int) (k0:Int→OS):OS:=k0 a
structure X192b where
 x0:Int→OS
 x1:Int→Int→OS
 x2:Int→Int→OS
 x3:Int→Int→OS
 x4:Rw0→Int→Int→OS
def D192b_0 (X:X192b):Int→OS:=fun v0=>X.x0 v0
def D192b_1 (X:X192b):Int→Int→OS:=fun v0 v1=>X.x1 v0 v1
def D192b_2 (X:X192b):Int→Int→OS:=fun v0 v1=>X.x2 v0 v1
def D192b_3 (X:X192b):Int→Int→OS:=fun v0 v1=>X.x3 v0 v1
def D192b_4 (X:X192b):T192b_4:=fun v0 v1 v2=>X.x4 v0 v1 v2
def X192bs (q:YF) (a:Int) (b:Int) (X:X192b):X192b:=⟨fun v0=>b192b_0 q a b (D192b_0 X) (D192b_1 X) v0,
 fun v0 v1=>b192b_1 q a b (D192b_1 X) (D192b_2 X) v0 v1,
 fun v0 v1=>b192b_2 q a b (D192b_3 X) v0 v1,
 fun v0 v1=>b192b_3 q a b (D192b_3 X) (D192b_4 X) v0 v1,
 fun v0 v1 v2=>b192b_4 q a b (D192b_4 X) v0 v1 v2⟩
def X192bn (q:YF) (a:Int) (b:Int):Nat→X192b
 | 0=>⟨fun _=>none,fun _ _=>none,fun _ _=>none,fun _ _=>none,fun _ _ _=>none⟩
 | n+1=>X192bs q a b (X192bn q a b n)
theorem l192b_0 (q:YF) (a:Int) (b:Int) (kk:PK S):K192b_0 a b (P192b q kk)=b192b_0 q a b (K192b_0 a b kk) (K192b_1 a b kk):=by
 kernel_rfl
theorem l192b_1 (q:YF) (a:Int) (b:Int) (kk:PK S):K192b_1 a b (P192b q kk)=b192b_1 q a b (K192b_1 a b kk) (K192b_2 a b kk):=by
 kernel_rfl
theorem l192b_2 (q:YF) (a:Int) (b:Int) (kk:PK S):K192b_2 a b (P192b q kk)=b192b_2 q a b (K192b_3 a b kk):=by
 kernel_rfl
theorem l192b_3 (q:YF) (a:Int) (b:Int) (kk:PK S):K192b_3 a b (P192b q kk)=b192b_3 q a b (K192b_3 a b kk) (K192b_4 a b kk):=by
 kernel_rfl
theorem l192b_4 (q:YF) (a:Int) (b:Int) (kk:PK S):K192b_4 a b (P192b q kk)=b192b_4 q a b (K192b_4 a b kk):=by
 kernel_rfl
theorem l192b_in (q:YF) (a:Int) (b:Int) (kk:PK S):BG q kk 192 Tryz.f192 [ii a,ii b,S.t (T.v (.slice none 0 0))]=e192b_in q a b (K192b_0 a b kk):=by
 kernel_rfl
theorem h192b (q:YF) (a:Int) (b:Int):∀ n,K192b_0 a b (H192b q n)=D192b_0 (X192bn q a b n)∧K192b_1 a b (H192b q n)=D192b_1 (X192bn q a b n)∧K192b_2 a b (H192b q n)=D192b_2 (X192bn q a b n)∧K192b_3 a b (H192b q n)=D192b_3 (X192bn q a b n)∧K192b_4 a b (H192b q n)=D192b_4 (X192bn q a b n)
 | 0=>⟨rfl,rfl,rfl,rfl,rfl⟩
 | n+1=>by
  obtain ⟨h0,h1,h2,h3,h4⟩:=h192b q a b n
  exact ⟨(l192b_0 q a b (H192b q n)).trans (by rw [h0,h1];kernel_rfl),(l192b_1 q a b (H192b q n)).trans (by rw [h1,h2];kernel_rfl),(l192b_2 q a b (H192b q n)).trans (by rw [h3];kernel_rfl),(l192b_3 q a b (H192b q n)).trans (by rw [h3,h4];kernel_rfl),(l192b_4 q a b (H192b q n)).trans (by rw [h4];kernel_rfl)⟩
theorem W192b (a:Int) (b:Int) (n:Nat) (x:S) (h:e192b_in (regs O) a b (D192b_0 (X192bn (regs O) a b n))=some x):(W O).callT 192 [ii a,ii b,S.t (T.v (.slice none 0 0))]=some x:=by
 refine WG (fn:=Tryz.f192) (by kernel_rfl) (by kernel_rfl) (n:=n) ?_
 refine (l192b_in (regs O) a b (H192b (regs O) n)).trans ?_
 obtain ⟨h0,h1,h2,h3,h4⟩:=h192b (regs O) a b n
 rw [h0]
 exact h
abbrev P193 (q:YF) (kk:PK S):PK S:=PG q 193 Tryz.f193 kk
abbrev H193 (q:YF):Nat→PK S:=HG q 193 Tryz.f193
def s193_0 (a:Int) (v0:Int) (v1:BA):St:=mkSt [(0,ii a),(4,ii v0),(3,ss v1)] 0 []
abbrev T193_0:Type:=Int→BA→OS
def K193_0 (a:Int) (kk:PK S):T193_0:=fun v0 v1=> kk 3 0 0 (s193_0 a v0 v1)
def b193_0 (q:YF) (a:Int) (k0:T193_0) (v0:Int) (v1:BA):OS:=bif ltI (remI v0 10) 0 then bif fitS (bytesS [wrapI .u8 (addI .i64 48 (subI .i64 0 (remI v0 10)))]) v1 then bif eqI (quoI .i64 v0 10) 0 then bif ltI a 0 then bif fitS (bs [45]) (catS (bytesS [wrapI .u8 (addI .i64 48 (subI .i64 0 (remI v0 10)))]) v1) then some (ss (catS (bs [45]) (catS (bytesS [wrapI .u8 (addI .i64 48 (subI .i64 0 (remI v0 10)))]) v1))) else none else some (ss (catS (bytesS [wrapI .u8 (addI .i64 48 (subI .i64 0 (remI v0 10)))]) v1)) else k0 (quoI .i64 v0 10) (catS (bytesS [wrapI .u8 (addI .i64 48 (subI .i64 0 (remI v0 10)))]) v1) else none else bif fitS (bytesS [wrapI .u8 (addI .i64 48 (remI v0 10))]) v1 then bif eqI (quoI .i64 v0 10) 0 then bif ltI a 0 then bif fitS (bs [45]) (catS (bytesS [wrapI .u8 (addI .i64 48 (remI v0 10))]) v1) then some (ss (catS (bs [45]) (catS (bytesS [wrapI .u8 (addI .i64 48 (remI v0 10))]) v1))) else none else some (ss (catS (bytesS [wrapI .u8 (addI .i64 48 (remI v0 10))]) v1)) else k0 (quoI .i64 v0 10) (catS (bytesS [wrapI .u8 (addI .i64 48 (remI v0 10))]) v1) else none
def e193_in (q:YF) (a:Int) (k0:T193_0):OS:=k0 a (bs [])
structure X193 where
 x0:Int→BA→OS
def D193_0 (X:X193):T193_0:=fun v0 v1=>X.x0 v0 v1
def X193s (q:YF) (a:Int) (X:X193):X193:=⟨fun v0 v1=>b193_0 q a (D193_0 X) v0 v1⟩
def X193n (q:YF) (a:Int):Nat→X193
 | 0=>⟨fun _ _=>none⟩
 | n+1=>X193s q a (X193n q a n)
theorem l193_0 (q:YF) (a:Int) (kk:PK S):K193_0 a (P193 q kk)=b193_0 q a (K193_0 a kk):=by
 kernel_rfl
theorem l193_in (q:YF) (a:Int) (kk:PK S):BG q kk 193 Tryz.f193 [ii a]=e193_in q a (K193_0 a kk):=by
 kernel_rfl
theorem h193 (q:YF) (a:Int):∀ n,K193_0 a (H193 q n)=D193_0 (X193n q a n)
 | 0=>rfl
 | n+1=>by
  have h0:=h193 q a n
  exact (l193_0 q a (H193 q n)).trans (by rw [h0];kernel_rfl)
theorem W193 (a:Int) (n:Nat) (x:S) (h:e193_in (regs O) a (D193_0 (X193n (regs O) a n))=some x):(W O).callT 193 [ii a]=some x:=by
 refine WG (fn:=Tryz.f193) (by kernel_rfl) (by kernel_rfl) (n:=n) ?_
 refine (l193_in (regs O) a (H193 (regs O) n)).trans ?_
 have h0:=h193 (regs O) a n
 rw [h0]
 exact h
abbrev P215 (q:YF) (kk:PK S):PK S:=PG q 215 Tryz.f215 kk
abbrev H215 (q:YF):Nat→PK S:=HG q 215 Tryz.f215
def s215_0 (a:D68) (v0 u1:Bool) (u2 u3 u4:S):St:=mkSt [(0,ag (e68 a)),(8,bb u1),(12,bb v0),(2,ii 0),(10,u2),(6,ii a.fOp),(1,S.ptr 0 0),(9,u3),(5,S.ptr 0 1),(11,u4),(7,bb (eqI a.fOp 1))] 11 [(0,B.box (List.map S.t (e68 a)))]
abbrev T215_0:Type:=Bool→Bool→S→S→S→OS
def K215_0 (a:D68) (kk:PK S):T215_0:=fun v0 u1 u2 u3 u4=> kk 1 9 2 (s215_0 a v0 u1 u2 u3 u4)
def s215_1 (a:D68) (v0 v1 u2 u3:Bool) (u4 u5 u6:S) (u7:Bool) (u8 u9 u10:S):St:=mkSt [(0,ag (e68 a)),(16,bb u7),(8,bb u2),(20,bb v1),(12,bb u3),(2,ii 0),(18,u8),(10,u4),(6,ii a.fOp),(14,ii a.fOp),(1,S.ptr 0 0),(17,u9),(9,u5),(5,S.ptr 0 1),(13,S.ptr 0 1),(3,bb v0),(19,u10),(11,u6),(7,bb (eqI a.fOp 1)),(15,bb (eqI a.fOp 5))] 20 [(0,B.box (List.map S.t (e68 a)))]
abbrev T215_1:Type:=Bool→Bool→Bool→Bool→S→S→S→Bool→S→S→S→OS
def K215_1 (a:D68) (kk:PK S):T215_1:=fun v0 v1 u2 u3 u4 u5 u6 u7 u8 u9 u10=> kk 2 9 11 (s215_1 a v0 v1 u2 u3 u4 u5 u6 u7 u8 u9 u10)
def s215_2 (a:D68) (v0 v1 v2 u3 u4 u5 u6 u7:Bool) (u8 u9 u10 u11:S) (u12 u13:Bool) (u14 u15 u16:S) (u17:Bool) (u18 u19:S):St:=mkSt [(0,ag (e68 a)),(32,u16),(16,bb u3),(8,bb u4),(24,bb u5),(4,bb v0),(20,bb u6),(12,bb u7),(28,ii a.fOp),(2,ii 0),(34,bb v2),(18,u8),(10,u9),(6,ii a.fOp),(22,S.ptr 0 0),(14,ii a.fOp),(30,bb u17),(1,S.ptr 0 0),(33,u18),(17,u10),(9,u11),(25,bb u12),(5,S.ptr 0 1),(21,bb u13),(13,S.ptr 0 1),(29,bb (ltI a.fOp 1)),(3,bb v1),(19,u14),(11,u15),(27,S.ptr 0 1),(7,bb (eqI a.fOp 1)),(23,ss a.fKey),(15,bb (eqI a.fOp 5)),(31,u19)] 34 [(0,B.box (List.map S.t (e68 a)))]
abbrev T215_2:Type:=Bool→Bool→Bool→Bool→Bool→Bool→Bool→Bool→S→S→S→S→Bool→Bool→S→S→S→Bool→S→S→OS
def K215_2 (a:D68) (kk:PK S):T215_2:=fun v0 v1 v2 u3 u4 u5 u6 u7 u8 u9 u10 u11 u12 u13 u14 u15 u16 u17 u18 u19=> kk 5 9 25 (s215_2 a v0 v1 v2 u3 u4 u5 u6 u7 u8 u9 u10 u11 u12 u13 u14 u15 u16 u17 u18 u19)
def s215_3 (a:D68) (v0:Bool) (u1:S) (u2 u3 u4 u5 u6 u7 u8 u9:Bool) (u10 u11:S) (u12 u13 u14:Bool) (u15 u16 u17:S) (u18 u19 u20 u21 u22:Bool) (u23 u24 u25 u26 u27 u28:S) (u29:Bool):St:=mkSt [(0,ag (e68 a)),(32,u1),(16,bb u2),(8,bb u3),(40,bb u4),(24,bb u5),(4,bb u6),(36,S.ptr 0 2),(20,bb u7),(12,bb u8),(44,u26),(28,ii a.fOp),(2,ii 0),(34,bb u9),(18,u10),(10,u11),(42,bb u12),(26,bb u13),(6,ii a.fOp),(38,ii (ofN a.fVals.n)),(22,S.ptr 0 0),(14,ii a.fOp),(46,u27),(30,bb u14),(1,S.ptr 0 0),(33,u15),(17,u16),(9,u17),(41,bb u18),(25,bb u19),(5,S.ptr 0 1),(37,S.t (T.rows 1 a.fVals.n fun i=>[ts (a.fVals.get i)])),(21,bb u20),(13,S.ptr 0 1),(45,u28),(29,bb (ltI a.fOp 1)),(3,bb u21),(35,bb u22),(19,u23),(11,u24),(43,bb u29),(27,S.ptr 0 1),(7,bb (eqI a.fOp 1)),(39,bb (gtI (ofN a.fVals.n) 0)),(23,ss a.fKey),(15,bb (eqI a.fOp 5)),(47,bb v0),(31,u25)] 49 [(0,B.box (List.map S.t (e68 a)))]
abbrev T215_3:Type:=Bool→S→Bool→Bool→Bool→Bool→Bool→Bool→Bool→Bool→S→S→Bool→Bool→Bool→S→S→S→Bool→Bool→Bool→Bool→Bool→S→S→S→S→S→S→Bool→OS
def K215_3 (a:D68) (kk:PK S):T215_3:=fun v0 u1 u2 u3 u4 u5 u6 u7 u8 u9 u10 u11 u12 u13 u14 u15 u16 u17 u18 u19 u20 u21 u22 u23 u24 u25 u26 u27 u28 u29=> kk 7 8 41 (s215_3 a v0 u1 u2 u3 u4 u5 u6 u7 u8 u9 u10 u11 u12 u13 u14 u15 u16 u17 u18 u19 u20 u21 u22 u23 u24 u25 u26 u27 u28 u29)
def b215_0 (q:YF) (a:D68) (k1:T215_1) (v0 u1:Bool) (u2 u3 u4:S):OS:=bif eqI a.fOp 5 then k1 v0 true u1 v0 u2 u3 u4 true S.ud S.ud S.ud else k1 v0 (eqI a.fOp 6) u1 v0 u2 u3 u4 false (ii a.fOp) (S.ptr 0 1) (bb (eqI a.fOp 6))
def b215_1 (q:YF) (a:D68) (k2:T215_2) (v0 v1 u2 u3:Bool) (u4 u5 u6:S) (u7:Bool) (u8 u9 u10:S):OS:=yC q 101 [ss a.fKey] fun y=>bif !y.b 0 then some (ii 7) else bif ltI a.fOp 1 then k2 v1 v0 true u7 u2 (y.b 0) v1 u3 u8 u4 u9 u5 (!y.b 0) (!y.b 0) u10 u6 S.ud true S.ud S.ud else k2 v1 v0 (gtI a.fOp 6) u7 u2 (y.b 0) v1 u3 u8 u4 u9 u5 (!y.b 0) (!y.b 0) u10 u6 (ii a.fOp) false (bb (gtI a.fOp 6)) (S.ptr 0 1)
def b215_2 (q:YF) (a:D68) (k3:T215_3) (v0 v1 v2 u3 u4 u5 u6 u7:Bool) (u8 u9 u10 u11:S) (u12 u13:Bool) (u14 u15 u16:S) (u17:Bool) (u18 u19:S):OS:=bif v2 then bif v2 then some (ii 30) else bif gtI (ofN a.fVals.n) 8 then some (ii 3) else yC q 151 [S.t (T.rows 1 a.fVals.n fun i=>[ts (a.fVals.get i)]),S.t (T.v (.func (Go.Fn.func 229) #[] #[]))] fun y=>bif y.b 0 then some (ii 20) else yC q 217 [S.t (T.rows 1 1 fun i=>List.take 1 (List.drop (↑i*1) [T.rows 1 a.fVals.n fun i=>[ts (a.fVals.get i)]]))] fun y=>matW (y.m 0) (bif ltI (ofN (lenE (y.m 0))) (ofN a.fVals.n) then some (ii 6) else some (ii 0)) else bif !eqB v1 (gtI (ofN a.fVals.n) 0) then bif !eqB v1 (gtI (ofN a.fVals.n) 0) then some (ii 30) else bif gtI (ofN a.fVals.n) 8 then some (ii 3) else yC q 151 [S.t (T.rows 1 a.fVals.n fun i=>[ts (a.fVals.get i)]),S.t (T.v (.func (Go.Fn.func 229) #[] #[]))] fun y=>bif y.b 0 then some (ii 20) else yC q 217 [S.t (T.rows 1 1 fun i=>List.take 1 (List.drop (↑i*1) [T.rows 1 a.fVals.n fun i=>[ts (a.fVals.get i)]]))] fun y=>matW (y.m 0) (bif ltI (ofN (lenE (y.m 0))) (ofN a.fVals.n) then some (ii 6) else some (ii 0)) else bif !v0 then k3 (!eqI a.fN 0) u16 u3 u4 (!eqB v1 (gtI (ofN a.fVals.n) 0)) u5 v0 u6 u7 v2 u8 u9 (!v0) (!eqB v1 (gtI (ofN a.fVals.n) 0)) u17 u18 u10 u11 v0 u12 u13 v1 v1 u14 u15 u19 (S.ptr 0 3) (S.t (T.v (.bool !eqI a.fN 0))) (ii a.fN) true else k3 false u16 u3 u4 (!eqB v1 (gtI (ofN a.fVals.n) 0)) u5 v0 u6 u7 v2 u8 u9 (!v0) (!eqB v1 (gtI (ofN a.fVals.n) 0)) u17 u18 u10 u11 v0 u12 u13 v1 v1 u14 u15 u19 S.ud S.ud S.ud false
def b215_3 (q:YF) (a:D68) (v0:Bool) (u1:S) (u2 u3 u4 u5 u6 u7 u8 u9:Bool) (u10 u11:S) (u12 u13 u14:Bool) (u15 u16 u17:S) (u18 u19 u20 u21 u22:Bool) (u23 u24 u25 u26 u27 u28:S) (u29:Bool):OS:=bif v0 then bif v0 then some (ii 30) else bif gtI (ofN a.fVals.n) 8 then some (ii 3) else yC q 151 [S.t (T.rows 1 a.fVals.n fun i=>[ts (a.fVals.get i)]),S.t (T.v (.func (Go.Fn.func 229) #[] #[]))] fun y=>bif y.b 0 then some (ii 20) else yC q 217 [S.t (T.rows 1 1 fun i=>List.take 1 (List.drop (↑i*1) [T.rows 1 a.fVals.n fun i=>[ts (a.fVals.get i)]]))] fun y=>matW (y.m 0) (bif ltI (ofN (lenE (y.m 0))) (ofN a.fVals.n) then some (ii 6) else some (ii 0)) else bif ltI a.fN (Int.negSucc 2147483647) then bif ltI a.fN (Int.negSucc 2147483647) then some (ii 30) else bif gtI (ofN a.fVals.n) 8 then some (ii 3) else yC q 151 [S.t (T.rows 1 a.fVals.n fun i=>[ts (a.fVals.get i)]),S.t (T.v (.func (Go.Fn.func 229) #[] #[]))] fun y=>bif y.b 0 then some (ii 20) else yC q 217 [S.t (T.rows 1 1 fun i=>List.take 1 (List.drop (↑i*1) [T.rows 1 a.fVals.n fun i=>[ts (a.fVals.get i)]]))] fun y=>matW (y.m 0) (bif ltI (ofN (lenE (y.m 0))) (ofN a.fVals.n) then some (ii 6) else some (ii 0)) else bif gtI a.fN 2147483648 then some (ii 30) else bif gtI (ofN a.fVals.n) 8 then some (ii 3) else yC q 151 [S.t (T.rows 1 a.fVals.n fun i=>[ts (a.fVals.get i)]),S.t (T.v (.func (Go.Fn.func 229) #[] #[]))] fun y=>bif y.b 0 then some (ii 20) else yC q 217 [S.t (T.rows 1 1 fun i=>List.take 1 (List.drop (↑i*1) [T.rows 1 a.fVals.n fun i=>[ts (a.fVals.get i)]]))] fun y=>matW (y.m 0) (bif ltI (ofN (lenE (y.m 0))) (ofN a.fVals.n) then some (ii 6) else some (ii 0))
def e215_in (q:YF) (a:D68) (k0:T215_0):OS:=bif eqI a.fOp 1 then k0 true true S.ud S.ud S.ud else k0 (eqI a.fOp 2) false (ii a.fOp) (S.ptr 0 1) (bb (eqI a.fOp 2))
structure X215 where
 x0:Bool→OS
 x1:Bool→Bool→OS
 x2:Bool→Bool→Bool→OS
 x3:Bool→OS
def D215_0 (X:X215):T215_0:=fun v0 _ _ _ _=>X.x0 v0
def D215_1 (X:X215):T215_1:=fun v0 v1 _ _ _ _ _ _ _ _ _=>X.x1 v0 v1
def D215_2 (X:X215):T215_2:=fun v0 v1 v2 _ _ _ _ _ _ _ _ _ _ _ _ _ _ _ _ _=>X.x2 v0 v1 v2
def D215_3 (X:X215):T215_3:=fun v0 _ _ _ _ _ _ _ _ _ _ _ _ _ _ _ _ _ _ _ _ _ _ _ _ _ _ _ _ _=>X.x3 v0
def X215s (q:YF) (a:D68) (X:X215):X215:=⟨fun v0=>b215_0 q a (D215_1 X) v0 dd dd dd dd,
 fun v0 v1=>b215_1 q a (D215_2 X) v0 v1 dd dd dd dd dd dd dd dd dd,
 fun v0 v1 v2=>b215_2 q a (D215_3 X) v0 v1 v2 dd dd dd dd dd dd dd dd dd dd dd dd dd dd dd dd dd,
 fun v0=>b215_3 q a v0 dd dd dd dd dd dd dd dd dd dd dd dd dd dd dd dd dd dd dd dd dd dd dd dd dd dd dd dd dd⟩
def X215n (q:YF) (a:D68):Nat→X215
 | 0=>⟨fun _=>none,fun _ _=>none,fun _ _ _=>none,fun _=>none⟩
 | n+1=>X215s q a (X215n q a n)
theorem l215_0 (q:YF) (a:D68) (kk:PK S):K215_0 a (P215 q kk)=b215_0 q a (K215_1 a kk):=by
 kernel_rfl
theorem l215_1 (q:YF) (a:D68) (kk:PK S):K215_1 a (P215 q kk)=b215_1 q a (K215_2 a kk):=by
 kernel_rfl
theorem l215_2 (q:YF) (a:D68) (kk:PK S):K215_2 a (P215 q kk)=b215_2 q a (K215_3 a kk):=by
 kernel_rfl
theorem l215_3 (q:YF) (a:D68) (kk:PK S):K215_3 a (P215 q kk)=b215_3 q a:=by
 kernel_rfl
theorem l215_in (q:YF) (a:D68) (kk:PK S):BG q kk 215 Tryz.f215 [ag (e68 a)]=e215_in q a (K215_0 a kk):=by
 kernel_rfl
theorem h215 (q:YF) (a:D68):∀ n,K215_0 a (H215 q n)=D215_0 (X215n q a n)∧K215_1 a (H215 q n)=D215_1 (X215n q a n)∧K215_2 a (H215 q n)=D215_2 (X215n q a n)∧K215_3 a (H215 q n)=D215_3 (X215n q a n)
 | 0=>⟨rfl,rfl,rfl,rfl⟩
 | n+1=>by
  obtain ⟨h0,h1,h2,h3⟩:=h215 q a n
  exact ⟨(l215_0 q a (H215 q n)).trans (by rw [h1];kernel_rfl),(l215_1 q a (H215 q n)).trans (by rw [h2];kernel_rfl),(l215_2 q a (H215 q n)).trans (by rw [h3];kernel_rfl),(l215_3 q a (H215 q n)).trans (by kernel_rfl)⟩
theorem W215 (a:D68) (n:Nat) (x:S) (h:e215_in (regs O) a (D215_0 (X215n (regs O) a n))=some x):(W O).callT 215 [ag (e68 a)]=some x:=by
 refine WG (fn:=Tryz.f215) (by kernel_rfl) (by kernel_rfl) (n:=n) ?_
 refine (l215_in (regs O) a (H215 (regs O) n)).trans ?_
 obtain ⟨h0,h1,h2,h3⟩:=h215 (regs O) a n
 rw [h0]
 exact h
abbrev P217 (q:YF) (kk:PK S):PK S:=PG q 217 Tryz.f217 kk
abbrev H217 (q:YF):Nat→PK S:=HG q 217 Tryz.f217
def s217_0 (a:Rw (Rw BA)) (v0:Int) (v1:List (S × S)):St:=mkSt [(10,ii (ofN a.n)),(9,S.t (T.rows 1 a.n fun i=>[T.rows 1 (a.get i).n fun i_1=>[ts ((a.get i).get i_1)]])),(3,S.mp 0),(11,ii v0)] 1 [(0,B.mp false v1)]
def K217_0 (a:Rw (Rw BA)) (kk:PK S):Int→(List (S × S))→OS:=fun v0 v1=> kk 3 0 0 (s217_0 a v0 v1)
def s217_1 (a:Rw (Rw BA)) (v0:Int) (v1:Rw BA) (v2:Int) (v3:List (S × S)) (v4:Int):St:=mkSt [(16,ii v0),(10,ii (ofN a.n)),(17,ii v2),(9,S.t (T.rows 1 a.n fun i=>[T.rows 1 (a.get i).n fun i_1=>[ts ((a.get i).get i_1)]])),(3,S.mp 0),(11,ii v4),(15,S.t (T.rows 1 v1.n fun i=>[ts (v1.get i)]))] 1 [(0,B.mp false v3)]
def K217_1 (a:Rw (Rw BA)) (kk:PK S):Int→(Rw BA)→Int→(List (S × S))→Int→OS:=fun v0 v1 v2 v3 v4=> kk 6 0 0 (s217_1 a v0 v1 v2 v3 v4)
def b217_0 (q:YF) (a:Rw (Rw BA)) (k1:Int→(Rw BA)→Int→(List (S × S))→Int→OS) (v0:Int) (v1:List (S × S)):OS:=bif ltI v0 (ofN a.n) then elemO v0 a.n fun h=>flatW 900 v1 (k1 (ofN (a.get (Fin.mk v0.toNat h)).n) (a.get (Fin.mk v0.toNat h)) 0 v1 v0) else flatW 900 v1 (flatW 999 v1 (some (S.mt v1)))
def b217_1 (q:YF) (a:Rw (Rw BA)) (k0:Int→(List (S × S))→OS) (k1:Int→(Rw BA)→Int→(List (S × S))→Int→OS) (v0:Int) (v1:Rw BA) (v2:Int) (v3:List (S × S)) (v4:Int):OS:=bif ltI v2 v0 then elemO v2 v1.n fun h=>updW O.P O.K 9 v3 (ss (v1.get (Fin.mk v2.toNat h))) (bb true) fun m=>flatW 900 m (k1 v0 v1 (addI .i64 v2 1) m v4) else flatW 900 v3 (flatW 900 v3 (k0 (addI .i64 v4 1) v3))
def e217_in (q:YF) (a:Rw (Rw BA)) (k0:Int→(List (S × S))→OS):OS:=flatW 900 [] (k0 0 [])
structure X217 where
 x0:Int→(List (S × S))→OS
 x1:Int→(Rw BA)→Int→(List (S × S))→Int→OS
def D217_0 (X:X217):Int→(List (S × S))→OS:=fun v0 v1=>X.x0 v0 v1
def D217_1 (X:X217):Int→(Rw BA)→Int→(List (S × S))→Int→OS:=fun v0 v1 v2 v3 v4=>X.x1 v0 v1 v2 v3 v4
def X217s (q:YF) (a:Rw (Rw BA)) (X:X217):X217:=⟨fun v0 v1=>b217_0 q a (D217_1 X) v0 v1,
 fun v0 v1 v2 v3 v4=>b217_1 q a (D217_0 X) (D217_1 X) v0 v1 v2 v3 v4⟩
def X217n (q:YF) (a:Rw (Rw BA)):Nat→X217
 | 0=>⟨fun _ _=>none,fun _ _ _ _ _=>none⟩
 | n+1=>X217s q a (X217n q a n)
theorem l217_0 (q:YF) (a:Rw (Rw BA)) (kk:PK S):K217_0 a (P217 q kk)=b217_0 q a (K217_1 a kk):=by
 kernel_rfl
theorem l217_1 (q:YF) (a:Rw (Rw BA)) (kk:PK S):K217_1 a (P217 q kk)=b217_1 q a (K217_0 a kk) (K217_1 a kk):=by
 kernel_rfl
theorem l217_in (q:YF) (a:Rw (Rw BA)) (kk:PK S):BG q kk 217 Tryz.f217 [S.t (T.rows 1 a.n fun i=>e31 (a.get i))]=e217_in q a (K217_0 a kk):=by
 kernel_rfl
theorem h217 (q:YF) (a:Rw (Rw BA)):∀ n,K217_0 a (H217 q n)=D217_0 (X217n q a n)∧K217_1 a (H217 q n)=D217_1 (X217n q a n)
 | 0=>⟨rfl,rfl⟩
 | n+1=>by
  obtain ⟨h0,h1⟩:=h217 q a n
  exact ⟨(l217_0 q a (H217 q n)).trans (by rw [h1];kernel_rfl),(l217_1 q a (H217 q n)).trans (by rw [h0,h1];kernel_rfl)⟩
theorem W217 (a:Rw (Rw BA)) (n:Nat) (x:S) (h:e217_in (regs O) a (D217_0 (X217n (regs O) a n))=some x):(W O).callT 217 [S.t (T.rows 1 a.n fun i=>e31 (a.get i))]=some x:=by
 refine WG (fn:=Tryz.f217) (by kernel_rfl) (by kernel_rfl) (n:=n) ?_
 refine (l217_in (regs O) a (H217 (regs O) n)).trans ?_
 obtain ⟨h0,h1⟩:=h217 (regs O) a n
 rw [h0]
 exact h
end
end Go.Proofs.YtonkoellfaopiaaGreatDoor.H
