import Derived.Test.YtonkoellfaopiaaGreatDoorD9
set_option linter.unusedSimpArgs false
set_option linter.unusedVariables false
set_option linter.unusedSectionVars false
namespace Go.Proofs.YtonkoellfaopiaaGreatDoor.H
open Go
noncomputable section
abbrev aiQ (q:YF) (kk:PK S):PK S:=PG q 103 Tryz.f103 kk
abbrev ac2 (q:YF):Nat→PK S:=HG q 103 Tryz.f103
abbrev T103_0:Type:=Bool→Bool→Int→S→S→S→Bool→S→S→OS
def GB (a:cr) (b:cr) (kk:PK S):T103_0:=fun v0 u1 u2 u3 u4 u5 u6 u7 u8=> kk 1 12 3 (aJ [(0,ag (ew a)),(8,bb u1),(4,bb false),(12,u3),(2,S.ptr 0 0),(10,u4),(6,ag (ew b)),(14,u5),(1,ag (ew b)),(9,bb u6),(5,ag (ew a)),(13,u7),(3,S.ptr 1 0),(11,u8),(7,ii u2),(15,bb v0)] 15 [(0,B.box (List.map S.t (ew a))),(1,B.box (List.map S.t (ew b)))])
def E5 (q:YF) (a:cr) (b:cr):T103_0:=fun v0 u1 u2 u3 u4 u5 u6 u7 u8=>some (bb v0)
def yw (q:YF) (a:cr) (b:cr) (k0:T103_0):OS:=yC q 143 [ag (ew a),ag (ew b)] fun y=>bif aR (y.i 0) 0 then yC q 144 [ag (ew a),ag (ew b)] fun y_1=>k0 (aR (y_1.i 0) a.fW && (aR (y_1.i 1) a.gK && true)) (aR (y.i 0) 0) (y.i 0) (S.agg [ii (y_1.i 0),ii (y_1.i 1)]) (ag (ew a)) (bb (aR (y_1.i 0) a.fW && (aR (y_1.i 1) a.gK && true))) true (ag (ew a)) (ag (ew b)) else k0 false (aR (y.i 0) 0) (y.i 0) S.ud S.ud S.ud false S.ud S.ud
structure VS where
 x0:Bool→OS
def F4 (X:VS):T103_0:=fun v0 _ _ _ _ _ _ _ _=>X.x0 v0
def XN (q:YF) (a:cr) (b:cr) (X:VS):VS:=⟨fun v0=>E5 q a b v0 dd dd dd dd dd dd dd dd⟩
def Ke (q:YF) (a:cr) (b:cr):Nat→VS
 | 0=>⟨fun _=>none⟩
 | n+1=>XN q a b (Ke q a b n)
theorem acQ (q:YF) (a:cr) (b:cr) (kk:PK S):GB a b (aiQ q kk)=E5 q a b:=by
 kernel_rfl
theorem V_ (q:YF) (a:cr) (b:cr) (kk:PK S):BG q kk 103 Tryz.f103 [ag (ew a),ag (ew b)]=yw q a b (GB a b kk):=by
 kernel_rfl
theorem agz (q:YF) (a:cr) (b:cr):∀ n,GB a b (ac2 q n)=F4 (Ke q a b n)
 | 0=>rfl
 | n+1=>by
  have h0:=agz q a b n
  exact (acQ q a b (ac2 q n)).trans (by kernel_rfl)
theorem aiT (a:cr) (b:cr) (n:Nat) (x:S) (h:yw (aa O) a b (F4 (Ke (aa O) a b n))=some x):(W O).aE 103 [ag (ew a),ag (ew b)]=some x:=by
 refine WG (fn:=Tryz.f103) (by kernel_rfl) (by kernel_rfl) (n:=n) ?_
 refine (V_ (aa O) a b (ac2 (aa O) n)).trans ?_
 have h0:=agz (aa O) a b n
 rw [h0]
 exact h
abbrev aio (q:YF) (kk:PK S):PK S:=PG q 104 Tryz.f104 kk
abbrev aas (q:YF):Nat→PK S:=HG q 104 Tryz.f104
def Au (a:Rw ch) (kk:PK S):Int→OS:=fun v0=> kk 4 0 0 (aJ [(0,S.t (T.rows 2 a.n fun i=>dv (a.get i))),(8,S.t (T.rows 2 a.n fun i=>dv (a.get i))),(10,ii v0),(9,ii (ay a.n))] 0 [])
def z8 (q:YF) (a:Rw ch) (k0:Int→OS) (v0:Int):OS:=bif bm v0 (ay a.n) then aU v0 a.n fun h=>yC q 101 [ss (a.get (Fin.mk v0.toNat h)).aZ] fun y=>bif !y.b 0 then some (ii 7) else yC q 145 [S.t (T.rows 1 5 fun i=>List.take 1 (List.drop (↑i*1) [ts (bs [122,111,110,101]),ts (bs [116,121,112,101]),ts (bs [107,105,110,100]),ts (bs [112,111,111,108]),ts (bs [104,111,115,116])])),ss (a.get (Fin.mk v0.toNat h)).aZ] fun y=>bif y.b 0 then some (ii 1) else yC q 146 [ss (a.get (Fin.mk v0.toNat h)).cP] fun y=>bif !y.b 0 then some (ii 20) else bif bp 0 v0 && bp v0 (ay a.n) then iE 0 (cK v0) a.n fun h_1=>yC q 147 [S.t (T.rows 2 (cK v0) fun i=>dv (a.get (Fin.mk (0+↑i) (by first | omega | (have:=i.2;omega) | (have:=i_1.2;omega))))),S.fn (Go.Fn.func 148) [] [S.pt (dv (a.get (Fin.mk v0.toNat h)))]] fun y=>bif y.b 0 then some (ii 6) else k0 (a7 .i64 v0 1) else none else some (ii 0)
def ya (q:YF) (a:Rw ch) (k0:Int→OS):OS:=bif bl (ay a.n) 4 then some (ii 3) else k0 0
structure V2 where
 x0:Int→OS
def sQ (X:V2):Int→OS:=fun v0=>X.x0 v0
def PI (q:YF) (a:Rw ch) (X:V2):V2:=⟨fun v0=>z8 q a (sQ X) v0⟩
def mj (q:YF) (a:Rw ch):Nat→V2
 | 0=>⟨fun _=>none⟩
 | n+1=>PI q a (mj q a n)
theorem aaE (q:YF) (a:Rw ch) (kk:PK S):Au a (aio q kk)=z8 q a (Au a kk):=by
 kernel_rfl
theorem WO (q:YF) (a:Rw ch) (kk:PK S):BG q kk 104 Tryz.f104 [S.t (T.rows 2 a.n fun i=>dv (a.get i))]=ya q a (Au a kk):=by
 kernel_rfl
theorem adf (q:YF) (a:Rw ch):∀ n,Au a (aas q n)=sQ (mj q a n)
 | 0=>rfl
 | n+1=>by
  have h0:=adf q a n
  exact (aaE q a (aas q n)).trans (by rw [h0];kernel_rfl)
theorem aky (a:Rw ch) (n:Nat) (x:S) (h:ya (aa O) a (sQ (mj (aa O) a n))=some x):(W O).aE 104 [S.t (T.rows 2 a.n fun i=>dv (a.get i))]=some x:=by
 refine WG (fn:=Tryz.f104) (by kernel_rfl) (by kernel_rfl) (n:=n) ?_
 refine (WO (aa O) a (aas (aa O) n)).trans ?_
 have h0:=adf (aa O) a n
 rw [h0]
 exact h
abbrev ah1 (q:YF) (kk:PK S):PK S:=PG q 105 Tryz.f105 kk
abbrev aa4 (q:YF):Nat→PK S:=HG q 105 Tryz.f105
def Bf (a:Rw bK) (kk:PK S):Int→OS:=fun v0=> kk 4 0 0 (aJ [(0,S.t (T.rows 4 a.n fun i=>cL (a.get i))),(10,ii (ay a.n)),(9,S.t (T.rows 4 a.n fun i=>cL (a.get i))),(11,ii v0)] 0 [])
def zo (q:YF) (a:Rw bK) (k0:Int→OS) (v0:Int):OS:=bif bm v0 (ay a.n) then aU v0 a.n fun h=>yC q 101 [ss (a.get (Fin.mk v0.toNat h)).bj] fun y=>bif !y.b 0 then some (ii 7) else yC q 101 [ss (a.get (Fin.mk v0.toNat h)).bn] fun y=>bif !y.b 0 then some (ii 7) else yC q 113 [ii (a.get (Fin.mk v0.toNat h)).bG] fun y=>bif !aR (y.i 0) 0 then some (ii (y.i 0)) else bif bp 0 v0 && bp v0 (ay a.n) then iE 0 (cK v0) a.n fun h_1=>yC q 149 [S.t (T.rows 4 (cK v0) fun i=>cL (a.get (Fin.mk (0+↑i) (by first | omega | (have:=i.2;omega) | (have:=i_1.2;omega))))),S.fn (Go.Fn.func 150) [] [S.pt (cL (a.get (Fin.mk v0.toNat h)))]] fun y=>bif y.b 0 then some (ii 6) else k0 (a7 .i64 v0 1) else none else some (ii 0)
def AR (q:YF) (a:Rw bK) (k0:Int→OS):OS:=bif bl (ay a.n) 6 then some (ii 3) else k0 0
structure VT where
 x0:Int→OS
def tW (X:VT):Int→OS:=fun v0=>X.x0 v0
def Sy (q:YF) (a:Rw bK) (X:VT):VT:=⟨fun v0=>zo q a (tW X) v0⟩
def nd (q:YF) (a:Rw bK):Nat→VT
 | 0=>⟨fun _=>none⟩
 | n+1=>Sy q a (nd q a n)
theorem abX (q:YF) (a:Rw bK) (kk:PK S):Bf a (ah1 q kk)=zo q a (Bf a kk):=by
 kernel_rfl
theorem Wh (q:YF) (a:Rw bK) (kk:PK S):BG q kk 105 Tryz.f105 [S.t (T.rows 4 a.n fun i=>cL (a.get i))]=AR q a (Bf a kk):=by
 kernel_rfl
theorem adr (q:YF) (a:Rw bK):∀ n,Bf a (aa4 q n)=tW (nd q a n)
 | 0=>rfl
 | n+1=>by
  have h0:=adr q a n
  exact (abX q a (aa4 q n)).trans (by rw [h0];kernel_rfl)
theorem ajB (a:Rw bK) (n:Nat) (x:S) (h:AR (aa O) a (tW (nd (aa O) a n))=some x):(W O).aE 105 [S.t (T.rows 4 a.n fun i=>cL (a.get i))]=some x:=by
 refine WG (fn:=Tryz.f105) (by kernel_rfl) (by kernel_rfl) (n:=n) ?_
 refine (Wh (aa O) a (aa4 (aa O) n)).trans ?_
 have h0:=adr (aa O) a n
 rw [h0]
 exact h
abbrev ah2 (q:YF) (kk:PK S):PK S:=PG q 106 Tryz.f106 kk
abbrev aak (q:YF):Nat→PK S:=HG q 106 Tryz.f106
def zG (a:Rw aV) (b:aV) (kk:PK S):Int→OS:=fun v0=> kk 2 0 0 (aJ [(0,S.t (T.rows 7 a.n fun i=>bk (a.get i))),(8,ii v0),(1,S.fn (Go.Fn.func 60) [] [S.pt (bk b)]),(7,ii (ay a.n))] 0 [])
def Bw (q:YF) (a:Rw aV) (b:aV) (k0:Int→OS) (v0:Int):OS:=bif bm v0 (ay a.n) then aU v0 a.n fun h=>yC q 60 [ag (bk (a.get (Fin.mk v0.toNat h))),S.pt (bk b)] fun y=>bif y.b 0 then some (ii v0) else k0 (a7 .i64 v0 1) else some (ii (Int.negSucc 0))
def KA (q:YF) (a:Rw aV) (b:aV) (k0:Int→OS):OS:=k0 0
structure U9 where
 x0:Int→OS
def tI (X:U9):Int→OS:=fun v0=>X.x0 v0
def QH (q:YF) (a:Rw aV) (b:aV) (X:U9):U9:=⟨fun v0=>Bw q a b (tI X) v0⟩
def wB (q:YF) (a:Rw aV) (b:aV):Nat→U9
 | 0=>⟨fun _=>none⟩
 | n+1=>QH q a b (wB q a b n)
theorem acY (q:YF) (a:Rw aV) (b:aV) (kk:PK S):zG a b (ah2 q kk)=Bw q a b (zG a b kk):=by
 kernel_rfl
theorem U5 (q:YF) (a:Rw aV) (b:aV) (kk:PK S):BG q kk 106 Tryz.f106 [S.t (T.rows 7 a.n fun i=>bk (a.get i)),S.fn (Go.Fn.func 60) [] [S.pt (bk b)]]=KA q a b (zG a b kk):=by
 kernel_rfl
theorem agy (q:YF) (a:Rw aV) (b:aV):∀ n,zG a b (aak q n)=tI (wB q a b n)
 | 0=>rfl
 | n+1=>by
  have h0:=agy q a b n
  exact (acY q a b (aak q n)).trans (by rw [h0];kernel_rfl)
theorem ajV (a:Rw aV) (b:aV) (n:Nat) (x:S) (h:KA (aa O) a b (tI (wB (aa O) a b n))=some x):(W O).aE 106 [S.t (T.rows 7 a.n fun i=>bk (a.get i)),S.fn (Go.Fn.func 60) [] [S.pt (bk b)]]=some x:=by
 refine WG (fn:=Tryz.f106) (by kernel_rfl) (by kernel_rfl) (n:=n) ?_
 refine (U5 (aa O) a b (aak (aa O) n)).trans ?_
 have h0:=agy (aa O) a b n
 rw [h0]
 exact h
abbrev akv (q:YF) (kk:PK S):PK S:=PG q 107 Tryz.f107 kk
abbrev abI (q:YF):Nat→PK S:=HG q 107 Tryz.f107
def AO (a:Rw Int) (kk:PK S):Int→OS:=fun v0=> kk 2 0 0 (aJ [(6,ii (ay a.n)),(5,S.t (T.rows 1 a.n fun i=>[ti (a.get i)])),(7,ii v0)] 0 [])
def zP (q:YF) (a:Rw Int) (k0:Int→OS) (v0:Int):OS:=bif bm v0 (ay a.n) then aU v0 a.n fun h=>bif !aR (a.get (Fin.mk v0.toNat h)) 0 then some (ii (a.get (Fin.mk v0.toNat h))) else k0 (a7 .i64 v0 1) else some (ii 0)
def Lh (q:YF) (a:Rw Int) (k0:Int→OS):OS:=k0 0
structure Uz where
 x0:Int→OS
def tS (X:Uz):Int→OS:=fun v0=>X.x0 v0
def Tj (q:YF) (a:Rw Int) (X:Uz):Uz:=⟨fun v0=>zP q a (tS X) v0⟩
def xq (q:YF) (a:Rw Int):Nat→Uz
 | 0=>⟨fun _=>none⟩
 | n+1=>Tj q a (xq q a n)
theorem abS (q:YF) (a:Rw Int) (kk:PK S):AO a (akv q kk)=zP q a (AO a kk):=by
 kernel_rfl
theorem U4 (q:YF) (a:Rw Int) (kk:PK S):BG q kk 107 Tryz.f107 [S.t (T.rows 1 a.n fun i=>e3 (a.get i))]=Lh q a (AO a kk):=by
 kernel_rfl
theorem ahu (q:YF) (a:Rw Int):∀ n,AO a (abI q n)=tS (xq q a n)
 | 0=>rfl
 | n+1=>by
  have h0:=ahu q a n
  exact (abS q a (abI q n)).trans (by rw [h0];kernel_rfl)
theorem ai6 (a:Rw Int) (n:Nat) (x:S) (h:Lh (aa O) a (tS (xq (aa O) a n))=some x):(W O).aE 107 [S.t (T.rows 1 a.n fun i=>e3 (a.get i))]=some x:=by
 refine WG (fn:=Tryz.f107) (by kernel_rfl) (by kernel_rfl) (n:=n) ?_
 refine (U4 (aa O) a (abI (aa O) n)).trans ?_
 have h0:=ahu (aa O) a n
 rw [h0]
 exact h
abbrev aj7 (q:YF):Nat→PK S:=HG q 108 Tryz.f108
def zz (q:YF) (a:Bool) (b:Int):OS:=bif a then some (ii 0) else some (ii b)
theorem WQ (q:YF) (a:Bool) (b:Int) (kk:PK S):BG q kk 108 Tryz.f108 [bb a,ii b]=zz q a b:=by
 kernel_rfl
theorem ajQ (a:Bool) (b:Int) (n:Nat) (x:S) (h:zz (aa O) a b=some x):(W O).aE 108 [bb a,ii b]=some x:=by
 refine WG (fn:=Tryz.f108) (by kernel_rfl) (by kernel_rfl) (n:=n) ?_
 refine (WQ (aa O) a b (aj7 (aa O) n)).trans ?_
 exact h
abbrev aki (q:YF):Nat→PK S:=HG q 109 Tryz.f109
def xS (q:YF) (a:Rw BA):OS:=yC q 151 [S.t (T.rows 1 a.n fun i=>[ts (a.get i)]),S.t (T.v (.func (Go.Fn.func 152) #[] #[]))] fun y=>some (S.t (T.v (.bool !y.b 0)))
theorem Vo (q:YF) (a:Rw BA) (kk:PK S):BG q kk 109 Tryz.f109 [S.t (T.rows 1 a.n fun i=>e9 (a.get i))]=xS q a:=by
 kernel_rfl
theorem ajE (a:Rw BA) (n:Nat) (x:S) (h:xS (aa O) a=some x):(W O).aE 109 [S.t (T.rows 1 a.n fun i=>e9 (a.get i))]=some x:=by
 refine WG (fn:=Tryz.f109) (by kernel_rfl) (by kernel_rfl) (n:=n) ?_
 refine (Vo (aa O) a (aki (aa O) n)).trans ?_
 exact h
abbrev aj4 (q:YF):Nat→PK S:=HG q 110 Tryz.f110
def AX (q:YF) (a:Rw dC):OS:=yC q 153 [S.t (T.rows 4 a.n fun i=>eL (a.get i)),ii 8] fun y=>some (ii (y.i 1))
theorem Xk (q:YF) (a:Rw dC) (kk:PK S):BG q kk 110 Tryz.f110 [S.t (T.rows 4 a.n fun i=>eL (a.get i))]=AX q a:=by
 kernel_rfl
theorem aiA (a:Rw dC) (n:Nat) (x:S) (h:AX (aa O) a=some x):(W O).aE 110 [S.t (T.rows 4 a.n fun i=>eL (a.get i))]=some x:=by
 refine WG (fn:=Tryz.f110) (by kernel_rfl) (by kernel_rfl) (n:=n) ?_
 refine (Xk (aa O) a (aj4 (aa O) n)).trans ?_
 exact h
abbrev aju (q:YF) (kk:PK S):PK S:=PG q 111 Tryz.f111 kk
abbrev Z4 (q:YF):Nat→PK S:=HG q 111 Tryz.f111
def zl (a:Rw ch) (kk:PK S):Int→OS:=fun v0=> kk 4 0 0 (aJ [(0,S.t (T.rows 2 a.n fun i=>dv (a.get i))),(8,S.t (T.rows 2 a.n fun i=>dv (a.get i))),(10,ii v0),(9,ii (ay a.n))] 0 [])
def za (q:YF) (a:Rw ch) (k0:Int→OS) (v0:Int):OS:=bif bm v0 (ay a.n) then aU v0 a.n fun h=>yC q 101 [ss (a.get (Fin.mk v0.toNat h)).aZ] fun y=>bif !y.b 0 then some (ii 7) else yC q 146 [ss (a.get (Fin.mk v0.toNat h)).cP] fun y=>bif !y.b 0 then some (ii 20) else bif bp 0 v0 && bp v0 (ay a.n) then iE 0 (cK v0) a.n fun h_1=>yC q 147 [S.t (T.rows 2 (cK v0) fun i=>dv (a.get (Fin.mk (0+↑i) (by first | omega | (have:=i.2;omega) | (have:=i_1.2;omega))))),S.fn (Go.Fn.func 154) [] [S.pt (dv (a.get (Fin.mk v0.toNat h)))]] fun y=>bif y.b 0 then some (ii 6) else k0 (a7 .i64 v0 1) else none else some (ii 0)
def yU (q:YF) (a:Rw ch) (k0:Int→OS):OS:=bif bl (ay a.n) 4 then some (ii 3) else k0 0
structure V1 where
 x0:Int→OS
def vf (X:V1):Int→OS:=fun v0=>X.x0 v0
def PX (q:YF) (a:Rw ch) (X:V1):V1:=⟨fun v0=>za q a (vf X) v0⟩
def w_ (q:YF) (a:Rw ch):Nat→V1
 | 0=>⟨fun _=>none⟩
 | n+1=>PX q a (w_ q a n)
theorem aa3 (q:YF) (a:Rw ch) (kk:PK S):zl a (aju q kk)=za q a (zl a kk):=by
 kernel_rfl
theorem Wp (q:YF) (a:Rw ch) (kk:PK S):BG q kk 111 Tryz.f111 [S.t (T.rows 2 a.n fun i=>dv (a.get i))]=yU q a (zl a kk):=by
 kernel_rfl
theorem afe (q:YF) (a:Rw ch):∀ n,zl a (Z4 q n)=vf (w_ q a n)
 | 0=>rfl
 | n+1=>by
  have h0:=afe q a n
  exact (aa3 q a (Z4 q n)).trans (by rw [h0];kernel_rfl)
theorem ahP (a:Rw ch) (n:Nat) (x:S) (h:yU (aa O) a (vf (w_ (aa O) a n))=some x):(W O).aE 111 [S.t (T.rows 2 a.n fun i=>dv (a.get i))]=some x:=by
 refine WG (fn:=Tryz.f111) (by kernel_rfl) (by kernel_rfl) (n:=n) ?_
 refine (Wp (aa O) a (Z4 (aa O) n)).trans ?_
 have h0:=afe (aa O) a n
 rw [h0]
 exact h
abbrev ajq (q:YF) (kk:PK S):PK S:=PG q 112 Tryz.f112 kk
abbrev abl (q:YF):Nat→PK S:=HG q 112 Tryz.f112
abbrev T112_0:Type:=Bool→S→Bool→S→S→OS
def F9 (a:Int) (b:Int) (c:Int) (kk:PK S):T112_0:=fun v0 u1 u2 u3 u4=> kk 1 9 1 (aJ [(0,ii a),(8,ii b),(12,u1),(2,ii c),(10,bb u2),(6,bb false),(14,bb v0),(1,ii b),(9,bb (cT a b)),(13,u3),(11,u4),(7,ii a)] 10 [])
def Qg (q:YF) (a:Int) (b:Int) (c:Int):T112_0:=fun v0 u1 u2 u3 u4=>some (bb v0)
def xO (q:YF) (a:Int) (b:Int) (c:Int) (k0:T112_0):OS:=bif cT a b then k0 (bp a c) (ii c) true (bb (bp a c)) (ii a) else k0 false S.ud false S.ud S.ud
structure WC where
 x0:Bool→OS
def OI (X:WC):T112_0:=fun v0 _ _ _ _=>X.x0 v0
def aeb (q:YF) (a:Int) (b:Int) (c:Int) (X:WC):WC:=⟨fun v0=>Qg q a b c v0 dd dd dd dd⟩
def Of (q:YF) (a:Int) (b:Int) (c:Int):Nat→WC
 | 0=>⟨fun _=>none⟩
 | n+1=>aeb q a b c (Of q a b c n)
theorem acG (q:YF) (a:Int) (b:Int) (c:Int) (kk:PK S):F9 a b c (ajq q kk)=Qg q a b c:=by
 kernel_rfl
theorem Wy (q:YF) (a:Int) (b:Int) (c:Int) (kk:PK S):BG q kk 112 Tryz.f112 [ii a,ii b,ii c]=xO q a b c (F9 a b c kk):=by
 kernel_rfl
theorem afg (q:YF) (a:Int) (b:Int) (c:Int):∀ n,F9 a b c (abl q n)=OI (Of q a b c n)
 | 0=>rfl
 | n+1=>by
  have h0:=afg q a b c n
  exact (acG q a b c (abl q n)).trans (by kernel_rfl)
theorem ahZ (a:Int) (b:Int) (c:Int) (n:Nat) (x:S) (h:xO (aa O) a b c (OI (Of (aa O) a b c n))=some x):(W O).aE 112 [ii a,ii b,ii c]=some x:=by
 refine WG (fn:=Tryz.f112) (by kernel_rfl) (by kernel_rfl) (n:=n) ?_
 refine (Wy (aa O) a b c (abl (aa O) n)).trans ?_
 have h0:=afg (aa O) a b c n
 rw [h0]
 exact h
abbrev aiL (q:YF):Nat→PK S:=HG q 113 Tryz.f113
def Bb (q:YF) (a:Int):OS:=bif bm a 0 then some (ii 11) else bif bl a 1125899906842624 then some (ii 10) else some (ii 0)
theorem WE (q:YF) (a:Int) (kk:PK S):BG q kk 113 Tryz.f113 [ii a]=Bb q a:=by
 kernel_rfl
theorem ajI (a:Int) (n:Nat) (x:S) (h:Bb (aa O) a=some x):(W O).aE 113 [ii a]=some x:=by
 refine WG (fn:=Tryz.f113) (by kernel_rfl) (by kernel_rfl) (n:=n) ?_
 refine (WE (aa O) a (aiL (aa O) n)).trans ?_
 exact h
abbrev aiw (q:YF) (kk:PK S):PK S:=PG q 114 Tryz.f114 kk
abbrev aaC (q:YF):Nat→PK S:=HG q 114 Tryz.f114
def xI (a:Rw bu) (kk:PK S):Int→OS:=fun v0=> kk 4 0 0 (aJ [(0,S.t (T.rows 3 a.n fun i=>bS (a.get i))),(10,ii (ay a.n)),(9,S.t (T.rows 3 a.n fun i=>bS (a.get i))),(11,ii v0)] 0 [])
def BE (q:YF) (a:Rw bu) (k0:Int→OS) (v0:Int):OS:=bif bm v0 (ay a.n) then aU v0 a.n fun h=>yC q 109 [S.t (T.rows 1 3 fun i=>List.take 1 (List.drop (↑i*1) (bS (a.get (Fin.mk v0.toNat h)))))] fun y=>yC q 108 [bb (y.b 0),ii 7] fun y=>bif bp 0 v0 && bp v0 (ay a.n) then iE 0 (cK v0) a.n fun h_1=>yC q 155 [S.t (T.rows 3 (cK v0) fun i=>bS (a.get (Fin.mk (0+↑i) (by first | omega | (have:=i.2;omega) | (have:=i_1.2;omega))))),ag (bS (a.get (Fin.mk v0.toNat h)))] fun y_1=>yC q 108 [S.t (T.v (.bool !y_1.b 0)),ii 6] fun y_2=>yC q 107 [S.t (T.rows 1 2 fun i=>List.take 1 (List.drop (↑i*1) [ti (y.i 0),ti (y_2.i 0)]))] fun y=>bif !aR (y.i 0) 0 then some (ii (y.i 0)) else k0 (a7 .i64 v0 1) else none else some (ii 0)
def y_ (q:YF) (a:Rw bu) (k0:Int→OS):OS:=bif bl (ay a.n) 72 then some (ii 3) else k0 0
structure WX where
 x0:Int→OS
def vh (X:WX):Int→OS:=fun v0=>X.x0 v0
def NI (q:YF) (a:Rw bu) (X:WX):WX:=⟨fun v0=>BE q a (vh X) v0⟩
def wc (q:YF) (a:Rw bu):Nat→WX
 | 0=>⟨fun _=>none⟩
 | n+1=>NI q a (wc q a n)
theorem ZF (q:YF) (a:Rw bu) (kk:PK S):xI a (aiw q kk)=BE q a (xI a kk):=by
 kernel_rfl
theorem U7 (q:YF) (a:Rw bu) (kk:PK S):BG q kk 114 Tryz.f114 [S.t (T.rows 3 a.n fun i=>bS (a.get i))]=y_ q a (xI a kk):=by
 kernel_rfl
theorem agB (q:YF) (a:Rw bu):∀ n,xI a (aaC q n)=vh (wc q a n)
 | 0=>rfl
 | n+1=>by
  have h0:=agB q a n
  exact (ZF q a (aaC q n)).trans (by rw [h0];kernel_rfl)
theorem aiS (a:Rw bu) (n:Nat) (x:S) (h:y_ (aa O) a (vh (wc (aa O) a n))=some x):(W O).aE 114 [S.t (T.rows 3 a.n fun i=>bS (a.get i))]=some x:=by
 refine WG (fn:=Tryz.f114) (by kernel_rfl) (by kernel_rfl) (n:=n) ?_
 refine (U7 (aa O) a (aaC (aa O) n)).trans ?_
 have h0:=agB (aa O) a n
 rw [h0]
 exact h
abbrev YM (q:YF) (kk:PK S):PK S:=PG q 115 Tryz.f115 kk
abbrev Fz (q:YF):Nat→PK S:=HG q 115 Tryz.f115
def Iu (a:cr) (b:cr) (kk:PK S):OS:=kk 7 0 0 (aJ [(4,S.ptr 2 0),(2,S.ptr 0 0),(21,ii 0),(3,S.ptr 1 0)] 3 [(0,B.box (List.map S.t (ew a))),(2,B.box [ii 0,ii 0]),(1,B.box (List.map S.t (ew b)))])
def EP (a:cr) (b:cr) (kk:PK S):OS:=kk 7 0 0 (aJ [(4,S.ptr 2 0),(2,S.ptr 0 0),(21,ii 1),(3,S.ptr 1 0)] 3 [(0,B.box [ii (bF .i64 a.fW b.fW),ii a.gK]),(2,B.box [ii 0,ii 0]),(1,B.box (List.map S.t (ew b)))])
def Ha (a:cr) (b:cr) (kk:PK S):OS:=kk 7 0 0 (aJ [(4,S.ptr 2 0),(2,S.ptr 0 0),(21,ii 2),(3,S.ptr 1 0)] 3 [(0,B.box [ii (bF .i64 a.fW b.fW),ii (bF .i64 a.gK b.gK)]),(2,B.box [ii 0,ii 0]),(1,B.box (List.map S.t (ew b)))])
def Ij (q:YF) (a:cr) (b:cr) (k1:OS):OS:=k1
def EL (q:YF) (a:cr) (b:cr) (k2:OS):OS:=k2
def FV (q:YF) (a:cr) (b:cr):OS:=some (S.bJ [S.agg [ii (bF .i64 a.fW b.fW),ii (bF .i64 a.gK b.gK)],ii 0])
def Ak (q:YF) (a:cr) (b:cr) (k0:OS):OS:=yC q 143 [ag (ew a),ag (ew b)] fun y=>bif !aR (y.i 0) 0 then some (S.bJ [S.agg [ii 0,ii 0],ii (y.i 0)]) else yC q 144 [ag (ew a),ag (ew b)] fun y=>bif !(aR (y.i 0) b.fW && (aR (y.i 1) b.gK && true)) then some (S.bJ [S.agg [ii 0,ii 0],ii 11]) else k0
structure MI where
 x0:OS
 x1:OS
 x2:OS
def HY (X:MI):OS:=X.x0
def Fc (X:MI):OS:=X.x1
def FU (X:MI):OS:=X.x2
def Xr (q:YF) (a:cr) (b:cr) (X:MI):MI:=⟨Ij q a b (Fc X),
 EL q a b (FU X),
 FV q a b⟩
def xx (q:YF) (a:cr) (b:cr):Nat→MI
 | 0=>⟨none,none,none⟩
 | n+1=>Xr q a b (xx q a b n)
theorem abZ (q:YF) (a:cr) (b:cr) (kk:PK S):Iu a b (YM q kk)=Ij q a b (EP a b kk):=by
 kernel_rfl
theorem abO (q:YF) (a:cr) (b:cr) (kk:PK S):EP a b (YM q kk)=EL q a b (Ha a b kk):=by
 kernel_rfl
theorem Y2 (q:YF) (a:cr) (b:cr) (kk:PK S):Ha a b (YM q kk)=FV q a b:=by
 kernel_rfl
theorem VG (q:YF) (a:cr) (b:cr) (kk:PK S):BG q kk 115 Tryz.f115 [ag (ew a),ag (ew b)]=Ak q a b (Iu a b kk):=by
 kernel_rfl
theorem ahf (q:YF) (a:cr) (b:cr):∀ n,Iu a b (Fz q n)=HY (xx q a b n)∧EP a b (Fz q n)=Fc (xx q a b n)∧Ha a b (Fz q n)=FU (xx q a b n)
 | 0=>⟨rfl,rfl,rfl⟩
 | n+1=>by
  obtain ⟨h0,h1,h2⟩:=ahf q a b n
  exact ⟨(abZ q a b (Fz q n)).trans (by rw [h1];kernel_rfl),(abO q a b (Fz q n)).trans (by rw [h2];kernel_rfl),(Y2 q a b (Fz q n)).trans (by kernel_rfl)⟩
theorem ais (a:cr) (b:cr) (n:Nat) (x:S) (h:Ak (aa O) a b (HY (xx (aa O) a b n))=some x):(W O).aE 115 [ag (ew a),ag (ew b)]=some x:=by
 refine WG (fn:=Tryz.f115) (by kernel_rfl) (by kernel_rfl) (n:=n) ?_
 refine (VG (aa O) a b (Fz (aa O) n)).trans ?_
 obtain ⟨h0,h1,h2⟩:=ahf (aa O) a b n
 rw [h0]
 exact h
abbrev akz (q:YF):Nat→PK S:=HG q 116 Tryz.f116
def yr (q:YF) (a:Rw fU) (b:BA):OS:=yC q 156 [S.t (T.rows 10 a.n fun i=>jd (a.get i)),S.fn (Go.Fn.func 117) [] [S.pt [ts b]]] fun y=>some (bb (cT (y.i 0) 0))
theorem VD (q:YF) (a:Rw fU) (b:BA) (kk:PK S):BG q kk 116 Tryz.f116 [S.t (T.rows 10 a.n fun i=>jd (a.get i)),S.fn (Go.Fn.func 117) [] [S.pt [ts b]]]=yr q a b:=by
 kernel_rfl
theorem ajb (a:Rw fU) (b:BA) (n:Nat) (x:S) (h:yr (aa O) a b=some x):(W O).aE 116 [S.t (T.rows 10 a.n fun i=>jd (a.get i)),S.fn (Go.Fn.func 117) [] [S.pt [ts b]]]=some x:=by
 refine WG (fn:=Tryz.f116) (by kernel_rfl) (by kernel_rfl) (n:=n) ?_
 refine (VD (aa O) a b (akz (aa O) n)).trans ?_
 exact h
abbrev aiu (q:YF):Nat→PK S:=HG q 117 Tryz.f117
def JP (q:YF) (a:fU) (b:BA):OS:=some (bb (ah a.af b))
theorem VI (q:YF) (a:fU) (b:BA) (kk:PK S):BG q kk 117 Tryz.f117 [ag (jd a),S.pt [ts b]]=JP q a b:=by
 kernel_rfl
theorem ahL (a:fU) (b:BA) (n:Nat) (x:S) (h:JP (aa O) a b=some x):(W O).aE 117 [ag (jd a),S.pt [ts b]]=some x:=by
 refine WG (fn:=Tryz.f117) (by kernel_rfl) (by kernel_rfl) (n:=n) ?_
 refine (VI (aa O) a b (aiu (aa O) n)).trans ?_
 exact h
abbrev akp (q:YF):Nat→PK S:=HG q 118 Tryz.f118
def zV (q:YF) (a:Rw bu) (b:aP):OS:=yC q 157 [S.t (T.rows 3 a.n fun i=>bS (a.get i)),S.fn (Go.Fn.func 119) [] [S.pt (bI b)]] fun y=>some (bb (cT (y.i 0) 0))
theorem Xg (q:YF) (a:Rw bu) (b:aP) (kk:PK S):BG q kk 118 Tryz.f118 [S.t (T.rows 3 a.n fun i=>bS (a.get i)),S.fn (Go.Fn.func 119) [] [S.pt (bI b)]]=zV q a b:=by
 kernel_rfl
theorem akf (a:Rw bu) (b:aP) (n:Nat) (x:S) (h:zV (aa O) a b=some x):(W O).aE 118 [S.t (T.rows 3 a.n fun i=>bS (a.get i)),S.fn (Go.Fn.func 119) [] [S.pt (bI b)]]=some x:=by
 refine WG (fn:=Tryz.f118) (by kernel_rfl) (by kernel_rfl) (n:=n) ?_
 refine (Xg (aa O) a b (akp (aa O) n)).trans ?_
 exact h
abbrev ajo (q:YF):Nat→PK S:=HG q 119 Tryz.f119
def zg (q:YF) (a:bu) (b:aP):OS:=yC q 63 [S.t (T.rows 7 b.aw.n fun i=>bk (b.aw.get i)),ag (bS a)] fun y=>some (S.t (T.v (.bool !y.b 2)))
theorem Wm (q:YF) (a:bu) (b:aP) (kk:PK S):BG q kk 119 Tryz.f119 [ag (bS a),S.pt (bI b)]=zg q a b:=by
 kernel_rfl
theorem ajP (a:bu) (b:aP) (n:Nat) (x:S) (h:zg (aa O) a b=some x):(W O).aE 119 [ag (bS a),S.pt (bI b)]=some x:=by
 refine WG (fn:=Tryz.f119) (by kernel_rfl) (by kernel_rfl) (n:=n) ?_
 refine (Wm (aa O) a b (ajo (aa O) n)).trans ?_
 exact h
abbrev acv (q:YF) (kk:PK S):PK S:=PG q 120 Tryz.f120 kk
abbrev Ec (q:YF):Nat→PK S:=HG q 120 Tryz.f120
def uM (a:Rw bT) (kk:PK S):Int→OS:=fun v0=> kk 4 0 0 (aJ [(0,S.t (T.rows 3 a.n fun i=>cZ (a.get i))),(8,S.t (T.rows 3 a.n fun i=>cZ (a.get i))),(10,ii v0),(9,ii (ay a.n))] 0 [])
abbrev T120_1:Type:=bT→Bool→Int→Int→Bool→Bool→bT→BA→bT→Bool→Bool→S→S→S→Bool→Int→Bool→OS
def GD (a:Rw bT) (kk:PK S):T120_1:=fun v0 v1 v2 v3 u4 u5 u6 u7 u8 u9 u10 u11 u12 u13 u14 u15 u16=> kk 8 8 12 (aJ [(0,S.t (T.rows 3 a.n fun i=>cZ (a.get i))),(16,S.ptr 4 0),(8,S.t (T.rows 3 a.n fun i=>cZ (a.get i))),(24,u11),(4,S.ptr 4 0),(12,ii u15),(18,bb u4),(10,ii v2),(26,u12),(22,bb u5),(14,ag (cZ u6)),(17,ss u7),(9,ii (ay a.n)),(25,u13),(21,S.ptr 4 2),(13,S.pt (cZ u8)),(3,ii v3),(19,bb u9),(11,bb u16),(27,bb v1),(23,bb u14),(15,bb u10)] 20 [(4,B.box (List.map S.t (cZ v0)))])
abbrev T120_2:Type:=bT→Bool→Int→Int→S→Bool→Bool→S→Bool→bT→Bool→BA→S→bT→Bool→Bool→Bool→Bool→Bool→S→S→S→S→Bool→Int→Bool→OS
def G5 (a:Rw bT) (kk:PK S):T120_2:=fun v0 v1 v2 v3 u4 u5 u6 u7 u8 u9 u10 u11 u12 u13 u14 u15 u16 u17 u18 u19 u20 u21 u22 u23 u24 u25=> kk 9 10 20 (aJ [(0,S.t (T.rows 3 a.n fun i=>cZ (a.get i))),(32,u19),(16,S.ptr 4 0),(8,S.t (T.rows 3 a.n fun i=>cZ (a.get i))),(24,u4),(4,S.ptr 4 0),(36,bb v1),(20,bb u5),(12,ii u24),(28,S.ptr 4 2),(34,u20),(18,bb u6),(10,ii v2),(26,u7),(22,bb u8),(14,ag (cZ u9)),(30,bb u10),(33,u21),(17,ss u11),(9,ii (ay a.n)),(25,u12),(21,S.ptr 4 2),(13,S.pt (cZ u13)),(29,bb u14),(3,ii v3),(35,u22),(19,bb u15),(11,bb u25),(27,bb u16),(23,bb u17),(15,bb u18),(31,bb u23)] 30 [(4,B.box (List.map S.t (cZ v0)))])
def AP (q:YF) (a:Rw bT) (k1:T120_1) (v0:Int):OS:=bif bm v0 (ay a.n) then aU v0 a.n fun h=>yC q 101 [ss (a.get (Fin.mk v0.toNat h)).aZ] fun y=>bif !y.b 0 then some (ii 7) else bif (a.get (Fin.mk v0.toNat h)).gL then k1 (a.get (Fin.mk v0.toNat h)) (!ah (a.get (Fin.mk v0.toNat h)).cP (bs [])) v0 v0 (y.b 0) (a.get (Fin.mk v0.toNat h)).gL (a.get (Fin.mk v0.toNat h)) (a.get (Fin.mk v0.toNat h)).aZ (a.get (Fin.mk v0.toNat h)) (!y.b 0) (!y.b 0) (S.ptr 4 1) (S.t (T.v (.bool !ah (a.get (Fin.mk v0.toNat h)).cP (bs [])))) (ss (a.get (Fin.mk v0.toNat h)).cP) true v0 (bm v0 (ay a.n)) else k1 (a.get (Fin.mk v0.toNat h)) false v0 v0 (y.b 0) (a.get (Fin.mk v0.toNat h)).gL (a.get (Fin.mk v0.toNat h)) (a.get (Fin.mk v0.toNat h)).aZ (a.get (Fin.mk v0.toNat h)) (!y.b 0) (!y.b 0) S.ud S.ud S.ud false v0 (bm v0 (ay a.n)) else some (ii 0)
def E3 (q:YF) (a:Rw bT) (k0:Int→OS) (k2:T120_2):T120_1:=fun v0 v1 v2 v3 u4 u5 u6 u7 u8 u9 u10 u11 u12 u13 u14 u15 u16=>bif v1 then bif v1 then some (ii 20) else bif bp 0 v3 && bp v3 (ay a.n) then iE 0 (cK v3) a.n fun h=>yC q 158 [S.t (T.rows 3 (cK v3) fun i=>cZ (a.get (Fin.mk (0+↑i) (by first | omega | (have:=i.2;omega) | (have:=i_1.2;omega))))),ag (cZ v0)] fun y=>bif y.b 0 then some (ii 6) else k0 (a7 .i64 v2 1) else none else bif !v0.gL then yC q 146 [ss v0.cP] fun y=>k2 v0 (!y.b 0) v2 v3 u11 v1 u4 u12 u5 u6 (!v0.gL) u7 u13 u8 v0.gL u9 v1 u14 u10 (S.ptr 4 1) (bb (y.b 0)) (ss v0.cP) (S.t (T.v (.bool !y.b 0))) true u15 u16 else k2 v0 false v2 v3 u11 v1 u4 u12 u5 u6 (!v0.gL) u7 u13 u8 v0.gL u9 v1 u14 u10 S.ud S.ud S.ud S.ud false u15 u16
def FC (q:YF) (a:Rw bT) (k0:Int→OS):T120_2:=fun v0 v1 v2 v3 u4 u5 u6 u7 u8 u9 u10 u11 u12 u13 u14 u15 u16 u17 u18 u19 u20 u21 u22 u23 u24 u25=>bif v1 then some (ii 20) else bif bp 0 v3 && bp v3 (ay a.n) then iE 0 (cK v3) a.n fun h=>yC q 158 [S.t (T.rows 3 (cK v3) fun i=>cZ (a.get (Fin.mk (0+↑i) (by first | omega | (have:=i.2;omega) | (have:=i_1.2;omega))))),ag (cZ v0)] fun y=>bif y.b 0 then some (ii 6) else k0 (a7 .i64 v2 1) else none
def yJ (q:YF) (a:Rw bT) (k0:Int→OS):OS:=bif bl (ay a.n) 4 then some (ii 3) else k0 0
structure Mq where
 x0:Int→OS
 x1:bT→Bool→Int→Int→OS
 x2:bT→Bool→Int→Int→OS
def qy (X:Mq):Int→OS:=fun v0=>X.x0 v0
def Hs (X:Mq):T120_1:=fun v0 v1 v2 v3 _ _ _ _ _ _ _ _ _ _ _ _ _=>X.x1 v0 v1 v2 v3
def E_ (X:Mq):T120_2:=fun v0 v1 v2 v3 _ _ _ _ _ _ _ _ _ _ _ _ _ _ _ _ _ _ _ _ _ _=>X.x2 v0 v1 v2 v3
def Rr (q:YF) (a:Rw bT) (X:Mq):Mq:=⟨fun v0=>AP q a (Hs X) v0,
 fun v0 v1 v2 v3=>E3 q a (qy X) (E_ X) v0 v1 v2 v3 dd dd dd dd dd dd dd dd dd dd dd dd dd,
 fun v0 v1 v2 v3=>FC q a (qy X) v0 v1 v2 v3 dd dd dd dd dd dd dd dd dd dd dd dd dd dd dd dd dd dd dd dd dd dd⟩
def qZ (q:YF) (a:Rw bT):Nat→Mq
 | 0=>⟨fun _=>none,fun _ _ _ _=>none,fun _ _ _ _=>none⟩
 | n+1=>Rr q a (qZ q a n)
theorem ZM (q:YF) (a:Rw bT) (kk:PK S):uM a (acv q kk)=AP q a (GD a kk):=by
 kernel_rfl
theorem ZU (q:YF) (a:Rw bT) (kk:PK S):GD a (acv q kk)=E3 q a (uM a kk) (G5 a kk):=by
 kernel_rfl
theorem aaw (q:YF) (a:Rw bT) (kk:PK S):G5 a (acv q kk)=FC q a (uM a kk):=by
 kernel_rfl
theorem UE (q:YF) (a:Rw bT) (kk:PK S):BG q kk 120 Tryz.f120 [S.t (T.rows 3 a.n fun i=>cZ (a.get i))]=yJ q a (uM a kk):=by
 kernel_rfl
theorem agr (q:YF) (a:Rw bT):∀ n,uM a (Ec q n)=qy (qZ q a n)∧GD a (Ec q n)=Hs (qZ q a n)∧G5 a (Ec q n)=E_ (qZ q a n)
 | 0=>⟨rfl,rfl,rfl⟩
 | n+1=>by
  obtain ⟨h0,h1,h2⟩:=agr q a n
  exact ⟨(ZM q a (Ec q n)).trans (by rw [h1];kernel_rfl),(ZU q a (Ec q n)).trans (by rw [h0,h2];kernel_rfl),(aaw q a (Ec q n)).trans (by rw [h0];kernel_rfl)⟩
theorem ajl (a:Rw bT) (n:Nat) (x:S) (h:yJ (aa O) a (qy (qZ (aa O) a n))=some x):(W O).aE 120 [S.t (T.rows 3 a.n fun i=>cZ (a.get i))]=some x:=by
 refine WG (fn:=Tryz.f120) (by kernel_rfl) (by kernel_rfl) (n:=n) ?_
 refine (UE (aa O) a (Ec (aa O) n)).trans ?_
 obtain ⟨h0,h1,h2⟩:=agr (aa O) a n
 rw [h0]
 exact h
abbrev Gl (q:YF) (kk:PK S):PK S:=PG q 121 Tryz.f121 kk
abbrev oH (q:YF):Nat→PK S:=HG q 121 Tryz.f121
def AL (a:fB) (kk:PK S):Int→OS:=fun v0=> kk 4 0 0 (aJ [(24,ii (ay a.aD.n)),(1,S.ptr 0 0),(25,ii v0),(23,S.t (T.rows 3 a.aD.n fun i=>e70 (a.aD.get i)))] 1 [(0,B.box (List.map S.t (jv a)))])
def Fm (a:fB) (kk:PK S):OS:=kk 11 0 0 (aJ [(54,ii (ay 2)),(53,S.sl 0 2),(55,ii 0)] 1 [(0,B.fO false 1 2 [S.t (T.rows 2 a.bR.n fun i=>iA (a.bR.get i)),S.t (T.rows 2 a.bA.n fun i=>iA (a.bA.get i))])])
abbrev T121_2:Type:=Int→Bool→Int→BA→Bool→D70→BA→Int→D70→D70→S→S→Bool→S→Bool→OS
def Gq (a:fB) (kk:PK S):T121_2:=fun v0 v1 v2 u3 u4 u5 u6 u7 u8 u9 u10 u11 u12 u13 u14=> kk 6 14 6 (aJ [(32,ss u3),(40,u10),(24,ii (ay a.aD.n)),(4,S.ptr 4 0),(36,bb u4),(28,ag (e70 u5)),(34,S.ptr 4 2),(26,bb u14),(38,u11),(30,ss u6),(1,S.ptr 0 0),(33,ii v0),(41,bb v1),(25,ii v2),(37,bb u12),(29,S.ptr 4 0),(35,ii u7),(27,S.pt (e70 u8)),(39,u13),(23,S.t (T.rows 3 a.aD.n fun i=>e70 (a.aD.get i))),(31,S.ptr 4 1)] 23 [(0,B.box (List.map S.t (jv a))),(4,B.box (List.map S.t (e70 u9)))])
def AJ (a:fB) (kk:PK S):Int→OS:=fun v0=> kk 14 0 0 (aJ [(60,ii (ay a.bR.n)),(54,ii (ay 2)),(53,S.sl 0 2),(61,ii v0),(59,S.t (T.rows 2 a.bR.n fun i=>iA (a.bR.get i))),(55,ii 0)] 1 [(0,B.fO false 1 2 [S.t (T.rows 2 a.bR.n fun i=>iA (a.bR.get i)),S.t (T.rows 2 a.bA.n fun i=>iA (a.bA.get i))])])
def Fa (a:fB) (kk:PK S):OS:=kk 11 0 0 (aJ [(54,ii (ay 2)),(53,S.sl 0 2),(55,ii 1)] 1 [(0,B.fO false 1 2 [S.t (T.rows 2 a.bR.n fun i=>iA (a.bR.get i)),S.t (T.rows 2 a.bA.n fun i=>iA (a.bA.get i))])])
def z_ (a:fB) (kk:PK S):Int→OS:=fun v0=> kk 14 0 0 (aJ [(60,ii (ay a.bA.n)),(54,ii (ay 2)),(53,S.sl 0 2),(61,ii v0),(59,S.t (T.rows 2 a.bA.n fun i=>iA (a.bA.get i))),(55,ii 1)] 1 [(0,B.fO false 1 2 [S.t (T.rows 2 a.bR.n fun i=>iA (a.bR.get i)),S.t (T.rows 2 a.bA.n fun i=>iA (a.bA.get i))])])
def Gd (a:fB) (kk:PK S):OS:=kk 11 0 0 (aJ [(54,ii (ay 2)),(53,S.sl 0 2),(55,ii 2)] 1 [(0,B.fO false 1 2 [S.t (T.rows 2 a.bR.n fun i=>iA (a.bR.get i)),S.t (T.rows 2 a.bA.n fun i=>iA (a.bA.get i))])])
def AB (q:YF) (a:fB) (k1:OS) (k2:T121_2) (v0:Int):OS:=bif bm v0 (ay a.aD.n) then aU v0 a.aD.n fun h=>yC q 159 [ss (a.aD.get (Fin.mk v0.toNat h)).aZ,ss (a.aD.get (Fin.mk v0.toNat h)).ef] fun y=>bif cT (a.aD.get (Fin.mk v0.toNat h)).f_ 1 then k2 (y.i 0) (bp (a.aD.get (Fin.mk v0.toNat h)).f_ 16) v0 (a.aD.get (Fin.mk v0.toNat h)).ef (cT (a.aD.get (Fin.mk v0.toNat h)).f_ 1) (a.aD.get (Fin.mk v0.toNat h)) (a.aD.get (Fin.mk v0.toNat h)).aZ (a.aD.get (Fin.mk v0.toNat h)).f_ (a.aD.get (Fin.mk v0.toNat h)) (a.aD.get (Fin.mk v0.toNat h)) (bb (bp (a.aD.get (Fin.mk v0.toNat h)).f_ 16)) (S.ptr 4 2) true (ii (a.aD.get (Fin.mk v0.toNat h)).f_) (bm v0 (ay a.aD.n)) else k2 (y.i 0) false v0 (a.aD.get (Fin.mk v0.toNat h)).ef (cT (a.aD.get (Fin.mk v0.toNat h)).f_ 1) (a.aD.get (Fin.mk v0.toNat h)) (a.aD.get (Fin.mk v0.toNat h)).aZ (a.aD.get (Fin.mk v0.toNat h)).f_ (a.aD.get (Fin.mk v0.toNat h)) (a.aD.get (Fin.mk v0.toNat h)) S.ud S.ud false S.ud (bm v0 (ay a.aD.n)) else k1
def GH (q:YF) (a:fB) (k3:Int→OS):OS:=k3 0
def GS (q:YF) (a:fB) (k0:Int→OS):T121_2:=fun v0 v1 v2 u3 u4 u5 u6 u7 u8 u9 u10 u11 u12 u13 u14=>yC q 108 [bb v1,ii 1] fun y=>yC q 107 [S.t (T.rows 1 2 fun i=>List.take 1 (List.drop (↑i*1) [ti v0,ti (y.i 0)]))] fun y=>bif !aR (y.i 0) 0 then some (ii (y.i 0)) else k0 (a7 .i64 v2 1)
def zj (q:YF) (a:fB) (k3:Int→OS) (k4:OS) (v0:Int):OS:=bif bm v0 (ay a.bR.n) then aU v0 a.bR.n fun h=>yC q 159 (List.map S.t (iA (a.bR.get (Fin.mk v0.toNat h)))) fun y=>bif !aR (y.i 0) 0 then some (ii (y.i 0)) else k3 (a7 .i64 v0 1) else k4
def He (q:YF) (a:fB) (k5:Int→OS):OS:=k5 0
def yN (q:YF) (a:fB) (k5:Int→OS) (k6:OS) (v0:Int):OS:=bif bm v0 (ay a.bA.n) then aU v0 a.bA.n fun h=>yC q 159 (List.map S.t (iA (a.bA.get (Fin.mk v0.toNat h)))) fun y=>bif !aR (y.i 0) 0 then some (ii (y.i 0)) else k5 (a7 .i64 v0 1) else k6
def Eu (q:YF) (a:fB):OS:=some (ii 0)
def xK (q:YF) (a:fB) (k0:Int→OS):OS:=bif bl (Bool.rec ((fun _=>bif true then bif decide (ay a.bR.n > ay a.aD.n) then ay a.bR.n else ay a.aD.n else bif decide (ay a.bR.n < ay a.aD.n) then ay a.bR.n else ay a.aD.n) ()) ((fun _=>ay a.bA.n) ()) (decide (ay a.bA.n > bif true then bif decide (ay a.bR.n > ay a.aD.n) then ay a.bR.n else ay a.aD.n else bif decide (ay a.bR.n < ay a.aD.n) then ay a.bR.n else ay a.aD.n))) 3 then some (ii 3) else k0 0
structure vS where
 x0:Int→OS
 x1:OS
 x2:Int→Bool→Int→OS
 x3:Int→OS
 x4:OS
 x5:Int→OS
 x6:OS
def yx (X:vS):Int→OS:=fun v0=>X.x0 v0
def GL (X:vS):OS:=X.x1
def Ig (X:vS):T121_2:=fun v0 v1 v2 _ _ _ _ _ _ _ _ _ _ _ _=>X.x2 v0 v1 v2
def uy (X:vS):Int→OS:=fun v0=>X.x3 v0
def EC (X:vS):OS:=X.x4
def sO (X:vS):Int→OS:=fun v0=>X.x5 v0
def Ib (X:vS):OS:=X.x6
def mg (q:YF) (a:fB) (X:vS):vS:=⟨fun v0=>AB q a (GL X) (Ig X) v0,
 GH q a (uy X),
 fun v0 v1 v2=>GS q a (yx X) v0 v1 v2 dd dd dd dd dd dd dd dd dd dd dd dd,
 fun v0=>zj q a (uy X) (EC X) v0,
 He q a (sO X),
 fun v0=>yN q a (sO X) (Ib X) v0,
 Eu q a⟩
def dU (q:YF) (a:fB):Nat→vS
 | 0=>⟨fun _=>none,none,fun _ _ _=>none,fun _=>none,none,fun _=>none,none⟩
 | n+1=>mg q a (dU q a n)
theorem ZJ (q:YF) (a:fB) (kk:PK S):AL a (Gl q kk)=AB q a (Fm a kk) (Gq a kk):=by
 kernel_rfl
theorem acm (q:YF) (a:fB) (kk:PK S):Fm a (Gl q kk)=GH q a (AJ a kk):=by
 kernel_rfl
theorem abE (q:YF) (a:fB) (kk:PK S):Gq a (Gl q kk)=GS q a (AL a kk):=by
 kernel_rfl
theorem abV (q:YF) (a:fB) (kk:PK S):AJ a (Gl q kk)=zj q a (AJ a kk) (Fa a kk):=by
 kernel_rfl
theorem aa9 (q:YF) (a:fB) (kk:PK S):Fa a (Gl q kk)=He q a (z_ a kk):=by
 kernel_rfl
theorem aax (q:YF) (a:fB) (kk:PK S):z_ a (Gl q kk)=yN q a (z_ a kk) (Gd a kk):=by
 kernel_rfl
theorem ZB (q:YF) (a:fB) (kk:PK S):Gd a (Gl q kk)=Eu q a:=by
 kernel_rfl
theorem Wf (q:YF) (a:fB) (kk:PK S):BG q kk 121 Tryz.f121 [ag (jv a)]=xK q a (AL a kk):=by
 kernel_rfl
theorem age (q:YF) (a:fB):∀ n,AL a (oH q n)=yx (dU q a n)∧Fm a (oH q n)=GL (dU q a n)∧Gq a (oH q n)=Ig (dU q a n)∧AJ a (oH q n)=uy (dU q a n)∧Fa a (oH q n)=EC (dU q a n)∧z_ a (oH q n)=sO (dU q a n)∧Gd a (oH q n)=Ib (dU q a n)
 | 0=>⟨rfl,rfl,rfl,rfl,rfl,rfl,rfl⟩
 | n+1=>by
  obtain ⟨h0,h1,h2,h3,h4,h5,h6⟩:=age q a n
  exact ⟨(ZJ q a (oH q n)).trans (by rw [h1,h2];kernel_rfl),(acm q a (oH q n)).trans (by rw [h3];kernel_rfl),(abE q a (oH q n)).trans (by rw [h0];kernel_rfl),(abV q a (oH q n)).trans (by rw [h3,h4];kernel_rfl),(aa9 q a (oH q n)).trans (by rw [h5];kernel_rfl),(aax q a (oH q n)).trans (by rw [h5,h6];kernel_rfl),(ZB q a (oH q n)).trans (by kernel_rfl)⟩
theorem aiP (a:fB) (n:Nat) (x:S) (h:xK (aa O) a (yx (dU (aa O) a n))=some x):(W O).aE 121 [ag (jv a)]=some x:=by
 refine WG (fn:=Tryz.f121) (by kernel_rfl) (by kernel_rfl) (n:=n) ?_
 refine (Wf (aa O) a (oH (aa O) n)).trans ?_
 obtain ⟨h0,h1,h2,h3,h4,h5,h6⟩:=age (aa O) a n
 rw [h0]
 exact h
abbrev aj6 (q:YF) (kk:PK S):PK S:=PG q 122 Tryz.f122 kk
abbrev Zt (q:YF):Nat→PK S:=HG q 122 Tryz.f122
abbrev T122_0:Type:=Bool→S→Bool→S→OS
def Ih (a:BA) (kk:PK S):T122_0:=fun v0 u1 u2 u3=> kk 1 7 1 (aJ [(0,ss a),(8,bb v0),(4,bb (ah a (bs []))),(2,bb false),(6,u1),(5,bb u2),(3,ss a),(7,u3)] 8 [])
def G4 (q:YF) (a:BA):T122_0:=fun v0 u1 u2 u3=>some (bb v0)
def AK (q:YF) (a:BA) (k0:T122_0):OS:=bif ah a (bs []) then k0 true S.ud true S.ud else yC q 101 [ss a] fun y=>k0 (y.b 0) (ss a) false (bb (y.b 0))
structure Wg where
 x0:Bool→OS
def Ef (X:Wg):T122_0:=fun v0 _ _ _=>X.x0 v0
def Xw (q:YF) (a:BA) (X:Wg):Wg:=⟨fun v0=>G4 q a v0 dd dd dd⟩
def Ja (q:YF) (a:BA):Nat→Wg
 | 0=>⟨fun _=>none⟩
 | n+1=>Xw q a (Ja q a n)
theorem aaY (q:YF) (a:BA) (kk:PK S):Ih a (aj6 q kk)=G4 q a:=by
 kernel_rfl
theorem Vy (q:YF) (a:BA) (kk:PK S):BG q kk 122 Tryz.f122 [ss a]=AK q a (Ih a kk):=by
 kernel_rfl
theorem af0 (q:YF) (a:BA):∀ n,Ih a (Zt q n)=Ef (Ja q a n)
 | 0=>rfl
 | n+1=>by
  have h0:=af0 q a n
  exact (aaY q a (Zt q n)).trans (by kernel_rfl)
theorem ah0 (a:BA) (n:Nat) (x:S) (h:AK (aa O) a (Ef (Ja (aa O) a n))=some x):(W O).aE 122 [ss a]=some x:=by
 refine WG (fn:=Tryz.f122) (by kernel_rfl) (by kernel_rfl) (n:=n) ?_
 refine (Vy (aa O) a (Zt (aa O) n)).trans ?_
 have h0:=af0 (aa O) a n
 rw [h0]
 exact h
abbrev aiv (q:YF):Nat→PK S:=HG q 123 Tryz.f123
def zF (q:YF) (a:Rw cQ) (b:BA):OS:=yC q 160 [S.t (T.rows 15 a.n fun i=>dp (a.get i)),S.fn (Go.Fn.func 124) [] [S.pt [ts b]]] fun y=>some (bb (cT (y.i 0) 0))
theorem Ur (q:YF) (a:Rw cQ) (b:BA) (kk:PK S):BG q kk 123 Tryz.f123 [S.t (T.rows 15 a.n fun i=>dp (a.get i)),S.fn (Go.Fn.func 124) [] [S.pt [ts b]]]=zF q a b:=by
 kernel_rfl
theorem aiz (a:Rw cQ) (b:BA) (n:Nat) (x:S) (h:zF (aa O) a b=some x):(W O).aE 123 [S.t (T.rows 15 a.n fun i=>dp (a.get i)),S.fn (Go.Fn.func 124) [] [S.pt [ts b]]]=some x:=by
 refine WG (fn:=Tryz.f123) (by kernel_rfl) (by kernel_rfl) (n:=n) ?_
 refine (Ur (aa O) a b (aiv (aa O) n)).trans ?_
 exact h
abbrev akm (q:YF):Nat→PK S:=HG q 124 Tryz.f124
def KU (q:YF) (a:cQ) (b:BA):OS:=some (bb (ah a.af b))
theorem Wu (q:YF) (a:cQ) (b:BA) (kk:PK S):BG q kk 124 Tryz.f124 [ag (dp a),S.pt [ts b]]=KU q a b:=by
 kernel_rfl
theorem aij (a:cQ) (b:BA) (n:Nat) (x:S) (h:KU (aa O) a b=some x):(W O).aE 124 [ag (dp a),S.pt [ts b]]=some x:=by
 refine WG (fn:=Tryz.f124) (by kernel_rfl) (by kernel_rfl) (n:=n) ?_
 refine (Wu (aa O) a b (akm (aa O) n)).trans ?_
 exact h
abbrev afk (q:YF) (kk:PK S):PK S:=PG q 125 Tryz.f125 kk
abbrev N7 (q:YF):Nat→PK S:=HG q 125 Tryz.f125
abbrev T125_0:Type:=Bool→Int→Bool→Int→Int→S→S→S→S→Bool→S→OS
def Gs (a:cr) (b:cr) (kk:PK S):T125_0:=fun v0 u1 u2 u3 u4 u5 u6 u7 u8 u9 u10=> kk 2 10 7 (aJ [(0,ag (ew a)),(16,u5),(8,ii u1),(4,bb false),(12,u6),(2,S.ptr 0 0),(10,bb u2),(6,ag (ew a)),(14,u7),(1,ag (ew b)),(17,bb v0),(9,ii u3),(5,ii u4),(13,u8),(3,S.ptr 1 0),(11,bb u9),(7,ag (ew b)),(15,u10)] 24 [(0,B.box (List.map S.t (ew a))),(1,B.box (List.map S.t (ew b)))])
abbrev T125_1:Type:=Bool→S→Int→S→Bool→S→Bool→Int→Int→S→Bool→S→S→Bool→S→S→S→S→OS
def Ii (a:cr) (b:cr) (kk:PK S):T125_1:=fun v0 u1 u2 u3 u4 u5 u6 u7 u8 u9 u10 u11 u12 u13 u14 u15 u16 u17=> kk 2 17 7 (aJ [(0,ag (ew a)),(16,u1),(8,ii u2),(24,bb v0),(4,bb false),(20,u12),(12,u3),(2,S.ptr 0 0),(18,bb u13),(10,bb u4),(6,ag (ew a)),(22,u14),(14,u5),(1,ag (ew b)),(17,bb u6),(9,ii u7),(5,ii u8),(21,u15),(13,u9),(3,S.ptr 1 0),(19,u16),(11,bb u10),(7,ag (ew b)),(23,u17),(15,u11)] 24 [(0,B.box (List.map S.t (ew a))),(1,B.box (List.map S.t (ew b)))])
def Ek (q:YF) (a:cr) (b:cr) (k1:T125_1):T125_0:=fun v0 u1 u2 u3 u4 u5 u6 u7 u8 u9 u10=>bif v0 then k1 (bp a.gK b.gK) u5 u1 u6 u2 u7 v0 u3 u4 u8 u9 u10 (ii a.gK) true (ii b.gK) (S.ptr 1 1) (S.ptr 0 1) (bb (bp a.gK b.gK)) else k1 false u5 u1 u6 u2 u7 v0 u3 u4 u8 u9 u10 S.ud false S.ud S.ud S.ud S.ud
def HZ (q:YF) (a:cr) (b:cr):T125_1:=fun v0 u1 u2 u3 u4 u5 u6 u7 u8 u9 u10 u11 u12 u13 u14 u15 u16 u17=>some (bb v0)
def AY (q:YF) (a:cr) (b:cr) (k0:T125_0):OS:=yC q 48 [ag (ew a),ag (ew b)] fun y=>bif aR (y.i 0) 0 then k0 (bp a.fW b.fW) (y.i 0) (aR (y.i 0) 0) (y.i 0) (y.i 0) (bb (bp a.fW b.fW)) (S.ptr 0 0) (S.ptr 1 0) (ii a.fW) true (ii b.fW) else k0 false (y.i 0) (aR (y.i 0) 0) (y.i 0) (y.i 0) S.ud S.ud S.ud S.ud false S.ud
structure P1 where
 x0:Bool→OS
 x1:Bool→OS
def FK (X:P1):T125_0:=fun v0 _ _ _ _ _ _ _ _ _ _=>X.x0 v0
def Ew (X:P1):T125_1:=fun v0 _ _ _ _ _ _ _ _ _ _ _ _ _ _ _ _ _=>X.x1 v0
def XZ (q:YF) (a:cr) (b:cr) (X:P1):P1:=⟨fun v0=>Ek q a b (Ew X) v0 dd dd dd dd dd dd dd dd dd dd,
 fun v0=>HZ q a b v0 dd dd dd dd dd dd dd dd dd dd dd dd dd dd dd dd dd⟩
def C8 (q:YF) (a:cr) (b:cr):Nat→P1
 | 0=>⟨fun _=>none,fun _=>none⟩
 | n+1=>XZ q a b (C8 q a b n)
theorem aaq (q:YF) (a:cr) (b:cr) (kk:PK S):Gs a b (afk q kk)=Ek q a b (Ii a b kk):=by
 kernel_rfl
theorem ac0 (q:YF) (a:cr) (b:cr) (kk:PK S):Ii a b (afk q kk)=HZ q a b:=by
 kernel_rfl
theorem VF (q:YF) (a:cr) (b:cr) (kk:PK S):BG q kk 125 Tryz.f125 [ag (ew a),ag (ew b)]=AY q a b (Gs a b kk):=by
 kernel_rfl
theorem ae5 (q:YF) (a:cr) (b:cr):∀ n,Gs a b (N7 q n)=FK (C8 q a b n)∧Ii a b (N7 q n)=Ew (C8 q a b n)
 | 0=>⟨rfl,rfl⟩
 | n+1=>by
  obtain ⟨h0,h1⟩:=ae5 q a b n
  exact ⟨(aaq q a b (N7 q n)).trans (by rw [h1];kernel_rfl),(ac0 q a b (N7 q n)).trans (by kernel_rfl)⟩
theorem aiJ (a:cr) (b:cr) (n:Nat) (x:S) (h:AY (aa O) a b (FK (C8 (aa O) a b n))=some x):(W O).aE 125 [ag (ew a),ag (ew b)]=some x:=by
 refine WG (fn:=Tryz.f125) (by kernel_rfl) (by kernel_rfl) (n:=n) ?_
 refine (VF (aa O) a b (N7 (aa O) n)).trans ?_
 obtain ⟨h0,h1⟩:=ae5 (aa O) a b n
 rw [h0]
 exact h
abbrev ag2 (q:YF) (kk:PK S):PK S:=PG q 126 Tryz.f126 kk
abbrev Ps (q:YF):Nat→PK S:=HG q 126 Tryz.f126
def zO (a:Rw ch) (kk:PK S):Int→OS:=fun v0=> kk 4 0 0 (aJ [(0,S.t (T.rows 2 a.n fun i=>dv (a.get i))),(3,ii v0)] 0 [])
def As (a:Rw ch) (kk:PK S):Int→Int→OS:=fun v0 v1=> kk 16 0 0 (aJ [(0,S.t (T.rows 2 a.n fun i=>dv (a.get i))),(3,ii v0),(7,ii v1)] 0 [])
def Ab (q:YF) (a:Rw ch) (k1:Int→Int→OS) (v0:Int):OS:=bif bm v0 (ay a.n) then aU v0 a.n fun h=>yC q 71 [ss (a.get (Fin.mk v0.toNat h)).aZ] fun y=>bif !y.b 0 then some (ii 7) else aU v0 a.n fun h=>yC q 161 [ss (a.get (Fin.mk v0.toNat h)).aZ] fun y=>bif y.b 0 then some (ii 1) else aU v0 a.n fun h=>yC q 129 [ss (a.get (Fin.mk v0.toNat h)).cP] fun y=>bif !y.b 0 then some (ii 20) else k1 v0 0 else some (ii 0)
def Bn (q:YF) (a:Rw ch) (k0:Int→OS) (k1:Int→Int→OS) (v0 v1:Int):OS:=bif bm v1 v0 then aU v1 a.n fun h=>aU v0 a.n fun h_1=>bif ah (a.get (Fin.mk v1.toNat h)).aZ (a.get (Fin.mk v0.toNat h_1)).aZ then some (ii 6) else k1 v0 (a7 .i64 v1 1) else k0 (a7 .i64 v0 1)
def zf (q:YF) (a:Rw ch) (k0:Int→OS):OS:=bif bl (ay a.n) 4 then some (ii 3) else k0 0
structure OW where
 x0:Int→OS
 x1:Int→Int→OS
def oM (X:OW):Int→OS:=fun v0=>X.x0 v0
def qW (X:OW):Int→Int→OS:=fun v0 v1=>X.x1 v0 v1
def CL (q:YF) (a:Rw ch) (X:OW):OW:=⟨fun v0=>Ab q a (qW X) v0,
 fun v0 v1=>Bn q a (oM X) (qW X) v0 v1⟩
def kb (q:YF) (a:Rw ch):Nat→OW
 | 0=>⟨fun _=>none,fun _ _=>none⟩
 | n+1=>CL q a (kb q a n)
theorem ZT (q:YF) (a:Rw ch) (kk:PK S):zO a (ag2 q kk)=Ab q a (As a kk):=by
 kernel_rfl
theorem Zu (q:YF) (a:Rw ch) (kk:PK S):As a (ag2 q kk)=Bn q a (zO a kk) (As a kk):=by
 kernel_rfl
theorem Wv (q:YF) (a:Rw ch) (kk:PK S):BG q kk 126 Tryz.f126 [S.t (T.rows 2 a.n fun i=>dv (a.get i))]=zf q a (zO a kk):=by
 kernel_rfl
theorem adP (q:YF) (a:Rw ch):∀ n,zO a (Ps q n)=oM (kb q a n)∧As a (Ps q n)=qW (kb q a n)
 | 0=>⟨rfl,rfl⟩
 | n+1=>by
  obtain ⟨h0,h1⟩:=adP q a n
  exact ⟨(ZT q a (Ps q n)).trans (by rw [h1];kernel_rfl),(Zu q a (Ps q n)).trans (by rw [h0,h1];kernel_rfl)⟩
theorem ajs (a:Rw ch) (n:Nat) (x:S) (h:zf (aa O) a (oM (kb (aa O) a n))=some x):(W O).aE 126 [S.t (T.rows 2 a.n fun i=>dv (a.get i))]=some x:=by
 refine WG (fn:=Tryz.f126) (by kernel_rfl) (by kernel_rfl) (n:=n) ?_
 refine (Wv (aa O) a (Ps (aa O) n)).trans ?_
 obtain ⟨h0,h1⟩:=adP (aa O) a n
 rw [h0]
 exact h
abbrev aei (q:YF) (kk:PK S):PK S:=PG q 127 Tryz.f127 kk
abbrev Ni (q:YF):Nat→PK S:=HG q 127 Tryz.f127
def yj (a:Rw bK) (kk:PK S):Int→OS:=fun v0=> kk 4 0 0 (aJ [(0,S.t (T.rows 4 a.n fun i=>cL (a.get i))),(3,ii v0)] 0 [])
def yT (a:Rw bK) (kk:PK S):Int→Int→OS:=fun v0 v1=> kk 14 0 0 (aJ [(0,S.t (T.rows 4 a.n fun i=>cL (a.get i))),(3,ii v0),(7,ii v1)] 0 [])
def Bi (q:YF) (a:Rw bK) (k1:Int→Int→OS) (v0:Int):OS:=bif bm v0 (ay a.n) then aU v0 a.n fun h=>yC q 71 [ss (a.get (Fin.mk v0.toNat h)).bj] fun y=>aU v0 a.n fun h=>yC q 71 [ss (a.get (Fin.mk v0.toNat h)).bn] fun y_1=>bif !y.b 0 then some (ii 7) else bif !y_1.b 0 then some (ii 7) else aU v0 a.n fun h=>yC q 91 [ii (a.get (Fin.mk v0.toNat h)).bG] fun y=>bif !aR (y.i 0) 0 then some (ii (y.i 0)) else k1 v0 0 else some (ii 0)
def zK (q:YF) (a:Rw bK) (k0:Int→OS) (k1:Int→Int→OS) (v0 v1:Int):OS:=bif bm v1 v0 then aU v1 a.n fun h=>aU v0 a.n fun h_1=>bif ah (a.get (Fin.mk v1.toNat h)).bj (a.get (Fin.mk v0.toNat h_1)).bj then aU v1 a.n fun h=>aU v0 a.n fun h_2=>bif ah (a.get (Fin.mk v1.toNat h)).bn (a.get (Fin.mk v0.toNat h_2)).bn then some (ii 6) else k1 v0 (a7 .i64 v1 1) else k1 v0 (a7 .i64 v1 1) else k0 (a7 .i64 v0 1)
def AT (q:YF) (a:Rw bK) (k0:Int→OS):OS:=bif bl (ay a.n) 6 then some (ii 3) else k0 0
structure Rj where
 x0:Int→OS
 x1:Int→Int→OS
def oF (X:Rj):Int→OS:=fun v0=>X.x0 v0
def qx (X:Rj):Int→Int→OS:=fun v0 v1=>X.x1 v0 v1
def Cn (q:YF) (a:Rw bK) (X:Rj):Rj:=⟨fun v0=>Bi q a (qx X) v0,
 fun v0 v1=>zK q a (oF X) (qx X) v0 v1⟩
def ka (q:YF) (a:Rw bK):Nat→Rj
 | 0=>⟨fun _=>none,fun _ _=>none⟩
 | n+1=>Cn q a (ka q a n)
theorem Zf (q:YF) (a:Rw bK) (kk:PK S):yj a (aei q kk)=Bi q a (yT a kk):=by
 kernel_rfl
theorem Y0 (q:YF) (a:Rw bK) (kk:PK S):yT a (aei q kk)=zK q a (yj a kk) (yT a kk):=by
 kernel_rfl
theorem Vg (q:YF) (a:Rw bK) (kk:PK S):BG q kk 127 Tryz.f127 [S.t (T.rows 4 a.n fun i=>cL (a.get i))]=AT q a (yj a kk):=by
 kernel_rfl
theorem ae8 (q:YF) (a:Rw bK):∀ n,yj a (Ni q n)=oF (ka q a n)∧yT a (Ni q n)=qx (ka q a n)
 | 0=>⟨rfl,rfl⟩
 | n+1=>by
  obtain ⟨h0,h1⟩:=ae8 q a n
  exact ⟨(Zf q a (Ni q n)).trans (by rw [h1];kernel_rfl),(Y0 q a (Ni q n)).trans (by rw [h0,h1];kernel_rfl)⟩
theorem akc (a:Rw bK) (n:Nat) (x:S) (h:AT (aa O) a (oF (ka (aa O) a n))=some x):(W O).aE 127 [S.t (T.rows 4 a.n fun i=>cL (a.get i))]=some x:=by
 refine WG (fn:=Tryz.f127) (by kernel_rfl) (by kernel_rfl) (n:=n) ?_
 refine (Vg (aa O) a (Ni (aa O) n)).trans ?_
 obtain ⟨h0,h1⟩:=ae8 (aa O) a n
 rw [h0]
 exact h
abbrev aiG (q:YF) (kk:PK S):PK S:=PG q 128 Tryz.f128 kk
abbrev aab (q:YF):Nat→PK S:=HG q 128 Tryz.f128
def yf (a:Rw dC) (kk:PK S):Int→OS:=fun v0=> kk 2 0 0 (aJ [(0,S.t (T.rows 4 a.n fun i=>eL (a.get i))),(3,ii v0)] 0 [])
def zy (q:YF) (a:Rw dC) (k0:Int→OS) (v0:Int):OS:=bif bm v0 (ay a.n) then aU v0 a.n fun h=>yC q 162 [ag (eL (a.get (Fin.mk v0.toNat h)))] fun y=>bif !aR (y.i 6) 0 then some (ii (y.i 6)) else k0 (a7 .i64 v0 1) else some (ii 0)
def Lt (q:YF) (a:Rw dC) (k0:Int→OS):OS:=k0 0
structure UB where
 x0:Int→OS
def zI (X:UB):Int→OS:=fun v0=>X.x0 v0
def QE (q:YF) (a:Rw dC) (X:UB):UB:=⟨fun v0=>zy q a (zI X) v0⟩
def rC (q:YF) (a:Rw dC):Nat→UB
 | 0=>⟨fun _=>none⟩
 | n+1=>QE q a (rC q a n)
theorem Zo (q:YF) (a:Rw dC) (kk:PK S):yf a (aiG q kk)=zy q a (yf a kk):=by
 kernel_rfl
theorem UJ (q:YF) (a:Rw dC) (kk:PK S):BG q kk 128 Tryz.f128 [S.t (T.rows 4 a.n fun i=>eL (a.get i))]=Lt q a (yf a kk):=by
 kernel_rfl
theorem adm (q:YF) (a:Rw dC):∀ n,yf a (aab q n)=zI (rC q a n)
 | 0=>rfl
 | n+1=>by
  have h0:=adm q a n
  exact (Zo q a (aab q n)).trans (by rw [h0];kernel_rfl)
theorem ait (a:Rw dC) (n:Nat) (x:S) (h:Lt (aa O) a (zI (rC (aa O) a n))=some x):(W O).aE 128 [S.t (T.rows 4 a.n fun i=>eL (a.get i))]=some x:=by
 refine WG (fn:=Tryz.f128) (by kernel_rfl) (by kernel_rfl) (n:=n) ?_
 refine (UJ (aa O) a (aab (aa O) n)).trans ?_
 have h0:=adm (aa O) a n
 rw [h0]
 exact h
abbrev ah8 (q:YF) (kk:PK S):PK S:=PG q 129 Tryz.f129 kk
abbrev YL (q:YF):Nat→PK S:=HG q 129 Tryz.f129
abbrev T129_0:Type:=Bool→Int→Bool→Int→Bool→Int→Bool→Bool→Bool→Bool→Int→Bool→Bool→S→OS
def Gr (a:BA) (kk:PK S):T129_0:=fun v0 u1 u2 u3 u4 u5 u6 u7 u8 u9 u10 u11 u12 u13=> kk 3 5 11 (aJ [(0,ss a),(16,bb v0),(8,S.bJ [ii u1,bb u2]),(4,ii u3),(12,bb u4),(2,bb false),(10,S.bJ [ii u5,bb u6]),(6,ss a),(14,bb u12),(9,ss a),(5,bb u7),(13,bb u8),(3,bb u9),(11,ii u10),(7,bb u11),(15,u13)] 16 [])
def Ff (q:YF) (a:BA):T129_0:=fun v0 u1 u2 u3 u4 u5 u6 u7 u8 u9 u10 u11 u12 u13=>some (bb v0)
def zt (q:YF) (a:BA) (k0:T129_0):OS:=yC q 71 [ss a] fun y=>yC q 163 [ss a] fun y_1=>bif y.b 0 then k0 true (y_1.i 0) (y_1.b 1) (y_1.i 0) (y_1.b 1) (y_1.i 0) (y_1.b 1) (y_1.b 1) (y.b 0) (y.b 0) (y_1.i 0) (y.b 0) true S.ud else k0 (y_1.b 1) (y_1.i 0) (y_1.b 1) (y_1.i 0) (y_1.b 1) (y_1.i 0) (y_1.b 1) (y_1.b 1) (y.b 0) (y.b 0) (y_1.i 0) (y.b 0) false (bb (y_1.b 1))
structure VA where
 x0:Bool→OS
def Fb (X:VA):T129_0:=fun v0 _ _ _ _ _ _ _ _ _ _ _ _ _=>X.x0 v0
def XI (q:YF) (a:BA) (X:VA):VA:=⟨fun v0=>Ff q a v0 dd dd dd dd dd dd dd dd dd dd dd dd dd⟩
def Jl (q:YF) (a:BA):Nat→VA
 | 0=>⟨fun _=>none⟩
 | n+1=>XI q a (Jl q a n)
theorem aap (q:YF) (a:BA) (kk:PK S):Gr a (ah8 q kk)=Ff q a:=by
 kernel_rfl
theorem UN (q:YF) (a:BA) (kk:PK S):BG q kk 129 Tryz.f129 [ss a]=zt q a (Gr a kk):=by
 kernel_rfl
theorem afa (q:YF) (a:BA):∀ n,Gr a (YL q n)=Fb (Jl q a n)
 | 0=>rfl
 | n+1=>by
  have h0:=afa q a n
  exact (aap q a (YL q n)).trans (by kernel_rfl)
theorem ajW (a:BA) (n:Nat) (x:S) (h:zt (aa O) a (Fb (Jl (aa O) a n))=some x):(W O).aE 129 [ss a]=some x:=by
 refine WG (fn:=Tryz.f129) (by kernel_rfl) (by kernel_rfl) (n:=n) ?_
 refine (UN (aa O) a (YL (aa O) n)).trans ?_
 have h0:=afa (aa O) a n
 rw [h0]
 exact h
abbrev agO (q:YF) (kk:PK S):PK S:=PG q 130 Tryz.f130 kk
abbrev NG (q:YF):Nat→PK S:=HG q 130 Tryz.f130
abbrev T130_0:Type:=Bool→Bool→S→Bool→S→S→OS
def Hf (a:bu) (kk:PK S):T130_0:=fun v0 u1 u2 u3 u4 u5=> kk 1 9 2 (aJ [(0,ag (bS a)),(8,u2),(4,ss a.fType),(2,bb false),(10,bb v0),(6,bb u3),(1,S.ptr 0 0),(9,u4),(5,bb u1),(3,S.ptr 0 0),(7,u5)] 16 [(0,B.box (List.map S.t (bS a)))])
abbrev T130_1:Type:=Bool→S→Bool→Bool→S→Bool→S→S→S→S→Bool→OS
def GY (a:bu) (kk:PK S):T130_1:=fun v0 u1 u2 u3 u4 u5 u6 u7 u8 u9 u10=> kk 1 14 2 (aJ [(0,ag (bS a)),(8,u1),(4,ss a.fType),(12,u7),(2,bb false),(10,bb u2),(6,bb u3),(14,u8),(1,S.ptr 0 0),(9,u4),(5,bb u5),(13,u9),(3,S.ptr 0 0),(11,bb u10),(7,u6),(15,bb v0)] 16 [(0,B.box (List.map S.t (bS a)))])
def Ez (q:YF) (a:bu) (k1:T130_1):T130_0:=fun v0 u1 u2 u3 u4 u5=>bif v0 then yC q 71 [ss a.bn] fun y=>k1 (y.b 0) u2 v0 u3 u4 u1 u5 (S.ptr 0 2) (bb (y.b 0)) (ss a.bn) true else k1 false u2 v0 u3 u4 u1 u5 S.ud S.ud S.ud false
def EO (q:YF) (a:bu):T130_1:=fun v0 u1 u2 u3 u4 u5 u6 u7 u8 u9 u10=>some (bb v0)
def yL (q:YF) (a:bu) (k0:T130_0):OS:=yC q 71 [ss a.fType] fun y=>bif y.b 0 then yC q 71 [ss a.bj] fun y_1=>k0 (y_1.b 0) (y.b 0) (ss a.bj) true (bb (y_1.b 0)) (S.ptr 0 1) else k0 false (y.b 0) S.ud false S.ud S.ud
structure TH where
 x0:Bool→OS
 x1:Bool→OS
def GK (X:TH):T130_0:=fun v0 _ _ _ _ _=>X.x0 v0
def EE (X:TH):T130_1:=fun v0 _ _ _ _ _ _ _ _ _ _=>X.x1 v0
def Xz (q:YF) (a:bu) (X:TH):TH:=⟨fun v0=>Ez q a (EE X) v0 dd dd dd dd dd,
 fun v0=>EO q a v0 dd dd dd dd dd dd dd dd dd dd⟩
def DV (q:YF) (a:bu):Nat→TH
 | 0=>⟨fun _=>none,fun _=>none⟩
 | n+1=>Xz q a (DV q a n)
theorem aaW (q:YF) (a:bu) (kk:PK S):Hf a (agO q kk)=Ez q a (GY a kk):=by
 kernel_rfl
theorem abe (q:YF) (a:bu) (kk:PK S):GY a (agO q kk)=EO q a:=by
 kernel_rfl
theorem VM (q:YF) (a:bu) (kk:PK S):BG q kk 130 Tryz.f130 [ag (bS a)]=yL q a (Hf a kk):=by
 kernel_rfl
theorem aek (q:YF) (a:bu):∀ n,Hf a (NG q n)=GK (DV q a n)∧GY a (NG q n)=EE (DV q a n)
 | 0=>⟨rfl,rfl⟩
 | n+1=>by
  obtain ⟨h0,h1⟩:=aek q a n
  exact ⟨(aaW q a (NG q n)).trans (by rw [h1];kernel_rfl),(abe q a (NG q n)).trans (by kernel_rfl)⟩
theorem ajz (a:bu) (n:Nat) (x:S) (h:yL (aa O) a (GK (DV (aa O) a n))=some x):(W O).aE 130 [ag (bS a)]=some x:=by
 refine WG (fn:=Tryz.f130) (by kernel_rfl) (by kernel_rfl) (n:=n) ?_
 refine (VM (aa O) a (NG (aa O) n)).trans ?_
 obtain ⟨h0,h1⟩:=aek (aa O) a n
 rw [h0]
 exact h
abbrev aeT (q:YF) (kk:PK S):PK S:=PG q 131 Tryz.f131 kk
abbrev TO (q:YF):Nat→PK S:=HG q 131 Tryz.f131
def yi (a:Rw bu) (kk:PK S):Int→OS:=fun v0=> kk 4 0 0 (aJ [(0,S.t (T.rows 3 a.n fun i=>bS (a.get i))),(12,ii v0),(10,S.t (T.rows 3 a.n fun i=>bS (a.get i))),(11,ii (ay a.n))] 0 [])
abbrev T131_1:Type:=(Rw bu)→bu→Int→Int→Int→OS
def xV (a:Rw bu) (kk:PK S):T131_1:=fun v0 v1 v2 v3 v4=> kk 9 0 0 (aJ [(0,S.t (T.rows 3 a.n fun i=>bS (a.get i))),(24,ii v4),(4,S.ptr 0 0),(12,ii v2),(10,S.t (T.rows 3 a.n fun i=>bS (a.get i))),(22,S.t (T.rows 3 v0.n fun i=>bS (v0.get i))),(11,ii (ay a.n)),(23,ii v3)] 1 [(0,B.box (List.map S.t (bS v1)))])
def yG (q:YF) (a:Rw bu) (k1:T131_1) (v0:Int):OS:=bif bm v0 (ay a.n) then aU v0 a.n fun h=>yC q 130 [ag (bS (a.get (Fin.mk v0.toNat h)))] fun y=>bif !y.b 0 then some (ii 7) else bif bp 0 v0 && bp v0 (ay a.n) then iE 0 (cK v0) a.n fun h_1=>k1 (Rw.mk (cK v0) fun i=>a.get (Fin.mk (0+↑i) (by first | omega | (have:=i.2;omega) | (have:=i_1.2;omega)))) (a.get (Fin.mk v0.toNat h)) v0 (ay (cK v0)) 0 else none else some (ii 0)
def Aa (q:YF) (a:Rw bu) (k0:Int→OS) (k1:T131_1):T131_1:=fun v0 v1 v2 v3 v4=>bif bm v4 v3 then aU v4 v0.n fun h=>bif ah (v0.get (Fin.mk v4.toNat h)).fType v1.fType && (ah (v0.get (Fin.mk v4.toNat h)).bj v1.bj && (ah (v0.get (Fin.mk v4.toNat h)).bn v1.bn && true)) then some (ii 6) else k1 v0 v1 v2 v3 (a7 .i64 v4 1) else k0 (a7 .i64 v2 1)
def Aq (q:YF) (a:Rw bu) (k0:Int→OS):OS:=bif bl (ay a.n) 72 then some (ii 3) else k0 0
structure OJ where
 x0:Int→OS
 x1:(Rw bu)→bu→Int→Int→Int→OS
def nV (X:OJ):Int→OS:=fun v0=>X.x0 v0
def qJ (X:OJ):T131_1:=fun v0 v1 v2 v3 v4=>X.x1 v0 v1 v2 v3 v4
def D4 (q:YF) (a:Rw bu) (X:OJ):OJ:=⟨fun v0=>yG q a (qJ X) v0,
 fun v0 v1 v2 v3 v4=>Aa q a (nV X) (qJ X) v0 v1 v2 v3 v4⟩
def kd (q:YF) (a:Rw bu):Nat→OJ
 | 0=>⟨fun _=>none,fun _ _ _ _ _=>none⟩
 | n+1=>D4 q a (kd q a n)
theorem abk (q:YF) (a:Rw bu) (kk:PK S):yi a (aeT q kk)=yG q a (xV a kk):=by
 kernel_rfl
theorem Zy (q:YF) (a:Rw bu) (kk:PK S):xV a (aeT q kk)=Aa q a (yi a kk) (xV a kk):=by
 kernel_rfl
theorem Wi (q:YF) (a:Rw bu) (kk:PK S):BG q kk 131 Tryz.f131 [S.t (T.rows 3 a.n fun i=>bS (a.get i))]=Aq q a (yi a kk):=by
 kernel_rfl
theorem ae6 (q:YF) (a:Rw bu):∀ n,yi a (TO q n)=nV (kd q a n)∧xV a (TO q n)=qJ (kd q a n)
 | 0=>⟨rfl,rfl⟩
 | n+1=>by
  obtain ⟨h0,h1⟩:=ae6 q a n
  exact ⟨(abk q a (TO q n)).trans (by rw [h1];kernel_rfl),(Zy q a (TO q n)).trans (by rw [h0,h1];kernel_rfl)⟩
theorem ah7 (a:Rw bu) (n:Nat) (x:S) (h:Aq (aa O) a (nV (kd (aa O) a n))=some x):(W O).aE 131 [S.t (T.rows 3 a.n fun i=>bS (a.get i))]=some x:=by
 refine WG (fn:=Tryz.f131) (by kernel_rfl) (by kernel_rfl) (n:=n) ?_
 refine (Wi (aa O) a (TO (aa O) n)).trans ?_
 obtain ⟨h0,h1⟩:=ae6 (aa O) a n
 rw [h0]
 exact h
abbrev aji (q:YF):Nat→PK S:=HG q 132 Tryz.f132
def Bj (q:YF) (a:cr) (b:cr):OS:=yC q 48 [ag (ew a),ag (ew b)] fun y=>bif !aR (y.i 0) 0 then some (S.bJ [S.agg [ii 0,ii 0],ii (y.i 0)]) else bif bl b.fW a.fW then some (S.bJ [S.agg [ii 0,ii 0],ii 11]) else bif bl b.gK a.gK then some (S.bJ [S.agg [ii 0,ii 0],ii 11]) else some (S.bJ [S.agg [ii (bF .i64 a.fW b.fW),ii (bF .i64 a.gK b.gK)],ii 0])
theorem VL (q:YF) (a:cr) (b:cr) (kk:PK S):BG q kk 132 Tryz.f132 [ag (ew a),ag (ew b)]=Bj q a b:=by
 kernel_rfl
theorem ai0 (a:cr) (b:cr) (n:Nat) (x:S) (h:Bj (aa O) a b=some x):(W O).aE 132 [ag (ew a),ag (ew b)]=some x:=by
 refine WG (fn:=Tryz.f132) (by kernel_rfl) (by kernel_rfl) (n:=n) ?_
 refine (VL (aa O) a b (aji (aa O) n)).trans ?_
 exact h
abbrev aiW (q:YF):Nat→PK S:=HG q 143 Tryz.f143
def Bt (q:YF) (a:cr) (b:cr):OS:=yC q 102 [ag (ew a)] fun y=>bif !aR (y.i 0) 0 then some (ii (y.i 0)) else yC q 102 [ag (ew b)] fun y=>some (ii (y.i 0))
theorem VB (q:YF) (a:cr) (b:cr) (kk:PK S):BG q kk 143 Tryz.f143 [ag (ew a),ag (ew b)]=Bt q a b:=by
 kernel_rfl
theorem ajf (a:cr) (b:cr) (n:Nat) (x:S) (h:Bt (aa O) a b=some x):(W O).aE 143 [ag (ew a),ag (ew b)]=some x:=by
 refine WG (fn:=Tryz.f143) (by kernel_rfl) (by kernel_rfl) (n:=n) ?_
 refine (VB (aa O) a b (aiW (aa O) n)).trans ?_
 exact h
abbrev ZG (q:YF) (kk:PK S):PK S:=PG q 144 Tryz.f144 kk
abbrev EN (q:YF):Nat→PK S:=HG q 144 Tryz.f144
def EI (a:cr) (b:cr) (kk:PK S):OS:=kk 2 0 0 (aJ [(4,S.ptr 2 0),(2,S.ptr 0 0),(6,ii 0),(3,S.ptr 1 0)] 3 [(0,B.box (List.map S.t (ew a))),(2,B.box [ii 0,ii 0]),(1,B.box (List.map S.t (ew b)))])
def Ga (a:cr) (b:cr) (kk:PK S):OS:=kk 2 0 0 (aJ [(4,S.ptr 2 0),(2,S.ptr 0 0),(6,ii 1),(3,S.ptr 1 0)] 3 [(0,B.box [ii (Bool.rec ((fun _=>a.fW) ()) ((fun _=>b.fW) ()) (decide (b.fW < a.fW))),ii a.gK]),(2,B.box [ii 0,ii 0]),(1,B.box (List.map S.t (ew b)))])
def Gw (a:cr) (b:cr) (kk:PK S):OS:=kk 2 0 0 (aJ [(4,S.ptr 2 0),(2,S.ptr 0 0),(6,ii 2),(3,S.ptr 1 0)] 3 [(0,B.box [ii (Bool.rec ((fun _=>a.fW) ()) ((fun _=>b.fW) ()) (decide (b.fW < a.fW))),ii (Bool.rec ((fun _=>a.gK) ()) ((fun _=>b.gK) ()) (decide (b.gK < a.gK)))]),(2,B.box [ii 0,ii 0]),(1,B.box (List.map S.t (ew b)))])
def Ei (q:YF) (a:cr) (b:cr) (k1:OS):OS:=k1
def FI (q:YF) (a:cr) (b:cr) (k2:OS):OS:=k2
def Fh (q:YF) (a:cr) (b:cr):OS:=some (S.agg [ii (Bool.rec ((fun _=>a.fW) ()) ((fun _=>b.fW) ()) (decide (b.fW < a.fW))),ii (Bool.rec ((fun _=>a.gK) ()) ((fun _=>b.gK) ()) (decide (b.gK < a.gK)))])
def Aw (q:YF) (a:cr) (b:cr) (k0:OS):OS:=k0
structure Mr where
 x0:OS
 x1:OS
 x2:OS
def EF (X:Mr):OS:=X.x0
def Hl (X:Mr):OS:=X.x1
def Hq (X:Mr):OS:=X.x2
def Yk (q:YF) (a:cr) (b:cr) (X:Mr):Mr:=⟨Ei q a b (Hl X),
 FI q a b (Hq X),
 Fh q a b⟩
def wE (q:YF) (a:cr) (b:cr):Nat→Mr
 | 0=>⟨none,none,none⟩
 | n+1=>Yk q a b (wE q a b n)
theorem abg (q:YF) (a:cr) (b:cr) (kk:PK S):EI a b (ZG q kk)=Ei q a b (Ga a b kk):=by
 kernel_rfl
theorem ZW (q:YF) (a:cr) (b:cr) (kk:PK S):Ga a b (ZG q kk)=FI q a b (Gw a b kk):=by
 kernel_rfl
theorem acw (q:YF) (a:cr) (b:cr) (kk:PK S):Gw a b (ZG q kk)=Fh q a b:=by
 kernel_rfl
theorem V0 (q:YF) (a:cr) (b:cr) (kk:PK S):BG q kk 144 Tryz.f144 [ag (ew a),ag (ew b)]=Aw q a b (EI a b kk):=by
 kernel_rfl
theorem ael (q:YF) (a:cr) (b:cr):∀ n,EI a b (EN q n)=EF (wE q a b n)∧Ga a b (EN q n)=Hl (wE q a b n)∧Gw a b (EN q n)=Hq (wE q a b n)
 | 0=>⟨rfl,rfl,rfl⟩
 | n+1=>by
  obtain ⟨h0,h1,h2⟩:=ael q a b n
  exact ⟨(abg q a b (EN q n)).trans (by rw [h1];kernel_rfl),(ZW q a b (EN q n)).trans (by rw [h2];kernel_rfl),(acw q a b (EN q n)).trans (by kernel_rfl)⟩
theorem ahV (a:cr) (b:cr) (n:Nat) (x:S) (h:Aw (aa O) a b (EF (wE (aa O) a b n))=some x):(W O).aE 144 [ag (ew a),ag (ew b)]=some x:=by
 refine WG (fn:=Tryz.f144) (by kernel_rfl) (by kernel_rfl) (n:=n) ?_
 refine (V0 (aa O) a b (EN (aa O) n)).trans ?_
 obtain ⟨h0,h1,h2⟩:=ael (aa O) a b n
 rw [h0]
 exact h
end
end Go.Proofs.YtonkoellfaopiaaGreatDoor.H
