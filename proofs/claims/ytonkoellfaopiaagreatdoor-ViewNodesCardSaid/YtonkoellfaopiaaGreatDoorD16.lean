import Derived.Test.YtonkoellfaopiaaGreatDoorD9
set_option linter.unusedSimpArgs false
set_option linter.unusedVariables false
set_option linter.unusedSectionVars false
namespace Go.Proofs.YtonkoellfaopiaaGreatDoor.H
open Go
noncomputable section
abbrev akk (q:YF):Nat→PK S:=HG q 145 Tryz.f145
def Ar (q:YF) (a:Rw BA) (b:BA):OS:=yC q 182 [S.t (T.rows 1 a.n fun i=>[ts (a.get i)]),ss b] fun y=>some (bb (cT (y.i 0) 0))
theorem UY (q:YF) (a:Rw BA) (b:BA) (kk:PK S):BG q kk 145 Tryz.f145 [S.t (T.rows 1 a.n fun i=>e9 (a.get i)),ss b]=Ar q a b:=by
 kernel_rfl
theorem aje (a:Rw BA) (b:BA) (n:Nat) (x:S) (h:Ar (aa O) a b=some x):(W O).aE 145 [S.t (T.rows 1 a.n fun i=>e9 (a.get i)),ss b]=some x:=by
 refine WG (fn:=Tryz.f145) (by kernel_rfl) (by kernel_rfl) (n:=n) ?_
 refine (UY (aa O) a b (akk (aa O) n)).trans ?_
 exact h
abbrev ajO (q:YF) (kk:PK S):PK S:=PG q 146 Tryz.f146 kk
abbrev aaM (q:YF):Nat→PK S:=HG q 146 Tryz.f146
abbrev T146_0:Type:=Bool→Int→Bool→Int→Bool→Int→Bool→Int→Bool→Bool→Bool→S→S→OS
def It (a:BA) (kk:PK S):T146_0:=fun v0 u1 u2 u3 u4 u5 u6 u7 u8 u9 u10 u11 u12=> kk 2 6 8 (aJ [(0,ss a),(2,bb false),(3,ii u1),(4,bb u2),(5,S.bJ [ii u3,bb u4]),(6,ss a),(7,S.bJ [ii u5,bb u6]),(8,ii u7),(9,bb u8),(10,bb u9),(11,bb u10),(12,u11),(13,u12),(14,bb v0)] 14 [])
def FM (q:YF) (a:BA):T146_0:=fun v0 u1 u2 u3 u4 u5 u6 u7 u8 u9 u10 u11 u12=>some (bb v0)
def yS (q:YF) (a:BA) (k0:T146_0):OS:=yC q 183 [ss a] fun y=>bif y.b 1 then k0 true (y.i 0) (y.b 1) (y.i 0) (y.b 1) (y.i 0) (y.b 1) (y.i 0) (y.b 1) (y.b 1) true S.ud S.ud else yC q 101 [ss a] fun y_1=>k0 (y_1.b 0) (y.i 0) (y.b 1) (y.i 0) (y.b 1) (y.i 0) (y.b 1) (y.i 0) (y.b 1) (y.b 1) false (ss a) (bb (y_1.b 0))
structure WB where
 x0:Bool→OS
def F8 (X:WB):T146_0:=fun v0 _ _ _ _ _ _ _ _ _ _ _ _=>X.x0 v0
def XM (q:YF) (a:BA) (X:WB):WB:=⟨fun v0=>FM q a v0 dd dd dd dd dd dd dd dd dd dd dd dd⟩
def Lj (q:YF) (a:BA):Nat→WB
 | 0=>⟨fun _=>none⟩
 | n+1=>XM q a (Lj q a n)
theorem abc (q:YF) (a:BA) (kk:PK S):It a (ajO q kk)=FM q a:=by
 kernel_rfl
theorem Uo (q:YF) (a:BA) (kk:PK S):BG q kk 146 Tryz.f146 [ss a]=yS q a (It a kk):=by
 kernel_rfl
theorem ag8 (q:YF) (a:BA):∀ n,It a (aaM q n)=F8 (Lj q a n)
 | 0=>rfl
 | n+1=>by
  have h0:=ag8 q a n
  exact (abc q a (aaM q n)).trans (by kernel_rfl)
theorem aii (a:BA) (n:Nat) (x:S) (h:yS (aa O) a (F8 (Lj (aa O) a n))=some x):(W O).aE 146 [ss a]=some x:=by
 refine WG (fn:=Tryz.f146) (by kernel_rfl) (by kernel_rfl) (n:=n) ?_
 refine (Uo (aa O) a (aaM (aa O) n)).trans ?_
 have h0:=ag8 (aa O) a n
 rw [h0]
 exact h
abbrev aka (q:YF):Nat→PK S:=HG q 147 Tryz.f147
def yy (q:YF) (a:Rw ch) (b:ch):OS:=yC q 184 [S.t (T.rows 2 a.n fun i=>dv (a.get i)),S.fn (Go.Fn.func 148) [] [S.pt (dv b)]] fun y=>some (bb (cT (y.i 0) 0))
theorem WT (q:YF) (a:Rw ch) (b:ch) (kk:PK S):BG q kk 147 Tryz.f147 [S.t (T.rows 2 a.n fun i=>dv (a.get i)),S.fn (Go.Fn.func 148) [] [S.pt (dv b)]]=yy q a b:=by
 kernel_rfl
theorem ahS (a:Rw ch) (b:ch) (n:Nat) (x:S) (h:yy (aa O) a b=some x):(W O).aE 147 [S.t (T.rows 2 a.n fun i=>dv (a.get i)),S.fn (Go.Fn.func 148) [] [S.pt (dv b)]]=some x:=by
 refine WG (fn:=Tryz.f147) (by kernel_rfl) (by kernel_rfl) (n:=n) ?_
 refine (WT (aa O) a b (aka (aa O) n)).trans ?_
 exact h
abbrev aeW (q:YF):Nat→PK S:=HG q 147 Tryz.f147
def uQ (q:YF) (a:Rw ch) (b:ch):OS:=yC q 184 [S.t (T.rows 2 a.n fun i=>dv (a.get i)),S.fn (Go.Fn.func 154) [] [S.pt (dv b)]] fun y=>some (bb (cT (y.i 0) 0))
theorem Rk (q:YF) (a:Rw ch) (b:ch) (kk:PK S):BG q kk 147 Tryz.f147 [S.t (T.rows 2 a.n fun i=>dv (a.get i)),S.fn (Go.Fn.func 154) [] [S.pt (dv b)]]=uQ q a b:=by
 kernel_rfl
theorem ad0 (a:Rw ch) (b:ch) (n:Nat) (x:S) (h:uQ (aa O) a b=some x):(W O).aE 147 [S.t (T.rows 2 a.n fun i=>dv (a.get i)),S.fn (Go.Fn.func 154) [] [S.pt (dv b)]]=some x:=by
 refine WG (fn:=Tryz.f147) (by kernel_rfl) (by kernel_rfl) (n:=n) ?_
 refine (Rk (aa O) a b (aeW (aa O) n)).trans ?_
 exact h
abbrev ajF (q:YF):Nat→PK S:=HG q 148 Tryz.f148
def Lo (q:YF) (a:ch) (b:ch):OS:=some (bb (ah a.aZ b.aZ))
theorem UX (q:YF) (a:ch) (b:ch) (kk:PK S):BG q kk 148 Tryz.f148 [ag (dv a),S.pt (dv b)]=Lo q a b:=by
 kernel_rfl
theorem ajn (a:ch) (b:ch) (n:Nat) (x:S) (h:Lo (aa O) a b=some x):(W O).aE 148 [ag (dv a),S.pt (dv b)]=some x:=by
 refine WG (fn:=Tryz.f148) (by kernel_rfl) (by kernel_rfl) (n:=n) ?_
 refine (UX (aa O) a b (ajF (aa O) n)).trans ?_
 exact h
abbrev ah9 (q:YF):Nat→PK S:=HG q 149 Tryz.f149
def yH (q:YF) (a:Rw bK) (b:bK):OS:=yC q 185 [S.t (T.rows 4 a.n fun i=>cL (a.get i)),S.fn (Go.Fn.func 150) [] [S.pt (cL b)]] fun y=>some (bb (cT (y.i 0) 0))
theorem V4 (q:YF) (a:Rw bK) (b:bK) (kk:PK S):BG q kk 149 Tryz.f149 [S.t (T.rows 4 a.n fun i=>cL (a.get i)),S.fn (Go.Fn.func 150) [] [S.pt (cL b)]]=yH q a b:=by
 kernel_rfl
theorem aid (a:Rw bK) (b:bK) (n:Nat) (x:S) (h:yH (aa O) a b=some x):(W O).aE 149 [S.t (T.rows 4 a.n fun i=>cL (a.get i)),S.fn (Go.Fn.func 150) [] [S.pt (cL b)]]=some x:=by
 refine WG (fn:=Tryz.f149) (by kernel_rfl) (by kernel_rfl) (n:=n) ?_
 refine (V4 (aa O) a b (ah9 (aa O) n)).trans ?_
 exact h
abbrev ahM (q:YF) (kk:PK S):PK S:=PG q 150 Tryz.f150 kk
abbrev Y8 (q:YF):Nat→PK S:=HG q 150 Tryz.f150
abbrev T150_0:Type:=Bool→S→S→S→Bool→S→S→OS
def Eh (a:bK) (b:bK) (kk:PK S):T150_0:=fun v0 u1 u2 u3 u4 u5 u6=> kk 1 13 2 (aJ [(0,ag (cL a)),(8,bb (ah a.bj b.bj)),(4,S.ptr 0 0),(12,u1),(2,S.ptr 0 0),(10,u2),(6,S.pt (cL b)),(14,u3),(1,S.pt (cL b)),(9,bb u4),(5,ss a.bj),(13,u5),(3,bb false),(11,u6),(7,ss b.bj),(15,bb v0)] 15 [(0,B.box (List.map S.t (cL a)))])
def Rs (q:YF) (a:bK) (b:bK):T150_0:=fun v0 u1 u2 u3 u4 u5 u6=>some (bb v0)
def Ap (q:YF) (a:bK) (b:bK) (k0:T150_0):OS:=bif ah a.bj b.bj then k0 (ah a.bn b.bn) (S.pt [ts b.bn,ti b.bG,tb b.CB]) (S.ptr 0 1) (bb (ah a.bn b.bn)) true (ss b.bn) (ss a.bn) else k0 false S.ud S.ud S.ud false S.ud S.ud
structure Vk where
 x0:Bool→OS
def O0 (X:Vk):T150_0:=fun v0 _ _ _ _ _ _=>X.x0 v0
def af8 (q:YF) (a:bK) (b:bK) (X:Vk):Vk:=⟨fun v0=>Rs q a b v0 dd dd dd dd dd dd⟩
def RZ (q:YF) (a:bK) (b:bK):Nat→Vk
 | 0=>⟨fun _=>none⟩
 | n+1=>af8 q a b (RZ q a b n)
theorem ach (q:YF) (a:bK) (b:bK) (kk:PK S):Eh a b (ahM q kk)=Rs q a b:=by
 kernel_rfl
theorem Um (q:YF) (a:bK) (b:bK) (kk:PK S):BG q kk 150 Tryz.f150 [ag (cL a),S.pt (cL b)]=Ap q a b (Eh a b kk):=by
 kernel_rfl
theorem ahJ (q:YF) (a:bK) (b:bK):∀ n,Eh a b (Y8 q n)=O0 (RZ q a b n)
 | 0=>rfl
 | n+1=>by
  have h0:=ahJ q a b n
  exact (ach q a b (Y8 q n)).trans (by kernel_rfl)
theorem ain (a:bK) (b:bK) (n:Nat) (x:S) (h:Ap (aa O) a b (O0 (RZ (aa O) a b n))=some x):(W O).aE 150 [ag (cL a),S.pt (cL b)]=some x:=by
 refine WG (fn:=Tryz.f150) (by kernel_rfl) (by kernel_rfl) (n:=n) ?_
 refine (Um (aa O) a b (Y8 (aa O) n)).trans ?_
 have h0:=ahJ (aa O) a b n
 rw [h0]
 exact h
abbrev ajt (q:YF):Nat→PK S:=HG q 151 Tryz.f151
def yk (q:YF) (a:Rw BA):OS:=yC q 186 [S.t (T.rows 1 a.n fun i=>[ts (a.get i)]),S.t (T.v (.func (Go.Fn.func 152) #[] #[]))] fun y=>some (bb (cT (y.i 0) 0))
theorem Wd (q:YF) (a:Rw BA) (kk:PK S):BG q kk 151 Tryz.f151 [S.t (T.rows 1 a.n fun i=>[ts (a.get i)]),S.t (T.v (.func (Go.Fn.func 152) #[] #[]))]=yk q a:=by
 kernel_rfl
theorem aiY (a:Rw BA) (n:Nat) (x:S) (h:yk (aa O) a=some x):(W O).aE 151 [S.t (T.rows 1 a.n fun i=>[ts (a.get i)]),S.t (T.v (.func (Go.Fn.func 152) #[] #[]))]=some x:=by
 refine WG (fn:=Tryz.f151) (by kernel_rfl) (by kernel_rfl) (n:=n) ?_
 refine (Wd (aa O) a (ajt (aa O) n)).trans ?_
 exact h
abbrev aef (q:YF):Nat→PK S:=HG q 151 Tryz.f151
def vb (q:YF) (a:Rw BA):OS:=yC q 186 [S.t (T.rows 1 a.n fun i=>[ts (a.get i)]),S.t (T.v (.func (Go.Fn.func 229) #[] #[]))] fun y=>some (bb (cT (y.i 0) 0))
theorem Ng (q:YF) (a:Rw BA) (kk:PK S):BG q kk 151 Tryz.f151 [S.t (T.rows 1 a.n fun i=>[ts (a.get i)]),S.t (T.v (.func (Go.Fn.func 229) #[] #[]))]=vb q a:=by
 kernel_rfl
theorem adt (a:Rw BA) (n:Nat) (x:S) (h:vb (aa O) a=some x):(W O).aE 151 [S.t (T.rows 1 a.n fun i=>[ts (a.get i)]),S.t (T.v (.func (Go.Fn.func 229) #[] #[]))]=some x:=by
 refine WG (fn:=Tryz.f151) (by kernel_rfl) (by kernel_rfl) (n:=n) ?_
 refine (Ng (aa O) a (aef (aa O) n)).trans ?_
 exact h
abbrev ai9 (q:YF):Nat→PK S:=HG q 152 Tryz.f152
def zZ (q:YF) (a:BA):OS:=yC q 101 [ss a] fun y=>some (S.t (T.v (.bool !y.b 0)))
theorem Va (q:YF) (a:BA) (kk:PK S):BG q kk 152 Tryz.f152 [ss a]=zZ q a:=by
 kernel_rfl
theorem ah4 (a:BA) (n:Nat) (x:S) (h:zZ (aa O) a=some x):(W O).aE 152 [ss a]=some x:=by
 refine WG (fn:=Tryz.f152) (by kernel_rfl) (by kernel_rfl) (n:=n) ?_
 refine (Va (aa O) a (ai9 (aa O) n)).trans ?_
 exact h
abbrev ad5 (q:YF) (kk:PK S):PK S:=PG q 153 Tryz.f153 kk
abbrev RS (q:YF):Nat→PK S:=HG q 153 Tryz.f153
def E9 (a:Rw dC) (b:Int) (kk:PK S):OS:=kk 5 0 0 (aJ [(16,ii (ay a.n)),(6,S.t (T.v (.slice none 0 0))),(17,ii 0),(15,S.t (T.rows 4 a.n fun i=>eL (a.get i)))] 0 [])
abbrev T153_1:Type:=bN→Int→Nat→OS
def AV (a:Rw dC) (b:Int) (kk:PK S):T153_1:=fun v0 v1 u2=> kk 5 0 0 (aJ [(16,ii (ay a.n)),(6,S.sl 0 u2),(17,ii v1),(15,S.t (T.rows 4 a.n fun i=>eL (a.get i)))] 1 [(0,B.row false 6 v0.n v0.g)])
def zc (q:YF) (a:Rw dC) (b:Int) (k1:T153_1):OS:=bif bm 0 (ay a.n) then aU 0 a.n fun h=>yC q 187 [ag (eL (a.get (Fin.mk (Int.ofNat 0).toNat h)))] fun y=>bif !aR (y.i 6) 0 then some (S.bJ [S.t (T.rows 6 0 fT),ii (y.i 6)]) else k1 (bN.mk 1 fun i=>List.take 6 (List.drop (↑i*6) [tb (y.b 0),tb (y.b 1),tb (y.b 2),T.rows 1 (y.r 3).n (y.r 3).g,ti (y.i 4),ti (y.i 5)])) 1 1 else some (S.bJ [S.t (T.rows 6 0 fT),ii 0])
def zN (q:YF) (a:Rw dC) (b:Int) (k1:T153_1):T153_1:=fun v0 v1 u2=>bif bm v1 (ay a.n) then aU v1 a.n fun h=>yC q 187 [ag (eL (a.get (Fin.mk v1.toNat h)))] fun y=>bif !aR (y.i 6) 0 then some (S.bJ [S.t (T.rows 6 0 fT),ii (y.i 6)]) else bif bY (bC v0.n 1) 48 then k1 (bN.mk (bC v0.n 1) (bo v0.g fun i=>List.take 6 (List.drop (↑i*6) [tb (y.b 0),tb (y.b 1),tb (y.b 2),T.rows 1 (y.r 3).n (y.r 3).g,ti (y.i 4),ti (y.i 5)]))) (a7 .i64 v1 1) (bC v0.n 1) else none else some (S.bJ [S.t (T.rows 6 v0.n v0.g),ii 0])
def po (q:YF) (a:Rw dC) (b:Int) (k0:OS):OS:=bif bl (ay a.n) b then some (S.bJ [S.t (T.rows 6 0 fT),ii 3]) else k0
structure N_ where
 x0:OS
 x1:bN→Int→OS
def F1 (X:N_):OS:=X.x0
def uc (X:N_):T153_1:=fun v0 v1 _=>X.x1 v0 v1
def B2 (q:YF) (a:Rw dC) (b:Int) (X:N_):N_:=⟨zc q a b (uc X),
 fun v0 v1=>zN q a b (uc X) v0 v1 dd⟩
def jV (q:YF) (a:Rw dC) (b:Int):Nat→N_
 | 0=>⟨none,fun _ _=>none⟩
 | n+1=>B2 q a b (jV q a b n)
theorem aa1 (q:YF) (a:Rw dC) (b:Int) (kk:PK S):E9 a b (ad5 q kk)=zc q a b (AV a b kk):=by
 kernel_rfl
theorem abo (q:YF) (a:Rw dC) (b:Int) (kk:PK S):AV a b (ad5 q kk)=zN q a b (AV a b kk):=by
 kernel_rfl
theorem Vr (q:YF) (a:Rw dC) (b:Int) (kk:PK S):BG q kk 153 Tryz.f153 [S.t (T.rows 4 a.n fun i=>eL (a.get i)),ii b]=po q a b (E9 a b kk):=by
 kernel_rfl
theorem aeK (q:YF) (a:Rw dC) (b:Int):∀ n,E9 a b (RS q n)=F1 (jV q a b n)∧AV a b (RS q n)=uc (jV q a b n)
 | 0=>⟨rfl,rfl⟩
 | n+1=>by
  obtain ⟨h0,h1⟩:=aeK q a b n
  exact ⟨(aa1 q a b (RS q n)).trans (by rw [h1];kernel_rfl),(abo q a b (RS q n)).trans (by rw [h1];kernel_rfl)⟩
theorem adw (a:Rw dC) (b:Int) (n:Nat) (x:S) (h:po (aa O) a b (F1 (jV (aa O) a b n))=some x):(W O).aE 153 [S.t (T.rows 4 a.n fun i=>eL (a.get i)),ii b]=some x:=by
 refine WG (fn:=Tryz.f153) (by kernel_rfl) (by kernel_rfl) (n:=n) ?_
 refine (Vr (aa O) a b (RS (aa O) n)).trans ?_
 obtain ⟨h0,h1⟩:=aeK (aa O) a b n
 rw [h0]
 exact h
abbrev ajr (q:YF):Nat→PK S:=HG q 154 Tryz.f154
def Iw (q:YF) (a:ch) (b:ch):OS:=some (bb (ah a.aZ b.aZ))
theorem Vu (q:YF) (a:ch) (b:ch) (kk:PK S):BG q kk 154 Tryz.f154 [ag (dv a),S.pt (dv b)]=Iw q a b:=by
 kernel_rfl
theorem aih (a:ch) (b:ch) (n:Nat) (x:S) (h:Iw (aa O) a b=some x):(W O).aE 154 [ag (dv a),S.pt (dv b)]=some x:=by
 refine WG (fn:=Tryz.f154) (by kernel_rfl) (by kernel_rfl) (n:=n) ?_
 refine (Vu (aa O) a b (ajr (aa O) n)).trans ?_
 exact h
abbrev aj8 (q:YF):Nat→PK S:=HG q 155 Tryz.f155
def AF (q:YF) (a:Rw bu) (b:bu):OS:=yC q 188 [S.t (T.rows 3 a.n fun i=>bS (a.get i)),ag (bS b)] fun y=>some (bb (cT (y.i 0) 0))
theorem Uj (q:YF) (a:Rw bu) (b:bu) (kk:PK S):BG q kk 155 Tryz.f155 [S.t (T.rows 3 a.n fun i=>bS (a.get i)),ag (bS b)]=AF q a b:=by
 kernel_rfl
theorem ahO (a:Rw bu) (b:bu) (n:Nat) (x:S) (h:AF (aa O) a b=some x):(W O).aE 155 [S.t (T.rows 3 a.n fun i=>bS (a.get i)),ag (bS b)]=some x:=by
 refine WG (fn:=Tryz.f155) (by kernel_rfl) (by kernel_rfl) (n:=n) ?_
 refine (Uj (aa O) a b (aj8 (aa O) n)).trans ?_
 exact h
abbrev ai4 (q:YF) (kk:PK S):PK S:=PG q 156 Tryz.f156 kk
abbrev abt (q:YF):Nat→PK S:=HG q 156 Tryz.f156
def BC (a:Rw fU) (b:BA) (kk:PK S):Int→OS:=fun v0=> kk 2 0 0 (aJ [(0,S.t (T.rows 10 a.n fun i=>jd (a.get i))),(8,ii v0),(1,S.fn (Go.Fn.func 117) [] [S.pt [ts b]]),(7,ii (ay a.n))] 0 [])
def z6 (q:YF) (a:Rw fU) (b:BA) (k0:Int→OS) (v0:Int):OS:=bif bm v0 (ay a.n) then aU v0 a.n fun h=>yC q 117 [ag (jd (a.get (Fin.mk v0.toNat h))),S.pt [ts b]] fun y=>bif y.b 0 then some (ii v0) else k0 (a7 .i64 v0 1) else some (ii (Int.negSucc 0))
def JO (q:YF) (a:Rw fU) (b:BA) (k0:Int→OS):OS:=k0 0
structure WA where
 x0:Int→OS
def ux (X:WA):Int→OS:=fun v0=>X.x0 v0
def P4 (q:YF) (a:Rw fU) (b:BA) (X:WA):WA:=⟨fun v0=>z6 q a b (ux X) v0⟩
def wz (q:YF) (a:Rw fU) (b:BA):Nat→WA
 | 0=>⟨fun _=>none⟩
 | n+1=>P4 q a b (wz q a b n)
theorem YE (q:YF) (a:Rw fU) (b:BA) (kk:PK S):BC a b (ai4 q kk)=z6 q a b (BC a b kk):=by
 kernel_rfl
theorem WZ (q:YF) (a:Rw fU) (b:BA) (kk:PK S):BG q kk 156 Tryz.f156 [S.t (T.rows 10 a.n fun i=>jd (a.get i)),S.fn (Go.Fn.func 117) [] [S.pt [ts b]]]=JO q a b (BC a b kk):=by
 kernel_rfl
theorem adK (q:YF) (a:Rw fU) (b:BA):∀ n,BC a b (abt q n)=ux (wz q a b n)
 | 0=>rfl
 | n+1=>by
  have h0:=adK q a b n
  exact (YE q a b (abt q n)).trans (by rw [h0];kernel_rfl)
theorem aif (a:Rw fU) (b:BA) (n:Nat) (x:S) (h:JO (aa O) a b (ux (wz (aa O) a b n))=some x):(W O).aE 156 [S.t (T.rows 10 a.n fun i=>jd (a.get i)),S.fn (Go.Fn.func 117) [] [S.pt [ts b]]]=some x:=by
 refine WG (fn:=Tryz.f156) (by kernel_rfl) (by kernel_rfl) (n:=n) ?_
 refine (WZ (aa O) a b (abt (aa O) n)).trans ?_
 have h0:=adK (aa O) a b n
 rw [h0]
 exact h
abbrev aiK (q:YF) (kk:PK S):PK S:=PG q 157 Tryz.f157 kk
abbrev Y3 (q:YF):Nat→PK S:=HG q 157 Tryz.f157
def Bc (a:Rw bu) (b:aP) (kk:PK S):Int→OS:=fun v0=> kk 2 0 0 (aJ [(0,S.t (T.rows 3 a.n fun i=>bS (a.get i))),(8,ii v0),(1,S.fn (Go.Fn.func 119) [] [S.pt (bI b)]),(7,ii (ay a.n))] 0 [])
def yZ (q:YF) (a:Rw bu) (b:aP) (k0:Int→OS) (v0:Int):OS:=bif bm v0 (ay a.n) then aU v0 a.n fun h=>yC q 119 [ag (bS (a.get (Fin.mk v0.toNat h))),S.pt (bI b)] fun y=>bif y.b 0 then some (ii v0) else k0 (a7 .i64 v0 1) else some (ii (Int.negSucc 0))
def JG (q:YF) (a:Rw bu) (b:aP) (k0:Int→OS):OS:=k0 0
structure Un where
 x0:Int→OS
def uC (X:Un):Int→OS:=fun v0=>X.x0 v0
def SO (q:YF) (a:Rw bu) (b:aP) (X:Un):Un:=⟨fun v0=>yZ q a b (uC X) v0⟩
def wH (q:YF) (a:Rw bu) (b:aP):Nat→Un
 | 0=>⟨fun _=>none⟩
 | n+1=>SO q a b (wH q a b n)
theorem Zn (q:YF) (a:Rw bu) (b:aP) (kk:PK S):Bc a b (aiK q kk)=yZ q a b (Bc a b kk):=by
 kernel_rfl
theorem W_ (q:YF) (a:Rw bu) (b:aP) (kk:PK S):BG q kk 157 Tryz.f157 [S.t (T.rows 3 a.n fun i=>bS (a.get i)),S.fn (Go.Fn.func 119) [] [S.pt (bI b)]]=JG q a b (Bc a b kk):=by
 kernel_rfl
theorem agZ (q:YF) (a:Rw bu) (b:aP):∀ n,Bc a b (Y3 q n)=uC (wH q a b n)
 | 0=>rfl
 | n+1=>by
  have h0:=agZ q a b n
  exact (Zn q a b (Y3 q n)).trans (by rw [h0];kernel_rfl)
theorem aiB (a:Rw bu) (b:aP) (n:Nat) (x:S) (h:JG (aa O) a b (uC (wH (aa O) a b n))=some x):(W O).aE 157 [S.t (T.rows 3 a.n fun i=>bS (a.get i)),S.fn (Go.Fn.func 119) [] [S.pt (bI b)]]=some x:=by
 refine WG (fn:=Tryz.f157) (by kernel_rfl) (by kernel_rfl) (n:=n) ?_
 refine (W_ (aa O) a b (Y3 (aa O) n)).trans ?_
 have h0:=agZ (aa O) a b n
 rw [h0]
 exact h
abbrev aic (q:YF):Nat→PK S:=HG q 158 Tryz.f158
def xQ (q:YF) (a:Rw bT) (b:bT):OS:=yC q 189 [S.t (T.rows 3 a.n fun i=>cZ (a.get i)),ag (cZ b)] fun y=>some (bb (cT (y.i 0) 0))
theorem UZ (q:YF) (a:Rw bT) (b:bT) (kk:PK S):BG q kk 158 Tryz.f158 [S.t (T.rows 3 a.n fun i=>cZ (a.get i)),ag (cZ b)]=xQ q a b:=by
 kernel_rfl
theorem aiq (a:Rw bT) (b:bT) (n:Nat) (x:S) (h:xQ (aa O) a b=some x):(W O).aE 158 [S.t (T.rows 3 a.n fun i=>cZ (a.get i)),ag (cZ b)]=some x:=by
 refine WG (fn:=Tryz.f158) (by kernel_rfl) (by kernel_rfl) (n:=n) ?_
 refine (UZ (aa O) a b (aic (aa O) n)).trans ?_
 exact h
abbrev ajH (q:YF) (kk:PK S):PK S:=PG q 159 Tryz.f159 kk
abbrev abq (q:YF):Nat→PK S:=HG q 159 Tryz.f159
abbrev T159_0:Type:=Bool→S→S→Bool→OS
def Gm (a:BA) (b:BA) (kk:PK S):T159_0:=fun v0 u1 u2 u3=> kk 1 7 1 (aJ [(0,ss a),(8,u1),(4,ii 0),(10,bb v0),(6,bb (ah a (bs [122,111,110,101]))),(1,ss b),(9,u2),(5,ss a),(7,bb u3)] 15 [])
def Gv (q:YF) (a:BA) (b:BA):T159_0:=fun v0 u1 u2 u3=>yC q 108 [bb v0,ii 1] fun y=>yC q 109 [S.t (T.rows 1 1 fun i=>List.take 1 (List.drop (↑i*1) [ts b]))] fun y_1=>yC q 108 [bb (y_1.b 0),ii 7] fun y_2=>yC q 107 [S.t (T.rows 1 2 fun i=>List.take 1 (List.drop (↑i*1) [ti (y.i 0),ti (y_2.i 0)]))] fun y=>some (ii (y.i 0))
def sM (q:YF) (a:BA) (b:BA) (k0:T159_0):OS:=bif ah a (bs [122,111,110,101]) then k0 true S.ud S.ud true else k0 (ah a (bs [104,111,115,116])) (ss a) (bb (ah a (bs [104,111,115,116]))) false
structure WD where
 x0:Bool→OS
def Ah (X:WD):T159_0:=fun v0 _ _ _=>X.x0 v0
def X8 (q:YF) (a:BA) (b:BA) (X:WD):WD:=⟨fun v0=>Gv q a b v0 dd dd dd⟩
def wS (q:YF) (a:BA) (b:BA):Nat→WD
 | 0=>⟨fun _=>none⟩
 | n+1=>X8 q a b (wS q a b n)
theorem ZE (q:YF) (a:BA) (b:BA) (kk:PK S):Gm a b (ajH q kk)=Gv q a b:=by
 kernel_rfl
theorem UL (q:YF) (a:BA) (b:BA) (kk:PK S):BG q kk 159 Tryz.f159 [ss a,ss b]=sM q a b (Gm a b kk):=by
 kernel_rfl
theorem agQ (q:YF) (a:BA) (b:BA):∀ n,Gm a b (abq q n)=Ah (wS q a b n)
 | 0=>rfl
 | n+1=>by
  have h0:=agQ q a b n
  exact (ZE q a b (abq q n)).trans (by kernel_rfl)
theorem aiV (a:BA) (b:BA) (n:Nat) (x:S) (h:sM (aa O) a b (Ah (wS (aa O) a b n))=some x):(W O).aE 159 [ss a,ss b]=some x:=by
 refine WG (fn:=Tryz.f159) (by kernel_rfl) (by kernel_rfl) (n:=n) ?_
 refine (UL (aa O) a b (abq (aa O) n)).trans ?_
 have h0:=agQ (aa O) a b n
 rw [h0]
 exact h
abbrev ajc (q:YF) (kk:PK S):PK S:=PG q 160 Tryz.f160 kk
abbrev abQ (q:YF):Nat→PK S:=HG q 160 Tryz.f160
def yX (a:Rw cQ) (b:BA) (kk:PK S):Int→OS:=fun v0=> kk 2 0 0 (aJ [(0,S.t (T.rows 15 a.n fun i=>dp (a.get i))),(8,ii v0),(1,S.fn (Go.Fn.func 124) [] [S.pt [ts b]]),(7,ii (ay a.n))] 0 [])
def AI (q:YF) (a:Rw cQ) (b:BA) (k0:Int→OS) (v0:Int):OS:=bif bm v0 (ay a.n) then aU v0 a.n fun h=>yC q 124 [ag (dp (a.get (Fin.mk v0.toNat h))),S.pt [ts b]] fun y=>bif y.b 0 then some (ii v0) else k0 (a7 .i64 v0 1) else some (ii (Int.negSucc 0))
def IE (q:YF) (a:Rw cQ) (b:BA) (k0:Int→OS):OS:=k0 0
structure Xf where
 x0:Int→OS
def uI (X:Xf):Int→OS:=fun v0=>X.x0 v0
def Nj (q:YF) (a:Rw cQ) (b:BA) (X:Xf):Xf:=⟨fun v0=>AI q a b (uI X) v0⟩
def wN (q:YF) (a:Rw cQ) (b:BA):Nat→Xf
 | 0=>⟨fun _=>none⟩
 | n+1=>Nj q a b (wN q a b n)
theorem acO (q:YF) (a:Rw cQ) (b:BA) (kk:PK S):yX a b (ajc q kk)=AI q a b (yX a b kk):=by
 kernel_rfl
theorem UM (q:YF) (a:Rw cQ) (b:BA) (kk:PK S):BG q kk 160 Tryz.f160 [S.t (T.rows 15 a.n fun i=>dp (a.get i)),S.fn (Go.Fn.func 124) [] [S.pt [ts b]]]=IE q a b (yX a b kk):=by
 kernel_rfl
theorem afP (q:YF) (a:Rw cQ) (b:BA):∀ n,yX a b (abQ q n)=uI (wN q a b n)
 | 0=>rfl
 | n+1=>by
  have h0:=afP q a b n
  exact (acO q a b (abQ q n)).trans (by rw [h0];kernel_rfl)
theorem ajL (a:Rw cQ) (b:BA) (n:Nat) (x:S) (h:IE (aa O) a b (uI (wN (aa O) a b n))=some x):(W O).aE 160 [S.t (T.rows 15 a.n fun i=>dp (a.get i)),S.fn (Go.Fn.func 124) [] [S.pt [ts b]]]=some x:=by
 refine WG (fn:=Tryz.f160) (by kernel_rfl) (by kernel_rfl) (n:=n) ?_
 refine (UM (aa O) a b (abQ (aa O) n)).trans ?_
 have h0:=afP (aa O) a b n
 rw [h0]
 exact h
abbrev U2 (q:YF) (kk:PK S):PK S:=PG q 161 Tryz.f161 kk
abbrev Be (q:YF):Nat→PK S:=HG q 161 Tryz.f161
abbrev T161_0:Type:=Bool→S→Bool→S→OS
def FE (a:BA) (kk:PK S):T161_0:=fun v0 u1 u2 u3=> kk 1 7 1 (aJ [(0,ss a),(8,bb v0),(4,bb (ah a (bs [122,111,110,101]))),(2,bb false),(6,u1),(5,bb u2),(3,ss a),(7,u3)] 20 [])
abbrev T161_1:Type:=Bool→Bool→S→Bool→S→S→Bool→S→OS
def Hy (a:BA) (kk:PK S):T161_1:=fun v0 u1 u2 u3 u4 u5 u6 u7=> kk 1 11 1 (aJ [(0,ss a),(8,bb u1),(4,bb (ah a (bs [122,111,110,101]))),(12,bb v0),(2,bb false),(10,u5),(6,u2),(9,bb u6),(5,bb u3),(3,ss a),(11,u7),(7,u4)] 20 [])
abbrev T161_2:Type:=Bool→Bool→Bool→S→S→Bool→Bool→S→S→S→Bool→S→OS
def Ic (a:BA) (kk:PK S):T161_2:=fun v0 u1 u2 u3 u4 u5 u6 u7 u8 u9 u10 u11=> kk 1 15 1 (aJ [(0,ss a),(16,bb v0),(8,bb u1),(4,bb (ah a (bs [122,111,110,101]))),(12,bb u2),(2,bb false),(10,u3),(6,u4),(14,u9),(9,bb u5),(5,bb u6),(13,bb u10),(3,ss a),(11,u7),(7,u8),(15,u11)] 20 [])
abbrev T161_3:Type:=Bool→Bool→Bool→Bool→S→S→S→Bool→Bool→Bool→S→S→S→S→Bool→S→OS
def Fg (a:BA) (kk:PK S):T161_3:=fun v0 u1 u2 u3 u4 u5 u6 u7 u8 u9 u10 u11 u12 u13 u14 u15=> kk 1 19 1 (aJ [(0,ss a),(16,bb u1),(8,bb u2),(4,bb (ah a (bs [122,111,110,101]))),(20,bb v0),(12,bb u3),(2,bb false),(18,u13),(10,u4),(6,u5),(14,u6),(17,bb u14),(9,bb u7),(5,bb u8),(13,bb u9),(3,ss a),(19,u15),(11,u10),(7,u11),(15,u12)] 20 [])
def H8 (q:YF) (a:BA) (k1:T161_1):T161_0:=fun v0 u1 u2 u3=>bif v0 then k1 true v0 u1 u2 u3 S.ud true S.ud else k1 (ah a (bs [107,105,110,100])) v0 u1 u2 u3 (ss a) false (bb (ah a (bs [107,105,110,100])))
def GA (q:YF) (a:BA) (k2:T161_2):T161_1:=fun v0 u1 u2 u3 u4 u5 u6 u7=>bif v0 then k2 true u1 v0 u5 u2 u6 u3 u7 u4 S.ud true S.ud else k2 (ah a (bs [112,111,111,108])) u1 v0 u5 u2 u6 u3 u7 u4 (ss a) false (bb (ah a (bs [112,111,111,108])))
def Ht (q:YF) (a:BA) (k3:T161_3):T161_2:=fun v0 u1 u2 u3 u4 u5 u6 u7 u8 u9 u10 u11=>bif v0 then k3 true v0 u1 u2 u3 u4 u9 u5 u6 u10 u7 u8 u11 S.ud true S.ud else k3 (ah a (bs [104,111,115,116])) v0 u1 u2 u3 u4 u9 u5 u6 u10 u7 u8 u11 (ss a) false (bb (ah a (bs [104,111,115,116])))
def EW (q:YF) (a:BA):T161_3:=fun v0 u1 u2 u3 u4 u5 u6 u7 u8 u9 u10 u11 u12 u13 u14 u15=>some (bb v0)
def ze (q:YF) (a:BA) (k0:T161_0):OS:=bif ah a (bs [122,111,110,101]) then k0 true S.ud true S.ud else k0 (ah a (bs [116,121,112,101])) (ss a) false (bb (ah a (bs [116,121,112,101])))
structure EJ where
 x0:Bool→OS
 x1:Bool→OS
 x2:Bool→OS
 x3:Bool→OS
def Fi (X:EJ):T161_0:=fun v0 _ _ _=>X.x0 v0
def FH (X:EJ):T161_1:=fun v0 _ _ _ _ _ _ _=>X.x1 v0
def Et (X:EJ):T161_2:=fun v0 _ _ _ _ _ _ _ _ _ _ _=>X.x2 v0
def E4 (X:EJ):T161_3:=fun v0 _ _ _ _ _ _ _ _ _ _ _ _ _ _ _=>X.x3 v0
def XB (q:YF) (a:BA) (X:EJ):EJ:=⟨fun v0=>H8 q a (FH X) v0 dd dd dd,
 fun v0=>GA q a (Et X) v0 dd dd dd dd dd dd dd,
 fun v0=>Ht q a (E4 X) v0 dd dd dd dd dd dd dd dd dd dd dd,
 fun v0=>EW q a v0 dd dd dd dd dd dd dd dd dd dd dd dd dd dd dd⟩
def uL (q:YF) (a:BA):Nat→EJ
 | 0=>⟨fun _=>none,fun _=>none,fun _=>none,fun _=>none⟩
 | n+1=>XB q a (uL q a n)
theorem abR (q:YF) (a:BA) (kk:PK S):FE a (U2 q kk)=H8 q a (Hy a kk):=by
 kernel_rfl
theorem acI (q:YF) (a:BA) (kk:PK S):Hy a (U2 q kk)=GA q a (Ic a kk):=by
 kernel_rfl
theorem YG (q:YF) (a:BA) (kk:PK S):Ic a (U2 q kk)=Ht q a (Fg a kk):=by
 kernel_rfl
theorem aay (q:YF) (a:BA) (kk:PK S):Fg a (U2 q kk)=EW q a:=by
 kernel_rfl
theorem W8 (q:YF) (a:BA) (kk:PK S):BG q kk 161 Tryz.f161 [ss a]=ze q a (FE a kk):=by
 kernel_rfl
theorem agp (q:YF) (a:BA):∀ n,FE a (Be q n)=Fi (uL q a n)∧Hy a (Be q n)=FH (uL q a n)∧Ic a (Be q n)=Et (uL q a n)∧Fg a (Be q n)=E4 (uL q a n)
 | 0=>⟨rfl,rfl,rfl,rfl⟩
 | n+1=>by
  obtain ⟨h0,h1,h2,h3⟩:=agp q a n
  exact ⟨(abR q a (Be q n)).trans (by rw [h1];kernel_rfl),(acI q a (Be q n)).trans (by rw [h2];kernel_rfl),(YG q a (Be q n)).trans (by rw [h3];kernel_rfl),(aay q a (Be q n)).trans (by kernel_rfl)⟩
theorem ahY (a:BA) (n:Nat) (x:S) (h:ze (aa O) a (Fi (uL (aa O) a n))=some x):(W O).aE 161 [ss a]=some x:=by
 refine WG (fn:=Tryz.f161) (by kernel_rfl) (by kernel_rfl) (n:=n) ?_
 refine (W8 (aa O) a (Be (aa O) n)).trans ?_
 obtain ⟨h0,h1,h2,h3⟩:=agp (aa O) a n
 rw [h0]
 exact h
abbrev aim (q:YF):Nat→PK S:=HG q 162 Tryz.f162
def ng (q:YF) (a:dC):OS:=yC q 190 [ag (eL a)] fun y=>bif !aR (y.i 0) 0 then some (S.bJ [S.agg [bb false,bb false,bb false,S.t (T.rows 1 0 fT),ii 0,ii 0],ii (y.i 0)]) else bif aR a.cz 1 then yC q 191 [S.t (T.rows 1 a.aL.n fun i=>[ts (a.aL.get i)])] fun y=>some (S.bJ [S.agg [bb false,bb false,bb false,S.t (T.rows 1 (y.r 0).n (y.r 0).g),ii 0,ii 0],ii 0]) else bif aR a.cz 2 then yC q 191 [S.t (T.rows 1 a.aL.n fun i=>[ts (a.aL.get i)])] fun y=>some (S.bJ [S.agg [bb true,bb true,bb false,S.t (T.rows 1 (y.r 0).n (y.r 0).g),ii 0,ii 0],ii 0]) else bif aR a.cz 3 then some (S.bJ [S.agg [bb false,bb true,bb false,S.t (T.rows 1 0 fT),ii 0,ii 0],ii 0]) else bif aR a.cz 4 then some (S.bJ [S.agg [bb true,bb false,bb false,S.t (T.rows 1 0 fT),ii 0,ii 0],ii 0]) else bif aR a.cz 5 then yC q 192 [ii (a7 .i64 a.fN 1),ii 2147483648,S.t (T.v (.slice none 0 0))] fun y=>some (S.bJ [S.agg [bb (y.b 0),bb (y.b 1),bb (y.b 2),S.t (T.rows 1 (y.r 3).n (y.r 3).g),ii (y.i 4),ii (y.i 5)],ii 0]) else yC q 192 [ii (Int.negSucc 2147483647),ii (bF .i64 a.fN 1),S.t (T.v (.slice none 0 0))] fun y=>some (S.bJ [S.agg [bb (y.b 0),bb (y.b 1),bb (y.b 2),S.t (T.rows 1 (y.r 3).n (y.r 3).g),ii (y.i 4),ii (y.i 5)],ii 0])
theorem Vb (q:YF) (a:dC) (kk:PK S):BG q kk 162 Tryz.f162 [ag (eL a)]=ng q a:=by
 kernel_rfl
theorem agN (a:dC) (n:Nat) (x:S) (h:ng (aa O) a=some x):(W O).aE 162 [ag (eL a)]=some x:=by
 refine WG (fn:=Tryz.f162) (by kernel_rfl) (by kernel_rfl) (n:=n) ?_
 refine (Vb (aa O) a (aim (aa O) n)).trans ?_
 exact h
abbrev aaG (q:YF) (kk:PK S):PK S:=PG q 163 Tryz.f163 kk
abbrev Gu (q:YF):Nat→PK S:=HG q 163 Tryz.f163
def zL (a:BA) (kk:PK S):Int→Int→OS:=fun v0 v1=> kk 5 0 0 (aJ [(0,ss a),(4,ii v1),(5,ii v0)] 0 [])
abbrev T163_1:Type:=Bool→Int→Bool→BA→BA→BA→S→Bool→S→S→S→Bool→Bool→S→Int→OS
def Io (a:BA) (kk:PK S):T163_1:=fun v0 v1 u2 u3 u4 u5 u6 u7 u8 u9 u10 u11 u12 u13 u14=> kk 12 8 11 (aJ [(0,ss a),(48,bb u2),(40,u9),(4,ii v1),(36,bb (bl (cI a) 0)),(52,bb v0),(44,ii u14),(34,ss a),(50,u6),(6,ss u3),(38,u10),(46,ss u4),(49,bb u7),(41,bb u11),(37,bb u12),(45,ss u5),(35,ii (cI a)),(51,u8),(39,u13),(47,ss a)] 22 [])
abbrev T163_2:Type:=Bool→Int→Bool→Bool→BA→BA→Bool→BA→Int→S→Bool→S→Int→Int→Int→OS
def F6 (a:BA) (kk:PK S):T163_2:=fun v0 v1 u2 u3 u4 u5 u6 u7 u8 u9 u10 u11 u12 u13 u14=> kk 12 8 14 (aJ [(0,ss a),(48,bb u2),(40,bb u3),(4,ii v1),(36,bb (bl (cI a) 0)),(52,bb v0),(44,ii u12),(34,ss a),(50,u9),(42,ii u13),(6,ss u4),(38,ss a),(46,ss u5),(49,bb u10),(41,bb u6),(37,bb true),(45,ss u7),(35,ii (cI a)),(51,u11),(43,ii u14),(39,S.t (T.v (.int .u8 u8))),(47,ss a)] 25 [])
def yM (q:YF) (a:BA) (k0:Int→Int→OS) (k1:T163_1) (k2:T163_2) (v0 v1:Int):OS:=bif bm v0 (cI a) then mP v0 a fun c=>bif cT c 48 then mP v0 a fun c=>bif bp c 57 then mP v0 a fun c=>k0 (a7 .i64 v0 1) (a7 .i64 (Z_ .i64 v1 10) (gE .i64 (bF .u8 c 48))) else k0 (a7 .i64 v0 1) v1 else k0 (a7 .i64 v0 1) v1 else bif bl (cI a) 0 then mP 0 a fun c=>bif aR c 45 then yC q 193 [ii (bF .i64 0 v1)] fun y=>bif !ah (y.s 0) a then k2 true (bF .i64 0 v1) (!ah (y.s 0) a) (aR c 45) (y.s 0) (y.s 0) (aR c 45) (y.s 0) c S.ud true S.ud (bF .i64 0 v1) v1 (bF .i64 0 v1) else k2 (bm (bF .i64 0 v1) (Int.negSucc 2147483647)) (bF .i64 0 v1) (!ah (y.s 0) a) (aR c 45) (y.s 0) (y.s 0) (aR c 45) (y.s 0) c (ii (bF .i64 0 v1)) false (bb (bm (bF .i64 0 v1) (Int.negSucc 2147483647))) (bF .i64 0 v1) v1 (bF .i64 0 v1) else yC q 193 [ii v1] fun y=>bif !ah (y.s 0) a then k1 true v1 (!ah (y.s 0) a) (y.s 0) (y.s 0) (y.s 0) S.ud true S.ud (bb (aR c 45)) (ss a) (aR c 45) true (S.t (T.v (.int .u8 c))) v1 else k1 (bm v1 (Int.negSucc 2147483647)) v1 (!ah (y.s 0) a) (y.s 0) (y.s 0) (y.s 0) (ii v1) false (bb (bm v1 (Int.negSucc 2147483647))) (bb (aR c 45)) (ss a) (aR c 45) true (S.t (T.v (.int .u8 c))) v1 else yC q 193 [ii v1] fun y=>bif !ah (y.s 0) a then k1 true v1 (!ah (y.s 0) a) (y.s 0) (y.s 0) (y.s 0) S.ud true S.ud S.ud S.ud false false S.ud v1 else k1 (bm v1 (Int.negSucc 2147483647)) v1 (!ah (y.s 0) a) (y.s 0) (y.s 0) (y.s 0) (ii v1) false (bb (bm v1 (Int.negSucc 2147483647))) S.ud S.ud false false S.ud v1
def GG (q:YF) (a:BA):T163_1:=fun v0 v1 u2 u3 u4 u5 u6 u7 u8 u9 u10 u11 u12 u13 u14=>bif v0 then some (S.bJ [ii 0,bb false]) else bif bl v1 2147483648 then some (S.bJ [ii 0,bb false]) else some (S.bJ [ii v1,bb true])
def Fu (q:YF) (a:BA):T163_2:=fun v0 v1 u2 u3 u4 u5 u6 u7 u8 u9 u10 u11 u12 u13 u14=>bif v0 then some (S.bJ [ii 0,bb false]) else bif bl v1 2147483648 then some (S.bJ [ii 0,bb false]) else some (S.bJ [ii v1,bb true])
def sF (q:YF) (a:BA) (k0:Int→Int→OS):OS:=bif bl (cI a) 11 then some (S.bJ [ii 0,bb false]) else k0 0 0
structure LM where
 x0:Int→Int→OS
 x1:Bool→Int→OS
 x2:Bool→Int→OS
def uX (X:LM):Int→Int→OS:=fun v0 v1=>X.x0 v0 v1
def GW (X:LM):T163_1:=fun v0 v1 _ _ _ _ _ _ _ _ _ _ _ _ _=>X.x1 v0 v1
def EK (X:LM):T163_2:=fun v0 v1 _ _ _ _ _ _ _ _ _ _ _ _ _=>X.x2 v0 v1
def Pb (q:YF) (a:BA) (X:LM):LM:=⟨fun v0 v1=>yM q a (uX X) (GW X) (EK X) v0 v1,
 fun v0 v1=>GG q a v0 v1 dd dd dd dd dd dd dd dd dd dd dd dd dd,
 fun v0 v1=>Fu q a v0 v1 dd dd dd dd dd dd dd dd dd dd dd dd dd⟩
def pw (q:YF) (a:BA):Nat→LM
 | 0=>⟨fun _ _=>none,fun _ _=>none,fun _ _=>none⟩
 | n+1=>Pb q a (pw q a n)
theorem ac4 (q:YF) (a:BA) (kk:PK S):zL a (aaG q kk)=yM q a (zL a kk) (Io a kk) (F6 a kk):=by
 kernel_rfl
theorem ZN (q:YF) (a:BA) (kk:PK S):Io a (aaG q kk)=GG q a:=by
 kernel_rfl
theorem ZR (q:YF) (a:BA) (kk:PK S):F6 a (aaG q kk)=Fu q a:=by
 kernel_rfl
theorem Uv (q:YF) (a:BA) (kk:PK S):BG q kk 163 Tryz.f163 [ss a]=sF q a (zL a kk):=by
 kernel_rfl
theorem ahd (q:YF) (a:BA):∀ n,zL a (Gu q n)=uX (pw q a n)∧Io a (Gu q n)=GW (pw q a n)∧F6 a (Gu q n)=EK (pw q a n)
 | 0=>⟨rfl,rfl,rfl⟩
 | n+1=>by
  obtain ⟨h0,h1,h2⟩:=ahd q a n
  exact ⟨(ac4 q a (Gu q n)).trans (by rw [h0,h1,h2];kernel_rfl),(ZN q a (Gu q n)).trans (by kernel_rfl),(ZR q a (Gu q n)).trans (by kernel_rfl)⟩
theorem adY (a:BA) (n:Nat) (x:S) (h:sF (aa O) a (uX (pw (aa O) a n))=some x):(W O).aE 163 [ss a]=some x:=by
 refine WG (fn:=Tryz.f163) (by kernel_rfl) (by kernel_rfl) (n:=n) ?_
 refine (Uv (aa O) a (Gu (aa O) n)).trans ?_
 obtain ⟨h0,h1,h2⟩:=ahd (aa O) a n
 rw [h0]
 exact h
abbrev akr (q:YF) (kk:PK S):PK S:=PG q 182 Tryz.f182 kk
abbrev aaI (q:YF):Nat→PK S:=HG q 182 Tryz.f182
def BH (a:Rw BA) (b:BA) (kk:PK S):Int→OS:=fun v0=> kk 2 0 0 (aJ [(0,S.t (T.rows 1 a.n fun i=>[ts (a.get i)])),(8,ii v0),(1,ss b),(7,ii (ay a.n))] 0 [])
def xF (q:YF) (a:Rw BA) (b:BA) (k0:Int→OS) (v0:Int):OS:=bif bm v0 (ay a.n) then aU v0 a.n fun h=>bif ah b (a.get (Fin.mk v0.toNat h)) then some (ii v0) else k0 (a7 .i64 v0 1) else some (ii (Int.negSucc 0))
def JD (q:YF) (a:Rw BA) (b:BA) (k0:Int→OS):OS:=k0 0
structure VQ where
 x0:Int→OS
def sS (X:VQ):Int→OS:=fun v0=>X.x0 v0
def Pf (q:YF) (a:Rw BA) (b:BA) (X:VQ):VQ:=⟨fun v0=>xF q a b (sS X) v0⟩
def xA (q:YF) (a:Rw BA) (b:BA):Nat→VQ
 | 0=>⟨fun _=>none⟩
 | n+1=>Pf q a b (xA q a b n)
theorem abU (q:YF) (a:Rw BA) (b:BA) (kk:PK S):BH a b (akr q kk)=xF q a b (BH a b kk):=by
 kernel_rfl
theorem Ws (q:YF) (a:Rw BA) (b:BA) (kk:PK S):BG q kk 182 Tryz.f182 [S.t (T.rows 1 a.n fun i=>e9 (a.get i)),ss b]=JD q a b (BH a b kk):=by
 kernel_rfl
theorem ahI (q:YF) (a:Rw BA) (b:BA):∀ n,BH a b (aaI q n)=sS (xA q a b n)
 | 0=>rfl
 | n+1=>by
  have h0:=ahI q a b n
  exact (abU q a b (aaI q n)).trans (by rw [h0];kernel_rfl)
theorem aiI (a:Rw BA) (b:BA) (n:Nat) (x:S) (h:JD (aa O) a b (sS (xA (aa O) a b n))=some x):(W O).aE 182 [S.t (T.rows 1 a.n fun i=>e9 (a.get i)),ss b]=some x:=by
 refine WG (fn:=Tryz.f182) (by kernel_rfl) (by kernel_rfl) (n:=n) ?_
 refine (Ws (aa O) a b (aaI (aa O) n)).trans ?_
 have h0:=ahI (aa O) a b n
 rw [h0]
 exact h
abbrev ajM (q:YF) (kk:PK S):PK S:=PG q 184 Tryz.f184 kk
abbrev ab4 (q:YF):Nat→PK S:=HG q 184 Tryz.f184
def xR (a:Rw ch) (b:ch) (kk:PK S):Int→OS:=fun v0=> kk 2 0 0 (aJ [(0,S.t (T.rows 2 a.n fun i=>dv (a.get i))),(8,ii v0),(1,S.fn (Go.Fn.func 148) [] [S.pt (dv b)]),(7,ii (ay a.n))] 0 [])
def yE (q:YF) (a:Rw ch) (b:ch) (k0:Int→OS) (v0:Int):OS:=bif bm v0 (ay a.n) then aU v0 a.n fun h=>yC q 148 [ag (dv (a.get (Fin.mk v0.toNat h))),S.pt (dv b)] fun y=>bif y.b 0 then some (ii v0) else k0 (a7 .i64 v0 1) else some (ii (Int.negSucc 0))
def KP (q:YF) (a:Rw ch) (b:ch) (k0:Int→OS):OS:=k0 0
structure WV where
 x0:Int→OS
def vt (X:WV):Int→OS:=fun v0=>X.x0 v0
def Nv (q:YF) (a:Rw ch) (b:ch) (X:WV):WV:=⟨fun v0=>yE q a b (vt X) v0⟩
def wD (q:YF) (a:Rw ch) (b:ch):Nat→WV
 | 0=>⟨fun _=>none⟩
 | n+1=>Nv q a b (wD q a b n)
theorem YB (q:YF) (a:Rw ch) (b:ch) (kk:PK S):xR a b (ajM q kk)=yE q a b (xR a b kk):=by
 kernel_rfl
theorem WJ (q:YF) (a:Rw ch) (b:ch) (kk:PK S):BG q kk 184 Tryz.f184 [S.t (T.rows 2 a.n fun i=>dv (a.get i)),S.fn (Go.Fn.func 148) [] [S.pt (dv b)]]=KP q a b (xR a b kk):=by
 kernel_rfl
theorem aho (q:YF) (a:Rw ch) (b:ch):∀ n,xR a b (ab4 q n)=vt (wD q a b n)
 | 0=>rfl
 | n+1=>by
  have h0:=aho q a b n
  exact (YB q a b (ab4 q n)).trans (by rw [h0];kernel_rfl)
theorem aip (a:Rw ch) (b:ch) (n:Nat) (x:S) (h:KP (aa O) a b (vt (wD (aa O) a b n))=some x):(W O).aE 184 [S.t (T.rows 2 a.n fun i=>dv (a.get i)),S.fn (Go.Fn.func 148) [] [S.pt (dv b)]]=some x:=by
 refine WG (fn:=Tryz.f184) (by kernel_rfl) (by kernel_rfl) (n:=n) ?_
 refine (WJ (aa O) a b (ab4 (aa O) n)).trans ?_
 have h0:=aho (aa O) a b n
 rw [h0]
 exact h
abbrev afr (q:YF) (kk:PK S):PK S:=PG q 184 Tryz.f184 kk
abbrev NU (q:YF):Nat→PK S:=HG q 184 Tryz.f184
def rZ (a:Rw ch) (b:ch) (kk:PK S):Int→OS:=fun v0=> kk 2 0 0 (aJ [(0,S.t (T.rows 2 a.n fun i=>dv (a.get i))),(8,ii v0),(1,S.fn (Go.Fn.func 154) [] [S.pt (dv b)]),(7,ii (ay a.n))] 0 [])
def sk (q:YF) (a:Rw ch) (b:ch) (k0:Int→OS) (v0:Int):OS:=bif bm v0 (ay a.n) then aU v0 a.n fun h=>yC q 154 [ag (dv (a.get (Fin.mk v0.toNat h))),S.pt (dv b)] fun y=>bif y.b 0 then some (ii v0) else k0 (a7 .i64 v0 1) else some (ii (Int.negSucc 0))
def Cg (q:YF) (a:Rw ch) (b:ch) (k0:Int→OS):OS:=k0 0
structure IP where
 x0:Int→OS
def oV (X:IP):Int→OS:=fun v0=>X.x0 v0
def E7 (q:YF) (a:Rw ch) (b:ch) (X:IP):IP:=⟨fun v0=>sk q a b (oV X) v0⟩
def qw (q:YF) (a:Rw ch) (b:ch):Nat→IP
 | 0=>⟨fun _=>none⟩
 | n+1=>E7 q a b (qw q a b n)
theorem Xb (q:YF) (a:Rw ch) (b:ch) (kk:PK S):rZ a b (afr q kk)=sk q a b (rZ a b kk):=by
 kernel_rfl
theorem OG (q:YF) (a:Rw ch) (b:ch) (kk:PK S):BG q kk 184 Tryz.f184 [S.t (T.rows 2 a.n fun i=>dv (a.get i)),S.fn (Go.Fn.func 154) [] [S.pt (dv b)]]=Cg q a b (rZ a b kk):=by
 kernel_rfl
theorem Xp (q:YF) (a:Rw ch) (b:ch):∀ n,rZ a b (NU q n)=oV (qw q a b n)
 | 0=>rfl
 | n+1=>by
  have h0:=Xp q a b n
  exact (Xb q a b (NU q n)).trans (by rw [h0];kernel_rfl)
theorem afU (a:Rw ch) (b:ch) (n:Nat) (x:S) (h:Cg (aa O) a b (oV (qw (aa O) a b n))=some x):(W O).aE 184 [S.t (T.rows 2 a.n fun i=>dv (a.get i)),S.fn (Go.Fn.func 154) [] [S.pt (dv b)]]=some x:=by
 refine WG (fn:=Tryz.f184) (by kernel_rfl) (by kernel_rfl) (n:=n) ?_
 refine (OG (aa O) a b (NU (aa O) n)).trans ?_
 have h0:=Xp (aa O) a b n
 rw [h0]
 exact h
abbrev aib (q:YF) (kk:PK S):PK S:=PG q 185 Tryz.f185 kk
abbrev acF (q:YF):Nat→PK S:=HG q 185 Tryz.f185
def zT (a:Rw bK) (b:bK) (kk:PK S):Int→OS:=fun v0=> kk 2 0 0 (aJ [(0,S.t (T.rows 4 a.n fun i=>cL (a.get i))),(8,ii v0),(1,S.fn (Go.Fn.func 150) [] [S.pt (cL b)]),(7,ii (ay a.n))] 0 [])
def Bs (q:YF) (a:Rw bK) (b:bK) (k0:Int→OS) (v0:Int):OS:=bif bm v0 (ay a.n) then aU v0 a.n fun h=>yC q 150 [ag (cL (a.get (Fin.mk v0.toNat h))),S.pt (cL b)] fun y=>bif y.b 0 then some (ii v0) else k0 (a7 .i64 v0 1) else some (ii (Int.negSucc 0))
def Lk (q:YF) (a:Rw bK) (b:bK) (k0:Int→OS):OS:=k0 0
structure UP where
 x0:Int→OS
def uG (X:UP):Int→OS:=fun v0=>X.x0 v0
def T9 (q:YF) (a:Rw bK) (b:bK) (X:UP):UP:=⟨fun v0=>Bs q a b (uG X) v0⟩
def wF (q:YF) (a:Rw bK) (b:bK):Nat→UP
 | 0=>⟨fun _=>none⟩
 | n+1=>T9 q a b (wF q a b n)
theorem abi (q:YF) (a:Rw bK) (b:bK) (kk:PK S):zT a b (aib q kk)=Bs q a b (zT a b kk):=by
 kernel_rfl
theorem Ul (q:YF) (a:Rw bK) (b:bK) (kk:PK S):BG q kk 185 Tryz.f185 [S.t (T.rows 4 a.n fun i=>cL (a.get i)),S.fn (Go.Fn.func 150) [] [S.pt (cL b)]]=Lk q a b (zT a b kk):=by
 kernel_rfl
theorem agG (q:YF) (a:Rw bK) (b:bK):∀ n,zT a b (acF q n)=uG (wF q a b n)
 | 0=>rfl
 | n+1=>by
  have h0:=agG q a b n
  exact (abi q a b (acF q n)).trans (by rw [h0];kernel_rfl)
theorem ajN (a:Rw bK) (b:bK) (n:Nat) (x:S) (h:Lk (aa O) a b (uG (wF (aa O) a b n))=some x):(W O).aE 185 [S.t (T.rows 4 a.n fun i=>cL (a.get i)),S.fn (Go.Fn.func 150) [] [S.pt (cL b)]]=some x:=by
 refine WG (fn:=Tryz.f185) (by kernel_rfl) (by kernel_rfl) (n:=n) ?_
 refine (Ul (aa O) a b (acF (aa O) n)).trans ?_
 have h0:=agG (aa O) a b n
 rw [h0]
 exact h
abbrev akq (q:YF) (kk:PK S):PK S:=PG q 186 Tryz.f186 kk
abbrev YP (q:YF):Nat→PK S:=HG q 186 Tryz.f186
def Bg (a:Rw BA) (kk:PK S):Int→OS:=fun v0=> kk 2 0 0 (aJ [(0,S.t (T.rows 1 a.n fun i=>[ts (a.get i)])),(8,ii v0),(1,S.t (T.v (.func (Go.Fn.func 152) #[] #[]))),(7,ii (ay a.n))] 0 [])
def zA (q:YF) (a:Rw BA) (k0:Int→OS) (v0:Int):OS:=bif bm v0 (ay a.n) then aU v0 a.n fun h=>yC q 152 [ss (a.get (Fin.mk v0.toNat h))] fun y=>bif y.b 0 then some (ii v0) else k0 (a7 .i64 v0 1) else some (ii (Int.negSucc 0))
def Km (q:YF) (a:Rw BA) (k0:Int→OS):OS:=k0 0
structure Vd where
 x0:Int→OS
def uN (X:Vd):Int→OS:=fun v0=>X.x0 v0
def SS (q:YF) (a:Rw BA) (X:Vd):Vd:=⟨fun v0=>zA q a (uN X) v0⟩
def xu (q:YF) (a:Rw BA):Nat→Vd
 | 0=>⟨fun _=>none⟩
 | n+1=>SS q a (xu q a n)
theorem abY (q:YF) (a:Rw BA) (kk:PK S):Bg a (akq q kk)=zA q a (Bg a kk):=by
 kernel_rfl
theorem VR (q:YF) (a:Rw BA) (kk:PK S):BG q kk 186 Tryz.f186 [S.t (T.rows 1 a.n fun i=>[ts (a.get i)]),S.t (T.v (.func (Go.Fn.func 152) #[] #[]))]=Km q a (Bg a kk):=by
 kernel_rfl
theorem aff (q:YF) (a:Rw BA):∀ n,Bg a (YP q n)=uN (xu q a n)
 | 0=>rfl
 | n+1=>by
  have h0:=aff q a n
  exact (abY q a (YP q n)).trans (by rw [h0];kernel_rfl)
theorem ahT (a:Rw BA) (n:Nat) (x:S) (h:Km (aa O) a (uN (xu (aa O) a n))=some x):(W O).aE 186 [S.t (T.rows 1 a.n fun i=>[ts (a.get i)]),S.t (T.v (.func (Go.Fn.func 152) #[] #[]))]=some x:=by
 refine WG (fn:=Tryz.f186) (by kernel_rfl) (by kernel_rfl) (n:=n) ?_
 refine (VR (aa O) a (YP (aa O) n)).trans ?_
 have h0:=aff (aa O) a n
 rw [h0]
 exact h
abbrev adb (q:YF) (kk:PK S):PK S:=PG q 186 Tryz.f186 kk
abbrev Tc (q:YF):Nat→PK S:=HG q 186 Tryz.f186
def sn (a:Rw BA) (kk:PK S):Int→OS:=fun v0=> kk 2 0 0 (aJ [(0,S.t (T.rows 1 a.n fun i=>[ts (a.get i)])),(8,ii v0),(1,S.t (T.v (.func (Go.Fn.func 229) #[] #[]))),(7,ii (ay a.n))] 0 [])
def sK (q:YF) (a:Rw BA) (k0:Int→OS) (v0:Int):OS:=bif bm v0 (ay a.n) then aU v0 a.n fun h=>yC q 229 [ss (a.get (Fin.mk v0.toNat h))] fun y=>bif y.b 0 then some (ii v0) else k0 (a7 .i64 v0 1) else some (ii (Int.negSucc 0))
def Cm (q:YF) (a:Rw BA) (k0:Int→OS):OS:=k0 0
structure IJ where
 x0:Int→OS
def p8 (X:IJ):Int→OS:=fun v0=>X.x0 v0
def FO (q:YF) (a:Rw BA) (X:IJ):IJ:=⟨fun v0=>sK q a (p8 X) v0⟩
def qv (q:YF) (a:Rw BA):Nat→IJ
 | 0=>⟨fun _=>none⟩
 | n+1=>FO q a (qv q a n)
theorem VN (q:YF) (a:Rw BA) (kk:PK S):sn a (adb q kk)=sK q a (sn a kk):=by
 kernel_rfl
theorem RM (q:YF) (a:Rw BA) (kk:PK S):BG q kk 186 Tryz.f186 [S.t (T.rows 1 a.n fun i=>[ts (a.get i)]),S.t (T.v (.func (Go.Fn.func 229) #[] #[]))]=Cm q a (sn a kk):=by
 kernel_rfl
theorem Yv (q:YF) (a:Rw BA):∀ n,sn a (Tc q n)=p8 (qv q a n)
 | 0=>rfl
 | n+1=>by
  have h0:=Yv q a n
  exact (VN q a (Tc q n)).trans (by rw [h0];kernel_rfl)
theorem afV (a:Rw BA) (n:Nat) (x:S) (h:Cm (aa O) a (p8 (qv (aa O) a n))=some x):(W O).aE 186 [S.t (T.rows 1 a.n fun i=>[ts (a.get i)]),S.t (T.v (.func (Go.Fn.func 229) #[] #[]))]=some x:=by
 refine WG (fn:=Tryz.f186) (by kernel_rfl) (by kernel_rfl) (n:=n) ?_
 refine (RM (aa O) a (Tc (aa O) n)).trans ?_
 have h0:=Yv (aa O) a n
 rw [h0]
 exact h
abbrev ajh (q:YF):Nat→PK S:=HG q 187 Tryz.f187
def nD (q:YF) (a:dC):OS:=yC q 215 [ag (eL a)] fun y=>bif !aR (y.i 0) 0 then some (S.bJ [S.agg [bb false,bb false,bb false,S.t (T.rows 1 0 fT),ii 0,ii 0],ii (y.i 0)]) else yC q 217 [S.t (T.rows 1 1 fun i=>List.take 1 (List.drop (↑i*1) [T.rows 1 a.aL.n fun i=>[ts (a.aL.get i)]]))] fun y=>rT (y.m 0) (bL 998 (y.m 0) (yC q 216 [S.mt (y.m 0)] fun y=>bif aR a.cz 2 then some (S.bJ [S.agg [bb true,bb true,bb false,S.t (T.rows 1 (y.r 0).n (y.r 0).g),ii 0,ii 0],ii 0]) else bif aR a.cz 3 then some (S.bJ [S.agg [bb false,bb true,bb false,S.t (T.rows 1 (y.r 0).n (y.r 0).g),ii 0,ii 0],ii 0]) else bif aR a.cz 4 then some (S.bJ [S.agg [bb true,bb false,bb false,S.t (T.rows 1 (y.r 0).n (y.r 0).g),ii 0,ii 0],ii 0]) else bif aR a.cz 5 then yC q 217 [S.t (T.v (.slice none 0 0))] fun y=>bL 996 (y.m 0) (yC q 218 [ii (a7 .i64 a.fN 1),ii 2147483648,S.mt (y.m 0)] fun y=>some (S.bJ [S.agg [bb (y.b 0),bb (y.b 1),bb (y.b 2),S.t (T.rows 1 (y.r 3).n (y.r 3).g),ii (y.i 4),ii (y.i 5)],ii 0])) else bif aR a.cz 6 then yC q 217 [S.t (T.v (.slice none 0 0))] fun y=>bL 996 (y.m 0) (yC q 218 [ii (Int.negSucc 2147483647),ii (bF .i64 a.fN 1),S.mt (y.m 0)] fun y=>some (S.bJ [S.agg [bb (y.b 0),bb (y.b 1),bb (y.b 2),S.t (T.rows 1 (y.r 3).n (y.r 3).g),ii (y.i 4),ii (y.i 5)],ii 0])) else some (S.bJ [S.agg [bb false,bb false,bb false,S.t (T.rows 1 (y.r 0).n (y.r 0).g),ii 0,ii 0],ii 0])))
theorem Vw (q:YF) (a:dC) (kk:PK S):BG q kk 187 Tryz.f187 [ag (eL a)]=nD q a:=by
 kernel_rfl
theorem ad8 (a:dC) (n:Nat) (x:S) (h:nD (aa O) a=some x):(W O).aE 187 [ag (eL a)]=some x:=by
 refine WG (fn:=Tryz.f187) (by kernel_rfl) (by kernel_rfl) (n:=n) ?_
 refine (Vw (aa O) a (ajh (aa O) n)).trans ?_
 exact h
abbrev aie (q:YF) (kk:PK S):PK S:=PG q 188 Tryz.f188 kk
abbrev aal (q:YF):Nat→PK S:=HG q 188 Tryz.f188
def zH (a:Rw bu) (b:bu) (kk:PK S):Int→OS:=fun v0=> kk 2 0 0 (aJ [(0,S.t (T.rows 3 a.n fun i=>bS (a.get i))),(8,ii v0),(3,S.ptr 0 0),(7,ii (ay a.n))] 1 [(0,B.box (List.map S.t (bS b)))])
def Br (q:YF) (a:Rw bu) (b:bu) (k0:Int→OS) (v0:Int):OS:=bif bm v0 (ay a.n) then aU v0 a.n fun h=>bif ah b.fType (a.get (Fin.mk v0.toNat h)).fType && (ah b.bj (a.get (Fin.mk v0.toNat h)).bj && (ah b.bn (a.get (Fin.mk v0.toNat h)).bn && true)) then some (ii v0) else k0 (a7 .i64 v0 1) else some (ii (Int.negSucc 0))
def JQ (q:YF) (a:Rw bu) (b:bu) (k0:Int→OS):OS:=k0 0
structure Xd where
 x0:Int→OS
def um (X:Xd):Int→OS:=fun v0=>X.x0 v0
def QS (q:YF) (a:Rw bu) (b:bu) (X:Xd):Xd:=⟨fun v0=>Br q a b (um X) v0⟩
def xz (q:YF) (a:Rw bu) (b:bu):Nat→Xd
 | 0=>⟨fun _=>none⟩
 | n+1=>QS q a b (xz q a b n)
theorem acR (q:YF) (a:Rw bu) (b:bu) (kk:PK S):zH a b (aie q kk)=Br q a b (zH a b kk):=by
 kernel_rfl
theorem Xi (q:YF) (a:Rw bu) (b:bu) (kk:PK S):BG q kk 188 Tryz.f188 [S.t (T.rows 3 a.n fun i=>bS (a.get i)),ag (bS b)]=JQ q a b (zH a b kk):=by
 kernel_rfl
theorem agE (q:YF) (a:Rw bu) (b:bu):∀ n,zH a b (aal q n)=um (xz q a b n)
 | 0=>rfl
 | n+1=>by
  have h0:=agE q a b n
  exact (acR q a b (aal q n)).trans (by rw [h0];kernel_rfl)
theorem ai5 (a:Rw bu) (b:bu) (n:Nat) (x:S) (h:JQ (aa O) a b (um (xz (aa O) a b n))=some x):(W O).aE 188 [S.t (T.rows 3 a.n fun i=>bS (a.get i)),ag (bS b)]=some x:=by
 refine WG (fn:=Tryz.f188) (by kernel_rfl) (by kernel_rfl) (n:=n) ?_
 refine (Xi (aa O) a b (aal (aa O) n)).trans ?_
 have h0:=agE (aa O) a b n
 rw [h0]
 exact h
abbrev ajY (q:YF) (kk:PK S):PK S:=PG q 189 Tryz.f189 kk
abbrev Zc (q:YF):Nat→PK S:=HG q 189 Tryz.f189
def zM (a:Rw bT) (b:bT) (kk:PK S):Int→OS:=fun v0=> kk 2 0 0 (aJ [(0,S.t (T.rows 3 a.n fun i=>cZ (a.get i))),(8,ii v0),(3,S.ptr 0 0),(7,ii (ay a.n))] 1 [(0,B.box (List.map S.t (cZ b)))])
def A6 (q:YF) (a:Rw bT) (b:bT) (k0:Int→OS) (v0:Int):OS:=bif bm v0 (ay a.n) then aU v0 a.n fun h=>bif ah b.aZ (a.get (Fin.mk v0.toNat h)).aZ && (ah b.cP (a.get (Fin.mk v0.toNat h)).cP && (r9 b.gL (a.get (Fin.mk v0.toNat h)).gL && true)) then some (ii v0) else k0 (a7 .i64 v0 1) else some (ii (Int.negSucc 0))
def IZ (q:YF) (a:Rw bT) (b:bT) (k0:Int→OS):OS:=k0 0
structure VZ where
 x0:Int→OS
def vg (X:VZ):Int→OS:=fun v0=>X.x0 v0
def PO (q:YF) (a:Rw bT) (b:bT) (X:VZ):VZ:=⟨fun v0=>A6 q a b (vg X) v0⟩
def we (q:YF) (a:Rw bT) (b:bT):Nat→VZ
 | 0=>⟨fun _=>none⟩
 | n+1=>PO q a b (we q a b n)
theorem abM (q:YF) (a:Rw bT) (b:bT) (kk:PK S):zM a b (ajY q kk)=A6 q a b (zM a b kk):=by
 kernel_rfl
theorem WN (q:YF) (a:Rw bT) (b:bT) (kk:PK S):BG q kk 189 Tryz.f189 [S.t (T.rows 3 a.n fun i=>cZ (a.get i)),ag (cZ b)]=IZ q a b (zM a b kk):=by
 kernel_rfl
theorem adF (q:YF) (a:Rw bT) (b:bT):∀ n,zM a b (Zc q n)=vg (we q a b n)
 | 0=>rfl
 | n+1=>by
  have h0:=adF q a b n
  exact (abM q a b (Zc q n)).trans (by rw [h0];kernel_rfl)
theorem akl (a:Rw bT) (b:bT) (n:Nat) (x:S) (h:IZ (aa O) a b (vg (we (aa O) a b n))=some x):(W O).aE 189 [S.t (T.rows 3 a.n fun i=>cZ (a.get i)),ag (cZ b)]=some x:=by
 refine WG (fn:=Tryz.f189) (by kernel_rfl) (by kernel_rfl) (n:=n) ?_
 refine (WN (aa O) a b (Zc (aa O) n)).trans ?_
 have h0:=adF (aa O) a b n
 rw [h0]
 exact h
end
end Go.Proofs.YtonkoellfaopiaaGreatDoor.H
