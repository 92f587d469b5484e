import Derived.Test.YtonkoellfaopiaaGreatDoorD24
import Derived.Test.YtonkoellfaopiaaGreatDoorD23
import Derived.Test.YtonkoellfaopiaaGreatDoorD21
set_option linter.unusedSimpArgs false
set_option linter.unusedVariables false
set_option linter.unusedSectionVars false
namespace Go.Proofs.YtonkoellfaopiaaGreatDoor.H
open Go
noncomputable section
abbrev P42 (q:YF) (kk:PK S):PK S:=PG q 42 Tryz.f42 kk
abbrev H42 (q:YF):Nat→PK S:=HG q 42 Tryz.f42
abbrev T42_0:Type:=bN→Nat→Int→bN→BA→Int→Int→Int→Int→bN→OS
def J_ (a:Rw aV) (b:bu) (c:BA) (d:BA) (kk:PK S):T42_0:=fun v0 v1 v2 v3 u4 u5 u6 u7 u8 u9=> kk 7 0 0 (aJ [(12,S.sl 1 v1),(9,S.ptr 0 0),(13,ii v2)] 2 [(0,B.box [ss u4,ii u5,ii u6,ii u7,ii u8,S.t (T.rows 2 v0.n v0.g),S.t (T.rows 4 u9.n u9.g)]),(1,B.row false 2 v3.n v3.g)])
abbrev T42_1:Type:=bN→Int→Nat→Int→bN→BA→Int→Int→Int→Int→bN→OS
def Ks (a:Rw aV) (b:bu) (c:BA) (d:BA) (kk:PK S):T42_1:=fun v0 v1 v2 v3 v4 u5 u6 u7 u8 u9 u10=> kk 10 0 0 (aJ [(12,S.sl 1 v2),(14,ii v1),(9,S.ptr 0 0),(13,ii v3)] 2 [(0,B.box [ss u5,ii u6,ii u7,ii u8,ii u9,S.t (T.rows 2 v0.n v0.g),S.t (T.rows 4 u10.n u10.g)]),(1,B.row false 2 v4.n v4.g)])
def IG (q:YF) (a:Rw aV) (b:bu) (c:BA) (d:BA) (k1:T42_1):T42_0:=fun v0 v1 v2 v3 u4 u5 u6 u7 u8 u9=>bif bm v2 (ay v0.n) then k1 v0 0 v1 v2 v3 u4 u5 u6 u7 u8 u9 else some (S.t (T.rows 2 v3.n v3.g))
def BQ (q:YF) (a:Rw aV) (b:bu) (c:BA) (d:BA) (k0:T42_0) (k1:T42_1):T42_1:=fun v0 v1 v2 v3 v4 u5 u6 u7 u8 u9 u10=>bif bm v1 (ay v2) then bif bp 0 v1 && bm v1 (Int.ofNat v2) then Ln v1.toNat v4.n fun h=>ff O.P 9 (v4.g (Fin.mk v1.toNat h)) fun y=>aU v3 v0.n fun h=>ff O.P 9 (v0.g (Fin.mk v3.toNat h)) fun y_1=>bif strLt (y.s 0) (y_1.s 0) then k1 v0 (a7 .i64 v1 1) v2 v3 v4 u5 u6 u7 u8 u9 u10 else bif bp 0 v1 && bp v1 (ay v4.n) then iE 0 (cK v1) v4.n fun h=>bif bY (cK v1) 32 then aU v3 v0.n fun h_1=>ff O.P 88 (v0.g (Fin.mk v3.toNat h_1)) fun y=>bif bY (bC (cK v1) 1) 32 then bif bp 0 v1 && bp v1 (ay v4.n) && bp (ay v4.n) (ay v4.n) then iE (cK v1) (eM v4.n (cK v1)) v4.n fun h_2=>bif bY (bC (bC (cK v1) 1) (eM v4.n (cK v1))) 32 then k0 v0 (bC (bC (cK v1) 1) (eM v4.n (cK v1))) (a7 .i64 v3 1) (bN.mk (bC (bC (cK v1) 1) (eM v4.n (cK v1))) (bo (bo (fun i=>v4.g (Fin.mk (0+↑i) (by first | omega | (have:=i.2;omega) | (have:=i_1.2;omega)))) fun i=>List.take 2 (List.drop (↑i*2) [ts (y.s 0),ts (y.s 1)])) fun i=>v4.g (Fin.mk (cK v1+↑i) (by first | omega | (have:=i.2;omega) | (have:=i_1.2;omega))))) u5 u6 u7 u8 u9 u10 else none else none else none else none else none else none else bif bp 0 v1 && bp v1 (ay v4.n) then iE 0 (cK v1) v4.n fun h=>bif bY (cK v1) 32 then aU v3 v0.n fun h_1=>ff O.P 88 (v0.g (Fin.mk v3.toNat h_1)) fun y=>bif bY (bC (cK v1) 1) 32 then bif bp 0 v1 && bp v1 (ay v4.n) && bp (ay v4.n) (ay v4.n) then iE (cK v1) (eM v4.n (cK v1)) v4.n fun h_2=>bif bY (bC (bC (cK v1) 1) (eM v4.n (cK v1))) 32 then k0 v0 (bC (bC (cK v1) 1) (eM v4.n (cK v1))) (a7 .i64 v3 1) (bN.mk (bC (bC (cK v1) 1) (eM v4.n (cK v1))) (bo (bo (fun i=>v4.g (Fin.mk (0+↑i) (by first | omega | (have:=i.2;omega) | (have:=i_1.2;omega)))) fun i=>List.take 2 (List.drop (↑i*2) [ts (y.s 0),ts (y.s 1)])) fun i=>v4.g (Fin.mk (cK v1+↑i) (by first | omega | (have:=i.2;omega) | (have:=i_1.2;omega))))) u5 u6 u7 u8 u9 u10 else none else none else none else none else none
def F0 (q:YF) (a:Rw aV) (b:bu) (c:BA) (d:BA) (k0:T42_0):OS:=yC q 86 [S.t (T.rows 7 a.n fun i=>bk (a.get i)),ag (bS b)] fun y=>bif !y.b 11 then some (S.t (T.rows 2 0 fT)) else k0 (y.r 5) 5 0 (bN.mk 5 fun i=>List.take 2 (List.drop (↑i*2) [ts (bs [104,111,115,116]),ts d,ts (bs [107,105,110,100]),ts b.bn,ts (bs [112,111,111,108]),ts c,ts (bs [116,121,112,101]),ts b.fType,ts (bs [122,111,110,101]),ts b.bj])) (y.s 0) (y.i 1) (y.i 2) (y.i 3) (y.i 4) (y.r 6)
structure X42 where
 x0:bN→Nat→Int→bN→OS
 x1:bN→Int→Nat→Int→bN→OS
def tZ (X:X42):T42_0:=fun v0 v1 v2 v3 _ _ _ _ _ _=>X.x0 v0 v1 v2 v3
def uB (X:X42):T42_1:=fun v0 v1 v2 v3 v4 _ _ _ _ _ _=>X.x1 v0 v1 v2 v3 v4
def MW (q:YF) (a:Rw aV) (b:bu) (c:BA) (d:BA) (X:X42):X42:=⟨fun v0 v1 v2 v3=>IG q a b c d (uB X) v0 v1 v2 v3 dd dd dd dd dd dd,
 fun v0 v1 v2 v3 v4=>BQ q a b c d (tZ X) (uB X) v0 v1 v2 v3 v4 dd dd dd dd dd dd⟩
def pW (q:YF) (a:Rw aV) (b:bu) (c:BA) (d:BA):Nat→X42
 | 0=>⟨fun _ _ _ _=>none,fun _ _ _ _ _=>none⟩
 | n+1=>MW q a b c d (pW q a b c d n)
theorem ag0 (q:YF) (a:Rw aV) (b:bu) (c:BA) (d:BA) (kk:PK S):J_ a b c d (P42 q kk)=IG q a b c d (Ks a b c d kk):=by
 kernel_rfl
theorem adg (q:YF) (a:Rw aV) (b:bu) (c:BA) (d:BA) (kk:PK S):Ks a b c d (P42 q kk)=BQ q a b c d (J_ a b c d kk) (Ks a b c d kk):=by
 kernel_rfl
theorem aaj (q:YF) (a:Rw aV) (b:bu) (c:BA) (d:BA) (kk:PK S):BG q kk 42 Tryz.f42 [S.t (T.rows 7 a.n fun i=>bk (a.get i)),ag (bS b),ss c,ss d]=F0 q a b c d (J_ a b c d kk):=by
 kernel_rfl
theorem h42 (q:YF) (a:Rw aV) (b:bu) (c:BA) (d:BA):∀ n,J_ a b c d (H42 q n)=tZ (pW q a b c d n)∧Ks a b c d (H42 q n)=uB (pW q a b c d n)
 | 0=>⟨rfl,rfl⟩
 | n+1=>by
  obtain ⟨h0,h1⟩:=h42 q a b c d n
  exact ⟨(ag0 q a b c d (H42 q n)).trans (by rw [h1];kernel_rfl),(adg q a b c d (H42 q n)).trans (by rw [h0,h1];kernel_rfl)⟩
theorem W42 (a:Rw aV) (b:bu) (c:BA) (d:BA) (n:Nat) (x:S) (h:F0 (aa O) a b c d (tZ (pW (aa O) a b c d n))=some x):(W O).aE 42 [S.t (T.rows 7 a.n fun i=>bk (a.get i)),ag (bS b),ss c,ss d]=some x:=by
 refine WG (fn:=Tryz.f42) (by kernel_rfl) (by kernel_rfl) (n:=n) ?_
 refine (aaj (aa O) a b c d (H42 (aa O) n)).trans ?_
 obtain ⟨h0,h1⟩:=h42 (aa O) a b c d n
 rw [h0]
 exact h
theorem wC {t:TypeId} {cs:List T} {sh:Sh} {n:Nat} {y0:Y} (hs:shV O.P t 0=some (sh,n)) (hv:mA O.P t (cs.map fun c=>.t (kp c))=some (build y0 sh)):∃ y,build y sh=build y0 sh∧∀ (ρ:Type) (K:Y→Option ρ),ff O.P t cs K=K y:=by
 obtain ⟨y,h1,h2⟩:=nF (sh:=sh) (y:=y0)
 refine ⟨y,h2,fun ρ K=>?_⟩
 unfold ff
 rw [hs]
 show ((mA O.P t (cs.map fun c=>.t (kp c))).bind (unb sh)).bind K=K y
 rw [hv]
 show (unb sh (build y0 sh)).bind K=K y
 rw [h1]
 rfl
theorem AZ (k v:BA):∃ y:Y,y.s 0=k∧∀ (ρ:Type) (K:Y→Option ρ),ff O.P 9 [ts k,ts v] K=K y:=by
 obtain ⟨y,hy,hK⟩:=wC (t:=9) (cs:=[ts k,ts v]) (sh:=.str 0) (n:=1) (y0:=⟨fun _=>0,fun _=>false,fun _=>k,fun _=>⟨0,fun i=>i.elim0⟩,fun _=>[]⟩) (by kernel_rfl) (by kernel_rfl)
 exact ⟨y,by simpa [build] using hy,hK⟩
theorem UO (k v:BA):∃ y:Y,y.s 0=k∧y.s 1=v∧∀ (ρ:Type) (K:Y→Option ρ),ff O.P 88 [ts k,ts v] K=K y:=by
 obtain ⟨y,hy,hK⟩:=wC (t:=88) (cs:=[ts k,ts v]) (sh:=.agg [.str 0,.str 1]) (n:=2) (y0:=⟨fun _=>0,fun _=>false,fun i=>match i with | 0=>k | _=>v,fun _=>⟨0,fun i=>i.elim0⟩,fun _=>[]⟩) (by kernel_rfl) (by kernel_rfl)
 simp only [build,gb,S.agg.injEq,List.cons.injEq,S.t.injEq,T.v.injEq,Value.string.injEq,and_true] at hy
 exact ⟨y,hy.1,hy.2,hK⟩
def ee (l:List (BA × BA)):bN:=⟨l.length,fun i=>[ts (l[i.1]'i.2).1,ts (l[i.1]'i.2).2]⟩
abbrev rwD (r:Rw ch):bN:=⟨r.n,fun i=>dv (r.get i)⟩
theorem Td (x:BA × BA) (l:List (BA × BA)):(fp x l).length=l.length+1:=(ns x l).length_eq
theorem Vt (l:List (BA × BA)) (x:BA × BA) (hx:∀ y∈l,y.1≠x.1) {p:Nat} (hp:p=jA x.1 l) (h1:∀ i:Fin p,0+i.1 < (ee l).n) (h2:∀ i:Fin (eM (ee l).n p),p+i.1 < (ee l).n):
  (⟨bC (bC p 1) (eM (ee l).n p),bo (bo (fun i:Fin p=>(ee l).g ⟨0+i.1,h1 i⟩) fun i:Fin 1=>List.take 2 (List.drop (i.1*2) [ts x.1,ts x.2])) fun i:Fin (eM (ee l).n p)=>(ee l).g ⟨p+i.1,h2 i⟩⟩:bN)=ee (fp x l):=by
 have hpl:p≤l.length:=by rw [hp];exact yR x.1 l
 have hlen:(fp x l).length=l.length+1:=Td x l
 have hat:=J9 x l hx
 rw [← hp] at hat
 have hget:∀ i (h:i < (fp x l).length),(fp x l)[i]=if h1:i < p then l[i]'(by omega) else if h2:i=p then x else l[i - 1]'(by omega):=by
  intro i h
  have e:(fp x l)[i]?=(l.take p++x::l.drop p)[i]?:=by rw [hat]
  rw [List.getElem?_eq_getElem h] at e
  have tl:(l.take p).length=p:=by rw [List.length_take];omega
  by_cases h1:i < p
  ·rw [List.getElem?_append_left (by omega),List.getElem?_take_of_lt h1,List.getElem?_eq_getElem (by omega)] at e
   rw [dif_pos h1]
   exact Option.some.inj e
  ·rw [dif_neg h1,]
   rw [List.getElem?_append_right (by omega),tl] at e
   by_cases h2:i=p
   ·subst h2
    rw [Nat.sub_self] at e
    rw [dif_pos rfl]
    exact Option.some.inj e
   ·rw [dif_neg h2]
    obtain ⟨d,hd⟩:∃ d,i - p=d+1:=⟨i - p - 1,by omega⟩
    rw [hd,List.getElem?_cons_succ,List.getElem?_drop,show p+d=i - 1 by omega,List.getElem?_eq_getElem (by omega)] at e
    exact Option.some.inj e
 refine jt (by show p+1+(l.length - p)=(fp x l).length;omega) fun i hi1 hi2=>?_
 have hi2':i < (fp x l).length:=hi2
 show _=[ts ((fp x l)[i]'hi2').1,ts ((fp x l)[i]'hi2').2]
 rw [hget i hi2']
 by_cases c1:i < p+1
 ·refine (kX (n:=p+1) (m:=l.length - p) hi1 c1).trans ?_
  by_cases c2:i < p
  ·refine (kX (n:=p) (m:=1) c1 c2).trans ?_
   show [ts (l[0+i]'_).1,ts (l[0+i]'_).2]=_
   rw [dif_pos c2]
   simp only [Nat.zero_add]
  ·refine (iZ (g:=fun i:Fin p=>(ee l).g ⟨0+i.1,h1 i⟩) (k:=2) (c:=[ts x.1,ts x.2]) rfl c1 c2).trans ?_
   rw [dif_neg c2,dif_pos (by omega)]
 ·unfold bo
  rw [dif_neg (show ¬ i < bC p 1 from c1)]
  rw [dif_neg (by omega),dif_neg (by omega)]
  show [ts (l[p+(i - (p+1))]'_).1,ts (l[p+(i - (p+1))]'_).2]=_
  simp only [show p+(i - (p+1))=i - 1 by omega]
theorem LQ {r:Rw ch} {o:bu} {bV name:BA} (hn:((gC r o bV name).map (·.1)).Nodup) {m:Nat} (hm:m < r.n):
  jS r o bV name (m+1)=fp ((r.at m).aZ,(r.at m).cP) (jS r o bV name m)∧∀ y∈jS r o bV name m,y.1≠(r.at m).aZ:=by
 have hl:(jU r).length=r.n:=nz r
 have hx:(jU r)[m]'(by omega)=((r.at m).aZ,(r.at m).cP):=by unfold jU;simp
 have ht:(jU r).take (m+1)=(jU r).take m++[((r.at m).aZ,(r.at m).cP)]:=by
  rw [List.take_succ_eq_append_getElem (by omega),hx]
 have hd:∀ y∈oz o bV name++(jU r).take m,y.1≠(r.at m).aZ:=by
  have h2:((oz o bV name++(jU r).take m)++(jU r).drop m).map (·.1)=(gC r o bV name).map (·.1):=by
   unfold gC;rw [List.append_assoc,List.take_append_drop]
  rw [← h2,List.map_append,List.nodup_append] at hn
  intro y hy
  refine hn.2.2 y.1 (List.mem_map_of_mem hy) _ ?_
  rw [List.drop_eq_getElem_cons (by omega),hx]
  simp
 unfold jS
 rw [ht,← List.append_assoc,tQ _ _ hd]
 exact ⟨rfl,fun y hy=>hd y ((gz _).mem_iff.1 hy)⟩
theorem CY (r:Rw ch) (o:bu) (bV name:BA) {m:Nat} (hm:m≤r.n):(jS r o bV name m).length=5+m:=by
 unfold jS
 rw [(gz _).length_eq,List.length_append,List.length_take,nz,show (oz o bV name).length=5 from rfl]
 omega
theorem xi (r:Rw ch) (o:bu) (bV name:BA):jS r o bV name 0=oz o bV name:=by
 show fG (oz o bV name)=_
 kernel_rfl
theorem xp {ρ:Type} {j n:Nat} {K:(j:Int).toNat < n→Option ρ} (h:j < n):Ln (j:Int).toNat n K=K (by simpa using h):=dif_pos _
theorem ahW {a:Rw aV} {b:bu} {c d:BA} {r:Rw ch} (hr:r.n≤4) (hn:((gC r b c d).map (·.1)).Nodup) {m:Nat} (hm:m < r.n) {V:S}
  (hV:Ev (fun q=>(pW (aa O) a b c d q).x0 (rwD r) (jS r b c d (m+1)).length ((m+1:Nat):Int) (ee (jS r b c d (m+1)))) V):∀ k at',at'+k=jA (r.at m).aZ (jS r b c d m)→
  Ev (fun q=>(pW (aa O) a b c d q).x1 (rwD r) (at':Int) (jS r b c d m).length (m:Int) (ee (jS r b c d m))) V:=by
 obtain ⟨hs,hne⟩:=LQ hn hm
 have hlen:=CY r b c d (Nat.le_of_lt hm)
 have hlen2:=CY r b c d (show m+1≤r.n from hm)
 generalize jS r b c d m=l at *
 generalize hl2:jS r b c d (m+1)=l2 at *
 obtain ⟨y9,h9,hK9⟩:=AZ (r.at m).aZ (r.at m).cP
 obtain ⟨y8,h8,h8v,hK8⟩:=UO (r.at m).aZ (r.at m).cP
 have hpl:=yR (r.at m).aZ l
 have hK9':∀ (ρ:Type) (K:Y→Option ρ),ff O.P 9 (dv (r.at m)) K=K y9:=hK9
 have hK8':∀ (ρ:Type) (K:Y→Option ρ),ff O.P 88 (dv (r.at m)) K=K y8:=hK8
 have hm2:m < 2 ^ 62:=by omega
 have put:∀ (X:X42) (p:Nat),p=jA (r.at m).aZ l→(bif bp 0 (p:Int) && bp (p:Int) (ay (ee l).n) then iE 0 (cK (p:Int)) (ee l).n fun h=>bif bY (cK (p:Int)) 32 then ff O.P 88 (dv (r.at m)) fun y=>bif bY (bC (cK (p:Int)) 1) 32 then bif bp 0 (p:Int) && bp (p:Int) (ay (ee l).n) && bp (ay (ee l).n) (ay (ee l).n) then iE (cK (p:Int)) (eM (ee l).n (cK (p:Int))) (ee l).n fun h_2=>bif bY (bC (bC (cK (p:Int)) 1) (eM (ee l).n (cK (p:Int)))) 32 then X.x0 (rwD r) (bC (bC (cK (p:Int)) 1) (eM (ee l).n (cK (p:Int)))) (a7 .i64 (m:Int) 1) (bN.mk (bC (bC (cK (p:Int)) 1) (eM (ee l).n (cK (p:Int)))) (bo (bo (fun i=>(ee l).g (Fin.mk (0+i.1) (by first | omega | (have:=i.2;omega)))) fun i:Fin 1=>List.take 2 (List.drop (i.1*2) [ts (y.s 0),ts (y.s 1)])) fun i=>(ee l).g (Fin.mk (cK (p:Int)+i.1) (by first | omega | (have:=i.2;omega))))) else none else none else none else none else none)
   = X.x0 (rwD r) l2.length ((m+1:Nat):Int) (ee l2):=fun X p hp=>by
  have e1:bp 0 (p:Int)=true:=by unfold bp;simp
  have e2:bp (p:Int) (ay (ee l).n)=true:=by unfold bp ay ee;dsimp only;rw [decide_eq_true_eq];omega
  have e3:bp (ay (ee l).n) (ay (ee l).n)=true:=by unfold bp;simp
  have e4:cK (p:Int)=p:=rfl
  have e5:(ee l).n=l.length:=rfl
  have f1:bY (cK (p:Int)) 32=true:=eZ (by rw [e4];omega) (by rw [e4];omega)
  have f2:bY (bC (cK (p:Int)) 1) 32=true:=eZ (by rw [e4];unfold bC;omega) (by rw [e4];unfold bC;omega)
  have f3:bY (bC (bC (cK (p:Int)) 1) (eM (ee l).n (cK (p:Int)))) 32=true:=eZ (by rw [e4];unfold bC eM;omega) (by rw [e4];unfold bC eM;omega)
  have s1:0+cK (p:Int)≤(ee l).n:=by rw [e4];omega
  have s2:cK (p:Int)+eM (ee l).n (cK (p:Int))≤(ee l).n:=by rw [e4];unfold eM;omega
  simp only [e1,e2,e3,Bool.and_self,cond_true,f1,f2,f3,iQ s1,iQ s2,hK8',h8,h8v,aA hm2]
  have hr:=Vt l ((r.at m).aZ,(r.at m).cP) hne hp (fun i=>by have:=i.2;omega) (fun i=>by have:=i.2;unfold eM at this;omega)
  have hz:bC (bC p 1) (eM (ee l).n p)=l2.length:=by rw [hlen2,e5,hlen];unfold bC eM;omega
  rw [hs]
  have h3:(fp ((r.at m).aZ,(r.at m).cP) l).length=bC (bC p 1) (eM (ee l).n p):=by rw [hz,hs]
  rw [h3]
  exact congrArg (X.x0 _ _ _) hr
 intro k
 induction k with
 | zero=>
  intro p hp
  have hp:p=jA (r.at m).aZ l:=by omega
  refine Ev.by 1 (fun q=>?_) hV
  rw [pW]
  generalize pW (aa O) a b c d q=X
  by_cases h:p < l.length
  ·obtain ⟨z,hz⟩:∃ z,l[p]=z:=⟨_,rfl⟩
   obtain ⟨y,hy,hK⟩:=AZ z.1 z.2
   have e1:(bp 0 (p:Int) && bm (p:Int) (Int.ofNat l.length))=true:=by unfold bp bm;rw [Bool.and_eq_true,decide_eq_true_eq,decide_eq_true_eq];show _∧(p:Int) < (l.length:Int);omega
   have hh:p < (ee l).n:=h
   have hK':∀ (hq:(p:Int).toNat < (ee l).n) (ρ:Type) (K:Y→Option ρ),ff O.P 9 ((ee l).g (Fin.mk (p:Int).toNat hq)) K=K y:=fun _=>by show ∀ (ρ:Type) (K:Y→Option ρ),ff O.P 9 [ts (l[p]'h).1,ts (l[p]'h).2] K=K y;rw [hz];exact hK
   have hlt:strLt z.1 (r.at m).aZ=false:=by
    have:=Jt (r.at m).aZ l (by omega)
    simp only [← hp,hz] at this
    exact this
   simp only [MW,BQ,tZ,uB,aq,h,decide_true,cond_true,e1,xp hh,hK',av hm,aK,hK9',hy,h9,hlt,cond_false]
   exact put X p hp
  ·have hlt:decide (p < l.length)=false:=decide_eq_false h
   simp only [MW,BQ,tZ,uB,aq,hlt,cond_false,av hm,aK]
   exact put X p hp
 | succ k ih=>
  intro p hp
  have hpp:p < jA (r.at m).aZ l:=by omega
  have h:p < l.length:=by omega
  refine Ev.by 1 (fun q=>?_) (ih (p+1) (by omega))
  rw [pW]
  generalize pW (aa O) a b c d q=X
  obtain ⟨z,hz⟩:∃ z,l[p]=z:=⟨_,rfl⟩
  obtain ⟨y,hy,hK⟩:=AZ z.1 z.2
  have e1:(bp 0 (p:Int) && bm (p:Int) (Int.ofNat l.length))=true:=by unfold bp bm;rw [Bool.and_eq_true,decide_eq_true_eq,decide_eq_true_eq];show _∧(p:Int) < (l.length:Int);omega
  have hh:p < (ee l).n:=h
  have hK':∀ (hq:(p:Int).toNat < (ee l).n) (ρ:Type) (K:Y→Option ρ),ff O.P 9 ((ee l).g (Fin.mk (p:Int).toNat hq)) K=K y:=fun _=>by show ∀ (ρ:Type) (K:Y→Option ρ),ff O.P 9 [ts (l[p]'h).1,ts (l[p]'h).2] K=K y;rw [hz];exact hK
  have hlt:strLt z.1 (r.at m).aZ=true:=hz ▸ K5 _ l p h hpp
  simp only [MW,BQ,tZ,uB,aq,h,decide_true,cond_true,e1,xp hh,hK',av hm,aK,hK9',hy,h9,hlt,aA (show p < 2 ^ 62 by omega)]
theorem c42 (a:Rw aV) (o:bu) (bV name:BA) (ha:ga eQ a) (ht:dX a=0) (ho:hasB a o=true):ca 42 [S.t (T.rows 7 a.n fun i=>bk (a.get i)),ag (bS o),ss bV,ss name] (qM (nR a o bV name)):=by
 obtain ⟨p,hp⟩:=Option.isSome_iff_exists.1 (show (iF a o).isSome=true from ho)
 have hl:=oc ht hp
 obtain ⟨h4,hnd⟩:=oC hl o bV name
 obtain ⟨y,h1,hK⟩:=iR (sh:=t_) (y0:=yQ (iF a o)) (by kernel_rfl) (ag9 a o ha)
 rw [hp] at h1
 simp only [t_,build,gb,yQ,S.bJ.injEq,S.agg.injEq,List.cons.injEq,S.t.injEq,T.v.injEq,Value.int.injEq,Value.bool.injEq,true_and,and_true] at h1
 obtain ⟨⟨_,_,_,_,_,q5,_⟩,_,q11⟩:=h1
 have q5:y.r 5=rwD p.1.aS:=TS (sz:=2) (congrArg S.t q5)
 have all:∀ k m,m+k=p.1.aS.n→Ev (fun q=>(pW (aa O) a o bV name q).x0 (rwD p.1.aS) (jS p.1.aS o bV name m).length (m:Int) (ee (jS p.1.aS o bV name m))) (qM (jS p.1.aS o bV name p.1.aS.n)):=by
  intro k
  induction k with
  | zero=>
   intro m hm
   obtain rfl:m=p.1.aS.n:=by omega
   refine Ev.one 1 fun q=>?_
   rw [pW]
   simp only [MW,IG,aq,Nat.lt_irrefl,decide_false,cond_false]
   rfl
  | succ k ih=>
   intro m hm
   have hlt:m < p.1.aS.n:=by omega
   refine Ev.by 1 (fun q=>?_) (ahW h4 hnd hlt (ih (m+1) (by omega)) (jA (p.1.aS.at m).aZ (jS p.1.aS o bV name m)) 0 (by omega))
   rw [pW]
   simp only [MW,IG,uB,aq,hlt,decide_true,cond_true]
   rfl
 obtain ⟨n,hn⟩:=(all p.1.aS.n 0 (by omega)).get
 refine W42 a o bV name n _ ?_
 have e0:(⟨5,fun i=>List.take 2 (List.drop (i.1*2) [ts (bs [104,111,115,116]),ts name,ts (bs [107,105,110,100]),ts o.bn,ts (bs [112,111,111,108]),ts bV,ts (bs [116,121,112,101]),ts o.fType,ts (bs [122,111,110,101]),ts o.bj])⟩:bN)=ee (jS p.1.aS o bV name 0):=by
  rw [xi]
  exact jt rfl fun i h1 h2=>uj o bV name ⟨i,h1⟩
 have e5:(5:Nat)=(jS p.1.aS o bV name 0).length:=by rw [xi];rfl
 simp only [F0,hK,q11,q5,Bool.not_true,cond_false,tZ]
 rw [e0]
 have hv:nR a o bV name=jS p.1.aS o bV name p.1.aS.n:=by
  unfold nR jS
  rw [hp,← nz p.1.aS,List.take_length]
  rfl
 rw [hv]
 exact (congrArg (fun z=>(pW (aa O) a o bV name n).x0 (rwD p.1.aS) z ((0:Nat):Int) (ee (jS p.1.aS o bV name 0))) e5).trans hn
def jH (a:aP) (m:Nat):bN:=⟨m,fun i=>h55 (lW a i.1)⟩
theorem RF (a:aP) (m:Nat):(⟨bC (jH a m).n 1,bo (jH a m).g fun i:Fin 1=>List.take 21 (List.drop (i.1*21) (h55 (lW a m)))⟩:bN)=jH a (m+1):=by
 refine jt rfl fun i h1 h2=>?_
 by_cases h:i < m
 ·exact kX (n:=m) (m:=1) h1 h
 ·refine (iZ (g:=(jH a m).g) (k:=21) (c:=h55 (lW a m)) rfl h1 h).trans ?_
  have:i < m+1:=h1
  obtain rfl:i=m:=by omega
  rfl
theorem ac5 {a:aP} (ok:qb a) {j:Nat} (hj:j < a.ae.n) {c:cQ} (ec:a.ae.at j=c) (m:Nat):
  (dS (aa O) a (m+3)).x2 c c.af c.bc c.dB c.al c.aj c.ak c.bG c.a6 c.a8 c.bh c.dQ c.eG c.bM c.dD c.dE (me a c) (j:Int) (l6 (p_ a c.af)) (jH a j) (cU a c.af 0) (cU a c.af 1)
   = (dS (aa O) a m).x0 ((j+1:Nat):Int) (jH a (j+1)):=by
 have hj2:j < 2 ^ 62:=by have:=ok.jg;omega
 have hc:=ok.cap hj
 rw [ec] at hc
 have u0:=dM ok c.af 0 a.an.n (Nat.le_refl _)
 have u1:=dM ok c.af 1 a.an.n (Nat.le_refl _)
 have s0:bF .i64 c.a6 (cU a c.af 0)=c.a6 - cU a c.af 0:=by unfold bF cU;exact i64_in (by omega)
 have s1:bF .i64 c.a8 (cU a c.af 1)=c.a8 - cU a c.af 1:=by unfold bF cU;exact i64_in (by omega)
 have f:bY (bC (jH a j).n 1) 264=true:=eZ (by have:=ok.jg;show (j+1)*264≤_;omega) (by have:=ok.jg;show j+1≤_;omega)
 have e:=RF a j
 have en:h55 (lW a j)=h55 (SK a c):=by unfold lW;rw [ec]
 rw [en] at e
 have h6:(dS (aa O) a (m+1)).x6 c.af c.bc c.dB c.al c.aj c.ak c.bG c.a6 c.a8 c.bh c.dQ c.eG c.bM c.dD c.dE (me a c) (max 0 (c.a6 - cU a c.af 0)) (max 0 (c.a8 - cU a c.af 1)) (j:Int) (l6 (p_ a c.af)) (jH a j) (cU a c.af 0) (cU a c.af 1)
   = (dS (aa O) a m).x0 ((j+1:Nat):Int) (jH a (j+1)):=by
  rw [dS]
  generalize dS (aa O) a m=X
  simp only [rV,Tf,CO,f,cond_true,aA hj2]
  exact congrArg (X.x0 _) e
 have h4:(dS (aa O) a (m+2)).x4 c c.af c.bc c.dB c.al c.aj c.ak c.bG c.a6 c.a8 c.bh c.dQ c.eG c.bM c.dD c.dE (me a c) (max 0 (c.a6 - cU a c.af 0)) (j:Int) (l6 (p_ a c.af)) (jH a j) (cU a c.af 0) (cU a c.af 1)
   = (dS (aa O) a m).x0 ((j+1:Nat):Int) (jH a (j+1)):=by
  rw [dS]
  generalize dS (aa O) a (m+1)=X at h6 ⊢
  simp only [rV,QP,Oh,s1,IV,h6]
 rw [dS]
 generalize dS (aa O) a (m+2)=X at h4 ⊢
 simp only [rV,Ui,Qb,s0,IV,h4]
theorem agh {a:aP} (ok:qb a) {j:Nat} (hj:j < a.ae.n) {c:cQ} (ec:a.ae.at j=c) {V:S} (hV:Ev (fun m=>(dS (aa O) a m).x0 ((j+1:Nat):Int) (jH a (j+1))) V):∀ k m,m+k=a.an.n→
  Ev (fun q=>(dS (aa O) a q).x1 c c.af c.bc c.dB c.al c.aj c.ak c.bG c.a6 c.a8 c.bh c.dQ c.eG c.bM c.dD c.dE (me a c) (m:Int) (l6 (eu a c.af m)) (bU a c.af 0 m) (bU a c.af 1 m) (j:Int) (jH a j)) V
 | 0,m,hm=>by
  obtain rfl:m=a.an.n:=by omega
  refine Ev.by 4 (fun q=>?_) hV
  have h2:=ac5 ok hj ec q
  rw [dS]
  generalize dS (aa O) a (q+3)=X at h2 ⊢
  simp only [rV,Da,Ra,aq,Nat.lt_irrefl,decide_false,cond_false]
  exact h2
 | k+1,m,hm=>by
  have hlt:m < a.an.n:=by omega
  have hm2:m < 2 ^ 62:=by have:=ok.qR;omega
  have hn:=ok.WS hlt
  have u0:=dM ok c.af 0 m (by omega)
  have u1:=dM ok c.af 1 m (by omega)
  have pl:=lK a c.af m
  have hp:=ok.qR
  have f:bY (bC (l6 (eu a c.af m)).n 1) 16=true:=eZ (by show ((eu a c.af m).length+1)*16≤_;omega) (by show (eu a c.af m).length+1≤_;omega)
  have a0:a7 .i64 (bU a c.af 0 m) (a.an.at m).dj=bU a c.af 0 m+iq 0 (a.an.at m):=by unfold a7;exact i64_in (by omega)
  have a1:a7 .i64 (bU a c.af 1 m) (a.an.at m).dk=bU a c.af 1 m+iq 1 (a.an.at m):=by unfold a7;exact i64_in (by omega)
  have ih:=agh ok hj ec hV k (m+1) (by omega)
  have e1:eu a c.af (m+1)=bif BI a c.af m then eu a c.af m++[(a.an.at m).af] else eu a c.af m:=rfl
  have e2:bU a c.af 0 (m+1)=bif BI a c.af m then min 1125899906842624 (bU a c.af 0 m+iq 0 (a.an.at m)) else bU a c.af 0 m:=rfl
  have e3:bU a c.af 1 (m+1)=bif BI a c.af m then min 1125899906842624 (bU a c.af 1 m+iq 1 (a.an.at m)) else bU a c.af 1 m:=rfl
  rw [e1,e2,e3] at ih
  cases ho:BI a c.af m with
  | false=>
   rw [ho] at ih
   simp only [cond_false] at ih
   refine Ev.by 1 (fun q=>?_) ih
   have ho':ah (a.an.at m).jI c.af=false:=ho
   rw [dS]
   generalize dS (aa O) a q=X
   simp only [rV,Da,uv,aq,hlt,decide_true,cond_true,av hlt,aK,ho',cond_false,aA hm2]
  | true=>
   rw [ho] at ih
   simp only [cond_true] at ih
   refine Ev.by 4 (fun q=>?_) ih
   have ho':ah (a.an.at m).jI c.af=true:=ho
   generalize hR:l6 (eu a c.af m++[(a.an.at m).af])=R
   generalize hU0:min 1125899906842624 (bU a c.af 0 m+iq 0 (a.an.at m))=U0
   generalize hU1:min 1125899906842624 (bU a c.af 1 m+iq 1 (a.an.at m))=U1
   have h7:(dS (aa O) a (q+1)).x7 (m:Int) R c c.af c.bc c.dB c.al c.aj c.ak c.bG c.a6 c.a8 c.bh c.dQ c.eG c.bM c.dD c.dE (me a c) U0 U1 (j:Int) (jH a j)=(dS (aa O) a q).x1 c c.af c.bc c.dB c.al c.aj c.ak c.bG c.a6 c.a8 c.bh c.dQ c.eG c.bM c.dD c.dE (me a c) ((m+1:Nat):Int) R U0 U1 (j:Int) (jH a j):=by
    rw [dS]
    generalize dS (aa O) a q=X
    simp only [rV,RL,uv,aA hm2]
   have h5:(dS (aa O) a (q+2)).x5 (m:Int) R c (a.an.at m) c.af c.bc c.dB c.al c.aj c.ak c.bG c.a6 c.a8 c.bh c.dQ c.eG c.bM c.dD c.dE (me a c) U0 (j:Int) (jH a j) (bU a c.af 1 m)=(dS (aa O) a q).x1 c c.af c.bc c.dB c.al c.aj c.ak c.bG c.a6 c.a8 c.bh c.dQ c.eG c.bM c.dD c.dE (me a c) ((m+1:Nat):Int) R U0 U1 (j:Int) (jH a j):=by
    rw [dS]
    generalize dS (aa O) a (q+1)=X at h7 ⊢
    simp only [rV,Sg,R9,a1,Jb,hU1,h7]
   have h3:(dS (aa O) a (q+3)).x3 R c (a.an.at m) c.af c.bc c.dB c.al c.aj c.ak c.bG c.a6 c.a8 c.bh c.dQ c.eG c.bM c.dD c.dE (me a c) (m:Int) (j:Int) (jH a j) (bU a c.af 0 m) (bU a c.af 1 m)=(dS (aa O) a q).x1 c c.af c.bc c.dB c.al c.aj c.ak c.bG c.a6 c.a8 c.bh c.dQ c.eG c.bM c.dD c.dE (me a c) ((m+1:Nat):Int) R U0 U1 (j:Int) (jH a j):=by
    rw [dS]
    generalize dS (aa O) a (q+2)=X at h5 ⊢
    simp only [rV,Sj,Po,a0,Jb,hU0,h5]
   rw [dS]
   generalize dS (aa O) a (q+3)=X at h3 ⊢
   simp only [rV,Da,Oy,aq,hlt,decide_true,cond_true,av hlt,aK,ho',f,C5,hR,h3]
theorem c12 (a:aP) (ha:vL a):ca 12 [ag (bI a)] (.bJ [.t (.rows 21 (bif aR (fH a) 0 then qL a else ⟨0,fun i=>i.elim0⟩).n fun i=>h55 ((bif aR (fH a) 0 then qL a else ⟨0,fun i=>i.elim0⟩:Rw gM).get i)),ii (fH a)]):=by
 obtain ⟨y,hy,hK⟩:=aN (by kernel_rfl) (c10 a ha)
 cases hc:aR (fH a) 0 with
 | false=>
  refine W12 a 0 _ ?_
  simp only [yV,hK,hy,hc,Bool.not_false,cond_true]
  refine congrArg some ?_
  congr 3
  congr 1
  funext i
  exact i.elim0
 | true=>
  have ok:=aaQ (cJ.1 hc)
  have all:∀ k j,j+k=a.ae.n→Ev (fun m=>(dS (aa O) a m).x0 (j:Int) (jH a j)) (.bJ [.t (.rows 21 (jH a a.ae.n).n (jH a a.ae.n).g),ii 0]):=by
   intro k
   induction k with
   | zero=>
    intro j hj
    obtain rfl:j=a.ae.n:=by omega
    refine Ev.one 1 fun m=>?_
    rw [dS]
    generalize dS (aa O) a m=X
    simp only [rV,Jc,aq,Nat.lt_irrefl,decide_false,cond_false]
   | succ k ih=>
    intro j hj
    have hlt:j < a.ae.n:=by omega
    have hV:=ih (j+1) (by omega)
    obtain ⟨c,ec⟩:∃ c,a.ae.at j=c:=⟨_,rfl⟩
    have hh:=ok.has hlt
    rw [ec] at hh
    obtain ⟨l,hl,hL⟩:=agL (by kernel_rfl) (c42 a.aw (lB c) c.bc c.af ha.types ok.types hh)
    have hl:l.r 0=me a c:=TS hl
    have hL:∀ (ρ:Type) (K:Y→Option ρ),yC (aa O) 42 [S.t (T.rows 7 a.aw.n fun i=>bk (a.aw.get i)),S.agg [ss c.al,ss c.aj,ss c.ak],ss c.bc,ss c.af] K=K l:=hL
    refine Ev.by 1 (fun m=>?_) (agh ok hlt ec hV a.an.n 0 (by omega))
    rw [dS]
    generalize dS (aa O) a m=X
    simp only [rV,Jc,uv,aq,hlt,decide_true,cond_true,av hlt,aK,ec,hL,hl,tz]
    rfl
  obtain ⟨n,hn⟩:=(all a.ae.n 0 (by omega)).get
  refine W12 a n _ ?_
  have e0:(⟨0,fT⟩:bN)=jH a 0:=jt rfl fun i h=>by cases h
  simp only [yV,hK,hy,hc,Bool.not_true,cond_false,CO,e0]
  refine hn.trans ?_
  rw [cJ.1 hc]
  rfl
abbrev P13 (q:YF) (kk:PK S):PK S:=PG q 13 Tryz.f13 kk
abbrev H13 (q:YF):Nat→PK S:=HG q 13 Tryz.f13
def I4 (a:Rw gM) (b:Rw gM) (kk:PK S):Int→OS:=fun v0=> kk 4 0 0 (aJ [(0,S.t (T.rows 21 a.n fun i=>ql (a.get i))),(18,ii v0),(1,S.t (T.rows 21 b.n fun i=>ql (b.get i))),(17,ii (ay a.n))] 0 [])
abbrev T13_1:Type:=Int→gM→gM→Int→Int→OS
def Jx (a:Rw gM) (b:Rw gM) (kk:PK S):T13_1:=fun v0 v1 v2 v3 v4=> kk 11 0 0 (aJ [(0,S.t (T.rows 21 a.n fun i=>ql (a.get i))),(172,ii v3),(18,ii v4),(6,S.ptr 0 0),(1,S.t (T.rows 21 b.n fun i=>ql (b.get i))),(17,ii (ay a.n)),(171,ii v0),(7,S.ptr 1 0)] 2 [(0,B.box (List.map S.t (ql v1))),(1,B.box (List.map S.t (ql v2)))])
def JE (a:Rw gM) (b:Rw gM) (kk:PK S):T13_1:=fun v0 v1 v2 v3 v4=> kk 17 0 0 (aJ [(0,S.t (T.rows 21 a.n fun i=>ql (a.get i))),(18,ii v4),(6,S.ptr 0 0),(190,ii v3),(1,S.t (T.rows 21 b.n fun i=>ql (b.get i))),(17,ii (ay a.n)),(189,ii v0),(7,S.ptr 1 0)] 2 [(0,B.box (List.map S.t (ql v1))),(1,B.box (List.map S.t (ql v2)))])
def Ki (a:Rw gM) (b:Rw gM) (kk:PK S):T13_1:=fun v0 v1 v2 v3 v4=> kk 23 0 0 (aJ [(0,S.t (T.rows 21 a.n fun i=>ql (a.get i))),(208,ii v0),(18,ii v4),(6,S.ptr 0 0),(1,S.t (T.rows 21 b.n fun i=>ql (b.get i))),(17,ii (ay a.n)),(209,ii v3),(7,S.ptr 1 0)] 2 [(0,B.box (List.map S.t (ql v1))),(1,B.box (List.map S.t (ql v2)))])
def Le (q:YF) (a:Rw gM) (b:Rw gM) (k1:T13_1) (v0:Int):OS:=bif bm v0 (ay a.n) then aU v0 a.n fun h=>aU v0 b.n fun h_1=>bif !(aR (a.get (Fin.mk v0.toNat h)).pZ (b.get (Fin.mk v0.toNat h_1)).pZ && (aR (a.get (Fin.mk v0.toNat h)).p6 (b.get (Fin.mk v0.toNat h_1)).p6 && true)) then some (bb false) else bif !(aR (a.get (Fin.mk v0.toNat h)).pk (b.get (Fin.mk v0.toNat h_1)).pk && (aR (a.get (Fin.mk v0.toNat h)).pd (b.get (Fin.mk v0.toNat h_1)).pd && true)) then some (bb false) else bif !aR (ay (a.get (Fin.mk v0.toNat h)).an.n) (ay (b.get (Fin.mk v0.toNat h_1)).an.n) then some (bb false) else bif !aR (ay (a.get (Fin.mk v0.toNat h)).aS.n) (ay (b.get (Fin.mk v0.toNat h_1)).aS.n) then some (bb false) else bif !ah (a.get (Fin.mk v0.toNat h)).iO (b.get (Fin.mk v0.toNat h_1)).iO then some (bb false) else bif !aR (a.get (Fin.mk v0.toNat h)).gZ (b.get (Fin.mk v0.toNat h_1)).gZ then some (bb false) else bif !ah (a.get (Fin.mk v0.toNat h)).kH (b.get (Fin.mk v0.toNat h_1)).kH then some (bb false) else bif !(ah (a.get (Fin.mk v0.toNat h)).eh (b.get (Fin.mk v0.toNat h_1)).eh && (ah (a.get (Fin.mk v0.toNat h)).d_ (b.get (Fin.mk v0.toNat h_1)).d_ && (ah (a.get (Fin.mk v0.toNat h)).ea (b.get (Fin.mk v0.toNat h_1)).ea && true))) then some (bb false) else bif !(aR (a.get (Fin.mk v0.toNat h)).gY (b.get (Fin.mk v0.toNat h_1)).gY && (aR (a.get (Fin.mk v0.toNat h)).gW (b.get (Fin.mk v0.toNat h_1)).gW && true)) then some (bb false) else bif !r9 (a.get (Fin.mk v0.toNat h)).gl (b.get (Fin.mk v0.toNat h_1)).gl then some (bb false) else bif !aR (a.get (Fin.mk v0.toNat h)).iY (b.get (Fin.mk v0.toNat h_1)).iY then some (bb false) else bif !aR (a.get (Fin.mk v0.toNat h)).jM (b.get (Fin.mk v0.toNat h_1)).jM then some (bb false) else bif !ah (a.get (Fin.mk v0.toNat h)).iP (b.get (Fin.mk v0.toNat h_1)).iP then some (bb false) else bif !aR (a.get (Fin.mk v0.toNat h)).jF (b.get (Fin.mk v0.toNat h_1)).jF then some (bb false) else bif !aR (a.get (Fin.mk v0.toNat h)).gS (b.get (Fin.mk v0.toNat h_1)).gS then some (bb false) else bif !aR (ay (a.get (Fin.mk v0.toNat h)).bw.n) (ay (b.get (Fin.mk v0.toNat h_1)).bw.n) then some (bb false) else k1 (ay (a.get (Fin.mk v0.toNat h)).an.n) (a.get (Fin.mk v0.toNat h)) (b.get (Fin.mk v0.toNat h_1)) 0 v0 else some (bb true)
def K4 (q:YF) (a:Rw gM) (b:Rw gM) (k1:T13_1) (k2:T13_1):T13_1:=fun v0 v1 v2 v3 v4=>bif bm v3 v0 then aU v3 v1.an.n fun h=>aU v3 v2.an.n fun h_1=>bif !ah (v1.an.get (Fin.mk v3.toNat h)) (v2.an.get (Fin.mk v3.toNat h_1)) then some (bb false) else k1 v0 v1 v2 (a7 .i64 v3 1) v4 else k2 (ay v1.aS.n) v1 v2 0 v4
def JV (q:YF) (a:Rw gM) (b:Rw gM) (k2:T13_1) (k3:T13_1) (v0:Int) (v1 v2:gM) (v3 v4:Int):OS:=bif bm v3 v0 then aU v3 v1.aS.n fun h=>aU v3 v2.aS.n fun h_1=>bif !(ah (v1.aS.get (Fin.mk v3.toNat h)).aZ (v2.aS.get (Fin.mk v3.toNat h_1)).aZ && (ah (v1.aS.get (Fin.mk v3.toNat h)).cP (v2.aS.get (Fin.mk v3.toNat h_1)).cP && true)) then some (bb false) else k2 v0 v1 v2 (a7 .i64 v3 1) v4 else k3 (ay v1.bw.n) v1 v2 0 v4
def LC (q:YF) (a:Rw gM) (b:Rw gM) (k0:Int→OS) (k3:T13_1) (v0:Int) (v1 v2:gM) (v3 v4:Int):OS:=bif bm v3 v0 then aU v3 v1.bw.n fun h=>aU v3 v2.bw.n fun h_1=>bif !(ah (v1.bw.get (Fin.mk v3.toNat h)).fType (v2.bw.get (Fin.mk v3.toNat h_1)).fType && (ah (v1.bw.get (Fin.mk v3.toNat h)).bj (v2.bw.get (Fin.mk v3.toNat h_1)).bj && (ah (v1.bw.get (Fin.mk v3.toNat h)).bn (v2.bw.get (Fin.mk v3.toNat h_1)).bn && true))) then some (bb false) else k3 v0 v1 v2 (a7 .i64 v3 1) v4 else k0 (a7 .i64 v4 1)
def G9 (q:YF) (a:Rw gM) (b:Rw gM) (k0:Int→OS):OS:=bif !aR (ay a.n) (ay b.n) then some (bb false) else k0 0
structure X13 where
 x0:Int→OS
 x1:Int→gM→gM→Int→Int→OS
 x2:Int→gM→gM→Int→Int→OS
 x3:Int→gM→gM→Int→Int→OS
def B8 (X:X13):Int→OS:=fun v0=>X.x0 v0
def Dd (X:X13):T13_1:=fun v0 v1 v2 v3 v4=>X.x1 v0 v1 v2 v3 v4
def CN (X:X13):T13_1:=fun v0 v1 v2 v3 v4=>X.x2 v0 v1 v2 v3 v4
def C4 (X:X13):T13_1:=fun v0 v1 v2 v3 v4=>X.x3 v0 v1 v2 v3 v4
def Bh (q:YF) (a:Rw gM) (b:Rw gM) (X:X13):X13:=⟨fun v0=>Le q a b (Dd X) v0,
 fun v0 v1 v2 v3 v4=>K4 q a b (Dd X) (CN X) v0 v1 v2 v3 v4,
 fun v0 v1 v2 v3 v4=>JV q a b (CN X) (C4 X) v0 v1 v2 v3 v4,
 fun v0 v1 v2 v3 v4=>LC q a b (B8 X) (C4 X) v0 v1 v2 v3 v4⟩
def i_ (q:YF) (a:Rw gM) (b:Rw gM):Nat→X13
 | 0=>⟨fun _=>none,fun _ _ _ _ _=>none,fun _ _ _ _ _=>none,fun _ _ _ _ _=>none⟩
 | n+1=>Bh q a b (i_ q a b n)
theorem aeG (q:YF) (a:Rw gM) (b:Rw gM) (kk:PK S):I4 a b (P13 q kk)=Le q a b (Jx a b kk):=by
 kernel_rfl
theorem ahx (q:YF) (a:Rw gM) (b:Rw gM) (kk:PK S):Jx a b (P13 q kk)=K4 q a b (Jx a b kk) (JE a b kk):=by
 kernel_rfl
theorem agd (q:YF) (a:Rw gM) (b:Rw gM) (kk:PK S):JE a b (P13 q kk)=JV q a b (JE a b kk) (Ki a b kk):=by
 kernel_rfl
theorem afB (q:YF) (a:Rw gM) (b:Rw gM) (kk:PK S):Ki a b (P13 q kk)=LC q a b (I4 a b kk) (Ki a b kk):=by
 kernel_rfl
theorem ZY (q:YF) (a:Rw gM) (b:Rw gM) (kk:PK S):BG q kk 13 Tryz.f13 [S.t (T.rows 21 a.n fun i=>ql (a.get i)),S.t (T.rows 21 b.n fun i=>ql (b.get i))]=G9 q a b (I4 a b kk):=by
 kernel_rfl
theorem h13 (q:YF) (a:Rw gM) (b:Rw gM):∀ n,I4 a b (H13 q n)=B8 (i_ q a b n)∧Jx a b (H13 q n)=Dd (i_ q a b n)∧JE a b (H13 q n)=CN (i_ q a b n)∧Ki a b (H13 q n)=C4 (i_ q a b n)
 | 0=>⟨rfl,rfl,rfl,rfl⟩
 | n+1=>by
  obtain ⟨h0,h1,h2,h3⟩:=h13 q a b n
  exact ⟨(aeG q a b (H13 q n)).trans (by rw [h1];kernel_rfl),(ahx q a b (H13 q n)).trans (by rw [h1,h2];kernel_rfl),(agd q a b (H13 q n)).trans (by rw [h2,h3];kernel_rfl),(afB q a b (H13 q n)).trans (by rw [h0,h3];kernel_rfl)⟩
theorem W13 (a:Rw gM) (b:Rw gM) (n:Nat) (x:S) (h:G9 (aa O) a b (B8 (i_ (aa O) a b n))=some x):(W O).aE 13 [S.t (T.rows 21 a.n fun i=>ql (a.get i)),S.t (T.rows 21 b.n fun i=>ql (b.get i))]=some x:=by
 refine WG (fn:=Tryz.f13) (by kernel_rfl) (by kernel_rfl) (n:=n) ?_
 refine (ZY (aa O) a b (H13 (aa O) n)).trans ?_
 obtain ⟨h0,h1,h2,h3⟩:=h13 (aa O) a b n
 rw [h0]
 exact h
theorem DI (x:Int):aR x x=true:=by unfold aR;simp
theorem Qo (x:Bool):r9 x x=true:=by unfold r9;simp
theorem lN (x:BA):ah x x=true:=dc.2 rfl
theorem c13 (r:Rw gM) (hr:r.n < 2 ^ 62) (hs:∀ j,j < r.n→(r.at j).an.n < 2 ^ 62∧(r.at j).aS.n < 2 ^ 62∧(r.at j).bw.n < 2 ^ 62):
  ca 13 [S.t (T.rows 21 r.n fun i=>ql (r.get i)),S.t (T.rows 21 r.n fun i=>ql (r.get i))] (bb true):=by
 have all:∀ k j,j+k=r.n→Ev (fun m=>(i_ (aa O) r r m).x0 (j:Int)) (bb true):=by
  intro k
  induction k with
  | zero=>
   intro j hj
   obtain rfl:j=r.n:=by omega
   refine Ev.one 1 fun m=>?_
   rw [i_]
   generalize i_ (aa O) r r m=X
   simp only [Bh,Le,aq,Nat.lt_irrefl,decide_false,cond_false]
  | succ k ih=>
   intro j hj
   have hlt:j < r.n:=by omega
   have hj2:j < 2 ^ 62:=by omega
   have hV:=ih (j+1) (by omega)
   obtain ⟨h1,h2,h3⟩:=hs j hlt
   obtain ⟨d,ed⟩:∃ d,r.at j=d:=⟨_,rfl⟩
   rw [ed] at h1 h2 h3
   have l3:∀ k i,i+k=d.bw.n→Ev (fun m=>(i_ (aa O) r r m).x3 (ay d.bw.n) d d (i:Int) (j:Int)) (bb true):=by
    intro k
    induction k with
    | zero=>
     intro i hi
     obtain rfl:i=d.bw.n:=by omega
     refine Ev.by 1 (fun m=>?_) hV
     rw [i_]
     generalize i_ (aa O) r r m=X
     simp only [Bh,LC,B8,aq,Nat.lt_irrefl,decide_false,cond_false,aA hj2]
    | succ k ih3=>
     intro i hi
     have hi1:i < d.bw.n:=by omega
     refine Ev.by 1 (fun m=>?_) (ih3 (i+1) (by omega))
     rw [i_]
     generalize i_ (aa O) r r m=X
     simp only [Bh,LC,C4,aq,hi1,decide_true,cond_true,av hi1,lN,Bool.and_self,Bool.not_true,cond_false,aA (show i < 2 ^ 62 by omega)]
   have l2:∀ k i,i+k=d.aS.n→Ev (fun m=>(i_ (aa O) r r m).x2 (ay d.aS.n) d d (i:Int) (j:Int)) (bb true):=by
    intro k
    induction k with
    | zero=>
     intro i hi
     obtain rfl:i=d.aS.n:=by omega
     refine Ev.by 1 (fun m=>?_) (l3 d.bw.n 0 (by omega))
     rw [i_]
     generalize i_ (aa O) r r m=X
     simp only [Bh,JV,C4,aq,Nat.lt_irrefl,decide_false,cond_false]
     rfl
    | succ k ih3=>
     intro i hi
     have hi1:i < d.aS.n:=by omega
     refine Ev.by 1 (fun m=>?_) (ih3 (i+1) (by omega))
     rw [i_]
     generalize i_ (aa O) r r m=X
     simp only [Bh,JV,CN,aq,hi1,decide_true,cond_true,av hi1,lN,Bool.and_self,Bool.not_true,cond_false,aA (show i < 2 ^ 62 by omega)]
   have l1:∀ k i,i+k=d.an.n→Ev (fun m=>(i_ (aa O) r r m).x1 (ay d.an.n) d d (i:Int) (j:Int)) (bb true):=by
    intro k
    induction k with
    | zero=>
     intro i hi
     obtain rfl:i=d.an.n:=by omega
     refine Ev.by 1 (fun m=>?_) (l2 d.aS.n 0 (by omega))
     rw [i_]
     generalize i_ (aa O) r r m=X
     simp only [Bh,K4,CN,aq,Nat.lt_irrefl,decide_false,cond_false]
     rfl
    | succ k ih3=>
     intro i hi
     have hi1:i < d.an.n:=by omega
     refine Ev.by 1 (fun m=>?_) (ih3 (i+1) (by omega))
     rw [i_]
     generalize i_ (aa O) r r m=X
     simp only [Bh,K4,Dd,aq,hi1,decide_true,cond_true,av hi1,lN,Bool.not_true,cond_false,aA (show i < 2 ^ 62 by omega)]
   refine Ev.by 1 (fun m=>?_) (l1 d.an.n 0 (by omega))
   rw [i_]
   generalize i_ (aa O) r r m=X
   simp only [Bh,Le,Dd,aq,hlt,decide_true,cond_true,av hlt,aK,ed,DI,Qo,lN,Bool.and_self,Bool.not_true,cond_false]
   rfl
 obtain ⟨n,hn⟩:=(all r.n 0 (by omega)).get
 refine W13 r r n _ ?_
 simp only [G9,DI,Bool.not_true,cond_false,B8]
 exact hn
end
end Go.Proofs.YtonkoellfaopiaaGreatDoor.H
namespace Go.Proofs.YtonkoellfaopiaaGreatDoor.H
open Go Go.Proofs Go.RowKit Go.Shelf
section
variable [dq]
theorem Sm {w:World} {J:Nat→Prop} {sz n:Nat} {g:Fin n→List T} {v:Value} (h:dH w J (.fr sz n g) v) (hs:0 < sz):∃ A c,v=.slice A n c∧Wr dq.n w A n sz∧(n≠0→∀ x,A=some x→J x.block):=by
 cases h with
 | fr _ _ _ base cap vs hcap hlen hb hc=>
  refine ⟨base,cap,rfl,fun hn=>?_,fun hn x hx=>?_⟩
  ·obtain ⟨r,o,c,ty,fz,e,hr,hB,hbl,hf,hcell⟩:=hb hn
   refine ⟨r,o,c,ty,fz,e,hB,hbl,hf,?_⟩
   have hl:(g ⟨n - 1,by omega⟩).length=sz:=hlen _
   have:=hcell ⟨n - 1,by omega⟩ (sz - 1) _ (List.getElem?_eq_getElem (by rw [hl];omega))
   have:=(Array.getElem?_eq_some_iff.1 this).1
   have e2:n*sz=(n - 1)*sz+sz:=by rw [← Nat.succ_mul];congr 1;omega
   dsimp only at this
   omega
  ·obtain ⟨r,o,c,ty,fz,e,hr,_⟩:=hb hn
   rw [e] at hx
   cases hx
   exact hr
structure Small (R:Rw gM):Prop where
 n:R.n≤16
 qR:∀ j,j < R.n→(R.at j).an.n≤24
 adv:∀ j,j < R.n→(R.at j).aS.n≤9
 opts:∀ j,j < R.n→(R.at j).bw.n≤72
theorem VV {w:World} {I:Nat→Prop} {R:Rw gM} {base:Option Addr} {cap:Nat} (hI:∀ q,I q→q < w.heap.size) (hS:Small R) (h:nY w I 21 R.n (fun i=>f55 (R.get i)) base cap):Nds dq.n w base R.n:=fun hn=>by
 obtain ⟨_,_,J,hJ,h3⟩:=h
 obtain ⟨r,o,c,ty,fz,e,hr,hj,hB,hbl,hf,hcell⟩:=h3 hn
 refine ⟨r,o,e,hI r hr,fun i hi=>?_⟩
 obtain ⟨x,hx⟩:∃ x,R.get ⟨i,hi⟩=x:=⟨_,rfl⟩
 have hat:R.at i=x:=by unfold Rw.at;rw [dif_pos hi];exact hx
 have hc:∀ (k:Nat) (t:T),(f55 x)[k]?=some t→∃ v,c[o+i*21+k]?=some v∧dH w J t v:=fun k t ht=>hcell ⟨i,hi⟩ k t (by rw [hx];exact ht)
 have hlen:(f55 x).length=21:=rfl
 have one:∀ k,k < 21→∃ t v,(f55 x)[k]?=some t∧c[o+i*21+k]?=some v∧dH w J t v:=fun k hk=>by
  obtain ⟨t,ht⟩:∃ t,(f55 x)[k]?=some t:=⟨_,List.getElem?_eq_getElem (by rw [hlen];exact hk)⟩
  obtain ⟨v,h1,h2⟩:=hc k t ht
  exact ⟨t,v,ht,h1,h2⟩
 have Co:∀ q,J q→q≠r:=fun q hq e=>hj (e ▸ hq)
 obtain ⟨v9,p9,t9⟩:=hc 9 _ rfl
 obtain ⟨dn,p15,t15⟩:=hc 15 _ rfl
 obtain ⟨v20,p20,t20⟩:=hc 20 _ rfl
 obtain ⟨A9,c9,rfl,w9,j9⟩:=Sm t9 (by decide)
 obtain ⟨A15,c15,rfl,w15,j15⟩:=Sm t15 (by decide)
 obtain ⟨A20,c20,rfl,w20,j20⟩:=Sm t20 (by decide)
 have hs1:=hS.opts i hi
 have hs2:=hS.adv i hi
 have hs3:=hS.qR i hi
 rw [hat] at hs1 hs2 hs3
 refine ⟨fun k=>(c[o+i*21+k]?).getD undef,A9,A15,A20,_,_,_,c9,c15,c20,⟨fun k hk=>?_,fun k hk=>?_,by simp only [p9,Option.getD_some],by simp only [p15,Option.getD_some],by simp only [p20,Option.getD_some],w9,w15,w20,fun h0 x hx=>Co _ (j9 h0 x hx),fun h0 x hx=>Co _ (j15 h0 x hx),fun h0 x hx=>Co _ (j20 h0 x hx),by omega,by omega,by omega⟩⟩
 ·obtain ⟨t,v,_,h1,_⟩:=one k hk
  rw [eB hbl,h1]
  rfl
 ·obtain ⟨t,v,_,h1,h2⟩:=one k hk
  rw [h1]
  exact kO h2
theorem v_ {w:World} {I:Nat→Prop} {sz n:Nat} {g g':Fin n→List T} {v:Value} (h:dH w I (.rows sz n g) v) (hg:∀ i,g' i=(g i).map kp):dH w I (.rows sz n g') v:=by
 obtain rfl:g'=fun i=>(g i).map kp:=funext hg
 cases h with
 | rows _ _ _ base cap vs hcap hlen hb hc=>
  refine .rows sz n _ base cap vs hcap (fun i=>by rw [List.length_map];exact hlen i) (fun hn=>?_) fun i k c hk=>?_
  ·obtain ⟨r,o,e,hr,hcell⟩:=hb hn
   refine ⟨r,o,e,hr,fun i k c hk=>?_⟩
   rw [List.getElem?_map] at hk
   obtain ⟨c0,h0,_⟩:=Option.map_eq_some_iff.1 hk
   exact hcell i k c0 h0
  ·rw [List.getElem?_map] at hk
   obtain ⟨c0,h0,rfl⟩:=Option.map_eq_some_iff.1 hk
   exact (hc i k c0 h0).kp
end
theorem aem (x:gM):ql x=(f55 x).map kp:=rfl
theorem afs (x:gM):ql x=(h55 x).map kp:=rfl
def fv (a:aP):Rw gM:=bif aR (fH a) 0 then qL a else ⟨0,fun i=>i.elim0⟩
theorem MO {a:Rw aV} {o:bu} {bV name:ByteArray} (ht:dX a=0) (ho:hasB a o=true):(nR a o bV name).length≤9:=by
 obtain ⟨p,hp⟩:=Option.isSome_iff_exists.1 (show (iF a o).isSome=true from ho)
 obtain ⟨h4,_⟩:=oC (oc ht hp) o bV name
 unfold nR
 rw [hp]
 dsimp only
 rw [(gz _).length_eq,sV]
 omega
theorem small (a:aP):Small (fv a):=by
 unfold fv
 cases hc:aR (fH a) 0 with
 | false=>exact ⟨Nat.zero_le _,fun j h=>absurd h (Nat.not_lt_zero _),fun j h=>absurd h (Nat.not_lt_zero _),fun j h=>absurd h (Nat.not_lt_zero _)⟩
 | true=>
  have ok:=aaQ (cJ.1 hc)
  have hat:∀ j,j < a.ae.n→(qL a).at j=lW a j:=fun j hj=>by unfold Rw.at;exact dif_pos hj
  refine ⟨ok.jg,fun j hj=>?_,fun j hj=>?_,fun j hj=>?_⟩
  ·rw [cond_true,hat j hj]
   exact Nat.le_trans (lK a _ _) ok.qR
  ·rw [cond_true,hat j hj]
   exact MO ok.types (ok.has hj)
  ·rw [cond_true,hat j hj]
   exact ok.opts hj
theorem ajZ (a:aP):ca 13 [S.t (T.rows 21 (fv a).n fun i=>ql ((fv a).get i)),S.t (T.rows 21 (fv a).n fun i=>ql ((fv a).get i))] (bb true):=by
 have hs:=small a
 have:=hs.n
 refine c13 (fv a) (by omega) fun j hj=>⟨?_,?_,?_⟩
 ·have:=hs.qR j hj;omega
 ·have:=hs.adv j hj;omega
 ·have:=hs.opts j hj;omega
section
variable [dq] {a:aP} {I:Nat→Prop} {w:World}
def Yg (a:aP) (I:Nat→Prop) (w:World) (fresh:Bool) (e:Ending) (w':World):Prop:=
 ∃ A c I',e=.returned (.tuple #[.slice A (fv a).n c,.int .i64 (fH a)])∧Below w.heap.size w w'∧(∀ q,I q→I' q)∧(∀ q,I' q→q < w'.heap.size)∧iW I' w'∧(fresh=true→Nds dq.n w' A (fv a).n)∧
  dH w' I' (.rows 21 (fv a).n fun i=>ql ((fv a).get i)) (.slice A (fv a).n c)
theorem ad9 {G:Gh} {w:World} {s1 s2:S} {v:Value} (h:aY G w (.bJ [s1,s2]) v):∃ v1 v2,v=.tuple #[v1,v2]∧aY G w s1 v1∧aY G w s2 v2:=by
 cases h with | bJ hl h=>
 rename_i vs
 have h2:vs.size=2:=by simpa using hl.symm
 obtain ⟨x,y,rfl⟩:∃ x y,vs=#[x,y]:=by
  match vs,h2 with
  | ⟨[x,y]⟩,_=>exact ⟨x,y,rfl⟩
 exact ⟨x,y,rfl,h 0 _ _ rfl rfl,h 1 _ _ rfl rfl⟩
theorem agt {cs0:Array Value} (ha:vL a) (hI:∀ q,I q→q < w.heap.size) (hN:iW I w) (hV:Vars w) (hB:dq.n≤w.heap.size) (hrep:bD (Gh.bare I) w [ag (bI a)] [.agg cs0]):
  Calls Tryz.prog 11 #[.agg cs0] w (Yg a I w true):=by
 refine (pA (c11 a ha) I w #[.agg cs0] hI hN hV hB hrep).mono fun e w' ⟨v,I',he,bel,i1,i2,i3,gP,hr⟩=>?_
 obtain ⟨v1,v2,rfl,h1,h2⟩:=ad9 hr
 obtain ⟨rfl,_⟩:=a_ h2
 cases h1 with | top h=>
 rename_i cap base
 refine ⟨base,cap,I',he,bel,i1,i2,gP,fun _=>VV i2 (small a) h,?_⟩
 exact v_ h.fr.kp fun i=>aem _
theorem aht {cs0:Array Value} (ha:vL a) (hI:∀ q,I q→q < w.heap.size) (hN:iW I w) (hV:Vars w) (hB:dq.n≤w.heap.size) (hrep:bD (Gh.bare I) w [ag (bI a)] [.agg cs0]):
  Calls Tryz.prog 12 #[.agg cs0] w (Yg a I w false):=by
 refine (pA (c12 a ha) I w #[.agg cs0] hI hN hV hB hrep).mono fun e w' ⟨v,I',he,bel,i1,i2,i3,gP,hr⟩=>?_
 obtain ⟨v1,v2,rfl,h1,h2⟩:=ad9 hr
 obtain ⟨rfl,_⟩:=a_ h2
 cases h1 with | t h=>
 have h':=v_ (g':=fun i=>ql ((fv a).get i)) h fun i=>afs _
 obtain ⟨A,c,rfl⟩:∃ A c,v1=.slice A (fv a).n c:=by
  cases h with | rows _ _ _ base cap=>exact ⟨base,cap,rfl⟩
 exact ⟨A,c,I',he,bel,i1,i2,gP,fun h=>(by cases h),h'⟩
theorem adB {v1 v2:Value} (hI:∀ q,I q→q < w.heap.size) (hN:iW I w) (hV:Vars w) (hB:dq.n≤w.heap.size) (h1:dH w I (.rows 21 (fv a).n fun i=>ql ((fv a).get i)) v1) (h2:dH w I (.rows 21 (fv a).n fun i=>ql ((fv a).get i)) v2):
  Calls Tryz.prog 13 #[v1,v2] w fun e w'=>e=.returned (.bool true)∧Below w.heap.size w w':=by
 refine (pA (ajZ a) I w #[v1,v2] hI hN hV hB (.cons (.t h1) (.cons (.t h2) .nil))).mono fun e w' ⟨v,I',he,bel,i1,i2,i3,gP,hr⟩=>?_
 obtain ⟨rfl,_⟩:=a_ hr
 exact ⟨he,bel⟩
theorem akd (hV:Vars w) (hB:dq.n≤w.heap.size):Calls Tryz.prog 8 #[] w fun e w'=>e=.returned (.bool true)∧Below w.heap.size w w':=by
 refine (pA c8 (fun _=>False) w #[] (fun _ h=>h.elim) (fun _ _ h=>h.elim) hV hB .nil).mono fun e w' ⟨v,I',he,bel,i1,i2,i3,gP,hr⟩=>?_
 obtain ⟨rfl,_⟩:=a_ hr
 exact ⟨he,bel⟩
end
section
variable {ops:Array Oper} {rest:List Oper} {o:Oper} {a:Act} {Q:Exit→Act→World→Prop} {w:World}
theorem R0 (hgd:o.guard=none) {x:Operand} (ho:o.op=.box 33 x) {cs:Array Value} (hx:a.eval x=.agg cs)
  (h:∀ p w1,p=w.heap.size→w1=w.alloc (.cells cs 33)→wpList Tryz.prog ops Q rest (a.put o.dst (.pointer (some ⟨p,0,none⟩))) w1):wpList Tryz.prog ops Q (o::rest) a w:=by
 refine nw hgd (v:=.pointer (some ⟨w.heap.size,0,none⟩)) (w1:=w.alloc (.cells cs 33)) ?_ (h _ _ rfl rfl)
 obtain ⟨dst,op,type,pos,after,guard⟩:=o
 simp only at ho
 subst ho
 show (execOp a.eval _).run _ _=_
 have e:∀ v,a.eval x=v→(execOp a.eval { dst:=dst,op:=.box 33 x,type:=type,pos:=pos,after:=after,guard:=guard }).run Tryz.prog w=.ok (.value (.pointer (some ⟨w.heap.size,0,none⟩))) (w.alloc (.cells v.cells 33)):=fun v hv=>by subst hv;rfl
 exact e _ hx
theorem xm (hgd:o.guard=none) {x:Operand} (ho:o.op=.load 33 x) {p:Nat} {cs:Array Value} (hld:(Instr.loadAt 33 (.pointer (some ⟨p,0,none⟩))).run Tryz.prog w=.ok (.agg cs) w) (hp:a.eval x=.pointer (some ⟨p,0,none⟩))
  (h:wpList Tryz.prog ops Q rest (a.put o.dst (.agg cs)) w):wpList Tryz.prog ops Q (o::rest) a w:=by
 refine nw hgd (v:=.agg cs) (w1:=w) ?_ h
 obtain ⟨dst,op,type,pos,after,guard⟩:=o
 simp only at ho
 subst ho
 simp only [execOp,hp,Sem.run_bind,hld,Result.andThen_ok,Sem.run_pure]
end
theorem ZC {w:World} {p:Nat} {cs:Array Value} {fz:Nat × Nat} (hb:w.heap[p]?=some (.cells cs 33 fz)) (hs:cs.size=14) (h1:∀ x∈cs.toList,x.oneCell'=true):
  (Instr.loadAt 33 (.pointer (some ⟨p,0,none⟩))).run Tryz.prog w=.ok (.agg cs) w:=by
 obtain ⟨u,hu,he⟩:=loadT (t:=33) (n:=14) (w:=w) (g:=p) (q:=0) (v:=fun k=>(cs[k]?).getD undef) (by kernel_rfl) (fun k hk=>by
  rw [Nat.zero_add,eB hb,Array.getElem?_eq_getElem (by omega)];rfl) (fun k hk=>by
  have hk':k < cs.size:=by omega
  rw [Array.getElem?_eq_getElem hk']
  exact h1 _ (by simp))
 have:u=cs:=by
  apply Array.toList_inj.1
  rw [he]
  refine List.ext_getElem (by simp [hs]) fun k h2 h3=>?_
  have hk:k < cs.size:=by simpa using h3
  simp [Array.getElem?_eq_getElem hk]
 rw [← this]
 rw [this] at hu ⊢
 exact hu
structure At (w1:World) (b:Nat) (I0:Nat→Prop) (cs0:Array Value) (W:World):Prop where
 below:Below b w1 W
 le:b≤W.heap.size
 vars:Vars W
 gP:iW I0 W
 lt:∀ q,I0 q→q < W.heap.size
 ld:(Instr.loadAt 33 (.pointer (some ⟨b - 1,0,none⟩))).run Tryz.prog W=.ok (.agg cs0) W
theorem adk {w1:World} {b:Nat} {I0:Nat→Prop} {cs0:Array Value} {fz:Nat × Nat} (hsz:w1.heap.size=b) (h0:0 < b) (hV:Vars w1) (hN:iW I0 w1) (hI:∀ q,I0 q→q < b)
  (hp:w1.heap[b - 1]?=some (.cells cs0 33 fz)) (hs:cs0.size=14) (h1:∀ x∈cs0.toList,x.oneCell'=true) {W:World} (hb:Below b w1 W):At w1 b I0 cs0 W:=by
 subst hsz
 have hk:∀ r,r < w1.heap.size→W.heap[r]?=w1.heap[r]?:=fun r hr=>hb.block r hr
 exact ⟨hb,hb.size,ir hV hb,jK hI hN hb,fun q hq=>Nat.lt_of_lt_of_le (hI q hq) hb.size,ZC ((hk _ (by omega)).trans hp) hs h1⟩
theorem Rt [dq] {w1:World} {b:Nat} {I0:Nat→Prop} {a:aP} {cs0:Array Value} (hsz:w1.heap.size=b) (hI:∀ q,I0 q→q < b) (hrep:bD (Gh.bare I0) w1 [ag (bI a)] [.agg cs0]) {W:World} (hb:Below b w1 W):bD (Gh.bare I0) W [ag (bI a)] [.agg cs0]:=by
 subst hsz
 exact hrep.mono (G':=Gh.bare I0) (fun _ h=>h) (fun r hr=>hb.block r (hI r hr)) (fun _ _ h=>h)
theorem PE [dq] {I I':Nat→Prop} {a:aP} {cs0:Array Value} {W:World} (hI:∀ q,I q→I' q) (hrep:bD (Gh.bare I) W [ag (bI a)] [.agg cs0]):bD (Gh.bare I') W [ag (bI a)] [.agg cs0]:=hrep.mono (G':=Gh.bare I') hI (fun _ _=>rfl) (fun _ _ h=>h)
theorem US [dq] {I:Nat→Prop} {a:aP} {cs0:Array Value} {W:World} (hrep:bD (Gh.bare I) W [ag (bI a)] [.agg cs0]):cs0.size=14∧∀ x∈cs0.toList,x.oneCell'=true:=by
 obtain ⟨v,r,e,hs,_⟩:=hrep.dK
 obtain ⟨rfl,_⟩:=List.cons.inj e
 cases hs with | agg hl h=>
 have hl14:cs0.size=14:=by rw [← hl];rfl
 refine ⟨hl14,fun x hx=>?_⟩
 obtain ⟨k,hk,rfl⟩:=List.mem_iff_getElem.1 hx
 have hk':k < cs0.size:=hk
 obtain ⟨t,ht⟩:∃ t,(bI a)[k]?=some t:=⟨_,List.getElem?_eq_getElem (by show k < 14;omega)⟩
 have:=h k (.t t) cs0[k] (by rw [List.getElem?_map,ht];rfl) (Array.getElem?_eq_getElem hk')
 cases this with | t hT=>exact kO hT
set_option maxRecDepth 100000 in
set_option maxHeartbeats 4000000 in
theorem aaT {a:aP} (ha:vL a) {w:World} {cs0:Array Value} (hV:Vars w) (hrep:@bD ⟨w.heap.size+1⟩ (Gh.bare (mem w)) w [ag (bI a)] [.agg cs0]):
  Calls Tryz.prog 4 #[.agg cs0] w fun e w'=>e=.returned (.bool true)∧Below w.heap.size w w':=by
 have HPRE:aI (∀ p w1,p=w.heap.size→w1=w.alloc (.cells cs0 33)→w1.heap.size=p+1∧Below p w w1∧(∀ W,Below (p+1) w1 W→At w1 (p+1) (mem w) cs0 W)∧∀ W,Below (p+1) w1 W→@bD ⟨p+1⟩ (Gh.bare (mem w)) W [ag (bI a)] [.agg cs0]):=aI.mk fun p w1 hp hw1=>by
  subst hp hw1
  have hbe:Below w.heap.size w (w.alloc (.cells cs0 33)):=(Below.refl _ w).alloc (Nat.le_refl _) _
  have hsz:(w.alloc (.cells cs0 33)).heap.size=w.heap.size+1:=by show (w.heap.push _).size=_;simp
  obtain ⟨hs,h1⟩:=@US ⟨w.heap.size+1⟩ _ _ _ _ hrep
  have hr1:=@Rt ⟨w.heap.size+1⟩ w w.heap.size _ _ _ rfl Ag hrep _ hbe
  refine ⟨hsz,hbe,fun W hb=>adk hsz (Nat.succ_pos _) (ir hV hbe) (jK Ag TE hbe) (fun q hq=>Nat.lt_succ_of_lt (Ag q hq)) (jw w _) hs h1 hb,fun W hb=>?_⟩
  exact @Rt ⟨w.heap.size+1⟩ _ _ _ _ _ hsz (fun q hq=>Nat.lt_succ_of_lt (Ag q hq)) hr1 _ hb
 have HA:=aI.mk ha
 clear hV hrep ha
 go_enter Tryz.func4,Tryz.ntmps4
 go_wp2_with (first
  | ((with_reducible refine mH (N:=1) rfl ?_);refine R0 rfl rfl rfl ?_;intro p w1 hp hw1
     obtain ⟨hs1,hb1,hat,hre⟩:=HPRE.out p w1 hp hw1
     have HP:=aI.mk hp;have HB1:=aI.mk hb1;have HAT:=aI.mk hat;have HRE:=aI.mk hre;clear hp hw1 hs1 hb1 hat hre)
  | (go_at_call 8;refine (@akd ⟨p+1⟩ _ (HAT.out _ (Below.refl _ _)).vars (HAT.out _ (Below.refl _ _)).le).mono ?_;rintro e w2 ⟨rfl,hb2⟩
     have HB2:aI (Below (p+1) w1 w2):=aI.mk (hb2.mono (HAT.out _ (Below.refl _ _)).le);clear hb2))
 go_loopg [9] 3 (fun kq v9 w'=>∃ (i:Nat),v9=.int .i64 (i:Int)∧aI (kq+i=3)∧aI (i≤2)∧aI (Below (p+1) w1 w'))
 case atStart=>exact ⟨0,rfl,⟨rfl⟩,⟨Nat.zero_le _⟩,HB2⟩
 case round=>
  obtain ⟨i,rfl,HK,HI,HB⟩:=hrel
  cases gk with
  | zero=>exact absurd HK.out (by have:=HI.out;omega)
  | succ k1=>
   by_cases c5:i < 2
   ·have c5':(i:Int) < 2:=by omega
    have hiw:wrap64 ((i:Int)+1)=((i+1:Nat):Int):=tX (by omega)
    have HW:=aI.mk (HAT.out _ HB.out)
    go_wp2_with (first
     | ((with_reducible refine mH (N:=12) rfl ?_);refine xm rfl rfl HW.out.ld rfl ?_)
     | (go_at_call 11;refine (@agt ⟨p+1⟩ _ _ _ _ HA.out HW.out.lt HW.out.gP HW.out.vars HW.out.le (HRE.out _ HB.out)).mono ?_;rintro e w3 ⟨A1,c1,I1,rfl,hb3,hi3,hl3,hn3,hd3,ht3⟩
        have HB3:aI (Below (p+1) w1 w3):=aI.mk (HB.out.trans (hb3.mono HW.out.le))
        have HW3:=aI.mk (HAT.out _ HB3.out);have HI3:=aI.mk hi3;have HL3:=aI.mk hl3;have HN3:=aI.mk hn3;have HD3:=aI.mk (hd3 rfl);have HT3:=aI.mk ht3;clear hb3 hi3 hl3 hn3 hd3 ht3)
     | ((with_reducible refine mH (N:=17) rfl ?_);refine xm rfl rfl HW3.out.ld rfl ?_)
     | (go_at_call 12;refine (@aht ⟨p+1⟩ _ I1 _ _ HA.out HL3.out HN3.out HW3.out.vars HW3.out.le (@PE ⟨p+1⟩ _ _ _ _ _ HI3.out (HRE.out _ HB3.out))).mono ?_;rintro e w4 ⟨A2,c2,I2,rfl,hb4,hi4,hl4,hn4,_,ht4⟩
        have HB4:aI (Below (p+1) w1 w4):=aI.mk (HB3.out.trans (hb4.mono HW3.out.le))
        have HX4:=aI.mk hb4
        have HW4:=aI.mk (HAT.out _ HB4.out);have HT34:=aI.mk (@dH.mono ⟨p+1⟩ _ _ _ _ hi4 (fun r hr=>hb4.block r (HL3.out r hr)) _ _ HT3.out);have HL4:=aI.mk hl4;have HN4:=aI.mk hn4;have HT4:=aI.mk ht4;clear hb4 hi4 hl4 hn4 ht4)
     | (go_at_call 13;refine (@adB ⟨p+1⟩ a I2 _ _ _ HL4.out HN4.out HW4.out.vars HW4.out.le HT34.out HT4.out).mono ?_;rintro e w5 ⟨rfl,hb5⟩
        have HB5:aI (Below (p+1) w1 w5):=aI.mk (HB4.out.trans (hb5.mono HW4.out.le))
        have HX5:=aI.mk (HX4.out.trans (hb5.mono HX4.out.size));clear hb5)
     | (go_at_call 14;refine (U6 (p+1) _ A1 _ c1 (by have:=(small a).n;omega) (HD3.out.after HX5.out) (HAT.out _ HB5.out).le).mono ?_;rintro e w6 ⟨rfl,hb6⟩
        have HB6:aI (Below (p+1) w1 w6):=aI.mk (HB5.out.trans hb6);clear hb6))
    go_roundg k1
    case measure=>have:=HK.out;omega
    case rel=>exact ⟨i+1,(by first | rfl | (simp;done) | (simp [*];done)),⟨by have:=HK.out;omega⟩,⟨by omega⟩,HB6⟩
   ·have c5':¬ (i:Int) < 2:=by omega
    go_wp2
    go_ret
    exact ⟨rfl,HP.out ▸ HB1.out.trans (HB.out.mono (Nat.le_succ _))⟩
end Go.Proofs.YtonkoellfaopiaaGreatDoor.H
