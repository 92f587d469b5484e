import Derived.Test.YtonkoellfaopiaaGreatDoorProg
import Derived.Test.YtonkoellfaopiaaGreatDoorD4
import Derived.RangeFuncBox
import Derived.RangeFuncLeaves
import Derived.Shelf.Abstract
import Derived.WalkKit
import Derived.OwnWalkIn
import Derived.TacticsInMore
import Derived.LoopNIn
import Derived.LoopIn
import Derived.Shelf.Small.Strs
import Derived.Shelf.Strings.Cut
import Derived.Shelf.Strconv.Itoa4
import Derived.Shelf.Strconv.ParseIntPublic10
import Derived.Test.YtonkoellfaopiaaGreatDoorD6
import Derived.Test.YtonkoellfaopiaaGreatDoorD9
import Derived.Lib.LaidTab
import Derived.Lib.SmallJoins
import Derived.Lib.ItoaNum
import Derived.Lib.ParseIntB
import Derived.WalkSmall
import Derived.Lib.AppendIntMem
import Derived.Test.YtonkoellfaopiaaGreatDoorRows
import Derived.ArgAppend
import Derived.Lib.SliceRun
import Derived.Shelf.SlIter.Nil
import Derived.Shelf.SortM.Plain
import Derived.Shelf.SortM.SortNone
set_option linter.unusedSimpArgs false
set_option linter.unusedVariables false
set_option linter.unusedSectionVars false
namespace Go.Proofs.YtonkoellfaopiaaGreatDoor.H
open Go Go.Proofs Go.RowKit Go.Shelf
variable [dq]
attribute [local go_sem] Oper.semAt_some
theorem qX {w:World} {a:Addr} {v:Value} (h:w.cell? a=some v):a.block < w.heap.size:=by
 refine Nat.lt_of_not_le fun hn=>?_
 have:w.heap[a.block]?=none:=Array.getElem?_eq_none hn
 simp [World.cell?,this] at h
theorem dH.after {W1 W2:World} {I:Nat→Prop} (hb:Below W1.heap.size W1 W2) {t:T} {v:Value} (h:dH W1 I t v):dH W2 I t v:=by
 induction h with
 | v x h=>exact .v x h
 | rows sz n get base cap vs hcap hlen hb' hc ih=>
  refine .rows sz n get base cap vs hcap hlen (fun hn=>?_) ih
  obtain ⟨r,o,e,hr,hcell⟩:=hb' hn
  exact ⟨r,o,e,hr,fun i k c hg=>(hb.cell (p:=⟨r,o+i.1*sz+k,none⟩) (qX (hcell i k c hg))).trans (hcell i k c hg)⟩
 | fr sz n get base cap vs hcap hlen hb' hc ih=>
  refine .fr sz n get base cap vs hcap hlen (fun hn=>?_) ih
  obtain ⟨r,o,c,ty,fz,e,hr,hB,hbl,hf,hcell⟩:=hb' hn
  exact ⟨r,o,c,ty,fz,e,hr,hB,(hb.block r (Array.getElem?_eq_some_iff.1 hbl).1).trans hbl,hf,hcell⟩
theorem cells_one {v:Value} (h:v.oneCell'=true):v.cells=#[v]:=by cases v<;>first | rfl | (simp [Value.oneCell'] at h)
set_option maxRecDepth 100000 in
set_option maxHeartbeats 4000000 in
theorem ad4:QR Tryz.prog ⟨85,33,3,61,10⟩:=by
 intro I l r1 r2 W n g o ft vr J hn hfo hcr hJ hJb h0
 have hfo':gQ Tryz.prog 33 3=some (7,25):=rfl
 have hz:Tryz.prog.cellsOf 61=12:=rfl
 rw [hfo'] at hfo
 obtain ⟨rfl,rfl⟩:7=o∧25=ft:=by simpa using hfo
 dsimp only at hJ ⊢
 rw [hz] at hJ
 obtain ⟨base,cap,rfl,hcap⟩:∃ base cap,vr=.slice base n cap∧n≤cap:=by
  cases (hJ 0 W h0).1 with
  | rows _ _ _ base cap vs hcap hlen hb hc=>exact ⟨base,cap,rfl,hcap⟩
 refine callsIn_of_wp Tryz.func85 rfl trivial ?_ rfl
 simp only [Tryz.ntmps85,List.size_toArray,List.length_cons,List.length_nil,Nat.reduceAdd,Nat.reduceSub,Array.replicate_succ,Array.replicate_zero,List.push_toArray,List.append_toArray,List.nil_append,List.cons_append]
 gi_wp2
 gi_loopw [9] (fun i wr=>∃ k:Nat,k≤n∧i=.int .i64 k∧J k wr)
  (fun i _=>n - (intOf i).toNat)
 case atStart=>exact ⟨0,Nat.zero_le _,rfl,h0⟩
 case round=>
  obtain ⟨k,hk,rfl,hJk⟩:=hrel
  obtain ⟨hT,s,hs,hrow⟩:=hJ k wr hJk
  by_cases hlt:k < n
  ·obtain ⟨q,hq,hno,hyes⟩:=hrow hlt
   obtain ⟨b,off,rfl,hIb,vs,hlen,hcell,hsub⟩:∃ b off,base=some ⟨b,off,none⟩∧I b∧∃ vs:Nat→Value,(g ⟨k,hlt⟩).length=12∧(∀ i,i < 12→wr.cell? ⟨b,off+k*12+i,none⟩=some (vs i))∧
     (∀ i c,(g ⟨k,hlt⟩)[i]?=some c→dH wr I c (vs i)):=by
    cases hT with
    | rows _ _ _ _ _ vs hcap hlen hb hc=>
     obtain ⟨b,off,e,hI,hcl⟩:=hb (by omega)
     refine ⟨b,off,e,hI,vs ⟨k,hlt⟩,hlen _,fun i hi=>?_,fun i c h=>hc _ i c h⟩
     obtain ⟨c,hcc⟩:∃ c,(g ⟨k,hlt⟩)[i]?=some c:=⟨_,List.getElem?_eq_getElem (by rw [hlen];exact hi)⟩
     exact hcl ⟨k,hlt⟩ i c hcc
   have hv11:vs 11=.string q:=by
    unfold FG at hq
    have e:gQ Tryz.prog 61 10=some (11,9):=rfl
    dsimp only at hq
    rw [e] at hq
    dsimp only at hq
    split at hq
    ·rename_i s' he
     obtain rfl:s'=q:=by simpa using hq
     exact (a_ (G:=Gh.bare I) (.t (hsub 11 _ he))).1
    ·cases hq
   have h1':∀ i,i < 12→(vs i).oneCell'=true:=fun i hi=>by
    obtain ⟨c,hcc⟩:∃ c,(g ⟨k,hlt⟩)[i]?=some c:=⟨_,List.getElem?_eq_getElem (by rw [hlen];exact hi)⟩
    exact kO (hsub i c hcc)
   have h1:∀ i,i < 12→(vs i).cells=#[vs i]:=fun i hi=>by
    obtain ⟨c,hcc⟩:∃ c,(g ⟨k,hlt⟩)[i]?=some c:=⟨_,List.getElem?_eq_getElem (by rw [hlen];exact hi)⟩
    exact cells_one (kO (hsub i c hcc))
   obtain ⟨v0,e0⟩:∃ v,vs 0=v:=⟨_,rfl⟩
   obtain ⟨v1,e1⟩:∃ v,vs 1=v:=⟨_,rfl⟩
   obtain ⟨v2,e2⟩:∃ v,vs 2=v:=⟨_,rfl⟩
   obtain ⟨v3,e3⟩:∃ v,vs 3=v:=⟨_,rfl⟩
   obtain ⟨v4,e4⟩:∃ v,vs 4=v:=⟨_,rfl⟩
   obtain ⟨v5,e5⟩:∃ v,vs 5=v:=⟨_,rfl⟩
   obtain ⟨v6,e6⟩:∃ v,vs 6=v:=⟨_,rfl⟩
   obtain ⟨v7,e7⟩:∃ v,vs 7=v:=⟨_,rfl⟩
   obtain ⟨v8,e8⟩:∃ v,vs 8=v:=⟨_,rfl⟩
   obtain ⟨v9,e9⟩:∃ v,vs 9=v:=⟨_,rfl⟩
   obtain ⟨v10,e10⟩:∃ v,vs 10=v:=⟨_,rfl⟩
   have c0:=hcell 0 (by decide);rw [e0] at c0
   have c1:=hcell 1 (by decide);rw [e1] at c1
   have c2:=hcell 2 (by decide);rw [e2] at c2
   have c3:=hcell 3 (by decide);rw [e3] at c3
   have c4:=hcell 4 (by decide);rw [e4] at c4
   have c5:=hcell 5 (by decide);rw [e5] at c5
   have c6:=hcell 6 (by decide);rw [e6] at c6
   have c7:=hcell 7 (by decide);rw [e7] at c7
   have c8:=hcell 8 (by decide);rw [e8] at c8
   have c9:=hcell 9 (by decide);rw [e9] at c9
   have c10:=hcell 10 (by decide);rw [e10] at c10
   have c11:=hcell 11 (by decide);rw [hv11] at c11
   have o0:=h1 0 (by decide);rw [e0] at o0
   have o1:=h1 1 (by decide);rw [e1] at o1
   have o2:=h1 2 (by decide);rw [e2] at o2
   have o3:=h1 3 (by decide);rw [e3] at o3
   have o4:=h1 4 (by decide);rw [e4] at o4
   have o5:=h1 5 (by decide);rw [e5] at o5
   have o6:=h1 6 (by decide);rw [e6] at o6
   have o7:=h1 7 (by decide);rw [e7] at o7
   have o8:=h1 8 (by decide);rw [e8] at o8
   have o9:=h1 9 (by decide);rw [e9] at o9
   have o10:=h1 10 (by decide);rw [e10] at o10
   have hr2:r2 < wr.heap.size:=qX hs
   have st1:∀ {v:Value},v.oneCell'=true→∀ (P:Program) (w:World) (a:Addr),(store a v).run P w=stored P w a v .plain:=fun {v} h P w a=>run_store P w a v .plain h
   have s0:=st1 (v:=v0) (e0 ▸ h1' 0 (by decide))
   have s1:=st1 (v:=v1) (e1 ▸ h1' 1 (by decide))
   have s2:=st1 (v:=v2) (e2 ▸ h1' 2 (by decide))
   have s3:=st1 (v:=v3) (e3 ▸ h1' 3 (by decide))
   have s4:=st1 (v:=v4) (e4 ▸ h1' 4 (by decide))
   have s5:=st1 (v:=v5) (e5 ▸ h1' 5 (by decide))
   have s6:=st1 (v:=v6) (e6 ▸ h1' 6 (by decide))
   have s7:=st1 (v:=v7) (e7 ▸ h1' 7 (by decide))
   have s8:=st1 (v:=v8) (e8 ▸ h1' 8 (by decide))
   have s9:=st1 (v:=v9) (e9 ▸ h1' 9 (by decide))
   have s10:=st1 (v:=v10) (e10 ▸ h1' 10 (by decide))
   rw [Nat.add_zero] at c0
   have heq:(q.toList == s.toList)=ah q s:=by simp only [ah,eU,Lib.toList_data]
   have hb2:Below wr.heap.size wr (wr.alloc (Obj.cells #[v0,v1,v2,v3,v4,v5,v6,v7,v8,v9,v10,Value.string q] 61)):=(Below.refl _ wr).alloc (Nat.le_refl _) _
   cases hE:ah q s with
   | false=>
    rw [hE] at heq
    gi_wp2
    refine ⟨fun _ _=>trivial,?_⟩
    gi_wp2
    go_roundw
    case rel=>exact ⟨k+1,by omega,by simp,hJb _ _ _ (hno hE) hb2⟩
    case measure=>simp [intOf];omega
   | true=>
    rw [hE] at heq
    have hrep:bD (Gh.bare I) (wr.alloc (Obj.cells #[v0,v1,v2,v3,v4,v5,v6,v7,v8,v9,v10,Value.string q] 61)) ((g ⟨k,hlt⟩).map .t) (#[v0,v1,v2,v3,v4,v5,v6,v7,v8,v9,v10,Value.string q]:Array Value).toList:=by
     have hvs:(#[v0,v1,v2,v3,v4,v5,v6,v7,v8,v9,v10,Value.string q]:Array Value).toList=(List.range 12).map vs:=by
      simp [List.range_succ,e0,e1,e2,e3,e4,e5,e6,e7,e8,e9,e10,hv11]
     refine ⟨by simp [hlen],fun i x v hx hv=>?_⟩
     rw [hvs] at hv
     obtain ⟨c,hc,rfl⟩:=List.getElem?_map ▸ hx |> Option.map_eq_some_iff.1
     have hi:i < 12:=by have:=(List.getElem?_eq_some_iff.1 hc).1;omega
     rw [List.getElem?_map,List.getElem?_range hi] at hv
     obtain rfl:vs i=v:=by simpa using hv
     exact .t ((hsub i c hc).after hb2)
    obtain ⟨fn,tmps,assign,body,hy,hR⟩:=hyes hE _ hb2 _ hrep
    gi_wp2
    refine ⟨rfl,hR.mono ?_⟩
    rintro e W3 ⟨rfl,hJ3⟩
    gi_wp2
    go_roundw
    case rel=>exact ⟨k+1,by omega,by simp,hJ3⟩
    case measure=>simp [intOf];omega
  ·obtain rfl:k=n:=by omega
   gi_wp2
   go_end0
   exact ⟨⟨_,rfl⟩,hJk⟩
end Go.Proofs.YtonkoellfaopiaaGreatDoor.H
namespace Go.Proofs
open Go.Shelf
def Tryz.BZ:Go.Shelf.Ren:=⟨fun | 106=>56 | 213=>100 | 265=>142 | n=>n,fun | 9=>9 | 3=>3 | n=>n,fun | n=>n⟩
theorem Tryz.V5:Go.Proofs.Lays.n106 Tryz.prog Tryz.BZ:={
 mixed:=by kernel_rfl
 f106:=Tryz.func56.trans (congrArg some (by kernel_rfl))
 f213:=Tryz.func100.trans (congrArg some (by kernel_rfl))
 f265:=Tryz.func142.trans (congrArg some (by kernel_rfl))
 t3:=Tryz.underlying3
 a3:=Tryz.isAgg3
 z3:=Tryz.sizeOf3
 v3:=Tryz.zeroValue3
 t9:=Tryz.underlying9
 a9:=Tryz.isAgg9
 z9:=Tryz.sizeOf9
 v9:=Tryz.zeroValue9 }
open Go.RowKit in
theorem Tryz.strings_Compare (a b:ByteArray) (w:World):
  Calls Tryz.prog 56 #[.string a,.string b] w fun e w'=>e=.returned (.int .i64 (Lib.compareBytes a.data.toList b.data.toList))∧w'=w:=Any.strings_Compare Tryz.V5 a b w
def Tryz.Av:Go.Shelf.Ren:=⟨fun | 171=>45 | 243=>90 | 246=>139 | 283=>177 | 284=>178 | 285=>179 | 286=>180 | 129=>203 | 317=>208 | 318=>209 | 319=>210 | 320=>211 | 337=>226 | 338=>227 | n=>n,fun | 3=>3 | 9=>9 | 2=>2 | 4=>4 | 171=>223 | 0=>0 | 53=>151 | 37=>156 | 5=>5 | 173=>226 | 212=>254 | 51=>246 | 20=>20 | 213=>255 | 46=>214 | 232=>280 | 233=>281 | n=>n,fun | 17=>3 | 18=>4 | 19=>5 | n=>n⟩
theorem Tryz.Ox:Go.Proofs.LaysM.n171 Tryz.prog Tryz.Av:={
 mixed:=by kernel_rfl
 f129:=Tryz.func203.trans (congrArg some (by kernel_rfl))
 f171:=Tryz.func45.trans (congrArg some (by kernel_rfl))
 f243:=Tryz.func90.trans (congrArg some (by kernel_rfl))
 f246:=Tryz.func139.trans (congrArg some (by kernel_rfl))
 f283:=Tryz.func177.trans (congrArg some (by kernel_rfl))
 f284:=Tryz.func178.trans (congrArg some (by kernel_rfl))
 f285:=Tryz.func179.trans (congrArg some (by kernel_rfl))
 f286:=Tryz.func180.trans (congrArg some (by kernel_rfl))
 f317:=Tryz.func208.trans (congrArg some (by kernel_rfl))
 f318:=Tryz.func209.trans (congrArg some (by kernel_rfl))
 f319:=Tryz.func210.trans (congrArg some (by kernel_rfl))
 f320:=Tryz.func211.trans (congrArg some (by kernel_rfl))
 f337:=Tryz.func226.trans (congrArg some (by kernel_rfl))
 f338:=Tryz.func227.trans (congrArg some (by kernel_rfl))
 t0:=Tryz.underlying0
 a0:=Tryz.isAgg0
 z0:=Tryz.sizeOf0
 v0:=Tryz.zeroValue0
 t2:=Tryz.underlying2
 a2:=Tryz.isAgg2
 z2:=Tryz.sizeOf2
 v2:=Tryz.zeroValue2
 t3:=Tryz.underlying3
 a3:=Tryz.isAgg3
 z3:=Tryz.sizeOf3
 v3:=Tryz.zeroValue3
 t4:=Tryz.underlying4
 a4:=Tryz.isAgg4
 z4:=Tryz.sizeOf4
 v4:=Tryz.zeroValue4
 t5:=Tryz.underlying5
 a5:=Tryz.isAgg5
 z5:=Tryz.sizeOf5
 v5:=Tryz.zeroValue5
 t9:=Tryz.underlying9
 a9:=Tryz.isAgg9
 z9:=Tryz.sizeOf9
 v9:=Tryz.zeroValue9
 t20:=Tryz.underlying20
 a20:=Tryz.isAgg20
 z20:=Tryz.sizeOf20
 v20:=Tryz.zeroValue20
 t37:=Tryz.underlying156
 a37:=Tryz.isAgg156
 z37:=Tryz.sizeOf156
 v37:=Tryz.zeroValue156
 t46:=Tryz.underlying214
 a46:=Tryz.isAgg214
 z46:=Tryz.sizeOf214
 v46:=Tryz.zeroValue214
 t51:=Tryz.underlying246
 a51:=Tryz.isAgg246
 z51:=Tryz.sizeOf246
 v51:=Tryz.zeroValue246
 t53:=Tryz.underlying151
 a53:=Tryz.isAgg151
 z53:=Tryz.sizeOf151
 v53:=Tryz.zeroValue151
 t171:=Tryz.underlying223
 a171:=Tryz.isAgg223
 z171:=Tryz.sizeOf223
 v171:=Tryz.zeroValue223
 t173:=Tryz.underlying226
 a173:=Tryz.isAgg226
 z173:=Tryz.sizeOf226
 v173:=Tryz.zeroValue226
 t212:=Tryz.underlying254
 a212:=Tryz.isAgg254
 z212:=Tryz.sizeOf254
 v212:=Tryz.zeroValue254
 t213:=Tryz.underlying255
 a213:=Tryz.isAgg255
 z213:=Tryz.sizeOf255
 t232:=Tryz.underlying280
 a232:=Tryz.isAgg280
 z232:=Tryz.sizeOf280
 v232:=Tryz.zeroValue280
 t233:=Tryz.underlying281
 a233:=Tryz.isAgg281
 z233:=Tryz.sizeOf281
 v233:=Tryz.zeroValue281
 g17:=by kernel_rfl
 g18:=by kernel_rfl
 g19:=by kernel_rfl
 i0:=by kernel_rfl
 i2:=by kernel_rfl
 i3:=by kernel_rfl
 i4:=by kernel_rfl
 i5:=by kernel_rfl
 i9:=by kernel_rfl
 i20:=by kernel_rfl
 i37:=by kernel_rfl
 i46:=by kernel_rfl
 i51:=by kernel_rfl
 i53:=by kernel_rfl
 i171:=by kernel_rfl
 i173:=by kernel_rfl
 i212:=by kernel_rfl
 i232:=by kernel_rfl
 i233:=by kernel_rfl
 m17:=by kernel_rfl
 m18:=by kernel_rfl
 m19:=by kernel_rfl }
open Go.RowKit Go.Sort Go.Lib in
def Tryz.Ax:Go.Shelf.Ren:=⟨fun | 173=>214 | 246=>139 | 283=>177 | 284=>178 | 285=>179 | 286=>180 | 129=>203 | 317=>208 | 318=>209 | 319=>210 | 320=>211 | 337=>226 | 338=>227 | n=>n,fun | 2=>2 | 3=>3 | 9=>9 | 4=>4 | 171=>223 | 0=>0 | 53=>151 | 37=>156 | 5=>5 | 173=>226 | 212=>254 | 51=>246 | 20=>20 | 213=>255 | 46=>214 | 232=>280 | 233=>281 | n=>n,fun | 17=>3 | 18=>4 | 19=>5 | n=>n⟩
theorem Tryz.OF:Go.Proofs.LaysM.n173 Tryz.prog Tryz.Ax:={
 mixed:=by kernel_rfl
 f129:=Tryz.func203.trans (congrArg some (by kernel_rfl))
 f173:=Tryz.func214.trans (congrArg some (by kernel_rfl))
 f246:=Tryz.func139.trans (congrArg some (by kernel_rfl))
 f283:=Tryz.func177.trans (congrArg some (by kernel_rfl))
 f284:=Tryz.func178.trans (congrArg some (by kernel_rfl))
 f285:=Tryz.func179.trans (congrArg some (by kernel_rfl))
 f286:=Tryz.func180.trans (congrArg some (by kernel_rfl))
 f317:=Tryz.func208.trans (congrArg some (by kernel_rfl))
 f318:=Tryz.func209.trans (congrArg some (by kernel_rfl))
 f319:=Tryz.func210.trans (congrArg some (by kernel_rfl))
 f320:=Tryz.func211.trans (congrArg some (by kernel_rfl))
 f337:=Tryz.func226.trans (congrArg some (by kernel_rfl))
 f338:=Tryz.func227.trans (congrArg some (by kernel_rfl))
 t0:=Tryz.underlying0
 a0:=Tryz.isAgg0
 z0:=Tryz.sizeOf0
 v0:=Tryz.zeroValue0
 t2:=Tryz.underlying2
 a2:=Tryz.isAgg2
 z2:=Tryz.sizeOf2
 v2:=Tryz.zeroValue2
 t3:=Tryz.underlying3
 a3:=Tryz.isAgg3
 z3:=Tryz.sizeOf3
 v3:=Tryz.zeroValue3
 t4:=Tryz.underlying4
 a4:=Tryz.isAgg4
 z4:=Tryz.sizeOf4
 v4:=Tryz.zeroValue4
 t5:=Tryz.underlying5
 a5:=Tryz.isAgg5
 z5:=Tryz.sizeOf5
 v5:=Tryz.zeroValue5
 t9:=Tryz.underlying9
 a9:=Tryz.isAgg9
 z9:=Tryz.sizeOf9
 v9:=Tryz.zeroValue9
 t20:=Tryz.underlying20
 a20:=Tryz.isAgg20
 z20:=Tryz.sizeOf20
 v20:=Tryz.zeroValue20
 t37:=Tryz.underlying156
 a37:=Tryz.isAgg156
 z37:=Tryz.sizeOf156
 v37:=Tryz.zeroValue156
 t46:=Tryz.underlying214
 a46:=Tryz.isAgg214
 z46:=Tryz.sizeOf214
 v46:=Tryz.zeroValue214
 t51:=Tryz.underlying246
 a51:=Tryz.isAgg246
 z51:=Tryz.sizeOf246
 v51:=Tryz.zeroValue246
 t53:=Tryz.underlying151
 a53:=Tryz.isAgg151
 z53:=Tryz.sizeOf151
 v53:=Tryz.zeroValue151
 t171:=Tryz.underlying223
 a171:=Tryz.isAgg223
 z171:=Tryz.sizeOf223
 v171:=Tryz.zeroValue223
 t173:=Tryz.underlying226
 a173:=Tryz.isAgg226
 z173:=Tryz.sizeOf226
 v173:=Tryz.zeroValue226
 t212:=Tryz.underlying254
 a212:=Tryz.isAgg254
 z212:=Tryz.sizeOf254
 v212:=Tryz.zeroValue254
 t213:=Tryz.underlying255
 a213:=Tryz.isAgg255
 z213:=Tryz.sizeOf255
 t232:=Tryz.underlying280
 a232:=Tryz.isAgg280
 z232:=Tryz.sizeOf280
 v232:=Tryz.zeroValue280
 t233:=Tryz.underlying281
 a233:=Tryz.isAgg281
 z233:=Tryz.sizeOf281
 v233:=Tryz.zeroValue281
 g17:=by kernel_rfl
 g18:=by kernel_rfl
 g19:=by kernel_rfl
 i0:=by kernel_rfl
 i2:=by kernel_rfl
 i3:=by kernel_rfl
 i4:=by kernel_rfl
 i5:=by kernel_rfl
 i9:=by kernel_rfl
 i20:=by kernel_rfl
 i37:=by kernel_rfl
 i46:=by kernel_rfl
 i51:=by kernel_rfl
 i53:=by kernel_rfl
 i171:=by kernel_rfl
 i173:=by kernel_rfl
 i212:=by kernel_rfl
 i232:=by kernel_rfl
 i233:=by kernel_rfl
 m17:=by kernel_rfl
 m18:=by kernel_rfl
 m19:=by kernel_rfl }
def Tryz.C2:Go.Shelf.Ren:=⟨fun | 287=>136 | 321=>167 | 322=>168 | n=>n,fun | 9=>9 | 3=>3 | 53=>151 | 75=>153 | 4=>4 | 167=>216 | 5=>5 | 46=>214 | 37=>156 | 0=>0 | 21=>21 | 80=>293 | n=>n,fun | n=>n⟩
theorem Tryz.Vf:Go.Proofs.Lays.n287 Tryz.prog Tryz.C2:={
 mixed:=by kernel_rfl
 f287:=Tryz.func136.trans (congrArg some (by kernel_rfl))
 f321:=Tryz.func167.trans (congrArg some (by kernel_rfl))
 f322:=Tryz.func168.trans (congrArg some (by kernel_rfl))
 t0:=Tryz.underlying0
 a0:=Tryz.isAgg0
 z0:=Tryz.sizeOf0
 v0:=Tryz.zeroValue0
 t3:=Tryz.underlying3
 a3:=Tryz.isAgg3
 z3:=Tryz.sizeOf3
 v3:=Tryz.zeroValue3
 t4:=Tryz.underlying4
 a4:=Tryz.isAgg4
 z4:=Tryz.sizeOf4
 v4:=Tryz.zeroValue4
 t5:=Tryz.underlying5
 a5:=Tryz.isAgg5
 z5:=Tryz.sizeOf5
 v5:=Tryz.zeroValue5
 t9:=Tryz.underlying9
 a9:=Tryz.isAgg9
 z9:=Tryz.sizeOf9
 v9:=Tryz.zeroValue9
 t21:=Tryz.underlying21
 a21:=Tryz.isAgg21
 z21:=Tryz.sizeOf21
 v21:=Tryz.zeroValue21
 t37:=Tryz.underlying156
 a37:=Tryz.isAgg156
 z37:=Tryz.sizeOf156
 v37:=Tryz.zeroValue156
 t46:=Tryz.underlying214
 a46:=Tryz.isAgg214
 z46:=Tryz.sizeOf214
 v46:=Tryz.zeroValue214
 t53:=Tryz.underlying151
 a53:=Tryz.isAgg151
 z53:=Tryz.sizeOf151
 v53:=Tryz.zeroValue151
 t75:=Tryz.underlying153
 a75:=Tryz.isAgg153
 z75:=Tryz.sizeOf153
 v75:=Tryz.zeroValue153
 t167:=Tryz.underlying216
 a167:=Tryz.isAgg216
 z167:=Tryz.sizeOf216
 v167:=Tryz.zeroValue216 }
open Go.RowKit in
theorem Tryz.internal_strconv_ParseUint_10_b16 (t:ByteArray) (hne:t.size≠0) (hmax:t.size≤9223372036854775806) (w:World):
  Calls Tryz.prog 136 #[.string t,.int .i64 10,.int .i64 16] w fun e w'=>e=.returned (Lib.uintTupleM 216 65535 (Lib.parseUintM 65535 0 t.data.toList))∧w'=Lib.bytesWorld w 5 t:=Any.internal_strconv_ParseUint_10_b16 Tryz.Vf t hne hmax w
def Tryz.zd:Go.Shelf.Ren:=⟨fun | 174=>213 | 247=>228 | 245=>137 | 287=>136 | 279=>169 | 280=>170 | 281=>171 | 282=>172 | 321=>167 | 322=>168 | 316=>204 | 171=>45 | 205=>205 | 243=>90 | 246=>139 | 283=>177 | 284=>178 | 285=>179 | 286=>180 | 129=>203 | 317=>208 | 318=>209 | 319=>210 | 320=>211 | 337=>226 | 338=>227 | n=>n,fun | 9=>9 | 3=>3 | 2=>2 | 75=>153 | 85=>256 | 4=>4 | 167=>216 | 5=>5 | 53=>151 | 175=>154 | 46=>214 | 168=>218 | 37=>156 | 0=>0 | 210=>249 | 21=>21 | 127=>268 | 145=>271 | 143=>269 | 171=>223 | 173=>226 | 212=>254 | 51=>246 | 20=>20 | 213=>255 | 232=>280 | 233=>281 | 80=>293 | n=>n,fun | 15=>1 | 16=>2 | 17=>3 | 18=>4 | 19=>5 | n=>n⟩
theorem Tryz.vA:Go.Proofs.LaysC.n174 Tryz.prog Tryz.zd:={
 mixed:=by kernel_rfl
 f129:=Tryz.func203.trans (congrArg some (by kernel_rfl))
 f171:=Tryz.func45.trans (congrArg some (by kernel_rfl))
 f174:=Tryz.func213.trans (congrArg some (by kernel_rfl))
 f205:=Tryz.func205.trans (congrArg some (by kernel_rfl))
 f243:=Tryz.func90.trans (congrArg some (by kernel_rfl))
 f245:=Tryz.func137.trans (congrArg some (by kernel_rfl))
 f246:=Tryz.func139.trans (congrArg some (by kernel_rfl))
 f247:=Tryz.func228.trans (congrArg some (by kernel_rfl))
 f279:=Tryz.func169.trans (congrArg some (by kernel_rfl))
 f280:=Tryz.func170.trans (congrArg some (by kernel_rfl))
 f281:=Tryz.func171.trans (congrArg some (by kernel_rfl))
 f282:=Tryz.func172.trans (congrArg some (by kernel_rfl))
 f283:=Tryz.func177.trans (congrArg some (by kernel_rfl))
 f284:=Tryz.func178.trans (congrArg some (by kernel_rfl))
 f285:=Tryz.func179.trans (congrArg some (by kernel_rfl))
 f286:=Tryz.func180.trans (congrArg some (by kernel_rfl))
 f287:=Tryz.func136.trans (congrArg some (by kernel_rfl))
 f316:=Tryz.func204.trans (congrArg some (by kernel_rfl))
 f317:=Tryz.func208.trans (congrArg some (by kernel_rfl))
 f318:=Tryz.func209.trans (congrArg some (by kernel_rfl))
 f319:=Tryz.func210.trans (congrArg some (by kernel_rfl))
 f320:=Tryz.func211.trans (congrArg some (by kernel_rfl))
 f321:=Tryz.func167.trans (congrArg some (by kernel_rfl))
 f322:=Tryz.func168.trans (congrArg some (by kernel_rfl))
 f337:=Tryz.func226.trans (congrArg some (by kernel_rfl))
 f338:=Tryz.func227.trans (congrArg some (by kernel_rfl))
 t0:=Tryz.underlying0
 a0:=Tryz.isAgg0
 z0:=Tryz.sizeOf0
 v0:=Tryz.zeroValue0
 t2:=Tryz.underlying2
 a2:=Tryz.isAgg2
 z2:=Tryz.sizeOf2
 v2:=Tryz.zeroValue2
 t3:=Tryz.underlying3
 a3:=Tryz.isAgg3
 z3:=Tryz.sizeOf3
 v3:=Tryz.zeroValue3
 t4:=Tryz.underlying4
 a4:=Tryz.isAgg4
 z4:=Tryz.sizeOf4
 v4:=Tryz.zeroValue4
 t5:=Tryz.underlying5
 a5:=Tryz.isAgg5
 z5:=Tryz.sizeOf5
 v5:=Tryz.zeroValue5
 t9:=Tryz.underlying9
 a9:=Tryz.isAgg9
 z9:=Tryz.sizeOf9
 v9:=Tryz.zeroValue9
 t20:=Tryz.underlying20
 a20:=Tryz.isAgg20
 z20:=Tryz.sizeOf20
 v20:=Tryz.zeroValue20
 t21:=Tryz.underlying21
 a21:=Tryz.isAgg21
 z21:=Tryz.sizeOf21
 v21:=Tryz.zeroValue21
 t37:=Tryz.underlying156
 a37:=Tryz.isAgg156
 z37:=Tryz.sizeOf156
 v37:=Tryz.zeroValue156
 t46:=Tryz.underlying214
 a46:=Tryz.isAgg214
 z46:=Tryz.sizeOf214
 v46:=Tryz.zeroValue214
 t51:=Tryz.underlying246
 a51:=Tryz.isAgg246
 z51:=Tryz.sizeOf246
 v51:=Tryz.zeroValue246
 t53:=Tryz.underlying151
 a53:=Tryz.isAgg151
 z53:=Tryz.sizeOf151
 v53:=Tryz.zeroValue151
 t75:=Tryz.underlying153
 a75:=Tryz.isAgg153
 z75:=Tryz.sizeOf153
 v75:=Tryz.zeroValue153
 t85:=Tryz.underlying256
 a85:=Tryz.isAgg256
 z85:=Tryz.sizeOf256
 v85:=Tryz.zeroValue256
 t127:=Tryz.underlying268
 a127:=Tryz.isAgg268
 z127:=Tryz.sizeOf268
 v127:=Tryz.zeroValue268
 t143:=Tryz.underlying269
 a143:=Tryz.isAgg269
 z143:=Tryz.sizeOf269
 v143:=Tryz.zeroValue269
 t145:=Tryz.underlying271
 a145:=Tryz.isAgg271
 z145:=Tryz.sizeOf271
 v145:=Tryz.zeroValue271
 t167:=Tryz.underlying216
 a167:=Tryz.isAgg216
 z167:=Tryz.sizeOf216
 v167:=Tryz.zeroValue216
 t168:=Tryz.underlying218
 a168:=Tryz.isAgg218
 z168:=Tryz.sizeOf218
 v168:=Tryz.zeroValue218
 t171:=Tryz.underlying223
 a171:=Tryz.isAgg223
 z171:=Tryz.sizeOf223
 v171:=Tryz.zeroValue223
 t173:=Tryz.underlying226
 a173:=Tryz.isAgg226
 z173:=Tryz.sizeOf226
 v173:=Tryz.zeroValue226
 t175:=Tryz.underlying154
 a175:=Tryz.isAgg154
 z175:=Tryz.sizeOf154
 v175:=Tryz.zeroValue154
 t210:=Tryz.underlying249
 a210:=Tryz.isAgg249
 z210:=Tryz.sizeOf249
 v210:=Tryz.zeroValue249
 t212:=Tryz.underlying254
 a212:=Tryz.isAgg254
 z212:=Tryz.sizeOf254
 v212:=Tryz.zeroValue254
 t213:=Tryz.underlying255
 a213:=Tryz.isAgg255
 z213:=Tryz.sizeOf255
 t232:=Tryz.underlying280
 a232:=Tryz.isAgg280
 z232:=Tryz.sizeOf280
 v232:=Tryz.zeroValue280
 t233:=Tryz.underlying281
 a233:=Tryz.isAgg281
 z233:=Tryz.sizeOf281
 v233:=Tryz.zeroValue281
 g15:=by kernel_rfl
 g16:=by kernel_rfl
 g17:=by kernel_rfl
 g18:=by kernel_rfl
 g19:=by kernel_rfl
 t80:=Tryz.underlying293
 a80:=Tryz.isAgg293
 z80:=Tryz.sizeOf293
 v80:=Tryz.zeroValue293
 i0:=by kernel_rfl
 i2:=by kernel_rfl
 i3:=by kernel_rfl
 i4:=by kernel_rfl
 i5:=by kernel_rfl
 i9:=by kernel_rfl
 i20:=by kernel_rfl
 i21:=by kernel_rfl
 i37:=by kernel_rfl
 i46:=by kernel_rfl
 i51:=by kernel_rfl
 i53:=by kernel_rfl
 i75:=by kernel_rfl
 i80:=by kernel_rfl
 i85:=by kernel_rfl
 i127:=by kernel_rfl
 i143:=by kernel_rfl
 i145:=by kernel_rfl
 i167:=by kernel_rfl
 i168:=by kernel_rfl
 i171:=by kernel_rfl
 i173:=by kernel_rfl
 i175:=by kernel_rfl
 i210:=by kernel_rfl
 i212:=by kernel_rfl
 i232:=by kernel_rfl
 i233:=by kernel_rfl
 m15:=by kernel_rfl
 m16:=by kernel_rfl
 m17:=by kernel_rfl
 m18:=by kernel_rfl
 m19:=by kernel_rfl
 c0:=by kernel_rfl
 c2:=by kernel_rfl
 c3:=by kernel_rfl
 c4:=by kernel_rfl
 c5:=by kernel_rfl
 c9:=by kernel_rfl
 c20:=by kernel_rfl
 c21:=by kernel_rfl
 c37:=by kernel_rfl
 c46:=by kernel_rfl
 c51:=by kernel_rfl
 c53:=by kernel_rfl
 c75:=by kernel_rfl
 c80:=by kernel_rfl
 c85:=by kernel_rfl
 c127:=by kernel_rfl
 c143:=by kernel_rfl
 c145:=by kernel_rfl
 c167:=by kernel_rfl
 c168:=by kernel_rfl
 c171:=by kernel_rfl
 c173:=by kernel_rfl
 c175:=by kernel_rfl
 c210:=by kernel_rfl
 c212:=by kernel_rfl
 c213:=by kernel_rfl
 c232:=by kernel_rfl
 c233:=by kernel_rfl }
open Go.RowKit in
theorem Tryz.strconv_ParseInt_10_at64_ok (s:ByteArray) (hmax:s.size≤9223372036854775806) (v:Int) (h:Lib.parseIntB 64 s.data.toList=.ok v) (w:World):
  Calls Tryz.prog 213 #[.string s,.int .i64 10,.int .i64 64] w fun e w'=>e=.returned (.tuple #[.int .i64 v,.nilIface])∧(w'=w∨∃ t,w'=Lib.bytesWorld w 5 t):=Any.strconv_ParseInt_10_at64_ok Tryz.vA s hmax v h w
def Tryz.B5:Go.Shelf.Ren:=⟨fun | 145=>44 | 220=>89 | 219=>138 | 217=>173 | 225=>174 | 224=>175 | 267=>176 | 266=>206 | 314=>207 | n=>n,fun | 9=>9 | 4=>4 | 59=>92 | 3=>3 | 5=>5 | 46=>214 | 146=>251 | 51=>246 | n=>n,fun | 1=>0 | n=>n⟩
theorem Tryz.Vv:Go.Proofs.Lays.n145 Tryz.prog Tryz.B5:={
 mixed:=by kernel_rfl
 f145:=Tryz.func44.trans (congrArg some (by kernel_rfl))
 f217:=Tryz.func173.trans (congrArg some (by kernel_rfl))
 f219:=Tryz.func138.trans (congrArg some (by kernel_rfl))
 f220:=Tryz.func89.trans (congrArg some (by kernel_rfl))
 f224:=Tryz.func175.trans (congrArg some (by kernel_rfl))
 f225:=Tryz.func174.trans (congrArg some (by kernel_rfl))
 f266:=Tryz.func206.trans (congrArg some (by kernel_rfl))
 f267:=Tryz.func176.trans (congrArg some (by kernel_rfl))
 f314:=Tryz.func207.trans (congrArg some (by kernel_rfl))
 t3:=Tryz.underlying3
 a3:=Tryz.isAgg3
 z3:=Tryz.sizeOf3
 v3:=Tryz.zeroValue3
 t4:=Tryz.underlying4
 a4:=Tryz.isAgg4
 z4:=Tryz.sizeOf4
 v4:=Tryz.zeroValue4
 t5:=Tryz.underlying5
 a5:=Tryz.isAgg5
 z5:=Tryz.sizeOf5
 v5:=Tryz.zeroValue5
 t9:=Tryz.underlying9
 a9:=Tryz.isAgg9
 z9:=Tryz.sizeOf9
 v9:=Tryz.zeroValue9
 t46:=Tryz.underlying214
 a46:=Tryz.isAgg214
 z46:=Tryz.sizeOf214
 v46:=Tryz.zeroValue214
 t51:=Tryz.underlying246
 a51:=Tryz.isAgg246
 z51:=Tryz.sizeOf246
 v51:=Tryz.zeroValue246
 t59:=Tryz.underlying92
 a59:=Tryz.isAgg92
 z59:=Tryz.sizeOf92
 v59:=Tryz.zeroValue92
 t146:=Tryz.underlying251
 a146:=Tryz.isAgg251
 z146:=Tryz.sizeOf251
 v146:=Tryz.zeroValue251
 g1:=by kernel_rfl }
end Go.Proofs
namespace Go.Proofs.YtonkoellfaopiaaGreatDoor.H
open Go Go.Proofs Go.RowKit Go.Shelf
variable [dq]
def Jp:String:=(Rows.viewChecksRow.laid.map (·.1)).getD 2 default
theorem wQ:Tryz.prog.globalNamed Jp=some 3:=by kernel_rfl
structure Vars (w:World):Prop where
 tab:Lib.TabIs Tryz.prog w Jp .u64 Lib.pow10Tab
 syn:∃ t p,w.cell? ⟨1,0,none⟩=some (.iface t p)
 ran:∃ t p,w.cell? ⟨2,0,none⟩=some (.iface t p)
 max:∃ m,w.cell? ⟨0,0,none⟩=some (.int .i64 m)
theorem ir {w W:World} (h:Vars w) (hb:Below w.heap.size w W):Vars W:=
 ⟨Go.Joins.tab_stays wQ h.tab hb (Nat.le_refl _),let ⟨t,p,e⟩:=h.syn;⟨t,p,(hb.cell (qX e)).trans e⟩,let ⟨t,p,e⟩:=h.ran;⟨t,p,(hb.cell (qX e)).trans e⟩,let ⟨m,e⟩:=h.max;⟨m,(hb.cell (qX e)).trans e⟩⟩
variable {I:Nat→Prop} {w:World}
theorem jK {w':World} (hI:∀ q,I q→q < w.heap.size) (hN:iW I w) (hb:Below w.heap.size w w'):iW I w':=fun r o hr ho=>hN r o hr (by rw [← hb.block r (hI r hr)];exact ho)
theorem g_ {w':World} (hI:∀ q,I q→q < w.heap.size) (hN:iW I w) {r:S} {v:Value} (hb:Below w.heap.size w w') (hr:aY (Gh.bare I) w' r v):vH I w r (.returned v) w':=
 ⟨v,I,rfl,hb,fun _ h=>h,fun q hq=>Nat.lt_of_lt_of_le (hI q hq) hb.size,fun _ h _=>h,jK hI hN hb,hr⟩
theorem KL {G:Gh} (s:ByteArray):aY G w (ss s) (.string s):=.t (.v _ rfl)
theorem BN {G:Gh} (b:Bool):aY G w (bb b) (.bool b):=.t (.v _ rfl)
theorem B6 {G:Gh} {s:S} {vs:Array Value} (h:bD G w [s] vs.toList):∃ v,vs=#[v]∧aY G w s v:=by
 obtain ⟨v,r,e,hv,hr⟩:=h.dK
 obtain rfl:r=[]:=List.length_eq_zero_iff.1 hr.1.symm
 exact ⟨v,Array.toList_inj.1 e,hv⟩
theorem Sq {G:Gh} {s t:S} {vs:Array Value} (h:bD G w [s,t] vs.toList):∃ v u,vs=#[v,u]∧aY G w s v∧aY G w t u:=by
 obtain ⟨v,r,e,hv,hr⟩:=h.dK
 obtain ⟨u,r2,rfl,hu,hr2⟩:=hr.dK
 obtain rfl:r2=[]:=List.length_eq_zero_iff.1 hr2.1.symm
 exact ⟨v,u,Array.toList_inj.1 e,hv,hu⟩
section
variable {P:Program} {ρ:Ren}
open Go.Lib
set_option maxHeartbeats 2000000 in
set_option maxRecDepth 100000 in
theorem nH (L:Lays.n220 P ρ) (s:ByteArray) (c:UInt8) (w:World) (hs:s.size≤281474976710656):
  Calls P (ρ.f 220) #[.string s,.string ⟨#[c]⟩] w fun e w'=>e=.returned (.tuple #[.string ⟨(Lib.cut s.data.toList [c]).1.toArray⟩,.string ⟨(Lib.cut s.data.toList [c]).2.1.toArray⟩,.bool (Lib.cut s.data.toList [c]).2.2])∧∃ n,w'=w.drewN n:=by
 have ho:∀ v,Lib.indexB s ⟨#[c]⟩=v→Lib.indexByte s.data.toList c=v:=fun v h=>by
  rw [← h,Lib.one s ⟨#[c]⟩ rfl]
  simp
  rfl
 have t3:=L.t3;have t4:=L.t4;have t9:=L.t9
 have a3:∀ w,(isAgg (ρ.t 3)).run P w=.ok false w:=run_isAgg_plain L.t3 rfl;have a4:∀ w,(isAgg (ρ.t 4)).run P w=.ok false w:=run_isAgg_plain L.t4 rfl;have a9:∀ w,(isAgg (ρ.t 9)).run P w=.ok false w:=run_isAgg_plain L.t9 rfl
 have e219:∀ args w,(callFunc (ρ.f 219) args).run P w=.ok (.enter (ρ.f 219) args) w:=enters_of L.f219 (by kernel_rfl) rfl
 have mixed:=L.mixed;have z3:=L.z3;have v3:=L.v3;have z4:=L.z4;have v4:=L.v4;have z9:=L.z9;have v9:=L.v9
 rcases Lib.indexB_cases s ⟨#[c]⟩ with hix | ⟨i,hix,hroom⟩
 ·obtain ⟨e1,e2,e3⟩:=Lib.cutB_miss s ⟨#[c]⟩ hix
  have hix':=ho _ hix
  rw [show ([c]:List UInt8)=(⟨#[c]⟩:ByteArray).data.toList from rfl,e1,e2,e3]
  go_enter L.f220,Body.n220_ntmps ρ
  go_wp2_with (go_at_fn (ρ.f 219);refine (Any.stringslite_Index_one { L with } _ _ _).mono ?_;rintro e w' ⟨rfl,rfl⟩;rw [hix'])
  go_ret3
  exact ⟨rfl,0,rfl⟩
 ·obtain ⟨e1,e2,e3⟩:=Lib.cutB_hit s ⟨#[c]⟩ i hix
  have hix':=ho _ hix
  rw [show ([c]:List UInt8)=(⟨#[c]⟩:ByteArray).data.toList from rfl,e1,e2,e3]
  have hsz:(⟨#[c]⟩:ByteArray).size=1:=rfl
  rw [hsz] at hroom ⊢
  have c1:(0:Int)≤↑i:=by omega
  have c2:(↑i:Int)≤↑s.size:=by omega
  have c3:(0:Int)≤↑i+1:=by omega
  have c4:(↑i+1:Int)≤↑s.size:=by omega
  go_enter L.f220,Body.n220_ntmps ρ
  go_wp2_with (go_at_fn (ρ.f 219);refine (Any.stringslite_Index_one { L with } _ _ _).mono ?_;rintro e w' ⟨rfl,rfl⟩;rw [hix'])
  go_region_o
  go_wp2
  go_ret3
  exact ⟨rfl,1,rfl⟩
set_option maxHeartbeats 1000000 in
theorem rQ (L:Lays.n145 P ρ) (s:ByteArray) (c:UInt8) (w:World) (hs:s.size≤281474976710656):
  Calls P (ρ.f 145) #[.string s,.string ⟨#[c]⟩] w fun e w'=>e=.returned (.tuple #[.string ⟨(Lib.cut s.data.toList [c]).1.toArray⟩,.string ⟨(Lib.cut s.data.toList [c]).2.1.toArray⟩,.bool (Lib.cut s.data.toList [c]).2.2])∧∃ n,w'=w.drewN n:=by
 have t4:=L.t4;have t9:=L.t9;have t59:=L.t59
 have a4:∀ w,(isAgg (ρ.t 4)).run P w=.ok false w:=run_isAgg_plain L.t4 rfl;have a9:∀ w,(isAgg (ρ.t 9)).run P w=.ok false w:=run_isAgg_plain L.t9 rfl;have a59:∀ w,(isAgg (ρ.t 59)).run P w=.ok false w:=run_isAgg_plain L.t59 rfl
 have e220:∀ args w,(callFunc (ρ.f 220) args).run P w=.ok (.enter (ρ.f 220) args) w:=enters_of L.f220 (by kernel_rfl) rfl
 have mixed:=L.mixed;have z4:=L.z4;have v4:=L.v4;have z9:=L.z9;have v9:=L.v9;have z59:=L.z59;have v59:=L.v59
 go_enter L.f145,Body.n145_ntmps ρ
 go_wp2_with (go_at_fn (ρ.f 220);refine (nH { L with } _ _ _ hs).mono ?_;rintro e w' ⟨rfl,n,rfl⟩)
 go_ret3
 exact ⟨rfl,n,rfl⟩
end
def J2 (w:World):Prop:=Vars w∧dq.n≤w.heap.size
def mN (f:Nat) (F:List S→Option S):Prop:=∀ args r,F args=some r→∀ (I:Nat→Prop) (w:World) (vs:Array Value),(∀ q,I q→q < w.heap.size)→iW I w→J2 w→bD (Gh.bare I) w args vs.toList→Calls Tryz.prog f vs w (vH I w r)
theorem aet:mN 56 F56:=by
 intro args r h I w vs hI hN _ ha
 unfold F56 at h
 split at h
 ·rename_i a b
  obtain rfl:=Option.some.inj h
  obtain ⟨v,u,rfl,hv,hu⟩:=Sq ha
  obtain ⟨rfl,_⟩:=a_ hv
  obtain ⟨rfl,_⟩:=a_ hu
  refine (Tryz.strings_Compare a b w).mono ?_
  rintro e w' ⟨rfl,rfl⟩
  exact g_ hI hN (Below.refl _ _) (.t (.v _ rfl))
 ·cases h
theorem tf (n:Int) (h0 : -9223372036854775808≤n) (h1:n≤9223372036854775807) (w:World) (hg:Vars w):
  Calls Tryz.prog 214 #[.int .i64 n,.int .i64 10] w fun e w'=>e=.returned (.string (lI n))∧Below w.heap.size w w':=by
 refine (Any.strconv_FormatInt_10 Tryz.OF n h0 h1 w hg.tab).mono fun e w' ⟨he,k,os,hw⟩=>⟨he,?_⟩
 subst hw
 exact Go.Lib.below_grow _ _ (Nat.le_refl _) _ _
theorem ac7:mN 214 W0:=by
 intro args r h I w vs hI hN hV ha
 unfold W0 at h
 split at h
 ·rename_i n
  obtain ⟨v,u,rfl,hv,hu⟩:=Sq ha
  obtain ⟨rfl,_⟩:=a_ hv
  obtain ⟨rfl,_⟩:=a_ hu
  obtain ⟨hc,h⟩:=bP h
  obtain rfl:=Option.some.inj h
  rw [Bool.and_eq_true,decide_eq_true_eq,decide_eq_true_eq] at hc
  refine (tf n hc.1 hc.2 w hV.1).mono ?_
  rintro e w' ⟨rfl,hb⟩
  exact g_ hI hN hb (.t (.v _ rfl))
 ·cases h
theorem afu:mN 45 F45:=by
 intro args r h I w vs hI hN hV ha
 unfold F45 at h
 split at h
 ·rename_i n
  obtain ⟨v,rfl,hv⟩:=B6 ha
  obtain ⟨rfl,_⟩:=a_ hv
  obtain ⟨hc,h⟩:=bP h
  obtain rfl:=Option.some.inj h
  rw [Bool.and_eq_true,decide_eq_true_eq,decide_eq_true_eq] at hc
  refine (Any.strconv_Itoa Tryz.Ox n hc.1 hc.2 w hV.1.tab).mono ?_
  rintro e w' ⟨rfl,k,os,rfl⟩
  exact g_ hI hN (Go.Lib.below_grow _ _ (Nat.le_refl _) _ _) (.t (.v _ rfl))
 ·cases h
theorem agU:mN 44 F44:=by
 intro args r h I w vs hI hN hV ha
 unfold F44 at h
 split at h
 ·rename_i s p
  obtain ⟨v,u,rfl,hv,hu⟩:=Sq ha
  obtain ⟨rfl,_⟩:=a_ hv
  obtain ⟨rfl,_⟩:=a_ hu
  split at h
  ·rename_i c hc
   obtain ⟨hs,h⟩:=bP h
   obtain rfl:=Option.some.inj h
   obtain rfl:p=⟨#[c]⟩:=by
    cases p with
    | mk d=>
     have:d=#[c]:=Array.toList_inj.1 hc
     rw [this]
   refine (rQ (P:=Tryz.prog) Tryz.Vv s c w (Nat.le_of_ble_eq_true hs)).mono ?_
   rintro e w' ⟨rfl,n,rfl⟩
   refine g_ hI hN ?_ (.bJ rfl ?_)
   ·exact below_drewN (Below.refl _ _) n
   ·intro i x v hx hv
    match i with
    | 0=>simp at hx hv;subst hx;subst hv;exact KL _
    | 1=>simp at hx hv;subst hx;subst hv;exact KL _
    | 2=>simp at hx hv;subst hx;subst hv;exact BN _
    | i+3=>simp at hx
  ·cases h
 ·cases h
variable [dq]
theorem Sv {I:Nat→Prop} {w w':World} (hI:∀ q,I q→q < w.heap.size) (hN:iW I w) (hb:Below w.heap.size w w') {sz n r cap':Nat} {g:Fin n→List T} {l:List Value} {c:Array Value} {ty:TypeId} {fz:Nat × Nat} (hr:w.heap.size≤r)
  (hbl:w'.heap[r]?=some (.cells c ty fz)) (hcap:n≤cap') (hc:∀ (j:Nat) (v:Value),l[j]?=some v→c[j]?=some v) (he:eX w I l sz n g):vH I w (.t (.rows sz n g)) (.returned (.slice (some ⟨r,0,none⟩) n cap')) w':=by
 have hlt:r < w'.heap.size:=(Array.getElem?_eq_some_iff.1 hbl).1
 have he2:=(he.mono (w':=w') (I':=fun q=>I q∨q=r) (fun q h=>.inl h) (fun q hq=>hb.block q (hI q hq)))
 refine ⟨_,fun q=>I q∨q=r,rfl,hb,fun _ h=>.inl h,fun q hq=>hq.elim (fun h=>Nat.lt_of_lt_of_le (hI q h) hb.size) (fun h=>h ▸ hlt),fun q hq hl=>hq.elim id (fun h=>absurd hl (by omega)),fun q o hq ho=>?_,.t ?_⟩
 ·rcases hq with hq | rfl
  ·exact jK hI hN hb q o hq ho
  ·rw [hbl] at ho;cases ho;rfl
 ·exact DX (G:=Gh.bare fun q=>I q∨q=r) (b:=r) (fun _ h=>h) (.inr rfl) hbl hcap (he2.row rfl hc) he.2.1
theorem Wc {I:Nat→Prop} {w w':World} (hI:∀ q,I q→q < w.heap.size) (hN:iW I w) (hB:dq.n≤w.heap.size) (hb:Below w.heap.size w w') {sz n r cap':Nat} {g:Fin n→List T} {l:List Value} {c:Array Value} {ty:TypeId} {fz:Nat × Nat} (hr:w.heap.size≤r)
  (hbl:w'.heap[r]?=some (.cells c ty fz)) (hf:kZ c fz) (hcap:n≤cap') (hc:∀ (j:Nat) (v:Value),l[j]?=some v→c[j]?=some v) (he:eX w I l sz n g):vH I w (.top sz n g) (.returned (.slice (some ⟨r,0,none⟩) n cap')) w':=by
 have hlt:r < w'.heap.size:=(Array.getElem?_eq_some_iff.1 hbl).1
 have he2:=(he.mono (w':=w') (I':=I) (fun q h=>h) (fun q hq=>hb.block q (hI q hq)))
 refine ⟨_,fun q=>I q∨q=r,rfl,hb,fun _ h=>.inl h,fun q hq=>hq.elim (fun h=>Nat.lt_of_lt_of_le (hI q h) hb.size) (fun h=>h ▸ hlt),fun q hq hl=>hq.elim id (fun h=>absurd hl (by omega)),fun q o hq ho=>?_,.top ⟨hcap,he.2.1,I,fun q h=>.inl h,fun _=>⟨r,0,c,ty,fz,rfl,.inr rfl,fun h=>?_,Nat.le_trans hB hr,hbl,hf,fun i k t ht=>?_⟩⟩⟩
 ·rcases hq with hq | rfl
  ·exact jK hI hN hb q o hq ho
  ·rw [hbl] at ho;cases ho;rfl
 ·have:=hI r h;omega
 ·rw [Nat.zero_add]
  exact (he2.row (G:=Gh.bare I) rfl hc) i k t ht
theorem pH {P:Program} (w:World) {ops:Array Oper} {rest:List Oper} {o:Oper} {a:Act} {Q:Exit→Act→World→Prop}
  (hg:o.guard=none) (s x:Operand) (t:TypeId) (hop:o.op=Op.call { callee:=Callee.builtin Builtin.append,args:=#[s,x],argTypes:=#[t,t] }) (vs vx:Value) (hs:a.eval s=vs) (hx:a.eval x=vx)
  (v':Value) (w':World) (hrun:(Builtin.append_ #[t,t] o.type #[vs,vx]).run P w=.ok v' w') (hK:wpList P ops Q rest (a.put o.dst v') w'):wpList P ops Q (o::rest) a w:=by
 refine wpList_plain hg fun K hK'=>?_
 unfold Oper.wp
 simp [execOp,hop,resolve,invoke,builtin,hs,hx,hrun,Result.andThen]
 exact hK' _ _ hK
set_option maxRecDepth 100000 in
set_option maxHeartbeats 1000000 in
theorem afv:mN 40 (A3 3 48):=by
 intro args r h I w vs hI hN hV ha
 unfold A3 at h
 split at h
 ·rename_i z n g
  obtain ⟨v,rfl,hv⟩:=B6 ha
  obtain ⟨hc,h⟩:=bP h
  obtain rfl:=Option.some.inj h
  rw [Bool.and_eq_true] at hc
  obtain rfl:z=3:=Nat.eq_of_beq_eq_true hc.1
  have hbig:n*48≤140737488355328:=Nat.le_of_ble_eq_true hc.2
  clear hc
  cases hv with | t hv=>
  have hv0:=hv
  cases hv with
  | rows _ _ _ base cap vs hcap hlen hb hcs=>
   have nil:n=0→∀ b c,vH I w (.top 3 n g) (.returned (.slice b 0 c)) w:=fun hn b c=>by
    subst hn
    exact g_ hI hN (Below.refl _ _) (.top ⟨Nat.zero_le _,hlen,fun _=>False,fun _ h=>h.elim,fun h=>absurd rfl h⟩)
   have k1:=fun (W:World) (n:Nat)=>Lib.run_eql_slice_nil (P:=Tryz.prog) W 50 47 base n cap 0 0 Tryz.underlying50
   cases base with
   | none=>
    have hn:n=0:=by
     rcases Nat.eq_zero_or_pos n with h | h
     ·exact h
     ·obtain ⟨_,_,e,_⟩:=hb (by omega);cases e
    go_enter Tryz.func40,Tryz.ntmps40
    go_wp2
    go_ret
    exact nil hn _ _
   | some ad=>
    obtain ⟨l,he,hcell⟩:∃ l,eX w I l 3 n g∧∀ j v,l[j]?=some v→w.cell? (ad.add j)=some v:=by
     by_cases hn:n=0
     ·subst hn
      exact ⟨[],⟨by simp,fun i=>absurd i.2 (Nat.not_lt_zero _),(fun v h=>by cases h),fun i=>absurd i.2 (Nat.not_lt_zero _)⟩,fun j v h=>by simp at h⟩
     ·obtain ⟨b,off,e,hIb,hcl⟩:=hb hn
      obtain rfl:=Option.some.inj e
      obtain ⟨l,h1,h2⟩:=tC (w:=w) (I:=I) (r:=b) (o:=off) (by decide:(3:Nat)≠0) hlen (fun i k t ht=>⟨_,hcl i k t ht,hcs i k t ht⟩)
      exact ⟨l,h1,fun j v hj=>by rw [addr_add];exact h2 j v hj⟩
    have hb1:Below w.heap.size w (w.alloc (.cells #[] 47)):=(Below.refl _ w).alloc (Nat.le_refl _) _
    have hcell':∀ j v,l[j]?=some v→(w.alloc (.cells #[] 47)).cell? (ad.add j)=some v:=fun j v hj=>(hb1.cell (qX (hcell j v hj))).trans (hcell j v hj)
    have hi47:Tryz.prog.info? 47=some (Tryz.prog.info? 47).get! := rfl
    have key:∃ v' w',(Builtin.append_ #[50,50] 50 #[.slice (some ⟨w.heap.size,0,none⟩) 0 0,.slice (some ad) n cap]).run Tryz.prog (w.alloc (.cells #[] 47))=.ok v' w'∧vH I w (.top 3 n g) (.returned v') w':=by
     by_cases hn:n=0
     ·subst hn
      have hl:l=[]:=List.eq_nil_of_length_eq_zero (by rw [he.1,Nat.zero_mul])
      subst hl
      refine ⟨_,_,run_append_room_cells (P:=Tryz.prog) (w.alloc (.cells #[] 47)) 50 50 47 _ Tryz.underlying50 hi47 w.heap.size 0 0 0 ad 0 cap [] (by simp) (fun j u h=>by simp at h) (fun u h=>by cases h) (Nat.le_refl _) (fun j h=>by simp at h) (fun j h=>by simp at h),?_⟩
      exact g_ hI hN hb1 (.top ⟨Nat.zero_le _,hlen,fun _=>False,fun _ h=>h.elim,fun h=>absurd rfl h⟩)
     ·obtain ⟨v',w',h1,h2,h3⟩:=run_append_arg_grows (P:=Tryz.prog) (w.alloc (.cells #[] 47)) 50 50 47 _ _ 3 48 Tryz.underlying50 hi47 rfl rfl rfl rfl (by decide) ⟨w.heap.size,0,none⟩ 0 0 [] (by simp) (fun j u h=>by simp at h) ad n cap l he.1 hcell' (by omega) (by simp only [maxLen];omega) (by omega)
      refine ⟨v',w',h1,?_⟩
      obtain ⟨hl,h2⟩:=h2
      rcases h2 with ⟨_,h2⟩ | ⟨q,cq,cur,rfl,hq,hbl,hnq,_,hsz,htk⟩
      ·exact absurd h2 (by omega)
      ·simp only [Nat.zero_add,List.nil_append] at htk ⊢
       refine Wc hI hN hV.2 (hb1.trans ⟨h3.os,h3.tape,h3.output,?_,?_⟩) (Nat.le_trans (by simp) hq) hbl (.inl (Nat.le_refl _)) (by omega) (fun j v hj=>?_) he
       ·exact Nat.le_trans (by simp) h3.size
       ·exact fun k hk=>h3.block k (Nat.lt_of_lt_of_le hk (by simp)) (by simp)
       ·rw [← htk,List.getElem?_take] at hj
        split at hj
        ·rw [← Array.getElem?_toList];exact hj
        ·cases hj
    obtain ⟨v',w',hrun,hret⟩:=key
    go_enter Tryz.func40,Tryz.ntmps40
    go_wp2_with (at_builtin;refine pH _ rfl _ _ 50 rfl _ _ rfl rfl v' w' hrun ?_)
    go_ret
    exact hret
 ·cases h
end Go.Proofs.YtonkoellfaopiaaGreatDoor.H
namespace Go.Proofs
open Go.RowKit Go.Maps Go.Sort Go.Shelf
def Tryz.rE:Go.Shelf.Ren:=⟨fun | 7=>231 | 10=>235 | n=>n,fun | 23=>127 | 26=>9 | 3=>4 | 28=>274 | 0=>0 | 27=>273 | 33=>128 | 4=>4 | n=>n,fun | n=>n⟩
theorem Tryz.Kd:Go.Proofs.SlLaysZ.n7 Tryz.prog Tryz.rE:={
 mixed:=by kernel_rfl
 f7:=⟨Tryz.f231.name,by decide,Tryz.func231.trans (congrArg some (by kernel_rfl))⟩
 f10:=⟨Tryz.f235.name,by decide,Tryz.func235.trans (congrArg some (by kernel_rfl))⟩
 t0:=Tryz.underlying0
 a0:=Tryz.isAgg0
 z0:=Tryz.sizeOf0
 v0:=Tryz.zeroValue0
 t4:=Tryz.underlying4
 a4:=Tryz.isAgg4
 z4:=Tryz.sizeOf4
 v4:=Tryz.zeroValue4
 t23:=Tryz.underlying127
 a23:=Tryz.isAgg127
 z23:=Tryz.sizeOf127
 v23:=Tryz.zeroValue127
 t26:=Tryz.underlying9
 a26:=Tryz.isAgg9
 z26:=Tryz.sizeOf9
 v26:=Tryz.zeroValue9
 t27:=Tryz.underlying273
 a27:=Tryz.isAgg273
 z27:=Tryz.sizeOf273
 v27:=Tryz.zeroValue273
 t28:=Tryz.underlying274
 a28:=Tryz.isAgg274
 z28:=Tryz.sizeOf274
 v28:=Tryz.zeroValue274
 t33:=Tryz.underlying128
 a33:=Tryz.isAgg128
 z33:=Tryz.sizeOf128
 v33:=Tryz.zeroValue128 }
def Tryz.nP:Go.Shelf.Ren:=⟨fun | 6=>230 | 8=>233 | 9=>234 | 11=>236 | 13=>165 | 12=>237 | 23=>202 | 24=>203 | 14=>238 | 15=>239 | 16=>240 | 17=>241 | 18=>242 | 19=>243 | 20=>244 | 21=>245 | 22=>246 | 25=>247 | 26=>222 | 27=>223 | 28=>248 | 29=>249 | 30=>250 | 31=>251 | n=>n,fun | 26=>9 | 28=>274 | 24=>31 | 0=>0 | 3=>3 | 37=>214 | 48=>246 | 50=>151 | 4=>4 | 40=>239 | 39=>238 | 45=>243 | 5=>5 | 9=>9 | 51=>262 | 55=>266 | 57=>277 | 58=>278 | 33=>128 | n=>n,fun | n=>n⟩
theorem Tryz.Ml:Go.Proofs.SlLaysZ.n6 Tryz.prog Tryz.nP:={
 mixed:=by kernel_rfl
 f6:=⟨Tryz.f230.name,by decide,Tryz.func230.trans (congrArg some (by kernel_rfl))⟩
 f8:=⟨Tryz.f233.name,by decide,Tryz.func233.trans (congrArg some (by kernel_rfl))⟩
 f11:=⟨Tryz.f236.name,by decide,Tryz.func236.trans (congrArg some (by kernel_rfl))⟩
 t0:=Tryz.underlying0
 a0:=Tryz.isAgg0
 z0:=Tryz.sizeOf0
 v0:=Tryz.zeroValue0
 t24:=Tryz.underlying31
 a24:=Tryz.isAgg31
 z24:=Tryz.sizeOf31
 v24:=Tryz.zeroValue31
 t26:=Tryz.underlying9
 a26:=Tryz.isAgg9
 z26:=Tryz.sizeOf9
 v26:=Tryz.zeroValue9
 t28:=Tryz.underlying274
 a28:=Tryz.isAgg274
 z28:=Tryz.sizeOf274
 v28:=Tryz.zeroValue274
 i26:=by kernel_rfl }
def Tryz.DS:Go.Shelf.Ren:=⟨fun | 6=>234 | 8=>165 | 9=>237 | 19=>202 | 20=>203 | 21=>238 | 22=>239 | 23=>240 | 24=>241 | 25=>242 | 26=>243 | 27=>244 | 28=>245 | 29=>246 | 36=>247 | 31=>222 | 32=>223 | 37=>248 | 38=>249 | 39=>250 | 41=>251 | n=>n,fun | 27=>31 | 29=>9 | 3=>3 | 32=>214 | 26=>31 | 0=>0 | 44=>246 | 46=>151 | 4=>4 | 36=>239 | 35=>238 | 41=>243 | 5=>5 | 9=>9 | 53=>262 | 57=>266 | 63=>277 | 64=>278 | n=>n,fun | n=>n⟩
theorem Tryz.Ko:Go.Proofs.SlLaysM.n6 Tryz.prog Tryz.DS:={
 mixed:=by kernel_rfl
 f6:=⟨Tryz.f234.name,by decide,Tryz.func234.trans (congrArg some (by kernel_rfl))⟩
 f8:=Tryz.func165.trans (congrArg some (by kernel_rfl))
 f9:=⟨Tryz.f237.name,by decide,Tryz.func237.trans (congrArg some (by kernel_rfl))⟩
 f19:=Tryz.func202.trans (congrArg some (by kernel_rfl))
 f20:=Tryz.func203.trans (congrArg some (by kernel_rfl))
 f21:=⟨Tryz.f238.name,by decide,Tryz.func238.trans (congrArg some (by kernel_rfl))⟩
 f22:=⟨Tryz.f239.name,by decide,Tryz.func239.trans (congrArg some (by kernel_rfl))⟩
 f23:=⟨Tryz.f240.name,by decide,Tryz.func240.trans (congrArg some (by kernel_rfl))⟩
 f24:=⟨Tryz.f241.name,by decide,Tryz.func241.trans (congrArg some (by kernel_rfl))⟩
 f25:=⟨Tryz.f242.name,by decide,Tryz.func242.trans (congrArg some (by kernel_rfl))⟩
 f26:=⟨Tryz.f243.name,by decide,Tryz.func243.trans (congrArg some (by kernel_rfl))⟩
 f27:=⟨Tryz.f244.name,by decide,Tryz.func244.trans (congrArg some (by kernel_rfl))⟩
 f28:=⟨Tryz.f245.name,by decide,Tryz.func245.trans (congrArg some (by kernel_rfl))⟩
 f29:=⟨Tryz.f246.name,by decide,Tryz.func246.trans (congrArg some (by kernel_rfl))⟩
 f31:=Tryz.func222.trans (congrArg some (by kernel_rfl))
 f32:=Tryz.func223.trans (congrArg some (by kernel_rfl))
 f36:=⟨Tryz.f247.name,by decide,Tryz.func247.trans (congrArg some (by kernel_rfl))⟩
 f37:=⟨Tryz.f248.name,by decide,Tryz.func248.trans (congrArg some (by kernel_rfl))⟩
 f38:=⟨Tryz.f249.name,by decide,Tryz.func249.trans (congrArg some (by kernel_rfl))⟩
 f39:=⟨Tryz.f250.name,by decide,Tryz.func250.trans (congrArg some (by kernel_rfl))⟩
 f41:=⟨Tryz.f251.name,by decide,Tryz.func251.trans (congrArg some (by kernel_rfl))⟩
 t0:=Tryz.underlying0
 a0:=Tryz.isAgg0
 z0:=Tryz.sizeOf0
 v0:=Tryz.zeroValue0
 t3:=Tryz.underlying3
 a3:=Tryz.isAgg3
 z3:=Tryz.sizeOf3
 v3:=Tryz.zeroValue3
 t4:=Tryz.underlying4
 a4:=Tryz.isAgg4
 z4:=Tryz.sizeOf4
 v4:=Tryz.zeroValue4
 t5:=Tryz.underlying5
 a5:=Tryz.isAgg5
 z5:=Tryz.sizeOf5
 v5:=Tryz.zeroValue5
 t9:=Tryz.underlying9
 a9:=Tryz.isAgg9
 z9:=Tryz.sizeOf9
 v9:=Tryz.zeroValue9
 t26:=Tryz.underlying31
 a26:=Tryz.isAgg31
 z26:=Tryz.sizeOf31
 v26:=Tryz.zeroValue31
 t27:=Tryz.underlying31
 a27:=Tryz.isAgg31
 z27:=Tryz.sizeOf31
 v27:=Tryz.zeroValue31
 t29:=Tryz.underlying9
 a29:=Tryz.isAgg9
 z29:=Tryz.sizeOf9
 v29:=Tryz.zeroValue9
 t32:=Tryz.underlying214
 a32:=Tryz.isAgg214
 z32:=Tryz.sizeOf214
 v32:=Tryz.zeroValue214
 t35:=Tryz.underlying238
 a35:=Tryz.isAgg238
 z35:=Tryz.sizeOf238
 v35:=Tryz.zeroValue238
 t36:=Tryz.underlying239
 a36:=Tryz.isAgg239
 z36:=Tryz.sizeOf239
 v36:=Tryz.zeroValue239
 t41:=Tryz.underlying243
 a41:=Tryz.isAgg243
 z41:=Tryz.sizeOf243
 v41:=Tryz.zeroValue243
 t44:=Tryz.underlying246
 a44:=Tryz.isAgg246
 z44:=Tryz.sizeOf246
 v44:=Tryz.zeroValue246
 t46:=Tryz.underlying151
 a46:=Tryz.isAgg151
 z46:=Tryz.sizeOf151
 v46:=Tryz.zeroValue151
 t53:=Tryz.underlying262
 a53:=Tryz.isAgg262
 z53:=Tryz.sizeOf262
 v53:=Tryz.zeroValue262
 t57:=Tryz.underlying266
 a57:=Tryz.isAgg266
 z57:=Tryz.sizeOf266
 v57:=Tryz.zeroValue266
 t63:=Tryz.underlying277
 a63:=Tryz.isAgg277
 z63:=Tryz.sizeOf277
 v63:=Tryz.zeroValue277
 t64:=Tryz.underlying278
 a64:=Tryz.isAgg278
 z64:=Tryz.sizeOf278
 v64:=Tryz.zeroValue278 }
theorem Tryz.TT (m:Nat):AnyZ.SortsIn Tryz.prog Tryz.nP Fence.wide m:=
 ⟨fun blk off cap ss W hH hblk hsz=>callsIn_wide.2 (AnyM.slices_Sort_string Tryz.Ko blk off cap ss W hH hblk hsz),
  fun p cap W=>callsIn_wide.2 (AnyM.slices_Sort_string_none Tryz.Ko p cap W)⟩
theorem Tryz.vF (mb:Option Nat) (W:World):CallsIn Fence.wide 5 Tryz.prog 231 #[.map mb] W fun e w'=>e=.returned (.func (.func 235) #[] #[.pointer (some ⟨W.heap.size,0,none⟩)])∧w'=W.alloc (.cells #[.map mb] 127):=
 AnyZ.keys_in Tryz.Kd Fence.wide 5 trivial rfl mb W
set_option maxHeartbeats 1000000 in
theorem Tryz.jD {H:Type} (b nn:Nat) (D0:DataW H) (R:Value→Option (DataW H × List MemPlace)) (w:World) (hown:w.ownsMap Tryz.prog 9 R b nn D0) (hmax:Maps.size D0≤maxLen) (hbytes:Maps.size D0*16≤140737488355328):
  CallsIn Fence.wide 5 Tryz.prog 230 #[.func (.func 235) #[] #[.pointer (some ⟨w.heap.size,0,none⟩)]] (w.alloc (.cells #[.map (some b)] 127)) fun e w'=>∃ (v:Value) (ss:List (List UInt8)),e=.returned v∧ss.Perm (strKeys D0)∧
   w'.ownsRow (w.alloc (.cells #[.map (some b)] 127)).heap.size 9 1 v ss.length ((ss.mergeSort (fun x y=>decide (x≤y))).map encStr)∧(v=.slice none 0 0↔ss=[])∧Below (w.alloc (.cells #[.map (some b)] 127)).heap.size (w.alloc (.cells #[.map (some b)] 127)) w':=by
 have hbl:=hown.lt
 have hseq:SeqGives Fence.wide 2 Tryz.prog 235 #[.pointer (some ⟨w.heap.size,0,none⟩)] encStr (fun ss=>ss.Perm (strKeys D0)) (Maps.size D0) (w.alloc (.cells #[.map (some b)] 127)):=
  AnyZ.keys_gives (ρ:=Tryz.rE) { Tryz.Kd with } Fence.wide _ trivial rfl (by omega) w.heap.size b nn D0 _ (by simp) (by simp) (by
   obtain ⟨es,clock,hb,Ft,hs,hD⟩:=hown
   exact ⟨es,clock,(Below.heap_alloc _ _ b hbl).trans hb,Ft,hs,hD⟩)
 exact AnyZ.sorted_in Tryz.Ml Fence.wide 5 trivial trivial trivial trivial rfl (by omega) (Tryz.TT _) (enters_of Tryz.func234 (by kernel_rfl) rfl) 235 #[.pointer (some ⟨w.heap.size,0,none⟩)] trivial (enters_of Tryz.func235 (by kernel_rfl) rfl) _ _ hmax hbytes _ hseq
end Go.Proofs
namespace Go.Proofs.YtonkoellfaopiaaGreatDoor.H
open Go Go.Proofs Go.RowKit Go.Shelf Go.Maps Go.Sort Go.ChangeMaps Go.MapKept
open Go.WideElems (Fit)
variable [dq]
theorem xy:∀ (es:List (S × S)) (ks:List ByteArray),ru es=some ks→ks.length=es.length∧∀ (i:Nat) (e:S × S),es[i]?=some e→∃ k b,ks[i]?=some k∧e=(.t (.v (.string k)),.t (.v (.bool b)))
 | [],ks,h=>by
  unfold ru at h
  obtain rfl:=Option.some.inj h
  exact ⟨rfl,fun i e h=>by simp at h⟩
 | e::r,ks,h=>by
  unfold ru at h
  split at h
  ·cases ‹_::_=[]›
  ·rename_i k b r' he
   obtain ⟨rfl,rfl⟩:=List.cons.inj he
   obtain ⟨ks',hk,rfl⟩:=Option.map_eq_some_iff.1 h
   obtain ⟨h1,h2⟩:=xy _ ks' hk
   refine ⟨by simp [h1],fun i e hi=>?_⟩
   cases i with
   | zero=>simp at hi;subst hi;exact ⟨k,b,rfl,rfl⟩
   | succ i=>simp at hi;exact h2 i e hi
  ·cases h
theorem ky:∀ (ks:List ByteArray),dG ks=true→ks.Nodup
 | [],_=>List.nodup_nil
 | k::r,h=>by
  unfold dG at h
  rw [Bool.and_eq_true,Bool.not_eq_true'] at h
  refine List.nodup_cons.2 ⟨fun hm=>?_,ky r h.2⟩
  rw [List.any_eq_false] at h
  exact h.1 k hm (dc.2 rfl)
set_option maxRecDepth 100000 in
set_option maxHeartbeats 1000000 in
theorem abL:mN 216 UG:=by
 intro args r h I w vs hI hN hV ha
 unfold UG at h
 split at h
 ·rename_i es
  obtain ⟨v,rfl,hv⟩:=B6 ha
  split at h
  ·rename_i ks hks
   obtain ⟨hc,h⟩:=bP h
   obtain rfl:=Option.some.inj h
   rw [Bool.and_eq_true,Bool.and_eq_true] at hc
   obtain ⟨⟨c1,c2⟩,c3⟩:=hc
   obtain ⟨hl,hget⟩:=xy es ks hks
   cases hv with | @mt _ b arr clock hi hb hsz hk hval hbo=>
   have hkey:∀ (i:Nat) (m:MapEntry),arr[i]?=some m→∃ k x,ks[i]?=some k∧m.key=.string k∧m.val=.bool x:=by
    intro i m hm
    have hi:i < es.length:=by rw [hsz];exact (Array.getElem?_eq_some_iff.1 hm).1
    obtain ⟨k,x,h1,h2⟩:=hget i _ (List.getElem?_eq_getElem hi)
    have r1:=hk i _ m (List.getElem?_eq_getElem hi) hm
    have r2:=hval i _ m (List.getElem?_eq_getElem hi) hm
    rw [h2] at r1 r2
    exact ⟨k,x,h1,(a_ r1).1,(a_ r2).1⟩
   have hkl:arr.toList.map (·.key)=ks.map (fun k=>Value.string k):=by
    apply List.ext_getElem?
    intro i
    rw [List.getElem?_map,List.getElem?_map,Array.getElem?_toList]
    cases hm:arr[i]? with
    | none=>
     have:arr.size≤i:=Array.getElem?_eq_none_iff.1 hm
     rw [List.getElem?_eq_none (by rw [hl,hsz];exact this)];rfl
    | some m=>
     obtain ⟨k,x,h1,h2,h3⟩:=hkey i m hm
     rw [h1,Option.map_some,Option.map_some,h2]
   have hsmall:∀ k∈ks,k.size≤maxLen:=fun k hm=>by
    have:=Nat.le_of_ble_eq_true (List.all_eq_true.1 c2 k hm)
    simp only [maxLen];omega
   have hrd:∀ m∈arr.toList,∃ k x,k∈ks∧m.key=.string k∧WideElems.rd (H:=TypeId × Value) Tryz.prog 9 (plainElem Tryz.prog 4) m=some (.string k.data.toList,.lit (.bool x)):=by
    intro m hm
    obtain ⟨i,hi,rfl⟩:=List.mem_iff_getElem.1 hm
    obtain ⟨k,x,h1,h2,h3⟩:=hkey i arr.toList[i] (by rw [← Array.getElem?_toList];exact List.getElem?_eq_getElem hi)
    have hkm:=List.mem_of_getElem? h1
    refine ⟨k,x,hkm,h2,?_⟩
    unfold WideElems.rd
    rw [h2,h3]
    simp only [keyOf,mapKey,Tryz.underlying9,hsmall k hkm,if_true,Option.bind_some,plainElem,Tryz.underlying4,Option.map_some]
   have hF:Fit (H:=TypeId × Value) Tryz.prog 9 (plainElem Tryz.prog 4) arr clock:=by
    refine ⟨?_,?_,fun x hx=>let ⟨k,b,_,_,h⟩:=hrd x hx;⟨_,h⟩⟩
    ·have:=Nat.le_of_ble_eq_true c3
     rw [← hsz];simp only [maxLen];omega
    ·refine ⟨hbo.1,hbo.2,?_⟩
     rw [hkl]
     exact List.Pairwise.map _ (fun a b hab e=>hab (by injection e)) (ky ks c1)
   have hown:w.ownsMap (H:=TypeId × Value) Tryz.prog 9 (plainElem Tryz.prog 4) b arr.size (.map ((arr.toList.map (WideElems.rg Tryz.prog 9 (plainElem Tryz.prog 4))).foldr DataW.insert [])):=⟨arr,clock,hb,hF,Nat.le_refl _,rfl⟩
   generalize hD:(DataW.map ((arr.toList.map (WideElems.rg (H:=TypeId × Value) Tryz.prog 9 (plainElem Tryz.prog 4))).foldr DataW.insert []))=D0 at hown
   have hsize:Maps.size D0=es.length:=by
    rw [← hD,size_eq,(WideShapes.sorted_perm _).length_eq,List.length_map,hsz,Array.length_toList]
   have hperm:(strKeys D0).Perm (ks.map fun k=>k.data.toList):=by
    rw [← hD]
    show ((List.foldr DataW.insert [] _).map fun p=>strOf p.1).Perm _
    refine ((WideShapes.sorted_perm _).map _).trans ?_
    have e1:(arr.toList.map (WideElems.rg (H:=TypeId × Value) Tryz.prog 9 (plainElem Tryz.prog 4))).map (fun p=>strOf p.1)=(arr.toList.map (·.key)).map (fun v=>match v with | .string k=>k.data.toList | _=>[]):=by
     rw [List.map_map,List.map_map]
     refine List.map_congr_left fun m hm=>?_
     obtain ⟨k,x,_,h2,h3⟩:=hrd m hm
     simp only [Function.comp_apply,WideElems.rg,h3,h2,Option.getD_some,strOf]
    rw [e1,hkl,List.map_map]
    exact List.Perm.refl _
   refine (callsIn_wide (n:=6)).1 ?_
   have hfK:Fence.wide.fn 231:=trivial
   have hfS:Fence.wide.fn 230:=trivial
   have hmax:Maps.size D0≤maxLen:=by
    have:=Nat.le_of_ble_eq_true c3
    rw [hsize];simp only [maxLen];omega
   have hbytes:Maps.size D0*16≤140737488355328:=by
    have:=Nat.le_of_ble_eq_true c3
    rw [hsize];omega
   refine callsIn_of_wp Tryz.func216 rfl trivial ?_ rfl
   simp only [Tryz.ntmps216,List.size_toArray,List.length_cons,List.length_nil,Nat.reduceAdd,Nat.reduceSub,Array.replicate_succ,Array.replicate_zero,List.push_toArray,List.append_toArray,List.nil_append,List.cons_append]
   gi_wp2_with (first
    | (gi_at_call 231;refine (Tryz.vF _ _).mono ?_;rintro e w' ⟨rfl,rfl⟩)
    | (gi_at_call 230;refine (Tryz.jD b arr.size D0 _ w hown hmax hbytes).mono ?_;rintro e w' ⟨v,ss,rfl,hS,hrow,hnil,hbw⟩))
   go_ret
   have hb1:Below w.heap.size w w':=((Below.refl _ w).alloc (Nat.le_refl _) _).trans (hbw.mono (by simp))
   have es:ss.mergeSort (fun x y=>decide (x≤y))=gu ks:=mergeSort_of_perm (hS.trans hperm)
   have hlen:ss.length=(gu ks).length:=by rw [← es,List.length_mergeSort]
   rw [es,hlen] at hrow
   unfold qh
   obtain ⟨q1,q2⟩:=hrow
   rcases q2 with ⟨rfl,q2⟩ | ⟨q,cq,cur,rfl,hq,hbl,hnq,_,hcs,htk⟩
   ·have hz:dH w' I (.rows 1 (gu ks).length fun i=>[.v (.string ⟨((gu ks)[i.1]'i.2).toArray⟩)]) (.slice none (gu ks).length 0):=.rows 1 _ _ none 0 (fun _ _=>undef) (by omega) (fun _=>rfl) (fun h=>absurd q2 h) (fun i=>absurd i.2 (by omega))
    rw [show (Value.slice none (gu ks).length 0)=.slice none 0 0 by rw [q2]] at hz
    exact g_ hI hN hb1 (.t hz)
   ·refine Sv hI hN hb1 (Nat.le_trans (by simp) hq) hbl hnq (l:=(gu ks).map encStr) (fun j v hj=>?_) ⟨by simp,fun _=>rfl,fun v hv=>?_,fun i k t ht=>?_⟩
    ·rw [← htk,List.getElem?_take] at hj
     split at hj
     ·rw [← Array.getElem?_toList];exact hj
     ·cases hj
    ·obtain ⟨x,_,rfl⟩:=List.mem_map.1 hv;rfl
    ·cases k with
     | zero=>
      simp at ht;subst ht
      exact ⟨_,by rw [Nat.mul_one,Nat.add_zero,List.getElem?_map,List.getElem?_eq_getElem i.2];rfl,.v _ rfl⟩
     | succ k=>simp at ht
  ·cases h
 ·cases h
end Go.Proofs.YtonkoellfaopiaaGreatDoor.H
namespace Go.Proofs.YtonkoellfaopiaaGreatDoor.H
open Go Go.Proofs Go.RowKit Go.Shelf
variable [dq]
structure aI (p:Prop):Prop where
 out:p
theorem PA (s:ByteArray) (hs:s.size≤281474976710656) (v:Int) (h:Lib.parseIntB 64 s.data.toList=.ok v) (w:World):
  Calls Tryz.prog 213 #[.string s,.int .i64 10,.int .i64 64] w fun e w'=>e=.returned (.tuple #[.int .i64 v,.nilIface])∧Below w.heap.size w w':=by
 refine (Tryz.strconv_ParseInt_10_at64_ok s (by omega) v h w).mono fun e w' ⟨he,hw⟩=>⟨he,?_⟩
 rcases hw with rfl | ⟨t,rfl⟩
 ·exact Below.refl _ _
 ·exact Go.Lib.bytesWorld_below _ _ t
theorem MZ (s:ByteArray) (hs:s.size≤281474976710656) (h:∀ v,Lib.parseIntB 64 s.data.toList≠.ok v) (w:World) (hg:Vars w):
  Calls Tryz.prog 213 #[.string s,.int .i64 10,.int .i64 64] w fun e w'=>(∃ v t p,e=.returned (.tuple #[.int .i64 v,.iface t p]))∧Below w.heap.size w w':=by
 obtain ⟨t1,p1,e1⟩:=hg.syn
 obtain ⟨t2,p2,e2⟩:=hg.ran
 cases hp:Lib.parseIntB 64 s.data.toList
 case ok v=>exact absurd hp (h v)
 all_goals first
  | exact (Any.strconv_ParseInt_10_at64_syntax Tryz.vA s hs hp _ w e1 (.inr ⟨_,_,rfl⟩)).mono fun e w' ⟨N,he,_,_,hb⟩=>⟨⟨_,_,_,he⟩,hb⟩
  | exact (Any.strconv_ParseInt_10_at64_range Tryz.vA s hs hp _ w e2 (.inr ⟨_,_,rfl⟩)).mono fun e w' ⟨N,he,_,_,hb⟩=>⟨⟨_,_,_,he⟩,hb⟩
set_option maxHeartbeats 1000000 in
theorem x_ (s:ByteArray) (hs:s.size≤281474976710656) (w:World) (hg:Vars w):
  Calls Tryz.prog 183 #[.string s] w fun e w'=>e=.returned (.tuple #[.int .i64 ((kW s).getD 0),.bool (kW s).isSome])∧Below w.heap.size w w':=by
 obtain ⟨o,ho⟩:∃ o,o=kW s:=⟨_,rfl⟩
 rw [← ho]
 unfold kW at ho
 have HV:=aI.mk hg
 clear hg
 cases hp:Lib.parseIntB 64 s.data.toList with
 | ok n=>
  have HP:=aI.mk (PA s hs n hp w)
  rw [hp] at ho
  dsimp only at ho
  clear hp
  by_cases h1:n < -2147483648
  ·rw [if_neg (by omega)] at ho
   subst ho
   go_enter Tryz.func183,Tryz.ntmps183
   go_wp2_with (go_at_call 213;refine HP.out.mono ?_;rintro e w2 ⟨rfl,hb2⟩;have HB2:=aI.mk hb2;clear hb2)
   go_ret2
   exact ⟨rfl,HB2.out⟩
  ·by_cases h2:n > 2147483648
   ·rw [if_neg (by omega)] at ho
    subst ho
    go_enter Tryz.func183,Tryz.ntmps183
    go_wp2_with (go_at_call 213;refine HP.out.mono ?_;rintro e w2 ⟨rfl,hb2⟩;have HB2:=aI.mk hb2;clear hb2)
    go_ret2
    exact ⟨rfl,HB2.out⟩
   ·have HF:=fun W (hW:Vars W)=>aI.mk (tf n (by omega) (by omega) W hW)
    have HF':=aI.mk HF
    clear HF
    by_cases h3:Lib.itoa n=s.data.toList
    ·rw [if_pos ⟨by omega,by omega,h3⟩] at ho
     subst ho
     have h4:lI n=s:=ByteArray.ext (Array.ext' h3)
     clear h3
     rw [h4] at HF'
     clear h4
     go_enter Tryz.func183,Tryz.ntmps183
     go_wp2_with (first | (go_at_call 213;refine HP.out.mono ?_;rintro e w2 ⟨rfl,hb2⟩;have HB2:=aI.mk hb2;clear hb2) | (go_at_call 214;refine (HF'.out _ (ir HV.out HB2.out)).out.mono ?_;rintro e w3 ⟨rfl,hb3⟩;have HB3:=aI.mk (HB2.out.trans (hb3.mono HB2.out.size));clear hb3))
     go_ret2
     exact ⟨rfl,HB3.out⟩
    ·rw [if_neg (fun h=>h3 h.2.2)] at ho
     subst ho
     obtain ⟨z,hz⟩:∃ z:ByteArray,z=lI n:=⟨_,rfl⟩
     have h4:¬ z=s:=fun h=>h3 (by rw [← h,hz];rfl)
     have h5:(z.toList == s.toList)=false:=beq_eq_false_iff_ne.2 (fun h=>h4 (ByteArray.ext (Array.ext' (by rw [← ByteArray.toList_eq,← ByteArray.toList_eq];exact h))))
     rw [← hz] at HF'
     clear hz h3
     go_enter Tryz.func183,Tryz.ntmps183
     go_wp2_with (first | (go_at_call 213;refine HP.out.mono ?_;rintro e w2 ⟨rfl,hb2⟩;have HB2:=aI.mk hb2;clear hb2) | (go_at_call 214;refine (HF'.out _ (ir HV.out HB2.out)).out.mono ?_;rintro e w3 ⟨rfl,hb3⟩;have HB3:=aI.mk (HB2.out.trans (hb3.mono HB2.out.size));clear hb3))
     all_goals first
      | (go_ret2;exact ⟨rfl,HB3.out⟩)
      | (exfalso;rename_i h;rw [h5] at h;exact absurd h.2 (by decide))
 | _=>
  have HP:=aI.mk (MZ s hs (by rw [hp];intro v h;cases h) w HV.out)
  rw [hp] at ho
  dsimp only at ho
  subst ho
  clear hp
  go_enter Tryz.func183,Tryz.ntmps183
  go_wp2_with (go_at_call 213;refine HP.out.mono ?_;rintro e w2 ⟨⟨v,t,p,rfl⟩,hb2⟩;have HB2:=aI.mk hb2;clear hb2)
  go_ret2
  exact ⟨rfl,HB2.out⟩
theorem abT:mN 183 V7:=by
 intro args r h I w vs hI hN hV ha
 unfold V7 at h
 split at h
 ·rename_i s
  obtain ⟨v,rfl,hv⟩:=B6 ha
  obtain ⟨rfl,_⟩:=a_ hv
  obtain ⟨hc,h⟩:=bP h
  obtain rfl:=Option.some.inj h
  refine (x_ s (Nat.le_of_ble_eq_true hc) w hV.1).mono ?_
  rintro e w' ⟨rfl,hb⟩
  refine g_ hI hN hb (.bJ rfl ?_)
  intro i x v hx hv
  match i with
  | 0=>simp at hx hv;subst hx;subst hv;exact .t (.v _ rfl)
  | 1=>simp at hx hv;subst hx;subst hv;exact BN _
  | i+2=>simp at hx
 ·cases h
end Go.Proofs.YtonkoellfaopiaaGreatDoor.H
