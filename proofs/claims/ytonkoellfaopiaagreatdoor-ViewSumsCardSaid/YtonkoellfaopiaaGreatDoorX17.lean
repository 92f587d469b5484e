import Derived.Shelf.SlSortCmp.NoneTotal
import Derived.Test.YtonkoellfaopiaaGreatDoorProg
import Derived.Test.YtonkoellfaopiaaGreatDoorX16
import Derived.SizedLaws
import Derived.ChangeArms
import Derived.ChangeSlices
import Derived.OpenShut
import Derived.Test.YtonkoellfaopiaaGreatDoorX15
import Derived.Test.YtonkoellfaopiaaGreatDoorRows
import Derived.HandedShaped
import Derived.Shelf.Vars
import Derived.LaidLaws
import Derived.LaidHandle
import Derived.ChangeSame
import Derived.ChangeVars
import Derived.ProofKit
import Derived.RowKit
set_option linter.unusedSimpArgs false
set_option linter.unusedVariables false
namespace Go.Proofs
open Go.Shelf
def Tryz.sortLabs_ren:Go.Shelf.Ren:=⟨fun | 6=>133 | 15=>165 | 14=>164 | 28=>202 | 29=>203 | 20=>194 | 21=>195 | 22=>196 | 23=>197 | 24=>198 | 25=>199 | 26=>200 | 27=>201 | 46=>221 | 47=>222 | 48=>223 | 49=>224 | 50=>225 | 57=>232 | n=>n,fun | 22=>53 | 24=>88 | 25=>183 | 3=>3 | 39=>214 | 0=>0 | 53=>246 | 55=>151 | 4=>4 | 46=>239 | 45=>238 | 50=>243 | 5=>5 | 9=>9 | 66=>262 | 70=>266 | 76=>277 | 77=>278 | n=>n,fun | n=>n⟩
theorem Tryz.sortLabs:Go.Proofs.SlLaysF0.n6 Tryz.prog Tryz.sortLabs_ren:={
 mixed:=by kernel_rfl
 f6:=⟨Tryz.f133.name,by decide,Tryz.func133.trans (congrArg some (by kernel_rfl))⟩
 f14:=⟨Tryz.f164.name,by decide,Tryz.func164.trans (congrArg some (by kernel_rfl))⟩
 f15:=Tryz.func165.trans (congrArg some (by kernel_rfl))
 f20:=⟨Tryz.f194.name,by decide,Tryz.func194.trans (congrArg some (by kernel_rfl))⟩
 f21:=⟨Tryz.f195.name,by decide,Tryz.func195.trans (congrArg some (by kernel_rfl))⟩
 f22:=⟨Tryz.f196.name,by decide,Tryz.func196.trans (congrArg some (by kernel_rfl))⟩
 f23:=⟨Tryz.f197.name,by decide,Tryz.func197.trans (congrArg some (by kernel_rfl))⟩
 f24:=⟨Tryz.f198.name,by decide,Tryz.func198.trans (congrArg some (by kernel_rfl))⟩
 f25:=⟨Tryz.f199.name,by decide,Tryz.func199.trans (congrArg some (by kernel_rfl))⟩
 f26:=⟨Tryz.f200.name,by decide,Tryz.func200.trans (congrArg some (by kernel_rfl))⟩
 f27:=⟨Tryz.f201.name,by decide,Tryz.func201.trans (congrArg some (by kernel_rfl))⟩
 f28:=Tryz.func202.trans (congrArg some (by kernel_rfl))
 f29:=Tryz.func203.trans (congrArg some (by kernel_rfl))
 f46:=⟨Tryz.f221.name,by decide,Tryz.func221.trans (congrArg some (by kernel_rfl))⟩
 f47:=Tryz.func222.trans (congrArg some (by kernel_rfl))
 f48:=Tryz.func223.trans (congrArg some (by kernel_rfl))
 f49:=⟨Tryz.f224.name,by decide,Tryz.func224.trans (congrArg some (by kernel_rfl))⟩
 f50:=⟨Tryz.f225.name,by decide,Tryz.func225.trans (congrArg some (by kernel_rfl))⟩
 f57:=⟨Tryz.f232.name,by decide,Tryz.func232.trans (congrArg some (by kernel_rfl))⟩
 t0:=Tryz.underlying0
 a0:=Tryz.isAgg0
 z0:=Tryz.sizeOf0
 v0:=Tryz.zeroValue0
 t3:=Tryz.underlying3
 a3:=Tryz.isAgg3
 z3:=Tryz.sizeOf3
 v3:=Tryz.zeroValue3
 t4:=Tryz.underlying4
 a4:=Tryz.isAgg4
 z4:=Tryz.sizeOf4
 v4:=Tryz.zeroValue4
 t5:=Tryz.underlying5
 a5:=Tryz.isAgg5
 z5:=Tryz.sizeOf5
 v5:=Tryz.zeroValue5
 t9:=Tryz.underlying9
 a9:=Tryz.isAgg9
 z9:=Tryz.sizeOf9
 v9:=Tryz.zeroValue9
 t22:=Tryz.underlying53
 a22:=Tryz.isAgg53
 z22:=Tryz.sizeOf53
 v22:=Tryz.zeroValue53
 t25:=Tryz.underlying183
 a25:=Tryz.isAgg183
 z25:=Tryz.sizeOf183
 v25:=Tryz.zeroValue183
 t39:=Tryz.underlying214
 a39:=Tryz.isAgg214
 z39:=Tryz.sizeOf214
 v39:=Tryz.zeroValue214
 t45:=Tryz.underlying238
 a45:=Tryz.isAgg238
 z45:=Tryz.sizeOf238
 v45:=Tryz.zeroValue238
 t46:=Tryz.underlying239
 a46:=Tryz.isAgg239
 z46:=Tryz.sizeOf239
 v46:=Tryz.zeroValue239
 t50:=Tryz.underlying243
 a50:=Tryz.isAgg243
 z50:=Tryz.sizeOf243
 v50:=Tryz.zeroValue243
 t53:=Tryz.underlying246
 a53:=Tryz.isAgg246
 z53:=Tryz.sizeOf246
 v53:=Tryz.zeroValue246
 t55:=Tryz.underlying151
 a55:=Tryz.isAgg151
 z55:=Tryz.sizeOf151
 v55:=Tryz.zeroValue151
 t66:=Tryz.underlying262
 a66:=Tryz.isAgg262
 z66:=Tryz.sizeOf262
 v66:=Tryz.zeroValue262
 t70:=Tryz.underlying266
 a70:=Tryz.isAgg266
 z70:=Tryz.sizeOf266
 v70:=Tryz.zeroValue266
 t76:=Tryz.underlying277
 a76:=Tryz.isAgg277
 z76:=Tryz.sizeOf277
 v76:=Tryz.zeroValue277
 t77:=Tryz.underlying278
 a77:=Tryz.isAgg278
 z77:=Tryz.sizeOf278
 v77:=Tryz.zeroValue278 }
end Go.Proofs
namespace Go.Proofs.YtonkoellfaopiaaGreatDoor.H
open Go Go.Proofs Go.RowKit Go.Shelf Go.Sort
theorem less_dec:∀ (x y:List UInt8),Op.bytesLess x y=decide (x < y)
 | [],[]=>by simp [Op.bytesLess]
 | _::_,[]=>by simp [Op.bytesLess]
 | [],_::_=>by simp [Op.bytesLess]
 | a::x,b::y=>by
  rw [Op.bytesLess,less_dec x y]
  simp only [List.cons_lt_cons_iff]
  by_cases h1:a < b<;>by_cases h2:a=b<;>by_cases h3:x < y<;>simp [h1,h2,h3]
theorem cmp_neg:∀ a b:List UInt8,Lib.compareBytes a b < 0↔a < b
 | [],[]=>⟨fun h=>absurd h (by decide),fun h=>absurd h (List.lt_irrefl _)⟩
 | [],_::_=>⟨fun _=>List.nil_lt_cons _ _,fun _=>(by decide:(-1:Int) < 0)⟩
 | _::_,[]=>⟨fun h=>absurd (show (1:Int) < 0 from h) (by decide),fun h=>absurd h (List.not_lt_nil _)⟩
 | a::ar,b::br=>by
  have ih:=cmp_neg ar br
  unfold Lib.compareBytes
  rw [List.cons_lt_cons_iff]
  by_cases h1:a < b
  ·rw [if_pos h1]
   exact ⟨fun _=>.inl h1,fun _=>by decide⟩
  ·rw [if_neg h1]
   by_cases h2:b < a
   ·rw [if_pos h2]
    refine ⟨fun h=>absurd h (by decide),fun h=>?_⟩
    rcases h with h | ⟨h,_⟩
    ·exact absurd h h1
    ·subst h
     exact absurd h2 h1
   ·rw [if_neg h2,ih]
    have he:a=b:=UInt8.le_antisymm (UInt8.not_lt.1 h2) (UInt8.not_lt.1 h1)
    exact ⟨fun h=>.inr ⟨he,h⟩,fun h=>h.elim (fun h=>absurd h h1) (fun h=>h.2)⟩
def cfK (x y:ByteArray):Int:=Lib.compareBytes x.data.toList y.data.toList
theorem ltOf_K (x y:ByteArray):ltOf cfK x y=decide (x.data.toList < y.data.toList):=by
 unfold ltOf cfK
 exact decide_eq_decide.2 (cmp_neg _ _)
theorem strLt_dec (x y:ByteArray):strLt x y=decide (x.data.toList < y.data.toList):=less_dec _ _
theorem swo_K:SWO (ltOf cfK) where
 irrefl x:=by rw [ltOf_K];exact decide_eq_false (List.lt_irrefl _)
 trans x y z h1 h2:=by
  rw [ltOf_K] at *
  exact decide_eq_true (List.lt_trans (of_decide_eq_true h1) (of_decide_eq_true h2))
 ntrans x y z h1 h2:=by
  rw [ltOf_K] at *
  have h1:y.data.toList≤x.data.toList:=of_decide_eq_false h1
  have h2:z.data.toList≤y.data.toList:=of_decide_eq_false h2
  exact decide_eq_false (show z.data.toList≤x.data.toList from List.le_trans h2 h1)
theorem bytes_inj {a b:ByteArray} (h:a.data.toList=b.data.toList):a=b:=ByteArray.ext (Array.toList_inj.1 h)
theorem tri_K (x y:ByteArray) (h1:ltOf cfK x y=false) (h2:ltOf cfK y x=false):x=y:=by
 rw [ltOf_K] at *
 have h1:y.data.toList≤x.data.toList:=of_decide_eq_false h1
 have h2:x.data.toList≤y.data.toList:=of_decide_eq_false h2
 exact bytes_inj (List.le_antisymm h2 h1)
theorem insL_perm (x:ByteArray × ByteArray):∀ l,(insL x l).Perm (x::l)
 | []=>List.Perm.refl _
 | y::r=>by
  unfold insL
  cases strLt x.1 y.1 with
  | true=>exact List.Perm.refl _
  | false=>exact ((insL_perm x r).cons y).trans (List.Perm.swap x y r)
theorem sortL_perm:∀ l,(sortL l).Perm l
 | []=>List.Perm.refl _
 | x::r=>(insL_perm x _).trans ((sortL_perm r).cons x)
theorem insL_sorted (x:ByteArray × ByteArray):∀ l:List (ByteArray × ByteArray),l.Pairwise (fun a b=>strLt b.1 a.1=false)→(insL x l).Pairwise (fun a b=>strLt b.1 a.1=false)
 | [],_=>List.pairwise_singleton _ _
 | y::r,h=>by
  obtain ⟨h1,h2⟩:=List.pairwise_cons.1 h
  unfold insL
  cases hc:strLt x.1 y.1 with
  | true=>
   refine List.pairwise_cons.2 ⟨fun z hz=>?_,h⟩
   have hxy:=hc
   rw [strLt_dec] at hxy
   have hxy:=of_decide_eq_true hxy
   rw [strLt_dec]
   refine decide_eq_false fun hzx=>?_
   rcases List.mem_cons.1 hz with rfl | hz
   ·exact List.lt_irrefl _ (List.lt_trans hzx hxy)
   ·have:=h1 z hz
    rw [strLt_dec] at this
    exact of_decide_eq_false this (List.lt_trans hzx hxy)
  | false=>
   refine List.pairwise_cons.2 ⟨fun z hz=>?_,insL_sorted x r h2⟩
   rcases List.mem_cons.1 ((insL_perm x r).mem_iff.1 hz) with rfl | hz
   ·exact hc
   ·exact h1 z hz
theorem sortL_sorted:∀ l,(sortL l).Pairwise (fun a b=>strLt b.1 a.1=false)
 | []=>List.Pairwise.nil
 | x::r=>insL_sorted x _ (sortL_sorted r)
theorem sortL_keys (l:List (ByteArray × ByteArray)):(sortL l).map (·.1)=(l.map (·.1)).mergeSort fun x y=>!(ltOf cfK) y x:=by
 refine List.Perm.eq_of_pairwise (le:=fun x y=>(!(ltOf cfK) y x)=true) ?_ ?_ ?_ (((sortL_perm l).map _).trans (List.mergeSort_perm _ _).symm)
 ·intro a b _ _ h1 h2
  simp only [Bool.not_eq_true'] at h1 h2
  exact tri_K a b h2 h1
 ·rw [List.pairwise_map]
  refine (sortL_sorted l).imp fun {a b} h=>?_
  rw [strLt_dec] at h
  rw [ltOf_K,h]
  rfl
 ·refine List.pairwise_mergeSort ?_ ?_ _
  ·intro a b c h1 h2
   simp only [Bool.not_eq_true'] at *
   exact swo_K.ntrans _ _ _ h2 h1
  ·intro a b
   rw [ltOf_K,ltOf_K]
   by_cases h:b.data.toList < a.data.toList
   ·have:¬ a.data.toList < b.data.toList:=fun h'=>List.lt_irrefl _ (List.lt_trans h h')
    simp [this]
   ·simp [h]
def valL (l:List (ByteArray × ByteArray)) (k:ByteArray):ByteArray:=match l with
 | []=>ByteArray.empty
 | p::r=>bif strEq p.1 k then p.2 else valL r k
theorem valL_mem:∀ (l:List (ByteArray × ByteArray)),(l.map (·.1)).Nodup→∀ p∈l,valL l p.1=p.2
 | [],_,p,hp=>by cases hp
 | x::r,hn,p,hp=>by
  rw [List.map_cons,List.nodup_cons] at hn
  unfold valL
  rcases List.mem_cons.1 hp with rfl | hp
  ·rw [strEq_iff.2 rfl,cond_true]
  ·have:strEq x.1 p.1=false:=by
    cases h:strEq x.1 p.1 with
    | false=>rfl
    | true=>exact absurd (strEq_iff.1 h ▸ List.mem_map_of_mem hp) hn.1
   rw [this,cond_false]
   exact valL_mem r hn.2 p hp
def encL (l:List (ByteArray × ByteArray)) (k:ByteArray):List Value:=[.string k,.string (valL l k)]
theorem labL_get:∀ (n:Nat) (g:Fin n→List T) (l:List (ByteArray × ByteArray)),labL (listF n g)=some l→l.length=n∧∀ (i:Nat) (h:i < n),labT (g ⟨i,h⟩)=l[i]?
 | 0,g,l,h=>by
  obtain rfl:=Option.some.inj (show some []=some l from h)
  exact ⟨rfl,fun i h=>by omega⟩
 | n+1,g,l,h=>by
  have h:(match labT (g 0),labL (listF n fun i=>g i.succ) with
   | some x,some l=>some (x::l)
   | _,_=>none)=some l:=h
  split at h
  ·rename_i x r hx hr
   obtain rfl:=Option.some.inj h
   obtain ⟨h1,h2⟩:=labL_get n _ r hr
   refine ⟨by simp [h1],fun i hi=>?_⟩
   cases i with
   | zero=>exact hx
   | succ i=>exact h2 i (by omega)
  ·cases h
theorem labT_some {c:List T} {p:ByteArray × ByteArray} (h:labT c=some p):c=[.v (.string p.1),.v (.string p.2)]:=by
 unfold labT at h
 split at h
 ·obtain rfl:=Option.some.inj h
  rfl
 ·cases h
set_option maxHeartbeats 1000000 in
theorem lab_less (l:List (ByteArray × ByteArray)) (x y:ByteArray) (W:World):Calls Tryz.prog 134 #[.agg (encL l x).toArray,.agg (encL l y).toArray] W fun e w'=>e=.returned (.int .i64 (cfK x y))∧∃ q os',w'=grow (W.drewN q) os':=by
 have hcon:=fun W'=>Tryz.strings_Compare x y W'
 unfold cfK
 generalize Lib.compareBytes x.data.toList y.data.toList=r at hcon ⊢
 unfold encL
 go_enter Tryz.func134,Tryz.ntmps134
 go_wp2_with (go_at_call 56;refine (hcon _).mono ?_;rintro e w' ⟨rfl,rfl⟩)
 go_ret
 exact ⟨rfl,0,_,by rw [alloc_eq_grow,alloc_eq_grow,grow_grow];rfl⟩
theorem rowLab_len (l:List (ByteArray × ByteArray)):∀ {m:Nat} (h:l.length=m),rowLab l=.t (.rows 2 m fun i=>[.v (.string (l[i.1]'(h ▸ i.2)).1),.v (.string (l[i.1]'(h ▸ i.2)).2)])
 | _,rfl=>rfl
theorem holds_lab {I:Nat→Prop} {w:World} {q m cap:Nat} {c:Array Value} {ty:TypeId} {fz:Nat × Nat} {g0:Fin m→List T} {l:List (ByteArray × ByteArray)} (hb:w.heap[q]?=some (.cells c ty fz)) (hf:Bare c fz) (hcap:m≤cap) (hl:cap*2≤c.size)
  (hc:RowI w I c 2 m g0) (hlab:labL (listF m g0)=some l) (hn:(l.map (·.1)).Nodup):HoldsK (encL l) 2 w q 0 (l.map (·.1)).toArray:=by
 obtain ⟨h1,h2⟩:=labL_get m g0 l hlab
 have hsz:(l.map (·.1)).toArray.size=m:=by simp [h1]
 intro t ht
 have ht':t < (l.map (·.1)).toArray.size*2:=by simpa using ht
 rw [get_flatK _ _ _ _ ht',Nat.zero_add]
 rw [hsz] at ht'
 have hi:t / 2 < m:=by omega
 have hil:t / 2 < l.length:=by omega
 have hg:=h2 (t / 2) hi
 rw [List.getElem?_eq_getElem hil] at hg
 have hg:=labT_some hg
 have hk1:((l.map (·.1)).toArray)[t / 2]! = l[t / 2].1:=by simp [hil]
 have hv:=valL_mem l hn l[t / 2] (List.getElem_mem hil)
 have hts:t < c.size:=by omega
 refine ⟨?_,(bare_cell hb hf hts).2⟩
 rw [cell_in hb,hk1]
 unfold encL
 rw [hv]
 have hm:t / 2*2+t % 2=t:=by omega
 rcases (show t % 2=0∨t % 2=1 by omega) with e | e
 ·obtain ⟨v,hv1,hv2⟩:=hc ⟨t / 2,hi⟩ 0 (.v (.string l[t / 2].1)) (by rw [hg];rfl)
  have e2:(⟨t / 2,hi⟩:Fin m).1*2+0=t:=by show t / 2*2+0=t;omega
  rw [e2] at hv1
  rw [hv1,e]
  cases hv2
  rfl
 ·obtain ⟨v,hv1,hv2⟩:=hc ⟨t / 2,hi⟩ 1 (.v (.string l[t / 2].2)) (by rw [hg];rfl)
  have e2:(⟨t / 2,hi⟩:Fin m).1*2+1=t:=by show t / 2*2+1=t;omega
  rw [e2] at hv1
  rw [hv1,e]
  cases hv2
  rfl
theorem sorted_at {l:List (ByteArray × ByteArray)} (hn:(l.map (·.1)).Nodup) {i:Nat} (h:i < (sortL l).length) (h':i < ((l.map (·.1)).mergeSort fun x y=>!(ltOf cfK) y x).length):(sortL l)[i].1=((l.map (·.1)).mergeSort fun x y=>!(ltOf cfK) y x)[i]∧(sortL l)[i].2=valL l (sortL l)[i].1:=by
 refine ⟨?_,(valL_mem l hn _ ((sortL_perm l).mem_iff.1 (List.getElem_mem h))).symm⟩
 have e:=sortL_keys l
 have:((sortL l).map (·.1))[i]'(by rw [List.length_map];exact h)=((l.map (·.1)).mergeSort fun x y=>!(ltOf cfK) y x)[i]:=by simp only [e]
 rwa [List.getElem_map] at this
theorem inp133:InpOk Vars Tryz.prog 133 F133:=by
 intro sz m g0 x r hF
 unfold F133 at hF
 split at hF
 ·rename_i n g f fa fb heq
  simp only [List.cons.injEq,S.t.injEq,T.rows.injEq,and_true] at heq
  obtain ⟨⟨rfl,rfl,hgg⟩,rfl⟩:=heq
  obtain rfl:=eq_of_heq hgg
  obtain ⟨hc1,hF2⟩:=bif_some hF
  clear hF
  rw [Bool.and_eq_true,Bool.and_eq_true,Bool.and_eq_true] at hc1
  obtain ⟨⟨hf1,hf2,hf3⟩,hm⟩:=hc1
  obtain rfl:f=134:=Nat.eq_of_beq_eq_true hf1
  obtain rfl:fa=#[]:=Array.eq_empty_of_size_eq_zero (Nat.eq_of_beq_eq_true hf2)
  obtain rfl:fb=#[]:=Array.eq_empty_of_size_eq_zero (Nat.eq_of_beq_eq_true hf3)
  have hm:m≤1048576:=by simpa using hm
  split at hF2
  ·rename_i l hlab
   obtain ⟨hc2,hF3⟩:=bif_some hF2
   clear hF2
   obtain rfl:=Option.some.inj hF3
   have hn:(l.map (·.1)).Nodup:=noTwice_nodup _ hc2
   obtain ⟨h1,_⟩:=labL_get m g0 l hlab
   have hsl:(sortL l).length=m:=by rw [(sortL_perm l).length_eq,h1]
   refine ⟨_,rowLab_len (sortL l) hsl,fun i=>rfl,?_,?_⟩
   ·intro I w q cap c ty fz vx hI hN hV hb hf hq hcap hl hc hlen hx
    obtain rfl:vx=.func (.func 134) #[] #[]:=by cases hx;rfl
    have hH:=holds_lab hb hf hcap hl hc hlab hn
    have hblk:q < w.heap.size:=(Array.getElem?_eq_some_iff.1 hb).1
    have eg:∀ args w,(callFunc 134 args).run Tryz.prog w=.ok (.enter 134 args) w:=enters_of Tryz.func134 (by kernel_rfl) rfl
    have hsz:(l.map (·.1)).toArray.size=m:=by simp [h1]
    have hcon:=AnyQ.slices_SortFunc_total Tryz.sortLabs 2 Tryz.isAgg88 Tryz.sizeOf88 (encL l) (fun _=>rfl) (fun x v hv=>by
     unfold encL at hv
     rcases List.mem_cons.1 hv with rfl | hv
     ·rfl
     ·obtain rfl:=List.mem_singleton.1 hv
      rfl) cfK swo_K 134 #[] q 0 cap (l.map (·.1)).toArray w eg (fun _ _ _ _ x y=>lab_less l x y _) hH hblk (by rw [hsz];omega) tri_K
    rw [hsz] at hcon
    have hcon2:Calls Tryz.prog 133 #[.slice (some ⟨q,0,none⟩) m cap,.func (.func 134) #[] #[]] w _:=hcon
    refine hcon2.mono ?_
    rintro e w' ⟨rfl,n,os,rfl⟩
    generalize hd:((l.map (·.1)).toArray.toList.mergeSort fun x y=>!(ltOf cfK) y x).toArray=d
    have hdl:d.size=m:=by rw [← hd];simp [h1]
    have hold:=holdsK_sortWorldK (encL l) 2 w q 0 n (l.map (·.1)).toArray d os hblk hH (by rw [hdl,hsz])
    refine ⟨rfl,rfl,rfl,rfl,?_,fun k hk hk2=>?_,?_⟩
    ·unfold sortWorldK grow putRowK putRow mapBlock
     show w.heap.size≤(w.heap.modify q _++os).size
     simp
    ·have hig:q≠k:=fun e=>hk e.symm
     unfold sortWorldK grow putRowK putRow mapBlock
     show (w.heap.modify q _++os)[k]?=_
     rw [Array.getElem?_append_left (by simpa using hk2),Array.getElem?_modify,if_neg hig]
    ·have hb':(sortWorldK (encL l) 2 w q 0 n d os).heap[q]?=some (.cells (putCells id 0 (flatK (encL l) 2 d) c) ty fz):=by
      unfold sortWorldK grow putRowK putRow mapBlock
      show (w.heap.modify q _++os)[q]?=_
      rw [Array.getElem?_append_left (by simpa using hblk),Array.getElem?_modify,if_pos rfl,hb]
      rfl
     refine ⟨_,hb',by unfold putCells;simp,fun i k t ht=>?_⟩
     have hil:i.1 < m:=i.2
     have hk2:k < 2:=(List.getElem?_eq_some_iff.1 ht).1
     have hs:=(hold (i.1*2+k) (by simp [hdl];omega)).1
     rw [cell_in hb',get_flatK _ _ _ _ (by rw [hdl];omega),Nat.zero_add,show (i.1*2+k) / 2=i.1 by omega,show (i.1*2+k) % 2=k by omega] at hs
     have hdi:d[i.1]! = (sortL l)[i.1].1:=by
      have hdi2:i.1 < d.size:=by rw [hdl];exact hil
      rw [getElem!_pos d i.1 hdi2]
      subst hd
      have hlen3:i.1 < ((l.map (·.1)).mergeSort fun x y=>!(ltOf cfK) y x).length:=by simpa using hdi2
      rw [(sorted_at hn (i:=i.1) (by rw [hsl];exact hil) hlen3).1]
      simp
     rw [hdi] at hs
     refine ⟨_,hs,?_⟩
     have hlen4:i.1 < ((l.map (·.1)).mergeSort fun x y=>!(ltOf cfK) y x).length:=by simp [h1,hil]
     have hval:=(sorted_at hn (i:=i.1) (by rw [hsl];exact hil) hlen4).2
     unfold encL
     rw [← hval]
     rcases (show k=0∨k=1 by omega) with rfl | rfl
     ·obtain rfl:=Option.some.inj ht
      exact .v _ rfl
     ·obtain rfl:=Option.some.inj ht
      exact .v _ rfl
   ·rintro rfl I w base vx hV hx
    have h:Calls Tryz.prog 133 #[.slice base 0 0,vx] w _:=AnyF.slices_SortFunc_none Tryz.sortLabs base 0 vx w
    exact h.mono fun e w' ⟨he,hw⟩=>⟨he,hw ▸ Below.refl _ _⟩
  ·cases hF2
 ·cases hF
end Go.Proofs.YtonkoellfaopiaaGreatDoor.H
namespace Go.Proofs.YtonkoellfaopiaaGreatDoor.H
open Go Go.Proofs Go.RowKit Go.Shelf
theorem ext_ok:ExtOk Vars Tryz.prog extF:=by
 intro f F hf hlt
 have go:∀ {g:Nat} {G:List S→Option S} {r:Option (List S→Option S)},(bif f.beq g then some G else r)=some F→(f=g∧F=G)∨r=some F:=fun {g G r} h=>by
  cases e:f.beq g with
  | true=>rw [e,cond_true] at h;exact .inl ⟨Nat.eq_of_beq_eq_true e,(Option.some.inj h).symm⟩
  | false=>rw [e,cond_false] at h;exact .inr h
 unfold extF at hf
 rcases go hf with ⟨rfl,rfl⟩ | hf
 ·exact ext56
 rcases go hf with ⟨rfl,rfl⟩ | hf
 ·exact ext183
 rcases go hf with ⟨rfl,rfl⟩ | hf
 ·exact ext214
 rcases go hf with ⟨rfl,rfl⟩ | hf
 ·exact ext216
 rcases go hf with ⟨rfl,rfl⟩ | hf
 ·exact ext44
 rcases go hf with ⟨rfl,rfl⟩ | hf
 ·exact ext45
 rcases go hf with ⟨rfl,rfl⟩ | hf
 ·exact ext43
 rcases go hf with ⟨rfl,rfl⟩ | hf
 ·exact ext40
 rcases go hf with ⟨rfl,rfl⟩ | hf
 ·exact absurd hlt (by decide)
 cases hf
theorem inp_ok:∀ f F,extF (2000000+f)=some F→InpOk Vars Tryz.prog f F:=by
 intro f F hf
 have go:∀ {g:Nat} {G:List S→Option S} {r:Option (List S→Option S)},(bif (2000000+f).beq g then some G else r)=some F→(2000000+f=g∧F=G)∨r=some F:=fun {g G r} h=>by
  cases e:(2000000+f).beq g with
  | true=>rw [e,cond_true] at h;exact .inl ⟨Nat.eq_of_beq_eq_true e,(Option.some.inj h).symm⟩
  | false=>rw [e,cond_false] at h;exact .inr h
 unfold extF at hf
 iterate 8
  rcases go hf with ⟨h,_⟩ | hf
  ·exact absurd h (by omega)
 rcases go hf with ⟨h,rfl⟩ | hf
 ·obtain rfl:f=133:=by omega
  exact inp133
 cases hf
noncomputable def kOkB (p:Nat × List Nat):Bool:=(match kindsOf Tryz.prog 20 p.1 with | some ks=>decide (ks=p.2) | none=>false) && (isAggB Tryz.prog p.1 && !Tryz.prog.eqGuardType Tryz.prog.depth p.1)
theorem k_ok:KOk Tryz.prog (look kTab):=by
 intro t ks h
 have hm:=look_mem _ _ _ h
 have ha:kTab.all kOkB=true:=by kernel_rfl
 have:=List.all_eq_true.1 ha _ hm
 unfold kOkB at this
 rw [Bool.and_eq_true,Bool.and_eq_true,Bool.not_eq_true'] at this
 obtain ⟨h1,h2,h3⟩:=this
 refine ⟨?_,h2,h3⟩
 split at h1
 ·rename_i ks' e
  rw [e,of_decide_eq_true h1]
 ·cases h1
noncomputable def fnOkB (f:Nat):Bool:=match Tryz.prog.funcs[f]? with
 | some fn=>!(fn.name == "runtime.NumGoroutine") && (match fn.body with | some c=>okCode O.inl c | none=>false)
 | none=>false
theorem fns_all:((List.range 252).all fun f=>inList [0,1,142,174,206] f || fnOkB f)=true:=by kernel_rfl
theorem fns_one {f:Nat} (h:(f.blt 252 && !inList [0,1,142,174,206] f)=true):fnOkB f=true:=by
 rw [Bool.and_eq_true,Bool.not_eq_true',Nat.blt_eq] at h
 have:=List.all_eq_true.1 fns_all f (List.mem_range.2 h.1)
 rw [h.2,Bool.false_or] at this
 exact this
theorem rf_all:(liveT.all fun p=>p.2.all fun q=>Nat.blt q.1 1000000 || (!Nat.beq q.2.length 5 || decide (q.2=[85,33,3,61,10])))=true:=by kernel_rfl
theorem opts_ok:OptsOk Vars O where
 vst:=fun w w' h hb=>Vars_below h hb
 k:=k_ok
 fn:=fun f hf=>by
  have:=fns_one hf
  unfold fnOkB at this
  split at this
  ·rename_i fn e
   rw [Bool.and_eq_true,Bool.not_eq_true'] at this
   refine ⟨fn,e,this.1,?_,?_⟩
   ·cases hb:fn.body with
    | none=>rw [hb] at this;cases this.2
    | some c=>rfl
   ·have hf:(f.blt 252 && !inList [0,1,142,174,206] f)=true:=hf
    rw [Bool.and_eq_true,Nat.blt_eq] at hf
    exact Nat.lt_trans hf.1 (by decide)
  ·cases this
 mix:=by kernel_rfl
 code:=fun f fn c hf _ he hb=>by
  have:=fns_one hf
  unfold fnOkB at this
  split at this
  ·rename_i fn' e
   have e2:some fn'=some fn:=e.symm.trans he
   obtain rfl:=Option.some.inj e2
   rw [Bool.and_eq_true,hb] at this
   exact this.2
  ·cases this
 ext:=ext_ok
 inp:=inp_ok
 ov:=fun f fn h=>by cases h
 rf:=fun f r sp h=>by
  obtain rfl:sp=⟨85,33,3,61,10⟩:=by
   unfold rfSpec at h
   split at h
   ·rename_i g ts fi te fo hl
    obtain rfl:=Option.some.inj h
    obtain ⟨l,h1,h2⟩:=Option.bind_eq_some_iff.1 (show (look liveT f).bind (fun l=>look l (1000000+r))=some [g,ts,fi,te,fo] from hl)
    have:=List.all_eq_true.1 (List.all_eq_true.1 rf_all _ (look_mem _ _ _ h1)) _ (look_mem _ _ _ h2)
    rw [Bool.or_eq_true] at this
    rcases this with h | h
    ·rw [Nat.blt_eq] at h;dsimp only at h;omega
    ·have h:decide ([g,ts,fi,te,fo]=[85,33,3,61,10])=true:=h
     have:=of_decide_eq_true h
     simp only [List.cons.injEq,and_true] at this
     obtain ⟨rfl,rfl,rfl,rfl,rfl⟩:=this
     rfl
   ·cases h
  exact ⟨seq85,fun vs w=>enters_of Tryz.func85 (by kernel_rfl) rfl vs w⟩
theorem machine {f:Nat} {args:List S} {r:S} (h:(W O).callT f args=some r) (I:Nat→Prop) (w:World) (vs:Array Value) (hI:∀ q,I q→q < w.heap.size) (hN:NoLd I w) (hV:Vars w) (ha:LRep (Gh.bare I) w args vs.toList) (hlt:f < 2000000:=by decide):Calls Tryz.prog f vs w (RetT I w r):=
 (W_ok opts_ok).t f args r h hlt I w vs hI hN hV ha
end Go.Proofs.YtonkoellfaopiaaGreatDoor.H
namespace Go.Proofs.YtonkoellfaopiaaGreatDoor.H
open Go Go.Proofs Go.RowKit Go.ChangeShapes Go.WideShapes
inductive Lf where
 | int (k:IntKind)
 | str
 | bool
 | row (sz B:Nat) (l:List Lf)
def leavesF (F:TypeId→Option (List Lf)) (P:Program) (total:Nat):Nat→List (Nat × TypeId)→Option (List Lf)
 | o,[]=>bif o.beq total then some [] else none
 | o,p::r=>bif p.1.beq o then (F p.2).bind fun l=>(leavesF F P total (o+P.cellsOf p.2) r).map (l++·) else none
def leaves (P:Program):Nat→TypeId→Option (List Lf)
 | 0,_=>none
 | d+1,t=>match P.underlying t with
  | some (.int k)=>some [.int k]
  | some .bool=>some [.bool]
  | some .string=>some [.str]
  | some (.slice e)=>bif (P.cellsOf e).beq 0 then none else (leaves P d e).map fun l=>[.row (P.cellsOf e) (P.bytesOf e) l]
  | some (.array n e)=>leavesF (leaves P d) P (P.cellsOf t) 0 ((List.range n).map fun i=>(i*P.cellsOf e,e))
  | some (.struct fs)=>leavesF (leaves P d) P (P.cellsOf t) 0 (fs.toList.map fun f=>(f.offset,f.type))
  | _=>none
inductive All2 {α β:Type} (R:α→β→Prop):List α→List β→Prop
 | nil:All2 R [] []
 | cons {a:α} {b:β} {l:List α} {m:List β}:R a b→All2 R l m→All2 R (a::l) (b::m)
inductive Ok:Lf→T→Prop
 | int {k:IntKind} (n:Int) (h:(Lit.int k n).wf=true):Ok (.int k) (.v (.int k n))
 | str (s:ByteArray) (h:s.size≤140737488351232):Ok .str (.v (.string s))
 | bool (b:Bool):Ok .bool (.v (.bool b))
 | row {sz B n:Nat} {l:List Lf} {g:Fin n→List T} (h:n*B≤140737488351232) (hg:∀ i,All2 Ok l (g i)):Ok (.row sz B l) (.rows sz n g)
def mem (w:World) (q:Nat):Prop:=∃ o,w.heap[q]?=some o∧isLD o=false
theorem mem_lt {w:World} (q:Nat) (h:mem w q):q < w.heap.size:=let ⟨_,h,_⟩:=h;(Array.getElem?_eq_some_iff.1 h).1
theorem mem_nold {w:World}:NoLd (mem w) w:=fun r o ⟨o',h,hl⟩ ho=>by rw [h] at ho;cases ho;exact hl
theorem mem_cell {w:World} {a:Addr} {v:Value} (h:w.cell? a=some v):mem w a.block∧a.spot=none:=by
 unfold World.cell? at h
 split at h
 ·rename_i c t f hb
  refine ⟨⟨_,hb,rfl⟩,?_⟩
  cases hs:a.spot with
  | none=>rfl
  | some x=>rw [hs] at h;simp at h
 ·cases h
theorem TL.app {w:World} {I:Nat→Prop} {ts ts':List T} {vs vs':List Value} (h:TL w I ts vs) (h':TL w I ts' vs'):TL w I (ts++ts') (vs++vs'):=by
 refine ⟨by simp [h.1,h'.1],fun k t v h1 h2=>?_⟩
 by_cases hk:k < ts.length
 ·rw [List.getElem?_append_left hk] at h1
  rw [List.getElem?_append_left (by rw [← h.1];exact hk)] at h2
  exact h.2 k t v h1 h2
 ·rw [List.getElem?_append_right (by omega)] at h1
  rw [List.getElem?_append_right (by rw [← h.1];omega),← h.1] at h2
  exact h'.2 _ t v h1 h2
theorem all2_app {α β:Type} {R:α→β→Prop}:∀ {a b:List α} {c d:List β},All2 R a c→All2 R b d→All2 R (a++b) (c++d)
 | _,_,_,_,.nil,h=>h
 | _,_,_,_,.cons h1 h2,h=>.cons h1 (all2_app h2 h)
theorem weights_all {P:Program} {H:Type} {e:TypeId}:∀ {l:List (DataW H)} {d:DataW H},d∈l→∀ n∈DataW.weights P e d,n∈DataW.weightsAll P e l
 | y::r,d,hd,n,hn=>by
  simp only [DataW.weightsAll,List.mem_append]
  rcases List.mem_cons.1 hd with rfl | hd
  ·exact .inl hn
  ·exact .inr (weights_all hd n hn)
section
variable {H:Type} {enc:TypeId × Value→H} {P:Program} {w:World} {base:Nat} {sp:Nat→Bool} {held:Bool}
def Says (enc:TypeId × Value→H) (P:Program) (w:World) (base:Nat) (sp:Nat→Bool) (held:Bool) (t:TypeId) (l:List Lf):Prop:=
 ∀ (fuel:Nat) (cs:List Value) (x:DataW H × List MemPlace),DataW.trod enc P w base sp held fuel t cs=some x→(∀ n∈DataW.weights P t x.1,n≤reachBytes)→∃ ts,All2 Ok l ts∧TL w (mem w) ts cs
theorem fields_says {F:TypeId→Option (List Lf)} (hF:∀ t l,F t=some l→Says enc P w base sp held t l) {cs:List Value} {m:Nat}:∀ (ps:List (Nat × TypeId)) (o:Nat) (l:List Lf) (xs:List (DataW H × List MemPlace)),
  leavesF F P cs.length o ps=some l→(∀ (i:Nat) (p:Nat × TypeId),ps[i]?=some p→∃ x,xs[i]?=some x∧DataW.trod enc P w base sp held m p.2 ((cs.drop p.1).take (P.cellsOf p.2))=some x∧∀ n∈DataW.weights P p.2 x.1,n≤reachBytes)→
  ∃ ts,All2 Ok l ts∧TL w (mem w) ts (cs.drop o)
 | [],o,l,xs,h,_=>by
  unfold leavesF at h
  obtain ⟨h1,h⟩:=bif_some h
  obtain rfl:=Option.some.inj h
  obtain rfl:=Nat.eq_of_beq_eq_true h1
  refine ⟨[],.nil,?_⟩
  rw [List.drop_length]
  exact .nil
 | p::r,o,l,xs,h,hx=>by
  unfold leavesF at h
  obtain ⟨h1,h⟩:=bif_some h
  obtain ⟨l1,hl1,h⟩:=Option.bind_eq_some_iff.1 h
  obtain ⟨l2,hl2,rfl⟩:=Option.map_eq_some_iff.1 h
  obtain rfl:=Nat.eq_of_beq_eq_true h1
  obtain ⟨x,_,htr,hw⟩:=hx 0 p rfl
  obtain ⟨ts1,q1,q2⟩:=hF _ _ hl1 m _ x htr hw
  obtain ⟨ts2,q3,q4⟩:=fields_says hF r (p.1+P.cellsOf p.2) l2 xs.tail hl2 (fun i q hq=>by
   obtain ⟨x,h1,h2⟩:=hx (i+1) q (by simpa using hq)
   exact ⟨x,by rw [List.getElem?_tail];exact h1,h2⟩)
  refine ⟨ts1++ts2,all2_app q1 q3,?_⟩
  have:=q2.app q4
  rwa [← List.drop_drop,List.take_append_drop] at this
theorem leaves_says:∀ (d:Nat) (t:TypeId) (l:List Lf),leaves P d t=some l→Says enc P w base sp held t l
 | 0,t,l,h=>by unfold leaves at h;cases h
 | d+1,t,l,h=>fun fuel cs x hx hw=>by
  unfold leaves at h
  split at h
  ·rename_i k ht
   obtain rfl:=Option.some.inj h
   obtain ⟨n,rfl,rfl,hwf⟩:=DataW.trod_int ht hx
   exact ⟨_,.cons (.int n hwf) .nil,TL.nil.cons (.v _ rfl)⟩
  ·rename_i ht
   obtain rfl:=Option.some.inj h
   obtain ⟨n,rfl,rfl⟩:=DataW.trod_bool ht hx
   exact ⟨_,.cons (.bool n) .nil,TL.nil.cons (.v _ rfl)⟩
  ·rename_i ht
   obtain rfl:=Option.some.inj h
   obtain ⟨s,rfl,rfl,hs⟩:=DataW.trod_string ht hx
   refine ⟨_,.cons (.str s ?_) .nil,TL.nil.cons (.v _ rfl)⟩
   have:=hw s.data.toList.length (by simp [DataW.weights])
   have h2:reachBytes=140737488351232:=rfl
   rw [h2] at this
   simpa using this
  ·rename_i e ht
   cases hz:(P.cellsOf e).beq 0 with
   | true=>rw [hz] at h;cases h
   | false=>
    rw [hz,cond_false] at h
    obtain ⟨le,hle,rfl⟩:=Option.map_eq_some_iff.1 h
    have hz0:P.cellsOf e≠0:=fun e0=>by rw [e0] at hz;cases hz
    rcases DataW.trod_slice ht hx with ⟨rfl,rfl⟩ | ⟨a,len,cap,elems,rest,n,_,rfl,rfl,hb,hl,hm,hlen,hel,_,_⟩
    ·exact ⟨[.rows (P.cellsOf e) 0 fun i=>i.elim0],.cons (.row (by simp) (fun i=>i.elim0)) .nil,TL.nil.cons (.rows _ 0 _ none 0 (fun i=>i.elim0) (Nat.le_refl _) (fun i=>i.elim0) (fun h=>absurd rfl h) (fun i=>i.elim0))⟩
    ·have hev:∀ i,i < len→∃ (ts:List T) (c:List Value),w.cells? base (a.add (i*P.cellsOf e)) (P.cellsOf e)=some c∧All2 Ok le ts∧TL w (mem w) ts c:=by
      intro i hi
      have h1:=hel i hi
      have hy:elems[i]?=some (elems[i]'(by omega)):=List.getElem?_eq_getElem (by omega)
      rw [hy] at h1
      obtain ⟨c,hc,htr⟩:=Option.bind_eq_some_iff.1 h1
      obtain ⟨ts,q1,q2⟩:=leaves_says d e le hle _ _ _ htr (fun n hn=>hw n (by
       have hmem:(elems[i]'(by omega)).1∈elems.map (·.1):=List.mem_map.2 ⟨_,List.getElem_mem _,rfl⟩
       simp only [DataW.weights,ht,List.mem_cons,List.mem_append]
       exact .inr (.inl (weights_all hmem n hn))))
      exact ⟨ts,c,hc,q1,q2⟩
     obtain ⟨f,hf⟩:=Classical.axiomOfChoice (fun i:Fin len=>hev i.1 i.2)
     obtain ⟨cs,hcs⟩:=Classical.axiomOfChoice hf
     have cell:∀ (i:Fin len) (k:Nat) (t:T),(f i)[k]?=some t→∃ v,(cs i)[k]?=some v∧w.cell? ((a.add (i.1*P.cellsOf e)).add k)=some v∧TRep w (mem w) t v:=by
      intro i k t hk
      obtain ⟨hc,_,hT⟩:=hcs i
      obtain ⟨_,hcl,hcc⟩:=World.cells?_some hc
      have hk1:k < (cs i).length:=by rw [← hT.1];exact (List.getElem?_eq_some_iff.1 hk).1
      have hv:=List.getElem?_eq_getElem hk1
      exact ⟨_,hv,by rw [hcc k (by rw [← hcl];exact hk1)];exact hv,hT.2 k t _ hk hv⟩
     have hlenf:∀ i,(f i).length=P.cellsOf e:=fun i=>by
      obtain ⟨hc,_,hT⟩:=hcs i
      rw [hT.1];exact (World.cells?_some hc).2.1
     have hwt:len*P.bytesOf e≤140737488351232:=by
      have:=hw ((elems.length+rest.length)*P.bytesOf e) (by simp [DataW.weights,ht])
      have h2:reachBytes=140737488351232:=rfl
      rw [h2] at this
      rw [← hlen]
      exact Nat.le_trans (Nat.mul_le_mul_right _ (Nat.le_add_right _ _)) this
     refine ⟨[.rows (P.cellsOf e) len f],.cons (.row hwt (fun i=>(hcs i).2.1)) .nil,TL.nil.cons (.rows _ len f (some a) cap (fun i k=>((cs i)[k]?).getD undef) hl hlenf (fun hn=>?_) (fun i k t hk=>?_))⟩
     ·have hp:0 < len:=by omega
      have hl0:0 < (f ⟨0,hp⟩).length:=by rw [hlenf];omega
      obtain ⟨t0,h0⟩:∃ t0,(f ⟨0,hp⟩)[0]?=some t0:=⟨_,List.getElem?_eq_getElem hl0⟩
      obtain ⟨v0,_,hc0,_⟩:=cell ⟨0,by omega⟩ 0 t0 h0
      have hm:=mem_cell hc0
      obtain ⟨ab,ao,asp⟩:=a
      obtain rfl:asp=none:=by simpa [Addr.add] using hm.2
      simp only [addr_add] at hm
      refine ⟨ab,ao,rfl,hm.1,fun i k t hk=>?_⟩
      obtain ⟨v,h1,h2,_⟩:=cell i k t hk
      rw [h1]
      rw [addr_add,addr_add] at h2
      exact h2
     ·obtain ⟨v,h1,_,h3⟩:=cell i k t hk
      rw [h1];exact h3
  ·rename_i n e ht
   obtain ⟨xs,m,_,rfl,hl,hlen,hf⟩:=DataW.trod_array ht hx
   rw [← hl] at h
   have:=fields_says (enc:=enc) (w:=w) (base:=base) (sp:=sp) (held:=held) (m:=m) (leaves_says d) _ 0 l xs h (fun i p hp=>by
    rw [List.getElem?_map] at hp
    obtain ⟨j,hj,rfl⟩:=Option.map_eq_some_iff.1 hp
    obtain ⟨hi,rfl⟩:=List.getElem?_eq_some_iff.1 hj
    have hi:i < n:=by simpa using hi
    rw [List.getElem_range]
    refine ⟨xs[i]'(by omega),List.getElem?_eq_getElem (by omega),by rw [hf i hi];exact List.getElem?_eq_getElem (by omega),fun k hk=>hw k ?_⟩
    simp only [DataW.weights,ht]
    exact weights_all (List.mem_map.2 ⟨_,List.getElem_mem _,rfl⟩) k hk)
   simpa using this
  ·rename_i fs ht
   obtain ⟨xs,m,_,rfl,hl,hlen,hf⟩:=DataW.trod_struct ht hx
   rw [← hl] at h
   have:=fields_says (enc:=enc) (w:=w) (base:=base) (sp:=sp) (held:=held) (m:=m) (leaves_says d) _ 0 l xs h (fun i p hp=>by
    rw [List.getElem?_map] at hp
    obtain ⟨fd,hj,rfl⟩:=Option.map_eq_some_iff.1 hp
    have hi:i < fs.size:=by have:=(List.getElem?_eq_some_iff.1 hj).1;simpa using this
    refine ⟨xs[i]'(by omega),List.getElem?_eq_getElem (by omega),by rw [hf i fd (by rw [← Array.getElem?_toList];exact hj)];exact List.getElem?_eq_getElem (by omega),fun k hk=>hw k ?_⟩
    simp only [DataW.weights,ht]
    exact DataW.weights_mem_each (j:=i) (by rw [List.getElem?_map,hj];rfl) (by rw [List.getElem?_map,List.getElem?_eq_getElem (by omega)];rfl) k hk)
   simpa using this
  ·cases h
end
end Go.Proofs.YtonkoellfaopiaaGreatDoor.H
namespace Go.Proofs.YtonkoellfaopiaaGreatDoor.H
open Go
theorem sm_of {s:ByteArray} (h:s.size≤140737488351232):sm (sizeN s):=by unfold sm sizeN;omega
theorem op_row {α:Type} [Inhabited α] {e:α→List T} {p:α→Prop} {l:List Lf} (H:∀ ts,All2 Ok l ts→∃ a,e a=ts∧p a) {sz B n:Nat} (hB:1≤B) {g:Fin n→List T} (hb:n*B≤140737488351232) (hg:∀ i,All2 Ok l (g i)):
  ∃ r:Rw α,T.rows sz r.n (fun i=>e (r.get i))=T.rows sz n g∧smR p r:=by
 obtain ⟨f,hf⟩:=Classical.axiomOfChoice (fun i=>H _ (hg i))
 refine ⟨⟨n,f⟩,?_,?_,fun j hj=>?_⟩
 ·show T.rows sz n (fun i=>e (f i))=_
  rw [show (fun i=>e (f i))=g from funext fun i=>(hf i).1]
 ·show n≤_
  have:=Nat.mul_le_mul_left n hB
  omega
 ·have hj':j < n:=hj
  have:(⟨n,f⟩:Rw α).at j=f ⟨j,hj'⟩:=by unfold Rw.at;rw [dif_pos hj]
  rw [this];exact (hf _).2
def sh9:List Lf:=[.str]
theorem op9 (ts:List T) (h:All2 Ok sh9 ts):∃ a,e9 a=ts∧sm (sizeN a):=by
 cases h with | cons h1 h=>
 cases h with | nil=>
 cases h1 with | str s hs=>
 exact ⟨s,rfl,sm_of hs⟩
def sh88:List Lf:=[.str,.str]
theorem op88 (ts:List T) (h:All2 Ok sh88 ts):∃ a:D88,e88 a=ts∧sm88 a:=by
 cases h with | cons h0 h=>
 cases h with | cons h1 h=>
 cases h with | nil=>
 cases h0 with | str s0 q0=>
 cases h1 with | str s1 q1=>
 refine ⟨⟨s0,s1⟩,?_,sm_of q0,sm_of q1⟩
 rfl
def sh109:List Lf:=[.str,.str,.int .i64,.bool]
theorem op109 (ts:List T) (h:All2 Ok sh109 ts):∃ a:D109,e109 a=ts∧sm109 a:=by
 cases h with | cons h0 h=>
 cases h with | cons h1 h=>
 cases h with | cons h2 h=>
 cases h with | cons h3 h=>
 cases h with | nil=>
 cases h0 with | str s0 q0=>
 cases h1 with | str s1 q1=>
 cases h2 with | int s2 q2=>
 cases h3 with | bool s3=>
 refine ⟨⟨s0,s1,s2,s3⟩,?_,sm_of q0,sm_of q1⟩
 rfl
def sh112:List Lf:=[.str,.int .i64,.int .i64,.int .i64,.int .i64,.row 2 32 sh88,.row 4 48 sh109]
theorem op112 (ts:List T) (h:All2 Ok sh112 ts):∃ a:D112,e112 a=ts∧sm112 a:=by
 cases h with | cons h0 h=>
 cases h with | cons h1 h=>
 cases h with | cons h2 h=>
 cases h with | cons h3 h=>
 cases h with | cons h4 h=>
 cases h with | cons h5 h=>
 cases h with | cons h6 h=>
 cases h with | nil=>
 cases h0 with | str s0 q0=>
 cases h1 with | int s1 q1=>
 cases h2 with | int s2 q2=>
 cases h3 with | int s3 q3=>
 cases h4 with | int s4 q4=>
 cases h5 with | row b5 g5=>
 obtain ⟨s5,e5,q5⟩:=op_row (sz:=2) (p:=sm88) op88 (by decide) b5 g5
 cases h6 with | row b6 g6=>
 obtain ⟨s6,e6,q6⟩:=op_row (sz:=4) (p:=sm109) op109 (by decide) b6 g6
 refine ⟨⟨s0,s1,s2,s3,s4,s5,s6⟩,?_,sm_of q0,q5,q6⟩
 simp only [e112,e5,e6]
def sh68:List Lf:=[.str,.int .i64,.row 1 16 sh9,.int .i64]
theorem op68 (ts:List T) (h:All2 Ok sh68 ts):∃ a:D68,e68 a=ts∧sm68 a:=by
 cases h with | cons h0 h=>
 cases h with | cons h1 h=>
 cases h with | cons h2 h=>
 cases h with | cons h3 h=>
 cases h with | nil=>
 cases h0 with | str s0 q0=>
 cases h1 with | int s1 q1=>
 cases h2 with | row b2 g2=>
 obtain ⟨s2,e2,q2⟩:=op_row (sz:=1) (p:=(fun x:ByteArray=>sm (sizeN x))) op9 (by decide) b2 g2
 cases h3 with | int s3 q3=>
 refine ⟨⟨s0,s1,s2,s3⟩,?_,sm_of q0,q2⟩
 simp only [e68,e2]
def sh160:List Lf:=[.str,.str,.bool]
theorem op160 (ts:List T) (h:All2 Ok sh160 ts):∃ a:D160,e160 a=ts∧sm160 a:=by
 cases h with | cons h0 h=>
 cases h with | cons h1 h=>
 cases h with | cons h2 h=>
 cases h with | nil=>
 cases h0 with | str s0 q0=>
 cases h1 with | str s1 q1=>
 cases h2 with | bool s2=>
 refine ⟨⟨s0,s1,s2⟩,?_,sm_of q0,sm_of q1⟩
 rfl
def sh70:List Lf:=[.str,.str,.int .i64]
theorem op70 (ts:List T) (h:All2 Ok sh70 ts):∃ a:D70,e70 a=ts∧sm70 a:=by
 cases h with | cons h0 h=>
 cases h with | cons h1 h=>
 cases h with | cons h2 h=>
 cases h with | nil=>
 cases h0 with | str s0 q0=>
 cases h1 with | str s1 q1=>
 cases h2 with | int s2 q2=>
 refine ⟨⟨s0,s1,s2⟩,?_,sm_of q0,sm_of q1⟩
 rfl
def sh138:List Lf:=[.str,.str]
theorem op138 (ts:List T) (h:All2 Ok sh138 ts):∃ a:D138,e138 a=ts∧sm138 a:=by
 cases h with | cons h0 h=>
 cases h with | cons h1 h=>
 cases h with | nil=>
 cases h0 with | str s0 q0=>
 cases h1 with | str s1 q1=>
 refine ⟨⟨s0,s1⟩,?_,sm_of q0,sm_of q1⟩
 rfl
def sh61:List Lf:=[.str,.str,.int .i64,.int .i64,.int .i64,.row 4 56 sh68,.row 3 40 sh160,.row 3 40 sh70,.row 2 32 sh138,.row 2 32 sh138,.int .i64,.str]
theorem op61 (ts:List T) (h:All2 Ok sh61 ts):∃ a:D61,e61 a=ts∧sm61 a:=by
 cases h with | cons h0 h=>
 cases h with | cons h1 h=>
 cases h with | cons h2 h=>
 cases h with | cons h3 h=>
 cases h with | cons h4 h=>
 cases h with | cons h5 h=>
 cases h with | cons h6 h=>
 cases h with | cons h7 h=>
 cases h with | cons h8 h=>
 cases h with | cons h9 h=>
 cases h with | cons h10 h=>
 cases h with | cons h11 h=>
 cases h with | nil=>
 cases h0 with | str s0 q0=>
 cases h1 with | str s1 q1=>
 cases h2 with | int s2 q2=>
 cases h3 with | int s3 q3=>
 cases h4 with | int s4 q4=>
 cases h5 with | row b5 g5=>
 obtain ⟨s5,e5,q5⟩:=op_row (sz:=4) (p:=sm68) op68 (by decide) b5 g5
 cases h6 with | row b6 g6=>
 obtain ⟨s6,e6,q6⟩:=op_row (sz:=3) (p:=sm160) op160 (by decide) b6 g6
 cases h7 with | row b7 g7=>
 obtain ⟨s7,e7,q7⟩:=op_row (sz:=3) (p:=sm70) op70 (by decide) b7 g7
 cases h8 with | row b8 g8=>
 obtain ⟨s8,e8,q8⟩:=op_row (sz:=2) (p:=sm138) op138 (by decide) b8 g8
 cases h9 with | row b9 g9=>
 obtain ⟨s9,e9,q9⟩:=op_row (sz:=2) (p:=sm138) op138 (by decide) b9 g9
 cases h10 with | int s10 q10=>
 cases h11 with | str s11 q11=>
 refine ⟨⟨s0,s1,s2,s3,s4,s5,s6,s7,s8,s9,s10,s11⟩,?_,sm_of q0,sm_of q1,q5,q6,q7,q8,q9,sm_of q11⟩
 simp only [e61,e5,e6,e7,e8,e9]
def sh77:List Lf:=[.str,.int .i64,.int .i64,.int .i64,.row 4 56 sh68,.row 2 32 sh88,.int .i64,.int .i64,.int .i64,.int .i64]
theorem op77 (ts:List T) (h:All2 Ok sh77 ts):∃ a:D77,e77 a=ts∧sm77 a:=by
 cases h with | cons h0 h=>
 cases h with | cons h1 h=>
 cases h with | cons h2 h=>
 cases h with | cons h3 h=>
 cases h with | cons h4 h=>
 cases h with | cons h5 h=>
 cases h with | cons h6 h=>
 cases h with | cons h7 h=>
 cases h with | cons h8 h=>
 cases h with | cons h9 h=>
 cases h with | nil=>
 cases h0 with | str s0 q0=>
 cases h1 with | int s1 q1=>
 cases h2 with | int s2 q2=>
 cases h3 with | int s3 q3=>
 cases h4 with | row b4 g4=>
 obtain ⟨s4,e4,q4⟩:=op_row (sz:=4) (p:=sm68) op68 (by decide) b4 g4
 cases h5 with | row b5 g5=>
 obtain ⟨s5,e5,q5⟩:=op_row (sz:=2) (p:=sm88) op88 (by decide) b5 g5
 cases h6 with | int s6 q6=>
 cases h7 with | int s7 q7=>
 cases h8 with | int s8 q8=>
 cases h9 with | int s9 q9=>
 refine ⟨⟨s0,s1,s2,s3,s4,s5,s6,s7,s8,s9⟩,?_,sm_of q0,q4,q5⟩
 simp only [e77,e4,e5]
def sh47:List Lf:=[.str,.str,.str]
theorem op47 (ts:List T) (h:All2 Ok sh47 ts):∃ a:D47,e47 a=ts∧sm47 a:=by
 cases h with | cons h0 h=>
 cases h with | cons h1 h=>
 cases h with | cons h2 h=>
 cases h with | nil=>
 cases h0 with | str s0 q0=>
 cases h1 with | str s1 q1=>
 cases h2 with | str s2 q2=>
 refine ⟨⟨s0,s1,s2⟩,?_,sm_of q0,sm_of q1,sm_of q2⟩
 rfl
def sh52:List Lf:=[.str,.str,.int .i64,.str,.str,.str,.int .i64,.int .i64,.int .i64,.row 3 48 sh47,.int .i64,.str,.int .i64,.int .i64,.bool]
theorem op52 (ts:List T) (h:All2 Ok sh52 ts):∃ a:D52,e52 a=ts∧sm52 a:=by
 cases h with | cons h0 h=>
 cases h with | cons h1 h=>
 cases h with | cons h2 h=>
 cases h with | cons h3 h=>
 cases h with | cons h4 h=>
 cases h with | cons h5 h=>
 cases h with | cons h6 h=>
 cases h with | cons h7 h=>
 cases h with | cons h8 h=>
 cases h with | cons h9 h=>
 cases h with | cons h10 h=>
 cases h with | cons h11 h=>
 cases h with | cons h12 h=>
 cases h with | cons h13 h=>
 cases h with | cons h14 h=>
 cases h with | nil=>
 cases h0 with | str s0 q0=>
 cases h1 with | str s1 q1=>
 cases h2 with | int s2 q2=>
 cases h3 with | str s3 q3=>
 cases h4 with | str s4 q4=>
 cases h5 with | str s5 q5=>
 cases h6 with | int s6 q6=>
 cases h7 with | int s7 q7=>
 cases h8 with | int s8 q8=>
 cases h9 with | row b9 g9=>
 obtain ⟨s9,e9,q9⟩:=op_row (sz:=3) (p:=sm47) op47 (by decide) b9 g9
 cases h10 with | int s10 q10=>
 cases h11 with | str s11 q11=>
 cases h12 with | int s12 q12=>
 cases h13 with | int s13 q13=>
 cases h14 with | bool s14=>
 refine ⟨⟨s0,s1,s2,s3,s4,s5,s6,s7,s8,s9,s10,s11,s12,s13,s14⟩,?_,sm_of q0,sm_of q1,sm_of q3,sm_of q4,sm_of q5,q9⟩
 simp only [e52,e9]
def sh122:List Lf:=[.int .i64,.row 1 16 sh9,.int .i64,.int .i64,.str,.str,.row 3 48 sh47,.bool]
theorem op122 (ts:List T) (h:All2 Ok sh122 ts):∃ a:D122,e122 a=ts∧sm122 a:=by
 cases h with | cons h0 h=>
 cases h with | cons h1 h=>
 cases h with | cons h2 h=>
 cases h with | cons h3 h=>
 cases h with | cons h4 h=>
 cases h with | cons h5 h=>
 cases h with | cons h6 h=>
 cases h with | cons h7 h=>
 cases h with | nil=>
 cases h0 with | int s0 q0=>
 cases h1 with | row b1 g1=>
 obtain ⟨s1,e1,q1⟩:=op_row (sz:=1) (p:=(fun x:ByteArray=>sm (sizeN x))) op9 (by decide) b1 g1
 cases h2 with | int s2 q2=>
 cases h3 with | int s3 q3=>
 cases h4 with | str s4 q4=>
 cases h5 with | str s5 q5=>
 cases h6 with | row b6 g6=>
 obtain ⟨s6,e6,q6⟩:=op_row (sz:=3) (p:=sm47) op47 (by decide) b6 g6
 cases h7 with | bool s7=>
 refine ⟨⟨s0,s1,s2,s3,s4,s5,s6,s7⟩,?_,q1,sm_of q4,sm_of q5,q6⟩
 simp only [e122,e1,e6]
def sh125:List Lf:=[.str,.str,.str,.int .i64]
theorem op125 (ts:List T) (h:All2 Ok sh125 ts):∃ a:D125,e125 a=ts∧sm125 a:=by
 cases h with | cons h0 h=>
 cases h with | cons h1 h=>
 cases h with | cons h2 h=>
 cases h with | cons h3 h=>
 cases h with | nil=>
 cases h0 with | str s0 q0=>
 cases h1 with | str s1 q1=>
 cases h2 with | str s2 q2=>
 cases h3 with | int s3 q3=>
 refine ⟨⟨s0,s1,s2,s3⟩,?_,sm_of q0,sm_of q1,sm_of q2⟩
 rfl
def sh91:List Lf:=[.str,.str,.str,.str,.str,.int .i64,.int .i64]
theorem op91 (ts:List T) (h:All2 Ok sh91 ts):∃ a:D91,e91 a=ts∧sm91 a:=by
 cases h with | cons h0 h=>
 cases h with | cons h1 h=>
 cases h with | cons h2 h=>
 cases h with | cons h3 h=>
 cases h with | cons h4 h=>
 cases h with | cons h5 h=>
 cases h with | cons h6 h=>
 cases h with | nil=>
 cases h0 with | str s0 q0=>
 cases h1 with | str s1 q1=>
 cases h2 with | str s2 q2=>
 cases h3 with | str s3 q3=>
 cases h4 with | str s4 q4=>
 cases h5 with | int s5 q5=>
 cases h6 with | int s6 q6=>
 refine ⟨⟨s0,s1,s2,s3,s4,s5,s6⟩,?_,sm_of q1,sm_of q2,sm_of q3,sm_of q4⟩
 rfl
def sh33:List Lf:=[.int .i64,.int .i64,.int .i64,.int .i64,.int .i64,.int .i64,.row 7 96 sh112,.row 12 200 sh61,.row 10 120 sh77,.row 15 184 sh52,.row 8 112 sh122,.row 4 56 sh125,.row 7 96 sh91,.row 1 16 sh9]
theorem op33 (ts:List T) (h:All2 Ok sh33 ts):∃ a:D33,e33 a=ts∧sm33 a:=by
 cases h with | cons h0 h=>
 cases h with | cons h1 h=>
 cases h with | cons h2 h=>
 cases h with | cons h3 h=>
 cases h with | cons h4 h=>
 cases h with | cons h5 h=>
 cases h with | cons h6 h=>
 cases h with | cons h7 h=>
 cases h with | cons h8 h=>
 cases h with | cons h9 h=>
 cases h with | cons h10 h=>
 cases h with | cons h11 h=>
 cases h with | cons h12 h=>
 cases h with | cons h13 h=>
 cases h with | nil=>
 cases h0 with | int s0 q0=>
 cases h1 with | int s1 q1=>
 cases h2 with | int s2 q2=>
 cases h3 with | int s3 q3=>
 cases h4 with | int s4 q4=>
 cases h5 with | int s5 q5=>
 cases h6 with | row b6 g6=>
 obtain ⟨s6,e6,q6⟩:=op_row (sz:=7) (p:=sm112) op112 (by decide) b6 g6
 cases h7 with | row b7 g7=>
 obtain ⟨s7,e7,q7⟩:=op_row (sz:=12) (p:=sm61) op61 (by decide) b7 g7
 cases h8 with | row b8 g8=>
 obtain ⟨s8,e8,q8⟩:=op_row (sz:=10) (p:=sm77) op77 (by decide) b8 g8
 cases h9 with | row b9 g9=>
 obtain ⟨s9,e9,q9⟩:=op_row (sz:=15) (p:=sm52) op52 (by decide) b9 g9
 cases h10 with | row b10 g10=>
 obtain ⟨s10,e10,q10⟩:=op_row (sz:=8) (p:=sm122) op122 (by decide) b10 g10
 cases h11 with | row b11 g11=>
 obtain ⟨s11,e11,q11⟩:=op_row (sz:=4) (p:=sm125) op125 (by decide) b11 g11
 cases h12 with | row b12 g12=>
 obtain ⟨s12,e12,q12⟩:=op_row (sz:=7) (p:=sm91) op91 (by decide) b12 g12
 cases h13 with | row b13 g13=>
 obtain ⟨s13,e13,q13⟩:=op_row (sz:=1) (p:=(fun x:ByteArray=>sm (sizeN x))) op9 (by decide) b13 g13
 refine ⟨⟨s0,s1,s2,s3,s4,s5,s6,s7,s8,s9,s10,s11,s12,s13⟩,?_,q6,q7,q8,q9,q10,q11,q12⟩
 simp only [e33,e6,e7,e8,e9,e10,e11,e12,e13]
theorem leaves33:leaves Tryz.prog 9 33=some sh33:=by kernel_rfl
end Go.Proofs.YtonkoellfaopiaaGreatDoor.H
namespace Go.Proofs.YtonkoellfaopiaaGreatDoor.H
open Go Go.Proofs Go.RowKit
theorem laidH_iff {w:World}:laidMetH Tryz.prog Rows.viewChecksRow.laid w↔laidMet Tryz.prog Rows.viewChecksRow.laid w:=by
 have e:(Rows.viewChecksRow.laid.filter fun x=>x.2.handleName?.isSome)=[]:=by kernel_rfl
 unfold laidMetH
 rw [e]
def textSyntax:ByteArray:={ data:=#[105,110,118,97,108,105,100,32,115,121,110,116,97,120] }
def textRange:ByteArray:={ data:=#[118,97,108,117,101,32,111,117,116,32,111,102,32,114,97,110,103,101] }
noncomputable def low:Nat:=(World.holding Tryz.prog default ⟨#[],#[],[]⟩).heap.size
def layCells (c:Array Value):Obj→Obj
 | .cells _ t frozen=>.cells c t frozen
 | o=>o
def tabCells:DataW Unit→Array Value
 | .agg l=>(l.filterMap fun | .lit (.int k n)=>some (.int k n) | _=>none).toArray
 | _=>#[]
noncomputable def laidWorld (os:Os):World:=
 let w0:=World.holding Tryz.prog os ⟨#[.cells #[.string textSyntax] 271,.cells #[.string textRange] 271],#[],[]⟩
 { w0 with heap:=((((w0.heap.modify 1 (layCells #[.iface 269 (.pointer (some ⟨low,0,none⟩))])).modify 2 (layCells #[.iface 269 (.pointer (some ⟨low+1,0,none⟩))])).modify 3
   (layCells (tabCells Rows.laid_internal_strconv_uint64pow10))).modify 4 (layCells (tabCells Rows.laid_math_bits_deBruijn32tab))).modify 5 (layCells (tabCells Rows.laid_math_bits_deBruijn64tab)) }
set_option maxRecDepth 100000 in
theorem laid_met (os:Os) (args:Array Value):laidMet Tryz.prog Rows.viewChecksRow.laid ((laidWorld os).forCall (fun _ _=>0) ⟨#[],args,[]⟩).memory:=
 laidMet_of_run' 8 (by kernel_rfl) (by kernel_rfl)
theorem laidH_met (os:Os) (args:Array Value):laidMetH Tryz.prog Rows.viewChecksRow.laid ((laidWorld os).forCall (fun _ _=>0) ⟨#[],args,[]⟩).memory:=
 laidH_iff.2 (laid_met os args)
theorem laidMet_tail {P:Program} {W:World}:∀ {x:String × DataW Unit} {rest:List (String × DataW Unit)},laidMet P (x::rest) W→laidMet P rest W
 | (n,d),rest,⟨ps,⟨g,t,cs,fuel,p,q,_,_,_,_,hr,hp⟩,hn,hc⟩=>by
  subst hp
  exact ⟨q,hr,(List.nodup_append.1 hn).2.1,fun b off hb=>hc b off (List.mem_append_right _ hb)⟩
theorem iface_of_trod {H:Type} {enc:TypeId × Value→H} {P:Program} {w:World} {base:Nat} {sp:Nat→Bool} {held:Bool} {fuel:Nat} {t:TypeId} {m:_} {cs:List Value} {s:String} {d:DataW H} {p:List MemPlace}
  (ht:P.underlying t=some (.interface m)) (h:DataW.trod enc P w base sp held fuel t cs=some (.iface s d,p)):∃ u v,cs=[.iface u v]:=by
 cases fuel with
 | zero=>simp [DataW.trod] at h
 | succ fuel=>
  simp only [DataW.trod,ht] at h
  split at h<;>first
   | exact ⟨_,_,rfl⟩
   | (simp_all;done)
theorem cell_of_head {P:Program} {W:World} {n:String} {s:String} {d:DataW Unit} {rest:List (String × DataW Unit)} {g:Nat} {t:TypeId} {m:_}
  (hg:P.globalNamed n=some g) (hty:(P.globals[g]?).map (·.type)=some t) (ht:P.underlying t=some (.interface m)) (h:laidMet P ((n,.iface s d)::rest) W):∃ u v,W.cell? ⟨g,0,none⟩=some (.iface u v):=by
 obtain ⟨ps,⟨g',t',cs,fuel,p,q,hg',ht',hvar,hd,_,_⟩,_⟩:=h
 obtain rfl:=Option.some.inj (hg.symm.trans hg')
 obtain rfl:=Option.some.inj (hty.symm.trans ht')
 obtain ⟨u,v,e⟩:=iface_of_trod ht hd
 have e':cs=#[.iface u v]:=Array.ext' e
 subst e'
 exact ⟨u,v,by simpa using World.var?_cell hg hvar 0⟩
theorem Vars_of_laid {W:World} (h:laidMetH Tryz.prog Rows.viewChecksRow.laid W) (hs:W.ShapedOpen Tryz.prog):Vars W:=by
 have h0:=laidH_iff.1 h
 have h2:=laidMet_tail (laidMet_tail h0)
 have h3:=laidMet_tail h2
 have h4:=laidMet_tail h3
 exact ⟨Lib.tabIs_of_head (zs:=Lib.pow10Tab) (t:=254) (e:=151) (n:=20) tab_named (by kernel_rfl) (by kernel_rfl) (by kernel_rfl) (by kernel_rfl) (by kernel_rfl) h2,
  cell_of_head (t:=153) (g:=1) (by kernel_rfl) (by kernel_rfl) Tryz.underlying153 h4,cell_of_head (t:=153) (g:=2) (by kernel_rfl) (by kernel_rfl) Tryz.underlying153 h3,
  Go.Proofs.cell_of_shapedOpen_int (P:=Tryz.prog) (g:=0) (t:=3) (zero:=#[.int .i64 0]) hs (of_decide_eq_true (by kernel_rfl)) (by kernel_rfl) (by kernel_rfl) (by kernel_rfl) (by kernel_rfl) Tryz.underlying3⟩
variable {H:Type} {enc:TypeId × Value→H}
theorem returns_shaped {a:Assume} {C:Checked} {os:Os} {f:FuncId} {fn:Func} {s:ChangeSpec} {conds:List PathCond} {apart fresh handsOn again:Bool} {X:World→Array Value→Prop}
  (hX:∀ (w w':World) (args:Array Value),w.heap=w'.heap→X w args→X w' args)
  (own:ownKnob C.prog.godebug=none) (started:os.Started) (noInit:C.prog.inits.idxOf? f=none) (hfn:C.prog.funcs[f]?=some fn)
  (witness:∃ (w:World) (tape:Tape) (i:Input),w.os=os∧(w.forCall tape i).Shaped C.prog∧i.vars=[]∧Input.okWide C.prog (w.forCall tape i) .any w.heap.size f i∧
   ((s.pre enc C.prog fn conds apart (w.forCall tape i).memory i.args∧X (w.forCall tape i).memory i.args)∧sizedMet enc C.prog fn (OpenSpec.ofChange s) apart (w.forCall tape i).memory i.args)∧a.holds C.prog (lone (Frame.enter C.prog f i.args .normal) [] (w.forCall tape i)))
  (contract:∀ (W:World) (base:Nat) (args:Array Value) (ds gs:List (DataW H)) (before:List MemPlace),
   (∀ (j:Nat) t v,fn.params[j]?=some t→args[j]?=some v→Value.okWide C.prog W .any base t v)→
   DataW.Whole enc C.prog fn.params.toList s.vars apart W args.toList ds gs before→
   (DataW.weightsEach C.prog (fn.params.toList++s.plain.varTypes C.prog) (ds++gs)).all (·≤reachBytes)=true→X W args→W.ShapedOpen C.prog→
   Calls C.prog f args W fun e W'=>∃ v,e=.returned v∧s.post enc C.prog fn apart fresh handsOn again W args v W'):
  ReturnsInHanded a C os f .any (fun w args=>(s.pre enc C.prog fn conds apart w args∧X w args)∧sizedMet enc C.prog fn (OpenSpec.ofChange s) apart w args) (s.post enc C.prog fn apart fresh handsOn again):=by
 refine returnsInHanded_of_calls own started noInit witness fun w tape i _ hsh _ hok hpre _=>?_
 obtain ⟨_,_,_,fn',hfn',_,_,_,_,hval⟩:=hok
 obtain rfl:fn'=fn:=Option.some.inj (hfn'.symm.trans hfn)
 obtain ⟨⟨⟨ds,gs,before,hw,_⟩,hx⟩,hz⟩:=hpre
 refine (contract (w.forCall tape i) w.heap.size i.args ds gs before hval (DataW.Whole.of_heap (w':=w.forCall tape i) (by rfl) hw) (hz.weights hw) (hX _ _ _ (by rfl) hx) hsh).mono fun e W' ⟨v,he,hp⟩=>?_
 subst he
 exact ChangeSpec.post_blind hp
theorem open33 {W:World} {base:Nat} {sp:Nat→Bool} {held:Bool} {cs:Array Value} {d:DataW H} {p:List MemPlace} (h:DataW.Trod enc Tryz.prog W base sp held 33 (.agg cs) d p) (hw:∀ n∈DataW.weights Tryz.prog 33 d,n≤reachBytes):
  ∃ a:D33,sm33 a∧LRep (Gh.bare (mem W)) W [ag (e33 a)] (#[.agg cs]:Array Value).toList:=by
 obtain ⟨fuel,hf⟩:=h
 obtain ⟨ts,h1,h2⟩:=leaves_says 9 33 sh33 leaves33 fuel _ _ hf hw
 obtain ⟨a,rfl,ha⟩:=op33 ts h1
 have hc:(Value.agg cs).cells=cs:=rfl
 rw [hc] at h2
 refine ⟨a,ha,.cons (.agg (by rw [List.length_map,h2.1,Array.length_toList]) fun i s v hs hv=>?_) .nil⟩
 obtain ⟨t,ht,rfl⟩:=Option.map_eq_some_iff.1 (List.getElem?_map ▸ hs)
 exact .t (h2.2 i t v ht (by rw [← Array.getElem?_toList] at hv;exact hv))
end Go.Proofs.YtonkoellfaopiaaGreatDoor.H
namespace Go.Proofs.YtonkoellfaopiaaGreatDoor.H
open Go
noncomputable section
theorem yC_inp {f:FuncId} {sz n:Nat} {g:Fin n→List T} {sz0 n0:Nat} {g0:Fin n0→List T} {rest:List S} (hs:shF O.P f=none) (hz:sz0=sz) (h:Ret f (.t (.rows sz0 n0 g0)::rest) (.t (.rows sz n g))):
  ∃ y:Y,S.t (.rows sz (y.r 0).n (y.r 0).g)=S.t (.rows sz n g)∧∀ (ρ:Type) (K:Y→Option ρ),yC (regs O) f (.t (.rows sz0 n0 g0)::rest) K=K y:=by
 subst hz
 have hA:shA O.P f (.t (.rows sz0 n0 g0)::rest)=some (.rows sz0 0):=by unfold shA;rw [hs]
 have hx:∃ y:Y,build y (.rows sz0 0)=.t (.rows sz0 n g):=⟨⟨fun _=>0,fun _=>false,fun _=>⟨#[]⟩,fun _=>⟨n,g⟩,fun _=>[]⟩,rfl⟩
 refine ⟨hx.choose,hx.choose_spec,fun ρ K=>?_⟩
 have hr:regs O f (.t (.rows sz0 n0 g0)::rest)=some hx.choose:=by
  unfold regs
  rw [hA,show (W O).callT f (.t (.rows sz0 n0 g0)::rest)=some (.t (.rows sz0 n g)) from h]
  dsimp only
  rw [dif_pos hx]
 unfold yC
 rw [hr]
 rfl
theorem labL_of:∀ {n:Nat} {g:Fin n→List T} {l:List (ByteArray × ByteArray)},l.length=n→(∀ (i:Nat) (h:i < n),labT (g ⟨i,h⟩)=l[i]?)→labL (listF n g)=some l
 | 0,g,[],_,_=>rfl
 | 0,g,_::_,h,_=>by cases h
 | n+1,g,[],h,_=>by cases h
 | n+1,g,x::l,h,hg=>by
  have h0:=hg 0 (Nat.succ_pos _)
  have ih:=labL_of (n:=n) (g:=fun i=>g i.succ) (l:=l) (by simpa using h) fun i hi=>by
   have:=hg (i+1) (by omega)
   simpa using this
  show (match labT (g 0),labL (listF n fun i=>g i.succ) with
   | some x,some l=>some (x::l)
   | _,_=>none)=_
  rw [ih,show labT (g 0)=some x from h0]
theorem noTwice_iff:∀ {l:List ByteArray},noTwice l=true↔l.Nodup
 | []=>⟨fun _=>List.nodup_nil,fun _=>rfl⟩
 | k::r=>by
  unfold noTwice
  rw [Bool.and_eq_true,Bool.not_eq_true',List.nodup_cons,noTwice_iff (l:=r),List.any_eq_false]
  refine and_congr ⟨fun h hk=>?_,fun h x hx e=>?_⟩ Iff.rfl
  ·exact h k hk (strEq_iff.2 rfl)
  ·rw [strEq_iff] at e;exact h (e ▸ hx)
def own5 (o:D47) (pool name:ByteArray):List (ByteArray × ByteArray):=[(bs [104,111,115,116],name),(bs [107,105,110,100],o.fKind),(bs [112,111,111,108],pool),(bs [116,121,112,101],o.fType),(bs [122,111,110,101],o.fZone)]
def labsL (r:Rw D88):List (ByteArray × ByteArray):=(List.range r.n).map fun j=>((r.at j).fKey,(r.at j).fVal)
def allLab (r:Rw D88) (o:D47) (pool name:ByteArray):List (ByteArray × ByteArray):=own5 o pool name++labsL r
theorem labsL_len (r:Rw D88):(labsL r).length=r.n:=by unfold labsL;simp
theorem allLab_len (r:Rw D88) (o:D47) (pool name:ByteArray):(allLab r o pool name).length=5+r.n:=by unfold allLab;rw [List.length_append,labsL_len];rfl
theorem labs_nodup {r:Rw D88} (h:labelsV r=0) (o:D47) (pool name:ByteArray):r.n≤4∧((allLab r o pool name).map (·.1)).Nodup:=by
 unfold labelsV at h
 cases hm:decide (4 < r.n) with
 | true=>rw [hm] at h;exact absurd (show (3:Int)=0 from h) (by decide)
 | false=>
  rw [hm,cond_false] at h
  have hf:=firstE_eq_zero.1 h
  refine ⟨by have:=of_decide_eq_false hm;omega,?_⟩
  have hj:∀ j,j < r.n→ownB (r.at j).fKey=false∧∀ i,i < j→strEq (r.at i).fKey (r.at j).fKey=false:=fun j hj=>by
   have:=hf j hj
   unfold labelV at this
   simp only [orE_eq_zero] at this
   have h1:=(wantE_eq_zero (show (1:Int)≠0 by decide)).1 this.2.1
   have h2:=(wantE_eq_zero (show (6:Int)≠0 by decide)).1 this.2.2.2
   rw [Bool.not_eq_true'] at h1 h2
   exact ⟨h1,fun i hi=>by simpa using List.any_eq_false.1 h2 i (List.mem_range.2 hi)⟩
  unfold allLab
  rw [List.map_append,List.nodup_append]
  refine ⟨?_,?_,?_⟩
  ·show [bs [104,111,115,116],bs [107,105,110,100],bs [112,111,111,108],bs [116,121,112,101],bs [122,111,110,101]].Nodup
   exact noTwice_iff.1 (by kernel_rfl)
  ·unfold labsL
   rw [List.map_map]
   show List.Pairwise (·≠·) _
   rw [List.pairwise_iff_getElem]
   intro i j hi hjl hij
   have hj1:j < r.n:=by simpa using hjl
   have:=(hj j hj1).2 i hij
   rw [strEq_false] at this
   simpa using this
  ·intro x hx y hy e
   subst e
   unfold labsL at hy
   rw [List.map_map] at hy
   obtain ⟨j,hjr,rfl⟩:=List.mem_map.1 hy
   have:=(hj j (List.mem_range.1 hjr)).1
   unfold ownB at this
   have hne:=List.any_eq_false.1 this (r.at j).fKey
   have hin:(r.at j).fKey∈ownL:=by
    unfold ownL
    unfold own5 at hx
    simp only [List.map_cons,List.map_nil,List.mem_cons,List.not_mem_nil,or_false,Function.comp] at hx ⊢
    rcases hx with h | h | h | h | h<;>simp [h]
   exact hne hin (strEq_iff.2 rfl)
theorem allLab_cells (r:Rw D88) (o:D47) (pool name:ByteArray) (h:∀ i:Fin 5,(fun i:Fin 5=>List.take 2 (List.drop (i.1*2) [ts (bs [104,111,115,116]),ts name,ts (bs [107,105,110,100]),ts o.fKind,ts (bs [112,111,111,108]),ts pool,ts (bs [116,121,112,101]),ts o.fType,ts (bs [122,111,110,101]),ts o.fZone])) i=[ts ((own5 o pool name)[i.1]'(by have:=i.2;exact this)).1,ts ((own5 o pool name)[i.1]'(by have:=i.2;exact this)).2]):
  labL (listF (addN 5 r.n) (appGet (fun i:Fin 5=>List.take 2 (List.drop (i.1*2) [ts (bs [104,111,115,116]),ts name,ts (bs [107,105,110,100]),ts o.fKind,ts (bs [112,111,111,108]),ts pool,ts (bs [116,121,112,101]),ts o.fType,ts (bs [122,111,110,101]),ts o.fZone])) fun i=>e88 (r.get i)))=some (allLab r o pool name):=by
 refine labL_of (allLab_len r o pool name) fun i hi=>?_
 unfold appGet
 by_cases h5:i < 5
 ·rw [dif_pos h5]
  have:=h ⟨i,h5⟩
  rw [this]
  have h5':i < (own5 o pool name).length:=h5
  unfold allLab
  rw [List.getElem?_append_left h5',List.getElem?_eq_getElem h5']
  rfl
 ·rw [dif_neg h5]
  have hi2:i - 5 < r.n:=by have:i < 5+r.n:=hi;omega
  show labT (e88 (r.get ⟨i - 5,_⟩))=_
  rw [get_at]
  show some ((r.at (i - 5)).fKey,(r.at (i - 5)).fVal)=_
  have h5':(own5 o pool name).length≤i:=by show 5≤i;omega
  unfold allLab
  rw [List.getElem?_append_right h5',show (own5 o pool name).length=5 from rfl]
  unfold labsL
  rw [List.getElem?_map,List.getElem?_range hi2]
  rfl
theorem own5_cells (o:D47) (pool name:ByteArray) (i:Fin 5):(fun i:Fin 5=>List.take 2 (List.drop (i.1*2) [ts (bs [104,111,115,116]),ts name,ts (bs [107,105,110,100]),ts o.fKind,ts (bs [112,111,111,108]),ts pool,ts (bs [116,121,112,101]),ts o.fType,ts (bs [122,111,110,101]),ts o.fZone])) i=[ts ((own5 o pool name)[i.1]'(by have:=i.2;exact this)).1,ts ((own5 o pool name)[i.1]'(by have:=i.2;exact this)).2]:=by
 match i with
 | ⟨0,_⟩=>rfl
 | ⟨1,_⟩=>rfl
 | ⟨2,_⟩=>rfl
 | ⟨3,_⟩=>rfl
 | ⟨4,_⟩=>rfl
def entD (p:Ent):D141:=⟨p.1.fName,p.1.fCap_0,p.1.fCap_1,p.1.fOver_0,p.1.fOver_1,p.1.fLabels,p.1.fOffers,p.2.fZone,p.2.fKind,p.2.fPrice,p.2.fOpen⟩
theorem c84 (p:Ent) (o:D47) (pool name:ByteArray) (h:labelsV p.1.fLabels=0):Ret 84 [entS p,ag (e47 o),ss pool,ss name] (rowLab (sortL (allLab p.1.fLabels o pool name))):=by
 obtain ⟨h4,hnd⟩:=labs_nodup h o pool name
 have hF:Ret 2000133 [S.t (T.rows 2 (addN 5 p.1.fLabels.n) (appGet (fun i:Fin 5=>List.take 2 (List.drop (i.1*2) [ts (bs [104,111,115,116]),ts name,ts (bs [107,105,110,100]),ts o.fKind,ts (bs [112,111,111,108]),ts pool,ts (bs [116,121,112,101]),ts o.fType,ts (bs [122,111,110,101]),ts o.fZone])) fun i=>e88 (p.1.fLabels.get i))),S.t (T.v (.func (Go.Fn.func 134) #[] #[]))] (rowLab (sortL (allLab p.1.fLabels o pool name))):=by
  refine W_ext (F:=F133) rfl ?_
  show (bif (addN 5 p.1.fLabels.n).ble 1048576 then (match labL (listF (addN 5 p.1.fLabels.n) _) with
   | some l=>bif noTwice (l.map (·.1)) then some (rowLab (sortL l)) else none
   | none=>none) else none)=_
  rw [allLab_cells _ o pool name (own5_cells o pool name)]
  have e1:(addN 5 p.1.fLabels.n).ble 1048576=true:=by rw [Nat.ble_eq];unfold addN;omega
  have e2:noTwice ((allLab p.1.fLabels o pool name).map (·.1))=true:=noTwice_iff.2 hnd
  rw [e1,cond_true]
  dsimp only
  rw [e2,cond_true]
 obtain ⟨y,hy,hK⟩:=yC_inp (by kernel_rfl) rfl hF
 refine W84 (entD p) o pool name 0 _ ?_
 have f:fitsR (addN 5 p.1.fLabels.n) 32=true:=by
  unfold fitsR addN roomMax
  rw [Bool.and_eq_true,Nat.ble_eq,Nat.ble_eq]
  omega
 show (bif fitsR (addN 5 p.1.fLabels.n) 32 then _ else none)=_
 rw [f,cond_true]
 refine (hK S _).trans ?_
 exact congrArg some hy
theorem look_someS {ρ:Type} {l:List Ent} {b:D47} {p:Ent} (h:l.find? (fun q=>eq47 b (keyOf q))=some p):∃ y:Y,build y sh141=entS p∧∀ (Kt:Y→Option ρ) (Kf:Option ρ),lookW O.P O.K 47 141 (encM l) (ag (e47 b)) Kt Kf=Kt y:=by
 obtain ⟨k,hk⟩:=find_some' h 0
 obtain ⟨y,hy,he⟩:=unb_build (sh:=sh141) (y:=entY p)
 have hb:build (entY p) sh141=entS p:=rfl
 rw [hb] at hy he
 refine ⟨y,he,fun Kt Kf=>?_⟩
 unfold lookW
 rw [shV141,hk]
 dsimp only
 rw [hy]
 rfl
theorem yC_rw {f:FuncId} {args:List S} {sz n:Nat} {g:Fin n→List T} (hs:shF O.P f=some (.rows sz 0)) (h:Ret f args (.t (.rows sz n g))):∃ y:Y,S.t (.rows sz (y.r 0).n (y.r 0).g)=S.t (.rows sz n g)∧∀ (ρ:Type) (K:Y→Option ρ),yC (regs O) f args K=K y:=by
 obtain ⟨y,h1,h2⟩:=yC_of (y0:=⟨fun _=>0,fun _=>false,fun _=>⟨#[]⟩,fun _=>⟨n,g⟩,fun _=>[]⟩) hs h
 exact ⟨y,h1,h2⟩
def labsV (a:Rw D112) (o:D47) (pool name:ByteArray):List (ByteArray × ByteArray):=match hasP a o with
 | some p=>sortL (allLab p.1.fLabels o pool name)
 | none=>[]
theorem has_labels {a:Rw D112} (ha:typesV a=0) {o:D47} {p:Ent} (h:hasP a o=some p):labelsV p.1.fLabels=0:=by
 have hm:p∈allL a:=List.mem_of_find?_eq_some h
 unfold allL at hm
 rw [eqI_true.2 ha,cond_true] at hm
 obtain ⟨i,hi,hm⟩:=List.mem_flatMap.1 hm
 obtain ⟨k,_,rfl⟩:=List.mem_map.1 hm
 have hi:=List.mem_range.1 hi
 have h:=ha
 unfold typesV at h
 cases hm:decide (12 < a.n) with
 | true=>rw [hm] at h;exact absurd (show (3:Int)=0 from h) (by decide)
 | false=>
  rw [hm,cond_false] at h
  have:=firstE_eq_zero.1 h i hi
  unfold typeE at this
  have:=(orE_eq_zero.1 this).1
  unfold typeV at this
  simp only [orE_eq_zero] at this
  exact this.2.2.2.2.1
theorem c39 (a:Rw D112) (o:D47) (pool name:ByteArray) (ha:smR sm112 a) (ht:typesV a=0) (ho:hasB a o=true):Ret 39 [S.t (T.rows 7 a.n fun i=>e112 (a.get i)),ag (e47 o),ss pool,ss name] (rowLab (labsV a o pool name)):=by
 obtain ⟨y,hy,hK⟩:=yC_map (by kernel_rfl) (c83 a ha)
 obtain ⟨p,hp⟩:=Option.isSome_iff_exists.1 (show (hasP a o).isSome=true from ho)
 have hl:=has_labels ht hp
 obtain ⟨x,hx,hM⟩:=look_someS (ρ:=S) (show (allL a).find? (fun q=>eq47 o (keyOf q))=some p from hp)
 obtain ⟨z,hz,hL⟩:=yC_rw (by kernel_rfl) (c84 p o pool name hl)
 refine W39 a o pool name 0 _ ?_
 simp only [e39_in,hK,hy,hM]
 have hx2:S.agg [ss (x.s 0),ii (x.i 1),ii (x.i 2),ii (x.i 3),ii (x.i 4),S.t (T.rows 2 (x.r 5).n (x.r 5).g),S.t (T.rows 4 (x.r 6).n (x.r 6).g),ss (x.s 7),ss (x.s 8),ii (x.i 9),bb (x.b 10)]=entS p:=hx
 rw [hx2,hL]
 unfold labsV
 rw [hp]
 exact congrArg some hz
end
end Go.Proofs.YtonkoellfaopiaaGreatDoor.H
