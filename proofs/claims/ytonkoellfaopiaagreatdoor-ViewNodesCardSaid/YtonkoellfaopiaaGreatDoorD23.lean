import Derived.Test.YtonkoellfaopiaaGreatDoorD22
import Derived.Shelf.Small.Wraps
import Derived.Shelf.SlSortCmp.NoneTotal
import Derived.Test.YtonkoellfaopiaaGreatDoorProg
import Derived.SizedLaws
import Derived.ChangeArms
import Derived.ChangeSlices
import Derived.OpenShut
import Derived.Test.YtonkoellfaopiaaGreatDoorD21
import Derived.Test.YtonkoellfaopiaaGreatDoorRows
import Derived.HandedShaped
import Derived.Shelf.Vars
import Derived.LaidLaws
import Derived.LaidHandle
import Derived.ChangeSame
import Derived.ChangeVars
import Derived.ProofKit
import Derived.RowKit
set_option linter.unusedSimpArgs false
set_option linter.unusedVariables false
set_option linter.unusedSectionVars false
namespace Go.Proofs
open Go.Shelf
def Tryz.DF:Go.Shelf.Ren:=⟨fun | 103=>87 | 210=>135 | 206=>166 | n=>n,fun | 9=>9 | 4=>4 | 24=>149 | 3=>3 | n=>n,fun | n=>n⟩
theorem Tryz.Wz:Go.Proofs.Lays.n103 Tryz.prog Tryz.DF:={
 mixed:=by kernel_rfl
 f103:=Tryz.func87.trans (congrArg some (by kernel_rfl))
 f206:=Tryz.func166.trans (congrArg some (by kernel_rfl))
 f210:=Tryz.func135.trans (congrArg some (by kernel_rfl))
 t3:=Tryz.underlying3
 a3:=Tryz.isAgg3
 z3:=Tryz.sizeOf3
 v3:=Tryz.zeroValue3
 t4:=Tryz.underlying4
 a4:=Tryz.isAgg4
 z4:=Tryz.sizeOf4
 v4:=Tryz.zeroValue4
 t9:=Tryz.underlying9
 a9:=Tryz.isAgg9
 z9:=Tryz.sizeOf9
 v9:=Tryz.zeroValue9
 t24:=Tryz.underlying149
 a24:=Tryz.isAgg149
 z24:=Tryz.sizeOf149
 v24:=Tryz.zeroValue149 }
open Go.RowKit in
theorem Tryz.strings_CutPrefix (s p:ByteArray) (w:World):
  Calls Tryz.prog 87 #[.string s,.string p] w fun e w'=>e=.returned (.tuple #[.string ⟨(Lib.trimPrefix s.data.toList p.data.toList).toArray⟩,.bool (Lib.hasPrefix s.data.toList p.data.toList)])∧w'=w:=Any.strings_CutPrefix Tryz.Wz s p w
def Tryz.AA:Go.Shelf.Ren:=⟨fun | 245=>137 | 279=>169 | 280=>170 | 281=>171 | 282=>172 | 316=>204 | 171=>45 | 205=>205 | 243=>90 | 246=>139 | 283=>177 | 284=>178 | 285=>179 | 286=>180 | 129=>203 | 317=>208 | 318=>209 | 319=>210 | 320=>211 | 337=>226 | 338=>227 | n=>n,fun | 9=>9 | 3=>3 | 75=>153 | 167=>216 | 4=>4 | 168=>218 | 210=>249 | 37=>156 | 0=>0 | 127=>268 | 145=>271 | 143=>269 | 2=>2 | 171=>223 | 53=>151 | 5=>5 | 173=>226 | 212=>254 | 51=>246 | 20=>20 | 213=>255 | 46=>214 | 232=>280 | 233=>281 | 80=>293 | n=>n,fun | 15=>1 | 16=>2 | 17=>3 | 18=>4 | 19=>5 | n=>n⟩
theorem Tryz.td:Go.Proofs.LaysC.n245 Tryz.prog Tryz.AA:={
 mixed:=by kernel_rfl
 f129:=Tryz.func203.trans (congrArg some (by kernel_rfl))
 f171:=Tryz.func45.trans (congrArg some (by kernel_rfl))
 f205:=Tryz.func205.trans (congrArg some (by kernel_rfl))
 f243:=Tryz.func90.trans (congrArg some (by kernel_rfl))
 f245:=Tryz.func137.trans (congrArg some (by kernel_rfl))
 f246:=Tryz.func139.trans (congrArg some (by kernel_rfl))
 f279:=Tryz.func169.trans (congrArg some (by kernel_rfl))
 f280:=Tryz.func170.trans (congrArg some (by kernel_rfl))
 f281:=Tryz.func171.trans (congrArg some (by kernel_rfl))
 f282:=Tryz.func172.trans (congrArg some (by kernel_rfl))
 f283:=Tryz.func177.trans (congrArg some (by kernel_rfl))
 f284:=Tryz.func178.trans (congrArg some (by kernel_rfl))
 f285:=Tryz.func179.trans (congrArg some (by kernel_rfl))
 f286:=Tryz.func180.trans (congrArg some (by kernel_rfl))
 f316:=Tryz.func204.trans (congrArg some (by kernel_rfl))
 f317:=Tryz.func208.trans (congrArg some (by kernel_rfl))
 f318:=Tryz.func209.trans (congrArg some (by kernel_rfl))
 f319:=Tryz.func210.trans (congrArg some (by kernel_rfl))
 f320:=Tryz.func211.trans (congrArg some (by kernel_rfl))
 f337:=Tryz.func226.trans (congrArg some (by kernel_rfl))
 f338:=Tryz.func227.trans (congrArg some (by kernel_rfl))
 t0:=Tryz.underlying0
 a0:=Tryz.isAgg0
 z0:=Tryz.sizeOf0
 v0:=Tryz.zeroValue0
 t2:=Tryz.underlying2
 a2:=Tryz.isAgg2
 z2:=Tryz.sizeOf2
 v2:=Tryz.zeroValue2
 t3:=Tryz.underlying3
 a3:=Tryz.isAgg3
 z3:=Tryz.sizeOf3
 v3:=Tryz.zeroValue3
 t4:=Tryz.underlying4
 a4:=Tryz.isAgg4
 z4:=Tryz.sizeOf4
 v4:=Tryz.zeroValue4
 t5:=Tryz.underlying5
 a5:=Tryz.isAgg5
 z5:=Tryz.sizeOf5
 v5:=Tryz.zeroValue5
 t9:=Tryz.underlying9
 a9:=Tryz.isAgg9
 z9:=Tryz.sizeOf9
 v9:=Tryz.zeroValue9
 t20:=Tryz.underlying20
 a20:=Tryz.isAgg20
 z20:=Tryz.sizeOf20
 v20:=Tryz.zeroValue20
 t37:=Tryz.underlying156
 a37:=Tryz.isAgg156
 z37:=Tryz.sizeOf156
 v37:=Tryz.zeroValue156
 t46:=Tryz.underlying214
 a46:=Tryz.isAgg214
 z46:=Tryz.sizeOf214
 v46:=Tryz.zeroValue214
 t51:=Tryz.underlying246
 a51:=Tryz.isAgg246
 z51:=Tryz.sizeOf246
 v51:=Tryz.zeroValue246
 t53:=Tryz.underlying151
 a53:=Tryz.isAgg151
 z53:=Tryz.sizeOf151
 v53:=Tryz.zeroValue151
 t75:=Tryz.underlying153
 a75:=Tryz.isAgg153
 z75:=Tryz.sizeOf153
 v75:=Tryz.zeroValue153
 t127:=Tryz.underlying268
 a127:=Tryz.isAgg268
 z127:=Tryz.sizeOf268
 v127:=Tryz.zeroValue268
 t143:=Tryz.underlying269
 a143:=Tryz.isAgg269
 z143:=Tryz.sizeOf269
 v143:=Tryz.zeroValue269
 t145:=Tryz.underlying271
 a145:=Tryz.isAgg271
 z145:=Tryz.sizeOf271
 v145:=Tryz.zeroValue271
 t167:=Tryz.underlying216
 a167:=Tryz.isAgg216
 z167:=Tryz.sizeOf216
 v167:=Tryz.zeroValue216
 t168:=Tryz.underlying218
 a168:=Tryz.isAgg218
 z168:=Tryz.sizeOf218
 v168:=Tryz.zeroValue218
 t171:=Tryz.underlying223
 a171:=Tryz.isAgg223
 z171:=Tryz.sizeOf223
 v171:=Tryz.zeroValue223
 t173:=Tryz.underlying226
 a173:=Tryz.isAgg226
 z173:=Tryz.sizeOf226
 v173:=Tryz.zeroValue226
 t210:=Tryz.underlying249
 a210:=Tryz.isAgg249
 z210:=Tryz.sizeOf249
 v210:=Tryz.zeroValue249
 t212:=Tryz.underlying254
 a212:=Tryz.isAgg254
 z212:=Tryz.sizeOf254
 v212:=Tryz.zeroValue254
 t213:=Tryz.underlying255
 a213:=Tryz.isAgg255
 z213:=Tryz.sizeOf255
 t232:=Tryz.underlying280
 a232:=Tryz.isAgg280
 z232:=Tryz.sizeOf280
 v232:=Tryz.zeroValue280
 t233:=Tryz.underlying281
 a233:=Tryz.isAgg281
 z233:=Tryz.sizeOf281
 v233:=Tryz.zeroValue281
 g15:=by kernel_rfl
 g16:=by kernel_rfl
 g17:=by kernel_rfl
 g18:=by kernel_rfl
 g19:=by kernel_rfl
 t80:=Tryz.underlying293
 a80:=Tryz.isAgg293
 z80:=Tryz.sizeOf293
 v80:=Tryz.zeroValue293
 i0:=by kernel_rfl
 i2:=by kernel_rfl
 i3:=by kernel_rfl
 i4:=by kernel_rfl
 i5:=by kernel_rfl
 i9:=by kernel_rfl
 i20:=by kernel_rfl
 i37:=by kernel_rfl
 i46:=by kernel_rfl
 i51:=by kernel_rfl
 i53:=by kernel_rfl
 i75:=by kernel_rfl
 i80:=by kernel_rfl
 i127:=by kernel_rfl
 i143:=by kernel_rfl
 i145:=by kernel_rfl
 i167:=by kernel_rfl
 i168:=by kernel_rfl
 i171:=by kernel_rfl
 i173:=by kernel_rfl
 i210:=by kernel_rfl
 i212:=by kernel_rfl
 i232:=by kernel_rfl
 i233:=by kernel_rfl
 m15:=by kernel_rfl
 m16:=by kernel_rfl
 m17:=by kernel_rfl
 m18:=by kernel_rfl
 m19:=by kernel_rfl
 c0:=by kernel_rfl
 c2:=by kernel_rfl
 c3:=by kernel_rfl
 c4:=by kernel_rfl
 c5:=by kernel_rfl
 c9:=by kernel_rfl
 c20:=by kernel_rfl
 c37:=by kernel_rfl
 c46:=by kernel_rfl
 c51:=by kernel_rfl
 c53:=by kernel_rfl
 c75:=by kernel_rfl
 c80:=by kernel_rfl
 c127:=by kernel_rfl
 c143:=by kernel_rfl
 c145:=by kernel_rfl
 c167:=by kernel_rfl
 c168:=by kernel_rfl
 c171:=by kernel_rfl
 c173:=by kernel_rfl
 c210:=by kernel_rfl
 c212:=by kernel_rfl
 c213:=by kernel_rfl
 c232:=by kernel_rfl
 c233:=by kernel_rfl }
end Go.Proofs
namespace Go.Proofs.YtonkoellfaopiaaGreatDoor.H
open Go Go.Proofs Go.RowKit Go.Shelf
variable [dq]
set_option maxHeartbeats 1000000 in
theorem afF (s:ByteArray) (hne:s.size≠0) (hs:s.size≤281474976710656) (n:Nat) (hp:Lib.parseUintM 65535 0 s.data.toList=.ok n) (w:World):
  Calls Tryz.prog 88 #[.string s,.int .i64 10,.int .i64 16] w fun e w'=>e=.returned (.tuple #[.int .u64 n,.nilIface])∧Below w.heap.size w w':=by
 have HP:=aI.mk ((Tryz.internal_strconv_ParseUint_10_b16 s hne (by omega) w).mono (R':=fun e w'=>e=.returned (.tuple #[.int .u64 n,.nilIface])∧Below w.heap.size w w') (fun e w' ⟨he,hw⟩=>⟨by rw [he,hp];rfl,by rw [hw];exact Go.Lib.bytesWorld_below _ _ _⟩))
 clear hp
 go_enter Tryz.func88,Tryz.ntmps88
 go_wp2_with (go_at_call 136;refine HP.out.mono ?_;rintro e w2 ⟨rfl,hb2⟩;have HB2:=aI.mk hb2;clear hb2)
 go_ret2
 exact ⟨rfl,HB2.out⟩
set_option maxRecDepth 100000 in
set_option maxHeartbeats 1000000 in
theorem Nn (w:World) (hg:Vars w):
  Calls Tryz.prog 88 #[.string ⟨#[]⟩,.int .i64 10,.int .i64 16] w fun e w'=>(∃ v t p,e=.returned (.tuple #[.int .u64 v,.iface t p]))∧Below w.heap.size w w':=by
 have HP:aI (Calls Tryz.prog 136 #[.string ⟨#[]⟩,.int .i64 10,.int .i64 16] w fun e w'=>e=.returned (.tuple #[.int .u64 0,.iface 216 (.int .i64 2)])∧w'=w):=by
  refine ⟨?_⟩
  go_enter Tryz.func136,Tryz.ntmps136
  go_wp2
  go_ret2
  exact ⟨rfl,rfl⟩
 obtain ⟨t1,p1,e1⟩:=hg.syn
 have HE:=aI.mk (fun (fn:ByteArray)=>Any.strconv_toError_syntax (P:=Tryz.prog) Tryz.td fn ⟨#[]⟩ 10 16 _ w (by decide) e1 (.inr ⟨_,_,rfl⟩))
 go_enter Tryz.func88,Tryz.ntmps88
 go_wp2_with (first | (go_at_call 136;refine HP.out.mono ?_;rintro e w2 ⟨rfl,rfl⟩) | (go_at_call 137;refine (HE.out _).mono ?_;rintro e w3 ⟨N,rfl,_,_,hb3⟩;have HB3:=aI.mk hb3;clear hb3))
 go_ret2
 exact ⟨⟨_,_,_,rfl⟩,HB3.out⟩
theorem YU (fn s:ByteArray) (hs:s.size≤281474976710656) (W:World) (hV:Vars W):
  Calls Tryz.prog 137 #[.string fn,.string s,.int .i64 10,.int .i64 16,.iface 216 (.int .i64 2)] W fun e w'=>(∃ t p,e=.returned (.iface t p))∧Below W.heap.size W w':=by
 obtain ⟨t1,p1,e1⟩:=hV.syn
 exact (Any.strconv_toError_syntax (P:=Tryz.prog) Tryz.td fn s 10 16 _ W hs e1 (.inr ⟨_,_,rfl⟩)).mono fun e w' ⟨N,h1,_,_,h2⟩=>⟨⟨_,_,h1⟩,h2⟩
theorem acx (fn s:ByteArray) (hs:s.size≤281474976710656) (W:World) (hV:Vars W):
  Calls Tryz.prog 137 #[.string fn,.string s,.int .i64 10,.int .i64 16,.iface 216 (.int .i64 1)] W fun e w'=>(∃ t p,e=.returned (.iface t p))∧Below W.heap.size W w':=by
 obtain ⟨t1,p1,e1⟩:=hV.ran
 exact (Any.strconv_toError_range (P:=Tryz.prog) Tryz.td fn s 10 16 _ W hs e1 (.inr ⟨_,_,rfl⟩)).mono fun e w' ⟨N,h1,_,_,h2⟩=>⟨⟨_,_,h1⟩,h2⟩
set_option maxHeartbeats 1000000 in
theorem Oj (s:ByteArray) (v k:Int) (w:World) (hg:aI (Vars w)) (HP:aI (Calls Tryz.prog 136 #[.string s,.int .i64 10,.int .i64 16] w fun e w'=>e=.returned (.tuple #[.int .u64 v,.iface 216 (.int .i64 k)])∧Below w.heap.size w w'))
  (HE:aI (∀ (fn:ByteArray) (W:World),Vars W→Calls Tryz.prog 137 #[.string fn,.string s,.int .i64 10,.int .i64 16,.iface 216 (.int .i64 k)] W fun e w'=>(∃ t p,e=.returned (.iface t p))∧Below W.heap.size W w')):
  Calls Tryz.prog 88 #[.string s,.int .i64 10,.int .i64 16] w fun e w'=>(∃ v t p,e=.returned (.tuple #[.int .u64 v,.iface t p]))∧Below w.heap.size w w':=by
 go_enter Tryz.func88,Tryz.ntmps88
 go_wp2_with (first | (go_at_call 136;refine HP.out.mono ?_;rintro e w2 ⟨rfl,hb2⟩;have HB2:=aI.mk hb2;clear hb2) | (go_at_call 137;refine (HE.out _ _ (ir hg.out HB2.out)).mono ?_;rintro e w3 ⟨⟨t,p,rfl⟩,hb3⟩;have HB3:=aI.mk (HB2.out.trans (hb3.mono HB2.out.size));clear hb3))
 go_ret2
 exact ⟨⟨_,_,_,rfl⟩,HB3.out⟩
theorem ZL (s:ByteArray) (hne:s.size≠0) (hs:s.size≤281474976710656) (hp:∀ n,Lib.parseUintM 65535 0 s.data.toList≠.ok n) (w:World) (hg:Vars w):
  Calls Tryz.prog 88 #[.string s,.int .i64 10,.int .i64 16] w fun e w'=>(∃ v t p,e=.returned (.tuple #[.int .u64 v,.iface t p]))∧Below w.heap.size w w':=by
 have HP:=Tryz.internal_strconv_ParseUint_10_b16 s hne (by omega) w
 cases hr:Lib.parseUintM 65535 0 s.data.toList
 case ok n=>exact absurd hr (hp n)
 all_goals first
  | exact Oj s _ 2 w ⟨hg⟩ ⟨HP.mono fun e w' ⟨h1,h2⟩=>⟨by rw [h1,hr];rfl,by rw [h2];exact Go.Lib.bytesWorld_below _ _ _⟩⟩ ⟨fun fn W hV=>YU fn s hs W hV⟩
  | exact Oj s _ 1 w ⟨hg⟩ ⟨HP.mono fun e w' ⟨h1,h2⟩=>⟨by rw [h1,hr];rfl,by rw [h2];exact Go.Lib.bytesWorld_below _ _ _⟩⟩ ⟨fun fn W hV=>acx fn s hs W hV⟩
set_option maxHeartbeats 1000000 in
theorem Ka (s z:ByteArray) (b:Bool) (w:World) (HC:aI (Calls Tryz.prog 87 #[.string s,.string ⟨#[99]⟩] w fun e w'=>e=.returned (.tuple #[.string z,.bool b])∧w'=w))
  (HP:aI (Calls Tryz.prog 88 #[.string z,.int .i64 10,.int .i64 16] w fun e w'=>(∃ v t p,e=.returned (.tuple #[.int .u64 v,.iface t p]))∧Below w.heap.size w w')):
  Calls Tryz.prog 43 #[.string s] w fun e w'=>e=.returned (.int .i64 0)∧Below w.heap.size w w':=by
 cases b<;>(go_enter Tryz.func43,Tryz.ntmps43
            go_wp2_with (first | (go_at_call 87;refine HC.out.mono ?_;rintro e w2 ⟨rfl,rfl⟩) | (go_at_call 88;refine HP.out.mono ?_;rintro e w3 ⟨⟨v,t,p,rfl⟩,hb3⟩;have HB3:=aI.mk hb3;clear hb3))
            go_ret
            exact ⟨rfl,HB3.out⟩)
set_option maxHeartbeats 1000000 in
theorem aaO (s z:ByteArray) (b:Bool) (n:Nat) (w:World) (HC:aI (Calls Tryz.prog 87 #[.string s,.string ⟨#[99]⟩] w fun e w'=>e=.returned (.tuple #[.string z,.bool b])∧w'=w))
  (HP:aI (Calls Tryz.prog 88 #[.string z,.int .i64 10,.int .i64 16] w fun e w'=>e=.returned (.tuple #[.int .u64 n,.nilIface])∧Below w.heap.size w w')):
  Calls Tryz.prog 43 #[.string s] w fun e w'=>e=.returned (.int .i64 (bif b && z.size.beq 4 then wrap64 (n:Int) else 0))∧Below w.heap.size w w':=by
 by_cases h4:z.size=4
 ·have e4:z.size.beq 4=true:=by rw [h4];rfl
  rw [e4,Bool.and_true]
  cases b
  all_goals first | rw [cond_true] | rw [cond_false]
  all_goals
   go_enter Tryz.func43,Tryz.ntmps43
   go_wp2_with (first | (go_at_call 87;refine HC.out.mono ?_;rintro e w2 ⟨rfl,rfl⟩) | (go_at_call 88;refine HP.out.mono ?_;rintro e w3 ⟨rfl,hb3⟩;have HB3:=aI.mk hb3;clear hb3))
   go_ret
   exact ⟨rfl,HB3.out⟩
 ·have e4:z.size.beq 4=false:=by
   cases e:z.size.beq 4 with
   | false=>rfl
   | true=>exact absurd (Nat.eq_of_beq_eq_true e) h4
  rw [e4,Bool.and_false,cond_false]
  have e5:((z.size:Int) == 4)=false:=by rw [beq_eq_false_iff_ne];omega
  cases b<;>(go_enter Tryz.func43,Tryz.ntmps43
             go_wp2_with (first | (go_at_call 87;refine HC.out.mono ?_;rintro e w2 ⟨rfl,rfl⟩) | (go_at_call 88;refine HP.out.mono ?_;rintro e w3 ⟨rfl,hb3⟩;have HB3:=aI.mk hb3;clear hb3))
             go_ret
             exact ⟨rfl,HB3.out⟩)
theorem Xh (n:Int):wrap64 n=IntKind.i64.wrap n:=by
 rw [IntKind.wrap_i64]
 unfold wrap64
 rfl
theorem aea:mN 43 F43:=by
 intro args r h I w vs hI hN hV ha
 unfold F43 at h
 split at h
 ·rename_i s
  obtain ⟨v,rfl,hv⟩:=B6 ha
  obtain ⟨rfl,_⟩:=a_ hv
  obtain ⟨hc,h⟩:=bP h
  obtain rfl:=Option.some.inj h
  have hs:=Nat.le_of_ble_eq_true hc
  have HC:=Tryz.strings_CutPrefix s ⟨#[99]⟩ w
  have fin:∀ {x:Int} (_:x=Wo s) (e:Ending) (w':World),e=.returned (.int .i64 x)∧Below w.heap.size w w'→vH I w (ii (Wo s)) e w':=by
   rintro x rfl e w' ⟨rfl,hb⟩
   exact g_ hI hN hb (.t (.v _ rfl))
  obtain ⟨l,hl⟩:∃ l,l=Lib.trimPrefix s.data.toList [99]:=⟨_,rfl⟩
  have hll:l.length≤s.size:=by
   rw [hl]
   unfold Lib.trimPrefix
   split
   ·rw [List.length_drop,Array.length_toList];exact Nat.sub_le _ _
   ·rw [Array.length_toList];exact Nat.le_refl _
  have hnum:Wo s=bif Lib.hasPrefix s.data.toList [99] && l.length.beq 4 then (match Lib.parseUintM 65535 0 l with | .ok n=>IntKind.i64.wrap (n:Int) | _=>0) else 0:=by rw [hl];rfl
  have HC':Calls Tryz.prog 87 #[.string s,.string ⟨#[99]⟩] w fun e w'=>e=.returned (.tuple #[.string ⟨l.toArray⟩,.bool (Lib.hasPrefix s.data.toList [99])])∧w'=w:=by rw [hl];exact HC
  by_cases he:l=[]
  ·subst he
   exact (Ka s _ _ w ⟨HC'⟩ ⟨Nn w hV.1⟩).mono (fun e w' h=>fin (by rw [hnum];simp [Nat.beq]) e w' h)
  ·have hz:(⟨l.toArray⟩:ByteArray).size≠0:=fun h=>he (List.eq_nil_of_length_eq_zero (by rw [← h];simp [ByteArray.size]))
   have hzs:(⟨l.toArray⟩:ByteArray).size=l.length:=by simp [ByteArray.size]
   cases hp:Lib.parseUintM 65535 0 l
   case ok n=>
    refine (aaO s ⟨l.toArray⟩ _ n w ⟨HC'⟩ ⟨afF _ hz (by omega) n hp w⟩).mono (fun e w' h=>fin (by rw [hnum,hp,hzs];rw [Xh]) e w' h)
   all_goals exact (Ka s ⟨l.toArray⟩ _ w ⟨HC'⟩ ⟨ZL _ hz (by omega) (fun n h=>by rw [show (⟨l.toArray⟩:ByteArray).data.toList=l from rfl,hp] at h;cases h) w hV.1⟩).mono (fun e w' h=>fin (by rw [hnum,hp];cases (Lib.hasPrefix s.data.toList [99] && l.length.beq 4)<;>rfl) e w' h)
 ·cases h
end Go.Proofs.YtonkoellfaopiaaGreatDoor.H
namespace Go.Proofs
open Go.Shelf
def Tryz.An:Go.Shelf.Ren:=⟨fun | 6=>133 | 15=>165 | 14=>164 | 28=>202 | 29=>203 | 20=>194 | 21=>195 | 22=>196 | 23=>197 | 24=>198 | 25=>199 | 26=>200 | 27=>201 | 46=>221 | 47=>222 | 48=>223 | 49=>224 | 50=>225 | 57=>232 | n=>n,fun | 22=>53 | 24=>88 | 25=>183 | 3=>3 | 39=>214 | 0=>0 | 53=>246 | 55=>151 | 4=>4 | 46=>239 | 45=>238 | 50=>243 | 5=>5 | 9=>9 | 66=>262 | 70=>266 | 76=>277 | 77=>278 | n=>n,fun | n=>n⟩
theorem Tryz.Dz:Go.Proofs.SlLaysF0.n6 Tryz.prog Tryz.An:={
 mixed:=by kernel_rfl
 f6:=⟨Tryz.f133.name,by decide,Tryz.func133.trans (congrArg some (by kernel_rfl))⟩
 f14:=⟨Tryz.f164.name,by decide,Tryz.func164.trans (congrArg some (by kernel_rfl))⟩
 f15:=Tryz.func165.trans (congrArg some (by kernel_rfl))
 f20:=⟨Tryz.f194.name,by decide,Tryz.func194.trans (congrArg some (by kernel_rfl))⟩
 f21:=⟨Tryz.f195.name,by decide,Tryz.func195.trans (congrArg some (by kernel_rfl))⟩
 f22:=⟨Tryz.f196.name,by decide,Tryz.func196.trans (congrArg some (by kernel_rfl))⟩
 f23:=⟨Tryz.f197.name,by decide,Tryz.func197.trans (congrArg some (by kernel_rfl))⟩
 f24:=⟨Tryz.f198.name,by decide,Tryz.func198.trans (congrArg some (by kernel_rfl))⟩
 f25:=⟨Tryz.f199.name,by decide,Tryz.func199.trans (congrArg some (by kernel_rfl))⟩
 f26:=⟨Tryz.f200.name,by decide,Tryz.func200.trans (congrArg some (by kernel_rfl))⟩
 f27:=⟨Tryz.f201.name,by decide,Tryz.func201.trans (congrArg some (by kernel_rfl))⟩
 f28:=Tryz.func202.trans (congrArg some (by kernel_rfl))
 f29:=Tryz.func203.trans (congrArg some (by kernel_rfl))
 f46:=⟨Tryz.f221.name,by decide,Tryz.func221.trans (congrArg some (by kernel_rfl))⟩
 f47:=Tryz.func222.trans (congrArg some (by kernel_rfl))
 f48:=Tryz.func223.trans (congrArg some (by kernel_rfl))
 f49:=⟨Tryz.f224.name,by decide,Tryz.func224.trans (congrArg some (by kernel_rfl))⟩
 f50:=⟨Tryz.f225.name,by decide,Tryz.func225.trans (congrArg some (by kernel_rfl))⟩
 f57:=⟨Tryz.f232.name,by decide,Tryz.func232.trans (congrArg some (by kernel_rfl))⟩
 t0:=Tryz.underlying0
 a0:=Tryz.isAgg0
 z0:=Tryz.sizeOf0
 v0:=Tryz.zeroValue0
 t3:=Tryz.underlying3
 a3:=Tryz.isAgg3
 z3:=Tryz.sizeOf3
 v3:=Tryz.zeroValue3
 t4:=Tryz.underlying4
 a4:=Tryz.isAgg4
 z4:=Tryz.sizeOf4
 v4:=Tryz.zeroValue4
 t5:=Tryz.underlying5
 a5:=Tryz.isAgg5
 z5:=Tryz.sizeOf5
 v5:=Tryz.zeroValue5
 t9:=Tryz.underlying9
 a9:=Tryz.isAgg9
 z9:=Tryz.sizeOf9
 v9:=Tryz.zeroValue9
 t22:=Tryz.underlying53
 a22:=Tryz.isAgg53
 z22:=Tryz.sizeOf53
 v22:=Tryz.zeroValue53
 t25:=Tryz.underlying183
 a25:=Tryz.isAgg183
 z25:=Tryz.sizeOf183
 v25:=Tryz.zeroValue183
 t39:=Tryz.underlying214
 a39:=Tryz.isAgg214
 z39:=Tryz.sizeOf214
 v39:=Tryz.zeroValue214
 t45:=Tryz.underlying238
 a45:=Tryz.isAgg238
 z45:=Tryz.sizeOf238
 v45:=Tryz.zeroValue238
 t46:=Tryz.underlying239
 a46:=Tryz.isAgg239
 z46:=Tryz.sizeOf239
 v46:=Tryz.zeroValue239
 t50:=Tryz.underlying243
 a50:=Tryz.isAgg243
 z50:=Tryz.sizeOf243
 v50:=Tryz.zeroValue243
 t53:=Tryz.underlying246
 a53:=Tryz.isAgg246
 z53:=Tryz.sizeOf246
 v53:=Tryz.zeroValue246
 t55:=Tryz.underlying151
 a55:=Tryz.isAgg151
 z55:=Tryz.sizeOf151
 v55:=Tryz.zeroValue151
 t66:=Tryz.underlying262
 a66:=Tryz.isAgg262
 z66:=Tryz.sizeOf262
 v66:=Tryz.zeroValue262
 t70:=Tryz.underlying266
 a70:=Tryz.isAgg266
 z70:=Tryz.sizeOf266
 v70:=Tryz.zeroValue266
 t76:=Tryz.underlying277
 a76:=Tryz.isAgg277
 z76:=Tryz.sizeOf277
 v76:=Tryz.zeroValue277
 t77:=Tryz.underlying278
 a77:=Tryz.isAgg278
 z77:=Tryz.sizeOf278
 v77:=Tryz.zeroValue278 }
end Go.Proofs
namespace Go.Proofs.YtonkoellfaopiaaGreatDoor.H
open Go Go.Proofs Go.RowKit Go.Shelf Go.Sort
variable [dq]
theorem Dt:∀ (x y:List UInt8),Op.bytesLess x y=decide (x < y)
 | [],[]=>by simp [Op.bytesLess]
 | _::_,[]=>by simp [Op.bytesLess]
 | [],_::_=>by simp [Op.bytesLess]
 | a::x,b::y=>by
  rw [Op.bytesLess,Dt x y]
  simp only [List.cons_lt_cons_iff]
  by_cases h1:a < b<;>by_cases h2:a=b<;>by_cases h3:x < y<;>simp [h1,h2,h3]
theorem Ld:∀ a b:List UInt8,Lib.compareBytes a b < 0↔a < b
 | [],[]=>⟨fun h=>absurd h (by decide),fun h=>absurd h (List.lt_irrefl _)⟩
 | [],_::_=>⟨fun _=>List.nil_lt_cons _ _,fun _=>(by decide:(-1:Int) < 0)⟩
 | _::_,[]=>⟨fun h=>absurd (show (1:Int) < 0 from h) (by decide),fun h=>absurd h (List.not_lt_nil _)⟩
 | a::ar,b::br=>by
  have ih:=Ld ar br
  unfold Lib.compareBytes
  rw [List.cons_lt_cons_iff]
  by_cases h1:a < b
  ·rw [if_pos h1]
   exact ⟨fun _=>.inl h1,fun _=>by decide⟩
  ·rw [if_neg h1]
   by_cases h2:b < a
   ·rw [if_pos h2]
    refine ⟨fun h=>absurd h (by decide),fun h=>?_⟩
    rcases h with h | ⟨h,_⟩
    ·exact absurd h h1
    ·subst h
     exact absurd h2 h1
   ·rw [if_neg h2,ih]
    have he:a=b:=UInt8.le_antisymm (UInt8.not_lt.1 h2) (UInt8.not_lt.1 h1)
    exact ⟨fun h=>.inr ⟨he,h⟩,fun h=>h.elim (fun h=>absurd h h1) (fun h=>h.2)⟩
def D_ (x y:ByteArray):Int:=Lib.compareBytes x.data.toList y.data.toList
theorem ox (x y:ByteArray):ltOf D_ x y=decide (x.data.toList < y.data.toList):=by
 unfold ltOf D_
 exact decide_eq_decide.2 (Ld _ _)
theorem jy (x y:ByteArray):strLt x y=decide (x.data.toList < y.data.toList):=Dt _ _
theorem XX:SWO (ltOf D_) where
 irrefl x:=by rw [ox];exact decide_eq_false (List.lt_irrefl _)
 trans x y z h1 h2:=by
  rw [ox] at *
  exact decide_eq_true (List.lt_trans (of_decide_eq_true h1) (of_decide_eq_true h2))
 ntrans x y z h1 h2:=by
  rw [ox] at *
  have h1:y.data.toList≤x.data.toList:=of_decide_eq_false h1
  have h2:z.data.toList≤y.data.toList:=of_decide_eq_false h2
  exact decide_eq_false (show z.data.toList≤x.data.toList from List.le_trans h2 h1)
theorem bytes_inj {a b:ByteArray} (h:a.data.toList=b.data.toList):a=b:=ByteArray.ext (Array.toList_inj.1 h)
theorem XR (x y:ByteArray) (h1:ltOf D_ x y=false) (h2:ltOf D_ y x=false):x=y:=by
 rw [ox] at *
 have h1:y.data.toList≤x.data.toList:=of_decide_eq_false h1
 have h2:x.data.toList≤y.data.toList:=of_decide_eq_false h2
 exact bytes_inj (List.le_antisymm h2 h1)
theorem ns (x:ByteArray × ByteArray):∀ l,(fp x l).Perm (x::l)
 | []=>List.Perm.refl _
 | y::r=>by
  unfold fp
  cases strLt x.1 y.1 with
  | true=>exact List.Perm.refl _
  | false=>exact ((ns x r).cons y).trans (List.Perm.swap x y r)
theorem gz:∀ l,(fG l).Perm l
 | []=>List.Perm.refl _
 | x::r=>(ns x _).trans ((gz r).cons x)
theorem rm (x:ByteArray × ByteArray):∀ l:List (ByteArray × ByteArray),l.Pairwise (fun a b=>strLt b.1 a.1=false)→(fp x l).Pairwise (fun a b=>strLt b.1 a.1=false)
 | [],_=>List.pairwise_singleton _ _
 | y::r,h=>by
  obtain ⟨h1,h2⟩:=List.pairwise_cons.1 h
  unfold fp
  cases hc:strLt x.1 y.1 with
  | true=>
   refine List.pairwise_cons.2 ⟨fun z hz=>?_,h⟩
   have hxy:=hc
   rw [jy] at hxy
   have hxy:=of_decide_eq_true hxy
   rw [jy]
   refine decide_eq_false fun hzx=>?_
   rcases List.mem_cons.1 hz with rfl | hz
   ·exact List.lt_irrefl _ (List.lt_trans hzx hxy)
   ·have:=h1 z hz
    rw [jy] at this
    exact of_decide_eq_false this (List.lt_trans hzx hxy)
  | false=>
   refine List.pairwise_cons.2 ⟨fun z hz=>?_,rm x r h2⟩
   rcases List.mem_cons.1 ((ns x r).mem_iff.1 hz) with rfl | hz
   ·exact hc
   ·exact h1 z hz
theorem oY:∀ l,(fG l).Pairwise (fun a b=>strLt b.1 a.1=false)
 | []=>List.Pairwise.nil
 | x::r=>rm x _ (oY r)
theorem FD (l:List (ByteArray × ByteArray)):(fG l).map (·.1)=(l.map (·.1)).mergeSort fun x y=>!(ltOf D_) y x:=by
 refine List.Perm.eq_of_pairwise (le:=fun x y=>(!(ltOf D_) y x)=true) ?_ ?_ ?_ (((gz l).map _).trans (List.mergeSort_perm _ _).symm)
 ·intro a b _ _ h1 h2
  simp only [Bool.not_eq_true'] at h1 h2
  exact XR a b h2 h1
 ·rw [List.pairwise_map]
  refine (oY l).imp fun {a b} h=>?_
  rw [jy] at h
  rw [ox,h]
  rfl
 ·refine List.pairwise_mergeSort ?_ ?_ _
  ·intro a b c h1 h2
   simp only [Bool.not_eq_true'] at *
   exact XX.ntrans _ _ _ h2 h1
  ·intro a b
   rw [ox,ox]
   by_cases h:b.data.toList < a.data.toList
   ·have:¬ a.data.toList < b.data.toList:=fun h'=>List.lt_irrefl _ (List.lt_trans h h')
    simp [this]
   ·simp [h]
def OL (l:List (ByteArray × ByteArray)) (k:ByteArray):ByteArray:=match l with
 | []=>ByteArray.empty
 | p::r=>bif ah p.1 k then p.2 else OL r k
theorem sN:∀ (l:List (ByteArray × ByteArray)),(l.map (·.1)).Nodup→∀ p∈l,OL l p.1=p.2
 | [],_,p,hp=>by cases hp
 | x::r,hn,p,hp=>by
  rw [List.map_cons,List.nodup_cons] at hn
  unfold OL
  rcases List.mem_cons.1 hp with rfl | hp
  ·rw [dc.2 rfl,cond_true]
  ·have:ah x.1 p.1=false:=by
    cases h:ah x.1 p.1 with
    | false=>rfl
    | true=>exact absurd (dc.1 h ▸ List.mem_map_of_mem hp) hn.1
   rw [this,cond_false]
   exact sN r hn.2 p hp
def tF (l:List (ByteArray × ByteArray)) (k:ByteArray):List Value:=[.string k,.string (OL l k)]
theorem uo:∀ (n:Nat) (g:Fin n→List T) (l:List (ByteArray × ByteArray)),yY (kf n g)=some l→l.length=n∧∀ (i:Nat) (h:i < n),Bx (g ⟨i,h⟩)=l[i]?
 | 0,g,l,h=>by
  obtain rfl:=Option.some.inj (show some []=some l from h)
  exact ⟨rfl,fun i h=>by omega⟩
 | n+1,g,l,h=>by
  have h:(match Bx (g 0),yY (kf n fun i=>g i.succ) with
   | some x,some l=>some (x::l)
   | _,_=>none)=some l:=h
  split at h
  ·rename_i x r hx hr
   obtain rfl:=Option.some.inj h
   obtain ⟨h1,h2⟩:=uo n _ r hr
   refine ⟨by simp [h1],fun i hi=>?_⟩
   cases i with
   | zero=>exact hx
   | succ i=>exact h2 i (by omega)
  ·cases h
theorem LZ {c:List T} {p:ByteArray × ByteArray} (h:Bx c=some p):c=[.v (.string p.1),.v (.string p.2)]:=by
 unfold Bx at h
 split at h
 ·obtain rfl:=Option.some.inj h
  rfl
 ·cases h
set_option maxHeartbeats 1000000 in
theorem OZ (l:List (ByteArray × ByteArray)) (x y:ByteArray) (W:World):Calls Tryz.prog 134 #[.agg (tF l x).toArray,.agg (tF l y).toArray] W fun e w'=>e=.returned (.int .i64 (D_ x y))∧∃ q os',w'=grow (W.drewN q) os':=by
 have hcon:=fun W'=>Tryz.strings_Compare x y W'
 unfold D_
 generalize Lib.compareBytes x.data.toList y.data.toList=r at hcon ⊢
 unfold tF
 go_enter Tryz.func134,Tryz.ntmps134
 go_wp2_with (go_at_call 56;refine (hcon _).mono ?_;rintro e w' ⟨rfl,rfl⟩)
 go_ret
 exact ⟨rfl,0,_,by rw [alloc_eq_grow,alloc_eq_grow,grow_grow];rfl⟩
theorem E2 (l:List (ByteArray × ByteArray)):∀ {m:Nat} (h:l.length=m),qM l=.t (.rows 2 m fun i=>[.v (.string (l[i.1]'(h ▸ i.2)).1),.v (.string (l[i.1]'(h ▸ i.2)).2)])
 | _,rfl=>rfl
theorem Mx {I:Nat→Prop} {w:World} {q m cap:Nat} {c:Array Value} {ty:TypeId} {fz:Nat × Nat} {g0:Fin m→List T} {l:List (ByteArray × ByteArray)} (hb:w.heap[q]?=some (.cells c ty fz)) (hf:kZ c fz) (hcap:m≤cap) (hl:cap*2≤c.size)
  (hc:abj w I c 2 m g0) (hlab:yY (kf m g0)=some l) (hn:(l.map (·.1)).Nodup):HoldsK (tF l) 2 w q 0 (l.map (·.1)).toArray:=by
 obtain ⟨h1,h2⟩:=uo m g0 l hlab
 have hsz:(l.map (·.1)).toArray.size=m:=by simp [h1]
 intro t ht
 have ht':t < (l.map (·.1)).toArray.size*2:=by simpa using ht
 rw [get_flatK _ _ _ _ ht',Nat.zero_add]
 rw [hsz] at ht'
 have hi:t / 2 < m:=by omega
 have hil:t / 2 < l.length:=by omega
 have hg:=h2 (t / 2) hi
 rw [List.getElem?_eq_getElem hil] at hg
 have hg:=LZ hg
 have hk1:((l.map (·.1)).toArray)[t / 2]! = l[t / 2].1:=by simp [hil]
 have hv:=sN l hn l[t / 2] (List.getElem_mem hil)
 have hts:t < c.size:=by omega
 refine ⟨?_,(lk hb hf hts).2⟩
 rw [eB hb,hk1]
 unfold tF
 rw [hv]
 have hm:t / 2*2+t % 2=t:=by omega
 rcases (show t % 2=0∨t % 2=1 by omega) with e | e
 ·obtain ⟨v,hv1,hv2⟩:=hc ⟨t / 2,hi⟩ 0 (.v (.string l[t / 2].1)) (by rw [hg];rfl)
  have e2:(⟨t / 2,hi⟩:Fin m).1*2+0=t:=by show t / 2*2+0=t;omega
  rw [e2] at hv1
  rw [hv1,e]
  cases hv2
  rfl
 ·obtain ⟨v,hv1,hv2⟩:=hc ⟨t / 2,hi⟩ 1 (.v (.string l[t / 2].2)) (by rw [hg];rfl)
  have e2:(⟨t / 2,hi⟩:Fin m).1*2+1=t:=by show t / 2*2+1=t;omega
  rw [e2] at hv1
  rw [hv1,e]
  cases hv2
  rfl
theorem xC {l:List (ByteArray × ByteArray)} (hn:(l.map (·.1)).Nodup) {i:Nat} (h:i < (fG l).length) (h':i < ((l.map (·.1)).mergeSort fun x y=>!(ltOf D_) y x).length):(fG l)[i].1=((l.map (·.1)).mergeSort fun x y=>!(ltOf D_) y x)[i]∧(fG l)[i].2=OL l (fG l)[i].1:=by
 refine ⟨?_,(sN l hn _ ((gz l).mem_iff.1 (List.getElem_mem h))).symm⟩
 have e:=FD l
 have:((fG l).map (·.1))[i]'(by rw [List.length_map];exact h)=((l.map (·.1)).mergeSort fun x y=>!(ltOf D_) y x)[i]:=by simp only [e]
 rwa [List.getElem_map] at this
theorem Za:La Vars Tryz.prog 133 WH:=by
 intro sz m g0 x r hF
 unfold WH at hF
 split at hF
 ·rename_i n g f fa fb heq
  simp only [List.cons.injEq,S.t.injEq,T.rows.injEq,and_true] at heq
  obtain ⟨⟨rfl,rfl,hgg⟩,rfl⟩:=heq
  obtain rfl:=eq_of_heq hgg
  obtain ⟨hc1,hF2⟩:=bP hF
  clear hF
  rw [Bool.and_eq_true,Bool.and_eq_true,Bool.and_eq_true] at hc1
  obtain ⟨⟨hf1,hf2,hf3⟩,hm⟩:=hc1
  obtain rfl:f=134:=Nat.eq_of_beq_eq_true hf1
  obtain rfl:fa=#[]:=Array.eq_empty_of_size_eq_zero (Nat.eq_of_beq_eq_true hf2)
  obtain rfl:fb=#[]:=Array.eq_empty_of_size_eq_zero (Nat.eq_of_beq_eq_true hf3)
  have hm:m≤1048576:=by simpa using hm
  split at hF2
  ·rename_i l hlab
   obtain ⟨hc2,hF3⟩:=bP hF2
   clear hF2
   obtain rfl:=Option.some.inj hF3
   have hn:(l.map (·.1)).Nodup:=ky _ hc2
   obtain ⟨h1,_⟩:=uo m g0 l hlab
   have hsl:(fG l).length=m:=by rw [(gz l).length_eq,h1]
   refine ⟨_,E2 (fG l) hsl,fun i=>rfl,?_,?_⟩
   ·intro I w q cap c ty fz vx hI hN hV hb hf hq hcap hl hc hlen hx
    obtain rfl:vx=.func (.func 134) #[] #[]:=by cases hx;rfl
    have hH:=Mx hb hf hcap hl hc hlab hn
    have hblk:q < w.heap.size:=(Array.getElem?_eq_some_iff.1 hb).1
    have eg:∀ args w,(callFunc 134 args).run Tryz.prog w=.ok (.enter 134 args) w:=enters_of Tryz.func134 (by kernel_rfl) rfl
    have hsz:(l.map (·.1)).toArray.size=m:=by simp [h1]
    have hcon:=AnyQ.slices_SortFunc_total Tryz.Dz 2 Tryz.isAgg88 Tryz.sizeOf88 (tF l) (fun _=>rfl) (fun x v hv=>by
     unfold tF at hv
     rcases List.mem_cons.1 hv with rfl | hv
     ·rfl
     ·obtain rfl:=List.mem_singleton.1 hv
      rfl) D_ XX 134 #[] q 0 cap (l.map (·.1)).toArray w eg (fun _ _ _ _ x y=>OZ l x y _) hH hblk (by rw [hsz];omega) XR
    rw [hsz] at hcon
    have hcon2:Calls Tryz.prog 133 #[.slice (some ⟨q,0,none⟩) m cap,.func (.func 134) #[] #[]] w _:=hcon
    refine hcon2.mono ?_
    rintro e w' ⟨rfl,n,os,rfl⟩
    generalize hd:((l.map (·.1)).toArray.toList.mergeSort fun x y=>!(ltOf D_) y x).toArray=d
    have hdl:d.size=m:=by rw [← hd];simp [h1]
    have hold:=holdsK_sortWorldK (tF l) 2 w q 0 n (l.map (·.1)).toArray d os hblk hH (by rw [hdl,hsz])
    refine ⟨rfl,rfl,rfl,rfl,?_,fun k hk hk2=>?_,?_⟩
    ·unfold sortWorldK grow putRowK putRow mapBlock
     show w.heap.size≤(w.heap.modify q _++os).size
     simp
    ·have hig:q≠k:=fun e=>hk e.symm
     unfold sortWorldK grow putRowK putRow mapBlock
     show (w.heap.modify q _++os)[k]?=_
     rw [Array.getElem?_append_left (by simpa using hk2),Array.getElem?_modify,if_neg hig]
    ·have hb':(sortWorldK (tF l) 2 w q 0 n d os).heap[q]?=some (.cells (putCells id 0 (flatK (tF l) 2 d) c) ty fz):=by
      unfold sortWorldK grow putRowK putRow mapBlock
      show (w.heap.modify q _++os)[q]?=_
      rw [Array.getElem?_append_left (by simpa using hblk),Array.getElem?_modify,if_pos rfl,hb]
      rfl
     refine ⟨_,hb',by unfold putCells;simp,fun i k t ht=>?_⟩
     have hil:i.1 < m:=i.2
     have hk2:k < 2:=(List.getElem?_eq_some_iff.1 ht).1
     have hs:=(hold (i.1*2+k) (by simp [hdl];omega)).1
     rw [eB hb',get_flatK _ _ _ _ (by rw [hdl];omega),Nat.zero_add,show (i.1*2+k) / 2=i.1 by omega,show (i.1*2+k) % 2=k by omega] at hs
     have hdi:d[i.1]! = (fG l)[i.1].1:=by
      have hdi2:i.1 < d.size:=by rw [hdl];exact hil
      rw [getElem!_pos d i.1 hdi2]
      subst hd
      have hlen3:i.1 < ((l.map (·.1)).mergeSort fun x y=>!(ltOf D_) y x).length:=by simpa using hdi2
      rw [(xC hn (i:=i.1) (by rw [hsl];exact hil) hlen3).1]
      simp
     rw [hdi] at hs
     refine ⟨_,hs,?_⟩
     have hlen4:i.1 < ((l.map (·.1)).mergeSort fun x y=>!(ltOf D_) y x).length:=by simp [h1,hil]
     have hval:=(xC hn (i:=i.1) (by rw [hsl];exact hil) hlen4).2
     unfold tF
     rw [← hval]
     rcases (show k=0∨k=1 by omega) with rfl | rfl
     ·obtain rfl:=Option.some.inj ht
      exact .v _ rfl
     ·obtain rfl:=Option.some.inj ht
      exact .v _ rfl
   ·rintro rfl I w base vx hV hx
    have h:Calls Tryz.prog 133 #[.slice base 0 0,vx] w _:=AnyF.slices_SortFunc_none Tryz.Dz base 0 vx w
    exact h.mono fun e w' ⟨he,hw⟩=>⟨he,hw ▸ Below.refl _ _⟩
  ·cases hF2
 ·cases hF
end Go.Proofs.YtonkoellfaopiaaGreatDoor.H
namespace Go.Proofs.YtonkoellfaopiaaGreatDoor.H
open Go Go.Proofs Go.RowKit Go.Shelf
section
variable [dq]
theorem aan:X4 J2 Tryz.prog MH:=by
 intro f F hf hlt
 have go:∀ {g:Nat} {G:List S→Option S} {r:Option (List S→Option S)},(bif f.beq g then some G else r)=some F→(f=g∧F=G)∨r=some F:=fun {g G r} h=>by
  cases e:f.beq g with
  | true=>rw [e,cond_true] at h;exact .inl ⟨Nat.eq_of_beq_eq_true e,(Option.some.inj h).symm⟩
  | false=>rw [e,cond_false] at h;exact .inr h
 unfold MH at hf
 rcases go hf with ⟨rfl,rfl⟩ | hf
 ·exact aet
 rcases go hf with ⟨rfl,rfl⟩ | hf
 ·exact abT
 rcases go hf with ⟨rfl,rfl⟩ | hf
 ·exact ac7
 rcases go hf with ⟨rfl,rfl⟩ | hf
 ·exact abL
 rcases go hf with ⟨rfl,rfl⟩ | hf
 ·exact agU
 rcases go hf with ⟨rfl,rfl⟩ | hf
 ·exact afu
 rcases go hf with ⟨rfl,rfl⟩ | hf
 ·exact aea
 rcases go hf with ⟨rfl,rfl⟩ | hf
 ·exact afv
 rcases go hf with ⟨rfl,rfl⟩ | hf
 ·exact absurd hlt (by decide)
 cases hf
theorem YO:∀ f F,MH (2000000+f)=some F→La J2 Tryz.prog f F:=by
 intro f F hf
 have go:∀ {g:Nat} {G:List S→Option S} {r:Option (List S→Option S)},(bif (2000000+f).beq g then some G else r)=some F→(2000000+f=g∧F=G)∨r=some F:=fun {g G r} h=>by
  cases e:(2000000+f).beq g with
  | true=>rw [e,cond_true] at h;exact .inl ⟨Nat.eq_of_beq_eq_true e,(Option.some.inj h).symm⟩
  | false=>rw [e,cond_false] at h;exact .inr h
 unfold MH at hf
 iterate 8
  rcases go hf with ⟨h,_⟩ | hf
  ·exact absurd h (by omega)
 rcases go hf with ⟨h,rfl⟩ | hf
 ·obtain rfl:f=133:=by omega
  intro sz m g0 x r h
  obtain ⟨g',h1,h2,h3,h4⟩:=Za sz m g0 x r h
  exact ⟨g',h1,h2,(fun I w q cap c ty fz vx a1 a2 hv=>h3 I w q cap c ty fz vx a1 a2 hv.1),fun hm I w b vx hv=>h4 hm I w b vx hv.1⟩
 cases hf
noncomputable def adN (p:Nat × List Nat):Bool:=(match ey Tryz.prog 20 p.1 with | some ks=>decide (ks=p.2) | none=>false) && (b_ Tryz.prog p.1 && !Tryz.prog.eqGuardType Tryz.prog.depth p.1)
theorem ah6:M8 Tryz.prog (look aaB):=by
 intro t ks h
 have hm:=mK _ _ _ h
 have ha:aaB.all adN=true:=by kernel_rfl
 have:=List.all_eq_true.1 ha _ hm
 unfold adN at this
 rw [Bool.and_eq_true,Bool.and_eq_true,Bool.not_eq_true'] at this
 obtain ⟨h1,h2,h3⟩:=this
 refine ⟨?_,h2,h3⟩
 split at h1
 ·rename_i ks' e
  rw [e,of_decide_eq_true h1]
 ·cases h1
noncomputable def Ji (f:Nat):Bool:=match Tryz.prog.funcs[f]? with
 | some fn=>!(fn.name == "runtime.NumGoroutine") && (match fn.body with | some c=>fc O.inl c | none=>false)
 | none=>false
theorem VC:((List.range 252).all fun f=>uh [0,1,142,174,206] f || Ji f)=true:=by kernel_rfl
theorem Lp {f:Nat} (h:(f.blt 252 && !uh [0,1,142,174,206] f)=true):Ji f=true:=by
 rw [Bool.and_eq_true,Bool.not_eq_true',Nat.blt_eq] at h
 have:=List.all_eq_true.1 VC f (List.mem_range.2 h.1)
 rw [h.2,Bool.false_or] at this
 exact this
theorem Zq:(DH.all fun p=>p.2.all fun q=>Nat.blt q.1 1000000 || (!Nat.beq q.2.length 5 || decide (q.2=[85,33,3,61,10])))=true:=by kernel_rfl
theorem VK:G6 J2 O where
 vst:=fun w w' h hb=>⟨ir h.1 hb,Nat.le_trans h.2 hb.size⟩
 base:=fun w h=>h.2
 k:=ah6
 fn:=fun f hf=>by
  have:=Lp hf
  unfold Ji at this
  split at this
  ·rename_i fn e
   rw [Bool.and_eq_true,Bool.not_eq_true'] at this
   refine ⟨fn,e,this.1,?_,?_⟩
   ·cases hb:fn.body with
    | none=>rw [hb] at this;cases this.2
    | some c=>rfl
   ·have hf:(f.blt 252 && !uh [0,1,142,174,206] f)=true:=hf
    rw [Bool.and_eq_true,Nat.blt_eq] at hf
    exact Nat.lt_trans hf.1 (by decide)
  ·cases this
 mix:=by kernel_rfl
 code:=fun f fn c hf _ he hb=>by
  have:=Lp hf
  unfold Ji at this
  split at this
  ·rename_i fn' e
   have e2:some fn'=some fn:=e.symm.trans he
   obtain rfl:=Option.some.inj e2
   rw [Bool.and_eq_true,hb] at this
   exact this.2
  ·cases this
 ext:=aan
 inp:=YO
 ov:=fun f fn h=>by cases h
 rf:=fun f r sp h=>by
  obtain rfl:sp=⟨85,33,3,61,10⟩:=by
   unfold oJ at h
   split at h
   ·rename_i g ts fi te fo hl
    obtain rfl:=Option.some.inj h
    obtain ⟨l,h1,h2⟩:=Option.bind_eq_some_iff.1 (show (look DH f).bind (fun l=>look l (1000000+r))=some [g,ts,fi,te,fo] from hl)
    have:=List.all_eq_true.1 (List.all_eq_true.1 Zq _ (mK _ _ _ h1)) _ (mK _ _ _ h2)
    rw [Bool.or_eq_true] at this
    rcases this with h | h
    ·rw [Nat.blt_eq] at h;dsimp only at h;omega
    ·have h:decide ([g,ts,fi,te,fo]=[85,33,3,61,10])=true:=h
     have:=of_decide_eq_true h
     simp only [List.cons.injEq,and_true] at this
     obtain ⟨rfl,rfl,rfl,rfl,rfl⟩:=this
     rfl
   ·cases h
  exact ⟨ad4,fun vs w=>enters_of Tryz.func85 (by kernel_rfl) rfl vs w⟩
theorem pA {f:Nat} {args:List S} {r:S} (h:(W O).aE f args=some r) (I:Nat→Prop) (w:World) (vs:Array Value) (hI:∀ q,I q→q < w.heap.size) (hN:iW I w) (hV:Vars w) (hB:dq.n≤w.heap.size) (ha:bD (Gh.bare I) w args vs.toList) (hlt:f < 2000000:=by decide):Calls Tryz.prog f vs w (vH I w r):=
 (ail VK).t f args r h hlt I w vs hI hN ⟨hV,hB⟩ ha
end
end Go.Proofs.YtonkoellfaopiaaGreatDoor.H
namespace Go.Proofs.YtonkoellfaopiaaGreatDoor.H
open Go Go.Proofs Go.RowKit Go.ChangeShapes Go.WideShapes
inductive Lf where
 | int (k:IntKind)
 | str
 | bool
 | row (sz B:Nat) (l:List Lf)
def nr (F:TypeId→Option (List Lf)) (P:Program) (total:Nat):Nat→List (Nat × TypeId)→Option (List Lf)
 | o,[]=>bif o.beq total then some [] else none
 | o,p::r=>bif p.1.beq o then (F p.2).bind fun l=>(nr F P total (o+P.cellsOf p.2) r).map (l++·) else none
def leaves (P:Program):Nat→TypeId→Option (List Lf)
 | 0,_=>none
 | d+1,t=>match P.underlying t with
  | some (.int k)=>some [.int k]
  | some .bool=>some [.bool]
  | some .string=>some [.str]
  | some (.slice e)=>bif (P.cellsOf e).beq 0 then none else (leaves P d e).map fun l=>[.row (P.cellsOf e) (P.bytesOf e) l]
  | some (.array n e)=>nr (leaves P d) P (P.cellsOf t) 0 ((List.range n).map fun i=>(i*P.cellsOf e,e))
  | some (.struct fs)=>nr (leaves P d) P (P.cellsOf t) 0 (fs.toList.map fun f=>(f.offset,f.type))
  | _=>none
inductive ik {α β:Type} (R:α→β→Prop):List α→List β→Prop
 | nil:ik R [] []
 | cons {a:α} {b:β} {l:List α} {m:List β}:R a b→ik R l m→ik R (a::l) (b::m)
inductive Ok:Lf→T→Prop
 | int {k:IntKind} (n:Int) (h:(Lit.int k n).wf=true):Ok (.int k) (.v (.int k n))
 | str (s:ByteArray) (h:s.size≤140737488351232):Ok .str (.v (.string s))
 | bool (b:Bool):Ok .bool (.v (.bool b))
 | row {sz B n:Nat} {l:List Lf} {g:Fin n→List T} (h:n*B≤140737488351232) (hg:∀ i,ik Ok l (g i)):Ok (.row sz B l) (.rows sz n g)
def mem (w:World) (q:Nat):Prop:=∃ o,w.heap[q]?=some o∧CS o=false
theorem Ag {w:World} (q:Nat) (h:mem w q):q < w.heap.size:=let ⟨_,h,_⟩:=h;(Array.getElem?_eq_some_iff.1 h).1
theorem TE {w:World}:iW (mem w) w:=fun r o ⟨o',h,hl⟩ ho=>by rw [h] at ho;cases ho;exact hl
theorem OX {w:World} {a:Addr} {v:Value} (h:w.cell? a=some v):mem w a.block∧a.spot=none:=by
 unfold World.cell? at h
 split at h
 ·rename_i c t f hb
  refine ⟨⟨_,hb,rfl⟩,?_⟩
  cases hs:a.spot with
  | none=>rfl
  | some x=>rw [hs] at h;simp at h
 ·cases h
variable [dq]
theorem TL.app {w:World} {I:Nat→Prop} {ts ts':List T} {vs vs':List Value} (h:TL w I ts vs) (h':TL w I ts' vs'):TL w I (ts++ts') (vs++vs'):=by
 refine ⟨by simp [h.1,h'.1],fun k t v h1 h2=>?_⟩
 by_cases hk:k < ts.length
 ·rw [List.getElem?_append_left hk] at h1
  rw [List.getElem?_append_left (by rw [← h.1];exact hk)] at h2
  exact h.2 k t v h1 h2
 ·rw [List.getElem?_append_right (by omega)] at h1
  rw [List.getElem?_append_right (by rw [← h.1];omega),← h.1] at h2
  exact h'.2 _ t v h1 h2
theorem Cc {α β:Type} {R:α→β→Prop}:∀ {a b:List α} {c d:List β},ik R a c→ik R b d→ik R (a++b) (c++d)
 | _,_,_,_,.nil,h=>h
 | _,_,_,_,.cons h1 h2,h=>.cons h1 (Cc h2 h)
theorem mh {P:Program} {H:Type} {e:TypeId}:∀ {l:List (DataW H)} {d:DataW H},d∈l→∀ n∈DataW.weights P e d,n∈DataW.weightsAll P e l
 | y::r,d,hd,n,hn=>by
  simp only [DataW.weightsAll,List.mem_append]
  rcases List.mem_cons.1 hd with rfl | hd
  ·exact .inl hn
  ·exact .inr (mh hd n hn)
section
variable {H:Type} {enc:TypeId × Value→H} {P:Program} {w:World} {base:Nat} {sp:Nat→Bool} {held:Bool}
def afX (enc:TypeId × Value→H) (P:Program) (w:World) (base:Nat) (sp:Nat→Bool) (held:Bool) (t:TypeId) (l:List Lf):Prop:=
 ∀ (fuel:Nat) (cs:List Value) (x:DataW H × List MemPlace),DataW.trod enc P w base sp held fuel t cs=some x→(∀ n∈DataW.weights P t x.1,n≤reachBytes)→∃ ts,ik Ok l ts∧TL w (mem w) ts cs
theorem mo {F:TypeId→Option (List Lf)} (hF:∀ t l,F t=some l→afX enc P w base sp held t l) {cs:List Value} {m:Nat}:∀ (ps:List (Nat × TypeId)) (o:Nat) (l:List Lf) (xs:List (DataW H × List MemPlace)),
  nr F P cs.length o ps=some l→(∀ (i:Nat) (p:Nat × TypeId),ps[i]?=some p→∃ x,xs[i]?=some x∧DataW.trod enc P w base sp held m p.2 ((cs.drop p.1).take (P.cellsOf p.2))=some x∧∀ n∈DataW.weights P p.2 x.1,n≤reachBytes)→
  ∃ ts,ik Ok l ts∧TL w (mem w) ts (cs.drop o)
 | [],o,l,xs,h,_=>by
  unfold nr at h
  obtain ⟨h1,h⟩:=bP h
  obtain rfl:=Option.some.inj h
  obtain rfl:=Nat.eq_of_beq_eq_true h1
  refine ⟨[],.nil,?_⟩
  rw [List.drop_length]
  exact .nil
 | p::r,o,l,xs,h,hx=>by
  unfold nr at h
  obtain ⟨h1,h⟩:=bP h
  obtain ⟨l1,hl1,h⟩:=Option.bind_eq_some_iff.1 h
  obtain ⟨l2,hl2,rfl⟩:=Option.map_eq_some_iff.1 h
  obtain rfl:=Nat.eq_of_beq_eq_true h1
  obtain ⟨x,_,htr,hw⟩:=hx 0 p rfl
  obtain ⟨ts1,q1,q2⟩:=hF _ _ hl1 m _ x htr hw
  obtain ⟨ts2,q3,q4⟩:=mo hF r (p.1+P.cellsOf p.2) l2 xs.tail hl2 (fun i q hq=>by
   obtain ⟨x,h1,h2⟩:=hx (i+1) q (by simpa using hq)
   exact ⟨x,by rw [List.getElem?_tail];exact h1,h2⟩)
  refine ⟨ts1++ts2,Cc q1 q3,?_⟩
  have:=q2.app q4
  rwa [← List.drop_drop,List.take_append_drop] at this
theorem j8:∀ (d:Nat) (t:TypeId) (l:List Lf),leaves P d t=some l→afX enc P w base sp held t l
 | 0,t,l,h=>by unfold leaves at h;cases h
 | d+1,t,l,h=>fun fuel cs x hx hw=>by
  unfold leaves at h
  split at h
  ·rename_i k ht
   obtain rfl:=Option.some.inj h
   obtain ⟨n,rfl,rfl,hwf⟩:=DataW.trod_int ht hx
   exact ⟨_,.cons (.int n hwf) .nil,TL.nil.cons (.v _ rfl)⟩
  ·rename_i ht
   obtain rfl:=Option.some.inj h
   obtain ⟨n,rfl,rfl⟩:=DataW.trod_bool ht hx
   exact ⟨_,.cons (.bool n) .nil,TL.nil.cons (.v _ rfl)⟩
  ·rename_i ht
   obtain rfl:=Option.some.inj h
   obtain ⟨s,rfl,rfl,hs⟩:=DataW.trod_string ht hx
   refine ⟨_,.cons (.str s ?_) .nil,TL.nil.cons (.v _ rfl)⟩
   have:=hw s.data.toList.length (by simp [DataW.weights])
   have h2:reachBytes=140737488351232:=rfl
   rw [h2] at this
   simpa using this
  ·rename_i e ht
   cases hz:(P.cellsOf e).beq 0 with
   | true=>rw [hz] at h;cases h
   | false=>
    rw [hz,cond_false] at h
    obtain ⟨le,hle,rfl⟩:=Option.map_eq_some_iff.1 h
    have hz0:P.cellsOf e≠0:=fun e0=>by rw [e0] at hz;cases hz
    rcases DataW.trod_slice ht hx with ⟨rfl,rfl⟩ | ⟨a,len,cap,elems,rest,n,_,rfl,rfl,hb,hl,hm,hlen,hel,_,_⟩
    ·exact ⟨[.rows (P.cellsOf e) 0 fun i=>i.elim0],.cons (.row (by simp) (fun i=>i.elim0)) .nil,TL.nil.cons (.rows _ 0 _ none 0 (fun i=>i.elim0) (Nat.le_refl _) (fun i=>i.elim0) (fun h=>absurd rfl h) (fun i=>i.elim0))⟩
    ·have hev:∀ i,i < len→∃ (ts:List T) (c:List Value),w.cells? base (a.add (i*P.cellsOf e)) (P.cellsOf e)=some c∧ik Ok le ts∧TL w (mem w) ts c:=by
      intro i hi
      have h1:=hel i hi
      have hy:elems[i]?=some (elems[i]'(by omega)):=List.getElem?_eq_getElem (by omega)
      rw [hy] at h1
      obtain ⟨c,hc,htr⟩:=Option.bind_eq_some_iff.1 h1
      obtain ⟨ts,q1,q2⟩:=j8 d e le hle _ _ _ htr (fun n hn=>hw n (by
       have hmem:(elems[i]'(by omega)).1∈elems.map (·.1):=List.mem_map.2 ⟨_,List.getElem_mem _,rfl⟩
       simp only [DataW.weights,ht,List.mem_cons,List.mem_append]
       exact .inr (.inl (mh hmem n hn))))
      exact ⟨ts,c,hc,q1,q2⟩
     obtain ⟨f,hf⟩:=Classical.axiomOfChoice (fun i:Fin len=>hev i.1 i.2)
     obtain ⟨cs,hcs⟩:=Classical.axiomOfChoice hf
     have cell:∀ (i:Fin len) (k:Nat) (t:T),(f i)[k]?=some t→∃ v,(cs i)[k]?=some v∧w.cell? ((a.add (i.1*P.cellsOf e)).add k)=some v∧dH w (mem w) t v:=by
      intro i k t hk
      obtain ⟨hc,_,hT⟩:=hcs i
      obtain ⟨_,hcl,hcc⟩:=World.cells?_some hc
      have hk1:k < (cs i).length:=by rw [← hT.1];exact (List.getElem?_eq_some_iff.1 hk).1
      have hv:=List.getElem?_eq_getElem hk1
      exact ⟨_,hv,by rw [hcc k (by rw [← hcl];exact hk1)];exact hv,hT.2 k t _ hk hv⟩
     have hlenf:∀ i,(f i).length=P.cellsOf e:=fun i=>by
      obtain ⟨hc,_,hT⟩:=hcs i
      rw [hT.1];exact (World.cells?_some hc).2.1
     have hwt:len*P.bytesOf e≤140737488351232:=by
      have:=hw ((elems.length+rest.length)*P.bytesOf e) (by simp [DataW.weights,ht])
      have h2:reachBytes=140737488351232:=rfl
      rw [h2] at this
      rw [← hlen]
      exact Nat.le_trans (Nat.mul_le_mul_right _ (Nat.le_add_right _ _)) this
     refine ⟨[.rows (P.cellsOf e) len f],.cons (.row hwt (fun i=>(hcs i).2.1)) .nil,TL.nil.cons (.rows _ len f (some a) cap (fun i k=>((cs i)[k]?).getD undef) hl hlenf (fun hn=>?_) (fun i k t hk=>?_))⟩
     ·have hp:0 < len:=by omega
      have hl0:0 < (f ⟨0,hp⟩).length:=by rw [hlenf];omega
      obtain ⟨t0,h0⟩:∃ t0,(f ⟨0,hp⟩)[0]?=some t0:=⟨_,List.getElem?_eq_getElem hl0⟩
      obtain ⟨v0,_,hc0,_⟩:=cell ⟨0,by omega⟩ 0 t0 h0
      have hm:=OX hc0
      obtain ⟨ab,ao,asp⟩:=a
      obtain rfl:asp=none:=by simpa [Addr.add] using hm.2
      simp only [addr_add] at hm
      refine ⟨ab,ao,rfl,hm.1,fun i k t hk=>?_⟩
      obtain ⟨v,h1,h2,_⟩:=cell i k t hk
      rw [h1]
      rw [addr_add,addr_add] at h2
      exact h2
     ·obtain ⟨v,h1,_,h3⟩:=cell i k t hk
      rw [h1];exact h3
  ·rename_i n e ht
   obtain ⟨xs,m,_,rfl,hl,hlen,hf⟩:=DataW.trod_array ht hx
   rw [← hl] at h
   have:=mo (enc:=enc) (w:=w) (base:=base) (sp:=sp) (held:=held) (m:=m) (j8 d) _ 0 l xs h (fun i p hp=>by
    rw [List.getElem?_map] at hp
    obtain ⟨j,hj,rfl⟩:=Option.map_eq_some_iff.1 hp
    obtain ⟨hi,rfl⟩:=List.getElem?_eq_some_iff.1 hj
    have hi:i < n:=by simpa using hi
    rw [List.getElem_range]
    refine ⟨xs[i]'(by omega),List.getElem?_eq_getElem (by omega),by rw [hf i hi];exact List.getElem?_eq_getElem (by omega),fun k hk=>hw k ?_⟩
    simp only [DataW.weights,ht]
    exact mh (List.mem_map.2 ⟨_,List.getElem_mem _,rfl⟩) k hk)
   simpa using this
  ·rename_i fs ht
   obtain ⟨xs,m,_,rfl,hl,hlen,hf⟩:=DataW.trod_struct ht hx
   rw [← hl] at h
   have:=mo (enc:=enc) (w:=w) (base:=base) (sp:=sp) (held:=held) (m:=m) (j8 d) _ 0 l xs h (fun i p hp=>by
    rw [List.getElem?_map] at hp
    obtain ⟨fd,hj,rfl⟩:=Option.map_eq_some_iff.1 hp
    have hi:i < fs.size:=by have:=(List.getElem?_eq_some_iff.1 hj).1;simpa using this
    refine ⟨xs[i]'(by omega),List.getElem?_eq_getElem (by omega),by rw [hf i fd (by rw [← Array.getElem?_toList];exact hj)];exact List.getElem?_eq_getElem (by omega),fun k hk=>hw k ?_⟩
    simp only [DataW.weights,ht]
    exact DataW.weights_mem_each (j:=i) (by rw [List.getElem?_map,hj];rfl) (by rw [List.getElem?_map,List.getElem?_eq_getElem (by omega)];rfl) k hk)
   simpa using this
  ·cases h
end
end Go.Proofs.YtonkoellfaopiaaGreatDoor.H
namespace Go.Proofs.YtonkoellfaopiaaGreatDoor.H
open Go
theorem dF {s:ByteArray} (h:s.size≤140737488351232):sm (aM s):=by unfold sm aM;omega
theorem er {α:Type} [Inhabited α] {e:α→List T} {p:α→Prop} {l:List Lf} (H:∀ ts,ik Ok l ts→∃ a,e a=ts∧p a) {sz B n:Nat} (hB:1≤B) {g:Fin n→List T} (hb:n*B≤140737488351232) (hg:∀ i,ik Ok l (g i)):
  ∃ r:Rw α,T.rows sz r.n (fun i=>e (r.get i))=T.rows sz n g∧ga p r:=by
 obtain ⟨f,hf⟩:=Classical.axiomOfChoice (fun i=>H _ (hg i))
 refine ⟨⟨n,f⟩,?_,?_,fun j hj=>?_⟩
 ·show T.rows sz n (fun i=>e (f i))=_
  rw [show (fun i=>e (f i))=g from funext fun i=>(hf i).1]
 ·show n≤_
  have:=Nat.mul_le_mul_left n hB
  omega
 ·have hj':j < n:=hj
  have:(⟨n,f⟩:Rw α).at j=f ⟨j,hj'⟩:=by unfold Rw.at;rw [dif_pos hj]
  rw [this];exact (hf _).2
def sh9:List Lf:=[.str]
theorem op9 (ts:List T) (h:ik Ok sh9 ts):∃ a,e9 a=ts∧sm (aM a):=by
 cases h with | cons h1 h=>
 cases h with | nil=>
 cases h1 with | str s hs=>
 exact ⟨s,rfl,dF hs⟩
def abJ:List Lf:=[.str,.str]
theorem afM (ts:List T) (h:ik Ok abJ ts):∃ a:ch,dv a=ts∧yn a:=by
 cases h with | cons h0 h=>
 cases h with | cons h1 h=>
 cases h with | nil=>
 cases h0 with | str s0 q0=>
 cases h1 with | str s1 q1=>
 refine ⟨⟨s0,s1⟩,?_,dF q0,dF q1⟩
 rfl
def Ys:List Lf:=[.str,.str,.int .i64,.bool]
theorem aga (ts:List T) (h:ik Ok Ys ts):∃ a:bK,cL a=ts∧C7 a:=by
 cases h with | cons h0 h=>
 cases h with | cons h1 h=>
 cases h with | cons h2 h=>
 cases h with | cons h3 h=>
 cases h with | nil=>
 cases h0 with | str s0 q0=>
 cases h1 with | str s1 q1=>
 cases h2 with | int s2 q2=>
 cases h3 with | bool s3=>
 refine ⟨⟨s0,s1,s2,s3⟩,?_,dF q0,dF q1⟩
 rfl
def Ya:List Lf:=[.str,.int .i64,.int .i64,.int .i64,.int .i64,.row 2 32 abJ,.row 4 48 Ys]
theorem aeX (ts:List T) (h:ik Ok Ya ts):∃ a:aV,bk a=ts∧eQ a:=by
 cases h with | cons h0 h=>
 cases h with | cons h1 h=>
 cases h with | cons h2 h=>
 cases h with | cons h3 h=>
 cases h with | cons h4 h=>
 cases h with | cons h5 h=>
 cases h with | cons h6 h=>
 cases h with | nil=>
 cases h0 with | str s0 q0=>
 cases h1 with | int s1 q1=>
 cases h2 with | int s2 q2=>
 cases h3 with | int s3 q3=>
 cases h4 with | int s4 q4=>
 cases h5 with | row b5 g5=>
 obtain ⟨s5,e5,q5⟩:=er (sz:=2) (p:=yn) afM (by decide) b5 g5
 cases h6 with | row b6 g6=>
 obtain ⟨s6,e6,q6⟩:=er (sz:=4) (p:=C7) aga (by decide) b6 g6
 refine ⟨⟨s0,s1,s2,s3,s4,s5,s6⟩,?_,dF q0,q5,q6⟩
 simp only [bk,e5,e6]
def ZA:List Lf:=[.str,.int .i64,.row 1 16 sh9,.int .i64]
theorem aen (ts:List T) (h:ik Ok ZA ts):∃ a:dC,eL a=ts∧ou a:=by
 cases h with | cons h0 h=>
 cases h with | cons h1 h=>
 cases h with | cons h2 h=>
 cases h with | cons h3 h=>
 cases h with | nil=>
 cases h0 with | str s0 q0=>
 cases h1 with | int s1 q1=>
 cases h2 with | row b2 g2=>
 obtain ⟨s2,e2,q2⟩:=er (sz:=1) (p:=(fun x:ByteArray=>sm (aM x))) op9 (by decide) b2 g2
 cases h3 with | int s3 q3=>
 refine ⟨⟨s0,s1,s2,s3⟩,?_,dF q0,q2⟩
 simp only [eL,e2]
def Yi:List Lf:=[.str,.str,.bool]
theorem adI (ts:List T) (h:ik Ok Yi ts):∃ a:bT,cZ a=ts∧D1 a:=by
 cases h with | cons h0 h=>
 cases h with | cons h1 h=>
 cases h with | cons h2 h=>
 cases h with | nil=>
 cases h0 with | str s0 q0=>
 cases h1 with | str s1 q1=>
 cases h2 with | bool s2=>
 refine ⟨⟨s0,s1,s2⟩,?_,dF q0,dF q1⟩
 rfl
def ahb:List Lf:=[.str,.str,.int .i64]
theorem ai1 (ts:List T) (h:ik Ok ahb ts):∃ a:D70,e70 a=ts∧Vi a:=by
 cases h with | cons h0 h=>
 cases h with | cons h1 h=>
 cases h with | cons h2 h=>
 cases h with | nil=>
 cases h0 with | str s0 q0=>
 cases h1 with | str s1 q1=>
 cases h2 with | int s2 q2=>
 refine ⟨⟨s0,s1,s2⟩,?_,dF q0,dF q1⟩
 rfl
def QK:List Lf:=[.str,.str]
theorem XE (ts:List T) (h:ik Ok QK ts):∃ a:ma,iA a=ts∧rK a:=by
 cases h with | cons h0 h=>
 cases h with | cons h1 h=>
 cases h with | nil=>
 cases h0 with | str s0 q0=>
 cases h1 with | str s1 q1=>
 refine ⟨⟨s0,s1⟩,?_,dF q0,dF q1⟩
 rfl
def afD:List Lf:=[.str,.str,.int .i64,.int .i64,.int .i64,.row 4 56 ZA,.row 3 40 Yi,.row 3 40 ahb,.row 2 32 QK,.row 2 32 QK,.int .i64,.str]
theorem ahN (ts:List T) (h:ik Ok afD ts):∃ a:fB,jv a=ts∧LV a:=by
 cases h with | cons h0 h=>
 cases h with | cons h1 h=>
 cases h with | cons h2 h=>
 cases h with | cons h3 h=>
 cases h with | cons h4 h=>
 cases h with | cons h5 h=>
 cases h with | cons h6 h=>
 cases h with | cons h7 h=>
 cases h with | cons h8 h=>
 cases h with | cons h9 h=>
 cases h with | cons vC h=>
 cases h with | cons h11 h=>
 cases h with | nil=>
 cases h0 with | str s0 q0=>
 cases h1 with | str s1 q1=>
 cases h2 with | int s2 q2=>
 cases h3 with | int s3 q3=>
 cases h4 with | int s4 q4=>
 cases h5 with | row b5 g5=>
 obtain ⟨s5,e5,q5⟩:=er (sz:=4) (p:=ou) aen (by decide) b5 g5
 cases h6 with | row b6 g6=>
 obtain ⟨s6,e6,q6⟩:=er (sz:=3) (p:=D1) adI (by decide) b6 g6
 cases h7 with | row b7 g7=>
 obtain ⟨s7,e7,q7⟩:=er (sz:=3) (p:=Vi) ai1 (by decide) b7 g7
 cases h8 with | row b8 g8=>
 obtain ⟨s8,e8,q8⟩:=er (sz:=2) (p:=rK) XE (by decide) b8 g8
 cases h9 with | row b9 g9=>
 obtain ⟨s9,e9,q9⟩:=er (sz:=2) (p:=rK) XE (by decide) b9 g9
 cases vC with | int s10 q10=>
 cases h11 with | str s11 q11=>
 refine ⟨⟨s0,s1,s2,s3,s4,s5,s6,s7,s8,s9,s10,s11⟩,?_,dF q0,dF q1,q5,q6,q7,q8,q9,dF q11⟩
 simp only [jv,e5,e6,e7,e8,e9]
def ad3:List Lf:=[.str,.int .i64,.int .i64,.int .i64,.row 4 56 ZA,.row 2 32 abJ,.int .i64,.int .i64,.int .i64,.int .i64]
theorem aj0 (ts:List T) (h:ik Ok ad3 ts):∃ a:fU,jd a=ts∧ML a:=by
 cases h with | cons h0 h=>
 cases h with | cons h1 h=>
 cases h with | cons h2 h=>
 cases h with | cons h3 h=>
 cases h with | cons h4 h=>
 cases h with | cons h5 h=>
 cases h with | cons h6 h=>
 cases h with | cons h7 h=>
 cases h with | cons h8 h=>
 cases h with | cons h9 h=>
 cases h with | nil=>
 cases h0 with | str s0 q0=>
 cases h1 with | int s1 q1=>
 cases h2 with | int s2 q2=>
 cases h3 with | int s3 q3=>
 cases h4 with | row b4 g4=>
 obtain ⟨s4,e4,q4⟩:=er (sz:=4) (p:=ou) aen (by decide) b4 g4
 cases h5 with | row b5 g5=>
 obtain ⟨s5,e5,q5⟩:=er (sz:=2) (p:=yn) afM (by decide) b5 g5
 cases h6 with | int s6 q6=>
 cases h7 with | int s7 q7=>
 cases h8 with | int s8 q8=>
 cases h9 with | int s9 q9=>
 refine ⟨⟨s0,s1,s2,s3,s4,s5,s6,s7,s8,s9⟩,?_,dF q0,q4,q5⟩
 simp only [jd,e4,e5]
def YW:List Lf:=[.str,.str,.str]
theorem afd (ts:List T) (h:ik Ok YW ts):∃ a:bu,bS a=ts∧qg a:=by
 cases h with | cons h0 h=>
 cases h with | cons h1 h=>
 cases h with | cons h2 h=>
 cases h with | nil=>
 cases h0 with | str s0 q0=>
 cases h1 with | str s1 q1=>
 cases h2 with | str s2 q2=>
 refine ⟨⟨s0,s1,s2⟩,?_,dF q0,dF q1,dF q2⟩
 rfl
def afY:List Lf:=[.str,.str,.int .i64,.str,.str,.str,.int .i64,.int .i64,.int .i64,.row 3 48 YW,.int .i64,.str,.int .i64,.int .i64,.bool]
theorem ajp (ts:List T) (h:ik Ok afY ts):∃ a:cQ,dp a=ts∧Cb a:=by
 cases h with | cons h0 h=>
 cases h with | cons h1 h=>
 cases h with | cons h2 h=>
 cases h with | cons h3 h=>
 cases h with | cons h4 h=>
 cases h with | cons h5 h=>
 cases h with | cons h6 h=>
 cases h with | cons h7 h=>
 cases h with | cons h8 h=>
 cases h with | cons h9 h=>
 cases h with | cons vC h=>
 cases h with | cons h11 h=>
 cases h with | cons M6 h=>
 cases h with | cons h13 h=>
 cases h with | cons h14 h=>
 cases h with | nil=>
 cases h0 with | str s0 q0=>
 cases h1 with | str s1 q1=>
 cases h2 with | int s2 q2=>
 cases h3 with | str s3 q3=>
 cases h4 with | str s4 q4=>
 cases h5 with | str s5 q5=>
 cases h6 with | int s6 q6=>
 cases h7 with | int s7 q7=>
 cases h8 with | int s8 q8=>
 cases h9 with | row b9 g9=>
 obtain ⟨s9,e9,q9⟩:=er (sz:=3) (p:=qg) afd (by decide) b9 g9
 cases vC with | int s10 q10=>
 cases h11 with | str s11 q11=>
 cases M6 with | int s12 q12=>
 cases h13 with | int s13 q13=>
 cases h14 with | bool s14=>
 refine ⟨⟨s0,s1,s2,s3,s4,s5,s6,s7,s8,s9,s10,s11,s12,s13,s14⟩,?_,dF q0,dF q1,dF q3,dF q4,dF q5,q9⟩
 simp only [dp,e9]
def Xo:List Lf:=[.int .i64,.row 1 16 sh9,.int .i64,.int .i64,.str,.str,.row 3 48 YW,.bool]
theorem afN (ts:List T) (h:ik Ok Xo ts):∃ a:cO,eN a=ts∧wT a:=by
 cases h with | cons h0 h=>
 cases h with | cons h1 h=>
 cases h with | cons h2 h=>
 cases h with | cons h3 h=>
 cases h with | cons h4 h=>
 cases h with | cons h5 h=>
 cases h with | cons h6 h=>
 cases h with | cons h7 h=>
 cases h with | nil=>
 cases h0 with | int s0 q0=>
 cases h1 with | row b1 g1=>
 obtain ⟨s1,e1,q1⟩:=er (sz:=1) (p:=(fun x:ByteArray=>sm (aM x))) op9 (by decide) b1 g1
 cases h2 with | int s2 q2=>
 cases h3 with | int s3 q3=>
 cases h4 with | str s4 q4=>
 cases h5 with | str s5 q5=>
 cases h6 with | row b6 g6=>
 obtain ⟨s6,e6,q6⟩:=er (sz:=3) (p:=qg) afd (by decide) b6 g6
 cases h7 with | bool s7=>
 refine ⟨⟨s0,s1,s2,s3,s4,s5,s6,s7⟩,?_,q1,dF q4,dF q5,q6⟩
 simp only [eN,e1,e6]
def Yd:List Lf:=[.str,.str,.str,.int .i64]
theorem agY (ts:List T) (h:ik Ok Yd ts):∃ a:vR,qB a=ts∧Rl a:=by
 cases h with | cons h0 h=>
 cases h with | cons h1 h=>
 cases h with | cons h2 h=>
 cases h with | cons h3 h=>
 cases h with | nil=>
 cases h0 with | str s0 q0=>
 cases h1 with | str s1 q1=>
 cases h2 with | str s2 q2=>
 cases h3 with | int s3 q3=>
 refine ⟨⟨s0,s1,s2,s3⟩,?_,dF q0,dF q1,dF q2⟩
 rfl
def adu:List Lf:=[.str,.str,.str,.str,.str,.int .i64,.int .i64]
theorem ahU (ts:List T) (h:ik Ok adu ts):∃ a:gO,kQ a=ts∧Ud a:=by
 cases h with | cons h0 h=>
 cases h with | cons h1 h=>
 cases h with | cons h2 h=>
 cases h with | cons h3 h=>
 cases h with | cons h4 h=>
 cases h with | cons h5 h=>
 cases h with | cons h6 h=>
 cases h with | nil=>
 cases h0 with | str s0 q0=>
 cases h1 with | str s1 q1=>
 cases h2 with | str s2 q2=>
 cases h3 with | str s3 q3=>
 cases h4 with | str s4 q4=>
 cases h5 with | int s5 q5=>
 cases h6 with | int s6 q6=>
 refine ⟨⟨s0,s1,s2,s3,s4,s5,s6⟩,?_,dF q1,dF q2,dF q3,dF q4⟩
 rfl
def YZ:List Lf:=[.int .i64,.int .i64,.int .i64,.int .i64,.int .i64,.int .i64,.row 7 96 Ya,.row 12 200 afD,.row 10 120 ad3,.row 15 184 afY,.row 8 112 Xo,.row 4 56 Yd,.row 7 96 adu,.row 1 16 sh9]
theorem aj3 (ts:List T) (h:ik Ok YZ ts):∃ a:aP,bI a=ts∧vL a:=by
 cases h with | cons h0 h=>
 cases h with | cons h1 h=>
 cases h with | cons h2 h=>
 cases h with | cons h3 h=>
 cases h with | cons h4 h=>
 cases h with | cons h5 h=>
 cases h with | cons h6 h=>
 cases h with | cons h7 h=>
 cases h with | cons h8 h=>
 cases h with | cons h9 h=>
 cases h with | cons vC h=>
 cases h with | cons h11 h=>
 cases h with | cons M6 h=>
 cases h with | cons h13 h=>
 cases h with | nil=>
 cases h0 with | int s0 q0=>
 cases h1 with | int s1 q1=>
 cases h2 with | int s2 q2=>
 cases h3 with | int s3 q3=>
 cases h4 with | int s4 q4=>
 cases h5 with | int s5 q5=>
 cases h6 with | row b6 g6=>
 obtain ⟨s6,e6,q6⟩:=er (sz:=7) (p:=eQ) aeX (by decide) b6 g6
 cases h7 with | row b7 g7=>
 obtain ⟨s7,e7,q7⟩:=er (sz:=12) (p:=LV) ahN (by decide) b7 g7
 cases h8 with | row b8 g8=>
 obtain ⟨s8,e8,q8⟩:=er (sz:=10) (p:=ML) aj0 (by decide) b8 g8
 cases h9 with | row b9 g9=>
 obtain ⟨s9,e9,q9⟩:=er (sz:=15) (p:=Cb) ajp (by decide) b9 g9
 cases vC with | row b10 g10=>
 obtain ⟨s10,e10,q10⟩:=er (sz:=8) (p:=wT) afN (by decide) b10 g10
 cases h11 with | row b11 g11=>
 obtain ⟨s11,e11,q11⟩:=er (sz:=4) (p:=Rl) agY (by decide) b11 g11
 cases M6 with | row b12 g12=>
 obtain ⟨s12,e12,q12⟩:=er (sz:=7) (p:=Ud) ahU (by decide) b12 g12
 cases h13 with | row b13 g13=>
 obtain ⟨s13,e13,q13⟩:=er (sz:=1) (p:=(fun x:ByteArray=>sm (aM x))) op9 (by decide) b13 g13
 refine ⟨⟨s0,s1,s2,s3,s4,s5,s6,s7,s8,s9,s10,s11,s12,s13⟩,?_,q6,q7,q8,q9,q10,q11,q12⟩
 simp only [bI,e6,e7,e8,e9,e10,e11,e12,e13]
theorem SC:leaves Tryz.prog 9 33=some YZ:=by kernel_rfl
end Go.Proofs.YtonkoellfaopiaaGreatDoor.H
namespace Go.Proofs.YtonkoellfaopiaaGreatDoor.H
open Go Go.Proofs Go.RowKit
theorem xd {w:World}:laidMetH Tryz.prog Rows.viewChecksRow.laid w↔laidMet Tryz.prog Rows.viewChecksRow.laid w:=by
 have e:(Rows.viewChecksRow.laid.filter fun x=>x.2.handleName?.isSome)=[]:=by kernel_rfl
 unfold laidMetH
 rw [e]
def El:ByteArray:={ data:=#[105,110,118,97,108,105,100,32,115,121,110,116,97,120] }
def M0:ByteArray:={ data:=#[118,97,108,117,101,32,111,117,116,32,111,102,32,114,97,110,103,101] }
noncomputable def low:Nat:=(World.holding Tryz.prog default ⟨#[],#[],[]⟩).heap.size
def mQ (c:Array Value):Obj→Obj
 | .cells _ t frozen=>.cells c t frozen
 | o=>o
def uW:DataW Unit→Array Value
 | .agg l=>(l.filterMap fun | .lit (.int k n)=>some (.int k n) | _=>none).toArray
 | _=>#[]
noncomputable def qs (os:Os):World:=
 let w0:=World.holding Tryz.prog os ⟨#[.cells #[.string El] 271,.cells #[.string M0] 271],#[],[]⟩
 { w0 with heap:=((((w0.heap.modify 1 (mQ #[.iface 269 (.pointer (some ⟨low,0,none⟩))])).modify 2 (mQ #[.iface 269 (.pointer (some ⟨low+1,0,none⟩))])).modify 3
   (mQ (uW Rows.laid_internal_strconv_uint64pow10))).modify 4 (mQ (uW Rows.laid_math_bits_deBruijn32tab))).modify 5 (mQ (uW Rows.laid_math_bits_deBruijn64tab)) }
set_option maxRecDepth 100000 in
theorem TJ (os:Os) (args:Array Value):laidMet Tryz.prog Rows.viewChecksRow.laid ((qs os).forCall (fun _ _=>0) ⟨#[],args,[]⟩).memory:=
 laidMet_of_run' 8 (by kernel_rfl) (by kernel_rfl)
theorem Mn (os:Os) (args:Array Value):laidMetH Tryz.prog Rows.viewChecksRow.laid ((qs os).forCall (fun _ _=>0) ⟨#[],args,[]⟩).memory:=
 xd.2 (TJ os args)
theorem ju {P:Program} {W:World}:∀ {x:String × DataW Unit} {rest:List (String × DataW Unit)},laidMet P (x::rest) W→laidMet P rest W
 | (n,d),rest,⟨ps,⟨g,t,cs,fuel,p,q,_,_,_,_,hr,hp⟩,hn,hc⟩=>by
  subst hp
  exact ⟨q,hr,(List.nodup_append.1 hn).2.1,fun b off hb=>hc b off (List.mem_append_right _ hb)⟩
theorem iface_of_trod {H:Type} {enc:TypeId × Value→H} {P:Program} {w:World} {base:Nat} {sp:Nat→Bool} {held:Bool} {fuel:Nat} {t:TypeId} {m:_} {cs:List Value} {s:String} {d:DataW H} {p:List MemPlace}
  (ht:P.underlying t=some (.interface m)) (h:DataW.trod enc P w base sp held fuel t cs=some (.iface s d,p)):∃ u v,cs=[.iface u v]:=by
 cases fuel with
 | zero=>simp [DataW.trod] at h
 | succ fuel=>
  simp only [DataW.trod,ht] at h
  split at h<;>first
   | exact ⟨_,_,rfl⟩
   | (simp_all;done)
theorem pG {P:Program} {W:World} {n:String} {s:String} {d:DataW Unit} {rest:List (String × DataW Unit)} {g:Nat} {t:TypeId} {m:_}
  (hg:P.globalNamed n=some g) (hty:(P.globals[g]?).map (·.type)=some t) (ht:P.underlying t=some (.interface m)) (h:laidMet P ((n,.iface s d)::rest) W):∃ u v,W.cell? ⟨g,0,none⟩=some (.iface u v):=by
 obtain ⟨ps,⟨g',t',cs,fuel,p,q,hg',ht',hvar,hd,_,_⟩,_⟩:=h
 obtain rfl:=Option.some.inj (hg.symm.trans hg')
 obtain rfl:=Option.some.inj (hty.symm.trans ht')
 obtain ⟨u,v,e⟩:=iface_of_trod ht hd
 have e':cs=#[.iface u v]:=Array.ext' e
 subst e'
 exact ⟨u,v,by simpa using World.var?_cell hg hvar 0⟩
theorem AH {W:World} (h:laidMetH Tryz.prog Rows.viewChecksRow.laid W) (hs:W.ShapedOpen Tryz.prog):Vars W:=by
 have h0:=xd.1 h
 have h2:=ju (ju h0)
 have h3:=ju h2
 have h4:=ju h3
 exact ⟨Lib.tabIs_of_head (zs:=Lib.pow10Tab) (t:=254) (e:=151) (n:=20) wQ (by kernel_rfl) (by kernel_rfl) (by kernel_rfl) (by kernel_rfl) (by kernel_rfl) h2,
  pG (t:=153) (g:=1) (by kernel_rfl) (by kernel_rfl) Tryz.underlying153 h4,pG (t:=153) (g:=2) (by kernel_rfl) (by kernel_rfl) Tryz.underlying153 h3,
  Go.Proofs.cell_of_shapedOpen_int (P:=Tryz.prog) (g:=0) (t:=3) (zero:=#[.int .i64 0]) hs (of_decide_eq_true (by kernel_rfl)) (by kernel_rfl) (by kernel_rfl) (by kernel_rfl) (by kernel_rfl) Tryz.underlying3⟩
variable {H:Type} {enc:TypeId × Value→H}
theorem tM {a:Assume} {C:Checked} {os:Os} {f:FuncId} {fn:Func} {s:ChangeSpec} {conds:List PathCond} {apart fresh handsOn again:Bool} {X:World→Array Value→Prop}
  (hX:∀ (w w':World) (args:Array Value),w.heap=w'.heap→X w args→X w' args)
  (own:ownKnob C.prog.godebug=none) (started:os.Started) (noInit:C.prog.inits.idxOf? f=none) (hfn:C.prog.funcs[f]?=some fn)
  (witness:∃ (w:World) (tape:Tape) (i:Input),w.os=os∧(w.forCall tape i).Shaped C.prog∧i.vars=[]∧Input.okWide C.prog (w.forCall tape i) .any w.heap.size f i∧
   ((s.pre enc C.prog fn conds apart (w.forCall tape i).memory i.args∧X (w.forCall tape i).memory i.args)∧sizedMet enc C.prog fn (OpenSpec.ofChange s) apart (w.forCall tape i).memory i.args)∧a.holds C.prog (lone (Frame.enter C.prog f i.args .normal) [] (w.forCall tape i)))
  (contract:∀ (W:World) (base:Nat) (args:Array Value) (ds gs:List (DataW H)) (before:List MemPlace),
   (∀ (j:Nat) t v,fn.params[j]?=some t→args[j]?=some v→Value.okWide C.prog W .any base t v)→
   DataW.Whole enc C.prog fn.params.toList s.vars apart W args.toList ds gs before→
   (DataW.weightsEach C.prog (fn.params.toList++s.plain.varTypes C.prog) (ds++gs)).all (·≤reachBytes)=true→X W args→W.ShapedOpen C.prog→
   Calls C.prog f args W fun e W'=>∃ v,e=.returned v∧s.post enc C.prog fn apart fresh handsOn again W args v W'):
  ReturnsInHanded a C os f .any (fun w args=>(s.pre enc C.prog fn conds apart w args∧X w args)∧sizedMet enc C.prog fn (OpenSpec.ofChange s) apart w args) (s.post enc C.prog fn apart fresh handsOn again):=by
 refine returnsInHanded_of_calls own started noInit witness fun w tape i _ hsh _ hok hpre _=>?_
 obtain ⟨_,_,_,fn',hfn',_,_,_,_,hval⟩:=hok
 obtain rfl:fn'=fn:=Option.some.inj (hfn'.symm.trans hfn)
 obtain ⟨⟨⟨ds,gs,before,hw,_⟩,hx⟩,hz⟩:=hpre
 refine (contract (w.forCall tape i) w.heap.size i.args ds gs before hval (DataW.Whole.of_heap (w':=w.forCall tape i) (by rfl) hw) (hz.weights hw) (hX _ _ _ (by rfl) hx) hsh).mono fun e W' ⟨v,he,hp⟩=>?_
 subst he
 exact ChangeSpec.post_blind hp
theorem acU [dq] {W:World} {base:Nat} {sp:Nat→Bool} {held:Bool} {cs:Array Value} {d:DataW H} {p:List MemPlace} (h:DataW.Trod enc Tryz.prog W base sp held 33 (.agg cs) d p) (hw:∀ n∈DataW.weights Tryz.prog 33 d,n≤reachBytes):
  ∃ a:aP,vL a∧bD (Gh.bare (mem W)) W [ag (bI a)] (#[.agg cs]:Array Value).toList:=by
 obtain ⟨fuel,hf⟩:=h
 obtain ⟨ts,h1,h2⟩:=j8 9 33 YZ SC fuel _ _ hf hw
 obtain ⟨a,rfl,ha⟩:=aj3 ts h1
 have hc:(Value.agg cs).cells=cs:=rfl
 rw [hc] at h2
 refine ⟨a,ha,.cons (.agg (by rw [List.length_map,h2.1,Array.length_toList]) fun i s v hs hv=>?_) .nil⟩
 obtain ⟨t,ht,rfl⟩:=Option.map_eq_some_iff.1 (List.getElem?_map ▸ hs)
 exact .t (h2.2 i t v ht (by rw [← Array.getElem?_toList] at hv;exact hv))
end Go.Proofs.YtonkoellfaopiaaGreatDoor.H
