/- The law of the given program answers true at every input, and what came in reads as it did. No conditions. -/
import Derived.Test.YtonkoellfaopiaaGreatDoorX17
import Derived.Test.YtonkoellfaopiaaGreatDoorX18
import Derived.Test.YtonkoellfaopiaaGreatDoorX19
import Derived.Test.YtonkoellfaopiaaGreatDoorTie
import Derived.Test.YtonkoellfaopiaaGreatDoorCards
import Derived.SevenTiedAt
import Derived.Test.YtonkoellfaopiaaGreatDoorRows
import Derived.WalkKit
import Derived.ProofKit
import Derived.OpenShut
import Derived.ShutString
import Derived.ChangeOld
import Derived.Below
import Derived.SizedLaws
set_option linter.unusedSimpArgs false
set_option linter.unusedVariables false
namespace Go.Proofs.YtonkoellfaopiaaGreatDoor.viewSums
open Go Go.Proofs Go.ChangeShapes Go.WideShapes Go.ChangeAt Go.RowKit Go.Proofs.YtonkoellfaopiaaGreatDoor.H
theorem own:ownKnob Tryz.prog.godebug=none:=by kernel_rfl
theorem laidOut:laidOutB Tryz.prog=true:=by kernel_rfl
set_option maxRecDepth 100000 in
set_option maxHeartbeats 1000000 in
theorem lifted (os:Os) (started:os.Started) (H:Type) (enc:TypeId × Value→H):
  ReturnsInHanded {} Tryz.checked os 6 .any (fun w args=>(Rows.viewSumsSpec.pre enc Tryz.prog Tryz.f6 Rows.viewSumsRow.domain false w args∧laidMetH Tryz.prog Rows.viewSumsRow.laid w)∧sizedMet enc Tryz.prog Tryz.f6 (OpenSpec.ofChange Rows.viewSumsSpec) false w args) (Rows.viewSumsSpec.post enc Tryz.prog Tryz.f6 false true false false):=by
 refine returns_shaped (C:=Tryz.checked) (X:=fun w _=>laidMetH Tryz.prog Rows.viewSumsRow.laid w) (fun _ _ _ hh h=>h.of_heap hh) own started (by kernel_rfl) Tryz.func6
  (ChangeSpec.witness_at (enc:=enc) (C:=Tryz.checked) (os:=os) (X:=fun w _=>laidMetH Tryz.prog Rows.viewSumsRow.laid w) false (laidWorld os) #[.agg #[.int .i64 0,.int .i64 0,.int .i64 0,.int .i64 0,.int .i64 0,.int .i64 0,.slice none 0 0,.slice none 0 0,.slice none 0 0,.slice none 0 0,.slice none 0 0,.slice none 0 0,.slice none 0 0,.slice none 0 0]] 8 rfl (by kernel_rfl) (by kernel_rfl) (by kernel_rfl) (by kernel_rfl) (by kernel_rfl) (show laidMetH Tryz.prog Rows.viewChecksRow.laid _ from laidH_met os _)) ?_
 intro W base args ds gs before hval0 hW hsz0 hL hS
 have hsz:(DataW.weightsEach Tryz.prog (Tryz.f6.params.toList++Rows.viewSumsSpec.plain.varTypes Tryz.prog) (ds++gs)).all (·≤reachBytes)=true:=hsz0
 have hval:∀ (j:Nat) t v,Tryz.f6.params[j]?=some t→args[j]?=some v→Value.okWide Tryz.prog W .any base t v:=hval0
 have hW':=hW
 obtain ⟨p,q,hA0,hV,rfl,hfz,hnd⟩:=hW
 have hA:DataW.TrodAll enc Tryz.prog W 0 (fun _=>true) true Tryz.f6.params.toList args.toList ds p:=hA0
 rw [Tryz.params6] at hA hval hsz
 have hg:Vars W:=Vars_of_laid (show laidMetH Tryz.prog Rows.viewChecksRow.laid W from hL) hS
 obtain ⟨v0,vs0,d0,ds0,p0,q0,hargs,rfl,rfl,h0,r0⟩:=trodAll_cons hA
 obtain ⟨rfl,rfl,rfl⟩:=trodAll_nil r0
 obtain rfl:args=#[v0]:=by cases args;simp_all
 obtain ⟨rfl,rfl⟩:=trodVars_none hV
 have lt0:∀ x∈p0,x.block < W.heap.size:=by obtain ⟨m,hm⟩:=h0;exact DataW.trod_lt m _ _ _ hm
 obtain ⟨cs0,rfl,_⟩:=okWide_struct Tryz.underlying33 (hval 0 33 v0 rfl rfl)
 obtain ⟨a,ha,hrep⟩:=open33 h0 (fun n hn=>by simpa using List.all_eq_true.1 hsz n (DataW.weights_mem_each (j:=0) rfl rfl n hn))
 clear hA0 hval0 hsz0 hsz
 refine (machine (c6 a ha) (mem W) W #[.agg cs0] (fun q=>mem_lt q) mem_nold hg hrep).mono fun e W' ⟨v,I',he,bel,_,_,_,_,hr⟩=>?_
 obtain ⟨rfl,_⟩:=srep_v hr
 subst he
 exact ⟨_,rfl,_,_,_,[],_,[],hW',trodAll_mk1 (shut_bool Tryz.underlying4 _),(trodAll_cons_mk (Below.trod laidOut (by kernel_rfl) (of_decide_eq_true (by kernel_rfl)) h0 bel lt0) trodAll_mk0),rfl,bel.frame _,fun h=>by cases h⟩
theorem over:Rows.viewSumsRow.holds Tryz.pinned (OpenSpec.ofChange Rows.viewSumsSpec):=
 OpenClaim.holds_of_wide 6 Tryz.f6 rfl rfl rfl rfl rfl rfl rfl ⟨rfl,rfl,rfl,rfl,rfl⟩ rfl rfl rfl rfl rfl zn Tryz.func6 closed zi zw
  (fun os started H enc _=>lifted os started H enc)
theorem proved:Rows.ViewSumsSaid:=over
theorem card:Rows.ViewSumsCardSaid:=
 Claim7.holds_tied_plain_at .later [] [.data,.data,.data,.sentinel,.sentinel] true (true, "d0df7a397e6f04cba0112a85eb11e051df5933c3c13e18ec36492f2da9b7cc1d") true
  proved (fun _ h=>by cases h) (by kernel_rfl) (fun _ h=>by cases h) viewSums_row_tie rfl ⟨rfl,rfl⟩ (by kernel_rfl) rfl
  (fun f fn hf hfn=>by
   obtain rfl:f=6:=Option.some.inj (zn.symm.trans hf) |>.symm
   obtain rfl:fn=Tryz.f6:=(Option.some.inj (Tryz.func6.symm.trans hfn)).symm
   exact ⟨by kernel_rfl,fun j t ht=>by
    rw [Tryz.params6] at ht
    rcases j with _ | j
    ·obtain rfl:t=33:=by simpa using ht.symm
     exact (show Tryz.prog.wantsStandIn 33=false by kernel_rfl)
    simp at ht⟩)
  (by kernel_rfl)
end Go.Proofs.YtonkoellfaopiaaGreatDoor.viewSums
namespace Go.Proofs.YtonkoellfaopiaaGreatDoor
theorem viewSums_holds:Rows.ViewSumsCardSaid:=viewSums.card
end Go.Proofs.YtonkoellfaopiaaGreatDoor
