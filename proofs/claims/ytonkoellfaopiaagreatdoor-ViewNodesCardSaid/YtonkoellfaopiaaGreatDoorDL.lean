/- The law of the given program answers true at every input, and what came in reads as it did. No conditions. -/
import Derived.Test.YtonkoellfaopiaaGreatDoorD23
import Derived.Test.YtonkoellfaopiaaGreatDoorD25
import Derived.Test.YtonkoellfaopiaaGreatDoorD26
import Derived.Test.YtonkoellfaopiaaGreatDoorTie
import Derived.Test.YtonkoellfaopiaaGreatDoorCards
import Derived.SevenTiedAt
import Derived.Test.YtonkoellfaopiaaGreatDoorRows
import Derived.WalkKit
import Derived.ProofKit
import Derived.OpenShut
import Derived.ShutString
import Derived.ChangeOld
import Derived.Below
import Derived.SizedLaws
set_option linter.unusedSimpArgs false
set_option linter.unusedVariables false
set_option linter.unusedSectionVars false
namespace Go.Proofs.YtonkoellfaopiaaGreatDoor.viewNodes
open Go Go.Proofs Go.ChangeShapes Go.WideShapes Go.ChangeAt Go.RowKit Go.Proofs.YtonkoellfaopiaaGreatDoor.H
theorem own:ownKnob Tryz.prog.godebug=none:=by kernel_rfl
theorem laidOut:laidOutB Tryz.prog=true:=by kernel_rfl
set_option maxRecDepth 100000 in
set_option maxHeartbeats 1000000 in
theorem lifted (os:Os) (started:os.Started) (H:Type) (enc:TypeId × Value→H):
  ReturnsInHanded {} Tryz.checked os 4 .any (fun w args=>(Rows.viewNodesSpec.pre enc Tryz.prog Tryz.f4 Rows.viewNodesRow.domain false w args∧laidMetH Tryz.prog Rows.viewNodesRow.laid w)∧sizedMet enc Tryz.prog Tryz.f4 (OpenSpec.ofChange Rows.viewNodesSpec) false w args) (Rows.viewNodesSpec.post enc Tryz.prog Tryz.f4 false true false false):=by
 refine tM (C:=Tryz.checked) (X:=fun w _=>laidMetH Tryz.prog Rows.viewNodesRow.laid w) (fun _ _ _ hh h=>h.of_heap hh) own started (by kernel_rfl) Tryz.func4
  (ChangeSpec.witness_at (enc:=enc) (C:=Tryz.checked) (os:=os) (X:=fun w _=>laidMetH Tryz.prog Rows.viewNodesRow.laid w) false (qs os) #[.agg #[.int .i64 0,.int .i64 0,.int .i64 0,.int .i64 0,.int .i64 0,.int .i64 0,.slice none 0 0,.slice none 0 0,.slice none 0 0,.slice none 0 0,.slice none 0 0,.slice none 0 0,.slice none 0 0,.slice none 0 0]] 8 rfl (by kernel_rfl) (by kernel_rfl) (by kernel_rfl) (by kernel_rfl) (by kernel_rfl) (show laidMetH Tryz.prog Rows.viewChecksRow.laid _ from Mn os _)) ?_
 intro W base args ds gs before hval0 hW hsz0 hL hS
 have hsz:(DataW.weightsEach Tryz.prog (Tryz.f4.params.toList++Rows.viewNodesSpec.plain.varTypes Tryz.prog) (ds++gs)).all (·≤reachBytes)=true:=hsz0
 have hval:∀ (j:Nat) t v,Tryz.f4.params[j]?=some t→args[j]?=some v→Value.okWide Tryz.prog W .any base t v:=hval0
 have hW':=hW
 obtain ⟨p,q,hA0,hV,rfl,hfz,hnd⟩:=hW
 have hA:DataW.TrodAll enc Tryz.prog W 0 (fun _=>true) true Tryz.f4.params.toList args.toList ds p:=hA0
 rw [Tryz.params4] at hA hval hsz
 have hg:Vars W:=AH (show laidMetH Tryz.prog Rows.viewChecksRow.laid W from hL) hS
 obtain ⟨v0,vs0,d0,ds0,p0,q0,hargs,rfl,rfl,h0,r0⟩:=trodAll_cons hA
 obtain ⟨rfl,rfl,rfl⟩:=trodAll_nil r0
 obtain rfl:args=#[v0]:=by cases args;simp_all
 obtain ⟨rfl,rfl⟩:=trodVars_none hV
 have lt0:∀ x∈p0,x.block < W.heap.size:=by obtain ⟨m,hm⟩:=h0;exact DataW.trod_lt m _ _ _ hm
 obtain ⟨cs0,rfl,_⟩:=okWide_struct Tryz.underlying33 (hval 0 33 v0 rfl rfl)
 obtain ⟨a,ha,hrep⟩:=@acU _ _ ⟨W.heap.size+1⟩ _ _ _ _ _ _ _ h0 (fun n hn=>by simpa using List.all_eq_true.1 hsz n (DataW.weights_mem_each (j:=0) rfl rfl n hn))
 clear hA0 hval0 hsz0 hsz
 refine (aaT ha hg hrep).mono fun e W' ⟨he,bel⟩=>?_
 subst he
 exact ⟨_,rfl,_,_,_,[],_,[],hW',trodAll_mk1 (shut_bool Tryz.underlying4 _),(trodAll_cons_mk (Below.trod laidOut (by kernel_rfl) (of_decide_eq_true (by kernel_rfl)) h0 bel lt0) trodAll_mk0),rfl,bel.frame _,fun h=>by cases h⟩
theorem over:Rows.viewNodesRow.holds Tryz.pinned (OpenSpec.ofChange Rows.viewNodesSpec):=
 OpenClaim.holds_of_wide 4 Tryz.f4 rfl rfl rfl rfl rfl rfl rfl ⟨rfl,rfl,rfl,rfl,rfl⟩ rfl rfl rfl rfl rfl zn Tryz.func4 closed zi zw
  (fun os started H enc _=>lifted os started H enc)
theorem proved:Rows.ViewNodesSaid:=over
theorem ajU:Rows.ViewNodesCardSaid:=
 Claim7.holds_tied_plain_at .later [] [.data,.data,.data,.sentinel,.sentinel] true (true, "d0df7a397e6f04cba0112a85eb11e051df5933c3c13e18ec36492f2da9b7cc1d") true
  proved (fun _ h=>by cases h) (by kernel_rfl) (fun _ h=>by cases h) viewNodes_row_tie rfl ⟨rfl,rfl⟩ (by kernel_rfl) rfl
  (fun f fn hf hfn=>by
   obtain rfl:f=4:=Option.some.inj (zn.symm.trans hf) |>.symm
   obtain rfl:fn=Tryz.f4:=(Option.some.inj (Tryz.func4.symm.trans hfn)).symm
   exact ⟨by kernel_rfl,fun j t ht=>by
    rw [Tryz.params4] at ht
    rcases j with _ | j
    ·obtain rfl:t=33:=by simpa using ht.symm
     exact (show Tryz.prog.wantsStandIn 33=false by kernel_rfl)
    simp at ht⟩)
  (by kernel_rfl)
end Go.Proofs.YtonkoellfaopiaaGreatDoor.viewNodes
namespace Go.Proofs.YtonkoellfaopiaaGreatDoor
theorem viewNodes_holds:Rows.ViewNodesCardSaid:=viewNodes.ajU
end Go.Proofs.YtonkoellfaopiaaGreatDoor
