import Derived.Test.YtonkoellfaopiaaGreatDoorRows
import Derived.JoinedOf
import Derived.WalkKit
import Derived.ProofKit
set_option linter.unusedSimpArgs false
set_option linter.unusedVariables false
set_option linter.unusedSectionVars false
namespace Go.Proofs.YtonkoellfaopiaaGreatDoor.viewNodes
open Go Go.Proofs
theorem z1:Tryz.prog.inPlace 4=Rows.viewNodesRow.inPlace:=by kernel_rfl
theorem z2:Tryz.prog.varsNamed 4=Rows.viewNodesRow.named:=by kernel_rfl
theorem z3:Tryz.prog.unfollowed 4=true:=by kernel_rfl
theorem z4:Tryz.prog.recurses 4=true:=by kernel_rfl
theorem closed:joinedFacts Tryz.prog 4 Tryz.f4 Rows.viewNodesSpec Rows.viewNodesRow=true:=by
 unfold joinedFacts
 rw [z1,z2,z3,z4]
 kernel_rfl
theorem zw:Tryz.f4.isWrapper Tryz.prog Rows.viewNodesRow.wrapper Rows.viewNodesRow.mainSum:=by unfold Func.isWrapper;first | (rw [if_pos (by decide +kernel)];kernel_rfl) | (rw [if_neg (by decide +kernel)];exact ⟨rfl,rfl⟩)
theorem zn:Tryz.prog.funcNamed Rows.viewNodesRow.func=some 4:=by kernel_rfl
theorem zi:Tryz.f4.isInstance Tryz.prog Rows.viewNodesRow.origin Rows.viewNodesRow.targs:=of_decide_eq_true (by kernel_rfl)
end Go.Proofs.YtonkoellfaopiaaGreatDoor.viewNodes
