import Derived.Test.YtonkoellfaopiaaGreatDoorRows
import Derived.JoinedOf
import Derived.WalkKit
import Derived.ProofKit
set_option linter.unusedSimpArgs false
set_option linter.unusedVariables false
namespace Go.Proofs.YtonkoellfaopiaaGreatDoor.viewNames
open Go Go.Proofs
theorem z1:Tryz.prog.inPlace 5=Rows.viewNamesRow.inPlace:=by kernel_rfl
theorem z2:Tryz.prog.varsNamed 5=Rows.viewNamesRow.named:=by kernel_rfl
theorem z3:Tryz.prog.unfollowed 5=true:=by kernel_rfl
theorem z4:Tryz.prog.recurses 5=true:=by kernel_rfl
theorem closed:joinedFacts Tryz.prog 5 Tryz.f5 Rows.viewNamesSpec Rows.viewNamesRow=true:=by
 unfold joinedFacts
 rw [z1,z2,z3,z4]
 kernel_rfl
theorem zw:Tryz.f5.isWrapper Tryz.prog Rows.viewNamesRow.wrapper Rows.viewNamesRow.mainSum:=by unfold Func.isWrapper;first | (rw [if_pos (by decide +kernel)];kernel_rfl) | (rw [if_neg (by decide +kernel)];exact ⟨rfl,rfl⟩)
theorem zn:Tryz.prog.funcNamed Rows.viewNamesRow.func=some 5:=by kernel_rfl
theorem zi:Tryz.f5.isInstance Tryz.prog Rows.viewNamesRow.origin Rows.viewNamesRow.targs:=of_decide_eq_true (by kernel_rfl)
end Go.Proofs.YtonkoellfaopiaaGreatDoor.viewNames
