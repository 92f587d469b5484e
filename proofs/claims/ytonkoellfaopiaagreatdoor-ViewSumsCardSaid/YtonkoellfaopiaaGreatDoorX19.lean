import Derived.Test.YtonkoellfaopiaaGreatDoorRows
import Derived.JoinedOf
import Derived.WalkKit
import Derived.ProofKit
set_option linter.unusedSimpArgs false
set_option linter.unusedVariables false
namespace Go.Proofs.YtonkoellfaopiaaGreatDoor.viewSums
open Go Go.Proofs
theorem z1:Tryz.prog.inPlace 6=Rows.viewSumsRow.inPlace:=by kernel_rfl
theorem z2:Tryz.prog.varsNamed 6=Rows.viewSumsRow.named:=by kernel_rfl
theorem z3:Tryz.prog.unfollowed 6=true:=by kernel_rfl
theorem z4:Tryz.prog.recurses 6=true:=by kernel_rfl
theorem closed:joinedFacts Tryz.prog 6 Tryz.f6 Rows.viewSumsSpec Rows.viewSumsRow=true:=by
 unfold joinedFacts
 rw [z1,z2,z3,z4]
 kernel_rfl
theorem zw:Tryz.f6.isWrapper Tryz.prog Rows.viewSumsRow.wrapper Rows.viewSumsRow.mainSum:=by unfold Func.isWrapper;first | (rw [if_pos (by decide +kernel)];kernel_rfl) | (rw [if_neg (by decide +kernel)];exact ⟨rfl,rfl⟩)
theorem zn:Tryz.prog.funcNamed Rows.viewSumsRow.func=some 6:=by kernel_rfl
theorem zi:Tryz.f6.isInstance Tryz.prog Rows.viewSumsRow.origin Rows.viewSumsRow.targs:=of_decide_eq_true (by kernel_rfl)
end Go.Proofs.YtonkoellfaopiaaGreatDoor.viewSums
