import Derived.Test.YtonkoellfaopiaaGreatDoorRows
import Derived.JoinedOf
import Derived.WalkKit
import Derived.ProofKit
set_option linter.unusedSimpArgs false
set_option linter.unusedVariables false
namespace Go.Proofs.YtonkoellfaopiaaGreatDoor.viewChecks
open Go Go.Proofs
theorem z1 : Tryz.prog.inPlace 3 = Rows.viewChecksRow.inPlace := by kernel_rfl
theorem z2 : Tryz.prog.varsNamed 3 = Rows.viewChecksRow.named := by kernel_rfl
theorem z3 : Tryz.prog.unfollowed 3 = true := by kernel_rfl
theorem z4 : Tryz.prog.recurses 3 = true := by kernel_rfl
theorem closed : joinedFacts Tryz.prog 3 Tryz.f3 Rows.viewChecksSpec Rows.viewChecksRow = true := by
 unfold joinedFacts
 rw [z1,z2,z3,z4]
 kernel_rfl
theorem zw : Tryz.f3.isWrapper Tryz.prog Rows.viewChecksRow.wrapper Rows.viewChecksRow.mainSum := by unfold Func.isWrapper; first | (rw [if_pos (by decide +kernel)]; kernel_rfl) | (rw [if_neg (by decide +kernel)]; exact ⟨rfl,rfl⟩)
theorem zn : Tryz.prog.funcNamed Rows.viewChecksRow.func = some 3 := by kernel_rfl
theorem zi : Tryz.f3.isInstance Tryz.prog Rows.viewChecksRow.origin Rows.viewChecksRow.targs := of_decide_eq_true (by kernel_rfl)
end Go.Proofs.YtonkoellfaopiaaGreatDoor.viewChecks
