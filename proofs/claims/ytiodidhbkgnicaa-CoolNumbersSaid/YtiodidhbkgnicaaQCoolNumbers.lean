import Derived.Test.YtiodidhbkgnicaaPAllx12
import Derived.Test.YtiodidhbkgnicaaEOpens
namespace Go.Proofs.Ytiodidhbkgnicaa.Pure
open Go.RowKit Go.Proofs.Ytiodidhbkgnicaa.PAll
/-- The plain function of CoolNumbers, run. -/
theorem CoolNumbers : ∃ k, sutlerlaw07_CoolNumbers.f k = some true := ⟨100, by kernel_rfl⟩
end Go.Proofs.Ytiodidhbkgnicaa.Pure
