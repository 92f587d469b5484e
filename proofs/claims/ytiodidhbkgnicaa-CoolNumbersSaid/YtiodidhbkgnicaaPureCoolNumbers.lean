/- CoolNumbers of the given program answers true. No conditions. -/
import Derived.Test.YtiodidhbkgnicaaPAllx8
namespace Go.Proofs.Ytiodidhbkgnicaa.Pure
open Go.RowKit Go.Proofs.Ytiodidhbkgnicaa.PAll Go.Proofs.YtiodidhbkgnicaaW.PrintWords Go.Proofs.YtiodidhbkgnicaaW.PrintLast

/-- The plain function of CoolNumbers, run. -/
theorem CoolNumbers : sutlerlaw07_CoolNumbers.Pure := ⟨100, by kernel_rfl⟩

end Go.Proofs.Ytiodidhbkgnicaa.Pure
