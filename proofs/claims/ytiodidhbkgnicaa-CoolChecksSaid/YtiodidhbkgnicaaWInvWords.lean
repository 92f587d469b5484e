-- laid by a program of this session: a text of the print's words, turned in one place (QRow)
import Derived.Test.YtiodidhbkgnicaaWInv
import Derived.Test.YtiodidhbkgnicaaWFootNe
namespace Go.Proofs.YtiodidhbkgnicaaW.PrintWords
open Go.RowKit
end Go.Proofs.YtiodidhbkgnicaaW.PrintWords
namespace Go.Proofs.YtiodidhbkgnicaaW.PrintLast
section
variable {ops : Array Oper} {a : Act} {o og : Oper} {g : Nat} {t : Tmp} {u : Bool}
end
end Go.Proofs.YtiodidhbkgnicaaW.PrintLast
