-- laid by a program of this session: a text of the print's words, turned in one place (QRow)
import Derived.Test.YtiodidhbkgnicaaWTab
namespace Go.Proofs.YtiodidhbkgnicaaW.PrintLast
section
variable {P : Program} {ops : Array Oper} {Q : Exit → Act → World → Prop} {md : Region.Mode} {S : World → Prop} {ds : List Nat} {T : Bool × List (List Nat × List Nat)}
end
end Go.Proofs.YtiodidhbkgnicaaW.PrintLast
