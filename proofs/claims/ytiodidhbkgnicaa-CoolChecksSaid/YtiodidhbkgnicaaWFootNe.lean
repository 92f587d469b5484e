-- laid by a program of this session: a text of the print's words, turned in one place (QRow)
import Derived.Test.YtiodidhbkgnicaaWN
namespace Go.Proofs.YtiodidhbkgnicaaW.PrintWords
open Go.RowKit
namespace Kd
section
variable {α : Type} {d : Kd α} {W : World} {g n : Nat} {S ok : Nat → Prop} {A : Option Addr} {ad : Addr} {xs : List α}
end
end Kd
end Go.Proofs.YtiodidhbkgnicaaW.PrintWords
