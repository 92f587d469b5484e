-- laid by a program of this session: a text of the print's words, turned in one place (QRow)
import Derived.Test.YtiodidhbkgnicaaWApart
import Derived.Test.YtiodidhbkgnicaaWArr
namespace Go.Proofs.YtiodidhbkgnicaaW.PrintWords
open Go.RowKit
section
variable {P : Program}
end
namespace Kd
section
variable {P : Program} {ops : Array Oper} {rest : List Oper} {o : Oper} {a : Act} {Q : Exit → Act → World → Prop} {Kc : Act → World → Prop} {α : Type}
end
section
variable {α : Type} {d : Kd α} {e : Nat} {w : World} {base : Nat} {ok : Nat → Prop} {v : Value} {xs : List α}
end
section
variable {P : Program} {ops : Array Oper} {rest : List Oper} {o : Oper} {a : Act} {Q : Exit → Act → World → Prop} {Kc : Act → World → Prop} {α : Type}
end
end Kd
end Go.Proofs.YtiodidhbkgnicaaW.PrintWords
