import Derived.Test.YthgdeoacplcceaaDoorSTaint
import Derived.Test.YthgdeoacplcceaaDoorPAllx6
namespace Go.Proofs.YthgdeoacplcceaaDoor.PAll.Pure
open Go.RowKit Go.Proofs.YthgdeoacplcceaaDoorW.PrintWords
theorem TaintNumbers : ∃ k, sutlerlaw05_TaintNumbers.f k = some true := ⟨100, by kernel_rfl⟩
end Go.Proofs.YthgdeoacplcceaaDoor.PAll.Pure
