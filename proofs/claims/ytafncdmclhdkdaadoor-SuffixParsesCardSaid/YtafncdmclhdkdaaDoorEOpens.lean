-- written by a program of this session: what the readings at these types say
import Derived.Test.YtafncdmclhdkdaaDoorERow
import Derived.Test.YtafncdmclhdkdaaDoorPAllx0
namespace Go.Proofs.YtafncdmclhdkdaaDoor.PAll
open Go.RowKit Go.Proofs.YtafncdmclhdkdaaDoorW.PrintWords
set_option linter.unusedVariables false
end Go.Proofs.YtafncdmclhdkdaaDoor.PAll
