import Derived.Test.YtmankbhlgjgnbaaPAllx94
import Derived.Test.YtmankbhlgjgnbaaEOpens
set_option linter.unusedVariables false
namespace Go.Proofs.Ytmankbhlgjgnbaa.Pure
open Go.Proofs.Ytmankbhlgjgnbaa.PAll
theorem StoreGoes (x0 : (List S28)) (g0 : (x0.length * 96 ≤ 140737488351232 ∧ ∀ y_ ∈ x0, good28 y_)) : sutlerlaw10_StoreGoes.f x0 = some true := rfl
end Go.Proofs.Ytmankbhlgjgnbaa.Pure
