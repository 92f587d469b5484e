import Derived.Test.YtmankbhlgjgnbaaPAllx93
import Derived.Test.YtmankbhlgjgnbaaEOpens
set_option linter.unusedVariables false
namespace Go.Proofs.Ytmankbhlgjgnbaa.Pure
open Go.Proofs.Ytmankbhlgjgnbaa.PAll
theorem StoreHeld (x0 : (List ByteArray)) (g0 : (x0.length * 16 ≤ 140737488351232 ∧ ∀ y_ ∈ x0, y_.size ≤ 140737488351232)) : sutlerlaw10_StoreHeld.f x0 = some true := rfl
end Go.Proofs.Ytmankbhlgjgnbaa.Pure
