/- custumalref06.Of, the walk. Conditions: the text is the bytes of a number. -/
import Derived.Test.YtefpoollmbmkfaaDoorRb
set_option linter.unusedSimpArgs false
set_option linter.unusedVariables false
namespace Go.Proofs.YtefpoollmbmkfaaDoor.Sc
set_option maxHeartbeats 4000000
set_option maxRecDepth 100000
open Go.RowKit

end Go.Proofs.YtefpoollmbmkfaaDoor.Sc
