/- custumalref06.Mul. Conditions: the first number is below the order, the second below 2^256. custumalref06.Neg. Conditions: the number is below the order. -/
import Derived.Test.YtefpoollmbmkfaaDoorRc
import Derived.Test.YtefpoollmbmkfaaDoorRa
set_option linter.unusedSimpArgs false
set_option linter.unusedVariables false
namespace Go.Proofs.YtefpoollmbmkfaaDoor.Sc
set_option maxHeartbeats 4000000
set_option maxRecDepth 100000
open Go.RowKit

end Go.Proofs.YtefpoollmbmkfaaDoor.Sc

