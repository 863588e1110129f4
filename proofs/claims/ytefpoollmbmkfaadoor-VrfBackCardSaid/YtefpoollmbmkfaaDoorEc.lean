/- custumalref05.carry. Conditions: no part is less than nought or more than 2^50. custumalref05.tidy. Conditions: no part is less than nought or more than 2^50. custumalref05.Add, Of, Parts. No conditions. custumalref05.Of and Parts. No conditions. custumalref05.Neg, Sub. Conditions: the number is not beyond the modulus. custumalref05.Mul. No conditions. -/
import Derived.Test.YtefpoollmbmkfaaDoorGc
import Derived.Test.YtefpoollmbmkfaaDoorGa
import Derived.Test.YtefpoollmbmkfaaDoorGb
import Derived.Test.YtefpoollmbmkfaaDoorEa
set_option linter.unusedSimpArgs false
set_option linter.unusedVariables false
namespace Go.Proofs.YtefpoollmbmkfaaDoor
set_option maxHeartbeats 4000000
set_option maxRecDepth 100000
open Go.RowKit

end Go.Proofs.YtefpoollmbmkfaaDoor

namespace Go.Proofs.YtefpoollmbmkfaaDoor
set_option maxHeartbeats 4000000
set_option maxRecDepth 100000
open Go.RowKit

end Go.Proofs.YtefpoollmbmkfaaDoor

namespace Go.Proofs.YtefpoollmbmkfaaDoor
set_option maxHeartbeats 4000000
set_option maxRecDepth 100000
open Go.RowKit

end Go.Proofs.YtefpoollmbmkfaaDoor

namespace Go.Proofs.YtefpoollmbmkfaaDoor
set_option maxHeartbeats 4000000
set_option maxRecDepth 100000
open Go.RowKit

end Go.Proofs.YtefpoollmbmkfaaDoor

namespace Go.Proofs.YtefpoollmbmkfaaDoor
set_option maxHeartbeats 4000000
set_option maxRecDepth 100000
open Go.RowKit

end Go.Proofs.YtefpoollmbmkfaaDoor
