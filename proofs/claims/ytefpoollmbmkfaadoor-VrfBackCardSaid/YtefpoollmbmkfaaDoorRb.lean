/- custumalref06.Raw: four words as 32 bytes. No conditions. custumalref06.Bytes: 16 parts as 32 bytes. No conditions. custumalref06.Of: a text's bytes, the lowest first, modulo the order. Conditions: the text is the bytes of a number. -/
import Derived.Test.YtefpoollmbmkfaaDoorNa
import Derived.Test.YtefpoollmbmkfaaDoorGa
import Derived.Deep.AppendLies
import Derived.Test.YtefpoollmbmkfaaDoorRa
import Derived.Deep.RegionHeld3
import Derived.Test.YtefpoollmbmkfaaDoorNc
import Derived.Test.YtefpoollmbmkfaaDoorGc
set_option linter.unusedSimpArgs false
set_option linter.unusedVariables false
namespace Go.Proofs.YtefpoollmbmkfaaDoor.Sc
set_option maxHeartbeats 1000000
set_option maxRecDepth 100000
open Go.RowKit

end Go.Proofs.YtefpoollmbmkfaaDoor.Sc

namespace Go.Proofs.YtefpoollmbmkfaaDoor.Sc
set_option maxHeartbeats 1000000
set_option maxRecDepth 100000
open Go.RowKit

end Go.Proofs.YtefpoollmbmkfaaDoor.Sc
