/- The document's Times: of a text of any length. No conditions. -/
import Derived.Test.YtefpoollmbmkfaaDoorGc
import Derived.Test.YtefpoollmbmkfaaDoorEdR
import Derived.Test.YtefpoollmbmkfaaDoorEdF
import Derived.Test.YtefpoollmbmkfaaDoorEi
set_option linter.unusedSimpArgs false
set_option linter.unusedVariables false
namespace Go.Proofs.YtefpoollmbmkfaaDoor
set_option maxHeartbeats 1500000
set_option maxRecDepth 100000
open Go.RowKit
attribute [local irreducible] wpList
abbrev T3 := Nat × Nat × Nat
end Go.Proofs.YtefpoollmbmkfaaDoor
