/- The document's Spread, Sign, Verify. Conditions: the cells of the sums' tables hold their numbers. -/
import Derived.Test.YtefpoollmbmkfaaDoorGc
import Derived.Test.YtefpoollmbmkfaaDoorSgC
import Derived.Test.YtefpoollmbmkfaaDoorShE
import Derived.Test.YtefpoollmbmkfaaDoorRe
import Derived.Test.YtefpoollmbmkfaaDoorRf
import Derived.Test.YtefpoollmbmkfaaDoorEdQ
import Derived.Test.YtefpoollmbmkfaaDoorEdT
import Derived.Test.YtefpoollmbmkfaaDoorEdU
import Derived.Test.YtefpoollmbmkfaaDoorEdV
set_option linter.unusedSimpArgs false
set_option linter.unusedVariables false
namespace Go.Proofs.YtefpoollmbmkfaaDoor
set_option maxHeartbeats 1000000
set_option maxRecDepth 100000
open Go.RowKit
attribute [local irreducible] wpList
open Sc (LL J12)
variable {kn : Kn}
section
variable {w : World} {o : Oper} {a : Act} {x y : Operand} {t : TypeId}
end
end Go.Proofs.YtefpoollmbmkfaaDoor
