/- The document's point, challenge and Sum (vrf). Conditions: the sums' tables hold their numbers. The document's Sum, Prove, Check (vrf). Conditions: the sums' tables hold their numbers. -/
import Derived.Test.YtefpoollmbmkfaaDoorGc
import Derived.Test.YtefpoollmbmkfaaDoorVb
import Derived.Test.YtefpoollmbmkfaaDoorSgD
set_option linter.unusedSimpArgs false
set_option linter.unusedVariables false
namespace Go.Proofs.YtefpoollmbmkfaaDoor
set_option maxHeartbeats 2000000
set_option maxRecDepth 100000
open Go.RowKit
attribute [local irreducible] wpList
open Sc (LL J12)
variable {kn : Kn}
attribute [local irreducible] hs
section
variable {w : World} {o : Oper} {a : Act} {x y z : Operand} {t : TypeId}
end
end Go.Proofs.YtefpoollmbmkfaaDoor

namespace Go.Proofs.YtefpoollmbmkfaaDoor
set_option maxHeartbeats 2000000
set_option maxRecDepth 100000
open Go.RowKit
attribute [local irreducible] wpList
open Sc (LL J12)
variable {kn : Kn}
attribute [local irreducible] hs
end Go.Proofs.YtefpoollmbmkfaaDoor
