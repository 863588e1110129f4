/- An argument that is an array of integers, opened: its cells are integers of its kind. No conditions. -/
import Derived.Test.YtndnlbinnhdmbaaDoorGa
import Derived.WalkKit
import Derived.ProofKit
import Derived.OpenShut
import Derived.Deep.DeepHandedRow
import Derived.Lib.LaidTab
set_option linter.unusedSimpArgs false
set_option linter.unusedVariables false
namespace Go.Proofs.YtndnlbinnhdmbaaDoor
open Go.RowKit Go.ChangeShapes Go.WideShapes Go.ChangeAt

end Go.Proofs.YtndnlbinnhdmbaaDoor
