/- how many bits two keys begin with alike: the document's. Conditions: the keys' parts are bytes. -/
import Derived.Test.YtndnlbinnhdmbaaDoorGc
import Derived.Test.YtndnlbinnhdmbaaDoorTrA
set_option linter.unusedSimpArgs false
set_option linter.unusedVariables false
namespace Go.Proofs.YtndnlbinnhdmbaaDoor
set_option maxHeartbeats 1500000
set_option maxRecDepth 100000
open Go.RowKit
attribute [local irreducible] wpList
def kcomF (f g : Nat → Int) : Nat → Nat → Nat
  | 0, i => i
  | n + 1, i => if kbit f i = kbit g i then kcomF f g n (i + 1) else i
def kcom (f g : Nat → Int) : Nat := kcomF f g 256 0
theorem kcom_step {f g : Nat → Int} {i : Nat} (h : i < 256) : kcomF f g (256 - i) i = if kbit f i = kbit g i then kcomF f g (256 - (i + 1)) (i + 1) else i := by
  rw [show 256 - i = (256 - (i + 1)) + 1 by omega]; rfl

/-- the document's order -/
def kless (f g : Nat → Int) : Bool := decide (kcom f g < 256) && decide (kbit f (kcom f g) = 0)
end Go.Proofs.YtndnlbinnhdmbaaDoor
