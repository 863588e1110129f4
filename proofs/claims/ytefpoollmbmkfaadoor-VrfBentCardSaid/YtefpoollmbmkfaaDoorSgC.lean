/- sign: Verify. Conditions: the cells of the variables hold their numbers. -/
import Derived.Test.YtefpoollmbmkfaaDoorGc
import Derived.Test.YtefpoollmbmkfaaDoorSgB
import Derived.Test.YtefpoollmbmkfaaDoorEdE
import Derived.Test.YtefpoollmbmkfaaDoorEdG
set_option linter.unusedSimpArgs false
set_option linter.unusedVariables false
namespace Go.Proofs.YtefpoollmbmkfaaDoor
set_option maxHeartbeats 1000000
set_option maxRecDepth 100000
open Go.RowKit
attribute [local irreducible] wpList J6j
variable {kn : Kn}
open Sc (LL J21)
theorem Z0j {V : Nat} (hV : V < LL) (w : World) (hG : Sc.GL w) : Calls Tryd.prog 55 #[.agg (J1 .u8 32 (Q6 V))] w fun e w' => Ret (.tuple #[L4 V, .bool true]) w w' e := by
  have h := Sc.canon_c (Q6 V) (J4p V) w hG
  rw [J4d, show 8 * 32 = 256 from rfl, Nat.mod_eq_of_lt (Nat.lt_trans hV J2w), Sc.canonV, if_pos hV] at h
  exact h
theorem Z0k {V : Nat} (hV : LL ≤ V) (h2 : V < 2 ^ 256) (w : World) (hG : Sc.GL w) : Calls Tryd.prog 55 #[.agg (J1 .u8 32 (Q6 V))] w fun e w' => Ret (.tuple #[L4 0, .bool false]) w w' e := by
  have h := Sc.canon_c (Q6 V) (J4p V) w hG
  rw [J4d, show 8 * 32 = 256 from rfl, Nat.mod_eq_of_lt h2, Sc.canonV, if_neg (Nat.not_lt.2 hV)] at h
  exact h

end Go.Proofs.YtefpoollmbmkfaaDoor
