/- sign: Verify. Conditions: the cells of the variables hold their numbers. -/
import Derived.Test.YtefpoollmbmkfaaDoorGc
import Derived.Test.YtefpoollmbmkfaaDoorSgB
import Derived.Test.YtefpoollmbmkfaaDoorEdE
import Derived.Test.YtefpoollmbmkfaaDoorEdG
set_option linter.unusedSimpArgs false
set_option linter.unusedVariables false
namespace Go.Proofs.YtefpoollmbmkfaaDoor
set_option maxHeartbeats 1000000
set_option maxRecDepth 100000
open Go.RowKit
attribute [local irreducible] wpList wpTr
variable {kn : Kn}
open Sc (LL clampF)
theorem canon1_c {V : Nat} (hV : V < LL) (w : World) (hG : Sc.GL w) : Calls Tryd.prog 55 #[.agg (arrK .u8 32 (byt V))] w fun e w' => Ret (.tuple #[L4 V, .bool true]) w w' e := by
  have h := Sc.canon_c (byt V) (byt_ok V) w hG
  rw [bval_byt, show 8 * 32 = 256 from rfl, Nat.mod_eq_of_lt (Nat.lt_trans hV LL_256), Sc.canonV, if_pos hV] at h
  exact h
theorem canon0_c {V : Nat} (hV : LL ≤ V) (h2 : V < 2 ^ 256) (w : World) (hG : Sc.GL w) : Calls Tryd.prog 55 #[.agg (arrK .u8 32 (byt V))] w fun e w' => Ret (.tuple #[L4 0, .bool false]) w w' e := by
  have h := Sc.canon_c (byt V) (byt_ok V) w hG
  rw [bval_byt, show 8 * 32 = 256 from rfl, Nat.mod_eq_of_lt h2, Sc.canonV, if_neg (Nat.not_lt.2 hV)] at h
  exact h

end Go.Proofs.YtefpoollmbmkfaaDoor
