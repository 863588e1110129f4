/- custumalref06.Clamp, over a text of 32 bytes. Conditions: they are bytes. -/
import Derived.Test.YtefpoollmbmkfaaDoorNd
import Derived.Test.YtefpoollmbmkfaaDoorRb
set_option linter.unusedSimpArgs false
set_option linter.unusedVariables false
namespace Go.Proofs.YtefpoollmbmkfaaDoor.Sc
set_option maxHeartbeats 2000000
set_option maxRecDepth 100000
open Go.RowKit

theorem J4d (X : Nat) : ∀ n, J1f (Q6 X) n = X % 2 ^ (8 * n)
  | 0 => by simp [J1f, Nat.mod_one]
  | n + 1 => by
    show J1f (Q6 X) n + (Q6 X n).toNat * 2 ^ (8 * n) = _
    rw [J4d X n, Nat.mul_add, Nat.pow_add, Nat.mod_mul]
    unfold Q6
    rw [Int.toNat_natCast, Nat.mul_comm (2 ^ (8 * n))]
end Go.Proofs.YtefpoollmbmkfaaDoor.Sc
