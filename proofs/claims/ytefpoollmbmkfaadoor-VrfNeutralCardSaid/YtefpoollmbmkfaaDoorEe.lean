/- custumalref05.Pow, Inv, I. No conditions. custumalref05.Root. Conditions: the first number is below the modulus. custumalref05.Bytes: 16 parts as 32 bytes. No conditions. custumalref05.FromBytes. Conditions: the text is 32 bytes. -/
import Derived.Test.YtefpoollmbmkfaaDoorEc
import Derived.Test.YtefpoollmbmkfaaDoorEb
import Derived.Test.YtefpoollmbmkfaaDoorGc
set_option linter.unusedSimpArgs false
set_option linter.unusedVariables false
namespace Go.Proofs.YtefpoollmbmkfaaDoor
set_option maxHeartbeats 4000000
set_option maxRecDepth 100000
open Go.RowKit

def mp (A n : Nat) : Nat → Nat
  | 0 => 1
  | c + 1 => if n / 2 ^ (255 - c) % 2 = 1 then (mp A n c * mp A n c % PP) * A % PP else mp A n c * mp A n c % PP
theorem Z6r (A n : Nat) (hn : n < Q5) : ∀ c, c ≤ 256 → mp A n c = pw A (n / 2 ^ (256 - c))
  | 0, _ => by rw [show 256 - 0 = 256 by decide, Nat.div_eq_of_lt (show n < 2 ^ 256 from hn), Q62]; rfl
  | c + 1, h => by
    have ih := Z6r A n hn c (by omega)
    rw [show 256 - c = (255 - c) + 1 by omega] at ih
    rw [show 256 - (c + 1) = 255 - c by omega]
    unfold mp
    rw [ih]
    split
    · rename_i h1; exact Q3f A n _ h1
    · rename_i h1; exact Q63 A n _ (by omega)
theorem Y1g (A n : Nat) (hn : n < Q5) : pw A n = mp A n 256 := by
  rw [Z6r A n hn 256 (by omega), show 256 - 256 = 0 by decide, Nat.pow_zero, Nat.div_one]
end Go.Proofs.YtefpoollmbmkfaaDoor

namespace Go.Proofs.YtefpoollmbmkfaaDoor
set_option maxHeartbeats 4000000
set_option maxRecDepth 100000
open Go.RowKit

theorem Q08 {A : Nat} (h : A < PP) : A < Q5 := Nat.lt_trans h J6f

end Go.Proofs.YtefpoollmbmkfaaDoor

namespace Go.Proofs.YtefpoollmbmkfaaDoor
set_option maxHeartbeats 4000000
set_option maxRecDepth 100000
open Go.RowKit

end Go.Proofs.YtefpoollmbmkfaaDoor

namespace Go.Proofs.YtefpoollmbmkfaaDoor
set_option maxHeartbeats 4000000
set_option maxRecDepth 100000
open Go.RowKit

end Go.Proofs.YtefpoollmbmkfaaDoor
