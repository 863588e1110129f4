/- The first seed of RFC 8032: its public bytes and a signature. No conditions. -/
import Derived.Test.YtefpoollmbmkfaaDoorSv
set_option linter.unusedSimpArgs false
set_option linter.unusedVariables false
namespace Go.Proofs.YtefpoollmbmkfaaDoor
open Sc (LL e9)
theorem j1q {s : Q4} {a : Pr} {x y : Nat} (h : RQ4 s a) (ex : x * s.2.2.1 % PP = s.1) (ey : y * s.2.2.1 % PP = s.2.1) : a = (fp x, fp y) := by
  obtain ⟨hz, hx, hy, _⟩ := h.rc
  rw [← ex, f8, e7] at hx
  rw [← ey, f8, e7] at hy
  have hi := f4 hz
  have e1 : a.1 = fp x := by grind
  have e2 : a.2 = fp y := by grind
  exact Prod.ext e1 e2
theorem y4d {x y : Nat} (hx : x < PP) (hy : y < PP) : t6 (fp x, fp y) = y + 2 ^ 255 * (x % 2) := by
  show (fp y).val + 2 ^ 255 * ((fp x).val % 2) = _
  rw [q7n, q7n, Nat.mod_eq_of_lt hx, Nat.mod_eq_of_lt hy]
theorem q2n {F : List UInt8} {h : Nat} (e : g2c F = h) : hs F = h := (g2d F).trans e
set_option maxRecDepth 100000
end Go.Proofs.YtefpoollmbmkfaaDoor
