/- custumalref06.L, less and Add. Conditions: the parts are parts of 16 bits. custumalref06.Add. Conditions: both numbers are below the order. custumalref06.Raw: four words as 32 bytes. No conditions. custumalref06.Bytes: 16 parts as 32 bytes. No conditions. custumalref06.Of: a text's bytes, the lowest first, modulo the order. Conditions: the text is the bytes of a number. custumalref06.Of, the walk. Conditions: the text is the bytes of a number. custumalref06.Mul. Conditions: the first number is below the order, the second below 2^256. custumalref06.Neg. Conditions: the number is below the order. custumalref06.Clamp, over a text of 32 bytes. Conditions: they are bytes. The order of the base: so often the base is the neutral point; points reckoned by the kernel. No conditions. -/
import Derived.Test.YtefpoollmbmkfaaDoorNa
import Derived.Test.YtefpoollmbmkfaaDoorGa
import Derived.Deep.AppendLies
import Derived.Deep.RegionHeld3
import Derived.Test.YtefpoollmbmkfaaDoorJ20
import Derived.Test.YtefpoollmbmkfaaDoorGc
import Derived.Test.YtefpoollmbmkfaaDoorEi
set_option linter.unusedSimpArgs false
set_option linter.unusedVariables false
namespace Go.Proofs.YtefpoollmbmkfaaDoor.Sc
set_option maxHeartbeats 4000000
set_option maxRecDepth 100000
open Go.RowKit

end Go.Proofs.YtefpoollmbmkfaaDoor.Sc

namespace Go.Proofs.YtefpoollmbmkfaaDoor.Sc
set_option maxHeartbeats 4000000
set_option maxRecDepth 100000
open Go.RowKit

end Go.Proofs.YtefpoollmbmkfaaDoor.Sc

set_option linter.unusedSimpArgs false
set_option linter.unusedVariables false
namespace Go.Proofs.YtefpoollmbmkfaaDoor.Sc
set_option maxHeartbeats 1000000
set_option maxRecDepth 100000
open Go.RowKit

end Go.Proofs.YtefpoollmbmkfaaDoor.Sc

namespace Go.Proofs.YtefpoollmbmkfaaDoor.Sc
set_option maxHeartbeats 1000000
set_option maxRecDepth 100000
open Go.RowKit

end Go.Proofs.YtefpoollmbmkfaaDoor.Sc

set_option linter.unusedSimpArgs false
set_option linter.unusedVariables false
namespace Go.Proofs.YtefpoollmbmkfaaDoor.Sc
set_option maxHeartbeats 4000000
set_option maxRecDepth 100000
open Go.RowKit

end Go.Proofs.YtefpoollmbmkfaaDoor.Sc

set_option linter.unusedSimpArgs false
set_option linter.unusedVariables false
namespace Go.Proofs.YtefpoollmbmkfaaDoor.Sc
set_option maxHeartbeats 4000000
set_option maxRecDepth 100000
open Go.RowKit

end Go.Proofs.YtefpoollmbmkfaaDoor.Sc

set_option linter.unusedSimpArgs false
set_option linter.unusedVariables false
namespace Go.Proofs.YtefpoollmbmkfaaDoor.Sc
set_option maxHeartbeats 2000000
set_option maxRecDepth 100000
open Go.RowKit

theorem bval_byt (X : Nat) : ∀ n, bval (byt X) n = X % 2 ^ (8 * n)
  | 0 => by simp [bval, Nat.mod_one]
  | n + 1 => by
    show bval (byt X) n + (byt X n).toNat * 2 ^ (8 * n) = _
    rw [bval_byt X n, Nat.mul_add, Nat.pow_add, Nat.mod_mul]
    unfold byt
    rw [Int.toNat_natCast, Nat.mul_comm (2 ^ (8 * n))]
end Go.Proofs.YtefpoollmbmkfaaDoor.Sc

set_option linter.unusedSimpArgs false
set_option linter.unusedVariables false
namespace Go.Proofs.YtefpoollmbmkfaaDoor
set_option maxRecDepth 100000

abbrev Q4 := Nat × Nat × Nat × Nat
def RQ4 (s : Q4) (a : Pr) : Prop := RN s.1 s.2.1 s.2.2.1 s.2.2.2 a
def twN : Q4 → Q4
  | (X, Y, Z, _) =>
    let A := X * X % PP
    let B := Y * Y % PP
    let C := (Z * Z % PP + Z * Z % PP) % PP
    let H := (A + B) % PP
    let S := (X + Y) % PP
    let E := (H + (PP - S * S % PP % PP)) % PP
    let G := (A + (PP - B % PP)) % PP
    let F := (C + G) % PP
    (E * F % PP, G * H % PP, F * G % PP, E * H % PP)
def adN : Q4 → Q4 → Q4
  | (X1, Y1, Z1, T1), (X2, Y2, Z2, T2) =>
    let A := (Y1 + (PP - X1 % PP)) % PP * ((Y2 + (PP - X2 % PP)) % PP) % PP
    let B := (Y1 + X1) % PP * ((Y2 + X2) % PP) % PP
    let C := T1 * D2 % PP * T2 % PP
    let D := (Z1 + Z1) % PP * Z2 % PP
    let E := (B + (PP - A % PP)) % PP
    let F := (D + (PP - C % PP)) % PP
    let G := (D + C) % PP
    let H := (B + A) % PP
    (E * F % PP, G * H % PP, F * G % PP, E * H % PP)
/-- the highest c bits of 256 of n times P -/
def tmN (P : Q4) (n : Nat) : Nat → Q4
  | 0 => (0, 1, 1, 0)
  | c + 1 => if n / 2 ^ (255 - c) % 2 = 1 then adN (twN (tmN P n c)) P else twN (tmN P n c)
theorem rq_tw {s : Q4} {a : Pr} (h : RQ4 s a) : RQ4 (twN s) (padd a a) := by
  obtain ⟨X, Y, Z, T⟩ := s
  exact rn_twice (X := X) (Y := Y) (Z := Z) (T := T) h rfl rfl rfl rfl rfl rfl rfl rfl rfl rfl rfl rfl rfl rfl
theorem rq_ad {s t : Q4} {a b : Pr} (h : RQ4 s a) (k : RQ4 t b) : RQ4 (adN s t) (padd a b) := by
  obtain ⟨X1, Y1, Z1, T1⟩ := s
  obtain ⟨X2, Y2, Z2, T2⟩ := t
  exact rn_add (X1 := X1) (Y1 := Y1) (Z1 := Z1) (T1 := T1) (X2 := X2) (Y2 := Y2) (Z2 := Z2) (T2 := T2) h k rfl rfl rfl rfl rfl rfl rfl rfl rfl rfl rfl rfl rfl rfl rfl rfl rfl rfl
theorem rq_tm {P : Q4} {a : Pr} {n : Nat} (hP : RQ4 P a) (hn : n < 2 ^ 256) : ∀ c, c ≤ 256 → RQ4 (tmN P n c) (pm a (n / 2 ^ (256 - c)))
  | 0, _ => by
    rw [show 256 - 0 = 256 by decide, Nat.div_eq_of_lt hn]
    exact rn_p0
  | c + 1, h => by
    have ih := rq_tm hP hn c (by omega)
    rw [show 256 - c = (255 - c) + 1 by omega] at ih
    rw [show 256 - (c + 1) = 255 - c by omega]
    have e2 : n / 2 ^ (255 - c + 1) = n / 2 ^ (255 - c) / 2 := by rw [Nat.pow_succ, Nat.div_div_eq_div_mul]
    rw [e2] at ih
    unfold tmN
    generalize n / 2 ^ (255 - c) = m at *
    have hm := Nat.div_add_mod m 2
    have htw := rq_tw ih
    rw [← pm_twice hP.on] at htw
    split
    · rename_i h1
      have := rq_ad htw hP
      rwa [show padd (pm a (2 * (m / 2))) a = pm a m by rw [show m = 2 * (m / 2) + 1 by omega]; exact congrArg (fun k => padd (pm a (2 * k)) a) (by omega)] at this
    · rwa [show 2 * (m / 2) = m by omega] at htw
theorem rq_all {P : Q4} {a : Pr} {n : Nat} (hP : RQ4 P a) (hn : n < 2 ^ 256) : RQ4 (tmN P n 256) (pm a n) := by
  have := rq_tm hP hn 256 (Nat.le_refl _)
  rwa [Nat.sub_self, Nat.pow_zero, Nat.div_one] at this
/-- the neutral point by its numbers -/
theorem rq_zero {s : Q4} {a : Pr} (h : RQ4 s a) (h1 : s.1 = 0) (h2 : s.2.1 = s.2.2.1) : a = p0 := by
  obtain ⟨hz, hx, hy, _⟩ := h.rc
  rw [h1, fp_zero] at hx
  rw [h2] at hy
  have e1 : a.1 = 0 := (zero_prod hx.symm).resolve_right hz
  have e2 : a.2 = 1 := by
    have := finv_mul hz
    have e : (a.2 - 1) * fp s.2.2.1 = 0 := by grind
    have := (zero_prod e).resolve_right hz
    grind
  exact Prod.ext e1 e2
open Sc (LL)
def BQ : Q4 := (BX, BY, 1, BX * BY % PP)
theorem rq_base : RQ4 BQ BP := rn_of (by decide) (by decide) BP_on rfl
theorem order_x : (tmN BQ LL 256).1 = 0 ∧ (tmN BQ LL 256).2.1 = (tmN BQ LL 256).2.2.1 := by decide +kernel
/-- the order times the base is the neutral point -/
theorem pm_LL : pm BP LL = p0 := rq_zero (rq_all rq_base (by decide)) order_x.1 order_x.2
end Go.Proofs.YtefpoollmbmkfaaDoor
