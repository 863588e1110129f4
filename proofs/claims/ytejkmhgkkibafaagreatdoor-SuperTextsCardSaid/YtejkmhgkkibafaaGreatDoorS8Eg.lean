/- The curve -x² + y² = 1 + d x² y² over the field of 2^255 - 19: its points are a group; the formulas of the code. No conditions. Points as bytes: the root of a quotient; what is decoded has its bytes, and comes back from them. No conditions. -/
import Derived.Test.YtejkmhgkkibafaaGreatDoorJ8
import Derived.Test.YtejkmhgkkibafaaGreatDoorOz
import Derived.Test.YtejkmhgkkibafaaGreatDoorJ11
import Derived.Test.YtejkmhgkkibafaaGreatDoorJ16
set_option linter.unusedSimpArgs false
set_option linter.unusedVariables false
namespace Go.Proofs.YtejkmhgkkibafaaGreatDoor.S8

def DD : Nat := 37095705934669439343138083508754565189542113879843219016388785533085940283555
def dd : Fp := fp DD
def ii : Fp := fp II
theorem ii_sq : ii * ii = -1 := fp_II
theorem dd_pow : pw DD ((PP - 1) / 2) = PP - 1 := by rw [pw_mp _ _ (by decide)]; decide +kernel
theorem dd_ns (s : Fp) : s * s ≠ dd := by
  intro h
  have h1 : fp (s.val * s.val) = fp DD := by rw [fp_mul, fp_self]; exact h
  obtain ⟨E, hE⟩ : ∃ E, E = (PP - 1) / 2 := ⟨_, rfl⟩
  have hE2 : 2 * E = PP - 1 := by rw [hE]; decide +kernel
  have hp := dd_pow
  rw [← hE] at hp
  unfold pw at hp
  obtain ⟨M, hM⟩ : ∃ M, M = PP - 1 := ⟨_, rfl⟩
  have hf : ¬ s.val % PP = 0 → s.val ^ M % PP = 1 := fun h0 => by rw [hM]; exact genP.fermat h0
  have hM0 : 0 < M := by rw [hM]; decide +kernel
  have hM1 : M ≠ 1 := by rw [hM]; decide +kernel
  rw [← hM] at hE2 hp
  clear hM hE
  have h2 : (s.val * s.val) ^ E % PP = M := by
    rw [Nat.pow_mod, fp_eq.1 h1, ← Nat.pow_mod]; exact hp
  have h3 : (s.val * s.val) ^ E = s.val ^ M := by
    rw [show s.val * s.val = s.val ^ 2 by rw [Nat.pow_succ, Nat.pow_one], ← Nat.pow_mul, hE2]
  rw [h3] at h2
  by_cases h0 : s.val % PP = 0
  · rw [Nat.pow_mod, h0, Nat.zero_pow hM0, Nat.zero_mod] at h2
    omega
  · rw [hf h0] at h2
    omega
abbrev Pr := Fp × Fp
def OnC (p : Pr) : Prop := p.2 * p.2 - p.1 * p.1 = 1 + dd * (p.1 * p.1) * (p.2 * p.2)
theorem zero_prod' {x y : Fp} (hx : x ≠ 0) (hy : y ≠ 0) : x * y ≠ 0 := fun h => (zero_prod h).elim hx hy
theorem ns_quot {a b : Fp} (hb : b ≠ 0) : a * a ≠ dd * (b * b) := by
  intro h
  have hi := finv_mul hb
  exact dd_ns (a * finv b) (by grind)
theorem dd_nz : dd ≠ 0 := fun h => dd_ns 0 (by grind)
/-- completeness: the denominators are not nought -/
theorem complete {x1 y1 x2 y2 s : Fp} (h1 : y1 * y1 - x1 * x1 = 1 + dd * (x1 * x1) * (y1 * y1)) (h2 : y2 * y2 - x2 * x2 = 1 + dd * (x2 * x2) * (y2 * y2)) (hs : s * s = 1) (he : dd * (x1 * x2 * y1 * y2) = s) : False := by
  have hi := ii_sq
  have k1 : (ii * x1 + s * y1) * (ii * x1 + s * y1) = dd * ((x1 * y1 * (ii * x2 + y2)) * (x1 * y1 * (ii * x2 + y2))) := by grind
  have k2 : (ii * x1 - s * y1) * (ii * x1 - s * y1) = dd * ((x1 * y1 * (ii * x2 - y2)) * (x1 * y1 * (ii * x2 - y2))) := by grind
  have e1 : x1 * y1 * (ii * x2 + y2) = 0 := Classical.byContradiction fun h => ns_quot h k1
  have e2 : x1 * y1 * (ii * x2 - y2) = 0 := Classical.byContradiction fun h => ns_quot h k2
  have n1 : x1 * y1 ≠ 0 := by
    intro h
    have : s = 0 := by grind
    rw [this] at hs
    have : (1 : Fp) = 0 := by grind
    revert this
    decide +kernel
  rcases zero_prod e1 with h | h
  · exact n1 h
  rcases zero_prod e2 with h' | h'
  · exact n1 h'
  have hx : x2 + x2 = 0 := by
    have : ii * (x2 + x2) = 0 := by grind
    exact (zero_prod this).resolve_left fun h => by rw [h] at hi; revert hi; decide +kernel
  have hs2 : s + s = 0 := by rw [← he]; clear he hs k1 k2 e1 e2 h h' h1 h2 n1 hi; grind
  have h4 : (4 : Fp) = (s + s) * (s + s) := by
    have : (s + s) * (s + s) = 4 * (s * s) := by clear he k1 k2 e1 e2 h h' h1 h2 n1 hi hx hs hs2; grind
    rw [this, hs]; decide +kernel
  rw [hs2] at h4
  exact absurd h4 (by decide +kernel)
theorem den_p {p q : Pr} (hp : OnC p) (hq : OnC q) : 1 + dd * (p.1 * q.1 * p.2 * q.2) ≠ 0 := fun h =>
  complete (s := -1) hp hq (by grind) (by grind)
theorem den_m {p q : Pr} (hp : OnC p) (hq : OnC q) : 1 - dd * (p.1 * q.1 * p.2 * q.2) ≠ 0 := fun h =>
  complete (s := 1) hp hq (by grind) (by grind)
def padd (p q : Pr) : Pr := ((p.1 * q.2 + q.1 * p.2) * finv (1 + dd * (p.1 * q.1 * p.2 * q.2)), (p.2 * q.2 + p.1 * q.1) * finv (1 - dd * (p.1 * q.1 * p.2 * q.2)))
def pneg (p : Pr) : Pr := (-p.1, p.2)
def p0 : Pr := (0, 1)
theorem p0_on : OnC p0 := by unfold OnC p0; grind
theorem pneg_on {p : Pr} (h : OnC p) : OnC (pneg p) := by unfold OnC pneg at *; grind
theorem padd_comm (p q : Pr) : padd p q = padd q p := by
  unfold padd
  rw [show p.1 * q.1 * p.2 * q.2 = q.1 * p.1 * q.2 * p.2 by grind, show p.1 * q.2 + q.1 * p.2 = q.1 * p.2 + p.1 * q.2 by grind, show p.2 * q.2 + p.1 * q.1 = q.2 * p.2 + q.1 * p.1 by grind]
theorem finv_one : finv 1 = 1 := by
  have := finv_mul (x := 1) (by decide +kernel)
  grind
theorem den0 (a b : Fp) : (1 : Fp) + dd * (0 * a * 1 * b) = 1 := by
  have : dd * ((0 : Fp) * a * 1 * b) = 0 := by grind
  rw [this]; exact Fin.add_zero 1
theorem den0' (a b : Fp) : (1 : Fp) - dd * (0 * a * 1 * b) = 1 := by
  have : dd * ((0 : Fp) * a * 1 * b) = 0 := by grind
  rw [this]; show (1 : Fp) - 0 = 1; decide +kernel
theorem p0_padd (p : Pr) : padd p0 p = p := by
  unfold padd p0
  refine Prod.ext ?_ ?_
  · show (0 * p.2 + p.1 * 1) * finv (1 + dd * (0 * p.1 * 1 * p.2)) = p.1
    rw [den0, finv_one]; grind
  · show (1 * p.2 + 0 * p.1) * finv (1 - dd * (0 * p.1 * 1 * p.2)) = p.2
    rw [den0', finv_one]; grind
theorem on_closed {x1 y1 x2 y2 u v d : Fp} (h1 : y1 * y1 - x1 * x1 = 1 + d * (x1 * x1) * (y1 * y1)) (h2 : y2 * y2 - x2 * x2 = 1 + d * (x2 * x2) * (y2 * y2))
    (hu : (1 + d * (x1 * x2 * y1 * y2)) * u = 1) (hv : (1 - d * (x1 * x2 * y1 * y2)) * v = 1) :
    (y1 * y2 + x1 * x2) * v * ((y1 * y2 + x1 * x2) * v) - (x1 * y2 + x2 * y1) * u * ((x1 * y2 + x2 * y1) * u) = 1 + d * ((x1 * y2 + x2 * y1) * u * ((x1 * y2 + x2 * y1) * u)) * ((y1 * y2 + x1 * x2) * v * ((y1 * y2 + x1 * x2) * v)) := by
  have e : ∀ D M : Fp, D = d * (x1 * x2 * y1 * y2) → (y1 * y2 + x1 * x2) * (y1 * y2 + x1 * x2) * ((1 + D) * (1 + D)) - (x1 * y2 + x2 * y1) * (x1 * y2 + x2 * y1) * ((1 - D) * (1 - D)) = (1 + D) * (1 + D) * ((1 - D) * (1 - D)) + d * ((x1 * y2 + x2 * y1) * (x1 * y2 + x2 * y1)) * ((y1 * y2 + x1 * x2) * (y1 * y2 + x1 * x2)) := by
    intro D M hD
    grind
  have e' := e _ 0 rfl
  generalize (y1 * y2 + x1 * x2) = B at *
  generalize (x1 * y2 + x2 * y1) = A at *
  generalize d * (x1 * x2 * y1 * y2) = D at *
  clear h1 h2 e
  grind
theorem padd_on {p q : Pr} (hp : OnC p) (hq : OnC q) : OnC (padd p q) :=
  on_closed hp hq (finv_mul (den_p hp hq)) (finv_mul (den_m hp hq))
/-- a / b = c / d -/
theorem quot_eq {a b c d : Fp} (hb : b ≠ 0) (hd : d ≠ 0) (h : a * d = c * b) : a * finv b = c * finv d := by
  have h1 := finv_mul hb
  have h2 := finv_mul hd
  have : a * finv b = a * d * (finv b * finv d) := by grind
  rw [this, h]
  grind
/-- the first number of (p q) r -/
theorem assoc_x {c x1 y1 x2 y2 x3 y3 A B S M A' B' S' M' : Fp} (h1 : x1 * x1 * (y1 * y1) = c * (y1 * y1 - x1 * x1 - 1)) (h2 : x2 * x2 * (y2 * y2) = c * (y2 * y2 - x2 * x2 - 1)) (h3 : x3 * x3 * (y3 * y3) = c * (y3 * y3 - x3 * x3 - 1))
    (hA : A = x1 * y2 + x2 * y1) (hB : B = y1 * y2 + x1 * x2) (hS : S = c + x1 * x2 * y1 * y2) (hM : M = c - x1 * x2 * y1 * y2)
    (hA' : A' = x2 * y3 + x3 * y2) (hB' : B' = y2 * y3 + x2 * x3) (hS' : S' = c + x2 * x3 * y2 * y3) (hM' : M' = c - x2 * x3 * y2 * y3) :
    (A * M * y3 + x3 * B * S) * (S' * M' + c * x1 * A' * y1 * B') = (x1 * B' * S' + A' * M' * y1) * (S * M + c * A * x3 * B * y3) := by
  subst hA hB hS hM hA' hB' hS' hM'
  grind
theorem assoc_y {c x1 y1 x2 y2 x3 y3 A B S M A' B' S' M' : Fp} (h1 : x1 * x1 * (y1 * y1) = c * (y1 * y1 - x1 * x1 - 1)) (h2 : x2 * x2 * (y2 * y2) = c * (y2 * y2 - x2 * x2 - 1)) (h3 : x3 * x3 * (y3 * y3) = c * (y3 * y3 - x3 * x3 - 1))
    (hA : A = x1 * y2 + x2 * y1) (hB : B = y1 * y2 + x1 * x2) (hS : S = c + x1 * x2 * y1 * y2) (hM : M = c - x1 * x2 * y1 * y2)
    (hA' : A' = x2 * y3 + x3 * y2) (hB' : B' = y2 * y3 + x2 * x3) (hS' : S' = c + x2 * x3 * y2 * y3) (hM' : M' = c - x2 * x3 * y2 * y3) :
    (B * S * y3 + A * M * x3) * (S' * M' - c * x1 * A' * y1 * B') = (y1 * B' * S' + x1 * A' * M') * (S * M - c * A * x3 * B * y3) := by
  subst hA hB hS hM hA' hB' hS' hM'
  grind
theorem c_of {c x y : Fp} (hc : dd * c = 1) (h : y * y - x * x = 1 + dd * (x * x) * (y * y)) : x * x * (y * y) = c * (y * y - x * x - 1) := by grind
theorem cancel {k a b : Fp} (hk : k ≠ 0) (h : k * a = k * b) : a = b := by
  have h1 := finv_mul hk
  grind
theorem scale {c d D1 D2 E1 E2 A B A' B' S M S' M' X Y X' Y' : Fp} (hc : d * c = 1) (hS : S = c * D1) (hM : M = c * D2) (hS' : S' = c * E1) (hM' : M' = c * E2) (hA : A = X * D1) (hB : B = Y * D2) (hA' : A' = X' * E1) (hB' : B' = Y' * E2) (x1 y1 x3 y3 : Fp)
    (h : (A * M * y3 + x3 * B * S) * (S' * M' + c * x1 * A' * y1 * B') = (x1 * B' * S' + A' * M' * y1) * (S * M + c * A * x3 * B * y3)) :
    (c * c * c * (D1 * D2) * (E1 * E2)) * ((X * y3 + x3 * Y) * (1 + d * (x1 * X' * y1 * Y'))) = (c * c * c * (D1 * D2) * (E1 * E2)) * ((x1 * Y' + X' * y1) * (1 + d * (X * x3 * Y * y3))) := by
  have e1 : A * M * y3 + x3 * B * S = c * (D1 * D2) * (X * y3 + x3 * Y) := by rw [hA, hM, hB, hS]; clear h; grind
  have e2 : S' * M' + c * x1 * A' * y1 * B' = c * c * (E1 * E2) * (1 + d * (x1 * X' * y1 * Y')) := by rw [hS', hM', hA', hB']; clear h e1; grind
  have e3 : x1 * B' * S' + A' * M' * y1 = c * (E1 * E2) * (x1 * Y' + X' * y1) := by rw [hS', hM', hA', hB']; clear h e1 e2; grind
  have e4 : S * M + c * A * x3 * B * y3 = c * c * (D1 * D2) * (1 + d * (X * x3 * Y * y3)) := by rw [hS, hM, hA, hB]; clear h e1 e2 e3; grind
  rw [e1, e2, e3, e4] at h
  generalize X * y3 + x3 * Y = a at *
  generalize 1 + d * (x1 * X' * y1 * Y') = b at *
  generalize x1 * Y' + X' * y1 = e at *
  generalize 1 + d * (X * x3 * Y * y3) = f at *
  clear e1 e2 e3 e4 hS hM hS' hM' hA hB hA' hB'
  grind
theorem scale' {c d D1 D2 E1 E2 A B A' B' S M S' M' X Y X' Y' : Fp} (hc : d * c = 1) (hS : S = c * D1) (hM : M = c * D2) (hS' : S' = c * E1) (hM' : M' = c * E2) (hA : A = X * D1) (hB : B = Y * D2) (hA' : A' = X' * E1) (hB' : B' = Y' * E2) (x1 y1 x3 y3 : Fp)
    (h : (B * S * y3 + A * M * x3) * (S' * M' - c * x1 * A' * y1 * B') = (y1 * B' * S' + x1 * A' * M') * (S * M - c * A * x3 * B * y3)) :
    (c * c * c * (D1 * D2) * (E1 * E2)) * ((Y * y3 + X * x3) * (1 - d * (x1 * X' * y1 * Y'))) = (c * c * c * (D1 * D2) * (E1 * E2)) * ((y1 * Y' + x1 * X') * (1 - d * (X * x3 * Y * y3))) := by
  have e1 : B * S * y3 + A * M * x3 = c * (D1 * D2) * (Y * y3 + X * x3) := by rw [hA, hM, hB, hS]; clear h; grind
  have e2 : S' * M' - c * x1 * A' * y1 * B' = c * c * (E1 * E2) * (1 - d * (x1 * X' * y1 * Y')) := by rw [hS', hM', hA', hB']; clear h e1; grind
  have e3 : y1 * B' * S' + x1 * A' * M' = c * (E1 * E2) * (y1 * Y' + x1 * X') := by rw [hS', hM', hA', hB']; clear h e1 e2; grind
  have e4 : S * M - c * A * x3 * B * y3 = c * c * (D1 * D2) * (1 - d * (X * x3 * Y * y3)) := by rw [hS, hM, hA, hB]; clear h e1 e2 e3; grind
  rw [e1, e2, e3, e4] at h
  generalize Y * y3 + X * x3 = a at *
  generalize 1 - d * (x1 * X' * y1 * Y') = b at *
  generalize y1 * Y' + x1 * X' = e at *
  generalize 1 - d * (X * x3 * Y * y3) = f at *
  clear e1 e2 e3 e4 hS hM hS' hM' hA hB hA' hB'
  grind
theorem by_inv {a b x : Fp} (hb : b ≠ 0) (hx : x = a * finv b) : a = x * b := by
  have := finv_mul hb
  grind
theorem sS {c d : Fp} (hc : d * c = 1) (t : Fp) : c + t = c * (1 + d * t) := by grind
theorem sM {c d : Fp} (hc : d * c = 1) (t : Fp) : c - t = c * (1 - d * t) := by grind
theorem padd_assoc {p q r : Pr} (hp : OnC p) (hq : OnC q) (hr : OnC r) : padd (padd p q) r = padd p (padd q r) := by
  have hc := finv_mul dd_nz
  have pq := padd_on hp hq
  have qr := padd_on hq hr
  have d1 := den_p hp hq
  have d2 := den_m hp hq
  have e1 := den_p hq hr
  have e2 := den_m hq hr
  have b1 := den_p pq hr
  have b2 := den_m pq hr
  have b3 := den_p hp qr
  have b4 := den_m hp qr
  have hk : finv dd * finv dd * finv dd * ((1 + dd * (p.1 * q.1 * p.2 * q.2)) * (1 - dd * (p.1 * q.1 * p.2 * q.2))) * ((1 + dd * (q.1 * r.1 * q.2 * r.2)) * (1 - dd * (q.1 * r.1 * q.2 * r.2))) ≠ 0 := by
    have hcn : finv dd ≠ 0 := fun h => by
      rw [h] at hc; revert hc; generalize dd = z; intro hc
      have : (1 : Fp) = 0 := by rw [← hc]; exact Fin.mul_zero z
      revert this; decide +kernel
    exact zero_prod' (zero_prod' (zero_prod' (zero_prod' hcn hcn) hcn) (zero_prod' d1 d2)) (zero_prod' e1 e2)
  obtain ⟨X, hX⟩ : ∃ X, X = (padd p q).1 := ⟨_, rfl⟩
  obtain ⟨Y, hY⟩ : ∃ X, X = (padd p q).2 := ⟨_, rfl⟩
  obtain ⟨X', hX'⟩ : ∃ X, X = (padd q r).1 := ⟨_, rfl⟩
  obtain ⟨Y', hY'⟩ : ∃ X, X = (padd q r).2 := ⟨_, rfl⟩
  have kA := by_inv d1 hX
  have kB := by_inv d2 hY
  have kA' := by_inv e1 hX'
  have kB' := by_inv e2 hY'
  have hS := sS hc
  have hM := sM hc
  have f1 := scale hc (hS (p.1 * q.1 * p.2 * q.2)) (hM _) (hS (q.1 * r.1 * q.2 * r.2)) (hM _) kA kB kA' kB' p.1 p.2 r.1 r.2
    (assoc_x (c_of hc hp) (c_of hc hq) (c_of hc hr) rfl rfl rfl rfl rfl rfl rfl rfl)
  have f2 := scale' hc (hS (p.1 * q.1 * p.2 * q.2)) (hM _) (hS (q.1 * r.1 * q.2 * r.2)) (hM _) kA kB kA' kB' p.1 p.2 r.1 r.2
    (assoc_y (c_of hc hp) (c_of hc hq) (c_of hc hr) rfl rfl rfl rfl rfl rfl rfl rfl)
  have g1 := cancel hk f1
  have g2 := cancel hk f2
  rw [hX, hY, hX', hY'] at g1 g2
  refine Prod.ext ?_ ?_
  · exact quot_eq b1 b3 g1
  · exact quot_eq b2 b4 g2
theorem padd_neg {p : Pr} (hp : OnC p) : padd p (pneg p) = p0 := by
  have d2 := den_m hp (pneg_on hp)
  have h2 := finv_mul d2
  unfold padd pneg p0 at *
  refine Prod.ext ?_ ?_
  · show (p.1 * p.2 + -p.1 * p.2) * _ = 0
    have : p.1 * p.2 + -p.1 * p.2 = 0 := by grind
    rw [this]; exact Fin.zero_mul _
  · have e : p.2 * p.2 + p.1 * -p.1 = 1 - dd * (p.1 * -p.1 * p.2 * p.2) := by unfold OnC at hp; grind
    show (p.2 * p.2 + p.1 * -p.1) * finv (1 - dd * (p.1 * -p.1 * p.2 * p.2)) = 1
    rw [e]; exact h2
theorem padd_p0 (p : Pr) : padd p p0 = p := by rw [padd_comm, p0_padd]
/-- n times p -/
def pm (p : Pr) : Nat → Pr
  | 0 => p0
  | n + 1 => padd (pm p n) p
theorem pm_on {p : Pr} (hp : OnC p) : ∀ n, OnC (pm p n)
  | 0 => p0_on
  | n + 1 => padd_on (pm_on hp n) hp
theorem pm_add {p : Pr} (hp : OnC p) (m : Nat) : ∀ n, pm p (m + n) = padd (pm p m) (pm p n)
  | 0 => (padd_p0 _).symm
  | n + 1 => by
    show padd (pm p (m + n)) p = padd (pm p m) (padd (pm p n) p)
    rw [pm_add hp m n, padd_assoc (pm_on hp m) (pm_on hp n) hp]
theorem pm_twice {p : Pr} (hp : OnC p) (m : Nat) : pm p (2 * m) = padd (pm p m) (pm p m) := by rw [Nat.two_mul, pm_add hp]
theorem pm_odd {p : Pr} (hp : OnC p) (m : Nat) : pm p (2 * m + 1) = padd (padd (pm p m) (pm p m)) p := by rw [← pm_twice hp]; rfl
theorem pm_p0 : ∀ n, pm p0 n = p0
  | 0 => rfl
  | n + 1 => by show padd (pm p0 n) p0 = p0; rw [pm_p0 n, p0_padd]
theorem pm_mul {p : Pr} (hp : OnC p) (m : Nat) : ∀ n, pm p (m * n) = pm (pm p m) n
  | 0 => rfl
  | n + 1 => by rw [Nat.mul_succ, pm_add hp, pm_mul hp m n]; rfl
theorem pneg_padd {p q : Pr} : pneg (padd p q) = padd (pneg p) (pneg q) := by
  unfold padd pneg
  refine Prod.ext ?_ ?_
  · show -((p.1 * q.2 + q.1 * p.2) * finv (1 + dd * (p.1 * q.1 * p.2 * q.2))) = (-p.1 * q.2 + -q.1 * p.2) * finv (1 + dd * (-p.1 * -q.1 * p.2 * q.2))
    rw [show -p.1 * -q.1 * p.2 * q.2 = p.1 * q.1 * p.2 * q.2 by grind]; grind
  · show (p.2 * q.2 + p.1 * q.1) * finv (1 - dd * (p.1 * q.1 * p.2 * q.2)) = (p.2 * q.2 + -p.1 * -q.1) * finv (1 - dd * (-p.1 * -q.1 * p.2 * q.2))
    rw [show -p.1 * -q.1 * p.2 * q.2 = p.1 * q.1 * p.2 * q.2 by grind, show -p.1 * -q.1 = p.1 * q.1 by grind]
theorem pneg_p0 : pneg p0 = p0 := by
  unfold pneg p0
  refine Prod.ext ?_ rfl
  show -(0 : Fp) = 0
  decide +kernel
theorem pm_pneg (p : Pr) : ∀ n, pm (pneg p) n = pneg (pm p n)
  | 0 => pneg_p0.symm
  | n + 1 => by show padd (pm (pneg p) n) (pneg p) = pneg (padd (pm p n) p); rw [pm_pneg p n, pneg_padd]
/-! ### the formulas of the code: a point is (X : Y : Z : T) -/
/-- X, Y, Z, T tell the point a -/
def Rc (X Y Z T : Fp) (a : Pr) : Prop := Z ≠ 0 ∧ X = a.1 * Z ∧ Y = a.2 * Z ∧ T = a.1 * a.2 * Z
/-- X, Y, Z tell the point a -/
def Rr (X Y Z : Fp) (a : Pr) : Prop := Z ≠ 0 ∧ X = a.1 * Z ∧ Y = a.2 * Z
theorem Rc.rr {X Y Z T : Fp} {a : Pr} (h : Rc X Y Z T a) : Rr X Y Z a := ⟨h.1, h.2.1, h.2.2.1⟩
theorem two_nz : (2 : Fp) ≠ 0 := by decide +kernel
/-- E F, G H, F G, E H with F, G not nought: E / G, H / F -/
theorem rc_of {E F G H : Fp} {x y : Fp} (hF : F ≠ 0) (hG : G ≠ 0) (hx : E = x * G) (hy : H = y * F) : Rc (E * F) (G * H) (F * G) (E * H) (x, y) :=
  ⟨zero_prod' hF hG, by subst hx hy; show x * G * F = x * (F * G); grind, by subst hx hy; show G * (y * F) = y * (F * G); grind, by subst hx hy; show x * G * (y * F) = x * y * (F * G); grind⟩
theorem rc_add {X1 Y1 Z1 T1 X2 Y2 Z2 T2 : Fp} {a b : Pr} (ha : OnC a) (hb : OnC b) (h1 : Rc X1 Y1 Z1 T1 a) (h2 : Rc X2 Y2 Z2 T2 b) {A B C D : Fp}
    (hA : A = (Y1 - X1) * (Y2 - X2)) (hB : B = (Y1 + X1) * (Y2 + X2)) (hC : C = T1 * (2 * dd) * T2) (hD : D = (Z1 + Z1) * Z2) :
    Rc ((B - A) * (D - C)) ((D + C) * (B + A)) ((D - C) * (D + C)) ((B - A) * (B + A)) (padd a b) := by
  obtain ⟨z1, x1, y1, t1⟩ := h1
  obtain ⟨z2, x2, y2, t2⟩ := h2
  have dp := den_p ha hb
  have dm := den_m ha hb
  have eF : D - C = 2 * Z1 * Z2 * (1 - dd * (a.1 * b.1 * a.2 * b.2)) := by subst hC hD t1 t2; grind
  have eG : D + C = 2 * Z1 * Z2 * (1 + dd * (a.1 * b.1 * a.2 * b.2)) := by subst hC hD t1 t2; clear eF; grind
  have nz : 2 * Z1 * Z2 ≠ 0 := zero_prod' (zero_prod' two_nz z1) z2
  refine rc_of (by rw [eF]; exact zero_prod' nz dm) (by rw [eG]; exact zero_prod' nz dp) ?_ ?_
  · have k := finv_mul dp
    rw [eG]
    have e : B - A = 2 * Z1 * Z2 * (a.1 * b.2 + b.1 * a.2) := by subst hA hB x1 x2 y1 y2; clear eF eG k; grind
    rw [e]
    generalize 1 + dd * (a.1 * b.1 * a.2 * b.2) = u at *
    generalize a.1 * b.2 + b.1 * a.2 = s at *
    clear eF eG e hA hB hC hD x1 x2 y1 y2 t1 t2 nz z1 z2 dm dp ha hb
    grind
  · have k := finv_mul dm
    rw [eF]
    have e : B + A = 2 * Z1 * Z2 * (a.2 * b.2 + a.1 * b.1) := by subst hA hB x1 x2 y1 y2; clear eF eG k; grind
    rw [e]
    generalize 1 - dd * (a.1 * b.1 * a.2 * b.2) = u at *
    generalize a.2 * b.2 + a.1 * b.1 = s at *
    clear eF eG e hA hB hC hD x1 x2 y1 y2 t1 t2 nz z1 z2 dm dp ha hb
    grind
theorem rc_twice {X Y Z T : Fp} {a : Pr} (ha : OnC a) (h : Rc X Y Z T a) {A B C E G H F : Fp} (hA : A = X * X) (hB : B = Y * Y) (hC : C = Z * Z + Z * Z) (hH : H = A + B) (hE : E = H - (X + Y) * (X + Y)) (hG : G = A - B) (hF : F = C + G) :
    Rc (E * F) (G * H) (F * G) (E * H) (padd a a) := by
  obtain ⟨z, x, y, t⟩ := h
  have dp := den_p ha ha
  have dm := den_m ha ha
  unfold OnC at ha
  have eG : G = -(Z * Z) * (1 + dd * (a.1 * a.1 * a.2 * a.2)) := by subst hG hA hB x y; clear hE hH hF hC; grind
  have eF : F = Z * Z * (1 - dd * (a.1 * a.1 * a.2 * a.2)) := by rw [hF, eG, hC]; clear hE hH hF hC hG eG; grind
  have zz := zero_prod' z z
  have nzz : -(Z * Z) ≠ 0 := fun h => zz (by grind)
  refine rc_of (by rw [eF]; exact zero_prod' zz dm) (by rw [eG]; exact zero_prod' nzz dp) ?_ ?_
  · have k := finv_mul dp
    have e : E = -(Z * Z) * (a.1 * a.2 + a.1 * a.2) := by subst hE hH hA hB x y; clear eF eG k hG hF hC; grind
    rw [eG, e]
    generalize 1 + dd * (a.1 * a.1 * a.2 * a.2) = u at *
    generalize a.1 * a.2 + a.1 * a.2 = s at *
    clear eF eG e hA hB hC hE hG hF hH x y t nzz zz z dm dp ha
    grind
  · have k := finv_mul dm
    have e : H = Z * Z * (a.2 * a.2 + a.1 * a.1) := by subst hH hA hB x y; clear eF eG k hG hF hC hE; grind
    rw [eF, e]
    generalize 1 - dd * (a.1 * a.1 * a.2 * a.2) = u at *
    generalize a.2 * a.2 + a.1 * a.1 = s at *
    clear eF eG e hA hB hC hE hG hF hH x y t nzz zz z dm dp ha
    grind
theorem rr_inv {X Y Z : Fp} {a : Pr} (h : Rr X Y Z a) : X * finv Z = a.1 ∧ Y * finv Z = a.2 := by
  obtain ⟨z, x, y⟩ := h
  have := finv_mul z
  subst x y
  constructor <;> grind
end Go.Proofs.YtejkmhgkkibafaaGreatDoor.S8

namespace Go.Proofs.YtejkmhgkkibafaaGreatDoor.S8

/-! ### The root of a quotient -/
theorem fp_pow_mod (A n : Nat) : fp (pw (A % PP) n) = fp (A ^ n) := by
  unfold pw
  rw [fp_mod]; exact fp_eq.2 (by rw [← Nat.pow_mod])
theorem rtX_fp (u v E : Nat) (hE : E = 7237005577332262213973186563042994240829374041602535252466099000494570602493) : fp (rtX u v) = fp u * (fp v * fp v * fp v) * fp ((u * v7 v) ^ E) := by
  unfold rtX
  rw [← hE, fp_mod, fp_mul, fp_mod, fp_mul, fp_v3, fp_pow_mod]
theorem key_pow (V X E : Nat) (hE : 8 * E + 4 = PP - 1) (hV : V % PP ≠ 0) (hX : X % PP ≠ 0) : fp ((V * V * (V * V) * (V * V * (V * V)) * (X * X)) ^ (2 * E + 1)) * fp ((V * V * (V * V) * (V * V * (V * V)) * (X * X)) ^ (2 * E + 1)) = 1 := by
  rw [← fp_mul, ← fp_one]
  refine fp_eq.2 ?_
  obtain ⟨M, hM⟩ : ∃ M, M = PP - 1 := ⟨_, rfl⟩
  have f1 : V ^ M % PP = 1 := by rw [hM]; exact genP.fermat hV
  have f2 : X ^ M % PP = 1 := by rw [hM]; exact genP.fermat hX
  rw [← hM] at hE
  clear hM
  have e : (V * V * (V * V) * (V * V * (V * V)) * (X * X)) ^ (2 * E + 1) * (V * V * (V * V) * (V * V * (V * V)) * (X * X)) ^ (2 * E + 1) = (V ^ M * V ^ M * (V ^ M * V ^ M)) * X ^ M := by
    have a1 : V * V * (V * V) * (V * V * (V * V)) = V ^ 8 := by simp only [Nat.pow_succ, Nat.pow_zero, Nat.one_mul, Nat.mul_assoc]
    have a2 : X * X = X ^ 2 := by simp only [Nat.pow_succ, Nat.pow_zero, Nat.one_mul]
    rw [a1, a2]
    simp only [← Nat.pow_add, Nat.mul_pow, ← Nat.pow_mul]
    rw [Nat.mul_mul_mul_comm, ← Nat.pow_add, ← Nat.pow_add, show 8 * (2 * E + 1) + 8 * (2 * E + 1) = M + M + (M + M) by omega, show 2 * (2 * E + 1) + 2 * (2 * E + 1) = M by omega]
  rw [e]
  have g1 : V ^ M * V ^ M % PP = 1 := by rw [Nat.mul_mod, f1]; decide +kernel
  have g2 : V ^ M * V ^ M * (V ^ M * V ^ M) % PP = 1 := by rw [Nat.mul_mod, g1]; decide +kernel
  rw [Nat.mul_mod, g2, f2]
theorem v7_fp' (v : Nat) : fp (v7 v) = fp (v * v * v * (v * v * v) * v) := by rw [fp_v7, fp_v3]; simp only [fp_mul]
theorem fp_pow_congr {A B : Nat} (h : fp A = fp B) (n : Nat) : fp (A ^ n) = fp (B ^ n) := fp_eq.2 (by rw [Nat.pow_mod, fp_eq.1 h, ← Nat.pow_mod])
/-- if u is v times a square it has its root -/
theorem rt_quot {u v X : Nat} (hv : fp v ≠ 0) (h : fp u = fp v * (fp X * fp X)) : rtB u v = true := by
  unfold rtB
  by_cases hx : fp X = 0
  · have hu : fp u = 0 := by rw [h, hx]; grind
    have : rtW u v = u % PP := fp_inj (Nat.mod_lt _ PP_pos) (Nat.mod_lt _ PP_pos) (by
      rw [fp_W, fp_mod, rtX_fp u v _ rfl, hu]; generalize fp _ = z; grind)
    rw [decide_eq_true this, Bool.true_or]
  obtain ⟨E, hE⟩ : ∃ E, E = 7237005577332262213973186563042994240829374041602535252466099000494570602493 := ⟨_, rfl⟩
  have hE8 : 8 * E + 4 = PP - 1 := by rw [hE]; decide +kernel
  have hk := key_pow v X E hE8 (fp_nz hv) (fp_nz hx)
  have hW : fp (rtW u v) = fp u * fp ((v * v * (v * v) * (v * v * (v * v)) * (X * X)) ^ (2 * E + 1)) := by
    rw [fp_W, rtX_fp u v E hE]
    have e1 : fp (u * v7 v) = fp (v * v * (v * v) * (v * v * (v * v)) * (X * X)) := by rw [fp_mul, v7_fp', h]; simp only [fp_mul]; grind
    rw [fp_pow_congr e1 E]
    generalize hA : v * v * (v * v) * (v * v * (v * v)) * (X * X) = A
    have hA' : fp A = fp v * fp v * (fp v * fp v) * (fp v * fp v * (fp v * fp v)) * (fp X * fp X) := by rw [← hA]; simp only [fp_mul]
    rw [show A ^ (2 * E + 1) = A ^ E * A ^ E * A by rw [← Nat.pow_add, ← Nat.pow_succ]; congr 1; omega, fp_mul, fp_mul, hA', h]
    generalize fp (A ^ E) = z
    clear hA' hA e1 hk hE8
    grind
  rcases one_or_neg hk with hs | hs
  · have : rtW u v = u % PP := fp_inj (Nat.mod_lt _ PP_pos) (Nat.mod_lt _ PP_pos) (by rw [hW, hs, fp_mod]; grind)
    rw [decide_eq_true this, Bool.true_or]
  · have : rtW u v = (PP - u % PP) % PP := fp_inj (Nat.mod_lt _ PP_pos) (Nat.mod_lt _ PP_pos) (by rw [hW, hs, fp_mod, fp_neg]; grind)
    rw [decide_eq_true this, Bool.or_true]
theorem rtR_ltP (u v : Nat) : rtR u v < PP := by
  unfold rtR
  split
  · exact rtX_lt _ _
  · split
    · exact Nat.mod_lt _ PP_pos
    · exact PP_pos
/-! ### A point's bytes -/
def dU (y : Nat) : Nat := (y * y % PP + (PP - 1 % PP)) % PP
def dV (y : Nat) : Nat := (DD * (y * y % PP) % PP + 1) % PP
def dX (y : Nat) : Nat := rtR (dU y) (dV y)
def dB (y : Nat) : Bool := rtB (dU y) (dV y)
def top (V : Nat) : Bool := decide (2 ^ 255 ≤ V)
def xodd (x : Nat) : Bool := decide (x % PP % 2 = 1)
def dXf (y : Nat) (o : Bool) : Nat := if xodd (dX y) = o then dX y else (PP - dX y % PP) % PP
def dOk (V : Nat) : Bool := decide (V % 2 ^ 255 < PP) && dB (V % 2 ^ 255) && !(top V && decide (dX (V % 2 ^ 255) = 0))
def dPt (V : Nat) : Pr := (fp (dXf (V % 2 ^ 255) (top V)), fp (V % 2 ^ 255))
def enc (a : Pr) : Nat := a.2.val + 2 ^ 255 * (a.1.val % 2)
theorem fp_dU (y : Nat) : fp (dU y) = fp y * fp y - 1 := by unfold dU; rw [fp_mod, fp_add, fp_mod, fp_neg, fp_mul, fp_one]; grind
theorem fp_dV (y : Nat) : fp (dV y) = dd * (fp y * fp y) + 1 := by unfold dV; rw [fp_mod, fp_add, fp_mod, fp_mul, fp_mod, fp_mul, fp_one]; rfl
theorem dV_nz (y : Nat) : fp (dV y) ≠ 0 := by
  rw [fp_dV]
  intro h
  by_cases hy : fp y = 0
  · rw [hy] at h
    have e : dd * (0 * 0) + 1 = (1 : Fp) := by
      have : dd * (0 * 0) = 0 := by rw [Fin.mul_zero, Fin.mul_zero]
      rw [this]; decide +kernel
    rw [e] at h
    exact absurd h (by decide +kernel)
  · exact ns_quot (a := ii) hy (by have := ii_sq; grind)
theorem dX_sq {y : Nat} (h : dB y = true) : fp (dV y) * (fp (dX y) * fp (dX y)) = fp (dU y) := rt_sq h
theorem dXf_sq (y : Nat) (o : Bool) : fp (dXf y o) * fp (dXf y o) = fp (dX y) * fp (dX y) := by
  unfold dXf
  split
  · rfl
  · rw [fp_mod, fp_neg]; grind
theorem dPt_on {V : Nat} (h : dOk V = true) : OnC (dPt V) := by
  unfold dOk at h
  simp only [Bool.and_eq_true] at h
  have h1 := dX_sq h.1.2
  have h2 := dXf_sq (V % 2 ^ 255) (top V)
  rw [fp_dV, fp_dU] at h1
  unfold OnC dPt
  show fp (V % 2 ^ 255) * fp (V % 2 ^ 255) - fp (dXf (V % 2 ^ 255) (top V)) * fp (dXf (V % 2 ^ 255) (top V)) = 1 + dd * (fp (dXf (V % 2 ^ 255) (top V)) * fp (dXf (V % 2 ^ 255) (top V))) * (fp (V % 2 ^ 255) * fp (V % 2 ^ 255))
  rw [h2]
  generalize fp (V % 2 ^ 255) = y at *
  generalize fp (dX (V % 2 ^ 255)) = x at *
  clear h2 h
  grind
theorem dX_ltP (y : Nat) : dX y < PP := rtR_ltP _ _
theorem PP_odd : PP % 2 = 1 := by decide +kernel
theorem PP_top : PP < 2 ^ 255 := by decide +kernel
theorem odd_neg {x : Nat} (h0 : x ≠ 0) (hx : x < PP) : (PP - x) % 2 = 1 - x % 2 := by
  have := PP_odd
  omega
theorem dXf_par {y : Nat} {o : Bool} (h : ¬ (o = true ∧ dX y = 0)) : dXf y o < PP ∧ decide (dXf y o % 2 = 1) = o := by
  have hl := dX_ltP y
  unfold dXf xodd
  rw [Nat.mod_eq_of_lt hl]
  split
  · rename_i h1; exact ⟨hl, h1⟩
  · rename_i h1
    by_cases h0 : dX y = 0
    · rw [h0] at h1
      have : o = false := by
        cases o
        · rfl
        · exact absurd ⟨rfl, h0⟩ h
      rw [this] at h1
      exact absurd (by decide) h1
    · have h2 := odd_neg h0 hl
      have hP : (PP - dX y) % PP = PP - dX y := Nat.mod_eq_of_lt (by omega)
      rw [hP, h2]
      refine ⟨by omega, ?_⟩
      have hp := Nat.mod_two_eq_zero_or_one (dX y)
      rcases hp with hp | hp <;> rw [hp] at h1 ⊢ <;> cases o <;> simp_all
theorem enc_top (a : Pr) : enc a % 2 ^ 255 = a.2.val ∧ top (enc a) = decide (a.1.val % 2 = 1) ∧ enc a < 2 ^ 256 := by
  have h1 := a.2.isLt
  have h2 := PP_top
  unfold enc top
  refine ⟨by omega, ?_, by omega⟩
  by_cases h : a.1.val % 2 = 1
  · rw [decide_eq_true h, h]; exact decide_eq_true (by omega)
  · rw [decide_eq_false h]; exact decide_eq_false (by omega)
theorem dec_enc {a : Pr} (h : OnC a) : dOk (enc a) = true ∧ dPt (enc a) = a := by
  obtain ⟨e1, e2, e3⟩ := enc_top a
  have hv := dV_nz a.2.val
  have hu : fp (dU a.2.val) = fp (dV a.2.val) * (fp a.1.val * fp a.1.val) := by
    rw [fp_dU, fp_dV, fp_self, fp_self]
    unfold OnC at h
    grind
  have hb : dB a.2.val = true := rt_quot hv hu
  have hs := dX_sq hb
  rw [hu] at hs
  have hx : fp (dX a.2.val) = a.1 ∨ fp (dX a.2.val) = - a.1 := by
    have := cancel hv hs
    rw [fp_self] at this
    exact sq_eq this
  have hl := dX_ltP a.2.val
  have hx0 : dX a.2.val = 0 → a.1.val = 0 := by
    intro h0
    rw [h0, fp_zero] at hx
    have : a.1 = 0 := by rcases hx with h | h <;> grind
    rw [this]; rfl
  have hn : ¬ (top (enc a) = true ∧ dX a.2.val = 0) := by
    rintro ⟨p1, p2⟩
    rw [e2, hx0 p2] at p1
    cases p1
  refine ⟨?_, ?_⟩
  · unfold dOk
    rw [e1, hb, decide_eq_true a.2.isLt]
    cases ht : top (enc a)
    · rfl
    · have : ¬ dX a.2.val = 0 := fun h0 => hn ⟨ht, h0⟩
      simp [this]
  · unfold dPt
    rw [e1]
    refine Prod.ext ?_ (fp_self _)
    show fp (dXf a.2.val (top (enc a))) = a.1
    obtain ⟨p1, p2⟩ := dXf_par hn
    have hz : fp (dXf a.2.val (top (enc a))) = a.1 ∨ fp (dXf a.2.val (top (enc a))) = -a.1 := by
      have := dXf_sq a.2.val (top (enc a))
      have h3 := cancel hv hs
      rw [fp_self] at h3
      exact sq_eq (by rw [this, h3])
    rcases hz with hz | hz
    · exact hz
    · rw [e2] at p1 p2 hz ⊢
      generalize dXf a.2.val (decide (a.1.val % 2 = 1)) = z at *
      have hz2 : z = (PP - a.1.val % PP) % PP := fp_inj p1 (Nat.mod_lt _ PP_pos) (by rw [hz, fp_mod, fp_neg, fp_self])
      rw [Nat.mod_eq_of_lt a.1.isLt] at hz2
      by_cases h0 : a.1.val = 0
      · have : a.1 = 0 := Fin.ext h0
        rw [hz, this]; decide +kernel
      · exfalso
        rw [Nat.mod_eq_of_lt (by omega : PP - a.1.val < PP)] at hz2
        have h4 := odd_neg h0 a.1.isLt
        rw [← hz2] at h4
        have h5 := Nat.mod_two_eq_zero_or_one a.1.val
        rcases h5 with h5 | h5 <;> rw [h5] at h4 p2 <;> rw [h4] at p2 <;> cases p2
end Go.Proofs.YtejkmhgkkibafaaGreatDoor.S8
