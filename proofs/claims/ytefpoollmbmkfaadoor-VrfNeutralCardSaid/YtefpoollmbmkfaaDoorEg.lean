/- The curve -x² + y² = 1 + d x² y² over the field of 2^255 - 19: its points are a group; the formulas of the code. No conditions. Points as bytes: the root of a quotient; what is decoded has its bytes, and comes back from them. No conditions. -/
import Derived.Test.YtefpoollmbmkfaaDoorEf
import Derived.Test.YtefpoollmbmkfaaDoorEe
set_option linter.unusedSimpArgs false
set_option linter.unusedVariables false
namespace Go.Proofs.YtefpoollmbmkfaaDoor

def DD : Nat := 37095705934669439343138083508754565189542113879843219016388785533085940283555
def dd : Fp := fp DD
def ii : Fp := fp II
theorem j5t : ii * ii = -1 := j5s
theorem j7u : pw DD ((PP - 1) / 2) = PP - 1 := by rw [g2a _ _ (by decide)]; decide +kernel
theorem j5u (s : Fp) : s * s ≠ dd := by
  intro h
  have h1 : fp (s.val * s.val) = fp DD := by rw [b9, K1]; exact h
  obtain ⟨E, hE⟩ : ∃ E, E = (PP - 1) / 2 := ⟨_, rfl⟩
  have hE2 : 2 * E = PP - 1 := by rw [hE]; decide +kernel
  have hp := j7u
  rw [← hE] at hp
  unfold pw at hp
  obtain ⟨M, hM⟩ : ∃ M, M = PP - 1 := ⟨_, rfl⟩
  have hf : ¬ s.val % PP = 0 → s.val ^ M % PP = 1 := fun h0 => by rw [hM]; exact genP.fermat h0
  have hM0 : 0 < M := by rw [hM]; decide +kernel
  have hM1 : M ≠ 1 := by rw [hM]; decide +kernel
  rw [← hM] at hE2 hp
  clear hM hE
  have h2 : (s.val * s.val) ^ E % PP = M := by
    rw [Nat.pow_mod, fp_eq.1 h1, ← Nat.pow_mod]; exact hp
  have h3 : (s.val * s.val) ^ E = s.val ^ M := by
    rw [show s.val * s.val = s.val ^ 2 by rw [Nat.pow_succ, Nat.pow_one], ← Nat.pow_mul, hE2]
  rw [h3] at h2
  by_cases h0 : s.val % PP = 0
  · rw [Nat.pow_mod, h0, Nat.zero_pow hM0, Nat.zero_mod] at h2
    omega
  · rw [hf h0] at h2
    omega
abbrev Pr := Fp × Fp
def p5 (p : Pr) : Prop := p.2 * p.2 - p.1 * p.1 = 1 + dd * (p.1 * p.1) * (p.2 * p.2)
theorem m7 {x y : Fp} (hx : x ≠ 0) (hy : y ≠ 0) : x * y ≠ 0 := fun h => (G9 h).elim hx hy
theorem q6k {a b : Fp} (hb : b ≠ 0) : a * a ≠ dd * (b * b) := by
  intro h
  have hi := c7 hb
  exact j5u (a * K7 b) (by grind)
theorem g2m : dd ≠ 0 := fun h => j5u 0 (by grind)
theorem q7u {x1 y1 x2 y2 s : Fp} (h1 : y1 * y1 - x1 * x1 = 1 + dd * (x1 * x1) * (y1 * y1)) (h2 : y2 * y2 - x2 * x2 = 1 + dd * (x2 * x2) * (y2 * y2)) (hs : s * s = 1) (he : dd * (x1 * x2 * y1 * y2) = s) : False := by
  have hi := j5t
  have k1 : (ii * x1 + s * y1) * (ii * x1 + s * y1) = dd * ((x1 * y1 * (ii * x2 + y2)) * (x1 * y1 * (ii * x2 + y2))) := by grind
  have k2 : (ii * x1 - s * y1) * (ii * x1 - s * y1) = dd * ((x1 * y1 * (ii * x2 - y2)) * (x1 * y1 * (ii * x2 - y2))) := by grind
  have e1 : x1 * y1 * (ii * x2 + y2) = 0 := Classical.byContradiction fun h => q6k h k1
  have e2 : x1 * y1 * (ii * x2 - y2) = 0 := Classical.byContradiction fun h => q6k h k2
  have n1 : x1 * y1 ≠ 0 := by
    intro h
    have : s = 0 := by grind
    rw [this] at hs
    have : (1 : Fp) = 0 := by grind
    revert this
    decide +kernel
  rcases G9 e1 with h | h
  · exact n1 h
  rcases G9 e2 with h' | h'
  · exact n1 h'
  have hx : x2 + x2 = 0 := by
    have : ii * (x2 + x2) = 0 := by grind
    exact (G9 this).resolve_left fun h => by rw [h] at hi; revert hi; decide +kernel
  have hs2 : s + s = 0 := by rw [← he]; clear he hs k1 k2 e1 e2 h h' h1 h2 n1 hi; grind
  have h4 : (4 : Fp) = (s + s) * (s + s) := by
    have : (s + s) * (s + s) = 4 * (s * s) := by clear he k1 k2 e1 e2 h h' h1 h2 n1 hi hx hs hs2; grind
    rw [this, hs]; decide +kernel
  rw [hs2] at h4
  exact absurd h4 (by decide +kernel)
theorem q3f {p q : Pr} (hp : p5 p) (hq : p5 q) : 1 + dd * (p.1 * q.1 * p.2 * q.2) ≠ 0 := fun h =>
  q7u (s := -1) hp hq (by grind) (by grind)
theorem q1o {p q : Pr} (hp : p5 p) (hq : p5 q) : 1 - dd * (p.1 * q.1 * p.2 * q.2) ≠ 0 := fun h =>
  q7u (s := 1) hp hq (by grind) (by grind)
def d5 (p q : Pr) : Pr := ((p.1 * q.2 + q.1 * p.2) * K7 (1 + dd * (p.1 * q.1 * p.2 * q.2)), (p.2 * q.2 + p.1 * q.1) * K7 (1 - dd * (p.1 * q.1 * p.2 * q.2)))
def G4 (p : Pr) : Pr := (-p.1, p.2)
def p0 : Pr := (0, 1)
theorem y1o : p5 p0 := by unfold p5 p0; grind
theorem q6l {p : Pr} (h : p5 p) : p5 (G4 p) := by unfold p5 G4 at *; grind
theorem y3l (p q : Pr) : d5 p q = d5 q p := by
  unfold d5
  rw [show p.1 * q.1 * p.2 * q.2 = q.1 * p.1 * q.2 * p.2 by grind, show p.1 * q.2 + q.1 * p.2 = q.1 * p.2 + p.1 * q.2 by grind, show p.2 * q.2 + p.1 * q.1 = q.2 * p.2 + q.1 * p.1 by grind]
theorem q7v : K7 1 = 1 := by
  have := c7 (x := 1) (by decide +kernel)
  grind
theorem g6f (a b : Fp) : (1 : Fp) + dd * (0 * a * 1 * b) = 1 := by
  have : dd * ((0 : Fp) * a * 1 * b) = 0 := by grind
  rw [this]; exact Fin.add_zero 1
theorem g2n (a b : Fp) : (1 : Fp) - dd * (0 * a * 1 * b) = 1 := by
  have : dd * ((0 : Fp) * a * 1 * b) = 0 := by grind
  rw [this]; show (1 : Fp) - 0 = 1; decide +kernel
theorem q2g (p : Pr) : d5 p0 p = p := by
  unfold d5 p0
  refine Prod.ext ?_ ?_
  · show (0 * p.2 + p.1 * 1) * K7 (1 + dd * (0 * p.1 * 1 * p.2)) = p.1
    rw [g6f, q7v]; grind
  · show (1 * p.2 + 0 * p.1) * K7 (1 - dd * (0 * p.1 * 1 * p.2)) = p.2
    rw [g2n, q7v]; grind
theorem y3m {x1 y1 x2 y2 u v d : Fp} (h1 : y1 * y1 - x1 * x1 = 1 + d * (x1 * x1) * (y1 * y1)) (h2 : y2 * y2 - x2 * x2 = 1 + d * (x2 * x2) * (y2 * y2))
    (hu : (1 + d * (x1 * x2 * y1 * y2)) * u = 1) (hv : (1 - d * (x1 * x2 * y1 * y2)) * v = 1) :
    (y1 * y2 + x1 * x2) * v * ((y1 * y2 + x1 * x2) * v) - (x1 * y2 + x2 * y1) * u * ((x1 * y2 + x2 * y1) * u) = 1 + d * ((x1 * y2 + x2 * y1) * u * ((x1 * y2 + x2 * y1) * u)) * ((y1 * y2 + x1 * x2) * v * ((y1 * y2 + x1 * x2) * v)) := by
  have e : ∀ D M : Fp, D = d * (x1 * x2 * y1 * y2) → (y1 * y2 + x1 * x2) * (y1 * y2 + x1 * x2) * ((1 + D) * (1 + D)) - (x1 * y2 + x2 * y1) * (x1 * y2 + x2 * y1) * ((1 - D) * (1 - D)) = (1 + D) * (1 + D) * ((1 - D) * (1 - D)) + d * ((x1 * y2 + x2 * y1) * (x1 * y2 + x2 * y1)) * ((y1 * y2 + x1 * x2) * (y1 * y2 + x1 * x2)) := by
    intro D M hD
    grind
  have e' := e _ 0 rfl
  generalize (y1 * y2 + x1 * x2) = B at *
  generalize (x1 * y2 + x2 * y1) = A at *
  generalize d * (x1 * x2 * y1 * y2) = D at *
  clear h1 h2 e
  grind
theorem P9 {p q : Pr} (hp : p5 p) (hq : p5 q) : p5 (d5 p q) :=
  y3m hp hq (c7 (q3f hp hq)) (c7 (q1o hp hq))
theorem y1p {a b c d : Fp} (hb : b ≠ 0) (hd : d ≠ 0) (h : a * d = c * b) : a * K7 b = c * K7 d := by
  have h1 := c7 hb
  have h2 := c7 hd
  have : a * K7 b = a * d * (K7 b * K7 d) := by grind
  rw [this, h]
  grind
theorem j2f {c x1 y1 x2 y2 x3 y3 A B S M A' B' S' M' : Fp} (h1 : x1 * x1 * (y1 * y1) = c * (y1 * y1 - x1 * x1 - 1)) (h2 : x2 * x2 * (y2 * y2) = c * (y2 * y2 - x2 * x2 - 1)) (h3 : x3 * x3 * (y3 * y3) = c * (y3 * y3 - x3 * x3 - 1))
    (hA : A = x1 * y2 + x2 * y1) (hB : B = y1 * y2 + x1 * x2) (hS : S = c + x1 * x2 * y1 * y2) (hM : M = c - x1 * x2 * y1 * y2)
    (hA' : A' = x2 * y3 + x3 * y2) (hB' : B' = y2 * y3 + x2 * x3) (hS' : S' = c + x2 * x3 * y2 * y3) (hM' : M' = c - x2 * x3 * y2 * y3) :
    (A * M * y3 + x3 * B * S) * (S' * M' + c * x1 * A' * y1 * B') = (x1 * B' * S' + A' * M' * y1) * (S * M + c * A * x3 * B * y3) := by
  subst hA hB hS hM hA' hB' hS' hM'
  grind
theorem j2g {c x1 y1 x2 y2 x3 y3 A B S M A' B' S' M' : Fp} (h1 : x1 * x1 * (y1 * y1) = c * (y1 * y1 - x1 * x1 - 1)) (h2 : x2 * x2 * (y2 * y2) = c * (y2 * y2 - x2 * x2 - 1)) (h3 : x3 * x3 * (y3 * y3) = c * (y3 * y3 - x3 * x3 - 1))
    (hA : A = x1 * y2 + x2 * y1) (hB : B = y1 * y2 + x1 * x2) (hS : S = c + x1 * x2 * y1 * y2) (hM : M = c - x1 * x2 * y1 * y2)
    (hA' : A' = x2 * y3 + x3 * y2) (hB' : B' = y2 * y3 + x2 * x3) (hS' : S' = c + x2 * x3 * y2 * y3) (hM' : M' = c - x2 * x3 * y2 * y3) :
    (B * S * y3 + A * M * x3) * (S' * M' - c * x1 * A' * y1 * B') = (y1 * B' * S' + x1 * A' * M') * (S * M - c * A * x3 * B * y3) := by
  subst hA hB hS hM hA' hB' hS' hM'
  grind
theorem y3n {c x y : Fp} (hc : dd * c = 1) (h : y * y - x * x = 1 + dd * (x * x) * (y * y)) : x * x * (y * y) = c * (y * y - x * x - 1) := by grind
theorem q0v {k a b : Fp} (hk : k ≠ 0) (h : k * a = k * b) : a = b := by
  have h1 := c7 hk
  grind
theorem g2o {c d D1 D2 E1 E2 A B A' B' S M S' M' X Y X' Y' : Fp} (hc : d * c = 1) (hS : S = c * D1) (hM : M = c * D2) (hS' : S' = c * E1) (hM' : M' = c * E2) (hA : A = X * D1) (hB : B = Y * D2) (hA' : A' = X' * E1) (hB' : B' = Y' * E2) (x1 y1 x3 y3 : Fp)
    (h : (A * M * y3 + x3 * B * S) * (S' * M' + c * x1 * A' * y1 * B') = (x1 * B' * S' + A' * M' * y1) * (S * M + c * A * x3 * B * y3)) :
    (c * c * c * (D1 * D2) * (E1 * E2)) * ((X * y3 + x3 * Y) * (1 + d * (x1 * X' * y1 * Y'))) = (c * c * c * (D1 * D2) * (E1 * E2)) * ((x1 * Y' + X' * y1) * (1 + d * (X * x3 * Y * y3))) := by
  have e1 : A * M * y3 + x3 * B * S = c * (D1 * D2) * (X * y3 + x3 * Y) := by rw [hA, hM, hB, hS]; clear h; grind
  have e2 : S' * M' + c * x1 * A' * y1 * B' = c * c * (E1 * E2) * (1 + d * (x1 * X' * y1 * Y')) := by rw [hS', hM', hA', hB']; clear h e1; grind
  have e3 : x1 * B' * S' + A' * M' * y1 = c * (E1 * E2) * (x1 * Y' + X' * y1) := by rw [hS', hM', hA', hB']; clear h e1 e2; grind
  have e4 : S * M + c * A * x3 * B * y3 = c * c * (D1 * D2) * (1 + d * (X * x3 * Y * y3)) := by rw [hS, hM, hA, hB]; clear h e1 e2 e3; grind
  rw [e1, e2, e3, e4] at h
  generalize X * y3 + x3 * Y = a at *
  generalize 1 + d * (x1 * X' * y1 * Y') = b at *
  generalize x1 * Y' + X' * y1 = e at *
  generalize 1 + d * (X * x3 * Y * y3) = f at *
  clear e1 e2 e3 e4 hS hM hS' hM' hA hB hA' hB'
  grind
theorem j7v {c d D1 D2 E1 E2 A B A' B' S M S' M' X Y X' Y' : Fp} (hc : d * c = 1) (hS : S = c * D1) (hM : M = c * D2) (hS' : S' = c * E1) (hM' : M' = c * E2) (hA : A = X * D1) (hB : B = Y * D2) (hA' : A' = X' * E1) (hB' : B' = Y' * E2) (x1 y1 x3 y3 : Fp)
    (h : (B * S * y3 + A * M * x3) * (S' * M' - c * x1 * A' * y1 * B') = (y1 * B' * S' + x1 * A' * M') * (S * M - c * A * x3 * B * y3)) :
    (c * c * c * (D1 * D2) * (E1 * E2)) * ((Y * y3 + X * x3) * (1 - d * (x1 * X' * y1 * Y'))) = (c * c * c * (D1 * D2) * (E1 * E2)) * ((y1 * Y' + x1 * X') * (1 - d * (X * x3 * Y * y3))) := by
  have e1 : B * S * y3 + A * M * x3 = c * (D1 * D2) * (Y * y3 + X * x3) := by rw [hA, hM, hB, hS]; clear h; grind
  have e2 : S' * M' - c * x1 * A' * y1 * B' = c * c * (E1 * E2) * (1 - d * (x1 * X' * y1 * Y')) := by rw [hS', hM', hA', hB']; clear h e1; grind
  have e3 : y1 * B' * S' + x1 * A' * M' = c * (E1 * E2) * (y1 * Y' + x1 * X') := by rw [hS', hM', hA', hB']; clear h e1 e2; grind
  have e4 : S * M - c * A * x3 * B * y3 = c * c * (D1 * D2) * (1 - d * (X * x3 * Y * y3)) := by rw [hS, hM, hA, hB]; clear h e1 e2 e3; grind
  rw [e1, e2, e3, e4] at h
  generalize Y * y3 + X * x3 = a at *
  generalize 1 - d * (x1 * X' * y1 * Y') = b at *
  generalize y1 * Y' + x1 * X' = e at *
  generalize 1 - d * (X * x3 * Y * y3) = f at *
  clear e1 e2 e3 e4 hS hM hS' hM' hA hB hA' hB'
  grind
theorem q6m {a b x : Fp} (hb : b ≠ 0) (hx : x = a * K7 b) : a = x * b := by
  have := c7 hb
  grind
theorem sS {c d : Fp} (hc : d * c = 1) (t : Fp) : c + t = c * (1 + d * t) := by grind
theorem sM {c d : Fp} (hc : d * c = 1) (t : Fp) : c - t = c * (1 - d * t) := by grind
theorem q3g {p q r : Pr} (hp : p5 p) (hq : p5 q) (hr : p5 r) : d5 (d5 p q) r = d5 p (d5 q r) := by
  have hc := c7 g2m
  have pq := P9 hp hq
  have qr := P9 hq hr
  have d1 := q3f hp hq
  have d2 := q1o hp hq
  have e1 := q3f hq hr
  have e2 := q1o hq hr
  have b1 := q3f pq hr
  have b2 := q1o pq hr
  have b3 := q3f hp qr
  have b4 := q1o hp qr
  have hk : K7 dd * K7 dd * K7 dd * ((1 + dd * (p.1 * q.1 * p.2 * q.2)) * (1 - dd * (p.1 * q.1 * p.2 * q.2))) * ((1 + dd * (q.1 * r.1 * q.2 * r.2)) * (1 - dd * (q.1 * r.1 * q.2 * r.2))) ≠ 0 := by
    have hcn : K7 dd ≠ 0 := fun h => by rw [h] at hc; revert hc; generalize dd = z; intro hc; have : (1 : Fp) = 0 := by rw [← hc]; exact Fin.mul_zero z
                                          revert this; decide +kernel
    exact m7 (m7 (m7 (m7 hcn hcn) hcn) (m7 d1 d2)) (m7 e1 e2)
  obtain ⟨X, hX⟩ : ∃ X, X = (d5 p q).1 := ⟨_, rfl⟩
  obtain ⟨Y, hY⟩ : ∃ X, X = (d5 p q).2 := ⟨_, rfl⟩
  obtain ⟨X', hX'⟩ : ∃ X, X = (d5 q r).1 := ⟨_, rfl⟩
  obtain ⟨Y', hY'⟩ : ∃ X, X = (d5 q r).2 := ⟨_, rfl⟩
  have kA := q6m d1 hX
  have kB := q6m d2 hY
  have kA' := q6m e1 hX'
  have kB' := q6m e2 hY'
  have hS := sS hc
  have hM := sM hc
  have f1 := g2o hc (hS (p.1 * q.1 * p.2 * q.2)) (hM _) (hS (q.1 * r.1 * q.2 * r.2)) (hM _) kA kB kA' kB' p.1 p.2 r.1 r.2
    (j2f (y3n hc hp) (y3n hc hq) (y3n hc hr) rfl rfl rfl rfl rfl rfl rfl rfl)
  have f2 := j7v hc (hS (p.1 * q.1 * p.2 * q.2)) (hM _) (hS (q.1 * r.1 * q.2 * r.2)) (hM _) kA kB kA' kB' p.1 p.2 r.1 r.2
    (j2g (y3n hc hp) (y3n hc hq) (y3n hc hr) rfl rfl rfl rfl rfl rfl rfl rfl)
  have g1 := q0v hk f1
  have g2 := q0v hk f2
  rw [hX, hY, hX', hY'] at g1 g2
  refine Prod.ext ?_ ?_
  · exact y1p b1 b3 g1
  · exact y1p b2 b4 g2
theorem y7d {p : Pr} (hp : p5 p) : d5 p (G4 p) = p0 := by
  have d2 := q1o hp (q6l hp)
  have h2 := c7 d2
  unfold d5 G4 p0 at *
  refine Prod.ext ?_ ?_
  · show (p.1 * p.2 + -p.1 * p.2) * _ = 0
    have : p.1 * p.2 + -p.1 * p.2 = 0 := by grind
    rw [this]; exact Fin.zero_mul _
  · have e : p.2 * p.2 + p.1 * -p.1 = 1 - dd * (p.1 * -p.1 * p.2 * p.2) := by unfold p5 at hp; grind
    show (p.2 * p.2 + p.1 * -p.1) * K7 (1 - dd * (p.1 * -p.1 * p.2 * p.2)) = 1
    rw [e]; exact h2
theorem y1q (p : Pr) : d5 p p0 = p := by rw [y3l, q2g]
def pm (p : Pr) : Nat → Pr
  | 0 => p0
  | n + 1 => d5 (pm p n) p
theorem K8 {p : Pr} (hp : p5 p) : ∀ n, p5 (pm p n)
  | 0 => y1o
  | n + 1 => P9 (K8 hp n) hp
theorem q3h {p : Pr} (hp : p5 p) (m : Nat) : ∀ n, pm p (m + n) = d5 (pm p m) (pm p n)
  | 0 => (y1q _).symm
  | n + 1 => by
    show d5 (pm p (m + n)) p = d5 (pm p m) (d5 (pm p n) p)
    rw [q3h hp m n, q3g (K8 hp m) (K8 hp n) hp]
theorem j7l (p : Pr) : pm p 1 = p := q2g p
theorem C6 {p : Pr} (hp : p5 p) (m : Nat) : pm p (2 * m) = d5 (pm p m) (pm p m) := by rw [Nat.two_mul, q3h hp]
theorem j7p {p : Pr} (hp : p5 p) (m : Nat) : pm p (2 * m + 1) = d5 (d5 (pm p m) (pm p m)) p := by rw [← C6 hp]; rfl
theorem y7e : ∀ n, pm p0 n = p0
  | 0 => rfl
  | n + 1 => by show d5 (pm p0 n) p0 = p0; rw [y7e n, q2g]
theorem q9g {p : Pr} (hp : p5 p) (m : Nat) : ∀ n, pm p (m * n) = pm (pm p m) n
  | 0 => rfl
  | n + 1 => by rw [Nat.mul_succ, q3h hp, q9g hp m n]; rfl
theorem y3o {p q : Pr} : G4 (d5 p q) = d5 (G4 p) (G4 q) := by
  unfold d5 G4
  refine Prod.ext ?_ ?_
  · show -((p.1 * q.2 + q.1 * p.2) * K7 (1 + dd * (p.1 * q.1 * p.2 * q.2))) = (-p.1 * q.2 + -q.1 * p.2) * K7 (1 + dd * (-p.1 * -q.1 * p.2 * q.2))
    rw [show -p.1 * -q.1 * p.2 * q.2 = p.1 * q.1 * p.2 * q.2 by grind]; grind
  · show (p.2 * q.2 + p.1 * q.1) * K7 (1 - dd * (p.1 * q.1 * p.2 * q.2)) = (p.2 * q.2 + -p.1 * -q.1) * K7 (1 - dd * (-p.1 * -q.1 * p.2 * q.2))
    rw [show -p.1 * -q.1 * p.2 * q.2 = p.1 * q.1 * p.2 * q.2 by grind, show -p.1 * -q.1 = p.1 * q.1 by grind]
theorem pneg_p0 : G4 p0 = p0 := by
  unfold G4 p0
  refine Prod.ext ?_ rfl
  show -(0 : Fp) = 0
  decide +kernel
theorem y1r (p : Pr) : ∀ n, pm (G4 p) n = G4 (pm p n)
  | 0 => pneg_p0.symm
  | n + 1 => by show d5 (pm (G4 p) n) (G4 p) = G4 (d5 (pm p n) p); rw [y1r p n, y3o]
/-! ### the formulas of the code: a point is (X : Y : Z : T) -/
def Rc (X Y Z T : Fp) (a : Pr) : Prop := Z ≠ 0 ∧ X = a.1 * Z ∧ Y = a.2 * Z ∧ T = a.1 * a.2 * Z
def Rr (X Y Z : Fp) (a : Pr) : Prop := Z ≠ 0 ∧ X = a.1 * Z ∧ Y = a.2 * Z
theorem Rc.rr {X Y Z T : Fp} {a : Pr} (h : Rc X Y Z T a) : Rr X Y Z a := ⟨h.1, h.2.1, h.2.2.1⟩
theorem j7w : (2 : Fp) ≠ 0 := by decide +kernel
theorem j5v {E F G H : Fp} {x y : Fp} (hF : F ≠ 0) (hG : G ≠ 0) (hx : E = x * G) (hy : H = y * F) : Rc (E * F) (G * H) (F * G) (E * H) (x, y) :=
  ⟨zero_prod' hF hG, by subst hx hy; show x * G * F = x * (F * G); grind, by subst hx hy; show G * (y * F) = y * (F * G); grind, by subst hx hy; show x * G * (y * F) = x * y * (F * G); grind⟩
theorem j7x {X1 Y1 Z1 T1 X2 Y2 Z2 T2 : Fp} {a b : Pr} (ha : p5 a) (hb : p5 b) (h1 : Rc X1 Y1 Z1 T1 a) (h2 : Rc X2 Y2 Z2 T2 b) {A B C D : Fp}
    (hA : A = (Y1 - X1) * (Y2 - X2)) (hB : B = (Y1 + X1) * (Y2 + X2)) (hC : C = T1 * (2 * dd) * T2) (hD : D = (Z1 + Z1) * Z2) :
    Rc ((B - A) * (D - C)) ((D + C) * (B + A)) ((D - C) * (D + C)) ((B - A) * (B + A)) (d5 a b) := by
  obtain ⟨z1, x1, y1, t1⟩ := h1
  obtain ⟨z2, x2, y2, t2⟩ := h2
  have dp := q3f ha hb
  have dm := q1o ha hb
  have eF : D - C = 2 * Z1 * Z2 * (1 - dd * (a.1 * b.1 * a.2 * b.2)) := by subst hC hD t1 t2; grind
  have eG : D + C = 2 * Z1 * Z2 * (1 + dd * (a.1 * b.1 * a.2 * b.2)) := by subst hC hD t1 t2; clear eF; grind
  have nz : 2 * Z1 * Z2 ≠ 0 := m7 (m7 j7w z1) z2
  refine j5v (by rw [eF]; exact m7 nz dm) (by rw [eG]; exact m7 nz dp) ?_ ?_
  · have k := c7 dp
    rw [eG]
    have e : B - A = 2 * Z1 * Z2 * (a.1 * b.2 + b.1 * a.2) := by subst hA hB x1 x2 y1 y2; clear eF eG k; grind
    rw [e]
    generalize 1 + dd * (a.1 * b.1 * a.2 * b.2) = u at *
    generalize a.1 * b.2 + b.1 * a.2 = s at *
    clear eF eG e hA hB hC hD x1 x2 y1 y2 t1 t2 nz z1 z2 dm dp ha hb
    grind
  · have k := c7 dm
    rw [eF]
    have e : B + A = 2 * Z1 * Z2 * (a.2 * b.2 + a.1 * b.1) := by subst hA hB x1 x2 y1 y2; clear eF eG k; grind
    rw [e]
    generalize 1 - dd * (a.1 * b.1 * a.2 * b.2) = u at *
    generalize a.2 * b.2 + a.1 * b.1 = s at *
    clear eF eG e hA hB hC hD x1 x2 y1 y2 t1 t2 nz z1 z2 dm dp ha hb
    grind
theorem y7f {X Y Z T : Fp} {a : Pr} (ha : p5 a) (h : Rc X Y Z T a) {A B C E G H F : Fp} (hA : A = X * X) (hB : B = Y * Y) (hC : C = Z * Z + Z * Z) (hH : H = A + B) (hE : E = H - (X + Y) * (X + Y)) (hG : G = A - B) (hF : F = C + G) :
    Rc (E * F) (G * H) (F * G) (E * H) (d5 a a) := by
  obtain ⟨z, x, y, t⟩ := h
  have dp := q3f ha ha
  have dm := q1o ha ha
  unfold p5 at ha
  have eG : G = -(Z * Z) * (1 + dd * (a.1 * a.1 * a.2 * a.2)) := by subst hG hA hB x y; clear hE hH hF hC; grind
  have eF : F = Z * Z * (1 - dd * (a.1 * a.1 * a.2 * a.2)) := by rw [hF, eG, hC]; clear hE hH hF hC hG eG; grind
  have zz := m7 z z
  have nzz : -(Z * Z) ≠ 0 := fun h => zz (by grind)
  refine j5v (by rw [eF]; exact m7 zz dm) (by rw [eG]; exact m7 nzz dp) ?_ ?_
  · have k := c7 dp
    have e : E = -(Z * Z) * (a.1 * a.2 + a.1 * a.2) := by subst hE hH hA hB x y; clear eF eG k hG hF hC; grind
    rw [eG, e]
    generalize 1 + dd * (a.1 * a.1 * a.2 * a.2) = u at *
    generalize a.1 * a.2 + a.1 * a.2 = s at *
    clear eF eG e hA hB hC hE hG hF hH x y t nzz zz z dm dp ha
    grind
  · have k := c7 dm
    have e : H = Z * Z * (a.2 * a.2 + a.1 * a.1) := by subst hH hA hB x y; clear eF eG k hG hF hC hE; grind
    rw [eF, e]
    generalize 1 - dd * (a.1 * a.1 * a.2 * a.2) = u at *
    generalize a.2 * a.2 + a.1 * a.1 = s at *
    clear eF eG e hA hB hC hE hG hF hH x y t nzz zz z dm dp ha
    grind
theorem j2h {X1 Y1 Z1 X2 Y2 Z2 : Fp} {a b : Pr} (h1 : Rr X1 Y1 Z1 a) (h2 : Rr X2 Y2 Z2 b) : (X1 * Z2 = X2 * Z1 ∧ Y1 * Z2 = Y2 * Z1) ↔ a = b := by
  obtain ⟨z1, x1, y1⟩ := h1
  obtain ⟨z2, x2, y2⟩ := h2
  have zz := m7 z1 z2
  constructor
  · rintro ⟨e1, e2⟩
    refine Prod.ext (q0v zz ?_) (q0v zz ?_)
    · subst x1 x2; clear e2 y1 y2; grind
    · subst y1 y2; clear e1 x1 x2; grind
  · rintro rfl
    subst x1 x2 y1 y2
    constructor <;> grind
theorem j7y {X Y Z : Fp} {a : Pr} (h : Rr X Y Z a) : X * K7 Z = a.1 ∧ Y * K7 Z = a.2 := by
  obtain ⟨z, x, y⟩ := h
  have := c7 z
  subst x y
  constructor <;> grind
end Go.Proofs.YtefpoollmbmkfaaDoor

namespace Go.Proofs.YtefpoollmbmkfaaDoor

/-! ### The root of a quotient -/
theorem q9h (A n : Nat) : fp (pw (A % PP) n) = fp (A ^ n) := by
  unfold pw
  rw [a5]; exact fp_eq.2 (by rw [← Nat.pow_mod])
theorem y7g (u v E : Nat) (hE : E = 7237005577332262213973186563042994240829374041602535252466099000494570602493) : fp (rtX u v) = fp u * (fp v * fp v * fp v) * fp ((u * v7 v) ^ E) := by
  unfold rtX
  rw [← hE, a5, b9, a5, b9, j5r, q9h]
theorem j2i (V X E : Nat) (hE : 8 * E + 4 = PP - 1) (hV : V % PP ≠ 0) (hX : X % PP ≠ 0) : fp ((V * V * (V * V) * (V * V * (V * V)) * (X * X)) ^ (2 * E + 1)) * fp ((V * V * (V * V) * (V * V * (V * V)) * (X * X)) ^ (2 * E + 1)) = 1 := by
  rw [← b9, ← q0u]
  refine fp_eq.2 ?_
  obtain ⟨M, hM⟩ : ∃ M, M = PP - 1 := ⟨_, rfl⟩
  have f1 : V ^ M % PP = 1 := by rw [hM]; exact genP.fermat hV
  have f2 : X ^ M % PP = 1 := by rw [hM]; exact genP.fermat hX
  rw [← hM] at hE
  clear hM
  have e : (V * V * (V * V) * (V * V * (V * V)) * (X * X)) ^ (2 * E + 1) * (V * V * (V * V) * (V * V * (V * V)) * (X * X)) ^ (2 * E + 1) = (V ^ M * V ^ M * (V ^ M * V ^ M)) * X ^ M := by
    have a1 : V * V * (V * V) * (V * V * (V * V)) = V ^ 8 := by simp only [Nat.pow_succ, Nat.pow_zero, Nat.one_mul, Nat.mul_assoc]
    have a2 : X * X = X ^ 2 := by simp only [Nat.pow_succ, Nat.pow_zero, Nat.one_mul]
    rw [a1, a2]
    simp only [← Nat.pow_add, Nat.mul_pow, ← Nat.pow_mul]
    rw [Nat.mul_mul_mul_comm, ← Nat.pow_add, ← Nat.pow_add, show 8 * (2 * E + 1) + 8 * (2 * E + 1) = M + M + (M + M) by omega, show 2 * (2 * E + 1) + 2 * (2 * E + 1) = M by omega]
  rw [e]
  have g1 : V ^ M * V ^ M % PP = 1 := by rw [Nat.mul_mod, f1]; decide +kernel
  have g2 : V ^ M * V ^ M * (V ^ M * V ^ M) % PP = 1 := by rw [Nat.mul_mod, g1]; decide +kernel
  rw [Nat.mul_mod, g2, f2]
theorem j7z (v : Nat) : fp (v7 v) = fp (v * v * v * (v * v * v) * v) := by rw [g2k, j5r]; simp only [b9]
theorem q6n {A B : Nat} (h : fp A = fp B) (n : Nat) : fp (A ^ n) = fp (B ^ n) := fp_eq.2 (by rw [Nat.pow_mod, fp_eq.1 h, ← Nat.pow_mod])
theorem j2j {u v X : Nat} (hv : fp v ≠ 0) (h : fp u = fp v * (fp X * fp X)) : rtB u v = true := by
  unfold rtB
  by_cases hx : fp X = 0
  · have hu : fp u = 0 := by rw [h, hx]; grind
    have : rtW u v = u % PP := q6j (Nat.mod_lt _ V3) (Nat.mod_lt _ V3) (by
      rw [j7t, a5, y7g u v _ rfl, hu]; generalize fp _ = z; grind)
    rw [decide_eq_true this, Bool.true_or]
  obtain ⟨E, hE⟩ : ∃ E, E = 7237005577332262213973186563042994240829374041602535252466099000494570602493 := ⟨_, rfl⟩
  have hE8 : 8 * E + 4 = PP - 1 := by rw [hE]; decide +kernel
  have hk := j2i v X E hE8 (y7b hv) (y7b hx)
  have hW : fp (rtW u v) = fp u * fp ((v * v * (v * v) * (v * v * (v * v)) * (X * X)) ^ (2 * E + 1)) := by
    rw [j7t, y7g u v E hE]
    have e1 : fp (u * v7 v) = fp (v * v * (v * v) * (v * v * (v * v)) * (X * X)) := by rw [b9, j7z, h]; simp only [b9]; grind
    rw [q6n e1 E]
    generalize hA : v * v * (v * v) * (v * v * (v * v)) * (X * X) = A
    have hA' : fp A = fp v * fp v * (fp v * fp v) * (fp v * fp v * (fp v * fp v)) * (fp X * fp X) := by rw [← hA]; simp only [b9]
    rw [show A ^ (2 * E + 1) = A ^ E * A ^ E * A by rw [← Nat.pow_add, ← Nat.pow_succ]; congr 1; omega, b9, b9, hA', h]
    generalize fp (A ^ E) = z
    clear hA' hA e1 hk hE8
    grind
  rcases q9f hk with hs | hs
  · have : rtW u v = u % PP := q6j (Nat.mod_lt _ V3) (Nat.mod_lt _ V3) (by rw [hW, hs, a5]; grind)
    rw [decide_eq_true this, Bool.true_or]
  · have : rtW u v = (PP - u % PP) % PP := q6j (Nat.mod_lt _ V3) (Nat.mod_lt _ V3) (by rw [hW, hs, a5, S9]; grind)
    rw [decide_eq_true this, Bool.or_true]
theorem q6f (u v : Nat) : rtR u v < PP := by
  unfold rtR
  split
  · exact j7s _ _
  · split
    · exact Nat.mod_lt _ V3
    · exact V3
/-! ### A point's bytes -/
def dU (y : Nat) : Nat := (y * y % PP + (PP - 1 % PP)) % PP
def dV (y : Nat) : Nat := (DD * (y * y % PP) % PP + 1) % PP
def dX (y : Nat) : Nat := rtR (dU y) (dV y)
def dB (y : Nat) : Bool := rtB (dU y) (dV y)
def top (V : Nat) : Bool := decide (2 ^ 255 ≤ V)
def y3j (x : Nat) : Bool := decide (x % PP % 2 = 1)
def dXf (y : Nat) (o : Bool) : Nat := if y3j (dX y) = o then dX y else (PP - dX y % PP) % PP
def K0 (V : Nat) : Bool := decide (V % 2 ^ 255 < PP) && dB (V % 2 ^ 255) && !(top V && decide (dX (V % 2 ^ 255) = 0))
def M6 (V : Nat) : Pr := (fp (dXf (V % 2 ^ 255) (top V)), fp (V % 2 ^ 255))
def r4 (a : Pr) : Nat := a.2.val + 2 ^ 255 * (a.1.val % 2)
theorem j5w (y : Nat) : fp (dU y) = fp y * fp y - 1 := by unfold dU; rw [a5, q0t, a5, S9, b9, q0u]; grind
theorem y7h (y : Nat) : fp (dV y) = dd * (fp y * fp y) + 1 := by unfold dV; rw [a5, q0t, a5, b9, a5, b9, q0u]; rfl
theorem g2p (y : Nat) : fp (dV y) ≠ 0 := by
  rw [y7h]
  intro h
  by_cases hy : fp y = 0
  · rw [hy] at h
    have e : dd * (0 * 0) + 1 = (1 : Fp) := by
      have : dd * (0 * 0) = 0 := by rw [Fin.mul_zero, Fin.mul_zero]
      rw [this]; decide +kernel
    rw [e] at h
    exact absurd h (by decide +kernel)
  · exact q6k (a := ii) hy (by have := j5t; grind)
theorem j5x {y : Nat} (h : dB y = true) : fp (dV y) * (fp (dX y) * fp (dX y)) = fp (dU y) := g2l h
theorem y7i (y : Nat) (o : Bool) : fp (dXf y o) * fp (dXf y o) = fp (dX y) * fp (dX y) := by
  unfold dXf
  split
  · rfl
  · rw [a5, S9]; grind
theorem y6y {V : Nat} (h : K0 V = true) : p5 (M6 V) := by
  unfold K0 at h
  simp only [Bool.and_eq_true] at h
  have h1 := j5x h.1.2
  have h2 := y7i (V % 2 ^ 255) (top V)
  rw [y7h, j5w] at h1
  unfold p5 M6
  show fp (V % 2 ^ 255) * fp (V % 2 ^ 255) - fp (dXf (V % 2 ^ 255) (top V)) * fp (dXf (V % 2 ^ 255) (top V)) = 1 + dd * (fp (dXf (V % 2 ^ 255) (top V)) * fp (dXf (V % 2 ^ 255) (top V))) * (fp (V % 2 ^ 255) * fp (V % 2 ^ 255))
  rw [h2]
  generalize fp (V % 2 ^ 255) = y at *
  generalize fp (dX (V % 2 ^ 255)) = x at *
  clear h2 h
  grind
theorem q9d (y : Nat) : dX y < PP := q6f _ _
theorem j8a : PP % 2 = 1 := by decide +kernel
theorem q9c : PP < 2 ^ 255 := by decide +kernel
theorem y1s {x : Nat} (h0 : x ≠ 0) (hx : x < PP) : (PP - x) % 2 = 1 - x % 2 := by
  have := j8a
  omega
theorem j2k {y : Nat} {o : Bool} (h : ¬ (o = true ∧ dX y = 0)) : dXf y o < PP ∧ decide (dXf y o % 2 = 1) = o := by
  have hl := q9d y
  unfold dXf y3j
  rw [Nat.mod_eq_of_lt hl]
  split
  · rename_i h1; exact ⟨hl, h1⟩
  · rename_i h1
    by_cases h0 : dX y = 0
    · rw [h0] at h1
      have : o = false := by
        cases o
        · rfl
        · exact absurd ⟨rfl, h0⟩ h
      rw [this] at h1
      exact absurd (by decide) h1
    · have h2 := y1s h0 hl
      have hP : (PP - dX y) % PP = PP - dX y := Nat.mod_eq_of_lt (by omega)
      rw [hP, h2]
      refine ⟨by omega, ?_⟩
      have hp := Nat.mod_two_eq_zero_or_one (dX y)
      rcases hp with hp | hp <;> rw [hp] at h1 ⊢ <;> cases o <;> simp_all
theorem j2l (a : Pr) : r4 a % 2 ^ 255 = a.2.val ∧ top (r4 a) = decide (a.1.val % 2 = 1) ∧ r4 a < 2 ^ 256 := by
  have h1 := a.2.isLt
  have h2 := q9c
  unfold r4 top
  refine ⟨by omega, ?_, by omega⟩
  by_cases h : a.1.val % 2 = 1
  · rw [decide_eq_true h, h]; exact decide_eq_true (by omega)
  · rw [decide_eq_false h]; exact decide_eq_false (by omega)
theorem N0 {a : Pr} (h : p5 a) : K0 (r4 a) = true ∧ M6 (r4 a) = a := by
  obtain ⟨e1, e2, e3⟩ := j2l a
  have hv := g2p a.2.val
  have hu : fp (dU a.2.val) = fp (dV a.2.val) * (fp a.1.val * fp a.1.val) := by
    rw [j5w, y7h, K1, K1]
    unfold p5 at h
    grind
  have hb : dB a.2.val = true := j2j hv hu
  have hs := j5x hb
  rw [hu] at hs
  have hx : fp (dX a.2.val) = a.1 ∨ fp (dX a.2.val) = - a.1 := by
    have := q0v hv hs
    rw [K1] at this
    exact y7c this
  have hl := q9d a.2.val
  have hx0 : dX a.2.val = 0 → a.1.val = 0 := by
    intro h0
    rw [h0, q6i] at hx
    have : a.1 = 0 := by rcases hx with h | h <;> grind
    rw [this]; rfl
  have hn : ¬ (top (r4 a) = true ∧ dX a.2.val = 0) := by
    rintro ⟨p1, p2⟩
    rw [e2, hx0 p2] at p1
    cases p1
  refine ⟨?_, ?_⟩
  · unfold K0
    rw [e1, hb, decide_eq_true a.2.isLt]
    cases ht : top (r4 a)
    · rfl
    · have : ¬ dX a.2.val = 0 := fun h0 => hn ⟨ht, h0⟩
      simp [this]
  · unfold M6
    rw [e1]
    refine Prod.ext ?_ (K1 _)
    show fp (dXf a.2.val (top (r4 a))) = a.1
    obtain ⟨p1, p2⟩ := j2k hn
    have hz : fp (dXf a.2.val (top (r4 a))) = a.1 ∨ fp (dXf a.2.val (top (r4 a))) = -a.1 := by
      have := y7i a.2.val (top (r4 a))
      have h3 := q0v hv hs
      rw [K1] at h3
      exact y7c (by rw [this, h3])
    rcases hz with hz | hz
    · exact hz
    · rw [e2] at p1 p2 hz ⊢
      generalize dXf a.2.val (decide (a.1.val % 2 = 1)) = z at *
      have hz2 : z = (PP - a.1.val % PP) % PP := q6j p1 (Nat.mod_lt _ V3) (by rw [hz, a5, S9, K1])
      rw [Nat.mod_eq_of_lt a.1.isLt] at hz2
      by_cases h0 : a.1.val = 0
      · have : a.1 = 0 := Fin.ext h0
        rw [hz, this]; decide +kernel
      · exfalso
        rw [Nat.mod_eq_of_lt (by omega : PP - a.1.val < PP)] at hz2
        have h4 := y1s h0 a.1.isLt
        rw [← hz2] at h4
        have h5 := Nat.mod_two_eq_zero_or_one a.1.val
        rcases h5 with h5 | h5 <;> rw [h5] at h4 p2 <;> rw [h4] at p2 <;> cases p2
end Go.Proofs.YtefpoollmbmkfaaDoor
