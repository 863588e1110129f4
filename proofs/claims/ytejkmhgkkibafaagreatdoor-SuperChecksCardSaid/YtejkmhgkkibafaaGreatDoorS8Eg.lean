/- Contracts and plain laws that superChecks_holds rests on. Conditions: the variables' cells hold the numbers of the program's text. -/
import Derived.Test.YtejkmhgkkibafaaGreatDoorJ6
import Derived.Test.YtejkmhgkkibafaaGreatDoorJ3
import Derived.Test.YtejkmhgkkibafaaGreatDoorJ8
import Derived.Test.YtejkmhgkkibafaaGreatDoorS8Ef
import Derived.Test.YtejkmhgkkibafaaGreatDoorS8Ee
set_option linter.unusedSimpArgs false
set_option linter.unusedVariables false
namespace Go.Proofs.YtejkmhgkkibafaaGreatDoor.S8
section

def DD : Nat := 37095705934669439343138083508754565189542113879843219016388785533085940283555
def dd : Fp := fp DD
def ii : Fp := fp II
theorem Y4y : ii * ii = -1 := Y4x
theorem Y75 : pw DD ((PP - 1) / 2) = PP - 1 := by rw [Y4t _ _ (by decide)]; decide +kernel
theorem Y4z (s : Fp) : s * s ≠ dd := by
  intro h
  have h1 : fp (s.val * s.val) = fp DD := by rw [J1h, J40]; exact h
  obtain ⟨E, hE⟩ : ∃ E, E = (PP - 1) / 2 := ⟨_, rfl⟩
  have D : 2 * E = PP - 1 := by rw [hE]; decide +kernel
  have hp := Y75
  rw [← hE] at hp
  unfold pw at hp
  obtain ⟨M, hM⟩ : ∃ M, M = PP - 1 := ⟨_, rfl⟩
  have hf : ¬ s.val % PP = 0 → s.val ^ M % PP = 1 := fun h0 => by rw [hM]; exact genP.fermat h0
  have G : 0 < M := by rw [hM]; decide +kernel
  have J : M ≠ 1 := by rw [hM]; decide +kernel
  rw [← hM] at D hp
  clear hM hE
  have h2 : (s.val * s.val) ^ E % PP = M := by
    rw [Nat.pow_mod, fp_eq.1 h1, ← Nat.pow_mod]; exact hp
  have h3 : (s.val * s.val) ^ E = s.val ^ M := by
    rw [show s.val * s.val = s.val ^ 2 by rw [Nat.pow_succ, Nat.pow_one], ← Nat.pow_mul, D]
  rw [h3] at h2
  by_cases h0 : s.val % PP = 0
  · rw [Nat.pow_mod, h0, Nat.zero_pow G, Nat.zero_mod] at h2
    omega
  rw [hf h0] at h2
  omega
abbrev Pr := Fp × Fp
def OnC (p : Pr) : Prop := p.2 * p.2 - p.1 * p.1 = 1 + dd * (p.1 * p.1) * (p.2 * p.2)
theorem J00 {x y : Fp} (hx : x ≠ 0) (hy : y ≠ 0) : x * y ≠ 0 := fun h => (J3u h).elim hx hy
theorem Q5o {a b : Fp} (hb : b ≠ 0) : a * a ≠ dd * (b * b) := by
  intro h
  have hi := J0k hb
  exact Y4z (a * J3n b) (by grind)
theorem V0n : dd ≠ 0 := fun h => Y4z 0 (by grind)
theorem Q7i {x1 y1 x2 y2 s : Fp} (h1 : y1 * y1 - x1 * x1 = 1 + dd * (x1 * x1) * (y1 * y1)) (h2 : y2 * y2 - x2 * x2 = 1 + dd * (x2 * x2) * (y2 * y2)) (hs : s * s = 1) (he : dd * (x1 * x2 * y1 * y2) = s) : False := by
  have hi := Y4y
  have k1 : (ii * x1 + s * y1) * (ii * x1 + s * y1) = dd * ((x1 * y1 * (ii * x2 + y2)) * (x1 * y1 * (ii * x2 + y2))) := by grind
  have k2 : (ii * x1 - s * y1) * (ii * x1 - s * y1) = dd * ((x1 * y1 * (ii * x2 - y2)) * (x1 * y1 * (ii * x2 - y2))) := by grind
  have e1 : x1 * y1 * (ii * x2 + y2) = 0 := Classical.byContradiction fun h => Q5o h k1
  have e2 : x1 * y1 * (ii * x2 - y2) = 0 := Classical.byContradiction fun h => Q5o h k2
  have n1 : x1 * y1 ≠ 0 := by
    intro h
    have : s = 0 := by grind
    rw [this] at hs
    have : (1 : Fp) = 0 := by grind
    revert this
    decide +kernel
  rcases J3u e1 with h | h
  · exact n1 h
  rcases J3u e2 with h' | h'
  · exact n1 h'
  have hx : x2 + x2 = 0 := by
    have : ii * (x2 + x2) = 0 := by grind
    exact (J3u this).resolve_left fun h => by rw [h] at hi; revert hi; decide +kernel
  have D : s + s = 0 := by rw [← he]; clear he hs k1 k2 e1 e2 h h' h1 h2 n1 hi; grind
  have h4 : (4 : Fp) = (s + s) * (s + s) := by
    have : (s + s) * (s + s) = 4 * (s * s) := by clear he k1 k2 e1 e2 h h' h1 h2 n1 hi hx hs D; grind
    rw [this, hs]; decide +kernel
  rw [D] at h4
  exact absurd h4 (by decide +kernel)
theorem Q0f {p q : Pr} (hp : OnC p) (hq : OnC q) : 1 + dd * (p.1 * q.1 * p.2 * q.2) ≠ 0 := fun h =>
  Q7i (s := -1) hp hq (by grind) (by grind)
theorem J9k {p q : Pr} (hp : OnC p) (hq : OnC q) : 1 - dd * (p.1 * q.1 * p.2 * q.2) ≠ 0 := fun h =>
  Q7i (s := 1) hp hq (by grind) (by grind)
def J0w (p q : Pr) : Pr := ((p.1 * q.2 + q.1 * p.2) * J3n (1 + dd * (p.1 * q.1 * p.2 * q.2)), (p.2 * q.2 + p.1 * q.1) * J3n (1 - dd * (p.1 * q.1 * p.2 * q.2)))
def J52 (p : Pr) : Pr := (-p.1, p.2)
def p0 : Pr := (0, 1)
theorem Z6v : OnC p0 := by unfold OnC p0; grind
theorem Q17 {p : Pr} (h : OnC p) : OnC (J52 p) := by unfold OnC J52 at *; grind
theorem Z39 (p q : Pr) : J0w p q = J0w q p := by
  unfold J0w
  rw [show p.1 * q.1 * p.2 * q.2 = q.1 * p.1 * q.2 * p.2 by grind, show p.1 * q.2 + q.1 * p.2 = q.1 * p.2 + p.1 * q.2 by grind, show p.2 * q.2 + p.1 * q.1 = q.2 * p.2 + q.1 * p.1 by grind]
theorem Q7j : J3n 1 = 1 := by
  have := J0k (x := 1) (by decide +kernel)
  grind
theorem V3i (a b : Fp) : (1 : Fp) + dd * (0 * a * 1 * b) = 1 := by
  have : dd * ((0 : Fp) * a * 1 * b) = 0 := by grind
  rw [this]; exact Fin.add_zero 1
theorem V0o (a b : Fp) : (1 : Fp) - dd * (0 * a * 1 * b) = 1 := by
  have : dd * ((0 : Fp) * a * 1 * b) = 0 := by grind
  rw [this]; show (1 : Fp) - 0 = 1; decide +kernel
theorem Q5p (p : Pr) : J0w p0 p = p := by
  unfold J0w p0
  refine Prod.ext ?_ ?_
  · show (0 * p.2 + p.1 * 1) * J3n (1 + dd * (0 * p.1 * 1 * p.2)) = p.1
    rw [V3i, Q7j]; grind
  show (1 * p.2 + 0 * p.1) * J3n (1 - dd * (0 * p.1 * 1 * p.2)) = p.2
  rw [V0o, Q7j]; grind
theorem Z3a {x1 y1 x2 y2 u v d : Fp} (h1 : y1 * y1 - x1 * x1 = 1 + d * (x1 * x1) * (y1 * y1)) (h2 : y2 * y2 - x2 * x2 = 1 + d * (x2 * x2) * (y2 * y2))
    (hu : (1 + d * (x1 * x2 * y1 * y2)) * u = 1) (hv : (1 - d * (x1 * x2 * y1 * y2)) * v = 1) :
    (y1 * y2 + x1 * x2) * v * ((y1 * y2 + x1 * x2) * v) - (x1 * y2 + x2 * y1) * u * ((x1 * y2 + x2 * y1) * u) = 1 + d * ((x1 * y2 + x2 * y1) * u * ((x1 * y2 + x2 * y1) * u)) * ((y1 * y2 + x1 * x2) * v * ((y1 * y2 + x1 * x2) * v)) := by
  have e : ∀ D M : Fp, D = d * (x1 * x2 * y1 * y2) → (y1 * y2 + x1 * x2) * (y1 * y2 + x1 * x2) * ((1 + D) * (1 + D)) - (x1 * y2 + x2 * y1) * (x1 * y2 + x2 * y1) * ((1 - D) * (1 - D)) = (1 + D) * (1 + D) * ((1 - D) * (1 - D)) + d * ((x1 * y2 + x2 * y1) * (x1 * y2 + x2 * y1)) * ((y1 * y2 + x1 * x2) * (y1 * y2 + x1 * x2)) := by
    intro D M hD
    grind
  have e' := e _ 0 rfl
  generalize (y1 * y2 + x1 * x2) = B at *
  generalize (x1 * y2 + x2 * y1) = A at *
  generalize d * (x1 * x2 * y1 * y2) = D at *
  clear h1 h2 e
  grind
theorem J7y {p q : Pr} (hp : OnC p) (hq : OnC q) : OnC (J0w p q) :=
  Z3a hp hq (J0k (Q0f hp hq)) (J0k (J9k hp hq))
theorem Z1a {a b c d : Fp} (hb : b ≠ 0) (hd : d ≠ 0) (h : a * d = c * b) : a * J3n b = c * J3n d := by
  have h1 := J0k hb
  have h2 := J0k hd
  have : a * J3n b = a * d * (J3n b * J3n d) := by grind
  rw [this, h]
  grind
theorem Y18 {c x1 y1 x2 y2 x3 y3 A B S M A' B' S' M' : Fp} (h1 : x1 * x1 * (y1 * y1) = c * (y1 * y1 - x1 * x1 - 1)) (h2 : x2 * x2 * (y2 * y2) = c * (y2 * y2 - x2 * x2 - 1)) (h3 : x3 * x3 * (y3 * y3) = c * (y3 * y3 - x3 * x3 - 1))
    (hA : A = x1 * y2 + x2 * y1) (hB : B = y1 * y2 + x1 * x2) (hS : S = c + x1 * x2 * y1 * y2) (hM : M = c - x1 * x2 * y1 * y2)
    (hA' : A' = x2 * y3 + x3 * y2) (hB' : B' = y2 * y3 + x2 * x3) (hS' : S' = c + x2 * x3 * y2 * y3) (hM' : M' = c - x2 * x3 * y2 * y3) :
    (A * M * y3 + x3 * B * S) * (S' * M' + c * x1 * A' * y1 * B') = (x1 * B' * S' + A' * M' * y1) * (S * M + c * A * x3 * B * y3) := by
  subst hA hB hS hM hA' hB' hS' hM'
  grind
theorem Y19 {c x1 y1 x2 y2 x3 y3 A B S M A' B' S' M' : Fp} (h1 : x1 * x1 * (y1 * y1) = c * (y1 * y1 - x1 * x1 - 1)) (h2 : x2 * x2 * (y2 * y2) = c * (y2 * y2 - x2 * x2 - 1)) (h3 : x3 * x3 * (y3 * y3) = c * (y3 * y3 - x3 * x3 - 1))
    (hA : A = x1 * y2 + x2 * y1) (hB : B = y1 * y2 + x1 * x2) (hS : S = c + x1 * x2 * y1 * y2) (hM : M = c - x1 * x2 * y1 * y2)
    (hA' : A' = x2 * y3 + x3 * y2) (hB' : B' = y2 * y3 + x2 * x3) (hS' : S' = c + x2 * x3 * y2 * y3) (hM' : M' = c - x2 * x3 * y2 * y3) :
    (B * S * y3 + A * M * x3) * (S' * M' - c * x1 * A' * y1 * B') = (y1 * B' * S' + x1 * A' * M') * (S * M - c * A * x3 * B * y3) := by
  subst hA hB hS hM hA' hB' hS' hM'
  grind
theorem Z3b {c x y : Fp} (hc : dd * c = 1) (h : y * y - x * x = 1 + dd * (x * x) * (y * y)) : x * x * (y * y) = c * (y * y - x * x - 1) := by grind
theorem Q5q {k a b : Fp} (hk : k ≠ 0) (h : k * a = k * b) : a = b := by
  have h1 := J0k hk
  grind
theorem V0p {c d D1 D2 E1 E2 A B A' B' S M S' M' X Y X' Y' : Fp} (hc : d * c = 1) (hS : S = c * D1) (hM : M = c * D2) (hS' : S' = c * E1) (hM' : M' = c * E2) (hA : A = X * D1) (hB : B = Y * D2) (hA' : A' = X' * E1) (hB' : B' = Y' * E2) (x1 y1 x3 y3 : Fp)
    (h : (A * M * y3 + x3 * B * S) * (S' * M' + c * x1 * A' * y1 * B') = (x1 * B' * S' + A' * M' * y1) * (S * M + c * A * x3 * B * y3)) :
    (c * c * c * (D1 * D2) * (E1 * E2)) * ((X * y3 + x3 * Y) * (1 + d * (x1 * X' * y1 * Y'))) = (c * c * c * (D1 * D2) * (E1 * E2)) * ((x1 * Y' + X' * y1) * (1 + d * (X * x3 * Y * y3))) := by
  have e1 : A * M * y3 + x3 * B * S = c * (D1 * D2) * (X * y3 + x3 * Y) := by rw [hA, hM, hB, hS]; clear h; grind
  have e2 : S' * M' + c * x1 * A' * y1 * B' = c * c * (E1 * E2) * (1 + d * (x1 * X' * y1 * Y')) := by rw [hS', hM', hA', hB']; clear h e1; grind
  have e3 : x1 * B' * S' + A' * M' * y1 = c * (E1 * E2) * (x1 * Y' + X' * y1) := by rw [hS', hM', hA', hB']; clear h e1 e2; grind
  have e4 : S * M + c * A * x3 * B * y3 = c * c * (D1 * D2) * (1 + d * (X * x3 * Y * y3)) := by rw [hS, hM, hA, hB]; clear h e1 e2 e3; grind
  rw [e1, e2, e3, e4] at h
  generalize X * y3 + x3 * Y = a at *
  generalize 1 + d * (x1 * X' * y1 * Y') = b at *
  generalize x1 * Y' + X' * y1 = e at *
  generalize 1 + d * (X * x3 * Y * y3) = f at *
  clear e1 e2 e3 e4 hS hM hS' hM' hA hB hA' hB'
  grind
theorem Y76 {c d D1 D2 E1 E2 A B A' B' S M S' M' X Y X' Y' : Fp} (hc : d * c = 1) (hS : S = c * D1) (hM : M = c * D2) (hS' : S' = c * E1) (hM' : M' = c * E2) (hA : A = X * D1) (hB : B = Y * D2) (hA' : A' = X' * E1) (hB' : B' = Y' * E2) (x1 y1 x3 y3 : Fp)
    (h : (B * S * y3 + A * M * x3) * (S' * M' - c * x1 * A' * y1 * B') = (y1 * B' * S' + x1 * A' * M') * (S * M - c * A * x3 * B * y3)) :
    (c * c * c * (D1 * D2) * (E1 * E2)) * ((Y * y3 + X * x3) * (1 - d * (x1 * X' * y1 * Y'))) = (c * c * c * (D1 * D2) * (E1 * E2)) * ((y1 * Y' + x1 * X') * (1 - d * (X * x3 * Y * y3))) := by
  have e1 : B * S * y3 + A * M * x3 = c * (D1 * D2) * (Y * y3 + X * x3) := by rw [hA, hM, hB, hS]; clear h; grind
  have e2 : S' * M' - c * x1 * A' * y1 * B' = c * c * (E1 * E2) * (1 - d * (x1 * X' * y1 * Y')) := by rw [hS', hM', hA', hB']; clear h e1; grind
  have e3 : y1 * B' * S' + x1 * A' * M' = c * (E1 * E2) * (y1 * Y' + x1 * X') := by rw [hS', hM', hA', hB']; clear h e1 e2; grind
  have e4 : S * M - c * A * x3 * B * y3 = c * c * (D1 * D2) * (1 - d * (X * x3 * Y * y3)) := by rw [hS, hM, hA, hB]; clear h e1 e2 e3; grind
  rw [e1, e2, e3, e4] at h
  generalize Y * y3 + X * x3 = a at *
  generalize 1 - d * (x1 * X' * y1 * Y') = b at *
  generalize y1 * Y' + x1 * X' = e at *
  generalize 1 - d * (X * x3 * Y * y3) = f at *
  clear e1 e2 e3 e4 hS hM hS' hM' hA hB hA' hB'
  grind
theorem Q5r {a b x : Fp} (hb : b ≠ 0) (hx : x = a * J3n b) : a = x * b := by
  have := J0k hb
  grind
theorem sS {c d : Fp} (hc : d * c = 1) (t : Fp) : c + t = c * (1 + d * t) := by grind
theorem sM {c d : Fp} (hc : d * c = 1) (t : Fp) : c - t = c * (1 - d * t) := by grind
theorem Q2o {p q r : Pr} (hp : OnC p) (hq : OnC q) (hr : OnC r) : J0w (J0w p q) r = J0w p (J0w q r) := by
  have hc := J0k V0n
  have pq := J7y hp hq
  have qr := J7y hq hr
  have d1 := Q0f hp hq
  have d2 := J9k hp hq
  have e1 := Q0f hq hr
  have e2 := J9k hq hr
  have b1 := Q0f pq hr
  have b2 := J9k pq hr
  have b3 := Q0f hp qr
  have b4 := J9k hp qr
  have hk : J3n dd * J3n dd * J3n dd * ((1 + dd * (p.1 * q.1 * p.2 * q.2)) * (1 - dd * (p.1 * q.1 * p.2 * q.2))) * ((1 + dd * (q.1 * r.1 * q.2 * r.2)) * (1 - dd * (q.1 * r.1 * q.2 * r.2))) ≠ 0 := by
    have D : J3n dd ≠ 0 := fun h => by
      rw [h] at hc; revert hc; generalize dd = z; intro hc
      have : (1 : Fp) = 0 := by rw [← hc]; exact Fin.mul_zero z
      revert this; decide +kernel
    exact J00 (J00 (J00 (J00 D D) D) (J00 d1 d2)) (J00 e1 e2)
  obtain ⟨X, hX⟩ : ∃ X, X = (J0w p q).1 := ⟨_, rfl⟩
  obtain ⟨Y, hY⟩ : ∃ X, X = (J0w p q).2 := ⟨_, rfl⟩
  obtain ⟨X', G⟩ : ∃ X, X = (J0w q r).1 := ⟨_, rfl⟩
  obtain ⟨Y', J⟩ : ∃ X, X = (J0w q r).2 := ⟨_, rfl⟩
  have kA := Q5r d1 hX
  have kB := Q5r d2 hY
  have kA' := Q5r e1 G
  have kB' := Q5r e2 J
  have hS := sS hc
  have hM := sM hc
  have f1 := V0p hc (hS (p.1 * q.1 * p.2 * q.2)) (hM _) (hS (q.1 * r.1 * q.2 * r.2)) (hM _) kA kB kA' kB' p.1 p.2 r.1 r.2
    (Y18 (Z3b hc hp) (Z3b hc hq) (Z3b hc hr) rfl rfl rfl rfl rfl rfl rfl rfl)
  have f2 := Y76 hc (hS (p.1 * q.1 * p.2 * q.2)) (hM _) (hS (q.1 * r.1 * q.2 * r.2)) (hM _) kA kB kA' kB' p.1 p.2 r.1 r.2
    (Y19 (Z3b hc hp) (Z3b hc hq) (Z3b hc hr) rfl rfl rfl rfl rfl rfl rfl rfl)
  have g1 := Q5q hk f1
  have g2 := Q5q hk f2
  rw [hX, hY, G, J] at g1 g2
  refine Prod.ext ?_ ?_
  · exact Z1a b1 b3 g1
  exact Z1a b2 b4 g2
theorem Z6w {p : Pr} (hp : OnC p) : J0w p (J52 p) = p0 := by
  have d2 := J9k hp (Q17 hp)
  have h2 := J0k d2
  unfold J0w J52 p0 at *
  refine Prod.ext ?_ ?_
  · show (p.1 * p.2 + -p.1 * p.2) * _ = 0
    have : p.1 * p.2 + -p.1 * p.2 = 0 := by grind
    rw [this]; exact Fin.zero_mul _
  have e : p.2 * p.2 + p.1 * -p.1 = 1 - dd * (p.1 * -p.1 * p.2 * p.2) := by unfold OnC at hp; grind
  show (p.2 * p.2 + p.1 * -p.1) * J3n (1 - dd * (p.1 * -p.1 * p.2 * p.2)) = 1
  rw [e]; exact h2
theorem Z1b (p : Pr) : J0w p p0 = p := by rw [Z39, Q5p]
def pm (p : Pr) : Nat → Pr
  | 0 => p0
  | n + 1 => J0w (pm p n) p
theorem Q0g {p : Pr} (hp : OnC p) : ∀ n, OnC (pm p n)
  | 0 => Z6v
  | n + 1 => J7y (Q0g hp n) hp
theorem Q2p {p : Pr} (hp : OnC p) (m : Nat) : ∀ n, pm p (m + n) = J0w (pm p m) (pm p n)
  | 0 => (Z1b _).symm
  | n + 1 => by
    show J0w (pm p (m + n)) p = J0w (pm p m) (J0w (pm p n) p)
    rw [Q2p hp m n, Q2o (Q0g hp m) (Q0g hp n) hp]
theorem Q2l {p : Pr} (hp : OnC p) (m : Nat) : pm p (2 * m) = J0w (pm p m) (pm p m) := by rw [Nat.two_mul, Q2p hp]
theorem Y6p {p : Pr} (hp : OnC p) (m : Nat) : pm p (2 * m + 1) = J0w (J0w (pm p m) (pm p m)) p := by rw [← Q2l hp]; rfl
theorem Y50 : ∀ n, pm p0 n = p0
  | 0 => rfl
  | n + 1 => by show J0w (pm p0 n) p0 = p0; rw [Y50 n, Q5p]
theorem Q97 {p : Pr} (hp : OnC p) (m : Nat) : ∀ n, pm p (m * n) = pm (pm p m) n
  | 0 => rfl
  | n + 1 => by rw [Nat.mul_succ, Q2p hp, Q97 hp m n]; rfl
theorem Z3c {p q : Pr} : J52 (J0w p q) = J0w (J52 p) (J52 q) := by
  unfold J0w J52
  refine Prod.ext ?_ ?_
  · show -((p.1 * q.2 + q.1 * p.2) * J3n (1 + dd * (p.1 * q.1 * p.2 * q.2))) = (-p.1 * q.2 + -q.1 * p.2) * J3n (1 + dd * (-p.1 * -q.1 * p.2 * q.2))
    rw [show -p.1 * -q.1 * p.2 * q.2 = p.1 * q.1 * p.2 * q.2 by grind]; grind
  show (p.2 * q.2 + p.1 * q.1) * J3n (1 - dd * (p.1 * q.1 * p.2 * q.2)) = (p.2 * q.2 + -p.1 * -q.1) * J3n (1 - dd * (-p.1 * -q.1 * p.2 * q.2))
  rw [show -p.1 * -q.1 * p.2 * q.2 = p.1 * q.1 * p.2 * q.2 by grind, show -p.1 * -q.1 = p.1 * q.1 by grind]
theorem pneg_p0 : J52 p0 = p0 := by
  unfold J52 p0
  refine Prod.ext ?_ rfl
  show -(0 : Fp) = 0
  decide +kernel
theorem Z1c (p : Pr) : ∀ n, pm (J52 p) n = J52 (pm p n)
  | 0 => pneg_p0.symm
  | n + 1 => by show J0w (pm (J52 p) n) (J52 p) = J52 (J0w (pm p n) p); rw [Z1c p n, Z3c]
/-! ### the formulas of the code: a point is (X : Y : Z : T) -/
def Rc (X Y Z T : Fp) (a : Pr) : Prop := Z ≠ 0 ∧ X = a.1 * Z ∧ Y = a.2 * Z ∧ T = a.1 * a.2 * Z
def Rr (X Y Z : Fp) (a : Pr) : Prop := Z ≠ 0 ∧ X = a.1 * Z ∧ Y = a.2 * Z
theorem Rc.rr {X Y Z T : Fp} {a : Pr} (h : Rc X Y Z T a) : Rr X Y Z a := ⟨h.1, h.2.1, h.2.2.1⟩
theorem Y77 : (2 : Fp) ≠ 0 := by decide +kernel
theorem Y51 {E F G H : Fp} {x y : Fp} (hF : F ≠ 0) (hG : G ≠ 0) (hx : E = x * G) (hy : H = y * F) : Rc (E * F) (G * H) (F * G) (E * H) (x, y) :=
  ⟨J00 hF hG, by subst hx hy; show x * G * F = x * (F * G); grind, by subst hx hy; show G * (y * F) = y * (F * G); grind, by subst hx hy; show x * G * (y * F) = x * y * (F * G); grind⟩
theorem Y78 {X1 Y1 Z1 T1 X2 Y2 Z2 T2 : Fp} {a b : Pr} (ha : OnC a) (hb : OnC b) (h1 : Rc X1 Y1 Z1 T1 a) (h2 : Rc X2 Y2 Z2 T2 b) {A B C D : Fp}
    (hA : A = (Y1 - X1) * (Y2 - X2)) (hB : B = (Y1 + X1) * (Y2 + X2)) (hC : C = T1 * (2 * dd) * T2) (hD : D = (Z1 + Z1) * Z2) :
    Rc ((B - A) * (D - C)) ((D + C) * (B + A)) ((D - C) * (D + C)) ((B - A) * (B + A)) (J0w a b) := by
  obtain ⟨z1, x1, y1, t1⟩ := h1
  obtain ⟨z2, x2, y2, t2⟩ := h2
  have dp := Q0f ha hb
  have dm := J9k ha hb
  have eF : D - C = 2 * Z1 * Z2 * (1 - dd * (a.1 * b.1 * a.2 * b.2)) := by subst hC hD t1 t2; grind
  have eG : D + C = 2 * Z1 * Z2 * (1 + dd * (a.1 * b.1 * a.2 * b.2)) := by subst hC hD t1 t2; clear eF; grind
  have nz : 2 * Z1 * Z2 ≠ 0 := J00 (J00 Y77 z1) z2
  refine Y51 (by rw [eF]; exact J00 nz dm) (by rw [eG]; exact J00 nz dp) ?_ ?_
  · have k := J0k dp
    rw [eG]
    have e : B - A = 2 * Z1 * Z2 * (a.1 * b.2 + b.1 * a.2) := by subst hA hB x1 x2 y1 y2; clear eF eG k; grind
    rw [e]
    generalize 1 + dd * (a.1 * b.1 * a.2 * b.2) = u at *
    generalize a.1 * b.2 + b.1 * a.2 = s at *
    clear eF eG e hA hB hC hD x1 x2 y1 y2 t1 t2 nz z1 z2 dm dp ha hb
    grind
  have k := J0k dm
  rw [eF]
  have e : B + A = 2 * Z1 * Z2 * (a.2 * b.2 + a.1 * b.1) := by subst hA hB x1 x2 y1 y2; clear eF eG k; grind
  rw [e]
  generalize 1 - dd * (a.1 * b.1 * a.2 * b.2) = u at *
  generalize a.2 * b.2 + a.1 * b.1 = s at *
  clear eF eG e hA hB hC hD x1 x2 y1 y2 t1 t2 nz z1 z2 dm dp ha hb
  grind
theorem Z6x {X Y Z T : Fp} {a : Pr} (ha : OnC a) (h : Rc X Y Z T a) {A B C E G H F : Fp} (hA : A = X * X) (hB : B = Y * Y) (hC : C = Z * Z + Z * Z) (hH : H = A + B) (hE : E = H - (X + Y) * (X + Y)) (hG : G = A - B) (hF : F = C + G) :
    Rc (E * F) (G * H) (F * G) (E * H) (J0w a a) := by
  obtain ⟨z, x, y, t⟩ := h
  have dp := Q0f ha ha
  have dm := J9k ha ha
  unfold OnC at ha
  have eG : G = -(Z * Z) * (1 + dd * (a.1 * a.1 * a.2 * a.2)) := by subst hG hA hB x y; clear hE hH hF hC; grind
  have eF : F = Z * Z * (1 - dd * (a.1 * a.1 * a.2 * a.2)) := by rw [hF, eG, hC]; clear hE hH hF hC hG eG; grind
  have zz := J00 z z
  have D : -(Z * Z) ≠ 0 := fun h => zz (by grind)
  refine Y51 (by rw [eF]; exact J00 zz dm) (by rw [eG]; exact J00 D dp) ?_ ?_
  · have k := J0k dp
    have e : E = -(Z * Z) * (a.1 * a.2 + a.1 * a.2) := by subst hE hH hA hB x y; clear eF eG k hG hF hC; grind
    rw [eG, e]
    generalize 1 + dd * (a.1 * a.1 * a.2 * a.2) = u at *
    generalize a.1 * a.2 + a.1 * a.2 = s at *
    clear eF eG e hA hB hC hE hG hF hH x y t D zz z dm dp ha
    grind
  have k := J0k dm
  have e : H = Z * Z * (a.2 * a.2 + a.1 * a.1) := by subst hH hA hB x y; clear eF eG k hG hF hC hE; grind
  rw [eF, e]
  generalize 1 - dd * (a.1 * a.1 * a.2 * a.2) = u at *
  generalize a.2 * a.2 + a.1 * a.1 = s at *
  clear eF eG e hA hB hC hE hG hF hH x y t D zz z dm dp ha
  grind
theorem Y79 {X1 Y1 Z1 X2 Y2 Z2 : Fp} {a b : Pr} (ha : OnC a) (hb : OnC b) (h1 : Rr X1 Y1 Z1 a) (h2 : Rr X2 Y2 Z2 b) {A B C D E F G S : Fp}
    (hA : A = Z1 * Z2) (hB : B = A * A) (hC : C = X1 * X2) (hD : D = Y1 * Y2) (hE : E = dd * (C * D)) (hF : F = B - E) (hG : G = B + E) (hS : S = (X1 + Y1) * (X2 + Y2)) :
    Rr (A * F * (S - (C + D))) (A * G * (C + D)) (F * G) (J0w a b) := by
  obtain ⟨z1, x1, y1⟩ := h1
  obtain ⟨z2, x2, y2⟩ := h2
  have dp := Q0f ha hb
  have dm := J9k ha hb
  have zz := J00 z1 z2
  rw [← hA] at zz
  have eE : E = A * A * (dd * (a.1 * b.1 * a.2 * b.2)) := by subst hE hC hD hA x1 x2 y1 y2; clear hB hF hG hS; grind
  have eF : F = A * A * (1 - dd * (a.1 * b.1 * a.2 * b.2)) := by rw [hF, hB, eE]; clear hA hB hF hG hS hC hD hE eE; grind
  have eG : G = A * A * (1 + dd * (a.1 * b.1 * a.2 * b.2)) := by rw [hG, hB, eE]; clear hA hB hF hG hS hC hD hE eE eF; grind
  have hS' : S - (C + D) = A * (a.1 * b.2 + b.1 * a.2) := by subst hS hC hD hA x1 x2 y1 y2; clear hB hF hG hE eE eF eG; grind
  have hT' : C + D = A * (a.2 * b.2 + a.1 * b.1) := by subst hC hD hA x1 x2 y1 y2; clear hB hF hG hE eE eF eG hS hS'; grind
  have kp := J0k dp
  have km := J0k dm
  refine ⟨by rw [eF, eG]; exact J00 (J00 (J00 zz zz) dm) (J00 (J00 zz zz) dp), ?_, ?_⟩
  · show A * F * (S - (C + D)) = ((a.1 * b.2 + b.1 * a.2) * J3n (1 + dd * (a.1 * b.1 * a.2 * b.2))) * (F * G)
    rw [hS', eF, eG]
    generalize 1 + dd * (a.1 * b.1 * a.2 * b.2) = u at *
    generalize 1 - dd * (a.1 * b.1 * a.2 * b.2) = v at *
    generalize a.1 * b.2 + b.1 * a.2 = s at *
    clear hS' hT' eF eG eE hA hB hC hD hE hF hG hS x1 x2 y1 y2 z1 z2 km ha hb dp dm zz
    grind
  show A * G * (C + D) = ((a.2 * b.2 + a.1 * b.1) * J3n (1 - dd * (a.1 * b.1 * a.2 * b.2))) * (F * G)
  rw [hT', eF, eG]
  generalize 1 + dd * (a.1 * b.1 * a.2 * b.2) = u at *
  generalize 1 - dd * (a.1 * b.1 * a.2 * b.2) = v at *
  generalize a.2 * b.2 + a.1 * b.1 = s at *
  clear hS' hT' eF eG eE hA hB hC hD hE hF hG hS x1 x2 y1 y2 z1 z2 kp ha hb dp dm zz
  grind
theorem Y7a {X Y Z : Fp} {a : Pr} (h : Rr X Y Z a) : X * J3n Z = a.1 ∧ Y * J3n Z = a.2 := by
  obtain ⟨z, x, y⟩ := h
  have := J0k z
  subst x y
  constructor <;> grind
end

section

/-! ### The root of a quotient -/
theorem Q98 (A n : Nat) : fp (pw (A % PP) n) = fp (A ^ n) := by
  unfold pw
  rw [J0q]; exact fp_eq.2 (by rw [← Nat.pow_mod])
theorem Z6y (u v E : Nat) (hE : E = 7237005577332262213973186563042994240829374041602535252466099000494570602493) : fp (rtX u v) = fp u * (fp v * fp v * fp v) * fp ((u * v7 v) ^ E) := by
  unfold rtX
  rw [← hE, J0q, J1h, J0q, J1h, Y4w, Q98]
theorem Y1a (V X E : Nat) (hE : 8 * E + 4 = PP - 1) (hV : V % PP ≠ 0) (hX : X % PP ≠ 0) : fp ((V * V * (V * V) * (V * V * (V * V)) * (X * X)) ^ (2 * E + 1)) * fp ((V * V * (V * V) * (V * V * (V * V)) * (X * X)) ^ (2 * E + 1)) = 1 := by
  rw [← J1h, ← Q00]
  refine fp_eq.2 ?_
  obtain ⟨M, hM⟩ : ∃ M, M = PP - 1 := ⟨_, rfl⟩
  have f1 : V ^ M % PP = 1 := by rw [hM]; exact genP.fermat hV
  have f2 : X ^ M % PP = 1 := by rw [hM]; exact genP.fermat hX
  rw [← hM] at hE
  clear hM
  have e : (V * V * (V * V) * (V * V * (V * V)) * (X * X)) ^ (2 * E + 1) * (V * V * (V * V) * (V * V * (V * V)) * (X * X)) ^ (2 * E + 1) = (V ^ M * V ^ M * (V ^ M * V ^ M)) * X ^ M := by
    have a1 : V * V * (V * V) * (V * V * (V * V)) = V ^ 8 := by simp only [Nat.pow_succ, Nat.pow_zero, Nat.one_mul, Nat.mul_assoc]
    have a2 : X * X = X ^ 2 := by simp only [Nat.pow_succ, Nat.pow_zero, Nat.one_mul]
    rw [a1, a2]
    simp only [← Nat.pow_add, Nat.mul_pow, ← Nat.pow_mul]
    rw [Nat.mul_mul_mul_comm, ← Nat.pow_add, ← Nat.pow_add, show 8 * (2 * E + 1) + 8 * (2 * E + 1) = M + M + (M + M) by omega, show 2 * (2 * E + 1) + 2 * (2 * E + 1) = M by omega]
  rw [e]
  have g1 : V ^ M * V ^ M % PP = 1 := by rw [Nat.mul_mod, f1]; decide +kernel
  have g2 : V ^ M * V ^ M * (V ^ M * V ^ M) % PP = 1 := by rw [Nat.mul_mod, g1]; decide +kernel
  rw [Nat.mul_mod, g2, f2]
theorem Y7b (v : Nat) : fp (v7 v) = fp (v * v * v * (v * v * v) * v) := by rw [V0l, Y4w]; simp only [J1h]
theorem Q5s {A B : Nat} (h : fp A = fp B) (n : Nat) : fp (A ^ n) = fp (B ^ n) := fp_eq.2 (by rw [Nat.pow_mod, fp_eq.1 h, ← Nat.pow_mod])
theorem Y1b {u v X : Nat} (hv : fp v ≠ 0) (h : fp u = fp v * (fp X * fp X)) : rtB u v = true := by
  unfold rtB
  by_cases hx : fp X = 0
  · have hu : fp u = 0 := by rw [h, hx]; grind
    have : rtW u v = u % PP := Q5n (Nat.mod_lt _ J4e) (Nat.mod_lt _ J4e) (by
      rw [Y74, J0q, Z6y u v _ rfl, hu]; generalize fp _ = z; grind)
    rw [decide_eq_true this, Bool.true_or]
  obtain ⟨E, hE⟩ : ∃ E, E = 7237005577332262213973186563042994240829374041602535252466099000494570602493 := ⟨_, rfl⟩
  have D : 8 * E + 4 = PP - 1 := by rw [hE]; decide +kernel
  have hk := Y1a v X E D (Z6t hv) (Z6t hx)
  have hW : fp (rtW u v) = fp u * fp ((v * v * (v * v) * (v * v * (v * v)) * (X * X)) ^ (2 * E + 1)) := by
    rw [Y74, Z6y u v E hE]
    have e1 : fp (u * v7 v) = fp (v * v * (v * v) * (v * v * (v * v)) * (X * X)) := by rw [J1h, Y7b, h]; simp only [J1h]; grind
    rw [Q5s e1 E]
    generalize hA : v * v * (v * v) * (v * v * (v * v)) * (X * X) = A
    have hA' : fp A = fp v * fp v * (fp v * fp v) * (fp v * fp v * (fp v * fp v)) * (fp X * fp X) := by rw [← hA]; simp only [J1h]
    rw [show A ^ (2 * E + 1) = A ^ E * A ^ E * A by rw [← Nat.pow_add, ← Nat.pow_succ]; congr 1; omega, J1h, J1h, hA', h]
    generalize fp (A ^ E) = z
    clear hA' hA e1 hk D
    grind
  rcases Q96 hk with hs | hs
  · have : rtW u v = u % PP := Q5n (Nat.mod_lt _ J4e) (Nat.mod_lt _ J4e) (by rw [hW, hs, J0q]; grind)
    rw [decide_eq_true this, Bool.true_or]
  have : rtW u v = (PP - u % PP) % PP := Q5n (Nat.mod_lt _ J4e) (Nat.mod_lt _ J4e) (by rw [hW, hs, J0q, J7f]; grind)
  rw [decide_eq_true this, Bool.or_true]
theorem J9f (u v : Nat) : rtR u v < PP := by
  unfold rtR
  split
  · exact Y73 _ _
  split
  · exact Nat.mod_lt _ J4e
  exact J4e
/-! ### A point's bytes -/
def dU (y : Nat) : Nat := (y * y % PP + (PP - 1 % PP)) % PP
def dV (y : Nat) : Nat := (DD * (y * y % PP) % PP + 1) % PP
def dX (y : Nat) : Nat := rtR (dU y) (dV y)
def dB (y : Nat) : Bool := rtB (dU y) (dV y)
def top (V : Nat) : Bool := decide (2 ^ 255 ≤ V)
def Q0n (x : Nat) : Bool := decide (x % PP % 2 = 1)
def dXf (y : Nat) (o : Bool) : Nat := if Q0n (dX y) = o then dX y else (PP - dX y % PP) % PP
def dOk (V : Nat) : Bool := decide (V % 2 ^ 255 < PP) && dB (V % 2 ^ 255) && !(top V && decide (dX (V % 2 ^ 255) = 0))
def dPt (V : Nat) : Pr := (fp (dXf (V % 2 ^ 255) (top V)), fp (V % 2 ^ 255))
def enc (a : Pr) : Nat := a.2.val + 2 ^ 255 * (a.1.val % 2)
theorem Y52 (y : Nat) : fp (dU y) = fp y * fp y - 1 := by unfold dU; rw [J0q, J8m, J0q, J7f, J1h, Q00]; grind
theorem Z6z (y : Nat) : fp (dV y) = dd * (fp y * fp y) + 1 := by unfold dV; rw [J0q, J8m, J0q, J1h, J0q, J1h, Q00]; rfl
theorem V0q (y : Nat) : fp (dV y) ≠ 0 := by
  rw [Z6z]
  intro h
  by_cases hy : fp y = 0
  · rw [hy] at h
    have e : dd * (0 * 0) + 1 = (1 : Fp) := by
      have : dd * (0 * 0) = 0 := by rw [Fin.mul_zero, Fin.mul_zero]
      rw [this]; decide +kernel
    rw [e] at h
    exact absurd h (by decide +kernel)
  exact Q5o (a := ii) hy (by have := Y4y; grind)
theorem Y53 {y : Nat} (h : dB y = true) : fp (dV y) * (fp (dX y) * fp (dX y)) = fp (dU y) := V0m h
theorem Z70 (y : Nat) (o : Bool) : fp (dXf y o) * fp (dXf y o) = fp (dX y) * fp (dX y) := by
  unfold dXf
  split
  · rfl
  rw [J0q, J7f]; grind
theorem Z6l {V : Nat} (h : dOk V = true) : OnC (dPt V) := by
  unfold dOk at h
  simp only [Bool.and_eq_true] at h
  have h1 := Y53 h.1.2
  have h2 := Z70 (V % 2 ^ 255) (top V)
  rw [Z6z, Y52] at h1
  unfold OnC dPt
  show fp (V % 2 ^ 255) * fp (V % 2 ^ 255) - fp (dXf (V % 2 ^ 255) (top V)) * fp (dXf (V % 2 ^ 255) (top V)) = 1 + dd * (fp (dXf (V % 2 ^ 255) (top V)) * fp (dXf (V % 2 ^ 255) (top V))) * (fp (V % 2 ^ 255) * fp (V % 2 ^ 255))
  rw [h2]
  generalize fp (V % 2 ^ 255) = y at *
  generalize fp (dX (V % 2 ^ 255)) = x at *
  clear h2 h
  grind
theorem Q91 (y : Nat) : dX y < PP := J9f _ _
theorem Y7c : PP % 2 = 1 := by decide +kernel
theorem Q5h : PP < 2 ^ 255 := by decide +kernel
theorem Z1d {x : Nat} (h0 : x ≠ 0) (hx : x < PP) : (PP - x) % 2 = 1 - x % 2 := by
  have := Y7c
  omega
theorem Y1c {y : Nat} {o : Bool} (h : ¬ (o = true ∧ dX y = 0)) : dXf y o < PP ∧ decide (dXf y o % 2 = 1) = o := by
  have hl := Q91 y
  unfold dXf Q0n
  rw [Nat.mod_eq_of_lt hl]
  split
  · rename_i h1; exact ⟨hl, h1⟩
  rename_i h1
  by_cases h0 : dX y = 0
  · rw [h0] at h1
    have : o = false := by
      cases o
      · rfl
      exact absurd ⟨rfl, h0⟩ h
    rw [this] at h1
    exact absurd (by decide) h1
  have h2 := Z1d h0 hl
  have hP : (PP - dX y) % PP = PP - dX y := Nat.mod_eq_of_lt (by omega)
  rw [hP, h2]
  refine ⟨by omega, ?_⟩
  have hp := Nat.mod_two_eq_zero_or_one (dX y)
  rcases hp with hp | hp <;> rw [hp] at h1 ⊢ <;> cases o <;> simp_all
theorem Y1d (a : Pr) : enc a % 2 ^ 255 = a.2.val ∧ top (enc a) = decide (a.1.val % 2 = 1) ∧ enc a < 2 ^ 256 := by
  have h1 := a.2.isLt
  have h2 := Q5h
  unfold enc top
  refine ⟨by omega, ?_, by omega⟩
  by_cases h : a.1.val % 2 = 1
  · rw [decide_eq_true h, h]; exact decide_eq_true (by omega)
  rw [decide_eq_false h]; exact decide_eq_false (by omega)
theorem Y1e {a : Pr} (h : OnC a) : dOk (enc a) = true ∧ dPt (enc a) = a := by
  obtain ⟨e1, e2, e3⟩ := Y1d a
  have hv := V0q a.2.val
  have hu : fp (dU a.2.val) = fp (dV a.2.val) * (fp a.1.val * fp a.1.val) := by
    rw [Y52, Z6z, J40, J40]
    unfold OnC at h
    grind
  have hb : dB a.2.val = true := Y1b hv hu
  have hs := Y53 hb
  rw [hu] at hs
  have hx : fp (dX a.2.val) = a.1 ∨ fp (dX a.2.val) = - a.1 := by
    have := Q5q hv hs
    rw [J40] at this
    exact Z6u this
  have hl := Q91 a.2.val
  have G : dX a.2.val = 0 → a.1.val = 0 := by
    intro h0
    rw [h0, Q5m] at hx
    have : a.1 = 0 := by rcases hx with h | h <;> grind
    rw [this]; rfl
  have hn : ¬ (top (enc a) = true ∧ dX a.2.val = 0) := by
    rintro ⟨p1, p2⟩
    rw [e2, G p2] at p1
    cases p1
  refine ⟨?_, ?_⟩
  · unfold dOk
    rw [e1, hb, decide_eq_true a.2.isLt]
    cases ht : top (enc a)
    · rfl
    have : ¬ dX a.2.val = 0 := fun h0 => hn ⟨ht, h0⟩
    simp [this]
  unfold dPt
  rw [e1]
  refine Prod.ext ?_ (J40 _)
  show fp (dXf a.2.val (top (enc a))) = a.1
  obtain ⟨p1, p2⟩ := Y1c hn
  have hz : fp (dXf a.2.val (top (enc a))) = a.1 ∨ fp (dXf a.2.val (top (enc a))) = -a.1 := by
    have := Z70 a.2.val (top (enc a))
    have h3 := Q5q hv hs
    rw [J40] at h3
    exact Z6u (by rw [this, h3])
  rcases hz with hz | hz
  · exact hz
  rw [e2] at p1 p2 hz ⊢
  generalize dXf a.2.val (decide (a.1.val % 2 = 1)) = z at *
  have D : z = (PP - a.1.val % PP) % PP := Q5n p1 (Nat.mod_lt _ J4e) (by rw [hz, J0q, J7f, J40])
  rw [Nat.mod_eq_of_lt a.1.isLt] at D
  by_cases h0 : a.1.val = 0
  · have : a.1 = 0 := Fin.ext h0
    rw [hz, this]; decide +kernel
  exfalso
  rw [Nat.mod_eq_of_lt (by omega : PP - a.1.val < PP)] at D
  have h4 := Z1d h0 a.1.isLt
  rw [← D] at h4
  have h5 := Nat.mod_two_eq_zero_or_one a.1.val
  rcases h5 with h5 | h5 <;> rw [h5] at h4 p2 <;> rw [h4] at p2 <;> cases p2
end
end Go.Proofs.YtejkmhgkkibafaaGreatDoor.S8
