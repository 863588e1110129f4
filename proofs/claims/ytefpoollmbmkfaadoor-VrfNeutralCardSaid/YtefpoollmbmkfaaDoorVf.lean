/- Vrf: the text's point, the challenge, proofs, their check and their sum, as functions of numbers, points and bytes. No conditions. -/
import Derived.Test.YtefpoollmbmkfaaDoorSi
set_option linter.unusedSimpArgs false
set_option linter.unusedVariables false
namespace Go.Proofs.YtefpoollmbmkfaaDoor
open Go.RowKit
set_option maxRecDepth 100000
open Sc (LL i6)
attribute [local irreducible] hs
def C0 (V : Nat) (L : List UInt8) (c : Nat) : Nat := lo (hs ([3, 1] ++ lb 32 V ++ L ++ [u8 c, 0]))
def o6 (V : Nat) (L : List UInt8) (c : Nat) : Pr := pm (M6 (C0 V L c)) 8
def r3 (V : Nat) (L : List UInt8) (c : Nat) : Bool := K0 (C0 V L c) && !decide (o6 V L c = p0)
def q8q (V : Nat) (L : List UInt8) : Nat → Nat → Option Nat
  | 0, _ => none
  | f + 1, c => if r3 V L c = true then some c else q8q V L f (c + 1)
def vpt (V : Nat) (L : List UInt8) : Option Nat := q8q V L 256 0
theorem q0j (V : Nat) (L : List UInt8) (c : Nat) : C0 V L c < 2 ^ 256 := j6j _
theorem q5n {V : Nat} {L : List UInt8} {r : Nat} : ∀ f c, q8q V L f c = some r → r < c + f ∧ r3 V L r = true ∧ ∀ i, c ≤ i → i < r → r3 V L i = false
  | 0, c, h => by cases h
  | f + 1, c, h => by
    unfold q8q at h
    by_cases e : r3 V L c = true
    · rw [if_pos e] at h
      obtain rfl := Option.some.inj h
      exact ⟨by omega, e, fun i h1 h2 => by omega⟩
    · rw [if_neg e] at h
      obtain ⟨h1, h2, h3⟩ := q5n f (c + 1) h
      refine ⟨by omega, h2, fun i h4 h5 => ?_⟩
      by_cases e2 : i = c
      · subst e2; simpa using e
      · exact h3 i (by omega) h5
theorem q5o {V : Nat} {L : List UInt8} : ∀ f c, q8q V L f c = none → ∀ i, c ≤ i → i < c + f → r3 V L i = false
  | 0, c, _, i, h1, h2 => by omega
  | f + 1, c, h, i, h1, h2 => by
    unfold q8q at h
    by_cases e : r3 V L c = true
    · rw [if_pos e] at h; cases h
    · rw [if_neg e] at h
      by_cases e2 : i = c
      · subst e2; simpa using e
      · exact q5o f (c + 1) h i (by omega) (by omega)
theorem q3x {V r : Nat} {L : List UInt8} (h : vpt V L = some r) : r < 256 ∧ r3 V L r = true ∧ ∀ i, i < r → r3 V L i = false := by
  obtain ⟨h1, h2, h3⟩ := q5n 256 0 h
  exact ⟨by omega, h2, fun i hi => h3 i (Nat.zero_le _) hi⟩
theorem j0i {V : Nat} {L : List UInt8} (h : vpt V L = none) : ∀ i, i < 256 → r3 V L i = false := fun i hi => q5o 256 0 h i (Nat.zero_le _) (by omega)
theorem candOk_iff {V c : Nat} {L : List UInt8} : r3 V L c = true ↔ K0 (C0 V L c) = true ∧ ¬ o6 V L c = p0 := by
  unfold r3; simp
theorem q8i {V c : Nat} {L : List UInt8} (h : r3 V L c = false) (hd : K0 (C0 V L c) = true) : o6 V L c = p0 := by
  unfold r3 at h; rw [hd] at h; simpa using h
def chH (V : Nat) (a b c d : Pr) : Nat := hs ([3, 2] ++ lb 32 V ++ lb 32 (r4 a) ++ lb 32 (r4 b) ++ lb 32 (r4 c) ++ lb 32 (r4 d) ++ [0])
def r6 : Nat := 340282366920938463463374607431768211456
def ch (V : Nat) (a b c d : Pr) : Nat := chH V a b c d % r6
def pG (P : Nat) : Nat := P % 2 ^ 256
def pC (P : Nat) : Nat := P / 2 ^ 256 % r6
def pN (P : Nat) : Nat := P / 2 ^ 256 / r6
def vK' (S : Nat) (h : Pr) : Nat := hs (lb 32 (kD S) ++ lb 32 (r4 h)) % LL
def vC (S : Nat) (h : Pr) : Nat := ch (kP S) h (pm h (kN S)) (pm BP (vK' S h)) (pm h (vK' S h))
def vN (S : Nat) (h : Pr) : Nat := (vK' S h + vC S h % LL * (kN S % LL) % LL) % LL
def vPr (S : Nat) (h : Pr) : Nat := r4 (pm h (kN S)) + 2 ^ 256 * (vC S h + r6 * vN S h)
def q8m (P : Nat) : Nat := hs ([3, 3] ++ lb 32 (r4 (pm (M6 (pG P)) 8)) ++ [0])
def q0m (V P : Nat) (h : Pr) : Prop := ch V h (M6 (pG P)) (d5 (pm BP (pN P)) (pm (G4 (M6 V)) (pC P))) (d5 (pm h (pN P)) (pm (G4 (M6 (pG P))) (pC P))) = pC P
end Go.Proofs.YtefpoollmbmkfaaDoor
