/- Vrf: the text's point, the challenge, proofs, their check and their sum, as functions of numbers, points and bytes. No conditions. -/
import Derived.Test.YtefpoollmbmkfaaDoorSi
set_option linter.unusedSimpArgs false
set_option linter.unusedVariables false
namespace Go.Proofs.YtefpoollmbmkfaaDoor
open Go.RowKit
set_option maxRecDepth 100000
open Sc (LL e9)
attribute [local irreducible] hs
def A9 (V : Nat) (L : List UInt8) (c : Nat) : Nat := lo (hs ([3, 1] ++ lb 32 V ++ L ++ [u8 c, 0]))
def a6 (V : Nat) (L : List UInt8) (c : Nat) : Pr := pm (B1 (A9 V L c)) 8
def r9 (V : Nat) (L : List UInt8) (c : Nat) : Bool := G9 (A9 V L c) && !decide (a6 V L c = p0)
def q9y (V : Nat) (L : List UInt8) : Nat → Nat → Option Nat
  | 0, _ => none
  | f + 1, c => if r9 V L c = true then some c else q9y V L f (c + 1)
def vpt (V : Nat) (L : List UInt8) : Option Nat := q9y V L 256 0
theorem q1u (V : Nat) (L : List UInt8) (c : Nat) : A9 V L c < 2 ^ 256 := j8j _
theorem q6t {V : Nat} {L : List UInt8} {r : Nat} : ∀ f c, q9y V L f c = some r → r < c + f ∧ r9 V L r = true ∧ ∀ i, c ≤ i → i < r → r9 V L i = false
  | 0, c, h => by cases h
  | f + 1, c, h => by
    unfold q9y at h
    by_cases e : r9 V L c = true
    · rw [if_pos e] at h
      obtain rfl := Option.some.inj h
      exact ⟨by omega, e, fun i h1 h2 => by omega⟩
    · rw [if_neg e] at h
      obtain ⟨h1, h2, h3⟩ := q6t f (c + 1) h
      refine ⟨by omega, h2, fun i h4 h5 => ?_⟩
      by_cases e2 : i = c
      · subst e2; simpa using e
      · exact h3 i (by omega) h5
theorem q6u {V : Nat} {L : List UInt8} : ∀ f c, q9y V L f c = none → ∀ i, c ≤ i → i < c + f → r9 V L i = false
  | 0, c, _, i, h1, h2 => by omega
  | f + 1, c, h, i, h1, h2 => by
    unfold q9y at h
    by_cases e : r9 V L c = true
    · rw [if_pos e] at h; cases h
    · rw [if_neg e] at h
      by_cases e2 : i = c
      · subst e2; simpa using e
      · exact q6u f (c + 1) h i (by omega) (by omega)
theorem q1x {V r : Nat} {L : List UInt8} (h : vpt V L = some r) : r < 256 ∧ r9 V L r = true ∧ ∀ i, i < r → r9 V L i = false := by
  obtain ⟨h1, h2, h3⟩ := q6t 256 0 h
  exact ⟨by omega, h2, fun i hi => h3 i (Nat.zero_le _) hi⟩
theorem j1x {V : Nat} {L : List UInt8} (h : vpt V L = none) : ∀ i, i < 256 → r9 V L i = false := fun i hi => q6u 256 0 h i (Nat.zero_le _) (by omega)
theorem candOk_iff {V c : Nat} {L : List UInt8} : r9 V L c = true ↔ G9 (A9 V L c) = true ∧ ¬ a6 V L c = p0 := by
  unfold r9; simp
theorem q9r {V c : Nat} {L : List UInt8} (h : r9 V L c = false) (hd : G9 (A9 V L c) = true) : a6 V L c = p0 := by
  unfold r9 at h; rw [hd] at h; simpa using h
def chH (V : Nat) (a b c d : Pr) : Nat := hs ([3, 2] ++ lb 32 V ++ lb 32 (t6 a) ++ lb 32 (t6 b) ++ lb 32 (t6 c) ++ lb 32 (t6 d) ++ [0])
def p7 : Nat := 340282366920938463463374607431768211456
def ch (V : Nat) (a b c d : Pr) : Nat := chH V a b c d % p7
def pG (P : Nat) : Nat := P % 2 ^ 256
def pC (P : Nat) : Nat := P / 2 ^ 256 % p7
def pN (P : Nat) : Nat := P / 2 ^ 256 / p7
def vK' (S : Nat) (h : Pr) : Nat := hs (lb 32 (kD S) ++ lb 32 (t6 h)) % LL
def vC (S : Nat) (h : Pr) : Nat := ch (kP S) h (pm h (kN S)) (pm BP (vK' S h)) (pm h (vK' S h))
def vN (S : Nat) (h : Pr) : Nat := (vK' S h + vC S h % LL * (kN S % LL) % LL) % LL
def vPr (S : Nat) (h : Pr) : Nat := t6 (pm h (kN S)) + 2 ^ 256 * (vC S h + p7 * vN S h)
def q8i (P : Nat) : Nat := hs ([3, 3] ++ lb 32 (t6 (pm (B1 (pG P)) 8)) ++ [0])
def q1z (V P : Nat) (h : Pr) : Prop := ch V h (B1 (pG P)) (u5 (pm BP (pN P)) (pm (G1 (B1 V)) (pC P))) (u5 (pm h (pN P)) (pm (G1 (B1 (pG P))) (pC P))) = pC P
end Go.Proofs.YtefpoollmbmkfaaDoor
