/- Vrf: the text's point, the challenge, proofs, their check and their sum, as functions of numbers, points and bytes. No conditions. -/
import Derived.Test.YtefpoollmbmkfaaDoorSx
set_option linter.unusedSimpArgs false
set_option linter.unusedVariables false
namespace Go.Proofs.YtefpoollmbmkfaaDoor
open Go.RowKit
set_option maxRecDepth 100000
open Sc (LL J2a)
attribute [local irreducible] hs
def J3x (V : Nat) (L : List UInt8) (c : Nat) : Nat := lo (hs ([3, 1] ++ lb 32 V ++ L ++ [u8 c, 0]))
def J22 (V : Nat) (L : List UInt8) (c : Nat) : Pr := pm (dPt (J3x V L c)) 8
def J2d (V : Nat) (L : List UInt8) (c : Nat) : Bool := dOk (J3x V L c) && !decide (J22 V L c = p0)
def Z0t (V : Nat) (L : List UInt8) : Nat → Nat → Option Nat
  | 0, _ => none
  | f + 1, c => if J2d V L c = true then some c else Z0t V L f (c + 1)
def vpt (V : Nat) (L : List UInt8) : Option Nat := Z0t V L 256 0
theorem J5v (V : Nat) (L : List UInt8) (c : Nat) : J3x V L c < 2 ^ 256 := Y7c _
theorem Q7l {V : Nat} {L : List UInt8} {r : Nat} : ∀ f c, Z0t V L f c = some r → r < c + f ∧ J2d V L r = true ∧ ∀ i, c ≤ i → i < r → J2d V L i = false
  | 0, c, h => by cases h
  | f + 1, c, h => by
    unfold Z0t at h
    by_cases e : J2d V L c = true
    · rw [if_pos e] at h
      obtain rfl := Option.some.inj h
      exact ⟨by omega, e, fun i h1 h2 => by omega⟩
    · rw [if_neg e] at h
      obtain ⟨h1, h2, h3⟩ := Q7l f (c + 1) h
      refine ⟨by omega, h2, fun i h4 h5 => ?_⟩
      by_cases e2 : i = c
      · subst e2; simpa using e
      · exact h3 i (by omega) h5
theorem Q7m {V : Nat} {L : List UInt8} : ∀ f c, Z0t V L f c = none → ∀ i, c ≤ i → i < c + f → J2d V L i = false
  | 0, c, _, i, h1, h2 => by omega
  | f + 1, c, h, i, h1, h2 => by
    unfold Z0t at h
    by_cases e : J2d V L c = true
    · rw [if_pos e] at h; cases h
    · rw [if_neg e] at h
      by_cases e2 : i = c
      · subst e2; simpa using e
      · exact Q7m f (c + 1) h i (by omega) (by omega)
theorem Q2c {V r : Nat} {L : List UInt8} (h : vpt V L = some r) : r < 256 ∧ J2d V L r = true ∧ ∀ i, i < r → J2d V L i = false := by
  obtain ⟨h1, h2, h3⟩ := Q7l 256 0 h
  exact ⟨by omega, h2, fun i hi => h3 i (Nat.zero_le _) hi⟩
theorem Z0l {V : Nat} {L : List UInt8} (h : vpt V L = none) : ∀ i, i < 256 → J2d V L i = false := fun i hi => Q7m 256 0 h i (Nat.zero_le _) (by omega)
theorem candOk_iff {V c : Nat} {L : List UInt8} : J2d V L c = true ↔ dOk (J3x V L c) = true ∧ ¬ J22 V L c = p0 := by
  unfold J2d; simp
theorem Q2a {V c : Nat} {L : List UInt8} (h : J2d V L c = false) (hd : dOk (J3x V L c) = true) : J22 V L c = p0 := by
  unfold J2d at h; rw [hd] at h; simpa using h
def chH (V : Nat) (a b c d : Pr) : Nat := hs ([3, 2] ++ lb 32 V ++ lb 32 (enc a) ++ lb 32 (enc b) ++ lb 32 (enc c) ++ lb 32 (enc d) ++ [0])
def J2b : Nat := 340282366920938463463374607431768211456
def ch (V : Nat) (a b c d : Pr) : Nat := chH V a b c d % J2b
def pG (P : Nat) : Nat := P % 2 ^ 256
def pC (P : Nat) : Nat := P / 2 ^ 256 % J2b
def pN (P : Nat) : Nat := P / 2 ^ 256 / J2b
def vK' (S : Nat) (h : Pr) : Nat := hs (lb 32 (kD S) ++ lb 32 (enc h)) % LL
def vC (S : Nat) (h : Pr) : Nat := ch (kP S) h (pm h (kN S)) (pm BP (vK' S h)) (pm h (vK' S h))
def vN (S : Nat) (h : Pr) : Nat := (vK' S h + vC S h % LL * (kN S % LL) % LL) % LL
def vPr (S : Nat) (h : Pr) : Nat := enc (pm h (kN S)) + 2 ^ 256 * (vC S h + J2b * vN S h)
def Q3w (P : Nat) : Nat := hs ([3, 3] ++ lb 32 (enc (pm (dPt (pG P)) 8)) ++ [0])
def Q2f (V P : Nat) (h : Pr) : Prop := ch V h (dPt (pG P)) (J14 (pm BP (pN P)) (pm (J4d (dPt V)) (pC P))) (J14 (pm h (pN P)) (pm (J4d (dPt (pG P))) (pC P))) = pC P
end Go.Proofs.YtefpoollmbmkfaaDoor
