/- Vrf: the text's point, the challenge, proofs, their check and their sum, as functions of numbers, points and bytes. No conditions. -/
import Derived.Test.YtefpoollmbmkfaaDoorSx
set_option linter.unusedSimpArgs false
set_option linter.unusedVariables false
namespace Go.Proofs.YtefpoollmbmkfaaDoor
open Go.RowKit
set_option maxRecDepth 100000
open Sc (LL J21)
attribute [local irreducible] hs
def J3w (V : Nat) (L : List UInt8) (c : Nat) : Nat := lo (hs ([3, 1] ++ lb 32 V ++ L ++ [u8 c, 0]))
def J22 (V : Nat) (L : List UInt8) (c : Nat) : Pr := pm (dPt (J3w V L c)) 8
def J2a (V : Nat) (L : List UInt8) (c : Nat) : Bool := dOk (J3w V L c) && !decide (J22 V L c = p0)
def Z0y (V : Nat) (L : List UInt8) : Nat → Nat → Option Nat
  | 0, _ => none
  | f + 1, c => if J2a V L c = true then some c else Z0y V L f (c + 1)
def vpt (V : Nat) (L : List UInt8) : Option Nat := Z0y V L 256 0
theorem J5z (V : Nat) (L : List UInt8) (c : Nat) : J3w V L c < 2 ^ 256 := Y7i _
theorem Q7p {V : Nat} {L : List UInt8} {r : Nat} : ∀ f c, Z0y V L f c = some r → r < c + f ∧ J2a V L r = true ∧ ∀ i, c ≤ i → i < r → J2a V L i = false
  | 0, c, h => by cases h
  | f + 1, c, h => by
    unfold Z0y at h
    by_cases e : J2a V L c = true
    · rw [if_pos e] at h
      obtain rfl := Option.some.inj h
      exact ⟨by omega, e, fun i h1 h2 => by omega⟩
    · rw [if_neg e] at h
      obtain ⟨h1, h2, h3⟩ := Q7p f (c + 1) h
      refine ⟨by omega, h2, fun i h4 h5 => ?_⟩
      by_cases e2 : i = c
      · subst e2; simpa using e
      · exact h3 i (by omega) h5
theorem Q7q {V : Nat} {L : List UInt8} : ∀ f c, Z0y V L f c = none → ∀ i, c ≤ i → i < c + f → J2a V L i = false
  | 0, c, _, i, h1, h2 => by omega
  | f + 1, c, h, i, h1, h2 => by
    unfold Z0y at h
    by_cases e : J2a V L c = true
    · rw [if_pos e] at h; cases h
    · rw [if_neg e] at h
      by_cases e2 : i = c
      · subst e2; simpa using e
      · exact Q7q f (c + 1) h i (by omega) (by omega)
theorem Q2j {V r : Nat} {L : List UInt8} (h : vpt V L = some r) : r < 256 ∧ J2a V L r = true ∧ ∀ i, i < r → J2a V L i = false := by
  obtain ⟨h1, h2, h3⟩ := Q7p 256 0 h
  exact ⟨by omega, h2, fun i hi => h3 i (Nat.zero_le _) hi⟩
theorem Z0q {V : Nat} {L : List UInt8} (h : vpt V L = none) : ∀ i, i < 256 → J2a V L i = false := fun i hi => Q7q 256 0 h i (Nat.zero_le _) (by omega)
theorem candOk_iff {V c : Nat} {L : List UInt8} : J2a V L c = true ↔ dOk (J3w V L c) = true ∧ ¬ J22 V L c = p0 := by
  unfold J2a; simp
theorem Q2h {V c : Nat} {L : List UInt8} (h : J2a V L c = false) (hd : dOk (J3w V L c) = true) : J22 V L c = p0 := by
  unfold J2a at h; rw [hd] at h; simpa using h
def chH (V : Nat) (a b c d : Pr) : Nat := hs ([3, 2] ++ lb 32 V ++ lb 32 (enc a) ++ lb 32 (enc b) ++ lb 32 (enc c) ++ lb 32 (enc d) ++ [0])
def J28 : Nat := 340282366920938463463374607431768211456
def ch (V : Nat) (a b c d : Pr) : Nat := chH V a b c d % J28
def pG (P : Nat) : Nat := P % 2 ^ 256
def pC (P : Nat) : Nat := P / 2 ^ 256 % J28
def pN (P : Nat) : Nat := P / 2 ^ 256 / J28
def vK' (S : Nat) (h : Pr) : Nat := hs (lb 32 (kD S) ++ lb 32 (enc h)) % LL
def vC (S : Nat) (h : Pr) : Nat := ch (kP S) h (pm h (kN S)) (pm BP (vK' S h)) (pm h (vK' S h))
def vN (S : Nat) (h : Pr) : Nat := (vK' S h + vC S h % LL * (kN S % LL) % LL) % LL
def vPr (S : Nat) (h : Pr) : Nat := enc (pm h (kN S)) + 2 ^ 256 * (vC S h + J28 * vN S h)
def Q6a (P : Nat) : Nat := hs ([3, 3] ++ lb 32 (enc (pm (dPt (pG P)) 8)) ++ [0])
def Q2m (V P : Nat) (h : Pr) : Prop := ch V h (dPt (pG P)) (J14 (pm BP (pN P)) (pm (J4c (dPt V)) (pC P))) (J14 (pm h (pN P)) (pm (J4c (dPt (pG P))) (pC P))) = pC P
end Go.Proofs.YtefpoollmbmkfaaDoor
