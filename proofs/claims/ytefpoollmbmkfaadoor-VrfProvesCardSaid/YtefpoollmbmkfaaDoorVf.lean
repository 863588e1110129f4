/- Vrf: the text's point, the challenge, proofs, their check and their sum, as functions of numbers, points and bytes. No conditions. -/
import Derived.Test.YtefpoollmbmkfaaDoorSi
set_option linter.unusedSimpArgs false
set_option linter.unusedVariables false
namespace Go.Proofs.YtefpoollmbmkfaaDoor
open Go.RowKit
set_option maxRecDepth 100000
open Sc (LL clampF)
attribute [local irreducible] hs
/-- candidate c of a text's point -/
def cand (V : Nat) (L : List UInt8) (c : Nat) : Nat := lo (hs ([3, 1] ++ lb 32 V ++ L ++ [u8 c, 0]))
def candP (V : Nat) (L : List UInt8) (c : Nat) : Pr := pm (dPt (cand V L c)) 8
def candOk (V : Nat) (L : List UInt8) (c : Nat) : Bool := dOk (cand V L c) && !decide (candP V L c = p0)
def vptF (V : Nat) (L : List UInt8) : Nat → Nat → Option Nat
  | 0, _ => none
  | f + 1, c => if candOk V L c = true then some c else vptF V L f (c + 1)
/-- which candidate is the text's point -/
def vpt (V : Nat) (L : List UInt8) : Option Nat := vptF V L 256 0
theorem cand_lt (V : Nat) (L : List UInt8) (c : Nat) : cand V L c < 2 ^ 256 := lo_lt _
theorem vptF_some {V : Nat} {L : List UInt8} {r : Nat} : ∀ f c, vptF V L f c = some r → r < c + f ∧ candOk V L r = true ∧ ∀ i, c ≤ i → i < r → candOk V L i = false
  | 0, c, h => by cases h
  | f + 1, c, h => by
    unfold vptF at h
    by_cases e : candOk V L c = true
    · rw [if_pos e] at h
      obtain rfl := Option.some.inj h
      exact ⟨by omega, e, fun i h1 h2 => by omega⟩
    · rw [if_neg e] at h
      obtain ⟨h1, h2, h3⟩ := vptF_some f (c + 1) h
      refine ⟨by omega, h2, fun i h4 h5 => ?_⟩
      by_cases e2 : i = c
      · subst e2; simpa using e
      · exact h3 i (by omega) h5
theorem vptF_none {V : Nat} {L : List UInt8} : ∀ f c, vptF V L f c = none → ∀ i, c ≤ i → i < c + f → candOk V L i = false
  | 0, c, _, i, h1, h2 => by omega
  | f + 1, c, h, i, h1, h2 => by
    unfold vptF at h
    by_cases e : candOk V L c = true
    · rw [if_pos e] at h; cases h
    · rw [if_neg e] at h
      by_cases e2 : i = c
      · subst e2; simpa using e
      · exact vptF_none f (c + 1) h i (by omega) (by omega)
theorem vpt_some {V r : Nat} {L : List UInt8} (h : vpt V L = some r) : r < 256 ∧ candOk V L r = true ∧ ∀ i, i < r → candOk V L i = false := by
  obtain ⟨h1, h2, h3⟩ := vptF_some 256 0 h
  exact ⟨by omega, h2, fun i hi => h3 i (Nat.zero_le _) hi⟩
theorem vpt_none {V : Nat} {L : List UInt8} (h : vpt V L = none) : ∀ i, i < 256 → candOk V L i = false := fun i hi => vptF_none 256 0 h i (Nat.zero_le _) (by omega)
theorem candOk_iff {V c : Nat} {L : List UInt8} : candOk V L c = true ↔ dOk (cand V L c) = true ∧ ¬ candP V L c = p0 := by
  unfold candOk; simp
theorem cand_bad {V c : Nat} {L : List UInt8} (h : candOk V L c = false) (hd : dOk (cand V L c) = true) : candP V L c = p0 := by
  unfold candOk at h; rw [hd] at h; simpa using h
/-- the challenge -/
def chH (V : Nat) (a b c d : Pr) : Nat := hs ([3, 2] ++ lb 32 V ++ lb 32 (enc a) ++ lb 32 (enc b) ++ lb 32 (enc c) ++ lb 32 (enc d) ++ [0])
def P128 : Nat := 340282366920938463463374607431768211456
def ch (V : Nat) (a b c d : Pr) : Nat := chH V a b c d % P128
/-- a proof's parts -/
def pG (P : Nat) : Nat := P % 2 ^ 256
def pC (P : Nat) : Nat := P / 2 ^ 256 % P128
def pN (P : Nat) : Nat := P / 2 ^ 256 / P128
/-- a proof of a text whose point is h -/
def vK' (S : Nat) (h : Pr) : Nat := hs (lb 32 (kD S) ++ lb 32 (enc h)) % LL
def vC (S : Nat) (h : Pr) : Nat := ch (kP S) h (pm h (kN S)) (pm BP (vK' S h)) (pm h (vK' S h))
def vN (S : Nat) (h : Pr) : Nat := (vK' S h + vC S h % LL * (kN S % LL) % LL) % LL
def vPr (S : Nat) (h : Pr) : Nat := enc (pm h (kN S)) + 2 ^ 256 * (vC S h + P128 * vN S h)
/-- the sum of a proof -/
def vSum (P : Nat) : Nat := hs ([3, 3] ++ lb 32 (enc (pm (dPt (pG P)) 8)) ++ [0])
/-- is a proof taken, by a point h of the text? -/
def vTake (V P : Nat) (h : Pr) : Prop := ch V h (dPt (pG P)) (padd (pm BP (pN P)) (pm (pneg (dPt V)) (pC P))) (padd (pm h (pN P)) (pm (pneg (dPt (pG P))) (pC P))) = pC P
end Go.Proofs.YtefpoollmbmkfaaDoor
