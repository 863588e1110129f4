/- What the document's sum of 32 bytes needs: words that are words, a word out of four bytes, sums with one mask, the bytes of the words, the tables of the document. No conditions. -/
import Derived.Test.YtejkmhgkkibafaaGreatDoorJ24
import Derived.Test.YtejkmhgkkibafaaGreatDoorJ25
import Derived.Test.YtejkmhgkkibafaaGreatDoorJ6
set_option linter.unusedSimpArgs false
set_option linter.unusedVariables false
namespace Go.Proofs.YtejkmhgkkibafaaGreatDoor
open Go.RowKit
def GR4 (w : World) : Prop := Rd w 1 (J0 .i64 64 Z6) ∧ Rd w 0 (J0 .i64 8 hf4)
theorem J84 {w W : World} (h : GR4 w) (e : Ext w W) : GR4 W := ⟨h.1.ext e, h.2.ext e⟩
theorem Y1n : W4 0 := ⟨by decide, by decide⟩
theorem V1j (l : List UInt8) (j : Nat) : W4 (bt l j) := by have := Q3m l j; unfold W4; omega
theorem Q6s : ∀ (l : List Int) (i : Nat), l.all (fun x => decide (0 ≤ x ∧ x < 4294967296)) = true → W4 (l.getD i 0)
  | [], i, _ => by simp; exact Y1n
  | x :: r, 0, h => by simp at h ⊢; exact h.1
  | x :: r, i + 1, h => by
    have h' : (r.all (fun x => decide (0 ≤ x ∧ x < 4294967296))) = true := by simp only [List.all_cons, Bool.and_eq_true] at h; exact h.2
    have := Q6s r i h'
    simpa using this
theorem Y4x (i : Nat) : W4 (Z6 i) := Q6s _ _ (by decide)
theorem V1k (i : Nat) : W4 (hf4 i) := Q6s _ _ (by decide)
theorem Y6x {b : Nat → Int} (hb : ∀ j, W4 (b j)) (i : Nat) : ∀ k, W4 (J4a b i k)
  | 0 => Y1n
  | k + 1 => Y4v Y4w (hb _)
theorem Q8t {x : Int} (hx : W4 x) (p q r : Nat) : W4 (J1f x p q r) := J5r (J5r (J2z hx) (J2z hx)) (Z29 hx)
theorem Q6t {x : Int} (hx : W4 x) (p q r : Nat) : W4 (J8s x p q r) := J5r (J5r (J2z hx) (J2z hx)) (J2z hx)
theorem Y6y {f : Nat → Int} {i : Nat} {x : Int} (hf : ∀ j, W4 (f j)) (hx : W4 x) : ∀ j, W4 (upd f i x j) := fun j => by unfold upd; split; exact hx; exact hf j
theorem Q6u {b : Nat → Int} (hb : ∀ j, W4 (b j)) : ∀ i j, W4 (J9 b i j)
  | 0, _ => Y1n
  | i + 1, j => Y6y (Q6u hb i) (by
      split
      · exact Y6x hb i 4
      · exact Z28) j
theorem Y6z {k w v : Nat → Int} {i : Nat} (hv : ∀ j, W4 (v j)) : ∀ j, W4 (Z0r k w i v j) := fun j => by
  unfold Z0r
  split <;> first | exact Z28 | exact hv _ | exact Y1n
theorem Q6v {k w v : Nat → Int} (hv : ∀ j, W4 (v j)) : ∀ i j, W4 (J8 k w v i j)
  | 0, j => hv j
  | i + 1, j => Y6z (Q6v hv i) j
theorem V1l (P : List UInt8) : ∀ j i, W4 (Y3 P j i)
  | 0, i => V1k i
  | _ + 1, _ => Z28
theorem V1m {h v : Nat → Int} (hh : ∀ j, W4 (h j)) (i j : Nat) : W4 (mx4 h v i j) := by unfold mx4; split; exact Z28; exact hh j
/-! ### a word out of four bytes -/
theorem Z2a {x c : Int} (h0 : 0 ≤ x) (h1 : x < 16777216) (hc0 : 0 ≤ c) (hc1 : c < 256) : oo4 (sl4 x 8) c = x * 256 + c := by
  obtain ⟨a, rfl⟩ := Int.eq_ofNat_of_zero_le h0
  obtain ⟨b, rfl⟩ := Int.eq_ofNat_of_zero_le hc0
  have e : sl4 (a : Int) 8 = ((a * 256 : Nat) : Int) := by unfold sl4; rw [IntKind.wrap_u32]; omega
  have hb : b < 2 ^ 8 := by omega
  rw [e, Y6v (by omega) (by omega), Nat.mul_comm, show (256 : Nat) = 2 ^ 8 by decide, ← Nat.two_pow_add_eq_or_of_lt hb]
  omega
theorem Y1o {b : Nat → Int} (hb : ∀ j, 0 ≤ b j ∧ b j ≤ 255) (i : Nat) : J4a b i 4 = b (4 * i) * 16777216 + b (4 * i + 1) * 65536 + b (4 * i + 2) * 256 + b (4 * i + 3) := by
  have h0 := hb (4 * i); have h1 := hb (4 * i + 1); have h2 := hb (4 * i + 2); have h3 := hb (4 * i + 3)
  have e1 : J4a b i 1 = b (4 * i) := by
    show oo4 (sl4 0 8) (b (4 * i + 0)) = _
    rw [Nat.add_zero, Z2a (by omega) (by omega) (by omega) (by omega)]; omega
  have e2 : J4a b i 2 = b (4 * i) * 256 + b (4 * i + 1) := by
    show oo4 (sl4 (J4a b i 1) 8) (b (4 * i + 1)) = _
    rw [e1, Z2a (by omega) (by omega) (by omega) (by omega)]
  have e3 : J4a b i 3 = (b (4 * i) * 256 + b (4 * i + 1)) * 256 + b (4 * i + 2) := by
    show oo4 (sl4 (J4a b i 2) 8) (b (4 * i + 2)) = _
    rw [e2, Z2a (by omega) (by omega) (by omega) (by omega)]
  show oo4 (sl4 (J4a b i 3) 8) (b (4 * i + 3)) = _
  rw [e3, Z2a (by omega) (by omega) (by omega) (by omega)]
  omega
theorem Q3n (k : Nat) {x c : Nat} (hk : k ≤ 32) (hx : x < 2 ^ 30) (hc : c < 2 ^ k) : bits .or .i64 ((x * 2 ^ k : Nat) : Int) (c : Int) = ((x * 2 ^ k + c : Nat) : Int) := by
  have h1 : 2 ^ k ≤ 2 ^ 32 := Nat.pow_le_pow_right (by decide) hk
  have h2 : x * 2 ^ k < 2 ^ 63 := by
    calc x * 2 ^ k ≤ x * 2 ^ 32 := Nat.mul_le_mul_left _ h1
      _ < 2 ^ 63 := by omega
  rw [V1f h2 (Nat.lt_of_lt_of_le hc (Nat.le_trans h1 (by decide))), Nat.mul_comm, ← Nat.two_pow_add_eq_or_of_lt hc]
theorem Z6m {a b c d : Int} (ha : 0 ≤ a ∧ a ≤ 255) (hb : 0 ≤ b ∧ b ≤ 255) (hc : 0 ≤ c ∧ c ≤ 255) (hd : 0 ≤ d ∧ d ≤ 255) :
    bits .or .i64 (bits .or .i64 (bits .or .i64 (a * 2 ^ 24) (b * 2 ^ 16)) (c * 2 ^ 8)) d = a * 16777216 + b * 65536 + c * 256 + d := by
  obtain ⟨a, rfl⟩ := Int.eq_ofNat_of_zero_le ha.1
  obtain ⟨b, rfl⟩ := Int.eq_ofNat_of_zero_le hb.1
  obtain ⟨c, rfl⟩ := Int.eq_ofNat_of_zero_le hc.1
  obtain ⟨d, rfl⟩ := Int.eq_ofNat_of_zero_le hd.1
  have e1 : ((a : Int) * 2 ^ 24) = ((a * 2 ^ 24 : Nat) : Int) := by omega
  have e2 : ((b : Int) * 2 ^ 16) = ((b * 2 ^ 16 : Nat) : Int) := by omega
  have e3 : ((c : Int) * 2 ^ 8) = ((c * 2 ^ 8 : Nat) : Int) := by omega
  rw [e1, e2, e3, Q3n 24 (by decide) (by omega) (by omega), show a * 2 ^ 24 + b * 2 ^ 16 = (a * 256 + b) * 2 ^ 16 by omega, Q3n 16 (by decide) (by omega) (by omega),
    show (a * 256 + b) * 2 ^ 16 + c * 2 ^ 8 = (a * 65536 + b * 256 + c) * 2 ^ 8 by omega, Q3n 8 (by decide) (by omega) (by omega)]
  omega
/-! ### sums with one mask -/
theorem Y70 (f : Nat → Int) (i : Nat) : sg4 f i = (f (i - 16) + J1f (f (i - 15)) 7 18 3 + f (i - 7) + J1f (f (i - 2)) 17 19 10) % 4294967296 := by
  unfold sg4
  simp only [Q1u]
  generalize J1f (f (i - 15)) 7 18 3 = a
  generalize J1f (f (i - 2)) 17 19 10 = b
  omega
def rTs (k w : Nat → Int) (i : Nat) (v : Nat → Int) : Int := v 7 + J8s (v 4) 6 11 25 + xo4 (an4 (v 4) (v 5)) (an4 (nt4 (v 4)) (v 6)) + k i + w i
def rUs (v : Nat → Int) : Int := J8s (v 0) 2 13 22 + xo4 (xo4 (an4 (v 0) (v 1)) (an4 (v 0) (v 2))) (an4 (v 1) (v 2))
theorem Z6o (k w : Nat → Int) (i : Nat) (v : Nat → Int) : rT4 k w i v = rTs k w i v % 4294967296 := by
  unfold rT4 rTs
  simp only [Q1u]
  generalize J8s (v 4) 6 11 25 = a
  generalize xo4 (an4 (v 4) (v 5)) (an4 (nt4 (v 4)) (v 6)) = b
  omega
theorem Y71 (v : Nat → Int) : rU4 v = rUs v % 4294967296 := by unfold rU4 rUs; rw [Q1u]
theorem Y72 {k w v : Nat → Int} (i : Nat) (hk : W4 (k i)) (hw : W4 (w i)) (hv : ∀ j, W4 (v j)) : 0 ≤ rTs k w i v ∧ rTs k w i v < 21474836480 := by
  have h1 := hv 7; have h2 := Q6t (hv 4) 6 11 25; have h3 := J5r (J57 (hv 4) (hv 5)) (J57 (Z27 (hv 4)) (hv 6))
  unfold rTs W4 at *
  omega
theorem Y73 {v : Nat → Int} (hv : ∀ j, W4 (v j)) : 0 ≤ rUs v ∧ rUs v < 8589934592 := by
  have h2 := Q6t (hv 0) 2 13 22; have h3 := J5r (J5r (J57 (hv 0) (hv 1)) (J57 (hv 0) (hv 2))) (J57 (hv 1) (hv 2))
  unfold rUs W4 at *
  omega
theorem V5a (k w : Nat → Int) (i : Nat) (v : Nat → Int) : (rTs k w i v + rUs v) % 4294967296 = Z0r k w i v 0 := by
  show _ = ad4 (rT4 k w i v) (rU4 v)
  rw [Z6o, Y71, Q1u]; omega
theorem V1n (k w : Nat → Int) (i : Nat) (v : Nat → Int) : (v 3 + rTs k w i v) % 4294967296 = Z0r k w i v 4 := by
  show _ = ad4 (v 3) (rT4 k w i v)
  rw [Z6o, Q1u]; omega
/-! ### the bytes of the words -/
def bo4 (H : Nat → Int) (j : Nat) : UInt8 := u8 (ob4 H j).toNat
theorem Z6p (H : Nat → Int) (j : Nat) : ((bo4 H j).toNat : Int) = ob4 H j := by
  have := Y4z (sr4 (H (j / 4)) (8 * (3 - j % 4)))
  unfold bo4
  rw [J9o]
  unfold ob4
  omega
theorem Q0t (H : Nat → Int) (i k : Nat) (hk : k < 4) : w8 (sr4 (H i) (8 * (3 - k))) = ((bo4 H (4 * i + k)).toNat : Int) := by
  rw [Z6p]
  unfold ob4
  rw [show (4 * i + k) / 4 = i by omega, show (4 * i + k) % 4 = k by omega]
def wb4 (H : Nat → Int) (n : Nat) : List UInt8 := (List.range n).map (bo4 H)
theorem J0u (H : Nat → Int) (n : Nat) : (wb4 H n).length = n := by simp [wb4]
theorem Z6r (H : Nat → Int) (i : Nat) : wb4 H (4 * i) ++ [bo4 H (4 * i + 0), bo4 H (4 * i + 1), bo4 H (4 * i + 2), bo4 H (4 * i + 3)] = wb4 H (4 * (i + 1)) := by
  unfold wb4
  rw [show 4 * (i + 1) = 4 * i + 3 + 1 by omega]
  simp only [List.range_succ, List.map_append, List.map_cons, List.map_nil, List.append_assoc, Nat.add_zero, List.cons_append, List.nil_append]
def Z0s (l : List UInt8) : List UInt8 := wb4 (Y3 (J4 l) (nb4 l.length)) 32
def hs4 (l : List UInt8) : Nat := le (Z0s l)
theorem Q2g (l : List UInt8) : (Z0s l).length = 32 := J0u _ _
theorem Z0t (l : List UInt8) : (J0 .u8 32 (sm4 l)).toList = bs8 (Z0s l) := by
  unfold J0 bs8 Z0s wb4
  rw [List.map_map]
  simp only [List.map_inj_left, Function.comp]
  intro j _
  rw [Z6p]; rfl
theorem Z2b (F : List UInt8) : Z0s F = lb 32 (hs4 F) := (Z0u (Q2g F)).symm
theorem Y74 (F : List UInt8) : J0 .u8 32 (sm4 F) = J0 .u8 32 (Q5 (hs4 F)) := Q8u (by rw [Z0t, Z2b, Q3o, J4u])
theorem J3n (F : List UInt8) : hs4 F < 2 ^ 256 := by have := Z2c (Z0s F); rwa [Q2g] at this
end Go.Proofs.YtejkmhgkkibafaaGreatDoor
