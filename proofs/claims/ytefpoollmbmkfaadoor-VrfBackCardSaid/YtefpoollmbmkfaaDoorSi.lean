/- Sums as numbers; the parts of a secret; signatures and their check, as functions of numbers and bytes. No conditions. -/
import Derived.Test.YtefpoollmbmkfaaDoorHd
import Derived.Test.YtefpoollmbmkfaaDoorEi
import Derived.Test.YtefpoollmbmkfaaDoorOr
import Derived.Test.YtefpoollmbmkfaaDoorNd
set_option linter.unusedSimpArgs false
set_option linter.unusedVariables false
namespace Go.Proofs.YtefpoollmbmkfaaDoor
open Go.RowKit
open Sc (LL e9)
/-! ### Bytes and numbers -/
theorem j8i : ∀ l : List UInt8, lb l.length (le l) = l
  | [] => rfl
  | x :: r => by
    have hx : x.toNat < 256 := x.toNat_lt
    rw [List.length_cons, P8]
    show UInt8.ofNat ((x.toNat + 256 * le r) % 256) :: lb r.length ((x.toNat + 256 * le r) / 256) = _
    rw [show (x.toNat + 256 * le r) % 256 = x.toNat by omega, show (x.toNat + 256 * le r) / 256 = le r by omega, j8i r]
    congr 1
    exact UInt8.ofNat_toNat
theorem j1i {l : List UInt8} {n : Nat} (h : l.length = n) : lb n (le l) = l := h ▸ j8i l
theorem j1j (n V : Nat) : lb n (V % 2 ^ (8 * n)) = lb n V := by
  induction n generalizing V with
  | zero => rfl
  | succ n ih =>
    rw [P8, P8]
    have e : (2 : Nat) ^ (8 * (n + 1)) = 256 * 2 ^ (8 * n) := by rw [show 8 * (n + 1) = 8 * n + 8 by omega, Nat.pow_add]; omega
    rw [e, Nat.mod_mul_right_mod, Nat.mod_mul_right_div_self, ih]
theorem y1g (m n V : Nat) : lb (m + n) V = lb m V ++ lb n (V / 2 ^ (8 * m)) := by
  induction m generalizing V with
  | zero => simp [show lb 0 V = [] from rfl]
  | succ m ih =>
    rw [show m + 1 + n = (m + n) + 1 by omega, P8, P8, ih, List.cons_append, Nat.div_div_eq_div_mul, show 256 * 2 ^ (8 * m) = 2 ^ (8 * (m + 1)) by rw [show 8 * (m + 1) = 8 * m + 8 by omega, Nat.pow_add]; omega]
theorem j1k {n : Nat} {f g : Nat → Int} (h : (q7 .u8 n f).toList = (q7 .u8 n g).toList) : q7 .u8 n f = q7 .u8 n g := by
  rw [← Array.toArray_toList (xs := q7 .u8 n f), h, Array.toArray_toList]
def lo (V : Nat) : Nat := V % 2 ^ 256
def hi (V : Nat) : Nat := V / 2 ^ 256
theorem j8j (V : Nat) : lo V < 2 ^ 256 := Nat.mod_lt _ (by decide)
theorem g6a {V : Nat} (h : V < 2 ^ (256 + 256)) : hi V < 2 ^ 256 := by unfold hi; rw [Nat.div_lt_iff_lt_mul (by decide), ← Nat.pow_add]; exact h
theorem j1l {V j : Nat} (hj : j < 32) : j0 (lo V) j = j0 V j := by
  unfold j0 lo
  have e : (2 : Nat) ^ 256 = 2 ^ (8 * j) * 2 ^ (256 - 8 * j) := by rw [← Nat.pow_add]; congr 1; omega
  have e2 : (2 : Nat) ^ (256 - 8 * j) = 256 * 2 ^ (248 - 8 * j) := by rw [show 256 - 8 * j = 8 + (248 - 8 * j) by omega, Nat.pow_add]
  rw [e, Nat.mod_mul_right_div_self, e2, Nat.mod_mul_right_mod]
theorem g1v (V j : Nat) : j0 (hi V) j = j0 V (32 + j) := by
  unfold j0 hi
  rw [Nat.div_div_eq_div_mul, ← Nat.pow_add, show 256 + 8 * j = 8 * (32 + j) by omega]
theorem y5v {V : Nat} : ∀ i v, (q7 .u8 32 (j0 (lo V)))[i]? = some v → (q7 .u8 64 (j0 V))[0 + i]? = some v := fun i v h => by
  have hi : i < 32 := by have := (Array.getElem?_eq_some_iff.1 h).1; rwa [y5] at this
  rw [y9 _ _ _ _ hi, j1l hi] at h
  rw [Nat.zero_add, y9 _ _ _ _ (by omega)]; exact h
theorem g8q {V : Nat} : ∀ i v, (q7 .u8 32 (j0 (hi V)))[i]? = some v → (q7 .u8 64 (j0 V))[32 + i]? = some v := fun i v h => by
  have hi : i < 32 := by have := (Array.getElem?_eq_some_iff.1 h).1; rwa [y5] at this
  rw [y9 _ _ _ _ hi, g1v] at h
  rw [y9 _ _ _ _ (by omega)]; exact h
/-! ### Sums -/
def hs (F : List UInt8) : Nat := le (smb F)
theorem j1m (F : List UInt8) : hs F < 2 ^ (8 * 64) := by have := y8z (smb F); rwa [q4t] at this
theorem g8s : 8 * 64 = 256 + 256 := rfl
theorem g6b (F : List UInt8) : hs F < 2 ^ (256 + 256) := by have := j1m F; rwa [g8s] at this
theorem g1w (F : List UInt8) : smb F = lb 64 (hs F) := (j1i (q4t F)).symm
theorem g5t (F : List UInt8) : q7 .u8 64 (sm F) = q7 .u8 64 (j0 (hs F)) := j1k (by rw [y5o, g1w, y0t, F4])
/-! ### Secrets -/
def clN (V : Nat) : Nat := c7 (e9 (j0 V)) 32
theorem q1s (V j : Nat) : C3 (e9 (j0 V) j) := by
  have h0 := M9 V 0
  have h1 := M9 V 31
  have h2 := M9 V j
  unfold e9 C3 at *
  split
  · omega
  · split
    · omega
    · exact h2
theorem y1a (V : Nat) : clN V < 2 ^ 256 := H8 _ (q1s V) 32
theorem j5y (V : Nat) : q7 .u8 32 (e9 (j0 V)) = q7 .u8 32 (j0 (clN V)) := d7 _ _ _ _ fun j hj => (S5 _ (q1s V) 32 j hj).symm
def kN (S : Nat) : Nat := clN (lo (hs (lb 32 S)))
def kD (S : Nat) : Nat := hi (hs (lb 32 S))
def kP (S : Nat) : Nat := t6 (pm BP (kN S))
theorem y3y (S : Nat) : kN S < 2 ^ 256 := y1a _
theorem y3z (S : Nat) : kD S < 2 ^ 256 := g6a (g6b _)
/-! ### Signatures -/
theorem B4 (a : Pr) : t6 a < 2 ^ 256 := by
  unfold t6
  have h : a.2.val < 2 ^ 255 := Nat.lt_trans a.2.isLt y0n
  have h2 : a.1.val % 2 < 2 := Nat.mod_lt _ (by decide)
  have e : (2 : Nat) ^ 256 = 2 ^ 255 + 2 ^ 255 := by decide
  generalize (2 : Nat) ^ 255 = T at *
  have : T * (a.1.val % 2) ≤ T * 1 := Nat.mul_le_mul_left T (by omega)
  omega
theorem y4a (S : Nat) : kP S < 2 ^ 256 := B4 _
theorem g1x : 0 < LL := by decide
theorem Y7 : LL < 2 ^ 256 := by decide
theorem mLL (n : Nat) : n % LL < LL := Nat.mod_lt _ g1x
end Go.Proofs.YtefpoollmbmkfaaDoor
