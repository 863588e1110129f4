/- Sums as numbers; the parts of a secret; signatures and their check, as functions of numbers and bytes. No conditions. -/
import Derived.Test.YtefpoollmbmkfaaDoorHd
import Derived.Test.YtefpoollmbmkfaaDoorEi
import Derived.Test.YtefpoollmbmkfaaDoorOr
import Derived.Test.YtefpoollmbmkfaaDoorNd
set_option linter.unusedSimpArgs false
set_option linter.unusedVariables false
namespace Go.Proofs.YtefpoollmbmkfaaDoor
open Go.RowKit
open Sc (LL clampF)
/-! ### Bytes and numbers -/
theorem lb_le : ∀ l : List UInt8, lb l.length (le l) = l
  | [] => rfl
  | x :: r => by
    have hx : x.toNat < 256 := x.toNat_lt
    rw [List.length_cons, lb_succ]
    show UInt8.ofNat ((x.toNat + 256 * le r) % 256) :: lb r.length ((x.toNat + 256 * le r) / 256) = _
    rw [show (x.toNat + 256 * le r) % 256 = x.toNat by omega, show (x.toNat + 256 * le r) / 256 = le r by omega, lb_le r]
    congr 1
    exact UInt8.ofNat_toNat
theorem lb_le' {l : List UInt8} {n : Nat} (h : l.length = n) : lb n (le l) = l := h ▸ lb_le l
theorem lb_mod (n V : Nat) : lb n (V % 2 ^ (8 * n)) = lb n V := by
  induction n generalizing V with
  | zero => rfl
  | succ n ih =>
    rw [lb_succ, lb_succ]
    have e : (2 : Nat) ^ (8 * (n + 1)) = 256 * 2 ^ (8 * n) := by rw [show 8 * (n + 1) = 8 * n + 8 by omega, Nat.pow_add]; omega
    rw [e, Nat.mod_mul_right_mod, Nat.mod_mul_right_div_self, ih]
theorem lb_add (m n V : Nat) : lb (m + n) V = lb m V ++ lb n (V / 2 ^ (8 * m)) := by
  induction m generalizing V with
  | zero => simp [show lb 0 V = [] from rfl]
  | succ m ih =>
    rw [show m + 1 + n = (m + n) + 1 by omega, lb_succ, lb_succ, ih, List.cons_append, Nat.div_div_eq_div_mul, show 256 * 2 ^ (8 * m) = 2 ^ (8 * (m + 1)) by rw [show 8 * (m + 1) = 8 * m + 8 by omega, Nat.pow_add]; omega]
theorem arrK_inj {n : Nat} {f g : Nat → Int} (h : (arrK .u8 n f).toList = (arrK .u8 n g).toList) : arrK .u8 n f = arrK .u8 n g := by
  rw [← Array.toArray_toList (xs := arrK .u8 n f), h, Array.toArray_toList]
def lo (V : Nat) : Nat := V % 2 ^ 256
def hi (V : Nat) : Nat := V / 2 ^ 256
theorem lo_lt (V : Nat) : lo V < 2 ^ 256 := Nat.mod_lt _ (by decide)
theorem hi_lt {V : Nat} (h : V < 2 ^ (256 + 256)) : hi V < 2 ^ 256 := by unfold hi; rw [Nat.div_lt_iff_lt_mul (by decide), ← Nat.pow_add]; exact h
theorem byt_lo {V j : Nat} (hj : j < 32) : byt (lo V) j = byt V j := by
  unfold byt lo
  have e : (2 : Nat) ^ 256 = 2 ^ (8 * j) * 2 ^ (256 - 8 * j) := by rw [← Nat.pow_add]; congr 1; omega
  have e2 : (2 : Nat) ^ (256 - 8 * j) = 256 * 2 ^ (248 - 8 * j) := by rw [show 256 - 8 * j = 8 + (248 - 8 * j) by omega, Nat.pow_add]
  rw [e, Nat.mod_mul_right_div_self, e2, Nat.mod_mul_right_mod]
theorem byt_hi (V j : Nat) : byt (hi V) j = byt V (32 + j) := by
  unfold byt hi
  rw [Nat.div_div_eq_div_mul, ← Nat.pow_add, show 256 + 8 * j = 8 * (32 + j) by omega]
theorem lb_64 (V : Nat) : lb 64 V = lb 32 (lo V) ++ lb 32 (hi V) := by
  rw [show (64 : Nat) = 32 + 32 from rfl, lb_add, lo, ← lb_mod 32 V]; rfl
/-- the halves of an array of 64 bytes -/
theorem h64l {V : Nat} : ∀ i v, (arrK .u8 32 (byt (lo V)))[i]? = some v → (arrK .u8 64 (byt V))[0 + i]? = some v := fun i v h => by
  have hi : i < 32 := by have := (Array.getElem?_eq_some_iff.1 h).1; rwa [arrK_size] at this
  rw [arrK_get _ _ _ _ hi, byt_lo hi] at h
  rw [Nat.zero_add, arrK_get _ _ _ _ (by omega)]; exact h
theorem h64h {V : Nat} : ∀ i v, (arrK .u8 32 (byt (hi V)))[i]? = some v → (arrK .u8 64 (byt V))[32 + i]? = some v := fun i v h => by
  have hi : i < 32 := by have := (Array.getElem?_eq_some_iff.1 h).1; rwa [arrK_size] at this
  rw [arrK_get _ _ _ _ hi, byt_hi] at h
  rw [arrK_get _ _ _ _ (by omega)]; exact h
/-! ### Sums -/
def hs (F : List UInt8) : Nat := le (smb F)
theorem hs_lt' (F : List UInt8) : hs F < 2 ^ (8 * 64) := by have := le_lt (smb F); rwa [smb_length] at this
theorem e512 : 8 * 64 = 256 + 256 := rfl
theorem hs_lt (F : List UInt8) : hs F < 2 ^ (256 + 256) := by have := hs_lt' F; rwa [e512] at this
theorem smb_hs (F : List UInt8) : smb F = lb 64 (hs F) := (lb_le' (smb_length F)).symm
theorem sm_hs (F : List UInt8) : arrK .u8 64 (sm F) = arrK .u8 64 (byt (hs F)) := arrK_inj (by rw [smb_cells, smb_hs, bs8_lb, arrK_list])
/-! ### Secrets -/
def clN (V : Nat) : Nat := bval (clampF (byt V)) 32
theorem clamp_ok (V j : Nat) : u8ok (clampF (byt V) j) := by
  have h0 := byt_ok V 0
  have h1 := byt_ok V 31
  have h2 := byt_ok V j
  unfold clampF u8ok at *
  split
  · omega
  · split
    · omega
    · exact h2
theorem clN_lt (V : Nat) : clN V < 2 ^ 256 := bval_lt _ (clamp_ok V) 32
theorem clN_arr (V : Nat) : arrK .u8 32 (clampF (byt V)) = arrK .u8 32 (byt (clN V)) := arrK_congr _ _ _ _ fun j hj => (byt_bval _ (clamp_ok V) 32 j hj).symm
def kN (S : Nat) : Nat := clN (lo (hs (lb 32 S)))
def kD (S : Nat) : Nat := hi (hs (lb 32 S))
def kP (S : Nat) : Nat := enc (pm BP (kN S))
theorem kN_lt (S : Nat) : kN S < 2 ^ 256 := clN_lt _
theorem kD_lt (S : Nat) : kD S < 2 ^ 256 := hi_lt (hs_lt _)
/-! ### Signatures -/
theorem enc_lt (a : Pr) : enc a < 2 ^ 256 := by
  unfold enc
  have h : a.2.val < 2 ^ 255 := Nat.lt_trans a.2.isLt PP_top
  have h2 : a.1.val % 2 < 2 := Nat.mod_lt _ (by decide)
  have e : (2 : Nat) ^ 256 = 2 ^ 255 + 2 ^ 255 := by decide
  generalize (2 : Nat) ^ 255 = T at *
  have : T * (a.1.val % 2) ≤ T * 1 := Nat.mul_le_mul_left T (by omega)
  omega
theorem kP_lt (S : Nat) : kP S < 2 ^ 256 := enc_lt _
theorem LL_pos : 0 < LL := by decide
theorem LL_256 : LL < 2 ^ 256 := by decide
theorem mLL (n : Nat) : n % LL < LL := Nat.mod_lt _ LL_pos
end Go.Proofs.YtefpoollmbmkfaaDoor
