/- Bytes as one number, and the words it makes. No conditions. -/
import Derived.Test.YtjikomnnhbbmaaaDoorWval
import Derived.Laws.DeepBits32
namespace Go.Proofs.YtjikomnnhbbmaaaDoor
set_option linter.unusedSimpArgs false
set_option linter.unusedVariables false
open Go.RowKit

def u8ok (x : Int) : Prop := 0 ≤ x ∧ x < 256
/-- bytes, the lowest first, as one number -/
def bval (bs : Nat → Int) : Nat → Nat
  | 0 => 0
  | n + 1 => bval bs n + (bs n).toNat * 2 ^ (8 * n)
theorem bval_lt (bs : Nat → Int) (h : ∀ j, u8ok (bs j)) : ∀ n, bval bs n < 2 ^ (8 * n)
  | 0 => by simp [bval]
  | n + 1 => by
    have ih := bval_lt bs h n
    have h1 := h n
    have e : (2 : Nat) ^ (8 * (n + 1)) = 256 * 2 ^ (8 * n) := by rw [Nat.mul_add, Nat.pow_add, Nat.mul_comm]
    unfold u8ok at h1
    rw [e]
    show bval bs n + (bs n).toNat * 2 ^ (8 * n) < _
    have : (bs n).toNat * 2 ^ (8 * n) ≤ 255 * 2 ^ (8 * n) := Nat.mul_le_mul_right _ (by omega)
    omega
theorem wrap_nat (p : Nat) (h : p < 18446744073709551616) : IntKind.wrap .u64 (p : Int) = (p : Int) := by rw [IntKind.wrap_u64]; omega
/-- a byte more: the word it falls in -/
theorem word_or (bs : Nat → Int) (h : ∀ j, u8ok (bs j)) (q r : Nat) (hr : r < 8) :
    bits .or .u64 (lim (bval bs (8 * q + r)) q) (IntKind.wrap .u64 (bs (8 * q + r) * 2 ^ (8 * r))) = lim (bval bs (8 * q + r + 1)) q := by
  have hl := bval_lt bs h (8 * q + r)
  obtain ⟨b0, b1⟩ := h (8 * q + r)
  show _ = lim (bval bs (8 * q + r) + (bs (8 * q + r)).toNat * 2 ^ (8 * (8 * q + r))) q
  obtain ⟨x, hx⟩ := Int.eq_ofNat_of_zero_le b0
  rw [hx] at b1 ⊢
  rw [Int.toNat_natCast]
  generalize bval bs (8 * q + r) = V at *
  rw [show 8 * (8 * q + r) = 64 * q + 8 * r by omega, Nat.pow_add] at *
  have hV : V / 2 ^ (64 * q) < 2 ^ (8 * r) := Nat.div_lt_of_lt_mul hl
  have hp : (2 : Nat) ^ (8 * r) ≤ 2 ^ 56 := Nat.pow_le_pow_right (by omega) (by omega)
  have hxp : x * 2 ^ (8 * r) ≤ 255 * 2 ^ 56 := Nat.mul_le_mul (by omega) hp
  unfold lim
  have e1 : (V + x * (2 ^ (64 * q) * 2 ^ (8 * r))) / 2 ^ (64 * q) = V / 2 ^ (64 * q) + x * 2 ^ (8 * r) := by
    rw [Nat.mul_left_comm, Nat.add_mul_div_left _ _ (Nat.two_pow_pos _)]
  rw [e1]
  generalize V / 2 ^ (64 * q) = v at *
  have e0 : (x : Int) * 2 ^ (8 * r) = ((x * 2 ^ (8 * r) : Nat) : Int) := by rw [Int.natCast_mul, Int.natCast_pow]; rfl
  have hxq : x * 2 ^ (8 * r) < 18446744073709551616 := Nat.lt_of_le_of_lt hxp (by decide)
  have e2 : IntKind.wrap .u64 ((x : Int) * 2 ^ (8 * r)) = ((x * 2 ^ (8 * r) : Nat) : Int) := by
    rw [e0]; exact wrap_nat _ hxq
  rw [e2]
  have p56 : (2 : Nat) ^ 56 = 72057594037927936 := by decide
  rw [bits_or_u64_nat _ _ (by omega) (by omega)]
  have e3 : v % 18446744073709551616 ||| x * 2 ^ (8 * r) = v + x * 2 ^ (8 * r) := by
    rw [Nat.mod_eq_of_lt (by omega), Nat.or_comm, Nat.mul_comm x, ← Nat.two_pow_add_eq_or_of_lt hV, Nat.add_comm]
  rw [e3]
  congr 1
  rw [Nat.mod_eq_of_lt (by omega)]
theorem lim_bval_other (bs : Nat → Int) (h : ∀ j, u8ok (bs j)) (k j : Nat) (hj : j ≠ k / 8) : lim (bval bs (k + 1)) j = lim (bval bs k) j := by
  have hl := bval_lt bs h k
  by_cases hlt : j < k / 8
  · show lim (bval bs k + (bs k).toNat * 2 ^ (8 * k)) j = _
    generalize bval bs k = V at *
    generalize (bs k).toNat = x
    unfold lim
    obtain ⟨d, hd⟩ : ∃ d, 8 * k = 64 * j + (64 + d) := ⟨8 * k - 64 * j - 64, by omega⟩
    rw [hd, Nat.pow_add 2 (64 * j), Nat.mul_left_comm, Nat.add_mul_div_left _ _ (Nat.two_pow_pos _), Nat.pow_add 2 64 d, Nat.mul_left_comm]
    have e : (2 : Nat) ^ 64 = 18446744073709551616 := by decide
    rw [e, Nat.add_mul_mod_self_left]
  · have h1 := bval_lt bs h (k + 1)
    have h2 : (2 : Nat) ^ (8 * (k + 1)) ≤ 2 ^ (64 * j) := Nat.pow_le_pow_right (by omega) (by omega)
    have h3 : bval bs (k + 1) < 2 ^ (64 * j) := Nat.lt_of_lt_of_le h1 h2
    have h4 : bval bs k < 2 ^ (64 * j) := Nat.lt_of_le_of_lt (Nat.le_add_right _ _) h3
    show ((bval bs (k + 1) / _ % _ : Nat) : Int) = ((bval bs k / _ % _ : Nat) : Int)
    rw [Nat.div_eq_of_lt h3, Nat.div_eq_of_lt h4]
end Go.Proofs.YtjikomnnhbbmaaaDoor
