/- Words of 32 bits reckoned as words and as numbers of the type int, with a mask. No conditions. -/
import Derived.Test.YtndnlbinnhdmbaaDoorWe
set_option linter.unusedSimpArgs false
set_option linter.unusedVariables false
namespace Go.Proofs.YtndnlbinnhdmbaaDoor
open Go.RowKit

theorem bits_xor_nat (k : IntKind) (j : Nat) (hj : j ≤ k.bits) (hk : ∀ n : Int, 0 ≤ n → n < 2 ^ j → k.wrap n = n) (a b : Nat) (ha : a < 2 ^ j) (hb : b < 2 ^ j) : bits .xor k a b = ((a ^^^ b : Nat) : Int) := by
  have hp : 2 ^ j ≤ 2 ^ k.bits := Nat.pow_le_pow_right (by decide) hj
  have ha' : a % 2 ^ k.bits = a := Nat.mod_eq_of_lt (Nat.lt_of_lt_of_le ha hp)
  have hb' : b % 2 ^ k.bits = b := Nat.mod_eq_of_lt (Nat.lt_of_lt_of_le hb hp)
  simp only [bits, BitVec.ofInt_natCast, BitVec.toNat_xor, BitVec.toNat_ofNat, ha', hb']
  exact hk _ (Int.natCast_nonneg _) (by exact_mod_cast Nat.xor_lt_two_pow ha hb)
theorem wr32 (n : Int) (h0 : 0 ≤ n) (h1 : n < 2 ^ 32) : IntKind.u32.wrap n = n := by rw [IntKind.wrap_u32]; omega
theorem wr63 (n : Int) (h0 : 0 ≤ n) (h1 : n < 2 ^ 63) : IntKind.i64.wrap n = n := by rw [IntKind.wrap_i64]; omega
section
variable {a b : Nat}
theorem w_and (ha : a < 2 ^ 32) (hb : b < 2 ^ 32) : an4 a b = ((a &&& b : Nat) : Int) := (bits_nat .u32 32 (by decide) wr32 a b ha hb).1
theorem w_or (ha : a < 2 ^ 32) (hb : b < 2 ^ 32) : oo4 a b = ((a ||| b : Nat) : Int) := (bits_nat .u32 32 (by decide) wr32 a b ha hb).2
theorem w_xor (ha : a < 2 ^ 32) (hb : b < 2 ^ 32) : xo4 a b = ((a ^^^ b : Nat) : Int) := bits_xor_nat .u32 32 (by decide) wr32 a b ha hb
theorem i_and (ha : a < 2 ^ 63) (hb : b < 2 ^ 63) : bits .and .i64 a b = ((a &&& b : Nat) : Int) := (bits_nat .i64 63 (by decide) wr63 a b ha hb).1
theorem i_or (ha : a < 2 ^ 63) (hb : b < 2 ^ 63) : bits .or .i64 a b = ((a ||| b : Nat) : Int) := (bits_nat .i64 63 (by decide) wr63 a b ha hb).2
theorem i_xor (ha : a < 2 ^ 63) (hb : b < 2 ^ 63) : bits .xor .i64 a b = ((a ^^^ b : Nat) : Int) := bits_xor_nat .i64 63 (by decide) wr63 a b ha hb
end
/-- the mask -/
theorem i_mask {x : Int} (h0 : 0 ≤ x) (h1 : x < 2 ^ 63) : bits .and .i64 x 4294967295 = x % 4294967296 := bits_mask .i64 63 (by decide) wr63 32 (by decide) x h0 h1
/-- a word -/
def W4 (x : Int) : Prop := 0 ≤ x ∧ x < 4294967296
theorem W4.nat {x : Int} (h : W4 x) : ∃ a : Nat, x = (a : Int) ∧ a < 2 ^ 32 := ⟨x.toNat, by have := h.1; omega, by have := h.1; have := h.2; omega⟩
theorem W4.mk' {a : Nat} (h : a < 2 ^ 32) : W4 (a : Int) := ⟨by omega, by omega⟩
theorem up63 {a : Nat} (h : a < 2 ^ 32) : a < 2 ^ 63 := by omega
variable {x y : Int}
theorem xo_W4 (hx : W4 x) (hy : W4 y) : W4 (xo4 x y) := by
  obtain ⟨a, rfl, ha⟩ := hx.nat; obtain ⟨b, rfl, hb⟩ := hy.nat; rw [w_xor ha hb]; exact W4.mk' (Nat.xor_lt_two_pow ha hb)
theorem an_W4 (hx : W4 x) (hy : W4 y) : W4 (an4 x y) := by
  obtain ⟨a, rfl, ha⟩ := hx.nat; obtain ⟨b, rfl, hb⟩ := hy.nat; rw [w_and ha hb]; exact W4.mk' (Nat.and_lt_two_pow _ hb)
theorem oo_W4 (hx : W4 x) (hy : W4 y) : W4 (oo4 x y) := by
  obtain ⟨a, rfl, ha⟩ := hx.nat; obtain ⟨b, rfl, hb⟩ := hy.nat; rw [w_or ha hb]; exact W4.mk' (Nat.or_lt_two_pow ha hb)
theorem nt_W4 (hx : W4 x) : W4 (nt4 x) := xo_W4 (x := 4294967295) ⟨by decide, by decide⟩ hx
theorem ad_W4 : W4 (ad4 x y) := by unfold ad4 W4; rw [IntKind.wrap_u32]; omega
theorem sl_W4 {n : Nat} : W4 (sl4 x n) := by unfold sl4 W4; rw [IntKind.wrap_u32]; omega
theorem sr_W4 {n : Nat} (hx : W4 x) : W4 (sr4 x n) := by
  obtain ⟨a, rfl, ha⟩ := hx.nat
  unfold sr4
  rw [show ((a : Int) / 2 ^ n) = ((a / 2 ^ n : Nat) : Int) by rw [Int.natCast_ediv, Int.natCast_pow]; rfl]
  exact W4.mk' (Nat.lt_of_le_of_lt (Nat.div_le_self _ _) ha)
theorem rt_W4 {n : Nat} (hx : W4 x) : W4 (rt4 x n) := oo_W4 (sr_W4 hx) sl_W4
/-- the same by ints -/
theorem ix_xor (hx : W4 x) (hy : W4 y) : bits .xor .i64 x y = xo4 x y := by
  obtain ⟨a, rfl, ha⟩ := hx.nat; obtain ⟨b, rfl, hb⟩ := hy.nat; rw [w_xor ha hb, i_xor (up63 ha) (up63 hb)]
theorem ix_and (hx : W4 x) (hy : W4 y) : bits .and .i64 x y = an4 x y := by
  obtain ⟨a, rfl, ha⟩ := hx.nat; obtain ⟨b, rfl, hb⟩ := hy.nat; rw [w_and ha hb, i_and (up63 ha) (up63 hb)]
theorem ix_nt (hx : W4 x) : bits .xor .i64 4294967295 x = nt4 x := ix_xor (x := 4294967295) ⟨by decide, by decide⟩ hx
theorem ad_mod : ad4 x y = (x + y) % 4294967296 := by unfold ad4; rw [IntKind.wrap_u32]
theorem ix_shl {n : Nat} (hx : W4 x) (h1 : 1 ≤ n) (h2 : n ≤ 31) : IntKind.wrap .i64 (x * 2 ^ (32 - n)) = x * 2 ^ (32 - n) := by
  obtain ⟨a, rfl, ha⟩ := hx.nat
  have e2 : ((a : Int) * 2 ^ (32 - n)) = ((a * 2 ^ (32 - n) : Nat) : Int) := by rw [Int.natCast_mul, Int.natCast_pow]; rfl
  have h3 : 2 ^ (32 - n) ≤ 2 ^ 31 := Nat.pow_le_pow_right (by decide) (by omega)
  have l2 : a * 2 ^ (32 - n) < 2 ^ 63 := Nat.lt_of_le_of_lt (Nat.mul_le_mul_left _ h3) (by omega)
  rw [e2]
  exact wr63 _ (Int.natCast_nonneg _) (by exact_mod_cast l2)
/-- turned by ints -/
theorem ix_turn {n : Nat} (hx : W4 x) (h1 : 1 ≤ n) (h2 : n ≤ 31) : bits .and .i64 (bits .or .i64 (x / 2 ^ n) (x * 2 ^ (32 - n))) 4294967295 = rt4 x n := by
  obtain ⟨a, rfl, ha⟩ := hx.nat
  have e1 : ((a : Int) / 2 ^ n) = ((a / 2 ^ n : Nat) : Int) := by rw [Int.natCast_ediv, Int.natCast_pow]; rfl
  have e2 : ((a : Int) * 2 ^ (32 - n)) = ((a * 2 ^ (32 - n) : Nat) : Int) := by rw [Int.natCast_mul, Int.natCast_pow]; rfl
  have l1 : a / 2 ^ n < 2 ^ 32 := Nat.lt_of_le_of_lt (Nat.div_le_self _ _) ha
  have l2 : a * 2 ^ (32 - n) < 2 ^ 63 := by
    have h3 : 2 ^ (32 - n) ≤ 2 ^ 31 := Nat.pow_le_pow_right (by decide) (by omega)
    calc a * 2 ^ (32 - n) ≤ a * 2 ^ 31 := Nat.mul_le_mul_left _ h3
      _ < 2 ^ 63 := by omega
  have e3 : sl4 (a : Int) (32 - n) = ((a * 2 ^ (32 - n) % 2 ^ 32 : Nat) : Int) := by
    unfold sl4; rw [IntKind.wrap_u32, e2]; omega
  have l3 : a * 2 ^ (32 - n) % 2 ^ 32 < 2 ^ 32 := Nat.mod_lt _ (by decide)
  unfold rt4
  rw [e3, show sr4 (a : Int) n = ((a / 2 ^ n : Nat) : Int) from e1, w_or l1 l3, e1, e2, i_or (up63 l1) l2, i_mask (by omega) (by exact_mod_cast Nat.or_lt_two_pow (up63 l1) l2)]
  have h4 : (a / 2 ^ n ||| a * 2 ^ (32 - n)) % 2 ^ 32 = a / 2 ^ n ||| a * 2 ^ (32 - n) % 2 ^ 32 := by rw [Nat.or_mod_two_pow, Nat.mod_eq_of_lt l1]
  rw [← h4]; omega
end Go.Proofs.YtndnlbinnhdmbaaDoor
