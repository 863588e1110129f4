/- math/bits.Mul64: the product of two words in two words. Conditions: words of 64 bits. (The walk is the guide's own for this function, turned to this program's numbers.) -/
import Derived.Test.YtjikomnnhbbmaaaDoorCarry
import Derived.Lib.Mul64
namespace Go.Proofs.YtjikomnnhbbmaaaDoor
set_option linter.unusedSimpArgs false
set_option linter.unusedVariables false
open Go.RowKit

namespace M64
theorem maskN (a : Nat) (ha : a < 18446744073709551616) : bits .and .u64 (a : Int) 4294967295 = ((a % 4294967296 : Nat) : Int) := by
  have h := bits_and_u64_nat a 4294967295 ha (by omega)
  have e : a &&& 4294967295 = a % 4294967296 := Nat.and_two_pow_sub_one_eq_mod a 32
  rw [e] at h
  exact h
theorem divN (a : Nat) : (a : Int) / 4294967296 = ((a / 4294967296 : Nat) : Int) := by omega
theorem mulN (a b : Nat) : (a : Int) * (b : Int) = ((a * b : Nat) : Int) := (Int.natCast_mul a b).symm
theorem addN (a b : Nat) : (a : Int) + (b : Int) = ((a + b : Nat) : Int) := (Int.natCast_add a b).symm
theorem wrapN (a : Nat) (ha : a < 18446744073709551616) : IntKind.u64.wrap (a : Int) = (a : Int) := by rw [IntKind.wrap_u64]; omega
theorem wrapM (a : Nat) : IntKind.u64.wrap (a : Int) = ((a % 18446744073709551616 : Nat) : Int) := by rw [IntKind.wrap_u64]; omega
end M64

set_option maxHeartbeats 1000000 in
theorem mul64_n (x y : Nat) (hx : x < 18446744073709551616) (hy : y < 18446744073709551616) (w : World) :
    Calls Tryd.prog 36 #[.int .u64 x, .int .u64 y] w fun e w' => e = .returned (.tuple #[.int .u64 ((x * y / 18446744073709551616 : Nat) : Int), .int .u64 ((x * y % 18446744073709551616 : Nat) : Int)]) ∧ w = w' := by
  obtain ⟨bd, bt, bw, hhi⟩ := Lib.mul64_hi x y hx hy
  have ba := Lib.half_mul_le (a := x / 4294967296) (b := y / 4294967296) (by omega) (by omega)
  have bb := Lib.half_mul_le (a := x / 4294967296) (b := y % 4294967296) (by omega) (by omega)
  have bc := Lib.half_mul_le (a := x % 4294967296) (b := y / 4294967296) (by omega) (by omega)
  have ba' : x / 4294967296 * (y / 4294967296) < 18446744073709551616 := by omega
  have bb' : x / 4294967296 * (y % 4294967296) < 18446744073709551616 := by omega
  have bc' : x % 4294967296 * (y / 4294967296) < 18446744073709551616 := by omega
  have bh1 : x / 4294967296 * (y / 4294967296) + (x / 4294967296 * (y % 4294967296) + x % 4294967296 * (y % 4294967296) / 4294967296) / 4294967296 < 18446744073709551616 := by omega
  have bh : x / 4294967296 * (y / 4294967296) + (x / 4294967296 * (y % 4294967296) + x % 4294967296 * (y % 4294967296) / 4294967296) / 4294967296 + ((x / 4294967296 * (y % 4294967296) + x % 4294967296 * (y % 4294967296) / 4294967296) % 4294967296 + x % 4294967296 * (y / 4294967296)) / 4294967296 < 18446744073709551616 := by omega
  go_enter Tryd.func36, Tryd.ntmps36
  go_wp2
  simp only [M64.maskN x hx, M64.maskN y hy, M64.divN, M64.mulN, M64.addN, M64.wrapN _ bd, M64.wrapN _ bb', M64.wrapN _ bt, M64.maskN _ bt, M64.wrapN _ bc', M64.wrapN _ bw, M64.wrapN _ ba', M64.wrapN _ bh1, M64.wrapN _ bh, M64.wrapM (x * y)]
  rw [hhi]
  go_ret2
  exact ⟨rfl, rfl⟩

def mulH (x y : Int) : Int := x * y / 18446744073709551616
def mulL (x y : Int) : Int := x * y % 18446744073709551616
theorem mul64_c (x y : Int) (hx : u64ok x) (hy : u64ok y) (w : World) :
    Calls Tryd.prog 36 #[.int .u64 x, .int .u64 y] w fun e w' => e = .returned (.tuple #[.int .u64 (mulH x y), .int .u64 (mulL x y)]) ∧ w = w' := by
  obtain ⟨x0, x1⟩ := hx
  obtain ⟨y0, y1⟩ := hy
  obtain ⟨X, rfl⟩ := Int.eq_ofNat_of_zero_le x0
  obtain ⟨Y, rfl⟩ := Int.eq_ofNat_of_zero_le y0
  have h := mul64_n X Y (by omega) (by omega) w
  have e1 : mulH X Y = ((X * Y / 18446744073709551616 : Nat) : Int) := by unfold mulH; rw [M64.mulN]; omega
  have e2 : mulL X Y = ((X * Y % 18446744073709551616 : Nat) : Int) := by unfold mulL; rw [M64.mulN]; omega
  rw [e1, e2]; exact h

/-- one step of the school's product: the low word of x y + f + c, and what is carried -/
theorem mul_step (x y f c : Int) (hx : u64ok x) (hy : u64ok y) (hf : u64ok f) (hc : u64ok c) :
    u64ok (mulL x y) ∧ u64ok (adS (mulL x y) f 0) ∧
    u64ok (IntKind.u64.wrap (IntKind.u64.wrap (mulH x y + adC (mulL x y) f 0) + adC (adS (mulL x y) f 0) c 0)) ∧ u64ok (adS (adS (mulL x y) f 0) c 0) ∧
    adS (adS (mulL x y) f 0) c 0 + 18446744073709551616 * IntKind.u64.wrap (IntKind.u64.wrap (mulH x y + adC (mulL x y) f 0) + adC (adS (mulL x y) f 0) c 0) = x * y + f + c := by
  have hp : x * y ≤ 340282366920938463426481119284349108225 := by
    obtain ⟨x0, x1⟩ := hx
    obtain ⟨y0, y1⟩ := hy
    exact Int.le_trans (Int.mul_le_mul (show x ≤ 18446744073709551615 by omega) (show y ≤ 18446744073709551615 by omega) y0 (by omega)) (by decide)
  have hp0 : 0 ≤ x * y := Int.mul_nonneg hx.1 hy.1
  unfold mulH mulL adS adC u64ok at *
  rw [IntKind.wrap_u64, IntKind.wrap_u64]
  generalize x * y = p at *
  omega
end Go.Proofs.YtjikomnnhbbmaaaDoor
