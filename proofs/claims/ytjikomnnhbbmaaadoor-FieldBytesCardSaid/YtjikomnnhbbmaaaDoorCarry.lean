/- math/bits.Sub64 and Add64 as the model has them, and chains of four of them as one number. Conditions: the words are words of 64 bits, the carry is 0 or 1. -/
import Derived.Test.YtjikomnnhbbmaaaDoorChecked
import Derived.Test.YtjikomnnhbbmaaaDoorBase
namespace Go.Proofs.YtjikomnnhbbmaaaDoor
set_option linter.unusedSimpArgs false
set_option linter.unusedVariables false
open Go.RowKit

def sbD (x y b : Int) : Int := (x - y - b) % 18446744073709551616
def sbB (x y b : Int) : Int := if x < y + b then 1 else 0
theorem sbB_b (x y b : Int) : 0 ≤ sbB x y b ∧ sbB x y b ≤ 1 := by unfold sbB; split <;> omega
theorem sb_spec (x y b : Int) (hx : u64ok x) (hy : u64ok y) (h0 : 0 ≤ b) (h1 : b ≤ 1) : sbD x y b = x - y - b + 18446744073709551616 * sbB x y b ∧ u64ok (sbD x y b) := by
  unfold u64ok sbD sbB at *; split <;> omega
def sub64Entry : Array Value → Sem Value := fun args => do
  let (x, y, b) ← Extern.MathBitsCarry.three "Sub64" args
  pure (Extern.MathBitsCarry.pair ((x + Extern.MathBitsCarry.m64 - y - b) % Extern.MathBitsCarry.m64) (if x < y + b then 1 else 0))
theorem run_sub64 {P : Program} (x y c : Int) (hx : u64ok x) (hy : u64ok y) (hc0 : 0 ≤ c) (hc : c ≤ 1) (w : World) :
    (sub64Entry #[.int .u64 x, .int .u64 y, .int .u64 c]).run P w = .ok (.tuple #[.int .u64 (sbD x y c), .int .u64 (sbB x y c)]) w := by
  have key : ∀ k : Nat, k ≤ 1 → (sub64Entry #[.int .u64 x, .int .u64 y, .int .u64 (k : Int)]).run P w =
      .ok (Extern.MathBitsCarry.pair ((x.toNat + Extern.MathBitsCarry.m64 - y.toNat - k) % Extern.MathBitsCarry.m64) (if x.toNat < y.toNat + k then 1 else 0)) w := by
    intro k hk
    have : k = 0 ∨ k = 1 := by omega
    rcases this with rfl | rfl <;> rfl
  obtain ⟨k, rfl⟩ := Int.eq_ofNat_of_zero_le hc0
  rw [key k (by omega)]
  obtain ⟨hx0, hx1⟩ := hx
  obtain ⟨hy0, hy1⟩ := hy
  obtain ⟨X, rfl⟩ := Int.eq_ofNat_of_zero_le hx0
  obtain ⟨Y, rfl⟩ := Int.eq_ofNat_of_zero_le hy0
  have e1 : Int.ofNat ((X + 18446744073709551616 - Y - k) % 18446744073709551616) = sbD X Y k := by
    unfold sbD; simp only [Int.ofNat_eq_natCast]; omega
  have e2 : Int.ofNat (if X < Y + k then 1 else 0) = sbB X Y k := by
    unfold sbB; split <;> split <;> first | rfl | omega
  simp only [Extern.MathBitsCarry.pair, Extern.MathBitsCarry.m64, Int.toNat_natCast, Nat.reducePow, e1, e2]
theorem sub64_run (x y b : Int) (hx : u64ok x) (hy : u64ok y) (hb0 : 0 ≤ b) (hb : b ≤ 1) (w : World) : (callFunc 43 #[.int .u64 x, .int .u64 y, .int .u64 b]).run Tryd.prog w = .ok (.value (.tuple #[.int .u64 (sbD x y b), .int .u64 (sbB x y b)])) w := by
  rw [run_callFunc_extern Tryd.func43 (by kernel_rfl) (by kernel_rfl) (by kernel_rfl) (e := sub64Entry) (by kernel_rfl), run_sub64 x y b hx hy hb0 hb]
  rfl

def adS (x y c : Int) : Int := (x + y + c) % 18446744073709551616
def adC (x y c : Int) : Int := (x + y + c) / 18446744073709551616
theorem adC_b (x y c : Int) (hx : u64ok x) (hy : u64ok y) (h0 : 0 ≤ c) (h1 : c ≤ 1) : 0 ≤ adC x y c ∧ adC x y c ≤ 1 := by unfold u64ok adC at *; omega
theorem ad_spec (x y c : Int) : adS x y c + 18446744073709551616 * adC x y c = x + y + c ∧ u64ok (adS x y c) := by
  unfold u64ok adS adC at *; omega
theorem add64_run (x y c : Int) (hx : u64ok x) (hy : u64ok y) (hb0 : 0 ≤ c) (hb : c ≤ 1) (w : World) : (callFunc 37 #[.int .u64 x, .int .u64 y, .int .u64 c]).run Tryd.prog w = .ok (.value (.tuple #[.int .u64 (adS x y c), .int .u64 (adC x y c)])) w := by
  rw [run_callFunc_extern Tryd.func37 (by kernel_rfl) (by kernel_rfl) (by kernel_rfl) (e := add64Entry) (by kernel_rfl), run_add64 x y c hx.1 hy.1 hb0 hb]
  rfl

def dif4 (A B : Nat) : Nat := (A + 115792089237316195423570985008687907853269984665640564039457584007913129639936 - B) % 115792089237316195423570985008687907853269984665640564039457584007913129639936
def brw (A B : Nat) : Int := if A < B then 1 else 0
theorem dif4_lt (A B : Nat) : dif4 A B < 115792089237316195423570985008687907853269984665640564039457584007913129639936 := by unfold dif4; omega
theorem sub_chain (a0 a1 a2 a3 b0 b1 b2 b3 : Int) (ha : U4 a0 a1 a2 a3) (hb : U4 b0 b1 b2 b3) :
    let u0 := sbB a0 b0 0; let u1 := sbB a1 b1 u0; let u2 := sbB a2 b2 u1; let u3 := sbB a3 b3 u2
    A4 (sbD a0 b0 0) (sbD a1 b1 u0) (sbD a2 b2 u1) (sbD a3 b3 u2) = L4 (dif4 (val4 a0 a1 a2 a3) (val4 b0 b1 b2 b3)) ∧ u3 = brw (val4 a0 a1 a2 a3) (val4 b0 b1 b2 b3) := by
  intro u0 u1 u2 u3
  have v0 := sbB_b a0 b0 0
  have v1 := sbB_b a1 b1 u0
  have v2 := sbB_b a2 b2 u1
  have v3 := sbB_b a3 b3 u2
  have s0 := sb_spec a0 b0 0 ha.1 hb.1 (by omega) (by omega)
  have s1 := sb_spec a1 b1 u0 ha.2.1 hb.2.1 v0.1 v0.2
  have s2 := sb_spec a2 b2 u1 ha.2.2.1 hb.2.2.1 v1.1 v1.2
  have s3 := sb_spec a3 b3 u2 ha.2.2.2 hb.2.2.2 v2.1 v2.2
  have hd : U4 (sbD a0 b0 0) (sbD a1 b1 u0) (sbD a2 b2 u1) (sbD a3 b3 u2) := ⟨s0.2, s1.2, s2.2, s3.2⟩
  rw [A4_L4 _ _ _ _ hd]
  have iA := val4_int _ _ _ _ ha
  have iB := val4_int _ _ _ _ hb
  have iD := val4_int _ _ _ _ hd
  have lA := val4_lt _ _ _ _ ha
  have lB := val4_lt _ _ _ _ hb
  have lD := val4_lt _ _ _ _ hd
  have e0 := s0.1
  have e1 := s1.1
  have e2 := s2.1
  have e3 := s3.1
  have key : (val4 (sbD a0 b0 0) (sbD a1 b1 u0) (sbD a2 b2 u1) (sbD a3 b3 u2) : Int) = (val4 a0 a1 a2 a3 : Int) - (val4 b0 b1 b2 b3 : Int) + 115792089237316195423570985008687907853269984665640564039457584007913129639936 * u3 := by
    rw [iA, iB, iD]
    change _ = _ + _ * u3 at e3
    change _ = _ + _ * u2 at e2
    change _ = _ + _ * u1 at e1
    change _ = _ + _ * u0 at e0
    clear iA iB iD lA lB lD s0 s1 s2 s3 v0 v1 v2 v3 hd
    generalize sbD a0 b0 0 = d0 at *
    generalize sbD a1 b1 u0 = d1 at *
    generalize sbD a2 b2 u1 = d2 at *
    generalize sbD a3 b3 u2 = d3 at *
    clear_value u3 u2 u1 u0
    clear ha hb
    omega
  change 0 ≤ u3 ∧ u3 ≤ 1 at v3
  clear iA iB iD e0 e1 e2 e3 s0 s1 s2 s3 v0 v1 v2 hd
  generalize val4 (sbD a0 b0 0) (sbD a1 b1 u0) (sbD a2 b2 u1) (sbD a3 b3 u2) = D at *
  generalize val4 a0 a1 a2 a3 = A at *
  generalize val4 b0 b1 b2 b3 = B at *
  clear_value u3
  have hu : u3 = 0 ∨ u3 = 1 := by omega
  rcases hu with rfl | rfl
  · exact ⟨L4_eq (by unfold dif4; omega), by unfold brw; rw [if_neg (by omega)]⟩
  · exact ⟨L4_eq (by unfold dif4; omega), by unfold brw; rw [if_pos (by omega)]⟩
theorem add_chain (a0 a1 a2 a3 b0 b1 b2 b3 c : Int) (ha : U4 a0 a1 a2 a3) (hb : U4 b0 b1 b2 b3) (hc0 : 0 ≤ c) (hc1 : c ≤ 1) :
    let u0 := adC a0 b0 c; let u1 := adC a1 b1 u0; let u2 := adC a2 b2 u1; let u3 := adC a3 b3 u2
    A4 (adS a0 b0 c) (adS a1 b1 u0) (adS a2 b2 u1) (adS a3 b3 u2) = L4 ((val4 a0 a1 a2 a3 + val4 b0 b1 b2 b3 + c.toNat) % 115792089237316195423570985008687907853269984665640564039457584007913129639936) ∧ u3 = ((val4 a0 a1 a2 a3 + val4 b0 b1 b2 b3 + c.toNat) / 115792089237316195423570985008687907853269984665640564039457584007913129639936 : Nat) := by
  intro u0 u1 u2 u3
  have v0 := adC_b a0 b0 c ha.1 hb.1 hc0 hc1
  have v1 := adC_b a1 b1 u0 ha.2.1 hb.2.1 v0.1 v0.2
  have v2 := adC_b a2 b2 u1 ha.2.2.1 hb.2.2.1 v1.1 v1.2
  have v3 := adC_b a3 b3 u2 ha.2.2.2 hb.2.2.2 v2.1 v2.2
  have s0 := ad_spec a0 b0 c
  have s1 := ad_spec a1 b1 u0
  have s2 := ad_spec a2 b2 u1
  have s3 := ad_spec a3 b3 u2
  have hd : U4 (adS a0 b0 c) (adS a1 b1 u0) (adS a2 b2 u1) (adS a3 b3 u2) := ⟨s0.2, s1.2, s2.2, s3.2⟩
  rw [A4_L4 _ _ _ _ hd]
  have iA := val4_int _ _ _ _ ha
  have iB := val4_int _ _ _ _ hb
  have iD := val4_int _ _ _ _ hd
  have lA := val4_lt _ _ _ _ ha
  have lB := val4_lt _ _ _ _ hb
  have lD := val4_lt _ _ _ _ hd
  have e0 := s0.1
  have e1 := s1.1
  have e2 := s2.1
  have e3 := s3.1
  have key : (val4 (adS a0 b0 c) (adS a1 b1 u0) (adS a2 b2 u1) (adS a3 b3 u2) : Int) + 115792089237316195423570985008687907853269984665640564039457584007913129639936 * u3 = (val4 a0 a1 a2 a3 : Int) + (val4 b0 b1 b2 b3 : Int) + c := by
    rw [iA, iB, iD]
    change _ + _ * u3 = _ at e3
    change _ + _ * u2 = _ at e2
    change _ + _ * u1 = _ at e1
    change _ + _ * u0 = _ at e0
    clear iA iB iD lA lB lD s0 s1 s2 s3 v0 v1 v2 v3 hd
    generalize adS a0 b0 c = d0 at *
    generalize adS a1 b1 u0 = d1 at *
    generalize adS a2 b2 u1 = d2 at *
    generalize adS a3 b3 u2 = d3 at *
    clear_value u3 u2 u1 u0
    clear ha hb
    omega
  change 0 ≤ u3 ∧ u3 ≤ 1 at v3
  clear iA iB iD e0 e1 e2 e3 s0 s1 s2 s3 v0 v1 v2 hd
  generalize val4 (adS a0 b0 c) (adS a1 b1 u0) (adS a2 b2 u1) (adS a3 b3 u2) = D at *
  generalize val4 a0 a1 a2 a3 = A at *
  generalize val4 b0 b1 b2 b3 = B at *
  clear_value u3
  have hu : u3 = 0 ∨ u3 = 1 := by omega
  rcases hu with rfl | rfl
  · exact ⟨L4_eq (by omega), by omega⟩
  · exact ⟨L4_eq (by omega), by omega⟩
theorem A4_inj {a0 a1 a2 a3 : Int} {V : Nat} (h : A4 a0 a1 a2 a3 = L4 V) : a0 = lim V 0 ∧ a1 = lim V 1 ∧ a2 = lim V 2 ∧ a3 = lim V 3 := by
  simpa [A4, L4] using h
end Go.Proofs.YtjikomnnhbbmaaaDoor
