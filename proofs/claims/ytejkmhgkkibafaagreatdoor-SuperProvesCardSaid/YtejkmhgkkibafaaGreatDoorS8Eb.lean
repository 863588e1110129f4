/- field.Pow, Sub, Inv. Conditions: the cells of field.modulus hold the modulus. field.Same, Odd, Root. Conditions: the cells of field.modulus and (for the root) of field.imaginary hold the two numbers. field.Bytes and Of. Conditions: the cells of field.modulus hold the modulus. -/
import Derived.Test.YtejkmhgkkibafaaGreatDoorGc
import Derived.Test.YtejkmhgkkibafaaGreatDoorJ6
import Derived.Test.YtejkmhgkkibafaaGreatDoorJ3
import Derived.Test.YtejkmhgkkibafaaGreatDoorJ9
import Derived.Test.YtejkmhgkkibafaaGreatDoorS8Ea
import Derived.Test.YtejkmhgkkibafaaGreatDoorGa
set_option linter.unusedSimpArgs false
set_option linter.unusedVariables false
namespace Go.Proofs.YtejkmhgkkibafaaGreatDoor.S8
section
set_option maxHeartbeats 4000000
set_option maxRecDepth 100000
open Go.RowKit

def pw (A n : Nat) : Nat := A ^ n % PP
theorem Z34 (A : Nat) : pw A 0 = 1 := by unfold pw; rw [Nat.pow_zero]; rfl
theorem Q9l (A n : Nat) : pw A n < Z3 := Z32 _
theorem Z35 (A n K : Nat) (h : n / 2 ^ K % 2 = 0) : pw A (n / 2 ^ (K + 1)) * pw A (n / 2 ^ (K + 1)) % PP = pw A (n / 2 ^ K) := by
  have e : n / 2 ^ K = n / 2 ^ (K + 1) + n / 2 ^ (K + 1) := by rw [Nat.pow_succ, ← Nat.div_div_eq_div_mul]; omega
  unfold pw
  rw [← Nat.mul_mod, ← Nat.pow_add, ← e]
theorem Q9m (A n K : Nat) (h : n / 2 ^ K % 2 = 1) : (pw A (n / 2 ^ (K + 1)) * pw A (n / 2 ^ (K + 1)) % PP) * A % PP = pw A (n / 2 ^ K) := by
  have e : n / 2 ^ K = n / 2 ^ (K + 1) + n / 2 ^ (K + 1) + 1 := by rw [Nat.pow_succ, ← Nat.div_div_eq_div_mul]; omega
  unfold pw
  rw [← Nat.mul_mod, ← Nat.pow_add, Nat.mod_mul_mod, ← Nat.pow_succ, Nat.succ_eq_add_one, ← e]
theorem Q7o (n q r : Nat) (hr : r < 64) : bits .and .u64 (V8 n q / 2 ^ r) 1 = ((n / 2 ^ (64 * q + r) % 2 : Nat) : Int) := by
  obtain ⟨l0, l1⟩ := J0v n q
  obtain ⟨X, hX⟩ := Int.eq_ofNat_of_zero_le l0
  have hX' : X = n / 2 ^ (64 * q) % 18446744073709551616 := by unfold V8 at hX; omega
  rw [hX] at l1 ⊢
  have e : ((X : Int) / 2 ^ r) = ((X / 2 ^ r : Nat) : Int) := by push_cast; rfl
  have hl : X / 2 ^ r ≤ X := Nat.div_le_self _ _
  have e2 : bits .and .u64 (((X / 2 ^ r : Nat) : Int)) ((1 : Nat) : Int) = ((X / 2 ^ r % 2 : Nat) : Int) := by
    rw [bits_and_u64_nat _ _ (by omega) (by omega), Nat.and_one_is_mod]
  rw [e]
  refine Eq.trans e2 ?_
  congr 1
  rw [hX', Nat.pow_add, ← Nat.div_div_eq_div_mul]
  generalize n / 2 ^ (64 * q) = m
  obtain ⟨d, hd⟩ : ∃ d, 64 = r + (1 + d) := ⟨64 - r - 1, by omega⟩
  rw [show (18446744073709551616 : Nat) = 2 ^ r * 2 ^ (1 + d) by rw [← Nat.pow_add, ← hd], Nat.mod_mul_right_div_self, Nat.pow_add, Nat.pow_one, Nat.mod_mul_right_mod]

theorem Q7p (A n : Nat) (hA : A < Z3) (hn : n < Z3) (w : World) (hG : GF w) :
  Calls Tryz.prog 165 #[L4 A, L4 n] w fun e w' => Ret (L4 (pw A n)) w w' e := by
 go_enter Tryz.func165, Tryz.ntmps165
 go_upto_region 1 with fail
 refine wn3 (c1 := (c4 A)) (t1 := 155) (c2 := (c4 n)) (t2 := 152) (c3 := #[.int .u64 0, .int .u64 0, .int .u64 0, .int .u64 0]) (t3 := 155) fun W0 bel k_t2 k_t3 k_t4 => ?_
 have lt_t2_0 := Q7 k_t2
 have lt_t3_0 := Q7 k_t3
 have lt_t4_0 := Q7 k_t4
 have gf := Q9 hG bel
 have gm := gf.1
 have gi := gf.2
 refine Px1 1 5 (z := #[.int .u64 0, .int .u64 0, .int .u64 0, .int .u64 0]) (t := 155) ?_
 refine Xv ?_
 refine XN ?_
 intro J5m W1 n_t5_1 hE k_t5
 have sz_1 := bel.size
 skip
 refine Lp ?_ k_t5 (cells := c4 1)
 intro W2 hO h_
 refine J3 ?_
 replace k_t2 := ko k_t2 hE hO (by omega)
 replace k_t3 := ko k_t3 hE hO (by omega)
 replace k_t4 := ko k_t4 hE hO (by omega)
 replace k_t5 := h_
 replace bel := bwo bel hE hO bel.size (by omega)
 clear hO h_
 have lt_t5_2 := Q7 k_t5
 go_wp2_with fail
 go_loopw [6] (fun ii wr => ∃ (k R : Nat), k ≤ 256 ∧ ii = .int .i64 ((k : Int) - 1) ∧ R = pw A (n / 2 ^ k) ∧ Below w.heap.size w wr ∧ Blk wr w.heap.size (c4 A) 155 ∧ Blk wr (w.heap.size + 1) (c4 n) 152 ∧ Blk wr (w.heap.size + 2) #[.int .u64 0, .int .u64 0, .int .u64 0, .int .u64 0] 155 ∧ Blk wr J5m (c4 R) 155)
  (fun ii _ => (intOf ii + 1).toNat)
 case atStart =>
  refine ⟨256, 1, by omega, rfl, ?_, bel, k_t2, k_t3, k_t4, k_t5⟩
  rw [Nat.div_eq_of_lt (show n < 2 ^ 256 from hn), Z34]
 case round =>
  obtain ⟨k, R, hk, rfl, hR, bel, k_t2, k_t3, k_t4, k_t5⟩ := hrel
  have bR : R < Z3 := by rw [hR]; exact Q9l _ _
  have HR := Lib.hid hR
  clear hR
  by_cases hexit : k = 0
  ·
   have _hx := hexit
   subst hexit
   go_upto_region 8 with fail
   have lt_t2_3 := Q7 k_t2
   have lt_t3_3 := Q7 k_t3
   have lt_t4_3 := Q7 k_t4
   have lt_t5_3 := Q7 k_t5
   have gf := Q9 hG bel
   have gm := gf.1
   have gi := gf.2
   refine Px 1 ?_
   refine XL ?_
   refine Z4 fun W4 hE => ?_
   refine Lp ?_ (J1 k_t4 hE) (cells := c4 R)
   intro W5 hO h_
   refine J3 ?_
   replace k_t2 := ko k_t2 hE hO (by omega)
   replace k_t3 := ko k_t3 hE hO (by omega)
   replace k_t4 := h_
   replace k_t5 := ko k_t5 hE hO (by omega)
   replace bel := bwo bel hE hO bel.size (by omega)
   clear hO h_
   go_wp2
   refine bodyPost_ret (Y0 rfl rfl k_t4 (by kernel_rfl) (by kernel_rfl)) rfl ⟨?_, bel⟩
   rw [HR.out, Nat.pow_zero, Nat.div_one]; rfl
  obtain ⟨q, r, hr, rfl⟩ : ∃ q r, r < 64 ∧ k = 64 * q + r + 1 := ⟨(k - 1) / 64, (k - 1) % 64, by omega, by omega⟩
  have e1 : ((64 * q + r + 1 : Nat) : Int) - 1 = 64 * (q : Int) + (r : Int) := by omega
  rw [e1]
  clear hexit e1
  have d1 : (64 * (q : Int) + (r : Int)) / 64 = (q : Int) := by omega
  have d2 : (64 * (q : Int) + (r : Int)) % 64 = (r : Int) := by omega
  have hq1 : (q : Int) < 4 := by omega
  have hr1 : (r : Int) < 64 := by omega
  have hq0 : (0 : Int) ≤ 64 * (q : Int) + (r : Int) := by omega
  rcases Nat.mod_two_eq_zero_or_one (n / 2 ^ (64 * q + r)) with hbit | hbit
  ·
   have HB := Lib.hid hbit
   go_upto_region 5 with fail
   have lt_t2_3 := Q7 k_t2
   have lt_t3_3 := Q7 k_t3
   have lt_t4_3 := Q7 k_t4
   have lt_t5_3 := Q7 k_t5
   have gf := Q9 hG bel
   have gm := gf.1
   have gi := gf.2
   have c_X1 := Y9 R R bR bR
   obtain ⟨X1, hX1⟩ := exn (R * R % PP)
   rw [← hX1] at c_X1
   have bX1 := J1u hX1
   have HX1 := Lib.hid hX1
   clear hX1
   refine Px 3 ?_
   refine XL ?_
   refine XL ?_
   refine Xf ?_ (fun W hW => c_X1 W (Q9 gf hW))
   refine Z4 fun W4 hE => ?_
   refine Lp ?_ (J1 k_t5 hE) (cells := c4 X1)
   intro W5 hO h_
   refine J3 ?_
   replace k_t2 := ko k_t2 hE hO (by omega)
   replace k_t3 := ko k_t3 hE hO (by omega)
   replace k_t4 := ko k_t4 hE hO (by omega)
   replace k_t5 := h_
   replace bel := bwo bel hE hO bel.size (by omega)
   clear hO h_
   have c3 := (Q6 k_t3 q).trans (J4y n q (by omega))
   have hbt := Q7o n q r hr
   rw [hbit] at hbt
   clear hbit
   go_wp2_with fail
   go_roundw
   case rel => exact ⟨64 * q + r, X1, by omega, by go_num, by rw [HX1.out, HR.out]; exact Z35 A n _ HB.out, bel, k_t2, k_t3, k_t4, k_t5⟩
   case measure => simp [intOf]; omega
  have HB := Lib.hid hbit
  go_upto_region 5 with fail
  have lt_t2_3 := Q7 k_t2
  have lt_t3_3 := Q7 k_t3
  have lt_t4_3 := Q7 k_t4
  have lt_t5_3 := Q7 k_t5
  have gf := Q9 hG bel
  have gm := gf.1
  have gi := gf.2
  have c_X1 := Y9 R R bR bR
  obtain ⟨X1, hX1⟩ := exn (R * R % PP)
  rw [← hX1] at c_X1
  have bX1 := J1u hX1
  have HX1 := Lib.hid hX1
  clear hX1
  refine Px 3 ?_
  refine XL ?_
  refine XL ?_
  refine Xf ?_ (fun W hW => c_X1 W (Q9 gf hW))
  refine Z4 fun W4 hE => ?_
  refine Lp ?_ (J1 k_t5 hE) (cells := c4 X1)
  intro W5 hO h_
  refine J3 ?_
  replace k_t2 := ko k_t2 hE hO (by omega)
  replace k_t3 := ko k_t3 hE hO (by omega)
  replace k_t4 := ko k_t4 hE hO (by omega)
  replace k_t5 := h_
  replace bel := bwo bel hE hO bel.size (by omega)
  clear hO h_
  have c3 := (Q6 k_t3 q).trans (J4y n q (by omega))
  have hbt := Q7o n q r hr
  rw [hbit] at hbt
  go_upto_region 7 with fail
  have lt_t2_5 := Q7 k_t2
  have lt_t3_5 := Q7 k_t3
  have lt_t4_5 := Q7 k_t4
  have lt_t5_5 := Q7 k_t5
  have gf := Q9 hG bel
  have gm := gf.1
  have gi := gf.2
  have c_X2 := Y9 X1 A bX1 hA
  obtain ⟨X2, hX2⟩ := exn (X1 * A % PP)
  rw [← hX2] at c_X2
  have bX2 := J1u hX2
  have HX2 := Lib.hid hX2
  clear hX2
  refine Px 3 ?_
  refine XL ?_
  refine XL ?_
  refine Xf ?_ (fun W hW => c_X2 W (Q9 gf hW))
  refine Z4 fun W6 hE => ?_
  refine Lp ?_ (J1 k_t5 hE) (cells := c4 X2)
  intro W7 hO h_
  refine J3 ?_
  replace k_t2 := ko k_t2 hE hO (by omega)
  replace k_t3 := ko k_t3 hE hO (by omega)
  replace k_t4 := ko k_t4 hE hO (by omega)
  replace k_t5 := h_
  replace bel := bwo bel hE hO bel.size (by omega)
  clear hO h_
  clear hbit
  go_wp2_with fail
  go_roundw
  case rel => exact ⟨64 * q + r, X2, by omega, by go_num, by rw [HX2.out, HX1.out, HR.out]; exact Q9m A n _ HB.out, bel, k_t2, k_t3, k_t4, k_t5⟩
  case measure => simp [intOf]; omega
theorem J97 (A B : Nat) (hA : A < Z3) (hB : B < Z3) (w : World) (hG : GF w) :
  Calls Tryz.prog 148 #[L4 A, L4 B] w fun e w' => Ret (L4 ((A + (PP - B % PP)) % PP)) w w' e := by
 go_enter Tryz.func148, Tryz.ntmps148
 go_upto_region 1 with fail
 refine wn3 (c1 := (c4 A)) (t1 := 155) (c2 := (c4 B)) (t2 := 155) (c3 := #[.int .u64 0, .int .u64 0, .int .u64 0, .int .u64 0]) (t3 := 155) fun W0 bel k_t2 k_t3 k_t4 => ?_
 have lt_t2_0 := Q7 k_t2
 have lt_t3_0 := Q7 k_t3
 have lt_t4_0 := Q7 k_t4
 have gf := Q9 hG bel
 have gm := gf.1
 have gi := gf.2
 have c_X1 := Q0m B hB
 obtain ⟨X1, hX1⟩ := exn ((PP - B % PP) % PP)
 rw [← hX1] at c_X1
 have bX1 := J1u hX1
 have HX1 := Lib.hid hX1
 clear hX1
 have c_X2 := J5n A X1 hA bX1
 obtain ⟨X2, hX2⟩ := exn ((A + X1) % PP)
 rw [← hX2] at c_X2
 have bX2 := J1u hX2
 have HX2 := Lib.hid hX2
 clear hX2
 refine Rx 4 ?_
 refine XL ?_
 refine XL ?_
 refine Xf ?_ (fun W hW => c_X1 W (Q9 gf hW))
 refine Xf ?_ (fun W hW => c_X2 W (Q9 gf hW))
 refine Z4 fun W1 hE => ?_
 refine Lp ?_ (J1 k_t4 hE) (cells := c4 X2)
 intro W2 hO h_
 refine LN ?_
 replace k_t2 := ko k_t2 hE hO (by omega)
 replace k_t3 := ko k_t3 hE hO (by omega)
 replace k_t4 := h_
 replace bel := bwo bel hE hO bel.size (by omega)
 clear hO h_
 go_wp2
 refine bodyPost_ret (Y0 rfl rfl k_t4 (by kernel_rfl) (by kernel_rfl)) rfl ⟨?_, bel⟩
 rw [HX2.out, HX1.out, Nat.add_mod_mod]; rfl
theorem Y88 (A : Nat) (hA : A < Z3) (w : World) (hG : GF w) :
  Calls Tryz.prog 134 #[L4 A] w fun e w' => Ret (L4 (pw A (PP - 2))) w w' e := by
 go_enter Tryz.func134, Tryz.ntmps134
 go_upto_region 1 with fail
 refine wn2 (c1 := (c4 A)) (t1 := 155) (c2 := #[.int .u64 0, .int .u64 0, .int .u64 0, .int .u64 0]) (t2 := 155) fun W0 bel k_t1 k_t2 => ?_
 have lt_t1_0 := Q7 k_t1
 have lt_t2_0 := Q7 k_t2
 have gf := Q9 hG bel
 have gm := gf.1
 have gi := gf.2
 have c_X1 := Q7p A (PP - 2) hA (by decide)
 obtain ⟨X1, hX1⟩ := exn (pw A (PP - 2))
 rw [← hX1] at c_X1
 have bX1 : X1 < Z3 := by rw [hX1]; exact Q9l _ _
 have HX1 := Lib.hid hX1
 clear hX1
 refine Px 3 ?_
 refine XL ?_
 refine Xv ?_
 refine Xf ?_ (fun W hW => c_X1 W (Q9 gf hW))
 refine Z4 fun W1 hE => ?_
 refine Lp ?_ (J1 k_t2 hE) (cells := c4 X1)
 intro W2 hO h_
 refine J3 ?_
 replace k_t1 := ko k_t1 hE hO (by omega)
 replace k_t2 := h_
 replace bel := bwo bel hE hO bel.size (by omega)
 clear hO h_
 go_wp2
 refine bodyPost_ret (Y0 rfl rfl k_t2 (by kernel_rfl) (by kernel_rfl)) rfl ⟨?_, bel⟩
 rw [HX1.out]; rfl
end

section
set_option maxHeartbeats 4000000
set_option maxRecDepth 100000
open Go.RowKit

def II : Nat := 19681161376707505956807079304988542015446066515923890162744021073123829784752
theorem V2l : II < Z3 := by decide +kernel
theorem Z36 (A B : Nat) (hA : A < Z3) (hB : B < Z3) (h : ∀ i, i < 4 → V8 A i = V8 B i) : A = B := by
  rw [← J1d A hA, ← J1d B hB, h 0 (by omega), h 1 (by omega), h 2 (by omega), h 3 (by omega)]
theorem Y89 (A B : Nat) (hA : A < Z3) (hB : B < Z3) (w : World) : (Op.equalIn 10000 155 (.agg (c4 A)) (.agg (c4 B))).run Tryz.prog w = .ok (decide (A = B)) w := by
  have h := J2o (P := Tryz.prog) w 9998 155 71 4 .u64 (c4 A) (c4 B) (V8 A) (V8 B) Tryz.underlying155 Tryz.underlying71 (by kernel_rfl) (fun i hi => J4y A i hi) (fun i hi => J4y B i hi)
  rw [h]
  congr 1
  rw [Bool.eq_iff_iff, J66, decide_eq_true_iff]
  exact ⟨Z36 A B hA hB, fun e i _ => by rw [e]⟩
theorem Z37 (X : Nat) : bits .and .u64 (V8 X 0) 1 = ((X % 2 : Nat) : Int) := by
  have := Q7o X 0 0 (by omega)
  simpa using this

theorem J8b (A B : Nat) (hA : A < Z3) (hB : B < Z3) (w : World) (hG : GF w) :
  Calls Tryz.prog 151 #[L4 A, L4 B] w fun e w' => Ret (.bool (decide (A % PP = B % PP))) w w' e := by
 go_enter Tryz.func151, Tryz.ntmps151
 go_upto_region 1 with fail
 refine wn2 (c1 := (c4 A)) (t1 := 155) (c2 := (c4 B)) (t2 := 155) fun W0 bel k_t2 k_t3 => ?_
 have lt_t2_0 := Q7 k_t2
 have lt_t3_0 := Q7 k_t3
 have gf := Q9 hG bel
 have gm := gf.1
 have gi := gf.2
 have c_X1 := J76 A hA
 obtain ⟨X1, hX1⟩ := exn (A % PP)
 rw [← hX1] at c_X1
 have bX1 := J1u hX1
 have HX1 := Lib.hid hX1
 clear hX1
 have c_X2 := J76 B hB
 obtain ⟨X2, hX2⟩ := exn (B % PP)
 rw [← hX2] at c_X2
 have bX2 := J1u hX2
 have HX2 := Lib.hid hX2
 clear hX2
 have e_3 := Y89 X1 X2 bX1 bX2
 refine Rx 6 ?_
 refine XL ?_
 refine Xf ?_ (fun W hW => c_X1 W (Q9 gf hW))
 refine XL ?_
 refine Xf ?_ (fun W hW => c_X2 W (Q9 gf hW))
 ((with_reducible refine Z72 (e_3) ?_ ?_ rfl ?_ ?_ ?_); (focus kernel_rfl); (focus rfl); (focus rfl); (focus rfl); (try simp only [Act.put, mA, mB, mC]))
 refine Xv ?_
 refine Z4 fun W1 hE => ?_
 refine LN ?_
 replace k_t2 := J1 k_t2 hE
 replace k_t3 := J1 k_t3 hE
 replace bel := Z5 bel hE bel.size
 go_wp2
 rw [← HX1.out, ← HX2.out]
 refine bodyPost_ret (v := .bool (decide (X1 = X2))) (by simp only [results, Tryz.results151]; go_simp) rfl ⟨?_, bel⟩
 rfl
theorem Y8a (A : Nat) (hA : A < Z3) (h : A % PP % 2 = 0) (w : World) (hG : GF w) :
  Calls Tryz.prog 137 #[L4 A] w fun e w' => Ret (.bool false) w w' e := by
 go_enter Tryz.func137, Tryz.ntmps137
 go_upto_region 1 with fail
 refine wn1 (c1 := (c4 A)) (t1 := 155) fun W0 bel k_t1 => ?_
 have lt_t1_0 := Q7 k_t1
 have gf := Q9 hG bel
 have gm := gf.1
 have gi := gf.2
 have c_X1 := J76 A hA
 obtain ⟨X1, hX1⟩ := exn (A % PP)
 rw [← hX1] at c_X1
 have bX1 := J1u hX1
 have HX1 := Lib.hid hX1
 clear hX1
 have hix : ∀ W, (Instr.index 155 (.agg #[.int .u64 (V8 X1 0), .int .u64 (V8 X1 1), .int .u64 (V8 X1 2), .int .u64 (V8 X1 3)]) (.int .i64 0)).run Tryz.prog W = .ok (.int .u64 (V8 X1 0)) W := fun W => J1j W 155 71 4 .u64 .i64 (c4 X1) 0 (V8 X1 0) Tryz.underlying155 Tryz.underlying71 (by kernel_rfl) (by decide) (J4y X1 0 (by decide))
 have hod := Z37 X1
 rw [show X1 % 2 = 0 by rw [HX1.out]; exact h] at hod
 refine Px 6 ?_
 refine XL ?_
 refine Xf ?_ (fun W hW => c_X1 W (Q9 gf hW))
 refine Xv ?_
 refine Xv ?_
 refine Xv ?_
 refine Xv ?_
 refine Z4 fun W1 hE => ?_
 refine J3 ?_
 replace k_t1 := J1 k_t1 hE
 replace bel := Z5 bel hE bel.size
 go_wp2
 refine bodyPost_ret (v := .bool false) (by simp only [results, Tryz.results137]; go_simp) rfl ⟨?_, bel⟩
 rfl
theorem Y8b (A : Nat) (hA : A < Z3) (h : A % PP % 2 = 1) (w : World) (hG : GF w) :
  Calls Tryz.prog 137 #[L4 A] w fun e w' => Ret (.bool true) w w' e := by
 go_enter Tryz.func137, Tryz.ntmps137
 go_upto_region 1 with fail
 refine wn1 (c1 := (c4 A)) (t1 := 155) fun W0 bel k_t1 => ?_
 have lt_t1_0 := Q7 k_t1
 have gf := Q9 hG bel
 have gm := gf.1
 have gi := gf.2
 have c_X1 := J76 A hA
 obtain ⟨X1, hX1⟩ := exn (A % PP)
 rw [← hX1] at c_X1
 have bX1 := J1u hX1
 have HX1 := Lib.hid hX1
 clear hX1
 have hix : ∀ W, (Instr.index 155 (.agg #[.int .u64 (V8 X1 0), .int .u64 (V8 X1 1), .int .u64 (V8 X1 2), .int .u64 (V8 X1 3)]) (.int .i64 0)).run Tryz.prog W = .ok (.int .u64 (V8 X1 0)) W := fun W => J1j W 155 71 4 .u64 .i64 (c4 X1) 0 (V8 X1 0) Tryz.underlying155 Tryz.underlying71 (by kernel_rfl) (by decide) (J4y X1 0 (by decide))
 have hod := Z37 X1
 rw [show X1 % 2 = 1 by rw [HX1.out]; exact h] at hod
 refine Px 6 ?_
 refine XL ?_
 refine Xf ?_ (fun W hW => c_X1 W (Q9 gf hW))
 refine Xv ?_
 refine Xv ?_
 refine Xv ?_
 refine Xv ?_
 refine Z4 fun W1 hE => ?_
 refine J3 ?_
 replace k_t1 := J1 k_t1 hE
 replace bel := Z5 bel hE bel.size
 go_wp2
 refine bodyPost_ret (v := .bool true) (by simp only [results, Tryz.results137]; go_simp) rfl ⟨?_, bel⟩
 rfl
theorem Z15 (A : Nat) (hA : A < Z3) (w : World) (hG : GF w) : Calls Tryz.prog 137 #[L4 A] w fun e w' => Ret (.bool (decide (A % PP % 2 = 1))) w w' e := by
  rcases Nat.mod_two_eq_zero_or_one (A % PP) with h | h
  · rw [h]; exact Y8a A hA h w hG
  rw [h]; exact Y8b A hA h w hG
def v3 (v : Nat) : Nat := v * v % PP * v % PP
def v7 (v : Nat) : Nat := v3 v * v3 v % PP * v % PP
def rtX (u v : Nat) : Nat := u * v3 v % PP * pw (u * v7 v % PP) 7237005577332262213973186563042994240829374041602535252466099000494570602493 % PP
def rtW (u v : Nat) : Nat := v * (rtX u v * rtX u v % PP) % PP
def rtR (u v : Nat) : Nat := if rtW u v = u % PP then rtX u v else if rtW u v = (PP - u % PP) % PP then rtX u v * II % PP else 0
def rtB (u v : Nat) : Bool := decide (rtW u v = u % PP) || decide (rtW u v = (PP - u % PP) % PP)
theorem Q1b (u v : Nat) : rtW u v % PP = rtW u v := by unfold rtW; exact Nat.mod_mod _ _
theorem Y2v (A B : Nat) (hA : A < Z3) (hB : B < Z3) (h1 : rtW A B = A % PP) (w : World) (hG : GF w) (hI : GI w) :
  Calls Tryz.prog 147 #[L4 A, L4 B] w fun e w' => Ret (.tuple #[L4 (rtX A B), .bool true]) w w' e := by
 go_enter Tryz.func147, Tryz.ntmps147
 go_upto_region 1 with fail
 refine wn3 (c1 := (c4 A)) (t1 := 155) (c2 := (c4 B)) (t2 := 155) (c3 := #[.int .u64 0, .int .u64 0, .int .u64 0, .int .u64 0]) (t3 := 155) fun W0 bel k_t2 k_t3 k_t4 => ?_
 have lt_t2_0 := Q7 k_t2
 have lt_t3_0 := Q7 k_t3
 have lt_t4_0 := Q7 k_t4
 have gf := Q9 hG bel
 have gm := gf.1
 have gi : Rd _ 12 imaC := Rd.ext hI bel
 have c_X1 := Y9 B B hB hB
 obtain ⟨X1, hX1⟩ := exn (B * B % PP)
 rw [← hX1] at c_X1
 have bX1 := J1u hX1
 have HX1 := Lib.hid hX1
 clear hX1
 have c_X2 := Y9 X1 B bX1 hB
 obtain ⟨X2, hX2⟩ := exn (X1 * B % PP)
 rw [← hX2] at c_X2
 have bX2 := J1u hX2
 have HX2 := Lib.hid hX2
 clear hX2
 refine Rx1 5 6 (z := #[.int .u64 0, .int .u64 0, .int .u64 0, .int .u64 0]) (t := 155) ?_
 refine XL ?_
 refine XL ?_
 refine Xf ?_ (fun W hW => c_X1 W (Q9 gf hW))
 refine XL ?_
 refine Xf ?_ (fun W hW => c_X2 W (Q9 gf hW))
 refine XN ?_
 intro Q9h W1 n_t6_1 hE k_t6
 have sz_1 := bel.size
 skip
 refine Lp ?_ k_t6 (cells := c4 X2)
 intro W2 hO h_
 refine LN ?_
 replace k_t2 := ko k_t2 hE hO (by omega)
 replace k_t3 := ko k_t3 hE hO (by omega)
 replace k_t4 := ko k_t4 hE hO (by omega)
 replace k_t6 := h_
 replace bel := bwo bel hE hO bel.size (by omega)
 clear hO h_
 go_upto_region 2 with fail
 have lt_t6_2 := Q7 k_t6
 have gf := Q9 hG bel
 have gm := gf.1
 have gi : Rd _ 12 imaC := Rd.ext hI bel
 have c_X3 := Y9 X2 X2 bX2 bX2
 obtain ⟨X3, hX3⟩ := exn (X2 * X2 % PP)
 rw [← hX3] at c_X3
 have bX3 := J1u hX3
 have HX3 := Lib.hid hX3
 clear hX3
 have c_X4 := Y9 X3 B bX3 hB
 obtain ⟨X4, hX4⟩ := exn (X3 * B % PP)
 rw [← hX4] at c_X4
 have bX4 := J1u hX4
 have HX4 := Lib.hid hX4
 clear hX4
 refine Rx1 5 7 (z := #[.int .u64 0, .int .u64 0, .int .u64 0, .int .u64 0]) (t := 155) ?_
 refine XL ?_
 refine XL ?_
 refine Xf ?_ (fun W hW => c_X3 W (Q9 gf hW))
 refine XL ?_
 refine Xf ?_ (fun W hW => c_X4 W (Q9 gf hW))
 refine XN ?_
 intro Z87 W3 n_t7_3 hE k_t7
 have sz_3 := bel.size
 skip
 refine Lp ?_ k_t7 (cells := c4 X4)
 intro W4 hO h_
 refine LN ?_
 replace k_t2 := ko k_t2 hE hO (by omega)
 replace k_t3 := ko k_t3 hE hO (by omega)
 replace k_t4 := ko k_t4 hE hO (by omega)
 replace k_t6 := ko k_t6 hE hO (by omega)
 replace k_t7 := h_
 replace bel := bwo bel hE hO bel.size (by omega)
 clear hO h_
 go_upto_region 3 with fail
 have lt_t7_4 := Q7 k_t7
 have gf := Q9 hG bel
 have gm := gf.1
 have gi : Rd _ 12 imaC := Rd.ext hI bel
 have c_X5 := Y9 A X2 hA bX2
 obtain ⟨X5, hX5⟩ := exn (A * X2 % PP)
 rw [← hX5] at c_X5
 have bX5 := J1u hX5
 have HX5 := Lib.hid hX5
 clear hX5
 have c_X6 := Y9 A X4 hA bX4
 obtain ⟨X6, hX6⟩ := exn (A * X4 % PP)
 rw [← hX6] at c_X6
 have bX6 := J1u hX6
 have HX6 := Lib.hid hX6
 clear hX6
 have c_X7 := Q7p X6 7237005577332262213973186563042994240829374041602535252466099000494570602493 bX6 (by decide)
 obtain ⟨X7, hX7⟩ := exn (pw X6 7237005577332262213973186563042994240829374041602535252466099000494570602493)
 rw [← hX7] at c_X7
 have bX7 : X7 < Z3 := by rw [hX7]; exact Q9l _ _
 have HX7 := Lib.hid hX7
 clear hX7
 have c_X8 := Y9 X5 X7 bX5 bX7
 obtain ⟨X8, hX8⟩ := exn (X5 * X7 % PP)
 rw [← hX8] at c_X8
 have bX8 := J1u hX8
 have HX8 := Lib.hid hX8
 clear hX8
 refine Rx1 9 8 (z := #[.int .u64 0, .int .u64 0, .int .u64 0, .int .u64 0]) (t := 155) ?_
 refine XL ?_
 refine XL ?_
 refine Xf ?_ (fun W hW => c_X5 W (Q9 gf hW))
 refine XL ?_
 refine XL ?_
 refine Xf ?_ (fun W hW => c_X6 W (Q9 gf hW))
 refine Xv ?_
 refine Xf ?_ (fun W hW => c_X7 W (Q9 gf hW))
 refine Xf ?_ (fun W hW => c_X8 W (Q9 gf hW))
 refine XN ?_
 intro Z88 W5 n_t8_5 hE k_t8
 have sz_5 := bel.size
 skip
 refine Lp ?_ k_t8 (cells := c4 X8)
 intro W6 hO h_
 refine LN ?_
 replace k_t2 := ko k_t2 hE hO (by omega)
 replace k_t3 := ko k_t3 hE hO (by omega)
 replace k_t4 := ko k_t4 hE hO (by omega)
 replace k_t6 := ko k_t6 hE hO (by omega)
 replace k_t7 := ko k_t7 hE hO (by omega)
 replace k_t8 := h_
 replace bel := bwo bel hE hO bel.size (by omega)
 clear hO h_
 go_upto_region 4 with fail
 have lt_t8_6 := Q7 k_t8
 have gf := Q9 hG bel
 have gm := gf.1
 have gi : Rd _ 12 imaC := Rd.ext hI bel
 have c_X9 := Y9 X8 X8 bX8 bX8
 obtain ⟨X9, hX9⟩ := exn (X8 * X8 % PP)
 rw [← hX9] at c_X9
 have bX9 := J1u hX9
 have HX9 := Lib.hid hX9
 clear hX9
 have c_X10 := Y9 B X9 hB bX9
 obtain ⟨X10, hX10⟩ := exn (B * X9 % PP)
 rw [← hX10] at c_X10
 have bX10 := J1u hX10
 have HX10 := Lib.hid hX10
 clear hX10
 refine Rx1 5 9 (z := #[.int .u64 0, .int .u64 0, .int .u64 0, .int .u64 0]) (t := 155) ?_
 refine XL ?_
 refine XL ?_
 refine XL ?_
 refine Xf ?_ (fun W hW => c_X9 W (Q9 gf hW))
 refine Xf ?_ (fun W hW => c_X10 W (Q9 gf hW))
 refine XN ?_
 intro Q5m W7 n_t9_7 hE k_t9
 have sz_7 := bel.size
 skip
 refine Lp ?_ k_t9 (cells := c4 X10)
 intro W8 hO h_
 refine LN ?_
 replace k_t2 := ko k_t2 hE hO (by omega)
 replace k_t3 := ko k_t3 hE hO (by omega)
 replace k_t4 := ko k_t4 hE hO (by omega)
 replace k_t6 := ko k_t6 hE hO (by omega)
 replace k_t7 := ko k_t7 hE hO (by omega)
 replace k_t8 := ko k_t8 hE hO (by omega)
 replace k_t9 := h_
 replace bel := bwo bel hE hO bel.size (by omega)
 clear hO h_
 go_upto_region 5 with fail
 have lt_t9_8 := Q7 k_t9
 have gf := Q9 hG bel
 have gm := gf.1
 have gi : Rd _ 12 imaC := Rd.ext hI bel
 have hw : X10 = rtW A B := by rw [HX10.out, HX9.out, HX8.out, HX7.out, HX6.out, HX5.out, HX4.out, HX3.out, HX2.out, HX1.out]; rfl
 have c_m11 := J8b X10 A bX10 hA
 rw [hw, Q1b, decide_eq_true h1, ← hw] at c_m11
 have HW := Lib.hid hw
 clear hw
 refine Px 4 ?_
 refine XL ?_
 refine XL ?_
 refine Xf ?_ (fun W hW => c_m11 W (Q9 gf hW))
 refine Xv ?_
 refine Z4 fun W9 hE => ?_
 refine J3 ?_
 replace k_t2 := J1 k_t2 hE
 replace k_t3 := J1 k_t3 hE
 replace k_t4 := J1 k_t4 hE
 replace k_t6 := J1 k_t6 hE
 replace k_t7 := J1 k_t7 hE
 replace k_t8 := J1 k_t8 hE
 replace k_t9 := J1 k_t9 hE
 replace bel := Z5 bel hE bel.size
 go_upto_region 6 with fail
 have lt_t9_9 := Q7 k_t9
 have gf := Q9 hG bel
 have gm := gf.1
 have gi : Rd _ 12 imaC := Rd.ext hI bel
 refine Px 1 ?_
 refine XL ?_
 refine Z4 fun W10 hE => ?_
 refine LS ?_ (J1 k_t4 hE) (g := (w.heap.size + 2)) (cells := c4 X8)
 refine Lv ?_
 refine J3 ?_
 have hF : Below w.heap.size w (W10.setRow (w.heap.size + 2) (c4 X8)) ∧ Blk (W10.setRow (w.heap.size + 2) (c4 X8)) w.heap.size (c4 A) 155 ∧ Blk (W10.setRow (w.heap.size + 2) (c4 X8)) (w.heap.size + 1) (c4 B) 155 ∧ Blk (W10.setRow (w.heap.size + 2) (c4 X8)) (w.heap.size + 2) (c4 X8) 155 ∧ Blk (W10.setRow (w.heap.size + 2) (c4 X8)) Q9h (c4 X2) 155 ∧ Blk (W10.setRow (w.heap.size + 2) (c4 X8)) Z87 (c4 X4) 155 ∧ Blk (W10.setRow (w.heap.size + 2) (c4 X8)) Z88 (c4 X8) 155 ∧ Blk (W10.setRow (w.heap.size + 2) (c4 X8)) Q5m (c4 X10) 155 := ⟨(Z9 (Z5 bel hE bel.size) (by omega) _), (Q1 (J1 k_t2 hE) (by omega) _), (Q1 (J1 k_t3 hE) (by omega) _), (Y8 (J1 k_t4 hE) (c4 X8)), (Q1 (J1 k_t6 hE) (by omega) _), (Q1 (J1 k_t7 hE) (by omega) _), (Q1 (J1 k_t8 hE) (by omega) _), (Q1 (J1 k_t9 hE) (by omega) _)⟩
 generalize (W10.setRow (w.heap.size + 2) (c4 X8)) = W11 at hF ⊢
 clear bel k_t2 k_t3 k_t4 k_t6 k_t7 k_t8 k_t9
 obtain ⟨bel, k_t2, k_t3, k_t4, k_t6, k_t7, k_t8, k_t9⟩ := hF
 go_wp2
 refine bodyPost_ret (J2q rfl rfl rfl k_t4 (by kernel_rfl) (by kernel_rfl)) rfl ⟨?_, bel⟩
 rw [HX8.out, HX7.out, HX6.out, HX5.out, HX4.out, HX3.out, HX2.out, HX1.out]; rfl
theorem Y2w (A B : Nat) (hA : A < Z3) (hB : B < Z3) (h1 : ¬ rtW A B = A % PP) (h2 : rtW A B = (PP - A % PP) % PP) (w : World) (hG : GF w) (hI : GI w) :
  Calls Tryz.prog 147 #[L4 A, L4 B] w fun e w' => Ret (.tuple #[L4 (rtX A B * II % PP), .bool true]) w w' e := by
 go_enter Tryz.func147, Tryz.ntmps147
 go_upto_region 1 with fail
 refine wn3 (c1 := (c4 A)) (t1 := 155) (c2 := (c4 B)) (t2 := 155) (c3 := #[.int .u64 0, .int .u64 0, .int .u64 0, .int .u64 0]) (t3 := 155) fun W0 bel k_t2 k_t3 k_t4 => ?_
 have lt_t2_0 := Q7 k_t2
 have lt_t3_0 := Q7 k_t3
 have lt_t4_0 := Q7 k_t4
 have gf := Q9 hG bel
 have gm := gf.1
 have gi : Rd _ 12 imaC := Rd.ext hI bel
 have c_X1 := Y9 B B hB hB
 obtain ⟨X1, hX1⟩ := exn (B * B % PP)
 rw [← hX1] at c_X1
 have bX1 := J1u hX1
 have HX1 := Lib.hid hX1
 clear hX1
 have c_X2 := Y9 X1 B bX1 hB
 obtain ⟨X2, hX2⟩ := exn (X1 * B % PP)
 rw [← hX2] at c_X2
 have bX2 := J1u hX2
 have HX2 := Lib.hid hX2
 clear hX2
 refine Rx1 5 6 (z := #[.int .u64 0, .int .u64 0, .int .u64 0, .int .u64 0]) (t := 155) ?_
 refine XL ?_
 refine XL ?_
 refine Xf ?_ (fun W hW => c_X1 W (Q9 gf hW))
 refine XL ?_
 refine Xf ?_ (fun W hW => c_X2 W (Q9 gf hW))
 refine XN ?_
 intro Q9h W1 n_t6_1 hE k_t6
 have sz_1 := bel.size
 skip
 refine Lp ?_ k_t6 (cells := c4 X2)
 intro W2 hO h_
 refine LN ?_
 replace k_t2 := ko k_t2 hE hO (by omega)
 replace k_t3 := ko k_t3 hE hO (by omega)
 replace k_t4 := ko k_t4 hE hO (by omega)
 replace k_t6 := h_
 replace bel := bwo bel hE hO bel.size (by omega)
 clear hO h_
 go_upto_region 2 with fail
 have lt_t6_2 := Q7 k_t6
 have gf := Q9 hG bel
 have gm := gf.1
 have gi : Rd _ 12 imaC := Rd.ext hI bel
 have c_X3 := Y9 X2 X2 bX2 bX2
 obtain ⟨X3, hX3⟩ := exn (X2 * X2 % PP)
 rw [← hX3] at c_X3
 have bX3 := J1u hX3
 have HX3 := Lib.hid hX3
 clear hX3
 have c_X4 := Y9 X3 B bX3 hB
 obtain ⟨X4, hX4⟩ := exn (X3 * B % PP)
 rw [← hX4] at c_X4
 have bX4 := J1u hX4
 have HX4 := Lib.hid hX4
 clear hX4
 refine Rx1 5 7 (z := #[.int .u64 0, .int .u64 0, .int .u64 0, .int .u64 0]) (t := 155) ?_
 refine XL ?_
 refine XL ?_
 refine Xf ?_ (fun W hW => c_X3 W (Q9 gf hW))
 refine XL ?_
 refine Xf ?_ (fun W hW => c_X4 W (Q9 gf hW))
 refine XN ?_
 intro Z87 W3 n_t7_3 hE k_t7
 have sz_3 := bel.size
 skip
 refine Lp ?_ k_t7 (cells := c4 X4)
 intro W4 hO h_
 refine LN ?_
 replace k_t2 := ko k_t2 hE hO (by omega)
 replace k_t3 := ko k_t3 hE hO (by omega)
 replace k_t4 := ko k_t4 hE hO (by omega)
 replace k_t6 := ko k_t6 hE hO (by omega)
 replace k_t7 := h_
 replace bel := bwo bel hE hO bel.size (by omega)
 clear hO h_
 go_upto_region 3 with fail
 have lt_t7_4 := Q7 k_t7
 have gf := Q9 hG bel
 have gm := gf.1
 have gi : Rd _ 12 imaC := Rd.ext hI bel
 have c_X5 := Y9 A X2 hA bX2
 obtain ⟨X5, hX5⟩ := exn (A * X2 % PP)
 rw [← hX5] at c_X5
 have bX5 := J1u hX5
 have HX5 := Lib.hid hX5
 clear hX5
 have c_X6 := Y9 A X4 hA bX4
 obtain ⟨X6, hX6⟩ := exn (A * X4 % PP)
 rw [← hX6] at c_X6
 have bX6 := J1u hX6
 have HX6 := Lib.hid hX6
 clear hX6
 have c_X7 := Q7p X6 7237005577332262213973186563042994240829374041602535252466099000494570602493 bX6 (by decide)
 obtain ⟨X7, hX7⟩ := exn (pw X6 7237005577332262213973186563042994240829374041602535252466099000494570602493)
 rw [← hX7] at c_X7
 have bX7 : X7 < Z3 := by rw [hX7]; exact Q9l _ _
 have HX7 := Lib.hid hX7
 clear hX7
 have c_X8 := Y9 X5 X7 bX5 bX7
 obtain ⟨X8, hX8⟩ := exn (X5 * X7 % PP)
 rw [← hX8] at c_X8
 have bX8 := J1u hX8
 have HX8 := Lib.hid hX8
 clear hX8
 refine Rx1 9 8 (z := #[.int .u64 0, .int .u64 0, .int .u64 0, .int .u64 0]) (t := 155) ?_
 refine XL ?_
 refine XL ?_
 refine Xf ?_ (fun W hW => c_X5 W (Q9 gf hW))
 refine XL ?_
 refine XL ?_
 refine Xf ?_ (fun W hW => c_X6 W (Q9 gf hW))
 refine Xv ?_
 refine Xf ?_ (fun W hW => c_X7 W (Q9 gf hW))
 refine Xf ?_ (fun W hW => c_X8 W (Q9 gf hW))
 refine XN ?_
 intro Z88 W5 n_t8_5 hE k_t8
 have sz_5 := bel.size
 skip
 refine Lp ?_ k_t8 (cells := c4 X8)
 intro W6 hO h_
 refine LN ?_
 replace k_t2 := ko k_t2 hE hO (by omega)
 replace k_t3 := ko k_t3 hE hO (by omega)
 replace k_t4 := ko k_t4 hE hO (by omega)
 replace k_t6 := ko k_t6 hE hO (by omega)
 replace k_t7 := ko k_t7 hE hO (by omega)
 replace k_t8 := h_
 replace bel := bwo bel hE hO bel.size (by omega)
 clear hO h_
 go_upto_region 4 with fail
 have lt_t8_6 := Q7 k_t8
 have gf := Q9 hG bel
 have gm := gf.1
 have gi : Rd _ 12 imaC := Rd.ext hI bel
 have c_X9 := Y9 X8 X8 bX8 bX8
 obtain ⟨X9, hX9⟩ := exn (X8 * X8 % PP)
 rw [← hX9] at c_X9
 have bX9 := J1u hX9
 have HX9 := Lib.hid hX9
 clear hX9
 have c_X10 := Y9 B X9 hB bX9
 obtain ⟨X10, hX10⟩ := exn (B * X9 % PP)
 rw [← hX10] at c_X10
 have bX10 := J1u hX10
 have HX10 := Lib.hid hX10
 clear hX10
 refine Rx1 5 9 (z := #[.int .u64 0, .int .u64 0, .int .u64 0, .int .u64 0]) (t := 155) ?_
 refine XL ?_
 refine XL ?_
 refine XL ?_
 refine Xf ?_ (fun W hW => c_X9 W (Q9 gf hW))
 refine Xf ?_ (fun W hW => c_X10 W (Q9 gf hW))
 refine XN ?_
 intro Q5m W7 n_t9_7 hE k_t9
 have sz_7 := bel.size
 skip
 refine Lp ?_ k_t9 (cells := c4 X10)
 intro W8 hO h_
 refine LN ?_
 replace k_t2 := ko k_t2 hE hO (by omega)
 replace k_t3 := ko k_t3 hE hO (by omega)
 replace k_t4 := ko k_t4 hE hO (by omega)
 replace k_t6 := ko k_t6 hE hO (by omega)
 replace k_t7 := ko k_t7 hE hO (by omega)
 replace k_t8 := ko k_t8 hE hO (by omega)
 replace k_t9 := h_
 replace bel := bwo bel hE hO bel.size (by omega)
 clear hO h_
 go_upto_region 5 with fail
 have lt_t9_8 := Q7 k_t9
 have gf := Q9 hG bel
 have gm := gf.1
 have gi : Rd _ 12 imaC := Rd.ext hI bel
 have hw : X10 = rtW A B := by rw [HX10.out, HX9.out, HX8.out, HX7.out, HX6.out, HX5.out, HX4.out, HX3.out, HX2.out, HX1.out]; rfl
 have c_m11 := J8b X10 A bX10 hA
 rw [hw, Q1b, decide_eq_false h1, ← hw] at c_m11
 have HW := Lib.hid hw
 clear hw
 refine Px 4 ?_
 refine XL ?_
 refine XL ?_
 refine Xf ?_ (fun W hW => c_m11 W (Q9 gf hW))
 refine Xv ?_
 refine Z4 fun W9 hE => ?_
 refine J3 ?_
 replace k_t2 := J1 k_t2 hE
 replace k_t3 := J1 k_t3 hE
 replace k_t4 := J1 k_t4 hE
 replace k_t6 := J1 k_t6 hE
 replace k_t7 := J1 k_t7 hE
 replace k_t8 := J1 k_t8 hE
 replace k_t9 := J1 k_t9 hE
 replace bel := Z5 bel hE bel.size
 go_upto_region 7 with fail
 have lt_t9_9 := Q7 k_t9
 have gf := Q9 hG bel
 have gm := gf.1
 have gi : Rd _ 12 imaC := Rd.ext hI bel
 have c_X12 := Q0m A hA
 obtain ⟨X12, hX12⟩ := exn ((PP - A % PP) % PP)
 rw [← hX12] at c_X12
 have bX12 := J1u hX12
 have HX12 := Lib.hid hX12
 clear hX12
 have c_m13 := J8b X10 X12 bX10 bX12
 have e2 : X12 = (PP - A % PP) % PP := HX12.out
 rw [HW.out, Q1b, e2, Nat.mod_mod, decide_eq_true h2, ← HW.out, ← e2] at c_m13
 clear e2
 refine Rx 5 ?_
 refine XL ?_
 refine XL ?_
 refine Xf ?_ (fun W hW => c_X12 W (Q9 gf hW))
 refine Xf ?_ (fun W hW => c_m13 W (Q9 gf hW))
 refine Xv ?_
 refine Z4 fun W10 hE => ?_
 refine LN ?_
 replace k_t2 := J1 k_t2 hE
 replace k_t3 := J1 k_t3 hE
 replace k_t4 := J1 k_t4 hE
 replace k_t6 := J1 k_t6 hE
 replace k_t7 := J1 k_t7 hE
 replace k_t8 := J1 k_t8 hE
 replace k_t9 := J1 k_t9 hE
 replace bel := Z5 bel hE bel.size
 go_upto_region 8 with fail
 have lt_t9_10 := Q7 k_t9
 have gf := Q9 hG bel
 have gm := gf.1
 have gi : Rd _ 12 imaC := Rd.ext hI bel
 have c_X14 := Y9 X8 II bX8 V2l
 obtain ⟨X14, hX14⟩ := exn (X8 * II % PP)
 rw [← hX14] at c_X14
 have bX14 := J1u hX14
 have HX14 := Lib.hid hX14
 clear hX14
 refine Px 3 ?_
 refine XL ?_
 refine XL ?_
 refine Xf ?_ (fun W hW => c_X14 W (Q9 gf hW))
 refine Z4 fun W11 hE => ?_
 refine LS ?_ (J1 k_t4 hE) (g := (w.heap.size + 2)) (cells := c4 X14)
 refine Lv ?_
 refine J3 ?_
 have hF : Below w.heap.size w (W11.setRow (w.heap.size + 2) (c4 X14)) ∧ Blk (W11.setRow (w.heap.size + 2) (c4 X14)) w.heap.size (c4 A) 155 ∧ Blk (W11.setRow (w.heap.size + 2) (c4 X14)) (w.heap.size + 1) (c4 B) 155 ∧ Blk (W11.setRow (w.heap.size + 2) (c4 X14)) (w.heap.size + 2) (c4 X14) 155 ∧ Blk (W11.setRow (w.heap.size + 2) (c4 X14)) Q9h (c4 X2) 155 ∧ Blk (W11.setRow (w.heap.size + 2) (c4 X14)) Z87 (c4 X4) 155 ∧ Blk (W11.setRow (w.heap.size + 2) (c4 X14)) Z88 (c4 X8) 155 ∧ Blk (W11.setRow (w.heap.size + 2) (c4 X14)) Q5m (c4 X10) 155 := ⟨(Z9 (Z5 bel hE bel.size) (by omega) _), (Q1 (J1 k_t2 hE) (by omega) _), (Q1 (J1 k_t3 hE) (by omega) _), (Y8 (J1 k_t4 hE) (c4 X14)), (Q1 (J1 k_t6 hE) (by omega) _), (Q1 (J1 k_t7 hE) (by omega) _), (Q1 (J1 k_t8 hE) (by omega) _), (Q1 (J1 k_t9 hE) (by omega) _)⟩
 generalize (W11.setRow (w.heap.size + 2) (c4 X14)) = W12 at hF ⊢
 clear bel k_t2 k_t3 k_t4 k_t6 k_t7 k_t8 k_t9
 obtain ⟨bel, k_t2, k_t3, k_t4, k_t6, k_t7, k_t8, k_t9⟩ := hF
 go_wp2
 refine bodyPost_ret (J2q rfl rfl rfl k_t4 (by kernel_rfl) (by kernel_rfl)) rfl ⟨?_, bel⟩
 rw [HX14.out, HX8.out, HX7.out, HX6.out, HX5.out, HX4.out, HX3.out, HX2.out, HX1.out]; rfl
theorem Y2x (A B : Nat) (hA : A < Z3) (hB : B < Z3) (h1 : ¬ rtW A B = A % PP) (h2 : ¬ rtW A B = (PP - A % PP) % PP) (w : World) (hG : GF w) (hI : GI w) :
  Calls Tryz.prog 147 #[L4 A, L4 B] w fun e w' => Ret (.tuple #[L4 0, .bool false]) w w' e := by
 go_enter Tryz.func147, Tryz.ntmps147
 go_upto_region 1 with fail
 refine wn3 (c1 := (c4 A)) (t1 := 155) (c2 := (c4 B)) (t2 := 155) (c3 := #[.int .u64 0, .int .u64 0, .int .u64 0, .int .u64 0]) (t3 := 155) fun W0 bel k_t2 k_t3 k_t4 => ?_
 have lt_t2_0 := Q7 k_t2
 have lt_t3_0 := Q7 k_t3
 have lt_t4_0 := Q7 k_t4
 have gf := Q9 hG bel
 have gm := gf.1
 have gi : Rd _ 12 imaC := Rd.ext hI bel
 have c_X1 := Y9 B B hB hB
 obtain ⟨X1, hX1⟩ := exn (B * B % PP)
 rw [← hX1] at c_X1
 have bX1 := J1u hX1
 have HX1 := Lib.hid hX1
 clear hX1
 have c_X2 := Y9 X1 B bX1 hB
 obtain ⟨X2, hX2⟩ := exn (X1 * B % PP)
 rw [← hX2] at c_X2
 have bX2 := J1u hX2
 have HX2 := Lib.hid hX2
 clear hX2
 refine Rx1 5 6 (z := #[.int .u64 0, .int .u64 0, .int .u64 0, .int .u64 0]) (t := 155) ?_
 refine XL ?_
 refine XL ?_
 refine Xf ?_ (fun W hW => c_X1 W (Q9 gf hW))
 refine XL ?_
 refine Xf ?_ (fun W hW => c_X2 W (Q9 gf hW))
 refine XN ?_
 intro Q9h W1 n_t6_1 hE k_t6
 have sz_1 := bel.size
 skip
 refine Lp ?_ k_t6 (cells := c4 X2)
 intro W2 hO h_
 refine LN ?_
 replace k_t2 := ko k_t2 hE hO (by omega)
 replace k_t3 := ko k_t3 hE hO (by omega)
 replace k_t4 := ko k_t4 hE hO (by omega)
 replace k_t6 := h_
 replace bel := bwo bel hE hO bel.size (by omega)
 clear hO h_
 go_upto_region 2 with fail
 have lt_t6_2 := Q7 k_t6
 have gf := Q9 hG bel
 have gm := gf.1
 have gi : Rd _ 12 imaC := Rd.ext hI bel
 have c_X3 := Y9 X2 X2 bX2 bX2
 obtain ⟨X3, hX3⟩ := exn (X2 * X2 % PP)
 rw [← hX3] at c_X3
 have bX3 := J1u hX3
 have HX3 := Lib.hid hX3
 clear hX3
 have c_X4 := Y9 X3 B bX3 hB
 obtain ⟨X4, hX4⟩ := exn (X3 * B % PP)
 rw [← hX4] at c_X4
 have bX4 := J1u hX4
 have HX4 := Lib.hid hX4
 clear hX4
 refine Rx1 5 7 (z := #[.int .u64 0, .int .u64 0, .int .u64 0, .int .u64 0]) (t := 155) ?_
 refine XL ?_
 refine XL ?_
 refine Xf ?_ (fun W hW => c_X3 W (Q9 gf hW))
 refine XL ?_
 refine Xf ?_ (fun W hW => c_X4 W (Q9 gf hW))
 refine XN ?_
 intro Z87 W3 n_t7_3 hE k_t7
 have sz_3 := bel.size
 skip
 refine Lp ?_ k_t7 (cells := c4 X4)
 intro W4 hO h_
 refine LN ?_
 replace k_t2 := ko k_t2 hE hO (by omega)
 replace k_t3 := ko k_t3 hE hO (by omega)
 replace k_t4 := ko k_t4 hE hO (by omega)
 replace k_t6 := ko k_t6 hE hO (by omega)
 replace k_t7 := h_
 replace bel := bwo bel hE hO bel.size (by omega)
 clear hO h_
 go_upto_region 3 with fail
 have lt_t7_4 := Q7 k_t7
 have gf := Q9 hG bel
 have gm := gf.1
 have gi : Rd _ 12 imaC := Rd.ext hI bel
 have c_X5 := Y9 A X2 hA bX2
 obtain ⟨X5, hX5⟩ := exn (A * X2 % PP)
 rw [← hX5] at c_X5
 have bX5 := J1u hX5
 have HX5 := Lib.hid hX5
 clear hX5
 have c_X6 := Y9 A X4 hA bX4
 obtain ⟨X6, hX6⟩ := exn (A * X4 % PP)
 rw [← hX6] at c_X6
 have bX6 := J1u hX6
 have HX6 := Lib.hid hX6
 clear hX6
 have c_X7 := Q7p X6 7237005577332262213973186563042994240829374041602535252466099000494570602493 bX6 (by decide)
 obtain ⟨X7, hX7⟩ := exn (pw X6 7237005577332262213973186563042994240829374041602535252466099000494570602493)
 rw [← hX7] at c_X7
 have bX7 : X7 < Z3 := by rw [hX7]; exact Q9l _ _
 have HX7 := Lib.hid hX7
 clear hX7
 have c_X8 := Y9 X5 X7 bX5 bX7
 obtain ⟨X8, hX8⟩ := exn (X5 * X7 % PP)
 rw [← hX8] at c_X8
 have bX8 := J1u hX8
 have HX8 := Lib.hid hX8
 clear hX8
 refine Rx1 9 8 (z := #[.int .u64 0, .int .u64 0, .int .u64 0, .int .u64 0]) (t := 155) ?_
 refine XL ?_
 refine XL ?_
 refine Xf ?_ (fun W hW => c_X5 W (Q9 gf hW))
 refine XL ?_
 refine XL ?_
 refine Xf ?_ (fun W hW => c_X6 W (Q9 gf hW))
 refine Xv ?_
 refine Xf ?_ (fun W hW => c_X7 W (Q9 gf hW))
 refine Xf ?_ (fun W hW => c_X8 W (Q9 gf hW))
 refine XN ?_
 intro Z88 W5 n_t8_5 hE k_t8
 have sz_5 := bel.size
 skip
 refine Lp ?_ k_t8 (cells := c4 X8)
 intro W6 hO h_
 refine LN ?_
 replace k_t2 := ko k_t2 hE hO (by omega)
 replace k_t3 := ko k_t3 hE hO (by omega)
 replace k_t4 := ko k_t4 hE hO (by omega)
 replace k_t6 := ko k_t6 hE hO (by omega)
 replace k_t7 := ko k_t7 hE hO (by omega)
 replace k_t8 := h_
 replace bel := bwo bel hE hO bel.size (by omega)
 clear hO h_
 go_upto_region 4 with fail
 have lt_t8_6 := Q7 k_t8
 have gf := Q9 hG bel
 have gm := gf.1
 have gi : Rd _ 12 imaC := Rd.ext hI bel
 have c_X9 := Y9 X8 X8 bX8 bX8
 obtain ⟨X9, hX9⟩ := exn (X8 * X8 % PP)
 rw [← hX9] at c_X9
 have bX9 := J1u hX9
 have HX9 := Lib.hid hX9
 clear hX9
 have c_X10 := Y9 B X9 hB bX9
 obtain ⟨X10, hX10⟩ := exn (B * X9 % PP)
 rw [← hX10] at c_X10
 have bX10 := J1u hX10
 have HX10 := Lib.hid hX10
 clear hX10
 refine Rx1 5 9 (z := #[.int .u64 0, .int .u64 0, .int .u64 0, .int .u64 0]) (t := 155) ?_
 refine XL ?_
 refine XL ?_
 refine XL ?_
 refine Xf ?_ (fun W hW => c_X9 W (Q9 gf hW))
 refine Xf ?_ (fun W hW => c_X10 W (Q9 gf hW))
 refine XN ?_
 intro Q5m W7 n_t9_7 hE k_t9
 have sz_7 := bel.size
 skip
 refine Lp ?_ k_t9 (cells := c4 X10)
 intro W8 hO h_
 refine LN ?_
 replace k_t2 := ko k_t2 hE hO (by omega)
 replace k_t3 := ko k_t3 hE hO (by omega)
 replace k_t4 := ko k_t4 hE hO (by omega)
 replace k_t6 := ko k_t6 hE hO (by omega)
 replace k_t7 := ko k_t7 hE hO (by omega)
 replace k_t8 := ko k_t8 hE hO (by omega)
 replace k_t9 := h_
 replace bel := bwo bel hE hO bel.size (by omega)
 clear hO h_
 go_upto_region 5 with fail
 have lt_t9_8 := Q7 k_t9
 have gf := Q9 hG bel
 have gm := gf.1
 have gi : Rd _ 12 imaC := Rd.ext hI bel
 have hw : X10 = rtW A B := by rw [HX10.out, HX9.out, HX8.out, HX7.out, HX6.out, HX5.out, HX4.out, HX3.out, HX2.out, HX1.out]; rfl
 have c_m11 := J8b X10 A bX10 hA
 rw [hw, Q1b, decide_eq_false h1, ← hw] at c_m11
 have HW := Lib.hid hw
 clear hw
 refine Px 4 ?_
 refine XL ?_
 refine XL ?_
 refine Xf ?_ (fun W hW => c_m11 W (Q9 gf hW))
 refine Xv ?_
 refine Z4 fun W9 hE => ?_
 refine J3 ?_
 replace k_t2 := J1 k_t2 hE
 replace k_t3 := J1 k_t3 hE
 replace k_t4 := J1 k_t4 hE
 replace k_t6 := J1 k_t6 hE
 replace k_t7 := J1 k_t7 hE
 replace k_t8 := J1 k_t8 hE
 replace k_t9 := J1 k_t9 hE
 replace bel := Z5 bel hE bel.size
 go_upto_region 7 with fail
 have lt_t9_9 := Q7 k_t9
 have gf := Q9 hG bel
 have gm := gf.1
 have gi : Rd _ 12 imaC := Rd.ext hI bel
 have c_X12 := Q0m A hA
 obtain ⟨X12, hX12⟩ := exn ((PP - A % PP) % PP)
 rw [← hX12] at c_X12
 have bX12 := J1u hX12
 have HX12 := Lib.hid hX12
 clear hX12
 have c_m13 := J8b X10 X12 bX10 bX12
 have e2 : X12 = (PP - A % PP) % PP := HX12.out
 rw [HW.out, Q1b, e2, Nat.mod_mod, decide_eq_false h2, ← HW.out, ← e2] at c_m13
 clear e2
 refine Rx 5 ?_
 refine XL ?_
 refine XL ?_
 refine Xf ?_ (fun W hW => c_X12 W (Q9 gf hW))
 refine Xf ?_ (fun W hW => c_m13 W (Q9 gf hW))
 refine Xv ?_
 refine Z4 fun W10 hE => ?_
 refine LN ?_
 replace k_t2 := J1 k_t2 hE
 replace k_t3 := J1 k_t3 hE
 replace k_t4 := J1 k_t4 hE
 replace k_t6 := J1 k_t6 hE
 replace k_t7 := J1 k_t7 hE
 replace k_t8 := J1 k_t8 hE
 replace k_t9 := J1 k_t9 hE
 replace bel := Z5 bel hE bel.size
 go_upto_region 9 with fail
 have lt_t9_10 := Q7 k_t9
 have gf := Q9 hG bel
 have gm := gf.1
 have gi : Rd _ 12 imaC := Rd.ext hI bel
 refine Px 1 ?_
 refine Xv ?_
 refine Z4 fun W11 hE => ?_
 refine LS ?_ (J1 k_t4 hE) (g := (w.heap.size + 2)) (cells := c4 0)
 refine Lv ?_
 refine J3 ?_
 have hF : Below w.heap.size w (W11.setRow (w.heap.size + 2) (c4 0)) ∧ Blk (W11.setRow (w.heap.size + 2) (c4 0)) w.heap.size (c4 A) 155 ∧ Blk (W11.setRow (w.heap.size + 2) (c4 0)) (w.heap.size + 1) (c4 B) 155 ∧ Blk (W11.setRow (w.heap.size + 2) (c4 0)) (w.heap.size + 2) (c4 0) 155 ∧ Blk (W11.setRow (w.heap.size + 2) (c4 0)) Q9h (c4 X2) 155 ∧ Blk (W11.setRow (w.heap.size + 2) (c4 0)) Z87 (c4 X4) 155 ∧ Blk (W11.setRow (w.heap.size + 2) (c4 0)) Z88 (c4 X8) 155 ∧ Blk (W11.setRow (w.heap.size + 2) (c4 0)) Q5m (c4 X10) 155 := ⟨(Z9 (Z5 bel hE bel.size) (by omega) _), (Q1 (J1 k_t2 hE) (by omega) _), (Q1 (J1 k_t3 hE) (by omega) _), (Y8 (J1 k_t4 hE) (c4 0)), (Q1 (J1 k_t6 hE) (by omega) _), (Q1 (J1 k_t7 hE) (by omega) _), (Q1 (J1 k_t8 hE) (by omega) _), (Q1 (J1 k_t9 hE) (by omega) _)⟩
 generalize (W11.setRow (w.heap.size + 2) (c4 0)) = W12 at hF ⊢
 clear bel k_t2 k_t3 k_t4 k_t6 k_t7 k_t8 k_t9
 obtain ⟨bel, k_t2, k_t3, k_t4, k_t6, k_t7, k_t8, k_t9⟩ := hF
 go_wp2
 refine bodyPost_ret (J2q rfl rfl rfl k_t4 (by kernel_rfl) (by kernel_rfl)) rfl ⟨?_, bel⟩
 rfl
theorem Z38 (A B : Nat) (hA : A < Z3) (hB : B < Z3) (w : World) (hG : GF w) (hI : GI w) : Calls Tryz.prog 147 #[L4 A, L4 B] w fun e w' => Ret (.tuple #[L4 (rtR A B), .bool (rtB A B)]) w w' e := by
  unfold rtR rtB
  by_cases h1 : rtW A B = A % PP
  · rw [if_pos h1, decide_eq_true h1, Bool.true_or]; exact Y2v A B hA hB h1 w hG hI
  rw [if_neg h1, decide_eq_false h1, Bool.false_or]
  by_cases h2 : rtW A B = (PP - A % PP) % PP
  · rw [if_pos h2, decide_eq_true h2]; exact Y2w A B hA hB h1 h2 w hG hI
  rw [if_neg h2, decide_eq_false h2]; exact Y2x A B hA hB h1 h2 w hG hI
end

section
set_option maxHeartbeats 4000000
set_option maxRecDepth 100000
open Go.RowKit

theorem Q4e (V : Nat) : c4 V = J0 .u64 4 (V8 V) := rfl
theorem Z53 (N k q r : Nat) (hr : r < 8) (hk : k = 8 * q + r) : (J0 .u8 32 fun j => if j < k then Q5 N j else 0).setIfInBounds k (.int .u8 (V8 N q / 2 ^ (8 * r) % 256)) = J0 .u8 32 fun j => if j < k + 1 then Q5 N j else 0 := by
  subst hk
  rw [K0]
  apply J07
  intro j hj
  have hby := Z2f N (8 * q + r)
  rw [show (8 * q + r) / 8 = q by omega, show (8 * q + r) % 8 = r by omega] at hby
  unfold upd
  rw [hby]
  dsimp only
  by_cases h1 : j = 8 * q + r
  · subst h1; rw [if_pos (by omega), if_pos (by omega)]
  rw [if_neg h1]
  by_cases h2 : j < 8 * q + r
  · rw [if_pos h2, if_pos (by omega)]
  rw [if_neg h2, if_neg (by omega)]
theorem Q1c (bs : Nat → Int) (h : ∀ j, J86 (bs j)) (n q r : Nat) (hr : r < 8) :
    (J0 .u64 n (V8 (J0x bs (8 * q + r)))).setIfInBounds q (.int .u64 (bits .or .u64 (V8 (J0x bs (8 * q + r)) q) (IntKind.wrap .u64 (bs (8 * q + r) * 2 ^ (8 * r))))) = J0 .u64 n (V8 (J0x bs (8 * q + r + 1))) := by
  rw [Z2h bs h q r hr, K0]
  apply J07
  intro j _
  by_cases hj : j = q
  · subst hj; rw [J3p]
  rw [J0w _ _ _ _ hj, J8v bs h (8 * q + r) j (by omega)]
theorem Y2y (V : Nat) : bits .and .u64 (V8 V 3) 9223372036854775807 = V8 (V % 2 ^ 255) 3 := by
  obtain ⟨l0, l1⟩ := J0v V 3
  obtain ⟨X, hX⟩ := Int.eq_ofNat_of_zero_le l0
  have e2 : bits .and .u64 ((X : Nat) : Int) ((9223372036854775807 : Nat) : Int) = ((X % 9223372036854775808 : Nat) : Int) := by
    rw [bits_and_u64_nat _ _ (by omega) (by omega), show (9223372036854775807 : Nat) = 2 ^ 63 - 1 by decide, Nat.and_two_pow_sub_one_eq_mod]
  rw [hX]
  refine Eq.trans e2 ?_
  unfold V8 at hX ⊢
  simp only [Nat.reduceMul, Nat.reducePow] at *
  omega
theorem Z89 (V : Nat) : (c4 V).setIfInBounds 3 (.int .u64 (bits .and .u64 (V8 V 3) 9223372036854775807)) = c4 (V % 2 ^ 255) := by
  rw [Y2y, Q4e, Q4e, K0]
  apply J07
  intro j hj
  by_cases h3 : j = 3
  · subst h3; rw [J3p]
  rw [J0w _ _ _ _ h3]
  have : j = 0 ∨ j = 1 ∨ j = 2 := by omega
  unfold V8
  rcases this with rfl | rfl | rfl <;> simp only [Nat.reduceMul, Nat.reducePow] <;> omega

theorem Q4f (A : Nat) (hA : A < Z3) (w : World) (hG : GF w) :
  Calls Tryz.prog 135 #[L4 A] w fun e w' => Ret (.agg (J0 .u8 32 (Q5 (A % PP)))) w w' e := by
 go_enter Tryz.func135, Tryz.ntmps135
 go_upto_region 1 with fail
 refine wn2 (c1 := (c4 A)) (t1 := 155) (c2 := (J0 .u8 32 (fun _ => 0))) (t2 := 23) fun W0 bel k_t1 k_t2 => ?_
 have lt_t1_0 := Q7 k_t1
 have lt_t2_0 := Q7 k_t2
 have gf := Q9 hG bel
 have gm := gf.1
 have gi := gf.2
 have c_X1 := J76 A hA
 obtain ⟨X1, hX1⟩ := exn (A % PP)
 rw [← hX1] at c_X1
 have bX1 := J1u hX1
 have HX1 := Lib.hid hX1
 clear hX1
 refine Px 2 ?_
 refine XL ?_
 refine Xf ?_ (fun W hW => c_X1 W (Q9 gf hW))
 refine Z4 fun W1 hE => ?_
 refine LS ?_ (J1 k_t1 hE) (g := w.heap.size) (cells := c4 X1)
 refine J3 ?_
 have hF : Below w.heap.size w (W1.setRow w.heap.size (c4 X1)) ∧ Blk (W1.setRow w.heap.size (c4 X1)) w.heap.size (c4 X1) 155 ∧ Blk (W1.setRow w.heap.size (c4 X1)) (w.heap.size + 1) (J0 .u8 32 (fun _ => 0)) 23 := ⟨(Z9 (Z5 bel hE bel.size) (by omega) _), (Y8 (J1 k_t1 hE) (c4 X1)), (Q1 (J1 k_t2 hE) (by omega) _)⟩
 generalize (W1.setRow w.heap.size (c4 X1)) = W2 at hF ⊢
 clear bel k_t1 k_t2
 obtain ⟨bel, k_t1, k_t2⟩ := hF
 go_upto_region 2 with fail
 have lt_t1_2 := Q7 k_t1
 have lt_t2_2 := Q7 k_t2
 have gf := Q9 hG bel
 have gm := gf.1
 have gi := gf.2
 refine Px1 0 3 (z := J0 .u8 32 (fun _ => 0)) (t := 23) ?_
 refine XN ?_
 intro Z16 W3 n_t3_3 hE k_t3
 have sz_3 := bel.size
 skip
 refine J3 ?_
 have hF : Below w.heap.size w W3 ∧ Blk W3 w.heap.size (c4 X1) 155 ∧ Blk W3 (w.heap.size + 1) (J0 .u8 32 (fun _ => 0)) 23 ∧ Blk W3 Z16 (J0 .u8 32 (fun _ => 0)) 23 := ⟨(Z5 bel hE bel.size), (J1 k_t1 hE), (J1 k_t2 hE), k_t3⟩
 clear bel k_t1 k_t2 k_t3
 obtain ⟨bel, k_t1, k_t2, k_t3⟩ := hF
 have lt_t3_3 := Q7 k_t3
 go_wp2_with fail
 go_loopw [7] (fun ii wr => ∃ (k : Nat), k ≤ 32 ∧ ii = .int .i64 k ∧ Below w.heap.size w wr ∧ Blk wr w.heap.size (c4 X1) 155 ∧ Blk wr (w.heap.size + 1) (J0 .u8 32 (fun _ => 0)) 23 ∧ Blk wr Z16 (J0 .u8 32 (fun j => if j < k then Q5 X1 j else 0)) 23)
  (fun ii _ => (32 - intOf ii).toNat)
 case atStart =>
  exact ⟨0, by omega, rfl, bel, k_t1, k_t2, k_t3⟩
 case round =>
  obtain ⟨k, hk, rfl, bel, k_t1, k_t2, k_t3⟩ := hrel
  by_cases hexit : k = 32
  ·
   have _hx := hexit
   subst hexit
   go_upto_region 8 with fail
   have lt_t1_4 := Q7 k_t1
   have lt_t2_4 := Q7 k_t2
   have lt_t3_4 := Q7 k_t3
   have gf := Q9 hG bel
   have gm := gf.1
   have gi := gf.2
   refine Px 1 ?_
   refine XL ?_
   refine Z4 fun W5 hE => ?_
   refine Lp ?_ (J1 k_t2 hE) (cells := J0 .u8 32 (fun j => if j < 32 then Q5 X1 j else 0)) (h1 := (K3 _ _ _))
   intro W6 hO h_
   refine J3 ?_
   replace k_t1 := ko k_t1 hE hO (by omega)
   replace k_t2 := h_
   replace k_t3 := ko k_t3 hE hO (by omega)
   replace bel := bwo bel hE hO bel.size (by omega)
   clear hO h_
   go_wp2
   refine bodyPost_ret (Y0 rfl rfl k_t2 (by kernel_rfl) (by kernel_rfl)) rfl ⟨?_, bel⟩
   rw [J07 _ _ _ (Q5 X1) (fun i hi => if_pos hi), HX1.out]
  obtain ⟨q, r, hr, rfl⟩ : ∃ q r, r < 8 ∧ k = 8 * q + r := ⟨k / 8, k % 8, by omega, by omega⟩
  have d1 : (8 * (q : Int) + (r : Int)) / 8 = (q : Int) := by omega
  have d2 : (8 * (q : Int) + (r : Int)) % 8 = (r : Int) := by omega
  have hq1 : (q : Int) < 4 := by omega
  have hr1 : (r : Int) < 8 := by omega
  clear hexit
  have c0 := (Q6 k_t1 q).trans (J4y X1 q (by omega))
  have c3 := Q6 k_t3 (8 * q + r)
  rw [J6 _ _ _ _ (by omega)] at c3
  have f3 := J05 k_t3
  go_wp2
  have hs := J1q k_t3 (8 * q + r) (.int .u8 (V8 X1 q / 2 ^ (8 * r) % 256))
  rw [Z53 X1 (8 * q + r) q r hr rfl] at hs
  go_roundw
  case rel => exact ⟨8 * q + r + 1, by omega, by go_num, J4v bel (by omega) _ _, K9 k_t1 (by omega) _ _, K9 k_t2 (by omega) _ _, hs⟩
  case measure => simp [intOf]; omega
theorem Y5g (bs : Nat → Int) (hbs : ∀ j, J86 (bs j)) (w : World) (hG : GF w) :
  Calls Tryz.prog 146 #[.agg (J0 .u8 32 bs)] w fun e w' => Ret (L4 (J0x bs 32 % 2 ^ 255 % PP)) w w' e := by
 go_enter Tryz.func146, Tryz.ntmps146
 go_upto_region 2 with fail
 refine wn3 (c1 := (J0 .u8 32 bs)) (t1 := 23) (c2 := #[.int .u64 0, .int .u64 0, .int .u64 0, .int .u64 0]) (t2 := 155) (c3 := #[.int .u64 0, .int .u64 0, .int .u64 0, .int .u64 0]) (t3 := 155) fun W0 bel k_t1 k_t2 k_t3 => ?_
 have lt_t1_0 := Q7 k_t1
 have lt_t2_0 := Q7 k_t2
 have lt_t3_0 := Q7 k_t3
 have gf := Q9 hG bel
 have gm := gf.1
 have gi := gf.2
 refine Px 2 ?_
 refine XL ?_
 refine Xv ?_
 refine Z4 fun W1 hE => ?_
 refine J3 ?_
 replace k_t1 := J1 k_t1 hE
 replace k_t2 := J1 k_t2 hE
 replace k_t3 := J1 k_t3 hE
 replace bel := Z5 bel hE bel.size
 have lt_t1_1 := Q7 k_t1
 have lt_t2_1 := Q7 k_t2
 have lt_t3_1 := Q7 k_t3
 have HB := Lib.hid hbs
 clear hbs
 go_wp2_with fail
 go_loopw [7] (fun ii wr => ∃ (k : Nat), k ≤ 32 ∧ ii = .int .i64 k ∧ Below w.heap.size w wr ∧ Blk wr w.heap.size (J0 .u8 32 bs) 23 ∧ Blk wr (w.heap.size + 1) #[.int .u64 0, .int .u64 0, .int .u64 0, .int .u64 0] 155 ∧ Blk wr (w.heap.size + 2) (J0 .u64 4 (V8 (J0x bs k))) 155)
  (fun ii _ => (32 - intOf ii).toNat)
 case atStart =>
  refine ⟨0, by omega, rfl, ?_⟩
  rw [show J0 .u64 4 (V8 (J0x bs 0)) = #[.int .u64 0, .int .u64 0, .int .u64 0, .int .u64 0] by kernel_rfl]
  exact ⟨bel, k_t1, k_t2, k_t3⟩
 case round =>
  obtain ⟨k, hk, rfl, bel, k_t1, k_t2, k_t3⟩ := hrel
  by_cases hexit : k = 32
  ·
   have _hx := hexit
   subst hexit
   obtain ⟨V, hV⟩ := exn (J0x bs 32)
   rw [← hV, ← Q4e] at k_t3
   have HV := Lib.hid hV
   clear hV
   have c3 := (Q6 k_t3 3).trans (J4y V 3 (by omega))
   have f3 := J05 k_t3
   go_upto_region 8 with fail
   have hs := J1q k_t3 3 (.int .u64 (bits .and .u64 (V8 V 3) 9223372036854775807))
   rw [Z89] at hs
   have hF := And.intro (J4v bel (show w.heap.size ≤ (w.heap.size + 2) by omega) 3 (.int .u64 (bits .and .u64 (V8 V 3) 9223372036854775807))) (And.intro (K9 k_t1 (show w.heap.size ≠ (w.heap.size + 2) by omega) 3 (.int .u64 (bits .and .u64 (V8 V 3) 9223372036854775807))) (And.intro (K9 k_t2 (show w.heap.size + 1 ≠ (w.heap.size + 2) by omega) 3 (.int .u64 (bits .and .u64 (V8 V 3) 9223372036854775807))) hs))
   generalize wr.setCell ⟨w.heap.size + 1 + 1, 3, none⟩ (.int .u64 (bits .and .u64 (V8 V 3) 9223372036854775807)) = Wm at hF ⊢
   clear bel k_t1 k_t2 k_t3 c3 f3 hs
   obtain ⟨bel, k_t1, k_t2, k_t3⟩ := hF
   have lt_t1_2 := Q7 k_t1
   have lt_t2_2 := Q7 k_t2
   have lt_t3_2 := Q7 k_t3
   have gf := Q9 hG bel
   have gm := gf.1
   have gi := gf.2
   have c_X1 := J76 (V % 2 ^ 255) (Nat.lt_trans (Nat.mod_lt _ (by decide)) (by decide))
   obtain ⟨X1, hX1⟩ := exn ((V % 2 ^ 255) % PP)
   rw [← hX1] at c_X1
   have bX1 := J1u hX1
   have HX1 := Lib.hid hX1
   clear hX1
   refine Px 2 ?_
   refine XL ?_
   refine Xf ?_ (fun W hW => c_X1 W (Q9 gf hW))
   refine Z4 fun W3 hE => ?_
   refine Lp ?_ (J1 k_t2 hE) (cells := c4 X1)
   intro W4 hO h_
   refine J3 ?_
   replace k_t1 := ko k_t1 hE hO (by omega)
   replace k_t2 := h_
   replace k_t3 := ko k_t3 hE hO (by omega)
   replace bel := bwo bel hE hO bel.size (by omega)
   clear hO h_
   go_wp2
   refine bodyPost_ret (Y0 rfl rfl k_t2 (by kernel_rfl) (by kernel_rfl)) rfl ⟨?_, bel⟩
   rw [HX1.out, HV.out]; rfl
  obtain ⟨q, r, hr, rfl⟩ : ∃ q r, r < 8 ∧ k = 8 * q + r := ⟨k / 8, k % 8, by omega, by omega⟩
  have hix : ∀ W, (Instr.index 23 (.agg (J0 .u8 32 bs)) (.int .i64 (8 * (q : Int) + (r : Int)))).run Tryz.prog W = .ok (.int .u8 (bs (8 * q + r))) W := fun W => J1j W 23 5 32 .u8 .i64 _ (8 * q + r) _ Tryz.underlying23 Tryz.underlying5 (by kernel_rfl) (by omega) (J6 _ _ _ _ (by omega))
  have d1 : IntKind.i64.wrap ((8 * (q : Int) + (r : Int)).tdiv 8) = (q : Int) := by rw [Int.tdiv_eq_ediv_of_nonneg (by omega), IntWalk.i64_in _ (by omega)]; omega
  have d2 : (8 * (q : Int) + (r : Int)).tmod 8 = (r : Int) := by rw [Int.tmod_eq_emod_of_nonneg (by omega)]; omega
  have d3 : IntKind.i64.wrap (8 * (r : Int)) = 8 * (r : Int) := IntWalk.i64_in _ (by omega)
  have d4 : IntKind.u64.wrap (bs (8 * q + r)) = bs (8 * q + r) := by have := HB.out (8 * q + r); unfold J86 at this; rw [IntKind.wrap_u64]; omega
  have hq0 : (0 : Int) ≤ (q : Int) := by omega
  have hq1 : (q : Int) < 4 := by omega
  have hr0 : (0 : Int) ≤ (r : Int) := by omega
  have hr1 : (r : Int) < 8 := by omega
  clear hexit
  have c3 := (Q6 k_t3 q).trans (J6 _ _ _ _ (by omega))
  have f3 := J05 k_t3
  have hs := fun v => J1q k_t3 q v
  go_wp2
  go_region
  go_wp2
  go_roundw
  case rel =>
   refine ⟨8 * q + r + 1, by omega, by go_num, (J4v bel (by omega) _ _).drew, J08 (K9 k_t1 (by omega) _ _), J08 (K9 k_t2 (by omega) _ _), ?_⟩
   have := hs (.int .u64 (bits .or .u64 (V8 (J0x bs (8 * q + r)) q) (IntKind.wrap .u64 (bs (8 * q + r) * 2 ^ (8 * r)))))
   rw [Q1c bs HB.out 4 q r hr] at this
   exact J08 this
  case measure => simp [intOf]; omega
end
end Go.Proofs.YtejkmhgkkibafaaGreatDoor.S8
