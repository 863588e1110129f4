/- custumalref05.Pow, Inv, I. No conditions. custumalref05.Root. Conditions: the first number is below the modulus. custumalref05.Bytes: 16 parts as 32 bytes. No conditions. custumalref05.FromBytes. Conditions: the text is 32 bytes. -/
import Derived.Test.YtefpoollmbmkfaaDoorEc
import Derived.Test.YtefpoollmbmkfaaDoorEb
import Derived.Test.YtefpoollmbmkfaaDoorGc
set_option linter.unusedSimpArgs false
set_option linter.unusedVariables false
namespace Go.Proofs.YtefpoollmbmkfaaDoor
set_option maxHeartbeats 4000000
set_option maxRecDepth 100000
open Go.RowKit

theorem Q9z (n q r : Nat) (hr : r < 64) : (lim n q / 2 ^ r) % 2 = ((n / 2 ^ (64 * q + r) % 2 : Nat) : Int) := by
  rw [← Q42 n q r hr]
  obtain ⟨l0, l1⟩ := J1h n q
  obtain ⟨X, hX⟩ := Int.eq_ofNat_of_zero_le l0
  rw [hX] at l1 ⊢
  have e : ((X : Int) / 2 ^ r) = ((X / 2 ^ r : Nat) : Int) := by push_cast; rfl
  have hl : X / 2 ^ r ≤ X := Nat.div_le_self _ _
  have e2 : bits .and .u64 (((X / 2 ^ r : Nat) : Int)) ((1 : Nat) : Int) = ((X / 2 ^ r % 2 : Nat) : Int) := by
    rw [bits_and_u64_nat _ _ (by omega) (by omega), Nat.and_one_is_mod]
  rw [e]
  exact (Eq.trans e2 (by omega)).symm
theorem Z8x (n q r : Nat) : 0 ≤ lim n q / 2 ^ r ∧ (lim n q / 2 ^ r).tmod 2 = (lim n q / 2 ^ r) % 2 := by
  have h : 0 ≤ lim n q / 2 ^ r := Int.ediv_nonneg (J1h n q).1 (Int.le_of_lt (Int.pow_pos (by decide)))
  exact ⟨h, Int.tmod_eq_emod_of_nonneg h⟩
def mp (A n : Nat) : Nat → Nat
  | 0 => 1
  | c + 1 => if n / 2 ^ (255 - c) % 2 = 1 then (mp A n c * mp A n c % PP) * A % PP else mp A n c * mp A n c % PP
theorem Y6n (A n : Nat) (hn : n < Z0) : ∀ c, c ≤ 256 → mp A n c = pw A (n / 2 ^ (256 - c))
  | 0, _ => by rw [show 256 - 0 = 256 by decide, Nat.div_eq_of_lt (show n < 2 ^ 256 from hn), Q84]; rfl
  | c + 1, h => by
    have ih := Y6n A n hn c (by omega)
    rw [show 256 - c = (255 - c) + 1 by omega] at ih
    rw [show 256 - (c + 1) = 255 - c by omega]
    unfold mp
    rw [ih]
    split
    · rename_i h1; exact Q4r A n _ h1
    · rename_i h1; exact Q85 A n _ (by omega)
theorem Y6o (A n : Nat) (hn : n < Z0) : pw A n = mp A n 256 := by
  rw [Y6n A n hn 256 (by omega), show 256 - 256 = 0 by decide, Nat.pow_zero, Nat.div_one]
theorem V1z : II = pw 2 ((PP - 1) / 4) := by
  rw [Y6o _ _ (by decide)]
  decide +kernel

theorem Q5m (X n : Nat) (hX : X < Z0) (hn : n < Z0) (w : World) :
  Calls Tryd.prog 116 #[A16 X, L4 n] w fun e w' => Ret (A16 (pw X n)) w w' e := by
 unfold A16
 go_enter Tryd.func116, Tryd.ntmps116
 go_upto_region 1 with fail
 refine wn3 (c1 := (J1 .i64 16 (Q2 X))) (t1 := 76) (c2 := (c4 n)) (t2 := 41) (c3 := (J1 .i64 16 (fun _ => 0))) (t3 := 76) fun W0 bel k_t2 k_t3 k_t4 => ?_
 have lt_t2_0 := J5 k_t2
 have lt_t3_0 := J5 k_t3
 have lt_t4_0 := J5 k_t4
 refine Px1 1 5 (z := J1 .i64 16 (fun _ => 0)) (t := 76) ?_
 refine Xv ?_
 refine XN ?_
 intro J6d W1 n_t5_1 hE k_t5
 have sz_1 := bel.size
 skip
 refine Lp ?_ k_t5 (cells := J1 .i64 16 (Q2 1)) (h1 := (Y7 _ _ _))
 intro W2 hO h_
 refine J0 ?_
 replace k_t2 := ko k_t2 hE hO (by omega)
 replace k_t3 := ko k_t3 hE hO (by omega)
 replace k_t4 := ko k_t4 hE hO (by omega)
 replace k_t5 := h_
 replace bel := bwo bel hE hO bel.size (by omega)
 clear hO h_
 have lt_t5_2 := J5 k_t5
 go_wp2_with fail
 go_loopw [6] (fun ii wr => ∃ (k R : Nat), k ≤ 256 ∧ ii = .int .i64 ((k : Int) - 1) ∧ R = pw X (n / 2 ^ k) ∧ Below w.heap.size w wr ∧ Blk wr w.heap.size (J1 .i64 16 (Q2 X)) 76 ∧ Blk wr (w.heap.size + 1) (c4 n) 41 ∧ Blk wr (w.heap.size + 2) (J1 .i64 16 (fun _ => 0)) 76 ∧ Blk wr J6d (J1 .i64 16 (Q2 R)) 76)
  (fun ii _ => (intOf ii + 1).toNat)
 case atStart =>
  refine ⟨256, 1, by omega, rfl, ?_, bel, k_t2, k_t3, k_t4, k_t5⟩
  rw [Nat.div_eq_of_lt (show n < 2 ^ 256 from hn), Q84]
 case round =>
  obtain ⟨k, R, hk, rfl, hR, bel, k_t2, k_t3, k_t4, k_t5⟩ := hrel
  have bR : R < Z0 := by rw [hR]; exact J9h _ _
  have HR := Lib.hid hR
  clear hR
  by_cases hexit : k = 0
  ·
   have _hx := hexit
   subst hexit
   go_upto_region 8 with fail
   have lt_t2_3 := J5 k_t2
   have lt_t3_3 := J5 k_t3
   have lt_t4_3 := J5 k_t4
   have lt_t5_3 := J5 k_t5
   refine Px 1 ?_
   refine XL ?_
   refine Q3 fun W4 hE => ?_
   refine Lp ?_ (J2 k_t4 hE) (cells := J1 .i64 16 (Q2 R)) (h1 := (Y7 _ _ _))
   intro W5 hO h_
   refine J0 ?_
   replace k_t2 := ko k_t2 hE hO (by omega)
   replace k_t3 := ko k_t3 hE hO (by omega)
   replace k_t4 := h_
   replace k_t5 := ko k_t5 hE hO (by omega)
   replace bel := bwo bel hE hO bel.size (by omega)
   clear hO h_
   go_wp2
   refine bodyPost_ret (K6 rfl rfl k_t4 (by kernel_rfl) (by kernel_rfl)) rfl ⟨?_, bel⟩
   rw [HR.out, Nat.pow_zero, Nat.div_one] <;> rfl
  ·
   obtain ⟨q, r, hr, rfl⟩ : ∃ q r, r < 64 ∧ k = 64 * q + r + 1 := ⟨(k - 1) / 64, (k - 1) % 64, by omega, by omega⟩
   have e1 : ((64 * q + r + 1 : Nat) : Int) - 1 = 64 * (q : Int) + (r : Int) := by omega
   rw [e1]
   clear hexit e1
   have d1 : (64 * (q : Int) + (r : Int)) / 64 = (q : Int) := by omega
   have d2 : (64 * (q : Int) + (r : Int)) % 64 = (r : Int) := by omega
   have hq1 : (q : Int) < 4 := by omega
   have hr1 : (r : Int) < 64 := by omega
   have hq0 : (0 : Int) ≤ 64 * (q : Int) + (r : Int) := by omega
   rcases Nat.mod_two_eq_zero_or_one (n / 2 ^ (64 * q + r)) with hbit | hbit
   ·
    have HB := Lib.hid hbit
    go_upto_region 5 with fail
    have lt_t2_3 := J5 k_t2
    have lt_t3_3 := J5 k_t3
    have lt_t4_3 := J5 k_t4
    have lt_t5_3 := J5 k_t5
    have c_X1 := J02 R R bR bR
    obtain ⟨X1, hX1⟩ := V2 (R * R % PP)
    rw [← hX1] at c_X1
    have bX1 := J0v hX1
    have HX1 := Lib.hid hX1
    clear hX1
    refine Px 3 ?_
    refine XL ?_
    refine XL ?_
    refine Xf ?_ (fun W hW => c_X1 W)
    refine Q3 fun W4 hE => ?_
    refine Lp ?_ (J2 k_t5 hE) (cells := J1 .i64 16 (Q2 X1)) (h1 := (Y7 _ _ _))
    intro W5 hO h_
    refine J0 ?_
    replace k_t2 := ko k_t2 hE hO (by omega)
    replace k_t3 := ko k_t3 hE hO (by omega)
    replace k_t4 := ko k_t4 hE hO (by omega)
    replace k_t5 := h_
    replace bel := bwo bel hE hO bel.size (by omega)
    clear hO h_
    have c3 := (Q8 k_t3 q).trans (J4l n q (by omega))
    have hbt := Q9z n q r hr
    rw [hbit] at hbt
    obtain ⟨hs0, hs1⟩ := Z8x n q r
    rw [hbt] at hs1
    clear hbit
    go_wp2_with fail
    go_roundw
    case rel => exact ⟨64 * q + r, X1, by omega, by go_num, by rw [HX1.out, HR.out]; exact Q85 X n _ HB.out, bel, k_t2, k_t3, k_t4, k_t5⟩
    case measure => simp [intOf]; omega
   ·
    have HB := Lib.hid hbit
    go_upto_region 5 with fail
    have lt_t2_3 := J5 k_t2
    have lt_t3_3 := J5 k_t3
    have lt_t4_3 := J5 k_t4
    have lt_t5_3 := J5 k_t5
    have c_X1 := J02 R R bR bR
    obtain ⟨X1, hX1⟩ := V2 (R * R % PP)
    rw [← hX1] at c_X1
    have bX1 := J0v hX1
    have HX1 := Lib.hid hX1
    clear hX1
    refine Px 3 ?_
    refine XL ?_
    refine XL ?_
    refine Xf ?_ (fun W hW => c_X1 W)
    refine Q3 fun W4 hE => ?_
    refine Lp ?_ (J2 k_t5 hE) (cells := J1 .i64 16 (Q2 X1)) (h1 := (Y7 _ _ _))
    intro W5 hO h_
    refine J0 ?_
    replace k_t2 := ko k_t2 hE hO (by omega)
    replace k_t3 := ko k_t3 hE hO (by omega)
    replace k_t4 := ko k_t4 hE hO (by omega)
    replace k_t5 := h_
    replace bel := bwo bel hE hO bel.size (by omega)
    clear hO h_
    have c3 := (Q8 k_t3 q).trans (J4l n q (by omega))
    have hbt := Q9z n q r hr
    rw [hbit] at hbt
    obtain ⟨hs0, hs1⟩ := Z8x n q r
    rw [hbt] at hs1
    go_upto_region 7 with fail
    have lt_t2_5 := J5 k_t2
    have lt_t3_5 := J5 k_t3
    have lt_t4_5 := J5 k_t4
    have lt_t5_5 := J5 k_t5
    have c_X2 := J02 X1 X bX1 hX
    obtain ⟨X2, hX2⟩ := V2 (X1 * X % PP)
    rw [← hX2] at c_X2
    have bX2 := J0v hX2
    have HX2 := Lib.hid hX2
    clear hX2
    refine Px 3 ?_
    refine XL ?_
    refine XL ?_
    refine Xf ?_ (fun W hW => c_X2 W)
    refine Q3 fun W6 hE => ?_
    refine Lp ?_ (J2 k_t5 hE) (cells := J1 .i64 16 (Q2 X2)) (h1 := (Y7 _ _ _))
    intro W7 hO h_
    refine J0 ?_
    replace k_t2 := ko k_t2 hE hO (by omega)
    replace k_t3 := ko k_t3 hE hO (by omega)
    replace k_t4 := ko k_t4 hE hO (by omega)
    replace k_t5 := h_
    replace bel := bwo bel hE hO bel.size (by omega)
    clear hO h_
    clear hbit
    go_wp2_with fail
    go_roundw
    case rel => exact ⟨64 * q + r, X2, by omega, by go_num, by rw [HX2.out, HX1.out, HR.out]; exact Q4r X n _ HB.out, bel, k_t2, k_t3, k_t4, k_t5⟩
    case measure => simp [intOf]; omega
theorem Y8b (X : Nat) (hX : X < Z0) (w : World) :
  Calls Tryd.prog 88 #[A16 X] w fun e w' => Ret (A16 (pw X (PP - 2))) w w' e := by
 unfold A16
 go_enter Tryd.func88, Tryd.ntmps88
 go_upto_region 2 with fail
 refine wn2 (c1 := (J1 .i64 16 (Q2 X))) (t1 := 76) (c2 := (J1 .i64 16 (fun _ => 0))) (t2 := 76) fun W0 bel k_t1 k_t2 => ?_
 have lt_t1_0 := J5 k_t1
 have lt_t2_0 := J5 k_t2
 have c_X1 := Q5m X (PP - 2) hX (by decide)
 obtain ⟨X1, hX1⟩ := V2 (pw X (PP - 2))
 rw [← hX1] at c_X1
 have bX1 : X1 < Z0 := by rw [hX1]; exact J9h _ _
 have HX1 := Lib.hid hX1
 clear hX1
 refine Px 9 ?_
 refine XL ?_
 refine Xv ?_
 refine Xv ?_
 refine Xv ?_
 refine Xv ?_
 refine Xv ?_
 refine Xv ?_
 refine Xv ?_
 refine Xf ?_ (fun W hW => c_X1 W)
 refine Q3 fun W1 hE => ?_
 refine Lp ?_ (J2 k_t2 hE) (cells := J1 .i64 16 (Q2 X1)) (h1 := (Y7 _ _ _))
 intro W2 hO h_
 refine J0 ?_
 replace k_t1 := ko k_t1 hE hO (by omega)
 replace k_t2 := h_
 replace bel := bwo bel hE hO bel.size (by omega)
 clear hO h_
 go_wp2
 refine bodyPost_ret (K6 rfl rfl k_t2 (by kernel_rfl) (by kernel_rfl)) rfl ⟨?_, bel⟩
 rw [← HX1.out] <;> rfl
theorem V5a (w : World) :
  Calls Tryd.prog 119 #[] w fun e w' => Ret (A16 II) w w' e := by
 go_enter Tryd.func119, Tryd.ntmps119
 go_upto_region 2 with fail
 refine wn1 (c1 := (J1 .i64 16 (fun _ => 0))) (t1 := 76) fun W0 bel k_t0 => ?_
 have lt_t0_0 := J5 k_t0
 have c_X1 := Q5m 2 ((PP - 1) / 4) (by decide) (by decide)
 obtain ⟨X1, hX1⟩ := V2 (pw 2 ((PP - 1) / 4))
 rw [← hX1] at c_X1
 have bX1 : X1 < Z0 := by rw [hX1]; exact J9h _ _
 have HX1 := Lib.hid hX1
 clear hX1
 refine Px 9 ?_
 refine Xv ?_
 refine Xv ?_
 refine Xv ?_
 refine Xv ?_
 refine Xv ?_
 refine Xv ?_
 refine Xv ?_
 refine Xv ?_
 refine Xf ?_ (fun W hW => c_X1 W)
 refine Q3 fun W1 hE => ?_
 refine LS ?_ (J2 k_t0 hE) (g := w.heap.size) (cells := J1 .i64 16 (Q2 X1)) (h1 := (Y7 _ _ _))
 refine J0 ?_
 have hF : Below w.heap.size w (W1.setRow w.heap.size (J1 .i64 16 (Q2 X1))) ∧ Blk (W1.setRow w.heap.size (J1 .i64 16 (Q2 X1))) w.heap.size (J1 .i64 16 (Q2 X1)) 76 := ⟨(Y5 (Z5 bel hE bel.size) (by omega) _), (V0 (J2 k_t0 hE) (J1 .i64 16 (Q2 X1)))⟩
 generalize (W1.setRow w.heap.size (J1 .i64 16 (Q2 X1))) = W2 at hF ⊢
 clear bel k_t0
 obtain ⟨bel, k_t0⟩ := hF
 go_wp2
 refine bodyPost_ret (K6 rfl rfl k_t0 (by kernel_rfl) (by kernel_rfl)) rfl ⟨?_, bel⟩
 rw [V1z, ← HX1.out] <;> rfl
end Go.Proofs.YtefpoollmbmkfaaDoor

namespace Go.Proofs.YtefpoollmbmkfaaDoor
set_option maxHeartbeats 4000000
set_option maxRecDepth 100000
open Go.RowKit

theorem Q8f (X Y : Nat) (hX : X < Z0) (hY : Y < Z0) (w : World) : (Op.equalIn 10000 76 (.agg (J1 .i64 16 (Q2 X))) (.agg (J1 .i64 16 (Q2 Y)))).run Tryd.prog w = .ok (decide (X = Y)) w := by
  have h := J6f (P := Tryd.prog) w 9998 76 3 16 .i64 (J1 .i64 16 (Q2 X)) (J1 .i64 16 (Q2 Y)) (Q2 X) (Q2 Y) Tryd.underlying76 Tryd.underlying3 (by kernel_rfl)
    (fun i hi => J6 _ _ _ _ hi) (fun i hi => J6 _ _ _ _ hi)
  rw [h]
  congr 1
  rw [Bool.eq_iff_iff, Q13, decide_eq_true_iff]
  exact ⟨fun h => Z3s hX hY h, fun e i _ => by rw [e]⟩
theorem J58 {A : Nat} (h : A < PP) : A < Z0 := Nat.lt_trans h J7x

theorem Y3u (A B : Nat) (hA : A < PP) (hB : B < Z0) (h1 : rtW A B = A) (w : World) :
  Calls Tryd.prog 98 #[A16 A, A16 B] w fun e w' => Ret (.tuple #[A16 (rtX A B), .bool true]) w w' e := by
 unfold A16
 go_enter Tryd.func98, Tryd.ntmps98
 go_upto_region 2 with fail
 refine wn3 (c1 := (J1 .i64 16 (Q2 A))) (t1 := 76) (c2 := (J1 .i64 16 (Q2 B))) (t2 := 76) (c3 := (J1 .i64 16 (fun _ => 0))) (t3 := 76) fun W0 bel k_t2 k_t3 k_t4 => ?_
 have lt_t2_0 := J5 k_t2
 have lt_t3_0 := J5 k_t3
 have lt_t4_0 := J5 k_t4
 have c_X1 := J02 B B hB hB
 obtain ⟨X1, hX1⟩ := V2 (B * B % PP)
 rw [← hX1] at c_X1
 have bX1 := J0v hX1
 have HX1 := Lib.hid hX1
 clear hX1
 have c_X2 := J02 X1 B bX1 hB
 obtain ⟨X2, hX2⟩ := V2 (X1 * B % PP)
 rw [← hX2] at c_X2
 have bX2 := J0v hX2
 have HX2 := Lib.hid hX2
 clear hX2
 refine Rx1 5 7 (z := J1 .i64 16 (fun _ => 0)) (t := 76) ?_
 refine XL ?_
 refine XL ?_
 refine Xf ?_ (fun W hW => c_X1 W)
 refine XL ?_
 refine Xf ?_ (fun W hW => c_X2 W)
 refine XN ?_
 intro Z8y W1 n_t7_1 hE k_t7
 have sz_1 := bel.size
 skip
 refine Lp ?_ k_t7 (cells := J1 .i64 16 (Q2 X2)) (h1 := (Y7 _ _ _))
 intro W2 hO h_
 refine LN ?_
 replace k_t2 := ko k_t2 hE hO (by omega)
 replace k_t3 := ko k_t3 hE hO (by omega)
 replace k_t4 := ko k_t4 hE hO (by omega)
 replace k_t7 := h_
 replace bel := bwo bel hE hO bel.size (by omega)
 clear hO h_
 go_upto_region 3 with fail
 have lt_t7_2 := J5 k_t7
 have c_X3 := J02 X2 X2 bX2 bX2
 obtain ⟨X3, hX3⟩ := V2 (X2 * X2 % PP)
 rw [← hX3] at c_X3
 have bX3 := J0v hX3
 have HX3 := Lib.hid hX3
 clear hX3
 have c_X4 := J02 X3 B bX3 hB
 obtain ⟨X4, hX4⟩ := V2 (X3 * B % PP)
 rw [← hX4] at c_X4
 have bX4 := J0v hX4
 have HX4 := Lib.hid hX4
 clear hX4
 refine Rx1 5 8 (z := J1 .i64 16 (fun _ => 0)) (t := 76) ?_
 refine XL ?_
 refine XL ?_
 refine Xf ?_ (fun W hW => c_X3 W)
 refine XL ?_
 refine Xf ?_ (fun W hW => c_X4 W)
 refine XN ?_
 intro Z5y W3 n_t8_3 hE k_t8
 have sz_3 := bel.size
 skip
 refine Lp ?_ k_t8 (cells := J1 .i64 16 (Q2 X4)) (h1 := (Y7 _ _ _))
 intro W4 hO h_
 refine LN ?_
 replace k_t2 := ko k_t2 hE hO (by omega)
 replace k_t3 := ko k_t3 hE hO (by omega)
 replace k_t4 := ko k_t4 hE hO (by omega)
 replace k_t7 := ko k_t7 hE hO (by omega)
 replace k_t8 := h_
 replace bel := bwo bel hE hO bel.size (by omega)
 clear hO h_
 go_upto_region 4 with fail
 have lt_t8_4 := J5 k_t8
 have c_X5 := J02 A X2 (J58 hA) bX2
 obtain ⟨X5, hX5⟩ := V2 (A * X2 % PP)
 rw [← hX5] at c_X5
 have bX5 := J0v hX5
 have HX5 := Lib.hid hX5
 clear hX5
 have c_X6 := J02 A X4 (J58 hA) bX4
 obtain ⟨X6, hX6⟩ := V2 (A * X4 % PP)
 rw [← hX6] at c_X6
 have bX6 := J0v hX6
 have HX6 := Lib.hid hX6
 clear hX6
 have c_X7 := Q5m X6 7237005577332262213973186563042994240829374041602535252466099000494570602493 bX6 (by decide)
 obtain ⟨X7, hX7⟩ := V2 (pw X6 7237005577332262213973186563042994240829374041602535252466099000494570602493)
 rw [← hX7] at c_X7
 have bX7 : X7 < Z0 := by rw [hX7]; exact J9h _ _
 have HX7 := Lib.hid hX7
 clear hX7
 have c_X8 := J02 X5 X7 bX5 bX7
 obtain ⟨X8, hX8⟩ := V2 (X5 * X7 % PP)
 rw [← hX8] at c_X8
 have bX8 := J0v hX8
 have HX8 := Lib.hid hX8
 clear hX8
 refine Rx1 15 9 (z := J1 .i64 16 (fun _ => 0)) (t := 76) ?_
 refine XL ?_
 refine XL ?_
 refine Xf ?_ (fun W hW => c_X5 W)
 refine XL ?_
 refine XL ?_
 refine Xf ?_ (fun W hW => c_X6 W)
 refine Xv ?_
 refine Xv ?_
 refine Xv ?_
 refine Xv ?_
 refine Xv ?_
 refine Xv ?_
 refine Xv ?_
 refine Xf ?_ (fun W hW => c_X7 W)
 refine Xf ?_ (fun W hW => c_X8 W)
 refine XN ?_
 intro Z8z W5 n_t9_5 hE k_t9
 have sz_5 := bel.size
 skip
 refine Lp ?_ k_t9 (cells := J1 .i64 16 (Q2 X8)) (h1 := (Y7 _ _ _))
 intro W6 hO h_
 refine LN ?_
 replace k_t2 := ko k_t2 hE hO (by omega)
 replace k_t3 := ko k_t3 hE hO (by omega)
 replace k_t4 := ko k_t4 hE hO (by omega)
 replace k_t7 := ko k_t7 hE hO (by omega)
 replace k_t8 := ko k_t8 hE hO (by omega)
 replace k_t9 := h_
 replace bel := bwo bel hE hO bel.size (by omega)
 clear hO h_
 go_upto_region 5 with fail
 have lt_t9_6 := J5 k_t9
 have c_X9 := J02 X8 X8 bX8 bX8
 obtain ⟨X9, hX9⟩ := V2 (X8 * X8 % PP)
 rw [← hX9] at c_X9
 have bX9 := J0v hX9
 have HX9 := Lib.hid hX9
 clear hX9
 have c_X10 := J02 B X9 hB bX9
 obtain ⟨X10, hX10⟩ := V2 (B * X9 % PP)
 rw [← hX10] at c_X10
 have bX10 := J0v hX10
 have HX10 := Lib.hid hX10
 clear hX10
 refine Rx1 5 10 (z := J1 .i64 16 (fun _ => 0)) (t := 76) ?_
 refine XL ?_
 refine XL ?_
 refine XL ?_
 refine Xf ?_ (fun W hW => c_X9 W)
 refine Xf ?_ (fun W hW => c_X10 W)
 refine XN ?_
 intro Z00 W7 n_t10_7 hE k_t10
 have sz_7 := bel.size
 skip
 refine Lp ?_ k_t10 (cells := J1 .i64 16 (Q2 X10)) (h1 := (Y7 _ _ _))
 intro W8 hO h_
 refine LN ?_
 replace k_t2 := ko k_t2 hE hO (by omega)
 replace k_t3 := ko k_t3 hE hO (by omega)
 replace k_t4 := ko k_t4 hE hO (by omega)
 replace k_t7 := ko k_t7 hE hO (by omega)
 replace k_t8 := ko k_t8 hE hO (by omega)
 replace k_t9 := ko k_t9 hE hO (by omega)
 replace k_t10 := h_
 replace bel := bwo bel hE hO bel.size (by omega)
 clear hO h_
 go_upto_region 6 with fail
 have lt_t10_8 := J5 k_t10
 have e_11 := Q8f X10 A bX10 (J58 hA)
 have hw : X10 = rtW A B := by rw [HX10.out, HX9.out, HX8.out, HX7.out, HX6.out, HX5.out, HX4.out, HX3.out, HX2.out, HX1.out]; rfl
 rw [decide_eq_true (show X10 = A by rw [hw]; exact h1)] at e_11
 have HW := Lib.hid hw
 clear hw
 refine Px 3 ?_
 refine XL ?_
 refine XL ?_
 ((with_reducible refine J3p (e_11) ?_ ?_ rfl ?_ ?_ ?_); (focus kernel_rfl); (focus rfl); (focus rfl); (focus rfl); (try simp only [Act.put, mA, mB, mC]))
 refine Q3 fun W9 hE => ?_
 refine J0 ?_
 replace k_t2 := J2 k_t2 hE
 replace k_t3 := J2 k_t3 hE
 replace k_t4 := J2 k_t4 hE
 replace k_t7 := J2 k_t7 hE
 replace k_t8 := J2 k_t8 hE
 replace k_t9 := J2 k_t9 hE
 replace k_t10 := J2 k_t10 hE
 replace bel := Z5 bel hE bel.size
 go_upto_region 7 with fail
 have lt_t10_9 := J5 k_t10
 refine Px 1 ?_
 refine XL ?_
 refine Q3 fun W10 hE => ?_
 refine LS ?_ (J2 k_t4 hE) (g := (w.heap.size + 2)) (cells := J1 .i64 16 (Q2 X8)) (h1 := (Y7 _ _ _))
 refine Lv ?_
 refine J0 ?_
 have hF : Below w.heap.size w (W10.setRow (w.heap.size + 2) (J1 .i64 16 (Q2 X8))) ∧ Blk (W10.setRow (w.heap.size + 2) (J1 .i64 16 (Q2 X8))) w.heap.size (J1 .i64 16 (Q2 A)) 76 ∧ Blk (W10.setRow (w.heap.size + 2) (J1 .i64 16 (Q2 X8))) (w.heap.size + 1) (J1 .i64 16 (Q2 B)) 76 ∧ Blk (W10.setRow (w.heap.size + 2) (J1 .i64 16 (Q2 X8))) (w.heap.size + 2) (J1 .i64 16 (Q2 X8)) 76 ∧ Blk (W10.setRow (w.heap.size + 2) (J1 .i64 16 (Q2 X8))) Z8y (J1 .i64 16 (Q2 X2)) 76 ∧ Blk (W10.setRow (w.heap.size + 2) (J1 .i64 16 (Q2 X8))) Z5y (J1 .i64 16 (Q2 X4)) 76 ∧ Blk (W10.setRow (w.heap.size + 2) (J1 .i64 16 (Q2 X8))) Z8z (J1 .i64 16 (Q2 X8)) 76 ∧ Blk (W10.setRow (w.heap.size + 2) (J1 .i64 16 (Q2 X8))) Z00 (J1 .i64 16 (Q2 X10)) 76 := ⟨(Y5 (Z5 bel hE bel.size) (by omega) _), (J4 (J2 k_t2 hE) (by omega) _), (J4 (J2 k_t3 hE) (by omega) _), (V0 (J2 k_t4 hE) (J1 .i64 16 (Q2 X8))), (J4 (J2 k_t7 hE) (by omega) _), (J4 (J2 k_t8 hE) (by omega) _), (J4 (J2 k_t9 hE) (by omega) _), (J4 (J2 k_t10 hE) (by omega) _)⟩
 generalize (W10.setRow (w.heap.size + 2) (J1 .i64 16 (Q2 X8))) = W11 at hF ⊢
 clear bel k_t2 k_t3 k_t4 k_t7 k_t8 k_t9 k_t10
 obtain ⟨bel, k_t2, k_t3, k_t4, k_t7, k_t8, k_t9, k_t10⟩ := hF
 go_wp2
 refine bodyPost_ret (V8 rfl rfl rfl k_t4 (by kernel_rfl) (by kernel_rfl)) rfl ⟨?_, bel⟩
 rw [HX8.out, HX7.out, HX6.out, HX5.out, HX4.out, HX3.out, HX2.out, HX1.out]; rfl
theorem Y3v (A B : Nat) (hA : A < PP) (hB : B < Z0) (h1 : ¬ rtW A B = A) (h2 : rtW A B = (PP - A) % PP) (w : World) :
  Calls Tryd.prog 98 #[A16 A, A16 B] w fun e w' => Ret (.tuple #[A16 (rtX A B * II % PP), .bool true]) w w' e := by
 unfold A16
 go_enter Tryd.func98, Tryd.ntmps98
 go_upto_region 2 with fail
 refine wn3 (c1 := (J1 .i64 16 (Q2 A))) (t1 := 76) (c2 := (J1 .i64 16 (Q2 B))) (t2 := 76) (c3 := (J1 .i64 16 (fun _ => 0))) (t3 := 76) fun W0 bel k_t2 k_t3 k_t4 => ?_
 have lt_t2_0 := J5 k_t2
 have lt_t3_0 := J5 k_t3
 have lt_t4_0 := J5 k_t4
 have c_X1 := J02 B B hB hB
 obtain ⟨X1, hX1⟩ := V2 (B * B % PP)
 rw [← hX1] at c_X1
 have bX1 := J0v hX1
 have HX1 := Lib.hid hX1
 clear hX1
 have c_X2 := J02 X1 B bX1 hB
 obtain ⟨X2, hX2⟩ := V2 (X1 * B % PP)
 rw [← hX2] at c_X2
 have bX2 := J0v hX2
 have HX2 := Lib.hid hX2
 clear hX2
 refine Rx1 5 7 (z := J1 .i64 16 (fun _ => 0)) (t := 76) ?_
 refine XL ?_
 refine XL ?_
 refine Xf ?_ (fun W hW => c_X1 W)
 refine XL ?_
 refine Xf ?_ (fun W hW => c_X2 W)
 refine XN ?_
 intro Z8y W1 n_t7_1 hE k_t7
 have sz_1 := bel.size
 skip
 refine Lp ?_ k_t7 (cells := J1 .i64 16 (Q2 X2)) (h1 := (Y7 _ _ _))
 intro W2 hO h_
 refine LN ?_
 replace k_t2 := ko k_t2 hE hO (by omega)
 replace k_t3 := ko k_t3 hE hO (by omega)
 replace k_t4 := ko k_t4 hE hO (by omega)
 replace k_t7 := h_
 replace bel := bwo bel hE hO bel.size (by omega)
 clear hO h_
 go_upto_region 3 with fail
 have lt_t7_2 := J5 k_t7
 have c_X3 := J02 X2 X2 bX2 bX2
 obtain ⟨X3, hX3⟩ := V2 (X2 * X2 % PP)
 rw [← hX3] at c_X3
 have bX3 := J0v hX3
 have HX3 := Lib.hid hX3
 clear hX3
 have c_X4 := J02 X3 B bX3 hB
 obtain ⟨X4, hX4⟩ := V2 (X3 * B % PP)
 rw [← hX4] at c_X4
 have bX4 := J0v hX4
 have HX4 := Lib.hid hX4
 clear hX4
 refine Rx1 5 8 (z := J1 .i64 16 (fun _ => 0)) (t := 76) ?_
 refine XL ?_
 refine XL ?_
 refine Xf ?_ (fun W hW => c_X3 W)
 refine XL ?_
 refine Xf ?_ (fun W hW => c_X4 W)
 refine XN ?_
 intro Z5y W3 n_t8_3 hE k_t8
 have sz_3 := bel.size
 skip
 refine Lp ?_ k_t8 (cells := J1 .i64 16 (Q2 X4)) (h1 := (Y7 _ _ _))
 intro W4 hO h_
 refine LN ?_
 replace k_t2 := ko k_t2 hE hO (by omega)
 replace k_t3 := ko k_t3 hE hO (by omega)
 replace k_t4 := ko k_t4 hE hO (by omega)
 replace k_t7 := ko k_t7 hE hO (by omega)
 replace k_t8 := h_
 replace bel := bwo bel hE hO bel.size (by omega)
 clear hO h_
 go_upto_region 4 with fail
 have lt_t8_4 := J5 k_t8
 have c_X5 := J02 A X2 (J58 hA) bX2
 obtain ⟨X5, hX5⟩ := V2 (A * X2 % PP)
 rw [← hX5] at c_X5
 have bX5 := J0v hX5
 have HX5 := Lib.hid hX5
 clear hX5
 have c_X6 := J02 A X4 (J58 hA) bX4
 obtain ⟨X6, hX6⟩ := V2 (A * X4 % PP)
 rw [← hX6] at c_X6
 have bX6 := J0v hX6
 have HX6 := Lib.hid hX6
 clear hX6
 have c_X7 := Q5m X6 7237005577332262213973186563042994240829374041602535252466099000494570602493 bX6 (by decide)
 obtain ⟨X7, hX7⟩ := V2 (pw X6 7237005577332262213973186563042994240829374041602535252466099000494570602493)
 rw [← hX7] at c_X7
 have bX7 : X7 < Z0 := by rw [hX7]; exact J9h _ _
 have HX7 := Lib.hid hX7
 clear hX7
 have c_X8 := J02 X5 X7 bX5 bX7
 obtain ⟨X8, hX8⟩ := V2 (X5 * X7 % PP)
 rw [← hX8] at c_X8
 have bX8 := J0v hX8
 have HX8 := Lib.hid hX8
 clear hX8
 refine Rx1 15 9 (z := J1 .i64 16 (fun _ => 0)) (t := 76) ?_
 refine XL ?_
 refine XL ?_
 refine Xf ?_ (fun W hW => c_X5 W)
 refine XL ?_
 refine XL ?_
 refine Xf ?_ (fun W hW => c_X6 W)
 refine Xv ?_
 refine Xv ?_
 refine Xv ?_
 refine Xv ?_
 refine Xv ?_
 refine Xv ?_
 refine Xv ?_
 refine Xf ?_ (fun W hW => c_X7 W)
 refine Xf ?_ (fun W hW => c_X8 W)
 refine XN ?_
 intro Z8z W5 n_t9_5 hE k_t9
 have sz_5 := bel.size
 skip
 refine Lp ?_ k_t9 (cells := J1 .i64 16 (Q2 X8)) (h1 := (Y7 _ _ _))
 intro W6 hO h_
 refine LN ?_
 replace k_t2 := ko k_t2 hE hO (by omega)
 replace k_t3 := ko k_t3 hE hO (by omega)
 replace k_t4 := ko k_t4 hE hO (by omega)
 replace k_t7 := ko k_t7 hE hO (by omega)
 replace k_t8 := ko k_t8 hE hO (by omega)
 replace k_t9 := h_
 replace bel := bwo bel hE hO bel.size (by omega)
 clear hO h_
 go_upto_region 5 with fail
 have lt_t9_6 := J5 k_t9
 have c_X9 := J02 X8 X8 bX8 bX8
 obtain ⟨X9, hX9⟩ := V2 (X8 * X8 % PP)
 rw [← hX9] at c_X9
 have bX9 := J0v hX9
 have HX9 := Lib.hid hX9
 clear hX9
 have c_X10 := J02 B X9 hB bX9
 obtain ⟨X10, hX10⟩ := V2 (B * X9 % PP)
 rw [← hX10] at c_X10
 have bX10 := J0v hX10
 have HX10 := Lib.hid hX10
 clear hX10
 refine Rx1 5 10 (z := J1 .i64 16 (fun _ => 0)) (t := 76) ?_
 refine XL ?_
 refine XL ?_
 refine XL ?_
 refine Xf ?_ (fun W hW => c_X9 W)
 refine Xf ?_ (fun W hW => c_X10 W)
 refine XN ?_
 intro Z00 W7 n_t10_7 hE k_t10
 have sz_7 := bel.size
 skip
 refine Lp ?_ k_t10 (cells := J1 .i64 16 (Q2 X10)) (h1 := (Y7 _ _ _))
 intro W8 hO h_
 refine LN ?_
 replace k_t2 := ko k_t2 hE hO (by omega)
 replace k_t3 := ko k_t3 hE hO (by omega)
 replace k_t4 := ko k_t4 hE hO (by omega)
 replace k_t7 := ko k_t7 hE hO (by omega)
 replace k_t8 := ko k_t8 hE hO (by omega)
 replace k_t9 := ko k_t9 hE hO (by omega)
 replace k_t10 := h_
 replace bel := bwo bel hE hO bel.size (by omega)
 clear hO h_
 go_upto_region 6 with fail
 have lt_t10_8 := J5 k_t10
 have e_11 := Q8f X10 A bX10 (J58 hA)
 have hw : X10 = rtW A B := by rw [HX10.out, HX9.out, HX8.out, HX7.out, HX6.out, HX5.out, HX4.out, HX3.out, HX2.out, HX1.out]; rfl
 rw [decide_eq_false (show ¬ X10 = A by rw [hw]; exact h1)] at e_11
 have HW := Lib.hid hw
 clear hw
 refine Px 3 ?_
 refine XL ?_
 refine XL ?_
 ((with_reducible refine J3p (e_11) ?_ ?_ rfl ?_ ?_ ?_); (focus kernel_rfl); (focus rfl); (focus rfl); (focus rfl); (try simp only [Act.put, mA, mB, mC]))
 refine Q3 fun W9 hE => ?_
 refine J0 ?_
 replace k_t2 := J2 k_t2 hE
 replace k_t3 := J2 k_t3 hE
 replace k_t4 := J2 k_t4 hE
 replace k_t7 := J2 k_t7 hE
 replace k_t8 := J2 k_t8 hE
 replace k_t9 := J2 k_t9 hE
 replace k_t10 := J2 k_t10 hE
 replace bel := Z5 bel hE bel.size
 go_upto_region 8 with fail
 have lt_t10_9 := J5 k_t10
 have c_X12 := Q4y A (Nat.le_of_lt hA)
 obtain ⟨X12, hX12⟩ := V2 ((PP - A) % PP)
 rw [← hX12] at c_X12
 have bX12 := J0v hX12
 have HX12 := Lib.hid hX12
 clear hX12
 have e_13 := Q8f X10 X12 bX10 bX12
 rw [decide_eq_true (show X10 = X12 by rw [HW.out, HX12.out]; exact h2)] at e_13
 refine Rx 4 ?_
 refine XL ?_
 refine XL ?_
 refine Xf ?_ (fun W hW => c_X12 W)
 ((with_reducible refine J3p (e_13) ?_ ?_ rfl ?_ ?_ ?_); (focus kernel_rfl); (focus rfl); (focus rfl); (focus rfl); (try simp only [Act.put, mA, mB, mC]))
 refine Q3 fun W10 hE => ?_
 refine LN ?_
 replace k_t2 := J2 k_t2 hE
 replace k_t3 := J2 k_t3 hE
 replace k_t4 := J2 k_t4 hE
 replace k_t7 := J2 k_t7 hE
 replace k_t8 := J2 k_t8 hE
 replace k_t9 := J2 k_t9 hE
 replace k_t10 := J2 k_t10 hE
 replace bel := Z5 bel hE bel.size
 go_upto_region 9 with fail
 have lt_t10_10 := J5 k_t10
 have c_X14 := J02 X8 II bX8 Y6a
 obtain ⟨X14, hX14⟩ := V2 (X8 * II % PP)
 rw [← hX14] at c_X14
 have bX14 := J0v hX14
 have HX14 := Lib.hid hX14
 clear hX14
 refine Rx 3 ?_
 refine XL ?_
 refine Xf ?_ (fun W hW => V5a W)
 refine Xf ?_ (fun W hW => c_X14 W)
 refine Q3 fun W11 hE => ?_
 refine LS ?_ (J2 k_t4 hE) (g := (w.heap.size + 2)) (cells := J1 .i64 16 (Q2 X14)) (h1 := (Y7 _ _ _))
 refine Lv ?_
 refine LN ?_
 have hF : Below w.heap.size w (W11.setRow (w.heap.size + 2) (J1 .i64 16 (Q2 X14))) ∧ Blk (W11.setRow (w.heap.size + 2) (J1 .i64 16 (Q2 X14))) w.heap.size (J1 .i64 16 (Q2 A)) 76 ∧ Blk (W11.setRow (w.heap.size + 2) (J1 .i64 16 (Q2 X14))) (w.heap.size + 1) (J1 .i64 16 (Q2 B)) 76 ∧ Blk (W11.setRow (w.heap.size + 2) (J1 .i64 16 (Q2 X14))) (w.heap.size + 2) (J1 .i64 16 (Q2 X14)) 76 ∧ Blk (W11.setRow (w.heap.size + 2) (J1 .i64 16 (Q2 X14))) Z8y (J1 .i64 16 (Q2 X2)) 76 ∧ Blk (W11.setRow (w.heap.size + 2) (J1 .i64 16 (Q2 X14))) Z5y (J1 .i64 16 (Q2 X4)) 76 ∧ Blk (W11.setRow (w.heap.size + 2) (J1 .i64 16 (Q2 X14))) Z8z (J1 .i64 16 (Q2 X8)) 76 ∧ Blk (W11.setRow (w.heap.size + 2) (J1 .i64 16 (Q2 X14))) Z00 (J1 .i64 16 (Q2 X10)) 76 := ⟨(Y5 (Z5 bel hE bel.size) (by omega) _), (J4 (J2 k_t2 hE) (by omega) _), (J4 (J2 k_t3 hE) (by omega) _), (V0 (J2 k_t4 hE) (J1 .i64 16 (Q2 X14))), (J4 (J2 k_t7 hE) (by omega) _), (J4 (J2 k_t8 hE) (by omega) _), (J4 (J2 k_t9 hE) (by omega) _), (J4 (J2 k_t10 hE) (by omega) _)⟩
 generalize (W11.setRow (w.heap.size + 2) (J1 .i64 16 (Q2 X14))) = W12 at hF ⊢
 clear bel k_t2 k_t3 k_t4 k_t7 k_t8 k_t9 k_t10
 obtain ⟨bel, k_t2, k_t3, k_t4, k_t7, k_t8, k_t9, k_t10⟩ := hF
 go_wp2
 refine bodyPost_ret (V8 rfl rfl rfl k_t4 (by kernel_rfl) (by kernel_rfl)) rfl ⟨?_, bel⟩
 rw [HX14.out, HX8.out, HX7.out, HX6.out, HX5.out, HX4.out, HX3.out, HX2.out, HX1.out]; rfl
theorem Y3w (A B : Nat) (hA : A < PP) (hB : B < Z0) (h1 : ¬ rtW A B = A) (h2 : ¬ rtW A B = (PP - A) % PP) (w : World) :
  Calls Tryd.prog 98 #[A16 A, A16 B] w fun e w' => Ret (.tuple #[A16 0, .bool false]) w w' e := by
 unfold A16
 go_enter Tryd.func98, Tryd.ntmps98
 go_upto_region 2 with fail
 refine wn3 (c1 := (J1 .i64 16 (Q2 A))) (t1 := 76) (c2 := (J1 .i64 16 (Q2 B))) (t2 := 76) (c3 := (J1 .i64 16 (fun _ => 0))) (t3 := 76) fun W0 bel k_t2 k_t3 k_t4 => ?_
 have lt_t2_0 := J5 k_t2
 have lt_t3_0 := J5 k_t3
 have lt_t4_0 := J5 k_t4
 have c_X1 := J02 B B hB hB
 obtain ⟨X1, hX1⟩ := V2 (B * B % PP)
 rw [← hX1] at c_X1
 have bX1 := J0v hX1
 have HX1 := Lib.hid hX1
 clear hX1
 have c_X2 := J02 X1 B bX1 hB
 obtain ⟨X2, hX2⟩ := V2 (X1 * B % PP)
 rw [← hX2] at c_X2
 have bX2 := J0v hX2
 have HX2 := Lib.hid hX2
 clear hX2
 refine Rx1 5 7 (z := J1 .i64 16 (fun _ => 0)) (t := 76) ?_
 refine XL ?_
 refine XL ?_
 refine Xf ?_ (fun W hW => c_X1 W)
 refine XL ?_
 refine Xf ?_ (fun W hW => c_X2 W)
 refine XN ?_
 intro Z8y W1 n_t7_1 hE k_t7
 have sz_1 := bel.size
 skip
 refine Lp ?_ k_t7 (cells := J1 .i64 16 (Q2 X2)) (h1 := (Y7 _ _ _))
 intro W2 hO h_
 refine LN ?_
 replace k_t2 := ko k_t2 hE hO (by omega)
 replace k_t3 := ko k_t3 hE hO (by omega)
 replace k_t4 := ko k_t4 hE hO (by omega)
 replace k_t7 := h_
 replace bel := bwo bel hE hO bel.size (by omega)
 clear hO h_
 go_upto_region 3 with fail
 have lt_t7_2 := J5 k_t7
 have c_X3 := J02 X2 X2 bX2 bX2
 obtain ⟨X3, hX3⟩ := V2 (X2 * X2 % PP)
 rw [← hX3] at c_X3
 have bX3 := J0v hX3
 have HX3 := Lib.hid hX3
 clear hX3
 have c_X4 := J02 X3 B bX3 hB
 obtain ⟨X4, hX4⟩ := V2 (X3 * B % PP)
 rw [← hX4] at c_X4
 have bX4 := J0v hX4
 have HX4 := Lib.hid hX4
 clear hX4
 refine Rx1 5 8 (z := J1 .i64 16 (fun _ => 0)) (t := 76) ?_
 refine XL ?_
 refine XL ?_
 refine Xf ?_ (fun W hW => c_X3 W)
 refine XL ?_
 refine Xf ?_ (fun W hW => c_X4 W)
 refine XN ?_
 intro Z5y W3 n_t8_3 hE k_t8
 have sz_3 := bel.size
 skip
 refine Lp ?_ k_t8 (cells := J1 .i64 16 (Q2 X4)) (h1 := (Y7 _ _ _))
 intro W4 hO h_
 refine LN ?_
 replace k_t2 := ko k_t2 hE hO (by omega)
 replace k_t3 := ko k_t3 hE hO (by omega)
 replace k_t4 := ko k_t4 hE hO (by omega)
 replace k_t7 := ko k_t7 hE hO (by omega)
 replace k_t8 := h_
 replace bel := bwo bel hE hO bel.size (by omega)
 clear hO h_
 go_upto_region 4 with fail
 have lt_t8_4 := J5 k_t8
 have c_X5 := J02 A X2 (J58 hA) bX2
 obtain ⟨X5, hX5⟩ := V2 (A * X2 % PP)
 rw [← hX5] at c_X5
 have bX5 := J0v hX5
 have HX5 := Lib.hid hX5
 clear hX5
 have c_X6 := J02 A X4 (J58 hA) bX4
 obtain ⟨X6, hX6⟩ := V2 (A * X4 % PP)
 rw [← hX6] at c_X6
 have bX6 := J0v hX6
 have HX6 := Lib.hid hX6
 clear hX6
 have c_X7 := Q5m X6 7237005577332262213973186563042994240829374041602535252466099000494570602493 bX6 (by decide)
 obtain ⟨X7, hX7⟩ := V2 (pw X6 7237005577332262213973186563042994240829374041602535252466099000494570602493)
 rw [← hX7] at c_X7
 have bX7 : X7 < Z0 := by rw [hX7]; exact J9h _ _
 have HX7 := Lib.hid hX7
 clear hX7
 have c_X8 := J02 X5 X7 bX5 bX7
 obtain ⟨X8, hX8⟩ := V2 (X5 * X7 % PP)
 rw [← hX8] at c_X8
 have bX8 := J0v hX8
 have HX8 := Lib.hid hX8
 clear hX8
 refine Rx1 15 9 (z := J1 .i64 16 (fun _ => 0)) (t := 76) ?_
 refine XL ?_
 refine XL ?_
 refine Xf ?_ (fun W hW => c_X5 W)
 refine XL ?_
 refine XL ?_
 refine Xf ?_ (fun W hW => c_X6 W)
 refine Xv ?_
 refine Xv ?_
 refine Xv ?_
 refine Xv ?_
 refine Xv ?_
 refine Xv ?_
 refine Xv ?_
 refine Xf ?_ (fun W hW => c_X7 W)
 refine Xf ?_ (fun W hW => c_X8 W)
 refine XN ?_
 intro Z8z W5 n_t9_5 hE k_t9
 have sz_5 := bel.size
 skip
 refine Lp ?_ k_t9 (cells := J1 .i64 16 (Q2 X8)) (h1 := (Y7 _ _ _))
 intro W6 hO h_
 refine LN ?_
 replace k_t2 := ko k_t2 hE hO (by omega)
 replace k_t3 := ko k_t3 hE hO (by omega)
 replace k_t4 := ko k_t4 hE hO (by omega)
 replace k_t7 := ko k_t7 hE hO (by omega)
 replace k_t8 := ko k_t8 hE hO (by omega)
 replace k_t9 := h_
 replace bel := bwo bel hE hO bel.size (by omega)
 clear hO h_
 go_upto_region 5 with fail
 have lt_t9_6 := J5 k_t9
 have c_X9 := J02 X8 X8 bX8 bX8
 obtain ⟨X9, hX9⟩ := V2 (X8 * X8 % PP)
 rw [← hX9] at c_X9
 have bX9 := J0v hX9
 have HX9 := Lib.hid hX9
 clear hX9
 have c_X10 := J02 B X9 hB bX9
 obtain ⟨X10, hX10⟩ := V2 (B * X9 % PP)
 rw [← hX10] at c_X10
 have bX10 := J0v hX10
 have HX10 := Lib.hid hX10
 clear hX10
 refine Rx1 5 10 (z := J1 .i64 16 (fun _ => 0)) (t := 76) ?_
 refine XL ?_
 refine XL ?_
 refine XL ?_
 refine Xf ?_ (fun W hW => c_X9 W)
 refine Xf ?_ (fun W hW => c_X10 W)
 refine XN ?_
 intro Z00 W7 n_t10_7 hE k_t10
 have sz_7 := bel.size
 skip
 refine Lp ?_ k_t10 (cells := J1 .i64 16 (Q2 X10)) (h1 := (Y7 _ _ _))
 intro W8 hO h_
 refine LN ?_
 replace k_t2 := ko k_t2 hE hO (by omega)
 replace k_t3 := ko k_t3 hE hO (by omega)
 replace k_t4 := ko k_t4 hE hO (by omega)
 replace k_t7 := ko k_t7 hE hO (by omega)
 replace k_t8 := ko k_t8 hE hO (by omega)
 replace k_t9 := ko k_t9 hE hO (by omega)
 replace k_t10 := h_
 replace bel := bwo bel hE hO bel.size (by omega)
 clear hO h_
 go_upto_region 6 with fail
 have lt_t10_8 := J5 k_t10
 have e_11 := Q8f X10 A bX10 (J58 hA)
 have hw : X10 = rtW A B := by rw [HX10.out, HX9.out, HX8.out, HX7.out, HX6.out, HX5.out, HX4.out, HX3.out, HX2.out, HX1.out]; rfl
 rw [decide_eq_false (show ¬ X10 = A by rw [hw]; exact h1)] at e_11
 have HW := Lib.hid hw
 clear hw
 refine Px 3 ?_
 refine XL ?_
 refine XL ?_
 ((with_reducible refine J3p (e_11) ?_ ?_ rfl ?_ ?_ ?_); (focus kernel_rfl); (focus rfl); (focus rfl); (focus rfl); (try simp only [Act.put, mA, mB, mC]))
 refine Q3 fun W9 hE => ?_
 refine J0 ?_
 replace k_t2 := J2 k_t2 hE
 replace k_t3 := J2 k_t3 hE
 replace k_t4 := J2 k_t4 hE
 replace k_t7 := J2 k_t7 hE
 replace k_t8 := J2 k_t8 hE
 replace k_t9 := J2 k_t9 hE
 replace k_t10 := J2 k_t10 hE
 replace bel := Z5 bel hE bel.size
 go_upto_region 8 with fail
 have lt_t10_9 := J5 k_t10
 have c_X12 := Q4y A (Nat.le_of_lt hA)
 obtain ⟨X12, hX12⟩ := V2 ((PP - A) % PP)
 rw [← hX12] at c_X12
 have bX12 := J0v hX12
 have HX12 := Lib.hid hX12
 clear hX12
 have e_13 := Q8f X10 X12 bX10 bX12
 rw [decide_eq_false (show ¬ X10 = X12 by rw [HW.out, HX12.out]; exact h2)] at e_13
 refine Rx 4 ?_
 refine XL ?_
 refine XL ?_
 refine Xf ?_ (fun W hW => c_X12 W)
 ((with_reducible refine J3p (e_13) ?_ ?_ rfl ?_ ?_ ?_); (focus kernel_rfl); (focus rfl); (focus rfl); (focus rfl); (try simp only [Act.put, mA, mB, mC]))
 refine Q3 fun W10 hE => ?_
 refine LN ?_
 replace k_t2 := J2 k_t2 hE
 replace k_t3 := J2 k_t3 hE
 replace k_t4 := J2 k_t4 hE
 replace k_t7 := J2 k_t7 hE
 replace k_t8 := J2 k_t8 hE
 replace k_t9 := J2 k_t9 hE
 replace k_t10 := J2 k_t10 hE
 replace bel := Z5 bel hE bel.size
 go_upto_region 10 with fail
 have lt_t10_10 := J5 k_t10
 refine Px 1 ?_
 refine Xv ?_
 refine Q3 fun W11 hE => ?_
 refine LS ?_ (J2 k_t4 hE) (g := (w.heap.size + 2)) (cells := J1 .i64 16 (Q2 0)) (h1 := (Y7 _ _ _))
 refine Lv ?_
 refine J0 ?_
 have hF : Below w.heap.size w (W11.setRow (w.heap.size + 2) (J1 .i64 16 (Q2 0))) ∧ Blk (W11.setRow (w.heap.size + 2) (J1 .i64 16 (Q2 0))) w.heap.size (J1 .i64 16 (Q2 A)) 76 ∧ Blk (W11.setRow (w.heap.size + 2) (J1 .i64 16 (Q2 0))) (w.heap.size + 1) (J1 .i64 16 (Q2 B)) 76 ∧ Blk (W11.setRow (w.heap.size + 2) (J1 .i64 16 (Q2 0))) (w.heap.size + 2) (J1 .i64 16 (Q2 0)) 76 ∧ Blk (W11.setRow (w.heap.size + 2) (J1 .i64 16 (Q2 0))) Z8y (J1 .i64 16 (Q2 X2)) 76 ∧ Blk (W11.setRow (w.heap.size + 2) (J1 .i64 16 (Q2 0))) Z5y (J1 .i64 16 (Q2 X4)) 76 ∧ Blk (W11.setRow (w.heap.size + 2) (J1 .i64 16 (Q2 0))) Z8z (J1 .i64 16 (Q2 X8)) 76 ∧ Blk (W11.setRow (w.heap.size + 2) (J1 .i64 16 (Q2 0))) Z00 (J1 .i64 16 (Q2 X10)) 76 := ⟨(Y5 (Z5 bel hE bel.size) (by omega) _), (J4 (J2 k_t2 hE) (by omega) _), (J4 (J2 k_t3 hE) (by omega) _), (V0 (J2 k_t4 hE) (J1 .i64 16 (Q2 0))), (J4 (J2 k_t7 hE) (by omega) _), (J4 (J2 k_t8 hE) (by omega) _), (J4 (J2 k_t9 hE) (by omega) _), (J4 (J2 k_t10 hE) (by omega) _)⟩
 generalize (W11.setRow (w.heap.size + 2) (J1 .i64 16 (Q2 0))) = W12 at hF ⊢
 clear bel k_t2 k_t3 k_t4 k_t7 k_t8 k_t9 k_t10
 obtain ⟨bel, k_t2, k_t3, k_t4, k_t7, k_t8, k_t9, k_t10⟩ := hF
 go_wp2
 refine bodyPost_ret (V8 rfl rfl rfl k_t4 (by kernel_rfl) (by kernel_rfl)) rfl ⟨?_, bel⟩
 rfl
theorem Z3r (A B : Nat) (hA : A < PP) (hB : B < Z0) (w : World) : Calls Tryd.prog 98 #[A16 A, A16 B] w fun e w' => Ret (.tuple #[A16 (rtR A B), .bool (rtB A B)]) w w' e := by
  unfold rtR rtB
  rw [Nat.mod_eq_of_lt hA]
  by_cases h1 : rtW A B = A
  · rw [if_pos h1, decide_eq_true h1, Bool.true_or]; exact Y3u A B hA hB h1 w
  · rw [if_neg h1, decide_eq_false h1, Bool.false_or]
    by_cases h2 : rtW A B = (PP - A) % PP
    · rw [if_pos h2, decide_eq_true h2]; exact Y3v A B hA hB h1 h2 w
    · rw [if_neg h2, decide_eq_false h2]; exact Y3w A B hA hB h1 h2 w
end Go.Proofs.YtefpoollmbmkfaaDoor

namespace Go.Proofs.YtefpoollmbmkfaaDoor
set_option maxHeartbeats 4000000
set_option maxRecDepth 100000
open Go.RowKit

theorem Q8h (X k : Nat) : IntKind.u8.wrap (Q2 X k) = Q6 X (2 * k) ∧ IntKind.u8.wrap (Q2 X k / 256) = Q6 X (2 * k + 1) := by
  unfold Q2 Q6
  rw [IntKind.wrap_u8, IntKind.wrap_u8, show 8 * (2 * k) = 16 * k by omega, show 8 * (2 * k + 1) = 16 * k + 8 by omega, Nat.pow_add, ← Nat.div_div_eq_div_mul]
  generalize X / 2 ^ (16 * k) = x
  constructor <;> omega

theorem rbytes_c (X : Nat) (w : World) : Calls Tryd.prog 90 #[A16 X] w fun e w' => Ret (Q6i 32 (Q6 X)) w w' e := by
  obtain ⟨i0, hi, hz0, hz1, hz2⟩ := info_parts Z01
  unfold A16
  go_enter Tryd.func90, Tryd.ntmps90
  go_wp2
  go_loopw [3, 4] (fun v ii wr => ∃ k : Nat, k ≤ 16 ∧ ii = .int .i64 k ∧ Below w.heap.size w wr ∧ wr.ownsRow (w.heap.size + 1) 5 1 v (2 * k) (J7b .u8 (2 * k) (Q6 X)) ∧
      Blk wr w.heap.size (J1 .i64 16 (Q2 X)) 76)
    (fun _ ii _ => (16 - intOf ii).toNat)
  case atStart =>
    refine ⟨0, by omega, rfl, ?_, ?_, V3 (K0 _ _ rfl) _⟩
    · exact bz
    · exact ⟨rfl, .inr ⟨w.heap.size + 1, 0, #[], rfl, Nat.le_refl _, K0 _ _ (by simp), Nat.le_refl _, by decide, rfl, rfl⟩⟩
  case round =>
    obtain ⟨k, hk, rfl, hbel, hown, b1⟩ := hrel
    by_cases hk0 : k = 16
    · subst hk0
      have hc := J9r Tryd.underlying23 Tryd.underlying5 hown 9 Tryd.underlying9
      go_wp2
      go_ret
      exact ⟨rfl, hbel⟩
    · have hk' : (k : Int) < 16 := by omega
      have c1 := (Q8 b1 k).trans (J6 _ _ _ _ (by omega))
      have r1 := J0q X k
      obtain ⟨hb1, hb2⟩ := Q8h X k
      have off0.size := hbel.size
      have HB := Lib.hid hbel.size
      have ag : u3.ownBlock ≠ some w.heap.size := fun h => by have := (hown.lt _ h).1; omega
      have hob : ∀ k, u3.ownBlock = some k → w.heap.size + 1 ≤ k := fun k hk => (hown.lt k hk).1
      have HO := Lib.hid hob
      clear hob
      go_wp2_with fail
      go_region_held3 (fun W => W.cell? ⟨w.heap.size, k, none⟩ = some (.int .i64 (Q2 X k)))
        (first
          | go_keep
          | (rw [hgrow.cell_far _ (by simp; omega) (Ne.symm ag)]; first | assumption | (simp [*]; done)))
        ((refine step_append_lies _ (by rfl) (.tmp 10) (.tmp 20) 23 (by rfl) (w.heap.size + 1) 5 i0 (.int .u8 0) 1 1 Tryd.underlying23 hi hz0 hz1 hz2 rfl (by omega) u3 (2 * k) (J7b .u8 (2 * k) (Q6 X)) (by rfl) (by first | exact (hown.alloc _).drew | exact (hown.drew).alloc _)
            ⟨wr.heap.size, 0, none⟩ 2 2 [.int .u8 (Q6 X (2 * k)), .int .u8 (Q6 X (2 * k + 1))] (by rfl) (by rfl) (World.news_of_block (cs := #[.int .u8 (Q6 X (2 * k)), .int .u8 (Q6 X (2 * k + 1))]) (t := 5) (fr := (0, 0)) (heap_alloc_new wr _)) (by simp [Value.oneCell'])
            (by omega) (by unfold maxLen; omega) (by omega) (by simp; omega) (wr.heap.size + 1) (by simp) ?_; intro gg cap w1 hown1 hgrow hat hlt))
      have hob := HO.out
      rw [List.append_cons, ← Q0h, ← Q0h] at hown1
      have hbel' := Q6r ((hbel.alloc off0.size (.cells #[.int .u8 (Q6 X (2 * k)), .int .u8 (Q6 X (2 * k + 1))] 5)).drew) hgrow (by simp; omega) (fun k hk => by have := hob k hk; omega)
      have b1' := Q6s (V4 (V3 b1 _)) hgrow (fun k hk => by have := hob k hk; omega)
      go_wp2
      go_roundw
      case rel =>
        exact ⟨k + 1, by omega, by go_num, hbel', hown1, b1'⟩
      case measure => simp [intOf]; omega
end Go.Proofs.YtefpoollmbmkfaaDoor

namespace Go.Proofs.YtefpoollmbmkfaaDoor
set_option maxHeartbeats 4000000
set_option maxRecDepth 100000
open Go.RowKit

theorem Q41 (a b : Nat) (ha : a < 9223372036854775808) (hb : b < 9223372036854775808) :
    bits .or .i64 (a : Int) (b : Int) = ((a ||| b : Nat) : Int) := by
  have hx : a ||| b < 2 ^ 63 := Nat.or_lt_two_pow (by omega) (by omega)
  have h1 : (BitVec.ofInt 64 (a : Int)).toNat = a := by
    rw [BitVec.ofInt_natCast, BitVec.toNat_ofNat]; exact Nat.mod_eq_of_lt (by omega)
  have h2 : (BitVec.ofInt 64 (b : Int)).toNat = b := by
    rw [BitVec.ofInt_natCast, BitVec.toNat_ofNat]; exact Nat.mod_eq_of_lt (by omega)
  show IntKind.i64.wrap ((BitVec.ofInt 64 (a : Int) ||| BitVec.ofInt 64 (b : Int)).toNat : Int) = _
  rw [BitVec.toNat_or, h1, h2, IntKind.wrap_i64]
  omega
theorem Y3x (V k : Nat) : bits .or .i64 (Q6 V (2 * k)) (Q6 V (2 * k + 1) * 2 ^ 8) = Q2 V k := by
  unfold Q6 Q2
  rw [show 8 * (2 * k) = 16 * k by omega, show 8 * (2 * k + 1) = 16 * k + 8 by omega, Nat.pow_add, ← Nat.div_div_eq_div_mul]
  generalize V / 2 ^ (16 * k) = x
  have h1 : x % 256 < 2 ^ 8 := Nat.mod_lt _ (by decide)
  have e : ((x / 2 ^ 8 % 256 : Nat) : Int) * 2 ^ 8 = ((x / 2 ^ 8 % 256 * 256 : Nat) : Int) := by rw [Int.natCast_mul]; rfl
  rw [e]
  have e3 : x % 256 ||| x / 2 ^ 8 % 256 * 256 = x % 65536 := by
    rw [Nat.or_comm, show (256 : Nat) = 2 ^ 8 by decide, Nat.mul_comm, ← Nat.two_pow_add_eq_or_of_lt h1]; omega
  rw [Q41 _ _ (by omega) (by omega), e3]
theorem Y3y (V : Nat) : bits .and .i64 (Q2 V 15) 32767 = Q2 (V % 2 ^ 255) 15 := by
  have h := J0q V 15
  have e := bits_mask .i64 63 (by decide) (fun n a b => by rw [IntKind.wrap_i64]; omega) 15 (by omega) (Q2 V 15) h.1 (by omega)
  have e1 : (2 : Int) ^ 15 - 1 = 32767 := by decide
  have e2 : (2 : Int) ^ 15 = 32768 := by decide
  rw [e1, e2] at e
  rw [e]
  unfold Q2
  simp only [Nat.reduceMul, Nat.reducePow]
  omega
theorem Y3z (V : Nat) : (J1 .i64 16 (Q2 V)).setIfInBounds 15 (.int .i64 (bits .and .i64 (Q2 V 15) 32767)) = J1 .i64 16 (Q2 (V % 2 ^ 255)) := by
  rw [Y3y, J04]
  apply J0d
  intro j hj
  by_cases h3 : j = 15
  · subst h3; rw [J31]
  · rw [J19 _ _ _ _ h3]
    have : j = 0 ∨ j = 1 ∨ j = 2 ∨ j = 3 ∨ j = 4 ∨ j = 5 ∨ j = 6 ∨ j = 7 ∨ j = 8 ∨ j = 9 ∨ j = 10 ∨ j = 11 ∨ j = 12 ∨ j = 13 ∨ j = 14 := by omega
    unfold Q2
    rcases this with rfl | rfl | rfl | rfl | rfl | rfl | rfl | rfl | rfl | rfl | rfl | rfl | rfl | rfl | rfl <;> simp only [Nat.reduceMul, Nat.reducePow] <;> omega

theorem Y3p (V : Nat) (w : World) :
  Calls Tryd.prog 97 #[Q6i 32 (Q6 V)] w fun e w' => Ret (A16 (V % 2 ^ 255 % PP)) w w' e := by
 have hI : ∀ j : Nat, j < 32 → ∀ W, (Instr.index 9 (Q6i 32 (Q6 V)) (.int .i64 (j : Int))).run Tryd.prog W = .ok (.int .u8 (Q6 V j)) W := fun j hj W => Q5n 9 Tryd.underlying9 32 (Q6 V) (fun i _ => J4p V i) j hj W
 have HI := Lib.hid hI
 clear hI
 obtain ⟨S, hS⟩ := V2 (Q6i 32 (Q6 V))
 rw [← hS] at HI ⊢
 clear hS
 go_enter Tryd.func97, Tryd.ntmps97
 go_wp2_with fail
 refine wn2 (c1 := (J1 .i64 16 (fun _ => 0))) (t1 := 76) (c2 := (J1 .i64 16 (fun _ => 0))) (t2 := 76) fun W0 bel k_t2 k_t3 => ?_
 have lt_t2_0 := J5 k_t2
 have lt_t3_0 := J5 k_t3
 go_wp2_with fail
 go_loopw [4] (fun ii wr => ∃ (k : Nat), k ≤ 16 ∧ ii = .int .i64 k ∧ Below w.heap.size w wr ∧ Blk wr w.heap.size (J1 .i64 16 (fun _ => 0)) 76 ∧ Blk wr (w.heap.size + 1) (J1 .i64 16 (J6n k (Q2 V) (fun _ => 0))) 76)
  (fun ii _ => (16 - intOf ii).toNat)
 case atStart =>
  refine ⟨0, by omega, rfl, bel, k_t2, ?_⟩
  rw [J3y]; exact k_t3
 case round =>
  obtain ⟨k, hk, rfl, bel, k_t2, k_t3⟩ := hrel
  by_cases hexit : k = 16
  ·
   have _hx := hexit
   subst hexit
   rw [J52] at k_t3
   have c3 := (Q8 k_t3 15).trans (J6 _ _ _ _ (by omega))
   have f3 := K5 k_t3
   have bT : V % 2 ^ 255 < Z0 := Nat.lt_trans (Nat.mod_lt _ (by decide)) (by decide)
   go_upto_region 7 with fail
   have hs := V1 k_t3 15 (.int .i64 (bits .and .i64 (Q2 V 15) 32767))
   rw [Y3z] at hs
   have hF := And.intro (Y8 bel (show w.heap.size ≤ (w.heap.size + 1) by omega) 15 (.int .i64 (bits .and .i64 (Q2 V 15) 32767))) (And.intro (J9 k_t2 (show w.heap.size ≠ (w.heap.size + 1) by omega) 15 (.int .i64 (bits .and .i64 (Q2 V 15) 32767))) hs)
   generalize wr.setCell ⟨w.heap.size + 1, 15, none⟩ (.int .i64 (bits .and .i64 (Q2 V 15) 32767)) = Wm at hF ⊢
   clear bel k_t2 k_t3 c3 f3 hs
   obtain ⟨bel, k_t2, k_t3⟩ := hF
   have lt_t2_1 := J5 k_t2
   have lt_t3_1 := J5 k_t3
   have c_t := Q43 (Q2 (V % 2 ^ 255)) (Z3e _)
   rw [Q9o _ bT] at c_t
   obtain ⟨R, hR⟩ := V2 (V % 2 ^ 255 % PP)
   rw [← hR] at c_t
   have HR := Lib.hid hR
   clear hR
   refine Px 2 ?_
   refine XL ?_
   refine Xf ?_ (fun W hW => c_t W)
   refine Q3 fun W2 hE => ?_
   refine LS ?_ (J2 k_t2 hE) (g := w.heap.size) (cells := J1 .i64 16 (Q2 R)) (h1 := (Y7 _ _ _))
   refine J0 ?_
   have hF : Below w.heap.size w (W2.setRow w.heap.size (J1 .i64 16 (Q2 R))) ∧ Blk (W2.setRow w.heap.size (J1 .i64 16 (Q2 R))) w.heap.size (J1 .i64 16 (Q2 R)) 76 ∧ Blk (W2.setRow w.heap.size (J1 .i64 16 (Q2 R))) (w.heap.size + 1) (J1 .i64 16 (Q2 (V % 2 ^ 255))) 76 := ⟨(Y5 (Z5 bel hE bel.size) (by omega) _), (V0 (J2 k_t2 hE) (J1 .i64 16 (Q2 R))), (J4 (J2 k_t3 hE) (by omega) _)⟩
   generalize (W2.setRow w.heap.size (J1 .i64 16 (Q2 R))) = W3 at hF ⊢
   clear bel k_t2 k_t3
   obtain ⟨bel, k_t2, k_t3⟩ := hF
   go_wp2
   refine bodyPost_ret (K6 rfl rfl k_t2 (by kernel_rfl) (by kernel_rfl)) rfl ⟨?_, bel⟩
   (rw [← HR.out] <;> rfl)
  ·
   have hk3 : k < 16 := by omega
   have hk3' : (k : Int) < 16 := by omega
   clear hexit
   have c3 := (Q8 k_t3 k).trans (J6 _ _ _ _ hk3)
   rw [J6o] at c3
   have f3 := K5 k_t3
   have i0 := fun W => HI.out (2 * k) (by omega) W
   have i1 := fun W => HI.out (2 * k + 1) (by omega) W
   obtain ⟨b0, b1⟩ := J4p V (2 * k)
   obtain ⟨b2, b3⟩ := J4p V (2 * k + 1)
   have ho : bits .or .i64 (Q6 V (2 * k)) (Q6 V (2 * k + 1) * 256) = Q2 V k := Y3x V k
   have w0 : IntKind.i64.wrap (2 * (k : Int)) = 2 * (k : Int) := IntWalk.i64_in _ (by omega)
   have w1 : IntKind.i64.wrap (2 * (k : Int) + 1) = 2 * (k : Int) + 1 := IntWalk.i64_in _ (by omega)
   have e0 : ((2 * k : Nat) : Int) = 2 * (k : Int) := by omega
   have e1 : ((2 * k + 1 : Nat) : Int) = 2 * (k : Int) + 1 := by omega
   rw [e0] at i0
   rw [e1] at i1
   have w2 : IntKind.i64.wrap (Q6 V (2 * k)) = Q6 V (2 * k) := IntWalk.i64_in _ (by omega)
   have w3 : IntKind.i64.wrap (Q6 V (2 * k + 1)) = Q6 V (2 * k + 1) := IntWalk.i64_in _ (by omega)
   have w4 : IntKind.i64.wrap (Q6 V (2 * k + 1) * 2 ^ 8) = Q6 V (2 * k + 1) * 2 ^ 8 := IntWalk.i64_in _ (by omega)
   have w5 : IntKind.i64.wrap (Q6 V (2 * k + 1) * 256) = Q6 V (2 * k + 1) * 2 ^ 8 := IntWalk.i64_in _ (by omega)
   go_wp2
   go_region
   go_wp2
   have hs := V1 k_t3 k (.int .i64 (Q2 V k))
   rw [J4a] at hs
   go_roundw
   case rel =>
    refine ⟨k + 1, by omega, ?_, ?_, ?_, V4 hs⟩
    ·
     (first | rfl | go_num)
    ·
     exact (Y8 bel (by omega) _ _).drew
    ·
     exact V4 (J9 k_t2 (by omega) _ _)
   case measure => simp [intOf]; omega
end Go.Proofs.YtefpoollmbmkfaaDoor
