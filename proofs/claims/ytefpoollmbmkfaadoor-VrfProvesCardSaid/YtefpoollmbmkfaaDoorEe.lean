/- custumalref05.Pow, Inv, I. No conditions. custumalref05.Root. Conditions: the first number is below the modulus. custumalref05.Bytes: 16 parts as 32 bytes. No conditions. custumalref05.FromBytes. Conditions: the text is 32 bytes. -/
import Derived.Test.YtefpoollmbmkfaaDoorEc
import Derived.Test.YtefpoollmbmkfaaDoorEb
import Derived.Test.YtefpoollmbmkfaaDoorGc
set_option linter.unusedSimpArgs false
set_option linter.unusedVariables false
namespace Go.Proofs.YtefpoollmbmkfaaDoor
set_option maxHeartbeats 4000000
set_option maxRecDepth 100000
open Go.RowKit

theorem lim_bit2 (n q r : Nat) (hr : r < 64) : (lim n q / 2 ^ r) % 2 = ((n / 2 ^ (64 * q + r) % 2 : Nat) : Int) := by
  rw [← lim_bit n q r hr]
  obtain ⟨l0, l1⟩ := lim_ok n q
  obtain ⟨X, hX⟩ := Int.eq_ofNat_of_zero_le l0
  rw [hX] at l1 ⊢
  have e : ((X : Int) / 2 ^ r) = ((X / 2 ^ r : Nat) : Int) := by push_cast; rfl
  have hl : X / 2 ^ r ≤ X := Nat.div_le_self _ _
  have e2 : bits .and .u64 (((X / 2 ^ r : Nat) : Int)) ((1 : Nat) : Int) = ((X / 2 ^ r % 2 : Nat) : Int) := by
    rw [bits_and_u64_nat _ _ (by omega) (by omega), Nat.and_one_is_mod]
  rw [e]
  exact (Eq.trans e2 (by omega)).symm
theorem lim_sh (n q r : Nat) : 0 ≤ lim n q / 2 ^ r ∧ (lim n q / 2 ^ r).tmod 2 = (lim n q / 2 ^ r) % 2 := by
  have h : 0 ≤ lim n q / 2 ^ r := Int.ediv_nonneg (lim_ok n q).1 (Int.le_of_lt (Int.pow_pos (by decide)))
  exact ⟨h, Int.tmod_eq_emod_of_nonneg h⟩
/-- the power, bit by bit from the top -/
def mp (A n : Nat) : Nat → Nat
  | 0 => 1
  | c + 1 => if n / 2 ^ (255 - c) % 2 = 1 then (mp A n c * mp A n c % PP) * A % PP else mp A n c * mp A n c % PP
theorem mp_eq (A n : Nat) (hn : n < P256) : ∀ c, c ≤ 256 → mp A n c = pw A (n / 2 ^ (256 - c))
  | 0, _ => by rw [show 256 - 0 = 256 by decide, Nat.div_eq_of_lt (show n < 2 ^ 256 from hn), pw_zero]; rfl
  | c + 1, h => by
    have ih := mp_eq A n hn c (by omega)
    rw [show 256 - c = (255 - c) + 1 by omega] at ih
    rw [show 256 - (c + 1) = 255 - c by omega]
    unfold mp
    rw [ih]
    split
    · rename_i h1; exact pw_half1 A n _ h1
    · rename_i h1; exact pw_half A n _ (by omega)
theorem pw_mp (A n : Nat) (hn : n < P256) : pw A n = mp A n 256 := by
  rw [mp_eq A n hn 256 (by omega), show 256 - 256 = 0 by decide, Nat.pow_zero, Nat.div_one]
theorem II_pw : II = pw 2 ((PP - 1) / 4) := by
  rw [pw_mp _ _ (by decide)]
  decide +kernel

theorem rPow_c (X n : Nat) (hX : X < P256) (hn : n < P256) (w : World) :
  Calls Tryd.prog 116 #[A16 X, L4 n] w fun e w' => Ret (A16 (pw X n)) w w' e := by
 unfold A16
 go_enter Tryd.func116, Tryd.ntmps116
 go_upto_region 1 with fail
 refine wn3 (c1 := (arrK .i64 16 (l16 X))) (t1 := 76) (c2 := (c4 n)) (t2 := 41) (c3 := (arrK .i64 16 (fun _ => 0))) (t3 := 76) fun W0 bel k_t2 k_t3 k_t4 => ?_
 have lt_t2_0 := blk_lt k_t2
 have lt_t3_0 := blk_lt k_t3
 have lt_t4_0 := blk_lt k_t4
 refine Px1 1 5 (z := arrK .i64 16 (fun _ => 0)) (t := 76) ?_
 refine Xv ?_
 refine XN ?_
 intro p5_1 W1 n_t5_1 hE k_t5
 have sz_1 := bel.size
 skip
 refine Lp ?_ k_t5 (cells := arrK .i64 16 (l16 1)) (h1 := (arrK_one _ _ _))
 intro W2 hO h_
 refine wpL_nil ?_
 replace k_t2 := ko k_t2 hE hO (by omega)
 replace k_t3 := ko k_t3 hE hO (by omega)
 replace k_t4 := ko k_t4 hE hO (by omega)
 replace k_t5 := h_
 replace bel := bwo bel hE hO bel.size (by omega)
 clear hO h_
 have lt_t5_2 := blk_lt k_t5
 go_wp2_with fail
 go_loopw [6] (fun ii wr => ∃ (k R : Nat), k ≤ 256 ∧ ii = .int .i64 ((k : Int) - 1) ∧ R = pw X (n / 2 ^ k) ∧ Below w.heap.size w wr ∧ Blk wr w.heap.size (arrK .i64 16 (l16 X)) 76 ∧ Blk wr (w.heap.size + 1) (c4 n) 41 ∧ Blk wr (w.heap.size + 2) (arrK .i64 16 (fun _ => 0)) 76 ∧ Blk wr p5_1 (arrK .i64 16 (l16 R)) 76)
  (fun ii _ => (intOf ii + 1).toNat)
 case atStart =>
  refine ⟨256, 1, by omega, rfl, ?_, bel, k_t2, k_t3, k_t4, k_t5⟩
  rw [Nat.div_eq_of_lt (show n < 2 ^ 256 from hn), pw_zero]
 case round =>
  obtain ⟨k, R, hk, rfl, hR, bel, k_t2, k_t3, k_t4, k_t5⟩ := hrel
  have bR : R < P256 := by rw [hR]; exact pw_lt _ _
  have HR := Lib.hid hR
  clear hR
  by_cases hexit : k = 0
  ·
   have _hx := hexit
   subst hexit
   go_upto_region 8 with fail
   have lt_t2_3 := blk_lt k_t2
   have lt_t3_3 := blk_lt k_t3
   have lt_t4_3 := blk_lt k_t4
   have lt_t5_3 := blk_lt k_t5
   refine Px 1 ?_
   refine XL ?_
   refine wpX_nil fun W4 hE => ?_
   refine Lp ?_ (blk_step k_t4 hE) (cells := arrK .i64 16 (l16 R)) (h1 := (arrK_one _ _ _))
   intro W5 hO h_
   refine wpL_nil ?_
   replace k_t2 := ko k_t2 hE hO (by omega)
   replace k_t3 := ko k_t3 hE hO (by omega)
   replace k_t4 := h_
   replace k_t5 := ko k_t5 hE hO (by omega)
   replace bel := bwo bel hE hO bel.size (by omega)
   clear hO h_
   go_wp2
   refine bodyPost_ret (res_row rfl rfl k_t4 (by kernel_rfl) (by kernel_rfl)) rfl ⟨?_, bel⟩
   rw [HR.out, Nat.pow_zero, Nat.div_one] <;> rfl
  ·
   obtain ⟨q, r, hr, rfl⟩ : ∃ q r, r < 64 ∧ k = 64 * q + r + 1 := ⟨(k - 1) / 64, (k - 1) % 64, by omega, by omega⟩
   have e1 : ((64 * q + r + 1 : Nat) : Int) - 1 = 64 * (q : Int) + (r : Int) := by omega
   rw [e1]
   clear hexit e1
   have d1 : (64 * (q : Int) + (r : Int)) / 64 = (q : Int) := by omega
   have d2 : (64 * (q : Int) + (r : Int)) % 64 = (r : Int) := by omega
   have hq1 : (q : Int) < 4 := by omega
   have hr1 : (r : Int) < 64 := by omega
   have hq0 : (0 : Int) ≤ 64 * (q : Int) + (r : Int) := by omega
   rcases Nat.mod_two_eq_zero_or_one (n / 2 ^ (64 * q + r)) with hbit | hbit
   ·
    have HB := Lib.hid hbit
    go_upto_region 5 with fail
    have lt_t2_3 := blk_lt k_t2
    have lt_t3_3 := blk_lt k_t3
    have lt_t4_3 := blk_lt k_t4
    have lt_t5_3 := blk_lt k_t5
    have c_X1 := rMul_c R R bR bR
    obtain ⟨X1, hX1⟩ := exn (R * R % PP)
    rw [← hX1] at c_X1
    have bX1 := b256 hX1
    have HX1 := Lib.hid hX1
    clear hX1
    refine Px 3 ?_
    refine XL ?_
    refine XL ?_
    refine Xf ?_ (fun W hW => c_X1 W)
    refine wpX_nil fun W4 hE => ?_
    refine Lp ?_ (blk_step k_t5 hE) (cells := arrK .i64 16 (l16 X1)) (h1 := (arrK_one _ _ _))
    intro W5 hO h_
    refine wpL_nil ?_
    replace k_t2 := ko k_t2 hE hO (by omega)
    replace k_t3 := ko k_t3 hE hO (by omega)
    replace k_t4 := ko k_t4 hE hO (by omega)
    replace k_t5 := h_
    replace bel := bwo bel hE hO bel.size (by omega)
    clear hO h_
    have c3 := (blk_cell k_t3 q).trans (c4_get n q (by omega))
    have hbt := lim_bit2 n q r hr
    rw [hbit] at hbt
    obtain ⟨hs0, hs1⟩ := lim_sh n q r
    rw [hbt] at hs1
    clear hbit
    go_wp2_with fail
    go_roundw
    case rel => exact ⟨64 * q + r, X1, by omega, by go_num, by rw [HX1.out, HR.out]; exact pw_half X n _ HB.out, bel, k_t2, k_t3, k_t4, k_t5⟩
    case measure => simp [intOf]; omega
   ·
    have HB := Lib.hid hbit
    go_upto_region 5 with fail
    have lt_t2_3 := blk_lt k_t2
    have lt_t3_3 := blk_lt k_t3
    have lt_t4_3 := blk_lt k_t4
    have lt_t5_3 := blk_lt k_t5
    have c_X1 := rMul_c R R bR bR
    obtain ⟨X1, hX1⟩ := exn (R * R % PP)
    rw [← hX1] at c_X1
    have bX1 := b256 hX1
    have HX1 := Lib.hid hX1
    clear hX1
    refine Px 3 ?_
    refine XL ?_
    refine XL ?_
    refine Xf ?_ (fun W hW => c_X1 W)
    refine wpX_nil fun W4 hE => ?_
    refine Lp ?_ (blk_step k_t5 hE) (cells := arrK .i64 16 (l16 X1)) (h1 := (arrK_one _ _ _))
    intro W5 hO h_
    refine wpL_nil ?_
    replace k_t2 := ko k_t2 hE hO (by omega)
    replace k_t3 := ko k_t3 hE hO (by omega)
    replace k_t4 := ko k_t4 hE hO (by omega)
    replace k_t5 := h_
    replace bel := bwo bel hE hO bel.size (by omega)
    clear hO h_
    have c3 := (blk_cell k_t3 q).trans (c4_get n q (by omega))
    have hbt := lim_bit2 n q r hr
    rw [hbit] at hbt
    obtain ⟨hs0, hs1⟩ := lim_sh n q r
    rw [hbt] at hs1
    go_upto_region 7 with fail
    have lt_t2_5 := blk_lt k_t2
    have lt_t3_5 := blk_lt k_t3
    have lt_t4_5 := blk_lt k_t4
    have lt_t5_5 := blk_lt k_t5
    have c_X2 := rMul_c X1 X bX1 hX
    obtain ⟨X2, hX2⟩ := exn (X1 * X % PP)
    rw [← hX2] at c_X2
    have bX2 := b256 hX2
    have HX2 := Lib.hid hX2
    clear hX2
    refine Px 3 ?_
    refine XL ?_
    refine XL ?_
    refine Xf ?_ (fun W hW => c_X2 W)
    refine wpX_nil fun W6 hE => ?_
    refine Lp ?_ (blk_step k_t5 hE) (cells := arrK .i64 16 (l16 X2)) (h1 := (arrK_one _ _ _))
    intro W7 hO h_
    refine wpL_nil ?_
    replace k_t2 := ko k_t2 hE hO (by omega)
    replace k_t3 := ko k_t3 hE hO (by omega)
    replace k_t4 := ko k_t4 hE hO (by omega)
    replace k_t5 := h_
    replace bel := bwo bel hE hO bel.size (by omega)
    clear hO h_
    clear hbit
    go_wp2_with fail
    go_roundw
    case rel => exact ⟨64 * q + r, X2, by omega, by go_num, by rw [HX2.out, HX1.out, HR.out]; exact pw_half1 X n _ HB.out, bel, k_t2, k_t3, k_t4, k_t5⟩
    case measure => simp [intOf]; omega
theorem rInv_c (X : Nat) (hX : X < P256) (w : World) :
  Calls Tryd.prog 88 #[A16 X] w fun e w' => Ret (A16 (pw X (PP - 2))) w w' e := by
 unfold A16
 go_enter Tryd.func88, Tryd.ntmps88
 go_upto_region 2 with fail
 refine wn2 (c1 := (arrK .i64 16 (l16 X))) (t1 := 76) (c2 := (arrK .i64 16 (fun _ => 0))) (t2 := 76) fun W0 bel k_t1 k_t2 => ?_
 have lt_t1_0 := blk_lt k_t1
 have lt_t2_0 := blk_lt k_t2
 have c_X1 := rPow_c X (PP - 2) hX (by decide)
 obtain ⟨X1, hX1⟩ := exn (pw X (PP - 2))
 rw [← hX1] at c_X1
 have bX1 : X1 < P256 := by rw [hX1]; exact pw_lt _ _
 have HX1 := Lib.hid hX1
 clear hX1
 refine Px 9 ?_
 refine XL ?_
 refine Xv ?_
 refine Xv ?_
 refine Xv ?_
 refine Xv ?_
 refine Xv ?_
 refine Xv ?_
 refine Xv ?_
 refine Xf ?_ (fun W hW => c_X1 W)
 refine wpX_nil fun W1 hE => ?_
 refine Lp ?_ (blk_step k_t2 hE) (cells := arrK .i64 16 (l16 X1)) (h1 := (arrK_one _ _ _))
 intro W2 hO h_
 refine wpL_nil ?_
 replace k_t1 := ko k_t1 hE hO (by omega)
 replace k_t2 := h_
 replace bel := bwo bel hE hO bel.size (by omega)
 clear hO h_
 go_wp2
 refine bodyPost_ret (res_row rfl rfl k_t2 (by kernel_rfl) (by kernel_rfl)) rfl ⟨?_, bel⟩
 rw [← HX1.out] <;> rfl
theorem rI_c (w : World) :
  Calls Tryd.prog 119 #[] w fun e w' => Ret (A16 II) w w' e := by
 go_enter Tryd.func119, Tryd.ntmps119
 go_upto_region 2 with fail
 refine wn1 (c1 := (arrK .i64 16 (fun _ => 0))) (t1 := 76) fun W0 bel k_t0 => ?_
 have lt_t0_0 := blk_lt k_t0
 have c_X1 := rPow_c 2 ((PP - 1) / 4) (by decide) (by decide)
 obtain ⟨X1, hX1⟩ := exn (pw 2 ((PP - 1) / 4))
 rw [← hX1] at c_X1
 have bX1 : X1 < P256 := by rw [hX1]; exact pw_lt _ _
 have HX1 := Lib.hid hX1
 clear hX1
 refine Px 9 ?_
 refine Xv ?_
 refine Xv ?_
 refine Xv ?_
 refine Xv ?_
 refine Xv ?_
 refine Xv ?_
 refine Xv ?_
 refine Xv ?_
 refine Xf ?_ (fun W hW => c_X1 W)
 refine wpX_nil fun W1 hE => ?_
 refine LS ?_ (blk_step k_t0 hE) (g := w.heap.size) (cells := arrK .i64 16 (l16 X1)) (h1 := (arrK_one _ _ _))
 refine wpL_nil ?_
 have hF : Below w.heap.size w (W1.setRow w.heap.size (arrK .i64 16 (l16 X1))) ∧ Blk (W1.setRow w.heap.size (arrK .i64 16 (l16 X1))) w.heap.size (arrK .i64 16 (l16 X1)) 76 := ⟨(below_setRow (below_step bel hE bel.size) (by omega) _), (blk_setRow (blk_step k_t0 hE) (arrK .i64 16 (l16 X1)))⟩
 generalize (W1.setRow w.heap.size (arrK .i64 16 (l16 X1))) = W2 at hF ⊢
 clear bel k_t0
 obtain ⟨bel, k_t0⟩ := hF
 go_wp2
 refine bodyPost_ret (res_row rfl rfl k_t0 (by kernel_rfl) (by kernel_rfl)) rfl ⟨?_, bel⟩
 rw [II_pw, ← HX1.out] <;> rfl
end Go.Proofs.YtefpoollmbmkfaaDoor

namespace Go.Proofs.YtefpoollmbmkfaaDoor
set_option maxHeartbeats 4000000
set_option maxRecDepth 100000
open Go.RowKit

theorem eq16 (X Y : Nat) (hX : X < P256) (hY : Y < P256) (w : World) : (Op.equalIn 10000 76 (.agg (arrK .i64 16 (l16 X))) (.agg (arrK .i64 16 (l16 Y)))).run Tryd.prog w = .ok (decide (X = Y)) w := by
  have h := run_equalIn_arr (P := Tryd.prog) w 9998 76 3 16 .i64 (arrK .i64 16 (l16 X)) (arrK .i64 16 (l16 Y)) (l16 X) (l16 Y) Tryd.underlying76 Tryd.underlying3 (by kernel_rfl)
    (fun i hi => arrK_get _ _ _ _ hi) (fun i hi => arrK_get _ _ _ _ hi)
  rw [h]
  congr 1
  rw [Bool.eq_iff_iff, eqArr_true, decide_eq_true_iff]
  exact ⟨fun h => l16_ext hX hY h, fun e i _ => by rw [e]⟩
theorem lt_256 {A : Nat} (h : A < PP) : A < P256 := Nat.lt_trans h PP_lt

theorem rRoot_1 (A B : Nat) (hA : A < PP) (hB : B < P256) (h1 : rtW A B = A) (w : World) :
  Calls Tryd.prog 98 #[A16 A, A16 B] w fun e w' => Ret (.tuple #[A16 (rtX A B), .bool true]) w w' e := by
 unfold A16
 go_enter Tryd.func98, Tryd.ntmps98
 go_upto_region 2 with fail
 refine wn3 (c1 := (arrK .i64 16 (l16 A))) (t1 := 76) (c2 := (arrK .i64 16 (l16 B))) (t2 := 76) (c3 := (arrK .i64 16 (fun _ => 0))) (t3 := 76) fun W0 bel k_t2 k_t3 k_t4 => ?_
 have lt_t2_0 := blk_lt k_t2
 have lt_t3_0 := blk_lt k_t3
 have lt_t4_0 := blk_lt k_t4
 have c_X1 := rMul_c B B hB hB
 obtain ⟨X1, hX1⟩ := exn (B * B % PP)
 rw [← hX1] at c_X1
 have bX1 := b256 hX1
 have HX1 := Lib.hid hX1
 clear hX1
 have c_X2 := rMul_c X1 B bX1 hB
 obtain ⟨X2, hX2⟩ := exn (X1 * B % PP)
 rw [← hX2] at c_X2
 have bX2 := b256 hX2
 have HX2 := Lib.hid hX2
 clear hX2
 refine Rx1 5 7 (z := arrK .i64 16 (fun _ => 0)) (t := 76) ?_
 refine XL ?_
 refine XL ?_
 refine Xf ?_ (fun W hW => c_X1 W)
 refine XL ?_
 refine Xf ?_ (fun W hW => c_X2 W)
 refine XN ?_
 intro p7_1 W1 n_t7_1 hE k_t7
 have sz_1 := bel.size
 skip
 refine Lp ?_ k_t7 (cells := arrK .i64 16 (l16 X2)) (h1 := (arrK_one _ _ _))
 intro W2 hO h_
 refine LN ?_
 replace k_t2 := ko k_t2 hE hO (by omega)
 replace k_t3 := ko k_t3 hE hO (by omega)
 replace k_t4 := ko k_t4 hE hO (by omega)
 replace k_t7 := h_
 replace bel := bwo bel hE hO bel.size (by omega)
 clear hO h_
 go_upto_region 3 with fail
 have lt_t7_2 := blk_lt k_t7
 have c_X3 := rMul_c X2 X2 bX2 bX2
 obtain ⟨X3, hX3⟩ := exn (X2 * X2 % PP)
 rw [← hX3] at c_X3
 have bX3 := b256 hX3
 have HX3 := Lib.hid hX3
 clear hX3
 have c_X4 := rMul_c X3 B bX3 hB
 obtain ⟨X4, hX4⟩ := exn (X3 * B % PP)
 rw [← hX4] at c_X4
 have bX4 := b256 hX4
 have HX4 := Lib.hid hX4
 clear hX4
 refine Rx1 5 8 (z := arrK .i64 16 (fun _ => 0)) (t := 76) ?_
 refine XL ?_
 refine XL ?_
 refine Xf ?_ (fun W hW => c_X3 W)
 refine XL ?_
 refine Xf ?_ (fun W hW => c_X4 W)
 refine XN ?_
 intro p8_3 W3 n_t8_3 hE k_t8
 have sz_3 := bel.size
 skip
 refine Lp ?_ k_t8 (cells := arrK .i64 16 (l16 X4)) (h1 := (arrK_one _ _ _))
 intro W4 hO h_
 refine LN ?_
 replace k_t2 := ko k_t2 hE hO (by omega)
 replace k_t3 := ko k_t3 hE hO (by omega)
 replace k_t4 := ko k_t4 hE hO (by omega)
 replace k_t7 := ko k_t7 hE hO (by omega)
 replace k_t8 := h_
 replace bel := bwo bel hE hO bel.size (by omega)
 clear hO h_
 go_upto_region 4 with fail
 have lt_t8_4 := blk_lt k_t8
 have c_X5 := rMul_c A X2 (lt_256 hA) bX2
 obtain ⟨X5, hX5⟩ := exn (A * X2 % PP)
 rw [← hX5] at c_X5
 have bX5 := b256 hX5
 have HX5 := Lib.hid hX5
 clear hX5
 have c_X6 := rMul_c A X4 (lt_256 hA) bX4
 obtain ⟨X6, hX6⟩ := exn (A * X4 % PP)
 rw [← hX6] at c_X6
 have bX6 := b256 hX6
 have HX6 := Lib.hid hX6
 clear hX6
 have c_X7 := rPow_c X6 7237005577332262213973186563042994240829374041602535252466099000494570602493 bX6 (by decide)
 obtain ⟨X7, hX7⟩ := exn (pw X6 7237005577332262213973186563042994240829374041602535252466099000494570602493)
 rw [← hX7] at c_X7
 have bX7 : X7 < P256 := by rw [hX7]; exact pw_lt _ _
 have HX7 := Lib.hid hX7
 clear hX7
 have c_X8 := rMul_c X5 X7 bX5 bX7
 obtain ⟨X8, hX8⟩ := exn (X5 * X7 % PP)
 rw [← hX8] at c_X8
 have bX8 := b256 hX8
 have HX8 := Lib.hid hX8
 clear hX8
 refine Rx1 15 9 (z := arrK .i64 16 (fun _ => 0)) (t := 76) ?_
 refine XL ?_
 refine XL ?_
 refine Xf ?_ (fun W hW => c_X5 W)
 refine XL ?_
 refine XL ?_
 refine Xf ?_ (fun W hW => c_X6 W)
 refine Xv ?_
 refine Xv ?_
 refine Xv ?_
 refine Xv ?_
 refine Xv ?_
 refine Xv ?_
 refine Xv ?_
 refine Xf ?_ (fun W hW => c_X7 W)
 refine Xf ?_ (fun W hW => c_X8 W)
 refine XN ?_
 intro p9_5 W5 n_t9_5 hE k_t9
 have sz_5 := bel.size
 skip
 refine Lp ?_ k_t9 (cells := arrK .i64 16 (l16 X8)) (h1 := (arrK_one _ _ _))
 intro W6 hO h_
 refine LN ?_
 replace k_t2 := ko k_t2 hE hO (by omega)
 replace k_t3 := ko k_t3 hE hO (by omega)
 replace k_t4 := ko k_t4 hE hO (by omega)
 replace k_t7 := ko k_t7 hE hO (by omega)
 replace k_t8 := ko k_t8 hE hO (by omega)
 replace k_t9 := h_
 replace bel := bwo bel hE hO bel.size (by omega)
 clear hO h_
 go_upto_region 5 with fail
 have lt_t9_6 := blk_lt k_t9
 have c_X9 := rMul_c X8 X8 bX8 bX8
 obtain ⟨X9, hX9⟩ := exn (X8 * X8 % PP)
 rw [← hX9] at c_X9
 have bX9 := b256 hX9
 have HX9 := Lib.hid hX9
 clear hX9
 have c_X10 := rMul_c B X9 hB bX9
 obtain ⟨X10, hX10⟩ := exn (B * X9 % PP)
 rw [← hX10] at c_X10
 have bX10 := b256 hX10
 have HX10 := Lib.hid hX10
 clear hX10
 refine Rx1 5 10 (z := arrK .i64 16 (fun _ => 0)) (t := 76) ?_
 refine XL ?_
 refine XL ?_
 refine XL ?_
 refine Xf ?_ (fun W hW => c_X9 W)
 refine Xf ?_ (fun W hW => c_X10 W)
 refine XN ?_
 intro p10_7 W7 n_t10_7 hE k_t10
 have sz_7 := bel.size
 skip
 refine Lp ?_ k_t10 (cells := arrK .i64 16 (l16 X10)) (h1 := (arrK_one _ _ _))
 intro W8 hO h_
 refine LN ?_
 replace k_t2 := ko k_t2 hE hO (by omega)
 replace k_t3 := ko k_t3 hE hO (by omega)
 replace k_t4 := ko k_t4 hE hO (by omega)
 replace k_t7 := ko k_t7 hE hO (by omega)
 replace k_t8 := ko k_t8 hE hO (by omega)
 replace k_t9 := ko k_t9 hE hO (by omega)
 replace k_t10 := h_
 replace bel := bwo bel hE hO bel.size (by omega)
 clear hO h_
 go_upto_region 6 with fail
 have lt_t10_8 := blk_lt k_t10
 have e_11 := eq16 X10 A bX10 (lt_256 hA)
 have hw : X10 = rtW A B := by rw [HX10.out, HX9.out, HX8.out, HX7.out, HX6.out, HX5.out, HX4.out, HX3.out, HX2.out, HX1.out]; rfl
 rw [decide_eq_true (show X10 = A by rw [hw]; exact h1)] at e_11
 have HW := Lib.hid hw
 clear hw
 refine Px 3 ?_
 refine XL ?_
 refine XL ?_
 ((with_reducible refine wpX_eqlA (e_11) ?_ ?_ rfl ?_ ?_ ?_); (focus kernel_rfl); (focus rfl); (focus rfl); (focus rfl); (try simp only [Act.put, mA, mB, mC]))
 refine wpX_nil fun W9 hE => ?_
 refine wpL_nil ?_
 replace k_t2 := blk_step k_t2 hE
 replace k_t3 := blk_step k_t3 hE
 replace k_t4 := blk_step k_t4 hE
 replace k_t7 := blk_step k_t7 hE
 replace k_t8 := blk_step k_t8 hE
 replace k_t9 := blk_step k_t9 hE
 replace k_t10 := blk_step k_t10 hE
 replace bel := below_step bel hE bel.size
 go_upto_region 7 with fail
 have lt_t10_9 := blk_lt k_t10
 refine Px 1 ?_
 refine XL ?_
 refine wpX_nil fun W10 hE => ?_
 refine LS ?_ (blk_step k_t4 hE) (g := (w.heap.size + 2)) (cells := arrK .i64 16 (l16 X8)) (h1 := (arrK_one _ _ _))
 refine Lv ?_
 refine wpL_nil ?_
 have hF : Below w.heap.size w (W10.setRow (w.heap.size + 2) (arrK .i64 16 (l16 X8))) ∧ Blk (W10.setRow (w.heap.size + 2) (arrK .i64 16 (l16 X8))) w.heap.size (arrK .i64 16 (l16 A)) 76 ∧ Blk (W10.setRow (w.heap.size + 2) (arrK .i64 16 (l16 X8))) (w.heap.size + 1) (arrK .i64 16 (l16 B)) 76 ∧ Blk (W10.setRow (w.heap.size + 2) (arrK .i64 16 (l16 X8))) (w.heap.size + 2) (arrK .i64 16 (l16 X8)) 76 ∧ Blk (W10.setRow (w.heap.size + 2) (arrK .i64 16 (l16 X8))) p7_1 (arrK .i64 16 (l16 X2)) 76 ∧ Blk (W10.setRow (w.heap.size + 2) (arrK .i64 16 (l16 X8))) p8_3 (arrK .i64 16 (l16 X4)) 76 ∧ Blk (W10.setRow (w.heap.size + 2) (arrK .i64 16 (l16 X8))) p9_5 (arrK .i64 16 (l16 X8)) 76 ∧ Blk (W10.setRow (w.heap.size + 2) (arrK .i64 16 (l16 X8))) p10_7 (arrK .i64 16 (l16 X10)) 76 := ⟨(below_setRow (below_step bel hE bel.size) (by omega) _), (blk_setRow_other (blk_step k_t2 hE) (by omega) _), (blk_setRow_other (blk_step k_t3 hE) (by omega) _), (blk_setRow (blk_step k_t4 hE) (arrK .i64 16 (l16 X8))), (blk_setRow_other (blk_step k_t7 hE) (by omega) _), (blk_setRow_other (blk_step k_t8 hE) (by omega) _), (blk_setRow_other (blk_step k_t9 hE) (by omega) _), (blk_setRow_other (blk_step k_t10 hE) (by omega) _)⟩
 generalize (W10.setRow (w.heap.size + 2) (arrK .i64 16 (l16 X8))) = W11 at hF ⊢
 clear bel k_t2 k_t3 k_t4 k_t7 k_t8 k_t9 k_t10
 obtain ⟨bel, k_t2, k_t3, k_t4, k_t7, k_t8, k_t9, k_t10⟩ := hF
 go_wp2
 refine bodyPost_ret (res_row2 rfl rfl rfl k_t4 (by kernel_rfl) (by kernel_rfl)) rfl ⟨?_, bel⟩
 rw [HX8.out, HX7.out, HX6.out, HX5.out, HX4.out, HX3.out, HX2.out, HX1.out]; rfl
theorem rRoot_2 (A B : Nat) (hA : A < PP) (hB : B < P256) (h1 : ¬ rtW A B = A) (h2 : rtW A B = (PP - A) % PP) (w : World) :
  Calls Tryd.prog 98 #[A16 A, A16 B] w fun e w' => Ret (.tuple #[A16 (rtX A B * II % PP), .bool true]) w w' e := by
 unfold A16
 go_enter Tryd.func98, Tryd.ntmps98
 go_upto_region 2 with fail
 refine wn3 (c1 := (arrK .i64 16 (l16 A))) (t1 := 76) (c2 := (arrK .i64 16 (l16 B))) (t2 := 76) (c3 := (arrK .i64 16 (fun _ => 0))) (t3 := 76) fun W0 bel k_t2 k_t3 k_t4 => ?_
 have lt_t2_0 := blk_lt k_t2
 have lt_t3_0 := blk_lt k_t3
 have lt_t4_0 := blk_lt k_t4
 have c_X1 := rMul_c B B hB hB
 obtain ⟨X1, hX1⟩ := exn (B * B % PP)
 rw [← hX1] at c_X1
 have bX1 := b256 hX1
 have HX1 := Lib.hid hX1
 clear hX1
 have c_X2 := rMul_c X1 B bX1 hB
 obtain ⟨X2, hX2⟩ := exn (X1 * B % PP)
 rw [← hX2] at c_X2
 have bX2 := b256 hX2
 have HX2 := Lib.hid hX2
 clear hX2
 refine Rx1 5 7 (z := arrK .i64 16 (fun _ => 0)) (t := 76) ?_
 refine XL ?_
 refine XL ?_
 refine Xf ?_ (fun W hW => c_X1 W)
 refine XL ?_
 refine Xf ?_ (fun W hW => c_X2 W)
 refine XN ?_
 intro p7_1 W1 n_t7_1 hE k_t7
 have sz_1 := bel.size
 skip
 refine Lp ?_ k_t7 (cells := arrK .i64 16 (l16 X2)) (h1 := (arrK_one _ _ _))
 intro W2 hO h_
 refine LN ?_
 replace k_t2 := ko k_t2 hE hO (by omega)
 replace k_t3 := ko k_t3 hE hO (by omega)
 replace k_t4 := ko k_t4 hE hO (by omega)
 replace k_t7 := h_
 replace bel := bwo bel hE hO bel.size (by omega)
 clear hO h_
 go_upto_region 3 with fail
 have lt_t7_2 := blk_lt k_t7
 have c_X3 := rMul_c X2 X2 bX2 bX2
 obtain ⟨X3, hX3⟩ := exn (X2 * X2 % PP)
 rw [← hX3] at c_X3
 have bX3 := b256 hX3
 have HX3 := Lib.hid hX3
 clear hX3
 have c_X4 := rMul_c X3 B bX3 hB
 obtain ⟨X4, hX4⟩ := exn (X3 * B % PP)
 rw [← hX4] at c_X4
 have bX4 := b256 hX4
 have HX4 := Lib.hid hX4
 clear hX4
 refine Rx1 5 8 (z := arrK .i64 16 (fun _ => 0)) (t := 76) ?_
 refine XL ?_
 refine XL ?_
 refine Xf ?_ (fun W hW => c_X3 W)
 refine XL ?_
 refine Xf ?_ (fun W hW => c_X4 W)
 refine XN ?_
 intro p8_3 W3 n_t8_3 hE k_t8
 have sz_3 := bel.size
 skip
 refine Lp ?_ k_t8 (cells := arrK .i64 16 (l16 X4)) (h1 := (arrK_one _ _ _))
 intro W4 hO h_
 refine LN ?_
 replace k_t2 := ko k_t2 hE hO (by omega)
 replace k_t3 := ko k_t3 hE hO (by omega)
 replace k_t4 := ko k_t4 hE hO (by omega)
 replace k_t7 := ko k_t7 hE hO (by omega)
 replace k_t8 := h_
 replace bel := bwo bel hE hO bel.size (by omega)
 clear hO h_
 go_upto_region 4 with fail
 have lt_t8_4 := blk_lt k_t8
 have c_X5 := rMul_c A X2 (lt_256 hA) bX2
 obtain ⟨X5, hX5⟩ := exn (A * X2 % PP)
 rw [← hX5] at c_X5
 have bX5 := b256 hX5
 have HX5 := Lib.hid hX5
 clear hX5
 have c_X6 := rMul_c A X4 (lt_256 hA) bX4
 obtain ⟨X6, hX6⟩ := exn (A * X4 % PP)
 rw [← hX6] at c_X6
 have bX6 := b256 hX6
 have HX6 := Lib.hid hX6
 clear hX6
 have c_X7 := rPow_c X6 7237005577332262213973186563042994240829374041602535252466099000494570602493 bX6 (by decide)
 obtain ⟨X7, hX7⟩ := exn (pw X6 7237005577332262213973186563042994240829374041602535252466099000494570602493)
 rw [← hX7] at c_X7
 have bX7 : X7 < P256 := by rw [hX7]; exact pw_lt _ _
 have HX7 := Lib.hid hX7
 clear hX7
 have c_X8 := rMul_c X5 X7 bX5 bX7
 obtain ⟨X8, hX8⟩ := exn (X5 * X7 % PP)
 rw [← hX8] at c_X8
 have bX8 := b256 hX8
 have HX8 := Lib.hid hX8
 clear hX8
 refine Rx1 15 9 (z := arrK .i64 16 (fun _ => 0)) (t := 76) ?_
 refine XL ?_
 refine XL ?_
 refine Xf ?_ (fun W hW => c_X5 W)
 refine XL ?_
 refine XL ?_
 refine Xf ?_ (fun W hW => c_X6 W)
 refine Xv ?_
 refine Xv ?_
 refine Xv ?_
 refine Xv ?_
 refine Xv ?_
 refine Xv ?_
 refine Xv ?_
 refine Xf ?_ (fun W hW => c_X7 W)
 refine Xf ?_ (fun W hW => c_X8 W)
 refine XN ?_
 intro p9_5 W5 n_t9_5 hE k_t9
 have sz_5 := bel.size
 skip
 refine Lp ?_ k_t9 (cells := arrK .i64 16 (l16 X8)) (h1 := (arrK_one _ _ _))
 intro W6 hO h_
 refine LN ?_
 replace k_t2 := ko k_t2 hE hO (by omega)
 replace k_t3 := ko k_t3 hE hO (by omega)
 replace k_t4 := ko k_t4 hE hO (by omega)
 replace k_t7 := ko k_t7 hE hO (by omega)
 replace k_t8 := ko k_t8 hE hO (by omega)
 replace k_t9 := h_
 replace bel := bwo bel hE hO bel.size (by omega)
 clear hO h_
 go_upto_region 5 with fail
 have lt_t9_6 := blk_lt k_t9
 have c_X9 := rMul_c X8 X8 bX8 bX8
 obtain ⟨X9, hX9⟩ := exn (X8 * X8 % PP)
 rw [← hX9] at c_X9
 have bX9 := b256 hX9
 have HX9 := Lib.hid hX9
 clear hX9
 have c_X10 := rMul_c B X9 hB bX9
 obtain ⟨X10, hX10⟩ := exn (B * X9 % PP)
 rw [← hX10] at c_X10
 have bX10 := b256 hX10
 have HX10 := Lib.hid hX10
 clear hX10
 refine Rx1 5 10 (z := arrK .i64 16 (fun _ => 0)) (t := 76) ?_
 refine XL ?_
 refine XL ?_
 refine XL ?_
 refine Xf ?_ (fun W hW => c_X9 W)
 refine Xf ?_ (fun W hW => c_X10 W)
 refine XN ?_
 intro p10_7 W7 n_t10_7 hE k_t10
 have sz_7 := bel.size
 skip
 refine Lp ?_ k_t10 (cells := arrK .i64 16 (l16 X10)) (h1 := (arrK_one _ _ _))
 intro W8 hO h_
 refine LN ?_
 replace k_t2 := ko k_t2 hE hO (by omega)
 replace k_t3 := ko k_t3 hE hO (by omega)
 replace k_t4 := ko k_t4 hE hO (by omega)
 replace k_t7 := ko k_t7 hE hO (by omega)
 replace k_t8 := ko k_t8 hE hO (by omega)
 replace k_t9 := ko k_t9 hE hO (by omega)
 replace k_t10 := h_
 replace bel := bwo bel hE hO bel.size (by omega)
 clear hO h_
 go_upto_region 6 with fail
 have lt_t10_8 := blk_lt k_t10
 have e_11 := eq16 X10 A bX10 (lt_256 hA)
 have hw : X10 = rtW A B := by rw [HX10.out, HX9.out, HX8.out, HX7.out, HX6.out, HX5.out, HX4.out, HX3.out, HX2.out, HX1.out]; rfl
 rw [decide_eq_false (show ¬ X10 = A by rw [hw]; exact h1)] at e_11
 have HW := Lib.hid hw
 clear hw
 refine Px 3 ?_
 refine XL ?_
 refine XL ?_
 ((with_reducible refine wpX_eqlA (e_11) ?_ ?_ rfl ?_ ?_ ?_); (focus kernel_rfl); (focus rfl); (focus rfl); (focus rfl); (try simp only [Act.put, mA, mB, mC]))
 refine wpX_nil fun W9 hE => ?_
 refine wpL_nil ?_
 replace k_t2 := blk_step k_t2 hE
 replace k_t3 := blk_step k_t3 hE
 replace k_t4 := blk_step k_t4 hE
 replace k_t7 := blk_step k_t7 hE
 replace k_t8 := blk_step k_t8 hE
 replace k_t9 := blk_step k_t9 hE
 replace k_t10 := blk_step k_t10 hE
 replace bel := below_step bel hE bel.size
 go_upto_region 8 with fail
 have lt_t10_9 := blk_lt k_t10
 have c_X12 := rNeg_c A (Nat.le_of_lt hA)
 obtain ⟨X12, hX12⟩ := exn ((PP - A) % PP)
 rw [← hX12] at c_X12
 have bX12 := b256 hX12
 have HX12 := Lib.hid hX12
 clear hX12
 have e_13 := eq16 X10 X12 bX10 bX12
 rw [decide_eq_true (show X10 = X12 by rw [HW.out, HX12.out]; exact h2)] at e_13
 refine Rx 4 ?_
 refine XL ?_
 refine XL ?_
 refine Xf ?_ (fun W hW => c_X12 W)
 ((with_reducible refine wpX_eqlA (e_13) ?_ ?_ rfl ?_ ?_ ?_); (focus kernel_rfl); (focus rfl); (focus rfl); (focus rfl); (try simp only [Act.put, mA, mB, mC]))
 refine wpX_nil fun W10 hE => ?_
 refine LN ?_
 replace k_t2 := blk_step k_t2 hE
 replace k_t3 := blk_step k_t3 hE
 replace k_t4 := blk_step k_t4 hE
 replace k_t7 := blk_step k_t7 hE
 replace k_t8 := blk_step k_t8 hE
 replace k_t9 := blk_step k_t9 hE
 replace k_t10 := blk_step k_t10 hE
 replace bel := below_step bel hE bel.size
 go_upto_region 9 with fail
 have lt_t10_10 := blk_lt k_t10
 have c_X14 := rMul_c X8 II bX8 II_lt
 obtain ⟨X14, hX14⟩ := exn (X8 * II % PP)
 rw [← hX14] at c_X14
 have bX14 := b256 hX14
 have HX14 := Lib.hid hX14
 clear hX14
 refine Rx 3 ?_
 refine XL ?_
 refine Xf ?_ (fun W hW => rI_c W)
 refine Xf ?_ (fun W hW => c_X14 W)
 refine wpX_nil fun W11 hE => ?_
 refine LS ?_ (blk_step k_t4 hE) (g := (w.heap.size + 2)) (cells := arrK .i64 16 (l16 X14)) (h1 := (arrK_one _ _ _))
 refine Lv ?_
 refine LN ?_
 have hF : Below w.heap.size w (W11.setRow (w.heap.size + 2) (arrK .i64 16 (l16 X14))) ∧ Blk (W11.setRow (w.heap.size + 2) (arrK .i64 16 (l16 X14))) w.heap.size (arrK .i64 16 (l16 A)) 76 ∧ Blk (W11.setRow (w.heap.size + 2) (arrK .i64 16 (l16 X14))) (w.heap.size + 1) (arrK .i64 16 (l16 B)) 76 ∧ Blk (W11.setRow (w.heap.size + 2) (arrK .i64 16 (l16 X14))) (w.heap.size + 2) (arrK .i64 16 (l16 X14)) 76 ∧ Blk (W11.setRow (w.heap.size + 2) (arrK .i64 16 (l16 X14))) p7_1 (arrK .i64 16 (l16 X2)) 76 ∧ Blk (W11.setRow (w.heap.size + 2) (arrK .i64 16 (l16 X14))) p8_3 (arrK .i64 16 (l16 X4)) 76 ∧ Blk (W11.setRow (w.heap.size + 2) (arrK .i64 16 (l16 X14))) p9_5 (arrK .i64 16 (l16 X8)) 76 ∧ Blk (W11.setRow (w.heap.size + 2) (arrK .i64 16 (l16 X14))) p10_7 (arrK .i64 16 (l16 X10)) 76 := ⟨(below_setRow (below_step bel hE bel.size) (by omega) _), (blk_setRow_other (blk_step k_t2 hE) (by omega) _), (blk_setRow_other (blk_step k_t3 hE) (by omega) _), (blk_setRow (blk_step k_t4 hE) (arrK .i64 16 (l16 X14))), (blk_setRow_other (blk_step k_t7 hE) (by omega) _), (blk_setRow_other (blk_step k_t8 hE) (by omega) _), (blk_setRow_other (blk_step k_t9 hE) (by omega) _), (blk_setRow_other (blk_step k_t10 hE) (by omega) _)⟩
 generalize (W11.setRow (w.heap.size + 2) (arrK .i64 16 (l16 X14))) = W12 at hF ⊢
 clear bel k_t2 k_t3 k_t4 k_t7 k_t8 k_t9 k_t10
 obtain ⟨bel, k_t2, k_t3, k_t4, k_t7, k_t8, k_t9, k_t10⟩ := hF
 go_wp2
 refine bodyPost_ret (res_row2 rfl rfl rfl k_t4 (by kernel_rfl) (by kernel_rfl)) rfl ⟨?_, bel⟩
 rw [HX14.out, HX8.out, HX7.out, HX6.out, HX5.out, HX4.out, HX3.out, HX2.out, HX1.out]; rfl
theorem rRoot_3 (A B : Nat) (hA : A < PP) (hB : B < P256) (h1 : ¬ rtW A B = A) (h2 : ¬ rtW A B = (PP - A) % PP) (w : World) :
  Calls Tryd.prog 98 #[A16 A, A16 B] w fun e w' => Ret (.tuple #[A16 0, .bool false]) w w' e := by
 unfold A16
 go_enter Tryd.func98, Tryd.ntmps98
 go_upto_region 2 with fail
 refine wn3 (c1 := (arrK .i64 16 (l16 A))) (t1 := 76) (c2 := (arrK .i64 16 (l16 B))) (t2 := 76) (c3 := (arrK .i64 16 (fun _ => 0))) (t3 := 76) fun W0 bel k_t2 k_t3 k_t4 => ?_
 have lt_t2_0 := blk_lt k_t2
 have lt_t3_0 := blk_lt k_t3
 have lt_t4_0 := blk_lt k_t4
 have c_X1 := rMul_c B B hB hB
 obtain ⟨X1, hX1⟩ := exn (B * B % PP)
 rw [← hX1] at c_X1
 have bX1 := b256 hX1
 have HX1 := Lib.hid hX1
 clear hX1
 have c_X2 := rMul_c X1 B bX1 hB
 obtain ⟨X2, hX2⟩ := exn (X1 * B % PP)
 rw [← hX2] at c_X2
 have bX2 := b256 hX2
 have HX2 := Lib.hid hX2
 clear hX2
 refine Rx1 5 7 (z := arrK .i64 16 (fun _ => 0)) (t := 76) ?_
 refine XL ?_
 refine XL ?_
 refine Xf ?_ (fun W hW => c_X1 W)
 refine XL ?_
 refine Xf ?_ (fun W hW => c_X2 W)
 refine XN ?_
 intro p7_1 W1 n_t7_1 hE k_t7
 have sz_1 := bel.size
 skip
 refine Lp ?_ k_t7 (cells := arrK .i64 16 (l16 X2)) (h1 := (arrK_one _ _ _))
 intro W2 hO h_
 refine LN ?_
 replace k_t2 := ko k_t2 hE hO (by omega)
 replace k_t3 := ko k_t3 hE hO (by omega)
 replace k_t4 := ko k_t4 hE hO (by omega)
 replace k_t7 := h_
 replace bel := bwo bel hE hO bel.size (by omega)
 clear hO h_
 go_upto_region 3 with fail
 have lt_t7_2 := blk_lt k_t7
 have c_X3 := rMul_c X2 X2 bX2 bX2
 obtain ⟨X3, hX3⟩ := exn (X2 * X2 % PP)
 rw [← hX3] at c_X3
 have bX3 := b256 hX3
 have HX3 := Lib.hid hX3
 clear hX3
 have c_X4 := rMul_c X3 B bX3 hB
 obtain ⟨X4, hX4⟩ := exn (X3 * B % PP)
 rw [← hX4] at c_X4
 have bX4 := b256 hX4
 have HX4 := Lib.hid hX4
 clear hX4
 refine Rx1 5 8 (z := arrK .i64 16 (fun _ => 0)) (t := 76) ?_
 refine XL ?_
 refine XL ?_
 refine Xf ?_ (fun W hW => c_X3 W)
 refine XL ?_
 refine Xf ?_ (fun W hW => c_X4 W)
 refine XN ?_
 intro p8_3 W3 n_t8_3 hE k_t8
 have sz_3 := bel.size
 skip
 refine Lp ?_ k_t8 (cells := arrK .i64 16 (l16 X4)) (h1 := (arrK_one _ _ _))
 intro W4 hO h_
 refine LN ?_
 replace k_t2 := ko k_t2 hE hO (by omega)
 replace k_t3 := ko k_t3 hE hO (by omega)
 replace k_t4 := ko k_t4 hE hO (by omega)
 replace k_t7 := ko k_t7 hE hO (by omega)
 replace k_t8 := h_
 replace bel := bwo bel hE hO bel.size (by omega)
 clear hO h_
 go_upto_region 4 with fail
 have lt_t8_4 := blk_lt k_t8
 have c_X5 := rMul_c A X2 (lt_256 hA) bX2
 obtain ⟨X5, hX5⟩ := exn (A * X2 % PP)
 rw [← hX5] at c_X5
 have bX5 := b256 hX5
 have HX5 := Lib.hid hX5
 clear hX5
 have c_X6 := rMul_c A X4 (lt_256 hA) bX4
 obtain ⟨X6, hX6⟩ := exn (A * X4 % PP)
 rw [← hX6] at c_X6
 have bX6 := b256 hX6
 have HX6 := Lib.hid hX6
 clear hX6
 have c_X7 := rPow_c X6 7237005577332262213973186563042994240829374041602535252466099000494570602493 bX6 (by decide)
 obtain ⟨X7, hX7⟩ := exn (pw X6 7237005577332262213973186563042994240829374041602535252466099000494570602493)
 rw [← hX7] at c_X7
 have bX7 : X7 < P256 := by rw [hX7]; exact pw_lt _ _
 have HX7 := Lib.hid hX7
 clear hX7
 have c_X8 := rMul_c X5 X7 bX5 bX7
 obtain ⟨X8, hX8⟩ := exn (X5 * X7 % PP)
 rw [← hX8] at c_X8
 have bX8 := b256 hX8
 have HX8 := Lib.hid hX8
 clear hX8
 refine Rx1 15 9 (z := arrK .i64 16 (fun _ => 0)) (t := 76) ?_
 refine XL ?_
 refine XL ?_
 refine Xf ?_ (fun W hW => c_X5 W)
 refine XL ?_
 refine XL ?_
 refine Xf ?_ (fun W hW => c_X6 W)
 refine Xv ?_
 refine Xv ?_
 refine Xv ?_
 refine Xv ?_
 refine Xv ?_
 refine Xv ?_
 refine Xv ?_
 refine Xf ?_ (fun W hW => c_X7 W)
 refine Xf ?_ (fun W hW => c_X8 W)
 refine XN ?_
 intro p9_5 W5 n_t9_5 hE k_t9
 have sz_5 := bel.size
 skip
 refine Lp ?_ k_t9 (cells := arrK .i64 16 (l16 X8)) (h1 := (arrK_one _ _ _))
 intro W6 hO h_
 refine LN ?_
 replace k_t2 := ko k_t2 hE hO (by omega)
 replace k_t3 := ko k_t3 hE hO (by omega)
 replace k_t4 := ko k_t4 hE hO (by omega)
 replace k_t7 := ko k_t7 hE hO (by omega)
 replace k_t8 := ko k_t8 hE hO (by omega)
 replace k_t9 := h_
 replace bel := bwo bel hE hO bel.size (by omega)
 clear hO h_
 go_upto_region 5 with fail
 have lt_t9_6 := blk_lt k_t9
 have c_X9 := rMul_c X8 X8 bX8 bX8
 obtain ⟨X9, hX9⟩ := exn (X8 * X8 % PP)
 rw [← hX9] at c_X9
 have bX9 := b256 hX9
 have HX9 := Lib.hid hX9
 clear hX9
 have c_X10 := rMul_c B X9 hB bX9
 obtain ⟨X10, hX10⟩ := exn (B * X9 % PP)
 rw [← hX10] at c_X10
 have bX10 := b256 hX10
 have HX10 := Lib.hid hX10
 clear hX10
 refine Rx1 5 10 (z := arrK .i64 16 (fun _ => 0)) (t := 76) ?_
 refine XL ?_
 refine XL ?_
 refine XL ?_
 refine Xf ?_ (fun W hW => c_X9 W)
 refine Xf ?_ (fun W hW => c_X10 W)
 refine XN ?_
 intro p10_7 W7 n_t10_7 hE k_t10
 have sz_7 := bel.size
 skip
 refine Lp ?_ k_t10 (cells := arrK .i64 16 (l16 X10)) (h1 := (arrK_one _ _ _))
 intro W8 hO h_
 refine LN ?_
 replace k_t2 := ko k_t2 hE hO (by omega)
 replace k_t3 := ko k_t3 hE hO (by omega)
 replace k_t4 := ko k_t4 hE hO (by omega)
 replace k_t7 := ko k_t7 hE hO (by omega)
 replace k_t8 := ko k_t8 hE hO (by omega)
 replace k_t9 := ko k_t9 hE hO (by omega)
 replace k_t10 := h_
 replace bel := bwo bel hE hO bel.size (by omega)
 clear hO h_
 go_upto_region 6 with fail
 have lt_t10_8 := blk_lt k_t10
 have e_11 := eq16 X10 A bX10 (lt_256 hA)
 have hw : X10 = rtW A B := by rw [HX10.out, HX9.out, HX8.out, HX7.out, HX6.out, HX5.out, HX4.out, HX3.out, HX2.out, HX1.out]; rfl
 rw [decide_eq_false (show ¬ X10 = A by rw [hw]; exact h1)] at e_11
 have HW := Lib.hid hw
 clear hw
 refine Px 3 ?_
 refine XL ?_
 refine XL ?_
 ((with_reducible refine wpX_eqlA (e_11) ?_ ?_ rfl ?_ ?_ ?_); (focus kernel_rfl); (focus rfl); (focus rfl); (focus rfl); (try simp only [Act.put, mA, mB, mC]))
 refine wpX_nil fun W9 hE => ?_
 refine wpL_nil ?_
 replace k_t2 := blk_step k_t2 hE
 replace k_t3 := blk_step k_t3 hE
 replace k_t4 := blk_step k_t4 hE
 replace k_t7 := blk_step k_t7 hE
 replace k_t8 := blk_step k_t8 hE
 replace k_t9 := blk_step k_t9 hE
 replace k_t10 := blk_step k_t10 hE
 replace bel := below_step bel hE bel.size
 go_upto_region 8 with fail
 have lt_t10_9 := blk_lt k_t10
 have c_X12 := rNeg_c A (Nat.le_of_lt hA)
 obtain ⟨X12, hX12⟩ := exn ((PP - A) % PP)
 rw [← hX12] at c_X12
 have bX12 := b256 hX12
 have HX12 := Lib.hid hX12
 clear hX12
 have e_13 := eq16 X10 X12 bX10 bX12
 rw [decide_eq_false (show ¬ X10 = X12 by rw [HW.out, HX12.out]; exact h2)] at e_13
 refine Rx 4 ?_
 refine XL ?_
 refine XL ?_
 refine Xf ?_ (fun W hW => c_X12 W)
 ((with_reducible refine wpX_eqlA (e_13) ?_ ?_ rfl ?_ ?_ ?_); (focus kernel_rfl); (focus rfl); (focus rfl); (focus rfl); (try simp only [Act.put, mA, mB, mC]))
 refine wpX_nil fun W10 hE => ?_
 refine LN ?_
 replace k_t2 := blk_step k_t2 hE
 replace k_t3 := blk_step k_t3 hE
 replace k_t4 := blk_step k_t4 hE
 replace k_t7 := blk_step k_t7 hE
 replace k_t8 := blk_step k_t8 hE
 replace k_t9 := blk_step k_t9 hE
 replace k_t10 := blk_step k_t10 hE
 replace bel := below_step bel hE bel.size
 go_upto_region 10 with fail
 have lt_t10_10 := blk_lt k_t10
 refine Px 1 ?_
 refine Xv ?_
 refine wpX_nil fun W11 hE => ?_
 refine LS ?_ (blk_step k_t4 hE) (g := (w.heap.size + 2)) (cells := arrK .i64 16 (l16 0)) (h1 := (arrK_one _ _ _))
 refine Lv ?_
 refine wpL_nil ?_
 have hF : Below w.heap.size w (W11.setRow (w.heap.size + 2) (arrK .i64 16 (l16 0))) ∧ Blk (W11.setRow (w.heap.size + 2) (arrK .i64 16 (l16 0))) w.heap.size (arrK .i64 16 (l16 A)) 76 ∧ Blk (W11.setRow (w.heap.size + 2) (arrK .i64 16 (l16 0))) (w.heap.size + 1) (arrK .i64 16 (l16 B)) 76 ∧ Blk (W11.setRow (w.heap.size + 2) (arrK .i64 16 (l16 0))) (w.heap.size + 2) (arrK .i64 16 (l16 0)) 76 ∧ Blk (W11.setRow (w.heap.size + 2) (arrK .i64 16 (l16 0))) p7_1 (arrK .i64 16 (l16 X2)) 76 ∧ Blk (W11.setRow (w.heap.size + 2) (arrK .i64 16 (l16 0))) p8_3 (arrK .i64 16 (l16 X4)) 76 ∧ Blk (W11.setRow (w.heap.size + 2) (arrK .i64 16 (l16 0))) p9_5 (arrK .i64 16 (l16 X8)) 76 ∧ Blk (W11.setRow (w.heap.size + 2) (arrK .i64 16 (l16 0))) p10_7 (arrK .i64 16 (l16 X10)) 76 := ⟨(below_setRow (below_step bel hE bel.size) (by omega) _), (blk_setRow_other (blk_step k_t2 hE) (by omega) _), (blk_setRow_other (blk_step k_t3 hE) (by omega) _), (blk_setRow (blk_step k_t4 hE) (arrK .i64 16 (l16 0))), (blk_setRow_other (blk_step k_t7 hE) (by omega) _), (blk_setRow_other (blk_step k_t8 hE) (by omega) _), (blk_setRow_other (blk_step k_t9 hE) (by omega) _), (blk_setRow_other (blk_step k_t10 hE) (by omega) _)⟩
 generalize (W11.setRow (w.heap.size + 2) (arrK .i64 16 (l16 0))) = W12 at hF ⊢
 clear bel k_t2 k_t3 k_t4 k_t7 k_t8 k_t9 k_t10
 obtain ⟨bel, k_t2, k_t3, k_t4, k_t7, k_t8, k_t9, k_t10⟩ := hF
 go_wp2
 refine bodyPost_ret (res_row2 rfl rfl rfl k_t4 (by kernel_rfl) (by kernel_rfl)) rfl ⟨?_, bel⟩
 rfl
theorem rRoot_c (A B : Nat) (hA : A < PP) (hB : B < P256) (w : World) : Calls Tryd.prog 98 #[A16 A, A16 B] w fun e w' => Ret (.tuple #[A16 (rtR A B), .bool (rtB A B)]) w w' e := by
  unfold rtR rtB
  rw [Nat.mod_eq_of_lt hA]
  by_cases h1 : rtW A B = A
  · rw [if_pos h1, decide_eq_true h1, Bool.true_or]; exact rRoot_1 A B hA hB h1 w
  · rw [if_neg h1, decide_eq_false h1, Bool.false_or]
    by_cases h2 : rtW A B = (PP - A) % PP
    · rw [if_pos h2, decide_eq_true h2]; exact rRoot_2 A B hA hB h1 h2 w
    · rw [if_neg h2, decide_eq_false h2]; exact rRoot_3 A B hA hB h1 h2 w
end Go.Proofs.YtefpoollmbmkfaaDoor

namespace Go.Proofs.YtefpoollmbmkfaaDoor
set_option maxHeartbeats 4000000
set_option maxRecDepth 100000
open Go.RowKit

theorem l16_byt (X k : Nat) : IntKind.u8.wrap (l16 X k) = byt X (2 * k) ∧ IntKind.u8.wrap (l16 X k / 256) = byt X (2 * k + 1) := by
  unfold l16 byt
  rw [IntKind.wrap_u8, IntKind.wrap_u8, show 8 * (2 * k) = 16 * k by omega, show 8 * (2 * k + 1) = 16 * k + 8 by omega, Nat.pow_add, ← Nat.div_div_eq_div_mul]
  generalize X / 2 ^ (16 * k) = x
  constructor <;> omega

theorem rbytes_c (X : Nat) (w : World) : Calls Tryd.prog 90 #[A16 X] w fun e w' => Ret (strN 32 (byt X)) w w' e := by
  obtain ⟨i0, hi, hz0, hz1, hz2⟩ := info_parts byteInfo
  unfold A16
  go_enter Tryd.func90, Tryd.ntmps90
  go_wp2
  go_loopw [3, 4] (fun v ii wr => ∃ k : Nat, k ≤ 16 ∧ ii = .int .i64 k ∧ Below w.heap.size w wr ∧ wr.ownsRow (w.heap.size + 1) 5 1 v (2 * k) (lstK .u8 (2 * k) (byt X)) ∧
      Blk wr w.heap.size (arrK .i64 16 (l16 X)) 76)
    (fun _ ii _ => (16 - intOf ii).toNat)
  case atStart =>
    refine ⟨0, by omega, rfl, ?_, ?_, blk_alloc (blk_new _ _ rfl) _⟩
    · exact bz
    · exact ⟨rfl, .inr ⟨w.heap.size + 1, 0, #[], rfl, Nat.le_refl _, blk_new _ _ (by simp), Nat.le_refl _, by decide, rfl, rfl⟩⟩
  case round =>
    obtain ⟨k, hk, rfl, hbel, hown, b1⟩ := hrel
    by_cases hk0 : k = 16
    · subst hk0
      have hc := run_string_own Tryd.underlying23 Tryd.underlying5 hown 9 Tryd.underlying9
      go_wp2
      go_ret
      exact ⟨rfl, hbel⟩
    · have hk' : (k : Int) < 16 := by omega
      have c1 := (blk_cell b1 k).trans (arrK_get _ _ _ _ (by omega))
      have r1 := l16_ok X k
      obtain ⟨hb1, hb2⟩ := l16_byt X k
      have off0.size := hbel.size
      have HB := Lib.hid hbel.size
      have ag : u3.ownBlock ≠ some w.heap.size := fun h => by have := (hown.lt _ h).1; omega
      have hob : ∀ k, u3.ownBlock = some k → w.heap.size + 1 ≤ k := fun k hk => (hown.lt k hk).1
      have HO := Lib.hid hob
      clear hob
      go_wp2_with fail
      go_region_held3 (fun W => W.cell? ⟨w.heap.size, k, none⟩ = some (.int .i64 (l16 X k)))
        (first
          | go_keep
          | (rw [hgrow.cell_far _ (by simp; omega) (Ne.symm ag)]; first | assumption | (simp [*]; done)))
        ((refine step_append_lies _ (by rfl) (.tmp 10) (.tmp 20) 23 (by rfl) (w.heap.size + 1) 5 i0 (.int .u8 0) 1 1 Tryd.underlying23 hi hz0 hz1 hz2 rfl (by omega) u3 (2 * k) (lstK .u8 (2 * k) (byt X)) (by rfl) (by first | exact (hown.alloc _).drew | exact (hown.drew).alloc _)
            ⟨wr.heap.size, 0, none⟩ 2 2 [.int .u8 (byt X (2 * k)), .int .u8 (byt X (2 * k + 1))] (by rfl) (by rfl) (World.news_of_block (cs := #[.int .u8 (byt X (2 * k)), .int .u8 (byt X (2 * k + 1))]) (t := 5) (fr := (0, 0)) (heap_alloc_new wr _)) (by simp [Value.oneCell'])
            (by omega) (by unfold maxLen; omega) (by omega) (by simp; omega) (wr.heap.size + 1) (by simp) ?_; intro gg cap w1 hown1 hgrow hat hlt))
      have hob := HO.out
      rw [List.append_cons, ← lstK_succ, ← lstK_succ] at hown1
      have hbel' := own_below ((hbel.alloc off0.size (.cells #[.int .u8 (byt X (2 * k)), .int .u8 (byt X (2 * k + 1))] 5)).drew) hgrow (by simp; omega) (fun k hk => by have := hob k hk; omega)
      have b1' := blk_grown (blk_drew (blk_alloc b1 _)) hgrow (fun k hk => by have := hob k hk; omega)
      go_wp2
      go_roundw
      case rel =>
        exact ⟨k + 1, by omega, by go_num, hbel', hown1, b1'⟩
      case measure => simp [intOf]; omega
end Go.Proofs.YtefpoollmbmkfaaDoor

namespace Go.Proofs.YtefpoollmbmkfaaDoor
set_option maxHeartbeats 4000000
set_option maxRecDepth 100000
open Go.RowKit

theorem bits_or_i64_nat (a b : Nat) (ha : a < 9223372036854775808) (hb : b < 9223372036854775808) :
    bits .or .i64 (a : Int) (b : Int) = ((a ||| b : Nat) : Int) := by
  have hx : a ||| b < 2 ^ 63 := Nat.or_lt_two_pow (by omega) (by omega)
  have h1 : (BitVec.ofInt 64 (a : Int)).toNat = a := by
    rw [BitVec.ofInt_natCast, BitVec.toNat_ofNat]; exact Nat.mod_eq_of_lt (by omega)
  have h2 : (BitVec.ofInt 64 (b : Int)).toNat = b := by
    rw [BitVec.ofInt_natCast, BitVec.toNat_ofNat]; exact Nat.mod_eq_of_lt (by omega)
  show IntKind.i64.wrap ((BitVec.ofInt 64 (a : Int) ||| BitVec.ofInt 64 (b : Int)).toNat : Int) = _
  rw [BitVec.toNat_or, h1, h2, IntKind.wrap_i64]
  omega
theorem l16_two (V k : Nat) : bits .or .i64 (byt V (2 * k)) (byt V (2 * k + 1) * 2 ^ 8) = l16 V k := by
  unfold byt l16
  rw [show 8 * (2 * k) = 16 * k by omega, show 8 * (2 * k + 1) = 16 * k + 8 by omega, Nat.pow_add, ← Nat.div_div_eq_div_mul]
  generalize V / 2 ^ (16 * k) = x
  have h1 : x % 256 < 2 ^ 8 := Nat.mod_lt _ (by decide)
  have e : ((x / 2 ^ 8 % 256 : Nat) : Int) * 2 ^ 8 = ((x / 2 ^ 8 % 256 * 256 : Nat) : Int) := by rw [Int.natCast_mul]; rfl
  rw [e]
  have e3 : x % 256 ||| x / 2 ^ 8 % 256 * 256 = x % 65536 := by
    rw [Nat.or_comm, show (256 : Nat) = 2 ^ 8 by decide, Nat.mul_comm, ← Nat.two_pow_add_eq_or_of_lt h1]; omega
  rw [bits_or_i64_nat _ _ (by omega) (by omega), e3]
theorem l16_top (V : Nat) : bits .and .i64 (l16 V 15) 32767 = l16 (V % 2 ^ 255) 15 := by
  have h := l16_ok V 15
  have e := bits_mask .i64 63 (by decide) (fun n a b => by rw [IntKind.wrap_i64]; omega) 15 (by omega) (l16 V 15) h.1 (by omega)
  have e1 : (2 : Int) ^ 15 - 1 = 32767 := by decide
  have e2 : (2 : Int) ^ 15 = 32768 := by decide
  rw [e1, e2] at e
  rw [e]
  unfold l16
  simp only [Nat.reduceMul, Nat.reducePow]
  omega
theorem top_set (V : Nat) : (arrK .i64 16 (l16 V)).setIfInBounds 15 (.int .i64 (bits .and .i64 (l16 V 15) 32767)) = arrK .i64 16 (l16 (V % 2 ^ 255)) := by
  rw [l16_top, arrK_set]
  apply arrK_congr
  intro j hj
  by_cases h3 : j = 15
  · subst h3; rw [upd_same]
  · rw [upd_other _ _ _ _ h3]
    have : j = 0 ∨ j = 1 ∨ j = 2 ∨ j = 3 ∨ j = 4 ∨ j = 5 ∨ j = 6 ∨ j = 7 ∨ j = 8 ∨ j = 9 ∨ j = 10 ∨ j = 11 ∨ j = 12 ∨ j = 13 ∨ j = 14 := by omega
    unfold l16
    rcases this with rfl | rfl | rfl | rfl | rfl | rfl | rfl | rfl | rfl | rfl | rfl | rfl | rfl | rfl | rfl <;> simp only [Nat.reduceMul, Nat.reducePow] <;> omega

theorem rFrom_c (V : Nat) (w : World) :
  Calls Tryd.prog 97 #[strN 32 (byt V)] w fun e w' => Ret (A16 (V % 2 ^ 255 % PP)) w w' e := by
 have hI : ∀ j : Nat, j < 32 → ∀ W, (Instr.index 9 (strN 32 (byt V)) (.int .i64 (j : Int))).run Tryd.prog W = .ok (.int .u8 (byt V j)) W := fun j hj W => strN_index 9 Tryd.underlying9 32 (byt V) (fun i _ => byt_ok V i) j hj W
 have HI := Lib.hid hI
 clear hI
 obtain ⟨S, hS⟩ := exn (strN 32 (byt V))
 rw [← hS] at HI ⊢
 clear hS
 go_enter Tryd.func97, Tryd.ntmps97
 go_wp2_with fail
 refine wn2 (c1 := (arrK .i64 16 (fun _ => 0))) (t1 := 76) (c2 := (arrK .i64 16 (fun _ => 0))) (t2 := 76) fun W0 bel k_t2 k_t3 => ?_
 have lt_t2_0 := blk_lt k_t2
 have lt_t3_0 := blk_lt k_t3
 go_wp2_with fail
 go_loopw [4] (fun ii wr => ∃ (k : Nat), k ≤ 16 ∧ ii = .int .i64 k ∧ Below w.heap.size w wr ∧ Blk wr w.heap.size (arrK .i64 16 (fun _ => 0)) 76 ∧ Blk wr (w.heap.size + 1) (arrK .i64 16 (mixF k (l16 V) (fun _ => 0))) 76)
  (fun ii _ => (16 - intOf ii).toNat)
 case atStart =>
  refine ⟨0, by omega, rfl, bel, k_t2, ?_⟩
  rw [mixF_zero]; exact k_t3
 case round =>
  obtain ⟨k, hk, rfl, bel, k_t2, k_t3⟩ := hrel
  by_cases hexit : k = 16
  ·
   have _hx := hexit
   subst hexit
   rw [mixF_all] at k_t3
   have c3 := (blk_cell k_t3 15).trans (arrK_get _ _ _ _ (by omega))
   have f3 := blk_free k_t3
   have bT : V % 2 ^ 255 < P256 := Nat.lt_trans (Nat.mod_lt _ (by decide)) (by decide)
   go_upto_region 7 with fail
   have hs := blk_set k_t3 15 (.int .i64 (bits .and .i64 (l16 V 15) 32767))
   rw [top_set] at hs
   have hF := And.intro (below_set bel (show w.heap.size ≤ (w.heap.size + 1) by omega) 15 (.int .i64 (bits .and .i64 (l16 V 15) 32767))) (And.intro (blk_other k_t2 (show w.heap.size ≠ (w.heap.size + 1) by omega) 15 (.int .i64 (bits .and .i64 (l16 V 15) 32767))) hs)
   generalize wr.setCell ⟨w.heap.size + 1, 15, none⟩ (.int .i64 (bits .and .i64 (l16 V 15) 32767)) = Wm at hF ⊢
   clear bel k_t2 k_t3 c3 f3 hs
   obtain ⟨bel, k_t2, k_t3⟩ := hF
   have lt_t2_1 := blk_lt k_t2
   have lt_t3_1 := blk_lt k_t3
   have c_t := rtidy_c (l16 (V % 2 ^ 255)) (okF_l16 _)
   rw [sval_one _ bT] at c_t
   obtain ⟨R, hR⟩ := exn (V % 2 ^ 255 % PP)
   rw [← hR] at c_t
   have HR := Lib.hid hR
   clear hR
   refine Px 2 ?_
   refine XL ?_
   refine Xf ?_ (fun W hW => c_t W)
   refine wpX_nil fun W2 hE => ?_
   refine LS ?_ (blk_step k_t2 hE) (g := w.heap.size) (cells := arrK .i64 16 (l16 R)) (h1 := (arrK_one _ _ _))
   refine wpL_nil ?_
   have hF : Below w.heap.size w (W2.setRow w.heap.size (arrK .i64 16 (l16 R))) ∧ Blk (W2.setRow w.heap.size (arrK .i64 16 (l16 R))) w.heap.size (arrK .i64 16 (l16 R)) 76 ∧ Blk (W2.setRow w.heap.size (arrK .i64 16 (l16 R))) (w.heap.size + 1) (arrK .i64 16 (l16 (V % 2 ^ 255))) 76 := ⟨(below_setRow (below_step bel hE bel.size) (by omega) _), (blk_setRow (blk_step k_t2 hE) (arrK .i64 16 (l16 R))), (blk_setRow_other (blk_step k_t3 hE) (by omega) _)⟩
   generalize (W2.setRow w.heap.size (arrK .i64 16 (l16 R))) = W3 at hF ⊢
   clear bel k_t2 k_t3
   obtain ⟨bel, k_t2, k_t3⟩ := hF
   go_wp2
   refine bodyPost_ret (res_row rfl rfl k_t2 (by kernel_rfl) (by kernel_rfl)) rfl ⟨?_, bel⟩
   (rw [← HR.out] <;> rfl)
  ·
   have hk3 : k < 16 := by omega
   have hk3' : (k : Int) < 16 := by omega
   clear hexit
   have c3 := (blk_cell k_t3 k).trans (arrK_get _ _ _ _ hk3)
   rw [mixF_at] at c3
   have f3 := blk_free k_t3
   have i0 := fun W => HI.out (2 * k) (by omega) W
   have i1 := fun W => HI.out (2 * k + 1) (by omega) W
   obtain ⟨b0, b1⟩ := byt_ok V (2 * k)
   obtain ⟨b2, b3⟩ := byt_ok V (2 * k + 1)
   have ho : bits .or .i64 (byt V (2 * k)) (byt V (2 * k + 1) * 256) = l16 V k := l16_two V k
   have w0 : IntKind.i64.wrap (2 * (k : Int)) = 2 * (k : Int) := IntWalk.i64_in _ (by omega)
   have w1 : IntKind.i64.wrap (2 * (k : Int) + 1) = 2 * (k : Int) + 1 := IntWalk.i64_in _ (by omega)
   have e0 : ((2 * k : Nat) : Int) = 2 * (k : Int) := by omega
   have e1 : ((2 * k + 1 : Nat) : Int) = 2 * (k : Int) + 1 := by omega
   rw [e0] at i0
   rw [e1] at i1
   have w2 : IntKind.i64.wrap (byt V (2 * k)) = byt V (2 * k) := IntWalk.i64_in _ (by omega)
   have w3 : IntKind.i64.wrap (byt V (2 * k + 1)) = byt V (2 * k + 1) := IntWalk.i64_in _ (by omega)
   have w4 : IntKind.i64.wrap (byt V (2 * k + 1) * 2 ^ 8) = byt V (2 * k + 1) * 2 ^ 8 := IntWalk.i64_in _ (by omega)
   have w5 : IntKind.i64.wrap (byt V (2 * k + 1) * 256) = byt V (2 * k + 1) * 2 ^ 8 := IntWalk.i64_in _ (by omega)
   go_wp2
   go_region
   go_wp2
   have hs := blk_set k_t3 k (.int .i64 (l16 V k))
   rw [mixF_set] at hs
   go_roundw
   case rel =>
    refine ⟨k + 1, by omega, ?_, ?_, ?_, blk_drew hs⟩
    ·
     (first | rfl | go_num)
    ·
     exact (below_set bel (by omega) _ _).drew
    ·
     exact blk_drew (blk_other k_t2 (by omega) _ _)
   case measure => simp [intOf]; omega
end Go.Proofs.YtefpoollmbmkfaaDoor
