/- custumalref05.Pow, Inv, I. No conditions. -/
import Derived.Test.YtghajiagbfcmdaaDoorFrE
import Derived.Test.YtghajiagbfcmdaaDoorFeG
namespace Go.Proofs.YtghajiagbfcmdaaDoor
set_option linter.unusedSimpArgs false
set_option linter.unusedVariables false
open Go.RowKit

theorem lim_bit2 (n q r : Nat) (hr : r < 64) : (lim n q / 2 ^ r) % 2 = ((n / 2 ^ (64 * q + r) % 2 : Nat) : Int) := by
  rw [← lim_bit n q r hr]
  obtain ⟨l0, l1⟩ := lim_ok n q
  obtain ⟨X, hX⟩ := Int.eq_ofNat_of_zero_le l0
  rw [hX] at l1 ⊢
  have e : ((X : Int) / 2 ^ r) = ((X / 2 ^ r : Nat) : Int) := by push_cast; rfl
  have hl : X / 2 ^ r ≤ X := Nat.div_le_self _ _
  have e2 : bits .and .u64 (((X / 2 ^ r : Nat) : Int)) ((1 : Nat) : Int) = ((X / 2 ^ r % 2 : Nat) : Int) := by
    rw [bits_and_u64_nat _ _ (by omega) (by omega), Nat.and_one_is_mod]
  rw [e]
  exact (Eq.trans e2 (by omega)).symm
theorem lim_sh (n q r : Nat) : 0 ≤ lim n q / 2 ^ r ∧ (lim n q / 2 ^ r).tmod 2 = (lim n q / 2 ^ r) % 2 := by
  have h : 0 ≤ lim n q / 2 ^ r := Int.ediv_nonneg (lim_ok n q).1 (Int.le_of_lt (Int.pow_pos (by decide)))
  exact ⟨h, Int.tmod_eq_emod_of_nonneg h⟩
/-- the power, bit by bit from the top -/
def mp (A n : Nat) : Nat → Nat
  | 0 => 1
  | c + 1 => if n / 2 ^ (255 - c) % 2 = 1 then (mp A n c * mp A n c % PP) * A % PP else mp A n c * mp A n c % PP
theorem mp_eq (A n : Nat) (hn : n < P256) : ∀ c, c ≤ 256 → mp A n c = pw A (n / 2 ^ (256 - c))
  | 0, _ => by rw [show 256 - 0 = 256 by decide, Nat.div_eq_of_lt (show n < 2 ^ 256 from hn), pw_zero]; rfl
  | c + 1, h => by
    have ih := mp_eq A n hn c (by omega)
    rw [show 256 - c = (255 - c) + 1 by omega] at ih
    rw [show 256 - (c + 1) = 255 - c by omega]
    unfold mp
    rw [ih]
    split
    · rename_i h1; exact pw_half1 A n _ h1
    · rename_i h1; exact pw_half A n _ (by omega)
theorem pw_mp (A n : Nat) (hn : n < P256) : pw A n = mp A n 256 := by
  rw [mp_eq A n hn 256 (by omega), show 256 - 256 = 0 by decide, Nat.pow_zero, Nat.div_one]
theorem II_pw : II = pw 2 ((PP - 1) / 4) := by
  rw [pw_mp _ _ (by decide)]
  decide +kernel

set_option maxHeartbeats 4000000 in
theorem rPow_c (X n : Nat) (hX : X < P256) (hn : n < P256) (w : World) :
    Calls Tryd.prog 60 #[A16 X, L4 n] w fun e w' => Ret (A16 (pw X n)) w w' e := by
  unfold A16
  go_enter Tryd.func60, Tryd.ntmps60
  go_upto_region 1 with fail
  refine wp_world (fun W => Below w.heap.size w W ∧ Blk W w.heap.size (arrK .i64 16 (l16 X)) 39 ∧ Blk W (w.heap.size + 1) (c4 n) 25 ∧ Blk W (w.heap.size + 2) (arrK .i64 16 (fun _ => 0)) 39) ⟨(by (repeat' (first | (with_reducible assumption) | (with_reducible exact Below.refl _ _) | (with_reducible refine Below.drew ?_) | (with_reducible refine Below.alloc ?_ ?_ _) | (with_reducible refine below_set ?_ ?_ _ _) | (with_reducible refine below_setRow ?_ ?_ _) | (with_reducible refine below_step ?_ (by assumption) ?_))) <;> (first | omega | ((try simp only [World.size_alloc, World.size_setCell, World.size_drew, size_setRow]); omega))), blk_alloc (blk_alloc (blk_new _ _ rfl) _) _, blk_alloc (blk_new _ _ (by simp)) _, blk_new _ _ (by simp)⟩ ?_
  rintro W0 ⟨bel, k_t2, k_t3, k_t4⟩
  have lt_t2_0 := blk_lt k_t2
  have lt_t3_0 := blk_lt k_t3
  have lt_t4_0 := blk_lt k_t4
  refine wp_region_pn 1 [⟨1, 5, arrK .i64 16 (fun _ => 0), 39⟩] ?_ (by kernel_rfl) ?_
  · intro x hx
    simp only [List.mem_cons, List.not_mem_nil, or_false] at hx
    subst hx; exact ⟨_, rfl, rfl, rfl, fun _ _ => by kernel_rfl⟩
  simp only [List.take_succ_cons, List.take_zero, List.take_nil]
  (try simp only [Act.put, List.setIfInBounds_toArray, List.set_cons_zero, List.set_cons_succ])
  (refine wpX_val (v := ?_) (by rfl) (fun W hW => ?_) ?_; rotate_left 1; (focus (go_simp; first | done | with_reducible rfl)); (try simp only [Act.put, List.setIfInBounds_toArray, List.set_cons_zero, List.set_cons_succ]))
  refine wpX_nil ?_
  intro β W1 hE hN hD
  obtain ⟨n_t5_1, k_t5⟩ := hN _ (List.mem_cons_self ..)
  simp only [putAll, Act.put, List.setIfInBounds_toArray, List.set_cons_zero, List.set_cons_succ, List.drop_succ_cons, List.drop_zero, List.drop_nil, List.length_cons, List.length_nil] at n_t5_1 k_t5 ⊢
  generalize β 1 = p5_1 at *
  have sz_1 := bel.size
  clear hN hD β
  refine wpL_store (g := p5_1) (cells := arrK .i64 16 (l16 1)) (by rfl) rfl rfl rfl k_t5 (by kernel_rfl) (by kernel_rfl) (arrK_one _ _ _) ?_
  (try simp only [Act.put, List.setIfInBounds_toArray, List.set_cons_zero, List.set_cons_succ])
  refine wpL_nil ?_
  have hF : Below w.heap.size w (W1.setRow p5_1 (arrK .i64 16 (l16 1))) ∧ Blk (W1.setRow p5_1 (arrK .i64 16 (l16 1))) w.heap.size (arrK .i64 16 (l16 X)) 39 ∧ Blk (W1.setRow p5_1 (arrK .i64 16 (l16 1))) (w.heap.size + 1) (c4 n) 25 ∧ Blk (W1.setRow p5_1 (arrK .i64 16 (l16 1))) (w.heap.size + 2) (arrK .i64 16 (fun _ => 0)) 39 ∧ Blk (W1.setRow p5_1 (arrK .i64 16 (l16 1))) p5_1 (arrK .i64 16 (l16 1)) 39 := ⟨(below_setRow (below_step bel hE bel.size) (by omega) _), (blk_setRow_other (blk_step k_t2 hE) (by omega) _), (blk_setRow_other (blk_step k_t3 hE) (by omega) _), (blk_setRow_other (blk_step k_t4 hE) (by omega) _), (blk_setRow k_t5 (arrK .i64 16 (l16 1)))⟩
  generalize (W1.setRow p5_1 (arrK .i64 16 (l16 1))) = W2 at hF ⊢
  clear bel k_t2 k_t3 k_t4 k_t5
  obtain ⟨bel, k_t2, k_t3, k_t4, k_t5⟩ := hF
  have lt_t5_2 := blk_lt k_t5
  go_wp2_with fail
  go_loopw [6] (fun ii wr => ∃ (k R : Nat), k ≤ 256 ∧ ii = .int .i64 ((k : Int) - 1) ∧ R = pw X (n / 2 ^ k) ∧ Below w.heap.size w wr ∧ Blk wr w.heap.size (arrK .i64 16 (l16 X)) 39 ∧ Blk wr (w.heap.size + 1) (c4 n) 25 ∧ Blk wr (w.heap.size + 2) (arrK .i64 16 (fun _ => 0)) 39 ∧ Blk wr p5_1 (arrK .i64 16 (l16 R)) 39)
    (fun ii _ => (intOf ii + 1).toNat)
  case atStart =>
    refine ⟨256, 1, by omega, rfl, ?_, bel, k_t2, k_t3, k_t4, k_t5⟩
    rw [Nat.div_eq_of_lt (show n < 2 ^ 256 from hn), pw_zero]
  case round =>
    obtain ⟨k, R, hk, rfl, hR, bel, k_t2, k_t3, k_t4, k_t5⟩ := hrel
    have bR : R < P256 := by rw [hR]; exact pw_lt _ _
    have HR := Lib.hid hR
    clear hR
    by_cases hexit : k = 0
    · have _hx := hexit
      subst hexit
      go_upto_region 8 with fail
      have lt_t2_3 := blk_lt k_t2
      have lt_t3_3 := blk_lt k_t3
      have lt_t4_3 := blk_lt k_t4
      have lt_t5_3 := blk_lt k_t5
      refine wp_region_pn 1 [] (fun x hx => by cases hx) (by kernel_rfl) ?_
      simp only [List.take_succ_cons, List.take_zero, List.take_nil]
      (try simp only [Act.put, List.setIfInBounds_toArray, List.set_cons_zero, List.set_cons_succ])
      ((with_reducible refine wpX_load (b := ?_) (cs := ?_) ?_ rfl ?_ ?_ ?_ ?_ ?_); rotate_left 2; (focus rfl); (focus rfl); (focus first | assumption | exact blk_rd (by assumption)); (focus kernel_rfl); (focus kernel_rfl); (try simp only [Act.put, List.setIfInBounds_toArray, List.set_cons_zero, List.set_cons_succ]))
      refine wpX_nil ?_
      intro β W4 hE hN hD
      simp only [putAll, Act.put, List.setIfInBounds_toArray, List.set_cons_zero, List.set_cons_succ, List.drop_succ_cons, List.drop_zero, List.drop_nil, List.length_cons, List.length_nil]
      clear hN hD β
      refine wpL_store (g := (w.heap.size + 2)) (cells := arrK .i64 16 (l16 R)) (by rfl) rfl rfl rfl (blk_step k_t4 hE) (by kernel_rfl) (by kernel_rfl) (arrK_one _ _ _) ?_
      (try simp only [Act.put, List.setIfInBounds_toArray, List.set_cons_zero, List.set_cons_succ])
      refine wpL_nil ?_
      have hF : Below w.heap.size w (W4.setRow (w.heap.size + 2) (arrK .i64 16 (l16 R))) ∧ Blk (W4.setRow (w.heap.size + 2) (arrK .i64 16 (l16 R))) w.heap.size (arrK .i64 16 (l16 X)) 39 ∧ Blk (W4.setRow (w.heap.size + 2) (arrK .i64 16 (l16 R))) (w.heap.size + 1) (c4 n) 25 ∧ Blk (W4.setRow (w.heap.size + 2) (arrK .i64 16 (l16 R))) (w.heap.size + 2) (arrK .i64 16 (l16 R)) 39 ∧ Blk (W4.setRow (w.heap.size + 2) (arrK .i64 16 (l16 R))) p5_1 (arrK .i64 16 (l16 R)) 39 := ⟨(below_setRow (below_step bel hE bel.size) (by omega) _), (blk_setRow_other (blk_step k_t2 hE) (by omega) _), (blk_setRow_other (blk_step k_t3 hE) (by omega) _), (blk_setRow (blk_step k_t4 hE) (arrK .i64 16 (l16 R))), (blk_setRow_other (blk_step k_t5 hE) (by omega) _)⟩
      generalize (W4.setRow (w.heap.size + 2) (arrK .i64 16 (l16 R))) = W5 at hF ⊢
      clear bel k_t2 k_t3 k_t4 k_t5
      obtain ⟨bel, k_t2, k_t3, k_t4, k_t5⟩ := hF
      go_wp2
      refine bodyPost_ret (res_row rfl rfl k_t4 (by kernel_rfl) (by kernel_rfl)) rfl ⟨?_, bel⟩
      rw [HR.out, Nat.pow_zero, Nat.div_one] <;> rfl
    · obtain ⟨q, r, hr, rfl⟩ : ∃ q r, r < 64 ∧ k = 64 * q + r + 1 := ⟨(k - 1) / 64, (k - 1) % 64, by omega, by omega⟩
      have e1 : ((64 * q + r + 1 : Nat) : Int) - 1 = 64 * (q : Int) + (r : Int) := by omega
      rw [e1]
      clear hexit e1
      have d1 : (64 * (q : Int) + (r : Int)) / 64 = (q : Int) := by omega
      have d2 : (64 * (q : Int) + (r : Int)) % 64 = (r : Int) := by omega
      have hq1 : (q : Int) < 4 := by omega
      have hr1 : (r : Int) < 64 := by omega
      have hq0 : (0 : Int) ≤ 64 * (q : Int) + (r : Int) := by omega
      rcases Nat.mod_two_eq_zero_or_one (n / 2 ^ (64 * q + r)) with hbit | hbit
      · have HB := Lib.hid hbit
        go_upto_region 5 with fail
        have lt_t2_3 := blk_lt k_t2
        have lt_t3_3 := blk_lt k_t3
        have lt_t4_3 := blk_lt k_t4
        have lt_t5_3 := blk_lt k_t5
        have c_X1 := rMul_c R R bR bR
        obtain ⟨X1, hX1⟩ : ∃ v_, v_ = R * R % PP := ⟨_, rfl⟩
        rw [← hX1] at c_X1
        have bX1 : X1 < P256 := by rw [hX1]; exact mod_256 _
        have HX1 := Lib.hid hX1
        clear hX1
        refine wp_region_pn 3 [] (fun x hx => by cases hx) (by kernel_rfl) ?_
        simp only [List.take_succ_cons, List.take_zero, List.take_nil]
        (try simp only [Act.put, List.setIfInBounds_toArray, List.set_cons_zero, List.set_cons_succ])
        ((with_reducible refine wpX_load (b := ?_) (cs := ?_) ?_ rfl ?_ ?_ ?_ ?_ ?_); rotate_left 2; (focus rfl); (focus rfl); (focus first | assumption | exact blk_rd (by assumption)); (focus kernel_rfl); (focus kernel_rfl); (try simp only [Act.put, List.setIfInBounds_toArray, List.set_cons_zero, List.set_cons_succ]))
        ((with_reducible refine wpX_load (b := ?_) (cs := ?_) ?_ rfl ?_ ?_ ?_ ?_ ?_); rotate_left 2; (focus rfl); (focus rfl); (focus first | assumption | exact blk_rd (by assumption)); (focus kernel_rfl); (focus kernel_rfl); (try simp only [Act.put, List.setIfInBounds_toArray, List.set_cons_zero, List.set_cons_succ]))
        ((with_reducible refine wpX_fn (fun W hW => c_X1 W) ?_ rfl ?_ ?_ ?_); (focus rfl); (focus kernel_rfl); (focus rfl); (try simp only [Act.put, List.setIfInBounds_toArray, List.set_cons_zero, List.set_cons_succ]))
        refine wpX_nil ?_
        intro β W4 hE hN hD
        simp only [putAll, Act.put, List.setIfInBounds_toArray, List.set_cons_zero, List.set_cons_succ, List.drop_succ_cons, List.drop_zero, List.drop_nil, List.length_cons, List.length_nil]
        clear hN hD β
        refine wpL_store (g := p5_1) (cells := arrK .i64 16 (l16 X1)) (by rfl) rfl rfl rfl (blk_step k_t5 hE) (by kernel_rfl) (by kernel_rfl) (arrK_one _ _ _) ?_
        (try simp only [Act.put, List.setIfInBounds_toArray, List.set_cons_zero, List.set_cons_succ])
        refine wpL_nil ?_
        have hF : Below w.heap.size w (W4.setRow p5_1 (arrK .i64 16 (l16 X1))) ∧ Blk (W4.setRow p5_1 (arrK .i64 16 (l16 X1))) w.heap.size (arrK .i64 16 (l16 X)) 39 ∧ Blk (W4.setRow p5_1 (arrK .i64 16 (l16 X1))) (w.heap.size + 1) (c4 n) 25 ∧ Blk (W4.setRow p5_1 (arrK .i64 16 (l16 X1))) (w.heap.size + 2) (arrK .i64 16 (fun _ => 0)) 39 ∧ Blk (W4.setRow p5_1 (arrK .i64 16 (l16 X1))) p5_1 (arrK .i64 16 (l16 X1)) 39 := ⟨(below_setRow (below_step bel hE bel.size) (by omega) _), (blk_setRow_other (blk_step k_t2 hE) (by omega) _), (blk_setRow_other (blk_step k_t3 hE) (by omega) _), (blk_setRow_other (blk_step k_t4 hE) (by omega) _), (blk_setRow (blk_step k_t5 hE) (arrK .i64 16 (l16 X1)))⟩
        generalize (W4.setRow p5_1 (arrK .i64 16 (l16 X1))) = W5 at hF ⊢
        clear bel k_t2 k_t3 k_t4 k_t5
        obtain ⟨bel, k_t2, k_t3, k_t4, k_t5⟩ := hF
        have c3 := (blk_cell k_t3 q).trans (c4_get n q (by omega))
        have hbt := lim_bit2 n q r hr
        rw [hbit] at hbt
        obtain ⟨hs0, hs1⟩ := lim_sh n q r
        rw [hbt] at hs1
        clear hbit
        go_wp2_with fail
        go_roundw
        case rel => exact ⟨64 * q + r, X1, by omega, by go_num, by rw [HX1.out, HR.out]; exact pw_half X n _ HB.out, bel, k_t2, k_t3, k_t4, k_t5⟩
        case measure => simp [intOf]; omega
      · have HB := Lib.hid hbit
        go_upto_region 5 with fail
        have lt_t2_3 := blk_lt k_t2
        have lt_t3_3 := blk_lt k_t3
        have lt_t4_3 := blk_lt k_t4
        have lt_t5_3 := blk_lt k_t5
        have c_X1 := rMul_c R R bR bR
        obtain ⟨X1, hX1⟩ : ∃ v_, v_ = R * R % PP := ⟨_, rfl⟩
        rw [← hX1] at c_X1
        have bX1 : X1 < P256 := by rw [hX1]; exact mod_256 _
        have HX1 := Lib.hid hX1
        clear hX1
        refine wp_region_pn 3 [] (fun x hx => by cases hx) (by kernel_rfl) ?_
        simp only [List.take_succ_cons, List.take_zero, List.take_nil]
        (try simp only [Act.put, List.setIfInBounds_toArray, List.set_cons_zero, List.set_cons_succ])
        ((with_reducible refine wpX_load (b := ?_) (cs := ?_) ?_ rfl ?_ ?_ ?_ ?_ ?_); rotate_left 2; (focus rfl); (focus rfl); (focus first | assumption | exact blk_rd (by assumption)); (focus kernel_rfl); (focus kernel_rfl); (try simp only [Act.put, List.setIfInBounds_toArray, List.set_cons_zero, List.set_cons_succ]))
        ((with_reducible refine wpX_load (b := ?_) (cs := ?_) ?_ rfl ?_ ?_ ?_ ?_ ?_); rotate_left 2; (focus rfl); (focus rfl); (focus first | assumption | exact blk_rd (by assumption)); (focus kernel_rfl); (focus kernel_rfl); (try simp only [Act.put, List.setIfInBounds_toArray, List.set_cons_zero, List.set_cons_succ]))
        ((with_reducible refine wpX_fn (fun W hW => c_X1 W) ?_ rfl ?_ ?_ ?_); (focus rfl); (focus kernel_rfl); (focus rfl); (try simp only [Act.put, List.setIfInBounds_toArray, List.set_cons_zero, List.set_cons_succ]))
        refine wpX_nil ?_
        intro β W4 hE hN hD
        simp only [putAll, Act.put, List.setIfInBounds_toArray, List.set_cons_zero, List.set_cons_succ, List.drop_succ_cons, List.drop_zero, List.drop_nil, List.length_cons, List.length_nil]
        clear hN hD β
        refine wpL_store (g := p5_1) (cells := arrK .i64 16 (l16 X1)) (by rfl) rfl rfl rfl (blk_step k_t5 hE) (by kernel_rfl) (by kernel_rfl) (arrK_one _ _ _) ?_
        (try simp only [Act.put, List.setIfInBounds_toArray, List.set_cons_zero, List.set_cons_succ])
        refine wpL_nil ?_
        have hF : Below w.heap.size w (W4.setRow p5_1 (arrK .i64 16 (l16 X1))) ∧ Blk (W4.setRow p5_1 (arrK .i64 16 (l16 X1))) w.heap.size (arrK .i64 16 (l16 X)) 39 ∧ Blk (W4.setRow p5_1 (arrK .i64 16 (l16 X1))) (w.heap.size + 1) (c4 n) 25 ∧ Blk (W4.setRow p5_1 (arrK .i64 16 (l16 X1))) (w.heap.size + 2) (arrK .i64 16 (fun _ => 0)) 39 ∧ Blk (W4.setRow p5_1 (arrK .i64 16 (l16 X1))) p5_1 (arrK .i64 16 (l16 X1)) 39 := ⟨(below_setRow (below_step bel hE bel.size) (by omega) _), (blk_setRow_other (blk_step k_t2 hE) (by omega) _), (blk_setRow_other (blk_step k_t3 hE) (by omega) _), (blk_setRow_other (blk_step k_t4 hE) (by omega) _), (blk_setRow (blk_step k_t5 hE) (arrK .i64 16 (l16 X1)))⟩
        generalize (W4.setRow p5_1 (arrK .i64 16 (l16 X1))) = W5 at hF ⊢
        clear bel k_t2 k_t3 k_t4 k_t5
        obtain ⟨bel, k_t2, k_t3, k_t4, k_t5⟩ := hF
        have c3 := (blk_cell k_t3 q).trans (c4_get n q (by omega))
        have hbt := lim_bit2 n q r hr
        rw [hbit] at hbt
        obtain ⟨hs0, hs1⟩ := lim_sh n q r
        rw [hbt] at hs1
        go_upto_region 7 with fail
        have lt_t2_5 := blk_lt k_t2
        have lt_t3_5 := blk_lt k_t3
        have lt_t4_5 := blk_lt k_t4
        have lt_t5_5 := blk_lt k_t5
        have c_X2 := rMul_c X1 X bX1 hX
        obtain ⟨X2, hX2⟩ : ∃ v_, v_ = X1 * X % PP := ⟨_, rfl⟩
        rw [← hX2] at c_X2
        have bX2 : X2 < P256 := by rw [hX2]; exact mod_256 _
        have HX2 := Lib.hid hX2
        clear hX2
        refine wp_region_pn 3 [] (fun x hx => by cases hx) (by kernel_rfl) ?_
        simp only [List.take_succ_cons, List.take_zero, List.take_nil]
        (try simp only [Act.put, List.setIfInBounds_toArray, List.set_cons_zero, List.set_cons_succ])
        ((with_reducible refine wpX_load (b := ?_) (cs := ?_) ?_ rfl ?_ ?_ ?_ ?_ ?_); rotate_left 2; (focus rfl); (focus rfl); (focus first | assumption | exact blk_rd (by assumption)); (focus kernel_rfl); (focus kernel_rfl); (try simp only [Act.put, List.setIfInBounds_toArray, List.set_cons_zero, List.set_cons_succ]))
        ((with_reducible refine wpX_load (b := ?_) (cs := ?_) ?_ rfl ?_ ?_ ?_ ?_ ?_); rotate_left 2; (focus rfl); (focus rfl); (focus first | assumption | exact blk_rd (by assumption)); (focus kernel_rfl); (focus kernel_rfl); (try simp only [Act.put, List.setIfInBounds_toArray, List.set_cons_zero, List.set_cons_succ]))
        ((with_reducible refine wpX_fn (fun W hW => c_X2 W) ?_ rfl ?_ ?_ ?_); (focus rfl); (focus kernel_rfl); (focus rfl); (try simp only [Act.put, List.setIfInBounds_toArray, List.set_cons_zero, List.set_cons_succ]))
        refine wpX_nil ?_
        intro β W6 hE hN hD
        simp only [putAll, Act.put, List.setIfInBounds_toArray, List.set_cons_zero, List.set_cons_succ, List.drop_succ_cons, List.drop_zero, List.drop_nil, List.length_cons, List.length_nil]
        clear hN hD β
        refine wpL_store (g := p5_1) (cells := arrK .i64 16 (l16 X2)) (by rfl) rfl rfl rfl (blk_step k_t5 hE) (by kernel_rfl) (by kernel_rfl) (arrK_one _ _ _) ?_
        (try simp only [Act.put, List.setIfInBounds_toArray, List.set_cons_zero, List.set_cons_succ])
        refine wpL_nil ?_
        have hF : Below w.heap.size w (W6.setRow p5_1 (arrK .i64 16 (l16 X2))) ∧ Blk (W6.setRow p5_1 (arrK .i64 16 (l16 X2))) w.heap.size (arrK .i64 16 (l16 X)) 39 ∧ Blk (W6.setRow p5_1 (arrK .i64 16 (l16 X2))) (w.heap.size + 1) (c4 n) 25 ∧ Blk (W6.setRow p5_1 (arrK .i64 16 (l16 X2))) (w.heap.size + 2) (arrK .i64 16 (fun _ => 0)) 39 ∧ Blk (W6.setRow p5_1 (arrK .i64 16 (l16 X2))) p5_1 (arrK .i64 16 (l16 X2)) 39 := ⟨(below_setRow (below_step bel hE bel.size) (by omega) _), (blk_setRow_other (blk_step k_t2 hE) (by omega) _), (blk_setRow_other (blk_step k_t3 hE) (by omega) _), (blk_setRow_other (blk_step k_t4 hE) (by omega) _), (blk_setRow (blk_step k_t5 hE) (arrK .i64 16 (l16 X2)))⟩
        generalize (W6.setRow p5_1 (arrK .i64 16 (l16 X2))) = W7 at hF ⊢
        clear bel k_t2 k_t3 k_t4 k_t5
        obtain ⟨bel, k_t2, k_t3, k_t4, k_t5⟩ := hF
        clear hbit
        go_wp2_with fail
        go_roundw
        case rel => exact ⟨64 * q + r, X2, by omega, by go_num, by rw [HX2.out, HX1.out, HR.out]; exact pw_half1 X n _ HB.out, bel, k_t2, k_t3, k_t4, k_t5⟩
        case measure => simp [intOf]; omega
set_option maxHeartbeats 4000000 in
theorem rInv_c (X : Nat) (hX : X < P256) (w : World) :
    Calls Tryd.prog 62 #[A16 X] w fun e w' => Ret (A16 (pw X (PP - 2))) w w' e := by
  unfold A16
  go_enter Tryd.func62, Tryd.ntmps62
  go_upto_region 2 with fail
  refine wp_world (fun W => Below w.heap.size w W ∧ Blk W w.heap.size (arrK .i64 16 (l16 X)) 39 ∧ Blk W (w.heap.size + 1) (arrK .i64 16 (fun _ => 0)) 39) ⟨(by (repeat' (first | (with_reducible assumption) | (with_reducible exact Below.refl _ _) | (with_reducible refine Below.drew ?_) | (with_reducible refine Below.alloc ?_ ?_ _) | (with_reducible refine below_set ?_ ?_ _ _) | (with_reducible refine below_setRow ?_ ?_ _) | (with_reducible refine below_step ?_ (by assumption) ?_))) <;> (first | omega | ((try simp only [World.size_alloc, World.size_setCell, World.size_drew, size_setRow]); omega))), blk_alloc (blk_new _ _ rfl) _, blk_new _ _ (by simp)⟩ ?_
  rintro W0 ⟨bel, k_t1, k_t2⟩
  have lt_t1_0 := blk_lt k_t1
  have lt_t2_0 := blk_lt k_t2
  have c_X1 := rPow_c X (PP - 2) hX (by decide)
  obtain ⟨X1, hX1⟩ : ∃ v_, v_ = pw X (PP - 2) := ⟨_, rfl⟩
  rw [← hX1] at c_X1
  have bX1 : X1 < P256 := by rw [hX1]; exact pw_lt _ _
  have HX1 := Lib.hid hX1
  clear hX1
  refine wp_region_pn 9 [] (fun x hx => by cases hx) (by kernel_rfl) ?_
  simp only [List.take_succ_cons, List.take_zero, List.take_nil]
  (try simp only [Act.put, List.setIfInBounds_toArray, List.set_cons_zero, List.set_cons_succ])
  ((with_reducible refine wpX_load (b := ?_) (cs := ?_) ?_ rfl ?_ ?_ ?_ ?_ ?_); rotate_left 2; (focus rfl); (focus rfl); (focus first | assumption | exact blk_rd (by assumption)); (focus kernel_rfl); (focus kernel_rfl); (try simp only [Act.put, List.setIfInBounds_toArray, List.set_cons_zero, List.set_cons_succ]))
  (refine wpX_val (v := ?_) (by rfl) (fun W hW => ?_) ?_; rotate_left 1; (focus (go_simp; first | done | with_reducible rfl)); (try simp only [Act.put, List.setIfInBounds_toArray, List.set_cons_zero, List.set_cons_succ]))
  (refine wpX_val (v := ?_) (by rfl) (fun W hW => ?_) ?_; rotate_left 1; (focus (go_simp; first | done | with_reducible rfl)); (try simp only [Act.put, List.setIfInBounds_toArray, List.set_cons_zero, List.set_cons_succ]))
  (refine wpX_val (v := ?_) (by rfl) (fun W hW => ?_) ?_; rotate_left 1; (focus (go_simp; first | done | with_reducible rfl)); (try simp only [Act.put, List.setIfInBounds_toArray, List.set_cons_zero, List.set_cons_succ]))
  (refine wpX_val (v := ?_) (by rfl) (fun W hW => ?_) ?_; rotate_left 1; (focus (go_simp; first | done | with_reducible rfl)); (try simp only [Act.put, List.setIfInBounds_toArray, List.set_cons_zero, List.set_cons_succ]))
  (refine wpX_val (v := ?_) (by rfl) (fun W hW => ?_) ?_; rotate_left 1; (focus (go_simp; first | done | with_reducible rfl)); (try simp only [Act.put, List.setIfInBounds_toArray, List.set_cons_zero, List.set_cons_succ]))
  (refine wpX_val (v := ?_) (by rfl) (fun W hW => ?_) ?_; rotate_left 1; (focus (go_simp; first | done | with_reducible rfl)); (try simp only [Act.put, List.setIfInBounds_toArray, List.set_cons_zero, List.set_cons_succ]))
  (refine wpX_val (v := ?_) (by rfl) (fun W hW => ?_) ?_; rotate_left 1; (focus (go_simp; first | done | with_reducible rfl)); (try simp only [Act.put, List.setIfInBounds_toArray, List.set_cons_zero, List.set_cons_succ]))
  ((with_reducible refine wpX_fn (fun W hW => c_X1 W) ?_ rfl ?_ ?_ ?_); (focus rfl); (focus kernel_rfl); (focus rfl); (try simp only [Act.put, List.setIfInBounds_toArray, List.set_cons_zero, List.set_cons_succ]))
  refine wpX_nil ?_
  intro β W1 hE hN hD
  simp only [putAll, Act.put, List.setIfInBounds_toArray, List.set_cons_zero, List.set_cons_succ, List.drop_succ_cons, List.drop_zero, List.drop_nil, List.length_cons, List.length_nil]
  clear hN hD β
  refine wpL_store (g := (w.heap.size + 1)) (cells := arrK .i64 16 (l16 X1)) (by rfl) rfl rfl rfl (blk_step k_t2 hE) (by kernel_rfl) (by kernel_rfl) (arrK_one _ _ _) ?_
  (try simp only [Act.put, List.setIfInBounds_toArray, List.set_cons_zero, List.set_cons_succ])
  refine wpL_nil ?_
  have hF : Below w.heap.size w (W1.setRow (w.heap.size + 1) (arrK .i64 16 (l16 X1))) ∧ Blk (W1.setRow (w.heap.size + 1) (arrK .i64 16 (l16 X1))) w.heap.size (arrK .i64 16 (l16 X)) 39 ∧ Blk (W1.setRow (w.heap.size + 1) (arrK .i64 16 (l16 X1))) (w.heap.size + 1) (arrK .i64 16 (l16 X1)) 39 := ⟨(below_setRow (below_step bel hE bel.size) (by omega) _), (blk_setRow_other (blk_step k_t1 hE) (by omega) _), (blk_setRow (blk_step k_t2 hE) (arrK .i64 16 (l16 X1)))⟩
  generalize (W1.setRow (w.heap.size + 1) (arrK .i64 16 (l16 X1))) = W2 at hF ⊢
  clear bel k_t1 k_t2
  obtain ⟨bel, k_t1, k_t2⟩ := hF
  go_wp2
  refine bodyPost_ret (res_row rfl rfl k_t2 (by kernel_rfl) (by kernel_rfl)) rfl ⟨?_, bel⟩
  rw [← HX1.out] <;> rfl
set_option maxHeartbeats 4000000 in
theorem rI_c (w : World) :
    Calls Tryd.prog 61 #[] w fun e w' => Ret (A16 II) w w' e := by
  go_enter Tryd.func61, Tryd.ntmps61
  go_upto_region 2 with fail
  refine wp_world (fun W => Below w.heap.size w W ∧ Blk W w.heap.size (arrK .i64 16 (fun _ => 0)) 39) ⟨(by (repeat' (first | (with_reducible assumption) | (with_reducible exact Below.refl _ _) | (with_reducible refine Below.drew ?_) | (with_reducible refine Below.alloc ?_ ?_ _) | (with_reducible refine below_set ?_ ?_ _ _) | (with_reducible refine below_setRow ?_ ?_ _) | (with_reducible refine below_step ?_ (by assumption) ?_))) <;> (first | omega | ((try simp only [World.size_alloc, World.size_setCell, World.size_drew, size_setRow]); omega))), blk_new _ _ rfl⟩ ?_
  rintro W0 ⟨bel, k_t0⟩
  have lt_t0_0 := blk_lt k_t0
  have c_X1 := rPow_c 2 ((PP - 1) / 4) (by decide) (by decide)
  obtain ⟨X1, hX1⟩ : ∃ v_, v_ = pw 2 ((PP - 1) / 4) := ⟨_, rfl⟩
  rw [← hX1] at c_X1
  have bX1 : X1 < P256 := by rw [hX1]; exact pw_lt _ _
  have HX1 := Lib.hid hX1
  clear hX1
  refine wp_region_pn 9 [] (fun x hx => by cases hx) (by kernel_rfl) ?_
  simp only [List.take_succ_cons, List.take_zero, List.take_nil]
  (try simp only [Act.put, List.setIfInBounds_toArray, List.set_cons_zero, List.set_cons_succ])
  (refine wpX_val (v := ?_) (by rfl) (fun W hW => ?_) ?_; rotate_left 1; (focus (go_simp; first | done | with_reducible rfl)); (try simp only [Act.put, List.setIfInBounds_toArray, List.set_cons_zero, List.set_cons_succ]))
  (refine wpX_val (v := ?_) (by rfl) (fun W hW => ?_) ?_; rotate_left 1; (focus (go_simp; first | done | with_reducible rfl)); (try simp only [Act.put, List.setIfInBounds_toArray, List.set_cons_zero, List.set_cons_succ]))
  (refine wpX_val (v := ?_) (by rfl) (fun W hW => ?_) ?_; rotate_left 1; (focus (go_simp; first | done | with_reducible rfl)); (try simp only [Act.put, List.setIfInBounds_toArray, List.set_cons_zero, List.set_cons_succ]))
  (refine wpX_val (v := ?_) (by rfl) (fun W hW => ?_) ?_; rotate_left 1; (focus (go_simp; first | done | with_reducible rfl)); (try simp only [Act.put, List.setIfInBounds_toArray, List.set_cons_zero, List.set_cons_succ]))
  (refine wpX_val (v := ?_) (by rfl) (fun W hW => ?_) ?_; rotate_left 1; (focus (go_simp; first | done | with_reducible rfl)); (try simp only [Act.put, List.setIfInBounds_toArray, List.set_cons_zero, List.set_cons_succ]))
  (refine wpX_val (v := ?_) (by rfl) (fun W hW => ?_) ?_; rotate_left 1; (focus (go_simp; first | done | with_reducible rfl)); (try simp only [Act.put, List.setIfInBounds_toArray, List.set_cons_zero, List.set_cons_succ]))
  (refine wpX_val (v := ?_) (by rfl) (fun W hW => ?_) ?_; rotate_left 1; (focus (go_simp; first | done | with_reducible rfl)); (try simp only [Act.put, List.setIfInBounds_toArray, List.set_cons_zero, List.set_cons_succ]))
  (refine wpX_val (v := ?_) (by rfl) (fun W hW => ?_) ?_; rotate_left 1; (focus (go_simp; first | done | with_reducible rfl)); (try simp only [Act.put, List.setIfInBounds_toArray, List.set_cons_zero, List.set_cons_succ]))
  ((with_reducible refine wpX_fn (fun W hW => c_X1 W) ?_ rfl ?_ ?_ ?_); (focus rfl); (focus kernel_rfl); (focus rfl); (try simp only [Act.put, List.setIfInBounds_toArray, List.set_cons_zero, List.set_cons_succ]))
  refine wpX_nil ?_
  intro β W1 hE hN hD
  simp only [putAll, Act.put, List.setIfInBounds_toArray, List.set_cons_zero, List.set_cons_succ, List.drop_succ_cons, List.drop_zero, List.drop_nil, List.length_cons, List.length_nil]
  clear hN hD β
  refine wpL_store (g := w.heap.size) (cells := arrK .i64 16 (l16 X1)) (by rfl) rfl rfl rfl (blk_step k_t0 hE) (by kernel_rfl) (by kernel_rfl) (arrK_one _ _ _) ?_
  (try simp only [Act.put, List.setIfInBounds_toArray, List.set_cons_zero, List.set_cons_succ])
  refine wpL_nil ?_
  have hF : Below w.heap.size w (W1.setRow w.heap.size (arrK .i64 16 (l16 X1))) ∧ Blk (W1.setRow w.heap.size (arrK .i64 16 (l16 X1))) w.heap.size (arrK .i64 16 (l16 X1)) 39 := ⟨(below_setRow (below_step bel hE bel.size) (by omega) _), (blk_setRow (blk_step k_t0 hE) (arrK .i64 16 (l16 X1)))⟩
  generalize (W1.setRow w.heap.size (arrK .i64 16 (l16 X1))) = W2 at hF ⊢
  clear bel k_t0
  obtain ⟨bel, k_t0⟩ := hF
  go_wp2
  refine bodyPost_ret (res_row rfl rfl k_t0 (by kernel_rfl) (by kernel_rfl)) rfl ⟨?_, bel⟩
  rw [II_pw, ← HX1.out] <;> rfl
end Go.Proofs.YtghajiagbfcmdaaDoor
