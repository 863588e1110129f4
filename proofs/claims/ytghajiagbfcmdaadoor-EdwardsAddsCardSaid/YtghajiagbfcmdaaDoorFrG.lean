/- custumalref05.Root. Conditions: the first number is below the modulus. -/
import Derived.Test.YtghajiagbfcmdaaDoorFrF
namespace Go.Proofs.YtghajiagbfcmdaaDoor
set_option linter.unusedSimpArgs false
set_option linter.unusedVariables false
open Go.RowKit

theorem eq16 (X Y : Nat) (hX : X < P256) (hY : Y < P256) (w : World) : (Op.equalIn 10000 39 (.agg (arrK .i64 16 (l16 X))) (.agg (arrK .i64 16 (l16 Y)))).run Tryd.prog w = .ok (decide (X = Y)) w := by
  have h := run_equalIn_arr (P := Tryd.prog) w 9998 39 3 16 .i64 (arrK .i64 16 (l16 X)) (arrK .i64 16 (l16 Y)) (l16 X) (l16 Y) Tryd.underlying39 Tryd.underlying3 (by kernel_rfl)
    (fun i hi => arrK_get _ _ _ _ hi) (fun i hi => arrK_get _ _ _ _ hi)
  rw [h]
  congr 1
  rw [Bool.eq_iff_iff, eqArr_true, decide_eq_true_iff]
  exact ⟨fun h => l16_ext hX hY h, fun e i _ => by rw [e]⟩
theorem lt_256 {A : Nat} (h : A < PP) : A < P256 := Nat.lt_trans h PP_lt

set_option maxHeartbeats 4000000 in
theorem rRoot_1 (A B : Nat) (hA : A < PP) (hB : B < P256) (h1 : rtW A B = A) (w : World) :
    Calls Tryd.prog 41 #[A16 A, A16 B] w fun e w' => Ret (.tuple #[A16 (rtX A B), .bool true]) w w' e := by
  unfold A16
  go_enter Tryd.func41, Tryd.ntmps41
  go_upto_region 2 with fail
  refine wp_world (fun W => Below w.heap.size w W ∧ Blk W w.heap.size (arrK .i64 16 (l16 A)) 39 ∧ Blk W (w.heap.size + 1) (arrK .i64 16 (l16 B)) 39 ∧ Blk W (w.heap.size + 2) (arrK .i64 16 (fun _ => 0)) 39) ⟨(by (repeat' (first | (with_reducible assumption) | (with_reducible exact Below.refl _ _) | (with_reducible refine Below.drew ?_) | (with_reducible refine Below.alloc ?_ ?_ _) | (with_reducible refine below_set ?_ ?_ _ _) | (with_reducible refine below_setRow ?_ ?_ _) | (with_reducible refine below_step ?_ (by assumption) ?_))) <;> (first | omega | ((try simp only [World.size_alloc, World.size_setCell, World.size_drew, size_setRow]); omega))), blk_alloc (blk_alloc (blk_new _ _ rfl) _) _, blk_alloc (blk_new _ _ (by simp)) _, blk_new _ _ (by simp)⟩ ?_
  rintro W0 ⟨bel, k_t2, k_t3, k_t4⟩
  have lt_t2_0 := blk_lt k_t2
  have lt_t3_0 := blk_lt k_t3
  have lt_t4_0 := blk_lt k_t4
  have c_X1 := rMul_c B B hB hB
  obtain ⟨X1, hX1⟩ : ∃ v_, v_ = B * B % PP := ⟨_, rfl⟩
  rw [← hX1] at c_X1
  have bX1 : X1 < P256 := by rw [hX1]; exact mod_256 _
  have HX1 := Lib.hid hX1
  clear hX1
  have c_X2 := rMul_c X1 B bX1 hB
  obtain ⟨X2, hX2⟩ : ∃ v_, v_ = X1 * B % PP := ⟨_, rfl⟩
  rw [← hX2] at c_X2
  have bX2 : X2 < P256 := by rw [hX2]; exact mod_256 _
  have HX2 := Lib.hid hX2
  clear hX2
  refine wp_region_xn 5 [⟨5, 7, arrK .i64 16 (fun _ => 0), 39⟩] (by kernel_rfl) ?_ (by kernel_rfl) ?_
  · intro x hx
    simp only [List.mem_cons, List.not_mem_nil, or_false] at hx
    subst hx; exact ⟨_, rfl, rfl, rfl, fun _ _ => by kernel_rfl⟩
  simp only [List.take_succ_cons, List.take_zero, List.take_nil]
  (try simp only [Act.put, List.setIfInBounds_toArray, List.set_cons_zero, List.set_cons_succ])
  ((with_reducible refine wpX_load (b := ?_) (cs := ?_) ?_ rfl ?_ ?_ ?_ ?_ ?_); rotate_left 2; (focus rfl); (focus rfl); (focus first | assumption | exact blk_rd (by assumption)); (focus kernel_rfl); (focus kernel_rfl); (try simp only [Act.put, List.setIfInBounds_toArray, List.set_cons_zero, List.set_cons_succ]))
  ((with_reducible refine wpX_load (b := ?_) (cs := ?_) ?_ rfl ?_ ?_ ?_ ?_ ?_); rotate_left 2; (focus rfl); (focus rfl); (focus first | assumption | exact blk_rd (by assumption)); (focus kernel_rfl); (focus kernel_rfl); (try simp only [Act.put, List.setIfInBounds_toArray, List.set_cons_zero, List.set_cons_succ]))
  ((with_reducible refine wpX_fn (fun W hW => c_X1 W) ?_ rfl ?_ ?_ ?_); (focus rfl); (focus kernel_rfl); (focus rfl); (try simp only [Act.put, List.setIfInBounds_toArray, List.set_cons_zero, List.set_cons_succ]))
  ((with_reducible refine wpX_load (b := ?_) (cs := ?_) ?_ rfl ?_ ?_ ?_ ?_ ?_); rotate_left 2; (focus rfl); (focus rfl); (focus first | assumption | exact blk_rd (by assumption)); (focus kernel_rfl); (focus kernel_rfl); (try simp only [Act.put, List.setIfInBounds_toArray, List.set_cons_zero, List.set_cons_succ]))
  ((with_reducible refine wpX_fn (fun W hW => c_X2 W) ?_ rfl ?_ ?_ ?_); (focus rfl); (focus kernel_rfl); (focus rfl); (try simp only [Act.put, List.setIfInBounds_toArray, List.set_cons_zero, List.set_cons_succ]))
  refine wpX_nil ?_
  intro β W1 hE hN hD
  obtain ⟨n_t7_1, k_t7⟩ := hN _ (List.mem_cons_self ..)
  simp only [putAll, Act.put, List.setIfInBounds_toArray, List.set_cons_zero, List.set_cons_succ, List.drop_succ_cons, List.drop_zero, List.drop_nil, List.length_cons, List.length_nil] at n_t7_1 k_t7 ⊢
  generalize β 5 = p7_1 at *
  have sz_1 := bel.size
  clear hN hD β
  refine wpL_store (g := p7_1) (cells := arrK .i64 16 (l16 X2)) (by rfl) rfl rfl rfl k_t7 (by kernel_rfl) (by kernel_rfl) (arrK_one _ _ _) ?_
  (try simp only [Act.put, List.setIfInBounds_toArray, List.set_cons_zero, List.set_cons_succ])
  refine wpL_nil ?_
  refine NoPanic.normal (Q := Exit.then _ _) ?_
  have hF : Below w.heap.size w (W1.setRow p7_1 (arrK .i64 16 (l16 X2))) ∧ Blk (W1.setRow p7_1 (arrK .i64 16 (l16 X2))) w.heap.size (arrK .i64 16 (l16 A)) 39 ∧ Blk (W1.setRow p7_1 (arrK .i64 16 (l16 X2))) (w.heap.size + 1) (arrK .i64 16 (l16 B)) 39 ∧ Blk (W1.setRow p7_1 (arrK .i64 16 (l16 X2))) (w.heap.size + 2) (arrK .i64 16 (fun _ => 0)) 39 ∧ Blk (W1.setRow p7_1 (arrK .i64 16 (l16 X2))) p7_1 (arrK .i64 16 (l16 X2)) 39 := ⟨(below_setRow (below_step bel hE bel.size) (by omega) _), (blk_setRow_other (blk_step k_t2 hE) (by omega) _), (blk_setRow_other (blk_step k_t3 hE) (by omega) _), (blk_setRow_other (blk_step k_t4 hE) (by omega) _), (blk_setRow k_t7 (arrK .i64 16 (l16 X2)))⟩
  generalize (W1.setRow p7_1 (arrK .i64 16 (l16 X2))) = W2 at hF ⊢
  clear bel k_t2 k_t3 k_t4 k_t7
  obtain ⟨bel, k_t2, k_t3, k_t4, k_t7⟩ := hF
  go_upto_region 3 with fail
  have lt_t7_2 := blk_lt k_t7
  have c_X3 := rMul_c X2 X2 bX2 bX2
  obtain ⟨X3, hX3⟩ : ∃ v_, v_ = X2 * X2 % PP := ⟨_, rfl⟩
  rw [← hX3] at c_X3
  have bX3 : X3 < P256 := by rw [hX3]; exact mod_256 _
  have HX3 := Lib.hid hX3
  clear hX3
  have c_X4 := rMul_c X3 B bX3 hB
  obtain ⟨X4, hX4⟩ : ∃ v_, v_ = X3 * B % PP := ⟨_, rfl⟩
  rw [← hX4] at c_X4
  have bX4 : X4 < P256 := by rw [hX4]; exact mod_256 _
  have HX4 := Lib.hid hX4
  clear hX4
  refine wp_region_xn 5 [⟨5, 8, arrK .i64 16 (fun _ => 0), 39⟩] (by kernel_rfl) ?_ (by kernel_rfl) ?_
  · intro x hx
    simp only [List.mem_cons, List.not_mem_nil, or_false] at hx
    subst hx; exact ⟨_, rfl, rfl, rfl, fun _ _ => by kernel_rfl⟩
  simp only [List.take_succ_cons, List.take_zero, List.take_nil]
  (try simp only [Act.put, List.setIfInBounds_toArray, List.set_cons_zero, List.set_cons_succ])
  ((with_reducible refine wpX_load (b := ?_) (cs := ?_) ?_ rfl ?_ ?_ ?_ ?_ ?_); rotate_left 2; (focus rfl); (focus rfl); (focus first | assumption | exact blk_rd (by assumption)); (focus kernel_rfl); (focus kernel_rfl); (try simp only [Act.put, List.setIfInBounds_toArray, List.set_cons_zero, List.set_cons_succ]))
  ((with_reducible refine wpX_load (b := ?_) (cs := ?_) ?_ rfl ?_ ?_ ?_ ?_ ?_); rotate_left 2; (focus rfl); (focus rfl); (focus first | assumption | exact blk_rd (by assumption)); (focus kernel_rfl); (focus kernel_rfl); (try simp only [Act.put, List.setIfInBounds_toArray, List.set_cons_zero, List.set_cons_succ]))
  ((with_reducible refine wpX_fn (fun W hW => c_X3 W) ?_ rfl ?_ ?_ ?_); (focus rfl); (focus kernel_rfl); (focus rfl); (try simp only [Act.put, List.setIfInBounds_toArray, List.set_cons_zero, List.set_cons_succ]))
  ((with_reducible refine wpX_load (b := ?_) (cs := ?_) ?_ rfl ?_ ?_ ?_ ?_ ?_); rotate_left 2; (focus rfl); (focus rfl); (focus first | assumption | exact blk_rd (by assumption)); (focus kernel_rfl); (focus kernel_rfl); (try simp only [Act.put, List.setIfInBounds_toArray, List.set_cons_zero, List.set_cons_succ]))
  ((with_reducible refine wpX_fn (fun W hW => c_X4 W) ?_ rfl ?_ ?_ ?_); (focus rfl); (focus kernel_rfl); (focus rfl); (try simp only [Act.put, List.setIfInBounds_toArray, List.set_cons_zero, List.set_cons_succ]))
  refine wpX_nil ?_
  intro β W3 hE hN hD
  obtain ⟨n_t8_3, k_t8⟩ := hN _ (List.mem_cons_self ..)
  simp only [putAll, Act.put, List.setIfInBounds_toArray, List.set_cons_zero, List.set_cons_succ, List.drop_succ_cons, List.drop_zero, List.drop_nil, List.length_cons, List.length_nil] at n_t8_3 k_t8 ⊢
  generalize β 5 = p8_3 at *
  have sz_3 := bel.size
  clear hN hD β
  refine wpL_store (g := p8_3) (cells := arrK .i64 16 (l16 X4)) (by rfl) rfl rfl rfl k_t8 (by kernel_rfl) (by kernel_rfl) (arrK_one _ _ _) ?_
  (try simp only [Act.put, List.setIfInBounds_toArray, List.set_cons_zero, List.set_cons_succ])
  refine wpL_nil ?_
  refine NoPanic.normal (Q := Exit.then _ _) ?_
  have hF : Below w.heap.size w (W3.setRow p8_3 (arrK .i64 16 (l16 X4))) ∧ Blk (W3.setRow p8_3 (arrK .i64 16 (l16 X4))) w.heap.size (arrK .i64 16 (l16 A)) 39 ∧ Blk (W3.setRow p8_3 (arrK .i64 16 (l16 X4))) (w.heap.size + 1) (arrK .i64 16 (l16 B)) 39 ∧ Blk (W3.setRow p8_3 (arrK .i64 16 (l16 X4))) (w.heap.size + 2) (arrK .i64 16 (fun _ => 0)) 39 ∧ Blk (W3.setRow p8_3 (arrK .i64 16 (l16 X4))) p7_1 (arrK .i64 16 (l16 X2)) 39 ∧ Blk (W3.setRow p8_3 (arrK .i64 16 (l16 X4))) p8_3 (arrK .i64 16 (l16 X4)) 39 := ⟨(below_setRow (below_step bel hE bel.size) (by omega) _), (blk_setRow_other (blk_step k_t2 hE) (by omega) _), (blk_setRow_other (blk_step k_t3 hE) (by omega) _), (blk_setRow_other (blk_step k_t4 hE) (by omega) _), (blk_setRow_other (blk_step k_t7 hE) (by omega) _), (blk_setRow k_t8 (arrK .i64 16 (l16 X4)))⟩
  generalize (W3.setRow p8_3 (arrK .i64 16 (l16 X4))) = W4 at hF ⊢
  clear bel k_t2 k_t3 k_t4 k_t7 k_t8
  obtain ⟨bel, k_t2, k_t3, k_t4, k_t7, k_t8⟩ := hF
  go_upto_region 4 with fail
  have lt_t8_4 := blk_lt k_t8
  have c_X5 := rMul_c A X2 (lt_256 hA) bX2
  obtain ⟨X5, hX5⟩ : ∃ v_, v_ = A * X2 % PP := ⟨_, rfl⟩
  rw [← hX5] at c_X5
  have bX5 : X5 < P256 := by rw [hX5]; exact mod_256 _
  have HX5 := Lib.hid hX5
  clear hX5
  have c_X6 := rMul_c A X4 (lt_256 hA) bX4
  obtain ⟨X6, hX6⟩ : ∃ v_, v_ = A * X4 % PP := ⟨_, rfl⟩
  rw [← hX6] at c_X6
  have bX6 : X6 < P256 := by rw [hX6]; exact mod_256 _
  have HX6 := Lib.hid hX6
  clear hX6
  have c_X7 := rPow_c X6 7237005577332262213973186563042994240829374041602535252466099000494570602493 bX6 (by decide)
  obtain ⟨X7, hX7⟩ : ∃ v_, v_ = pw X6 7237005577332262213973186563042994240829374041602535252466099000494570602493 := ⟨_, rfl⟩
  rw [← hX7] at c_X7
  have bX7 : X7 < P256 := by rw [hX7]; exact pw_lt _ _
  have HX7 := Lib.hid hX7
  clear hX7
  have c_X8 := rMul_c X5 X7 bX5 bX7
  obtain ⟨X8, hX8⟩ : ∃ v_, v_ = X5 * X7 % PP := ⟨_, rfl⟩
  rw [← hX8] at c_X8
  have bX8 : X8 < P256 := by rw [hX8]; exact mod_256 _
  have HX8 := Lib.hid hX8
  clear hX8
  refine wp_region_xn 15 [⟨15, 9, arrK .i64 16 (fun _ => 0), 39⟩] (by kernel_rfl) ?_ (by kernel_rfl) ?_
  · intro x hx
    simp only [List.mem_cons, List.not_mem_nil, or_false] at hx
    subst hx; exact ⟨_, rfl, rfl, rfl, fun _ _ => by kernel_rfl⟩
  simp only [List.take_succ_cons, List.take_zero, List.take_nil]
  (try simp only [Act.put, List.setIfInBounds_toArray, List.set_cons_zero, List.set_cons_succ])
  ((with_reducible refine wpX_load (b := ?_) (cs := ?_) ?_ rfl ?_ ?_ ?_ ?_ ?_); rotate_left 2; (focus rfl); (focus rfl); (focus first | assumption | exact blk_rd (by assumption)); (focus kernel_rfl); (focus kernel_rfl); (try simp only [Act.put, List.setIfInBounds_toArray, List.set_cons_zero, List.set_cons_succ]))
  ((with_reducible refine wpX_load (b := ?_) (cs := ?_) ?_ rfl ?_ ?_ ?_ ?_ ?_); rotate_left 2; (focus rfl); (focus rfl); (focus first | assumption | exact blk_rd (by assumption)); (focus kernel_rfl); (focus kernel_rfl); (try simp only [Act.put, List.setIfInBounds_toArray, List.set_cons_zero, List.set_cons_succ]))
  ((with_reducible refine wpX_fn (fun W hW => c_X5 W) ?_ rfl ?_ ?_ ?_); (focus rfl); (focus kernel_rfl); (focus rfl); (try simp only [Act.put, List.setIfInBounds_toArray, List.set_cons_zero, List.set_cons_succ]))
  ((with_reducible refine wpX_load (b := ?_) (cs := ?_) ?_ rfl ?_ ?_ ?_ ?_ ?_); rotate_left 2; (focus rfl); (focus rfl); (focus first | assumption | exact blk_rd (by assumption)); (focus kernel_rfl); (focus kernel_rfl); (try simp only [Act.put, List.setIfInBounds_toArray, List.set_cons_zero, List.set_cons_succ]))
  ((with_reducible refine wpX_load (b := ?_) (cs := ?_) ?_ rfl ?_ ?_ ?_ ?_ ?_); rotate_left 2; (focus rfl); (focus rfl); (focus first | assumption | exact blk_rd (by assumption)); (focus kernel_rfl); (focus kernel_rfl); (try simp only [Act.put, List.setIfInBounds_toArray, List.set_cons_zero, List.set_cons_succ]))
  ((with_reducible refine wpX_fn (fun W hW => c_X6 W) ?_ rfl ?_ ?_ ?_); (focus rfl); (focus kernel_rfl); (focus rfl); (try simp only [Act.put, List.setIfInBounds_toArray, List.set_cons_zero, List.set_cons_succ]))
  (refine wpX_val (v := ?_) (by rfl) (fun W hW => ?_) ?_; rotate_left 1; (focus (go_simp; first | done | with_reducible rfl)); (try simp only [Act.put, List.setIfInBounds_toArray, List.set_cons_zero, List.set_cons_succ]))
  (refine wpX_val (v := ?_) (by rfl) (fun W hW => ?_) ?_; rotate_left 1; (focus (go_simp; first | done | with_reducible rfl)); (try simp only [Act.put, List.setIfInBounds_toArray, List.set_cons_zero, List.set_cons_succ]))
  (refine wpX_val (v := ?_) (by rfl) (fun W hW => ?_) ?_; rotate_left 1; (focus (go_simp; first | done | with_reducible rfl)); (try simp only [Act.put, List.setIfInBounds_toArray, List.set_cons_zero, List.set_cons_succ]))
  (refine wpX_val (v := ?_) (by rfl) (fun W hW => ?_) ?_; rotate_left 1; (focus (go_simp; first | done | with_reducible rfl)); (try simp only [Act.put, List.setIfInBounds_toArray, List.set_cons_zero, List.set_cons_succ]))
  (refine wpX_val (v := ?_) (by rfl) (fun W hW => ?_) ?_; rotate_left 1; (focus (go_simp; first | done | with_reducible rfl)); (try simp only [Act.put, List.setIfInBounds_toArray, List.set_cons_zero, List.set_cons_succ]))
  (refine wpX_val (v := ?_) (by rfl) (fun W hW => ?_) ?_; rotate_left 1; (focus (go_simp; first | done | with_reducible rfl)); (try simp only [Act.put, List.setIfInBounds_toArray, List.set_cons_zero, List.set_cons_succ]))
  (refine wpX_val (v := ?_) (by rfl) (fun W hW => ?_) ?_; rotate_left 1; (focus (go_simp; first | done | with_reducible rfl)); (try simp only [Act.put, List.setIfInBounds_toArray, List.set_cons_zero, List.set_cons_succ]))
  ((with_reducible refine wpX_fn (fun W hW => c_X7 W) ?_ rfl ?_ ?_ ?_); (focus rfl); (focus kernel_rfl); (focus rfl); (try simp only [Act.put, List.setIfInBounds_toArray, List.set_cons_zero, List.set_cons_succ]))
  ((with_reducible refine wpX_fn (fun W hW => c_X8 W) ?_ rfl ?_ ?_ ?_); (focus rfl); (focus kernel_rfl); (focus rfl); (try simp only [Act.put, List.setIfInBounds_toArray, List.set_cons_zero, List.set_cons_succ]))
  refine wpX_nil ?_
  intro β W5 hE hN hD
  obtain ⟨n_t9_5, k_t9⟩ := hN _ (List.mem_cons_self ..)
  simp only [putAll, Act.put, List.setIfInBounds_toArray, List.set_cons_zero, List.set_cons_succ, List.drop_succ_cons, List.drop_zero, List.drop_nil, List.length_cons, List.length_nil] at n_t9_5 k_t9 ⊢
  generalize β 15 = p9_5 at *
  have sz_5 := bel.size
  clear hN hD β
  refine wpL_store (g := p9_5) (cells := arrK .i64 16 (l16 X8)) (by rfl) rfl rfl rfl k_t9 (by kernel_rfl) (by kernel_rfl) (arrK_one _ _ _) ?_
  (try simp only [Act.put, List.setIfInBounds_toArray, List.set_cons_zero, List.set_cons_succ])
  refine wpL_nil ?_
  refine NoPanic.normal (Q := Exit.then _ _) ?_
  have hF : Below w.heap.size w (W5.setRow p9_5 (arrK .i64 16 (l16 X8))) ∧ Blk (W5.setRow p9_5 (arrK .i64 16 (l16 X8))) w.heap.size (arrK .i64 16 (l16 A)) 39 ∧ Blk (W5.setRow p9_5 (arrK .i64 16 (l16 X8))) (w.heap.size + 1) (arrK .i64 16 (l16 B)) 39 ∧ Blk (W5.setRow p9_5 (arrK .i64 16 (l16 X8))) (w.heap.size + 2) (arrK .i64 16 (fun _ => 0)) 39 ∧ Blk (W5.setRow p9_5 (arrK .i64 16 (l16 X8))) p7_1 (arrK .i64 16 (l16 X2)) 39 ∧ Blk (W5.setRow p9_5 (arrK .i64 16 (l16 X8))) p8_3 (arrK .i64 16 (l16 X4)) 39 ∧ Blk (W5.setRow p9_5 (arrK .i64 16 (l16 X8))) p9_5 (arrK .i64 16 (l16 X8)) 39 := ⟨(below_setRow (below_step bel hE bel.size) (by omega) _), (blk_setRow_other (blk_step k_t2 hE) (by omega) _), (blk_setRow_other (blk_step k_t3 hE) (by omega) _), (blk_setRow_other (blk_step k_t4 hE) (by omega) _), (blk_setRow_other (blk_step k_t7 hE) (by omega) _), (blk_setRow_other (blk_step k_t8 hE) (by omega) _), (blk_setRow k_t9 (arrK .i64 16 (l16 X8)))⟩
  generalize (W5.setRow p9_5 (arrK .i64 16 (l16 X8))) = W6 at hF ⊢
  clear bel k_t2 k_t3 k_t4 k_t7 k_t8 k_t9
  obtain ⟨bel, k_t2, k_t3, k_t4, k_t7, k_t8, k_t9⟩ := hF
  go_upto_region 5 with fail
  have lt_t9_6 := blk_lt k_t9
  have c_X9 := rMul_c X8 X8 bX8 bX8
  obtain ⟨X9, hX9⟩ : ∃ v_, v_ = X8 * X8 % PP := ⟨_, rfl⟩
  rw [← hX9] at c_X9
  have bX9 : X9 < P256 := by rw [hX9]; exact mod_256 _
  have HX9 := Lib.hid hX9
  clear hX9
  have c_X10 := rMul_c B X9 hB bX9
  obtain ⟨X10, hX10⟩ : ∃ v_, v_ = B * X9 % PP := ⟨_, rfl⟩
  rw [← hX10] at c_X10
  have bX10 : X10 < P256 := by rw [hX10]; exact mod_256 _
  have HX10 := Lib.hid hX10
  clear hX10
  refine wp_region_xn 5 [⟨5, 10, arrK .i64 16 (fun _ => 0), 39⟩] (by kernel_rfl) ?_ (by kernel_rfl) ?_
  · intro x hx
    simp only [List.mem_cons, List.not_mem_nil, or_false] at hx
    subst hx; exact ⟨_, rfl, rfl, rfl, fun _ _ => by kernel_rfl⟩
  simp only [List.take_succ_cons, List.take_zero, List.take_nil]
  (try simp only [Act.put, List.setIfInBounds_toArray, List.set_cons_zero, List.set_cons_succ])
  ((with_reducible refine wpX_load (b := ?_) (cs := ?_) ?_ rfl ?_ ?_ ?_ ?_ ?_); rotate_left 2; (focus rfl); (focus rfl); (focus first | assumption | exact blk_rd (by assumption)); (focus kernel_rfl); (focus kernel_rfl); (try simp only [Act.put, List.setIfInBounds_toArray, List.set_cons_zero, List.set_cons_succ]))
  ((with_reducible refine wpX_load (b := ?_) (cs := ?_) ?_ rfl ?_ ?_ ?_ ?_ ?_); rotate_left 2; (focus rfl); (focus rfl); (focus first | assumption | exact blk_rd (by assumption)); (focus kernel_rfl); (focus kernel_rfl); (try simp only [Act.put, List.setIfInBounds_toArray, List.set_cons_zero, List.set_cons_succ]))
  ((with_reducible refine wpX_load (b := ?_) (cs := ?_) ?_ rfl ?_ ?_ ?_ ?_ ?_); rotate_left 2; (focus rfl); (focus rfl); (focus first | assumption | exact blk_rd (by assumption)); (focus kernel_rfl); (focus kernel_rfl); (try simp only [Act.put, List.setIfInBounds_toArray, List.set_cons_zero, List.set_cons_succ]))
  ((with_reducible refine wpX_fn (fun W hW => c_X9 W) ?_ rfl ?_ ?_ ?_); (focus rfl); (focus kernel_rfl); (focus rfl); (try simp only [Act.put, List.setIfInBounds_toArray, List.set_cons_zero, List.set_cons_succ]))
  ((with_reducible refine wpX_fn (fun W hW => c_X10 W) ?_ rfl ?_ ?_ ?_); (focus rfl); (focus kernel_rfl); (focus rfl); (try simp only [Act.put, List.setIfInBounds_toArray, List.set_cons_zero, List.set_cons_succ]))
  refine wpX_nil ?_
  intro β W7 hE hN hD
  obtain ⟨n_t10_7, k_t10⟩ := hN _ (List.mem_cons_self ..)
  simp only [putAll, Act.put, List.setIfInBounds_toArray, List.set_cons_zero, List.set_cons_succ, List.drop_succ_cons, List.drop_zero, List.drop_nil, List.length_cons, List.length_nil] at n_t10_7 k_t10 ⊢
  generalize β 5 = p10_7 at *
  have sz_7 := bel.size
  clear hN hD β
  refine wpL_store (g := p10_7) (cells := arrK .i64 16 (l16 X10)) (by rfl) rfl rfl rfl k_t10 (by kernel_rfl) (by kernel_rfl) (arrK_one _ _ _) ?_
  (try simp only [Act.put, List.setIfInBounds_toArray, List.set_cons_zero, List.set_cons_succ])
  refine wpL_nil ?_
  refine NoPanic.normal (Q := Exit.then _ _) ?_
  have hF : Below w.heap.size w (W7.setRow p10_7 (arrK .i64 16 (l16 X10))) ∧ Blk (W7.setRow p10_7 (arrK .i64 16 (l16 X10))) w.heap.size (arrK .i64 16 (l16 A)) 39 ∧ Blk (W7.setRow p10_7 (arrK .i64 16 (l16 X10))) (w.heap.size + 1) (arrK .i64 16 (l16 B)) 39 ∧ Blk (W7.setRow p10_7 (arrK .i64 16 (l16 X10))) (w.heap.size + 2) (arrK .i64 16 (fun _ => 0)) 39 ∧ Blk (W7.setRow p10_7 (arrK .i64 16 (l16 X10))) p7_1 (arrK .i64 16 (l16 X2)) 39 ∧ Blk (W7.setRow p10_7 (arrK .i64 16 (l16 X10))) p8_3 (arrK .i64 16 (l16 X4)) 39 ∧ Blk (W7.setRow p10_7 (arrK .i64 16 (l16 X10))) p9_5 (arrK .i64 16 (l16 X8)) 39 ∧ Blk (W7.setRow p10_7 (arrK .i64 16 (l16 X10))) p10_7 (arrK .i64 16 (l16 X10)) 39 := ⟨(below_setRow (below_step bel hE bel.size) (by omega) _), (blk_setRow_other (blk_step k_t2 hE) (by omega) _), (blk_setRow_other (blk_step k_t3 hE) (by omega) _), (blk_setRow_other (blk_step k_t4 hE) (by omega) _), (blk_setRow_other (blk_step k_t7 hE) (by omega) _), (blk_setRow_other (blk_step k_t8 hE) (by omega) _), (blk_setRow_other (blk_step k_t9 hE) (by omega) _), (blk_setRow k_t10 (arrK .i64 16 (l16 X10)))⟩
  generalize (W7.setRow p10_7 (arrK .i64 16 (l16 X10))) = W8 at hF ⊢
  clear bel k_t2 k_t3 k_t4 k_t7 k_t8 k_t9 k_t10
  obtain ⟨bel, k_t2, k_t3, k_t4, k_t7, k_t8, k_t9, k_t10⟩ := hF
  go_upto_region 6 with fail
  have lt_t10_8 := blk_lt k_t10
  have e_11 := eq16 X10 A bX10 (lt_256 hA)
  have hw : X10 = rtW A B := by rw [HX10.out, HX9.out, HX8.out, HX7.out, HX6.out, HX5.out, HX4.out, HX3.out, HX2.out, HX1.out]; rfl
  rw [decide_eq_true (show X10 = A by rw [hw]; exact h1)] at e_11
  have HW := Lib.hid hw
  clear hw
  refine wp_region_pn 3 [] (fun x hx => by cases hx) (by kernel_rfl) ?_
  simp only [List.take_succ_cons, List.take_zero, List.take_nil]
  (try simp only [Act.put, List.setIfInBounds_toArray, List.set_cons_zero, List.set_cons_succ])
  ((with_reducible refine wpX_load (b := ?_) (cs := ?_) ?_ rfl ?_ ?_ ?_ ?_ ?_); rotate_left 2; (focus rfl); (focus rfl); (focus first | assumption | exact blk_rd (by assumption)); (focus kernel_rfl); (focus kernel_rfl); (try simp only [Act.put, List.setIfInBounds_toArray, List.set_cons_zero, List.set_cons_succ]))
  ((with_reducible refine wpX_load (b := ?_) (cs := ?_) ?_ rfl ?_ ?_ ?_ ?_ ?_); rotate_left 2; (focus rfl); (focus rfl); (focus first | assumption | exact blk_rd (by assumption)); (focus kernel_rfl); (focus kernel_rfl); (try simp only [Act.put, List.setIfInBounds_toArray, List.set_cons_zero, List.set_cons_succ]))
  ((with_reducible refine wpX_eqlA (e_11) ?_ ?_ rfl ?_ ?_ ?_); (focus kernel_rfl); (focus rfl); (focus rfl); (focus rfl); (try simp only [Act.put, List.setIfInBounds_toArray, List.set_cons_zero, List.set_cons_succ]))
  refine wpX_nil ?_
  intro β W9 hE hN hD
  simp only [putAll, Act.put, List.setIfInBounds_toArray, List.set_cons_zero, List.set_cons_succ, List.drop_succ_cons, List.drop_zero, List.drop_nil, List.length_cons, List.length_nil]
  clear hN hD β
  refine wpL_nil ?_
  have hF : Below w.heap.size w W9 ∧ Blk W9 w.heap.size (arrK .i64 16 (l16 A)) 39 ∧ Blk W9 (w.heap.size + 1) (arrK .i64 16 (l16 B)) 39 ∧ Blk W9 (w.heap.size + 2) (arrK .i64 16 (fun _ => 0)) 39 ∧ Blk W9 p7_1 (arrK .i64 16 (l16 X2)) 39 ∧ Blk W9 p8_3 (arrK .i64 16 (l16 X4)) 39 ∧ Blk W9 p9_5 (arrK .i64 16 (l16 X8)) 39 ∧ Blk W9 p10_7 (arrK .i64 16 (l16 X10)) 39 := ⟨(below_step bel hE bel.size), (blk_step k_t2 hE), (blk_step k_t3 hE), (blk_step k_t4 hE), (blk_step k_t7 hE), (blk_step k_t8 hE), (blk_step k_t9 hE), (blk_step k_t10 hE)⟩
  clear bel k_t2 k_t3 k_t4 k_t7 k_t8 k_t9 k_t10
  obtain ⟨bel, k_t2, k_t3, k_t4, k_t7, k_t8, k_t9, k_t10⟩ := hF
  go_upto_region 7 with fail
  have lt_t10_9 := blk_lt k_t10
  refine wp_region_pn 1 [] (fun x hx => by cases hx) (by kernel_rfl) ?_
  simp only [List.take_succ_cons, List.take_zero, List.take_nil]
  (try simp only [Act.put, List.setIfInBounds_toArray, List.set_cons_zero, List.set_cons_succ])
  ((with_reducible refine wpX_load (b := ?_) (cs := ?_) ?_ rfl ?_ ?_ ?_ ?_ ?_); rotate_left 2; (focus rfl); (focus rfl); (focus first | assumption | exact blk_rd (by assumption)); (focus kernel_rfl); (focus kernel_rfl); (try simp only [Act.put, List.setIfInBounds_toArray, List.set_cons_zero, List.set_cons_succ]))
  refine wpX_nil ?_
  intro β W10 hE hN hD
  simp only [putAll, Act.put, List.setIfInBounds_toArray, List.set_cons_zero, List.set_cons_succ, List.drop_succ_cons, List.drop_zero, List.drop_nil, List.length_cons, List.length_nil]
  clear hN hD β
  refine wpL_store (g := (w.heap.size + 2)) (cells := arrK .i64 16 (l16 X8)) (by rfl) rfl rfl rfl (blk_step k_t4 hE) (by kernel_rfl) (by kernel_rfl) (arrK_one _ _ _) ?_
  (try simp only [Act.put, List.setIfInBounds_toArray, List.set_cons_zero, List.set_cons_succ])
  (refine wpL_val (v := ?_) (by rfl) ?_ ?_; rotate_left 1; (focus (go_simp; first | done | with_reducible rfl)))
  (try simp only [Act.put, List.setIfInBounds_toArray, List.set_cons_zero, List.set_cons_succ])
  refine wpL_nil ?_
  have hF : Below w.heap.size w (W10.setRow (w.heap.size + 2) (arrK .i64 16 (l16 X8))) ∧ Blk (W10.setRow (w.heap.size + 2) (arrK .i64 16 (l16 X8))) w.heap.size (arrK .i64 16 (l16 A)) 39 ∧ Blk (W10.setRow (w.heap.size + 2) (arrK .i64 16 (l16 X8))) (w.heap.size + 1) (arrK .i64 16 (l16 B)) 39 ∧ Blk (W10.setRow (w.heap.size + 2) (arrK .i64 16 (l16 X8))) (w.heap.size + 2) (arrK .i64 16 (l16 X8)) 39 ∧ Blk (W10.setRow (w.heap.size + 2) (arrK .i64 16 (l16 X8))) p7_1 (arrK .i64 16 (l16 X2)) 39 ∧ Blk (W10.setRow (w.heap.size + 2) (arrK .i64 16 (l16 X8))) p8_3 (arrK .i64 16 (l16 X4)) 39 ∧ Blk (W10.setRow (w.heap.size + 2) (arrK .i64 16 (l16 X8))) p9_5 (arrK .i64 16 (l16 X8)) 39 ∧ Blk (W10.setRow (w.heap.size + 2) (arrK .i64 16 (l16 X8))) p10_7 (arrK .i64 16 (l16 X10)) 39 := ⟨(below_setRow (below_step bel hE bel.size) (by omega) _), (blk_setRow_other (blk_step k_t2 hE) (by omega) _), (blk_setRow_other (blk_step k_t3 hE) (by omega) _), (blk_setRow (blk_step k_t4 hE) (arrK .i64 16 (l16 X8))), (blk_setRow_other (blk_step k_t7 hE) (by omega) _), (blk_setRow_other (blk_step k_t8 hE) (by omega) _), (blk_setRow_other (blk_step k_t9 hE) (by omega) _), (blk_setRow_other (blk_step k_t10 hE) (by omega) _)⟩
  generalize (W10.setRow (w.heap.size + 2) (arrK .i64 16 (l16 X8))) = W11 at hF ⊢
  clear bel k_t2 k_t3 k_t4 k_t7 k_t8 k_t9 k_t10
  obtain ⟨bel, k_t2, k_t3, k_t4, k_t7, k_t8, k_t9, k_t10⟩ := hF
  go_wp2
  refine bodyPost_ret (res_row2 rfl rfl rfl k_t4 (by kernel_rfl) (by kernel_rfl)) rfl ⟨?_, bel⟩
  rw [HX8.out, HX7.out, HX6.out, HX5.out, HX4.out, HX3.out, HX2.out, HX1.out]; rfl
set_option maxHeartbeats 4000000 in
theorem rRoot_2 (A B : Nat) (hA : A < PP) (hB : B < P256) (h1 : ¬ rtW A B = A) (h2 : rtW A B = (PP - A) % PP) (w : World) :
    Calls Tryd.prog 41 #[A16 A, A16 B] w fun e w' => Ret (.tuple #[A16 (rtX A B * II % PP), .bool true]) w w' e := by
  unfold A16
  go_enter Tryd.func41, Tryd.ntmps41
  go_upto_region 2 with fail
  refine wp_world (fun W => Below w.heap.size w W ∧ Blk W w.heap.size (arrK .i64 16 (l16 A)) 39 ∧ Blk W (w.heap.size + 1) (arrK .i64 16 (l16 B)) 39 ∧ Blk W (w.heap.size + 2) (arrK .i64 16 (fun _ => 0)) 39) ⟨(by (repeat' (first | (with_reducible assumption) | (with_reducible exact Below.refl _ _) | (with_reducible refine Below.drew ?_) | (with_reducible refine Below.alloc ?_ ?_ _) | (with_reducible refine below_set ?_ ?_ _ _) | (with_reducible refine below_setRow ?_ ?_ _) | (with_reducible refine below_step ?_ (by assumption) ?_))) <;> (first | omega | ((try simp only [World.size_alloc, World.size_setCell, World.size_drew, size_setRow]); omega))), blk_alloc (blk_alloc (blk_new _ _ rfl) _) _, blk_alloc (blk_new _ _ (by simp)) _, blk_new _ _ (by simp)⟩ ?_
  rintro W0 ⟨bel, k_t2, k_t3, k_t4⟩
  have lt_t2_0 := blk_lt k_t2
  have lt_t3_0 := blk_lt k_t3
  have lt_t4_0 := blk_lt k_t4
  have c_X1 := rMul_c B B hB hB
  obtain ⟨X1, hX1⟩ : ∃ v_, v_ = B * B % PP := ⟨_, rfl⟩
  rw [← hX1] at c_X1
  have bX1 : X1 < P256 := by rw [hX1]; exact mod_256 _
  have HX1 := Lib.hid hX1
  clear hX1
  have c_X2 := rMul_c X1 B bX1 hB
  obtain ⟨X2, hX2⟩ : ∃ v_, v_ = X1 * B % PP := ⟨_, rfl⟩
  rw [← hX2] at c_X2
  have bX2 : X2 < P256 := by rw [hX2]; exact mod_256 _
  have HX2 := Lib.hid hX2
  clear hX2
  refine wp_region_xn 5 [⟨5, 7, arrK .i64 16 (fun _ => 0), 39⟩] (by kernel_rfl) ?_ (by kernel_rfl) ?_
  · intro x hx
    simp only [List.mem_cons, List.not_mem_nil, or_false] at hx
    subst hx; exact ⟨_, rfl, rfl, rfl, fun _ _ => by kernel_rfl⟩
  simp only [List.take_succ_cons, List.take_zero, List.take_nil]
  (try simp only [Act.put, List.setIfInBounds_toArray, List.set_cons_zero, List.set_cons_succ])
  ((with_reducible refine wpX_load (b := ?_) (cs := ?_) ?_ rfl ?_ ?_ ?_ ?_ ?_); rotate_left 2; (focus rfl); (focus rfl); (focus first | assumption | exact blk_rd (by assumption)); (focus kernel_rfl); (focus kernel_rfl); (try simp only [Act.put, List.setIfInBounds_toArray, List.set_cons_zero, List.set_cons_succ]))
  ((with_reducible refine wpX_load (b := ?_) (cs := ?_) ?_ rfl ?_ ?_ ?_ ?_ ?_); rotate_left 2; (focus rfl); (focus rfl); (focus first | assumption | exact blk_rd (by assumption)); (focus kernel_rfl); (focus kernel_rfl); (try simp only [Act.put, List.setIfInBounds_toArray, List.set_cons_zero, List.set_cons_succ]))
  ((with_reducible refine wpX_fn (fun W hW => c_X1 W) ?_ rfl ?_ ?_ ?_); (focus rfl); (focus kernel_rfl); (focus rfl); (try simp only [Act.put, List.setIfInBounds_toArray, List.set_cons_zero, List.set_cons_succ]))
  ((with_reducible refine wpX_load (b := ?_) (cs := ?_) ?_ rfl ?_ ?_ ?_ ?_ ?_); rotate_left 2; (focus rfl); (focus rfl); (focus first | assumption | exact blk_rd (by assumption)); (focus kernel_rfl); (focus kernel_rfl); (try simp only [Act.put, List.setIfInBounds_toArray, List.set_cons_zero, List.set_cons_succ]))
  ((with_reducible refine wpX_fn (fun W hW => c_X2 W) ?_ rfl ?_ ?_ ?_); (focus rfl); (focus kernel_rfl); (focus rfl); (try simp only [Act.put, List.setIfInBounds_toArray, List.set_cons_zero, List.set_cons_succ]))
  refine wpX_nil ?_
  intro β W1 hE hN hD
  obtain ⟨n_t7_1, k_t7⟩ := hN _ (List.mem_cons_self ..)
  simp only [putAll, Act.put, List.setIfInBounds_toArray, List.set_cons_zero, List.set_cons_succ, List.drop_succ_cons, List.drop_zero, List.drop_nil, List.length_cons, List.length_nil] at n_t7_1 k_t7 ⊢
  generalize β 5 = p7_1 at *
  have sz_1 := bel.size
  clear hN hD β
  refine wpL_store (g := p7_1) (cells := arrK .i64 16 (l16 X2)) (by rfl) rfl rfl rfl k_t7 (by kernel_rfl) (by kernel_rfl) (arrK_one _ _ _) ?_
  (try simp only [Act.put, List.setIfInBounds_toArray, List.set_cons_zero, List.set_cons_succ])
  refine wpL_nil ?_
  refine NoPanic.normal (Q := Exit.then _ _) ?_
  have hF : Below w.heap.size w (W1.setRow p7_1 (arrK .i64 16 (l16 X2))) ∧ Blk (W1.setRow p7_1 (arrK .i64 16 (l16 X2))) w.heap.size (arrK .i64 16 (l16 A)) 39 ∧ Blk (W1.setRow p7_1 (arrK .i64 16 (l16 X2))) (w.heap.size + 1) (arrK .i64 16 (l16 B)) 39 ∧ Blk (W1.setRow p7_1 (arrK .i64 16 (l16 X2))) (w.heap.size + 2) (arrK .i64 16 (fun _ => 0)) 39 ∧ Blk (W1.setRow p7_1 (arrK .i64 16 (l16 X2))) p7_1 (arrK .i64 16 (l16 X2)) 39 := ⟨(below_setRow (below_step bel hE bel.size) (by omega) _), (blk_setRow_other (blk_step k_t2 hE) (by omega) _), (blk_setRow_other (blk_step k_t3 hE) (by omega) _), (blk_setRow_other (blk_step k_t4 hE) (by omega) _), (blk_setRow k_t7 (arrK .i64 16 (l16 X2)))⟩
  generalize (W1.setRow p7_1 (arrK .i64 16 (l16 X2))) = W2 at hF ⊢
  clear bel k_t2 k_t3 k_t4 k_t7
  obtain ⟨bel, k_t2, k_t3, k_t4, k_t7⟩ := hF
  go_upto_region 3 with fail
  have lt_t7_2 := blk_lt k_t7
  have c_X3 := rMul_c X2 X2 bX2 bX2
  obtain ⟨X3, hX3⟩ : ∃ v_, v_ = X2 * X2 % PP := ⟨_, rfl⟩
  rw [← hX3] at c_X3
  have bX3 : X3 < P256 := by rw [hX3]; exact mod_256 _
  have HX3 := Lib.hid hX3
  clear hX3
  have c_X4 := rMul_c X3 B bX3 hB
  obtain ⟨X4, hX4⟩ : ∃ v_, v_ = X3 * B % PP := ⟨_, rfl⟩
  rw [← hX4] at c_X4
  have bX4 : X4 < P256 := by rw [hX4]; exact mod_256 _
  have HX4 := Lib.hid hX4
  clear hX4
  refine wp_region_xn 5 [⟨5, 8, arrK .i64 16 (fun _ => 0), 39⟩] (by kernel_rfl) ?_ (by kernel_rfl) ?_
  · intro x hx
    simp only [List.mem_cons, List.not_mem_nil, or_false] at hx
    subst hx; exact ⟨_, rfl, rfl, rfl, fun _ _ => by kernel_rfl⟩
  simp only [List.take_succ_cons, List.take_zero, List.take_nil]
  (try simp only [Act.put, List.setIfInBounds_toArray, List.set_cons_zero, List.set_cons_succ])
  ((with_reducible refine wpX_load (b := ?_) (cs := ?_) ?_ rfl ?_ ?_ ?_ ?_ ?_); rotate_left 2; (focus rfl); (focus rfl); (focus first | assumption | exact blk_rd (by assumption)); (focus kernel_rfl); (focus kernel_rfl); (try simp only [Act.put, List.setIfInBounds_toArray, List.set_cons_zero, List.set_cons_succ]))
  ((with_reducible refine wpX_load (b := ?_) (cs := ?_) ?_ rfl ?_ ?_ ?_ ?_ ?_); rotate_left 2; (focus rfl); (focus rfl); (focus first | assumption | exact blk_rd (by assumption)); (focus kernel_rfl); (focus kernel_rfl); (try simp only [Act.put, List.setIfInBounds_toArray, List.set_cons_zero, List.set_cons_succ]))
  ((with_reducible refine wpX_fn (fun W hW => c_X3 W) ?_ rfl ?_ ?_ ?_); (focus rfl); (focus kernel_rfl); (focus rfl); (try simp only [Act.put, List.setIfInBounds_toArray, List.set_cons_zero, List.set_cons_succ]))
  ((with_reducible refine wpX_load (b := ?_) (cs := ?_) ?_ rfl ?_ ?_ ?_ ?_ ?_); rotate_left 2; (focus rfl); (focus rfl); (focus first | assumption | exact blk_rd (by assumption)); (focus kernel_rfl); (focus kernel_rfl); (try simp only [Act.put, List.setIfInBounds_toArray, List.set_cons_zero, List.set_cons_succ]))
  ((with_reducible refine wpX_fn (fun W hW => c_X4 W) ?_ rfl ?_ ?_ ?_); (focus rfl); (focus kernel_rfl); (focus rfl); (try simp only [Act.put, List.setIfInBounds_toArray, List.set_cons_zero, List.set_cons_succ]))
  refine wpX_nil ?_
  intro β W3 hE hN hD
  obtain ⟨n_t8_3, k_t8⟩ := hN _ (List.mem_cons_self ..)
  simp only [putAll, Act.put, List.setIfInBounds_toArray, List.set_cons_zero, List.set_cons_succ, List.drop_succ_cons, List.drop_zero, List.drop_nil, List.length_cons, List.length_nil] at n_t8_3 k_t8 ⊢
  generalize β 5 = p8_3 at *
  have sz_3 := bel.size
  clear hN hD β
  refine wpL_store (g := p8_3) (cells := arrK .i64 16 (l16 X4)) (by rfl) rfl rfl rfl k_t8 (by kernel_rfl) (by kernel_rfl) (arrK_one _ _ _) ?_
  (try simp only [Act.put, List.setIfInBounds_toArray, List.set_cons_zero, List.set_cons_succ])
  refine wpL_nil ?_
  refine NoPanic.normal (Q := Exit.then _ _) ?_
  have hF : Below w.heap.size w (W3.setRow p8_3 (arrK .i64 16 (l16 X4))) ∧ Blk (W3.setRow p8_3 (arrK .i64 16 (l16 X4))) w.heap.size (arrK .i64 16 (l16 A)) 39 ∧ Blk (W3.setRow p8_3 (arrK .i64 16 (l16 X4))) (w.heap.size + 1) (arrK .i64 16 (l16 B)) 39 ∧ Blk (W3.setRow p8_3 (arrK .i64 16 (l16 X4))) (w.heap.size + 2) (arrK .i64 16 (fun _ => 0)) 39 ∧ Blk (W3.setRow p8_3 (arrK .i64 16 (l16 X4))) p7_1 (arrK .i64 16 (l16 X2)) 39 ∧ Blk (W3.setRow p8_3 (arrK .i64 16 (l16 X4))) p8_3 (arrK .i64 16 (l16 X4)) 39 := ⟨(below_setRow (below_step bel hE bel.size) (by omega) _), (blk_setRow_other (blk_step k_t2 hE) (by omega) _), (blk_setRow_other (blk_step k_t3 hE) (by omega) _), (blk_setRow_other (blk_step k_t4 hE) (by omega) _), (blk_setRow_other (blk_step k_t7 hE) (by omega) _), (blk_setRow k_t8 (arrK .i64 16 (l16 X4)))⟩
  generalize (W3.setRow p8_3 (arrK .i64 16 (l16 X4))) = W4 at hF ⊢
  clear bel k_t2 k_t3 k_t4 k_t7 k_t8
  obtain ⟨bel, k_t2, k_t3, k_t4, k_t7, k_t8⟩ := hF
  go_upto_region 4 with fail
  have lt_t8_4 := blk_lt k_t8
  have c_X5 := rMul_c A X2 (lt_256 hA) bX2
  obtain ⟨X5, hX5⟩ : ∃ v_, v_ = A * X2 % PP := ⟨_, rfl⟩
  rw [← hX5] at c_X5
  have bX5 : X5 < P256 := by rw [hX5]; exact mod_256 _
  have HX5 := Lib.hid hX5
  clear hX5
  have c_X6 := rMul_c A X4 (lt_256 hA) bX4
  obtain ⟨X6, hX6⟩ : ∃ v_, v_ = A * X4 % PP := ⟨_, rfl⟩
  rw [← hX6] at c_X6
  have bX6 : X6 < P256 := by rw [hX6]; exact mod_256 _
  have HX6 := Lib.hid hX6
  clear hX6
  have c_X7 := rPow_c X6 7237005577332262213973186563042994240829374041602535252466099000494570602493 bX6 (by decide)
  obtain ⟨X7, hX7⟩ : ∃ v_, v_ = pw X6 7237005577332262213973186563042994240829374041602535252466099000494570602493 := ⟨_, rfl⟩
  rw [← hX7] at c_X7
  have bX7 : X7 < P256 := by rw [hX7]; exact pw_lt _ _
  have HX7 := Lib.hid hX7
  clear hX7
  have c_X8 := rMul_c X5 X7 bX5 bX7
  obtain ⟨X8, hX8⟩ : ∃ v_, v_ = X5 * X7 % PP := ⟨_, rfl⟩
  rw [← hX8] at c_X8
  have bX8 : X8 < P256 := by rw [hX8]; exact mod_256 _
  have HX8 := Lib.hid hX8
  clear hX8
  refine wp_region_xn 15 [⟨15, 9, arrK .i64 16 (fun _ => 0), 39⟩] (by kernel_rfl) ?_ (by kernel_rfl) ?_
  · intro x hx
    simp only [List.mem_cons, List.not_mem_nil, or_false] at hx
    subst hx; exact ⟨_, rfl, rfl, rfl, fun _ _ => by kernel_rfl⟩
  simp only [List.take_succ_cons, List.take_zero, List.take_nil]
  (try simp only [Act.put, List.setIfInBounds_toArray, List.set_cons_zero, List.set_cons_succ])
  ((with_reducible refine wpX_load (b := ?_) (cs := ?_) ?_ rfl ?_ ?_ ?_ ?_ ?_); rotate_left 2; (focus rfl); (focus rfl); (focus first | assumption | exact blk_rd (by assumption)); (focus kernel_rfl); (focus kernel_rfl); (try simp only [Act.put, List.setIfInBounds_toArray, List.set_cons_zero, List.set_cons_succ]))
  ((with_reducible refine wpX_load (b := ?_) (cs := ?_) ?_ rfl ?_ ?_ ?_ ?_ ?_); rotate_left 2; (focus rfl); (focus rfl); (focus first | assumption | exact blk_rd (by assumption)); (focus kernel_rfl); (focus kernel_rfl); (try simp only [Act.put, List.setIfInBounds_toArray, List.set_cons_zero, List.set_cons_succ]))
  ((with_reducible refine wpX_fn (fun W hW => c_X5 W) ?_ rfl ?_ ?_ ?_); (focus rfl); (focus kernel_rfl); (focus rfl); (try simp only [Act.put, List.setIfInBounds_toArray, List.set_cons_zero, List.set_cons_succ]))
  ((with_reducible refine wpX_load (b := ?_) (cs := ?_) ?_ rfl ?_ ?_ ?_ ?_ ?_); rotate_left 2; (focus rfl); (focus rfl); (focus first | assumption | exact blk_rd (by assumption)); (focus kernel_rfl); (focus kernel_rfl); (try simp only [Act.put, List.setIfInBounds_toArray, List.set_cons_zero, List.set_cons_succ]))
  ((with_reducible refine wpX_load (b := ?_) (cs := ?_) ?_ rfl ?_ ?_ ?_ ?_ ?_); rotate_left 2; (focus rfl); (focus rfl); (focus first | assumption | exact blk_rd (by assumption)); (focus kernel_rfl); (focus kernel_rfl); (try simp only [Act.put, List.setIfInBounds_toArray, List.set_cons_zero, List.set_cons_succ]))
  ((with_reducible refine wpX_fn (fun W hW => c_X6 W) ?_ rfl ?_ ?_ ?_); (focus rfl); (focus kernel_rfl); (focus rfl); (try simp only [Act.put, List.setIfInBounds_toArray, List.set_cons_zero, List.set_cons_succ]))
  (refine wpX_val (v := ?_) (by rfl) (fun W hW => ?_) ?_; rotate_left 1; (focus (go_simp; first | done | with_reducible rfl)); (try simp only [Act.put, List.setIfInBounds_toArray, List.set_cons_zero, List.set_cons_succ]))
  (refine wpX_val (v := ?_) (by rfl) (fun W hW => ?_) ?_; rotate_left 1; (focus (go_simp; first | done | with_reducible rfl)); (try simp only [Act.put, List.setIfInBounds_toArray, List.set_cons_zero, List.set_cons_succ]))
  (refine wpX_val (v := ?_) (by rfl) (fun W hW => ?_) ?_; rotate_left 1; (focus (go_simp; first | done | with_reducible rfl)); (try simp only [Act.put, List.setIfInBounds_toArray, List.set_cons_zero, List.set_cons_succ]))
  (refine wpX_val (v := ?_) (by rfl) (fun W hW => ?_) ?_; rotate_left 1; (focus (go_simp; first | done | with_reducible rfl)); (try simp only [Act.put, List.setIfInBounds_toArray, List.set_cons_zero, List.set_cons_succ]))
  (refine wpX_val (v := ?_) (by rfl) (fun W hW => ?_) ?_; rotate_left 1; (focus (go_simp; first | done | with_reducible rfl)); (try simp only [Act.put, List.setIfInBounds_toArray, List.set_cons_zero, List.set_cons_succ]))
  (refine wpX_val (v := ?_) (by rfl) (fun W hW => ?_) ?_; rotate_left 1; (focus (go_simp; first | done | with_reducible rfl)); (try simp only [Act.put, List.setIfInBounds_toArray, List.set_cons_zero, List.set_cons_succ]))
  (refine wpX_val (v := ?_) (by rfl) (fun W hW => ?_) ?_; rotate_left 1; (focus (go_simp; first | done | with_reducible rfl)); (try simp only [Act.put, List.setIfInBounds_toArray, List.set_cons_zero, List.set_cons_succ]))
  ((with_reducible refine wpX_fn (fun W hW => c_X7 W) ?_ rfl ?_ ?_ ?_); (focus rfl); (focus kernel_rfl); (focus rfl); (try simp only [Act.put, List.setIfInBounds_toArray, List.set_cons_zero, List.set_cons_succ]))
  ((with_reducible refine wpX_fn (fun W hW => c_X8 W) ?_ rfl ?_ ?_ ?_); (focus rfl); (focus kernel_rfl); (focus rfl); (try simp only [Act.put, List.setIfInBounds_toArray, List.set_cons_zero, List.set_cons_succ]))
  refine wpX_nil ?_
  intro β W5 hE hN hD
  obtain ⟨n_t9_5, k_t9⟩ := hN _ (List.mem_cons_self ..)
  simp only [putAll, Act.put, List.setIfInBounds_toArray, List.set_cons_zero, List.set_cons_succ, List.drop_succ_cons, List.drop_zero, List.drop_nil, List.length_cons, List.length_nil] at n_t9_5 k_t9 ⊢
  generalize β 15 = p9_5 at *
  have sz_5 := bel.size
  clear hN hD β
  refine wpL_store (g := p9_5) (cells := arrK .i64 16 (l16 X8)) (by rfl) rfl rfl rfl k_t9 (by kernel_rfl) (by kernel_rfl) (arrK_one _ _ _) ?_
  (try simp only [Act.put, List.setIfInBounds_toArray, List.set_cons_zero, List.set_cons_succ])
  refine wpL_nil ?_
  refine NoPanic.normal (Q := Exit.then _ _) ?_
  have hF : Below w.heap.size w (W5.setRow p9_5 (arrK .i64 16 (l16 X8))) ∧ Blk (W5.setRow p9_5 (arrK .i64 16 (l16 X8))) w.heap.size (arrK .i64 16 (l16 A)) 39 ∧ Blk (W5.setRow p9_5 (arrK .i64 16 (l16 X8))) (w.heap.size + 1) (arrK .i64 16 (l16 B)) 39 ∧ Blk (W5.setRow p9_5 (arrK .i64 16 (l16 X8))) (w.heap.size + 2) (arrK .i64 16 (fun _ => 0)) 39 ∧ Blk (W5.setRow p9_5 (arrK .i64 16 (l16 X8))) p7_1 (arrK .i64 16 (l16 X2)) 39 ∧ Blk (W5.setRow p9_5 (arrK .i64 16 (l16 X8))) p8_3 (arrK .i64 16 (l16 X4)) 39 ∧ Blk (W5.setRow p9_5 (arrK .i64 16 (l16 X8))) p9_5 (arrK .i64 16 (l16 X8)) 39 := ⟨(below_setRow (below_step bel hE bel.size) (by omega) _), (blk_setRow_other (blk_step k_t2 hE) (by omega) _), (blk_setRow_other (blk_step k_t3 hE) (by omega) _), (blk_setRow_other (blk_step k_t4 hE) (by omega) _), (blk_setRow_other (blk_step k_t7 hE) (by omega) _), (blk_setRow_other (blk_step k_t8 hE) (by omega) _), (blk_setRow k_t9 (arrK .i64 16 (l16 X8)))⟩
  generalize (W5.setRow p9_5 (arrK .i64 16 (l16 X8))) = W6 at hF ⊢
  clear bel k_t2 k_t3 k_t4 k_t7 k_t8 k_t9
  obtain ⟨bel, k_t2, k_t3, k_t4, k_t7, k_t8, k_t9⟩ := hF
  go_upto_region 5 with fail
  have lt_t9_6 := blk_lt k_t9
  have c_X9 := rMul_c X8 X8 bX8 bX8
  obtain ⟨X9, hX9⟩ : ∃ v_, v_ = X8 * X8 % PP := ⟨_, rfl⟩
  rw [← hX9] at c_X9
  have bX9 : X9 < P256 := by rw [hX9]; exact mod_256 _
  have HX9 := Lib.hid hX9
  clear hX9
  have c_X10 := rMul_c B X9 hB bX9
  obtain ⟨X10, hX10⟩ : ∃ v_, v_ = B * X9 % PP := ⟨_, rfl⟩
  rw [← hX10] at c_X10
  have bX10 : X10 < P256 := by rw [hX10]; exact mod_256 _
  have HX10 := Lib.hid hX10
  clear hX10
  refine wp_region_xn 5 [⟨5, 10, arrK .i64 16 (fun _ => 0), 39⟩] (by kernel_rfl) ?_ (by kernel_rfl) ?_
  · intro x hx
    simp only [List.mem_cons, List.not_mem_nil, or_false] at hx
    subst hx; exact ⟨_, rfl, rfl, rfl, fun _ _ => by kernel_rfl⟩
  simp only [List.take_succ_cons, List.take_zero, List.take_nil]
  (try simp only [Act.put, List.setIfInBounds_toArray, List.set_cons_zero, List.set_cons_succ])
  ((with_reducible refine wpX_load (b := ?_) (cs := ?_) ?_ rfl ?_ ?_ ?_ ?_ ?_); rotate_left 2; (focus rfl); (focus rfl); (focus first | assumption | exact blk_rd (by assumption)); (focus kernel_rfl); (focus kernel_rfl); (try simp only [Act.put, List.setIfInBounds_toArray, List.set_cons_zero, List.set_cons_succ]))
  ((with_reducible refine wpX_load (b := ?_) (cs := ?_) ?_ rfl ?_ ?_ ?_ ?_ ?_); rotate_left 2; (focus rfl); (focus rfl); (focus first | assumption | exact blk_rd (by assumption)); (focus kernel_rfl); (focus kernel_rfl); (try simp only [Act.put, List.setIfInBounds_toArray, List.set_cons_zero, List.set_cons_succ]))
  ((with_reducible refine wpX_load (b := ?_) (cs := ?_) ?_ rfl ?_ ?_ ?_ ?_ ?_); rotate_left 2; (focus rfl); (focus rfl); (focus first | assumption | exact blk_rd (by assumption)); (focus kernel_rfl); (focus kernel_rfl); (try simp only [Act.put, List.setIfInBounds_toArray, List.set_cons_zero, List.set_cons_succ]))
  ((with_reducible refine wpX_fn (fun W hW => c_X9 W) ?_ rfl ?_ ?_ ?_); (focus rfl); (focus kernel_rfl); (focus rfl); (try simp only [Act.put, List.setIfInBounds_toArray, List.set_cons_zero, List.set_cons_succ]))
  ((with_reducible refine wpX_fn (fun W hW => c_X10 W) ?_ rfl ?_ ?_ ?_); (focus rfl); (focus kernel_rfl); (focus rfl); (try simp only [Act.put, List.setIfInBounds_toArray, List.set_cons_zero, List.set_cons_succ]))
  refine wpX_nil ?_
  intro β W7 hE hN hD
  obtain ⟨n_t10_7, k_t10⟩ := hN _ (List.mem_cons_self ..)
  simp only [putAll, Act.put, List.setIfInBounds_toArray, List.set_cons_zero, List.set_cons_succ, List.drop_succ_cons, List.drop_zero, List.drop_nil, List.length_cons, List.length_nil] at n_t10_7 k_t10 ⊢
  generalize β 5 = p10_7 at *
  have sz_7 := bel.size
  clear hN hD β
  refine wpL_store (g := p10_7) (cells := arrK .i64 16 (l16 X10)) (by rfl) rfl rfl rfl k_t10 (by kernel_rfl) (by kernel_rfl) (arrK_one _ _ _) ?_
  (try simp only [Act.put, List.setIfInBounds_toArray, List.set_cons_zero, List.set_cons_succ])
  refine wpL_nil ?_
  refine NoPanic.normal (Q := Exit.then _ _) ?_
  have hF : Below w.heap.size w (W7.setRow p10_7 (arrK .i64 16 (l16 X10))) ∧ Blk (W7.setRow p10_7 (arrK .i64 16 (l16 X10))) w.heap.size (arrK .i64 16 (l16 A)) 39 ∧ Blk (W7.setRow p10_7 (arrK .i64 16 (l16 X10))) (w.heap.size + 1) (arrK .i64 16 (l16 B)) 39 ∧ Blk (W7.setRow p10_7 (arrK .i64 16 (l16 X10))) (w.heap.size + 2) (arrK .i64 16 (fun _ => 0)) 39 ∧ Blk (W7.setRow p10_7 (arrK .i64 16 (l16 X10))) p7_1 (arrK .i64 16 (l16 X2)) 39 ∧ Blk (W7.setRow p10_7 (arrK .i64 16 (l16 X10))) p8_3 (arrK .i64 16 (l16 X4)) 39 ∧ Blk (W7.setRow p10_7 (arrK .i64 16 (l16 X10))) p9_5 (arrK .i64 16 (l16 X8)) 39 ∧ Blk (W7.setRow p10_7 (arrK .i64 16 (l16 X10))) p10_7 (arrK .i64 16 (l16 X10)) 39 := ⟨(below_setRow (below_step bel hE bel.size) (by omega) _), (blk_setRow_other (blk_step k_t2 hE) (by omega) _), (blk_setRow_other (blk_step k_t3 hE) (by omega) _), (blk_setRow_other (blk_step k_t4 hE) (by omega) _), (blk_setRow_other (blk_step k_t7 hE) (by omega) _), (blk_setRow_other (blk_step k_t8 hE) (by omega) _), (blk_setRow_other (blk_step k_t9 hE) (by omega) _), (blk_setRow k_t10 (arrK .i64 16 (l16 X10)))⟩
  generalize (W7.setRow p10_7 (arrK .i64 16 (l16 X10))) = W8 at hF ⊢
  clear bel k_t2 k_t3 k_t4 k_t7 k_t8 k_t9 k_t10
  obtain ⟨bel, k_t2, k_t3, k_t4, k_t7, k_t8, k_t9, k_t10⟩ := hF
  go_upto_region 6 with fail
  have lt_t10_8 := blk_lt k_t10
  have e_11 := eq16 X10 A bX10 (lt_256 hA)
  have hw : X10 = rtW A B := by rw [HX10.out, HX9.out, HX8.out, HX7.out, HX6.out, HX5.out, HX4.out, HX3.out, HX2.out, HX1.out]; rfl
  rw [decide_eq_false (show ¬ X10 = A by rw [hw]; exact h1)] at e_11
  have HW := Lib.hid hw
  clear hw
  refine wp_region_pn 3 [] (fun x hx => by cases hx) (by kernel_rfl) ?_
  simp only [List.take_succ_cons, List.take_zero, List.take_nil]
  (try simp only [Act.put, List.setIfInBounds_toArray, List.set_cons_zero, List.set_cons_succ])
  ((with_reducible refine wpX_load (b := ?_) (cs := ?_) ?_ rfl ?_ ?_ ?_ ?_ ?_); rotate_left 2; (focus rfl); (focus rfl); (focus first | assumption | exact blk_rd (by assumption)); (focus kernel_rfl); (focus kernel_rfl); (try simp only [Act.put, List.setIfInBounds_toArray, List.set_cons_zero, List.set_cons_succ]))
  ((with_reducible refine wpX_load (b := ?_) (cs := ?_) ?_ rfl ?_ ?_ ?_ ?_ ?_); rotate_left 2; (focus rfl); (focus rfl); (focus first | assumption | exact blk_rd (by assumption)); (focus kernel_rfl); (focus kernel_rfl); (try simp only [Act.put, List.setIfInBounds_toArray, List.set_cons_zero, List.set_cons_succ]))
  ((with_reducible refine wpX_eqlA (e_11) ?_ ?_ rfl ?_ ?_ ?_); (focus kernel_rfl); (focus rfl); (focus rfl); (focus rfl); (try simp only [Act.put, List.setIfInBounds_toArray, List.set_cons_zero, List.set_cons_succ]))
  refine wpX_nil ?_
  intro β W9 hE hN hD
  simp only [putAll, Act.put, List.setIfInBounds_toArray, List.set_cons_zero, List.set_cons_succ, List.drop_succ_cons, List.drop_zero, List.drop_nil, List.length_cons, List.length_nil]
  clear hN hD β
  refine wpL_nil ?_
  have hF : Below w.heap.size w W9 ∧ Blk W9 w.heap.size (arrK .i64 16 (l16 A)) 39 ∧ Blk W9 (w.heap.size + 1) (arrK .i64 16 (l16 B)) 39 ∧ Blk W9 (w.heap.size + 2) (arrK .i64 16 (fun _ => 0)) 39 ∧ Blk W9 p7_1 (arrK .i64 16 (l16 X2)) 39 ∧ Blk W9 p8_3 (arrK .i64 16 (l16 X4)) 39 ∧ Blk W9 p9_5 (arrK .i64 16 (l16 X8)) 39 ∧ Blk W9 p10_7 (arrK .i64 16 (l16 X10)) 39 := ⟨(below_step bel hE bel.size), (blk_step k_t2 hE), (blk_step k_t3 hE), (blk_step k_t4 hE), (blk_step k_t7 hE), (blk_step k_t8 hE), (blk_step k_t9 hE), (blk_step k_t10 hE)⟩
  clear bel k_t2 k_t3 k_t4 k_t7 k_t8 k_t9 k_t10
  obtain ⟨bel, k_t2, k_t3, k_t4, k_t7, k_t8, k_t9, k_t10⟩ := hF
  go_upto_region 8 with fail
  have lt_t10_9 := blk_lt k_t10
  have c_X12 := rNeg_c A (Nat.le_of_lt hA)
  obtain ⟨X12, hX12⟩ : ∃ v_, v_ = (PP - A) % PP := ⟨_, rfl⟩
  rw [← hX12] at c_X12
  have bX12 : X12 < P256 := by rw [hX12]; exact mod_256 _
  have HX12 := Lib.hid hX12
  clear hX12
  have e_13 := eq16 X10 X12 bX10 bX12
  rw [decide_eq_true (show X10 = X12 by rw [HW.out, HX12.out]; exact h2)] at e_13
  refine wp_region_xn 4 [] (by kernel_rfl) (fun x hx => by cases hx) (by kernel_rfl) ?_
  simp only [List.take_succ_cons, List.take_zero, List.take_nil]
  (try simp only [Act.put, List.setIfInBounds_toArray, List.set_cons_zero, List.set_cons_succ])
  ((with_reducible refine wpX_load (b := ?_) (cs := ?_) ?_ rfl ?_ ?_ ?_ ?_ ?_); rotate_left 2; (focus rfl); (focus rfl); (focus first | assumption | exact blk_rd (by assumption)); (focus kernel_rfl); (focus kernel_rfl); (try simp only [Act.put, List.setIfInBounds_toArray, List.set_cons_zero, List.set_cons_succ]))
  ((with_reducible refine wpX_load (b := ?_) (cs := ?_) ?_ rfl ?_ ?_ ?_ ?_ ?_); rotate_left 2; (focus rfl); (focus rfl); (focus first | assumption | exact blk_rd (by assumption)); (focus kernel_rfl); (focus kernel_rfl); (try simp only [Act.put, List.setIfInBounds_toArray, List.set_cons_zero, List.set_cons_succ]))
  ((with_reducible refine wpX_fn (fun W hW => c_X12 W) ?_ rfl ?_ ?_ ?_); (focus rfl); (focus kernel_rfl); (focus rfl); (try simp only [Act.put, List.setIfInBounds_toArray, List.set_cons_zero, List.set_cons_succ]))
  ((with_reducible refine wpX_eqlA (e_13) ?_ ?_ rfl ?_ ?_ ?_); (focus kernel_rfl); (focus rfl); (focus rfl); (focus rfl); (try simp only [Act.put, List.setIfInBounds_toArray, List.set_cons_zero, List.set_cons_succ]))
  refine wpX_nil ?_
  intro β W10 hE hN hD
  simp only [putAll, Act.put, List.setIfInBounds_toArray, List.set_cons_zero, List.set_cons_succ, List.drop_succ_cons, List.drop_zero, List.drop_nil, List.length_cons, List.length_nil]
  clear hN hD β
  refine wpL_nil ?_
  refine NoPanic.normal (Q := Exit.then _ _) ?_
  have hF : Below w.heap.size w W10 ∧ Blk W10 w.heap.size (arrK .i64 16 (l16 A)) 39 ∧ Blk W10 (w.heap.size + 1) (arrK .i64 16 (l16 B)) 39 ∧ Blk W10 (w.heap.size + 2) (arrK .i64 16 (fun _ => 0)) 39 ∧ Blk W10 p7_1 (arrK .i64 16 (l16 X2)) 39 ∧ Blk W10 p8_3 (arrK .i64 16 (l16 X4)) 39 ∧ Blk W10 p9_5 (arrK .i64 16 (l16 X8)) 39 ∧ Blk W10 p10_7 (arrK .i64 16 (l16 X10)) 39 := ⟨(below_step bel hE bel.size), (blk_step k_t2 hE), (blk_step k_t3 hE), (blk_step k_t4 hE), (blk_step k_t7 hE), (blk_step k_t8 hE), (blk_step k_t9 hE), (blk_step k_t10 hE)⟩
  clear bel k_t2 k_t3 k_t4 k_t7 k_t8 k_t9 k_t10
  obtain ⟨bel, k_t2, k_t3, k_t4, k_t7, k_t8, k_t9, k_t10⟩ := hF
  go_upto_region 9 with fail
  have lt_t10_10 := blk_lt k_t10
  have c_X14 := rMul_c X8 II bX8 II_lt
  obtain ⟨X14, hX14⟩ : ∃ v_, v_ = X8 * II % PP := ⟨_, rfl⟩
  rw [← hX14] at c_X14
  have bX14 : X14 < P256 := by rw [hX14]; exact mod_256 _
  have HX14 := Lib.hid hX14
  clear hX14
  refine wp_region_xn 3 [] (by kernel_rfl) (fun x hx => by cases hx) (by kernel_rfl) ?_
  simp only [List.take_succ_cons, List.take_zero, List.take_nil]
  (try simp only [Act.put, List.setIfInBounds_toArray, List.set_cons_zero, List.set_cons_succ])
  ((with_reducible refine wpX_load (b := ?_) (cs := ?_) ?_ rfl ?_ ?_ ?_ ?_ ?_); rotate_left 2; (focus rfl); (focus rfl); (focus first | assumption | exact blk_rd (by assumption)); (focus kernel_rfl); (focus kernel_rfl); (try simp only [Act.put, List.setIfInBounds_toArray, List.set_cons_zero, List.set_cons_succ]))
  ((with_reducible refine wpX_fn (fun W hW => rI_c W) ?_ rfl ?_ ?_ ?_); (focus rfl); (focus kernel_rfl); (focus rfl); (try simp only [Act.put, List.setIfInBounds_toArray, List.set_cons_zero, List.set_cons_succ]))
  ((with_reducible refine wpX_fn (fun W hW => c_X14 W) ?_ rfl ?_ ?_ ?_); (focus rfl); (focus kernel_rfl); (focus rfl); (try simp only [Act.put, List.setIfInBounds_toArray, List.set_cons_zero, List.set_cons_succ]))
  refine wpX_nil ?_
  intro β W11 hE hN hD
  simp only [putAll, Act.put, List.setIfInBounds_toArray, List.set_cons_zero, List.set_cons_succ, List.drop_succ_cons, List.drop_zero, List.drop_nil, List.length_cons, List.length_nil]
  clear hN hD β
  refine wpL_store (g := (w.heap.size + 2)) (cells := arrK .i64 16 (l16 X14)) (by rfl) rfl rfl rfl (blk_step k_t4 hE) (by kernel_rfl) (by kernel_rfl) (arrK_one _ _ _) ?_
  (try simp only [Act.put, List.setIfInBounds_toArray, List.set_cons_zero, List.set_cons_succ])
  (refine wpL_val (v := ?_) (by rfl) ?_ ?_; rotate_left 1; (focus (go_simp; first | done | with_reducible rfl)))
  (try simp only [Act.put, List.setIfInBounds_toArray, List.set_cons_zero, List.set_cons_succ])
  refine wpL_nil ?_
  refine NoPanic.normal (Q := Exit.then _ _) ?_
  have hF : Below w.heap.size w (W11.setRow (w.heap.size + 2) (arrK .i64 16 (l16 X14))) ∧ Blk (W11.setRow (w.heap.size + 2) (arrK .i64 16 (l16 X14))) w.heap.size (arrK .i64 16 (l16 A)) 39 ∧ Blk (W11.setRow (w.heap.size + 2) (arrK .i64 16 (l16 X14))) (w.heap.size + 1) (arrK .i64 16 (l16 B)) 39 ∧ Blk (W11.setRow (w.heap.size + 2) (arrK .i64 16 (l16 X14))) (w.heap.size + 2) (arrK .i64 16 (l16 X14)) 39 ∧ Blk (W11.setRow (w.heap.size + 2) (arrK .i64 16 (l16 X14))) p7_1 (arrK .i64 16 (l16 X2)) 39 ∧ Blk (W11.setRow (w.heap.size + 2) (arrK .i64 16 (l16 X14))) p8_3 (arrK .i64 16 (l16 X4)) 39 ∧ Blk (W11.setRow (w.heap.size + 2) (arrK .i64 16 (l16 X14))) p9_5 (arrK .i64 16 (l16 X8)) 39 ∧ Blk (W11.setRow (w.heap.size + 2) (arrK .i64 16 (l16 X14))) p10_7 (arrK .i64 16 (l16 X10)) 39 := ⟨(below_setRow (below_step bel hE bel.size) (by omega) _), (blk_setRow_other (blk_step k_t2 hE) (by omega) _), (blk_setRow_other (blk_step k_t3 hE) (by omega) _), (blk_setRow (blk_step k_t4 hE) (arrK .i64 16 (l16 X14))), (blk_setRow_other (blk_step k_t7 hE) (by omega) _), (blk_setRow_other (blk_step k_t8 hE) (by omega) _), (blk_setRow_other (blk_step k_t9 hE) (by omega) _), (blk_setRow_other (blk_step k_t10 hE) (by omega) _)⟩
  generalize (W11.setRow (w.heap.size + 2) (arrK .i64 16 (l16 X14))) = W12 at hF ⊢
  clear bel k_t2 k_t3 k_t4 k_t7 k_t8 k_t9 k_t10
  obtain ⟨bel, k_t2, k_t3, k_t4, k_t7, k_t8, k_t9, k_t10⟩ := hF
  go_wp2
  refine bodyPost_ret (res_row2 rfl rfl rfl k_t4 (by kernel_rfl) (by kernel_rfl)) rfl ⟨?_, bel⟩
  rw [HX14.out, HX8.out, HX7.out, HX6.out, HX5.out, HX4.out, HX3.out, HX2.out, HX1.out]; rfl
set_option maxHeartbeats 4000000 in
theorem rRoot_3 (A B : Nat) (hA : A < PP) (hB : B < P256) (h1 : ¬ rtW A B = A) (h2 : ¬ rtW A B = (PP - A) % PP) (w : World) :
    Calls Tryd.prog 41 #[A16 A, A16 B] w fun e w' => Ret (.tuple #[A16 0, .bool false]) w w' e := by
  unfold A16
  go_enter Tryd.func41, Tryd.ntmps41
  go_upto_region 2 with fail
  refine wp_world (fun W => Below w.heap.size w W ∧ Blk W w.heap.size (arrK .i64 16 (l16 A)) 39 ∧ Blk W (w.heap.size + 1) (arrK .i64 16 (l16 B)) 39 ∧ Blk W (w.heap.size + 2) (arrK .i64 16 (fun _ => 0)) 39) ⟨(by (repeat' (first | (with_reducible assumption) | (with_reducible exact Below.refl _ _) | (with_reducible refine Below.drew ?_) | (with_reducible refine Below.alloc ?_ ?_ _) | (with_reducible refine below_set ?_ ?_ _ _) | (with_reducible refine below_setRow ?_ ?_ _) | (with_reducible refine below_step ?_ (by assumption) ?_))) <;> (first | omega | ((try simp only [World.size_alloc, World.size_setCell, World.size_drew, size_setRow]); omega))), blk_alloc (blk_alloc (blk_new _ _ rfl) _) _, blk_alloc (blk_new _ _ (by simp)) _, blk_new _ _ (by simp)⟩ ?_
  rintro W0 ⟨bel, k_t2, k_t3, k_t4⟩
  have lt_t2_0 := blk_lt k_t2
  have lt_t3_0 := blk_lt k_t3
  have lt_t4_0 := blk_lt k_t4
  have c_X1 := rMul_c B B hB hB
  obtain ⟨X1, hX1⟩ : ∃ v_, v_ = B * B % PP := ⟨_, rfl⟩
  rw [← hX1] at c_X1
  have bX1 : X1 < P256 := by rw [hX1]; exact mod_256 _
  have HX1 := Lib.hid hX1
  clear hX1
  have c_X2 := rMul_c X1 B bX1 hB
  obtain ⟨X2, hX2⟩ : ∃ v_, v_ = X1 * B % PP := ⟨_, rfl⟩
  rw [← hX2] at c_X2
  have bX2 : X2 < P256 := by rw [hX2]; exact mod_256 _
  have HX2 := Lib.hid hX2
  clear hX2
  refine wp_region_xn 5 [⟨5, 7, arrK .i64 16 (fun _ => 0), 39⟩] (by kernel_rfl) ?_ (by kernel_rfl) ?_
  · intro x hx
    simp only [List.mem_cons, List.not_mem_nil, or_false] at hx
    subst hx; exact ⟨_, rfl, rfl, rfl, fun _ _ => by kernel_rfl⟩
  simp only [List.take_succ_cons, List.take_zero, List.take_nil]
  (try simp only [Act.put, List.setIfInBounds_toArray, List.set_cons_zero, List.set_cons_succ])
  ((with_reducible refine wpX_load (b := ?_) (cs := ?_) ?_ rfl ?_ ?_ ?_ ?_ ?_); rotate_left 2; (focus rfl); (focus rfl); (focus first | assumption | exact blk_rd (by assumption)); (focus kernel_rfl); (focus kernel_rfl); (try simp only [Act.put, List.setIfInBounds_toArray, List.set_cons_zero, List.set_cons_succ]))
  ((with_reducible refine wpX_load (b := ?_) (cs := ?_) ?_ rfl ?_ ?_ ?_ ?_ ?_); rotate_left 2; (focus rfl); (focus rfl); (focus first | assumption | exact blk_rd (by assumption)); (focus kernel_rfl); (focus kernel_rfl); (try simp only [Act.put, List.setIfInBounds_toArray, List.set_cons_zero, List.set_cons_succ]))
  ((with_reducible refine wpX_fn (fun W hW => c_X1 W) ?_ rfl ?_ ?_ ?_); (focus rfl); (focus kernel_rfl); (focus rfl); (try simp only [Act.put, List.setIfInBounds_toArray, List.set_cons_zero, List.set_cons_succ]))
  ((with_reducible refine wpX_load (b := ?_) (cs := ?_) ?_ rfl ?_ ?_ ?_ ?_ ?_); rotate_left 2; (focus rfl); (focus rfl); (focus first | assumption | exact blk_rd (by assumption)); (focus kernel_rfl); (focus kernel_rfl); (try simp only [Act.put, List.setIfInBounds_toArray, List.set_cons_zero, List.set_cons_succ]))
  ((with_reducible refine wpX_fn (fun W hW => c_X2 W) ?_ rfl ?_ ?_ ?_); (focus rfl); (focus kernel_rfl); (focus rfl); (try simp only [Act.put, List.setIfInBounds_toArray, List.set_cons_zero, List.set_cons_succ]))
  refine wpX_nil ?_
  intro β W1 hE hN hD
  obtain ⟨n_t7_1, k_t7⟩ := hN _ (List.mem_cons_self ..)
  simp only [putAll, Act.put, List.setIfInBounds_toArray, List.set_cons_zero, List.set_cons_succ, List.drop_succ_cons, List.drop_zero, List.drop_nil, List.length_cons, List.length_nil] at n_t7_1 k_t7 ⊢
  generalize β 5 = p7_1 at *
  have sz_1 := bel.size
  clear hN hD β
  refine wpL_store (g := p7_1) (cells := arrK .i64 16 (l16 X2)) (by rfl) rfl rfl rfl k_t7 (by kernel_rfl) (by kernel_rfl) (arrK_one _ _ _) ?_
  (try simp only [Act.put, List.setIfInBounds_toArray, List.set_cons_zero, List.set_cons_succ])
  refine wpL_nil ?_
  refine NoPanic.normal (Q := Exit.then _ _) ?_
  have hF : Below w.heap.size w (W1.setRow p7_1 (arrK .i64 16 (l16 X2))) ∧ Blk (W1.setRow p7_1 (arrK .i64 16 (l16 X2))) w.heap.size (arrK .i64 16 (l16 A)) 39 ∧ Blk (W1.setRow p7_1 (arrK .i64 16 (l16 X2))) (w.heap.size + 1) (arrK .i64 16 (l16 B)) 39 ∧ Blk (W1.setRow p7_1 (arrK .i64 16 (l16 X2))) (w.heap.size + 2) (arrK .i64 16 (fun _ => 0)) 39 ∧ Blk (W1.setRow p7_1 (arrK .i64 16 (l16 X2))) p7_1 (arrK .i64 16 (l16 X2)) 39 := ⟨(below_setRow (below_step bel hE bel.size) (by omega) _), (blk_setRow_other (blk_step k_t2 hE) (by omega) _), (blk_setRow_other (blk_step k_t3 hE) (by omega) _), (blk_setRow_other (blk_step k_t4 hE) (by omega) _), (blk_setRow k_t7 (arrK .i64 16 (l16 X2)))⟩
  generalize (W1.setRow p7_1 (arrK .i64 16 (l16 X2))) = W2 at hF ⊢
  clear bel k_t2 k_t3 k_t4 k_t7
  obtain ⟨bel, k_t2, k_t3, k_t4, k_t7⟩ := hF
  go_upto_region 3 with fail
  have lt_t7_2 := blk_lt k_t7
  have c_X3 := rMul_c X2 X2 bX2 bX2
  obtain ⟨X3, hX3⟩ : ∃ v_, v_ = X2 * X2 % PP := ⟨_, rfl⟩
  rw [← hX3] at c_X3
  have bX3 : X3 < P256 := by rw [hX3]; exact mod_256 _
  have HX3 := Lib.hid hX3
  clear hX3
  have c_X4 := rMul_c X3 B bX3 hB
  obtain ⟨X4, hX4⟩ : ∃ v_, v_ = X3 * B % PP := ⟨_, rfl⟩
  rw [← hX4] at c_X4
  have bX4 : X4 < P256 := by rw [hX4]; exact mod_256 _
  have HX4 := Lib.hid hX4
  clear hX4
  refine wp_region_xn 5 [⟨5, 8, arrK .i64 16 (fun _ => 0), 39⟩] (by kernel_rfl) ?_ (by kernel_rfl) ?_
  · intro x hx
    simp only [List.mem_cons, List.not_mem_nil, or_false] at hx
    subst hx; exact ⟨_, rfl, rfl, rfl, fun _ _ => by kernel_rfl⟩
  simp only [List.take_succ_cons, List.take_zero, List.take_nil]
  (try simp only [Act.put, List.setIfInBounds_toArray, List.set_cons_zero, List.set_cons_succ])
  ((with_reducible refine wpX_load (b := ?_) (cs := ?_) ?_ rfl ?_ ?_ ?_ ?_ ?_); rotate_left 2; (focus rfl); (focus rfl); (focus first | assumption | exact blk_rd (by assumption)); (focus kernel_rfl); (focus kernel_rfl); (try simp only [Act.put, List.setIfInBounds_toArray, List.set_cons_zero, List.set_cons_succ]))
  ((with_reducible refine wpX_load (b := ?_) (cs := ?_) ?_ rfl ?_ ?_ ?_ ?_ ?_); rotate_left 2; (focus rfl); (focus rfl); (focus first | assumption | exact blk_rd (by assumption)); (focus kernel_rfl); (focus kernel_rfl); (try simp only [Act.put, List.setIfInBounds_toArray, List.set_cons_zero, List.set_cons_succ]))
  ((with_reducible refine wpX_fn (fun W hW => c_X3 W) ?_ rfl ?_ ?_ ?_); (focus rfl); (focus kernel_rfl); (focus rfl); (try simp only [Act.put, List.setIfInBounds_toArray, List.set_cons_zero, List.set_cons_succ]))
  ((with_reducible refine wpX_load (b := ?_) (cs := ?_) ?_ rfl ?_ ?_ ?_ ?_ ?_); rotate_left 2; (focus rfl); (focus rfl); (focus first | assumption | exact blk_rd (by assumption)); (focus kernel_rfl); (focus kernel_rfl); (try simp only [Act.put, List.setIfInBounds_toArray, List.set_cons_zero, List.set_cons_succ]))
  ((with_reducible refine wpX_fn (fun W hW => c_X4 W) ?_ rfl ?_ ?_ ?_); (focus rfl); (focus kernel_rfl); (focus rfl); (try simp only [Act.put, List.setIfInBounds_toArray, List.set_cons_zero, List.set_cons_succ]))
  refine wpX_nil ?_
  intro β W3 hE hN hD
  obtain ⟨n_t8_3, k_t8⟩ := hN _ (List.mem_cons_self ..)
  simp only [putAll, Act.put, List.setIfInBounds_toArray, List.set_cons_zero, List.set_cons_succ, List.drop_succ_cons, List.drop_zero, List.drop_nil, List.length_cons, List.length_nil] at n_t8_3 k_t8 ⊢
  generalize β 5 = p8_3 at *
  have sz_3 := bel.size
  clear hN hD β
  refine wpL_store (g := p8_3) (cells := arrK .i64 16 (l16 X4)) (by rfl) rfl rfl rfl k_t8 (by kernel_rfl) (by kernel_rfl) (arrK_one _ _ _) ?_
  (try simp only [Act.put, List.setIfInBounds_toArray, List.set_cons_zero, List.set_cons_succ])
  refine wpL_nil ?_
  refine NoPanic.normal (Q := Exit.then _ _) ?_
  have hF : Below w.heap.size w (W3.setRow p8_3 (arrK .i64 16 (l16 X4))) ∧ Blk (W3.setRow p8_3 (arrK .i64 16 (l16 X4))) w.heap.size (arrK .i64 16 (l16 A)) 39 ∧ Blk (W3.setRow p8_3 (arrK .i64 16 (l16 X4))) (w.heap.size + 1) (arrK .i64 16 (l16 B)) 39 ∧ Blk (W3.setRow p8_3 (arrK .i64 16 (l16 X4))) (w.heap.size + 2) (arrK .i64 16 (fun _ => 0)) 39 ∧ Blk (W3.setRow p8_3 (arrK .i64 16 (l16 X4))) p7_1 (arrK .i64 16 (l16 X2)) 39 ∧ Blk (W3.setRow p8_3 (arrK .i64 16 (l16 X4))) p8_3 (arrK .i64 16 (l16 X4)) 39 := ⟨(below_setRow (below_step bel hE bel.size) (by omega) _), (blk_setRow_other (blk_step k_t2 hE) (by omega) _), (blk_setRow_other (blk_step k_t3 hE) (by omega) _), (blk_setRow_other (blk_step k_t4 hE) (by omega) _), (blk_setRow_other (blk_step k_t7 hE) (by omega) _), (blk_setRow k_t8 (arrK .i64 16 (l16 X4)))⟩
  generalize (W3.setRow p8_3 (arrK .i64 16 (l16 X4))) = W4 at hF ⊢
  clear bel k_t2 k_t3 k_t4 k_t7 k_t8
  obtain ⟨bel, k_t2, k_t3, k_t4, k_t7, k_t8⟩ := hF
  go_upto_region 4 with fail
  have lt_t8_4 := blk_lt k_t8
  have c_X5 := rMul_c A X2 (lt_256 hA) bX2
  obtain ⟨X5, hX5⟩ : ∃ v_, v_ = A * X2 % PP := ⟨_, rfl⟩
  rw [← hX5] at c_X5
  have bX5 : X5 < P256 := by rw [hX5]; exact mod_256 _
  have HX5 := Lib.hid hX5
  clear hX5
  have c_X6 := rMul_c A X4 (lt_256 hA) bX4
  obtain ⟨X6, hX6⟩ : ∃ v_, v_ = A * X4 % PP := ⟨_, rfl⟩
  rw [← hX6] at c_X6
  have bX6 : X6 < P256 := by rw [hX6]; exact mod_256 _
  have HX6 := Lib.hid hX6
  clear hX6
  have c_X7 := rPow_c X6 7237005577332262213973186563042994240829374041602535252466099000494570602493 bX6 (by decide)
  obtain ⟨X7, hX7⟩ : ∃ v_, v_ = pw X6 7237005577332262213973186563042994240829374041602535252466099000494570602493 := ⟨_, rfl⟩
  rw [← hX7] at c_X7
  have bX7 : X7 < P256 := by rw [hX7]; exact pw_lt _ _
  have HX7 := Lib.hid hX7
  clear hX7
  have c_X8 := rMul_c X5 X7 bX5 bX7
  obtain ⟨X8, hX8⟩ : ∃ v_, v_ = X5 * X7 % PP := ⟨_, rfl⟩
  rw [← hX8] at c_X8
  have bX8 : X8 < P256 := by rw [hX8]; exact mod_256 _
  have HX8 := Lib.hid hX8
  clear hX8
  refine wp_region_xn 15 [⟨15, 9, arrK .i64 16 (fun _ => 0), 39⟩] (by kernel_rfl) ?_ (by kernel_rfl) ?_
  · intro x hx
    simp only [List.mem_cons, List.not_mem_nil, or_false] at hx
    subst hx; exact ⟨_, rfl, rfl, rfl, fun _ _ => by kernel_rfl⟩
  simp only [List.take_succ_cons, List.take_zero, List.take_nil]
  (try simp only [Act.put, List.setIfInBounds_toArray, List.set_cons_zero, List.set_cons_succ])
  ((with_reducible refine wpX_load (b := ?_) (cs := ?_) ?_ rfl ?_ ?_ ?_ ?_ ?_); rotate_left 2; (focus rfl); (focus rfl); (focus first | assumption | exact blk_rd (by assumption)); (focus kernel_rfl); (focus kernel_rfl); (try simp only [Act.put, List.setIfInBounds_toArray, List.set_cons_zero, List.set_cons_succ]))
  ((with_reducible refine wpX_load (b := ?_) (cs := ?_) ?_ rfl ?_ ?_ ?_ ?_ ?_); rotate_left 2; (focus rfl); (focus rfl); (focus first | assumption | exact blk_rd (by assumption)); (focus kernel_rfl); (focus kernel_rfl); (try simp only [Act.put, List.setIfInBounds_toArray, List.set_cons_zero, List.set_cons_succ]))
  ((with_reducible refine wpX_fn (fun W hW => c_X5 W) ?_ rfl ?_ ?_ ?_); (focus rfl); (focus kernel_rfl); (focus rfl); (try simp only [Act.put, List.setIfInBounds_toArray, List.set_cons_zero, List.set_cons_succ]))
  ((with_reducible refine wpX_load (b := ?_) (cs := ?_) ?_ rfl ?_ ?_ ?_ ?_ ?_); rotate_left 2; (focus rfl); (focus rfl); (focus first | assumption | exact blk_rd (by assumption)); (focus kernel_rfl); (focus kernel_rfl); (try simp only [Act.put, List.setIfInBounds_toArray, List.set_cons_zero, List.set_cons_succ]))
  ((with_reducible refine wpX_load (b := ?_) (cs := ?_) ?_ rfl ?_ ?_ ?_ ?_ ?_); rotate_left 2; (focus rfl); (focus rfl); (focus first | assumption | exact blk_rd (by assumption)); (focus kernel_rfl); (focus kernel_rfl); (try simp only [Act.put, List.setIfInBounds_toArray, List.set_cons_zero, List.set_cons_succ]))
  ((with_reducible refine wpX_fn (fun W hW => c_X6 W) ?_ rfl ?_ ?_ ?_); (focus rfl); (focus kernel_rfl); (focus rfl); (try simp only [Act.put, List.setIfInBounds_toArray, List.set_cons_zero, List.set_cons_succ]))
  (refine wpX_val (v := ?_) (by rfl) (fun W hW => ?_) ?_; rotate_left 1; (focus (go_simp; first | done | with_reducible rfl)); (try simp only [Act.put, List.setIfInBounds_toArray, List.set_cons_zero, List.set_cons_succ]))
  (refine wpX_val (v := ?_) (by rfl) (fun W hW => ?_) ?_; rotate_left 1; (focus (go_simp; first | done | with_reducible rfl)); (try simp only [Act.put, List.setIfInBounds_toArray, List.set_cons_zero, List.set_cons_succ]))
  (refine wpX_val (v := ?_) (by rfl) (fun W hW => ?_) ?_; rotate_left 1; (focus (go_simp; first | done | with_reducible rfl)); (try simp only [Act.put, List.setIfInBounds_toArray, List.set_cons_zero, List.set_cons_succ]))
  (refine wpX_val (v := ?_) (by rfl) (fun W hW => ?_) ?_; rotate_left 1; (focus (go_simp; first | done | with_reducible rfl)); (try simp only [Act.put, List.setIfInBounds_toArray, List.set_cons_zero, List.set_cons_succ]))
  (refine wpX_val (v := ?_) (by rfl) (fun W hW => ?_) ?_; rotate_left 1; (focus (go_simp; first | done | with_reducible rfl)); (try simp only [Act.put, List.setIfInBounds_toArray, List.set_cons_zero, List.set_cons_succ]))
  (refine wpX_val (v := ?_) (by rfl) (fun W hW => ?_) ?_; rotate_left 1; (focus (go_simp; first | done | with_reducible rfl)); (try simp only [Act.put, List.setIfInBounds_toArray, List.set_cons_zero, List.set_cons_succ]))
  (refine wpX_val (v := ?_) (by rfl) (fun W hW => ?_) ?_; rotate_left 1; (focus (go_simp; first | done | with_reducible rfl)); (try simp only [Act.put, List.setIfInBounds_toArray, List.set_cons_zero, List.set_cons_succ]))
  ((with_reducible refine wpX_fn (fun W hW => c_X7 W) ?_ rfl ?_ ?_ ?_); (focus rfl); (focus kernel_rfl); (focus rfl); (try simp only [Act.put, List.setIfInBounds_toArray, List.set_cons_zero, List.set_cons_succ]))
  ((with_reducible refine wpX_fn (fun W hW => c_X8 W) ?_ rfl ?_ ?_ ?_); (focus rfl); (focus kernel_rfl); (focus rfl); (try simp only [Act.put, List.setIfInBounds_toArray, List.set_cons_zero, List.set_cons_succ]))
  refine wpX_nil ?_
  intro β W5 hE hN hD
  obtain ⟨n_t9_5, k_t9⟩ := hN _ (List.mem_cons_self ..)
  simp only [putAll, Act.put, List.setIfInBounds_toArray, List.set_cons_zero, List.set_cons_succ, List.drop_succ_cons, List.drop_zero, List.drop_nil, List.length_cons, List.length_nil] at n_t9_5 k_t9 ⊢
  generalize β 15 = p9_5 at *
  have sz_5 := bel.size
  clear hN hD β
  refine wpL_store (g := p9_5) (cells := arrK .i64 16 (l16 X8)) (by rfl) rfl rfl rfl k_t9 (by kernel_rfl) (by kernel_rfl) (arrK_one _ _ _) ?_
  (try simp only [Act.put, List.setIfInBounds_toArray, List.set_cons_zero, List.set_cons_succ])
  refine wpL_nil ?_
  refine NoPanic.normal (Q := Exit.then _ _) ?_
  have hF : Below w.heap.size w (W5.setRow p9_5 (arrK .i64 16 (l16 X8))) ∧ Blk (W5.setRow p9_5 (arrK .i64 16 (l16 X8))) w.heap.size (arrK .i64 16 (l16 A)) 39 ∧ Blk (W5.setRow p9_5 (arrK .i64 16 (l16 X8))) (w.heap.size + 1) (arrK .i64 16 (l16 B)) 39 ∧ Blk (W5.setRow p9_5 (arrK .i64 16 (l16 X8))) (w.heap.size + 2) (arrK .i64 16 (fun _ => 0)) 39 ∧ Blk (W5.setRow p9_5 (arrK .i64 16 (l16 X8))) p7_1 (arrK .i64 16 (l16 X2)) 39 ∧ Blk (W5.setRow p9_5 (arrK .i64 16 (l16 X8))) p8_3 (arrK .i64 16 (l16 X4)) 39 ∧ Blk (W5.setRow p9_5 (arrK .i64 16 (l16 X8))) p9_5 (arrK .i64 16 (l16 X8)) 39 := ⟨(below_setRow (below_step bel hE bel.size) (by omega) _), (blk_setRow_other (blk_step k_t2 hE) (by omega) _), (blk_setRow_other (blk_step k_t3 hE) (by omega) _), (blk_setRow_other (blk_step k_t4 hE) (by omega) _), (blk_setRow_other (blk_step k_t7 hE) (by omega) _), (blk_setRow_other (blk_step k_t8 hE) (by omega) _), (blk_setRow k_t9 (arrK .i64 16 (l16 X8)))⟩
  generalize (W5.setRow p9_5 (arrK .i64 16 (l16 X8))) = W6 at hF ⊢
  clear bel k_t2 k_t3 k_t4 k_t7 k_t8 k_t9
  obtain ⟨bel, k_t2, k_t3, k_t4, k_t7, k_t8, k_t9⟩ := hF
  go_upto_region 5 with fail
  have lt_t9_6 := blk_lt k_t9
  have c_X9 := rMul_c X8 X8 bX8 bX8
  obtain ⟨X9, hX9⟩ : ∃ v_, v_ = X8 * X8 % PP := ⟨_, rfl⟩
  rw [← hX9] at c_X9
  have bX9 : X9 < P256 := by rw [hX9]; exact mod_256 _
  have HX9 := Lib.hid hX9
  clear hX9
  have c_X10 := rMul_c B X9 hB bX9
  obtain ⟨X10, hX10⟩ : ∃ v_, v_ = B * X9 % PP := ⟨_, rfl⟩
  rw [← hX10] at c_X10
  have bX10 : X10 < P256 := by rw [hX10]; exact mod_256 _
  have HX10 := Lib.hid hX10
  clear hX10
  refine wp_region_xn 5 [⟨5, 10, arrK .i64 16 (fun _ => 0), 39⟩] (by kernel_rfl) ?_ (by kernel_rfl) ?_
  · intro x hx
    simp only [List.mem_cons, List.not_mem_nil, or_false] at hx
    subst hx; exact ⟨_, rfl, rfl, rfl, fun _ _ => by kernel_rfl⟩
  simp only [List.take_succ_cons, List.take_zero, List.take_nil]
  (try simp only [Act.put, List.setIfInBounds_toArray, List.set_cons_zero, List.set_cons_succ])
  ((with_reducible refine wpX_load (b := ?_) (cs := ?_) ?_ rfl ?_ ?_ ?_ ?_ ?_); rotate_left 2; (focus rfl); (focus rfl); (focus first | assumption | exact blk_rd (by assumption)); (focus kernel_rfl); (focus kernel_rfl); (try simp only [Act.put, List.setIfInBounds_toArray, List.set_cons_zero, List.set_cons_succ]))
  ((with_reducible refine wpX_load (b := ?_) (cs := ?_) ?_ rfl ?_ ?_ ?_ ?_ ?_); rotate_left 2; (focus rfl); (focus rfl); (focus first | assumption | exact blk_rd (by assumption)); (focus kernel_rfl); (focus kernel_rfl); (try simp only [Act.put, List.setIfInBounds_toArray, List.set_cons_zero, List.set_cons_succ]))
  ((with_reducible refine wpX_load (b := ?_) (cs := ?_) ?_ rfl ?_ ?_ ?_ ?_ ?_); rotate_left 2; (focus rfl); (focus rfl); (focus first | assumption | exact blk_rd (by assumption)); (focus kernel_rfl); (focus kernel_rfl); (try simp only [Act.put, List.setIfInBounds_toArray, List.set_cons_zero, List.set_cons_succ]))
  ((with_reducible refine wpX_fn (fun W hW => c_X9 W) ?_ rfl ?_ ?_ ?_); (focus rfl); (focus kernel_rfl); (focus rfl); (try simp only [Act.put, List.setIfInBounds_toArray, List.set_cons_zero, List.set_cons_succ]))
  ((with_reducible refine wpX_fn (fun W hW => c_X10 W) ?_ rfl ?_ ?_ ?_); (focus rfl); (focus kernel_rfl); (focus rfl); (try simp only [Act.put, List.setIfInBounds_toArray, List.set_cons_zero, List.set_cons_succ]))
  refine wpX_nil ?_
  intro β W7 hE hN hD
  obtain ⟨n_t10_7, k_t10⟩ := hN _ (List.mem_cons_self ..)
  simp only [putAll, Act.put, List.setIfInBounds_toArray, List.set_cons_zero, List.set_cons_succ, List.drop_succ_cons, List.drop_zero, List.drop_nil, List.length_cons, List.length_nil] at n_t10_7 k_t10 ⊢
  generalize β 5 = p10_7 at *
  have sz_7 := bel.size
  clear hN hD β
  refine wpL_store (g := p10_7) (cells := arrK .i64 16 (l16 X10)) (by rfl) rfl rfl rfl k_t10 (by kernel_rfl) (by kernel_rfl) (arrK_one _ _ _) ?_
  (try simp only [Act.put, List.setIfInBounds_toArray, List.set_cons_zero, List.set_cons_succ])
  refine wpL_nil ?_
  refine NoPanic.normal (Q := Exit.then _ _) ?_
  have hF : Below w.heap.size w (W7.setRow p10_7 (arrK .i64 16 (l16 X10))) ∧ Blk (W7.setRow p10_7 (arrK .i64 16 (l16 X10))) w.heap.size (arrK .i64 16 (l16 A)) 39 ∧ Blk (W7.setRow p10_7 (arrK .i64 16 (l16 X10))) (w.heap.size + 1) (arrK .i64 16 (l16 B)) 39 ∧ Blk (W7.setRow p10_7 (arrK .i64 16 (l16 X10))) (w.heap.size + 2) (arrK .i64 16 (fun _ => 0)) 39 ∧ Blk (W7.setRow p10_7 (arrK .i64 16 (l16 X10))) p7_1 (arrK .i64 16 (l16 X2)) 39 ∧ Blk (W7.setRow p10_7 (arrK .i64 16 (l16 X10))) p8_3 (arrK .i64 16 (l16 X4)) 39 ∧ Blk (W7.setRow p10_7 (arrK .i64 16 (l16 X10))) p9_5 (arrK .i64 16 (l16 X8)) 39 ∧ Blk (W7.setRow p10_7 (arrK .i64 16 (l16 X10))) p10_7 (arrK .i64 16 (l16 X10)) 39 := ⟨(below_setRow (below_step bel hE bel.size) (by omega) _), (blk_setRow_other (blk_step k_t2 hE) (by omega) _), (blk_setRow_other (blk_step k_t3 hE) (by omega) _), (blk_setRow_other (blk_step k_t4 hE) (by omega) _), (blk_setRow_other (blk_step k_t7 hE) (by omega) _), (blk_setRow_other (blk_step k_t8 hE) (by omega) _), (blk_setRow_other (blk_step k_t9 hE) (by omega) _), (blk_setRow k_t10 (arrK .i64 16 (l16 X10)))⟩
  generalize (W7.setRow p10_7 (arrK .i64 16 (l16 X10))) = W8 at hF ⊢
  clear bel k_t2 k_t3 k_t4 k_t7 k_t8 k_t9 k_t10
  obtain ⟨bel, k_t2, k_t3, k_t4, k_t7, k_t8, k_t9, k_t10⟩ := hF
  go_upto_region 6 with fail
  have lt_t10_8 := blk_lt k_t10
  have e_11 := eq16 X10 A bX10 (lt_256 hA)
  have hw : X10 = rtW A B := by rw [HX10.out, HX9.out, HX8.out, HX7.out, HX6.out, HX5.out, HX4.out, HX3.out, HX2.out, HX1.out]; rfl
  rw [decide_eq_false (show ¬ X10 = A by rw [hw]; exact h1)] at e_11
  have HW := Lib.hid hw
  clear hw
  refine wp_region_pn 3 [] (fun x hx => by cases hx) (by kernel_rfl) ?_
  simp only [List.take_succ_cons, List.take_zero, List.take_nil]
  (try simp only [Act.put, List.setIfInBounds_toArray, List.set_cons_zero, List.set_cons_succ])
  ((with_reducible refine wpX_load (b := ?_) (cs := ?_) ?_ rfl ?_ ?_ ?_ ?_ ?_); rotate_left 2; (focus rfl); (focus rfl); (focus first | assumption | exact blk_rd (by assumption)); (focus kernel_rfl); (focus kernel_rfl); (try simp only [Act.put, List.setIfInBounds_toArray, List.set_cons_zero, List.set_cons_succ]))
  ((with_reducible refine wpX_load (b := ?_) (cs := ?_) ?_ rfl ?_ ?_ ?_ ?_ ?_); rotate_left 2; (focus rfl); (focus rfl); (focus first | assumption | exact blk_rd (by assumption)); (focus kernel_rfl); (focus kernel_rfl); (try simp only [Act.put, List.setIfInBounds_toArray, List.set_cons_zero, List.set_cons_succ]))
  ((with_reducible refine wpX_eqlA (e_11) ?_ ?_ rfl ?_ ?_ ?_); (focus kernel_rfl); (focus rfl); (focus rfl); (focus rfl); (try simp only [Act.put, List.setIfInBounds_toArray, List.set_cons_zero, List.set_cons_succ]))
  refine wpX_nil ?_
  intro β W9 hE hN hD
  simp only [putAll, Act.put, List.setIfInBounds_toArray, List.set_cons_zero, List.set_cons_succ, List.drop_succ_cons, List.drop_zero, List.drop_nil, List.length_cons, List.length_nil]
  clear hN hD β
  refine wpL_nil ?_
  have hF : Below w.heap.size w W9 ∧ Blk W9 w.heap.size (arrK .i64 16 (l16 A)) 39 ∧ Blk W9 (w.heap.size + 1) (arrK .i64 16 (l16 B)) 39 ∧ Blk W9 (w.heap.size + 2) (arrK .i64 16 (fun _ => 0)) 39 ∧ Blk W9 p7_1 (arrK .i64 16 (l16 X2)) 39 ∧ Blk W9 p8_3 (arrK .i64 16 (l16 X4)) 39 ∧ Blk W9 p9_5 (arrK .i64 16 (l16 X8)) 39 ∧ Blk W9 p10_7 (arrK .i64 16 (l16 X10)) 39 := ⟨(below_step bel hE bel.size), (blk_step k_t2 hE), (blk_step k_t3 hE), (blk_step k_t4 hE), (blk_step k_t7 hE), (blk_step k_t8 hE), (blk_step k_t9 hE), (blk_step k_t10 hE)⟩
  clear bel k_t2 k_t3 k_t4 k_t7 k_t8 k_t9 k_t10
  obtain ⟨bel, k_t2, k_t3, k_t4, k_t7, k_t8, k_t9, k_t10⟩ := hF
  go_upto_region 8 with fail
  have lt_t10_9 := blk_lt k_t10
  have c_X12 := rNeg_c A (Nat.le_of_lt hA)
  obtain ⟨X12, hX12⟩ : ∃ v_, v_ = (PP - A) % PP := ⟨_, rfl⟩
  rw [← hX12] at c_X12
  have bX12 : X12 < P256 := by rw [hX12]; exact mod_256 _
  have HX12 := Lib.hid hX12
  clear hX12
  have e_13 := eq16 X10 X12 bX10 bX12
  rw [decide_eq_false (show ¬ X10 = X12 by rw [HW.out, HX12.out]; exact h2)] at e_13
  refine wp_region_xn 4 [] (by kernel_rfl) (fun x hx => by cases hx) (by kernel_rfl) ?_
  simp only [List.take_succ_cons, List.take_zero, List.take_nil]
  (try simp only [Act.put, List.setIfInBounds_toArray, List.set_cons_zero, List.set_cons_succ])
  ((with_reducible refine wpX_load (b := ?_) (cs := ?_) ?_ rfl ?_ ?_ ?_ ?_ ?_); rotate_left 2; (focus rfl); (focus rfl); (focus first | assumption | exact blk_rd (by assumption)); (focus kernel_rfl); (focus kernel_rfl); (try simp only [Act.put, List.setIfInBounds_toArray, List.set_cons_zero, List.set_cons_succ]))
  ((with_reducible refine wpX_load (b := ?_) (cs := ?_) ?_ rfl ?_ ?_ ?_ ?_ ?_); rotate_left 2; (focus rfl); (focus rfl); (focus first | assumption | exact blk_rd (by assumption)); (focus kernel_rfl); (focus kernel_rfl); (try simp only [Act.put, List.setIfInBounds_toArray, List.set_cons_zero, List.set_cons_succ]))
  ((with_reducible refine wpX_fn (fun W hW => c_X12 W) ?_ rfl ?_ ?_ ?_); (focus rfl); (focus kernel_rfl); (focus rfl); (try simp only [Act.put, List.setIfInBounds_toArray, List.set_cons_zero, List.set_cons_succ]))
  ((with_reducible refine wpX_eqlA (e_13) ?_ ?_ rfl ?_ ?_ ?_); (focus kernel_rfl); (focus rfl); (focus rfl); (focus rfl); (try simp only [Act.put, List.setIfInBounds_toArray, List.set_cons_zero, List.set_cons_succ]))
  refine wpX_nil ?_
  intro β W10 hE hN hD
  simp only [putAll, Act.put, List.setIfInBounds_toArray, List.set_cons_zero, List.set_cons_succ, List.drop_succ_cons, List.drop_zero, List.drop_nil, List.length_cons, List.length_nil]
  clear hN hD β
  refine wpL_nil ?_
  refine NoPanic.normal (Q := Exit.then _ _) ?_
  have hF : Below w.heap.size w W10 ∧ Blk W10 w.heap.size (arrK .i64 16 (l16 A)) 39 ∧ Blk W10 (w.heap.size + 1) (arrK .i64 16 (l16 B)) 39 ∧ Blk W10 (w.heap.size + 2) (arrK .i64 16 (fun _ => 0)) 39 ∧ Blk W10 p7_1 (arrK .i64 16 (l16 X2)) 39 ∧ Blk W10 p8_3 (arrK .i64 16 (l16 X4)) 39 ∧ Blk W10 p9_5 (arrK .i64 16 (l16 X8)) 39 ∧ Blk W10 p10_7 (arrK .i64 16 (l16 X10)) 39 := ⟨(below_step bel hE bel.size), (blk_step k_t2 hE), (blk_step k_t3 hE), (blk_step k_t4 hE), (blk_step k_t7 hE), (blk_step k_t8 hE), (blk_step k_t9 hE), (blk_step k_t10 hE)⟩
  clear bel k_t2 k_t3 k_t4 k_t7 k_t8 k_t9 k_t10
  obtain ⟨bel, k_t2, k_t3, k_t4, k_t7, k_t8, k_t9, k_t10⟩ := hF
  go_upto_region 10 with fail
  have lt_t10_10 := blk_lt k_t10
  refine wp_region_pn 1 [] (fun x hx => by cases hx) (by kernel_rfl) ?_
  simp only [List.take_succ_cons, List.take_zero, List.take_nil]
  (try simp only [Act.put, List.setIfInBounds_toArray, List.set_cons_zero, List.set_cons_succ])
  (refine wpX_val (v := ?_) (by rfl) (fun W hW => ?_) ?_; rotate_left 1; (focus (go_simp; first | done | with_reducible rfl)); (try simp only [Act.put, List.setIfInBounds_toArray, List.set_cons_zero, List.set_cons_succ]))
  refine wpX_nil ?_
  intro β W11 hE hN hD
  simp only [putAll, Act.put, List.setIfInBounds_toArray, List.set_cons_zero, List.set_cons_succ, List.drop_succ_cons, List.drop_zero, List.drop_nil, List.length_cons, List.length_nil]
  clear hN hD β
  refine wpL_store (g := (w.heap.size + 2)) (cells := arrK .i64 16 (l16 0)) (by rfl) rfl rfl rfl (blk_step k_t4 hE) (by kernel_rfl) (by kernel_rfl) (arrK_one _ _ _) ?_
  (try simp only [Act.put, List.setIfInBounds_toArray, List.set_cons_zero, List.set_cons_succ])
  (refine wpL_val (v := ?_) (by rfl) ?_ ?_; rotate_left 1; (focus (go_simp; first | done | with_reducible rfl)))
  (try simp only [Act.put, List.setIfInBounds_toArray, List.set_cons_zero, List.set_cons_succ])
  refine wpL_nil ?_
  have hF : Below w.heap.size w (W11.setRow (w.heap.size + 2) (arrK .i64 16 (l16 0))) ∧ Blk (W11.setRow (w.heap.size + 2) (arrK .i64 16 (l16 0))) w.heap.size (arrK .i64 16 (l16 A)) 39 ∧ Blk (W11.setRow (w.heap.size + 2) (arrK .i64 16 (l16 0))) (w.heap.size + 1) (arrK .i64 16 (l16 B)) 39 ∧ Blk (W11.setRow (w.heap.size + 2) (arrK .i64 16 (l16 0))) (w.heap.size + 2) (arrK .i64 16 (l16 0)) 39 ∧ Blk (W11.setRow (w.heap.size + 2) (arrK .i64 16 (l16 0))) p7_1 (arrK .i64 16 (l16 X2)) 39 ∧ Blk (W11.setRow (w.heap.size + 2) (arrK .i64 16 (l16 0))) p8_3 (arrK .i64 16 (l16 X4)) 39 ∧ Blk (W11.setRow (w.heap.size + 2) (arrK .i64 16 (l16 0))) p9_5 (arrK .i64 16 (l16 X8)) 39 ∧ Blk (W11.setRow (w.heap.size + 2) (arrK .i64 16 (l16 0))) p10_7 (arrK .i64 16 (l16 X10)) 39 := ⟨(below_setRow (below_step bel hE bel.size) (by omega) _), (blk_setRow_other (blk_step k_t2 hE) (by omega) _), (blk_setRow_other (blk_step k_t3 hE) (by omega) _), (blk_setRow (blk_step k_t4 hE) (arrK .i64 16 (l16 0))), (blk_setRow_other (blk_step k_t7 hE) (by omega) _), (blk_setRow_other (blk_step k_t8 hE) (by omega) _), (blk_setRow_other (blk_step k_t9 hE) (by omega) _), (blk_setRow_other (blk_step k_t10 hE) (by omega) _)⟩
  generalize (W11.setRow (w.heap.size + 2) (arrK .i64 16 (l16 0))) = W12 at hF ⊢
  clear bel k_t2 k_t3 k_t4 k_t7 k_t8 k_t9 k_t10
  obtain ⟨bel, k_t2, k_t3, k_t4, k_t7, k_t8, k_t9, k_t10⟩ := hF
  go_wp2
  refine bodyPost_ret (res_row2 rfl rfl rfl k_t4 (by kernel_rfl) (by kernel_rfl)) rfl ⟨?_, bel⟩
  rfl
theorem rRoot_c (A B : Nat) (hA : A < PP) (hB : B < P256) (w : World) : Calls Tryd.prog 41 #[A16 A, A16 B] w fun e w' => Ret (.tuple #[A16 (rtR A B), .bool (rtB A B)]) w w' e := by
  unfold rtR rtB
  rw [Nat.mod_eq_of_lt hA]
  by_cases h1 : rtW A B = A
  · rw [if_pos h1, decide_eq_true h1, Bool.true_or]; exact rRoot_1 A B hA hB h1 w
  · rw [if_neg h1, decide_eq_false h1, Bool.false_or]
    by_cases h2 : rtW A B = (PP - A) % PP
    · rw [if_pos h2, decide_eq_true h2]; exact rRoot_2 A B hA hB h1 h2 w
    · rw [if_neg h2, decide_eq_false h2]; exact rRoot_3 A B hA hB h1 h2 w
end Go.Proofs.YtghajiagbfcmdaaDoor
