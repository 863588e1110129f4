/- custumallaw05.FieldPowers. Conditions: the cells of the field's modulus hold it. -/
import Derived.Test.YtjikomnnhbbmaaaDoorFlA
import Derived.Test.YtjikomnnhbbmaaaDoorFp
namespace Go.Proofs.YtjikomnnhbbmaaaDoor
set_option linter.unusedSimpArgs false
set_option linter.unusedVariables false
open Go.RowKit

set_option maxHeartbeats 4000000 in
theorem fieldPowers_0 (A n : Nat) (hA : A < P256) (hn : n < P256) (h0 : A % PP = 0) (w : World) (hG : GF w) :
    Calls Tryd.prog 3 #[L4 A, L4 n] w fun e w' => Ret (.bool true) w w' e := by
  go_enter Tryd.func3, Tryd.ntmps3
  go_upto_region 1 with fail
  refine wp_world (fun W => Below w.heap.size w W ∧ Blk W w.heap.size (c4 A) 24 ∧ Blk W (w.heap.size + 1) (c4 n) 23) ⟨(by (repeat' (first | (with_reducible assumption) | (with_reducible exact Below.refl _ _) | (with_reducible refine Below.drew ?_) | (with_reducible refine Below.alloc ?_ ?_ _) | (with_reducible refine below_set ?_ ?_ _ _) | (with_reducible refine below_setRow ?_ ?_ _) | (with_reducible refine below_step ?_ (by assumption) ?_))) <;> (first | omega | ((try simp only [World.size_alloc, World.size_setCell, World.size_drew, size_setRow]); omega))), blk_alloc (blk_new _ _ rfl) _, blk_new _ _ (by simp)⟩ ?_
  rintro W0 ⟨bel, k_t2, k_t3⟩
  have lt_t2_0 := blk_lt k_t2
  have lt_t3_0 := blk_lt k_t3
  have gf := GF_ext hG bel
  have gm := gf.1
  have gi := gf.2
  have c_X1 := lOf_c A hA
  obtain ⟨X1, hX1⟩ : ∃ v_, v_ = A % PP := ⟨_, rfl⟩
  rw [← hX1] at c_X1
  have bX1 : X1 < P256 := by rw [hX1]; exact mod_256 _
  have HX1 := Lib.hid hX1
  clear hX1
  refine wp_region_pn 2 [⟨2, 5, arrK .i64 16 (fun _ => 0), 26⟩] ?_ (by kernel_rfl) ?_
  · intro x hx
    simp only [List.mem_cons, List.not_mem_nil, or_false] at hx
    subst hx; exact ⟨_, rfl, rfl, rfl, fun _ _ => by kernel_rfl⟩
  simp only [List.take_succ_cons, List.take_zero, List.take_nil]
  (try simp only [Act.put, List.setIfInBounds_toArray, List.set_cons_zero, List.set_cons_succ])
  ((with_reducible refine wpX_load (b := ?_) (cs := ?_) ?_ rfl ?_ ?_ ?_ ?_ ?_); rotate_left 2; (focus rfl); (focus rfl); (focus first | assumption | exact blk_rd (by assumption)); (focus kernel_rfl); (focus kernel_rfl); (try simp only [Act.put, List.setIfInBounds_toArray, List.set_cons_zero, List.set_cons_succ]))
  ((with_reducible refine wpX_fn (fun W hW => c_X1 W) ?_ rfl ?_ ?_ ?_); (focus rfl); (focus kernel_rfl); (focus rfl); (try simp only [Act.put, List.setIfInBounds_toArray, List.set_cons_zero, List.set_cons_succ]))
  refine wpX_nil ?_
  intro β W1 hE hN hD
  obtain ⟨n_t5_1, k_t5⟩ := hN _ (List.mem_cons_self ..)
  simp only [putAll, Act.put, List.setIfInBounds_toArray, List.set_cons_zero, List.set_cons_succ, List.drop_succ_cons, List.drop_zero, List.drop_nil, List.length_cons, List.length_nil] at n_t5_1 k_t5 ⊢
  generalize β 2 = p5_1 at *
  have sz_1 := bel.size
  clear hN hD β
  refine wpL_store (g := p5_1) (cells := arrK .i64 16 (l16 X1)) (by rfl) rfl rfl rfl k_t5 (by kernel_rfl) (by kernel_rfl) (arrK_one _ _ _) ?_
  (try simp only [Act.put, List.setIfInBounds_toArray, List.set_cons_zero, List.set_cons_succ])
  refine wpL_nil ?_
  have hF : Below w.heap.size w (W1.setRow p5_1 (arrK .i64 16 (l16 X1))) ∧ Blk (W1.setRow p5_1 (arrK .i64 16 (l16 X1))) w.heap.size (c4 A) 24 ∧ Blk (W1.setRow p5_1 (arrK .i64 16 (l16 X1))) (w.heap.size + 1) (c4 n) 23 ∧ Blk (W1.setRow p5_1 (arrK .i64 16 (l16 X1))) p5_1 (arrK .i64 16 (l16 X1)) 26 := ⟨(below_setRow (below_step bel hE bel.size) (by omega) _), (blk_setRow_other (blk_step k_t2 hE) (by omega) _), (blk_setRow_other (blk_step k_t3 hE) (by omega) _), (blk_setRow k_t5 (arrK .i64 16 (l16 X1)))⟩
  generalize (W1.setRow p5_1 (arrK .i64 16 (l16 X1))) = W2 at hF ⊢
  clear bel k_t2 k_t3 k_t5
  obtain ⟨bel, k_t2, k_t3, k_t5⟩ := hF
  go_upto_region 2 with fail
  have lt_t5_2 := blk_lt k_t5
  have gf := GF_ext hG bel
  have gm := gf.1
  have gi := gf.2
  have c_X2 := fInv_c A hA
  obtain ⟨X2, hX2⟩ : ∃ v_, v_ = pw A (PP - 2) := ⟨_, rfl⟩
  rw [← hX2] at c_X2
  have bX2 : X2 < P256 := by rw [hX2]; exact pw_lt _ _
  have HX2 := Lib.hid hX2
  clear hX2
  refine wp_region_pn 2 [⟨2, 6, #[.int .u64 0, .int .u64 0, .int .u64 0, .int .u64 0], 24⟩] ?_ (by kernel_rfl) ?_
  · intro x hx
    simp only [List.mem_cons, List.not_mem_nil, or_false] at hx
    subst hx; exact ⟨_, rfl, rfl, rfl, fun _ _ => by kernel_rfl⟩
  simp only [List.take_succ_cons, List.take_zero, List.take_nil]
  (try simp only [Act.put, List.setIfInBounds_toArray, List.set_cons_zero, List.set_cons_succ])
  ((with_reducible refine wpX_load (b := ?_) (cs := ?_) ?_ rfl ?_ ?_ ?_ ?_ ?_); rotate_left 2; (focus rfl); (focus rfl); (focus first | assumption | exact blk_rd (by assumption)); (focus kernel_rfl); (focus kernel_rfl); (try simp only [Act.put, List.setIfInBounds_toArray, List.set_cons_zero, List.set_cons_succ]))
  ((with_reducible refine wpX_fn (fun W hW => c_X2 W (GF_ext gf hW)) ?_ rfl ?_ ?_ ?_); (focus rfl); (focus kernel_rfl); (focus rfl); (try simp only [Act.put, List.setIfInBounds_toArray, List.set_cons_zero, List.set_cons_succ]))
  refine wpX_nil ?_
  intro β W3 hE hN hD
  obtain ⟨n_t6_3, k_t6⟩ := hN _ (List.mem_cons_self ..)
  simp only [putAll, Act.put, List.setIfInBounds_toArray, List.set_cons_zero, List.set_cons_succ, List.drop_succ_cons, List.drop_zero, List.drop_nil, List.length_cons, List.length_nil] at n_t6_3 k_t6 ⊢
  generalize β 2 = p6_3 at *
  have sz_3 := bel.size
  clear hN hD β
  refine wpL_store (g := p6_3) (cells := c4 X2) (by rfl) rfl rfl rfl k_t6 (by kernel_rfl) (by kernel_rfl) (by kernel_rfl) ?_
  (try simp only [Act.put, List.setIfInBounds_toArray, List.set_cons_zero, List.set_cons_succ])
  refine wpL_nil ?_
  have hF : Below w.heap.size w (W3.setRow p6_3 (c4 X2)) ∧ Blk (W3.setRow p6_3 (c4 X2)) w.heap.size (c4 A) 24 ∧ Blk (W3.setRow p6_3 (c4 X2)) (w.heap.size + 1) (c4 n) 23 ∧ Blk (W3.setRow p6_3 (c4 X2)) p5_1 (arrK .i64 16 (l16 X1)) 26 ∧ Blk (W3.setRow p6_3 (c4 X2)) p6_3 (c4 X2) 24 := ⟨(below_setRow (below_step bel hE bel.size) (by omega) _), (blk_setRow_other (blk_step k_t2 hE) (by omega) _), (blk_setRow_other (blk_step k_t3 hE) (by omega) _), (blk_setRow_other (blk_step k_t5 hE) (by omega) _), (blk_setRow k_t6 (c4 X2))⟩
  generalize (W3.setRow p6_3 (c4 X2)) = W4 at hF ⊢
  clear bel k_t2 k_t3 k_t5 k_t6
  obtain ⟨bel, k_t2, k_t3, k_t5, k_t6⟩ := hF
  go_upto_region 3 with fail
  have lt_t6_4 := blk_lt k_t6
  have gf := GF_ext hG bel
  have gm := gf.1
  have gi := gf.2
  refine wp_region_pn 1 [⟨1, 7, #[.int .u64 0, .int .u64 0, .int .u64 0, .int .u64 0], 24⟩] ?_ (by kernel_rfl) ?_
  · intro x hx
    simp only [List.mem_cons, List.not_mem_nil, or_false] at hx
    subst hx; exact ⟨_, rfl, rfl, rfl, fun _ _ => by kernel_rfl⟩
  simp only [List.take_succ_cons, List.take_zero, List.take_nil]
  (try simp only [Act.put, List.setIfInBounds_toArray, List.set_cons_zero, List.set_cons_succ])
  (refine wpX_val (v := ?_) (by rfl) (fun W hW => ?_) ?_; rotate_left 1; (focus (go_simp; first | done | with_reducible rfl)); (try simp only [Act.put, List.setIfInBounds_toArray, List.set_cons_zero, List.set_cons_succ]))
  refine wpX_nil ?_
  intro β W5 hE hN hD
  obtain ⟨n_t7_5, k_t7⟩ := hN _ (List.mem_cons_self ..)
  simp only [putAll, Act.put, List.setIfInBounds_toArray, List.set_cons_zero, List.set_cons_succ, List.drop_succ_cons, List.drop_zero, List.drop_nil, List.length_cons, List.length_nil] at n_t7_5 k_t7 ⊢
  generalize β 1 = p7_5 at *
  have sz_5 := bel.size
  clear hN hD β
  refine wpL_store (g := p7_5) (cells := c4 1) (by rfl) rfl rfl rfl k_t7 (by kernel_rfl) (by kernel_rfl) (by kernel_rfl) ?_
  (try simp only [Act.put, List.setIfInBounds_toArray, List.set_cons_zero, List.set_cons_succ])
  refine wpL_nil ?_
  have hF : Below w.heap.size w (W5.setRow p7_5 (c4 1)) ∧ Blk (W5.setRow p7_5 (c4 1)) w.heap.size (c4 A) 24 ∧ Blk (W5.setRow p7_5 (c4 1)) (w.heap.size + 1) (c4 n) 23 ∧ Blk (W5.setRow p7_5 (c4 1)) p5_1 (arrK .i64 16 (l16 X1)) 26 ∧ Blk (W5.setRow p7_5 (c4 1)) p6_3 (c4 X2) 24 ∧ Blk (W5.setRow p7_5 (c4 1)) p7_5 (c4 1) 24 := ⟨(below_setRow (below_step bel hE bel.size) (by omega) _), (blk_setRow_other (blk_step k_t2 hE) (by omega) _), (blk_setRow_other (blk_step k_t3 hE) (by omega) _), (blk_setRow_other (blk_step k_t5 hE) (by omega) _), (blk_setRow_other (blk_step k_t6 hE) (by omega) _), (blk_setRow k_t7 (c4 1))⟩
  generalize (W5.setRow p7_5 (c4 1)) = W6 at hF ⊢
  clear bel k_t2 k_t3 k_t5 k_t6 k_t7
  obtain ⟨bel, k_t2, k_t3, k_t5, k_t6, k_t7⟩ := hF
  go_upto_region 4 with fail
  have lt_t7_6 := blk_lt k_t7
  have gf := GF_ext hG bel
  have gm := gf.1
  have gi := gf.2
  have e_z := eq16 X1 0 bX1 (by decide)
  rw [decide_eq_true (show X1 = 0 by rw [HX1.out]; exact h0)] at e_z
  refine wp_region_pn 3 [] (fun x hx => by cases hx) (by kernel_rfl) ?_
  simp only [List.take_succ_cons, List.take_zero, List.take_nil]
  (try simp only [Act.put, List.setIfInBounds_toArray, List.set_cons_zero, List.set_cons_succ])
  ((with_reducible refine wpX_load (b := ?_) (cs := ?_) ?_ rfl ?_ ?_ ?_ ?_ ?_); rotate_left 2; (focus rfl); (focus rfl); (focus first | assumption | exact blk_rd (by assumption)); (focus kernel_rfl); (focus kernel_rfl); (try simp only [Act.put, List.setIfInBounds_toArray, List.set_cons_zero, List.set_cons_succ]))
  (refine wpX_val (v := ?_) (by rfl) (fun W hW => ?_) ?_; rotate_left 1; (focus (go_simp; first | done | with_reducible rfl)); (try simp only [Act.put, List.setIfInBounds_toArray, List.set_cons_zero, List.set_cons_succ]))
  ((with_reducible refine wpX_eqlA (e_z) ?_ ?_ rfl ?_ ?_ ?_); (focus kernel_rfl); (focus rfl); (focus rfl); (focus rfl); (try simp only [Act.put, List.setIfInBounds_toArray, List.set_cons_zero, List.set_cons_succ]))
  refine wpX_nil ?_
  intro β W7 hE hN hD
  simp only [putAll, Act.put, List.setIfInBounds_toArray, List.set_cons_zero, List.set_cons_succ, List.drop_succ_cons, List.drop_zero, List.drop_nil, List.length_cons, List.length_nil]
  clear hN hD β
  refine wpL_nil ?_
  have hF : Below w.heap.size w W7 ∧ Blk W7 w.heap.size (c4 A) 24 ∧ Blk W7 (w.heap.size + 1) (c4 n) 23 ∧ Blk W7 p5_1 (arrK .i64 16 (l16 X1)) 26 ∧ Blk W7 p6_3 (c4 X2) 24 ∧ Blk W7 p7_5 (c4 1) 24 := ⟨(below_step bel hE bel.size), (blk_step k_t2 hE), (blk_step k_t3 hE), (blk_step k_t5 hE), (blk_step k_t6 hE), (blk_step k_t7 hE)⟩
  clear bel k_t2 k_t3 k_t5 k_t6 k_t7
  obtain ⟨bel, k_t2, k_t3, k_t5, k_t6, k_t7⟩ := hF
  go_upto_region 5 with fail
  have lt_t7_7 := blk_lt k_t7
  have gf := GF_ext hG bel
  have gm := gf.1
  have gi := gf.2
  refine wp_region_pn 1 [] (fun x hx => by cases hx) (by kernel_rfl) ?_
  simp only [List.take_succ_cons, List.take_zero, List.take_nil]
  (try simp only [Act.put, List.setIfInBounds_toArray, List.set_cons_zero, List.set_cons_succ])
  (refine wpX_val (v := ?_) (by rfl) (fun W hW => ?_) ?_; rotate_left 1; (focus (go_simp; first | done | with_reducible rfl)); (try simp only [Act.put, List.setIfInBounds_toArray, List.set_cons_zero, List.set_cons_succ]))
  refine wpX_nil ?_
  intro β W8 hE hN hD
  simp only [putAll, Act.put, List.setIfInBounds_toArray, List.set_cons_zero, List.set_cons_succ, List.drop_succ_cons, List.drop_zero, List.drop_nil, List.length_cons, List.length_nil]
  clear hN hD β
  refine wpL_store (g := p7_5) (cells := c4 0) (by rfl) rfl rfl rfl (blk_step k_t7 hE) (by kernel_rfl) (by kernel_rfl) (by kernel_rfl) ?_
  (try simp only [Act.put, List.setIfInBounds_toArray, List.set_cons_zero, List.set_cons_succ])
  refine wpL_nil ?_
  have hF : Below w.heap.size w (W8.setRow p7_5 (c4 0)) ∧ Blk (W8.setRow p7_5 (c4 0)) w.heap.size (c4 A) 24 ∧ Blk (W8.setRow p7_5 (c4 0)) (w.heap.size + 1) (c4 n) 23 ∧ Blk (W8.setRow p7_5 (c4 0)) p5_1 (arrK .i64 16 (l16 X1)) 26 ∧ Blk (W8.setRow p7_5 (c4 0)) p6_3 (c4 X2) 24 ∧ Blk (W8.setRow p7_5 (c4 0)) p7_5 (c4 0) 24 := ⟨(below_setRow (below_step bel hE bel.size) (by omega) _), (blk_setRow_other (blk_step k_t2 hE) (by omega) _), (blk_setRow_other (blk_step k_t3 hE) (by omega) _), (blk_setRow_other (blk_step k_t5 hE) (by omega) _), (blk_setRow_other (blk_step k_t6 hE) (by omega) _), (blk_setRow (blk_step k_t7 hE) (c4 0))⟩
  generalize (W8.setRow p7_5 (c4 0)) = W9 at hF ⊢
  clear bel k_t2 k_t3 k_t5 k_t6 k_t7
  obtain ⟨bel, k_t2, k_t3, k_t5, k_t6, k_t7⟩ := hF
  go_upto_region 6 with fail
  have lt_t7_9 := blk_lt k_t7
  have gf := GF_ext hG bel
  have gm := gf.1
  have gi := gf.2
  have c_X3 := fPow_c A n hA hn
  obtain ⟨X3, hX3⟩ : ∃ v_, v_ = pw A n := ⟨_, rfl⟩
  rw [← hX3] at c_X3
  have bX3 : X3 < P256 := by rw [hX3]; exact pw_lt _ _
  have HX3 := Lib.hid hX3
  clear hX3
  have c_X4 := rPow_c X1 n bX1 hn
  obtain ⟨X4, hX4⟩ : ∃ v_, v_ = pw X1 n := ⟨_, rfl⟩
  rw [← hX4] at c_X4
  have bX4 : X4 < P256 := by rw [hX4]; exact pw_lt _ _
  have HX4 := Lib.hid hX4
  clear hX4
  have e_0 : X3 = X4 := by rw [HX3.out, HX4.out, HX1.out]; exact Nat.pow_mod A n PP
  have c_s5 := lSame_c X3 X4 bX3 bX4
  rw [decide_eq_true e_0] at c_s5
  clear e_0
  have c_X6 := rInv_c X1 bX1
  obtain ⟨X6, hX6⟩ : ∃ v_, v_ = pw X1 (PP - 2) := ⟨_, rfl⟩
  rw [← hX6] at c_X6
  have bX6 : X6 < P256 := by rw [hX6]; exact pw_lt _ _
  have HX6 := Lib.hid hX6
  clear hX6
  have e_1 : X2 = X6 := by rw [HX2.out, HX6.out, HX1.out]; exact Nat.pow_mod A (PP - 2) PP
  have c_s7 := lSame_c X2 X6 bX2 bX6
  rw [decide_eq_true e_1] at c_s7
  clear e_1
  have c_X8 := fMul_c A X2 hA bX2
  obtain ⟨X8, hX8⟩ : ∃ v_, v_ = A * X2 % PP := ⟨_, rfl⟩
  rw [← hX8] at c_X8
  have bX8 : X8 < P256 := by rw [hX8]; exact mod_256 _
  have HX8 := Lib.hid hX8
  clear hX8
  have e_o := eqEl X8 0 bX8 (by decide)
  rw [decide_eq_true (show X8 = 0 by rw [HX8.out, HX2.out, law_inv, if_pos h0])] at e_o
  refine wp_region_xn 24 [] (by kernel_rfl) (fun x hx => by cases hx) (by kernel_rfl) ?_
  simp only [List.take_succ_cons, List.take_zero, List.take_nil]
  (try simp only [Act.put, List.setIfInBounds_toArray, List.set_cons_zero, List.set_cons_succ])
  ((with_reducible refine wpX_fn (fun W hW => halves_c W (GF_ext gf hW)) ?_ rfl ?_ ?_ ?_); (focus rfl); (focus kernel_rfl); (focus rfl); (try simp only [Act.put, List.setIfInBounds_toArray, List.set_cons_zero, List.set_cons_succ]))
  (refine wpX_val (v := ?_) (by rfl) (fun W hW => ?_) ?_; rotate_left 1; (focus (go_simp; first | done | with_reducible rfl)); (try simp only [Act.put, List.setIfInBounds_toArray, List.set_cons_zero, List.set_cons_succ]))
  ((with_reducible refine wpX_load (b := ?_) (cs := ?_) ?_ rfl ?_ ?_ ?_ ?_ ?_); rotate_left 2; (focus rfl); (focus rfl); (focus first | assumption | exact blk_rd (by assumption)); (focus kernel_rfl); (focus kernel_rfl); (try simp only [Act.put, List.setIfInBounds_toArray, List.set_cons_zero, List.set_cons_succ]))
  ((with_reducible refine wpX_load (b := ?_) (cs := ?_) ?_ rfl ?_ ?_ ?_ ?_ ?_); rotate_left 2; (focus rfl); (focus rfl); (focus first | assumption | exact blk_rd (by assumption)); (focus kernel_rfl); (focus kernel_rfl); (try simp only [Act.put, List.setIfInBounds_toArray, List.set_cons_zero, List.set_cons_succ]))
  ((with_reducible refine wpX_fn (fun W hW => c_X3 W (GF_ext gf hW)) ?_ rfl ?_ ?_ ?_); (focus rfl); (focus kernel_rfl); (focus rfl); (try simp only [Act.put, List.setIfInBounds_toArray, List.set_cons_zero, List.set_cons_succ]))
  ((with_reducible refine wpX_load (b := ?_) (cs := ?_) ?_ rfl ?_ ?_ ?_ ?_ ?_); rotate_left 2; (focus rfl); (focus rfl); (focus first | assumption | exact blk_rd (by assumption)); (focus kernel_rfl); (focus kernel_rfl); (try simp only [Act.put, List.setIfInBounds_toArray, List.set_cons_zero, List.set_cons_succ]))
  ((with_reducible refine wpX_load (b := ?_) (cs := ?_) ?_ rfl ?_ ?_ ?_ ?_ ?_); rotate_left 2; (focus rfl); (focus rfl); (focus first | assumption | exact blk_rd (by assumption)); (focus kernel_rfl); (focus kernel_rfl); (try simp only [Act.put, List.setIfInBounds_toArray, List.set_cons_zero, List.set_cons_succ]))
  ((with_reducible refine wpX_fn (fun W hW => c_X4 W) ?_ rfl ?_ ?_ ?_); (focus rfl); (focus kernel_rfl); (focus rfl); (try simp only [Act.put, List.setIfInBounds_toArray, List.set_cons_zero, List.set_cons_succ]))
  ((with_reducible refine wpX_fn (fun W hW => c_s5 W) ?_ rfl ?_ ?_ ?_); (focus rfl); (focus kernel_rfl); (focus rfl); (try simp only [Act.put, List.setIfInBounds_toArray, List.set_cons_zero, List.set_cons_succ]))
  (refine wpX_val (v := ?_) (by rfl) (fun W hW => ?_) ?_; rotate_left 1; (focus (go_simp; first | done | with_reducible rfl)); (try simp only [Act.put, List.setIfInBounds_toArray, List.set_cons_zero, List.set_cons_succ]))
  (refine wpX_val (v := ?_) (by rfl) (fun W hW => ?_) ?_; rotate_left 1; (focus (go_simp; first | done | with_reducible rfl)); (try simp only [Act.put, List.setIfInBounds_toArray, List.set_cons_zero, List.set_cons_succ]))
  ((with_reducible refine wpX_load (b := ?_) (cs := ?_) ?_ rfl ?_ ?_ ?_ ?_ ?_); rotate_left 2; (focus rfl); (focus rfl); (focus first | assumption | exact blk_rd (by assumption)); (focus kernel_rfl); (focus kernel_rfl); (try simp only [Act.put, List.setIfInBounds_toArray, List.set_cons_zero, List.set_cons_succ]))
  ((with_reducible refine wpX_load (b := ?_) (cs := ?_) ?_ rfl ?_ ?_ ?_ ?_ ?_); rotate_left 2; (focus rfl); (focus rfl); (focus first | assumption | exact blk_rd (by assumption)); (focus kernel_rfl); (focus kernel_rfl); (try simp only [Act.put, List.setIfInBounds_toArray, List.set_cons_zero, List.set_cons_succ]))
  ((with_reducible refine wpX_fn (fun W hW => c_X6 W) ?_ rfl ?_ ?_ ?_); (focus rfl); (focus kernel_rfl); (focus rfl); (try simp only [Act.put, List.setIfInBounds_toArray, List.set_cons_zero, List.set_cons_succ]))
  ((with_reducible refine wpX_fn (fun W hW => c_s7 W) ?_ rfl ?_ ?_ ?_); (focus rfl); (focus kernel_rfl); (focus rfl); (try simp only [Act.put, List.setIfInBounds_toArray, List.set_cons_zero, List.set_cons_succ]))
  (refine wpX_val (v := ?_) (by rfl) (fun W hW => ?_) ?_; rotate_left 1; (focus (go_simp; first | done | with_reducible rfl)); (try simp only [Act.put, List.setIfInBounds_toArray, List.set_cons_zero, List.set_cons_succ]))
  (refine wpX_val (v := ?_) (by rfl) (fun W hW => ?_) ?_; rotate_left 1; (focus (go_simp; first | done | with_reducible rfl)); (try simp only [Act.put, List.setIfInBounds_toArray, List.set_cons_zero, List.set_cons_succ]))
  ((with_reducible refine wpX_load (b := ?_) (cs := ?_) ?_ rfl ?_ ?_ ?_ ?_ ?_); rotate_left 2; (focus rfl); (focus rfl); (focus first | assumption | exact blk_rd (by assumption)); (focus kernel_rfl); (focus kernel_rfl); (try simp only [Act.put, List.setIfInBounds_toArray, List.set_cons_zero, List.set_cons_succ]))
  ((with_reducible refine wpX_load (b := ?_) (cs := ?_) ?_ rfl ?_ ?_ ?_ ?_ ?_); rotate_left 2; (focus rfl); (focus rfl); (focus first | assumption | exact blk_rd (by assumption)); (focus kernel_rfl); (focus kernel_rfl); (try simp only [Act.put, List.setIfInBounds_toArray, List.set_cons_zero, List.set_cons_succ]))
  ((with_reducible refine wpX_fn (fun W hW => c_X8 W (GF_ext gf hW)) ?_ rfl ?_ ?_ ?_); (focus rfl); (focus kernel_rfl); (focus rfl); (try simp only [Act.put, List.setIfInBounds_toArray, List.set_cons_zero, List.set_cons_succ]))
  ((with_reducible refine wpX_load (b := ?_) (cs := ?_) ?_ rfl ?_ ?_ ?_ ?_ ?_); rotate_left 2; (focus rfl); (focus rfl); (focus first | assumption | exact blk_rd (by assumption)); (focus kernel_rfl); (focus kernel_rfl); (try simp only [Act.put, List.setIfInBounds_toArray, List.set_cons_zero, List.set_cons_succ]))
  ((with_reducible refine wpX_eqlA (e_o) ?_ ?_ rfl ?_ ?_ ?_); (focus kernel_rfl); (focus rfl); (focus rfl); (focus rfl); (try simp only [Act.put, List.setIfInBounds_toArray, List.set_cons_zero, List.set_cons_succ]))
  (refine wpX_val (v := ?_) (by rfl) (fun W hW => ?_) ?_; rotate_left 1; (focus (go_simp; first | done | with_reducible rfl)); (try simp only [Act.put, List.setIfInBounds_toArray, List.set_cons_zero, List.set_cons_succ]))
  (refine wpX_val (v := ?_) (by rfl) (fun W hW => ?_) ?_; rotate_left 1; (focus (go_simp; first | done | with_reducible rfl)); (try simp only [Act.put, List.setIfInBounds_toArray, List.set_cons_zero, List.set_cons_succ]))
  refine wpX_nil ?_
  intro β W10 hE hN hD
  simp only [putAll, Act.put, List.setIfInBounds_toArray, List.set_cons_zero, List.set_cons_succ, List.drop_succ_cons, List.drop_zero, List.drop_nil, List.length_cons, List.length_nil]
  clear hN hD β
  refine wpL_nil ?_
  refine NoPanic.normal (Q := Exit.then _ _) ?_
  have hF : Below w.heap.size w W10 ∧ Blk W10 w.heap.size (c4 A) 24 ∧ Blk W10 (w.heap.size + 1) (c4 n) 23 ∧ Blk W10 p5_1 (arrK .i64 16 (l16 X1)) 26 ∧ Blk W10 p6_3 (c4 X2) 24 ∧ Blk W10 p7_5 (c4 0) 24 := ⟨(below_step bel hE bel.size), (blk_step k_t2 hE), (blk_step k_t3 hE), (blk_step k_t5 hE), (blk_step k_t6 hE), (blk_step k_t7 hE)⟩
  clear bel k_t2 k_t3 k_t5 k_t6 k_t7
  obtain ⟨bel, k_t2, k_t3, k_t5, k_t6, k_t7⟩ := hF
  go_wp2
  refine bodyPost_ret (v := .bool true) (by simp only [results, Tryd.results3]; go_simp) rfl ⟨?_, bel⟩
  rfl
set_option maxHeartbeats 4000000 in
theorem fieldPowers_1 (A n : Nat) (hA : A < P256) (hn : n < P256) (h0 : ¬ A % PP = 0) (w : World) (hG : GF w) :
    Calls Tryd.prog 3 #[L4 A, L4 n] w fun e w' => Ret (.bool true) w w' e := by
  go_enter Tryd.func3, Tryd.ntmps3
  go_upto_region 1 with fail
  refine wp_world (fun W => Below w.heap.size w W ∧ Blk W w.heap.size (c4 A) 24 ∧ Blk W (w.heap.size + 1) (c4 n) 23) ⟨(by (repeat' (first | (with_reducible assumption) | (with_reducible exact Below.refl _ _) | (with_reducible refine Below.drew ?_) | (with_reducible refine Below.alloc ?_ ?_ _) | (with_reducible refine below_set ?_ ?_ _ _) | (with_reducible refine below_setRow ?_ ?_ _) | (with_reducible refine below_step ?_ (by assumption) ?_))) <;> (first | omega | ((try simp only [World.size_alloc, World.size_setCell, World.size_drew, size_setRow]); omega))), blk_alloc (blk_new _ _ rfl) _, blk_new _ _ (by simp)⟩ ?_
  rintro W0 ⟨bel, k_t2, k_t3⟩
  have lt_t2_0 := blk_lt k_t2
  have lt_t3_0 := blk_lt k_t3
  have gf := GF_ext hG bel
  have gm := gf.1
  have gi := gf.2
  have c_X1 := lOf_c A hA
  obtain ⟨X1, hX1⟩ : ∃ v_, v_ = A % PP := ⟨_, rfl⟩
  rw [← hX1] at c_X1
  have bX1 : X1 < P256 := by rw [hX1]; exact mod_256 _
  have HX1 := Lib.hid hX1
  clear hX1
  refine wp_region_pn 2 [⟨2, 5, arrK .i64 16 (fun _ => 0), 26⟩] ?_ (by kernel_rfl) ?_
  · intro x hx
    simp only [List.mem_cons, List.not_mem_nil, or_false] at hx
    subst hx; exact ⟨_, rfl, rfl, rfl, fun _ _ => by kernel_rfl⟩
  simp only [List.take_succ_cons, List.take_zero, List.take_nil]
  (try simp only [Act.put, List.setIfInBounds_toArray, List.set_cons_zero, List.set_cons_succ])
  ((with_reducible refine wpX_load (b := ?_) (cs := ?_) ?_ rfl ?_ ?_ ?_ ?_ ?_); rotate_left 2; (focus rfl); (focus rfl); (focus first | assumption | exact blk_rd (by assumption)); (focus kernel_rfl); (focus kernel_rfl); (try simp only [Act.put, List.setIfInBounds_toArray, List.set_cons_zero, List.set_cons_succ]))
  ((with_reducible refine wpX_fn (fun W hW => c_X1 W) ?_ rfl ?_ ?_ ?_); (focus rfl); (focus kernel_rfl); (focus rfl); (try simp only [Act.put, List.setIfInBounds_toArray, List.set_cons_zero, List.set_cons_succ]))
  refine wpX_nil ?_
  intro β W1 hE hN hD
  obtain ⟨n_t5_1, k_t5⟩ := hN _ (List.mem_cons_self ..)
  simp only [putAll, Act.put, List.setIfInBounds_toArray, List.set_cons_zero, List.set_cons_succ, List.drop_succ_cons, List.drop_zero, List.drop_nil, List.length_cons, List.length_nil] at n_t5_1 k_t5 ⊢
  generalize β 2 = p5_1 at *
  have sz_1 := bel.size
  clear hN hD β
  refine wpL_store (g := p5_1) (cells := arrK .i64 16 (l16 X1)) (by rfl) rfl rfl rfl k_t5 (by kernel_rfl) (by kernel_rfl) (arrK_one _ _ _) ?_
  (try simp only [Act.put, List.setIfInBounds_toArray, List.set_cons_zero, List.set_cons_succ])
  refine wpL_nil ?_
  have hF : Below w.heap.size w (W1.setRow p5_1 (arrK .i64 16 (l16 X1))) ∧ Blk (W1.setRow p5_1 (arrK .i64 16 (l16 X1))) w.heap.size (c4 A) 24 ∧ Blk (W1.setRow p5_1 (arrK .i64 16 (l16 X1))) (w.heap.size + 1) (c4 n) 23 ∧ Blk (W1.setRow p5_1 (arrK .i64 16 (l16 X1))) p5_1 (arrK .i64 16 (l16 X1)) 26 := ⟨(below_setRow (below_step bel hE bel.size) (by omega) _), (blk_setRow_other (blk_step k_t2 hE) (by omega) _), (blk_setRow_other (blk_step k_t3 hE) (by omega) _), (blk_setRow k_t5 (arrK .i64 16 (l16 X1)))⟩
  generalize (W1.setRow p5_1 (arrK .i64 16 (l16 X1))) = W2 at hF ⊢
  clear bel k_t2 k_t3 k_t5
  obtain ⟨bel, k_t2, k_t3, k_t5⟩ := hF
  go_upto_region 2 with fail
  have lt_t5_2 := blk_lt k_t5
  have gf := GF_ext hG bel
  have gm := gf.1
  have gi := gf.2
  have c_X2 := fInv_c A hA
  obtain ⟨X2, hX2⟩ : ∃ v_, v_ = pw A (PP - 2) := ⟨_, rfl⟩
  rw [← hX2] at c_X2
  have bX2 : X2 < P256 := by rw [hX2]; exact pw_lt _ _
  have HX2 := Lib.hid hX2
  clear hX2
  refine wp_region_pn 2 [⟨2, 6, #[.int .u64 0, .int .u64 0, .int .u64 0, .int .u64 0], 24⟩] ?_ (by kernel_rfl) ?_
  · intro x hx
    simp only [List.mem_cons, List.not_mem_nil, or_false] at hx
    subst hx; exact ⟨_, rfl, rfl, rfl, fun _ _ => by kernel_rfl⟩
  simp only [List.take_succ_cons, List.take_zero, List.take_nil]
  (try simp only [Act.put, List.setIfInBounds_toArray, List.set_cons_zero, List.set_cons_succ])
  ((with_reducible refine wpX_load (b := ?_) (cs := ?_) ?_ rfl ?_ ?_ ?_ ?_ ?_); rotate_left 2; (focus rfl); (focus rfl); (focus first | assumption | exact blk_rd (by assumption)); (focus kernel_rfl); (focus kernel_rfl); (try simp only [Act.put, List.setIfInBounds_toArray, List.set_cons_zero, List.set_cons_succ]))
  ((with_reducible refine wpX_fn (fun W hW => c_X2 W (GF_ext gf hW)) ?_ rfl ?_ ?_ ?_); (focus rfl); (focus kernel_rfl); (focus rfl); (try simp only [Act.put, List.setIfInBounds_toArray, List.set_cons_zero, List.set_cons_succ]))
  refine wpX_nil ?_
  intro β W3 hE hN hD
  obtain ⟨n_t6_3, k_t6⟩ := hN _ (List.mem_cons_self ..)
  simp only [putAll, Act.put, List.setIfInBounds_toArray, List.set_cons_zero, List.set_cons_succ, List.drop_succ_cons, List.drop_zero, List.drop_nil, List.length_cons, List.length_nil] at n_t6_3 k_t6 ⊢
  generalize β 2 = p6_3 at *
  have sz_3 := bel.size
  clear hN hD β
  refine wpL_store (g := p6_3) (cells := c4 X2) (by rfl) rfl rfl rfl k_t6 (by kernel_rfl) (by kernel_rfl) (by kernel_rfl) ?_
  (try simp only [Act.put, List.setIfInBounds_toArray, List.set_cons_zero, List.set_cons_succ])
  refine wpL_nil ?_
  have hF : Below w.heap.size w (W3.setRow p6_3 (c4 X2)) ∧ Blk (W3.setRow p6_3 (c4 X2)) w.heap.size (c4 A) 24 ∧ Blk (W3.setRow p6_3 (c4 X2)) (w.heap.size + 1) (c4 n) 23 ∧ Blk (W3.setRow p6_3 (c4 X2)) p5_1 (arrK .i64 16 (l16 X1)) 26 ∧ Blk (W3.setRow p6_3 (c4 X2)) p6_3 (c4 X2) 24 := ⟨(below_setRow (below_step bel hE bel.size) (by omega) _), (blk_setRow_other (blk_step k_t2 hE) (by omega) _), (blk_setRow_other (blk_step k_t3 hE) (by omega) _), (blk_setRow_other (blk_step k_t5 hE) (by omega) _), (blk_setRow k_t6 (c4 X2))⟩
  generalize (W3.setRow p6_3 (c4 X2)) = W4 at hF ⊢
  clear bel k_t2 k_t3 k_t5 k_t6
  obtain ⟨bel, k_t2, k_t3, k_t5, k_t6⟩ := hF
  go_upto_region 3 with fail
  have lt_t6_4 := blk_lt k_t6
  have gf := GF_ext hG bel
  have gm := gf.1
  have gi := gf.2
  refine wp_region_pn 1 [⟨1, 7, #[.int .u64 0, .int .u64 0, .int .u64 0, .int .u64 0], 24⟩] ?_ (by kernel_rfl) ?_
  · intro x hx
    simp only [List.mem_cons, List.not_mem_nil, or_false] at hx
    subst hx; exact ⟨_, rfl, rfl, rfl, fun _ _ => by kernel_rfl⟩
  simp only [List.take_succ_cons, List.take_zero, List.take_nil]
  (try simp only [Act.put, List.setIfInBounds_toArray, List.set_cons_zero, List.set_cons_succ])
  (refine wpX_val (v := ?_) (by rfl) (fun W hW => ?_) ?_; rotate_left 1; (focus (go_simp; first | done | with_reducible rfl)); (try simp only [Act.put, List.setIfInBounds_toArray, List.set_cons_zero, List.set_cons_succ]))
  refine wpX_nil ?_
  intro β W5 hE hN hD
  obtain ⟨n_t7_5, k_t7⟩ := hN _ (List.mem_cons_self ..)
  simp only [putAll, Act.put, List.setIfInBounds_toArray, List.set_cons_zero, List.set_cons_succ, List.drop_succ_cons, List.drop_zero, List.drop_nil, List.length_cons, List.length_nil] at n_t7_5 k_t7 ⊢
  generalize β 1 = p7_5 at *
  have sz_5 := bel.size
  clear hN hD β
  refine wpL_store (g := p7_5) (cells := c4 1) (by rfl) rfl rfl rfl k_t7 (by kernel_rfl) (by kernel_rfl) (by kernel_rfl) ?_
  (try simp only [Act.put, List.setIfInBounds_toArray, List.set_cons_zero, List.set_cons_succ])
  refine wpL_nil ?_
  have hF : Below w.heap.size w (W5.setRow p7_5 (c4 1)) ∧ Blk (W5.setRow p7_5 (c4 1)) w.heap.size (c4 A) 24 ∧ Blk (W5.setRow p7_5 (c4 1)) (w.heap.size + 1) (c4 n) 23 ∧ Blk (W5.setRow p7_5 (c4 1)) p5_1 (arrK .i64 16 (l16 X1)) 26 ∧ Blk (W5.setRow p7_5 (c4 1)) p6_3 (c4 X2) 24 ∧ Blk (W5.setRow p7_5 (c4 1)) p7_5 (c4 1) 24 := ⟨(below_setRow (below_step bel hE bel.size) (by omega) _), (blk_setRow_other (blk_step k_t2 hE) (by omega) _), (blk_setRow_other (blk_step k_t3 hE) (by omega) _), (blk_setRow_other (blk_step k_t5 hE) (by omega) _), (blk_setRow_other (blk_step k_t6 hE) (by omega) _), (blk_setRow k_t7 (c4 1))⟩
  generalize (W5.setRow p7_5 (c4 1)) = W6 at hF ⊢
  clear bel k_t2 k_t3 k_t5 k_t6 k_t7
  obtain ⟨bel, k_t2, k_t3, k_t5, k_t6, k_t7⟩ := hF
  go_upto_region 4 with fail
  have lt_t7_6 := blk_lt k_t7
  have gf := GF_ext hG bel
  have gm := gf.1
  have gi := gf.2
  have e_z := eq16 X1 0 bX1 (by decide)
  rw [decide_eq_false (show ¬ X1 = 0 by rw [HX1.out]; exact h0)] at e_z
  refine wp_region_pn 3 [] (fun x hx => by cases hx) (by kernel_rfl) ?_
  simp only [List.take_succ_cons, List.take_zero, List.take_nil]
  (try simp only [Act.put, List.setIfInBounds_toArray, List.set_cons_zero, List.set_cons_succ])
  ((with_reducible refine wpX_load (b := ?_) (cs := ?_) ?_ rfl ?_ ?_ ?_ ?_ ?_); rotate_left 2; (focus rfl); (focus rfl); (focus first | assumption | exact blk_rd (by assumption)); (focus kernel_rfl); (focus kernel_rfl); (try simp only [Act.put, List.setIfInBounds_toArray, List.set_cons_zero, List.set_cons_succ]))
  (refine wpX_val (v := ?_) (by rfl) (fun W hW => ?_) ?_; rotate_left 1; (focus (go_simp; first | done | with_reducible rfl)); (try simp only [Act.put, List.setIfInBounds_toArray, List.set_cons_zero, List.set_cons_succ]))
  ((with_reducible refine wpX_eqlA (e_z) ?_ ?_ rfl ?_ ?_ ?_); (focus kernel_rfl); (focus rfl); (focus rfl); (focus rfl); (try simp only [Act.put, List.setIfInBounds_toArray, List.set_cons_zero, List.set_cons_succ]))
  refine wpX_nil ?_
  intro β W7 hE hN hD
  simp only [putAll, Act.put, List.setIfInBounds_toArray, List.set_cons_zero, List.set_cons_succ, List.drop_succ_cons, List.drop_zero, List.drop_nil, List.length_cons, List.length_nil]
  clear hN hD β
  refine wpL_nil ?_
  have hF : Below w.heap.size w W7 ∧ Blk W7 w.heap.size (c4 A) 24 ∧ Blk W7 (w.heap.size + 1) (c4 n) 23 ∧ Blk W7 p5_1 (arrK .i64 16 (l16 X1)) 26 ∧ Blk W7 p6_3 (c4 X2) 24 ∧ Blk W7 p7_5 (c4 1) 24 := ⟨(below_step bel hE bel.size), (blk_step k_t2 hE), (blk_step k_t3 hE), (blk_step k_t5 hE), (blk_step k_t6 hE), (blk_step k_t7 hE)⟩
  clear bel k_t2 k_t3 k_t5 k_t6 k_t7
  obtain ⟨bel, k_t2, k_t3, k_t5, k_t6, k_t7⟩ := hF
  go_upto_region 6 with fail
  have lt_t7_7 := blk_lt k_t7
  have gf := GF_ext hG bel
  have gm := gf.1
  have gi := gf.2
  have c_X3 := fPow_c A n hA hn
  obtain ⟨X3, hX3⟩ : ∃ v_, v_ = pw A n := ⟨_, rfl⟩
  rw [← hX3] at c_X3
  have bX3 : X3 < P256 := by rw [hX3]; exact pw_lt _ _
  have HX3 := Lib.hid hX3
  clear hX3
  have c_X4 := rPow_c X1 n bX1 hn
  obtain ⟨X4, hX4⟩ : ∃ v_, v_ = pw X1 n := ⟨_, rfl⟩
  rw [← hX4] at c_X4
  have bX4 : X4 < P256 := by rw [hX4]; exact pw_lt _ _
  have HX4 := Lib.hid hX4
  clear hX4
  have e_0 : X3 = X4 := by rw [HX3.out, HX4.out, HX1.out]; exact Nat.pow_mod A n PP
  have c_s5 := lSame_c X3 X4 bX3 bX4
  rw [decide_eq_true e_0] at c_s5
  clear e_0
  have c_X6 := rInv_c X1 bX1
  obtain ⟨X6, hX6⟩ : ∃ v_, v_ = pw X1 (PP - 2) := ⟨_, rfl⟩
  rw [← hX6] at c_X6
  have bX6 : X6 < P256 := by rw [hX6]; exact pw_lt _ _
  have HX6 := Lib.hid hX6
  clear hX6
  have e_1 : X2 = X6 := by rw [HX2.out, HX6.out, HX1.out]; exact Nat.pow_mod A (PP - 2) PP
  have c_s7 := lSame_c X2 X6 bX2 bX6
  rw [decide_eq_true e_1] at c_s7
  clear e_1
  have c_X8 := fMul_c A X2 hA bX2
  obtain ⟨X8, hX8⟩ : ∃ v_, v_ = A * X2 % PP := ⟨_, rfl⟩
  rw [← hX8] at c_X8
  have bX8 : X8 < P256 := by rw [hX8]; exact mod_256 _
  have HX8 := Lib.hid hX8
  clear hX8
  have e_o := eqEl X8 1 bX8 (by decide)
  rw [decide_eq_true (show X8 = 1 by rw [HX8.out, HX2.out, law_inv, if_neg h0])] at e_o
  refine wp_region_xn 24 [] (by kernel_rfl) (fun x hx => by cases hx) (by kernel_rfl) ?_
  simp only [List.take_succ_cons, List.take_zero, List.take_nil]
  (try simp only [Act.put, List.setIfInBounds_toArray, List.set_cons_zero, List.set_cons_succ])
  ((with_reducible refine wpX_fn (fun W hW => halves_c W (GF_ext gf hW)) ?_ rfl ?_ ?_ ?_); (focus rfl); (focus kernel_rfl); (focus rfl); (try simp only [Act.put, List.setIfInBounds_toArray, List.set_cons_zero, List.set_cons_succ]))
  (refine wpX_val (v := ?_) (by rfl) (fun W hW => ?_) ?_; rotate_left 1; (focus (go_simp; first | done | with_reducible rfl)); (try simp only [Act.put, List.setIfInBounds_toArray, List.set_cons_zero, List.set_cons_succ]))
  ((with_reducible refine wpX_load (b := ?_) (cs := ?_) ?_ rfl ?_ ?_ ?_ ?_ ?_); rotate_left 2; (focus rfl); (focus rfl); (focus first | assumption | exact blk_rd (by assumption)); (focus kernel_rfl); (focus kernel_rfl); (try simp only [Act.put, List.setIfInBounds_toArray, List.set_cons_zero, List.set_cons_succ]))
  ((with_reducible refine wpX_load (b := ?_) (cs := ?_) ?_ rfl ?_ ?_ ?_ ?_ ?_); rotate_left 2; (focus rfl); (focus rfl); (focus first | assumption | exact blk_rd (by assumption)); (focus kernel_rfl); (focus kernel_rfl); (try simp only [Act.put, List.setIfInBounds_toArray, List.set_cons_zero, List.set_cons_succ]))
  ((with_reducible refine wpX_fn (fun W hW => c_X3 W (GF_ext gf hW)) ?_ rfl ?_ ?_ ?_); (focus rfl); (focus kernel_rfl); (focus rfl); (try simp only [Act.put, List.setIfInBounds_toArray, List.set_cons_zero, List.set_cons_succ]))
  ((with_reducible refine wpX_load (b := ?_) (cs := ?_) ?_ rfl ?_ ?_ ?_ ?_ ?_); rotate_left 2; (focus rfl); (focus rfl); (focus first | assumption | exact blk_rd (by assumption)); (focus kernel_rfl); (focus kernel_rfl); (try simp only [Act.put, List.setIfInBounds_toArray, List.set_cons_zero, List.set_cons_succ]))
  ((with_reducible refine wpX_load (b := ?_) (cs := ?_) ?_ rfl ?_ ?_ ?_ ?_ ?_); rotate_left 2; (focus rfl); (focus rfl); (focus first | assumption | exact blk_rd (by assumption)); (focus kernel_rfl); (focus kernel_rfl); (try simp only [Act.put, List.setIfInBounds_toArray, List.set_cons_zero, List.set_cons_succ]))
  ((with_reducible refine wpX_fn (fun W hW => c_X4 W) ?_ rfl ?_ ?_ ?_); (focus rfl); (focus kernel_rfl); (focus rfl); (try simp only [Act.put, List.setIfInBounds_toArray, List.set_cons_zero, List.set_cons_succ]))
  ((with_reducible refine wpX_fn (fun W hW => c_s5 W) ?_ rfl ?_ ?_ ?_); (focus rfl); (focus kernel_rfl); (focus rfl); (try simp only [Act.put, List.setIfInBounds_toArray, List.set_cons_zero, List.set_cons_succ]))
  (refine wpX_val (v := ?_) (by rfl) (fun W hW => ?_) ?_; rotate_left 1; (focus (go_simp; first | done | with_reducible rfl)); (try simp only [Act.put, List.setIfInBounds_toArray, List.set_cons_zero, List.set_cons_succ]))
  (refine wpX_val (v := ?_) (by rfl) (fun W hW => ?_) ?_; rotate_left 1; (focus (go_simp; first | done | with_reducible rfl)); (try simp only [Act.put, List.setIfInBounds_toArray, List.set_cons_zero, List.set_cons_succ]))
  ((with_reducible refine wpX_load (b := ?_) (cs := ?_) ?_ rfl ?_ ?_ ?_ ?_ ?_); rotate_left 2; (focus rfl); (focus rfl); (focus first | assumption | exact blk_rd (by assumption)); (focus kernel_rfl); (focus kernel_rfl); (try simp only [Act.put, List.setIfInBounds_toArray, List.set_cons_zero, List.set_cons_succ]))
  ((with_reducible refine wpX_load (b := ?_) (cs := ?_) ?_ rfl ?_ ?_ ?_ ?_ ?_); rotate_left 2; (focus rfl); (focus rfl); (focus first | assumption | exact blk_rd (by assumption)); (focus kernel_rfl); (focus kernel_rfl); (try simp only [Act.put, List.setIfInBounds_toArray, List.set_cons_zero, List.set_cons_succ]))
  ((with_reducible refine wpX_fn (fun W hW => c_X6 W) ?_ rfl ?_ ?_ ?_); (focus rfl); (focus kernel_rfl); (focus rfl); (try simp only [Act.put, List.setIfInBounds_toArray, List.set_cons_zero, List.set_cons_succ]))
  ((with_reducible refine wpX_fn (fun W hW => c_s7 W) ?_ rfl ?_ ?_ ?_); (focus rfl); (focus kernel_rfl); (focus rfl); (try simp only [Act.put, List.setIfInBounds_toArray, List.set_cons_zero, List.set_cons_succ]))
  (refine wpX_val (v := ?_) (by rfl) (fun W hW => ?_) ?_; rotate_left 1; (focus (go_simp; first | done | with_reducible rfl)); (try simp only [Act.put, List.setIfInBounds_toArray, List.set_cons_zero, List.set_cons_succ]))
  (refine wpX_val (v := ?_) (by rfl) (fun W hW => ?_) ?_; rotate_left 1; (focus (go_simp; first | done | with_reducible rfl)); (try simp only [Act.put, List.setIfInBounds_toArray, List.set_cons_zero, List.set_cons_succ]))
  ((with_reducible refine wpX_load (b := ?_) (cs := ?_) ?_ rfl ?_ ?_ ?_ ?_ ?_); rotate_left 2; (focus rfl); (focus rfl); (focus first | assumption | exact blk_rd (by assumption)); (focus kernel_rfl); (focus kernel_rfl); (try simp only [Act.put, List.setIfInBounds_toArray, List.set_cons_zero, List.set_cons_succ]))
  ((with_reducible refine wpX_load (b := ?_) (cs := ?_) ?_ rfl ?_ ?_ ?_ ?_ ?_); rotate_left 2; (focus rfl); (focus rfl); (focus first | assumption | exact blk_rd (by assumption)); (focus kernel_rfl); (focus kernel_rfl); (try simp only [Act.put, List.setIfInBounds_toArray, List.set_cons_zero, List.set_cons_succ]))
  ((with_reducible refine wpX_fn (fun W hW => c_X8 W (GF_ext gf hW)) ?_ rfl ?_ ?_ ?_); (focus rfl); (focus kernel_rfl); (focus rfl); (try simp only [Act.put, List.setIfInBounds_toArray, List.set_cons_zero, List.set_cons_succ]))
  ((with_reducible refine wpX_load (b := ?_) (cs := ?_) ?_ rfl ?_ ?_ ?_ ?_ ?_); rotate_left 2; (focus rfl); (focus rfl); (focus first | assumption | exact blk_rd (by assumption)); (focus kernel_rfl); (focus kernel_rfl); (try simp only [Act.put, List.setIfInBounds_toArray, List.set_cons_zero, List.set_cons_succ]))
  ((with_reducible refine wpX_eqlA (e_o) ?_ ?_ rfl ?_ ?_ ?_); (focus kernel_rfl); (focus rfl); (focus rfl); (focus rfl); (try simp only [Act.put, List.setIfInBounds_toArray, List.set_cons_zero, List.set_cons_succ]))
  (refine wpX_val (v := ?_) (by rfl) (fun W hW => ?_) ?_; rotate_left 1; (focus (go_simp; first | done | with_reducible rfl)); (try simp only [Act.put, List.setIfInBounds_toArray, List.set_cons_zero, List.set_cons_succ]))
  (refine wpX_val (v := ?_) (by rfl) (fun W hW => ?_) ?_; rotate_left 1; (focus (go_simp; first | done | with_reducible rfl)); (try simp only [Act.put, List.setIfInBounds_toArray, List.set_cons_zero, List.set_cons_succ]))
  refine wpX_nil ?_
  intro β W8 hE hN hD
  simp only [putAll, Act.put, List.setIfInBounds_toArray, List.set_cons_zero, List.set_cons_succ, List.drop_succ_cons, List.drop_zero, List.drop_nil, List.length_cons, List.length_nil]
  clear hN hD β
  refine wpL_nil ?_
  refine NoPanic.normal (Q := Exit.then _ _) ?_
  have hF : Below w.heap.size w W8 ∧ Blk W8 w.heap.size (c4 A) 24 ∧ Blk W8 (w.heap.size + 1) (c4 n) 23 ∧ Blk W8 p5_1 (arrK .i64 16 (l16 X1)) 26 ∧ Blk W8 p6_3 (c4 X2) 24 ∧ Blk W8 p7_5 (c4 1) 24 := ⟨(below_step bel hE bel.size), (blk_step k_t2 hE), (blk_step k_t3 hE), (blk_step k_t5 hE), (blk_step k_t6 hE), (blk_step k_t7 hE)⟩
  clear bel k_t2 k_t3 k_t5 k_t6 k_t7
  obtain ⟨bel, k_t2, k_t3, k_t5, k_t6, k_t7⟩ := hF
  go_wp2
  refine bodyPost_ret (v := .bool true) (by simp only [results, Tryd.results3]; go_simp) rfl ⟨?_, bel⟩
  rfl
theorem fieldPowers_c (A n : Nat) (hA : A < P256) (hn : n < P256) (w : World) (hG : GF w) : Calls Tryd.prog 3 #[L4 A, L4 n] w fun e w' => Ret (.bool true) w w' e := by
  by_cases h0 : A % PP = 0
  · exact fieldPowers_0 A n hA hn h0 w hG
  · exact fieldPowers_1 A n hA hn h0 w hG
end Go.Proofs.YtjikomnnhbbmaaaDoor
