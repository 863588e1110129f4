/- custumallaw05.FieldLaws. Conditions: the cells of the field's two variables hold the two numbers. -/
import Derived.Test.YtjikomnnhbbmaaaDoorFlD
namespace Go.Proofs.YtjikomnnhbbmaaaDoor
set_option linter.unusedSimpArgs false
set_option linter.unusedVariables false
open Go.RowKit

theorem law_dist (A B C : Nat) : A * ((B + C) % PP) % PP = (A * B % PP + A * C % PP) % PP :=
  fp_inj (Nat.mod_lt _ PP_pos) (Nat.mod_lt _ PP_pos) (by simp only [fp_mod, fp_mul, fp_add]; grind)
theorem law_opp (A : Nat) : (A + (PP - A % PP) % PP) % PP = 0 :=
  fp_inj (Nat.mod_lt _ PP_pos) PP_pos (by simp only [fp_mod, fp_add, fp_neg]; rw [fp_zero]; grind)
theorem law_root (A : Nat) (h : ¬ rtR (A * A % PP) 1 % PP = A % PP) : rtR (A * A % PP) 1 % PP = (PP - A % PP) % PP % PP := by
  refine fp_eq.1 ?_
  rw [fp_mod, fp_neg]
  exact (rt_square A).2.resolve_left fun e => h (fp_eq.1 e)

set_option maxHeartbeats 4000000 in
theorem fieldLaws_1 (A B C : Nat) (hA : A < P256) (hB : B < P256) (hC : C < P256) (h1 : rtR (A * A % PP) 1 % PP = A % PP) (w : World) (hG : GF w) (hI : GI w) :
    Calls Tryd.prog 6 #[L4 A, L4 B, L4 C] w fun e w' => Ret (.bool true) w w' e := by
  go_enter Tryd.func6, Tryd.ntmps6
  go_upto_region 1 with fail
  refine wp_world (fun W => Below w.heap.size w W ∧ Blk W w.heap.size (c4 A) 24 ∧ Blk W (w.heap.size + 1) (c4 B) 24 ∧ Blk W (w.heap.size + 2) (c4 C) 24) ⟨(by (repeat' (first | (with_reducible assumption) | (with_reducible exact Below.refl _ _) | (with_reducible refine Below.drew ?_) | (with_reducible refine Below.alloc ?_ ?_ _) | (with_reducible refine below_set ?_ ?_ _ _) | (with_reducible refine below_setRow ?_ ?_ _) | (with_reducible refine below_step ?_ (by assumption) ?_))) <;> (first | omega | ((try simp only [World.size_alloc, World.size_setCell, World.size_drew, size_setRow]); omega))), blk_alloc (blk_alloc (blk_new _ _ rfl) _) _, blk_alloc (blk_new _ _ (by simp)) _, blk_new _ _ (by simp)⟩ ?_
  rintro W0 ⟨bel, k_t3, k_t4, k_t5⟩
  have lt_t3_0 := blk_lt k_t3
  have lt_t4_0 := blk_lt k_t4
  have lt_t5_0 := blk_lt k_t5
  have gf := GF_ext hG bel
  have gm := gf.1
  have gi := gf.2
  have c_X1 := fAdd_c B C hB hC
  obtain ⟨X1, hX1⟩ : ∃ v_, v_ = (B + C) % PP := ⟨_, rfl⟩
  rw [← hX1] at c_X1
  have bX1 : X1 < P256 := by rw [hX1]; exact mod_256 _
  have HX1 := Lib.hid hX1
  clear hX1
  have c_X2 := fMul_c A X1 hA bX1
  obtain ⟨X2, hX2⟩ : ∃ v_, v_ = A * X1 % PP := ⟨_, rfl⟩
  rw [← hX2] at c_X2
  have bX2 : X2 < P256 := by rw [hX2]; exact mod_256 _
  have HX2 := Lib.hid hX2
  clear hX2
  refine wp_region_xn 5 [⟨5, 7, #[.int .u64 0, .int .u64 0, .int .u64 0, .int .u64 0], 24⟩] (by kernel_rfl) ?_ (by kernel_rfl) ?_
  · intro x hx
    simp only [List.mem_cons, List.not_mem_nil, or_false] at hx
    subst hx; exact ⟨_, rfl, rfl, rfl, fun _ _ => by kernel_rfl⟩
  simp only [List.take_succ_cons, List.take_zero, List.take_nil]
  (try simp only [Act.put, List.setIfInBounds_toArray, List.set_cons_zero, List.set_cons_succ])
  ((with_reducible refine wpX_load (b := ?_) (cs := ?_) ?_ rfl ?_ ?_ ?_ ?_ ?_); rotate_left 2; (focus rfl); (focus rfl); (focus first | assumption | exact blk_rd (by assumption)); (focus kernel_rfl); (focus kernel_rfl); (try simp only [Act.put, List.setIfInBounds_toArray, List.set_cons_zero, List.set_cons_succ]))
  ((with_reducible refine wpX_load (b := ?_) (cs := ?_) ?_ rfl ?_ ?_ ?_ ?_ ?_); rotate_left 2; (focus rfl); (focus rfl); (focus first | assumption | exact blk_rd (by assumption)); (focus kernel_rfl); (focus kernel_rfl); (try simp only [Act.put, List.setIfInBounds_toArray, List.set_cons_zero, List.set_cons_succ]))
  ((with_reducible refine wpX_load (b := ?_) (cs := ?_) ?_ rfl ?_ ?_ ?_ ?_ ?_); rotate_left 2; (focus rfl); (focus rfl); (focus first | assumption | exact blk_rd (by assumption)); (focus kernel_rfl); (focus kernel_rfl); (try simp only [Act.put, List.setIfInBounds_toArray, List.set_cons_zero, List.set_cons_succ]))
  ((with_reducible refine wpX_fn (fun W hW => c_X1 W (GF_ext gf hW)) ?_ rfl ?_ ?_ ?_); (focus rfl); (focus kernel_rfl); (focus rfl); (try simp only [Act.put, List.setIfInBounds_toArray, List.set_cons_zero, List.set_cons_succ]))
  ((with_reducible refine wpX_fn (fun W hW => c_X2 W (GF_ext gf hW)) ?_ rfl ?_ ?_ ?_); (focus rfl); (focus kernel_rfl); (focus rfl); (try simp only [Act.put, List.setIfInBounds_toArray, List.set_cons_zero, List.set_cons_succ]))
  refine wpX_nil ?_
  intro β W1 hE hN hD
  obtain ⟨n_t7_1, k_t7⟩ := hN _ (List.mem_cons_self ..)
  simp only [putAll, Act.put, List.setIfInBounds_toArray, List.set_cons_zero, List.set_cons_succ, List.drop_succ_cons, List.drop_zero, List.drop_nil, List.length_cons, List.length_nil] at n_t7_1 k_t7 ⊢
  generalize β 5 = p7_1 at *
  have sz_1 := bel.size
  clear hN hD β
  refine wpL_store (g := p7_1) (cells := c4 X2) (by rfl) rfl rfl rfl k_t7 (by kernel_rfl) (by kernel_rfl) (by kernel_rfl) ?_
  (try simp only [Act.put, List.setIfInBounds_toArray, List.set_cons_zero, List.set_cons_succ])
  refine wpL_nil ?_
  refine NoPanic.normal (Q := Exit.then _ _) ?_
  have hF : Below w.heap.size w (W1.setRow p7_1 (c4 X2)) ∧ Blk (W1.setRow p7_1 (c4 X2)) w.heap.size (c4 A) 24 ∧ Blk (W1.setRow p7_1 (c4 X2)) (w.heap.size + 1) (c4 B) 24 ∧ Blk (W1.setRow p7_1 (c4 X2)) (w.heap.size + 2) (c4 C) 24 ∧ Blk (W1.setRow p7_1 (c4 X2)) p7_1 (c4 X2) 24 := ⟨(below_setRow (below_step bel hE bel.size) (by omega) _), (blk_setRow_other (blk_step k_t3 hE) (by omega) _), (blk_setRow_other (blk_step k_t4 hE) (by omega) _), (blk_setRow_other (blk_step k_t5 hE) (by omega) _), (blk_setRow k_t7 (c4 X2))⟩
  generalize (W1.setRow p7_1 (c4 X2)) = W2 at hF ⊢
  clear bel k_t3 k_t4 k_t5 k_t7
  obtain ⟨bel, k_t3, k_t4, k_t5, k_t7⟩ := hF
  go_upto_region 2 with fail
  have lt_t7_2 := blk_lt k_t7
  have gf := GF_ext hG bel
  have gm := gf.1
  have gi := gf.2
  have c_X3 := fMul_c A B hA hB
  obtain ⟨X3, hX3⟩ : ∃ v_, v_ = A * B % PP := ⟨_, rfl⟩
  rw [← hX3] at c_X3
  have bX3 : X3 < P256 := by rw [hX3]; exact mod_256 _
  have HX3 := Lib.hid hX3
  clear hX3
  have c_X4 := fMul_c A C hA hC
  obtain ⟨X4, hX4⟩ : ∃ v_, v_ = A * C % PP := ⟨_, rfl⟩
  rw [← hX4] at c_X4
  have bX4 : X4 < P256 := by rw [hX4]; exact mod_256 _
  have HX4 := Lib.hid hX4
  clear hX4
  have c_X5 := fAdd_c X3 X4 bX3 bX4
  obtain ⟨X5, hX5⟩ : ∃ v_, v_ = (X3 + X4) % PP := ⟨_, rfl⟩
  rw [← hX5] at c_X5
  have bX5 : X5 < P256 := by rw [hX5]; exact mod_256 _
  have HX5 := Lib.hid hX5
  clear hX5
  refine wp_region_xn 7 [⟨7, 8, #[.int .u64 0, .int .u64 0, .int .u64 0, .int .u64 0], 24⟩] (by kernel_rfl) ?_ (by kernel_rfl) ?_
  · intro x hx
    simp only [List.mem_cons, List.not_mem_nil, or_false] at hx
    subst hx; exact ⟨_, rfl, rfl, rfl, fun _ _ => by kernel_rfl⟩
  simp only [List.take_succ_cons, List.take_zero, List.take_nil]
  (try simp only [Act.put, List.setIfInBounds_toArray, List.set_cons_zero, List.set_cons_succ])
  ((with_reducible refine wpX_load (b := ?_) (cs := ?_) ?_ rfl ?_ ?_ ?_ ?_ ?_); rotate_left 2; (focus rfl); (focus rfl); (focus first | assumption | exact blk_rd (by assumption)); (focus kernel_rfl); (focus kernel_rfl); (try simp only [Act.put, List.setIfInBounds_toArray, List.set_cons_zero, List.set_cons_succ]))
  ((with_reducible refine wpX_load (b := ?_) (cs := ?_) ?_ rfl ?_ ?_ ?_ ?_ ?_); rotate_left 2; (focus rfl); (focus rfl); (focus first | assumption | exact blk_rd (by assumption)); (focus kernel_rfl); (focus kernel_rfl); (try simp only [Act.put, List.setIfInBounds_toArray, List.set_cons_zero, List.set_cons_succ]))
  ((with_reducible refine wpX_fn (fun W hW => c_X3 W (GF_ext gf hW)) ?_ rfl ?_ ?_ ?_); (focus rfl); (focus kernel_rfl); (focus rfl); (try simp only [Act.put, List.setIfInBounds_toArray, List.set_cons_zero, List.set_cons_succ]))
  ((with_reducible refine wpX_load (b := ?_) (cs := ?_) ?_ rfl ?_ ?_ ?_ ?_ ?_); rotate_left 2; (focus rfl); (focus rfl); (focus first | assumption | exact blk_rd (by assumption)); (focus kernel_rfl); (focus kernel_rfl); (try simp only [Act.put, List.setIfInBounds_toArray, List.set_cons_zero, List.set_cons_succ]))
  ((with_reducible refine wpX_load (b := ?_) (cs := ?_) ?_ rfl ?_ ?_ ?_ ?_ ?_); rotate_left 2; (focus rfl); (focus rfl); (focus first | assumption | exact blk_rd (by assumption)); (focus kernel_rfl); (focus kernel_rfl); (try simp only [Act.put, List.setIfInBounds_toArray, List.set_cons_zero, List.set_cons_succ]))
  ((with_reducible refine wpX_fn (fun W hW => c_X4 W (GF_ext gf hW)) ?_ rfl ?_ ?_ ?_); (focus rfl); (focus kernel_rfl); (focus rfl); (try simp only [Act.put, List.setIfInBounds_toArray, List.set_cons_zero, List.set_cons_succ]))
  ((with_reducible refine wpX_fn (fun W hW => c_X5 W (GF_ext gf hW)) ?_ rfl ?_ ?_ ?_); (focus rfl); (focus kernel_rfl); (focus rfl); (try simp only [Act.put, List.setIfInBounds_toArray, List.set_cons_zero, List.set_cons_succ]))
  refine wpX_nil ?_
  intro β W3 hE hN hD
  obtain ⟨n_t8_3, k_t8⟩ := hN _ (List.mem_cons_self ..)
  simp only [putAll, Act.put, List.setIfInBounds_toArray, List.set_cons_zero, List.set_cons_succ, List.drop_succ_cons, List.drop_zero, List.drop_nil, List.length_cons, List.length_nil] at n_t8_3 k_t8 ⊢
  generalize β 7 = p8_3 at *
  have sz_3 := bel.size
  clear hN hD β
  refine wpL_store (g := p8_3) (cells := c4 X5) (by rfl) rfl rfl rfl k_t8 (by kernel_rfl) (by kernel_rfl) (by kernel_rfl) ?_
  (try simp only [Act.put, List.setIfInBounds_toArray, List.set_cons_zero, List.set_cons_succ])
  refine wpL_nil ?_
  refine NoPanic.normal (Q := Exit.then _ _) ?_
  have hF : Below w.heap.size w (W3.setRow p8_3 (c4 X5)) ∧ Blk (W3.setRow p8_3 (c4 X5)) w.heap.size (c4 A) 24 ∧ Blk (W3.setRow p8_3 (c4 X5)) (w.heap.size + 1) (c4 B) 24 ∧ Blk (W3.setRow p8_3 (c4 X5)) (w.heap.size + 2) (c4 C) 24 ∧ Blk (W3.setRow p8_3 (c4 X5)) p7_1 (c4 X2) 24 ∧ Blk (W3.setRow p8_3 (c4 X5)) p8_3 (c4 X5) 24 := ⟨(below_setRow (below_step bel hE bel.size) (by omega) _), (blk_setRow_other (blk_step k_t3 hE) (by omega) _), (blk_setRow_other (blk_step k_t4 hE) (by omega) _), (blk_setRow_other (blk_step k_t5 hE) (by omega) _), (blk_setRow_other (blk_step k_t7 hE) (by omega) _), (blk_setRow k_t8 (c4 X5))⟩
  generalize (W3.setRow p8_3 (c4 X5)) = W4 at hF ⊢
  clear bel k_t3 k_t4 k_t5 k_t7 k_t8
  obtain ⟨bel, k_t3, k_t4, k_t5, k_t7, k_t8⟩ := hF
  go_upto_region 3 with fail
  have lt_t8_4 := blk_lt k_t8
  have gf := GF_ext hG bel
  have gm := gf.1
  have gi := gf.2
  have c_X6 := fMul_c A A hA hA
  obtain ⟨X6, hX6⟩ : ∃ v_, v_ = A * A % PP := ⟨_, rfl⟩
  rw [← hX6] at c_X6
  have bX6 : X6 < P256 := by rw [hX6]; exact mod_256 _
  have HX6 := Lib.hid hX6
  clear hX6
  have c_X7 := fRoot_c X6 1 bX6 (by decide)
  rw [show rtB X6 1 = true by rw [HX6.out]; exact (rt_square A).1] at c_X7
  obtain ⟨X7, hX7⟩ : ∃ v_, v_ = rtR X6 1 := ⟨_, rfl⟩
  rw [← hX7] at c_X7
  have bX7 : X7 < P256 := by rw [hX7]; exact rtR_lt _ _
  have HX7 := Lib.hid hX7
  clear hX7
  refine wp_region_pn 8 [⟨8, 9, #[.int .u64 0, .int .u64 0, .int .u64 0, .int .u64 0], 24⟩] ?_ (by kernel_rfl) ?_
  · intro x hx
    simp only [List.mem_cons, List.not_mem_nil, or_false] at hx
    subst hx; exact ⟨_, rfl, rfl, rfl, fun _ _ => by kernel_rfl⟩
  simp only [List.take_succ_cons, List.take_zero, List.take_nil]
  (try simp only [Act.put, List.setIfInBounds_toArray, List.set_cons_zero, List.set_cons_succ])
  ((with_reducible refine wpX_load (b := ?_) (cs := ?_) ?_ rfl ?_ ?_ ?_ ?_ ?_); rotate_left 2; (focus rfl); (focus rfl); (focus first | assumption | exact blk_rd (by assumption)); (focus kernel_rfl); (focus kernel_rfl); (try simp only [Act.put, List.setIfInBounds_toArray, List.set_cons_zero, List.set_cons_succ]))
  ((with_reducible refine wpX_load (b := ?_) (cs := ?_) ?_ rfl ?_ ?_ ?_ ?_ ?_); rotate_left 2; (focus rfl); (focus rfl); (focus first | assumption | exact blk_rd (by assumption)); (focus kernel_rfl); (focus kernel_rfl); (try simp only [Act.put, List.setIfInBounds_toArray, List.set_cons_zero, List.set_cons_succ]))
  ((with_reducible refine wpX_fn (fun W hW => c_X6 W (GF_ext gf hW)) ?_ rfl ?_ ?_ ?_); (focus rfl); (focus kernel_rfl); (focus rfl); (try simp only [Act.put, List.setIfInBounds_toArray, List.set_cons_zero, List.set_cons_succ]))
  (refine wpX_val (v := ?_) (by rfl) (fun W hW => ?_) ?_; rotate_left 1; (focus (go_simp; first | done | with_reducible rfl)); (try simp only [Act.put, List.setIfInBounds_toArray, List.set_cons_zero, List.set_cons_succ]))
  ((with_reducible refine wpX_fn (fun W hW => c_X7 W (GF_ext gf hW) (GI_ext hI (ext_trans bel hW))) ?_ rfl ?_ ?_ ?_); (focus rfl); (focus kernel_rfl); (focus rfl); (try simp only [Act.put, List.setIfInBounds_toArray, List.set_cons_zero, List.set_cons_succ]))
  (refine wpX_val (v := ?_) (by rfl) (fun W hW => ?_) ?_; rotate_left 1; (focus (go_simp; first | done | with_reducible rfl)); (try simp only [Act.put, List.setIfInBounds_toArray, List.set_cons_zero, List.set_cons_succ]))
  (refine wpX_val (v := ?_) (by rfl) (fun W hW => ?_) ?_; rotate_left 1; (focus (go_simp; first | done | with_reducible rfl)); (try simp only [Act.put, List.setIfInBounds_toArray, List.set_cons_zero, List.set_cons_succ]))
  (refine wpX_val (v := ?_) (by rfl) (fun W hW => ?_) ?_; rotate_left 1; (focus (go_simp; first | done | with_reducible rfl)); (try simp only [Act.put, List.setIfInBounds_toArray, List.set_cons_zero, List.set_cons_succ]))
  refine wpX_nil ?_
  intro β W5 hE hN hD
  obtain ⟨n_t9_5, k_t9⟩ := hN _ (List.mem_cons_self ..)
  simp only [putAll, Act.put, List.setIfInBounds_toArray, List.set_cons_zero, List.set_cons_succ, List.drop_succ_cons, List.drop_zero, List.drop_nil, List.length_cons, List.length_nil] at n_t9_5 k_t9 ⊢
  generalize β 8 = p9_5 at *
  have sz_5 := bel.size
  clear hN hD β
  refine wpL_store (g := p9_5) (cells := c4 X7) (by rfl) rfl rfl rfl k_t9 (by kernel_rfl) (by kernel_rfl) (by kernel_rfl) ?_
  (try simp only [Act.put, List.setIfInBounds_toArray, List.set_cons_zero, List.set_cons_succ])
  (refine wpL_val (v := ?_) (by rfl) ?_ ?_; rotate_left 1; (focus (go_simp; first | done | with_reducible rfl)))
  (try simp only [Act.put, List.setIfInBounds_toArray, List.set_cons_zero, List.set_cons_succ])
  refine wpL_nil ?_
  have hF : Below w.heap.size w (W5.setRow p9_5 (c4 X7)) ∧ Blk (W5.setRow p9_5 (c4 X7)) w.heap.size (c4 A) 24 ∧ Blk (W5.setRow p9_5 (c4 X7)) (w.heap.size + 1) (c4 B) 24 ∧ Blk (W5.setRow p9_5 (c4 X7)) (w.heap.size + 2) (c4 C) 24 ∧ Blk (W5.setRow p9_5 (c4 X7)) p7_1 (c4 X2) 24 ∧ Blk (W5.setRow p9_5 (c4 X7)) p8_3 (c4 X5) 24 ∧ Blk (W5.setRow p9_5 (c4 X7)) p9_5 (c4 X7) 24 := ⟨(below_setRow (below_step bel hE bel.size) (by omega) _), (blk_setRow_other (blk_step k_t3 hE) (by omega) _), (blk_setRow_other (blk_step k_t4 hE) (by omega) _), (blk_setRow_other (blk_step k_t5 hE) (by omega) _), (blk_setRow_other (blk_step k_t7 hE) (by omega) _), (blk_setRow_other (blk_step k_t8 hE) (by omega) _), (blk_setRow k_t9 (c4 X7))⟩
  generalize (W5.setRow p9_5 (c4 X7)) = W6 at hF ⊢
  clear bel k_t3 k_t4 k_t5 k_t7 k_t8 k_t9
  obtain ⟨bel, k_t3, k_t4, k_t5, k_t7, k_t8, k_t9⟩ := hF
  go_upto_region 4 with fail
  have lt_t9_6 := blk_lt k_t9
  have gf := GF_ext hG bel
  have gm := gf.1
  have gi := gf.2
  have e_s9 : X2 = X5 := by rw [HX2.out, HX1.out, HX5.out, HX3.out, HX4.out]; exact law_dist A B C
  have e_q8 := eqEl X2 X5 bX2 bX5
  rw [decide_eq_true e_s9] at e_q8
  clear e_s9
  have e_s11 : X7 % PP = A % PP := by rw [HX7.out, HX6.out]; exact h1
  have c_s10 := fSame_c X7 A bX7 hA
  rw [decide_eq_true e_s11] at c_s10
  clear e_s11
  have c_X12 := fNeg_c A hA
  obtain ⟨X12, hX12⟩ : ∃ v_, v_ = (PP - A % PP) % PP := ⟨_, rfl⟩
  rw [← hX12] at c_X12
  have bX12 : X12 < P256 := by rw [hX12]; exact mod_256 _
  have HX12 := Lib.hid hX12
  clear hX12
  have c_X13 := fAdd_c A X12 hA bX12
  obtain ⟨X13, hX13⟩ : ∃ v_, v_ = (A + X12) % PP := ⟨_, rfl⟩
  rw [← hX13] at c_X13
  have bX13 : X13 < P256 := by rw [hX13]; exact mod_256 _
  have HX13 := Lib.hid hX13
  clear hX13
  have e_s15 : X13 = 0 := by rw [HX13.out, HX12.out]; exact law_opp A
  have e_q14 := eqEl X13 0 bX13 (by decide)
  rw [decide_eq_true e_s15] at e_q14
  clear e_s15
  refine wp_region_xn 29 [] (by kernel_rfl) (fun x hx => by cases hx) (by kernel_rfl) ?_
  simp only [List.take_succ_cons, List.take_zero, List.take_nil]
  (try simp only [Act.put, List.setIfInBounds_toArray, List.set_cons_zero, List.set_cons_succ])
  ((with_reducible refine wpX_fn (fun W hW => halves_c W (GF_ext gf hW)) ?_ rfl ?_ ?_ ?_); (focus rfl); (focus kernel_rfl); (focus rfl); (try simp only [Act.put, List.setIfInBounds_toArray, List.set_cons_zero, List.set_cons_succ]))
  (refine wpX_val (v := ?_) (by rfl) (fun W hW => ?_) ?_; rotate_left 1; (focus (go_simp; first | done | with_reducible rfl)); (try simp only [Act.put, List.setIfInBounds_toArray, List.set_cons_zero, List.set_cons_succ]))
  ((with_reducible refine wpX_load (b := ?_) (cs := ?_) ?_ rfl ?_ ?_ ?_ ?_ ?_); rotate_left 2; (focus rfl); (focus rfl); (focus first | assumption | exact blk_rd (by assumption)); (focus kernel_rfl); (focus kernel_rfl); (try simp only [Act.put, List.setIfInBounds_toArray, List.set_cons_zero, List.set_cons_succ]))
  ((with_reducible refine wpX_load (b := ?_) (cs := ?_) ?_ rfl ?_ ?_ ?_ ?_ ?_); rotate_left 2; (focus rfl); (focus rfl); (focus first | assumption | exact blk_rd (by assumption)); (focus kernel_rfl); (focus kernel_rfl); (try simp only [Act.put, List.setIfInBounds_toArray, List.set_cons_zero, List.set_cons_succ]))
  ((with_reducible refine wpX_eqlA (e_q8) ?_ ?_ rfl ?_ ?_ ?_); (focus kernel_rfl); (focus rfl); (focus rfl); (focus rfl); (try simp only [Act.put, List.setIfInBounds_toArray, List.set_cons_zero, List.set_cons_succ]))
  (refine wpX_val (v := ?_) (by rfl) (fun W hW => ?_) ?_; rotate_left 1; (focus (go_simp; first | done | with_reducible rfl)); (try simp only [Act.put, List.setIfInBounds_toArray, List.set_cons_zero, List.set_cons_succ]))
  (refine wpX_val (v := ?_) (by rfl) (fun W hW => ?_) ?_; rotate_left 1; (focus (go_simp; first | done | with_reducible rfl)); (try simp only [Act.put, List.setIfInBounds_toArray, List.set_cons_zero, List.set_cons_succ]))
  (refine wpX_val (v := ?_) (by rfl) (fun W hW => ?_) ?_; rotate_left 1; (focus (go_simp; first | done | with_reducible rfl)); (try simp only [Act.put, List.setIfInBounds_toArray, List.set_cons_zero, List.set_cons_succ]))
  (refine wpX_val (v := ?_) (by rfl) (fun W hW => ?_) ?_; rotate_left 1; (focus (go_simp; first | done | with_reducible rfl)); (try simp only [Act.put, List.setIfInBounds_toArray, List.set_cons_zero, List.set_cons_succ]))
  (refine wpX_val (v := ?_) (by rfl) (fun W hW => ?_) ?_; rotate_left 1; (focus (go_simp; first | done | with_reducible rfl)); (try simp only [Act.put, List.setIfInBounds_toArray, List.set_cons_zero, List.set_cons_succ]))
  ((with_reducible refine wpX_load (b := ?_) (cs := ?_) ?_ rfl ?_ ?_ ?_ ?_ ?_); rotate_left 2; (focus rfl); (focus rfl); (focus first | assumption | exact blk_rd (by assumption)); (focus kernel_rfl); (focus kernel_rfl); (try simp only [Act.put, List.setIfInBounds_toArray, List.set_cons_zero, List.set_cons_succ]))
  ((with_reducible refine wpX_load (b := ?_) (cs := ?_) ?_ rfl ?_ ?_ ?_ ?_ ?_); rotate_left 2; (focus rfl); (focus rfl); (focus first | assumption | exact blk_rd (by assumption)); (focus kernel_rfl); (focus kernel_rfl); (try simp only [Act.put, List.setIfInBounds_toArray, List.set_cons_zero, List.set_cons_succ]))
  ((with_reducible refine wpX_fn (fun W hW => c_s10 W (GF_ext gf hW)) ?_ rfl ?_ ?_ ?_); (focus rfl); (focus kernel_rfl); (focus rfl); (try simp only [Act.put, List.setIfInBounds_toArray, List.set_cons_zero, List.set_cons_succ]))
  (refine wpX_val (v := ?_) (by rfl) (fun W hW => ?_) ?_; rotate_left 1; (focus (go_simp; first | done | with_reducible rfl)); (try simp only [Act.put, List.setIfInBounds_toArray, List.set_cons_zero, List.set_cons_succ]))
  (refine wpX_skip (by rfl) ?_; (try simp only [Act.put, List.setIfInBounds_toArray, List.set_cons_zero, List.set_cons_succ]))
  (refine wpX_skip (by rfl) ?_; (try simp only [Act.put, List.setIfInBounds_toArray, List.set_cons_zero, List.set_cons_succ]))
  (refine wpX_skip (by rfl) ?_; (try simp only [Act.put, List.setIfInBounds_toArray, List.set_cons_zero, List.set_cons_succ]))
  (refine wpX_skip (by rfl) ?_; (try simp only [Act.put, List.setIfInBounds_toArray, List.set_cons_zero, List.set_cons_succ]))
  (refine wpX_val (v := ?_) (by rfl) (fun W hW => ?_) ?_; rotate_left 1; (focus (go_simp; first | done | with_reducible rfl)); (try simp only [Act.put, List.setIfInBounds_toArray, List.set_cons_zero, List.set_cons_succ]))
  (refine wpX_val (v := ?_) (by rfl) (fun W hW => ?_) ?_; rotate_left 1; (focus (go_simp; first | done | with_reducible rfl)); (try simp only [Act.put, List.setIfInBounds_toArray, List.set_cons_zero, List.set_cons_succ]))
  (refine wpX_val (v := ?_) (by rfl) (fun W hW => ?_) ?_; rotate_left 1; (focus (go_simp; first | done | with_reducible rfl)); (try simp only [Act.put, List.setIfInBounds_toArray, List.set_cons_zero, List.set_cons_succ]))
  ((with_reducible refine wpX_load (b := ?_) (cs := ?_) ?_ rfl ?_ ?_ ?_ ?_ ?_); rotate_left 2; (focus rfl); (focus rfl); (focus first | assumption | exact blk_rd (by assumption)); (focus kernel_rfl); (focus kernel_rfl); (try simp only [Act.put, List.setIfInBounds_toArray, List.set_cons_zero, List.set_cons_succ]))
  ((with_reducible refine wpX_load (b := ?_) (cs := ?_) ?_ rfl ?_ ?_ ?_ ?_ ?_); rotate_left 2; (focus rfl); (focus rfl); (focus first | assumption | exact blk_rd (by assumption)); (focus kernel_rfl); (focus kernel_rfl); (try simp only [Act.put, List.setIfInBounds_toArray, List.set_cons_zero, List.set_cons_succ]))
  ((with_reducible refine wpX_fn (fun W hW => c_X12 W (GF_ext gf hW)) ?_ rfl ?_ ?_ ?_); (focus rfl); (focus kernel_rfl); (focus rfl); (try simp only [Act.put, List.setIfInBounds_toArray, List.set_cons_zero, List.set_cons_succ]))
  ((with_reducible refine wpX_fn (fun W hW => c_X13 W (GF_ext gf hW)) ?_ rfl ?_ ?_ ?_); (focus rfl); (focus kernel_rfl); (focus rfl); (try simp only [Act.put, List.setIfInBounds_toArray, List.set_cons_zero, List.set_cons_succ]))
  (refine wpX_val (v := ?_) (by rfl) (fun W hW => ?_) ?_; rotate_left 1; (focus (go_simp; first | done | with_reducible rfl)); (try simp only [Act.put, List.setIfInBounds_toArray, List.set_cons_zero, List.set_cons_succ]))
  ((with_reducible refine wpX_eqlA (e_q14) ?_ ?_ rfl ?_ ?_ ?_); (focus kernel_rfl); (focus rfl); (focus rfl); (focus rfl); (try simp only [Act.put, List.setIfInBounds_toArray, List.set_cons_zero, List.set_cons_succ]))
  (refine wpX_val (v := ?_) (by rfl) (fun W hW => ?_) ?_; rotate_left 1; (focus (go_simp; first | done | with_reducible rfl)); (try simp only [Act.put, List.setIfInBounds_toArray, List.set_cons_zero, List.set_cons_succ]))
  (refine wpX_val (v := ?_) (by rfl) (fun W hW => ?_) ?_; rotate_left 1; (focus (go_simp; first | done | with_reducible rfl)); (try simp only [Act.put, List.setIfInBounds_toArray, List.set_cons_zero, List.set_cons_succ]))
  refine wpX_nil ?_
  intro β W7 hE hN hD
  simp only [putAll, Act.put, List.setIfInBounds_toArray, List.set_cons_zero, List.set_cons_succ, List.drop_succ_cons, List.drop_zero, List.drop_nil, List.length_cons, List.length_nil]
  clear hN hD β
  refine wpL_nil ?_
  refine NoPanic.normal (Q := Exit.then _ _) ?_
  have hF : Below w.heap.size w W7 ∧ Blk W7 w.heap.size (c4 A) 24 ∧ Blk W7 (w.heap.size + 1) (c4 B) 24 ∧ Blk W7 (w.heap.size + 2) (c4 C) 24 ∧ Blk W7 p7_1 (c4 X2) 24 ∧ Blk W7 p8_3 (c4 X5) 24 ∧ Blk W7 p9_5 (c4 X7) 24 := ⟨(below_step bel hE bel.size), (blk_step k_t3 hE), (blk_step k_t4 hE), (blk_step k_t5 hE), (blk_step k_t7 hE), (blk_step k_t8 hE), (blk_step k_t9 hE)⟩
  clear bel k_t3 k_t4 k_t5 k_t7 k_t8 k_t9
  obtain ⟨bel, k_t3, k_t4, k_t5, k_t7, k_t8, k_t9⟩ := hF
  go_wp2
  refine bodyPost_ret (v := .bool true) (by simp only [results, Tryd.results6]; go_simp) rfl ⟨?_, bel⟩
  rfl
set_option maxHeartbeats 4000000 in
theorem fieldLaws_0 (A B C : Nat) (hA : A < P256) (hB : B < P256) (hC : C < P256) (h1 : ¬ rtR (A * A % PP) 1 % PP = A % PP) (w : World) (hG : GF w) (hI : GI w) :
    Calls Tryd.prog 6 #[L4 A, L4 B, L4 C] w fun e w' => Ret (.bool true) w w' e := by
  go_enter Tryd.func6, Tryd.ntmps6
  go_upto_region 1 with fail
  refine wp_world (fun W => Below w.heap.size w W ∧ Blk W w.heap.size (c4 A) 24 ∧ Blk W (w.heap.size + 1) (c4 B) 24 ∧ Blk W (w.heap.size + 2) (c4 C) 24) ⟨(by (repeat' (first | (with_reducible assumption) | (with_reducible exact Below.refl _ _) | (with_reducible refine Below.drew ?_) | (with_reducible refine Below.alloc ?_ ?_ _) | (with_reducible refine below_set ?_ ?_ _ _) | (with_reducible refine below_setRow ?_ ?_ _) | (with_reducible refine below_step ?_ (by assumption) ?_))) <;> (first | omega | ((try simp only [World.size_alloc, World.size_setCell, World.size_drew, size_setRow]); omega))), blk_alloc (blk_alloc (blk_new _ _ rfl) _) _, blk_alloc (blk_new _ _ (by simp)) _, blk_new _ _ (by simp)⟩ ?_
  rintro W0 ⟨bel, k_t3, k_t4, k_t5⟩
  have lt_t3_0 := blk_lt k_t3
  have lt_t4_0 := blk_lt k_t4
  have lt_t5_0 := blk_lt k_t5
  have gf := GF_ext hG bel
  have gm := gf.1
  have gi := gf.2
  have c_X1 := fAdd_c B C hB hC
  obtain ⟨X1, hX1⟩ : ∃ v_, v_ = (B + C) % PP := ⟨_, rfl⟩
  rw [← hX1] at c_X1
  have bX1 : X1 < P256 := by rw [hX1]; exact mod_256 _
  have HX1 := Lib.hid hX1
  clear hX1
  have c_X2 := fMul_c A X1 hA bX1
  obtain ⟨X2, hX2⟩ : ∃ v_, v_ = A * X1 % PP := ⟨_, rfl⟩
  rw [← hX2] at c_X2
  have bX2 : X2 < P256 := by rw [hX2]; exact mod_256 _
  have HX2 := Lib.hid hX2
  clear hX2
  refine wp_region_xn 5 [⟨5, 7, #[.int .u64 0, .int .u64 0, .int .u64 0, .int .u64 0], 24⟩] (by kernel_rfl) ?_ (by kernel_rfl) ?_
  · intro x hx
    simp only [List.mem_cons, List.not_mem_nil, or_false] at hx
    subst hx; exact ⟨_, rfl, rfl, rfl, fun _ _ => by kernel_rfl⟩
  simp only [List.take_succ_cons, List.take_zero, List.take_nil]
  (try simp only [Act.put, List.setIfInBounds_toArray, List.set_cons_zero, List.set_cons_succ])
  ((with_reducible refine wpX_load (b := ?_) (cs := ?_) ?_ rfl ?_ ?_ ?_ ?_ ?_); rotate_left 2; (focus rfl); (focus rfl); (focus first | assumption | exact blk_rd (by assumption)); (focus kernel_rfl); (focus kernel_rfl); (try simp only [Act.put, List.setIfInBounds_toArray, List.set_cons_zero, List.set_cons_succ]))
  ((with_reducible refine wpX_load (b := ?_) (cs := ?_) ?_ rfl ?_ ?_ ?_ ?_ ?_); rotate_left 2; (focus rfl); (focus rfl); (focus first | assumption | exact blk_rd (by assumption)); (focus kernel_rfl); (focus kernel_rfl); (try simp only [Act.put, List.setIfInBounds_toArray, List.set_cons_zero, List.set_cons_succ]))
  ((with_reducible refine wpX_load (b := ?_) (cs := ?_) ?_ rfl ?_ ?_ ?_ ?_ ?_); rotate_left 2; (focus rfl); (focus rfl); (focus first | assumption | exact blk_rd (by assumption)); (focus kernel_rfl); (focus kernel_rfl); (try simp only [Act.put, List.setIfInBounds_toArray, List.set_cons_zero, List.set_cons_succ]))
  ((with_reducible refine wpX_fn (fun W hW => c_X1 W (GF_ext gf hW)) ?_ rfl ?_ ?_ ?_); (focus rfl); (focus kernel_rfl); (focus rfl); (try simp only [Act.put, List.setIfInBounds_toArray, List.set_cons_zero, List.set_cons_succ]))
  ((with_reducible refine wpX_fn (fun W hW => c_X2 W (GF_ext gf hW)) ?_ rfl ?_ ?_ ?_); (focus rfl); (focus kernel_rfl); (focus rfl); (try simp only [Act.put, List.setIfInBounds_toArray, List.set_cons_zero, List.set_cons_succ]))
  refine wpX_nil ?_
  intro β W1 hE hN hD
  obtain ⟨n_t7_1, k_t7⟩ := hN _ (List.mem_cons_self ..)
  simp only [putAll, Act.put, List.setIfInBounds_toArray, List.set_cons_zero, List.set_cons_succ, List.drop_succ_cons, List.drop_zero, List.drop_nil, List.length_cons, List.length_nil] at n_t7_1 k_t7 ⊢
  generalize β 5 = p7_1 at *
  have sz_1 := bel.size
  clear hN hD β
  refine wpL_store (g := p7_1) (cells := c4 X2) (by rfl) rfl rfl rfl k_t7 (by kernel_rfl) (by kernel_rfl) (by kernel_rfl) ?_
  (try simp only [Act.put, List.setIfInBounds_toArray, List.set_cons_zero, List.set_cons_succ])
  refine wpL_nil ?_
  refine NoPanic.normal (Q := Exit.then _ _) ?_
  have hF : Below w.heap.size w (W1.setRow p7_1 (c4 X2)) ∧ Blk (W1.setRow p7_1 (c4 X2)) w.heap.size (c4 A) 24 ∧ Blk (W1.setRow p7_1 (c4 X2)) (w.heap.size + 1) (c4 B) 24 ∧ Blk (W1.setRow p7_1 (c4 X2)) (w.heap.size + 2) (c4 C) 24 ∧ Blk (W1.setRow p7_1 (c4 X2)) p7_1 (c4 X2) 24 := ⟨(below_setRow (below_step bel hE bel.size) (by omega) _), (blk_setRow_other (blk_step k_t3 hE) (by omega) _), (blk_setRow_other (blk_step k_t4 hE) (by omega) _), (blk_setRow_other (blk_step k_t5 hE) (by omega) _), (blk_setRow k_t7 (c4 X2))⟩
  generalize (W1.setRow p7_1 (c4 X2)) = W2 at hF ⊢
  clear bel k_t3 k_t4 k_t5 k_t7
  obtain ⟨bel, k_t3, k_t4, k_t5, k_t7⟩ := hF
  go_upto_region 2 with fail
  have lt_t7_2 := blk_lt k_t7
  have gf := GF_ext hG bel
  have gm := gf.1
  have gi := gf.2
  have c_X3 := fMul_c A B hA hB
  obtain ⟨X3, hX3⟩ : ∃ v_, v_ = A * B % PP := ⟨_, rfl⟩
  rw [← hX3] at c_X3
  have bX3 : X3 < P256 := by rw [hX3]; exact mod_256 _
  have HX3 := Lib.hid hX3
  clear hX3
  have c_X4 := fMul_c A C hA hC
  obtain ⟨X4, hX4⟩ : ∃ v_, v_ = A * C % PP := ⟨_, rfl⟩
  rw [← hX4] at c_X4
  have bX4 : X4 < P256 := by rw [hX4]; exact mod_256 _
  have HX4 := Lib.hid hX4
  clear hX4
  have c_X5 := fAdd_c X3 X4 bX3 bX4
  obtain ⟨X5, hX5⟩ : ∃ v_, v_ = (X3 + X4) % PP := ⟨_, rfl⟩
  rw [← hX5] at c_X5
  have bX5 : X5 < P256 := by rw [hX5]; exact mod_256 _
  have HX5 := Lib.hid hX5
  clear hX5
  refine wp_region_xn 7 [⟨7, 8, #[.int .u64 0, .int .u64 0, .int .u64 0, .int .u64 0], 24⟩] (by kernel_rfl) ?_ (by kernel_rfl) ?_
  · intro x hx
    simp only [List.mem_cons, List.not_mem_nil, or_false] at hx
    subst hx; exact ⟨_, rfl, rfl, rfl, fun _ _ => by kernel_rfl⟩
  simp only [List.take_succ_cons, List.take_zero, List.take_nil]
  (try simp only [Act.put, List.setIfInBounds_toArray, List.set_cons_zero, List.set_cons_succ])
  ((with_reducible refine wpX_load (b := ?_) (cs := ?_) ?_ rfl ?_ ?_ ?_ ?_ ?_); rotate_left 2; (focus rfl); (focus rfl); (focus first | assumption | exact blk_rd (by assumption)); (focus kernel_rfl); (focus kernel_rfl); (try simp only [Act.put, List.setIfInBounds_toArray, List.set_cons_zero, List.set_cons_succ]))
  ((with_reducible refine wpX_load (b := ?_) (cs := ?_) ?_ rfl ?_ ?_ ?_ ?_ ?_); rotate_left 2; (focus rfl); (focus rfl); (focus first | assumption | exact blk_rd (by assumption)); (focus kernel_rfl); (focus kernel_rfl); (try simp only [Act.put, List.setIfInBounds_toArray, List.set_cons_zero, List.set_cons_succ]))
  ((with_reducible refine wpX_fn (fun W hW => c_X3 W (GF_ext gf hW)) ?_ rfl ?_ ?_ ?_); (focus rfl); (focus kernel_rfl); (focus rfl); (try simp only [Act.put, List.setIfInBounds_toArray, List.set_cons_zero, List.set_cons_succ]))
  ((with_reducible refine wpX_load (b := ?_) (cs := ?_) ?_ rfl ?_ ?_ ?_ ?_ ?_); rotate_left 2; (focus rfl); (focus rfl); (focus first | assumption | exact blk_rd (by assumption)); (focus kernel_rfl); (focus kernel_rfl); (try simp only [Act.put, List.setIfInBounds_toArray, List.set_cons_zero, List.set_cons_succ]))
  ((with_reducible refine wpX_load (b := ?_) (cs := ?_) ?_ rfl ?_ ?_ ?_ ?_ ?_); rotate_left 2; (focus rfl); (focus rfl); (focus first | assumption | exact blk_rd (by assumption)); (focus kernel_rfl); (focus kernel_rfl); (try simp only [Act.put, List.setIfInBounds_toArray, List.set_cons_zero, List.set_cons_succ]))
  ((with_reducible refine wpX_fn (fun W hW => c_X4 W (GF_ext gf hW)) ?_ rfl ?_ ?_ ?_); (focus rfl); (focus kernel_rfl); (focus rfl); (try simp only [Act.put, List.setIfInBounds_toArray, List.set_cons_zero, List.set_cons_succ]))
  ((with_reducible refine wpX_fn (fun W hW => c_X5 W (GF_ext gf hW)) ?_ rfl ?_ ?_ ?_); (focus rfl); (focus kernel_rfl); (focus rfl); (try simp only [Act.put, List.setIfInBounds_toArray, List.set_cons_zero, List.set_cons_succ]))
  refine wpX_nil ?_
  intro β W3 hE hN hD
  obtain ⟨n_t8_3, k_t8⟩ := hN _ (List.mem_cons_self ..)
  simp only [putAll, Act.put, List.setIfInBounds_toArray, List.set_cons_zero, List.set_cons_succ, List.drop_succ_cons, List.drop_zero, List.drop_nil, List.length_cons, List.length_nil] at n_t8_3 k_t8 ⊢
  generalize β 7 = p8_3 at *
  have sz_3 := bel.size
  clear hN hD β
  refine wpL_store (g := p8_3) (cells := c4 X5) (by rfl) rfl rfl rfl k_t8 (by kernel_rfl) (by kernel_rfl) (by kernel_rfl) ?_
  (try simp only [Act.put, List.setIfInBounds_toArray, List.set_cons_zero, List.set_cons_succ])
  refine wpL_nil ?_
  refine NoPanic.normal (Q := Exit.then _ _) ?_
  have hF : Below w.heap.size w (W3.setRow p8_3 (c4 X5)) ∧ Blk (W3.setRow p8_3 (c4 X5)) w.heap.size (c4 A) 24 ∧ Blk (W3.setRow p8_3 (c4 X5)) (w.heap.size + 1) (c4 B) 24 ∧ Blk (W3.setRow p8_3 (c4 X5)) (w.heap.size + 2) (c4 C) 24 ∧ Blk (W3.setRow p8_3 (c4 X5)) p7_1 (c4 X2) 24 ∧ Blk (W3.setRow p8_3 (c4 X5)) p8_3 (c4 X5) 24 := ⟨(below_setRow (below_step bel hE bel.size) (by omega) _), (blk_setRow_other (blk_step k_t3 hE) (by omega) _), (blk_setRow_other (blk_step k_t4 hE) (by omega) _), (blk_setRow_other (blk_step k_t5 hE) (by omega) _), (blk_setRow_other (blk_step k_t7 hE) (by omega) _), (blk_setRow k_t8 (c4 X5))⟩
  generalize (W3.setRow p8_3 (c4 X5)) = W4 at hF ⊢
  clear bel k_t3 k_t4 k_t5 k_t7 k_t8
  obtain ⟨bel, k_t3, k_t4, k_t5, k_t7, k_t8⟩ := hF
  go_upto_region 3 with fail
  have lt_t8_4 := blk_lt k_t8
  have gf := GF_ext hG bel
  have gm := gf.1
  have gi := gf.2
  have c_X6 := fMul_c A A hA hA
  obtain ⟨X6, hX6⟩ : ∃ v_, v_ = A * A % PP := ⟨_, rfl⟩
  rw [← hX6] at c_X6
  have bX6 : X6 < P256 := by rw [hX6]; exact mod_256 _
  have HX6 := Lib.hid hX6
  clear hX6
  have c_X7 := fRoot_c X6 1 bX6 (by decide)
  rw [show rtB X6 1 = true by rw [HX6.out]; exact (rt_square A).1] at c_X7
  obtain ⟨X7, hX7⟩ : ∃ v_, v_ = rtR X6 1 := ⟨_, rfl⟩
  rw [← hX7] at c_X7
  have bX7 : X7 < P256 := by rw [hX7]; exact rtR_lt _ _
  have HX7 := Lib.hid hX7
  clear hX7
  refine wp_region_pn 8 [⟨8, 9, #[.int .u64 0, .int .u64 0, .int .u64 0, .int .u64 0], 24⟩] ?_ (by kernel_rfl) ?_
  · intro x hx
    simp only [List.mem_cons, List.not_mem_nil, or_false] at hx
    subst hx; exact ⟨_, rfl, rfl, rfl, fun _ _ => by kernel_rfl⟩
  simp only [List.take_succ_cons, List.take_zero, List.take_nil]
  (try simp only [Act.put, List.setIfInBounds_toArray, List.set_cons_zero, List.set_cons_succ])
  ((with_reducible refine wpX_load (b := ?_) (cs := ?_) ?_ rfl ?_ ?_ ?_ ?_ ?_); rotate_left 2; (focus rfl); (focus rfl); (focus first | assumption | exact blk_rd (by assumption)); (focus kernel_rfl); (focus kernel_rfl); (try simp only [Act.put, List.setIfInBounds_toArray, List.set_cons_zero, List.set_cons_succ]))
  ((with_reducible refine wpX_load (b := ?_) (cs := ?_) ?_ rfl ?_ ?_ ?_ ?_ ?_); rotate_left 2; (focus rfl); (focus rfl); (focus first | assumption | exact blk_rd (by assumption)); (focus kernel_rfl); (focus kernel_rfl); (try simp only [Act.put, List.setIfInBounds_toArray, List.set_cons_zero, List.set_cons_succ]))
  ((with_reducible refine wpX_fn (fun W hW => c_X6 W (GF_ext gf hW)) ?_ rfl ?_ ?_ ?_); (focus rfl); (focus kernel_rfl); (focus rfl); (try simp only [Act.put, List.setIfInBounds_toArray, List.set_cons_zero, List.set_cons_succ]))
  (refine wpX_val (v := ?_) (by rfl) (fun W hW => ?_) ?_; rotate_left 1; (focus (go_simp; first | done | with_reducible rfl)); (try simp only [Act.put, List.setIfInBounds_toArray, List.set_cons_zero, List.set_cons_succ]))
  ((with_reducible refine wpX_fn (fun W hW => c_X7 W (GF_ext gf hW) (GI_ext hI (ext_trans bel hW))) ?_ rfl ?_ ?_ ?_); (focus rfl); (focus kernel_rfl); (focus rfl); (try simp only [Act.put, List.setIfInBounds_toArray, List.set_cons_zero, List.set_cons_succ]))
  (refine wpX_val (v := ?_) (by rfl) (fun W hW => ?_) ?_; rotate_left 1; (focus (go_simp; first | done | with_reducible rfl)); (try simp only [Act.put, List.setIfInBounds_toArray, List.set_cons_zero, List.set_cons_succ]))
  (refine wpX_val (v := ?_) (by rfl) (fun W hW => ?_) ?_; rotate_left 1; (focus (go_simp; first | done | with_reducible rfl)); (try simp only [Act.put, List.setIfInBounds_toArray, List.set_cons_zero, List.set_cons_succ]))
  (refine wpX_val (v := ?_) (by rfl) (fun W hW => ?_) ?_; rotate_left 1; (focus (go_simp; first | done | with_reducible rfl)); (try simp only [Act.put, List.setIfInBounds_toArray, List.set_cons_zero, List.set_cons_succ]))
  refine wpX_nil ?_
  intro β W5 hE hN hD
  obtain ⟨n_t9_5, k_t9⟩ := hN _ (List.mem_cons_self ..)
  simp only [putAll, Act.put, List.setIfInBounds_toArray, List.set_cons_zero, List.set_cons_succ, List.drop_succ_cons, List.drop_zero, List.drop_nil, List.length_cons, List.length_nil] at n_t9_5 k_t9 ⊢
  generalize β 8 = p9_5 at *
  have sz_5 := bel.size
  clear hN hD β
  refine wpL_store (g := p9_5) (cells := c4 X7) (by rfl) rfl rfl rfl k_t9 (by kernel_rfl) (by kernel_rfl) (by kernel_rfl) ?_
  (try simp only [Act.put, List.setIfInBounds_toArray, List.set_cons_zero, List.set_cons_succ])
  (refine wpL_val (v := ?_) (by rfl) ?_ ?_; rotate_left 1; (focus (go_simp; first | done | with_reducible rfl)))
  (try simp only [Act.put, List.setIfInBounds_toArray, List.set_cons_zero, List.set_cons_succ])
  refine wpL_nil ?_
  have hF : Below w.heap.size w (W5.setRow p9_5 (c4 X7)) ∧ Blk (W5.setRow p9_5 (c4 X7)) w.heap.size (c4 A) 24 ∧ Blk (W5.setRow p9_5 (c4 X7)) (w.heap.size + 1) (c4 B) 24 ∧ Blk (W5.setRow p9_5 (c4 X7)) (w.heap.size + 2) (c4 C) 24 ∧ Blk (W5.setRow p9_5 (c4 X7)) p7_1 (c4 X2) 24 ∧ Blk (W5.setRow p9_5 (c4 X7)) p8_3 (c4 X5) 24 ∧ Blk (W5.setRow p9_5 (c4 X7)) p9_5 (c4 X7) 24 := ⟨(below_setRow (below_step bel hE bel.size) (by omega) _), (blk_setRow_other (blk_step k_t3 hE) (by omega) _), (blk_setRow_other (blk_step k_t4 hE) (by omega) _), (blk_setRow_other (blk_step k_t5 hE) (by omega) _), (blk_setRow_other (blk_step k_t7 hE) (by omega) _), (blk_setRow_other (blk_step k_t8 hE) (by omega) _), (blk_setRow k_t9 (c4 X7))⟩
  generalize (W5.setRow p9_5 (c4 X7)) = W6 at hF ⊢
  clear bel k_t3 k_t4 k_t5 k_t7 k_t8 k_t9
  obtain ⟨bel, k_t3, k_t4, k_t5, k_t7, k_t8, k_t9⟩ := hF
  go_upto_region 4 with fail
  have lt_t9_6 := blk_lt k_t9
  have gf := GF_ext hG bel
  have gm := gf.1
  have gi := gf.2
  have e_s9 : X2 = X5 := by rw [HX2.out, HX1.out, HX5.out, HX3.out, HX4.out]; exact law_dist A B C
  have e_q8 := eqEl X2 X5 bX2 bX5
  rw [decide_eq_true e_s9] at e_q8
  clear e_s9
  have e_s11 : ¬ X7 % PP = A % PP := by rw [HX7.out, HX6.out]; exact h1
  have c_s10 := fSame_c X7 A bX7 hA
  rw [decide_eq_false e_s11] at c_s10
  clear e_s11
  have c_X12 := fNeg_c A hA
  obtain ⟨X12, hX12⟩ : ∃ v_, v_ = (PP - A % PP) % PP := ⟨_, rfl⟩
  rw [← hX12] at c_X12
  have bX12 : X12 < P256 := by rw [hX12]; exact mod_256 _
  have HX12 := Lib.hid hX12
  clear hX12
  have e_s14 : X7 % PP = X12 % PP := by rw [HX7.out, HX6.out, HX12.out]; exact law_root A h1
  have c_s13 := fSame_c X7 X12 bX7 bX12
  rw [decide_eq_true e_s14] at c_s13
  clear e_s14
  have c_X15 := fNeg_c A hA
  obtain ⟨X15, hX15⟩ : ∃ v_, v_ = (PP - A % PP) % PP := ⟨_, rfl⟩
  rw [← hX15] at c_X15
  have bX15 : X15 < P256 := by rw [hX15]; exact mod_256 _
  have HX15 := Lib.hid hX15
  clear hX15
  have c_X16 := fAdd_c A X15 hA bX15
  obtain ⟨X16, hX16⟩ : ∃ v_, v_ = (A + X15) % PP := ⟨_, rfl⟩
  rw [← hX16] at c_X16
  have bX16 : X16 < P256 := by rw [hX16]; exact mod_256 _
  have HX16 := Lib.hid hX16
  clear hX16
  have e_s18 : X16 = 0 := by rw [HX16.out, HX15.out]; exact law_opp A
  have e_q17 := eqEl X16 0 bX16 (by decide)
  rw [decide_eq_true e_s18] at e_q17
  clear e_s18
  refine wp_region_xn 29 [] (by kernel_rfl) (fun x hx => by cases hx) (by kernel_rfl) ?_
  simp only [List.take_succ_cons, List.take_zero, List.take_nil]
  (try simp only [Act.put, List.setIfInBounds_toArray, List.set_cons_zero, List.set_cons_succ])
  ((with_reducible refine wpX_fn (fun W hW => halves_c W (GF_ext gf hW)) ?_ rfl ?_ ?_ ?_); (focus rfl); (focus kernel_rfl); (focus rfl); (try simp only [Act.put, List.setIfInBounds_toArray, List.set_cons_zero, List.set_cons_succ]))
  (refine wpX_val (v := ?_) (by rfl) (fun W hW => ?_) ?_; rotate_left 1; (focus (go_simp; first | done | with_reducible rfl)); (try simp only [Act.put, List.setIfInBounds_toArray, List.set_cons_zero, List.set_cons_succ]))
  ((with_reducible refine wpX_load (b := ?_) (cs := ?_) ?_ rfl ?_ ?_ ?_ ?_ ?_); rotate_left 2; (focus rfl); (focus rfl); (focus first | assumption | exact blk_rd (by assumption)); (focus kernel_rfl); (focus kernel_rfl); (try simp only [Act.put, List.setIfInBounds_toArray, List.set_cons_zero, List.set_cons_succ]))
  ((with_reducible refine wpX_load (b := ?_) (cs := ?_) ?_ rfl ?_ ?_ ?_ ?_ ?_); rotate_left 2; (focus rfl); (focus rfl); (focus first | assumption | exact blk_rd (by assumption)); (focus kernel_rfl); (focus kernel_rfl); (try simp only [Act.put, List.setIfInBounds_toArray, List.set_cons_zero, List.set_cons_succ]))
  ((with_reducible refine wpX_eqlA (e_q8) ?_ ?_ rfl ?_ ?_ ?_); (focus kernel_rfl); (focus rfl); (focus rfl); (focus rfl); (try simp only [Act.put, List.setIfInBounds_toArray, List.set_cons_zero, List.set_cons_succ]))
  (refine wpX_val (v := ?_) (by rfl) (fun W hW => ?_) ?_; rotate_left 1; (focus (go_simp; first | done | with_reducible rfl)); (try simp only [Act.put, List.setIfInBounds_toArray, List.set_cons_zero, List.set_cons_succ]))
  (refine wpX_val (v := ?_) (by rfl) (fun W hW => ?_) ?_; rotate_left 1; (focus (go_simp; first | done | with_reducible rfl)); (try simp only [Act.put, List.setIfInBounds_toArray, List.set_cons_zero, List.set_cons_succ]))
  (refine wpX_val (v := ?_) (by rfl) (fun W hW => ?_) ?_; rotate_left 1; (focus (go_simp; first | done | with_reducible rfl)); (try simp only [Act.put, List.setIfInBounds_toArray, List.set_cons_zero, List.set_cons_succ]))
  (refine wpX_val (v := ?_) (by rfl) (fun W hW => ?_) ?_; rotate_left 1; (focus (go_simp; first | done | with_reducible rfl)); (try simp only [Act.put, List.setIfInBounds_toArray, List.set_cons_zero, List.set_cons_succ]))
  (refine wpX_val (v := ?_) (by rfl) (fun W hW => ?_) ?_; rotate_left 1; (focus (go_simp; first | done | with_reducible rfl)); (try simp only [Act.put, List.setIfInBounds_toArray, List.set_cons_zero, List.set_cons_succ]))
  ((with_reducible refine wpX_load (b := ?_) (cs := ?_) ?_ rfl ?_ ?_ ?_ ?_ ?_); rotate_left 2; (focus rfl); (focus rfl); (focus first | assumption | exact blk_rd (by assumption)); (focus kernel_rfl); (focus kernel_rfl); (try simp only [Act.put, List.setIfInBounds_toArray, List.set_cons_zero, List.set_cons_succ]))
  ((with_reducible refine wpX_load (b := ?_) (cs := ?_) ?_ rfl ?_ ?_ ?_ ?_ ?_); rotate_left 2; (focus rfl); (focus rfl); (focus first | assumption | exact blk_rd (by assumption)); (focus kernel_rfl); (focus kernel_rfl); (try simp only [Act.put, List.setIfInBounds_toArray, List.set_cons_zero, List.set_cons_succ]))
  ((with_reducible refine wpX_fn (fun W hW => c_s10 W (GF_ext gf hW)) ?_ rfl ?_ ?_ ?_); (focus rfl); (focus kernel_rfl); (focus rfl); (try simp only [Act.put, List.setIfInBounds_toArray, List.set_cons_zero, List.set_cons_succ]))
  (refine wpX_val (v := ?_) (by rfl) (fun W hW => ?_) ?_; rotate_left 1; (focus (go_simp; first | done | with_reducible rfl)); (try simp only [Act.put, List.setIfInBounds_toArray, List.set_cons_zero, List.set_cons_succ]))
  ((with_reducible refine wpX_load (b := ?_) (cs := ?_) ?_ rfl ?_ ?_ ?_ ?_ ?_); rotate_left 2; (focus rfl); (focus rfl); (focus first | assumption | exact blk_rd (by assumption)); (focus kernel_rfl); (focus kernel_rfl); (try simp only [Act.put, List.setIfInBounds_toArray, List.set_cons_zero, List.set_cons_succ]))
  ((with_reducible refine wpX_load (b := ?_) (cs := ?_) ?_ rfl ?_ ?_ ?_ ?_ ?_); rotate_left 2; (focus rfl); (focus rfl); (focus first | assumption | exact blk_rd (by assumption)); (focus kernel_rfl); (focus kernel_rfl); (try simp only [Act.put, List.setIfInBounds_toArray, List.set_cons_zero, List.set_cons_succ]))
  ((with_reducible refine wpX_fn (fun W hW => c_X12 W (GF_ext gf hW)) ?_ rfl ?_ ?_ ?_); (focus rfl); (focus kernel_rfl); (focus rfl); (try simp only [Act.put, List.setIfInBounds_toArray, List.set_cons_zero, List.set_cons_succ]))
  ((with_reducible refine wpX_fn (fun W hW => c_s13 W (GF_ext gf hW)) ?_ rfl ?_ ?_ ?_); (focus rfl); (focus kernel_rfl); (focus rfl); (try simp only [Act.put, List.setIfInBounds_toArray, List.set_cons_zero, List.set_cons_succ]))
  (refine wpX_val (v := ?_) (by rfl) (fun W hW => ?_) ?_; rotate_left 1; (focus (go_simp; first | done | with_reducible rfl)); (try simp only [Act.put, List.setIfInBounds_toArray, List.set_cons_zero, List.set_cons_succ]))
  (refine wpX_val (v := ?_) (by rfl) (fun W hW => ?_) ?_; rotate_left 1; (focus (go_simp; first | done | with_reducible rfl)); (try simp only [Act.put, List.setIfInBounds_toArray, List.set_cons_zero, List.set_cons_succ]))
  (refine wpX_val (v := ?_) (by rfl) (fun W hW => ?_) ?_; rotate_left 1; (focus (go_simp; first | done | with_reducible rfl)); (try simp only [Act.put, List.setIfInBounds_toArray, List.set_cons_zero, List.set_cons_succ]))
  ((with_reducible refine wpX_load (b := ?_) (cs := ?_) ?_ rfl ?_ ?_ ?_ ?_ ?_); rotate_left 2; (focus rfl); (focus rfl); (focus first | assumption | exact blk_rd (by assumption)); (focus kernel_rfl); (focus kernel_rfl); (try simp only [Act.put, List.setIfInBounds_toArray, List.set_cons_zero, List.set_cons_succ]))
  ((with_reducible refine wpX_load (b := ?_) (cs := ?_) ?_ rfl ?_ ?_ ?_ ?_ ?_); rotate_left 2; (focus rfl); (focus rfl); (focus first | assumption | exact blk_rd (by assumption)); (focus kernel_rfl); (focus kernel_rfl); (try simp only [Act.put, List.setIfInBounds_toArray, List.set_cons_zero, List.set_cons_succ]))
  ((with_reducible refine wpX_fn (fun W hW => c_X15 W (GF_ext gf hW)) ?_ rfl ?_ ?_ ?_); (focus rfl); (focus kernel_rfl); (focus rfl); (try simp only [Act.put, List.setIfInBounds_toArray, List.set_cons_zero, List.set_cons_succ]))
  ((with_reducible refine wpX_fn (fun W hW => c_X16 W (GF_ext gf hW)) ?_ rfl ?_ ?_ ?_); (focus rfl); (focus kernel_rfl); (focus rfl); (try simp only [Act.put, List.setIfInBounds_toArray, List.set_cons_zero, List.set_cons_succ]))
  (refine wpX_val (v := ?_) (by rfl) (fun W hW => ?_) ?_; rotate_left 1; (focus (go_simp; first | done | with_reducible rfl)); (try simp only [Act.put, List.setIfInBounds_toArray, List.set_cons_zero, List.set_cons_succ]))
  ((with_reducible refine wpX_eqlA (e_q17) ?_ ?_ rfl ?_ ?_ ?_); (focus kernel_rfl); (focus rfl); (focus rfl); (focus rfl); (try simp only [Act.put, List.setIfInBounds_toArray, List.set_cons_zero, List.set_cons_succ]))
  (refine wpX_val (v := ?_) (by rfl) (fun W hW => ?_) ?_; rotate_left 1; (focus (go_simp; first | done | with_reducible rfl)); (try simp only [Act.put, List.setIfInBounds_toArray, List.set_cons_zero, List.set_cons_succ]))
  (refine wpX_val (v := ?_) (by rfl) (fun W hW => ?_) ?_; rotate_left 1; (focus (go_simp; first | done | with_reducible rfl)); (try simp only [Act.put, List.setIfInBounds_toArray, List.set_cons_zero, List.set_cons_succ]))
  refine wpX_nil ?_
  intro β W7 hE hN hD
  simp only [putAll, Act.put, List.setIfInBounds_toArray, List.set_cons_zero, List.set_cons_succ, List.drop_succ_cons, List.drop_zero, List.drop_nil, List.length_cons, List.length_nil]
  clear hN hD β
  refine wpL_nil ?_
  refine NoPanic.normal (Q := Exit.then _ _) ?_
  have hF : Below w.heap.size w W7 ∧ Blk W7 w.heap.size (c4 A) 24 ∧ Blk W7 (w.heap.size + 1) (c4 B) 24 ∧ Blk W7 (w.heap.size + 2) (c4 C) 24 ∧ Blk W7 p7_1 (c4 X2) 24 ∧ Blk W7 p8_3 (c4 X5) 24 ∧ Blk W7 p9_5 (c4 X7) 24 := ⟨(below_step bel hE bel.size), (blk_step k_t3 hE), (blk_step k_t4 hE), (blk_step k_t5 hE), (blk_step k_t7 hE), (blk_step k_t8 hE), (blk_step k_t9 hE)⟩
  clear bel k_t3 k_t4 k_t5 k_t7 k_t8 k_t9
  obtain ⟨bel, k_t3, k_t4, k_t5, k_t7, k_t8, k_t9⟩ := hF
  go_wp2
  refine bodyPost_ret (v := .bool true) (by simp only [results, Tryd.results6]; go_simp) rfl ⟨?_, bel⟩
  rfl
theorem fieldLaws_c (A B C : Nat) (hA : A < P256) (hB : B < P256) (hC : C < P256) (w : World) (hG : GF w) (hI : GI w) : Calls Tryd.prog 6 #[L4 A, L4 B, L4 C] w fun e w' => Ret (.bool true) w w' e := by
  by_cases h1 : rtR (A * A % PP) 1 % PP = A % PP
  · exact fieldLaws_1 A B C hA hB hC h1 w hG hI
  · exact fieldLaws_0 A B C hA hB hC h1 w hG hI
end Go.Proofs.YtjikomnnhbbmaaaDoor
