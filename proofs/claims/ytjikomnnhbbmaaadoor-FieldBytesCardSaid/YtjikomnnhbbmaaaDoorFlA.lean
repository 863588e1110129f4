/- custumallaw05.of, same, halves. Conditions: the cells of the field's two variables hold the two numbers. -/
import Derived.Test.YtjikomnnhbbmaaaDoorFrI
import Derived.Test.YtjikomnnhbbmaaaDoorFeH
namespace Go.Proofs.YtjikomnnhbbmaaaDoor
set_option linter.unusedSimpArgs false
set_option linter.unusedVariables false
open Go.RowKit

set_option maxHeartbeats 4000000 in
theorem lOf_c (A : Nat) (hA : A < P256) (w : World) :
    Calls Tryd.prog 8 #[L4 A] w fun e w' => Ret (A16 (A % PP)) w w' e := by
  go_enter Tryd.func8, Tryd.ntmps8
  go_upto_region 1 with fail
  refine wp_world (fun W => Below w.heap.size w W ∧ Blk W w.heap.size (c4 A) 24 ∧ Blk W (w.heap.size + 1) (arrK .i64 16 (fun _ => 0)) 26) ⟨(by (repeat' (first | (with_reducible assumption) | (with_reducible exact Below.refl _ _) | (with_reducible refine Below.drew ?_) | (with_reducible refine Below.alloc ?_ ?_ _) | (with_reducible refine below_set ?_ ?_ _ _) | (with_reducible refine below_setRow ?_ ?_ _) | (with_reducible refine below_step ?_ (by assumption) ?_))) <;> (first | omega | ((try simp only [World.size_alloc, World.size_setCell, World.size_drew, size_setRow]); omega))), blk_alloc (blk_new _ _ rfl) _, blk_new _ _ (by simp)⟩ ?_
  rintro W0 ⟨bel, k_t1, k_t2⟩
  have lt_t1_0 := blk_lt k_t1
  have lt_t2_0 := blk_lt k_t2
  have c_o := rOf_c A hA
  obtain ⟨Z, hZ⟩ : ∃ v_, v_ = A % PP := ⟨_, rfl⟩
  rw [← hZ] at c_o
  have HZ := Lib.hid hZ
  clear hZ
  refine wp_region_pn 2 [] (fun x hx => by cases hx) (by kernel_rfl) ?_
  simp only [List.take_succ_cons, List.take_zero, List.take_nil]
  (try simp only [Act.put, List.setIfInBounds_toArray, List.set_cons_zero, List.set_cons_succ])
  ((with_reducible refine wpX_load (b := ?_) (cs := ?_) ?_ rfl ?_ ?_ ?_ ?_ ?_); rotate_left 2; (focus rfl); (focus rfl); (focus first | assumption | exact blk_rd (by assumption)); (focus kernel_rfl); (focus kernel_rfl); (try simp only [Act.put, List.setIfInBounds_toArray, List.set_cons_zero, List.set_cons_succ]))
  ((with_reducible refine wpX_fn (fun W hW => c_o W) ?_ rfl ?_ ?_ ?_); (focus rfl); (focus kernel_rfl); (focus rfl); (try simp only [Act.put, List.setIfInBounds_toArray, List.set_cons_zero, List.set_cons_succ]))
  refine wpX_nil ?_
  intro β W1 hE hN hD
  simp only [putAll, Act.put, List.setIfInBounds_toArray, List.set_cons_zero, List.set_cons_succ, List.drop_succ_cons, List.drop_zero, List.drop_nil, List.length_cons, List.length_nil]
  clear hN hD β
  refine wpL_store (g := (w.heap.size + 1)) (cells := arrK .i64 16 (l16 Z)) (by rfl) rfl rfl rfl (blk_step k_t2 hE) (by kernel_rfl) (by kernel_rfl) (arrK_one _ _ _) ?_
  (try simp only [Act.put, List.setIfInBounds_toArray, List.set_cons_zero, List.set_cons_succ])
  refine wpL_nil ?_
  have hF : Below w.heap.size w (W1.setRow (w.heap.size + 1) (arrK .i64 16 (l16 Z))) ∧ Blk (W1.setRow (w.heap.size + 1) (arrK .i64 16 (l16 Z))) w.heap.size (c4 A) 24 ∧ Blk (W1.setRow (w.heap.size + 1) (arrK .i64 16 (l16 Z))) (w.heap.size + 1) (arrK .i64 16 (l16 Z)) 26 := ⟨(below_setRow (below_step bel hE bel.size) (by omega) _), (blk_setRow_other (blk_step k_t1 hE) (by omega) _), (blk_setRow (blk_step k_t2 hE) (arrK .i64 16 (l16 Z)))⟩
  generalize (W1.setRow (w.heap.size + 1) (arrK .i64 16 (l16 Z))) = W2 at hF ⊢
  clear bel k_t1 k_t2
  obtain ⟨bel, k_t1, k_t2⟩ := hF
  go_wp2
  refine bodyPost_ret (res_row rfl rfl k_t2 (by kernel_rfl) (by kernel_rfl)) rfl ⟨?_, bel⟩
  (rw [← HZ.out] <;> rfl)
set_option maxHeartbeats 4000000 in
theorem lSame_c (A X : Nat) (hA : A < P256) (hX : X < P256) (w : World) :
    Calls Tryd.prog 11 #[L4 A, A16 X] w fun e w' => Ret (.bool (decide (A = X))) w w' e := by
  unfold A16
  go_enter Tryd.func11, Tryd.ntmps11
  go_upto_region 1 with fail
  refine wp_world (fun W => Below w.heap.size w W ∧ Blk W w.heap.size (c4 A) 24 ∧ Blk W (w.heap.size + 1) (arrK .i64 16 (l16 X)) 26) ⟨(by (repeat' (first | (with_reducible assumption) | (with_reducible exact Below.refl _ _) | (with_reducible refine Below.drew ?_) | (with_reducible refine Below.alloc ?_ ?_ _) | (with_reducible refine below_set ?_ ?_ _ _) | (with_reducible refine below_setRow ?_ ?_ _) | (with_reducible refine below_step ?_ (by assumption) ?_))) <;> (first | omega | ((try simp only [World.size_alloc, World.size_setCell, World.size_drew, size_setRow]); omega))), blk_alloc (blk_new _ _ rfl) _, blk_new _ _ (by simp)⟩ ?_
  rintro W0 ⟨bel, k_t2, k_t3⟩
  have lt_t2_0 := blk_lt k_t2
  have lt_t3_0 := blk_lt k_t3
  have c_p := rParts_c X hX
  have e_4 := eq44 A X hA hX
  refine wp_region_xn 5 [] (by kernel_rfl) (fun x hx => by cases hx) (by kernel_rfl) ?_
  simp only [List.take_succ_cons, List.take_zero, List.take_nil]
  (try simp only [Act.put, List.setIfInBounds_toArray, List.set_cons_zero, List.set_cons_succ])
  ((with_reducible refine wpX_load (b := ?_) (cs := ?_) ?_ rfl ?_ ?_ ?_ ?_ ?_); rotate_left 2; (focus rfl); (focus rfl); (focus first | assumption | exact blk_rd (by assumption)); (focus kernel_rfl); (focus kernel_rfl); (try simp only [Act.put, List.setIfInBounds_toArray, List.set_cons_zero, List.set_cons_succ]))
  ((with_reducible refine wpX_load (b := ?_) (cs := ?_) ?_ rfl ?_ ?_ ?_ ?_ ?_); rotate_left 2; (focus rfl); (focus rfl); (focus first | assumption | exact blk_rd (by assumption)); (focus kernel_rfl); (focus kernel_rfl); (try simp only [Act.put, List.setIfInBounds_toArray, List.set_cons_zero, List.set_cons_succ]))
  ((with_reducible refine wpX_fn (fun W hW => c_p W) ?_ rfl ?_ ?_ ?_); (focus rfl); (focus kernel_rfl); (focus rfl); (try simp only [Act.put, List.setIfInBounds_toArray, List.set_cons_zero, List.set_cons_succ]))
  ((with_reducible refine wpX_eqlA (e_4) ?_ ?_ rfl ?_ ?_ ?_); (focus kernel_rfl); (focus rfl); (focus rfl); (focus rfl); (try simp only [Act.put, List.setIfInBounds_toArray, List.set_cons_zero, List.set_cons_succ]))
  (refine wpX_val (v := ?_) (by rfl) (fun W hW => ?_) ?_; rotate_left 1; (focus (go_simp; first | done | with_reducible rfl)); (try simp only [Act.put, List.setIfInBounds_toArray, List.set_cons_zero, List.set_cons_succ]))
  refine wpX_nil ?_
  intro β W1 hE hN hD
  simp only [putAll, Act.put, List.setIfInBounds_toArray, List.set_cons_zero, List.set_cons_succ, List.drop_succ_cons, List.drop_zero, List.drop_nil, List.length_cons, List.length_nil]
  clear hN hD β
  refine wpL_nil ?_
  refine NoPanic.normal (Q := Exit.then _ _) ?_
  have hF : Below w.heap.size w W1 ∧ Blk W1 w.heap.size (c4 A) 24 ∧ Blk W1 (w.heap.size + 1) (arrK .i64 16 (l16 X)) 26 := ⟨(below_step bel hE bel.size), (blk_step k_t2 hE), (blk_step k_t3 hE)⟩
  clear bel k_t2 k_t3
  obtain ⟨bel, k_t2, k_t3⟩ := hF
  go_wp2
  refine bodyPost_ret (v := .bool (decide (A = X))) (by simp only [results, Tryd.results11]; go_simp) rfl ⟨?_, bel⟩
  rfl
set_option maxHeartbeats 4000000 in
theorem halves_c (w : World) (hG : GF w) :
    Calls Tryd.prog 10 #[] w fun e w' => Ret (.bool true) w w' e := by
  go_enter Tryd.func10, Tryd.ntmps10
  go_upto_region 1 with fail
  refine wp_world (fun W => Below w.heap.size w W) (by (repeat' (first | (with_reducible assumption) | (with_reducible exact Below.refl _ _) | (with_reducible refine Below.drew ?_) | (with_reducible refine Below.alloc ?_ ?_ _) | (with_reducible refine below_set ?_ ?_ _ _) | (with_reducible refine below_setRow ?_ ?_ _) | (with_reducible refine below_step ?_ (by assumption) ?_))) <;> (first | omega | ((try simp only [World.size_alloc, World.size_setCell, World.size_drew, size_setRow]); omega))) ?_
  intro W0 bel
  have gf := GF_ext hG bel
  have gm := gf.1
  have gi := gf.2
  have c_s1 := small_c 2 (by decide)
  have c_s2 := small_c 2 (by decide)
  have c_X3 := fInv_c 2 (by decide)
  obtain ⟨X3, hX3⟩ : ∃ v_, v_ = pw 2 (PP - 2) := ⟨_, rfl⟩
  rw [← hX3] at c_X3
  have bX3 : X3 < P256 := by rw [hX3]; exact pw_lt _ _
  have HX3 := Lib.hid hX3
  clear hX3
  have c_X4 := fMul_c 2 X3 (by decide) bX3
  obtain ⟨X4, hX4⟩ : ∃ v_, v_ = 2 * X3 % PP := ⟨_, rfl⟩
  rw [← hX4] at c_X4
  have bX4 : X4 < P256 := by rw [hX4]; exact mod_256 _
  have HX4 := Lib.hid hX4
  clear hX4
  have v1 : X4 = 1 := by rw [HX4.out, HX3.out, pw_mp _ _ (by decide)]; decide +kernel
  have e_1 := eqEl X4 1 bX4 (by decide)
  rw [decide_eq_true v1] at e_1
  clear v1
  have c_s5 := small_c 2 (by decide)
  have c_s6 := small_c 3 (by decide)
  have c_X7 := fSub_c 2 3 (by decide) (by decide)
  obtain ⟨X7, hX7⟩ : ∃ v_, v_ = (2 + (PP - 3 % PP)) % PP := ⟨_, rfl⟩
  rw [← hX7] at c_X7
  have bX7 : X7 < P256 := by rw [hX7]; exact mod_256 _
  have HX7 := Lib.hid hX7
  clear hX7
  have hlm : lim X7 3 = 9223372036854775807 := by rw [HX7.out]; decide +kernel
  have hix : ∀ W, (Instr.index 24 (.agg #[.int .u64 (lim X7 0), .int .u64 (lim X7 1), .int .u64 (lim X7 2), .int .u64 (lim X7 3)]) (.int .i64 3)).run Tryd.prog W = .ok (.int .u64 9223372036854775807) W := fun W => by rw [← hlm]; exact run_index_arr W 24 22 4 .u64 .i64 (c4 X7) 3 (lim X7 3) Tryd.underlying24 Tryd.underlying22 (by kernel_rfl) (by decide) (c4_get X7 3 (by decide))
  clear hlm
  refine wp_region_pn 14 [] (fun x hx => by cases hx) (by kernel_rfl) ?_
  simp only [List.take_succ_cons, List.take_zero, List.take_nil]
  (try simp only [Act.put, List.setIfInBounds_toArray, List.set_cons_zero, List.set_cons_succ])
  ((with_reducible refine wpX_fn (fun W hW => c_s1 W) ?_ rfl ?_ ?_ ?_); (focus rfl); (focus kernel_rfl); (focus rfl); (try simp only [Act.put, List.setIfInBounds_toArray, List.set_cons_zero, List.set_cons_succ]))
  ((with_reducible refine wpX_fn (fun W hW => c_s2 W) ?_ rfl ?_ ?_ ?_); (focus rfl); (focus kernel_rfl); (focus rfl); (try simp only [Act.put, List.setIfInBounds_toArray, List.set_cons_zero, List.set_cons_succ]))
  ((with_reducible refine wpX_fn (fun W hW => c_X3 W (GF_ext gf hW)) ?_ rfl ?_ ?_ ?_); (focus rfl); (focus kernel_rfl); (focus rfl); (try simp only [Act.put, List.setIfInBounds_toArray, List.set_cons_zero, List.set_cons_succ]))
  ((with_reducible refine wpX_fn (fun W hW => c_X4 W (GF_ext gf hW)) ?_ rfl ?_ ?_ ?_); (focus rfl); (focus kernel_rfl); (focus rfl); (try simp only [Act.put, List.setIfInBounds_toArray, List.set_cons_zero, List.set_cons_succ]))
  (refine wpX_val (v := ?_) (by rfl) (fun W hW => ?_) ?_; rotate_left 1; (focus (go_simp; first | done | with_reducible rfl)); (try simp only [Act.put, List.setIfInBounds_toArray, List.set_cons_zero, List.set_cons_succ]))
  ((with_reducible refine wpX_eqlA (e_1) ?_ ?_ rfl ?_ ?_ ?_); (focus kernel_rfl); (focus rfl); (focus rfl); (focus rfl); (try simp only [Act.put, List.setIfInBounds_toArray, List.set_cons_zero, List.set_cons_succ]))
  (refine wpX_val (v := ?_) (by rfl) (fun W hW => ?_) ?_; rotate_left 1; (focus (go_simp; first | done | with_reducible rfl)); (try simp only [Act.put, List.setIfInBounds_toArray, List.set_cons_zero, List.set_cons_succ]))
  ((with_reducible refine wpX_fn (fun W hW => c_s5 W) ?_ rfl ?_ ?_ ?_); (focus rfl); (focus kernel_rfl); (focus rfl); (try simp only [Act.put, List.setIfInBounds_toArray, List.set_cons_zero, List.set_cons_succ]))
  ((with_reducible refine wpX_fn (fun W hW => c_s6 W) ?_ rfl ?_ ?_ ?_); (focus rfl); (focus kernel_rfl); (focus rfl); (try simp only [Act.put, List.setIfInBounds_toArray, List.set_cons_zero, List.set_cons_succ]))
  ((with_reducible refine wpX_fn (fun W hW => c_X7 W (GF_ext gf hW)) ?_ rfl ?_ ?_ ?_); (focus rfl); (focus kernel_rfl); (focus rfl); (try simp only [Act.put, List.setIfInBounds_toArray, List.set_cons_zero, List.set_cons_succ]))
  (refine wpX_val (v := ?_) (by rfl) (fun W hW => ?_) ?_; rotate_left 1; (focus (go_simp; first | done | with_reducible rfl)); (try simp only [Act.put, List.setIfInBounds_toArray, List.set_cons_zero, List.set_cons_succ]))
  (refine wpX_val (v := ?_) (by rfl) (fun W hW => ?_) ?_; rotate_left 1; (focus (go_simp; first | done | with_reducible rfl)); (try simp only [Act.put, List.setIfInBounds_toArray, List.set_cons_zero, List.set_cons_succ]))
  (refine wpX_val (v := ?_) (by rfl) (fun W hW => ?_) ?_; rotate_left 1; (focus (go_simp; first | done | with_reducible rfl)); (try simp only [Act.put, List.setIfInBounds_toArray, List.set_cons_zero, List.set_cons_succ]))
  (refine wpX_val (v := ?_) (by rfl) (fun W hW => ?_) ?_; rotate_left 1; (focus (go_simp; first | done | with_reducible rfl)); (try simp only [Act.put, List.setIfInBounds_toArray, List.set_cons_zero, List.set_cons_succ]))
  refine wpX_nil ?_
  intro β W1 hE hN hD
  simp only [putAll, Act.put, List.setIfInBounds_toArray, List.set_cons_zero, List.set_cons_succ, List.drop_succ_cons, List.drop_zero, List.drop_nil, List.length_cons, List.length_nil]
  clear hN hD β
  refine wpL_nil ?_
  have hF : Below w.heap.size w W1 := (below_step bel hE bel.size)
  clear bel 
  have bel := hF
  go_wp2
  refine bodyPost_ret (v := .bool true) (by simp only [results, Tryd.results10]; go_simp) rfl ⟨?_, bel⟩
  rfl
end Go.Proofs.YtjikomnnhbbmaaaDoor
