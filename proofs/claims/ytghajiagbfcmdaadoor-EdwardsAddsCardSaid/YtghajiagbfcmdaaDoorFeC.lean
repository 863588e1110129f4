/- field.Rest, Add, Neg, Sub, Small. Conditions: the cells of field.modulus hold the modulus. -/
import Derived.Test.YtghajiagbfcmdaaDoorFeB
namespace Go.Proofs.YtghajiagbfcmdaaDoor
set_option linter.unusedSimpArgs false
set_option linter.unusedVariables false
open Go.RowKit

theorem modC_eq : Value.agg modC = L4 PP := by kernel_rfl
theorem dif4_hi (A B : Nat) (hA : A < P256) (hB : B < P256) (h : B ≤ A) : dif4 A B = A - B := by unfold dif4 P256 at *; omega
theorem fsub_lo (X : Nat) (hX : X < PP) (w : World) : Calls Tryd.prog 56 #[L4 X, .agg modC] w fun e w' => Ret (.tuple #[L4 (dif4 X PP), .int .u64 1]) w w' e := by
  have := fsub_l X PP (Nat.lt_trans hX PP_lt) PP_lt w
  rw [modC_eq]
  unfold brw at this; rw [if_pos hX] at this; exact this
theorem fsub_hi (X : Nat) (hX : X < P256) (h : PP ≤ X) (w : World) : Calls Tryd.prog 56 #[L4 X, .agg modC] w fun e w' => Ret (.tuple #[L4 (X - PP), .int .u64 0]) w w' e := by
  have := fsub_l X PP hX PP_lt w
  rw [modC_eq]
  rw [dif4_hi X PP hX PP_lt h] at this
  unfold brw at this; rw [if_neg (by omega)] at this; exact this
theorem rest1 (X : Nat) (h : PP ≤ X) (h1 : X - PP < PP) : X - PP = X % PP := by rw [Nat.mod_eq_sub_mod h, Nat.mod_eq_of_lt h1]
theorem rest2 (X : Nat) (h : PP ≤ X) (h1 : PP ≤ X - PP) (h2 : X - PP - PP < PP) : X - PP - PP = X % PP := by rw [Nat.mod_eq_sub_mod h, Nat.mod_eq_sub_mod h1, Nat.mod_eq_of_lt h2]

set_option maxHeartbeats 4000000 in
theorem rest_0 (X : Nat) (hX : X < P256) (hq : X < PP) (w : World) (hG : GF w) :
    Calls Tryd.prog 53 #[L4 X] w fun e w' => Ret (L4 X) w w' e := by
  go_enter Tryd.func53, Tryd.ntmps53
  go_wp2_with fail
  refine wp_loop_rounds 4 ?_
  rw [rounds_succ]
  go_upto_region 1 with fail
  refine wp_world (fun W => Below w.heap.size w W ∧ Blk W w.heap.size (c4 X) 26 ∧ Blk W (w.heap.size + 1) #[.int .u64 0, .int .u64 0, .int .u64 0, .int .u64 0] 26) ⟨(by (repeat' (first | (with_reducible assumption) | (with_reducible exact Below.refl _ _) | (with_reducible refine Below.drew ?_) | (with_reducible refine Below.alloc ?_ ?_ _) | (with_reducible refine below_set ?_ ?_ _ _) | (with_reducible refine below_setRow ?_ ?_ _) | (with_reducible refine below_step ?_ (by assumption) ?_))) <;> (first | omega | ((try simp only [World.size_alloc, World.size_setCell, World.size_drew, size_setRow]); omega))), blk_alloc (blk_new _ _ rfl) _, blk_new _ _ (by simp)⟩ ?_
  rintro W0 ⟨bel, k_t1, k_t2⟩
  have lt_t1_0 := blk_lt k_t1
  have lt_t2_0 := blk_lt k_t2
  have gf := GF_ext hG bel
  have gm := gf.1
  clear gf
  have c_X1 := fsub_lo X hq
  obtain ⟨X1, hX1⟩ : ∃ v_, v_ = dif4 X PP := ⟨_, rfl⟩
  rw [← hX1] at c_X1
  have HX1 := Lib.hid hX1
  clear hX1
  refine wp_region_pn 6 [⟨6, 3, #[.int .u64 0, .int .u64 0, .int .u64 0, .int .u64 0], 26⟩] ?_ (by kernel_rfl) ?_
  · intro x hx
    simp only [List.mem_cons, List.not_mem_nil, or_false] at hx
    subst hx; exact ⟨_, rfl, rfl, rfl, fun _ _ => by kernel_rfl⟩
  simp only [List.take_succ_cons, List.take_zero, List.take_nil]
  (try simp only [Act.put, List.setIfInBounds_toArray, List.set_cons_zero, List.set_cons_succ])
  ((with_reducible refine wpX_load (b := ?_) (cs := ?_) ?_ rfl ?_ ?_ ?_ ?_ ?_); rotate_left 2; (focus rfl); (focus rfl); (focus first | assumption | exact blk_rd (by assumption)); (focus kernel_rfl); (focus kernel_rfl); (try simp only [Act.put, List.setIfInBounds_toArray, List.set_cons_zero, List.set_cons_succ]))
  ((with_reducible refine wpX_load (b := ?_) (cs := ?_) ?_ rfl ?_ ?_ ?_ ?_ ?_); rotate_left 2; (focus rfl); (focus rfl); (focus first | assumption | exact blk_rd (by assumption)); (focus kernel_rfl); (focus kernel_rfl); (try simp only [Act.put, List.setIfInBounds_toArray, List.set_cons_zero, List.set_cons_succ]))
  ((with_reducible refine wpX_fn (fun W hW => c_X1 W) ?_ rfl ?_ ?_ ?_); (focus rfl); (focus kernel_rfl); (focus rfl); (try simp only [Act.put, List.setIfInBounds_toArray, List.set_cons_zero, List.set_cons_succ]))
  (refine wpX_val (v := ?_) (by rfl) (fun W hW => ?_) ?_; rotate_left 1; (focus (go_simp; first | done | with_reducible rfl)); (try simp only [Act.put, List.setIfInBounds_toArray, List.set_cons_zero, List.set_cons_succ]))
  (refine wpX_val (v := ?_) (by rfl) (fun W hW => ?_) ?_; rotate_left 1; (focus (go_simp; first | done | with_reducible rfl)); (try simp only [Act.put, List.setIfInBounds_toArray, List.set_cons_zero, List.set_cons_succ]))
  (refine wpX_val (v := ?_) (by rfl) (fun W hW => ?_) ?_; rotate_left 1; (focus (go_simp; first | done | with_reducible rfl)); (try simp only [Act.put, List.setIfInBounds_toArray, List.set_cons_zero, List.set_cons_succ]))
  refine wpX_nil ?_
  intro β W1 hE hN hD
  obtain ⟨n_t3_1, k_t3⟩ := hN _ (List.mem_cons_self ..)
  simp only [putAll, Act.put, List.setIfInBounds_toArray, List.set_cons_zero, List.set_cons_succ, List.drop_succ_cons, List.drop_zero, List.drop_nil, List.length_cons, List.length_nil] at n_t3_1 k_t3 ⊢
  generalize β 6 = p3_1 at *
  have sz_1 := bel.size
  clear hN hD β
  refine wpL_store (g := p3_1) (cells := c4 X1) (by rfl) rfl rfl rfl k_t3 (by kernel_rfl) (by kernel_rfl) (by kernel_rfl) ?_
  (try simp only [Act.put, List.setIfInBounds_toArray, List.set_cons_zero, List.set_cons_succ])
  (refine wpL_val (v := ?_) (by rfl) ?_ ?_; rotate_left 1; (focus (go_simp; first | done | with_reducible rfl)))
  (try simp only [Act.put, List.setIfInBounds_toArray, List.set_cons_zero, List.set_cons_succ])
  refine wpL_nil ?_
  have hF : Below w.heap.size w (W1.setRow p3_1 (c4 X1)) ∧ Blk (W1.setRow p3_1 (c4 X1)) w.heap.size (c4 X) 26 ∧ Blk (W1.setRow p3_1 (c4 X1)) (w.heap.size + 1) #[.int .u64 0, .int .u64 0, .int .u64 0, .int .u64 0] 26 ∧ Blk (W1.setRow p3_1 (c4 X1)) p3_1 (c4 X1) 26 := ⟨(below_setRow (below_step bel hE bel.size) (by omega) _), (blk_setRow_other (blk_step k_t1 hE) (by omega) _), (blk_setRow_other (blk_step k_t2 hE) (by omega) _), (blk_setRow k_t3 (c4 X1))⟩
  generalize (W1.setRow p3_1 (c4 X1)) = W2 at hF ⊢
  clear bel k_t1 k_t2 k_t3
  obtain ⟨bel, k_t1, k_t2, k_t3⟩ := hF
  go_upto_region 3 with fail
  have lt_t3_2 := blk_lt k_t3
  have gf := GF_ext hG bel
  have gm := gf.1
  clear gf
  refine wp_region_pn 1 [] (fun x hx => by cases hx) (by kernel_rfl) ?_
  simp only [List.take_succ_cons, List.take_zero, List.take_nil]
  (try simp only [Act.put, List.setIfInBounds_toArray, List.set_cons_zero, List.set_cons_succ])
  ((with_reducible refine wpX_load (b := ?_) (cs := ?_) ?_ rfl ?_ ?_ ?_ ?_ ?_); rotate_left 2; (focus rfl); (focus rfl); (focus first | assumption | exact blk_rd (by assumption)); (focus kernel_rfl); (focus kernel_rfl); (try simp only [Act.put, List.setIfInBounds_toArray, List.set_cons_zero, List.set_cons_succ]))
  refine wpX_nil ?_
  intro β W3 hE hN hD
  simp only [putAll, Act.put, List.setIfInBounds_toArray, List.set_cons_zero, List.set_cons_succ, List.drop_succ_cons, List.drop_zero, List.drop_nil, List.length_cons, List.length_nil]
  clear hN hD β
  refine wpL_store (g := (w.heap.size + 1)) (cells := c4 X) (by rfl) rfl rfl rfl (blk_step k_t2 hE) (by kernel_rfl) (by kernel_rfl) (by kernel_rfl) ?_
  (try simp only [Act.put, List.setIfInBounds_toArray, List.set_cons_zero, List.set_cons_succ])
  refine wpL_nil ?_
  have hF : Below w.heap.size w (W3.setRow (w.heap.size + 1) (c4 X)) ∧ Blk (W3.setRow (w.heap.size + 1) (c4 X)) w.heap.size (c4 X) 26 ∧ Blk (W3.setRow (w.heap.size + 1) (c4 X)) (w.heap.size + 1) (c4 X) 26 ∧ Blk (W3.setRow (w.heap.size + 1) (c4 X)) p3_1 (c4 X1) 26 := ⟨(below_setRow (below_step bel hE bel.size) (by omega) _), (blk_setRow_other (blk_step k_t1 hE) (by omega) _), (blk_setRow (blk_step k_t2 hE) (c4 X)), (blk_setRow_other (blk_step k_t3 hE) (by omega) _)⟩
  generalize (W3.setRow (w.heap.size + 1) (c4 X)) = W4 at hF ⊢
  clear bel k_t1 k_t2 k_t3
  obtain ⟨bel, k_t1, k_t2, k_t3⟩ := hF
  go_wp2
  refine bodyPost_ret (res_row rfl rfl k_t2 (by kernel_rfl) (by kernel_rfl)) rfl ⟨?_, bel⟩
  rfl
set_option maxHeartbeats 4000000 in
theorem rest_1 (X : Nat) (hX : X < P256) (h0 : PP ≤ X) (hq : X - PP < PP) (w : World) (hG : GF w) :
    Calls Tryd.prog 53 #[L4 X] w fun e w' => Ret (L4 (X - PP)) w w' e := by
  go_enter Tryd.func53, Tryd.ntmps53
  go_wp2_with fail
  refine wp_loop_rounds 4 ?_
  rw [rounds_succ]
  go_upto_region 1 with fail
  refine wp_world (fun W => Below w.heap.size w W ∧ Blk W w.heap.size (c4 X) 26 ∧ Blk W (w.heap.size + 1) #[.int .u64 0, .int .u64 0, .int .u64 0, .int .u64 0] 26) ⟨(by (repeat' (first | (with_reducible assumption) | (with_reducible exact Below.refl _ _) | (with_reducible refine Below.drew ?_) | (with_reducible refine Below.alloc ?_ ?_ _) | (with_reducible refine below_set ?_ ?_ _ _) | (with_reducible refine below_setRow ?_ ?_ _) | (with_reducible refine below_step ?_ (by assumption) ?_))) <;> (first | omega | ((try simp only [World.size_alloc, World.size_setCell, World.size_drew, size_setRow]); omega))), blk_alloc (blk_new _ _ rfl) _, blk_new _ _ (by simp)⟩ ?_
  rintro W0 ⟨bel, k_t1, k_t2⟩
  have lt_t1_0 := blk_lt k_t1
  have lt_t2_0 := blk_lt k_t2
  have gf := GF_ext hG bel
  have gm := gf.1
  clear gf
  have c_X1 := fsub_hi X hX h0
  obtain ⟨X1, hX1⟩ : ∃ v_, v_ = X - PP := ⟨_, rfl⟩
  rw [← hX1] at c_X1
  have HX1 := Lib.hid hX1
  clear hX1
  refine wp_region_pn 6 [⟨6, 3, #[.int .u64 0, .int .u64 0, .int .u64 0, .int .u64 0], 26⟩] ?_ (by kernel_rfl) ?_
  · intro x hx
    simp only [List.mem_cons, List.not_mem_nil, or_false] at hx
    subst hx; exact ⟨_, rfl, rfl, rfl, fun _ _ => by kernel_rfl⟩
  simp only [List.take_succ_cons, List.take_zero, List.take_nil]
  (try simp only [Act.put, List.setIfInBounds_toArray, List.set_cons_zero, List.set_cons_succ])
  ((with_reducible refine wpX_load (b := ?_) (cs := ?_) ?_ rfl ?_ ?_ ?_ ?_ ?_); rotate_left 2; (focus rfl); (focus rfl); (focus first | assumption | exact blk_rd (by assumption)); (focus kernel_rfl); (focus kernel_rfl); (try simp only [Act.put, List.setIfInBounds_toArray, List.set_cons_zero, List.set_cons_succ]))
  ((with_reducible refine wpX_load (b := ?_) (cs := ?_) ?_ rfl ?_ ?_ ?_ ?_ ?_); rotate_left 2; (focus rfl); (focus rfl); (focus first | assumption | exact blk_rd (by assumption)); (focus kernel_rfl); (focus kernel_rfl); (try simp only [Act.put, List.setIfInBounds_toArray, List.set_cons_zero, List.set_cons_succ]))
  ((with_reducible refine wpX_fn (fun W hW => c_X1 W) ?_ rfl ?_ ?_ ?_); (focus rfl); (focus kernel_rfl); (focus rfl); (try simp only [Act.put, List.setIfInBounds_toArray, List.set_cons_zero, List.set_cons_succ]))
  (refine wpX_val (v := ?_) (by rfl) (fun W hW => ?_) ?_; rotate_left 1; (focus (go_simp; first | done | with_reducible rfl)); (try simp only [Act.put, List.setIfInBounds_toArray, List.set_cons_zero, List.set_cons_succ]))
  (refine wpX_val (v := ?_) (by rfl) (fun W hW => ?_) ?_; rotate_left 1; (focus (go_simp; first | done | with_reducible rfl)); (try simp only [Act.put, List.setIfInBounds_toArray, List.set_cons_zero, List.set_cons_succ]))
  (refine wpX_val (v := ?_) (by rfl) (fun W hW => ?_) ?_; rotate_left 1; (focus (go_simp; first | done | with_reducible rfl)); (try simp only [Act.put, List.setIfInBounds_toArray, List.set_cons_zero, List.set_cons_succ]))
  refine wpX_nil ?_
  intro β W1 hE hN hD
  obtain ⟨n_t3_1, k_t3⟩ := hN _ (List.mem_cons_self ..)
  simp only [putAll, Act.put, List.setIfInBounds_toArray, List.set_cons_zero, List.set_cons_succ, List.drop_succ_cons, List.drop_zero, List.drop_nil, List.length_cons, List.length_nil] at n_t3_1 k_t3 ⊢
  generalize β 6 = p3_1 at *
  have sz_1 := bel.size
  clear hN hD β
  refine wpL_store (g := p3_1) (cells := c4 X1) (by rfl) rfl rfl rfl k_t3 (by kernel_rfl) (by kernel_rfl) (by kernel_rfl) ?_
  (try simp only [Act.put, List.setIfInBounds_toArray, List.set_cons_zero, List.set_cons_succ])
  (refine wpL_val (v := ?_) (by rfl) ?_ ?_; rotate_left 1; (focus (go_simp; first | done | with_reducible rfl)))
  (try simp only [Act.put, List.setIfInBounds_toArray, List.set_cons_zero, List.set_cons_succ])
  refine wpL_nil ?_
  have hF : Below w.heap.size w (W1.setRow p3_1 (c4 X1)) ∧ Blk (W1.setRow p3_1 (c4 X1)) w.heap.size (c4 X) 26 ∧ Blk (W1.setRow p3_1 (c4 X1)) (w.heap.size + 1) #[.int .u64 0, .int .u64 0, .int .u64 0, .int .u64 0] 26 ∧ Blk (W1.setRow p3_1 (c4 X1)) p3_1 (c4 X1) 26 := ⟨(below_setRow (below_step bel hE bel.size) (by omega) _), (blk_setRow_other (blk_step k_t1 hE) (by omega) _), (blk_setRow_other (blk_step k_t2 hE) (by omega) _), (blk_setRow k_t3 (c4 X1))⟩
  generalize (W1.setRow p3_1 (c4 X1)) = W2 at hF ⊢
  clear bel k_t1 k_t2 k_t3
  obtain ⟨bel, k_t1, k_t2, k_t3⟩ := hF
  go_upto_region 4 with fail
  have lt_t3_2 := blk_lt k_t3
  have gf := GF_ext hG bel
  have gm := gf.1
  clear gf
  refine wp_region_pn 1 [] (fun x hx => by cases hx) (by kernel_rfl) ?_
  simp only [List.take_succ_cons, List.take_zero, List.take_nil]
  (try simp only [Act.put, List.setIfInBounds_toArray, List.set_cons_zero, List.set_cons_succ])
  ((with_reducible refine wpX_load (b := ?_) (cs := ?_) ?_ rfl ?_ ?_ ?_ ?_ ?_); rotate_left 2; (focus rfl); (focus rfl); (focus first | assumption | exact blk_rd (by assumption)); (focus kernel_rfl); (focus kernel_rfl); (try simp only [Act.put, List.setIfInBounds_toArray, List.set_cons_zero, List.set_cons_succ]))
  refine wpX_nil ?_
  intro β W3 hE hN hD
  simp only [putAll, Act.put, List.setIfInBounds_toArray, List.set_cons_zero, List.set_cons_succ, List.drop_succ_cons, List.drop_zero, List.drop_nil, List.length_cons, List.length_nil]
  clear hN hD β
  refine wpL_store (g := w.heap.size) (cells := c4 X1) (by rfl) rfl rfl rfl (blk_step k_t1 hE) (by kernel_rfl) (by kernel_rfl) (by kernel_rfl) ?_
  (try simp only [Act.put, List.setIfInBounds_toArray, List.set_cons_zero, List.set_cons_succ])
  refine wpL_nil ?_
  have hF : Below w.heap.size w (W3.setRow w.heap.size (c4 X1)) ∧ Blk (W3.setRow w.heap.size (c4 X1)) w.heap.size (c4 X1) 26 ∧ Blk (W3.setRow w.heap.size (c4 X1)) (w.heap.size + 1) #[.int .u64 0, .int .u64 0, .int .u64 0, .int .u64 0] 26 ∧ Blk (W3.setRow w.heap.size (c4 X1)) p3_1 (c4 X1) 26 := ⟨(below_setRow (below_step bel hE bel.size) (by omega) _), (blk_setRow (blk_step k_t1 hE) (c4 X1)), (blk_setRow_other (blk_step k_t2 hE) (by omega) _), (blk_setRow_other (blk_step k_t3 hE) (by omega) _)⟩
  generalize (W3.setRow w.heap.size (c4 X1)) = W4 at hF ⊢
  clear bel k_t1 k_t2 k_t3
  obtain ⟨bel, k_t1, k_t2, k_t3⟩ := hF
  go_wp2_with fail
  rw [rounds_succ]
  go_upto_region 1 with fail
  have lt_t3_4 := blk_lt k_t3
  have gf := GF_ext hG bel
  have gm := gf.1
  clear gf
  have c_X2 := fsub_lo X1 (by rw [HX1.out]; exact hq)
  obtain ⟨X2, hX2⟩ : ∃ v_, v_ = dif4 X1 PP := ⟨_, rfl⟩
  rw [← hX2] at c_X2
  have HX2 := Lib.hid hX2
  clear hX2
  refine wp_region_pn 6 [⟨6, 3, #[.int .u64 0, .int .u64 0, .int .u64 0, .int .u64 0], 26⟩] ?_ (by kernel_rfl) ?_
  · intro x hx
    simp only [List.mem_cons, List.not_mem_nil, or_false] at hx
    subst hx; exact ⟨_, rfl, rfl, rfl, fun _ _ => by kernel_rfl⟩
  simp only [List.take_succ_cons, List.take_zero, List.take_nil]
  (try simp only [Act.put, List.setIfInBounds_toArray, List.set_cons_zero, List.set_cons_succ])
  ((with_reducible refine wpX_load (b := ?_) (cs := ?_) ?_ rfl ?_ ?_ ?_ ?_ ?_); rotate_left 2; (focus rfl); (focus rfl); (focus first | assumption | exact blk_rd (by assumption)); (focus kernel_rfl); (focus kernel_rfl); (try simp only [Act.put, List.setIfInBounds_toArray, List.set_cons_zero, List.set_cons_succ]))
  ((with_reducible refine wpX_load (b := ?_) (cs := ?_) ?_ rfl ?_ ?_ ?_ ?_ ?_); rotate_left 2; (focus rfl); (focus rfl); (focus first | assumption | exact blk_rd (by assumption)); (focus kernel_rfl); (focus kernel_rfl); (try simp only [Act.put, List.setIfInBounds_toArray, List.set_cons_zero, List.set_cons_succ]))
  ((with_reducible refine wpX_fn (fun W hW => c_X2 W) ?_ rfl ?_ ?_ ?_); (focus rfl); (focus kernel_rfl); (focus rfl); (try simp only [Act.put, List.setIfInBounds_toArray, List.set_cons_zero, List.set_cons_succ]))
  (refine wpX_val (v := ?_) (by rfl) (fun W hW => ?_) ?_; rotate_left 1; (focus (go_simp; first | done | with_reducible rfl)); (try simp only [Act.put, List.setIfInBounds_toArray, List.set_cons_zero, List.set_cons_succ]))
  (refine wpX_val (v := ?_) (by rfl) (fun W hW => ?_) ?_; rotate_left 1; (focus (go_simp; first | done | with_reducible rfl)); (try simp only [Act.put, List.setIfInBounds_toArray, List.set_cons_zero, List.set_cons_succ]))
  (refine wpX_val (v := ?_) (by rfl) (fun W hW => ?_) ?_; rotate_left 1; (focus (go_simp; first | done | with_reducible rfl)); (try simp only [Act.put, List.setIfInBounds_toArray, List.set_cons_zero, List.set_cons_succ]))
  refine wpX_nil ?_
  intro β W5 hE hN hD
  obtain ⟨n_t3_5, k_t3⟩ := hN _ (List.mem_cons_self ..)
  simp only [putAll, Act.put, List.setIfInBounds_toArray, List.set_cons_zero, List.set_cons_succ, List.drop_succ_cons, List.drop_zero, List.drop_nil, List.length_cons, List.length_nil] at n_t3_5 k_t3 ⊢
  generalize β 6 = p3_5 at *
  have sz_5 := bel.size
  clear hN hD β
  refine wpL_store (g := p3_5) (cells := c4 X2) (by rfl) rfl rfl rfl k_t3 (by kernel_rfl) (by kernel_rfl) (by kernel_rfl) ?_
  (try simp only [Act.put, List.setIfInBounds_toArray, List.set_cons_zero, List.set_cons_succ])
  (refine wpL_val (v := ?_) (by rfl) ?_ ?_; rotate_left 1; (focus (go_simp; first | done | with_reducible rfl)))
  (try simp only [Act.put, List.setIfInBounds_toArray, List.set_cons_zero, List.set_cons_succ])
  refine wpL_nil ?_
  have hF : Below w.heap.size w (W5.setRow p3_5 (c4 X2)) ∧ Blk (W5.setRow p3_5 (c4 X2)) w.heap.size (c4 X1) 26 ∧ Blk (W5.setRow p3_5 (c4 X2)) (w.heap.size + 1) #[.int .u64 0, .int .u64 0, .int .u64 0, .int .u64 0] 26 ∧ Blk (W5.setRow p3_5 (c4 X2)) p3_5 (c4 X2) 26 := ⟨(below_setRow (below_step bel hE bel.size) (by omega) _), (blk_setRow_other (blk_step k_t1 hE) (by omega) _), (blk_setRow_other (blk_step k_t2 hE) (by omega) _), (blk_setRow k_t3 (c4 X2))⟩
  generalize (W5.setRow p3_5 (c4 X2)) = W6 at hF ⊢
  clear bel k_t1 k_t2 k_t3
  obtain ⟨bel, k_t1, k_t2, k_t3⟩ := hF
  go_upto_region 3 with fail
  have lt_t3_6 := blk_lt k_t3
  have gf := GF_ext hG bel
  have gm := gf.1
  clear gf
  refine wp_region_pn 1 [] (fun x hx => by cases hx) (by kernel_rfl) ?_
  simp only [List.take_succ_cons, List.take_zero, List.take_nil]
  (try simp only [Act.put, List.setIfInBounds_toArray, List.set_cons_zero, List.set_cons_succ])
  ((with_reducible refine wpX_load (b := ?_) (cs := ?_) ?_ rfl ?_ ?_ ?_ ?_ ?_); rotate_left 2; (focus rfl); (focus rfl); (focus first | assumption | exact blk_rd (by assumption)); (focus kernel_rfl); (focus kernel_rfl); (try simp only [Act.put, List.setIfInBounds_toArray, List.set_cons_zero, List.set_cons_succ]))
  refine wpX_nil ?_
  intro β W7 hE hN hD
  simp only [putAll, Act.put, List.setIfInBounds_toArray, List.set_cons_zero, List.set_cons_succ, List.drop_succ_cons, List.drop_zero, List.drop_nil, List.length_cons, List.length_nil]
  clear hN hD β
  refine wpL_store (g := (w.heap.size + 1)) (cells := c4 X1) (by rfl) rfl rfl rfl (blk_step k_t2 hE) (by kernel_rfl) (by kernel_rfl) (by kernel_rfl) ?_
  (try simp only [Act.put, List.setIfInBounds_toArray, List.set_cons_zero, List.set_cons_succ])
  refine wpL_nil ?_
  have hF : Below w.heap.size w (W7.setRow (w.heap.size + 1) (c4 X1)) ∧ Blk (W7.setRow (w.heap.size + 1) (c4 X1)) w.heap.size (c4 X1) 26 ∧ Blk (W7.setRow (w.heap.size + 1) (c4 X1)) (w.heap.size + 1) (c4 X1) 26 ∧ Blk (W7.setRow (w.heap.size + 1) (c4 X1)) p3_5 (c4 X2) 26 := ⟨(below_setRow (below_step bel hE bel.size) (by omega) _), (blk_setRow_other (blk_step k_t1 hE) (by omega) _), (blk_setRow (blk_step k_t2 hE) (c4 X1)), (blk_setRow_other (blk_step k_t3 hE) (by omega) _)⟩
  generalize (W7.setRow (w.heap.size + 1) (c4 X1)) = W8 at hF ⊢
  clear bel k_t1 k_t2 k_t3
  obtain ⟨bel, k_t1, k_t2, k_t3⟩ := hF
  go_wp2
  refine bodyPost_ret (res_row rfl rfl k_t2 (by kernel_rfl) (by kernel_rfl)) rfl ⟨?_, bel⟩
  rw [HX1.out]; rfl
set_option maxHeartbeats 4000000 in
theorem rest_2 (X : Nat) (hX : X < P256) (h0 : PP ≤ X) (h1' : PP ≤ X - PP) (hq : X - PP - PP < PP) (w : World) (hG : GF w) :
    Calls Tryd.prog 53 #[L4 X] w fun e w' => Ret (L4 (X - PP - PP)) w w' e := by
  go_enter Tryd.func53, Tryd.ntmps53
  go_wp2_with fail
  refine wp_loop_rounds 4 ?_
  rw [rounds_succ]
  go_upto_region 1 with fail
  refine wp_world (fun W => Below w.heap.size w W ∧ Blk W w.heap.size (c4 X) 26 ∧ Blk W (w.heap.size + 1) #[.int .u64 0, .int .u64 0, .int .u64 0, .int .u64 0] 26) ⟨(by (repeat' (first | (with_reducible assumption) | (with_reducible exact Below.refl _ _) | (with_reducible refine Below.drew ?_) | (with_reducible refine Below.alloc ?_ ?_ _) | (with_reducible refine below_set ?_ ?_ _ _) | (with_reducible refine below_setRow ?_ ?_ _) | (with_reducible refine below_step ?_ (by assumption) ?_))) <;> (first | omega | ((try simp only [World.size_alloc, World.size_setCell, World.size_drew, size_setRow]); omega))), blk_alloc (blk_new _ _ rfl) _, blk_new _ _ (by simp)⟩ ?_
  rintro W0 ⟨bel, k_t1, k_t2⟩
  have lt_t1_0 := blk_lt k_t1
  have lt_t2_0 := blk_lt k_t2
  have gf := GF_ext hG bel
  have gm := gf.1
  clear gf
  have c_X1 := fsub_hi X hX h0
  obtain ⟨X1, hX1⟩ : ∃ v_, v_ = X - PP := ⟨_, rfl⟩
  rw [← hX1] at c_X1
  have HX1 := Lib.hid hX1
  clear hX1
  have h1 : PP ≤ X1 := by rw [HX1.out]; exact h1'
  refine wp_region_pn 6 [⟨6, 3, #[.int .u64 0, .int .u64 0, .int .u64 0, .int .u64 0], 26⟩] ?_ (by kernel_rfl) ?_
  · intro x hx
    simp only [List.mem_cons, List.not_mem_nil, or_false] at hx
    subst hx; exact ⟨_, rfl, rfl, rfl, fun _ _ => by kernel_rfl⟩
  simp only [List.take_succ_cons, List.take_zero, List.take_nil]
  (try simp only [Act.put, List.setIfInBounds_toArray, List.set_cons_zero, List.set_cons_succ])
  ((with_reducible refine wpX_load (b := ?_) (cs := ?_) ?_ rfl ?_ ?_ ?_ ?_ ?_); rotate_left 2; (focus rfl); (focus rfl); (focus first | assumption | exact blk_rd (by assumption)); (focus kernel_rfl); (focus kernel_rfl); (try simp only [Act.put, List.setIfInBounds_toArray, List.set_cons_zero, List.set_cons_succ]))
  ((with_reducible refine wpX_load (b := ?_) (cs := ?_) ?_ rfl ?_ ?_ ?_ ?_ ?_); rotate_left 2; (focus rfl); (focus rfl); (focus first | assumption | exact blk_rd (by assumption)); (focus kernel_rfl); (focus kernel_rfl); (try simp only [Act.put, List.setIfInBounds_toArray, List.set_cons_zero, List.set_cons_succ]))
  ((with_reducible refine wpX_fn (fun W hW => c_X1 W) ?_ rfl ?_ ?_ ?_); (focus rfl); (focus kernel_rfl); (focus rfl); (try simp only [Act.put, List.setIfInBounds_toArray, List.set_cons_zero, List.set_cons_succ]))
  (refine wpX_val (v := ?_) (by rfl) (fun W hW => ?_) ?_; rotate_left 1; (focus (go_simp; first | done | with_reducible rfl)); (try simp only [Act.put, List.setIfInBounds_toArray, List.set_cons_zero, List.set_cons_succ]))
  (refine wpX_val (v := ?_) (by rfl) (fun W hW => ?_) ?_; rotate_left 1; (focus (go_simp; first | done | with_reducible rfl)); (try simp only [Act.put, List.setIfInBounds_toArray, List.set_cons_zero, List.set_cons_succ]))
  (refine wpX_val (v := ?_) (by rfl) (fun W hW => ?_) ?_; rotate_left 1; (focus (go_simp; first | done | with_reducible rfl)); (try simp only [Act.put, List.setIfInBounds_toArray, List.set_cons_zero, List.set_cons_succ]))
  refine wpX_nil ?_
  intro β W1 hE hN hD
  obtain ⟨n_t3_1, k_t3⟩ := hN _ (List.mem_cons_self ..)
  simp only [putAll, Act.put, List.setIfInBounds_toArray, List.set_cons_zero, List.set_cons_succ, List.drop_succ_cons, List.drop_zero, List.drop_nil, List.length_cons, List.length_nil] at n_t3_1 k_t3 ⊢
  generalize β 6 = p3_1 at *
  have sz_1 := bel.size
  clear hN hD β
  refine wpL_store (g := p3_1) (cells := c4 X1) (by rfl) rfl rfl rfl k_t3 (by kernel_rfl) (by kernel_rfl) (by kernel_rfl) ?_
  (try simp only [Act.put, List.setIfInBounds_toArray, List.set_cons_zero, List.set_cons_succ])
  (refine wpL_val (v := ?_) (by rfl) ?_ ?_; rotate_left 1; (focus (go_simp; first | done | with_reducible rfl)))
  (try simp only [Act.put, List.setIfInBounds_toArray, List.set_cons_zero, List.set_cons_succ])
  refine wpL_nil ?_
  have hF : Below w.heap.size w (W1.setRow p3_1 (c4 X1)) ∧ Blk (W1.setRow p3_1 (c4 X1)) w.heap.size (c4 X) 26 ∧ Blk (W1.setRow p3_1 (c4 X1)) (w.heap.size + 1) #[.int .u64 0, .int .u64 0, .int .u64 0, .int .u64 0] 26 ∧ Blk (W1.setRow p3_1 (c4 X1)) p3_1 (c4 X1) 26 := ⟨(below_setRow (below_step bel hE bel.size) (by omega) _), (blk_setRow_other (blk_step k_t1 hE) (by omega) _), (blk_setRow_other (blk_step k_t2 hE) (by omega) _), (blk_setRow k_t3 (c4 X1))⟩
  generalize (W1.setRow p3_1 (c4 X1)) = W2 at hF ⊢
  clear bel k_t1 k_t2 k_t3
  obtain ⟨bel, k_t1, k_t2, k_t3⟩ := hF
  go_upto_region 4 with fail
  have lt_t3_2 := blk_lt k_t3
  have gf := GF_ext hG bel
  have gm := gf.1
  clear gf
  refine wp_region_pn 1 [] (fun x hx => by cases hx) (by kernel_rfl) ?_
  simp only [List.take_succ_cons, List.take_zero, List.take_nil]
  (try simp only [Act.put, List.setIfInBounds_toArray, List.set_cons_zero, List.set_cons_succ])
  ((with_reducible refine wpX_load (b := ?_) (cs := ?_) ?_ rfl ?_ ?_ ?_ ?_ ?_); rotate_left 2; (focus rfl); (focus rfl); (focus first | assumption | exact blk_rd (by assumption)); (focus kernel_rfl); (focus kernel_rfl); (try simp only [Act.put, List.setIfInBounds_toArray, List.set_cons_zero, List.set_cons_succ]))
  refine wpX_nil ?_
  intro β W3 hE hN hD
  simp only [putAll, Act.put, List.setIfInBounds_toArray, List.set_cons_zero, List.set_cons_succ, List.drop_succ_cons, List.drop_zero, List.drop_nil, List.length_cons, List.length_nil]
  clear hN hD β
  refine wpL_store (g := w.heap.size) (cells := c4 X1) (by rfl) rfl rfl rfl (blk_step k_t1 hE) (by kernel_rfl) (by kernel_rfl) (by kernel_rfl) ?_
  (try simp only [Act.put, List.setIfInBounds_toArray, List.set_cons_zero, List.set_cons_succ])
  refine wpL_nil ?_
  have hF : Below w.heap.size w (W3.setRow w.heap.size (c4 X1)) ∧ Blk (W3.setRow w.heap.size (c4 X1)) w.heap.size (c4 X1) 26 ∧ Blk (W3.setRow w.heap.size (c4 X1)) (w.heap.size + 1) #[.int .u64 0, .int .u64 0, .int .u64 0, .int .u64 0] 26 ∧ Blk (W3.setRow w.heap.size (c4 X1)) p3_1 (c4 X1) 26 := ⟨(below_setRow (below_step bel hE bel.size) (by omega) _), (blk_setRow (blk_step k_t1 hE) (c4 X1)), (blk_setRow_other (blk_step k_t2 hE) (by omega) _), (blk_setRow_other (blk_step k_t3 hE) (by omega) _)⟩
  generalize (W3.setRow w.heap.size (c4 X1)) = W4 at hF ⊢
  clear bel k_t1 k_t2 k_t3
  obtain ⟨bel, k_t1, k_t2, k_t3⟩ := hF
  go_wp2_with fail
  rw [rounds_succ]
  go_upto_region 1 with fail
  have lt_t3_4 := blk_lt k_t3
  have gf := GF_ext hG bel
  have gm := gf.1
  clear gf
  have c_X2 := fsub_hi X1 (by rw [HX1.out]; omega) h1
  obtain ⟨X2, hX2⟩ : ∃ v_, v_ = X1 - PP := ⟨_, rfl⟩
  rw [← hX2] at c_X2
  have HX2 := Lib.hid hX2
  clear hX2
  refine wp_region_pn 6 [⟨6, 3, #[.int .u64 0, .int .u64 0, .int .u64 0, .int .u64 0], 26⟩] ?_ (by kernel_rfl) ?_
  · intro x hx
    simp only [List.mem_cons, List.not_mem_nil, or_false] at hx
    subst hx; exact ⟨_, rfl, rfl, rfl, fun _ _ => by kernel_rfl⟩
  simp only [List.take_succ_cons, List.take_zero, List.take_nil]
  (try simp only [Act.put, List.setIfInBounds_toArray, List.set_cons_zero, List.set_cons_succ])
  ((with_reducible refine wpX_load (b := ?_) (cs := ?_) ?_ rfl ?_ ?_ ?_ ?_ ?_); rotate_left 2; (focus rfl); (focus rfl); (focus first | assumption | exact blk_rd (by assumption)); (focus kernel_rfl); (focus kernel_rfl); (try simp only [Act.put, List.setIfInBounds_toArray, List.set_cons_zero, List.set_cons_succ]))
  ((with_reducible refine wpX_load (b := ?_) (cs := ?_) ?_ rfl ?_ ?_ ?_ ?_ ?_); rotate_left 2; (focus rfl); (focus rfl); (focus first | assumption | exact blk_rd (by assumption)); (focus kernel_rfl); (focus kernel_rfl); (try simp only [Act.put, List.setIfInBounds_toArray, List.set_cons_zero, List.set_cons_succ]))
  ((with_reducible refine wpX_fn (fun W hW => c_X2 W) ?_ rfl ?_ ?_ ?_); (focus rfl); (focus kernel_rfl); (focus rfl); (try simp only [Act.put, List.setIfInBounds_toArray, List.set_cons_zero, List.set_cons_succ]))
  (refine wpX_val (v := ?_) (by rfl) (fun W hW => ?_) ?_; rotate_left 1; (focus (go_simp; first | done | with_reducible rfl)); (try simp only [Act.put, List.setIfInBounds_toArray, List.set_cons_zero, List.set_cons_succ]))
  (refine wpX_val (v := ?_) (by rfl) (fun W hW => ?_) ?_; rotate_left 1; (focus (go_simp; first | done | with_reducible rfl)); (try simp only [Act.put, List.setIfInBounds_toArray, List.set_cons_zero, List.set_cons_succ]))
  (refine wpX_val (v := ?_) (by rfl) (fun W hW => ?_) ?_; rotate_left 1; (focus (go_simp; first | done | with_reducible rfl)); (try simp only [Act.put, List.setIfInBounds_toArray, List.set_cons_zero, List.set_cons_succ]))
  refine wpX_nil ?_
  intro β W5 hE hN hD
  obtain ⟨n_t3_5, k_t3⟩ := hN _ (List.mem_cons_self ..)
  simp only [putAll, Act.put, List.setIfInBounds_toArray, List.set_cons_zero, List.set_cons_succ, List.drop_succ_cons, List.drop_zero, List.drop_nil, List.length_cons, List.length_nil] at n_t3_5 k_t3 ⊢
  generalize β 6 = p3_5 at *
  have sz_5 := bel.size
  clear hN hD β
  refine wpL_store (g := p3_5) (cells := c4 X2) (by rfl) rfl rfl rfl k_t3 (by kernel_rfl) (by kernel_rfl) (by kernel_rfl) ?_
  (try simp only [Act.put, List.setIfInBounds_toArray, List.set_cons_zero, List.set_cons_succ])
  (refine wpL_val (v := ?_) (by rfl) ?_ ?_; rotate_left 1; (focus (go_simp; first | done | with_reducible rfl)))
  (try simp only [Act.put, List.setIfInBounds_toArray, List.set_cons_zero, List.set_cons_succ])
  refine wpL_nil ?_
  have hF : Below w.heap.size w (W5.setRow p3_5 (c4 X2)) ∧ Blk (W5.setRow p3_5 (c4 X2)) w.heap.size (c4 X1) 26 ∧ Blk (W5.setRow p3_5 (c4 X2)) (w.heap.size + 1) #[.int .u64 0, .int .u64 0, .int .u64 0, .int .u64 0] 26 ∧ Blk (W5.setRow p3_5 (c4 X2)) p3_5 (c4 X2) 26 := ⟨(below_setRow (below_step bel hE bel.size) (by omega) _), (blk_setRow_other (blk_step k_t1 hE) (by omega) _), (blk_setRow_other (blk_step k_t2 hE) (by omega) _), (blk_setRow k_t3 (c4 X2))⟩
  generalize (W5.setRow p3_5 (c4 X2)) = W6 at hF ⊢
  clear bel k_t1 k_t2 k_t3
  obtain ⟨bel, k_t1, k_t2, k_t3⟩ := hF
  go_upto_region 4 with fail
  have lt_t3_6 := blk_lt k_t3
  have gf := GF_ext hG bel
  have gm := gf.1
  clear gf
  refine wp_region_pn 1 [] (fun x hx => by cases hx) (by kernel_rfl) ?_
  simp only [List.take_succ_cons, List.take_zero, List.take_nil]
  (try simp only [Act.put, List.setIfInBounds_toArray, List.set_cons_zero, List.set_cons_succ])
  ((with_reducible refine wpX_load (b := ?_) (cs := ?_) ?_ rfl ?_ ?_ ?_ ?_ ?_); rotate_left 2; (focus rfl); (focus rfl); (focus first | assumption | exact blk_rd (by assumption)); (focus kernel_rfl); (focus kernel_rfl); (try simp only [Act.put, List.setIfInBounds_toArray, List.set_cons_zero, List.set_cons_succ]))
  refine wpX_nil ?_
  intro β W7 hE hN hD
  simp only [putAll, Act.put, List.setIfInBounds_toArray, List.set_cons_zero, List.set_cons_succ, List.drop_succ_cons, List.drop_zero, List.drop_nil, List.length_cons, List.length_nil]
  clear hN hD β
  refine wpL_store (g := w.heap.size) (cells := c4 X2) (by rfl) rfl rfl rfl (blk_step k_t1 hE) (by kernel_rfl) (by kernel_rfl) (by kernel_rfl) ?_
  (try simp only [Act.put, List.setIfInBounds_toArray, List.set_cons_zero, List.set_cons_succ])
  refine wpL_nil ?_
  have hF : Below w.heap.size w (W7.setRow w.heap.size (c4 X2)) ∧ Blk (W7.setRow w.heap.size (c4 X2)) w.heap.size (c4 X2) 26 ∧ Blk (W7.setRow w.heap.size (c4 X2)) (w.heap.size + 1) #[.int .u64 0, .int .u64 0, .int .u64 0, .int .u64 0] 26 ∧ Blk (W7.setRow w.heap.size (c4 X2)) p3_5 (c4 X2) 26 := ⟨(below_setRow (below_step bel hE bel.size) (by omega) _), (blk_setRow (blk_step k_t1 hE) (c4 X2)), (blk_setRow_other (blk_step k_t2 hE) (by omega) _), (blk_setRow_other (blk_step k_t3 hE) (by omega) _)⟩
  generalize (W7.setRow w.heap.size (c4 X2)) = W8 at hF ⊢
  clear bel k_t1 k_t2 k_t3
  obtain ⟨bel, k_t1, k_t2, k_t3⟩ := hF
  go_wp2_with fail
  rw [rounds_succ]
  go_upto_region 1 with fail
  have lt_t3_8 := blk_lt k_t3
  have gf := GF_ext hG bel
  have gm := gf.1
  clear gf
  have c_X3 := fsub_lo X2 (by rw [HX2.out, HX1.out]; exact hq)
  obtain ⟨X3, hX3⟩ : ∃ v_, v_ = dif4 X2 PP := ⟨_, rfl⟩
  rw [← hX3] at c_X3
  have HX3 := Lib.hid hX3
  clear hX3
  refine wp_region_pn 6 [⟨6, 3, #[.int .u64 0, .int .u64 0, .int .u64 0, .int .u64 0], 26⟩] ?_ (by kernel_rfl) ?_
  · intro x hx
    simp only [List.mem_cons, List.not_mem_nil, or_false] at hx
    subst hx; exact ⟨_, rfl, rfl, rfl, fun _ _ => by kernel_rfl⟩
  simp only [List.take_succ_cons, List.take_zero, List.take_nil]
  (try simp only [Act.put, List.setIfInBounds_toArray, List.set_cons_zero, List.set_cons_succ])
  ((with_reducible refine wpX_load (b := ?_) (cs := ?_) ?_ rfl ?_ ?_ ?_ ?_ ?_); rotate_left 2; (focus rfl); (focus rfl); (focus first | assumption | exact blk_rd (by assumption)); (focus kernel_rfl); (focus kernel_rfl); (try simp only [Act.put, List.setIfInBounds_toArray, List.set_cons_zero, List.set_cons_succ]))
  ((with_reducible refine wpX_load (b := ?_) (cs := ?_) ?_ rfl ?_ ?_ ?_ ?_ ?_); rotate_left 2; (focus rfl); (focus rfl); (focus first | assumption | exact blk_rd (by assumption)); (focus kernel_rfl); (focus kernel_rfl); (try simp only [Act.put, List.setIfInBounds_toArray, List.set_cons_zero, List.set_cons_succ]))
  ((with_reducible refine wpX_fn (fun W hW => c_X3 W) ?_ rfl ?_ ?_ ?_); (focus rfl); (focus kernel_rfl); (focus rfl); (try simp only [Act.put, List.setIfInBounds_toArray, List.set_cons_zero, List.set_cons_succ]))
  (refine wpX_val (v := ?_) (by rfl) (fun W hW => ?_) ?_; rotate_left 1; (focus (go_simp; first | done | with_reducible rfl)); (try simp only [Act.put, List.setIfInBounds_toArray, List.set_cons_zero, List.set_cons_succ]))
  (refine wpX_val (v := ?_) (by rfl) (fun W hW => ?_) ?_; rotate_left 1; (focus (go_simp; first | done | with_reducible rfl)); (try simp only [Act.put, List.setIfInBounds_toArray, List.set_cons_zero, List.set_cons_succ]))
  (refine wpX_val (v := ?_) (by rfl) (fun W hW => ?_) ?_; rotate_left 1; (focus (go_simp; first | done | with_reducible rfl)); (try simp only [Act.put, List.setIfInBounds_toArray, List.set_cons_zero, List.set_cons_succ]))
  refine wpX_nil ?_
  intro β W9 hE hN hD
  obtain ⟨n_t3_9, k_t3⟩ := hN _ (List.mem_cons_self ..)
  simp only [putAll, Act.put, List.setIfInBounds_toArray, List.set_cons_zero, List.set_cons_succ, List.drop_succ_cons, List.drop_zero, List.drop_nil, List.length_cons, List.length_nil] at n_t3_9 k_t3 ⊢
  generalize β 6 = p3_9 at *
  have sz_9 := bel.size
  clear hN hD β
  refine wpL_store (g := p3_9) (cells := c4 X3) (by rfl) rfl rfl rfl k_t3 (by kernel_rfl) (by kernel_rfl) (by kernel_rfl) ?_
  (try simp only [Act.put, List.setIfInBounds_toArray, List.set_cons_zero, List.set_cons_succ])
  (refine wpL_val (v := ?_) (by rfl) ?_ ?_; rotate_left 1; (focus (go_simp; first | done | with_reducible rfl)))
  (try simp only [Act.put, List.setIfInBounds_toArray, List.set_cons_zero, List.set_cons_succ])
  refine wpL_nil ?_
  have hF : Below w.heap.size w (W9.setRow p3_9 (c4 X3)) ∧ Blk (W9.setRow p3_9 (c4 X3)) w.heap.size (c4 X2) 26 ∧ Blk (W9.setRow p3_9 (c4 X3)) (w.heap.size + 1) #[.int .u64 0, .int .u64 0, .int .u64 0, .int .u64 0] 26 ∧ Blk (W9.setRow p3_9 (c4 X3)) p3_9 (c4 X3) 26 := ⟨(below_setRow (below_step bel hE bel.size) (by omega) _), (blk_setRow_other (blk_step k_t1 hE) (by omega) _), (blk_setRow_other (blk_step k_t2 hE) (by omega) _), (blk_setRow k_t3 (c4 X3))⟩
  generalize (W9.setRow p3_9 (c4 X3)) = W10 at hF ⊢
  clear bel k_t1 k_t2 k_t3
  obtain ⟨bel, k_t1, k_t2, k_t3⟩ := hF
  go_upto_region 3 with fail
  have lt_t3_10 := blk_lt k_t3
  have gf := GF_ext hG bel
  have gm := gf.1
  clear gf
  refine wp_region_pn 1 [] (fun x hx => by cases hx) (by kernel_rfl) ?_
  simp only [List.take_succ_cons, List.take_zero, List.take_nil]
  (try simp only [Act.put, List.setIfInBounds_toArray, List.set_cons_zero, List.set_cons_succ])
  ((with_reducible refine wpX_load (b := ?_) (cs := ?_) ?_ rfl ?_ ?_ ?_ ?_ ?_); rotate_left 2; (focus rfl); (focus rfl); (focus first | assumption | exact blk_rd (by assumption)); (focus kernel_rfl); (focus kernel_rfl); (try simp only [Act.put, List.setIfInBounds_toArray, List.set_cons_zero, List.set_cons_succ]))
  refine wpX_nil ?_
  intro β W11 hE hN hD
  simp only [putAll, Act.put, List.setIfInBounds_toArray, List.set_cons_zero, List.set_cons_succ, List.drop_succ_cons, List.drop_zero, List.drop_nil, List.length_cons, List.length_nil]
  clear hN hD β
  refine wpL_store (g := (w.heap.size + 1)) (cells := c4 X2) (by rfl) rfl rfl rfl (blk_step k_t2 hE) (by kernel_rfl) (by kernel_rfl) (by kernel_rfl) ?_
  (try simp only [Act.put, List.setIfInBounds_toArray, List.set_cons_zero, List.set_cons_succ])
  refine wpL_nil ?_
  have hF : Below w.heap.size w (W11.setRow (w.heap.size + 1) (c4 X2)) ∧ Blk (W11.setRow (w.heap.size + 1) (c4 X2)) w.heap.size (c4 X2) 26 ∧ Blk (W11.setRow (w.heap.size + 1) (c4 X2)) (w.heap.size + 1) (c4 X2) 26 ∧ Blk (W11.setRow (w.heap.size + 1) (c4 X2)) p3_9 (c4 X3) 26 := ⟨(below_setRow (below_step bel hE bel.size) (by omega) _), (blk_setRow_other (blk_step k_t1 hE) (by omega) _), (blk_setRow (blk_step k_t2 hE) (c4 X2)), (blk_setRow_other (blk_step k_t3 hE) (by omega) _)⟩
  generalize (W11.setRow (w.heap.size + 1) (c4 X2)) = W12 at hF ⊢
  clear bel k_t1 k_t2 k_t3
  obtain ⟨bel, k_t1, k_t2, k_t3⟩ := hF
  go_wp2
  refine bodyPost_ret (res_row rfl rfl k_t2 (by kernel_rfl) (by kernel_rfl)) rfl ⟨?_, bel⟩
  rw [HX2.out, HX1.out]; rfl
theorem rest_c (X : Nat) (hX : X < P256) (w : World) (hG : GF w) : Calls Tryd.prog 53 #[L4 X] w fun e w' => Ret (L4 (X % PP)) w w' e := by
  by_cases h0 : X < PP
  · rw [Nat.mod_eq_of_lt h0]; exact rest_0 X hX h0 w hG
  · by_cases h1 : X - PP < PP
    · rw [← rest1 X (by omega) h1]; exact rest_1 X hX (by omega) h1 w hG
    · have h2 : X - PP - PP < PP := by have := PP_two; have : PP = 57896044618658097711785492504343953926634992332820282019728792003956564819949 := rfl; omega
      rw [← rest2 X (by omega) (by omega) h2]; exact rest_2 X hX (by omega) (by omega) h2 w hG
set_option maxHeartbeats 4000000 in
theorem small_c (n : Nat) (hn : n < 18446744073709551616) (w : World) :
    Calls Tryd.prog 58 #[.int .u64 (n : Int)] w fun e w' => Ret (L4 n) w w' e := by
  go_enter Tryd.func58, Tryd.ntmps58
  go_upto_region 1 with fail
  refine wp_world (fun W => Below w.heap.size w W ∧ Blk W w.heap.size #[.int .u64 0, .int .u64 0, .int .u64 0, .int .u64 0] 26) ⟨(by (repeat' (first | (with_reducible assumption) | (with_reducible exact Below.refl _ _) | (with_reducible refine Below.drew ?_) | (with_reducible refine Below.alloc ?_ ?_ _) | (with_reducible refine below_set ?_ ?_ _ _) | (with_reducible refine below_setRow ?_ ?_ _) | (with_reducible refine below_step ?_ (by assumption) ?_))) <;> (first | omega | ((try simp only [World.size_alloc, World.size_setCell, World.size_drew, size_setRow]); omega))), blk_new _ _ rfl⟩ ?_
  rintro W0 ⟨bel, k_t2⟩
  have lt_t2_0 := blk_lt k_t2
  refine wp_region_pn 2 [] (fun x hx => by cases hx) (by kernel_rfl) ?_
  simp only [List.take_succ_cons, List.take_zero, List.take_nil]
  (try simp only [Act.put, List.setIfInBounds_toArray, List.set_cons_zero, List.set_cons_succ])
  (refine wpX_val (v := ?_) (by rfl) (fun W hW => ?_) ?_; rotate_left 1; (focus (go_simp; first | done | with_reducible rfl)); (try simp only [Act.put, List.setIfInBounds_toArray, List.set_cons_zero, List.set_cons_succ]))
  (refine wpX_val (v := ?_) (by rfl) (fun W hW => ?_) ?_; rotate_left 1; (focus (go_simp; first | done | with_reducible rfl)); (try simp only [Act.put, List.setIfInBounds_toArray, List.set_cons_zero, List.set_cons_succ]))
  refine wpX_nil ?_
  intro β W1 hE hN hD
  simp only [putAll, Act.put, List.setIfInBounds_toArray, List.set_cons_zero, List.set_cons_succ, List.drop_succ_cons, List.drop_zero, List.drop_nil, List.length_cons, List.length_nil]
  clear hN hD β
  refine wpL_store (g := w.heap.size) (cells := #[.int .u64 (n : Int), .int .u64 0, .int .u64 0, .int .u64 0]) (by rfl) rfl rfl rfl (blk_step k_t2 hE) (by kernel_rfl) (by kernel_rfl) (by kernel_rfl) ?_
  (try simp only [Act.put, List.setIfInBounds_toArray, List.set_cons_zero, List.set_cons_succ])
  refine wpL_nil ?_
  have hF : Below w.heap.size w (W1.setRow w.heap.size #[.int .u64 (n : Int), .int .u64 0, .int .u64 0, .int .u64 0]) ∧ Blk (W1.setRow w.heap.size #[.int .u64 (n : Int), .int .u64 0, .int .u64 0, .int .u64 0]) w.heap.size #[.int .u64 (n : Int), .int .u64 0, .int .u64 0, .int .u64 0] 26 := ⟨(below_setRow (below_step bel hE bel.size) (by omega) _), (blk_setRow (blk_step k_t2 hE) #[.int .u64 (n : Int), .int .u64 0, .int .u64 0, .int .u64 0])⟩
  generalize (W1.setRow w.heap.size #[.int .u64 (n : Int), .int .u64 0, .int .u64 0, .int .u64 0]) = W2 at hF ⊢
  clear bel k_t2
  obtain ⟨bel, k_t2⟩ := hF
  go_wp2
  refine bodyPost_ret (res_row rfl rfl k_t2 (by kernel_rfl) (by kernel_rfl)) rfl ⟨?_, bel⟩
  rw [L4_small n hn]
theorem moreV_lt (A n : Nat) (hA : A < P256) (hn : n < 18446744073709551616) : moreV A n < P256 := by unfold moreV P256 at *; split <;> omega
theorem moreV_mod (A n : Nat) : moreV A n % PP = (A + n) % PP := by
  unfold moreV
  split
  · rfl
  · rename_i h
    have e : A + n = A + n - P256 + 38 + PP + PP := by unfold P256 PP at *; omega
    conv => rhs; rw [e, Nat.add_mod_right, Nat.add_mod_right]
theorem more_c (A n : Nat) (hA : A < P256) (hn : n < 18446744073709551616) (w : World) : Calls Tryd.prog 54 #[L4 A, .int .u64 (n : Int)] w fun e w' => Ret (L4 (moreV A n)) w w' e := by
  unfold moreV
  by_cases h : A + n < P256
  · rw [if_pos h]; exact more_lo A n hA hn h w
  · rw [if_neg h]; exact more_hi A n hA hn (by omega) (by unfold P256 at *; omega) w
theorem add_mod (A B : Nat) (hA : A < P256) (hB : B < P256) : moreV ((A + B) % P256) (38 * ((A + B) / P256)) % PP = (A + B) % PP := by
  rw [moreV_mod]
  by_cases h : A + B < P256
  · rw [Nat.mod_eq_of_lt h, Nat.div_eq_of_lt h, Nat.mul_zero, Nat.add_zero]
  · have e1 : (A + B) % P256 = A + B - P256 := by rw [Nat.mod_eq_sub_mod (by omega), Nat.mod_eq_of_lt (by omega)]
    have e2 : (A + B) / P256 = 1 := Nat.div_eq_of_lt_le (by omega) (by omega)
    rw [e1, e2]
    conv => rhs; rw [show A + B = A + B - P256 + 38 * 1 + PP + PP by unfold P256 PP at *; omega, Nat.add_mod_right, Nat.add_mod_right]
theorem fadd_n (A B : Nat) (hA : A < P256) (hB : B < P256) (w : World) : Calls Tryd.prog 55 #[L4 A, L4 B] w fun e w' => Ret (.tuple #[L4 ((A + B) % P256), .int .u64 ((A + B) / P256 : Nat)]) w w' e := fadd_l A B hA hB w
theorem more_m (A o : Nat) (hA : A < P256) (ho : o ≤ 1) (w : World) : Calls Tryd.prog 54 #[L4 A, .int .u64 (IntKind.u64.wrap (38 * (o : Int)))] w fun e w' => Ret (L4 (moreV A (38 * o))) w w' e := by
  have : IntKind.u64.wrap (38 * (o : Int)) = ((38 * o : Nat) : Int) := by rw [IntKind.wrap_u64]; omega
  rw [this]; exact more_c A (38 * o) hA (by omega) w
theorem neg_mod (A : Nat) : dif4 PP (A % PP) % PP = (PP - A % PP) % PP := by
  have := Nat.mod_lt A (show 0 < PP by decide)
  rw [dif4_hi PP (A % PP) PP_lt (mod_256 A) (by omega)]
theorem fsub_mod (X : Nat) (hX : X < PP) (w : World) : Calls Tryd.prog 56 #[.agg modC, L4 X] w fun e w' => Ret (.tuple #[L4 (PP - X), .int .u64 0]) w w' e := by
  have := fsub_l PP X PP_lt (Nat.lt_trans hX PP_lt) w
  rw [dif4_hi PP X PP_lt (Nat.lt_trans hX PP_lt) (by omega)] at this
  rw [modC_eq]
  unfold brw at this; rw [if_neg (by omega)] at this; exact this
set_option maxHeartbeats 4000000 in
theorem fAdd_c (A B : Nat) (hA : A < P256) (hB : B < P256) (w : World) (hG : GF w) :
    Calls Tryd.prog 30 #[L4 A, L4 B] w fun e w' => Ret (L4 ((A + B) % PP)) w w' e := by
  go_enter Tryd.func30, Tryd.ntmps30
  go_upto_region 1 with fail
  refine wp_world (fun W => Below w.heap.size w W ∧ Blk W w.heap.size (c4 A) 26 ∧ Blk W (w.heap.size + 1) (c4 B) 26 ∧ Blk W (w.heap.size + 2) #[.int .u64 0, .int .u64 0, .int .u64 0, .int .u64 0] 26) ⟨(by (repeat' (first | (with_reducible assumption) | (with_reducible exact Below.refl _ _) | (with_reducible refine Below.drew ?_) | (with_reducible refine Below.alloc ?_ ?_ _) | (with_reducible refine below_set ?_ ?_ _ _) | (with_reducible refine below_setRow ?_ ?_ _) | (with_reducible refine below_step ?_ (by assumption) ?_))) <;> (first | omega | ((try simp only [World.size_alloc, World.size_setCell, World.size_drew, size_setRow]); omega))), blk_alloc (blk_alloc (blk_new _ _ rfl) _) _, blk_alloc (blk_new _ _ (by simp)) _, blk_new _ _ (by simp)⟩ ?_
  rintro W0 ⟨bel, k_t2, k_t3, k_t4⟩
  have lt_t2_0 := blk_lt k_t2
  have lt_t3_0 := blk_lt k_t3
  have lt_t4_0 := blk_lt k_t4
  have gf := GF_ext hG bel
  have gm := gf.1
  have gi := gf.2
  have c_1 := fadd_n A B hA hB
  obtain ⟨S, hS⟩ : ∃ v_, v_ = (A + B) % P256 := ⟨_, rfl⟩
  obtain ⟨O, hO⟩ : ∃ v_, v_ = (A + B) / P256 := ⟨_, rfl⟩
  rw [← hS, ← hO] at c_1
  have bS : S < P256 := by rw [hS]; exact Nat.mod_lt _ (by decide)
  have bO : O ≤ 1 := by rw [hO]; have : (A + B) / P256 < 2 := Nat.div_lt_of_lt_mul (by omega); omega
  have HS := Lib.hid hS
  have HO := Lib.hid hO
  clear hS hO
  refine wp_region_pn 6 [⟨6, 5, #[.int .u64 0, .int .u64 0, .int .u64 0, .int .u64 0], 26⟩] ?_ (by kernel_rfl) ?_
  · intro x hx
    simp only [List.mem_cons, List.not_mem_nil, or_false] at hx
    subst hx; exact ⟨_, rfl, rfl, rfl, fun _ _ => by kernel_rfl⟩
  simp only [List.take_succ_cons, List.take_zero, List.take_nil]
  (try simp only [Act.put, List.setIfInBounds_toArray, List.set_cons_zero, List.set_cons_succ])
  ((with_reducible refine wpX_load (b := ?_) (cs := ?_) ?_ rfl ?_ ?_ ?_ ?_ ?_); rotate_left 2; (focus rfl); (focus rfl); (focus first | assumption | exact blk_rd (by assumption)); (focus kernel_rfl); (focus kernel_rfl); (try simp only [Act.put, List.setIfInBounds_toArray, List.set_cons_zero, List.set_cons_succ]))
  ((with_reducible refine wpX_load (b := ?_) (cs := ?_) ?_ rfl ?_ ?_ ?_ ?_ ?_); rotate_left 2; (focus rfl); (focus rfl); (focus first | assumption | exact blk_rd (by assumption)); (focus kernel_rfl); (focus kernel_rfl); (try simp only [Act.put, List.setIfInBounds_toArray, List.set_cons_zero, List.set_cons_succ]))
  ((with_reducible refine wpX_fn (fun W hW => c_1 W) ?_ rfl ?_ ?_ ?_); (focus rfl); (focus kernel_rfl); (focus rfl); (try simp only [Act.put, List.setIfInBounds_toArray, List.set_cons_zero, List.set_cons_succ]))
  (refine wpX_val (v := ?_) (by rfl) (fun W hW => ?_) ?_; rotate_left 1; (focus (go_simp; first | done | with_reducible rfl)); (try simp only [Act.put, List.setIfInBounds_toArray, List.set_cons_zero, List.set_cons_succ]))
  (refine wpX_val (v := ?_) (by rfl) (fun W hW => ?_) ?_; rotate_left 1; (focus (go_simp; first | done | with_reducible rfl)); (try simp only [Act.put, List.setIfInBounds_toArray, List.set_cons_zero, List.set_cons_succ]))
  (refine wpX_val (v := ?_) (by rfl) (fun W hW => ?_) ?_; rotate_left 1; (focus (go_simp; first | done | with_reducible rfl)); (try simp only [Act.put, List.setIfInBounds_toArray, List.set_cons_zero, List.set_cons_succ]))
  refine wpX_nil ?_
  intro β W1 hE hN hD
  obtain ⟨n_t5_1, k_t5⟩ := hN _ (List.mem_cons_self ..)
  simp only [putAll, Act.put, List.setIfInBounds_toArray, List.set_cons_zero, List.set_cons_succ, List.drop_succ_cons, List.drop_zero, List.drop_nil, List.length_cons, List.length_nil] at n_t5_1 k_t5 ⊢
  generalize β 6 = p5_1 at *
  have sz_1 := bel.size
  clear hN hD β
  refine wpL_store (g := p5_1) (cells := c4 S) (by rfl) rfl rfl rfl k_t5 (by kernel_rfl) (by kernel_rfl) (by kernel_rfl) ?_
  (try simp only [Act.put, List.setIfInBounds_toArray, List.set_cons_zero, List.set_cons_succ])
  (refine wpL_val (v := ?_) (by rfl) ?_ ?_; rotate_left 1; (focus (go_simp; first | done | with_reducible rfl)))
  (try simp only [Act.put, List.setIfInBounds_toArray, List.set_cons_zero, List.set_cons_succ])
  refine wpL_nil ?_
  have hF : Below w.heap.size w (W1.setRow p5_1 (c4 S)) ∧ Blk (W1.setRow p5_1 (c4 S)) w.heap.size (c4 A) 26 ∧ Blk (W1.setRow p5_1 (c4 S)) (w.heap.size + 1) (c4 B) 26 ∧ Blk (W1.setRow p5_1 (c4 S)) (w.heap.size + 2) #[.int .u64 0, .int .u64 0, .int .u64 0, .int .u64 0] 26 ∧ Blk (W1.setRow p5_1 (c4 S)) p5_1 (c4 S) 26 := ⟨(below_setRow (below_step bel hE bel.size) (by omega) _), (blk_setRow_other (blk_step k_t2 hE) (by omega) _), (blk_setRow_other (blk_step k_t3 hE) (by omega) _), (blk_setRow_other (blk_step k_t4 hE) (by omega) _), (blk_setRow k_t5 (c4 S))⟩
  generalize (W1.setRow p5_1 (c4 S)) = W2 at hF ⊢
  clear bel k_t2 k_t3 k_t4 k_t5
  obtain ⟨bel, k_t2, k_t3, k_t4, k_t5⟩ := hF
  go_upto_region 2 with fail
  have lt_t5_2 := blk_lt k_t5
  have gf := GF_ext hG bel
  have gm := gf.1
  have gi := gf.2
  have c_X1 := more_m S O bS bO
  obtain ⟨X1, hX1⟩ : ∃ v_, v_ = moreV S (38 * O) := ⟨_, rfl⟩
  rw [← hX1] at c_X1
  have bX1 : X1 < P256 := by rw [hX1]; exact moreV_lt _ _ bS (by omega)
  have HX1 := Lib.hid hX1
  clear hX1
  have c_X2 := rest_c X1 bX1
  obtain ⟨X2, hX2⟩ : ∃ v_, v_ = X1 % PP := ⟨_, rfl⟩
  rw [← hX2] at c_X2
  have bX2 : X2 < P256 := by rw [hX2]; exact mod_256 _
  have HX2 := Lib.hid hX2
  clear hX2
  refine wp_region_pn 5 [] (fun x hx => by cases hx) (by kernel_rfl) ?_
  simp only [List.take_succ_cons, List.take_zero, List.take_nil]
  (try simp only [Act.put, List.setIfInBounds_toArray, List.set_cons_zero, List.set_cons_succ])
  ((with_reducible refine wpX_load (b := ?_) (cs := ?_) ?_ rfl ?_ ?_ ?_ ?_ ?_); rotate_left 2; (focus rfl); (focus rfl); (focus first | assumption | exact blk_rd (by assumption)); (focus kernel_rfl); (focus kernel_rfl); (try simp only [Act.put, List.setIfInBounds_toArray, List.set_cons_zero, List.set_cons_succ]))
  (refine wpX_val (v := ?_) (by rfl) (fun W hW => ?_) ?_; rotate_left 1; (focus (go_simp; first | done | with_reducible rfl)); (try simp only [Act.put, List.setIfInBounds_toArray, List.set_cons_zero, List.set_cons_succ]))
  (refine wpX_val (v := ?_) (by rfl) (fun W hW => ?_) ?_; rotate_left 1; (focus (go_simp; first | done | with_reducible rfl)); (try simp only [Act.put, List.setIfInBounds_toArray, List.set_cons_zero, List.set_cons_succ]))
  ((with_reducible refine wpX_fn (fun W hW => c_X1 W) ?_ rfl ?_ ?_ ?_); (focus rfl); (focus kernel_rfl); (focus rfl); (try simp only [Act.put, List.setIfInBounds_toArray, List.set_cons_zero, List.set_cons_succ]))
  ((with_reducible refine wpX_fn (fun W hW => c_X2 W (GF_ext gf hW)) ?_ rfl ?_ ?_ ?_); (focus rfl); (focus kernel_rfl); (focus rfl); (try simp only [Act.put, List.setIfInBounds_toArray, List.set_cons_zero, List.set_cons_succ]))
  refine wpX_nil ?_
  intro β W3 hE hN hD
  simp only [putAll, Act.put, List.setIfInBounds_toArray, List.set_cons_zero, List.set_cons_succ, List.drop_succ_cons, List.drop_zero, List.drop_nil, List.length_cons, List.length_nil]
  clear hN hD β
  refine wpL_store (g := (w.heap.size + 2)) (cells := c4 X2) (by rfl) rfl rfl rfl (blk_step k_t4 hE) (by kernel_rfl) (by kernel_rfl) (by kernel_rfl) ?_
  (try simp only [Act.put, List.setIfInBounds_toArray, List.set_cons_zero, List.set_cons_succ])
  refine wpL_nil ?_
  have hF : Below w.heap.size w (W3.setRow (w.heap.size + 2) (c4 X2)) ∧ Blk (W3.setRow (w.heap.size + 2) (c4 X2)) w.heap.size (c4 A) 26 ∧ Blk (W3.setRow (w.heap.size + 2) (c4 X2)) (w.heap.size + 1) (c4 B) 26 ∧ Blk (W3.setRow (w.heap.size + 2) (c4 X2)) (w.heap.size + 2) (c4 X2) 26 ∧ Blk (W3.setRow (w.heap.size + 2) (c4 X2)) p5_1 (c4 S) 26 := ⟨(below_setRow (below_step bel hE bel.size) (by omega) _), (blk_setRow_other (blk_step k_t2 hE) (by omega) _), (blk_setRow_other (blk_step k_t3 hE) (by omega) _), (blk_setRow (blk_step k_t4 hE) (c4 X2)), (blk_setRow_other (blk_step k_t5 hE) (by omega) _)⟩
  generalize (W3.setRow (w.heap.size + 2) (c4 X2)) = W4 at hF ⊢
  clear bel k_t2 k_t3 k_t4 k_t5
  obtain ⟨bel, k_t2, k_t3, k_t4, k_t5⟩ := hF
  go_wp2
  refine bodyPost_ret (res_row rfl rfl k_t4 (by kernel_rfl) (by kernel_rfl)) rfl ⟨?_, bel⟩
  rw [← add_mod A B hA hB, ← HS.out, ← HO.out, ← HX1.out, ← HX2.out]; rfl
set_option maxHeartbeats 4000000 in
theorem fNeg_c (A : Nat) (hA : A < P256) (w : World) (hG : GF w) :
    Calls Tryd.prog 32 #[L4 A] w fun e w' => Ret (L4 ((PP - A % PP) % PP)) w w' e := by
  go_enter Tryd.func32, Tryd.ntmps32
  go_upto_region 1 with fail
  refine wp_world (fun W => Below w.heap.size w W ∧ Blk W w.heap.size (c4 A) 26 ∧ Blk W (w.heap.size + 1) #[.int .u64 0, .int .u64 0, .int .u64 0, .int .u64 0] 26) ⟨(by (repeat' (first | (with_reducible assumption) | (with_reducible exact Below.refl _ _) | (with_reducible refine Below.drew ?_) | (with_reducible refine Below.alloc ?_ ?_ _) | (with_reducible refine below_set ?_ ?_ _ _) | (with_reducible refine below_setRow ?_ ?_ _) | (with_reducible refine below_step ?_ (by assumption) ?_))) <;> (first | omega | ((try simp only [World.size_alloc, World.size_setCell, World.size_drew, size_setRow]); omega))), blk_alloc (blk_new _ _ rfl) _, blk_new _ _ (by simp)⟩ ?_
  rintro W0 ⟨bel, k_t1, k_t2⟩
  have lt_t1_0 := blk_lt k_t1
  have lt_t2_0 := blk_lt k_t2
  have gf := GF_ext hG bel
  have gm := gf.1
  have gi := gf.2
  have c_X1 := rest_c A hA
  obtain ⟨X1, hX1⟩ : ∃ v_, v_ = A % PP := ⟨_, rfl⟩
  rw [← hX1] at c_X1
  have bX1 : X1 < P256 := by rw [hX1]; exact mod_256 _
  have HX1 := Lib.hid hX1
  clear hX1
  have c_X2 := fsub_mod X1 (by rw [HX1.out]; exact Nat.mod_lt _ (by decide))
  obtain ⟨X2, hX2⟩ : ∃ v_, v_ = PP - X1 := ⟨_, rfl⟩
  rw [← hX2] at c_X2
  have bX2 : X2 < P256 := by rw [hX2]; exact Nat.lt_of_le_of_lt (Nat.sub_le _ _) PP_lt
  have HX2 := Lib.hid hX2
  clear hX2
  refine wp_region_xn 7 [⟨7, 3, #[.int .u64 0, .int .u64 0, .int .u64 0, .int .u64 0], 26⟩] (by kernel_rfl) ?_ (by kernel_rfl) ?_
  · intro x hx
    simp only [List.mem_cons, List.not_mem_nil, or_false] at hx
    subst hx; exact ⟨_, rfl, rfl, rfl, fun _ _ => by kernel_rfl⟩
  simp only [List.take_succ_cons, List.take_zero, List.take_nil]
  (try simp only [Act.put, List.setIfInBounds_toArray, List.set_cons_zero, List.set_cons_succ])
  ((with_reducible refine wpX_load (b := ?_) (cs := ?_) ?_ rfl ?_ ?_ ?_ ?_ ?_); rotate_left 2; (focus rfl); (focus rfl); (focus first | assumption | exact blk_rd (by assumption)); (focus kernel_rfl); (focus kernel_rfl); (try simp only [Act.put, List.setIfInBounds_toArray, List.set_cons_zero, List.set_cons_succ]))
  ((with_reducible refine wpX_load (b := ?_) (cs := ?_) ?_ rfl ?_ ?_ ?_ ?_ ?_); rotate_left 2; (focus rfl); (focus rfl); (focus first | assumption | exact blk_rd (by assumption)); (focus kernel_rfl); (focus kernel_rfl); (try simp only [Act.put, List.setIfInBounds_toArray, List.set_cons_zero, List.set_cons_succ]))
  ((with_reducible refine wpX_fn (fun W hW => c_X1 W (GF_ext gf hW)) ?_ rfl ?_ ?_ ?_); (focus rfl); (focus kernel_rfl); (focus rfl); (try simp only [Act.put, List.setIfInBounds_toArray, List.set_cons_zero, List.set_cons_succ]))
  ((with_reducible refine wpX_fn (fun W hW => c_X2 W) ?_ rfl ?_ ?_ ?_); (focus rfl); (focus kernel_rfl); (focus rfl); (try simp only [Act.put, List.setIfInBounds_toArray, List.set_cons_zero, List.set_cons_succ]))
  (refine wpX_val (v := ?_) (by rfl) (fun W hW => ?_) ?_; rotate_left 1; (focus (go_simp; first | done | with_reducible rfl)); (try simp only [Act.put, List.setIfInBounds_toArray, List.set_cons_zero, List.set_cons_succ]))
  (refine wpX_val (v := ?_) (by rfl) (fun W hW => ?_) ?_; rotate_left 1; (focus (go_simp; first | done | with_reducible rfl)); (try simp only [Act.put, List.setIfInBounds_toArray, List.set_cons_zero, List.set_cons_succ]))
  (refine wpX_val (v := ?_) (by rfl) (fun W hW => ?_) ?_; rotate_left 1; (focus (go_simp; first | done | with_reducible rfl)); (try simp only [Act.put, List.setIfInBounds_toArray, List.set_cons_zero, List.set_cons_succ]))
  refine wpX_nil ?_
  intro β W1 hE hN hD
  obtain ⟨n_t3_1, k_t3⟩ := hN _ (List.mem_cons_self ..)
  simp only [putAll, Act.put, List.setIfInBounds_toArray, List.set_cons_zero, List.set_cons_succ, List.drop_succ_cons, List.drop_zero, List.drop_nil, List.length_cons, List.length_nil] at n_t3_1 k_t3 ⊢
  generalize β 7 = p3_1 at *
  have sz_1 := bel.size
  clear hN hD β
  refine wpL_store (g := p3_1) (cells := c4 X2) (by rfl) rfl rfl rfl k_t3 (by kernel_rfl) (by kernel_rfl) (by kernel_rfl) ?_
  (try simp only [Act.put, List.setIfInBounds_toArray, List.set_cons_zero, List.set_cons_succ])
  (refine wpL_val (v := ?_) (by rfl) ?_ ?_; rotate_left 1; (focus (go_simp; first | done | with_reducible rfl)))
  (try simp only [Act.put, List.setIfInBounds_toArray, List.set_cons_zero, List.set_cons_succ])
  refine wpL_nil ?_
  refine NoPanic.normal (Q := Exit.then _ _) ?_
  have hF : Below w.heap.size w (W1.setRow p3_1 (c4 X2)) ∧ Blk (W1.setRow p3_1 (c4 X2)) w.heap.size (c4 A) 26 ∧ Blk (W1.setRow p3_1 (c4 X2)) (w.heap.size + 1) #[.int .u64 0, .int .u64 0, .int .u64 0, .int .u64 0] 26 ∧ Blk (W1.setRow p3_1 (c4 X2)) p3_1 (c4 X2) 26 := ⟨(below_setRow (below_step bel hE bel.size) (by omega) _), (blk_setRow_other (blk_step k_t1 hE) (by omega) _), (blk_setRow_other (blk_step k_t2 hE) (by omega) _), (blk_setRow k_t3 (c4 X2))⟩
  generalize (W1.setRow p3_1 (c4 X2)) = W2 at hF ⊢
  clear bel k_t1 k_t2 k_t3
  obtain ⟨bel, k_t1, k_t2, k_t3⟩ := hF
  go_upto_region 2 with fail
  have lt_t3_2 := blk_lt k_t3
  have gf := GF_ext hG bel
  have gm := gf.1
  have gi := gf.2
  have c_X3 := rest_c X2 bX2
  obtain ⟨X3, hX3⟩ : ∃ v_, v_ = X2 % PP := ⟨_, rfl⟩
  rw [← hX3] at c_X3
  have bX3 : X3 < P256 := by rw [hX3]; exact mod_256 _
  have HX3 := Lib.hid hX3
  clear hX3
  refine wp_region_pn 2 [] (fun x hx => by cases hx) (by kernel_rfl) ?_
  simp only [List.take_succ_cons, List.take_zero, List.take_nil]
  (try simp only [Act.put, List.setIfInBounds_toArray, List.set_cons_zero, List.set_cons_succ])
  ((with_reducible refine wpX_load (b := ?_) (cs := ?_) ?_ rfl ?_ ?_ ?_ ?_ ?_); rotate_left 2; (focus rfl); (focus rfl); (focus first | assumption | exact blk_rd (by assumption)); (focus kernel_rfl); (focus kernel_rfl); (try simp only [Act.put, List.setIfInBounds_toArray, List.set_cons_zero, List.set_cons_succ]))
  ((with_reducible refine wpX_fn (fun W hW => c_X3 W (GF_ext gf hW)) ?_ rfl ?_ ?_ ?_); (focus rfl); (focus kernel_rfl); (focus rfl); (try simp only [Act.put, List.setIfInBounds_toArray, List.set_cons_zero, List.set_cons_succ]))
  refine wpX_nil ?_
  intro β W3 hE hN hD
  simp only [putAll, Act.put, List.setIfInBounds_toArray, List.set_cons_zero, List.set_cons_succ, List.drop_succ_cons, List.drop_zero, List.drop_nil, List.length_cons, List.length_nil]
  clear hN hD β
  refine wpL_store (g := (w.heap.size + 1)) (cells := c4 X3) (by rfl) rfl rfl rfl (blk_step k_t2 hE) (by kernel_rfl) (by kernel_rfl) (by kernel_rfl) ?_
  (try simp only [Act.put, List.setIfInBounds_toArray, List.set_cons_zero, List.set_cons_succ])
  refine wpL_nil ?_
  have hF : Below w.heap.size w (W3.setRow (w.heap.size + 1) (c4 X3)) ∧ Blk (W3.setRow (w.heap.size + 1) (c4 X3)) w.heap.size (c4 A) 26 ∧ Blk (W3.setRow (w.heap.size + 1) (c4 X3)) (w.heap.size + 1) (c4 X3) 26 ∧ Blk (W3.setRow (w.heap.size + 1) (c4 X3)) p3_1 (c4 X2) 26 := ⟨(below_setRow (below_step bel hE bel.size) (by omega) _), (blk_setRow_other (blk_step k_t1 hE) (by omega) _), (blk_setRow (blk_step k_t2 hE) (c4 X3)), (blk_setRow_other (blk_step k_t3 hE) (by omega) _)⟩
  generalize (W3.setRow (w.heap.size + 1) (c4 X3)) = W4 at hF ⊢
  clear bel k_t1 k_t2 k_t3
  obtain ⟨bel, k_t1, k_t2, k_t3⟩ := hF
  go_wp2
  refine bodyPost_ret (res_row rfl rfl k_t2 (by kernel_rfl) (by kernel_rfl)) rfl ⟨?_, bel⟩
  rw [HX3.out, HX2.out, HX1.out]; rfl
end Go.Proofs.YtghajiagbfcmdaaDoor
