/- custumallaw05.FieldBytes. Conditions: the cells of the field's modulus hold it. -/
import Derived.Test.YtjikomnnhbbmaaaDoorFlA
import Derived.Test.YtjikomnnhbbmaaaDoorFp
namespace Go.Proofs.YtjikomnnhbbmaaaDoor
set_option linter.unusedSimpArgs false
set_option linter.unusedVariables false
open Go.RowKit

theorem arr_str (W : World) (b : Nat) (f : Nat → Int) (h : Blk W b (arrK .u8 32 f) 44) : (convert 48 9 (.slice (some ⟨b, 0, none⟩) 32 32)).run Tryd.prog W = .ok (strN 32 f) W :=
  run_convert_bytes_arg W 48 5 Tryd.underlying48 Tryd.underlying5 b 0 32 32 ((List.range 32).map f) (by simp) (fun i hi => by rw [Nat.zero_add, blk_cell h, arrK_get _ _ _ _ hi]; simp [List.getD, hi]) 9 Tryd.underlying9
theorem bval_byt (X : Nat) : ∀ n, bval (byt X) n = X % 2 ^ (8 * n)
  | 0 => by simp [bval, Nat.mod_one]
  | n + 1 => by
    show bval (byt X) n + (byt X n).toNat * 2 ^ (8 * n) = _
    have e : (byt X n).toNat = X / 2 ^ (8 * n) % 256 := by unfold byt; exact Int.toNat_natCast _
    rw [bval_byt X n, e, show 8 * (n + 1) = 8 * n + 8 by omega, Nat.pow_add, Nat.mod_mul, Nat.mul_comm (2 ^ (8 * n))]
theorem bytes_back (A : Nat) : bval (byt (A % PP)) 32 % 2 ^ 255 % PP = A % PP := by
  have h := Nat.mod_lt A PP_pos
  have h2 : PP < 2 ^ 255 := by decide +kernel
  rw [bval_byt, Nat.mod_eq_of_lt (show A % PP < 2 ^ (8 * 32) from Nat.lt_trans h (by decide +kernel)), Nat.mod_eq_of_lt (Nat.lt_trans h h2), Nat.mod_mod]
theorem eq_small (n : Nat) (hn : n < 18446744073709551616) (w : World) : (Op.equalIn 10000 24 (.agg (c4 n)) (.agg #[.int .u64 (n : Int), .int .u64 0, .int .u64 0, .int .u64 0])).run Tryd.prog w = .ok true w := by
  have h256 : n < P256 := Nat.lt_trans hn (by decide +kernel)
  have e := eqEl n n h256 h256 w
  rw [decide_eq_true rfl] at e
  have h4 : Value.agg (c4 n) = .agg #[.int .u64 (n : Int), .int .u64 0, .int .u64 0, .int .u64 0] := L4_small n hn
  rw [← h4]; exact e

set_option maxHeartbeats 4000000 in
theorem fieldBytes_c (bs : Nat → Int) (hbs : ∀ j, u8ok (bs j)) (A n : Nat) (hA : A < P256) (hn : n < 18446744073709551616) (w : World) (hG : GF w) :
    Calls Tryd.prog 7 #[.agg (arrK .u8 32 bs), L4 A, .int .u64 (n : Int)] w fun e w' => Ret (.bool true) w w' e := by
  go_enter Tryd.func7, Tryd.ntmps7
  go_upto_region 1 with fail
  refine wp_world (fun W => Below w.heap.size w W ∧ Blk W w.heap.size (arrK .u8 32 bs) 44 ∧ Blk W (w.heap.size + 1) (c4 A) 24) ⟨(by (repeat' (first | (with_reducible assumption) | (with_reducible exact Below.refl _ _) | (with_reducible refine Below.drew ?_) | (with_reducible refine Below.alloc ?_ ?_ _) | (with_reducible refine below_set ?_ ?_ _ _) | (with_reducible refine below_setRow ?_ ?_ _) | (with_reducible refine below_step ?_ (by assumption) ?_))) <;> (first | omega | ((try simp only [World.size_alloc, World.size_setCell, World.size_drew, size_setRow]); omega))), blk_alloc (blk_new _ _ rfl) _, blk_new _ _ (by simp)⟩ ?_
  rintro W0 ⟨bel, k_t3, k_t4⟩
  have lt_t3_0 := blk_lt k_t3
  have lt_t4_0 := blk_lt k_t4
  have gf := GF_ext hG bel
  have gm := gf.1
  have gi := gf.2
  have c_X1 := fBytes_c A hA
  obtain ⟨X1, hX1⟩ : ∃ v_, v_ = A % PP := ⟨_, rfl⟩
  rw [← hX1] at c_X1
  have bX1 : X1 < P256 := by rw [hX1]; exact mod_256 _
  have HX1 := Lib.hid hX1
  clear hX1
  refine wp_region_pn 2 [⟨2, 7, arrK .u8 32 (fun _ => 0), 44⟩] ?_ (by kernel_rfl) ?_
  · intro x hx
    simp only [List.mem_cons, List.not_mem_nil, or_false] at hx
    subst hx; exact ⟨_, rfl, rfl, rfl, fun _ _ => by kernel_rfl⟩
  simp only [List.take_succ_cons, List.take_zero, List.take_nil]
  (try simp only [Act.put, List.setIfInBounds_toArray, List.set_cons_zero, List.set_cons_succ])
  ((with_reducible refine wpX_load (b := ?_) (cs := ?_) ?_ rfl ?_ ?_ ?_ ?_ ?_); rotate_left 2; (focus rfl); (focus rfl); (focus first | assumption | exact blk_rd (by assumption)); (focus kernel_rfl); (focus kernel_rfl); (try simp only [Act.put, List.setIfInBounds_toArray, List.set_cons_zero, List.set_cons_succ]))
  ((with_reducible refine wpX_fn (fun W hW => c_X1 W (GF_ext gf hW)) ?_ rfl ?_ ?_ ?_); (focus rfl); (focus kernel_rfl); (focus rfl); (try simp only [Act.put, List.setIfInBounds_toArray, List.set_cons_zero, List.set_cons_succ]))
  refine wpX_nil ?_
  intro β W1 hE hN hD
  obtain ⟨n_t7_1, k_t7⟩ := hN _ (List.mem_cons_self ..)
  simp only [putAll, Act.put, List.setIfInBounds_toArray, List.set_cons_zero, List.set_cons_succ, List.drop_succ_cons, List.drop_zero, List.drop_nil, List.length_cons, List.length_nil] at n_t7_1 k_t7 ⊢
  generalize β 2 = p7_1 at *
  have sz_1 := bel.size
  clear hN hD β
  refine wpL_store (g := p7_1) (cells := arrK .u8 32 (byt X1)) (by rfl) rfl rfl rfl k_t7 (by kernel_rfl) (by kernel_rfl) (arrK_one _ _ _) ?_
  (try simp only [Act.put, List.setIfInBounds_toArray, List.set_cons_zero, List.set_cons_succ])
  refine wpL_nil ?_
  have hF : Below w.heap.size w (W1.setRow p7_1 (arrK .u8 32 (byt X1))) ∧ Blk (W1.setRow p7_1 (arrK .u8 32 (byt X1))) w.heap.size (arrK .u8 32 bs) 44 ∧ Blk (W1.setRow p7_1 (arrK .u8 32 (byt X1))) (w.heap.size + 1) (c4 A) 24 ∧ Blk (W1.setRow p7_1 (arrK .u8 32 (byt X1))) p7_1 (arrK .u8 32 (byt X1)) 44 := ⟨(below_setRow (below_step bel hE bel.size) (by omega) _), (blk_setRow_other (blk_step k_t3 hE) (by omega) _), (blk_setRow_other (blk_step k_t4 hE) (by omega) _), (blk_setRow k_t7 (arrK .u8 32 (byt X1)))⟩
  generalize (W1.setRow p7_1 (arrK .u8 32 (byt X1))) = W2 at hF ⊢
  clear bel k_t3 k_t4 k_t7
  obtain ⟨bel, k_t3, k_t4, k_t7⟩ := hF
  go_upto_region 2 with fail
  have lt_t7_2 := blk_lt k_t7
  have gf := GF_ext hG bel
  have gm := gf.1
  have gi := gf.2
  have c_X2 := fOf_c bs hbs
  obtain ⟨X2, hX2⟩ : ∃ v_, v_ = bval bs 32 % 2 ^ 255 % PP := ⟨_, rfl⟩
  rw [← hX2] at c_X2
  have bX2 : X2 < P256 := by rw [hX2]; exact mod_256 _
  have HX2 := Lib.hid hX2
  clear hX2
  have cv_1 := fun W (hW : Ext W2 W) => arr_str W w.heap.size bs (blk_step k_t3 hW)
  unfold strN at cv_1
  have cf := rFrom_c (bval bs 32)
  rw [show strN 32 (byt (bval bs 32)) = strN 32 bs from strN_congr _ _ _ (fun i hi => byt_bval bs hbs 32 i hi)] at cf
  unfold strN at cf
  obtain ⟨S1, hS1⟩ : ∃ S, S = strOfNums ((List.range 32).map bs) := ⟨_, rfl⟩
  rw [← hS1] at cf cv_1
  clear hS1
  have Hcv_1 := Lib.hid cv_1
  clear cv_1
  have c_X3 := cf
  obtain ⟨X3, hX3⟩ : ∃ v_, v_ = bval bs 32 % 2 ^ 255 % PP := ⟨_, rfl⟩
  rw [← hX3] at c_X3
  have bX3 : X3 < P256 := by rw [hX3]; exact mod_256 _
  have HX3 := Lib.hid hX3
  clear hX3
  have e_s5 : X2 = X3 := by rw [HX2.out, HX3.out]
  have c_s4 := lSame_c X2 X3 bX2 bX3
  rw [decide_eq_true e_s5] at c_s4
  clear e_s5
  have c_X6 := lOf_c A hA
  obtain ⟨X6, hX6⟩ : ∃ v_, v_ = A % PP := ⟨_, rfl⟩
  rw [← hX6] at c_X6
  have bX6 : X6 < P256 := by rw [hX6]; exact mod_256 _
  have HX6 := Lib.hid hX6
  have lX6 : X6 < PP := by rw [HX6.out]; exact Nat.mod_lt _ PP_pos
  clear hX6
  have cv_2 := fun W (hW : Ext W2 W) => arr_str W p7_1 (byt X1) (blk_step k_t7 hW)
  unfold strN at cv_2
  have cb := rbytes_c X6
  rw [show strN 32 (byt X6) = strN 32 (byt X1) by rw [HX6.out, HX1.out]] at cb
  unfold strN at cb
  obtain ⟨S2, hS2⟩ : ∃ S, S = strOfNums ((List.range 32).map (byt X1)) := ⟨_, rfl⟩
  rw [← hS2] at cb cv_2
  clear hS2
  have Hcv_2 := Lib.hid cv_2
  clear cv_2
  have c_s := small_c n hn
  have e_sm := eq_small n hn
  have c_X7 := fOf_c (byt X1) (byt_ok _)
  obtain ⟨X7, hX7⟩ : ∃ v_, v_ = bval (byt X1) 32 % 2 ^ 255 % PP := ⟨_, rfl⟩
  rw [← hX7] at c_X7
  have bX7 : X7 < P256 := by rw [hX7]; exact mod_256 _
  have HX7 := Lib.hid hX7
  clear hX7
  have c_X8 := rest_c A hA
  obtain ⟨X8, hX8⟩ : ∃ v_, v_ = A % PP := ⟨_, rfl⟩
  rw [← hX8] at c_X8
  have bX8 : X8 < P256 := by rw [hX8]; exact mod_256 _
  have HX8 := Lib.hid hX8
  clear hX8
  have e_s10 : X7 = X8 := by rw [HX7.out, HX8.out, HX1.out]; exact bytes_back A
  have e_q9 := eqEl X7 X8 bX7 bX8
  rw [decide_eq_true e_s10] at e_q9
  clear e_s10
  refine wp_region_xn 32 [] (by kernel_rfl) (fun x hx => by cases hx) (by kernel_rfl) ?_
  simp only [List.take_succ_cons, List.take_zero, List.take_nil]
  (try simp only [Act.put, List.setIfInBounds_toArray, List.set_cons_zero, List.set_cons_succ])
  ((with_reducible refine wpX_fn (fun W hW => halves_c W (GF_ext gf hW)) ?_ rfl ?_ ?_ ?_); (focus rfl); (focus kernel_rfl); (focus rfl); (try simp only [Act.put, List.setIfInBounds_toArray, List.set_cons_zero, List.set_cons_succ]))
  (refine wpX_val (v := ?_) (by rfl) (fun W hW => ?_) ?_; rotate_left 1; (focus (go_simp; first | done | with_reducible rfl)); (try simp only [Act.put, List.setIfInBounds_toArray, List.set_cons_zero, List.set_cons_succ]))
  ((with_reducible refine wpX_load (b := ?_) (cs := ?_) ?_ rfl ?_ ?_ ?_ ?_ ?_); rotate_left 2; (focus rfl); (focus rfl); (focus first | assumption | exact blk_rd (by assumption)); (focus kernel_rfl); (focus kernel_rfl); (try simp only [Act.put, List.setIfInBounds_toArray, List.set_cons_zero, List.set_cons_succ]))
  ((with_reducible refine wpX_fn (fun W hW => c_X2 W (GF_ext gf hW)) ?_ rfl ?_ ?_ ?_); (focus rfl); (focus kernel_rfl); (focus rfl); (try simp only [Act.put, List.setIfInBounds_toArray, List.set_cons_zero, List.set_cons_succ]))
  (refine wpX_val (v := ?_) (by rfl) (fun W hW => ?_) ?_; rotate_left 1; (focus (go_simp; first | done | with_reducible rfl)); (try simp only [Act.put, List.setIfInBounds_toArray, List.set_cons_zero, List.set_cons_succ]))
  ((with_reducible refine wpX_conv Hcv_1.out ?_ rfl ?_ ?_); (focus rfl); (focus rfl); (try simp only [Act.put, List.setIfInBounds_toArray, List.set_cons_zero, List.set_cons_succ]))
  ((with_reducible refine wpX_fn (fun W hW => c_X3 W) ?_ rfl ?_ ?_ ?_); (focus rfl); (focus kernel_rfl); (focus rfl); (try simp only [Act.put, List.setIfInBounds_toArray, List.set_cons_zero, List.set_cons_succ]))
  ((with_reducible refine wpX_fn (fun W hW => c_s4 W) ?_ rfl ?_ ?_ ?_); (focus rfl); (focus kernel_rfl); (focus rfl); (try simp only [Act.put, List.setIfInBounds_toArray, List.set_cons_zero, List.set_cons_succ]))
  (refine wpX_val (v := ?_) (by rfl) (fun W hW => ?_) ?_; rotate_left 1; (focus (go_simp; first | done | with_reducible rfl)); (try simp only [Act.put, List.setIfInBounds_toArray, List.set_cons_zero, List.set_cons_succ]))
  (refine wpX_val (v := ?_) (by rfl) (fun W hW => ?_) ?_; rotate_left 1; (focus (go_simp; first | done | with_reducible rfl)); (try simp only [Act.put, List.setIfInBounds_toArray, List.set_cons_zero, List.set_cons_succ]))
  (refine wpX_val (v := ?_) (by rfl) (fun W hW => ?_) ?_; rotate_left 1; (focus (go_simp; first | done | with_reducible rfl)); (try simp only [Act.put, List.setIfInBounds_toArray, List.set_cons_zero, List.set_cons_succ]))
  ((with_reducible refine wpX_conv Hcv_2.out ?_ rfl ?_ ?_); (focus rfl); (focus rfl); (try simp only [Act.put, List.setIfInBounds_toArray, List.set_cons_zero, List.set_cons_succ]))
  ((with_reducible refine wpX_load (b := ?_) (cs := ?_) ?_ rfl ?_ ?_ ?_ ?_ ?_); rotate_left 2; (focus rfl); (focus rfl); (focus first | assumption | exact blk_rd (by assumption)); (focus kernel_rfl); (focus kernel_rfl); (try simp only [Act.put, List.setIfInBounds_toArray, List.set_cons_zero, List.set_cons_succ]))
  ((with_reducible refine wpX_fn (fun W hW => c_X6 W) ?_ rfl ?_ ?_ ?_); (focus rfl); (focus kernel_rfl); (focus rfl); (try simp only [Act.put, List.setIfInBounds_toArray, List.set_cons_zero, List.set_cons_succ]))
  ((with_reducible refine wpX_fn (fun W hW => cb W) ?_ rfl ?_ ?_ ?_); (focus rfl); (focus kernel_rfl); (focus rfl); (try simp only [Act.put, List.setIfInBounds_toArray, List.set_cons_zero, List.set_cons_succ]))
  (refine wpX_val (v := ?_) (by rfl) (fun W hW => ?_) ?_; rotate_left 1; (focus (go_simp; first | done | with_reducible rfl)); (try simp only [Act.put, List.setIfInBounds_toArray, List.set_cons_zero, List.set_cons_succ]))
  (refine wpX_val (v := ?_) (by rfl) (fun W hW => ?_) ?_; rotate_left 1; (focus (go_simp; first | done | with_reducible rfl)); (try simp only [Act.put, List.setIfInBounds_toArray, List.set_cons_zero, List.set_cons_succ]))
  (refine wpX_val (v := ?_) (by rfl) (fun W hW => ?_) ?_; rotate_left 1; (focus (go_simp; first | done | with_reducible rfl)); (try simp only [Act.put, List.setIfInBounds_toArray, List.set_cons_zero, List.set_cons_succ]))
  (refine wpX_val (v := ?_) (by rfl) (fun W hW => ?_) ?_; rotate_left 1; (focus (go_simp; first | done | with_reducible rfl)); (try simp only [Act.put, List.setIfInBounds_toArray, List.set_cons_zero, List.set_cons_succ]))
  ((with_reducible refine wpX_fn (fun W hW => c_s W) ?_ rfl ?_ ?_ ?_); (focus rfl); (focus kernel_rfl); (focus rfl); (try simp only [Act.put, List.setIfInBounds_toArray, List.set_cons_zero, List.set_cons_succ]))
  (refine wpX_val (v := ?_) (by rfl) (fun W hW => ?_) ?_; rotate_left 1; (focus (go_simp; first | done | with_reducible rfl)); (try simp only [Act.put, List.setIfInBounds_toArray, List.set_cons_zero, List.set_cons_succ]))
  (refine wpX_val (v := ?_) (by rfl) (fun W hW => ?_) ?_; rotate_left 1; (focus (go_simp; first | done | with_reducible rfl)); (try simp only [Act.put, List.setIfInBounds_toArray, List.set_cons_zero, List.set_cons_succ]))
  ((with_reducible refine wpX_eqlA (e_sm) ?_ ?_ rfl ?_ ?_ ?_); (focus kernel_rfl); (focus rfl); (focus rfl); (focus rfl); (try simp only [Act.put, List.setIfInBounds_toArray, List.set_cons_zero, List.set_cons_succ]))
  (refine wpX_val (v := ?_) (by rfl) (fun W hW => ?_) ?_; rotate_left 1; (focus (go_simp; first | done | with_reducible rfl)); (try simp only [Act.put, List.setIfInBounds_toArray, List.set_cons_zero, List.set_cons_succ]))
  (refine wpX_val (v := ?_) (by rfl) (fun W hW => ?_) ?_; rotate_left 1; (focus (go_simp; first | done | with_reducible rfl)); (try simp only [Act.put, List.setIfInBounds_toArray, List.set_cons_zero, List.set_cons_succ]))
  ((with_reducible refine wpX_load (b := ?_) (cs := ?_) ?_ rfl ?_ ?_ ?_ ?_ ?_); rotate_left 2; (focus rfl); (focus rfl); (focus first | assumption | exact blk_rd (by assumption)); (focus kernel_rfl); (focus kernel_rfl); (try simp only [Act.put, List.setIfInBounds_toArray, List.set_cons_zero, List.set_cons_succ]))
  ((with_reducible refine wpX_fn (fun W hW => c_X7 W (GF_ext gf hW)) ?_ rfl ?_ ?_ ?_); (focus rfl); (focus kernel_rfl); (focus rfl); (try simp only [Act.put, List.setIfInBounds_toArray, List.set_cons_zero, List.set_cons_succ]))
  ((with_reducible refine wpX_load (b := ?_) (cs := ?_) ?_ rfl ?_ ?_ ?_ ?_ ?_); rotate_left 2; (focus rfl); (focus rfl); (focus first | assumption | exact blk_rd (by assumption)); (focus kernel_rfl); (focus kernel_rfl); (try simp only [Act.put, List.setIfInBounds_toArray, List.set_cons_zero, List.set_cons_succ]))
  ((with_reducible refine wpX_fn (fun W hW => c_X8 W (GF_ext gf hW)) ?_ rfl ?_ ?_ ?_); (focus rfl); (focus kernel_rfl); (focus rfl); (try simp only [Act.put, List.setIfInBounds_toArray, List.set_cons_zero, List.set_cons_succ]))
  ((with_reducible refine wpX_eqlA (e_q9) ?_ ?_ rfl ?_ ?_ ?_); (focus kernel_rfl); (focus rfl); (focus rfl); (focus rfl); (try simp only [Act.put, List.setIfInBounds_toArray, List.set_cons_zero, List.set_cons_succ]))
  (refine wpX_val (v := ?_) (by rfl) (fun W hW => ?_) ?_; rotate_left 1; (focus (go_simp; first | done | with_reducible rfl)); (try simp only [Act.put, List.setIfInBounds_toArray, List.set_cons_zero, List.set_cons_succ]))
  (refine wpX_val (v := ?_) (by rfl) (fun W hW => ?_) ?_; rotate_left 1; (focus (go_simp; first | done | with_reducible rfl)); (try simp only [Act.put, List.setIfInBounds_toArray, List.set_cons_zero, List.set_cons_succ]))
  refine wpX_nil ?_
  intro β W3 hE hN hD
  simp only [putAll, Act.put, List.setIfInBounds_toArray, List.set_cons_zero, List.set_cons_succ, List.drop_succ_cons, List.drop_zero, List.drop_nil, List.length_cons, List.length_nil]
  clear hN hD β
  refine wpL_nil ?_
  refine NoPanic.normal (Q := Exit.then _ _) ?_
  have hF : Below w.heap.size w W3 ∧ Blk W3 w.heap.size (arrK .u8 32 bs) 44 ∧ Blk W3 (w.heap.size + 1) (c4 A) 24 ∧ Blk W3 p7_1 (arrK .u8 32 (byt X1)) 44 := ⟨(below_step bel hE bel.size), (blk_step k_t3 hE), (blk_step k_t4 hE), (blk_step k_t7 hE)⟩
  clear bel k_t3 k_t4 k_t7
  obtain ⟨bel, k_t3, k_t4, k_t7⟩ := hF
  go_wp2
  refine bodyPost_ret (v := .bool true) (by simp only [results, Tryd.results7]; go_simp) rfl ⟨?_, bel⟩
  rfl
end Go.Proofs.YtjikomnnhbbmaaaDoor
