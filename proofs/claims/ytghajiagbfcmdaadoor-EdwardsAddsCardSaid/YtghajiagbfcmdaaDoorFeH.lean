/- field.Bytes and Of. Conditions: the cells of field.modulus hold the modulus. -/
import Derived.Test.YtghajiagbfcmdaaDoorFeG
import Derived.Test.YtghajiagbfcmdaaDoorGa
namespace Go.Proofs.YtghajiagbfcmdaaDoor
set_option linter.unusedSimpArgs false
set_option linter.unusedVariables false
open Go.RowKit

theorem c4_arr (V : Nat) : c4 V = arrK .u64 4 (lim V) := rfl
theorem bytes_set (N k q r : Nat) (hr : r < 8) (hk : k = 8 * q + r) : (arrK .u8 32 fun j => if j < k then byt N j else 0).setIfInBounds k (.int .u8 (lim N q / 2 ^ (8 * r) % 256)) = arrK .u8 32 fun j => if j < k + 1 then byt N j else 0 := by
  subst hk
  rw [arrK_set]
  apply arrK_congr
  intro j hj
  have hby := lim_byt N (8 * q + r)
  rw [show (8 * q + r) / 8 = q by omega, show (8 * q + r) % 8 = r by omega] at hby
  unfold upd
  rw [hby]
  dsimp only
  by_cases h1 : j = 8 * q + r
  · subst h1; rw [if_pos (by omega), if_pos (by omega)]
  · rw [if_neg h1]
    by_cases h2 : j < 8 * q + r
    · rw [if_pos h2, if_pos (by omega)]
    · rw [if_neg h2, if_neg (by omega)]
theorem word_set (bs : Nat → Int) (h : ∀ j, u8ok (bs j)) (n q r : Nat) (hr : r < 8) :
    (arrK .u64 n (lim (bval bs (8 * q + r)))).setIfInBounds q (.int .u64 (bits .or .u64 (lim (bval bs (8 * q + r)) q) (IntKind.wrap .u64 (bs (8 * q + r) * 2 ^ (8 * r))))) = arrK .u64 n (lim (bval bs (8 * q + r + 1))) := by
  rw [word_or bs h q r hr, arrK_set]
  apply arrK_congr
  intro j _
  by_cases hj : j = q
  · subst hj; rw [upd_same]
  · rw [upd_other _ _ _ _ hj, lim_bval_other bs h (8 * q + r) j (by omega)]
theorem lim_top (V : Nat) : bits .and .u64 (lim V 3) 9223372036854775807 = lim (V % 2 ^ 255) 3 := by
  obtain ⟨l0, l1⟩ := lim_ok V 3
  obtain ⟨X, hX⟩ := Int.eq_ofNat_of_zero_le l0
  have e2 : bits .and .u64 ((X : Nat) : Int) ((9223372036854775807 : Nat) : Int) = ((X % 9223372036854775808 : Nat) : Int) := by
    rw [bits_and_u64_nat _ _ (by omega) (by omega), show (9223372036854775807 : Nat) = 2 ^ 63 - 1 by decide, Nat.and_two_pow_sub_one_eq_mod]
  rw [hX]
  refine Eq.trans e2 ?_
  unfold lim at hX ⊢
  simp only [Nat.reduceMul, Nat.reducePow] at *
  omega
theorem mask_set (V : Nat) : (c4 V).setIfInBounds 3 (.int .u64 (bits .and .u64 (lim V 3) 9223372036854775807)) = c4 (V % 2 ^ 255) := by
  rw [lim_top, c4_arr, c4_arr, arrK_set]
  apply arrK_congr
  intro j hj
  by_cases h3 : j = 3
  · subst h3; rw [upd_same]
  · rw [upd_other _ _ _ _ h3]
    have : j = 0 ∨ j = 1 ∨ j = 2 := by omega
    unfold lim
    rcases this with rfl | rfl | rfl <;> simp only [Nat.reduceMul, Nat.reducePow] <;> omega

set_option maxHeartbeats 4000000 in
theorem fBytes_c (A : Nat) (hA : A < P256) (w : World) (hG : GF w) :
    Calls Tryd.prog 34 #[L4 A] w fun e w' => Ret (.agg (arrK .u8 32 (byt (A % PP)))) w w' e := by
  go_enter Tryd.func34, Tryd.ntmps34
  go_upto_region 1 with fail
  refine wp_world (fun W => Below w.heap.size w W ∧ Blk W w.heap.size (c4 A) 26 ∧ Blk W (w.heap.size + 1) (arrK .u8 32 (fun _ => 0)) 22) ⟨(by (repeat' (first | (with_reducible assumption) | (with_reducible exact Below.refl _ _) | (with_reducible refine Below.drew ?_) | (with_reducible refine Below.alloc ?_ ?_ _) | (with_reducible refine below_set ?_ ?_ _ _) | (with_reducible refine below_setRow ?_ ?_ _) | (with_reducible refine below_step ?_ (by assumption) ?_))) <;> (first | omega | ((try simp only [World.size_alloc, World.size_setCell, World.size_drew, size_setRow]); omega))), blk_alloc (blk_new _ _ rfl) _, blk_new _ _ (by simp)⟩ ?_
  rintro W0 ⟨bel, k_t1, k_t2⟩
  have lt_t1_0 := blk_lt k_t1
  have lt_t2_0 := blk_lt k_t2
  have gf := GF_ext hG bel
  have gm := gf.1
  have gi := gf.2
  have c_X1 := rest_c A hA
  obtain ⟨X1, hX1⟩ : ∃ v_, v_ = A % PP := ⟨_, rfl⟩
  rw [← hX1] at c_X1
  have bX1 : X1 < P256 := by rw [hX1]; exact mod_256 _
  have HX1 := Lib.hid hX1
  clear hX1
  refine wp_region_pn 2 [] (fun x hx => by cases hx) (by kernel_rfl) ?_
  simp only [List.take_succ_cons, List.take_zero, List.take_nil]
  (try simp only [Act.put, List.setIfInBounds_toArray, List.set_cons_zero, List.set_cons_succ])
  ((with_reducible refine wpX_load (b := ?_) (cs := ?_) ?_ rfl ?_ ?_ ?_ ?_ ?_); rotate_left 2; (focus rfl); (focus rfl); (focus first | assumption | exact blk_rd (by assumption)); (focus kernel_rfl); (focus kernel_rfl); (try simp only [Act.put, List.setIfInBounds_toArray, List.set_cons_zero, List.set_cons_succ]))
  ((with_reducible refine wpX_fn (fun W hW => c_X1 W (GF_ext gf hW)) ?_ rfl ?_ ?_ ?_); (focus rfl); (focus kernel_rfl); (focus rfl); (try simp only [Act.put, List.setIfInBounds_toArray, List.set_cons_zero, List.set_cons_succ]))
  refine wpX_nil ?_
  intro β W1 hE hN hD
  simp only [putAll, Act.put, List.setIfInBounds_toArray, List.set_cons_zero, List.set_cons_succ, List.drop_succ_cons, List.drop_zero, List.drop_nil, List.length_cons, List.length_nil]
  clear hN hD β
  refine wpL_store (g := w.heap.size) (cells := c4 X1) (by rfl) rfl rfl rfl (blk_step k_t1 hE) (by kernel_rfl) (by kernel_rfl) (by kernel_rfl) ?_
  (try simp only [Act.put, List.setIfInBounds_toArray, List.set_cons_zero, List.set_cons_succ])
  refine wpL_nil ?_
  have hF : Below w.heap.size w (W1.setRow w.heap.size (c4 X1)) ∧ Blk (W1.setRow w.heap.size (c4 X1)) w.heap.size (c4 X1) 26 ∧ Blk (W1.setRow w.heap.size (c4 X1)) (w.heap.size + 1) (arrK .u8 32 (fun _ => 0)) 22 := ⟨(below_setRow (below_step bel hE bel.size) (by omega) _), (blk_setRow (blk_step k_t1 hE) (c4 X1)), (blk_setRow_other (blk_step k_t2 hE) (by omega) _)⟩
  generalize (W1.setRow w.heap.size (c4 X1)) = W2 at hF ⊢
  clear bel k_t1 k_t2
  obtain ⟨bel, k_t1, k_t2⟩ := hF
  go_upto_region 2 with fail
  have lt_t1_2 := blk_lt k_t1
  have lt_t2_2 := blk_lt k_t2
  have gf := GF_ext hG bel
  have gm := gf.1
  have gi := gf.2
  refine wp_region_pn 0 [⟨0, 3, arrK .u8 32 (fun _ => 0), 22⟩] ?_ (by kernel_rfl) ?_
  · intro x hx
    simp only [List.mem_cons, List.not_mem_nil, or_false] at hx
    subst hx; exact ⟨_, rfl, rfl, rfl, fun _ _ => by kernel_rfl⟩
  simp only [List.take_succ_cons, List.take_zero, List.take_nil]
  (try simp only [Act.put, List.setIfInBounds_toArray, List.set_cons_zero, List.set_cons_succ])
  refine wpX_nil ?_
  intro β W3 hE hN hD
  obtain ⟨n_t3_3, k_t3⟩ := hN _ (List.mem_cons_self ..)
  simp only [putAll, Act.put, List.setIfInBounds_toArray, List.set_cons_zero, List.set_cons_succ, List.drop_succ_cons, List.drop_zero, List.drop_nil, List.length_cons, List.length_nil] at n_t3_3 k_t3 ⊢
  generalize β 0 = p3_3 at *
  have sz_3 := bel.size
  clear hN hD β
  refine wpL_nil ?_
  have hF : Below w.heap.size w W3 ∧ Blk W3 w.heap.size (c4 X1) 26 ∧ Blk W3 (w.heap.size + 1) (arrK .u8 32 (fun _ => 0)) 22 ∧ Blk W3 p3_3 (arrK .u8 32 (fun _ => 0)) 22 := ⟨(below_step bel hE bel.size), (blk_step k_t1 hE), (blk_step k_t2 hE), k_t3⟩
  clear bel k_t1 k_t2 k_t3
  obtain ⟨bel, k_t1, k_t2, k_t3⟩ := hF
  have lt_t3_3 := blk_lt k_t3
  go_wp2_with fail
  go_loopw [7] (fun ii wr => ∃ (k : Nat), k ≤ 32 ∧ ii = .int .i64 k ∧ Below w.heap.size w wr ∧ Blk wr w.heap.size (c4 X1) 26 ∧ Blk wr (w.heap.size + 1) (arrK .u8 32 (fun _ => 0)) 22 ∧ Blk wr p3_3 (arrK .u8 32 (fun j => if j < k then byt X1 j else 0)) 22)
    (fun ii _ => (32 - intOf ii).toNat)
  case atStart =>
    exact ⟨0, by omega, rfl, bel, k_t1, k_t2, k_t3⟩
  case round =>
    obtain ⟨k, hk, rfl, bel, k_t1, k_t2, k_t3⟩ := hrel
    by_cases hexit : k = 32
    · have _hx := hexit
      subst hexit
      go_upto_region 8 with fail
      have lt_t1_4 := blk_lt k_t1
      have lt_t2_4 := blk_lt k_t2
      have lt_t3_4 := blk_lt k_t3
      have gf := GF_ext hG bel
      have gm := gf.1
      have gi := gf.2
      refine wp_region_pn 1 [] (fun x hx => by cases hx) (by kernel_rfl) ?_
      simp only [List.take_succ_cons, List.take_zero, List.take_nil]
      (try simp only [Act.put, List.setIfInBounds_toArray, List.set_cons_zero, List.set_cons_succ])
      ((with_reducible refine wpX_load (b := ?_) (cs := ?_) ?_ rfl ?_ ?_ ?_ ?_ ?_); rotate_left 2; (focus rfl); (focus rfl); (focus first | assumption | exact blk_rd (by assumption)); (focus kernel_rfl); (focus kernel_rfl); (try simp only [Act.put, List.setIfInBounds_toArray, List.set_cons_zero, List.set_cons_succ]))
      refine wpX_nil ?_
      intro β W5 hE hN hD
      simp only [putAll, Act.put, List.setIfInBounds_toArray, List.set_cons_zero, List.set_cons_succ, List.drop_succ_cons, List.drop_zero, List.drop_nil, List.length_cons, List.length_nil]
      clear hN hD β
      refine wpL_store (g := (w.heap.size + 1)) (cells := arrK .u8 32 (fun j => if j < 32 then byt X1 j else 0)) (by rfl) rfl rfl rfl (blk_step k_t2 hE) (by kernel_rfl) (by kernel_rfl) (arrK_one _ _ _) ?_
      (try simp only [Act.put, List.setIfInBounds_toArray, List.set_cons_zero, List.set_cons_succ])
      refine wpL_nil ?_
      have hF : Below w.heap.size w (W5.setRow (w.heap.size + 1) (arrK .u8 32 (fun j => if j < 32 then byt X1 j else 0))) ∧ Blk (W5.setRow (w.heap.size + 1) (arrK .u8 32 (fun j => if j < 32 then byt X1 j else 0))) w.heap.size (c4 X1) 26 ∧ Blk (W5.setRow (w.heap.size + 1) (arrK .u8 32 (fun j => if j < 32 then byt X1 j else 0))) (w.heap.size + 1) (arrK .u8 32 (fun j => if j < 32 then byt X1 j else 0)) 22 ∧ Blk (W5.setRow (w.heap.size + 1) (arrK .u8 32 (fun j => if j < 32 then byt X1 j else 0))) p3_3 (arrK .u8 32 (fun j => if j < 32 then byt X1 j else 0)) 22 := ⟨(below_setRow (below_step bel hE bel.size) (by omega) _), (blk_setRow_other (blk_step k_t1 hE) (by omega) _), (blk_setRow (blk_step k_t2 hE) (arrK .u8 32 (fun j => if j < 32 then byt X1 j else 0))), (blk_setRow_other (blk_step k_t3 hE) (by omega) _)⟩
      generalize (W5.setRow (w.heap.size + 1) (arrK .u8 32 (fun j => if j < 32 then byt X1 j else 0))) = W6 at hF ⊢
      clear bel k_t1 k_t2 k_t3
      obtain ⟨bel, k_t1, k_t2, k_t3⟩ := hF
      go_wp2
      refine bodyPost_ret (res_row rfl rfl k_t2 (by kernel_rfl) (by kernel_rfl)) rfl ⟨?_, bel⟩
      rw [arrK_congr _ _ _ (byt X1) (fun i hi => if_pos hi), HX1.out]
    · obtain ⟨q, r, hr, rfl⟩ : ∃ q r, r < 8 ∧ k = 8 * q + r := ⟨k / 8, k % 8, by omega, by omega⟩
      have d1 : (8 * (q : Int) + (r : Int)) / 8 = (q : Int) := by omega
      have d2 : (8 * (q : Int) + (r : Int)) % 8 = (r : Int) := by omega
      have hq1 : (q : Int) < 4 := by omega
      have hr1 : (r : Int) < 8 := by omega
      clear hexit
      have c0 := (blk_cell k_t1 q).trans (c4_get X1 q (by omega))
      have c3 := blk_cell k_t3 (8 * q + r)
      rw [arrK_get _ _ _ _ (by omega)] at c3
      have f3 := blk_free k_t3
      go_wp2
      have hs := blk_set k_t3 (8 * q + r) (.int .u8 (lim X1 q / 2 ^ (8 * r) % 256))
      rw [bytes_set X1 (8 * q + r) q r hr rfl] at hs
      go_roundw
      case rel => exact ⟨8 * q + r + 1, by omega, by go_num, below_set bel (by omega) _ _, blk_other k_t1 (by omega) _ _, blk_other k_t2 (by omega) _ _, hs⟩
      case measure => simp [intOf]; omega
set_option maxHeartbeats 4000000 in
theorem fOf_c (bs : Nat → Int) (hbs : ∀ j, u8ok (bs j)) (w : World) (hG : GF w) :
    Calls Tryd.prog 33 #[.agg (arrK .u8 32 bs)] w fun e w' => Ret (L4 (bval bs 32 % 2 ^ 255 % PP)) w w' e := by
  go_enter Tryd.func33, Tryd.ntmps33
  go_upto_region 2 with fail
  refine wp_world (fun W => Below w.heap.size w W ∧ Blk W w.heap.size (arrK .u8 32 bs) 22 ∧ Blk W (w.heap.size + 1) #[.int .u64 0, .int .u64 0, .int .u64 0, .int .u64 0] 26 ∧ Blk W (w.heap.size + 2) #[.int .u64 0, .int .u64 0, .int .u64 0, .int .u64 0] 26) ⟨(by (repeat' (first | (with_reducible assumption) | (with_reducible exact Below.refl _ _) | (with_reducible refine Below.drew ?_) | (with_reducible refine Below.alloc ?_ ?_ _) | (with_reducible refine below_set ?_ ?_ _ _) | (with_reducible refine below_setRow ?_ ?_ _) | (with_reducible refine below_step ?_ (by assumption) ?_))) <;> (first | omega | ((try simp only [World.size_alloc, World.size_setCell, World.size_drew, size_setRow]); omega))), blk_alloc (blk_alloc (blk_new _ _ rfl) _) _, blk_alloc (blk_new _ _ (by simp)) _, blk_new _ _ (by simp)⟩ ?_
  rintro W0 ⟨bel, k_t1, k_t2, k_t3⟩
  have lt_t1_0 := blk_lt k_t1
  have lt_t2_0 := blk_lt k_t2
  have lt_t3_0 := blk_lt k_t3
  have gf := GF_ext hG bel
  have gm := gf.1
  have gi := gf.2
  refine wp_region_pn 2 [] (fun x hx => by cases hx) (by kernel_rfl) ?_
  simp only [List.take_succ_cons, List.take_zero, List.take_nil]
  (try simp only [Act.put, List.setIfInBounds_toArray, List.set_cons_zero, List.set_cons_succ])
  ((with_reducible refine wpX_load (b := ?_) (cs := ?_) ?_ rfl ?_ ?_ ?_ ?_ ?_); rotate_left 2; (focus rfl); (focus rfl); (focus first | assumption | exact blk_rd (by assumption)); (focus kernel_rfl); (focus kernel_rfl); (try simp only [Act.put, List.setIfInBounds_toArray, List.set_cons_zero, List.set_cons_succ]))
  (refine wpX_val (v := ?_) (by rfl) (fun W hW => ?_) ?_; rotate_left 1; (focus (go_simp; first | done | with_reducible rfl)); (try simp only [Act.put, List.setIfInBounds_toArray, List.set_cons_zero, List.set_cons_succ]))
  refine wpX_nil ?_
  intro β W1 hE hN hD
  simp only [putAll, Act.put, List.setIfInBounds_toArray, List.set_cons_zero, List.set_cons_succ, List.drop_succ_cons, List.drop_zero, List.drop_nil, List.length_cons, List.length_nil]
  clear hN hD β
  refine wpL_nil ?_
  have hF : Below w.heap.size w W1 ∧ Blk W1 w.heap.size (arrK .u8 32 bs) 22 ∧ Blk W1 (w.heap.size + 1) #[.int .u64 0, .int .u64 0, .int .u64 0, .int .u64 0] 26 ∧ Blk W1 (w.heap.size + 2) #[.int .u64 0, .int .u64 0, .int .u64 0, .int .u64 0] 26 := ⟨(below_step bel hE bel.size), (blk_step k_t1 hE), (blk_step k_t2 hE), (blk_step k_t3 hE)⟩
  clear bel k_t1 k_t2 k_t3
  obtain ⟨bel, k_t1, k_t2, k_t3⟩ := hF
  have lt_t1_1 := blk_lt k_t1
  have lt_t2_1 := blk_lt k_t2
  have lt_t3_1 := blk_lt k_t3
  have HB := Lib.hid hbs
  clear hbs
  go_wp2_with fail
  go_loopw [7] (fun ii wr => ∃ (k : Nat), k ≤ 32 ∧ ii = .int .i64 k ∧ Below w.heap.size w wr ∧ Blk wr w.heap.size (arrK .u8 32 bs) 22 ∧ Blk wr (w.heap.size + 1) #[.int .u64 0, .int .u64 0, .int .u64 0, .int .u64 0] 26 ∧ Blk wr (w.heap.size + 2) (arrK .u64 4 (lim (bval bs k))) 26)
    (fun ii _ => (32 - intOf ii).toNat)
  case atStart =>
    refine ⟨0, by omega, rfl, ?_⟩
    rw [show arrK .u64 4 (lim (bval bs 0)) = #[.int .u64 0, .int .u64 0, .int .u64 0, .int .u64 0] by kernel_rfl]
    exact ⟨bel, k_t1, k_t2, k_t3⟩
  case round =>
    obtain ⟨k, hk, rfl, bel, k_t1, k_t2, k_t3⟩ := hrel
    by_cases hexit : k = 32
    · have _hx := hexit
      subst hexit
      obtain ⟨V, hV⟩ : ∃ v_, v_ = bval bs 32 := ⟨_, rfl⟩
      rw [← hV, ← c4_arr] at k_t3
      have HV := Lib.hid hV
      clear hV
      have c3 := (blk_cell k_t3 3).trans (c4_get V 3 (by omega))
      have f3 := blk_free k_t3
      go_upto_region 8 with fail
      have hs := blk_set k_t3 3 (.int .u64 (bits .and .u64 (lim V 3) 9223372036854775807))
      rw [mask_set] at hs
      have hF := And.intro (below_set bel (show w.heap.size ≤ (w.heap.size + 2) by omega) 3 (.int .u64 (bits .and .u64 (lim V 3) 9223372036854775807))) (And.intro (blk_other k_t1 (show w.heap.size ≠ (w.heap.size + 2) by omega) 3 (.int .u64 (bits .and .u64 (lim V 3) 9223372036854775807))) (And.intro (blk_other k_t2 (show w.heap.size + 1 ≠ (w.heap.size + 2) by omega) 3 (.int .u64 (bits .and .u64 (lim V 3) 9223372036854775807))) hs))
      generalize wr.setCell ⟨w.heap.size + 1 + 1, 3, none⟩ (.int .u64 (bits .and .u64 (lim V 3) 9223372036854775807)) = Wm at hF ⊢
      clear bel k_t1 k_t2 k_t3 c3 f3 hs
      obtain ⟨bel, k_t1, k_t2, k_t3⟩ := hF
      have lt_t1_2 := blk_lt k_t1
      have lt_t2_2 := blk_lt k_t2
      have lt_t3_2 := blk_lt k_t3
      have gf := GF_ext hG bel
      have gm := gf.1
      have gi := gf.2
      have c_X1 := rest_c (V % 2 ^ 255) (Nat.lt_trans (Nat.mod_lt _ (by decide)) (by decide))
      obtain ⟨X1, hX1⟩ : ∃ v_, v_ = (V % 2 ^ 255) % PP := ⟨_, rfl⟩
      rw [← hX1] at c_X1
      have bX1 : X1 < P256 := by rw [hX1]; exact mod_256 _
      have HX1 := Lib.hid hX1
      clear hX1
      refine wp_region_pn 2 [] (fun x hx => by cases hx) (by kernel_rfl) ?_
      simp only [List.take_succ_cons, List.take_zero, List.take_nil]
      (try simp only [Act.put, List.setIfInBounds_toArray, List.set_cons_zero, List.set_cons_succ])
      ((with_reducible refine wpX_load (b := ?_) (cs := ?_) ?_ rfl ?_ ?_ ?_ ?_ ?_); rotate_left 2; (focus rfl); (focus rfl); (focus first | assumption | exact blk_rd (by assumption)); (focus kernel_rfl); (focus kernel_rfl); (try simp only [Act.put, List.setIfInBounds_toArray, List.set_cons_zero, List.set_cons_succ]))
      ((with_reducible refine wpX_fn (fun W hW => c_X1 W (GF_ext gf hW)) ?_ rfl ?_ ?_ ?_); (focus rfl); (focus kernel_rfl); (focus rfl); (try simp only [Act.put, List.setIfInBounds_toArray, List.set_cons_zero, List.set_cons_succ]))
      refine wpX_nil ?_
      intro β W3 hE hN hD
      simp only [putAll, Act.put, List.setIfInBounds_toArray, List.set_cons_zero, List.set_cons_succ, List.drop_succ_cons, List.drop_zero, List.drop_nil, List.length_cons, List.length_nil]
      clear hN hD β
      refine wpL_store (g := (w.heap.size + 1)) (cells := c4 X1) (by rfl) rfl rfl rfl (blk_step k_t2 hE) (by kernel_rfl) (by kernel_rfl) (by kernel_rfl) ?_
      (try simp only [Act.put, List.setIfInBounds_toArray, List.set_cons_zero, List.set_cons_succ])
      refine wpL_nil ?_
      have hF : Below w.heap.size w (W3.setRow (w.heap.size + 1) (c4 X1)) ∧ Blk (W3.setRow (w.heap.size + 1) (c4 X1)) w.heap.size (arrK .u8 32 bs) 22 ∧ Blk (W3.setRow (w.heap.size + 1) (c4 X1)) (w.heap.size + 1) (c4 X1) 26 ∧ Blk (W3.setRow (w.heap.size + 1) (c4 X1)) (w.heap.size + 2) (c4 (V % 2 ^ 255)) 26 := ⟨(below_setRow (below_step bel hE bel.size) (by omega) _), (blk_setRow_other (blk_step k_t1 hE) (by omega) _), (blk_setRow (blk_step k_t2 hE) (c4 X1)), (blk_setRow_other (blk_step k_t3 hE) (by omega) _)⟩
      generalize (W3.setRow (w.heap.size + 1) (c4 X1)) = W4 at hF ⊢
      clear bel k_t1 k_t2 k_t3
      obtain ⟨bel, k_t1, k_t2, k_t3⟩ := hF
      go_wp2
      refine bodyPost_ret (res_row rfl rfl k_t2 (by kernel_rfl) (by kernel_rfl)) rfl ⟨?_, bel⟩
      rw [HX1.out, HV.out]; rfl
    · obtain ⟨q, r, hr, rfl⟩ : ∃ q r, r < 8 ∧ k = 8 * q + r := ⟨k / 8, k % 8, by omega, by omega⟩
      have hix : ∀ W, (Instr.index 22 (.agg (arrK .u8 32 bs)) (.int .i64 (8 * (q : Int) + (r : Int)))).run Tryd.prog W = .ok (.int .u8 (bs (8 * q + r))) W := fun W => run_index_arr W 22 5 32 .u8 .i64 _ (8 * q + r) _ Tryd.underlying22 Tryd.underlying5 (by kernel_rfl) (by omega) (arrK_get _ _ _ _ (by omega))
      have d1 : IntKind.i64.wrap ((8 * (q : Int) + (r : Int)).tdiv 8) = (q : Int) := by rw [Int.tdiv_eq_ediv_of_nonneg (by omega), IntWalk.i64_in _ (by omega)]; omega
      have d2 : (8 * (q : Int) + (r : Int)).tmod 8 = (r : Int) := by rw [Int.tmod_eq_emod_of_nonneg (by omega)]; omega
      have d3 : IntKind.i64.wrap (8 * (r : Int)) = 8 * (r : Int) := IntWalk.i64_in _ (by omega)
      have d4 : IntKind.u64.wrap (bs (8 * q + r)) = bs (8 * q + r) := by have := HB.out (8 * q + r); unfold u8ok at this; rw [IntKind.wrap_u64]; omega
      have hq0 : (0 : Int) ≤ (q : Int) := by omega
      have hq1 : (q : Int) < 4 := by omega
      have hr0 : (0 : Int) ≤ (r : Int) := by omega
      have hr1 : (r : Int) < 8 := by omega
      clear hexit
      have c3 := (blk_cell k_t3 q).trans (arrK_get _ _ _ _ (by omega))
      have f3 := blk_free k_t3
      have hs := fun v => blk_set k_t3 q v
      go_wp2
      go_region
      go_wp2
      go_roundw
      case rel =>
        refine ⟨8 * q + r + 1, by omega, by go_num, (below_set bel (by omega) _ _).drew, blk_drew (blk_other k_t1 (by omega) _ _), blk_drew (blk_other k_t2 (by omega) _ _), ?_⟩
        have := hs (.int .u64 (bits .or .u64 (lim (bval bs (8 * q + r)) q) (IntKind.wrap .u64 (bs (8 * q + r) * 2 ^ (8 * r)))))
        rw [word_set bs HB.out 4 q r hr] at this
        exact blk_drew this
      case measure => simp [intOf]; omega
end Go.Proofs.YtghajiagbfcmdaaDoor
