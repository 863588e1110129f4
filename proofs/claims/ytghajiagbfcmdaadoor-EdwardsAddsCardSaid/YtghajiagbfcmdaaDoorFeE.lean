/- field.Mul. Conditions: the cells of field.modulus hold the modulus. -/
import Derived.Test.YtghajiagbfcmdaaDoorFeD
namespace Go.Proofs.YtghajiagbfcmdaaDoor
set_option linter.unusedSimpArgs false
set_option linter.unusedVariables false
open Go.RowKit

/-- one part more of the sum of the lower half and 38 times the upper half -/
theorem mul_part (i : Nat) (N V V' : Nat) (g s c cv : Int) (hg : u64ok g) (hs : u64ok s) (hc : u64ok c) (hcv : u64ok cv)
    (h5 : s + 18446744073709551616 * cv = lim N (4 + i) * 38 + lim N i + c) (h1 : V' + g.toNat * 2 ^ (64 * i) = V + s.toNat * 2 ^ (64 * i)) (hg0 : g = 0)
    (h2 : V + c.toNat * 2 ^ (64 * i) = N % 2 ^ (64 * i) + 38 * (N / 2 ^ 256 % 2 ^ (64 * i))) :
    V' + cv.toNat * 2 ^ (64 * (i + 1)) = N % 2 ^ (64 * (i + 1)) + 38 * (N / 2 ^ 256 % 2 ^ (64 * (i + 1))) := by
  have e4 : lim N (4 + i) = lim (N / 2 ^ 256) i := by
    unfold lim; rw [Nat.div_div_eq_div_mul, ← Nat.pow_add, show 64 * (4 + i) = 256 + 64 * i by omega]
  rw [e4] at h5
  rw [mod_step N, mod_step (N / 2 ^ 256)]
  have l1 := lim_ok N i
  have l2 := lim_ok (N / 2 ^ 256) i
  obtain ⟨x, hx⟩ := Int.eq_ofNat_of_zero_le l1.1
  obtain ⟨y, hy⟩ := Int.eq_ofNat_of_zero_le l2.1
  obtain ⟨s, rfl⟩ := Int.eq_ofNat_of_zero_le hs.1
  obtain ⟨c, rfl⟩ := Int.eq_ofNat_of_zero_le hc.1
  obtain ⟨d, rfl⟩ := Int.eq_ofNat_of_zero_le hcv.1
  subst hg0
  rw [hx, hy] at *
  simp only [Int.toNat_natCast, Int.toNat_zero, Nat.zero_mul, Nat.add_zero] at *
  have h6 : s + 18446744073709551616 * d = y * 38 + x + c := by omega
  have e1 : (2 : Nat) ^ (64 * (i + 1)) = 18446744073709551616 * 2 ^ (64 * i) := by rw [show 64 * (i + 1) = 64 + 64 * i by omega, Nat.pow_add]
  rw [e1]
  generalize N % 2 ^ (64 * i) = n0 at *
  generalize N / 2 ^ 256 % 2 ^ (64 * i) = n1 at *
  generalize 2 ^ (64 * i) = W at *
  have e5 : d * (18446744073709551616 * W) = 18446744073709551616 * d * W := by rw [Nat.mul_left_comm, Nat.mul_assoc]
  have h7 : s * W + 18446744073709551616 * d * W = y * 38 * W + x * W + c * W := by
    rw [← Nat.add_mul, h6, Nat.add_mul, Nat.add_mul]
  have e6 : y * 38 * W = 38 * (y * W) := by rw [Nat.mul_comm y 38, Nat.mul_assoc]
  rw [e5, Nat.mul_add]
  generalize y * W = yw at *
  omega
theorem mul_fin (A B S c : Nat) (hA : A < P256) (hB : B < P256) (h : S + c * 2 ^ (64 * 4) = A * B % 2 ^ (64 * 4) + 38 * (A * B / 2 ^ 256 % 2 ^ (64 * 4))) : moreV S (38 * c) % PP = A * B % PP := by
  have hN : A * B / 2 ^ 256 < P256 := Nat.div_lt_of_lt_mul (Nat.mul_lt_mul'' hA hB)
  have e : (2 : Nat) ^ (64 * 4) = P256 := by decide
  have e' : (2 : Nat) ^ 256 = P256 := by decide
  rw [show (2 : Nat) ^ (64 * 4) = 2 ^ 256 by decide] at h
  rw [e'] at h hN
  rw [Nat.mod_eq_of_lt hN] at h
  rw [moreV_mod]
  have hd := Nat.div_add_mod (A * B) P256
  generalize A * B / P256 = q at *
  generalize A * B % P256 = r at *
  generalize A * B = N at *
  have h2 : P256 = 2 * PP + 38 := PP_two.symm
  have key : S + 38 * c + PP * (2 * c) = r + 38 * q := by
    have : PP * (2 * c) = c * (2 * PP) := by rw [Nat.mul_left_comm, Nat.mul_comm PP c, Nat.mul_left_comm]
    rw [h2, Nat.mul_add] at h
    omega
  have key2 : N = r + 38 * q + PP * (2 * q) := by
    have : PP * (2 * q) = 2 * PP * q := by rw [Nat.mul_left_comm, Nat.mul_assoc]
    rw [← hd, h2, Nat.add_mul]; omega
  rw [key2, ← key, Nat.add_mul_mod_self_left, Nat.add_mul_mod_self_left]

theorem mul_top (S O N : Nat) (h : S + O * 2 ^ (64 * 4) = N % 2 ^ (64 * 4) + 38 * (N / 2 ^ 256 % 2 ^ (64 * 4))) : O ≤ 38 := by
  have h1 : N % 2 ^ (64 * 4) < P256 := Nat.mod_lt _ (by decide)
  have h2 : N / 2 ^ 256 % 2 ^ (64 * 4) < P256 := Nat.mod_lt _ (by decide)
  rw [show (2 : Nat) ^ (64 * 4) = P256 by decide] at *
  unfold P256 at *; omega
theorem arrK4 (f : Nat → Int) : arrK .u64 4 f = #[.int .u64 (f 0), .int .u64 (f 1), .int .u64 (f 2), .int .u64 (f 3)] := rfl
theorem arrK_L4 (f : Nat → Int) (hf : ∀ j, u64ok (f j)) : Value.agg (arrK .u64 4 f) = L4 (wval f 4) := by
  rw [arrK4]; unfold L4
  rw [lim_wval f 4 0 (by omega) (fun i _ => hf i), lim_wval f 4 1 (by omega) (fun i _ => hf i), lim_wval f 4 2 (by omega) (fun i _ => hf i), lim_wval f 4 3 (by omega) (fun i _ => hf i)]
theorem more_m38 (f : Nat → Int) (S o : Nat) (hS : S = wval f 4) (hf : ∀ j, u64ok (f j)) (hA : S < P256) (ho : o ≤ 38) (w : World) : Calls Tryd.prog 54 #[.agg (arrK .u64 4 f), .int .u64 (IntKind.u64.wrap (38 * (o : Int)))] w fun e w' => Ret (L4 (moreV S (38 * o))) w w' e := by
  have : IntKind.u64.wrap (38 * (o : Int)) = ((38 * o : Nat) : Int) := by rw [IntKind.wrap_u64]; omega
  rw [this, arrK_L4 f hf, ← hS]; exact more_c S (38 * o) hA (by omega) w
set_option maxHeartbeats 4000000 in
theorem fMul_c (A B : Nat) (hA : A < P256) (hB : B < P256) (w : World) (hG : GF w) :
    Calls Tryd.prog 28 #[L4 A, L4 B] w fun e w' => Ret (L4 (A * B % PP)) w w' e := by
  go_enter Tryd.func28, Tryd.ntmps28
  go_upto_region 1 with fail
  refine wp_world (fun W => Below w.heap.size w W ∧ Blk W w.heap.size (c4 A) 26 ∧ Blk W (w.heap.size + 1) (c4 B) 26 ∧ Blk W (w.heap.size + 2) #[.int .u64 0, .int .u64 0, .int .u64 0, .int .u64 0] 26) ⟨(by (repeat' (first | (with_reducible assumption) | (with_reducible exact Below.refl _ _) | (with_reducible refine Below.drew ?_) | (with_reducible refine Below.alloc ?_ ?_ _) | (with_reducible refine below_set ?_ ?_ _ _) | (with_reducible refine below_setRow ?_ ?_ _) | (with_reducible refine below_step ?_ (by assumption) ?_))) <;> (first | omega | ((try simp only [World.size_alloc, World.size_setCell, World.size_drew, size_setRow]); omega))), blk_alloc (blk_alloc (blk_new _ _ rfl) _) _, blk_alloc (blk_new _ _ (by simp)) _, blk_new _ _ (by simp)⟩ ?_
  rintro W0 ⟨bel, k_t2, k_t3, k_t4⟩
  have lt_t2_0 := blk_lt k_t2
  have lt_t3_0 := blk_lt k_t3
  have lt_t4_0 := blk_lt k_t4
  have gf := GF_ext hG bel
  have gm := gf.1
  have gi := gf.2
  have c_p := product_c A B hA hB
  obtain ⟨N, hN⟩ : ∃ v_, v_ = A * B := ⟨_, rfl⟩
  rw [← hN] at c_p
  have HN := Lib.hid hN
  clear hN
  refine wp_region_pn 3 [⟨3, 5, arrK .u64 8 (fun _ => 0), 74⟩] ?_ (by kernel_rfl) ?_
  · intro x hx
    simp only [List.mem_cons, List.not_mem_nil, or_false] at hx
    subst hx; exact ⟨_, rfl, rfl, rfl, fun _ _ => by kernel_rfl⟩
  simp only [List.take_succ_cons, List.take_zero, List.take_nil]
  (try simp only [Act.put, List.setIfInBounds_toArray, List.set_cons_zero, List.set_cons_succ])
  ((with_reducible refine wpX_load (b := ?_) (cs := ?_) ?_ rfl ?_ ?_ ?_ ?_ ?_); rotate_left 2; (focus rfl); (focus rfl); (focus first | assumption | exact blk_rd (by assumption)); (focus kernel_rfl); (focus kernel_rfl); (try simp only [Act.put, List.setIfInBounds_toArray, List.set_cons_zero, List.set_cons_succ]))
  ((with_reducible refine wpX_load (b := ?_) (cs := ?_) ?_ rfl ?_ ?_ ?_ ?_ ?_); rotate_left 2; (focus rfl); (focus rfl); (focus first | assumption | exact blk_rd (by assumption)); (focus kernel_rfl); (focus kernel_rfl); (try simp only [Act.put, List.setIfInBounds_toArray, List.set_cons_zero, List.set_cons_succ]))
  ((with_reducible refine wpX_fn (fun W hW => c_p W) ?_ rfl ?_ ?_ ?_); (focus rfl); (focus kernel_rfl); (focus rfl); (try simp only [Act.put, List.setIfInBounds_toArray, List.set_cons_zero, List.set_cons_succ]))
  refine wpX_nil ?_
  intro β W1 hE hN hD
  obtain ⟨n_t5_1, k_t5⟩ := hN _ (List.mem_cons_self ..)
  simp only [putAll, Act.put, List.setIfInBounds_toArray, List.set_cons_zero, List.set_cons_succ, List.drop_succ_cons, List.drop_zero, List.drop_nil, List.length_cons, List.length_nil] at n_t5_1 k_t5 ⊢
  generalize β 3 = p5_1 at *
  have sz_1 := bel.size
  clear hN hD β
  refine wpL_store (g := p5_1) (cells := arrK .u64 8 (lim N)) (by rfl) rfl rfl rfl k_t5 (by kernel_rfl) (by kernel_rfl) (arrK_one _ _ _) ?_
  (try simp only [Act.put, List.setIfInBounds_toArray, List.set_cons_zero, List.set_cons_succ])
  refine wpL_nil ?_
  have hF : Below w.heap.size w (W1.setRow p5_1 (arrK .u64 8 (lim N))) ∧ Blk (W1.setRow p5_1 (arrK .u64 8 (lim N))) w.heap.size (c4 A) 26 ∧ Blk (W1.setRow p5_1 (arrK .u64 8 (lim N))) (w.heap.size + 1) (c4 B) 26 ∧ Blk (W1.setRow p5_1 (arrK .u64 8 (lim N))) (w.heap.size + 2) #[.int .u64 0, .int .u64 0, .int .u64 0, .int .u64 0] 26 ∧ Blk (W1.setRow p5_1 (arrK .u64 8 (lim N))) p5_1 (arrK .u64 8 (lim N)) 74 := ⟨(below_setRow (below_step bel hE bel.size) (by omega) _), (blk_setRow_other (blk_step k_t2 hE) (by omega) _), (blk_setRow_other (blk_step k_t3 hE) (by omega) _), (blk_setRow_other (blk_step k_t4 hE) (by omega) _), (blk_setRow k_t5 (arrK .u64 8 (lim N)))⟩
  generalize (W1.setRow p5_1 (arrK .u64 8 (lim N))) = W2 at hF ⊢
  clear bel k_t2 k_t3 k_t4 k_t5
  obtain ⟨bel, k_t2, k_t3, k_t4, k_t5⟩ := hF
  go_upto_region 2 with fail
  have lt_t5_2 := blk_lt k_t5
  have gf := GF_ext hG bel
  have gm := gf.1
  have gi := gf.2
  refine wp_region_pn 0 [⟨0, 6, #[.int .u64 0, .int .u64 0, .int .u64 0, .int .u64 0], 26⟩] ?_ (by kernel_rfl) ?_
  · intro x hx
    simp only [List.mem_cons, List.not_mem_nil, or_false] at hx
    subst hx; exact ⟨_, rfl, rfl, rfl, fun _ _ => by kernel_rfl⟩
  simp only [List.take_succ_cons, List.take_zero, List.take_nil]
  (try simp only [Act.put, List.setIfInBounds_toArray, List.set_cons_zero, List.set_cons_succ])
  refine wpX_nil ?_
  intro β W3 hE hN hD
  obtain ⟨n_t6_3, k_t6⟩ := hN _ (List.mem_cons_self ..)
  simp only [putAll, Act.put, List.setIfInBounds_toArray, List.set_cons_zero, List.set_cons_succ, List.drop_succ_cons, List.drop_zero, List.drop_nil, List.length_cons, List.length_nil] at n_t6_3 k_t6 ⊢
  generalize β 0 = p6_3 at *
  have sz_3 := bel.size
  clear hN hD β
  refine wpL_nil ?_
  have hF : Below w.heap.size w W3 ∧ Blk W3 w.heap.size (c4 A) 26 ∧ Blk W3 (w.heap.size + 1) (c4 B) 26 ∧ Blk W3 (w.heap.size + 2) #[.int .u64 0, .int .u64 0, .int .u64 0, .int .u64 0] 26 ∧ Blk W3 p5_1 (arrK .u64 8 (lim N)) 74 ∧ Blk W3 p6_3 #[.int .u64 0, .int .u64 0, .int .u64 0, .int .u64 0] 26 := ⟨(below_step bel hE bel.size), (blk_step k_t2 hE), (blk_step k_t3 hE), (blk_step k_t4 hE), (blk_step k_t5 hE), k_t6⟩
  clear bel k_t2 k_t3 k_t4 k_t5 k_t6
  obtain ⟨bel, k_t2, k_t3, k_t4, k_t5, k_t6⟩ := hF
  have lt_t6_3 := blk_lt k_t6
  go_wp2_with fail
  go_loopw [7, 16] (fun cc ii wr => ∃ (i : Nat) (c : Int) (f : Nat → Int), i ≤ 4 ∧ ii = .int .i64 i ∧ cc = .int .u64 c ∧ u64ok c ∧ (∀ j, u64ok (f j)) ∧ (∀ j, i ≤ j → f j = 0) ∧ wval f 4 + c.toNat * 2 ^ (64 * i) = N % 2 ^ (64 * i) + 38 * (N / 2 ^ 256 % 2 ^ (64 * i)) ∧ Below w.heap.size w wr ∧ Blk wr w.heap.size (c4 A) 26 ∧ Blk wr (w.heap.size + 1) (c4 B) 26 ∧ Blk wr (w.heap.size + 2) #[.int .u64 0, .int .u64 0, .int .u64 0, .int .u64 0] 26 ∧ Blk wr p5_1 (arrK .u64 8 (lim N)) 74 ∧ Blk wr p6_3 (arrK .u64 4 f) 26)
    (fun cc ii _ => (4 - intOf ii).toNat)
  case atStart =>
    refine ⟨0, 0, fun _ => 0, by omega, rfl, rfl, ⟨by omega, by omega⟩, fun _ => ⟨by simp, by simp⟩, fun _ _ => rfl, ?_, bel, k_t2, k_t3, k_t4, k_t5, k_t6⟩
    rw [wval_zero, Nat.mul_zero, Nat.pow_zero, Nat.mod_one, Nat.mod_one]; rfl
  case round =>
    obtain ⟨i, c, f, hi, rfl, rfl, hc, hf, hf0, hv, bel, k_t2, k_t3, k_t4, k_t5, k_t6⟩ := hrel
    have HV := Lib.hid hv
    have HF0 := Lib.hid hf0
    clear hv hf0
    by_cases hexit : i = 4
    · have _hx := hexit
      subst hexit
      go_upto_region 14 with fail
      have lt_t2_4 := blk_lt k_t2
      have lt_t3_4 := blk_lt k_t3
      have lt_t4_4 := blk_lt k_t4
      have lt_t5_4 := blk_lt k_t5
      have lt_t6_4 := blk_lt k_t6
      have gf := GF_ext hG bel
      have gm := gf.1
      have gi := gf.2
      obtain ⟨S, hS⟩ : ∃ v_, v_ = wval f 4 := ⟨_, rfl⟩
      have bS : S < P256 := by rw [hS]; exact wval_lt f 4 (fun j _ => hf j)
      obtain ⟨O, rfl⟩ := Int.eq_ofNat_of_zero_le hc.1
      have hw := HV.out
      rw [← hS, Int.toNat_natCast] at hw
      have bO : O ≤ 38 := mul_top _ _ _ hw
      have c_X1 := more_m38 f S O hS (fun j => hf j) bS bO
      obtain ⟨X1, hX1⟩ : ∃ v_, v_ = moreV S (38 * O) := ⟨_, rfl⟩
      rw [← hX1] at c_X1
      have bX1 : X1 < P256 := by rw [hX1]; exact moreV_lt _ _ bS (by omega)
      have HX1 := Lib.hid hX1
      clear hX1
      have c_X2 := rest_c X1 bX1
      obtain ⟨X2, hX2⟩ : ∃ v_, v_ = X1 % PP := ⟨_, rfl⟩
      rw [← hX2] at c_X2
      have bX2 : X2 < P256 := by rw [hX2]; exact mod_256 _
      have HX2 := Lib.hid hX2
      clear hX2
      refine wp_region_pn 5 [] (fun x hx => by cases hx) (by kernel_rfl) ?_
      simp only [List.take_succ_cons, List.take_zero, List.take_nil]
      (try simp only [Act.put, List.setIfInBounds_toArray, List.set_cons_zero, List.set_cons_succ])
      ((with_reducible refine wpX_load (b := ?_) (cs := ?_) ?_ rfl ?_ ?_ ?_ ?_ ?_); rotate_left 2; (focus rfl); (focus rfl); (focus first | assumption | exact blk_rd (by assumption)); (focus kernel_rfl); (focus kernel_rfl); (try simp only [Act.put, List.setIfInBounds_toArray, List.set_cons_zero, List.set_cons_succ]))
      (refine wpX_val (v := ?_) (by rfl) (fun W hW => ?_) ?_; rotate_left 1; (focus (go_simp; first | done | with_reducible rfl)); (try simp only [Act.put, List.setIfInBounds_toArray, List.set_cons_zero, List.set_cons_succ]))
      (refine wpX_val (v := ?_) (by rfl) (fun W hW => ?_) ?_; rotate_left 1; (focus (go_simp; first | done | with_reducible rfl)); (try simp only [Act.put, List.setIfInBounds_toArray, List.set_cons_zero, List.set_cons_succ]))
      ((with_reducible refine wpX_fn (fun W hW => c_X1 W) ?_ rfl ?_ ?_ ?_); (focus rfl); (focus kernel_rfl); (focus rfl); (try simp only [Act.put, List.setIfInBounds_toArray, List.set_cons_zero, List.set_cons_succ]))
      ((with_reducible refine wpX_fn (fun W hW => c_X2 W (GF_ext gf hW)) ?_ rfl ?_ ?_ ?_); (focus rfl); (focus kernel_rfl); (focus rfl); (try simp only [Act.put, List.setIfInBounds_toArray, List.set_cons_zero, List.set_cons_succ]))
      refine wpX_nil ?_
      intro β W5 hE hN hD
      simp only [putAll, Act.put, List.setIfInBounds_toArray, List.set_cons_zero, List.set_cons_succ, List.drop_succ_cons, List.drop_zero, List.drop_nil, List.length_cons, List.length_nil]
      clear hN hD β
      refine wpL_store (g := (w.heap.size + 2)) (cells := c4 X2) (by rfl) rfl rfl rfl (blk_step k_t4 hE) (by kernel_rfl) (by kernel_rfl) (by kernel_rfl) ?_
      (try simp only [Act.put, List.setIfInBounds_toArray, List.set_cons_zero, List.set_cons_succ])
      refine wpL_nil ?_
      have hF : Below w.heap.size w (W5.setRow (w.heap.size + 2) (c4 X2)) ∧ Blk (W5.setRow (w.heap.size + 2) (c4 X2)) w.heap.size (c4 A) 26 ∧ Blk (W5.setRow (w.heap.size + 2) (c4 X2)) (w.heap.size + 1) (c4 B) 26 ∧ Blk (W5.setRow (w.heap.size + 2) (c4 X2)) (w.heap.size + 2) (c4 X2) 26 ∧ Blk (W5.setRow (w.heap.size + 2) (c4 X2)) p5_1 (arrK .u64 8 (lim N)) 74 ∧ Blk (W5.setRow (w.heap.size + 2) (c4 X2)) p6_3 (arrK .u64 4 f) 26 := ⟨(below_setRow (below_step bel hE bel.size) (by omega) _), (blk_setRow_other (blk_step k_t2 hE) (by omega) _), (blk_setRow_other (blk_step k_t3 hE) (by omega) _), (blk_setRow (blk_step k_t4 hE) (c4 X2)), (blk_setRow_other (blk_step k_t5 hE) (by omega) _), (blk_setRow_other (blk_step k_t6 hE) (by omega) _)⟩
      generalize (W5.setRow (w.heap.size + 2) (c4 X2)) = W6 at hF ⊢
      clear bel k_t2 k_t3 k_t4 k_t5 k_t6
      obtain ⟨bel, k_t2, k_t3, k_t4, k_t5, k_t6⟩ := hF
      go_wp2
      refine bodyPost_ret (res_row rfl rfl k_t4 (by kernel_rfl) (by kernel_rfl)) rfl ⟨?_, bel⟩
      rw [HX2.out, HX1.out, mul_fin A B S O hA hB (by rw [← HN.out]; exact hw)]; rfl
    · have hi3 : i < 4 := by omega
      have hi3' : (i : Int) < 4 := by omega
      have hi8 : 4 + (i : Int) < 8 := by omega
      have hi8' : (i : Int) < 8 := by omega
      clear hexit
      obtain ⟨m1, m2, m3, m4, m5⟩ := mul_step (lim N (4 + i)) 38 (lim N i) c (lim_ok N _) (by unfold u64ok; omega) (lim_ok N i) hc
      have a1 := add64_run (mulL (lim N (4 + i)) 38) (lim N i) 0 m1 (lim_ok N i) (by omega) (by omega)
      have a2 := add64_run (adS (mulL (lim N (4 + i)) 38) (lim N i) 0) c 0 m2 hc (by omega) (by omega)
      obtain ⟨sv, hsv⟩ : ∃ sv, sv = adS (adS (mulL (lim N (4 + i)) 38) (lim N i) 0) c 0 := ⟨_, rfl⟩
      rw [← hsv] at m4 m5 a2
      have M5 := Lib.hid m5
      clear m5 hsv
      have c5 := (blk_cell k_t5 (4 + i)).trans (arrK_get _ _ _ _ (by omega))
      have c5' := (blk_cell k_t5 i).trans (arrK_get _ _ _ _ (by omega))
      have c6 := (blk_cell k_t6 i).trans (arrK_get _ _ _ _ hi3)
      have f6 := blk_free k_t6
      go_wp2_with (go_at_call 51; refine (mul64_c _ _ (lim_ok N (4 + i)) (by unfold u64ok; omega) _).mono ?_; rintro e w' ⟨rfl, rfl⟩)
      have hs := blk_set k_t6 i (.int .u64 sv)
      rw [arrK_set] at hs
      have h1 := wval_upd f i sv 4 hi3
      have h2 := HV.out
      have h5 := M5.out
      clear HV M5 a1 a2 c5 c5' c6 f6
      go_roundw
      case rel =>
        (repeat apply Exists.intro)
        refine ⟨?_, rfl⟩
        refine ⟨i + 1, _, upd f i sv, by omega, by go_num, rfl, m3, ?_, ?_, mul_part i N _ _ (f i) sv c _ (hf i) m4 hc m3 h5 h1 (HF0.out i (Nat.le_refl i)) h2, ?_, ?_, ?_, ?_, ?_, hs⟩
        · intro j
          by_cases hj : j = i
          · subst hj; rw [upd_same]; exact m4
          · rw [upd_other _ _ _ _ hj]; exact hf j
        · intro j hj
          rw [upd_other _ _ _ _ (by omega)]
          exact HF0.out j (by omega)
        · exact below_set bel (by omega) _ _
        · exact blk_other k_t2 (by omega) _ _
        · exact blk_other k_t3 (by omega) _ _
        · exact blk_other k_t4 (by omega) _ _
        · exact blk_other k_t5 (by omega) _ _
      case measure => simp [intOf]; omega
end Go.Proofs.YtghajiagbfcmdaaDoor
