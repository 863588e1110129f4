/- Numbers of parts: roots; the lowest 64 bits. No conditions. -/
import Derived.Test.YtfkhogeaadldnaaDoorBgA
import Derived.Test.YtfkhogeaadldnaaDoorWd
namespace Go.Proofs.YtfkhogeaadldnaaDoor
set_option linter.unusedSimpArgs false
set_option linter.unusedVariables false
open Go.RowKit
attribute [local irreducible] wpList
theorem upd_setd0 (N m : Nat) : arrK .i64 28 (upd (l16 N) m 0) = arrK .i64 28 (l16 (setd N m 0)) := upd_setd N m 0 (by decide)
theorem setd_0 (m e : Nat) : setd 0 m e = e * 2 ^ (16 * m) := by
  unfold setd
  rw [Nat.zero_div, Nat.zero_mul, Nat.zero_mod, Nat.zero_add, Nat.add_zero]
theorem setd_clr {p : Nat} (hp : p < 65536) : setd (p * 2 ^ 128) 8 0 = 0 := by
  have h := setd_add (p * 2 ^ 128) 8 0
  have hd : dgt (p * 2 ^ 128) 8 = p := by
    unfold dgt
    rw [show 16 * 8 = 128 by decide, Nat.mul_div_cancel _ (Nat.two_pow_pos _), Nat.mod_eq_of_lt hp]
  rw [hd, show 16 * 8 = 128 by decide] at h
  omega
theorem rtv_next {v : Nat} {cube : Bool} {i : Nat} (hi : i < 70) : rtv v cube (70 - i) = rtStep v cube i (rtv v cube (70 - (i + 1))) := by
  rw [show 70 - i = (69 - i) + 1 by omega, show 70 - (i + 1) = 69 - i by omega]
  show rtStep v cube (69 - (69 - i)) _ = _
  rw [show 69 - (69 - i) = i by omega]
theorem rtA_1 {v X Y i : Nat} (hi : i < 70) (hX : X = rtv v true (70 - (i + 1))) (hY : Y = X + 2 ^ i) (h : v < Y * Y % q28 * Y % q28) : rtv v true (70 - i) = X := by
  rw [rtv_next hi, ← hX]; unfold rtStep; rw [← hY]; exact if_pos h
theorem rtB_1 {v X Y i : Nat} (hi : i < 70) (hX : X = rtv v true (70 - (i + 1))) (hY : Y = X + 2 ^ i) (h : ¬ v < Y * Y % q28 * Y % q28) : rtv v true (70 - i) = Y := by
  rw [rtv_next hi, ← hX]; unfold rtStep; rw [← hY]; exact if_neg h
theorem rtA_0 {v X Y i : Nat} (hi : i < 70) (hX : X = rtv v false (70 - (i + 1))) (hY : Y = X + 2 ^ i) (h : v < Y * Y % q28) : rtv v false (70 - i) = X := by
  rw [rtv_next hi, ← hX]; unfold rtStep; rw [← hY]; exact if_pos h
theorem rtB_0 {v X Y i : Nat} (hi : i < 70) (hX : X = rtv v false (70 - (i + 1))) (hY : Y = X + 2 ^ i) (h : ¬ v < Y * Y % q28) : rtv v false (70 - i) = Y := by
  rw [rtv_next hi, ← hX]; unfold rtStep; rw [← hY]; exact if_neg h
theorem lt448 (N : Nat) : N % q28 < 2 ^ (16 * 28) := by rw [← q28_eq]; exact Nat.mod_lt _ q28_pos
theorem bit_at {X i : Nat} (h : X % 2 ^ (i + 1) = 0) : dgt X (i / 16) + 2 ^ (i % 16) < 65536 ∧ setd X (i / 16) (dgt X (i / 16) + 2 ^ (i % 16)) = X + 2 ^ i := by
  have := bit_more (X := X) (q := i / 16) (r := i % 16) (by omega) (by rw [show 16 * (i / 16) + i % 16 + 1 = i + 1 by omega]; exact h)
  rwa [show 16 * (i / 16) + i % 16 = i by omega] at this
theorem rtv_at {v : Nat} {cube : Bool} {i X : Nat} (hi : i < 70) (hX : X = rtv v cube (70 - (i + 1))) : X % 2 ^ (i + 1) = 0 := by
  have := rtv_low v cube (70 - (i + 1)) (by omega)
  rwa [show 70 - (70 - (i + 1)) = i + 1 by omega, ← hX] at this
theorem or_join {a b n : Nat} (ha : a < 2 ^ n) (hb : b * 2 ^ n + 2 ^ n ≤ 18446744073709551616) : oo (a : Int) (sl (b : Int) n) = ((a + b * 2 ^ n : Nat) : Int) := by
  have e : (b : Int) * 2 ^ n = ((b * 2 ^ n : Nat) : Int) := by rw [Int.natCast_mul, Int.natCast_pow]; rfl
  have e2 : sl (b : Int) n = ((b * 2 ^ n : Nat) : Int) := by
    unfold sl
    rw [e, IntKind.wrap_u64]; omega
  unfold oo
  rw [e2, bits_or_u64_nat _ _ (by omega) (by omega)]
  congr 1
  rw [Nat.or_comm, Nat.mul_comm b, ← Nat.two_pow_add_eq_or_of_lt ha, Nat.add_comm]
theorem part_eq (X : Nat) : oo (oo (oo (l16 X 0) (sl (l16 X 1) 16)) (sl (l16 X 2) 32)) (sl (l16 X 3) 48) = ((X % 2 ^ 64 : Nat) : Int) := by
  have h0 := dgt_lt X 0
  have h1 := dgt_lt X 1
  have h2 := dgt_lt X 2
  have h3 := dgt_lt X 3
  simp only [l16_dgt]
  rw [or_join (by omega) (by omega), or_join (by omega) (by omega), or_join (by omega) (by omega)]
  congr 1
  unfold dgt
  rw [Nat.mul_zero, Nat.pow_zero, Nat.div_one]
  omega

set_option maxRecDepth 100000 in
set_option maxHeartbeats 1500000 in
theorem bRoot_1 (p : Nat) (hp : p < 65536) (w : World) :
    Calls Tryd.prog 16 #[.int .i64 (p : Int), .bool true, .int .i64 64] w fun e w' => Ret (.agg (arrK .i64 28 (l16 (rtv (p * 2 ^ 192) true 70)))) w w' e := by
  have off0 : Off [] w w := Off.refl _ _
  have sz := off0.size
  go_enter Tryd.func16, Tryd.ntmps16
  go_upto_region 0 with fail
  refine wp_region_lit ?_
  refine wpL_new (z := arrK .i64 28 (l16 0)) (t := 42) (by rfl) (by first | kernel_rfl | (go_simp; done) | (go_simp; rfl)) ?_
  (try simp only [Act.put, List.setIfInBounds_toArray, List.set_cons_zero, List.set_cons_succ])
  intro p6_1 W1 n_t6 hO h_
  have fb_t6 : Fb p6_1 w.heap.size [] := fb_new (Nat.le_trans sz n_t6)
  replace off0 := off0.step hO i0
  replace sz := off0.size
  have k_t6 := h_
  clear hO h_ n_t6
  refine wpL_nil ?_
  go_upto_region 1 with fail
  refine wp_region_lit ?_
  refine wpL_new (z := arrK .i64 28 (l16 0)) (t := 42) (by rfl) (by first | kernel_rfl | (go_simp; done) | (go_simp; rfl)) ?_
  (try simp only [Act.put, List.setIfInBounds_toArray, List.set_cons_zero, List.set_cons_succ])
  intro p7_2 W2 n_t7 hO h_
  have nq_t6_t7 : p6_1 ≠ p7_2 := Nat.ne_of_lt (Nat.lt_of_lt_of_le (blk_lt k_t6) n_t7)
  have fb_t7 : Fb p7_2 w.heap.size [] := fb_new (Nat.le_trans sz n_t7)
  replace k_t6 := blk_off k_t6 hO nm0
  replace off0 := off0.step hO i0
  replace sz := off0.size
  have k_t7 := h_
  clear hO h_ n_t7
  refine wpL_new (z := arrK .i64 28 (l16 0)) (t := 42) (by rfl) (by first | kernel_rfl | (go_simp; done) | (go_simp; rfl)) ?_
  (try simp only [Act.put, List.setIfInBounds_toArray, List.set_cons_zero, List.set_cons_succ])
  intro p8_3 W3 n_t8 hO h_
  have nq_t6_t8 : p6_1 ≠ p8_3 := Nat.ne_of_lt (Nat.lt_of_lt_of_le (blk_lt k_t6) n_t8)
  have nq_t7_t8 : p7_2 ≠ p8_3 := Nat.ne_of_lt (Nat.lt_of_lt_of_le (blk_lt k_t7) n_t8)
  have fb_t8 : Fb p8_3 w.heap.size [] := fb_new (Nat.le_trans sz n_t8)
  replace k_t6 := blk_off k_t6 hO nm0
  replace k_t7 := blk_off k_t7 hO nm0
  replace off0 := off0.step hO i0
  replace sz := off0.size
  have k_t8 := h_
  clear hO h_ n_t8
  refine wpL_nil ?_
  go_upto_region 2 with fail
  refine wp_region_lit ?_
  refine wpL_val (v := .int .i64 64) (by rfl) (by first | rfl | (go_simp; done) | (go_simp; with_reducible rfl) | (go_simp; omega)) ?_
  (try simp only [Act.put, List.setIfInBounds_toArray, List.set_cons_zero, List.set_cons_succ])
  refine wpL_val (v := .int .i64 4) (by rfl) (by first | rfl | (go_simp; done) | (go_simp; with_reducible rfl) | (go_simp; omega)) ?_
  (try simp only [Act.put, List.setIfInBounds_toArray, List.set_cons_zero, List.set_cons_succ])
  refine wpL_val (v := .int .i64 8) (by rfl) (by first | rfl | (go_simp; done) | (go_simp; with_reducible rfl) | (go_simp; omega)) ?_
  (try simp only [Act.put, List.setIfInBounds_toArray, List.set_cons_zero, List.set_cons_succ])
  (refine wpL_val (v := ?_) (by rfl) ?_ ?_; rotate_left 1; (focus (go_simp; first | done | with_reducible rfl)))
  (try simp only [Act.put, List.setIfInBounds_toArray, List.set_cons_zero, List.set_cons_succ])
  refine wpL_val (v := .pointer (some ⟨p7_2, 0 + 8, none⟩)) (by rfl) (run_ixarr (m := 28) (by decide) (by decide) Tryd.underlying42 (by kernel_rfl) rfl rfl rfl) ?_
  (try simp only [Act.put, List.setIfInBounds_toArray, List.set_cons_zero, List.set_cons_succ])
  refine wpL_put1 (v := .int .i64 (p : Int)) ⟨rfl, rfl⟩ (by rfl) rfl rfl rfl k_t7 (by rw [arrK_size, Nat.zero_add]; decide) (by kernel_rfl) ?_
  (try simp only [Act.put, List.setIfInBounds_toArray, List.set_cons_zero, List.set_cons_succ])
  intro W4 hO h_
  rw [Nat.zero_add, arrK_set] at h_
  replace k_t7 : Blk W4 p7_2 (arrK .i64 28 (upd (l16 0) 8 (p : Int))) 42 := h_
  clear h_
  replace k_t6 := blk_off k_t6 hO (nm1 nq_t6_t7)
  replace k_t8 := blk_off k_t8 hO (nm1 nq_t7_t8.symm)
  replace off0 := off0.step hO (i1 fb_t7)
  replace sz := off0.size
  clear hO
  rw [upd_setd 0 8 p hp, setd_0] at k_t7
  refine wpL_nil ?_
  go_upto_region 4 with fail
  refine wp_region_lit ?_
  refine wpL_val (v := .int .i64 64) (by rfl) (by first | rfl | (go_simp; done) | (go_simp; with_reducible rfl) | (go_simp; omega)) ?_
  (try simp only [Act.put, List.setIfInBounds_toArray, List.set_cons_zero, List.set_cons_succ])
  refine wpL_val (v := .int .i64 4) (by rfl) (by first | rfl | (go_simp; done) | (go_simp; with_reducible rfl) | (go_simp; omega)) ?_
  (try simp only [Act.put, List.setIfInBounds_toArray, List.set_cons_zero, List.set_cons_succ])
  refine wpL_val (v := .int .i64 8) (by rfl) (by first | rfl | (go_simp; done) | (go_simp; with_reducible rfl) | (go_simp; omega)) ?_
  (try simp only [Act.put, List.setIfInBounds_toArray, List.set_cons_zero, List.set_cons_succ])
  refine wpL_val (v := .pointer (some ⟨p7_2, 0 + 8, none⟩)) (by rfl) (run_ixarr (m := 28) (by decide) (by decide) Tryd.underlying42 (by kernel_rfl) rfl rfl rfl) ?_
  (try simp only [Act.put, List.setIfInBounds_toArray, List.set_cons_zero, List.set_cons_succ])
  refine wpL_put1 (v := .int .i64 0) ⟨rfl, rfl⟩ (by rfl) rfl rfl rfl k_t7 (by rw [arrK_size, Nat.zero_add]; decide) (by kernel_rfl) ?_
  (try simp only [Act.put, List.setIfInBounds_toArray, List.set_cons_zero, List.set_cons_succ])
  intro W5 hO h_
  rw [Nat.zero_add, arrK_set] at h_
  replace k_t7 : Blk W5 p7_2 (arrK .i64 28 (upd (l16 (p * 2 ^ (16 * 8))) 8 0)) 42 := h_
  clear h_
  replace k_t6 := blk_off k_t6 hO (nm1 nq_t6_t7)
  replace k_t8 := blk_off k_t8 hO (nm1 nq_t7_t8.symm)
  replace off0 := off0.step hO (i1 fb_t7)
  replace sz := off0.size
  clear hO
  rw [upd_setd0, show p * 2 ^ (16 * 8) = p * 2 ^ 128 by rfl, setd_clr hp] at k_t7
  refine wpL_nil ?_
  go_upto_region 5 with fail
  refine wp_region_lit ?_
  refine wpL_val (v := .int .i64 64) (by rfl) (by first | rfl | (go_simp; done) | (go_simp; with_reducible rfl) | (go_simp; omega)) ?_
  (try simp only [Act.put, List.setIfInBounds_toArray, List.set_cons_zero, List.set_cons_succ])
  refine wpL_val (v := .int .i64 4) (by rfl) (by first | rfl | (go_simp; done) | (go_simp; with_reducible rfl) | (go_simp; omega)) ?_
  (try simp only [Act.put, List.setIfInBounds_toArray, List.set_cons_zero, List.set_cons_succ])
  refine wpL_val (v := .int .i64 12) (by rfl) (by first | rfl | (go_simp; done) | (go_simp; with_reducible rfl) | (go_simp; omega)) ?_
  (try simp only [Act.put, List.setIfInBounds_toArray, List.set_cons_zero, List.set_cons_succ])
  (refine wpL_val (v := ?_) (by rfl) ?_ ?_; rotate_left 1; (focus (go_simp; first | done | with_reducible rfl)))
  (try simp only [Act.put, List.setIfInBounds_toArray, List.set_cons_zero, List.set_cons_succ])
  refine wpL_val (v := .pointer (some ⟨p7_2, 0 + 12, none⟩)) (by rfl) (run_ixarr (m := 28) (by decide) (by decide) Tryd.underlying42 (by kernel_rfl) rfl rfl rfl) ?_
  (try simp only [Act.put, List.setIfInBounds_toArray, List.set_cons_zero, List.set_cons_succ])
  refine wpL_put1 (v := .int .i64 (p : Int)) ⟨rfl, rfl⟩ (by rfl) rfl rfl rfl k_t7 (by rw [arrK_size, Nat.zero_add]; decide) (by kernel_rfl) ?_
  (try simp only [Act.put, List.setIfInBounds_toArray, List.set_cons_zero, List.set_cons_succ])
  intro W6 hO h_
  rw [Nat.zero_add, arrK_set] at h_
  replace k_t7 : Blk W6 p7_2 (arrK .i64 28 (upd (l16 0) 12 (p : Int))) 42 := h_
  clear h_
  replace k_t6 := blk_off k_t6 hO (nm1 nq_t6_t7)
  replace k_t8 := blk_off k_t8 hO (nm1 nq_t7_t8.symm)
  replace off0 := off0.step hO (i1 fb_t7)
  replace sz := off0.size
  clear hO
  rw [upd_setd 0 12 p hp, setd_0] at k_t7
  refine wpL_nil ?_
  have k7 : Blk W6 p7_2 (arrK .i64 28 (l16 (p * 2 ^ 192))) 42 := k_t7
  replace k_t7 := k7
  clear k7
  obtain ⟨v, hv⟩ : ∃ v, v = (p * 2 ^ 192) := ⟨_, rfl⟩
  rw [← hv] at k_t7
  have hv448 : v < 2 ^ (16 * 28) := by rw [hv]; exact Nat.lt_of_lt_of_le (Nat.mul_lt_mul_of_pos_right hp (Nat.two_pow_pos _)) (le448 (by decide))
  have HV := Lib.hid hv
  clear hv
  go_wp2_with fail
  go_loopw [9] (fun si wr => ∃ (m : Nat), (m ≤ 70) ∧ (si = .int .i64 ((m : Int) - 1)) ∧ Off [] w wr ∧ Blk wr p6_1 (arrK .i64 28 (l16 0)) 42 ∧ Blk wr p7_2 (arrK .i64 28 (l16 v)) 42 ∧ Blk wr p8_3 (arrK .i64 28 (l16 (rtv v true (70 - m)))) 42)
    (fun si _ => (intOf si + 1).toNat)
  case atStart => exact ⟨70, Nat.le_refl _, rfl, off0, k_t6, k_t7, k_t8⟩
  case round =>
    obtain ⟨m, hm, rfl, off0, k_t6, k_t7, k_t8⟩ := hrel
    obtain ⟨W7, eW_⟩ := wname off0
    subst eW_
    have sz := off0.size
    by_cases hz0 : m = 0
    · have _f := hz0
      subst hz0
      go_upto_region 7 with fail
      refine wp_region_lit ?_
      (refine wpL_val (v := ?_) (by rfl) ?_ ?_; rotate_left 1; (focus (go_simp; first | done | with_reducible rfl)))
      (try simp only [Act.put, List.setIfInBounds_toArray, List.set_cons_zero, List.set_cons_succ])
      refine wpL_val (v := .bool false) (by rfl) (by first | rfl | (go_simp; done) | (go_simp; with_reducible rfl) | (go_simp; omega)) ?_
      (try simp only [Act.put, List.setIfInBounds_toArray, List.set_cons_zero, List.set_cons_succ])
      refine wpL_nil ?_
      go_upto_region 16 with fail
      refine wp_region_lit ?_
      refine wpL_load0 (by rfl) rfl rfl k_t8 (by kernel_rfl) (by rw [arrK_size]; kernel_rfl) ?_
      (try simp only [Act.put, List.setIfInBounds_toArray, List.set_cons_zero, List.set_cons_succ])
      refine wpL_putrow (cells := arrK .i64 28 (l16 (rtv v true 70))) (by rfl) rfl rfl rfl k_t6 (by rw [arrK_size]; kernel_rfl) (by first | rw [arrK_size, arrK_size] | rw [arrK_size] | kernel_rfl) (by exact arrK_one _ _ _) ?_
      (try simp only [Act.put, List.setIfInBounds_toArray, List.set_cons_zero, List.set_cons_succ])
      intro W8 hO h_
      replace k_t6 : Blk W8 p6_1 (arrK .i64 28 (l16 (rtv v true 70))) 42 := h_
      clear h_
      replace k_t7 := blk_off k_t7 hO (nm1 nq_t6_t7.symm)
      replace k_t8 := blk_off k_t8 hO (nm1 nq_t6_t8.symm)
      replace off0 := off0.step hO (i1 fb_t6)
      replace sz := off0.size
      clear hO
      refine wpL_nil ?_
      go_wp2
      rw [← HV.out]
      exact bodyPost_ret (res_row rfl rfl k_t6 (by kernel_rfl) (by rw [arrK_size]; kernel_rfl)) rfl ⟨rfl, off0.ext⟩
    · have _f := hz0
      obtain ⟨i, rfl⟩ : ∃ i, m = i + 1 := ⟨m - 1, by omega⟩
      have hi70 : i < 70 := by omega
      rw [show ((i + 1 : Nat) : Int) - 1 = (i : Int) by omega]
      obtain ⟨X, hX⟩ : ∃ X, X = rtv v true (70 - (i + 1)) := ⟨_, rfl⟩
      rw [← hX] at k_t8
      have hbm := bit_at (rtv_at hi70 hX)
      have HX := Lib.hid hX
      clear hX
      obtain ⟨Y, hY⟩ : ∃ Y, Y = X + 2 ^ i := ⟨_, rfl⟩
      rw [← hY] at hbm
      have HY := Lib.hid hY
      clear hY
      have hbm1 := hbm.1
      have HB := Lib.hid hbm.2
      clear hbm
      go_upto_region 7 with fail
      refine wp_region_lit ?_
      (refine wpL_val (v := ?_) (by rfl) ?_ ?_; rotate_left 1; (focus (go_simp; first | done | with_reducible rfl)))
      (try simp only [Act.put, List.setIfInBounds_toArray, List.set_cons_zero, List.set_cons_succ])
      refine wpL_val (v := .bool true) (by rfl) (by first | rfl | (go_simp; done) | (go_simp; with_reducible rfl) | (go_simp; omega)) ?_
      (try simp only [Act.put, List.setIfInBounds_toArray, List.set_cons_zero, List.set_cons_succ])
      refine wpL_nil ?_
      go_upto_region 9 with fail
      refine wp_region_lit ?_
      refine wpL_load0 (by rfl) rfl rfl k_t8 (by kernel_rfl) (by rw [arrK_size]; kernel_rfl) ?_
      (try simp only [Act.put, List.setIfInBounds_toArray, List.set_cons_zero, List.set_cons_succ])
      refine wpL_new (z := arrK .i64 28 (l16 0)) (t := 42) (by rfl) (by first | kernel_rfl | (go_simp; done) | (go_simp; rfl)) ?_
      (try simp only [Act.put, List.setIfInBounds_toArray, List.set_cons_zero, List.set_cons_succ])
      intro p10_8 W8 n_t10 hO h_
      have nq_t6_t10 : p6_1 ≠ p10_8 := Nat.ne_of_lt (Nat.lt_of_lt_of_le (blk_lt k_t6) n_t10)
      have nq_t7_t10 : p7_2 ≠ p10_8 := Nat.ne_of_lt (Nat.lt_of_lt_of_le (blk_lt k_t7) n_t10)
      have nq_t8_t10 : p8_3 ≠ p10_8 := Nat.ne_of_lt (Nat.lt_of_lt_of_le (blk_lt k_t8) n_t10)
      have fb_t10 : Fb p10_8 w.heap.size [] := fb_new (Nat.le_trans sz n_t10)
      replace k_t6 := blk_off k_t6 hO nm0
      replace k_t7 := blk_off k_t7 hO nm0
      replace k_t8 := blk_off k_t8 hO nm0
      replace off0 := off0.step hO i0
      replace sz := off0.size
      have k_t10 := h_
      clear hO h_ n_t10
      refine wpL_putrow (cells := arrK .i64 28 (l16 X)) (by rfl) rfl rfl rfl k_t10 (by rw [arrK_size]; kernel_rfl) (by first | rw [arrK_size, arrK_size] | rw [arrK_size] | kernel_rfl) (by exact arrK_one _ _ _) ?_
      (try simp only [Act.put, List.setIfInBounds_toArray, List.set_cons_zero, List.set_cons_succ])
      intro W9 hO h_
      replace k_t10 : Blk W9 p10_8 (arrK .i64 28 (l16 X)) 42 := h_
      clear h_
      replace k_t6 := blk_off k_t6 hO (nm1 nq_t6_t10)
      replace k_t7 := blk_off k_t7 hO (nm1 nq_t7_t10)
      replace k_t8 := blk_off k_t8 hO (nm1 nq_t8_t10)
      replace off0 := off0.step hO (i1 fb_t10)
      replace sz := off0.size
      clear hO
      refine wpL_nil ?_
      go_upto_region 10 with fail
      refine wp_region_xn 11 [] (by kernel_rfl) (fun x hx => by cases hx) (by kernel_rfl) ?_
      simp only [List.take_succ_cons, List.take_zero, List.take_nil]
      (try simp only [Act.put, List.setIfInBounds_toArray, List.set_cons_zero, List.set_cons_succ])
      (refine wpX_val (v := ?_) (by rfl) (fun W hW => ?_) ?_; rotate_left 1; (focus (go_simp; first | done | with_reducible rfl)); (try simp only [Act.put, List.setIfInBounds_toArray, List.set_cons_zero, List.set_cons_succ]))
      refine wpX_val (v := .int .i64 ((i / 16 : Nat) : Int)) (by rfl) (fun _ _ => by exact run_quoN (m := 16) (by decide) (by omega) rfl rfl rfl) ?_
      (try simp only [Act.put, List.setIfInBounds_toArray, List.set_cons_zero, List.set_cons_succ])
      (refine wpX_val (v := ?_) (by rfl) (fun W hW => ?_) ?_; rotate_left 1; (focus (go_simp; first | done | with_reducible rfl)); (try simp only [Act.put, List.setIfInBounds_toArray, List.set_cons_zero, List.set_cons_succ]))
      refine wpX_val (v := .int .i64 ((i / 16 : Nat) : Int)) (by rfl) (fun _ _ => by exact run_quoN (m := 16) (by decide) (by omega) rfl rfl rfl) ?_
      (try simp only [Act.put, List.setIfInBounds_toArray, List.set_cons_zero, List.set_cons_succ])
      refine wpX_val (v := .pointer (some ⟨p10_8, 0 + (i / 16), none⟩)) (by rfl) (fun _ _ => run_ixarr (m := 28) (by decide) (by omega) Tryd.underlying42 (by kernel_rfl) rfl rfl rfl) ?_
      (try simp only [Act.put, List.setIfInBounds_toArray, List.set_cons_zero, List.set_cons_succ])
      refine wpX_cell (v := .int .i64 ((l16 X) (i / 16))) (blk_rd k_t10) (by rw [Nat.zero_add]; exact arrK_get _ _ _ _ (by omega)) (by rfl) rfl rfl (by kernel_rfl) ?_
      (try simp only [Act.put, List.setIfInBounds_toArray, List.set_cons_zero, List.set_cons_succ])
      (refine wpX_val (v := ?_) (by rfl) (fun W hW => ?_) ?_; rotate_left 1; (focus (go_simp; first | done | with_reducible rfl)); (try simp only [Act.put, List.setIfInBounds_toArray, List.set_cons_zero, List.set_cons_succ]))
      refine wpX_val (v := .int .i64 ((i % 16 : Nat) : Int)) (by rfl) (fun _ _ => by exact run_remN (m := 16) (by decide) (by omega) rfl rfl rfl) ?_
      (try simp only [Act.put, List.setIfInBounds_toArray, List.set_cons_zero, List.set_cons_succ])
      refine wpX_val (v := .int .i64 ((2 ^ (i % 16) : Nat) : Int)) (by rfl) (fun _ _ => by exact run_shl1 (by omega) rfl rfl rfl) ?_
      (try simp only [Act.put, List.setIfInBounds_toArray, List.set_cons_zero, List.set_cons_succ])
      refine wpX_val (v := .int .i64 ((dgt X (i / 16) + 2 ^ (i % 16) : Nat) : Int)) (by rfl) (fun _ _ => by exact run_addE (p := dgt X (i / 16)) (q := 2 ^ (i % 16)) rfl (by omega) rfl rfl rfl) ?_
      (try simp only [Act.put, List.setIfInBounds_toArray, List.set_cons_zero, List.set_cons_succ])
      refine wpX_val (v := .pointer (some ⟨p10_8, 0 + (i / 16), none⟩)) (by rfl) (fun _ _ => run_ixarr (m := 28) (by decide) (by omega) Tryd.underlying42 (by kernel_rfl) rfl rfl rfl) ?_
      (try simp only [Act.put, List.setIfInBounds_toArray, List.set_cons_zero, List.set_cons_succ])
      refine wpX_nil ?_
      intro β W10 hE hN hD
      clear hN hD
      simp only [putAll, Act.put, List.setIfInBounds_toArray, List.set_cons_zero, List.set_cons_succ, List.drop_succ_cons, List.drop_zero, List.drop_nil, List.length_cons, List.length_nil, Nat.add_zero]
      have hO := off_ext hE
      replace k_t6 := blk_off k_t6 hO nm0
      replace k_t7 := blk_off k_t7 hO nm0
      replace k_t8 := blk_off k_t8 hO nm0
      replace k_t10 := blk_off k_t10 hO nm0
      replace off0 := off0.step hO i0
      replace sz := off0.size
      clear hO hE β
      refine wpL_put1 (v := .int .i64 ((dgt X (i / 16) + 2 ^ (i % 16) : Nat) : Int)) ⟨rfl, rfl⟩ (by rfl) rfl rfl rfl k_t10 (by rw [arrK_size, Nat.zero_add]; omega) (by kernel_rfl) ?_
      (try simp only [Act.put, List.setIfInBounds_toArray, List.set_cons_zero, List.set_cons_succ])
      intro W11 hO h_
      rw [Nat.zero_add, arrK_set] at h_
      replace k_t10 : Blk W11 p10_8 (arrK .i64 28 (upd (l16 X) (i / 16) ((dgt X (i / 16) + 2 ^ (i % 16) : Nat) : Int))) 42 := h_
      clear h_
      replace k_t6 := blk_off k_t6 hO (nm1 nq_t6_t10)
      replace k_t7 := blk_off k_t7 hO (nm1 nq_t7_t10)
      replace k_t8 := blk_off k_t8 hO (nm1 nq_t8_t10)
      replace off0 := off0.step hO (i1 fb_t10)
      replace sz := off0.size
      clear hO
      rw [upd_setd _ _ _ hbm1, HB.out] at k_t10
      refine wpL_nil ?_
      first | with_reducible refine NoPanic.normal (Q := Exit.then _ _) ?_ | with_reducible refine NoPanic.normal ?_
      go_upto_region 11 with fail
      refine wp_region_lit ?_
      refine wpL_load0 (by rfl) rfl rfl k_t10 (by kernel_rfl) (by rw [arrK_size]; kernel_rfl) ?_
      (try simp only [Act.put, List.setIfInBounds_toArray, List.set_cons_zero, List.set_cons_succ])
      refine wpL_load0 (by rfl) rfl rfl k_t10 (by kernel_rfl) (by rw [arrK_size]; kernel_rfl) ?_
      (try simp only [Act.put, List.setIfInBounds_toArray, List.set_cons_zero, List.set_cons_succ])
      refine wpL_ret (bTimes_c Y Y W11) (by rfl) rfl (by kernel_rfl) rfl ?_
      (try simp only [Act.put, List.setIfInBounds_toArray, List.set_cons_zero, List.set_cons_succ])
      intro W12 hO
      replace k_t6 := blk_off k_t6 hO nm0
      replace k_t7 := blk_off k_t7 hO nm0
      replace k_t8 := blk_off k_t8 hO nm0
      replace k_t10 := blk_off k_t10 hO nm0
      replace off0 := off0.step hO i0
      replace sz := off0.size
      clear hO
      refine wpL_new (z := arrK .i64 28 (l16 0)) (t := 42) (by rfl) (by first | kernel_rfl | (go_simp; done) | (go_simp; rfl)) ?_
      (try simp only [Act.put, List.setIfInBounds_toArray, List.set_cons_zero, List.set_cons_succ])
      intro p11_13 W13 n_t11 hO h_
      have nq_t6_t11 : p6_1 ≠ p11_13 := Nat.ne_of_lt (Nat.lt_of_lt_of_le (blk_lt k_t6) n_t11)
      have nq_t7_t11 : p7_2 ≠ p11_13 := Nat.ne_of_lt (Nat.lt_of_lt_of_le (blk_lt k_t7) n_t11)
      have nq_t8_t11 : p8_3 ≠ p11_13 := Nat.ne_of_lt (Nat.lt_of_lt_of_le (blk_lt k_t8) n_t11)
      have nq_t10_t11 : p10_8 ≠ p11_13 := Nat.ne_of_lt (Nat.lt_of_lt_of_le (blk_lt k_t10) n_t11)
      have fb_t11 : Fb p11_13 w.heap.size [] := fb_new (Nat.le_trans sz n_t11)
      replace k_t6 := blk_off k_t6 hO nm0
      replace k_t7 := blk_off k_t7 hO nm0
      replace k_t8 := blk_off k_t8 hO nm0
      replace k_t10 := blk_off k_t10 hO nm0
      replace off0 := off0.step hO i0
      replace sz := off0.size
      have k_t11 := h_
      clear hO h_ n_t11
      refine wpL_putrow (cells := arrK .i64 28 (l16 (Y * Y % q28))) (by rfl) rfl rfl rfl k_t11 (by rw [arrK_size]; kernel_rfl) (by first | rw [arrK_size, arrK_size] | rw [arrK_size] | kernel_rfl) (by exact arrK_one _ _ _) ?_
      (try simp only [Act.put, List.setIfInBounds_toArray, List.set_cons_zero, List.set_cons_succ])
      intro W14 hO h_
      replace k_t11 : Blk W14 p11_13 (arrK .i64 28 (l16 (Y * Y % q28))) 42 := h_
      clear h_
      replace k_t6 := blk_off k_t6 hO (nm1 nq_t6_t11)
      replace k_t7 := blk_off k_t7 hO (nm1 nq_t7_t11)
      replace k_t8 := blk_off k_t8 hO (nm1 nq_t8_t11)
      replace k_t10 := blk_off k_t10 hO (nm1 nq_t10_t11)
      replace off0 := off0.step hO (i1 fb_t11)
      replace sz := off0.size
      clear hO
      refine wpL_nil ?_
      go_upto_region 13 with fail
      refine wp_region_lit ?_
      refine wpL_load0 (by rfl) rfl rfl k_t11 (by kernel_rfl) (by rw [arrK_size]; kernel_rfl) ?_
      (try simp only [Act.put, List.setIfInBounds_toArray, List.set_cons_zero, List.set_cons_succ])
      refine wpL_load0 (by rfl) rfl rfl k_t10 (by kernel_rfl) (by rw [arrK_size]; kernel_rfl) ?_
      (try simp only [Act.put, List.setIfInBounds_toArray, List.set_cons_zero, List.set_cons_succ])
      refine wpL_ret (bTimes_c (Y * Y % q28) Y W14) (by rfl) rfl (by kernel_rfl) rfl ?_
      (try simp only [Act.put, List.setIfInBounds_toArray, List.set_cons_zero, List.set_cons_succ])
      intro W15 hO
      replace k_t6 := blk_off k_t6 hO nm0
      replace k_t7 := blk_off k_t7 hO nm0
      replace k_t8 := blk_off k_t8 hO nm0
      replace k_t10 := blk_off k_t10 hO nm0
      replace k_t11 := blk_off k_t11 hO nm0
      replace off0 := off0.step hO i0
      replace sz := off0.size
      clear hO
      refine wpL_putrow (cells := arrK .i64 28 (l16 (Y * Y % q28 * Y % q28))) (by rfl) rfl rfl rfl k_t11 (by rw [arrK_size]; kernel_rfl) (by first | rw [arrK_size, arrK_size] | rw [arrK_size] | kernel_rfl) (by exact arrK_one _ _ _) ?_
      (try simp only [Act.put, List.setIfInBounds_toArray, List.set_cons_zero, List.set_cons_succ])
      intro W16 hO h_
      replace k_t11 : Blk W16 p11_13 (arrK .i64 28 (l16 (Y * Y % q28 * Y % q28))) 42 := h_
      clear h_
      replace k_t6 := blk_off k_t6 hO (nm1 nq_t6_t11)
      replace k_t7 := blk_off k_t7 hO (nm1 nq_t7_t11)
      replace k_t8 := blk_off k_t8 hO (nm1 nq_t8_t11)
      replace k_t10 := blk_off k_t10 hO (nm1 nq_t10_t11)
      replace off0 := off0.step hO (i1 fb_t11)
      replace sz := off0.size
      clear hO
      refine wpL_nil ?_
      by_cases hz : v < Y * Y % q28 * Y % q28
      · have _f := hz
        have H_hz := Lib.hid hz
        clear _f hz
        go_upto_region 14 with fail
        refine wp_region_lit ?_
        refine wpL_load0 (by rfl) rfl rfl k_t7 (by kernel_rfl) (by rw [arrK_size]; kernel_rfl) ?_
        (try simp only [Act.put, List.setIfInBounds_toArray, List.set_cons_zero, List.set_cons_succ])
        refine wpL_load0 (by rfl) rfl rfl k_t11 (by kernel_rfl) (by rw [arrK_size]; kernel_rfl) ?_
        (try simp only [Act.put, List.setIfInBounds_toArray, List.set_cons_zero, List.set_cons_succ])
        have c_l := bLess_c (v) (Y * Y % q28 * Y % q28) hv448 (lt448 _)
        rw [decide_eq_true H_hz.out] at c_l
        refine wpL_ret (c_l W16) (by rfl) rfl (by kernel_rfl) rfl ?_
        (try simp only [Act.put, List.setIfInBounds_toArray, List.set_cons_zero, List.set_cons_succ])
        intro W17 hO
        replace k_t6 := blk_off k_t6 hO nm0
        replace k_t7 := blk_off k_t7 hO nm0
        replace k_t8 := blk_off k_t8 hO nm0
        replace k_t10 := blk_off k_t10 hO nm0
        replace k_t11 := blk_off k_t11 hO nm0
        replace off0 := off0.step hO i0
        replace sz := off0.size
        clear hO
        refine wpL_val (v := .bool false) (by rfl) (by first | rfl | (go_simp; done) | (go_simp; with_reducible rfl) | (go_simp; omega)) ?_
        (try simp only [Act.put, List.setIfInBounds_toArray, List.set_cons_zero, List.set_cons_succ])
        refine wpL_nil ?_
        go_wp2
        go_roundw
        case rel => exact ⟨i, by omega, by go_num, off0, k_t6, k_t7, (by rw [rtA_1 hi70 HX.out HY.out H_hz.out]; exact k_t8)⟩
        case measure => first | (simp [intOf]; done) | (simp [intOf]; omega)
      · have _f := hz
        have H_hz := Lib.hid hz
        clear _f hz
        go_upto_region 14 with fail
        refine wp_region_lit ?_
        refine wpL_load0 (by rfl) rfl rfl k_t7 (by kernel_rfl) (by rw [arrK_size]; kernel_rfl) ?_
        (try simp only [Act.put, List.setIfInBounds_toArray, List.set_cons_zero, List.set_cons_succ])
        refine wpL_load0 (by rfl) rfl rfl k_t11 (by kernel_rfl) (by rw [arrK_size]; kernel_rfl) ?_
        (try simp only [Act.put, List.setIfInBounds_toArray, List.set_cons_zero, List.set_cons_succ])
        have c_l := bLess_c (v) (Y * Y % q28 * Y % q28) hv448 (lt448 _)
        rw [decide_eq_false H_hz.out] at c_l
        refine wpL_ret (c_l W16) (by rfl) rfl (by kernel_rfl) rfl ?_
        (try simp only [Act.put, List.setIfInBounds_toArray, List.set_cons_zero, List.set_cons_succ])
        intro W17 hO
        replace k_t6 := blk_off k_t6 hO nm0
        replace k_t7 := blk_off k_t7 hO nm0
        replace k_t8 := blk_off k_t8 hO nm0
        replace k_t10 := blk_off k_t10 hO nm0
        replace k_t11 := blk_off k_t11 hO nm0
        replace off0 := off0.step hO i0
        replace sz := off0.size
        clear hO
        refine wpL_val (v := .bool true) (by rfl) (by first | rfl | (go_simp; done) | (go_simp; with_reducible rfl) | (go_simp; omega)) ?_
        (try simp only [Act.put, List.setIfInBounds_toArray, List.set_cons_zero, List.set_cons_succ])
        refine wpL_nil ?_
        go_upto_region 15 with fail
        refine wp_region_lit ?_
        refine wpL_load0 (by rfl) rfl rfl k_t10 (by kernel_rfl) (by rw [arrK_size]; kernel_rfl) ?_
        (try simp only [Act.put, List.setIfInBounds_toArray, List.set_cons_zero, List.set_cons_succ])
        refine wpL_putrow (cells := arrK .i64 28 (l16 Y)) (by rfl) rfl rfl rfl k_t8 (by rw [arrK_size]; kernel_rfl) (by first | rw [arrK_size, arrK_size] | rw [arrK_size] | kernel_rfl) (by exact arrK_one _ _ _) ?_
        (try simp only [Act.put, List.setIfInBounds_toArray, List.set_cons_zero, List.set_cons_succ])
        intro W18 hO h_
        replace k_t8 : Blk W18 p8_3 (arrK .i64 28 (l16 Y)) 42 := h_
        clear h_
        replace k_t6 := blk_off k_t6 hO (nm1 nq_t6_t8)
        replace k_t7 := blk_off k_t7 hO (nm1 nq_t7_t8)
        replace k_t10 := blk_off k_t10 hO (nm1 nq_t8_t10.symm)
        replace k_t11 := blk_off k_t11 hO (nm1 nq_t8_t11.symm)
        replace off0 := off0.step hO (i1 fb_t8)
        replace sz := off0.size
        clear hO
        refine wpL_nil ?_
        go_wp2
        go_roundw
        case rel => exact ⟨i, by omega, by go_num, off0, k_t6, k_t7, (by rw [rtB_1 hi70 HX.out HY.out H_hz.out]; exact k_t8)⟩
        case measure => first | (simp [intOf]; done) | (simp [intOf]; omega)
set_option maxRecDepth 100000 in
set_option maxHeartbeats 1500000 in
theorem bRoot_0 (p : Nat) (hp : p < 65536) (w : World) :
    Calls Tryd.prog 16 #[.int .i64 (p : Int), .bool false, .int .i64 64] w fun e w' => Ret (.agg (arrK .i64 28 (l16 (rtv (p * 2 ^ 128) false 70)))) w w' e := by
  have off0 : Off [] w w := Off.refl _ _
  have sz := off0.size
  go_enter Tryd.func16, Tryd.ntmps16
  go_upto_region 0 with fail
  refine wp_region_lit ?_
  refine wpL_new (z := arrK .i64 28 (l16 0)) (t := 42) (by rfl) (by first | kernel_rfl | (go_simp; done) | (go_simp; rfl)) ?_
  (try simp only [Act.put, List.setIfInBounds_toArray, List.set_cons_zero, List.set_cons_succ])
  intro p6_1 W1 n_t6 hO h_
  have fb_t6 : Fb p6_1 w.heap.size [] := fb_new (Nat.le_trans sz n_t6)
  replace off0 := off0.step hO i0
  replace sz := off0.size
  have k_t6 := h_
  clear hO h_ n_t6
  refine wpL_nil ?_
  go_upto_region 1 with fail
  refine wp_region_lit ?_
  refine wpL_new (z := arrK .i64 28 (l16 0)) (t := 42) (by rfl) (by first | kernel_rfl | (go_simp; done) | (go_simp; rfl)) ?_
  (try simp only [Act.put, List.setIfInBounds_toArray, List.set_cons_zero, List.set_cons_succ])
  intro p7_2 W2 n_t7 hO h_
  have nq_t6_t7 : p6_1 ≠ p7_2 := Nat.ne_of_lt (Nat.lt_of_lt_of_le (blk_lt k_t6) n_t7)
  have fb_t7 : Fb p7_2 w.heap.size [] := fb_new (Nat.le_trans sz n_t7)
  replace k_t6 := blk_off k_t6 hO nm0
  replace off0 := off0.step hO i0
  replace sz := off0.size
  have k_t7 := h_
  clear hO h_ n_t7
  refine wpL_new (z := arrK .i64 28 (l16 0)) (t := 42) (by rfl) (by first | kernel_rfl | (go_simp; done) | (go_simp; rfl)) ?_
  (try simp only [Act.put, List.setIfInBounds_toArray, List.set_cons_zero, List.set_cons_succ])
  intro p8_3 W3 n_t8 hO h_
  have nq_t6_t8 : p6_1 ≠ p8_3 := Nat.ne_of_lt (Nat.lt_of_lt_of_le (blk_lt k_t6) n_t8)
  have nq_t7_t8 : p7_2 ≠ p8_3 := Nat.ne_of_lt (Nat.lt_of_lt_of_le (blk_lt k_t7) n_t8)
  have fb_t8 : Fb p8_3 w.heap.size [] := fb_new (Nat.le_trans sz n_t8)
  replace k_t6 := blk_off k_t6 hO nm0
  replace k_t7 := blk_off k_t7 hO nm0
  replace off0 := off0.step hO i0
  replace sz := off0.size
  have k_t8 := h_
  clear hO h_ n_t8
  refine wpL_nil ?_
  go_upto_region 2 with fail
  refine wp_region_lit ?_
  refine wpL_val (v := .int .i64 64) (by rfl) (by first | rfl | (go_simp; done) | (go_simp; with_reducible rfl) | (go_simp; omega)) ?_
  (try simp only [Act.put, List.setIfInBounds_toArray, List.set_cons_zero, List.set_cons_succ])
  refine wpL_val (v := .int .i64 4) (by rfl) (by first | rfl | (go_simp; done) | (go_simp; with_reducible rfl) | (go_simp; omega)) ?_
  (try simp only [Act.put, List.setIfInBounds_toArray, List.set_cons_zero, List.set_cons_succ])
  refine wpL_val (v := .int .i64 8) (by rfl) (by first | rfl | (go_simp; done) | (go_simp; with_reducible rfl) | (go_simp; omega)) ?_
  (try simp only [Act.put, List.setIfInBounds_toArray, List.set_cons_zero, List.set_cons_succ])
  (refine wpL_val (v := ?_) (by rfl) ?_ ?_; rotate_left 1; (focus (go_simp; first | done | with_reducible rfl)))
  (try simp only [Act.put, List.setIfInBounds_toArray, List.set_cons_zero, List.set_cons_succ])
  refine wpL_val (v := .pointer (some ⟨p7_2, 0 + 8, none⟩)) (by rfl) (run_ixarr (m := 28) (by decide) (by decide) Tryd.underlying42 (by kernel_rfl) rfl rfl rfl) ?_
  (try simp only [Act.put, List.setIfInBounds_toArray, List.set_cons_zero, List.set_cons_succ])
  refine wpL_put1 (v := .int .i64 (p : Int)) ⟨rfl, rfl⟩ (by rfl) rfl rfl rfl k_t7 (by rw [arrK_size, Nat.zero_add]; decide) (by kernel_rfl) ?_
  (try simp only [Act.put, List.setIfInBounds_toArray, List.set_cons_zero, List.set_cons_succ])
  intro W4 hO h_
  rw [Nat.zero_add, arrK_set] at h_
  replace k_t7 : Blk W4 p7_2 (arrK .i64 28 (upd (l16 0) 8 (p : Int))) 42 := h_
  clear h_
  replace k_t6 := blk_off k_t6 hO (nm1 nq_t6_t7)
  replace k_t8 := blk_off k_t8 hO (nm1 nq_t7_t8.symm)
  replace off0 := off0.step hO (i1 fb_t7)
  replace sz := off0.size
  clear hO
  rw [upd_setd 0 8 p hp, setd_0] at k_t7
  refine wpL_nil ?_
  have k7 : Blk W4 p7_2 (arrK .i64 28 (l16 (p * 2 ^ 128))) 42 := k_t7
  replace k_t7 := k7
  clear k7
  obtain ⟨v, hv⟩ : ∃ v, v = (p * 2 ^ 128) := ⟨_, rfl⟩
  rw [← hv] at k_t7
  have hv448 : v < 2 ^ (16 * 28) := by rw [hv]; exact Nat.lt_of_lt_of_le (Nat.mul_lt_mul_of_pos_right hp (Nat.two_pow_pos _)) (le448 (by decide))
  have HV := Lib.hid hv
  clear hv
  go_wp2_with fail
  go_loopw [9] (fun si wr => ∃ (m : Nat), (m ≤ 70) ∧ (si = .int .i64 ((m : Int) - 1)) ∧ Off [] w wr ∧ Blk wr p6_1 (arrK .i64 28 (l16 0)) 42 ∧ Blk wr p7_2 (arrK .i64 28 (l16 v)) 42 ∧ Blk wr p8_3 (arrK .i64 28 (l16 (rtv v false (70 - m)))) 42)
    (fun si _ => (intOf si + 1).toNat)
  case atStart => exact ⟨70, Nat.le_refl _, rfl, off0, k_t6, k_t7, k_t8⟩
  case round =>
    obtain ⟨m, hm, rfl, off0, k_t6, k_t7, k_t8⟩ := hrel
    obtain ⟨W5, eW_⟩ := wname off0
    subst eW_
    have sz := off0.size
    by_cases hz0 : m = 0
    · have _f := hz0
      subst hz0
      go_upto_region 7 with fail
      refine wp_region_lit ?_
      (refine wpL_val (v := ?_) (by rfl) ?_ ?_; rotate_left 1; (focus (go_simp; first | done | with_reducible rfl)))
      (try simp only [Act.put, List.setIfInBounds_toArray, List.set_cons_zero, List.set_cons_succ])
      refine wpL_val (v := .bool false) (by rfl) (by first | rfl | (go_simp; done) | (go_simp; with_reducible rfl) | (go_simp; omega)) ?_
      (try simp only [Act.put, List.setIfInBounds_toArray, List.set_cons_zero, List.set_cons_succ])
      refine wpL_nil ?_
      go_upto_region 16 with fail
      refine wp_region_lit ?_
      refine wpL_load0 (by rfl) rfl rfl k_t8 (by kernel_rfl) (by rw [arrK_size]; kernel_rfl) ?_
      (try simp only [Act.put, List.setIfInBounds_toArray, List.set_cons_zero, List.set_cons_succ])
      refine wpL_putrow (cells := arrK .i64 28 (l16 (rtv v false 70))) (by rfl) rfl rfl rfl k_t6 (by rw [arrK_size]; kernel_rfl) (by first | rw [arrK_size, arrK_size] | rw [arrK_size] | kernel_rfl) (by exact arrK_one _ _ _) ?_
      (try simp only [Act.put, List.setIfInBounds_toArray, List.set_cons_zero, List.set_cons_succ])
      intro W6 hO h_
      replace k_t6 : Blk W6 p6_1 (arrK .i64 28 (l16 (rtv v false 70))) 42 := h_
      clear h_
      replace k_t7 := blk_off k_t7 hO (nm1 nq_t6_t7.symm)
      replace k_t8 := blk_off k_t8 hO (nm1 nq_t6_t8.symm)
      replace off0 := off0.step hO (i1 fb_t6)
      replace sz := off0.size
      clear hO
      refine wpL_nil ?_
      go_wp2
      rw [← HV.out]
      exact bodyPost_ret (res_row rfl rfl k_t6 (by kernel_rfl) (by rw [arrK_size]; kernel_rfl)) rfl ⟨rfl, off0.ext⟩
    · have _f := hz0
      obtain ⟨i, rfl⟩ : ∃ i, m = i + 1 := ⟨m - 1, by omega⟩
      have hi70 : i < 70 := by omega
      rw [show ((i + 1 : Nat) : Int) - 1 = (i : Int) by omega]
      obtain ⟨X, hX⟩ : ∃ X, X = rtv v false (70 - (i + 1)) := ⟨_, rfl⟩
      rw [← hX] at k_t8
      have hbm := bit_at (rtv_at hi70 hX)
      have HX := Lib.hid hX
      clear hX
      obtain ⟨Y, hY⟩ : ∃ Y, Y = X + 2 ^ i := ⟨_, rfl⟩
      rw [← hY] at hbm
      have HY := Lib.hid hY
      clear hY
      have hbm1 := hbm.1
      have HB := Lib.hid hbm.2
      clear hbm
      go_upto_region 7 with fail
      refine wp_region_lit ?_
      (refine wpL_val (v := ?_) (by rfl) ?_ ?_; rotate_left 1; (focus (go_simp; first | done | with_reducible rfl)))
      (try simp only [Act.put, List.setIfInBounds_toArray, List.set_cons_zero, List.set_cons_succ])
      refine wpL_val (v := .bool true) (by rfl) (by first | rfl | (go_simp; done) | (go_simp; with_reducible rfl) | (go_simp; omega)) ?_
      (try simp only [Act.put, List.setIfInBounds_toArray, List.set_cons_zero, List.set_cons_succ])
      refine wpL_nil ?_
      go_upto_region 9 with fail
      refine wp_region_lit ?_
      refine wpL_load0 (by rfl) rfl rfl k_t8 (by kernel_rfl) (by rw [arrK_size]; kernel_rfl) ?_
      (try simp only [Act.put, List.setIfInBounds_toArray, List.set_cons_zero, List.set_cons_succ])
      refine wpL_new (z := arrK .i64 28 (l16 0)) (t := 42) (by rfl) (by first | kernel_rfl | (go_simp; done) | (go_simp; rfl)) ?_
      (try simp only [Act.put, List.setIfInBounds_toArray, List.set_cons_zero, List.set_cons_succ])
      intro p10_6 W6 n_t10 hO h_
      have nq_t6_t10 : p6_1 ≠ p10_6 := Nat.ne_of_lt (Nat.lt_of_lt_of_le (blk_lt k_t6) n_t10)
      have nq_t7_t10 : p7_2 ≠ p10_6 := Nat.ne_of_lt (Nat.lt_of_lt_of_le (blk_lt k_t7) n_t10)
      have nq_t8_t10 : p8_3 ≠ p10_6 := Nat.ne_of_lt (Nat.lt_of_lt_of_le (blk_lt k_t8) n_t10)
      have fb_t10 : Fb p10_6 w.heap.size [] := fb_new (Nat.le_trans sz n_t10)
      replace k_t6 := blk_off k_t6 hO nm0
      replace k_t7 := blk_off k_t7 hO nm0
      replace k_t8 := blk_off k_t8 hO nm0
      replace off0 := off0.step hO i0
      replace sz := off0.size
      have k_t10 := h_
      clear hO h_ n_t10
      refine wpL_putrow (cells := arrK .i64 28 (l16 X)) (by rfl) rfl rfl rfl k_t10 (by rw [arrK_size]; kernel_rfl) (by first | rw [arrK_size, arrK_size] | rw [arrK_size] | kernel_rfl) (by exact arrK_one _ _ _) ?_
      (try simp only [Act.put, List.setIfInBounds_toArray, List.set_cons_zero, List.set_cons_succ])
      intro W7 hO h_
      replace k_t10 : Blk W7 p10_6 (arrK .i64 28 (l16 X)) 42 := h_
      clear h_
      replace k_t6 := blk_off k_t6 hO (nm1 nq_t6_t10)
      replace k_t7 := blk_off k_t7 hO (nm1 nq_t7_t10)
      replace k_t8 := blk_off k_t8 hO (nm1 nq_t8_t10)
      replace off0 := off0.step hO (i1 fb_t10)
      replace sz := off0.size
      clear hO
      refine wpL_nil ?_
      go_upto_region 10 with fail
      refine wp_region_xn 11 [] (by kernel_rfl) (fun x hx => by cases hx) (by kernel_rfl) ?_
      simp only [List.take_succ_cons, List.take_zero, List.take_nil]
      (try simp only [Act.put, List.setIfInBounds_toArray, List.set_cons_zero, List.set_cons_succ])
      (refine wpX_val (v := ?_) (by rfl) (fun W hW => ?_) ?_; rotate_left 1; (focus (go_simp; first | done | with_reducible rfl)); (try simp only [Act.put, List.setIfInBounds_toArray, List.set_cons_zero, List.set_cons_succ]))
      refine wpX_val (v := .int .i64 ((i / 16 : Nat) : Int)) (by rfl) (fun _ _ => by exact run_quoN (m := 16) (by decide) (by omega) rfl rfl rfl) ?_
      (try simp only [Act.put, List.setIfInBounds_toArray, List.set_cons_zero, List.set_cons_succ])
      (refine wpX_val (v := ?_) (by rfl) (fun W hW => ?_) ?_; rotate_left 1; (focus (go_simp; first | done | with_reducible rfl)); (try simp only [Act.put, List.setIfInBounds_toArray, List.set_cons_zero, List.set_cons_succ]))
      refine wpX_val (v := .int .i64 ((i / 16 : Nat) : Int)) (by rfl) (fun _ _ => by exact run_quoN (m := 16) (by decide) (by omega) rfl rfl rfl) ?_
      (try simp only [Act.put, List.setIfInBounds_toArray, List.set_cons_zero, List.set_cons_succ])
      refine wpX_val (v := .pointer (some ⟨p10_6, 0 + (i / 16), none⟩)) (by rfl) (fun _ _ => run_ixarr (m := 28) (by decide) (by omega) Tryd.underlying42 (by kernel_rfl) rfl rfl rfl) ?_
      (try simp only [Act.put, List.setIfInBounds_toArray, List.set_cons_zero, List.set_cons_succ])
      refine wpX_cell (v := .int .i64 ((l16 X) (i / 16))) (blk_rd k_t10) (by rw [Nat.zero_add]; exact arrK_get _ _ _ _ (by omega)) (by rfl) rfl rfl (by kernel_rfl) ?_
      (try simp only [Act.put, List.setIfInBounds_toArray, List.set_cons_zero, List.set_cons_succ])
      (refine wpX_val (v := ?_) (by rfl) (fun W hW => ?_) ?_; rotate_left 1; (focus (go_simp; first | done | with_reducible rfl)); (try simp only [Act.put, List.setIfInBounds_toArray, List.set_cons_zero, List.set_cons_succ]))
      refine wpX_val (v := .int .i64 ((i % 16 : Nat) : Int)) (by rfl) (fun _ _ => by exact run_remN (m := 16) (by decide) (by omega) rfl rfl rfl) ?_
      (try simp only [Act.put, List.setIfInBounds_toArray, List.set_cons_zero, List.set_cons_succ])
      refine wpX_val (v := .int .i64 ((2 ^ (i % 16) : Nat) : Int)) (by rfl) (fun _ _ => by exact run_shl1 (by omega) rfl rfl rfl) ?_
      (try simp only [Act.put, List.setIfInBounds_toArray, List.set_cons_zero, List.set_cons_succ])
      refine wpX_val (v := .int .i64 ((dgt X (i / 16) + 2 ^ (i % 16) : Nat) : Int)) (by rfl) (fun _ _ => by exact run_addE (p := dgt X (i / 16)) (q := 2 ^ (i % 16)) rfl (by omega) rfl rfl rfl) ?_
      (try simp only [Act.put, List.setIfInBounds_toArray, List.set_cons_zero, List.set_cons_succ])
      refine wpX_val (v := .pointer (some ⟨p10_6, 0 + (i / 16), none⟩)) (by rfl) (fun _ _ => run_ixarr (m := 28) (by decide) (by omega) Tryd.underlying42 (by kernel_rfl) rfl rfl rfl) ?_
      (try simp only [Act.put, List.setIfInBounds_toArray, List.set_cons_zero, List.set_cons_succ])
      refine wpX_nil ?_
      intro β W8 hE hN hD
      clear hN hD
      simp only [putAll, Act.put, List.setIfInBounds_toArray, List.set_cons_zero, List.set_cons_succ, List.drop_succ_cons, List.drop_zero, List.drop_nil, List.length_cons, List.length_nil, Nat.add_zero]
      have hO := off_ext hE
      replace k_t6 := blk_off k_t6 hO nm0
      replace k_t7 := blk_off k_t7 hO nm0
      replace k_t8 := blk_off k_t8 hO nm0
      replace k_t10 := blk_off k_t10 hO nm0
      replace off0 := off0.step hO i0
      replace sz := off0.size
      clear hO hE β
      refine wpL_put1 (v := .int .i64 ((dgt X (i / 16) + 2 ^ (i % 16) : Nat) : Int)) ⟨rfl, rfl⟩ (by rfl) rfl rfl rfl k_t10 (by rw [arrK_size, Nat.zero_add]; omega) (by kernel_rfl) ?_
      (try simp only [Act.put, List.setIfInBounds_toArray, List.set_cons_zero, List.set_cons_succ])
      intro W9 hO h_
      rw [Nat.zero_add, arrK_set] at h_
      replace k_t10 : Blk W9 p10_6 (arrK .i64 28 (upd (l16 X) (i / 16) ((dgt X (i / 16) + 2 ^ (i % 16) : Nat) : Int))) 42 := h_
      clear h_
      replace k_t6 := blk_off k_t6 hO (nm1 nq_t6_t10)
      replace k_t7 := blk_off k_t7 hO (nm1 nq_t7_t10)
      replace k_t8 := blk_off k_t8 hO (nm1 nq_t8_t10)
      replace off0 := off0.step hO (i1 fb_t10)
      replace sz := off0.size
      clear hO
      rw [upd_setd _ _ _ hbm1, HB.out] at k_t10
      refine wpL_nil ?_
      first | with_reducible refine NoPanic.normal (Q := Exit.then _ _) ?_ | with_reducible refine NoPanic.normal ?_
      go_upto_region 11 with fail
      refine wp_region_lit ?_
      refine wpL_load0 (by rfl) rfl rfl k_t10 (by kernel_rfl) (by rw [arrK_size]; kernel_rfl) ?_
      (try simp only [Act.put, List.setIfInBounds_toArray, List.set_cons_zero, List.set_cons_succ])
      refine wpL_load0 (by rfl) rfl rfl k_t10 (by kernel_rfl) (by rw [arrK_size]; kernel_rfl) ?_
      (try simp only [Act.put, List.setIfInBounds_toArray, List.set_cons_zero, List.set_cons_succ])
      refine wpL_ret (bTimes_c Y Y W9) (by rfl) rfl (by kernel_rfl) rfl ?_
      (try simp only [Act.put, List.setIfInBounds_toArray, List.set_cons_zero, List.set_cons_succ])
      intro W10 hO
      replace k_t6 := blk_off k_t6 hO nm0
      replace k_t7 := blk_off k_t7 hO nm0
      replace k_t8 := blk_off k_t8 hO nm0
      replace k_t10 := blk_off k_t10 hO nm0
      replace off0 := off0.step hO i0
      replace sz := off0.size
      clear hO
      refine wpL_new (z := arrK .i64 28 (l16 0)) (t := 42) (by rfl) (by first | kernel_rfl | (go_simp; done) | (go_simp; rfl)) ?_
      (try simp only [Act.put, List.setIfInBounds_toArray, List.set_cons_zero, List.set_cons_succ])
      intro p11_11 W11 n_t11 hO h_
      have nq_t6_t11 : p6_1 ≠ p11_11 := Nat.ne_of_lt (Nat.lt_of_lt_of_le (blk_lt k_t6) n_t11)
      have nq_t7_t11 : p7_2 ≠ p11_11 := Nat.ne_of_lt (Nat.lt_of_lt_of_le (blk_lt k_t7) n_t11)
      have nq_t8_t11 : p8_3 ≠ p11_11 := Nat.ne_of_lt (Nat.lt_of_lt_of_le (blk_lt k_t8) n_t11)
      have nq_t10_t11 : p10_6 ≠ p11_11 := Nat.ne_of_lt (Nat.lt_of_lt_of_le (blk_lt k_t10) n_t11)
      have fb_t11 : Fb p11_11 w.heap.size [] := fb_new (Nat.le_trans sz n_t11)
      replace k_t6 := blk_off k_t6 hO nm0
      replace k_t7 := blk_off k_t7 hO nm0
      replace k_t8 := blk_off k_t8 hO nm0
      replace k_t10 := blk_off k_t10 hO nm0
      replace off0 := off0.step hO i0
      replace sz := off0.size
      have k_t11 := h_
      clear hO h_ n_t11
      refine wpL_putrow (cells := arrK .i64 28 (l16 (Y * Y % q28))) (by rfl) rfl rfl rfl k_t11 (by rw [arrK_size]; kernel_rfl) (by first | rw [arrK_size, arrK_size] | rw [arrK_size] | kernel_rfl) (by exact arrK_one _ _ _) ?_
      (try simp only [Act.put, List.setIfInBounds_toArray, List.set_cons_zero, List.set_cons_succ])
      intro W12 hO h_
      replace k_t11 : Blk W12 p11_11 (arrK .i64 28 (l16 (Y * Y % q28))) 42 := h_
      clear h_
      replace k_t6 := blk_off k_t6 hO (nm1 nq_t6_t11)
      replace k_t7 := blk_off k_t7 hO (nm1 nq_t7_t11)
      replace k_t8 := blk_off k_t8 hO (nm1 nq_t8_t11)
      replace k_t10 := blk_off k_t10 hO (nm1 nq_t10_t11)
      replace off0 := off0.step hO (i1 fb_t11)
      replace sz := off0.size
      clear hO
      refine wpL_nil ?_
      by_cases hz : v < Y * Y % q28
      · have _f := hz
        have H_hz := Lib.hid hz
        clear _f hz
        go_upto_region 14 with fail
        refine wp_region_lit ?_
        refine wpL_load0 (by rfl) rfl rfl k_t7 (by kernel_rfl) (by rw [arrK_size]; kernel_rfl) ?_
        (try simp only [Act.put, List.setIfInBounds_toArray, List.set_cons_zero, List.set_cons_succ])
        refine wpL_load0 (by rfl) rfl rfl k_t11 (by kernel_rfl) (by rw [arrK_size]; kernel_rfl) ?_
        (try simp only [Act.put, List.setIfInBounds_toArray, List.set_cons_zero, List.set_cons_succ])
        have c_l := bLess_c (v) (Y * Y % q28) hv448 (lt448 _)
        rw [decide_eq_true H_hz.out] at c_l
        refine wpL_ret (c_l W12) (by rfl) rfl (by kernel_rfl) rfl ?_
        (try simp only [Act.put, List.setIfInBounds_toArray, List.set_cons_zero, List.set_cons_succ])
        intro W13 hO
        replace k_t6 := blk_off k_t6 hO nm0
        replace k_t7 := blk_off k_t7 hO nm0
        replace k_t8 := blk_off k_t8 hO nm0
        replace k_t10 := blk_off k_t10 hO nm0
        replace k_t11 := blk_off k_t11 hO nm0
        replace off0 := off0.step hO i0
        replace sz := off0.size
        clear hO
        refine wpL_val (v := .bool false) (by rfl) (by first | rfl | (go_simp; done) | (go_simp; with_reducible rfl) | (go_simp; omega)) ?_
        (try simp only [Act.put, List.setIfInBounds_toArray, List.set_cons_zero, List.set_cons_succ])
        refine wpL_nil ?_
        go_wp2
        go_roundw
        case rel => exact ⟨i, by omega, by go_num, off0, k_t6, k_t7, (by rw [rtA_0 hi70 HX.out HY.out H_hz.out]; exact k_t8)⟩
        case measure => first | (simp [intOf]; done) | (simp [intOf]; omega)
      · have _f := hz
        have H_hz := Lib.hid hz
        clear _f hz
        go_upto_region 14 with fail
        refine wp_region_lit ?_
        refine wpL_load0 (by rfl) rfl rfl k_t7 (by kernel_rfl) (by rw [arrK_size]; kernel_rfl) ?_
        (try simp only [Act.put, List.setIfInBounds_toArray, List.set_cons_zero, List.set_cons_succ])
        refine wpL_load0 (by rfl) rfl rfl k_t11 (by kernel_rfl) (by rw [arrK_size]; kernel_rfl) ?_
        (try simp only [Act.put, List.setIfInBounds_toArray, List.set_cons_zero, List.set_cons_succ])
        have c_l := bLess_c (v) (Y * Y % q28) hv448 (lt448 _)
        rw [decide_eq_false H_hz.out] at c_l
        refine wpL_ret (c_l W12) (by rfl) rfl (by kernel_rfl) rfl ?_
        (try simp only [Act.put, List.setIfInBounds_toArray, List.set_cons_zero, List.set_cons_succ])
        intro W13 hO
        replace k_t6 := blk_off k_t6 hO nm0
        replace k_t7 := blk_off k_t7 hO nm0
        replace k_t8 := blk_off k_t8 hO nm0
        replace k_t10 := blk_off k_t10 hO nm0
        replace k_t11 := blk_off k_t11 hO nm0
        replace off0 := off0.step hO i0
        replace sz := off0.size
        clear hO
        refine wpL_val (v := .bool true) (by rfl) (by first | rfl | (go_simp; done) | (go_simp; with_reducible rfl) | (go_simp; omega)) ?_
        (try simp only [Act.put, List.setIfInBounds_toArray, List.set_cons_zero, List.set_cons_succ])
        refine wpL_nil ?_
        go_upto_region 15 with fail
        refine wp_region_lit ?_
        refine wpL_load0 (by rfl) rfl rfl k_t10 (by kernel_rfl) (by rw [arrK_size]; kernel_rfl) ?_
        (try simp only [Act.put, List.setIfInBounds_toArray, List.set_cons_zero, List.set_cons_succ])
        refine wpL_putrow (cells := arrK .i64 28 (l16 Y)) (by rfl) rfl rfl rfl k_t8 (by rw [arrK_size]; kernel_rfl) (by first | rw [arrK_size, arrK_size] | rw [arrK_size] | kernel_rfl) (by exact arrK_one _ _ _) ?_
        (try simp only [Act.put, List.setIfInBounds_toArray, List.set_cons_zero, List.set_cons_succ])
        intro W14 hO h_
        replace k_t8 : Blk W14 p8_3 (arrK .i64 28 (l16 Y)) 42 := h_
        clear h_
        replace k_t6 := blk_off k_t6 hO (nm1 nq_t6_t8)
        replace k_t7 := blk_off k_t7 hO (nm1 nq_t7_t8)
        replace k_t10 := blk_off k_t10 hO (nm1 nq_t8_t10.symm)
        replace k_t11 := blk_off k_t11 hO (nm1 nq_t8_t11.symm)
        replace off0 := off0.step hO (i1 fb_t8)
        replace sz := off0.size
        clear hO
        refine wpL_nil ?_
        go_wp2
        go_roundw
        case rel => exact ⟨i, by omega, by go_num, off0, k_t6, k_t7, (by rw [rtB_0 hi70 HX.out HY.out H_hz.out]; exact k_t8)⟩
        case measure => first | (simp [intOf]; done) | (simp [intOf]; omega)
set_option maxRecDepth 100000 in
set_option maxHeartbeats 1500000 in
theorem part_c (X : Nat) (w : World) :
    Calls Tryd.prog 15 #[.agg (arrK .i64 28 (l16 X))] w fun e w' => Ret (.int .u64 ((X % 2 ^ 64 : Nat) : Int)) w w' e := by
  have w0 : IntKind.u64.wrap (l16 X 0) = l16 X 0 := by have := l16_ok X 0; rw [IntKind.wrap_u64]; omega
  have w1 : IntKind.u64.wrap (l16 X 1) = l16 X 1 := by have := l16_ok X 1; rw [IntKind.wrap_u64]; omega
  have w2 : IntKind.u64.wrap (l16 X 2) = l16 X 2 := by have := l16_ok X 2; rw [IntKind.wrap_u64]; omega
  have w3 : IntKind.u64.wrap (l16 X 3) = l16 X 3 := by have := l16_ok X 3; rw [IntKind.wrap_u64]; omega
  have off0 : Off [] w w := Off.refl _ _
  have sz := off0.size
  go_enter Tryd.func15, Tryd.ntmps15
  go_upto_region 0 with fail
  refine wp_region_lit ?_
  refine wpL_new (z := arrK .i64 28 (l16 X)) (t := 42) (by rfl) (by first | kernel_rfl | (go_simp; done) | (go_simp; rfl)) ?_
  (try simp only [Act.put, List.setIfInBounds_toArray, List.set_cons_zero, List.set_cons_succ])
  intro p1_1 W1 n_t1 hO h_
  have fb_t1 : Fb p1_1 w.heap.size [] := fb_new (Nat.le_trans sz n_t1)
  replace off0 := off0.step hO i0
  replace sz := off0.size
  have k_t1 := h_
  clear hO h_ n_t1
  refine wpL_val (v := .int .u64 0) (by rfl) (by first | rfl | (go_simp; done) | (go_simp; with_reducible rfl) | (go_simp; omega)) ?_
  (try simp only [Act.put, List.setIfInBounds_toArray, List.set_cons_zero, List.set_cons_succ])
  refine wpL_nil ?_
  go_upto_region 1 with fail
  refine wp_region_lit ?_
  refine wpL_val (v := .pointer (some ⟨p1_1, 0 + 0, none⟩)) (by rfl) (run_ixarr (m := 28) (by decide) (by decide) Tryd.underlying42 (by kernel_rfl) rfl rfl rfl) ?_
  (try simp only [Act.put, List.setIfInBounds_toArray, List.set_cons_zero, List.set_cons_succ])
  refine wpL_get (v := .int .i64 ((l16 X) 0)) (by rfl) rfl rfl k_t1 (by rw [Nat.zero_add]; exact arrK_get _ _ _ _ (by decide)) (by kernel_rfl) ?_
  (try simp only [Act.put, List.setIfInBounds_toArray, List.set_cons_zero, List.set_cons_succ])
  refine wpL_val (v := .int .u64 (l16 X 0)) (by rfl) (by first | (go_simp; done) | (go_simp; rw [w0])) ?_
  (try simp only [Act.put, List.setIfInBounds_toArray, List.set_cons_zero, List.set_cons_succ])
  refine wpL_val (v := .pointer (some ⟨p1_1, 0 + 1, none⟩)) (by rfl) (run_ixarr (m := 28) (by decide) (by decide) Tryd.underlying42 (by kernel_rfl) rfl rfl rfl) ?_
  (try simp only [Act.put, List.setIfInBounds_toArray, List.set_cons_zero, List.set_cons_succ])
  refine wpL_get (v := .int .i64 ((l16 X) 1)) (by rfl) rfl rfl k_t1 (by rw [Nat.zero_add]; exact arrK_get _ _ _ _ (by decide)) (by kernel_rfl) ?_
  (try simp only [Act.put, List.setIfInBounds_toArray, List.set_cons_zero, List.set_cons_succ])
  refine wpL_val (v := .int .u64 (l16 X 1)) (by rfl) (by first | (go_simp; done) | (go_simp; rw [w1])) ?_
  (try simp only [Act.put, List.setIfInBounds_toArray, List.set_cons_zero, List.set_cons_succ])
  refine wpL_val (v := .int .u64 (sl (l16 X 1) 16)) (by rfl) (run_shl (n := 16) (by decide) rfl rfl rfl) ?_
  (try simp only [Act.put, List.setIfInBounds_toArray, List.set_cons_zero, List.set_cons_succ])
  refine wpL_val (v := .int .u64 (oo (l16 X 0) (sl (l16 X 1) 16))) (by rfl) (run_or rfl rfl rfl) ?_
  (try simp only [Act.put, List.setIfInBounds_toArray, List.set_cons_zero, List.set_cons_succ])
  refine wpL_val (v := .pointer (some ⟨p1_1, 0 + 2, none⟩)) (by rfl) (run_ixarr (m := 28) (by decide) (by decide) Tryd.underlying42 (by kernel_rfl) rfl rfl rfl) ?_
  (try simp only [Act.put, List.setIfInBounds_toArray, List.set_cons_zero, List.set_cons_succ])
  refine wpL_get (v := .int .i64 ((l16 X) 2)) (by rfl) rfl rfl k_t1 (by rw [Nat.zero_add]; exact arrK_get _ _ _ _ (by decide)) (by kernel_rfl) ?_
  (try simp only [Act.put, List.setIfInBounds_toArray, List.set_cons_zero, List.set_cons_succ])
  refine wpL_val (v := .int .u64 (l16 X 2)) (by rfl) (by first | (go_simp; done) | (go_simp; rw [w2])) ?_
  (try simp only [Act.put, List.setIfInBounds_toArray, List.set_cons_zero, List.set_cons_succ])
  refine wpL_val (v := .int .u64 (sl (l16 X 2) 32)) (by rfl) (run_shl (n := 32) (by decide) rfl rfl rfl) ?_
  (try simp only [Act.put, List.setIfInBounds_toArray, List.set_cons_zero, List.set_cons_succ])
  refine wpL_val (v := .int .u64 (oo (oo (l16 X 0) (sl (l16 X 1) 16)) (sl (l16 X 2) 32))) (by rfl) (run_or rfl rfl rfl) ?_
  (try simp only [Act.put, List.setIfInBounds_toArray, List.set_cons_zero, List.set_cons_succ])
  refine wpL_val (v := .pointer (some ⟨p1_1, 0 + 3, none⟩)) (by rfl) (run_ixarr (m := 28) (by decide) (by decide) Tryd.underlying42 (by kernel_rfl) rfl rfl rfl) ?_
  (try simp only [Act.put, List.setIfInBounds_toArray, List.set_cons_zero, List.set_cons_succ])
  refine wpL_get (v := .int .i64 ((l16 X) 3)) (by rfl) rfl rfl k_t1 (by rw [Nat.zero_add]; exact arrK_get _ _ _ _ (by decide)) (by kernel_rfl) ?_
  (try simp only [Act.put, List.setIfInBounds_toArray, List.set_cons_zero, List.set_cons_succ])
  refine wpL_val (v := .int .u64 (l16 X 3)) (by rfl) (by first | (go_simp; done) | (go_simp; rw [w3])) ?_
  (try simp only [Act.put, List.setIfInBounds_toArray, List.set_cons_zero, List.set_cons_succ])
  refine wpL_val (v := .int .u64 (sl (l16 X 3) 48)) (by rfl) (run_shl (n := 48) (by decide) rfl rfl rfl) ?_
  (try simp only [Act.put, List.setIfInBounds_toArray, List.set_cons_zero, List.set_cons_succ])
  refine wpL_val (v := .int .u64 (oo (oo (oo (l16 X 0) (sl (l16 X 1) 16)) (sl (l16 X 2) 32)) (sl (l16 X 3) 48))) (by rfl) (run_or rfl rfl rfl) ?_
  (try simp only [Act.put, List.setIfInBounds_toArray, List.set_cons_zero, List.set_cons_succ])
  (refine wpL_val (v := ?_) (by rfl) ?_ ?_; rotate_left 1; (focus (go_simp; first | done | with_reducible rfl)))
  (try simp only [Act.put, List.setIfInBounds_toArray, List.set_cons_zero, List.set_cons_succ])
  refine wpL_nil ?_
  go_wp2
  rw [← part_eq]
  exact bodyPost_ret (v := .int .u64 (oo (oo (oo (l16 X 0) (sl (l16 X 1) 16)) (sl (l16 X 2) 32)) (sl (l16 X 3) 48))) (by simp only [results, Tryd.results15]; go_simp) rfl ⟨rfl, off0.ext⟩
end Go.Proofs.YtfkhogeaadldnaaDoor
