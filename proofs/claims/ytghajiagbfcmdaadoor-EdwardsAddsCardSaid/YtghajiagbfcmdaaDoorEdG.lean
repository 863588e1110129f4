/- edwards.Decode: where there is a point. Conditions: the cells of the variables hold the curve's numbers. -/
import Derived.Test.YtghajiagbfcmdaaDoorEdE
namespace Go.Proofs.YtghajiagbfcmdaaDoor
set_option linter.unusedSimpArgs false
set_option linter.unusedVariables false
open Go.RowKit
attribute [local irreducible] wpList
variable {kn : Kn}

set_option maxRecDepth 100000 in
set_option maxHeartbeats 1500000 in
theorem eDec_1 (hc : kn.c) {V : Nat} (hV : V < 2 ^ 256) (hok : dOk V = true) :
    ∃ X T, RN X (V % 2 ^ 255) 1 T (dPt V) ∧ ∀ w, GE kn w → Calls Tryd.prog 14 #[.agg (arrK .u8 32 (byt V))] w fun e w' => Ret (.tuple #[.agg (p4 X (V % 2 ^ 255) 1 T), .int .i64 0]) w w' e := by
  have c_o := fOf_c (byt V) (byt_ok V)
  rw [bval_byt, show 8 * 32 = 256 by decide, Nat.mod_eq_of_lt hV] at c_o
  obtain ⟨Y, hY⟩ : ∃ v_, v_ = V % 2 ^ 255 % PP := ⟨_, rfl⟩
  rw [← hY] at c_o
  have lY : Y < PP := by rw [hY]; exact mod_pp _
  have HY := Lib.hid hY
  clear hY
  have cb1 := fBytes_c Y (lt_pp lY)
  rw [Nat.mod_eq_of_lt lY] at cb1
  have e_b := eqB32 Y (V % 2 ^ 255) (lt_256p lY) (mod_255' V)
  have c_N2 := fMul_c Y Y (lt_pp lY) (lt_pp lY)
  obtain ⟨N2, hN2⟩ : ∃ v_, v_ = Y * Y % PP := ⟨_, rfl⟩
  rw [← hN2] at c_N2
  have lN2 : N2 < PP := by rw [hN2]; exact mod_pp _
  have bN2 := lt_pp lN2
  have HN2 := Lib.hid hN2
  clear hN2
  have c_N3 := fSub_c N2 1 bN2 (by decide)
  obtain ⟨N3, hN3⟩ : ∃ v_, v_ = (N2 + (PP - 1 % PP)) % PP := ⟨_, rfl⟩
  rw [← hN3] at c_N3
  have lN3 : N3 < PP := by rw [hN3]; exact mod_pp _
  have bN3 := lt_pp lN3
  have HN3 := Lib.hid hN3
  clear hN3
  have c_N4 := fMul_c DD N2 DD_lt bN2
  obtain ⟨N4, hN4⟩ : ∃ v_, v_ = DD * N2 % PP := ⟨_, rfl⟩
  rw [← hN4] at c_N4
  have lN4 : N4 < PP := by rw [hN4]; exact mod_pp _
  have bN4 := lt_pp lN4
  have HN4 := Lib.hid hN4
  clear hN4
  have c_N5 := fAdd_c N4 1 bN4 (by decide)
  obtain ⟨N5, hN5⟩ : ∃ v_, v_ = (N4 + 1) % PP := ⟨_, rfl⟩
  rw [← hN5] at c_N5
  have lN5 : N5 < PP := by rw [hN5]; exact mod_pp _
  have bN5 := lt_pp lN5
  have HN5 := Lib.hid hN5
  clear hN5
  have c_r := fRoot_c N3 N5 bN3 bN5
  obtain ⟨R, hR⟩ : ∃ v_, v_ = rtR N3 N5 := ⟨_, rfl⟩
  rw [← hR] at c_r
  have lR : R < PP := by rw [hR]; exact rtR_ltP _ _
  have HR := Lib.hid hR
  clear hR
  obtain ⟨B, hB⟩ : ∃ v_, v_ = rtB N3 N5 := ⟨_, rfl⟩
  rw [← hB] at c_r
  have HB := Lib.hid hB
  clear hB
  have cs6 := fSame_c R 0 (lt_pp lR) (by decide)
  rw [Nat.mod_eq_of_lt lR, Nat.mod_eq_of_lt (by decide)] at cs6
  have cd7 := fOdd_c R (lt_pp lR)
  rw [Nat.mod_eq_of_lt lR] at cd7
  have hon := dPt_on hok
  have qy0 : V % 2 ^ 255 = Y := by rw [HY.out]; exact (Nat.mod_eq_of_lt (dOk_y hok)).symm
  unfold dPt at hon
  rw [qy0] at hon
  have hy0 := Lib.hid qy0
  clear qy0
  obtain ⟨X0, qX0⟩ : ∃ v_, v_ = dXf Y (top V) := ⟨_, rfl⟩
  have lX0 : X0 < PP := by rw [qX0]; exact dXf_lt _ _
  rw [← qX0] at hon
  have hX0 := Lib.hid qX0
  clear qX0
  obtain ⟨T, rT, c_f⟩ := eOf_c (kn := kn) lX0 lY hon
  have c_N8 := fNeg_c R (lt_pp lR)
  obtain ⟨N8, hN8⟩ : ∃ v_, v_ = (PP - R % PP) % PP := ⟨_, rfl⟩
  rw [← hN8] at c_N8
  have lN8 : N8 < PP := by rw [hN8]; exact mod_pp _
  have bN8 := lt_pp lN8
  have HN8 := Lib.hid hN8
  clear hN8
  have cd6 := fOdd_c R (lt_pp lR)
  rw [Nat.mod_eq_of_lt lR] at cd6
  have c_N7 := fNeg_c R (lt_pp lR)
  obtain ⟨N7, hN7⟩ : ∃ v_, v_ = (PP - R % PP) % PP := ⟨_, rfl⟩
  rw [← hN7] at c_N7
  have lN7 : N7 < PP := by rw [hN7]; exact mod_pp _
  have bN7 := lt_pp lN7
  have HN7 := Lib.hid hN7
  clear hN7
  refine ⟨X0, T, by unfold dPt; rw [hy0.out, ← hX0.out]; exact rT, ?_⟩
  rw [hy0.out]
  clear hon
  intro w hG
  have off0 : Off [] w w := Off.refl _ _
  have sz := off0.size
  go_enter Tryd.func14, Tryd.ntmps14
  go_upto_region 0 with fail
  refine wp_region_lit ?_
  refine wpL_new (z := arrK .u8 32 (byt V)) (t := 22) (by rfl) (by first | kernel_rfl | (go_simp; done) | (go_simp; rfl)) ?_
  (try simp only [Act.put, mA, mB, mC])
  intro p1_1 W1 n_t1 hO h_
  have fb_t1 : Fb p1_1 w.heap.size [] := fb_new (Nat.le_trans sz n_t1)
  replace off0 := off0.step hO i0
  replace sz := off0.size
  have k_t1 := h_
  clear hO h_ n_t1
  refine wpL_new (z := p4 0 0 0 0) (t := 28) (by rfl) (by first | kernel_rfl | (go_simp; done) | (go_simp; rfl)) ?_
  (try simp only [Act.put, mA, mB, mC])
  intro p2_2 W2 n_t2 hO h_
  have nq_t1_t2 : p1_1 ≠ p2_2 := Nat.ne_of_lt (Nat.lt_of_lt_of_le (blk_lt k_t1) n_t2)
  have fb_t2 : Fb p2_2 w.heap.size [] := fb_new (Nat.le_trans sz n_t2)
  replace k_t1 := blk_off k_t1 hO nm0
  replace off0 := off0.step hO i0
  replace sz := off0.size
  have k_t2 := h_
  clear hO h_ n_t2
  refine wpL_val (v := .int .i64 0) (by rfl) (by first | rfl | (go_simp; done) | (go_simp; with_reducible rfl) | (go_simp; omega)) ?_
  (try simp only [Act.put, mA, mB, mC])
  refine wpL_nil ?_
  by_cases ht : top V = true
  · have _f := ht
    go_upto_region 1 with fail
    refine wp_region_lit ?_
    refine wpL_val (v := .pointer (some ⟨p1_1, 0 + 31, none⟩)) (by rfl) (run_ixarr (m := 32) (by decide) (by decide) Tryd.underlying22 (by kernel_rfl) rfl rfl rfl) ?_
    (try simp only [Act.put, mA, mB, mC])
    refine wpL_get (v := .int .u8 ((byt V) 31)) (by rfl) rfl rfl k_t1 (by rw [Nat.zero_add]; exact arrK_get _ _ _ _ (by decide)) (by kernel_rfl) ?_
    (try simp only [Act.put, mA, mB, mC])
    refine wpL_val (v := .int .u8 128) (by rfl) (by exact run_andU (and_hi1 hV ht) rfl rfl rfl) ?_
    (try simp only [Act.put, mA, mB, mC])
    refine wpL_val (v := .bool true) (by rfl) (by first | rfl | (go_simp; done) | (go_simp; with_reducible rfl) | (go_simp; omega)) ?_
    (try simp only [Act.put, mA, mB, mC])
    refine wpL_val (v := .bool true) (by rfl) (by first | rfl | (go_simp; done) | (go_simp; with_reducible rfl) | (go_simp; omega)) ?_
    (try simp only [Act.put, mA, mB, mC])
    refine wpL_nil ?_
    go_upto_region 2 with fail
    refine wp_region_lit ?_
    refine wpL_load0 (by rfl) rfl rfl k_t1 (by kernel_rfl) (by rw [arrK_size]; kernel_rfl) ?_
    (try simp only [Act.put, mA, mB, mC])
    refine wpL_ret (c_o W2 (GE_ext hG off0.ext).1) (by rfl) rfl (by kernel_rfl) rfl ?_
    (try simp only [Act.put, mA, mB, mC])
    intro W3 hO
    replace k_t1 := blk_off k_t1 hO nm0
    replace k_t2 := blk_off k_t2 hO nm0
    replace off0 := off0.step hO i0
    replace sz := off0.size
    clear hO
    refine wpL_new (z := c4 0) (t := 26) (by rfl) (by first | kernel_rfl | (go_simp; done) | (go_simp; rfl)) ?_
    (try simp only [Act.put, mA, mB, mC])
    intro p5_4 W4 n_t5 hO h_
    have nq_t1_t5 : p1_1 ≠ p5_4 := Nat.ne_of_lt (Nat.lt_of_lt_of_le (blk_lt k_t1) n_t5)
    have nq_t2_t5 : p2_2 ≠ p5_4 := Nat.ne_of_lt (Nat.lt_of_lt_of_le (blk_lt k_t2) n_t5)
    have fb_t5 : Fb p5_4 w.heap.size [] := fb_new (Nat.le_trans sz n_t5)
    replace k_t1 := blk_off k_t1 hO nm0
    replace k_t2 := blk_off k_t2 hO nm0
    replace off0 := off0.step hO i0
    replace sz := off0.size
    have k_t5 := h_
    clear hO h_ n_t5
    refine wpL_putrow (cells := c4 Y) (by rfl) rfl rfl rfl k_t5 (by kernel_rfl) (by kernel_rfl) (by kernel_rfl) ?_
    (try simp only [Act.put, mA, mB, mC])
    intro W5 hO h_
    replace k_t5 : Blk W5 p5_4 (c4 Y) 26 := h_
    clear h_
    replace k_t1 := blk_off k_t1 hO (nm1 nq_t1_t5)
    replace k_t2 := blk_off k_t2 hO (nm1 nq_t2_t5)
    replace off0 := off0.step hO (i1 fb_t5)
    replace sz := off0.size
    clear hO
    refine wpL_nil ?_
    go_upto_region 3 with fail
    refine wp_region_lit ?_
    refine wpL_val (v := .pointer (some ⟨p1_1, 0 + 31, none⟩)) (by rfl) (run_ixarr (m := 32) (by decide) (by decide) Tryd.underlying22 (by kernel_rfl) rfl rfl rfl) ?_
    (try simp only [Act.put, mA, mB, mC])
    refine wpL_get (v := .int .u8 ((byt V) 31)) (by rfl) rfl rfl k_t1 (by rw [Nat.zero_add]; exact arrK_get _ _ _ _ (by decide)) (by kernel_rfl) ?_
    (try simp only [Act.put, mA, mB, mC])
    refine wpL_val (v := .int .u8 (bits .andNot .u8 (byt V 31) 128)) (by rfl) (by exact run_andnU rfl rfl rfl rfl) ?_
    (try simp only [Act.put, mA, mB, mC])
    refine wpL_val (v := .pointer (some ⟨p1_1, 0 + 31, none⟩)) (by rfl) (run_ixarr (m := 32) (by decide) (by decide) Tryd.underlying22 (by kernel_rfl) rfl rfl rfl) ?_
    (try simp only [Act.put, mA, mB, mC])
    refine wpL_put1 (v := .int .u8 (bits .andNot .u8 (byt V 31) 128)) ⟨rfl, rfl⟩ (by rfl) rfl rfl rfl k_t1 (by rw [arrK_size, Nat.zero_add]; decide) (by kernel_rfl) ?_
    (try simp only [Act.put, mA, mB, mC])
    intro W6 hO h_
    rw [Nat.zero_add, arrK_set] at h_
    replace k_t1 : Blk W6 p1_1 (arrK .u8 32 (upd (byt V) 31 (bits .andNot .u8 (byt V 31) 128))) 22 := h_
    clear h_
    replace k_t2 := blk_off k_t2 hO (nm1 nq_t1_t2.symm)
    replace k_t5 := blk_off k_t5 hO (nm1 nq_t1_t5.symm)
    replace off0 := off0.step hO (i1 fb_t1)
    replace sz := off0.size
    clear hO
    rw [clr31 (clr_bit hV)] at k_t1
    refine wpL_nil ?_
    by_cases hy : Y = V % 2 ^ 255
    · have _f := hy
      have H_hy := Lib.hid hy
      clear _f hy
      go_upto_region 4 with fail
      refine wp_region_xn 4 [] (by kernel_rfl) (fun x hx => by cases hx) (by kernel_rfl) ?_
      simp only [List.take_succ_cons, List.take_zero, List.take_nil]
      (try simp only [Act.put, mA, mB, mC])
      refine wpX_load (by rfl) rfl rfl (blk_rd k_t5) (by kernel_rfl) (by kernel_rfl) ?_
      (try simp only [Act.put, mA, mB, mC])
      ((with_reducible refine wpX_fn (fun W hW => cb1 W (GE_ext (GE_ext hG off0.ext) hW).1) ?_ rfl ?_ ?_ ?_); (focus rfl); (focus kernel_rfl); (focus rfl); (try simp only [Act.put, mA, mB, mC]))
      refine wpX_load (by rfl) rfl rfl (blk_rd k_t1) (by kernel_rfl) (by rw [arrK_size]; kernel_rfl) ?_
      (try simp only [Act.put, mA, mB, mC])
      rw [decide_eq_true H_hy.out] at e_b
      refine wpX_neqA (e_b) (by kernel_rfl) (by rfl) rfl rfl rfl ?_
      (try simp only [Act.put, mA, mB, mC])
      refine wpX_nil ?_
      intro β W7 hE hN hD
      clear hN hD
      simp only [putAll, Act.put, mA, mB, mC, List.drop_succ_cons, List.drop_zero, List.drop_nil, List.length_cons, List.length_nil, Nat.add_zero]
      have hO := off_ext hE
      replace k_t1 := blk_off k_t1 hO nm0
      replace k_t2 := blk_off k_t2 hO nm0
      replace k_t5 := blk_off k_t5 hO nm0
      replace off0 := off0.step hO i0
      replace sz := off0.size
      clear hO hE β
      refine wpL_nil ?_
      first | with_reducible refine NoPanic.normal (Q := Exit.then _ _) ?_ | with_reducible refine NoPanic.normal ?_
      go_upto_region 6 with fail
      refine wp_region_lit ?_
      refine wpL_load0 (by rfl) rfl rfl k_t5 (by kernel_rfl) (by kernel_rfl) ?_
      (try simp only [Act.put, mA, mB, mC])
      refine wpL_load0 (by rfl) rfl rfl k_t5 (by kernel_rfl) (by kernel_rfl) ?_
      (try simp only [Act.put, mA, mB, mC])
      refine wpL_ret (c_N2 W7 (GE_ext hG off0.ext).1) (by rfl) rfl (by kernel_rfl) rfl ?_
      (try simp only [Act.put, mA, mB, mC])
      intro W8 hO
      replace k_t1 := blk_off k_t1 hO nm0
      replace k_t2 := blk_off k_t2 hO nm0
      replace k_t5 := blk_off k_t5 hO nm0
      replace off0 := off0.step hO i0
      replace sz := off0.size
      clear hO
      refine wpL_new (z := c4 0) (t := 26) (by rfl) (by first | kernel_rfl | (go_simp; done) | (go_simp; rfl)) ?_
      (try simp only [Act.put, mA, mB, mC])
      intro p6_9 W9 n_t6 hO h_
      have nq_t1_t6 : p1_1 ≠ p6_9 := Nat.ne_of_lt (Nat.lt_of_lt_of_le (blk_lt k_t1) n_t6)
      have nq_t2_t6 : p2_2 ≠ p6_9 := Nat.ne_of_lt (Nat.lt_of_lt_of_le (blk_lt k_t2) n_t6)
      have nq_t5_t6 : p5_4 ≠ p6_9 := Nat.ne_of_lt (Nat.lt_of_lt_of_le (blk_lt k_t5) n_t6)
      have fb_t6 : Fb p6_9 w.heap.size [] := fb_new (Nat.le_trans sz n_t6)
      replace k_t1 := blk_off k_t1 hO nm0
      replace k_t2 := blk_off k_t2 hO nm0
      replace k_t5 := blk_off k_t5 hO nm0
      replace off0 := off0.step hO i0
      replace sz := off0.size
      have k_t6 := h_
      clear hO h_ n_t6
      refine wpL_putrow (cells := c4 N2) (by rfl) rfl rfl rfl k_t6 (by kernel_rfl) (by kernel_rfl) (by kernel_rfl) ?_
      (try simp only [Act.put, mA, mB, mC])
      intro W10 hO h_
      replace k_t6 : Blk W10 p6_9 (c4 N2) 26 := h_
      clear h_
      replace k_t1 := blk_off k_t1 hO (nm1 nq_t1_t6)
      replace k_t2 := blk_off k_t2 hO (nm1 nq_t2_t6)
      replace k_t5 := blk_off k_t5 hO (nm1 nq_t5_t6)
      replace off0 := off0.step hO (i1 fb_t6)
      replace sz := off0.size
      clear hO
      refine wpL_nil ?_
      have qRx : R = dX Y := by unfold dX dU dV; rw [HR.out, HN3.out, HN5.out, HN4.out, HN2.out]
      have qBx : B = dB Y := by unfold dB dU dV; rw [HB.out, HN3.out, HN5.out, HN4.out, HN2.out]
      have hRx := Lib.hid qRx
      have hBx := Lib.hid qBx
      clear qRx qBx
      by_cases hb : B = true
      · have _f := hb
        have H_hb := Lib.hid hb
        clear _f hb
        go_upto_region 7 with fail
        refine wp_region_xn 12 [⟨12, 7, c4 0, 26⟩] (by kernel_rfl) ?_ (by kernel_rfl) ?_
        · intro x hx
          simp only [List.mem_cons, List.not_mem_nil, or_false] at hx
          subst hx; exact ⟨_, rfl, rfl, rfl, fun _ _ => by kernel_rfl⟩
        simp only [List.take_succ_cons, List.take_zero, List.take_nil]
        (try simp only [Act.put, mA, mB, mC])
        refine wpX_load (by rfl) rfl rfl (blk_rd k_t6) (by kernel_rfl) (by kernel_rfl) ?_
        (try simp only [Act.put, mA, mB, mC])
        ((with_reducible refine wpX_fn (fun W hW => eOne_c W) ?_ rfl ?_ ?_ ?_); (focus rfl); (focus kernel_rfl); (focus rfl); (try simp only [Act.put, mA, mB, mC]))
        ((with_reducible refine wpX_fn (fun W hW => c_N3 W (GE_ext (GE_ext hG off0.ext) hW).1) ?_ rfl ?_ ?_ ?_); (focus rfl); (focus kernel_rfl); (focus rfl); (try simp only [Act.put, mA, mB, mC]))
        refine wpX_load (by rfl) rfl rfl ((GE_ext hG off0.ext).2.2.1 hc) (by kernel_rfl) (by kernel_rfl) ?_
        (try simp only [Act.put, mA, mB, mC])
        refine wpX_load (by rfl) rfl rfl (blk_rd k_t6) (by kernel_rfl) (by kernel_rfl) ?_
        (try simp only [Act.put, mA, mB, mC])
        ((with_reducible refine wpX_fn (fun W hW => c_N4 W (GE_ext (GE_ext hG off0.ext) hW).1) ?_ rfl ?_ ?_ ?_); (focus rfl); (focus kernel_rfl); (focus rfl); (try simp only [Act.put, mA, mB, mC]))
        ((with_reducible refine wpX_fn (fun W hW => eOne_c W) ?_ rfl ?_ ?_ ?_); (focus rfl); (focus kernel_rfl); (focus rfl); (try simp only [Act.put, mA, mB, mC]))
        ((with_reducible refine wpX_fn (fun W hW => c_N5 W (GE_ext (GE_ext hG off0.ext) hW).1) ?_ rfl ?_ ?_ ?_); (focus rfl); (focus kernel_rfl); (focus rfl); (try simp only [Act.put, mA, mB, mC]))
        rw [H_hb.out] at c_r
        ((with_reducible refine wpX_fn (fun W hW => c_r W (GE_ext (GE_ext hG off0.ext) hW).1 ((GE_ext (GE_ext hG off0.ext) hW).2.1 hc)) ?_ rfl ?_ ?_ ?_); (focus rfl); (focus kernel_rfl); (focus rfl); (try simp only [Act.put, mA, mB, mC]))
        (refine wpX_val (v := ?_) (by rfl) (fun W hW => ?_) ?_; rotate_left 1; (focus (go_simp; first | done | with_reducible rfl)); (try simp only [Act.put, mA, mB, mC]))
        (refine wpX_val (v := ?_) (by rfl) (fun W hW => ?_) ?_; rotate_left 1; (focus (go_simp; first | done | with_reducible rfl)); (try simp only [Act.put, mA, mB, mC]))
        (refine wpX_val (v := ?_) (by rfl) (fun W hW => ?_) ?_; rotate_left 1; (focus (go_simp; first | done | with_reducible rfl)); (try simp only [Act.put, mA, mB, mC]))
        refine wpX_nil ?_
        intro β W11 hE hN hD
        obtain ⟨n_t7, h_t7⟩ := hN _ (List.mem_cons_self ..)
        clear hN hD
        simp only [putAll, Act.put, mA, mB, mC, List.drop_succ_cons, List.drop_zero, List.drop_nil, List.length_cons, List.length_nil, Nat.add_zero] at n_t7 h_t7 ⊢
        have hO := off_ext hE
        generalize β 12 = p7_11 at *
        have nq_t1_t7 : p1_1 ≠ p7_11 := Nat.ne_of_lt (Nat.lt_of_lt_of_le (blk_lt k_t1) n_t7)
        have nq_t2_t7 : p2_2 ≠ p7_11 := Nat.ne_of_lt (Nat.lt_of_lt_of_le (blk_lt k_t2) n_t7)
        have nq_t5_t7 : p5_4 ≠ p7_11 := Nat.ne_of_lt (Nat.lt_of_lt_of_le (blk_lt k_t5) n_t7)
        have nq_t6_t7 : p6_9 ≠ p7_11 := Nat.ne_of_lt (Nat.lt_of_lt_of_le (blk_lt k_t6) n_t7)
        have fb_t7 : Fb p7_11 w.heap.size [] := fb_new (Nat.le_trans sz n_t7)
        replace k_t1 := blk_off k_t1 hO nm0
        replace k_t2 := blk_off k_t2 hO nm0
        replace k_t5 := blk_off k_t5 hO nm0
        replace k_t6 := blk_off k_t6 hO nm0
        replace off0 := off0.step hO i0
        replace sz := off0.size
        clear hO hE β n_t7
        have k_t7 : Blk W11 p7_11 (c4 0) 26 := h_t7
        clear h_t7
        refine wpL_putrow (cells := c4 R) (by rfl) rfl rfl rfl k_t7 (by kernel_rfl) (by kernel_rfl) (by kernel_rfl) ?_
        (try simp only [Act.put, mA, mB, mC])
        intro W12 hO h_
        replace k_t7 : Blk W12 p7_11 (c4 R) 26 := h_
        clear h_
        replace k_t1 := blk_off k_t1 hO (nm1 nq_t1_t7)
        replace k_t2 := blk_off k_t2 hO (nm1 nq_t2_t7)
        replace k_t5 := blk_off k_t5 hO (nm1 nq_t5_t7)
        replace k_t6 := blk_off k_t6 hO (nm1 nq_t6_t7)
        replace off0 := off0.step hO (i1 fb_t7)
        replace sz := off0.size
        clear hO
        refine wpL_val (v := .bool true) (by rfl) (by first | rfl | (go_simp; done) | (go_simp; with_reducible rfl) | (go_simp; omega)) ?_
        (try simp only [Act.put, mA, mB, mC])
        refine wpL_nil ?_
        first | with_reducible refine NoPanic.normal (Q := Exit.then _ _) ?_ | with_reducible refine NoPanic.normal ?_
        by_cases h0 : R = 0
        · have _f := h0
          exact absurd (by rw [← H_hy.out, ← hRx.out]; exact h0) (dOk_0 hok ht)
        · have _f := h0
          have H_h0 := Lib.hid h0
          clear _f h0
          go_upto_region 8 with fail
          refine wp_region_lit ?_
          refine wpL_val (v := .bool true) (by rfl) (by first | rfl | (go_simp; done) | (go_simp; with_reducible rfl) | (go_simp; omega)) ?_
          (try simp only [Act.put, mA, mB, mC])
          refine wpL_val (v := .bool false) (by rfl) (by first | rfl | (go_simp; done) | (go_simp; with_reducible rfl) | (go_simp; omega)) ?_
          (try simp only [Act.put, mA, mB, mC])
          refine wpL_val (v := .bool false) (by rfl) (by first | rfl | (go_simp; done) | (go_simp; with_reducible rfl) | (go_simp; omega)) ?_
          (try simp only [Act.put, mA, mB, mC])
          refine wpL_val (v := .bool true) (by rfl) (by first | rfl | (go_simp; done) | (go_simp; with_reducible rfl) | (go_simp; omega)) ?_
          (try simp only [Act.put, mA, mB, mC])
          refine wpL_val (v := .bool true) (by rfl) (by first | rfl | (go_simp; done) | (go_simp; with_reducible rfl) | (go_simp; omega)) ?_
          (try simp only [Act.put, mA, mB, mC])
          refine wpL_load0 (by rfl) rfl rfl k_t7 (by kernel_rfl) (by kernel_rfl) ?_
          (try simp only [Act.put, mA, mB, mC])
          refine wpL_val (v := .agg (c4 0)) (by rfl) (by kernel_rfl) ?_
          (try simp only [Act.put, mA, mB, mC])
          rw [decide_eq_false H_h0.out] at cs6
          refine wpL_ret (cs6 W12 (GE_ext hG off0.ext).1) (by rfl) rfl (by kernel_rfl) rfl ?_
          (try simp only [Act.put, mA, mB, mC])
          intro W13 hO
          replace k_t1 := blk_off k_t1 hO nm0
          replace k_t2 := blk_off k_t2 hO nm0
          replace k_t5 := blk_off k_t5 hO nm0
          replace k_t6 := blk_off k_t6 hO nm0
          replace k_t7 := blk_off k_t7 hO nm0
          replace off0 := off0.step hO i0
          replace sz := off0.size
          clear hO
          refine wpL_val (v := .bool false) (by rfl) (by first | rfl | (go_simp; done) | (go_simp; with_reducible rfl) | (go_simp; omega)) ?_
          (try simp only [Act.put, mA, mB, mC])
          refine wpL_val (v := .bool false) (by rfl) (by first | rfl | (go_simp; done) | (go_simp; with_reducible rfl) | (go_simp; omega)) ?_
          (try simp only [Act.put, mA, mB, mC])
          refine wpL_nil ?_
          by_cases ho : R % 2 = 1
          · have _f := ho
            have H_ho := Lib.hid ho
            clear _f ho
            go_upto_region 10 with fail
            refine wp_region_lit ?_
            refine wpL_load0 (by rfl) rfl rfl k_t7 (by kernel_rfl) (by kernel_rfl) ?_
            (try simp only [Act.put, mA, mB, mC])
            rw [decide_eq_true H_ho.out] at cd7
            refine wpL_ret (cd7 W13 (GE_ext hG off0.ext).1) (by rfl) rfl (by kernel_rfl) rfl ?_
            (try simp only [Act.put, mA, mB, mC])
            intro W14 hO
            replace k_t1 := blk_off k_t1 hO nm0
            replace k_t2 := blk_off k_t2 hO nm0
            replace k_t5 := blk_off k_t5 hO nm0
            replace k_t6 := blk_off k_t6 hO nm0
            replace k_t7 := blk_off k_t7 hO nm0
            replace off0 := off0.step hO i0
            replace sz := off0.size
            clear hO
            refine wpL_val (v := .bool true) (by rfl) (by first | rfl | (go_simp; done) | (go_simp; with_reducible rfl) | (go_simp; omega)) ?_
            (try simp only [Act.put, mA, mB, mC])
            refine wpL_val (v := .bool false) (by rfl) (by first | rfl | (go_simp; done)) ?_
            (try simp only [Act.put, mA, mB, mC])
            refine wpL_nil ?_
            have hxf : R = X0 := hX0.out.trans (by unfold dXf xodd; rw [← hRx.out, Nat.mod_eq_of_lt lR, decide_eq_true H_ho.out, ht]; exact if_pos rfl) |>.symm
            rw [hxf] at k_t7
            clear hxf
            go_upto_region 12 with fail
            refine wp_region_lit ?_
            refine wpL_load0 (by rfl) rfl rfl k_t7 (by kernel_rfl) (by kernel_rfl) ?_
            (try simp only [Act.put, mA, mB, mC])
            refine wpL_load0 (by rfl) rfl rfl k_t5 (by kernel_rfl) (by kernel_rfl) ?_
            (try simp only [Act.put, mA, mB, mC])
            refine wpL_ret (c_f W14 (GE_ext hG off0.ext)) (by rfl) rfl (by kernel_rfl) rfl ?_
            (try simp only [Act.put, mA, mB, mC])
            intro W15 hO
            replace k_t1 := blk_off k_t1 hO nm0
            replace k_t2 := blk_off k_t2 hO nm0
            replace k_t5 := blk_off k_t5 hO nm0
            replace k_t6 := blk_off k_t6 hO nm0
            replace k_t7 := blk_off k_t7 hO nm0
            replace off0 := off0.step hO i0
            replace sz := off0.size
            clear hO
            refine wpL_putrow (cells := p4 X0 Y 1 T) (by rfl) rfl rfl rfl k_t2 (by kernel_rfl) (by kernel_rfl) (by kernel_rfl) ?_
            (try simp only [Act.put, mA, mB, mC])
            intro W16 hO h_
            replace k_t2 : Blk W16 p2_2 (p4 X0 Y 1 T) 28 := h_
            clear h_
            replace k_t1 := blk_off k_t1 hO (nm1 nq_t1_t2)
            replace k_t5 := blk_off k_t5 hO (nm1 nq_t2_t5.symm)
            replace k_t6 := blk_off k_t6 hO (nm1 nq_t2_t6.symm)
            replace k_t7 := blk_off k_t7 hO (nm1 nq_t2_t7.symm)
            replace off0 := off0.step hO (i1 fb_t2)
            replace sz := off0.size
            clear hO
            refine wpL_val (v := .int .i64 0) (by rfl) (by first | rfl | (go_simp; done) | (go_simp; with_reducible rfl) | (go_simp; omega)) ?_
            (try simp only [Act.put, mA, mB, mC])
            refine wpL_nil ?_
            go_wp2
            exact bodyPost_ret (res_row2 rfl rfl rfl k_t2 (by kernel_rfl) (by kernel_rfl)) rfl ⟨rfl, off0.ext⟩
          · have _f := ho
            have H_ho := Lib.hid ho
            clear _f ho
            go_upto_region 10 with fail
            refine wp_region_lit ?_
            refine wpL_load0 (by rfl) rfl rfl k_t7 (by kernel_rfl) (by kernel_rfl) ?_
            (try simp only [Act.put, mA, mB, mC])
            rw [decide_eq_false H_ho.out] at cd7
            refine wpL_ret (cd7 W13 (GE_ext hG off0.ext).1) (by rfl) rfl (by kernel_rfl) rfl ?_
            (try simp only [Act.put, mA, mB, mC])
            intro W14 hO
            replace k_t1 := blk_off k_t1 hO nm0
            replace k_t2 := blk_off k_t2 hO nm0
            replace k_t5 := blk_off k_t5 hO nm0
            replace k_t6 := blk_off k_t6 hO nm0
            replace k_t7 := blk_off k_t7 hO nm0
            replace off0 := off0.step hO i0
            replace sz := off0.size
            clear hO
            refine wpL_val (v := .bool true) (by rfl) (by first | rfl | (go_simp; done) | (go_simp; with_reducible rfl) | (go_simp; omega)) ?_
            (try simp only [Act.put, mA, mB, mC])
            refine wpL_val (v := .bool true) (by rfl) (by first | rfl | (go_simp; done)) ?_
            (try simp only [Act.put, mA, mB, mC])
            refine wpL_nil ?_
            go_upto_region 11 with fail
            refine wp_region_lit ?_
            refine wpL_load0 (by rfl) rfl rfl k_t7 (by kernel_rfl) (by kernel_rfl) ?_
            (try simp only [Act.put, mA, mB, mC])
            refine wpL_ret (c_N8 W14 (GE_ext hG off0.ext).1) (by rfl) rfl (by kernel_rfl) rfl ?_
            (try simp only [Act.put, mA, mB, mC])
            intro W15 hO
            replace k_t1 := blk_off k_t1 hO nm0
            replace k_t2 := blk_off k_t2 hO nm0
            replace k_t5 := blk_off k_t5 hO nm0
            replace k_t6 := blk_off k_t6 hO nm0
            replace k_t7 := blk_off k_t7 hO nm0
            replace off0 := off0.step hO i0
            replace sz := off0.size
            clear hO
            refine wpL_putrow (cells := c4 N8) (by rfl) rfl rfl rfl k_t7 (by kernel_rfl) (by kernel_rfl) (by kernel_rfl) ?_
            (try simp only [Act.put, mA, mB, mC])
            intro W16 hO h_
            replace k_t7 : Blk W16 p7_11 (c4 N8) 26 := h_
            clear h_
            replace k_t1 := blk_off k_t1 hO (nm1 nq_t1_t7)
            replace k_t2 := blk_off k_t2 hO (nm1 nq_t2_t7)
            replace k_t5 := blk_off k_t5 hO (nm1 nq_t5_t7)
            replace k_t6 := blk_off k_t6 hO (nm1 nq_t6_t7)
            replace off0 := off0.step hO (i1 fb_t7)
            replace sz := off0.size
            clear hO
            refine wpL_nil ?_
            have hxf : N8 = X0 := hX0.out.trans (by unfold dXf xodd; rw [← hRx.out, Nat.mod_eq_of_lt lR, decide_eq_false H_ho.out, ht, HN8.out, Nat.mod_eq_of_lt lR]; exact if_neg (by decide)) |>.symm
            rw [hxf] at k_t7
            clear hxf
            go_upto_region 12 with fail
            refine wp_region_lit ?_
            refine wpL_load0 (by rfl) rfl rfl k_t7 (by kernel_rfl) (by kernel_rfl) ?_
            (try simp only [Act.put, mA, mB, mC])
            refine wpL_load0 (by rfl) rfl rfl k_t5 (by kernel_rfl) (by kernel_rfl) ?_
            (try simp only [Act.put, mA, mB, mC])
            refine wpL_ret (c_f W16 (GE_ext hG off0.ext)) (by rfl) rfl (by kernel_rfl) rfl ?_
            (try simp only [Act.put, mA, mB, mC])
            intro W17 hO
            replace k_t1 := blk_off k_t1 hO nm0
            replace k_t2 := blk_off k_t2 hO nm0
            replace k_t5 := blk_off k_t5 hO nm0
            replace k_t6 := blk_off k_t6 hO nm0
            replace k_t7 := blk_off k_t7 hO nm0
            replace off0 := off0.step hO i0
            replace sz := off0.size
            clear hO
            refine wpL_putrow (cells := p4 X0 Y 1 T) (by rfl) rfl rfl rfl k_t2 (by kernel_rfl) (by kernel_rfl) (by kernel_rfl) ?_
            (try simp only [Act.put, mA, mB, mC])
            intro W18 hO h_
            replace k_t2 : Blk W18 p2_2 (p4 X0 Y 1 T) 28 := h_
            clear h_
            replace k_t1 := blk_off k_t1 hO (nm1 nq_t1_t2)
            replace k_t5 := blk_off k_t5 hO (nm1 nq_t2_t5.symm)
            replace k_t6 := blk_off k_t6 hO (nm1 nq_t2_t6.symm)
            replace k_t7 := blk_off k_t7 hO (nm1 nq_t2_t7.symm)
            replace off0 := off0.step hO (i1 fb_t2)
            replace sz := off0.size
            clear hO
            refine wpL_val (v := .int .i64 0) (by rfl) (by first | rfl | (go_simp; done) | (go_simp; with_reducible rfl) | (go_simp; omega)) ?_
            (try simp only [Act.put, mA, mB, mC])
            refine wpL_nil ?_
            go_wp2
            exact bodyPost_ret (res_row2 rfl rfl rfl k_t2 (by kernel_rfl) (by kernel_rfl)) rfl ⟨rfl, off0.ext⟩
      · have _f := hb
        exact absurd (by rw [hBx.out, H_hy.out]; exact dOk_b hok) hb
    · have _f := hy
      exact absurd (HY.out.trans (Nat.mod_eq_of_lt (dOk_y hok))) hy
  · have _f := ht
    go_upto_region 1 with fail
    refine wp_region_lit ?_
    refine wpL_val (v := .pointer (some ⟨p1_1, 0 + 31, none⟩)) (by rfl) (run_ixarr (m := 32) (by decide) (by decide) Tryd.underlying22 (by kernel_rfl) rfl rfl rfl) ?_
    (try simp only [Act.put, mA, mB, mC])
    refine wpL_get (v := .int .u8 ((byt V) 31)) (by rfl) rfl rfl k_t1 (by rw [Nat.zero_add]; exact arrK_get _ _ _ _ (by decide)) (by kernel_rfl) ?_
    (try simp only [Act.put, mA, mB, mC])
    refine wpL_val (v := .int .u8 0) (by rfl) (by exact run_andU (and_hi0 hV ht) rfl rfl rfl) ?_
    (try simp only [Act.put, mA, mB, mC])
    refine wpL_val (v := .bool false) (by rfl) (by first | rfl | (go_simp; done) | (go_simp; with_reducible rfl) | (go_simp; omega)) ?_
    (try simp only [Act.put, mA, mB, mC])
    refine wpL_val (v := .bool false) (by rfl) (by first | rfl | (go_simp; done) | (go_simp; with_reducible rfl) | (go_simp; omega)) ?_
    (try simp only [Act.put, mA, mB, mC])
    refine wpL_nil ?_
    go_upto_region 2 with fail
    refine wp_region_lit ?_
    refine wpL_load0 (by rfl) rfl rfl k_t1 (by kernel_rfl) (by rw [arrK_size]; kernel_rfl) ?_
    (try simp only [Act.put, mA, mB, mC])
    refine wpL_ret (c_o W2 (GE_ext hG off0.ext).1) (by rfl) rfl (by kernel_rfl) rfl ?_
    (try simp only [Act.put, mA, mB, mC])
    intro W3 hO
    replace k_t1 := blk_off k_t1 hO nm0
    replace k_t2 := blk_off k_t2 hO nm0
    replace off0 := off0.step hO i0
    replace sz := off0.size
    clear hO
    refine wpL_new (z := c4 0) (t := 26) (by rfl) (by first | kernel_rfl | (go_simp; done) | (go_simp; rfl)) ?_
    (try simp only [Act.put, mA, mB, mC])
    intro p5_4 W4 n_t5 hO h_
    have nq_t1_t5 : p1_1 ≠ p5_4 := Nat.ne_of_lt (Nat.lt_of_lt_of_le (blk_lt k_t1) n_t5)
    have nq_t2_t5 : p2_2 ≠ p5_4 := Nat.ne_of_lt (Nat.lt_of_lt_of_le (blk_lt k_t2) n_t5)
    have fb_t5 : Fb p5_4 w.heap.size [] := fb_new (Nat.le_trans sz n_t5)
    replace k_t1 := blk_off k_t1 hO nm0
    replace k_t2 := blk_off k_t2 hO nm0
    replace off0 := off0.step hO i0
    replace sz := off0.size
    have k_t5 := h_
    clear hO h_ n_t5
    refine wpL_putrow (cells := c4 Y) (by rfl) rfl rfl rfl k_t5 (by kernel_rfl) (by kernel_rfl) (by kernel_rfl) ?_
    (try simp only [Act.put, mA, mB, mC])
    intro W5 hO h_
    replace k_t5 : Blk W5 p5_4 (c4 Y) 26 := h_
    clear h_
    replace k_t1 := blk_off k_t1 hO (nm1 nq_t1_t5)
    replace k_t2 := blk_off k_t2 hO (nm1 nq_t2_t5)
    replace off0 := off0.step hO (i1 fb_t5)
    replace sz := off0.size
    clear hO
    refine wpL_nil ?_
    go_upto_region 3 with fail
    refine wp_region_lit ?_
    refine wpL_val (v := .pointer (some ⟨p1_1, 0 + 31, none⟩)) (by rfl) (run_ixarr (m := 32) (by decide) (by decide) Tryd.underlying22 (by kernel_rfl) rfl rfl rfl) ?_
    (try simp only [Act.put, mA, mB, mC])
    refine wpL_get (v := .int .u8 ((byt V) 31)) (by rfl) rfl rfl k_t1 (by rw [Nat.zero_add]; exact arrK_get _ _ _ _ (by decide)) (by kernel_rfl) ?_
    (try simp only [Act.put, mA, mB, mC])
    refine wpL_val (v := .int .u8 (bits .andNot .u8 (byt V 31) 128)) (by rfl) (by exact run_andnU rfl rfl rfl rfl) ?_
    (try simp only [Act.put, mA, mB, mC])
    refine wpL_val (v := .pointer (some ⟨p1_1, 0 + 31, none⟩)) (by rfl) (run_ixarr (m := 32) (by decide) (by decide) Tryd.underlying22 (by kernel_rfl) rfl rfl rfl) ?_
    (try simp only [Act.put, mA, mB, mC])
    refine wpL_put1 (v := .int .u8 (bits .andNot .u8 (byt V 31) 128)) ⟨rfl, rfl⟩ (by rfl) rfl rfl rfl k_t1 (by rw [arrK_size, Nat.zero_add]; decide) (by kernel_rfl) ?_
    (try simp only [Act.put, mA, mB, mC])
    intro W6 hO h_
    rw [Nat.zero_add, arrK_set] at h_
    replace k_t1 : Blk W6 p1_1 (arrK .u8 32 (upd (byt V) 31 (bits .andNot .u8 (byt V 31) 128))) 22 := h_
    clear h_
    replace k_t2 := blk_off k_t2 hO (nm1 nq_t1_t2.symm)
    replace k_t5 := blk_off k_t5 hO (nm1 nq_t1_t5.symm)
    replace off0 := off0.step hO (i1 fb_t1)
    replace sz := off0.size
    clear hO
    rw [clr31 (clr_bit hV)] at k_t1
    refine wpL_nil ?_
    by_cases hy : Y = V % 2 ^ 255
    · have _f := hy
      have H_hy := Lib.hid hy
      clear _f hy
      go_upto_region 4 with fail
      refine wp_region_xn 4 [] (by kernel_rfl) (fun x hx => by cases hx) (by kernel_rfl) ?_
      simp only [List.take_succ_cons, List.take_zero, List.take_nil]
      (try simp only [Act.put, mA, mB, mC])
      refine wpX_load (by rfl) rfl rfl (blk_rd k_t5) (by kernel_rfl) (by kernel_rfl) ?_
      (try simp only [Act.put, mA, mB, mC])
      ((with_reducible refine wpX_fn (fun W hW => cb1 W (GE_ext (GE_ext hG off0.ext) hW).1) ?_ rfl ?_ ?_ ?_); (focus rfl); (focus kernel_rfl); (focus rfl); (try simp only [Act.put, mA, mB, mC]))
      refine wpX_load (by rfl) rfl rfl (blk_rd k_t1) (by kernel_rfl) (by rw [arrK_size]; kernel_rfl) ?_
      (try simp only [Act.put, mA, mB, mC])
      rw [decide_eq_true H_hy.out] at e_b
      refine wpX_neqA (e_b) (by kernel_rfl) (by rfl) rfl rfl rfl ?_
      (try simp only [Act.put, mA, mB, mC])
      refine wpX_nil ?_
      intro β W7 hE hN hD
      clear hN hD
      simp only [putAll, Act.put, mA, mB, mC, List.drop_succ_cons, List.drop_zero, List.drop_nil, List.length_cons, List.length_nil, Nat.add_zero]
      have hO := off_ext hE
      replace k_t1 := blk_off k_t1 hO nm0
      replace k_t2 := blk_off k_t2 hO nm0
      replace k_t5 := blk_off k_t5 hO nm0
      replace off0 := off0.step hO i0
      replace sz := off0.size
      clear hO hE β
      refine wpL_nil ?_
      first | with_reducible refine NoPanic.normal (Q := Exit.then _ _) ?_ | with_reducible refine NoPanic.normal ?_
      go_upto_region 6 with fail
      refine wp_region_lit ?_
      refine wpL_load0 (by rfl) rfl rfl k_t5 (by kernel_rfl) (by kernel_rfl) ?_
      (try simp only [Act.put, mA, mB, mC])
      refine wpL_load0 (by rfl) rfl rfl k_t5 (by kernel_rfl) (by kernel_rfl) ?_
      (try simp only [Act.put, mA, mB, mC])
      refine wpL_ret (c_N2 W7 (GE_ext hG off0.ext).1) (by rfl) rfl (by kernel_rfl) rfl ?_
      (try simp only [Act.put, mA, mB, mC])
      intro W8 hO
      replace k_t1 := blk_off k_t1 hO nm0
      replace k_t2 := blk_off k_t2 hO nm0
      replace k_t5 := blk_off k_t5 hO nm0
      replace off0 := off0.step hO i0
      replace sz := off0.size
      clear hO
      refine wpL_new (z := c4 0) (t := 26) (by rfl) (by first | kernel_rfl | (go_simp; done) | (go_simp; rfl)) ?_
      (try simp only [Act.put, mA, mB, mC])
      intro p6_9 W9 n_t6 hO h_
      have nq_t1_t6 : p1_1 ≠ p6_9 := Nat.ne_of_lt (Nat.lt_of_lt_of_le (blk_lt k_t1) n_t6)
      have nq_t2_t6 : p2_2 ≠ p6_9 := Nat.ne_of_lt (Nat.lt_of_lt_of_le (blk_lt k_t2) n_t6)
      have nq_t5_t6 : p5_4 ≠ p6_9 := Nat.ne_of_lt (Nat.lt_of_lt_of_le (blk_lt k_t5) n_t6)
      have fb_t6 : Fb p6_9 w.heap.size [] := fb_new (Nat.le_trans sz n_t6)
      replace k_t1 := blk_off k_t1 hO nm0
      replace k_t2 := blk_off k_t2 hO nm0
      replace k_t5 := blk_off k_t5 hO nm0
      replace off0 := off0.step hO i0
      replace sz := off0.size
      have k_t6 := h_
      clear hO h_ n_t6
      refine wpL_putrow (cells := c4 N2) (by rfl) rfl rfl rfl k_t6 (by kernel_rfl) (by kernel_rfl) (by kernel_rfl) ?_
      (try simp only [Act.put, mA, mB, mC])
      intro W10 hO h_
      replace k_t6 : Blk W10 p6_9 (c4 N2) 26 := h_
      clear h_
      replace k_t1 := blk_off k_t1 hO (nm1 nq_t1_t6)
      replace k_t2 := blk_off k_t2 hO (nm1 nq_t2_t6)
      replace k_t5 := blk_off k_t5 hO (nm1 nq_t5_t6)
      replace off0 := off0.step hO (i1 fb_t6)
      replace sz := off0.size
      clear hO
      refine wpL_nil ?_
      have qRx : R = dX Y := by unfold dX dU dV; rw [HR.out, HN3.out, HN5.out, HN4.out, HN2.out]
      have qBx : B = dB Y := by unfold dB dU dV; rw [HB.out, HN3.out, HN5.out, HN4.out, HN2.out]
      have hRx := Lib.hid qRx
      have hBx := Lib.hid qBx
      clear qRx qBx
      by_cases hb : B = true
      · have _f := hb
        have H_hb := Lib.hid hb
        clear _f hb
        go_upto_region 7 with fail
        refine wp_region_xn 12 [⟨12, 7, c4 0, 26⟩] (by kernel_rfl) ?_ (by kernel_rfl) ?_
        · intro x hx
          simp only [List.mem_cons, List.not_mem_nil, or_false] at hx
          subst hx; exact ⟨_, rfl, rfl, rfl, fun _ _ => by kernel_rfl⟩
        simp only [List.take_succ_cons, List.take_zero, List.take_nil]
        (try simp only [Act.put, mA, mB, mC])
        refine wpX_load (by rfl) rfl rfl (blk_rd k_t6) (by kernel_rfl) (by kernel_rfl) ?_
        (try simp only [Act.put, mA, mB, mC])
        ((with_reducible refine wpX_fn (fun W hW => eOne_c W) ?_ rfl ?_ ?_ ?_); (focus rfl); (focus kernel_rfl); (focus rfl); (try simp only [Act.put, mA, mB, mC]))
        ((with_reducible refine wpX_fn (fun W hW => c_N3 W (GE_ext (GE_ext hG off0.ext) hW).1) ?_ rfl ?_ ?_ ?_); (focus rfl); (focus kernel_rfl); (focus rfl); (try simp only [Act.put, mA, mB, mC]))
        refine wpX_load (by rfl) rfl rfl ((GE_ext hG off0.ext).2.2.1 hc) (by kernel_rfl) (by kernel_rfl) ?_
        (try simp only [Act.put, mA, mB, mC])
        refine wpX_load (by rfl) rfl rfl (blk_rd k_t6) (by kernel_rfl) (by kernel_rfl) ?_
        (try simp only [Act.put, mA, mB, mC])
        ((with_reducible refine wpX_fn (fun W hW => c_N4 W (GE_ext (GE_ext hG off0.ext) hW).1) ?_ rfl ?_ ?_ ?_); (focus rfl); (focus kernel_rfl); (focus rfl); (try simp only [Act.put, mA, mB, mC]))
        ((with_reducible refine wpX_fn (fun W hW => eOne_c W) ?_ rfl ?_ ?_ ?_); (focus rfl); (focus kernel_rfl); (focus rfl); (try simp only [Act.put, mA, mB, mC]))
        ((with_reducible refine wpX_fn (fun W hW => c_N5 W (GE_ext (GE_ext hG off0.ext) hW).1) ?_ rfl ?_ ?_ ?_); (focus rfl); (focus kernel_rfl); (focus rfl); (try simp only [Act.put, mA, mB, mC]))
        rw [H_hb.out] at c_r
        ((with_reducible refine wpX_fn (fun W hW => c_r W (GE_ext (GE_ext hG off0.ext) hW).1 ((GE_ext (GE_ext hG off0.ext) hW).2.1 hc)) ?_ rfl ?_ ?_ ?_); (focus rfl); (focus kernel_rfl); (focus rfl); (try simp only [Act.put, mA, mB, mC]))
        (refine wpX_val (v := ?_) (by rfl) (fun W hW => ?_) ?_; rotate_left 1; (focus (go_simp; first | done | with_reducible rfl)); (try simp only [Act.put, mA, mB, mC]))
        (refine wpX_val (v := ?_) (by rfl) (fun W hW => ?_) ?_; rotate_left 1; (focus (go_simp; first | done | with_reducible rfl)); (try simp only [Act.put, mA, mB, mC]))
        (refine wpX_val (v := ?_) (by rfl) (fun W hW => ?_) ?_; rotate_left 1; (focus (go_simp; first | done | with_reducible rfl)); (try simp only [Act.put, mA, mB, mC]))
        refine wpX_nil ?_
        intro β W11 hE hN hD
        obtain ⟨n_t7, h_t7⟩ := hN _ (List.mem_cons_self ..)
        clear hN hD
        simp only [putAll, Act.put, mA, mB, mC, List.drop_succ_cons, List.drop_zero, List.drop_nil, List.length_cons, List.length_nil, Nat.add_zero] at n_t7 h_t7 ⊢
        have hO := off_ext hE
        generalize β 12 = p7_11 at *
        have nq_t1_t7 : p1_1 ≠ p7_11 := Nat.ne_of_lt (Nat.lt_of_lt_of_le (blk_lt k_t1) n_t7)
        have nq_t2_t7 : p2_2 ≠ p7_11 := Nat.ne_of_lt (Nat.lt_of_lt_of_le (blk_lt k_t2) n_t7)
        have nq_t5_t7 : p5_4 ≠ p7_11 := Nat.ne_of_lt (Nat.lt_of_lt_of_le (blk_lt k_t5) n_t7)
        have nq_t6_t7 : p6_9 ≠ p7_11 := Nat.ne_of_lt (Nat.lt_of_lt_of_le (blk_lt k_t6) n_t7)
        have fb_t7 : Fb p7_11 w.heap.size [] := fb_new (Nat.le_trans sz n_t7)
        replace k_t1 := blk_off k_t1 hO nm0
        replace k_t2 := blk_off k_t2 hO nm0
        replace k_t5 := blk_off k_t5 hO nm0
        replace k_t6 := blk_off k_t6 hO nm0
        replace off0 := off0.step hO i0
        replace sz := off0.size
        clear hO hE β n_t7
        have k_t7 : Blk W11 p7_11 (c4 0) 26 := h_t7
        clear h_t7
        refine wpL_putrow (cells := c4 R) (by rfl) rfl rfl rfl k_t7 (by kernel_rfl) (by kernel_rfl) (by kernel_rfl) ?_
        (try simp only [Act.put, mA, mB, mC])
        intro W12 hO h_
        replace k_t7 : Blk W12 p7_11 (c4 R) 26 := h_
        clear h_
        replace k_t1 := blk_off k_t1 hO (nm1 nq_t1_t7)
        replace k_t2 := blk_off k_t2 hO (nm1 nq_t2_t7)
        replace k_t5 := blk_off k_t5 hO (nm1 nq_t5_t7)
        replace k_t6 := blk_off k_t6 hO (nm1 nq_t6_t7)
        replace off0 := off0.step hO (i1 fb_t7)
        replace sz := off0.size
        clear hO
        refine wpL_val (v := .bool true) (by rfl) (by first | rfl | (go_simp; done) | (go_simp; with_reducible rfl) | (go_simp; omega)) ?_
        (try simp only [Act.put, mA, mB, mC])
        refine wpL_nil ?_
        first | with_reducible refine NoPanic.normal (Q := Exit.then _ _) ?_ | with_reducible refine NoPanic.normal ?_
        go_upto_region 8 with fail
        refine wp_region_lit ?_
        refine wpL_val (v := .bool true) (by rfl) (by first | rfl | (go_simp; done) | (go_simp; with_reducible rfl) | (go_simp; omega)) ?_
        (try simp only [Act.put, mA, mB, mC])
        refine wpL_val (v := .bool false) (by rfl) (by first | rfl | (go_simp; done) | (go_simp; with_reducible rfl) | (go_simp; omega)) ?_
        (try simp only [Act.put, mA, mB, mC])
        refine wpL_val (v := .bool false) (by rfl) (by first | rfl | (go_simp; done) | (go_simp; with_reducible rfl) | (go_simp; omega)) ?_
        (try simp only [Act.put, mA, mB, mC])
        refine wpL_val (v := .bool false) (by rfl) (by first | rfl | (go_simp; done) | (go_simp; with_reducible rfl) | (go_simp; omega)) ?_
        (try simp only [Act.put, mA, mB, mC])
        refine wpL_val (v := .bool false) (by rfl) (by first | rfl | (go_simp; done) | (go_simp; with_reducible rfl) | (go_simp; omega)) ?_
        (try simp only [Act.put, mA, mB, mC])
        refine wpL_skip (by rfl) ?_
        (try simp only [Act.put, mA, mB, mC])
        refine wpL_skip (by rfl) ?_
        (try simp only [Act.put, mA, mB, mC])
        refine wpL_skip (by rfl) ?_
        (try simp only [Act.put, mA, mB, mC])
        refine wpL_val (v := .bool false) (by rfl) (by first | rfl | (go_simp; done) | (go_simp; with_reducible rfl) | (go_simp; omega)) ?_
        (try simp only [Act.put, mA, mB, mC])
        refine wpL_val (v := .bool false) (by rfl) (by first | rfl | (go_simp; done) | (go_simp; with_reducible rfl) | (go_simp; omega)) ?_
        (try simp only [Act.put, mA, mB, mC])
        refine wpL_nil ?_
        by_cases ho : R % 2 = 1
        · have _f := ho
          have H_ho := Lib.hid ho
          clear _f ho
          go_upto_region 10 with fail
          refine wp_region_lit ?_
          refine wpL_load0 (by rfl) rfl rfl k_t7 (by kernel_rfl) (by kernel_rfl) ?_
          (try simp only [Act.put, mA, mB, mC])
          rw [decide_eq_true H_ho.out] at cd6
          refine wpL_ret (cd6 W12 (GE_ext hG off0.ext).1) (by rfl) rfl (by kernel_rfl) rfl ?_
          (try simp only [Act.put, mA, mB, mC])
          intro W13 hO
          replace k_t1 := blk_off k_t1 hO nm0
          replace k_t2 := blk_off k_t2 hO nm0
          replace k_t5 := blk_off k_t5 hO nm0
          replace k_t6 := blk_off k_t6 hO nm0
          replace k_t7 := blk_off k_t7 hO nm0
          replace off0 := off0.step hO i0
          replace sz := off0.size
          clear hO
          refine wpL_val (v := .bool false) (by rfl) (by first | rfl | (go_simp; done) | (go_simp; with_reducible rfl) | (go_simp; omega)) ?_
          (try simp only [Act.put, mA, mB, mC])
          refine wpL_val (v := .bool true) (by rfl) (by first | rfl | (go_simp; done)) ?_
          (try simp only [Act.put, mA, mB, mC])
          refine wpL_nil ?_
          go_upto_region 11 with fail
          refine wp_region_lit ?_
          refine wpL_load0 (by rfl) rfl rfl k_t7 (by kernel_rfl) (by kernel_rfl) ?_
          (try simp only [Act.put, mA, mB, mC])
          refine wpL_ret (c_N7 W13 (GE_ext hG off0.ext).1) (by rfl) rfl (by kernel_rfl) rfl ?_
          (try simp only [Act.put, mA, mB, mC])
          intro W14 hO
          replace k_t1 := blk_off k_t1 hO nm0
          replace k_t2 := blk_off k_t2 hO nm0
          replace k_t5 := blk_off k_t5 hO nm0
          replace k_t6 := blk_off k_t6 hO nm0
          replace k_t7 := blk_off k_t7 hO nm0
          replace off0 := off0.step hO i0
          replace sz := off0.size
          clear hO
          refine wpL_putrow (cells := c4 N7) (by rfl) rfl rfl rfl k_t7 (by kernel_rfl) (by kernel_rfl) (by kernel_rfl) ?_
          (try simp only [Act.put, mA, mB, mC])
          intro W15 hO h_
          replace k_t7 : Blk W15 p7_11 (c4 N7) 26 := h_
          clear h_
          replace k_t1 := blk_off k_t1 hO (nm1 nq_t1_t7)
          replace k_t2 := blk_off k_t2 hO (nm1 nq_t2_t7)
          replace k_t5 := blk_off k_t5 hO (nm1 nq_t5_t7)
          replace k_t6 := blk_off k_t6 hO (nm1 nq_t6_t7)
          replace off0 := off0.step hO (i1 fb_t7)
          replace sz := off0.size
          clear hO
          refine wpL_nil ?_
          have hxf : N7 = X0 := hX0.out.trans (by unfold dXf xodd; rw [← hRx.out, Nat.mod_eq_of_lt lR, decide_eq_true H_ho.out, Bool.eq_false_iff.2 ht, HN7.out, Nat.mod_eq_of_lt lR]; exact if_neg (by decide)) |>.symm
          rw [hxf] at k_t7
          clear hxf
          go_upto_region 12 with fail
          refine wp_region_lit ?_
          refine wpL_load0 (by rfl) rfl rfl k_t7 (by kernel_rfl) (by kernel_rfl) ?_
          (try simp only [Act.put, mA, mB, mC])
          refine wpL_load0 (by rfl) rfl rfl k_t5 (by kernel_rfl) (by kernel_rfl) ?_
          (try simp only [Act.put, mA, mB, mC])
          refine wpL_ret (c_f W15 (GE_ext hG off0.ext)) (by rfl) rfl (by kernel_rfl) rfl ?_
          (try simp only [Act.put, mA, mB, mC])
          intro W16 hO
          replace k_t1 := blk_off k_t1 hO nm0
          replace k_t2 := blk_off k_t2 hO nm0
          replace k_t5 := blk_off k_t5 hO nm0
          replace k_t6 := blk_off k_t6 hO nm0
          replace k_t7 := blk_off k_t7 hO nm0
          replace off0 := off0.step hO i0
          replace sz := off0.size
          clear hO
          refine wpL_putrow (cells := p4 X0 Y 1 T) (by rfl) rfl rfl rfl k_t2 (by kernel_rfl) (by kernel_rfl) (by kernel_rfl) ?_
          (try simp only [Act.put, mA, mB, mC])
          intro W17 hO h_
          replace k_t2 : Blk W17 p2_2 (p4 X0 Y 1 T) 28 := h_
          clear h_
          replace k_t1 := blk_off k_t1 hO (nm1 nq_t1_t2)
          replace k_t5 := blk_off k_t5 hO (nm1 nq_t2_t5.symm)
          replace k_t6 := blk_off k_t6 hO (nm1 nq_t2_t6.symm)
          replace k_t7 := blk_off k_t7 hO (nm1 nq_t2_t7.symm)
          replace off0 := off0.step hO (i1 fb_t2)
          replace sz := off0.size
          clear hO
          refine wpL_val (v := .int .i64 0) (by rfl) (by first | rfl | (go_simp; done) | (go_simp; with_reducible rfl) | (go_simp; omega)) ?_
          (try simp only [Act.put, mA, mB, mC])
          refine wpL_nil ?_
          go_wp2
          exact bodyPost_ret (res_row2 rfl rfl rfl k_t2 (by kernel_rfl) (by kernel_rfl)) rfl ⟨rfl, off0.ext⟩
        · have _f := ho
          have H_ho := Lib.hid ho
          clear _f ho
          go_upto_region 10 with fail
          refine wp_region_lit ?_
          refine wpL_load0 (by rfl) rfl rfl k_t7 (by kernel_rfl) (by kernel_rfl) ?_
          (try simp only [Act.put, mA, mB, mC])
          rw [decide_eq_false H_ho.out] at cd6
          refine wpL_ret (cd6 W12 (GE_ext hG off0.ext).1) (by rfl) rfl (by kernel_rfl) rfl ?_
          (try simp only [Act.put, mA, mB, mC])
          intro W13 hO
          replace k_t1 := blk_off k_t1 hO nm0
          replace k_t2 := blk_off k_t2 hO nm0
          replace k_t5 := blk_off k_t5 hO nm0
          replace k_t6 := blk_off k_t6 hO nm0
          replace k_t7 := blk_off k_t7 hO nm0
          replace off0 := off0.step hO i0
          replace sz := off0.size
          clear hO
          refine wpL_val (v := .bool false) (by rfl) (by first | rfl | (go_simp; done) | (go_simp; with_reducible rfl) | (go_simp; omega)) ?_
          (try simp only [Act.put, mA, mB, mC])
          refine wpL_val (v := .bool false) (by rfl) (by first | rfl | (go_simp; done)) ?_
          (try simp only [Act.put, mA, mB, mC])
          refine wpL_nil ?_
          have hxf : R = X0 := hX0.out.trans (by unfold dXf xodd; rw [← hRx.out, Nat.mod_eq_of_lt lR, decide_eq_false H_ho.out, Bool.eq_false_iff.2 ht]; exact if_pos rfl) |>.symm
          rw [hxf] at k_t7
          clear hxf
          go_upto_region 12 with fail
          refine wp_region_lit ?_
          refine wpL_load0 (by rfl) rfl rfl k_t7 (by kernel_rfl) (by kernel_rfl) ?_
          (try simp only [Act.put, mA, mB, mC])
          refine wpL_load0 (by rfl) rfl rfl k_t5 (by kernel_rfl) (by kernel_rfl) ?_
          (try simp only [Act.put, mA, mB, mC])
          refine wpL_ret (c_f W13 (GE_ext hG off0.ext)) (by rfl) rfl (by kernel_rfl) rfl ?_
          (try simp only [Act.put, mA, mB, mC])
          intro W14 hO
          replace k_t1 := blk_off k_t1 hO nm0
          replace k_t2 := blk_off k_t2 hO nm0
          replace k_t5 := blk_off k_t5 hO nm0
          replace k_t6 := blk_off k_t6 hO nm0
          replace k_t7 := blk_off k_t7 hO nm0
          replace off0 := off0.step hO i0
          replace sz := off0.size
          clear hO
          refine wpL_putrow (cells := p4 X0 Y 1 T) (by rfl) rfl rfl rfl k_t2 (by kernel_rfl) (by kernel_rfl) (by kernel_rfl) ?_
          (try simp only [Act.put, mA, mB, mC])
          intro W15 hO h_
          replace k_t2 : Blk W15 p2_2 (p4 X0 Y 1 T) 28 := h_
          clear h_
          replace k_t1 := blk_off k_t1 hO (nm1 nq_t1_t2)
          replace k_t5 := blk_off k_t5 hO (nm1 nq_t2_t5.symm)
          replace k_t6 := blk_off k_t6 hO (nm1 nq_t2_t6.symm)
          replace k_t7 := blk_off k_t7 hO (nm1 nq_t2_t7.symm)
          replace off0 := off0.step hO (i1 fb_t2)
          replace sz := off0.size
          clear hO
          refine wpL_val (v := .int .i64 0) (by rfl) (by first | rfl | (go_simp; done) | (go_simp; with_reducible rfl) | (go_simp; omega)) ?_
          (try simp only [Act.put, mA, mB, mC])
          refine wpL_nil ?_
          go_wp2
          exact bodyPost_ret (res_row2 rfl rfl rfl k_t2 (by kernel_rfl) (by kernel_rfl)) rfl ⟨rfl, off0.ext⟩
      · have _f := hb
        exact absurd (by rw [hBx.out, H_hy.out]; exact dOk_b hok) hb
    · have _f := hy
      exact absurd (HY.out.trans (Nat.mod_eq_of_lt (dOk_y hok))) hy
end Go.Proofs.YtghajiagbfcmdaaDoor
