/- edwards.Decode. Conditions: the cells of the variables hold the curve's numbers. -/
import Derived.Test.YtejkmhgkkibafaaGreatDoorGc
import Derived.Test.YtejkmhgkkibafaaGreatDoorJ8
import Derived.Test.YtejkmhgkkibafaaGreatDoorOz
import Derived.Test.YtejkmhgkkibafaaGreatDoorJ11
import Derived.Test.YtejkmhgkkibafaaGreatDoorJ23
set_option linter.unusedSimpArgs false
set_option linter.unusedVariables false
namespace Go.Proofs.YtejkmhgkkibafaaGreatDoor.S8
set_option maxHeartbeats 1500000
set_option maxRecDepth 100000
open Go.RowKit
attribute [local irreducible] wpList
variable {kn : Kn}
theorem dOk_y {V : Nat} (h : dOk V = true) : V % 2 ^ 255 < PP := by
  unfold dOk at h; simp only [Bool.and_eq_true, decide_eq_true_eq] at h; exact h.1.1
theorem dOk_b {V : Nat} (h : dOk V = true) : dB (V % 2 ^ 255) = true := by
  unfold dOk at h; simp only [Bool.and_eq_true] at h; exact h.1.2
theorem dOk_0 {V : Nat} (h : dOk V = true) (ht : top V = true) : ¬ dX (V % 2 ^ 255) = 0 := by
  unfold dOk at h; intro h0
  simp [ht, h0] at h
theorem dOk_all {V : Nat} (h1 : V % 2 ^ 255 < PP) (h2 : dB (V % 2 ^ 255) = true) (h3 : ¬ (top V = true ∧ dX (V % 2 ^ 255) = 0)) : dOk V = true := by
  unfold dOk
  rw [decide_eq_true h1, h2]
  cases ht : top V
  · rfl
  · have : ¬ dX (V % 2 ^ 255) = 0 := fun h0 => h3 ⟨ht, h0⟩
    simp [this]
theorem mod_255' (V : Nat) : V % 2 ^ 255 < 2 ^ 256 := Nat.lt_trans (Nat.mod_lt _ (by decide)) (by decide)

theorem dXf_lt (y : Nat) (o : Bool) : dXf y o < PP := by
  unfold dXf
  split
  · exact dX_ltP y
  · exact mod_pp _
theorem eDec_0 (hc : kn.c) {V : Nat} (hV : V < 2 ^ 256) (hok : dOk V = false) :
  ∀ w, GE kn w → Calls Tryz.prog 106 #[.agg (arrK .u8 32 (byt V))] w fun e w' => Ret (.tuple #[.agg (p4 0 0 0 0), .int .i64 15]) w w' e := by
 have c_o := fOf_c (byt V) (byt_ok V)
 rw [bval_byt, show 8 * 32 = 256 by decide, Nat.mod_eq_of_lt hV] at c_o
 obtain ⟨Y, hY⟩ := exn (V % 2 ^ 255 % PP)
 rw [← hY] at c_o
 have lY := bpp hY
 have HY := Lib.hid hY
 clear hY
 have cb1 := fBytes_c Y (lt_pp lY)
 rw [Nat.mod_eq_of_lt lY] at cb1
 have e_b := eqB32 Y (V % 2 ^ 255) (lt_256p lY) (mod_255' V)
 have c_N2 := fMul_c Y Y (lt_pp lY) (lt_pp lY)
 obtain ⟨N2, hN2⟩ := exn (Y * Y % PP)
 rw [← hN2] at c_N2
 have lN2 := bpp hN2
 have bN2 := lt_pp lN2
 have HN2 := Lib.hid hN2
 clear hN2
 have c_N3 := fSub_c N2 1 bN2 (by decide)
 obtain ⟨N3, hN3⟩ := exn ((N2 + (PP - 1 % PP)) % PP)
 rw [← hN3] at c_N3
 have lN3 := bpp hN3
 have bN3 := lt_pp lN3
 have HN3 := Lib.hid hN3
 clear hN3
 have c_N4 := fMul_c DD N2 DD_lt bN2
 obtain ⟨N4, hN4⟩ := exn (DD * N2 % PP)
 rw [← hN4] at c_N4
 have lN4 := bpp hN4
 have bN4 := lt_pp lN4
 have HN4 := Lib.hid hN4
 clear hN4
 have c_N5 := fAdd_c N4 1 bN4 (by decide)
 obtain ⟨N5, hN5⟩ := exn ((N4 + 1) % PP)
 rw [← hN5] at c_N5
 have lN5 := bpp hN5
 have bN5 := lt_pp lN5
 have HN5 := Lib.hid hN5
 clear hN5
 have c_r := fRoot_c N3 N5 bN3 bN5
 obtain ⟨R, hR⟩ := exn (rtR N3 N5)
 rw [← hR] at c_r
 have lR : R < PP := by rw [hR]; exact rtR_ltP _ _
 have HR := Lib.hid hR
 clear hR
 obtain ⟨B, hB⟩ := exn (rtB N3 N5)
 rw [← hB] at c_r
 have HB := Lib.hid hB
 clear hB
 have cs6 := fSame_c R 0 (lt_pp lR) (by decide)
 rw [Nat.mod_eq_of_lt lR, Nat.mod_eq_of_lt (by decide)] at cs6
 intro w hG
 have off0 : Off [] w w := Off.refl _ _
 go_enter Tryz.func106, Tryz.ntmps106
 go_upto_region 0 with fail
 refine wp_region_lit ?_
 refine Ln ?_ (z := arrK .u8 32 (byt V)) (t := 23)
 intro p1_1 W1 n_t1 hO h_
 have fb_t1 := fbn off0 n_t1
 replace off0 := off0.o hO
 have k_t1 := h_
 clear hO h_ n_t1
 refine Ln ?_ (z := p4 0 0 0 0) (t := 157)
 intro p2_2 W2 n_t2 hO h_
 have nq_t1_t2 := bn k_t1 n_t2
 have fb_t2 := fbn off0 n_t2
 replace k_t1 := k_t1.o hO
 replace off0 := off0.o hO
 have k_t2 := h_
 clear hO h_ n_t2
 refine Lw ?_ (v := .int .i64 0)
 refine wpL_nil ?_
 by_cases ht : top V = true
 ·
  have _f := ht
  go_upto_region 1 with fail
  refine wp_region_lit ?_
  refine Lw ?_ (v := .pointer (some ⟨p1_1, 0 + 31, none⟩)) (hv := run_ixarr (m := 32) (by decide) (by decide) Tryz.underlying23 (by kernel_rfl) rfl rfl rfl)
  refine Lg ?_ k_t1 (v := .int .u8 ((byt V) 31)) (hj := by rw [Nat.zero_add]; exact arrK_get _ _ _ _ (by decide))
  refine Lw ?_ (v := .int .u8 128) (hv := by exact run_andU (and_hi1 hV ht) rfl rfl rfl)
  refine Lw ?_ (v := .bool true)
  refine Lw ?_ (v := .bool true)
  refine wpL_nil ?_
  go_upto_region 2 with fail
  refine wp_region_lit ?_
  refine L0A ?_ k_t1
  refine Lr ?_ (c_o W2 (GE_ext hG off0.ext).1)
  intro W3 hO
  replace k_t1 := k_t1.o hO
  replace k_t2 := k_t2.o hO
  replace off0 := off0.o hO
  clear hO
  refine LnP ?_ (z := c4 0) (t := 155) (cells := c4 Y)
  intro p5_4 W5 n_t5 hO h_
  have nq_t1_t5 := bn k_t1 n_t5
  have nq_t2_t5 := bn k_t2 n_t5
  replace k_t1 := k_t1.o hO
  replace k_t2 := k_t2.o hO
  replace off0 := off0.o hO
  have k_t5 := h_
  clear hO h_ n_t5
  refine wpL_nil ?_
  go_upto_region 3 with fail
  refine wp_region_lit ?_
  refine Lw ?_ (v := .pointer (some ⟨p1_1, 0 + 31, none⟩)) (hv := run_ixarr (m := 32) (by decide) (by decide) Tryz.underlying23 (by kernel_rfl) rfl rfl rfl)
  refine Lg ?_ k_t1 (v := .int .u8 ((byt V) 31)) (hj := by rw [Nat.zero_add]; exact arrK_get _ _ _ _ (by decide))
  refine Lw ?_ (v := .int .u8 (bits .andNot .u8 (byt V 31) 128)) (hv := by exact run_andnU rfl rfl rfl rfl)
  refine Lw ?_ (v := .pointer (some ⟨p1_1, 0 + 31, none⟩)) (hv := run_ixarr (m := 32) (by decide) (by decide) Tryz.underlying23 (by kernel_rfl) rfl rfl rfl)
  refine wpL_put1 (v := .int .u8 (bits .andNot .u8 (byt V 31) 128)) ⟨rfl, rfl⟩ (by rfl) rfl rfl rfl k_t1 (by rw [arrK_size, Nat.zero_add]; decide) (by kernel_rfl) ?_
  (try simp only [Act.put, mA, mB, mC])
  intro W6 hO h_
  rw [Nat.zero_add, arrK_set] at h_
  replace k_t1 : Blk W6 p1_1 (arrK .u8 32 (upd (byt V) 31 (bits .andNot .u8 (byt V 31) 128))) 23 := h_
  clear h_
  replace k_t2 := k_t2.p hO nq_t1_t2.symm
  replace k_t5 := k_t5.p hO nq_t1_t5.symm
  replace off0 := off0.p hO fb_t1
  clear hO
  rw [clr31 (clr_bit hV)] at k_t1
  refine wpL_nil ?_
  by_cases hy : Y = V % 2 ^ 255
  ·
   have _f := hy
   have H_hy := Lib.hid hy
   clear _f hy
   go_upto_region 4 with fail
   refine Rx 4 ?_
   refine Xl ?_ k_t5
   refine Xf ?_ (fun W hW => cb1 W (GE_ext (GE_ext hG off0.ext) hW).1)
   refine XlA ?_ k_t1
   rw [decide_eq_true H_hy.out] at e_b
   refine wpX_neqA (e_b) (by kernel_rfl) (by rfl) rfl rfl rfl ?_
   (try simp only [Act.put, mA, mB, mC])
   refine wpX_nil fun W7 hE => ?_
   have hO := off_ext hE
   replace k_t1 := k_t1.o hO
   replace k_t2 := k_t2.o hO
   replace k_t5 := k_t5.o hO
   replace off0 := off0.o hO
   clear hO hE
   refine LN ?_
   go_upto_region 6 with fail
   refine wp_region_lit ?_
   refine L0 ?_ k_t5
   refine L0 ?_ k_t5
   refine Lr ?_ (c_N2 W7 (GE_ext hG off0.ext).1)
   intro W8 hO
   replace k_t1 := k_t1.o hO
   replace k_t2 := k_t2.o hO
   replace k_t5 := k_t5.o hO
   replace off0 := off0.o hO
   clear hO
   refine LnP ?_ (z := c4 0) (t := 155) (cells := c4 N2)
   intro p6_9 W10 n_t6 hO h_
   have nq_t2_t6 := bn k_t2 n_t6
   replace k_t1 := k_t1.o hO
   replace k_t2 := k_t2.o hO
   replace k_t5 := k_t5.o hO
   replace off0 := off0.o hO
   have k_t6 := h_
   clear hO h_ n_t6
   refine wpL_nil ?_
   have qRx : R = dX Y := by unfold dX dU dV; rw [HR.out, HN3.out, HN5.out, HN4.out, HN2.out]
   have qBx : B = dB Y := by unfold dB dU dV; rw [HB.out, HN3.out, HN5.out, HN4.out, HN2.out]
   have hRx := Lib.hid qRx
   have hBx := Lib.hid qBx
   clear qRx qBx
   by_cases hb : B = true
   ·
    have _f := hb
    have H_hb := Lib.hid hb
    clear _f hb
    go_upto_region 7 with fail
    refine Rx1 12 7 (z := c4 0) (t := 155) ?_
    refine Xl ?_ k_t6
    refine Xf ?_ (fun W hW => eOne_c W)
    refine Xf ?_ (fun W hW => c_N3 W (GE_ext (GE_ext hG off0.ext) hW).1)
    refine XR ?_ ((GE_ext hG off0.ext).2.2.1 hc)
    refine Xl ?_ k_t6
    refine Xf ?_ (fun W hW => c_N4 W (GE_ext (GE_ext hG off0.ext) hW).1)
    refine Xf ?_ (fun W hW => eOne_c W)
    refine Xf ?_ (fun W hW => c_N5 W (GE_ext (GE_ext hG off0.ext) hW).1)
    rw [H_hb.out] at c_r
    refine Xf ?_ (fun W hW => c_r W (GE_ext (GE_ext hG off0.ext) hW).1 ((GE_ext (GE_ext hG off0.ext) hW).2.1 hc))
    refine Xv ?_
    refine Xv ?_
    refine Xv ?_
    refine XN ?_
    intro p7_11 W11 n_t7 hE h_t7
    have hO := off_ext hE
    have nq_t1_t7 := bn k_t1 n_t7
    have nq_t2_t7 := bn k_t2 n_t7
    have nq_t5_t7 := bn k_t5 n_t7
    have nq_t6_t7 := bn k_t6 n_t7
    have fb_t7 := fbn off0 n_t7
    replace k_t1 := k_t1.o hO
    replace k_t2 := k_t2.o hO
    replace k_t5 := k_t5.o hO
    replace k_t6 := k_t6.o hO
    replace off0 := off0.o hO
    clear hO hE n_t7
    have k_t7 : Blk W11 p7_11 (c4 0) 155 := h_t7
    clear h_t7
    refine Lp ?_ k_t7 (cells := c4 R)
    intro W12 hO h_
    replace k_t7 : Blk W12 p7_11 (c4 R) 155 := h_
    clear h_
    replace k_t1 := k_t1.p hO nq_t1_t7
    replace k_t2 := k_t2.p hO nq_t2_t7
    replace k_t5 := k_t5.p hO nq_t5_t7
    replace k_t6 := k_t6.p hO nq_t6_t7
    replace off0 := off0.p hO fb_t7
    clear hO
    refine Lw ?_ (v := .bool true)
    refine LN ?_
    by_cases h0 : R = 0
    ·
     have _f := h0
     have H_h0 := Lib.hid h0
     clear _f h0
     go_upto_region 8 with fail
     refine wp_region_lit ?_
     refine Lw ?_ (v := .bool true)
     refine Lw ?_ (v := .bool false)
     refine Lw ?_ (v := .bool false)
     refine Lw ?_ (v := .bool true)
     refine Lw ?_ (v := .bool true)
     refine L0 ?_ k_t7
     refine Lw ?_ (v := .agg (c4 0)) (hv := by kernel_rfl)
     rw [decide_eq_true H_h0.out] at cs6
     refine Lr ?_ (cs6 W12 (GE_ext hG off0.ext).1)
     intro W13 hO
     replace k_t1 := k_t1.o hO
     replace k_t2 := k_t2.o hO
     replace k_t5 := k_t5.o hO
     replace k_t6 := k_t6.o hO
     replace k_t7 := k_t7.o hO
     replace off0 := off0.o hO
     clear hO
     refine Lw ?_ (v := .bool true)
     refine Lw ?_ (v := .bool true)
     refine wpL_nil ?_
     go_upto_region 9 with fail
     refine wp_region_lit ?_
     refine Lw ?_ (v := .agg (p4 0 0 0 0)) (hv := by kernel_rfl)
     refine Lp ?_ k_t2 (cells := p4 0 0 0 0)
     intro W14 hO h_
     replace k_t2 : Blk W14 p2_2 (p4 0 0 0 0) 157 := h_
     clear h_
     replace k_t1 := k_t1.p hO nq_t1_t2
     replace k_t5 := k_t5.p hO nq_t2_t5.symm
     replace k_t6 := k_t6.p hO nq_t2_t6.symm
     replace k_t7 := k_t7.p hO nq_t2_t7.symm
     replace off0 := off0.p hO fb_t2
     clear hO
     refine Lw ?_ (v := .int .i64 15)
     refine wpL_nil ?_
     go_wp2
     exact bodyPost_ret (res_row2 rfl rfl rfl k_t2 (by kernel_rfl) (by kernel_rfl)) rfl ⟨rfl, off0.ext⟩
    ·
     have _f := h0
     have H_h0 := Lib.hid h0
     clear _f h0
     go_upto_region 8 with fail
     refine wp_region_lit ?_
     refine Lw ?_ (v := .bool true)
     refine Lw ?_ (v := .bool false)
     refine Lw ?_ (v := .bool false)
     refine Lw ?_ (v := .bool true)
     refine Lw ?_ (v := .bool true)
     refine L0 ?_ k_t7
     refine Lw ?_ (v := .agg (c4 0)) (hv := by kernel_rfl)
     rw [decide_eq_false H_h0.out] at cs6
     refine Lr ?_ (cs6 W12 (GE_ext hG off0.ext).1)
     intro W13 hO
     replace k_t1 := k_t1.o hO
     replace k_t2 := k_t2.o hO
     replace k_t5 := k_t5.o hO
     replace k_t6 := k_t6.o hO
     replace k_t7 := k_t7.o hO
     replace off0 := off0.o hO
     clear hO
     refine Lw ?_ (v := .bool false)
     refine Lw ?_ (v := .bool false)
     refine wpL_nil ?_
     exact absurd (dOk_all (H_hy.out ▸ lY) (by rw [← H_hy.out, ← hBx.out]; exact H_hb.out) (fun h => H_h0.out (by rw [hRx.out, H_hy.out]; exact h.2))) (by rw [hok]; decide)
   ·
    have _f := hb
    rw [Bool.not_eq_true] at hb _f
    have H_hb := Lib.hid hb
    clear _f hb
    go_upto_region 7 with fail
    refine Rx1 12 7 (z := c4 0) (t := 155) ?_
    refine Xl ?_ k_t6
    refine Xf ?_ (fun W hW => eOne_c W)
    refine Xf ?_ (fun W hW => c_N3 W (GE_ext (GE_ext hG off0.ext) hW).1)
    refine XR ?_ ((GE_ext hG off0.ext).2.2.1 hc)
    refine Xl ?_ k_t6
    refine Xf ?_ (fun W hW => c_N4 W (GE_ext (GE_ext hG off0.ext) hW).1)
    refine Xf ?_ (fun W hW => eOne_c W)
    refine Xf ?_ (fun W hW => c_N5 W (GE_ext (GE_ext hG off0.ext) hW).1)
    rw [H_hb.out] at c_r
    refine Xf ?_ (fun W hW => c_r W (GE_ext (GE_ext hG off0.ext) hW).1 ((GE_ext (GE_ext hG off0.ext) hW).2.1 hc))
    refine Xv ?_
    refine Xv ?_
    refine Xv ?_
    refine XN ?_
    intro p7_11 W11 n_t7 hE h_t7
    have hO := off_ext hE
    have nq_t1_t7 := bn k_t1 n_t7
    have nq_t2_t7 := bn k_t2 n_t7
    have nq_t5_t7 := bn k_t5 n_t7
    have nq_t6_t7 := bn k_t6 n_t7
    have fb_t7 := fbn off0 n_t7
    replace k_t1 := k_t1.o hO
    replace k_t2 := k_t2.o hO
    replace k_t5 := k_t5.o hO
    replace k_t6 := k_t6.o hO
    replace off0 := off0.o hO
    clear hO hE n_t7
    have k_t7 : Blk W11 p7_11 (c4 0) 155 := h_t7
    clear h_t7
    refine Lp ?_ k_t7 (cells := c4 R)
    intro W12 hO h_
    replace k_t7 : Blk W12 p7_11 (c4 R) 155 := h_
    clear h_
    replace k_t1 := k_t1.p hO nq_t1_t7
    replace k_t2 := k_t2.p hO nq_t2_t7
    replace k_t5 := k_t5.p hO nq_t5_t7
    replace k_t6 := k_t6.p hO nq_t6_t7
    replace off0 := off0.p hO fb_t7
    clear hO
    refine Lw ?_ (v := .bool false)
    refine LN ?_
    go_upto_region 8 with fail
    refine wp_region_lit ?_
    refine Lw ?_ (v := .bool false)
    refine Lw ?_ (v := .bool true)
    refine Lw ?_ (v := .bool true)
    refine Ls ?_
    refine Ls ?_
    refine Ls ?_
    refine Ls ?_
    refine Ls ?_
    refine Ls ?_
    refine Lw ?_ (v := .bool true)
    refine wpL_nil ?_
    go_upto_region 9 with fail
    refine wp_region_lit ?_
    refine Lw ?_ (v := .agg (p4 0 0 0 0)) (hv := by kernel_rfl)
    refine Lp ?_ k_t2 (cells := p4 0 0 0 0)
    intro W13 hO h_
    replace k_t2 : Blk W13 p2_2 (p4 0 0 0 0) 157 := h_
    clear h_
    replace k_t1 := k_t1.p hO nq_t1_t2
    replace k_t5 := k_t5.p hO nq_t2_t5.symm
    replace k_t6 := k_t6.p hO nq_t2_t6.symm
    replace k_t7 := k_t7.p hO nq_t2_t7.symm
    replace off0 := off0.p hO fb_t2
    clear hO
    refine Lw ?_ (v := .int .i64 15)
    refine wpL_nil ?_
    go_wp2
    exact bodyPost_ret (res_row2 rfl rfl rfl k_t2 (by kernel_rfl) (by kernel_rfl)) rfl ⟨rfl, off0.ext⟩
  ·
   have _f := hy
   have H_hy := Lib.hid hy
   clear _f hy
   go_upto_region 4 with fail
   refine Rx 4 ?_
   refine Xl ?_ k_t5
   refine Xf ?_ (fun W hW => cb1 W (GE_ext (GE_ext hG off0.ext) hW).1)
   refine XlA ?_ k_t1
   rw [decide_eq_false H_hy.out] at e_b
   refine wpX_neqA (e_b) (by kernel_rfl) (by rfl) rfl rfl rfl ?_
   (try simp only [Act.put, mA, mB, mC])
   refine wpX_nil fun W7 hE => ?_
   have hO := off_ext hE
   replace k_t1 := k_t1.o hO
   replace k_t2 := k_t2.o hO
   replace k_t5 := k_t5.o hO
   replace off0 := off0.o hO
   clear hO hE
   refine LN ?_
   go_upto_region 5 with fail
   refine wp_region_lit ?_
   refine Lw ?_ (v := .agg (p4 0 0 0 0)) (hv := by kernel_rfl)
   refine Lp ?_ k_t2 (cells := p4 0 0 0 0)
   intro W8 hO h_
   replace k_t2 : Blk W8 p2_2 (p4 0 0 0 0) 157 := h_
   clear h_
   replace k_t1 := k_t1.p hO nq_t1_t2
   replace k_t5 := k_t5.p hO nq_t2_t5.symm
   replace off0 := off0.p hO fb_t2
   clear hO
   refine Lw ?_ (v := .int .i64 15)
   refine wpL_nil ?_
   go_wp2
   exact bodyPost_ret (res_row2 rfl rfl rfl k_t2 (by kernel_rfl) (by kernel_rfl)) rfl ⟨rfl, off0.ext⟩
 ·
  have _f := ht
  go_upto_region 1 with fail
  refine wp_region_lit ?_
  refine Lw ?_ (v := .pointer (some ⟨p1_1, 0 + 31, none⟩)) (hv := run_ixarr (m := 32) (by decide) (by decide) Tryz.underlying23 (by kernel_rfl) rfl rfl rfl)
  refine Lg ?_ k_t1 (v := .int .u8 ((byt V) 31)) (hj := by rw [Nat.zero_add]; exact arrK_get _ _ _ _ (by decide))
  refine Lw ?_ (v := .int .u8 0) (hv := by exact run_andU (and_hi0 hV ht) rfl rfl rfl)
  refine Lw ?_ (v := .bool false)
  refine Lw ?_ (v := .bool false)
  refine wpL_nil ?_
  go_upto_region 2 with fail
  refine wp_region_lit ?_
  refine L0A ?_ k_t1
  refine Lr ?_ (c_o W2 (GE_ext hG off0.ext).1)
  intro W3 hO
  replace k_t1 := k_t1.o hO
  replace k_t2 := k_t2.o hO
  replace off0 := off0.o hO
  clear hO
  refine LnP ?_ (z := c4 0) (t := 155) (cells := c4 Y)
  intro p5_4 W5 n_t5 hO h_
  have nq_t1_t5 := bn k_t1 n_t5
  have nq_t2_t5 := bn k_t2 n_t5
  replace k_t1 := k_t1.o hO
  replace k_t2 := k_t2.o hO
  replace off0 := off0.o hO
  have k_t5 := h_
  clear hO h_ n_t5
  refine wpL_nil ?_
  go_upto_region 3 with fail
  refine wp_region_lit ?_
  refine Lw ?_ (v := .pointer (some ⟨p1_1, 0 + 31, none⟩)) (hv := run_ixarr (m := 32) (by decide) (by decide) Tryz.underlying23 (by kernel_rfl) rfl rfl rfl)
  refine Lg ?_ k_t1 (v := .int .u8 ((byt V) 31)) (hj := by rw [Nat.zero_add]; exact arrK_get _ _ _ _ (by decide))
  refine Lw ?_ (v := .int .u8 (bits .andNot .u8 (byt V 31) 128)) (hv := by exact run_andnU rfl rfl rfl rfl)
  refine Lw ?_ (v := .pointer (some ⟨p1_1, 0 + 31, none⟩)) (hv := run_ixarr (m := 32) (by decide) (by decide) Tryz.underlying23 (by kernel_rfl) rfl rfl rfl)
  refine wpL_put1 (v := .int .u8 (bits .andNot .u8 (byt V 31) 128)) ⟨rfl, rfl⟩ (by rfl) rfl rfl rfl k_t1 (by rw [arrK_size, Nat.zero_add]; decide) (by kernel_rfl) ?_
  (try simp only [Act.put, mA, mB, mC])
  intro W6 hO h_
  rw [Nat.zero_add, arrK_set] at h_
  replace k_t1 : Blk W6 p1_1 (arrK .u8 32 (upd (byt V) 31 (bits .andNot .u8 (byt V 31) 128))) 23 := h_
  clear h_
  replace k_t2 := k_t2.p hO nq_t1_t2.symm
  replace k_t5 := k_t5.p hO nq_t1_t5.symm
  replace off0 := off0.p hO fb_t1
  clear hO
  rw [clr31 (clr_bit hV)] at k_t1
  refine wpL_nil ?_
  by_cases hy : Y = V % 2 ^ 255
  ·
   have _f := hy
   have H_hy := Lib.hid hy
   clear _f hy
   go_upto_region 4 with fail
   refine Rx 4 ?_
   refine Xl ?_ k_t5
   refine Xf ?_ (fun W hW => cb1 W (GE_ext (GE_ext hG off0.ext) hW).1)
   refine XlA ?_ k_t1
   rw [decide_eq_true H_hy.out] at e_b
   refine wpX_neqA (e_b) (by kernel_rfl) (by rfl) rfl rfl rfl ?_
   (try simp only [Act.put, mA, mB, mC])
   refine wpX_nil fun W7 hE => ?_
   have hO := off_ext hE
   replace k_t1 := k_t1.o hO
   replace k_t2 := k_t2.o hO
   replace k_t5 := k_t5.o hO
   replace off0 := off0.o hO
   clear hO hE
   refine LN ?_
   go_upto_region 6 with fail
   refine wp_region_lit ?_
   refine L0 ?_ k_t5
   refine L0 ?_ k_t5
   refine Lr ?_ (c_N2 W7 (GE_ext hG off0.ext).1)
   intro W8 hO
   replace k_t1 := k_t1.o hO
   replace k_t2 := k_t2.o hO
   replace k_t5 := k_t5.o hO
   replace off0 := off0.o hO
   clear hO
   refine LnP ?_ (z := c4 0) (t := 155) (cells := c4 N2)
   intro p6_9 W10 n_t6 hO h_
   replace k_t1 := k_t1.o hO
   replace k_t2 := k_t2.o hO
   replace k_t5 := k_t5.o hO
   replace off0 := off0.o hO
   have k_t6 := h_
   clear hO h_ n_t6
   refine wpL_nil ?_
   have qRx : R = dX Y := by unfold dX dU dV; rw [HR.out, HN3.out, HN5.out, HN4.out, HN2.out]
   have qBx : B = dB Y := by unfold dB dU dV; rw [HB.out, HN3.out, HN5.out, HN4.out, HN2.out]
   have hRx := Lib.hid qRx
   have hBx := Lib.hid qBx
   clear qRx qBx
   by_cases hb : B = true
   ·
    have _f := hb
    have H_hb := Lib.hid hb
    clear _f hb
    go_upto_region 7 with fail
    refine Rx1 12 7 (z := c4 0) (t := 155) ?_
    refine Xl ?_ k_t6
    refine Xf ?_ (fun W hW => eOne_c W)
    refine Xf ?_ (fun W hW => c_N3 W (GE_ext (GE_ext hG off0.ext) hW).1)
    refine XR ?_ ((GE_ext hG off0.ext).2.2.1 hc)
    refine Xl ?_ k_t6
    refine Xf ?_ (fun W hW => c_N4 W (GE_ext (GE_ext hG off0.ext) hW).1)
    refine Xf ?_ (fun W hW => eOne_c W)
    refine Xf ?_ (fun W hW => c_N5 W (GE_ext (GE_ext hG off0.ext) hW).1)
    rw [H_hb.out] at c_r
    refine Xf ?_ (fun W hW => c_r W (GE_ext (GE_ext hG off0.ext) hW).1 ((GE_ext (GE_ext hG off0.ext) hW).2.1 hc))
    refine Xv ?_
    refine Xv ?_
    refine Xv ?_
    refine XN ?_
    intro p7_11 W11 n_t7 hE h_t7
    have hO := off_ext hE
    have nq_t1_t7 := bn k_t1 n_t7
    have nq_t2_t7 := bn k_t2 n_t7
    have nq_t5_t7 := bn k_t5 n_t7
    have nq_t6_t7 := bn k_t6 n_t7
    have fb_t7 := fbn off0 n_t7
    replace k_t1 := k_t1.o hO
    replace k_t2 := k_t2.o hO
    replace k_t5 := k_t5.o hO
    replace k_t6 := k_t6.o hO
    replace off0 := off0.o hO
    clear hO hE n_t7
    have k_t7 : Blk W11 p7_11 (c4 0) 155 := h_t7
    clear h_t7
    refine Lp ?_ k_t7 (cells := c4 R)
    intro W12 hO h_
    replace k_t7 : Blk W12 p7_11 (c4 R) 155 := h_
    clear h_
    replace k_t1 := k_t1.p hO nq_t1_t7
    replace k_t2 := k_t2.p hO nq_t2_t7
    replace k_t5 := k_t5.p hO nq_t5_t7
    replace k_t6 := k_t6.p hO nq_t6_t7
    replace off0 := off0.p hO fb_t7
    clear hO
    refine Lw ?_ (v := .bool true)
    refine LN ?_
    go_upto_region 8 with fail
    refine wp_region_lit ?_
    refine Lw ?_ (v := .bool true)
    refine Lw ?_ (v := .bool false)
    refine Lw ?_ (v := .bool false)
    refine Lw ?_ (v := .bool false)
    refine Lw ?_ (v := .bool false)
    refine Ls ?_
    refine Ls ?_
    refine Ls ?_
    refine Lw ?_ (v := .bool false)
    refine Lw ?_ (v := .bool false)
    refine wpL_nil ?_
    exact absurd (dOk_all (H_hy.out ▸ lY) (by rw [← H_hy.out, ← hBx.out]; exact H_hb.out) (fun h => ht h.1)) (by rw [hok]; decide)
   ·
    have _f := hb
    rw [Bool.not_eq_true] at hb _f
    have H_hb := Lib.hid hb
    clear _f hb
    go_upto_region 7 with fail
    refine Rx1 12 7 (z := c4 0) (t := 155) ?_
    refine Xl ?_ k_t6
    refine Xf ?_ (fun W hW => eOne_c W)
    refine Xf ?_ (fun W hW => c_N3 W (GE_ext (GE_ext hG off0.ext) hW).1)
    refine XR ?_ ((GE_ext hG off0.ext).2.2.1 hc)
    refine Xl ?_ k_t6
    refine Xf ?_ (fun W hW => c_N4 W (GE_ext (GE_ext hG off0.ext) hW).1)
    refine Xf ?_ (fun W hW => eOne_c W)
    refine Xf ?_ (fun W hW => c_N5 W (GE_ext (GE_ext hG off0.ext) hW).1)
    rw [H_hb.out] at c_r
    refine Xf ?_ (fun W hW => c_r W (GE_ext (GE_ext hG off0.ext) hW).1 ((GE_ext (GE_ext hG off0.ext) hW).2.1 hc))
    refine Xv ?_
    refine Xv ?_
    refine Xv ?_
    refine XN ?_
    intro p7_11 W11 n_t7 hE h_t7
    have hO := off_ext hE
    have nq_t1_t7 := bn k_t1 n_t7
    have nq_t2_t7 := bn k_t2 n_t7
    have nq_t5_t7 := bn k_t5 n_t7
    have fb_t7 := fbn off0 n_t7
    replace k_t1 := k_t1.o hO
    replace k_t2 := k_t2.o hO
    replace k_t5 := k_t5.o hO
    replace off0 := off0.o hO
    clear hO hE n_t7
    have k_t7 : Blk W11 p7_11 (c4 0) 155 := h_t7
    clear h_t7
    refine Lp ?_ k_t7 (cells := c4 R)
    intro W12 hO h_
    clear h_
    replace k_t1 := k_t1.p hO nq_t1_t7
    replace k_t2 := k_t2.p hO nq_t2_t7
    replace k_t5 := k_t5.p hO nq_t5_t7
    replace off0 := off0.p hO fb_t7
    clear hO
    refine Lw ?_ (v := .bool false)
    refine LN ?_
    go_upto_region 8 with fail
    refine wp_region_lit ?_
    refine Lw ?_ (v := .bool false)
    refine Lw ?_ (v := .bool true)
    refine Lw ?_ (v := .bool true)
    refine Ls ?_
    refine Ls ?_
    refine Ls ?_
    refine Ls ?_
    refine Ls ?_
    refine Ls ?_
    refine Lw ?_ (v := .bool true)
    refine wpL_nil ?_
    go_upto_region 9 with fail
    refine wp_region_lit ?_
    refine Lw ?_ (v := .agg (p4 0 0 0 0)) (hv := by kernel_rfl)
    refine Lp ?_ k_t2 (cells := p4 0 0 0 0)
    intro W13 hO h_
    replace k_t2 : Blk W13 p2_2 (p4 0 0 0 0) 157 := h_
    clear h_
    replace k_t1 := k_t1.p hO nq_t1_t2
    replace k_t5 := k_t5.p hO nq_t2_t5.symm
    replace off0 := off0.p hO fb_t2
    clear hO
    refine Lw ?_ (v := .int .i64 15)
    refine wpL_nil ?_
    go_wp2
    exact bodyPost_ret (res_row2 rfl rfl rfl k_t2 (by kernel_rfl) (by kernel_rfl)) rfl ⟨rfl, off0.ext⟩
  ·
   have _f := hy
   have H_hy := Lib.hid hy
   clear _f hy
   go_upto_region 4 with fail
   refine Rx 4 ?_
   refine Xl ?_ k_t5
   refine Xf ?_ (fun W hW => cb1 W (GE_ext (GE_ext hG off0.ext) hW).1)
   refine XlA ?_ k_t1
   rw [decide_eq_false H_hy.out] at e_b
   refine wpX_neqA (e_b) (by kernel_rfl) (by rfl) rfl rfl rfl ?_
   (try simp only [Act.put, mA, mB, mC])
   refine wpX_nil fun W7 hE => ?_
   have hO := off_ext hE
   replace k_t2 := k_t2.o hO
   replace off0 := off0.o hO
   clear hO hE
   refine LN ?_
   go_upto_region 5 with fail
   refine wp_region_lit ?_
   refine Lw ?_ (v := .agg (p4 0 0 0 0)) (hv := by kernel_rfl)
   refine Lp ?_ k_t2 (cells := p4 0 0 0 0)
   intro W8 hO h_
   replace k_t2 : Blk W8 p2_2 (p4 0 0 0 0) 157 := h_
   clear h_
   replace off0 := off0.p hO fb_t2
   clear hO
   refine Lw ?_ (v := .int .i64 15)
   refine wpL_nil ?_
   go_wp2
   exact bodyPost_ret (res_row2 rfl rfl rfl k_t2 (by kernel_rfl) (by kernel_rfl)) rfl ⟨rfl, off0.ext⟩
end Go.Proofs.YtejkmhgkkibafaaGreatDoor.S8
