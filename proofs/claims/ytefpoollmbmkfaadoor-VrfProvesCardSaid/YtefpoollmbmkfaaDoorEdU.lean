/- The document's Decode. No conditions. -/
import Derived.Test.YtefpoollmbmkfaaDoorGc
import Derived.Test.YtefpoollmbmkfaaDoorEdQ
set_option linter.unusedSimpArgs false
set_option linter.unusedVariables false
namespace Go.Proofs.YtefpoollmbmkfaaDoor
set_option maxHeartbeats 1500000
set_option maxRecDepth 100000
open Go.RowKit
attribute [local irreducible] wpList

theorem rDec_0 {V : Nat} (hV : V < 2 ^ 256) (hok : dOk V = false) :
  ∀ w, Calls Tryd.prog 57 #[str (lb 32 V)] w fun e w' => Ret (.tuple #[.agg (p3 0 0 0), .int .i64 15]) w w' e := by
 have c_o := rFrom_s V
 obtain ⟨Y, hY⟩ := exn (V % 2 ^ 255 % PP)
 rw [← hY] at c_o
 have lY := bpp hY
 have HY := Lib.hid hY
 clear hY
 have c_N1 := rMul_c Y Y (lt_pp lY) (lt_pp lY)
 obtain ⟨N1, hN1⟩ := exn (Y * Y % PP)
 rw [← hN1] at c_N1
 have lN1 := bpp hN1
 have bN1 := lt_pp lN1
 have HN1 := Lib.hid hN1
 clear hN1
 have c_N2 := rSub_c N1 1 bN1 (Nat.le_of_lt (by decide))
 obtain ⟨N2, hN2⟩ := exn ((N1 + (PP - 1) % PP) % PP)
 rw [← hN2] at c_N2
 have lN2 := bpp hN2
 have bN2 := lt_pp lN2
 have HN2 := Lib.hid hN2
 clear hN2
 have c_N3 := rMul_c DD N1 DD_lt bN1
 obtain ⟨N3, hN3⟩ := exn (DD * N1 % PP)
 rw [← hN3] at c_N3
 have lN3 := bpp hN3
 have bN3 := lt_pp lN3
 have HN3 := Lib.hid hN3
 clear hN3
 have c_N4 := rAdd_c N3 1 bN3 (by decide)
 obtain ⟨N4, hN4⟩ := exn ((N3 + 1) % PP)
 rw [← hN4] at c_N4
 have lN4 := bpp hN4
 have bN4 := lt_pp lN4
 have HN4 := Lib.hid hN4
 clear hN4
 have c_r := rRoot_c N2 N4 lN2 bN4
 obtain ⟨R, hR⟩ := exn (rtR N2 N4)
 rw [← hR] at c_r
 have lR : R < PP := by rw [hR]; exact rtR_ltP _ _
 have HR := Lib.hid hR
 clear hR
 obtain ⟨B, hB⟩ := exn (rtB N2 N4)
 rw [← hB] at c_r
 have HB := Lib.hid hB
 clear hB
 have e_0 := eq16 R 0 (lt_pp lR) (by decide)
 intro w
 have off0 : Off [] w w := Off.refl _ _
 go_enter Tryd.func57, Tryd.ntmps57
 go_upto_region 0 with fail
 refine wp_region_lit ?_
 refine Ln ?_ (z := p3 0 0 0) (t := 78)
 intro p2_1 W1 n_t2 hO h_
 have fb_t2 := fbn off0 n_t2
 replace off0 := off0.o hO
 have k_t2 := h_
 clear hO h_ n_t2
 refine Lw ?_ (v := .int .i64 0)
 refine wpL_nil ?_
 by_cases ht : top V = true
 ·
  have _f := ht
  have H_ht := Lib.hid ht
  clear _f ht
  go_upto_region 1 with fail
  refine wp_region_lit ?_
  refine Lv ?_
  refine Lw ?_ (v := .int .u8 (byt V 31)) (hv := by exact run_ixlb (by decide) rfl rfl rfl)
  refine Lw ?_ (v := .bool true) (hv := by exact run_geqU (top_geq hV true H_ht.out) rfl rfl rfl)
  refine Lw ?_ (v := .bool true)
  refine wpL_nil ?_
  go_upto_region 2 with fail
  refine wp_region_lit ?_
  refine Lv ?_
  refine Lr ?_ (c_o W1)
  intro W2 hO
  replace k_t2 := k_t2.o hO
  replace off0 := off0.o hO
  clear hO
  refine LnA ?_ (z := arrK .i64 16 (l16 0)) (t := 76) (k := .i64) (n := 16) (f := l16 Y)
  intro p5_3 W4 n_t5 hO h_
  have nq_t2_t5 := bn k_t2 n_t5
  replace k_t2 := k_t2.o hO
  replace off0 := off0.o hO
  have k_t5 := h_
  clear hO h_ n_t5
  refine wpL_nil ?_
  go_upto_region 3 with fail
  refine wp_region_lit ?_
  refine Lv ?_
  refine wpL_bytes (l := (lb 32 V)) (by first | omega | (rw [lb_length]; decide)) (by rfl) rfl rfl ?_
  (try simp only [Act.put, mA, mB, mC])
  intro p16_5 c_y16 cs_y16 W5 n_y16 hO h_ c1_y16 c2_y16 c3_y16 c4_y16
  have nq_t2_y16 := bn k_t2 n_y16
  have nq_t5_y16 := bn k_t5 n_y16
  have fb_y16 := fbn off0 n_y16
  replace k_t2 := k_t2.o hO
  replace k_t5 := k_t5.o hO
  replace off0 := off0.o hO
  have k_y16 := h_
  clear hO h_ n_y16
  have ow_z16 : Sl W5 (.slice (some ⟨p16_5, 0, none⟩) (lb 32 V).length c_y16) (lb 32 V) := sl_blz k_y16 c1_y16 c2_y16 c4_y16
  have ne_z16_t2 : sb (.slice (some ⟨p16_5, 0, none⟩) (lb 32 V).length c_y16) (lb 32 V) ≠ some p2_1 := sb_ne nq_t2_y16.symm
  refine Lv ?_
  refine wpL_nil ?_
  go_upto_region 4 with fail
  refine wp_region_lit ?_
  refine Lv ?_
  refine Lv ?_
  refine wpL_ixa (j := 31) (by rw [lb_length]; decide) (by rfl) rfl rfl rfl ?_
  (try simp only [Act.put, mA, mB, mC])
  have hc_ : W5.cell? ⟨p16_5, 0 + 31, none⟩ = some (.int .u8 (byt V 31)) := by rw [blz_cell k_y16, Nat.zero_add]; exact take_cell (by rw [← lb_length 32 V]; exact c4_y16) (by decide)
  refine wpL_at (v := .int .u8 (byt V 31)) (by rfl) rfl rfl hc_ (by kernel_rfl) ?_
  (try simp only [Act.put, mA, mB, mC])
  clear hc_
  refine Lw ?_ (v := .int .u8 (bits .and .u8 (byt V 31) 127)) (hv := by exact run_andU rfl rfl rfl rfl)
  refine wpL_ixa (j := 31) (by rw [lb_length]; decide) (by rfl) rfl rfl rfl ?_
  (try simp only [Act.put, mA, mB, mC])
  refine wpL_putz (v := .int .u8 (bits .and .u8 (byt V 31) 127)) ⟨rfl, rfl⟩ (by rfl) rfl rfl rfl k_y16 (by rw [c3_y16, Nat.zero_add]; have := c1_y16; rw [lb_length] at this; omega) (by kernel_rfl) ?_
  (try simp only [Act.put, mA, mB, mC])
  intro W6 hO h_
  have c4n := take_set (cs := cs_y16) (by rw [← lb_length 32 V]; exact c4_y16) (clr31c hV)
  rw [Nat.zero_add] at h_
  replace k_t2 := k_t2.p hO nq_t2_y16
  replace k_t5 := k_t5.p hO nq_t5_y16
  replace off0 := off0.p hO fb_y16
  clear hO
  replace k_y16 := h_
  clear h_
  have h1_ : (lb 32 (V % 2 ^ 255)).length = (lb 32 V).length := by rw [lb_length, lb_length]
  replace ow_z16 : Sl W6 (.slice (some ⟨p16_5, 0, none⟩) (lb 32 V).length c_y16) (lb 32 (V % 2 ^ 255)) := by have := sl_blz (l := lb 32 (V % 2 ^ 255)) k_y16 (by rw [h1_]; exact c1_y16) c2_y16 (by rw [lb_length]; exact c4n); rwa [h1_] at this
  clear h1_ c4_y16
  replace ne_z16_t2 : sb (.slice (some ⟨p16_5, 0, none⟩) (lb 32 V).length c_y16) (lb 32 (V % 2 ^ 255)) ≠ some p2_1 := sb_ne nq_t2_y16.symm
  refine wpL_nil ?_
  by_cases hc : Y = V % 2 ^ 255
  ·
   have _f := hc
   have H_hc := Lib.hid hc
   clear _f hc
   go_upto_region 5 with fail
   refine Rx 5 ?_
   refine XlA ?_ k_t5
   refine Xf ?_ (fun W hW => rBytes_s Y W)
   refine Xv ?_
   refine wpX_str (l := (lb 32 (V % 2 ^ 255))) (fun W hW => sl_ext ow_z16 hW) (by rfl) rfl rfl ?_
   (try simp only [Act.put, mA, mB, mC])
   refine wpX_strne (l := (lb 32 Y)) (m := (lb 32 (V % 2 ^ 255))) (b := false) (lb_eq H_hc.out) (by rfl) rfl rfl rfl ?_
   (try simp only [Act.put, mA, mB, mC])
   refine wpX_nil fun W7 hE => ?_
   have hO := off_ext hE
   replace k_t2 := k_t2.o hO
   replace k_t5 := k_t5.o hO
   replace k_y16 := blz_off k_y16 hO nm0
   replace ow_z16 := Sl.off ow_z16 hO f0
   replace off0 := off0.o hO
   clear hO hE
   refine LN ?_
   go_upto_region 7 with fail
   refine wp_region_lit ?_
   refine L0A ?_ k_t5
   refine L0A ?_ k_t5
   refine Lr ?_ (c_N1 W7)
   intro W8 hO
   replace k_t2 := k_t2.o hO
   replace k_t5 := k_t5.o hO
   replace k_y16 := blz_off k_y16 hO nm0
   replace ow_z16 := Sl.off ow_z16 hO f0
   replace off0 := off0.o hO
   clear hO
   refine LnA ?_ (z := arrK .i64 16 (l16 0)) (t := 76) (k := .i64) (n := 16) (f := l16 N1)
   intro p7_9 W10 n_t7 hO h_
   have nq_t2_t7 := bn k_t2 n_t7
   replace k_t2 := k_t2.o hO
   replace k_t5 := k_t5.o hO
   replace k_y16 := blz_off k_y16 hO nm0
   replace ow_z16 := Sl.off ow_z16 hO f0
   replace off0 := off0.o hO
   have k_t7 := h_
   clear hO h_ n_t7
   refine wpL_nil ?_
   have qRx : R = dX Y := by unfold dX; rw [HR.out, dU_r Y HN1.out HN2.out]; unfold dV; rw [HN4.out, HN3.out, HN1.out]
   have qBx : B = dB Y := by unfold dB; rw [HB.out, dU_r Y HN1.out HN2.out]; unfold dV; rw [HN4.out, HN3.out, HN1.out]
   have hRx := Lib.hid qRx
   have hBx := Lib.hid qBx
   clear qRx qBx
   by_cases hb : B = true
   ·
    have _f := hb
    have H_hb := Lib.hid hb
    clear _f hb
    go_upto_region 8 with fail
    refine Rx1 12 8 (z := arrK .i64 16 (l16 0)) (t := 76) ?_
    refine XlA ?_ k_t7
    refine Xw ?_ (v := .agg (arrK .i64 16 (l16 1))) (hv := fun _ _ => by kernel_rfl)
    refine Xf ?_ (fun W hW => c_N2 W)
    refine Xf ?_ (fun W hW => rD_c W)
    refine XlA ?_ k_t7
    refine Xf ?_ (fun W hW => c_N3 W)
    refine Xw ?_ (v := .agg (arrK .i64 16 (l16 1))) (hv := fun _ _ => by kernel_rfl)
    refine Xf ?_ (fun W hW => c_N4 W)
    rw [H_hb.out] at c_r
    refine Xf ?_ (fun W hW => c_r W)
    refine Xv ?_
    refine Xv ?_
    refine Xv ?_
    refine XN ?_
    intro p8_11 W11 n_t8 hE h_t8
    have hO := off_ext hE
    have nq_t2_t8 := bn k_t2 n_t8
    have nq_t5_t8 := bn k_t5 n_t8
    have nq_y16_t8 : p16_5 ≠ p8_11 := Nat.ne_of_lt (Nat.lt_of_lt_of_le (blz_lt k_y16) n_t8)
    have nq_t7_t8 := bn k_t7 n_t8
    have ne_z16_t8 := ne_new (Sl.lt ow_z16) n_t8
    have fb_t8 := fbn off0 n_t8
    replace k_t2 := k_t2.o hO
    replace k_t5 := k_t5.o hO
    replace k_y16 := blz_off k_y16 hO nm0
    replace k_t7 := k_t7.o hO
    replace ow_z16 := Sl.off ow_z16 hO f0
    replace off0 := off0.o hO
    clear hO hE n_t8
    have k_t8 : Blk W11 p8_11 (arrK .i64 16 (l16 0)) 76 := h_t8
    clear h_t8
    refine LpA ?_ k_t8 (k := .i64) (n := 16) (f := l16 R)
    intro W12 hO h_
    replace k_t8 : Blk W12 p8_11 (arrK .i64 16 (l16 R)) 76 := h_
    clear h_
    replace k_t2 := k_t2.p hO nq_t2_t8
    replace k_t5 := k_t5.p hO nq_t5_t8
    replace k_y16 := blz_off k_y16 hO (nm1 nq_y16_t8)
    replace k_t7 := k_t7.p hO nq_t7_t8
    replace ow_z16 := Sl.off ow_z16 hO (f1 ne_z16_t8)
    replace off0 := off0.p hO fb_t8
    clear hO
    refine Lw ?_ (v := .bool true)
    refine LN ?_
    by_cases h0 : R = 0
    ·
     have _f := h0
     have H_h0 := Lib.hid h0
     clear _f h0
     go_upto_region 9 with fail
     refine wp_region_lit ?_
     refine Lw ?_ (v := .bool true)
     refine Lw ?_ (v := .bool false)
     refine Lw ?_ (v := .bool false)
     refine L0A ?_ k_t8
     refine Lw ?_ (v := .agg (arrK .i64 16 (l16 0))) (hv := by kernel_rfl)
     rw [decide_eq_true H_h0.out] at e_0
     refine wpL_eqlA (e_0) (by kernel_rfl) (by rfl) rfl rfl rfl ?_
     (try simp only [Act.put, mA, mB, mC])
     refine Lw ?_ (v := .bool true)
     refine Lw ?_ (v := .bool true)
     refine Lw ?_ (v := .bool true)
     refine Lw ?_ (v := .bool true)
     refine wpL_nil ?_
     go_upto_region 10 with fail
     refine wp_region_lit ?_
     refine Lw ?_ (v := .agg (p3 0 0 0)) (hv := by kernel_rfl)
     refine Lp ?_ k_t2 (cells := p3 0 0 0) (hi := by rw [p3_size]; kernel_rfl) (hs := by first | rw [p3_size, p3_size] | rw [p3_size] | kernel_rfl) (h1 := by exact p3_one)
     intro W13 hO h_
     replace k_t2 : Blk W13 p2_1 (p3 0 0 0) 78 := h_
     clear h_
     replace k_t5 := k_t5.p hO nq_t2_t5.symm
     replace k_y16 := blz_off k_y16 hO (nm1 nq_t2_y16.symm)
     replace k_t7 := k_t7.p hO nq_t2_t7.symm
     replace k_t8 := k_t8.p hO nq_t2_t8.symm
     replace ow_z16 := Sl.off ow_z16 hO (f1 ne_z16_t2)
     replace off0 := off0.p hO fb_t2
     clear hO
     refine Lw ?_ (v := .int .i64 15)
     refine wpL_nil ?_
     go_wp2
     exact bodyPost_ret (res_row2 rfl rfl rfl k_t2 (by kernel_rfl) (by rw [p3_size]; kernel_rfl)) rfl ⟨rfl, off0.ext⟩
    ·
     have _f := h0
     have H_h0 := Lib.hid h0
     clear _f h0
     go_upto_region 9 with fail
     refine wp_region_lit ?_
     refine Lw ?_ (v := .bool true)
     refine Lw ?_ (v := .bool false)
     refine Lw ?_ (v := .bool false)
     refine L0A ?_ k_t8
     refine Lw ?_ (v := .agg (arrK .i64 16 (l16 0))) (hv := by kernel_rfl)
     rw [decide_eq_false H_h0.out] at e_0
     refine wpL_eqlA (e_0) (by kernel_rfl) (by rfl) rfl rfl rfl ?_
     (try simp only [Act.put, mA, mB, mC])
     refine Lw ?_ (v := .bool false)
     refine Ls ?_
     refine Lw ?_ (v := .bool false)
     refine Lw ?_ (v := .bool false)
     refine wpL_nil ?_
     exact absurd (dOk_all (H_hc.out ▸ lY) (by rw [← H_hc.out, ← hBx.out]; exact H_hb.out) (fun h => H_h0.out (by rw [hRx.out, H_hc.out]; exact h.2))) (by rw [hok]; decide)
   ·
    have _f := hb
    rw [Bool.not_eq_true] at hb _f
    have H_hb := Lib.hid hb
    clear _f hb
    go_upto_region 8 with fail
    refine Rx1 12 8 (z := arrK .i64 16 (l16 0)) (t := 76) ?_
    refine XlA ?_ k_t7
    refine Xw ?_ (v := .agg (arrK .i64 16 (l16 1))) (hv := fun _ _ => by kernel_rfl)
    refine Xf ?_ (fun W hW => c_N2 W)
    refine Xf ?_ (fun W hW => rD_c W)
    refine XlA ?_ k_t7
    refine Xf ?_ (fun W hW => c_N3 W)
    refine Xw ?_ (v := .agg (arrK .i64 16 (l16 1))) (hv := fun _ _ => by kernel_rfl)
    refine Xf ?_ (fun W hW => c_N4 W)
    rw [H_hb.out] at c_r
    refine Xf ?_ (fun W hW => c_r W)
    refine Xv ?_
    refine Xv ?_
    refine Xv ?_
    refine XN ?_
    intro p8_11 W11 n_t8 hE h_t8
    have hO := off_ext hE
    have nq_t2_t8 := bn k_t2 n_t8
    have nq_t5_t8 := bn k_t5 n_t8
    have nq_y16_t8 : p16_5 ≠ p8_11 := Nat.ne_of_lt (Nat.lt_of_lt_of_le (blz_lt k_y16) n_t8)
    have nq_t7_t8 := bn k_t7 n_t8
    have ne_z16_t8 := ne_new (Sl.lt ow_z16) n_t8
    have fb_t8 := fbn off0 n_t8
    replace k_t2 := k_t2.o hO
    replace k_t5 := k_t5.o hO
    replace k_y16 := blz_off k_y16 hO nm0
    replace k_t7 := k_t7.o hO
    replace ow_z16 := Sl.off ow_z16 hO f0
    replace off0 := off0.o hO
    clear hO hE n_t8
    have k_t8 : Blk W11 p8_11 (arrK .i64 16 (l16 0)) 76 := h_t8
    clear h_t8
    refine LpA ?_ k_t8 (k := .i64) (n := 16) (f := l16 R)
    intro W12 hO h_
    replace k_t8 : Blk W12 p8_11 (arrK .i64 16 (l16 R)) 76 := h_
    clear h_
    replace k_t2 := k_t2.p hO nq_t2_t8
    replace k_t5 := k_t5.p hO nq_t5_t8
    replace k_y16 := blz_off k_y16 hO (nm1 nq_y16_t8)
    replace k_t7 := k_t7.p hO nq_t7_t8
    replace ow_z16 := Sl.off ow_z16 hO (f1 ne_z16_t8)
    replace off0 := off0.p hO fb_t8
    clear hO
    refine Lw ?_ (v := .bool false)
    refine LN ?_
    go_upto_region 9 with fail
    refine wp_region_lit ?_
    refine Lw ?_ (v := .bool false)
    refine Lw ?_ (v := .bool true)
    refine Lw ?_ (v := .bool true)
    refine Ls ?_
    refine Ls ?_
    refine Ls ?_
    refine Ls ?_
    refine Ls ?_
    refine Ls ?_
    refine Lw ?_ (v := .bool true)
    refine wpL_nil ?_
    go_upto_region 10 with fail
    refine wp_region_lit ?_
    refine Lw ?_ (v := .agg (p3 0 0 0)) (hv := by kernel_rfl)
    refine Lp ?_ k_t2 (cells := p3 0 0 0) (hi := by rw [p3_size]; kernel_rfl) (hs := by first | rw [p3_size, p3_size] | rw [p3_size] | kernel_rfl) (h1 := by exact p3_one)
    intro W13 hO h_
    replace k_t2 : Blk W13 p2_1 (p3 0 0 0) 78 := h_
    clear h_
    replace k_t5 := k_t5.p hO nq_t2_t5.symm
    replace k_y16 := blz_off k_y16 hO (nm1 nq_t2_y16.symm)
    replace k_t7 := k_t7.p hO nq_t2_t7.symm
    replace k_t8 := k_t8.p hO nq_t2_t8.symm
    replace ow_z16 := Sl.off ow_z16 hO (f1 ne_z16_t2)
    replace off0 := off0.p hO fb_t2
    clear hO
    refine Lw ?_ (v := .int .i64 15)
    refine wpL_nil ?_
    go_wp2
    exact bodyPost_ret (res_row2 rfl rfl rfl k_t2 (by kernel_rfl) (by rw [p3_size]; kernel_rfl)) rfl ⟨rfl, off0.ext⟩
  ·
   have _f := hc
   have H_hc := Lib.hid hc
   clear _f hc
   go_upto_region 5 with fail
   refine Rx 5 ?_
   refine XlA ?_ k_t5
   refine Xf ?_ (fun W hW => rBytes_s Y W)
   refine Xv ?_
   refine wpX_str (l := (lb 32 (V % 2 ^ 255))) (fun W hW => sl_ext ow_z16 hW) (by rfl) rfl rfl ?_
   (try simp only [Act.put, mA, mB, mC])
   refine wpX_strne (l := (lb 32 Y)) (m := (lb 32 (V % 2 ^ 255))) (b := true) (lb_ne (lt_256p lY) (mod_255' V) H_hc.out) (by rfl) rfl rfl rfl ?_
   (try simp only [Act.put, mA, mB, mC])
   refine wpX_nil fun W7 hE => ?_
   have hO := off_ext hE
   replace k_t2 := k_t2.o hO
   replace k_t5 := k_t5.o hO
   replace k_y16 := blz_off k_y16 hO nm0
   replace ow_z16 := Sl.off ow_z16 hO f0
   replace off0 := off0.o hO
   clear hO hE
   refine LN ?_
   go_upto_region 6 with fail
   refine wp_region_lit ?_
   refine Lw ?_ (v := .agg (p3 0 0 0)) (hv := by kernel_rfl)
   refine Lp ?_ k_t2 (cells := p3 0 0 0) (hi := by rw [p3_size]; kernel_rfl) (hs := by first | rw [p3_size, p3_size] | rw [p3_size] | kernel_rfl) (h1 := by exact p3_one)
   intro W8 hO h_
   replace k_t2 : Blk W8 p2_1 (p3 0 0 0) 78 := h_
   clear h_
   replace k_t5 := k_t5.p hO nq_t2_t5.symm
   replace k_y16 := blz_off k_y16 hO (nm1 nq_t2_y16.symm)
   replace ow_z16 := Sl.off ow_z16 hO (f1 ne_z16_t2)
   replace off0 := off0.p hO fb_t2
   clear hO
   refine Lw ?_ (v := .int .i64 15)
   refine wpL_nil ?_
   go_wp2
   exact bodyPost_ret (res_row2 rfl rfl rfl k_t2 (by kernel_rfl) (by rw [p3_size]; kernel_rfl)) rfl ⟨rfl, off0.ext⟩
 ·
  have _f := ht
  have H_ht := Lib.hid ht
  clear _f ht
  go_upto_region 1 with fail
  refine wp_region_lit ?_
  refine Lv ?_
  refine Lw ?_ (v := .int .u8 (byt V 31)) (hv := by exact run_ixlb (by decide) rfl rfl rfl)
  refine Lw ?_ (v := .bool false) (hv := by exact run_geqU (top_geq hV false (Bool.eq_false_iff.2 H_ht.out)) rfl rfl rfl)
  refine Lw ?_ (v := .bool false)
  refine wpL_nil ?_
  go_upto_region 2 with fail
  refine wp_region_lit ?_
  refine Lv ?_
  refine Lr ?_ (c_o W1)
  intro W2 hO
  replace k_t2 := k_t2.o hO
  replace off0 := off0.o hO
  clear hO
  refine LnA ?_ (z := arrK .i64 16 (l16 0)) (t := 76) (k := .i64) (n := 16) (f := l16 Y)
  intro p5_3 W4 n_t5 hO h_
  have nq_t2_t5 := bn k_t2 n_t5
  replace k_t2 := k_t2.o hO
  replace off0 := off0.o hO
  have k_t5 := h_
  clear hO h_ n_t5
  refine wpL_nil ?_
  go_upto_region 3 with fail
  refine wp_region_lit ?_
  refine Lv ?_
  refine wpL_bytes (l := (lb 32 V)) (by first | omega | (rw [lb_length]; decide)) (by rfl) rfl rfl ?_
  (try simp only [Act.put, mA, mB, mC])
  intro p16_5 c_y16 cs_y16 W5 n_y16 hO h_ c1_y16 c2_y16 c3_y16 c4_y16
  have nq_t2_y16 := bn k_t2 n_y16
  have nq_t5_y16 := bn k_t5 n_y16
  have fb_y16 := fbn off0 n_y16
  replace k_t2 := k_t2.o hO
  replace k_t5 := k_t5.o hO
  replace off0 := off0.o hO
  have k_y16 := h_
  clear hO h_ n_y16
  have ow_z16 : Sl W5 (.slice (some ⟨p16_5, 0, none⟩) (lb 32 V).length c_y16) (lb 32 V) := sl_blz k_y16 c1_y16 c2_y16 c4_y16
  have ne_z16_t2 : sb (.slice (some ⟨p16_5, 0, none⟩) (lb 32 V).length c_y16) (lb 32 V) ≠ some p2_1 := sb_ne nq_t2_y16.symm
  refine Lv ?_
  refine wpL_nil ?_
  go_upto_region 4 with fail
  refine wp_region_lit ?_
  refine Lv ?_
  refine Lv ?_
  refine wpL_ixa (j := 31) (by rw [lb_length]; decide) (by rfl) rfl rfl rfl ?_
  (try simp only [Act.put, mA, mB, mC])
  have hc_ : W5.cell? ⟨p16_5, 0 + 31, none⟩ = some (.int .u8 (byt V 31)) := by rw [blz_cell k_y16, Nat.zero_add]; exact take_cell (by rw [← lb_length 32 V]; exact c4_y16) (by decide)
  refine wpL_at (v := .int .u8 (byt V 31)) (by rfl) rfl rfl hc_ (by kernel_rfl) ?_
  (try simp only [Act.put, mA, mB, mC])
  clear hc_
  refine Lw ?_ (v := .int .u8 (bits .and .u8 (byt V 31) 127)) (hv := by exact run_andU rfl rfl rfl rfl)
  refine wpL_ixa (j := 31) (by rw [lb_length]; decide) (by rfl) rfl rfl rfl ?_
  (try simp only [Act.put, mA, mB, mC])
  refine wpL_putz (v := .int .u8 (bits .and .u8 (byt V 31) 127)) ⟨rfl, rfl⟩ (by rfl) rfl rfl rfl k_y16 (by rw [c3_y16, Nat.zero_add]; have := c1_y16; rw [lb_length] at this; omega) (by kernel_rfl) ?_
  (try simp only [Act.put, mA, mB, mC])
  intro W6 hO h_
  have c4n := take_set (cs := cs_y16) (by rw [← lb_length 32 V]; exact c4_y16) (clr31c hV)
  rw [Nat.zero_add] at h_
  replace k_t2 := k_t2.p hO nq_t2_y16
  replace k_t5 := k_t5.p hO nq_t5_y16
  replace off0 := off0.p hO fb_y16
  clear hO
  replace k_y16 := h_
  clear h_
  have h1_ : (lb 32 (V % 2 ^ 255)).length = (lb 32 V).length := by rw [lb_length, lb_length]
  replace ow_z16 : Sl W6 (.slice (some ⟨p16_5, 0, none⟩) (lb 32 V).length c_y16) (lb 32 (V % 2 ^ 255)) := by have := sl_blz (l := lb 32 (V % 2 ^ 255)) k_y16 (by rw [h1_]; exact c1_y16) c2_y16 (by rw [lb_length]; exact c4n); rwa [h1_] at this
  clear h1_ c4_y16
  replace ne_z16_t2 : sb (.slice (some ⟨p16_5, 0, none⟩) (lb 32 V).length c_y16) (lb 32 (V % 2 ^ 255)) ≠ some p2_1 := sb_ne nq_t2_y16.symm
  refine wpL_nil ?_
  by_cases hc : Y = V % 2 ^ 255
  ·
   have _f := hc
   have H_hc := Lib.hid hc
   clear _f hc
   go_upto_region 5 with fail
   refine Rx 5 ?_
   refine XlA ?_ k_t5
   refine Xf ?_ (fun W hW => rBytes_s Y W)
   refine Xv ?_
   refine wpX_str (l := (lb 32 (V % 2 ^ 255))) (fun W hW => sl_ext ow_z16 hW) (by rfl) rfl rfl ?_
   (try simp only [Act.put, mA, mB, mC])
   refine wpX_strne (l := (lb 32 Y)) (m := (lb 32 (V % 2 ^ 255))) (b := false) (lb_eq H_hc.out) (by rfl) rfl rfl rfl ?_
   (try simp only [Act.put, mA, mB, mC])
   refine wpX_nil fun W7 hE => ?_
   have hO := off_ext hE
   replace k_t2 := k_t2.o hO
   replace k_t5 := k_t5.o hO
   replace ow_z16 := Sl.off ow_z16 hO f0
   replace off0 := off0.o hO
   clear hO hE
   refine LN ?_
   go_upto_region 7 with fail
   refine wp_region_lit ?_
   refine L0A ?_ k_t5
   refine L0A ?_ k_t5
   refine Lr ?_ (c_N1 W7)
   intro W8 hO
   replace k_t2 := k_t2.o hO
   replace k_t5 := k_t5.o hO
   replace ow_z16 := Sl.off ow_z16 hO f0
   replace off0 := off0.o hO
   clear hO
   refine LnA ?_ (z := arrK .i64 16 (l16 0)) (t := 76) (k := .i64) (n := 16) (f := l16 N1)
   intro p7_9 W10 n_t7 hO h_
   replace k_t2 := k_t2.o hO
   replace k_t5 := k_t5.o hO
   replace ow_z16 := Sl.off ow_z16 hO f0
   replace off0 := off0.o hO
   have k_t7 := h_
   clear hO h_ n_t7
   refine wpL_nil ?_
   have qRx : R = dX Y := by unfold dX; rw [HR.out, dU_r Y HN1.out HN2.out]; unfold dV; rw [HN4.out, HN3.out, HN1.out]
   have qBx : B = dB Y := by unfold dB; rw [HB.out, dU_r Y HN1.out HN2.out]; unfold dV; rw [HN4.out, HN3.out, HN1.out]
   have hRx := Lib.hid qRx
   have hBx := Lib.hid qBx
   clear qRx qBx
   by_cases hb : B = true
   ·
    have _f := hb
    have H_hb := Lib.hid hb
    clear _f hb
    go_upto_region 8 with fail
    refine Rx1 12 8 (z := arrK .i64 16 (l16 0)) (t := 76) ?_
    refine XlA ?_ k_t7
    refine Xw ?_ (v := .agg (arrK .i64 16 (l16 1))) (hv := fun _ _ => by kernel_rfl)
    refine Xf ?_ (fun W hW => c_N2 W)
    refine Xf ?_ (fun W hW => rD_c W)
    refine XlA ?_ k_t7
    refine Xf ?_ (fun W hW => c_N3 W)
    refine Xw ?_ (v := .agg (arrK .i64 16 (l16 1))) (hv := fun _ _ => by kernel_rfl)
    refine Xf ?_ (fun W hW => c_N4 W)
    rw [H_hb.out] at c_r
    refine Xf ?_ (fun W hW => c_r W)
    refine Xv ?_
    refine Xv ?_
    refine Xv ?_
    refine XN ?_
    intro p8_11 W11 n_t8 hE h_t8
    have hO := off_ext hE
    have nq_t2_t8 := bn k_t2 n_t8
    have nq_t5_t8 := bn k_t5 n_t8
    have nq_t7_t8 := bn k_t7 n_t8
    have ne_z16_t8 := ne_new (Sl.lt ow_z16) n_t8
    have fb_t8 := fbn off0 n_t8
    replace k_t2 := k_t2.o hO
    replace k_t5 := k_t5.o hO
    replace k_t7 := k_t7.o hO
    replace ow_z16 := Sl.off ow_z16 hO f0
    replace off0 := off0.o hO
    clear hO hE n_t8
    have k_t8 : Blk W11 p8_11 (arrK .i64 16 (l16 0)) 76 := h_t8
    clear h_t8
    refine LpA ?_ k_t8 (k := .i64) (n := 16) (f := l16 R)
    intro W12 hO h_
    replace k_t8 : Blk W12 p8_11 (arrK .i64 16 (l16 R)) 76 := h_
    clear h_
    replace k_t2 := k_t2.p hO nq_t2_t8
    replace k_t5 := k_t5.p hO nq_t5_t8
    replace k_t7 := k_t7.p hO nq_t7_t8
    replace ow_z16 := Sl.off ow_z16 hO (f1 ne_z16_t8)
    replace off0 := off0.p hO fb_t8
    clear hO
    refine Lw ?_ (v := .bool true)
    refine LN ?_
    by_cases h0 : R = 0
    ·
     have _f := h0
     have H_h0 := Lib.hid h0
     clear _f h0
     go_upto_region 9 with fail
     refine wp_region_lit ?_
     refine Lw ?_ (v := .bool true)
     refine Lw ?_ (v := .bool false)
     refine Lw ?_ (v := .bool false)
     refine L0A ?_ k_t8
     refine Lw ?_ (v := .agg (arrK .i64 16 (l16 0))) (hv := by kernel_rfl)
     rw [decide_eq_true H_h0.out] at e_0
     refine wpL_eqlA (e_0) (by kernel_rfl) (by rfl) rfl rfl rfl ?_
     (try simp only [Act.put, mA, mB, mC])
     refine Lw ?_ (v := .bool true)
     refine Lw ?_ (v := .bool false)
     refine Lw ?_ (v := .bool false)
     refine Lw ?_ (v := .bool false)
     refine wpL_nil ?_
     exact absurd (dOk_all (H_hc.out ▸ lY) (by rw [← H_hc.out, ← hBx.out]; exact H_hb.out) (fun h => H_ht.out h.1)) (by rw [hok]; decide)
    ·
     have _f := h0
     have H_h0 := Lib.hid h0
     clear _f h0
     go_upto_region 9 with fail
     refine wp_region_lit ?_
     refine Lw ?_ (v := .bool true)
     refine Lw ?_ (v := .bool false)
     refine Lw ?_ (v := .bool false)
     refine L0A ?_ k_t8
     refine Lw ?_ (v := .agg (arrK .i64 16 (l16 0))) (hv := by kernel_rfl)
     rw [decide_eq_false H_h0.out] at e_0
     refine wpL_eqlA (e_0) (by kernel_rfl) (by rfl) rfl rfl rfl ?_
     (try simp only [Act.put, mA, mB, mC])
     refine Lw ?_ (v := .bool false)
     refine Ls ?_
     refine Lw ?_ (v := .bool false)
     refine Lw ?_ (v := .bool false)
     refine wpL_nil ?_
     exact absurd (dOk_all (H_hc.out ▸ lY) (by rw [← H_hc.out, ← hBx.out]; exact H_hb.out) (fun h => H_ht.out h.1)) (by rw [hok]; decide)
   ·
    have _f := hb
    rw [Bool.not_eq_true] at hb _f
    have H_hb := Lib.hid hb
    clear _f hb
    go_upto_region 8 with fail
    refine Rx1 12 8 (z := arrK .i64 16 (l16 0)) (t := 76) ?_
    refine XlA ?_ k_t7
    refine Xw ?_ (v := .agg (arrK .i64 16 (l16 1))) (hv := fun _ _ => by kernel_rfl)
    refine Xf ?_ (fun W hW => c_N2 W)
    refine Xf ?_ (fun W hW => rD_c W)
    refine XlA ?_ k_t7
    refine Xf ?_ (fun W hW => c_N3 W)
    refine Xw ?_ (v := .agg (arrK .i64 16 (l16 1))) (hv := fun _ _ => by kernel_rfl)
    refine Xf ?_ (fun W hW => c_N4 W)
    rw [H_hb.out] at c_r
    refine Xf ?_ (fun W hW => c_r W)
    refine Xv ?_
    refine Xv ?_
    refine Xv ?_
    refine XN ?_
    intro p8_11 W11 n_t8 hE h_t8
    have hO := off_ext hE
    have nq_t2_t8 := bn k_t2 n_t8
    have nq_t5_t8 := bn k_t5 n_t8
    have ne_z16_t8 := ne_new (Sl.lt ow_z16) n_t8
    have fb_t8 := fbn off0 n_t8
    replace k_t2 := k_t2.o hO
    replace k_t5 := k_t5.o hO
    replace ow_z16 := Sl.off ow_z16 hO f0
    replace off0 := off0.o hO
    clear hO hE n_t8
    have k_t8 : Blk W11 p8_11 (arrK .i64 16 (l16 0)) 76 := h_t8
    clear h_t8
    refine LpA ?_ k_t8 (k := .i64) (n := 16) (f := l16 R)
    intro W12 hO h_
    clear h_
    replace k_t2 := k_t2.p hO nq_t2_t8
    replace k_t5 := k_t5.p hO nq_t5_t8
    replace ow_z16 := Sl.off ow_z16 hO (f1 ne_z16_t8)
    replace off0 := off0.p hO fb_t8
    clear hO
    refine Lw ?_ (v := .bool false)
    refine LN ?_
    go_upto_region 9 with fail
    refine wp_region_lit ?_
    refine Lw ?_ (v := .bool false)
    refine Lw ?_ (v := .bool true)
    refine Lw ?_ (v := .bool true)
    refine Ls ?_
    refine Ls ?_
    refine Ls ?_
    refine Ls ?_
    refine Ls ?_
    refine Ls ?_
    refine Lw ?_ (v := .bool true)
    refine wpL_nil ?_
    go_upto_region 10 with fail
    refine wp_region_lit ?_
    refine Lw ?_ (v := .agg (p3 0 0 0)) (hv := by kernel_rfl)
    refine Lp ?_ k_t2 (cells := p3 0 0 0) (hi := by rw [p3_size]; kernel_rfl) (hs := by first | rw [p3_size, p3_size] | rw [p3_size] | kernel_rfl) (h1 := by exact p3_one)
    intro W13 hO h_
    replace k_t2 : Blk W13 p2_1 (p3 0 0 0) 78 := h_
    clear h_
    replace k_t5 := k_t5.p hO nq_t2_t5.symm
    replace ow_z16 := Sl.off ow_z16 hO (f1 ne_z16_t2)
    replace off0 := off0.p hO fb_t2
    clear hO
    refine Lw ?_ (v := .int .i64 15)
    refine wpL_nil ?_
    go_wp2
    exact bodyPost_ret (res_row2 rfl rfl rfl k_t2 (by kernel_rfl) (by rw [p3_size]; kernel_rfl)) rfl ⟨rfl, off0.ext⟩
  ·
   have _f := hc
   have H_hc := Lib.hid hc
   clear _f hc
   go_upto_region 5 with fail
   refine Rx 5 ?_
   refine XlA ?_ k_t5
   refine Xf ?_ (fun W hW => rBytes_s Y W)
   refine Xv ?_
   refine wpX_str (l := (lb 32 (V % 2 ^ 255))) (fun W hW => sl_ext ow_z16 hW) (by rfl) rfl rfl ?_
   (try simp only [Act.put, mA, mB, mC])
   refine wpX_strne (l := (lb 32 Y)) (m := (lb 32 (V % 2 ^ 255))) (b := true) (lb_ne (lt_256p lY) (mod_255' V) H_hc.out) (by rfl) rfl rfl rfl ?_
   (try simp only [Act.put, mA, mB, mC])
   refine wpX_nil fun W7 hE => ?_
   have hO := off_ext hE
   replace k_t2 := k_t2.o hO
   replace off0 := off0.o hO
   clear hO hE
   refine LN ?_
   go_upto_region 6 with fail
   refine wp_region_lit ?_
   refine Lw ?_ (v := .agg (p3 0 0 0)) (hv := by kernel_rfl)
   refine Lp ?_ k_t2 (cells := p3 0 0 0) (hi := by rw [p3_size]; kernel_rfl) (hs := by first | rw [p3_size, p3_size] | rw [p3_size] | kernel_rfl) (h1 := by exact p3_one)
   intro W8 hO h_
   replace k_t2 : Blk W8 p2_1 (p3 0 0 0) 78 := h_
   clear h_
   replace off0 := off0.p hO fb_t2
   clear hO
   refine Lw ?_ (v := .int .i64 15)
   refine wpL_nil ?_
   go_wp2
   exact bodyPost_ret (res_row2 rfl rfl rfl k_t2 (by kernel_rfl) (by rw [p3_size]; kernel_rfl)) rfl ⟨rfl, off0.ext⟩
end Go.Proofs.YtefpoollmbmkfaaDoor
