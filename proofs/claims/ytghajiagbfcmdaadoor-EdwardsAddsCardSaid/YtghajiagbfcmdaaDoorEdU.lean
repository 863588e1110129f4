/- The document's Decode. No conditions. -/
import Derived.Test.YtghajiagbfcmdaaDoorEdQ
namespace Go.Proofs.YtghajiagbfcmdaaDoor
set_option linter.unusedSimpArgs false
set_option linter.unusedVariables false
open Go.RowKit
attribute [local irreducible] wpList

set_option maxRecDepth 100000 in
set_option maxHeartbeats 1500000 in
theorem rDec_0 {V : Nat} (hV : V < 2 ^ 256) (hok : dOk V = false) :
    ∀ w, Calls Tryd.prog 15 #[str (lb 32 V)] w fun e w' => Ret (.tuple #[.agg (p3 0 0 0), .int .i64 15]) w w' e := by
  have c_o := rFrom_s V
  obtain ⟨Y, hY⟩ : ∃ v_, v_ = V % 2 ^ 255 % PP := ⟨_, rfl⟩
  rw [← hY] at c_o
  have lY : Y < PP := by rw [hY]; exact mod_pp _
  have HY := Lib.hid hY
  clear hY
  have c_N1 := rMul_c Y Y (lt_pp lY) (lt_pp lY)
  obtain ⟨N1, hN1⟩ : ∃ v_, v_ = Y * Y % PP := ⟨_, rfl⟩
  rw [← hN1] at c_N1
  have lN1 : N1 < PP := by rw [hN1]; exact mod_pp _
  have bN1 := lt_pp lN1
  have HN1 := Lib.hid hN1
  clear hN1
  have c_N2 := rSub_c N1 1 bN1 (Nat.le_of_lt (by decide))
  obtain ⟨N2, hN2⟩ : ∃ v_, v_ = (N1 + (PP - 1) % PP) % PP := ⟨_, rfl⟩
  rw [← hN2] at c_N2
  have lN2 : N2 < PP := by rw [hN2]; exact mod_pp _
  have bN2 := lt_pp lN2
  have HN2 := Lib.hid hN2
  clear hN2
  have c_N3 := rMul_c DD N1 DD_lt bN1
  obtain ⟨N3, hN3⟩ : ∃ v_, v_ = DD * N1 % PP := ⟨_, rfl⟩
  rw [← hN3] at c_N3
  have lN3 : N3 < PP := by rw [hN3]; exact mod_pp _
  have bN3 := lt_pp lN3
  have HN3 := Lib.hid hN3
  clear hN3
  have c_N4 := rAdd_c N3 1 bN3 (by decide)
  obtain ⟨N4, hN4⟩ : ∃ v_, v_ = (N3 + 1) % PP := ⟨_, rfl⟩
  rw [← hN4] at c_N4
  have lN4 : N4 < PP := by rw [hN4]; exact mod_pp _
  have bN4 := lt_pp lN4
  have HN4 := Lib.hid hN4
  clear hN4
  have c_r := rRoot_c N2 N4 lN2 bN4
  obtain ⟨R, hR⟩ : ∃ v_, v_ = rtR N2 N4 := ⟨_, rfl⟩
  rw [← hR] at c_r
  have lR : R < PP := by rw [hR]; exact rtR_ltP _ _
  have HR := Lib.hid hR
  clear hR
  obtain ⟨B, hB⟩ : ∃ v_, v_ = rtB N2 N4 := ⟨_, rfl⟩
  rw [← hB] at c_r
  have HB := Lib.hid hB
  clear hB
  have e_0 := eq16 R 0 (lt_pp lR) (by decide)
  intro w
  have off0 : Off [] w w := Off.refl _ _
  have sz := off0.size
  go_enter Tryd.func15, Tryd.ntmps15
  go_upto_region 0 with fail
  refine wp_region_lit ?_
  refine wpL_new (z := p3 0 0 0) (t := 41) (by rfl) (by first | kernel_rfl | (go_simp; done) | (go_simp; rfl)) ?_
  (try simp only [Act.put, mA, mB, mC])
  intro p2_1 W1 n_t2 hO h_
  have fb_t2 : Fb p2_1 w.heap.size [] := fb_new (Nat.le_trans sz n_t2)
  replace off0 := off0.step hO i0
  replace sz := off0.size
  have k_t2 := h_
  clear hO h_ n_t2
  refine wpL_val (v := .int .i64 0) (by rfl) (by first | rfl | (go_simp; done) | (go_simp; with_reducible rfl) | (go_simp; omega)) ?_
  (try simp only [Act.put, mA, mB, mC])
  refine wpL_nil ?_
  by_cases ht : top V = true
  · have _f := ht
    have H_ht := Lib.hid ht
    clear _f ht
    go_upto_region 1 with fail
    refine wp_region_lit ?_
    (refine wpL_val (v := ?_) (by rfl) ?_ ?_; rotate_left 1; (focus (go_simp; first | done | with_reducible rfl)))
    (try simp only [Act.put, mA, mB, mC])
    refine wpL_val (v := .int .u8 (byt V 31)) (by rfl) (by exact run_ixlb (by decide) rfl rfl rfl) ?_
    (try simp only [Act.put, mA, mB, mC])
    refine wpL_val (v := .bool true) (by rfl) (by exact run_geqU (top_geq hV true H_ht.out) rfl rfl rfl) ?_
    (try simp only [Act.put, mA, mB, mC])
    refine wpL_val (v := .bool true) (by rfl) (by first | rfl | (go_simp; done) | (go_simp; with_reducible rfl) | (go_simp; omega)) ?_
    (try simp only [Act.put, mA, mB, mC])
    refine wpL_nil ?_
    go_upto_region 2 with fail
    refine wp_region_lit ?_
    (refine wpL_val (v := ?_) (by rfl) ?_ ?_; rotate_left 1; (focus (go_simp; first | done | with_reducible rfl)))
    (try simp only [Act.put, mA, mB, mC])
    refine wpL_ret (c_o W1) (by rfl) rfl (by kernel_rfl) rfl ?_
    (try simp only [Act.put, mA, mB, mC])
    intro W2 hO
    replace k_t2 := blk_off k_t2 hO nm0
    replace off0 := off0.step hO i0
    replace sz := off0.size
    clear hO
    refine wpL_new (z := arrK .i64 16 (l16 0)) (t := 39) (by rfl) (by first | kernel_rfl | (go_simp; done) | (go_simp; rfl)) ?_
    (try simp only [Act.put, mA, mB, mC])
    intro p5_3 W3 n_t5 hO h_
    have nq_t2_t5 : p2_1 ≠ p5_3 := Nat.ne_of_lt (Nat.lt_of_lt_of_le (blk_lt k_t2) n_t5)
    have fb_t5 : Fb p5_3 w.heap.size [] := fb_new (Nat.le_trans sz n_t5)
    replace k_t2 := blk_off k_t2 hO nm0
    replace off0 := off0.step hO i0
    replace sz := off0.size
    have k_t5 := h_
    clear hO h_ n_t5
    refine wpL_putrow (cells := arrK .i64 16 (l16 Y)) (by rfl) rfl rfl rfl k_t5 (by rw [arrK_size]; kernel_rfl) (by first | rw [arrK_size, arrK_size] | rw [arrK_size] | kernel_rfl) (by exact arrK_one _ _ _) ?_
    (try simp only [Act.put, mA, mB, mC])
    intro W4 hO h_
    replace k_t5 : Blk W4 p5_3 (arrK .i64 16 (l16 Y)) 39 := h_
    clear h_
    replace k_t2 := blk_off k_t2 hO (nm1 nq_t2_t5)
    replace off0 := off0.step hO (i1 fb_t5)
    replace sz := off0.size
    clear hO
    refine wpL_nil ?_
    go_upto_region 3 with fail
    refine wp_region_lit ?_
    (refine wpL_val (v := ?_) (by rfl) ?_ ?_; rotate_left 1; (focus (go_simp; first | done | with_reducible rfl)))
    (try simp only [Act.put, mA, mB, mC])
    refine wpL_bytes (l := (lb 32 V)) (by first | omega | (rw [lb_length]; decide)) (by rfl) rfl rfl ?_
    (try simp only [Act.put, mA, mB, mC])
    intro p16_5 c_y16 cs_y16 W5 n_y16 hO h_ c1_y16 c2_y16 c3_y16 c4_y16
    have nq_t2_y16 : p2_1 ≠ p16_5 := Nat.ne_of_lt (Nat.lt_of_lt_of_le (blk_lt k_t2) n_y16)
    have nq_t5_y16 : p5_3 ≠ p16_5 := Nat.ne_of_lt (Nat.lt_of_lt_of_le (blk_lt k_t5) n_y16)
    have fb_y16 : Fb p16_5 w.heap.size [] := fb_new (Nat.le_trans sz n_y16)
    replace k_t2 := blk_off k_t2 hO nm0
    replace k_t5 := blk_off k_t5 hO nm0
    replace off0 := off0.step hO i0
    replace sz := off0.size
    have k_y16 := h_
    clear hO h_ n_y16
    have ow_z16 : Sl W5 (.slice (some ⟨p16_5, 0, none⟩) (lb 32 V).length c_y16) (lb 32 V) := sl_blz k_y16 c1_y16 c2_y16 c4_y16
    have ne_z16_t2 : sb (.slice (some ⟨p16_5, 0, none⟩) (lb 32 V).length c_y16) (lb 32 V) ≠ some p2_1 := sb_ne nq_t2_y16.symm
    have ne_z16_t5 : sb (.slice (some ⟨p16_5, 0, none⟩) (lb 32 V).length c_y16) (lb 32 V) ≠ some p5_3 := sb_ne nq_t5_y16.symm
    (refine wpL_val (v := ?_) (by rfl) ?_ ?_; rotate_left 1; (focus (go_simp; first | done | with_reducible rfl)))
    (try simp only [Act.put, mA, mB, mC])
    refine wpL_nil ?_
    go_upto_region 4 with fail
    refine wp_region_lit ?_
    (refine wpL_val (v := ?_) (by rfl) ?_ ?_; rotate_left 1; (focus (go_simp; first | done | with_reducible rfl)))
    (try simp only [Act.put, mA, mB, mC])
    (refine wpL_val (v := ?_) (by rfl) ?_ ?_; rotate_left 1; (focus (go_simp; first | done | with_reducible rfl)))
    (try simp only [Act.put, mA, mB, mC])
    refine wpL_ixa (j := 31) (by rw [lb_length]; decide) (by rfl) rfl rfl rfl ?_
    (try simp only [Act.put, mA, mB, mC])
    have hc_ : W5.cell? ⟨p16_5, 0 + 31, none⟩ = some (.int .u8 (byt V 31)) := by rw [blz_cell k_y16, Nat.zero_add]; exact take_cell (by rw [← lb_length 32 V]; exact c4_y16) (by decide)
    refine wpL_at (v := .int .u8 (byt V 31)) (by rfl) rfl rfl hc_ (by kernel_rfl) ?_
    (try simp only [Act.put, mA, mB, mC])
    clear hc_
    refine wpL_val (v := .int .u8 (bits .and .u8 (byt V 31) 127)) (by rfl) (by exact run_andU rfl rfl rfl rfl) ?_
    (try simp only [Act.put, mA, mB, mC])
    refine wpL_ixa (j := 31) (by rw [lb_length]; decide) (by rfl) rfl rfl rfl ?_
    (try simp only [Act.put, mA, mB, mC])
    refine wpL_putz (v := .int .u8 (bits .and .u8 (byt V 31) 127)) ⟨rfl, rfl⟩ (by rfl) rfl rfl rfl k_y16 (by rw [c3_y16, Nat.zero_add]; have := c1_y16; rw [lb_length] at this; omega) (by kernel_rfl) ?_
    (try simp only [Act.put, mA, mB, mC])
    intro W6 hO h_
    have c4n := take_set (cs := cs_y16) (by rw [← lb_length 32 V]; exact c4_y16) (clr31c hV)
    rw [Nat.zero_add] at h_
    replace k_t2 := blk_off k_t2 hO (nm1 nq_t2_y16)
    replace k_t5 := blk_off k_t5 hO (nm1 nq_t5_y16)
    replace off0 := off0.step hO (i1 fb_y16)
    replace sz := off0.size
    clear hO
    replace k_y16 := h_
    clear h_
    have h1_ : (lb 32 (V % 2 ^ 255)).length = (lb 32 V).length := by rw [lb_length, lb_length]
    replace ow_z16 : Sl W6 (.slice (some ⟨p16_5, 0, none⟩) (lb 32 V).length c_y16) (lb 32 (V % 2 ^ 255)) := by have := sl_blz (l := lb 32 (V % 2 ^ 255)) k_y16 (by rw [h1_]; exact c1_y16) c2_y16 (by rw [lb_length]; exact c4n); rwa [h1_] at this
    clear h1_ c4_y16
    replace ne_z16_t2 : sb (.slice (some ⟨p16_5, 0, none⟩) (lb 32 V).length c_y16) (lb 32 (V % 2 ^ 255)) ≠ some p2_1 := sb_ne nq_t2_y16.symm
    replace ne_z16_t5 : sb (.slice (some ⟨p16_5, 0, none⟩) (lb 32 V).length c_y16) (lb 32 (V % 2 ^ 255)) ≠ some p5_3 := sb_ne nq_t5_y16.symm
    refine wpL_nil ?_
    by_cases hc : Y = V % 2 ^ 255
    · have _f := hc
      have H_hc := Lib.hid hc
      clear _f hc
      go_upto_region 5 with fail
      refine wp_region_xn 5 [] (by kernel_rfl) (fun x hx => by cases hx) (by kernel_rfl) ?_
      simp only [List.take_succ_cons, List.take_zero, List.take_nil]
      (try simp only [Act.put, mA, mB, mC])
      refine wpX_load (by rfl) rfl rfl (blk_rd k_t5) (by kernel_rfl) (by rw [arrK_size]; kernel_rfl) ?_
      (try simp only [Act.put, mA, mB, mC])
      ((with_reducible refine wpX_fn (fun W hW => rBytes_s Y W) ?_ rfl ?_ ?_ ?_); (focus rfl); (focus kernel_rfl); (focus rfl); (try simp only [Act.put, mA, mB, mC]))
      (refine wpX_val (v := ?_) (by rfl) (fun W hW => ?_) ?_; rotate_left 1; (focus (go_simp; first | done | with_reducible rfl)); (try simp only [Act.put, mA, mB, mC]))
      refine wpX_str (l := (lb 32 (V % 2 ^ 255))) (fun W hW => sl_ext ow_z16 hW) (by rfl) rfl rfl ?_
      (try simp only [Act.put, mA, mB, mC])
      refine wpX_strne (l := (lb 32 Y)) (m := (lb 32 (V % 2 ^ 255))) (b := false) (lb_eq H_hc.out) (by rfl) rfl rfl rfl ?_
      (try simp only [Act.put, mA, mB, mC])
      refine wpX_nil ?_
      intro β W7 hE hN hD
      clear hN hD
      simp only [putAll, Act.put, mA, mB, mC, List.drop_succ_cons, List.drop_zero, List.drop_nil, List.length_cons, List.length_nil, Nat.add_zero]
      have hO := off_ext hE
      replace k_t2 := blk_off k_t2 hO nm0
      replace k_t5 := blk_off k_t5 hO nm0
      replace k_y16 := blz_off k_y16 hO nm0
      replace ow_z16 := Sl.off ow_z16 hO f0
      replace off0 := off0.step hO i0
      replace sz := off0.size
      clear hO hE β
      refine wpL_nil ?_
      first | with_reducible refine NoPanic.normal (Q := Exit.then _ _) ?_ | with_reducible refine NoPanic.normal ?_
      go_upto_region 7 with fail
      refine wp_region_lit ?_
      refine wpL_load0 (by rfl) rfl rfl k_t5 (by kernel_rfl) (by rw [arrK_size]; kernel_rfl) ?_
      (try simp only [Act.put, mA, mB, mC])
      refine wpL_load0 (by rfl) rfl rfl k_t5 (by kernel_rfl) (by rw [arrK_size]; kernel_rfl) ?_
      (try simp only [Act.put, mA, mB, mC])
      refine wpL_ret (c_N1 W7) (by rfl) rfl (by kernel_rfl) rfl ?_
      (try simp only [Act.put, mA, mB, mC])
      intro W8 hO
      replace k_t2 := blk_off k_t2 hO nm0
      replace k_t5 := blk_off k_t5 hO nm0
      replace k_y16 := blz_off k_y16 hO nm0
      replace ow_z16 := Sl.off ow_z16 hO f0
      replace off0 := off0.step hO i0
      replace sz := off0.size
      clear hO
      refine wpL_new (z := arrK .i64 16 (l16 0)) (t := 39) (by rfl) (by first | kernel_rfl | (go_simp; done) | (go_simp; rfl)) ?_
      (try simp only [Act.put, mA, mB, mC])
      intro p7_9 W9 n_t7 hO h_
      have nq_t2_t7 : p2_1 ≠ p7_9 := Nat.ne_of_lt (Nat.lt_of_lt_of_le (blk_lt k_t2) n_t7)
      have nq_t5_t7 : p5_3 ≠ p7_9 := Nat.ne_of_lt (Nat.lt_of_lt_of_le (blk_lt k_t5) n_t7)
      have nq_y16_t7 : p16_5 ≠ p7_9 := Nat.ne_of_lt (Nat.lt_of_lt_of_le (blz_lt k_y16) n_t7)
      have ne_z16_t7 := ne_new (Sl.lt ow_z16) n_t7
      have fb_t7 : Fb p7_9 w.heap.size [] := fb_new (Nat.le_trans sz n_t7)
      replace k_t2 := blk_off k_t2 hO nm0
      replace k_t5 := blk_off k_t5 hO nm0
      replace k_y16 := blz_off k_y16 hO nm0
      replace ow_z16 := Sl.off ow_z16 hO f0
      replace off0 := off0.step hO i0
      replace sz := off0.size
      have k_t7 := h_
      clear hO h_ n_t7
      refine wpL_putrow (cells := arrK .i64 16 (l16 N1)) (by rfl) rfl rfl rfl k_t7 (by rw [arrK_size]; kernel_rfl) (by first | rw [arrK_size, arrK_size] | rw [arrK_size] | kernel_rfl) (by exact arrK_one _ _ _) ?_
      (try simp only [Act.put, mA, mB, mC])
      intro W10 hO h_
      replace k_t7 : Blk W10 p7_9 (arrK .i64 16 (l16 N1)) 39 := h_
      clear h_
      replace k_t2 := blk_off k_t2 hO (nm1 nq_t2_t7)
      replace k_t5 := blk_off k_t5 hO (nm1 nq_t5_t7)
      replace k_y16 := blz_off k_y16 hO (nm1 nq_y16_t7)
      replace ow_z16 := Sl.off ow_z16 hO (f1 ne_z16_t7)
      replace off0 := off0.step hO (i1 fb_t7)
      replace sz := off0.size
      clear hO
      refine wpL_nil ?_
      have qRx : R = dX Y := by unfold dX; rw [HR.out, dU_r Y HN1.out HN2.out]; unfold dV; rw [HN4.out, HN3.out, HN1.out]
      have qBx : B = dB Y := by unfold dB; rw [HB.out, dU_r Y HN1.out HN2.out]; unfold dV; rw [HN4.out, HN3.out, HN1.out]
      have hRx := Lib.hid qRx
      have hBx := Lib.hid qBx
      clear qRx qBx
      by_cases hb : B = true
      · have _f := hb
        have H_hb := Lib.hid hb
        clear _f hb
        go_upto_region 8 with fail
        refine wp_region_xn 12 [⟨12, 8, arrK .i64 16 (l16 0), 39⟩] (by kernel_rfl) ?_ (by kernel_rfl) ?_
        · intro x hx
          simp only [List.mem_cons, List.not_mem_nil, or_false] at hx
          subst hx; exact ⟨_, rfl, rfl, rfl, fun _ _ => by kernel_rfl⟩
        simp only [List.take_succ_cons, List.take_zero, List.take_nil]
        (try simp only [Act.put, mA, mB, mC])
        refine wpX_load (by rfl) rfl rfl (blk_rd k_t7) (by kernel_rfl) (by rw [arrK_size]; kernel_rfl) ?_
        (try simp only [Act.put, mA, mB, mC])
        refine wpX_val (v := .agg (arrK .i64 16 (l16 1))) (by rfl) (fun _ _ => by kernel_rfl) ?_
        (try simp only [Act.put, mA, mB, mC])
        ((with_reducible refine wpX_fn (fun W hW => c_N2 W) ?_ rfl ?_ ?_ ?_); (focus rfl); (focus kernel_rfl); (focus rfl); (try simp only [Act.put, mA, mB, mC]))
        ((with_reducible refine wpX_fn (fun W hW => rD_c W) ?_ rfl ?_ ?_ ?_); (focus rfl); (focus kernel_rfl); (focus rfl); (try simp only [Act.put, mA, mB, mC]))
        refine wpX_load (by rfl) rfl rfl (blk_rd k_t7) (by kernel_rfl) (by rw [arrK_size]; kernel_rfl) ?_
        (try simp only [Act.put, mA, mB, mC])
        ((with_reducible refine wpX_fn (fun W hW => c_N3 W) ?_ rfl ?_ ?_ ?_); (focus rfl); (focus kernel_rfl); (focus rfl); (try simp only [Act.put, mA, mB, mC]))
        refine wpX_val (v := .agg (arrK .i64 16 (l16 1))) (by rfl) (fun _ _ => by kernel_rfl) ?_
        (try simp only [Act.put, mA, mB, mC])
        ((with_reducible refine wpX_fn (fun W hW => c_N4 W) ?_ rfl ?_ ?_ ?_); (focus rfl); (focus kernel_rfl); (focus rfl); (try simp only [Act.put, mA, mB, mC]))
        rw [H_hb.out] at c_r
        ((with_reducible refine wpX_fn (fun W hW => c_r W) ?_ rfl ?_ ?_ ?_); (focus rfl); (focus kernel_rfl); (focus rfl); (try simp only [Act.put, mA, mB, mC]))
        (refine wpX_val (v := ?_) (by rfl) (fun W hW => ?_) ?_; rotate_left 1; (focus (go_simp; first | done | with_reducible rfl)); (try simp only [Act.put, mA, mB, mC]))
        (refine wpX_val (v := ?_) (by rfl) (fun W hW => ?_) ?_; rotate_left 1; (focus (go_simp; first | done | with_reducible rfl)); (try simp only [Act.put, mA, mB, mC]))
        (refine wpX_val (v := ?_) (by rfl) (fun W hW => ?_) ?_; rotate_left 1; (focus (go_simp; first | done | with_reducible rfl)); (try simp only [Act.put, mA, mB, mC]))
        refine wpX_nil ?_
        intro β W11 hE hN hD
        obtain ⟨n_t8, h_t8⟩ := hN _ (List.mem_cons_self ..)
        clear hN hD
        simp only [putAll, Act.put, mA, mB, mC, List.drop_succ_cons, List.drop_zero, List.drop_nil, List.length_cons, List.length_nil, Nat.add_zero] at n_t8 h_t8 ⊢
        have hO := off_ext hE
        generalize β 12 = p8_11 at *
        have nq_t2_t8 : p2_1 ≠ p8_11 := Nat.ne_of_lt (Nat.lt_of_lt_of_le (blk_lt k_t2) n_t8)
        have nq_t5_t8 : p5_3 ≠ p8_11 := Nat.ne_of_lt (Nat.lt_of_lt_of_le (blk_lt k_t5) n_t8)
        have nq_y16_t8 : p16_5 ≠ p8_11 := Nat.ne_of_lt (Nat.lt_of_lt_of_le (blz_lt k_y16) n_t8)
        have nq_t7_t8 : p7_9 ≠ p8_11 := Nat.ne_of_lt (Nat.lt_of_lt_of_le (blk_lt k_t7) n_t8)
        have ne_z16_t8 := ne_new (Sl.lt ow_z16) n_t8
        have fb_t8 : Fb p8_11 w.heap.size [] := fb_new (Nat.le_trans sz n_t8)
        replace k_t2 := blk_off k_t2 hO nm0
        replace k_t5 := blk_off k_t5 hO nm0
        replace k_y16 := blz_off k_y16 hO nm0
        replace k_t7 := blk_off k_t7 hO nm0
        replace ow_z16 := Sl.off ow_z16 hO f0
        replace off0 := off0.step hO i0
        replace sz := off0.size
        clear hO hE β n_t8
        have k_t8 : Blk W11 p8_11 (arrK .i64 16 (l16 0)) 39 := h_t8
        clear h_t8
        refine wpL_putrow (cells := arrK .i64 16 (l16 R)) (by rfl) rfl rfl rfl k_t8 (by rw [arrK_size]; kernel_rfl) (by first | rw [arrK_size, arrK_size] | rw [arrK_size] | kernel_rfl) (by exact arrK_one _ _ _) ?_
        (try simp only [Act.put, mA, mB, mC])
        intro W12 hO h_
        replace k_t8 : Blk W12 p8_11 (arrK .i64 16 (l16 R)) 39 := h_
        clear h_
        replace k_t2 := blk_off k_t2 hO (nm1 nq_t2_t8)
        replace k_t5 := blk_off k_t5 hO (nm1 nq_t5_t8)
        replace k_y16 := blz_off k_y16 hO (nm1 nq_y16_t8)
        replace k_t7 := blk_off k_t7 hO (nm1 nq_t7_t8)
        replace ow_z16 := Sl.off ow_z16 hO (f1 ne_z16_t8)
        replace off0 := off0.step hO (i1 fb_t8)
        replace sz := off0.size
        clear hO
        refine wpL_val (v := .bool true) (by rfl) (by first | rfl | (go_simp; done) | (go_simp; with_reducible rfl) | (go_simp; omega)) ?_
        (try simp only [Act.put, mA, mB, mC])
        refine wpL_nil ?_
        first | with_reducible refine NoPanic.normal (Q := Exit.then _ _) ?_ | with_reducible refine NoPanic.normal ?_
        by_cases h0 : R = 0
        · have _f := h0
          have H_h0 := Lib.hid h0
          clear _f h0
          go_upto_region 9 with fail
          refine wp_region_lit ?_
          refine wpL_val (v := .bool true) (by rfl) (by first | rfl | (go_simp; done) | (go_simp; with_reducible rfl) | (go_simp; omega)) ?_
          (try simp only [Act.put, mA, mB, mC])
          refine wpL_val (v := .bool false) (by rfl) (by first | rfl | (go_simp; done) | (go_simp; with_reducible rfl) | (go_simp; omega)) ?_
          (try simp only [Act.put, mA, mB, mC])
          refine wpL_val (v := .bool false) (by rfl) (by first | rfl | (go_simp; done) | (go_simp; with_reducible rfl) | (go_simp; omega)) ?_
          (try simp only [Act.put, mA, mB, mC])
          refine wpL_load0 (by rfl) rfl rfl k_t8 (by kernel_rfl) (by rw [arrK_size]; kernel_rfl) ?_
          (try simp only [Act.put, mA, mB, mC])
          refine wpL_val (v := .agg (arrK .i64 16 (l16 0))) (by rfl) (by kernel_rfl) ?_
          (try simp only [Act.put, mA, mB, mC])
          rw [decide_eq_true H_h0.out] at e_0
          refine wpL_eqlA (e_0) (by kernel_rfl) (by rfl) rfl rfl rfl ?_
          (try simp only [Act.put, mA, mB, mC])
          refine wpL_val (v := .bool true) (by rfl) (by first | rfl | (go_simp; done) | (go_simp; with_reducible rfl) | (go_simp; omega)) ?_
          (try simp only [Act.put, mA, mB, mC])
          refine wpL_val (v := .bool true) (by rfl) (by first | rfl | (go_simp; done) | (go_simp; with_reducible rfl) | (go_simp; omega)) ?_
          (try simp only [Act.put, mA, mB, mC])
          refine wpL_val (v := .bool true) (by rfl) (by first | rfl | (go_simp; done) | (go_simp; with_reducible rfl) | (go_simp; omega)) ?_
          (try simp only [Act.put, mA, mB, mC])
          refine wpL_val (v := .bool true) (by rfl) (by first | rfl | (go_simp; done) | (go_simp; with_reducible rfl) | (go_simp; omega)) ?_
          (try simp only [Act.put, mA, mB, mC])
          refine wpL_nil ?_
          go_upto_region 10 with fail
          refine wp_region_lit ?_
          refine wpL_val (v := .agg (p3 0 0 0)) (by rfl) (by kernel_rfl) ?_
          (try simp only [Act.put, mA, mB, mC])
          refine wpL_putrow (cells := p3 0 0 0) (by rfl) rfl rfl rfl k_t2 (by rw [p3_size]; kernel_rfl) (by first | rw [p3_size, p3_size] | rw [p3_size] | kernel_rfl) (by exact p3_one) ?_
          (try simp only [Act.put, mA, mB, mC])
          intro W13 hO h_
          replace k_t2 : Blk W13 p2_1 (p3 0 0 0) 41 := h_
          clear h_
          replace k_t5 := blk_off k_t5 hO (nm1 nq_t2_t5.symm)
          replace k_y16 := blz_off k_y16 hO (nm1 nq_t2_y16.symm)
          replace k_t7 := blk_off k_t7 hO (nm1 nq_t2_t7.symm)
          replace k_t8 := blk_off k_t8 hO (nm1 nq_t2_t8.symm)
          replace ow_z16 := Sl.off ow_z16 hO (f1 ne_z16_t2)
          replace off0 := off0.step hO (i1 fb_t2)
          replace sz := off0.size
          clear hO
          refine wpL_val (v := .int .i64 15) (by rfl) (by first | rfl | (go_simp; done) | (go_simp; with_reducible rfl) | (go_simp; omega)) ?_
          (try simp only [Act.put, mA, mB, mC])
          refine wpL_nil ?_
          go_wp2
          exact bodyPost_ret (res_row2 rfl rfl rfl k_t2 (by kernel_rfl) (by rw [p3_size]; kernel_rfl)) rfl ⟨rfl, off0.ext⟩
        · have _f := h0
          have H_h0 := Lib.hid h0
          clear _f h0
          go_upto_region 9 with fail
          refine wp_region_lit ?_
          refine wpL_val (v := .bool true) (by rfl) (by first | rfl | (go_simp; done) | (go_simp; with_reducible rfl) | (go_simp; omega)) ?_
          (try simp only [Act.put, mA, mB, mC])
          refine wpL_val (v := .bool false) (by rfl) (by first | rfl | (go_simp; done) | (go_simp; with_reducible rfl) | (go_simp; omega)) ?_
          (try simp only [Act.put, mA, mB, mC])
          refine wpL_val (v := .bool false) (by rfl) (by first | rfl | (go_simp; done) | (go_simp; with_reducible rfl) | (go_simp; omega)) ?_
          (try simp only [Act.put, mA, mB, mC])
          refine wpL_load0 (by rfl) rfl rfl k_t8 (by kernel_rfl) (by rw [arrK_size]; kernel_rfl) ?_
          (try simp only [Act.put, mA, mB, mC])
          refine wpL_val (v := .agg (arrK .i64 16 (l16 0))) (by rfl) (by kernel_rfl) ?_
          (try simp only [Act.put, mA, mB, mC])
          rw [decide_eq_false H_h0.out] at e_0
          refine wpL_eqlA (e_0) (by kernel_rfl) (by rfl) rfl rfl rfl ?_
          (try simp only [Act.put, mA, mB, mC])
          refine wpL_val (v := .bool false) (by rfl) (by first | rfl | (go_simp; done) | (go_simp; with_reducible rfl) | (go_simp; omega)) ?_
          (try simp only [Act.put, mA, mB, mC])
          refine wpL_skip (by rfl) ?_
          (try simp only [Act.put, mA, mB, mC])
          refine wpL_val (v := .bool false) (by rfl) (by first | rfl | (go_simp; done) | (go_simp; with_reducible rfl) | (go_simp; omega)) ?_
          (try simp only [Act.put, mA, mB, mC])
          refine wpL_val (v := .bool false) (by rfl) (by first | rfl | (go_simp; done) | (go_simp; with_reducible rfl) | (go_simp; omega)) ?_
          (try simp only [Act.put, mA, mB, mC])
          refine wpL_nil ?_
          exact absurd (dOk_all (H_hc.out ▸ lY) (by rw [← H_hc.out, ← hBx.out]; exact H_hb.out) (fun h => H_h0.out (by rw [hRx.out, H_hc.out]; exact h.2))) (by rw [hok]; decide)
      · have _f := hb
        rw [Bool.not_eq_true] at hb _f
        have H_hb := Lib.hid hb
        clear _f hb
        go_upto_region 8 with fail
        refine wp_region_xn 12 [⟨12, 8, arrK .i64 16 (l16 0), 39⟩] (by kernel_rfl) ?_ (by kernel_rfl) ?_
        · intro x hx
          simp only [List.mem_cons, List.not_mem_nil, or_false] at hx
          subst hx; exact ⟨_, rfl, rfl, rfl, fun _ _ => by kernel_rfl⟩
        simp only [List.take_succ_cons, List.take_zero, List.take_nil]
        (try simp only [Act.put, mA, mB, mC])
        refine wpX_load (by rfl) rfl rfl (blk_rd k_t7) (by kernel_rfl) (by rw [arrK_size]; kernel_rfl) ?_
        (try simp only [Act.put, mA, mB, mC])
        refine wpX_val (v := .agg (arrK .i64 16 (l16 1))) (by rfl) (fun _ _ => by kernel_rfl) ?_
        (try simp only [Act.put, mA, mB, mC])
        ((with_reducible refine wpX_fn (fun W hW => c_N2 W) ?_ rfl ?_ ?_ ?_); (focus rfl); (focus kernel_rfl); (focus rfl); (try simp only [Act.put, mA, mB, mC]))
        ((with_reducible refine wpX_fn (fun W hW => rD_c W) ?_ rfl ?_ ?_ ?_); (focus rfl); (focus kernel_rfl); (focus rfl); (try simp only [Act.put, mA, mB, mC]))
        refine wpX_load (by rfl) rfl rfl (blk_rd k_t7) (by kernel_rfl) (by rw [arrK_size]; kernel_rfl) ?_
        (try simp only [Act.put, mA, mB, mC])
        ((with_reducible refine wpX_fn (fun W hW => c_N3 W) ?_ rfl ?_ ?_ ?_); (focus rfl); (focus kernel_rfl); (focus rfl); (try simp only [Act.put, mA, mB, mC]))
        refine wpX_val (v := .agg (arrK .i64 16 (l16 1))) (by rfl) (fun _ _ => by kernel_rfl) ?_
        (try simp only [Act.put, mA, mB, mC])
        ((with_reducible refine wpX_fn (fun W hW => c_N4 W) ?_ rfl ?_ ?_ ?_); (focus rfl); (focus kernel_rfl); (focus rfl); (try simp only [Act.put, mA, mB, mC]))
        rw [H_hb.out] at c_r
        ((with_reducible refine wpX_fn (fun W hW => c_r W) ?_ rfl ?_ ?_ ?_); (focus rfl); (focus kernel_rfl); (focus rfl); (try simp only [Act.put, mA, mB, mC]))
        (refine wpX_val (v := ?_) (by rfl) (fun W hW => ?_) ?_; rotate_left 1; (focus (go_simp; first | done | with_reducible rfl)); (try simp only [Act.put, mA, mB, mC]))
        (refine wpX_val (v := ?_) (by rfl) (fun W hW => ?_) ?_; rotate_left 1; (focus (go_simp; first | done | with_reducible rfl)); (try simp only [Act.put, mA, mB, mC]))
        (refine wpX_val (v := ?_) (by rfl) (fun W hW => ?_) ?_; rotate_left 1; (focus (go_simp; first | done | with_reducible rfl)); (try simp only [Act.put, mA, mB, mC]))
        refine wpX_nil ?_
        intro β W11 hE hN hD
        obtain ⟨n_t8, h_t8⟩ := hN _ (List.mem_cons_self ..)
        clear hN hD
        simp only [putAll, Act.put, mA, mB, mC, List.drop_succ_cons, List.drop_zero, List.drop_nil, List.length_cons, List.length_nil, Nat.add_zero] at n_t8 h_t8 ⊢
        have hO := off_ext hE
        generalize β 12 = p8_11 at *
        have nq_t2_t8 : p2_1 ≠ p8_11 := Nat.ne_of_lt (Nat.lt_of_lt_of_le (blk_lt k_t2) n_t8)
        have nq_t5_t8 : p5_3 ≠ p8_11 := Nat.ne_of_lt (Nat.lt_of_lt_of_le (blk_lt k_t5) n_t8)
        have nq_y16_t8 : p16_5 ≠ p8_11 := Nat.ne_of_lt (Nat.lt_of_lt_of_le (blz_lt k_y16) n_t8)
        have nq_t7_t8 : p7_9 ≠ p8_11 := Nat.ne_of_lt (Nat.lt_of_lt_of_le (blk_lt k_t7) n_t8)
        have ne_z16_t8 := ne_new (Sl.lt ow_z16) n_t8
        have fb_t8 : Fb p8_11 w.heap.size [] := fb_new (Nat.le_trans sz n_t8)
        replace k_t2 := blk_off k_t2 hO nm0
        replace k_t5 := blk_off k_t5 hO nm0
        replace k_y16 := blz_off k_y16 hO nm0
        replace k_t7 := blk_off k_t7 hO nm0
        replace ow_z16 := Sl.off ow_z16 hO f0
        replace off0 := off0.step hO i0
        replace sz := off0.size
        clear hO hE β n_t8
        have k_t8 : Blk W11 p8_11 (arrK .i64 16 (l16 0)) 39 := h_t8
        clear h_t8
        refine wpL_putrow (cells := arrK .i64 16 (l16 R)) (by rfl) rfl rfl rfl k_t8 (by rw [arrK_size]; kernel_rfl) (by first | rw [arrK_size, arrK_size] | rw [arrK_size] | kernel_rfl) (by exact arrK_one _ _ _) ?_
        (try simp only [Act.put, mA, mB, mC])
        intro W12 hO h_
        replace k_t8 : Blk W12 p8_11 (arrK .i64 16 (l16 R)) 39 := h_
        clear h_
        replace k_t2 := blk_off k_t2 hO (nm1 nq_t2_t8)
        replace k_t5 := blk_off k_t5 hO (nm1 nq_t5_t8)
        replace k_y16 := blz_off k_y16 hO (nm1 nq_y16_t8)
        replace k_t7 := blk_off k_t7 hO (nm1 nq_t7_t8)
        replace ow_z16 := Sl.off ow_z16 hO (f1 ne_z16_t8)
        replace off0 := off0.step hO (i1 fb_t8)
        replace sz := off0.size
        clear hO
        refine wpL_val (v := .bool false) (by rfl) (by first | rfl | (go_simp; done) | (go_simp; with_reducible rfl) | (go_simp; omega)) ?_
        (try simp only [Act.put, mA, mB, mC])
        refine wpL_nil ?_
        first | with_reducible refine NoPanic.normal (Q := Exit.then _ _) ?_ | with_reducible refine NoPanic.normal ?_
        go_upto_region 9 with fail
        refine wp_region_lit ?_
        refine wpL_val (v := .bool false) (by rfl) (by first | rfl | (go_simp; done) | (go_simp; with_reducible rfl) | (go_simp; omega)) ?_
        (try simp only [Act.put, mA, mB, mC])
        refine wpL_val (v := .bool true) (by rfl) (by first | rfl | (go_simp; done) | (go_simp; with_reducible rfl) | (go_simp; omega)) ?_
        (try simp only [Act.put, mA, mB, mC])
        refine wpL_val (v := .bool true) (by rfl) (by first | rfl | (go_simp; done) | (go_simp; with_reducible rfl) | (go_simp; omega)) ?_
        (try simp only [Act.put, mA, mB, mC])
        refine wpL_skip (by rfl) ?_
        (try simp only [Act.put, mA, mB, mC])
        refine wpL_skip (by rfl) ?_
        (try simp only [Act.put, mA, mB, mC])
        refine wpL_skip (by rfl) ?_
        (try simp only [Act.put, mA, mB, mC])
        refine wpL_skip (by rfl) ?_
        (try simp only [Act.put, mA, mB, mC])
        refine wpL_skip (by rfl) ?_
        (try simp only [Act.put, mA, mB, mC])
        refine wpL_skip (by rfl) ?_
        (try simp only [Act.put, mA, mB, mC])
        refine wpL_val (v := .bool true) (by rfl) (by first | rfl | (go_simp; done) | (go_simp; with_reducible rfl) | (go_simp; omega)) ?_
        (try simp only [Act.put, mA, mB, mC])
        refine wpL_nil ?_
        go_upto_region 10 with fail
        refine wp_region_lit ?_
        refine wpL_val (v := .agg (p3 0 0 0)) (by rfl) (by kernel_rfl) ?_
        (try simp only [Act.put, mA, mB, mC])
        refine wpL_putrow (cells := p3 0 0 0) (by rfl) rfl rfl rfl k_t2 (by rw [p3_size]; kernel_rfl) (by first | rw [p3_size, p3_size] | rw [p3_size] | kernel_rfl) (by exact p3_one) ?_
        (try simp only [Act.put, mA, mB, mC])
        intro W13 hO h_
        replace k_t2 : Blk W13 p2_1 (p3 0 0 0) 41 := h_
        clear h_
        replace k_t5 := blk_off k_t5 hO (nm1 nq_t2_t5.symm)
        replace k_y16 := blz_off k_y16 hO (nm1 nq_t2_y16.symm)
        replace k_t7 := blk_off k_t7 hO (nm1 nq_t2_t7.symm)
        replace k_t8 := blk_off k_t8 hO (nm1 nq_t2_t8.symm)
        replace ow_z16 := Sl.off ow_z16 hO (f1 ne_z16_t2)
        replace off0 := off0.step hO (i1 fb_t2)
        replace sz := off0.size
        clear hO
        refine wpL_val (v := .int .i64 15) (by rfl) (by first | rfl | (go_simp; done) | (go_simp; with_reducible rfl) | (go_simp; omega)) ?_
        (try simp only [Act.put, mA, mB, mC])
        refine wpL_nil ?_
        go_wp2
        exact bodyPost_ret (res_row2 rfl rfl rfl k_t2 (by kernel_rfl) (by rw [p3_size]; kernel_rfl)) rfl ⟨rfl, off0.ext⟩
    · have _f := hc
      have H_hc := Lib.hid hc
      clear _f hc
      go_upto_region 5 with fail
      refine wp_region_xn 5 [] (by kernel_rfl) (fun x hx => by cases hx) (by kernel_rfl) ?_
      simp only [List.take_succ_cons, List.take_zero, List.take_nil]
      (try simp only [Act.put, mA, mB, mC])
      refine wpX_load (by rfl) rfl rfl (blk_rd k_t5) (by kernel_rfl) (by rw [arrK_size]; kernel_rfl) ?_
      (try simp only [Act.put, mA, mB, mC])
      ((with_reducible refine wpX_fn (fun W hW => rBytes_s Y W) ?_ rfl ?_ ?_ ?_); (focus rfl); (focus kernel_rfl); (focus rfl); (try simp only [Act.put, mA, mB, mC]))
      (refine wpX_val (v := ?_) (by rfl) (fun W hW => ?_) ?_; rotate_left 1; (focus (go_simp; first | done | with_reducible rfl)); (try simp only [Act.put, mA, mB, mC]))
      refine wpX_str (l := (lb 32 (V % 2 ^ 255))) (fun W hW => sl_ext ow_z16 hW) (by rfl) rfl rfl ?_
      (try simp only [Act.put, mA, mB, mC])
      refine wpX_strne (l := (lb 32 Y)) (m := (lb 32 (V % 2 ^ 255))) (b := true) (lb_ne (lt_256p lY) (mod_255' V) H_hc.out) (by rfl) rfl rfl rfl ?_
      (try simp only [Act.put, mA, mB, mC])
      refine wpX_nil ?_
      intro β W7 hE hN hD
      clear hN hD
      simp only [putAll, Act.put, mA, mB, mC, List.drop_succ_cons, List.drop_zero, List.drop_nil, List.length_cons, List.length_nil, Nat.add_zero]
      have hO := off_ext hE
      replace k_t2 := blk_off k_t2 hO nm0
      replace k_t5 := blk_off k_t5 hO nm0
      replace k_y16 := blz_off k_y16 hO nm0
      replace ow_z16 := Sl.off ow_z16 hO f0
      replace off0 := off0.step hO i0
      replace sz := off0.size
      clear hO hE β
      refine wpL_nil ?_
      first | with_reducible refine NoPanic.normal (Q := Exit.then _ _) ?_ | with_reducible refine NoPanic.normal ?_
      go_upto_region 6 with fail
      refine wp_region_lit ?_
      refine wpL_val (v := .agg (p3 0 0 0)) (by rfl) (by kernel_rfl) ?_
      (try simp only [Act.put, mA, mB, mC])
      refine wpL_putrow (cells := p3 0 0 0) (by rfl) rfl rfl rfl k_t2 (by rw [p3_size]; kernel_rfl) (by first | rw [p3_size, p3_size] | rw [p3_size] | kernel_rfl) (by exact p3_one) ?_
      (try simp only [Act.put, mA, mB, mC])
      intro W8 hO h_
      replace k_t2 : Blk W8 p2_1 (p3 0 0 0) 41 := h_
      clear h_
      replace k_t5 := blk_off k_t5 hO (nm1 nq_t2_t5.symm)
      replace k_y16 := blz_off k_y16 hO (nm1 nq_t2_y16.symm)
      replace ow_z16 := Sl.off ow_z16 hO (f1 ne_z16_t2)
      replace off0 := off0.step hO (i1 fb_t2)
      replace sz := off0.size
      clear hO
      refine wpL_val (v := .int .i64 15) (by rfl) (by first | rfl | (go_simp; done) | (go_simp; with_reducible rfl) | (go_simp; omega)) ?_
      (try simp only [Act.put, mA, mB, mC])
      refine wpL_nil ?_
      go_wp2
      exact bodyPost_ret (res_row2 rfl rfl rfl k_t2 (by kernel_rfl) (by rw [p3_size]; kernel_rfl)) rfl ⟨rfl, off0.ext⟩
  · have _f := ht
    have H_ht := Lib.hid ht
    clear _f ht
    go_upto_region 1 with fail
    refine wp_region_lit ?_
    (refine wpL_val (v := ?_) (by rfl) ?_ ?_; rotate_left 1; (focus (go_simp; first | done | with_reducible rfl)))
    (try simp only [Act.put, mA, mB, mC])
    refine wpL_val (v := .int .u8 (byt V 31)) (by rfl) (by exact run_ixlb (by decide) rfl rfl rfl) ?_
    (try simp only [Act.put, mA, mB, mC])
    refine wpL_val (v := .bool false) (by rfl) (by exact run_geqU (top_geq hV false (Bool.eq_false_iff.2 H_ht.out)) rfl rfl rfl) ?_
    (try simp only [Act.put, mA, mB, mC])
    refine wpL_val (v := .bool false) (by rfl) (by first | rfl | (go_simp; done) | (go_simp; with_reducible rfl) | (go_simp; omega)) ?_
    (try simp only [Act.put, mA, mB, mC])
    refine wpL_nil ?_
    go_upto_region 2 with fail
    refine wp_region_lit ?_
    (refine wpL_val (v := ?_) (by rfl) ?_ ?_; rotate_left 1; (focus (go_simp; first | done | with_reducible rfl)))
    (try simp only [Act.put, mA, mB, mC])
    refine wpL_ret (c_o W1) (by rfl) rfl (by kernel_rfl) rfl ?_
    (try simp only [Act.put, mA, mB, mC])
    intro W2 hO
    replace k_t2 := blk_off k_t2 hO nm0
    replace off0 := off0.step hO i0
    replace sz := off0.size
    clear hO
    refine wpL_new (z := arrK .i64 16 (l16 0)) (t := 39) (by rfl) (by first | kernel_rfl | (go_simp; done) | (go_simp; rfl)) ?_
    (try simp only [Act.put, mA, mB, mC])
    intro p5_3 W3 n_t5 hO h_
    have nq_t2_t5 : p2_1 ≠ p5_3 := Nat.ne_of_lt (Nat.lt_of_lt_of_le (blk_lt k_t2) n_t5)
    have fb_t5 : Fb p5_3 w.heap.size [] := fb_new (Nat.le_trans sz n_t5)
    replace k_t2 := blk_off k_t2 hO nm0
    replace off0 := off0.step hO i0
    replace sz := off0.size
    have k_t5 := h_
    clear hO h_ n_t5
    refine wpL_putrow (cells := arrK .i64 16 (l16 Y)) (by rfl) rfl rfl rfl k_t5 (by rw [arrK_size]; kernel_rfl) (by first | rw [arrK_size, arrK_size] | rw [arrK_size] | kernel_rfl) (by exact arrK_one _ _ _) ?_
    (try simp only [Act.put, mA, mB, mC])
    intro W4 hO h_
    replace k_t5 : Blk W4 p5_3 (arrK .i64 16 (l16 Y)) 39 := h_
    clear h_
    replace k_t2 := blk_off k_t2 hO (nm1 nq_t2_t5)
    replace off0 := off0.step hO (i1 fb_t5)
    replace sz := off0.size
    clear hO
    refine wpL_nil ?_
    go_upto_region 3 with fail
    refine wp_region_lit ?_
    (refine wpL_val (v := ?_) (by rfl) ?_ ?_; rotate_left 1; (focus (go_simp; first | done | with_reducible rfl)))
    (try simp only [Act.put, mA, mB, mC])
    refine wpL_bytes (l := (lb 32 V)) (by first | omega | (rw [lb_length]; decide)) (by rfl) rfl rfl ?_
    (try simp only [Act.put, mA, mB, mC])
    intro p16_5 c_y16 cs_y16 W5 n_y16 hO h_ c1_y16 c2_y16 c3_y16 c4_y16
    have nq_t2_y16 : p2_1 ≠ p16_5 := Nat.ne_of_lt (Nat.lt_of_lt_of_le (blk_lt k_t2) n_y16)
    have nq_t5_y16 : p5_3 ≠ p16_5 := Nat.ne_of_lt (Nat.lt_of_lt_of_le (blk_lt k_t5) n_y16)
    have fb_y16 : Fb p16_5 w.heap.size [] := fb_new (Nat.le_trans sz n_y16)
    replace k_t2 := blk_off k_t2 hO nm0
    replace k_t5 := blk_off k_t5 hO nm0
    replace off0 := off0.step hO i0
    replace sz := off0.size
    have k_y16 := h_
    clear hO h_ n_y16
    have ow_z16 : Sl W5 (.slice (some ⟨p16_5, 0, none⟩) (lb 32 V).length c_y16) (lb 32 V) := sl_blz k_y16 c1_y16 c2_y16 c4_y16
    have ne_z16_t2 : sb (.slice (some ⟨p16_5, 0, none⟩) (lb 32 V).length c_y16) (lb 32 V) ≠ some p2_1 := sb_ne nq_t2_y16.symm
    have ne_z16_t5 : sb (.slice (some ⟨p16_5, 0, none⟩) (lb 32 V).length c_y16) (lb 32 V) ≠ some p5_3 := sb_ne nq_t5_y16.symm
    (refine wpL_val (v := ?_) (by rfl) ?_ ?_; rotate_left 1; (focus (go_simp; first | done | with_reducible rfl)))
    (try simp only [Act.put, mA, mB, mC])
    refine wpL_nil ?_
    go_upto_region 4 with fail
    refine wp_region_lit ?_
    (refine wpL_val (v := ?_) (by rfl) ?_ ?_; rotate_left 1; (focus (go_simp; first | done | with_reducible rfl)))
    (try simp only [Act.put, mA, mB, mC])
    (refine wpL_val (v := ?_) (by rfl) ?_ ?_; rotate_left 1; (focus (go_simp; first | done | with_reducible rfl)))
    (try simp only [Act.put, mA, mB, mC])
    refine wpL_ixa (j := 31) (by rw [lb_length]; decide) (by rfl) rfl rfl rfl ?_
    (try simp only [Act.put, mA, mB, mC])
    have hc_ : W5.cell? ⟨p16_5, 0 + 31, none⟩ = some (.int .u8 (byt V 31)) := by rw [blz_cell k_y16, Nat.zero_add]; exact take_cell (by rw [← lb_length 32 V]; exact c4_y16) (by decide)
    refine wpL_at (v := .int .u8 (byt V 31)) (by rfl) rfl rfl hc_ (by kernel_rfl) ?_
    (try simp only [Act.put, mA, mB, mC])
    clear hc_
    refine wpL_val (v := .int .u8 (bits .and .u8 (byt V 31) 127)) (by rfl) (by exact run_andU rfl rfl rfl rfl) ?_
    (try simp only [Act.put, mA, mB, mC])
    refine wpL_ixa (j := 31) (by rw [lb_length]; decide) (by rfl) rfl rfl rfl ?_
    (try simp only [Act.put, mA, mB, mC])
    refine wpL_putz (v := .int .u8 (bits .and .u8 (byt V 31) 127)) ⟨rfl, rfl⟩ (by rfl) rfl rfl rfl k_y16 (by rw [c3_y16, Nat.zero_add]; have := c1_y16; rw [lb_length] at this; omega) (by kernel_rfl) ?_
    (try simp only [Act.put, mA, mB, mC])
    intro W6 hO h_
    have c4n := take_set (cs := cs_y16) (by rw [← lb_length 32 V]; exact c4_y16) (clr31c hV)
    rw [Nat.zero_add] at h_
    replace k_t2 := blk_off k_t2 hO (nm1 nq_t2_y16)
    replace k_t5 := blk_off k_t5 hO (nm1 nq_t5_y16)
    replace off0 := off0.step hO (i1 fb_y16)
    replace sz := off0.size
    clear hO
    replace k_y16 := h_
    clear h_
    have h1_ : (lb 32 (V % 2 ^ 255)).length = (lb 32 V).length := by rw [lb_length, lb_length]
    replace ow_z16 : Sl W6 (.slice (some ⟨p16_5, 0, none⟩) (lb 32 V).length c_y16) (lb 32 (V % 2 ^ 255)) := by have := sl_blz (l := lb 32 (V % 2 ^ 255)) k_y16 (by rw [h1_]; exact c1_y16) c2_y16 (by rw [lb_length]; exact c4n); rwa [h1_] at this
    clear h1_ c4_y16
    replace ne_z16_t2 : sb (.slice (some ⟨p16_5, 0, none⟩) (lb 32 V).length c_y16) (lb 32 (V % 2 ^ 255)) ≠ some p2_1 := sb_ne nq_t2_y16.symm
    replace ne_z16_t5 : sb (.slice (some ⟨p16_5, 0, none⟩) (lb 32 V).length c_y16) (lb 32 (V % 2 ^ 255)) ≠ some p5_3 := sb_ne nq_t5_y16.symm
    refine wpL_nil ?_
    by_cases hc : Y = V % 2 ^ 255
    · have _f := hc
      have H_hc := Lib.hid hc
      clear _f hc
      go_upto_region 5 with fail
      refine wp_region_xn 5 [] (by kernel_rfl) (fun x hx => by cases hx) (by kernel_rfl) ?_
      simp only [List.take_succ_cons, List.take_zero, List.take_nil]
      (try simp only [Act.put, mA, mB, mC])
      refine wpX_load (by rfl) rfl rfl (blk_rd k_t5) (by kernel_rfl) (by rw [arrK_size]; kernel_rfl) ?_
      (try simp only [Act.put, mA, mB, mC])
      ((with_reducible refine wpX_fn (fun W hW => rBytes_s Y W) ?_ rfl ?_ ?_ ?_); (focus rfl); (focus kernel_rfl); (focus rfl); (try simp only [Act.put, mA, mB, mC]))
      (refine wpX_val (v := ?_) (by rfl) (fun W hW => ?_) ?_; rotate_left 1; (focus (go_simp; first | done | with_reducible rfl)); (try simp only [Act.put, mA, mB, mC]))
      refine wpX_str (l := (lb 32 (V % 2 ^ 255))) (fun W hW => sl_ext ow_z16 hW) (by rfl) rfl rfl ?_
      (try simp only [Act.put, mA, mB, mC])
      refine wpX_strne (l := (lb 32 Y)) (m := (lb 32 (V % 2 ^ 255))) (b := false) (lb_eq H_hc.out) (by rfl) rfl rfl rfl ?_
      (try simp only [Act.put, mA, mB, mC])
      refine wpX_nil ?_
      intro β W7 hE hN hD
      clear hN hD
      simp only [putAll, Act.put, mA, mB, mC, List.drop_succ_cons, List.drop_zero, List.drop_nil, List.length_cons, List.length_nil, Nat.add_zero]
      have hO := off_ext hE
      replace k_t2 := blk_off k_t2 hO nm0
      replace k_t5 := blk_off k_t5 hO nm0
      replace k_y16 := blz_off k_y16 hO nm0
      replace ow_z16 := Sl.off ow_z16 hO f0
      replace off0 := off0.step hO i0
      replace sz := off0.size
      clear hO hE β
      refine wpL_nil ?_
      first | with_reducible refine NoPanic.normal (Q := Exit.then _ _) ?_ | with_reducible refine NoPanic.normal ?_
      go_upto_region 7 with fail
      refine wp_region_lit ?_
      refine wpL_load0 (by rfl) rfl rfl k_t5 (by kernel_rfl) (by rw [arrK_size]; kernel_rfl) ?_
      (try simp only [Act.put, mA, mB, mC])
      refine wpL_load0 (by rfl) rfl rfl k_t5 (by kernel_rfl) (by rw [arrK_size]; kernel_rfl) ?_
      (try simp only [Act.put, mA, mB, mC])
      refine wpL_ret (c_N1 W7) (by rfl) rfl (by kernel_rfl) rfl ?_
      (try simp only [Act.put, mA, mB, mC])
      intro W8 hO
      replace k_t2 := blk_off k_t2 hO nm0
      replace k_t5 := blk_off k_t5 hO nm0
      replace k_y16 := blz_off k_y16 hO nm0
      replace ow_z16 := Sl.off ow_z16 hO f0
      replace off0 := off0.step hO i0
      replace sz := off0.size
      clear hO
      refine wpL_new (z := arrK .i64 16 (l16 0)) (t := 39) (by rfl) (by first | kernel_rfl | (go_simp; done) | (go_simp; rfl)) ?_
      (try simp only [Act.put, mA, mB, mC])
      intro p7_9 W9 n_t7 hO h_
      have nq_t2_t7 : p2_1 ≠ p7_9 := Nat.ne_of_lt (Nat.lt_of_lt_of_le (blk_lt k_t2) n_t7)
      have nq_t5_t7 : p5_3 ≠ p7_9 := Nat.ne_of_lt (Nat.lt_of_lt_of_le (blk_lt k_t5) n_t7)
      have nq_y16_t7 : p16_5 ≠ p7_9 := Nat.ne_of_lt (Nat.lt_of_lt_of_le (blz_lt k_y16) n_t7)
      have ne_z16_t7 := ne_new (Sl.lt ow_z16) n_t7
      have fb_t7 : Fb p7_9 w.heap.size [] := fb_new (Nat.le_trans sz n_t7)
      replace k_t2 := blk_off k_t2 hO nm0
      replace k_t5 := blk_off k_t5 hO nm0
      replace k_y16 := blz_off k_y16 hO nm0
      replace ow_z16 := Sl.off ow_z16 hO f0
      replace off0 := off0.step hO i0
      replace sz := off0.size
      have k_t7 := h_
      clear hO h_ n_t7
      refine wpL_putrow (cells := arrK .i64 16 (l16 N1)) (by rfl) rfl rfl rfl k_t7 (by rw [arrK_size]; kernel_rfl) (by first | rw [arrK_size, arrK_size] | rw [arrK_size] | kernel_rfl) (by exact arrK_one _ _ _) ?_
      (try simp only [Act.put, mA, mB, mC])
      intro W10 hO h_
      replace k_t7 : Blk W10 p7_9 (arrK .i64 16 (l16 N1)) 39 := h_
      clear h_
      replace k_t2 := blk_off k_t2 hO (nm1 nq_t2_t7)
      replace k_t5 := blk_off k_t5 hO (nm1 nq_t5_t7)
      replace k_y16 := blz_off k_y16 hO (nm1 nq_y16_t7)
      replace ow_z16 := Sl.off ow_z16 hO (f1 ne_z16_t7)
      replace off0 := off0.step hO (i1 fb_t7)
      replace sz := off0.size
      clear hO
      refine wpL_nil ?_
      have qRx : R = dX Y := by unfold dX; rw [HR.out, dU_r Y HN1.out HN2.out]; unfold dV; rw [HN4.out, HN3.out, HN1.out]
      have qBx : B = dB Y := by unfold dB; rw [HB.out, dU_r Y HN1.out HN2.out]; unfold dV; rw [HN4.out, HN3.out, HN1.out]
      have hRx := Lib.hid qRx
      have hBx := Lib.hid qBx
      clear qRx qBx
      by_cases hb : B = true
      · have _f := hb
        have H_hb := Lib.hid hb
        clear _f hb
        go_upto_region 8 with fail
        refine wp_region_xn 12 [⟨12, 8, arrK .i64 16 (l16 0), 39⟩] (by kernel_rfl) ?_ (by kernel_rfl) ?_
        · intro x hx
          simp only [List.mem_cons, List.not_mem_nil, or_false] at hx
          subst hx; exact ⟨_, rfl, rfl, rfl, fun _ _ => by kernel_rfl⟩
        simp only [List.take_succ_cons, List.take_zero, List.take_nil]
        (try simp only [Act.put, mA, mB, mC])
        refine wpX_load (by rfl) rfl rfl (blk_rd k_t7) (by kernel_rfl) (by rw [arrK_size]; kernel_rfl) ?_
        (try simp only [Act.put, mA, mB, mC])
        refine wpX_val (v := .agg (arrK .i64 16 (l16 1))) (by rfl) (fun _ _ => by kernel_rfl) ?_
        (try simp only [Act.put, mA, mB, mC])
        ((with_reducible refine wpX_fn (fun W hW => c_N2 W) ?_ rfl ?_ ?_ ?_); (focus rfl); (focus kernel_rfl); (focus rfl); (try simp only [Act.put, mA, mB, mC]))
        ((with_reducible refine wpX_fn (fun W hW => rD_c W) ?_ rfl ?_ ?_ ?_); (focus rfl); (focus kernel_rfl); (focus rfl); (try simp only [Act.put, mA, mB, mC]))
        refine wpX_load (by rfl) rfl rfl (blk_rd k_t7) (by kernel_rfl) (by rw [arrK_size]; kernel_rfl) ?_
        (try simp only [Act.put, mA, mB, mC])
        ((with_reducible refine wpX_fn (fun W hW => c_N3 W) ?_ rfl ?_ ?_ ?_); (focus rfl); (focus kernel_rfl); (focus rfl); (try simp only [Act.put, mA, mB, mC]))
        refine wpX_val (v := .agg (arrK .i64 16 (l16 1))) (by rfl) (fun _ _ => by kernel_rfl) ?_
        (try simp only [Act.put, mA, mB, mC])
        ((with_reducible refine wpX_fn (fun W hW => c_N4 W) ?_ rfl ?_ ?_ ?_); (focus rfl); (focus kernel_rfl); (focus rfl); (try simp only [Act.put, mA, mB, mC]))
        rw [H_hb.out] at c_r
        ((with_reducible refine wpX_fn (fun W hW => c_r W) ?_ rfl ?_ ?_ ?_); (focus rfl); (focus kernel_rfl); (focus rfl); (try simp only [Act.put, mA, mB, mC]))
        (refine wpX_val (v := ?_) (by rfl) (fun W hW => ?_) ?_; rotate_left 1; (focus (go_simp; first | done | with_reducible rfl)); (try simp only [Act.put, mA, mB, mC]))
        (refine wpX_val (v := ?_) (by rfl) (fun W hW => ?_) ?_; rotate_left 1; (focus (go_simp; first | done | with_reducible rfl)); (try simp only [Act.put, mA, mB, mC]))
        (refine wpX_val (v := ?_) (by rfl) (fun W hW => ?_) ?_; rotate_left 1; (focus (go_simp; first | done | with_reducible rfl)); (try simp only [Act.put, mA, mB, mC]))
        refine wpX_nil ?_
        intro β W11 hE hN hD
        obtain ⟨n_t8, h_t8⟩ := hN _ (List.mem_cons_self ..)
        clear hN hD
        simp only [putAll, Act.put, mA, mB, mC, List.drop_succ_cons, List.drop_zero, List.drop_nil, List.length_cons, List.length_nil, Nat.add_zero] at n_t8 h_t8 ⊢
        have hO := off_ext hE
        generalize β 12 = p8_11 at *
        have nq_t2_t8 : p2_1 ≠ p8_11 := Nat.ne_of_lt (Nat.lt_of_lt_of_le (blk_lt k_t2) n_t8)
        have nq_t5_t8 : p5_3 ≠ p8_11 := Nat.ne_of_lt (Nat.lt_of_lt_of_le (blk_lt k_t5) n_t8)
        have nq_y16_t8 : p16_5 ≠ p8_11 := Nat.ne_of_lt (Nat.lt_of_lt_of_le (blz_lt k_y16) n_t8)
        have nq_t7_t8 : p7_9 ≠ p8_11 := Nat.ne_of_lt (Nat.lt_of_lt_of_le (blk_lt k_t7) n_t8)
        have ne_z16_t8 := ne_new (Sl.lt ow_z16) n_t8
        have fb_t8 : Fb p8_11 w.heap.size [] := fb_new (Nat.le_trans sz n_t8)
        replace k_t2 := blk_off k_t2 hO nm0
        replace k_t5 := blk_off k_t5 hO nm0
        replace k_y16 := blz_off k_y16 hO nm0
        replace k_t7 := blk_off k_t7 hO nm0
        replace ow_z16 := Sl.off ow_z16 hO f0
        replace off0 := off0.step hO i0
        replace sz := off0.size
        clear hO hE β n_t8
        have k_t8 : Blk W11 p8_11 (arrK .i64 16 (l16 0)) 39 := h_t8
        clear h_t8
        refine wpL_putrow (cells := arrK .i64 16 (l16 R)) (by rfl) rfl rfl rfl k_t8 (by rw [arrK_size]; kernel_rfl) (by first | rw [arrK_size, arrK_size] | rw [arrK_size] | kernel_rfl) (by exact arrK_one _ _ _) ?_
        (try simp only [Act.put, mA, mB, mC])
        intro W12 hO h_
        replace k_t8 : Blk W12 p8_11 (arrK .i64 16 (l16 R)) 39 := h_
        clear h_
        replace k_t2 := blk_off k_t2 hO (nm1 nq_t2_t8)
        replace k_t5 := blk_off k_t5 hO (nm1 nq_t5_t8)
        replace k_y16 := blz_off k_y16 hO (nm1 nq_y16_t8)
        replace k_t7 := blk_off k_t7 hO (nm1 nq_t7_t8)
        replace ow_z16 := Sl.off ow_z16 hO (f1 ne_z16_t8)
        replace off0 := off0.step hO (i1 fb_t8)
        replace sz := off0.size
        clear hO
        refine wpL_val (v := .bool true) (by rfl) (by first | rfl | (go_simp; done) | (go_simp; with_reducible rfl) | (go_simp; omega)) ?_
        (try simp only [Act.put, mA, mB, mC])
        refine wpL_nil ?_
        first | with_reducible refine NoPanic.normal (Q := Exit.then _ _) ?_ | with_reducible refine NoPanic.normal ?_
        by_cases h0 : R = 0
        · have _f := h0
          have H_h0 := Lib.hid h0
          clear _f h0
          go_upto_region 9 with fail
          refine wp_region_lit ?_
          refine wpL_val (v := .bool true) (by rfl) (by first | rfl | (go_simp; done) | (go_simp; with_reducible rfl) | (go_simp; omega)) ?_
          (try simp only [Act.put, mA, mB, mC])
          refine wpL_val (v := .bool false) (by rfl) (by first | rfl | (go_simp; done) | (go_simp; with_reducible rfl) | (go_simp; omega)) ?_
          (try simp only [Act.put, mA, mB, mC])
          refine wpL_val (v := .bool false) (by rfl) (by first | rfl | (go_simp; done) | (go_simp; with_reducible rfl) | (go_simp; omega)) ?_
          (try simp only [Act.put, mA, mB, mC])
          refine wpL_load0 (by rfl) rfl rfl k_t8 (by kernel_rfl) (by rw [arrK_size]; kernel_rfl) ?_
          (try simp only [Act.put, mA, mB, mC])
          refine wpL_val (v := .agg (arrK .i64 16 (l16 0))) (by rfl) (by kernel_rfl) ?_
          (try simp only [Act.put, mA, mB, mC])
          rw [decide_eq_true H_h0.out] at e_0
          refine wpL_eqlA (e_0) (by kernel_rfl) (by rfl) rfl rfl rfl ?_
          (try simp only [Act.put, mA, mB, mC])
          refine wpL_val (v := .bool true) (by rfl) (by first | rfl | (go_simp; done) | (go_simp; with_reducible rfl) | (go_simp; omega)) ?_
          (try simp only [Act.put, mA, mB, mC])
          refine wpL_val (v := .bool false) (by rfl) (by first | rfl | (go_simp; done) | (go_simp; with_reducible rfl) | (go_simp; omega)) ?_
          (try simp only [Act.put, mA, mB, mC])
          refine wpL_val (v := .bool false) (by rfl) (by first | rfl | (go_simp; done) | (go_simp; with_reducible rfl) | (go_simp; omega)) ?_
          (try simp only [Act.put, mA, mB, mC])
          refine wpL_val (v := .bool false) (by rfl) (by first | rfl | (go_simp; done) | (go_simp; with_reducible rfl) | (go_simp; omega)) ?_
          (try simp only [Act.put, mA, mB, mC])
          refine wpL_nil ?_
          exact absurd (dOk_all (H_hc.out ▸ lY) (by rw [← H_hc.out, ← hBx.out]; exact H_hb.out) (fun h => H_ht.out h.1)) (by rw [hok]; decide)
        · have _f := h0
          have H_h0 := Lib.hid h0
          clear _f h0
          go_upto_region 9 with fail
          refine wp_region_lit ?_
          refine wpL_val (v := .bool true) (by rfl) (by first | rfl | (go_simp; done) | (go_simp; with_reducible rfl) | (go_simp; omega)) ?_
          (try simp only [Act.put, mA, mB, mC])
          refine wpL_val (v := .bool false) (by rfl) (by first | rfl | (go_simp; done) | (go_simp; with_reducible rfl) | (go_simp; omega)) ?_
          (try simp only [Act.put, mA, mB, mC])
          refine wpL_val (v := .bool false) (by rfl) (by first | rfl | (go_simp; done) | (go_simp; with_reducible rfl) | (go_simp; omega)) ?_
          (try simp only [Act.put, mA, mB, mC])
          refine wpL_load0 (by rfl) rfl rfl k_t8 (by kernel_rfl) (by rw [arrK_size]; kernel_rfl) ?_
          (try simp only [Act.put, mA, mB, mC])
          refine wpL_val (v := .agg (arrK .i64 16 (l16 0))) (by rfl) (by kernel_rfl) ?_
          (try simp only [Act.put, mA, mB, mC])
          rw [decide_eq_false H_h0.out] at e_0
          refine wpL_eqlA (e_0) (by kernel_rfl) (by rfl) rfl rfl rfl ?_
          (try simp only [Act.put, mA, mB, mC])
          refine wpL_val (v := .bool false) (by rfl) (by first | rfl | (go_simp; done) | (go_simp; with_reducible rfl) | (go_simp; omega)) ?_
          (try simp only [Act.put, mA, mB, mC])
          refine wpL_skip (by rfl) ?_
          (try simp only [Act.put, mA, mB, mC])
          refine wpL_val (v := .bool false) (by rfl) (by first | rfl | (go_simp; done) | (go_simp; with_reducible rfl) | (go_simp; omega)) ?_
          (try simp only [Act.put, mA, mB, mC])
          refine wpL_val (v := .bool false) (by rfl) (by first | rfl | (go_simp; done) | (go_simp; with_reducible rfl) | (go_simp; omega)) ?_
          (try simp only [Act.put, mA, mB, mC])
          refine wpL_nil ?_
          exact absurd (dOk_all (H_hc.out ▸ lY) (by rw [← H_hc.out, ← hBx.out]; exact H_hb.out) (fun h => H_ht.out h.1)) (by rw [hok]; decide)
      · have _f := hb
        rw [Bool.not_eq_true] at hb _f
        have H_hb := Lib.hid hb
        clear _f hb
        go_upto_region 8 with fail
        refine wp_region_xn 12 [⟨12, 8, arrK .i64 16 (l16 0), 39⟩] (by kernel_rfl) ?_ (by kernel_rfl) ?_
        · intro x hx
          simp only [List.mem_cons, List.not_mem_nil, or_false] at hx
          subst hx; exact ⟨_, rfl, rfl, rfl, fun _ _ => by kernel_rfl⟩
        simp only [List.take_succ_cons, List.take_zero, List.take_nil]
        (try simp only [Act.put, mA, mB, mC])
        refine wpX_load (by rfl) rfl rfl (blk_rd k_t7) (by kernel_rfl) (by rw [arrK_size]; kernel_rfl) ?_
        (try simp only [Act.put, mA, mB, mC])
        refine wpX_val (v := .agg (arrK .i64 16 (l16 1))) (by rfl) (fun _ _ => by kernel_rfl) ?_
        (try simp only [Act.put, mA, mB, mC])
        ((with_reducible refine wpX_fn (fun W hW => c_N2 W) ?_ rfl ?_ ?_ ?_); (focus rfl); (focus kernel_rfl); (focus rfl); (try simp only [Act.put, mA, mB, mC]))
        ((with_reducible refine wpX_fn (fun W hW => rD_c W) ?_ rfl ?_ ?_ ?_); (focus rfl); (focus kernel_rfl); (focus rfl); (try simp only [Act.put, mA, mB, mC]))
        refine wpX_load (by rfl) rfl rfl (blk_rd k_t7) (by kernel_rfl) (by rw [arrK_size]; kernel_rfl) ?_
        (try simp only [Act.put, mA, mB, mC])
        ((with_reducible refine wpX_fn (fun W hW => c_N3 W) ?_ rfl ?_ ?_ ?_); (focus rfl); (focus kernel_rfl); (focus rfl); (try simp only [Act.put, mA, mB, mC]))
        refine wpX_val (v := .agg (arrK .i64 16 (l16 1))) (by rfl) (fun _ _ => by kernel_rfl) ?_
        (try simp only [Act.put, mA, mB, mC])
        ((with_reducible refine wpX_fn (fun W hW => c_N4 W) ?_ rfl ?_ ?_ ?_); (focus rfl); (focus kernel_rfl); (focus rfl); (try simp only [Act.put, mA, mB, mC]))
        rw [H_hb.out] at c_r
        ((with_reducible refine wpX_fn (fun W hW => c_r W) ?_ rfl ?_ ?_ ?_); (focus rfl); (focus kernel_rfl); (focus rfl); (try simp only [Act.put, mA, mB, mC]))
        (refine wpX_val (v := ?_) (by rfl) (fun W hW => ?_) ?_; rotate_left 1; (focus (go_simp; first | done | with_reducible rfl)); (try simp only [Act.put, mA, mB, mC]))
        (refine wpX_val (v := ?_) (by rfl) (fun W hW => ?_) ?_; rotate_left 1; (focus (go_simp; first | done | with_reducible rfl)); (try simp only [Act.put, mA, mB, mC]))
        (refine wpX_val (v := ?_) (by rfl) (fun W hW => ?_) ?_; rotate_left 1; (focus (go_simp; first | done | with_reducible rfl)); (try simp only [Act.put, mA, mB, mC]))
        refine wpX_nil ?_
        intro β W11 hE hN hD
        obtain ⟨n_t8, h_t8⟩ := hN _ (List.mem_cons_self ..)
        clear hN hD
        simp only [putAll, Act.put, mA, mB, mC, List.drop_succ_cons, List.drop_zero, List.drop_nil, List.length_cons, List.length_nil, Nat.add_zero] at n_t8 h_t8 ⊢
        have hO := off_ext hE
        generalize β 12 = p8_11 at *
        have nq_t2_t8 : p2_1 ≠ p8_11 := Nat.ne_of_lt (Nat.lt_of_lt_of_le (blk_lt k_t2) n_t8)
        have nq_t5_t8 : p5_3 ≠ p8_11 := Nat.ne_of_lt (Nat.lt_of_lt_of_le (blk_lt k_t5) n_t8)
        have nq_y16_t8 : p16_5 ≠ p8_11 := Nat.ne_of_lt (Nat.lt_of_lt_of_le (blz_lt k_y16) n_t8)
        have nq_t7_t8 : p7_9 ≠ p8_11 := Nat.ne_of_lt (Nat.lt_of_lt_of_le (blk_lt k_t7) n_t8)
        have ne_z16_t8 := ne_new (Sl.lt ow_z16) n_t8
        have fb_t8 : Fb p8_11 w.heap.size [] := fb_new (Nat.le_trans sz n_t8)
        replace k_t2 := blk_off k_t2 hO nm0
        replace k_t5 := blk_off k_t5 hO nm0
        replace k_y16 := blz_off k_y16 hO nm0
        replace k_t7 := blk_off k_t7 hO nm0
        replace ow_z16 := Sl.off ow_z16 hO f0
        replace off0 := off0.step hO i0
        replace sz := off0.size
        clear hO hE β n_t8
        have k_t8 : Blk W11 p8_11 (arrK .i64 16 (l16 0)) 39 := h_t8
        clear h_t8
        refine wpL_putrow (cells := arrK .i64 16 (l16 R)) (by rfl) rfl rfl rfl k_t8 (by rw [arrK_size]; kernel_rfl) (by first | rw [arrK_size, arrK_size] | rw [arrK_size] | kernel_rfl) (by exact arrK_one _ _ _) ?_
        (try simp only [Act.put, mA, mB, mC])
        intro W12 hO h_
        replace k_t8 : Blk W12 p8_11 (arrK .i64 16 (l16 R)) 39 := h_
        clear h_
        replace k_t2 := blk_off k_t2 hO (nm1 nq_t2_t8)
        replace k_t5 := blk_off k_t5 hO (nm1 nq_t5_t8)
        replace k_y16 := blz_off k_y16 hO (nm1 nq_y16_t8)
        replace k_t7 := blk_off k_t7 hO (nm1 nq_t7_t8)
        replace ow_z16 := Sl.off ow_z16 hO (f1 ne_z16_t8)
        replace off0 := off0.step hO (i1 fb_t8)
        replace sz := off0.size
        clear hO
        refine wpL_val (v := .bool false) (by rfl) (by first | rfl | (go_simp; done) | (go_simp; with_reducible rfl) | (go_simp; omega)) ?_
        (try simp only [Act.put, mA, mB, mC])
        refine wpL_nil ?_
        first | with_reducible refine NoPanic.normal (Q := Exit.then _ _) ?_ | with_reducible refine NoPanic.normal ?_
        go_upto_region 9 with fail
        refine wp_region_lit ?_
        refine wpL_val (v := .bool false) (by rfl) (by first | rfl | (go_simp; done) | (go_simp; with_reducible rfl) | (go_simp; omega)) ?_
        (try simp only [Act.put, mA, mB, mC])
        refine wpL_val (v := .bool true) (by rfl) (by first | rfl | (go_simp; done) | (go_simp; with_reducible rfl) | (go_simp; omega)) ?_
        (try simp only [Act.put, mA, mB, mC])
        refine wpL_val (v := .bool true) (by rfl) (by first | rfl | (go_simp; done) | (go_simp; with_reducible rfl) | (go_simp; omega)) ?_
        (try simp only [Act.put, mA, mB, mC])
        refine wpL_skip (by rfl) ?_
        (try simp only [Act.put, mA, mB, mC])
        refine wpL_skip (by rfl) ?_
        (try simp only [Act.put, mA, mB, mC])
        refine wpL_skip (by rfl) ?_
        (try simp only [Act.put, mA, mB, mC])
        refine wpL_skip (by rfl) ?_
        (try simp only [Act.put, mA, mB, mC])
        refine wpL_skip (by rfl) ?_
        (try simp only [Act.put, mA, mB, mC])
        refine wpL_skip (by rfl) ?_
        (try simp only [Act.put, mA, mB, mC])
        refine wpL_val (v := .bool true) (by rfl) (by first | rfl | (go_simp; done) | (go_simp; with_reducible rfl) | (go_simp; omega)) ?_
        (try simp only [Act.put, mA, mB, mC])
        refine wpL_nil ?_
        go_upto_region 10 with fail
        refine wp_region_lit ?_
        refine wpL_val (v := .agg (p3 0 0 0)) (by rfl) (by kernel_rfl) ?_
        (try simp only [Act.put, mA, mB, mC])
        refine wpL_putrow (cells := p3 0 0 0) (by rfl) rfl rfl rfl k_t2 (by rw [p3_size]; kernel_rfl) (by first | rw [p3_size, p3_size] | rw [p3_size] | kernel_rfl) (by exact p3_one) ?_
        (try simp only [Act.put, mA, mB, mC])
        intro W13 hO h_
        replace k_t2 : Blk W13 p2_1 (p3 0 0 0) 41 := h_
        clear h_
        replace k_t5 := blk_off k_t5 hO (nm1 nq_t2_t5.symm)
        replace k_y16 := blz_off k_y16 hO (nm1 nq_t2_y16.symm)
        replace k_t7 := blk_off k_t7 hO (nm1 nq_t2_t7.symm)
        replace k_t8 := blk_off k_t8 hO (nm1 nq_t2_t8.symm)
        replace ow_z16 := Sl.off ow_z16 hO (f1 ne_z16_t2)
        replace off0 := off0.step hO (i1 fb_t2)
        replace sz := off0.size
        clear hO
        refine wpL_val (v := .int .i64 15) (by rfl) (by first | rfl | (go_simp; done) | (go_simp; with_reducible rfl) | (go_simp; omega)) ?_
        (try simp only [Act.put, mA, mB, mC])
        refine wpL_nil ?_
        go_wp2
        exact bodyPost_ret (res_row2 rfl rfl rfl k_t2 (by kernel_rfl) (by rw [p3_size]; kernel_rfl)) rfl ⟨rfl, off0.ext⟩
    · have _f := hc
      have H_hc := Lib.hid hc
      clear _f hc
      go_upto_region 5 with fail
      refine wp_region_xn 5 [] (by kernel_rfl) (fun x hx => by cases hx) (by kernel_rfl) ?_
      simp only [List.take_succ_cons, List.take_zero, List.take_nil]
      (try simp only [Act.put, mA, mB, mC])
      refine wpX_load (by rfl) rfl rfl (blk_rd k_t5) (by kernel_rfl) (by rw [arrK_size]; kernel_rfl) ?_
      (try simp only [Act.put, mA, mB, mC])
      ((with_reducible refine wpX_fn (fun W hW => rBytes_s Y W) ?_ rfl ?_ ?_ ?_); (focus rfl); (focus kernel_rfl); (focus rfl); (try simp only [Act.put, mA, mB, mC]))
      (refine wpX_val (v := ?_) (by rfl) (fun W hW => ?_) ?_; rotate_left 1; (focus (go_simp; first | done | with_reducible rfl)); (try simp only [Act.put, mA, mB, mC]))
      refine wpX_str (l := (lb 32 (V % 2 ^ 255))) (fun W hW => sl_ext ow_z16 hW) (by rfl) rfl rfl ?_
      (try simp only [Act.put, mA, mB, mC])
      refine wpX_strne (l := (lb 32 Y)) (m := (lb 32 (V % 2 ^ 255))) (b := true) (lb_ne (lt_256p lY) (mod_255' V) H_hc.out) (by rfl) rfl rfl rfl ?_
      (try simp only [Act.put, mA, mB, mC])
      refine wpX_nil ?_
      intro β W7 hE hN hD
      clear hN hD
      simp only [putAll, Act.put, mA, mB, mC, List.drop_succ_cons, List.drop_zero, List.drop_nil, List.length_cons, List.length_nil, Nat.add_zero]
      have hO := off_ext hE
      replace k_t2 := blk_off k_t2 hO nm0
      replace k_t5 := blk_off k_t5 hO nm0
      replace k_y16 := blz_off k_y16 hO nm0
      replace ow_z16 := Sl.off ow_z16 hO f0
      replace off0 := off0.step hO i0
      replace sz := off0.size
      clear hO hE β
      refine wpL_nil ?_
      first | with_reducible refine NoPanic.normal (Q := Exit.then _ _) ?_ | with_reducible refine NoPanic.normal ?_
      go_upto_region 6 with fail
      refine wp_region_lit ?_
      refine wpL_val (v := .agg (p3 0 0 0)) (by rfl) (by kernel_rfl) ?_
      (try simp only [Act.put, mA, mB, mC])
      refine wpL_putrow (cells := p3 0 0 0) (by rfl) rfl rfl rfl k_t2 (by rw [p3_size]; kernel_rfl) (by first | rw [p3_size, p3_size] | rw [p3_size] | kernel_rfl) (by exact p3_one) ?_
      (try simp only [Act.put, mA, mB, mC])
      intro W8 hO h_
      replace k_t2 : Blk W8 p2_1 (p3 0 0 0) 41 := h_
      clear h_
      replace k_t5 := blk_off k_t5 hO (nm1 nq_t2_t5.symm)
      replace k_y16 := blz_off k_y16 hO (nm1 nq_t2_y16.symm)
      replace ow_z16 := Sl.off ow_z16 hO (f1 ne_z16_t2)
      replace off0 := off0.step hO (i1 fb_t2)
      replace sz := off0.size
      clear hO
      refine wpL_val (v := .int .i64 15) (by rfl) (by first | rfl | (go_simp; done) | (go_simp; with_reducible rfl) | (go_simp; omega)) ?_
      (try simp only [Act.put, mA, mB, mC])
      refine wpL_nil ?_
      go_wp2
      exact bodyPost_ret (res_row2 rfl rfl rfl k_t2 (by kernel_rfl) (by rw [p3_size]; kernel_rfl)) rfl ⟨rfl, off0.ext⟩
end Go.Proofs.YtghajiagbfcmdaaDoor
