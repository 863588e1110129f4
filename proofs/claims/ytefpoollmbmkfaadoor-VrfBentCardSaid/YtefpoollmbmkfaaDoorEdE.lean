/- edwards.Decode. Conditions: the cells of the variables hold the curve's numbers. -/
import Derived.Test.YtefpoollmbmkfaaDoorGc
import Derived.Test.YtefpoollmbmkfaaDoorEdD
set_option linter.unusedSimpArgs false
set_option linter.unusedVariables false
namespace Go.Proofs.YtefpoollmbmkfaaDoor
set_option maxHeartbeats 1500000
set_option maxRecDepth 100000
open Go.RowKit
attribute [local irreducible] wpList
variable {kn : Kn}
theorem Q6q {V : Nat} (h : dOk V = true) : V % 2 ^ 255 < PP := by
  unfold dOk at h; simp only [Bool.and_eq_true, decide_eq_true_eq] at h; exact h.1.1
theorem Z3i {V : Nat} (h : dOk V = true) : dB (V % 2 ^ 255) = true := by
  unfold dOk at h; simp only [Bool.and_eq_true] at h; exact h.1.2
theorem Y6h {V : Nat} (h : dOk V = true) (ht : top V = true) : ¬ dX (V % 2 ^ 255) = 0 := by
  unfold dOk at h; intro h0
  simp [ht, h0] at h
theorem Q1q {V : Nat} (h1 : V % 2 ^ 255 < PP) (h2 : dB (V % 2 ^ 255) = true) (h3 : ¬ (top V = true ∧ dX (V % 2 ^ 255) = 0)) : dOk V = true := by
  unfold dOk
  rw [decide_eq_true h1, h2]
  cases ht : top V
  · rfl
  · have : ¬ dX (V % 2 ^ 255) = 0 := fun h0 => h3 ⟨ht, h0⟩
    simp [this]
theorem Q1r (V : Nat) : V % 2 ^ 255 < 2 ^ 256 := Nat.lt_trans (Nat.mod_lt _ (by decide)) (by decide)

theorem Z8g (y : Nat) (o : Bool) : dXf y o < PP := by
  unfold dXf
  split
  · exact Z1e y
  · exact J32 _
theorem Q5b (hc : kn.c) {V : Nat} (hV : V < 2 ^ 256) (hok : dOk V = false) :
  ∀ w, GE kn w → Calls Tryd.prog 31 #[.agg (J1 .u8 32 (Q6 V))] w fun e w' => Ret (.tuple #[.agg (p4 0 0 0 0), .int .i64 15]) w w' e := by
 have c_o := Y6b (Q6 V) (J4p V)
 rw [J4d, show 8 * 32 = 256 by decide, Nat.mod_eq_of_lt hV] at c_o
 obtain ⟨Y, hY⟩ := V2 (V % 2 ^ 255 % PP)
 rw [← hY] at c_o
 have lY := bpp hY
 have HY := Lib.hid hY
 clear hY
 have cb1 := Q4t Y (Q9 lY)
 rw [Nat.mod_eq_of_lt lY] at cb1
 have e_b := Y6i Y (V % 2 ^ 255) (Q45 lY) (Q1r V)
 have c_N2 := K7 Y Y (Q9 lY) (Q9 lY)
 obtain ⟨N2, hN2⟩ := V2 (Y * Y % PP)
 rw [← hN2] at c_N2
 have lN2 := bpp hN2
 have bN2 := Q9 lN2
 have HN2 := Lib.hid hN2
 clear hN2
 have c_N3 := J9i N2 1 bN2 (by decide)
 obtain ⟨N3, hN3⟩ := V2 ((N2 + (PP - 1 % PP)) % PP)
 rw [← hN3] at c_N3
 have lN3 := bpp hN3
 have bN3 := Q9 lN3
 have HN3 := Lib.hid hN3
 clear hN3
 have c_N4 := K7 DD N2 Q9q bN2
 obtain ⟨N4, hN4⟩ := V2 (DD * N2 % PP)
 rw [← hN4] at c_N4
 have lN4 := bpp hN4
 have bN4 := Q9 lN4
 have HN4 := Lib.hid hN4
 clear hN4
 have c_N5 := J6e N4 1 bN4 (by decide)
 obtain ⟨N5, hN5⟩ := V2 ((N4 + 1) % PP)
 rw [← hN5] at c_N5
 have lN5 := bpp hN5
 have bN5 := Q9 lN5
 have HN5 := Lib.hid hN5
 clear hN5
 have c_r := Z39 N3 N5 bN3 bN5
 obtain ⟨R, hR⟩ := V2 (rtR N3 N5)
 rw [← hR] at c_r
 have lR : R < PP := by rw [hR]; exact Q1t _ _
 have HR := Lib.hid hR
 clear hR
 obtain ⟨B, hB⟩ := V2 (rtB N3 N5)
 rw [← hB] at c_r
 have HB := Lib.hid hB
 clear hB
 have cs6 := J6m R 0 (Q9 lR) (by decide)
 rw [Nat.mod_eq_of_lt lR, Nat.mod_eq_of_lt (by decide)] at cs6
 intro w hG
 have off0 : Off [] w w := Off.refl _ _
 go_enter Tryd.func31, Tryd.ntmps31
 go_upto_region 0 with fail
 refine wp_region_lit ?_
 refine Ln ?_ (z := J1 .u8 32 (Q6 V)) (t := 22)
 intro J1a W1 J2n hO h_
 have J82 := fbn off0 J2n
 replace off0 := off0.o hO
 have k_t1 := h_
 clear hO h_ J2n
 refine Ln ?_ (z := p4 0 0 0 0) (t := 60)
 intro J2q W2 U0 hO h_
 have nq_t1_t2 := bn k_t1 U0
 have J01 := fbn off0 U0
 replace k_t1 := k_t1.o hO
 replace off0 := off0.o hO
 have k_t2 := h_
 clear hO h_ U0
 refine Lw ?_ (v := .int .i64 0)
 refine J0 ?_
 by_cases ht : top V = true
 ·
  have _f := ht
  go_upto_region 1 with fail
  refine wp_region_lit ?_
  refine Lw ?_ (v := .pointer (some ⟨J1a, 0 + 31, none⟩)) (hv := Q0 (m := 32) (by decide) (by decide) Tryd.underlying22 (by kernel_rfl) rfl rfl rfl)
  refine Lg ?_ k_t1 (v := .int .u8 ((Q6 V) 31)) (hj := by rw [Nat.zero_add]; exact J6 _ _ _ _ (by decide))
  refine Lw ?_ (v := .int .u8 128) (hv := by exact J4e (Z3j hV ht) rfl rfl rfl)
  refine Lw ?_ (v := .bool true)
  refine Lw ?_ (v := .bool true)
  refine J0 ?_
  go_upto_region 2 with fail
  refine wp_region_lit ?_
  refine L0A ?_ k_t1
  refine Lr ?_ (c_o W2 (J7 hG off0.ext).1)
  intro W3 hO
  replace k_t1 := k_t1.o hO
  replace k_t2 := k_t2.o hO
  replace off0 := off0.o hO
  clear hO
  refine LnP ?_ (z := c4 0) (t := 58) (cells := c4 Y)
  intro Q3y W5 J0p hO h_
  have nq_t1_t5 := bn k_t1 J0p
  have nq_t2_t5 := bn k_t2 J0p
  replace k_t1 := k_t1.o hO
  replace k_t2 := k_t2.o hO
  replace off0 := off0.o hO
  have k_t5 := h_
  clear hO h_ J0p
  refine J0 ?_
  go_upto_region 3 with fail
  refine wp_region_lit ?_
  refine Lw ?_ (v := .pointer (some ⟨J1a, 0 + 31, none⟩)) (hv := Q0 (m := 32) (by decide) (by decide) Tryd.underlying22 (by kernel_rfl) rfl rfl rfl)
  refine Lg ?_ k_t1 (v := .int .u8 ((Q6 V) 31)) (hj := by rw [Nat.zero_add]; exact J6 _ _ _ _ (by decide))
  refine Lw ?_ (v := .int .u8 (bits .andNot .u8 (Q6 V 31) 128)) (hv := by exact Q0f rfl rfl rfl rfl)
  refine Lw ?_ (v := .pointer (some ⟨J1a, 0 + 31, none⟩)) (hv := Q0 (m := 32) (by decide) (by decide) Tryd.underlying22 (by kernel_rfl) rfl rfl rfl)
  refine J2i (v := .int .u8 (bits .andNot .u8 (Q6 V 31) 128)) ⟨rfl, rfl⟩ (by rfl) rfl rfl rfl k_t1 (by rw [Q1, Nat.zero_add]; decide) (by kernel_rfl) ?_
  (try simp only [Act.put, mA, mB, mC])
  intro W6 hO h_
  rw [Nat.zero_add, J04] at h_
  replace k_t1 : Blk W6 J1a (J1 .u8 32 (upd (Q6 V) 31 (bits .andNot .u8 (Q6 V 31) 128))) 22 := h_
  clear h_
  replace k_t2 := k_t2.p hO nq_t1_t2.symm
  replace k_t5 := k_t5.p hO nq_t1_t5.symm
  replace off0 := off0.p hO J82
  clear hO
  rw [Q9r (Q46 hV)] at k_t1
  refine J0 ?_
  by_cases hy : Y = V % 2 ^ 255
  ·
   have _f := hy
   have H_hy := Lib.hid hy
   clear _f hy
   go_upto_region 4 with fail
   refine Rx 4 ?_
   refine Xl ?_ k_t5
   refine Xf ?_ (fun W hW => cb1 W (J7 (J7 hG off0.ext) hW).1)
   refine XlA ?_ k_t1
   rw [decide_eq_true H_hy.out] at e_b
   refine J85 (e_b) (by kernel_rfl) (by rfl) rfl rfl rfl ?_
   (try simp only [Act.put, mA, mB, mC])
   refine Q3 fun W7 hE => ?_
   have hO := Z6 hE
   replace k_t1 := k_t1.o hO
   replace k_t2 := k_t2.o hO
   replace k_t5 := k_t5.o hO
   replace off0 := off0.o hO
   clear hO hE
   refine LN ?_
   go_upto_region 6 with fail
   refine wp_region_lit ?_
   refine L0 ?_ k_t5
   refine L0 ?_ k_t5
   refine Lr ?_ (c_N2 W7 (J7 hG off0.ext).1)
   intro W8 hO
   replace k_t1 := k_t1.o hO
   replace k_t2 := k_t2.o hO
   replace k_t5 := k_t5.o hO
   replace off0 := off0.o hO
   clear hO
   refine LnP ?_ (z := c4 0) (t := 58) (cells := c4 N2)
   intro Z5p W10 J1c hO h_
   have nq_t2_t6 := bn k_t2 J1c
   replace k_t1 := k_t1.o hO
   replace k_t2 := k_t2.o hO
   replace k_t5 := k_t5.o hO
   replace off0 := off0.o hO
   have k_t6 := h_
   clear hO h_ J1c
   refine J0 ?_
   have qRx : R = dX Y := by unfold dX dU dV; rw [HR.out, HN3.out, HN5.out, HN4.out, HN2.out]
   have qBx : B = dB Y := by unfold dB dU dV; rw [HB.out, HN3.out, HN5.out, HN4.out, HN2.out]
   have hRx := Lib.hid qRx
   have hBx := Lib.hid qBx
   clear qRx qBx
   by_cases hb : B = true
   ·
    have _f := hb
    have H_hb := Lib.hid hb
    clear _f hb
    go_upto_region 7 with fail
    refine Rx1 12 7 (z := c4 0) (t := 58) ?_
    refine Xl ?_ k_t6
    refine Xf ?_ (fun W hW => J4o W)
    refine Xf ?_ (fun W hW => c_N3 W (J7 (J7 hG off0.ext) hW).1)
    refine XR ?_ ((J7 hG off0.ext).2.2.1 hc)
    refine Xl ?_ k_t6
    refine Xf ?_ (fun W hW => c_N4 W (J7 (J7 hG off0.ext) hW).1)
    refine Xf ?_ (fun W hW => J4o W)
    refine Xf ?_ (fun W hW => c_N5 W (J7 (J7 hG off0.ext) hW).1)
    rw [H_hb.out] at c_r
    refine Xf ?_ (fun W hW => c_r W (J7 (J7 hG off0.ext) hW).1 ((J7 (J7 hG off0.ext) hW).2.1 hc))
    refine Xv ?_
    refine Xv ?_
    refine Xv ?_
    refine XN ?_
    intro J45 W11 J03 hE h_t7
    have hO := Z6 hE
    have J4f := bn k_t1 J03
    have nq_t2_t7 := bn k_t2 J03
    have J1z := bn k_t5 J03
    have J3d := bn k_t6 J03
    have J55 := fbn off0 J03
    replace k_t1 := k_t1.o hO
    replace k_t2 := k_t2.o hO
    replace k_t5 := k_t5.o hO
    replace k_t6 := k_t6.o hO
    replace off0 := off0.o hO
    clear hO hE J03
    have k_t7 : Blk W11 J45 (c4 0) 58 := h_t7
    clear h_t7
    refine Lp ?_ k_t7 (cells := c4 R)
    intro W12 hO h_
    replace k_t7 : Blk W12 J45 (c4 R) 58 := h_
    clear h_
    replace k_t1 := k_t1.p hO J4f
    replace k_t2 := k_t2.p hO nq_t2_t7
    replace k_t5 := k_t5.p hO J1z
    replace k_t6 := k_t6.p hO J3d
    replace off0 := off0.p hO J55
    clear hO
    refine Lw ?_ (v := .bool true)
    refine LN ?_
    by_cases h0 : R = 0
    ·
     have _f := h0
     have H_h0 := Lib.hid h0
     clear _f h0
     go_upto_region 8 with fail
     refine wp_region_lit ?_
     refine Lw ?_ (v := .bool true)
     refine Lw ?_ (v := .bool false)
     refine Lw ?_ (v := .bool false)
     refine Lw ?_ (v := .bool true)
     refine Lw ?_ (v := .bool true)
     refine L0 ?_ k_t7
     refine Lw ?_ (v := .agg (c4 0)) (hv := by kernel_rfl)
     rw [decide_eq_true H_h0.out] at cs6
     refine Lr ?_ (cs6 W12 (J7 hG off0.ext).1)
     intro W13 hO
     replace k_t1 := k_t1.o hO
     replace k_t2 := k_t2.o hO
     replace k_t5 := k_t5.o hO
     replace k_t6 := k_t6.o hO
     replace k_t7 := k_t7.o hO
     replace off0 := off0.o hO
     clear hO
     refine Lw ?_ (v := .bool true)
     refine Lw ?_ (v := .bool true)
     refine J0 ?_
     go_upto_region 9 with fail
     refine wp_region_lit ?_
     refine Lw ?_ (v := .agg (p4 0 0 0 0)) (hv := by kernel_rfl)
     refine Lp ?_ k_t2 (cells := p4 0 0 0 0)
     intro W14 hO h_
     replace k_t2 : Blk W14 J2q (p4 0 0 0 0) 60 := h_
     clear h_
     replace k_t1 := k_t1.p hO nq_t1_t2
     replace k_t5 := k_t5.p hO nq_t2_t5.symm
     replace k_t6 := k_t6.p hO nq_t2_t6.symm
     replace k_t7 := k_t7.p hO nq_t2_t7.symm
     replace off0 := off0.p hO J01
     clear hO
     refine Lw ?_ (v := .int .i64 15)
     refine J0 ?_
     go_wp2
     exact bodyPost_ret (V8 rfl rfl rfl k_t2 (by kernel_rfl) (by kernel_rfl)) rfl ⟨rfl, off0.ext⟩
    ·
     have _f := h0
     have H_h0 := Lib.hid h0
     clear _f h0
     go_upto_region 8 with fail
     refine wp_region_lit ?_
     refine Lw ?_ (v := .bool true)
     refine Lw ?_ (v := .bool false)
     refine Lw ?_ (v := .bool false)
     refine Lw ?_ (v := .bool true)
     refine Lw ?_ (v := .bool true)
     refine L0 ?_ k_t7
     refine Lw ?_ (v := .agg (c4 0)) (hv := by kernel_rfl)
     rw [decide_eq_false H_h0.out] at cs6
     refine Lr ?_ (cs6 W12 (J7 hG off0.ext).1)
     intro W13 hO
     replace k_t1 := k_t1.o hO
     replace k_t2 := k_t2.o hO
     replace k_t5 := k_t5.o hO
     replace k_t6 := k_t6.o hO
     replace k_t7 := k_t7.o hO
     replace off0 := off0.o hO
     clear hO
     refine Lw ?_ (v := .bool false)
     refine Lw ?_ (v := .bool false)
     refine J0 ?_
     exact absurd (Q1q (H_hy.out ▸ lY) (by rw [← H_hy.out, ← hBx.out]; exact H_hb.out) (fun h => H_h0.out (by rw [hRx.out, H_hy.out]; exact h.2))) (by rw [hok]; decide)
   ·
    have _f := hb
    rw [Bool.not_eq_true] at hb _f
    have H_hb := Lib.hid hb
    clear _f hb
    go_upto_region 7 with fail
    refine Rx1 12 7 (z := c4 0) (t := 58) ?_
    refine Xl ?_ k_t6
    refine Xf ?_ (fun W hW => J4o W)
    refine Xf ?_ (fun W hW => c_N3 W (J7 (J7 hG off0.ext) hW).1)
    refine XR ?_ ((J7 hG off0.ext).2.2.1 hc)
    refine Xl ?_ k_t6
    refine Xf ?_ (fun W hW => c_N4 W (J7 (J7 hG off0.ext) hW).1)
    refine Xf ?_ (fun W hW => J4o W)
    refine Xf ?_ (fun W hW => c_N5 W (J7 (J7 hG off0.ext) hW).1)
    rw [H_hb.out] at c_r
    refine Xf ?_ (fun W hW => c_r W (J7 (J7 hG off0.ext) hW).1 ((J7 (J7 hG off0.ext) hW).2.1 hc))
    refine Xv ?_
    refine Xv ?_
    refine Xv ?_
    refine XN ?_
    intro J45 W11 J03 hE h_t7
    have hO := Z6 hE
    have J4f := bn k_t1 J03
    have nq_t2_t7 := bn k_t2 J03
    have J1z := bn k_t5 J03
    have J3d := bn k_t6 J03
    have J55 := fbn off0 J03
    replace k_t1 := k_t1.o hO
    replace k_t2 := k_t2.o hO
    replace k_t5 := k_t5.o hO
    replace k_t6 := k_t6.o hO
    replace off0 := off0.o hO
    clear hO hE J03
    have k_t7 : Blk W11 J45 (c4 0) 58 := h_t7
    clear h_t7
    refine Lp ?_ k_t7 (cells := c4 R)
    intro W12 hO h_
    replace k_t7 : Blk W12 J45 (c4 R) 58 := h_
    clear h_
    replace k_t1 := k_t1.p hO J4f
    replace k_t2 := k_t2.p hO nq_t2_t7
    replace k_t5 := k_t5.p hO J1z
    replace k_t6 := k_t6.p hO J3d
    replace off0 := off0.p hO J55
    clear hO
    refine Lw ?_ (v := .bool false)
    refine LN ?_
    go_upto_region 8 with fail
    refine wp_region_lit ?_
    refine Lw ?_ (v := .bool false)
    refine Lw ?_ (v := .bool true)
    refine Lw ?_ (v := .bool true)
    refine Ls ?_
    refine Ls ?_
    refine Ls ?_
    refine Ls ?_
    refine Ls ?_
    refine Ls ?_
    refine Lw ?_ (v := .bool true)
    refine J0 ?_
    go_upto_region 9 with fail
    refine wp_region_lit ?_
    refine Lw ?_ (v := .agg (p4 0 0 0 0)) (hv := by kernel_rfl)
    refine Lp ?_ k_t2 (cells := p4 0 0 0 0)
    intro W13 hO h_
    replace k_t2 : Blk W13 J2q (p4 0 0 0 0) 60 := h_
    clear h_
    replace k_t1 := k_t1.p hO nq_t1_t2
    replace k_t5 := k_t5.p hO nq_t2_t5.symm
    replace k_t6 := k_t6.p hO nq_t2_t6.symm
    replace k_t7 := k_t7.p hO nq_t2_t7.symm
    replace off0 := off0.p hO J01
    clear hO
    refine Lw ?_ (v := .int .i64 15)
    refine J0 ?_
    go_wp2
    exact bodyPost_ret (V8 rfl rfl rfl k_t2 (by kernel_rfl) (by kernel_rfl)) rfl ⟨rfl, off0.ext⟩
  ·
   have _f := hy
   have H_hy := Lib.hid hy
   clear _f hy
   go_upto_region 4 with fail
   refine Rx 4 ?_
   refine Xl ?_ k_t5
   refine Xf ?_ (fun W hW => cb1 W (J7 (J7 hG off0.ext) hW).1)
   refine XlA ?_ k_t1
   rw [decide_eq_false H_hy.out] at e_b
   refine J85 (e_b) (by kernel_rfl) (by rfl) rfl rfl rfl ?_
   (try simp only [Act.put, mA, mB, mC])
   refine Q3 fun W7 hE => ?_
   have hO := Z6 hE
   replace k_t1 := k_t1.o hO
   replace k_t2 := k_t2.o hO
   replace k_t5 := k_t5.o hO
   replace off0 := off0.o hO
   clear hO hE
   refine LN ?_
   go_upto_region 5 with fail
   refine wp_region_lit ?_
   refine Lw ?_ (v := .agg (p4 0 0 0 0)) (hv := by kernel_rfl)
   refine Lp ?_ k_t2 (cells := p4 0 0 0 0)
   intro W8 hO h_
   replace k_t2 : Blk W8 J2q (p4 0 0 0 0) 60 := h_
   clear h_
   replace k_t1 := k_t1.p hO nq_t1_t2
   replace k_t5 := k_t5.p hO nq_t2_t5.symm
   replace off0 := off0.p hO J01
   clear hO
   refine Lw ?_ (v := .int .i64 15)
   refine J0 ?_
   go_wp2
   exact bodyPost_ret (V8 rfl rfl rfl k_t2 (by kernel_rfl) (by kernel_rfl)) rfl ⟨rfl, off0.ext⟩
 ·
  have _f := ht
  go_upto_region 1 with fail
  refine wp_region_lit ?_
  refine Lw ?_ (v := .pointer (some ⟨J1a, 0 + 31, none⟩)) (hv := Q0 (m := 32) (by decide) (by decide) Tryd.underlying22 (by kernel_rfl) rfl rfl rfl)
  refine Lg ?_ k_t1 (v := .int .u8 ((Q6 V) 31)) (hj := by rw [Nat.zero_add]; exact J6 _ _ _ _ (by decide))
  refine Lw ?_ (v := .int .u8 0) (hv := by exact J4e (Z3k hV ht) rfl rfl rfl)
  refine Lw ?_ (v := .bool false)
  refine Lw ?_ (v := .bool false)
  refine J0 ?_
  go_upto_region 2 with fail
  refine wp_region_lit ?_
  refine L0A ?_ k_t1
  refine Lr ?_ (c_o W2 (J7 hG off0.ext).1)
  intro W3 hO
  replace k_t1 := k_t1.o hO
  replace k_t2 := k_t2.o hO
  replace off0 := off0.o hO
  clear hO
  refine LnP ?_ (z := c4 0) (t := 58) (cells := c4 Y)
  intro Q3y W5 J0p hO h_
  have nq_t1_t5 := bn k_t1 J0p
  have nq_t2_t5 := bn k_t2 J0p
  replace k_t1 := k_t1.o hO
  replace k_t2 := k_t2.o hO
  replace off0 := off0.o hO
  have k_t5 := h_
  clear hO h_ J0p
  refine J0 ?_
  go_upto_region 3 with fail
  refine wp_region_lit ?_
  refine Lw ?_ (v := .pointer (some ⟨J1a, 0 + 31, none⟩)) (hv := Q0 (m := 32) (by decide) (by decide) Tryd.underlying22 (by kernel_rfl) rfl rfl rfl)
  refine Lg ?_ k_t1 (v := .int .u8 ((Q6 V) 31)) (hj := by rw [Nat.zero_add]; exact J6 _ _ _ _ (by decide))
  refine Lw ?_ (v := .int .u8 (bits .andNot .u8 (Q6 V 31) 128)) (hv := by exact Q0f rfl rfl rfl rfl)
  refine Lw ?_ (v := .pointer (some ⟨J1a, 0 + 31, none⟩)) (hv := Q0 (m := 32) (by decide) (by decide) Tryd.underlying22 (by kernel_rfl) rfl rfl rfl)
  refine J2i (v := .int .u8 (bits .andNot .u8 (Q6 V 31) 128)) ⟨rfl, rfl⟩ (by rfl) rfl rfl rfl k_t1 (by rw [Q1, Nat.zero_add]; decide) (by kernel_rfl) ?_
  (try simp only [Act.put, mA, mB, mC])
  intro W6 hO h_
  rw [Nat.zero_add, J04] at h_
  replace k_t1 : Blk W6 J1a (J1 .u8 32 (upd (Q6 V) 31 (bits .andNot .u8 (Q6 V 31) 128))) 22 := h_
  clear h_
  replace k_t2 := k_t2.p hO nq_t1_t2.symm
  replace k_t5 := k_t5.p hO nq_t1_t5.symm
  replace off0 := off0.p hO J82
  clear hO
  rw [Q9r (Q46 hV)] at k_t1
  refine J0 ?_
  by_cases hy : Y = V % 2 ^ 255
  ·
   have _f := hy
   have H_hy := Lib.hid hy
   clear _f hy
   go_upto_region 4 with fail
   refine Rx 4 ?_
   refine Xl ?_ k_t5
   refine Xf ?_ (fun W hW => cb1 W (J7 (J7 hG off0.ext) hW).1)
   refine XlA ?_ k_t1
   rw [decide_eq_true H_hy.out] at e_b
   refine J85 (e_b) (by kernel_rfl) (by rfl) rfl rfl rfl ?_
   (try simp only [Act.put, mA, mB, mC])
   refine Q3 fun W7 hE => ?_
   have hO := Z6 hE
   replace k_t1 := k_t1.o hO
   replace k_t2 := k_t2.o hO
   replace k_t5 := k_t5.o hO
   replace off0 := off0.o hO
   clear hO hE
   refine LN ?_
   go_upto_region 6 with fail
   refine wp_region_lit ?_
   refine L0 ?_ k_t5
   refine L0 ?_ k_t5
   refine Lr ?_ (c_N2 W7 (J7 hG off0.ext).1)
   intro W8 hO
   replace k_t1 := k_t1.o hO
   replace k_t2 := k_t2.o hO
   replace k_t5 := k_t5.o hO
   replace off0 := off0.o hO
   clear hO
   refine LnP ?_ (z := c4 0) (t := 58) (cells := c4 N2)
   intro Z5p W10 J1c hO h_
   replace k_t1 := k_t1.o hO
   replace k_t2 := k_t2.o hO
   replace k_t5 := k_t5.o hO
   replace off0 := off0.o hO
   have k_t6 := h_
   clear hO h_ J1c
   refine J0 ?_
   have qRx : R = dX Y := by unfold dX dU dV; rw [HR.out, HN3.out, HN5.out, HN4.out, HN2.out]
   have qBx : B = dB Y := by unfold dB dU dV; rw [HB.out, HN3.out, HN5.out, HN4.out, HN2.out]
   have hRx := Lib.hid qRx
   have hBx := Lib.hid qBx
   clear qRx qBx
   by_cases hb : B = true
   ·
    have _f := hb
    have H_hb := Lib.hid hb
    clear _f hb
    go_upto_region 7 with fail
    refine Rx1 12 7 (z := c4 0) (t := 58) ?_
    refine Xl ?_ k_t6
    refine Xf ?_ (fun W hW => J4o W)
    refine Xf ?_ (fun W hW => c_N3 W (J7 (J7 hG off0.ext) hW).1)
    refine XR ?_ ((J7 hG off0.ext).2.2.1 hc)
    refine Xl ?_ k_t6
    refine Xf ?_ (fun W hW => c_N4 W (J7 (J7 hG off0.ext) hW).1)
    refine Xf ?_ (fun W hW => J4o W)
    refine Xf ?_ (fun W hW => c_N5 W (J7 (J7 hG off0.ext) hW).1)
    rw [H_hb.out] at c_r
    refine Xf ?_ (fun W hW => c_r W (J7 (J7 hG off0.ext) hW).1 ((J7 (J7 hG off0.ext) hW).2.1 hc))
    refine Xv ?_
    refine Xv ?_
    refine Xv ?_
    refine XN ?_
    intro J45 W11 J03 hE h_t7
    have hO := Z6 hE
    have J4f := bn k_t1 J03
    have nq_t2_t7 := bn k_t2 J03
    have J1z := bn k_t5 J03
    have J3d := bn k_t6 J03
    have J55 := fbn off0 J03
    replace k_t1 := k_t1.o hO
    replace k_t2 := k_t2.o hO
    replace k_t5 := k_t5.o hO
    replace k_t6 := k_t6.o hO
    replace off0 := off0.o hO
    clear hO hE J03
    have k_t7 : Blk W11 J45 (c4 0) 58 := h_t7
    clear h_t7
    refine Lp ?_ k_t7 (cells := c4 R)
    intro W12 hO h_
    replace k_t7 : Blk W12 J45 (c4 R) 58 := h_
    clear h_
    replace k_t1 := k_t1.p hO J4f
    replace k_t2 := k_t2.p hO nq_t2_t7
    replace k_t5 := k_t5.p hO J1z
    replace k_t6 := k_t6.p hO J3d
    replace off0 := off0.p hO J55
    clear hO
    refine Lw ?_ (v := .bool true)
    refine LN ?_
    go_upto_region 8 with fail
    refine wp_region_lit ?_
    refine Lw ?_ (v := .bool true)
    refine Lw ?_ (v := .bool false)
    refine Lw ?_ (v := .bool false)
    refine Lw ?_ (v := .bool false)
    refine Lw ?_ (v := .bool false)
    refine Ls ?_
    refine Ls ?_
    refine Ls ?_
    refine Lw ?_ (v := .bool false)
    refine Lw ?_ (v := .bool false)
    refine J0 ?_
    exact absurd (Q1q (H_hy.out ▸ lY) (by rw [← H_hy.out, ← hBx.out]; exact H_hb.out) (fun h => ht h.1)) (by rw [hok]; decide)
   ·
    have _f := hb
    rw [Bool.not_eq_true] at hb _f
    have H_hb := Lib.hid hb
    clear _f hb
    go_upto_region 7 with fail
    refine Rx1 12 7 (z := c4 0) (t := 58) ?_
    refine Xl ?_ k_t6
    refine Xf ?_ (fun W hW => J4o W)
    refine Xf ?_ (fun W hW => c_N3 W (J7 (J7 hG off0.ext) hW).1)
    refine XR ?_ ((J7 hG off0.ext).2.2.1 hc)
    refine Xl ?_ k_t6
    refine Xf ?_ (fun W hW => c_N4 W (J7 (J7 hG off0.ext) hW).1)
    refine Xf ?_ (fun W hW => J4o W)
    refine Xf ?_ (fun W hW => c_N5 W (J7 (J7 hG off0.ext) hW).1)
    rw [H_hb.out] at c_r
    refine Xf ?_ (fun W hW => c_r W (J7 (J7 hG off0.ext) hW).1 ((J7 (J7 hG off0.ext) hW).2.1 hc))
    refine Xv ?_
    refine Xv ?_
    refine Xv ?_
    refine XN ?_
    intro J45 W11 J03 hE h_t7
    have hO := Z6 hE
    have J4f := bn k_t1 J03
    have nq_t2_t7 := bn k_t2 J03
    have J1z := bn k_t5 J03
    have J55 := fbn off0 J03
    replace k_t1 := k_t1.o hO
    replace k_t2 := k_t2.o hO
    replace k_t5 := k_t5.o hO
    replace off0 := off0.o hO
    clear hO hE J03
    have k_t7 : Blk W11 J45 (c4 0) 58 := h_t7
    clear h_t7
    refine Lp ?_ k_t7 (cells := c4 R)
    intro W12 hO h_
    clear h_
    replace k_t1 := k_t1.p hO J4f
    replace k_t2 := k_t2.p hO nq_t2_t7
    replace k_t5 := k_t5.p hO J1z
    replace off0 := off0.p hO J55
    clear hO
    refine Lw ?_ (v := .bool false)
    refine LN ?_
    go_upto_region 8 with fail
    refine wp_region_lit ?_
    refine Lw ?_ (v := .bool false)
    refine Lw ?_ (v := .bool true)
    refine Lw ?_ (v := .bool true)
    refine Ls ?_
    refine Ls ?_
    refine Ls ?_
    refine Ls ?_
    refine Ls ?_
    refine Ls ?_
    refine Lw ?_ (v := .bool true)
    refine J0 ?_
    go_upto_region 9 with fail
    refine wp_region_lit ?_
    refine Lw ?_ (v := .agg (p4 0 0 0 0)) (hv := by kernel_rfl)
    refine Lp ?_ k_t2 (cells := p4 0 0 0 0)
    intro W13 hO h_
    replace k_t2 : Blk W13 J2q (p4 0 0 0 0) 60 := h_
    clear h_
    replace k_t1 := k_t1.p hO nq_t1_t2
    replace k_t5 := k_t5.p hO nq_t2_t5.symm
    replace off0 := off0.p hO J01
    clear hO
    refine Lw ?_ (v := .int .i64 15)
    refine J0 ?_
    go_wp2
    exact bodyPost_ret (V8 rfl rfl rfl k_t2 (by kernel_rfl) (by kernel_rfl)) rfl ⟨rfl, off0.ext⟩
  ·
   have _f := hy
   have H_hy := Lib.hid hy
   clear _f hy
   go_upto_region 4 with fail
   refine Rx 4 ?_
   refine Xl ?_ k_t5
   refine Xf ?_ (fun W hW => cb1 W (J7 (J7 hG off0.ext) hW).1)
   refine XlA ?_ k_t1
   rw [decide_eq_false H_hy.out] at e_b
   refine J85 (e_b) (by kernel_rfl) (by rfl) rfl rfl rfl ?_
   (try simp only [Act.put, mA, mB, mC])
   refine Q3 fun W7 hE => ?_
   have hO := Z6 hE
   replace k_t2 := k_t2.o hO
   replace off0 := off0.o hO
   clear hO hE
   refine LN ?_
   go_upto_region 5 with fail
   refine wp_region_lit ?_
   refine Lw ?_ (v := .agg (p4 0 0 0 0)) (hv := by kernel_rfl)
   refine Lp ?_ k_t2 (cells := p4 0 0 0 0)
   intro W8 hO h_
   replace k_t2 : Blk W8 J2q (p4 0 0 0 0) 60 := h_
   clear h_
   replace off0 := off0.p hO J01
   clear hO
   refine Lw ?_ (v := .int .i64 15)
   refine J0 ?_
   go_wp2
   exact bodyPost_ret (V8 rfl rfl rfl k_t2 (by kernel_rfl) (by kernel_rfl)) rfl ⟨rfl, off0.ext⟩
end Go.Proofs.YtefpoollmbmkfaaDoor
