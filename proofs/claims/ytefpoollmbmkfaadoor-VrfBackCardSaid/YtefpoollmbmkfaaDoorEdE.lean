/- edwards.Decode. Conditions: the cells of the variables hold the curve's numbers. -/
import Derived.Test.YtefpoollmbmkfaaDoorGc
import Derived.Test.YtefpoollmbmkfaaDoorEdD
set_option linter.unusedSimpArgs false
set_option linter.unusedVariables false
namespace Go.Proofs.YtefpoollmbmkfaaDoor
set_option maxHeartbeats 1500000
set_option maxRecDepth 100000
open Go.RowKit
attribute [local irreducible] wpList
variable {kn : Kn}
theorem y8m {V : Nat} (h : G9 V = true) : V % 2 ^ 255 < PP := by
  unfold G9 at h; simp only [Bool.and_eq_true, decide_eq_true_eq] at h; exact h.1.1
theorem j7k {V : Nat} (h : G9 V = true) : dB (V % 2 ^ 255) = true := by
  unfold G9 at h; simp only [Bool.and_eq_true] at h; exact h.1.2
theorem g3s {V : Nat} (h : G9 V = true) (ht : top V = true) : ¬ dX (V % 2 ^ 255) = 0 := by
  unfold G9 at h; intro h0
  simp [ht, h0] at h
theorem y2s {V : Nat} (h1 : V % 2 ^ 255 < PP) (h2 : dB (V % 2 ^ 255) = true) (h3 : ¬ (top V = true ∧ dX (V % 2 ^ 255) = 0)) : G9 V = true := by
  unfold G9
  rw [decide_eq_true h1, h2]
  cases ht : top V
  · rfl
  · have : ¬ dX (V % 2 ^ 255) = 0 := fun h0 => h3 ⟨ht, h0⟩
    simp [this]
theorem q8y (V : Nat) : V % 2 ^ 255 < 2 ^ 256 := Nat.lt_trans (Nat.mod_lt _ (by decide)) (by decide)

theorem j9j (y : Nat) (o : Bool) : dXf y o < PP := by
  unfold dXf
  split
  · exact y0o y
  · exact Z6 _
theorem q2d (hc : kn.c) {V : Nat} (hV : V < 2 ^ 256) (hok : G9 V = false) :
  ∀ w, GE kn w → Calls Tryd.prog 31 #[.agg (q7 .u8 32 (j0 V))] w fun e w' => m7 (.tuple #[.agg (p4 0 0 0 0), .int .i64 15]) w w' e := by
 have c_o := j7e (j0 V) (M9 V)
 rw [J2, show 8 * 32 = 256 by decide, Nat.mod_eq_of_lt hV] at c_o
 obtain ⟨Y, hY⟩ := z8 (V % 2 ^ 255 % PP)
 rw [← hY] at c_o
 have lY := V6 hY
 have HY := Lib.hid hY
 clear hY
 have cb1 := q4b Y (j5 lY)
 rw [Nat.mod_eq_of_lt lY] at cb1
 have e_b := j7l Y (V % 2 ^ 255) (y2r lY) (q8y V)
 have c_N2 := g6 Y Y (j5 lY) (j5 lY)
 obtain ⟨N2, hN2⟩ := z8 (Y * Y % PP)
 rw [← hN2] at c_N2
 have lN2 := V6 hN2
 have bN2 := j5 lN2
 have HN2 := Lib.hid hN2
 clear hN2
 have c_N3 := R4 N2 1 bN2 (by decide)
 obtain ⟨N3, hN3⟩ := z8 ((N2 + (PP - 1 % PP)) % PP)
 rw [← hN3] at c_N3
 have lN3 := V6 hN3
 have bN3 := j5 lN3
 have HN3 := Lib.hid hN3
 clear hN3
 have c_N4 := g6 DD N2 j7m bN2
 obtain ⟨N4, hN4⟩ := z8 (DD * N2 % PP)
 rw [← hN4] at c_N4
 have lN4 := V6 hN4
 have bN4 := j5 lN4
 have HN4 := Lib.hid hN4
 clear hN4
 have c_N5 := D7 N4 1 bN4 (by decide)
 obtain ⟨N5, hN5⟩ := z8 ((N4 + 1) % PP)
 rw [← hN5] at c_N5
 have lN5 := V6 hN5
 have bN5 := j5 lN5
 have HN5 := Lib.hid hN5
 clear hN5
 have c_r := y2o N3 N5 bN3 bN5
 obtain ⟨R, hR⟩ := z8 (rtR N3 N5)
 rw [← hR] at c_r
 have lR : R < PP := by rw [hR]; exact q7l _ _
 have HR := Lib.hid hR
 clear hR
 obtain ⟨B, hB⟩ := z8 (rtB N3 N5)
 rw [← hB] at c_r
 have HB := Lib.hid hB
 clear hB
 have cs6 := H6 R 0 (j5 lR) (by decide)
 rw [Nat.mod_eq_of_lt lR, Nat.mod_eq_of_lt (by decide)] at cs6
 intro w hG
 have off0 : Off [] w w := Off.refl _ _
 go_enter Tryd.func31, Tryd.ntmps31
 go_upto_region 0 with fail
 refine wp_region_lit ?_
 refine Ln ?_ (z := q7 .u8 32 (j0 V)) (t := 22)
 intro b7 W1 t8 hO h_
 have q1f := l4 off0 t8
 replace off0 := off0.o hO
 have k_t1 := h_
 clear hO h_ t8
 refine Ln ?_ (z := p4 0 0 0 0) (t := 60)
 intro s9 W2 z4 hO h_
 have nq_t1_t2 := bn k_t1 z4
 have u7 := l4 off0 z4
 replace k_t1 := k_t1.o hO
 replace off0 := off0.o hO
 have k_t2 := h_
 clear hO h_ z4
 refine Lw ?_ (v := .int .i64 0)
 refine q5 ?_
 by_cases ht : top V = true
 ·
  have _f := ht
  go_upto_region 1 with fail
  refine wp_region_lit ?_
  refine Lw ?_ (v := .pointer (some ⟨b7, 0 + 31, none⟩)) (hv := j2 (m := 32) (by decide) (by decide) Tryd.underlying22 (by kernel_rfl) rfl rfl rfl)
  refine Lg ?_ k_t1 (v := .int .u8 ((j0 V) 31)) (hj := by rw [Nat.zero_add]; exact y9 _ _ _ _ (by decide))
  refine Lw ?_ (v := .int .u8 128) (hv := by exact F1 (y2t hV ht) rfl rfl rfl)
  refine Lw ?_ (v := .bool true)
  refine Lw ?_ (v := .bool true)
  refine q5 ?_
  go_upto_region 2 with fail
  refine wp_region_lit ?_
  refine B9 ?_ k_t1
  refine Lr ?_ (c_o W2 (q8 hG off0.ext).1)
  intro W3 hO
  replace k_t1 := k_t1.o hO
  replace k_t2 := k_t2.o hO
  replace off0 := off0.o hO
  clear hO
  refine K8 ?_ (z := c4 0) (t := 58) (cells := c4 Y)
  intro y0p W5 h9 hO h_
  have nq_t1_t5 := bn k_t1 h9
  have nq_t2_t5 := bn k_t2 h9
  replace k_t1 := k_t1.o hO
  replace k_t2 := k_t2.o hO
  replace off0 := off0.o hO
  have k_t5 := h_
  clear hO h_ h9
  refine q5 ?_
  go_upto_region 3 with fail
  refine wp_region_lit ?_
  refine Lw ?_ (v := .pointer (some ⟨b7, 0 + 31, none⟩)) (hv := j2 (m := 32) (by decide) (by decide) Tryd.underlying22 (by kernel_rfl) rfl rfl rfl)
  refine Lg ?_ k_t1 (v := .int .u8 ((j0 V) 31)) (hj := by rw [Nat.zero_add]; exact y9 _ _ _ _ (by decide))
  refine Lw ?_ (v := .int .u8 (bits .andNot .u8 (j0 V 31) 128)) (hv := by exact P5 rfl rfl rfl rfl)
  refine Lw ?_ (v := .pointer (some ⟨b7, 0 + 31, none⟩)) (hv := j2 (m := 32) (by decide) (by decide) Tryd.underlying22 (by kernel_rfl) rfl rfl rfl)
  refine Z7 (v := .int .u8 (bits .andNot .u8 (j0 V 31) 128)) ⟨rfl, rfl⟩ (by rfl) rfl rfl rfl k_t1 (by rw [y5, Nat.zero_add]; decide) (by kernel_rfl) ?_
  (try simp only [Act.put, mA, mB, mC])
  intro W6 hO h_
  rw [Nat.zero_add, d9] at h_
  replace k_t1 : Blk W6 b7 (q7 .u8 32 (B8 (j0 V) 31 (bits .andNot .u8 (j0 V 31) 128))) 22 := h_
  clear h_
  replace k_t2 := k_t2.p hO nq_t1_t2.symm
  replace k_t5 := k_t5.p hO nq_t1_t5.symm
  replace off0 := off0.p hO q1f
  clear hO
  rw [y2u (q3l hV)] at k_t1
  refine q5 ?_
  by_cases hy : Y = V % 2 ^ 255
  ·
   have _f := hy
   have H_hy := Lib.hid hy
   clear _f hy
   go_upto_region 4 with fail
   refine Rx 4 ?_
   refine Xl ?_ k_t5
   refine Xf ?_ (fun W hW => cb1 W (q8 (q8 hG off0.ext) hW).1)
   refine XlA ?_ k_t1
   rw [decide_eq_true H_hy.out] at e_b
   refine F2 (e_b) (by kernel_rfl) (by rfl) rfl rfl rfl ?_
   (try simp only [Act.put, mA, mB, mC])
   refine j7 fun W7 hE => ?_
   have hO := g8 hE
   replace k_t1 := k_t1.o hO
   replace k_t2 := k_t2.o hO
   replace k_t5 := k_t5.o hO
   replace off0 := off0.o hO
   clear hO hE
   refine LN ?_
   go_upto_region 6 with fail
   refine wp_region_lit ?_
   refine L0 ?_ k_t5
   refine L0 ?_ k_t5
   refine Lr ?_ (c_N2 W7 (q8 hG off0.ext).1)
   intro W8 hO
   replace k_t1 := k_t1.o hO
   replace k_t2 := k_t2.o hO
   replace k_t5 := k_t5.o hO
   replace off0 := off0.o hO
   clear hO
   refine K8 ?_ (z := c4 0) (t := 58) (cells := c4 N2)
   intro y4u W10 i7 hO h_
   have nq_t2_t6 := bn k_t2 i7
   replace k_t1 := k_t1.o hO
   replace k_t2 := k_t2.o hO
   replace k_t5 := k_t5.o hO
   replace off0 := off0.o hO
   have k_t6 := h_
   clear hO h_ i7
   refine q5 ?_
   have qRx : R = dX Y := by unfold dX dU dV; rw [HR.out, HN3.out, HN5.out, HN4.out, HN2.out]
   have qBx : B = dB Y := by unfold dB dU dV; rw [HB.out, HN3.out, HN5.out, HN4.out, HN2.out]
   have hRx := Lib.hid qRx
   have hBx := Lib.hid qBx
   clear qRx qBx
   by_cases hb : B = true
   ·
    have _f := hb
    have H_hb := Lib.hid hb
    clear _f hb
    go_upto_region 7 with fail
    refine Rx1 12 7 (z := c4 0) (t := 58) ?_
    refine Xl ?_ k_t6
    refine Xf ?_ (fun W hW => G0 W)
    refine Xf ?_ (fun W hW => c_N3 W (q8 (q8 hG off0.ext) hW).1)
    refine XR ?_ ((q8 hG off0.ext).2.2.1 hc)
    refine Xl ?_ k_t6
    refine Xf ?_ (fun W hW => c_N4 W (q8 (q8 hG off0.ext) hW).1)
    refine Xf ?_ (fun W hW => G0 W)
    refine Xf ?_ (fun W hW => c_N5 W (q8 (q8 hG off0.ext) hW).1)
    rw [H_hb.out] at c_r
    refine Xf ?_ (fun W hW => c_r W (q8 (q8 hG off0.ext) hW).1 ((q8 (q8 hG off0.ext) hW).2.1 hc))
    refine Xv ?_
    refine Xv ?_
    refine Xv ?_
    refine XN ?_
    intro Y0 W11 u9 hE h_t7
    have hO := g8 hE
    have J3 := bn k_t1 u9
    have nq_t2_t7 := bn k_t2 u9
    have o7 := bn k_t5 u9
    have J1 := bn k_t6 u9
    have M6 := l4 off0 u9
    replace k_t1 := k_t1.o hO
    replace k_t2 := k_t2.o hO
    replace k_t5 := k_t5.o hO
    replace k_t6 := k_t6.o hO
    replace off0 := off0.o hO
    clear hO hE u9
    have k_t7 : Blk W11 Y0 (c4 0) 58 := h_t7
    clear h_t7
    refine Lp ?_ k_t7 (cells := c4 R)
    intro W12 hO h_
    replace k_t7 : Blk W12 Y0 (c4 R) 58 := h_
    clear h_
    replace k_t1 := k_t1.p hO J3
    replace k_t2 := k_t2.p hO nq_t2_t7
    replace k_t5 := k_t5.p hO o7
    replace k_t6 := k_t6.p hO J1
    replace off0 := off0.p hO M6
    clear hO
    refine Lw ?_ (v := .bool true)
    refine LN ?_
    by_cases h0 : R = 0
    ·
     have _f := h0
     have H_h0 := Lib.hid h0
     clear _f h0
     go_upto_region 8 with fail
     refine wp_region_lit ?_
     refine Lw ?_ (v := .bool true)
     refine Lw ?_ (v := .bool false)
     refine Lw ?_ (v := .bool false)
     refine Lw ?_ (v := .bool true)
     refine Lw ?_ (v := .bool true)
     refine L0 ?_ k_t7
     refine Lw ?_ (v := .agg (c4 0)) (hv := by kernel_rfl)
     rw [decide_eq_true H_h0.out] at cs6
     refine Lr ?_ (cs6 W12 (q8 hG off0.ext).1)
     intro W13 hO
     replace k_t1 := k_t1.o hO
     replace k_t2 := k_t2.o hO
     replace k_t5 := k_t5.o hO
     replace k_t6 := k_t6.o hO
     replace k_t7 := k_t7.o hO
     replace off0 := off0.o hO
     clear hO
     refine Lw ?_ (v := .bool true)
     refine Lw ?_ (v := .bool true)
     refine q5 ?_
     go_upto_region 9 with fail
     refine wp_region_lit ?_
     refine Lw ?_ (v := .agg (p4 0 0 0 0)) (hv := by kernel_rfl)
     refine Lp ?_ k_t2 (cells := p4 0 0 0 0)
     intro W14 hO h_
     replace k_t2 : Blk W14 s9 (p4 0 0 0 0) 60 := h_
     clear h_
     replace k_t1 := k_t1.p hO nq_t1_t2
     replace k_t5 := k_t5.p hO nq_t2_t5.symm
     replace k_t6 := k_t6.p hO nq_t2_t6.symm
     replace k_t7 := k_t7.p hO nq_t2_t7.symm
     replace off0 := off0.p hO u7
     clear hO
     refine Lw ?_ (v := .int .i64 15)
     refine q5 ?_
     go_wp2
     exact bodyPost_ret (u4 rfl rfl rfl k_t2 (by kernel_rfl) (by kernel_rfl)) rfl ⟨rfl, off0.ext⟩
    ·
     have _f := h0
     have H_h0 := Lib.hid h0
     clear _f h0
     go_upto_region 8 with fail
     refine wp_region_lit ?_
     refine Lw ?_ (v := .bool true)
     refine Lw ?_ (v := .bool false)
     refine Lw ?_ (v := .bool false)
     refine Lw ?_ (v := .bool true)
     refine Lw ?_ (v := .bool true)
     refine L0 ?_ k_t7
     refine Lw ?_ (v := .agg (c4 0)) (hv := by kernel_rfl)
     rw [decide_eq_false H_h0.out] at cs6
     refine Lr ?_ (cs6 W12 (q8 hG off0.ext).1)
     intro W13 hO
     replace k_t1 := k_t1.o hO
     replace k_t2 := k_t2.o hO
     replace k_t5 := k_t5.o hO
     replace k_t6 := k_t6.o hO
     replace k_t7 := k_t7.o hO
     replace off0 := off0.o hO
     clear hO
     refine Lw ?_ (v := .bool false)
     refine Lw ?_ (v := .bool false)
     refine q5 ?_
     exact absurd (y2s (H_hy.out ▸ lY) (by rw [← H_hy.out, ← hBx.out]; exact H_hb.out) (fun h => H_h0.out (by rw [hRx.out, H_hy.out]; exact h.2))) (by rw [hok]; decide)
   ·
    have _f := hb
    rw [Bool.not_eq_true] at hb _f
    have H_hb := Lib.hid hb
    clear _f hb
    go_upto_region 7 with fail
    refine Rx1 12 7 (z := c4 0) (t := 58) ?_
    refine Xl ?_ k_t6
    refine Xf ?_ (fun W hW => G0 W)
    refine Xf ?_ (fun W hW => c_N3 W (q8 (q8 hG off0.ext) hW).1)
    refine XR ?_ ((q8 hG off0.ext).2.2.1 hc)
    refine Xl ?_ k_t6
    refine Xf ?_ (fun W hW => c_N4 W (q8 (q8 hG off0.ext) hW).1)
    refine Xf ?_ (fun W hW => G0 W)
    refine Xf ?_ (fun W hW => c_N5 W (q8 (q8 hG off0.ext) hW).1)
    rw [H_hb.out] at c_r
    refine Xf ?_ (fun W hW => c_r W (q8 (q8 hG off0.ext) hW).1 ((q8 (q8 hG off0.ext) hW).2.1 hc))
    refine Xv ?_
    refine Xv ?_
    refine Xv ?_
    refine XN ?_
    intro Y0 W11 u9 hE h_t7
    have hO := g8 hE
    have J3 := bn k_t1 u9
    have nq_t2_t7 := bn k_t2 u9
    have o7 := bn k_t5 u9
    have J1 := bn k_t6 u9
    have M6 := l4 off0 u9
    replace k_t1 := k_t1.o hO
    replace k_t2 := k_t2.o hO
    replace k_t5 := k_t5.o hO
    replace k_t6 := k_t6.o hO
    replace off0 := off0.o hO
    clear hO hE u9
    have k_t7 : Blk W11 Y0 (c4 0) 58 := h_t7
    clear h_t7
    refine Lp ?_ k_t7 (cells := c4 R)
    intro W12 hO h_
    replace k_t7 : Blk W12 Y0 (c4 R) 58 := h_
    clear h_
    replace k_t1 := k_t1.p hO J3
    replace k_t2 := k_t2.p hO nq_t2_t7
    replace k_t5 := k_t5.p hO o7
    replace k_t6 := k_t6.p hO J1
    replace off0 := off0.p hO M6
    clear hO
    refine Lw ?_ (v := .bool false)
    refine LN ?_
    go_upto_region 8 with fail
    refine wp_region_lit ?_
    refine Lw ?_ (v := .bool false)
    refine Lw ?_ (v := .bool true)
    refine Lw ?_ (v := .bool true)
    refine Ls ?_
    refine Ls ?_
    refine Ls ?_
    refine Ls ?_
    refine Ls ?_
    refine Ls ?_
    refine Lw ?_ (v := .bool true)
    refine q5 ?_
    go_upto_region 9 with fail
    refine wp_region_lit ?_
    refine Lw ?_ (v := .agg (p4 0 0 0 0)) (hv := by kernel_rfl)
    refine Lp ?_ k_t2 (cells := p4 0 0 0 0)
    intro W13 hO h_
    replace k_t2 : Blk W13 s9 (p4 0 0 0 0) 60 := h_
    clear h_
    replace k_t1 := k_t1.p hO nq_t1_t2
    replace k_t5 := k_t5.p hO nq_t2_t5.symm
    replace k_t6 := k_t6.p hO nq_t2_t6.symm
    replace k_t7 := k_t7.p hO nq_t2_t7.symm
    replace off0 := off0.p hO u7
    clear hO
    refine Lw ?_ (v := .int .i64 15)
    refine q5 ?_
    go_wp2
    exact bodyPost_ret (u4 rfl rfl rfl k_t2 (by kernel_rfl) (by kernel_rfl)) rfl ⟨rfl, off0.ext⟩
  ·
   have _f := hy
   have H_hy := Lib.hid hy
   clear _f hy
   go_upto_region 4 with fail
   refine Rx 4 ?_
   refine Xl ?_ k_t5
   refine Xf ?_ (fun W hW => cb1 W (q8 (q8 hG off0.ext) hW).1)
   refine XlA ?_ k_t1
   rw [decide_eq_false H_hy.out] at e_b
   refine F2 (e_b) (by kernel_rfl) (by rfl) rfl rfl rfl ?_
   (try simp only [Act.put, mA, mB, mC])
   refine j7 fun W7 hE => ?_
   have hO := g8 hE
   replace k_t1 := k_t1.o hO
   replace k_t2 := k_t2.o hO
   replace k_t5 := k_t5.o hO
   replace off0 := off0.o hO
   clear hO hE
   refine LN ?_
   go_upto_region 5 with fail
   refine wp_region_lit ?_
   refine Lw ?_ (v := .agg (p4 0 0 0 0)) (hv := by kernel_rfl)
   refine Lp ?_ k_t2 (cells := p4 0 0 0 0)
   intro W8 hO h_
   replace k_t2 : Blk W8 s9 (p4 0 0 0 0) 60 := h_
   clear h_
   replace k_t1 := k_t1.p hO nq_t1_t2
   replace k_t5 := k_t5.p hO nq_t2_t5.symm
   replace off0 := off0.p hO u7
   clear hO
   refine Lw ?_ (v := .int .i64 15)
   refine q5 ?_
   go_wp2
   exact bodyPost_ret (u4 rfl rfl rfl k_t2 (by kernel_rfl) (by kernel_rfl)) rfl ⟨rfl, off0.ext⟩
 ·
  have _f := ht
  go_upto_region 1 with fail
  refine wp_region_lit ?_
  refine Lw ?_ (v := .pointer (some ⟨b7, 0 + 31, none⟩)) (hv := j2 (m := 32) (by decide) (by decide) Tryd.underlying22 (by kernel_rfl) rfl rfl rfl)
  refine Lg ?_ k_t1 (v := .int .u8 ((j0 V) 31)) (hj := by rw [Nat.zero_add]; exact y9 _ _ _ _ (by decide))
  refine Lw ?_ (v := .int .u8 0) (hv := by exact F1 (y2v hV ht) rfl rfl rfl)
  refine Lw ?_ (v := .bool false)
  refine Lw ?_ (v := .bool false)
  refine q5 ?_
  go_upto_region 2 with fail
  refine wp_region_lit ?_
  refine B9 ?_ k_t1
  refine Lr ?_ (c_o W2 (q8 hG off0.ext).1)
  intro W3 hO
  replace k_t1 := k_t1.o hO
  replace k_t2 := k_t2.o hO
  replace off0 := off0.o hO
  clear hO
  refine K8 ?_ (z := c4 0) (t := 58) (cells := c4 Y)
  intro y0p W5 h9 hO h_
  have nq_t1_t5 := bn k_t1 h9
  have nq_t2_t5 := bn k_t2 h9
  replace k_t1 := k_t1.o hO
  replace k_t2 := k_t2.o hO
  replace off0 := off0.o hO
  have k_t5 := h_
  clear hO h_ h9
  refine q5 ?_
  go_upto_region 3 with fail
  refine wp_region_lit ?_
  refine Lw ?_ (v := .pointer (some ⟨b7, 0 + 31, none⟩)) (hv := j2 (m := 32) (by decide) (by decide) Tryd.underlying22 (by kernel_rfl) rfl rfl rfl)
  refine Lg ?_ k_t1 (v := .int .u8 ((j0 V) 31)) (hj := by rw [Nat.zero_add]; exact y9 _ _ _ _ (by decide))
  refine Lw ?_ (v := .int .u8 (bits .andNot .u8 (j0 V 31) 128)) (hv := by exact P5 rfl rfl rfl rfl)
  refine Lw ?_ (v := .pointer (some ⟨b7, 0 + 31, none⟩)) (hv := j2 (m := 32) (by decide) (by decide) Tryd.underlying22 (by kernel_rfl) rfl rfl rfl)
  refine Z7 (v := .int .u8 (bits .andNot .u8 (j0 V 31) 128)) ⟨rfl, rfl⟩ (by rfl) rfl rfl rfl k_t1 (by rw [y5, Nat.zero_add]; decide) (by kernel_rfl) ?_
  (try simp only [Act.put, mA, mB, mC])
  intro W6 hO h_
  rw [Nat.zero_add, d9] at h_
  replace k_t1 : Blk W6 b7 (q7 .u8 32 (B8 (j0 V) 31 (bits .andNot .u8 (j0 V 31) 128))) 22 := h_
  clear h_
  replace k_t2 := k_t2.p hO nq_t1_t2.symm
  replace k_t5 := k_t5.p hO nq_t1_t5.symm
  replace off0 := off0.p hO q1f
  clear hO
  rw [y2u (q3l hV)] at k_t1
  refine q5 ?_
  by_cases hy : Y = V % 2 ^ 255
  ·
   have _f := hy
   have H_hy := Lib.hid hy
   clear _f hy
   go_upto_region 4 with fail
   refine Rx 4 ?_
   refine Xl ?_ k_t5
   refine Xf ?_ (fun W hW => cb1 W (q8 (q8 hG off0.ext) hW).1)
   refine XlA ?_ k_t1
   rw [decide_eq_true H_hy.out] at e_b
   refine F2 (e_b) (by kernel_rfl) (by rfl) rfl rfl rfl ?_
   (try simp only [Act.put, mA, mB, mC])
   refine j7 fun W7 hE => ?_
   have hO := g8 hE
   replace k_t1 := k_t1.o hO
   replace k_t2 := k_t2.o hO
   replace k_t5 := k_t5.o hO
   replace off0 := off0.o hO
   clear hO hE
   refine LN ?_
   go_upto_region 6 with fail
   refine wp_region_lit ?_
   refine L0 ?_ k_t5
   refine L0 ?_ k_t5
   refine Lr ?_ (c_N2 W7 (q8 hG off0.ext).1)
   intro W8 hO
   replace k_t1 := k_t1.o hO
   replace k_t2 := k_t2.o hO
   replace k_t5 := k_t5.o hO
   replace off0 := off0.o hO
   clear hO
   refine K8 ?_ (z := c4 0) (t := 58) (cells := c4 N2)
   intro y4u W10 i7 hO h_
   replace k_t1 := k_t1.o hO
   replace k_t2 := k_t2.o hO
   replace k_t5 := k_t5.o hO
   replace off0 := off0.o hO
   have k_t6 := h_
   clear hO h_ i7
   refine q5 ?_
   have qRx : R = dX Y := by unfold dX dU dV; rw [HR.out, HN3.out, HN5.out, HN4.out, HN2.out]
   have qBx : B = dB Y := by unfold dB dU dV; rw [HB.out, HN3.out, HN5.out, HN4.out, HN2.out]
   have hRx := Lib.hid qRx
   have hBx := Lib.hid qBx
   clear qRx qBx
   by_cases hb : B = true
   ·
    have _f := hb
    have H_hb := Lib.hid hb
    clear _f hb
    go_upto_region 7 with fail
    refine Rx1 12 7 (z := c4 0) (t := 58) ?_
    refine Xl ?_ k_t6
    refine Xf ?_ (fun W hW => G0 W)
    refine Xf ?_ (fun W hW => c_N3 W (q8 (q8 hG off0.ext) hW).1)
    refine XR ?_ ((q8 hG off0.ext).2.2.1 hc)
    refine Xl ?_ k_t6
    refine Xf ?_ (fun W hW => c_N4 W (q8 (q8 hG off0.ext) hW).1)
    refine Xf ?_ (fun W hW => G0 W)
    refine Xf ?_ (fun W hW => c_N5 W (q8 (q8 hG off0.ext) hW).1)
    rw [H_hb.out] at c_r
    refine Xf ?_ (fun W hW => c_r W (q8 (q8 hG off0.ext) hW).1 ((q8 (q8 hG off0.ext) hW).2.1 hc))
    refine Xv ?_
    refine Xv ?_
    refine Xv ?_
    refine XN ?_
    intro Y0 W11 u9 hE h_t7
    have hO := g8 hE
    have J3 := bn k_t1 u9
    have nq_t2_t7 := bn k_t2 u9
    have o7 := bn k_t5 u9
    have J1 := bn k_t6 u9
    have M6 := l4 off0 u9
    replace k_t1 := k_t1.o hO
    replace k_t2 := k_t2.o hO
    replace k_t5 := k_t5.o hO
    replace k_t6 := k_t6.o hO
    replace off0 := off0.o hO
    clear hO hE u9
    have k_t7 : Blk W11 Y0 (c4 0) 58 := h_t7
    clear h_t7
    refine Lp ?_ k_t7 (cells := c4 R)
    intro W12 hO h_
    replace k_t7 : Blk W12 Y0 (c4 R) 58 := h_
    clear h_
    replace k_t1 := k_t1.p hO J3
    replace k_t2 := k_t2.p hO nq_t2_t7
    replace k_t5 := k_t5.p hO o7
    replace k_t6 := k_t6.p hO J1
    replace off0 := off0.p hO M6
    clear hO
    refine Lw ?_ (v := .bool true)
    refine LN ?_
    go_upto_region 8 with fail
    refine wp_region_lit ?_
    refine Lw ?_ (v := .bool true)
    refine Lw ?_ (v := .bool false)
    refine Lw ?_ (v := .bool false)
    refine Lw ?_ (v := .bool false)
    refine Lw ?_ (v := .bool false)
    refine Ls ?_
    refine Ls ?_
    refine Ls ?_
    refine Lw ?_ (v := .bool false)
    refine Lw ?_ (v := .bool false)
    refine q5 ?_
    exact absurd (y2s (H_hy.out ▸ lY) (by rw [← H_hy.out, ← hBx.out]; exact H_hb.out) (fun h => ht h.1)) (by rw [hok]; decide)
   ·
    have _f := hb
    rw [Bool.not_eq_true] at hb _f
    have H_hb := Lib.hid hb
    clear _f hb
    go_upto_region 7 with fail
    refine Rx1 12 7 (z := c4 0) (t := 58) ?_
    refine Xl ?_ k_t6
    refine Xf ?_ (fun W hW => G0 W)
    refine Xf ?_ (fun W hW => c_N3 W (q8 (q8 hG off0.ext) hW).1)
    refine XR ?_ ((q8 hG off0.ext).2.2.1 hc)
    refine Xl ?_ k_t6
    refine Xf ?_ (fun W hW => c_N4 W (q8 (q8 hG off0.ext) hW).1)
    refine Xf ?_ (fun W hW => G0 W)
    refine Xf ?_ (fun W hW => c_N5 W (q8 (q8 hG off0.ext) hW).1)
    rw [H_hb.out] at c_r
    refine Xf ?_ (fun W hW => c_r W (q8 (q8 hG off0.ext) hW).1 ((q8 (q8 hG off0.ext) hW).2.1 hc))
    refine Xv ?_
    refine Xv ?_
    refine Xv ?_
    refine XN ?_
    intro Y0 W11 u9 hE h_t7
    have hO := g8 hE
    have J3 := bn k_t1 u9
    have nq_t2_t7 := bn k_t2 u9
    have o7 := bn k_t5 u9
    have M6 := l4 off0 u9
    replace k_t1 := k_t1.o hO
    replace k_t2 := k_t2.o hO
    replace k_t5 := k_t5.o hO
    replace off0 := off0.o hO
    clear hO hE u9
    have k_t7 : Blk W11 Y0 (c4 0) 58 := h_t7
    clear h_t7
    refine Lp ?_ k_t7 (cells := c4 R)
    intro W12 hO h_
    clear h_
    replace k_t1 := k_t1.p hO J3
    replace k_t2 := k_t2.p hO nq_t2_t7
    replace k_t5 := k_t5.p hO o7
    replace off0 := off0.p hO M6
    clear hO
    refine Lw ?_ (v := .bool false)
    refine LN ?_
    go_upto_region 8 with fail
    refine wp_region_lit ?_
    refine Lw ?_ (v := .bool false)
    refine Lw ?_ (v := .bool true)
    refine Lw ?_ (v := .bool true)
    refine Ls ?_
    refine Ls ?_
    refine Ls ?_
    refine Ls ?_
    refine Ls ?_
    refine Ls ?_
    refine Lw ?_ (v := .bool true)
    refine q5 ?_
    go_upto_region 9 with fail
    refine wp_region_lit ?_
    refine Lw ?_ (v := .agg (p4 0 0 0 0)) (hv := by kernel_rfl)
    refine Lp ?_ k_t2 (cells := p4 0 0 0 0)
    intro W13 hO h_
    replace k_t2 : Blk W13 s9 (p4 0 0 0 0) 60 := h_
    clear h_
    replace k_t1 := k_t1.p hO nq_t1_t2
    replace k_t5 := k_t5.p hO nq_t2_t5.symm
    replace off0 := off0.p hO u7
    clear hO
    refine Lw ?_ (v := .int .i64 15)
    refine q5 ?_
    go_wp2
    exact bodyPost_ret (u4 rfl rfl rfl k_t2 (by kernel_rfl) (by kernel_rfl)) rfl ⟨rfl, off0.ext⟩
  ·
   have _f := hy
   have H_hy := Lib.hid hy
   clear _f hy
   go_upto_region 4 with fail
   refine Rx 4 ?_
   refine Xl ?_ k_t5
   refine Xf ?_ (fun W hW => cb1 W (q8 (q8 hG off0.ext) hW).1)
   refine XlA ?_ k_t1
   rw [decide_eq_false H_hy.out] at e_b
   refine F2 (e_b) (by kernel_rfl) (by rfl) rfl rfl rfl ?_
   (try simp only [Act.put, mA, mB, mC])
   refine j7 fun W7 hE => ?_
   have hO := g8 hE
   replace k_t2 := k_t2.o hO
   replace off0 := off0.o hO
   clear hO hE
   refine LN ?_
   go_upto_region 5 with fail
   refine wp_region_lit ?_
   refine Lw ?_ (v := .agg (p4 0 0 0 0)) (hv := by kernel_rfl)
   refine Lp ?_ k_t2 (cells := p4 0 0 0 0)
   intro W8 hO h_
   replace k_t2 : Blk W8 s9 (p4 0 0 0 0) 60 := h_
   clear h_
   replace off0 := off0.p hO u7
   clear hO
   refine Lw ?_ (v := .int .i64 15)
   refine q5 ?_
   go_wp2
   exact bodyPost_ret (u4 rfl rfl rfl k_t2 (by kernel_rfl) (by kernel_rfl)) rfl ⟨rfl, off0.ext⟩
end Go.Proofs.YtefpoollmbmkfaaDoor
