/- edwards.Decode. Conditions: the cells of the variables hold the curve's numbers. -/
import Derived.Test.YtejkmhgkkibafaaGreatDoorGc
import Derived.Test.YtejkmhgkkibafaaGreatDoorJ6
import Derived.Test.YtejkmhgkkibafaaGreatDoorJ3
import Derived.Test.YtejkmhgkkibafaaGreatDoorJ9
import Derived.Test.YtejkmhgkkibafaaGreatDoorJ18
set_option linter.unusedSimpArgs false
set_option linter.unusedVariables false
namespace Go.Proofs.YtejkmhgkkibafaaGreatDoor.S8
set_option maxHeartbeats 1500000
set_option maxRecDepth 100000
open Go.RowKit
attribute [local irreducible] wpList
variable {kn : Kn}
theorem Z8p {V : Nat} (h : dOk V = true) : V % 2 ^ 255 < PP := by
  unfold dOk at h; simp only [Bool.and_eq_true, decide_eq_true_eq] at h; exact h.1.1
theorem Y5m {V : Nat} (h : dOk V = true) : dB (V % 2 ^ 255) = true := by
  unfold dOk at h; simp only [Bool.and_eq_true] at h; exact h.1.2
theorem V2q {V : Nat} (h : dOk V = true) (ht : top V = true) : ¬ dX (V % 2 ^ 255) = 0 := by
  unfold dOk at h; intro h0
  simp [ht, h0] at h
theorem Z3a {V : Nat} (h1 : V % 2 ^ 255 < PP) (h2 : dB (V % 2 ^ 255) = true) (h3 : ¬ (top V = true ∧ dX (V % 2 ^ 255) = 0)) : dOk V = true := by
  unfold dOk
  rw [decide_eq_true h1, h2]
  cases ht : top V
  · rfl
  have : ¬ dX (V % 2 ^ 255) = 0 := fun h0 => h3 ⟨ht, h0⟩
  simp [this]
theorem Q9q (V : Nat) : V % 2 ^ 255 < 2 ^ 256 := Nat.lt_trans (Nat.mod_lt _ (by decide)) (by decide)

theorem Y8h (y : Nat) (o : Bool) : dXf y o < PP := by
  unfold dXf
  split
  · exact Z19 y
  exact J4j _
theorem Y8i (hc : kn.c) {V : Nat} (hV : V < 2 ^ 256) (hok : dOk V = false) :
  ∀ w, GE kn w → Calls Tryz.prog 106 #[.agg (J0 .u8 32 (Q5 V))] w fun e w' => Ret (.tuple #[.agg (p4 0 0 0 0), .int .i64 15]) w w' e := by
 have c_o := Y5g (Q5 V) (J70 V)
 rw [J5a, show 8 * 32 = 256 by decide, Nat.mod_eq_of_lt hV] at c_o
 obtain ⟨Y, hY⟩ := exn (V % 2 ^ 255 % PP)
 rw [← hY] at c_o
 have lY := bpp hY
 have HY := Lib.hid hY
 clear hY
 have cb1 := Q4f Y (Z8 lY)
 rw [Nat.mod_eq_of_lt lY] at cb1
 have e_b := Z2p Y (V % 2 ^ 255) (Z39 lY) (Q9q V)
 have c_N2 := Y9 Y Y (Z8 lY) (Z8 lY)
 obtain ⟨N2, hN2⟩ := exn (Y * Y % PP)
 rw [← hN2] at c_N2
 have lN2 := bpp hN2
 have bN2 := Z8 lN2
 have HN2 := Lib.hid hN2
 clear hN2
 have c_N3 := J97 N2 1 bN2 (by decide)
 obtain ⟨N3, hN3⟩ := exn ((N2 + (PP - 1 % PP)) % PP)
 rw [← hN3] at c_N3
 have lN3 := bpp hN3
 have bN3 := Z8 lN3
 have HN3 := Lib.hid hN3
 clear hN3
 have c_N4 := Y9 DD N2 Y5n bN2
 obtain ⟨N4, hN4⟩ := exn (DD * N2 % PP)
 rw [← hN4] at c_N4
 have lN4 := bpp hN4
 have bN4 := Z8 lN4
 have HN4 := Lib.hid hN4
 clear hN4
 have c_N5 := J5n N4 1 bN4 (by decide)
 obtain ⟨N5, hN5⟩ := exn ((N4 + 1) % PP)
 rw [← hN5] at c_N5
 have lN5 := bpp hN5
 have bN5 := Z8 lN5
 have HN5 := Lib.hid hN5
 clear hN5
 have c_r := Z38 N3 N5 bN3 bN5
 obtain ⟨R, hR⟩ := exn (rtR N3 N5)
 rw [← hR] at c_r
 have lR : R < PP := by rw [hR]; exact Q7v _ _
 have HR := Lib.hid hR
 clear hR
 obtain ⟨B, hB⟩ := exn (rtB N3 N5)
 rw [← hB] at c_r
 have HB := Lib.hid hB
 clear hB
 have cs6 := J8b R 0 (Z8 lR) (by decide)
 rw [Nat.mod_eq_of_lt lR, Nat.mod_eq_of_lt (by decide)] at cs6
 intro w hG
 have off0 : Off [] w w := Off.refl _ _
 go_enter Tryz.func106, Tryz.ntmps106
 go_upto_region 0 with fail
 refine wp_region_lit ?_
 refine Ln ?_ (z := J0 .u8 32 (Q5 V)) (t := 23)
 intro J1m W1 J8c hO h_
 have Q1d := fbn off0 J8c
 replace off0 := off0.o hO
 have k_t1 := h_
 clear hO h_ J8c
 refine Ln ?_ (z := p4 0 0 0 0) (t := 157)
 intro J5o W2 J0l hO h_
 have nq_t1_t2 := bn k_t1 J0l
 have J0r := fbn off0 J0l
 replace k_t1 := k_t1.o hO
 replace off0 := off0.o hO
 have k_t2 := h_
 clear hO h_ J0l
 refine Lw ?_ (v := .int .i64 0)
 refine J3 ?_
 by_cases ht : top V = true
 ·
  have _f := ht
  go_upto_region 1 with fail
  refine wp_region_lit ?_
  refine Lw ?_ (v := .pointer (some ⟨J1m, 0 + 31, none⟩)) (hv := J5 (m := 32) (by decide) (by decide) Tryz.underlying23 (by kernel_rfl) rfl rfl rfl)
  refine Lg ?_ k_t1 (v := .int .u8 ((Q5 V) 31)) (hj := by rw [Nat.zero_add]; exact J6 _ _ _ _ (by decide))
  refine Lw ?_ (v := .int .u8 128) (hv := by exact J7j (Z3b hV ht) rfl rfl rfl)
  refine Lw ?_ (v := .bool true)
  refine Lw ?_ (v := .bool true)
  refine J3 ?_
  go_upto_region 2 with fail
  refine wp_region_lit ?_
  refine L0A ?_ k_t1
  refine Lr ?_ (c_o W2 (Q0 hG off0.ext).1)
  intro W3 hO
  replace k_t1 := k_t1.o hO
  replace k_t2 := k_t2.o hO
  replace off0 := off0.o hO
  clear hO
  refine LnP ?_ (z := c4 0) (t := 155) (cells := c4 Y)
  intro J47 W5 J1k hO h_
  have nq_t1_t5 := bn k_t1 J1k
  have nq_t2_t5 := bn k_t2 J1k
  replace k_t1 := k_t1.o hO
  replace k_t2 := k_t2.o hO
  replace off0 := off0.o hO
  have k_t5 := h_
  clear hO h_ J1k
  refine J3 ?_
  go_upto_region 3 with fail
  refine wp_region_lit ?_
  refine Lw ?_ (v := .pointer (some ⟨J1m, 0 + 31, none⟩)) (hv := J5 (m := 32) (by decide) (by decide) Tryz.underlying23 (by kernel_rfl) rfl rfl rfl)
  refine Lg ?_ k_t1 (v := .int .u8 ((Q5 V) 31)) (hj := by rw [Nat.zero_add]; exact J6 _ _ _ _ (by decide))
  refine Lw ?_ (v := .int .u8 (bits .andNot .u8 (Q5 V 31) 128)) (hv := by exact J9w rfl rfl rfl rfl)
  refine Lw ?_ (v := .pointer (some ⟨J1m, 0 + 31, none⟩)) (hv := J5 (m := 32) (by decide) (by decide) Tryz.underlying23 (by kernel_rfl) rfl rfl rfl)
  refine J28 (v := .int .u8 (bits .andNot .u8 (Q5 V 31) 128)) ⟨rfl, rfl⟩ (by rfl) rfl rfl rfl k_t1 (by rw [J2, Nat.zero_add]; decide) (by kernel_rfl) ?_
  (try simp only [Act.put, mA, mB, mC])
  intro W6 hO h_
  rw [Nat.zero_add, K0] at h_
  replace k_t1 : Blk W6 J1m (J0 .u8 32 (upd (Q5 V) 31 (bits .andNot .u8 (Q5 V 31) 128))) 23 := h_
  clear h_
  replace k_t2 := k_t2.p hO nq_t1_t2.symm
  replace k_t5 := k_t5.p hO nq_t1_t5.symm
  replace off0 := off0.p hO Q1d
  clear hO
  rw [Z3c (Q3d hV)] at k_t1
  refine J3 ?_
  by_cases hy : Y = V % 2 ^ 255
  ·
   have _f := hy
   have H_hy := Lib.hid hy
   clear _f hy
   go_upto_region 4 with fail
   refine Rx 4 ?_
   refine Xl ?_ k_t5
   refine Xf ?_ (fun W hW => cb1 W (Q0 (Q0 hG off0.ext) hW).1)
   refine XlA ?_ k_t1
   rw [decide_eq_true H_hy.out] at e_b
   refine J59 (e_b) (by kernel_rfl) (by rfl) rfl rfl rfl ?_
   (try simp only [Act.put, mA, mB, mC])
   refine Z4 fun W7 hE => ?_
   have hO := Z7 hE
   replace k_t1 := k_t1.o hO
   replace k_t2 := k_t2.o hO
   replace k_t5 := k_t5.o hO
   replace off0 := off0.o hO
   clear hO hE
   refine LN ?_
   go_upto_region 6 with fail
   refine wp_region_lit ?_
   refine L0 ?_ k_t5
   refine L0 ?_ k_t5
   refine Lr ?_ (c_N2 W7 (Q0 hG off0.ext).1)
   intro W8 hO
   replace k_t1 := k_t1.o hO
   replace k_t2 := k_t2.o hO
   replace k_t5 := k_t5.o hO
   replace off0 := off0.o hO
   clear hO
   refine LnP ?_ (z := c4 0) (t := 155) (cells := c4 N2)
   intro Z54 W10 J3e hO h_
   have nq_t2_t6 := bn k_t2 J3e
   replace k_t1 := k_t1.o hO
   replace k_t2 := k_t2.o hO
   replace k_t5 := k_t5.o hO
   replace off0 := off0.o hO
   have k_t6 := h_
   clear hO h_ J3e
   refine J3 ?_
   have qRx : R = dX Y := by unfold dX dU dV; rw [HR.out, HN3.out, HN5.out, HN4.out, HN2.out]
   have qBx : B = dB Y := by unfold dB dU dV; rw [HB.out, HN3.out, HN5.out, HN4.out, HN2.out]
   have hRx := Lib.hid qRx
   have hBx := Lib.hid qBx
   clear qRx qBx
   by_cases hb : B = true
   ·
    have _f := hb
    have H_hb := Lib.hid hb
    clear _f hb
    go_upto_region 7 with fail
    refine Rx1 12 7 (z := c4 0) (t := 155) ?_
    refine Xl ?_ k_t6
    refine Xf ?_ (fun W hW => J40 W)
    refine Xf ?_ (fun W hW => c_N3 W (Q0 (Q0 hG off0.ext) hW).1)
    refine XR ?_ ((Q0 hG off0.ext).2.2.1 hc)
    refine Xl ?_ k_t6
    refine Xf ?_ (fun W hW => c_N4 W (Q0 (Q0 hG off0.ext) hW).1)
    refine Xf ?_ (fun W hW => J40 W)
    refine Xf ?_ (fun W hW => c_N5 W (Q0 (Q0 hG off0.ext) hW).1)
    rw [H_hb.out] at c_r
    refine Xf ?_ (fun W hW => c_r W (Q0 (Q0 hG off0.ext) hW).1 ((Q0 (Q0 hG off0.ext) hW).2.1 hc))
    refine Xv ?_
    refine Xv ?_
    refine Xv ?_
    refine XN ?_
    intro J3s W11 J0n hE h_t7
    have hO := Z7 hE
    have J3t := bn k_t1 J0n
    have nq_t2_t7 := bn k_t2 J0n
    have J14 := bn k_t5 J0n
    have J2s := bn k_t6 J0n
    have J5c := fbn off0 J0n
    replace k_t1 := k_t1.o hO
    replace k_t2 := k_t2.o hO
    replace k_t5 := k_t5.o hO
    replace k_t6 := k_t6.o hO
    replace off0 := off0.o hO
    clear hO hE J0n
    have k_t7 : Blk W11 J3s (c4 0) 155 := h_t7
    clear h_t7
    refine Lp ?_ k_t7 (cells := c4 R)
    intro W12 hO h_
    replace k_t7 : Blk W12 J3s (c4 R) 155 := h_
    clear h_
    replace k_t1 := k_t1.p hO J3t
    replace k_t2 := k_t2.p hO nq_t2_t7
    replace k_t5 := k_t5.p hO J14
    replace k_t6 := k_t6.p hO J2s
    replace off0 := off0.p hO J5c
    clear hO
    refine Lw ?_ (v := .bool true)
    refine LN ?_
    by_cases h0 : R = 0
    ·
     have _f := h0
     have H_h0 := Lib.hid h0
     clear _f h0
     go_upto_region 8 with fail
     refine wp_region_lit ?_
     refine Lw ?_ (v := .bool true)
     refine Lw ?_ (v := .bool false)
     refine Lw ?_ (v := .bool false)
     refine Lw ?_ (v := .bool true)
     refine Lw ?_ (v := .bool true)
     refine L0 ?_ k_t7
     refine Lw ?_ (v := .agg (c4 0)) (hv := by kernel_rfl)
     rw [decide_eq_true H_h0.out] at cs6
     refine Lr ?_ (cs6 W12 (Q0 hG off0.ext).1)
     intro W13 hO
     replace k_t1 := k_t1.o hO
     replace k_t2 := k_t2.o hO
     replace k_t5 := k_t5.o hO
     replace k_t6 := k_t6.o hO
     replace k_t7 := k_t7.o hO
     replace off0 := off0.o hO
     clear hO
     refine Lw ?_ (v := .bool true)
     refine Lw ?_ (v := .bool true)
     refine J3 ?_
     go_upto_region 9 with fail
     refine wp_region_lit ?_
     refine Lw ?_ (v := .agg (p4 0 0 0 0)) (hv := by kernel_rfl)
     refine Lp ?_ k_t2 (cells := p4 0 0 0 0)
     intro W14 hO h_
     replace k_t2 : Blk W14 J5o (p4 0 0 0 0) 157 := h_
     clear h_
     replace k_t1 := k_t1.p hO nq_t1_t2
     replace k_t5 := k_t5.p hO nq_t2_t5.symm
     replace k_t6 := k_t6.p hO nq_t2_t6.symm
     replace k_t7 := k_t7.p hO nq_t2_t7.symm
     replace off0 := off0.p hO J0r
     clear hO
     refine Lw ?_ (v := .int .i64 15)
     refine J3 ?_
     go_wp2
     exact bodyPost_ret (J2q rfl rfl rfl k_t2 (by kernel_rfl) (by kernel_rfl)) rfl ⟨rfl, off0.ext⟩
    have _f := h0
    have H_h0 := Lib.hid h0
    clear _f h0
    go_upto_region 8 with fail
    refine wp_region_lit ?_
    refine Lw ?_ (v := .bool true)
    refine Lw ?_ (v := .bool false)
    refine Lw ?_ (v := .bool false)
    refine Lw ?_ (v := .bool true)
    refine Lw ?_ (v := .bool true)
    refine L0 ?_ k_t7
    refine Lw ?_ (v := .agg (c4 0)) (hv := by kernel_rfl)
    rw [decide_eq_false H_h0.out] at cs6
    refine Lr ?_ (cs6 W12 (Q0 hG off0.ext).1)
    intro W13 hO
    replace k_t1 := k_t1.o hO
    replace k_t2 := k_t2.o hO
    replace k_t5 := k_t5.o hO
    replace k_t6 := k_t6.o hO
    replace k_t7 := k_t7.o hO
    replace off0 := off0.o hO
    clear hO
    refine Lw ?_ (v := .bool false)
    refine Lw ?_ (v := .bool false)
    refine J3 ?_
    exact absurd (Z3a (H_hy.out ▸ lY) (by rw [← H_hy.out, ← hBx.out]; exact H_hb.out) (fun h => H_h0.out (by rw [hRx.out, H_hy.out]; exact h.2))) (by rw [hok]; decide)
   have _f := hb
   rw [Bool.not_eq_true] at hb _f
   have H_hb := Lib.hid hb
   clear _f hb
   go_upto_region 7 with fail
   refine Rx1 12 7 (z := c4 0) (t := 155) ?_
   refine Xl ?_ k_t6
   refine Xf ?_ (fun W hW => J40 W)
   refine Xf ?_ (fun W hW => c_N3 W (Q0 (Q0 hG off0.ext) hW).1)
   refine XR ?_ ((Q0 hG off0.ext).2.2.1 hc)
   refine Xl ?_ k_t6
   refine Xf ?_ (fun W hW => c_N4 W (Q0 (Q0 hG off0.ext) hW).1)
   refine Xf ?_ (fun W hW => J40 W)
   refine Xf ?_ (fun W hW => c_N5 W (Q0 (Q0 hG off0.ext) hW).1)
   rw [H_hb.out] at c_r
   refine Xf ?_ (fun W hW => c_r W (Q0 (Q0 hG off0.ext) hW).1 ((Q0 (Q0 hG off0.ext) hW).2.1 hc))
   refine Xv ?_
   refine Xv ?_
   refine Xv ?_
   refine XN ?_
   intro J3s W11 J0n hE h_t7
   have hO := Z7 hE
   have J3t := bn k_t1 J0n
   have nq_t2_t7 := bn k_t2 J0n
   have J14 := bn k_t5 J0n
   have J2s := bn k_t6 J0n
   have J5c := fbn off0 J0n
   replace k_t1 := k_t1.o hO
   replace k_t2 := k_t2.o hO
   replace k_t5 := k_t5.o hO
   replace k_t6 := k_t6.o hO
   replace off0 := off0.o hO
   clear hO hE J0n
   have k_t7 : Blk W11 J3s (c4 0) 155 := h_t7
   clear h_t7
   refine Lp ?_ k_t7 (cells := c4 R)
   intro W12 hO h_
   replace k_t7 : Blk W12 J3s (c4 R) 155 := h_
   clear h_
   replace k_t1 := k_t1.p hO J3t
   replace k_t2 := k_t2.p hO nq_t2_t7
   replace k_t5 := k_t5.p hO J14
   replace k_t6 := k_t6.p hO J2s
   replace off0 := off0.p hO J5c
   clear hO
   refine Lw ?_ (v := .bool false)
   refine LN ?_
   go_upto_region 8 with fail
   refine wp_region_lit ?_
   refine Lw ?_ (v := .bool false)
   refine Lw ?_ (v := .bool true)
   refine Lw ?_ (v := .bool true)
   refine Ls ?_
   refine Ls ?_
   refine Ls ?_
   refine Ls ?_
   refine Ls ?_
   refine Ls ?_
   refine Lw ?_ (v := .bool true)
   refine J3 ?_
   go_upto_region 9 with fail
   refine wp_region_lit ?_
   refine Lw ?_ (v := .agg (p4 0 0 0 0)) (hv := by kernel_rfl)
   refine Lp ?_ k_t2 (cells := p4 0 0 0 0)
   intro W13 hO h_
   replace k_t2 : Blk W13 J5o (p4 0 0 0 0) 157 := h_
   clear h_
   replace k_t1 := k_t1.p hO nq_t1_t2
   replace k_t5 := k_t5.p hO nq_t2_t5.symm
   replace k_t6 := k_t6.p hO nq_t2_t6.symm
   replace k_t7 := k_t7.p hO nq_t2_t7.symm
   replace off0 := off0.p hO J0r
   clear hO
   refine Lw ?_ (v := .int .i64 15)
   refine J3 ?_
   go_wp2
   exact bodyPost_ret (J2q rfl rfl rfl k_t2 (by kernel_rfl) (by kernel_rfl)) rfl ⟨rfl, off0.ext⟩
  have _f := hy
  have H_hy := Lib.hid hy
  clear _f hy
  go_upto_region 4 with fail
  refine Rx 4 ?_
  refine Xl ?_ k_t5
  refine Xf ?_ (fun W hW => cb1 W (Q0 (Q0 hG off0.ext) hW).1)
  refine XlA ?_ k_t1
  rw [decide_eq_false H_hy.out] at e_b
  refine J59 (e_b) (by kernel_rfl) (by rfl) rfl rfl rfl ?_
  (try simp only [Act.put, mA, mB, mC])
  refine Z4 fun W7 hE => ?_
  have hO := Z7 hE
  replace k_t1 := k_t1.o hO
  replace k_t2 := k_t2.o hO
  replace k_t5 := k_t5.o hO
  replace off0 := off0.o hO
  clear hO hE
  refine LN ?_
  go_upto_region 5 with fail
  refine wp_region_lit ?_
  refine Lw ?_ (v := .agg (p4 0 0 0 0)) (hv := by kernel_rfl)
  refine Lp ?_ k_t2 (cells := p4 0 0 0 0)
  intro W8 hO h_
  replace k_t2 : Blk W8 J5o (p4 0 0 0 0) 157 := h_
  clear h_
  replace k_t1 := k_t1.p hO nq_t1_t2
  replace k_t5 := k_t5.p hO nq_t2_t5.symm
  replace off0 := off0.p hO J0r
  clear hO
  refine Lw ?_ (v := .int .i64 15)
  refine J3 ?_
  go_wp2
  exact bodyPost_ret (J2q rfl rfl rfl k_t2 (by kernel_rfl) (by kernel_rfl)) rfl ⟨rfl, off0.ext⟩
 have _f := ht
 go_upto_region 1 with fail
 refine wp_region_lit ?_
 refine Lw ?_ (v := .pointer (some ⟨J1m, 0 + 31, none⟩)) (hv := J5 (m := 32) (by decide) (by decide) Tryz.underlying23 (by kernel_rfl) rfl rfl rfl)
 refine Lg ?_ k_t1 (v := .int .u8 ((Q5 V) 31)) (hj := by rw [Nat.zero_add]; exact J6 _ _ _ _ (by decide))
 refine Lw ?_ (v := .int .u8 0) (hv := by exact J7j (Z3d hV ht) rfl rfl rfl)
 refine Lw ?_ (v := .bool false)
 refine Lw ?_ (v := .bool false)
 refine J3 ?_
 go_upto_region 2 with fail
 refine wp_region_lit ?_
 refine L0A ?_ k_t1
 refine Lr ?_ (c_o W2 (Q0 hG off0.ext).1)
 intro W3 hO
 replace k_t1 := k_t1.o hO
 replace k_t2 := k_t2.o hO
 replace off0 := off0.o hO
 clear hO
 refine LnP ?_ (z := c4 0) (t := 155) (cells := c4 Y)
 intro J47 W5 J1k hO h_
 have nq_t1_t5 := bn k_t1 J1k
 have nq_t2_t5 := bn k_t2 J1k
 replace k_t1 := k_t1.o hO
 replace k_t2 := k_t2.o hO
 replace off0 := off0.o hO
 have k_t5 := h_
 clear hO h_ J1k
 refine J3 ?_
 go_upto_region 3 with fail
 refine wp_region_lit ?_
 refine Lw ?_ (v := .pointer (some ⟨J1m, 0 + 31, none⟩)) (hv := J5 (m := 32) (by decide) (by decide) Tryz.underlying23 (by kernel_rfl) rfl rfl rfl)
 refine Lg ?_ k_t1 (v := .int .u8 ((Q5 V) 31)) (hj := by rw [Nat.zero_add]; exact J6 _ _ _ _ (by decide))
 refine Lw ?_ (v := .int .u8 (bits .andNot .u8 (Q5 V 31) 128)) (hv := by exact J9w rfl rfl rfl rfl)
 refine Lw ?_ (v := .pointer (some ⟨J1m, 0 + 31, none⟩)) (hv := J5 (m := 32) (by decide) (by decide) Tryz.underlying23 (by kernel_rfl) rfl rfl rfl)
 refine J28 (v := .int .u8 (bits .andNot .u8 (Q5 V 31) 128)) ⟨rfl, rfl⟩ (by rfl) rfl rfl rfl k_t1 (by rw [J2, Nat.zero_add]; decide) (by kernel_rfl) ?_
 (try simp only [Act.put, mA, mB, mC])
 intro W6 hO h_
 rw [Nat.zero_add, K0] at h_
 replace k_t1 : Blk W6 J1m (J0 .u8 32 (upd (Q5 V) 31 (bits .andNot .u8 (Q5 V 31) 128))) 23 := h_
 clear h_
 replace k_t2 := k_t2.p hO nq_t1_t2.symm
 replace k_t5 := k_t5.p hO nq_t1_t5.symm
 replace off0 := off0.p hO Q1d
 clear hO
 rw [Z3c (Q3d hV)] at k_t1
 refine J3 ?_
 by_cases hy : Y = V % 2 ^ 255
 ·
  have _f := hy
  have H_hy := Lib.hid hy
  clear _f hy
  go_upto_region 4 with fail
  refine Rx 4 ?_
  refine Xl ?_ k_t5
  refine Xf ?_ (fun W hW => cb1 W (Q0 (Q0 hG off0.ext) hW).1)
  refine XlA ?_ k_t1
  rw [decide_eq_true H_hy.out] at e_b
  refine J59 (e_b) (by kernel_rfl) (by rfl) rfl rfl rfl ?_
  (try simp only [Act.put, mA, mB, mC])
  refine Z4 fun W7 hE => ?_
  have hO := Z7 hE
  replace k_t1 := k_t1.o hO
  replace k_t2 := k_t2.o hO
  replace k_t5 := k_t5.o hO
  replace off0 := off0.o hO
  clear hO hE
  refine LN ?_
  go_upto_region 6 with fail
  refine wp_region_lit ?_
  refine L0 ?_ k_t5
  refine L0 ?_ k_t5
  refine Lr ?_ (c_N2 W7 (Q0 hG off0.ext).1)
  intro W8 hO
  replace k_t1 := k_t1.o hO
  replace k_t2 := k_t2.o hO
  replace k_t5 := k_t5.o hO
  replace off0 := off0.o hO
  clear hO
  refine LnP ?_ (z := c4 0) (t := 155) (cells := c4 N2)
  intro Z54 W10 J3e hO h_
  replace k_t1 := k_t1.o hO
  replace k_t2 := k_t2.o hO
  replace k_t5 := k_t5.o hO
  replace off0 := off0.o hO
  have k_t6 := h_
  clear hO h_ J3e
  refine J3 ?_
  have qRx : R = dX Y := by unfold dX dU dV; rw [HR.out, HN3.out, HN5.out, HN4.out, HN2.out]
  have qBx : B = dB Y := by unfold dB dU dV; rw [HB.out, HN3.out, HN5.out, HN4.out, HN2.out]
  have hRx := Lib.hid qRx
  have hBx := Lib.hid qBx
  clear qRx qBx
  by_cases hb : B = true
  ·
   have _f := hb
   have H_hb := Lib.hid hb
   clear _f hb
   go_upto_region 7 with fail
   refine Rx1 12 7 (z := c4 0) (t := 155) ?_
   refine Xl ?_ k_t6
   refine Xf ?_ (fun W hW => J40 W)
   refine Xf ?_ (fun W hW => c_N3 W (Q0 (Q0 hG off0.ext) hW).1)
   refine XR ?_ ((Q0 hG off0.ext).2.2.1 hc)
   refine Xl ?_ k_t6
   refine Xf ?_ (fun W hW => c_N4 W (Q0 (Q0 hG off0.ext) hW).1)
   refine Xf ?_ (fun W hW => J40 W)
   refine Xf ?_ (fun W hW => c_N5 W (Q0 (Q0 hG off0.ext) hW).1)
   rw [H_hb.out] at c_r
   refine Xf ?_ (fun W hW => c_r W (Q0 (Q0 hG off0.ext) hW).1 ((Q0 (Q0 hG off0.ext) hW).2.1 hc))
   refine Xv ?_
   refine Xv ?_
   refine Xv ?_
   refine XN ?_
   intro J3s W11 J0n hE h_t7
   have hO := Z7 hE
   have J3t := bn k_t1 J0n
   have nq_t2_t7 := bn k_t2 J0n
   have J14 := bn k_t5 J0n
   have J2s := bn k_t6 J0n
   have J5c := fbn off0 J0n
   replace k_t1 := k_t1.o hO
   replace k_t2 := k_t2.o hO
   replace k_t5 := k_t5.o hO
   replace k_t6 := k_t6.o hO
   replace off0 := off0.o hO
   clear hO hE J0n
   have k_t7 : Blk W11 J3s (c4 0) 155 := h_t7
   clear h_t7
   refine Lp ?_ k_t7 (cells := c4 R)
   intro W12 hO h_
   replace k_t7 : Blk W12 J3s (c4 R) 155 := h_
   clear h_
   replace k_t1 := k_t1.p hO J3t
   replace k_t2 := k_t2.p hO nq_t2_t7
   replace k_t5 := k_t5.p hO J14
   replace k_t6 := k_t6.p hO J2s
   replace off0 := off0.p hO J5c
   clear hO
   refine Lw ?_ (v := .bool true)
   refine LN ?_
   go_upto_region 8 with fail
   refine wp_region_lit ?_
   refine Lw ?_ (v := .bool true)
   refine Lw ?_ (v := .bool false)
   refine Lw ?_ (v := .bool false)
   refine Lw ?_ (v := .bool false)
   refine Lw ?_ (v := .bool false)
   refine Ls ?_
   refine Ls ?_
   refine Ls ?_
   refine Lw ?_ (v := .bool false)
   refine Lw ?_ (v := .bool false)
   refine J3 ?_
   exact absurd (Z3a (H_hy.out ▸ lY) (by rw [← H_hy.out, ← hBx.out]; exact H_hb.out) (fun h => ht h.1)) (by rw [hok]; decide)
  have _f := hb
  rw [Bool.not_eq_true] at hb _f
  have H_hb := Lib.hid hb
  clear _f hb
  go_upto_region 7 with fail
  refine Rx1 12 7 (z := c4 0) (t := 155) ?_
  refine Xl ?_ k_t6
  refine Xf ?_ (fun W hW => J40 W)
  refine Xf ?_ (fun W hW => c_N3 W (Q0 (Q0 hG off0.ext) hW).1)
  refine XR ?_ ((Q0 hG off0.ext).2.2.1 hc)
  refine Xl ?_ k_t6
  refine Xf ?_ (fun W hW => c_N4 W (Q0 (Q0 hG off0.ext) hW).1)
  refine Xf ?_ (fun W hW => J40 W)
  refine Xf ?_ (fun W hW => c_N5 W (Q0 (Q0 hG off0.ext) hW).1)
  rw [H_hb.out] at c_r
  refine Xf ?_ (fun W hW => c_r W (Q0 (Q0 hG off0.ext) hW).1 ((Q0 (Q0 hG off0.ext) hW).2.1 hc))
  refine Xv ?_
  refine Xv ?_
  refine Xv ?_
  refine XN ?_
  intro J3s W11 J0n hE h_t7
  have hO := Z7 hE
  have J3t := bn k_t1 J0n
  have nq_t2_t7 := bn k_t2 J0n
  have J14 := bn k_t5 J0n
  have J5c := fbn off0 J0n
  replace k_t1 := k_t1.o hO
  replace k_t2 := k_t2.o hO
  replace k_t5 := k_t5.o hO
  replace off0 := off0.o hO
  clear hO hE J0n
  have k_t7 : Blk W11 J3s (c4 0) 155 := h_t7
  clear h_t7
  refine Lp ?_ k_t7 (cells := c4 R)
  intro W12 hO h_
  clear h_
  replace k_t1 := k_t1.p hO J3t
  replace k_t2 := k_t2.p hO nq_t2_t7
  replace k_t5 := k_t5.p hO J14
  replace off0 := off0.p hO J5c
  clear hO
  refine Lw ?_ (v := .bool false)
  refine LN ?_
  go_upto_region 8 with fail
  refine wp_region_lit ?_
  refine Lw ?_ (v := .bool false)
  refine Lw ?_ (v := .bool true)
  refine Lw ?_ (v := .bool true)
  refine Ls ?_
  refine Ls ?_
  refine Ls ?_
  refine Ls ?_
  refine Ls ?_
  refine Ls ?_
  refine Lw ?_ (v := .bool true)
  refine J3 ?_
  go_upto_region 9 with fail
  refine wp_region_lit ?_
  refine Lw ?_ (v := .agg (p4 0 0 0 0)) (hv := by kernel_rfl)
  refine Lp ?_ k_t2 (cells := p4 0 0 0 0)
  intro W13 hO h_
  replace k_t2 : Blk W13 J5o (p4 0 0 0 0) 157 := h_
  clear h_
  replace k_t1 := k_t1.p hO nq_t1_t2
  replace k_t5 := k_t5.p hO nq_t2_t5.symm
  replace off0 := off0.p hO J0r
  clear hO
  refine Lw ?_ (v := .int .i64 15)
  refine J3 ?_
  go_wp2
  exact bodyPost_ret (J2q rfl rfl rfl k_t2 (by kernel_rfl) (by kernel_rfl)) rfl ⟨rfl, off0.ext⟩
 have _f := hy
 have H_hy := Lib.hid hy
 clear _f hy
 go_upto_region 4 with fail
 refine Rx 4 ?_
 refine Xl ?_ k_t5
 refine Xf ?_ (fun W hW => cb1 W (Q0 (Q0 hG off0.ext) hW).1)
 refine XlA ?_ k_t1
 rw [decide_eq_false H_hy.out] at e_b
 refine J59 (e_b) (by kernel_rfl) (by rfl) rfl rfl rfl ?_
 (try simp only [Act.put, mA, mB, mC])
 refine Z4 fun W7 hE => ?_
 have hO := Z7 hE
 replace k_t2 := k_t2.o hO
 replace off0 := off0.o hO
 clear hO hE
 refine LN ?_
 go_upto_region 5 with fail
 refine wp_region_lit ?_
 refine Lw ?_ (v := .agg (p4 0 0 0 0)) (hv := by kernel_rfl)
 refine Lp ?_ k_t2 (cells := p4 0 0 0 0)
 intro W8 hO h_
 replace k_t2 : Blk W8 J5o (p4 0 0 0 0) 157 := h_
 clear h_
 replace off0 := off0.p hO J0r
 clear hO
 refine Lw ?_ (v := .int .i64 15)
 refine J3 ?_
 go_wp2
 exact bodyPost_ret (J2q rfl rfl rfl k_t2 (by kernel_rfl) (by kernel_rfl)) rfl ⟨rfl, off0.ext⟩
end Go.Proofs.YtejkmhgkkibafaaGreatDoor.S8
