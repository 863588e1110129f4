/- The document's Decode. No conditions. -/
import Derived.Test.YtefpoollmbmkfaaDoorGc
import Derived.Test.YtefpoollmbmkfaaDoorEdQ
set_option linter.unusedSimpArgs false
set_option linter.unusedVariables false
namespace Go.Proofs.YtefpoollmbmkfaaDoor
set_option maxHeartbeats 1500000
set_option maxRecDepth 100000
open Go.RowKit
attribute [local irreducible] wpList

theorem Q8g {V : Nat} (hV : V < 2 ^ 256) (hok : dOk V = false) :
  ∀ w, Calls Tryd.prog 57 #[str (lb 32 V)] w fun e w' => Ret (.tuple #[.agg (p3 0 0 0), .int .i64 15]) w w' e := by
 have c_o := Z3n V
 obtain ⟨Y, hY⟩ := V2 (V % 2 ^ 255 % PP)
 rw [← hY] at c_o
 have lY := bpp hY
 have HY := Lib.hid hY
 clear hY
 have c_N1 := J02 Y Y (Q9 lY) (Q9 lY)
 obtain ⟨N1, hN1⟩ := V2 (Y * Y % PP)
 rw [← hN1] at c_N1
 have lN1 := bpp hN1
 have bN1 := Q9 lN1
 have HN1 := Lib.hid hN1
 clear hN1
 have c_N2 := Q88 N1 1 bN1 (Nat.le_of_lt (by decide))
 obtain ⟨N2, hN2⟩ := V2 ((N1 + (PP - 1) % PP) % PP)
 rw [← hN2] at c_N2
 have lN2 := bpp hN2
 have bN2 := Q9 lN2
 have HN2 := Lib.hid hN2
 clear hN2
 have c_N3 := J02 DD N1 Q9q bN1
 obtain ⟨N3, hN3⟩ := V2 (DD * N1 % PP)
 rw [← hN3] at c_N3
 have lN3 := bpp hN3
 have bN3 := Q9 lN3
 have HN3 := Lib.hid hN3
 clear hN3
 have c_N4 := J9l N3 1 bN3 (by decide)
 obtain ⟨N4, hN4⟩ := V2 ((N3 + 1) % PP)
 rw [← hN4] at c_N4
 have lN4 := bpp hN4
 have bN4 := Q9 lN4
 have HN4 := Lib.hid hN4
 clear hN4
 have c_r := Z3r N2 N4 lN2 bN4
 obtain ⟨R, hR⟩ := V2 (rtR N2 N4)
 rw [← hR] at c_r
 have lR : R < PP := by rw [hR]; exact Q1t _ _
 have HR := Lib.hid hR
 clear hR
 obtain ⟨B, hB⟩ := V2 (rtB N2 N4)
 rw [← hB] at c_r
 have HB := Lib.hid hB
 clear hB
 have e_0 := Q8f R 0 (Q9 lR) (by decide)
 intro w
 have off0 : Off [] w w := Off.refl _ _
 go_enter Tryd.func57, Tryd.ntmps57
 go_upto_region 0 with fail
 refine wp_region_lit ?_
 refine Ln ?_ (z := p3 0 0 0) (t := 78)
 intro J0c W1 U0 hO h_
 have J01 := fbn off0 U0
 replace off0 := off0.o hO
 have k_t2 := h_
 clear hO h_ U0
 refine Lw ?_ (v := .int .i64 0)
 refine J0 ?_
 by_cases ht : top V = true
 ·
  have _f := ht
  have H_ht := Lib.hid ht
  clear _f ht
  go_upto_region 1 with fail
  refine wp_region_lit ?_
  refine Lv ?_
  refine Lw ?_ (v := .int .u8 (Q6 V 31)) (hv := by exact Q1x (by decide) rfl rfl rfl)
  refine Lw ?_ (v := .bool true) (hv := by exact Q1y (Q48 hV true H_ht.out) rfl rfl rfl)
  refine Lw ?_ (v := .bool true)
  refine J0 ?_
  go_upto_region 2 with fail
  refine wp_region_lit ?_
  refine Lv ?_
  refine Lr ?_ (c_o W1)
  intro W2 hO
  replace k_t2 := k_t2.o hO
  replace off0 := off0.o hO
  clear hO
  refine LnA ?_ (z := J1 .i64 16 (Q2 0)) (t := 76) (k := .i64) (n := 16) (f := Q2 Y)
  intro Y8f W4 J0p hO h_
  have nq_t2_t5 := bn k_t2 J0p
  replace k_t2 := k_t2.o hO
  replace off0 := off0.o hO
  have k_t5 := h_
  clear hO h_ J0p
  refine J0 ?_
  go_upto_region 3 with fail
  refine wp_region_lit ?_
  refine Lv ?_
  refine J6u (l := (lb 32 V)) (by first | omega | (rw [J8]; decide)) (by rfl) rfl rfl ?_
  (try simp only [Act.put, mA, mB, mC])
  intro J3l c_y16 cs_y16 W5 J57 hO h_ c1_y16 c2_y16 c3_y16 c4_y16
  have nq_t2_y16 := bn k_t2 J57
  have J5l := bn k_t5 J57
  have Q18 := fbn off0 J57
  replace k_t2 := k_t2.o hO
  replace k_t5 := k_t5.o hO
  replace off0 := off0.o hO
  have J0a := h_
  clear hO h_ J57
  have V5 : Sl W5 (.slice (some ⟨J3l, 0, none⟩) (lb 32 V).length c_y16) (lb 32 V) := J7p J0a c1_y16 c2_y16 c4_y16
  have J35 : sb (.slice (some ⟨J3l, 0, none⟩) (lb 32 V).length c_y16) (lb 32 V) ≠ some J0c := Q5k nq_t2_y16.symm
  refine Lv ?_
  refine J0 ?_
  go_upto_region 4 with fail
  refine wp_region_lit ?_
  refine Lv ?_
  refine Lv ?_
  refine J4i (j := 31) (by rw [J8]; decide) (by rfl) rfl rfl rfl ?_
  (try simp only [Act.put, mA, mB, mC])
  have hc_ : W5.cell? ⟨J3l, 0 + 31, none⟩ = some (.int .u8 (Q6 V 31)) := by rw [J72 J0a, Nat.zero_add]; exact J86 (by rw [← J8 32 V]; exact c4_y16) (by decide)
  refine Q2t (v := .int .u8 (Q6 V 31)) (by rfl) rfl rfl hc_ (by kernel_rfl) ?_
  (try simp only [Act.put, mA, mB, mC])
  clear hc_
  refine Lw ?_ (v := .int .u8 (bits .and .u8 (Q6 V 31) 127)) (hv := by exact J4e rfl rfl rfl rfl)
  refine J4i (j := 31) (by rw [J8]; decide) (by rfl) rfl rfl rfl ?_
  (try simp only [Act.put, mA, mB, mC])
  refine J9q (v := .int .u8 (bits .and .u8 (Q6 V 31) 127)) ⟨rfl, rfl⟩ (by rfl) rfl rfl rfl J0a (by rw [c3_y16, Nat.zero_add]; have := c1_y16; rw [J8] at this; omega) (by kernel_rfl) ?_
  (try simp only [Act.put, mA, mB, mC])
  intro W6 hO h_
  have c4n := take_set (cs := cs_y16) (by rw [← J8 32 V]; exact c4_y16) (Q8d hV)
  rw [Nat.zero_add] at h_
  replace k_t2 := k_t2.p hO nq_t2_y16
  replace k_t5 := k_t5.p hO J5l
  replace off0 := off0.p hO Q18
  clear hO
  replace J0a := h_
  clear h_
  have h1_ : (lb 32 (V % 2 ^ 255)).length = (lb 32 V).length := by rw [J8, J8]
  replace V5 : Sl W6 (.slice (some ⟨J3l, 0, none⟩) (lb 32 V).length c_y16) (lb 32 (V % 2 ^ 255)) := by have := J7p (l := lb 32 (V % 2 ^ 255)) J0a (by rw [h1_]; exact c1_y16) c2_y16 (by rw [J8]; exact c4n); rwa [h1_] at this
  clear h1_ c4_y16
  replace J35 : sb (.slice (some ⟨J3l, 0, none⟩) (lb 32 V).length c_y16) (lb 32 (V % 2 ^ 255)) ≠ some J0c := Q5k nq_t2_y16.symm
  refine J0 ?_
  by_cases hc : Y = V % 2 ^ 255
  ·
   have _f := hc
   have H_hc := Lib.hid hc
   clear _f hc
   go_upto_region 5 with fail
   refine Rx 5 ?_
   refine XlA ?_ k_t5
   refine Xf ?_ (fun W hW => J71 Y W)
   refine Xv ?_
   refine J3a (l := (lb 32 (V % 2 ^ 255))) (fun W hW => J8r V5 hW) (by rfl) rfl rfl ?_
   (try simp only [Act.put, mA, mB, mC])
   refine J40 (l := (lb 32 Y)) (m := (lb 32 (V % 2 ^ 255))) (b := false) (Z3o H_hc.out) (by rfl) rfl rfl rfl ?_
   (try simp only [Act.put, mA, mB, mC])
   refine Q3 fun W7 hE => ?_
   have hO := Z6 hE
   replace k_t2 := k_t2.o hO
   replace k_t5 := k_t5.o hO
   replace J0a := J25 J0a hO nm0
   replace V5 := Sl.off V5 hO f0
   replace off0 := off0.o hO
   clear hO hE
   refine LN ?_
   go_upto_region 7 with fail
   refine wp_region_lit ?_
   refine L0A ?_ k_t5
   refine L0A ?_ k_t5
   refine Lr ?_ (c_N1 W7)
   intro W8 hO
   replace k_t2 := k_t2.o hO
   replace k_t5 := k_t5.o hO
   replace J0a := J25 J0a hO nm0
   replace V5 := Sl.off V5 hO f0
   replace off0 := off0.o hO
   clear hO
   refine LnA ?_ (z := J1 .i64 16 (Q2 0)) (t := 76) (k := .i64) (n := 16) (f := Q2 N1)
   intro Y8g W10 J03 hO h_
   have nq_t2_t7 := bn k_t2 J03
   replace k_t2 := k_t2.o hO
   replace k_t5 := k_t5.o hO
   replace J0a := J25 J0a hO nm0
   replace V5 := Sl.off V5 hO f0
   replace off0 := off0.o hO
   have k_t7 := h_
   clear hO h_ J03
   refine J0 ?_
   have qRx : R = dX Y := by unfold dX; rw [HR.out, Q9u Y HN1.out HN2.out]; unfold dV; rw [HN4.out, HN3.out, HN1.out]
   have qBx : B = dB Y := by unfold dB; rw [HB.out, Q9u Y HN1.out HN2.out]; unfold dV; rw [HN4.out, HN3.out, HN1.out]
   have hRx := Lib.hid qRx
   have hBx := Lib.hid qBx
   clear qRx qBx
   by_cases hb : B = true
   ·
    have _f := hb
    have H_hb := Lib.hid hb
    clear _f hb
    go_upto_region 8 with fail
    refine Rx1 12 8 (z := J1 .i64 16 (Q2 0)) (t := 76) ?_
    refine XlA ?_ k_t7
    refine Xw ?_ (v := .agg (J1 .i64 16 (Q2 1))) (hv := fun _ _ => by kernel_rfl)
    refine Xf ?_ (fun W hW => c_N2 W)
    refine Xf ?_ (fun W hW => Z1h W)
    refine XlA ?_ k_t7
    refine Xf ?_ (fun W hW => c_N3 W)
    refine Xw ?_ (v := .agg (J1 .i64 16 (Q2 1))) (hv := fun _ _ => by kernel_rfl)
    refine Xf ?_ (fun W hW => c_N4 W)
    rw [H_hb.out] at c_r
    refine Xf ?_ (fun W hW => c_r W)
    refine Xv ?_
    refine Xv ?_
    refine Xv ?_
    refine XN ?_
    intro J1x W11 V6 hE h_t8
    have hO := Z6 hE
    have nq_t2_t8 := bn k_t2 V6
    have J1d := bn k_t5 V6
    have J6v : J3l ≠ J1x := Nat.ne_of_lt (Nat.lt_of_lt_of_le (Q5l J0a) V6)
    have nq_t7_t8 := bn k_t7 V6
    have J3i := J0m (Sl.lt V5) V6
    have J1v := fbn off0 V6
    replace k_t2 := k_t2.o hO
    replace k_t5 := k_t5.o hO
    replace J0a := J25 J0a hO nm0
    replace k_t7 := k_t7.o hO
    replace V5 := Sl.off V5 hO f0
    replace off0 := off0.o hO
    clear hO hE V6
    have k_t8 : Blk W11 J1x (J1 .i64 16 (Q2 0)) 76 := h_t8
    clear h_t8
    refine LpA ?_ k_t8 (k := .i64) (n := 16) (f := Q2 R)
    intro W12 hO h_
    replace k_t8 : Blk W12 J1x (J1 .i64 16 (Q2 R)) 76 := h_
    clear h_
    replace k_t2 := k_t2.p hO nq_t2_t8
    replace k_t5 := k_t5.p hO J1d
    replace J0a := J25 J0a hO (nm1 J6v)
    replace k_t7 := k_t7.p hO nq_t7_t8
    replace V5 := Sl.off V5 hO (f1 J3i)
    replace off0 := off0.p hO J1v
    clear hO
    refine Lw ?_ (v := .bool true)
    refine LN ?_
    by_cases h0 : R = 0
    ·
     have _f := h0
     have H_h0 := Lib.hid h0
     clear _f h0
     go_upto_region 9 with fail
     refine wp_region_lit ?_
     refine Lw ?_ (v := .bool true)
     refine Lw ?_ (v := .bool false)
     refine Lw ?_ (v := .bool false)
     refine L0A ?_ k_t8
     refine Lw ?_ (v := .agg (J1 .i64 16 (Q2 0))) (hv := by kernel_rfl)
     rw [decide_eq_true H_h0.out] at e_0
     refine J53 (e_0) (by kernel_rfl) (by rfl) rfl rfl rfl ?_
     (try simp only [Act.put, mA, mB, mC])
     refine Lw ?_ (v := .bool true)
     refine Lw ?_ (v := .bool true)
     refine Lw ?_ (v := .bool true)
     refine Lw ?_ (v := .bool true)
     refine J0 ?_
     go_upto_region 10 with fail
     refine wp_region_lit ?_
     refine Lw ?_ (v := .agg (p3 0 0 0)) (hv := by kernel_rfl)
     refine Lp ?_ k_t2 (cells := p3 0 0 0) (hi := by rw [J3]; kernel_rfl) (hs := by first | rw [J3, J3] | rw [J3] | kernel_rfl) (h1 := by exact J0h)
     intro W13 hO h_
     replace k_t2 : Blk W13 J0c (p3 0 0 0) 78 := h_
     clear h_
     replace k_t5 := k_t5.p hO nq_t2_t5.symm
     replace J0a := J25 J0a hO (nm1 nq_t2_y16.symm)
     replace k_t7 := k_t7.p hO nq_t2_t7.symm
     replace k_t8 := k_t8.p hO nq_t2_t8.symm
     replace V5 := Sl.off V5 hO (f1 J35)
     replace off0 := off0.p hO J01
     clear hO
     refine Lw ?_ (v := .int .i64 15)
     refine J0 ?_
     go_wp2
     exact bodyPost_ret (V8 rfl rfl rfl k_t2 (by kernel_rfl) (by rw [J3]; kernel_rfl)) rfl ⟨rfl, off0.ext⟩
    ·
     have _f := h0
     have H_h0 := Lib.hid h0
     clear _f h0
     go_upto_region 9 with fail
     refine wp_region_lit ?_
     refine Lw ?_ (v := .bool true)
     refine Lw ?_ (v := .bool false)
     refine Lw ?_ (v := .bool false)
     refine L0A ?_ k_t8
     refine Lw ?_ (v := .agg (J1 .i64 16 (Q2 0))) (hv := by kernel_rfl)
     rw [decide_eq_false H_h0.out] at e_0
     refine J53 (e_0) (by kernel_rfl) (by rfl) rfl rfl rfl ?_
     (try simp only [Act.put, mA, mB, mC])
     refine Lw ?_ (v := .bool false)
     refine Ls ?_
     refine Lw ?_ (v := .bool false)
     refine Lw ?_ (v := .bool false)
     refine J0 ?_
     exact absurd (Q1q (H_hc.out ▸ lY) (by rw [← H_hc.out, ← hBx.out]; exact H_hb.out) (fun h => H_h0.out (by rw [hRx.out, H_hc.out]; exact h.2))) (by rw [hok]; decide)
   ·
    have _f := hb
    rw [Bool.not_eq_true] at hb _f
    have H_hb := Lib.hid hb
    clear _f hb
    go_upto_region 8 with fail
    refine Rx1 12 8 (z := J1 .i64 16 (Q2 0)) (t := 76) ?_
    refine XlA ?_ k_t7
    refine Xw ?_ (v := .agg (J1 .i64 16 (Q2 1))) (hv := fun _ _ => by kernel_rfl)
    refine Xf ?_ (fun W hW => c_N2 W)
    refine Xf ?_ (fun W hW => Z1h W)
    refine XlA ?_ k_t7
    refine Xf ?_ (fun W hW => c_N3 W)
    refine Xw ?_ (v := .agg (J1 .i64 16 (Q2 1))) (hv := fun _ _ => by kernel_rfl)
    refine Xf ?_ (fun W hW => c_N4 W)
    rw [H_hb.out] at c_r
    refine Xf ?_ (fun W hW => c_r W)
    refine Xv ?_
    refine Xv ?_
    refine Xv ?_
    refine XN ?_
    intro J1x W11 V6 hE h_t8
    have hO := Z6 hE
    have nq_t2_t8 := bn k_t2 V6
    have J1d := bn k_t5 V6
    have J6v : J3l ≠ J1x := Nat.ne_of_lt (Nat.lt_of_lt_of_le (Q5l J0a) V6)
    have nq_t7_t8 := bn k_t7 V6
    have J3i := J0m (Sl.lt V5) V6
    have J1v := fbn off0 V6
    replace k_t2 := k_t2.o hO
    replace k_t5 := k_t5.o hO
    replace J0a := J25 J0a hO nm0
    replace k_t7 := k_t7.o hO
    replace V5 := Sl.off V5 hO f0
    replace off0 := off0.o hO
    clear hO hE V6
    have k_t8 : Blk W11 J1x (J1 .i64 16 (Q2 0)) 76 := h_t8
    clear h_t8
    refine LpA ?_ k_t8 (k := .i64) (n := 16) (f := Q2 R)
    intro W12 hO h_
    replace k_t8 : Blk W12 J1x (J1 .i64 16 (Q2 R)) 76 := h_
    clear h_
    replace k_t2 := k_t2.p hO nq_t2_t8
    replace k_t5 := k_t5.p hO J1d
    replace J0a := J25 J0a hO (nm1 J6v)
    replace k_t7 := k_t7.p hO nq_t7_t8
    replace V5 := Sl.off V5 hO (f1 J3i)
    replace off0 := off0.p hO J1v
    clear hO
    refine Lw ?_ (v := .bool false)
    refine LN ?_
    go_upto_region 9 with fail
    refine wp_region_lit ?_
    refine Lw ?_ (v := .bool false)
    refine Lw ?_ (v := .bool true)
    refine Lw ?_ (v := .bool true)
    refine Ls ?_
    refine Ls ?_
    refine Ls ?_
    refine Ls ?_
    refine Ls ?_
    refine Ls ?_
    refine Lw ?_ (v := .bool true)
    refine J0 ?_
    go_upto_region 10 with fail
    refine wp_region_lit ?_
    refine Lw ?_ (v := .agg (p3 0 0 0)) (hv := by kernel_rfl)
    refine Lp ?_ k_t2 (cells := p3 0 0 0) (hi := by rw [J3]; kernel_rfl) (hs := by first | rw [J3, J3] | rw [J3] | kernel_rfl) (h1 := by exact J0h)
    intro W13 hO h_
    replace k_t2 : Blk W13 J0c (p3 0 0 0) 78 := h_
    clear h_
    replace k_t5 := k_t5.p hO nq_t2_t5.symm
    replace J0a := J25 J0a hO (nm1 nq_t2_y16.symm)
    replace k_t7 := k_t7.p hO nq_t2_t7.symm
    replace k_t8 := k_t8.p hO nq_t2_t8.symm
    replace V5 := Sl.off V5 hO (f1 J35)
    replace off0 := off0.p hO J01
    clear hO
    refine Lw ?_ (v := .int .i64 15)
    refine J0 ?_
    go_wp2
    exact bodyPost_ret (V8 rfl rfl rfl k_t2 (by kernel_rfl) (by rw [J3]; kernel_rfl)) rfl ⟨rfl, off0.ext⟩
  ·
   have _f := hc
   have H_hc := Lib.hid hc
   clear _f hc
   go_upto_region 5 with fail
   refine Rx 5 ?_
   refine XlA ?_ k_t5
   refine Xf ?_ (fun W hW => J71 Y W)
   refine Xv ?_
   refine J3a (l := (lb 32 (V % 2 ^ 255))) (fun W hW => J8r V5 hW) (by rfl) rfl rfl ?_
   (try simp only [Act.put, mA, mB, mC])
   refine J40 (l := (lb 32 Y)) (m := (lb 32 (V % 2 ^ 255))) (b := true) (Y6j (Q45 lY) (Q1r V) H_hc.out) (by rfl) rfl rfl rfl ?_
   (try simp only [Act.put, mA, mB, mC])
   refine Q3 fun W7 hE => ?_
   have hO := Z6 hE
   replace k_t2 := k_t2.o hO
   replace k_t5 := k_t5.o hO
   replace J0a := J25 J0a hO nm0
   replace V5 := Sl.off V5 hO f0
   replace off0 := off0.o hO
   clear hO hE
   refine LN ?_
   go_upto_region 6 with fail
   refine wp_region_lit ?_
   refine Lw ?_ (v := .agg (p3 0 0 0)) (hv := by kernel_rfl)
   refine Lp ?_ k_t2 (cells := p3 0 0 0) (hi := by rw [J3]; kernel_rfl) (hs := by first | rw [J3, J3] | rw [J3] | kernel_rfl) (h1 := by exact J0h)
   intro W8 hO h_
   replace k_t2 : Blk W8 J0c (p3 0 0 0) 78 := h_
   clear h_
   replace k_t5 := k_t5.p hO nq_t2_t5.symm
   replace J0a := J25 J0a hO (nm1 nq_t2_y16.symm)
   replace V5 := Sl.off V5 hO (f1 J35)
   replace off0 := off0.p hO J01
   clear hO
   refine Lw ?_ (v := .int .i64 15)
   refine J0 ?_
   go_wp2
   exact bodyPost_ret (V8 rfl rfl rfl k_t2 (by kernel_rfl) (by rw [J3]; kernel_rfl)) rfl ⟨rfl, off0.ext⟩
 ·
  have _f := ht
  have H_ht := Lib.hid ht
  clear _f ht
  go_upto_region 1 with fail
  refine wp_region_lit ?_
  refine Lv ?_
  refine Lw ?_ (v := .int .u8 (Q6 V 31)) (hv := by exact Q1x (by decide) rfl rfl rfl)
  refine Lw ?_ (v := .bool false) (hv := by exact Q1y (Q48 hV false (Bool.eq_false_iff.2 H_ht.out)) rfl rfl rfl)
  refine Lw ?_ (v := .bool false)
  refine J0 ?_
  go_upto_region 2 with fail
  refine wp_region_lit ?_
  refine Lv ?_
  refine Lr ?_ (c_o W1)
  intro W2 hO
  replace k_t2 := k_t2.o hO
  replace off0 := off0.o hO
  clear hO
  refine LnA ?_ (z := J1 .i64 16 (Q2 0)) (t := 76) (k := .i64) (n := 16) (f := Q2 Y)
  intro Y8f W4 J0p hO h_
  have nq_t2_t5 := bn k_t2 J0p
  replace k_t2 := k_t2.o hO
  replace off0 := off0.o hO
  have k_t5 := h_
  clear hO h_ J0p
  refine J0 ?_
  go_upto_region 3 with fail
  refine wp_region_lit ?_
  refine Lv ?_
  refine J6u (l := (lb 32 V)) (by first | omega | (rw [J8]; decide)) (by rfl) rfl rfl ?_
  (try simp only [Act.put, mA, mB, mC])
  intro J3l c_y16 cs_y16 W5 J57 hO h_ c1_y16 c2_y16 c3_y16 c4_y16
  have nq_t2_y16 := bn k_t2 J57
  have J5l := bn k_t5 J57
  have Q18 := fbn off0 J57
  replace k_t2 := k_t2.o hO
  replace k_t5 := k_t5.o hO
  replace off0 := off0.o hO
  have J0a := h_
  clear hO h_ J57
  have V5 : Sl W5 (.slice (some ⟨J3l, 0, none⟩) (lb 32 V).length c_y16) (lb 32 V) := J7p J0a c1_y16 c2_y16 c4_y16
  have J35 : sb (.slice (some ⟨J3l, 0, none⟩) (lb 32 V).length c_y16) (lb 32 V) ≠ some J0c := Q5k nq_t2_y16.symm
  refine Lv ?_
  refine J0 ?_
  go_upto_region 4 with fail
  refine wp_region_lit ?_
  refine Lv ?_
  refine Lv ?_
  refine J4i (j := 31) (by rw [J8]; decide) (by rfl) rfl rfl rfl ?_
  (try simp only [Act.put, mA, mB, mC])
  have hc_ : W5.cell? ⟨J3l, 0 + 31, none⟩ = some (.int .u8 (Q6 V 31)) := by rw [J72 J0a, Nat.zero_add]; exact J86 (by rw [← J8 32 V]; exact c4_y16) (by decide)
  refine Q2t (v := .int .u8 (Q6 V 31)) (by rfl) rfl rfl hc_ (by kernel_rfl) ?_
  (try simp only [Act.put, mA, mB, mC])
  clear hc_
  refine Lw ?_ (v := .int .u8 (bits .and .u8 (Q6 V 31) 127)) (hv := by exact J4e rfl rfl rfl rfl)
  refine J4i (j := 31) (by rw [J8]; decide) (by rfl) rfl rfl rfl ?_
  (try simp only [Act.put, mA, mB, mC])
  refine J9q (v := .int .u8 (bits .and .u8 (Q6 V 31) 127)) ⟨rfl, rfl⟩ (by rfl) rfl rfl rfl J0a (by rw [c3_y16, Nat.zero_add]; have := c1_y16; rw [J8] at this; omega) (by kernel_rfl) ?_
  (try simp only [Act.put, mA, mB, mC])
  intro W6 hO h_
  have c4n := take_set (cs := cs_y16) (by rw [← J8 32 V]; exact c4_y16) (Q8d hV)
  rw [Nat.zero_add] at h_
  replace k_t2 := k_t2.p hO nq_t2_y16
  replace k_t5 := k_t5.p hO J5l
  replace off0 := off0.p hO Q18
  clear hO
  replace J0a := h_
  clear h_
  have h1_ : (lb 32 (V % 2 ^ 255)).length = (lb 32 V).length := by rw [J8, J8]
  replace V5 : Sl W6 (.slice (some ⟨J3l, 0, none⟩) (lb 32 V).length c_y16) (lb 32 (V % 2 ^ 255)) := by have := J7p (l := lb 32 (V % 2 ^ 255)) J0a (by rw [h1_]; exact c1_y16) c2_y16 (by rw [J8]; exact c4n); rwa [h1_] at this
  clear h1_ c4_y16
  replace J35 : sb (.slice (some ⟨J3l, 0, none⟩) (lb 32 V).length c_y16) (lb 32 (V % 2 ^ 255)) ≠ some J0c := Q5k nq_t2_y16.symm
  refine J0 ?_
  by_cases hc : Y = V % 2 ^ 255
  ·
   have _f := hc
   have H_hc := Lib.hid hc
   clear _f hc
   go_upto_region 5 with fail
   refine Rx 5 ?_
   refine XlA ?_ k_t5
   refine Xf ?_ (fun W hW => J71 Y W)
   refine Xv ?_
   refine J3a (l := (lb 32 (V % 2 ^ 255))) (fun W hW => J8r V5 hW) (by rfl) rfl rfl ?_
   (try simp only [Act.put, mA, mB, mC])
   refine J40 (l := (lb 32 Y)) (m := (lb 32 (V % 2 ^ 255))) (b := false) (Z3o H_hc.out) (by rfl) rfl rfl rfl ?_
   (try simp only [Act.put, mA, mB, mC])
   refine Q3 fun W7 hE => ?_
   have hO := Z6 hE
   replace k_t2 := k_t2.o hO
   replace k_t5 := k_t5.o hO
   replace V5 := Sl.off V5 hO f0
   replace off0 := off0.o hO
   clear hO hE
   refine LN ?_
   go_upto_region 7 with fail
   refine wp_region_lit ?_
   refine L0A ?_ k_t5
   refine L0A ?_ k_t5
   refine Lr ?_ (c_N1 W7)
   intro W8 hO
   replace k_t2 := k_t2.o hO
   replace k_t5 := k_t5.o hO
   replace V5 := Sl.off V5 hO f0
   replace off0 := off0.o hO
   clear hO
   refine LnA ?_ (z := J1 .i64 16 (Q2 0)) (t := 76) (k := .i64) (n := 16) (f := Q2 N1)
   intro Y8g W10 J03 hO h_
   replace k_t2 := k_t2.o hO
   replace k_t5 := k_t5.o hO
   replace V5 := Sl.off V5 hO f0
   replace off0 := off0.o hO
   have k_t7 := h_
   clear hO h_ J03
   refine J0 ?_
   have qRx : R = dX Y := by unfold dX; rw [HR.out, Q9u Y HN1.out HN2.out]; unfold dV; rw [HN4.out, HN3.out, HN1.out]
   have qBx : B = dB Y := by unfold dB; rw [HB.out, Q9u Y HN1.out HN2.out]; unfold dV; rw [HN4.out, HN3.out, HN1.out]
   have hRx := Lib.hid qRx
   have hBx := Lib.hid qBx
   clear qRx qBx
   by_cases hb : B = true
   ·
    have _f := hb
    have H_hb := Lib.hid hb
    clear _f hb
    go_upto_region 8 with fail
    refine Rx1 12 8 (z := J1 .i64 16 (Q2 0)) (t := 76) ?_
    refine XlA ?_ k_t7
    refine Xw ?_ (v := .agg (J1 .i64 16 (Q2 1))) (hv := fun _ _ => by kernel_rfl)
    refine Xf ?_ (fun W hW => c_N2 W)
    refine Xf ?_ (fun W hW => Z1h W)
    refine XlA ?_ k_t7
    refine Xf ?_ (fun W hW => c_N3 W)
    refine Xw ?_ (v := .agg (J1 .i64 16 (Q2 1))) (hv := fun _ _ => by kernel_rfl)
    refine Xf ?_ (fun W hW => c_N4 W)
    rw [H_hb.out] at c_r
    refine Xf ?_ (fun W hW => c_r W)
    refine Xv ?_
    refine Xv ?_
    refine Xv ?_
    refine XN ?_
    intro J1x W11 V6 hE h_t8
    have hO := Z6 hE
    have nq_t2_t8 := bn k_t2 V6
    have J1d := bn k_t5 V6
    have nq_t7_t8 := bn k_t7 V6
    have J3i := J0m (Sl.lt V5) V6
    have J1v := fbn off0 V6
    replace k_t2 := k_t2.o hO
    replace k_t5 := k_t5.o hO
    replace k_t7 := k_t7.o hO
    replace V5 := Sl.off V5 hO f0
    replace off0 := off0.o hO
    clear hO hE V6
    have k_t8 : Blk W11 J1x (J1 .i64 16 (Q2 0)) 76 := h_t8
    clear h_t8
    refine LpA ?_ k_t8 (k := .i64) (n := 16) (f := Q2 R)
    intro W12 hO h_
    replace k_t8 : Blk W12 J1x (J1 .i64 16 (Q2 R)) 76 := h_
    clear h_
    replace k_t2 := k_t2.p hO nq_t2_t8
    replace k_t5 := k_t5.p hO J1d
    replace k_t7 := k_t7.p hO nq_t7_t8
    replace V5 := Sl.off V5 hO (f1 J3i)
    replace off0 := off0.p hO J1v
    clear hO
    refine Lw ?_ (v := .bool true)
    refine LN ?_
    by_cases h0 : R = 0
    ·
     have _f := h0
     have H_h0 := Lib.hid h0
     clear _f h0
     go_upto_region 9 with fail
     refine wp_region_lit ?_
     refine Lw ?_ (v := .bool true)
     refine Lw ?_ (v := .bool false)
     refine Lw ?_ (v := .bool false)
     refine L0A ?_ k_t8
     refine Lw ?_ (v := .agg (J1 .i64 16 (Q2 0))) (hv := by kernel_rfl)
     rw [decide_eq_true H_h0.out] at e_0
     refine J53 (e_0) (by kernel_rfl) (by rfl) rfl rfl rfl ?_
     (try simp only [Act.put, mA, mB, mC])
     refine Lw ?_ (v := .bool true)
     refine Lw ?_ (v := .bool false)
     refine Lw ?_ (v := .bool false)
     refine Lw ?_ (v := .bool false)
     refine J0 ?_
     exact absurd (Q1q (H_hc.out ▸ lY) (by rw [← H_hc.out, ← hBx.out]; exact H_hb.out) (fun h => H_ht.out h.1)) (by rw [hok]; decide)
    ·
     have _f := h0
     have H_h0 := Lib.hid h0
     clear _f h0
     go_upto_region 9 with fail
     refine wp_region_lit ?_
     refine Lw ?_ (v := .bool true)
     refine Lw ?_ (v := .bool false)
     refine Lw ?_ (v := .bool false)
     refine L0A ?_ k_t8
     refine Lw ?_ (v := .agg (J1 .i64 16 (Q2 0))) (hv := by kernel_rfl)
     rw [decide_eq_false H_h0.out] at e_0
     refine J53 (e_0) (by kernel_rfl) (by rfl) rfl rfl rfl ?_
     (try simp only [Act.put, mA, mB, mC])
     refine Lw ?_ (v := .bool false)
     refine Ls ?_
     refine Lw ?_ (v := .bool false)
     refine Lw ?_ (v := .bool false)
     refine J0 ?_
     exact absurd (Q1q (H_hc.out ▸ lY) (by rw [← H_hc.out, ← hBx.out]; exact H_hb.out) (fun h => H_ht.out h.1)) (by rw [hok]; decide)
   ·
    have _f := hb
    rw [Bool.not_eq_true] at hb _f
    have H_hb := Lib.hid hb
    clear _f hb
    go_upto_region 8 with fail
    refine Rx1 12 8 (z := J1 .i64 16 (Q2 0)) (t := 76) ?_
    refine XlA ?_ k_t7
    refine Xw ?_ (v := .agg (J1 .i64 16 (Q2 1))) (hv := fun _ _ => by kernel_rfl)
    refine Xf ?_ (fun W hW => c_N2 W)
    refine Xf ?_ (fun W hW => Z1h W)
    refine XlA ?_ k_t7
    refine Xf ?_ (fun W hW => c_N3 W)
    refine Xw ?_ (v := .agg (J1 .i64 16 (Q2 1))) (hv := fun _ _ => by kernel_rfl)
    refine Xf ?_ (fun W hW => c_N4 W)
    rw [H_hb.out] at c_r
    refine Xf ?_ (fun W hW => c_r W)
    refine Xv ?_
    refine Xv ?_
    refine Xv ?_
    refine XN ?_
    intro J1x W11 V6 hE h_t8
    have hO := Z6 hE
    have nq_t2_t8 := bn k_t2 V6
    have J1d := bn k_t5 V6
    have J3i := J0m (Sl.lt V5) V6
    have J1v := fbn off0 V6
    replace k_t2 := k_t2.o hO
    replace k_t5 := k_t5.o hO
    replace V5 := Sl.off V5 hO f0
    replace off0 := off0.o hO
    clear hO hE V6
    have k_t8 : Blk W11 J1x (J1 .i64 16 (Q2 0)) 76 := h_t8
    clear h_t8
    refine LpA ?_ k_t8 (k := .i64) (n := 16) (f := Q2 R)
    intro W12 hO h_
    clear h_
    replace k_t2 := k_t2.p hO nq_t2_t8
    replace k_t5 := k_t5.p hO J1d
    replace V5 := Sl.off V5 hO (f1 J3i)
    replace off0 := off0.p hO J1v
    clear hO
    refine Lw ?_ (v := .bool false)
    refine LN ?_
    go_upto_region 9 with fail
    refine wp_region_lit ?_
    refine Lw ?_ (v := .bool false)
    refine Lw ?_ (v := .bool true)
    refine Lw ?_ (v := .bool true)
    refine Ls ?_
    refine Ls ?_
    refine Ls ?_
    refine Ls ?_
    refine Ls ?_
    refine Ls ?_
    refine Lw ?_ (v := .bool true)
    refine J0 ?_
    go_upto_region 10 with fail
    refine wp_region_lit ?_
    refine Lw ?_ (v := .agg (p3 0 0 0)) (hv := by kernel_rfl)
    refine Lp ?_ k_t2 (cells := p3 0 0 0) (hi := by rw [J3]; kernel_rfl) (hs := by first | rw [J3, J3] | rw [J3] | kernel_rfl) (h1 := by exact J0h)
    intro W13 hO h_
    replace k_t2 : Blk W13 J0c (p3 0 0 0) 78 := h_
    clear h_
    replace k_t5 := k_t5.p hO nq_t2_t5.symm
    replace V5 := Sl.off V5 hO (f1 J35)
    replace off0 := off0.p hO J01
    clear hO
    refine Lw ?_ (v := .int .i64 15)
    refine J0 ?_
    go_wp2
    exact bodyPost_ret (V8 rfl rfl rfl k_t2 (by kernel_rfl) (by rw [J3]; kernel_rfl)) rfl ⟨rfl, off0.ext⟩
  ·
   have _f := hc
   have H_hc := Lib.hid hc
   clear _f hc
   go_upto_region 5 with fail
   refine Rx 5 ?_
   refine XlA ?_ k_t5
   refine Xf ?_ (fun W hW => J71 Y W)
   refine Xv ?_
   refine J3a (l := (lb 32 (V % 2 ^ 255))) (fun W hW => J8r V5 hW) (by rfl) rfl rfl ?_
   (try simp only [Act.put, mA, mB, mC])
   refine J40 (l := (lb 32 Y)) (m := (lb 32 (V % 2 ^ 255))) (b := true) (Y6j (Q45 lY) (Q1r V) H_hc.out) (by rfl) rfl rfl rfl ?_
   (try simp only [Act.put, mA, mB, mC])
   refine Q3 fun W7 hE => ?_
   have hO := Z6 hE
   replace k_t2 := k_t2.o hO
   replace off0 := off0.o hO
   clear hO hE
   refine LN ?_
   go_upto_region 6 with fail
   refine wp_region_lit ?_
   refine Lw ?_ (v := .agg (p3 0 0 0)) (hv := by kernel_rfl)
   refine Lp ?_ k_t2 (cells := p3 0 0 0) (hi := by rw [J3]; kernel_rfl) (hs := by first | rw [J3, J3] | rw [J3] | kernel_rfl) (h1 := by exact J0h)
   intro W8 hO h_
   replace k_t2 : Blk W8 J0c (p3 0 0 0) 78 := h_
   clear h_
   replace off0 := off0.p hO J01
   clear hO
   refine Lw ?_ (v := .int .i64 15)
   refine J0 ?_
   go_wp2
   exact bodyPost_ret (V8 rfl rfl rfl k_t2 (by kernel_rfl) (by rw [J3]; kernel_rfl)) rfl ⟨rfl, off0.ext⟩
end Go.Proofs.YtefpoollmbmkfaaDoor
