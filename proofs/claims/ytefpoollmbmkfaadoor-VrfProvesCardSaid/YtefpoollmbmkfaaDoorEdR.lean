/- The document's points: D, Base, Zero, Neg, Add, Eight, Same. No conditions. -/
import Derived.Test.YtefpoollmbmkfaaDoorGc
import Derived.Test.YtefpoollmbmkfaaDoorEdD
set_option linter.unusedSimpArgs false
set_option linter.unusedVariables false
namespace Go.Proofs.YtefpoollmbmkfaaDoor
set_option maxHeartbeats 1500000
set_option maxRecDepth 100000
open Go.RowKit
attribute [local irreducible] wpList
theorem rD_c (w : World) :
  Calls Tryd.prog 101 #[] w fun e w' => Ret (A16 DD) w w' e := by
 have off0 : Off [] w w := Off.refl _ _
 go_enter Tryd.func101, Tryd.ntmps101
 go_upto_region 0 with fail
 refine wp_region_lit ?_
 refine Ln ?_ (z := arrK .i64 16 (l16 0)) (t := 76)
 intro p0_1 W1 n_t0 hO h_
 have fb_t0 := fbn off0 n_t0
 replace off0 := off0.o hO
 have k_t0 := h_
 clear hO h_ n_t0
 refine wpL_nil ?_
 go_upto_region 1 with fail
 refine wp_region_lit ?_
 refine Lw ?_ (v := .agg (arrK .i64 16 (l16 DD))) (hv := by kernel_rfl)
 refine LpA ?_ k_t0 (k := .i64) (n := 16) (f := l16 DD)
 intro W2 hO h_
 replace k_t0 : Blk W2 p0_1 (arrK .i64 16 (l16 DD)) 76 := h_
 clear h_
 replace off0 := off0.p hO fb_t0
 clear hO
 refine wpL_nil ?_
 go_wp2
 exact bodyPost_ret (res_row rfl rfl k_t0 (by kernel_rfl) (by rw [arrK_size]; kernel_rfl)) rfl ⟨rfl, off0.ext⟩
theorem rBase_c (w : World) :
  Calls Tryd.prog 47 #[] w fun e w' => Ret (.agg (p3 BX BY 1)) w w' e := by
 have off0 : Off [] w w := Off.refl _ _
 go_enter Tryd.func47, Tryd.ntmps47
 go_upto_region 0 with fail
 refine wp_region_lit ?_
 refine Ln ?_ (z := p3 0 0 0) (t := 78)
 intro p0_1 W1 n_t0 hO h_
 have fb_t0 := fbn off0 n_t0
 replace off0 := off0.o hO
 have k_t0 := h_
 clear hO h_ n_t0
 refine wpL_nil ?_
 go_upto_region 1 with fail
 refine wp_region_lit ?_
 refine Lw ?_ (v := .agg (arrK .i64 16 (l16 BX))) (hv := by kernel_rfl)
 refine Lw ?_ (v := .agg (arrK .i64 16 (l16 BY))) (hv := by kernel_rfl)
 refine Lw ?_ (v := .agg (arrK .i64 16 (l16 1))) (hv := by kernel_rfl)
 refine Lw ?_ (v := .agg (p3 BX BY 1)) (hv := by kernel_rfl)
 refine Lp ?_ k_t0 (cells := p3 BX BY 1) (hi := by rw [p3_size]; kernel_rfl) (hs := by first | rw [p3_size, p3_size] | rw [p3_size] | kernel_rfl) (h1 := by exact p3_one)
 intro W2 hO h_
 replace k_t0 : Blk W2 p0_1 (p3 BX BY 1) 78 := h_
 clear h_
 replace off0 := off0.p hO fb_t0
 clear hO
 refine wpL_nil ?_
 go_wp2
 exact bodyPost_ret (res_row rfl rfl k_t0 (by kernel_rfl) (by rw [p3_size]; kernel_rfl)) rfl ⟨rfl, off0.ext⟩
theorem rZero_c (w : World) :
  Calls Tryd.prog 69 #[] w fun e w' => Ret (.agg (p3 0 1 1)) w w' e := by
 have off0 : Off [] w w := Off.refl _ _
 go_enter Tryd.func69, Tryd.ntmps69
 go_upto_region 0 with fail
 refine wp_region_lit ?_
 refine Ln ?_ (z := p3 0 0 0) (t := 78)
 intro p0_1 W1 n_t0 hO h_
 have fb_t0 := fbn off0 n_t0
 replace off0 := off0.o hO
 have k_t0 := h_
 clear hO h_ n_t0
 refine wpL_nil ?_
 go_upto_region 1 with fail
 refine wp_region_lit ?_
 refine Lw ?_ (v := .agg (arrK .i64 16 (l16 1))) (hv := by kernel_rfl)
 refine Lw ?_ (v := .agg (arrK .i64 16 (l16 1))) (hv := by kernel_rfl)
 refine Lw ?_ (v := .agg (p3 0 1 1)) (hv := by kernel_rfl)
 refine Lp ?_ k_t0 (cells := p3 0 1 1) (hi := by rw [p3_size]; kernel_rfl) (hs := by first | rw [p3_size, p3_size] | rw [p3_size] | kernel_rfl) (h1 := by exact p3_one)
 intro W2 hO h_
 replace k_t0 : Blk W2 p0_1 (p3 0 1 1) 78 := h_
 clear h_
 replace off0 := off0.p hO fb_t0
 clear hO
 refine wpL_nil ?_
 go_wp2
 exact bodyPost_ret (res_row rfl rfl k_t0 (by kernel_rfl) (by rw [p3_size]; kernel_rfl)) rfl ⟨rfl, off0.ext⟩
theorem rd_base : RD BX BY 1 BP := rd_one (by decide) (by decide) BP_on
theorem rd_zero : RD 0 1 1 p0 := rn_p0.rr
theorem rPAdd_c {X1 Y1 Z1 : Nat} {p1 : Pr} {X2 Y2 Z2 : Nat} {p2 : Pr} (h1 : RD X1 Y1 Z1 p1) (h2 : RD X2 Y2 Z2 p2) :
  ∃ X Y Z, RD X Y Z (padd p1 p2) ∧ ∀ w, Calls Tryd.prog 58 #[.agg (p3 X1 Y1 Z1), .agg (p3 X2 Y2 Z2)] w fun e w' => Ret (.agg (p3 X Y Z)) w w' e := by
 have c_N1 := rMul_c Z1 Z2 (lt_pp h1.z) (lt_pp h2.z)
 obtain ⟨N1, hN1⟩ := exn (Z1 * Z2 % PP)
 rw [← hN1] at c_N1
 have lN1 := bpp hN1
 have bN1 := lt_pp lN1
 have HN1 := Lib.hid hN1
 clear hN1
 have c_N2 := rMul_c N1 N1 bN1 bN1
 obtain ⟨N2, hN2⟩ := exn (N1 * N1 % PP)
 rw [← hN2] at c_N2
 have lN2 := bpp hN2
 have bN2 := lt_pp lN2
 have HN2 := Lib.hid hN2
 clear hN2
 have c_N3 := rMul_c X1 X2 (lt_pp h1.x) (lt_pp h2.x)
 obtain ⟨N3, hN3⟩ := exn (X1 * X2 % PP)
 rw [← hN3] at c_N3
 have lN3 := bpp hN3
 have bN3 := lt_pp lN3
 have HN3 := Lib.hid hN3
 clear hN3
 have c_N4 := rMul_c Y1 Y2 (lt_pp h1.y) (lt_pp h2.y)
 obtain ⟨N4, hN4⟩ := exn (Y1 * Y2 % PP)
 rw [← hN4] at c_N4
 have lN4 := bpp hN4
 have bN4 := lt_pp lN4
 have HN4 := Lib.hid hN4
 clear hN4
 have c_N5 := rMul_c N3 N4 bN3 bN4
 obtain ⟨N5, hN5⟩ := exn (N3 * N4 % PP)
 rw [← hN5] at c_N5
 have lN5 := bpp hN5
 have bN5 := lt_pp lN5
 have HN5 := Lib.hid hN5
 clear hN5
 have c_N6 := rMul_c DD N5 DD_lt bN5
 obtain ⟨N6, hN6⟩ := exn (DD * N5 % PP)
 rw [← hN6] at c_N6
 have lN6 := bpp hN6
 have bN6 := lt_pp lN6
 have HN6 := Lib.hid hN6
 clear hN6
 have c_N7 := rSub_c N2 N6 bN2 (Nat.le_of_lt lN6)
 obtain ⟨N7, hN7⟩ := exn ((N2 + (PP - N6) % PP) % PP)
 rw [← hN7] at c_N7
 have lN7 := bpp hN7
 have bN7 := lt_pp lN7
 have HN7 := Lib.hid hN7
 clear hN7
 have c_N8 := rAdd_c N2 N6 bN2 bN6
 obtain ⟨N8, hN8⟩ := exn ((N2 + N6) % PP)
 rw [← hN8] at c_N8
 have lN8 := bpp hN8
 have bN8 := lt_pp lN8
 have HN8 := Lib.hid hN8
 clear hN8
 have c_N9 := rAdd_c X1 Y1 (lt_pp h1.x) (lt_pp h1.y)
 obtain ⟨N9, hN9⟩ := exn ((X1 + Y1) % PP)
 rw [← hN9] at c_N9
 have lN9 := bpp hN9
 have bN9 := lt_pp lN9
 have HN9 := Lib.hid hN9
 clear hN9
 have c_N10 := rAdd_c X2 Y2 (lt_pp h2.x) (lt_pp h2.y)
 obtain ⟨N10, hN10⟩ := exn ((X2 + Y2) % PP)
 rw [← hN10] at c_N10
 have lN10 := bpp hN10
 have bN10 := lt_pp lN10
 have HN10 := Lib.hid hN10
 clear hN10
 have c_N11 := rMul_c N9 N10 bN9 bN10
 obtain ⟨N11, hN11⟩ := exn (N9 * N10 % PP)
 rw [← hN11] at c_N11
 have lN11 := bpp hN11
 have bN11 := lt_pp lN11
 have HN11 := Lib.hid hN11
 clear hN11
 have c_N12 := rMul_c N1 N7 bN1 bN7
 obtain ⟨N12, hN12⟩ := exn (N1 * N7 % PP)
 rw [← hN12] at c_N12
 have lN12 := bpp hN12
 have bN12 := lt_pp lN12
 have HN12 := Lib.hid hN12
 clear hN12
 have c_N13 := rAdd_c N3 N4 bN3 bN4
 obtain ⟨N13, hN13⟩ := exn ((N3 + N4) % PP)
 rw [← hN13] at c_N13
 have lN13 := bpp hN13
 have bN13 := lt_pp lN13
 have HN13 := Lib.hid hN13
 clear hN13
 have c_N14 := rSub_c N11 N13 bN11 (Nat.le_of_lt lN13)
 obtain ⟨N14, hN14⟩ := exn ((N11 + (PP - N13) % PP) % PP)
 rw [← hN14] at c_N14
 have lN14 := bpp hN14
 have bN14 := lt_pp lN14
 have HN14 := Lib.hid hN14
 clear hN14
 have c_N15 := rMul_c N12 N14 bN12 bN14
 obtain ⟨N15, hN15⟩ := exn (N12 * N14 % PP)
 rw [← hN15] at c_N15
 have lN15 := bpp hN15
 have bN15 := lt_pp lN15
 have HN15 := Lib.hid hN15
 clear hN15
 have c_N16 := rMul_c N1 N8 bN1 bN8
 obtain ⟨N16, hN16⟩ := exn (N1 * N8 % PP)
 rw [← hN16] at c_N16
 have lN16 := bpp hN16
 have bN16 := lt_pp lN16
 have HN16 := Lib.hid hN16
 clear hN16
 have c_N17 := rAdd_c N3 N4 bN3 bN4
 obtain ⟨N17, hN17⟩ := exn ((N3 + N4) % PP)
 rw [← hN17] at c_N17
 have lN17 := bpp hN17
 have bN17 := lt_pp lN17
 have HN17 := Lib.hid hN17
 clear hN17
 have c_N18 := rMul_c N16 N17 bN16 bN17
 obtain ⟨N18, hN18⟩ := exn (N16 * N17 % PP)
 rw [← hN18] at c_N18
 have lN18 := bpp hN18
 have bN18 := lt_pp lN18
 have HN18 := Lib.hid hN18
 clear hN18
 have c_N19 := rMul_c N7 N8 bN7 bN8
 obtain ⟨N19, hN19⟩ := exn (N7 * N8 % PP)
 rw [← hN19] at c_N19
 have lN19 := bpp hN19
 have bN19 := lt_pp lN19
 have HN19 := Lib.hid hN19
 clear hN19
 refine ⟨N15, N18, N19, rd_add h1 h2 HN1.out HN2.out HN3.out HN4.out HN5.out HN6.out HN7.out HN8.out HN9.out HN10.out HN11.out HN12.out HN13.out HN14.out HN15.out HN16.out (HN18.out.trans (by rw [HN17.out, ← HN13.out])) HN19.out, fun w => ?_⟩
 have off0 : Off [] w w := Off.refl _ _
 go_enter Tryd.func58, Tryd.ntmps58
 go_upto_region 0 with fail
 refine wp_region_lit ?_
 refine Ln ?_ (z := p3 X1 Y1 Z1) (t := 78)
 intro p2_1 W1 n_t2 hO h_
 replace off0 := off0.o hO
 have k_t2 := h_
 clear hO h_ n_t2
 refine Ln ?_ (z := p3 X2 Y2 Z2) (t := 78)
 intro p3_2 W2 n_t3 hO h_
 replace k_t2 := k_t2.o hO
 replace off0 := off0.o hO
 have k_t3 := h_
 clear hO h_ n_t3
 refine Ln ?_ (z := p3 0 0 0) (t := 78)
 intro p4_3 W3 n_t4 hO h_
 have fb_t4 := fbn off0 n_t4
 replace k_t2 := k_t2.o hO
 replace k_t3 := k_t3.o hO
 replace off0 := off0.o hO
 have k_t4 := h_
 clear hO h_ n_t4
 refine wpL_nil ?_
 go_upto_region 1 with fail
 refine wp_region_lit ?_
 refine Lv ?_
 refine wpL_gets (vs := (arrK .i64 16 (l16 Z1)).toList) (by rfl) rfl rfl k_t2 (subL p3c2) (by kernel_rfl) (by kernel_rfl) ?_
 (try simp only [Act.put, mA, mB, mC])
 refine Lv ?_
 refine wpL_gets (vs := (arrK .i64 16 (l16 Z2)).toList) (by rfl) rfl rfl k_t3 (subL p3c2) (by kernel_rfl) (by kernel_rfl) ?_
 (try simp only [Act.put, mA, mB, mC])
 refine Lr ?_ (c_N1 W3)
 intro W4 hO
 replace k_t2 := k_t2.o hO
 replace k_t3 := k_t3.o hO
 replace k_t4 := k_t4.o hO
 replace off0 := off0.o hO
 clear hO
 refine LnA ?_ (z := arrK .i64 16 (l16 0)) (t := 76) (k := .i64) (n := 16) (f := l16 N1)
 intro p5_5 W6 n_t5 hO h_
 replace k_t2 := k_t2.o hO
 replace k_t3 := k_t3.o hO
 replace k_t4 := k_t4.o hO
 replace off0 := off0.o hO
 have k_t5 := h_
 clear hO h_ n_t5
 refine wpL_nil ?_
 go_upto_region 2 with fail
 refine wp_region_lit ?_
 refine L0A ?_ k_t5
 refine L0A ?_ k_t5
 refine Lr ?_ (c_N2 W6)
 intro W7 hO
 replace k_t2 := k_t2.o hO
 replace k_t3 := k_t3.o hO
 replace k_t4 := k_t4.o hO
 replace k_t5 := k_t5.o hO
 replace off0 := off0.o hO
 clear hO
 refine LnA ?_ (z := arrK .i64 16 (l16 0)) (t := 76) (k := .i64) (n := 16) (f := l16 N2)
 intro p6_8 W9 n_t6 hO h_
 replace k_t2 := k_t2.o hO
 replace k_t3 := k_t3.o hO
 replace k_t4 := k_t4.o hO
 replace k_t5 := k_t5.o hO
 replace off0 := off0.o hO
 have k_t6 := h_
 clear hO h_ n_t6
 refine wpL_nil ?_
 go_upto_region 3 with fail
 refine wp_region_xn 10 [⟨10, 7, arrK .i64 16 (l16 0), 76⟩, ⟨11, 8, arrK .i64 16 (l16 0), 76⟩] (by kernel_rfl) ?_ (by kernel_rfl) ?_
 ·
  intro x hx
  simp only [List.mem_cons, List.not_mem_nil, or_false] at hx
  rcases hx with rfl | rfl <;> exact ⟨_, rfl, rfl, rfl, fun _ _ => by kernel_rfl⟩
 simp only [List.take_succ_cons, List.take_zero, List.take_nil]
 (try simp only [Act.put, mA, mB, mC])
 refine Xv ?_
 refine Xls ?_ (sub := arrK .i64 16 (l16 X1)) (j := 0) k_t2 p3c0
 refine Xv ?_
 refine Xls ?_ (sub := arrK .i64 16 (l16 X2)) (j := 0) k_t3 p3c0
 refine Xf ?_ (fun W hW => c_N3 W)
 refine Xv ?_
 refine Xls ?_ (sub := arrK .i64 16 (l16 Y1)) (j := 16) k_t2 p3c1
 refine Xv ?_
 refine Xls ?_ (sub := arrK .i64 16 (l16 Y2)) (j := 16) k_t3 p3c1
 refine Xf ?_ (fun W hW => c_N4 W)
 refine wpX_nil ?_
 intro β W10 hE hN hD
 obtain ⟨n_t7, h_t7⟩ := hN _ (List.mem_cons_self ..)
 obtain ⟨n_t8, h_t8⟩ := hN _ (List.mem_cons_of_mem _ (List.mem_cons_self ..))
 have nq_t7_t8 := (hD _ (List.mem_cons_of_mem _ (List.mem_cons_self ..)) _ (List.mem_cons_self ..) (by decide)).symm
 clear hN hD
 simp only [putAll, Act.put, mA, mB, mC, List.drop_succ_cons, List.drop_zero, List.drop_nil, List.length_cons, List.length_nil, Nat.add_zero] at n_t7 h_t7 n_t8 h_t8 nq_t7_t8 ⊢
 have hO := off_ext hE
 generalize β 10 = p7_10 at *
 have nq_t2_t7 := bn k_t2 n_t7
 have nq_t3_t7 := bn k_t3 n_t7
 have nq_t4_t7 := bn k_t4 n_t7
 have nq_t5_t7 := bn k_t5 n_t7
 have nq_t6_t7 := bn k_t6 n_t7
 have fb_t7 := fbn off0 n_t7
 generalize β 11 = p8_10 at *
 have nq_t2_t8 := bn k_t2 n_t8
 have nq_t3_t8 := bn k_t3 n_t8
 have nq_t4_t8 := bn k_t4 n_t8
 have nq_t5_t8 := bn k_t5 n_t8
 have nq_t6_t8 := bn k_t6 n_t8
 have fb_t8 := fbn off0 n_t8
 replace k_t2 := k_t2.o hO
 replace k_t3 := k_t3.o hO
 replace k_t4 := k_t4.o hO
 replace k_t5 := k_t5.o hO
 replace k_t6 := k_t6.o hO
 replace off0 := off0.o hO
 clear hO hE β n_t7 n_t8
 have k_t7 : Blk W10 p7_10 (arrK .i64 16 (l16 0)) 76 := h_t7
 clear h_t7
 have k_t8 : Blk W10 p8_10 (arrK .i64 16 (l16 0)) 76 := h_t8
 clear h_t8
 refine LpA ?_ k_t7 (k := .i64) (n := 16) (f := l16 N3)
 intro W11 hO h_
 replace k_t7 : Blk W11 p7_10 (arrK .i64 16 (l16 N3)) 76 := h_
 clear h_
 replace k_t2 := k_t2.p hO nq_t2_t7
 replace k_t3 := k_t3.p hO nq_t3_t7
 replace k_t4 := k_t4.p hO nq_t4_t7
 replace k_t5 := k_t5.p hO nq_t5_t7
 replace k_t6 := k_t6.p hO nq_t6_t7
 replace k_t8 := k_t8.p hO nq_t7_t8.symm
 replace off0 := off0.p hO fb_t7
 clear hO
 refine LpA ?_ k_t8 (k := .i64) (n := 16) (f := l16 N4)
 intro W12 hO h_
 replace k_t8 : Blk W12 p8_10 (arrK .i64 16 (l16 N4)) 76 := h_
 clear h_
 replace k_t2 := k_t2.p hO nq_t2_t8
 replace k_t3 := k_t3.p hO nq_t3_t8
 replace k_t4 := k_t4.p hO nq_t4_t8
 replace k_t5 := k_t5.p hO nq_t5_t8
 replace k_t6 := k_t6.p hO nq_t6_t8
 replace k_t7 := k_t7.p hO nq_t7_t8
 replace off0 := off0.p hO fb_t8
 clear hO
 refine LN ?_
 go_upto_region 4 with fail
 refine Rx1 5 9 (z := arrK .i64 16 (l16 0)) (t := 76) ?_
 refine Xf ?_ (fun W hW => rD_c W)
 refine XlA ?_ k_t7
 refine XlA ?_ k_t8
 refine Xf ?_ (fun W hW => c_N5 W)
 refine Xf ?_ (fun W hW => c_N6 W)
 refine XN ?_
 intro p9_13 W13 n_t9 hE h_t9
 have hO := off_ext hE
 have nq_t2_t9 := bn k_t2 n_t9
 have nq_t3_t9 := bn k_t3 n_t9
 have nq_t4_t9 := bn k_t4 n_t9
 have nq_t5_t9 := bn k_t5 n_t9
 have nq_t6_t9 := bn k_t6 n_t9
 have nq_t7_t9 := bn k_t7 n_t9
 have nq_t8_t9 := bn k_t8 n_t9
 have fb_t9 := fbn off0 n_t9
 replace k_t2 := k_t2.o hO
 replace k_t3 := k_t3.o hO
 replace k_t4 := k_t4.o hO
 replace k_t5 := k_t5.o hO
 replace k_t6 := k_t6.o hO
 replace k_t7 := k_t7.o hO
 replace k_t8 := k_t8.o hO
 replace off0 := off0.o hO
 clear hO hE n_t9
 have k_t9 : Blk W13 p9_13 (arrK .i64 16 (l16 0)) 76 := h_t9
 clear h_t9
 refine LpA ?_ k_t9 (k := .i64) (n := 16) (f := l16 N6)
 intro W14 hO h_
 replace k_t9 : Blk W14 p9_13 (arrK .i64 16 (l16 N6)) 76 := h_
 clear h_
 replace k_t2 := k_t2.p hO nq_t2_t9
 replace k_t3 := k_t3.p hO nq_t3_t9
 replace k_t4 := k_t4.p hO nq_t4_t9
 replace k_t5 := k_t5.p hO nq_t5_t9
 replace k_t6 := k_t6.p hO nq_t6_t9
 replace k_t7 := k_t7.p hO nq_t7_t9
 replace k_t8 := k_t8.p hO nq_t8_t9
 replace off0 := off0.p hO fb_t9
 clear hO
 refine LN ?_
 go_upto_region 5 with fail
 refine wp_region_xn 6 [⟨6, 10, arrK .i64 16 (l16 0), 76⟩, ⟨7, 11, arrK .i64 16 (l16 0), 76⟩] (by kernel_rfl) ?_ (by kernel_rfl) ?_
 ·
  intro x hx
  simp only [List.mem_cons, List.not_mem_nil, or_false] at hx
  rcases hx with rfl | rfl <;> exact ⟨_, rfl, rfl, rfl, fun _ _ => by kernel_rfl⟩
 simp only [List.take_succ_cons, List.take_zero, List.take_nil]
 (try simp only [Act.put, mA, mB, mC])
 refine XlA ?_ k_t6
 refine XlA ?_ k_t9
 refine Xf ?_ (fun W hW => c_N7 W)
 refine XlA ?_ k_t6
 refine XlA ?_ k_t9
 refine Xf ?_ (fun W hW => c_N8 W)
 refine wpX_nil ?_
 intro β W15 hE hN hD
 obtain ⟨n_t10, h_t10⟩ := hN _ (List.mem_cons_self ..)
 obtain ⟨n_t11, h_t11⟩ := hN _ (List.mem_cons_of_mem _ (List.mem_cons_self ..))
 have nq_t10_t11 := (hD _ (List.mem_cons_of_mem _ (List.mem_cons_self ..)) _ (List.mem_cons_self ..) (by decide)).symm
 clear hN hD
 simp only [putAll, Act.put, mA, mB, mC, List.drop_succ_cons, List.drop_zero, List.drop_nil, List.length_cons, List.length_nil, Nat.add_zero] at n_t10 h_t10 n_t11 h_t11 nq_t10_t11 ⊢
 have hO := off_ext hE
 generalize β 6 = p10_15 at *
 have nq_t2_t10 := bn k_t2 n_t10
 have nq_t3_t10 := bn k_t3 n_t10
 have nq_t4_t10 := bn k_t4 n_t10
 have nq_t5_t10 := bn k_t5 n_t10
 have nq_t7_t10 := bn k_t7 n_t10
 have nq_t8_t10 := bn k_t8 n_t10
 have fb_t10 := fbn off0 n_t10
 generalize β 7 = p11_15 at *
 have nq_t2_t11 := bn k_t2 n_t11
 have nq_t3_t11 := bn k_t3 n_t11
 have nq_t4_t11 := bn k_t4 n_t11
 have nq_t5_t11 := bn k_t5 n_t11
 have nq_t7_t11 := bn k_t7 n_t11
 have nq_t8_t11 := bn k_t8 n_t11
 have fb_t11 := fbn off0 n_t11
 replace k_t2 := k_t2.o hO
 replace k_t3 := k_t3.o hO
 replace k_t4 := k_t4.o hO
 replace k_t5 := k_t5.o hO
 replace k_t7 := k_t7.o hO
 replace k_t8 := k_t8.o hO
 replace off0 := off0.o hO
 clear hO hE β n_t10 n_t11
 have k_t10 : Blk W15 p10_15 (arrK .i64 16 (l16 0)) 76 := h_t10
 clear h_t10
 have k_t11 : Blk W15 p11_15 (arrK .i64 16 (l16 0)) 76 := h_t11
 clear h_t11
 refine LpA ?_ k_t10 (k := .i64) (n := 16) (f := l16 N7)
 intro W16 hO h_
 replace k_t10 : Blk W16 p10_15 (arrK .i64 16 (l16 N7)) 76 := h_
 clear h_
 replace k_t2 := k_t2.p hO nq_t2_t10
 replace k_t3 := k_t3.p hO nq_t3_t10
 replace k_t4 := k_t4.p hO nq_t4_t10
 replace k_t5 := k_t5.p hO nq_t5_t10
 replace k_t7 := k_t7.p hO nq_t7_t10
 replace k_t8 := k_t8.p hO nq_t8_t10
 replace k_t11 := k_t11.p hO nq_t10_t11.symm
 replace off0 := off0.p hO fb_t10
 clear hO
 refine LpA ?_ k_t11 (k := .i64) (n := 16) (f := l16 N8)
 intro W17 hO h_
 replace k_t11 : Blk W17 p11_15 (arrK .i64 16 (l16 N8)) 76 := h_
 clear h_
 replace k_t2 := k_t2.p hO nq_t2_t11
 replace k_t3 := k_t3.p hO nq_t3_t11
 replace k_t4 := k_t4.p hO nq_t4_t11
 replace k_t5 := k_t5.p hO nq_t5_t11
 replace k_t7 := k_t7.p hO nq_t7_t11
 replace k_t8 := k_t8.p hO nq_t8_t11
 replace k_t10 := k_t10.p hO nq_t10_t11
 replace off0 := off0.p hO fb_t11
 clear hO
 refine LN ?_
 go_upto_region 6 with fail
 refine Rx1 11 12 (z := arrK .i64 16 (l16 0)) (t := 76) ?_
 refine Xv ?_
 refine Xls ?_ (sub := arrK .i64 16 (l16 X1)) (j := 0) k_t2 p3c0
 refine Xv ?_
 refine Xls ?_ (sub := arrK .i64 16 (l16 Y1)) (j := 16) k_t2 p3c1
 refine Xf ?_ (fun W hW => c_N9 W)
 refine Xv ?_
 refine Xls ?_ (sub := arrK .i64 16 (l16 X2)) (j := 0) k_t3 p3c0
 refine Xv ?_
 refine Xls ?_ (sub := arrK .i64 16 (l16 Y2)) (j := 16) k_t3 p3c1
 refine Xf ?_ (fun W hW => c_N10 W)
 refine Xf ?_ (fun W hW => c_N11 W)
 refine XN ?_
 intro p12_18 W18 n_t12 hE h_t12
 have hO := off_ext hE
 have nq_t4_t12 := bn k_t4 n_t12
 have nq_t5_t12 := bn k_t5 n_t12
 have nq_t7_t12 := bn k_t7 n_t12
 have nq_t8_t12 := bn k_t8 n_t12
 have nq_t10_t12 := bn k_t10 n_t12
 have nq_t11_t12 := bn k_t11 n_t12
 have fb_t12 := fbn off0 n_t12
 replace k_t4 := k_t4.o hO
 replace k_t5 := k_t5.o hO
 replace k_t7 := k_t7.o hO
 replace k_t8 := k_t8.o hO
 replace k_t10 := k_t10.o hO
 replace k_t11 := k_t11.o hO
 replace off0 := off0.o hO
 clear hO hE n_t12
 have k_t12 : Blk W18 p12_18 (arrK .i64 16 (l16 0)) 76 := h_t12
 clear h_t12
 refine LpA ?_ k_t12 (k := .i64) (n := 16) (f := l16 N11)
 intro W19 hO h_
 replace k_t12 : Blk W19 p12_18 (arrK .i64 16 (l16 N11)) 76 := h_
 clear h_
 replace k_t4 := k_t4.p hO nq_t4_t12
 replace k_t5 := k_t5.p hO nq_t5_t12
 replace k_t7 := k_t7.p hO nq_t7_t12
 replace k_t8 := k_t8.p hO nq_t8_t12
 replace k_t10 := k_t10.p hO nq_t10_t12
 replace k_t11 := k_t11.p hO nq_t11_t12
 replace off0 := off0.p hO fb_t12
 clear hO
 refine LN ?_
 go_upto_region 7 with fail
 refine Rx1 9 13 (z := arrK .i64 16 (l16 0)) (t := 76) ?_
 refine XlA ?_ k_t5
 refine XlA ?_ k_t10
 refine Xf ?_ (fun W hW => c_N12 W)
 refine XlA ?_ k_t12
 refine XlA ?_ k_t7
 refine XlA ?_ k_t8
 refine Xf ?_ (fun W hW => c_N13 W)
 refine Xf ?_ (fun W hW => c_N14 W)
 refine Xf ?_ (fun W hW => c_N15 W)
 refine XN ?_
 intro p13_20 W20 n_t13 hE h_t13
 have hO := off_ext hE
 have nq_t4_t13 := bn k_t4 n_t13
 have nq_t5_t13 := bn k_t5 n_t13
 have nq_t7_t13 := bn k_t7 n_t13
 have nq_t8_t13 := bn k_t8 n_t13
 have nq_t10_t13 := bn k_t10 n_t13
 have nq_t11_t13 := bn k_t11 n_t13
 have fb_t13 := fbn off0 n_t13
 replace k_t4 := k_t4.o hO
 replace k_t5 := k_t5.o hO
 replace k_t7 := k_t7.o hO
 replace k_t8 := k_t8.o hO
 replace k_t10 := k_t10.o hO
 replace k_t11 := k_t11.o hO
 replace off0 := off0.o hO
 clear hO hE n_t13
 have k_t13 : Blk W20 p13_20 (arrK .i64 16 (l16 0)) 76 := h_t13
 clear h_t13
 refine LpA ?_ k_t13 (k := .i64) (n := 16) (f := l16 N15)
 intro W21 hO h_
 replace k_t13 : Blk W21 p13_20 (arrK .i64 16 (l16 N15)) 76 := h_
 clear h_
 replace k_t4 := k_t4.p hO nq_t4_t13
 replace k_t5 := k_t5.p hO nq_t5_t13
 replace k_t7 := k_t7.p hO nq_t7_t13
 replace k_t8 := k_t8.p hO nq_t8_t13
 replace k_t10 := k_t10.p hO nq_t10_t13
 replace k_t11 := k_t11.p hO nq_t11_t13
 replace off0 := off0.p hO fb_t13
 clear hO
 refine LN ?_
 go_upto_region 8 with fail
 refine Rx1 7 14 (z := arrK .i64 16 (l16 0)) (t := 76) ?_
 refine XlA ?_ k_t5
 refine XlA ?_ k_t11
 refine Xf ?_ (fun W hW => c_N16 W)
 refine XlA ?_ k_t7
 refine XlA ?_ k_t8
 refine Xf ?_ (fun W hW => c_N17 W)
 refine Xf ?_ (fun W hW => c_N18 W)
 refine XN ?_
 intro p14_22 W22 n_t14 hE h_t14
 have hO := off_ext hE
 have nq_t4_t14 := bn k_t4 n_t14
 have nq_t10_t14 := bn k_t10 n_t14
 have nq_t11_t14 := bn k_t11 n_t14
 have nq_t13_t14 := bn k_t13 n_t14
 have fb_t14 := fbn off0 n_t14
 replace k_t4 := k_t4.o hO
 replace k_t10 := k_t10.o hO
 replace k_t11 := k_t11.o hO
 replace k_t13 := k_t13.o hO
 replace off0 := off0.o hO
 clear hO hE n_t14
 have k_t14 : Blk W22 p14_22 (arrK .i64 16 (l16 0)) 76 := h_t14
 clear h_t14
 refine LpA ?_ k_t14 (k := .i64) (n := 16) (f := l16 N18)
 intro W23 hO h_
 replace k_t14 : Blk W23 p14_22 (arrK .i64 16 (l16 N18)) 76 := h_
 clear h_
 replace k_t4 := k_t4.p hO nq_t4_t14
 replace k_t10 := k_t10.p hO nq_t10_t14
 replace k_t11 := k_t11.p hO nq_t11_t14
 replace k_t13 := k_t13.p hO nq_t13_t14
 replace off0 := off0.p hO fb_t14
 clear hO
 refine LN ?_
 go_upto_region 9 with fail
 refine Rx 6 ?_
 refine XlA ?_ k_t13
 refine XlA ?_ k_t14
 refine XlA ?_ k_t10
 refine XlA ?_ k_t11
 refine Xf ?_ (fun W hW => c_N19 W)
 refine Xw ?_ (v := .agg (p3 N15 N18 N19)) (hv := fun _ _ => by kernel_rfl)
 refine wpX_nil fun W24 hE => ?_
 have hO := off_ext hE
 replace k_t4 := k_t4.o hO
 replace off0 := off0.o hO
 clear hO hE
 refine Lp ?_ k_t4 (cells := p3 N15 N18 N19) (hi := by rw [p3_size]; kernel_rfl) (hs := by first | rw [p3_size, p3_size] | rw [p3_size] | kernel_rfl) (h1 := by exact p3_one)
 intro W25 hO h_
 replace k_t4 : Blk W25 p4_3 (p3 N15 N18 N19) 78 := h_
 clear h_
 replace off0 := off0.p hO fb_t4
 clear hO
 refine LN ?_
 go_wp2
 exact bodyPost_ret (res_row rfl rfl k_t4 (by kernel_rfl) (by rw [p3_size]; kernel_rfl)) rfl ⟨rfl, off0.ext⟩
theorem rEight_c {X1 Y1 Z1 : Nat} {p1 : Pr} (h1 : RD X1 Y1 Z1 p1) :
  ∃ X Y Z, RD X Y Z (pm p1 8) ∧ ∀ w, Calls Tryd.prog 68 #[.agg (p3 X1 Y1 Z1)] w fun e w' => Ret (.agg (p3 X Y Z)) w w' e := by
 obtain ⟨x1, y2, z3, r4, c5⟩ := rPAdd_c h1 h1
 obtain ⟨x6, y7, z8, r9, c10⟩ := rPAdd_c r4 r4
 obtain ⟨x11, y12, z13, r14, c15⟩ := rPAdd_c r9 r9
 refine ⟨x11, y12, z13, pm8 h1.on ▸ r14, fun w => ?_⟩
 have off0 : Off [] w w := Off.refl _ _
 go_enter Tryd.func68, Tryd.ntmps68
 go_upto_region 0 with fail
 refine wp_region_lit ?_
 refine Ln ?_ (z := p3 X1 Y1 Z1) (t := 78)
 intro p1_1 W1 n_t1 hO h_
 have fb_t1 := fbn off0 n_t1
 replace off0 := off0.o hO
 have k_t1 := h_
 clear hO h_ n_t1
 refine Ln ?_ (z := p3 0 0 0) (t := 78)
 intro p2_2 W2 n_t2 hO h_
 have nq_t1_t2 := bn k_t1 n_t2
 have fb_t2 := fbn off0 n_t2
 replace k_t1 := k_t1.o hO
 replace off0 := off0.o hO
 have k_t2 := h_
 clear hO h_ n_t2
 refine wpL_nil ?_
 go_wp2_with fail
 refine wp_loop_rounds 5 ?_
 rw [rounds_succ]
 go_upto_region 4 with fail
 refine wp_region_lit ?_
 refine L0 ?_ k_t1 (hi := by rw [p3_size]; kernel_rfl)
 refine L0 ?_ k_t1 (hi := by rw [p3_size]; kernel_rfl)
 refine Lr ?_ (c5 W2)
 intro W3 hO
 replace k_t1 := k_t1.o hO
 replace k_t2 := k_t2.o hO
 replace off0 := off0.o hO
 clear hO
 refine Lp ?_ k_t1 (cells := p3 x1 y2 z3) (hi := by rw [p3_size]; kernel_rfl) (hs := by first | rw [p3_size, p3_size] | rw [p3_size] | kernel_rfl) (h1 := by exact p3_one)
 intro W4 hO h_
 replace k_t1 : Blk W4 p1_1 (p3 x1 y2 z3) 78 := h_
 clear h_
 replace k_t2 := k_t2.p hO nq_t1_t2.symm
 replace off0 := off0.p hO fb_t1
 clear hO
 refine wpL_nil ?_
 go_wp2_with fail
 rw [rounds_succ]
 go_upto_region 4 with fail
 refine wp_region_lit ?_
 refine L0 ?_ k_t1 (hi := by rw [p3_size]; kernel_rfl)
 refine L0 ?_ k_t1 (hi := by rw [p3_size]; kernel_rfl)
 refine Lr ?_ (c10 W4)
 intro W5 hO
 replace k_t1 := k_t1.o hO
 replace k_t2 := k_t2.o hO
 replace off0 := off0.o hO
 clear hO
 refine Lp ?_ k_t1 (cells := p3 x6 y7 z8) (hi := by rw [p3_size]; kernel_rfl) (hs := by first | rw [p3_size, p3_size] | rw [p3_size] | kernel_rfl) (h1 := by exact p3_one)
 intro W6 hO h_
 replace k_t1 : Blk W6 p1_1 (p3 x6 y7 z8) 78 := h_
 clear h_
 replace k_t2 := k_t2.p hO nq_t1_t2.symm
 replace off0 := off0.p hO fb_t1
 clear hO
 refine wpL_nil ?_
 go_wp2_with fail
 rw [rounds_succ]
 go_upto_region 4 with fail
 refine wp_region_lit ?_
 refine L0 ?_ k_t1 (hi := by rw [p3_size]; kernel_rfl)
 refine L0 ?_ k_t1 (hi := by rw [p3_size]; kernel_rfl)
 refine Lr ?_ (c15 W6)
 intro W7 hO
 replace k_t1 := k_t1.o hO
 replace k_t2 := k_t2.o hO
 replace off0 := off0.o hO
 clear hO
 refine Lp ?_ k_t1 (cells := p3 x11 y12 z13) (hi := by rw [p3_size]; kernel_rfl) (hs := by first | rw [p3_size, p3_size] | rw [p3_size] | kernel_rfl) (h1 := by exact p3_one)
 intro W8 hO h_
 replace k_t1 : Blk W8 p1_1 (p3 x11 y12 z13) 78 := h_
 clear h_
 replace k_t2 := k_t2.p hO nq_t1_t2.symm
 replace off0 := off0.p hO fb_t1
 clear hO
 refine wpL_nil ?_
 go_wp2_with fail
 rw [rounds_succ]
 go_upto_region 5 with fail
 refine wp_region_lit ?_
 refine L0 ?_ k_t1 (hi := by rw [p3_size]; kernel_rfl)
 refine Lp ?_ k_t2 (cells := p3 x11 y12 z13) (hi := by rw [p3_size]; kernel_rfl) (hs := by first | rw [p3_size, p3_size] | rw [p3_size] | kernel_rfl) (h1 := by exact p3_one)
 intro W9 hO h_
 replace k_t2 : Blk W9 p2_2 (p3 x11 y12 z13) 78 := h_
 clear h_
 replace off0 := off0.p hO fb_t2
 clear hO
 refine wpL_nil ?_
 go_wp2
 exact bodyPost_ret (res_row rfl rfl k_t2 (by kernel_rfl) (by rw [p3_size]; kernel_rfl)) rfl ⟨rfl, off0.ext⟩
theorem rSame_c {X1 Y1 Z1 : Nat} {p1 : Pr} {X2 Y2 Z2 : Nat} {p2 : Pr} (h1 : RD X1 Y1 Z1 p1) (h2 : RD X2 Y2 Z2 p2) :
  ∀ w, Calls Tryd.prog 67 #[.agg (p3 X1 Y1 Z1), .agg (p3 X2 Y2 Z2)] w fun e w' => Ret (.bool (decide (p1 = p2))) w w' e := by
 have c_N1 := rMul_c X1 Z2 (lt_pp h1.x) (lt_pp h2.z)
 obtain ⟨N1, hN1⟩ := exn (X1 * Z2 % PP)
 rw [← hN1] at c_N1
 have lN1 := bpp hN1
 have bN1 := lt_pp lN1
 have HN1 := Lib.hid hN1
 clear hN1
 have c_N2 := rMul_c X2 Z1 (lt_pp h2.x) (lt_pp h1.z)
 obtain ⟨N2, hN2⟩ := exn (X2 * Z1 % PP)
 rw [← hN2] at c_N2
 have lN2 := bpp hN2
 have bN2 := lt_pp lN2
 have HN2 := Lib.hid hN2
 clear hN2
 have e_N1_N2 := eq16 N1 N2 bN1 bN2
 have c_N3 := rMul_c Y1 Z2 (lt_pp h1.y) (lt_pp h2.z)
 obtain ⟨N3, hN3⟩ := exn (Y1 * Z2 % PP)
 rw [← hN3] at c_N3
 have lN3 := bpp hN3
 have bN3 := lt_pp lN3
 have HN3 := Lib.hid hN3
 clear hN3
 have c_N4 := rMul_c Y2 Z1 (lt_pp h2.y) (lt_pp h1.z)
 obtain ⟨N4, hN4⟩ := exn (Y2 * Z1 % PP)
 rw [← hN4] at c_N4
 have lN4 := bpp hN4
 have bN4 := lt_pp lN4
 have HN4 := Lib.hid hN4
 clear hN4
 have e_N3_N4 := eq16 N3 N4 bN3 bN4
 intro w
 have off0 : Off [] w w := Off.refl _ _
 go_enter Tryd.func67, Tryd.ntmps67
 go_upto_region 0 with fail
 refine wp_region_lit ?_
 refine Ln ?_ (z := p3 X1 Y1 Z1) (t := 78)
 intro p2_1 W1 n_t2 hO h_
 replace off0 := off0.o hO
 have k_t2 := h_
 clear hO h_ n_t2
 refine Ln ?_ (z := p3 X2 Y2 Z2) (t := 78)
 intro p3_2 W2 n_t3 hO h_
 replace k_t2 := k_t2.o hO
 replace off0 := off0.o hO
 have k_t3 := h_
 clear hO h_ n_t3
 refine Lw ?_ (v := .bool false)
 refine wpL_nil ?_
 by_cases hx : N1 = N2
 ·
  have _f := hx
  by_cases hy : N3 = N4
  ·
   have _f := hy
   clear _f
   go_upto_region 1 with fail
   refine Rx 25 ?_
   refine Xv ?_
   refine Xls ?_ (sub := arrK .i64 16 (l16 X1)) (j := 0) k_t2 p3c0
   refine Xv ?_
   refine Xls ?_ (sub := arrK .i64 16 (l16 Z2)) (j := 32) k_t3 p3c2
   refine Xf ?_ (fun W hW => c_N1 W)
   refine Xv ?_
   refine Xls ?_ (sub := arrK .i64 16 (l16 X2)) (j := 0) k_t3 p3c0
   refine Xv ?_
   refine Xls ?_ (sub := arrK .i64 16 (l16 Z1)) (j := 32) k_t2 p3c2
   refine Xf ?_ (fun W hW => c_N2 W)
   rw [decide_eq_true hx] at e_N1_N2
   refine wpX_eqlA (e_N1_N2) (by kernel_rfl) (by rfl) rfl rfl rfl ?_
   (try simp only [Act.put, mA, mB, mC])
   refine Xv ?_
   refine Xv ?_
   refine Xls ?_ (sub := arrK .i64 16 (l16 Y1)) (j := 16) k_t2 p3c1
   refine Xv ?_
   refine Xls ?_ (sub := arrK .i64 16 (l16 Z2)) (j := 32) k_t3 p3c2
   refine Xf ?_ (fun W hW => c_N3 W)
   refine Xv ?_
   refine Xls ?_ (sub := arrK .i64 16 (l16 Y2)) (j := 16) k_t3 p3c1
   refine Xv ?_
   refine Xls ?_ (sub := arrK .i64 16 (l16 Z1)) (j := 32) k_t2 p3c2
   refine Xf ?_ (fun W hW => c_N4 W)
   rw [decide_eq_true hy] at e_N3_N4
   refine wpX_eqlA (e_N3_N4) (by kernel_rfl) (by rfl) rfl rfl rfl ?_
   (try simp only [Act.put, mA, mB, mC])
   refine Xv ?_
   refine Xv ?_
   refine wpX_nil fun W3 hE => ?_
   have hO := off_ext hE
   replace k_t2 := k_t2.o hO
   replace k_t3 := k_t3.o hO
   replace off0 := off0.o hO
   clear hO hE
   refine LN ?_
   go_wp2
   rw [same_t h1 h2 HN1.out HN2.out HN3.out HN4.out hx hy]
   exact bodyPost_ret (v := .bool true) (by simp only [results, Tryd.results67]; go_simp) rfl ⟨rfl, off0.ext⟩
  ·
   have _f := hy
   clear _f
   go_upto_region 1 with fail
   refine Rx 25 ?_
   refine Xv ?_
   refine Xls ?_ (sub := arrK .i64 16 (l16 X1)) (j := 0) k_t2 p3c0
   refine Xv ?_
   refine Xls ?_ (sub := arrK .i64 16 (l16 Z2)) (j := 32) k_t3 p3c2
   refine Xf ?_ (fun W hW => c_N1 W)
   refine Xv ?_
   refine Xls ?_ (sub := arrK .i64 16 (l16 X2)) (j := 0) k_t3 p3c0
   refine Xv ?_
   refine Xls ?_ (sub := arrK .i64 16 (l16 Z1)) (j := 32) k_t2 p3c2
   refine Xf ?_ (fun W hW => c_N2 W)
   rw [decide_eq_true hx] at e_N1_N2
   refine wpX_eqlA (e_N1_N2) (by kernel_rfl) (by rfl) rfl rfl rfl ?_
   (try simp only [Act.put, mA, mB, mC])
   refine Xv ?_
   refine Xv ?_
   refine Xls ?_ (sub := arrK .i64 16 (l16 Y1)) (j := 16) k_t2 p3c1
   refine Xv ?_
   refine Xls ?_ (sub := arrK .i64 16 (l16 Z2)) (j := 32) k_t3 p3c2
   refine Xf ?_ (fun W hW => c_N3 W)
   refine Xv ?_
   refine Xls ?_ (sub := arrK .i64 16 (l16 Y2)) (j := 16) k_t3 p3c1
   refine Xv ?_
   refine Xls ?_ (sub := arrK .i64 16 (l16 Z1)) (j := 32) k_t2 p3c2
   refine Xf ?_ (fun W hW => c_N4 W)
   rw [decide_eq_false hy] at e_N3_N4
   refine wpX_eqlA (e_N3_N4) (by kernel_rfl) (by rfl) rfl rfl rfl ?_
   (try simp only [Act.put, mA, mB, mC])
   refine Xv ?_
   refine Xv ?_
   refine wpX_nil fun W3 hE => ?_
   have hO := off_ext hE
   replace k_t2 := k_t2.o hO
   replace k_t3 := k_t3.o hO
   replace off0 := off0.o hO
   clear hO hE
   refine LN ?_
   go_wp2
   rw [same_f2 h1 h2 HN1.out HN2.out HN3.out HN4.out hy]
   exact bodyPost_ret (v := .bool false) (by simp only [results, Tryd.results67]; go_simp) rfl ⟨rfl, off0.ext⟩
 ·
  have _f := hx
  clear _f
  go_upto_region 1 with fail
  refine Rx 25 ?_
  refine Xv ?_
  refine Xls ?_ (sub := arrK .i64 16 (l16 X1)) (j := 0) k_t2 p3c0
  refine Xv ?_
  refine Xls ?_ (sub := arrK .i64 16 (l16 Z2)) (j := 32) k_t3 p3c2
  refine Xf ?_ (fun W hW => c_N1 W)
  refine Xv ?_
  refine Xls ?_ (sub := arrK .i64 16 (l16 X2)) (j := 0) k_t3 p3c0
  refine Xv ?_
  refine Xls ?_ (sub := arrK .i64 16 (l16 Z1)) (j := 32) k_t2 p3c2
  refine Xf ?_ (fun W hW => c_N2 W)
  rw [decide_eq_false hx] at e_N1_N2
  refine wpX_eqlA (e_N1_N2) (by kernel_rfl) (by rfl) rfl rfl rfl ?_
  (try simp only [Act.put, mA, mB, mC])
  refine Xv ?_
  refine Xs ?_
  refine Xs ?_
  refine Xs ?_
  refine Xs ?_
  refine Xs ?_
  refine Xs ?_
  refine Xs ?_
  refine Xs ?_
  refine Xs ?_
  refine Xs ?_
  refine Xs ?_
  refine Xv ?_
  refine Xv ?_
  refine wpX_nil fun W3 hE => ?_
  have hO := off_ext hE
  replace off0 := off0.o hO
  clear hO hE
  refine LN ?_
  go_wp2
  rw [same_f1 h1 h2 HN1.out HN2.out HN3.out HN4.out hx]
  exact bodyPost_ret (v := .bool false) (by simp only [results, Tryd.results67]; go_simp) rfl ⟨rfl, off0.ext⟩
end Go.Proofs.YtefpoollmbmkfaaDoor
