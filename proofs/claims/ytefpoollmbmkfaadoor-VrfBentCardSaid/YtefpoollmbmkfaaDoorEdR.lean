/- The document's points: D, Base, Zero, Neg, Add, Eight, Same. No conditions. -/
import Derived.Test.YtefpoollmbmkfaaDoorGc
import Derived.Test.YtefpoollmbmkfaaDoorEdD
set_option linter.unusedSimpArgs false
set_option linter.unusedVariables false
namespace Go.Proofs.YtefpoollmbmkfaaDoor
set_option maxHeartbeats 1500000
set_option maxRecDepth 100000
open Go.RowKit
attribute [local irreducible] wpList
theorem Z1h (w : World) :
  Calls Tryd.prog 101 #[] w fun e w' => Ret (A16 DD) w w' e := by
 have off0 : Off [] w w := Off.refl _ _
 go_enter Tryd.func101, Tryd.ntmps101
 go_upto_region 0 with fail
 refine wp_region_lit ?_
 refine Ln ?_ (z := J1 .i64 16 (Q2 0)) (t := 76)
 intro Q89 W1 Q1k hO h_
 have Q1l := fbn off0 Q1k
 replace off0 := off0.o hO
 have k_t0 := h_
 clear hO h_ Q1k
 refine J0 ?_
 go_upto_region 1 with fail
 refine wp_region_lit ?_
 refine Lw ?_ (v := .agg (J1 .i64 16 (Q2 DD))) (hv := by kernel_rfl)
 refine LpA ?_ k_t0 (k := .i64) (n := 16) (f := Q2 DD)
 intro W2 hO h_
 replace k_t0 : Blk W2 Q89 (J1 .i64 16 (Q2 DD)) 76 := h_
 clear h_
 replace off0 := off0.p hO Q1l
 clear hO
 refine J0 ?_
 go_wp2
 exact bodyPost_ret (K6 rfl rfl k_t0 (by kernel_rfl) (by rw [Q1]; kernel_rfl)) rfl ⟨rfl, off0.ext⟩
theorem Y3r (w : World) :
  Calls Tryd.prog 47 #[] w fun e w' => Ret (.agg (p3 BX BY 1)) w w' e := by
 have off0 : Off [] w w := Off.refl _ _
 go_enter Tryd.func47, Tryd.ntmps47
 go_upto_region 0 with fail
 refine wp_region_lit ?_
 refine Ln ?_ (z := p3 0 0 0) (t := 78)
 intro Q89 W1 Q1k hO h_
 have Q1l := fbn off0 Q1k
 replace off0 := off0.o hO
 have k_t0 := h_
 clear hO h_ Q1k
 refine J0 ?_
 go_upto_region 1 with fail
 refine wp_region_lit ?_
 refine Lw ?_ (v := .agg (J1 .i64 16 (Q2 BX))) (hv := by kernel_rfl)
 refine Lw ?_ (v := .agg (J1 .i64 16 (Q2 BY))) (hv := by kernel_rfl)
 refine Lw ?_ (v := .agg (J1 .i64 16 (Q2 1))) (hv := by kernel_rfl)
 refine Lw ?_ (v := .agg (p3 BX BY 1)) (hv := by kernel_rfl)
 refine Lp ?_ k_t0 (cells := p3 BX BY 1) (hi := by rw [J3]; kernel_rfl) (hs := by first | rw [J3, J3] | rw [J3] | kernel_rfl) (h1 := by exact J0h)
 intro W2 hO h_
 replace k_t0 : Blk W2 Q89 (p3 BX BY 1) 78 := h_
 clear h_
 replace off0 := off0.p hO Q1l
 clear hO
 refine J0 ?_
 go_wp2
 exact bodyPost_ret (K6 rfl rfl k_t0 (by kernel_rfl) (by rw [J3]; kernel_rfl)) rfl ⟨rfl, off0.ext⟩
theorem J6p (w : World) :
  Calls Tryd.prog 69 #[] w fun e w' => Ret (.agg (p3 0 1 1)) w w' e := by
 have off0 : Off [] w w := Off.refl _ _
 go_enter Tryd.func69, Tryd.ntmps69
 go_upto_region 0 with fail
 refine wp_region_lit ?_
 refine Ln ?_ (z := p3 0 0 0) (t := 78)
 intro Q89 W1 Q1k hO h_
 have Q1l := fbn off0 Q1k
 replace off0 := off0.o hO
 have k_t0 := h_
 clear hO h_ Q1k
 refine J0 ?_
 go_upto_region 1 with fail
 refine wp_region_lit ?_
 refine Lw ?_ (v := .agg (J1 .i64 16 (Q2 1))) (hv := by kernel_rfl)
 refine Lw ?_ (v := .agg (J1 .i64 16 (Q2 1))) (hv := by kernel_rfl)
 refine Lw ?_ (v := .agg (p3 0 1 1)) (hv := by kernel_rfl)
 refine Lp ?_ k_t0 (cells := p3 0 1 1) (hi := by rw [J3]; kernel_rfl) (hs := by first | rw [J3, J3] | rw [J3] | kernel_rfl) (h1 := by exact J0h)
 intro W2 hO h_
 replace k_t0 : Blk W2 Q89 (p3 0 1 1) 78 := h_
 clear h_
 replace off0 := off0.p hO Q1l
 clear hO
 refine J0 ?_
 go_wp2
 exact bodyPost_ret (K6 rfl rfl k_t0 (by kernel_rfl) (by rw [J3]; kernel_rfl)) rfl ⟨rfl, off0.ext⟩
theorem Y3s : RD BX BY 1 BP := Z8m (by decide) (by decide) Q0w
theorem J6q : RD 0 1 1 p0 := rn_p0.rr
theorem Z3p {X1 Y1 Z1 : Nat} {p1 : Pr} (h1 : RD X1 Y1 Z1 p1) :
  ∃ X Y Z, RD X Y Z (J4c p1) ∧ ∀ w, Calls Tryd.prog 59 #[.agg (p3 X1 Y1 Z1)] w fun e w' => Ret (.agg (p3 X Y Z)) w w' e := by
 have c_N1 := Q4y X1 (Nat.le_of_lt h1.x)
 obtain ⟨N1, hN1⟩ := V2 ((PP - X1) % PP)
 rw [← hN1] at c_N1
 have lN1 := bpp hN1
 have bN1 := Q9 lN1
 have HN1 := Lib.hid hN1
 clear hN1
 refine ⟨N1, Y1, Z1, Y8d h1 HN1.out, fun w => ?_⟩
 have off0 : Off [] w w := Off.refl _ _
 go_enter Tryd.func59, Tryd.ntmps59
 go_upto_region 0 with fail
 refine wp_region_lit ?_
 refine Ln ?_ (z := p3 X1 Y1 Z1) (t := 78)
 intro J1a W1 J2n hO h_
 replace off0 := off0.o hO
 have k_t1 := h_
 clear hO h_ J2n
 refine Ln ?_ (z := p3 0 0 0) (t := 78)
 intro J2q W2 U0 hO h_
 have J01 := fbn off0 U0
 replace k_t1 := k_t1.o hO
 replace off0 := off0.o hO
 have k_t2 := h_
 clear hO h_ U0
 refine J0 ?_
 go_upto_region 1 with fail
 refine Rx 8 ?_
 refine Xv ?_
 refine Xls ?_ (sub := J1 .i64 16 (Q2 X1)) (j := 0) k_t1 Q40
 refine Xf ?_ (fun W hW => c_N1 W)
 refine Xv ?_
 refine Xls ?_ (sub := J1 .i64 16 (Q2 Y1)) (j := 16) k_t1 Q6h
 refine Xv ?_
 refine Xls ?_ (sub := J1 .i64 16 (Q2 Z1)) (j := 32) k_t1 Q1v
 refine Xw ?_ (v := .agg (p3 N1 Y1 Z1)) (hv := fun _ _ => by kernel_rfl)
 refine Q3 fun W3 hE => ?_
 have hO := Z6 hE
 replace k_t2 := k_t2.o hO
 replace off0 := off0.o hO
 clear hO hE
 refine Lp ?_ k_t2 (cells := p3 N1 Y1 Z1) (hi := by rw [J3]; kernel_rfl) (hs := by first | rw [J3, J3] | rw [J3] | kernel_rfl) (h1 := by exact J0h)
 intro W4 hO h_
 replace k_t2 : Blk W4 J2q (p3 N1 Y1 Z1) 78 := h_
 clear h_
 replace off0 := off0.p hO J01
 clear hO
 refine LN ?_
 go_wp2
 exact bodyPost_ret (K6 rfl rfl k_t2 (by kernel_rfl) (by rw [J3]; kernel_rfl)) rfl ⟨rfl, off0.ext⟩
theorem J8q {X1 Y1 Z1 : Nat} {p1 : Pr} {X2 Y2 Z2 : Nat} {p2 : Pr} (h1 : RD X1 Y1 Z1 p1) (h2 : RD X2 Y2 Z2 p2) :
  ∃ X Y Z, RD X Y Z (J14 p1 p2) ∧ ∀ w, Calls Tryd.prog 58 #[.agg (p3 X1 Y1 Z1), .agg (p3 X2 Y2 Z2)] w fun e w' => Ret (.agg (p3 X Y Z)) w w' e := by
 have c_N1 := J02 Z1 Z2 (Q9 h1.z) (Q9 h2.z)
 obtain ⟨N1, hN1⟩ := V2 (Z1 * Z2 % PP)
 rw [← hN1] at c_N1
 have lN1 := bpp hN1
 have bN1 := Q9 lN1
 have HN1 := Lib.hid hN1
 clear hN1
 have c_N2 := J02 N1 N1 bN1 bN1
 obtain ⟨N2, hN2⟩ := V2 (N1 * N1 % PP)
 rw [← hN2] at c_N2
 have lN2 := bpp hN2
 have bN2 := Q9 lN2
 have HN2 := Lib.hid hN2
 clear hN2
 have c_N3 := J02 X1 X2 (Q9 h1.x) (Q9 h2.x)
 obtain ⟨N3, hN3⟩ := V2 (X1 * X2 % PP)
 rw [← hN3] at c_N3
 have lN3 := bpp hN3
 have bN3 := Q9 lN3
 have HN3 := Lib.hid hN3
 clear hN3
 have c_N4 := J02 Y1 Y2 (Q9 h1.y) (Q9 h2.y)
 obtain ⟨N4, hN4⟩ := V2 (Y1 * Y2 % PP)
 rw [← hN4] at c_N4
 have lN4 := bpp hN4
 have bN4 := Q9 lN4
 have HN4 := Lib.hid hN4
 clear hN4
 have c_N5 := J02 N3 N4 bN3 bN4
 obtain ⟨N5, hN5⟩ := V2 (N3 * N4 % PP)
 rw [← hN5] at c_N5
 have lN5 := bpp hN5
 have bN5 := Q9 lN5
 have HN5 := Lib.hid hN5
 clear hN5
 have c_N6 := J02 DD N5 Q9q bN5
 obtain ⟨N6, hN6⟩ := V2 (DD * N5 % PP)
 rw [← hN6] at c_N6
 have lN6 := bpp hN6
 have bN6 := Q9 lN6
 have HN6 := Lib.hid hN6
 clear hN6
 have c_N7 := Q88 N2 N6 bN2 (Nat.le_of_lt lN6)
 obtain ⟨N7, hN7⟩ := V2 ((N2 + (PP - N6) % PP) % PP)
 rw [← hN7] at c_N7
 have lN7 := bpp hN7
 have bN7 := Q9 lN7
 have HN7 := Lib.hid hN7
 clear hN7
 have c_N8 := J9l N2 N6 bN2 bN6
 obtain ⟨N8, hN8⟩ := V2 ((N2 + N6) % PP)
 rw [← hN8] at c_N8
 have lN8 := bpp hN8
 have bN8 := Q9 lN8
 have HN8 := Lib.hid hN8
 clear hN8
 have c_N9 := J9l X1 Y1 (Q9 h1.x) (Q9 h1.y)
 obtain ⟨N9, hN9⟩ := V2 ((X1 + Y1) % PP)
 rw [← hN9] at c_N9
 have lN9 := bpp hN9
 have bN9 := Q9 lN9
 have HN9 := Lib.hid hN9
 clear hN9
 have c_N10 := J9l X2 Y2 (Q9 h2.x) (Q9 h2.y)
 obtain ⟨N10, hN10⟩ := V2 ((X2 + Y2) % PP)
 rw [← hN10] at c_N10
 have lN10 := bpp hN10
 have bN10 := Q9 lN10
 have HN10 := Lib.hid hN10
 clear hN10
 have c_N11 := J02 N9 N10 bN9 bN10
 obtain ⟨N11, hN11⟩ := V2 (N9 * N10 % PP)
 rw [← hN11] at c_N11
 have lN11 := bpp hN11
 have bN11 := Q9 lN11
 have HN11 := Lib.hid hN11
 clear hN11
 have c_N12 := J02 N1 N7 bN1 bN7
 obtain ⟨N12, hN12⟩ := V2 (N1 * N7 % PP)
 rw [← hN12] at c_N12
 have lN12 := bpp hN12
 have bN12 := Q9 lN12
 have HN12 := Lib.hid hN12
 clear hN12
 have c_N13 := J9l N3 N4 bN3 bN4
 obtain ⟨N13, hN13⟩ := V2 ((N3 + N4) % PP)
 rw [← hN13] at c_N13
 have lN13 := bpp hN13
 have bN13 := Q9 lN13
 have HN13 := Lib.hid hN13
 clear hN13
 have c_N14 := Q88 N11 N13 bN11 (Nat.le_of_lt lN13)
 obtain ⟨N14, hN14⟩ := V2 ((N11 + (PP - N13) % PP) % PP)
 rw [← hN14] at c_N14
 have lN14 := bpp hN14
 have bN14 := Q9 lN14
 have HN14 := Lib.hid hN14
 clear hN14
 have c_N15 := J02 N12 N14 bN12 bN14
 obtain ⟨N15, hN15⟩ := V2 (N12 * N14 % PP)
 rw [← hN15] at c_N15
 have lN15 := bpp hN15
 have bN15 := Q9 lN15
 have HN15 := Lib.hid hN15
 clear hN15
 have c_N16 := J02 N1 N8 bN1 bN8
 obtain ⟨N16, hN16⟩ := V2 (N1 * N8 % PP)
 rw [← hN16] at c_N16
 have lN16 := bpp hN16
 have bN16 := Q9 lN16
 have HN16 := Lib.hid hN16
 clear hN16
 have c_N17 := J9l N3 N4 bN3 bN4
 obtain ⟨N17, hN17⟩ := V2 ((N3 + N4) % PP)
 rw [← hN17] at c_N17
 have lN17 := bpp hN17
 have bN17 := Q9 lN17
 have HN17 := Lib.hid hN17
 clear hN17
 have c_N18 := J02 N16 N17 bN16 bN17
 obtain ⟨N18, hN18⟩ := V2 (N16 * N17 % PP)
 rw [← hN18] at c_N18
 have lN18 := bpp hN18
 have bN18 := Q9 lN18
 have HN18 := Lib.hid hN18
 clear hN18
 have c_N19 := J02 N7 N8 bN7 bN8
 obtain ⟨N19, hN19⟩ := V2 (N7 * N8 % PP)
 rw [← hN19] at c_N19
 have lN19 := bpp hN19
 have bN19 := Q9 lN19
 have HN19 := Lib.hid hN19
 clear hN19
 refine ⟨N15, N18, N19, Y8e h1 h2 HN1.out HN2.out HN3.out HN4.out HN5.out HN6.out HN7.out HN8.out HN9.out HN10.out HN11.out HN12.out HN13.out HN14.out HN15.out HN16.out (HN18.out.trans (by rw [HN17.out, ← HN13.out])) HN19.out, fun w => ?_⟩
 have off0 : Off [] w w := Off.refl _ _
 go_enter Tryd.func58, Tryd.ntmps58
 go_upto_region 0 with fail
 refine wp_region_lit ?_
 refine Ln ?_ (z := p3 X1 Y1 Z1) (t := 78)
 intro J0c W1 U0 hO h_
 replace off0 := off0.o hO
 have k_t2 := h_
 clear hO h_ U0
 refine Ln ?_ (z := p3 X2 Y2 Z2) (t := 78)
 intro J6g W2 J13 hO h_
 replace k_t2 := k_t2.o hO
 replace off0 := off0.o hO
 have k_t3 := h_
 clear hO h_ J13
 refine Ln ?_ (z := p3 0 0 0) (t := 78)
 intro Q52 W3 J10 hO h_
 have J2d := fbn off0 J10
 replace k_t2 := k_t2.o hO
 replace k_t3 := k_t3.o hO
 replace off0 := off0.o hO
 have k_t4 := h_
 clear hO h_ J10
 refine J0 ?_
 go_upto_region 1 with fail
 refine wp_region_lit ?_
 refine Lv ?_
 refine J05 (vs := (J1 .i64 16 (Q2 Z1)).toList) (by rfl) rfl rfl k_t2 (J3z Q1v) (by kernel_rfl) (by kernel_rfl) ?_
 (try simp only [Act.put, mA, mB, mC])
 refine Lv ?_
 refine J05 (vs := (J1 .i64 16 (Q2 Z2)).toList) (by rfl) rfl rfl k_t3 (J3z Q1v) (by kernel_rfl) (by kernel_rfl) ?_
 (try simp only [Act.put, mA, mB, mC])
 refine Lr ?_ (c_N1 W3)
 intro W4 hO
 replace k_t2 := k_t2.o hO
 replace k_t3 := k_t3.o hO
 replace k_t4 := k_t4.o hO
 replace off0 := off0.o hO
 clear hO
 refine LnA ?_ (z := J1 .i64 16 (Q2 0)) (t := 76) (k := .i64) (n := 16) (f := Q2 N1)
 intro Q1u W6 J0p hO h_
 replace k_t2 := k_t2.o hO
 replace k_t3 := k_t3.o hO
 replace k_t4 := k_t4.o hO
 replace off0 := off0.o hO
 have k_t5 := h_
 clear hO h_ J0p
 refine J0 ?_
 go_upto_region 2 with fail
 refine wp_region_lit ?_
 refine L0A ?_ k_t5
 refine L0A ?_ k_t5
 refine Lr ?_ (c_N2 W6)
 intro W7 hO
 replace k_t2 := k_t2.o hO
 replace k_t3 := k_t3.o hO
 replace k_t4 := k_t4.o hO
 replace k_t5 := k_t5.o hO
 replace off0 := off0.o hO
 clear hO
 refine LnA ?_ (z := J1 .i64 16 (Q2 0)) (t := 76) (k := .i64) (n := 16) (f := Q2 N2)
 intro Y3t W9 J1c hO h_
 replace k_t2 := k_t2.o hO
 replace k_t3 := k_t3.o hO
 replace k_t4 := k_t4.o hO
 replace k_t5 := k_t5.o hO
 replace off0 := off0.o hO
 have k_t6 := h_
 clear hO h_ J1c
 refine J0 ?_
 go_upto_region 3 with fail
 refine J06 10 [⟨10, 7, J1 .i64 16 (Q2 0), 76⟩, ⟨11, 8, J1 .i64 16 (Q2 0), 76⟩] (by kernel_rfl) ?_ (by kernel_rfl) ?_
 ·
  intro x hx
  simp only [List.mem_cons, List.not_mem_nil, or_false] at hx
  rcases hx with rfl | rfl <;> exact ⟨_, rfl, rfl, rfl, fun _ _ => by kernel_rfl⟩
 simp only [List.take_succ_cons, List.take_zero, List.take_nil]
 (try simp only [Act.put, mA, mB, mC])
 refine Xv ?_
 refine Xls ?_ (sub := J1 .i64 16 (Q2 X1)) (j := 0) k_t2 Q40
 refine Xv ?_
 refine Xls ?_ (sub := J1 .i64 16 (Q2 X2)) (j := 0) k_t3 Q40
 refine Xf ?_ (fun W hW => c_N3 W)
 refine Xv ?_
 refine Xls ?_ (sub := J1 .i64 16 (Q2 Y1)) (j := 16) k_t2 Q6h
 refine Xv ?_
 refine Xls ?_ (sub := J1 .i64 16 (Q2 Y2)) (j := 16) k_t3 Q6h
 refine Xf ?_ (fun W hW => c_N4 W)
 refine Q3 ?_
 intro β W10 hE hN hD
 obtain ⟨J03, h_t7⟩ := hN _ (List.mem_cons_self ..)
 obtain ⟨V6, h_t8⟩ := hN _ (List.mem_cons_of_mem _ (List.mem_cons_self ..))
 have nq_t7_t8 := (hD _ (List.mem_cons_of_mem _ (List.mem_cons_self ..)) _ (List.mem_cons_self ..) (by decide)).symm
 clear hN hD
 simp only [J0l, Act.put, mA, mB, mC, List.drop_succ_cons, List.drop_zero, List.drop_nil, List.length_cons, List.length_nil, Nat.add_zero] at J03 h_t7 V6 h_t8 nq_t7_t8 ⊢
 have hO := Z6 hE
 generalize β 10 = Y6k at *
 have nq_t2_t7 := bn k_t2 J03
 have nq_t3_t7 := bn k_t3 J03
 have nq_t4_t7 := bn k_t4 J03
 have J1z := bn k_t5 J03
 have J3d := bn k_t6 J03
 have J55 := fbn off0 J03
 generalize β 11 = Y6l at *
 have nq_t2_t8 := bn k_t2 V6
 have Q54 := bn k_t3 V6
 have nq_t4_t8 := bn k_t4 V6
 have J1d := bn k_t5 V6
 have nq_t6_t8 := bn k_t6 V6
 have J1v := fbn off0 V6
 replace k_t2 := k_t2.o hO
 replace k_t3 := k_t3.o hO
 replace k_t4 := k_t4.o hO
 replace k_t5 := k_t5.o hO
 replace k_t6 := k_t6.o hO
 replace off0 := off0.o hO
 clear hO hE β J03 V6
 have k_t7 : Blk W10 Y6k (J1 .i64 16 (Q2 0)) 76 := h_t7
 clear h_t7
 have k_t8 : Blk W10 Y6l (J1 .i64 16 (Q2 0)) 76 := h_t8
 clear h_t8
 refine LpA ?_ k_t7 (k := .i64) (n := 16) (f := Q2 N3)
 intro W11 hO h_
 replace k_t7 : Blk W11 Y6k (J1 .i64 16 (Q2 N3)) 76 := h_
 clear h_
 replace k_t2 := k_t2.p hO nq_t2_t7
 replace k_t3 := k_t3.p hO nq_t3_t7
 replace k_t4 := k_t4.p hO nq_t4_t7
 replace k_t5 := k_t5.p hO J1z
 replace k_t6 := k_t6.p hO J3d
 replace k_t8 := k_t8.p hO nq_t7_t8.symm
 replace off0 := off0.p hO J55
 clear hO
 refine LpA ?_ k_t8 (k := .i64) (n := 16) (f := Q2 N4)
 intro W12 hO h_
 replace k_t8 : Blk W12 Y6l (J1 .i64 16 (Q2 N4)) 76 := h_
 clear h_
 replace k_t2 := k_t2.p hO nq_t2_t8
 replace k_t3 := k_t3.p hO Q54
 replace k_t4 := k_t4.p hO nq_t4_t8
 replace k_t5 := k_t5.p hO J1d
 replace k_t6 := k_t6.p hO nq_t6_t8
 replace k_t7 := k_t7.p hO nq_t7_t8
 replace off0 := off0.p hO J1v
 clear hO
 refine LN ?_
 go_upto_region 4 with fail
 refine Rx1 5 9 (z := J1 .i64 16 (Q2 0)) (t := 76) ?_
 refine Xf ?_ (fun W hW => Z1h W)
 refine XlA ?_ k_t7
 refine XlA ?_ k_t8
 refine Xf ?_ (fun W hW => c_N5 W)
 refine Xf ?_ (fun W hW => c_N6 W)
 refine XN ?_
 intro Y6m W13 J2o hE h_t9
 have hO := Z6 hE
 have Q5f := bn k_t2 J2o
 have Z8n := bn k_t3 J2o
 have Q57 := bn k_t4 J2o
 have Z8o := bn k_t5 J2o
 have Z8p := bn k_t6 J2o
 have nq_t7_t9 := bn k_t7 J2o
 have Q5g := bn k_t8 J2o
 have Q1n := fbn off0 J2o
 replace k_t2 := k_t2.o hO
 replace k_t3 := k_t3.o hO
 replace k_t4 := k_t4.o hO
 replace k_t5 := k_t5.o hO
 replace k_t6 := k_t6.o hO
 replace k_t7 := k_t7.o hO
 replace k_t8 := k_t8.o hO
 replace off0 := off0.o hO
 clear hO hE J2o
 have k_t9 : Blk W13 Y6m (J1 .i64 16 (Q2 0)) 76 := h_t9
 clear h_t9
 refine LpA ?_ k_t9 (k := .i64) (n := 16) (f := Q2 N6)
 intro W14 hO h_
 replace k_t9 : Blk W14 Y6m (J1 .i64 16 (Q2 N6)) 76 := h_
 clear h_
 replace k_t2 := k_t2.p hO Q5f
 replace k_t3 := k_t3.p hO Z8n
 replace k_t4 := k_t4.p hO Q57
 replace k_t5 := k_t5.p hO Z8o
 replace k_t6 := k_t6.p hO Z8p
 replace k_t7 := k_t7.p hO nq_t7_t9
 replace k_t8 := k_t8.p hO Q5g
 replace off0 := off0.p hO Q1n
 clear hO
 refine LN ?_
 go_upto_region 5 with fail
 refine J06 6 [⟨6, 10, J1 .i64 16 (Q2 0), 76⟩, ⟨7, 11, J1 .i64 16 (Q2 0), 76⟩] (by kernel_rfl) ?_ (by kernel_rfl) ?_
 ·
  intro x hx
  simp only [List.mem_cons, List.not_mem_nil, or_false] at hx
  rcases hx with rfl | rfl <;> exact ⟨_, rfl, rfl, rfl, fun _ _ => by kernel_rfl⟩
 simp only [List.take_succ_cons, List.take_zero, List.take_nil]
 (try simp only [Act.put, mA, mB, mC])
 refine XlA ?_ k_t6
 refine XlA ?_ k_t9
 refine Xf ?_ (fun W hW => c_N7 W)
 refine XlA ?_ k_t6
 refine XlA ?_ k_t9
 refine Xf ?_ (fun W hW => c_N8 W)
 refine Q3 ?_
 intro β W15 hE hN hD
 obtain ⟨J18, h_t10⟩ := hN _ (List.mem_cons_self ..)
 obtain ⟨K1, h_t11⟩ := hN _ (List.mem_cons_of_mem _ (List.mem_cons_self ..))
 have nq_t10_t11 := (hD _ (List.mem_cons_of_mem _ (List.mem_cons_self ..)) _ (List.mem_cons_self ..) (by decide)).symm
 clear hN hD
 simp only [J0l, Act.put, mA, mB, mC, List.drop_succ_cons, List.drop_zero, List.drop_nil, List.length_cons, List.length_nil, Nat.add_zero] at J18 h_t10 K1 h_t11 nq_t10_t11 ⊢
 have hO := Z6 hE
 generalize β 6 = Q58 at *
 have Z5r := bn k_t2 J18
 have J87 := bn k_t3 J18
 have Q2r := bn k_t4 J18
 have Q2u := bn k_t5 J18
 have Z5s := bn k_t7 J18
 have Q2v := bn k_t8 J18
 have J5k := fbn off0 J18
 generalize β 7 = Q59 at *
 have J33 := bn k_t2 K1
 have J88 := bn k_t3 K1
 have J2f := bn k_t4 K1
 have Q2w := bn k_t5 K1
 have J34 := bn k_t7 K1
 have Q2x := bn k_t8 K1
 have J2g := fbn off0 K1
 replace k_t2 := k_t2.o hO
 replace k_t3 := k_t3.o hO
 replace k_t4 := k_t4.o hO
 replace k_t5 := k_t5.o hO
 replace k_t7 := k_t7.o hO
 replace k_t8 := k_t8.o hO
 replace off0 := off0.o hO
 clear hO hE β J18 K1
 have k_t10 : Blk W15 Q58 (J1 .i64 16 (Q2 0)) 76 := h_t10
 clear h_t10
 have k_t11 : Blk W15 Q59 (J1 .i64 16 (Q2 0)) 76 := h_t11
 clear h_t11
 refine LpA ?_ k_t10 (k := .i64) (n := 16) (f := Q2 N7)
 intro W16 hO h_
 replace k_t10 : Blk W16 Q58 (J1 .i64 16 (Q2 N7)) 76 := h_
 clear h_
 replace k_t2 := k_t2.p hO Z5r
 replace k_t3 := k_t3.p hO J87
 replace k_t4 := k_t4.p hO Q2r
 replace k_t5 := k_t5.p hO Q2u
 replace k_t7 := k_t7.p hO Z5s
 replace k_t8 := k_t8.p hO Q2v
 replace k_t11 := k_t11.p hO nq_t10_t11.symm
 replace off0 := off0.p hO J5k
 clear hO
 refine LpA ?_ k_t11 (k := .i64) (n := 16) (f := Q2 N8)
 intro W17 hO h_
 replace k_t11 : Blk W17 Q59 (J1 .i64 16 (Q2 N8)) 76 := h_
 clear h_
 replace k_t2 := k_t2.p hO J33
 replace k_t3 := k_t3.p hO J88
 replace k_t4 := k_t4.p hO J2f
 replace k_t5 := k_t5.p hO Q2w
 replace k_t7 := k_t7.p hO J34
 replace k_t8 := k_t8.p hO Q2x
 replace k_t10 := k_t10.p hO nq_t10_t11
 replace off0 := off0.p hO J2g
 clear hO
 refine LN ?_
 go_upto_region 6 with fail
 refine Rx1 11 12 (z := J1 .i64 16 (Q2 0)) (t := 76) ?_
 refine Xv ?_
 refine Xls ?_ (sub := J1 .i64 16 (Q2 X1)) (j := 0) k_t2 Q40
 refine Xv ?_
 refine Xls ?_ (sub := J1 .i64 16 (Q2 Y1)) (j := 16) k_t2 Q6h
 refine Xf ?_ (fun W hW => c_N9 W)
 refine Xv ?_
 refine Xls ?_ (sub := J1 .i64 16 (Q2 X2)) (j := 0) k_t3 Q40
 refine Xv ?_
 refine Xls ?_ (sub := J1 .i64 16 (Q2 Y2)) (j := 16) k_t3 Q6h
 refine Xf ?_ (fun W hW => c_N10 W)
 refine Xf ?_ (fun W hW => c_N11 W)
 refine XN ?_
 intro Z8q W18 J24 hE h_t12
 have hO := Z6 hE
 have Q2s := bn k_t4 J24
 have Z5t := bn k_t5 J24
 have Z5u := bn k_t7 J24
 have Z5v := bn k_t8 J24
 have nq_t10_t12 := bn k_t10 J24
 have nq_t11_t12 := bn k_t11 J24
 have Z1d := fbn off0 J24
 replace k_t4 := k_t4.o hO
 replace k_t5 := k_t5.o hO
 replace k_t7 := k_t7.o hO
 replace k_t8 := k_t8.o hO
 replace k_t10 := k_t10.o hO
 replace k_t11 := k_t11.o hO
 replace off0 := off0.o hO
 clear hO hE J24
 have k_t12 : Blk W18 Z8q (J1 .i64 16 (Q2 0)) 76 := h_t12
 clear h_t12
 refine LpA ?_ k_t12 (k := .i64) (n := 16) (f := Q2 N11)
 intro W19 hO h_
 replace k_t12 : Blk W19 Z8q (J1 .i64 16 (Q2 N11)) 76 := h_
 clear h_
 replace k_t4 := k_t4.p hO Q2s
 replace k_t5 := k_t5.p hO Z5t
 replace k_t7 := k_t7.p hO Z5u
 replace k_t8 := k_t8.p hO Z5v
 replace k_t10 := k_t10.p hO nq_t10_t12
 replace k_t11 := k_t11.p hO nq_t11_t12
 replace off0 := off0.p hO Z1d
 clear hO
 refine LN ?_
 go_upto_region 7 with fail
 refine Rx1 9 13 (z := J1 .i64 16 (Q2 0)) (t := 76) ?_
 refine XlA ?_ k_t5
 refine XlA ?_ k_t10
 refine Xf ?_ (fun W hW => c_N12 W)
 refine XlA ?_ k_t12
 refine XlA ?_ k_t7
 refine XlA ?_ k_t8
 refine Xf ?_ (fun W hW => c_N13 W)
 refine Xf ?_ (fun W hW => c_N14 W)
 refine Xf ?_ (fun W hW => c_N15 W)
 refine XN ?_
 intro Z8r W20 J2x hE h_t13
 have hO := Z6 hE
 have Z5w := bn k_t4 J2x
 have Q2y := bn k_t5 J2x
 have Z5x := bn k_t7 J2x
 have J89 := bn k_t8 J2x
 have Q16 := bn k_t10 J2x
 have Z1i := bn k_t11 J2x
 have Q5h := fbn off0 J2x
 replace k_t4 := k_t4.o hO
 replace k_t5 := k_t5.o hO
 replace k_t7 := k_t7.o hO
 replace k_t8 := k_t8.o hO
 replace k_t10 := k_t10.o hO
 replace k_t11 := k_t11.o hO
 replace off0 := off0.o hO
 clear hO hE J2x
 have k_t13 : Blk W20 Z8r (J1 .i64 16 (Q2 0)) 76 := h_t13
 clear h_t13
 refine LpA ?_ k_t13 (k := .i64) (n := 16) (f := Q2 N15)
 intro W21 hO h_
 replace k_t13 : Blk W21 Z8r (J1 .i64 16 (Q2 N15)) 76 := h_
 clear h_
 replace k_t4 := k_t4.p hO Z5w
 replace k_t5 := k_t5.p hO Q2y
 replace k_t7 := k_t7.p hO Z5x
 replace k_t8 := k_t8.p hO J89
 replace k_t10 := k_t10.p hO Q16
 replace k_t11 := k_t11.p hO Z1i
 replace off0 := off0.p hO Q5h
 clear hO
 refine LN ?_
 go_upto_region 8 with fail
 refine Rx1 7 14 (z := J1 .i64 16 (Q2 0)) (t := 76) ?_
 refine XlA ?_ k_t5
 refine XlA ?_ k_t11
 refine Xf ?_ (fun W hW => c_N16 W)
 refine XlA ?_ k_t7
 refine XlA ?_ k_t8
 refine Xf ?_ (fun W hW => c_N17 W)
 refine Xf ?_ (fun W hW => c_N18 W)
 refine XN ?_
 intro Z8s W22 J47 hE h_t14
 have hO := Z6 hE
 have Q2z := bn k_t4 J47
 have Q17 := bn k_t10 J47
 have Z1j := bn k_t11 J47
 have nq_t13_t14 := bn k_t13 J47
 have Q5i := fbn off0 J47
 replace k_t4 := k_t4.o hO
 replace k_t10 := k_t10.o hO
 replace k_t11 := k_t11.o hO
 replace k_t13 := k_t13.o hO
 replace off0 := off0.o hO
 clear hO hE J47
 have k_t14 : Blk W22 Z8s (J1 .i64 16 (Q2 0)) 76 := h_t14
 clear h_t14
 refine LpA ?_ k_t14 (k := .i64) (n := 16) (f := Q2 N18)
 intro W23 hO h_
 replace k_t14 : Blk W23 Z8s (J1 .i64 16 (Q2 N18)) 76 := h_
 clear h_
 replace k_t4 := k_t4.p hO Q2z
 replace k_t10 := k_t10.p hO Q17
 replace k_t11 := k_t11.p hO Z1j
 replace k_t13 := k_t13.p hO nq_t13_t14
 replace off0 := off0.p hO Q5i
 clear hO
 refine LN ?_
 go_upto_region 9 with fail
 refine Rx 6 ?_
 refine XlA ?_ k_t13
 refine XlA ?_ k_t14
 refine XlA ?_ k_t10
 refine XlA ?_ k_t11
 refine Xf ?_ (fun W hW => c_N19 W)
 refine Xw ?_ (v := .agg (p3 N15 N18 N19)) (hv := fun _ _ => by kernel_rfl)
 refine Q3 fun W24 hE => ?_
 have hO := Z6 hE
 replace k_t4 := k_t4.o hO
 replace off0 := off0.o hO
 clear hO hE
 refine Lp ?_ k_t4 (cells := p3 N15 N18 N19) (hi := by rw [J3]; kernel_rfl) (hs := by first | rw [J3, J3] | rw [J3] | kernel_rfl) (h1 := by exact J0h)
 intro W25 hO h_
 replace k_t4 : Blk W25 Q52 (p3 N15 N18 N19) 78 := h_
 clear h_
 replace off0 := off0.p hO J2d
 clear hO
 refine LN ?_
 go_wp2
 exact bodyPost_ret (K6 rfl rfl k_t4 (by kernel_rfl) (by rw [J3]; kernel_rfl)) rfl ⟨rfl, off0.ext⟩
theorem J56 {X1 Y1 Z1 : Nat} {p1 : Pr} (h1 : RD X1 Y1 Z1 p1) :
  ∃ X Y Z, RD X Y Z (pm p1 8) ∧ ∀ w, Calls Tryd.prog 68 #[.agg (p3 X1 Y1 Z1)] w fun e w' => Ret (.agg (p3 X Y Z)) w w' e := by
 obtain ⟨x1, y2, z3, r4, c5⟩ := J8q h1 h1
 obtain ⟨x6, y7, z8, r9, c10⟩ := J8q r4 r4
 obtain ⟨x11, y12, z13, r14, c15⟩ := J8q r9 r9
 refine ⟨x11, y12, z13, pm8 h1.on ▸ r14, fun w => ?_⟩
 have off0 : Off [] w w := Off.refl _ _
 go_enter Tryd.func68, Tryd.ntmps68
 go_upto_region 0 with fail
 refine wp_region_lit ?_
 refine Ln ?_ (z := p3 X1 Y1 Z1) (t := 78)
 intro J1a W1 J2n hO h_
 have J82 := fbn off0 J2n
 replace off0 := off0.o hO
 have k_t1 := h_
 clear hO h_ J2n
 refine Ln ?_ (z := p3 0 0 0) (t := 78)
 intro J2q W2 U0 hO h_
 have nq_t1_t2 := bn k_t1 U0
 have J01 := fbn off0 U0
 replace k_t1 := k_t1.o hO
 replace off0 := off0.o hO
 have k_t2 := h_
 clear hO h_ U0
 refine J0 ?_
 go_wp2_with fail
 refine wp_loop_rounds 5 ?_
 rw [rounds_succ]
 go_upto_region 4 with fail
 refine wp_region_lit ?_
 refine L0 ?_ k_t1 (hi := by rw [J3]; kernel_rfl)
 refine L0 ?_ k_t1 (hi := by rw [J3]; kernel_rfl)
 refine Lr ?_ (c5 W2)
 intro W3 hO
 replace k_t1 := k_t1.o hO
 replace k_t2 := k_t2.o hO
 replace off0 := off0.o hO
 clear hO
 refine Lp ?_ k_t1 (cells := p3 x1 y2 z3) (hi := by rw [J3]; kernel_rfl) (hs := by first | rw [J3, J3] | rw [J3] | kernel_rfl) (h1 := by exact J0h)
 intro W4 hO h_
 replace k_t1 : Blk W4 J1a (p3 x1 y2 z3) 78 := h_
 clear h_
 replace k_t2 := k_t2.p hO nq_t1_t2.symm
 replace off0 := off0.p hO J82
 clear hO
 refine J0 ?_
 go_wp2_with fail
 rw [rounds_succ]
 go_upto_region 4 with fail
 refine wp_region_lit ?_
 refine L0 ?_ k_t1 (hi := by rw [J3]; kernel_rfl)
 refine L0 ?_ k_t1 (hi := by rw [J3]; kernel_rfl)
 refine Lr ?_ (c10 W4)
 intro W5 hO
 replace k_t1 := k_t1.o hO
 replace k_t2 := k_t2.o hO
 replace off0 := off0.o hO
 clear hO
 refine Lp ?_ k_t1 (cells := p3 x6 y7 z8) (hi := by rw [J3]; kernel_rfl) (hs := by first | rw [J3, J3] | rw [J3] | kernel_rfl) (h1 := by exact J0h)
 intro W6 hO h_
 replace k_t1 : Blk W6 J1a (p3 x6 y7 z8) 78 := h_
 clear h_
 replace k_t2 := k_t2.p hO nq_t1_t2.symm
 replace off0 := off0.p hO J82
 clear hO
 refine J0 ?_
 go_wp2_with fail
 rw [rounds_succ]
 go_upto_region 4 with fail
 refine wp_region_lit ?_
 refine L0 ?_ k_t1 (hi := by rw [J3]; kernel_rfl)
 refine L0 ?_ k_t1 (hi := by rw [J3]; kernel_rfl)
 refine Lr ?_ (c15 W6)
 intro W7 hO
 replace k_t1 := k_t1.o hO
 replace k_t2 := k_t2.o hO
 replace off0 := off0.o hO
 clear hO
 refine Lp ?_ k_t1 (cells := p3 x11 y12 z13) (hi := by rw [J3]; kernel_rfl) (hs := by first | rw [J3, J3] | rw [J3] | kernel_rfl) (h1 := by exact J0h)
 intro W8 hO h_
 replace k_t1 : Blk W8 J1a (p3 x11 y12 z13) 78 := h_
 clear h_
 replace k_t2 := k_t2.p hO nq_t1_t2.symm
 replace off0 := off0.p hO J82
 clear hO
 refine J0 ?_
 go_wp2_with fail
 rw [rounds_succ]
 go_upto_region 5 with fail
 refine wp_region_lit ?_
 refine L0 ?_ k_t1 (hi := by rw [J3]; kernel_rfl)
 refine Lp ?_ k_t2 (cells := p3 x11 y12 z13) (hi := by rw [J3]; kernel_rfl) (hs := by first | rw [J3, J3] | rw [J3] | kernel_rfl) (h1 := by exact J0h)
 intro W9 hO h_
 replace k_t2 : Blk W9 J2q (p3 x11 y12 z13) 78 := h_
 clear h_
 replace off0 := off0.p hO J01
 clear hO
 refine J0 ?_
 go_wp2
 exact bodyPost_ret (K6 rfl rfl k_t2 (by kernel_rfl) (by rw [J3]; kernel_rfl)) rfl ⟨rfl, off0.ext⟩
theorem J7c {X1 Y1 Z1 : Nat} {p1 : Pr} {X2 Y2 Z2 : Nat} {p2 : Pr} (h1 : RD X1 Y1 Z1 p1) (h2 : RD X2 Y2 Z2 p2) :
  ∀ w, Calls Tryd.prog 67 #[.agg (p3 X1 Y1 Z1), .agg (p3 X2 Y2 Z2)] w fun e w' => Ret (.bool (decide (p1 = p2))) w w' e := by
 have c_N1 := J02 X1 Z2 (Q9 h1.x) (Q9 h2.z)
 obtain ⟨N1, hN1⟩ := V2 (X1 * Z2 % PP)
 rw [← hN1] at c_N1
 have lN1 := bpp hN1
 have bN1 := Q9 lN1
 have HN1 := Lib.hid hN1
 clear hN1
 have c_N2 := J02 X2 Z1 (Q9 h2.x) (Q9 h1.z)
 obtain ⟨N2, hN2⟩ := V2 (X2 * Z1 % PP)
 rw [← hN2] at c_N2
 have lN2 := bpp hN2
 have bN2 := Q9 lN2
 have HN2 := Lib.hid hN2
 clear hN2
 have e_N1_N2 := Q8f N1 N2 bN1 bN2
 have c_N3 := J02 Y1 Z2 (Q9 h1.y) (Q9 h2.z)
 obtain ⟨N3, hN3⟩ := V2 (Y1 * Z2 % PP)
 rw [← hN3] at c_N3
 have lN3 := bpp hN3
 have bN3 := Q9 lN3
 have HN3 := Lib.hid hN3
 clear hN3
 have c_N4 := J02 Y2 Z1 (Q9 h2.y) (Q9 h1.z)
 obtain ⟨N4, hN4⟩ := V2 (Y2 * Z1 % PP)
 rw [← hN4] at c_N4
 have lN4 := bpp hN4
 have bN4 := Q9 lN4
 have HN4 := Lib.hid hN4
 clear hN4
 have e_N3_N4 := Q8f N3 N4 bN3 bN4
 intro w
 have off0 : Off [] w w := Off.refl _ _
 go_enter Tryd.func67, Tryd.ntmps67
 go_upto_region 0 with fail
 refine wp_region_lit ?_
 refine Ln ?_ (z := p3 X1 Y1 Z1) (t := 78)
 intro J0c W1 U0 hO h_
 replace off0 := off0.o hO
 have k_t2 := h_
 clear hO h_ U0
 refine Ln ?_ (z := p3 X2 Y2 Z2) (t := 78)
 intro J6g W2 J13 hO h_
 replace k_t2 := k_t2.o hO
 replace off0 := off0.o hO
 have k_t3 := h_
 clear hO h_ J13
 refine Lw ?_ (v := .bool false)
 refine J0 ?_
 by_cases hx : N1 = N2
 ·
  have _f := hx
  by_cases hy : N3 = N4
  ·
   have _f := hy
   clear _f
   go_upto_region 1 with fail
   refine Rx 25 ?_
   refine Xv ?_
   refine Xls ?_ (sub := J1 .i64 16 (Q2 X1)) (j := 0) k_t2 Q40
   refine Xv ?_
   refine Xls ?_ (sub := J1 .i64 16 (Q2 Z2)) (j := 32) k_t3 Q1v
   refine Xf ?_ (fun W hW => c_N1 W)
   refine Xv ?_
   refine Xls ?_ (sub := J1 .i64 16 (Q2 X2)) (j := 0) k_t3 Q40
   refine Xv ?_
   refine Xls ?_ (sub := J1 .i64 16 (Q2 Z1)) (j := 32) k_t2 Q1v
   refine Xf ?_ (fun W hW => c_N2 W)
   rw [decide_eq_true hx] at e_N1_N2
   refine J3p (e_N1_N2) (by kernel_rfl) (by rfl) rfl rfl rfl ?_
   (try simp only [Act.put, mA, mB, mC])
   refine Xv ?_
   refine Xv ?_
   refine Xls ?_ (sub := J1 .i64 16 (Q2 Y1)) (j := 16) k_t2 Q6h
   refine Xv ?_
   refine Xls ?_ (sub := J1 .i64 16 (Q2 Z2)) (j := 32) k_t3 Q1v
   refine Xf ?_ (fun W hW => c_N3 W)
   refine Xv ?_
   refine Xls ?_ (sub := J1 .i64 16 (Q2 Y2)) (j := 16) k_t3 Q6h
   refine Xv ?_
   refine Xls ?_ (sub := J1 .i64 16 (Q2 Z1)) (j := 32) k_t2 Q1v
   refine Xf ?_ (fun W hW => c_N4 W)
   rw [decide_eq_true hy] at e_N3_N4
   refine J3p (e_N3_N4) (by kernel_rfl) (by rfl) rfl rfl rfl ?_
   (try simp only [Act.put, mA, mB, mC])
   refine Xv ?_
   refine Xv ?_
   refine Q3 fun W3 hE => ?_
   have hO := Z6 hE
   replace k_t2 := k_t2.o hO
   replace k_t3 := k_t3.o hO
   replace off0 := off0.o hO
   clear hO hE
   refine LN ?_
   go_wp2
   rw [Z8e h1 h2 HN1.out HN2.out HN3.out HN4.out hx hy]
   exact bodyPost_ret (v := .bool true) (by simp only [results, Tryd.results67]; go_simp) rfl ⟨rfl, off0.ext⟩
  ·
   have _f := hy
   clear _f
   go_upto_region 1 with fail
   refine Rx 25 ?_
   refine Xv ?_
   refine Xls ?_ (sub := J1 .i64 16 (Q2 X1)) (j := 0) k_t2 Q40
   refine Xv ?_
   refine Xls ?_ (sub := J1 .i64 16 (Q2 Z2)) (j := 32) k_t3 Q1v
   refine Xf ?_ (fun W hW => c_N1 W)
   refine Xv ?_
   refine Xls ?_ (sub := J1 .i64 16 (Q2 X2)) (j := 0) k_t3 Q40
   refine Xv ?_
   refine Xls ?_ (sub := J1 .i64 16 (Q2 Z1)) (j := 32) k_t2 Q1v
   refine Xf ?_ (fun W hW => c_N2 W)
   rw [decide_eq_true hx] at e_N1_N2
   refine J3p (e_N1_N2) (by kernel_rfl) (by rfl) rfl rfl rfl ?_
   (try simp only [Act.put, mA, mB, mC])
   refine Xv ?_
   refine Xv ?_
   refine Xls ?_ (sub := J1 .i64 16 (Q2 Y1)) (j := 16) k_t2 Q6h
   refine Xv ?_
   refine Xls ?_ (sub := J1 .i64 16 (Q2 Z2)) (j := 32) k_t3 Q1v
   refine Xf ?_ (fun W hW => c_N3 W)
   refine Xv ?_
   refine Xls ?_ (sub := J1 .i64 16 (Q2 Y2)) (j := 16) k_t3 Q6h
   refine Xv ?_
   refine Xls ?_ (sub := J1 .i64 16 (Q2 Z1)) (j := 32) k_t2 Q1v
   refine Xf ?_ (fun W hW => c_N4 W)
   rw [decide_eq_false hy] at e_N3_N4
   refine J3p (e_N3_N4) (by kernel_rfl) (by rfl) rfl rfl rfl ?_
   (try simp only [Act.put, mA, mB, mC])
   refine Xv ?_
   refine Xv ?_
   refine Q3 fun W3 hE => ?_
   have hO := Z6 hE
   replace k_t2 := k_t2.o hO
   replace k_t3 := k_t3.o hO
   replace off0 := off0.o hO
   clear hO hE
   refine LN ?_
   go_wp2
   rw [Z3g h1 h2 HN1.out HN2.out HN3.out HN4.out hy]
   exact bodyPost_ret (v := .bool false) (by simp only [results, Tryd.results67]; go_simp) rfl ⟨rfl, off0.ext⟩
 ·
  have _f := hx
  clear _f
  go_upto_region 1 with fail
  refine Rx 25 ?_
  refine Xv ?_
  refine Xls ?_ (sub := J1 .i64 16 (Q2 X1)) (j := 0) k_t2 Q40
  refine Xv ?_
  refine Xls ?_ (sub := J1 .i64 16 (Q2 Z2)) (j := 32) k_t3 Q1v
  refine Xf ?_ (fun W hW => c_N1 W)
  refine Xv ?_
  refine Xls ?_ (sub := J1 .i64 16 (Q2 X2)) (j := 0) k_t3 Q40
  refine Xv ?_
  refine Xls ?_ (sub := J1 .i64 16 (Q2 Z1)) (j := 32) k_t2 Q1v
  refine Xf ?_ (fun W hW => c_N2 W)
  rw [decide_eq_false hx] at e_N1_N2
  refine J3p (e_N1_N2) (by kernel_rfl) (by rfl) rfl rfl rfl ?_
  (try simp only [Act.put, mA, mB, mC])
  refine Xv ?_
  refine Xs ?_
  refine Xs ?_
  refine Xs ?_
  refine Xs ?_
  refine Xs ?_
  refine Xs ?_
  refine Xs ?_
  refine Xs ?_
  refine Xs ?_
  refine Xs ?_
  refine Xs ?_
  refine Xv ?_
  refine Xv ?_
  refine Q3 fun W3 hE => ?_
  have hO := Z6 hE
  replace off0 := off0.o hO
  clear hO hE
  refine LN ?_
  go_wp2
  rw [Z3f h1 h2 HN1.out HN2.out HN3.out HN4.out hx]
  exact bodyPost_ret (v := .bool false) (by simp only [results, Tryd.results67]; go_simp) rfl ⟨rfl, off0.ext⟩
end Go.Proofs.YtefpoollmbmkfaaDoor
