/- The document's points: D, Base, Zero, Neg, Add, Eight, Same. No conditions. -/
import Derived.Test.YtefpoollmbmkfaaDoorGc
import Derived.Test.YtefpoollmbmkfaaDoorEdD
set_option linter.unusedSimpArgs false
set_option linter.unusedVariables false
namespace Go.Proofs.YtefpoollmbmkfaaDoor
set_option maxHeartbeats 1500000
set_option maxRecDepth 100000
open Go.RowKit
attribute [local irreducible] wpList
theorem Z1b (w : World) :
  Calls Tryd.prog 101 #[] w fun e w' => Ret (A16 DD) w w' e := by
 have off0 : Off [] w w := Off.refl _ _
 go_enter Tryd.func101, Tryd.ntmps101
 go_upto_region 0 with fail
 refine wp_region_lit ?_
 refine Ln ?_ (z := J1 .i64 16 (Q2 0)) (t := 76)
 intro Q83 W1 Q1g hO h_
 have Q1h := fbn off0 Q1g
 replace off0 := off0.o hO
 have k_t0 := h_
 clear hO h_ Q1g
 refine J0 ?_
 go_upto_region 1 with fail
 refine wp_region_lit ?_
 refine Lw ?_ (v := .agg (J1 .i64 16 (Q2 DD))) (hv := by kernel_rfl)
 refine LpA ?_ k_t0 (k := .i64) (n := 16) (f := Q2 DD)
 intro W2 hO h_
 replace k_t0 : Blk W2 Q83 (J1 .i64 16 (Q2 DD)) 76 := h_
 clear h_
 replace off0 := off0.p hO Q1h
 clear hO
 refine J0 ?_
 go_wp2
 exact bodyPost_ret (K3 rfl rfl k_t0 (by kernel_rfl) (by rw [Q1]; kernel_rfl)) rfl ⟨rfl, off0.ext⟩
theorem Y3i (w : World) :
  Calls Tryd.prog 47 #[] w fun e w' => Ret (.agg (p3 BX BY 1)) w w' e := by
 have off0 : Off [] w w := Off.refl _ _
 go_enter Tryd.func47, Tryd.ntmps47
 go_upto_region 0 with fail
 refine wp_region_lit ?_
 refine Ln ?_ (z := p3 0 0 0) (t := 78)
 intro Q83 W1 Q1g hO h_
 have Q1h := fbn off0 Q1g
 replace off0 := off0.o hO
 have k_t0 := h_
 clear hO h_ Q1g
 refine J0 ?_
 go_upto_region 1 with fail
 refine wp_region_lit ?_
 refine Lw ?_ (v := .agg (J1 .i64 16 (Q2 BX))) (hv := by kernel_rfl)
 refine Lw ?_ (v := .agg (J1 .i64 16 (Q2 BY))) (hv := by kernel_rfl)
 refine Lw ?_ (v := .agg (J1 .i64 16 (Q2 1))) (hv := by kernel_rfl)
 refine Lw ?_ (v := .agg (p3 BX BY 1)) (hv := by kernel_rfl)
 refine Lp ?_ k_t0 (cells := p3 BX BY 1) (hi := by rw [J3]; kernel_rfl) (hs := by first | rw [J3, J3] | rw [J3] | kernel_rfl) (h1 := by exact J0c)
 intro W2 hO h_
 replace k_t0 : Blk W2 Q83 (p3 BX BY 1) 78 := h_
 clear h_
 replace off0 := off0.p hO Q1h
 clear hO
 refine J0 ?_
 go_wp2
 exact bodyPost_ret (K3 rfl rfl k_t0 (by kernel_rfl) (by rw [J3]; kernel_rfl)) rfl ⟨rfl, off0.ext⟩
theorem J6m (w : World) :
  Calls Tryd.prog 69 #[] w fun e w' => Ret (.agg (p3 0 1 1)) w w' e := by
 have off0 : Off [] w w := Off.refl _ _
 go_enter Tryd.func69, Tryd.ntmps69
 go_upto_region 0 with fail
 refine wp_region_lit ?_
 refine Ln ?_ (z := p3 0 0 0) (t := 78)
 intro Q83 W1 Q1g hO h_
 have Q1h := fbn off0 Q1g
 replace off0 := off0.o hO
 have k_t0 := h_
 clear hO h_ Q1g
 refine J0 ?_
 go_upto_region 1 with fail
 refine wp_region_lit ?_
 refine Lw ?_ (v := .agg (J1 .i64 16 (Q2 1))) (hv := by kernel_rfl)
 refine Lw ?_ (v := .agg (J1 .i64 16 (Q2 1))) (hv := by kernel_rfl)
 refine Lw ?_ (v := .agg (p3 0 1 1)) (hv := by kernel_rfl)
 refine Lp ?_ k_t0 (cells := p3 0 1 1) (hi := by rw [J3]; kernel_rfl) (hs := by first | rw [J3, J3] | rw [J3] | kernel_rfl) (h1 := by exact J0c)
 intro W2 hO h_
 replace k_t0 : Blk W2 Q83 (p3 0 1 1) 78 := h_
 clear h_
 replace off0 := off0.p hO Q1h
 clear hO
 refine J0 ?_
 go_wp2
 exact bodyPost_ret (K3 rfl rfl k_t0 (by kernel_rfl) (by rw [J3]; kernel_rfl)) rfl ⟨rfl, off0.ext⟩
theorem Y3j : RD BX BY 1 BP := Z8a (by decide) (by decide) Q0q
theorem J6n : RD 0 1 1 p0 := rn_p0.rr
theorem Z3i {X1 Y1 Z1 : Nat} {p1 : Pr} (h1 : RD X1 Y1 Z1 p1) :
  ∃ X Y Z, RD X Y Z (J4d p1) ∧ ∀ w, Calls Tryd.prog 59 #[.agg (p3 X1 Y1 Z1)] w fun e w' => Ret (.agg (p3 X Y Z)) w w' e := by
 have c_N1 := Q4t X1 (Nat.le_of_lt h1.x)
 obtain ⟨N1, hN1⟩ := V2 ((PP - X1) % PP)
 rw [← hN1] at c_N1
 have lN1 := bpp hN1
 have bN1 := Q8 lN1
 have HN1 := Lib.hid hN1
 clear hN1
 refine ⟨N1, Y1, Z1, Y87 h1 HN1.out, fun w => ?_⟩
 have off0 : Off [] w w := Off.refl _ _
 go_enter Tryd.func59, Tryd.ntmps59
 go_upto_region 0 with fail
 refine wp_region_lit ?_
 refine Ln ?_ (z := p3 X1 Y1 Z1) (t := 78)
 intro J15 W1 J27 hO h_
 replace off0 := off0.o hO
 have k_t1 := h_
 clear hO h_ J27
 refine Ln ?_ (z := p3 0 0 0) (t := 78)
 intro J29 W2 K7 hO h_
 have K8 := fbn off0 K7
 replace k_t1 := k_t1.o hO
 replace off0 := off0.o hO
 have k_t2 := h_
 clear hO h_ K7
 refine J0 ?_
 go_upto_region 1 with fail
 refine Rx 8 ?_
 refine Xv ?_
 refine Xls ?_ (sub := J1 .i64 16 (Q2 X1)) (j := 0) k_t1 Q3u
 refine Xf ?_ (fun W hW => c_N1 W)
 refine Xv ?_
 refine Xls ?_ (sub := J1 .i64 16 (Q2 Y1)) (j := 16) k_t1 Q6e
 refine Xv ?_
 refine Xls ?_ (sub := J1 .i64 16 (Q2 Z1)) (j := 32) k_t1 Q1q
 refine Xw ?_ (v := .agg (p3 N1 Y1 Z1)) (hv := fun _ _ => by kernel_rfl)
 refine Q3 fun W3 hE => ?_
 have hO := Z6 hE
 replace k_t2 := k_t2.o hO
 replace off0 := off0.o hO
 clear hO hE
 refine Lp ?_ k_t2 (cells := p3 N1 Y1 Z1) (hi := by rw [J3]; kernel_rfl) (hs := by first | rw [J3, J3] | rw [J3] | kernel_rfl) (h1 := by exact J0c)
 intro W4 hO h_
 replace k_t2 : Blk W4 J29 (p3 N1 Y1 Z1) 78 := h_
 clear h_
 replace off0 := off0.p hO K8
 clear hO
 refine LN ?_
 go_wp2
 exact bodyPost_ret (K3 rfl rfl k_t2 (by kernel_rfl) (by rw [J3]; kernel_rfl)) rfl ⟨rfl, off0.ext⟩
theorem J8o {X1 Y1 Z1 : Nat} {p1 : Pr} {X2 Y2 Z2 : Nat} {p2 : Pr} (h1 : RD X1 Y1 Z1 p1) (h2 : RD X2 Y2 Z2 p2) :
  ∃ X Y Z, RD X Y Z (J14 p1 p2) ∧ ∀ w, Calls Tryd.prog 58 #[.agg (p3 X1 Y1 Z1), .agg (p3 X2 Y2 Z2)] w fun e w' => Ret (.agg (p3 X Y Z)) w w' e := by
 have c_N1 := J03 Z1 Z2 (Q8 h1.z) (Q8 h2.z)
 obtain ⟨N1, hN1⟩ := V2 (Z1 * Z2 % PP)
 rw [← hN1] at c_N1
 have lN1 := bpp hN1
 have bN1 := Q8 lN1
 have HN1 := Lib.hid hN1
 clear hN1
 have c_N2 := J03 N1 N1 bN1 bN1
 obtain ⟨N2, hN2⟩ := V2 (N1 * N1 % PP)
 rw [← hN2] at c_N2
 have lN2 := bpp hN2
 have bN2 := Q8 lN2
 have HN2 := Lib.hid hN2
 clear hN2
 have c_N3 := J03 X1 X2 (Q8 h1.x) (Q8 h2.x)
 obtain ⟨N3, hN3⟩ := V2 (X1 * X2 % PP)
 rw [← hN3] at c_N3
 have lN3 := bpp hN3
 have bN3 := Q8 lN3
 have HN3 := Lib.hid hN3
 clear hN3
 have c_N4 := J03 Y1 Y2 (Q8 h1.y) (Q8 h2.y)
 obtain ⟨N4, hN4⟩ := V2 (Y1 * Y2 % PP)
 rw [← hN4] at c_N4
 have lN4 := bpp hN4
 have bN4 := Q8 lN4
 have HN4 := Lib.hid hN4
 clear hN4
 have c_N5 := J03 N3 N4 bN3 bN4
 obtain ⟨N5, hN5⟩ := V2 (N3 * N4 % PP)
 rw [← hN5] at c_N5
 have lN5 := bpp hN5
 have bN5 := Q8 lN5
 have HN5 := Lib.hid hN5
 clear hN5
 have c_N6 := J03 DD N5 Q9k bN5
 obtain ⟨N6, hN6⟩ := V2 (DD * N5 % PP)
 rw [← hN6] at c_N6
 have lN6 := bpp hN6
 have bN6 := Q8 lN6
 have HN6 := Lib.hid hN6
 clear hN6
 have c_N7 := Q82 N2 N6 bN2 (Nat.le_of_lt lN6)
 obtain ⟨N7, hN7⟩ := V2 ((N2 + (PP - N6) % PP) % PP)
 rw [← hN7] at c_N7
 have lN7 := bpp hN7
 have bN7 := Q8 lN7
 have HN7 := Lib.hid hN7
 clear hN7
 have c_N8 := J9k N2 N6 bN2 bN6
 obtain ⟨N8, hN8⟩ := V2 ((N2 + N6) % PP)
 rw [← hN8] at c_N8
 have lN8 := bpp hN8
 have bN8 := Q8 lN8
 have HN8 := Lib.hid hN8
 clear hN8
 have c_N9 := J9k X1 Y1 (Q8 h1.x) (Q8 h1.y)
 obtain ⟨N9, hN9⟩ := V2 ((X1 + Y1) % PP)
 rw [← hN9] at c_N9
 have lN9 := bpp hN9
 have bN9 := Q8 lN9
 have HN9 := Lib.hid hN9
 clear hN9
 have c_N10 := J9k X2 Y2 (Q8 h2.x) (Q8 h2.y)
 obtain ⟨N10, hN10⟩ := V2 ((X2 + Y2) % PP)
 rw [← hN10] at c_N10
 have lN10 := bpp hN10
 have bN10 := Q8 lN10
 have HN10 := Lib.hid hN10
 clear hN10
 have c_N11 := J03 N9 N10 bN9 bN10
 obtain ⟨N11, hN11⟩ := V2 (N9 * N10 % PP)
 rw [← hN11] at c_N11
 have lN11 := bpp hN11
 have bN11 := Q8 lN11
 have HN11 := Lib.hid hN11
 clear hN11
 have c_N12 := J03 N1 N7 bN1 bN7
 obtain ⟨N12, hN12⟩ := V2 (N1 * N7 % PP)
 rw [← hN12] at c_N12
 have lN12 := bpp hN12
 have bN12 := Q8 lN12
 have HN12 := Lib.hid hN12
 clear hN12
 have c_N13 := J9k N3 N4 bN3 bN4
 obtain ⟨N13, hN13⟩ := V2 ((N3 + N4) % PP)
 rw [← hN13] at c_N13
 have lN13 := bpp hN13
 have bN13 := Q8 lN13
 have HN13 := Lib.hid hN13
 clear hN13
 have c_N14 := Q82 N11 N13 bN11 (Nat.le_of_lt lN13)
 obtain ⟨N14, hN14⟩ := V2 ((N11 + (PP - N13) % PP) % PP)
 rw [← hN14] at c_N14
 have lN14 := bpp hN14
 have bN14 := Q8 lN14
 have HN14 := Lib.hid hN14
 clear hN14
 have c_N15 := J03 N12 N14 bN12 bN14
 obtain ⟨N15, hN15⟩ := V2 (N12 * N14 % PP)
 rw [← hN15] at c_N15
 have lN15 := bpp hN15
 have bN15 := Q8 lN15
 have HN15 := Lib.hid hN15
 clear hN15
 have c_N16 := J03 N1 N8 bN1 bN8
 obtain ⟨N16, hN16⟩ := V2 (N1 * N8 % PP)
 rw [← hN16] at c_N16
 have lN16 := bpp hN16
 have bN16 := Q8 lN16
 have HN16 := Lib.hid hN16
 clear hN16
 have c_N17 := J9k N3 N4 bN3 bN4
 obtain ⟨N17, hN17⟩ := V2 ((N3 + N4) % PP)
 rw [← hN17] at c_N17
 have lN17 := bpp hN17
 have bN17 := Q8 lN17
 have HN17 := Lib.hid hN17
 clear hN17
 have c_N18 := J03 N16 N17 bN16 bN17
 obtain ⟨N18, hN18⟩ := V2 (N16 * N17 % PP)
 rw [← hN18] at c_N18
 have lN18 := bpp hN18
 have bN18 := Q8 lN18
 have HN18 := Lib.hid hN18
 clear hN18
 have c_N19 := J03 N7 N8 bN7 bN8
 obtain ⟨N19, hN19⟩ := V2 (N7 * N8 % PP)
 rw [← hN19] at c_N19
 have lN19 := bpp hN19
 have bN19 := Q8 lN19
 have HN19 := Lib.hid hN19
 clear hN19
 refine ⟨N15, N18, N19, Y88 h1 h2 HN1.out HN2.out HN3.out HN4.out HN5.out HN6.out HN7.out HN8.out HN9.out HN10.out HN11.out HN12.out HN13.out HN14.out HN15.out HN16.out (HN18.out.trans (by rw [HN17.out, ← HN13.out])) HN19.out, fun w => ?_⟩
 have off0 : Off [] w w := Off.refl _ _
 go_enter Tryd.func58, Tryd.ntmps58
 go_upto_region 0 with fail
 refine wp_region_lit ?_
 refine Ln ?_ (z := p3 X1 Y1 Z1) (t := 78)
 intro J0b W1 K7 hO h_
 replace off0 := off0.o hO
 have k_t2 := h_
 clear hO h_ K7
 refine Ln ?_ (z := p3 X2 Y2 Z2) (t := 78)
 intro J6c W2 J12 hO h_
 replace k_t2 := k_t2.o hO
 replace off0 := off0.o hO
 have k_t3 := h_
 clear hO h_ J12
 refine Ln ?_ (z := p3 0 0 0) (t := 78)
 intro Q4x W3 J0u hO h_
 have J2g := fbn off0 J0u
 replace k_t2 := k_t2.o hO
 replace k_t3 := k_t3.o hO
 replace off0 := off0.o hO
 have k_t4 := h_
 clear hO h_ J0u
 refine J0 ?_
 go_upto_region 1 with fail
 refine wp_region_lit ?_
 refine Lv ?_
 refine J01 (vs := (J1 .i64 16 (Q2 Z1)).toList) (by rfl) rfl rfl k_t2 (J3o Q1q) (by kernel_rfl) (by kernel_rfl) ?_
 (try simp only [Act.put, mA, mB, mC])
 refine Lv ?_
 refine J01 (vs := (J1 .i64 16 (Q2 Z2)).toList) (by rfl) rfl rfl k_t3 (J3o Q1q) (by kernel_rfl) (by kernel_rfl) ?_
 (try simp only [Act.put, mA, mB, mC])
 refine Lr ?_ (c_N1 W3)
 intro W4 hO
 replace k_t2 := k_t2.o hO
 replace k_t3 := k_t3.o hO
 replace k_t4 := k_t4.o hO
 replace off0 := off0.o hO
 clear hO
 refine LnA ?_ (z := J1 .i64 16 (Q2 0)) (t := 76) (k := .i64) (n := 16) (f := Q2 N1)
 intro Q1p W6 J0k hO h_
 replace k_t2 := k_t2.o hO
 replace k_t3 := k_t3.o hO
 replace k_t4 := k_t4.o hO
 replace off0 := off0.o hO
 have k_t5 := h_
 clear hO h_ J0k
 refine J0 ?_
 go_upto_region 2 with fail
 refine wp_region_lit ?_
 refine L0A ?_ k_t5
 refine L0A ?_ k_t5
 refine Lr ?_ (c_N2 W6)
 intro W7 hO
 replace k_t2 := k_t2.o hO
 replace k_t3 := k_t3.o hO
 replace k_t4 := k_t4.o hO
 replace k_t5 := k_t5.o hO
 replace off0 := off0.o hO
 clear hO
 refine LnA ?_ (z := J1 .i64 16 (Q2 0)) (t := 76) (k := .i64) (n := 16) (f := Q2 N2)
 intro Y3k W9 J1c hO h_
 replace k_t2 := k_t2.o hO
 replace k_t3 := k_t3.o hO
 replace k_t4 := k_t4.o hO
 replace k_t5 := k_t5.o hO
 replace off0 := off0.o hO
 have k_t6 := h_
 clear hO h_ J1c
 refine J0 ?_
 go_upto_region 3 with fail
 refine J05 10 [⟨10, 7, J1 .i64 16 (Q2 0), 76⟩, ⟨11, 8, J1 .i64 16 (Q2 0), 76⟩] (by kernel_rfl) ?_ (by kernel_rfl) ?_
 ·
  intro x hx
  simp only [List.mem_cons, List.not_mem_nil, or_false] at hx
  rcases hx with rfl | rfl <;> exact ⟨_, rfl, rfl, rfl, fun _ _ => by kernel_rfl⟩
 simp only [List.take_succ_cons, List.take_zero, List.take_nil]
 (try simp only [Act.put, mA, mB, mC])
 refine Xv ?_
 refine Xls ?_ (sub := J1 .i64 16 (Q2 X1)) (j := 0) k_t2 Q3u
 refine Xv ?_
 refine Xls ?_ (sub := J1 .i64 16 (Q2 X2)) (j := 0) k_t3 Q3u
 refine Xf ?_ (fun W hW => c_N3 W)
 refine Xv ?_
 refine Xls ?_ (sub := J1 .i64 16 (Q2 Y1)) (j := 16) k_t2 Q6e
 refine Xv ?_
 refine Xls ?_ (sub := J1 .i64 16 (Q2 Y2)) (j := 16) k_t3 Q6e
 refine Xf ?_ (fun W hW => c_N4 W)
 refine Q3 ?_
 intro β W10 hE hN hD
 obtain ⟨J04, h_t7⟩ := hN _ (List.mem_cons_self ..)
 obtain ⟨V6, h_t8⟩ := hN _ (List.mem_cons_of_mem _ (List.mem_cons_self ..))
 have nq_t7_t8 := (hD _ (List.mem_cons_of_mem _ (List.mem_cons_self ..)) _ (List.mem_cons_self ..) (by decide)).symm
 clear hN hD
 simp only [J0j, Act.put, mA, mB, mC, List.drop_succ_cons, List.drop_zero, List.drop_nil, List.length_cons, List.length_nil, Nat.add_zero] at J04 h_t7 V6 h_t8 nq_t7_t8 ⊢
 have hO := Z6 hE
 generalize β 10 = Y6e at *
 have nq_t2_t7 := bn k_t2 J04
 have nq_t3_t7 := bn k_t3 J04
 have nq_t4_t7 := bn k_t4 J04
 have J20 := bn k_t5 J04
 have J3a := bn k_t6 J04
 have J5z := fbn off0 J04
 generalize β 11 = Y6f at *
 have nq_t2_t8 := bn k_t2 V6
 have Q4z := bn k_t3 V6
 have nq_t4_t8 := bn k_t4 V6
 have J1d := bn k_t5 V6
 have nq_t6_t8 := bn k_t6 V6
 have J1v := fbn off0 V6
 replace k_t2 := k_t2.o hO
 replace k_t3 := k_t3.o hO
 replace k_t4 := k_t4.o hO
 replace k_t5 := k_t5.o hO
 replace k_t6 := k_t6.o hO
 replace off0 := off0.o hO
 clear hO hE β J04 V6
 have k_t7 : Blk W10 Y6e (J1 .i64 16 (Q2 0)) 76 := h_t7
 clear h_t7
 have k_t8 : Blk W10 Y6f (J1 .i64 16 (Q2 0)) 76 := h_t8
 clear h_t8
 refine LpA ?_ k_t7 (k := .i64) (n := 16) (f := Q2 N3)
 intro W11 hO h_
 replace k_t7 : Blk W11 Y6e (J1 .i64 16 (Q2 N3)) 76 := h_
 clear h_
 replace k_t2 := k_t2.p hO nq_t2_t7
 replace k_t3 := k_t3.p hO nq_t3_t7
 replace k_t4 := k_t4.p hO nq_t4_t7
 replace k_t5 := k_t5.p hO J20
 replace k_t6 := k_t6.p hO J3a
 replace k_t8 := k_t8.p hO nq_t7_t8.symm
 replace off0 := off0.p hO J5z
 clear hO
 refine LpA ?_ k_t8 (k := .i64) (n := 16) (f := Q2 N4)
 intro W12 hO h_
 replace k_t8 : Blk W12 Y6f (J1 .i64 16 (Q2 N4)) 76 := h_
 clear h_
 replace k_t2 := k_t2.p hO nq_t2_t8
 replace k_t3 := k_t3.p hO Q4z
 replace k_t4 := k_t4.p hO nq_t4_t8
 replace k_t5 := k_t5.p hO J1d
 replace k_t6 := k_t6.p hO nq_t6_t8
 replace k_t7 := k_t7.p hO nq_t7_t8
 replace off0 := off0.p hO J1v
 clear hO
 refine LN ?_
 go_upto_region 4 with fail
 refine Rx1 5 9 (z := J1 .i64 16 (Q2 0)) (t := 76) ?_
 refine Xf ?_ (fun W hW => Z1b W)
 refine XlA ?_ k_t7
 refine XlA ?_ k_t8
 refine Xf ?_ (fun W hW => c_N5 W)
 refine Xf ?_ (fun W hW => c_N6 W)
 refine XN ?_
 intro Y6g W13 J2y hE h_t9
 have hO := Z6 hE
 have Q5a := bn k_t2 J2y
 have Z8b := bn k_t3 J2y
 have Q52 := bn k_t4 J2y
 have Z8c := bn k_t5 J2y
 have Z8d := bn k_t6 J2y
 have Z8e := bn k_t7 J2y
 have Q5b := bn k_t8 J2y
 have Q53 := fbn off0 J2y
 replace k_t2 := k_t2.o hO
 replace k_t3 := k_t3.o hO
 replace k_t4 := k_t4.o hO
 replace k_t5 := k_t5.o hO
 replace k_t6 := k_t6.o hO
 replace k_t7 := k_t7.o hO
 replace k_t8 := k_t8.o hO
 replace off0 := off0.o hO
 clear hO hE J2y
 have k_t9 : Blk W13 Y6g (J1 .i64 16 (Q2 0)) 76 := h_t9
 clear h_t9
 refine LpA ?_ k_t9 (k := .i64) (n := 16) (f := Q2 N6)
 intro W14 hO h_
 replace k_t9 : Blk W14 Y6g (J1 .i64 16 (Q2 N6)) 76 := h_
 clear h_
 replace k_t2 := k_t2.p hO Q5a
 replace k_t3 := k_t3.p hO Z8b
 replace k_t4 := k_t4.p hO Q52
 replace k_t5 := k_t5.p hO Z8c
 replace k_t6 := k_t6.p hO Z8d
 replace k_t7 := k_t7.p hO Z8e
 replace k_t8 := k_t8.p hO Q5b
 replace off0 := off0.p hO Q53
 clear hO
 refine LN ?_
 go_upto_region 5 with fail
 refine J05 6 [⟨6, 10, J1 .i64 16 (Q2 0), 76⟩, ⟨7, 11, J1 .i64 16 (Q2 0), 76⟩] (by kernel_rfl) ?_ (by kernel_rfl) ?_
 ·
  intro x hx
  simp only [List.mem_cons, List.not_mem_nil, or_false] at hx
  rcases hx with rfl | rfl <;> exact ⟨_, rfl, rfl, rfl, fun _ _ => by kernel_rfl⟩
 simp only [List.take_succ_cons, List.take_zero, List.take_nil]
 (try simp only [Act.put, mA, mB, mC])
 refine XlA ?_ k_t6
 refine XlA ?_ k_t9
 refine Xf ?_ (fun W hW => c_N7 W)
 refine XlA ?_ k_t6
 refine XlA ?_ k_t9
 refine Xf ?_ (fun W hW => c_N8 W)
 refine Q3 ?_
 intro β W15 hE hN hD
 obtain ⟨J19, h_t10⟩ := hN _ (List.mem_cons_self ..)
 obtain ⟨K1, h_t11⟩ := hN _ (List.mem_cons_of_mem _ (List.mem_cons_self ..))
 have nq_t10_t11 := (hD _ (List.mem_cons_of_mem _ (List.mem_cons_self ..)) _ (List.mem_cons_self ..) (by decide)).symm
 clear hN hD
 simp only [J0j, Act.put, mA, mB, mC, List.drop_succ_cons, List.drop_zero, List.drop_nil, List.length_cons, List.length_nil, Nat.add_zero] at J19 h_t10 K1 h_t11 nq_t10_t11 ⊢
 have hO := Z6 hE
 generalize β 6 = Q54 at *
 have Z5g := bn k_t2 J19
 have J86 := bn k_t3 J19
 have Q2i := bn k_t4 J19
 have Q2m := bn k_t5 J19
 have Z5h := bn k_t7 J19
 have Q2n := bn k_t8 J19
 have J5h := fbn off0 J19
 generalize β 7 = Q55 at *
 have J30 := bn k_t2 K1
 have J87 := bn k_t3 K1
 have J2h := bn k_t4 K1
 have Q2o := bn k_t5 K1
 have J31 := bn k_t7 K1
 have Q2p := bn k_t8 K1
 have J2j := fbn off0 K1
 replace k_t2 := k_t2.o hO
 replace k_t3 := k_t3.o hO
 replace k_t4 := k_t4.o hO
 replace k_t5 := k_t5.o hO
 replace k_t7 := k_t7.o hO
 replace k_t8 := k_t8.o hO
 replace off0 := off0.o hO
 clear hO hE β J19 K1
 have k_t10 : Blk W15 Q54 (J1 .i64 16 (Q2 0)) 76 := h_t10
 clear h_t10
 have k_t11 : Blk W15 Q55 (J1 .i64 16 (Q2 0)) 76 := h_t11
 clear h_t11
 refine LpA ?_ k_t10 (k := .i64) (n := 16) (f := Q2 N7)
 intro W16 hO h_
 replace k_t10 : Blk W16 Q54 (J1 .i64 16 (Q2 N7)) 76 := h_
 clear h_
 replace k_t2 := k_t2.p hO Z5g
 replace k_t3 := k_t3.p hO J86
 replace k_t4 := k_t4.p hO Q2i
 replace k_t5 := k_t5.p hO Q2m
 replace k_t7 := k_t7.p hO Z5h
 replace k_t8 := k_t8.p hO Q2n
 replace k_t11 := k_t11.p hO nq_t10_t11.symm
 replace off0 := off0.p hO J5h
 clear hO
 refine LpA ?_ k_t11 (k := .i64) (n := 16) (f := Q2 N8)
 intro W17 hO h_
 replace k_t11 : Blk W17 Q55 (J1 .i64 16 (Q2 N8)) 76 := h_
 clear h_
 replace k_t2 := k_t2.p hO J30
 replace k_t3 := k_t3.p hO J87
 replace k_t4 := k_t4.p hO J2h
 replace k_t5 := k_t5.p hO Q2o
 replace k_t7 := k_t7.p hO J31
 replace k_t8 := k_t8.p hO Q2p
 replace k_t10 := k_t10.p hO nq_t10_t11
 replace off0 := off0.p hO J2j
 clear hO
 refine LN ?_
 go_upto_region 6 with fail
 refine Rx1 11 12 (z := J1 .i64 16 (Q2 0)) (t := 76) ?_
 refine Xv ?_
 refine Xls ?_ (sub := J1 .i64 16 (Q2 X1)) (j := 0) k_t2 Q3u
 refine Xv ?_
 refine Xls ?_ (sub := J1 .i64 16 (Q2 Y1)) (j := 16) k_t2 Q6e
 refine Xf ?_ (fun W hW => c_N9 W)
 refine Xv ?_
 refine Xls ?_ (sub := J1 .i64 16 (Q2 X2)) (j := 0) k_t3 Q3u
 refine Xv ?_
 refine Xls ?_ (sub := J1 .i64 16 (Q2 Y2)) (j := 16) k_t3 Q6e
 refine Xf ?_ (fun W hW => c_N10 W)
 refine Xf ?_ (fun W hW => c_N11 W)
 refine XN ?_
 intro Z8f W18 J2u hE h_t12
 have hO := Z6 hE
 have Q2j := bn k_t4 J2u
 have Z5i := bn k_t5 J2u
 have Z5j := bn k_t7 J2u
 have Z5k := bn k_t8 J2u
 have nq_t10_t12 := bn k_t10 J2u
 have nq_t11_t12 := bn k_t11 J2u
 have Z17 := fbn off0 J2u
 replace k_t4 := k_t4.o hO
 replace k_t5 := k_t5.o hO
 replace k_t7 := k_t7.o hO
 replace k_t8 := k_t8.o hO
 replace k_t10 := k_t10.o hO
 replace k_t11 := k_t11.o hO
 replace off0 := off0.o hO
 clear hO hE J2u
 have k_t12 : Blk W18 Z8f (J1 .i64 16 (Q2 0)) 76 := h_t12
 clear h_t12
 refine LpA ?_ k_t12 (k := .i64) (n := 16) (f := Q2 N11)
 intro W19 hO h_
 replace k_t12 : Blk W19 Z8f (J1 .i64 16 (Q2 N11)) 76 := h_
 clear h_
 replace k_t4 := k_t4.p hO Q2j
 replace k_t5 := k_t5.p hO Z5i
 replace k_t7 := k_t7.p hO Z5j
 replace k_t8 := k_t8.p hO Z5k
 replace k_t10 := k_t10.p hO nq_t10_t12
 replace k_t11 := k_t11.p hO nq_t11_t12
 replace off0 := off0.p hO Z17
 clear hO
 refine LN ?_
 go_upto_region 7 with fail
 refine Rx1 9 13 (z := J1 .i64 16 (Q2 0)) (t := 76) ?_
 refine XlA ?_ k_t5
 refine XlA ?_ k_t10
 refine Xf ?_ (fun W hW => c_N12 W)
 refine XlA ?_ k_t12
 refine XlA ?_ k_t7
 refine XlA ?_ k_t8
 refine Xf ?_ (fun W hW => c_N13 W)
 refine Xf ?_ (fun W hW => c_N14 W)
 refine Xf ?_ (fun W hW => c_N15 W)
 refine XN ?_
 intro Z8g W20 J2v hE h_t13
 have hO := Z6 hE
 have Z5l := bn k_t4 J2v
 have Q2q := bn k_t5 J2v
 have Z5m := bn k_t7 J2v
 have J88 := bn k_t8 J2v
 have Q0z := bn k_t10 J2v
 have Z1c := bn k_t11 J2v
 have Q5c := fbn off0 J2v
 replace k_t4 := k_t4.o hO
 replace k_t5 := k_t5.o hO
 replace k_t7 := k_t7.o hO
 replace k_t8 := k_t8.o hO
 replace k_t10 := k_t10.o hO
 replace k_t11 := k_t11.o hO
 replace off0 := off0.o hO
 clear hO hE J2v
 have k_t13 : Blk W20 Z8g (J1 .i64 16 (Q2 0)) 76 := h_t13
 clear h_t13
 refine LpA ?_ k_t13 (k := .i64) (n := 16) (f := Q2 N15)
 intro W21 hO h_
 replace k_t13 : Blk W21 Z8g (J1 .i64 16 (Q2 N15)) 76 := h_
 clear h_
 replace k_t4 := k_t4.p hO Z5l
 replace k_t5 := k_t5.p hO Q2q
 replace k_t7 := k_t7.p hO Z5m
 replace k_t8 := k_t8.p hO J88
 replace k_t10 := k_t10.p hO Q0z
 replace k_t11 := k_t11.p hO Z1c
 replace off0 := off0.p hO Q5c
 clear hO
 refine LN ?_
 go_upto_region 8 with fail
 refine Rx1 7 14 (z := J1 .i64 16 (Q2 0)) (t := 76) ?_
 refine XlA ?_ k_t5
 refine XlA ?_ k_t11
 refine Xf ?_ (fun W hW => c_N16 W)
 refine XlA ?_ k_t7
 refine XlA ?_ k_t8
 refine Xf ?_ (fun W hW => c_N17 W)
 refine Xf ?_ (fun W hW => c_N18 W)
 refine XN ?_
 intro Z8h W22 J48 hE h_t14
 have hO := Z6 hE
 have Q2r := bn k_t4 J48
 have Q10 := bn k_t10 J48
 have Z1d := bn k_t11 J48
 have nq_t13_t14 := bn k_t13 J48
 have Q5d := fbn off0 J48
 replace k_t4 := k_t4.o hO
 replace k_t10 := k_t10.o hO
 replace k_t11 := k_t11.o hO
 replace k_t13 := k_t13.o hO
 replace off0 := off0.o hO
 clear hO hE J48
 have k_t14 : Blk W22 Z8h (J1 .i64 16 (Q2 0)) 76 := h_t14
 clear h_t14
 refine LpA ?_ k_t14 (k := .i64) (n := 16) (f := Q2 N18)
 intro W23 hO h_
 replace k_t14 : Blk W23 Z8h (J1 .i64 16 (Q2 N18)) 76 := h_
 clear h_
 replace k_t4 := k_t4.p hO Q2r
 replace k_t10 := k_t10.p hO Q10
 replace k_t11 := k_t11.p hO Z1d
 replace k_t13 := k_t13.p hO nq_t13_t14
 replace off0 := off0.p hO Q5d
 clear hO
 refine LN ?_
 go_upto_region 9 with fail
 refine Rx 6 ?_
 refine XlA ?_ k_t13
 refine XlA ?_ k_t14
 refine XlA ?_ k_t10
 refine XlA ?_ k_t11
 refine Xf ?_ (fun W hW => c_N19 W)
 refine Xw ?_ (v := .agg (p3 N15 N18 N19)) (hv := fun _ _ => by kernel_rfl)
 refine Q3 fun W24 hE => ?_
 have hO := Z6 hE
 replace k_t4 := k_t4.o hO
 replace off0 := off0.o hO
 clear hO hE
 refine Lp ?_ k_t4 (cells := p3 N15 N18 N19) (hi := by rw [J3]; kernel_rfl) (hs := by first | rw [J3, J3] | rw [J3] | kernel_rfl) (h1 := by exact J0c)
 intro W25 hO h_
 replace k_t4 : Blk W25 Q4x (p3 N15 N18 N19) 78 := h_
 clear h_
 replace off0 := off0.p hO J2g
 clear hO
 refine LN ?_
 go_wp2
 exact bodyPost_ret (K3 rfl rfl k_t4 (by kernel_rfl) (by rw [J3]; kernel_rfl)) rfl ⟨rfl, off0.ext⟩
theorem J54 {X1 Y1 Z1 : Nat} {p1 : Pr} (h1 : RD X1 Y1 Z1 p1) :
  ∃ X Y Z, RD X Y Z (pm p1 8) ∧ ∀ w, Calls Tryd.prog 68 #[.agg (p3 X1 Y1 Z1)] w fun e w' => Ret (.agg (p3 X Y Z)) w w' e := by
 obtain ⟨x1, y2, z3, r4, c5⟩ := J8o h1 h1
 obtain ⟨x6, y7, z8, r9, c10⟩ := J8o r4 r4
 obtain ⟨x11, y12, z13, r14, c15⟩ := J8o r9 r9
 refine ⟨x11, y12, z13, pm8 h1.on ▸ r14, fun w => ?_⟩
 have off0 : Off [] w w := Off.refl _ _
 go_enter Tryd.func68, Tryd.ntmps68
 go_upto_region 0 with fail
 refine wp_region_lit ?_
 refine Ln ?_ (z := p3 X1 Y1 Z1) (t := 78)
 intro J15 W1 J27 hO h_
 have J81 := fbn off0 J27
 replace off0 := off0.o hO
 have k_t1 := h_
 clear hO h_ J27
 refine Ln ?_ (z := p3 0 0 0) (t := 78)
 intro J29 W2 K7 hO h_
 have nq_t1_t2 := bn k_t1 K7
 have K8 := fbn off0 K7
 replace k_t1 := k_t1.o hO
 replace off0 := off0.o hO
 have k_t2 := h_
 clear hO h_ K7
 refine J0 ?_
 go_wp2_with fail
 refine wp_loop_rounds 5 ?_
 rw [rounds_succ]
 go_upto_region 4 with fail
 refine wp_region_lit ?_
 refine L0 ?_ k_t1 (hi := by rw [J3]; kernel_rfl)
 refine L0 ?_ k_t1 (hi := by rw [J3]; kernel_rfl)
 refine Lr ?_ (c5 W2)
 intro W3 hO
 replace k_t1 := k_t1.o hO
 replace k_t2 := k_t2.o hO
 replace off0 := off0.o hO
 clear hO
 refine Lp ?_ k_t1 (cells := p3 x1 y2 z3) (hi := by rw [J3]; kernel_rfl) (hs := by first | rw [J3, J3] | rw [J3] | kernel_rfl) (h1 := by exact J0c)
 intro W4 hO h_
 replace k_t1 : Blk W4 J15 (p3 x1 y2 z3) 78 := h_
 clear h_
 replace k_t2 := k_t2.p hO nq_t1_t2.symm
 replace off0 := off0.p hO J81
 clear hO
 refine J0 ?_
 go_wp2_with fail
 rw [rounds_succ]
 go_upto_region 4 with fail
 refine wp_region_lit ?_
 refine L0 ?_ k_t1 (hi := by rw [J3]; kernel_rfl)
 refine L0 ?_ k_t1 (hi := by rw [J3]; kernel_rfl)
 refine Lr ?_ (c10 W4)
 intro W5 hO
 replace k_t1 := k_t1.o hO
 replace k_t2 := k_t2.o hO
 replace off0 := off0.o hO
 clear hO
 refine Lp ?_ k_t1 (cells := p3 x6 y7 z8) (hi := by rw [J3]; kernel_rfl) (hs := by first | rw [J3, J3] | rw [J3] | kernel_rfl) (h1 := by exact J0c)
 intro W6 hO h_
 replace k_t1 : Blk W6 J15 (p3 x6 y7 z8) 78 := h_
 clear h_
 replace k_t2 := k_t2.p hO nq_t1_t2.symm
 replace off0 := off0.p hO J81
 clear hO
 refine J0 ?_
 go_wp2_with fail
 rw [rounds_succ]
 go_upto_region 4 with fail
 refine wp_region_lit ?_
 refine L0 ?_ k_t1 (hi := by rw [J3]; kernel_rfl)
 refine L0 ?_ k_t1 (hi := by rw [J3]; kernel_rfl)
 refine Lr ?_ (c15 W6)
 intro W7 hO
 replace k_t1 := k_t1.o hO
 replace k_t2 := k_t2.o hO
 replace off0 := off0.o hO
 clear hO
 refine Lp ?_ k_t1 (cells := p3 x11 y12 z13) (hi := by rw [J3]; kernel_rfl) (hs := by first | rw [J3, J3] | rw [J3] | kernel_rfl) (h1 := by exact J0c)
 intro W8 hO h_
 replace k_t1 : Blk W8 J15 (p3 x11 y12 z13) 78 := h_
 clear h_
 replace k_t2 := k_t2.p hO nq_t1_t2.symm
 replace off0 := off0.p hO J81
 clear hO
 refine J0 ?_
 go_wp2_with fail
 rw [rounds_succ]
 go_upto_region 5 with fail
 refine wp_region_lit ?_
 refine L0 ?_ k_t1 (hi := by rw [J3]; kernel_rfl)
 refine Lp ?_ k_t2 (cells := p3 x11 y12 z13) (hi := by rw [J3]; kernel_rfl) (hs := by first | rw [J3, J3] | rw [J3] | kernel_rfl) (h1 := by exact J0c)
 intro W9 hO h_
 replace k_t2 : Blk W9 J29 (p3 x11 y12 z13) 78 := h_
 clear h_
 replace off0 := off0.p hO K8
 clear hO
 refine J0 ?_
 go_wp2
 exact bodyPost_ret (K3 rfl rfl k_t2 (by kernel_rfl) (by rw [J3]; kernel_rfl)) rfl ⟨rfl, off0.ext⟩
theorem J7a {X1 Y1 Z1 : Nat} {p1 : Pr} {X2 Y2 Z2 : Nat} {p2 : Pr} (h1 : RD X1 Y1 Z1 p1) (h2 : RD X2 Y2 Z2 p2) :
  ∀ w, Calls Tryd.prog 67 #[.agg (p3 X1 Y1 Z1), .agg (p3 X2 Y2 Z2)] w fun e w' => Ret (.bool (decide (p1 = p2))) w w' e := by
 have c_N1 := J03 X1 Z2 (Q8 h1.x) (Q8 h2.z)
 obtain ⟨N1, hN1⟩ := V2 (X1 * Z2 % PP)
 rw [← hN1] at c_N1
 have lN1 := bpp hN1
 have bN1 := Q8 lN1
 have HN1 := Lib.hid hN1
 clear hN1
 have c_N2 := J03 X2 Z1 (Q8 h2.x) (Q8 h1.z)
 obtain ⟨N2, hN2⟩ := V2 (X2 * Z1 % PP)
 rw [← hN2] at c_N2
 have lN2 := bpp hN2
 have bN2 := Q8 lN2
 have HN2 := Lib.hid hN2
 clear hN2
 have e_N1_N2 := Q89 N1 N2 bN1 bN2
 have c_N3 := J03 Y1 Z2 (Q8 h1.y) (Q8 h2.z)
 obtain ⟨N3, hN3⟩ := V2 (Y1 * Z2 % PP)
 rw [← hN3] at c_N3
 have lN3 := bpp hN3
 have bN3 := Q8 lN3
 have HN3 := Lib.hid hN3
 clear hN3
 have c_N4 := J03 Y2 Z1 (Q8 h2.y) (Q8 h1.z)
 obtain ⟨N4, hN4⟩ := V2 (Y2 * Z1 % PP)
 rw [← hN4] at c_N4
 have lN4 := bpp hN4
 have bN4 := Q8 lN4
 have HN4 := Lib.hid hN4
 clear hN4
 have e_N3_N4 := Q89 N3 N4 bN3 bN4
 intro w
 have off0 : Off [] w w := Off.refl _ _
 go_enter Tryd.func67, Tryd.ntmps67
 go_upto_region 0 with fail
 refine wp_region_lit ?_
 refine Ln ?_ (z := p3 X1 Y1 Z1) (t := 78)
 intro J0b W1 K7 hO h_
 replace off0 := off0.o hO
 have k_t2 := h_
 clear hO h_ K7
 refine Ln ?_ (z := p3 X2 Y2 Z2) (t := 78)
 intro J6c W2 J12 hO h_
 replace k_t2 := k_t2.o hO
 replace off0 := off0.o hO
 have k_t3 := h_
 clear hO h_ J12
 refine Lw ?_ (v := .bool false)
 refine J0 ?_
 by_cases hx : N1 = N2
 ·
  have _f := hx
  by_cases hy : N3 = N4
  ·
   have _f := hy
   clear _f
   go_upto_region 1 with fail
   refine Rx 25 ?_
   refine Xv ?_
   refine Xls ?_ (sub := J1 .i64 16 (Q2 X1)) (j := 0) k_t2 Q3u
   refine Xv ?_
   refine Xls ?_ (sub := J1 .i64 16 (Q2 Z2)) (j := 32) k_t3 Q1q
   refine Xf ?_ (fun W hW => c_N1 W)
   refine Xv ?_
   refine Xls ?_ (sub := J1 .i64 16 (Q2 X2)) (j := 0) k_t3 Q3u
   refine Xv ?_
   refine Xls ?_ (sub := J1 .i64 16 (Q2 Z1)) (j := 32) k_t2 Q1q
   refine Xf ?_ (fun W hW => c_N2 W)
   rw [decide_eq_true hx] at e_N1_N2
   refine J3q (e_N1_N2) (by kernel_rfl) (by rfl) rfl rfl rfl ?_
   (try simp only [Act.put, mA, mB, mC])
   refine Xv ?_
   refine Xv ?_
   refine Xls ?_ (sub := J1 .i64 16 (Q2 Y1)) (j := 16) k_t2 Q6e
   refine Xv ?_
   refine Xls ?_ (sub := J1 .i64 16 (Q2 Z2)) (j := 32) k_t3 Q1q
   refine Xf ?_ (fun W hW => c_N3 W)
   refine Xv ?_
   refine Xls ?_ (sub := J1 .i64 16 (Q2 Y2)) (j := 16) k_t3 Q6e
   refine Xv ?_
   refine Xls ?_ (sub := J1 .i64 16 (Q2 Z1)) (j := 32) k_t2 Q1q
   refine Xf ?_ (fun W hW => c_N4 W)
   rw [decide_eq_true hy] at e_N3_N4
   refine J3q (e_N3_N4) (by kernel_rfl) (by rfl) rfl rfl rfl ?_
   (try simp only [Act.put, mA, mB, mC])
   refine Xv ?_
   refine Xv ?_
   refine Q3 fun W3 hE => ?_
   have hO := Z6 hE
   replace k_t2 := k_t2.o hO
   replace k_t3 := k_t3.o hO
   replace off0 := off0.o hO
   clear hO hE
   refine LN ?_
   go_wp2
   rw [Z82 h1 h2 HN1.out HN2.out HN3.out HN4.out hx hy]
   exact bodyPost_ret (v := .bool true) (by simp only [results, Tryd.results67]; go_simp) rfl ⟨rfl, off0.ext⟩
  ·
   have _f := hy
   clear _f
   go_upto_region 1 with fail
   refine Rx 25 ?_
   refine Xv ?_
   refine Xls ?_ (sub := J1 .i64 16 (Q2 X1)) (j := 0) k_t2 Q3u
   refine Xv ?_
   refine Xls ?_ (sub := J1 .i64 16 (Q2 Z2)) (j := 32) k_t3 Q1q
   refine Xf ?_ (fun W hW => c_N1 W)
   refine Xv ?_
   refine Xls ?_ (sub := J1 .i64 16 (Q2 X2)) (j := 0) k_t3 Q3u
   refine Xv ?_
   refine Xls ?_ (sub := J1 .i64 16 (Q2 Z1)) (j := 32) k_t2 Q1q
   refine Xf ?_ (fun W hW => c_N2 W)
   rw [decide_eq_true hx] at e_N1_N2
   refine J3q (e_N1_N2) (by kernel_rfl) (by rfl) rfl rfl rfl ?_
   (try simp only [Act.put, mA, mB, mC])
   refine Xv ?_
   refine Xv ?_
   refine Xls ?_ (sub := J1 .i64 16 (Q2 Y1)) (j := 16) k_t2 Q6e
   refine Xv ?_
   refine Xls ?_ (sub := J1 .i64 16 (Q2 Z2)) (j := 32) k_t3 Q1q
   refine Xf ?_ (fun W hW => c_N3 W)
   refine Xv ?_
   refine Xls ?_ (sub := J1 .i64 16 (Q2 Y2)) (j := 16) k_t3 Q6e
   refine Xv ?_
   refine Xls ?_ (sub := J1 .i64 16 (Q2 Z1)) (j := 32) k_t2 Q1q
   refine Xf ?_ (fun W hW => c_N4 W)
   rw [decide_eq_false hy] at e_N3_N4
   refine J3q (e_N3_N4) (by kernel_rfl) (by rfl) rfl rfl rfl ?_
   (try simp only [Act.put, mA, mB, mC])
   refine Xv ?_
   refine Xv ?_
   refine Q3 fun W3 hE => ?_
   have hO := Z6 hE
   replace k_t2 := k_t2.o hO
   replace k_t3 := k_t3.o hO
   replace off0 := off0.o hO
   clear hO hE
   refine LN ?_
   go_wp2
   rw [Z39 h1 h2 HN1.out HN2.out HN3.out HN4.out hy]
   exact bodyPost_ret (v := .bool false) (by simp only [results, Tryd.results67]; go_simp) rfl ⟨rfl, off0.ext⟩
 ·
  have _f := hx
  clear _f
  go_upto_region 1 with fail
  refine Rx 25 ?_
  refine Xv ?_
  refine Xls ?_ (sub := J1 .i64 16 (Q2 X1)) (j := 0) k_t2 Q3u
  refine Xv ?_
  refine Xls ?_ (sub := J1 .i64 16 (Q2 Z2)) (j := 32) k_t3 Q1q
  refine Xf ?_ (fun W hW => c_N1 W)
  refine Xv ?_
  refine Xls ?_ (sub := J1 .i64 16 (Q2 X2)) (j := 0) k_t3 Q3u
  refine Xv ?_
  refine Xls ?_ (sub := J1 .i64 16 (Q2 Z1)) (j := 32) k_t2 Q1q
  refine Xf ?_ (fun W hW => c_N2 W)
  rw [decide_eq_false hx] at e_N1_N2
  refine J3q (e_N1_N2) (by kernel_rfl) (by rfl) rfl rfl rfl ?_
  (try simp only [Act.put, mA, mB, mC])
  refine Xv ?_
  refine Xs ?_
  refine Xs ?_
  refine Xs ?_
  refine Xs ?_
  refine Xs ?_
  refine Xs ?_
  refine Xs ?_
  refine Xs ?_
  refine Xs ?_
  refine Xs ?_
  refine Xs ?_
  refine Xv ?_
  refine Xv ?_
  refine Q3 fun W3 hE => ?_
  have hO := Z6 hE
  replace off0 := off0.o hO
  clear hO hE
  refine LN ?_
  go_wp2
  rw [Z38 h1 h2 HN1.out HN2.out HN3.out HN4.out hx]
  exact bodyPost_ret (v := .bool false) (by simp only [results, Tryd.results67]; go_simp) rfl ⟨rfl, off0.ext⟩
end Go.Proofs.YtefpoollmbmkfaaDoor
