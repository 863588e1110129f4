/- edwards: one, of, whole, twice, Add, Neg, Eight, Base. Conditions: the cells of the variables hold the curve's numbers. -/
import Derived.Test.YtefpoollmbmkfaaDoorGc
import Derived.Test.YtefpoollmbmkfaaDoorEi
set_option linter.unusedSimpArgs false
set_option linter.unusedVariables false
namespace Go.Proofs.YtefpoollmbmkfaaDoor
set_option maxHeartbeats 1500000
set_option maxRecDepth 100000
open Go.RowKit
attribute [local irreducible] wpList
variable {kn : Kn}

theorem G0 (w : World) :
  Calls Tryd.prog 75 #[] w fun e w' => m7 (L4 1) w w' e := by
 have off0 : Off [] w w := Off.refl _ _
 go_enter Tryd.func75, Tryd.ntmps75
 go_upto_region 0 with fail
 refine wp_region_lit ?_
 refine Ln ?_ (z := c4 0) (t := 58)
 intro j9d W1 y7y hO h_
 have y7z := l4 off0 y7y
 replace off0 := off0.o hO
 have k_t0 := h_
 clear hO h_ y7y
 refine q5 ?_
 go_upto_region 1 with fail
 refine wp_region_lit ?_
 refine Lr ?_ (j3l 1 (by decide) W1)
 intro W2 hO
 replace k_t0 := k_t0.o hO
 replace off0 := off0.o hO
 clear hO
 refine Lp ?_ k_t0 (cells := c4 1)
 intro W3 hO h_
 replace k_t0 : Blk W3 j9d (c4 1) 58 := h_
 clear h_
 replace off0 := off0.p hO y7z
 clear hO
 refine q5 ?_
 go_wp2
 exact bodyPost_ret (v5 rfl rfl k_t0 (by kernel_rfl) (by kernel_rfl)) rfl ⟨rfl, off0.ext⟩
theorem j7f {X Y : Nat} (hX : X < PP) (hY : Y < PP) (on : s8 (fp X, fp Y)) :
  ∃ T, RN X Y 1 T (fp X, fp Y) ∧ ∀ w, GE kn w → Calls Tryd.prog 80 #[L4 X, L4 Y] w fun e w' => m7 (.agg (p4 X Y 1 T)) w w' e := by
 have c_N1 := g6 X Y (j5 hX) (j5 hY)
 obtain ⟨N1, hN1⟩ := z8 (X * Y % PP)
 rw [← hN1] at c_N1
 have lN1 := V6 hN1
 have bN1 := j5 lN1
 have HN1 := Lib.hid hN1
 clear hN1
 refine ⟨N1, q8w hX hY on HN1.out, fun w hG => ?_⟩
 have off0 : Off [] w w := Off.refl _ _
 go_enter Tryd.func80, Tryd.ntmps80
 go_upto_region 0 with fail
 refine wp_region_lit ?_
 refine Ln ?_ (z := c4 X) (t := 58)
 intro v9 W1 z4 hO h_
 replace off0 := off0.o hO
 have k_t2 := h_
 clear hO h_ z4
 refine Ln ?_ (z := c4 Y) (t := 58)
 intro M4 W2 m8 hO h_
 replace k_t2 := k_t2.o hO
 replace off0 := off0.o hO
 have k_t3 := h_
 clear hO h_ m8
 refine Ln ?_ (z := p4 0 0 0 0) (t := 60)
 intro q7i W3 a7 hO h_
 have Q9 := l4 off0 a7
 replace k_t2 := k_t2.o hO
 replace k_t3 := k_t3.o hO
 replace off0 := off0.o hO
 have k_t4 := h_
 clear hO h_ a7
 refine q5 ?_
 go_upto_region 1 with fail
 refine Rx 7 ?_
 refine Xl ?_ k_t2
 refine Xl ?_ k_t3
 refine Xf ?_ (fun W hW => G0 W)
 refine Xl ?_ k_t2
 refine Xl ?_ k_t3
 refine Xf ?_ (fun W hW => c_N1 W (q8 (q8 hG off0.ext) hW).1)
 refine Xw ?_ (v := .agg (p4 X Y 1 N1)) (hv := fun _ _ => by kernel_rfl)
 refine j7 fun W4 hE => ?_
 have hO := g8 hE
 replace k_t4 := k_t4.o hO
 replace off0 := off0.o hO
 clear hO hE
 refine Lp ?_ k_t4 (cells := p4 X Y 1 N1)
 intro W5 hO h_
 replace k_t4 : Blk W5 q7i (p4 X Y 1 N1) 60 := h_
 clear h_
 replace off0 := off0.p hO Q9
 clear hO
 refine LN ?_
 go_wp2
 exact bodyPost_ret (v5 rfl rfl k_t4 (by kernel_rfl) (by kernel_rfl)) rfl ⟨rfl, off0.ext⟩
theorem y8a {X1 Y1 Z1 T1 : Nat} (hb : Z1 < j4) (hz : Z1 ≠ 0) (w : World) (hG : GE kn w) :
  Calls Tryd.prog 84 #[.agg (p4 X1 Y1 Z1 T1)] w fun e w' => m7 (.agg (p4 X1 Y1 Z1 T1)) w w' e := by
 have off0 : Off [] w w := Off.refl _ _
 go_enter Tryd.func84, Tryd.ntmps84
 go_upto_region 0 with fail
 refine wp_region_lit ?_
 refine Ln ?_ (z := p4 X1 Y1 Z1 T1) (t := 60)
 intro b7 W1 t8 hO h_
 replace off0 := off0.o hO
 have k_t1 := h_
 clear hO h_ t8
 refine Ln ?_ (z := p4 0 0 0 0) (t := 60)
 intro s9 W2 z4 hO h_
 have u7 := l4 off0 z4
 replace k_t1 := k_t1.o hO
 replace off0 := off0.o hO
 have k_t2 := h_
 clear hO h_ z4
 refine q5 ?_
 go_upto_region 1 with fail
 refine wp_region_lit ?_
 refine Lv ?_
 refine z0 (vs := (c4 Z1).toList) (by rfl) rfl rfl k_t1 (J0 I8) (by kernel_rfl) (by kernel_rfl) ?_
 (try simp only [Act.put, mA, mB, mC])
 refine Lw ?_ (v := .agg (c4 0)) (hv := by kernel_rfl)
 have e_1 := j9a Z1 0 hb (by decide)
 rw [decide_eq_false hz] at e_1
 refine q1d (e_1) (by kernel_rfl) (by rfl) rfl rfl rfl ?_
 (try simp only [Act.put, mA, mB, mC])
 refine q5 ?_
 go_upto_region 3 with fail
 refine wp_region_lit ?_
 refine L0 ?_ k_t1
 refine Lp ?_ k_t2 (cells := p4 X1 Y1 Z1 T1)
 intro W3 hO h_
 replace k_t2 : Blk W3 s9 (p4 X1 Y1 Z1 T1) 60 := h_
 clear h_
 replace off0 := off0.p hO u7
 clear hO
 refine q5 ?_
 go_wp2
 exact bodyPost_ret (v5 rfl rfl k_t2 (by kernel_rfl) (by kernel_rfl)) rfl ⟨rfl, off0.ext⟩
theorem y8b {X1 Y1 T1 : Nat} (w : World) (hG : GE kn w) :
  Calls Tryd.prog 84 #[.agg (p4 X1 Y1 0 T1)] w fun e w' => m7 (.agg (p4 0 1 1 0)) w w' e := by
 have off0 : Off [] w w := Off.refl _ _
 go_enter Tryd.func84, Tryd.ntmps84
 go_upto_region 0 with fail
 refine wp_region_lit ?_
 refine Ln ?_ (z := p4 X1 Y1 0 T1) (t := 60)
 intro b7 W1 t8 hO h_
 replace off0 := off0.o hO
 have k_t1 := h_
 clear hO h_ t8
 refine Ln ?_ (z := p4 0 0 0 0) (t := 60)
 intro s9 W2 z4 hO h_
 have u7 := l4 off0 z4
 replace k_t1 := k_t1.o hO
 replace off0 := off0.o hO
 have k_t2 := h_
 clear hO h_ z4
 refine q5 ?_
 go_upto_region 1 with fail
 refine wp_region_lit ?_
 refine Lv ?_
 refine z0 (vs := (c4 0).toList) (by rfl) rfl rfl k_t1 (J0 I8) (by kernel_rfl) (by kernel_rfl) ?_
 (try simp only [Act.put, mA, mB, mC])
 refine Lw ?_ (v := .agg (c4 0)) (hv := by kernel_rfl)
 have e_1 := j9a 0 0 (by decide) (by decide)
 rw [decide_eq_true rfl] at e_1
 refine q1d (e_1) (by kernel_rfl) (by rfl) rfl rfl rfl ?_
 (try simp only [Act.put, mA, mB, mC])
 refine q5 ?_
 go_upto_region 2 with fail
 refine wp_region_lit ?_
 refine Lr ?_ (G0 W2)
 intro W3 hO
 replace k_t2 := k_t2.o hO
 replace off0 := off0.o hO
 clear hO
 refine Lr ?_ (G0 W3)
 intro W4 hO
 replace k_t2 := k_t2.o hO
 replace off0 := off0.o hO
 clear hO
 refine Lw ?_ (v := .agg (p4 0 1 1 0)) (hv := by kernel_rfl)
 refine Lp ?_ k_t2 (cells := p4 0 1 1 0)
 intro W5 hO h_
 replace k_t2 : Blk W5 s9 (p4 0 1 1 0) 60 := h_
 clear h_
 replace off0 := off0.p hO u7
 clear hO
 refine q5 ?_
 go_wp2
 exact bodyPost_ret (v5 rfl rfl k_t2 (by kernel_rfl) (by kernel_rfl)) rfl ⟨rfl, off0.ext⟩
theorem Z0 {X Y Z T : Nat} {a : Pr} (h : RW X Y Z T a) : ∃ X' Y' Z' T', RN X' Y' Z' T' a ∧ ∀ w, GE kn w → Calls Tryd.prog 84 #[.agg (p4 X Y Z T)] w fun e w' => m7 (.agg (p4 X' Y' Z' T')) w w' e := by
  rcases h.cases with ⟨hz, h1⟩ | ⟨rfl, rfl⟩
  · exact ⟨X, Y, Z, T, h1, fun w hG => y8a h.z hz w hG⟩
  · exact ⟨0, 1, 1, 0, j7g, fun w hG => y8b w hG⟩
theorem q1e {X1 Y1 Z1 T1 : Nat} {p1 : Pr} (h1 : RN X1 Y1 Z1 T1 p1) :
  ∃ X Y Z T, RN X Y Z T (u5 p1 p1) ∧ ∀ w, GE kn w → Calls Tryd.prog 85 #[.agg (p4 X1 Y1 Z1 T1)] w fun e w' => m7 (.agg (p4 X Y Z T)) w w' e := by
 have c_N1 := g6 X1 X1 (j5 h1.x) (j5 h1.x)
 obtain ⟨N1, hN1⟩ := z8 (X1 * X1 % PP)
 rw [← hN1] at c_N1
 have lN1 := V6 hN1
 have bN1 := j5 lN1
 have HN1 := Lib.hid hN1
 clear hN1
 have c_N2 := g6 Y1 Y1 (j5 h1.y) (j5 h1.y)
 obtain ⟨N2, hN2⟩ := z8 (Y1 * Y1 % PP)
 rw [← hN2] at c_N2
 have lN2 := V6 hN2
 have bN2 := j5 lN2
 have HN2 := Lib.hid hN2
 clear hN2
 have c_N3 := g6 Z1 Z1 (j5 h1.z) (j5 h1.z)
 obtain ⟨N3, hN3⟩ := z8 (Z1 * Z1 % PP)
 rw [← hN3] at c_N3
 have lN3 := V6 hN3
 have bN3 := j5 lN3
 have HN3 := Lib.hid hN3
 clear hN3
 have c_N4 := D7 N3 N3 bN3 bN3
 obtain ⟨N4, hN4⟩ := z8 ((N3 + N3) % PP)
 rw [← hN4] at c_N4
 have lN4 := V6 hN4
 have bN4 := j5 lN4
 have HN4 := Lib.hid hN4
 clear hN4
 have c_N5 := D7 N1 N2 bN1 bN2
 obtain ⟨N5, hN5⟩ := z8 ((N1 + N2) % PP)
 rw [← hN5] at c_N5
 have lN5 := V6 hN5
 have bN5 := j5 lN5
 have HN5 := Lib.hid hN5
 clear hN5
 have c_N6 := D7 X1 Y1 (j5 h1.x) (j5 h1.y)
 obtain ⟨N6, hN6⟩ := z8 ((X1 + Y1) % PP)
 rw [← hN6] at c_N6
 have lN6 := V6 hN6
 have bN6 := j5 lN6
 have HN6 := Lib.hid hN6
 clear hN6
 have c_N7 := g6 N6 N6 bN6 bN6
 obtain ⟨N7, hN7⟩ := z8 (N6 * N6 % PP)
 rw [← hN7] at c_N7
 have lN7 := V6 hN7
 have bN7 := j5 lN7
 have HN7 := Lib.hid hN7
 clear hN7
 have c_N8 := R4 N5 N7 bN5 bN7
 obtain ⟨N8, hN8⟩ := z8 ((N5 + (PP - N7 % PP)) % PP)
 rw [← hN8] at c_N8
 have lN8 := V6 hN8
 have bN8 := j5 lN8
 have HN8 := Lib.hid hN8
 clear hN8
 have c_N9 := R4 N1 N2 bN1 bN2
 obtain ⟨N9, hN9⟩ := z8 ((N1 + (PP - N2 % PP)) % PP)
 rw [← hN9] at c_N9
 have lN9 := V6 hN9
 have bN9 := j5 lN9
 have HN9 := Lib.hid hN9
 clear hN9
 have c_N10 := D7 N4 N9 bN4 bN9
 obtain ⟨N10, hN10⟩ := z8 ((N4 + N9) % PP)
 rw [← hN10] at c_N10
 have lN10 := V6 hN10
 have bN10 := j5 lN10
 have HN10 := Lib.hid hN10
 clear hN10
 have c_N11 := g6 N8 N10 bN8 bN10
 obtain ⟨N11, hN11⟩ := z8 (N8 * N10 % PP)
 rw [← hN11] at c_N11
 have lN11 := V6 hN11
 have bN11 := j5 lN11
 have HN11 := Lib.hid hN11
 clear hN11
 have c_N12 := g6 N9 N5 bN9 bN5
 obtain ⟨N12, hN12⟩ := z8 (N9 * N5 % PP)
 rw [← hN12] at c_N12
 have lN12 := V6 hN12
 have bN12 := j5 lN12
 have HN12 := Lib.hid hN12
 clear hN12
 have c_N13 := g6 N10 N9 bN10 bN9
 obtain ⟨N13, hN13⟩ := z8 (N10 * N9 % PP)
 rw [← hN13] at c_N13
 have lN13 := V6 hN13
 have bN13 := j5 lN13
 have HN13 := Lib.hid hN13
 clear hN13
 have c_N14 := g6 N8 N5 bN8 bN5
 obtain ⟨N14, hN14⟩ := z8 (N8 * N5 % PP)
 rw [← hN14] at c_N14
 have lN14 := V6 hN14
 have bN14 := j5 lN14
 have HN14 := Lib.hid hN14
 clear hN14
 refine ⟨N11, N12, N13, N14, q8x h1 HN1.out HN2.out HN3.out HN4.out HN5.out HN6.out HN7.out HN8.out HN9.out HN10.out HN11.out HN12.out HN13.out HN14.out, fun w hG => ?_⟩
 have off0 : Off [] w w := Off.refl _ _
 go_enter Tryd.func85, Tryd.ntmps85
 go_upto_region 0 with fail
 refine wp_region_lit ?_
 refine Ln ?_ (z := p4 X1 Y1 Z1 T1) (t := 60)
 intro b7 W1 t8 hO h_
 replace off0 := off0.o hO
 have k_t1 := h_
 clear hO h_ t8
 refine Ln ?_ (z := p4 0 0 0 0) (t := 60)
 intro s9 W2 z4 hO h_
 have u7 := l4 off0 z4
 replace k_t1 := k_t1.o hO
 replace off0 := off0.o hO
 have k_t2 := h_
 clear hO h_ z4
 refine q5 ?_
 go_upto_region 1 with fail
 refine i6 10 [⟨10, 3, c4 0, 58⟩, ⟨11, 4, c4 0, 58⟩] (by kernel_rfl) ?_ (by kernel_rfl) ?_
 ·
  intro x hx
  simp only [List.mem_cons, List.not_mem_nil, or_false] at hx
  rcases hx with rfl | rfl <;> exact ⟨_, rfl, rfl, rfl, fun _ _ => by kernel_rfl⟩
 simp only [List.take_succ_cons, List.take_zero, List.take_nil]
 (try simp only [Act.put, mA, mB, mC])
 refine Xv ?_
 refine C6 ?_ (sub := c4 X1) (j := 0) k_t1 q0g
 refine Xv ?_
 refine C6 ?_ (sub := c4 X1) (j := 0) k_t1 q0g
 refine Xf ?_ (fun W hW => c_N1 W (q8 (q8 hG off0.ext) hW).1)
 refine Xv ?_
 refine C6 ?_ (sub := c4 Y1) (j := 4) k_t1 q2c
 refine Xv ?_
 refine C6 ?_ (sub := c4 Y1) (j := 4) k_t1 q2c
 refine Xf ?_ (fun W hW => c_N2 W (q8 (q8 hG off0.ext) hW).1)
 refine j7 ?_
 intro β W3 hE hN hD
 obtain ⟨m8, h_t3⟩ := hN _ (List.mem_cons_self ..)
 obtain ⟨a7, h_t4⟩ := hN _ (List.mem_cons_of_mem _ (List.mem_cons_self ..))
 have nq_t3_t4 := (hD _ (List.mem_cons_of_mem _ (List.mem_cons_self ..)) _ (List.mem_cons_self ..) (by decide)).symm
 clear hN hD
 simp only [n7, Act.put, mA, mB, mC, List.drop_succ_cons, List.drop_zero, List.drop_nil, List.length_cons, List.length_nil, Nat.add_zero] at m8 h_t3 a7 h_t4 nq_t3_t4 ⊢
 have hO := g8 hE
 generalize β 10 = q2b at *
 have y8c := bn k_t1 m8
 have nq_t2_t3 := bn k_t2 m8
 have K3 := l4 off0 m8
 generalize β 11 = q7i at *
 have q4c := bn k_t1 a7
 have nq_t2_t4 := bn k_t2 a7
 have Q9 := l4 off0 a7
 replace k_t1 := k_t1.o hO
 replace k_t2 := k_t2.o hO
 replace off0 := off0.o hO
 clear hO hE β m8 a7
 have k_t3 : Blk W3 q2b (c4 0) 58 := h_t3
 clear h_t3
 have k_t4 : Blk W3 q7i (c4 0) 58 := h_t4
 clear h_t4
 refine Lp ?_ k_t3 (cells := c4 N1)
 intro W4 hO h_
 replace k_t3 : Blk W4 q2b (c4 N1) 58 := h_
 clear h_
 replace k_t1 := k_t1.p hO y8c
 replace k_t2 := k_t2.p hO nq_t2_t3
 replace k_t4 := k_t4.p hO nq_t3_t4.symm
 replace off0 := off0.p hO K3
 clear hO
 refine Lp ?_ k_t4 (cells := c4 N2)
 intro W5 hO h_
 replace k_t4 : Blk W5 q7i (c4 N2) 58 := h_
 clear h_
 replace k_t1 := k_t1.p hO q4c
 replace k_t2 := k_t2.p hO nq_t2_t4
 replace k_t3 := k_t3.p hO nq_t3_t4
 replace off0 := off0.p hO Q9
 clear hO
 refine LN ?_
 go_upto_region 2 with fail
 refine wp_region_lit ?_
 refine Lv ?_
 refine z0 (vs := (c4 Z1).toList) (by rfl) rfl rfl k_t1 (J0 I8) (by kernel_rfl) (by kernel_rfl) ?_
 (try simp only [Act.put, mA, mB, mC])
 refine Lv ?_
 refine z0 (vs := (c4 Z1).toList) (by rfl) rfl rfl k_t1 (J0 I8) (by kernel_rfl) (by kernel_rfl) ?_
 (try simp only [Act.put, mA, mB, mC])
 refine Lr ?_ (c_N3 W5 (q8 hG off0.ext).1)
 intro W6 hO
 replace k_t1 := k_t1.o hO
 replace k_t2 := k_t2.o hO
 replace k_t3 := k_t3.o hO
 replace k_t4 := k_t4.o hO
 replace off0 := off0.o hO
 clear hO
 refine K8 ?_ (z := c4 0) (t := 58) (cells := c4 N3)
 intro j3v W8 h9 hO h_
 have nq_t1_t5 := bn k_t1 h9
 have nq_t2_t5 := bn k_t2 h9
 have nq_t3_t5 := bn k_t3 h9
 have nq_t4_t5 := bn k_t4 h9
 have q5s := l4 off0 h9
 replace k_t1 := k_t1.o hO
 replace k_t2 := k_t2.o hO
 replace k_t3 := k_t3.o hO
 replace k_t4 := k_t4.o hO
 replace off0 := off0.o hO
 have k_t5 := h_
 clear hO h_ h9
 refine q5 ?_
 go_upto_region 3 with fail
 refine wp_region_lit ?_
 refine L0 ?_ k_t5
 refine L0 ?_ k_t5
 refine Lr ?_ (c_N4 W8 (q8 hG off0.ext).1)
 intro W9 hO
 replace k_t1 := k_t1.o hO
 replace k_t2 := k_t2.o hO
 replace k_t3 := k_t3.o hO
 replace k_t4 := k_t4.o hO
 replace k_t5 := k_t5.o hO
 replace off0 := off0.o hO
 clear hO
 refine Lp ?_ k_t5 (cells := c4 N4)
 intro W10 hO h_
 replace k_t5 : Blk W10 j3v (c4 N4) 58 := h_
 clear h_
 replace k_t1 := k_t1.p hO nq_t1_t5
 replace k_t2 := k_t2.p hO nq_t2_t5
 replace k_t3 := k_t3.p hO nq_t3_t5
 replace k_t4 := k_t4.p hO nq_t4_t5
 replace off0 := off0.p hO q5s
 clear hO
 refine q5 ?_
 go_upto_region 4 with fail
 refine wp_region_lit ?_
 refine L0 ?_ k_t3
 refine L0 ?_ k_t4
 refine Lr ?_ (c_N5 W10 (q8 hG off0.ext).1)
 intro W11 hO
 replace k_t1 := k_t1.o hO
 replace k_t2 := k_t2.o hO
 replace k_t3 := k_t3.o hO
 replace k_t4 := k_t4.o hO
 replace k_t5 := k_t5.o hO
 replace off0 := off0.o hO
 clear hO
 refine K8 ?_ (z := c4 0) (t := 58) (cells := c4 N5)
 intro x0i W13 i7 hO h_
 replace k_t1 := k_t1.o hO
 replace k_t2 := k_t2.o hO
 replace k_t3 := k_t3.o hO
 replace k_t4 := k_t4.o hO
 replace k_t5 := k_t5.o hO
 replace off0 := off0.o hO
 have k_t6 := h_
 clear hO h_ i7
 refine q5 ?_
 go_upto_region 5 with fail
 refine wp_region_lit ?_
 refine Lv ?_
 refine z0 (vs := (c4 X1).toList) (by rfl) rfl rfl k_t1 (J0 q0g) (by kernel_rfl) (by kernel_rfl) ?_
 (try simp only [Act.put, mA, mB, mC])
 refine Lv ?_
 refine z0 (vs := (c4 Y1).toList) (by rfl) rfl rfl k_t1 (J0 q2c) (by kernel_rfl) (by kernel_rfl) ?_
 (try simp only [Act.put, mA, mB, mC])
 refine Lr ?_ (c_N6 W13 (q8 hG off0.ext).1)
 intro W14 hO
 replace k_t2 := k_t2.o hO
 replace k_t3 := k_t3.o hO
 replace k_t4 := k_t4.o hO
 replace k_t5 := k_t5.o hO
 replace k_t6 := k_t6.o hO
 replace off0 := off0.o hO
 clear hO
 refine K8 ?_ (z := c4 0) (t := 58) (cells := c4 N6)
 intro x0j W16 u9 hO h_
 replace k_t2 := k_t2.o hO
 replace k_t3 := k_t3.o hO
 replace k_t4 := k_t4.o hO
 replace k_t5 := k_t5.o hO
 replace k_t6 := k_t6.o hO
 replace off0 := off0.o hO
 have k_t7 := h_
 clear hO h_ u9
 refine q5 ?_
 go_upto_region 6 with fail
 refine Rx1 5 8 (z := c4 0) (t := 58) ?_
 refine Xl ?_ k_t6
 refine Xl ?_ k_t7
 refine Xl ?_ k_t7
 refine Xf ?_ (fun W hW => c_N7 W (q8 (q8 hG off0.ext) hW).1)
 refine Xf ?_ (fun W hW => c_N8 W (q8 (q8 hG off0.ext) hW).1)
 refine XN ?_
 intro j7h W17 n3 hE h_t8
 have hO := g8 hE
 have Z5 := bn k_t2 n3
 have y8d := bn k_t3 n3
 have nq_t4_t8 := bn k_t4 n3
 have q4d := bn k_t5 n3
 have q4e := bn k_t6 n3
 have R6 := l4 off0 n3
 replace k_t2 := k_t2.o hO
 replace k_t3 := k_t3.o hO
 replace k_t4 := k_t4.o hO
 replace k_t5 := k_t5.o hO
 replace k_t6 := k_t6.o hO
 replace off0 := off0.o hO
 clear hO hE n3
 have k_t8 : Blk W17 j7h (c4 0) 58 := h_t8
 clear h_t8
 refine Lp ?_ k_t8 (cells := c4 N8)
 intro W18 hO h_
 replace k_t8 : Blk W18 j7h (c4 N8) 58 := h_
 clear h_
 replace k_t2 := k_t2.p hO Z5
 replace k_t3 := k_t3.p hO y8d
 replace k_t4 := k_t4.p hO nq_t4_t8
 replace k_t5 := k_t5.p hO q4d
 replace k_t6 := k_t6.p hO q4e
 replace off0 := off0.p hO R6
 clear hO
 refine LN ?_
 go_upto_region 7 with fail
 refine wp_region_lit ?_
 refine L0 ?_ k_t3
 refine L0 ?_ k_t4
 refine Lr ?_ (c_N9 W18 (q8 hG off0.ext).1)
 intro W19 hO
 replace k_t2 := k_t2.o hO
 replace k_t5 := k_t5.o hO
 replace k_t6 := k_t6.o hO
 replace k_t8 := k_t8.o hO
 replace off0 := off0.o hO
 clear hO
 refine K8 ?_ (z := c4 0) (t := 58) (cells := c4 N9)
 intro x0k W21 C4 hO h_
 replace k_t2 := k_t2.o hO
 replace k_t5 := k_t5.o hO
 replace k_t6 := k_t6.o hO
 replace k_t8 := k_t8.o hO
 replace off0 := off0.o hO
 have k_t9 := h_
 clear hO h_ C4
 refine q5 ?_
 go_upto_region 8 with fail
 refine wp_region_lit ?_
 refine L0 ?_ k_t5
 refine L0 ?_ k_t9
 refine Lr ?_ (c_N10 W21 (q8 hG off0.ext).1)
 intro W22 hO
 replace k_t2 := k_t2.o hO
 replace k_t6 := k_t6.o hO
 replace k_t8 := k_t8.o hO
 replace k_t9 := k_t9.o hO
 replace off0 := off0.o hO
 clear hO
 refine K8 ?_ (z := c4 0) (t := 58) (cells := c4 N10)
 intro g8f W24 l5 hO h_
 replace k_t2 := k_t2.o hO
 replace k_t6 := k_t6.o hO
 replace k_t8 := k_t8.o hO
 replace k_t9 := k_t9.o hO
 replace off0 := off0.o hO
 have k_t10 := h_
 clear hO h_ l5
 refine q5 ?_
 go_upto_region 9 with fail
 refine Rx 13 ?_
 refine Xl ?_ k_t8
 refine Xl ?_ k_t10
 refine Xf ?_ (fun W hW => c_N11 W (q8 (q8 hG off0.ext) hW).1)
 refine Xl ?_ k_t9
 refine Xl ?_ k_t6
 refine Xf ?_ (fun W hW => c_N12 W (q8 (q8 hG off0.ext) hW).1)
 refine Xl ?_ k_t10
 refine Xl ?_ k_t9
 refine Xf ?_ (fun W hW => c_N13 W (q8 (q8 hG off0.ext) hW).1)
 refine Xl ?_ k_t8
 refine Xl ?_ k_t6
 refine Xf ?_ (fun W hW => c_N14 W (q8 (q8 hG off0.ext) hW).1)
 refine Xw ?_ (v := .agg (p4 N11 N12 N13 N14)) (hv := fun _ _ => by kernel_rfl)
 refine j7 fun W25 hE => ?_
 have hO := g8 hE
 replace k_t2 := k_t2.o hO
 replace off0 := off0.o hO
 clear hO hE
 refine Lp ?_ k_t2 (cells := p4 N11 N12 N13 N14)
 intro W26 hO h_
 replace k_t2 : Blk W26 s9 (p4 N11 N12 N13 N14) 60 := h_
 clear h_
 replace off0 := off0.p hO u7
 clear hO
 refine LN ?_
 go_wp2
 exact bodyPost_ret (v5 rfl rfl k_t2 (by kernel_rfl) (by kernel_rfl)) rfl ⟨rfl, off0.ext⟩
theorem y0l (hd : kn.d) {X1 Y1 Z1 T1 : Nat} {p1 : Pr} {X2 Y2 Z2 T2 : Nat} {p2 : Pr} (h1 : RW X1 Y1 Z1 T1 p1) (h2 : RW X2 Y2 Z2 T2 p2) :
  ∃ X Y Z T, RN X Y Z T (u5 p1 p2) ∧ ∀ w, GE kn w → Calls Tryd.prog 39 #[.agg (p4 X1 Y1 Z1 T1), .agg (p4 X2 Y2 Z2 T2)] w fun e w' => m7 (.agg (p4 X Y Z T)) w w' e := by
 obtain ⟨x1, y2, z3, t4, r5, c6⟩ := Z0 (kn := kn) h1
 obtain ⟨x7, y8, z9, t10, r11, c12⟩ := Z0 (kn := kn) h2
 have c_N13 := R4 y2 x1 (j5 r5.y) (j5 r5.x)
 obtain ⟨N13, hN13⟩ := z8 ((y2 + (PP - x1 % PP)) % PP)
 rw [← hN13] at c_N13
 have lN13 := V6 hN13
 have bN13 := j5 lN13
 have HN13 := Lib.hid hN13
 clear hN13
 have c_N14 := R4 y8 x7 (j5 r11.y) (j5 r11.x)
 obtain ⟨N14, hN14⟩ := z8 ((y8 + (PP - x7 % PP)) % PP)
 rw [← hN14] at c_N14
 have lN14 := V6 hN14
 have bN14 := j5 lN14
 have HN14 := Lib.hid hN14
 clear hN14
 have c_N15 := g6 N13 N14 bN13 bN14
 obtain ⟨N15, hN15⟩ := z8 (N13 * N14 % PP)
 rw [← hN15] at c_N15
 have lN15 := V6 hN15
 have bN15 := j5 lN15
 have HN15 := Lib.hid hN15
 clear hN15
 have c_N16 := D7 y2 x1 (j5 r5.y) (j5 r5.x)
 obtain ⟨N16, hN16⟩ := z8 ((y2 + x1) % PP)
 rw [← hN16] at c_N16
 have lN16 := V6 hN16
 have bN16 := j5 lN16
 have HN16 := Lib.hid hN16
 clear hN16
 have c_N17 := D7 y8 x7 (j5 r11.y) (j5 r11.x)
 obtain ⟨N17, hN17⟩ := z8 ((y8 + x7) % PP)
 rw [← hN17] at c_N17
 have lN17 := V6 hN17
 have bN17 := j5 lN17
 have HN17 := Lib.hid hN17
 clear hN17
 have c_N18 := g6 N16 N17 bN16 bN17
 obtain ⟨N18, hN18⟩ := z8 (N16 * N17 % PP)
 rw [← hN18] at c_N18
 have lN18 := V6 hN18
 have bN18 := j5 lN18
 have HN18 := Lib.hid hN18
 clear hN18
 have c_N19 := g6 t4 D2 (j5 r5.t) g3o
 obtain ⟨N19, hN19⟩ := z8 (t4 * D2 % PP)
 rw [← hN19] at c_N19
 have lN19 := V6 hN19
 have bN19 := j5 lN19
 have HN19 := Lib.hid hN19
 clear hN19
 have c_N20 := g6 N19 t10 bN19 (j5 r11.t)
 obtain ⟨N20, hN20⟩ := z8 (N19 * t10 % PP)
 rw [← hN20] at c_N20
 have lN20 := V6 hN20
 have bN20 := j5 lN20
 have HN20 := Lib.hid hN20
 clear hN20
 have c_N21 := D7 z3 z3 (j5 r5.z) (j5 r5.z)
 obtain ⟨N21, hN21⟩ := z8 ((z3 + z3) % PP)
 rw [← hN21] at c_N21
 have lN21 := V6 hN21
 have bN21 := j5 lN21
 have HN21 := Lib.hid hN21
 clear hN21
 have c_N22 := g6 N21 z9 bN21 (j5 r11.z)
 obtain ⟨N22, hN22⟩ := z8 (N21 * z9 % PP)
 rw [← hN22] at c_N22
 have lN22 := V6 hN22
 have bN22 := j5 lN22
 have HN22 := Lib.hid hN22
 clear hN22
 have c_N23 := R4 N18 N15 bN18 bN15
 obtain ⟨N23, hN23⟩ := z8 ((N18 + (PP - N15 % PP)) % PP)
 rw [← hN23] at c_N23
 have lN23 := V6 hN23
 have bN23 := j5 lN23
 have HN23 := Lib.hid hN23
 clear hN23
 have c_N24 := R4 N22 N20 bN22 bN20
 obtain ⟨N24, hN24⟩ := z8 ((N22 + (PP - N20 % PP)) % PP)
 rw [← hN24] at c_N24
 have lN24 := V6 hN24
 have bN24 := j5 lN24
 have HN24 := Lib.hid hN24
 clear hN24
 have c_N25 := D7 N22 N20 bN22 bN20
 obtain ⟨N25, hN25⟩ := z8 ((N22 + N20) % PP)
 rw [← hN25] at c_N25
 have lN25 := V6 hN25
 have bN25 := j5 lN25
 have HN25 := Lib.hid hN25
 clear hN25
 have c_N26 := D7 N18 N15 bN18 bN15
 obtain ⟨N26, hN26⟩ := z8 ((N18 + N15) % PP)
 rw [← hN26] at c_N26
 have lN26 := V6 hN26
 have bN26 := j5 lN26
 have HN26 := Lib.hid hN26
 clear hN26
 have c_N27 := g6 N23 N24 bN23 bN24
 obtain ⟨N27, hN27⟩ := z8 (N23 * N24 % PP)
 rw [← hN27] at c_N27
 have lN27 := V6 hN27
 have bN27 := j5 lN27
 have HN27 := Lib.hid hN27
 clear hN27
 have c_N28 := g6 N25 N26 bN25 bN26
 obtain ⟨N28, hN28⟩ := z8 (N25 * N26 % PP)
 rw [← hN28] at c_N28
 have lN28 := V6 hN28
 have bN28 := j5 lN28
 have HN28 := Lib.hid hN28
 clear hN28
 have c_N29 := g6 N24 N25 bN24 bN25
 obtain ⟨N29, hN29⟩ := z8 (N24 * N25 % PP)
 rw [← hN29] at c_N29
 have lN29 := V6 hN29
 have bN29 := j5 lN29
 have HN29 := Lib.hid hN29
 clear hN29
 have c_N30 := g6 N23 N26 bN23 bN26
 obtain ⟨N30, hN30⟩ := z8 (N23 * N26 % PP)
 rw [← hN30] at c_N30
 have lN30 := V6 hN30
 have bN30 := j5 lN30
 have HN30 := Lib.hid hN30
 clear hN30
 refine ⟨N27, N28, N29, N30, y8e r5 r11 HN13.out HN14.out HN15.out HN16.out HN17.out HN18.out HN19.out HN20.out HN21.out HN22.out HN23.out HN24.out HN25.out HN26.out HN27.out HN28.out HN29.out HN30.out, fun w hG => ?_⟩
 have off0 : Off [] w w := Off.refl _ _
 go_enter Tryd.func39, Tryd.ntmps39
 go_upto_region 0 with fail
 refine wp_region_lit ?_
 refine Ln ?_ (z := p4 X1 Y1 Z1 T1) (t := 60)
 intro v9 W1 z4 hO h_
 have u7 := l4 off0 z4
 replace off0 := off0.o hO
 have k_t2 := h_
 clear hO h_ z4
 refine Ln ?_ (z := p4 X2 Y2 Z2 T2) (t := 60)
 intro M4 W2 m8 hO h_
 have nq_t2_t3 := bn k_t2 m8
 have K3 := l4 off0 m8
 replace k_t2 := k_t2.o hO
 replace off0 := off0.o hO
 have k_t3 := h_
 clear hO h_ m8
 refine Ln ?_ (z := p4 0 0 0 0) (t := 60)
 intro q7i W3 a7 hO h_
 have nq_t2_t4 := bn k_t2 a7
 have nq_t3_t4 := bn k_t3 a7
 have Q9 := l4 off0 a7
 replace k_t2 := k_t2.o hO
 replace k_t3 := k_t3.o hO
 replace off0 := off0.o hO
 have k_t4 := h_
 clear hO h_ a7
 refine q5 ?_
 go_upto_region 1 with fail
 refine Rx 4 ?_
 refine Xl ?_ k_t2
 refine Xf ?_ (fun W hW => c6 W (q8 (q8 hG off0.ext) hW))
 refine Xl ?_ k_t3
 refine Xf ?_ (fun W hW => c12 W (q8 (q8 hG off0.ext) hW))
 refine j7 fun W4 hE => ?_
 have hO := g8 hE
 replace k_t2 := k_t2.o hO
 replace k_t3 := k_t3.o hO
 replace k_t4 := k_t4.o hO
 replace off0 := off0.o hO
 clear hO hE
 refine Lp ?_ k_t2 (cells := p4 x1 y2 z3 t4)
 intro W5 hO h_
 replace k_t2 : Blk W5 v9 (p4 x1 y2 z3 t4) 60 := h_
 clear h_
 replace k_t3 := k_t3.p hO nq_t2_t3.symm
 replace k_t4 := k_t4.p hO nq_t2_t4.symm
 replace off0 := off0.p hO u7
 clear hO
 refine Lp ?_ k_t3 (cells := p4 x7 y8 z9 t10)
 intro W6 hO h_
 replace k_t3 : Blk W6 M4 (p4 x7 y8 z9 t10) 60 := h_
 clear h_
 replace k_t2 := k_t2.p hO nq_t2_t3
 replace k_t4 := k_t4.p hO nq_t3_t4.symm
 replace off0 := off0.p hO K3
 clear hO
 refine LN ?_
 go_upto_region 2 with fail
 refine Rx1 11 5 (z := c4 0) (t := 58) ?_
 refine Xv ?_
 refine C6 ?_ (sub := c4 y2) (j := 4) k_t2 q2c
 refine Xv ?_
 refine C6 ?_ (sub := c4 x1) (j := 0) k_t2 q0g
 refine Xf ?_ (fun W hW => c_N13 W (q8 (q8 hG off0.ext) hW).1)
 refine Xv ?_
 refine C6 ?_ (sub := c4 y8) (j := 4) k_t3 q2c
 refine Xv ?_
 refine C6 ?_ (sub := c4 x7) (j := 0) k_t3 q0g
 refine Xf ?_ (fun W hW => c_N14 W (q8 (q8 hG off0.ext) hW).1)
 refine Xf ?_ (fun W hW => c_N15 W (q8 (q8 hG off0.ext) hW).1)
 refine XN ?_
 intro j3v W7 h9 hE h_t5
 have hO := g8 hE
 have nq_t2_t5 := bn k_t2 h9
 have nq_t3_t5 := bn k_t3 h9
 have nq_t4_t5 := bn k_t4 h9
 have q5s := l4 off0 h9
 replace k_t2 := k_t2.o hO
 replace k_t3 := k_t3.o hO
 replace k_t4 := k_t4.o hO
 replace off0 := off0.o hO
 clear hO hE h9
 have k_t5 : Blk W7 j3v (c4 0) 58 := h_t5
 clear h_t5
 refine Lp ?_ k_t5 (cells := c4 N15)
 intro W8 hO h_
 replace k_t5 : Blk W8 j3v (c4 N15) 58 := h_
 clear h_
 replace k_t2 := k_t2.p hO nq_t2_t5
 replace k_t3 := k_t3.p hO nq_t3_t5
 replace k_t4 := k_t4.p hO nq_t4_t5
 replace off0 := off0.p hO q5s
 clear hO
 refine LN ?_
 go_upto_region 3 with fail
 refine Rx1 11 6 (z := c4 0) (t := 58) ?_
 refine Xv ?_
 refine C6 ?_ (sub := c4 y2) (j := 4) k_t2 q2c
 refine Xv ?_
 refine C6 ?_ (sub := c4 x1) (j := 0) k_t2 q0g
 refine Xf ?_ (fun W hW => c_N16 W (q8 (q8 hG off0.ext) hW).1)
 refine Xv ?_
 refine C6 ?_ (sub := c4 y8) (j := 4) k_t3 q2c
 refine Xv ?_
 refine C6 ?_ (sub := c4 x7) (j := 0) k_t3 q0g
 refine Xf ?_ (fun W hW => c_N17 W (q8 (q8 hG off0.ext) hW).1)
 refine Xf ?_ (fun W hW => c_N18 W (q8 (q8 hG off0.ext) hW).1)
 refine XN ?_
 intro y4u W9 i7 hE h_t6
 have hO := g8 hE
 have nq_t2_t6 := bn k_t2 i7
 have q4f := bn k_t3 i7
 have q4g := bn k_t4 i7
 have R7 := bn k_t5 i7
 have K4 := l4 off0 i7
 replace k_t2 := k_t2.o hO
 replace k_t3 := k_t3.o hO
 replace k_t4 := k_t4.o hO
 replace k_t5 := k_t5.o hO
 replace off0 := off0.o hO
 clear hO hE i7
 have k_t6 : Blk W9 y4u (c4 0) 58 := h_t6
 clear h_t6
 refine Lp ?_ k_t6 (cells := c4 N18)
 intro W10 hO h_
 replace k_t6 : Blk W10 y4u (c4 N18) 58 := h_
 clear h_
 replace k_t2 := k_t2.p hO nq_t2_t6
 replace k_t3 := k_t3.p hO q4f
 replace k_t4 := k_t4.p hO q4g
 replace k_t5 := k_t5.p hO R7
 replace off0 := off0.p hO K4
 clear hO
 refine LN ?_
 go_upto_region 4 with fail
 refine Rx1 7 7 (z := c4 0) (t := 58) ?_
 refine Xv ?_
 refine C6 ?_ (sub := c4 t4) (j := 12) k_t2 j9e
 refine XR ?_ ((q8 hG off0.ext).2.2.2.1 hd)
 refine Xf ?_ (fun W hW => c_N19 W (q8 (q8 hG off0.ext) hW).1)
 refine Xv ?_
 refine C6 ?_ (sub := c4 t10) (j := 12) k_t3 j9e
 refine Xf ?_ (fun W hW => c_N20 W (q8 (q8 hG off0.ext) hW).1)
 refine XN ?_
 intro Y0 W11 u9 hE h_t7
 have hO := g8 hE
 have nq_t2_t7 := bn k_t2 u9
 have nq_t3_t7 := bn k_t3 u9
 have nq_t4_t7 := bn k_t4 u9
 have o7 := bn k_t5 u9
 have J1 := bn k_t6 u9
 have M6 := l4 off0 u9
 replace k_t2 := k_t2.o hO
 replace k_t3 := k_t3.o hO
 replace k_t4 := k_t4.o hO
 replace k_t5 := k_t5.o hO
 replace k_t6 := k_t6.o hO
 replace off0 := off0.o hO
 clear hO hE u9
 have k_t7 : Blk W11 Y0 (c4 0) 58 := h_t7
 clear h_t7
 refine Lp ?_ k_t7 (cells := c4 N20)
 intro W12 hO h_
 replace k_t7 : Blk W12 Y0 (c4 N20) 58 := h_
 clear h_
 replace k_t2 := k_t2.p hO nq_t2_t7
 replace k_t3 := k_t3.p hO nq_t3_t7
 replace k_t4 := k_t4.p hO nq_t4_t7
 replace k_t5 := k_t5.p hO o7
 replace k_t6 := k_t6.p hO J1
 replace off0 := off0.p hO M6
 clear hO
 refine LN ?_
 go_upto_region 5 with fail
 refine Rx1 8 8 (z := c4 0) (t := 58) ?_
 refine Xv ?_
 refine C6 ?_ (sub := c4 z3) (j := 8) k_t2 I8
 refine Xv ?_
 refine C6 ?_ (sub := c4 z3) (j := 8) k_t2 I8
 refine Xf ?_ (fun W hW => c_N21 W (q8 (q8 hG off0.ext) hW).1)
 refine Xv ?_
 refine C6 ?_ (sub := c4 z9) (j := 8) k_t3 I8
 refine Xf ?_ (fun W hW => c_N22 W (q8 (q8 hG off0.ext) hW).1)
 refine XN ?_
 intro j7i W13 n3 hE h_t8
 have hO := g8 hE
 have nq_t4_t8 := bn k_t4 n3
 have q4d := bn k_t5 n3
 have q4e := bn k_t6 n3
 have M7 := bn k_t7 n3
 have R6 := l4 off0 n3
 replace k_t4 := k_t4.o hO
 replace k_t5 := k_t5.o hO
 replace k_t6 := k_t6.o hO
 replace k_t7 := k_t7.o hO
 replace off0 := off0.o hO
 clear hO hE n3
 have k_t8 : Blk W13 j7i (c4 0) 58 := h_t8
 clear h_t8
 refine Lp ?_ k_t8 (cells := c4 N22)
 intro W14 hO h_
 replace k_t8 : Blk W14 j7i (c4 N22) 58 := h_
 clear h_
 replace k_t4 := k_t4.p hO nq_t4_t8
 replace k_t5 := k_t5.p hO q4d
 replace k_t6 := k_t6.p hO q4e
 replace k_t7 := k_t7.p hO M7
 replace off0 := off0.p hO R6
 clear hO
 refine LN ?_
 go_upto_region 6 with fail
 refine i6 12 [⟨12, 9, c4 0, 58⟩, ⟨13, 10, c4 0, 58⟩, ⟨14, 11, c4 0, 58⟩, ⟨15, 12, c4 0, 58⟩] (by kernel_rfl) ?_ (by kernel_rfl) ?_
 ·
  intro x hx
  simp only [List.mem_cons, List.not_mem_nil, or_false] at hx
  rcases hx with rfl | rfl | rfl | rfl <;> exact ⟨_, rfl, rfl, rfl, fun _ _ => by kernel_rfl⟩
 simp only [List.take_succ_cons, List.take_zero, List.take_nil]
 (try simp only [Act.put, mA, mB, mC])
 refine Xl ?_ k_t6
 refine Xl ?_ k_t5
 refine Xf ?_ (fun W hW => c_N23 W (q8 (q8 hG off0.ext) hW).1)
 refine Xl ?_ k_t8
 refine Xl ?_ k_t7
 refine Xf ?_ (fun W hW => c_N24 W (q8 (q8 hG off0.ext) hW).1)
 refine Xl ?_ k_t8
 refine Xl ?_ k_t7
 refine Xf ?_ (fun W hW => c_N25 W (q8 (q8 hG off0.ext) hW).1)
 refine Xl ?_ k_t6
 refine Xl ?_ k_t5
 refine Xf ?_ (fun W hW => c_N26 W (q8 (q8 hG off0.ext) hW).1)
 refine j7 ?_
 intro β W15 hE hN hD
 obtain ⟨C4, h_t9⟩ := hN _ (List.mem_cons_self ..)
 obtain ⟨l5, h_t10⟩ := hN _ (List.mem_cons_of_mem _ (List.mem_cons_self ..))
 have nq_t9_t10 := (hD _ (List.mem_cons_of_mem _ (List.mem_cons_self ..)) _ (List.mem_cons_self ..) (by decide)).symm
 obtain ⟨x6, h_t11⟩ := hN _ (List.mem_cons_of_mem _ (List.mem_cons_of_mem _ (List.mem_cons_self ..)))
 have nq_t9_t11 := (hD _ (List.mem_cons_of_mem _ (List.mem_cons_of_mem _ (List.mem_cons_self ..))) _ (List.mem_cons_self ..) (by decide)).symm
 have nq_t10_t11 := (hD _ (List.mem_cons_of_mem _ (List.mem_cons_of_mem _ (List.mem_cons_self ..))) _ (List.mem_cons_of_mem _ (List.mem_cons_self ..)) (by decide)).symm
 obtain ⟨R8, h_t12⟩ := hN _ (List.mem_cons_of_mem _ (List.mem_cons_of_mem _ (List.mem_cons_of_mem _ (List.mem_cons_self ..))))
 have nq_t9_t12 := (hD _ (List.mem_cons_of_mem _ (List.mem_cons_of_mem _ (List.mem_cons_of_mem _ (List.mem_cons_self ..)))) _ (List.mem_cons_self ..) (by decide)).symm
 have nq_t10_t12 := (hD _ (List.mem_cons_of_mem _ (List.mem_cons_of_mem _ (List.mem_cons_of_mem _ (List.mem_cons_self ..)))) _ (List.mem_cons_of_mem _ (List.mem_cons_self ..)) (by decide)).symm
 have nq_t11_t12 := (hD _ (List.mem_cons_of_mem _ (List.mem_cons_of_mem _ (List.mem_cons_of_mem _ (List.mem_cons_self ..)))) _ (List.mem_cons_of_mem _ (List.mem_cons_of_mem _ (List.mem_cons_self ..))) (by decide)).symm
 clear hN hD
 simp only [n7, Act.put, mA, mB, mC, List.drop_succ_cons, List.drop_zero, List.drop_nil, List.length_cons, List.length_nil, Nat.add_zero] at C4 h_t9 l5 h_t10 x6 h_t11 R8 h_t12 nq_t9_t10 nq_t9_t11 nq_t10_t11 nq_t9_t12 nq_t10_t12 nq_t11_t12 ⊢
 have hO := g8 hE
 generalize β 12 = j7j at *
 have y8f := bn k_t4 C4
 have q4h := l4 off0 C4
 generalize β 13 = y8g at *
 have y4v := bn k_t4 l5
 have M8 := l4 off0 l5
 generalize β 14 = y8h at *
 have t9 := bn k_t4 x6
 have t0 := l4 off0 x6
 generalize β 15 = y8i at *
 have y4w := bn k_t4 R8
 have j9f := l4 off0 R8
 replace k_t4 := k_t4.o hO
 replace off0 := off0.o hO
 clear hO hE β C4 l5 x6 R8
 have k_t9 : Blk W15 j7j (c4 0) 58 := h_t9
 clear h_t9
 have k_t10 : Blk W15 y8g (c4 0) 58 := h_t10
 clear h_t10
 have k_t11 : Blk W15 y8h (c4 0) 58 := h_t11
 clear h_t11
 have k_t12 : Blk W15 y8i (c4 0) 58 := h_t12
 clear h_t12
 refine Lp ?_ k_t9 (cells := c4 N23)
 intro W16 hO h_
 replace k_t9 : Blk W16 j7j (c4 N23) 58 := h_
 clear h_
 replace k_t4 := k_t4.p hO y8f
 replace k_t10 := k_t10.p hO nq_t9_t10.symm
 replace k_t11 := k_t11.p hO nq_t9_t11.symm
 replace k_t12 := k_t12.p hO nq_t9_t12.symm
 replace off0 := off0.p hO q4h
 clear hO
 refine Lp ?_ k_t10 (cells := c4 N24)
 intro W17 hO h_
 replace k_t10 : Blk W17 y8g (c4 N24) 58 := h_
 clear h_
 replace k_t4 := k_t4.p hO y4v
 replace k_t9 := k_t9.p hO nq_t9_t10
 replace k_t11 := k_t11.p hO nq_t10_t11.symm
 replace k_t12 := k_t12.p hO nq_t10_t12.symm
 replace off0 := off0.p hO M8
 clear hO
 refine Lp ?_ k_t11 (cells := c4 N25)
 intro W18 hO h_
 replace k_t11 : Blk W18 y8h (c4 N25) 58 := h_
 clear h_
 replace k_t4 := k_t4.p hO t9
 replace k_t9 := k_t9.p hO nq_t9_t11
 replace k_t10 := k_t10.p hO nq_t10_t11
 replace k_t12 := k_t12.p hO nq_t11_t12.symm
 replace off0 := off0.p hO t0
 clear hO
 refine Lp ?_ k_t12 (cells := c4 N26)
 intro W19 hO h_
 replace k_t12 : Blk W19 y8i (c4 N26) 58 := h_
 clear h_
 replace k_t4 := k_t4.p hO y4w
 replace k_t9 := k_t9.p hO nq_t9_t12
 replace k_t10 := k_t10.p hO nq_t10_t12
 replace k_t11 := k_t11.p hO nq_t11_t12
 replace off0 := off0.p hO j9f
 clear hO
 refine LN ?_
 go_upto_region 7 with fail
 refine Rx 13 ?_
 refine Xl ?_ k_t9
 refine Xl ?_ k_t10
 refine Xf ?_ (fun W hW => c_N27 W (q8 (q8 hG off0.ext) hW).1)
 refine Xl ?_ k_t11
 refine Xl ?_ k_t12
 refine Xf ?_ (fun W hW => c_N28 W (q8 (q8 hG off0.ext) hW).1)
 refine Xl ?_ k_t10
 refine Xl ?_ k_t11
 refine Xf ?_ (fun W hW => c_N29 W (q8 (q8 hG off0.ext) hW).1)
 refine Xl ?_ k_t9
 refine Xl ?_ k_t12
 refine Xf ?_ (fun W hW => c_N30 W (q8 (q8 hG off0.ext) hW).1)
 refine Xw ?_ (v := .agg (p4 N27 N28 N29 N30)) (hv := fun _ _ => by kernel_rfl)
 refine j7 fun W20 hE => ?_
 have hO := g8 hE
 replace k_t4 := k_t4.o hO
 replace off0 := off0.o hO
 clear hO hE
 refine Lp ?_ k_t4 (cells := p4 N27 N28 N29 N30)
 intro W21 hO h_
 replace k_t4 : Blk W21 q7i (p4 N27 N28 N29 N30) 60 := h_
 clear h_
 replace off0 := off0.p hO Q9
 clear hO
 refine LN ?_
 go_wp2
 exact bodyPost_ret (v5 rfl rfl k_t4 (by kernel_rfl) (by kernel_rfl)) rfl ⟨rfl, off0.ext⟩
theorem y8j {X1 Y1 Z1 T1 : Nat} {p1 : Pr} (h1 : RW X1 Y1 Z1 T1 p1) :
  ∃ X Y Z T, RN X Y Z T (G1 p1) ∧ ∀ w, GE kn w → Calls Tryd.prog 56 #[.agg (p4 X1 Y1 Z1 T1)] w fun e w' => m7 (.agg (p4 X Y Z T)) w w' e := by
 obtain ⟨x1, y2, z3, t4, r5, c6⟩ := Z0 (kn := kn) h1
 have c_N7 := q0l x1 (j5 r5.x)
 obtain ⟨N7, hN7⟩ := z8 ((PP - x1 % PP) % PP)
 rw [← hN7] at c_N7
 have lN7 := V6 hN7
 have bN7 := j5 lN7
 have HN7 := Lib.hid hN7
 clear hN7
 have c_N8 := q0l t4 (j5 r5.t)
 obtain ⟨N8, hN8⟩ := z8 ((PP - t4 % PP) % PP)
 rw [← hN8] at c_N8
 have lN8 := V6 hN8
 have bN8 := j5 lN8
 have HN8 := Lib.hid hN8
 clear hN8
 refine ⟨N7, y2, z3, N8, j9g r5 HN7.out HN8.out, fun w hG => ?_⟩
 have off0 : Off [] w w := Off.refl _ _
 go_enter Tryd.func56, Tryd.ntmps56
 go_upto_region 0 with fail
 refine wp_region_lit ?_
 refine Ln ?_ (z := p4 X1 Y1 Z1 T1) (t := 60)
 intro b7 W1 t8 hO h_
 have q1f := l4 off0 t8
 replace off0 := off0.o hO
 have k_t1 := h_
 clear hO h_ t8
 refine Ln ?_ (z := p4 0 0 0 0) (t := 60)
 intro s9 W2 z4 hO h_
 have nq_t1_t2 := bn k_t1 z4
 have u7 := l4 off0 z4
 replace k_t1 := k_t1.o hO
 replace off0 := off0.o hO
 have k_t2 := h_
 clear hO h_ z4
 refine q5 ?_
 go_upto_region 1 with fail
 refine wp_region_lit ?_
 refine L0 ?_ k_t1
 refine Lr ?_ (c6 W2 (q8 hG off0.ext))
 intro W3 hO
 replace k_t1 := k_t1.o hO
 replace k_t2 := k_t2.o hO
 replace off0 := off0.o hO
 clear hO
 refine Lp ?_ k_t1 (cells := p4 x1 y2 z3 t4)
 intro W4 hO h_
 replace k_t1 : Blk W4 b7 (p4 x1 y2 z3 t4) 60 := h_
 clear h_
 replace k_t2 := k_t2.p hO nq_t1_t2.symm
 replace off0 := off0.p hO q1f
 clear hO
 refine q5 ?_
 go_upto_region 2 with fail
 refine Rx 11 ?_
 refine Xv ?_
 refine C6 ?_ (sub := c4 x1) (j := 0) k_t1 q0g
 refine Xf ?_ (fun W hW => c_N7 W (q8 (q8 hG off0.ext) hW).1)
 refine Xv ?_
 refine C6 ?_ (sub := c4 y2) (j := 4) k_t1 q2c
 refine Xv ?_
 refine C6 ?_ (sub := c4 z3) (j := 8) k_t1 I8
 refine Xv ?_
 refine C6 ?_ (sub := c4 t4) (j := 12) k_t1 j9e
 refine Xf ?_ (fun W hW => c_N8 W (q8 (q8 hG off0.ext) hW).1)
 refine Xw ?_ (v := .agg (p4 N7 y2 z3 N8)) (hv := fun _ _ => by kernel_rfl)
 refine j7 fun W5 hE => ?_
 have hO := g8 hE
 replace k_t2 := k_t2.o hO
 replace off0 := off0.o hO
 clear hO hE
 refine Lp ?_ k_t2 (cells := p4 N7 y2 z3 N8)
 intro W6 hO h_
 replace k_t2 : Blk W6 s9 (p4 N7 y2 z3 N8) 60 := h_
 clear h_
 replace off0 := off0.p hO u7
 clear hO
 refine LN ?_
 go_wp2
 exact bodyPost_ret (v5 rfl rfl k_t2 (by kernel_rfl) (by kernel_rfl)) rfl ⟨rfl, off0.ext⟩
theorem pm8 {a : Pr} (h : s8 a) : pm a 8 = u5 (u5 (u5 a a) (u5 a a)) (u5 (u5 a a) (u5 a a)) := by
  rw [show 8 = 2 * (2 * (2 * 1)) from rfl, E9 h, E9 h, E9 h, y0m]
theorem F0 {X1 Y1 Z1 T1 : Nat} {p1 : Pr} (h1 : RW X1 Y1 Z1 T1 p1) :
  ∃ X Y Z T, RN X Y Z T (pm p1 8) ∧ ∀ w, GE kn w → Calls Tryd.prog 40 #[.agg (p4 X1 Y1 Z1 T1)] w fun e w' => m7 (.agg (p4 X Y Z T)) w w' e := by
 obtain ⟨x1, y2, z3, t4, r5, c6⟩ := Z0 (kn := kn) h1
 obtain ⟨x7, y8, z9, t10, r11, c12⟩ := q1e (kn := kn) r5
 obtain ⟨x13, y14, z15, t16, r17, c18⟩ := q1e (kn := kn) r11
 obtain ⟨x19, y20, z21, t22, r23, c24⟩ := q1e (kn := kn) r17
 refine ⟨x19, y20, z21, t22, pm8 h1.on ▸ r23, fun w hG => ?_⟩
 have off0 : Off [] w w := Off.refl _ _
 go_enter Tryd.func40, Tryd.ntmps40
 go_upto_region 0 with fail
 refine wp_region_lit ?_
 refine Ln ?_ (z := p4 X1 Y1 Z1 T1) (t := 60)
 intro b7 W1 t8 hO h_
 replace off0 := off0.o hO
 have k_t1 := h_
 clear hO h_ t8
 refine Ln ?_ (z := p4 0 0 0 0) (t := 60)
 intro s9 W2 z4 hO h_
 have u7 := l4 off0 z4
 replace k_t1 := k_t1.o hO
 replace off0 := off0.o hO
 have k_t2 := h_
 clear hO h_ z4
 refine q5 ?_
 go_upto_region 1 with fail
 refine wp_region_lit ?_
 refine L0 ?_ k_t1
 refine Lr ?_ (c6 W2 (q8 hG off0.ext))
 intro W3 hO
 replace k_t2 := k_t2.o hO
 replace off0 := off0.o hO
 clear hO
 refine Lr ?_ (c12 W3 (q8 hG off0.ext))
 intro W4 hO
 replace k_t2 := k_t2.o hO
 replace off0 := off0.o hO
 clear hO
 refine Lr ?_ (c18 W4 (q8 hG off0.ext))
 intro W5 hO
 replace k_t2 := k_t2.o hO
 replace off0 := off0.o hO
 clear hO
 refine Lr ?_ (c24 W5 (q8 hG off0.ext))
 intro W6 hO
 replace k_t2 := k_t2.o hO
 replace off0 := off0.o hO
 clear hO
 refine Lp ?_ k_t2 (cells := p4 x19 y20 z21 t22)
 intro W7 hO h_
 replace k_t2 : Blk W7 s9 (p4 x19 y20 z21 t22) 60 := h_
 clear h_
 replace off0 := off0.p hO u7
 clear hO
 refine q5 ?_
 go_wp2
 exact bodyPost_ret (v5 rfl rfl k_t2 (by kernel_rfl) (by kernel_rfl)) rfl ⟨rfl, off0.ext⟩
theorem q7j (hb : kn.b) :
  ∃ X Y Z T, RN X Y Z T BP ∧ ∀ w, GE kn w → Calls Tryd.prog 36 #[] w fun e w' => m7 (.agg (p4 X Y Z T)) w w' e := by
 obtain ⟨t1, r2, c3⟩ := j7f (kn := kn) (X := BX) (Y := BY) (by decide) (by decide) O5
 refine ⟨BX, BY, 1, t1, r2, fun w hG => ?_⟩
 have off0 : Off [] w w := Off.refl _ _
 go_enter Tryd.func36, Tryd.ntmps36
 go_upto_region 0 with fail
 refine wp_region_lit ?_
 refine Ln ?_ (z := p4 0 0 0 0) (t := 60)
 intro j9d W1 y7y hO h_
 have y7z := l4 off0 y7y
 replace off0 := off0.o hO
 have k_t0 := h_
 clear hO h_ y7y
 refine q5 ?_
 go_upto_region 1 with fail
 refine wp_region_lit ?_
 refine q7k (by rfl) rfl rfl ((q8 hG off0.ext).2.2.2.2.1 hb) (by kernel_rfl) (by kernel_rfl) ?_
 (try simp only [Act.put, mA, mB, mC])
 refine q7k (by rfl) rfl rfl ((q8 hG off0.ext).2.2.2.2.2 hb) (by kernel_rfl) (by kernel_rfl) ?_
 (try simp only [Act.put, mA, mB, mC])
 refine Lr ?_ (c3 W1 (q8 hG off0.ext))
 intro W2 hO
 replace k_t0 := k_t0.o hO
 replace off0 := off0.o hO
 clear hO
 refine Lp ?_ k_t0 (cells := p4 BX BY 1 t1)
 intro W3 hO h_
 replace k_t0 : Blk W3 j9d (p4 BX BY 1 t1) 60 := h_
 clear h_
 replace off0 := off0.p hO y7z
 clear hO
 refine q5 ?_
 go_wp2
 exact bodyPost_ret (v5 rfl rfl k_t0 (by kernel_rfl) (by kernel_rfl)) rfl ⟨rfl, off0.ext⟩
end Go.Proofs.YtefpoollmbmkfaaDoor
