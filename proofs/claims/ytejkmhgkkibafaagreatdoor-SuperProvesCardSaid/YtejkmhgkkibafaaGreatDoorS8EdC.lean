/- edwards: one, of, whole, twice, Add, Neg, Eight, Base. Conditions: the cells of the variables hold the curve's numbers. -/
import Derived.Test.YtejkmhgkkibafaaGreatDoorGc
import Derived.Test.YtejkmhgkkibafaaGreatDoorJ6
import Derived.Test.YtejkmhgkkibafaaGreatDoorJ3
import Derived.Test.YtejkmhgkkibafaaGreatDoorJ9
import Derived.Test.YtejkmhgkkibafaaGreatDoorJ14
set_option linter.unusedSimpArgs false
set_option linter.unusedVariables false
namespace Go.Proofs.YtejkmhgkkibafaaGreatDoor.S8
set_option maxHeartbeats 1500000
set_option maxRecDepth 100000
open Go.RowKit
attribute [local irreducible] wpList
variable {kn : Kn}

theorem J40 (w : World) :
  Calls Tryz.prog 149 #[] w fun e w' => Ret (L4 1) w w' e := by
 have off0 : Off [] w w := Off.refl _ _
 go_enter Tryz.func149, Tryz.ntmps149
 go_upto_region 0 with fail
 refine wp_region_lit ?_
 refine Ln ?_ (z := c4 0) (t := 155)
 intro Y2z W1 Z8a hO h_
 have Z8b := fbn off0 Z8a
 replace off0 := off0.o hO
 have k_t0 := h_
 clear hO h_ Z8a
 refine J3 ?_
 go_upto_region 1 with fail
 refine wp_region_lit ?_
 refine Lr ?_ (Y2q 1 (by decide) W1)
 intro W2 hO
 replace k_t0 := k_t0.o hO
 replace off0 := off0.o hO
 clear hO
 refine Lp ?_ k_t0 (cells := c4 1)
 intro W3 hO h_
 replace k_t0 : Blk W3 Y2z (c4 1) 155 := h_
 clear h_
 replace off0 := off0.p hO Z8b
 clear hO
 refine J3 ?_
 go_wp2
 exact bodyPost_ret (Y0 rfl rfl k_t0 (by kernel_rfl) (by kernel_rfl)) rfl ⟨rfl, off0.ext⟩
theorem Y5h {X Y : Nat} (hX : X < PP) (hY : Y < PP) (on : OnC (fp X, fp Y)) :
  ∃ T, RN X Y 1 T (fp X, fp Y) ∧ ∀ w, GE kn w → Calls Tryz.prog 130 #[L4 X, L4 Y] w fun e w' => Ret (.agg (p4 X Y 1 T)) w w' e := by
 have c_N1 := Y9 X Y (Z8 hX) (Z8 hY)
 obtain ⟨N1, hN1⟩ := exn (X * Y % PP)
 rw [← hN1] at c_N1
 have lN1 := bpp hN1
 have bN1 := Z8 lN1
 have HN1 := Lib.hid hN1
 clear hN1
 refine ⟨N1, Y5i hX hY on HN1.out, fun w hG => ?_⟩
 have off0 : Off [] w w := Off.refl _ _
 go_enter Tryz.func130, Tryz.ntmps130
 go_upto_region 0 with fail
 refine wp_region_lit ?_
 refine Ln ?_ (z := c4 X) (t := 155)
 intro J0a W1 J0l hO h_
 replace off0 := off0.o hO
 have k_t2 := h_
 clear hO h_ J0l
 refine Ln ?_ (z := c4 Y) (t := 155)
 intro J1z W2 J20 hO h_
 replace k_t2 := k_t2.o hO
 replace off0 := off0.o hO
 have k_t3 := h_
 clear hO h_ J20
 refine Ln ?_ (z := p4 0 0 0 0) (t := 157)
 intro Q7q W3 J2l hO h_
 have J4r := fbn off0 J2l
 replace k_t2 := k_t2.o hO
 replace k_t3 := k_t3.o hO
 replace off0 := off0.o hO
 have k_t4 := h_
 clear hO h_ J2l
 refine J3 ?_
 go_upto_region 1 with fail
 refine Rx 7 ?_
 refine Xl ?_ k_t2
 refine Xl ?_ k_t3
 refine Xf ?_ (fun W hW => J40 W)
 refine Xl ?_ k_t2
 refine Xl ?_ k_t3
 refine Xf ?_ (fun W hW => c_N1 W (Q0 (Q0 hG off0.ext) hW).1)
 refine Xw ?_ (v := .agg (p4 X Y 1 N1)) (hv := fun _ _ => by kernel_rfl)
 refine Z4 fun W4 hE => ?_
 have hO := Z7 hE
 replace k_t4 := k_t4.o hO
 replace off0 := off0.o hO
 clear hO hE
 refine Lp ?_ k_t4 (cells := p4 X Y 1 N1)
 intro W5 hO h_
 replace k_t4 : Blk W5 Q7q (p4 X Y 1 N1) 157 := h_
 clear h_
 replace off0 := off0.p hO J4r
 clear hO
 refine LN ?_
 go_wp2
 exact bodyPost_ret (Y0 rfl rfl k_t4 (by kernel_rfl) (by kernel_rfl)) rfl ⟨rfl, off0.ext⟩
theorem Z8c {X1 Y1 Z1 T1 : Nat} (hb : Z1 < Z3) (hz : Z1 ≠ 0) (w : World) (hG : GE kn w) :
  Calls Tryz.prog 131 #[.agg (p4 X1 Y1 Z1 T1)] w fun e w' => Ret (.agg (p4 X1 Y1 Z1 T1)) w w' e := by
 have off0 : Off [] w w := Off.refl _ _
 go_enter Tryz.func131, Tryz.ntmps131
 go_upto_region 0 with fail
 refine wp_region_lit ?_
 refine Ln ?_ (z := p4 X1 Y1 Z1 T1) (t := 157)
 intro J1m W1 J8c hO h_
 replace off0 := off0.o hO
 have k_t1 := h_
 clear hO h_ J8c
 refine Ln ?_ (z := p4 0 0 0 0) (t := 157)
 intro J5o W2 J0l hO h_
 have J0r := fbn off0 J0l
 replace k_t1 := k_t1.o hO
 replace off0 := off0.o hO
 have k_t2 := h_
 clear hO h_ J0l
 refine J3 ?_
 go_upto_region 1 with fail
 refine wp_region_lit ?_
 refine Lv ?_
 refine J29 (vs := (c4 Z1).toList) (by rfl) rfl rfl k_t1 (Q20 Q7r) (by kernel_rfl) (by kernel_rfl) ?_
 (try simp only [Act.put, mA, mB, mC])
 refine Lw ?_ (v := .agg (c4 0)) (hv := by kernel_rfl)
 have e_1 := Y89 Z1 0 hb (by decide)
 rw [decide_eq_false hz] at e_1
 refine Q8x (e_1) (by kernel_rfl) (by rfl) rfl rfl rfl ?_
 (try simp only [Act.put, mA, mB, mC])
 refine J3 ?_
 go_upto_region 3 with fail
 refine wp_region_lit ?_
 refine L0 ?_ k_t1
 refine Lp ?_ k_t2 (cells := p4 X1 Y1 Z1 T1)
 intro W3 hO h_
 replace k_t2 : Blk W3 J5o (p4 X1 Y1 Z1 T1) 157 := h_
 clear h_
 replace off0 := off0.p hO J0r
 clear hO
 refine J3 ?_
 go_wp2
 exact bodyPost_ret (Y0 rfl rfl k_t2 (by kernel_rfl) (by kernel_rfl)) rfl ⟨rfl, off0.ext⟩
theorem Z8d {X1 Y1 T1 : Nat} (w : World) (hG : GE kn w) :
  Calls Tryz.prog 131 #[.agg (p4 X1 Y1 0 T1)] w fun e w' => Ret (.agg (p4 0 1 1 0)) w w' e := by
 have off0 : Off [] w w := Off.refl _ _
 go_enter Tryz.func131, Tryz.ntmps131
 go_upto_region 0 with fail
 refine wp_region_lit ?_
 refine Ln ?_ (z := p4 X1 Y1 0 T1) (t := 157)
 intro J1m W1 J8c hO h_
 replace off0 := off0.o hO
 have k_t1 := h_
 clear hO h_ J8c
 refine Ln ?_ (z := p4 0 0 0 0) (t := 157)
 intro J5o W2 J0l hO h_
 have J0r := fbn off0 J0l
 replace k_t1 := k_t1.o hO
 replace off0 := off0.o hO
 have k_t2 := h_
 clear hO h_ J0l
 refine J3 ?_
 go_upto_region 1 with fail
 refine wp_region_lit ?_
 refine Lv ?_
 refine J29 (vs := (c4 0).toList) (by rfl) rfl rfl k_t1 (Q20 Q7r) (by kernel_rfl) (by kernel_rfl) ?_
 (try simp only [Act.put, mA, mB, mC])
 refine Lw ?_ (v := .agg (c4 0)) (hv := by kernel_rfl)
 have e_1 := Y89 0 0 (by decide) (by decide)
 rw [decide_eq_true rfl] at e_1
 refine Q8x (e_1) (by kernel_rfl) (by rfl) rfl rfl rfl ?_
 (try simp only [Act.put, mA, mB, mC])
 refine J3 ?_
 go_upto_region 2 with fail
 refine wp_region_lit ?_
 refine Lr ?_ (J40 W2)
 intro W3 hO
 replace k_t2 := k_t2.o hO
 replace off0 := off0.o hO
 clear hO
 refine Lr ?_ (J40 W3)
 intro W4 hO
 replace k_t2 := k_t2.o hO
 replace off0 := off0.o hO
 clear hO
 refine Lw ?_ (v := .agg (p4 0 1 1 0)) (hv := by kernel_rfl)
 refine Lp ?_ k_t2 (cells := p4 0 1 1 0)
 intro W5 hO h_
 replace k_t2 : Blk W5 J5o (p4 0 1 1 0) 157 := h_
 clear h_
 replace off0 := off0.p hO J0r
 clear hO
 refine J3 ?_
 go_wp2
 exact bodyPost_ret (Y0 rfl rfl k_t2 (by kernel_rfl) (by kernel_rfl)) rfl ⟨rfl, off0.ext⟩
theorem J7h {X Y Z T : Nat} {a : Pr} (h : RW X Y Z T a) : ∃ X' Y' Z' T', RN X' Y' Z' T' a ∧ ∀ w, GE kn w → Calls Tryz.prog 131 #[.agg (p4 X Y Z T)] w fun e w' => Ret (.agg (p4 X' Y' Z' T')) w w' e := by
  rcases h.cases with ⟨hz, h1⟩ | ⟨rfl, rfl⟩
  · exact ⟨X, Y, Z, T, h1, fun w hG => Z8c h.z hz w hG⟩
  exact ⟨0, 1, 1, 0, Y5j, fun w hG => Z8d w hG⟩
theorem Z8e {X1 Y1 Z1 T1 : Nat} {p1 : Pr} (h1 : RN X1 Y1 Z1 T1 p1) :
  ∃ X Y Z T, RN X Y Z T (J1l p1 p1) ∧ ∀ w, GE kn w → Calls Tryz.prog 132 #[.agg (p4 X1 Y1 Z1 T1)] w fun e w' => Ret (.agg (p4 X Y Z T)) w w' e := by
 have c_N1 := Y9 X1 X1 (Z8 h1.x) (Z8 h1.x)
 obtain ⟨N1, hN1⟩ := exn (X1 * X1 % PP)
 rw [← hN1] at c_N1
 have lN1 := bpp hN1
 have bN1 := Z8 lN1
 have HN1 := Lib.hid hN1
 clear hN1
 have c_N2 := Y9 Y1 Y1 (Z8 h1.y) (Z8 h1.y)
 obtain ⟨N2, hN2⟩ := exn (Y1 * Y1 % PP)
 rw [← hN2] at c_N2
 have lN2 := bpp hN2
 have bN2 := Z8 lN2
 have HN2 := Lib.hid hN2
 clear hN2
 have c_N3 := Y9 Z1 Z1 (Z8 h1.z) (Z8 h1.z)
 obtain ⟨N3, hN3⟩ := exn (Z1 * Z1 % PP)
 rw [← hN3] at c_N3
 have lN3 := bpp hN3
 have bN3 := Z8 lN3
 have HN3 := Lib.hid hN3
 clear hN3
 have c_N4 := J5n N3 N3 bN3 bN3
 obtain ⟨N4, hN4⟩ := exn ((N3 + N3) % PP)
 rw [← hN4] at c_N4
 have lN4 := bpp hN4
 have bN4 := Z8 lN4
 have HN4 := Lib.hid hN4
 clear hN4
 have c_N5 := J5n N1 N2 bN1 bN2
 obtain ⟨N5, hN5⟩ := exn ((N1 + N2) % PP)
 rw [← hN5] at c_N5
 have lN5 := bpp hN5
 have bN5 := Z8 lN5
 have HN5 := Lib.hid hN5
 clear hN5
 have c_N6 := J5n X1 Y1 (Z8 h1.x) (Z8 h1.y)
 obtain ⟨N6, hN6⟩ := exn ((X1 + Y1) % PP)
 rw [← hN6] at c_N6
 have lN6 := bpp hN6
 have bN6 := Z8 lN6
 have HN6 := Lib.hid hN6
 clear hN6
 have c_N7 := Y9 N6 N6 bN6 bN6
 obtain ⟨N7, hN7⟩ := exn (N6 * N6 % PP)
 rw [← hN7] at c_N7
 have lN7 := bpp hN7
 have bN7 := Z8 lN7
 have HN7 := Lib.hid hN7
 clear hN7
 have c_N8 := J97 N5 N7 bN5 bN7
 obtain ⟨N8, hN8⟩ := exn ((N5 + (PP - N7 % PP)) % PP)
 rw [← hN8] at c_N8
 have lN8 := bpp hN8
 have bN8 := Z8 lN8
 have HN8 := Lib.hid hN8
 clear hN8
 have c_N9 := J97 N1 N2 bN1 bN2
 obtain ⟨N9, hN9⟩ := exn ((N1 + (PP - N2 % PP)) % PP)
 rw [← hN9] at c_N9
 have lN9 := bpp hN9
 have bN9 := Z8 lN9
 have HN9 := Lib.hid hN9
 clear hN9
 have c_N10 := J5n N4 N9 bN4 bN9
 obtain ⟨N10, hN10⟩ := exn ((N4 + N9) % PP)
 rw [← hN10] at c_N10
 have lN10 := bpp hN10
 have bN10 := Z8 lN10
 have HN10 := Lib.hid hN10
 clear hN10
 have c_N11 := Y9 N8 N10 bN8 bN10
 obtain ⟨N11, hN11⟩ := exn (N8 * N10 % PP)
 rw [← hN11] at c_N11
 have lN11 := bpp hN11
 have bN11 := Z8 lN11
 have HN11 := Lib.hid hN11
 clear hN11
 have c_N12 := Y9 N9 N5 bN9 bN5
 obtain ⟨N12, hN12⟩ := exn (N9 * N5 % PP)
 rw [← hN12] at c_N12
 have lN12 := bpp hN12
 have bN12 := Z8 lN12
 have HN12 := Lib.hid hN12
 clear hN12
 have c_N13 := Y9 N10 N9 bN10 bN9
 obtain ⟨N13, hN13⟩ := exn (N10 * N9 % PP)
 rw [← hN13] at c_N13
 have lN13 := bpp hN13
 have bN13 := Z8 lN13
 have HN13 := Lib.hid hN13
 clear hN13
 have c_N14 := Y9 N8 N5 bN8 bN5
 obtain ⟨N14, hN14⟩ := exn (N8 * N5 % PP)
 rw [← hN14] at c_N14
 have lN14 := bpp hN14
 have bN14 := Z8 lN14
 have HN14 := Lib.hid hN14
 clear hN14
 refine ⟨N11, N12, N13, N14, Q9n h1 HN1.out HN2.out HN3.out HN4.out HN5.out HN6.out HN7.out HN8.out HN9.out HN10.out HN11.out HN12.out HN13.out HN14.out, fun w hG => ?_⟩
 have off0 : Off [] w w := Off.refl _ _
 go_enter Tryz.func132, Tryz.ntmps132
 go_upto_region 0 with fail
 refine wp_region_lit ?_
 refine Ln ?_ (z := p4 X1 Y1 Z1 T1) (t := 157)
 intro J1m W1 J8c hO h_
 replace off0 := off0.o hO
 have k_t1 := h_
 clear hO h_ J8c
 refine Ln ?_ (z := p4 0 0 0 0) (t := 157)
 intro J5o W2 J0l hO h_
 have J0r := fbn off0 J0l
 replace k_t1 := k_t1.o hO
 replace off0 := off0.o hO
 have k_t2 := h_
 clear hO h_ J0l
 refine J3 ?_
 go_upto_region 1 with fail
 refine J1g 10 [⟨10, 3, c4 0, 155⟩, ⟨11, 4, c4 0, 155⟩] (by kernel_rfl) ?_ (by kernel_rfl) ?_
 ·
  intro x hx
  simp only [List.mem_cons, List.not_mem_nil, or_false] at hx
  rcases hx with rfl | rfl <;> exact ⟨_, rfl, rfl, rfl, fun _ _ => by kernel_rfl⟩
 simp only [List.take_succ_cons, List.take_zero, List.take_nil]
 (try simp only [Act.put, mA, mB, mC])
 refine Xv ?_
 refine Xls ?_ (sub := c4 X1) (j := 0) k_t1 Q5n
 refine Xv ?_
 refine Xls ?_ (sub := c4 X1) (j := 0) k_t1 Q5n
 refine Xf ?_ (fun W hW => c_N1 W (Q0 (Q0 hG off0.ext) hW).1)
 refine Xv ?_
 refine Xls ?_ (sub := c4 Y1) (j := 4) k_t1 Q7s
 refine Xv ?_
 refine Xls ?_ (sub := c4 Y1) (j := 4) k_t1 Q7s
 refine Xf ?_ (fun W hW => c_N2 W (Q0 (Q0 hG off0.ext) hW).1)
 refine Z4 ?_
 intro β W3 hE hN hD
 obtain ⟨J20, h_t3⟩ := hN _ (List.mem_cons_self ..)
 obtain ⟨J2l, h_t4⟩ := hN _ (List.mem_cons_of_mem _ (List.mem_cons_self ..))
 have nq_t3_t4 := (hD _ (List.mem_cons_of_mem _ (List.mem_cons_self ..)) _ (List.mem_cons_self ..) (by decide)).symm
 clear hN hD
 simp only [J0e, Act.put, mA, mB, mC, List.drop_succ_cons, List.drop_zero, List.drop_nil, List.length_cons, List.length_nil, Nat.add_zero] at J20 h_t3 J2l h_t4 nq_t3_t4 ⊢
 have hO := Z7 hE
 generalize β 10 = Z16 at *
 have Z8f := bn k_t1 J20
 have nq_t2_t3 := bn k_t2 J20
 have J90 := fbn off0 J20
 generalize β 11 = Q7q at *
 have Q4g := bn k_t1 J2l
 have nq_t2_t4 := bn k_t2 J2l
 have J4r := fbn off0 J2l
 replace k_t1 := k_t1.o hO
 replace k_t2 := k_t2.o hO
 replace off0 := off0.o hO
 clear hO hE β J20 J2l
 have k_t3 : Blk W3 Z16 (c4 0) 155 := h_t3
 clear h_t3
 have k_t4 : Blk W3 Q7q (c4 0) 155 := h_t4
 clear h_t4
 refine Lp ?_ k_t3 (cells := c4 N1)
 intro W4 hO h_
 replace k_t3 : Blk W4 Z16 (c4 N1) 155 := h_
 clear h_
 replace k_t1 := k_t1.p hO Z8f
 replace k_t2 := k_t2.p hO nq_t2_t3
 replace k_t4 := k_t4.p hO nq_t3_t4.symm
 replace off0 := off0.p hO J90
 clear hO
 refine Lp ?_ k_t4 (cells := c4 N2)
 intro W5 hO h_
 replace k_t4 : Blk W5 Q7q (c4 N2) 155 := h_
 clear h_
 replace k_t1 := k_t1.p hO Q4g
 replace k_t2 := k_t2.p hO nq_t2_t4
 replace k_t3 := k_t3.p hO nq_t3_t4
 replace off0 := off0.p hO J4r
 clear hO
 refine LN ?_
 go_upto_region 2 with fail
 refine wp_region_lit ?_
 refine Lv ?_
 refine J29 (vs := (c4 Z1).toList) (by rfl) rfl rfl k_t1 (Q20 Q7r) (by kernel_rfl) (by kernel_rfl) ?_
 (try simp only [Act.put, mA, mB, mC])
 refine Lv ?_
 refine J29 (vs := (c4 Z1).toList) (by rfl) rfl rfl k_t1 (Q20 Q7r) (by kernel_rfl) (by kernel_rfl) ?_
 (try simp only [Act.put, mA, mB, mC])
 refine Lr ?_ (c_N3 W5 (Q0 hG off0.ext).1)
 intro W6 hO
 replace k_t1 := k_t1.o hO
 replace k_t2 := k_t2.o hO
 replace k_t3 := k_t3.o hO
 replace k_t4 := k_t4.o hO
 replace off0 := off0.o hO
 clear hO
 refine LnP ?_ (z := c4 0) (t := 155) (cells := c4 N3)
 intro Y30 W8 J1k hO h_
 have nq_t1_t5 := bn k_t1 J1k
 have nq_t2_t5 := bn k_t2 J1k
 have J7i := bn k_t3 J1k
 have nq_t4_t5 := bn k_t4 J1k
 have Q66 := fbn off0 J1k
 replace k_t1 := k_t1.o hO
 replace k_t2 := k_t2.o hO
 replace k_t3 := k_t3.o hO
 replace k_t4 := k_t4.o hO
 replace off0 := off0.o hO
 have k_t5 := h_
 clear hO h_ J1k
 refine J3 ?_
 go_upto_region 3 with fail
 refine wp_region_lit ?_
 refine L0 ?_ k_t5
 refine L0 ?_ k_t5
 refine Lr ?_ (c_N4 W8 (Q0 hG off0.ext).1)
 intro W9 hO
 replace k_t1 := k_t1.o hO
 replace k_t2 := k_t2.o hO
 replace k_t3 := k_t3.o hO
 replace k_t4 := k_t4.o hO
 replace k_t5 := k_t5.o hO
 replace off0 := off0.o hO
 clear hO
 refine Lp ?_ k_t5 (cells := c4 N4)
 intro W10 hO h_
 replace k_t5 : Blk W10 Y30 (c4 N4) 155 := h_
 clear h_
 replace k_t1 := k_t1.p hO nq_t1_t5
 replace k_t2 := k_t2.p hO nq_t2_t5
 replace k_t3 := k_t3.p hO J7i
 replace k_t4 := k_t4.p hO nq_t4_t5
 replace off0 := off0.p hO Q66
 clear hO
 refine J3 ?_
 go_upto_region 4 with fail
 refine wp_region_lit ?_
 refine L0 ?_ k_t3
 refine L0 ?_ k_t4
 refine Lr ?_ (c_N5 W10 (Q0 hG off0.ext).1)
 intro W11 hO
 replace k_t1 := k_t1.o hO
 replace k_t2 := k_t2.o hO
 replace k_t3 := k_t3.o hO
 replace k_t4 := k_t4.o hO
 replace k_t5 := k_t5.o hO
 replace off0 := off0.o hO
 clear hO
 refine LnP ?_ (z := c4 0) (t := 155) (cells := c4 N5)
 intro V6l W13 J3e hO h_
 replace k_t1 := k_t1.o hO
 replace k_t2 := k_t2.o hO
 replace k_t3 := k_t3.o hO
 replace k_t4 := k_t4.o hO
 replace k_t5 := k_t5.o hO
 replace off0 := off0.o hO
 have k_t6 := h_
 clear hO h_ J3e
 refine J3 ?_
 go_upto_region 5 with fail
 refine wp_region_lit ?_
 refine Lv ?_
 refine J29 (vs := (c4 X1).toList) (by rfl) rfl rfl k_t1 (Q20 Q5n) (by kernel_rfl) (by kernel_rfl) ?_
 (try simp only [Act.put, mA, mB, mC])
 refine Lv ?_
 refine J29 (vs := (c4 Y1).toList) (by rfl) rfl rfl k_t1 (Q20 Q7s) (by kernel_rfl) (by kernel_rfl) ?_
 (try simp only [Act.put, mA, mB, mC])
 refine Lr ?_ (c_N6 W13 (Q0 hG off0.ext).1)
 intro W14 hO
 replace k_t2 := k_t2.o hO
 replace k_t3 := k_t3.o hO
 replace k_t4 := k_t4.o hO
 replace k_t5 := k_t5.o hO
 replace k_t6 := k_t6.o hO
 replace off0 := off0.o hO
 clear hO
 refine LnP ?_ (z := c4 0) (t := 155) (cells := c4 N6)
 intro V6m W16 J0n hO h_
 replace k_t2 := k_t2.o hO
 replace k_t3 := k_t3.o hO
 replace k_t4 := k_t4.o hO
 replace k_t5 := k_t5.o hO
 replace k_t6 := k_t6.o hO
 replace off0 := off0.o hO
 have k_t7 := h_
 clear hO h_ J0n
 refine J3 ?_
 go_upto_region 6 with fail
 refine Rx1 5 8 (z := c4 0) (t := 155) ?_
 refine Xl ?_ k_t6
 refine Xl ?_ k_t7
 refine Xl ?_ k_t7
 refine Xf ?_ (fun W hW => c_N7 W (Q0 (Q0 hG off0.ext) hW).1)
 refine Xf ?_ (fun W hW => c_N8 W (Q0 (Q0 hG off0.ext) hW).1)
 refine XN ?_
 intro Y5k W17 J1b hE h_t8
 have hO := Z7 hE
 have J2c := bn k_t2 J1b
 have Z8g := bn k_t3 J1b
 have J2d := bn k_t4 J1b
 have J2e := bn k_t5 J1b
 have J2f := bn k_t6 J1b
 have J6f := fbn off0 J1b
 replace k_t2 := k_t2.o hO
 replace k_t3 := k_t3.o hO
 replace k_t4 := k_t4.o hO
 replace k_t5 := k_t5.o hO
 replace k_t6 := k_t6.o hO
 replace off0 := off0.o hO
 clear hO hE J1b
 have k_t8 : Blk W17 Y5k (c4 0) 155 := h_t8
 clear h_t8
 refine Lp ?_ k_t8 (cells := c4 N8)
 intro W18 hO h_
 replace k_t8 : Blk W18 Y5k (c4 N8) 155 := h_
 clear h_
 replace k_t2 := k_t2.p hO J2c
 replace k_t3 := k_t3.p hO Z8g
 replace k_t4 := k_t4.p hO J2d
 replace k_t5 := k_t5.p hO J2e
 replace k_t6 := k_t6.p hO J2f
 replace off0 := off0.p hO J6f
 clear hO
 refine LN ?_
 go_upto_region 7 with fail
 refine wp_region_lit ?_
 refine L0 ?_ k_t3
 refine L0 ?_ k_t4
 refine Lr ?_ (c_N9 W18 (Q0 hG off0.ext).1)
 intro W19 hO
 replace k_t2 := k_t2.o hO
 replace k_t5 := k_t5.o hO
 replace k_t6 := k_t6.o hO
 replace k_t8 := k_t8.o hO
 replace off0 := off0.o hO
 clear hO
 refine LnP ?_ (z := c4 0) (t := 155) (cells := c4 N9)
 intro V6n W21 J77 hO h_
 replace k_t2 := k_t2.o hO
 replace k_t5 := k_t5.o hO
 replace k_t6 := k_t6.o hO
 replace k_t8 := k_t8.o hO
 replace off0 := off0.o hO
 have k_t9 := h_
 clear hO h_ J77
 refine J3 ?_
 go_upto_region 8 with fail
 refine wp_region_lit ?_
 refine L0 ?_ k_t5
 refine L0 ?_ k_t9
 refine Lr ?_ (c_N10 W21 (Q0 hG off0.ext).1)
 intro W22 hO
 replace k_t2 := k_t2.o hO
 replace k_t6 := k_t6.o hO
 replace k_t8 := k_t8.o hO
 replace k_t9 := k_t9.o hO
 replace off0 := off0.o hO
 clear hO
 refine LnP ?_ (z := c4 0) (t := 155) (cells := c4 N10)
 intro V5l W24 Q67 hO h_
 replace k_t2 := k_t2.o hO
 replace k_t6 := k_t6.o hO
 replace k_t8 := k_t8.o hO
 replace k_t9 := k_t9.o hO
 replace off0 := off0.o hO
 have k_t10 := h_
 clear hO h_ Q67
 refine J3 ?_
 go_upto_region 9 with fail
 refine Rx 13 ?_
 refine Xl ?_ k_t8
 refine Xl ?_ k_t10
 refine Xf ?_ (fun W hW => c_N11 W (Q0 (Q0 hG off0.ext) hW).1)
 refine Xl ?_ k_t9
 refine Xl ?_ k_t6
 refine Xf ?_ (fun W hW => c_N12 W (Q0 (Q0 hG off0.ext) hW).1)
 refine Xl ?_ k_t10
 refine Xl ?_ k_t9
 refine Xf ?_ (fun W hW => c_N13 W (Q0 (Q0 hG off0.ext) hW).1)
 refine Xl ?_ k_t8
 refine Xl ?_ k_t6
 refine Xf ?_ (fun W hW => c_N14 W (Q0 (Q0 hG off0.ext) hW).1)
 refine Xw ?_ (v := .agg (p4 N11 N12 N13 N14)) (hv := fun _ _ => by kernel_rfl)
 refine Z4 fun W25 hE => ?_
 have hO := Z7 hE
 replace k_t2 := k_t2.o hO
 replace off0 := off0.o hO
 clear hO hE
 refine Lp ?_ k_t2 (cells := p4 N11 N12 N13 N14)
 intro W26 hO h_
 replace k_t2 : Blk W26 J5o (p4 N11 N12 N13 N14) 157 := h_
 clear h_
 replace off0 := off0.p hO J0r
 clear hO
 refine LN ?_
 go_wp2
 exact bodyPost_ret (Y0 rfl rfl k_t2 (by kernel_rfl) (by kernel_rfl)) rfl ⟨rfl, off0.ext⟩
theorem Z8h (hd : kn.d) {X1 Y1 Z1 T1 : Nat} {p1 : Pr} {X2 Y2 Z2 T2 : Nat} {p2 : Pr} (h1 : RW X1 Y1 Z1 T1 p1) (h2 : RW X2 Y2 Z2 T2 p2) :
  ∃ X Y Z T, RN X Y Z T (J1l p1 p2) ∧ ∀ w, GE kn w → Calls Tryz.prog 107 #[.agg (p4 X1 Y1 Z1 T1), .agg (p4 X2 Y2 Z2 T2)] w fun e w' => Ret (.agg (p4 X Y Z T)) w w' e := by
 obtain ⟨x1, y2, z3, t4, r5, c6⟩ := J7h (kn := kn) h1
 obtain ⟨x7, y8, z9, t10, r11, c12⟩ := J7h (kn := kn) h2
 have c_N13 := J97 y2 x1 (Z8 r5.y) (Z8 r5.x)
 obtain ⟨N13, hN13⟩ := exn ((y2 + (PP - x1 % PP)) % PP)
 rw [← hN13] at c_N13
 have lN13 := bpp hN13
 have bN13 := Z8 lN13
 have HN13 := Lib.hid hN13
 clear hN13
 have c_N14 := J97 y8 x7 (Z8 r11.y) (Z8 r11.x)
 obtain ⟨N14, hN14⟩ := exn ((y8 + (PP - x7 % PP)) % PP)
 rw [← hN14] at c_N14
 have lN14 := bpp hN14
 have bN14 := Z8 lN14
 have HN14 := Lib.hid hN14
 clear hN14
 have c_N15 := Y9 N13 N14 bN13 bN14
 obtain ⟨N15, hN15⟩ := exn (N13 * N14 % PP)
 rw [← hN15] at c_N15
 have lN15 := bpp hN15
 have bN15 := Z8 lN15
 have HN15 := Lib.hid hN15
 clear hN15
 have c_N16 := J5n y2 x1 (Z8 r5.y) (Z8 r5.x)
 obtain ⟨N16, hN16⟩ := exn ((y2 + x1) % PP)
 rw [← hN16] at c_N16
 have lN16 := bpp hN16
 have bN16 := Z8 lN16
 have HN16 := Lib.hid hN16
 clear hN16
 have c_N17 := J5n y8 x7 (Z8 r11.y) (Z8 r11.x)
 obtain ⟨N17, hN17⟩ := exn ((y8 + x7) % PP)
 rw [← hN17] at c_N17
 have lN17 := bpp hN17
 have bN17 := Z8 lN17
 have HN17 := Lib.hid hN17
 clear hN17
 have c_N18 := Y9 N16 N17 bN16 bN17
 obtain ⟨N18, hN18⟩ := exn (N16 * N17 % PP)
 rw [← hN18] at c_N18
 have lN18 := bpp hN18
 have bN18 := Z8 lN18
 have HN18 := Lib.hid hN18
 clear hN18
 have c_N19 := Y9 t4 D2 (Z8 r5.t) V2m
 obtain ⟨N19, hN19⟩ := exn (t4 * D2 % PP)
 rw [← hN19] at c_N19
 have lN19 := bpp hN19
 have bN19 := Z8 lN19
 have HN19 := Lib.hid hN19
 clear hN19
 have c_N20 := Y9 N19 t10 bN19 (Z8 r11.t)
 obtain ⟨N20, hN20⟩ := exn (N19 * t10 % PP)
 rw [← hN20] at c_N20
 have lN20 := bpp hN20
 have bN20 := Z8 lN20
 have HN20 := Lib.hid hN20
 clear hN20
 have c_N21 := J5n z3 z3 (Z8 r5.z) (Z8 r5.z)
 obtain ⟨N21, hN21⟩ := exn ((z3 + z3) % PP)
 rw [← hN21] at c_N21
 have lN21 := bpp hN21
 have bN21 := Z8 lN21
 have HN21 := Lib.hid hN21
 clear hN21
 have c_N22 := Y9 N21 z9 bN21 (Z8 r11.z)
 obtain ⟨N22, hN22⟩ := exn (N21 * z9 % PP)
 rw [← hN22] at c_N22
 have lN22 := bpp hN22
 have bN22 := Z8 lN22
 have HN22 := Lib.hid hN22
 clear hN22
 have c_N23 := J97 N18 N15 bN18 bN15
 obtain ⟨N23, hN23⟩ := exn ((N18 + (PP - N15 % PP)) % PP)
 rw [← hN23] at c_N23
 have lN23 := bpp hN23
 have bN23 := Z8 lN23
 have HN23 := Lib.hid hN23
 clear hN23
 have c_N24 := J97 N22 N20 bN22 bN20
 obtain ⟨N24, hN24⟩ := exn ((N22 + (PP - N20 % PP)) % PP)
 rw [← hN24] at c_N24
 have lN24 := bpp hN24
 have bN24 := Z8 lN24
 have HN24 := Lib.hid hN24
 clear hN24
 have c_N25 := J5n N22 N20 bN22 bN20
 obtain ⟨N25, hN25⟩ := exn ((N22 + N20) % PP)
 rw [← hN25] at c_N25
 have lN25 := bpp hN25
 have bN25 := Z8 lN25
 have HN25 := Lib.hid hN25
 clear hN25
 have c_N26 := J5n N18 N15 bN18 bN15
 obtain ⟨N26, hN26⟩ := exn ((N18 + N15) % PP)
 rw [← hN26] at c_N26
 have lN26 := bpp hN26
 have bN26 := Z8 lN26
 have HN26 := Lib.hid hN26
 clear hN26
 have c_N27 := Y9 N23 N24 bN23 bN24
 obtain ⟨N27, hN27⟩ := exn (N23 * N24 % PP)
 rw [← hN27] at c_N27
 have lN27 := bpp hN27
 have bN27 := Z8 lN27
 have HN27 := Lib.hid hN27
 clear hN27
 have c_N28 := Y9 N25 N26 bN25 bN26
 obtain ⟨N28, hN28⟩ := exn (N25 * N26 % PP)
 rw [← hN28] at c_N28
 have lN28 := bpp hN28
 have bN28 := Z8 lN28
 have HN28 := Lib.hid hN28
 clear hN28
 have c_N29 := Y9 N24 N25 bN24 bN25
 obtain ⟨N29, hN29⟩ := exn (N24 * N25 % PP)
 rw [← hN29] at c_N29
 have lN29 := bpp hN29
 have bN29 := Z8 lN29
 have HN29 := Lib.hid hN29
 clear hN29
 have c_N30 := Y9 N23 N26 bN23 bN26
 obtain ⟨N30, hN30⟩ := exn (N23 * N26 % PP)
 rw [← hN30] at c_N30
 have lN30 := bpp hN30
 have bN30 := Z8 lN30
 have HN30 := Lib.hid hN30
 clear hN30
 refine ⟨N27, N28, N29, N30, Z8i r5 r11 HN13.out HN14.out HN15.out HN16.out HN17.out HN18.out HN19.out HN20.out HN21.out HN22.out HN23.out HN24.out HN25.out HN26.out HN27.out HN28.out HN29.out HN30.out, fun w hG => ?_⟩
 have off0 : Off [] w w := Off.refl _ _
 go_enter Tryz.func107, Tryz.ntmps107
 go_upto_region 0 with fail
 refine wp_region_lit ?_
 refine Ln ?_ (z := p4 X1 Y1 Z1 T1) (t := 157)
 intro J0a W1 J0l hO h_
 have J0r := fbn off0 J0l
 replace off0 := off0.o hO
 have k_t2 := h_
 clear hO h_ J0l
 refine Ln ?_ (z := p4 X2 Y2 Z2 T2) (t := 157)
 intro J1z W2 J20 hO h_
 have nq_t2_t3 := bn k_t2 J20
 have J90 := fbn off0 J20
 replace k_t2 := k_t2.o hO
 replace off0 := off0.o hO
 have k_t3 := h_
 clear hO h_ J20
 refine Ln ?_ (z := p4 0 0 0 0) (t := 157)
 intro Q7q W3 J2l hO h_
 have nq_t2_t4 := bn k_t2 J2l
 have nq_t3_t4 := bn k_t3 J2l
 have J4r := fbn off0 J2l
 replace k_t2 := k_t2.o hO
 replace k_t3 := k_t3.o hO
 replace off0 := off0.o hO
 have k_t4 := h_
 clear hO h_ J2l
 refine J3 ?_
 go_upto_region 1 with fail
 refine Rx 4 ?_
 refine Xl ?_ k_t2
 refine Xf ?_ (fun W hW => c6 W (Q0 (Q0 hG off0.ext) hW))
 refine Xl ?_ k_t3
 refine Xf ?_ (fun W hW => c12 W (Q0 (Q0 hG off0.ext) hW))
 refine Z4 fun W4 hE => ?_
 have hO := Z7 hE
 replace k_t2 := k_t2.o hO
 replace k_t3 := k_t3.o hO
 replace k_t4 := k_t4.o hO
 replace off0 := off0.o hO
 clear hO hE
 refine Lp ?_ k_t2 (cells := p4 x1 y2 z3 t4)
 intro W5 hO h_
 replace k_t2 : Blk W5 J0a (p4 x1 y2 z3 t4) 157 := h_
 clear h_
 replace k_t3 := k_t3.p hO nq_t2_t3.symm
 replace k_t4 := k_t4.p hO nq_t2_t4.symm
 replace off0 := off0.p hO J0r
 clear hO
 refine Lp ?_ k_t3 (cells := p4 x7 y8 z9 t10)
 intro W6 hO h_
 replace k_t3 : Blk W6 J1z (p4 x7 y8 z9 t10) 157 := h_
 clear h_
 replace k_t2 := k_t2.p hO nq_t2_t3
 replace k_t4 := k_t4.p hO nq_t3_t4.symm
 replace off0 := off0.p hO J90
 clear hO
 refine LN ?_
 go_upto_region 2 with fail
 refine Rx1 11 5 (z := c4 0) (t := 155) ?_
 refine Xv ?_
 refine Xls ?_ (sub := c4 y2) (j := 4) k_t2 Q7s
 refine Xv ?_
 refine Xls ?_ (sub := c4 x1) (j := 0) k_t2 Q5n
 refine Xf ?_ (fun W hW => c_N13 W (Q0 (Q0 hG off0.ext) hW).1)
 refine Xv ?_
 refine Xls ?_ (sub := c4 y8) (j := 4) k_t3 Q7s
 refine Xv ?_
 refine Xls ?_ (sub := c4 x7) (j := 0) k_t3 Q5n
 refine Xf ?_ (fun W hW => c_N14 W (Q0 (Q0 hG off0.ext) hW).1)
 refine Xf ?_ (fun W hW => c_N15 W (Q0 (Q0 hG off0.ext) hW).1)
 refine XN ?_
 intro Y30 W7 J1k hE h_t5
 have hO := Z7 hE
 have nq_t2_t5 := bn k_t2 J1k
 have J7i := bn k_t3 J1k
 have nq_t4_t5 := bn k_t4 J1k
 have Q66 := fbn off0 J1k
 replace k_t2 := k_t2.o hO
 replace k_t3 := k_t3.o hO
 replace k_t4 := k_t4.o hO
 replace off0 := off0.o hO
 clear hO hE J1k
 have k_t5 : Blk W7 Y30 (c4 0) 155 := h_t5
 clear h_t5
 refine Lp ?_ k_t5 (cells := c4 N15)
 intro W8 hO h_
 replace k_t5 : Blk W8 Y30 (c4 N15) 155 := h_
 clear h_
 replace k_t2 := k_t2.p hO nq_t2_t5
 replace k_t3 := k_t3.p hO J7i
 replace k_t4 := k_t4.p hO nq_t4_t5
 replace off0 := off0.p hO Q66
 clear hO
 refine LN ?_
 go_upto_region 3 with fail
 refine Rx1 11 6 (z := c4 0) (t := 155) ?_
 refine Xv ?_
 refine Xls ?_ (sub := c4 y2) (j := 4) k_t2 Q7s
 refine Xv ?_
 refine Xls ?_ (sub := c4 x1) (j := 0) k_t2 Q5n
 refine Xf ?_ (fun W hW => c_N16 W (Q0 (Q0 hG off0.ext) hW).1)
 refine Xv ?_
 refine Xls ?_ (sub := c4 y8) (j := 4) k_t3 Q7s
 refine Xv ?_
 refine Xls ?_ (sub := c4 x7) (j := 0) k_t3 Q5n
 refine Xf ?_ (fun W hW => c_N17 W (Q0 (Q0 hG off0.ext) hW).1)
 refine Xf ?_ (fun W hW => c_N18 W (Q0 (Q0 hG off0.ext) hW).1)
 refine XN ?_
 intro Z54 W9 J3e hE h_t6
 have hO := Z7 hE
 have nq_t2_t6 := bn k_t2 J3e
 have Z8j := bn k_t3 J3e
 have J91 := bn k_t4 J3e
 have J92 := bn k_t5 J3e
 have Q96 := fbn off0 J3e
 replace k_t2 := k_t2.o hO
 replace k_t3 := k_t3.o hO
 replace k_t4 := k_t4.o hO
 replace k_t5 := k_t5.o hO
 replace off0 := off0.o hO
 clear hO hE J3e
 have k_t6 : Blk W9 Z54 (c4 0) 155 := h_t6
 clear h_t6
 refine Lp ?_ k_t6 (cells := c4 N18)
 intro W10 hO h_
 replace k_t6 : Blk W10 Z54 (c4 N18) 155 := h_
 clear h_
 replace k_t2 := k_t2.p hO nq_t2_t6
 replace k_t3 := k_t3.p hO Z8j
 replace k_t4 := k_t4.p hO J91
 replace k_t5 := k_t5.p hO J92
 replace off0 := off0.p hO Q96
 clear hO
 refine LN ?_
 go_upto_region 4 with fail
 refine Rx1 7 7 (z := c4 0) (t := 155) ?_
 refine Xv ?_
 refine Xls ?_ (sub := c4 t4) (j := 12) k_t2 Y8c
 refine XR ?_ ((Q0 hG off0.ext).2.2.2.1 hd)
 refine Xf ?_ (fun W hW => c_N19 W (Q0 (Q0 hG off0.ext) hW).1)
 refine Xv ?_
 refine Xls ?_ (sub := c4 t10) (j := 12) k_t3 Y8c
 refine Xf ?_ (fun W hW => c_N20 W (Q0 (Q0 hG off0.ext) hW).1)
 refine XN ?_
 intro J3s W11 J0n hE h_t7
 have hO := Z7 hE
 have nq_t2_t7 := bn k_t2 J0n
 have Z8k := bn k_t3 J0n
 have Q4h := bn k_t4 J0n
 have J14 := bn k_t5 J0n
 have J2s := bn k_t6 J0n
 have J5c := fbn off0 J0n
 replace k_t2 := k_t2.o hO
 replace k_t3 := k_t3.o hO
 replace k_t4 := k_t4.o hO
 replace k_t5 := k_t5.o hO
 replace k_t6 := k_t6.o hO
 replace off0 := off0.o hO
 clear hO hE J0n
 have k_t7 : Blk W11 J3s (c4 0) 155 := h_t7
 clear h_t7
 refine Lp ?_ k_t7 (cells := c4 N20)
 intro W12 hO h_
 replace k_t7 : Blk W12 J3s (c4 N20) 155 := h_
 clear h_
 replace k_t2 := k_t2.p hO nq_t2_t7
 replace k_t3 := k_t3.p hO Z8k
 replace k_t4 := k_t4.p hO Q4h
 replace k_t5 := k_t5.p hO J14
 replace k_t6 := k_t6.p hO J2s
 replace off0 := off0.p hO J5c
 clear hO
 refine LN ?_
 go_upto_region 5 with fail
 refine Rx1 8 8 (z := c4 0) (t := 155) ?_
 refine Xv ?_
 refine Xls ?_ (sub := c4 z3) (j := 8) k_t2 Q7r
 refine Xv ?_
 refine Xls ?_ (sub := c4 z3) (j := 8) k_t2 Q7r
 refine Xf ?_ (fun W hW => c_N21 W (Q0 (Q0 hG off0.ext) hW).1)
 refine Xv ?_
 refine Xls ?_ (sub := c4 z9) (j := 8) k_t3 Q7r
 refine Xf ?_ (fun W hW => c_N22 W (Q0 (Q0 hG off0.ext) hW).1)
 refine XN ?_
 intro Q9o W13 J1b hE h_t8
 have hO := Z7 hE
 have J2d := bn k_t4 J1b
 have J2e := bn k_t5 J1b
 have J2f := bn k_t6 J1b
 have J35 := bn k_t7 J1b
 have J6f := fbn off0 J1b
 replace k_t4 := k_t4.o hO
 replace k_t5 := k_t5.o hO
 replace k_t6 := k_t6.o hO
 replace k_t7 := k_t7.o hO
 replace off0 := off0.o hO
 clear hO hE J1b
 have k_t8 : Blk W13 Q9o (c4 0) 155 := h_t8
 clear h_t8
 refine Lp ?_ k_t8 (cells := c4 N22)
 intro W14 hO h_
 replace k_t8 : Blk W14 Q9o (c4 N22) 155 := h_
 clear h_
 replace k_t4 := k_t4.p hO J2d
 replace k_t5 := k_t5.p hO J2e
 replace k_t6 := k_t6.p hO J2f
 replace k_t7 := k_t7.p hO J35
 replace off0 := off0.p hO J6f
 clear hO
 refine LN ?_
 go_upto_region 6 with fail
 refine J1g 12 [⟨12, 9, c4 0, 155⟩, ⟨13, 10, c4 0, 155⟩, ⟨14, 11, c4 0, 155⟩, ⟨15, 12, c4 0, 155⟩] (by kernel_rfl) ?_ (by kernel_rfl) ?_
 ·
  intro x hx
  simp only [List.mem_cons, List.not_mem_nil, or_false] at hx
  rcases hx with rfl | rfl | rfl | rfl <;> exact ⟨_, rfl, rfl, rfl, fun _ _ => by kernel_rfl⟩
 simp only [List.take_succ_cons, List.take_zero, List.take_nil]
 (try simp only [Act.put, mA, mB, mC])
 refine Xl ?_ k_t6
 refine Xl ?_ k_t5
 refine Xf ?_ (fun W hW => c_N23 W (Q0 (Q0 hG off0.ext) hW).1)
 refine Xl ?_ k_t8
 refine Xl ?_ k_t7
 refine Xf ?_ (fun W hW => c_N24 W (Q0 (Q0 hG off0.ext) hW).1)
 refine Xl ?_ k_t8
 refine Xl ?_ k_t7
 refine Xf ?_ (fun W hW => c_N25 W (Q0 (Q0 hG off0.ext) hW).1)
 refine Xl ?_ k_t6
 refine Xl ?_ k_t5
 refine Xf ?_ (fun W hW => c_N26 W (Q0 (Q0 hG off0.ext) hW).1)
 refine Z4 ?_
 intro β W15 hE hN hD
 obtain ⟨J77, h_t9⟩ := hN _ (List.mem_cons_self ..)
 obtain ⟨Q67, h_t10⟩ := hN _ (List.mem_cons_of_mem _ (List.mem_cons_self ..))
 have nq_t9_t10 := (hD _ (List.mem_cons_of_mem _ (List.mem_cons_self ..)) _ (List.mem_cons_self ..) (by decide)).symm
 obtain ⟨J1t, h_t11⟩ := hN _ (List.mem_cons_of_mem _ (List.mem_cons_of_mem _ (List.mem_cons_self ..)))
 have nq_t9_t11 := (hD _ (List.mem_cons_of_mem _ (List.mem_cons_of_mem _ (List.mem_cons_self ..))) _ (List.mem_cons_self ..) (by decide)).symm
 have nq_t10_t11 := (hD _ (List.mem_cons_of_mem _ (List.mem_cons_of_mem _ (List.mem_cons_self ..))) _ (List.mem_cons_of_mem _ (List.mem_cons_self ..)) (by decide)).symm
 obtain ⟨Q2l, h_t12⟩ := hN _ (List.mem_cons_of_mem _ (List.mem_cons_of_mem _ (List.mem_cons_of_mem _ (List.mem_cons_self ..))))
 have nq_t9_t12 := (hD _ (List.mem_cons_of_mem _ (List.mem_cons_of_mem _ (List.mem_cons_of_mem _ (List.mem_cons_self ..)))) _ (List.mem_cons_self ..) (by decide)).symm
 have nq_t10_t12 := (hD _ (List.mem_cons_of_mem _ (List.mem_cons_of_mem _ (List.mem_cons_of_mem _ (List.mem_cons_self ..)))) _ (List.mem_cons_of_mem _ (List.mem_cons_self ..)) (by decide)).symm
 have nq_t11_t12 := (hD _ (List.mem_cons_of_mem _ (List.mem_cons_of_mem _ (List.mem_cons_of_mem _ (List.mem_cons_self ..)))) _ (List.mem_cons_of_mem _ (List.mem_cons_of_mem _ (List.mem_cons_self ..))) (by decide)).symm
 clear hN hD
 simp only [J0e, Act.put, mA, mB, mC, List.drop_succ_cons, List.drop_zero, List.drop_nil, List.length_cons, List.length_nil, Nat.add_zero] at J77 h_t9 Q67 h_t10 J1t h_t11 Q2l h_t12 nq_t9_t10 nq_t9_t11 nq_t10_t11 nq_t9_t12 nq_t10_t12 nq_t11_t12 ⊢
 have hO := Z7 hE
 generalize β 12 = Y5l at *
 have Q4i := bn k_t4 J77
 have Q9p := fbn off0 J77
 generalize β 13 = Z8l at *
 have Z55 := bn k_t4 Q67
 have Y8d := fbn off0 Q67
 generalize β 14 = Z8m at *
 have Z56 := bn k_t4 J1t
 have J6g := fbn off0 J1t
 generalize β 15 = Q4j at *
 have Z57 := bn k_t4 Q2l
 have Z17 := fbn off0 Q2l
 replace k_t4 := k_t4.o hO
 replace off0 := off0.o hO
 clear hO hE β J77 Q67 J1t Q2l
 have k_t9 : Blk W15 Y5l (c4 0) 155 := h_t9
 clear h_t9
 have k_t10 : Blk W15 Z8l (c4 0) 155 := h_t10
 clear h_t10
 have k_t11 : Blk W15 Z8m (c4 0) 155 := h_t11
 clear h_t11
 have k_t12 : Blk W15 Q4j (c4 0) 155 := h_t12
 clear h_t12
 refine Lp ?_ k_t9 (cells := c4 N23)
 intro W16 hO h_
 replace k_t9 : Blk W16 Y5l (c4 N23) 155 := h_
 clear h_
 replace k_t4 := k_t4.p hO Q4i
 replace k_t10 := k_t10.p hO nq_t9_t10.symm
 replace k_t11 := k_t11.p hO nq_t9_t11.symm
 replace k_t12 := k_t12.p hO nq_t9_t12.symm
 replace off0 := off0.p hO Q9p
 clear hO
 refine Lp ?_ k_t10 (cells := c4 N24)
 intro W17 hO h_
 replace k_t10 : Blk W17 Z8l (c4 N24) 155 := h_
 clear h_
 replace k_t4 := k_t4.p hO Z55
 replace k_t9 := k_t9.p hO nq_t9_t10
 replace k_t11 := k_t11.p hO nq_t10_t11.symm
 replace k_t12 := k_t12.p hO nq_t10_t12.symm
 replace off0 := off0.p hO Y8d
 clear hO
 refine Lp ?_ k_t11 (cells := c4 N25)
 intro W18 hO h_
 replace k_t11 : Blk W18 Z8m (c4 N25) 155 := h_
 clear h_
 replace k_t4 := k_t4.p hO Z56
 replace k_t9 := k_t9.p hO nq_t9_t11
 replace k_t10 := k_t10.p hO nq_t10_t11
 replace k_t12 := k_t12.p hO nq_t11_t12.symm
 replace off0 := off0.p hO J6g
 clear hO
 refine Lp ?_ k_t12 (cells := c4 N26)
 intro W19 hO h_
 replace k_t12 : Blk W19 Q4j (c4 N26) 155 := h_
 clear h_
 replace k_t4 := k_t4.p hO Z57
 replace k_t9 := k_t9.p hO nq_t9_t12
 replace k_t10 := k_t10.p hO nq_t10_t12
 replace k_t11 := k_t11.p hO nq_t11_t12
 replace off0 := off0.p hO Z17
 clear hO
 refine LN ?_
 go_upto_region 7 with fail
 refine Rx 13 ?_
 refine Xl ?_ k_t9
 refine Xl ?_ k_t10
 refine Xf ?_ (fun W hW => c_N27 W (Q0 (Q0 hG off0.ext) hW).1)
 refine Xl ?_ k_t11
 refine Xl ?_ k_t12
 refine Xf ?_ (fun W hW => c_N28 W (Q0 (Q0 hG off0.ext) hW).1)
 refine Xl ?_ k_t10
 refine Xl ?_ k_t11
 refine Xf ?_ (fun W hW => c_N29 W (Q0 (Q0 hG off0.ext) hW).1)
 refine Xl ?_ k_t9
 refine Xl ?_ k_t12
 refine Xf ?_ (fun W hW => c_N30 W (Q0 (Q0 hG off0.ext) hW).1)
 refine Xw ?_ (v := .agg (p4 N27 N28 N29 N30)) (hv := fun _ _ => by kernel_rfl)
 refine Z4 fun W20 hE => ?_
 have hO := Z7 hE
 replace k_t4 := k_t4.o hO
 replace off0 := off0.o hO
 clear hO hE
 refine Lp ?_ k_t4 (cells := p4 N27 N28 N29 N30)
 intro W21 hO h_
 replace k_t4 : Blk W21 Q7q (p4 N27 N28 N29 N30) 157 := h_
 clear h_
 replace off0 := off0.p hO J4r
 clear hO
 refine LN ?_
 go_wp2
 exact bodyPost_ret (Y0 rfl rfl k_t4 (by kernel_rfl) (by kernel_rfl)) rfl ⟨rfl, off0.ext⟩
theorem Y8e {X1 Y1 Z1 T1 : Nat} {p1 : Pr} (h1 : RW X1 Y1 Z1 T1 p1) :
  ∃ X Y Z T, RN X Y Z T (J8d p1) ∧ ∀ w, GE kn w → Calls Tryz.prog 108 #[.agg (p4 X1 Y1 Z1 T1)] w fun e w' => Ret (.agg (p4 X Y Z T)) w w' e := by
 obtain ⟨x1, y2, z3, t4, r5, c6⟩ := J7h (kn := kn) h1
 have c_N7 := Q0m x1 (Z8 r5.x)
 obtain ⟨N7, hN7⟩ := exn ((PP - x1 % PP) % PP)
 rw [← hN7] at c_N7
 have lN7 := bpp hN7
 have bN7 := Z8 lN7
 have HN7 := Lib.hid hN7
 clear hN7
 have c_N8 := Q0m t4 (Z8 r5.t)
 obtain ⟨N8, hN8⟩ := exn ((PP - t4 % PP) % PP)
 rw [← hN8] at c_N8
 have lN8 := bpp hN8
 have bN8 := Z8 lN8
 have HN8 := Lib.hid hN8
 clear hN8
 refine ⟨N7, y2, z3, N8, Y8f r5 HN7.out HN8.out, fun w hG => ?_⟩
 have off0 : Off [] w w := Off.refl _ _
 go_enter Tryz.func108, Tryz.ntmps108
 go_upto_region 0 with fail
 refine wp_region_lit ?_
 refine Ln ?_ (z := p4 X1 Y1 Z1 T1) (t := 157)
 intro J1m W1 J8c hO h_
 have Q1d := fbn off0 J8c
 replace off0 := off0.o hO
 have k_t1 := h_
 clear hO h_ J8c
 refine Ln ?_ (z := p4 0 0 0 0) (t := 157)
 intro J5o W2 J0l hO h_
 have nq_t1_t2 := bn k_t1 J0l
 have J0r := fbn off0 J0l
 replace k_t1 := k_t1.o hO
 replace off0 := off0.o hO
 have k_t2 := h_
 clear hO h_ J0l
 refine J3 ?_
 go_upto_region 1 with fail
 refine wp_region_lit ?_
 refine L0 ?_ k_t1
 refine Lr ?_ (c6 W2 (Q0 hG off0.ext))
 intro W3 hO
 replace k_t1 := k_t1.o hO
 replace k_t2 := k_t2.o hO
 replace off0 := off0.o hO
 clear hO
 refine Lp ?_ k_t1 (cells := p4 x1 y2 z3 t4)
 intro W4 hO h_
 replace k_t1 : Blk W4 J1m (p4 x1 y2 z3 t4) 157 := h_
 clear h_
 replace k_t2 := k_t2.p hO nq_t1_t2.symm
 replace off0 := off0.p hO Q1d
 clear hO
 refine J3 ?_
 go_upto_region 2 with fail
 refine Rx 11 ?_
 refine Xv ?_
 refine Xls ?_ (sub := c4 x1) (j := 0) k_t1 Q5n
 refine Xf ?_ (fun W hW => c_N7 W (Q0 (Q0 hG off0.ext) hW).1)
 refine Xv ?_
 refine Xls ?_ (sub := c4 y2) (j := 4) k_t1 Q7s
 refine Xv ?_
 refine Xls ?_ (sub := c4 z3) (j := 8) k_t1 Q7r
 refine Xv ?_
 refine Xls ?_ (sub := c4 t4) (j := 12) k_t1 Y8c
 refine Xf ?_ (fun W hW => c_N8 W (Q0 (Q0 hG off0.ext) hW).1)
 refine Xw ?_ (v := .agg (p4 N7 y2 z3 N8)) (hv := fun _ _ => by kernel_rfl)
 refine Z4 fun W5 hE => ?_
 have hO := Z7 hE
 replace k_t2 := k_t2.o hO
 replace off0 := off0.o hO
 clear hO hE
 refine Lp ?_ k_t2 (cells := p4 N7 y2 z3 N8)
 intro W6 hO h_
 replace k_t2 : Blk W6 J5o (p4 N7 y2 z3 N8) 157 := h_
 clear h_
 replace off0 := off0.p hO J0r
 clear hO
 refine LN ?_
 go_wp2
 exact bodyPost_ret (Y0 rfl rfl k_t2 (by kernel_rfl) (by kernel_rfl)) rfl ⟨rfl, off0.ext⟩
theorem Q7t (hb : kn.b) :
  ∃ X Y Z T, RN X Y Z T BP ∧ ∀ w, GE kn w → Calls Tryz.prog 89 #[] w fun e w' => Ret (.agg (p4 X Y Z T)) w w' e := by
 obtain ⟨t1, r2, c3⟩ := Y5h (kn := kn) (X := BX) (Y := BY) (by decide) (by decide) Q2m
 refine ⟨BX, BY, 1, t1, r2, fun w hG => ?_⟩
 have off0 : Off [] w w := Off.refl _ _
 go_enter Tryz.func89, Tryz.ntmps89
 go_upto_region 0 with fail
 refine wp_region_lit ?_
 refine Ln ?_ (z := p4 0 0 0 0) (t := 157)
 intro Y2z W1 Z8a hO h_
 have Z8b := fbn off0 Z8a
 replace off0 := off0.o hO
 have k_t0 := h_
 clear hO h_ Z8a
 refine J3 ?_
 go_upto_region 1 with fail
 refine wp_region_lit ?_
 refine Q37 (by rfl) rfl rfl ((Q0 hG off0.ext).2.2.2.2.1 hb) (by kernel_rfl) (by kernel_rfl) ?_
 (try simp only [Act.put, mA, mB, mC])
 refine Q37 (by rfl) rfl rfl ((Q0 hG off0.ext).2.2.2.2.2 hb) (by kernel_rfl) (by kernel_rfl) ?_
 (try simp only [Act.put, mA, mB, mC])
 refine Lr ?_ (c3 W1 (Q0 hG off0.ext))
 intro W2 hO
 replace k_t0 := k_t0.o hO
 replace off0 := off0.o hO
 clear hO
 refine Lp ?_ k_t0 (cells := p4 BX BY 1 t1)
 intro W3 hO h_
 replace k_t0 : Blk W3 Y2z (p4 BX BY 1 t1) 157 := h_
 clear h_
 replace off0 := off0.p hO Z8b
 clear hO
 refine J3 ?_
 go_wp2
 exact bodyPost_ret (Y0 rfl rfl k_t0 (by kernel_rfl) (by kernel_rfl)) rfl ⟨rfl, off0.ext⟩
end Go.Proofs.YtejkmhgkkibafaaGreatDoor.S8
