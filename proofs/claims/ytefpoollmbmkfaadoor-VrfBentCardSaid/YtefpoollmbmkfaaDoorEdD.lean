/- edwards: Same, Encode, Decode. Conditions: the cells of the variables hold the curve's numbers. -/
import Derived.Test.YtefpoollmbmkfaaDoorGc
import Derived.Test.YtefpoollmbmkfaaDoorEi
import Derived.Test.YtefpoollmbmkfaaDoorEdC
set_option linter.unusedSimpArgs false
set_option linter.unusedVariables false
namespace Go.Proofs.YtefpoollmbmkfaaDoor
set_option maxHeartbeats 1500000
set_option maxRecDepth 100000
open Go.RowKit
attribute [local irreducible] wpList
variable {kn : Kn}
theorem Q45 {A : Nat} (h : A < PP) : A < 2 ^ 256 := Nat.lt_trans h (by decide)
theorem Z8e {X1 Y1 Z1 X2 Y2 Z2 m1 m2 m3 m4 : Nat} {p q : Pr} (r1 : RD X1 Y1 Z1 p) (r2 : RD X2 Y2 Z2 q) (e1 : m1 = X1 * Z2 % PP) (e2 : m2 = X2 * Z1 % PP) (e3 : m3 = Y1 * Z2 % PP) (e4 : m4 = Y2 * Z1 % PP) (h1 : m1 = m2) (h2 : m3 = m4) : decide (p = q) = true :=
  decide_eq_true ((Q5a r1 r2 e1 e2 e3 e4).1 ⟨h1, h2⟩)
theorem Z3f {X1 Y1 Z1 X2 Y2 Z2 m1 m2 m3 m4 : Nat} {p q : Pr} (r1 : RD X1 Y1 Z1 p) (r2 : RD X2 Y2 Z2 q) (e1 : m1 = X1 * Z2 % PP) (e2 : m2 = X2 * Z1 % PP) (e3 : m3 = Y1 * Z2 % PP) (e4 : m4 = Y2 * Z1 % PP) (h1 : ¬ m1 = m2) : decide (p = q) = false :=
  decide_eq_false fun h => h1 ((Q5a r1 r2 e1 e2 e3 e4).2 h).1
theorem Z3g {X1 Y1 Z1 X2 Y2 Z2 m1 m2 m3 m4 : Nat} {p q : Pr} (r1 : RD X1 Y1 Z1 p) (r2 : RD X2 Y2 Z2 q) (e1 : m1 = X1 * Z2 % PP) (e2 : m2 = X2 * Z1 % PP) (e3 : m3 = Y1 * Z2 % PP) (e4 : m4 = Y2 * Z1 % PP) (h1 : ¬ m3 = m4) : decide (p = q) = false :=
  decide_eq_false fun h => h1 ((Q5a r1 r2 e1 e2 e3 e4).2 h).2
theorem V1t {X Y Z i x y : Nat} {a : Pr} (r : RD X Y Z a) (ei : i = pw Z (PP - 2)) (ex : x = X * i % PP) (ey : y = Y * i % PP) (ho : x % 2 = 1) : J1 .u8 32 (upd (Q6 y) 31 (bits .or .u8 (Q6 y 31) 128)) = J1 .u8 32 (Q6 (enc a)) := by
  obtain ⟨h1, h2⟩ := Q8b r ei ex ey
  rw [Y6g (Nat.lt_trans (ey ▸ J32 _) Q8c)]
  unfold enc
  rw [← h1, ← h2, ho]
theorem V1u {X Y Z i x y : Nat} {a : Pr} (r : RD X Y Z a) (ei : i = pw Z (PP - 2)) (ex : x = X * i % PP) (ey : y = Y * i % PP) (ho : ¬ x % 2 = 1) : J1 .u8 32 (Q6 y) = J1 .u8 32 (Q6 (enc a)) := by
  obtain ⟨h1, h2⟩ := Q8b r ei ex ey
  have : x % 2 = 0 := by omega
  unfold enc
  rw [← h1, ← h2, this, Nat.mul_zero, Nat.add_zero]

theorem Q1o {X1 Y1 Z1 T1 : Nat} {p1 : Pr} {X2 Y2 Z2 T2 : Nat} {p2 : Pr} (h1 : RW X1 Y1 Z1 T1 p1) (h2 : RW X2 Y2 Z2 T2 p2) :
  ∀ w, GE kn w → Calls Tryd.prog 38 #[.agg (p4 X1 Y1 Z1 T1), .agg (p4 X2 Y2 Z2 T2)] w fun e w' => Ret (.bool (decide (p1 = p2))) w w' e := by
 obtain ⟨x1, y2, z3, t4, r5, c6⟩ := J54 (kn := kn) h1
 obtain ⟨x7, y8, z9, t10, r11, c12⟩ := J54 (kn := kn) h2
 have c_N13 := K7 x1 z9 (Q9 r5.x) (Q9 r11.z)
 obtain ⟨N13, hN13⟩ := V2 (x1 * z9 % PP)
 rw [← hN13] at c_N13
 have lN13 := bpp hN13
 have bN13 := Q9 lN13
 have HN13 := Lib.hid hN13
 clear hN13
 have c_N14 := K7 x7 z3 (Q9 r11.x) (Q9 r5.z)
 obtain ⟨N14, hN14⟩ := V2 (x7 * z3 % PP)
 rw [← hN14] at c_N14
 have lN14 := bpp hN14
 have bN14 := Q9 lN14
 have HN14 := Lib.hid hN14
 clear hN14
 have cs15 := J6m N13 N14 bN13 bN14
 rw [Nat.mod_eq_of_lt lN13, Nat.mod_eq_of_lt lN14] at cs15
 have c_N16 := K7 y2 z9 (Q9 r5.y) (Q9 r11.z)
 obtain ⟨N16, hN16⟩ := V2 (y2 * z9 % PP)
 rw [← hN16] at c_N16
 have lN16 := bpp hN16
 have bN16 := Q9 lN16
 have HN16 := Lib.hid hN16
 clear hN16
 have c_N17 := K7 y8 z3 (Q9 r11.y) (Q9 r5.z)
 obtain ⟨N17, hN17⟩ := V2 (y8 * z3 % PP)
 rw [← hN17] at c_N17
 have lN17 := bpp hN17
 have bN17 := Q9 lN17
 have HN17 := Lib.hid hN17
 clear hN17
 have cs18 := J6m N16 N17 bN16 bN17
 rw [Nat.mod_eq_of_lt lN16, Nat.mod_eq_of_lt lN17] at cs18
 intro w hG
 have off0 : Off [] w w := Off.refl _ _
 go_enter Tryd.func38, Tryd.ntmps38
 go_upto_region 0 with fail
 refine wp_region_lit ?_
 refine Ln ?_ (z := p4 X1 Y1 Z1 T1) (t := 60)
 intro J0c W1 U0 hO h_
 have J01 := fbn off0 U0
 replace off0 := off0.o hO
 have k_t2 := h_
 clear hO h_ U0
 refine Ln ?_ (z := p4 X2 Y2 Z2 T2) (t := 60)
 intro J6g W2 J13 hO h_
 have nq_t2_t3 := bn k_t2 J13
 have J5f := fbn off0 J13
 replace k_t2 := k_t2.o hO
 replace off0 := off0.o hO
 have k_t3 := h_
 clear hO h_ J13
 refine Lw ?_ (v := .bool false)
 refine J0 ?_
 go_upto_region 1 with fail
 refine Rx 4 ?_
 refine Xl ?_ k_t2
 refine Xf ?_ (fun W hW => c6 W (J7 (J7 hG off0.ext) hW))
 refine Xl ?_ k_t3
 refine Xf ?_ (fun W hW => c12 W (J7 (J7 hG off0.ext) hW))
 refine Q3 fun W3 hE => ?_
 have hO := Z6 hE
 replace k_t2 := k_t2.o hO
 replace k_t3 := k_t3.o hO
 replace off0 := off0.o hO
 clear hO hE
 refine Lp ?_ k_t2 (cells := p4 x1 y2 z3 t4)
 intro W4 hO h_
 replace k_t2 : Blk W4 J0c (p4 x1 y2 z3 t4) 60 := h_
 clear h_
 replace k_t3 := k_t3.p hO nq_t2_t3.symm
 replace off0 := off0.p hO J01
 clear hO
 refine Lp ?_ k_t3 (cells := p4 x7 y8 z9 t10)
 intro W5 hO h_
 replace k_t3 : Blk W5 J6g (p4 x7 y8 z9 t10) 60 := h_
 clear h_
 replace k_t2 := k_t2.p hO nq_t2_t3
 replace off0 := off0.p hO J5f
 clear hO
 refine LN ?_
 by_cases hx : N13 = N14
 ·
  have _f := hx
  by_cases hy : N16 = N17
  ·
   have _f := hy
   go_upto_region 2 with fail
   refine Rx 25 ?_
   refine Xv ?_
   refine Xls ?_ (sub := c4 x1) (j := 0) k_t2 Q0t
   refine Xv ?_
   refine Xls ?_ (sub := c4 z9) (j := 8) k_t3 J8p
   refine Xf ?_ (fun W hW => c_N13 W (J7 (J7 hG off0.ext) hW).1)
   refine Xv ?_
   refine Xls ?_ (sub := c4 x7) (j := 0) k_t3 Q0t
   refine Xv ?_
   refine Xls ?_ (sub := c4 z3) (j := 8) k_t2 J8p
   refine Xf ?_ (fun W hW => c_N14 W (J7 (J7 hG off0.ext) hW).1)
   rw [decide_eq_true hx] at cs15
   refine Xf ?_ (fun W hW => cs15 W (J7 (J7 hG off0.ext) hW).1)
   refine Xv ?_
   refine Xv ?_
   refine Xls ?_ (sub := c4 y2) (j := 4) k_t2 Q2q
   refine Xv ?_
   refine Xls ?_ (sub := c4 z9) (j := 8) k_t3 J8p
   refine Xf ?_ (fun W hW => c_N16 W (J7 (J7 hG off0.ext) hW).1)
   refine Xv ?_
   refine Xls ?_ (sub := c4 y8) (j := 4) k_t3 Q2q
   refine Xv ?_
   refine Xls ?_ (sub := c4 z3) (j := 8) k_t2 J8p
   refine Xf ?_ (fun W hW => c_N17 W (J7 (J7 hG off0.ext) hW).1)
   rw [decide_eq_true hy] at cs18
   refine Xf ?_ (fun W hW => cs18 W (J7 (J7 hG off0.ext) hW).1)
   refine Xv ?_
   refine Xv ?_
   refine Q3 fun W6 hE => ?_
   have hO := Z6 hE
   replace k_t2 := k_t2.o hO
   replace k_t3 := k_t3.o hO
   replace off0 := off0.o hO
   clear hO hE
   refine LN ?_
   go_wp2
   rw [Z8e r5.rr r11.rr HN13.out HN14.out HN16.out HN17.out hx hy]
   exact bodyPost_ret (v := .bool true) (by simp only [results, Tryd.results38]; go_simp) rfl ⟨rfl, off0.ext⟩
  ·
   have _f := hy
   go_upto_region 2 with fail
   refine Rx 25 ?_
   refine Xv ?_
   refine Xls ?_ (sub := c4 x1) (j := 0) k_t2 Q0t
   refine Xv ?_
   refine Xls ?_ (sub := c4 z9) (j := 8) k_t3 J8p
   refine Xf ?_ (fun W hW => c_N13 W (J7 (J7 hG off0.ext) hW).1)
   refine Xv ?_
   refine Xls ?_ (sub := c4 x7) (j := 0) k_t3 Q0t
   refine Xv ?_
   refine Xls ?_ (sub := c4 z3) (j := 8) k_t2 J8p
   refine Xf ?_ (fun W hW => c_N14 W (J7 (J7 hG off0.ext) hW).1)
   rw [decide_eq_true hx] at cs15
   refine Xf ?_ (fun W hW => cs15 W (J7 (J7 hG off0.ext) hW).1)
   refine Xv ?_
   refine Xv ?_
   refine Xls ?_ (sub := c4 y2) (j := 4) k_t2 Q2q
   refine Xv ?_
   refine Xls ?_ (sub := c4 z9) (j := 8) k_t3 J8p
   refine Xf ?_ (fun W hW => c_N16 W (J7 (J7 hG off0.ext) hW).1)
   refine Xv ?_
   refine Xls ?_ (sub := c4 y8) (j := 4) k_t3 Q2q
   refine Xv ?_
   refine Xls ?_ (sub := c4 z3) (j := 8) k_t2 J8p
   refine Xf ?_ (fun W hW => c_N17 W (J7 (J7 hG off0.ext) hW).1)
   rw [decide_eq_false hy] at cs18
   refine Xf ?_ (fun W hW => cs18 W (J7 (J7 hG off0.ext) hW).1)
   refine Xv ?_
   refine Xv ?_
   refine Q3 fun W6 hE => ?_
   have hO := Z6 hE
   replace k_t2 := k_t2.o hO
   replace k_t3 := k_t3.o hO
   replace off0 := off0.o hO
   clear hO hE
   refine LN ?_
   go_wp2
   rw [Z3g r5.rr r11.rr HN13.out HN14.out HN16.out HN17.out hy]
   exact bodyPost_ret (v := .bool false) (by simp only [results, Tryd.results38]; go_simp) rfl ⟨rfl, off0.ext⟩
 ·
  have _f := hx
  go_upto_region 2 with fail
  refine Rx 25 ?_
  refine Xv ?_
  refine Xls ?_ (sub := c4 x1) (j := 0) k_t2 Q0t
  refine Xv ?_
  refine Xls ?_ (sub := c4 z9) (j := 8) k_t3 J8p
  refine Xf ?_ (fun W hW => c_N13 W (J7 (J7 hG off0.ext) hW).1)
  refine Xv ?_
  refine Xls ?_ (sub := c4 x7) (j := 0) k_t3 Q0t
  refine Xv ?_
  refine Xls ?_ (sub := c4 z3) (j := 8) k_t2 J8p
  refine Xf ?_ (fun W hW => c_N14 W (J7 (J7 hG off0.ext) hW).1)
  rw [decide_eq_false hx] at cs15
  refine Xf ?_ (fun W hW => cs15 W (J7 (J7 hG off0.ext) hW).1)
  refine Xv ?_
  refine Xs ?_
  refine Xs ?_
  refine Xs ?_
  refine Xs ?_
  refine Xs ?_
  refine Xs ?_
  refine Xs ?_
  refine Xs ?_
  refine Xs ?_
  refine Xs ?_
  refine Xs ?_
  refine Xv ?_
  refine Xv ?_
  refine Q3 fun W6 hE => ?_
  have hO := Z6 hE
  replace off0 := off0.o hO
  clear hO hE
  refine LN ?_
  go_wp2
  rw [Z3f r5.rr r11.rr HN13.out HN14.out HN16.out HN17.out hx]
  exact bodyPost_ret (v := .bool false) (by simp only [results, Tryd.results38]; go_simp) rfl ⟨rfl, off0.ext⟩
theorem Y85 {X1 Y1 Z1 T1 : Nat} {p1 : Pr} (h1 : RW X1 Y1 Z1 T1 p1) :
  ∀ w, GE kn w → Calls Tryd.prog 41 #[.agg (p4 X1 Y1 Z1 T1)] w fun e w' => Ret (.agg (J1 .u8 32 (Q6 (enc p1)))) w w' e := by
 obtain ⟨x1, y2, z3, t4, r5, c6⟩ := J54 (kn := kn) h1
 have c_N7 := Y7y z3 (Q9 r5.z)
 obtain ⟨N7, hN7⟩ := V2 (pw z3 (PP - 2))
 rw [← hN7] at c_N7
 have lN7 := bpp hN7
 have bN7 := Q9 lN7
 have HN7 := Lib.hid hN7
 clear hN7
 have c_N8 := K7 y2 N7 (Q9 r5.y) bN7
 obtain ⟨N8, hN8⟩ := V2 (y2 * N7 % PP)
 rw [← hN8] at c_N8
 have lN8 := bpp hN8
 have bN8 := Q9 lN8
 have HN8 := Lib.hid hN8
 clear hN8
 have cb9 := Q4t N8 bN8
 rw [Nat.mod_eq_of_lt lN8] at cb9
 have c_N10 := K7 x1 N7 (Q9 r5.x) bN7
 obtain ⟨N10, hN10⟩ := V2 (x1 * N7 % PP)
 rw [← hN10] at c_N10
 have lN10 := bpp hN10
 have bN10 := Q9 lN10
 have HN10 := Lib.hid hN10
 clear hN10
 have cd11 := Z18 N10 bN10
 rw [Nat.mod_eq_of_lt lN10] at cd11
 intro w hG
 have off0 : Off [] w w := Off.refl _ _
 go_enter Tryd.func41, Tryd.ntmps41
 go_upto_region 0 with fail
 refine wp_region_lit ?_
 refine Ln ?_ (z := p4 X1 Y1 Z1 T1) (t := 60)
 intro J1a W1 J2n hO h_
 have J82 := fbn off0 J2n
 replace off0 := off0.o hO
 have k_t1 := h_
 clear hO h_ J2n
 refine Ln ?_ (z := J1 .u8 32 (Q6 0)) (t := 22)
 intro J2q W2 U0 hO h_
 have nq_t1_t2 := bn k_t1 U0
 have J01 := fbn off0 U0
 replace k_t1 := k_t1.o hO
 replace off0 := off0.o hO
 have k_t2 := h_
 clear hO h_ U0
 refine J0 ?_
 go_upto_region 1 with fail
 refine wp_region_lit ?_
 refine L0 ?_ k_t1
 refine Lr ?_ (c6 W2 (J7 hG off0.ext))
 intro W3 hO
 replace k_t1 := k_t1.o hO
 replace k_t2 := k_t2.o hO
 replace off0 := off0.o hO
 clear hO
 refine Lp ?_ k_t1 (cells := p4 x1 y2 z3 t4)
 intro W4 hO h_
 replace k_t1 : Blk W4 J1a (p4 x1 y2 z3 t4) 60 := h_
 clear h_
 replace k_t2 := k_t2.p hO nq_t1_t2.symm
 replace off0 := off0.p hO J82
 clear hO
 refine J0 ?_
 go_upto_region 2 with fail
 refine wp_region_lit ?_
 refine Lv ?_
 refine J05 (vs := (c4 z3).toList) (by rfl) rfl rfl k_t1 (J3z J8p) (by kernel_rfl) (by kernel_rfl) ?_
 (try simp only [Act.put, mA, mB, mC])
 refine Lr ?_ (c_N7 W4 (J7 hG off0.ext).1)
 intro W5 hO
 replace k_t1 := k_t1.o hO
 replace k_t2 := k_t2.o hO
 replace off0 := off0.o hO
 clear hO
 refine LnP ?_ (z := c4 0) (t := 58) (cells := c4 N7)
 intro V7b W7 J13 hO h_
 have nq_t2_t3 := bn k_t2 J13
 replace k_t1 := k_t1.o hO
 replace k_t2 := k_t2.o hO
 replace off0 := off0.o hO
 have k_t3 := h_
 clear hO h_ J13
 refine J0 ?_
 go_upto_region 3 with fail
 refine wp_region_lit ?_
 refine Lv ?_
 refine J05 (vs := (c4 y2).toList) (by rfl) rfl rfl k_t1 (J3z Q2q) (by kernel_rfl) (by kernel_rfl) ?_
 (try simp only [Act.put, mA, mB, mC])
 refine L0 ?_ k_t3
 refine Lr ?_ (c_N8 W7 (J7 hG off0.ext).1)
 intro W8 hO
 replace k_t1 := k_t1.o hO
 replace k_t2 := k_t2.o hO
 replace k_t3 := k_t3.o hO
 replace off0 := off0.o hO
 clear hO
 refine Lr ?_ (cb9 W8 (J7 hG off0.ext).1)
 intro W9 hO
 replace k_t1 := k_t1.o hO
 replace k_t2 := k_t2.o hO
 replace k_t3 := k_t3.o hO
 replace off0 := off0.o hO
 clear hO
 refine LnA ?_ (z := J1 .u8 32 (Q6 0)) (t := 22) (k := .u8) (n := 32) (f := Q6 N8)
 intro Z8f W11 J10 hO h_
 have Q53 := bn k_t1 J10
 have nq_t2_t4 := bn k_t2 J10
 have nq_t3_t4 := bn k_t3 J10
 have J2d := fbn off0 J10
 replace k_t1 := k_t1.o hO
 replace k_t2 := k_t2.o hO
 replace k_t3 := k_t3.o hO
 replace off0 := off0.o hO
 have k_t4 := h_
 clear hO h_ J10
 refine J0 ?_
 by_cases ho : N10 % 2 = 1
 ·
  have _f := ho
  go_upto_region 4 with fail
  refine wp_region_lit ?_
  refine Lv ?_
  refine J05 (vs := (c4 x1).toList) (by rfl) rfl rfl k_t1 (J3z Q0t) (by kernel_rfl) (by kernel_rfl) ?_
  (try simp only [Act.put, mA, mB, mC])
  refine L0 ?_ k_t3
  refine Lr ?_ (c_N10 W11 (J7 hG off0.ext).1)
  intro W12 hO
  replace k_t1 := k_t1.o hO
  replace k_t2 := k_t2.o hO
  replace k_t3 := k_t3.o hO
  replace k_t4 := k_t4.o hO
  replace off0 := off0.o hO
  clear hO
  rw [decide_eq_true ho] at cd11
  refine Lr ?_ (cd11 W12 (J7 hG off0.ext).1)
  intro W13 hO
  replace k_t1 := k_t1.o hO
  replace k_t2 := k_t2.o hO
  replace k_t3 := k_t3.o hO
  replace k_t4 := k_t4.o hO
  replace off0 := off0.o hO
  clear hO
  refine J0 ?_
  go_upto_region 5 with fail
  refine wp_region_lit ?_
  refine Lw ?_ (v := .pointer (some ⟨Z8f, 0 + 31, none⟩)) (hv := Q0 (m := 32) (by decide) (by decide) Tryd.underlying22 (by kernel_rfl) rfl rfl rfl)
  refine Lg ?_ k_t4 (v := .int .u8 ((Q6 N8) 31)) (hj := by rw [Nat.zero_add]; exact J6 _ _ _ _ (by decide))
  refine Lw ?_ (v := .int .u8 (bits .or .u8 (Q6 N8 31) 128)) (hv := by exact Z3h rfl rfl rfl rfl)
  refine Lw ?_ (v := .pointer (some ⟨Z8f, 0 + 31, none⟩)) (hv := Q0 (m := 32) (by decide) (by decide) Tryd.underlying22 (by kernel_rfl) rfl rfl rfl)
  refine J2i (v := .int .u8 (bits .or .u8 (Q6 N8 31) 128)) ⟨rfl, rfl⟩ (by rfl) rfl rfl rfl k_t4 (by rw [Q1, Nat.zero_add]; decide) (by kernel_rfl) ?_
  (try simp only [Act.put, mA, mB, mC])
  intro W14 hO h_
  rw [Nat.zero_add, J04] at h_
  replace k_t4 : Blk W14 Z8f (J1 .u8 32 (upd (Q6 N8) 31 (bits .or .u8 (Q6 N8 31) 128))) 22 := h_
  clear h_
  replace k_t1 := k_t1.p hO Q53
  replace k_t2 := k_t2.p hO nq_t2_t4
  replace k_t3 := k_t3.p hO nq_t3_t4
  replace off0 := off0.p hO J2d
  clear hO
  rw [V1t r5.rr HN7.out HN10.out HN8.out ho] at k_t4
  refine J0 ?_
  go_upto_region 6 with fail
  refine wp_region_lit ?_
  refine L0A ?_ k_t4
  refine LpA ?_ k_t2 (k := .u8) (n := 32) (f := Q6 (enc p1))
  intro W15 hO h_
  replace k_t2 : Blk W15 J2q (J1 .u8 32 (Q6 (enc p1))) 22 := h_
  clear h_
  replace k_t1 := k_t1.p hO nq_t1_t2
  replace k_t3 := k_t3.p hO nq_t2_t3.symm
  replace k_t4 := k_t4.p hO nq_t2_t4.symm
  replace off0 := off0.p hO J01
  clear hO
  refine J0 ?_
  go_wp2
  exact bodyPost_ret (K6 rfl rfl k_t2 (by kernel_rfl) (by rw [Q1]; kernel_rfl)) rfl ⟨rfl, off0.ext⟩
 ·
  have _f := ho
  go_upto_region 4 with fail
  refine wp_region_lit ?_
  refine Lv ?_
  refine J05 (vs := (c4 x1).toList) (by rfl) rfl rfl k_t1 (J3z Q0t) (by kernel_rfl) (by kernel_rfl) ?_
  (try simp only [Act.put, mA, mB, mC])
  refine L0 ?_ k_t3
  refine Lr ?_ (c_N10 W11 (J7 hG off0.ext).1)
  intro W12 hO
  replace k_t2 := k_t2.o hO
  replace k_t4 := k_t4.o hO
  replace off0 := off0.o hO
  clear hO
  rw [decide_eq_false ho] at cd11
  refine Lr ?_ (cd11 W12 (J7 hG off0.ext).1)
  intro W13 hO
  replace k_t2 := k_t2.o hO
  replace k_t4 := k_t4.o hO
  replace off0 := off0.o hO
  clear hO
  refine J0 ?_
  rw [V1u r5.rr HN7.out HN10.out HN8.out ho] at k_t4
  go_upto_region 6 with fail
  refine wp_region_lit ?_
  refine L0A ?_ k_t4
  refine LpA ?_ k_t2 (k := .u8) (n := 32) (f := Q6 (enc p1))
  intro W14 hO h_
  replace k_t2 : Blk W14 J2q (J1 .u8 32 (Q6 (enc p1))) 22 := h_
  clear h_
  replace off0 := off0.p hO J01
  clear hO
  refine J0 ?_
  go_wp2
  exact bodyPost_ret (K6 rfl rfl k_t2 (by kernel_rfl) (by rw [Q1]; kernel_rfl)) rfl ⟨rfl, off0.ext⟩
end Go.Proofs.YtefpoollmbmkfaaDoor
