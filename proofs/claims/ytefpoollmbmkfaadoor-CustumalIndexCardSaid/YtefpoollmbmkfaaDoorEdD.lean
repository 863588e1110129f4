/- edwards: Same, Encode, Decode. Conditions: the cells of the variables hold the curve's numbers. -/
import Derived.Test.YtefpoollmbmkfaaDoorGc
import Derived.Test.YtefpoollmbmkfaaDoorEi
import Derived.Test.YtefpoollmbmkfaaDoorEdC
set_option linter.unusedSimpArgs false
set_option linter.unusedVariables false
namespace Go.Proofs.YtefpoollmbmkfaaDoor
set_option maxHeartbeats 1500000
set_option maxRecDepth 100000
open Go.RowKit
attribute [local irreducible] wpList
variable {kn : Kn}
theorem lt_256p {A : Nat} (h : A < PP) : A < 2 ^ 256 := Nat.lt_trans h (by decide)
theorem same_t {X1 Y1 Z1 X2 Y2 Z2 m1 m2 m3 m4 : Nat} {p q : Pr} (r1 : RD X1 Y1 Z1 p) (r2 : RD X2 Y2 Z2 q) (e1 : m1 = X1 * Z2 % PP) (e2 : m2 = X2 * Z1 % PP) (e3 : m3 = Y1 * Z2 % PP) (e4 : m4 = Y2 * Z1 % PP) (h1 : m1 = m2) (h2 : m3 = m4) : decide (p = q) = true :=
  decide_eq_true ((same_iff r1 r2 e1 e2 e3 e4).1 ⟨h1, h2⟩)
theorem same_f1 {X1 Y1 Z1 X2 Y2 Z2 m1 m2 m3 m4 : Nat} {p q : Pr} (r1 : RD X1 Y1 Z1 p) (r2 : RD X2 Y2 Z2 q) (e1 : m1 = X1 * Z2 % PP) (e2 : m2 = X2 * Z1 % PP) (e3 : m3 = Y1 * Z2 % PP) (e4 : m4 = Y2 * Z1 % PP) (h1 : ¬ m1 = m2) : decide (p = q) = false :=
  decide_eq_false fun h => h1 ((same_iff r1 r2 e1 e2 e3 e4).2 h).1
theorem same_f2 {X1 Y1 Z1 X2 Y2 Z2 m1 m2 m3 m4 : Nat} {p q : Pr} (r1 : RD X1 Y1 Z1 p) (r2 : RD X2 Y2 Z2 q) (e1 : m1 = X1 * Z2 % PP) (e2 : m2 = X2 * Z1 % PP) (e3 : m3 = Y1 * Z2 % PP) (e4 : m4 = Y2 * Z1 % PP) (h1 : ¬ m3 = m4) : decide (p = q) = false :=
  decide_eq_false fun h => h1 ((same_iff r1 r2 e1 e2 e3 e4).2 h).2
/-- the bytes of a point, by the inverse -/
theorem enc_1 {X Y Z i x y : Nat} {a : Pr} (r : RD X Y Z a) (ei : i = pw Z (PP - 2)) (ex : x = X * i % PP) (ey : y = Y * i % PP) (ho : x % 2 = 1) : arrK .u8 32 (upd (byt y) 31 (bits .or .u8 (byt y 31) 128)) = arrK .u8 32 (byt (enc a)) := by
  obtain ⟨h1, h2⟩ := inv_xy r ei ex ey
  rw [set31 (Nat.lt_trans (ey ▸ mod_pp _) PP_top)]
  unfold enc
  rw [← h1, ← h2, ho]
theorem enc_0 {X Y Z i x y : Nat} {a : Pr} (r : RD X Y Z a) (ei : i = pw Z (PP - 2)) (ex : x = X * i % PP) (ey : y = Y * i % PP) (ho : ¬ x % 2 = 1) : arrK .u8 32 (byt y) = arrK .u8 32 (byt (enc a)) := by
  obtain ⟨h1, h2⟩ := inv_xy r ei ex ey
  have : x % 2 = 0 := by omega
  unfold enc
  rw [← h1, ← h2, this, Nat.mul_zero, Nat.add_zero]

theorem eSame_c {X1 Y1 Z1 T1 : Nat} {p1 : Pr} {X2 Y2 Z2 T2 : Nat} {p2 : Pr} (h1 : RW X1 Y1 Z1 T1 p1) (h2 : RW X2 Y2 Z2 T2 p2) :
  ∀ w, GE kn w → Calls Tryd.prog 38 #[.agg (p4 X1 Y1 Z1 T1), .agg (p4 X2 Y2 Z2 T2)] w fun e w' => Ret (.bool (decide (p1 = p2))) w w' e := by
 obtain ⟨x1, y2, z3, t4, r5, c6⟩ := eWhole_c (kn := kn) h1
 obtain ⟨x7, y8, z9, t10, r11, c12⟩ := eWhole_c (kn := kn) h2
 have c_N13 := fMul_c x1 z9 (lt_pp r5.x) (lt_pp r11.z)
 obtain ⟨N13, hN13⟩ := exn (x1 * z9 % PP)
 rw [← hN13] at c_N13
 have lN13 := bpp hN13
 have bN13 := lt_pp lN13
 have HN13 := Lib.hid hN13
 clear hN13
 have c_N14 := fMul_c x7 z3 (lt_pp r11.x) (lt_pp r5.z)
 obtain ⟨N14, hN14⟩ := exn (x7 * z3 % PP)
 rw [← hN14] at c_N14
 have lN14 := bpp hN14
 have bN14 := lt_pp lN14
 have HN14 := Lib.hid hN14
 clear hN14
 have cs15 := fSame_c N13 N14 bN13 bN14
 rw [Nat.mod_eq_of_lt lN13, Nat.mod_eq_of_lt lN14] at cs15
 have c_N16 := fMul_c y2 z9 (lt_pp r5.y) (lt_pp r11.z)
 obtain ⟨N16, hN16⟩ := exn (y2 * z9 % PP)
 rw [← hN16] at c_N16
 have lN16 := bpp hN16
 have bN16 := lt_pp lN16
 have HN16 := Lib.hid hN16
 clear hN16
 have c_N17 := fMul_c y8 z3 (lt_pp r11.y) (lt_pp r5.z)
 obtain ⟨N17, hN17⟩ := exn (y8 * z3 % PP)
 rw [← hN17] at c_N17
 have lN17 := bpp hN17
 have bN17 := lt_pp lN17
 have HN17 := Lib.hid hN17
 clear hN17
 have cs18 := fSame_c N16 N17 bN16 bN17
 rw [Nat.mod_eq_of_lt lN16, Nat.mod_eq_of_lt lN17] at cs18
 intro w hG
 have off0 : Off [] w w := Off.refl _ _
 go_enter Tryd.func38, Tryd.ntmps38
 go_upto_region 0 with fail
 refine wp_region_lit ?_
 refine Ln ?_ (z := p4 X1 Y1 Z1 T1) (t := 60)
 intro p2_1 W1 n_t2 hO h_
 have fb_t2 := fbn off0 n_t2
 replace off0 := off0.o hO
 have k_t2 := h_
 clear hO h_ n_t2
 refine Ln ?_ (z := p4 X2 Y2 Z2 T2) (t := 60)
 intro p3_2 W2 n_t3 hO h_
 have nq_t2_t3 := bn k_t2 n_t3
 have fb_t3 := fbn off0 n_t3
 replace k_t2 := k_t2.o hO
 replace off0 := off0.o hO
 have k_t3 := h_
 clear hO h_ n_t3
 refine Lw ?_ (v := .bool false)
 refine wpL_nil ?_
 go_upto_region 1 with fail
 refine Rx 4 ?_
 refine Xl ?_ k_t2
 refine Xf ?_ (fun W hW => c6 W (GE_ext (GE_ext hG off0.ext) hW))
 refine Xl ?_ k_t3
 refine Xf ?_ (fun W hW => c12 W (GE_ext (GE_ext hG off0.ext) hW))
 refine wpX_nil fun W3 hE => ?_
 have hO := off_ext hE
 replace k_t2 := k_t2.o hO
 replace k_t3 := k_t3.o hO
 replace off0 := off0.o hO
 clear hO hE
 refine Lp ?_ k_t2 (cells := p4 x1 y2 z3 t4)
 intro W4 hO h_
 replace k_t2 : Blk W4 p2_1 (p4 x1 y2 z3 t4) 60 := h_
 clear h_
 replace k_t3 := k_t3.p hO nq_t2_t3.symm
 replace off0 := off0.p hO fb_t2
 clear hO
 refine Lp ?_ k_t3 (cells := p4 x7 y8 z9 t10)
 intro W5 hO h_
 replace k_t3 : Blk W5 p3_2 (p4 x7 y8 z9 t10) 60 := h_
 clear h_
 replace k_t2 := k_t2.p hO nq_t2_t3
 replace off0 := off0.p hO fb_t3
 clear hO
 refine LN ?_
 by_cases hx : N13 = N14
 ·
  have _f := hx
  by_cases hy : N16 = N17
  ·
   have _f := hy
   go_upto_region 2 with fail
   refine Rx 25 ?_
   refine Xv ?_
   refine Xls ?_ (sub := c4 x1) (j := 0) k_t2 p4c0
   refine Xv ?_
   refine Xls ?_ (sub := c4 z9) (j := 8) k_t3 p4c2
   refine Xf ?_ (fun W hW => c_N13 W (GE_ext (GE_ext hG off0.ext) hW).1)
   refine Xv ?_
   refine Xls ?_ (sub := c4 x7) (j := 0) k_t3 p4c0
   refine Xv ?_
   refine Xls ?_ (sub := c4 z3) (j := 8) k_t2 p4c2
   refine Xf ?_ (fun W hW => c_N14 W (GE_ext (GE_ext hG off0.ext) hW).1)
   rw [decide_eq_true hx] at cs15
   refine Xf ?_ (fun W hW => cs15 W (GE_ext (GE_ext hG off0.ext) hW).1)
   refine Xv ?_
   refine Xv ?_
   refine Xls ?_ (sub := c4 y2) (j := 4) k_t2 p4c1
   refine Xv ?_
   refine Xls ?_ (sub := c4 z9) (j := 8) k_t3 p4c2
   refine Xf ?_ (fun W hW => c_N16 W (GE_ext (GE_ext hG off0.ext) hW).1)
   refine Xv ?_
   refine Xls ?_ (sub := c4 y8) (j := 4) k_t3 p4c1
   refine Xv ?_
   refine Xls ?_ (sub := c4 z3) (j := 8) k_t2 p4c2
   refine Xf ?_ (fun W hW => c_N17 W (GE_ext (GE_ext hG off0.ext) hW).1)
   rw [decide_eq_true hy] at cs18
   refine Xf ?_ (fun W hW => cs18 W (GE_ext (GE_ext hG off0.ext) hW).1)
   refine Xv ?_
   refine Xv ?_
   refine wpX_nil fun W6 hE => ?_
   have hO := off_ext hE
   replace k_t2 := k_t2.o hO
   replace k_t3 := k_t3.o hO
   replace off0 := off0.o hO
   clear hO hE
   refine LN ?_
   go_wp2
   rw [same_t r5.rr r11.rr HN13.out HN14.out HN16.out HN17.out hx hy]
   exact bodyPost_ret (v := .bool true) (by simp only [results, Tryd.results38]; go_simp) rfl ⟨rfl, off0.ext⟩
  ·
   have _f := hy
   go_upto_region 2 with fail
   refine Rx 25 ?_
   refine Xv ?_
   refine Xls ?_ (sub := c4 x1) (j := 0) k_t2 p4c0
   refine Xv ?_
   refine Xls ?_ (sub := c4 z9) (j := 8) k_t3 p4c2
   refine Xf ?_ (fun W hW => c_N13 W (GE_ext (GE_ext hG off0.ext) hW).1)
   refine Xv ?_
   refine Xls ?_ (sub := c4 x7) (j := 0) k_t3 p4c0
   refine Xv ?_
   refine Xls ?_ (sub := c4 z3) (j := 8) k_t2 p4c2
   refine Xf ?_ (fun W hW => c_N14 W (GE_ext (GE_ext hG off0.ext) hW).1)
   rw [decide_eq_true hx] at cs15
   refine Xf ?_ (fun W hW => cs15 W (GE_ext (GE_ext hG off0.ext) hW).1)
   refine Xv ?_
   refine Xv ?_
   refine Xls ?_ (sub := c4 y2) (j := 4) k_t2 p4c1
   refine Xv ?_
   refine Xls ?_ (sub := c4 z9) (j := 8) k_t3 p4c2
   refine Xf ?_ (fun W hW => c_N16 W (GE_ext (GE_ext hG off0.ext) hW).1)
   refine Xv ?_
   refine Xls ?_ (sub := c4 y8) (j := 4) k_t3 p4c1
   refine Xv ?_
   refine Xls ?_ (sub := c4 z3) (j := 8) k_t2 p4c2
   refine Xf ?_ (fun W hW => c_N17 W (GE_ext (GE_ext hG off0.ext) hW).1)
   rw [decide_eq_false hy] at cs18
   refine Xf ?_ (fun W hW => cs18 W (GE_ext (GE_ext hG off0.ext) hW).1)
   refine Xv ?_
   refine Xv ?_
   refine wpX_nil fun W6 hE => ?_
   have hO := off_ext hE
   replace k_t2 := k_t2.o hO
   replace k_t3 := k_t3.o hO
   replace off0 := off0.o hO
   clear hO hE
   refine LN ?_
   go_wp2
   rw [same_f2 r5.rr r11.rr HN13.out HN14.out HN16.out HN17.out hy]
   exact bodyPost_ret (v := .bool false) (by simp only [results, Tryd.results38]; go_simp) rfl ⟨rfl, off0.ext⟩
 ·
  have _f := hx
  go_upto_region 2 with fail
  refine Rx 25 ?_
  refine Xv ?_
  refine Xls ?_ (sub := c4 x1) (j := 0) k_t2 p4c0
  refine Xv ?_
  refine Xls ?_ (sub := c4 z9) (j := 8) k_t3 p4c2
  refine Xf ?_ (fun W hW => c_N13 W (GE_ext (GE_ext hG off0.ext) hW).1)
  refine Xv ?_
  refine Xls ?_ (sub := c4 x7) (j := 0) k_t3 p4c0
  refine Xv ?_
  refine Xls ?_ (sub := c4 z3) (j := 8) k_t2 p4c2
  refine Xf ?_ (fun W hW => c_N14 W (GE_ext (GE_ext hG off0.ext) hW).1)
  rw [decide_eq_false hx] at cs15
  refine Xf ?_ (fun W hW => cs15 W (GE_ext (GE_ext hG off0.ext) hW).1)
  refine Xv ?_
  refine Xs ?_
  refine Xs ?_
  refine Xs ?_
  refine Xs ?_
  refine Xs ?_
  refine Xs ?_
  refine Xs ?_
  refine Xs ?_
  refine Xs ?_
  refine Xs ?_
  refine Xs ?_
  refine Xv ?_
  refine Xv ?_
  refine wpX_nil fun W6 hE => ?_
  have hO := off_ext hE
  replace off0 := off0.o hO
  clear hO hE
  refine LN ?_
  go_wp2
  rw [same_f1 r5.rr r11.rr HN13.out HN14.out HN16.out HN17.out hx]
  exact bodyPost_ret (v := .bool false) (by simp only [results, Tryd.results38]; go_simp) rfl ⟨rfl, off0.ext⟩
theorem eEnc_c {X1 Y1 Z1 T1 : Nat} {p1 : Pr} (h1 : RW X1 Y1 Z1 T1 p1) :
  ∀ w, GE kn w → Calls Tryd.prog 41 #[.agg (p4 X1 Y1 Z1 T1)] w fun e w' => Ret (.agg (arrK .u8 32 (byt (enc p1)))) w w' e := by
 obtain ⟨x1, y2, z3, t4, r5, c6⟩ := eWhole_c (kn := kn) h1
 have c_N7 := fInv_c z3 (lt_pp r5.z)
 obtain ⟨N7, hN7⟩ := exn (pw z3 (PP - 2))
 rw [← hN7] at c_N7
 have lN7 := bpp hN7
 have bN7 := lt_pp lN7
 have HN7 := Lib.hid hN7
 clear hN7
 have c_N8 := fMul_c y2 N7 (lt_pp r5.y) bN7
 obtain ⟨N8, hN8⟩ := exn (y2 * N7 % PP)
 rw [← hN8] at c_N8
 have lN8 := bpp hN8
 have bN8 := lt_pp lN8
 have HN8 := Lib.hid hN8
 clear hN8
 have cb9 := fBytes_c N8 bN8
 rw [Nat.mod_eq_of_lt lN8] at cb9
 have c_N10 := fMul_c x1 N7 (lt_pp r5.x) bN7
 obtain ⟨N10, hN10⟩ := exn (x1 * N7 % PP)
 rw [← hN10] at c_N10
 have lN10 := bpp hN10
 have bN10 := lt_pp lN10
 have HN10 := Lib.hid hN10
 clear hN10
 have cd11 := fOdd_c N10 bN10
 rw [Nat.mod_eq_of_lt lN10] at cd11
 intro w hG
 have off0 : Off [] w w := Off.refl _ _
 go_enter Tryd.func41, Tryd.ntmps41
 go_upto_region 0 with fail
 refine wp_region_lit ?_
 refine Ln ?_ (z := p4 X1 Y1 Z1 T1) (t := 60)
 intro p1_1 W1 n_t1 hO h_
 have fb_t1 := fbn off0 n_t1
 replace off0 := off0.o hO
 have k_t1 := h_
 clear hO h_ n_t1
 refine Ln ?_ (z := arrK .u8 32 (byt 0)) (t := 22)
 intro p2_2 W2 n_t2 hO h_
 have nq_t1_t2 := bn k_t1 n_t2
 have fb_t2 := fbn off0 n_t2
 replace k_t1 := k_t1.o hO
 replace off0 := off0.o hO
 have k_t2 := h_
 clear hO h_ n_t2
 refine wpL_nil ?_
 go_upto_region 1 with fail
 refine wp_region_lit ?_
 refine L0 ?_ k_t1
 refine Lr ?_ (c6 W2 (GE_ext hG off0.ext))
 intro W3 hO
 replace k_t1 := k_t1.o hO
 replace k_t2 := k_t2.o hO
 replace off0 := off0.o hO
 clear hO
 refine Lp ?_ k_t1 (cells := p4 x1 y2 z3 t4)
 intro W4 hO h_
 replace k_t1 : Blk W4 p1_1 (p4 x1 y2 z3 t4) 60 := h_
 clear h_
 replace k_t2 := k_t2.p hO nq_t1_t2.symm
 replace off0 := off0.p hO fb_t1
 clear hO
 refine wpL_nil ?_
 go_upto_region 2 with fail
 refine wp_region_lit ?_
 refine Lv ?_
 refine wpL_gets (vs := (c4 z3).toList) (by rfl) rfl rfl k_t1 (subL p4c2) (by kernel_rfl) (by kernel_rfl) ?_
 (try simp only [Act.put, mA, mB, mC])
 refine Lr ?_ (c_N7 W4 (GE_ext hG off0.ext).1)
 intro W5 hO
 replace k_t1 := k_t1.o hO
 replace k_t2 := k_t2.o hO
 replace off0 := off0.o hO
 clear hO
 refine LnP ?_ (z := c4 0) (t := 58) (cells := c4 N7)
 intro p3_6 W7 n_t3 hO h_
 have nq_t2_t3 := bn k_t2 n_t3
 replace k_t1 := k_t1.o hO
 replace k_t2 := k_t2.o hO
 replace off0 := off0.o hO
 have k_t3 := h_
 clear hO h_ n_t3
 refine wpL_nil ?_
 go_upto_region 3 with fail
 refine wp_region_lit ?_
 refine Lv ?_
 refine wpL_gets (vs := (c4 y2).toList) (by rfl) rfl rfl k_t1 (subL p4c1) (by kernel_rfl) (by kernel_rfl) ?_
 (try simp only [Act.put, mA, mB, mC])
 refine L0 ?_ k_t3
 refine Lr ?_ (c_N8 W7 (GE_ext hG off0.ext).1)
 intro W8 hO
 replace k_t1 := k_t1.o hO
 replace k_t2 := k_t2.o hO
 replace k_t3 := k_t3.o hO
 replace off0 := off0.o hO
 clear hO
 refine Lr ?_ (cb9 W8 (GE_ext hG off0.ext).1)
 intro W9 hO
 replace k_t1 := k_t1.o hO
 replace k_t2 := k_t2.o hO
 replace k_t3 := k_t3.o hO
 replace off0 := off0.o hO
 clear hO
 refine LnA ?_ (z := arrK .u8 32 (byt 0)) (t := 22) (k := .u8) (n := 32) (f := byt N8)
 intro p4_10 W11 n_t4 hO h_
 have nq_t1_t4 := bn k_t1 n_t4
 have nq_t2_t4 := bn k_t2 n_t4
 have nq_t3_t4 := bn k_t3 n_t4
 have fb_t4 := fbn off0 n_t4
 replace k_t1 := k_t1.o hO
 replace k_t2 := k_t2.o hO
 replace k_t3 := k_t3.o hO
 replace off0 := off0.o hO
 have k_t4 := h_
 clear hO h_ n_t4
 refine wpL_nil ?_
 by_cases ho : N10 % 2 = 1
 ·
  have _f := ho
  go_upto_region 4 with fail
  refine wp_region_lit ?_
  refine Lv ?_
  refine wpL_gets (vs := (c4 x1).toList) (by rfl) rfl rfl k_t1 (subL p4c0) (by kernel_rfl) (by kernel_rfl) ?_
  (try simp only [Act.put, mA, mB, mC])
  refine L0 ?_ k_t3
  refine Lr ?_ (c_N10 W11 (GE_ext hG off0.ext).1)
  intro W12 hO
  replace k_t1 := k_t1.o hO
  replace k_t2 := k_t2.o hO
  replace k_t3 := k_t3.o hO
  replace k_t4 := k_t4.o hO
  replace off0 := off0.o hO
  clear hO
  rw [decide_eq_true ho] at cd11
  refine Lr ?_ (cd11 W12 (GE_ext hG off0.ext).1)
  intro W13 hO
  replace k_t1 := k_t1.o hO
  replace k_t2 := k_t2.o hO
  replace k_t3 := k_t3.o hO
  replace k_t4 := k_t4.o hO
  replace off0 := off0.o hO
  clear hO
  refine wpL_nil ?_
  go_upto_region 5 with fail
  refine wp_region_lit ?_
  refine Lw ?_ (v := .pointer (some ⟨p4_10, 0 + 31, none⟩)) (hv := run_ixarr (m := 32) (by decide) (by decide) Tryd.underlying22 (by kernel_rfl) rfl rfl rfl)
  refine Lg ?_ k_t4 (v := .int .u8 ((byt N8) 31)) (hj := by rw [Nat.zero_add]; exact arrK_get _ _ _ _ (by decide))
  refine Lw ?_ (v := .int .u8 (bits .or .u8 (byt N8 31) 128)) (hv := by exact run_orU rfl rfl rfl rfl)
  refine Lw ?_ (v := .pointer (some ⟨p4_10, 0 + 31, none⟩)) (hv := run_ixarr (m := 32) (by decide) (by decide) Tryd.underlying22 (by kernel_rfl) rfl rfl rfl)
  refine wpL_put1 (v := .int .u8 (bits .or .u8 (byt N8 31) 128)) ⟨rfl, rfl⟩ (by rfl) rfl rfl rfl k_t4 (by rw [arrK_size, Nat.zero_add]; decide) (by kernel_rfl) ?_
  (try simp only [Act.put, mA, mB, mC])
  intro W14 hO h_
  rw [Nat.zero_add, arrK_set] at h_
  replace k_t4 : Blk W14 p4_10 (arrK .u8 32 (upd (byt N8) 31 (bits .or .u8 (byt N8 31) 128))) 22 := h_
  clear h_
  replace k_t1 := k_t1.p hO nq_t1_t4
  replace k_t2 := k_t2.p hO nq_t2_t4
  replace k_t3 := k_t3.p hO nq_t3_t4
  replace off0 := off0.p hO fb_t4
  clear hO
  rw [enc_1 r5.rr HN7.out HN10.out HN8.out ho] at k_t4
  refine wpL_nil ?_
  go_upto_region 6 with fail
  refine wp_region_lit ?_
  refine L0A ?_ k_t4
  refine LpA ?_ k_t2 (k := .u8) (n := 32) (f := byt (enc p1))
  intro W15 hO h_
  replace k_t2 : Blk W15 p2_2 (arrK .u8 32 (byt (enc p1))) 22 := h_
  clear h_
  replace k_t1 := k_t1.p hO nq_t1_t2
  replace k_t3 := k_t3.p hO nq_t2_t3.symm
  replace k_t4 := k_t4.p hO nq_t2_t4.symm
  replace off0 := off0.p hO fb_t2
  clear hO
  refine wpL_nil ?_
  go_wp2
  exact bodyPost_ret (res_row rfl rfl k_t2 (by kernel_rfl) (by rw [arrK_size]; kernel_rfl)) rfl ⟨rfl, off0.ext⟩
 ·
  have _f := ho
  go_upto_region 4 with fail
  refine wp_region_lit ?_
  refine Lv ?_
  refine wpL_gets (vs := (c4 x1).toList) (by rfl) rfl rfl k_t1 (subL p4c0) (by kernel_rfl) (by kernel_rfl) ?_
  (try simp only [Act.put, mA, mB, mC])
  refine L0 ?_ k_t3
  refine Lr ?_ (c_N10 W11 (GE_ext hG off0.ext).1)
  intro W12 hO
  replace k_t2 := k_t2.o hO
  replace k_t4 := k_t4.o hO
  replace off0 := off0.o hO
  clear hO
  rw [decide_eq_false ho] at cd11
  refine Lr ?_ (cd11 W12 (GE_ext hG off0.ext).1)
  intro W13 hO
  replace k_t2 := k_t2.o hO
  replace k_t4 := k_t4.o hO
  replace off0 := off0.o hO
  clear hO
  refine wpL_nil ?_
  rw [enc_0 r5.rr HN7.out HN10.out HN8.out ho] at k_t4
  go_upto_region 6 with fail
  refine wp_region_lit ?_
  refine L0A ?_ k_t4
  refine LpA ?_ k_t2 (k := .u8) (n := 32) (f := byt (enc p1))
  intro W14 hO h_
  replace k_t2 : Blk W14 p2_2 (arrK .u8 32 (byt (enc p1))) 22 := h_
  clear h_
  replace off0 := off0.p hO fb_t2
  clear hO
  refine wpL_nil ?_
  go_wp2
  exact bodyPost_ret (res_row rfl rfl k_t2 (by kernel_rfl) (by rw [arrK_size]; kernel_rfl)) rfl ⟨rfl, off0.ext⟩
end Go.Proofs.YtefpoollmbmkfaaDoor
