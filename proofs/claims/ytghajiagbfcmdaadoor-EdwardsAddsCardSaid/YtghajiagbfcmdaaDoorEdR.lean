/- The document's points: D, Base, Zero, Neg, Add, Eight, Same. No conditions. -/
import Derived.Test.YtghajiagbfcmdaaDoorEdD
namespace Go.Proofs.YtghajiagbfcmdaaDoor
set_option linter.unusedSimpArgs false
set_option linter.unusedVariables false
open Go.RowKit
attribute [local irreducible] wpList
theorem pm8' {a : Pr} (h : OnC a) : pm a 8 = padd (padd (padd a a) (padd a a)) (padd (padd a a) (padd a a)) := pm8 h

set_option maxRecDepth 100000 in
set_option maxHeartbeats 1500000 in
theorem rD_c (w : World) :
    Calls Tryd.prog 44 #[] w fun e w' => Ret (A16 DD) w w' e := by
  have off0 : Off [] w w := Off.refl _ _
  have sz := off0.size
  go_enter Tryd.func44, Tryd.ntmps44
  go_upto_region 0 with fail
  refine wp_region_lit ?_
  refine wpL_new (z := arrK .i64 16 (l16 0)) (t := 39) (by rfl) (by first | kernel_rfl | (go_simp; done) | (go_simp; rfl)) ?_
  (try simp only [Act.put, mA, mB, mC])
  intro p0_1 W1 n_t0 hO h_
  have fb_t0 : Fb p0_1 w.heap.size [] := fb_new (Nat.le_trans sz n_t0)
  replace off0 := off0.step hO i0
  replace sz := off0.size
  have k_t0 := h_
  clear hO h_ n_t0
  refine wpL_nil ?_
  go_upto_region 1 with fail
  refine wp_region_lit ?_
  refine wpL_val (v := .agg (arrK .i64 16 (l16 DD))) (by rfl) (by kernel_rfl) ?_
  (try simp only [Act.put, mA, mB, mC])
  refine wpL_putrow (cells := arrK .i64 16 (l16 DD)) (by rfl) rfl rfl rfl k_t0 (by rw [arrK_size]; kernel_rfl) (by first | rw [arrK_size, arrK_size] | rw [arrK_size] | kernel_rfl) (by exact arrK_one _ _ _) ?_
  (try simp only [Act.put, mA, mB, mC])
  intro W2 hO h_
  replace k_t0 : Blk W2 p0_1 (arrK .i64 16 (l16 DD)) 39 := h_
  clear h_
  replace off0 := off0.step hO (i1 fb_t0)
  replace sz := off0.size
  clear hO
  refine wpL_nil ?_
  go_wp2
  exact bodyPost_ret (res_row rfl rfl k_t0 (by kernel_rfl) (by rw [arrK_size]; kernel_rfl)) rfl ⟨rfl, off0.ext⟩
set_option maxRecDepth 100000 in
set_option maxHeartbeats 1500000 in
theorem rBase_c (w : World) :
    Calls Tryd.prog 48 #[] w fun e w' => Ret (.agg (p3 BX BY 1)) w w' e := by
  have off0 : Off [] w w := Off.refl _ _
  have sz := off0.size
  go_enter Tryd.func48, Tryd.ntmps48
  go_upto_region 0 with fail
  refine wp_region_lit ?_
  refine wpL_new (z := p3 0 0 0) (t := 41) (by rfl) (by first | kernel_rfl | (go_simp; done) | (go_simp; rfl)) ?_
  (try simp only [Act.put, mA, mB, mC])
  intro p0_1 W1 n_t0 hO h_
  have fb_t0 : Fb p0_1 w.heap.size [] := fb_new (Nat.le_trans sz n_t0)
  replace off0 := off0.step hO i0
  replace sz := off0.size
  have k_t0 := h_
  clear hO h_ n_t0
  refine wpL_nil ?_
  go_upto_region 1 with fail
  refine wp_region_lit ?_
  refine wpL_val (v := .agg (arrK .i64 16 (l16 BX))) (by rfl) (by kernel_rfl) ?_
  (try simp only [Act.put, mA, mB, mC])
  refine wpL_val (v := .agg (arrK .i64 16 (l16 BY))) (by rfl) (by kernel_rfl) ?_
  (try simp only [Act.put, mA, mB, mC])
  refine wpL_val (v := .agg (arrK .i64 16 (l16 1))) (by rfl) (by kernel_rfl) ?_
  (try simp only [Act.put, mA, mB, mC])
  refine wpL_val (v := .agg (p3 BX BY 1)) (by rfl) (by kernel_rfl) ?_
  (try simp only [Act.put, mA, mB, mC])
  refine wpL_putrow (cells := p3 BX BY 1) (by rfl) rfl rfl rfl k_t0 (by rw [p3_size]; kernel_rfl) (by first | rw [p3_size, p3_size] | rw [p3_size] | kernel_rfl) (by exact p3_one) ?_
  (try simp only [Act.put, mA, mB, mC])
  intro W2 hO h_
  replace k_t0 : Blk W2 p0_1 (p3 BX BY 1) 41 := h_
  clear h_
  replace off0 := off0.step hO (i1 fb_t0)
  replace sz := off0.size
  clear hO
  refine wpL_nil ?_
  go_wp2
  exact bodyPost_ret (res_row rfl rfl k_t0 (by kernel_rfl) (by rw [p3_size]; kernel_rfl)) rfl ⟨rfl, off0.ext⟩
set_option maxRecDepth 100000 in
set_option maxHeartbeats 1500000 in
theorem rZero_c (w : World) :
    Calls Tryd.prog 49 #[] w fun e w' => Ret (.agg (p3 0 1 1)) w w' e := by
  have off0 : Off [] w w := Off.refl _ _
  have sz := off0.size
  go_enter Tryd.func49, Tryd.ntmps49
  go_upto_region 0 with fail
  refine wp_region_lit ?_
  refine wpL_new (z := p3 0 0 0) (t := 41) (by rfl) (by first | kernel_rfl | (go_simp; done) | (go_simp; rfl)) ?_
  (try simp only [Act.put, mA, mB, mC])
  intro p0_1 W1 n_t0 hO h_
  have fb_t0 : Fb p0_1 w.heap.size [] := fb_new (Nat.le_trans sz n_t0)
  replace off0 := off0.step hO i0
  replace sz := off0.size
  have k_t0 := h_
  clear hO h_ n_t0
  refine wpL_nil ?_
  go_upto_region 1 with fail
  refine wp_region_lit ?_
  refine wpL_val (v := .agg (arrK .i64 16 (l16 1))) (by rfl) (by kernel_rfl) ?_
  (try simp only [Act.put, mA, mB, mC])
  refine wpL_val (v := .agg (arrK .i64 16 (l16 1))) (by rfl) (by kernel_rfl) ?_
  (try simp only [Act.put, mA, mB, mC])
  refine wpL_val (v := .agg (p3 0 1 1)) (by rfl) (by kernel_rfl) ?_
  (try simp only [Act.put, mA, mB, mC])
  refine wpL_putrow (cells := p3 0 1 1) (by rfl) rfl rfl rfl k_t0 (by rw [p3_size]; kernel_rfl) (by first | rw [p3_size, p3_size] | rw [p3_size] | kernel_rfl) (by exact p3_one) ?_
  (try simp only [Act.put, mA, mB, mC])
  intro W2 hO h_
  replace k_t0 : Blk W2 p0_1 (p3 0 1 1) 41 := h_
  clear h_
  replace off0 := off0.step hO (i1 fb_t0)
  replace sz := off0.size
  clear hO
  refine wpL_nil ?_
  go_wp2
  exact bodyPost_ret (res_row rfl rfl k_t0 (by kernel_rfl) (by rw [p3_size]; kernel_rfl)) rfl ⟨rfl, off0.ext⟩
theorem rd_base : RD BX BY 1 BP := rd_one (by decide) (by decide) BP_on
theorem rd_zero : RD 0 1 1 p0 := rn_p0.rr
set_option maxRecDepth 100000 in
set_option maxHeartbeats 1500000 in
theorem rPNeg_c {X1 Y1 Z1 : Nat} {p1 : Pr} (h1 : RD X1 Y1 Z1 p1) :
    ∃ X Y Z, RD X Y Z (pneg p1) ∧ ∀ w, Calls Tryd.prog 22 #[.agg (p3 X1 Y1 Z1)] w fun e w' => Ret (.agg (p3 X Y Z)) w w' e := by
  have c_N1 := rNeg_c X1 (Nat.le_of_lt h1.x)
  obtain ⟨N1, hN1⟩ : ∃ v_, v_ = (PP - X1) % PP := ⟨_, rfl⟩
  rw [← hN1] at c_N1
  have lN1 : N1 < PP := by rw [hN1]; exact mod_pp _
  have bN1 := lt_pp lN1
  have HN1 := Lib.hid hN1
  clear hN1
  refine ⟨N1, Y1, Z1, rd_neg h1 HN1.out, fun w => ?_⟩
  have off0 : Off [] w w := Off.refl _ _
  have sz := off0.size
  go_enter Tryd.func22, Tryd.ntmps22
  go_upto_region 0 with fail
  refine wp_region_lit ?_
  refine wpL_new (z := p3 X1 Y1 Z1) (t := 41) (by rfl) (by first | kernel_rfl | (go_simp; done) | (go_simp; rfl)) ?_
  (try simp only [Act.put, mA, mB, mC])
  intro p1_1 W1 n_t1 hO h_
  have fb_t1 : Fb p1_1 w.heap.size [] := fb_new (Nat.le_trans sz n_t1)
  replace off0 := off0.step hO i0
  replace sz := off0.size
  have k_t1 := h_
  clear hO h_ n_t1
  refine wpL_new (z := p3 0 0 0) (t := 41) (by rfl) (by first | kernel_rfl | (go_simp; done) | (go_simp; rfl)) ?_
  (try simp only [Act.put, mA, mB, mC])
  intro p2_2 W2 n_t2 hO h_
  have nq_t1_t2 : p1_1 ≠ p2_2 := Nat.ne_of_lt (Nat.lt_of_lt_of_le (blk_lt k_t1) n_t2)
  have fb_t2 : Fb p2_2 w.heap.size [] := fb_new (Nat.le_trans sz n_t2)
  replace k_t1 := blk_off k_t1 hO nm0
  replace off0 := off0.step hO i0
  replace sz := off0.size
  have k_t2 := h_
  clear hO h_ n_t2
  refine wpL_nil ?_
  go_upto_region 1 with fail
  refine wp_region_xn 8 [] (by kernel_rfl) (fun x hx => by cases hx) (by kernel_rfl) ?_
  simp only [List.take_succ_cons, List.take_zero, List.take_nil]
  (try simp only [Act.put, mA, mB, mC])
  (refine wpX_val (v := ?_) (by rfl) (fun W hW => ?_) ?_; rotate_left 1; (focus (go_simp; first | done | with_reducible rfl)); (try simp only [Act.put, mA, mB, mC]))
  refine wpX_loads (sub := arrK .i64 16 (l16 X1)) (j := 0) (by rfl) rfl rfl (blk_rd k_t1) p3c0 (by kernel_rfl) (by kernel_rfl) ?_
  (try simp only [Act.put, mA, mB, mC])
  ((with_reducible refine wpX_fn (fun W hW => c_N1 W) ?_ rfl ?_ ?_ ?_); (focus rfl); (focus kernel_rfl); (focus rfl); (try simp only [Act.put, mA, mB, mC]))
  (refine wpX_val (v := ?_) (by rfl) (fun W hW => ?_) ?_; rotate_left 1; (focus (go_simp; first | done | with_reducible rfl)); (try simp only [Act.put, mA, mB, mC]))
  refine wpX_loads (sub := arrK .i64 16 (l16 Y1)) (j := 16) (by rfl) rfl rfl (blk_rd k_t1) p3c1 (by kernel_rfl) (by kernel_rfl) ?_
  (try simp only [Act.put, mA, mB, mC])
  (refine wpX_val (v := ?_) (by rfl) (fun W hW => ?_) ?_; rotate_left 1; (focus (go_simp; first | done | with_reducible rfl)); (try simp only [Act.put, mA, mB, mC]))
  refine wpX_loads (sub := arrK .i64 16 (l16 Z1)) (j := 32) (by rfl) rfl rfl (blk_rd k_t1) p3c2 (by kernel_rfl) (by kernel_rfl) ?_
  (try simp only [Act.put, mA, mB, mC])
  refine wpX_val (v := .agg (p3 N1 Y1 Z1)) (by rfl) (fun _ _ => by kernel_rfl) ?_
  (try simp only [Act.put, mA, mB, mC])
  refine wpX_nil ?_
  intro β W3 hE hN hD
  clear hN hD
  simp only [putAll, Act.put, mA, mB, mC, List.drop_succ_cons, List.drop_zero, List.drop_nil, List.length_cons, List.length_nil, Nat.add_zero]
  have hO := off_ext hE
  replace k_t1 := blk_off k_t1 hO nm0
  replace k_t2 := blk_off k_t2 hO nm0
  replace off0 := off0.step hO i0
  replace sz := off0.size
  clear hO hE β
  refine wpL_putrow (cells := p3 N1 Y1 Z1) (by rfl) rfl rfl rfl k_t2 (by rw [p3_size]; kernel_rfl) (by first | rw [p3_size, p3_size] | rw [p3_size] | kernel_rfl) (by exact p3_one) ?_
  (try simp only [Act.put, mA, mB, mC])
  intro W4 hO h_
  replace k_t2 : Blk W4 p2_2 (p3 N1 Y1 Z1) 41 := h_
  clear h_
  replace k_t1 := blk_off k_t1 hO (nm1 nq_t1_t2)
  replace off0 := off0.step hO (i1 fb_t2)
  replace sz := off0.size
  clear hO
  refine wpL_nil ?_
  first | with_reducible refine NoPanic.normal (Q := Exit.then _ _) ?_ | with_reducible refine NoPanic.normal ?_
  go_wp2
  exact bodyPost_ret (res_row rfl rfl k_t2 (by kernel_rfl) (by rw [p3_size]; kernel_rfl)) rfl ⟨rfl, off0.ext⟩
set_option maxRecDepth 100000 in
set_option maxHeartbeats 1500000 in
theorem rPAdd_c {X1 Y1 Z1 : Nat} {p1 : Pr} {X2 Y2 Z2 : Nat} {p2 : Pr} (h1 : RD X1 Y1 Z1 p1) (h2 : RD X2 Y2 Z2 p2) :
    ∃ X Y Z, RD X Y Z (padd p1 p2) ∧ ∀ w, Calls Tryd.prog 21 #[.agg (p3 X1 Y1 Z1), .agg (p3 X2 Y2 Z2)] w fun e w' => Ret (.agg (p3 X Y Z)) w w' e := by
  have c_N1 := rMul_c Z1 Z2 (lt_pp h1.z) (lt_pp h2.z)
  obtain ⟨N1, hN1⟩ : ∃ v_, v_ = Z1 * Z2 % PP := ⟨_, rfl⟩
  rw [← hN1] at c_N1
  have lN1 : N1 < PP := by rw [hN1]; exact mod_pp _
  have bN1 := lt_pp lN1
  have HN1 := Lib.hid hN1
  clear hN1
  have c_N2 := rMul_c N1 N1 bN1 bN1
  obtain ⟨N2, hN2⟩ : ∃ v_, v_ = N1 * N1 % PP := ⟨_, rfl⟩
  rw [← hN2] at c_N2
  have lN2 : N2 < PP := by rw [hN2]; exact mod_pp _
  have bN2 := lt_pp lN2
  have HN2 := Lib.hid hN2
  clear hN2
  have c_N3 := rMul_c X1 X2 (lt_pp h1.x) (lt_pp h2.x)
  obtain ⟨N3, hN3⟩ : ∃ v_, v_ = X1 * X2 % PP := ⟨_, rfl⟩
  rw [← hN3] at c_N3
  have lN3 : N3 < PP := by rw [hN3]; exact mod_pp _
  have bN3 := lt_pp lN3
  have HN3 := Lib.hid hN3
  clear hN3
  have c_N4 := rMul_c Y1 Y2 (lt_pp h1.y) (lt_pp h2.y)
  obtain ⟨N4, hN4⟩ : ∃ v_, v_ = Y1 * Y2 % PP := ⟨_, rfl⟩
  rw [← hN4] at c_N4
  have lN4 : N4 < PP := by rw [hN4]; exact mod_pp _
  have bN4 := lt_pp lN4
  have HN4 := Lib.hid hN4
  clear hN4
  have c_N5 := rMul_c N3 N4 bN3 bN4
  obtain ⟨N5, hN5⟩ : ∃ v_, v_ = N3 * N4 % PP := ⟨_, rfl⟩
  rw [← hN5] at c_N5
  have lN5 : N5 < PP := by rw [hN5]; exact mod_pp _
  have bN5 := lt_pp lN5
  have HN5 := Lib.hid hN5
  clear hN5
  have c_N6 := rMul_c DD N5 DD_lt bN5
  obtain ⟨N6, hN6⟩ : ∃ v_, v_ = DD * N5 % PP := ⟨_, rfl⟩
  rw [← hN6] at c_N6
  have lN6 : N6 < PP := by rw [hN6]; exact mod_pp _
  have bN6 := lt_pp lN6
  have HN6 := Lib.hid hN6
  clear hN6
  have c_N7 := rSub_c N2 N6 bN2 (Nat.le_of_lt lN6)
  obtain ⟨N7, hN7⟩ : ∃ v_, v_ = (N2 + (PP - N6) % PP) % PP := ⟨_, rfl⟩
  rw [← hN7] at c_N7
  have lN7 : N7 < PP := by rw [hN7]; exact mod_pp _
  have bN7 := lt_pp lN7
  have HN7 := Lib.hid hN7
  clear hN7
  have c_N8 := rAdd_c N2 N6 bN2 bN6
  obtain ⟨N8, hN8⟩ : ∃ v_, v_ = (N2 + N6) % PP := ⟨_, rfl⟩
  rw [← hN8] at c_N8
  have lN8 : N8 < PP := by rw [hN8]; exact mod_pp _
  have bN8 := lt_pp lN8
  have HN8 := Lib.hid hN8
  clear hN8
  have c_N9 := rAdd_c X1 Y1 (lt_pp h1.x) (lt_pp h1.y)
  obtain ⟨N9, hN9⟩ : ∃ v_, v_ = (X1 + Y1) % PP := ⟨_, rfl⟩
  rw [← hN9] at c_N9
  have lN9 : N9 < PP := by rw [hN9]; exact mod_pp _
  have bN9 := lt_pp lN9
  have HN9 := Lib.hid hN9
  clear hN9
  have c_N10 := rAdd_c X2 Y2 (lt_pp h2.x) (lt_pp h2.y)
  obtain ⟨N10, hN10⟩ : ∃ v_, v_ = (X2 + Y2) % PP := ⟨_, rfl⟩
  rw [← hN10] at c_N10
  have lN10 : N10 < PP := by rw [hN10]; exact mod_pp _
  have bN10 := lt_pp lN10
  have HN10 := Lib.hid hN10
  clear hN10
  have c_N11 := rMul_c N9 N10 bN9 bN10
  obtain ⟨N11, hN11⟩ : ∃ v_, v_ = N9 * N10 % PP := ⟨_, rfl⟩
  rw [← hN11] at c_N11
  have lN11 : N11 < PP := by rw [hN11]; exact mod_pp _
  have bN11 := lt_pp lN11
  have HN11 := Lib.hid hN11
  clear hN11
  have c_N12 := rMul_c N1 N7 bN1 bN7
  obtain ⟨N12, hN12⟩ : ∃ v_, v_ = N1 * N7 % PP := ⟨_, rfl⟩
  rw [← hN12] at c_N12
  have lN12 : N12 < PP := by rw [hN12]; exact mod_pp _
  have bN12 := lt_pp lN12
  have HN12 := Lib.hid hN12
  clear hN12
  have c_N13 := rAdd_c N3 N4 bN3 bN4
  obtain ⟨N13, hN13⟩ : ∃ v_, v_ = (N3 + N4) % PP := ⟨_, rfl⟩
  rw [← hN13] at c_N13
  have lN13 : N13 < PP := by rw [hN13]; exact mod_pp _
  have bN13 := lt_pp lN13
  have HN13 := Lib.hid hN13
  clear hN13
  have c_N14 := rSub_c N11 N13 bN11 (Nat.le_of_lt lN13)
  obtain ⟨N14, hN14⟩ : ∃ v_, v_ = (N11 + (PP - N13) % PP) % PP := ⟨_, rfl⟩
  rw [← hN14] at c_N14
  have lN14 : N14 < PP := by rw [hN14]; exact mod_pp _
  have bN14 := lt_pp lN14
  have HN14 := Lib.hid hN14
  clear hN14
  have c_N15 := rMul_c N12 N14 bN12 bN14
  obtain ⟨N15, hN15⟩ : ∃ v_, v_ = N12 * N14 % PP := ⟨_, rfl⟩
  rw [← hN15] at c_N15
  have lN15 : N15 < PP := by rw [hN15]; exact mod_pp _
  have bN15 := lt_pp lN15
  have HN15 := Lib.hid hN15
  clear hN15
  have c_N16 := rMul_c N1 N8 bN1 bN8
  obtain ⟨N16, hN16⟩ : ∃ v_, v_ = N1 * N8 % PP := ⟨_, rfl⟩
  rw [← hN16] at c_N16
  have lN16 : N16 < PP := by rw [hN16]; exact mod_pp _
  have bN16 := lt_pp lN16
  have HN16 := Lib.hid hN16
  clear hN16
  have c_N17 := rAdd_c N3 N4 bN3 bN4
  obtain ⟨N17, hN17⟩ : ∃ v_, v_ = (N3 + N4) % PP := ⟨_, rfl⟩
  rw [← hN17] at c_N17
  have lN17 : N17 < PP := by rw [hN17]; exact mod_pp _
  have bN17 := lt_pp lN17
  have HN17 := Lib.hid hN17
  clear hN17
  have c_N18 := rMul_c N16 N17 bN16 bN17
  obtain ⟨N18, hN18⟩ : ∃ v_, v_ = N16 * N17 % PP := ⟨_, rfl⟩
  rw [← hN18] at c_N18
  have lN18 : N18 < PP := by rw [hN18]; exact mod_pp _
  have bN18 := lt_pp lN18
  have HN18 := Lib.hid hN18
  clear hN18
  have c_N19 := rMul_c N7 N8 bN7 bN8
  obtain ⟨N19, hN19⟩ : ∃ v_, v_ = N7 * N8 % PP := ⟨_, rfl⟩
  rw [← hN19] at c_N19
  have lN19 : N19 < PP := by rw [hN19]; exact mod_pp _
  have bN19 := lt_pp lN19
  have HN19 := Lib.hid hN19
  clear hN19
  refine ⟨N15, N18, N19, rd_add h1 h2 HN1.out HN2.out HN3.out HN4.out HN5.out HN6.out HN7.out HN8.out HN9.out HN10.out HN11.out HN12.out HN13.out HN14.out HN15.out HN16.out (HN18.out.trans (by rw [HN17.out, ← HN13.out])) HN19.out, fun w => ?_⟩
  have off0 : Off [] w w := Off.refl _ _
  have sz := off0.size
  go_enter Tryd.func21, Tryd.ntmps21
  go_upto_region 0 with fail
  refine wp_region_lit ?_
  refine wpL_new (z := p3 X1 Y1 Z1) (t := 41) (by rfl) (by first | kernel_rfl | (go_simp; done) | (go_simp; rfl)) ?_
  (try simp only [Act.put, mA, mB, mC])
  intro p2_1 W1 n_t2 hO h_
  have fb_t2 : Fb p2_1 w.heap.size [] := fb_new (Nat.le_trans sz n_t2)
  replace off0 := off0.step hO i0
  replace sz := off0.size
  have k_t2 := h_
  clear hO h_ n_t2
  refine wpL_new (z := p3 X2 Y2 Z2) (t := 41) (by rfl) (by first | kernel_rfl | (go_simp; done) | (go_simp; rfl)) ?_
  (try simp only [Act.put, mA, mB, mC])
  intro p3_2 W2 n_t3 hO h_
  have nq_t2_t3 : p2_1 ≠ p3_2 := Nat.ne_of_lt (Nat.lt_of_lt_of_le (blk_lt k_t2) n_t3)
  have fb_t3 : Fb p3_2 w.heap.size [] := fb_new (Nat.le_trans sz n_t3)
  replace k_t2 := blk_off k_t2 hO nm0
  replace off0 := off0.step hO i0
  replace sz := off0.size
  have k_t3 := h_
  clear hO h_ n_t3
  refine wpL_new (z := p3 0 0 0) (t := 41) (by rfl) (by first | kernel_rfl | (go_simp; done) | (go_simp; rfl)) ?_
  (try simp only [Act.put, mA, mB, mC])
  intro p4_3 W3 n_t4 hO h_
  have nq_t2_t4 : p2_1 ≠ p4_3 := Nat.ne_of_lt (Nat.lt_of_lt_of_le (blk_lt k_t2) n_t4)
  have nq_t3_t4 : p3_2 ≠ p4_3 := Nat.ne_of_lt (Nat.lt_of_lt_of_le (blk_lt k_t3) n_t4)
  have fb_t4 : Fb p4_3 w.heap.size [] := fb_new (Nat.le_trans sz n_t4)
  replace k_t2 := blk_off k_t2 hO nm0
  replace k_t3 := blk_off k_t3 hO nm0
  replace off0 := off0.step hO i0
  replace sz := off0.size
  have k_t4 := h_
  clear hO h_ n_t4
  refine wpL_nil ?_
  go_upto_region 1 with fail
  refine wp_region_lit ?_
  (refine wpL_val (v := ?_) (by rfl) ?_ ?_; rotate_left 1; (focus (go_simp; first | done | with_reducible rfl)))
  (try simp only [Act.put, mA, mB, mC])
  refine wpL_gets (vs := (arrK .i64 16 (l16 Z1)).toList) (by rfl) rfl rfl k_t2 (subL p3c2) (by kernel_rfl) (by kernel_rfl) ?_
  (try simp only [Act.put, mA, mB, mC])
  (refine wpL_val (v := ?_) (by rfl) ?_ ?_; rotate_left 1; (focus (go_simp; first | done | with_reducible rfl)))
  (try simp only [Act.put, mA, mB, mC])
  refine wpL_gets (vs := (arrK .i64 16 (l16 Z2)).toList) (by rfl) rfl rfl k_t3 (subL p3c2) (by kernel_rfl) (by kernel_rfl) ?_
  (try simp only [Act.put, mA, mB, mC])
  refine wpL_ret (c_N1 W3) (by rfl) rfl (by kernel_rfl) rfl ?_
  (try simp only [Act.put, mA, mB, mC])
  intro W4 hO
  replace k_t2 := blk_off k_t2 hO nm0
  replace k_t3 := blk_off k_t3 hO nm0
  replace k_t4 := blk_off k_t4 hO nm0
  replace off0 := off0.step hO i0
  replace sz := off0.size
  clear hO
  refine wpL_new (z := arrK .i64 16 (l16 0)) (t := 39) (by rfl) (by first | kernel_rfl | (go_simp; done) | (go_simp; rfl)) ?_
  (try simp only [Act.put, mA, mB, mC])
  intro p5_5 W5 n_t5 hO h_
  have nq_t2_t5 : p2_1 ≠ p5_5 := Nat.ne_of_lt (Nat.lt_of_lt_of_le (blk_lt k_t2) n_t5)
  have nq_t3_t5 : p3_2 ≠ p5_5 := Nat.ne_of_lt (Nat.lt_of_lt_of_le (blk_lt k_t3) n_t5)
  have nq_t4_t5 : p4_3 ≠ p5_5 := Nat.ne_of_lt (Nat.lt_of_lt_of_le (blk_lt k_t4) n_t5)
  have fb_t5 : Fb p5_5 w.heap.size [] := fb_new (Nat.le_trans sz n_t5)
  replace k_t2 := blk_off k_t2 hO nm0
  replace k_t3 := blk_off k_t3 hO nm0
  replace k_t4 := blk_off k_t4 hO nm0
  replace off0 := off0.step hO i0
  replace sz := off0.size
  have k_t5 := h_
  clear hO h_ n_t5
  refine wpL_putrow (cells := arrK .i64 16 (l16 N1)) (by rfl) rfl rfl rfl k_t5 (by rw [arrK_size]; kernel_rfl) (by first | rw [arrK_size, arrK_size] | rw [arrK_size] | kernel_rfl) (by exact arrK_one _ _ _) ?_
  (try simp only [Act.put, mA, mB, mC])
  intro W6 hO h_
  replace k_t5 : Blk W6 p5_5 (arrK .i64 16 (l16 N1)) 39 := h_
  clear h_
  replace k_t2 := blk_off k_t2 hO (nm1 nq_t2_t5)
  replace k_t3 := blk_off k_t3 hO (nm1 nq_t3_t5)
  replace k_t4 := blk_off k_t4 hO (nm1 nq_t4_t5)
  replace off0 := off0.step hO (i1 fb_t5)
  replace sz := off0.size
  clear hO
  refine wpL_nil ?_
  go_upto_region 2 with fail
  refine wp_region_lit ?_
  refine wpL_load0 (by rfl) rfl rfl k_t5 (by kernel_rfl) (by rw [arrK_size]; kernel_rfl) ?_
  (try simp only [Act.put, mA, mB, mC])
  refine wpL_load0 (by rfl) rfl rfl k_t5 (by kernel_rfl) (by rw [arrK_size]; kernel_rfl) ?_
  (try simp only [Act.put, mA, mB, mC])
  refine wpL_ret (c_N2 W6) (by rfl) rfl (by kernel_rfl) rfl ?_
  (try simp only [Act.put, mA, mB, mC])
  intro W7 hO
  replace k_t2 := blk_off k_t2 hO nm0
  replace k_t3 := blk_off k_t3 hO nm0
  replace k_t4 := blk_off k_t4 hO nm0
  replace k_t5 := blk_off k_t5 hO nm0
  replace off0 := off0.step hO i0
  replace sz := off0.size
  clear hO
  refine wpL_new (z := arrK .i64 16 (l16 0)) (t := 39) (by rfl) (by first | kernel_rfl | (go_simp; done) | (go_simp; rfl)) ?_
  (try simp only [Act.put, mA, mB, mC])
  intro p6_8 W8 n_t6 hO h_
  have nq_t2_t6 : p2_1 ≠ p6_8 := Nat.ne_of_lt (Nat.lt_of_lt_of_le (blk_lt k_t2) n_t6)
  have nq_t3_t6 : p3_2 ≠ p6_8 := Nat.ne_of_lt (Nat.lt_of_lt_of_le (blk_lt k_t3) n_t6)
  have nq_t4_t6 : p4_3 ≠ p6_8 := Nat.ne_of_lt (Nat.lt_of_lt_of_le (blk_lt k_t4) n_t6)
  have nq_t5_t6 : p5_5 ≠ p6_8 := Nat.ne_of_lt (Nat.lt_of_lt_of_le (blk_lt k_t5) n_t6)
  have fb_t6 : Fb p6_8 w.heap.size [] := fb_new (Nat.le_trans sz n_t6)
  replace k_t2 := blk_off k_t2 hO nm0
  replace k_t3 := blk_off k_t3 hO nm0
  replace k_t4 := blk_off k_t4 hO nm0
  replace k_t5 := blk_off k_t5 hO nm0
  replace off0 := off0.step hO i0
  replace sz := off0.size
  have k_t6 := h_
  clear hO h_ n_t6
  refine wpL_putrow (cells := arrK .i64 16 (l16 N2)) (by rfl) rfl rfl rfl k_t6 (by rw [arrK_size]; kernel_rfl) (by first | rw [arrK_size, arrK_size] | rw [arrK_size] | kernel_rfl) (by exact arrK_one _ _ _) ?_
  (try simp only [Act.put, mA, mB, mC])
  intro W9 hO h_
  replace k_t6 : Blk W9 p6_8 (arrK .i64 16 (l16 N2)) 39 := h_
  clear h_
  replace k_t2 := blk_off k_t2 hO (nm1 nq_t2_t6)
  replace k_t3 := blk_off k_t3 hO (nm1 nq_t3_t6)
  replace k_t4 := blk_off k_t4 hO (nm1 nq_t4_t6)
  replace k_t5 := blk_off k_t5 hO (nm1 nq_t5_t6)
  replace off0 := off0.step hO (i1 fb_t6)
  replace sz := off0.size
  clear hO
  refine wpL_nil ?_
  go_upto_region 3 with fail
  refine wp_region_xn 10 [⟨10, 7, arrK .i64 16 (l16 0), 39⟩, ⟨11, 8, arrK .i64 16 (l16 0), 39⟩] (by kernel_rfl) ?_ (by kernel_rfl) ?_
  · intro x hx
    simp only [List.mem_cons, List.not_mem_nil, or_false] at hx
    rcases hx with rfl | rfl <;> exact ⟨_, rfl, rfl, rfl, fun _ _ => by kernel_rfl⟩
  simp only [List.take_succ_cons, List.take_zero, List.take_nil]
  (try simp only [Act.put, mA, mB, mC])
  (refine wpX_val (v := ?_) (by rfl) (fun W hW => ?_) ?_; rotate_left 1; (focus (go_simp; first | done | with_reducible rfl)); (try simp only [Act.put, mA, mB, mC]))
  refine wpX_loads (sub := arrK .i64 16 (l16 X1)) (j := 0) (by rfl) rfl rfl (blk_rd k_t2) p3c0 (by kernel_rfl) (by kernel_rfl) ?_
  (try simp only [Act.put, mA, mB, mC])
  (refine wpX_val (v := ?_) (by rfl) (fun W hW => ?_) ?_; rotate_left 1; (focus (go_simp; first | done | with_reducible rfl)); (try simp only [Act.put, mA, mB, mC]))
  refine wpX_loads (sub := arrK .i64 16 (l16 X2)) (j := 0) (by rfl) rfl rfl (blk_rd k_t3) p3c0 (by kernel_rfl) (by kernel_rfl) ?_
  (try simp only [Act.put, mA, mB, mC])
  ((with_reducible refine wpX_fn (fun W hW => c_N3 W) ?_ rfl ?_ ?_ ?_); (focus rfl); (focus kernel_rfl); (focus rfl); (try simp only [Act.put, mA, mB, mC]))
  (refine wpX_val (v := ?_) (by rfl) (fun W hW => ?_) ?_; rotate_left 1; (focus (go_simp; first | done | with_reducible rfl)); (try simp only [Act.put, mA, mB, mC]))
  refine wpX_loads (sub := arrK .i64 16 (l16 Y1)) (j := 16) (by rfl) rfl rfl (blk_rd k_t2) p3c1 (by kernel_rfl) (by kernel_rfl) ?_
  (try simp only [Act.put, mA, mB, mC])
  (refine wpX_val (v := ?_) (by rfl) (fun W hW => ?_) ?_; rotate_left 1; (focus (go_simp; first | done | with_reducible rfl)); (try simp only [Act.put, mA, mB, mC]))
  refine wpX_loads (sub := arrK .i64 16 (l16 Y2)) (j := 16) (by rfl) rfl rfl (blk_rd k_t3) p3c1 (by kernel_rfl) (by kernel_rfl) ?_
  (try simp only [Act.put, mA, mB, mC])
  ((with_reducible refine wpX_fn (fun W hW => c_N4 W) ?_ rfl ?_ ?_ ?_); (focus rfl); (focus kernel_rfl); (focus rfl); (try simp only [Act.put, mA, mB, mC]))
  refine wpX_nil ?_
  intro β W10 hE hN hD
  obtain ⟨n_t7, h_t7⟩ := hN _ (List.mem_cons_self ..)
  obtain ⟨n_t8, h_t8⟩ := hN _ (List.mem_cons_of_mem _ (List.mem_cons_self ..))
  have nq_t7_t8 := (hD _ (List.mem_cons_of_mem _ (List.mem_cons_self ..)) _ (List.mem_cons_self ..) (by decide)).symm
  clear hN hD
  simp only [putAll, Act.put, mA, mB, mC, List.drop_succ_cons, List.drop_zero, List.drop_nil, List.length_cons, List.length_nil, Nat.add_zero] at n_t7 h_t7 n_t8 h_t8 nq_t7_t8 ⊢
  have hO := off_ext hE
  generalize β 10 = p7_10 at *
  have nq_t2_t7 : p2_1 ≠ p7_10 := Nat.ne_of_lt (Nat.lt_of_lt_of_le (blk_lt k_t2) n_t7)
  have nq_t3_t7 : p3_2 ≠ p7_10 := Nat.ne_of_lt (Nat.lt_of_lt_of_le (blk_lt k_t3) n_t7)
  have nq_t4_t7 : p4_3 ≠ p7_10 := Nat.ne_of_lt (Nat.lt_of_lt_of_le (blk_lt k_t4) n_t7)
  have nq_t5_t7 : p5_5 ≠ p7_10 := Nat.ne_of_lt (Nat.lt_of_lt_of_le (blk_lt k_t5) n_t7)
  have nq_t6_t7 : p6_8 ≠ p7_10 := Nat.ne_of_lt (Nat.lt_of_lt_of_le (blk_lt k_t6) n_t7)
  have fb_t7 : Fb p7_10 w.heap.size [] := fb_new (Nat.le_trans sz n_t7)
  generalize β 11 = p8_10 at *
  have nq_t2_t8 : p2_1 ≠ p8_10 := Nat.ne_of_lt (Nat.lt_of_lt_of_le (blk_lt k_t2) n_t8)
  have nq_t3_t8 : p3_2 ≠ p8_10 := Nat.ne_of_lt (Nat.lt_of_lt_of_le (blk_lt k_t3) n_t8)
  have nq_t4_t8 : p4_3 ≠ p8_10 := Nat.ne_of_lt (Nat.lt_of_lt_of_le (blk_lt k_t4) n_t8)
  have nq_t5_t8 : p5_5 ≠ p8_10 := Nat.ne_of_lt (Nat.lt_of_lt_of_le (blk_lt k_t5) n_t8)
  have nq_t6_t8 : p6_8 ≠ p8_10 := Nat.ne_of_lt (Nat.lt_of_lt_of_le (blk_lt k_t6) n_t8)
  have fb_t8 : Fb p8_10 w.heap.size [] := fb_new (Nat.le_trans sz n_t8)
  replace k_t2 := blk_off k_t2 hO nm0
  replace k_t3 := blk_off k_t3 hO nm0
  replace k_t4 := blk_off k_t4 hO nm0
  replace k_t5 := blk_off k_t5 hO nm0
  replace k_t6 := blk_off k_t6 hO nm0
  replace off0 := off0.step hO i0
  replace sz := off0.size
  clear hO hE β n_t7 n_t8
  have k_t7 : Blk W10 p7_10 (arrK .i64 16 (l16 0)) 39 := h_t7
  clear h_t7
  have k_t8 : Blk W10 p8_10 (arrK .i64 16 (l16 0)) 39 := h_t8
  clear h_t8
  refine wpL_putrow (cells := arrK .i64 16 (l16 N3)) (by rfl) rfl rfl rfl k_t7 (by rw [arrK_size]; kernel_rfl) (by first | rw [arrK_size, arrK_size] | rw [arrK_size] | kernel_rfl) (by exact arrK_one _ _ _) ?_
  (try simp only [Act.put, mA, mB, mC])
  intro W11 hO h_
  replace k_t7 : Blk W11 p7_10 (arrK .i64 16 (l16 N3)) 39 := h_
  clear h_
  replace k_t2 := blk_off k_t2 hO (nm1 nq_t2_t7)
  replace k_t3 := blk_off k_t3 hO (nm1 nq_t3_t7)
  replace k_t4 := blk_off k_t4 hO (nm1 nq_t4_t7)
  replace k_t5 := blk_off k_t5 hO (nm1 nq_t5_t7)
  replace k_t6 := blk_off k_t6 hO (nm1 nq_t6_t7)
  replace k_t8 := blk_off k_t8 hO (nm1 nq_t7_t8.symm)
  replace off0 := off0.step hO (i1 fb_t7)
  replace sz := off0.size
  clear hO
  refine wpL_putrow (cells := arrK .i64 16 (l16 N4)) (by rfl) rfl rfl rfl k_t8 (by rw [arrK_size]; kernel_rfl) (by first | rw [arrK_size, arrK_size] | rw [arrK_size] | kernel_rfl) (by exact arrK_one _ _ _) ?_
  (try simp only [Act.put, mA, mB, mC])
  intro W12 hO h_
  replace k_t8 : Blk W12 p8_10 (arrK .i64 16 (l16 N4)) 39 := h_
  clear h_
  replace k_t2 := blk_off k_t2 hO (nm1 nq_t2_t8)
  replace k_t3 := blk_off k_t3 hO (nm1 nq_t3_t8)
  replace k_t4 := blk_off k_t4 hO (nm1 nq_t4_t8)
  replace k_t5 := blk_off k_t5 hO (nm1 nq_t5_t8)
  replace k_t6 := blk_off k_t6 hO (nm1 nq_t6_t8)
  replace k_t7 := blk_off k_t7 hO (nm1 nq_t7_t8)
  replace off0 := off0.step hO (i1 fb_t8)
  replace sz := off0.size
  clear hO
  refine wpL_nil ?_
  first | with_reducible refine NoPanic.normal (Q := Exit.then _ _) ?_ | with_reducible refine NoPanic.normal ?_
  go_upto_region 4 with fail
  refine wp_region_xn 5 [⟨5, 9, arrK .i64 16 (l16 0), 39⟩] (by kernel_rfl) ?_ (by kernel_rfl) ?_
  · intro x hx
    simp only [List.mem_cons, List.not_mem_nil, or_false] at hx
    subst hx; exact ⟨_, rfl, rfl, rfl, fun _ _ => by kernel_rfl⟩
  simp only [List.take_succ_cons, List.take_zero, List.take_nil]
  (try simp only [Act.put, mA, mB, mC])
  ((with_reducible refine wpX_fn (fun W hW => rD_c W) ?_ rfl ?_ ?_ ?_); (focus rfl); (focus kernel_rfl); (focus rfl); (try simp only [Act.put, mA, mB, mC]))
  refine wpX_load (by rfl) rfl rfl (blk_rd k_t7) (by kernel_rfl) (by rw [arrK_size]; kernel_rfl) ?_
  (try simp only [Act.put, mA, mB, mC])
  refine wpX_load (by rfl) rfl rfl (blk_rd k_t8) (by kernel_rfl) (by rw [arrK_size]; kernel_rfl) ?_
  (try simp only [Act.put, mA, mB, mC])
  ((with_reducible refine wpX_fn (fun W hW => c_N5 W) ?_ rfl ?_ ?_ ?_); (focus rfl); (focus kernel_rfl); (focus rfl); (try simp only [Act.put, mA, mB, mC]))
  ((with_reducible refine wpX_fn (fun W hW => c_N6 W) ?_ rfl ?_ ?_ ?_); (focus rfl); (focus kernel_rfl); (focus rfl); (try simp only [Act.put, mA, mB, mC]))
  refine wpX_nil ?_
  intro β W13 hE hN hD
  obtain ⟨n_t9, h_t9⟩ := hN _ (List.mem_cons_self ..)
  clear hN hD
  simp only [putAll, Act.put, mA, mB, mC, List.drop_succ_cons, List.drop_zero, List.drop_nil, List.length_cons, List.length_nil, Nat.add_zero] at n_t9 h_t9 ⊢
  have hO := off_ext hE
  generalize β 5 = p9_13 at *
  have nq_t2_t9 : p2_1 ≠ p9_13 := Nat.ne_of_lt (Nat.lt_of_lt_of_le (blk_lt k_t2) n_t9)
  have nq_t3_t9 : p3_2 ≠ p9_13 := Nat.ne_of_lt (Nat.lt_of_lt_of_le (blk_lt k_t3) n_t9)
  have nq_t4_t9 : p4_3 ≠ p9_13 := Nat.ne_of_lt (Nat.lt_of_lt_of_le (blk_lt k_t4) n_t9)
  have nq_t5_t9 : p5_5 ≠ p9_13 := Nat.ne_of_lt (Nat.lt_of_lt_of_le (blk_lt k_t5) n_t9)
  have nq_t6_t9 : p6_8 ≠ p9_13 := Nat.ne_of_lt (Nat.lt_of_lt_of_le (blk_lt k_t6) n_t9)
  have nq_t7_t9 : p7_10 ≠ p9_13 := Nat.ne_of_lt (Nat.lt_of_lt_of_le (blk_lt k_t7) n_t9)
  have nq_t8_t9 : p8_10 ≠ p9_13 := Nat.ne_of_lt (Nat.lt_of_lt_of_le (blk_lt k_t8) n_t9)
  have fb_t9 : Fb p9_13 w.heap.size [] := fb_new (Nat.le_trans sz n_t9)
  replace k_t2 := blk_off k_t2 hO nm0
  replace k_t3 := blk_off k_t3 hO nm0
  replace k_t4 := blk_off k_t4 hO nm0
  replace k_t5 := blk_off k_t5 hO nm0
  replace k_t6 := blk_off k_t6 hO nm0
  replace k_t7 := blk_off k_t7 hO nm0
  replace k_t8 := blk_off k_t8 hO nm0
  replace off0 := off0.step hO i0
  replace sz := off0.size
  clear hO hE β n_t9
  have k_t9 : Blk W13 p9_13 (arrK .i64 16 (l16 0)) 39 := h_t9
  clear h_t9
  refine wpL_putrow (cells := arrK .i64 16 (l16 N6)) (by rfl) rfl rfl rfl k_t9 (by rw [arrK_size]; kernel_rfl) (by first | rw [arrK_size, arrK_size] | rw [arrK_size] | kernel_rfl) (by exact arrK_one _ _ _) ?_
  (try simp only [Act.put, mA, mB, mC])
  intro W14 hO h_
  replace k_t9 : Blk W14 p9_13 (arrK .i64 16 (l16 N6)) 39 := h_
  clear h_
  replace k_t2 := blk_off k_t2 hO (nm1 nq_t2_t9)
  replace k_t3 := blk_off k_t3 hO (nm1 nq_t3_t9)
  replace k_t4 := blk_off k_t4 hO (nm1 nq_t4_t9)
  replace k_t5 := blk_off k_t5 hO (nm1 nq_t5_t9)
  replace k_t6 := blk_off k_t6 hO (nm1 nq_t6_t9)
  replace k_t7 := blk_off k_t7 hO (nm1 nq_t7_t9)
  replace k_t8 := blk_off k_t8 hO (nm1 nq_t8_t9)
  replace off0 := off0.step hO (i1 fb_t9)
  replace sz := off0.size
  clear hO
  refine wpL_nil ?_
  first | with_reducible refine NoPanic.normal (Q := Exit.then _ _) ?_ | with_reducible refine NoPanic.normal ?_
  go_upto_region 5 with fail
  refine wp_region_xn 6 [⟨6, 10, arrK .i64 16 (l16 0), 39⟩, ⟨7, 11, arrK .i64 16 (l16 0), 39⟩] (by kernel_rfl) ?_ (by kernel_rfl) ?_
  · intro x hx
    simp only [List.mem_cons, List.not_mem_nil, or_false] at hx
    rcases hx with rfl | rfl <;> exact ⟨_, rfl, rfl, rfl, fun _ _ => by kernel_rfl⟩
  simp only [List.take_succ_cons, List.take_zero, List.take_nil]
  (try simp only [Act.put, mA, mB, mC])
  refine wpX_load (by rfl) rfl rfl (blk_rd k_t6) (by kernel_rfl) (by rw [arrK_size]; kernel_rfl) ?_
  (try simp only [Act.put, mA, mB, mC])
  refine wpX_load (by rfl) rfl rfl (blk_rd k_t9) (by kernel_rfl) (by rw [arrK_size]; kernel_rfl) ?_
  (try simp only [Act.put, mA, mB, mC])
  ((with_reducible refine wpX_fn (fun W hW => c_N7 W) ?_ rfl ?_ ?_ ?_); (focus rfl); (focus kernel_rfl); (focus rfl); (try simp only [Act.put, mA, mB, mC]))
  refine wpX_load (by rfl) rfl rfl (blk_rd k_t6) (by kernel_rfl) (by rw [arrK_size]; kernel_rfl) ?_
  (try simp only [Act.put, mA, mB, mC])
  refine wpX_load (by rfl) rfl rfl (blk_rd k_t9) (by kernel_rfl) (by rw [arrK_size]; kernel_rfl) ?_
  (try simp only [Act.put, mA, mB, mC])
  ((with_reducible refine wpX_fn (fun W hW => c_N8 W) ?_ rfl ?_ ?_ ?_); (focus rfl); (focus kernel_rfl); (focus rfl); (try simp only [Act.put, mA, mB, mC]))
  refine wpX_nil ?_
  intro β W15 hE hN hD
  obtain ⟨n_t10, h_t10⟩ := hN _ (List.mem_cons_self ..)
  obtain ⟨n_t11, h_t11⟩ := hN _ (List.mem_cons_of_mem _ (List.mem_cons_self ..))
  have nq_t10_t11 := (hD _ (List.mem_cons_of_mem _ (List.mem_cons_self ..)) _ (List.mem_cons_self ..) (by decide)).symm
  clear hN hD
  simp only [putAll, Act.put, mA, mB, mC, List.drop_succ_cons, List.drop_zero, List.drop_nil, List.length_cons, List.length_nil, Nat.add_zero] at n_t10 h_t10 n_t11 h_t11 nq_t10_t11 ⊢
  have hO := off_ext hE
  generalize β 6 = p10_15 at *
  have nq_t2_t10 : p2_1 ≠ p10_15 := Nat.ne_of_lt (Nat.lt_of_lt_of_le (blk_lt k_t2) n_t10)
  have nq_t3_t10 : p3_2 ≠ p10_15 := Nat.ne_of_lt (Nat.lt_of_lt_of_le (blk_lt k_t3) n_t10)
  have nq_t4_t10 : p4_3 ≠ p10_15 := Nat.ne_of_lt (Nat.lt_of_lt_of_le (blk_lt k_t4) n_t10)
  have nq_t5_t10 : p5_5 ≠ p10_15 := Nat.ne_of_lt (Nat.lt_of_lt_of_le (blk_lt k_t5) n_t10)
  have nq_t6_t10 : p6_8 ≠ p10_15 := Nat.ne_of_lt (Nat.lt_of_lt_of_le (blk_lt k_t6) n_t10)
  have nq_t7_t10 : p7_10 ≠ p10_15 := Nat.ne_of_lt (Nat.lt_of_lt_of_le (blk_lt k_t7) n_t10)
  have nq_t8_t10 : p8_10 ≠ p10_15 := Nat.ne_of_lt (Nat.lt_of_lt_of_le (blk_lt k_t8) n_t10)
  have nq_t9_t10 : p9_13 ≠ p10_15 := Nat.ne_of_lt (Nat.lt_of_lt_of_le (blk_lt k_t9) n_t10)
  have fb_t10 : Fb p10_15 w.heap.size [] := fb_new (Nat.le_trans sz n_t10)
  generalize β 7 = p11_15 at *
  have nq_t2_t11 : p2_1 ≠ p11_15 := Nat.ne_of_lt (Nat.lt_of_lt_of_le (blk_lt k_t2) n_t11)
  have nq_t3_t11 : p3_2 ≠ p11_15 := Nat.ne_of_lt (Nat.lt_of_lt_of_le (blk_lt k_t3) n_t11)
  have nq_t4_t11 : p4_3 ≠ p11_15 := Nat.ne_of_lt (Nat.lt_of_lt_of_le (blk_lt k_t4) n_t11)
  have nq_t5_t11 : p5_5 ≠ p11_15 := Nat.ne_of_lt (Nat.lt_of_lt_of_le (blk_lt k_t5) n_t11)
  have nq_t6_t11 : p6_8 ≠ p11_15 := Nat.ne_of_lt (Nat.lt_of_lt_of_le (blk_lt k_t6) n_t11)
  have nq_t7_t11 : p7_10 ≠ p11_15 := Nat.ne_of_lt (Nat.lt_of_lt_of_le (blk_lt k_t7) n_t11)
  have nq_t8_t11 : p8_10 ≠ p11_15 := Nat.ne_of_lt (Nat.lt_of_lt_of_le (blk_lt k_t8) n_t11)
  have nq_t9_t11 : p9_13 ≠ p11_15 := Nat.ne_of_lt (Nat.lt_of_lt_of_le (blk_lt k_t9) n_t11)
  have fb_t11 : Fb p11_15 w.heap.size [] := fb_new (Nat.le_trans sz n_t11)
  replace k_t2 := blk_off k_t2 hO nm0
  replace k_t3 := blk_off k_t3 hO nm0
  replace k_t4 := blk_off k_t4 hO nm0
  replace k_t5 := blk_off k_t5 hO nm0
  replace k_t6 := blk_off k_t6 hO nm0
  replace k_t7 := blk_off k_t7 hO nm0
  replace k_t8 := blk_off k_t8 hO nm0
  replace k_t9 := blk_off k_t9 hO nm0
  replace off0 := off0.step hO i0
  replace sz := off0.size
  clear hO hE β n_t10 n_t11
  have k_t10 : Blk W15 p10_15 (arrK .i64 16 (l16 0)) 39 := h_t10
  clear h_t10
  have k_t11 : Blk W15 p11_15 (arrK .i64 16 (l16 0)) 39 := h_t11
  clear h_t11
  refine wpL_putrow (cells := arrK .i64 16 (l16 N7)) (by rfl) rfl rfl rfl k_t10 (by rw [arrK_size]; kernel_rfl) (by first | rw [arrK_size, arrK_size] | rw [arrK_size] | kernel_rfl) (by exact arrK_one _ _ _) ?_
  (try simp only [Act.put, mA, mB, mC])
  intro W16 hO h_
  replace k_t10 : Blk W16 p10_15 (arrK .i64 16 (l16 N7)) 39 := h_
  clear h_
  replace k_t2 := blk_off k_t2 hO (nm1 nq_t2_t10)
  replace k_t3 := blk_off k_t3 hO (nm1 nq_t3_t10)
  replace k_t4 := blk_off k_t4 hO (nm1 nq_t4_t10)
  replace k_t5 := blk_off k_t5 hO (nm1 nq_t5_t10)
  replace k_t6 := blk_off k_t6 hO (nm1 nq_t6_t10)
  replace k_t7 := blk_off k_t7 hO (nm1 nq_t7_t10)
  replace k_t8 := blk_off k_t8 hO (nm1 nq_t8_t10)
  replace k_t9 := blk_off k_t9 hO (nm1 nq_t9_t10)
  replace k_t11 := blk_off k_t11 hO (nm1 nq_t10_t11.symm)
  replace off0 := off0.step hO (i1 fb_t10)
  replace sz := off0.size
  clear hO
  refine wpL_putrow (cells := arrK .i64 16 (l16 N8)) (by rfl) rfl rfl rfl k_t11 (by rw [arrK_size]; kernel_rfl) (by first | rw [arrK_size, arrK_size] | rw [arrK_size] | kernel_rfl) (by exact arrK_one _ _ _) ?_
  (try simp only [Act.put, mA, mB, mC])
  intro W17 hO h_
  replace k_t11 : Blk W17 p11_15 (arrK .i64 16 (l16 N8)) 39 := h_
  clear h_
  replace k_t2 := blk_off k_t2 hO (nm1 nq_t2_t11)
  replace k_t3 := blk_off k_t3 hO (nm1 nq_t3_t11)
  replace k_t4 := blk_off k_t4 hO (nm1 nq_t4_t11)
  replace k_t5 := blk_off k_t5 hO (nm1 nq_t5_t11)
  replace k_t6 := blk_off k_t6 hO (nm1 nq_t6_t11)
  replace k_t7 := blk_off k_t7 hO (nm1 nq_t7_t11)
  replace k_t8 := blk_off k_t8 hO (nm1 nq_t8_t11)
  replace k_t9 := blk_off k_t9 hO (nm1 nq_t9_t11)
  replace k_t10 := blk_off k_t10 hO (nm1 nq_t10_t11)
  replace off0 := off0.step hO (i1 fb_t11)
  replace sz := off0.size
  clear hO
  refine wpL_nil ?_
  first | with_reducible refine NoPanic.normal (Q := Exit.then _ _) ?_ | with_reducible refine NoPanic.normal ?_
  go_upto_region 6 with fail
  refine wp_region_xn 11 [⟨11, 12, arrK .i64 16 (l16 0), 39⟩] (by kernel_rfl) ?_ (by kernel_rfl) ?_
  · intro x hx
    simp only [List.mem_cons, List.not_mem_nil, or_false] at hx
    subst hx; exact ⟨_, rfl, rfl, rfl, fun _ _ => by kernel_rfl⟩
  simp only [List.take_succ_cons, List.take_zero, List.take_nil]
  (try simp only [Act.put, mA, mB, mC])
  (refine wpX_val (v := ?_) (by rfl) (fun W hW => ?_) ?_; rotate_left 1; (focus (go_simp; first | done | with_reducible rfl)); (try simp only [Act.put, mA, mB, mC]))
  refine wpX_loads (sub := arrK .i64 16 (l16 X1)) (j := 0) (by rfl) rfl rfl (blk_rd k_t2) p3c0 (by kernel_rfl) (by kernel_rfl) ?_
  (try simp only [Act.put, mA, mB, mC])
  (refine wpX_val (v := ?_) (by rfl) (fun W hW => ?_) ?_; rotate_left 1; (focus (go_simp; first | done | with_reducible rfl)); (try simp only [Act.put, mA, mB, mC]))
  refine wpX_loads (sub := arrK .i64 16 (l16 Y1)) (j := 16) (by rfl) rfl rfl (blk_rd k_t2) p3c1 (by kernel_rfl) (by kernel_rfl) ?_
  (try simp only [Act.put, mA, mB, mC])
  ((with_reducible refine wpX_fn (fun W hW => c_N9 W) ?_ rfl ?_ ?_ ?_); (focus rfl); (focus kernel_rfl); (focus rfl); (try simp only [Act.put, mA, mB, mC]))
  (refine wpX_val (v := ?_) (by rfl) (fun W hW => ?_) ?_; rotate_left 1; (focus (go_simp; first | done | with_reducible rfl)); (try simp only [Act.put, mA, mB, mC]))
  refine wpX_loads (sub := arrK .i64 16 (l16 X2)) (j := 0) (by rfl) rfl rfl (blk_rd k_t3) p3c0 (by kernel_rfl) (by kernel_rfl) ?_
  (try simp only [Act.put, mA, mB, mC])
  (refine wpX_val (v := ?_) (by rfl) (fun W hW => ?_) ?_; rotate_left 1; (focus (go_simp; first | done | with_reducible rfl)); (try simp only [Act.put, mA, mB, mC]))
  refine wpX_loads (sub := arrK .i64 16 (l16 Y2)) (j := 16) (by rfl) rfl rfl (blk_rd k_t3) p3c1 (by kernel_rfl) (by kernel_rfl) ?_
  (try simp only [Act.put, mA, mB, mC])
  ((with_reducible refine wpX_fn (fun W hW => c_N10 W) ?_ rfl ?_ ?_ ?_); (focus rfl); (focus kernel_rfl); (focus rfl); (try simp only [Act.put, mA, mB, mC]))
  ((with_reducible refine wpX_fn (fun W hW => c_N11 W) ?_ rfl ?_ ?_ ?_); (focus rfl); (focus kernel_rfl); (focus rfl); (try simp only [Act.put, mA, mB, mC]))
  refine wpX_nil ?_
  intro β W18 hE hN hD
  obtain ⟨n_t12, h_t12⟩ := hN _ (List.mem_cons_self ..)
  clear hN hD
  simp only [putAll, Act.put, mA, mB, mC, List.drop_succ_cons, List.drop_zero, List.drop_nil, List.length_cons, List.length_nil, Nat.add_zero] at n_t12 h_t12 ⊢
  have hO := off_ext hE
  generalize β 11 = p12_18 at *
  have nq_t2_t12 : p2_1 ≠ p12_18 := Nat.ne_of_lt (Nat.lt_of_lt_of_le (blk_lt k_t2) n_t12)
  have nq_t3_t12 : p3_2 ≠ p12_18 := Nat.ne_of_lt (Nat.lt_of_lt_of_le (blk_lt k_t3) n_t12)
  have nq_t4_t12 : p4_3 ≠ p12_18 := Nat.ne_of_lt (Nat.lt_of_lt_of_le (blk_lt k_t4) n_t12)
  have nq_t5_t12 : p5_5 ≠ p12_18 := Nat.ne_of_lt (Nat.lt_of_lt_of_le (blk_lt k_t5) n_t12)
  have nq_t6_t12 : p6_8 ≠ p12_18 := Nat.ne_of_lt (Nat.lt_of_lt_of_le (blk_lt k_t6) n_t12)
  have nq_t7_t12 : p7_10 ≠ p12_18 := Nat.ne_of_lt (Nat.lt_of_lt_of_le (blk_lt k_t7) n_t12)
  have nq_t8_t12 : p8_10 ≠ p12_18 := Nat.ne_of_lt (Nat.lt_of_lt_of_le (blk_lt k_t8) n_t12)
  have nq_t9_t12 : p9_13 ≠ p12_18 := Nat.ne_of_lt (Nat.lt_of_lt_of_le (blk_lt k_t9) n_t12)
  have nq_t10_t12 : p10_15 ≠ p12_18 := Nat.ne_of_lt (Nat.lt_of_lt_of_le (blk_lt k_t10) n_t12)
  have nq_t11_t12 : p11_15 ≠ p12_18 := Nat.ne_of_lt (Nat.lt_of_lt_of_le (blk_lt k_t11) n_t12)
  have fb_t12 : Fb p12_18 w.heap.size [] := fb_new (Nat.le_trans sz n_t12)
  replace k_t2 := blk_off k_t2 hO nm0
  replace k_t3 := blk_off k_t3 hO nm0
  replace k_t4 := blk_off k_t4 hO nm0
  replace k_t5 := blk_off k_t5 hO nm0
  replace k_t6 := blk_off k_t6 hO nm0
  replace k_t7 := blk_off k_t7 hO nm0
  replace k_t8 := blk_off k_t8 hO nm0
  replace k_t9 := blk_off k_t9 hO nm0
  replace k_t10 := blk_off k_t10 hO nm0
  replace k_t11 := blk_off k_t11 hO nm0
  replace off0 := off0.step hO i0
  replace sz := off0.size
  clear hO hE β n_t12
  have k_t12 : Blk W18 p12_18 (arrK .i64 16 (l16 0)) 39 := h_t12
  clear h_t12
  refine wpL_putrow (cells := arrK .i64 16 (l16 N11)) (by rfl) rfl rfl rfl k_t12 (by rw [arrK_size]; kernel_rfl) (by first | rw [arrK_size, arrK_size] | rw [arrK_size] | kernel_rfl) (by exact arrK_one _ _ _) ?_
  (try simp only [Act.put, mA, mB, mC])
  intro W19 hO h_
  replace k_t12 : Blk W19 p12_18 (arrK .i64 16 (l16 N11)) 39 := h_
  clear h_
  replace k_t2 := blk_off k_t2 hO (nm1 nq_t2_t12)
  replace k_t3 := blk_off k_t3 hO (nm1 nq_t3_t12)
  replace k_t4 := blk_off k_t4 hO (nm1 nq_t4_t12)
  replace k_t5 := blk_off k_t5 hO (nm1 nq_t5_t12)
  replace k_t6 := blk_off k_t6 hO (nm1 nq_t6_t12)
  replace k_t7 := blk_off k_t7 hO (nm1 nq_t7_t12)
  replace k_t8 := blk_off k_t8 hO (nm1 nq_t8_t12)
  replace k_t9 := blk_off k_t9 hO (nm1 nq_t9_t12)
  replace k_t10 := blk_off k_t10 hO (nm1 nq_t10_t12)
  replace k_t11 := blk_off k_t11 hO (nm1 nq_t11_t12)
  replace off0 := off0.step hO (i1 fb_t12)
  replace sz := off0.size
  clear hO
  refine wpL_nil ?_
  first | with_reducible refine NoPanic.normal (Q := Exit.then _ _) ?_ | with_reducible refine NoPanic.normal ?_
  go_upto_region 7 with fail
  refine wp_region_xn 9 [⟨9, 13, arrK .i64 16 (l16 0), 39⟩] (by kernel_rfl) ?_ (by kernel_rfl) ?_
  · intro x hx
    simp only [List.mem_cons, List.not_mem_nil, or_false] at hx
    subst hx; exact ⟨_, rfl, rfl, rfl, fun _ _ => by kernel_rfl⟩
  simp only [List.take_succ_cons, List.take_zero, List.take_nil]
  (try simp only [Act.put, mA, mB, mC])
  refine wpX_load (by rfl) rfl rfl (blk_rd k_t5) (by kernel_rfl) (by rw [arrK_size]; kernel_rfl) ?_
  (try simp only [Act.put, mA, mB, mC])
  refine wpX_load (by rfl) rfl rfl (blk_rd k_t10) (by kernel_rfl) (by rw [arrK_size]; kernel_rfl) ?_
  (try simp only [Act.put, mA, mB, mC])
  ((with_reducible refine wpX_fn (fun W hW => c_N12 W) ?_ rfl ?_ ?_ ?_); (focus rfl); (focus kernel_rfl); (focus rfl); (try simp only [Act.put, mA, mB, mC]))
  refine wpX_load (by rfl) rfl rfl (blk_rd k_t12) (by kernel_rfl) (by rw [arrK_size]; kernel_rfl) ?_
  (try simp only [Act.put, mA, mB, mC])
  refine wpX_load (by rfl) rfl rfl (blk_rd k_t7) (by kernel_rfl) (by rw [arrK_size]; kernel_rfl) ?_
  (try simp only [Act.put, mA, mB, mC])
  refine wpX_load (by rfl) rfl rfl (blk_rd k_t8) (by kernel_rfl) (by rw [arrK_size]; kernel_rfl) ?_
  (try simp only [Act.put, mA, mB, mC])
  ((with_reducible refine wpX_fn (fun W hW => c_N13 W) ?_ rfl ?_ ?_ ?_); (focus rfl); (focus kernel_rfl); (focus rfl); (try simp only [Act.put, mA, mB, mC]))
  ((with_reducible refine wpX_fn (fun W hW => c_N14 W) ?_ rfl ?_ ?_ ?_); (focus rfl); (focus kernel_rfl); (focus rfl); (try simp only [Act.put, mA, mB, mC]))
  ((with_reducible refine wpX_fn (fun W hW => c_N15 W) ?_ rfl ?_ ?_ ?_); (focus rfl); (focus kernel_rfl); (focus rfl); (try simp only [Act.put, mA, mB, mC]))
  refine wpX_nil ?_
  intro β W20 hE hN hD
  obtain ⟨n_t13, h_t13⟩ := hN _ (List.mem_cons_self ..)
  clear hN hD
  simp only [putAll, Act.put, mA, mB, mC, List.drop_succ_cons, List.drop_zero, List.drop_nil, List.length_cons, List.length_nil, Nat.add_zero] at n_t13 h_t13 ⊢
  have hO := off_ext hE
  generalize β 9 = p13_20 at *
  have nq_t2_t13 : p2_1 ≠ p13_20 := Nat.ne_of_lt (Nat.lt_of_lt_of_le (blk_lt k_t2) n_t13)
  have nq_t3_t13 : p3_2 ≠ p13_20 := Nat.ne_of_lt (Nat.lt_of_lt_of_le (blk_lt k_t3) n_t13)
  have nq_t4_t13 : p4_3 ≠ p13_20 := Nat.ne_of_lt (Nat.lt_of_lt_of_le (blk_lt k_t4) n_t13)
  have nq_t5_t13 : p5_5 ≠ p13_20 := Nat.ne_of_lt (Nat.lt_of_lt_of_le (blk_lt k_t5) n_t13)
  have nq_t6_t13 : p6_8 ≠ p13_20 := Nat.ne_of_lt (Nat.lt_of_lt_of_le (blk_lt k_t6) n_t13)
  have nq_t7_t13 : p7_10 ≠ p13_20 := Nat.ne_of_lt (Nat.lt_of_lt_of_le (blk_lt k_t7) n_t13)
  have nq_t8_t13 : p8_10 ≠ p13_20 := Nat.ne_of_lt (Nat.lt_of_lt_of_le (blk_lt k_t8) n_t13)
  have nq_t9_t13 : p9_13 ≠ p13_20 := Nat.ne_of_lt (Nat.lt_of_lt_of_le (blk_lt k_t9) n_t13)
  have nq_t10_t13 : p10_15 ≠ p13_20 := Nat.ne_of_lt (Nat.lt_of_lt_of_le (blk_lt k_t10) n_t13)
  have nq_t11_t13 : p11_15 ≠ p13_20 := Nat.ne_of_lt (Nat.lt_of_lt_of_le (blk_lt k_t11) n_t13)
  have nq_t12_t13 : p12_18 ≠ p13_20 := Nat.ne_of_lt (Nat.lt_of_lt_of_le (blk_lt k_t12) n_t13)
  have fb_t13 : Fb p13_20 w.heap.size [] := fb_new (Nat.le_trans sz n_t13)
  replace k_t2 := blk_off k_t2 hO nm0
  replace k_t3 := blk_off k_t3 hO nm0
  replace k_t4 := blk_off k_t4 hO nm0
  replace k_t5 := blk_off k_t5 hO nm0
  replace k_t6 := blk_off k_t6 hO nm0
  replace k_t7 := blk_off k_t7 hO nm0
  replace k_t8 := blk_off k_t8 hO nm0
  replace k_t9 := blk_off k_t9 hO nm0
  replace k_t10 := blk_off k_t10 hO nm0
  replace k_t11 := blk_off k_t11 hO nm0
  replace k_t12 := blk_off k_t12 hO nm0
  replace off0 := off0.step hO i0
  replace sz := off0.size
  clear hO hE β n_t13
  have k_t13 : Blk W20 p13_20 (arrK .i64 16 (l16 0)) 39 := h_t13
  clear h_t13
  refine wpL_putrow (cells := arrK .i64 16 (l16 N15)) (by rfl) rfl rfl rfl k_t13 (by rw [arrK_size]; kernel_rfl) (by first | rw [arrK_size, arrK_size] | rw [arrK_size] | kernel_rfl) (by exact arrK_one _ _ _) ?_
  (try simp only [Act.put, mA, mB, mC])
  intro W21 hO h_
  replace k_t13 : Blk W21 p13_20 (arrK .i64 16 (l16 N15)) 39 := h_
  clear h_
  replace k_t2 := blk_off k_t2 hO (nm1 nq_t2_t13)
  replace k_t3 := blk_off k_t3 hO (nm1 nq_t3_t13)
  replace k_t4 := blk_off k_t4 hO (nm1 nq_t4_t13)
  replace k_t5 := blk_off k_t5 hO (nm1 nq_t5_t13)
  replace k_t6 := blk_off k_t6 hO (nm1 nq_t6_t13)
  replace k_t7 := blk_off k_t7 hO (nm1 nq_t7_t13)
  replace k_t8 := blk_off k_t8 hO (nm1 nq_t8_t13)
  replace k_t9 := blk_off k_t9 hO (nm1 nq_t9_t13)
  replace k_t10 := blk_off k_t10 hO (nm1 nq_t10_t13)
  replace k_t11 := blk_off k_t11 hO (nm1 nq_t11_t13)
  replace k_t12 := blk_off k_t12 hO (nm1 nq_t12_t13)
  replace off0 := off0.step hO (i1 fb_t13)
  replace sz := off0.size
  clear hO
  refine wpL_nil ?_
  first | with_reducible refine NoPanic.normal (Q := Exit.then _ _) ?_ | with_reducible refine NoPanic.normal ?_
  go_upto_region 8 with fail
  refine wp_region_xn 7 [⟨7, 14, arrK .i64 16 (l16 0), 39⟩] (by kernel_rfl) ?_ (by kernel_rfl) ?_
  · intro x hx
    simp only [List.mem_cons, List.not_mem_nil, or_false] at hx
    subst hx; exact ⟨_, rfl, rfl, rfl, fun _ _ => by kernel_rfl⟩
  simp only [List.take_succ_cons, List.take_zero, List.take_nil]
  (try simp only [Act.put, mA, mB, mC])
  refine wpX_load (by rfl) rfl rfl (blk_rd k_t5) (by kernel_rfl) (by rw [arrK_size]; kernel_rfl) ?_
  (try simp only [Act.put, mA, mB, mC])
  refine wpX_load (by rfl) rfl rfl (blk_rd k_t11) (by kernel_rfl) (by rw [arrK_size]; kernel_rfl) ?_
  (try simp only [Act.put, mA, mB, mC])
  ((with_reducible refine wpX_fn (fun W hW => c_N16 W) ?_ rfl ?_ ?_ ?_); (focus rfl); (focus kernel_rfl); (focus rfl); (try simp only [Act.put, mA, mB, mC]))
  refine wpX_load (by rfl) rfl rfl (blk_rd k_t7) (by kernel_rfl) (by rw [arrK_size]; kernel_rfl) ?_
  (try simp only [Act.put, mA, mB, mC])
  refine wpX_load (by rfl) rfl rfl (blk_rd k_t8) (by kernel_rfl) (by rw [arrK_size]; kernel_rfl) ?_
  (try simp only [Act.put, mA, mB, mC])
  ((with_reducible refine wpX_fn (fun W hW => c_N17 W) ?_ rfl ?_ ?_ ?_); (focus rfl); (focus kernel_rfl); (focus rfl); (try simp only [Act.put, mA, mB, mC]))
  ((with_reducible refine wpX_fn (fun W hW => c_N18 W) ?_ rfl ?_ ?_ ?_); (focus rfl); (focus kernel_rfl); (focus rfl); (try simp only [Act.put, mA, mB, mC]))
  refine wpX_nil ?_
  intro β W22 hE hN hD
  obtain ⟨n_t14, h_t14⟩ := hN _ (List.mem_cons_self ..)
  clear hN hD
  simp only [putAll, Act.put, mA, mB, mC, List.drop_succ_cons, List.drop_zero, List.drop_nil, List.length_cons, List.length_nil, Nat.add_zero] at n_t14 h_t14 ⊢
  have hO := off_ext hE
  generalize β 7 = p14_22 at *
  have nq_t2_t14 : p2_1 ≠ p14_22 := Nat.ne_of_lt (Nat.lt_of_lt_of_le (blk_lt k_t2) n_t14)
  have nq_t3_t14 : p3_2 ≠ p14_22 := Nat.ne_of_lt (Nat.lt_of_lt_of_le (blk_lt k_t3) n_t14)
  have nq_t4_t14 : p4_3 ≠ p14_22 := Nat.ne_of_lt (Nat.lt_of_lt_of_le (blk_lt k_t4) n_t14)
  have nq_t5_t14 : p5_5 ≠ p14_22 := Nat.ne_of_lt (Nat.lt_of_lt_of_le (blk_lt k_t5) n_t14)
  have nq_t6_t14 : p6_8 ≠ p14_22 := Nat.ne_of_lt (Nat.lt_of_lt_of_le (blk_lt k_t6) n_t14)
  have nq_t7_t14 : p7_10 ≠ p14_22 := Nat.ne_of_lt (Nat.lt_of_lt_of_le (blk_lt k_t7) n_t14)
  have nq_t8_t14 : p8_10 ≠ p14_22 := Nat.ne_of_lt (Nat.lt_of_lt_of_le (blk_lt k_t8) n_t14)
  have nq_t9_t14 : p9_13 ≠ p14_22 := Nat.ne_of_lt (Nat.lt_of_lt_of_le (blk_lt k_t9) n_t14)
  have nq_t10_t14 : p10_15 ≠ p14_22 := Nat.ne_of_lt (Nat.lt_of_lt_of_le (blk_lt k_t10) n_t14)
  have nq_t11_t14 : p11_15 ≠ p14_22 := Nat.ne_of_lt (Nat.lt_of_lt_of_le (blk_lt k_t11) n_t14)
  have nq_t12_t14 : p12_18 ≠ p14_22 := Nat.ne_of_lt (Nat.lt_of_lt_of_le (blk_lt k_t12) n_t14)
  have nq_t13_t14 : p13_20 ≠ p14_22 := Nat.ne_of_lt (Nat.lt_of_lt_of_le (blk_lt k_t13) n_t14)
  have fb_t14 : Fb p14_22 w.heap.size [] := fb_new (Nat.le_trans sz n_t14)
  replace k_t2 := blk_off k_t2 hO nm0
  replace k_t3 := blk_off k_t3 hO nm0
  replace k_t4 := blk_off k_t4 hO nm0
  replace k_t5 := blk_off k_t5 hO nm0
  replace k_t6 := blk_off k_t6 hO nm0
  replace k_t7 := blk_off k_t7 hO nm0
  replace k_t8 := blk_off k_t8 hO nm0
  replace k_t9 := blk_off k_t9 hO nm0
  replace k_t10 := blk_off k_t10 hO nm0
  replace k_t11 := blk_off k_t11 hO nm0
  replace k_t12 := blk_off k_t12 hO nm0
  replace k_t13 := blk_off k_t13 hO nm0
  replace off0 := off0.step hO i0
  replace sz := off0.size
  clear hO hE β n_t14
  have k_t14 : Blk W22 p14_22 (arrK .i64 16 (l16 0)) 39 := h_t14
  clear h_t14
  refine wpL_putrow (cells := arrK .i64 16 (l16 N18)) (by rfl) rfl rfl rfl k_t14 (by rw [arrK_size]; kernel_rfl) (by first | rw [arrK_size, arrK_size] | rw [arrK_size] | kernel_rfl) (by exact arrK_one _ _ _) ?_
  (try simp only [Act.put, mA, mB, mC])
  intro W23 hO h_
  replace k_t14 : Blk W23 p14_22 (arrK .i64 16 (l16 N18)) 39 := h_
  clear h_
  replace k_t2 := blk_off k_t2 hO (nm1 nq_t2_t14)
  replace k_t3 := blk_off k_t3 hO (nm1 nq_t3_t14)
  replace k_t4 := blk_off k_t4 hO (nm1 nq_t4_t14)
  replace k_t5 := blk_off k_t5 hO (nm1 nq_t5_t14)
  replace k_t6 := blk_off k_t6 hO (nm1 nq_t6_t14)
  replace k_t7 := blk_off k_t7 hO (nm1 nq_t7_t14)
  replace k_t8 := blk_off k_t8 hO (nm1 nq_t8_t14)
  replace k_t9 := blk_off k_t9 hO (nm1 nq_t9_t14)
  replace k_t10 := blk_off k_t10 hO (nm1 nq_t10_t14)
  replace k_t11 := blk_off k_t11 hO (nm1 nq_t11_t14)
  replace k_t12 := blk_off k_t12 hO (nm1 nq_t12_t14)
  replace k_t13 := blk_off k_t13 hO (nm1 nq_t13_t14)
  replace off0 := off0.step hO (i1 fb_t14)
  replace sz := off0.size
  clear hO
  refine wpL_nil ?_
  first | with_reducible refine NoPanic.normal (Q := Exit.then _ _) ?_ | with_reducible refine NoPanic.normal ?_
  go_upto_region 9 with fail
  refine wp_region_xn 6 [] (by kernel_rfl) (fun x hx => by cases hx) (by kernel_rfl) ?_
  simp only [List.take_succ_cons, List.take_zero, List.take_nil]
  (try simp only [Act.put, mA, mB, mC])
  refine wpX_load (by rfl) rfl rfl (blk_rd k_t13) (by kernel_rfl) (by rw [arrK_size]; kernel_rfl) ?_
  (try simp only [Act.put, mA, mB, mC])
  refine wpX_load (by rfl) rfl rfl (blk_rd k_t14) (by kernel_rfl) (by rw [arrK_size]; kernel_rfl) ?_
  (try simp only [Act.put, mA, mB, mC])
  refine wpX_load (by rfl) rfl rfl (blk_rd k_t10) (by kernel_rfl) (by rw [arrK_size]; kernel_rfl) ?_
  (try simp only [Act.put, mA, mB, mC])
  refine wpX_load (by rfl) rfl rfl (blk_rd k_t11) (by kernel_rfl) (by rw [arrK_size]; kernel_rfl) ?_
  (try simp only [Act.put, mA, mB, mC])
  ((with_reducible refine wpX_fn (fun W hW => c_N19 W) ?_ rfl ?_ ?_ ?_); (focus rfl); (focus kernel_rfl); (focus rfl); (try simp only [Act.put, mA, mB, mC]))
  refine wpX_val (v := .agg (p3 N15 N18 N19)) (by rfl) (fun _ _ => by kernel_rfl) ?_
  (try simp only [Act.put, mA, mB, mC])
  refine wpX_nil ?_
  intro β W24 hE hN hD
  clear hN hD
  simp only [putAll, Act.put, mA, mB, mC, List.drop_succ_cons, List.drop_zero, List.drop_nil, List.length_cons, List.length_nil, Nat.add_zero]
  have hO := off_ext hE
  replace k_t2 := blk_off k_t2 hO nm0
  replace k_t3 := blk_off k_t3 hO nm0
  replace k_t4 := blk_off k_t4 hO nm0
  replace k_t5 := blk_off k_t5 hO nm0
  replace k_t6 := blk_off k_t6 hO nm0
  replace k_t7 := blk_off k_t7 hO nm0
  replace k_t8 := blk_off k_t8 hO nm0
  replace k_t9 := blk_off k_t9 hO nm0
  replace k_t10 := blk_off k_t10 hO nm0
  replace k_t11 := blk_off k_t11 hO nm0
  replace k_t12 := blk_off k_t12 hO nm0
  replace k_t13 := blk_off k_t13 hO nm0
  replace k_t14 := blk_off k_t14 hO nm0
  replace off0 := off0.step hO i0
  replace sz := off0.size
  clear hO hE β
  refine wpL_putrow (cells := p3 N15 N18 N19) (by rfl) rfl rfl rfl k_t4 (by rw [p3_size]; kernel_rfl) (by first | rw [p3_size, p3_size] | rw [p3_size] | kernel_rfl) (by exact p3_one) ?_
  (try simp only [Act.put, mA, mB, mC])
  intro W25 hO h_
  replace k_t4 : Blk W25 p4_3 (p3 N15 N18 N19) 41 := h_
  clear h_
  replace k_t2 := blk_off k_t2 hO (nm1 nq_t2_t4)
  replace k_t3 := blk_off k_t3 hO (nm1 nq_t3_t4)
  replace k_t5 := blk_off k_t5 hO (nm1 nq_t4_t5.symm)
  replace k_t6 := blk_off k_t6 hO (nm1 nq_t4_t6.symm)
  replace k_t7 := blk_off k_t7 hO (nm1 nq_t4_t7.symm)
  replace k_t8 := blk_off k_t8 hO (nm1 nq_t4_t8.symm)
  replace k_t9 := blk_off k_t9 hO (nm1 nq_t4_t9.symm)
  replace k_t10 := blk_off k_t10 hO (nm1 nq_t4_t10.symm)
  replace k_t11 := blk_off k_t11 hO (nm1 nq_t4_t11.symm)
  replace k_t12 := blk_off k_t12 hO (nm1 nq_t4_t12.symm)
  replace k_t13 := blk_off k_t13 hO (nm1 nq_t4_t13.symm)
  replace k_t14 := blk_off k_t14 hO (nm1 nq_t4_t14.symm)
  replace off0 := off0.step hO (i1 fb_t4)
  replace sz := off0.size
  clear hO
  refine wpL_nil ?_
  first | with_reducible refine NoPanic.normal (Q := Exit.then _ _) ?_ | with_reducible refine NoPanic.normal ?_
  go_wp2
  exact bodyPost_ret (res_row rfl rfl k_t4 (by kernel_rfl) (by rw [p3_size]; kernel_rfl)) rfl ⟨rfl, off0.ext⟩
set_option maxRecDepth 100000 in
set_option maxHeartbeats 1500000 in
theorem rEight_c {X1 Y1 Z1 : Nat} {p1 : Pr} (h1 : RD X1 Y1 Z1 p1) :
    ∃ X Y Z, RD X Y Z (pm p1 8) ∧ ∀ w, Calls Tryd.prog 23 #[.agg (p3 X1 Y1 Z1)] w fun e w' => Ret (.agg (p3 X Y Z)) w w' e := by
  obtain ⟨x1, y2, z3, r4, c5⟩ := rPAdd_c h1 h1
  obtain ⟨x6, y7, z8, r9, c10⟩ := rPAdd_c r4 r4
  obtain ⟨x11, y12, z13, r14, c15⟩ := rPAdd_c r9 r9
  refine ⟨x11, y12, z13, pm8 h1.on ▸ r14, fun w => ?_⟩
  have off0 : Off [] w w := Off.refl _ _
  have sz := off0.size
  go_enter Tryd.func23, Tryd.ntmps23
  go_upto_region 0 with fail
  refine wp_region_lit ?_
  refine wpL_new (z := p3 X1 Y1 Z1) (t := 41) (by rfl) (by first | kernel_rfl | (go_simp; done) | (go_simp; rfl)) ?_
  (try simp only [Act.put, mA, mB, mC])
  intro p1_1 W1 n_t1 hO h_
  have fb_t1 : Fb p1_1 w.heap.size [] := fb_new (Nat.le_trans sz n_t1)
  replace off0 := off0.step hO i0
  replace sz := off0.size
  have k_t1 := h_
  clear hO h_ n_t1
  refine wpL_new (z := p3 0 0 0) (t := 41) (by rfl) (by first | kernel_rfl | (go_simp; done) | (go_simp; rfl)) ?_
  (try simp only [Act.put, mA, mB, mC])
  intro p2_2 W2 n_t2 hO h_
  have nq_t1_t2 : p1_1 ≠ p2_2 := Nat.ne_of_lt (Nat.lt_of_lt_of_le (blk_lt k_t1) n_t2)
  have fb_t2 : Fb p2_2 w.heap.size [] := fb_new (Nat.le_trans sz n_t2)
  replace k_t1 := blk_off k_t1 hO nm0
  replace off0 := off0.step hO i0
  replace sz := off0.size
  have k_t2 := h_
  clear hO h_ n_t2
  refine wpL_nil ?_
  go_wp2_with fail
  refine wp_loop_rounds 5 ?_
  rw [rounds_succ]
  go_upto_region 4 with fail
  refine wp_region_lit ?_
  refine wpL_load0 (by rfl) rfl rfl k_t1 (by kernel_rfl) (by rw [p3_size]; kernel_rfl) ?_
  (try simp only [Act.put, mA, mB, mC])
  refine wpL_load0 (by rfl) rfl rfl k_t1 (by kernel_rfl) (by rw [p3_size]; kernel_rfl) ?_
  (try simp only [Act.put, mA, mB, mC])
  refine wpL_ret (c5 W2) (by rfl) rfl (by kernel_rfl) rfl ?_
  (try simp only [Act.put, mA, mB, mC])
  intro W3 hO
  replace k_t1 := blk_off k_t1 hO nm0
  replace k_t2 := blk_off k_t2 hO nm0
  replace off0 := off0.step hO i0
  replace sz := off0.size
  clear hO
  refine wpL_putrow (cells := p3 x1 y2 z3) (by rfl) rfl rfl rfl k_t1 (by rw [p3_size]; kernel_rfl) (by first | rw [p3_size, p3_size] | rw [p3_size] | kernel_rfl) (by exact p3_one) ?_
  (try simp only [Act.put, mA, mB, mC])
  intro W4 hO h_
  replace k_t1 : Blk W4 p1_1 (p3 x1 y2 z3) 41 := h_
  clear h_
  replace k_t2 := blk_off k_t2 hO (nm1 nq_t1_t2.symm)
  replace off0 := off0.step hO (i1 fb_t1)
  replace sz := off0.size
  clear hO
  refine wpL_nil ?_
  go_wp2_with fail
  rw [rounds_succ]
  go_upto_region 4 with fail
  refine wp_region_lit ?_
  refine wpL_load0 (by rfl) rfl rfl k_t1 (by kernel_rfl) (by rw [p3_size]; kernel_rfl) ?_
  (try simp only [Act.put, mA, mB, mC])
  refine wpL_load0 (by rfl) rfl rfl k_t1 (by kernel_rfl) (by rw [p3_size]; kernel_rfl) ?_
  (try simp only [Act.put, mA, mB, mC])
  refine wpL_ret (c10 W4) (by rfl) rfl (by kernel_rfl) rfl ?_
  (try simp only [Act.put, mA, mB, mC])
  intro W5 hO
  replace k_t1 := blk_off k_t1 hO nm0
  replace k_t2 := blk_off k_t2 hO nm0
  replace off0 := off0.step hO i0
  replace sz := off0.size
  clear hO
  refine wpL_putrow (cells := p3 x6 y7 z8) (by rfl) rfl rfl rfl k_t1 (by rw [p3_size]; kernel_rfl) (by first | rw [p3_size, p3_size] | rw [p3_size] | kernel_rfl) (by exact p3_one) ?_
  (try simp only [Act.put, mA, mB, mC])
  intro W6 hO h_
  replace k_t1 : Blk W6 p1_1 (p3 x6 y7 z8) 41 := h_
  clear h_
  replace k_t2 := blk_off k_t2 hO (nm1 nq_t1_t2.symm)
  replace off0 := off0.step hO (i1 fb_t1)
  replace sz := off0.size
  clear hO
  refine wpL_nil ?_
  go_wp2_with fail
  rw [rounds_succ]
  go_upto_region 4 with fail
  refine wp_region_lit ?_
  refine wpL_load0 (by rfl) rfl rfl k_t1 (by kernel_rfl) (by rw [p3_size]; kernel_rfl) ?_
  (try simp only [Act.put, mA, mB, mC])
  refine wpL_load0 (by rfl) rfl rfl k_t1 (by kernel_rfl) (by rw [p3_size]; kernel_rfl) ?_
  (try simp only [Act.put, mA, mB, mC])
  refine wpL_ret (c15 W6) (by rfl) rfl (by kernel_rfl) rfl ?_
  (try simp only [Act.put, mA, mB, mC])
  intro W7 hO
  replace k_t1 := blk_off k_t1 hO nm0
  replace k_t2 := blk_off k_t2 hO nm0
  replace off0 := off0.step hO i0
  replace sz := off0.size
  clear hO
  refine wpL_putrow (cells := p3 x11 y12 z13) (by rfl) rfl rfl rfl k_t1 (by rw [p3_size]; kernel_rfl) (by first | rw [p3_size, p3_size] | rw [p3_size] | kernel_rfl) (by exact p3_one) ?_
  (try simp only [Act.put, mA, mB, mC])
  intro W8 hO h_
  replace k_t1 : Blk W8 p1_1 (p3 x11 y12 z13) 41 := h_
  clear h_
  replace k_t2 := blk_off k_t2 hO (nm1 nq_t1_t2.symm)
  replace off0 := off0.step hO (i1 fb_t1)
  replace sz := off0.size
  clear hO
  refine wpL_nil ?_
  go_wp2_with fail
  rw [rounds_succ]
  go_upto_region 5 with fail
  refine wp_region_lit ?_
  refine wpL_load0 (by rfl) rfl rfl k_t1 (by kernel_rfl) (by rw [p3_size]; kernel_rfl) ?_
  (try simp only [Act.put, mA, mB, mC])
  refine wpL_putrow (cells := p3 x11 y12 z13) (by rfl) rfl rfl rfl k_t2 (by rw [p3_size]; kernel_rfl) (by first | rw [p3_size, p3_size] | rw [p3_size] | kernel_rfl) (by exact p3_one) ?_
  (try simp only [Act.put, mA, mB, mC])
  intro W9 hO h_
  replace k_t2 : Blk W9 p2_2 (p3 x11 y12 z13) 41 := h_
  clear h_
  replace k_t1 := blk_off k_t1 hO (nm1 nq_t1_t2)
  replace off0 := off0.step hO (i1 fb_t2)
  replace sz := off0.size
  clear hO
  refine wpL_nil ?_
  go_wp2
  exact bodyPost_ret (res_row rfl rfl k_t2 (by kernel_rfl) (by rw [p3_size]; kernel_rfl)) rfl ⟨rfl, off0.ext⟩
set_option maxRecDepth 100000 in
set_option maxHeartbeats 1500000 in
theorem rSame_c {X1 Y1 Z1 : Nat} {p1 : Pr} {X2 Y2 Z2 : Nat} {p2 : Pr} (h1 : RD X1 Y1 Z1 p1) (h2 : RD X2 Y2 Z2 p2) :
    ∀ w, Calls Tryd.prog 24 #[.agg (p3 X1 Y1 Z1), .agg (p3 X2 Y2 Z2)] w fun e w' => Ret (.bool (decide (p1 = p2))) w w' e := by
  have c_N1 := rMul_c X1 Z2 (lt_pp h1.x) (lt_pp h2.z)
  obtain ⟨N1, hN1⟩ : ∃ v_, v_ = X1 * Z2 % PP := ⟨_, rfl⟩
  rw [← hN1] at c_N1
  have lN1 : N1 < PP := by rw [hN1]; exact mod_pp _
  have bN1 := lt_pp lN1
  have HN1 := Lib.hid hN1
  clear hN1
  have c_N2 := rMul_c X2 Z1 (lt_pp h2.x) (lt_pp h1.z)
  obtain ⟨N2, hN2⟩ : ∃ v_, v_ = X2 * Z1 % PP := ⟨_, rfl⟩
  rw [← hN2] at c_N2
  have lN2 : N2 < PP := by rw [hN2]; exact mod_pp _
  have bN2 := lt_pp lN2
  have HN2 := Lib.hid hN2
  clear hN2
  have e_N1_N2 := eq16 N1 N2 bN1 bN2
  have c_N3 := rMul_c Y1 Z2 (lt_pp h1.y) (lt_pp h2.z)
  obtain ⟨N3, hN3⟩ : ∃ v_, v_ = Y1 * Z2 % PP := ⟨_, rfl⟩
  rw [← hN3] at c_N3
  have lN3 : N3 < PP := by rw [hN3]; exact mod_pp _
  have bN3 := lt_pp lN3
  have HN3 := Lib.hid hN3
  clear hN3
  have c_N4 := rMul_c Y2 Z1 (lt_pp h2.y) (lt_pp h1.z)
  obtain ⟨N4, hN4⟩ : ∃ v_, v_ = Y2 * Z1 % PP := ⟨_, rfl⟩
  rw [← hN4] at c_N4
  have lN4 : N4 < PP := by rw [hN4]; exact mod_pp _
  have bN4 := lt_pp lN4
  have HN4 := Lib.hid hN4
  clear hN4
  have e_N3_N4 := eq16 N3 N4 bN3 bN4
  intro w
  have off0 : Off [] w w := Off.refl _ _
  have sz := off0.size
  go_enter Tryd.func24, Tryd.ntmps24
  go_upto_region 0 with fail
  refine wp_region_lit ?_
  refine wpL_new (z := p3 X1 Y1 Z1) (t := 41) (by rfl) (by first | kernel_rfl | (go_simp; done) | (go_simp; rfl)) ?_
  (try simp only [Act.put, mA, mB, mC])
  intro p2_1 W1 n_t2 hO h_
  have fb_t2 : Fb p2_1 w.heap.size [] := fb_new (Nat.le_trans sz n_t2)
  replace off0 := off0.step hO i0
  replace sz := off0.size
  have k_t2 := h_
  clear hO h_ n_t2
  refine wpL_new (z := p3 X2 Y2 Z2) (t := 41) (by rfl) (by first | kernel_rfl | (go_simp; done) | (go_simp; rfl)) ?_
  (try simp only [Act.put, mA, mB, mC])
  intro p3_2 W2 n_t3 hO h_
  have nq_t2_t3 : p2_1 ≠ p3_2 := Nat.ne_of_lt (Nat.lt_of_lt_of_le (blk_lt k_t2) n_t3)
  have fb_t3 : Fb p3_2 w.heap.size [] := fb_new (Nat.le_trans sz n_t3)
  replace k_t2 := blk_off k_t2 hO nm0
  replace off0 := off0.step hO i0
  replace sz := off0.size
  have k_t3 := h_
  clear hO h_ n_t3
  refine wpL_val (v := .bool false) (by rfl) (by first | rfl | (go_simp; done) | (go_simp; with_reducible rfl) | (go_simp; omega)) ?_
  (try simp only [Act.put, mA, mB, mC])
  refine wpL_nil ?_
  by_cases hx : N1 = N2
  · have _f := hx
    by_cases hy : N3 = N4
    · have _f := hy
      clear _f
      go_upto_region 1 with fail
      refine wp_region_xn 25 [] (by kernel_rfl) (fun x hx => by cases hx) (by kernel_rfl) ?_
      simp only [List.take_succ_cons, List.take_zero, List.take_nil]
      (try simp only [Act.put, mA, mB, mC])
      (refine wpX_val (v := ?_) (by rfl) (fun W hW => ?_) ?_; rotate_left 1; (focus (go_simp; first | done | with_reducible rfl)); (try simp only [Act.put, mA, mB, mC]))
      refine wpX_loads (sub := arrK .i64 16 (l16 X1)) (j := 0) (by rfl) rfl rfl (blk_rd k_t2) p3c0 (by kernel_rfl) (by kernel_rfl) ?_
      (try simp only [Act.put, mA, mB, mC])
      (refine wpX_val (v := ?_) (by rfl) (fun W hW => ?_) ?_; rotate_left 1; (focus (go_simp; first | done | with_reducible rfl)); (try simp only [Act.put, mA, mB, mC]))
      refine wpX_loads (sub := arrK .i64 16 (l16 Z2)) (j := 32) (by rfl) rfl rfl (blk_rd k_t3) p3c2 (by kernel_rfl) (by kernel_rfl) ?_
      (try simp only [Act.put, mA, mB, mC])
      ((with_reducible refine wpX_fn (fun W hW => c_N1 W) ?_ rfl ?_ ?_ ?_); (focus rfl); (focus kernel_rfl); (focus rfl); (try simp only [Act.put, mA, mB, mC]))
      (refine wpX_val (v := ?_) (by rfl) (fun W hW => ?_) ?_; rotate_left 1; (focus (go_simp; first | done | with_reducible rfl)); (try simp only [Act.put, mA, mB, mC]))
      refine wpX_loads (sub := arrK .i64 16 (l16 X2)) (j := 0) (by rfl) rfl rfl (blk_rd k_t3) p3c0 (by kernel_rfl) (by kernel_rfl) ?_
      (try simp only [Act.put, mA, mB, mC])
      (refine wpX_val (v := ?_) (by rfl) (fun W hW => ?_) ?_; rotate_left 1; (focus (go_simp; first | done | with_reducible rfl)); (try simp only [Act.put, mA, mB, mC]))
      refine wpX_loads (sub := arrK .i64 16 (l16 Z1)) (j := 32) (by rfl) rfl rfl (blk_rd k_t2) p3c2 (by kernel_rfl) (by kernel_rfl) ?_
      (try simp only [Act.put, mA, mB, mC])
      ((with_reducible refine wpX_fn (fun W hW => c_N2 W) ?_ rfl ?_ ?_ ?_); (focus rfl); (focus kernel_rfl); (focus rfl); (try simp only [Act.put, mA, mB, mC]))
      rw [decide_eq_true hx] at e_N1_N2
      refine wpX_eqlA (e_N1_N2) (by kernel_rfl) (by rfl) rfl rfl rfl ?_
      (try simp only [Act.put, mA, mB, mC])
      (refine wpX_val (v := ?_) (by rfl) (fun W hW => ?_) ?_; rotate_left 1; (focus (go_simp; first | done | with_reducible rfl)); (try simp only [Act.put, mA, mB, mC]))
      (refine wpX_val (v := ?_) (by rfl) (fun W hW => ?_) ?_; rotate_left 1; (focus (go_simp; first | done | with_reducible rfl)); (try simp only [Act.put, mA, mB, mC]))
      refine wpX_loads (sub := arrK .i64 16 (l16 Y1)) (j := 16) (by rfl) rfl rfl (blk_rd k_t2) p3c1 (by kernel_rfl) (by kernel_rfl) ?_
      (try simp only [Act.put, mA, mB, mC])
      (refine wpX_val (v := ?_) (by rfl) (fun W hW => ?_) ?_; rotate_left 1; (focus (go_simp; first | done | with_reducible rfl)); (try simp only [Act.put, mA, mB, mC]))
      refine wpX_loads (sub := arrK .i64 16 (l16 Z2)) (j := 32) (by rfl) rfl rfl (blk_rd k_t3) p3c2 (by kernel_rfl) (by kernel_rfl) ?_
      (try simp only [Act.put, mA, mB, mC])
      ((with_reducible refine wpX_fn (fun W hW => c_N3 W) ?_ rfl ?_ ?_ ?_); (focus rfl); (focus kernel_rfl); (focus rfl); (try simp only [Act.put, mA, mB, mC]))
      (refine wpX_val (v := ?_) (by rfl) (fun W hW => ?_) ?_; rotate_left 1; (focus (go_simp; first | done | with_reducible rfl)); (try simp only [Act.put, mA, mB, mC]))
      refine wpX_loads (sub := arrK .i64 16 (l16 Y2)) (j := 16) (by rfl) rfl rfl (blk_rd k_t3) p3c1 (by kernel_rfl) (by kernel_rfl) ?_
      (try simp only [Act.put, mA, mB, mC])
      (refine wpX_val (v := ?_) (by rfl) (fun W hW => ?_) ?_; rotate_left 1; (focus (go_simp; first | done | with_reducible rfl)); (try simp only [Act.put, mA, mB, mC]))
      refine wpX_loads (sub := arrK .i64 16 (l16 Z1)) (j := 32) (by rfl) rfl rfl (blk_rd k_t2) p3c2 (by kernel_rfl) (by kernel_rfl) ?_
      (try simp only [Act.put, mA, mB, mC])
      ((with_reducible refine wpX_fn (fun W hW => c_N4 W) ?_ rfl ?_ ?_ ?_); (focus rfl); (focus kernel_rfl); (focus rfl); (try simp only [Act.put, mA, mB, mC]))
      rw [decide_eq_true hy] at e_N3_N4
      refine wpX_eqlA (e_N3_N4) (by kernel_rfl) (by rfl) rfl rfl rfl ?_
      (try simp only [Act.put, mA, mB, mC])
      (refine wpX_val (v := ?_) (by rfl) (fun W hW => ?_) ?_; rotate_left 1; (focus (go_simp; first | done | with_reducible rfl)); (try simp only [Act.put, mA, mB, mC]))
      (refine wpX_val (v := ?_) (by rfl) (fun W hW => ?_) ?_; rotate_left 1; (focus (go_simp; first | done | with_reducible rfl)); (try simp only [Act.put, mA, mB, mC]))
      refine wpX_nil ?_
      intro β W3 hE hN hD
      clear hN hD
      simp only [putAll, Act.put, mA, mB, mC, List.drop_succ_cons, List.drop_zero, List.drop_nil, List.length_cons, List.length_nil, Nat.add_zero]
      have hO := off_ext hE
      replace k_t2 := blk_off k_t2 hO nm0
      replace k_t3 := blk_off k_t3 hO nm0
      replace off0 := off0.step hO i0
      replace sz := off0.size
      clear hO hE β
      refine wpL_nil ?_
      first | with_reducible refine NoPanic.normal (Q := Exit.then _ _) ?_ | with_reducible refine NoPanic.normal ?_
      go_wp2
      rw [same_t h1 h2 HN1.out HN2.out HN3.out HN4.out hx hy]
      exact bodyPost_ret (v := .bool true) (by simp only [results, Tryd.results24]; go_simp) rfl ⟨rfl, off0.ext⟩
    · have _f := hy
      clear _f
      go_upto_region 1 with fail
      refine wp_region_xn 25 [] (by kernel_rfl) (fun x hx => by cases hx) (by kernel_rfl) ?_
      simp only [List.take_succ_cons, List.take_zero, List.take_nil]
      (try simp only [Act.put, mA, mB, mC])
      (refine wpX_val (v := ?_) (by rfl) (fun W hW => ?_) ?_; rotate_left 1; (focus (go_simp; first | done | with_reducible rfl)); (try simp only [Act.put, mA, mB, mC]))
      refine wpX_loads (sub := arrK .i64 16 (l16 X1)) (j := 0) (by rfl) rfl rfl (blk_rd k_t2) p3c0 (by kernel_rfl) (by kernel_rfl) ?_
      (try simp only [Act.put, mA, mB, mC])
      (refine wpX_val (v := ?_) (by rfl) (fun W hW => ?_) ?_; rotate_left 1; (focus (go_simp; first | done | with_reducible rfl)); (try simp only [Act.put, mA, mB, mC]))
      refine wpX_loads (sub := arrK .i64 16 (l16 Z2)) (j := 32) (by rfl) rfl rfl (blk_rd k_t3) p3c2 (by kernel_rfl) (by kernel_rfl) ?_
      (try simp only [Act.put, mA, mB, mC])
      ((with_reducible refine wpX_fn (fun W hW => c_N1 W) ?_ rfl ?_ ?_ ?_); (focus rfl); (focus kernel_rfl); (focus rfl); (try simp only [Act.put, mA, mB, mC]))
      (refine wpX_val (v := ?_) (by rfl) (fun W hW => ?_) ?_; rotate_left 1; (focus (go_simp; first | done | with_reducible rfl)); (try simp only [Act.put, mA, mB, mC]))
      refine wpX_loads (sub := arrK .i64 16 (l16 X2)) (j := 0) (by rfl) rfl rfl (blk_rd k_t3) p3c0 (by kernel_rfl) (by kernel_rfl) ?_
      (try simp only [Act.put, mA, mB, mC])
      (refine wpX_val (v := ?_) (by rfl) (fun W hW => ?_) ?_; rotate_left 1; (focus (go_simp; first | done | with_reducible rfl)); (try simp only [Act.put, mA, mB, mC]))
      refine wpX_loads (sub := arrK .i64 16 (l16 Z1)) (j := 32) (by rfl) rfl rfl (blk_rd k_t2) p3c2 (by kernel_rfl) (by kernel_rfl) ?_
      (try simp only [Act.put, mA, mB, mC])
      ((with_reducible refine wpX_fn (fun W hW => c_N2 W) ?_ rfl ?_ ?_ ?_); (focus rfl); (focus kernel_rfl); (focus rfl); (try simp only [Act.put, mA, mB, mC]))
      rw [decide_eq_true hx] at e_N1_N2
      refine wpX_eqlA (e_N1_N2) (by kernel_rfl) (by rfl) rfl rfl rfl ?_
      (try simp only [Act.put, mA, mB, mC])
      (refine wpX_val (v := ?_) (by rfl) (fun W hW => ?_) ?_; rotate_left 1; (focus (go_simp; first | done | with_reducible rfl)); (try simp only [Act.put, mA, mB, mC]))
      (refine wpX_val (v := ?_) (by rfl) (fun W hW => ?_) ?_; rotate_left 1; (focus (go_simp; first | done | with_reducible rfl)); (try simp only [Act.put, mA, mB, mC]))
      refine wpX_loads (sub := arrK .i64 16 (l16 Y1)) (j := 16) (by rfl) rfl rfl (blk_rd k_t2) p3c1 (by kernel_rfl) (by kernel_rfl) ?_
      (try simp only [Act.put, mA, mB, mC])
      (refine wpX_val (v := ?_) (by rfl) (fun W hW => ?_) ?_; rotate_left 1; (focus (go_simp; first | done | with_reducible rfl)); (try simp only [Act.put, mA, mB, mC]))
      refine wpX_loads (sub := arrK .i64 16 (l16 Z2)) (j := 32) (by rfl) rfl rfl (blk_rd k_t3) p3c2 (by kernel_rfl) (by kernel_rfl) ?_
      (try simp only [Act.put, mA, mB, mC])
      ((with_reducible refine wpX_fn (fun W hW => c_N3 W) ?_ rfl ?_ ?_ ?_); (focus rfl); (focus kernel_rfl); (focus rfl); (try simp only [Act.put, mA, mB, mC]))
      (refine wpX_val (v := ?_) (by rfl) (fun W hW => ?_) ?_; rotate_left 1; (focus (go_simp; first | done | with_reducible rfl)); (try simp only [Act.put, mA, mB, mC]))
      refine wpX_loads (sub := arrK .i64 16 (l16 Y2)) (j := 16) (by rfl) rfl rfl (blk_rd k_t3) p3c1 (by kernel_rfl) (by kernel_rfl) ?_
      (try simp only [Act.put, mA, mB, mC])
      (refine wpX_val (v := ?_) (by rfl) (fun W hW => ?_) ?_; rotate_left 1; (focus (go_simp; first | done | with_reducible rfl)); (try simp only [Act.put, mA, mB, mC]))
      refine wpX_loads (sub := arrK .i64 16 (l16 Z1)) (j := 32) (by rfl) rfl rfl (blk_rd k_t2) p3c2 (by kernel_rfl) (by kernel_rfl) ?_
      (try simp only [Act.put, mA, mB, mC])
      ((with_reducible refine wpX_fn (fun W hW => c_N4 W) ?_ rfl ?_ ?_ ?_); (focus rfl); (focus kernel_rfl); (focus rfl); (try simp only [Act.put, mA, mB, mC]))
      rw [decide_eq_false hy] at e_N3_N4
      refine wpX_eqlA (e_N3_N4) (by kernel_rfl) (by rfl) rfl rfl rfl ?_
      (try simp only [Act.put, mA, mB, mC])
      (refine wpX_val (v := ?_) (by rfl) (fun W hW => ?_) ?_; rotate_left 1; (focus (go_simp; first | done | with_reducible rfl)); (try simp only [Act.put, mA, mB, mC]))
      (refine wpX_val (v := ?_) (by rfl) (fun W hW => ?_) ?_; rotate_left 1; (focus (go_simp; first | done | with_reducible rfl)); (try simp only [Act.put, mA, mB, mC]))
      refine wpX_nil ?_
      intro β W3 hE hN hD
      clear hN hD
      simp only [putAll, Act.put, mA, mB, mC, List.drop_succ_cons, List.drop_zero, List.drop_nil, List.length_cons, List.length_nil, Nat.add_zero]
      have hO := off_ext hE
      replace k_t2 := blk_off k_t2 hO nm0
      replace k_t3 := blk_off k_t3 hO nm0
      replace off0 := off0.step hO i0
      replace sz := off0.size
      clear hO hE β
      refine wpL_nil ?_
      first | with_reducible refine NoPanic.normal (Q := Exit.then _ _) ?_ | with_reducible refine NoPanic.normal ?_
      go_wp2
      rw [same_f2 h1 h2 HN1.out HN2.out HN3.out HN4.out hy]
      exact bodyPost_ret (v := .bool false) (by simp only [results, Tryd.results24]; go_simp) rfl ⟨rfl, off0.ext⟩
  · have _f := hx
    clear _f
    go_upto_region 1 with fail
    refine wp_region_xn 25 [] (by kernel_rfl) (fun x hx => by cases hx) (by kernel_rfl) ?_
    simp only [List.take_succ_cons, List.take_zero, List.take_nil]
    (try simp only [Act.put, mA, mB, mC])
    (refine wpX_val (v := ?_) (by rfl) (fun W hW => ?_) ?_; rotate_left 1; (focus (go_simp; first | done | with_reducible rfl)); (try simp only [Act.put, mA, mB, mC]))
    refine wpX_loads (sub := arrK .i64 16 (l16 X1)) (j := 0) (by rfl) rfl rfl (blk_rd k_t2) p3c0 (by kernel_rfl) (by kernel_rfl) ?_
    (try simp only [Act.put, mA, mB, mC])
    (refine wpX_val (v := ?_) (by rfl) (fun W hW => ?_) ?_; rotate_left 1; (focus (go_simp; first | done | with_reducible rfl)); (try simp only [Act.put, mA, mB, mC]))
    refine wpX_loads (sub := arrK .i64 16 (l16 Z2)) (j := 32) (by rfl) rfl rfl (blk_rd k_t3) p3c2 (by kernel_rfl) (by kernel_rfl) ?_
    (try simp only [Act.put, mA, mB, mC])
    ((with_reducible refine wpX_fn (fun W hW => c_N1 W) ?_ rfl ?_ ?_ ?_); (focus rfl); (focus kernel_rfl); (focus rfl); (try simp only [Act.put, mA, mB, mC]))
    (refine wpX_val (v := ?_) (by rfl) (fun W hW => ?_) ?_; rotate_left 1; (focus (go_simp; first | done | with_reducible rfl)); (try simp only [Act.put, mA, mB, mC]))
    refine wpX_loads (sub := arrK .i64 16 (l16 X2)) (j := 0) (by rfl) rfl rfl (blk_rd k_t3) p3c0 (by kernel_rfl) (by kernel_rfl) ?_
    (try simp only [Act.put, mA, mB, mC])
    (refine wpX_val (v := ?_) (by rfl) (fun W hW => ?_) ?_; rotate_left 1; (focus (go_simp; first | done | with_reducible rfl)); (try simp only [Act.put, mA, mB, mC]))
    refine wpX_loads (sub := arrK .i64 16 (l16 Z1)) (j := 32) (by rfl) rfl rfl (blk_rd k_t2) p3c2 (by kernel_rfl) (by kernel_rfl) ?_
    (try simp only [Act.put, mA, mB, mC])
    ((with_reducible refine wpX_fn (fun W hW => c_N2 W) ?_ rfl ?_ ?_ ?_); (focus rfl); (focus kernel_rfl); (focus rfl); (try simp only [Act.put, mA, mB, mC]))
    rw [decide_eq_false hx] at e_N1_N2
    refine wpX_eqlA (e_N1_N2) (by kernel_rfl) (by rfl) rfl rfl rfl ?_
    (try simp only [Act.put, mA, mB, mC])
    (refine wpX_val (v := ?_) (by rfl) (fun W hW => ?_) ?_; rotate_left 1; (focus (go_simp; first | done | with_reducible rfl)); (try simp only [Act.put, mA, mB, mC]))
    (refine wpX_skip (by rfl) ?_; (try simp only [Act.put, mA, mB, mC]))
    (refine wpX_skip (by rfl) ?_; (try simp only [Act.put, mA, mB, mC]))
    (refine wpX_skip (by rfl) ?_; (try simp only [Act.put, mA, mB, mC]))
    (refine wpX_skip (by rfl) ?_; (try simp only [Act.put, mA, mB, mC]))
    (refine wpX_skip (by rfl) ?_; (try simp only [Act.put, mA, mB, mC]))
    (refine wpX_skip (by rfl) ?_; (try simp only [Act.put, mA, mB, mC]))
    (refine wpX_skip (by rfl) ?_; (try simp only [Act.put, mA, mB, mC]))
    (refine wpX_skip (by rfl) ?_; (try simp only [Act.put, mA, mB, mC]))
    (refine wpX_skip (by rfl) ?_; (try simp only [Act.put, mA, mB, mC]))
    (refine wpX_skip (by rfl) ?_; (try simp only [Act.put, mA, mB, mC]))
    (refine wpX_skip (by rfl) ?_; (try simp only [Act.put, mA, mB, mC]))
    (refine wpX_val (v := ?_) (by rfl) (fun W hW => ?_) ?_; rotate_left 1; (focus (go_simp; first | done | with_reducible rfl)); (try simp only [Act.put, mA, mB, mC]))
    (refine wpX_val (v := ?_) (by rfl) (fun W hW => ?_) ?_; rotate_left 1; (focus (go_simp; first | done | with_reducible rfl)); (try simp only [Act.put, mA, mB, mC]))
    refine wpX_nil ?_
    intro β W3 hE hN hD
    clear hN hD
    simp only [putAll, Act.put, mA, mB, mC, List.drop_succ_cons, List.drop_zero, List.drop_nil, List.length_cons, List.length_nil, Nat.add_zero]
    have hO := off_ext hE
    replace k_t2 := blk_off k_t2 hO nm0
    replace k_t3 := blk_off k_t3 hO nm0
    replace off0 := off0.step hO i0
    replace sz := off0.size
    clear hO hE β
    refine wpL_nil ?_
    first | with_reducible refine NoPanic.normal (Q := Exit.then _ _) ?_ | with_reducible refine NoPanic.normal ?_
    go_wp2
    rw [same_f1 h1 h2 HN1.out HN2.out HN3.out HN4.out hx]
    exact bodyPost_ret (v := .bool false) (by simp only [results, Tryd.results24]; go_simp) rfl ⟨rfl, off0.ext⟩
end Go.Proofs.YtghajiagbfcmdaaDoor
