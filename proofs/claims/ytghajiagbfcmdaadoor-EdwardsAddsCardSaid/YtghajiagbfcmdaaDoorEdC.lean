/- edwards: one, of, whole, twice, Add, Neg, Eight, Base. Conditions: the cells of the variables hold the curve's numbers. -/
import Derived.Test.YtghajiagbfcmdaaDoorPt
namespace Go.Proofs.YtghajiagbfcmdaaDoor
set_option linter.unusedSimpArgs false
set_option linter.unusedVariables false
open Go.RowKit
attribute [local irreducible] wpList
variable {kn : Kn}

set_option maxRecDepth 100000 in
set_option maxHeartbeats 1500000 in
theorem eOne_c (w : World) :
    Calls Tryd.prog 36 #[] w fun e w' => Ret (L4 1) w w' e := by
  have off0 : Off [] w w := Off.refl _ _
  have sz := off0.size
  go_enter Tryd.func36, Tryd.ntmps36
  go_upto_region 0 with fail
  refine wp_region_lit ?_
  refine wpL_new (z := c4 0) (t := 26) (by rfl) (by first | kernel_rfl | (go_simp; done) | (go_simp; rfl)) ?_
  (try simp only [Act.put, mA, mB, mC])
  intro p0_1 W1 n_t0 hO h_
  have fb_t0 : Fb p0_1 w.heap.size [] := fb_new (Nat.le_trans sz n_t0)
  replace off0 := off0.step hO i0
  replace sz := off0.size
  have k_t0 := h_
  clear hO h_ n_t0
  refine wpL_nil ?_
  go_upto_region 1 with fail
  refine wp_region_lit ?_
  refine wpL_ret (small_c 1 (by decide) W1) (by rfl) rfl (by kernel_rfl) rfl ?_
  (try simp only [Act.put, mA, mB, mC])
  intro W2 hO
  replace k_t0 := blk_off k_t0 hO nm0
  replace off0 := off0.step hO i0
  replace sz := off0.size
  clear hO
  refine wpL_putrow (cells := c4 1) (by rfl) rfl rfl rfl k_t0 (by kernel_rfl) (by kernel_rfl) (by kernel_rfl) ?_
  (try simp only [Act.put, mA, mB, mC])
  intro W3 hO h_
  replace k_t0 : Blk W3 p0_1 (c4 1) 26 := h_
  clear h_
  replace off0 := off0.step hO (i1 fb_t0)
  replace sz := off0.size
  clear hO
  refine wpL_nil ?_
  go_wp2
  exact bodyPost_ret (res_row rfl rfl k_t0 (by kernel_rfl) (by kernel_rfl)) rfl ⟨rfl, off0.ext⟩
set_option maxRecDepth 100000 in
set_option maxHeartbeats 1500000 in
theorem eOf_c {X Y : Nat} (hX : X < PP) (hY : Y < PP) (on : OnC (fp X, fp Y)) :
    ∃ T, RN X Y 1 T (fp X, fp Y) ∧ ∀ w, GE kn w → Calls Tryd.prog 25 #[L4 X, L4 Y] w fun e w' => Ret (.agg (p4 X Y 1 T)) w w' e := by
  have c_N1 := fMul_c X Y (lt_pp hX) (lt_pp hY)
  obtain ⟨N1, hN1⟩ : ∃ v_, v_ = X * Y % PP := ⟨_, rfl⟩
  rw [← hN1] at c_N1
  have lN1 : N1 < PP := by rw [hN1]; exact mod_pp _
  have bN1 := lt_pp lN1
  have HN1 := Lib.hid hN1
  clear hN1
  refine ⟨N1, rn_of hX hY on HN1.out, fun w hG => ?_⟩
  have off0 : Off [] w w := Off.refl _ _
  have sz := off0.size
  go_enter Tryd.func25, Tryd.ntmps25
  go_upto_region 0 with fail
  refine wp_region_lit ?_
  refine wpL_new (z := c4 X) (t := 26) (by rfl) (by first | kernel_rfl | (go_simp; done) | (go_simp; rfl)) ?_
  (try simp only [Act.put, mA, mB, mC])
  intro p2_1 W1 n_t2 hO h_
  have fb_t2 : Fb p2_1 w.heap.size [] := fb_new (Nat.le_trans sz n_t2)
  replace off0 := off0.step hO i0
  replace sz := off0.size
  have k_t2 := h_
  clear hO h_ n_t2
  refine wpL_new (z := c4 Y) (t := 26) (by rfl) (by first | kernel_rfl | (go_simp; done) | (go_simp; rfl)) ?_
  (try simp only [Act.put, mA, mB, mC])
  intro p3_2 W2 n_t3 hO h_
  have nq_t2_t3 : p2_1 ≠ p3_2 := Nat.ne_of_lt (Nat.lt_of_lt_of_le (blk_lt k_t2) n_t3)
  have fb_t3 : Fb p3_2 w.heap.size [] := fb_new (Nat.le_trans sz n_t3)
  replace k_t2 := blk_off k_t2 hO nm0
  replace off0 := off0.step hO i0
  replace sz := off0.size
  have k_t3 := h_
  clear hO h_ n_t3
  refine wpL_new (z := p4 0 0 0 0) (t := 28) (by rfl) (by first | kernel_rfl | (go_simp; done) | (go_simp; rfl)) ?_
  (try simp only [Act.put, mA, mB, mC])
  intro p4_3 W3 n_t4 hO h_
  have nq_t2_t4 : p2_1 ≠ p4_3 := Nat.ne_of_lt (Nat.lt_of_lt_of_le (blk_lt k_t2) n_t4)
  have nq_t3_t4 : p3_2 ≠ p4_3 := Nat.ne_of_lt (Nat.lt_of_lt_of_le (blk_lt k_t3) n_t4)
  have fb_t4 : Fb p4_3 w.heap.size [] := fb_new (Nat.le_trans sz n_t4)
  replace k_t2 := blk_off k_t2 hO nm0
  replace k_t3 := blk_off k_t3 hO nm0
  replace off0 := off0.step hO i0
  replace sz := off0.size
  have k_t4 := h_
  clear hO h_ n_t4
  refine wpL_nil ?_
  go_upto_region 1 with fail
  refine wp_region_xn 7 [] (by kernel_rfl) (fun x hx => by cases hx) (by kernel_rfl) ?_
  simp only [List.take_succ_cons, List.take_zero, List.take_nil]
  (try simp only [Act.put, mA, mB, mC])
  refine wpX_load (by rfl) rfl rfl (blk_rd k_t2) (by kernel_rfl) (by kernel_rfl) ?_
  (try simp only [Act.put, mA, mB, mC])
  refine wpX_load (by rfl) rfl rfl (blk_rd k_t3) (by kernel_rfl) (by kernel_rfl) ?_
  (try simp only [Act.put, mA, mB, mC])
  ((with_reducible refine wpX_fn (fun W hW => eOne_c W) ?_ rfl ?_ ?_ ?_); (focus rfl); (focus kernel_rfl); (focus rfl); (try simp only [Act.put, mA, mB, mC]))
  refine wpX_load (by rfl) rfl rfl (blk_rd k_t2) (by kernel_rfl) (by kernel_rfl) ?_
  (try simp only [Act.put, mA, mB, mC])
  refine wpX_load (by rfl) rfl rfl (blk_rd k_t3) (by kernel_rfl) (by kernel_rfl) ?_
  (try simp only [Act.put, mA, mB, mC])
  ((with_reducible refine wpX_fn (fun W hW => c_N1 W (GE_ext (GE_ext hG off0.ext) hW).1) ?_ rfl ?_ ?_ ?_); (focus rfl); (focus kernel_rfl); (focus rfl); (try simp only [Act.put, mA, mB, mC]))
  refine wpX_val (v := .agg (p4 X Y 1 N1)) (by rfl) (fun _ _ => by kernel_rfl) ?_
  (try simp only [Act.put, mA, mB, mC])
  refine wpX_nil ?_
  intro β W4 hE hN hD
  clear hN hD
  simp only [putAll, Act.put, mA, mB, mC, List.drop_succ_cons, List.drop_zero, List.drop_nil, List.length_cons, List.length_nil, Nat.add_zero]
  have hO := off_ext hE
  replace k_t2 := blk_off k_t2 hO nm0
  replace k_t3 := blk_off k_t3 hO nm0
  replace k_t4 := blk_off k_t4 hO nm0
  replace off0 := off0.step hO i0
  replace sz := off0.size
  clear hO hE β
  refine wpL_putrow (cells := p4 X Y 1 N1) (by rfl) rfl rfl rfl k_t4 (by kernel_rfl) (by kernel_rfl) (by kernel_rfl) ?_
  (try simp only [Act.put, mA, mB, mC])
  intro W5 hO h_
  replace k_t4 : Blk W5 p4_3 (p4 X Y 1 N1) 28 := h_
  clear h_
  replace k_t2 := blk_off k_t2 hO (nm1 nq_t2_t4)
  replace k_t3 := blk_off k_t3 hO (nm1 nq_t3_t4)
  replace off0 := off0.step hO (i1 fb_t4)
  replace sz := off0.size
  clear hO
  refine wpL_nil ?_
  first | with_reducible refine NoPanic.normal (Q := Exit.then _ _) ?_ | with_reducible refine NoPanic.normal ?_
  go_wp2
  exact bodyPost_ret (res_row rfl rfl k_t4 (by kernel_rfl) (by kernel_rfl)) rfl ⟨rfl, off0.ext⟩
set_option maxRecDepth 100000 in
set_option maxHeartbeats 1500000 in
theorem eWhole_1 {X1 Y1 Z1 T1 : Nat} (hb : Z1 < P256) (hz : Z1 ≠ 0) (w : World) (hG : GE kn w) :
    Calls Tryd.prog 26 #[.agg (p4 X1 Y1 Z1 T1)] w fun e w' => Ret (.agg (p4 X1 Y1 Z1 T1)) w w' e := by
  have off0 : Off [] w w := Off.refl _ _
  have sz := off0.size
  go_enter Tryd.func26, Tryd.ntmps26
  go_upto_region 0 with fail
  refine wp_region_lit ?_
  refine wpL_new (z := p4 X1 Y1 Z1 T1) (t := 28) (by rfl) (by first | kernel_rfl | (go_simp; done) | (go_simp; rfl)) ?_
  (try simp only [Act.put, mA, mB, mC])
  intro p1_1 W1 n_t1 hO h_
  have fb_t1 : Fb p1_1 w.heap.size [] := fb_new (Nat.le_trans sz n_t1)
  replace off0 := off0.step hO i0
  replace sz := off0.size
  have k_t1 := h_
  clear hO h_ n_t1
  refine wpL_new (z := p4 0 0 0 0) (t := 28) (by rfl) (by first | kernel_rfl | (go_simp; done) | (go_simp; rfl)) ?_
  (try simp only [Act.put, mA, mB, mC])
  intro p2_2 W2 n_t2 hO h_
  have nq_t1_t2 : p1_1 ≠ p2_2 := Nat.ne_of_lt (Nat.lt_of_lt_of_le (blk_lt k_t1) n_t2)
  have fb_t2 : Fb p2_2 w.heap.size [] := fb_new (Nat.le_trans sz n_t2)
  replace k_t1 := blk_off k_t1 hO nm0
  replace off0 := off0.step hO i0
  replace sz := off0.size
  have k_t2 := h_
  clear hO h_ n_t2
  refine wpL_nil ?_
  go_upto_region 1 with fail
  refine wp_region_lit ?_
  (refine wpL_val (v := ?_) (by rfl) ?_ ?_; rotate_left 1; (focus (go_simp; first | done | with_reducible rfl)))
  (try simp only [Act.put, mA, mB, mC])
  refine wpL_gets (vs := (c4 Z1).toList) (by rfl) rfl rfl k_t1 (subL p4c2) (by kernel_rfl) (by kernel_rfl) ?_
  (try simp only [Act.put, mA, mB, mC])
  refine wpL_val (v := .agg (c4 0)) (by rfl) (by kernel_rfl) ?_
  (try simp only [Act.put, mA, mB, mC])
  have e_1 := eqEl Z1 0 hb (by decide)
  rw [decide_eq_false hz] at e_1
  refine wpL_eqlA (e_1) (by kernel_rfl) (by rfl) rfl rfl rfl ?_
  (try simp only [Act.put, mA, mB, mC])
  refine wpL_nil ?_
  go_upto_region 3 with fail
  refine wp_region_lit ?_
  refine wpL_load0 (by rfl) rfl rfl k_t1 (by kernel_rfl) (by kernel_rfl) ?_
  (try simp only [Act.put, mA, mB, mC])
  refine wpL_putrow (cells := p4 X1 Y1 Z1 T1) (by rfl) rfl rfl rfl k_t2 (by kernel_rfl) (by kernel_rfl) (by kernel_rfl) ?_
  (try simp only [Act.put, mA, mB, mC])
  intro W3 hO h_
  replace k_t2 : Blk W3 p2_2 (p4 X1 Y1 Z1 T1) 28 := h_
  clear h_
  replace k_t1 := blk_off k_t1 hO (nm1 nq_t1_t2)
  replace off0 := off0.step hO (i1 fb_t2)
  replace sz := off0.size
  clear hO
  refine wpL_nil ?_
  go_wp2
  exact bodyPost_ret (res_row rfl rfl k_t2 (by kernel_rfl) (by kernel_rfl)) rfl ⟨rfl, off0.ext⟩
set_option maxRecDepth 100000 in
set_option maxHeartbeats 1500000 in
theorem eWhole_0 {X1 Y1 T1 : Nat} (w : World) (hG : GE kn w) :
    Calls Tryd.prog 26 #[.agg (p4 X1 Y1 0 T1)] w fun e w' => Ret (.agg (p4 0 1 1 0)) w w' e := by
  have off0 : Off [] w w := Off.refl _ _
  have sz := off0.size
  go_enter Tryd.func26, Tryd.ntmps26
  go_upto_region 0 with fail
  refine wp_region_lit ?_
  refine wpL_new (z := p4 X1 Y1 0 T1) (t := 28) (by rfl) (by first | kernel_rfl | (go_simp; done) | (go_simp; rfl)) ?_
  (try simp only [Act.put, mA, mB, mC])
  intro p1_1 W1 n_t1 hO h_
  have fb_t1 : Fb p1_1 w.heap.size [] := fb_new (Nat.le_trans sz n_t1)
  replace off0 := off0.step hO i0
  replace sz := off0.size
  have k_t1 := h_
  clear hO h_ n_t1
  refine wpL_new (z := p4 0 0 0 0) (t := 28) (by rfl) (by first | kernel_rfl | (go_simp; done) | (go_simp; rfl)) ?_
  (try simp only [Act.put, mA, mB, mC])
  intro p2_2 W2 n_t2 hO h_
  have nq_t1_t2 : p1_1 ≠ p2_2 := Nat.ne_of_lt (Nat.lt_of_lt_of_le (blk_lt k_t1) n_t2)
  have fb_t2 : Fb p2_2 w.heap.size [] := fb_new (Nat.le_trans sz n_t2)
  replace k_t1 := blk_off k_t1 hO nm0
  replace off0 := off0.step hO i0
  replace sz := off0.size
  have k_t2 := h_
  clear hO h_ n_t2
  refine wpL_nil ?_
  go_upto_region 1 with fail
  refine wp_region_lit ?_
  (refine wpL_val (v := ?_) (by rfl) ?_ ?_; rotate_left 1; (focus (go_simp; first | done | with_reducible rfl)))
  (try simp only [Act.put, mA, mB, mC])
  refine wpL_gets (vs := (c4 0).toList) (by rfl) rfl rfl k_t1 (subL p4c2) (by kernel_rfl) (by kernel_rfl) ?_
  (try simp only [Act.put, mA, mB, mC])
  refine wpL_val (v := .agg (c4 0)) (by rfl) (by kernel_rfl) ?_
  (try simp only [Act.put, mA, mB, mC])
  have e_1 := eqEl 0 0 (by decide) (by decide)
  rw [decide_eq_true rfl] at e_1
  refine wpL_eqlA (e_1) (by kernel_rfl) (by rfl) rfl rfl rfl ?_
  (try simp only [Act.put, mA, mB, mC])
  refine wpL_nil ?_
  go_upto_region 2 with fail
  refine wp_region_lit ?_
  refine wpL_ret (eOne_c W2) (by rfl) rfl (by kernel_rfl) rfl ?_
  (try simp only [Act.put, mA, mB, mC])
  intro W3 hO
  replace k_t1 := blk_off k_t1 hO nm0
  replace k_t2 := blk_off k_t2 hO nm0
  replace off0 := off0.step hO i0
  replace sz := off0.size
  clear hO
  refine wpL_ret (eOne_c W3) (by rfl) rfl (by kernel_rfl) rfl ?_
  (try simp only [Act.put, mA, mB, mC])
  intro W4 hO
  replace k_t1 := blk_off k_t1 hO nm0
  replace k_t2 := blk_off k_t2 hO nm0
  replace off0 := off0.step hO i0
  replace sz := off0.size
  clear hO
  refine wpL_val (v := .agg (p4 0 1 1 0)) (by rfl) (by kernel_rfl) ?_
  (try simp only [Act.put, mA, mB, mC])
  refine wpL_putrow (cells := p4 0 1 1 0) (by rfl) rfl rfl rfl k_t2 (by kernel_rfl) (by kernel_rfl) (by kernel_rfl) ?_
  (try simp only [Act.put, mA, mB, mC])
  intro W5 hO h_
  replace k_t2 : Blk W5 p2_2 (p4 0 1 1 0) 28 := h_
  clear h_
  replace k_t1 := blk_off k_t1 hO (nm1 nq_t1_t2)
  replace off0 := off0.step hO (i1 fb_t2)
  replace sz := off0.size
  clear hO
  refine wpL_nil ?_
  go_wp2
  exact bodyPost_ret (res_row rfl rfl k_t2 (by kernel_rfl) (by kernel_rfl)) rfl ⟨rfl, off0.ext⟩
theorem eWhole_c {X Y Z T : Nat} {a : Pr} (h : RW X Y Z T a) : ∃ X' Y' Z' T', RN X' Y' Z' T' a ∧ ∀ w, GE kn w → Calls Tryd.prog 26 #[.agg (p4 X Y Z T)] w fun e w' => Ret (.agg (p4 X' Y' Z' T')) w w' e := by
  rcases h.cases with ⟨hz, h1⟩ | ⟨rfl, rfl⟩
  · exact ⟨X, Y, Z, T, h1, fun w hG => eWhole_1 h.z hz w hG⟩
  · exact ⟨0, 1, 1, 0, rn_p0, fun w hG => eWhole_0 w hG⟩
set_option maxRecDepth 100000 in
set_option maxHeartbeats 1500000 in
theorem eTwice_c {X1 Y1 Z1 T1 : Nat} {p1 : Pr} (h1 : RN X1 Y1 Z1 T1 p1) :
    ∃ X Y Z T, RN X Y Z T (padd p1 p1) ∧ ∀ w, GE kn w → Calls Tryd.prog 27 #[.agg (p4 X1 Y1 Z1 T1)] w fun e w' => Ret (.agg (p4 X Y Z T)) w w' e := by
  have c_N1 := fMul_c X1 X1 (lt_pp h1.x) (lt_pp h1.x)
  obtain ⟨N1, hN1⟩ : ∃ v_, v_ = X1 * X1 % PP := ⟨_, rfl⟩
  rw [← hN1] at c_N1
  have lN1 : N1 < PP := by rw [hN1]; exact mod_pp _
  have bN1 := lt_pp lN1
  have HN1 := Lib.hid hN1
  clear hN1
  have c_N2 := fMul_c Y1 Y1 (lt_pp h1.y) (lt_pp h1.y)
  obtain ⟨N2, hN2⟩ : ∃ v_, v_ = Y1 * Y1 % PP := ⟨_, rfl⟩
  rw [← hN2] at c_N2
  have lN2 : N2 < PP := by rw [hN2]; exact mod_pp _
  have bN2 := lt_pp lN2
  have HN2 := Lib.hid hN2
  clear hN2
  have c_N3 := fMul_c Z1 Z1 (lt_pp h1.z) (lt_pp h1.z)
  obtain ⟨N3, hN3⟩ : ∃ v_, v_ = Z1 * Z1 % PP := ⟨_, rfl⟩
  rw [← hN3] at c_N3
  have lN3 : N3 < PP := by rw [hN3]; exact mod_pp _
  have bN3 := lt_pp lN3
  have HN3 := Lib.hid hN3
  clear hN3
  have c_N4 := fAdd_c N3 N3 bN3 bN3
  obtain ⟨N4, hN4⟩ : ∃ v_, v_ = (N3 + N3) % PP := ⟨_, rfl⟩
  rw [← hN4] at c_N4
  have lN4 : N4 < PP := by rw [hN4]; exact mod_pp _
  have bN4 := lt_pp lN4
  have HN4 := Lib.hid hN4
  clear hN4
  have c_N5 := fAdd_c N1 N2 bN1 bN2
  obtain ⟨N5, hN5⟩ : ∃ v_, v_ = (N1 + N2) % PP := ⟨_, rfl⟩
  rw [← hN5] at c_N5
  have lN5 : N5 < PP := by rw [hN5]; exact mod_pp _
  have bN5 := lt_pp lN5
  have HN5 := Lib.hid hN5
  clear hN5
  have c_N6 := fAdd_c X1 Y1 (lt_pp h1.x) (lt_pp h1.y)
  obtain ⟨N6, hN6⟩ : ∃ v_, v_ = (X1 + Y1) % PP := ⟨_, rfl⟩
  rw [← hN6] at c_N6
  have lN6 : N6 < PP := by rw [hN6]; exact mod_pp _
  have bN6 := lt_pp lN6
  have HN6 := Lib.hid hN6
  clear hN6
  have c_N7 := fMul_c N6 N6 bN6 bN6
  obtain ⟨N7, hN7⟩ : ∃ v_, v_ = N6 * N6 % PP := ⟨_, rfl⟩
  rw [← hN7] at c_N7
  have lN7 : N7 < PP := by rw [hN7]; exact mod_pp _
  have bN7 := lt_pp lN7
  have HN7 := Lib.hid hN7
  clear hN7
  have c_N8 := fSub_c N5 N7 bN5 bN7
  obtain ⟨N8, hN8⟩ : ∃ v_, v_ = (N5 + (PP - N7 % PP)) % PP := ⟨_, rfl⟩
  rw [← hN8] at c_N8
  have lN8 : N8 < PP := by rw [hN8]; exact mod_pp _
  have bN8 := lt_pp lN8
  have HN8 := Lib.hid hN8
  clear hN8
  have c_N9 := fSub_c N1 N2 bN1 bN2
  obtain ⟨N9, hN9⟩ : ∃ v_, v_ = (N1 + (PP - N2 % PP)) % PP := ⟨_, rfl⟩
  rw [← hN9] at c_N9
  have lN9 : N9 < PP := by rw [hN9]; exact mod_pp _
  have bN9 := lt_pp lN9
  have HN9 := Lib.hid hN9
  clear hN9
  have c_N10 := fAdd_c N4 N9 bN4 bN9
  obtain ⟨N10, hN10⟩ : ∃ v_, v_ = (N4 + N9) % PP := ⟨_, rfl⟩
  rw [← hN10] at c_N10
  have lN10 : N10 < PP := by rw [hN10]; exact mod_pp _
  have bN10 := lt_pp lN10
  have HN10 := Lib.hid hN10
  clear hN10
  have c_N11 := fMul_c N8 N10 bN8 bN10
  obtain ⟨N11, hN11⟩ : ∃ v_, v_ = N8 * N10 % PP := ⟨_, rfl⟩
  rw [← hN11] at c_N11
  have lN11 : N11 < PP := by rw [hN11]; exact mod_pp _
  have bN11 := lt_pp lN11
  have HN11 := Lib.hid hN11
  clear hN11
  have c_N12 := fMul_c N9 N5 bN9 bN5
  obtain ⟨N12, hN12⟩ : ∃ v_, v_ = N9 * N5 % PP := ⟨_, rfl⟩
  rw [← hN12] at c_N12
  have lN12 : N12 < PP := by rw [hN12]; exact mod_pp _
  have bN12 := lt_pp lN12
  have HN12 := Lib.hid hN12
  clear hN12
  have c_N13 := fMul_c N10 N9 bN10 bN9
  obtain ⟨N13, hN13⟩ : ∃ v_, v_ = N10 * N9 % PP := ⟨_, rfl⟩
  rw [← hN13] at c_N13
  have lN13 : N13 < PP := by rw [hN13]; exact mod_pp _
  have bN13 := lt_pp lN13
  have HN13 := Lib.hid hN13
  clear hN13
  have c_N14 := fMul_c N8 N5 bN8 bN5
  obtain ⟨N14, hN14⟩ : ∃ v_, v_ = N8 * N5 % PP := ⟨_, rfl⟩
  rw [← hN14] at c_N14
  have lN14 : N14 < PP := by rw [hN14]; exact mod_pp _
  have bN14 := lt_pp lN14
  have HN14 := Lib.hid hN14
  clear hN14
  refine ⟨N11, N12, N13, N14, rn_twice h1 HN1.out HN2.out HN3.out HN4.out HN5.out HN6.out HN7.out HN8.out HN9.out HN10.out HN11.out HN12.out HN13.out HN14.out, fun w hG => ?_⟩
  have off0 : Off [] w w := Off.refl _ _
  have sz := off0.size
  go_enter Tryd.func27, Tryd.ntmps27
  go_upto_region 0 with fail
  refine wp_region_lit ?_
  refine wpL_new (z := p4 X1 Y1 Z1 T1) (t := 28) (by rfl) (by first | kernel_rfl | (go_simp; done) | (go_simp; rfl)) ?_
  (try simp only [Act.put, mA, mB, mC])
  intro p1_1 W1 n_t1 hO h_
  have fb_t1 : Fb p1_1 w.heap.size [] := fb_new (Nat.le_trans sz n_t1)
  replace off0 := off0.step hO i0
  replace sz := off0.size
  have k_t1 := h_
  clear hO h_ n_t1
  refine wpL_new (z := p4 0 0 0 0) (t := 28) (by rfl) (by first | kernel_rfl | (go_simp; done) | (go_simp; rfl)) ?_
  (try simp only [Act.put, mA, mB, mC])
  intro p2_2 W2 n_t2 hO h_
  have nq_t1_t2 : p1_1 ≠ p2_2 := Nat.ne_of_lt (Nat.lt_of_lt_of_le (blk_lt k_t1) n_t2)
  have fb_t2 : Fb p2_2 w.heap.size [] := fb_new (Nat.le_trans sz n_t2)
  replace k_t1 := blk_off k_t1 hO nm0
  replace off0 := off0.step hO i0
  replace sz := off0.size
  have k_t2 := h_
  clear hO h_ n_t2
  refine wpL_nil ?_
  go_upto_region 1 with fail
  refine wp_region_xn 10 [⟨10, 3, c4 0, 26⟩, ⟨11, 4, c4 0, 26⟩] (by kernel_rfl) ?_ (by kernel_rfl) ?_
  · intro x hx
    simp only [List.mem_cons, List.not_mem_nil, or_false] at hx
    rcases hx with rfl | rfl <;> exact ⟨_, rfl, rfl, rfl, fun _ _ => by kernel_rfl⟩
  simp only [List.take_succ_cons, List.take_zero, List.take_nil]
  (try simp only [Act.put, mA, mB, mC])
  (refine wpX_val (v := ?_) (by rfl) (fun W hW => ?_) ?_; rotate_left 1; (focus (go_simp; first | done | with_reducible rfl)); (try simp only [Act.put, mA, mB, mC]))
  refine wpX_loads (sub := c4 X1) (j := 0) (by rfl) rfl rfl (blk_rd k_t1) p4c0 (by kernel_rfl) (by kernel_rfl) ?_
  (try simp only [Act.put, mA, mB, mC])
  (refine wpX_val (v := ?_) (by rfl) (fun W hW => ?_) ?_; rotate_left 1; (focus (go_simp; first | done | with_reducible rfl)); (try simp only [Act.put, mA, mB, mC]))
  refine wpX_loads (sub := c4 X1) (j := 0) (by rfl) rfl rfl (blk_rd k_t1) p4c0 (by kernel_rfl) (by kernel_rfl) ?_
  (try simp only [Act.put, mA, mB, mC])
  ((with_reducible refine wpX_fn (fun W hW => c_N1 W (GE_ext (GE_ext hG off0.ext) hW).1) ?_ rfl ?_ ?_ ?_); (focus rfl); (focus kernel_rfl); (focus rfl); (try simp only [Act.put, mA, mB, mC]))
  (refine wpX_val (v := ?_) (by rfl) (fun W hW => ?_) ?_; rotate_left 1; (focus (go_simp; first | done | with_reducible rfl)); (try simp only [Act.put, mA, mB, mC]))
  refine wpX_loads (sub := c4 Y1) (j := 4) (by rfl) rfl rfl (blk_rd k_t1) p4c1 (by kernel_rfl) (by kernel_rfl) ?_
  (try simp only [Act.put, mA, mB, mC])
  (refine wpX_val (v := ?_) (by rfl) (fun W hW => ?_) ?_; rotate_left 1; (focus (go_simp; first | done | with_reducible rfl)); (try simp only [Act.put, mA, mB, mC]))
  refine wpX_loads (sub := c4 Y1) (j := 4) (by rfl) rfl rfl (blk_rd k_t1) p4c1 (by kernel_rfl) (by kernel_rfl) ?_
  (try simp only [Act.put, mA, mB, mC])
  ((with_reducible refine wpX_fn (fun W hW => c_N2 W (GE_ext (GE_ext hG off0.ext) hW).1) ?_ rfl ?_ ?_ ?_); (focus rfl); (focus kernel_rfl); (focus rfl); (try simp only [Act.put, mA, mB, mC]))
  refine wpX_nil ?_
  intro β W3 hE hN hD
  obtain ⟨n_t3, h_t3⟩ := hN _ (List.mem_cons_self ..)
  obtain ⟨n_t4, h_t4⟩ := hN _ (List.mem_cons_of_mem _ (List.mem_cons_self ..))
  have nq_t3_t4 := (hD _ (List.mem_cons_of_mem _ (List.mem_cons_self ..)) _ (List.mem_cons_self ..) (by decide)).symm
  clear hN hD
  simp only [putAll, Act.put, mA, mB, mC, List.drop_succ_cons, List.drop_zero, List.drop_nil, List.length_cons, List.length_nil, Nat.add_zero] at n_t3 h_t3 n_t4 h_t4 nq_t3_t4 ⊢
  have hO := off_ext hE
  generalize β 10 = p3_3 at *
  have nq_t1_t3 : p1_1 ≠ p3_3 := Nat.ne_of_lt (Nat.lt_of_lt_of_le (blk_lt k_t1) n_t3)
  have nq_t2_t3 : p2_2 ≠ p3_3 := Nat.ne_of_lt (Nat.lt_of_lt_of_le (blk_lt k_t2) n_t3)
  have fb_t3 : Fb p3_3 w.heap.size [] := fb_new (Nat.le_trans sz n_t3)
  generalize β 11 = p4_3 at *
  have nq_t1_t4 : p1_1 ≠ p4_3 := Nat.ne_of_lt (Nat.lt_of_lt_of_le (blk_lt k_t1) n_t4)
  have nq_t2_t4 : p2_2 ≠ p4_3 := Nat.ne_of_lt (Nat.lt_of_lt_of_le (blk_lt k_t2) n_t4)
  have fb_t4 : Fb p4_3 w.heap.size [] := fb_new (Nat.le_trans sz n_t4)
  replace k_t1 := blk_off k_t1 hO nm0
  replace k_t2 := blk_off k_t2 hO nm0
  replace off0 := off0.step hO i0
  replace sz := off0.size
  clear hO hE β n_t3 n_t4
  have k_t3 : Blk W3 p3_3 (c4 0) 26 := h_t3
  clear h_t3
  have k_t4 : Blk W3 p4_3 (c4 0) 26 := h_t4
  clear h_t4
  refine wpL_putrow (cells := c4 N1) (by rfl) rfl rfl rfl k_t3 (by kernel_rfl) (by kernel_rfl) (by kernel_rfl) ?_
  (try simp only [Act.put, mA, mB, mC])
  intro W4 hO h_
  replace k_t3 : Blk W4 p3_3 (c4 N1) 26 := h_
  clear h_
  replace k_t1 := blk_off k_t1 hO (nm1 nq_t1_t3)
  replace k_t2 := blk_off k_t2 hO (nm1 nq_t2_t3)
  replace k_t4 := blk_off k_t4 hO (nm1 nq_t3_t4.symm)
  replace off0 := off0.step hO (i1 fb_t3)
  replace sz := off0.size
  clear hO
  refine wpL_putrow (cells := c4 N2) (by rfl) rfl rfl rfl k_t4 (by kernel_rfl) (by kernel_rfl) (by kernel_rfl) ?_
  (try simp only [Act.put, mA, mB, mC])
  intro W5 hO h_
  replace k_t4 : Blk W5 p4_3 (c4 N2) 26 := h_
  clear h_
  replace k_t1 := blk_off k_t1 hO (nm1 nq_t1_t4)
  replace k_t2 := blk_off k_t2 hO (nm1 nq_t2_t4)
  replace k_t3 := blk_off k_t3 hO (nm1 nq_t3_t4)
  replace off0 := off0.step hO (i1 fb_t4)
  replace sz := off0.size
  clear hO
  refine wpL_nil ?_
  first | with_reducible refine NoPanic.normal (Q := Exit.then _ _) ?_ | with_reducible refine NoPanic.normal ?_
  go_upto_region 2 with fail
  refine wp_region_lit ?_
  (refine wpL_val (v := ?_) (by rfl) ?_ ?_; rotate_left 1; (focus (go_simp; first | done | with_reducible rfl)))
  (try simp only [Act.put, mA, mB, mC])
  refine wpL_gets (vs := (c4 Z1).toList) (by rfl) rfl rfl k_t1 (subL p4c2) (by kernel_rfl) (by kernel_rfl) ?_
  (try simp only [Act.put, mA, mB, mC])
  (refine wpL_val (v := ?_) (by rfl) ?_ ?_; rotate_left 1; (focus (go_simp; first | done | with_reducible rfl)))
  (try simp only [Act.put, mA, mB, mC])
  refine wpL_gets (vs := (c4 Z1).toList) (by rfl) rfl rfl k_t1 (subL p4c2) (by kernel_rfl) (by kernel_rfl) ?_
  (try simp only [Act.put, mA, mB, mC])
  refine wpL_ret (c_N3 W5 (GE_ext hG off0.ext).1) (by rfl) rfl (by kernel_rfl) rfl ?_
  (try simp only [Act.put, mA, mB, mC])
  intro W6 hO
  replace k_t1 := blk_off k_t1 hO nm0
  replace k_t2 := blk_off k_t2 hO nm0
  replace k_t3 := blk_off k_t3 hO nm0
  replace k_t4 := blk_off k_t4 hO nm0
  replace off0 := off0.step hO i0
  replace sz := off0.size
  clear hO
  refine wpL_new (z := c4 0) (t := 26) (by rfl) (by first | kernel_rfl | (go_simp; done) | (go_simp; rfl)) ?_
  (try simp only [Act.put, mA, mB, mC])
  intro p5_7 W7 n_t5 hO h_
  have nq_t1_t5 : p1_1 ≠ p5_7 := Nat.ne_of_lt (Nat.lt_of_lt_of_le (blk_lt k_t1) n_t5)
  have nq_t2_t5 : p2_2 ≠ p5_7 := Nat.ne_of_lt (Nat.lt_of_lt_of_le (blk_lt k_t2) n_t5)
  have nq_t3_t5 : p3_3 ≠ p5_7 := Nat.ne_of_lt (Nat.lt_of_lt_of_le (blk_lt k_t3) n_t5)
  have nq_t4_t5 : p4_3 ≠ p5_7 := Nat.ne_of_lt (Nat.lt_of_lt_of_le (blk_lt k_t4) n_t5)
  have fb_t5 : Fb p5_7 w.heap.size [] := fb_new (Nat.le_trans sz n_t5)
  replace k_t1 := blk_off k_t1 hO nm0
  replace k_t2 := blk_off k_t2 hO nm0
  replace k_t3 := blk_off k_t3 hO nm0
  replace k_t4 := blk_off k_t4 hO nm0
  replace off0 := off0.step hO i0
  replace sz := off0.size
  have k_t5 := h_
  clear hO h_ n_t5
  refine wpL_putrow (cells := c4 N3) (by rfl) rfl rfl rfl k_t5 (by kernel_rfl) (by kernel_rfl) (by kernel_rfl) ?_
  (try simp only [Act.put, mA, mB, mC])
  intro W8 hO h_
  replace k_t5 : Blk W8 p5_7 (c4 N3) 26 := h_
  clear h_
  replace k_t1 := blk_off k_t1 hO (nm1 nq_t1_t5)
  replace k_t2 := blk_off k_t2 hO (nm1 nq_t2_t5)
  replace k_t3 := blk_off k_t3 hO (nm1 nq_t3_t5)
  replace k_t4 := blk_off k_t4 hO (nm1 nq_t4_t5)
  replace off0 := off0.step hO (i1 fb_t5)
  replace sz := off0.size
  clear hO
  refine wpL_nil ?_
  go_upto_region 3 with fail
  refine wp_region_lit ?_
  refine wpL_load0 (by rfl) rfl rfl k_t5 (by kernel_rfl) (by kernel_rfl) ?_
  (try simp only [Act.put, mA, mB, mC])
  refine wpL_load0 (by rfl) rfl rfl k_t5 (by kernel_rfl) (by kernel_rfl) ?_
  (try simp only [Act.put, mA, mB, mC])
  refine wpL_ret (c_N4 W8 (GE_ext hG off0.ext).1) (by rfl) rfl (by kernel_rfl) rfl ?_
  (try simp only [Act.put, mA, mB, mC])
  intro W9 hO
  replace k_t1 := blk_off k_t1 hO nm0
  replace k_t2 := blk_off k_t2 hO nm0
  replace k_t3 := blk_off k_t3 hO nm0
  replace k_t4 := blk_off k_t4 hO nm0
  replace k_t5 := blk_off k_t5 hO nm0
  replace off0 := off0.step hO i0
  replace sz := off0.size
  clear hO
  refine wpL_putrow (cells := c4 N4) (by rfl) rfl rfl rfl k_t5 (by kernel_rfl) (by kernel_rfl) (by kernel_rfl) ?_
  (try simp only [Act.put, mA, mB, mC])
  intro W10 hO h_
  replace k_t5 : Blk W10 p5_7 (c4 N4) 26 := h_
  clear h_
  replace k_t1 := blk_off k_t1 hO (nm1 nq_t1_t5)
  replace k_t2 := blk_off k_t2 hO (nm1 nq_t2_t5)
  replace k_t3 := blk_off k_t3 hO (nm1 nq_t3_t5)
  replace k_t4 := blk_off k_t4 hO (nm1 nq_t4_t5)
  replace off0 := off0.step hO (i1 fb_t5)
  replace sz := off0.size
  clear hO
  refine wpL_nil ?_
  go_upto_region 4 with fail
  refine wp_region_lit ?_
  refine wpL_load0 (by rfl) rfl rfl k_t3 (by kernel_rfl) (by kernel_rfl) ?_
  (try simp only [Act.put, mA, mB, mC])
  refine wpL_load0 (by rfl) rfl rfl k_t4 (by kernel_rfl) (by kernel_rfl) ?_
  (try simp only [Act.put, mA, mB, mC])
  refine wpL_ret (c_N5 W10 (GE_ext hG off0.ext).1) (by rfl) rfl (by kernel_rfl) rfl ?_
  (try simp only [Act.put, mA, mB, mC])
  intro W11 hO
  replace k_t1 := blk_off k_t1 hO nm0
  replace k_t2 := blk_off k_t2 hO nm0
  replace k_t3 := blk_off k_t3 hO nm0
  replace k_t4 := blk_off k_t4 hO nm0
  replace k_t5 := blk_off k_t5 hO nm0
  replace off0 := off0.step hO i0
  replace sz := off0.size
  clear hO
  refine wpL_new (z := c4 0) (t := 26) (by rfl) (by first | kernel_rfl | (go_simp; done) | (go_simp; rfl)) ?_
  (try simp only [Act.put, mA, mB, mC])
  intro p6_12 W12 n_t6 hO h_
  have nq_t1_t6 : p1_1 ≠ p6_12 := Nat.ne_of_lt (Nat.lt_of_lt_of_le (blk_lt k_t1) n_t6)
  have nq_t2_t6 : p2_2 ≠ p6_12 := Nat.ne_of_lt (Nat.lt_of_lt_of_le (blk_lt k_t2) n_t6)
  have nq_t3_t6 : p3_3 ≠ p6_12 := Nat.ne_of_lt (Nat.lt_of_lt_of_le (blk_lt k_t3) n_t6)
  have nq_t4_t6 : p4_3 ≠ p6_12 := Nat.ne_of_lt (Nat.lt_of_lt_of_le (blk_lt k_t4) n_t6)
  have nq_t5_t6 : p5_7 ≠ p6_12 := Nat.ne_of_lt (Nat.lt_of_lt_of_le (blk_lt k_t5) n_t6)
  have fb_t6 : Fb p6_12 w.heap.size [] := fb_new (Nat.le_trans sz n_t6)
  replace k_t1 := blk_off k_t1 hO nm0
  replace k_t2 := blk_off k_t2 hO nm0
  replace k_t3 := blk_off k_t3 hO nm0
  replace k_t4 := blk_off k_t4 hO nm0
  replace k_t5 := blk_off k_t5 hO nm0
  replace off0 := off0.step hO i0
  replace sz := off0.size
  have k_t6 := h_
  clear hO h_ n_t6
  refine wpL_putrow (cells := c4 N5) (by rfl) rfl rfl rfl k_t6 (by kernel_rfl) (by kernel_rfl) (by kernel_rfl) ?_
  (try simp only [Act.put, mA, mB, mC])
  intro W13 hO h_
  replace k_t6 : Blk W13 p6_12 (c4 N5) 26 := h_
  clear h_
  replace k_t1 := blk_off k_t1 hO (nm1 nq_t1_t6)
  replace k_t2 := blk_off k_t2 hO (nm1 nq_t2_t6)
  replace k_t3 := blk_off k_t3 hO (nm1 nq_t3_t6)
  replace k_t4 := blk_off k_t4 hO (nm1 nq_t4_t6)
  replace k_t5 := blk_off k_t5 hO (nm1 nq_t5_t6)
  replace off0 := off0.step hO (i1 fb_t6)
  replace sz := off0.size
  clear hO
  refine wpL_nil ?_
  go_upto_region 5 with fail
  refine wp_region_lit ?_
  (refine wpL_val (v := ?_) (by rfl) ?_ ?_; rotate_left 1; (focus (go_simp; first | done | with_reducible rfl)))
  (try simp only [Act.put, mA, mB, mC])
  refine wpL_gets (vs := (c4 X1).toList) (by rfl) rfl rfl k_t1 (subL p4c0) (by kernel_rfl) (by kernel_rfl) ?_
  (try simp only [Act.put, mA, mB, mC])
  (refine wpL_val (v := ?_) (by rfl) ?_ ?_; rotate_left 1; (focus (go_simp; first | done | with_reducible rfl)))
  (try simp only [Act.put, mA, mB, mC])
  refine wpL_gets (vs := (c4 Y1).toList) (by rfl) rfl rfl k_t1 (subL p4c1) (by kernel_rfl) (by kernel_rfl) ?_
  (try simp only [Act.put, mA, mB, mC])
  refine wpL_ret (c_N6 W13 (GE_ext hG off0.ext).1) (by rfl) rfl (by kernel_rfl) rfl ?_
  (try simp only [Act.put, mA, mB, mC])
  intro W14 hO
  replace k_t1 := blk_off k_t1 hO nm0
  replace k_t2 := blk_off k_t2 hO nm0
  replace k_t3 := blk_off k_t3 hO nm0
  replace k_t4 := blk_off k_t4 hO nm0
  replace k_t5 := blk_off k_t5 hO nm0
  replace k_t6 := blk_off k_t6 hO nm0
  replace off0 := off0.step hO i0
  replace sz := off0.size
  clear hO
  refine wpL_new (z := c4 0) (t := 26) (by rfl) (by first | kernel_rfl | (go_simp; done) | (go_simp; rfl)) ?_
  (try simp only [Act.put, mA, mB, mC])
  intro p7_15 W15 n_t7 hO h_
  have nq_t1_t7 : p1_1 ≠ p7_15 := Nat.ne_of_lt (Nat.lt_of_lt_of_le (blk_lt k_t1) n_t7)
  have nq_t2_t7 : p2_2 ≠ p7_15 := Nat.ne_of_lt (Nat.lt_of_lt_of_le (blk_lt k_t2) n_t7)
  have nq_t3_t7 : p3_3 ≠ p7_15 := Nat.ne_of_lt (Nat.lt_of_lt_of_le (blk_lt k_t3) n_t7)
  have nq_t4_t7 : p4_3 ≠ p7_15 := Nat.ne_of_lt (Nat.lt_of_lt_of_le (blk_lt k_t4) n_t7)
  have nq_t5_t7 : p5_7 ≠ p7_15 := Nat.ne_of_lt (Nat.lt_of_lt_of_le (blk_lt k_t5) n_t7)
  have nq_t6_t7 : p6_12 ≠ p7_15 := Nat.ne_of_lt (Nat.lt_of_lt_of_le (blk_lt k_t6) n_t7)
  have fb_t7 : Fb p7_15 w.heap.size [] := fb_new (Nat.le_trans sz n_t7)
  replace k_t1 := blk_off k_t1 hO nm0
  replace k_t2 := blk_off k_t2 hO nm0
  replace k_t3 := blk_off k_t3 hO nm0
  replace k_t4 := blk_off k_t4 hO nm0
  replace k_t5 := blk_off k_t5 hO nm0
  replace k_t6 := blk_off k_t6 hO nm0
  replace off0 := off0.step hO i0
  replace sz := off0.size
  have k_t7 := h_
  clear hO h_ n_t7
  refine wpL_putrow (cells := c4 N6) (by rfl) rfl rfl rfl k_t7 (by kernel_rfl) (by kernel_rfl) (by kernel_rfl) ?_
  (try simp only [Act.put, mA, mB, mC])
  intro W16 hO h_
  replace k_t7 : Blk W16 p7_15 (c4 N6) 26 := h_
  clear h_
  replace k_t1 := blk_off k_t1 hO (nm1 nq_t1_t7)
  replace k_t2 := blk_off k_t2 hO (nm1 nq_t2_t7)
  replace k_t3 := blk_off k_t3 hO (nm1 nq_t3_t7)
  replace k_t4 := blk_off k_t4 hO (nm1 nq_t4_t7)
  replace k_t5 := blk_off k_t5 hO (nm1 nq_t5_t7)
  replace k_t6 := blk_off k_t6 hO (nm1 nq_t6_t7)
  replace off0 := off0.step hO (i1 fb_t7)
  replace sz := off0.size
  clear hO
  refine wpL_nil ?_
  go_upto_region 6 with fail
  refine wp_region_xn 5 [⟨5, 8, c4 0, 26⟩] (by kernel_rfl) ?_ (by kernel_rfl) ?_
  · intro x hx
    simp only [List.mem_cons, List.not_mem_nil, or_false] at hx
    subst hx; exact ⟨_, rfl, rfl, rfl, fun _ _ => by kernel_rfl⟩
  simp only [List.take_succ_cons, List.take_zero, List.take_nil]
  (try simp only [Act.put, mA, mB, mC])
  refine wpX_load (by rfl) rfl rfl (blk_rd k_t6) (by kernel_rfl) (by kernel_rfl) ?_
  (try simp only [Act.put, mA, mB, mC])
  refine wpX_load (by rfl) rfl rfl (blk_rd k_t7) (by kernel_rfl) (by kernel_rfl) ?_
  (try simp only [Act.put, mA, mB, mC])
  refine wpX_load (by rfl) rfl rfl (blk_rd k_t7) (by kernel_rfl) (by kernel_rfl) ?_
  (try simp only [Act.put, mA, mB, mC])
  ((with_reducible refine wpX_fn (fun W hW => c_N7 W (GE_ext (GE_ext hG off0.ext) hW).1) ?_ rfl ?_ ?_ ?_); (focus rfl); (focus kernel_rfl); (focus rfl); (try simp only [Act.put, mA, mB, mC]))
  ((with_reducible refine wpX_fn (fun W hW => c_N8 W (GE_ext (GE_ext hG off0.ext) hW).1) ?_ rfl ?_ ?_ ?_); (focus rfl); (focus kernel_rfl); (focus rfl); (try simp only [Act.put, mA, mB, mC]))
  refine wpX_nil ?_
  intro β W17 hE hN hD
  obtain ⟨n_t8, h_t8⟩ := hN _ (List.mem_cons_self ..)
  clear hN hD
  simp only [putAll, Act.put, mA, mB, mC, List.drop_succ_cons, List.drop_zero, List.drop_nil, List.length_cons, List.length_nil, Nat.add_zero] at n_t8 h_t8 ⊢
  have hO := off_ext hE
  generalize β 5 = p8_17 at *
  have nq_t1_t8 : p1_1 ≠ p8_17 := Nat.ne_of_lt (Nat.lt_of_lt_of_le (blk_lt k_t1) n_t8)
  have nq_t2_t8 : p2_2 ≠ p8_17 := Nat.ne_of_lt (Nat.lt_of_lt_of_le (blk_lt k_t2) n_t8)
  have nq_t3_t8 : p3_3 ≠ p8_17 := Nat.ne_of_lt (Nat.lt_of_lt_of_le (blk_lt k_t3) n_t8)
  have nq_t4_t8 : p4_3 ≠ p8_17 := Nat.ne_of_lt (Nat.lt_of_lt_of_le (blk_lt k_t4) n_t8)
  have nq_t5_t8 : p5_7 ≠ p8_17 := Nat.ne_of_lt (Nat.lt_of_lt_of_le (blk_lt k_t5) n_t8)
  have nq_t6_t8 : p6_12 ≠ p8_17 := Nat.ne_of_lt (Nat.lt_of_lt_of_le (blk_lt k_t6) n_t8)
  have nq_t7_t8 : p7_15 ≠ p8_17 := Nat.ne_of_lt (Nat.lt_of_lt_of_le (blk_lt k_t7) n_t8)
  have fb_t8 : Fb p8_17 w.heap.size [] := fb_new (Nat.le_trans sz n_t8)
  replace k_t1 := blk_off k_t1 hO nm0
  replace k_t2 := blk_off k_t2 hO nm0
  replace k_t3 := blk_off k_t3 hO nm0
  replace k_t4 := blk_off k_t4 hO nm0
  replace k_t5 := blk_off k_t5 hO nm0
  replace k_t6 := blk_off k_t6 hO nm0
  replace k_t7 := blk_off k_t7 hO nm0
  replace off0 := off0.step hO i0
  replace sz := off0.size
  clear hO hE β n_t8
  have k_t8 : Blk W17 p8_17 (c4 0) 26 := h_t8
  clear h_t8
  refine wpL_putrow (cells := c4 N8) (by rfl) rfl rfl rfl k_t8 (by kernel_rfl) (by kernel_rfl) (by kernel_rfl) ?_
  (try simp only [Act.put, mA, mB, mC])
  intro W18 hO h_
  replace k_t8 : Blk W18 p8_17 (c4 N8) 26 := h_
  clear h_
  replace k_t1 := blk_off k_t1 hO (nm1 nq_t1_t8)
  replace k_t2 := blk_off k_t2 hO (nm1 nq_t2_t8)
  replace k_t3 := blk_off k_t3 hO (nm1 nq_t3_t8)
  replace k_t4 := blk_off k_t4 hO (nm1 nq_t4_t8)
  replace k_t5 := blk_off k_t5 hO (nm1 nq_t5_t8)
  replace k_t6 := blk_off k_t6 hO (nm1 nq_t6_t8)
  replace k_t7 := blk_off k_t7 hO (nm1 nq_t7_t8)
  replace off0 := off0.step hO (i1 fb_t8)
  replace sz := off0.size
  clear hO
  refine wpL_nil ?_
  first | with_reducible refine NoPanic.normal (Q := Exit.then _ _) ?_ | with_reducible refine NoPanic.normal ?_
  go_upto_region 7 with fail
  refine wp_region_lit ?_
  refine wpL_load0 (by rfl) rfl rfl k_t3 (by kernel_rfl) (by kernel_rfl) ?_
  (try simp only [Act.put, mA, mB, mC])
  refine wpL_load0 (by rfl) rfl rfl k_t4 (by kernel_rfl) (by kernel_rfl) ?_
  (try simp only [Act.put, mA, mB, mC])
  refine wpL_ret (c_N9 W18 (GE_ext hG off0.ext).1) (by rfl) rfl (by kernel_rfl) rfl ?_
  (try simp only [Act.put, mA, mB, mC])
  intro W19 hO
  replace k_t1 := blk_off k_t1 hO nm0
  replace k_t2 := blk_off k_t2 hO nm0
  replace k_t3 := blk_off k_t3 hO nm0
  replace k_t4 := blk_off k_t4 hO nm0
  replace k_t5 := blk_off k_t5 hO nm0
  replace k_t6 := blk_off k_t6 hO nm0
  replace k_t7 := blk_off k_t7 hO nm0
  replace k_t8 := blk_off k_t8 hO nm0
  replace off0 := off0.step hO i0
  replace sz := off0.size
  clear hO
  refine wpL_new (z := c4 0) (t := 26) (by rfl) (by first | kernel_rfl | (go_simp; done) | (go_simp; rfl)) ?_
  (try simp only [Act.put, mA, mB, mC])
  intro p9_20 W20 n_t9 hO h_
  have nq_t1_t9 : p1_1 ≠ p9_20 := Nat.ne_of_lt (Nat.lt_of_lt_of_le (blk_lt k_t1) n_t9)
  have nq_t2_t9 : p2_2 ≠ p9_20 := Nat.ne_of_lt (Nat.lt_of_lt_of_le (blk_lt k_t2) n_t9)
  have nq_t3_t9 : p3_3 ≠ p9_20 := Nat.ne_of_lt (Nat.lt_of_lt_of_le (blk_lt k_t3) n_t9)
  have nq_t4_t9 : p4_3 ≠ p9_20 := Nat.ne_of_lt (Nat.lt_of_lt_of_le (blk_lt k_t4) n_t9)
  have nq_t5_t9 : p5_7 ≠ p9_20 := Nat.ne_of_lt (Nat.lt_of_lt_of_le (blk_lt k_t5) n_t9)
  have nq_t6_t9 : p6_12 ≠ p9_20 := Nat.ne_of_lt (Nat.lt_of_lt_of_le (blk_lt k_t6) n_t9)
  have nq_t7_t9 : p7_15 ≠ p9_20 := Nat.ne_of_lt (Nat.lt_of_lt_of_le (blk_lt k_t7) n_t9)
  have nq_t8_t9 : p8_17 ≠ p9_20 := Nat.ne_of_lt (Nat.lt_of_lt_of_le (blk_lt k_t8) n_t9)
  have fb_t9 : Fb p9_20 w.heap.size [] := fb_new (Nat.le_trans sz n_t9)
  replace k_t1 := blk_off k_t1 hO nm0
  replace k_t2 := blk_off k_t2 hO nm0
  replace k_t3 := blk_off k_t3 hO nm0
  replace k_t4 := blk_off k_t4 hO nm0
  replace k_t5 := blk_off k_t5 hO nm0
  replace k_t6 := blk_off k_t6 hO nm0
  replace k_t7 := blk_off k_t7 hO nm0
  replace k_t8 := blk_off k_t8 hO nm0
  replace off0 := off0.step hO i0
  replace sz := off0.size
  have k_t9 := h_
  clear hO h_ n_t9
  refine wpL_putrow (cells := c4 N9) (by rfl) rfl rfl rfl k_t9 (by kernel_rfl) (by kernel_rfl) (by kernel_rfl) ?_
  (try simp only [Act.put, mA, mB, mC])
  intro W21 hO h_
  replace k_t9 : Blk W21 p9_20 (c4 N9) 26 := h_
  clear h_
  replace k_t1 := blk_off k_t1 hO (nm1 nq_t1_t9)
  replace k_t2 := blk_off k_t2 hO (nm1 nq_t2_t9)
  replace k_t3 := blk_off k_t3 hO (nm1 nq_t3_t9)
  replace k_t4 := blk_off k_t4 hO (nm1 nq_t4_t9)
  replace k_t5 := blk_off k_t5 hO (nm1 nq_t5_t9)
  replace k_t6 := blk_off k_t6 hO (nm1 nq_t6_t9)
  replace k_t7 := blk_off k_t7 hO (nm1 nq_t7_t9)
  replace k_t8 := blk_off k_t8 hO (nm1 nq_t8_t9)
  replace off0 := off0.step hO (i1 fb_t9)
  replace sz := off0.size
  clear hO
  refine wpL_nil ?_
  go_upto_region 8 with fail
  refine wp_region_lit ?_
  refine wpL_load0 (by rfl) rfl rfl k_t5 (by kernel_rfl) (by kernel_rfl) ?_
  (try simp only [Act.put, mA, mB, mC])
  refine wpL_load0 (by rfl) rfl rfl k_t9 (by kernel_rfl) (by kernel_rfl) ?_
  (try simp only [Act.put, mA, mB, mC])
  refine wpL_ret (c_N10 W21 (GE_ext hG off0.ext).1) (by rfl) rfl (by kernel_rfl) rfl ?_
  (try simp only [Act.put, mA, mB, mC])
  intro W22 hO
  replace k_t1 := blk_off k_t1 hO nm0
  replace k_t2 := blk_off k_t2 hO nm0
  replace k_t3 := blk_off k_t3 hO nm0
  replace k_t4 := blk_off k_t4 hO nm0
  replace k_t5 := blk_off k_t5 hO nm0
  replace k_t6 := blk_off k_t6 hO nm0
  replace k_t7 := blk_off k_t7 hO nm0
  replace k_t8 := blk_off k_t8 hO nm0
  replace k_t9 := blk_off k_t9 hO nm0
  replace off0 := off0.step hO i0
  replace sz := off0.size
  clear hO
  refine wpL_new (z := c4 0) (t := 26) (by rfl) (by first | kernel_rfl | (go_simp; done) | (go_simp; rfl)) ?_
  (try simp only [Act.put, mA, mB, mC])
  intro p10_23 W23 n_t10 hO h_
  have nq_t1_t10 : p1_1 ≠ p10_23 := Nat.ne_of_lt (Nat.lt_of_lt_of_le (blk_lt k_t1) n_t10)
  have nq_t2_t10 : p2_2 ≠ p10_23 := Nat.ne_of_lt (Nat.lt_of_lt_of_le (blk_lt k_t2) n_t10)
  have nq_t3_t10 : p3_3 ≠ p10_23 := Nat.ne_of_lt (Nat.lt_of_lt_of_le (blk_lt k_t3) n_t10)
  have nq_t4_t10 : p4_3 ≠ p10_23 := Nat.ne_of_lt (Nat.lt_of_lt_of_le (blk_lt k_t4) n_t10)
  have nq_t5_t10 : p5_7 ≠ p10_23 := Nat.ne_of_lt (Nat.lt_of_lt_of_le (blk_lt k_t5) n_t10)
  have nq_t6_t10 : p6_12 ≠ p10_23 := Nat.ne_of_lt (Nat.lt_of_lt_of_le (blk_lt k_t6) n_t10)
  have nq_t7_t10 : p7_15 ≠ p10_23 := Nat.ne_of_lt (Nat.lt_of_lt_of_le (blk_lt k_t7) n_t10)
  have nq_t8_t10 : p8_17 ≠ p10_23 := Nat.ne_of_lt (Nat.lt_of_lt_of_le (blk_lt k_t8) n_t10)
  have nq_t9_t10 : p9_20 ≠ p10_23 := Nat.ne_of_lt (Nat.lt_of_lt_of_le (blk_lt k_t9) n_t10)
  have fb_t10 : Fb p10_23 w.heap.size [] := fb_new (Nat.le_trans sz n_t10)
  replace k_t1 := blk_off k_t1 hO nm0
  replace k_t2 := blk_off k_t2 hO nm0
  replace k_t3 := blk_off k_t3 hO nm0
  replace k_t4 := blk_off k_t4 hO nm0
  replace k_t5 := blk_off k_t5 hO nm0
  replace k_t6 := blk_off k_t6 hO nm0
  replace k_t7 := blk_off k_t7 hO nm0
  replace k_t8 := blk_off k_t8 hO nm0
  replace k_t9 := blk_off k_t9 hO nm0
  replace off0 := off0.step hO i0
  replace sz := off0.size
  have k_t10 := h_
  clear hO h_ n_t10
  refine wpL_putrow (cells := c4 N10) (by rfl) rfl rfl rfl k_t10 (by kernel_rfl) (by kernel_rfl) (by kernel_rfl) ?_
  (try simp only [Act.put, mA, mB, mC])
  intro W24 hO h_
  replace k_t10 : Blk W24 p10_23 (c4 N10) 26 := h_
  clear h_
  replace k_t1 := blk_off k_t1 hO (nm1 nq_t1_t10)
  replace k_t2 := blk_off k_t2 hO (nm1 nq_t2_t10)
  replace k_t3 := blk_off k_t3 hO (nm1 nq_t3_t10)
  replace k_t4 := blk_off k_t4 hO (nm1 nq_t4_t10)
  replace k_t5 := blk_off k_t5 hO (nm1 nq_t5_t10)
  replace k_t6 := blk_off k_t6 hO (nm1 nq_t6_t10)
  replace k_t7 := blk_off k_t7 hO (nm1 nq_t7_t10)
  replace k_t8 := blk_off k_t8 hO (nm1 nq_t8_t10)
  replace k_t9 := blk_off k_t9 hO (nm1 nq_t9_t10)
  replace off0 := off0.step hO (i1 fb_t10)
  replace sz := off0.size
  clear hO
  refine wpL_nil ?_
  go_upto_region 9 with fail
  refine wp_region_xn 13 [] (by kernel_rfl) (fun x hx => by cases hx) (by kernel_rfl) ?_
  simp only [List.take_succ_cons, List.take_zero, List.take_nil]
  (try simp only [Act.put, mA, mB, mC])
  refine wpX_load (by rfl) rfl rfl (blk_rd k_t8) (by kernel_rfl) (by kernel_rfl) ?_
  (try simp only [Act.put, mA, mB, mC])
  refine wpX_load (by rfl) rfl rfl (blk_rd k_t10) (by kernel_rfl) (by kernel_rfl) ?_
  (try simp only [Act.put, mA, mB, mC])
  ((with_reducible refine wpX_fn (fun W hW => c_N11 W (GE_ext (GE_ext hG off0.ext) hW).1) ?_ rfl ?_ ?_ ?_); (focus rfl); (focus kernel_rfl); (focus rfl); (try simp only [Act.put, mA, mB, mC]))
  refine wpX_load (by rfl) rfl rfl (blk_rd k_t9) (by kernel_rfl) (by kernel_rfl) ?_
  (try simp only [Act.put, mA, mB, mC])
  refine wpX_load (by rfl) rfl rfl (blk_rd k_t6) (by kernel_rfl) (by kernel_rfl) ?_
  (try simp only [Act.put, mA, mB, mC])
  ((with_reducible refine wpX_fn (fun W hW => c_N12 W (GE_ext (GE_ext hG off0.ext) hW).1) ?_ rfl ?_ ?_ ?_); (focus rfl); (focus kernel_rfl); (focus rfl); (try simp only [Act.put, mA, mB, mC]))
  refine wpX_load (by rfl) rfl rfl (blk_rd k_t10) (by kernel_rfl) (by kernel_rfl) ?_
  (try simp only [Act.put, mA, mB, mC])
  refine wpX_load (by rfl) rfl rfl (blk_rd k_t9) (by kernel_rfl) (by kernel_rfl) ?_
  (try simp only [Act.put, mA, mB, mC])
  ((with_reducible refine wpX_fn (fun W hW => c_N13 W (GE_ext (GE_ext hG off0.ext) hW).1) ?_ rfl ?_ ?_ ?_); (focus rfl); (focus kernel_rfl); (focus rfl); (try simp only [Act.put, mA, mB, mC]))
  refine wpX_load (by rfl) rfl rfl (blk_rd k_t8) (by kernel_rfl) (by kernel_rfl) ?_
  (try simp only [Act.put, mA, mB, mC])
  refine wpX_load (by rfl) rfl rfl (blk_rd k_t6) (by kernel_rfl) (by kernel_rfl) ?_
  (try simp only [Act.put, mA, mB, mC])
  ((with_reducible refine wpX_fn (fun W hW => c_N14 W (GE_ext (GE_ext hG off0.ext) hW).1) ?_ rfl ?_ ?_ ?_); (focus rfl); (focus kernel_rfl); (focus rfl); (try simp only [Act.put, mA, mB, mC]))
  refine wpX_val (v := .agg (p4 N11 N12 N13 N14)) (by rfl) (fun _ _ => by kernel_rfl) ?_
  (try simp only [Act.put, mA, mB, mC])
  refine wpX_nil ?_
  intro β W25 hE hN hD
  clear hN hD
  simp only [putAll, Act.put, mA, mB, mC, List.drop_succ_cons, List.drop_zero, List.drop_nil, List.length_cons, List.length_nil, Nat.add_zero]
  have hO := off_ext hE
  replace k_t1 := blk_off k_t1 hO nm0
  replace k_t2 := blk_off k_t2 hO nm0
  replace k_t3 := blk_off k_t3 hO nm0
  replace k_t4 := blk_off k_t4 hO nm0
  replace k_t5 := blk_off k_t5 hO nm0
  replace k_t6 := blk_off k_t6 hO nm0
  replace k_t7 := blk_off k_t7 hO nm0
  replace k_t8 := blk_off k_t8 hO nm0
  replace k_t9 := blk_off k_t9 hO nm0
  replace k_t10 := blk_off k_t10 hO nm0
  replace off0 := off0.step hO i0
  replace sz := off0.size
  clear hO hE β
  refine wpL_putrow (cells := p4 N11 N12 N13 N14) (by rfl) rfl rfl rfl k_t2 (by kernel_rfl) (by kernel_rfl) (by kernel_rfl) ?_
  (try simp only [Act.put, mA, mB, mC])
  intro W26 hO h_
  replace k_t2 : Blk W26 p2_2 (p4 N11 N12 N13 N14) 28 := h_
  clear h_
  replace k_t1 := blk_off k_t1 hO (nm1 nq_t1_t2)
  replace k_t3 := blk_off k_t3 hO (nm1 nq_t2_t3.symm)
  replace k_t4 := blk_off k_t4 hO (nm1 nq_t2_t4.symm)
  replace k_t5 := blk_off k_t5 hO (nm1 nq_t2_t5.symm)
  replace k_t6 := blk_off k_t6 hO (nm1 nq_t2_t6.symm)
  replace k_t7 := blk_off k_t7 hO (nm1 nq_t2_t7.symm)
  replace k_t8 := blk_off k_t8 hO (nm1 nq_t2_t8.symm)
  replace k_t9 := blk_off k_t9 hO (nm1 nq_t2_t9.symm)
  replace k_t10 := blk_off k_t10 hO (nm1 nq_t2_t10.symm)
  replace off0 := off0.step hO (i1 fb_t2)
  replace sz := off0.size
  clear hO
  refine wpL_nil ?_
  first | with_reducible refine NoPanic.normal (Q := Exit.then _ _) ?_ | with_reducible refine NoPanic.normal ?_
  go_wp2
  exact bodyPost_ret (res_row rfl rfl k_t2 (by kernel_rfl) (by kernel_rfl)) rfl ⟨rfl, off0.ext⟩
set_option maxRecDepth 100000 in
set_option maxHeartbeats 1500000 in
theorem eAdd_c (hd : kn.d) {X1 Y1 Z1 T1 : Nat} {p1 : Pr} {X2 Y2 Z2 T2 : Nat} {p2 : Pr} (h1 : RW X1 Y1 Z1 T1 p1) (h2 : RW X2 Y2 Z2 T2 p2) :
    ∃ X Y Z T, RN X Y Z T (padd p1 p2) ∧ ∀ w, GE kn w → Calls Tryd.prog 10 #[.agg (p4 X1 Y1 Z1 T1), .agg (p4 X2 Y2 Z2 T2)] w fun e w' => Ret (.agg (p4 X Y Z T)) w w' e := by
  obtain ⟨x1, y2, z3, t4, r5, c6⟩ := eWhole_c (kn := kn) h1
  obtain ⟨x7, y8, z9, t10, r11, c12⟩ := eWhole_c (kn := kn) h2
  have c_N13 := fSub_c y2 x1 (lt_pp r5.y) (lt_pp r5.x)
  obtain ⟨N13, hN13⟩ : ∃ v_, v_ = (y2 + (PP - x1 % PP)) % PP := ⟨_, rfl⟩
  rw [← hN13] at c_N13
  have lN13 : N13 < PP := by rw [hN13]; exact mod_pp _
  have bN13 := lt_pp lN13
  have HN13 := Lib.hid hN13
  clear hN13
  have c_N14 := fSub_c y8 x7 (lt_pp r11.y) (lt_pp r11.x)
  obtain ⟨N14, hN14⟩ : ∃ v_, v_ = (y8 + (PP - x7 % PP)) % PP := ⟨_, rfl⟩
  rw [← hN14] at c_N14
  have lN14 : N14 < PP := by rw [hN14]; exact mod_pp _
  have bN14 := lt_pp lN14
  have HN14 := Lib.hid hN14
  clear hN14
  have c_N15 := fMul_c N13 N14 bN13 bN14
  obtain ⟨N15, hN15⟩ : ∃ v_, v_ = N13 * N14 % PP := ⟨_, rfl⟩
  rw [← hN15] at c_N15
  have lN15 : N15 < PP := by rw [hN15]; exact mod_pp _
  have bN15 := lt_pp lN15
  have HN15 := Lib.hid hN15
  clear hN15
  have c_N16 := fAdd_c y2 x1 (lt_pp r5.y) (lt_pp r5.x)
  obtain ⟨N16, hN16⟩ : ∃ v_, v_ = (y2 + x1) % PP := ⟨_, rfl⟩
  rw [← hN16] at c_N16
  have lN16 : N16 < PP := by rw [hN16]; exact mod_pp _
  have bN16 := lt_pp lN16
  have HN16 := Lib.hid hN16
  clear hN16
  have c_N17 := fAdd_c y8 x7 (lt_pp r11.y) (lt_pp r11.x)
  obtain ⟨N17, hN17⟩ : ∃ v_, v_ = (y8 + x7) % PP := ⟨_, rfl⟩
  rw [← hN17] at c_N17
  have lN17 : N17 < PP := by rw [hN17]; exact mod_pp _
  have bN17 := lt_pp lN17
  have HN17 := Lib.hid hN17
  clear hN17
  have c_N18 := fMul_c N16 N17 bN16 bN17
  obtain ⟨N18, hN18⟩ : ∃ v_, v_ = N16 * N17 % PP := ⟨_, rfl⟩
  rw [← hN18] at c_N18
  have lN18 : N18 < PP := by rw [hN18]; exact mod_pp _
  have bN18 := lt_pp lN18
  have HN18 := Lib.hid hN18
  clear hN18
  have c_N19 := fMul_c t4 D2 (lt_pp r5.t) D2_lt
  obtain ⟨N19, hN19⟩ : ∃ v_, v_ = t4 * D2 % PP := ⟨_, rfl⟩
  rw [← hN19] at c_N19
  have lN19 : N19 < PP := by rw [hN19]; exact mod_pp _
  have bN19 := lt_pp lN19
  have HN19 := Lib.hid hN19
  clear hN19
  have c_N20 := fMul_c N19 t10 bN19 (lt_pp r11.t)
  obtain ⟨N20, hN20⟩ : ∃ v_, v_ = N19 * t10 % PP := ⟨_, rfl⟩
  rw [← hN20] at c_N20
  have lN20 : N20 < PP := by rw [hN20]; exact mod_pp _
  have bN20 := lt_pp lN20
  have HN20 := Lib.hid hN20
  clear hN20
  have c_N21 := fAdd_c z3 z3 (lt_pp r5.z) (lt_pp r5.z)
  obtain ⟨N21, hN21⟩ : ∃ v_, v_ = (z3 + z3) % PP := ⟨_, rfl⟩
  rw [← hN21] at c_N21
  have lN21 : N21 < PP := by rw [hN21]; exact mod_pp _
  have bN21 := lt_pp lN21
  have HN21 := Lib.hid hN21
  clear hN21
  have c_N22 := fMul_c N21 z9 bN21 (lt_pp r11.z)
  obtain ⟨N22, hN22⟩ : ∃ v_, v_ = N21 * z9 % PP := ⟨_, rfl⟩
  rw [← hN22] at c_N22
  have lN22 : N22 < PP := by rw [hN22]; exact mod_pp _
  have bN22 := lt_pp lN22
  have HN22 := Lib.hid hN22
  clear hN22
  have c_N23 := fSub_c N18 N15 bN18 bN15
  obtain ⟨N23, hN23⟩ : ∃ v_, v_ = (N18 + (PP - N15 % PP)) % PP := ⟨_, rfl⟩
  rw [← hN23] at c_N23
  have lN23 : N23 < PP := by rw [hN23]; exact mod_pp _
  have bN23 := lt_pp lN23
  have HN23 := Lib.hid hN23
  clear hN23
  have c_N24 := fSub_c N22 N20 bN22 bN20
  obtain ⟨N24, hN24⟩ : ∃ v_, v_ = (N22 + (PP - N20 % PP)) % PP := ⟨_, rfl⟩
  rw [← hN24] at c_N24
  have lN24 : N24 < PP := by rw [hN24]; exact mod_pp _
  have bN24 := lt_pp lN24
  have HN24 := Lib.hid hN24
  clear hN24
  have c_N25 := fAdd_c N22 N20 bN22 bN20
  obtain ⟨N25, hN25⟩ : ∃ v_, v_ = (N22 + N20) % PP := ⟨_, rfl⟩
  rw [← hN25] at c_N25
  have lN25 : N25 < PP := by rw [hN25]; exact mod_pp _
  have bN25 := lt_pp lN25
  have HN25 := Lib.hid hN25
  clear hN25
  have c_N26 := fAdd_c N18 N15 bN18 bN15
  obtain ⟨N26, hN26⟩ : ∃ v_, v_ = (N18 + N15) % PP := ⟨_, rfl⟩
  rw [← hN26] at c_N26
  have lN26 : N26 < PP := by rw [hN26]; exact mod_pp _
  have bN26 := lt_pp lN26
  have HN26 := Lib.hid hN26
  clear hN26
  have c_N27 := fMul_c N23 N24 bN23 bN24
  obtain ⟨N27, hN27⟩ : ∃ v_, v_ = N23 * N24 % PP := ⟨_, rfl⟩
  rw [← hN27] at c_N27
  have lN27 : N27 < PP := by rw [hN27]; exact mod_pp _
  have bN27 := lt_pp lN27
  have HN27 := Lib.hid hN27
  clear hN27
  have c_N28 := fMul_c N25 N26 bN25 bN26
  obtain ⟨N28, hN28⟩ : ∃ v_, v_ = N25 * N26 % PP := ⟨_, rfl⟩
  rw [← hN28] at c_N28
  have lN28 : N28 < PP := by rw [hN28]; exact mod_pp _
  have bN28 := lt_pp lN28
  have HN28 := Lib.hid hN28
  clear hN28
  have c_N29 := fMul_c N24 N25 bN24 bN25
  obtain ⟨N29, hN29⟩ : ∃ v_, v_ = N24 * N25 % PP := ⟨_, rfl⟩
  rw [← hN29] at c_N29
  have lN29 : N29 < PP := by rw [hN29]; exact mod_pp _
  have bN29 := lt_pp lN29
  have HN29 := Lib.hid hN29
  clear hN29
  have c_N30 := fMul_c N23 N26 bN23 bN26
  obtain ⟨N30, hN30⟩ : ∃ v_, v_ = N23 * N26 % PP := ⟨_, rfl⟩
  rw [← hN30] at c_N30
  have lN30 : N30 < PP := by rw [hN30]; exact mod_pp _
  have bN30 := lt_pp lN30
  have HN30 := Lib.hid hN30
  clear hN30
  refine ⟨N27, N28, N29, N30, rn_add r5 r11 HN13.out HN14.out HN15.out HN16.out HN17.out HN18.out HN19.out HN20.out HN21.out HN22.out HN23.out HN24.out HN25.out HN26.out HN27.out HN28.out HN29.out HN30.out, fun w hG => ?_⟩
  have off0 : Off [] w w := Off.refl _ _
  have sz := off0.size
  go_enter Tryd.func10, Tryd.ntmps10
  go_upto_region 0 with fail
  refine wp_region_lit ?_
  refine wpL_new (z := p4 X1 Y1 Z1 T1) (t := 28) (by rfl) (by first | kernel_rfl | (go_simp; done) | (go_simp; rfl)) ?_
  (try simp only [Act.put, mA, mB, mC])
  intro p2_1 W1 n_t2 hO h_
  have fb_t2 : Fb p2_1 w.heap.size [] := fb_new (Nat.le_trans sz n_t2)
  replace off0 := off0.step hO i0
  replace sz := off0.size
  have k_t2 := h_
  clear hO h_ n_t2
  refine wpL_new (z := p4 X2 Y2 Z2 T2) (t := 28) (by rfl) (by first | kernel_rfl | (go_simp; done) | (go_simp; rfl)) ?_
  (try simp only [Act.put, mA, mB, mC])
  intro p3_2 W2 n_t3 hO h_
  have nq_t2_t3 : p2_1 ≠ p3_2 := Nat.ne_of_lt (Nat.lt_of_lt_of_le (blk_lt k_t2) n_t3)
  have fb_t3 : Fb p3_2 w.heap.size [] := fb_new (Nat.le_trans sz n_t3)
  replace k_t2 := blk_off k_t2 hO nm0
  replace off0 := off0.step hO i0
  replace sz := off0.size
  have k_t3 := h_
  clear hO h_ n_t3
  refine wpL_new (z := p4 0 0 0 0) (t := 28) (by rfl) (by first | kernel_rfl | (go_simp; done) | (go_simp; rfl)) ?_
  (try simp only [Act.put, mA, mB, mC])
  intro p4_3 W3 n_t4 hO h_
  have nq_t2_t4 : p2_1 ≠ p4_3 := Nat.ne_of_lt (Nat.lt_of_lt_of_le (blk_lt k_t2) n_t4)
  have nq_t3_t4 : p3_2 ≠ p4_3 := Nat.ne_of_lt (Nat.lt_of_lt_of_le (blk_lt k_t3) n_t4)
  have fb_t4 : Fb p4_3 w.heap.size [] := fb_new (Nat.le_trans sz n_t4)
  replace k_t2 := blk_off k_t2 hO nm0
  replace k_t3 := blk_off k_t3 hO nm0
  replace off0 := off0.step hO i0
  replace sz := off0.size
  have k_t4 := h_
  clear hO h_ n_t4
  refine wpL_nil ?_
  go_upto_region 1 with fail
  refine wp_region_xn 4 [] (by kernel_rfl) (fun x hx => by cases hx) (by kernel_rfl) ?_
  simp only [List.take_succ_cons, List.take_zero, List.take_nil]
  (try simp only [Act.put, mA, mB, mC])
  refine wpX_load (by rfl) rfl rfl (blk_rd k_t2) (by kernel_rfl) (by kernel_rfl) ?_
  (try simp only [Act.put, mA, mB, mC])
  ((with_reducible refine wpX_fn (fun W hW => c6 W (GE_ext (GE_ext hG off0.ext) hW)) ?_ rfl ?_ ?_ ?_); (focus rfl); (focus kernel_rfl); (focus rfl); (try simp only [Act.put, mA, mB, mC]))
  refine wpX_load (by rfl) rfl rfl (blk_rd k_t3) (by kernel_rfl) (by kernel_rfl) ?_
  (try simp only [Act.put, mA, mB, mC])
  ((with_reducible refine wpX_fn (fun W hW => c12 W (GE_ext (GE_ext hG off0.ext) hW)) ?_ rfl ?_ ?_ ?_); (focus rfl); (focus kernel_rfl); (focus rfl); (try simp only [Act.put, mA, mB, mC]))
  refine wpX_nil ?_
  intro β W4 hE hN hD
  clear hN hD
  simp only [putAll, Act.put, mA, mB, mC, List.drop_succ_cons, List.drop_zero, List.drop_nil, List.length_cons, List.length_nil, Nat.add_zero]
  have hO := off_ext hE
  replace k_t2 := blk_off k_t2 hO nm0
  replace k_t3 := blk_off k_t3 hO nm0
  replace k_t4 := blk_off k_t4 hO nm0
  replace off0 := off0.step hO i0
  replace sz := off0.size
  clear hO hE β
  refine wpL_putrow (cells := p4 x1 y2 z3 t4) (by rfl) rfl rfl rfl k_t2 (by kernel_rfl) (by kernel_rfl) (by kernel_rfl) ?_
  (try simp only [Act.put, mA, mB, mC])
  intro W5 hO h_
  replace k_t2 : Blk W5 p2_1 (p4 x1 y2 z3 t4) 28 := h_
  clear h_
  replace k_t3 := blk_off k_t3 hO (nm1 nq_t2_t3.symm)
  replace k_t4 := blk_off k_t4 hO (nm1 nq_t2_t4.symm)
  replace off0 := off0.step hO (i1 fb_t2)
  replace sz := off0.size
  clear hO
  refine wpL_putrow (cells := p4 x7 y8 z9 t10) (by rfl) rfl rfl rfl k_t3 (by kernel_rfl) (by kernel_rfl) (by kernel_rfl) ?_
  (try simp only [Act.put, mA, mB, mC])
  intro W6 hO h_
  replace k_t3 : Blk W6 p3_2 (p4 x7 y8 z9 t10) 28 := h_
  clear h_
  replace k_t2 := blk_off k_t2 hO (nm1 nq_t2_t3)
  replace k_t4 := blk_off k_t4 hO (nm1 nq_t3_t4.symm)
  replace off0 := off0.step hO (i1 fb_t3)
  replace sz := off0.size
  clear hO
  refine wpL_nil ?_
  first | with_reducible refine NoPanic.normal (Q := Exit.then _ _) ?_ | with_reducible refine NoPanic.normal ?_
  go_upto_region 2 with fail
  refine wp_region_xn 11 [⟨11, 5, c4 0, 26⟩] (by kernel_rfl) ?_ (by kernel_rfl) ?_
  · intro x hx
    simp only [List.mem_cons, List.not_mem_nil, or_false] at hx
    subst hx; exact ⟨_, rfl, rfl, rfl, fun _ _ => by kernel_rfl⟩
  simp only [List.take_succ_cons, List.take_zero, List.take_nil]
  (try simp only [Act.put, mA, mB, mC])
  (refine wpX_val (v := ?_) (by rfl) (fun W hW => ?_) ?_; rotate_left 1; (focus (go_simp; first | done | with_reducible rfl)); (try simp only [Act.put, mA, mB, mC]))
  refine wpX_loads (sub := c4 y2) (j := 4) (by rfl) rfl rfl (blk_rd k_t2) p4c1 (by kernel_rfl) (by kernel_rfl) ?_
  (try simp only [Act.put, mA, mB, mC])
  (refine wpX_val (v := ?_) (by rfl) (fun W hW => ?_) ?_; rotate_left 1; (focus (go_simp; first | done | with_reducible rfl)); (try simp only [Act.put, mA, mB, mC]))
  refine wpX_loads (sub := c4 x1) (j := 0) (by rfl) rfl rfl (blk_rd k_t2) p4c0 (by kernel_rfl) (by kernel_rfl) ?_
  (try simp only [Act.put, mA, mB, mC])
  ((with_reducible refine wpX_fn (fun W hW => c_N13 W (GE_ext (GE_ext hG off0.ext) hW).1) ?_ rfl ?_ ?_ ?_); (focus rfl); (focus kernel_rfl); (focus rfl); (try simp only [Act.put, mA, mB, mC]))
  (refine wpX_val (v := ?_) (by rfl) (fun W hW => ?_) ?_; rotate_left 1; (focus (go_simp; first | done | with_reducible rfl)); (try simp only [Act.put, mA, mB, mC]))
  refine wpX_loads (sub := c4 y8) (j := 4) (by rfl) rfl rfl (blk_rd k_t3) p4c1 (by kernel_rfl) (by kernel_rfl) ?_
  (try simp only [Act.put, mA, mB, mC])
  (refine wpX_val (v := ?_) (by rfl) (fun W hW => ?_) ?_; rotate_left 1; (focus (go_simp; first | done | with_reducible rfl)); (try simp only [Act.put, mA, mB, mC]))
  refine wpX_loads (sub := c4 x7) (j := 0) (by rfl) rfl rfl (blk_rd k_t3) p4c0 (by kernel_rfl) (by kernel_rfl) ?_
  (try simp only [Act.put, mA, mB, mC])
  ((with_reducible refine wpX_fn (fun W hW => c_N14 W (GE_ext (GE_ext hG off0.ext) hW).1) ?_ rfl ?_ ?_ ?_); (focus rfl); (focus kernel_rfl); (focus rfl); (try simp only [Act.put, mA, mB, mC]))
  ((with_reducible refine wpX_fn (fun W hW => c_N15 W (GE_ext (GE_ext hG off0.ext) hW).1) ?_ rfl ?_ ?_ ?_); (focus rfl); (focus kernel_rfl); (focus rfl); (try simp only [Act.put, mA, mB, mC]))
  refine wpX_nil ?_
  intro β W7 hE hN hD
  obtain ⟨n_t5, h_t5⟩ := hN _ (List.mem_cons_self ..)
  clear hN hD
  simp only [putAll, Act.put, mA, mB, mC, List.drop_succ_cons, List.drop_zero, List.drop_nil, List.length_cons, List.length_nil, Nat.add_zero] at n_t5 h_t5 ⊢
  have hO := off_ext hE
  generalize β 11 = p5_7 at *
  have nq_t2_t5 : p2_1 ≠ p5_7 := Nat.ne_of_lt (Nat.lt_of_lt_of_le (blk_lt k_t2) n_t5)
  have nq_t3_t5 : p3_2 ≠ p5_7 := Nat.ne_of_lt (Nat.lt_of_lt_of_le (blk_lt k_t3) n_t5)
  have nq_t4_t5 : p4_3 ≠ p5_7 := Nat.ne_of_lt (Nat.lt_of_lt_of_le (blk_lt k_t4) n_t5)
  have fb_t5 : Fb p5_7 w.heap.size [] := fb_new (Nat.le_trans sz n_t5)
  replace k_t2 := blk_off k_t2 hO nm0
  replace k_t3 := blk_off k_t3 hO nm0
  replace k_t4 := blk_off k_t4 hO nm0
  replace off0 := off0.step hO i0
  replace sz := off0.size
  clear hO hE β n_t5
  have k_t5 : Blk W7 p5_7 (c4 0) 26 := h_t5
  clear h_t5
  refine wpL_putrow (cells := c4 N15) (by rfl) rfl rfl rfl k_t5 (by kernel_rfl) (by kernel_rfl) (by kernel_rfl) ?_
  (try simp only [Act.put, mA, mB, mC])
  intro W8 hO h_
  replace k_t5 : Blk W8 p5_7 (c4 N15) 26 := h_
  clear h_
  replace k_t2 := blk_off k_t2 hO (nm1 nq_t2_t5)
  replace k_t3 := blk_off k_t3 hO (nm1 nq_t3_t5)
  replace k_t4 := blk_off k_t4 hO (nm1 nq_t4_t5)
  replace off0 := off0.step hO (i1 fb_t5)
  replace sz := off0.size
  clear hO
  refine wpL_nil ?_
  first | with_reducible refine NoPanic.normal (Q := Exit.then _ _) ?_ | with_reducible refine NoPanic.normal ?_
  go_upto_region 3 with fail
  refine wp_region_xn 11 [⟨11, 6, c4 0, 26⟩] (by kernel_rfl) ?_ (by kernel_rfl) ?_
  · intro x hx
    simp only [List.mem_cons, List.not_mem_nil, or_false] at hx
    subst hx; exact ⟨_, rfl, rfl, rfl, fun _ _ => by kernel_rfl⟩
  simp only [List.take_succ_cons, List.take_zero, List.take_nil]
  (try simp only [Act.put, mA, mB, mC])
  (refine wpX_val (v := ?_) (by rfl) (fun W hW => ?_) ?_; rotate_left 1; (focus (go_simp; first | done | with_reducible rfl)); (try simp only [Act.put, mA, mB, mC]))
  refine wpX_loads (sub := c4 y2) (j := 4) (by rfl) rfl rfl (blk_rd k_t2) p4c1 (by kernel_rfl) (by kernel_rfl) ?_
  (try simp only [Act.put, mA, mB, mC])
  (refine wpX_val (v := ?_) (by rfl) (fun W hW => ?_) ?_; rotate_left 1; (focus (go_simp; first | done | with_reducible rfl)); (try simp only [Act.put, mA, mB, mC]))
  refine wpX_loads (sub := c4 x1) (j := 0) (by rfl) rfl rfl (blk_rd k_t2) p4c0 (by kernel_rfl) (by kernel_rfl) ?_
  (try simp only [Act.put, mA, mB, mC])
  ((with_reducible refine wpX_fn (fun W hW => c_N16 W (GE_ext (GE_ext hG off0.ext) hW).1) ?_ rfl ?_ ?_ ?_); (focus rfl); (focus kernel_rfl); (focus rfl); (try simp only [Act.put, mA, mB, mC]))
  (refine wpX_val (v := ?_) (by rfl) (fun W hW => ?_) ?_; rotate_left 1; (focus (go_simp; first | done | with_reducible rfl)); (try simp only [Act.put, mA, mB, mC]))
  refine wpX_loads (sub := c4 y8) (j := 4) (by rfl) rfl rfl (blk_rd k_t3) p4c1 (by kernel_rfl) (by kernel_rfl) ?_
  (try simp only [Act.put, mA, mB, mC])
  (refine wpX_val (v := ?_) (by rfl) (fun W hW => ?_) ?_; rotate_left 1; (focus (go_simp; first | done | with_reducible rfl)); (try simp only [Act.put, mA, mB, mC]))
  refine wpX_loads (sub := c4 x7) (j := 0) (by rfl) rfl rfl (blk_rd k_t3) p4c0 (by kernel_rfl) (by kernel_rfl) ?_
  (try simp only [Act.put, mA, mB, mC])
  ((with_reducible refine wpX_fn (fun W hW => c_N17 W (GE_ext (GE_ext hG off0.ext) hW).1) ?_ rfl ?_ ?_ ?_); (focus rfl); (focus kernel_rfl); (focus rfl); (try simp only [Act.put, mA, mB, mC]))
  ((with_reducible refine wpX_fn (fun W hW => c_N18 W (GE_ext (GE_ext hG off0.ext) hW).1) ?_ rfl ?_ ?_ ?_); (focus rfl); (focus kernel_rfl); (focus rfl); (try simp only [Act.put, mA, mB, mC]))
  refine wpX_nil ?_
  intro β W9 hE hN hD
  obtain ⟨n_t6, h_t6⟩ := hN _ (List.mem_cons_self ..)
  clear hN hD
  simp only [putAll, Act.put, mA, mB, mC, List.drop_succ_cons, List.drop_zero, List.drop_nil, List.length_cons, List.length_nil, Nat.add_zero] at n_t6 h_t6 ⊢
  have hO := off_ext hE
  generalize β 11 = p6_9 at *
  have nq_t2_t6 : p2_1 ≠ p6_9 := Nat.ne_of_lt (Nat.lt_of_lt_of_le (blk_lt k_t2) n_t6)
  have nq_t3_t6 : p3_2 ≠ p6_9 := Nat.ne_of_lt (Nat.lt_of_lt_of_le (blk_lt k_t3) n_t6)
  have nq_t4_t6 : p4_3 ≠ p6_9 := Nat.ne_of_lt (Nat.lt_of_lt_of_le (blk_lt k_t4) n_t6)
  have nq_t5_t6 : p5_7 ≠ p6_9 := Nat.ne_of_lt (Nat.lt_of_lt_of_le (blk_lt k_t5) n_t6)
  have fb_t6 : Fb p6_9 w.heap.size [] := fb_new (Nat.le_trans sz n_t6)
  replace k_t2 := blk_off k_t2 hO nm0
  replace k_t3 := blk_off k_t3 hO nm0
  replace k_t4 := blk_off k_t4 hO nm0
  replace k_t5 := blk_off k_t5 hO nm0
  replace off0 := off0.step hO i0
  replace sz := off0.size
  clear hO hE β n_t6
  have k_t6 : Blk W9 p6_9 (c4 0) 26 := h_t6
  clear h_t6
  refine wpL_putrow (cells := c4 N18) (by rfl) rfl rfl rfl k_t6 (by kernel_rfl) (by kernel_rfl) (by kernel_rfl) ?_
  (try simp only [Act.put, mA, mB, mC])
  intro W10 hO h_
  replace k_t6 : Blk W10 p6_9 (c4 N18) 26 := h_
  clear h_
  replace k_t2 := blk_off k_t2 hO (nm1 nq_t2_t6)
  replace k_t3 := blk_off k_t3 hO (nm1 nq_t3_t6)
  replace k_t4 := blk_off k_t4 hO (nm1 nq_t4_t6)
  replace k_t5 := blk_off k_t5 hO (nm1 nq_t5_t6)
  replace off0 := off0.step hO (i1 fb_t6)
  replace sz := off0.size
  clear hO
  refine wpL_nil ?_
  first | with_reducible refine NoPanic.normal (Q := Exit.then _ _) ?_ | with_reducible refine NoPanic.normal ?_
  go_upto_region 4 with fail
  refine wp_region_xn 7 [⟨7, 7, c4 0, 26⟩] (by kernel_rfl) ?_ (by kernel_rfl) ?_
  · intro x hx
    simp only [List.mem_cons, List.not_mem_nil, or_false] at hx
    subst hx; exact ⟨_, rfl, rfl, rfl, fun _ _ => by kernel_rfl⟩
  simp only [List.take_succ_cons, List.take_zero, List.take_nil]
  (try simp only [Act.put, mA, mB, mC])
  (refine wpX_val (v := ?_) (by rfl) (fun W hW => ?_) ?_; rotate_left 1; (focus (go_simp; first | done | with_reducible rfl)); (try simp only [Act.put, mA, mB, mC]))
  refine wpX_loads (sub := c4 t4) (j := 12) (by rfl) rfl rfl (blk_rd k_t2) p4c3 (by kernel_rfl) (by kernel_rfl) ?_
  (try simp only [Act.put, mA, mB, mC])
  refine wpX_load (by rfl) rfl rfl ((GE_ext hG off0.ext).2.2.2.1 hd) (by kernel_rfl) (by kernel_rfl) ?_
  (try simp only [Act.put, mA, mB, mC])
  ((with_reducible refine wpX_fn (fun W hW => c_N19 W (GE_ext (GE_ext hG off0.ext) hW).1) ?_ rfl ?_ ?_ ?_); (focus rfl); (focus kernel_rfl); (focus rfl); (try simp only [Act.put, mA, mB, mC]))
  (refine wpX_val (v := ?_) (by rfl) (fun W hW => ?_) ?_; rotate_left 1; (focus (go_simp; first | done | with_reducible rfl)); (try simp only [Act.put, mA, mB, mC]))
  refine wpX_loads (sub := c4 t10) (j := 12) (by rfl) rfl rfl (blk_rd k_t3) p4c3 (by kernel_rfl) (by kernel_rfl) ?_
  (try simp only [Act.put, mA, mB, mC])
  ((with_reducible refine wpX_fn (fun W hW => c_N20 W (GE_ext (GE_ext hG off0.ext) hW).1) ?_ rfl ?_ ?_ ?_); (focus rfl); (focus kernel_rfl); (focus rfl); (try simp only [Act.put, mA, mB, mC]))
  refine wpX_nil ?_
  intro β W11 hE hN hD
  obtain ⟨n_t7, h_t7⟩ := hN _ (List.mem_cons_self ..)
  clear hN hD
  simp only [putAll, Act.put, mA, mB, mC, List.drop_succ_cons, List.drop_zero, List.drop_nil, List.length_cons, List.length_nil, Nat.add_zero] at n_t7 h_t7 ⊢
  have hO := off_ext hE
  generalize β 7 = p7_11 at *
  have nq_t2_t7 : p2_1 ≠ p7_11 := Nat.ne_of_lt (Nat.lt_of_lt_of_le (blk_lt k_t2) n_t7)
  have nq_t3_t7 : p3_2 ≠ p7_11 := Nat.ne_of_lt (Nat.lt_of_lt_of_le (blk_lt k_t3) n_t7)
  have nq_t4_t7 : p4_3 ≠ p7_11 := Nat.ne_of_lt (Nat.lt_of_lt_of_le (blk_lt k_t4) n_t7)
  have nq_t5_t7 : p5_7 ≠ p7_11 := Nat.ne_of_lt (Nat.lt_of_lt_of_le (blk_lt k_t5) n_t7)
  have nq_t6_t7 : p6_9 ≠ p7_11 := Nat.ne_of_lt (Nat.lt_of_lt_of_le (blk_lt k_t6) n_t7)
  have fb_t7 : Fb p7_11 w.heap.size [] := fb_new (Nat.le_trans sz n_t7)
  replace k_t2 := blk_off k_t2 hO nm0
  replace k_t3 := blk_off k_t3 hO nm0
  replace k_t4 := blk_off k_t4 hO nm0
  replace k_t5 := blk_off k_t5 hO nm0
  replace k_t6 := blk_off k_t6 hO nm0
  replace off0 := off0.step hO i0
  replace sz := off0.size
  clear hO hE β n_t7
  have k_t7 : Blk W11 p7_11 (c4 0) 26 := h_t7
  clear h_t7
  refine wpL_putrow (cells := c4 N20) (by rfl) rfl rfl rfl k_t7 (by kernel_rfl) (by kernel_rfl) (by kernel_rfl) ?_
  (try simp only [Act.put, mA, mB, mC])
  intro W12 hO h_
  replace k_t7 : Blk W12 p7_11 (c4 N20) 26 := h_
  clear h_
  replace k_t2 := blk_off k_t2 hO (nm1 nq_t2_t7)
  replace k_t3 := blk_off k_t3 hO (nm1 nq_t3_t7)
  replace k_t4 := blk_off k_t4 hO (nm1 nq_t4_t7)
  replace k_t5 := blk_off k_t5 hO (nm1 nq_t5_t7)
  replace k_t6 := blk_off k_t6 hO (nm1 nq_t6_t7)
  replace off0 := off0.step hO (i1 fb_t7)
  replace sz := off0.size
  clear hO
  refine wpL_nil ?_
  first | with_reducible refine NoPanic.normal (Q := Exit.then _ _) ?_ | with_reducible refine NoPanic.normal ?_
  go_upto_region 5 with fail
  refine wp_region_xn 8 [⟨8, 8, c4 0, 26⟩] (by kernel_rfl) ?_ (by kernel_rfl) ?_
  · intro x hx
    simp only [List.mem_cons, List.not_mem_nil, or_false] at hx
    subst hx; exact ⟨_, rfl, rfl, rfl, fun _ _ => by kernel_rfl⟩
  simp only [List.take_succ_cons, List.take_zero, List.take_nil]
  (try simp only [Act.put, mA, mB, mC])
  (refine wpX_val (v := ?_) (by rfl) (fun W hW => ?_) ?_; rotate_left 1; (focus (go_simp; first | done | with_reducible rfl)); (try simp only [Act.put, mA, mB, mC]))
  refine wpX_loads (sub := c4 z3) (j := 8) (by rfl) rfl rfl (blk_rd k_t2) p4c2 (by kernel_rfl) (by kernel_rfl) ?_
  (try simp only [Act.put, mA, mB, mC])
  (refine wpX_val (v := ?_) (by rfl) (fun W hW => ?_) ?_; rotate_left 1; (focus (go_simp; first | done | with_reducible rfl)); (try simp only [Act.put, mA, mB, mC]))
  refine wpX_loads (sub := c4 z3) (j := 8) (by rfl) rfl rfl (blk_rd k_t2) p4c2 (by kernel_rfl) (by kernel_rfl) ?_
  (try simp only [Act.put, mA, mB, mC])
  ((with_reducible refine wpX_fn (fun W hW => c_N21 W (GE_ext (GE_ext hG off0.ext) hW).1) ?_ rfl ?_ ?_ ?_); (focus rfl); (focus kernel_rfl); (focus rfl); (try simp only [Act.put, mA, mB, mC]))
  (refine wpX_val (v := ?_) (by rfl) (fun W hW => ?_) ?_; rotate_left 1; (focus (go_simp; first | done | with_reducible rfl)); (try simp only [Act.put, mA, mB, mC]))
  refine wpX_loads (sub := c4 z9) (j := 8) (by rfl) rfl rfl (blk_rd k_t3) p4c2 (by kernel_rfl) (by kernel_rfl) ?_
  (try simp only [Act.put, mA, mB, mC])
  ((with_reducible refine wpX_fn (fun W hW => c_N22 W (GE_ext (GE_ext hG off0.ext) hW).1) ?_ rfl ?_ ?_ ?_); (focus rfl); (focus kernel_rfl); (focus rfl); (try simp only [Act.put, mA, mB, mC]))
  refine wpX_nil ?_
  intro β W13 hE hN hD
  obtain ⟨n_t8, h_t8⟩ := hN _ (List.mem_cons_self ..)
  clear hN hD
  simp only [putAll, Act.put, mA, mB, mC, List.drop_succ_cons, List.drop_zero, List.drop_nil, List.length_cons, List.length_nil, Nat.add_zero] at n_t8 h_t8 ⊢
  have hO := off_ext hE
  generalize β 8 = p8_13 at *
  have nq_t2_t8 : p2_1 ≠ p8_13 := Nat.ne_of_lt (Nat.lt_of_lt_of_le (blk_lt k_t2) n_t8)
  have nq_t3_t8 : p3_2 ≠ p8_13 := Nat.ne_of_lt (Nat.lt_of_lt_of_le (blk_lt k_t3) n_t8)
  have nq_t4_t8 : p4_3 ≠ p8_13 := Nat.ne_of_lt (Nat.lt_of_lt_of_le (blk_lt k_t4) n_t8)
  have nq_t5_t8 : p5_7 ≠ p8_13 := Nat.ne_of_lt (Nat.lt_of_lt_of_le (blk_lt k_t5) n_t8)
  have nq_t6_t8 : p6_9 ≠ p8_13 := Nat.ne_of_lt (Nat.lt_of_lt_of_le (blk_lt k_t6) n_t8)
  have nq_t7_t8 : p7_11 ≠ p8_13 := Nat.ne_of_lt (Nat.lt_of_lt_of_le (blk_lt k_t7) n_t8)
  have fb_t8 : Fb p8_13 w.heap.size [] := fb_new (Nat.le_trans sz n_t8)
  replace k_t2 := blk_off k_t2 hO nm0
  replace k_t3 := blk_off k_t3 hO nm0
  replace k_t4 := blk_off k_t4 hO nm0
  replace k_t5 := blk_off k_t5 hO nm0
  replace k_t6 := blk_off k_t6 hO nm0
  replace k_t7 := blk_off k_t7 hO nm0
  replace off0 := off0.step hO i0
  replace sz := off0.size
  clear hO hE β n_t8
  have k_t8 : Blk W13 p8_13 (c4 0) 26 := h_t8
  clear h_t8
  refine wpL_putrow (cells := c4 N22) (by rfl) rfl rfl rfl k_t8 (by kernel_rfl) (by kernel_rfl) (by kernel_rfl) ?_
  (try simp only [Act.put, mA, mB, mC])
  intro W14 hO h_
  replace k_t8 : Blk W14 p8_13 (c4 N22) 26 := h_
  clear h_
  replace k_t2 := blk_off k_t2 hO (nm1 nq_t2_t8)
  replace k_t3 := blk_off k_t3 hO (nm1 nq_t3_t8)
  replace k_t4 := blk_off k_t4 hO (nm1 nq_t4_t8)
  replace k_t5 := blk_off k_t5 hO (nm1 nq_t5_t8)
  replace k_t6 := blk_off k_t6 hO (nm1 nq_t6_t8)
  replace k_t7 := blk_off k_t7 hO (nm1 nq_t7_t8)
  replace off0 := off0.step hO (i1 fb_t8)
  replace sz := off0.size
  clear hO
  refine wpL_nil ?_
  first | with_reducible refine NoPanic.normal (Q := Exit.then _ _) ?_ | with_reducible refine NoPanic.normal ?_
  go_upto_region 6 with fail
  refine wp_region_xn 12 [⟨12, 9, c4 0, 26⟩, ⟨13, 10, c4 0, 26⟩, ⟨14, 11, c4 0, 26⟩, ⟨15, 12, c4 0, 26⟩] (by kernel_rfl) ?_ (by kernel_rfl) ?_
  · intro x hx
    simp only [List.mem_cons, List.not_mem_nil, or_false] at hx
    rcases hx with rfl | rfl | rfl | rfl <;> exact ⟨_, rfl, rfl, rfl, fun _ _ => by kernel_rfl⟩
  simp only [List.take_succ_cons, List.take_zero, List.take_nil]
  (try simp only [Act.put, mA, mB, mC])
  refine wpX_load (by rfl) rfl rfl (blk_rd k_t6) (by kernel_rfl) (by kernel_rfl) ?_
  (try simp only [Act.put, mA, mB, mC])
  refine wpX_load (by rfl) rfl rfl (blk_rd k_t5) (by kernel_rfl) (by kernel_rfl) ?_
  (try simp only [Act.put, mA, mB, mC])
  ((with_reducible refine wpX_fn (fun W hW => c_N23 W (GE_ext (GE_ext hG off0.ext) hW).1) ?_ rfl ?_ ?_ ?_); (focus rfl); (focus kernel_rfl); (focus rfl); (try simp only [Act.put, mA, mB, mC]))
  refine wpX_load (by rfl) rfl rfl (blk_rd k_t8) (by kernel_rfl) (by kernel_rfl) ?_
  (try simp only [Act.put, mA, mB, mC])
  refine wpX_load (by rfl) rfl rfl (blk_rd k_t7) (by kernel_rfl) (by kernel_rfl) ?_
  (try simp only [Act.put, mA, mB, mC])
  ((with_reducible refine wpX_fn (fun W hW => c_N24 W (GE_ext (GE_ext hG off0.ext) hW).1) ?_ rfl ?_ ?_ ?_); (focus rfl); (focus kernel_rfl); (focus rfl); (try simp only [Act.put, mA, mB, mC]))
  refine wpX_load (by rfl) rfl rfl (blk_rd k_t8) (by kernel_rfl) (by kernel_rfl) ?_
  (try simp only [Act.put, mA, mB, mC])
  refine wpX_load (by rfl) rfl rfl (blk_rd k_t7) (by kernel_rfl) (by kernel_rfl) ?_
  (try simp only [Act.put, mA, mB, mC])
  ((with_reducible refine wpX_fn (fun W hW => c_N25 W (GE_ext (GE_ext hG off0.ext) hW).1) ?_ rfl ?_ ?_ ?_); (focus rfl); (focus kernel_rfl); (focus rfl); (try simp only [Act.put, mA, mB, mC]))
  refine wpX_load (by rfl) rfl rfl (blk_rd k_t6) (by kernel_rfl) (by kernel_rfl) ?_
  (try simp only [Act.put, mA, mB, mC])
  refine wpX_load (by rfl) rfl rfl (blk_rd k_t5) (by kernel_rfl) (by kernel_rfl) ?_
  (try simp only [Act.put, mA, mB, mC])
  ((with_reducible refine wpX_fn (fun W hW => c_N26 W (GE_ext (GE_ext hG off0.ext) hW).1) ?_ rfl ?_ ?_ ?_); (focus rfl); (focus kernel_rfl); (focus rfl); (try simp only [Act.put, mA, mB, mC]))
  refine wpX_nil ?_
  intro β W15 hE hN hD
  obtain ⟨n_t9, h_t9⟩ := hN _ (List.mem_cons_self ..)
  obtain ⟨n_t10, h_t10⟩ := hN _ (List.mem_cons_of_mem _ (List.mem_cons_self ..))
  have nq_t9_t10 := (hD _ (List.mem_cons_of_mem _ (List.mem_cons_self ..)) _ (List.mem_cons_self ..) (by decide)).symm
  obtain ⟨n_t11, h_t11⟩ := hN _ (List.mem_cons_of_mem _ (List.mem_cons_of_mem _ (List.mem_cons_self ..)))
  have nq_t9_t11 := (hD _ (List.mem_cons_of_mem _ (List.mem_cons_of_mem _ (List.mem_cons_self ..))) _ (List.mem_cons_self ..) (by decide)).symm
  have nq_t10_t11 := (hD _ (List.mem_cons_of_mem _ (List.mem_cons_of_mem _ (List.mem_cons_self ..))) _ (List.mem_cons_of_mem _ (List.mem_cons_self ..)) (by decide)).symm
  obtain ⟨n_t12, h_t12⟩ := hN _ (List.mem_cons_of_mem _ (List.mem_cons_of_mem _ (List.mem_cons_of_mem _ (List.mem_cons_self ..))))
  have nq_t9_t12 := (hD _ (List.mem_cons_of_mem _ (List.mem_cons_of_mem _ (List.mem_cons_of_mem _ (List.mem_cons_self ..)))) _ (List.mem_cons_self ..) (by decide)).symm
  have nq_t10_t12 := (hD _ (List.mem_cons_of_mem _ (List.mem_cons_of_mem _ (List.mem_cons_of_mem _ (List.mem_cons_self ..)))) _ (List.mem_cons_of_mem _ (List.mem_cons_self ..)) (by decide)).symm
  have nq_t11_t12 := (hD _ (List.mem_cons_of_mem _ (List.mem_cons_of_mem _ (List.mem_cons_of_mem _ (List.mem_cons_self ..)))) _ (List.mem_cons_of_mem _ (List.mem_cons_of_mem _ (List.mem_cons_self ..))) (by decide)).symm
  clear hN hD
  simp only [putAll, Act.put, mA, mB, mC, List.drop_succ_cons, List.drop_zero, List.drop_nil, List.length_cons, List.length_nil, Nat.add_zero] at n_t9 h_t9 n_t10 h_t10 n_t11 h_t11 n_t12 h_t12 nq_t9_t10 nq_t9_t11 nq_t10_t11 nq_t9_t12 nq_t10_t12 nq_t11_t12 ⊢
  have hO := off_ext hE
  generalize β 12 = p9_15 at *
  have nq_t2_t9 : p2_1 ≠ p9_15 := Nat.ne_of_lt (Nat.lt_of_lt_of_le (blk_lt k_t2) n_t9)
  have nq_t3_t9 : p3_2 ≠ p9_15 := Nat.ne_of_lt (Nat.lt_of_lt_of_le (blk_lt k_t3) n_t9)
  have nq_t4_t9 : p4_3 ≠ p9_15 := Nat.ne_of_lt (Nat.lt_of_lt_of_le (blk_lt k_t4) n_t9)
  have nq_t5_t9 : p5_7 ≠ p9_15 := Nat.ne_of_lt (Nat.lt_of_lt_of_le (blk_lt k_t5) n_t9)
  have nq_t6_t9 : p6_9 ≠ p9_15 := Nat.ne_of_lt (Nat.lt_of_lt_of_le (blk_lt k_t6) n_t9)
  have nq_t7_t9 : p7_11 ≠ p9_15 := Nat.ne_of_lt (Nat.lt_of_lt_of_le (blk_lt k_t7) n_t9)
  have nq_t8_t9 : p8_13 ≠ p9_15 := Nat.ne_of_lt (Nat.lt_of_lt_of_le (blk_lt k_t8) n_t9)
  have fb_t9 : Fb p9_15 w.heap.size [] := fb_new (Nat.le_trans sz n_t9)
  generalize β 13 = p10_15 at *
  have nq_t2_t10 : p2_1 ≠ p10_15 := Nat.ne_of_lt (Nat.lt_of_lt_of_le (blk_lt k_t2) n_t10)
  have nq_t3_t10 : p3_2 ≠ p10_15 := Nat.ne_of_lt (Nat.lt_of_lt_of_le (blk_lt k_t3) n_t10)
  have nq_t4_t10 : p4_3 ≠ p10_15 := Nat.ne_of_lt (Nat.lt_of_lt_of_le (blk_lt k_t4) n_t10)
  have nq_t5_t10 : p5_7 ≠ p10_15 := Nat.ne_of_lt (Nat.lt_of_lt_of_le (blk_lt k_t5) n_t10)
  have nq_t6_t10 : p6_9 ≠ p10_15 := Nat.ne_of_lt (Nat.lt_of_lt_of_le (blk_lt k_t6) n_t10)
  have nq_t7_t10 : p7_11 ≠ p10_15 := Nat.ne_of_lt (Nat.lt_of_lt_of_le (blk_lt k_t7) n_t10)
  have nq_t8_t10 : p8_13 ≠ p10_15 := Nat.ne_of_lt (Nat.lt_of_lt_of_le (blk_lt k_t8) n_t10)
  have fb_t10 : Fb p10_15 w.heap.size [] := fb_new (Nat.le_trans sz n_t10)
  generalize β 14 = p11_15 at *
  have nq_t2_t11 : p2_1 ≠ p11_15 := Nat.ne_of_lt (Nat.lt_of_lt_of_le (blk_lt k_t2) n_t11)
  have nq_t3_t11 : p3_2 ≠ p11_15 := Nat.ne_of_lt (Nat.lt_of_lt_of_le (blk_lt k_t3) n_t11)
  have nq_t4_t11 : p4_3 ≠ p11_15 := Nat.ne_of_lt (Nat.lt_of_lt_of_le (blk_lt k_t4) n_t11)
  have nq_t5_t11 : p5_7 ≠ p11_15 := Nat.ne_of_lt (Nat.lt_of_lt_of_le (blk_lt k_t5) n_t11)
  have nq_t6_t11 : p6_9 ≠ p11_15 := Nat.ne_of_lt (Nat.lt_of_lt_of_le (blk_lt k_t6) n_t11)
  have nq_t7_t11 : p7_11 ≠ p11_15 := Nat.ne_of_lt (Nat.lt_of_lt_of_le (blk_lt k_t7) n_t11)
  have nq_t8_t11 : p8_13 ≠ p11_15 := Nat.ne_of_lt (Nat.lt_of_lt_of_le (blk_lt k_t8) n_t11)
  have fb_t11 : Fb p11_15 w.heap.size [] := fb_new (Nat.le_trans sz n_t11)
  generalize β 15 = p12_15 at *
  have nq_t2_t12 : p2_1 ≠ p12_15 := Nat.ne_of_lt (Nat.lt_of_lt_of_le (blk_lt k_t2) n_t12)
  have nq_t3_t12 : p3_2 ≠ p12_15 := Nat.ne_of_lt (Nat.lt_of_lt_of_le (blk_lt k_t3) n_t12)
  have nq_t4_t12 : p4_3 ≠ p12_15 := Nat.ne_of_lt (Nat.lt_of_lt_of_le (blk_lt k_t4) n_t12)
  have nq_t5_t12 : p5_7 ≠ p12_15 := Nat.ne_of_lt (Nat.lt_of_lt_of_le (blk_lt k_t5) n_t12)
  have nq_t6_t12 : p6_9 ≠ p12_15 := Nat.ne_of_lt (Nat.lt_of_lt_of_le (blk_lt k_t6) n_t12)
  have nq_t7_t12 : p7_11 ≠ p12_15 := Nat.ne_of_lt (Nat.lt_of_lt_of_le (blk_lt k_t7) n_t12)
  have nq_t8_t12 : p8_13 ≠ p12_15 := Nat.ne_of_lt (Nat.lt_of_lt_of_le (blk_lt k_t8) n_t12)
  have fb_t12 : Fb p12_15 w.heap.size [] := fb_new (Nat.le_trans sz n_t12)
  replace k_t2 := blk_off k_t2 hO nm0
  replace k_t3 := blk_off k_t3 hO nm0
  replace k_t4 := blk_off k_t4 hO nm0
  replace k_t5 := blk_off k_t5 hO nm0
  replace k_t6 := blk_off k_t6 hO nm0
  replace k_t7 := blk_off k_t7 hO nm0
  replace k_t8 := blk_off k_t8 hO nm0
  replace off0 := off0.step hO i0
  replace sz := off0.size
  clear hO hE β n_t9 n_t10 n_t11 n_t12
  have k_t9 : Blk W15 p9_15 (c4 0) 26 := h_t9
  clear h_t9
  have k_t10 : Blk W15 p10_15 (c4 0) 26 := h_t10
  clear h_t10
  have k_t11 : Blk W15 p11_15 (c4 0) 26 := h_t11
  clear h_t11
  have k_t12 : Blk W15 p12_15 (c4 0) 26 := h_t12
  clear h_t12
  refine wpL_putrow (cells := c4 N23) (by rfl) rfl rfl rfl k_t9 (by kernel_rfl) (by kernel_rfl) (by kernel_rfl) ?_
  (try simp only [Act.put, mA, mB, mC])
  intro W16 hO h_
  replace k_t9 : Blk W16 p9_15 (c4 N23) 26 := h_
  clear h_
  replace k_t2 := blk_off k_t2 hO (nm1 nq_t2_t9)
  replace k_t3 := blk_off k_t3 hO (nm1 nq_t3_t9)
  replace k_t4 := blk_off k_t4 hO (nm1 nq_t4_t9)
  replace k_t5 := blk_off k_t5 hO (nm1 nq_t5_t9)
  replace k_t6 := blk_off k_t6 hO (nm1 nq_t6_t9)
  replace k_t7 := blk_off k_t7 hO (nm1 nq_t7_t9)
  replace k_t8 := blk_off k_t8 hO (nm1 nq_t8_t9)
  replace k_t10 := blk_off k_t10 hO (nm1 nq_t9_t10.symm)
  replace k_t11 := blk_off k_t11 hO (nm1 nq_t9_t11.symm)
  replace k_t12 := blk_off k_t12 hO (nm1 nq_t9_t12.symm)
  replace off0 := off0.step hO (i1 fb_t9)
  replace sz := off0.size
  clear hO
  refine wpL_putrow (cells := c4 N24) (by rfl) rfl rfl rfl k_t10 (by kernel_rfl) (by kernel_rfl) (by kernel_rfl) ?_
  (try simp only [Act.put, mA, mB, mC])
  intro W17 hO h_
  replace k_t10 : Blk W17 p10_15 (c4 N24) 26 := h_
  clear h_
  replace k_t2 := blk_off k_t2 hO (nm1 nq_t2_t10)
  replace k_t3 := blk_off k_t3 hO (nm1 nq_t3_t10)
  replace k_t4 := blk_off k_t4 hO (nm1 nq_t4_t10)
  replace k_t5 := blk_off k_t5 hO (nm1 nq_t5_t10)
  replace k_t6 := blk_off k_t6 hO (nm1 nq_t6_t10)
  replace k_t7 := blk_off k_t7 hO (nm1 nq_t7_t10)
  replace k_t8 := blk_off k_t8 hO (nm1 nq_t8_t10)
  replace k_t9 := blk_off k_t9 hO (nm1 nq_t9_t10)
  replace k_t11 := blk_off k_t11 hO (nm1 nq_t10_t11.symm)
  replace k_t12 := blk_off k_t12 hO (nm1 nq_t10_t12.symm)
  replace off0 := off0.step hO (i1 fb_t10)
  replace sz := off0.size
  clear hO
  refine wpL_putrow (cells := c4 N25) (by rfl) rfl rfl rfl k_t11 (by kernel_rfl) (by kernel_rfl) (by kernel_rfl) ?_
  (try simp only [Act.put, mA, mB, mC])
  intro W18 hO h_
  replace k_t11 : Blk W18 p11_15 (c4 N25) 26 := h_
  clear h_
  replace k_t2 := blk_off k_t2 hO (nm1 nq_t2_t11)
  replace k_t3 := blk_off k_t3 hO (nm1 nq_t3_t11)
  replace k_t4 := blk_off k_t4 hO (nm1 nq_t4_t11)
  replace k_t5 := blk_off k_t5 hO (nm1 nq_t5_t11)
  replace k_t6 := blk_off k_t6 hO (nm1 nq_t6_t11)
  replace k_t7 := blk_off k_t7 hO (nm1 nq_t7_t11)
  replace k_t8 := blk_off k_t8 hO (nm1 nq_t8_t11)
  replace k_t9 := blk_off k_t9 hO (nm1 nq_t9_t11)
  replace k_t10 := blk_off k_t10 hO (nm1 nq_t10_t11)
  replace k_t12 := blk_off k_t12 hO (nm1 nq_t11_t12.symm)
  replace off0 := off0.step hO (i1 fb_t11)
  replace sz := off0.size
  clear hO
  refine wpL_putrow (cells := c4 N26) (by rfl) rfl rfl rfl k_t12 (by kernel_rfl) (by kernel_rfl) (by kernel_rfl) ?_
  (try simp only [Act.put, mA, mB, mC])
  intro W19 hO h_
  replace k_t12 : Blk W19 p12_15 (c4 N26) 26 := h_
  clear h_
  replace k_t2 := blk_off k_t2 hO (nm1 nq_t2_t12)
  replace k_t3 := blk_off k_t3 hO (nm1 nq_t3_t12)
  replace k_t4 := blk_off k_t4 hO (nm1 nq_t4_t12)
  replace k_t5 := blk_off k_t5 hO (nm1 nq_t5_t12)
  replace k_t6 := blk_off k_t6 hO (nm1 nq_t6_t12)
  replace k_t7 := blk_off k_t7 hO (nm1 nq_t7_t12)
  replace k_t8 := blk_off k_t8 hO (nm1 nq_t8_t12)
  replace k_t9 := blk_off k_t9 hO (nm1 nq_t9_t12)
  replace k_t10 := blk_off k_t10 hO (nm1 nq_t10_t12)
  replace k_t11 := blk_off k_t11 hO (nm1 nq_t11_t12)
  replace off0 := off0.step hO (i1 fb_t12)
  replace sz := off0.size
  clear hO
  refine wpL_nil ?_
  first | with_reducible refine NoPanic.normal (Q := Exit.then _ _) ?_ | with_reducible refine NoPanic.normal ?_
  go_upto_region 7 with fail
  refine wp_region_xn 13 [] (by kernel_rfl) (fun x hx => by cases hx) (by kernel_rfl) ?_
  simp only [List.take_succ_cons, List.take_zero, List.take_nil]
  (try simp only [Act.put, mA, mB, mC])
  refine wpX_load (by rfl) rfl rfl (blk_rd k_t9) (by kernel_rfl) (by kernel_rfl) ?_
  (try simp only [Act.put, mA, mB, mC])
  refine wpX_load (by rfl) rfl rfl (blk_rd k_t10) (by kernel_rfl) (by kernel_rfl) ?_
  (try simp only [Act.put, mA, mB, mC])
  ((with_reducible refine wpX_fn (fun W hW => c_N27 W (GE_ext (GE_ext hG off0.ext) hW).1) ?_ rfl ?_ ?_ ?_); (focus rfl); (focus kernel_rfl); (focus rfl); (try simp only [Act.put, mA, mB, mC]))
  refine wpX_load (by rfl) rfl rfl (blk_rd k_t11) (by kernel_rfl) (by kernel_rfl) ?_
  (try simp only [Act.put, mA, mB, mC])
  refine wpX_load (by rfl) rfl rfl (blk_rd k_t12) (by kernel_rfl) (by kernel_rfl) ?_
  (try simp only [Act.put, mA, mB, mC])
  ((with_reducible refine wpX_fn (fun W hW => c_N28 W (GE_ext (GE_ext hG off0.ext) hW).1) ?_ rfl ?_ ?_ ?_); (focus rfl); (focus kernel_rfl); (focus rfl); (try simp only [Act.put, mA, mB, mC]))
  refine wpX_load (by rfl) rfl rfl (blk_rd k_t10) (by kernel_rfl) (by kernel_rfl) ?_
  (try simp only [Act.put, mA, mB, mC])
  refine wpX_load (by rfl) rfl rfl (blk_rd k_t11) (by kernel_rfl) (by kernel_rfl) ?_
  (try simp only [Act.put, mA, mB, mC])
  ((with_reducible refine wpX_fn (fun W hW => c_N29 W (GE_ext (GE_ext hG off0.ext) hW).1) ?_ rfl ?_ ?_ ?_); (focus rfl); (focus kernel_rfl); (focus rfl); (try simp only [Act.put, mA, mB, mC]))
  refine wpX_load (by rfl) rfl rfl (blk_rd k_t9) (by kernel_rfl) (by kernel_rfl) ?_
  (try simp only [Act.put, mA, mB, mC])
  refine wpX_load (by rfl) rfl rfl (blk_rd k_t12) (by kernel_rfl) (by kernel_rfl) ?_
  (try simp only [Act.put, mA, mB, mC])
  ((with_reducible refine wpX_fn (fun W hW => c_N30 W (GE_ext (GE_ext hG off0.ext) hW).1) ?_ rfl ?_ ?_ ?_); (focus rfl); (focus kernel_rfl); (focus rfl); (try simp only [Act.put, mA, mB, mC]))
  refine wpX_val (v := .agg (p4 N27 N28 N29 N30)) (by rfl) (fun _ _ => by kernel_rfl) ?_
  (try simp only [Act.put, mA, mB, mC])
  refine wpX_nil ?_
  intro β W20 hE hN hD
  clear hN hD
  simp only [putAll, Act.put, mA, mB, mC, List.drop_succ_cons, List.drop_zero, List.drop_nil, List.length_cons, List.length_nil, Nat.add_zero]
  have hO := off_ext hE
  replace k_t2 := blk_off k_t2 hO nm0
  replace k_t3 := blk_off k_t3 hO nm0
  replace k_t4 := blk_off k_t4 hO nm0
  replace k_t5 := blk_off k_t5 hO nm0
  replace k_t6 := blk_off k_t6 hO nm0
  replace k_t7 := blk_off k_t7 hO nm0
  replace k_t8 := blk_off k_t8 hO nm0
  replace k_t9 := blk_off k_t9 hO nm0
  replace k_t10 := blk_off k_t10 hO nm0
  replace k_t11 := blk_off k_t11 hO nm0
  replace k_t12 := blk_off k_t12 hO nm0
  replace off0 := off0.step hO i0
  replace sz := off0.size
  clear hO hE β
  refine wpL_putrow (cells := p4 N27 N28 N29 N30) (by rfl) rfl rfl rfl k_t4 (by kernel_rfl) (by kernel_rfl) (by kernel_rfl) ?_
  (try simp only [Act.put, mA, mB, mC])
  intro W21 hO h_
  replace k_t4 : Blk W21 p4_3 (p4 N27 N28 N29 N30) 28 := h_
  clear h_
  replace k_t2 := blk_off k_t2 hO (nm1 nq_t2_t4)
  replace k_t3 := blk_off k_t3 hO (nm1 nq_t3_t4)
  replace k_t5 := blk_off k_t5 hO (nm1 nq_t4_t5.symm)
  replace k_t6 := blk_off k_t6 hO (nm1 nq_t4_t6.symm)
  replace k_t7 := blk_off k_t7 hO (nm1 nq_t4_t7.symm)
  replace k_t8 := blk_off k_t8 hO (nm1 nq_t4_t8.symm)
  replace k_t9 := blk_off k_t9 hO (nm1 nq_t4_t9.symm)
  replace k_t10 := blk_off k_t10 hO (nm1 nq_t4_t10.symm)
  replace k_t11 := blk_off k_t11 hO (nm1 nq_t4_t11.symm)
  replace k_t12 := blk_off k_t12 hO (nm1 nq_t4_t12.symm)
  replace off0 := off0.step hO (i1 fb_t4)
  replace sz := off0.size
  clear hO
  refine wpL_nil ?_
  first | with_reducible refine NoPanic.normal (Q := Exit.then _ _) ?_ | with_reducible refine NoPanic.normal ?_
  go_wp2
  exact bodyPost_ret (res_row rfl rfl k_t4 (by kernel_rfl) (by kernel_rfl)) rfl ⟨rfl, off0.ext⟩
set_option maxRecDepth 100000 in
set_option maxHeartbeats 1500000 in
theorem eNeg_c {X1 Y1 Z1 T1 : Nat} {p1 : Pr} (h1 : RW X1 Y1 Z1 T1 p1) :
    ∃ X Y Z T, RN X Y Z T (pneg p1) ∧ ∀ w, GE kn w → Calls Tryd.prog 12 #[.agg (p4 X1 Y1 Z1 T1)] w fun e w' => Ret (.agg (p4 X Y Z T)) w w' e := by
  obtain ⟨x1, y2, z3, t4, r5, c6⟩ := eWhole_c (kn := kn) h1
  have c_N7 := fNeg_c x1 (lt_pp r5.x)
  obtain ⟨N7, hN7⟩ : ∃ v_, v_ = (PP - x1 % PP) % PP := ⟨_, rfl⟩
  rw [← hN7] at c_N7
  have lN7 : N7 < PP := by rw [hN7]; exact mod_pp _
  have bN7 := lt_pp lN7
  have HN7 := Lib.hid hN7
  clear hN7
  have c_N8 := fNeg_c t4 (lt_pp r5.t)
  obtain ⟨N8, hN8⟩ : ∃ v_, v_ = (PP - t4 % PP) % PP := ⟨_, rfl⟩
  rw [← hN8] at c_N8
  have lN8 : N8 < PP := by rw [hN8]; exact mod_pp _
  have bN8 := lt_pp lN8
  have HN8 := Lib.hid hN8
  clear hN8
  refine ⟨N7, y2, z3, N8, rn_neg r5 HN7.out HN8.out, fun w hG => ?_⟩
  have off0 : Off [] w w := Off.refl _ _
  have sz := off0.size
  go_enter Tryd.func12, Tryd.ntmps12
  go_upto_region 0 with fail
  refine wp_region_lit ?_
  refine wpL_new (z := p4 X1 Y1 Z1 T1) (t := 28) (by rfl) (by first | kernel_rfl | (go_simp; done) | (go_simp; rfl)) ?_
  (try simp only [Act.put, mA, mB, mC])
  intro p1_1 W1 n_t1 hO h_
  have fb_t1 : Fb p1_1 w.heap.size [] := fb_new (Nat.le_trans sz n_t1)
  replace off0 := off0.step hO i0
  replace sz := off0.size
  have k_t1 := h_
  clear hO h_ n_t1
  refine wpL_new (z := p4 0 0 0 0) (t := 28) (by rfl) (by first | kernel_rfl | (go_simp; done) | (go_simp; rfl)) ?_
  (try simp only [Act.put, mA, mB, mC])
  intro p2_2 W2 n_t2 hO h_
  have nq_t1_t2 : p1_1 ≠ p2_2 := Nat.ne_of_lt (Nat.lt_of_lt_of_le (blk_lt k_t1) n_t2)
  have fb_t2 : Fb p2_2 w.heap.size [] := fb_new (Nat.le_trans sz n_t2)
  replace k_t1 := blk_off k_t1 hO nm0
  replace off0 := off0.step hO i0
  replace sz := off0.size
  have k_t2 := h_
  clear hO h_ n_t2
  refine wpL_nil ?_
  go_upto_region 1 with fail
  refine wp_region_lit ?_
  refine wpL_load0 (by rfl) rfl rfl k_t1 (by kernel_rfl) (by kernel_rfl) ?_
  (try simp only [Act.put, mA, mB, mC])
  refine wpL_ret (c6 W2 (GE_ext hG off0.ext)) (by rfl) rfl (by kernel_rfl) rfl ?_
  (try simp only [Act.put, mA, mB, mC])
  intro W3 hO
  replace k_t1 := blk_off k_t1 hO nm0
  replace k_t2 := blk_off k_t2 hO nm0
  replace off0 := off0.step hO i0
  replace sz := off0.size
  clear hO
  refine wpL_putrow (cells := p4 x1 y2 z3 t4) (by rfl) rfl rfl rfl k_t1 (by kernel_rfl) (by kernel_rfl) (by kernel_rfl) ?_
  (try simp only [Act.put, mA, mB, mC])
  intro W4 hO h_
  replace k_t1 : Blk W4 p1_1 (p4 x1 y2 z3 t4) 28 := h_
  clear h_
  replace k_t2 := blk_off k_t2 hO (nm1 nq_t1_t2.symm)
  replace off0 := off0.step hO (i1 fb_t1)
  replace sz := off0.size
  clear hO
  refine wpL_nil ?_
  go_upto_region 2 with fail
  refine wp_region_xn 11 [] (by kernel_rfl) (fun x hx => by cases hx) (by kernel_rfl) ?_
  simp only [List.take_succ_cons, List.take_zero, List.take_nil]
  (try simp only [Act.put, mA, mB, mC])
  (refine wpX_val (v := ?_) (by rfl) (fun W hW => ?_) ?_; rotate_left 1; (focus (go_simp; first | done | with_reducible rfl)); (try simp only [Act.put, mA, mB, mC]))
  refine wpX_loads (sub := c4 x1) (j := 0) (by rfl) rfl rfl (blk_rd k_t1) p4c0 (by kernel_rfl) (by kernel_rfl) ?_
  (try simp only [Act.put, mA, mB, mC])
  ((with_reducible refine wpX_fn (fun W hW => c_N7 W (GE_ext (GE_ext hG off0.ext) hW).1) ?_ rfl ?_ ?_ ?_); (focus rfl); (focus kernel_rfl); (focus rfl); (try simp only [Act.put, mA, mB, mC]))
  (refine wpX_val (v := ?_) (by rfl) (fun W hW => ?_) ?_; rotate_left 1; (focus (go_simp; first | done | with_reducible rfl)); (try simp only [Act.put, mA, mB, mC]))
  refine wpX_loads (sub := c4 y2) (j := 4) (by rfl) rfl rfl (blk_rd k_t1) p4c1 (by kernel_rfl) (by kernel_rfl) ?_
  (try simp only [Act.put, mA, mB, mC])
  (refine wpX_val (v := ?_) (by rfl) (fun W hW => ?_) ?_; rotate_left 1; (focus (go_simp; first | done | with_reducible rfl)); (try simp only [Act.put, mA, mB, mC]))
  refine wpX_loads (sub := c4 z3) (j := 8) (by rfl) rfl rfl (blk_rd k_t1) p4c2 (by kernel_rfl) (by kernel_rfl) ?_
  (try simp only [Act.put, mA, mB, mC])
  (refine wpX_val (v := ?_) (by rfl) (fun W hW => ?_) ?_; rotate_left 1; (focus (go_simp; first | done | with_reducible rfl)); (try simp only [Act.put, mA, mB, mC]))
  refine wpX_loads (sub := c4 t4) (j := 12) (by rfl) rfl rfl (blk_rd k_t1) p4c3 (by kernel_rfl) (by kernel_rfl) ?_
  (try simp only [Act.put, mA, mB, mC])
  ((with_reducible refine wpX_fn (fun W hW => c_N8 W (GE_ext (GE_ext hG off0.ext) hW).1) ?_ rfl ?_ ?_ ?_); (focus rfl); (focus kernel_rfl); (focus rfl); (try simp only [Act.put, mA, mB, mC]))
  refine wpX_val (v := .agg (p4 N7 y2 z3 N8)) (by rfl) (fun _ _ => by kernel_rfl) ?_
  (try simp only [Act.put, mA, mB, mC])
  refine wpX_nil ?_
  intro β W5 hE hN hD
  clear hN hD
  simp only [putAll, Act.put, mA, mB, mC, List.drop_succ_cons, List.drop_zero, List.drop_nil, List.length_cons, List.length_nil, Nat.add_zero]
  have hO := off_ext hE
  replace k_t1 := blk_off k_t1 hO nm0
  replace k_t2 := blk_off k_t2 hO nm0
  replace off0 := off0.step hO i0
  replace sz := off0.size
  clear hO hE β
  refine wpL_putrow (cells := p4 N7 y2 z3 N8) (by rfl) rfl rfl rfl k_t2 (by kernel_rfl) (by kernel_rfl) (by kernel_rfl) ?_
  (try simp only [Act.put, mA, mB, mC])
  intro W6 hO h_
  replace k_t2 : Blk W6 p2_2 (p4 N7 y2 z3 N8) 28 := h_
  clear h_
  replace k_t1 := blk_off k_t1 hO (nm1 nq_t1_t2)
  replace off0 := off0.step hO (i1 fb_t2)
  replace sz := off0.size
  clear hO
  refine wpL_nil ?_
  first | with_reducible refine NoPanic.normal (Q := Exit.then _ _) ?_ | with_reducible refine NoPanic.normal ?_
  go_wp2
  exact bodyPost_ret (res_row rfl rfl k_t2 (by kernel_rfl) (by kernel_rfl)) rfl ⟨rfl, off0.ext⟩
theorem pm8 {a : Pr} (h : OnC a) : pm a 8 = padd (padd (padd a a) (padd a a)) (padd (padd a a) (padd a a)) := by
  rw [show 8 = 2 * (2 * (2 * 1)) from rfl, pm_twice h, pm_twice h, pm_twice h, pm_one]
set_option maxRecDepth 100000 in
set_option maxHeartbeats 1500000 in
theorem eEight_c {X1 Y1 Z1 T1 : Nat} {p1 : Pr} (h1 : RW X1 Y1 Z1 T1 p1) :
    ∃ X Y Z T, RN X Y Z T (pm p1 8) ∧ ∀ w, GE kn w → Calls Tryd.prog 13 #[.agg (p4 X1 Y1 Z1 T1)] w fun e w' => Ret (.agg (p4 X Y Z T)) w w' e := by
  obtain ⟨x1, y2, z3, t4, r5, c6⟩ := eWhole_c (kn := kn) h1
  obtain ⟨x7, y8, z9, t10, r11, c12⟩ := eTwice_c (kn := kn) r5
  obtain ⟨x13, y14, z15, t16, r17, c18⟩ := eTwice_c (kn := kn) r11
  obtain ⟨x19, y20, z21, t22, r23, c24⟩ := eTwice_c (kn := kn) r17
  refine ⟨x19, y20, z21, t22, pm8 h1.on ▸ r23, fun w hG => ?_⟩
  have off0 : Off [] w w := Off.refl _ _
  have sz := off0.size
  go_enter Tryd.func13, Tryd.ntmps13
  go_upto_region 0 with fail
  refine wp_region_lit ?_
  refine wpL_new (z := p4 X1 Y1 Z1 T1) (t := 28) (by rfl) (by first | kernel_rfl | (go_simp; done) | (go_simp; rfl)) ?_
  (try simp only [Act.put, mA, mB, mC])
  intro p1_1 W1 n_t1 hO h_
  have fb_t1 : Fb p1_1 w.heap.size [] := fb_new (Nat.le_trans sz n_t1)
  replace off0 := off0.step hO i0
  replace sz := off0.size
  have k_t1 := h_
  clear hO h_ n_t1
  refine wpL_new (z := p4 0 0 0 0) (t := 28) (by rfl) (by first | kernel_rfl | (go_simp; done) | (go_simp; rfl)) ?_
  (try simp only [Act.put, mA, mB, mC])
  intro p2_2 W2 n_t2 hO h_
  have nq_t1_t2 : p1_1 ≠ p2_2 := Nat.ne_of_lt (Nat.lt_of_lt_of_le (blk_lt k_t1) n_t2)
  have fb_t2 : Fb p2_2 w.heap.size [] := fb_new (Nat.le_trans sz n_t2)
  replace k_t1 := blk_off k_t1 hO nm0
  replace off0 := off0.step hO i0
  replace sz := off0.size
  have k_t2 := h_
  clear hO h_ n_t2
  refine wpL_nil ?_
  go_upto_region 1 with fail
  refine wp_region_lit ?_
  refine wpL_load0 (by rfl) rfl rfl k_t1 (by kernel_rfl) (by kernel_rfl) ?_
  (try simp only [Act.put, mA, mB, mC])
  refine wpL_ret (c6 W2 (GE_ext hG off0.ext)) (by rfl) rfl (by kernel_rfl) rfl ?_
  (try simp only [Act.put, mA, mB, mC])
  intro W3 hO
  replace k_t1 := blk_off k_t1 hO nm0
  replace k_t2 := blk_off k_t2 hO nm0
  replace off0 := off0.step hO i0
  replace sz := off0.size
  clear hO
  refine wpL_ret (c12 W3 (GE_ext hG off0.ext)) (by rfl) rfl (by kernel_rfl) rfl ?_
  (try simp only [Act.put, mA, mB, mC])
  intro W4 hO
  replace k_t1 := blk_off k_t1 hO nm0
  replace k_t2 := blk_off k_t2 hO nm0
  replace off0 := off0.step hO i0
  replace sz := off0.size
  clear hO
  refine wpL_ret (c18 W4 (GE_ext hG off0.ext)) (by rfl) rfl (by kernel_rfl) rfl ?_
  (try simp only [Act.put, mA, mB, mC])
  intro W5 hO
  replace k_t1 := blk_off k_t1 hO nm0
  replace k_t2 := blk_off k_t2 hO nm0
  replace off0 := off0.step hO i0
  replace sz := off0.size
  clear hO
  refine wpL_ret (c24 W5 (GE_ext hG off0.ext)) (by rfl) rfl (by kernel_rfl) rfl ?_
  (try simp only [Act.put, mA, mB, mC])
  intro W6 hO
  replace k_t1 := blk_off k_t1 hO nm0
  replace k_t2 := blk_off k_t2 hO nm0
  replace off0 := off0.step hO i0
  replace sz := off0.size
  clear hO
  refine wpL_putrow (cells := p4 x19 y20 z21 t22) (by rfl) rfl rfl rfl k_t2 (by kernel_rfl) (by kernel_rfl) (by kernel_rfl) ?_
  (try simp only [Act.put, mA, mB, mC])
  intro W7 hO h_
  replace k_t2 : Blk W7 p2_2 (p4 x19 y20 z21 t22) 28 := h_
  clear h_
  replace k_t1 := blk_off k_t1 hO (nm1 nq_t1_t2)
  replace off0 := off0.step hO (i1 fb_t2)
  replace sz := off0.size
  clear hO
  refine wpL_nil ?_
  go_wp2
  exact bodyPost_ret (res_row rfl rfl k_t2 (by kernel_rfl) (by kernel_rfl)) rfl ⟨rfl, off0.ext⟩
set_option maxRecDepth 100000 in
set_option maxHeartbeats 1500000 in
theorem eBase_c (hb : kn.b) :
    ∃ X Y Z T, RN X Y Z T BP ∧ ∀ w, GE kn w → Calls Tryd.prog 7 #[] w fun e w' => Ret (.agg (p4 X Y Z T)) w w' e := by
  obtain ⟨t1, r2, c3⟩ := eOf_c (kn := kn) (X := BX) (Y := BY) (by decide) (by decide) BP_on
  refine ⟨BX, BY, 1, t1, r2, fun w hG => ?_⟩
  have off0 : Off [] w w := Off.refl _ _
  have sz := off0.size
  go_enter Tryd.func7, Tryd.ntmps7
  go_upto_region 0 with fail
  refine wp_region_lit ?_
  refine wpL_new (z := p4 0 0 0 0) (t := 28) (by rfl) (by first | kernel_rfl | (go_simp; done) | (go_simp; rfl)) ?_
  (try simp only [Act.put, mA, mB, mC])
  intro p0_1 W1 n_t0 hO h_
  have fb_t0 : Fb p0_1 w.heap.size [] := fb_new (Nat.le_trans sz n_t0)
  replace off0 := off0.step hO i0
  replace sz := off0.size
  have k_t0 := h_
  clear hO h_ n_t0
  refine wpL_nil ?_
  go_upto_region 1 with fail
  refine wp_region_lit ?_
  refine wpL_rd0 (by rfl) rfl rfl ((GE_ext hG off0.ext).2.2.2.2.1 hb) (by kernel_rfl) (by kernel_rfl) ?_
  (try simp only [Act.put, mA, mB, mC])
  refine wpL_rd0 (by rfl) rfl rfl ((GE_ext hG off0.ext).2.2.2.2.2 hb) (by kernel_rfl) (by kernel_rfl) ?_
  (try simp only [Act.put, mA, mB, mC])
  refine wpL_ret (c3 W1 (GE_ext hG off0.ext)) (by rfl) rfl (by kernel_rfl) rfl ?_
  (try simp only [Act.put, mA, mB, mC])
  intro W2 hO
  replace k_t0 := blk_off k_t0 hO nm0
  replace off0 := off0.step hO i0
  replace sz := off0.size
  clear hO
  refine wpL_putrow (cells := p4 BX BY 1 t1) (by rfl) rfl rfl rfl k_t0 (by kernel_rfl) (by kernel_rfl) (by kernel_rfl) ?_
  (try simp only [Act.put, mA, mB, mC])
  intro W3 hO h_
  replace k_t0 : Blk W3 p0_1 (p4 BX BY 1 t1) 28 := h_
  clear h_
  replace off0 := off0.step hO (i1 fb_t0)
  replace sz := off0.size
  clear hO
  refine wpL_nil ?_
  go_wp2
  exact bodyPost_ret (res_row rfl rfl k_t0 (by kernel_rfl) (by kernel_rfl)) rfl ⟨rfl, off0.ext⟩
end Go.Proofs.YtghajiagbfcmdaaDoor
