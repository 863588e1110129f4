/- edwards: Same, Encode, Decode. Conditions: the cells of the variables hold the curve's numbers. -/
import Derived.Test.YtghajiagbfcmdaaDoorPu
import Derived.Test.YtghajiagbfcmdaaDoorEdC
namespace Go.Proofs.YtghajiagbfcmdaaDoor
set_option linter.unusedSimpArgs false
set_option linter.unusedVariables false
open Go.RowKit
attribute [local irreducible] wpList
variable {kn : Kn}
theorem lt_256p {A : Nat} (h : A < PP) : A < 2 ^ 256 := Nat.lt_trans h (by decide)
theorem same_t {X1 Y1 Z1 X2 Y2 Z2 m1 m2 m3 m4 : Nat} {p q : Pr} (r1 : RD X1 Y1 Z1 p) (r2 : RD X2 Y2 Z2 q) (e1 : m1 = X1 * Z2 % PP) (e2 : m2 = X2 * Z1 % PP) (e3 : m3 = Y1 * Z2 % PP) (e4 : m4 = Y2 * Z1 % PP) (h1 : m1 = m2) (h2 : m3 = m4) : decide (p = q) = true :=
  decide_eq_true ((same_iff r1 r2 e1 e2 e3 e4).1 ⟨h1, h2⟩)
theorem same_f1 {X1 Y1 Z1 X2 Y2 Z2 m1 m2 m3 m4 : Nat} {p q : Pr} (r1 : RD X1 Y1 Z1 p) (r2 : RD X2 Y2 Z2 q) (e1 : m1 = X1 * Z2 % PP) (e2 : m2 = X2 * Z1 % PP) (e3 : m3 = Y1 * Z2 % PP) (e4 : m4 = Y2 * Z1 % PP) (h1 : ¬ m1 = m2) : decide (p = q) = false :=
  decide_eq_false fun h => h1 ((same_iff r1 r2 e1 e2 e3 e4).2 h).1
theorem same_f2 {X1 Y1 Z1 X2 Y2 Z2 m1 m2 m3 m4 : Nat} {p q : Pr} (r1 : RD X1 Y1 Z1 p) (r2 : RD X2 Y2 Z2 q) (e1 : m1 = X1 * Z2 % PP) (e2 : m2 = X2 * Z1 % PP) (e3 : m3 = Y1 * Z2 % PP) (e4 : m4 = Y2 * Z1 % PP) (h1 : ¬ m3 = m4) : decide (p = q) = false :=
  decide_eq_false fun h => h1 ((same_iff r1 r2 e1 e2 e3 e4).2 h).2
/-- the bytes of a point, by the inverse -/
theorem enc_1 {X Y Z i x y : Nat} {a : Pr} (r : RD X Y Z a) (ei : i = pw Z (PP - 2)) (ex : x = X * i % PP) (ey : y = Y * i % PP) (ho : x % 2 = 1) : arrK .u8 32 (upd (byt y) 31 (bits .or .u8 (byt y 31) 128)) = arrK .u8 32 (byt (enc a)) := by
  obtain ⟨h1, h2⟩ := inv_xy r ei ex ey
  rw [set31 (Nat.lt_trans (ey ▸ mod_pp _) PP_top)]
  unfold enc
  rw [← h1, ← h2, ho]
theorem enc_0 {X Y Z i x y : Nat} {a : Pr} (r : RD X Y Z a) (ei : i = pw Z (PP - 2)) (ex : x = X * i % PP) (ey : y = Y * i % PP) (ho : ¬ x % 2 = 1) : arrK .u8 32 (byt y) = arrK .u8 32 (byt (enc a)) := by
  obtain ⟨h1, h2⟩ := inv_xy r ei ex ey
  have : x % 2 = 0 := by omega
  unfold enc
  rw [← h1, ← h2, this, Nat.mul_zero, Nat.add_zero]

set_option maxRecDepth 100000 in
set_option maxHeartbeats 1500000 in
theorem eSame_c {X1 Y1 Z1 T1 : Nat} {p1 : Pr} {X2 Y2 Z2 T2 : Nat} {p2 : Pr} (h1 : RW X1 Y1 Z1 T1 p1) (h2 : RW X2 Y2 Z2 T2 p2) :
    ∀ w, GE kn w → Calls Tryd.prog 11 #[.agg (p4 X1 Y1 Z1 T1), .agg (p4 X2 Y2 Z2 T2)] w fun e w' => Ret (.bool (decide (p1 = p2))) w w' e := by
  obtain ⟨x1, y2, z3, t4, r5, c6⟩ := eWhole_c (kn := kn) h1
  obtain ⟨x7, y8, z9, t10, r11, c12⟩ := eWhole_c (kn := kn) h2
  have c_N13 := fMul_c x1 z9 (lt_pp r5.x) (lt_pp r11.z)
  obtain ⟨N13, hN13⟩ : ∃ v_, v_ = x1 * z9 % PP := ⟨_, rfl⟩
  rw [← hN13] at c_N13
  have lN13 : N13 < PP := by rw [hN13]; exact mod_pp _
  have bN13 := lt_pp lN13
  have HN13 := Lib.hid hN13
  clear hN13
  have c_N14 := fMul_c x7 z3 (lt_pp r11.x) (lt_pp r5.z)
  obtain ⟨N14, hN14⟩ : ∃ v_, v_ = x7 * z3 % PP := ⟨_, rfl⟩
  rw [← hN14] at c_N14
  have lN14 : N14 < PP := by rw [hN14]; exact mod_pp _
  have bN14 := lt_pp lN14
  have HN14 := Lib.hid hN14
  clear hN14
  have cs15 := fSame_c N13 N14 bN13 bN14
  rw [Nat.mod_eq_of_lt lN13, Nat.mod_eq_of_lt lN14] at cs15
  have c_N16 := fMul_c y2 z9 (lt_pp r5.y) (lt_pp r11.z)
  obtain ⟨N16, hN16⟩ : ∃ v_, v_ = y2 * z9 % PP := ⟨_, rfl⟩
  rw [← hN16] at c_N16
  have lN16 : N16 < PP := by rw [hN16]; exact mod_pp _
  have bN16 := lt_pp lN16
  have HN16 := Lib.hid hN16
  clear hN16
  have c_N17 := fMul_c y8 z3 (lt_pp r11.y) (lt_pp r5.z)
  obtain ⟨N17, hN17⟩ : ∃ v_, v_ = y8 * z3 % PP := ⟨_, rfl⟩
  rw [← hN17] at c_N17
  have lN17 : N17 < PP := by rw [hN17]; exact mod_pp _
  have bN17 := lt_pp lN17
  have HN17 := Lib.hid hN17
  clear hN17
  have cs18 := fSame_c N16 N17 bN16 bN17
  rw [Nat.mod_eq_of_lt lN16, Nat.mod_eq_of_lt lN17] at cs18
  intro w hG
  have off0 : Off [] w w := Off.refl _ _
  have sz := off0.size
  go_enter Tryd.func11, Tryd.ntmps11
  go_upto_region 0 with fail
  refine wp_region_lit ?_
  refine wpL_new (z := p4 X1 Y1 Z1 T1) (t := 28) (by rfl) (by first | kernel_rfl | (go_simp; done) | (go_simp; rfl)) ?_
  (try simp only [Act.put, mA, mB, mC])
  intro p2_1 W1 n_t2 hO h_
  have fb_t2 : Fb p2_1 w.heap.size [] := fb_new (Nat.le_trans sz n_t2)
  replace off0 := off0.step hO i0
  replace sz := off0.size
  have k_t2 := h_
  clear hO h_ n_t2
  refine wpL_new (z := p4 X2 Y2 Z2 T2) (t := 28) (by rfl) (by first | kernel_rfl | (go_simp; done) | (go_simp; rfl)) ?_
  (try simp only [Act.put, mA, mB, mC])
  intro p3_2 W2 n_t3 hO h_
  have nq_t2_t3 : p2_1 ≠ p3_2 := Nat.ne_of_lt (Nat.lt_of_lt_of_le (blk_lt k_t2) n_t3)
  have fb_t3 : Fb p3_2 w.heap.size [] := fb_new (Nat.le_trans sz n_t3)
  replace k_t2 := blk_off k_t2 hO nm0
  replace off0 := off0.step hO i0
  replace sz := off0.size
  have k_t3 := h_
  clear hO h_ n_t3
  refine wpL_val (v := .bool false) (by rfl) (by first | rfl | (go_simp; done) | (go_simp; with_reducible rfl) | (go_simp; omega)) ?_
  (try simp only [Act.put, mA, mB, mC])
  refine wpL_nil ?_
  go_upto_region 1 with fail
  refine wp_region_xn 4 [] (by kernel_rfl) (fun x hx => by cases hx) (by kernel_rfl) ?_
  simp only [List.take_succ_cons, List.take_zero, List.take_nil]
  (try simp only [Act.put, mA, mB, mC])
  refine wpX_load (by rfl) rfl rfl (blk_rd k_t2) (by kernel_rfl) (by kernel_rfl) ?_
  (try simp only [Act.put, mA, mB, mC])
  ((with_reducible refine wpX_fn (fun W hW => c6 W (GE_ext (GE_ext hG off0.ext) hW)) ?_ rfl ?_ ?_ ?_); (focus rfl); (focus kernel_rfl); (focus rfl); (try simp only [Act.put, mA, mB, mC]))
  refine wpX_load (by rfl) rfl rfl (blk_rd k_t3) (by kernel_rfl) (by kernel_rfl) ?_
  (try simp only [Act.put, mA, mB, mC])
  ((with_reducible refine wpX_fn (fun W hW => c12 W (GE_ext (GE_ext hG off0.ext) hW)) ?_ rfl ?_ ?_ ?_); (focus rfl); (focus kernel_rfl); (focus rfl); (try simp only [Act.put, mA, mB, mC]))
  refine wpX_nil ?_
  intro β W3 hE hN hD
  clear hN hD
  simp only [putAll, Act.put, mA, mB, mC, List.drop_succ_cons, List.drop_zero, List.drop_nil, List.length_cons, List.length_nil, Nat.add_zero]
  have hO := off_ext hE
  replace k_t2 := blk_off k_t2 hO nm0
  replace k_t3 := blk_off k_t3 hO nm0
  replace off0 := off0.step hO i0
  replace sz := off0.size
  clear hO hE β
  refine wpL_putrow (cells := p4 x1 y2 z3 t4) (by rfl) rfl rfl rfl k_t2 (by kernel_rfl) (by kernel_rfl) (by kernel_rfl) ?_
  (try simp only [Act.put, mA, mB, mC])
  intro W4 hO h_
  replace k_t2 : Blk W4 p2_1 (p4 x1 y2 z3 t4) 28 := h_
  clear h_
  replace k_t3 := blk_off k_t3 hO (nm1 nq_t2_t3.symm)
  replace off0 := off0.step hO (i1 fb_t2)
  replace sz := off0.size
  clear hO
  refine wpL_putrow (cells := p4 x7 y8 z9 t10) (by rfl) rfl rfl rfl k_t3 (by kernel_rfl) (by kernel_rfl) (by kernel_rfl) ?_
  (try simp only [Act.put, mA, mB, mC])
  intro W5 hO h_
  replace k_t3 : Blk W5 p3_2 (p4 x7 y8 z9 t10) 28 := h_
  clear h_
  replace k_t2 := blk_off k_t2 hO (nm1 nq_t2_t3)
  replace off0 := off0.step hO (i1 fb_t3)
  replace sz := off0.size
  clear hO
  refine wpL_nil ?_
  first | with_reducible refine NoPanic.normal (Q := Exit.then _ _) ?_ | with_reducible refine NoPanic.normal ?_
  by_cases hx : N13 = N14
  · have _f := hx
    by_cases hy : N16 = N17
    · have _f := hy
      go_upto_region 2 with fail
      refine wp_region_xn 25 [] (by kernel_rfl) (fun x hx => by cases hx) (by kernel_rfl) ?_
      simp only [List.take_succ_cons, List.take_zero, List.take_nil]
      (try simp only [Act.put, mA, mB, mC])
      (refine wpX_val (v := ?_) (by rfl) (fun W hW => ?_) ?_; rotate_left 1; (focus (go_simp; first | done | with_reducible rfl)); (try simp only [Act.put, mA, mB, mC]))
      refine wpX_loads (sub := c4 x1) (j := 0) (by rfl) rfl rfl (blk_rd k_t2) p4c0 (by kernel_rfl) (by kernel_rfl) ?_
      (try simp only [Act.put, mA, mB, mC])
      (refine wpX_val (v := ?_) (by rfl) (fun W hW => ?_) ?_; rotate_left 1; (focus (go_simp; first | done | with_reducible rfl)); (try simp only [Act.put, mA, mB, mC]))
      refine wpX_loads (sub := c4 z9) (j := 8) (by rfl) rfl rfl (blk_rd k_t3) p4c2 (by kernel_rfl) (by kernel_rfl) ?_
      (try simp only [Act.put, mA, mB, mC])
      ((with_reducible refine wpX_fn (fun W hW => c_N13 W (GE_ext (GE_ext hG off0.ext) hW).1) ?_ rfl ?_ ?_ ?_); (focus rfl); (focus kernel_rfl); (focus rfl); (try simp only [Act.put, mA, mB, mC]))
      (refine wpX_val (v := ?_) (by rfl) (fun W hW => ?_) ?_; rotate_left 1; (focus (go_simp; first | done | with_reducible rfl)); (try simp only [Act.put, mA, mB, mC]))
      refine wpX_loads (sub := c4 x7) (j := 0) (by rfl) rfl rfl (blk_rd k_t3) p4c0 (by kernel_rfl) (by kernel_rfl) ?_
      (try simp only [Act.put, mA, mB, mC])
      (refine wpX_val (v := ?_) (by rfl) (fun W hW => ?_) ?_; rotate_left 1; (focus (go_simp; first | done | with_reducible rfl)); (try simp only [Act.put, mA, mB, mC]))
      refine wpX_loads (sub := c4 z3) (j := 8) (by rfl) rfl rfl (blk_rd k_t2) p4c2 (by kernel_rfl) (by kernel_rfl) ?_
      (try simp only [Act.put, mA, mB, mC])
      ((with_reducible refine wpX_fn (fun W hW => c_N14 W (GE_ext (GE_ext hG off0.ext) hW).1) ?_ rfl ?_ ?_ ?_); (focus rfl); (focus kernel_rfl); (focus rfl); (try simp only [Act.put, mA, mB, mC]))
      rw [decide_eq_true hx] at cs15
      ((with_reducible refine wpX_fn (fun W hW => cs15 W (GE_ext (GE_ext hG off0.ext) hW).1) ?_ rfl ?_ ?_ ?_); (focus rfl); (focus kernel_rfl); (focus rfl); (try simp only [Act.put, mA, mB, mC]))
      (refine wpX_val (v := ?_) (by rfl) (fun W hW => ?_) ?_; rotate_left 1; (focus (go_simp; first | done | with_reducible rfl)); (try simp only [Act.put, mA, mB, mC]))
      (refine wpX_val (v := ?_) (by rfl) (fun W hW => ?_) ?_; rotate_left 1; (focus (go_simp; first | done | with_reducible rfl)); (try simp only [Act.put, mA, mB, mC]))
      refine wpX_loads (sub := c4 y2) (j := 4) (by rfl) rfl rfl (blk_rd k_t2) p4c1 (by kernel_rfl) (by kernel_rfl) ?_
      (try simp only [Act.put, mA, mB, mC])
      (refine wpX_val (v := ?_) (by rfl) (fun W hW => ?_) ?_; rotate_left 1; (focus (go_simp; first | done | with_reducible rfl)); (try simp only [Act.put, mA, mB, mC]))
      refine wpX_loads (sub := c4 z9) (j := 8) (by rfl) rfl rfl (blk_rd k_t3) p4c2 (by kernel_rfl) (by kernel_rfl) ?_
      (try simp only [Act.put, mA, mB, mC])
      ((with_reducible refine wpX_fn (fun W hW => c_N16 W (GE_ext (GE_ext hG off0.ext) hW).1) ?_ rfl ?_ ?_ ?_); (focus rfl); (focus kernel_rfl); (focus rfl); (try simp only [Act.put, mA, mB, mC]))
      (refine wpX_val (v := ?_) (by rfl) (fun W hW => ?_) ?_; rotate_left 1; (focus (go_simp; first | done | with_reducible rfl)); (try simp only [Act.put, mA, mB, mC]))
      refine wpX_loads (sub := c4 y8) (j := 4) (by rfl) rfl rfl (blk_rd k_t3) p4c1 (by kernel_rfl) (by kernel_rfl) ?_
      (try simp only [Act.put, mA, mB, mC])
      (refine wpX_val (v := ?_) (by rfl) (fun W hW => ?_) ?_; rotate_left 1; (focus (go_simp; first | done | with_reducible rfl)); (try simp only [Act.put, mA, mB, mC]))
      refine wpX_loads (sub := c4 z3) (j := 8) (by rfl) rfl rfl (blk_rd k_t2) p4c2 (by kernel_rfl) (by kernel_rfl) ?_
      (try simp only [Act.put, mA, mB, mC])
      ((with_reducible refine wpX_fn (fun W hW => c_N17 W (GE_ext (GE_ext hG off0.ext) hW).1) ?_ rfl ?_ ?_ ?_); (focus rfl); (focus kernel_rfl); (focus rfl); (try simp only [Act.put, mA, mB, mC]))
      rw [decide_eq_true hy] at cs18
      ((with_reducible refine wpX_fn (fun W hW => cs18 W (GE_ext (GE_ext hG off0.ext) hW).1) ?_ rfl ?_ ?_ ?_); (focus rfl); (focus kernel_rfl); (focus rfl); (try simp only [Act.put, mA, mB, mC]))
      (refine wpX_val (v := ?_) (by rfl) (fun W hW => ?_) ?_; rotate_left 1; (focus (go_simp; first | done | with_reducible rfl)); (try simp only [Act.put, mA, mB, mC]))
      (refine wpX_val (v := ?_) (by rfl) (fun W hW => ?_) ?_; rotate_left 1; (focus (go_simp; first | done | with_reducible rfl)); (try simp only [Act.put, mA, mB, mC]))
      refine wpX_nil ?_
      intro β W6 hE hN hD
      clear hN hD
      simp only [putAll, Act.put, mA, mB, mC, List.drop_succ_cons, List.drop_zero, List.drop_nil, List.length_cons, List.length_nil, Nat.add_zero]
      have hO := off_ext hE
      replace k_t2 := blk_off k_t2 hO nm0
      replace k_t3 := blk_off k_t3 hO nm0
      replace off0 := off0.step hO i0
      replace sz := off0.size
      clear hO hE β
      refine wpL_nil ?_
      first | with_reducible refine NoPanic.normal (Q := Exit.then _ _) ?_ | with_reducible refine NoPanic.normal ?_
      go_wp2
      rw [same_t r5.rr r11.rr HN13.out HN14.out HN16.out HN17.out hx hy]
      exact bodyPost_ret (v := .bool true) (by simp only [results, Tryd.results11]; go_simp) rfl ⟨rfl, off0.ext⟩
    · have _f := hy
      go_upto_region 2 with fail
      refine wp_region_xn 25 [] (by kernel_rfl) (fun x hx => by cases hx) (by kernel_rfl) ?_
      simp only [List.take_succ_cons, List.take_zero, List.take_nil]
      (try simp only [Act.put, mA, mB, mC])
      (refine wpX_val (v := ?_) (by rfl) (fun W hW => ?_) ?_; rotate_left 1; (focus (go_simp; first | done | with_reducible rfl)); (try simp only [Act.put, mA, mB, mC]))
      refine wpX_loads (sub := c4 x1) (j := 0) (by rfl) rfl rfl (blk_rd k_t2) p4c0 (by kernel_rfl) (by kernel_rfl) ?_
      (try simp only [Act.put, mA, mB, mC])
      (refine wpX_val (v := ?_) (by rfl) (fun W hW => ?_) ?_; rotate_left 1; (focus (go_simp; first | done | with_reducible rfl)); (try simp only [Act.put, mA, mB, mC]))
      refine wpX_loads (sub := c4 z9) (j := 8) (by rfl) rfl rfl (blk_rd k_t3) p4c2 (by kernel_rfl) (by kernel_rfl) ?_
      (try simp only [Act.put, mA, mB, mC])
      ((with_reducible refine wpX_fn (fun W hW => c_N13 W (GE_ext (GE_ext hG off0.ext) hW).1) ?_ rfl ?_ ?_ ?_); (focus rfl); (focus kernel_rfl); (focus rfl); (try simp only [Act.put, mA, mB, mC]))
      (refine wpX_val (v := ?_) (by rfl) (fun W hW => ?_) ?_; rotate_left 1; (focus (go_simp; first | done | with_reducible rfl)); (try simp only [Act.put, mA, mB, mC]))
      refine wpX_loads (sub := c4 x7) (j := 0) (by rfl) rfl rfl (blk_rd k_t3) p4c0 (by kernel_rfl) (by kernel_rfl) ?_
      (try simp only [Act.put, mA, mB, mC])
      (refine wpX_val (v := ?_) (by rfl) (fun W hW => ?_) ?_; rotate_left 1; (focus (go_simp; first | done | with_reducible rfl)); (try simp only [Act.put, mA, mB, mC]))
      refine wpX_loads (sub := c4 z3) (j := 8) (by rfl) rfl rfl (blk_rd k_t2) p4c2 (by kernel_rfl) (by kernel_rfl) ?_
      (try simp only [Act.put, mA, mB, mC])
      ((with_reducible refine wpX_fn (fun W hW => c_N14 W (GE_ext (GE_ext hG off0.ext) hW).1) ?_ rfl ?_ ?_ ?_); (focus rfl); (focus kernel_rfl); (focus rfl); (try simp only [Act.put, mA, mB, mC]))
      rw [decide_eq_true hx] at cs15
      ((with_reducible refine wpX_fn (fun W hW => cs15 W (GE_ext (GE_ext hG off0.ext) hW).1) ?_ rfl ?_ ?_ ?_); (focus rfl); (focus kernel_rfl); (focus rfl); (try simp only [Act.put, mA, mB, mC]))
      (refine wpX_val (v := ?_) (by rfl) (fun W hW => ?_) ?_; rotate_left 1; (focus (go_simp; first | done | with_reducible rfl)); (try simp only [Act.put, mA, mB, mC]))
      (refine wpX_val (v := ?_) (by rfl) (fun W hW => ?_) ?_; rotate_left 1; (focus (go_simp; first | done | with_reducible rfl)); (try simp only [Act.put, mA, mB, mC]))
      refine wpX_loads (sub := c4 y2) (j := 4) (by rfl) rfl rfl (blk_rd k_t2) p4c1 (by kernel_rfl) (by kernel_rfl) ?_
      (try simp only [Act.put, mA, mB, mC])
      (refine wpX_val (v := ?_) (by rfl) (fun W hW => ?_) ?_; rotate_left 1; (focus (go_simp; first | done | with_reducible rfl)); (try simp only [Act.put, mA, mB, mC]))
      refine wpX_loads (sub := c4 z9) (j := 8) (by rfl) rfl rfl (blk_rd k_t3) p4c2 (by kernel_rfl) (by kernel_rfl) ?_
      (try simp only [Act.put, mA, mB, mC])
      ((with_reducible refine wpX_fn (fun W hW => c_N16 W (GE_ext (GE_ext hG off0.ext) hW).1) ?_ rfl ?_ ?_ ?_); (focus rfl); (focus kernel_rfl); (focus rfl); (try simp only [Act.put, mA, mB, mC]))
      (refine wpX_val (v := ?_) (by rfl) (fun W hW => ?_) ?_; rotate_left 1; (focus (go_simp; first | done | with_reducible rfl)); (try simp only [Act.put, mA, mB, mC]))
      refine wpX_loads (sub := c4 y8) (j := 4) (by rfl) rfl rfl (blk_rd k_t3) p4c1 (by kernel_rfl) (by kernel_rfl) ?_
      (try simp only [Act.put, mA, mB, mC])
      (refine wpX_val (v := ?_) (by rfl) (fun W hW => ?_) ?_; rotate_left 1; (focus (go_simp; first | done | with_reducible rfl)); (try simp only [Act.put, mA, mB, mC]))
      refine wpX_loads (sub := c4 z3) (j := 8) (by rfl) rfl rfl (blk_rd k_t2) p4c2 (by kernel_rfl) (by kernel_rfl) ?_
      (try simp only [Act.put, mA, mB, mC])
      ((with_reducible refine wpX_fn (fun W hW => c_N17 W (GE_ext (GE_ext hG off0.ext) hW).1) ?_ rfl ?_ ?_ ?_); (focus rfl); (focus kernel_rfl); (focus rfl); (try simp only [Act.put, mA, mB, mC]))
      rw [decide_eq_false hy] at cs18
      ((with_reducible refine wpX_fn (fun W hW => cs18 W (GE_ext (GE_ext hG off0.ext) hW).1) ?_ rfl ?_ ?_ ?_); (focus rfl); (focus kernel_rfl); (focus rfl); (try simp only [Act.put, mA, mB, mC]))
      (refine wpX_val (v := ?_) (by rfl) (fun W hW => ?_) ?_; rotate_left 1; (focus (go_simp; first | done | with_reducible rfl)); (try simp only [Act.put, mA, mB, mC]))
      (refine wpX_val (v := ?_) (by rfl) (fun W hW => ?_) ?_; rotate_left 1; (focus (go_simp; first | done | with_reducible rfl)); (try simp only [Act.put, mA, mB, mC]))
      refine wpX_nil ?_
      intro β W6 hE hN hD
      clear hN hD
      simp only [putAll, Act.put, mA, mB, mC, List.drop_succ_cons, List.drop_zero, List.drop_nil, List.length_cons, List.length_nil, Nat.add_zero]
      have hO := off_ext hE
      replace k_t2 := blk_off k_t2 hO nm0
      replace k_t3 := blk_off k_t3 hO nm0
      replace off0 := off0.step hO i0
      replace sz := off0.size
      clear hO hE β
      refine wpL_nil ?_
      first | with_reducible refine NoPanic.normal (Q := Exit.then _ _) ?_ | with_reducible refine NoPanic.normal ?_
      go_wp2
      rw [same_f2 r5.rr r11.rr HN13.out HN14.out HN16.out HN17.out hy]
      exact bodyPost_ret (v := .bool false) (by simp only [results, Tryd.results11]; go_simp) rfl ⟨rfl, off0.ext⟩
  · have _f := hx
    go_upto_region 2 with fail
    refine wp_region_xn 25 [] (by kernel_rfl) (fun x hx => by cases hx) (by kernel_rfl) ?_
    simp only [List.take_succ_cons, List.take_zero, List.take_nil]
    (try simp only [Act.put, mA, mB, mC])
    (refine wpX_val (v := ?_) (by rfl) (fun W hW => ?_) ?_; rotate_left 1; (focus (go_simp; first | done | with_reducible rfl)); (try simp only [Act.put, mA, mB, mC]))
    refine wpX_loads (sub := c4 x1) (j := 0) (by rfl) rfl rfl (blk_rd k_t2) p4c0 (by kernel_rfl) (by kernel_rfl) ?_
    (try simp only [Act.put, mA, mB, mC])
    (refine wpX_val (v := ?_) (by rfl) (fun W hW => ?_) ?_; rotate_left 1; (focus (go_simp; first | done | with_reducible rfl)); (try simp only [Act.put, mA, mB, mC]))
    refine wpX_loads (sub := c4 z9) (j := 8) (by rfl) rfl rfl (blk_rd k_t3) p4c2 (by kernel_rfl) (by kernel_rfl) ?_
    (try simp only [Act.put, mA, mB, mC])
    ((with_reducible refine wpX_fn (fun W hW => c_N13 W (GE_ext (GE_ext hG off0.ext) hW).1) ?_ rfl ?_ ?_ ?_); (focus rfl); (focus kernel_rfl); (focus rfl); (try simp only [Act.put, mA, mB, mC]))
    (refine wpX_val (v := ?_) (by rfl) (fun W hW => ?_) ?_; rotate_left 1; (focus (go_simp; first | done | with_reducible rfl)); (try simp only [Act.put, mA, mB, mC]))
    refine wpX_loads (sub := c4 x7) (j := 0) (by rfl) rfl rfl (blk_rd k_t3) p4c0 (by kernel_rfl) (by kernel_rfl) ?_
    (try simp only [Act.put, mA, mB, mC])
    (refine wpX_val (v := ?_) (by rfl) (fun W hW => ?_) ?_; rotate_left 1; (focus (go_simp; first | done | with_reducible rfl)); (try simp only [Act.put, mA, mB, mC]))
    refine wpX_loads (sub := c4 z3) (j := 8) (by rfl) rfl rfl (blk_rd k_t2) p4c2 (by kernel_rfl) (by kernel_rfl) ?_
    (try simp only [Act.put, mA, mB, mC])
    ((with_reducible refine wpX_fn (fun W hW => c_N14 W (GE_ext (GE_ext hG off0.ext) hW).1) ?_ rfl ?_ ?_ ?_); (focus rfl); (focus kernel_rfl); (focus rfl); (try simp only [Act.put, mA, mB, mC]))
    rw [decide_eq_false hx] at cs15
    ((with_reducible refine wpX_fn (fun W hW => cs15 W (GE_ext (GE_ext hG off0.ext) hW).1) ?_ rfl ?_ ?_ ?_); (focus rfl); (focus kernel_rfl); (focus rfl); (try simp only [Act.put, mA, mB, mC]))
    (refine wpX_val (v := ?_) (by rfl) (fun W hW => ?_) ?_; rotate_left 1; (focus (go_simp; first | done | with_reducible rfl)); (try simp only [Act.put, mA, mB, mC]))
    (refine wpX_skip (by rfl) ?_; (try simp only [Act.put, mA, mB, mC]))
    (refine wpX_skip (by rfl) ?_; (try simp only [Act.put, mA, mB, mC]))
    (refine wpX_skip (by rfl) ?_; (try simp only [Act.put, mA, mB, mC]))
    (refine wpX_skip (by rfl) ?_; (try simp only [Act.put, mA, mB, mC]))
    (refine wpX_skip (by rfl) ?_; (try simp only [Act.put, mA, mB, mC]))
    (refine wpX_skip (by rfl) ?_; (try simp only [Act.put, mA, mB, mC]))
    (refine wpX_skip (by rfl) ?_; (try simp only [Act.put, mA, mB, mC]))
    (refine wpX_skip (by rfl) ?_; (try simp only [Act.put, mA, mB, mC]))
    (refine wpX_skip (by rfl) ?_; (try simp only [Act.put, mA, mB, mC]))
    (refine wpX_skip (by rfl) ?_; (try simp only [Act.put, mA, mB, mC]))
    (refine wpX_skip (by rfl) ?_; (try simp only [Act.put, mA, mB, mC]))
    (refine wpX_val (v := ?_) (by rfl) (fun W hW => ?_) ?_; rotate_left 1; (focus (go_simp; first | done | with_reducible rfl)); (try simp only [Act.put, mA, mB, mC]))
    (refine wpX_val (v := ?_) (by rfl) (fun W hW => ?_) ?_; rotate_left 1; (focus (go_simp; first | done | with_reducible rfl)); (try simp only [Act.put, mA, mB, mC]))
    refine wpX_nil ?_
    intro β W6 hE hN hD
    clear hN hD
    simp only [putAll, Act.put, mA, mB, mC, List.drop_succ_cons, List.drop_zero, List.drop_nil, List.length_cons, List.length_nil, Nat.add_zero]
    have hO := off_ext hE
    replace k_t2 := blk_off k_t2 hO nm0
    replace k_t3 := blk_off k_t3 hO nm0
    replace off0 := off0.step hO i0
    replace sz := off0.size
    clear hO hE β
    refine wpL_nil ?_
    first | with_reducible refine NoPanic.normal (Q := Exit.then _ _) ?_ | with_reducible refine NoPanic.normal ?_
    go_wp2
    rw [same_f1 r5.rr r11.rr HN13.out HN14.out HN16.out HN17.out hx]
    exact bodyPost_ret (v := .bool false) (by simp only [results, Tryd.results11]; go_simp) rfl ⟨rfl, off0.ext⟩
set_option maxRecDepth 100000 in
set_option maxHeartbeats 1500000 in
theorem eEnc_c {X1 Y1 Z1 T1 : Nat} {p1 : Pr} (h1 : RW X1 Y1 Z1 T1 p1) :
    ∀ w, GE kn w → Calls Tryd.prog 17 #[.agg (p4 X1 Y1 Z1 T1)] w fun e w' => Ret (.agg (arrK .u8 32 (byt (enc p1)))) w w' e := by
  obtain ⟨x1, y2, z3, t4, r5, c6⟩ := eWhole_c (kn := kn) h1
  have c_N7 := fInv_c z3 (lt_pp r5.z)
  obtain ⟨N7, hN7⟩ : ∃ v_, v_ = pw z3 (PP - 2) := ⟨_, rfl⟩
  rw [← hN7] at c_N7
  have lN7 : N7 < PP := by rw [hN7]; exact mod_pp _
  have bN7 := lt_pp lN7
  have HN7 := Lib.hid hN7
  clear hN7
  have c_N8 := fMul_c y2 N7 (lt_pp r5.y) bN7
  obtain ⟨N8, hN8⟩ : ∃ v_, v_ = y2 * N7 % PP := ⟨_, rfl⟩
  rw [← hN8] at c_N8
  have lN8 : N8 < PP := by rw [hN8]; exact mod_pp _
  have bN8 := lt_pp lN8
  have HN8 := Lib.hid hN8
  clear hN8
  have cb9 := fBytes_c N8 bN8
  rw [Nat.mod_eq_of_lt lN8] at cb9
  have c_N10 := fMul_c x1 N7 (lt_pp r5.x) bN7
  obtain ⟨N10, hN10⟩ : ∃ v_, v_ = x1 * N7 % PP := ⟨_, rfl⟩
  rw [← hN10] at c_N10
  have lN10 : N10 < PP := by rw [hN10]; exact mod_pp _
  have bN10 := lt_pp lN10
  have HN10 := Lib.hid hN10
  clear hN10
  have cd11 := fOdd_c N10 bN10
  rw [Nat.mod_eq_of_lt lN10] at cd11
  intro w hG
  have off0 : Off [] w w := Off.refl _ _
  have sz := off0.size
  go_enter Tryd.func17, Tryd.ntmps17
  go_upto_region 0 with fail
  refine wp_region_lit ?_
  refine wpL_new (z := p4 X1 Y1 Z1 T1) (t := 28) (by rfl) (by first | kernel_rfl | (go_simp; done) | (go_simp; rfl)) ?_
  (try simp only [Act.put, mA, mB, mC])
  intro p1_1 W1 n_t1 hO h_
  have fb_t1 : Fb p1_1 w.heap.size [] := fb_new (Nat.le_trans sz n_t1)
  replace off0 := off0.step hO i0
  replace sz := off0.size
  have k_t1 := h_
  clear hO h_ n_t1
  refine wpL_new (z := arrK .u8 32 (byt 0)) (t := 22) (by rfl) (by first | kernel_rfl | (go_simp; done) | (go_simp; rfl)) ?_
  (try simp only [Act.put, mA, mB, mC])
  intro p2_2 W2 n_t2 hO h_
  have nq_t1_t2 : p1_1 ≠ p2_2 := Nat.ne_of_lt (Nat.lt_of_lt_of_le (blk_lt k_t1) n_t2)
  have fb_t2 : Fb p2_2 w.heap.size [] := fb_new (Nat.le_trans sz n_t2)
  replace k_t1 := blk_off k_t1 hO nm0
  replace off0 := off0.step hO i0
  replace sz := off0.size
  have k_t2 := h_
  clear hO h_ n_t2
  refine wpL_nil ?_
  go_upto_region 1 with fail
  refine wp_region_lit ?_
  refine wpL_load0 (by rfl) rfl rfl k_t1 (by kernel_rfl) (by kernel_rfl) ?_
  (try simp only [Act.put, mA, mB, mC])
  refine wpL_ret (c6 W2 (GE_ext hG off0.ext)) (by rfl) rfl (by kernel_rfl) rfl ?_
  (try simp only [Act.put, mA, mB, mC])
  intro W3 hO
  replace k_t1 := blk_off k_t1 hO nm0
  replace k_t2 := blk_off k_t2 hO nm0
  replace off0 := off0.step hO i0
  replace sz := off0.size
  clear hO
  refine wpL_putrow (cells := p4 x1 y2 z3 t4) (by rfl) rfl rfl rfl k_t1 (by kernel_rfl) (by kernel_rfl) (by kernel_rfl) ?_
  (try simp only [Act.put, mA, mB, mC])
  intro W4 hO h_
  replace k_t1 : Blk W4 p1_1 (p4 x1 y2 z3 t4) 28 := h_
  clear h_
  replace k_t2 := blk_off k_t2 hO (nm1 nq_t1_t2.symm)
  replace off0 := off0.step hO (i1 fb_t1)
  replace sz := off0.size
  clear hO
  refine wpL_nil ?_
  go_upto_region 2 with fail
  refine wp_region_lit ?_
  (refine wpL_val (v := ?_) (by rfl) ?_ ?_; rotate_left 1; (focus (go_simp; first | done | with_reducible rfl)))
  (try simp only [Act.put, mA, mB, mC])
  refine wpL_gets (vs := (c4 z3).toList) (by rfl) rfl rfl k_t1 (subL p4c2) (by kernel_rfl) (by kernel_rfl) ?_
  (try simp only [Act.put, mA, mB, mC])
  refine wpL_ret (c_N7 W4 (GE_ext hG off0.ext).1) (by rfl) rfl (by kernel_rfl) rfl ?_
  (try simp only [Act.put, mA, mB, mC])
  intro W5 hO
  replace k_t1 := blk_off k_t1 hO nm0
  replace k_t2 := blk_off k_t2 hO nm0
  replace off0 := off0.step hO i0
  replace sz := off0.size
  clear hO
  refine wpL_new (z := c4 0) (t := 26) (by rfl) (by first | kernel_rfl | (go_simp; done) | (go_simp; rfl)) ?_
  (try simp only [Act.put, mA, mB, mC])
  intro p3_6 W6 n_t3 hO h_
  have nq_t1_t3 : p1_1 ≠ p3_6 := Nat.ne_of_lt (Nat.lt_of_lt_of_le (blk_lt k_t1) n_t3)
  have nq_t2_t3 : p2_2 ≠ p3_6 := Nat.ne_of_lt (Nat.lt_of_lt_of_le (blk_lt k_t2) n_t3)
  have fb_t3 : Fb p3_6 w.heap.size [] := fb_new (Nat.le_trans sz n_t3)
  replace k_t1 := blk_off k_t1 hO nm0
  replace k_t2 := blk_off k_t2 hO nm0
  replace off0 := off0.step hO i0
  replace sz := off0.size
  have k_t3 := h_
  clear hO h_ n_t3
  refine wpL_putrow (cells := c4 N7) (by rfl) rfl rfl rfl k_t3 (by kernel_rfl) (by kernel_rfl) (by kernel_rfl) ?_
  (try simp only [Act.put, mA, mB, mC])
  intro W7 hO h_
  replace k_t3 : Blk W7 p3_6 (c4 N7) 26 := h_
  clear h_
  replace k_t1 := blk_off k_t1 hO (nm1 nq_t1_t3)
  replace k_t2 := blk_off k_t2 hO (nm1 nq_t2_t3)
  replace off0 := off0.step hO (i1 fb_t3)
  replace sz := off0.size
  clear hO
  refine wpL_nil ?_
  go_upto_region 3 with fail
  refine wp_region_lit ?_
  (refine wpL_val (v := ?_) (by rfl) ?_ ?_; rotate_left 1; (focus (go_simp; first | done | with_reducible rfl)))
  (try simp only [Act.put, mA, mB, mC])
  refine wpL_gets (vs := (c4 y2).toList) (by rfl) rfl rfl k_t1 (subL p4c1) (by kernel_rfl) (by kernel_rfl) ?_
  (try simp only [Act.put, mA, mB, mC])
  refine wpL_load0 (by rfl) rfl rfl k_t3 (by kernel_rfl) (by kernel_rfl) ?_
  (try simp only [Act.put, mA, mB, mC])
  refine wpL_ret (c_N8 W7 (GE_ext hG off0.ext).1) (by rfl) rfl (by kernel_rfl) rfl ?_
  (try simp only [Act.put, mA, mB, mC])
  intro W8 hO
  replace k_t1 := blk_off k_t1 hO nm0
  replace k_t2 := blk_off k_t2 hO nm0
  replace k_t3 := blk_off k_t3 hO nm0
  replace off0 := off0.step hO i0
  replace sz := off0.size
  clear hO
  refine wpL_ret (cb9 W8 (GE_ext hG off0.ext).1) (by rfl) rfl (by kernel_rfl) rfl ?_
  (try simp only [Act.put, mA, mB, mC])
  intro W9 hO
  replace k_t1 := blk_off k_t1 hO nm0
  replace k_t2 := blk_off k_t2 hO nm0
  replace k_t3 := blk_off k_t3 hO nm0
  replace off0 := off0.step hO i0
  replace sz := off0.size
  clear hO
  refine wpL_new (z := arrK .u8 32 (byt 0)) (t := 22) (by rfl) (by first | kernel_rfl | (go_simp; done) | (go_simp; rfl)) ?_
  (try simp only [Act.put, mA, mB, mC])
  intro p4_10 W10 n_t4 hO h_
  have nq_t1_t4 : p1_1 ≠ p4_10 := Nat.ne_of_lt (Nat.lt_of_lt_of_le (blk_lt k_t1) n_t4)
  have nq_t2_t4 : p2_2 ≠ p4_10 := Nat.ne_of_lt (Nat.lt_of_lt_of_le (blk_lt k_t2) n_t4)
  have nq_t3_t4 : p3_6 ≠ p4_10 := Nat.ne_of_lt (Nat.lt_of_lt_of_le (blk_lt k_t3) n_t4)
  have fb_t4 : Fb p4_10 w.heap.size [] := fb_new (Nat.le_trans sz n_t4)
  replace k_t1 := blk_off k_t1 hO nm0
  replace k_t2 := blk_off k_t2 hO nm0
  replace k_t3 := blk_off k_t3 hO nm0
  replace off0 := off0.step hO i0
  replace sz := off0.size
  have k_t4 := h_
  clear hO h_ n_t4
  refine wpL_putrow (cells := arrK .u8 32 (byt N8)) (by rfl) rfl rfl rfl k_t4 (by rw [arrK_size]; kernel_rfl) (by first | rw [arrK_size, arrK_size] | rw [arrK_size] | kernel_rfl) (by exact arrK_one _ _ _) ?_
  (try simp only [Act.put, mA, mB, mC])
  intro W11 hO h_
  replace k_t4 : Blk W11 p4_10 (arrK .u8 32 (byt N8)) 22 := h_
  clear h_
  replace k_t1 := blk_off k_t1 hO (nm1 nq_t1_t4)
  replace k_t2 := blk_off k_t2 hO (nm1 nq_t2_t4)
  replace k_t3 := blk_off k_t3 hO (nm1 nq_t3_t4)
  replace off0 := off0.step hO (i1 fb_t4)
  replace sz := off0.size
  clear hO
  refine wpL_nil ?_
  by_cases ho : N10 % 2 = 1
  · have _f := ho
    go_upto_region 4 with fail
    refine wp_region_lit ?_
    (refine wpL_val (v := ?_) (by rfl) ?_ ?_; rotate_left 1; (focus (go_simp; first | done | with_reducible rfl)))
    (try simp only [Act.put, mA, mB, mC])
    refine wpL_gets (vs := (c4 x1).toList) (by rfl) rfl rfl k_t1 (subL p4c0) (by kernel_rfl) (by kernel_rfl) ?_
    (try simp only [Act.put, mA, mB, mC])
    refine wpL_load0 (by rfl) rfl rfl k_t3 (by kernel_rfl) (by kernel_rfl) ?_
    (try simp only [Act.put, mA, mB, mC])
    refine wpL_ret (c_N10 W11 (GE_ext hG off0.ext).1) (by rfl) rfl (by kernel_rfl) rfl ?_
    (try simp only [Act.put, mA, mB, mC])
    intro W12 hO
    replace k_t1 := blk_off k_t1 hO nm0
    replace k_t2 := blk_off k_t2 hO nm0
    replace k_t3 := blk_off k_t3 hO nm0
    replace k_t4 := blk_off k_t4 hO nm0
    replace off0 := off0.step hO i0
    replace sz := off0.size
    clear hO
    rw [decide_eq_true ho] at cd11
    refine wpL_ret (cd11 W12 (GE_ext hG off0.ext).1) (by rfl) rfl (by kernel_rfl) rfl ?_
    (try simp only [Act.put, mA, mB, mC])
    intro W13 hO
    replace k_t1 := blk_off k_t1 hO nm0
    replace k_t2 := blk_off k_t2 hO nm0
    replace k_t3 := blk_off k_t3 hO nm0
    replace k_t4 := blk_off k_t4 hO nm0
    replace off0 := off0.step hO i0
    replace sz := off0.size
    clear hO
    refine wpL_nil ?_
    go_upto_region 5 with fail
    refine wp_region_lit ?_
    refine wpL_val (v := .pointer (some ⟨p4_10, 0 + 31, none⟩)) (by rfl) (run_ixarr (m := 32) (by decide) (by decide) Tryd.underlying22 (by kernel_rfl) rfl rfl rfl) ?_
    (try simp only [Act.put, mA, mB, mC])
    refine wpL_get (v := .int .u8 ((byt N8) 31)) (by rfl) rfl rfl k_t4 (by rw [Nat.zero_add]; exact arrK_get _ _ _ _ (by decide)) (by kernel_rfl) ?_
    (try simp only [Act.put, mA, mB, mC])
    refine wpL_val (v := .int .u8 (bits .or .u8 (byt N8 31) 128)) (by rfl) (by exact run_orU rfl rfl rfl rfl) ?_
    (try simp only [Act.put, mA, mB, mC])
    refine wpL_val (v := .pointer (some ⟨p4_10, 0 + 31, none⟩)) (by rfl) (run_ixarr (m := 32) (by decide) (by decide) Tryd.underlying22 (by kernel_rfl) rfl rfl rfl) ?_
    (try simp only [Act.put, mA, mB, mC])
    refine wpL_put1 (v := .int .u8 (bits .or .u8 (byt N8 31) 128)) ⟨rfl, rfl⟩ (by rfl) rfl rfl rfl k_t4 (by rw [arrK_size, Nat.zero_add]; decide) (by kernel_rfl) ?_
    (try simp only [Act.put, mA, mB, mC])
    intro W14 hO h_
    rw [Nat.zero_add, arrK_set] at h_
    replace k_t4 : Blk W14 p4_10 (arrK .u8 32 (upd (byt N8) 31 (bits .or .u8 (byt N8 31) 128))) 22 := h_
    clear h_
    replace k_t1 := blk_off k_t1 hO (nm1 nq_t1_t4)
    replace k_t2 := blk_off k_t2 hO (nm1 nq_t2_t4)
    replace k_t3 := blk_off k_t3 hO (nm1 nq_t3_t4)
    replace off0 := off0.step hO (i1 fb_t4)
    replace sz := off0.size
    clear hO
    rw [enc_1 r5.rr HN7.out HN10.out HN8.out ho] at k_t4
    refine wpL_nil ?_
    go_upto_region 6 with fail
    refine wp_region_lit ?_
    refine wpL_load0 (by rfl) rfl rfl k_t4 (by kernel_rfl) (by rw [arrK_size]; kernel_rfl) ?_
    (try simp only [Act.put, mA, mB, mC])
    refine wpL_putrow (cells := arrK .u8 32 (byt (enc p1))) (by rfl) rfl rfl rfl k_t2 (by rw [arrK_size]; kernel_rfl) (by first | rw [arrK_size, arrK_size] | rw [arrK_size] | kernel_rfl) (by exact arrK_one _ _ _) ?_
    (try simp only [Act.put, mA, mB, mC])
    intro W15 hO h_
    replace k_t2 : Blk W15 p2_2 (arrK .u8 32 (byt (enc p1))) 22 := h_
    clear h_
    replace k_t1 := blk_off k_t1 hO (nm1 nq_t1_t2)
    replace k_t3 := blk_off k_t3 hO (nm1 nq_t2_t3.symm)
    replace k_t4 := blk_off k_t4 hO (nm1 nq_t2_t4.symm)
    replace off0 := off0.step hO (i1 fb_t2)
    replace sz := off0.size
    clear hO
    refine wpL_nil ?_
    go_wp2
    exact bodyPost_ret (res_row rfl rfl k_t2 (by kernel_rfl) (by rw [arrK_size]; kernel_rfl)) rfl ⟨rfl, off0.ext⟩
  · have _f := ho
    go_upto_region 4 with fail
    refine wp_region_lit ?_
    (refine wpL_val (v := ?_) (by rfl) ?_ ?_; rotate_left 1; (focus (go_simp; first | done | with_reducible rfl)))
    (try simp only [Act.put, mA, mB, mC])
    refine wpL_gets (vs := (c4 x1).toList) (by rfl) rfl rfl k_t1 (subL p4c0) (by kernel_rfl) (by kernel_rfl) ?_
    (try simp only [Act.put, mA, mB, mC])
    refine wpL_load0 (by rfl) rfl rfl k_t3 (by kernel_rfl) (by kernel_rfl) ?_
    (try simp only [Act.put, mA, mB, mC])
    refine wpL_ret (c_N10 W11 (GE_ext hG off0.ext).1) (by rfl) rfl (by kernel_rfl) rfl ?_
    (try simp only [Act.put, mA, mB, mC])
    intro W12 hO
    replace k_t1 := blk_off k_t1 hO nm0
    replace k_t2 := blk_off k_t2 hO nm0
    replace k_t3 := blk_off k_t3 hO nm0
    replace k_t4 := blk_off k_t4 hO nm0
    replace off0 := off0.step hO i0
    replace sz := off0.size
    clear hO
    rw [decide_eq_false ho] at cd11
    refine wpL_ret (cd11 W12 (GE_ext hG off0.ext).1) (by rfl) rfl (by kernel_rfl) rfl ?_
    (try simp only [Act.put, mA, mB, mC])
    intro W13 hO
    replace k_t1 := blk_off k_t1 hO nm0
    replace k_t2 := blk_off k_t2 hO nm0
    replace k_t3 := blk_off k_t3 hO nm0
    replace k_t4 := blk_off k_t4 hO nm0
    replace off0 := off0.step hO i0
    replace sz := off0.size
    clear hO
    refine wpL_nil ?_
    rw [enc_0 r5.rr HN7.out HN10.out HN8.out ho] at k_t4
    go_upto_region 6 with fail
    refine wp_region_lit ?_
    refine wpL_load0 (by rfl) rfl rfl k_t4 (by kernel_rfl) (by rw [arrK_size]; kernel_rfl) ?_
    (try simp only [Act.put, mA, mB, mC])
    refine wpL_putrow (cells := arrK .u8 32 (byt (enc p1))) (by rfl) rfl rfl rfl k_t2 (by rw [arrK_size]; kernel_rfl) (by first | rw [arrK_size, arrK_size] | rw [arrK_size] | kernel_rfl) (by exact arrK_one _ _ _) ?_
    (try simp only [Act.put, mA, mB, mC])
    intro W14 hO h_
    replace k_t2 : Blk W14 p2_2 (arrK .u8 32 (byt (enc p1))) 22 := h_
    clear h_
    replace k_t1 := blk_off k_t1 hO (nm1 nq_t1_t2)
    replace k_t3 := blk_off k_t3 hO (nm1 nq_t2_t3.symm)
    replace k_t4 := blk_off k_t4 hO (nm1 nq_t2_t4.symm)
    replace off0 := off0.step hO (i1 fb_t2)
    replace sz := off0.size
    clear hO
    refine wpL_nil ?_
    go_wp2
    exact bodyPost_ret (res_row rfl rfl k_t2 (by kernel_rfl) (by rw [arrK_size]; kernel_rfl)) rfl ⟨rfl, off0.ext⟩
end Go.Proofs.YtghajiagbfcmdaaDoor
