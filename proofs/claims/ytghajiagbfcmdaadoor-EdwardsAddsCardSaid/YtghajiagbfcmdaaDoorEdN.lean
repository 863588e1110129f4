/- custumallaw07: EdwardsTimes, EdwardsAdds, EdwardsDecodes. Conditions: the cells of the variables hold the curve's numbers. -/
import Derived.Test.YtghajiagbfcmdaaDoorEdM
namespace Go.Proofs.YtghajiagbfcmdaaDoor
set_option linter.unusedSimpArgs false
set_option linter.unusedVariables false
open Go.RowKit
attribute [local irreducible] wpList
variable {kn : Kn}
theorem run_quoU {w : World} {o : Oper} {a : Act} {x y : Operand} {t t' : TypeId} {p q : Nat} (hq : 0 < q) (hp : p < 256) (ho : o.op = .binOp .quo t x y t') (hx : a.eval x = .int .u8 (p : Int)) (hy : a.eval y = .int .u8 (q : Int)) : (execOp a.eval o).run Tryd.prog w = .ok (.value (.int .u8 ((p / q : Nat) : Int))) w := by
  have h0 : ¬ q = 0 := by omega
  have h1 := IntWalk.u8_quo (p : Int) (q : Int) (by omega)
  rw [Int.tdiv_eq_ediv_of_nonneg (by omega)] at h1
  simp only [execOp, ho, hx, hy, eqGuard, binOp, Sem.run_bind]
  simp [Op.intDiv, h0, h1, go_sem, Sem.run_bind]

theorem pairP_on {N s : Nat} (hN : N < 2 ^ 256) : OnC (pairP N s) := by
  unfold pairP
  split
  · rename_i h; exact padd_on (pm_on BP_on N) (dPt_on h.2)
  · exact pm_on BP_on N
set_option maxRecDepth 100000 in
set_option maxHeartbeats 600000 in
theorem lTimes_c (hd : kn.d) (hb : kn.b) (hc : kn.c) {N M s : Nat} (hN : N < 2 ^ 256) (hM : M < 2 ^ 256) (hs : s < 256) :
    ∀ w, GE kn w → Calls Tryd.prog 5 #[.agg (arrK .u8 32 (byt N)), .agg (arrK .u8 32 (byt M)), .int .u8 (s : Int)] w fun e w' => Ret (.bool true) w w' e := by
  obtain ⟨x1, y2, z3, t4, u5, v6, w7, r8, q9, c10⟩ := lPair_c hd hb hc (N := N) (s := s) hN hs
  obtain ⟨x11, y12, z13, t14, r15, c16⟩ := eTimes_c hd r8.rw (N := M) hM
  obtain ⟨x17, y18, z19, r20, c21⟩ := rTimes_c q9 (lb 32 M) (by rw [lb_length]; decide)
  rw [le_lb 32 M hM] at r20
  intro w hG
  have off0 : Off [] w w := Off.refl _ _
  have sz := off0.size
  go_enter Tryd.func5, Tryd.ntmps5
  go_upto_region 0 with fail
  refine wp_region_lit ?_
  refine wpL_new (z := arrK .u8 32 (byt N)) (t := 22) (by rfl) (by first | kernel_rfl | (go_simp; done) | (go_simp; rfl)) ?_
  (try simp only [Act.put, mA, mB, mC])
  intro p3_1 W1 n_t3 hO h_
  have fb_t3 : Fb p3_1 w.heap.size [] := fb_new (Nat.le_trans sz n_t3)
  replace off0 := off0.step hO i0
  replace sz := off0.size
  have k_t3 := h_
  clear hO h_ n_t3
  refine wpL_new (z := arrK .u8 32 (byt M)) (t := 22) (by rfl) (by first | kernel_rfl | (go_simp; done) | (go_simp; rfl)) ?_
  (try simp only [Act.put, mA, mB, mC])
  intro p4_2 W2 n_t4 hO h_
  have nq_t3_t4 : p3_1 ≠ p4_2 := Nat.ne_of_lt (Nat.lt_of_lt_of_le (blk_lt k_t3) n_t4)
  have fb_t4 : Fb p4_2 w.heap.size [] := fb_new (Nat.le_trans sz n_t4)
  replace k_t3 := blk_off k_t3 hO nm0
  replace off0 := off0.step hO i0
  replace sz := off0.size
  have k_t4 := h_
  clear hO h_ n_t4
  refine wpL_val (v := .bool false) (by rfl) (by first | rfl | (go_simp; done) | (go_simp; with_reducible rfl) | (go_simp; omega)) ?_
  (try simp only [Act.put, mA, mB, mC])
  refine wpL_nil ?_
  go_upto_region 1 with fail
  refine wp_region_lit ?_
  refine wpL_load0 (by rfl) rfl rfl k_t3 (by kernel_rfl) (by rw [arrK_size]; kernel_rfl) ?_
  (try simp only [Act.put, mA, mB, mC])
  (refine wpL_val (v := ?_) (by rfl) ?_ ?_; rotate_left 1; (focus (go_simp; first | done | with_reducible rfl)))
  (try simp only [Act.put, mA, mB, mC])
  refine wpL_ret (c10 W2 (GE_ext hG off0.ext)) (by rfl) rfl (by kernel_rfl) rfl ?_
  (try simp only [Act.put, mA, mB, mC])
  intro W3 hO
  replace k_t3 := blk_off k_t3 hO nm0
  replace k_t4 := blk_off k_t4 hO nm0
  replace off0 := off0.step hO i0
  replace sz := off0.size
  clear hO
  (refine wpL_val (v := ?_) (by rfl) ?_ ?_; rotate_left 1; (focus (go_simp; first | done | with_reducible rfl)))
  (try simp only [Act.put, mA, mB, mC])
  (refine wpL_val (v := ?_) (by rfl) ?_ ?_; rotate_left 1; (focus (go_simp; first | done | with_reducible rfl)))
  (try simp only [Act.put, mA, mB, mC])
  (refine wpL_val (v := ?_) (by rfl) ?_ ?_; rotate_left 1; (focus (go_simp; first | done | with_reducible rfl)))
  (try simp only [Act.put, mA, mB, mC])
  refine wpL_new (z := p4 0 0 0 0) (t := 28) (by rfl) (by first | kernel_rfl | (go_simp; done) | (go_simp; rfl)) ?_
  (try simp only [Act.put, mA, mB, mC])
  intro p7_4 W4 n_t7 hO h_
  have nq_t3_t7 : p3_1 ≠ p7_4 := Nat.ne_of_lt (Nat.lt_of_lt_of_le (blk_lt k_t3) n_t7)
  have nq_t4_t7 : p4_2 ≠ p7_4 := Nat.ne_of_lt (Nat.lt_of_lt_of_le (blk_lt k_t4) n_t7)
  have fb_t7 : Fb p7_4 w.heap.size [] := fb_new (Nat.le_trans sz n_t7)
  replace k_t3 := blk_off k_t3 hO nm0
  replace k_t4 := blk_off k_t4 hO nm0
  replace off0 := off0.step hO i0
  replace sz := off0.size
  have k_t7 := h_
  clear hO h_ n_t7
  refine wpL_new (z := p3 0 0 0) (t := 41) (by rfl) (by first | kernel_rfl | (go_simp; done) | (go_simp; rfl)) ?_
  (try simp only [Act.put, mA, mB, mC])
  intro p8_5 W5 n_t8 hO h_
  have nq_t3_t8 : p3_1 ≠ p8_5 := Nat.ne_of_lt (Nat.lt_of_lt_of_le (blk_lt k_t3) n_t8)
  have nq_t4_t8 : p4_2 ≠ p8_5 := Nat.ne_of_lt (Nat.lt_of_lt_of_le (blk_lt k_t4) n_t8)
  have nq_t7_t8 : p7_4 ≠ p8_5 := Nat.ne_of_lt (Nat.lt_of_lt_of_le (blk_lt k_t7) n_t8)
  have fb_t8 : Fb p8_5 w.heap.size [] := fb_new (Nat.le_trans sz n_t8)
  replace k_t3 := blk_off k_t3 hO nm0
  replace k_t4 := blk_off k_t4 hO nm0
  replace k_t7 := blk_off k_t7 hO nm0
  replace off0 := off0.step hO i0
  replace sz := off0.size
  have k_t8 := h_
  clear hO h_ n_t8
  refine wpL_putrow (cells := p4 x1 y2 z3 t4) (by rfl) rfl rfl rfl k_t7 (by kernel_rfl) (by kernel_rfl) (by kernel_rfl) ?_
  (try simp only [Act.put, mA, mB, mC])
  intro W6 hO h_
  replace k_t7 : Blk W6 p7_4 (p4 x1 y2 z3 t4) 28 := h_
  clear h_
  replace k_t3 := blk_off k_t3 hO (nm1 nq_t3_t7)
  replace k_t4 := blk_off k_t4 hO (nm1 nq_t4_t7)
  replace k_t8 := blk_off k_t8 hO (nm1 nq_t7_t8.symm)
  replace off0 := off0.step hO (i1 fb_t7)
  replace sz := off0.size
  clear hO
  refine wpL_putrow (cells := p3 u5 v6 w7) (by rfl) rfl rfl rfl k_t8 (by rw [p3_size]; kernel_rfl) (by first | rw [p3_size, p3_size] | rw [p3_size] | kernel_rfl) (by exact p3_one) ?_
  (try simp only [Act.put, mA, mB, mC])
  intro W7 hO h_
  replace k_t8 : Blk W7 p8_5 (p3 u5 v6 w7) 41 := h_
  clear h_
  replace k_t3 := blk_off k_t3 hO (nm1 nq_t3_t8)
  replace k_t4 := blk_off k_t4 hO (nm1 nq_t4_t8)
  replace k_t7 := blk_off k_t7 hO (nm1 nq_t7_t8)
  replace off0 := off0.step hO (i1 fb_t8)
  replace sz := off0.size
  clear hO
  refine wpL_nil ?_
  go_upto_region 2 with fail
  refine wp_region_xn 20 [] (by kernel_rfl) (fun x hx => by cases hx) (by kernel_rfl) ?_
  simp only [List.take_succ_cons, List.take_zero, List.take_nil]
  (try simp only [Act.put, mA, mB, mC])
  ((with_reducible refine wpX_fn (fun W hW => lBases_c hb W (GE_ext (GE_ext hG off0.ext) hW)) ?_ rfl ?_ ?_ ?_); (focus rfl); (focus kernel_rfl); (focus rfl); (try simp only [Act.put, mA, mB, mC]))
  (refine wpX_val (v := ?_) (by rfl) (fun W hW => ?_) ?_; rotate_left 1; (focus (go_simp; first | done | with_reducible rfl)); (try simp only [Act.put, mA, mB, mC]))
  ((with_reducible refine wpX_fn (fun W hW => rRight_c W) ?_ rfl ?_ ?_ ?_); (focus rfl); (focus kernel_rfl); (focus rfl); (try simp only [Act.put, mA, mB, mC]))
  (refine wpX_val (v := ?_) (by rfl) (fun W hW => ?_) ?_; rotate_left 1; (focus (go_simp; first | done | with_reducible rfl)); (try simp only [Act.put, mA, mB, mC]))
  (refine wpX_val (v := ?_) (by rfl) (fun W hW => ?_) ?_; rotate_left 1; (focus (go_simp; first | done | with_reducible rfl)); (try simp only [Act.put, mA, mB, mC]))
  refine wpX_load (by rfl) rfl rfl (blk_rd k_t7) (by kernel_rfl) (by kernel_rfl) ?_
  (try simp only [Act.put, mA, mB, mC])
  refine wpX_load (by rfl) rfl rfl (blk_rd k_t8) (by kernel_rfl) (by rw [p3_size]; kernel_rfl) ?_
  (try simp only [Act.put, mA, mB, mC])
  ((with_reducible refine wpX_fn (fun W hW => lSame_c r8.rw q9 W (GE_ext (GE_ext hG off0.ext) hW)) ?_ rfl ?_ ?_ ?_); (focus rfl); (focus kernel_rfl); (focus rfl); (try simp only [Act.put, mA, mB, mC]))
  (refine wpX_val (v := ?_) (by rfl) (fun W hW => ?_) ?_; rotate_left 1; (focus (go_simp; first | done | with_reducible rfl)); (try simp only [Act.put, mA, mB, mC]))
  (refine wpX_val (v := ?_) (by rfl) (fun W hW => ?_) ?_; rotate_left 1; (focus (go_simp; first | done | with_reducible rfl)); (try simp only [Act.put, mA, mB, mC]))
  refine wpX_load (by rfl) rfl rfl (blk_rd k_t7) (by kernel_rfl) (by kernel_rfl) ?_
  (try simp only [Act.put, mA, mB, mC])
  refine wpX_load (by rfl) rfl rfl (blk_rd k_t4) (by kernel_rfl) (by rw [arrK_size]; kernel_rfl) ?_
  (try simp only [Act.put, mA, mB, mC])
  ((with_reducible refine wpX_fn (fun W hW => c16 W (GE_ext (GE_ext hG off0.ext) hW)) ?_ rfl ?_ ?_ ?_); (focus rfl); (focus kernel_rfl); (focus rfl); (try simp only [Act.put, mA, mB, mC]))
  refine wpX_load (by rfl) rfl rfl (blk_rd k_t8) (by kernel_rfl) (by rw [p3_size]; kernel_rfl) ?_
  (try simp only [Act.put, mA, mB, mC])
  (refine wpX_val (v := ?_) (by rfl) (fun W hW => ?_) ?_; rotate_left 1; (focus (go_simp; first | done | with_reducible rfl)); (try simp only [Act.put, mA, mB, mC]))
  refine wpX_str (l := (lb 32 M)) (fun W hW => sl_arr (by decide) (blk_step k_t4 hW)) (by rfl) rfl rfl ?_
  (try simp only [Act.put, mA, mB, mC])
  ((with_reducible refine wpX_fn (fun W hW => c21 W) ?_ rfl ?_ ?_ ?_); (focus rfl); (focus kernel_rfl); (focus rfl); (try simp only [Act.put, mA, mB, mC]))
  ((with_reducible refine wpX_fn (fun W hW => lSame_c r15.rw r20 W (GE_ext (GE_ext hG off0.ext) hW)) ?_ rfl ?_ ?_ ?_); (focus rfl); (focus kernel_rfl); (focus rfl); (try simp only [Act.put, mA, mB, mC]))
  (refine wpX_val (v := ?_) (by rfl) (fun W hW => ?_) ?_; rotate_left 1; (focus (go_simp; first | done | with_reducible rfl)); (try simp only [Act.put, mA, mB, mC]))
  (refine wpX_val (v := ?_) (by rfl) (fun W hW => ?_) ?_; rotate_left 1; (focus (go_simp; first | done | with_reducible rfl)); (try simp only [Act.put, mA, mB, mC]))
  refine wpX_nil ?_
  intro β W8 hE hN hD
  clear hN hD
  simp only [putAll, Act.put, mA, mB, mC, List.drop_succ_cons, List.drop_zero, List.drop_nil, List.length_cons, List.length_nil, Nat.add_zero]
  have hO := off_ext hE
  replace k_t3 := blk_off k_t3 hO nm0
  replace k_t4 := blk_off k_t4 hO nm0
  replace k_t7 := blk_off k_t7 hO nm0
  replace k_t8 := blk_off k_t8 hO nm0
  replace off0 := off0.step hO i0
  replace sz := off0.size
  clear hO hE β
  refine wpL_nil ?_
  first | with_reducible refine NoPanic.normal (Q := Exit.then _ _) ?_ | with_reducible refine NoPanic.normal ?_
  go_wp2
  exact bodyPost_ret (v := .bool true) (by simp only [results, Tryd.results5]; go_simp) rfl ⟨rfl, off0.ext⟩
set_option maxRecDepth 100000 in
set_option maxHeartbeats 600000 in
theorem lAdds_c (hd : kn.d) (hb : kn.b) (hc : kn.c) {N M s : Nat} (hN : N < 2 ^ 256) (hM : M < 2 ^ 256) (hs : s < 256) :
    ∀ w, GE kn w → Calls Tryd.prog 6 #[.agg (arrK .u8 32 (byt N)), .agg (arrK .u8 32 (byt M)), .int .u8 (s : Int)] w fun e w' => Ret (.bool true) w w' e := by
  obtain ⟨x1, y2, z3, t4, u5, v6, w7, r8, q9, c10⟩ := lPair_c hd hb hc (N := N) (s := s) hN hs
  obtain ⟨x11, y12, z13, t14, u15, v16, w17, r18, q19, c20⟩ := lPair_c hd hb hc (N := M) (s := (s / 2)) hM (Nat.lt_of_le_of_lt (Nat.div_le_self _ _) hs)
  obtain ⟨x21, y22, z23, t24, r25, c26⟩ := eAdd_c hd r8.rw r18.rw
  obtain ⟨x27, y28, z29, r30, c31⟩ := rPAdd_c q9 q19
  obtain ⟨x32, y33, z34, t35, r36, c37⟩ := eNeg_c (kn := kn) r8.rw
  obtain ⟨x38, y39, z40, r41, c42⟩ := rPNeg_c q9
  obtain ⟨x43, y44, z45, t46, r47, c48⟩ := eEight_c (kn := kn) r8.rw
  obtain ⟨x49, y50, z51, r52, c53⟩ := rEight_c q9
  obtain ⟨x54, y55, z56, t57, r58, c59⟩ := eAdd_c hd r8.rw r8.rw
  obtain ⟨x60, y61, z62, r63, c64⟩ := rPAdd_c q9 q9
  have cs65 := eSame_c (kn := kn) r8.rw r18.rw
  obtain ⟨tf, htf⟩ : ∃ v_, v_ = decide ((pairP N s) = (pairP M (s / 2))) := ⟨_, rfl⟩
  rw [← htf] at cs65
  have crs := rSame_c q9 q19
  rw [← htf] at crs
  clear htf
  obtain ⟨x66, y67, z68, t69, r70, c71⟩ := eAdd_c hd r8.rw rw_zero
  have cs72 := eSame_c (kn := kn) r70.rw r8.rw
  rw [decide_eq_true (padd_p0 _)] at cs72
  obtain ⟨x73, y74, z75, t76, r77, c78⟩ := eNeg_c (kn := kn) r8.rw
  obtain ⟨x79, y80, z81, t82, r83, c84⟩ := eAdd_c hd r8.rw r77.rw
  have cs85 := eSame_c (kn := kn) r83.rw rw_zero
  rw [decide_eq_true (padd_neg (pairP_on hN))] at cs85
  obtain ⟨x86, y87, z88, t89, r90, c91⟩ := eEight_c (kn := kn) rw_zero
  have cs92 := eSame_c (kn := kn) r90.rw rw_zero
  rw [decide_eq_true (pm_p0 8)] at cs92
  obtain ⟨x93, y94, z95, t96, r97, c98⟩ := eTimes_c hd rw_zero (N := M) hM
  have cs99 := eSame_c (kn := kn) r97.rw rw_zero
  rw [decide_eq_true (pm_p0 M)] at cs99
  intro w hG
  have off0 : Off [] w w := Off.refl _ _
  have sz := off0.size
  go_enter Tryd.func6, Tryd.ntmps6
  go_upto_region 0 with fail
  refine wp_region_lit ?_
  refine wpL_new (z := arrK .u8 32 (byt N)) (t := 22) (by rfl) (by first | kernel_rfl | (go_simp; done) | (go_simp; rfl)) ?_
  (try simp only [Act.put, mA, mB, mC])
  intro p3_1 W1 n_t3 hO h_
  have fb_t3 : Fb p3_1 w.heap.size [] := fb_new (Nat.le_trans sz n_t3)
  replace off0 := off0.step hO i0
  replace sz := off0.size
  have k_t3 := h_
  clear hO h_ n_t3
  refine wpL_new (z := arrK .u8 32 (byt M)) (t := 22) (by rfl) (by first | kernel_rfl | (go_simp; done) | (go_simp; rfl)) ?_
  (try simp only [Act.put, mA, mB, mC])
  intro p4_2 W2 n_t4 hO h_
  have nq_t3_t4 : p3_1 ≠ p4_2 := Nat.ne_of_lt (Nat.lt_of_lt_of_le (blk_lt k_t3) n_t4)
  have fb_t4 : Fb p4_2 w.heap.size [] := fb_new (Nat.le_trans sz n_t4)
  replace k_t3 := blk_off k_t3 hO nm0
  replace off0 := off0.step hO i0
  replace sz := off0.size
  have k_t4 := h_
  clear hO h_ n_t4
  refine wpL_val (v := .bool false) (by rfl) (by first | rfl | (go_simp; done) | (go_simp; with_reducible rfl) | (go_simp; omega)) ?_
  (try simp only [Act.put, mA, mB, mC])
  refine wpL_nil ?_
  go_upto_region 1 with fail
  refine wp_region_lit ?_
  refine wpL_load0 (by rfl) rfl rfl k_t3 (by kernel_rfl) (by rw [arrK_size]; kernel_rfl) ?_
  (try simp only [Act.put, mA, mB, mC])
  (refine wpL_val (v := ?_) (by rfl) ?_ ?_; rotate_left 1; (focus (go_simp; first | done | with_reducible rfl)))
  (try simp only [Act.put, mA, mB, mC])
  refine wpL_ret (c10 W2 (GE_ext hG off0.ext)) (by rfl) rfl (by kernel_rfl) rfl ?_
  (try simp only [Act.put, mA, mB, mC])
  intro W3 hO
  replace k_t3 := blk_off k_t3 hO nm0
  replace k_t4 := blk_off k_t4 hO nm0
  replace off0 := off0.step hO i0
  replace sz := off0.size
  clear hO
  (refine wpL_val (v := ?_) (by rfl) ?_ ?_; rotate_left 1; (focus (go_simp; first | done | with_reducible rfl)))
  (try simp only [Act.put, mA, mB, mC])
  (refine wpL_val (v := ?_) (by rfl) ?_ ?_; rotate_left 1; (focus (go_simp; first | done | with_reducible rfl)))
  (try simp only [Act.put, mA, mB, mC])
  (refine wpL_val (v := ?_) (by rfl) ?_ ?_; rotate_left 1; (focus (go_simp; first | done | with_reducible rfl)))
  (try simp only [Act.put, mA, mB, mC])
  refine wpL_new (z := p4 0 0 0 0) (t := 28) (by rfl) (by first | kernel_rfl | (go_simp; done) | (go_simp; rfl)) ?_
  (try simp only [Act.put, mA, mB, mC])
  intro p7_4 W4 n_t7 hO h_
  have nq_t3_t7 : p3_1 ≠ p7_4 := Nat.ne_of_lt (Nat.lt_of_lt_of_le (blk_lt k_t3) n_t7)
  have nq_t4_t7 : p4_2 ≠ p7_4 := Nat.ne_of_lt (Nat.lt_of_lt_of_le (blk_lt k_t4) n_t7)
  have fb_t7 : Fb p7_4 w.heap.size [] := fb_new (Nat.le_trans sz n_t7)
  replace k_t3 := blk_off k_t3 hO nm0
  replace k_t4 := blk_off k_t4 hO nm0
  replace off0 := off0.step hO i0
  replace sz := off0.size
  have k_t7 := h_
  clear hO h_ n_t7
  refine wpL_new (z := p3 0 0 0) (t := 41) (by rfl) (by first | kernel_rfl | (go_simp; done) | (go_simp; rfl)) ?_
  (try simp only [Act.put, mA, mB, mC])
  intro p8_5 W5 n_t8 hO h_
  have nq_t3_t8 : p3_1 ≠ p8_5 := Nat.ne_of_lt (Nat.lt_of_lt_of_le (blk_lt k_t3) n_t8)
  have nq_t4_t8 : p4_2 ≠ p8_5 := Nat.ne_of_lt (Nat.lt_of_lt_of_le (blk_lt k_t4) n_t8)
  have nq_t7_t8 : p7_4 ≠ p8_5 := Nat.ne_of_lt (Nat.lt_of_lt_of_le (blk_lt k_t7) n_t8)
  have fb_t8 : Fb p8_5 w.heap.size [] := fb_new (Nat.le_trans sz n_t8)
  replace k_t3 := blk_off k_t3 hO nm0
  replace k_t4 := blk_off k_t4 hO nm0
  replace k_t7 := blk_off k_t7 hO nm0
  replace off0 := off0.step hO i0
  replace sz := off0.size
  have k_t8 := h_
  clear hO h_ n_t8
  refine wpL_putrow (cells := p4 x1 y2 z3 t4) (by rfl) rfl rfl rfl k_t7 (by kernel_rfl) (by kernel_rfl) (by kernel_rfl) ?_
  (try simp only [Act.put, mA, mB, mC])
  intro W6 hO h_
  replace k_t7 : Blk W6 p7_4 (p4 x1 y2 z3 t4) 28 := h_
  clear h_
  replace k_t3 := blk_off k_t3 hO (nm1 nq_t3_t7)
  replace k_t4 := blk_off k_t4 hO (nm1 nq_t4_t7)
  replace k_t8 := blk_off k_t8 hO (nm1 nq_t7_t8.symm)
  replace off0 := off0.step hO (i1 fb_t7)
  replace sz := off0.size
  clear hO
  refine wpL_putrow (cells := p3 u5 v6 w7) (by rfl) rfl rfl rfl k_t8 (by rw [p3_size]; kernel_rfl) (by first | rw [p3_size, p3_size] | rw [p3_size] | kernel_rfl) (by exact p3_one) ?_
  (try simp only [Act.put, mA, mB, mC])
  intro W7 hO h_
  replace k_t8 : Blk W7 p8_5 (p3 u5 v6 w7) 41 := h_
  clear h_
  replace k_t3 := blk_off k_t3 hO (nm1 nq_t3_t8)
  replace k_t4 := blk_off k_t4 hO (nm1 nq_t4_t8)
  replace k_t7 := blk_off k_t7 hO (nm1 nq_t7_t8)
  replace off0 := off0.step hO (i1 fb_t8)
  replace sz := off0.size
  clear hO
  refine wpL_nil ?_
  go_upto_region 2 with fail
  refine wp_region_lit ?_
  refine wpL_load0 (by rfl) rfl rfl k_t4 (by kernel_rfl) (by rw [arrK_size]; kernel_rfl) ?_
  (try simp only [Act.put, mA, mB, mC])
  (refine wpL_val (v := ?_) (by rfl) ?_ ?_; rotate_left 1; (focus (go_simp; first | done | with_reducible rfl)))
  (try simp only [Act.put, mA, mB, mC])
  refine wpL_val (v := .int .u8 ((s / 2 : Nat) : Int)) (by rfl) (by exact run_quoU (q := 2) (by decide) hs rfl rfl rfl) ?_
  (try simp only [Act.put, mA, mB, mC])
  refine wpL_ret (c20 W7 (GE_ext hG off0.ext)) (by rfl) rfl (by kernel_rfl) rfl ?_
  (try simp only [Act.put, mA, mB, mC])
  intro W8 hO
  replace k_t3 := blk_off k_t3 hO nm0
  replace k_t4 := blk_off k_t4 hO nm0
  replace k_t7 := blk_off k_t7 hO nm0
  replace k_t8 := blk_off k_t8 hO nm0
  replace off0 := off0.step hO i0
  replace sz := off0.size
  clear hO
  (refine wpL_val (v := ?_) (by rfl) ?_ ?_; rotate_left 1; (focus (go_simp; first | done | with_reducible rfl)))
  (try simp only [Act.put, mA, mB, mC])
  (refine wpL_val (v := ?_) (by rfl) ?_ ?_; rotate_left 1; (focus (go_simp; first | done | with_reducible rfl)))
  (try simp only [Act.put, mA, mB, mC])
  (refine wpL_val (v := ?_) (by rfl) ?_ ?_; rotate_left 1; (focus (go_simp; first | done | with_reducible rfl)))
  (try simp only [Act.put, mA, mB, mC])
  refine wpL_new (z := p4 0 0 0 0) (t := 28) (by rfl) (by first | kernel_rfl | (go_simp; done) | (go_simp; rfl)) ?_
  (try simp only [Act.put, mA, mB, mC])
  intro p9_9 W9 n_t9 hO h_
  have nq_t3_t9 : p3_1 ≠ p9_9 := Nat.ne_of_lt (Nat.lt_of_lt_of_le (blk_lt k_t3) n_t9)
  have nq_t4_t9 : p4_2 ≠ p9_9 := Nat.ne_of_lt (Nat.lt_of_lt_of_le (blk_lt k_t4) n_t9)
  have nq_t7_t9 : p7_4 ≠ p9_9 := Nat.ne_of_lt (Nat.lt_of_lt_of_le (blk_lt k_t7) n_t9)
  have nq_t8_t9 : p8_5 ≠ p9_9 := Nat.ne_of_lt (Nat.lt_of_lt_of_le (blk_lt k_t8) n_t9)
  have fb_t9 : Fb p9_9 w.heap.size [] := fb_new (Nat.le_trans sz n_t9)
  replace k_t3 := blk_off k_t3 hO nm0
  replace k_t4 := blk_off k_t4 hO nm0
  replace k_t7 := blk_off k_t7 hO nm0
  replace k_t8 := blk_off k_t8 hO nm0
  replace off0 := off0.step hO i0
  replace sz := off0.size
  have k_t9 := h_
  clear hO h_ n_t9
  refine wpL_new (z := p3 0 0 0) (t := 41) (by rfl) (by first | kernel_rfl | (go_simp; done) | (go_simp; rfl)) ?_
  (try simp only [Act.put, mA, mB, mC])
  intro p10_10 W10 n_t10 hO h_
  have nq_t3_t10 : p3_1 ≠ p10_10 := Nat.ne_of_lt (Nat.lt_of_lt_of_le (blk_lt k_t3) n_t10)
  have nq_t4_t10 : p4_2 ≠ p10_10 := Nat.ne_of_lt (Nat.lt_of_lt_of_le (blk_lt k_t4) n_t10)
  have nq_t7_t10 : p7_4 ≠ p10_10 := Nat.ne_of_lt (Nat.lt_of_lt_of_le (blk_lt k_t7) n_t10)
  have nq_t8_t10 : p8_5 ≠ p10_10 := Nat.ne_of_lt (Nat.lt_of_lt_of_le (blk_lt k_t8) n_t10)
  have nq_t9_t10 : p9_9 ≠ p10_10 := Nat.ne_of_lt (Nat.lt_of_lt_of_le (blk_lt k_t9) n_t10)
  have fb_t10 : Fb p10_10 w.heap.size [] := fb_new (Nat.le_trans sz n_t10)
  replace k_t3 := blk_off k_t3 hO nm0
  replace k_t4 := blk_off k_t4 hO nm0
  replace k_t7 := blk_off k_t7 hO nm0
  replace k_t8 := blk_off k_t8 hO nm0
  replace k_t9 := blk_off k_t9 hO nm0
  replace off0 := off0.step hO i0
  replace sz := off0.size
  have k_t10 := h_
  clear hO h_ n_t10
  refine wpL_putrow (cells := p4 x11 y12 z13 t14) (by rfl) rfl rfl rfl k_t9 (by kernel_rfl) (by kernel_rfl) (by kernel_rfl) ?_
  (try simp only [Act.put, mA, mB, mC])
  intro W11 hO h_
  replace k_t9 : Blk W11 p9_9 (p4 x11 y12 z13 t14) 28 := h_
  clear h_
  replace k_t3 := blk_off k_t3 hO (nm1 nq_t3_t9)
  replace k_t4 := blk_off k_t4 hO (nm1 nq_t4_t9)
  replace k_t7 := blk_off k_t7 hO (nm1 nq_t7_t9)
  replace k_t8 := blk_off k_t8 hO (nm1 nq_t8_t9)
  replace k_t10 := blk_off k_t10 hO (nm1 nq_t9_t10.symm)
  replace off0 := off0.step hO (i1 fb_t9)
  replace sz := off0.size
  clear hO
  refine wpL_putrow (cells := p3 u15 v16 w17) (by rfl) rfl rfl rfl k_t10 (by rw [p3_size]; kernel_rfl) (by first | rw [p3_size, p3_size] | rw [p3_size] | kernel_rfl) (by exact p3_one) ?_
  (try simp only [Act.put, mA, mB, mC])
  intro W12 hO h_
  replace k_t10 : Blk W12 p10_10 (p3 u15 v16 w17) 41 := h_
  clear h_
  replace k_t3 := blk_off k_t3 hO (nm1 nq_t3_t10)
  replace k_t4 := blk_off k_t4 hO (nm1 nq_t4_t10)
  replace k_t7 := blk_off k_t7 hO (nm1 nq_t7_t10)
  replace k_t8 := blk_off k_t8 hO (nm1 nq_t8_t10)
  replace k_t9 := blk_off k_t9 hO (nm1 nq_t9_t10)
  replace off0 := off0.step hO (i1 fb_t10)
  replace sz := off0.size
  clear hO
  refine wpL_nil ?_
  go_upto_region 3 with fail
  refine wp_region_lit ?_
  refine wpL_new (z := p4 0 0 0 0) (t := 28) (by rfl) (by first | kernel_rfl | (go_simp; done) | (go_simp; rfl)) ?_
  (try simp only [Act.put, mA, mB, mC])
  intro p11_13 W13 n_t11 hO h_
  have nq_t3_t11 : p3_1 ≠ p11_13 := Nat.ne_of_lt (Nat.lt_of_lt_of_le (blk_lt k_t3) n_t11)
  have nq_t4_t11 : p4_2 ≠ p11_13 := Nat.ne_of_lt (Nat.lt_of_lt_of_le (blk_lt k_t4) n_t11)
  have nq_t7_t11 : p7_4 ≠ p11_13 := Nat.ne_of_lt (Nat.lt_of_lt_of_le (blk_lt k_t7) n_t11)
  have nq_t8_t11 : p8_5 ≠ p11_13 := Nat.ne_of_lt (Nat.lt_of_lt_of_le (blk_lt k_t8) n_t11)
  have nq_t9_t11 : p9_9 ≠ p11_13 := Nat.ne_of_lt (Nat.lt_of_lt_of_le (blk_lt k_t9) n_t11)
  have nq_t10_t11 : p10_10 ≠ p11_13 := Nat.ne_of_lt (Nat.lt_of_lt_of_le (blk_lt k_t10) n_t11)
  have fb_t11 : Fb p11_13 w.heap.size [] := fb_new (Nat.le_trans sz n_t11)
  replace k_t3 := blk_off k_t3 hO nm0
  replace k_t4 := blk_off k_t4 hO nm0
  replace k_t7 := blk_off k_t7 hO nm0
  replace k_t8 := blk_off k_t8 hO nm0
  replace k_t9 := blk_off k_t9 hO nm0
  replace k_t10 := blk_off k_t10 hO nm0
  replace off0 := off0.step hO i0
  replace sz := off0.size
  have k_t11 := h_
  clear hO h_ n_t11
  refine wpL_nil ?_
  go_upto_region 4 with fail
  refine wp_region_xn 71 [] (by kernel_rfl) (fun x hx => by cases hx) (by kernel_rfl) ?_
  simp only [List.append, List.take_succ_cons, List.take_zero, List.take_nil]
  (try simp only [Act.put, mA, mB, mC])
  ((with_reducible refine wpX_fn (fun W hW => lBases_c hb W (GE_ext (GE_ext hG off0.ext) hW)) ?_ rfl ?_ ?_ ?_); (focus rfl); (focus kernel_rfl); (focus rfl); (try simp only [Act.put, mA, mB, mC]))
  (refine wpX_val (v := ?_) (by rfl) (fun W hW => ?_) ?_; rotate_left 1; (focus (go_simp; first | done | with_reducible rfl)); (try simp only [Act.put, mA, mB, mC]))
  refine wpX_load (by rfl) rfl rfl (blk_rd k_t7) (by kernel_rfl) (by kernel_rfl) ?_
  (try simp only [Act.put, mA, mB, mC])
  refine wpX_load (by rfl) rfl rfl (blk_rd k_t9) (by kernel_rfl) (by kernel_rfl) ?_
  (try simp only [Act.put, mA, mB, mC])
  ((with_reducible refine wpX_fn (fun W hW => c26 W (GE_ext (GE_ext hG off0.ext) hW)) ?_ rfl ?_ ?_ ?_); (focus rfl); (focus kernel_rfl); (focus rfl); (try simp only [Act.put, mA, mB, mC]))
  refine wpX_load (by rfl) rfl rfl (blk_rd k_t8) (by kernel_rfl) (by rw [p3_size]; kernel_rfl) ?_
  (try simp only [Act.put, mA, mB, mC])
  refine wpX_load (by rfl) rfl rfl (blk_rd k_t10) (by kernel_rfl) (by rw [p3_size]; kernel_rfl) ?_
  (try simp only [Act.put, mA, mB, mC])
  ((with_reducible refine wpX_fn (fun W hW => c31 W) ?_ rfl ?_ ?_ ?_); (focus rfl); (focus kernel_rfl); (focus rfl); (try simp only [Act.put, mA, mB, mC]))
  ((with_reducible refine wpX_fn (fun W hW => lSame_c r25.rw r30 W (GE_ext (GE_ext hG off0.ext) hW)) ?_ rfl ?_ ?_ ?_); (focus rfl); (focus kernel_rfl); (focus rfl); (try simp only [Act.put, mA, mB, mC]))
  (refine wpX_val (v := ?_) (by rfl) (fun W hW => ?_) ?_; rotate_left 1; (focus (go_simp; first | done | with_reducible rfl)); (try simp only [Act.put, mA, mB, mC]))
  (refine wpX_val (v := ?_) (by rfl) (fun W hW => ?_) ?_; rotate_left 1; (focus (go_simp; first | done | with_reducible rfl)); (try simp only [Act.put, mA, mB, mC]))
  refine wpX_load (by rfl) rfl rfl (blk_rd k_t7) (by kernel_rfl) (by kernel_rfl) ?_
  (try simp only [Act.put, mA, mB, mC])
  ((with_reducible refine wpX_fn (fun W hW => c37 W (GE_ext (GE_ext hG off0.ext) hW)) ?_ rfl ?_ ?_ ?_); (focus rfl); (focus kernel_rfl); (focus rfl); (try simp only [Act.put, mA, mB, mC]))
  refine wpX_load (by rfl) rfl rfl (blk_rd k_t8) (by kernel_rfl) (by rw [p3_size]; kernel_rfl) ?_
  (try simp only [Act.put, mA, mB, mC])
  ((with_reducible refine wpX_fn (fun W hW => c42 W) ?_ rfl ?_ ?_ ?_); (focus rfl); (focus kernel_rfl); (focus rfl); (try simp only [Act.put, mA, mB, mC]))
  ((with_reducible refine wpX_fn (fun W hW => lSame_c r36.rw r41 W (GE_ext (GE_ext hG off0.ext) hW)) ?_ rfl ?_ ?_ ?_); (focus rfl); (focus kernel_rfl); (focus rfl); (try simp only [Act.put, mA, mB, mC]))
  (refine wpX_val (v := ?_) (by rfl) (fun W hW => ?_) ?_; rotate_left 1; (focus (go_simp; first | done | with_reducible rfl)); (try simp only [Act.put, mA, mB, mC]))
  (refine wpX_val (v := ?_) (by rfl) (fun W hW => ?_) ?_; rotate_left 1; (focus (go_simp; first | done | with_reducible rfl)); (try simp only [Act.put, mA, mB, mC]))
  refine wpX_load (by rfl) rfl rfl (blk_rd k_t7) (by kernel_rfl) (by kernel_rfl) ?_
  (try simp only [Act.put, mA, mB, mC])
  ((with_reducible refine wpX_fn (fun W hW => c48 W (GE_ext (GE_ext hG off0.ext) hW)) ?_ rfl ?_ ?_ ?_); (focus rfl); (focus kernel_rfl); (focus rfl); (try simp only [Act.put, mA, mB, mC]))
  refine wpX_load (by rfl) rfl rfl (blk_rd k_t8) (by kernel_rfl) (by rw [p3_size]; kernel_rfl) ?_
  (try simp only [Act.put, mA, mB, mC])
  ((with_reducible refine wpX_fn (fun W hW => c53 W) ?_ rfl ?_ ?_ ?_); (focus rfl); (focus kernel_rfl); (focus rfl); (try simp only [Act.put, mA, mB, mC]))
  ((with_reducible refine wpX_fn (fun W hW => lSame_c r47.rw r52 W (GE_ext (GE_ext hG off0.ext) hW)) ?_ rfl ?_ ?_ ?_); (focus rfl); (focus kernel_rfl); (focus rfl); (try simp only [Act.put, mA, mB, mC]))
  (refine wpX_val (v := ?_) (by rfl) (fun W hW => ?_) ?_; rotate_left 1; (focus (go_simp; first | done | with_reducible rfl)); (try simp only [Act.put, mA, mB, mC]))
  (refine wpX_val (v := ?_) (by rfl) (fun W hW => ?_) ?_; rotate_left 1; (focus (go_simp; first | done | with_reducible rfl)); (try simp only [Act.put, mA, mB, mC]))
  refine wpX_load (by rfl) rfl rfl (blk_rd k_t7) (by kernel_rfl) (by kernel_rfl) ?_
  (try simp only [Act.put, mA, mB, mC])
  refine wpX_load (by rfl) rfl rfl (blk_rd k_t7) (by kernel_rfl) (by kernel_rfl) ?_
  (try simp only [Act.put, mA, mB, mC])
  ((with_reducible refine wpX_fn (fun W hW => c59 W (GE_ext (GE_ext hG off0.ext) hW)) ?_ rfl ?_ ?_ ?_); (focus rfl); (focus kernel_rfl); (focus rfl); (try simp only [Act.put, mA, mB, mC]))
  refine wpX_load (by rfl) rfl rfl (blk_rd k_t8) (by kernel_rfl) (by rw [p3_size]; kernel_rfl) ?_
  (try simp only [Act.put, mA, mB, mC])
  refine wpX_load (by rfl) rfl rfl (blk_rd k_t8) (by kernel_rfl) (by rw [p3_size]; kernel_rfl) ?_
  (try simp only [Act.put, mA, mB, mC])
  ((with_reducible refine wpX_fn (fun W hW => c64 W) ?_ rfl ?_ ?_ ?_); (focus rfl); (focus kernel_rfl); (focus rfl); (try simp only [Act.put, mA, mB, mC]))
  ((with_reducible refine wpX_fn (fun W hW => lSame_c r58.rw r63 W (GE_ext (GE_ext hG off0.ext) hW)) ?_ rfl ?_ ?_ ?_); (focus rfl); (focus kernel_rfl); (focus rfl); (try simp only [Act.put, mA, mB, mC]))
  (refine wpX_val (v := ?_) (by rfl) (fun W hW => ?_) ?_; rotate_left 1; (focus (go_simp; first | done | with_reducible rfl)); (try simp only [Act.put, mA, mB, mC]))
  (refine wpX_val (v := ?_) (by rfl) (fun W hW => ?_) ?_; rotate_left 1; (focus (go_simp; first | done | with_reducible rfl)); (try simp only [Act.put, mA, mB, mC]))
  refine wpX_load (by rfl) rfl rfl (blk_rd k_t7) (by kernel_rfl) (by kernel_rfl) ?_
  (try simp only [Act.put, mA, mB, mC])
  refine wpX_load (by rfl) rfl rfl (blk_rd k_t9) (by kernel_rfl) (by kernel_rfl) ?_
  (try simp only [Act.put, mA, mB, mC])
  ((with_reducible refine wpX_fn (fun W hW => cs65 W (GE_ext (GE_ext hG off0.ext) hW)) ?_ rfl ?_ ?_ ?_); (focus rfl); (focus kernel_rfl); (focus rfl); (try simp only [Act.put, mA, mB, mC]))
  refine wpX_load (by rfl) rfl rfl (blk_rd k_t8) (by kernel_rfl) (by rw [p3_size]; kernel_rfl) ?_
  (try simp only [Act.put, mA, mB, mC])
  refine wpX_load (by rfl) rfl rfl (blk_rd k_t10) (by kernel_rfl) (by rw [p3_size]; kernel_rfl) ?_
  (try simp only [Act.put, mA, mB, mC])
  ((with_reducible refine wpX_fn (fun W hW => crs W) ?_ rfl ?_ ?_ ?_); (focus rfl); (focus kernel_rfl); (focus rfl); (try simp only [Act.put, mA, mB, mC]))
  refine wpX_val (v := .bool true) (by rfl) (fun _ _ => by first | (go_simp; done) | (cases tf <;> go_simp)) ?_
  (try simp only [Act.put, mA, mB, mC])
  (refine wpX_val (v := ?_) (by rfl) (fun W hW => ?_) ?_; rotate_left 1; (focus (go_simp; first | done | with_reducible rfl)); (try simp only [Act.put, mA, mB, mC]))
  (refine wpX_val (v := ?_) (by rfl) (fun W hW => ?_) ?_; rotate_left 1; (focus (go_simp; first | done | with_reducible rfl)); (try simp only [Act.put, mA, mB, mC]))
  refine wpX_load (by rfl) rfl rfl (blk_rd k_t7) (by kernel_rfl) (by kernel_rfl) ?_
  (try simp only [Act.put, mA, mB, mC])
  refine wpX_load (by rfl) rfl rfl (blk_rd k_t11) (by kernel_rfl) (by kernel_rfl) ?_
  (try simp only [Act.put, mA, mB, mC])
  ((with_reducible refine wpX_fn (fun W hW => c71 W (GE_ext (GE_ext hG off0.ext) hW)) ?_ rfl ?_ ?_ ?_); (focus rfl); (focus kernel_rfl); (focus rfl); (try simp only [Act.put, mA, mB, mC]))
  refine wpX_load (by rfl) rfl rfl (blk_rd k_t7) (by kernel_rfl) (by kernel_rfl) ?_
  (try simp only [Act.put, mA, mB, mC])
  ((with_reducible refine wpX_fn (fun W hW => cs72 W (GE_ext (GE_ext hG off0.ext) hW)) ?_ rfl ?_ ?_ ?_); (focus rfl); (focus kernel_rfl); (focus rfl); (try simp only [Act.put, mA, mB, mC]))
  (refine wpX_val (v := ?_) (by rfl) (fun W hW => ?_) ?_; rotate_left 1; (focus (go_simp; first | done | with_reducible rfl)); (try simp only [Act.put, mA, mB, mC]))
  (refine wpX_val (v := ?_) (by rfl) (fun W hW => ?_) ?_; rotate_left 1; (focus (go_simp; first | done | with_reducible rfl)); (try simp only [Act.put, mA, mB, mC]))
  refine wpX_load (by rfl) rfl rfl (blk_rd k_t7) (by kernel_rfl) (by kernel_rfl) ?_
  (try simp only [Act.put, mA, mB, mC])
  refine wpX_load (by rfl) rfl rfl (blk_rd k_t7) (by kernel_rfl) (by kernel_rfl) ?_
  (try simp only [Act.put, mA, mB, mC])
  ((with_reducible refine wpX_fn (fun W hW => c78 W (GE_ext (GE_ext hG off0.ext) hW)) ?_ rfl ?_ ?_ ?_); (focus rfl); (focus kernel_rfl); (focus rfl); (try simp only [Act.put, mA, mB, mC]))
  ((with_reducible refine wpX_fn (fun W hW => c84 W (GE_ext (GE_ext hG off0.ext) hW)) ?_ rfl ?_ ?_ ?_); (focus rfl); (focus kernel_rfl); (focus rfl); (try simp only [Act.put, mA, mB, mC]))
  refine wpX_load (by rfl) rfl rfl (blk_rd k_t11) (by kernel_rfl) (by kernel_rfl) ?_
  (try simp only [Act.put, mA, mB, mC])
  ((with_reducible refine wpX_fn (fun W hW => cs85 W (GE_ext (GE_ext hG off0.ext) hW)) ?_ rfl ?_ ?_ ?_); (focus rfl); (focus kernel_rfl); (focus rfl); (try simp only [Act.put, mA, mB, mC]))
  (refine wpX_val (v := ?_) (by rfl) (fun W hW => ?_) ?_; rotate_left 1; (focus (go_simp; first | done | with_reducible rfl)); (try simp only [Act.put, mA, mB, mC]))
  (refine wpX_val (v := ?_) (by rfl) (fun W hW => ?_) ?_; rotate_left 1; (focus (go_simp; first | done | with_reducible rfl)); (try simp only [Act.put, mA, mB, mC]))
  refine wpX_load (by rfl) rfl rfl (blk_rd k_t11) (by kernel_rfl) (by kernel_rfl) ?_
  (try simp only [Act.put, mA, mB, mC])
  ((with_reducible refine wpX_fn (fun W hW => c91 W (GE_ext (GE_ext hG off0.ext) hW)) ?_ rfl ?_ ?_ ?_); (focus rfl); (focus kernel_rfl); (focus rfl); (try simp only [Act.put, mA, mB, mC]))
  refine wpX_load (by rfl) rfl rfl (blk_rd k_t11) (by kernel_rfl) (by kernel_rfl) ?_
  (try simp only [Act.put, mA, mB, mC])
  ((with_reducible refine wpX_fn (fun W hW => cs92 W (GE_ext (GE_ext hG off0.ext) hW)) ?_ rfl ?_ ?_ ?_); (focus rfl); (focus kernel_rfl); (focus rfl); (try simp only [Act.put, mA, mB, mC]))
  (refine wpX_val (v := ?_) (by rfl) (fun W hW => ?_) ?_; rotate_left 1; (focus (go_simp; first | done | with_reducible rfl)); (try simp only [Act.put, mA, mB, mC]))
  (refine wpX_val (v := ?_) (by rfl) (fun W hW => ?_) ?_; rotate_left 1; (focus (go_simp; first | done | with_reducible rfl)); (try simp only [Act.put, mA, mB, mC]))
  refine wpX_load (by rfl) rfl rfl (blk_rd k_t11) (by kernel_rfl) (by kernel_rfl) ?_
  (try simp only [Act.put, mA, mB, mC])
  refine wpX_load (by rfl) rfl rfl (blk_rd k_t4) (by kernel_rfl) (by rw [arrK_size]; kernel_rfl) ?_
  (try simp only [Act.put, mA, mB, mC])
  ((with_reducible refine wpX_fn (fun W hW => c98 W (GE_ext (GE_ext hG off0.ext) hW)) ?_ rfl ?_ ?_ ?_); (focus rfl); (focus kernel_rfl); (focus rfl); (try simp only [Act.put, mA, mB, mC]))
  refine wpX_load (by rfl) rfl rfl (blk_rd k_t11) (by kernel_rfl) (by kernel_rfl) ?_
  (try simp only [Act.put, mA, mB, mC])
  ((with_reducible refine wpX_fn (fun W hW => cs99 W (GE_ext (GE_ext hG off0.ext) hW)) ?_ rfl ?_ ?_ ?_); (focus rfl); (focus kernel_rfl); (focus rfl); (try simp only [Act.put, mA, mB, mC]))
  (refine wpX_val (v := ?_) (by rfl) (fun W hW => ?_) ?_; rotate_left 1; (focus (go_simp; first | done | with_reducible rfl)); (try simp only [Act.put, mA, mB, mC]))
  (refine wpX_val (v := ?_) (by rfl) (fun W hW => ?_) ?_; rotate_left 1; (focus (go_simp; first | done | with_reducible rfl)); (try simp only [Act.put, mA, mB, mC]))
  refine wpX_nil ?_
  intro β W14 hE hN hD
  clear hN hD
  simp only [putAll, Act.put, mA, mB, mC, List.drop_succ_cons, List.drop_zero, List.drop_nil, List.length_cons, List.length_nil, Nat.add_zero]
  have hO := off_ext hE
  replace k_t3 := blk_off k_t3 hO nm0
  replace k_t4 := blk_off k_t4 hO nm0
  replace k_t7 := blk_off k_t7 hO nm0
  replace k_t8 := blk_off k_t8 hO nm0
  replace k_t9 := blk_off k_t9 hO nm0
  replace k_t10 := blk_off k_t10 hO nm0
  replace k_t11 := blk_off k_t11 hO nm0
  replace off0 := off0.step hO i0
  replace sz := off0.size
  clear hO hE β
  refine wpL_nil ?_
  first | with_reducible refine NoPanic.normal (Q := Exit.then _ _) ?_ | with_reducible refine NoPanic.normal ?_
  go_wp2
  exact bodyPost_ret (v := .bool true) (by simp only [results, Tryd.results6]; go_simp) rfl ⟨rfl, off0.ext⟩
set_option maxRecDepth 100000 in
set_option maxHeartbeats 600000 in
theorem lDecodes_1 (hb : kn.b) (hc : kn.c) {N : Nat} (hN : N < 2 ^ 256) (hok : dOk N = true) :
    ∀ w, GE kn w → Calls Tryd.prog 4 #[.agg (arrK .u8 32 (byt N))] w fun e w' => Ret (.bool true) w w' e := by
  obtain ⟨dx, dt, dr, dc⟩ := eDec_1 hc (V := N) hN hok
  have dr0 := Lib.hid dr
  have ee := enc_dec hN hok
  have dlt : N % 2 ^ 255 < 2 ^ 256 := mod_255' N
  obtain ⟨ex, er, ec⟩ := rDec_1 (V := N) hN hok
  clear dr0
  clear hok
  generalize N % 2 ^ 255 = y0 at *
  generalize dPt N = Qd at *
  have c_enc := eEnc_c (kn := kn) dr.rw
  rw [ee] at c_enc
  have e_b := eqB32 N N hN hN
  rw [decide_eq_true rfl] at e_b
  intro w hG
  have off0 : Off [] w w := Off.refl _ _
  have sz := off0.size
  go_enter Tryd.func4, Tryd.ntmps4
  go_upto_region 0 with fail
  refine wp_region_lit ?_
  refine wpL_new (z := arrK .u8 32 (byt N)) (t := 22) (by rfl) (by first | kernel_rfl | (go_simp; done) | (go_simp; rfl)) ?_
  (try simp only [Act.put, mA, mB, mC])
  intro p1_1 W1 n_t1 hO h_
  have fb_t1 : Fb p1_1 w.heap.size [] := fb_new (Nat.le_trans sz n_t1)
  replace off0 := off0.step hO i0
  replace sz := off0.size
  have k_t1 := h_
  clear hO h_ n_t1
  refine wpL_val (v := .bool false) (by rfl) (by first | rfl | (go_simp; done) | (go_simp; with_reducible rfl) | (go_simp; omega)) ?_
  (try simp only [Act.put, mA, mB, mC])
  refine wpL_nil ?_
  go_upto_region 1 with fail
  refine wp_region_lit ?_
  refine wpL_load0 (by rfl) rfl rfl k_t1 (by kernel_rfl) (by rw [arrK_size]; kernel_rfl) ?_
  (try simp only [Act.put, mA, mB, mC])
  refine wpL_ret (dc W1 (GE_ext hG off0.ext)) (by rfl) rfl (by kernel_rfl) rfl ?_
  (try simp only [Act.put, mA, mB, mC])
  intro W2 hO
  replace k_t1 := blk_off k_t1 hO nm0
  replace off0 := off0.step hO i0
  replace sz := off0.size
  clear hO
  (refine wpL_val (v := ?_) (by rfl) ?_ ?_; rotate_left 1; (focus (go_simp; first | done | with_reducible rfl)))
  (try simp only [Act.put, mA, mB, mC])
  (refine wpL_val (v := ?_) (by rfl) ?_ ?_; rotate_left 1; (focus (go_simp; first | done | with_reducible rfl)))
  (try simp only [Act.put, mA, mB, mC])
  refine wpL_val (v := .int .i64 0) (by rfl) (by first | rfl | (go_simp; done) | (go_simp; with_reducible rfl) | (go_simp; omega)) ?_
  (try simp only [Act.put, mA, mB, mC])
  refine wpL_new (z := p4 0 0 0 0) (t := 28) (by rfl) (by first | kernel_rfl | (go_simp; done) | (go_simp; rfl)) ?_
  (try simp only [Act.put, mA, mB, mC])
  intro p3_3 W3 n_t3 hO h_
  have nq_t1_t3 : p1_1 ≠ p3_3 := Nat.ne_of_lt (Nat.lt_of_lt_of_le (blk_lt k_t1) n_t3)
  have fb_t3 : Fb p3_3 w.heap.size [] := fb_new (Nat.le_trans sz n_t3)
  replace k_t1 := blk_off k_t1 hO nm0
  replace off0 := off0.step hO i0
  replace sz := off0.size
  have k_t3 := h_
  clear hO h_ n_t3
  refine wpL_putrow (cells := p4 dx y0 1 dt) (by rfl) rfl rfl rfl k_t3 (by kernel_rfl) (by kernel_rfl) (by kernel_rfl) ?_
  (try simp only [Act.put, mA, mB, mC])
  intro W4 hO h_
  replace k_t3 : Blk W4 p3_3 (p4 dx y0 1 dt) 28 := h_
  clear h_
  replace k_t1 := blk_off k_t1 hO (nm1 nq_t1_t3)
  replace off0 := off0.step hO (i1 fb_t3)
  replace sz := off0.size
  clear hO
  refine wpL_val (v := .int .i64 0) (by rfl) (by first | rfl | (go_simp; done) | (go_simp; with_reducible rfl) | (go_simp; omega)) ?_
  (try simp only [Act.put, mA, mB, mC])
  refine wpL_nil ?_
  go_upto_region 2 with fail
  refine wp_region_lit ?_
  (refine wpL_val (v := ?_) (by rfl) ?_ ?_; rotate_left 1; (focus (go_simp; first | done | with_reducible rfl)))
  (try simp only [Act.put, mA, mB, mC])
  refine wpL_str (l := (lb 32 N)) (sl_arr (by decide) k_t1) (by rfl) rfl rfl ?_
  (try simp only [Act.put, mA, mB, mC])
  refine wpL_ret (ec W4) (by rfl) rfl (by kernel_rfl) rfl ?_
  (try simp only [Act.put, mA, mB, mC])
  intro W5 hO
  replace k_t1 := blk_off k_t1 hO nm0
  replace k_t3 := blk_off k_t3 hO nm0
  replace off0 := off0.step hO i0
  replace sz := off0.size
  clear hO
  (refine wpL_val (v := ?_) (by rfl) ?_ ?_; rotate_left 1; (focus (go_simp; first | done | with_reducible rfl)))
  (try simp only [Act.put, mA, mB, mC])
  (refine wpL_val (v := ?_) (by rfl) ?_ ?_; rotate_left 1; (focus (go_simp; first | done | with_reducible rfl)))
  (try simp only [Act.put, mA, mB, mC])
  refine wpL_val (v := .int .i64 0) (by rfl) (by first | rfl | (go_simp; done) | (go_simp; with_reducible rfl) | (go_simp; omega)) ?_
  (try simp only [Act.put, mA, mB, mC])
  refine wpL_new (z := p3 0 0 0) (t := 41) (by rfl) (by first | kernel_rfl | (go_simp; done) | (go_simp; rfl)) ?_
  (try simp only [Act.put, mA, mB, mC])
  intro p5_6 W6 n_t5 hO h_
  have nq_t1_t5 : p1_1 ≠ p5_6 := Nat.ne_of_lt (Nat.lt_of_lt_of_le (blk_lt k_t1) n_t5)
  have nq_t3_t5 : p3_3 ≠ p5_6 := Nat.ne_of_lt (Nat.lt_of_lt_of_le (blk_lt k_t3) n_t5)
  have fb_t5 : Fb p5_6 w.heap.size [] := fb_new (Nat.le_trans sz n_t5)
  replace k_t1 := blk_off k_t1 hO nm0
  replace k_t3 := blk_off k_t3 hO nm0
  replace off0 := off0.step hO i0
  replace sz := off0.size
  have k_t5 := h_
  clear hO h_ n_t5
  refine wpL_putrow (cells := p3 ex y0 1) (by rfl) rfl rfl rfl k_t5 (by rw [p3_size]; kernel_rfl) (by first | rw [p3_size, p3_size] | rw [p3_size] | kernel_rfl) (by exact p3_one) ?_
  (try simp only [Act.put, mA, mB, mC])
  intro W7 hO h_
  replace k_t5 : Blk W7 p5_6 (p3 ex y0 1) 41 := h_
  clear h_
  replace k_t1 := blk_off k_t1 hO (nm1 nq_t1_t5)
  replace k_t3 := blk_off k_t3 hO (nm1 nq_t3_t5)
  replace off0 := off0.step hO (i1 fb_t5)
  replace sz := off0.size
  clear hO
  refine wpL_val (v := .int .i64 0) (by rfl) (by first | rfl | (go_simp; done) | (go_simp; with_reducible rfl) | (go_simp; omega)) ?_
  (try simp only [Act.put, mA, mB, mC])
  refine wpL_nil ?_
  go_upto_region 3 with fail
  refine wp_region_lit ?_
  refine wpL_ret (lBases_c hb W7 (GE_ext hG off0.ext)) (by rfl) rfl (by kernel_rfl) rfl ?_
  (try simp only [Act.put, mA, mB, mC])
  intro W8 hO
  replace k_t1 := blk_off k_t1 hO nm0
  replace k_t3 := blk_off k_t3 hO nm0
  replace k_t5 := blk_off k_t5 hO nm0
  replace off0 := off0.step hO i0
  replace sz := off0.size
  clear hO
  refine wpL_val (v := .bool false) (by rfl) (by first | rfl | (go_simp; done) | (go_simp; with_reducible rfl) | (go_simp; omega)) ?_
  (try simp only [Act.put, mA, mB, mC])
  refine wpL_val (v := .bool false) (by rfl) (by first | rfl | (go_simp; done) | (go_simp; with_reducible rfl) | (go_simp; omega)) ?_
  (try simp only [Act.put, mA, mB, mC])
  refine wpL_val (v := .int .i64 0) (by rfl) (by first | rfl | (go_simp; done) | (go_simp; with_reducible rfl) | (go_simp; omega)) ?_
  (try simp only [Act.put, mA, mB, mC])
  refine wpL_val (v := .int .i64 0) (by rfl) (by first | rfl | (go_simp; done) | (go_simp; with_reducible rfl) | (go_simp; omega)) ?_
  (try simp only [Act.put, mA, mB, mC])
  refine wpL_val (v := .bool false) (by rfl) (by first | rfl | (go_simp; done) | (go_simp; with_reducible rfl) | (go_simp; omega)) ?_
  (try simp only [Act.put, mA, mB, mC])
  refine wpL_val (v := .bool false) (by rfl) (by first | rfl | (go_simp; done) | (go_simp; with_reducible rfl) | (go_simp; omega)) ?_
  (try simp only [Act.put, mA, mB, mC])
  refine wpL_nil ?_
  go_upto_region 7 with fail
  refine wp_region_xn 10 [] (by kernel_rfl) (fun x hx => by cases hx) (by kernel_rfl) ?_
  simp only [List.take_succ_cons, List.take_zero, List.take_nil]
  (try simp only [Act.put, mA, mB, mC])
  refine wpX_load (by rfl) rfl rfl (blk_rd k_t3) (by kernel_rfl) (by kernel_rfl) ?_
  (try simp only [Act.put, mA, mB, mC])
  refine wpX_load (by rfl) rfl rfl (blk_rd k_t5) (by kernel_rfl) (by rw [p3_size]; kernel_rfl) ?_
  (try simp only [Act.put, mA, mB, mC])
  ((with_reducible refine wpX_fn (fun W hW => lSame_c dr.rw er W (GE_ext (GE_ext hG off0.ext) hW)) ?_ rfl ?_ ?_ ?_); (focus rfl); (focus kernel_rfl); (focus rfl); (try simp only [Act.put, mA, mB, mC]))
  (refine wpX_val (v := ?_) (by rfl) (fun W hW => ?_) ?_; rotate_left 1; (focus (go_simp; first | done | with_reducible rfl)); (try simp only [Act.put, mA, mB, mC]))
  refine wpX_load (by rfl) rfl rfl (blk_rd k_t3) (by kernel_rfl) (by kernel_rfl) ?_
  (try simp only [Act.put, mA, mB, mC])
  ((with_reducible refine wpX_fn (fun W hW => c_enc W (GE_ext (GE_ext hG off0.ext) hW)) ?_ rfl ?_ ?_ ?_); (focus rfl); (focus kernel_rfl); (focus rfl); (try simp only [Act.put, mA, mB, mC]))
  refine wpX_load (by rfl) rfl rfl (blk_rd k_t1) (by kernel_rfl) (by rw [arrK_size]; kernel_rfl) ?_
  (try simp only [Act.put, mA, mB, mC])
  refine wpX_eqlA (e_b) (by kernel_rfl) (by rfl) rfl rfl rfl ?_
  (try simp only [Act.put, mA, mB, mC])
  (refine wpX_val (v := ?_) (by rfl) (fun W hW => ?_) ?_; rotate_left 1; (focus (go_simp; first | done | with_reducible rfl)); (try simp only [Act.put, mA, mB, mC]))
  (refine wpX_val (v := ?_) (by rfl) (fun W hW => ?_) ?_; rotate_left 1; (focus (go_simp; first | done | with_reducible rfl)); (try simp only [Act.put, mA, mB, mC]))
  refine wpX_nil ?_
  intro β W9 hE hN hD
  clear hN hD
  simp only [putAll, Act.put, mA, mB, mC, List.drop_succ_cons, List.drop_zero, List.drop_nil, List.length_cons, List.length_nil, Nat.add_zero]
  have hO := off_ext hE
  replace k_t1 := blk_off k_t1 hO nm0
  replace k_t3 := blk_off k_t3 hO nm0
  replace k_t5 := blk_off k_t5 hO nm0
  replace off0 := off0.step hO i0
  replace sz := off0.size
  clear hO hE β
  refine wpL_nil ?_
  first | with_reducible refine NoPanic.normal (Q := Exit.then _ _) ?_ | with_reducible refine NoPanic.normal ?_
  go_wp2
  exact bodyPost_ret (v := .bool true) (by simp only [results, Tryd.results4]; go_simp) rfl ⟨rfl, off0.ext⟩
set_option maxRecDepth 100000 in
set_option maxHeartbeats 600000 in
theorem lDecodes_0 (hb : kn.b) (hc : kn.c) {N : Nat} (hN : N < 2 ^ 256) (hok : dOk N = false) :
    ∀ w, GE kn w → Calls Tryd.prog 4 #[.agg (arrK .u8 32 (byt N))] w fun e w' => Ret (.bool true) w w' e := by
  have dc := eDec_0 hc (V := N) hN hok
  have ec := rDec_0 (V := N) hN hok
  clear hok
  have cs1 := eSame_c (kn := kn) rw_zero rw_zero
  rw [decide_eq_true (rfl)] at cs1
  intro w hG
  have off0 : Off [] w w := Off.refl _ _
  have sz := off0.size
  go_enter Tryd.func4, Tryd.ntmps4
  go_upto_region 0 with fail
  refine wp_region_lit ?_
  refine wpL_new (z := arrK .u8 32 (byt N)) (t := 22) (by rfl) (by first | kernel_rfl | (go_simp; done) | (go_simp; rfl)) ?_
  (try simp only [Act.put, mA, mB, mC])
  intro p1_1 W1 n_t1 hO h_
  have fb_t1 : Fb p1_1 w.heap.size [] := fb_new (Nat.le_trans sz n_t1)
  replace off0 := off0.step hO i0
  replace sz := off0.size
  have k_t1 := h_
  clear hO h_ n_t1
  refine wpL_val (v := .bool false) (by rfl) (by first | rfl | (go_simp; done) | (go_simp; with_reducible rfl) | (go_simp; omega)) ?_
  (try simp only [Act.put, mA, mB, mC])
  refine wpL_nil ?_
  go_upto_region 1 with fail
  refine wp_region_lit ?_
  refine wpL_load0 (by rfl) rfl rfl k_t1 (by kernel_rfl) (by rw [arrK_size]; kernel_rfl) ?_
  (try simp only [Act.put, mA, mB, mC])
  refine wpL_ret (dc W1 (GE_ext hG off0.ext)) (by rfl) rfl (by kernel_rfl) rfl ?_
  (try simp only [Act.put, mA, mB, mC])
  intro W2 hO
  replace k_t1 := blk_off k_t1 hO nm0
  replace off0 := off0.step hO i0
  replace sz := off0.size
  clear hO
  (refine wpL_val (v := ?_) (by rfl) ?_ ?_; rotate_left 1; (focus (go_simp; first | done | with_reducible rfl)))
  (try simp only [Act.put, mA, mB, mC])
  (refine wpL_val (v := ?_) (by rfl) ?_ ?_; rotate_left 1; (focus (go_simp; first | done | with_reducible rfl)))
  (try simp only [Act.put, mA, mB, mC])
  refine wpL_val (v := .int .i64 15) (by rfl) (by first | rfl | (go_simp; done) | (go_simp; with_reducible rfl) | (go_simp; omega)) ?_
  (try simp only [Act.put, mA, mB, mC])
  refine wpL_new (z := p4 0 0 0 0) (t := 28) (by rfl) (by first | kernel_rfl | (go_simp; done) | (go_simp; rfl)) ?_
  (try simp only [Act.put, mA, mB, mC])
  intro p3_3 W3 n_t3 hO h_
  have nq_t1_t3 : p1_1 ≠ p3_3 := Nat.ne_of_lt (Nat.lt_of_lt_of_le (blk_lt k_t1) n_t3)
  have fb_t3 : Fb p3_3 w.heap.size [] := fb_new (Nat.le_trans sz n_t3)
  replace k_t1 := blk_off k_t1 hO nm0
  replace off0 := off0.step hO i0
  replace sz := off0.size
  have k_t3 := h_
  clear hO h_ n_t3
  refine wpL_putrow (cells := p4 0 0 0 0) (by rfl) rfl rfl rfl k_t3 (by kernel_rfl) (by kernel_rfl) (by kernel_rfl) ?_
  (try simp only [Act.put, mA, mB, mC])
  intro W4 hO h_
  replace k_t3 : Blk W4 p3_3 (p4 0 0 0 0) 28 := h_
  clear h_
  replace k_t1 := blk_off k_t1 hO (nm1 nq_t1_t3)
  replace off0 := off0.step hO (i1 fb_t3)
  replace sz := off0.size
  clear hO
  refine wpL_val (v := .int .i64 15) (by rfl) (by first | rfl | (go_simp; done) | (go_simp; with_reducible rfl) | (go_simp; omega)) ?_
  (try simp only [Act.put, mA, mB, mC])
  refine wpL_nil ?_
  go_upto_region 2 with fail
  refine wp_region_lit ?_
  (refine wpL_val (v := ?_) (by rfl) ?_ ?_; rotate_left 1; (focus (go_simp; first | done | with_reducible rfl)))
  (try simp only [Act.put, mA, mB, mC])
  refine wpL_str (l := (lb 32 N)) (sl_arr (by decide) k_t1) (by rfl) rfl rfl ?_
  (try simp only [Act.put, mA, mB, mC])
  refine wpL_ret (ec W4) (by rfl) rfl (by kernel_rfl) rfl ?_
  (try simp only [Act.put, mA, mB, mC])
  intro W5 hO
  replace k_t1 := blk_off k_t1 hO nm0
  replace k_t3 := blk_off k_t3 hO nm0
  replace off0 := off0.step hO i0
  replace sz := off0.size
  clear hO
  (refine wpL_val (v := ?_) (by rfl) ?_ ?_; rotate_left 1; (focus (go_simp; first | done | with_reducible rfl)))
  (try simp only [Act.put, mA, mB, mC])
  (refine wpL_val (v := ?_) (by rfl) ?_ ?_; rotate_left 1; (focus (go_simp; first | done | with_reducible rfl)))
  (try simp only [Act.put, mA, mB, mC])
  refine wpL_val (v := .int .i64 15) (by rfl) (by first | rfl | (go_simp; done) | (go_simp; with_reducible rfl) | (go_simp; omega)) ?_
  (try simp only [Act.put, mA, mB, mC])
  refine wpL_new (z := p3 0 0 0) (t := 41) (by rfl) (by first | kernel_rfl | (go_simp; done) | (go_simp; rfl)) ?_
  (try simp only [Act.put, mA, mB, mC])
  intro p5_6 W6 n_t5 hO h_
  have nq_t1_t5 : p1_1 ≠ p5_6 := Nat.ne_of_lt (Nat.lt_of_lt_of_le (blk_lt k_t1) n_t5)
  have nq_t3_t5 : p3_3 ≠ p5_6 := Nat.ne_of_lt (Nat.lt_of_lt_of_le (blk_lt k_t3) n_t5)
  have fb_t5 : Fb p5_6 w.heap.size [] := fb_new (Nat.le_trans sz n_t5)
  replace k_t1 := blk_off k_t1 hO nm0
  replace k_t3 := blk_off k_t3 hO nm0
  replace off0 := off0.step hO i0
  replace sz := off0.size
  have k_t5 := h_
  clear hO h_ n_t5
  refine wpL_putrow (cells := p3 0 0 0) (by rfl) rfl rfl rfl k_t5 (by rw [p3_size]; kernel_rfl) (by first | rw [p3_size, p3_size] | rw [p3_size] | kernel_rfl) (by exact p3_one) ?_
  (try simp only [Act.put, mA, mB, mC])
  intro W7 hO h_
  replace k_t5 : Blk W7 p5_6 (p3 0 0 0) 41 := h_
  clear h_
  replace k_t1 := blk_off k_t1 hO (nm1 nq_t1_t5)
  replace k_t3 := blk_off k_t3 hO (nm1 nq_t3_t5)
  replace off0 := off0.step hO (i1 fb_t5)
  replace sz := off0.size
  clear hO
  refine wpL_val (v := .int .i64 15) (by rfl) (by first | rfl | (go_simp; done) | (go_simp; with_reducible rfl) | (go_simp; omega)) ?_
  (try simp only [Act.put, mA, mB, mC])
  refine wpL_nil ?_
  go_upto_region 3 with fail
  refine wp_region_lit ?_
  refine wpL_ret (lBases_c hb W7 (GE_ext hG off0.ext)) (by rfl) rfl (by kernel_rfl) rfl ?_
  (try simp only [Act.put, mA, mB, mC])
  intro W8 hO
  replace k_t1 := blk_off k_t1 hO nm0
  replace k_t3 := blk_off k_t3 hO nm0
  replace k_t5 := blk_off k_t5 hO nm0
  replace off0 := off0.step hO i0
  replace sz := off0.size
  clear hO
  refine wpL_val (v := .bool false) (by rfl) (by first | rfl | (go_simp; done) | (go_simp; with_reducible rfl) | (go_simp; omega)) ?_
  (try simp only [Act.put, mA, mB, mC])
  refine wpL_val (v := .bool false) (by rfl) (by first | rfl | (go_simp; done) | (go_simp; with_reducible rfl) | (go_simp; omega)) ?_
  (try simp only [Act.put, mA, mB, mC])
  refine wpL_val (v := .int .i64 15) (by rfl) (by first | rfl | (go_simp; done) | (go_simp; with_reducible rfl) | (go_simp; omega)) ?_
  (try simp only [Act.put, mA, mB, mC])
  refine wpL_val (v := .int .i64 15) (by rfl) (by first | rfl | (go_simp; done) | (go_simp; with_reducible rfl) | (go_simp; omega)) ?_
  (try simp only [Act.put, mA, mB, mC])
  refine wpL_val (v := .bool false) (by rfl) (by first | rfl | (go_simp; done) | (go_simp; with_reducible rfl) | (go_simp; omega)) ?_
  (try simp only [Act.put, mA, mB, mC])
  refine wpL_val (v := .bool false) (by rfl) (by first | rfl | (go_simp; done) | (go_simp; with_reducible rfl) | (go_simp; omega)) ?_
  (try simp only [Act.put, mA, mB, mC])
  refine wpL_nil ?_
  go_upto_region 6 with fail
  refine wp_region_lit ?_
  refine wpL_val (v := .int .i64 15) (by rfl) (by first | rfl | (go_simp; done) | (go_simp; with_reducible rfl) | (go_simp; omega)) ?_
  (try simp only [Act.put, mA, mB, mC])
  refine wpL_val (v := .bool true) (by rfl) (by first | rfl | (go_simp; done) | (go_simp; with_reducible rfl) | (go_simp; omega)) ?_
  (try simp only [Act.put, mA, mB, mC])
  refine wpL_val (v := .bool true) (by rfl) (by first | rfl | (go_simp; done) | (go_simp; with_reducible rfl) | (go_simp; omega)) ?_
  (try simp only [Act.put, mA, mB, mC])
  refine wpL_load0 (by rfl) rfl rfl k_t3 (by kernel_rfl) (by kernel_rfl) ?_
  (try simp only [Act.put, mA, mB, mC])
  refine wpL_val (v := .agg (p4 0 0 0 0)) (by rfl) (by kernel_rfl) ?_
  (try simp only [Act.put, mA, mB, mC])
  refine wpL_ret (cs1 W8 (GE_ext hG off0.ext)) (by rfl) rfl (by kernel_rfl) rfl ?_
  (try simp only [Act.put, mA, mB, mC])
  intro W9 hO
  replace k_t1 := blk_off k_t1 hO nm0
  replace k_t3 := blk_off k_t3 hO nm0
  replace k_t5 := blk_off k_t5 hO nm0
  replace off0 := off0.step hO i0
  replace sz := off0.size
  clear hO
  refine wpL_val (v := .bool true) (by rfl) (by first | rfl | (go_simp; done) | (go_simp; with_reducible rfl) | (go_simp; omega)) ?_
  (try simp only [Act.put, mA, mB, mC])
  refine wpL_val (v := .bool true) (by rfl) (by first | rfl | (go_simp; done) | (go_simp; with_reducible rfl) | (go_simp; omega)) ?_
  (try simp only [Act.put, mA, mB, mC])
  refine wpL_nil ?_
  go_wp2
  exact bodyPost_ret (v := .bool true) (by simp only [results, Tryd.results4]; go_simp) rfl ⟨rfl, off0.ext⟩
theorem lDecodes_c (hb : kn.b) (hc : kn.c) {N : Nat} (hN : N < 2 ^ 256) : ∀ w, GE kn w → Calls Tryd.prog 4 #[.agg (arrK .u8 32 (byt N))] w fun e w' => Ret (.bool true) w w' e := by
  cases h : dOk N
  · exact lDecodes_0 hb hc hN h
  · exact lDecodes_1 hb hc hN h
end Go.Proofs.YtghajiagbfcmdaaDoor
