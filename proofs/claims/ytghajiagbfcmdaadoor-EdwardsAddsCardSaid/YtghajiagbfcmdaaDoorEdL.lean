/- custumallaw07: same, bases, pair; the document's Right. Conditions: the cells of the variables hold the curve's numbers. -/
import Derived.Test.YtghajiagbfcmdaaDoorEdV
import Derived.Test.YtghajiagbfcmdaaDoorEdG
import Derived.Test.YtghajiagbfcmdaaDoorEdT
namespace Go.Proofs.YtghajiagbfcmdaaDoor
set_option linter.unusedSimpArgs false
set_option linter.unusedVariables false
open Go.RowKit
attribute [local irreducible] wpList
variable {kn : Kn}
theorem run_eqU {w : World} {o : Oper} {a : Act} {x y : Operand} {t t' : TypeId} {p q : Int} {b : Bool} (hb : decide (p = q) = b) (hu : Tryd.prog.underlying t = some (.int .u8)) (ho : o.op = .binOp .eql t x y t') (hx : a.eval x = .int .u8 p) (hy : a.eval y = .int .u8 q) : (execOp a.eval o).run Tryd.prog w = .ok (.value (.bool b)) w := by
  subst hb
  simp only [execOp, ho, hx, hy, eqGuard, binOp, Sem.run_bind]
  simp [go_sem, Sem.run_bind]
  rw [Bool.eq_iff_iff, beq_iff_eq, decide_eq_true_iff]
theorem encB0 : byt (enc BP) 0 = 88 := by decide +kernel
theorem encB31 : byt (enc BP) 31 = 102 := by decide +kernel
theorem encZ0 : byt (enc p0) 0 = 1 := by decide +kernel
theorem encZ31 : byt (enc p0) 31 = 0 := by decide +kernel
theorem lb_zeros : lb 32 0 = List.replicate 32 0 := by decide +kernel
section
variable {P : Program}
theorem res_rows {fn : Func} {p q : Tmp} {ty ty' t t' : TypeId} {tmps : Array Value} {w : World} {g k : Nat} {cs ds : Array Value} (h : fn.results = #[.cell p ty, .cell q ty'])
    (hp : tmps.getD p undef = .pointer (some ⟨g, 0, none⟩)) (hq : tmps.getD q undef = .pointer (some ⟨k, 0, none⟩)) (hB : Blk w g cs t) (hD : Blk w k ds t') (hk : (P.underlying ty).map TypeDesc.isRow = some true) (hi : (P.info? ty).map (·.size) = some cs.size)
    (hk' : (P.underlying ty').map TypeDesc.isRow = some true) (hi' : (P.info? ty').map (·.size) = some ds.size) : (results fn tmps).run P w = .ok (.tuple #[.agg cs, .agg ds]) w := by
  cases hu : P.underlying ty with
  | none => simp [hu] at hk
  | some d =>
    cases hu' : P.underlying ty' with
    | none => simp [hu'] at hk'
    | some d' =>
      have hd : d.isRow = true := by simpa [hu] using hk
      have hd' : d'.isRow = true := by simpa [hu'] using hk'
      have hp' : tmps[p]?.getD undef = .pointer (some ⟨g, 0, none⟩) := by simpa using hp
      have hq' : tmps[q]?.getD undef = .pointer (some ⟨k, 0, none⟩) := by simpa using hq
      simp [results, h, hp', hq', asAddr, run_loadVar_row w g t ty cs _ d hB hu (by cases d <;> simp_all [TypeDesc.isRow]) hi, run_loadVar_row w k t' ty' ds _ d' hD hu' (by cases d' <;> simp_all [TypeDesc.isRow]) hi']
end
theorem enc_256 (a : Pr) : enc a < 2 ^ 256 := (enc_top a).2.2

set_option maxRecDepth 100000 in
set_option maxHeartbeats 1500000 in
theorem lSame_c {X1 Y1 Z1 T1 X2 Y2 Z2 : Nat} {a : Pr} (h1 : RW X1 Y1 Z1 T1 a) (h2 : RD X2 Y2 Z2 a) :
    ∀ w, GE kn w → Calls Tryd.prog 16 #[.agg (p4 X1 Y1 Z1 T1), .agg (p3 X2 Y2 Z2)] w fun e w' => Ret (.bool true) w w' e := by
  intro w hG
  have off0 : Off [] w w := Off.refl _ _
  have sz := off0.size
  go_enter Tryd.func16, Tryd.ntmps16
  go_upto_region 0 with fail
  refine wp_region_lit ?_
  refine wpL_new (z := p4 X1 Y1 Z1 T1) (t := 28) (by rfl) (by first | kernel_rfl | (go_simp; done) | (go_simp; rfl)) ?_
  (try simp only [Act.put, mA, mB, mC])
  intro p2_1 W1 n_t2 hO h_
  have fb_t2 : Fb p2_1 w.heap.size [] := fb_new (Nat.le_trans sz n_t2)
  replace off0 := off0.step hO i0
  replace sz := off0.size
  have k_t2 := h_
  clear hO h_ n_t2
  refine wpL_new (z := p3 X2 Y2 Z2) (t := 41) (by rfl) (by first | kernel_rfl | (go_simp; done) | (go_simp; rfl)) ?_
  (try simp only [Act.put, mA, mB, mC])
  intro p3_2 W2 n_t3 hO h_
  have nq_t2_t3 : p2_1 ≠ p3_2 := Nat.ne_of_lt (Nat.lt_of_lt_of_le (blk_lt k_t2) n_t3)
  have fb_t3 : Fb p3_2 w.heap.size [] := fb_new (Nat.le_trans sz n_t3)
  replace k_t2 := blk_off k_t2 hO nm0
  replace off0 := off0.step hO i0
  replace sz := off0.size
  have k_t3 := h_
  clear hO h_ n_t3
  refine wpL_val (v := .bool false) (by rfl) (by first | rfl | (go_simp; done) | (go_simp; with_reducible rfl) | (go_simp; omega)) ?_
  (try simp only [Act.put, mA, mB, mC])
  refine wpL_nil ?_
  go_upto_region 1 with fail
  refine wp_region_lit ?_
  refine wpL_load0 (by rfl) rfl rfl k_t2 (by kernel_rfl) (by kernel_rfl) ?_
  (try simp only [Act.put, mA, mB, mC])
  refine wpL_ret (eEnc_c h1 W2 (GE_ext hG off0.ext)) (by rfl) rfl (by kernel_rfl) rfl ?_
  (try simp only [Act.put, mA, mB, mC])
  intro W3 hO
  replace k_t2 := blk_off k_t2 hO nm0
  replace k_t3 := blk_off k_t3 hO nm0
  replace off0 := off0.step hO i0
  replace sz := off0.size
  clear hO
  refine wpL_new (z := arrK .u8 32 (byt 0)) (t := 22) (by rfl) (by first | kernel_rfl | (go_simp; done) | (go_simp; rfl)) ?_
  (try simp only [Act.put, mA, mB, mC])
  intro p5_4 W4 n_t5 hO h_
  have nq_t2_t5 : p2_1 ≠ p5_4 := Nat.ne_of_lt (Nat.lt_of_lt_of_le (blk_lt k_t2) n_t5)
  have nq_t3_t5 : p3_2 ≠ p5_4 := Nat.ne_of_lt (Nat.lt_of_lt_of_le (blk_lt k_t3) n_t5)
  have fb_t5 : Fb p5_4 w.heap.size [] := fb_new (Nat.le_trans sz n_t5)
  replace k_t2 := blk_off k_t2 hO nm0
  replace k_t3 := blk_off k_t3 hO nm0
  replace off0 := off0.step hO i0
  replace sz := off0.size
  have k_t5 := h_
  clear hO h_ n_t5
  refine wpL_putrow (cells := arrK .u8 32 (byt (enc a))) (by rfl) rfl rfl rfl k_t5 (by rw [arrK_size]; kernel_rfl) (by first | rw [arrK_size, arrK_size] | rw [arrK_size] | kernel_rfl) (by exact arrK_one _ _ _) ?_
  (try simp only [Act.put, mA, mB, mC])
  intro W5 hO h_
  replace k_t5 : Blk W5 p5_4 (arrK .u8 32 (byt (enc a))) 22 := h_
  clear h_
  replace k_t2 := blk_off k_t2 hO (nm1 nq_t2_t5)
  replace k_t3 := blk_off k_t3 hO (nm1 nq_t3_t5)
  replace off0 := off0.step hO (i1 fb_t5)
  replace sz := off0.size
  clear hO
  refine wpL_nil ?_
  go_upto_region 2 with fail
  refine wp_region_xn 6 [] (by kernel_rfl) (fun x hx => by cases hx) (by kernel_rfl) ?_
  simp only [List.take_succ_cons, List.take_zero, List.take_nil]
  (try simp only [Act.put, mA, mB, mC])
  (refine wpX_val (v := ?_) (by rfl) (fun W hW => ?_) ?_; rotate_left 1; (focus (go_simp; first | done | with_reducible rfl)); (try simp only [Act.put, mA, mB, mC]))
  refine wpX_str (l := (lb 32 (enc a))) (fun W hW => sl_arr (by decide) (blk_step k_t5 hW)) (by rfl) rfl rfl ?_
  (try simp only [Act.put, mA, mB, mC])
  refine wpX_load (by rfl) rfl rfl (blk_rd k_t3) (by kernel_rfl) (by rw [p3_size]; kernel_rfl) ?_
  (try simp only [Act.put, mA, mB, mC])
  ((with_reducible refine wpX_fn (fun W hW => rEnc_c h2 W) ?_ rfl ?_ ?_ ?_); (focus rfl); (focus kernel_rfl); (focus rfl); (try simp only [Act.put, mA, mB, mC]))
  refine wpX_streq (l := (lb 32 (enc a))) (m := (lb 32 (enc a))) (b := true) (decide_eq_true rfl) (by rfl) rfl rfl rfl ?_
  (try simp only [Act.put, mA, mB, mC])
  (refine wpX_val (v := ?_) (by rfl) (fun W hW => ?_) ?_; rotate_left 1; (focus (go_simp; first | done | with_reducible rfl)); (try simp only [Act.put, mA, mB, mC]))
  refine wpX_nil ?_
  intro β W6 hE hN hD
  clear hN hD
  simp only [putAll, Act.put, mA, mB, mC, List.drop_succ_cons, List.drop_zero, List.drop_nil, List.length_cons, List.length_nil, Nat.add_zero]
  have hO := off_ext hE
  replace k_t2 := blk_off k_t2 hO nm0
  replace k_t3 := blk_off k_t3 hO nm0
  replace k_t5 := blk_off k_t5 hO nm0
  replace off0 := off0.step hO i0
  replace sz := off0.size
  clear hO hE β
  refine wpL_nil ?_
  first | with_reducible refine NoPanic.normal (Q := Exit.then _ _) ?_ | with_reducible refine NoPanic.normal ?_
  go_wp2
  exact bodyPost_ret (v := .bool true) (by simp only [results, Tryd.results16]; go_simp) rfl ⟨rfl, off0.ext⟩
set_option maxRecDepth 100000 in
set_option maxHeartbeats 1500000 in
theorem lBases_c (hb : kn.b) :
    ∀ w, GE kn w → Calls Tryd.prog 9 #[] w fun e w' => Ret (.bool true) w w' e := by
  obtain ⟨x1, y2, z3, t4, r5, c6⟩ := eBase_c hb
  intro w hG
  have off0 : Off [] w w := Off.refl _ _
  have sz := off0.size
  go_enter Tryd.func9, Tryd.ntmps9
  go_upto_region 1 with fail
  refine wp_region_lit ?_
  refine wpL_ret (c6 w (GE_ext hG off0.ext)) (by rfl) rfl (by kernel_rfl) rfl ?_
  (try simp only [Act.put, mA, mB, mC])
  intro W1 hO
  replace off0 := off0.step hO i0
  replace sz := off0.size
  clear hO
  refine wpL_ret (eEnc_c r5.rw W1 (GE_ext hG off0.ext)) (by rfl) rfl (by kernel_rfl) rfl ?_
  (try simp only [Act.put, mA, mB, mC])
  intro W2 hO
  replace off0 := off0.step hO i0
  replace sz := off0.size
  clear hO
  refine wpL_new (z := arrK .u8 32 (byt 0)) (t := 22) (by rfl) (by first | kernel_rfl | (go_simp; done) | (go_simp; rfl)) ?_
  (try simp only [Act.put, mA, mB, mC])
  intro p1_3 W3 n_t1 hO h_
  have fb_t1 : Fb p1_3 w.heap.size [] := fb_new (Nat.le_trans sz n_t1)
  replace off0 := off0.step hO i0
  replace sz := off0.size
  have k_t1 := h_
  clear hO h_ n_t1
  refine wpL_putrow (cells := arrK .u8 32 (byt (enc BP))) (by rfl) rfl rfl rfl k_t1 (by rw [arrK_size]; kernel_rfl) (by first | rw [arrK_size, arrK_size] | rw [arrK_size] | kernel_rfl) (by exact arrK_one _ _ _) ?_
  (try simp only [Act.put, mA, mB, mC])
  intro W4 hO h_
  replace k_t1 : Blk W4 p1_3 (arrK .u8 32 (byt (enc BP))) 22 := h_
  clear h_
  replace off0 := off0.step hO (i1 fb_t1)
  replace sz := off0.size
  clear hO
  refine wpL_nil ?_
  go_upto_region 2 with fail
  refine wp_region_lit ?_
  refine wpL_new (z := p4 0 0 0 0) (t := 28) (by rfl) (by first | kernel_rfl | (go_simp; done) | (go_simp; rfl)) ?_
  (try simp only [Act.put, mA, mB, mC])
  intro p2_5 W5 n_t2 hO h_
  have nq_t1_t2 : p1_3 ≠ p2_5 := Nat.ne_of_lt (Nat.lt_of_lt_of_le (blk_lt k_t1) n_t2)
  have fb_t2 : Fb p2_5 w.heap.size [] := fb_new (Nat.le_trans sz n_t2)
  replace k_t1 := blk_off k_t1 hO nm0
  replace off0 := off0.step hO i0
  replace sz := off0.size
  have k_t2 := h_
  clear hO h_ n_t2
  refine wpL_nil ?_
  go_upto_region 3 with fail
  refine wp_region_lit ?_
  refine wpL_load0 (by rfl) rfl rfl k_t2 (by kernel_rfl) (by kernel_rfl) ?_
  (try simp only [Act.put, mA, mB, mC])
  refine wpL_ret (eEnc_c rw_zero W5 (GE_ext hG off0.ext)) (by rfl) rfl (by kernel_rfl) rfl ?_
  (try simp only [Act.put, mA, mB, mC])
  intro W6 hO
  replace k_t1 := blk_off k_t1 hO nm0
  replace k_t2 := blk_off k_t2 hO nm0
  replace off0 := off0.step hO i0
  replace sz := off0.size
  clear hO
  refine wpL_new (z := arrK .u8 32 (byt 0)) (t := 22) (by rfl) (by first | kernel_rfl | (go_simp; done) | (go_simp; rfl)) ?_
  (try simp only [Act.put, mA, mB, mC])
  intro p3_7 W7 n_t3 hO h_
  have nq_t1_t3 : p1_3 ≠ p3_7 := Nat.ne_of_lt (Nat.lt_of_lt_of_le (blk_lt k_t1) n_t3)
  have nq_t2_t3 : p2_5 ≠ p3_7 := Nat.ne_of_lt (Nat.lt_of_lt_of_le (blk_lt k_t2) n_t3)
  have fb_t3 : Fb p3_7 w.heap.size [] := fb_new (Nat.le_trans sz n_t3)
  replace k_t1 := blk_off k_t1 hO nm0
  replace k_t2 := blk_off k_t2 hO nm0
  replace off0 := off0.step hO i0
  replace sz := off0.size
  have k_t3 := h_
  clear hO h_ n_t3
  refine wpL_putrow (cells := arrK .u8 32 (byt (enc p0))) (by rfl) rfl rfl rfl k_t3 (by rw [arrK_size]; kernel_rfl) (by first | rw [arrK_size, arrK_size] | rw [arrK_size] | kernel_rfl) (by exact arrK_one _ _ _) ?_
  (try simp only [Act.put, mA, mB, mC])
  intro W8 hO h_
  replace k_t3 : Blk W8 p3_7 (arrK .u8 32 (byt (enc p0))) 22 := h_
  clear h_
  replace k_t1 := blk_off k_t1 hO (nm1 nq_t1_t3)
  replace k_t2 := blk_off k_t2 hO (nm1 nq_t2_t3)
  replace off0 := off0.step hO (i1 fb_t3)
  replace sz := off0.size
  clear hO
  refine wpL_nil ?_
  go_upto_region 4 with fail
  refine wp_region_lit ?_
  refine wpL_val (v := .pointer (some ⟨p1_3, 0 + 0, none⟩)) (by rfl) (run_ixarr (m := 32) (by decide) (by decide) Tryd.underlying22 (by kernel_rfl) rfl rfl rfl) ?_
  (try simp only [Act.put, mA, mB, mC])
  refine wpL_get (v := .int .u8 ((byt (enc BP)) 0)) (by rfl) rfl rfl k_t1 (by rw [Nat.zero_add]; exact arrK_get _ _ _ _ (by decide)) (by kernel_rfl) ?_
  (try simp only [Act.put, mA, mB, mC])
  refine wpL_val (v := .bool true) (by rfl) (by exact run_eqU (by rw [encB0]; decide) Tryd.underlying5 rfl rfl rfl) ?_
  (try simp only [Act.put, mA, mB, mC])
  refine wpL_val (v := .bool true) (by rfl) (by first | rfl | (go_simp; done) | (go_simp; with_reducible rfl) | (go_simp; omega)) ?_
  (try simp only [Act.put, mA, mB, mC])
  refine wpL_val (v := .pointer (some ⟨p1_3, 0 + 31, none⟩)) (by rfl) (run_ixarr (m := 32) (by decide) (by decide) Tryd.underlying22 (by kernel_rfl) rfl rfl rfl) ?_
  (try simp only [Act.put, mA, mB, mC])
  refine wpL_get (v := .int .u8 ((byt (enc BP)) 31)) (by rfl) rfl rfl k_t1 (by rw [Nat.zero_add]; exact arrK_get _ _ _ _ (by decide)) (by kernel_rfl) ?_
  (try simp only [Act.put, mA, mB, mC])
  refine wpL_val (v := .bool true) (by rfl) (by exact run_eqU (by rw [encB31]; decide) Tryd.underlying5 rfl rfl rfl) ?_
  (try simp only [Act.put, mA, mB, mC])
  refine wpL_val (v := .bool true) (by rfl) (by first | rfl | (go_simp; done) | (go_simp; with_reducible rfl) | (go_simp; omega)) ?_
  (try simp only [Act.put, mA, mB, mC])
  refine wpL_val (v := .bool true) (by rfl) (by first | rfl | (go_simp; done) | (go_simp; with_reducible rfl) | (go_simp; omega)) ?_
  (try simp only [Act.put, mA, mB, mC])
  refine wpL_val (v := .pointer (some ⟨p3_7, 0 + 0, none⟩)) (by rfl) (run_ixarr (m := 32) (by decide) (by decide) Tryd.underlying22 (by kernel_rfl) rfl rfl rfl) ?_
  (try simp only [Act.put, mA, mB, mC])
  refine wpL_get (v := .int .u8 ((byt (enc p0)) 0)) (by rfl) rfl rfl k_t3 (by rw [Nat.zero_add]; exact arrK_get _ _ _ _ (by decide)) (by kernel_rfl) ?_
  (try simp only [Act.put, mA, mB, mC])
  refine wpL_val (v := .bool true) (by rfl) (by exact run_eqU (by rw [encZ0]; decide) Tryd.underlying5 rfl rfl rfl) ?_
  (try simp only [Act.put, mA, mB, mC])
  refine wpL_val (v := .bool true) (by rfl) (by first | rfl | (go_simp; done) | (go_simp; with_reducible rfl) | (go_simp; omega)) ?_
  (try simp only [Act.put, mA, mB, mC])
  refine wpL_val (v := .bool true) (by rfl) (by first | rfl | (go_simp; done) | (go_simp; with_reducible rfl) | (go_simp; omega)) ?_
  (try simp only [Act.put, mA, mB, mC])
  refine wpL_val (v := .pointer (some ⟨p3_7, 0 + 31, none⟩)) (by rfl) (run_ixarr (m := 32) (by decide) (by decide) Tryd.underlying22 (by kernel_rfl) rfl rfl rfl) ?_
  (try simp only [Act.put, mA, mB, mC])
  refine wpL_get (v := .int .u8 ((byt (enc p0)) 31)) (by rfl) rfl rfl k_t3 (by rw [Nat.zero_add]; exact arrK_get _ _ _ _ (by decide)) (by kernel_rfl) ?_
  (try simp only [Act.put, mA, mB, mC])
  refine wpL_val (v := .bool true) (by rfl) (by exact run_eqU (by rw [encZ31]; decide) Tryd.underlying5 rfl rfl rfl) ?_
  (try simp only [Act.put, mA, mB, mC])
  refine wpL_val (v := .bool true) (by rfl) (by first | rfl | (go_simp; done) | (go_simp; with_reducible rfl) | (go_simp; omega)) ?_
  (try simp only [Act.put, mA, mB, mC])
  refine wpL_val (v := .bool true) (by rfl) (by first | rfl | (go_simp; done) | (go_simp; with_reducible rfl) | (go_simp; omega)) ?_
  (try simp only [Act.put, mA, mB, mC])
  refine wpL_nil ?_
  go_wp2
  exact bodyPost_ret (v := .bool true) (by simp only [results, Tryd.results9]; go_simp) rfl ⟨rfl, off0.ext⟩
set_option maxRecDepth 100000 in
set_option maxHeartbeats 1500000 in
theorem rRight_c  :
    ∀ w, Calls Tryd.prog 19 #[] w fun e w' => Ret (.bool true) w w' e := by
  have c_N1 := rMul_c BY BY (lt_pp rd_base.y) (lt_pp rd_base.y)
  obtain ⟨N1, hN1⟩ : ∃ v_, v_ = BY * BY % PP := ⟨_, rfl⟩
  rw [← hN1] at c_N1
  have lN1 : N1 < PP := by rw [hN1]; exact mod_pp _
  have bN1 := lt_pp lN1
  have HN1 := Lib.hid hN1
  clear hN1
  have c_N2 := rMul_c BX BX (lt_pp rd_base.x) (lt_pp rd_base.x)
  obtain ⟨N2, hN2⟩ : ∃ v_, v_ = BX * BX % PP := ⟨_, rfl⟩
  rw [← hN2] at c_N2
  have lN2 : N2 < PP := by rw [hN2]; exact mod_pp _
  have bN2 := lt_pp lN2
  have HN2 := Lib.hid hN2
  clear hN2
  have c_N3 := rMul_c DD 121666 DD_lt (by decide)
  obtain ⟨N3, hN3⟩ : ∃ v_, v_ = DD * 121666 % PP := ⟨_, rfl⟩
  rw [← hN3] at c_N3
  have lN3 : N3 < PP := by rw [hN3]; exact mod_pp _
  have bN3 := lt_pp lN3
  have HN3 := Lib.hid hN3
  clear hN3
  have c_N4 := rNeg_c 121665 (Nat.le_of_lt (by decide))
  obtain ⟨N4, hN4⟩ : ∃ v_, v_ = (PP - 121665) % PP := ⟨_, rfl⟩
  rw [← hN4] at c_N4
  have lN4 : N4 < PP := by rw [hN4]; exact mod_pp _
  have bN4 := lt_pp lN4
  have HN4 := Lib.hid hN4
  clear hN4
  have e5 := eq16 N3 N4 bN3 bN4
  have q6 : N3 = N4 := by (simp only [HN4.out, HN3.out, HN2.out, HN1.out]); decide +kernel
  rw [decide_eq_true q6] at e5
  clear q6
  have c_N7 := rMul_c BY 5 (lt_pp rd_base.y) (by decide)
  obtain ⟨N7, hN7⟩ : ∃ v_, v_ = BY * 5 % PP := ⟨_, rfl⟩
  rw [← hN7] at c_N7
  have lN7 : N7 < PP := by rw [hN7]; exact mod_pp _
  have bN7 := lt_pp lN7
  have HN7 := Lib.hid hN7
  clear hN7
  have e8 := eq16 N7 4 bN7 (by decide)
  have q9 : N7 = 4 := by (simp only [HN7.out, HN4.out, HN3.out, HN2.out, HN1.out]); decide +kernel
  rw [decide_eq_true q9] at e8
  clear q9
  have c_N10 := rSub_c N1 N2 bN1 (Nat.le_of_lt lN2)
  obtain ⟨N10, hN10⟩ : ∃ v_, v_ = (N1 + (PP - N2) % PP) % PP := ⟨_, rfl⟩
  rw [← hN10] at c_N10
  have lN10 : N10 < PP := by rw [hN10]; exact mod_pp _
  have bN10 := lt_pp lN10
  have HN10 := Lib.hid hN10
  clear hN10
  have c_N11 := rMul_c N2 N1 bN2 bN1
  obtain ⟨N11, hN11⟩ : ∃ v_, v_ = N2 * N1 % PP := ⟨_, rfl⟩
  rw [← hN11] at c_N11
  have lN11 : N11 < PP := by rw [hN11]; exact mod_pp _
  have bN11 := lt_pp lN11
  have HN11 := Lib.hid hN11
  clear hN11
  have c_N12 := rMul_c DD N11 DD_lt bN11
  obtain ⟨N12, hN12⟩ : ∃ v_, v_ = DD * N11 % PP := ⟨_, rfl⟩
  rw [← hN12] at c_N12
  have lN12 : N12 < PP := by rw [hN12]; exact mod_pp _
  have bN12 := lt_pp lN12
  have HN12 := Lib.hid hN12
  clear hN12
  have c_N13 := rAdd_c 1 N12 (by decide) bN12
  obtain ⟨N13, hN13⟩ : ∃ v_, v_ = (1 + N12) % PP := ⟨_, rfl⟩
  rw [← hN13] at c_N13
  have lN13 : N13 < PP := by rw [hN13]; exact mod_pp _
  have bN13 := lt_pp lN13
  have HN13 := Lib.hid hN13
  clear hN13
  have e14 := eq16 N10 N13 bN10 bN13
  have q15 : N10 = N13 := by (simp only [HN13.out, HN12.out, HN11.out, HN10.out, HN7.out, HN4.out, HN3.out, HN2.out, HN1.out]); decide +kernel
  rw [decide_eq_true q15] at e14
  clear q15
  intro w
  have off0 : Off [] w w := Off.refl _ _
  have sz := off0.size
  go_enter Tryd.func19, Tryd.ntmps19
  go_upto_region 1 with fail
  refine wp_region_lit ?_
  refine wpL_ret (rBase_c w) (by rfl) rfl (by kernel_rfl) rfl ?_
  (try simp only [Act.put, mA, mB, mC])
  intro W1 hO
  replace off0 := off0.step hO i0
  replace sz := off0.size
  clear hO
  refine wpL_new (z := p3 0 0 0) (t := 41) (by rfl) (by first | kernel_rfl | (go_simp; done) | (go_simp; rfl)) ?_
  (try simp only [Act.put, mA, mB, mC])
  intro p1_2 W2 n_t1 hO h_
  have fb_t1 : Fb p1_2 w.heap.size [] := fb_new (Nat.le_trans sz n_t1)
  replace off0 := off0.step hO i0
  replace sz := off0.size
  have k_t1 := h_
  clear hO h_ n_t1
  refine wpL_putrow (cells := p3 BX BY 1) (by rfl) rfl rfl rfl k_t1 (by rw [p3_size]; kernel_rfl) (by first | rw [p3_size, p3_size] | rw [p3_size] | kernel_rfl) (by exact p3_one) ?_
  (try simp only [Act.put, mA, mB, mC])
  intro W3 hO h_
  replace k_t1 : Blk W3 p1_2 (p3 BX BY 1) 41 := h_
  clear h_
  replace off0 := off0.step hO (i1 fb_t1)
  replace sz := off0.size
  clear hO
  refine wpL_nil ?_
  go_upto_region 2 with fail
  refine wp_region_xn 10 [⟨10, 2, arrK .i64 16 (l16 0), 39⟩, ⟨11, 3, arrK .i64 16 (l16 0), 39⟩] (by kernel_rfl) ?_ (by kernel_rfl) ?_
  · intro x hx
    simp only [List.mem_cons, List.not_mem_nil, or_false] at hx
    rcases hx with rfl | rfl <;> exact ⟨_, rfl, rfl, rfl, fun _ _ => by kernel_rfl⟩
  simp only [List.take_succ_cons, List.take_zero, List.take_nil]
  (try simp only [Act.put, mA, mB, mC])
  (refine wpX_val (v := ?_) (by rfl) (fun W hW => ?_) ?_; rotate_left 1; (focus (go_simp; first | done | with_reducible rfl)); (try simp only [Act.put, mA, mB, mC]))
  refine wpX_loads (sub := arrK .i64 16 (l16 BY)) (j := 16) (by rfl) rfl rfl (blk_rd k_t1) p3c1 (by kernel_rfl) (by kernel_rfl) ?_
  (try simp only [Act.put, mA, mB, mC])
  (refine wpX_val (v := ?_) (by rfl) (fun W hW => ?_) ?_; rotate_left 1; (focus (go_simp; first | done | with_reducible rfl)); (try simp only [Act.put, mA, mB, mC]))
  refine wpX_loads (sub := arrK .i64 16 (l16 BY)) (j := 16) (by rfl) rfl rfl (blk_rd k_t1) p3c1 (by kernel_rfl) (by kernel_rfl) ?_
  (try simp only [Act.put, mA, mB, mC])
  ((with_reducible refine wpX_fn (fun W hW => c_N1 W) ?_ rfl ?_ ?_ ?_); (focus rfl); (focus kernel_rfl); (focus rfl); (try simp only [Act.put, mA, mB, mC]))
  (refine wpX_val (v := ?_) (by rfl) (fun W hW => ?_) ?_; rotate_left 1; (focus (go_simp; first | done | with_reducible rfl)); (try simp only [Act.put, mA, mB, mC]))
  refine wpX_loads (sub := arrK .i64 16 (l16 BX)) (j := 0) (by rfl) rfl rfl (blk_rd k_t1) p3c0 (by kernel_rfl) (by kernel_rfl) ?_
  (try simp only [Act.put, mA, mB, mC])
  (refine wpX_val (v := ?_) (by rfl) (fun W hW => ?_) ?_; rotate_left 1; (focus (go_simp; first | done | with_reducible rfl)); (try simp only [Act.put, mA, mB, mC]))
  refine wpX_loads (sub := arrK .i64 16 (l16 BX)) (j := 0) (by rfl) rfl rfl (blk_rd k_t1) p3c0 (by kernel_rfl) (by kernel_rfl) ?_
  (try simp only [Act.put, mA, mB, mC])
  ((with_reducible refine wpX_fn (fun W hW => c_N2 W) ?_ rfl ?_ ?_ ?_); (focus rfl); (focus kernel_rfl); (focus rfl); (try simp only [Act.put, mA, mB, mC]))
  refine wpX_nil ?_
  intro β W4 hE hN hD
  obtain ⟨n_t2, h_t2⟩ := hN _ (List.mem_cons_self ..)
  obtain ⟨n_t3, h_t3⟩ := hN _ (List.mem_cons_of_mem _ (List.mem_cons_self ..))
  have nq_t2_t3 := (hD _ (List.mem_cons_of_mem _ (List.mem_cons_self ..)) _ (List.mem_cons_self ..) (by decide)).symm
  clear hN hD
  simp only [putAll, Act.put, mA, mB, mC, List.drop_succ_cons, List.drop_zero, List.drop_nil, List.length_cons, List.length_nil, Nat.add_zero] at n_t2 h_t2 n_t3 h_t3 nq_t2_t3 ⊢
  have hO := off_ext hE
  generalize β 10 = p2_4 at *
  have nq_t1_t2 : p1_2 ≠ p2_4 := Nat.ne_of_lt (Nat.lt_of_lt_of_le (blk_lt k_t1) n_t2)
  have fb_t2 : Fb p2_4 w.heap.size [] := fb_new (Nat.le_trans sz n_t2)
  generalize β 11 = p3_4 at *
  have nq_t1_t3 : p1_2 ≠ p3_4 := Nat.ne_of_lt (Nat.lt_of_lt_of_le (blk_lt k_t1) n_t3)
  have fb_t3 : Fb p3_4 w.heap.size [] := fb_new (Nat.le_trans sz n_t3)
  replace k_t1 := blk_off k_t1 hO nm0
  replace off0 := off0.step hO i0
  replace sz := off0.size
  clear hO hE β n_t2 n_t3
  have k_t2 : Blk W4 p2_4 (arrK .i64 16 (l16 0)) 39 := h_t2
  clear h_t2
  have k_t3 : Blk W4 p3_4 (arrK .i64 16 (l16 0)) 39 := h_t3
  clear h_t3
  refine wpL_putrow (cells := arrK .i64 16 (l16 N1)) (by rfl) rfl rfl rfl k_t2 (by rw [arrK_size]; kernel_rfl) (by first | rw [arrK_size, arrK_size] | rw [arrK_size] | kernel_rfl) (by exact arrK_one _ _ _) ?_
  (try simp only [Act.put, mA, mB, mC])
  intro W5 hO h_
  replace k_t2 : Blk W5 p2_4 (arrK .i64 16 (l16 N1)) 39 := h_
  clear h_
  replace k_t1 := blk_off k_t1 hO (nm1 nq_t1_t2)
  replace k_t3 := blk_off k_t3 hO (nm1 nq_t2_t3.symm)
  replace off0 := off0.step hO (i1 fb_t2)
  replace sz := off0.size
  clear hO
  refine wpL_putrow (cells := arrK .i64 16 (l16 N2)) (by rfl) rfl rfl rfl k_t3 (by rw [arrK_size]; kernel_rfl) (by first | rw [arrK_size, arrK_size] | rw [arrK_size] | kernel_rfl) (by exact arrK_one _ _ _) ?_
  (try simp only [Act.put, mA, mB, mC])
  intro W6 hO h_
  replace k_t3 : Blk W6 p3_4 (arrK .i64 16 (l16 N2)) 39 := h_
  clear h_
  replace k_t1 := blk_off k_t1 hO (nm1 nq_t1_t3)
  replace k_t2 := blk_off k_t2 hO (nm1 nq_t2_t3)
  replace off0 := off0.step hO (i1 fb_t3)
  replace sz := off0.size
  clear hO
  refine wpL_nil ?_
  first | with_reducible refine NoPanic.normal (Q := Exit.then _ _) ?_ | with_reducible refine NoPanic.normal ?_
  go_upto_region 3 with fail
  refine wp_region_xn 35 [] (by kernel_rfl) (fun x hx => by cases hx) (by kernel_rfl) ?_
  simp only [List.take_succ_cons, List.take_zero, List.take_nil]
  (try simp only [Act.put, mA, mB, mC])
  ((with_reducible refine wpX_fn (fun W hW => rD_c W) ?_ rfl ?_ ?_ ?_); (focus rfl); (focus kernel_rfl); (focus rfl); (try simp only [Act.put, mA, mB, mC]))
  refine wpX_val (v := .agg (arrK .i64 16 (l16 121666))) (by rfl) (fun _ _ => by kernel_rfl) ?_
  (try simp only [Act.put, mA, mB, mC])
  ((with_reducible refine wpX_fn (fun W hW => c_N3 W) ?_ rfl ?_ ?_ ?_); (focus rfl); (focus kernel_rfl); (focus rfl); (try simp only [Act.put, mA, mB, mC]))
  refine wpX_val (v := .agg (arrK .i64 16 (l16 121665))) (by rfl) (fun _ _ => by kernel_rfl) ?_
  (try simp only [Act.put, mA, mB, mC])
  ((with_reducible refine wpX_fn (fun W hW => c_N4 W) ?_ rfl ?_ ?_ ?_); (focus rfl); (focus kernel_rfl); (focus rfl); (try simp only [Act.put, mA, mB, mC]))
  refine wpX_eqlA (e5) (by kernel_rfl) (by rfl) rfl rfl rfl ?_
  (try simp only [Act.put, mA, mB, mC])
  (refine wpX_val (v := ?_) (by rfl) (fun W hW => ?_) ?_; rotate_left 1; (focus (go_simp; first | done | with_reducible rfl)); (try simp only [Act.put, mA, mB, mC]))
  (refine wpX_val (v := ?_) (by rfl) (fun W hW => ?_) ?_; rotate_left 1; (focus (go_simp; first | done | with_reducible rfl)); (try simp only [Act.put, mA, mB, mC]))
  refine wpX_loads (sub := arrK .i64 16 (l16 BY)) (j := 16) (by rfl) rfl rfl (blk_rd k_t1) p3c1 (by kernel_rfl) (by kernel_rfl) ?_
  (try simp only [Act.put, mA, mB, mC])
  refine wpX_val (v := .agg (arrK .i64 16 (l16 5))) (by rfl) (fun _ _ => by kernel_rfl) ?_
  (try simp only [Act.put, mA, mB, mC])
  ((with_reducible refine wpX_fn (fun W hW => c_N7 W) ?_ rfl ?_ ?_ ?_); (focus rfl); (focus kernel_rfl); (focus rfl); (try simp only [Act.put, mA, mB, mC]))
  refine wpX_val (v := .agg (arrK .i64 16 (l16 4))) (by rfl) (fun _ _ => by kernel_rfl) ?_
  (try simp only [Act.put, mA, mB, mC])
  refine wpX_eqlA (e8) (by kernel_rfl) (by rfl) rfl rfl rfl ?_
  (try simp only [Act.put, mA, mB, mC])
  (refine wpX_val (v := ?_) (by rfl) (fun W hW => ?_) ?_; rotate_left 1; (focus (go_simp; first | done | with_reducible rfl)); (try simp only [Act.put, mA, mB, mC]))
  (refine wpX_val (v := ?_) (by rfl) (fun W hW => ?_) ?_; rotate_left 1; (focus (go_simp; first | done | with_reducible rfl)); (try simp only [Act.put, mA, mB, mC]))
  (refine wpX_val (v := ?_) (by rfl) (fun W hW => ?_) ?_; rotate_left 1; (focus (go_simp; first | done | with_reducible rfl)); (try simp only [Act.put, mA, mB, mC]))
  refine wpX_val (v := .pointer (some ⟨p1_2, 0 + 0, none⟩)) (by rfl) (fun _ _ => run_ixarr (m := 16) (by decide) (by decide) Tryd.underlying39 (by kernel_rfl) rfl rfl rfl) ?_
  (try simp only [Act.put, mA, mB, mC])
  refine wpX_cell (j := 0 + 0) (v := .int .i64 (l16 BX 0)) (blk_rd k_t1) (p3c0 0 _ (arrK_get _ _ _ _ (by decide))) (by rfl) rfl rfl (by kernel_rfl) ?_
  (try simp only [Act.put, mA, mB, mC])
  refine wpX_val (v := .int .i64 0) (by rfl) (fun _ _ => by exact run_odd16 (N := BX) (by decide) rfl rfl rfl) ?_
  (try simp only [Act.put, mA, mB, mC])
  (refine wpX_val (v := ?_) (by rfl) (fun W hW => ?_) ?_; rotate_left 1; (focus (go_simp; first | done | with_reducible rfl)); (try simp only [Act.put, mA, mB, mC]))
  (refine wpX_val (v := ?_) (by rfl) (fun W hW => ?_) ?_; rotate_left 1; (focus (go_simp; first | done | with_reducible rfl)); (try simp only [Act.put, mA, mB, mC]))
  (refine wpX_val (v := ?_) (by rfl) (fun W hW => ?_) ?_; rotate_left 1; (focus (go_simp; first | done | with_reducible rfl)); (try simp only [Act.put, mA, mB, mC]))
  refine wpX_load (by rfl) rfl rfl (blk_rd k_t2) (by kernel_rfl) (by rw [arrK_size]; kernel_rfl) ?_
  (try simp only [Act.put, mA, mB, mC])
  refine wpX_load (by rfl) rfl rfl (blk_rd k_t3) (by kernel_rfl) (by rw [arrK_size]; kernel_rfl) ?_
  (try simp only [Act.put, mA, mB, mC])
  ((with_reducible refine wpX_fn (fun W hW => c_N10 W) ?_ rfl ?_ ?_ ?_); (focus rfl); (focus kernel_rfl); (focus rfl); (try simp only [Act.put, mA, mB, mC]))
  refine wpX_val (v := .agg (arrK .i64 16 (l16 1))) (by rfl) (fun _ _ => by kernel_rfl) ?_
  (try simp only [Act.put, mA, mB, mC])
  ((with_reducible refine wpX_fn (fun W hW => rD_c W) ?_ rfl ?_ ?_ ?_); (focus rfl); (focus kernel_rfl); (focus rfl); (try simp only [Act.put, mA, mB, mC]))
  refine wpX_load (by rfl) rfl rfl (blk_rd k_t3) (by kernel_rfl) (by rw [arrK_size]; kernel_rfl) ?_
  (try simp only [Act.put, mA, mB, mC])
  refine wpX_load (by rfl) rfl rfl (blk_rd k_t2) (by kernel_rfl) (by rw [arrK_size]; kernel_rfl) ?_
  (try simp only [Act.put, mA, mB, mC])
  ((with_reducible refine wpX_fn (fun W hW => c_N11 W) ?_ rfl ?_ ?_ ?_); (focus rfl); (focus kernel_rfl); (focus rfl); (try simp only [Act.put, mA, mB, mC]))
  ((with_reducible refine wpX_fn (fun W hW => c_N12 W) ?_ rfl ?_ ?_ ?_); (focus rfl); (focus kernel_rfl); (focus rfl); (try simp only [Act.put, mA, mB, mC]))
  ((with_reducible refine wpX_fn (fun W hW => c_N13 W) ?_ rfl ?_ ?_ ?_); (focus rfl); (focus kernel_rfl); (focus rfl); (try simp only [Act.put, mA, mB, mC]))
  refine wpX_eqlA (e14) (by kernel_rfl) (by rfl) rfl rfl rfl ?_
  (try simp only [Act.put, mA, mB, mC])
  (refine wpX_val (v := ?_) (by rfl) (fun W hW => ?_) ?_; rotate_left 1; (focus (go_simp; first | done | with_reducible rfl)); (try simp only [Act.put, mA, mB, mC]))
  (refine wpX_val (v := ?_) (by rfl) (fun W hW => ?_) ?_; rotate_left 1; (focus (go_simp; first | done | with_reducible rfl)); (try simp only [Act.put, mA, mB, mC]))
  refine wpX_nil ?_
  intro β W7 hE hN hD
  clear hN hD
  simp only [putAll, Act.put, mA, mB, mC, List.drop_succ_cons, List.drop_zero, List.drop_nil, List.length_cons, List.length_nil, Nat.add_zero]
  have hO := off_ext hE
  replace k_t1 := blk_off k_t1 hO nm0
  replace k_t2 := blk_off k_t2 hO nm0
  replace k_t3 := blk_off k_t3 hO nm0
  replace off0 := off0.step hO i0
  replace sz := off0.size
  clear hO hE β
  refine wpL_nil ?_
  first | with_reducible refine NoPanic.normal (Q := Exit.then _ _) ?_ | with_reducible refine NoPanic.normal ?_
  go_wp2
  exact bodyPost_ret (v := .bool true) (by simp only [results, Tryd.results19]; go_simp) rfl ⟨rfl, off0.ext⟩
end Go.Proofs.YtghajiagbfcmdaaDoor
