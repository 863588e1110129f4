/- custumallaw07.pair. Conditions: the cells of the variables hold the curve's numbers. -/
import Derived.Test.YtghajiagbfcmdaaDoorEdL
import Derived.Test.YtghajiagbfcmdaaDoorGd
namespace Go.Proofs.YtghajiagbfcmdaaDoor
set_option linter.unusedSimpArgs false
set_option linter.unusedVariables false
open Go.RowKit
attribute [local irreducible] wpList wpTr
variable {kn : Kn}
def pairP (N s : Nat) : Pr := if s % 2 = 1 ∧ dOk 0 = true then padd (pm BP N) (dPt 0) else pm BP N

set_option maxRecDepth 100000 in
set_option maxHeartbeats 600000 in
theorem lPair_A (hd : kn.d) (hb : kn.b) (hc : kn.c) {N s : Nat} (hN : N < 2 ^ 256) (hs8 : s < 256) (hs : s % 2 = 1) (h0 : dOk 0 = true) :
    ∃ X Y Z T X' Y' Z', RN X Y Z T (padd (pm BP N) (dPt 0)) ∧ RD X' Y' Z' (padd (pm BP N) (dPt 0)) ∧ ∀ w, GE kn w → Calls Tryd.prog 18 #[.agg (arrK .u8 32 (byt N)), .int .u8 (s : Int)] w fun e w' => Ret (.tuple #[.agg (p4 X Y Z T), .agg (p3 X' Y' Z')]) w w' e := by
  obtain ⟨x1, y2, z3, t4, r5, c6⟩ := eBase_c hb
  obtain ⟨x7, y8, z9, t10, r11, c12⟩ := eTimes_c hd r5.rw (N := N) hN
  obtain ⟨x13, y14, z15, r16, c17⟩ := rTimes_c rd_base (lb 32 N) (by rw [lb_length]; decide)
  rw [le_lb 32 N hN] at r16
  obtain ⟨dx, dt, dr, dc⟩ := eDec_1 hc (V := 0) (by decide) h0
  obtain ⟨ex, er, ec⟩ := rDec_1 (V := 0) (by decide) h0
  rw [lb_zeros] at ec
  clear h0
  generalize 0 % 2 ^ 255 = y0 at *
  generalize dPt 0 = Qd at *
  obtain ⟨x18, y19, z20, t21, r22, c23⟩ := eAdd_c hd r11.rw dr.rw
  obtain ⟨x24, y25, z26, r27, c28⟩ := rPAdd_c r16 er
  refine ⟨x18, y19, z20, t21, x24, y25, z26, r22, r27, fun w hG => ?_⟩
  have off0 : Off [] w w := Off.refl _ _
  have sz := off0.size
  go_enter Tryd.func18, Tryd.ntmps18
  go_upto_region 0 with fail
  refine wp_region_lit ?_
  refine wpL_new (z := arrK .u8 32 (byt N)) (t := 22) (by rfl) (by first | kernel_rfl | (go_simp; done) | (go_simp; rfl)) ?_
  (try simp only [Act.put, mA, mB, mC])
  intro p2_1 W1 n_t2 hO h_
  have fb_t2 : Fb p2_1 w.heap.size [] := fb_new (Nat.le_trans sz n_t2)
  replace off0 := off0.step hO i0
  replace sz := off0.size
  have k_t2 := h_
  clear hO h_ n_t2
  refine wpL_new (z := p4 0 0 0 0) (t := 28) (by rfl) (by first | kernel_rfl | (go_simp; done) | (go_simp; rfl)) ?_
  (try simp only [Act.put, mA, mB, mC])
  intro p4_2 W2 n_t4 hO h_
  have nq_t2_t4 : p2_1 ≠ p4_2 := Nat.ne_of_lt (Nat.lt_of_lt_of_le (blk_lt k_t2) n_t4)
  have fb_t4 : Fb p4_2 w.heap.size [] := fb_new (Nat.le_trans sz n_t4)
  replace k_t2 := blk_off k_t2 hO nm0
  replace off0 := off0.step hO i0
  replace sz := off0.size
  have k_t4 := h_
  clear hO h_ n_t4
  refine wpL_new (z := p3 0 0 0) (t := 41) (by rfl) (by first | kernel_rfl | (go_simp; done) | (go_simp; rfl)) ?_
  (try simp only [Act.put, mA, mB, mC])
  intro p5_3 W3 n_t5 hO h_
  have nq_t2_t5 : p2_1 ≠ p5_3 := Nat.ne_of_lt (Nat.lt_of_lt_of_le (blk_lt k_t2) n_t5)
  have nq_t4_t5 : p4_2 ≠ p5_3 := Nat.ne_of_lt (Nat.lt_of_lt_of_le (blk_lt k_t4) n_t5)
  have fb_t5 : Fb p5_3 w.heap.size [] := fb_new (Nat.le_trans sz n_t5)
  replace k_t2 := blk_off k_t2 hO nm0
  replace k_t4 := blk_off k_t4 hO nm0
  replace off0 := off0.step hO i0
  replace sz := off0.size
  have k_t5 := h_
  clear hO h_ n_t5
  refine wpL_nil ?_
  go_upto_region 1 with fail
  refine wp_region_xn 7 [⟨7, 6, p4 0 0 0 0, 28⟩, ⟨8, 7, p3 0 0 0, 41⟩] (by kernel_rfl) ?_ (by kernel_rfl) ?_
  · intro x hx
    simp only [List.mem_cons, List.not_mem_nil, or_false] at hx
    rcases hx with rfl | rfl <;> exact ⟨_, rfl, rfl, rfl, fun _ _ => by kernel_rfl⟩
  simp only [List.take_succ_cons, List.take_zero, List.take_nil]
  (try simp only [Act.put, mA, mB, mC])
  ((with_reducible refine wpX_fn (fun W hW => c6 W (GE_ext (GE_ext hG off0.ext) hW)) ?_ rfl ?_ ?_ ?_); (focus rfl); (focus kernel_rfl); (focus rfl); (try simp only [Act.put, mA, mB, mC]))
  refine wpX_load (by rfl) rfl rfl (blk_rd k_t2) (by kernel_rfl) (by rw [arrK_size]; kernel_rfl) ?_
  (try simp only [Act.put, mA, mB, mC])
  ((with_reducible refine wpX_fn (fun W hW => c12 W (GE_ext (GE_ext hG off0.ext) hW)) ?_ rfl ?_ ?_ ?_); (focus rfl); (focus kernel_rfl); (focus rfl); (try simp only [Act.put, mA, mB, mC]))
  ((with_reducible refine wpX_fn (fun W hW => rBase_c W) ?_ rfl ?_ ?_ ?_); (focus rfl); (focus kernel_rfl); (focus rfl); (try simp only [Act.put, mA, mB, mC]))
  (refine wpX_val (v := ?_) (by rfl) (fun W hW => ?_) ?_; rotate_left 1; (focus (go_simp; first | done | with_reducible rfl)); (try simp only [Act.put, mA, mB, mC]))
  refine wpX_str (l := (lb 32 N)) (fun W hW => sl_arr (by decide) (blk_step k_t2 hW)) (by rfl) rfl rfl ?_
  (try simp only [Act.put, mA, mB, mC])
  ((with_reducible refine wpX_fn (fun W hW => c17 W) ?_ rfl ?_ ?_ ?_); (focus rfl); (focus kernel_rfl); (focus rfl); (try simp only [Act.put, mA, mB, mC]))
  refine wpX_nil ?_
  intro β W4 hE hN hD
  obtain ⟨n_t6, h_t6⟩ := hN _ (List.mem_cons_self ..)
  obtain ⟨n_t7, h_t7⟩ := hN _ (List.mem_cons_of_mem _ (List.mem_cons_self ..))
  have nq_t6_t7 := (hD _ (List.mem_cons_of_mem _ (List.mem_cons_self ..)) _ (List.mem_cons_self ..) (by decide)).symm
  clear hN hD
  simp only [putAll, Act.put, mA, mB, mC, List.drop_succ_cons, List.drop_zero, List.drop_nil, List.length_cons, List.length_nil, Nat.add_zero] at n_t6 h_t6 n_t7 h_t7 nq_t6_t7 ⊢
  have hO := off_ext hE
  generalize β 7 = p6_4 at *
  have nq_t2_t6 : p2_1 ≠ p6_4 := Nat.ne_of_lt (Nat.lt_of_lt_of_le (blk_lt k_t2) n_t6)
  have nq_t4_t6 : p4_2 ≠ p6_4 := Nat.ne_of_lt (Nat.lt_of_lt_of_le (blk_lt k_t4) n_t6)
  have nq_t5_t6 : p5_3 ≠ p6_4 := Nat.ne_of_lt (Nat.lt_of_lt_of_le (blk_lt k_t5) n_t6)
  have fb_t6 : Fb p6_4 w.heap.size [] := fb_new (Nat.le_trans sz n_t6)
  generalize β 8 = p7_4 at *
  have nq_t2_t7 : p2_1 ≠ p7_4 := Nat.ne_of_lt (Nat.lt_of_lt_of_le (blk_lt k_t2) n_t7)
  have nq_t4_t7 : p4_2 ≠ p7_4 := Nat.ne_of_lt (Nat.lt_of_lt_of_le (blk_lt k_t4) n_t7)
  have nq_t5_t7 : p5_3 ≠ p7_4 := Nat.ne_of_lt (Nat.lt_of_lt_of_le (blk_lt k_t5) n_t7)
  have fb_t7 : Fb p7_4 w.heap.size [] := fb_new (Nat.le_trans sz n_t7)
  replace k_t2 := blk_off k_t2 hO nm0
  replace k_t4 := blk_off k_t4 hO nm0
  replace k_t5 := blk_off k_t5 hO nm0
  replace off0 := off0.step hO i0
  replace sz := off0.size
  clear hO hE β n_t6 n_t7
  have k_t6 : Blk W4 p6_4 (p4 0 0 0 0) 28 := h_t6
  clear h_t6
  have k_t7 : Blk W4 p7_4 (p3 0 0 0) 41 := h_t7
  clear h_t7
  refine wpL_putrow (cells := p4 x7 y8 z9 t10) (by rfl) rfl rfl rfl k_t6 (by kernel_rfl) (by kernel_rfl) (by kernel_rfl) ?_
  (try simp only [Act.put, mA, mB, mC])
  intro W5 hO h_
  replace k_t6 : Blk W5 p6_4 (p4 x7 y8 z9 t10) 28 := h_
  clear h_
  replace k_t2 := blk_off k_t2 hO (nm1 nq_t2_t6)
  replace k_t4 := blk_off k_t4 hO (nm1 nq_t4_t6)
  replace k_t5 := blk_off k_t5 hO (nm1 nq_t5_t6)
  replace k_t7 := blk_off k_t7 hO (nm1 nq_t6_t7.symm)
  replace off0 := off0.step hO (i1 fb_t6)
  replace sz := off0.size
  clear hO
  refine wpL_putrow (cells := p3 x13 y14 z15) (by rfl) rfl rfl rfl k_t7 (by rw [p3_size]; kernel_rfl) (by first | rw [p3_size, p3_size] | rw [p3_size] | kernel_rfl) (by exact p3_one) ?_
  (try simp only [Act.put, mA, mB, mC])
  intro W6 hO h_
  replace k_t7 : Blk W6 p7_4 (p3 x13 y14 z15) 41 := h_
  clear h_
  replace k_t2 := blk_off k_t2 hO (nm1 nq_t2_t7)
  replace k_t4 := blk_off k_t4 hO (nm1 nq_t4_t7)
  replace k_t5 := blk_off k_t5 hO (nm1 nq_t5_t7)
  replace k_t6 := blk_off k_t6 hO (nm1 nq_t6_t7)
  replace off0 := off0.step hO (i1 fb_t7)
  replace sz := off0.size
  clear hO
  refine wpL_nil ?_
  first | with_reducible refine NoPanic.normal (Q := Exit.then _ _) ?_ | with_reducible refine NoPanic.normal ?_
  go_upto_region 2 with fail
  refine wp_region_lit ?_
  (refine wpL_val (v := ?_) (by rfl) ?_ ?_; rotate_left 1; (focus (go_simp; first | done | with_reducible rfl)))
  (try simp only [Act.put, mA, mB, mC])
  refine wpL_val (v := .int .u8 1) (by rfl) (by exact run_remR hs hs8 rfl rfl rfl) ?_
  (try simp only [Act.put, mA, mB, mC])
  refine wpL_val (v := .bool true) (by rfl) (by first | rfl | (go_simp; done) | (go_simp; with_reducible rfl) | (go_simp; omega)) ?_
  (try simp only [Act.put, mA, mB, mC])
  refine wpL_nil ?_
  go_upto_region 3 with fail
  refine wp_region_lit ?_
  refine wpL_val (v := .agg (arrK .u8 32 (byt 0))) (by rfl) (by kernel_rfl) ?_
  (try simp only [Act.put, mA, mB, mC])
  refine wpL_ret (dc W6 (GE_ext hG off0.ext)) (by rfl) rfl (by kernel_rfl) rfl ?_
  (try simp only [Act.put, mA, mB, mC])
  intro W7 hO
  replace k_t2 := blk_off k_t2 hO nm0
  replace k_t4 := blk_off k_t4 hO nm0
  replace k_t5 := blk_off k_t5 hO nm0
  replace k_t6 := blk_off k_t6 hO nm0
  replace k_t7 := blk_off k_t7 hO nm0
  replace off0 := off0.step hO i0
  replace sz := off0.size
  clear hO
  (refine wpL_val (v := ?_) (by rfl) ?_ ?_; rotate_left 1; (focus (go_simp; first | done | with_reducible rfl)))
  (try simp only [Act.put, mA, mB, mC])
  (refine wpL_val (v := ?_) (by rfl) ?_ ?_; rotate_left 1; (focus (go_simp; first | done | with_reducible rfl)))
  (try simp only [Act.put, mA, mB, mC])
  refine wpL_val (v := .int .i64 0) (by rfl) (by first | rfl | (go_simp; done) | (go_simp; with_reducible rfl) | (go_simp; omega)) ?_
  (try simp only [Act.put, mA, mB, mC])
  refine wpL_new (z := p4 0 0 0 0) (t := 28) (by rfl) (by first | kernel_rfl | (go_simp; done) | (go_simp; rfl)) ?_
  (try simp only [Act.put, mA, mB, mC])
  intro p8_8 W8 n_t8 hO h_
  have nq_t2_t8 : p2_1 ≠ p8_8 := Nat.ne_of_lt (Nat.lt_of_lt_of_le (blk_lt k_t2) n_t8)
  have nq_t4_t8 : p4_2 ≠ p8_8 := Nat.ne_of_lt (Nat.lt_of_lt_of_le (blk_lt k_t4) n_t8)
  have nq_t5_t8 : p5_3 ≠ p8_8 := Nat.ne_of_lt (Nat.lt_of_lt_of_le (blk_lt k_t5) n_t8)
  have nq_t6_t8 : p6_4 ≠ p8_8 := Nat.ne_of_lt (Nat.lt_of_lt_of_le (blk_lt k_t6) n_t8)
  have nq_t7_t8 : p7_4 ≠ p8_8 := Nat.ne_of_lt (Nat.lt_of_lt_of_le (blk_lt k_t7) n_t8)
  have fb_t8 : Fb p8_8 w.heap.size [] := fb_new (Nat.le_trans sz n_t8)
  replace k_t2 := blk_off k_t2 hO nm0
  replace k_t4 := blk_off k_t4 hO nm0
  replace k_t5 := blk_off k_t5 hO nm0
  replace k_t6 := blk_off k_t6 hO nm0
  replace k_t7 := blk_off k_t7 hO nm0
  replace off0 := off0.step hO i0
  replace sz := off0.size
  have k_t8 := h_
  clear hO h_ n_t8
  refine wpL_putrow (cells := p4 dx y0 1 dt) (by rfl) rfl rfl rfl k_t8 (by kernel_rfl) (by kernel_rfl) (by kernel_rfl) ?_
  (try simp only [Act.put, mA, mB, mC])
  intro W9 hO h_
  replace k_t8 : Blk W9 p8_8 (p4 dx y0 1 dt) 28 := h_
  clear h_
  replace k_t2 := blk_off k_t2 hO (nm1 nq_t2_t8)
  replace k_t4 := blk_off k_t4 hO (nm1 nq_t4_t8)
  replace k_t5 := blk_off k_t5 hO (nm1 nq_t5_t8)
  replace k_t6 := blk_off k_t6 hO (nm1 nq_t6_t8)
  replace k_t7 := blk_off k_t7 hO (nm1 nq_t7_t8)
  replace off0 := off0.step hO (i1 fb_t8)
  replace sz := off0.size
  clear hO
  refine wpL_val (v := .int .i64 0) (by rfl) (by first | rfl | (go_simp; done) | (go_simp; with_reducible rfl) | (go_simp; omega)) ?_
  (try simp only [Act.put, mA, mB, mC])
  refine wpL_nil ?_
  go_upto_region 4 with fail
  refine wp_region_lit ?_
  refine wpL_make (n := 32) (by decide) (by rfl) rfl rfl rfl ?_
  (try simp only [Act.put, mA, mB, mC])
  intro p28_10 W10 n_k28 hO h_
  have ne_k28_t2 : Value.ownBlock (.slice (some ⟨p28_10, 0, none⟩) 32 32) ≠ some p2_1 := fun e_ => (Nat.ne_of_lt (Nat.lt_of_lt_of_le (blk_lt k_t2) n_k28)) (Option.some.inj e_).symm
  have ne_k28_t4 : Value.ownBlock (.slice (some ⟨p28_10, 0, none⟩) 32 32) ≠ some p4_2 := fun e_ => (Nat.ne_of_lt (Nat.lt_of_lt_of_le (blk_lt k_t4) n_k28)) (Option.some.inj e_).symm
  have ne_k28_t5 : Value.ownBlock (.slice (some ⟨p28_10, 0, none⟩) 32 32) ≠ some p5_3 := fun e_ => (Nat.ne_of_lt (Nat.lt_of_lt_of_le (blk_lt k_t5) n_k28)) (Option.some.inj e_).symm
  have ne_k28_t6 : Value.ownBlock (.slice (some ⟨p28_10, 0, none⟩) 32 32) ≠ some p6_4 := fun e_ => (Nat.ne_of_lt (Nat.lt_of_lt_of_le (blk_lt k_t6) n_k28)) (Option.some.inj e_).symm
  have ne_k28_t7 : Value.ownBlock (.slice (some ⟨p28_10, 0, none⟩) 32 32) ≠ some p7_4 := fun e_ => (Nat.ne_of_lt (Nat.lt_of_lt_of_le (blk_lt k_t7) n_k28)) (Option.some.inj e_).symm
  have ne_k28_t8 : Value.ownBlock (.slice (some ⟨p28_10, 0, none⟩) 32 32) ≠ some p8_8 := fun e_ => (Nat.ne_of_lt (Nat.lt_of_lt_of_le (blk_lt k_t8) n_k28)) (Option.some.inj e_).symm
  have fr_k28 : Fr (Value.ownBlock (.slice (some ⟨p28_10, 0, none⟩) 32 32)) w.heap.size [] := fr_new (Nat.le_trans sz n_k28)
  replace k_t2 := blk_off k_t2 hO nm0
  replace k_t4 := blk_off k_t4 hO nm0
  replace k_t5 := blk_off k_t5 hO nm0
  replace k_t6 := blk_off k_t6 hO nm0
  replace k_t7 := blk_off k_t7 hO nm0
  replace k_t8 := blk_off k_t8 hO nm0
  replace off0 := off0.step hO i0
  replace sz := off0.size
  have ow_k28 : Own W10 (.slice (some ⟨p28_10, 0, none⟩) 32 32) (List.replicate 32 0) := h_
  clear hO h_ n_k28
  refine wpL_str (l := (List.replicate 32 0)) (ow_k28.sl) (by rfl) rfl rfl ?_
  (try simp only [Act.put, mA, mB, mC])
  refine wpL_ret (ec W10) (by rfl) rfl (by kernel_rfl) rfl ?_
  (try simp only [Act.put, mA, mB, mC])
  intro W11 hO
  replace k_t2 := blk_off k_t2 hO nm0
  replace k_t4 := blk_off k_t4 hO nm0
  replace k_t5 := blk_off k_t5 hO nm0
  replace k_t6 := blk_off k_t6 hO nm0
  replace k_t7 := blk_off k_t7 hO nm0
  replace k_t8 := blk_off k_t8 hO nm0
  replace ow_k28 := Own.off ow_k28 hO f0
  replace off0 := off0.step hO i0
  replace sz := off0.size
  clear hO
  (refine wpL_val (v := ?_) (by rfl) ?_ ?_; rotate_left 1; (focus (go_simp; first | done | with_reducible rfl)))
  (try simp only [Act.put, mA, mB, mC])
  (refine wpL_val (v := ?_) (by rfl) ?_ ?_; rotate_left 1; (focus (go_simp; first | done | with_reducible rfl)))
  (try simp only [Act.put, mA, mB, mC])
  refine wpL_val (v := .int .i64 0) (by rfl) (by first | rfl | (go_simp; done) | (go_simp; with_reducible rfl) | (go_simp; omega)) ?_
  (try simp only [Act.put, mA, mB, mC])
  refine wpL_new (z := p3 0 0 0) (t := 41) (by rfl) (by first | kernel_rfl | (go_simp; done) | (go_simp; rfl)) ?_
  (try simp only [Act.put, mA, mB, mC])
  intro p10_12 W12 n_t10 hO h_
  have nq_t2_t10 : p2_1 ≠ p10_12 := Nat.ne_of_lt (Nat.lt_of_lt_of_le (blk_lt k_t2) n_t10)
  have nq_t4_t10 : p4_2 ≠ p10_12 := Nat.ne_of_lt (Nat.lt_of_lt_of_le (blk_lt k_t4) n_t10)
  have nq_t5_t10 : p5_3 ≠ p10_12 := Nat.ne_of_lt (Nat.lt_of_lt_of_le (blk_lt k_t5) n_t10)
  have nq_t6_t10 : p6_4 ≠ p10_12 := Nat.ne_of_lt (Nat.lt_of_lt_of_le (blk_lt k_t6) n_t10)
  have nq_t7_t10 : p7_4 ≠ p10_12 := Nat.ne_of_lt (Nat.lt_of_lt_of_le (blk_lt k_t7) n_t10)
  have nq_t8_t10 : p8_8 ≠ p10_12 := Nat.ne_of_lt (Nat.lt_of_lt_of_le (blk_lt k_t8) n_t10)
  have ne_k28_t10 := ne_new (Own.lt ow_k28) n_t10
  have fb_t10 : Fb p10_12 w.heap.size [] := fb_new (Nat.le_trans sz n_t10)
  replace k_t2 := blk_off k_t2 hO nm0
  replace k_t4 := blk_off k_t4 hO nm0
  replace k_t5 := blk_off k_t5 hO nm0
  replace k_t6 := blk_off k_t6 hO nm0
  replace k_t7 := blk_off k_t7 hO nm0
  replace k_t8 := blk_off k_t8 hO nm0
  replace ow_k28 := Own.off ow_k28 hO f0
  replace off0 := off0.step hO i0
  replace sz := off0.size
  have k_t10 := h_
  clear hO h_ n_t10
  refine wpL_putrow (cells := p3 ex y0 1) (by rfl) rfl rfl rfl k_t10 (by rw [p3_size]; kernel_rfl) (by first | rw [p3_size, p3_size] | rw [p3_size] | kernel_rfl) (by exact p3_one) ?_
  (try simp only [Act.put, mA, mB, mC])
  intro W13 hO h_
  replace k_t10 : Blk W13 p10_12 (p3 ex y0 1) 41 := h_
  clear h_
  replace k_t2 := blk_off k_t2 hO (nm1 nq_t2_t10)
  replace k_t4 := blk_off k_t4 hO (nm1 nq_t4_t10)
  replace k_t5 := blk_off k_t5 hO (nm1 nq_t5_t10)
  replace k_t6 := blk_off k_t6 hO (nm1 nq_t6_t10)
  replace k_t7 := blk_off k_t7 hO (nm1 nq_t7_t10)
  replace k_t8 := blk_off k_t8 hO (nm1 nq_t8_t10)
  replace ow_k28 := Own.off ow_k28 hO (f1 ne_k28_t10)
  replace off0 := off0.step hO (i1 fb_t10)
  replace sz := off0.size
  clear hO
  refine wpL_val (v := .int .i64 0) (by rfl) (by first | rfl | (go_simp; done) | (go_simp; with_reducible rfl) | (go_simp; omega)) ?_
  (try simp only [Act.put, mA, mB, mC])
  refine wpL_nil ?_
  go_upto_region 6 with fail
  refine wp_region_xn 6 [] (by kernel_rfl) (fun x hx => by cases hx) (by kernel_rfl) ?_
  simp only [List.take_succ_cons, List.take_zero, List.take_nil]
  (try simp only [Act.put, mA, mB, mC])
  refine wpX_load (by rfl) rfl rfl (blk_rd k_t6) (by kernel_rfl) (by kernel_rfl) ?_
  (try simp only [Act.put, mA, mB, mC])
  refine wpX_load (by rfl) rfl rfl (blk_rd k_t8) (by kernel_rfl) (by kernel_rfl) ?_
  (try simp only [Act.put, mA, mB, mC])
  ((with_reducible refine wpX_fn (fun W hW => c23 W (GE_ext (GE_ext hG off0.ext) hW)) ?_ rfl ?_ ?_ ?_); (focus rfl); (focus kernel_rfl); (focus rfl); (try simp only [Act.put, mA, mB, mC]))
  refine wpX_load (by rfl) rfl rfl (blk_rd k_t7) (by kernel_rfl) (by rw [p3_size]; kernel_rfl) ?_
  (try simp only [Act.put, mA, mB, mC])
  refine wpX_load (by rfl) rfl rfl (blk_rd k_t10) (by kernel_rfl) (by rw [p3_size]; kernel_rfl) ?_
  (try simp only [Act.put, mA, mB, mC])
  ((with_reducible refine wpX_fn (fun W hW => c28 W) ?_ rfl ?_ ?_ ?_); (focus rfl); (focus kernel_rfl); (focus rfl); (try simp only [Act.put, mA, mB, mC]))
  refine wpX_nil ?_
  intro β W14 hE hN hD
  clear hN hD
  simp only [putAll, Act.put, mA, mB, mC, List.drop_succ_cons, List.drop_zero, List.drop_nil, List.length_cons, List.length_nil, Nat.add_zero]
  have hO := off_ext hE
  replace k_t2 := blk_off k_t2 hO nm0
  replace k_t4 := blk_off k_t4 hO nm0
  replace k_t5 := blk_off k_t5 hO nm0
  replace k_t6 := blk_off k_t6 hO nm0
  replace k_t7 := blk_off k_t7 hO nm0
  replace k_t8 := blk_off k_t8 hO nm0
  replace k_t10 := blk_off k_t10 hO nm0
  replace ow_k28 := Own.off ow_k28 hO f0
  replace off0 := off0.step hO i0
  replace sz := off0.size
  clear hO hE β
  refine wpL_putrow (cells := p4 x18 y19 z20 t21) (by rfl) rfl rfl rfl k_t6 (by kernel_rfl) (by kernel_rfl) (by kernel_rfl) ?_
  (try simp only [Act.put, mA, mB, mC])
  intro W15 hO h_
  replace k_t6 : Blk W15 p6_4 (p4 x18 y19 z20 t21) 28 := h_
  clear h_
  replace k_t2 := blk_off k_t2 hO (nm1 nq_t2_t6)
  replace k_t4 := blk_off k_t4 hO (nm1 nq_t4_t6)
  replace k_t5 := blk_off k_t5 hO (nm1 nq_t5_t6)
  replace k_t7 := blk_off k_t7 hO (nm1 nq_t6_t7.symm)
  replace k_t8 := blk_off k_t8 hO (nm1 nq_t6_t8.symm)
  replace k_t10 := blk_off k_t10 hO (nm1 nq_t6_t10.symm)
  replace ow_k28 := Own.off ow_k28 hO (f1 ne_k28_t6)
  replace off0 := off0.step hO (i1 fb_t6)
  replace sz := off0.size
  clear hO
  refine wpL_putrow (cells := p3 x24 y25 z26) (by rfl) rfl rfl rfl k_t7 (by rw [p3_size]; kernel_rfl) (by first | rw [p3_size, p3_size] | rw [p3_size] | kernel_rfl) (by exact p3_one) ?_
  (try simp only [Act.put, mA, mB, mC])
  intro W16 hO h_
  replace k_t7 : Blk W16 p7_4 (p3 x24 y25 z26) 41 := h_
  clear h_
  replace k_t2 := blk_off k_t2 hO (nm1 nq_t2_t7)
  replace k_t4 := blk_off k_t4 hO (nm1 nq_t4_t7)
  replace k_t5 := blk_off k_t5 hO (nm1 nq_t5_t7)
  replace k_t6 := blk_off k_t6 hO (nm1 nq_t6_t7)
  replace k_t8 := blk_off k_t8 hO (nm1 nq_t7_t8.symm)
  replace k_t10 := blk_off k_t10 hO (nm1 nq_t7_t10.symm)
  replace ow_k28 := Own.off ow_k28 hO (f1 ne_k28_t7)
  replace off0 := off0.step hO (i1 fb_t7)
  replace sz := off0.size
  clear hO
  refine wpL_nil ?_
  first | with_reducible refine NoPanic.normal (Q := Exit.then _ _) ?_ | with_reducible refine NoPanic.normal ?_
  go_upto_region 7 with fail
  refine wp_region_tr (.q 0 (.q 1 (.e 2 (.e 3 .z)))) (fun W => (Blk W p6_4 (p4 x18 y19 z20 t21) 28) ∧ (Blk W p7_4 (p3 x24 y25 z26) 41)) (by kernel_rfl) (by kernel_rfl) ?_
  intro W17 hO
  replace k_t2 := blk_off k_t2 hO nm0
  replace k_t4 := blk_off k_t4 hO nm0
  replace k_t5 := blk_off k_t5 hO nm0
  replace k_t6 := blk_off k_t6 hO nm0
  replace k_t7 := blk_off k_t7 hO nm0
  replace k_t8 := blk_off k_t8 hO nm0
  replace k_t10 := blk_off k_t10 hO nm0
  replace ow_k28 := Own.off ow_k28 hO f0
  replace off0 := off0.step hO i0
  replace sz := off0.size
  clear hO
  refine ⟨⟨k_t6, k_t7⟩, ?_⟩
  refine wpT_q (v := .agg (p4 x18 y19 z20 t21)) rfl (by rfl) (fun W hS => by exact (run_row0 rfl rfl (hS.1) (by kernel_rfl) (by kernel_rfl))) ?_
  (try simp only [Act.put, mA, mB, mC])
  refine wpT_q (v := .agg (p3 x24 y25 z26)) rfl (by rfl) (fun W hS => by exact (run_row0 rfl rfl (hS.2) (by kernel_rfl) (by rw [p3_size]; kernel_rfl))) ?_
  (try simp only [Act.put, mA, mB, mC])
  refine wpT_e rfl ?_
  refine wpL_putrow (cells := p4 x18 y19 z20 t21) (by rfl) rfl rfl rfl k_t4 (by kernel_rfl) (by kernel_rfl) (by kernel_rfl) ?_
  (try simp only [Act.put, mA, mB, mC])
  intro W18 hO h_
  replace k_t4 : Blk W18 p4_2 (p4 x18 y19 z20 t21) 28 := h_
  clear h_
  replace k_t2 := blk_off k_t2 hO (nm1 nq_t2_t4)
  replace k_t5 := blk_off k_t5 hO (nm1 nq_t4_t5.symm)
  replace k_t6 := blk_off k_t6 hO (nm1 nq_t4_t6.symm)
  replace k_t7 := blk_off k_t7 hO (nm1 nq_t4_t7.symm)
  replace k_t8 := blk_off k_t8 hO (nm1 nq_t4_t8.symm)
  replace k_t10 := blk_off k_t10 hO (nm1 nq_t4_t10.symm)
  replace ow_k28 := Own.off ow_k28 hO (f1 ne_k28_t4)
  replace off0 := off0.step hO (i1 fb_t4)
  replace sz := off0.size
  clear hO
  refine wpT_n (fun W => (Blk W p6_4 (p4 x18 y19 z20 t21) 28) ∧ (Blk W p7_4 (p3 x24 y25 z26) 41)) (fun W hS => ⟨hS.1, hS.2⟩) ⟨k_t6, k_t7⟩ ?_
  refine wpT_e rfl ?_
  refine wpL_putrow (cells := p3 x24 y25 z26) (by rfl) rfl rfl rfl k_t5 (by rw [p3_size]; kernel_rfl) (by first | rw [p3_size, p3_size] | rw [p3_size] | kernel_rfl) (by exact p3_one) ?_
  (try simp only [Act.put, mA, mB, mC])
  intro W19 hO h_
  replace k_t5 : Blk W19 p5_3 (p3 x24 y25 z26) 41 := h_
  clear h_
  replace k_t2 := blk_off k_t2 hO (nm1 nq_t2_t5)
  replace k_t4 := blk_off k_t4 hO (nm1 nq_t4_t5)
  replace k_t6 := blk_off k_t6 hO (nm1 nq_t5_t6.symm)
  replace k_t7 := blk_off k_t7 hO (nm1 nq_t5_t7.symm)
  replace k_t8 := blk_off k_t8 hO (nm1 nq_t5_t8.symm)
  replace k_t10 := blk_off k_t10 hO (nm1 nq_t5_t10.symm)
  replace ow_k28 := Own.off ow_k28 hO (f1 ne_k28_t5)
  replace off0 := off0.step hO (i1 fb_t5)
  replace sz := off0.size
  clear hO
  refine wpT_n (fun W => (Blk W p6_4 (p4 x18 y19 z20 t21) 28) ∧ (Blk W p7_4 (p3 x24 y25 z26) 41)) (fun W hS => ⟨hS.1, hS.2⟩) ⟨k_t6, k_t7⟩ ?_
  refine wpT_z ?_
  go_wp2
  exact bodyPost_ret (res_rows rfl rfl rfl k_t4 k_t5 (by kernel_rfl) (by kernel_rfl) (by kernel_rfl) (by rw [p3_size]; kernel_rfl)) rfl ⟨rfl, off0.ext⟩
set_option maxRecDepth 100000 in
set_option maxHeartbeats 600000 in
theorem lPair_B (hd : kn.d) (hb : kn.b) (hc : kn.c) {N s : Nat} (hN : N < 2 ^ 256) (hs8 : s < 256) (hs : s % 2 = 1) (h0 : dOk 0 = false) :
    ∃ X Y Z T X' Y' Z', RN X Y Z T (pm BP N) ∧ RD X' Y' Z' (pm BP N) ∧ ∀ w, GE kn w → Calls Tryd.prog 18 #[.agg (arrK .u8 32 (byt N)), .int .u8 (s : Int)] w fun e w' => Ret (.tuple #[.agg (p4 X Y Z T), .agg (p3 X' Y' Z')]) w w' e := by
  obtain ⟨x1, y2, z3, t4, r5, c6⟩ := eBase_c hb
  obtain ⟨x7, y8, z9, t10, r11, c12⟩ := eTimes_c hd r5.rw (N := N) hN
  obtain ⟨x13, y14, z15, r16, c17⟩ := rTimes_c rd_base (lb 32 N) (by rw [lb_length]; decide)
  rw [le_lb 32 N hN] at r16
  have dc := eDec_0 hc (V := 0) (by decide) h0
  have ec := rDec_0 (V := 0) (by decide) h0
  rw [lb_zeros] at ec
  clear h0
  refine ⟨x7, y8, z9, t10, x13, y14, z15, r11, r16, fun w hG => ?_⟩
  have off0 : Off [] w w := Off.refl _ _
  have sz := off0.size
  go_enter Tryd.func18, Tryd.ntmps18
  go_upto_region 0 with fail
  refine wp_region_lit ?_
  refine wpL_new (z := arrK .u8 32 (byt N)) (t := 22) (by rfl) (by first | kernel_rfl | (go_simp; done) | (go_simp; rfl)) ?_
  (try simp only [Act.put, mA, mB, mC])
  intro p2_1 W1 n_t2 hO h_
  have fb_t2 : Fb p2_1 w.heap.size [] := fb_new (Nat.le_trans sz n_t2)
  replace off0 := off0.step hO i0
  replace sz := off0.size
  have k_t2 := h_
  clear hO h_ n_t2
  refine wpL_new (z := p4 0 0 0 0) (t := 28) (by rfl) (by first | kernel_rfl | (go_simp; done) | (go_simp; rfl)) ?_
  (try simp only [Act.put, mA, mB, mC])
  intro p4_2 W2 n_t4 hO h_
  have nq_t2_t4 : p2_1 ≠ p4_2 := Nat.ne_of_lt (Nat.lt_of_lt_of_le (blk_lt k_t2) n_t4)
  have fb_t4 : Fb p4_2 w.heap.size [] := fb_new (Nat.le_trans sz n_t4)
  replace k_t2 := blk_off k_t2 hO nm0
  replace off0 := off0.step hO i0
  replace sz := off0.size
  have k_t4 := h_
  clear hO h_ n_t4
  refine wpL_new (z := p3 0 0 0) (t := 41) (by rfl) (by first | kernel_rfl | (go_simp; done) | (go_simp; rfl)) ?_
  (try simp only [Act.put, mA, mB, mC])
  intro p5_3 W3 n_t5 hO h_
  have nq_t2_t5 : p2_1 ≠ p5_3 := Nat.ne_of_lt (Nat.lt_of_lt_of_le (blk_lt k_t2) n_t5)
  have nq_t4_t5 : p4_2 ≠ p5_3 := Nat.ne_of_lt (Nat.lt_of_lt_of_le (blk_lt k_t4) n_t5)
  have fb_t5 : Fb p5_3 w.heap.size [] := fb_new (Nat.le_trans sz n_t5)
  replace k_t2 := blk_off k_t2 hO nm0
  replace k_t4 := blk_off k_t4 hO nm0
  replace off0 := off0.step hO i0
  replace sz := off0.size
  have k_t5 := h_
  clear hO h_ n_t5
  refine wpL_nil ?_
  go_upto_region 1 with fail
  refine wp_region_xn 7 [⟨7, 6, p4 0 0 0 0, 28⟩, ⟨8, 7, p3 0 0 0, 41⟩] (by kernel_rfl) ?_ (by kernel_rfl) ?_
  · intro x hx
    simp only [List.mem_cons, List.not_mem_nil, or_false] at hx
    rcases hx with rfl | rfl <;> exact ⟨_, rfl, rfl, rfl, fun _ _ => by kernel_rfl⟩
  simp only [List.take_succ_cons, List.take_zero, List.take_nil]
  (try simp only [Act.put, mA, mB, mC])
  ((with_reducible refine wpX_fn (fun W hW => c6 W (GE_ext (GE_ext hG off0.ext) hW)) ?_ rfl ?_ ?_ ?_); (focus rfl); (focus kernel_rfl); (focus rfl); (try simp only [Act.put, mA, mB, mC]))
  refine wpX_load (by rfl) rfl rfl (blk_rd k_t2) (by kernel_rfl) (by rw [arrK_size]; kernel_rfl) ?_
  (try simp only [Act.put, mA, mB, mC])
  ((with_reducible refine wpX_fn (fun W hW => c12 W (GE_ext (GE_ext hG off0.ext) hW)) ?_ rfl ?_ ?_ ?_); (focus rfl); (focus kernel_rfl); (focus rfl); (try simp only [Act.put, mA, mB, mC]))
  ((with_reducible refine wpX_fn (fun W hW => rBase_c W) ?_ rfl ?_ ?_ ?_); (focus rfl); (focus kernel_rfl); (focus rfl); (try simp only [Act.put, mA, mB, mC]))
  (refine wpX_val (v := ?_) (by rfl) (fun W hW => ?_) ?_; rotate_left 1; (focus (go_simp; first | done | with_reducible rfl)); (try simp only [Act.put, mA, mB, mC]))
  refine wpX_str (l := (lb 32 N)) (fun W hW => sl_arr (by decide) (blk_step k_t2 hW)) (by rfl) rfl rfl ?_
  (try simp only [Act.put, mA, mB, mC])
  ((with_reducible refine wpX_fn (fun W hW => c17 W) ?_ rfl ?_ ?_ ?_); (focus rfl); (focus kernel_rfl); (focus rfl); (try simp only [Act.put, mA, mB, mC]))
  refine wpX_nil ?_
  intro β W4 hE hN hD
  obtain ⟨n_t6, h_t6⟩ := hN _ (List.mem_cons_self ..)
  obtain ⟨n_t7, h_t7⟩ := hN _ (List.mem_cons_of_mem _ (List.mem_cons_self ..))
  have nq_t6_t7 := (hD _ (List.mem_cons_of_mem _ (List.mem_cons_self ..)) _ (List.mem_cons_self ..) (by decide)).symm
  clear hN hD
  simp only [putAll, Act.put, mA, mB, mC, List.drop_succ_cons, List.drop_zero, List.drop_nil, List.length_cons, List.length_nil, Nat.add_zero] at n_t6 h_t6 n_t7 h_t7 nq_t6_t7 ⊢
  have hO := off_ext hE
  generalize β 7 = p6_4 at *
  have nq_t2_t6 : p2_1 ≠ p6_4 := Nat.ne_of_lt (Nat.lt_of_lt_of_le (blk_lt k_t2) n_t6)
  have nq_t4_t6 : p4_2 ≠ p6_4 := Nat.ne_of_lt (Nat.lt_of_lt_of_le (blk_lt k_t4) n_t6)
  have nq_t5_t6 : p5_3 ≠ p6_4 := Nat.ne_of_lt (Nat.lt_of_lt_of_le (blk_lt k_t5) n_t6)
  have fb_t6 : Fb p6_4 w.heap.size [] := fb_new (Nat.le_trans sz n_t6)
  generalize β 8 = p7_4 at *
  have nq_t2_t7 : p2_1 ≠ p7_4 := Nat.ne_of_lt (Nat.lt_of_lt_of_le (blk_lt k_t2) n_t7)
  have nq_t4_t7 : p4_2 ≠ p7_4 := Nat.ne_of_lt (Nat.lt_of_lt_of_le (blk_lt k_t4) n_t7)
  have nq_t5_t7 : p5_3 ≠ p7_4 := Nat.ne_of_lt (Nat.lt_of_lt_of_le (blk_lt k_t5) n_t7)
  have fb_t7 : Fb p7_4 w.heap.size [] := fb_new (Nat.le_trans sz n_t7)
  replace k_t2 := blk_off k_t2 hO nm0
  replace k_t4 := blk_off k_t4 hO nm0
  replace k_t5 := blk_off k_t5 hO nm0
  replace off0 := off0.step hO i0
  replace sz := off0.size
  clear hO hE β n_t6 n_t7
  have k_t6 : Blk W4 p6_4 (p4 0 0 0 0) 28 := h_t6
  clear h_t6
  have k_t7 : Blk W4 p7_4 (p3 0 0 0) 41 := h_t7
  clear h_t7
  refine wpL_putrow (cells := p4 x7 y8 z9 t10) (by rfl) rfl rfl rfl k_t6 (by kernel_rfl) (by kernel_rfl) (by kernel_rfl) ?_
  (try simp only [Act.put, mA, mB, mC])
  intro W5 hO h_
  replace k_t6 : Blk W5 p6_4 (p4 x7 y8 z9 t10) 28 := h_
  clear h_
  replace k_t2 := blk_off k_t2 hO (nm1 nq_t2_t6)
  replace k_t4 := blk_off k_t4 hO (nm1 nq_t4_t6)
  replace k_t5 := blk_off k_t5 hO (nm1 nq_t5_t6)
  replace k_t7 := blk_off k_t7 hO (nm1 nq_t6_t7.symm)
  replace off0 := off0.step hO (i1 fb_t6)
  replace sz := off0.size
  clear hO
  refine wpL_putrow (cells := p3 x13 y14 z15) (by rfl) rfl rfl rfl k_t7 (by rw [p3_size]; kernel_rfl) (by first | rw [p3_size, p3_size] | rw [p3_size] | kernel_rfl) (by exact p3_one) ?_
  (try simp only [Act.put, mA, mB, mC])
  intro W6 hO h_
  replace k_t7 : Blk W6 p7_4 (p3 x13 y14 z15) 41 := h_
  clear h_
  replace k_t2 := blk_off k_t2 hO (nm1 nq_t2_t7)
  replace k_t4 := blk_off k_t4 hO (nm1 nq_t4_t7)
  replace k_t5 := blk_off k_t5 hO (nm1 nq_t5_t7)
  replace k_t6 := blk_off k_t6 hO (nm1 nq_t6_t7)
  replace off0 := off0.step hO (i1 fb_t7)
  replace sz := off0.size
  clear hO
  refine wpL_nil ?_
  first | with_reducible refine NoPanic.normal (Q := Exit.then _ _) ?_ | with_reducible refine NoPanic.normal ?_
  go_upto_region 2 with fail
  refine wp_region_lit ?_
  (refine wpL_val (v := ?_) (by rfl) ?_ ?_; rotate_left 1; (focus (go_simp; first | done | with_reducible rfl)))
  (try simp only [Act.put, mA, mB, mC])
  refine wpL_val (v := .int .u8 1) (by rfl) (by exact run_remR hs hs8 rfl rfl rfl) ?_
  (try simp only [Act.put, mA, mB, mC])
  refine wpL_val (v := .bool true) (by rfl) (by first | rfl | (go_simp; done) | (go_simp; with_reducible rfl) | (go_simp; omega)) ?_
  (try simp only [Act.put, mA, mB, mC])
  refine wpL_nil ?_
  go_upto_region 3 with fail
  refine wp_region_lit ?_
  refine wpL_val (v := .agg (arrK .u8 32 (byt 0))) (by rfl) (by kernel_rfl) ?_
  (try simp only [Act.put, mA, mB, mC])
  refine wpL_ret (dc W6 (GE_ext hG off0.ext)) (by rfl) rfl (by kernel_rfl) rfl ?_
  (try simp only [Act.put, mA, mB, mC])
  intro W7 hO
  replace k_t2 := blk_off k_t2 hO nm0
  replace k_t4 := blk_off k_t4 hO nm0
  replace k_t5 := blk_off k_t5 hO nm0
  replace k_t6 := blk_off k_t6 hO nm0
  replace k_t7 := blk_off k_t7 hO nm0
  replace off0 := off0.step hO i0
  replace sz := off0.size
  clear hO
  (refine wpL_val (v := ?_) (by rfl) ?_ ?_; rotate_left 1; (focus (go_simp; first | done | with_reducible rfl)))
  (try simp only [Act.put, mA, mB, mC])
  (refine wpL_val (v := ?_) (by rfl) ?_ ?_; rotate_left 1; (focus (go_simp; first | done | with_reducible rfl)))
  (try simp only [Act.put, mA, mB, mC])
  refine wpL_val (v := .int .i64 15) (by rfl) (by first | rfl | (go_simp; done) | (go_simp; with_reducible rfl) | (go_simp; omega)) ?_
  (try simp only [Act.put, mA, mB, mC])
  refine wpL_new (z := p4 0 0 0 0) (t := 28) (by rfl) (by first | kernel_rfl | (go_simp; done) | (go_simp; rfl)) ?_
  (try simp only [Act.put, mA, mB, mC])
  intro p8_8 W8 n_t8 hO h_
  have nq_t2_t8 : p2_1 ≠ p8_8 := Nat.ne_of_lt (Nat.lt_of_lt_of_le (blk_lt k_t2) n_t8)
  have nq_t4_t8 : p4_2 ≠ p8_8 := Nat.ne_of_lt (Nat.lt_of_lt_of_le (blk_lt k_t4) n_t8)
  have nq_t5_t8 : p5_3 ≠ p8_8 := Nat.ne_of_lt (Nat.lt_of_lt_of_le (blk_lt k_t5) n_t8)
  have nq_t6_t8 : p6_4 ≠ p8_8 := Nat.ne_of_lt (Nat.lt_of_lt_of_le (blk_lt k_t6) n_t8)
  have nq_t7_t8 : p7_4 ≠ p8_8 := Nat.ne_of_lt (Nat.lt_of_lt_of_le (blk_lt k_t7) n_t8)
  have fb_t8 : Fb p8_8 w.heap.size [] := fb_new (Nat.le_trans sz n_t8)
  replace k_t2 := blk_off k_t2 hO nm0
  replace k_t4 := blk_off k_t4 hO nm0
  replace k_t5 := blk_off k_t5 hO nm0
  replace k_t6 := blk_off k_t6 hO nm0
  replace k_t7 := blk_off k_t7 hO nm0
  replace off0 := off0.step hO i0
  replace sz := off0.size
  have k_t8 := h_
  clear hO h_ n_t8
  refine wpL_putrow (cells := p4 0 0 0 0) (by rfl) rfl rfl rfl k_t8 (by kernel_rfl) (by kernel_rfl) (by kernel_rfl) ?_
  (try simp only [Act.put, mA, mB, mC])
  intro W9 hO h_
  replace k_t8 : Blk W9 p8_8 (p4 0 0 0 0) 28 := h_
  clear h_
  replace k_t2 := blk_off k_t2 hO (nm1 nq_t2_t8)
  replace k_t4 := blk_off k_t4 hO (nm1 nq_t4_t8)
  replace k_t5 := blk_off k_t5 hO (nm1 nq_t5_t8)
  replace k_t6 := blk_off k_t6 hO (nm1 nq_t6_t8)
  replace k_t7 := blk_off k_t7 hO (nm1 nq_t7_t8)
  replace off0 := off0.step hO (i1 fb_t8)
  replace sz := off0.size
  clear hO
  refine wpL_val (v := .int .i64 15) (by rfl) (by first | rfl | (go_simp; done) | (go_simp; with_reducible rfl) | (go_simp; omega)) ?_
  (try simp only [Act.put, mA, mB, mC])
  refine wpL_nil ?_
  go_upto_region 4 with fail
  refine wp_region_lit ?_
  refine wpL_make (n := 32) (by decide) (by rfl) rfl rfl rfl ?_
  (try simp only [Act.put, mA, mB, mC])
  intro p28_10 W10 n_k28 hO h_
  have ne_k28_t2 : Value.ownBlock (.slice (some ⟨p28_10, 0, none⟩) 32 32) ≠ some p2_1 := fun e_ => (Nat.ne_of_lt (Nat.lt_of_lt_of_le (blk_lt k_t2) n_k28)) (Option.some.inj e_).symm
  have ne_k28_t4 : Value.ownBlock (.slice (some ⟨p28_10, 0, none⟩) 32 32) ≠ some p4_2 := fun e_ => (Nat.ne_of_lt (Nat.lt_of_lt_of_le (blk_lt k_t4) n_k28)) (Option.some.inj e_).symm
  have ne_k28_t5 : Value.ownBlock (.slice (some ⟨p28_10, 0, none⟩) 32 32) ≠ some p5_3 := fun e_ => (Nat.ne_of_lt (Nat.lt_of_lt_of_le (blk_lt k_t5) n_k28)) (Option.some.inj e_).symm
  have ne_k28_t6 : Value.ownBlock (.slice (some ⟨p28_10, 0, none⟩) 32 32) ≠ some p6_4 := fun e_ => (Nat.ne_of_lt (Nat.lt_of_lt_of_le (blk_lt k_t6) n_k28)) (Option.some.inj e_).symm
  have ne_k28_t7 : Value.ownBlock (.slice (some ⟨p28_10, 0, none⟩) 32 32) ≠ some p7_4 := fun e_ => (Nat.ne_of_lt (Nat.lt_of_lt_of_le (blk_lt k_t7) n_k28)) (Option.some.inj e_).symm
  have ne_k28_t8 : Value.ownBlock (.slice (some ⟨p28_10, 0, none⟩) 32 32) ≠ some p8_8 := fun e_ => (Nat.ne_of_lt (Nat.lt_of_lt_of_le (blk_lt k_t8) n_k28)) (Option.some.inj e_).symm
  have fr_k28 : Fr (Value.ownBlock (.slice (some ⟨p28_10, 0, none⟩) 32 32)) w.heap.size [] := fr_new (Nat.le_trans sz n_k28)
  replace k_t2 := blk_off k_t2 hO nm0
  replace k_t4 := blk_off k_t4 hO nm0
  replace k_t5 := blk_off k_t5 hO nm0
  replace k_t6 := blk_off k_t6 hO nm0
  replace k_t7 := blk_off k_t7 hO nm0
  replace k_t8 := blk_off k_t8 hO nm0
  replace off0 := off0.step hO i0
  replace sz := off0.size
  have ow_k28 : Own W10 (.slice (some ⟨p28_10, 0, none⟩) 32 32) (List.replicate 32 0) := h_
  clear hO h_ n_k28
  refine wpL_str (l := (List.replicate 32 0)) (ow_k28.sl) (by rfl) rfl rfl ?_
  (try simp only [Act.put, mA, mB, mC])
  refine wpL_ret (ec W10) (by rfl) rfl (by kernel_rfl) rfl ?_
  (try simp only [Act.put, mA, mB, mC])
  intro W11 hO
  replace k_t2 := blk_off k_t2 hO nm0
  replace k_t4 := blk_off k_t4 hO nm0
  replace k_t5 := blk_off k_t5 hO nm0
  replace k_t6 := blk_off k_t6 hO nm0
  replace k_t7 := blk_off k_t7 hO nm0
  replace k_t8 := blk_off k_t8 hO nm0
  replace ow_k28 := Own.off ow_k28 hO f0
  replace off0 := off0.step hO i0
  replace sz := off0.size
  clear hO
  (refine wpL_val (v := ?_) (by rfl) ?_ ?_; rotate_left 1; (focus (go_simp; first | done | with_reducible rfl)))
  (try simp only [Act.put, mA, mB, mC])
  (refine wpL_val (v := ?_) (by rfl) ?_ ?_; rotate_left 1; (focus (go_simp; first | done | with_reducible rfl)))
  (try simp only [Act.put, mA, mB, mC])
  refine wpL_val (v := .int .i64 15) (by rfl) (by first | rfl | (go_simp; done) | (go_simp; with_reducible rfl) | (go_simp; omega)) ?_
  (try simp only [Act.put, mA, mB, mC])
  refine wpL_new (z := p3 0 0 0) (t := 41) (by rfl) (by first | kernel_rfl | (go_simp; done) | (go_simp; rfl)) ?_
  (try simp only [Act.put, mA, mB, mC])
  intro p10_12 W12 n_t10 hO h_
  have nq_t2_t10 : p2_1 ≠ p10_12 := Nat.ne_of_lt (Nat.lt_of_lt_of_le (blk_lt k_t2) n_t10)
  have nq_t4_t10 : p4_2 ≠ p10_12 := Nat.ne_of_lt (Nat.lt_of_lt_of_le (blk_lt k_t4) n_t10)
  have nq_t5_t10 : p5_3 ≠ p10_12 := Nat.ne_of_lt (Nat.lt_of_lt_of_le (blk_lt k_t5) n_t10)
  have nq_t6_t10 : p6_4 ≠ p10_12 := Nat.ne_of_lt (Nat.lt_of_lt_of_le (blk_lt k_t6) n_t10)
  have nq_t7_t10 : p7_4 ≠ p10_12 := Nat.ne_of_lt (Nat.lt_of_lt_of_le (blk_lt k_t7) n_t10)
  have nq_t8_t10 : p8_8 ≠ p10_12 := Nat.ne_of_lt (Nat.lt_of_lt_of_le (blk_lt k_t8) n_t10)
  have ne_k28_t10 := ne_new (Own.lt ow_k28) n_t10
  have fb_t10 : Fb p10_12 w.heap.size [] := fb_new (Nat.le_trans sz n_t10)
  replace k_t2 := blk_off k_t2 hO nm0
  replace k_t4 := blk_off k_t4 hO nm0
  replace k_t5 := blk_off k_t5 hO nm0
  replace k_t6 := blk_off k_t6 hO nm0
  replace k_t7 := blk_off k_t7 hO nm0
  replace k_t8 := blk_off k_t8 hO nm0
  replace ow_k28 := Own.off ow_k28 hO f0
  replace off0 := off0.step hO i0
  replace sz := off0.size
  have k_t10 := h_
  clear hO h_ n_t10
  refine wpL_putrow (cells := p3 0 0 0) (by rfl) rfl rfl rfl k_t10 (by rw [p3_size]; kernel_rfl) (by first | rw [p3_size, p3_size] | rw [p3_size] | kernel_rfl) (by exact p3_one) ?_
  (try simp only [Act.put, mA, mB, mC])
  intro W13 hO h_
  replace k_t10 : Blk W13 p10_12 (p3 0 0 0) 41 := h_
  clear h_
  replace k_t2 := blk_off k_t2 hO (nm1 nq_t2_t10)
  replace k_t4 := blk_off k_t4 hO (nm1 nq_t4_t10)
  replace k_t5 := blk_off k_t5 hO (nm1 nq_t5_t10)
  replace k_t6 := blk_off k_t6 hO (nm1 nq_t6_t10)
  replace k_t7 := blk_off k_t7 hO (nm1 nq_t7_t10)
  replace k_t8 := blk_off k_t8 hO (nm1 nq_t8_t10)
  replace ow_k28 := Own.off ow_k28 hO (f1 ne_k28_t10)
  replace off0 := off0.step hO (i1 fb_t10)
  replace sz := off0.size
  clear hO
  refine wpL_val (v := .int .i64 15) (by rfl) (by first | rfl | (go_simp; done) | (go_simp; with_reducible rfl) | (go_simp; omega)) ?_
  (try simp only [Act.put, mA, mB, mC])
  refine wpL_nil ?_
  go_upto_region 7 with fail
  refine wp_region_tr (.q 0 (.q 1 (.e 2 (.e 3 .z)))) (fun W => (Blk W p6_4 (p4 x7 y8 z9 t10) 28) ∧ (Blk W p7_4 (p3 x13 y14 z15) 41)) (by kernel_rfl) (by kernel_rfl) ?_
  intro W14 hO
  replace k_t2 := blk_off k_t2 hO nm0
  replace k_t4 := blk_off k_t4 hO nm0
  replace k_t5 := blk_off k_t5 hO nm0
  replace k_t6 := blk_off k_t6 hO nm0
  replace k_t7 := blk_off k_t7 hO nm0
  replace k_t8 := blk_off k_t8 hO nm0
  replace k_t10 := blk_off k_t10 hO nm0
  replace ow_k28 := Own.off ow_k28 hO f0
  replace off0 := off0.step hO i0
  replace sz := off0.size
  clear hO
  refine ⟨⟨k_t6, k_t7⟩, ?_⟩
  refine wpT_q (v := .agg (p4 x7 y8 z9 t10)) rfl (by rfl) (fun W hS => by exact (run_row0 rfl rfl (hS.1) (by kernel_rfl) (by kernel_rfl))) ?_
  (try simp only [Act.put, mA, mB, mC])
  refine wpT_q (v := .agg (p3 x13 y14 z15)) rfl (by rfl) (fun W hS => by exact (run_row0 rfl rfl (hS.2) (by kernel_rfl) (by rw [p3_size]; kernel_rfl))) ?_
  (try simp only [Act.put, mA, mB, mC])
  refine wpT_e rfl ?_
  refine wpL_putrow (cells := p4 x7 y8 z9 t10) (by rfl) rfl rfl rfl k_t4 (by kernel_rfl) (by kernel_rfl) (by kernel_rfl) ?_
  (try simp only [Act.put, mA, mB, mC])
  intro W15 hO h_
  replace k_t4 : Blk W15 p4_2 (p4 x7 y8 z9 t10) 28 := h_
  clear h_
  replace k_t2 := blk_off k_t2 hO (nm1 nq_t2_t4)
  replace k_t5 := blk_off k_t5 hO (nm1 nq_t4_t5.symm)
  replace k_t6 := blk_off k_t6 hO (nm1 nq_t4_t6.symm)
  replace k_t7 := blk_off k_t7 hO (nm1 nq_t4_t7.symm)
  replace k_t8 := blk_off k_t8 hO (nm1 nq_t4_t8.symm)
  replace k_t10 := blk_off k_t10 hO (nm1 nq_t4_t10.symm)
  replace ow_k28 := Own.off ow_k28 hO (f1 ne_k28_t4)
  replace off0 := off0.step hO (i1 fb_t4)
  replace sz := off0.size
  clear hO
  refine wpT_n (fun W => (Blk W p6_4 (p4 x7 y8 z9 t10) 28) ∧ (Blk W p7_4 (p3 x13 y14 z15) 41)) (fun W hS => ⟨hS.1, hS.2⟩) ⟨k_t6, k_t7⟩ ?_
  refine wpT_e rfl ?_
  refine wpL_putrow (cells := p3 x13 y14 z15) (by rfl) rfl rfl rfl k_t5 (by rw [p3_size]; kernel_rfl) (by first | rw [p3_size, p3_size] | rw [p3_size] | kernel_rfl) (by exact p3_one) ?_
  (try simp only [Act.put, mA, mB, mC])
  intro W16 hO h_
  replace k_t5 : Blk W16 p5_3 (p3 x13 y14 z15) 41 := h_
  clear h_
  replace k_t2 := blk_off k_t2 hO (nm1 nq_t2_t5)
  replace k_t4 := blk_off k_t4 hO (nm1 nq_t4_t5)
  replace k_t6 := blk_off k_t6 hO (nm1 nq_t5_t6.symm)
  replace k_t7 := blk_off k_t7 hO (nm1 nq_t5_t7.symm)
  replace k_t8 := blk_off k_t8 hO (nm1 nq_t5_t8.symm)
  replace k_t10 := blk_off k_t10 hO (nm1 nq_t5_t10.symm)
  replace ow_k28 := Own.off ow_k28 hO (f1 ne_k28_t5)
  replace off0 := off0.step hO (i1 fb_t5)
  replace sz := off0.size
  clear hO
  refine wpT_n (fun W => (Blk W p6_4 (p4 x7 y8 z9 t10) 28) ∧ (Blk W p7_4 (p3 x13 y14 z15) 41)) (fun W hS => ⟨hS.1, hS.2⟩) ⟨k_t6, k_t7⟩ ?_
  refine wpT_z ?_
  go_wp2
  exact bodyPost_ret (res_rows rfl rfl rfl k_t4 k_t5 (by kernel_rfl) (by kernel_rfl) (by kernel_rfl) (by rw [p3_size]; kernel_rfl)) rfl ⟨rfl, off0.ext⟩
set_option maxRecDepth 100000 in
set_option maxHeartbeats 600000 in
theorem lPair_C (hd : kn.d) (hb : kn.b) (hc : kn.c) {N s : Nat} (hN : N < 2 ^ 256) (hs8 : s < 256) (hs : ¬ s % 2 = 1) :
    ∃ X Y Z T X' Y' Z', RN X Y Z T (pm BP N) ∧ RD X' Y' Z' (pm BP N) ∧ ∀ w, GE kn w → Calls Tryd.prog 18 #[.agg (arrK .u8 32 (byt N)), .int .u8 (s : Int)] w fun e w' => Ret (.tuple #[.agg (p4 X Y Z T), .agg (p3 X' Y' Z')]) w w' e := by
  obtain ⟨x1, y2, z3, t4, r5, c6⟩ := eBase_c hb
  obtain ⟨x7, y8, z9, t10, r11, c12⟩ := eTimes_c hd r5.rw (N := N) hN
  obtain ⟨x13, y14, z15, r16, c17⟩ := rTimes_c rd_base (lb 32 N) (by rw [lb_length]; decide)
  rw [le_lb 32 N hN] at r16
  refine ⟨x7, y8, z9, t10, x13, y14, z15, r11, r16, fun w hG => ?_⟩
  have off0 : Off [] w w := Off.refl _ _
  have sz := off0.size
  go_enter Tryd.func18, Tryd.ntmps18
  go_upto_region 0 with fail
  refine wp_region_lit ?_
  refine wpL_new (z := arrK .u8 32 (byt N)) (t := 22) (by rfl) (by first | kernel_rfl | (go_simp; done) | (go_simp; rfl)) ?_
  (try simp only [Act.put, mA, mB, mC])
  intro p2_1 W1 n_t2 hO h_
  have fb_t2 : Fb p2_1 w.heap.size [] := fb_new (Nat.le_trans sz n_t2)
  replace off0 := off0.step hO i0
  replace sz := off0.size
  have k_t2 := h_
  clear hO h_ n_t2
  refine wpL_new (z := p4 0 0 0 0) (t := 28) (by rfl) (by first | kernel_rfl | (go_simp; done) | (go_simp; rfl)) ?_
  (try simp only [Act.put, mA, mB, mC])
  intro p4_2 W2 n_t4 hO h_
  have nq_t2_t4 : p2_1 ≠ p4_2 := Nat.ne_of_lt (Nat.lt_of_lt_of_le (blk_lt k_t2) n_t4)
  have fb_t4 : Fb p4_2 w.heap.size [] := fb_new (Nat.le_trans sz n_t4)
  replace k_t2 := blk_off k_t2 hO nm0
  replace off0 := off0.step hO i0
  replace sz := off0.size
  have k_t4 := h_
  clear hO h_ n_t4
  refine wpL_new (z := p3 0 0 0) (t := 41) (by rfl) (by first | kernel_rfl | (go_simp; done) | (go_simp; rfl)) ?_
  (try simp only [Act.put, mA, mB, mC])
  intro p5_3 W3 n_t5 hO h_
  have nq_t2_t5 : p2_1 ≠ p5_3 := Nat.ne_of_lt (Nat.lt_of_lt_of_le (blk_lt k_t2) n_t5)
  have nq_t4_t5 : p4_2 ≠ p5_3 := Nat.ne_of_lt (Nat.lt_of_lt_of_le (blk_lt k_t4) n_t5)
  have fb_t5 : Fb p5_3 w.heap.size [] := fb_new (Nat.le_trans sz n_t5)
  replace k_t2 := blk_off k_t2 hO nm0
  replace k_t4 := blk_off k_t4 hO nm0
  replace off0 := off0.step hO i0
  replace sz := off0.size
  have k_t5 := h_
  clear hO h_ n_t5
  refine wpL_nil ?_
  go_upto_region 1 with fail
  refine wp_region_xn 7 [⟨7, 6, p4 0 0 0 0, 28⟩, ⟨8, 7, p3 0 0 0, 41⟩] (by kernel_rfl) ?_ (by kernel_rfl) ?_
  · intro x hx
    simp only [List.mem_cons, List.not_mem_nil, or_false] at hx
    rcases hx with rfl | rfl <;> exact ⟨_, rfl, rfl, rfl, fun _ _ => by kernel_rfl⟩
  simp only [List.take_succ_cons, List.take_zero, List.take_nil]
  (try simp only [Act.put, mA, mB, mC])
  ((with_reducible refine wpX_fn (fun W hW => c6 W (GE_ext (GE_ext hG off0.ext) hW)) ?_ rfl ?_ ?_ ?_); (focus rfl); (focus kernel_rfl); (focus rfl); (try simp only [Act.put, mA, mB, mC]))
  refine wpX_load (by rfl) rfl rfl (blk_rd k_t2) (by kernel_rfl) (by rw [arrK_size]; kernel_rfl) ?_
  (try simp only [Act.put, mA, mB, mC])
  ((with_reducible refine wpX_fn (fun W hW => c12 W (GE_ext (GE_ext hG off0.ext) hW)) ?_ rfl ?_ ?_ ?_); (focus rfl); (focus kernel_rfl); (focus rfl); (try simp only [Act.put, mA, mB, mC]))
  ((with_reducible refine wpX_fn (fun W hW => rBase_c W) ?_ rfl ?_ ?_ ?_); (focus rfl); (focus kernel_rfl); (focus rfl); (try simp only [Act.put, mA, mB, mC]))
  (refine wpX_val (v := ?_) (by rfl) (fun W hW => ?_) ?_; rotate_left 1; (focus (go_simp; first | done | with_reducible rfl)); (try simp only [Act.put, mA, mB, mC]))
  refine wpX_str (l := (lb 32 N)) (fun W hW => sl_arr (by decide) (blk_step k_t2 hW)) (by rfl) rfl rfl ?_
  (try simp only [Act.put, mA, mB, mC])
  ((with_reducible refine wpX_fn (fun W hW => c17 W) ?_ rfl ?_ ?_ ?_); (focus rfl); (focus kernel_rfl); (focus rfl); (try simp only [Act.put, mA, mB, mC]))
  refine wpX_nil ?_
  intro β W4 hE hN hD
  obtain ⟨n_t6, h_t6⟩ := hN _ (List.mem_cons_self ..)
  obtain ⟨n_t7, h_t7⟩ := hN _ (List.mem_cons_of_mem _ (List.mem_cons_self ..))
  have nq_t6_t7 := (hD _ (List.mem_cons_of_mem _ (List.mem_cons_self ..)) _ (List.mem_cons_self ..) (by decide)).symm
  clear hN hD
  simp only [putAll, Act.put, mA, mB, mC, List.drop_succ_cons, List.drop_zero, List.drop_nil, List.length_cons, List.length_nil, Nat.add_zero] at n_t6 h_t6 n_t7 h_t7 nq_t6_t7 ⊢
  have hO := off_ext hE
  generalize β 7 = p6_4 at *
  have nq_t2_t6 : p2_1 ≠ p6_4 := Nat.ne_of_lt (Nat.lt_of_lt_of_le (blk_lt k_t2) n_t6)
  have nq_t4_t6 : p4_2 ≠ p6_4 := Nat.ne_of_lt (Nat.lt_of_lt_of_le (blk_lt k_t4) n_t6)
  have nq_t5_t6 : p5_3 ≠ p6_4 := Nat.ne_of_lt (Nat.lt_of_lt_of_le (blk_lt k_t5) n_t6)
  have fb_t6 : Fb p6_4 w.heap.size [] := fb_new (Nat.le_trans sz n_t6)
  generalize β 8 = p7_4 at *
  have nq_t2_t7 : p2_1 ≠ p7_4 := Nat.ne_of_lt (Nat.lt_of_lt_of_le (blk_lt k_t2) n_t7)
  have nq_t4_t7 : p4_2 ≠ p7_4 := Nat.ne_of_lt (Nat.lt_of_lt_of_le (blk_lt k_t4) n_t7)
  have nq_t5_t7 : p5_3 ≠ p7_4 := Nat.ne_of_lt (Nat.lt_of_lt_of_le (blk_lt k_t5) n_t7)
  have fb_t7 : Fb p7_4 w.heap.size [] := fb_new (Nat.le_trans sz n_t7)
  replace k_t2 := blk_off k_t2 hO nm0
  replace k_t4 := blk_off k_t4 hO nm0
  replace k_t5 := blk_off k_t5 hO nm0
  replace off0 := off0.step hO i0
  replace sz := off0.size
  clear hO hE β n_t6 n_t7
  have k_t6 : Blk W4 p6_4 (p4 0 0 0 0) 28 := h_t6
  clear h_t6
  have k_t7 : Blk W4 p7_4 (p3 0 0 0) 41 := h_t7
  clear h_t7
  refine wpL_putrow (cells := p4 x7 y8 z9 t10) (by rfl) rfl rfl rfl k_t6 (by kernel_rfl) (by kernel_rfl) (by kernel_rfl) ?_
  (try simp only [Act.put, mA, mB, mC])
  intro W5 hO h_
  replace k_t6 : Blk W5 p6_4 (p4 x7 y8 z9 t10) 28 := h_
  clear h_
  replace k_t2 := blk_off k_t2 hO (nm1 nq_t2_t6)
  replace k_t4 := blk_off k_t4 hO (nm1 nq_t4_t6)
  replace k_t5 := blk_off k_t5 hO (nm1 nq_t5_t6)
  replace k_t7 := blk_off k_t7 hO (nm1 nq_t6_t7.symm)
  replace off0 := off0.step hO (i1 fb_t6)
  replace sz := off0.size
  clear hO
  refine wpL_putrow (cells := p3 x13 y14 z15) (by rfl) rfl rfl rfl k_t7 (by rw [p3_size]; kernel_rfl) (by first | rw [p3_size, p3_size] | rw [p3_size] | kernel_rfl) (by exact p3_one) ?_
  (try simp only [Act.put, mA, mB, mC])
  intro W6 hO h_
  replace k_t7 : Blk W6 p7_4 (p3 x13 y14 z15) 41 := h_
  clear h_
  replace k_t2 := blk_off k_t2 hO (nm1 nq_t2_t7)
  replace k_t4 := blk_off k_t4 hO (nm1 nq_t4_t7)
  replace k_t5 := blk_off k_t5 hO (nm1 nq_t5_t7)
  replace k_t6 := blk_off k_t6 hO (nm1 nq_t6_t7)
  replace off0 := off0.step hO (i1 fb_t7)
  replace sz := off0.size
  clear hO
  refine wpL_nil ?_
  first | with_reducible refine NoPanic.normal (Q := Exit.then _ _) ?_ | with_reducible refine NoPanic.normal ?_
  go_upto_region 2 with fail
  refine wp_region_lit ?_
  (refine wpL_val (v := ?_) (by rfl) ?_ ?_; rotate_left 1; (focus (go_simp; first | done | with_reducible rfl)))
  (try simp only [Act.put, mA, mB, mC])
  refine wpL_val (v := .int .u8 0) (by rfl) (by exact run_remR (show s % 2 = 0 by omega) hs8 rfl rfl rfl) ?_
  (try simp only [Act.put, mA, mB, mC])
  refine wpL_val (v := .bool false) (by rfl) (by first | rfl | (go_simp; done) | (go_simp; with_reducible rfl) | (go_simp; omega)) ?_
  (try simp only [Act.put, mA, mB, mC])
  refine wpL_nil ?_
  go_upto_region 7 with fail
  refine wp_region_tr (.q 0 (.q 1 (.e 2 (.e 3 .z)))) (fun W => (Blk W p6_4 (p4 x7 y8 z9 t10) 28) ∧ (Blk W p7_4 (p3 x13 y14 z15) 41)) (by kernel_rfl) (by kernel_rfl) ?_
  intro W7 hO
  replace k_t2 := blk_off k_t2 hO nm0
  replace k_t4 := blk_off k_t4 hO nm0
  replace k_t5 := blk_off k_t5 hO nm0
  replace k_t6 := blk_off k_t6 hO nm0
  replace k_t7 := blk_off k_t7 hO nm0
  replace off0 := off0.step hO i0
  replace sz := off0.size
  clear hO
  refine ⟨⟨k_t6, k_t7⟩, ?_⟩
  refine wpT_q (v := .agg (p4 x7 y8 z9 t10)) rfl (by rfl) (fun W hS => by exact (run_row0 rfl rfl (hS.1) (by kernel_rfl) (by kernel_rfl))) ?_
  (try simp only [Act.put, mA, mB, mC])
  refine wpT_q (v := .agg (p3 x13 y14 z15)) rfl (by rfl) (fun W hS => by exact (run_row0 rfl rfl (hS.2) (by kernel_rfl) (by rw [p3_size]; kernel_rfl))) ?_
  (try simp only [Act.put, mA, mB, mC])
  refine wpT_e rfl ?_
  refine wpL_putrow (cells := p4 x7 y8 z9 t10) (by rfl) rfl rfl rfl k_t4 (by kernel_rfl) (by kernel_rfl) (by kernel_rfl) ?_
  (try simp only [Act.put, mA, mB, mC])
  intro W8 hO h_
  replace k_t4 : Blk W8 p4_2 (p4 x7 y8 z9 t10) 28 := h_
  clear h_
  replace k_t2 := blk_off k_t2 hO (nm1 nq_t2_t4)
  replace k_t5 := blk_off k_t5 hO (nm1 nq_t4_t5.symm)
  replace k_t6 := blk_off k_t6 hO (nm1 nq_t4_t6.symm)
  replace k_t7 := blk_off k_t7 hO (nm1 nq_t4_t7.symm)
  replace off0 := off0.step hO (i1 fb_t4)
  replace sz := off0.size
  clear hO
  refine wpT_n (fun W => (Blk W p6_4 (p4 x7 y8 z9 t10) 28) ∧ (Blk W p7_4 (p3 x13 y14 z15) 41)) (fun W hS => ⟨hS.1, hS.2⟩) ⟨k_t6, k_t7⟩ ?_
  refine wpT_e rfl ?_
  refine wpL_putrow (cells := p3 x13 y14 z15) (by rfl) rfl rfl rfl k_t5 (by rw [p3_size]; kernel_rfl) (by first | rw [p3_size, p3_size] | rw [p3_size] | kernel_rfl) (by exact p3_one) ?_
  (try simp only [Act.put, mA, mB, mC])
  intro W9 hO h_
  replace k_t5 : Blk W9 p5_3 (p3 x13 y14 z15) 41 := h_
  clear h_
  replace k_t2 := blk_off k_t2 hO (nm1 nq_t2_t5)
  replace k_t4 := blk_off k_t4 hO (nm1 nq_t4_t5)
  replace k_t6 := blk_off k_t6 hO (nm1 nq_t5_t6.symm)
  replace k_t7 := blk_off k_t7 hO (nm1 nq_t5_t7.symm)
  replace off0 := off0.step hO (i1 fb_t5)
  replace sz := off0.size
  clear hO
  refine wpT_n (fun W => (Blk W p6_4 (p4 x7 y8 z9 t10) 28) ∧ (Blk W p7_4 (p3 x13 y14 z15) 41)) (fun W hS => ⟨hS.1, hS.2⟩) ⟨k_t6, k_t7⟩ ?_
  refine wpT_z ?_
  go_wp2
  exact bodyPost_ret (res_rows rfl rfl rfl k_t4 k_t5 (by kernel_rfl) (by kernel_rfl) (by kernel_rfl) (by rw [p3_size]; kernel_rfl)) rfl ⟨rfl, off0.ext⟩
theorem lPair_c (hd : kn.d) (hb : kn.b) (hc : kn.c) {N s : Nat} (hN : N < 2 ^ 256) (hs8 : s < 256) : ∃ X Y Z T X' Y' Z', RN X Y Z T (pairP N s) ∧ RD X' Y' Z' (pairP N s) ∧ ∀ w, GE kn w → Calls Tryd.prog 18 #[.agg (arrK .u8 32 (byt N)), .int .u8 (s : Int)] w fun e w' => Ret (.tuple #[.agg (p4 X Y Z T), .agg (p3 X' Y' Z')]) w w' e := by
  unfold pairP
  by_cases hs : s % 2 = 1
  · cases h0 : dOk 0
    · rw [if_neg (by simp)]; exact lPair_B hd hb hc hN hs8 hs h0
    · rw [if_pos ⟨hs, rfl⟩]; exact lPair_A hd hb hc hN hs8 hs h0
  · rw [if_neg fun h => hs h.1]; exact lPair_C hd hb hc hN hs8 hs
end Go.Proofs.YtghajiagbfcmdaaDoor
