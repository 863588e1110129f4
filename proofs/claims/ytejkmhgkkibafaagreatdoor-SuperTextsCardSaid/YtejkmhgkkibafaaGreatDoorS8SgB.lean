/- sign: Sign. Conditions: the cells of the variables hold their numbers. -/
import Derived.Test.YtejkmhgkkibafaaGreatDoorGc
import Derived.Test.YtejkmhgkkibafaaGreatDoorJ8
import Derived.Test.YtejkmhgkkibafaaGreatDoorOz
import Derived.Test.YtejkmhgkkibafaaGreatDoorJ11
import Derived.Test.YtejkmhgkkibafaaGreatDoorS8SgA
set_option linter.unusedSimpArgs false
set_option linter.unusedVariables false
namespace Go.Proofs.YtejkmhgkkibafaaGreatDoor.S8
set_option maxHeartbeats 1000000
set_option maxRecDepth 100000
open Go.RowKit
attribute [local irreducible] wpList wpTr
variable {kn : Kn}
open Sc (LL clampF)
theorem spreadN_c (hd : kn.d) (hb : kn.b) {N D P S : Nat} (hN : N = kN S) (hD : D = kD S) (hP : P = kP S) (w : World) (hG : GA kn w) :
    Calls Tryz.prog 77 #[.agg (arrK .u8 32 (byt S))] w fun e w' => Ret (.agg (s3 N D P)) w w' e := by
  rw [hN, hD, hP]; exact spread_c_ hd hb S w hG
theorem own_form {w : World} {v : Value} {l : List UInt8} (h : Own w v l) (hp : 0 < l.length) : ∃ g c cur, v = .slice (some ⟨g, 0, none⟩) l.length c ∧ Blk w g cur 5 ∧ cur.toList.take l.length = bs8 l := by
  rcases h.2 with ⟨_, h0⟩ | ⟨g, c, cur, hv, _, hh, _, _, _, ht⟩
  · omega
  · exact ⟨g, c, cur, hv, hh, by rwa [Nat.mul_one] at ht⟩
theorem run_s2a {P : Program} {W : World} {o : Oper} {a : Act} {x : Operand} {arr e : TypeId} {n c : Nat} {ad : Addr} (ho : o.op = .sliceToArrayPointer arr x) (hx : a.eval x = .slice (some ad) n c) (hu : P.underlying arr = some (.array n e)) : (execOp a.eval o).run P W = .ok (.value (.pointer (some ad))) W := by
  simp [execOp, ho, hx, Instr.arrayAt, run_underlying hu, Sem.run_bind]
theorem lb_join {A T : Nat} (hA : A < 2 ^ 256) : lb 32 A ++ lb 32 T = lb 64 (A + 2 ^ 256 * T) := by
  rw [lb_64]
  unfold lo hi
  rw [Nat.add_mul_mod_self_left, Nat.mod_eq_of_lt hA, Nat.add_mul_div_left _ _ (by decide), Nat.div_eq_of_lt hA, Nat.zero_add]
theorem own_at {W : World} {v : Value} {l : List UInt8} {g c m n V : Nat} (h : Own W v l) (ez : v = .slice (some ⟨g, 0, none⟩) m c) (hn : l.length = n) (hp : 0 < n) (hl : l = lb n V) : ∀ i x, (arrK .u8 n (byt V)).toList[i]? = some x → W.cell? ⟨g, 0 + i, none⟩ = some x := fun i x hx => by
  obtain ⟨g', c', cur, e', hB, ht⟩ := own_form h (by omega)
  rw [ez] at e'
  injection e' with e1 _ _
  injection e1 with e1
  injection e1 with e1 _ _
  subst e1
  have hi : i < n := by have := (List.getElem?_eq_some_iff.1 hx).1; rwa [Array.length_toList, arrK_size] at this
  rw [blk_cell hB, Nat.zero_add, ← Array.getElem?_toList, ← List.getElem?_take_of_lt (l := cur.toList) (show i < l.length by rw [hn]; exact hi), ht, hl, bs8_lb, ← arrK_list]
  exact hx
theorem sign_c (hd : kn.d) (hb : kn.b) (S : Nat) (v : Value) (L : List UInt8) (hL : L.length ≤ 1099511627776) :
  ∀ w, GA kn w → Sl w v L → Calls Tryz.prog 52 #[.agg (arrK .u8 32 (byt S)), v] w fun e w' => Ret (.agg (arrK .u8 64 (byt (sig S L)))) w w' e := by
 obtain ⟨U1, hU1⟩ := exn (kN S)
 have bU1 : U1 < 2 ^ 256 := by rw [hU1]; exact kN_lt _
 have HU1 := Lib.hid hU1
 clear hU1
 obtain ⟨U2, hU2⟩ := exn (kD S)
 have bU2 : U2 < 2 ^ 256 := by rw [hU2]; exact kD_lt _
 have HU2 := Lib.hid hU2
 clear hU2
 obtain ⟨U3, hU3⟩ := exn (kP S)
 have bU3 : U3 < 2 ^ 256 := by rw [hU3]; exact kP_lt _
 have HU3 := Lib.hid hU3
 clear hU3
 obtain ⟨U4, hU4⟩ := exn (hs ((lb 32 U2) ++ L) % LL)
 have lU4 : U4 < LL := by rw [hU4]; exact mLL _
 have bU4 : U4 < 2 ^ 256 := Nat.lt_trans lU4 LL_256
 have HU4 := Lib.hid hU4
 clear hU4
 obtain ⟨x1, y2, z3, t4, r5, c6⟩ := eBase_c hb
 obtain ⟨x7, y8, z9, t10, r11, c12⟩ := eTimes_c hd r5.rw (N := U4) (Nat.lt_trans lU4 LL_256)
 obtain ⟨U5, hU5⟩ := exn (enc (pm BP U4))
 have bU5 : U5 < 2 ^ 256 := by rw [hU5]; exact enc_lt _
 have HU5 := Lib.hid hU5
 clear hU5
 obtain ⟨U6, hU6⟩ := exn (hs ((lb 32 U5) ++ (lb 32 U3) ++ L) % LL)
 have lU6 : U6 < LL := by rw [hU6]; exact mLL _
 have bU6 : U6 < 2 ^ 256 := Nat.lt_trans lU6 LL_256
 have HU6 := Lib.hid hU6
 clear hU6
 obtain ⟨U7, hU7⟩ := exn (U1 % LL)
 have lU7 : U7 < LL := by rw [hU7]; exact mLL _
 have bU7 : U7 < 2 ^ 256 := Nat.lt_trans lU7 LL_256
 have HU7 := Lib.hid hU7
 clear hU7
 obtain ⟨U8, hU8⟩ := exn (U6 * U7 % LL)
 have lU8 : U8 < LL := by rw [hU8]; exact mLL _
 have bU8 : U8 < 2 ^ 256 := Nat.lt_trans lU8 LL_256
 have HU8 := Lib.hid hU8
 clear hU8
 obtain ⟨U9, hU9⟩ := exn ((U4 + U8) % LL)
 have lU9 : U9 < LL := by rw [hU9]; exact mLL _
 have bU9 : U9 < 2 ^ 256 := Nat.lt_trans lU9 LL_256
 have HU9 := Lib.hid hU9
 clear hU9
 intro w hG hs
 have ow_a := hs
 have off0 : Off [] w w := Off.refl _ _
 go_enter Tryz.func52, Tryz.ntmps52
 go_upto_region 0 with fail
 refine wp_region_lit ?_
 refine Ln ?_ (z := arrK .u8 32 (byt S)) (t := 23)
 intro p2_1 W1 n_t2 hO h_
 replace ow_a := Sl.off ow_a hO f0
 replace off0 := off0.o hO
 have k_t2 := h_
 clear hO h_ n_t2
 refine Ln ?_ (z := arrK .u8 64 (byt 0)) (t := 45)
 intro p4_2 W2 n_t4 hO h_
 have fb_t4 := fbn off0 n_t4
 replace k_t2 := k_t2.o hO
 replace ow_a := Sl.off ow_a hO f0
 replace off0 := off0.o hO
 have k_t4 := h_
 clear hO h_ n_t4
 refine wpL_nil ?_
 go_upto_region 1 with fail
 refine wp_region_lit ?_
 refine L0A ?_ k_t2
 refine Lr ?_ (spreadN_c hd hb HU1.out HU2.out HU3.out W2 (GA_ext hG off0.ext))
 intro W3 hO
 replace k_t2 := k_t2.o hO
 replace k_t4 := k_t4.o hO
 replace ow_a := Sl.off ow_a hO f0
 replace off0 := off0.o hO
 clear hO
 refine LnP ?_ (z := s3 0 0 0) (t := 140) (cells := s3 U1 U2 U3) (hi := by rw [s3_size]; kernel_rfl) (hs := by first | rw [s3_size, s3_size] | rw [s3_size] | kernel_rfl) (h1 := by exact s3_one)
 intro p5_4 W5 n_t5 hO h_
 replace k_t2 := k_t2.o hO
 replace k_t4 := k_t4.o hO
 replace ow_a := Sl.off ow_a hO f0
 replace off0 := off0.o hO
 have k_t5 := h_
 clear hO h_ n_t5
 refine wpL_nil ?_
 go_upto_region 2 with fail
 refine wp_region_lit ?_
 refine Lv ?_
 refine Lw ?_ (v := .slice (some ⟨p5_4, 32, none⟩) 32 32) (hv := by first | rfl | (go_simp; done) | (go_simp; with_reducible rfl))
 refine Lv ?_
 refine LnS ?_ (z := #[.slice (some ⟨p5_4, 32, none⟩) 32 32, v]) (t := 22) (n := 2) (c := 2) (hr := by exact run_bsv [.slice (some ⟨p5_4, 32, none⟩) 32 32, v] rfl rfl (vsc (rfl) (vsc ((sl_cells ow_a).1) vs0)) Tryz.underlying113 (by kernel_rfl) (by kernel_rfl) rfl (by decide) (by decide))
 intro p15_6 W6 n_s15 hO h_
 replace k_t2 := k_t2.o hO
 replace k_t4 := k_t4.o hO
 replace k_t5 := k_t5.o hO
 replace ow_a := Sl.off ow_a hO f0
 replace off0 := off0.o hO
 have k_s15 := h_
 clear hO h_ n_s15
 refine Lr ?_ (number_c (kn := kn) HU4.out [lb 32 U2, L] (some ⟨p15_6, 0, none⟩) 2 (by simp only [List.flatten_cons, List.flatten_nil, List.append_nil, List.nil_append, List.append_assoc, List.cons_append]) (by first | omega | (simp only [List.length_append, List.length_cons, List.length_nil, lb_length]; omega)) (by simp) W6 (pss_blk k_s15 (pvc (sl_part (V := U2) (n := 32) (off := 32) k_t5 s3c1 (by decide) (by decide)) (pvc ow_a pv0))) (GA_ext hG off0.ext))
 intro W7 hO
 replace k_t2 := k_t2.o hO
 replace k_t4 := k_t4.o hO
 replace k_t5 := k_t5.o hO
 replace k_s15 := k_s15.o hO
 replace ow_a := Sl.off ow_a hO f0
 replace off0 := off0.o hO
 clear hO
 refine LnP ?_ (z := c4 0) (t := 153) (cells := c4 U4)
 intro p6_8 W9 n_t6 hO h_
 replace k_t2 := k_t2.o hO
 replace k_t4 := k_t4.o hO
 replace k_t5 := k_t5.o hO
 replace k_s15 := k_s15.o hO
 replace ow_a := Sl.off ow_a hO f0
 replace off0 := off0.o hO
 have k_t6 := h_
 clear hO h_ n_t6
 refine wpL_nil ?_
 go_upto_region 3 with fail
 refine Rx1 5 7 (z := arrK .u8 32 (byt 0)) (t := 23) ?_
 refine Xf ?_ (fun W hW => c6 W (GA_ext (GA_ext hG off0.ext) hW).1)
 refine Xl ?_ k_t6
 refine Xf ?_ (fun W hW => bytesN_c lU4 W (GA_ext (GA_ext hG off0.ext) hW).2.2.1)
 refine Xf ?_ (fun W hW => c12 W (GA_ext (GA_ext hG off0.ext) hW).1)
 refine Xf ?_ (fun W hW => encN_c r11.rw HU5.out W (GA_ext (GA_ext hG off0.ext) hW).1)
 refine XN ?_
 intro p7_10 W10 n_t7 hE h_t7
 have hO := off_ext hE
 have nq_t2_t7 := bn k_t2 n_t7
 have nq_t4_t7 := bn k_t4 n_t7
 have nq_t5_t7 := bn k_t5 n_t7
 have nq_s15_t7 := bn k_s15 n_t7
 have nq_t6_t7 := bn k_t6 n_t7
 have ne_a_t7 := ne_new (Sl.lt ow_a) n_t7
 have fb_t7 := fbn off0 n_t7
 replace k_t2 := k_t2.o hO
 replace k_t4 := k_t4.o hO
 replace k_t5 := k_t5.o hO
 replace k_s15 := k_s15.o hO
 replace k_t6 := k_t6.o hO
 replace ow_a := Sl.off ow_a hO f0
 replace off0 := off0.o hO
 clear hO hE n_t7
 have k_t7 : Blk W10 p7_10 (arrK .u8 32 (byt 0)) 23 := h_t7
 clear h_t7
 refine LpA ?_ k_t7 (k := .u8) (n := 32) (f := byt U5)
 intro W11 hO h_
 replace k_t7 : Blk W11 p7_10 (arrK .u8 32 (byt U5)) 23 := h_
 clear h_
 replace k_t2 := k_t2.p hO nq_t2_t7
 replace k_t4 := k_t4.p hO nq_t4_t7
 replace k_t5 := k_t5.p hO nq_t5_t7
 replace k_s15 := k_s15.p hO nq_s15_t7
 replace k_t6 := k_t6.p hO nq_t6_t7
 replace ow_a := Sl.off ow_a hO (f1 ne_a_t7)
 replace off0 := off0.p hO fb_t7
 clear hO
 refine LN ?_
 go_upto_region 4 with fail
 refine wp_region_trj (.q 0 (.q 1 (.q 2 (.q 3 (.b 4 (.b 5 (.e 6 (.e 7 .z)) 6 (.e 5 (.e 7 .z))) 6 (.e 4 (.e 5 (.e 7 .z)))))))) (fun W => True) (fun a0 a_ wr => ∃ (j_s26 : Nat) (j_t8 : Nat), a_ = putL a0 [(22, .slice (some ⟨p7_10, 0, none⟩) 32 32), (23, .pointer (some ⟨p5_4, 64, none⟩)), (24, .slice (some ⟨p5_4, 64, none⟩) 32 32), (25, v), (26, .slice (some ⟨j_s26, 0, none⟩) 3 3), (27, .agg (c4 U6)), (8, .pointer (some ⟨j_t8, 0, none⟩))] ∧ Off [] w wr ∧ Blk wr p2_1 (arrK .u8 32 (byt S)) 23 ∧ Blk wr p4_2 (arrK .u8 64 (byt 0)) 45 ∧ Blk wr p5_4 (s3 U1 U2 U3) 140 ∧ Blk wr p15_6 #[.slice (some ⟨p5_4, 32, none⟩) 32 32, v] 22 ∧ Blk wr p6_8 (c4 U4) 153 ∧ Blk wr p7_10 (arrK .u8 32 (byt U5)) 23 ∧ Blk wr j_s26 #[.slice (some ⟨p7_10, 0, none⟩) 32 32, .slice (some ⟨p5_4, 64, none⟩) 32 32, v] 22 ∧ Blk wr j_t8 (c4 U6) 153 ∧ Sl wr v L ∧ Fb j_s26 w.heap.size [] ∧ p2_1 ≠ j_s26 ∧ p4_2 ≠ j_s26 ∧ p5_4 ≠ j_s26 ∧ p15_6 ≠ j_s26 ∧ p6_8 ≠ j_s26 ∧ p7_10 ≠ j_s26 ∧ (sb v L) ≠ some j_s26 ∧ Fb j_t8 w.heap.size [] ∧ p2_1 ≠ j_t8 ∧ p4_2 ≠ j_t8 ∧ p5_4 ≠ j_t8 ∧ p15_6 ≠ j_t8 ∧ p6_8 ≠ j_t8 ∧ p7_10 ≠ j_t8 ∧ j_s26 ≠ j_t8 ∧ (sb v L) ≠ some j_t8) (by kernel_rfl) (by kernel_rfl) ?_ ?_
 ·
  have _f := True.intro
  intro W12 hO
  replace k_t2 := k_t2.o hO
  replace k_t4 := k_t4.o hO
  replace k_t5 := k_t5.o hO
  replace k_s15 := k_s15.o hO
  replace k_t6 := k_t6.o hO
  replace k_t7 := k_t7.o hO
  replace ow_a := Sl.off ow_a hO f0
  replace off0 := off0.o hO
  clear hO
  refine ⟨trivial, ?_⟩
  refine wpT_q (v := .slice (some ⟨p7_10, 0, none⟩) 32 32) rfl (by rfl) (fun W hS => by first | rfl | (go_simp; done) | (go_simp; with_reducible rfl)) ?_
  (try simp only [Act.put, mA, mB, mC])
  (refine wpT_q (v := ?_) rfl (by rfl) (fun W hS => ?_) ?_; rotate_left 1; (focus (go_simp; first | done | with_reducible rfl)))
  (try simp only [Act.put, mA, mB, mC])
  refine wpT_q (v := .slice (some ⟨p5_4, 64, none⟩) 32 32) rfl (by rfl) (fun W hS => by first | rfl | (go_simp; done) | (go_simp; with_reducible rfl)) ?_
  (try simp only [Act.put, mA, mB, mC])
  (refine wpT_q (v := ?_) rfl (by rfl) (fun W hS => ?_) ?_; rotate_left 1; (focus (go_simp; first | done | with_reducible rfl)))
  (try simp only [Act.put, mA, mB, mC])
  refine wpT_b rfl rfl ?_ ?_
  ·
   have _f := True.intro
   refine LnS ?_ (z := #[.slice (some ⟨p7_10, 0, none⟩) 32 32, .slice (some ⟨p5_4, 64, none⟩) 32 32, v]) (t := 22) (n := 3) (c := 3) (hr := by exact run_bsv [.slice (some ⟨p7_10, 0, none⟩) 32 32, .slice (some ⟨p5_4, 64, none⟩) 32 32, v] rfl rfl (vsc (rfl) (vsc (rfl) (vsc ((sl_cells ow_a).1) vs0))) Tryz.underlying113 (by kernel_rfl) (by kernel_rfl) rfl (by decide) (by decide))
   intro p26_13 W13 n_s26 hO h_
   have nq_t2_s26 := bn k_t2 n_s26
   have nq_t4_s26 := bn k_t4 n_s26
   have nq_t5_s26 := bn k_t5 n_s26
   have nq_s15_s26 := bn k_s15 n_s26
   have nq_t6_s26 := bn k_t6 n_s26
   have nq_t7_s26 := bn k_t7 n_s26
   have ne_a_s26 := ne_new (Sl.lt ow_a) n_s26
   have fb_s26 := fbn off0 n_s26
   replace k_t2 := k_t2.o hO
   replace k_t4 := k_t4.o hO
   replace k_t5 := k_t5.o hO
   replace k_s15 := k_s15.o hO
   replace k_t6 := k_t6.o hO
   replace k_t7 := k_t7.o hO
   replace ow_a := Sl.off ow_a hO f0
   replace off0 := off0.o hO
   have k_s26 := h_
   clear hO h_ n_s26
   refine wpT_n (fun W => True) (fun W hS => trivial) trivial ?_
   refine wpT_b rfl rfl ?_ ?_
   ·
    have _f := True.intro
    refine Lr ?_ (number_c (kn := kn) HU6.out [lb 32 U5, lb 32 U3, L] (some ⟨p26_13, 0, none⟩) 3 (by simp only [List.flatten_cons, List.flatten_nil, List.append_nil, List.nil_append, List.append_assoc, List.cons_append]) (by first | omega | (simp only [List.length_append, List.length_cons, List.length_nil, lb_length]; omega)) (by simp) W13 (pss_blk k_s26 (pvc (sl_part (V := U5) (n := 32) (off := 0) k_t7 ap0 (by decide) (by decide)) (pvc (sl_part (V := U3) (n := 32) (off := 64) k_t5 s3c2 (by decide) (by decide)) (pvc ow_a pv0)))) (GA_ext hG off0.ext))
    intro W14 hO
    replace k_t2 := k_t2.o hO
    replace k_t4 := k_t4.o hO
    replace k_t5 := k_t5.o hO
    replace k_s15 := k_s15.o hO
    replace k_t6 := k_t6.o hO
    replace k_t7 := k_t7.o hO
    replace k_s26 := k_s26.o hO
    replace ow_a := Sl.off ow_a hO f0
    replace off0 := off0.o hO
    clear hO
    refine wpT_n (fun W => True) (fun W hS => trivial) trivial ?_
    refine wpT_e rfl ?_
    refine Ln ?_ (z := c4 0) (t := 153)
    intro p8_15 W15 n_t8 hO h_
    have nq_t2_t8 := bn k_t2 n_t8
    have nq_t4_t8 := bn k_t4 n_t8
    have nq_t5_t8 := bn k_t5 n_t8
    have nq_s15_t8 := bn k_s15 n_t8
    have nq_t6_t8 := bn k_t6 n_t8
    have nq_t7_t8 := bn k_t7 n_t8
    have nq_s26_t8 := bn k_s26 n_t8
    have ne_a_t8 := ne_new (Sl.lt ow_a) n_t8
    have fb_t8 := fbn off0 n_t8
    replace k_t2 := k_t2.o hO
    replace k_t4 := k_t4.o hO
    replace k_t5 := k_t5.o hO
    replace k_s15 := k_s15.o hO
    replace k_t6 := k_t6.o hO
    replace k_t7 := k_t7.o hO
    replace k_s26 := k_s26.o hO
    replace ow_a := Sl.off ow_a hO f0
    replace off0 := off0.o hO
    have k_t8 := h_
    clear hO h_ n_t8
    refine wpT_n (fun W => True) (fun W hS => trivial) trivial ?_
    refine wpT_e rfl ?_
    refine Lp ?_ k_t8 (cells := c4 U6)
    intro W16 hO h_
    replace k_t8 : Blk W16 p8_15 (c4 U6) 153 := h_
    clear h_
    replace k_t2 := k_t2.p hO nq_t2_t8
    replace k_t4 := k_t4.p hO nq_t4_t8
    replace k_t5 := k_t5.p hO nq_t5_t8
    replace k_s15 := k_s15.p hO nq_s15_t8
    replace k_t6 := k_t6.p hO nq_t6_t8
    replace k_t7 := k_t7.p hO nq_t7_t8
    replace k_s26 := k_s26.p hO nq_s26_t8
    replace ow_a := Sl.off ow_a hO (f1 ne_a_t8)
    replace off0 := off0.p hO fb_t8
    clear hO
    refine wpT_n (fun W => True) (fun W hS => trivial) trivial ?_
    refine wpT_z ?_
    exact ⟨p26_13, p8_15, (by (simp only [putL, List.foldl_cons, List.foldl_nil, Act.put, mA, mB, mC] <;> rfl)), off0, k_t2, k_t4, k_t5, k_s15, k_t6, k_t7, k_s26, k_t8, ow_a, fb_s26, nq_t2_s26, nq_t4_s26, nq_t5_s26, nq_s15_s26, nq_t6_s26, nq_t7_s26, ne_a_s26, fb_t8, nq_t2_t8, nq_t4_t8, nq_t5_t8, nq_s15_t8, nq_t6_t8, nq_t7_t8, nq_s26_t8, ne_a_t8⟩
   ·
    have _f := True.intro
    refine Ln ?_ (z := c4 0) (t := 153)
    intro p8_14 W14 n_t8 hO h_
    have nq_t2_t8 := bn k_t2 n_t8
    have nq_t4_t8 := bn k_t4 n_t8
    have nq_t5_t8 := bn k_t5 n_t8
    have nq_s15_t8 := bn k_s15 n_t8
    have nq_t6_t8 := bn k_t6 n_t8
    have nq_t7_t8 := bn k_t7 n_t8
    have nq_s26_t8 := bn k_s26 n_t8
    have ne_a_t8 := ne_new (Sl.lt ow_a) n_t8
    have fb_t8 := fbn off0 n_t8
    replace k_t2 := k_t2.o hO
    replace k_t4 := k_t4.o hO
    replace k_t5 := k_t5.o hO
    replace k_s15 := k_s15.o hO
    replace k_t6 := k_t6.o hO
    replace k_t7 := k_t7.o hO
    replace k_s26 := k_s26.o hO
    replace ow_a := Sl.off ow_a hO f0
    replace off0 := off0.o hO
    have k_t8 := h_
    clear hO h_ n_t8
    refine wpT_n (fun W => True) (fun W hS => trivial) trivial ?_
    refine wpT_e rfl ?_
    refine Lr ?_ (number_c (kn := kn) HU6.out [lb 32 U5, lb 32 U3, L] (some ⟨p26_13, 0, none⟩) 3 (by simp only [List.flatten_cons, List.flatten_nil, List.append_nil, List.nil_append, List.append_assoc, List.cons_append]) (by first | omega | (simp only [List.length_append, List.length_cons, List.length_nil, lb_length]; omega)) (by simp) W14 (pss_blk k_s26 (pvc (sl_part (V := U5) (n := 32) (off := 0) k_t7 ap0 (by decide) (by decide)) (pvc (sl_part (V := U3) (n := 32) (off := 64) k_t5 s3c2 (by decide) (by decide)) (pvc ow_a pv0)))) (GA_ext hG off0.ext))
    intro W15 hO
    replace k_t2 := k_t2.o hO
    replace k_t4 := k_t4.o hO
    replace k_t5 := k_t5.o hO
    replace k_s15 := k_s15.o hO
    replace k_t6 := k_t6.o hO
    replace k_t7 := k_t7.o hO
    replace k_s26 := k_s26.o hO
    replace k_t8 := k_t8.o hO
    replace ow_a := Sl.off ow_a hO f0
    replace off0 := off0.o hO
    clear hO
    refine wpT_n (fun W => True) (fun W hS => trivial) trivial ?_
    refine wpT_e rfl ?_
    refine Lp ?_ k_t8 (cells := c4 U6)
    intro W16 hO h_
    replace k_t8 : Blk W16 p8_14 (c4 U6) 153 := h_
    clear h_
    replace k_t2 := k_t2.p hO nq_t2_t8
    replace k_t4 := k_t4.p hO nq_t4_t8
    replace k_t5 := k_t5.p hO nq_t5_t8
    replace k_s15 := k_s15.p hO nq_s15_t8
    replace k_t6 := k_t6.p hO nq_t6_t8
    replace k_t7 := k_t7.p hO nq_t7_t8
    replace k_s26 := k_s26.p hO nq_s26_t8
    replace ow_a := Sl.off ow_a hO (f1 ne_a_t8)
    replace off0 := off0.p hO fb_t8
    clear hO
    refine wpT_n (fun W => True) (fun W hS => trivial) trivial ?_
    refine wpT_z ?_
    exact ⟨p26_13, p8_14, (by (simp only [putL, List.foldl_cons, List.foldl_nil, Act.put, mA, mB, mC] <;> rfl)), off0, k_t2, k_t4, k_t5, k_s15, k_t6, k_t7, k_s26, k_t8, ow_a, fb_s26, nq_t2_s26, nq_t4_s26, nq_t5_s26, nq_s15_s26, nq_t6_s26, nq_t7_s26, ne_a_s26, fb_t8, nq_t2_t8, nq_t4_t8, nq_t5_t8, nq_s15_t8, nq_t6_t8, nq_t7_t8, nq_s26_t8, ne_a_t8⟩
  ·
   have _f := True.intro
   refine Ln ?_ (z := c4 0) (t := 153)
   intro p8_13 W13 n_t8 hO h_
   have nq_t2_t8 := bn k_t2 n_t8
   have nq_t4_t8 := bn k_t4 n_t8
   have nq_t5_t8 := bn k_t5 n_t8
   have nq_s15_t8 := bn k_s15 n_t8
   have nq_t6_t8 := bn k_t6 n_t8
   have nq_t7_t8 := bn k_t7 n_t8
   have ne_a_t8 := ne_new (Sl.lt ow_a) n_t8
   have fb_t8 := fbn off0 n_t8
   replace k_t2 := k_t2.o hO
   replace k_t4 := k_t4.o hO
   replace k_t5 := k_t5.o hO
   replace k_s15 := k_s15.o hO
   replace k_t6 := k_t6.o hO
   replace k_t7 := k_t7.o hO
   replace ow_a := Sl.off ow_a hO f0
   replace off0 := off0.o hO
   have k_t8 := h_
   clear hO h_ n_t8
   refine wpT_n (fun W => True) (fun W hS => trivial) trivial ?_
   refine wpT_e rfl ?_
   refine LnS ?_ (z := #[.slice (some ⟨p7_10, 0, none⟩) 32 32, .slice (some ⟨p5_4, 64, none⟩) 32 32, v]) (t := 22) (n := 3) (c := 3) (hr := by exact run_bsv [.slice (some ⟨p7_10, 0, none⟩) 32 32, .slice (some ⟨p5_4, 64, none⟩) 32 32, v] rfl rfl (vsc (rfl) (vsc (rfl) (vsc ((sl_cells ow_a).1) vs0))) Tryz.underlying113 (by kernel_rfl) (by kernel_rfl) rfl (by decide) (by decide))
   intro p26_14 W14 n_s26 hO h_
   have nq_t2_s26 := bn k_t2 n_s26
   have nq_t4_s26 := bn k_t4 n_s26
   have nq_t5_s26 := bn k_t5 n_s26
   have nq_s15_s26 := bn k_s15 n_s26
   have nq_t6_s26 := bn k_t6 n_s26
   have nq_t7_s26 := bn k_t7 n_s26
   have nq_t8_s26 := bn k_t8 n_s26
   have ne_a_s26 := ne_new (Sl.lt ow_a) n_s26
   have fb_s26 := fbn off0 n_s26
   replace k_t2 := k_t2.o hO
   replace k_t4 := k_t4.o hO
   replace k_t5 := k_t5.o hO
   replace k_s15 := k_s15.o hO
   replace k_t6 := k_t6.o hO
   replace k_t7 := k_t7.o hO
   replace k_t8 := k_t8.o hO
   replace ow_a := Sl.off ow_a hO f0
   replace off0 := off0.o hO
   have k_s26 := h_
   clear hO h_ n_s26
   refine wpT_n (fun W => True) (fun W hS => trivial) trivial ?_
   refine wpT_e rfl ?_
   refine Lr ?_ (number_c (kn := kn) HU6.out [lb 32 U5, lb 32 U3, L] (some ⟨p26_14, 0, none⟩) 3 (by simp only [List.flatten_cons, List.flatten_nil, List.append_nil, List.nil_append, List.append_assoc, List.cons_append]) (by first | omega | (simp only [List.length_append, List.length_cons, List.length_nil, lb_length]; omega)) (by simp) W14 (pss_blk k_s26 (pvc (sl_part (V := U5) (n := 32) (off := 0) k_t7 ap0 (by decide) (by decide)) (pvc (sl_part (V := U3) (n := 32) (off := 64) k_t5 s3c2 (by decide) (by decide)) (pvc ow_a pv0)))) (GA_ext hG off0.ext))
   intro W15 hO
   replace k_t2 := k_t2.o hO
   replace k_t4 := k_t4.o hO
   replace k_t5 := k_t5.o hO
   replace k_s15 := k_s15.o hO
   replace k_t6 := k_t6.o hO
   replace k_t7 := k_t7.o hO
   replace k_t8 := k_t8.o hO
   replace k_s26 := k_s26.o hO
   replace ow_a := Sl.off ow_a hO f0
   replace off0 := off0.o hO
   clear hO
   refine wpT_n (fun W => True) (fun W hS => trivial) trivial ?_
   refine wpT_e rfl ?_
   refine Lp ?_ k_t8 (cells := c4 U6)
   intro W16 hO h_
   replace k_t8 : Blk W16 p8_13 (c4 U6) 153 := h_
   clear h_
   replace k_t2 := k_t2.p hO nq_t2_t8
   replace k_t4 := k_t4.p hO nq_t4_t8
   replace k_t5 := k_t5.p hO nq_t5_t8
   replace k_s15 := k_s15.p hO nq_s15_t8
   replace k_t6 := k_t6.p hO nq_t6_t8
   replace k_t7 := k_t7.p hO nq_t7_t8
   replace k_s26 := k_s26.p hO nq_t8_s26.symm
   replace ow_a := Sl.off ow_a hO (f1 ne_a_t8)
   replace off0 := off0.p hO fb_t8
   clear hO
   refine wpT_n (fun W => True) (fun W hS => trivial) trivial ?_
   refine wpT_z ?_
   exact ⟨p26_14, p8_13, (by (simp only [putL, List.foldl_cons, List.foldl_nil, Act.put, mA, mB, mC] <;> rfl)), off0, k_t2, k_t4, k_t5, k_s15, k_t6, k_t7, k_s26, k_t8, ow_a, fb_s26, nq_t2_s26, nq_t4_s26, nq_t5_s26, nq_s15_s26, nq_t6_s26, nq_t7_s26, ne_a_s26, fb_t8, nq_t2_t8, nq_t4_t8, nq_t5_t8, nq_s15_t8, nq_t6_t8, nq_t7_t8, nq_t8_s26.symm, ne_a_t8⟩
 rintro _ W17 ⟨j_s26, j_t8, rfl, off0, k_t2, k_t4, k_t5, k_s15, k_t6, k_t7, k_s26, k_t8, ow_a, fb_s26, nq_t2_s26, nq_t4_s26, nq_t5_s26, nq_s15_s26, nq_t6_s26, nq_t7_s26, ne_a_s26, fb_t8, nq_t2_t8, nq_t4_t8, nq_t5_t8, nq_s15_t8, nq_t6_t8, nq_t7_t8, nq_s26_t8, ne_a_t8⟩
 simp only [putL, List.foldl_cons, List.foldl_nil]
 (try simp only [Act.put, mA, mB, mC])
 go_upto_region 5 with fail
 refine Rx1 8 9 (z := arrK .u8 32 (byt 0)) (t := 23) ?_
 refine Xl ?_ k_t6
 refine Xl ?_ k_t8
 refine Xv ?_
 refine Xw ?_ (v := .slice (some ⟨p5_4, 0, none⟩) 32 32)
 refine Xf ?_ (fun W hW => ofN_c HU7.out (n := 32) (off := 0) (blk_step k_t5 hW) s3c0 (by decide) bU1 (GA_ext (GA_ext hG off0.ext) hW).2.2.1)
 refine Xf ?_ (fun W hW => mulN_c HU8.out (Nat.lt_trans lU6 LL_256) (Nat.lt_trans lU7 LL_256) W (GA_ext (GA_ext hG off0.ext) hW).2.2.1)
 refine Xf ?_ (fun W hW => addN_c HU9.out (Nat.lt_trans lU4 LL_256) (Nat.lt_trans lU8 LL_256) W (GA_ext (GA_ext hG off0.ext) hW).2.2.1)
 refine Xf ?_ (fun W hW => bytesN_c lU9 W (GA_ext (GA_ext hG off0.ext) hW).2.2.1)
 refine XN ?_
 intro p9_18 W18 n_t9 hE h_t9
 have hO := off_ext hE
 have nq_t4_t9 := bn k_t4 n_t9
 have nq_t7_t9 := bn k_t7 n_t9
 have fb_t9 := fbn off0 n_t9
 replace k_t4 := k_t4.o hO
 replace k_t7 := k_t7.o hO
 replace off0 := off0.o hO
 clear hO hE n_t9
 have k_t9 : Blk W18 p9_18 (arrK .u8 32 (byt 0)) 23 := h_t9
 clear h_t9
 refine LpA ?_ k_t9 (k := .u8) (n := 32) (f := byt U9)
 intro W19 hO h_
 replace k_t9 : Blk W19 p9_18 (arrK .u8 32 (byt U9)) 23 := h_
 clear h_
 replace k_t4 := k_t4.p hO nq_t4_t9
 replace k_t7 := k_t7.p hO nq_t7_t9
 replace off0 := off0.p hO fb_t9
 clear hO
 refine LN ?_
 go_upto_region 6 with fail
 refine wp_region_tr (.q 1 (.q 3 (.e 0 (.e 2 (.e 4 (.q 5 (.q 6 (.e 7 .z)))))))) (fun W => True) (by kernel_rfl) (by kernel_rfl) ?_
 intro W20 hO
 replace k_t4 := k_t4.o hO
 replace k_t7 := k_t7.o hO
 replace k_t9 := k_t9.o hO
 replace off0 := off0.o hO
 clear hO
 refine ⟨trivial, ?_⟩
 refine wpT_q (v := .slice (some ⟨p7_10, 0, none⟩) 32 32) rfl (by rfl) (fun W hS => by first | rfl | (go_simp; done) | (go_simp; with_reducible rfl)) ?_
 (try simp only [Act.put, mA, mB, mC])
 refine wpT_q (v := .slice (some ⟨p9_18, 0, none⟩) 32 32) rfl (by rfl) (fun W hS => by first | rfl | (go_simp; done) | (go_simp; with_reducible rfl)) ?_
 (try simp only [Act.put, mA, mB, mC])
 refine wpT_e rfl ?_
 refine LnS ?_ (z := #[]) (t := 5) (n := 0) (c := 0)
 intro p36_21 W21 n_s36 hO h_
 have ne_s36_t4 : Value.ownBlock (.slice (some ⟨p36_21, 0, none⟩) 0 0) ≠ some p4_2 := obn k_t4 n_s36
 have ne_s36_t9 : Value.ownBlock (.slice (some ⟨p36_21, 0, none⟩) 0 0) ≠ some p9_18 := obn k_t9 n_s36
 have fr_s36 : Fr (Value.ownBlock (.slice (some ⟨p36_21, 0, none⟩) 0 0)) w.heap.size [] := frn off0 n_s36
 replace k_t4 := k_t4.o hO
 replace k_t7 := k_t7.o hO
 replace k_t9 := k_t9.o hO
 replace off0 := off0.o hO
 have ow_s36 : Own W21 (.slice (some ⟨p36_21, 0, none⟩) 0 0) [] := own_blk h_ (by rfl) (by show 0 ≤ maxLen; decide)
 clear hO h_ n_s36
 refine wpT_n (fun W => True) (fun W hS => trivial) trivial ?_
 refine wpT_e rfl ?_
 refine wpL_append (xs := []) (ys := (lb 32 U5)) (by rfl) rfl rfl rfl ow_s36 (sl_part (V := U5) (n := 32) (off := 0) k_t7 ap0 (by decide) (by decide)) (by first | omega | (simp only [List.length_append, List.length_cons, List.length_nil, lb_length]; omega)) ?_
 (try simp only [Act.put, mA, mB, mC])
 intro v38_22 W22 ow_a38 hO at_a38 nil_a38
 clear nil_a38
 have ne_a38_t4 := own_ne at_a38 ne_s36_t4 (blk_lt k_t4)
 have fr_a38 := own_fr at_a38 fr_s36 off0.size
 replace k_t4 := blk_off k_t4 hO (nmo ne_s36_t4)
 replace k_t9 := blk_off k_t9 hO (nmo ne_s36_t9)
 replace off0 := off0.step hO (io fr_s36)
 clear hO at_a38
 refine wpT_n (fun W => True) (fun W hS => trivial) trivial ?_
 refine wpT_e rfl ?_
 refine wpL_append (xs := ([] ++ (lb 32 U5))) (ys := (lb 32 U9)) (by rfl) rfl rfl rfl ow_a38 (sl_part (V := U9) (n := 32) (off := 0) k_t9 ap0 (by decide) (by decide)) (by first | omega | (simp only [List.length_append, List.length_cons, List.length_nil, lb_length]; omega)) ?_
 (try simp only [Act.put, mA, mB, mC])
 intro v40_23 W23 ow_a40 hO at_a40 nil_a40
 clear nil_a40
 have ne_a40_t4 := own_ne at_a40 ne_a38_t4 (blk_lt k_t4)
 replace k_t4 := blk_off k_t4 hO (nmo ne_a38_t4)
 replace off0 := off0.step hO (io fr_a38)
 clear hO at_a40
 refine wpT_n (fun W => (Own W v40_23 (([] ++ (lb 32 U5)) ++ (lb 32 U9)))) (fun W hS => trivial) ow_a40 ?_
 have ln_ : (([] ++ (lb 32 U5)) ++ (lb 32 U9)).length = 64 := by simp only [List.length_append, lb_length, List.length_nil]
 obtain ⟨gz, cz, curz, ez, -, -⟩ := own_form ow_a40 (by rw [ln_]; decide)
 rw [ln_] at ez
 refine wpT_q (v := .pointer (some ⟨gz, 0, none⟩)) rfl (by rfl) (fun W hS => by exact (run_s2a (n := 64) rfl (by show v40_23 = _; exact ez) Tryz.underlying45)) ?_
 (try simp only [Act.put, mA, mB, mC])
 refine wpT_q (v := .agg (arrK .u8 64 (byt (U5 + 2 ^ 256 * U9)))) rfl (by rfl) (fun W hS => by exact (run_atrow (vs := (arrK .u8 64 (byt (U5 + 2 ^ 256 * U9))).toList) rfl rfl (own_at (hS) ez ln_ (by decide) (by rw [List.nil_append]; exact lb_join bU5)) (by kernel_rfl) (by rw [Array.length_toList, arrK_size]; kernel_rfl))) ?_
 (try simp only [Act.put, mA, mB, mC])
 refine wpT_e rfl ?_
 refine LpA ?_ k_t4 (k := .u8) (n := 64) (f := byt (U5 + 2 ^ 256 * U9))
 intro W24 hO h_
 replace k_t4 : Blk W24 p4_2 (arrK .u8 64 (byt (U5 + 2 ^ 256 * U9))) 45 := h_
 clear h_
 replace ow_a40 := Own.off ow_a40 hO (f1 ne_a40_t4)
 replace off0 := off0.p hO fb_t4
 clear hO
 refine wpT_n (fun W => (Own W v40_23 (([] ++ (lb 32 U5)) ++ (lb 32 U9)))) (fun W hS => hS) ow_a40 ?_
 refine wpT_z ?_
 go_wp2
 rw [show arrK .u8 64 (byt (U5 + 2 ^ 256 * U9)) = arrK .u8 64 (byt (sig S L)) by rw [HU9.out, HU8.out, HU7.out, HU6.out, HU5.out, HU4.out, HU3.out, HU2.out, HU1.out]; rfl] at k_t4
 exact bodyPost_ret (res_row rfl rfl k_t4 (by kernel_rfl) (by rw [arrK_size]; kernel_rfl)) rfl ⟨rfl, off0.ext⟩
end Go.Proofs.YtejkmhgkkibafaaGreatDoor.S8
