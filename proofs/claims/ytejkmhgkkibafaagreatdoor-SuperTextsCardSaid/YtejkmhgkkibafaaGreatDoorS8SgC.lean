/- sign: Verify. Conditions: the cells of the variables hold their numbers. -/
import Derived.Test.YtejkmhgkkibafaaGreatDoorGc
import Derived.Test.YtejkmhgkkibafaaGreatDoorJ8
import Derived.Test.YtejkmhgkkibafaaGreatDoorOz
import Derived.Test.YtejkmhgkkibafaaGreatDoorJ11
import Derived.Test.YtejkmhgkkibafaaGreatDoorS8SgB
import Derived.Test.YtejkmhgkkibafaaGreatDoorS8EdE
import Derived.Test.YtejkmhgkkibafaaGreatDoorS8EdG
set_option linter.unusedSimpArgs false
set_option linter.unusedVariables false
namespace Go.Proofs.YtejkmhgkkibafaaGreatDoor.S8
set_option maxHeartbeats 1000000
set_option maxRecDepth 100000
open Go.RowKit
attribute [local irreducible] wpList wpTr
variable {kn : Kn}
open Sc (LL clampF)
theorem canon1_c {V : Nat} (hV : V < LL) (w : World) (hG : Sc.GL w) : Calls Tryz.prog 105 #[.agg (arrK .u8 32 (byt V))] w fun e w' => Ret (.tuple #[L4 V, .bool true]) w w' e := by
  have h := Sc.canon_c (byt V) (byt_ok V) w hG
  rw [bval_byt, show 8 * 32 = 256 from rfl, Nat.mod_eq_of_lt (Nat.lt_trans hV LL_256), Sc.canonV, if_pos hV] at h
  exact h
theorem canon0_c {V : Nat} (hV : LL ≤ V) (h2 : V < 2 ^ 256) (w : World) (hG : Sc.GL w) : Calls Tryz.prog 105 #[.agg (arrK .u8 32 (byt V))] w fun e w' => Ret (.tuple #[L4 0, .bool false]) w w' e := by
  have h := Sc.canon_c (byt V) (byt_ok V) w hG
  rw [bval_byt, show 8 * 32 = 256 from rfl, Nat.mod_eq_of_lt h2, Sc.canonV, if_neg (Nat.not_lt.2 hV)] at h
  exact h

theorem verify_a (hd : kn.d) (hb : kn.b) (hc : kn.c) {V G : Nat} (hV : V < 2 ^ 256) (hG2 : G < 2 ^ (256 + 256)) (v : Value) (L : List UInt8) (hL : L.length ≤ 1099511627776) (h1 : LL ≤ hi G) :
  ∀ w, GA kn w → Sl w v L → Calls Tryz.prog 61 #[.agg (arrK .u8 32 (byt V)), v, .agg (arrK .u8 64 (byt G))] w fun e w' => Ret (.int .i64 16) w w' e := by
 intro w hG hs
 have off0 : Off [] w w := Off.refl _ _
 go_enter Tryz.func61, Tryz.ntmps61
 go_upto_region 0 with fail
 refine wp_region_lit ?_
 refine Ln ?_ (z := arrK .u8 32 (byt V)) (t := 23)
 intro p3_1 W1 n_t3 hO h_
 replace off0 := off0.o hO
 clear hO h_ n_t3
 refine Ln ?_ (z := arrK .u8 64 (byt G)) (t := 45)
 intro p5_2 W2 n_t5 hO h_
 replace off0 := off0.o hO
 have k_t5 := h_
 clear hO h_ n_t5
 refine Lw ?_ (v := .int .i64 0)
 refine wpL_nil ?_
 go_upto_region 1 with fail
 refine wp_region_lit ?_
 refine Lw ?_ (v := .slice (some ⟨p5_2, 32, none⟩) 32 32) (hv := by first | rfl | (go_simp; done) | (go_simp; with_reducible rfl))
 refine Lw ?_ (v := .pointer (some ⟨p5_2, 32, none⟩)) (hv := by first | rfl | (go_simp; done) | (go_simp; with_reducible rfl))
 refine wpL_gets (vs := (arrK .u8 32 (byt (hi G))).toList) (by rfl) rfl rfl k_t5 (subL h64h) (by kernel_rfl) (by kernel_rfl) ?_
 (try simp only [Act.put, mA, mB, mC])
 refine Lr ?_ (canon0_c h1 (hi_lt hG2) W2 (GA_ext hG off0.ext).2.2.1)
 intro W3 hO
 replace off0 := off0.o hO
 clear hO
 refine Lv ?_
 refine Lv ?_
 refine Lw ?_ (v := .bool false)
 refine LnP ?_ (z := c4 0) (t := 153) (cells := c4 0)
 intro p7_4 W5 n_t7 hO h_
 replace off0 := off0.o hO
 clear hO h_ n_t7
 refine Lw ?_ (v := .bool false)
 refine wpL_nil ?_
 go_wp2
 exact bodyPost_ret (v := .int .i64 16) (by simp only [results, Tryz.results61]; go_simp) rfl ⟨rfl, off0.ext⟩
theorem verify_b (hd : kn.d) (hb : kn.b) (hc : kn.c) {V G : Nat} (hV : V < 2 ^ 256) (hG2 : G < 2 ^ (256 + 256)) (v : Value) (L : List UInt8) (hL : L.length ≤ 1099511627776) (h1 : hi G < LL) (h2 : dOk V = false) :
  ∀ w, GA kn w → Sl w v L → Calls Tryz.prog 61 #[.agg (arrK .u8 32 (byt V)), v, .agg (arrK .u8 64 (byt G))] w fun e w' => Ret (.int .i64 15) w w' e := by
 have dc := eDec_0 (kn := kn) hc (V := V) hV h2
 intro w hG hs
 have off0 : Off [] w w := Off.refl _ _
 go_enter Tryz.func61, Tryz.ntmps61
 go_upto_region 0 with fail
 refine wp_region_lit ?_
 refine Ln ?_ (z := arrK .u8 32 (byt V)) (t := 23)
 intro p3_1 W1 n_t3 hO h_
 replace off0 := off0.o hO
 have k_t3 := h_
 clear hO h_ n_t3
 refine Ln ?_ (z := arrK .u8 64 (byt G)) (t := 45)
 intro p5_2 W2 n_t5 hO h_
 replace k_t3 := k_t3.o hO
 replace off0 := off0.o hO
 have k_t5 := h_
 clear hO h_ n_t5
 refine Lw ?_ (v := .int .i64 0)
 refine wpL_nil ?_
 go_upto_region 1 with fail
 refine wp_region_lit ?_
 refine Lw ?_ (v := .slice (some ⟨p5_2, 32, none⟩) 32 32) (hv := by first | rfl | (go_simp; done) | (go_simp; with_reducible rfl))
 refine Lw ?_ (v := .pointer (some ⟨p5_2, 32, none⟩)) (hv := by first | rfl | (go_simp; done) | (go_simp; with_reducible rfl))
 refine wpL_gets (vs := (arrK .u8 32 (byt (hi G))).toList) (by rfl) rfl rfl k_t5 (subL h64h) (by kernel_rfl) (by kernel_rfl) ?_
 (try simp only [Act.put, mA, mB, mC])
 refine Lr ?_ (canon1_c h1 W2 (GA_ext hG off0.ext).2.2.1)
 intro W3 hO
 replace k_t3 := k_t3.o hO
 replace off0 := off0.o hO
 clear hO
 refine Lv ?_
 refine Lv ?_
 refine Lw ?_ (v := .bool true)
 refine LnP ?_ (z := c4 0) (t := 153) (cells := c4 (hi G))
 intro p7_4 W5 n_t7 hO h_
 replace k_t3 := k_t3.o hO
 replace off0 := off0.o hO
 clear hO h_ n_t7
 refine Lw ?_ (v := .bool true)
 refine wpL_nil ?_
 go_upto_region 4 with fail
 refine wp_region_lit ?_
 refine L0A ?_ k_t3
 refine Lr ?_ (dc W5 (GA_ext hG off0.ext).1)
 intro W6 hO
 replace off0 := off0.o hO
 clear hO
 refine Lv ?_
 refine Lv ?_
 refine Lw ?_ (v := .int .i64 15)
 refine LnP ?_ (z := p4 0 0 0 0) (t := 157) (cells := p4 0 0 0 0)
 intro p9_7 W8 n_t9 hO h_
 replace off0 := off0.o hO
 clear hO h_ n_t9
 refine Lw ?_ (v := .int .i64 15)
 refine wpL_nil ?_
 go_wp2
 exact bodyPost_ret (v := .int .i64 15) (by simp only [results, Tryz.results61]; go_simp) rfl ⟨rfl, off0.ext⟩
theorem verify_d (hd : kn.d) (hb : kn.b) (hc : kn.c) {V G : Nat} (hV : V < 2 ^ 256) (hG2 : G < 2 ^ (256 + 256)) (v : Value) (L : List UInt8) (hL : L.length ≤ 1099511627776) (h1 : hi G < LL) (h2 : dOk V = true) :
  ∀ w, GA kn w → Sl w v L → Calls Tryz.prog 61 #[.agg (arrK .u8 32 (byt V)), v, .agg (arrK .u8 64 (byt G))] w fun e w' => Ret (.int .i64 (vfy V L G : Int)) w w' e := by
 obtain ⟨dx, dt, dr, dc⟩ := eDec_1 hc (V := V) hV h2
 obtain ⟨y0, hy0⟩ := exn (V % 2 ^ 255)
 rw [← hy0] at dr dc
 have Hy0 := Lib.hid hy0
 clear hy0
 obtain ⟨U1, hU1⟩ := exn (hs ((lb 32 (lo G)) ++ (lb 32 V) ++ L) % LL)
 have lU1 : U1 < LL := by rw [hU1]; exact mLL _
 have bU1 : U1 < 2 ^ 256 := Nat.lt_trans lU1 LL_256
 have HU1 := Lib.hid hU1
 clear hU1
 obtain ⟨x1, y2, z3, t4, r5, c6⟩ := eBase_c hb
 obtain ⟨x7, y8, z9, t10, r11, c12⟩ := eTimes_c hd r5.rw (N := (hi G)) (Nat.lt_trans h1 LL_256)
 obtain ⟨x13, y14, z15, t16, r17, c18⟩ := eNeg_c (kn := kn) dr.rw
 obtain ⟨x19, y20, z21, t22, r23, c24⟩ := eTimes_c hd r17.rw (N := U1) (Nat.lt_trans lU1 LL_256)
 obtain ⟨x25, y26, z27, t28, r29, c30⟩ := eAdd_c hd r11.rw r23.rw
 obtain ⟨U2, hU2⟩ := exn (enc (padd (pm BP (hi G)) (pm (pneg (dPt V)) U1)))
 have bU2 : U2 < 2 ^ 256 := by rw [hU2]; exact enc_lt _
 have HU2 := Lib.hid hU2
 clear hU2
 intro w hG hs
 have ow_a := hs
 have off0 : Off [] w w := Off.refl _ _
 go_enter Tryz.func61, Tryz.ntmps61
 go_upto_region 0 with fail
 refine wp_region_lit ?_
 refine Ln ?_ (z := arrK .u8 32 (byt V)) (t := 23)
 intro p3_1 W1 n_t3 hO h_
 replace ow_a := Sl.off ow_a hO f0
 replace off0 := off0.o hO
 have k_t3 := h_
 clear hO h_ n_t3
 refine Ln ?_ (z := arrK .u8 64 (byt G)) (t := 45)
 intro p5_2 W2 n_t5 hO h_
 replace k_t3 := k_t3.o hO
 replace ow_a := Sl.off ow_a hO f0
 replace off0 := off0.o hO
 have k_t5 := h_
 clear hO h_ n_t5
 refine Lw ?_ (v := .int .i64 0)
 refine wpL_nil ?_
 go_upto_region 1 with fail
 refine wp_region_lit ?_
 refine Lw ?_ (v := .slice (some ⟨p5_2, 32, none⟩) 32 32) (hv := by first | rfl | (go_simp; done) | (go_simp; with_reducible rfl))
 refine Lw ?_ (v := .pointer (some ⟨p5_2, 32, none⟩)) (hv := by first | rfl | (go_simp; done) | (go_simp; with_reducible rfl))
 refine wpL_gets (vs := (arrK .u8 32 (byt (hi G))).toList) (by rfl) rfl rfl k_t5 (subL h64h) (by kernel_rfl) (by kernel_rfl) ?_
 (try simp only [Act.put, mA, mB, mC])
 refine Lr ?_ (canon1_c h1 W2 (GA_ext hG off0.ext).2.2.1)
 intro W3 hO
 replace k_t3 := k_t3.o hO
 replace k_t5 := k_t5.o hO
 replace ow_a := Sl.off ow_a hO f0
 replace off0 := off0.o hO
 clear hO
 refine Lv ?_
 refine Lv ?_
 refine Lw ?_ (v := .bool true)
 refine LnP ?_ (z := c4 0) (t := 153) (cells := c4 (hi G))
 intro p7_4 W5 n_t7 hO h_
 replace k_t3 := k_t3.o hO
 replace k_t5 := k_t5.o hO
 replace ow_a := Sl.off ow_a hO f0
 replace off0 := off0.o hO
 have k_t7 := h_
 clear hO h_ n_t7
 refine Lw ?_ (v := .bool true)
 refine wpL_nil ?_
 go_upto_region 4 with fail
 refine wp_region_lit ?_
 refine L0A ?_ k_t3
 refine Lr ?_ (dc W5 (GA_ext hG off0.ext).1)
 intro W6 hO
 replace k_t3 := k_t3.o hO
 replace k_t5 := k_t5.o hO
 replace k_t7 := k_t7.o hO
 replace ow_a := Sl.off ow_a hO f0
 replace off0 := off0.o hO
 clear hO
 refine Lv ?_
 refine Lv ?_
 refine Lw ?_ (v := .int .i64 0)
 refine LnP ?_ (z := p4 0 0 0 0) (t := 157) (cells := p4 dx y0 1 dt)
 intro p9_7 W8 n_t9 hO h_
 replace k_t3 := k_t3.o hO
 replace k_t5 := k_t5.o hO
 replace k_t7 := k_t7.o hO
 replace ow_a := Sl.off ow_a hO f0
 replace off0 := off0.o hO
 have k_t9 := h_
 clear hO h_ n_t9
 refine Lw ?_ (v := .int .i64 0)
 refine wpL_nil ?_
 go_upto_region 7 with fail
 refine wp_region_trj (.q 0 (.q 1 (.q 2 (.b 3 (.b 4 (.e 5 (.e 6 .z)) 5 (.e 4 (.e 6 .z))) 5 (.e 3 (.e 4 (.e 6 .z))))))) (fun W => True) (fun a0 a_ wr => ∃ (j_s33 : Nat) (j_t11 : Nat), a_ = putL a0 [(30, .slice (some ⟨p5_2, 0, none⟩) 32 64), (31, .slice (some ⟨p3_1, 0, none⟩) 32 32), (32, v), (33, .slice (some ⟨j_s33, 0, none⟩) 3 3), (34, .agg (c4 U1)), (11, .pointer (some ⟨j_t11, 0, none⟩))] ∧ Off [] w wr ∧ Blk wr p3_1 (arrK .u8 32 (byt V)) 23 ∧ Blk wr p5_2 (arrK .u8 64 (byt G)) 45 ∧ Blk wr p7_4 (c4 (hi G)) 153 ∧ Blk wr p9_7 (p4 dx y0 1 dt) 157 ∧ Blk wr j_s33 #[.slice (some ⟨p5_2, 0, none⟩) 32 64, .slice (some ⟨p3_1, 0, none⟩) 32 32, v] 22 ∧ Blk wr j_t11 (c4 U1) 153 ∧ Sl wr v L ∧ Fb j_s33 w.heap.size [] ∧ p3_1 ≠ j_s33 ∧ p5_2 ≠ j_s33 ∧ p7_4 ≠ j_s33 ∧ p9_7 ≠ j_s33 ∧ (sb v L) ≠ some j_s33 ∧ Fb j_t11 w.heap.size [] ∧ p3_1 ≠ j_t11 ∧ p5_2 ≠ j_t11 ∧ p7_4 ≠ j_t11 ∧ p9_7 ≠ j_t11 ∧ j_s33 ≠ j_t11 ∧ (sb v L) ≠ some j_t11) (by kernel_rfl) (by kernel_rfl) ?_ ?_
 ·
  have _f := True.intro
  intro W9 hO
  replace k_t3 := k_t3.o hO
  replace k_t5 := k_t5.o hO
  replace k_t7 := k_t7.o hO
  replace k_t9 := k_t9.o hO
  replace ow_a := Sl.off ow_a hO f0
  replace off0 := off0.o hO
  clear hO
  refine ⟨trivial, ?_⟩
  refine wpT_q (v := .slice (some ⟨p5_2, 0, none⟩) 32 64) rfl (by rfl) (fun W hS => by first | rfl | (go_simp; done) | (go_simp; with_reducible rfl)) ?_
  (try simp only [Act.put, mA, mB, mC])
  refine wpT_q (v := .slice (some ⟨p3_1, 0, none⟩) 32 32) rfl (by rfl) (fun W hS => by first | rfl | (go_simp; done) | (go_simp; with_reducible rfl)) ?_
  (try simp only [Act.put, mA, mB, mC])
  (refine wpT_q (v := ?_) rfl (by rfl) (fun W hS => ?_) ?_; rotate_left 1; (focus (go_simp; first | done | with_reducible rfl)))
  (try simp only [Act.put, mA, mB, mC])
  refine wpT_b rfl rfl ?_ ?_
  ·
   have _f := True.intro
   refine LnS ?_ (z := #[.slice (some ⟨p5_2, 0, none⟩) 32 64, .slice (some ⟨p3_1, 0, none⟩) 32 32, v]) (t := 22) (n := 3) (c := 3) (hr := by exact run_bsv [.slice (some ⟨p5_2, 0, none⟩) 32 64, .slice (some ⟨p3_1, 0, none⟩) 32 32, v] rfl rfl (vsc (rfl) (vsc (rfl) (vsc ((sl_cells ow_a).1) vs0))) Tryz.underlying113 (by kernel_rfl) (by kernel_rfl) rfl (by decide) (by decide))
   intro p33_10 W10 n_s33 hO h_
   have nq_t3_s33 := bn k_t3 n_s33
   have nq_t5_s33 := bn k_t5 n_s33
   have nq_t7_s33 := bn k_t7 n_s33
   have nq_t9_s33 := bn k_t9 n_s33
   have ne_a_s33 := ne_new (Sl.lt ow_a) n_s33
   have fb_s33 := fbn off0 n_s33
   replace k_t3 := k_t3.o hO
   replace k_t5 := k_t5.o hO
   replace k_t7 := k_t7.o hO
   replace k_t9 := k_t9.o hO
   replace ow_a := Sl.off ow_a hO f0
   replace off0 := off0.o hO
   have k_s33 := h_
   clear hO h_ n_s33
   refine wpT_n (fun W => True) (fun W hS => trivial) trivial ?_
   refine wpT_b rfl rfl ?_ ?_
   ·
    have _f := True.intro
    refine Lr ?_ (number_c (kn := kn) HU1.out [lb 32 (lo G), lb 32 V, L] (some ⟨p33_10, 0, none⟩) 3 (by simp only [List.flatten_cons, List.flatten_nil, List.append_nil, List.nil_append, List.append_assoc, List.cons_append]) (by first | omega | (simp only [List.length_append, List.length_cons, List.length_nil, lb_length]; omega)) (by simp) W10 (pss_blk k_s33 (pvc (sl_part (V := (lo G)) (n := 32) (off := 0) k_t5 h64l (by decide) (by decide)) (pvc (sl_part (V := V) (n := 32) (off := 0) k_t3 ap0 (by decide) (by decide)) (pvc ow_a pv0)))) (GA_ext hG off0.ext))
    intro W11 hO
    replace k_t3 := k_t3.o hO
    replace k_t5 := k_t5.o hO
    replace k_t7 := k_t7.o hO
    replace k_t9 := k_t9.o hO
    replace k_s33 := k_s33.o hO
    replace ow_a := Sl.off ow_a hO f0
    replace off0 := off0.o hO
    clear hO
    refine wpT_n (fun W => True) (fun W hS => trivial) trivial ?_
    refine wpT_e rfl ?_
    refine Ln ?_ (z := c4 0) (t := 153)
    intro p11_12 W12 n_t11 hO h_
    have nq_t3_t11 := bn k_t3 n_t11
    have nq_t5_t11 := bn k_t5 n_t11
    have nq_t7_t11 := bn k_t7 n_t11
    have nq_t9_t11 := bn k_t9 n_t11
    have nq_s33_t11 := bn k_s33 n_t11
    have ne_a_t11 := ne_new (Sl.lt ow_a) n_t11
    have fb_t11 := fbn off0 n_t11
    replace k_t3 := k_t3.o hO
    replace k_t5 := k_t5.o hO
    replace k_t7 := k_t7.o hO
    replace k_t9 := k_t9.o hO
    replace k_s33 := k_s33.o hO
    replace ow_a := Sl.off ow_a hO f0
    replace off0 := off0.o hO
    have k_t11 := h_
    clear hO h_ n_t11
    refine wpT_n (fun W => True) (fun W hS => trivial) trivial ?_
    refine wpT_e rfl ?_
    refine Lp ?_ k_t11 (cells := c4 U1)
    intro W13 hO h_
    replace k_t11 : Blk W13 p11_12 (c4 U1) 153 := h_
    clear h_
    replace k_t3 := k_t3.p hO nq_t3_t11
    replace k_t5 := k_t5.p hO nq_t5_t11
    replace k_t7 := k_t7.p hO nq_t7_t11
    replace k_t9 := k_t9.p hO nq_t9_t11
    replace k_s33 := k_s33.p hO nq_s33_t11
    replace ow_a := Sl.off ow_a hO (f1 ne_a_t11)
    replace off0 := off0.p hO fb_t11
    clear hO
    refine wpT_n (fun W => True) (fun W hS => trivial) trivial ?_
    refine wpT_z ?_
    exact ⟨p33_10, p11_12, (by (simp only [putL, List.foldl_cons, List.foldl_nil, Act.put, mA, mB, mC] <;> rfl)), off0, k_t3, k_t5, k_t7, k_t9, k_s33, k_t11, ow_a, fb_s33, nq_t3_s33, nq_t5_s33, nq_t7_s33, nq_t9_s33, ne_a_s33, fb_t11, nq_t3_t11, nq_t5_t11, nq_t7_t11, nq_t9_t11, nq_s33_t11, ne_a_t11⟩
   ·
    have _f := True.intro
    refine Ln ?_ (z := c4 0) (t := 153)
    intro p11_11 W11 n_t11 hO h_
    have nq_t3_t11 := bn k_t3 n_t11
    have nq_t5_t11 := bn k_t5 n_t11
    have nq_t7_t11 := bn k_t7 n_t11
    have nq_t9_t11 := bn k_t9 n_t11
    have nq_s33_t11 := bn k_s33 n_t11
    have ne_a_t11 := ne_new (Sl.lt ow_a) n_t11
    have fb_t11 := fbn off0 n_t11
    replace k_t3 := k_t3.o hO
    replace k_t5 := k_t5.o hO
    replace k_t7 := k_t7.o hO
    replace k_t9 := k_t9.o hO
    replace k_s33 := k_s33.o hO
    replace ow_a := Sl.off ow_a hO f0
    replace off0 := off0.o hO
    have k_t11 := h_
    clear hO h_ n_t11
    refine wpT_n (fun W => True) (fun W hS => trivial) trivial ?_
    refine wpT_e rfl ?_
    refine Lr ?_ (number_c (kn := kn) HU1.out [lb 32 (lo G), lb 32 V, L] (some ⟨p33_10, 0, none⟩) 3 (by simp only [List.flatten_cons, List.flatten_nil, List.append_nil, List.nil_append, List.append_assoc, List.cons_append]) (by first | omega | (simp only [List.length_append, List.length_cons, List.length_nil, lb_length]; omega)) (by simp) W11 (pss_blk k_s33 (pvc (sl_part (V := (lo G)) (n := 32) (off := 0) k_t5 h64l (by decide) (by decide)) (pvc (sl_part (V := V) (n := 32) (off := 0) k_t3 ap0 (by decide) (by decide)) (pvc ow_a pv0)))) (GA_ext hG off0.ext))
    intro W12 hO
    replace k_t3 := k_t3.o hO
    replace k_t5 := k_t5.o hO
    replace k_t7 := k_t7.o hO
    replace k_t9 := k_t9.o hO
    replace k_s33 := k_s33.o hO
    replace k_t11 := k_t11.o hO
    replace ow_a := Sl.off ow_a hO f0
    replace off0 := off0.o hO
    clear hO
    refine wpT_n (fun W => True) (fun W hS => trivial) trivial ?_
    refine wpT_e rfl ?_
    refine Lp ?_ k_t11 (cells := c4 U1)
    intro W13 hO h_
    replace k_t11 : Blk W13 p11_11 (c4 U1) 153 := h_
    clear h_
    replace k_t3 := k_t3.p hO nq_t3_t11
    replace k_t5 := k_t5.p hO nq_t5_t11
    replace k_t7 := k_t7.p hO nq_t7_t11
    replace k_t9 := k_t9.p hO nq_t9_t11
    replace k_s33 := k_s33.p hO nq_s33_t11
    replace ow_a := Sl.off ow_a hO (f1 ne_a_t11)
    replace off0 := off0.p hO fb_t11
    clear hO
    refine wpT_n (fun W => True) (fun W hS => trivial) trivial ?_
    refine wpT_z ?_
    exact ⟨p33_10, p11_11, (by (simp only [putL, List.foldl_cons, List.foldl_nil, Act.put, mA, mB, mC] <;> rfl)), off0, k_t3, k_t5, k_t7, k_t9, k_s33, k_t11, ow_a, fb_s33, nq_t3_s33, nq_t5_s33, nq_t7_s33, nq_t9_s33, ne_a_s33, fb_t11, nq_t3_t11, nq_t5_t11, nq_t7_t11, nq_t9_t11, nq_s33_t11, ne_a_t11⟩
  ·
   have _f := True.intro
   refine Ln ?_ (z := c4 0) (t := 153)
   intro p11_10 W10 n_t11 hO h_
   have nq_t3_t11 := bn k_t3 n_t11
   have nq_t5_t11 := bn k_t5 n_t11
   have nq_t7_t11 := bn k_t7 n_t11
   have nq_t9_t11 := bn k_t9 n_t11
   have ne_a_t11 := ne_new (Sl.lt ow_a) n_t11
   have fb_t11 := fbn off0 n_t11
   replace k_t3 := k_t3.o hO
   replace k_t5 := k_t5.o hO
   replace k_t7 := k_t7.o hO
   replace k_t9 := k_t9.o hO
   replace ow_a := Sl.off ow_a hO f0
   replace off0 := off0.o hO
   have k_t11 := h_
   clear hO h_ n_t11
   refine wpT_n (fun W => True) (fun W hS => trivial) trivial ?_
   refine wpT_e rfl ?_
   refine LnS ?_ (z := #[.slice (some ⟨p5_2, 0, none⟩) 32 64, .slice (some ⟨p3_1, 0, none⟩) 32 32, v]) (t := 22) (n := 3) (c := 3) (hr := by exact run_bsv [.slice (some ⟨p5_2, 0, none⟩) 32 64, .slice (some ⟨p3_1, 0, none⟩) 32 32, v] rfl rfl (vsc (rfl) (vsc (rfl) (vsc ((sl_cells ow_a).1) vs0))) Tryz.underlying113 (by kernel_rfl) (by kernel_rfl) rfl (by decide) (by decide))
   intro p33_11 W11 n_s33 hO h_
   have nq_t3_s33 := bn k_t3 n_s33
   have nq_t5_s33 := bn k_t5 n_s33
   have nq_t7_s33 := bn k_t7 n_s33
   have nq_t9_s33 := bn k_t9 n_s33
   have nq_t11_s33 := bn k_t11 n_s33
   have ne_a_s33 := ne_new (Sl.lt ow_a) n_s33
   have fb_s33 := fbn off0 n_s33
   replace k_t3 := k_t3.o hO
   replace k_t5 := k_t5.o hO
   replace k_t7 := k_t7.o hO
   replace k_t9 := k_t9.o hO
   replace k_t11 := k_t11.o hO
   replace ow_a := Sl.off ow_a hO f0
   replace off0 := off0.o hO
   have k_s33 := h_
   clear hO h_ n_s33
   refine wpT_n (fun W => True) (fun W hS => trivial) trivial ?_
   refine wpT_e rfl ?_
   refine Lr ?_ (number_c (kn := kn) HU1.out [lb 32 (lo G), lb 32 V, L] (some ⟨p33_11, 0, none⟩) 3 (by simp only [List.flatten_cons, List.flatten_nil, List.append_nil, List.nil_append, List.append_assoc, List.cons_append]) (by first | omega | (simp only [List.length_append, List.length_cons, List.length_nil, lb_length]; omega)) (by simp) W11 (pss_blk k_s33 (pvc (sl_part (V := (lo G)) (n := 32) (off := 0) k_t5 h64l (by decide) (by decide)) (pvc (sl_part (V := V) (n := 32) (off := 0) k_t3 ap0 (by decide) (by decide)) (pvc ow_a pv0)))) (GA_ext hG off0.ext))
   intro W12 hO
   replace k_t3 := k_t3.o hO
   replace k_t5 := k_t5.o hO
   replace k_t7 := k_t7.o hO
   replace k_t9 := k_t9.o hO
   replace k_t11 := k_t11.o hO
   replace k_s33 := k_s33.o hO
   replace ow_a := Sl.off ow_a hO f0
   replace off0 := off0.o hO
   clear hO
   refine wpT_n (fun W => True) (fun W hS => trivial) trivial ?_
   refine wpT_e rfl ?_
   refine Lp ?_ k_t11 (cells := c4 U1)
   intro W13 hO h_
   replace k_t11 : Blk W13 p11_10 (c4 U1) 153 := h_
   clear h_
   replace k_t3 := k_t3.p hO nq_t3_t11
   replace k_t5 := k_t5.p hO nq_t5_t11
   replace k_t7 := k_t7.p hO nq_t7_t11
   replace k_t9 := k_t9.p hO nq_t9_t11
   replace k_s33 := k_s33.p hO nq_t11_s33.symm
   replace ow_a := Sl.off ow_a hO (f1 ne_a_t11)
   replace off0 := off0.p hO fb_t11
   clear hO
   refine wpT_n (fun W => True) (fun W hS => trivial) trivial ?_
   refine wpT_z ?_
   exact ⟨p33_11, p11_10, (by (simp only [putL, List.foldl_cons, List.foldl_nil, Act.put, mA, mB, mC] <;> rfl)), off0, k_t3, k_t5, k_t7, k_t9, k_s33, k_t11, ow_a, fb_s33, nq_t3_s33, nq_t5_s33, nq_t7_s33, nq_t9_s33, ne_a_s33, fb_t11, nq_t3_t11, nq_t5_t11, nq_t7_t11, nq_t9_t11, nq_t11_s33.symm, ne_a_t11⟩
 rintro _ W14 ⟨j_s33, j_t11, rfl, off0, k_t3, k_t5, k_t7, k_t9, k_s33, k_t11, ow_a, fb_s33, nq_t3_s33, nq_t5_s33, nq_t7_s33, nq_t9_s33, ne_a_s33, fb_t11, nq_t3_t11, nq_t5_t11, nq_t7_t11, nq_t9_t11, nq_s33_t11, ne_a_t11⟩
 simp only [putL, List.foldl_cons, List.foldl_nil]
 (try simp only [Act.put, mA, mB, mC])
 go_upto_region 8 with fail
 refine Rx1 10 12 (z := p4 0 0 0 0) (t := 157) ?_
 refine Xf ?_ (fun W hW => c6 W (GA_ext (GA_ext hG off0.ext) hW).1)
 refine Xl ?_ k_t7
 refine Xf ?_ (fun W hW => bytesN_c h1 W (GA_ext (GA_ext hG off0.ext) hW).2.2.1)
 refine Xf ?_ (fun W hW => c12 W (GA_ext (GA_ext hG off0.ext) hW).1)
 refine Xl ?_ k_t9
 refine Xf ?_ (fun W hW => c18 W (GA_ext (GA_ext hG off0.ext) hW).1)
 refine Xl ?_ k_t11
 refine Xf ?_ (fun W hW => bytesN_c lU1 W (GA_ext (GA_ext hG off0.ext) hW).2.2.1)
 refine Xf ?_ (fun W hW => c24 W (GA_ext (GA_ext hG off0.ext) hW).1)
 refine Xf ?_ (fun W hW => c30 W (GA_ext (GA_ext hG off0.ext) hW).1)
 refine XN ?_
 intro p12_15 W15 n_t12 hE h_t12
 have hO := off_ext hE
 have nq_t5_t12 := bn k_t5 n_t12
 have fb_t12 := fbn off0 n_t12
 replace k_t5 := k_t5.o hO
 replace off0 := off0.o hO
 clear hO hE n_t12
 have k_t12 : Blk W15 p12_15 (p4 0 0 0 0) 157 := h_t12
 clear h_t12
 refine Lp ?_ k_t12 (cells := p4 x25 y26 z27 t28)
 intro W16 hO h_
 replace k_t12 : Blk W16 p12_15 (p4 x25 y26 z27 t28) 157 := h_
 clear h_
 replace k_t5 := k_t5.p hO nq_t5_t12
 replace off0 := off0.p hO fb_t12
 clear hO
 refine LN ?_
 by_cases h3 : U2 = lo G
 ·
  have _f := h3
  go_upto_region 9 with fail
  refine Rx 6 ?_
  refine Xl ?_ k_t12
  refine Xf ?_ (fun W hW => encN_c r29.rw HU2.out W (GA_ext (GA_ext hG off0.ext) hW).1)
  refine Xw ?_ (v := .slice (some ⟨p5_2, 0, none⟩) 32 64)
  refine Xw ?_ (v := .pointer (some ⟨p5_2, 0, none⟩))
  refine Xls ?_ (sub := arrK .u8 32 (byt (lo G))) (j := 0) k_t5 h64l
  have e_b := eqB32 U2 (lo G) bU2 (lo_lt _)
  rw [decide_eq_true h3] at e_b
  refine wpX_neqA (e_b) (by kernel_rfl) (by rfl) rfl rfl rfl ?_
  (try simp only [Act.put, mA, mB, mC])
  refine wpX_nil fun W17 hE => ?_
  have hO := off_ext hE
  replace k_t5 := k_t5.o hO
  replace k_t12 := k_t12.o hO
  replace off0 := off0.o hO
  clear hO hE
  refine LN ?_
  go_wp2
  rw [HU2.out, HU1.out] at h3
  have h3' : enc (vP V L G) = lo G := h3
  rw [show vfy V L G = 0 by unfold vfy; rw [if_neg (Nat.not_le.2 h1), if_neg (by rw [h2]; decide), if_pos h3']]
  exact bodyPost_ret (v := .int .i64 0) (by simp only [results, Tryz.results61]; go_simp) rfl ⟨rfl, off0.ext⟩
 ·
  have _f := h3
  go_upto_region 9 with fail
  refine Rx 6 ?_
  refine Xl ?_ k_t12
  refine Xf ?_ (fun W hW => encN_c r29.rw HU2.out W (GA_ext (GA_ext hG off0.ext) hW).1)
  refine Xw ?_ (v := .slice (some ⟨p5_2, 0, none⟩) 32 64)
  refine Xw ?_ (v := .pointer (some ⟨p5_2, 0, none⟩))
  refine Xls ?_ (sub := arrK .u8 32 (byt (lo G))) (j := 0) k_t5 h64l
  have e_b := eqB32 U2 (lo G) bU2 (lo_lt _)
  rw [decide_eq_false h3] at e_b
  refine wpX_neqA (e_b) (by kernel_rfl) (by rfl) rfl rfl rfl ?_
  (try simp only [Act.put, mA, mB, mC])
  refine wpX_nil fun W17 hE => ?_
  have hO := off_ext hE
  replace off0 := off0.o hO
  clear hO hE
  refine LN ?_
  go_wp2
  rw [HU2.out, HU1.out] at h3
  have h3' : enc (vP V L G) ≠ lo G := h3
  rw [show vfy V L G = 16 by unfold vfy; rw [if_neg (Nat.not_le.2 h1), if_neg (by rw [h2]; decide), if_neg h3']]
  exact bodyPost_ret (v := .int .i64 16) (by simp only [results, Tryz.results61]; go_simp) rfl ⟨rfl, off0.ext⟩
theorem verify_c (hd : kn.d) (hb : kn.b) (hc : kn.c) {V G : Nat} (hV : V < 2 ^ 256) (hG2 : G < 2 ^ (256 + 256)) (v : Value) (L : List UInt8) (hL : L.length ≤ 1099511627776) (w : World) (hG : GA kn w) (hs : Sl w v L) :
    Calls Tryz.prog 61 #[.agg (arrK .u8 32 (byt V)), v, .agg (arrK .u8 64 (byt G))] w fun e w' => Ret (.int .i64 (vfy V L G : Int)) w w' e := by
  by_cases h1 : LL ≤ hi G
  · rw [show vfy V L G = 16 by unfold vfy; rw [if_pos h1]]; exact verify_a hd hb hc hV hG2 v L hL h1 w hG hs
  · cases h2 : dOk V
    · rw [show vfy V L G = 15 by unfold vfy; rw [if_neg h1, if_pos h2]]; exact verify_b hd hb hc hV hG2 v L hL (Nat.not_le.1 h1) h2 w hG hs
    · exact verify_d hd hb hc hV hG2 v L hL (Nat.not_le.1 h1) h2 w hG hs
end Go.Proofs.YtejkmhgkkibafaaGreatDoor.S8
