/- vrf: Prove. Conditions: the cells of the variables hold their numbers. vrf: Check. Conditions: the cells of the variables hold their numbers. -/
import Derived.Test.YtefpoollmbmkfaaDoorGc
import Derived.Test.YtefpoollmbmkfaaDoorVa
set_option linter.unusedSimpArgs false
set_option linter.unusedVariables false
namespace Go.Proofs.YtefpoollmbmkfaaDoor
set_option maxHeartbeats 2000000
set_option maxRecDepth 100000
open Go.RowKit
attribute [local irreducible] wpList wpTr
variable {kn : Kn}
open Sc (LL clampF)
attribute [local irreducible] hs
theorem h16 {X C : Nat} (hC : C = X % P128) : ∀ i v, (arrK .u8 16 (byt C))[i]? = some v → (arrK .u8 64 (byt X))[0 + i]? = some v :=
  sub_arr (fun j hj => by rw [hC, show P128 = 2 ^ (8 * 16) from rfl, byt_cut hj, Nat.zero_add]) (by decide)
theorem point_s (hc : kn.c) {V c0 : Nat} {L : List UInt8} (hL : L.length ≤ 1099511627776) (hv : vpt V L = some c0) {h : Pr} (hh : h = candP V L c0) :
    ∃ X Y Z T, RN X Y Z T h ∧ ∀ v w, GA kn w → Sl w v L → Calls Tryd.prog 60 #[.agg (arrK .u8 32 (byt V)), v] w fun e w' => Ret (.tuple #[.agg (p4 X Y Z T), .int .i64 0]) w w' e := by
  obtain ⟨h1, h2, h3⟩ := vpt_some hv
  subst hh
  exact point_some hc hL c0 h1 h2 h3
theorem point_n (hc : kn.c) {V : Nat} {L : List UInt8} (hL : L.length ≤ 1099511627776) (hv : vpt V L = none) (v : Value) (w : World) (hG : GA kn w) (hs : Sl w v L) :
    Calls Tryd.prog 60 #[.agg (arrK .u8 32 (byt V)), v] w fun e w' => Ret (.tuple #[.agg (p4 0 0 0 0), .int .i64 15]) w w' e := point_none hc hL (vpt_none hv) v w hG hs
theorem lb_join3 {E C n : Nat} (hE : E < 2 ^ 256) (hC : C < P128) : lb 32 E ++ lb 16 C ++ lb 32 n = lb 80 (E + 2 ^ 256 * (C + P128 * n)) := by
  have e1 : lb 80 (E + 2 ^ 256 * (C + P128 * n)) = lb 32 (E + 2 ^ 256 * (C + P128 * n)) ++ lb 48 ((E + 2 ^ 256 * (C + P128 * n)) / 2 ^ (8 * 32)) := lb_add 32 48 _
  have e2 : lb 48 (C + P128 * n) = lb 16 (C + P128 * n) ++ lb 32 ((C + P128 * n) / 2 ^ (8 * 16)) := lb_add 16 32 _
  rw [e1, show (2 : Nat) ^ (8 * 32) = 2 ^ 256 from rfl, Nat.add_mul_div_left _ _ (by decide), Nat.div_eq_of_lt hE, Nat.zero_add, e2, show (2 : Nat) ^ (8 * 16) = P128 from rfl, Nat.add_mul_div_left _ _ (by decide), Nat.div_eq_of_lt hC, Nat.zero_add, List.append_assoc]
  congr 1
  · rw [← lb_mod 32 (E + 2 ^ 256 * (C + P128 * n)), show (2 : Nat) ^ (8 * 32) = 2 ^ 256 from rfl, Nat.add_mul_mod_self_left, Nat.mod_eq_of_lt hE]
  · congr 1
    rw [← lb_mod 16 (C + P128 * n), show (2 : Nat) ^ (8 * 16) = P128 from rfl, Nat.add_mul_mod_self_left, Nat.mod_eq_of_lt hC]

theorem prove_1 (hd : kn.d) (hb : kn.b) (hc : kn.c) (S c0 : Nat) (v : Value) (L : List UInt8) (hL : L.length ≤ 1099511627776) (hv : vpt (kP S) L = some c0) {h : Pr} (hh : h = candP (kP S) L c0) :
  ∀ w, GA kn w → Sl w v L → Calls Tryd.prog 23 #[.agg (arrK .u8 32 (byt S)), v] w fun e w' => Ret (.tuple #[.agg (arrK .u8 80 (byt (vPr S h))), .int .i64 0]) w w' e := by
 obtain ⟨U1, hU1⟩ := exn (kN S)
 have bU1 : U1 < 2 ^ 256 := by rw [hU1]; exact kN_lt _
 have HU1 := Lib.hid hU1
 clear hU1
 obtain ⟨U2, hU2⟩ := exn (kD S)
 have bU2 : U2 < 2 ^ 256 := by rw [hU2]; exact kD_lt _
 have HU2 := Lib.hid hU2
 clear hU2
 obtain ⟨U3, hU3⟩ := exn (kP S)
 have bU3 : U3 < 2 ^ 256 := by rw [hU3]; exact kP_lt _
 have HU3 := Lib.hid hU3
 clear hU3
 have hv_ : vpt U3 L = some c0 := by rw [HU3.out]; exact hv
 have hh_ : h = candP U3 L c0 := by rw [HU3.out]; exact hh
 obtain ⟨hx, hy, hz, ht, hr, hcl⟩ := point_s (kn := kn) hc hL hv_ hh_
 obtain ⟨x1, y2, z3, t4, r5, c6⟩ := eTimes_c hd hr.rw (N := U1) bU1
 obtain ⟨U4, hU4⟩ := exn (enc h)
 have bU4 : U4 < 2 ^ 256 := by rw [hU4]; exact enc_lt _
 have HU4 := Lib.hid hU4
 clear hU4
 obtain ⟨U5, hU5⟩ := exn (hs ((lb 32 U2) ++ (lb 32 U4)))
 have HU5 := Lib.hid hU5
 clear hU5
 obtain ⟨U6, hU6⟩ := exn (U5 % LL)
 have lU6 : U6 < LL := by rw [hU6]; exact mLL _
 have bU6 : U6 < 2 ^ 256 := Nat.lt_trans lU6 LL_256
 have HU6 := Lib.hid hU6
 clear hU6
 obtain ⟨x7, y8, z9, t10, r11, c12⟩ := eBase_c hb
 obtain ⟨x13, y14, z15, t16, r17, c18⟩ := eTimes_c hd r11.rw (N := U6) (Nat.lt_trans lU6 LL_256)
 obtain ⟨x19, y20, z21, t22, r23, c24⟩ := eTimes_c hd hr.rw (N := U6) (Nat.lt_trans lU6 LL_256)
 obtain ⟨U7, hU7⟩ := exn (chH U3 h (pm h U1) (pm BP U6) (pm h U6))
 have HU7 := Lib.hid hU7
 clear hU7
 obtain ⟨U8, hU8⟩ := exn (U7 % P128)
 have qU8 : U8 < P128 := by rw [hU8]; exact Nat.mod_lt _ (by decide)
 have HU8 := Lib.hid hU8
 clear hU8
 obtain ⟨U9, hU9⟩ := exn (U8 % LL)
 have lU9 : U9 < LL := by rw [hU9]; exact mLL _
 have bU9 : U9 < 2 ^ 256 := Nat.lt_trans lU9 LL_256
 have HU9 := Lib.hid hU9
 clear hU9
 obtain ⟨U10, hU10⟩ := exn (U1 % LL)
 have lU10 : U10 < LL := by rw [hU10]; exact mLL _
 have bU10 : U10 < 2 ^ 256 := Nat.lt_trans lU10 LL_256
 have HU10 := Lib.hid hU10
 clear hU10
 obtain ⟨U11, hU11⟩ := exn (U9 * U10 % LL)
 have lU11 : U11 < LL := by rw [hU11]; exact mLL _
 have bU11 : U11 < 2 ^ 256 := Nat.lt_trans lU11 LL_256
 have HU11 := Lib.hid hU11
 clear hU11
 obtain ⟨U12, hU12⟩ := exn ((U6 + U11) % LL)
 have lU12 : U12 < LL := by rw [hU12]; exact mLL _
 have bU12 : U12 < 2 ^ 256 := Nat.lt_trans lU12 LL_256
 have HU12 := Lib.hid hU12
 clear hU12
 obtain ⟨U13, hU13⟩ := exn (enc (pm h U1))
 have bU13 : U13 < 2 ^ 256 := by rw [hU13]; exact enc_lt _
 have HU13 := Lib.hid hU13
 clear hU13
 intro w hG hsl
 have ow_a := hsl
 have off0 : Off [] w w := Off.refl _ _
 go_enter Tryd.func23, Tryd.ntmps23
 go_upto_region 0 with fail
 refine wp_region_lit ?_
 refine Ln ?_ (z := arrK .u8 32 (byt S)) (t := 22)
 intro p2_1 W1 n_t2 hO h_
 replace ow_a := Sl.off ow_a hO f0
 replace off0 := off0.o hO
 have k_t2 := h_
 clear hO h_ n_t2
 refine Ln ?_ (z := arrK .u8 80 (byt 0)) (t := 45)
 intro p4_2 W2 n_t4 hO h_
 have fb_t4 := fbn off0 n_t4
 replace k_t2 := k_t2.o hO
 replace ow_a := Sl.off ow_a hO f0
 replace off0 := off0.o hO
 have k_t4 := h_
 clear hO h_ n_t4
 refine Lw ?_ (v := .int .i64 0)
 refine wpL_nil ?_
 go_upto_region 1 with fail
 refine wp_region_lit ?_
 refine L0A ?_ k_t2
 refine Lr ?_ (spreadN_c hd hb HU1.out HU2.out HU3.out W2 (GA_ext hG off0.ext))
 intro W3 hO
 replace k_t2 := k_t2.o hO
 replace k_t4 := k_t4.o hO
 replace ow_a := Sl.off ow_a hO f0
 replace off0 := off0.o hO
 clear hO
 refine LnP ?_ (z := s3 0 0 0) (t := 25) (cells := s3 U1 U2 U3) (hi := by rw [s3_size]; kernel_rfl) (hs := by first | rw [s3_size, s3_size] | rw [s3_size] | kernel_rfl) (h1 := by exact s3_one)
 intro p6_4 W5 n_t6 hO h_
 replace k_t2 := k_t2.o hO
 replace k_t4 := k_t4.o hO
 replace ow_a := Sl.off ow_a hO f0
 replace off0 := off0.o hO
 have k_t6 := h_
 clear hO h_ n_t6
 refine wpL_nil ?_
 go_upto_region 2 with fail
 refine wp_region_lit ?_
 refine Lv ?_
 refine wpL_gets (vs := (arrK .u8 32 (byt U3)).toList) (by rfl) rfl rfl k_t6 (subL s3c2) (by kernel_rfl) (by kernel_rfl) ?_
 (try simp only [Act.put, mA, mB, mC])
 refine Lv ?_
 refine Lr ?_ (hcl v W5 (GA_ext hG off0.ext) ow_a)
 intro W6 hO
 replace k_t2 := k_t2.o hO
 replace k_t4 := k_t4.o hO
 replace k_t6 := k_t6.o hO
 replace ow_a := Sl.off ow_a hO f0
 replace off0 := off0.o hO
 clear hO
 refine Lv ?_
 refine Lv ?_
 refine Lw ?_ (v := .int .i64 0)
 refine LnP ?_ (z := p4 0 0 0 0) (t := 60) (cells := p4 hx hy hz ht)
 intro p7_7 W8 n_t7 hO h_
 replace k_t2 := k_t2.o hO
 replace k_t4 := k_t4.o hO
 replace k_t6 := k_t6.o hO
 replace ow_a := Sl.off ow_a hO f0
 replace off0 := off0.o hO
 have k_t7 := h_
 clear hO h_ n_t7
 refine Lw ?_ (v := .int .i64 0)
 refine wpL_nil ?_
 go_upto_region 5 with fail
 refine wp_region_lit ?_
 refine L0 ?_ k_t7
 refine Lv ?_
 refine wpL_gets (vs := (arrK .u8 32 (byt U1)).toList) (by rfl) rfl rfl k_t6 (subL s3c0) (by kernel_rfl) (by kernel_rfl) ?_
 (try simp only [Act.put, mA, mB, mC])
 refine Lr ?_ (c6 W8 (GA_ext hG off0.ext).1)
 intro W9 hO
 replace k_t2 := k_t2.o hO
 replace k_t4 := k_t4.o hO
 replace k_t6 := k_t6.o hO
 replace k_t7 := k_t7.o hO
 replace ow_a := Sl.off ow_a hO f0
 replace off0 := off0.o hO
 clear hO
 refine LnP ?_ (z := p4 0 0 0 0) (t := 60) (cells := p4 x1 y2 z3 t4)
 intro p9_10 W11 n_t9 hO h_
 replace k_t2 := k_t2.o hO
 replace k_t4 := k_t4.o hO
 replace k_t6 := k_t6.o hO
 replace k_t7 := k_t7.o hO
 replace ow_a := Sl.off ow_a hO f0
 replace off0 := off0.o hO
 have k_t9 := h_
 clear hO h_ n_t9
 refine wpL_nil ?_
 go_upto_region 6 with fail
 refine wp_region_lit ?_
 refine L0 ?_ k_t7
 refine Lr ?_ (encN_c hr.rw HU4.out W11 (GA_ext hG off0.ext).1)
 intro W12 hO
 replace k_t2 := k_t2.o hO
 replace k_t4 := k_t4.o hO
 replace k_t6 := k_t6.o hO
 replace k_t7 := k_t7.o hO
 replace k_t9 := k_t9.o hO
 replace ow_a := Sl.off ow_a hO f0
 replace off0 := off0.o hO
 clear hO
 refine LnA ?_ (z := arrK .u8 32 (byt 0)) (t := 22) (k := .u8) (n := 32) (f := byt U4)
 intro p10_13 W14 n_t10 hO h_
 replace k_t2 := k_t2.o hO
 replace k_t4 := k_t4.o hO
 replace k_t6 := k_t6.o hO
 replace k_t7 := k_t7.o hO
 replace k_t9 := k_t9.o hO
 replace ow_a := Sl.off ow_a hO f0
 replace off0 := off0.o hO
 have k_t10 := h_
 clear hO h_ n_t10
 refine wpL_nil ?_
 go_upto_region 7 with fail
 refine wp_region_trj (.q 0 (.q 1 (.q 2 (.b 3 (.b 4 (.e 5 (.e 6 .z)) 5 (.e 4 (.e 6 .z))) 5 (.e 3 (.e 4 (.e 6 .z))))))) (fun W => True) (fun a0 a_ wr => ∃ (j_s38 : Nat) (j_t11 : Nat), a_ = putL a0 [(35, .pointer (some ⟨p6_4, 32, none⟩)), (36, .slice (some ⟨p6_4, 32, none⟩) 32 32), (37, .slice (some ⟨p10_13, 0, none⟩) 32 32), (38, .slice (some ⟨j_s38, 0, none⟩) 2 2), (39, .agg (arrK .u8 64 (byt U5))), (11, .pointer (some ⟨j_t11, 0, none⟩))] ∧ Off [] w wr ∧ Blk wr p2_1 (arrK .u8 32 (byt S)) 22 ∧ Blk wr p4_2 (arrK .u8 80 (byt 0)) 45 ∧ Blk wr p6_4 (s3 U1 U2 U3) 25 ∧ Blk wr p7_7 (p4 hx hy hz ht) 60 ∧ Blk wr p9_10 (p4 x1 y2 z3 t4) 60 ∧ Blk wr p10_13 (arrK .u8 32 (byt U4)) 22 ∧ Blk wr j_s38 #[.slice (some ⟨p6_4, 32, none⟩) 32 32, .slice (some ⟨p10_13, 0, none⟩) 32 32] 23 ∧ Blk wr j_t11 (arrK .u8 64 (byt U5)) 30 ∧ Sl wr v L ∧ Fb j_s38 w.heap.size [] ∧ p2_1 ≠ j_s38 ∧ p4_2 ≠ j_s38 ∧ p6_4 ≠ j_s38 ∧ p7_7 ≠ j_s38 ∧ p9_10 ≠ j_s38 ∧ p10_13 ≠ j_s38 ∧ (sb v L) ≠ some j_s38 ∧ Fb j_t11 w.heap.size [] ∧ p2_1 ≠ j_t11 ∧ p4_2 ≠ j_t11 ∧ p6_4 ≠ j_t11 ∧ p7_7 ≠ j_t11 ∧ p9_10 ≠ j_t11 ∧ p10_13 ≠ j_t11 ∧ j_s38 ≠ j_t11 ∧ (sb v L) ≠ some j_t11) (by kernel_rfl) (by kernel_rfl) ?_ ?_
 ·
  have _f := True.intro
  intro W15 hO
  replace k_t2 := k_t2.o hO
  replace k_t4 := k_t4.o hO
  replace k_t6 := k_t6.o hO
  replace k_t7 := k_t7.o hO
  replace k_t9 := k_t9.o hO
  replace k_t10 := k_t10.o hO
  replace ow_a := Sl.off ow_a hO f0
  replace off0 := off0.o hO
  clear hO
  refine ⟨trivial, ?_⟩
  (refine wpT_q (v := ?_) rfl (by rfl) (fun W hS => ?_) ?_; rotate_left 1; (focus (go_simp; first | done | with_reducible rfl)))
  (try simp only [Act.put, mA, mB, mC])
  refine wpT_q (v := .slice (some ⟨p6_4, 32, none⟩) 32 32) rfl (by rfl) (fun W hS => by first | rfl | (go_simp; done) | (go_simp; with_reducible rfl)) ?_
  (try simp only [Act.put, mA, mB, mC])
  refine wpT_q (v := .slice (some ⟨p10_13, 0, none⟩) 32 32) rfl (by rfl) (fun W hS => by first | rfl | (go_simp; done) | (go_simp; with_reducible rfl)) ?_
  (try simp only [Act.put, mA, mB, mC])
  refine wpT_b rfl rfl ?_ ?_
  ·
   have _f := True.intro
   refine LnS ?_ (z := #[.slice (some ⟨p6_4, 32, none⟩) 32 32, .slice (some ⟨p10_13, 0, none⟩) 32 32]) (t := 23) (n := 2) (c := 2) (hr := by exact run_bsv [.slice (some ⟨p6_4, 32, none⟩) 32 32, .slice (some ⟨p10_13, 0, none⟩) 32 32] rfl rfl (vsc (rfl) (vsc (rfl) vs0)) Tryd.underlying112 (by kernel_rfl) (by kernel_rfl) rfl (by decide) (by decide))
   intro p38_16 W16 n_s38 hO h_
   have nq_t2_s38 := bn k_t2 n_s38
   have nq_t4_s38 := bn k_t4 n_s38
   have nq_t6_s38 := bn k_t6 n_s38
   have nq_t7_s38 := bn k_t7 n_s38
   have nq_t9_s38 := bn k_t9 n_s38
   have nq_t10_s38 := bn k_t10 n_s38
   have ne_a_s38 := ne_new (Sl.lt ow_a) n_s38
   have fb_s38 := fbn off0 n_s38
   replace k_t2 := k_t2.o hO
   replace k_t4 := k_t4.o hO
   replace k_t6 := k_t6.o hO
   replace k_t7 := k_t7.o hO
   replace k_t9 := k_t9.o hO
   replace k_t10 := k_t10.o hO
   replace ow_a := Sl.off ow_a hO f0
   replace off0 := off0.o hO
   have k_s38 := h_
   clear hO h_ n_s38
   refine wpT_n (fun W => True) (fun W hS => trivial) trivial ?_
   refine wpT_b rfl rfl ?_ ?_
   ·
    have _f := True.intro
    refine Lr ?_ (sumN_c HU5.out [lb 32 U2, lb 32 U4] (some ⟨p38_16, 0, none⟩) 2 (by simp only [List.flatten_cons, List.flatten_nil, List.append_nil, List.nil_append, List.append_assoc, List.cons_append]) (by first | omega | (simp only [List.length_append, List.length_cons, List.length_nil, lb_length]; omega)) (by simp) W16 (pss_blk k_s38 (pvc (sl_part (V := U2) (n := 32) (off := 32) k_t6 s3c1 (by decide) (by decide)) (pvc (sl_part (V := U4) (n := 32) (off := 0) k_t10 ap0 (by decide) (by decide)) pv0))) (GA_ext hG off0.ext).2.1)
    intro W17 hO
    replace k_t2 := k_t2.o hO
    replace k_t4 := k_t4.o hO
    replace k_t6 := k_t6.o hO
    replace k_t7 := k_t7.o hO
    replace k_t9 := k_t9.o hO
    replace k_t10 := k_t10.o hO
    replace k_s38 := k_s38.o hO
    replace ow_a := Sl.off ow_a hO f0
    replace off0 := off0.o hO
    clear hO
    refine wpT_n (fun W => True) (fun W hS => trivial) trivial ?_
    refine wpT_e rfl ?_
    refine Ln ?_ (z := arrK .u8 64 (byt 0)) (t := 30)
    intro p11_18 W18 n_t11 hO h_
    have nq_t2_t11 := bn k_t2 n_t11
    have nq_t4_t11 := bn k_t4 n_t11
    have nq_t6_t11 := bn k_t6 n_t11
    have nq_t7_t11 := bn k_t7 n_t11
    have nq_t9_t11 := bn k_t9 n_t11
    have nq_t10_t11 := bn k_t10 n_t11
    have nq_s38_t11 := bn k_s38 n_t11
    have ne_a_t11 := ne_new (Sl.lt ow_a) n_t11
    have fb_t11 := fbn off0 n_t11
    replace k_t2 := k_t2.o hO
    replace k_t4 := k_t4.o hO
    replace k_t6 := k_t6.o hO
    replace k_t7 := k_t7.o hO
    replace k_t9 := k_t9.o hO
    replace k_t10 := k_t10.o hO
    replace k_s38 := k_s38.o hO
    replace ow_a := Sl.off ow_a hO f0
    replace off0 := off0.o hO
    have k_t11 := h_
    clear hO h_ n_t11
    refine wpT_n (fun W => True) (fun W hS => trivial) trivial ?_
    refine wpT_e rfl ?_
    refine LpA ?_ k_t11 (k := .u8) (n := 64) (f := byt U5)
    intro W19 hO h_
    replace k_t11 : Blk W19 p11_18 (arrK .u8 64 (byt U5)) 30 := h_
    clear h_
    replace k_t2 := k_t2.p hO nq_t2_t11
    replace k_t4 := k_t4.p hO nq_t4_t11
    replace k_t6 := k_t6.p hO nq_t6_t11
    replace k_t7 := k_t7.p hO nq_t7_t11
    replace k_t9 := k_t9.p hO nq_t9_t11
    replace k_t10 := k_t10.p hO nq_t10_t11
    replace k_s38 := k_s38.p hO nq_s38_t11
    replace ow_a := Sl.off ow_a hO (f1 ne_a_t11)
    replace off0 := off0.p hO fb_t11
    clear hO
    refine wpT_n (fun W => True) (fun W hS => trivial) trivial ?_
    refine wpT_z ?_
    exact ⟨p38_16, p11_18, (by (simp only [putL, List.foldl_cons, List.foldl_nil, Act.put, mA, mB, mC] <;> rfl)), off0, k_t2, k_t4, k_t6, k_t7, k_t9, k_t10, k_s38, k_t11, ow_a, fb_s38, nq_t2_s38, nq_t4_s38, nq_t6_s38, nq_t7_s38, nq_t9_s38, nq_t10_s38, ne_a_s38, fb_t11, nq_t2_t11, nq_t4_t11, nq_t6_t11, nq_t7_t11, nq_t9_t11, nq_t10_t11, nq_s38_t11, ne_a_t11⟩
   ·
    have _f := True.intro
    refine Ln ?_ (z := arrK .u8 64 (byt 0)) (t := 30)
    intro p11_17 W17 n_t11 hO h_
    have nq_t2_t11 := bn k_t2 n_t11
    have nq_t4_t11 := bn k_t4 n_t11
    have nq_t6_t11 := bn k_t6 n_t11
    have nq_t7_t11 := bn k_t7 n_t11
    have nq_t9_t11 := bn k_t9 n_t11
    have nq_t10_t11 := bn k_t10 n_t11
    have nq_s38_t11 := bn k_s38 n_t11
    have ne_a_t11 := ne_new (Sl.lt ow_a) n_t11
    have fb_t11 := fbn off0 n_t11
    replace k_t2 := k_t2.o hO
    replace k_t4 := k_t4.o hO
    replace k_t6 := k_t6.o hO
    replace k_t7 := k_t7.o hO
    replace k_t9 := k_t9.o hO
    replace k_t10 := k_t10.o hO
    replace k_s38 := k_s38.o hO
    replace ow_a := Sl.off ow_a hO f0
    replace off0 := off0.o hO
    have k_t11 := h_
    clear hO h_ n_t11
    refine wpT_n (fun W => True) (fun W hS => trivial) trivial ?_
    refine wpT_e rfl ?_
    refine Lr ?_ (sumN_c HU5.out [lb 32 U2, lb 32 U4] (some ⟨p38_16, 0, none⟩) 2 (by simp only [List.flatten_cons, List.flatten_nil, List.append_nil, List.nil_append, List.append_assoc, List.cons_append]) (by first | omega | (simp only [List.length_append, List.length_cons, List.length_nil, lb_length]; omega)) (by simp) W17 (pss_blk k_s38 (pvc (sl_part (V := U2) (n := 32) (off := 32) k_t6 s3c1 (by decide) (by decide)) (pvc (sl_part (V := U4) (n := 32) (off := 0) k_t10 ap0 (by decide) (by decide)) pv0))) (GA_ext hG off0.ext).2.1)
    intro W18 hO
    replace k_t2 := k_t2.o hO
    replace k_t4 := k_t4.o hO
    replace k_t6 := k_t6.o hO
    replace k_t7 := k_t7.o hO
    replace k_t9 := k_t9.o hO
    replace k_t10 := k_t10.o hO
    replace k_s38 := k_s38.o hO
    replace k_t11 := k_t11.o hO
    replace ow_a := Sl.off ow_a hO f0
    replace off0 := off0.o hO
    clear hO
    refine wpT_n (fun W => True) (fun W hS => trivial) trivial ?_
    refine wpT_e rfl ?_
    refine LpA ?_ k_t11 (k := .u8) (n := 64) (f := byt U5)
    intro W19 hO h_
    replace k_t11 : Blk W19 p11_17 (arrK .u8 64 (byt U5)) 30 := h_
    clear h_
    replace k_t2 := k_t2.p hO nq_t2_t11
    replace k_t4 := k_t4.p hO nq_t4_t11
    replace k_t6 := k_t6.p hO nq_t6_t11
    replace k_t7 := k_t7.p hO nq_t7_t11
    replace k_t9 := k_t9.p hO nq_t9_t11
    replace k_t10 := k_t10.p hO nq_t10_t11
    replace k_s38 := k_s38.p hO nq_s38_t11
    replace ow_a := Sl.off ow_a hO (f1 ne_a_t11)
    replace off0 := off0.p hO fb_t11
    clear hO
    refine wpT_n (fun W => True) (fun W hS => trivial) trivial ?_
    refine wpT_z ?_
    exact ⟨p38_16, p11_17, (by (simp only [putL, List.foldl_cons, List.foldl_nil, Act.put, mA, mB, mC] <;> rfl)), off0, k_t2, k_t4, k_t6, k_t7, k_t9, k_t10, k_s38, k_t11, ow_a, fb_s38, nq_t2_s38, nq_t4_s38, nq_t6_s38, nq_t7_s38, nq_t9_s38, nq_t10_s38, ne_a_s38, fb_t11, nq_t2_t11, nq_t4_t11, nq_t6_t11, nq_t7_t11, nq_t9_t11, nq_t10_t11, nq_s38_t11, ne_a_t11⟩
  ·
   have _f := True.intro
   refine Ln ?_ (z := arrK .u8 64 (byt 0)) (t := 30)
   intro p11_16 W16 n_t11 hO h_
   have nq_t2_t11 := bn k_t2 n_t11
   have nq_t4_t11 := bn k_t4 n_t11
   have nq_t6_t11 := bn k_t6 n_t11
   have nq_t7_t11 := bn k_t7 n_t11
   have nq_t9_t11 := bn k_t9 n_t11
   have nq_t10_t11 := bn k_t10 n_t11
   have ne_a_t11 := ne_new (Sl.lt ow_a) n_t11
   have fb_t11 := fbn off0 n_t11
   replace k_t2 := k_t2.o hO
   replace k_t4 := k_t4.o hO
   replace k_t6 := k_t6.o hO
   replace k_t7 := k_t7.o hO
   replace k_t9 := k_t9.o hO
   replace k_t10 := k_t10.o hO
   replace ow_a := Sl.off ow_a hO f0
   replace off0 := off0.o hO
   have k_t11 := h_
   clear hO h_ n_t11
   refine wpT_n (fun W => True) (fun W hS => trivial) trivial ?_
   refine wpT_e rfl ?_
   refine LnS ?_ (z := #[.slice (some ⟨p6_4, 32, none⟩) 32 32, .slice (some ⟨p10_13, 0, none⟩) 32 32]) (t := 23) (n := 2) (c := 2) (hr := by exact run_bsv [.slice (some ⟨p6_4, 32, none⟩) 32 32, .slice (some ⟨p10_13, 0, none⟩) 32 32] rfl rfl (vsc (rfl) (vsc (rfl) vs0)) Tryd.underlying112 (by kernel_rfl) (by kernel_rfl) rfl (by decide) (by decide))
   intro p38_17 W17 n_s38 hO h_
   have nq_t2_s38 := bn k_t2 n_s38
   have nq_t4_s38 := bn k_t4 n_s38
   have nq_t6_s38 := bn k_t6 n_s38
   have nq_t7_s38 := bn k_t7 n_s38
   have nq_t9_s38 := bn k_t9 n_s38
   have nq_t10_s38 := bn k_t10 n_s38
   have nq_t11_s38 := bn k_t11 n_s38
   have ne_a_s38 := ne_new (Sl.lt ow_a) n_s38
   have fb_s38 := fbn off0 n_s38
   replace k_t2 := k_t2.o hO
   replace k_t4 := k_t4.o hO
   replace k_t6 := k_t6.o hO
   replace k_t7 := k_t7.o hO
   replace k_t9 := k_t9.o hO
   replace k_t10 := k_t10.o hO
   replace k_t11 := k_t11.o hO
   replace ow_a := Sl.off ow_a hO f0
   replace off0 := off0.o hO
   have k_s38 := h_
   clear hO h_ n_s38
   refine wpT_n (fun W => True) (fun W hS => trivial) trivial ?_
   refine wpT_e rfl ?_
   refine Lr ?_ (sumN_c HU5.out [lb 32 U2, lb 32 U4] (some ⟨p38_17, 0, none⟩) 2 (by simp only [List.flatten_cons, List.flatten_nil, List.append_nil, List.nil_append, List.append_assoc, List.cons_append]) (by first | omega | (simp only [List.length_append, List.length_cons, List.length_nil, lb_length]; omega)) (by simp) W17 (pss_blk k_s38 (pvc (sl_part (V := U2) (n := 32) (off := 32) k_t6 s3c1 (by decide) (by decide)) (pvc (sl_part (V := U4) (n := 32) (off := 0) k_t10 ap0 (by decide) (by decide)) pv0))) (GA_ext hG off0.ext).2.1)
   intro W18 hO
   replace k_t2 := k_t2.o hO
   replace k_t4 := k_t4.o hO
   replace k_t6 := k_t6.o hO
   replace k_t7 := k_t7.o hO
   replace k_t9 := k_t9.o hO
   replace k_t10 := k_t10.o hO
   replace k_t11 := k_t11.o hO
   replace k_s38 := k_s38.o hO
   replace ow_a := Sl.off ow_a hO f0
   replace off0 := off0.o hO
   clear hO
   refine wpT_n (fun W => True) (fun W hS => trivial) trivial ?_
   refine wpT_e rfl ?_
   refine LpA ?_ k_t11 (k := .u8) (n := 64) (f := byt U5)
   intro W19 hO h_
   replace k_t11 : Blk W19 p11_16 (arrK .u8 64 (byt U5)) 30 := h_
   clear h_
   replace k_t2 := k_t2.p hO nq_t2_t11
   replace k_t4 := k_t4.p hO nq_t4_t11
   replace k_t6 := k_t6.p hO nq_t6_t11
   replace k_t7 := k_t7.p hO nq_t7_t11
   replace k_t9 := k_t9.p hO nq_t9_t11
   replace k_t10 := k_t10.p hO nq_t10_t11
   replace k_s38 := k_s38.p hO nq_t11_s38.symm
   replace ow_a := Sl.off ow_a hO (f1 ne_a_t11)
   replace off0 := off0.p hO fb_t11
   clear hO
   refine wpT_n (fun W => True) (fun W hS => trivial) trivial ?_
   refine wpT_z ?_
   exact ⟨p38_17, p11_16, (by (simp only [putL, List.foldl_cons, List.foldl_nil, Act.put, mA, mB, mC] <;> rfl)), off0, k_t2, k_t4, k_t6, k_t7, k_t9, k_t10, k_s38, k_t11, ow_a, fb_s38, nq_t2_s38, nq_t4_s38, nq_t6_s38, nq_t7_s38, nq_t9_s38, nq_t10_s38, ne_a_s38, fb_t11, nq_t2_t11, nq_t4_t11, nq_t6_t11, nq_t7_t11, nq_t9_t11, nq_t10_t11, nq_t11_s38.symm, ne_a_t11⟩
 rintro _ W20 ⟨j_s38, j_t11, rfl, off0, k_t2, k_t4, k_t6, k_t7, k_t9, k_t10, k_s38, k_t11, ow_a, fb_s38, nq_t2_s38, nq_t4_s38, nq_t6_s38, nq_t7_s38, nq_t9_s38, nq_t10_s38, ne_a_s38, fb_t11, nq_t2_t11, nq_t4_t11, nq_t6_t11, nq_t7_t11, nq_t9_t11, nq_t10_t11, nq_s38_t11, ne_a_t11⟩
 simp only [putL, List.foldl_cons, List.foldl_nil]
 (try simp only [Act.put, mA, mB, mC])
 go_upto_region 8 with fail
 refine wp_region_lit ?_
 refine Lw ?_ (v := .slice (some ⟨j_t11, 0, none⟩) 64 64) (hv := by first | rfl | (go_simp; done) | (go_simp; with_reducible rfl))
 refine Lr ?_ (ofN_c HU6.out (n := 64) (off := 0) k_t11 ap0 (by decide) (by rw [HU5.out]; exact hs_lt' _) (GA_ext hG off0.ext).2.2.1)
 intro W21 hO
 replace k_t4 := k_t4.o hO
 replace k_t6 := k_t6.o hO
 replace k_t7 := k_t7.o hO
 replace k_t9 := k_t9.o hO
 replace off0 := off0.o hO
 clear hO
 refine LnP ?_ (z := c4 0) (t := 42) (cells := c4 U6)
 intro p12_22 W23 n_t12 hO h_
 replace k_t4 := k_t4.o hO
 replace k_t6 := k_t6.o hO
 replace k_t7 := k_t7.o hO
 replace k_t9 := k_t9.o hO
 replace off0 := off0.o hO
 have k_t12 := h_
 clear hO h_ n_t12
 refine wpL_nil ?_
 go_upto_region 9 with fail
 refine wp_region_tr (.q 0 (.q 1 (.q 2 (.q 3 (.q 5 (.q 8 (.q 9 (.e 4 (.e 6 (.e 7 (.e 10 (.e 11 (.e 12 (.e 13 (.q 14 .z))))))))))))))) (fun W => (Blk W p6_4 (s3 U1 U2 U3) 25) ∧ (Blk W p7_7 (p4 hx hy hz ht) 60) ∧ (Blk W p9_10 (p4 x1 y2 z3 t4) 60) ∧ (Blk W p12_22 (c4 U6) 42)) (by kernel_rfl) (by kernel_rfl) ?_
 intro W24 hO
 replace k_t4 := k_t4.o hO
 replace k_t6 := k_t6.o hO
 replace k_t7 := k_t7.o hO
 replace k_t9 := k_t9.o hO
 replace k_t12 := k_t12.o hO
 replace off0 := off0.o hO
 clear hO
 refine ⟨⟨k_t6, k_t7, k_t9, k_t12⟩, ?_⟩
 (refine wpT_q (v := ?_) rfl (by rfl) (fun W hS => ?_) ?_; rotate_left 1; (focus (go_simp; first | done | with_reducible rfl)))
 (try simp only [Act.put, mA, mB, mC])
 refine wpT_q (v := .agg (arrK .u8 32 (byt U3))) rfl (by rfl) (fun W hS => by exact (run_atrow (vs := (arrK .u8 32 (byt U3)).toList) rfl rfl (fun i v hv => by rw [blk_cell (hS.1)]; exact s3c2 i v (by simpa using hv)) (by kernel_rfl) (by kernel_rfl))) ?_
 (try simp only [Act.put, mA, mB, mC])
 refine wpT_q (v := .agg (p4 hx hy hz ht)) rfl (by rfl) (fun W hS => by exact (run_row0 rfl rfl (hS.2.1) (by kernel_rfl) (by kernel_rfl))) ?_
 (try simp only [Act.put, mA, mB, mC])
 refine wpT_q (v := .agg (p4 x1 y2 z3 t4)) rfl (by rfl) (fun W hS => by exact (run_row0 rfl rfl (hS.2.2.1) (by kernel_rfl) (by kernel_rfl))) ?_
 (try simp only [Act.put, mA, mB, mC])
 refine wpT_q (v := .agg (c4 U6)) rfl (by rfl) (fun W hS => by exact (run_row0 rfl rfl (hS.2.2.2) (by kernel_rfl) (by kernel_rfl))) ?_
 (try simp only [Act.put, mA, mB, mC])
 refine wpT_q (v := .agg (p4 hx hy hz ht)) rfl (by rfl) (fun W hS => by exact (run_row0 rfl rfl (hS.2.1) (by kernel_rfl) (by kernel_rfl))) ?_
 (try simp only [Act.put, mA, mB, mC])
 refine wpT_q (v := .agg (c4 U6)) rfl (by rfl) (fun W hS => by exact (run_row0 rfl rfl (hS.2.2.2) (by kernel_rfl) (by kernel_rfl))) ?_
 (try simp only [Act.put, mA, mB, mC])
 refine wpT_e rfl ?_
 refine Lr ?_ (c12 W24 (GA_ext hG off0.ext).1)
 intro W25 hO
 replace k_t4 := k_t4.o hO
 replace k_t6 := k_t6.o hO
 replace k_t7 := k_t7.o hO
 replace k_t9 := k_t9.o hO
 replace k_t12 := k_t12.o hO
 replace off0 := off0.o hO
 clear hO
 refine wpT_n (fun W => (Blk W p6_4 (s3 U1 U2 U3) 25) ∧ (Blk W p7_7 (p4 hx hy hz ht) 60) ∧ (Blk W p9_10 (p4 x1 y2 z3 t4) 60) ∧ (Blk W p12_22 (c4 U6) 42)) (fun W hS => ⟨hS.1, hS.2.1, hS.2.2.1, hS.2.2.2⟩) ⟨k_t6, k_t7, k_t9, k_t12⟩ ?_
 refine wpT_e rfl ?_
 refine Lr ?_ (bytesN_c lU6 W25 (GA_ext hG off0.ext).2.2.1)
 intro W26 hO
 replace k_t4 := k_t4.o hO
 replace k_t6 := k_t6.o hO
 replace k_t7 := k_t7.o hO
 replace k_t9 := k_t9.o hO
 replace k_t12 := k_t12.o hO
 replace off0 := off0.o hO
 clear hO
 refine wpT_n (fun W => (Blk W p6_4 (s3 U1 U2 U3) 25) ∧ (Blk W p7_7 (p4 hx hy hz ht) 60) ∧ (Blk W p9_10 (p4 x1 y2 z3 t4) 60) ∧ (Blk W p12_22 (c4 U6) 42)) (fun W hS => ⟨hS.1, hS.2.1, hS.2.2.1, hS.2.2.2⟩) ⟨k_t6, k_t7, k_t9, k_t12⟩ ?_
 refine wpT_e rfl ?_
 refine Lr ?_ (c18 W26 (GA_ext hG off0.ext).1)
 intro W27 hO
 replace k_t4 := k_t4.o hO
 replace k_t6 := k_t6.o hO
 replace k_t7 := k_t7.o hO
 replace k_t9 := k_t9.o hO
 replace k_t12 := k_t12.o hO
 replace off0 := off0.o hO
 clear hO
 refine wpT_n (fun W => (Blk W p6_4 (s3 U1 U2 U3) 25) ∧ (Blk W p7_7 (p4 hx hy hz ht) 60) ∧ (Blk W p9_10 (p4 x1 y2 z3 t4) 60) ∧ (Blk W p12_22 (c4 U6) 42)) (fun W hS => ⟨hS.1, hS.2.1, hS.2.2.1, hS.2.2.2⟩) ⟨k_t6, k_t7, k_t9, k_t12⟩ ?_
 refine wpT_e rfl ?_
 refine Lr ?_ (bytesN_c lU6 W27 (GA_ext hG off0.ext).2.2.1)
 intro W28 hO
 replace k_t4 := k_t4.o hO
 replace k_t6 := k_t6.o hO
 replace k_t7 := k_t7.o hO
 replace k_t9 := k_t9.o hO
 replace k_t12 := k_t12.o hO
 replace off0 := off0.o hO
 clear hO
 refine wpT_n (fun W => (Blk W p6_4 (s3 U1 U2 U3) 25) ∧ (Blk W p7_7 (p4 hx hy hz ht) 60) ∧ (Blk W p9_10 (p4 x1 y2 z3 t4) 60) ∧ (Blk W p12_22 (c4 U6) 42)) (fun W hS => ⟨hS.1, hS.2.1, hS.2.2.1, hS.2.2.2⟩) ⟨k_t6, k_t7, k_t9, k_t12⟩ ?_
 refine wpT_e rfl ?_
 refine Lr ?_ (c24 W28 (GA_ext hG off0.ext).1)
 intro W29 hO
 replace k_t4 := k_t4.o hO
 replace k_t6 := k_t6.o hO
 replace k_t7 := k_t7.o hO
 replace k_t9 := k_t9.o hO
 replace k_t12 := k_t12.o hO
 replace off0 := off0.o hO
 clear hO
 refine wpT_n (fun W => (Blk W p6_4 (s3 U1 U2 U3) 25) ∧ (Blk W p7_7 (p4 hx hy hz ht) 60) ∧ (Blk W p9_10 (p4 x1 y2 z3 t4) 60) ∧ (Blk W p12_22 (c4 U6) 42)) (fun W hS => ⟨hS.1, hS.2.1, hS.2.2.1, hS.2.2.2⟩) ⟨k_t6, k_t7, k_t9, k_t12⟩ ?_
 refine wpT_e rfl ?_
 refine LnS ?_ (z := (p4 hx hy hz ht) ++ (p4 x1 y2 z3 t4) ++ (p4 x13 y14 z15 t16) ++ (p4 x19 y20 z21 t22)) (t := 60) (n := 4) (c := 4)
 intro p54_30 W30 n_s54 hO h_
 replace k_t4 := k_t4.o hO
 replace k_t6 := k_t6.o hO
 replace k_t7 := k_t7.o hO
 replace k_t9 := k_t9.o hO
 replace k_t12 := k_t12.o hO
 replace off0 := off0.o hO
 have k_s54 := h_
 clear hO h_ n_s54
 refine wpT_n (fun W => (Blk W p6_4 (s3 U1 U2 U3) 25) ∧ (Blk W p7_7 (p4 hx hy hz ht) 60) ∧ (Blk W p9_10 (p4 x1 y2 z3 t4) 60) ∧ (Blk W p12_22 (c4 U6) 42)) (fun W hS => ⟨hS.1, hS.2.1, hS.2.2.1, hS.2.2.2⟩) ⟨k_t6, k_t7, k_t9, k_t12⟩ ?_
 refine wpT_e rfl ?_
 refine wpL_call (R := fun v W => ∃ p, v = .slice (some ⟨p, 0, none⟩) 16 64 ∧ W30.heap.size ≤ p ∧ Off [] W30 W ∧ Blk W p (arrK .u8 64 (byt U7)) 30) ((mark_c (kn := kn) hr r5 r17 r23 HU7.out p54_30 W30 (GA_ext hG off0.ext) k_s54).mono fun e W h => by obtain ⟨p, h1, h2⟩ := h; exact ⟨_, h1, p, rfl, h2⟩) (by rfl) rfl (by kernel_rfl) rfl ?_
 (try simp only [Act.put, mA, mB, mC])
 rintro _ W31 ⟨pm31, rfl, n_mk, hO, h_⟩
 (try simp only [Act.put, mA, mB, mC])
 replace k_t4 := k_t4.o hO
 replace k_t6 := k_t6.o hO
 replace k_t7 := k_t7.o hO
 replace k_t9 := k_t9.o hO
 replace k_t12 := k_t12.o hO
 replace off0 := off0.o hO
 have k_mk := h_
 clear hO h_ n_mk
 refine wpT_n (fun W => (Blk W p6_4 (s3 U1 U2 U3) 25) ∧ (Blk W p7_7 (p4 hx hy hz ht) 60) ∧ (Blk W p9_10 (p4 x1 y2 z3 t4) 60) ∧ (Blk W p12_22 (c4 U6) 42)) (fun W hS => ⟨hS.1, hS.2.1, hS.2.2.1, hS.2.2.2⟩) ⟨k_t6, k_t7, k_t9, k_t12⟩ ?_
 (refine wpT_q (v := ?_) rfl (by rfl) (fun W hS => ?_) ?_; rotate_left 1; (focus (go_simp; first | done | with_reducible rfl)))
 (try simp only [Act.put, mA, mB, mC])
 refine wpT_z ?_
 go_upto_region 10 with fail
 refine Rx1 9 14 (z := arrK .u8 32 (byt 0)) (t := 22) ?_
 refine Xl ?_ k_t12
 refine Xv ?_
 refine Xf ?_ (fun W hW => ofN_c HU9.out (n := 16) (off := 0) (blk_step k_mk hW) (h16 HU8.out) (by decide) qU8 (GA_ext (GA_ext hG off0.ext) hW).2.2.1)
 refine Xv ?_
 refine Xw ?_ (v := .slice (some ⟨p6_4, 0, none⟩) 32 32)
 refine Xf ?_ (fun W hW => ofN_c HU10.out (n := 32) (off := 0) (blk_step k_t6 hW) s3c0 (by decide) bU1 (GA_ext (GA_ext hG off0.ext) hW).2.2.1)
 refine Xf ?_ (fun W hW => mulN_c HU11.out (Nat.lt_trans lU9 LL_256) (Nat.lt_trans lU10 LL_256) W (GA_ext (GA_ext hG off0.ext) hW).2.2.1)
 refine Xf ?_ (fun W hW => addN_c HU12.out (Nat.lt_trans lU6 LL_256) (Nat.lt_trans lU11 LL_256) W (GA_ext (GA_ext hG off0.ext) hW).2.2.1)
 refine Xf ?_ (fun W hW => bytesN_c lU12 W (GA_ext (GA_ext hG off0.ext) hW).2.2.1)
 refine XN ?_
 intro p14_32 W32 n_t14 hE h_t14
 have hO := off_ext hE
 have nq_t4_t14 := bn k_t4 n_t14
 have nq_t9_t14 := bn k_t9 n_t14
 have nq_mk_t14 := bn k_mk n_t14
 have fb_t14 := fbn off0 n_t14
 replace k_t4 := k_t4.o hO
 replace k_t9 := k_t9.o hO
 replace k_mk := k_mk.o hO
 replace off0 := off0.o hO
 clear hO hE n_t14
 have k_t14 : Blk W32 p14_32 (arrK .u8 32 (byt 0)) 22 := h_t14
 clear h_t14
 refine LpA ?_ k_t14 (k := .u8) (n := 32) (f := byt U12)
 intro W33 hO h_
 replace k_t14 : Blk W33 p14_32 (arrK .u8 32 (byt U12)) 22 := h_
 clear h_
 replace k_t4 := k_t4.p hO nq_t4_t14
 replace k_t9 := k_t9.p hO nq_t9_t14
 replace k_mk := k_mk.p hO nq_mk_t14
 replace off0 := off0.p hO fb_t14
 clear hO
 refine LN ?_
 go_upto_region 11 with fail
 refine wp_region_lit ?_
 refine L0 ?_ k_t9
 refine Lr ?_ (encN_c r5.rw HU13.out W33 (GA_ext hG off0.ext).1)
 intro W34 hO
 replace k_t4 := k_t4.o hO
 replace k_mk := k_mk.o hO
 replace k_t14 := k_t14.o hO
 replace off0 := off0.o hO
 clear hO
 refine LnA ?_ (z := arrK .u8 32 (byt 0)) (t := 22) (k := .u8) (n := 32) (f := byt U13)
 intro p15_35 W36 n_t15 hO h_
 replace k_t4 := k_t4.o hO
 replace k_mk := k_mk.o hO
 replace k_t14 := k_t14.o hO
 replace off0 := off0.o hO
 have k_t15 := h_
 clear hO h_ n_t15
 refine wpL_nil ?_
 go_upto_region 12 with fail
 refine wp_region_tr (.q 1 (.q 3 (.q 5 (.e 0 (.e 2 (.e 4 (.e 6 (.q 7 (.q 8 (.e 9 (.q 10 .z))))))))))) (fun W => True) (by kernel_rfl) (by kernel_rfl) ?_
 intro W37 hO
 replace k_t4 := k_t4.o hO
 replace k_mk := k_mk.o hO
 replace k_t14 := k_t14.o hO
 replace k_t15 := k_t15.o hO
 replace off0 := off0.o hO
 clear hO
 refine ⟨trivial, ?_⟩
 refine wpT_q (v := .slice (some ⟨p15_35, 0, none⟩) 32 32) rfl (by rfl) (fun W hS => by first | rfl | (go_simp; done) | (go_simp; with_reducible rfl)) ?_
 (try simp only [Act.put, mA, mB, mC])
 (refine wpT_q (v := ?_) rfl (by rfl) (fun W hS => ?_) ?_; rotate_left 1; (focus (go_simp; first | done | with_reducible rfl)))
 (try simp only [Act.put, mA, mB, mC])
 refine wpT_q (v := .slice (some ⟨p14_32, 0, none⟩) 32 32) rfl (by rfl) (fun W hS => by first | rfl | (go_simp; done) | (go_simp; with_reducible rfl)) ?_
 (try simp only [Act.put, mA, mB, mC])
 refine wpT_e rfl ?_
 refine LnS ?_ (z := #[]) (t := 5) (n := 0) (c := 0)
 intro p67_38 W38 n_s67 hO h_
 have ne_s67_t4 : Value.ownBlock (.slice (some ⟨p67_38, 0, none⟩) 0 0) ≠ some p4_2 := obn k_t4 n_s67
 have ne_s67_mk : Value.ownBlock (.slice (some ⟨p67_38, 0, none⟩) 0 0) ≠ some pm31 := obn k_mk n_s67
 have ne_s67_t14 : Value.ownBlock (.slice (some ⟨p67_38, 0, none⟩) 0 0) ≠ some p14_32 := obn k_t14 n_s67
 have fr_s67 : Fr (Value.ownBlock (.slice (some ⟨p67_38, 0, none⟩) 0 0)) w.heap.size [] := frn off0 n_s67
 replace k_t4 := k_t4.o hO
 replace k_mk := k_mk.o hO
 replace k_t14 := k_t14.o hO
 replace k_t15 := k_t15.o hO
 replace off0 := off0.o hO
 have ow_s67 : Own W38 (.slice (some ⟨p67_38, 0, none⟩) 0 0) [] := own_blk h_ (by rfl) (by show 0 ≤ maxLen; decide)
 clear hO h_ n_s67
 refine wpT_n (fun W => True) (fun W hS => trivial) trivial ?_
 refine wpT_e rfl ?_
 refine wpL_append (xs := []) (ys := (lb 32 U13)) (by rfl) rfl rfl rfl ow_s67 (sl_part (V := U13) (n := 32) (off := 0) k_t15 ap0 (by decide) (by decide)) (by first | omega | (simp only [List.length_append, List.length_cons, List.length_nil, lb_length]; omega)) ?_
 (try simp only [Act.put, mA, mB, mC])
 intro v69_39 W39 ow_a69 hO at_a69 nil_a69
 clear nil_a69
 have ne_a69_t4 := own_ne at_a69 ne_s67_t4 (blk_lt k_t4)
 have ne_a69_t14 := own_ne at_a69 ne_s67_t14 (blk_lt k_t14)
 have fr_a69 := own_fr at_a69 fr_s67 off0.size
 replace k_t4 := blk_off k_t4 hO (nmo ne_s67_t4)
 replace k_mk := blk_off k_mk hO (nmo ne_s67_mk)
 replace k_t14 := blk_off k_t14 hO (nmo ne_s67_t14)
 replace off0 := off0.step hO (io fr_s67)
 clear hO at_a69
 refine wpT_n (fun W => True) (fun W hS => trivial) trivial ?_
 refine wpT_e rfl ?_
 refine wpL_append (xs := ([] ++ (lb 32 U13))) (ys := (lb 16 U8)) (by rfl) rfl rfl rfl ow_a69 (sl_part (V := U8) (n := 16) (off := 0) k_mk (h16 HU8.out) (by decide) (by decide)) (by first | omega | (simp only [List.length_append, List.length_cons, List.length_nil, lb_length]; omega)) ?_
 (try simp only [Act.put, mA, mB, mC])
 intro v71_40 W40 ow_a71 hO at_a71 nil_a71
 clear nil_a71
 have ne_a71_t4 := own_ne at_a71 ne_a69_t4 (blk_lt k_t4)
 have fr_a71 := own_fr at_a71 fr_a69 off0.size
 replace k_t4 := blk_off k_t4 hO (nmo ne_a69_t4)
 replace k_t14 := blk_off k_t14 hO (nmo ne_a69_t14)
 replace off0 := off0.step hO (io fr_a69)
 clear hO at_a71
 refine wpT_n (fun W => True) (fun W hS => trivial) trivial ?_
 refine wpT_e rfl ?_
 refine wpL_append (xs := (([] ++ (lb 32 U13)) ++ (lb 16 U8))) (ys := (lb 32 U12)) (by rfl) rfl rfl rfl ow_a71 (sl_part (V := U12) (n := 32) (off := 0) k_t14 ap0 (by decide) (by decide)) (by first | omega | (simp only [List.length_append, List.length_cons, List.length_nil, lb_length]; omega)) ?_
 (try simp only [Act.put, mA, mB, mC])
 intro v73_41 W41 ow_a73 hO at_a73 nil_a73
 clear nil_a73
 have ne_a73_t4 := own_ne at_a73 ne_a71_t4 (blk_lt k_t4)
 replace k_t4 := blk_off k_t4 hO (nmo ne_a71_t4)
 replace off0 := off0.step hO (io fr_a71)
 clear hO at_a73
 refine wpT_n (fun W => (Own W v73_41 ((([] ++ (lb 32 U13)) ++ (lb 16 U8)) ++ (lb 32 U12)))) (fun W hS => trivial) ow_a73 ?_
 have ln_ : ((([] ++ (lb 32 U13)) ++ (lb 16 U8)) ++ (lb 32 U12)).length = 80 := by simp only [List.length_append, lb_length, List.length_nil]
 obtain ⟨gz, cz, curz, ez, -, -⟩ := own_form ow_a73 (by rw [ln_]; decide)
 rw [ln_] at ez
 refine wpT_q (v := .pointer (some ⟨gz, 0, none⟩)) rfl (by rfl) (fun W hS => by exact (run_s2a (n := 80) rfl (by show v73_41 = _; exact ez) Tryd.underlying45)) ?_
 (try simp only [Act.put, mA, mB, mC])
 refine wpT_q (v := .agg (arrK .u8 80 (byt (U13 + 2 ^ 256 * (U8 + P128 * U12))))) rfl (by rfl) (fun W hS => by exact (run_atrow (vs := (arrK .u8 80 (byt (U13 + 2 ^ 256 * (U8 + P128 * U12)))).toList) rfl rfl (own_at (hS) ez ln_ (by decide) (by rw [List.nil_append]; exact lb_join3 bU13 qU8)) (by kernel_rfl) (by rw [Array.length_toList, arrK_size]; kernel_rfl))) ?_
 (try simp only [Act.put, mA, mB, mC])
 refine wpT_e rfl ?_
 refine LpA ?_ k_t4 (k := .u8) (n := 80) (f := byt (U13 + 2 ^ 256 * (U8 + P128 * U12)))
 intro W42 hO h_
 replace k_t4 : Blk W42 p4_2 (arrK .u8 80 (byt (U13 + 2 ^ 256 * (U8 + P128 * U12)))) 45 := h_
 clear h_
 replace ow_a73 := Own.off ow_a73 hO (f1 ne_a73_t4)
 replace off0 := off0.p hO fb_t4
 clear hO
 refine wpT_n (fun W => (Own W v73_41 ((([] ++ (lb 32 U13)) ++ (lb 16 U8)) ++ (lb 32 U12)))) (fun W hS => hS) ow_a73 ?_
 (refine wpT_q (v := ?_) rfl (by rfl) (fun W hS => ?_) ?_; rotate_left 1; (focus (go_simp; first | done | with_reducible rfl)))
 (try simp only [Act.put, mA, mB, mC])
 refine wpT_z ?_
 go_wp2
 rw [show arrK .u8 80 (byt (U13 + 2 ^ 256 * (U8 + P128 * U12))) = arrK .u8 80 (byt (vPr S h)) by rw [HU13.out, HU12.out, HU11.out, HU10.out, HU9.out, HU8.out, HU7.out, HU6.out, HU5.out, HU4.out, HU3.out, HU2.out, HU1.out]; rfl] at k_t4
 exact bodyPost_ret (res_row2 rfl rfl rfl k_t4 (by kernel_rfl) (by rw [arrK_size]; kernel_rfl)) rfl ⟨rfl, off0.ext⟩
theorem prove_0 (hd : kn.d) (hb : kn.b) (hc : kn.c) (S : Nat) (v : Value) (L : List UInt8) (hL : L.length ≤ 1099511627776) (hv : vpt (kP S) L = none) :
  ∀ w, GA kn w → Sl w v L → Calls Tryd.prog 23 #[.agg (arrK .u8 32 (byt S)), v] w fun e w' => Ret (.tuple #[.agg (arrK .u8 80 (byt 0)), .int .i64 15]) w w' e := by
 obtain ⟨U1, hU1⟩ := exn (kN S)
 have bU1 : U1 < 2 ^ 256 := by rw [hU1]; exact kN_lt _
 have HU1 := Lib.hid hU1
 clear hU1
 obtain ⟨U2, hU2⟩ := exn (kD S)
 have bU2 : U2 < 2 ^ 256 := by rw [hU2]; exact kD_lt _
 have HU2 := Lib.hid hU2
 clear hU2
 obtain ⟨U3, hU3⟩ := exn (kP S)
 have bU3 : U3 < 2 ^ 256 := by rw [hU3]; exact kP_lt _
 have HU3 := Lib.hid hU3
 clear hU3
 have hv_ : vpt U3 L = none := by rw [HU3.out]; exact hv
 intro w hG hsl
 have ow_a := hsl
 have off0 : Off [] w w := Off.refl _ _
 go_enter Tryd.func23, Tryd.ntmps23
 go_upto_region 0 with fail
 refine wp_region_lit ?_
 refine Ln ?_ (z := arrK .u8 32 (byt S)) (t := 22)
 intro p2_1 W1 n_t2 hO h_
 replace ow_a := Sl.off ow_a hO f0
 replace off0 := off0.o hO
 have k_t2 := h_
 clear hO h_ n_t2
 refine Ln ?_ (z := arrK .u8 80 (byt 0)) (t := 45)
 intro p4_2 W2 n_t4 hO h_
 have fb_t4 := fbn off0 n_t4
 replace k_t2 := k_t2.o hO
 replace ow_a := Sl.off ow_a hO f0
 replace off0 := off0.o hO
 have k_t4 := h_
 clear hO h_ n_t4
 refine Lw ?_ (v := .int .i64 0)
 refine wpL_nil ?_
 go_upto_region 1 with fail
 refine wp_region_lit ?_
 refine L0A ?_ k_t2
 refine Lr ?_ (spreadN_c hd hb HU1.out HU2.out HU3.out W2 (GA_ext hG off0.ext))
 intro W3 hO
 replace k_t4 := k_t4.o hO
 replace ow_a := Sl.off ow_a hO f0
 replace off0 := off0.o hO
 clear hO
 refine LnP ?_ (z := s3 0 0 0) (t := 25) (cells := s3 U1 U2 U3) (hi := by rw [s3_size]; kernel_rfl) (hs := by first | rw [s3_size, s3_size] | rw [s3_size] | kernel_rfl) (h1 := by exact s3_one)
 intro p6_4 W5 n_t6 hO h_
 replace k_t4 := k_t4.o hO
 replace ow_a := Sl.off ow_a hO f0
 replace off0 := off0.o hO
 have k_t6 := h_
 clear hO h_ n_t6
 refine wpL_nil ?_
 go_upto_region 2 with fail
 refine wp_region_lit ?_
 refine Lv ?_
 refine wpL_gets (vs := (arrK .u8 32 (byt U3)).toList) (by rfl) rfl rfl k_t6 (subL s3c2) (by kernel_rfl) (by kernel_rfl) ?_
 (try simp only [Act.put, mA, mB, mC])
 refine Lv ?_
 refine Lr ?_ (point_n (kn := kn) hc hL hv_ v W5 (GA_ext hG off0.ext) ow_a)
 intro W6 hO
 replace k_t4 := k_t4.o hO
 replace off0 := off0.o hO
 clear hO
 refine Lv ?_
 refine Lv ?_
 refine Lw ?_ (v := .int .i64 15)
 refine LnP ?_ (z := p4 0 0 0 0) (t := 60) (cells := p4 0 0 0 0)
 intro p7_7 W8 n_t7 hO h_
 replace k_t4 := k_t4.o hO
 replace off0 := off0.o hO
 clear hO h_ n_t7
 refine Lw ?_ (v := .int .i64 15)
 refine wpL_nil ?_
 go_upto_region 4 with fail
 refine wp_region_lit ?_
 refine Lw ?_ (v := .agg (arrK .u8 80 (byt 0))) (hv := by kernel_rfl)
 refine Lw ?_ (v := .int .i64 15)
 refine LpA ?_ k_t4 (k := .u8) (n := 80) (f := byt 0)
 intro W9 hO h_
 replace k_t4 : Blk W9 p4_2 (arrK .u8 80 (byt 0)) 45 := h_
 clear h_
 replace off0 := off0.p hO fb_t4
 clear hO
 refine Lw ?_ (v := .int .i64 15)
 refine wpL_nil ?_
 go_wp2
 exact bodyPost_ret (res_row2 rfl rfl rfl k_t4 (by kernel_rfl) (by rw [arrK_size]; kernel_rfl)) rfl ⟨rfl, off0.ext⟩
end Go.Proofs.YtefpoollmbmkfaaDoor

namespace Go.Proofs.YtefpoollmbmkfaaDoor
set_option maxHeartbeats 2000000
set_option maxRecDepth 100000
open Go.RowKit
attribute [local irreducible] wpList wpTr
variable {kn : Kn}
open Sc (LL clampF)
attribute [local irreducible] hs
theorem P128_256 : P128 < 2 ^ 256 := by decide
theorem wideN_c {C : Nat} (hC : C < P128) (v : Value) (w : World) (h : Sl w v (lb 16 C)) : Calls Tryd.prog 66 #[v] w fun e w' => Ret (.agg (arrK .u8 32 (byt C))) w w' e := by
  have h2 := wide_c v (lb 16 C) (lb_length _ _) w h
  rw [le_lb 16 C hC] at h2
  exact h2
theorem lb16_inj {A B : Nat} (hA : A < P128) (hB : B < P128) (h : lb 16 A = lb 16 B) : A = B := by
  rw [← le_lb 16 A hA, ← le_lb 16 B hB, h]
theorem run_strneb {W : World} {o : Oper} {a : Act} {x y : Operand} {t : TypeId} {l m : List UInt8} {b : Bool} (hb : (!decide (l = m)) = b) (ho : o.op = .binOp .neq 9 x y t) (hx : a.eval x = str l) (hy : a.eval y = str m) : (execOp a.eval o).run Tryd.prog W = .ok (.value (.bool b)) W := by
  exact hb ▸ run_strne ho hx hy
/-- what is reckoned of a proof by a text's point h -/
def chk (V P : Nat) (h : Pr) : Nat := ch V h (dPt (pG P)) (padd (pm BP (pN P)) (pm (pneg (dPt V)) (pC P))) (padd (pm h (pN P)) (pm (pneg (dPt (pG P))) (pC P)))

theorem check_a (hd : kn.d) (hb : kn.b) (hc : kn.c) {V P : Nat} (hV : V < 2 ^ 256) (hP : B80 P) (v : Value) (L : List UInt8) (hL : L.length ≤ 1099511627776) (hk1 : dOk V = false) :
  ∀ w, GA kn w → Sl w v L → Calls Tryd.prog 26 #[.agg (arrK .u8 32 (byt V)), v, .agg (arrK .u8 80 (byt P))] w fun e w' => Ret (.tuple #[.agg (arrK .u8 64 (byt 0)), .int .i64 15]) w w' e := by
 have kc := key_0 (kn := kn) hc hV hk1
 intro w hG hsl
 have off0 : Off [] w w := Off.refl _ _
 go_enter Tryd.func26, Tryd.ntmps26
 go_upto_region 0 with fail
 refine wp_region_lit ?_
 refine Ln ?_ (z := arrK .u8 32 (byt V)) (t := 22)
 intro p3_1 W1 n_t3 hO h_
 replace off0 := off0.o hO
 have k_t3 := h_
 clear hO h_ n_t3
 refine Ln ?_ (z := arrK .u8 80 (byt P)) (t := 45)
 intro p5_2 W2 n_t5 hO h_
 replace k_t3 := k_t3.o hO
 replace off0 := off0.o hO
 clear hO h_ n_t5
 refine Ln ?_ (z := arrK .u8 64 (byt 0)) (t := 30)
 intro p6_3 W3 n_t6 hO h_
 have fb_t6 := fbn off0 n_t6
 replace k_t3 := k_t3.o hO
 replace off0 := off0.o hO
 have k_t6 := h_
 clear hO h_ n_t6
 refine Lw ?_ (v := .int .i64 0)
 refine wpL_nil ?_
 go_upto_region 1 with fail
 refine wp_region_lit ?_
 refine L0A ?_ k_t3
 refine Lr ?_ (kc W3 (GA_ext hG off0.ext))
 intro W4 hO
 replace k_t6 := k_t6.o hO
 replace off0 := off0.o hO
 clear hO
 refine Lv ?_
 refine Lv ?_
 refine Lw ?_ (v := .int .i64 15)
 refine LnP ?_ (z := p4 0 0 0 0) (t := 60) (cells := p4 0 0 0 0)
 intro p8_5 W6 n_t8 hO h_
 replace k_t6 := k_t6.o hO
 replace off0 := off0.o hO
 clear hO h_ n_t8
 refine Lw ?_ (v := .int .i64 15)
 refine wpL_nil ?_
 go_upto_region 3 with fail
 refine wp_region_lit ?_
 refine Lw ?_ (v := .agg (arrK .u8 64 (byt 0))) (hv := by kernel_rfl)
 refine Lw ?_ (v := .int .i64 15)
 refine LpA ?_ k_t6 (k := .u8) (n := 64) (f := byt 0)
 intro W7 hO h_
 replace k_t6 : Blk W7 p6_3 (arrK .u8 64 (byt 0)) 30 := h_
 clear h_
 replace off0 := off0.p hO fb_t6
 clear hO
 refine Lw ?_ (v := .int .i64 15)
 refine wpL_nil ?_
 go_wp2
 exact bodyPost_ret (res_row2 rfl rfl rfl k_t6 (by kernel_rfl) (by rw [arrK_size]; kernel_rfl)) rfl ⟨rfl, off0.ext⟩
theorem check_b (hd : kn.d) (hb : kn.b) (hc : kn.c) {V P : Nat} (hV : V < 2 ^ 256) (hP : B80 P) (v : Value) (L : List UInt8) (hL : L.length ≤ 1099511627776) (hk1 : dOk V = true) (hk2 : pm (dPt V) 8 = p0) :
  ∀ w, GA kn w → Sl w v L → Calls Tryd.prog 26 #[.agg (arrK .u8 32 (byt V)), v, .agg (arrK .u8 80 (byt P))] w fun e w' => Ret (.tuple #[.agg (arrK .u8 64 (byt 0)), .int .i64 15]) w w' e := by
 obtain ⟨kx, ky, kt, kr, kc⟩ := key_1 (kn := kn) hc hV hk1 hk2
 intro w hG hsl
 have off0 : Off [] w w := Off.refl _ _
 go_enter Tryd.func26, Tryd.ntmps26
 go_upto_region 0 with fail
 refine wp_region_lit ?_
 refine Ln ?_ (z := arrK .u8 32 (byt V)) (t := 22)
 intro p3_1 W1 n_t3 hO h_
 replace off0 := off0.o hO
 have k_t3 := h_
 clear hO h_ n_t3
 refine Ln ?_ (z := arrK .u8 80 (byt P)) (t := 45)
 intro p5_2 W2 n_t5 hO h_
 replace k_t3 := k_t3.o hO
 replace off0 := off0.o hO
 clear hO h_ n_t5
 refine Ln ?_ (z := arrK .u8 64 (byt 0)) (t := 30)
 intro p6_3 W3 n_t6 hO h_
 have fb_t6 := fbn off0 n_t6
 replace k_t3 := k_t3.o hO
 replace off0 := off0.o hO
 have k_t6 := h_
 clear hO h_ n_t6
 refine Lw ?_ (v := .int .i64 0)
 refine wpL_nil ?_
 go_upto_region 1 with fail
 refine wp_region_lit ?_
 refine L0A ?_ k_t3
 refine Lr ?_ (kc W3 (GA_ext hG off0.ext))
 intro W4 hO
 replace k_t6 := k_t6.o hO
 replace off0 := off0.o hO
 clear hO
 refine Lv ?_
 refine Lv ?_
 refine Lw ?_ (v := .int .i64 15)
 refine LnP ?_ (z := p4 0 0 0 0) (t := 60) (cells := p4 kx ky 1 kt)
 intro p8_5 W6 n_t8 hO h_
 replace k_t6 := k_t6.o hO
 replace off0 := off0.o hO
 clear hO h_ n_t8
 refine Lw ?_ (v := .int .i64 15)
 refine wpL_nil ?_
 go_upto_region 3 with fail
 refine wp_region_lit ?_
 refine Lw ?_ (v := .agg (arrK .u8 64 (byt 0))) (hv := by kernel_rfl)
 refine Lw ?_ (v := .int .i64 15)
 refine LpA ?_ k_t6 (k := .u8) (n := 64) (f := byt 0)
 intro W7 hO h_
 replace k_t6 : Blk W7 p6_3 (arrK .u8 64 (byt 0)) 30 := h_
 clear h_
 replace off0 := off0.p hO fb_t6
 clear hO
 refine Lw ?_ (v := .int .i64 15)
 refine wpL_nil ?_
 go_wp2
 exact bodyPost_ret (res_row2 rfl rfl rfl k_t6 (by kernel_rfl) (by rw [arrK_size]; kernel_rfl)) rfl ⟨rfl, off0.ext⟩
theorem check_c0 (hd : kn.d) (hb : kn.b) (hc : kn.c) {V P : Nat} (hV : V < 2 ^ 256) (hP : B80 P) (v : Value) (L : List UInt8) (hL : L.length ≤ 1099511627776) (hk1 : dOk V = true) (hk2 : ¬ pm (dPt V) 8 = p0) (hok : dOk (pG P) = false) (h1 : LL ≤ pN P) :
  ∀ w, GA kn w → Sl w v L → Calls Tryd.prog 26 #[.agg (arrK .u8 32 (byt V)), v, .agg (arrK .u8 80 (byt P))] w fun e w' => Ret (.tuple #[.agg (arrK .u8 64 (byt 0)), .int .i64 17]) w w' e := by
 obtain ⟨kx, ky, kt, kr, kc⟩ := key_2 (kn := kn) hc hV hk1 hk2
 have pc := parts_0 (kn := kn) hc hP hok h1
 intro w hG hsl
 have off0 : Off [] w w := Off.refl _ _
 go_enter Tryd.func26, Tryd.ntmps26
 go_upto_region 0 with fail
 refine wp_region_lit ?_
 refine Ln ?_ (z := arrK .u8 32 (byt V)) (t := 22)
 intro p3_1 W1 n_t3 hO h_
 replace off0 := off0.o hO
 have k_t3 := h_
 clear hO h_ n_t3
 refine Ln ?_ (z := arrK .u8 80 (byt P)) (t := 45)
 intro p5_2 W2 n_t5 hO h_
 replace k_t3 := k_t3.o hO
 replace off0 := off0.o hO
 have k_t5 := h_
 clear hO h_ n_t5
 refine Ln ?_ (z := arrK .u8 64 (byt 0)) (t := 30)
 intro p6_3 W3 n_t6 hO h_
 have fb_t6 := fbn off0 n_t6
 replace k_t3 := k_t3.o hO
 replace k_t5 := k_t5.o hO
 replace off0 := off0.o hO
 have k_t6 := h_
 clear hO h_ n_t6
 refine Lw ?_ (v := .int .i64 0)
 refine wpL_nil ?_
 go_upto_region 1 with fail
 refine wp_region_lit ?_
 refine L0A ?_ k_t3
 refine Lr ?_ (kc W3 (GA_ext hG off0.ext))
 intro W4 hO
 replace k_t5 := k_t5.o hO
 replace k_t6 := k_t6.o hO
 replace off0 := off0.o hO
 clear hO
 refine Lv ?_
 refine Lv ?_
 refine Lw ?_ (v := .int .i64 0)
 refine LnP ?_ (z := p4 0 0 0 0) (t := 60) (cells := p4 kx ky 1 kt)
 intro p8_5 W6 n_t8 hO h_
 replace k_t5 := k_t5.o hO
 replace k_t6 := k_t6.o hO
 replace off0 := off0.o hO
 clear hO h_ n_t8
 refine Lw ?_ (v := .int .i64 0)
 refine wpL_nil ?_
 go_upto_region 4 with fail
 refine wp_region_lit ?_
 refine L0A ?_ k_t5
 refine Lr ?_ (pc W6 (GA_ext hG off0.ext))
 intro W7 hO
 replace k_t6 := k_t6.o hO
 replace off0 := off0.o hO
 clear hO
 refine Lv ?_
 refine Lv ?_
 refine Lv ?_
 refine Lw ?_ (v := .int .i64 17)
 refine Ln ?_ (z := p4 0 0 0 0) (t := 60)
 intro p10_8 W8 n_t10 hO h_
 have nq_t6_t10 := bn k_t6 n_t10
 have fb_t10 := fbn off0 n_t10
 replace k_t6 := k_t6.o hO
 replace off0 := off0.o hO
 have k_t10 := h_
 clear hO h_ n_t10
 refine Ln ?_ (z := c4 0) (t := 42)
 intro p11_9 W9 n_t11 hO h_
 have nq_t6_t11 := bn k_t6 n_t11
 have nq_t10_t11 := bn k_t10 n_t11
 have fb_t11 := fbn off0 n_t11
 replace k_t6 := k_t6.o hO
 replace k_t10 := k_t10.o hO
 replace off0 := off0.o hO
 have k_t11 := h_
 clear hO h_ n_t11
 refine Lp ?_ k_t10 (cells := p4 0 0 0 0)
 intro W10 hO h_
 clear h_
 replace k_t6 := k_t6.p hO nq_t6_t10
 replace k_t11 := k_t11.p hO nq_t10_t11.symm
 replace off0 := off0.p hO fb_t10
 clear hO
 refine Lp ?_ k_t11 (cells := c4 0)
 intro W11 hO h_
 clear h_
 replace k_t6 := k_t6.p hO nq_t6_t11
 replace off0 := off0.p hO fb_t11
 clear hO
 refine Lw ?_ (v := .int .i64 17)
 refine wpL_nil ?_
 go_upto_region 6 with fail
 refine wp_region_lit ?_
 refine Lw ?_ (v := .agg (arrK .u8 64 (byt 0))) (hv := by kernel_rfl)
 refine Lw ?_ (v := .int .i64 17)
 refine LpA ?_ k_t6 (k := .u8) (n := 64) (f := byt 0)
 intro W12 hO h_
 replace k_t6 : Blk W12 p6_3 (arrK .u8 64 (byt 0)) 30 := h_
 clear h_
 replace off0 := off0.p hO fb_t6
 clear hO
 refine Lw ?_ (v := .int .i64 17)
 refine wpL_nil ?_
 go_wp2
 exact bodyPost_ret (res_row2 rfl rfl rfl k_t6 (by kernel_rfl) (by rw [arrK_size]; kernel_rfl)) rfl ⟨rfl, off0.ext⟩
theorem check_c1 (hd : kn.d) (hb : kn.b) (hc : kn.c) {V P : Nat} (hV : V < 2 ^ 256) (hP : B80 P) (v : Value) (L : List UInt8) (hL : L.length ≤ 1099511627776) (hk1 : dOk V = true) (hk2 : ¬ pm (dPt V) 8 = p0) (hok : dOk (pG P) = false) (h1 : pN P < LL) :
  ∀ w, GA kn w → Sl w v L → Calls Tryd.prog 26 #[.agg (arrK .u8 32 (byt V)), v, .agg (arrK .u8 80 (byt P))] w fun e w' => Ret (.tuple #[.agg (arrK .u8 64 (byt 0)), .int .i64 17]) w w' e := by
 obtain ⟨kx, ky, kt, kr, kc⟩ := key_2 (kn := kn) hc hV hk1 hk2
 have pc := parts_1 (kn := kn) hc hP hok h1
 intro w hG hsl
 have off0 : Off [] w w := Off.refl _ _
 go_enter Tryd.func26, Tryd.ntmps26
 go_upto_region 0 with fail
 refine wp_region_lit ?_
 refine Ln ?_ (z := arrK .u8 32 (byt V)) (t := 22)
 intro p3_1 W1 n_t3 hO h_
 replace off0 := off0.o hO
 have k_t3 := h_
 clear hO h_ n_t3
 refine Ln ?_ (z := arrK .u8 80 (byt P)) (t := 45)
 intro p5_2 W2 n_t5 hO h_
 replace k_t3 := k_t3.o hO
 replace off0 := off0.o hO
 have k_t5 := h_
 clear hO h_ n_t5
 refine Ln ?_ (z := arrK .u8 64 (byt 0)) (t := 30)
 intro p6_3 W3 n_t6 hO h_
 have fb_t6 := fbn off0 n_t6
 replace k_t3 := k_t3.o hO
 replace k_t5 := k_t5.o hO
 replace off0 := off0.o hO
 have k_t6 := h_
 clear hO h_ n_t6
 refine Lw ?_ (v := .int .i64 0)
 refine wpL_nil ?_
 go_upto_region 1 with fail
 refine wp_region_lit ?_
 refine L0A ?_ k_t3
 refine Lr ?_ (kc W3 (GA_ext hG off0.ext))
 intro W4 hO
 replace k_t5 := k_t5.o hO
 replace k_t6 := k_t6.o hO
 replace off0 := off0.o hO
 clear hO
 refine Lv ?_
 refine Lv ?_
 refine Lw ?_ (v := .int .i64 0)
 refine LnP ?_ (z := p4 0 0 0 0) (t := 60) (cells := p4 kx ky 1 kt)
 intro p8_5 W6 n_t8 hO h_
 replace k_t5 := k_t5.o hO
 replace k_t6 := k_t6.o hO
 replace off0 := off0.o hO
 clear hO h_ n_t8
 refine Lw ?_ (v := .int .i64 0)
 refine wpL_nil ?_
 go_upto_region 4 with fail
 refine wp_region_lit ?_
 refine L0A ?_ k_t5
 refine Lr ?_ (pc W6 (GA_ext hG off0.ext))
 intro W7 hO
 replace k_t6 := k_t6.o hO
 replace off0 := off0.o hO
 clear hO
 refine Lv ?_
 refine Lv ?_
 refine Lv ?_
 refine Lw ?_ (v := .int .i64 17)
 refine Ln ?_ (z := p4 0 0 0 0) (t := 60)
 intro p10_8 W8 n_t10 hO h_
 have nq_t6_t10 := bn k_t6 n_t10
 have fb_t10 := fbn off0 n_t10
 replace k_t6 := k_t6.o hO
 replace off0 := off0.o hO
 have k_t10 := h_
 clear hO h_ n_t10
 refine Ln ?_ (z := c4 0) (t := 42)
 intro p11_9 W9 n_t11 hO h_
 have nq_t6_t11 := bn k_t6 n_t11
 have nq_t10_t11 := bn k_t10 n_t11
 have fb_t11 := fbn off0 n_t11
 replace k_t6 := k_t6.o hO
 replace k_t10 := k_t10.o hO
 replace off0 := off0.o hO
 have k_t11 := h_
 clear hO h_ n_t11
 refine Lp ?_ k_t10 (cells := p4 0 0 0 0)
 intro W10 hO h_
 clear h_
 replace k_t6 := k_t6.p hO nq_t6_t10
 replace k_t11 := k_t11.p hO nq_t10_t11.symm
 replace off0 := off0.p hO fb_t10
 clear hO
 refine Lp ?_ k_t11 (cells := c4 0)
 intro W11 hO h_
 clear h_
 replace k_t6 := k_t6.p hO nq_t6_t11
 replace off0 := off0.p hO fb_t11
 clear hO
 refine Lw ?_ (v := .int .i64 17)
 refine wpL_nil ?_
 go_upto_region 6 with fail
 refine wp_region_lit ?_
 refine Lw ?_ (v := .agg (arrK .u8 64 (byt 0))) (hv := by kernel_rfl)
 refine Lw ?_ (v := .int .i64 17)
 refine LpA ?_ k_t6 (k := .u8) (n := 64) (f := byt 0)
 intro W12 hO h_
 replace k_t6 : Blk W12 p6_3 (arrK .u8 64 (byt 0)) 30 := h_
 clear h_
 replace off0 := off0.p hO fb_t6
 clear hO
 refine Lw ?_ (v := .int .i64 17)
 refine wpL_nil ?_
 go_wp2
 exact bodyPost_ret (res_row2 rfl rfl rfl k_t6 (by kernel_rfl) (by rw [arrK_size]; kernel_rfl)) rfl ⟨rfl, off0.ext⟩
theorem check_c2 (hd : kn.d) (hb : kn.b) (hc : kn.c) {V P : Nat} (hV : V < 2 ^ 256) (hP : B80 P) (v : Value) (L : List UInt8) (hL : L.length ≤ 1099511627776) (hk1 : dOk V = true) (hk2 : ¬ pm (dPt V) 8 = p0) (hok : dOk (pG P) = true) (h1 : LL ≤ pN P) :
  ∀ w, GA kn w → Sl w v L → Calls Tryd.prog 26 #[.agg (arrK .u8 32 (byt V)), v, .agg (arrK .u8 80 (byt P))] w fun e w' => Ret (.tuple #[.agg (arrK .u8 64 (byt 0)), .int .i64 17]) w w' e := by
 obtain ⟨kx, ky, kt, kr, kc⟩ := key_2 (kn := kn) hc hV hk1 hk2
 have pc := parts_2 (kn := kn) hc hP hok h1
 intro w hG hsl
 have off0 : Off [] w w := Off.refl _ _
 go_enter Tryd.func26, Tryd.ntmps26
 go_upto_region 0 with fail
 refine wp_region_lit ?_
 refine Ln ?_ (z := arrK .u8 32 (byt V)) (t := 22)
 intro p3_1 W1 n_t3 hO h_
 replace off0 := off0.o hO
 have k_t3 := h_
 clear hO h_ n_t3
 refine Ln ?_ (z := arrK .u8 80 (byt P)) (t := 45)
 intro p5_2 W2 n_t5 hO h_
 replace k_t3 := k_t3.o hO
 replace off0 := off0.o hO
 have k_t5 := h_
 clear hO h_ n_t5
 refine Ln ?_ (z := arrK .u8 64 (byt 0)) (t := 30)
 intro p6_3 W3 n_t6 hO h_
 have fb_t6 := fbn off0 n_t6
 replace k_t3 := k_t3.o hO
 replace k_t5 := k_t5.o hO
 replace off0 := off0.o hO
 have k_t6 := h_
 clear hO h_ n_t6
 refine Lw ?_ (v := .int .i64 0)
 refine wpL_nil ?_
 go_upto_region 1 with fail
 refine wp_region_lit ?_
 refine L0A ?_ k_t3
 refine Lr ?_ (kc W3 (GA_ext hG off0.ext))
 intro W4 hO
 replace k_t5 := k_t5.o hO
 replace k_t6 := k_t6.o hO
 replace off0 := off0.o hO
 clear hO
 refine Lv ?_
 refine Lv ?_
 refine Lw ?_ (v := .int .i64 0)
 refine LnP ?_ (z := p4 0 0 0 0) (t := 60) (cells := p4 kx ky 1 kt)
 intro p8_5 W6 n_t8 hO h_
 replace k_t5 := k_t5.o hO
 replace k_t6 := k_t6.o hO
 replace off0 := off0.o hO
 clear hO h_ n_t8
 refine Lw ?_ (v := .int .i64 0)
 refine wpL_nil ?_
 go_upto_region 4 with fail
 refine wp_region_lit ?_
 refine L0A ?_ k_t5
 refine Lr ?_ (pc W6 (GA_ext hG off0.ext))
 intro W7 hO
 replace k_t6 := k_t6.o hO
 replace off0 := off0.o hO
 clear hO
 refine Lv ?_
 refine Lv ?_
 refine Lv ?_
 refine Lw ?_ (v := .int .i64 17)
 refine Ln ?_ (z := p4 0 0 0 0) (t := 60)
 intro p10_8 W8 n_t10 hO h_
 have nq_t6_t10 := bn k_t6 n_t10
 have fb_t10 := fbn off0 n_t10
 replace k_t6 := k_t6.o hO
 replace off0 := off0.o hO
 have k_t10 := h_
 clear hO h_ n_t10
 refine Ln ?_ (z := c4 0) (t := 42)
 intro p11_9 W9 n_t11 hO h_
 have nq_t6_t11 := bn k_t6 n_t11
 have nq_t10_t11 := bn k_t10 n_t11
 have fb_t11 := fbn off0 n_t11
 replace k_t6 := k_t6.o hO
 replace k_t10 := k_t10.o hO
 replace off0 := off0.o hO
 have k_t11 := h_
 clear hO h_ n_t11
 refine Lp ?_ k_t10 (cells := p4 0 0 0 0)
 intro W10 hO h_
 clear h_
 replace k_t6 := k_t6.p hO nq_t6_t10
 replace k_t11 := k_t11.p hO nq_t10_t11.symm
 replace off0 := off0.p hO fb_t10
 clear hO
 refine Lp ?_ k_t11 (cells := c4 0)
 intro W11 hO h_
 clear h_
 replace k_t6 := k_t6.p hO nq_t6_t11
 replace off0 := off0.p hO fb_t11
 clear hO
 refine Lw ?_ (v := .int .i64 17)
 refine wpL_nil ?_
 go_upto_region 6 with fail
 refine wp_region_lit ?_
 refine Lw ?_ (v := .agg (arrK .u8 64 (byt 0))) (hv := by kernel_rfl)
 refine Lw ?_ (v := .int .i64 17)
 refine LpA ?_ k_t6 (k := .u8) (n := 64) (f := byt 0)
 intro W12 hO h_
 replace k_t6 : Blk W12 p6_3 (arrK .u8 64 (byt 0)) 30 := h_
 clear h_
 replace off0 := off0.p hO fb_t6
 clear hO
 refine Lw ?_ (v := .int .i64 17)
 refine wpL_nil ?_
 go_wp2
 exact bodyPost_ret (res_row2 rfl rfl rfl k_t6 (by kernel_rfl) (by rw [arrK_size]; kernel_rfl)) rfl ⟨rfl, off0.ext⟩
theorem check_d (hd : kn.d) (hb : kn.b) (hc : kn.c) {V P : Nat} (hV : V < 2 ^ 256) (hP : B80 P) (v : Value) (L : List UInt8) (hL : L.length ≤ 1099511627776) (hk1 : dOk V = true) (hk2 : ¬ pm (dPt V) 8 = p0) (hok : dOk (pG P) = true) (h1 : pN P < LL) (hv : vpt V L = none) :
  ∀ w, GA kn w → Sl w v L → Calls Tryd.prog 26 #[.agg (arrK .u8 32 (byt V)), v, .agg (arrK .u8 80 (byt P))] w fun e w' => Ret (.tuple #[.agg (arrK .u8 64 (byt 0)), .int .i64 15]) w w' e := by
 obtain ⟨kx, ky, kt, kr, kc⟩ := key_2 (kn := kn) hc hV hk1 hk2
 obtain ⟨gx, gy, gt, gr, pc⟩ := parts_3 (kn := kn) hc hP hok h1
 intro w hG hsl
 have ow_a := hsl
 have off0 : Off [] w w := Off.refl _ _
 go_enter Tryd.func26, Tryd.ntmps26
 go_upto_region 0 with fail
 refine wp_region_lit ?_
 refine Ln ?_ (z := arrK .u8 32 (byt V)) (t := 22)
 intro p3_1 W1 n_t3 hO h_
 replace ow_a := Sl.off ow_a hO f0
 replace off0 := off0.o hO
 have k_t3 := h_
 clear hO h_ n_t3
 refine Ln ?_ (z := arrK .u8 80 (byt P)) (t := 45)
 intro p5_2 W2 n_t5 hO h_
 replace k_t3 := k_t3.o hO
 replace ow_a := Sl.off ow_a hO f0
 replace off0 := off0.o hO
 have k_t5 := h_
 clear hO h_ n_t5
 refine Ln ?_ (z := arrK .u8 64 (byt 0)) (t := 30)
 intro p6_3 W3 n_t6 hO h_
 have fb_t6 := fbn off0 n_t6
 replace k_t3 := k_t3.o hO
 replace k_t5 := k_t5.o hO
 replace ow_a := Sl.off ow_a hO f0
 replace off0 := off0.o hO
 have k_t6 := h_
 clear hO h_ n_t6
 refine Lw ?_ (v := .int .i64 0)
 refine wpL_nil ?_
 go_upto_region 1 with fail
 refine wp_region_lit ?_
 refine L0A ?_ k_t3
 refine Lr ?_ (kc W3 (GA_ext hG off0.ext))
 intro W4 hO
 replace k_t3 := k_t3.o hO
 replace k_t5 := k_t5.o hO
 replace k_t6 := k_t6.o hO
 replace ow_a := Sl.off ow_a hO f0
 replace off0 := off0.o hO
 clear hO
 refine Lv ?_
 refine Lv ?_
 refine Lw ?_ (v := .int .i64 0)
 refine LnP ?_ (z := p4 0 0 0 0) (t := 60) (cells := p4 kx ky 1 kt)
 intro p8_5 W6 n_t8 hO h_
 replace k_t3 := k_t3.o hO
 replace k_t5 := k_t5.o hO
 replace k_t6 := k_t6.o hO
 replace ow_a := Sl.off ow_a hO f0
 replace off0 := off0.o hO
 clear hO h_ n_t8
 refine Lw ?_ (v := .int .i64 0)
 refine wpL_nil ?_
 go_upto_region 4 with fail
 refine wp_region_lit ?_
 refine L0A ?_ k_t5
 refine Lr ?_ (pc W6 (GA_ext hG off0.ext))
 intro W7 hO
 replace k_t3 := k_t3.o hO
 replace k_t6 := k_t6.o hO
 replace ow_a := Sl.off ow_a hO f0
 replace off0 := off0.o hO
 clear hO
 refine Lv ?_
 refine Lv ?_
 refine Lv ?_
 refine Lw ?_ (v := .int .i64 0)
 refine Ln ?_ (z := p4 0 0 0 0) (t := 60)
 intro p10_8 W8 n_t10 hO h_
 have nq_t3_t10 := bn k_t3 n_t10
 have nq_t6_t10 := bn k_t6 n_t10
 have ne_a_t10 := ne_new (Sl.lt ow_a) n_t10
 have fb_t10 := fbn off0 n_t10
 replace k_t3 := k_t3.o hO
 replace k_t6 := k_t6.o hO
 replace ow_a := Sl.off ow_a hO f0
 replace off0 := off0.o hO
 have k_t10 := h_
 clear hO h_ n_t10
 refine Ln ?_ (z := c4 0) (t := 42)
 intro p11_9 W9 n_t11 hO h_
 have nq_t3_t11 := bn k_t3 n_t11
 have nq_t6_t11 := bn k_t6 n_t11
 have nq_t10_t11 := bn k_t10 n_t11
 have ne_a_t11 := ne_new (Sl.lt ow_a) n_t11
 have fb_t11 := fbn off0 n_t11
 replace k_t3 := k_t3.o hO
 replace k_t6 := k_t6.o hO
 replace k_t10 := k_t10.o hO
 replace ow_a := Sl.off ow_a hO f0
 replace off0 := off0.o hO
 have k_t11 := h_
 clear hO h_ n_t11
 refine Lp ?_ k_t10 (cells := p4 gx gy 1 gt)
 intro W10 hO h_
 clear h_
 replace k_t3 := k_t3.p hO nq_t3_t10
 replace k_t6 := k_t6.p hO nq_t6_t10
 replace k_t11 := k_t11.p hO nq_t10_t11.symm
 replace ow_a := Sl.off ow_a hO (f1 ne_a_t10)
 replace off0 := off0.p hO fb_t10
 clear hO
 refine Lp ?_ k_t11 (cells := c4 (pN P))
 intro W11 hO h_
 clear h_
 replace k_t3 := k_t3.p hO nq_t3_t11
 replace k_t6 := k_t6.p hO nq_t6_t11
 replace ow_a := Sl.off ow_a hO (f1 ne_a_t11)
 replace off0 := off0.p hO fb_t11
 clear hO
 refine Lw ?_ (v := .int .i64 0)
 refine wpL_nil ?_
 go_upto_region 7 with fail
 refine wp_region_lit ?_
 refine L0A ?_ k_t3
 refine Lv ?_
 refine Lr ?_ (point_n (kn := kn) hc hL hv v W11 (GA_ext hG off0.ext) ow_a)
 intro W12 hO
 replace k_t6 := k_t6.o hO
 replace off0 := off0.o hO
 clear hO
 refine Lv ?_
 refine Lv ?_
 refine Lw ?_ (v := .int .i64 15)
 refine LnP ?_ (z := p4 0 0 0 0) (t := 60) (cells := p4 0 0 0 0)
 intro p12_13 W14 n_t12 hO h_
 replace k_t6 := k_t6.o hO
 replace off0 := off0.o hO
 clear hO h_ n_t12
 refine Lw ?_ (v := .int .i64 15)
 refine wpL_nil ?_
 go_upto_region 9 with fail
 refine wp_region_lit ?_
 refine Lw ?_ (v := .agg (arrK .u8 64 (byt 0))) (hv := by kernel_rfl)
 refine Lw ?_ (v := .int .i64 15)
 refine LpA ?_ k_t6 (k := .u8) (n := 64) (f := byt 0)
 intro W15 hO h_
 replace k_t6 : Blk W15 p6_3 (arrK .u8 64 (byt 0)) 30 := h_
 clear h_
 replace off0 := off0.p hO fb_t6
 clear hO
 refine Lw ?_ (v := .int .i64 15)
 refine wpL_nil ?_
 go_wp2
 exact bodyPost_ret (res_row2 rfl rfl rfl k_t6 (by kernel_rfl) (by rw [arrK_size]; kernel_rfl)) rfl ⟨rfl, off0.ext⟩
theorem check_e (hd : kn.d) (hb : kn.b) (hc : kn.c) {V P : Nat} (hV : V < 2 ^ 256) (hP : B80 P) (v : Value) (L : List UInt8) (hL : L.length ≤ 1099511627776) (hk1 : dOk V = true) (hk2 : ¬ pm (dPt V) 8 = p0) (hok : dOk (pG P) = true) (h1 : pN P < LL) {c0 : Nat} (hv : vpt V L = some c0) {h : Pr} (hh : h = candP V L c0) {r k : Nat} (hqq : ((chk V P h = pC P → r = vSum P ∧ k = 0) ∧ (¬ chk V P h = pC P → r = 0 ∧ k = 17))) :
  ∀ w, GA kn w → Sl w v L → Calls Tryd.prog 26 #[.agg (arrK .u8 32 (byt V)), v, .agg (arrK .u8 80 (byt P))] w fun e w' => Ret (.tuple #[.agg (arrK .u8 64 (byt r)), .int .i64 (k : Int)]) w w' e := by
 obtain ⟨kx, ky, kt, kr, kc⟩ := key_2 (kn := kn) hc hV hk1 hk2
 obtain ⟨gx, gy, gt, gr, pc⟩ := parts_3 (kn := kn) hc hP hok h1
 obtain ⟨hx, hy, hz, ht, hr, hcl⟩ := point_s (kn := kn) hc hL hv hh
 obtain ⟨x1, y2, z3, t4, r5, c6⟩ := eBase_c hb
 obtain ⟨x7, y8, z9, t10, r11, c12⟩ := eTimes_c hd r5.rw (N := (pN P)) (Nat.lt_trans h1 LL_256)
 obtain ⟨x13, y14, z15, t16, r17, c18⟩ := eNeg_c (kn := kn) kr.rw
 obtain ⟨x19, y20, z21, t22, r23, c24⟩ := eTimes_c hd r17.rw (N := (pC P)) (Nat.lt_trans (pC_lt P) P128_256)
 obtain ⟨x25, y26, z27, t28, r29, c30⟩ := eAdd_c hd r11.rw r23.rw
 obtain ⟨x31, y32, z33, t34, r35, c36⟩ := eTimes_c hd hr.rw (N := (pN P)) (Nat.lt_trans h1 LL_256)
 obtain ⟨x37, y38, z39, t40, r41, c42⟩ := eNeg_c (kn := kn) gr.rw
 obtain ⟨x43, y44, z45, t46, r47, c48⟩ := eTimes_c hd r41.rw (N := (pC P)) (Nat.lt_trans (pC_lt P) P128_256)
 obtain ⟨x49, y50, z51, t52, r53, c54⟩ := eAdd_c hd r35.rw r47.rw
 obtain ⟨U1, hU1⟩ := exn (chH V h (dPt (pG P)) (padd (pm BP (pN P)) (pm (pneg (dPt V)) (pC P))) (padd (pm h (pN P)) (pm (pneg (dPt (pG P))) (pC P))))
 have HU1 := Lib.hid hU1
 clear hU1
 obtain ⟨U2, hU2⟩ := exn (U1 % P128)
 have qU2 : U2 < P128 := by rw [hU2]; exact Nat.mod_lt _ (by decide)
 have HU2 := Lib.hid hU2
 clear hU2
 obtain ⟨U3, hU3⟩ := exn (vSum P)
 have HU3 := Lib.hid hU3
 clear hU3
 have HQ := Lib.hid hqq
 clear hqq
 intro w hG hsl
 have ow_a := hsl
 have off0 : Off [] w w := Off.refl _ _
 go_enter Tryd.func26, Tryd.ntmps26
 go_upto_region 0 with fail
 refine wp_region_lit ?_
 refine Ln ?_ (z := arrK .u8 32 (byt V)) (t := 22)
 intro p3_1 W1 n_t3 hO h_
 replace ow_a := Sl.off ow_a hO f0
 replace off0 := off0.o hO
 have k_t3 := h_
 clear hO h_ n_t3
 refine Ln ?_ (z := arrK .u8 80 (byt P)) (t := 45)
 intro p5_2 W2 n_t5 hO h_
 replace k_t3 := k_t3.o hO
 replace ow_a := Sl.off ow_a hO f0
 replace off0 := off0.o hO
 have k_t5 := h_
 clear hO h_ n_t5
 refine Ln ?_ (z := arrK .u8 64 (byt 0)) (t := 30)
 intro p6_3 W3 n_t6 hO h_
 have nq_t3_t6 := bn k_t3 n_t6
 have nq_t5_t6 := bn k_t5 n_t6
 have fb_t6 := fbn off0 n_t6
 replace k_t3 := k_t3.o hO
 replace k_t5 := k_t5.o hO
 replace ow_a := Sl.off ow_a hO f0
 replace off0 := off0.o hO
 have k_t6 := h_
 clear hO h_ n_t6
 refine Lw ?_ (v := .int .i64 0)
 refine wpL_nil ?_
 go_upto_region 1 with fail
 refine wp_region_lit ?_
 refine L0A ?_ k_t3
 refine Lr ?_ (kc W3 (GA_ext hG off0.ext))
 intro W4 hO
 replace k_t3 := k_t3.o hO
 replace k_t5 := k_t5.o hO
 replace k_t6 := k_t6.o hO
 replace ow_a := Sl.off ow_a hO f0
 replace off0 := off0.o hO
 clear hO
 refine Lv ?_
 refine Lv ?_
 refine Lw ?_ (v := .int .i64 0)
 refine LnP ?_ (z := p4 0 0 0 0) (t := 60) (cells := p4 kx ky 1 kt)
 intro p8_5 W6 n_t8 hO h_
 replace k_t3 := k_t3.o hO
 replace k_t5 := k_t5.o hO
 replace k_t6 := k_t6.o hO
 replace ow_a := Sl.off ow_a hO f0
 replace off0 := off0.o hO
 have k_t8 := h_
 clear hO h_ n_t8
 refine Lw ?_ (v := .int .i64 0)
 refine wpL_nil ?_
 go_upto_region 4 with fail
 refine wp_region_lit ?_
 refine L0A ?_ k_t5
 refine Lr ?_ (pc W6 (GA_ext hG off0.ext))
 intro W7 hO
 replace k_t3 := k_t3.o hO
 replace k_t5 := k_t5.o hO
 replace k_t6 := k_t6.o hO
 replace k_t8 := k_t8.o hO
 replace ow_a := Sl.off ow_a hO f0
 replace off0 := off0.o hO
 clear hO
 refine Lv ?_
 refine Lv ?_
 refine Lv ?_
 refine Lw ?_ (v := .int .i64 0)
 refine Ln ?_ (z := p4 0 0 0 0) (t := 60)
 intro p10_8 W8 n_t10 hO h_
 have nq_t3_t10 := bn k_t3 n_t10
 have nq_t5_t10 := bn k_t5 n_t10
 have nq_t6_t10 := bn k_t6 n_t10
 have nq_t8_t10 := bn k_t8 n_t10
 have ne_a_t10 := ne_new (Sl.lt ow_a) n_t10
 have fb_t10 := fbn off0 n_t10
 replace k_t3 := k_t3.o hO
 replace k_t5 := k_t5.o hO
 replace k_t6 := k_t6.o hO
 replace k_t8 := k_t8.o hO
 replace ow_a := Sl.off ow_a hO f0
 replace off0 := off0.o hO
 have k_t10 := h_
 clear hO h_ n_t10
 refine Ln ?_ (z := c4 0) (t := 42)
 intro p11_9 W9 n_t11 hO h_
 have nq_t3_t11 := bn k_t3 n_t11
 have nq_t5_t11 := bn k_t5 n_t11
 have nq_t6_t11 := bn k_t6 n_t11
 have nq_t8_t11 := bn k_t8 n_t11
 have nq_t10_t11 := bn k_t10 n_t11
 have ne_a_t11 := ne_new (Sl.lt ow_a) n_t11
 have fb_t11 := fbn off0 n_t11
 replace k_t3 := k_t3.o hO
 replace k_t5 := k_t5.o hO
 replace k_t6 := k_t6.o hO
 replace k_t8 := k_t8.o hO
 replace k_t10 := k_t10.o hO
 replace ow_a := Sl.off ow_a hO f0
 replace off0 := off0.o hO
 have k_t11 := h_
 clear hO h_ n_t11
 refine Lp ?_ k_t10 (cells := p4 gx gy 1 gt)
 intro W10 hO h_
 replace k_t10 : Blk W10 p10_8 (p4 gx gy 1 gt) 60 := h_
 clear h_
 replace k_t3 := k_t3.p hO nq_t3_t10
 replace k_t5 := k_t5.p hO nq_t5_t10
 replace k_t6 := k_t6.p hO nq_t6_t10
 replace k_t8 := k_t8.p hO nq_t8_t10
 replace k_t11 := k_t11.p hO nq_t10_t11.symm
 replace ow_a := Sl.off ow_a hO (f1 ne_a_t10)
 replace off0 := off0.p hO fb_t10
 clear hO
 refine Lp ?_ k_t11 (cells := c4 (pN P))
 intro W11 hO h_
 replace k_t11 : Blk W11 p11_9 (c4 (pN P)) 42 := h_
 clear h_
 replace k_t3 := k_t3.p hO nq_t3_t11
 replace k_t5 := k_t5.p hO nq_t5_t11
 replace k_t6 := k_t6.p hO nq_t6_t11
 replace k_t8 := k_t8.p hO nq_t8_t11
 replace k_t10 := k_t10.p hO nq_t10_t11
 replace ow_a := Sl.off ow_a hO (f1 ne_a_t11)
 replace off0 := off0.p hO fb_t11
 clear hO
 refine Lw ?_ (v := .int .i64 0)
 refine wpL_nil ?_
 go_upto_region 7 with fail
 refine wp_region_lit ?_
 refine L0A ?_ k_t3
 refine Lv ?_
 refine Lr ?_ (hcl v W11 (GA_ext hG off0.ext) ow_a)
 intro W12 hO
 replace k_t3 := k_t3.o hO
 replace k_t5 := k_t5.o hO
 replace k_t6 := k_t6.o hO
 replace k_t8 := k_t8.o hO
 replace k_t10 := k_t10.o hO
 replace k_t11 := k_t11.o hO
 replace off0 := off0.o hO
 clear hO
 refine Lv ?_
 refine Lv ?_
 refine Lw ?_ (v := .int .i64 0)
 refine LnP ?_ (z := p4 0 0 0 0) (t := 60) (cells := p4 hx hy hz ht)
 intro p12_13 W14 n_t12 hO h_
 have nq_t6_t12 := bn k_t6 n_t12
 replace k_t3 := k_t3.o hO
 replace k_t5 := k_t5.o hO
 replace k_t6 := k_t6.o hO
 replace k_t8 := k_t8.o hO
 replace k_t10 := k_t10.o hO
 replace k_t11 := k_t11.o hO
 replace off0 := off0.o hO
 have k_t12 := h_
 clear hO h_ n_t12
 refine Lw ?_ (v := .int .i64 0)
 refine wpL_nil ?_
 go_upto_region 10 with fail
 refine wp_region_xn 4 [⟨4, 13, arrK .u8 32 (byt 0), 22⟩, ⟨5, 14, arrK .u8 32 (byt 0), 22⟩] (by kernel_rfl) ?_ (by kernel_rfl) ?_
 ·
  intro x hx
  simp only [List.mem_cons, List.not_mem_nil, or_false] at hx
  rcases hx with rfl | rfl <;> exact ⟨_, rfl, rfl, rfl, fun _ _ => by kernel_rfl⟩
 simp only [List.take_succ_cons, List.take_zero, List.take_nil]
 (try simp only [Act.put, mA, mB, mC])
 refine Xw ?_ (v := .slice (some ⟨p5_2, 32, none⟩) 16 48)
 refine Xf ?_ (fun W hW => wideN_c (pC_lt P) (.slice (some ⟨p5_2, 32, none⟩) 16 48) W (sl_part (V := (pC P)) (n := 16) (off := 32) (blk_step k_t5 hW) h80c (by decide) (by decide)))
 refine Xl ?_ k_t11
 refine Xf ?_ (fun W hW => bytesN_c h1 W (GA_ext (GA_ext hG off0.ext) hW).2.2.1)
 refine wpX_nil ?_
 intro β W15 hE hN hD
 obtain ⟨n_t13, h_t13⟩ := hN _ (List.mem_cons_self ..)
 obtain ⟨n_t14, h_t14⟩ := hN _ (List.mem_cons_of_mem _ (List.mem_cons_self ..))
 have nq_t13_t14 := (hD _ (List.mem_cons_of_mem _ (List.mem_cons_self ..)) _ (List.mem_cons_self ..) (by decide)).symm
 clear hN hD
 simp only [putAll, Act.put, mA, mB, mC, List.drop_succ_cons, List.drop_zero, List.drop_nil, List.length_cons, List.length_nil, Nat.add_zero] at n_t13 h_t13 n_t14 h_t14 nq_t13_t14 ⊢
 have hO := off_ext hE
 generalize β 4 = p13_15 at *
 have nq_t3_t13 := bn k_t3 n_t13
 have nq_t5_t13 := bn k_t5 n_t13
 have nq_t6_t13 := bn k_t6 n_t13
 have nq_t8_t13 := bn k_t8 n_t13
 have nq_t10_t13 := bn k_t10 n_t13
 have nq_t12_t13 := bn k_t12 n_t13
 have fb_t13 := fbn off0 n_t13
 generalize β 5 = p14_15 at *
 have nq_t3_t14 := bn k_t3 n_t14
 have nq_t5_t14 := bn k_t5 n_t14
 have nq_t6_t14 := bn k_t6 n_t14
 have nq_t8_t14 := bn k_t8 n_t14
 have nq_t10_t14 := bn k_t10 n_t14
 have nq_t12_t14 := bn k_t12 n_t14
 have fb_t14 := fbn off0 n_t14
 replace k_t3 := k_t3.o hO
 replace k_t5 := k_t5.o hO
 replace k_t6 := k_t6.o hO
 replace k_t8 := k_t8.o hO
 replace k_t10 := k_t10.o hO
 replace k_t12 := k_t12.o hO
 replace off0 := off0.o hO
 clear hO hE β n_t13 n_t14
 have k_t13 : Blk W15 p13_15 (arrK .u8 32 (byt 0)) 22 := h_t13
 clear h_t13
 have k_t14 : Blk W15 p14_15 (arrK .u8 32 (byt 0)) 22 := h_t14
 clear h_t14
 refine LpA ?_ k_t13 (k := .u8) (n := 32) (f := byt (pC P))
 intro W16 hO h_
 replace k_t13 : Blk W16 p13_15 (arrK .u8 32 (byt (pC P))) 22 := h_
 clear h_
 replace k_t3 := k_t3.p hO nq_t3_t13
 replace k_t5 := k_t5.p hO nq_t5_t13
 replace k_t6 := k_t6.p hO nq_t6_t13
 replace k_t8 := k_t8.p hO nq_t8_t13
 replace k_t10 := k_t10.p hO nq_t10_t13
 replace k_t12 := k_t12.p hO nq_t12_t13
 replace k_t14 := k_t14.p hO nq_t13_t14.symm
 replace off0 := off0.p hO fb_t13
 clear hO
 refine LpA ?_ k_t14 (k := .u8) (n := 32) (f := byt (pN P))
 intro W17 hO h_
 replace k_t14 : Blk W17 p14_15 (arrK .u8 32 (byt (pN P))) 22 := h_
 clear h_
 replace k_t3 := k_t3.p hO nq_t3_t14
 replace k_t5 := k_t5.p hO nq_t5_t14
 replace k_t6 := k_t6.p hO nq_t6_t14
 replace k_t8 := k_t8.p hO nq_t8_t14
 replace k_t10 := k_t10.p hO nq_t10_t14
 replace k_t12 := k_t12.p hO nq_t12_t14
 replace k_t13 := k_t13.p hO nq_t13_t14
 replace off0 := off0.p hO fb_t14
 clear hO
 refine LN ?_
 go_upto_region 11 with fail
 refine Rx1 8 15 (z := p4 0 0 0 0) (t := 60) ?_
 refine Xf ?_ (fun W hW => c6 W (GA_ext (GA_ext hG off0.ext) hW).1)
 refine XlA ?_ k_t14
 refine Xf ?_ (fun W hW => c12 W (GA_ext (GA_ext hG off0.ext) hW).1)
 refine Xl ?_ k_t8
 refine Xf ?_ (fun W hW => c18 W (GA_ext (GA_ext hG off0.ext) hW).1)
 refine XlA ?_ k_t13
 refine Xf ?_ (fun W hW => c24 W (GA_ext (GA_ext hG off0.ext) hW).1)
 refine Xf ?_ (fun W hW => c30 W (GA_ext (GA_ext hG off0.ext) hW).1)
 refine XN ?_
 intro p15_18 W18 n_t15 hE h_t15
 have hO := off_ext hE
 have nq_t3_t15 := bn k_t3 n_t15
 have nq_t5_t15 := bn k_t5 n_t15
 have nq_t6_t15 := bn k_t6 n_t15
 have nq_t10_t15 := bn k_t10 n_t15
 have nq_t12_t15 := bn k_t12 n_t15
 have nq_t13_t15 := bn k_t13 n_t15
 have nq_t14_t15 := bn k_t14 n_t15
 have fb_t15 := fbn off0 n_t15
 replace k_t3 := k_t3.o hO
 replace k_t5 := k_t5.o hO
 replace k_t6 := k_t6.o hO
 replace k_t10 := k_t10.o hO
 replace k_t12 := k_t12.o hO
 replace k_t13 := k_t13.o hO
 replace k_t14 := k_t14.o hO
 replace off0 := off0.o hO
 clear hO hE n_t15
 have k_t15 : Blk W18 p15_18 (p4 0 0 0 0) 60 := h_t15
 clear h_t15
 refine Lp ?_ k_t15 (cells := p4 x25 y26 z27 t28)
 intro W19 hO h_
 replace k_t15 : Blk W19 p15_18 (p4 x25 y26 z27 t28) 60 := h_
 clear h_
 replace k_t3 := k_t3.p hO nq_t3_t15
 replace k_t5 := k_t5.p hO nq_t5_t15
 replace k_t6 := k_t6.p hO nq_t6_t15
 replace k_t10 := k_t10.p hO nq_t10_t15
 replace k_t12 := k_t12.p hO nq_t12_t15
 replace k_t13 := k_t13.p hO nq_t13_t15
 replace k_t14 := k_t14.p hO nq_t14_t15
 replace off0 := off0.p hO fb_t15
 clear hO
 refine LN ?_
 go_upto_region 12 with fail
 refine Rx1 8 16 (z := p4 0 0 0 0) (t := 60) ?_
 refine Xl ?_ k_t12
 refine XlA ?_ k_t14
 refine Xf ?_ (fun W hW => c36 W (GA_ext (GA_ext hG off0.ext) hW).1)
 refine Xl ?_ k_t10
 refine Xf ?_ (fun W hW => c42 W (GA_ext (GA_ext hG off0.ext) hW).1)
 refine XlA ?_ k_t13
 refine Xf ?_ (fun W hW => c48 W (GA_ext (GA_ext hG off0.ext) hW).1)
 refine Xf ?_ (fun W hW => c54 W (GA_ext (GA_ext hG off0.ext) hW).1)
 refine XN ?_
 intro p16_20 W20 n_t16 hE h_t16
 have hO := off_ext hE
 have nq_t3_t16 := bn k_t3 n_t16
 have nq_t5_t16 := bn k_t5 n_t16
 have nq_t6_t16 := bn k_t6 n_t16
 have nq_t10_t16 := bn k_t10 n_t16
 have nq_t12_t16 := bn k_t12 n_t16
 have nq_t15_t16 := bn k_t15 n_t16
 have fb_t16 := fbn off0 n_t16
 replace k_t3 := k_t3.o hO
 replace k_t5 := k_t5.o hO
 replace k_t6 := k_t6.o hO
 replace k_t10 := k_t10.o hO
 replace k_t12 := k_t12.o hO
 replace k_t15 := k_t15.o hO
 replace off0 := off0.o hO
 clear hO hE n_t16
 have k_t16 : Blk W20 p16_20 (p4 0 0 0 0) 60 := h_t16
 clear h_t16
 refine Lp ?_ k_t16 (cells := p4 x49 y50 z51 t52)
 intro W21 hO h_
 replace k_t16 : Blk W21 p16_20 (p4 x49 y50 z51 t52) 60 := h_
 clear h_
 replace k_t3 := k_t3.p hO nq_t3_t16
 replace k_t5 := k_t5.p hO nq_t5_t16
 replace k_t6 := k_t6.p hO nq_t6_t16
 replace k_t10 := k_t10.p hO nq_t10_t16
 replace k_t12 := k_t12.p hO nq_t12_t16
 replace k_t15 := k_t15.p hO nq_t15_t16
 replace off0 := off0.p hO fb_t16
 clear hO
 refine LN ?_
 by_cases htk : chk V P h = pC P
 ·
  have _f := htk
  go_upto_region 13 with fail
  refine wp_region_tr (.q 0 (.q 1 (.q 2 (.q 3 (.q 4 (.q 8 (.q 9 (.e 5 (.e 6 (.q 7 (.q 10 .z))))))))))) (fun W => (Blk W p3_1 (arrK .u8 32 (byt V)) 22) ∧ (Blk W p12_13 (p4 hx hy hz ht) 60) ∧ (Blk W p10_8 (p4 gx gy 1 gt) 60) ∧ (Blk W p15_18 (p4 x25 y26 z27 t28) 60) ∧ (Blk W p16_20 (p4 x49 y50 z51 t52) 60) ∧ (Blk W p5_2 (arrK .u8 80 (byt P)) 45)) (by kernel_rfl) (by kernel_rfl) ?_
  intro W22 hO
  replace k_t3 := k_t3.o hO
  replace k_t5 := k_t5.o hO
  replace k_t6 := k_t6.o hO
  replace k_t10 := k_t10.o hO
  replace k_t12 := k_t12.o hO
  replace k_t15 := k_t15.o hO
  replace k_t16 := k_t16.o hO
  replace off0 := off0.o hO
  clear hO
  refine ⟨⟨k_t3, k_t12, k_t10, k_t15, k_t16, k_t5⟩, ?_⟩
  refine wpT_q (v := .agg (arrK .u8 32 (byt V))) rfl (by rfl) (fun W hS => by exact (run_row0 rfl rfl (hS.1) (by kernel_rfl) (by rw [arrK_size]; kernel_rfl))) ?_
  (try simp only [Act.put, mA, mB, mC])
  refine wpT_q (v := .agg (p4 hx hy hz ht)) rfl (by rfl) (fun W hS => by exact (run_row0 rfl rfl (hS.2.1) (by kernel_rfl) (by kernel_rfl))) ?_
  (try simp only [Act.put, mA, mB, mC])
  refine wpT_q (v := .agg (p4 gx gy 1 gt)) rfl (by rfl) (fun W hS => by exact (run_row0 rfl rfl (hS.2.2.1) (by kernel_rfl) (by kernel_rfl))) ?_
  (try simp only [Act.put, mA, mB, mC])
  refine wpT_q (v := .agg (p4 x25 y26 z27 t28)) rfl (by rfl) (fun W hS => by exact (run_row0 rfl rfl (hS.2.2.2.1) (by kernel_rfl) (by kernel_rfl))) ?_
  (try simp only [Act.put, mA, mB, mC])
  refine wpT_q (v := .agg (p4 x49 y50 z51 t52)) rfl (by rfl) (fun W hS => by exact (run_row0 rfl rfl (hS.2.2.2.2.1) (by kernel_rfl) (by kernel_rfl))) ?_
  (try simp only [Act.put, mA, mB, mC])
  refine wpT_q (v := .slice (some ⟨p5_2, 32, none⟩) 16 48) rfl (by rfl) (fun W hS => by first | rfl | (go_simp; done) | (go_simp; with_reducible rfl)) ?_
  (try simp only [Act.put, mA, mB, mC])
  refine wpT_q (v := str (lb 16 (pC P))) rfl (by rfl) (fun W hS => by exact (run_cvs (sl_part (V := (pC P)) (n := 16) (off := 32) (hS.2.2.2.2.2) h80c (by decide) (by decide)) rfl rfl)) ?_
  (try simp only [Act.put, mA, mB, mC])
  refine wpT_e rfl ?_
  refine LnS ?_ (z := (p4 hx hy hz ht) ++ (p4 gx gy 1 gt) ++ (p4 x25 y26 z27 t28) ++ (p4 x49 y50 z51 t52)) (t := 60) (n := 4) (c := 4)
  intro p71_23 W23 n_s71 hO h_
  have nq_t6_s71 := bn k_t6 n_s71
  replace k_t3 := k_t3.o hO
  replace k_t5 := k_t5.o hO
  replace k_t6 := k_t6.o hO
  replace k_t10 := k_t10.o hO
  replace k_t12 := k_t12.o hO
  replace k_t15 := k_t15.o hO
  replace k_t16 := k_t16.o hO
  replace off0 := off0.o hO
  have k_s71 := h_
  clear hO h_ n_s71
  refine wpT_n (fun W => (Blk W p3_1 (arrK .u8 32 (byt V)) 22) ∧ (Blk W p12_13 (p4 hx hy hz ht) 60) ∧ (Blk W p10_8 (p4 gx gy 1 gt) 60) ∧ (Blk W p15_18 (p4 x25 y26 z27 t28) 60) ∧ (Blk W p16_20 (p4 x49 y50 z51 t52) 60) ∧ (Blk W p5_2 (arrK .u8 80 (byt P)) 45)) (fun W hS => ⟨hS.1, hS.2.1, hS.2.2.1, hS.2.2.2.1, hS.2.2.2.2.1, hS.2.2.2.2.2⟩) ⟨k_t3, k_t12, k_t10, k_t15, k_t16, k_t5⟩ ?_
  refine wpT_e rfl ?_
  refine wpL_call (R := fun v W => ∃ p, v = .slice (some ⟨p, 0, none⟩) 16 64 ∧ W23.heap.size ≤ p ∧ Off [] W23 W ∧ Blk W p (arrK .u8 64 (byt U1)) 30) ((mark_c (kn := kn) hr gr r29 r53 HU1.out p71_23 W23 (GA_ext hG off0.ext) k_s71).mono fun e W h => by obtain ⟨p, h1, h2⟩ := h; exact ⟨_, h1, p, rfl, h2⟩) (by rfl) rfl (by kernel_rfl) rfl ?_
  (try simp only [Act.put, mA, mB, mC])
  rintro _ W24 ⟨pm24, rfl, n_mk, hO, h_⟩
  (try simp only [Act.put, mA, mB, mC])
  have nq_t6_mk := bn k_t6 n_mk
  replace k_t3 := k_t3.o hO
  replace k_t5 := k_t5.o hO
  replace k_t6 := k_t6.o hO
  replace k_t10 := k_t10.o hO
  replace k_t12 := k_t12.o hO
  replace k_t15 := k_t15.o hO
  replace k_t16 := k_t16.o hO
  replace k_s71 := k_s71.o hO
  replace off0 := off0.o hO
  have k_mk := h_
  clear hO h_ n_mk
  refine wpT_n (fun W => (Blk W p3_1 (arrK .u8 32 (byt V)) 22) ∧ (Blk W p12_13 (p4 hx hy hz ht) 60) ∧ (Blk W p10_8 (p4 gx gy 1 gt) 60) ∧ (Blk W p15_18 (p4 x25 y26 z27 t28) 60) ∧ (Blk W p16_20 (p4 x49 y50 z51 t52) 60) ∧ (Blk W p5_2 (arrK .u8 80 (byt P)) 45) ∧ (Blk W pm24 (arrK .u8 64 (byt U1)) 30)) (fun W hS => ⟨hS.1, hS.2.1, hS.2.2.1, hS.2.2.2.1, hS.2.2.2.2.1, hS.2.2.2.2.2.1⟩) ⟨k_t3, k_t12, k_t10, k_t15, k_t16, k_t5, k_mk⟩ ?_
  refine wpT_q (v := str (lb 16 U2)) rfl (by rfl) (fun W hS => by exact (run_cvs (sl_part (V := U2) (n := 16) (off := 0) (hS.2.2.2.2.2.2) (h16 HU2.out) (by decide) (by decide)) rfl rfl)) ?_
  (try simp only [Act.put, mA, mB, mC])
  have hc_ : U2 = chk V P h := by rw [HU2.out, HU1.out]; rfl
  refine wpT_q (v := .bool false) rfl (by rfl) (fun W hS => by exact (run_strneb (l := (lb 16 U2)) (m := (lb 16 (pC P))) ((by rw [decide_eq_true (by rw [hc_, htk])]; rfl)) rfl rfl rfl)) ?_
  (try simp only [Act.put, mA, mB, mC])
  refine wpT_z ?_
  go_upto_region 15 with fail
  refine wp_region_lit ?_
  refine L0A ?_ k_t5
  refine Lr ?_ (vsum_1 (kn := kn) hc hok HU3.out W24 (GA_ext hG off0.ext))
  intro W25 hO
  replace k_t3 := k_t3.o hO
  replace k_t5 := k_t5.o hO
  replace k_t6 := k_t6.o hO
  replace k_t10 := k_t10.o hO
  replace k_t12 := k_t12.o hO
  replace k_t15 := k_t15.o hO
  replace k_t16 := k_t16.o hO
  replace k_s71 := k_s71.o hO
  replace k_mk := k_mk.o hO
  replace off0 := off0.o hO
  clear hO
  refine Lv ?_
  refine Lw ?_ (v := .int .i64 0)
  refine LpA ?_ k_t6 (k := .u8) (n := 64) (f := byt U3)
  intro W26 hO h_
  replace k_t6 : Blk W26 p6_3 (arrK .u8 64 (byt U3)) 30 := h_
  clear h_
  replace k_t3 := k_t3.p hO nq_t3_t6
  replace k_t5 := k_t5.p hO nq_t5_t6
  replace k_t10 := k_t10.p hO nq_t6_t10.symm
  replace k_t12 := k_t12.p hO nq_t6_t12.symm
  replace k_t15 := k_t15.p hO nq_t6_t15.symm
  replace k_t16 := k_t16.p hO nq_t6_t16.symm
  replace k_s71 := k_s71.p hO nq_t6_s71.symm
  replace k_mk := k_mk.p hO nq_t6_mk.symm
  replace off0 := off0.p hO fb_t6
  clear hO
  refine Lw ?_ (v := .int .i64 0)
  refine wpL_nil ?_
  go_wp2
  rw [HU3.out] at k_t6
  obtain ⟨er_, ek_⟩ := HQ.out.1 htk
  rw [er_, ek_]
  exact bodyPost_ret (res_row2 rfl rfl rfl k_t6 (by kernel_rfl) (by rw [arrK_size]; kernel_rfl)) rfl ⟨rfl, off0.ext⟩
 ·
  have _f := htk
  go_upto_region 13 with fail
  refine wp_region_tr (.q 0 (.q 1 (.q 2 (.q 3 (.q 4 (.q 8 (.q 9 (.e 5 (.e 6 (.q 7 (.q 10 .z))))))))))) (fun W => (Blk W p3_1 (arrK .u8 32 (byt V)) 22) ∧ (Blk W p12_13 (p4 hx hy hz ht) 60) ∧ (Blk W p10_8 (p4 gx gy 1 gt) 60) ∧ (Blk W p15_18 (p4 x25 y26 z27 t28) 60) ∧ (Blk W p16_20 (p4 x49 y50 z51 t52) 60) ∧ (Blk W p5_2 (arrK .u8 80 (byt P)) 45)) (by kernel_rfl) (by kernel_rfl) ?_
  intro W22 hO
  replace k_t3 := k_t3.o hO
  replace k_t5 := k_t5.o hO
  replace k_t6 := k_t6.o hO
  replace k_t10 := k_t10.o hO
  replace k_t12 := k_t12.o hO
  replace k_t15 := k_t15.o hO
  replace k_t16 := k_t16.o hO
  replace off0 := off0.o hO
  clear hO
  refine ⟨⟨k_t3, k_t12, k_t10, k_t15, k_t16, k_t5⟩, ?_⟩
  refine wpT_q (v := .agg (arrK .u8 32 (byt V))) rfl (by rfl) (fun W hS => by exact (run_row0 rfl rfl (hS.1) (by kernel_rfl) (by rw [arrK_size]; kernel_rfl))) ?_
  (try simp only [Act.put, mA, mB, mC])
  refine wpT_q (v := .agg (p4 hx hy hz ht)) rfl (by rfl) (fun W hS => by exact (run_row0 rfl rfl (hS.2.1) (by kernel_rfl) (by kernel_rfl))) ?_
  (try simp only [Act.put, mA, mB, mC])
  refine wpT_q (v := .agg (p4 gx gy 1 gt)) rfl (by rfl) (fun W hS => by exact (run_row0 rfl rfl (hS.2.2.1) (by kernel_rfl) (by kernel_rfl))) ?_
  (try simp only [Act.put, mA, mB, mC])
  refine wpT_q (v := .agg (p4 x25 y26 z27 t28)) rfl (by rfl) (fun W hS => by exact (run_row0 rfl rfl (hS.2.2.2.1) (by kernel_rfl) (by kernel_rfl))) ?_
  (try simp only [Act.put, mA, mB, mC])
  refine wpT_q (v := .agg (p4 x49 y50 z51 t52)) rfl (by rfl) (fun W hS => by exact (run_row0 rfl rfl (hS.2.2.2.2.1) (by kernel_rfl) (by kernel_rfl))) ?_
  (try simp only [Act.put, mA, mB, mC])
  refine wpT_q (v := .slice (some ⟨p5_2, 32, none⟩) 16 48) rfl (by rfl) (fun W hS => by first | rfl | (go_simp; done) | (go_simp; with_reducible rfl)) ?_
  (try simp only [Act.put, mA, mB, mC])
  refine wpT_q (v := str (lb 16 (pC P))) rfl (by rfl) (fun W hS => by exact (run_cvs (sl_part (V := (pC P)) (n := 16) (off := 32) (hS.2.2.2.2.2) h80c (by decide) (by decide)) rfl rfl)) ?_
  (try simp only [Act.put, mA, mB, mC])
  refine wpT_e rfl ?_
  refine LnS ?_ (z := (p4 hx hy hz ht) ++ (p4 gx gy 1 gt) ++ (p4 x25 y26 z27 t28) ++ (p4 x49 y50 z51 t52)) (t := 60) (n := 4) (c := 4)
  intro p71_23 W23 n_s71 hO h_
  replace k_t3 := k_t3.o hO
  replace k_t5 := k_t5.o hO
  replace k_t6 := k_t6.o hO
  replace k_t10 := k_t10.o hO
  replace k_t12 := k_t12.o hO
  replace k_t15 := k_t15.o hO
  replace k_t16 := k_t16.o hO
  replace off0 := off0.o hO
  have k_s71 := h_
  clear hO h_ n_s71
  refine wpT_n (fun W => (Blk W p3_1 (arrK .u8 32 (byt V)) 22) ∧ (Blk W p12_13 (p4 hx hy hz ht) 60) ∧ (Blk W p10_8 (p4 gx gy 1 gt) 60) ∧ (Blk W p15_18 (p4 x25 y26 z27 t28) 60) ∧ (Blk W p16_20 (p4 x49 y50 z51 t52) 60) ∧ (Blk W p5_2 (arrK .u8 80 (byt P)) 45)) (fun W hS => ⟨hS.1, hS.2.1, hS.2.2.1, hS.2.2.2.1, hS.2.2.2.2.1, hS.2.2.2.2.2⟩) ⟨k_t3, k_t12, k_t10, k_t15, k_t16, k_t5⟩ ?_
  refine wpT_e rfl ?_
  refine wpL_call (R := fun v W => ∃ p, v = .slice (some ⟨p, 0, none⟩) 16 64 ∧ W23.heap.size ≤ p ∧ Off [] W23 W ∧ Blk W p (arrK .u8 64 (byt U1)) 30) ((mark_c (kn := kn) hr gr r29 r53 HU1.out p71_23 W23 (GA_ext hG off0.ext) k_s71).mono fun e W h => by obtain ⟨p, h1, h2⟩ := h; exact ⟨_, h1, p, rfl, h2⟩) (by rfl) rfl (by kernel_rfl) rfl ?_
  (try simp only [Act.put, mA, mB, mC])
  rintro _ W24 ⟨pm24, rfl, n_mk, hO, h_⟩
  (try simp only [Act.put, mA, mB, mC])
  replace k_t3 := k_t3.o hO
  replace k_t5 := k_t5.o hO
  replace k_t6 := k_t6.o hO
  replace k_t10 := k_t10.o hO
  replace k_t12 := k_t12.o hO
  replace k_t15 := k_t15.o hO
  replace k_t16 := k_t16.o hO
  replace off0 := off0.o hO
  have k_mk := h_
  clear hO h_ n_mk
  refine wpT_n (fun W => (Blk W p3_1 (arrK .u8 32 (byt V)) 22) ∧ (Blk W p12_13 (p4 hx hy hz ht) 60) ∧ (Blk W p10_8 (p4 gx gy 1 gt) 60) ∧ (Blk W p15_18 (p4 x25 y26 z27 t28) 60) ∧ (Blk W p16_20 (p4 x49 y50 z51 t52) 60) ∧ (Blk W p5_2 (arrK .u8 80 (byt P)) 45) ∧ (Blk W pm24 (arrK .u8 64 (byt U1)) 30)) (fun W hS => ⟨hS.1, hS.2.1, hS.2.2.1, hS.2.2.2.1, hS.2.2.2.2.1, hS.2.2.2.2.2.1⟩) ⟨k_t3, k_t12, k_t10, k_t15, k_t16, k_t5, k_mk⟩ ?_
  refine wpT_q (v := str (lb 16 U2)) rfl (by rfl) (fun W hS => by exact (run_cvs (sl_part (V := U2) (n := 16) (off := 0) (hS.2.2.2.2.2.2) (h16 HU2.out) (by decide) (by decide)) rfl rfl)) ?_
  (try simp only [Act.put, mA, mB, mC])
  have hc_ : U2 = chk V P h := by rw [HU2.out, HU1.out]; rfl
  refine wpT_q (v := .bool true) rfl (by rfl) (fun W hS => by exact (run_strneb (l := (lb 16 U2)) (m := (lb 16 (pC P))) ((by rw [decide_eq_false fun e => htk (hc_ ▸ lb16_inj qU2 (pC_lt P) e)]; rfl)) rfl rfl rfl)) ?_
  (try simp only [Act.put, mA, mB, mC])
  refine wpT_z ?_
  go_upto_region 14 with fail
  refine wp_region_lit ?_
  refine Lw ?_ (v := .agg (arrK .u8 64 (byt 0))) (hv := by kernel_rfl)
  refine LpA ?_ k_t6 (k := .u8) (n := 64) (f := byt 0)
  intro W25 hO h_
  replace k_t6 : Blk W25 p6_3 (arrK .u8 64 (byt 0)) 30 := h_
  clear h_
  replace off0 := off0.p hO fb_t6
  clear hO
  refine Lw ?_ (v := .int .i64 17)
  refine wpL_nil ?_
  go_wp2
  obtain ⟨er_, ek_⟩ := HQ.out.2 htk
  rw [er_, ek_]
  exact bodyPost_ret (res_row2 rfl rfl rfl k_t6 (by kernel_rfl) (by rw [arrK_size]; kernel_rfl)) rfl ⟨rfl, off0.ext⟩
/-- the answer of Check: the sum, the error -/
def vchk (V : Nat) (L : List UInt8) (P : Nat) : Nat × Nat :=
  if dOk V = false ∨ pm (dPt V) 8 = p0 then (0, 15) else if dOk (pG P) = false ∨ LL ≤ pN P then (0, 17) else
  match vpt V L with
  | none => (0, 15)
  | some c => if chk V P (candP V L c) = pC P then (vSum P, 0) else (0, 17)
theorem check_c (hd : kn.d) (hb : kn.b) (hc : kn.c) {V P : Nat} {X : Nat × Nat} {L : List UInt8} (hX : X = vchk V L P) (hV : V < 2 ^ 256) (hP : B80 P) (v : Value) (hL : L.length ≤ 1099511627776) (w : World) (hG : GA kn w) (hsl : Sl w v L) :
    Calls Tryd.prog 26 #[.agg (arrK .u8 32 (byt V)), v, .agg (arrK .u8 80 (byt P))] w fun e w' => Ret (.tuple #[.agg (arrK .u8 64 (byt X.1)), .int .i64 (X.2 : Int)]) w w' e := by
  subst hX
  unfold vchk
  cases hk1 : dOk V
  · rw [if_pos (Or.inl rfl)]; exact check_a hd hb hc hV hP v L hL hk1 w hG hsl
  by_cases hk2 : pm (dPt V) 8 = p0
  · rw [if_pos (Or.inr hk2)]; exact check_b hd hb hc hV hP v L hL hk1 hk2 w hG hsl
  rw [if_neg (by rintro (h | h); cases h; exact hk2 h)]
  cases hok : dOk (pG P)
  · rw [if_pos (Or.inl rfl)]
    by_cases h1 : LL ≤ pN P
    · exact check_c0 hd hb hc hV hP v L hL hk1 hk2 hok h1 w hG hsl
    · exact check_c1 hd hb hc hV hP v L hL hk1 hk2 hok (Nat.not_le.1 h1) w hG hsl
  by_cases h1 : LL ≤ pN P
  · rw [if_pos (Or.inr h1)]; exact check_c2 hd hb hc hV hP v L hL hk1 hk2 hok h1 w hG hsl
  rw [if_neg (by rintro (h | h); cases h; exact h1 h)]
  cases hv : vpt V L with
  | none => exact check_d hd hb hc hV hP v L hL hk1 hk2 hok (Nat.not_le.1 h1) hv w hG hsl
  | some c =>
    by_cases ht : chk V P (candP V L c) = pC P
    · simp only [if_pos ht]; exact check_e hd hb hc hV hP v L hL hk1 hk2 hok (Nat.not_le.1 h1) hv rfl ⟨fun _ => ⟨rfl, rfl⟩, fun h => absurd ht h⟩ w hG hsl
    · simp only [if_neg ht]; exact check_e hd hb hc hV hP v L hL hk1 hk2 hok (Nat.not_le.1 h1) hv rfl ⟨fun h => absurd h ht, fun _ => ⟨rfl, rfl⟩⟩ w hG hsl
end Go.Proofs.YtefpoollmbmkfaaDoor
