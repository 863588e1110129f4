/- custumaltop: CustumalSigns. Conditions: the cells of the variables hold their numbers. -/
import Derived.Test.YtefpoollmbmkfaaDoorGc
import Derived.Test.YtefpoollmbmkfaaDoorJ23
import Derived.Test.YtefpoollmbmkfaaDoorJ32
set_option linter.unusedSimpArgs false
set_option linter.unusedVariables false
namespace Go.Proofs.YtefpoollmbmkfaaDoor
set_option maxHeartbeats 2000000
set_option maxRecDepth 100000
open Go.RowKit
attribute [local irreducible] wpList wpTr
variable {kn : Kn}
open Sc (LL clampF)
theorem copy_arr (V : Nat) : (bs8 (lb 32 V)).toArray = arrK .u8 32 (byt V) := by rw [bs8_lb, ← arrK_list]
/-- 32 bytes copied over an array -/
theorem wpL_copyA {ops : Array Oper} {Q : Exit → Act → World → Prop} {w : World} {r : List Oper} {o : Oper} {a : Act} {x y : Operand} {v : Value} {V : Nat} {g : Nat} {f : Nat → Int} {t : TypeId} {c : Nat} (hs : Sl w v (lb 32 V)) (hB : Blk w g (arrK .u8 32 f) t) (hw : Region.wanted o (yielded ops a.tmps) = true)
    (ho : o.op = .call { callee := .builtin .copy, args := #[x, y], argTypes := #[23, 23] }) (hx : a.eval x = .slice (some ⟨g, 0, none⟩) 32 c) (hy : a.eval y = v)
    (h : ∀ W, Off [g] w W → Blk W g (arrK .u8 32 (byt V)) t → wpList Tryd.prog ops Q r (a.put o.dst (goInt 32)) W) : wpList Tryd.prog ops Q (o :: r) a w :=
  wpL_copy hs hB (by rw [arrK_size, lb_length]) (lb_length 32 V).symm (by rw [lb_length]; decide) hw ho hx hy fun W h1 h2 => by
    rw [lb_length]; exact h W h1 (by rw [← copy_arr]; exact h2)
theorem signs_eq (S : Nat) (L : List UInt8) : pm BP (hi (sig S L)) = padd (dPt (lo (sig S L))) (pm (dPt (kP S)) (hs (lb 32 (lo (sig S L)) ++ lb 32 (kP S) ++ L) % LL)) := by
  have hN := pm_on BP_on (kN S)
  have hR := pm_on BP_on (sR S L)
  have e2 : dPt (kP S) = pm BP (kN S) := (dec_enc hN).2
  have e3 : dPt (sA S L) = pm BP (sR S L) := (dec_enc hR).2
  rw [sig_lo, sig_hi, e2, e3]
  show pm BP (sT S L) = padd (pm BP (sR S L)) (pm (pm BP (kN S)) (sK S L))
  unfold sT
  rw [pm_mod, pm_add BP_on, pm_mod, Nat.mul_comm, pm_mul BP_on, pm_mod]
theorem ok_P (S : Nat) : dOk (kP S) = true := (dec_enc (pm_on BP_on (kN S))).1
theorem ok_A (S : Nat) (L : List UInt8) : dOk (lo (sig S L)) = true := by rw [sig_lo]; exact (dec_enc (pm_on BP_on (sR S L))).1

theorem custumalSigns_c (hd : kn.d) (hb : kn.b) (hc : kn.c) (S : Nat) (v : Value) (L M : List UInt8) (hL : L.length ≤ 9223372036854775807) (hM : List.take (min L.length 200) L = M) (hMl : M.length ≤ 200) :
  ∀ w, GA kn w → H2.GS4 w → Sl w v L → Calls Tryd.prog 13 #[.agg (arrK .u8 32 (byt S)), v] w fun e w' => Ret (.bool true) w w' e := by
 obtain ⟨U1, hU1⟩ := exn (sig S M)
 have gU1 : U1 < 2 ^ (256 + 256) := by rw [hU1]; exact sig_lt _ _
 have HU1 := Lib.hid hU1
 clear hU1
 obtain ⟨U2, hU2⟩ := exn (kN S)
 have bU2 : U2 < 2 ^ 256 := by rw [hU2]; exact kN_lt _
 have HU2 := Lib.hid hU2
 clear hU2
 obtain ⟨U3, hU3⟩ := exn (kD S)
 have bU3 : U3 < 2 ^ 256 := by rw [hU3]; exact kD_lt _
 have HU3 := Lib.hid hU3
 clear hU3
 obtain ⟨U4, hU4⟩ := exn (kP S)
 have bU4 : U4 < 2 ^ 256 := by rw [hU4]; exact kP_lt _
 have HU4 := Lib.hid hU4
 clear hU4
 have od1 : dOk U4 = true := (by rw [HU4.out]; exact ok_P S)
 obtain ⟨xd1, td1, rd1, cd1⟩ := eDec_1 hc (V := U4) bU4 od1
 obtain ⟨yd1, hyd1⟩ := exn (U4 % 2 ^ 255)
 rw [← hyd1] at rd1 cd1
 have Hyd1 := Lib.hid hyd1
 clear hyd1
 have od2 : dOk (lo U1) = true := (by rw [HU1.out]; exact ok_A S M)
 obtain ⟨xd2, td2, rd2, cd2⟩ := eDec_1 hc (V := (lo U1)) (lo_lt _) od2
 obtain ⟨yd2, hyd2⟩ := exn ((lo U1) % 2 ^ 255)
 rw [← hyd2] at rd2 cd2
 have Hyd2 := Lib.hid hyd2
 clear hyd2
 obtain ⟨U5, hU5⟩ := exn (hs ((lb 32 (lo U1)) ++ (lb 32 U4) ++ M))
 have HU5 := Lib.hid hU5
 clear hU5
 obtain ⟨U6, hU6⟩ := exn (U5 % LL)
 have lU6 : U6 < LL := by rw [hU6]; exact mLL _
 have bU6 : U6 < 2 ^ 256 := Nat.lt_trans lU6 LL_256
 have HU6 := Lib.hid hU6
 clear hU6
 obtain ⟨x3, y4, z5, t6, r7, c8⟩ := eBase_c hb
 obtain ⟨x9, y10, z11, t12, r13, c14⟩ := eTimes_c hd r7.rw (N := (hi U1)) (hi_lt gU1)
 obtain ⟨x15, y16, z17, t18, r19, c20⟩ := eTimes_c hd rd1.rw (N := U6) bU6
 obtain ⟨x21, y22, z23, t24, r25, c26⟩ := eAdd_c hd rd2.rw r19.rw
 have cs27 := eSame_c (kn := kn) r13.rw r25.rw
 rw [decide_eq_true (by rw [HU6.out, HU5.out, HU4.out, HU1.out]; exact signs_eq S M)] at cs27
 intro w hG h4 hs
 have ow_a := hs
 have off0 : Off [] w w := Off.refl _ _
 go_enter Tryd.func13, Tryd.ntmps13
 go_upto_region 0 with fail
 refine wp_region_lit ?_
 refine Ln ?_ (z := arrK .u8 32 (byt S)) (t := 22)
 intro p2_1 W1 n_t2 hO h_
 have ne_a_t2 := ne_new (Sl.lt ow_a) n_t2
 replace ow_a := Sl.off ow_a hO f0
 replace off0 := off0.o hO
 have k_t2 := h_
 clear hO h_ n_t2
 refine Lw ?_ (v := .bool false)
 refine wpL_nil ?_
 go_upto_region 1 with fail
 refine wp_region_lit ?_
 refine Lv ?_
 refine Lv ?_
 refine wpL_len (l := L) ow_a (by rfl) rfl rfl ?_
 (try simp only [Act.put, mA, mB, mC])
 refine Lw ?_ (v := .int .i64 ((min L.length 200 : Nat) : Int)) (hv := by go_simp; (try omega))
 refine wpL_head (n := min L.length 200) ow_a (by omega) (by rfl) rfl rfl rfl ?_
 (try simp only [Act.put, mA, mB, mC])
 intro u19_1 ow_c19 sub_c19 some_c19
 have ne_c19_t2 : sb u19_1 (List.take (min L.length 200) L) ≠ some p2_1 := sub_ne sub_c19 ne_a_t2
 rw [hM] at ow_c19 sub_c19
 (try rw [hM] at ne_c19_t2)
 refine Lv ?_
 refine wpL_nil ?_
 go_upto_region 2 with fail
 refine wp_region_lit ?_
 refine L0A ?_ k_t2
 refine Lv ?_
 refine Lr ?_ (signN_c hd hb HU1.out u19_1 M (by first | omega | (simp only [List.length_append, List.length_take, List.length_cons, List.length_nil, lb_length]; omega)) W1 (GA_ext hG off0.ext) ow_c19)
 intro W2 hO
 replace k_t2 := k_t2.o hO
 replace ow_c19 := Sl.off ow_c19 hO f0
 replace off0 := off0.o hO
 clear hO
 refine LnA ?_ (z := arrK .u8 64 (byt 0)) (t := 30) (k := .u8) (n := 64) (f := byt U1)
 intro p5_3 W4 n_t5 hO h_
 replace k_t2 := k_t2.o hO
 replace ow_c19 := Sl.off ow_c19 hO f0
 replace off0 := off0.o hO
 have k_t5 := h_
 clear hO h_ n_t5
 refine wpL_nil ?_
 go_upto_region 3 with fail
 refine wp_region_lit ?_
 refine L0A ?_ k_t2
 refine Lr ?_ (spreadN_c hd hb HU2.out HU3.out HU4.out W4 (GA_ext hG off0.ext))
 intro W5 hO
 replace k_t5 := k_t5.o hO
 replace ow_c19 := Sl.off ow_c19 hO f0
 replace off0 := off0.o hO
 clear hO
 refine Lw ?_ (v := .agg (arrK .u8 32 (byt U4))) (hv := by kernel_rfl)
 refine LnA ?_ (z := arrK .u8 32 (byt 0)) (t := 22) (k := .u8) (n := 32) (f := byt U4)
 intro p6_6 W7 n_t6 hO h_
 replace k_t5 := k_t5.o hO
 replace ow_c19 := Sl.off ow_c19 hO f0
 replace off0 := off0.o hO
 have k_t6 := h_
 clear hO h_ n_t6
 refine wpL_nil ?_
 go_upto_region 4 with fail
 refine wp_region_lit ?_
 refine Ln ?_ (z := arrK .u8 32 (byt 0)) (t := 22)
 intro p7_8 W8 n_t7 hO h_
 have nq_t5_t7 := bn k_t5 n_t7
 have nq_t6_t7 := bn k_t6 n_t7
 have ne_c19_t7 := ne_new (Sl.lt ow_c19) n_t7
 have fb_t7 := fbn off0 n_t7
 replace k_t5 := k_t5.o hO
 replace k_t6 := k_t6.o hO
 replace ow_c19 := Sl.off ow_c19 hO f0
 replace off0 := off0.o hO
 have k_t7 := h_
 clear hO h_ n_t7
 refine Ln ?_ (z := arrK .u8 32 (byt 0)) (t := 22)
 intro p8_9 W9 n_t8 hO h_
 have nq_t6_t8 := bn k_t6 n_t8
 have nq_t7_t8 := bn k_t7 n_t8
 have ne_c19_t8 := ne_new (Sl.lt ow_c19) n_t8
 have fb_t8 := fbn off0 n_t8
 replace k_t5 := k_t5.o hO
 replace k_t6 := k_t6.o hO
 replace k_t7 := k_t7.o hO
 replace ow_c19 := Sl.off ow_c19 hO f0
 replace off0 := off0.o hO
 have k_t8 := h_
 clear hO h_ n_t8
 refine wpL_nil ?_
 go_upto_region 5 with fail
 refine Rx 2 ?_
 refine Xw ?_ (v := .slice (some ⟨p7_8, 0, none⟩) 32 32)
 refine Xw ?_ (v := .slice (some ⟨p5_3, 0, none⟩) 32 64)
 refine wpX_nil fun W10 hE => ?_
 have hO := off_ext hE
 replace k_t5 := k_t5.o hO
 replace k_t6 := k_t6.o hO
 replace k_t7 := k_t7.o hO
 replace k_t8 := k_t8.o hO
 replace ow_c19 := Sl.off ow_c19 hO f0
 replace off0 := off0.o hO
 clear hO hE
 refine wpL_copyA (V := (lo U1)) (sl_part (V := (lo U1)) (n := 32) (off := 0) k_t5 h64l (by decide) (by decide)) k_t7 (by rfl) rfl rfl rfl ?_
 (try simp only [Act.put, mA, mB, mC])
 intro W11 hO h_
 replace k_t7 : Blk W11 p7_8 (arrK .u8 32 (byt (lo U1))) 22 := h_
 clear h_
 replace k_t5 := k_t5.p hO nq_t5_t7
 replace k_t6 := k_t6.p hO nq_t6_t7
 replace k_t8 := k_t8.p hO nq_t7_t8.symm
 replace ow_c19 := Sl.off ow_c19 hO (f1 ne_c19_t7)
 replace off0 := off0.p hO fb_t7
 clear hO
 refine LN ?_
 go_upto_region 6 with fail
 refine Rx 2 ?_
 refine Xw ?_ (v := .slice (some ⟨p8_9, 0, none⟩) 32 32)
 refine Xw ?_ (v := .slice (some ⟨p5_3, 32, none⟩) 32 32)
 refine wpX_nil fun W12 hE => ?_
 have hO := off_ext hE
 replace k_t5 := k_t5.o hO
 replace k_t6 := k_t6.o hO
 replace k_t7 := k_t7.o hO
 replace k_t8 := k_t8.o hO
 replace ow_c19 := Sl.off ow_c19 hO f0
 replace off0 := off0.o hO
 clear hO hE
 refine wpL_copyA (V := (hi U1)) (sl_part (V := (hi U1)) (n := 32) (off := 32) k_t5 h64h (by decide) (by decide)) k_t8 (by rfl) rfl rfl rfl ?_
 (try simp only [Act.put, mA, mB, mC])
 intro W13 hO h_
 replace k_t8 : Blk W13 p8_9 (arrK .u8 32 (byt (hi U1))) 22 := h_
 clear h_
 replace k_t6 := k_t6.p hO nq_t6_t8
 replace k_t7 := k_t7.p hO nq_t7_t8
 replace ow_c19 := Sl.off ow_c19 hO (f1 ne_c19_t8)
 replace off0 := off0.p hO fb_t8
 clear hO
 refine LN ?_
 go_upto_region 7 with fail
 refine wp_region_lit ?_
 refine L0A ?_ k_t6
 refine Lr ?_ (cd1 W13 (GA_ext hG off0.ext).1)
 intro W14 hO
 replace k_t6 := k_t6.o hO
 replace k_t7 := k_t7.o hO
 replace k_t8 := k_t8.o hO
 replace ow_c19 := Sl.off ow_c19 hO f0
 replace off0 := off0.o hO
 clear hO
 refine Lv ?_
 refine Lv ?_
 refine Lw ?_ (v := .int .i64 0)
 refine LnP ?_ (z := p4 0 0 0 0) (t := 60) (cells := p4 xd1 yd1 1 td1)
 intro p9_15 W16 n_t9 hO h_
 replace k_t6 := k_t6.o hO
 replace k_t7 := k_t7.o hO
 replace k_t8 := k_t8.o hO
 replace ow_c19 := Sl.off ow_c19 hO f0
 replace off0 := off0.o hO
 have k_t9 := h_
 clear hO h_ n_t9
 refine Lw ?_ (v := .int .i64 0)
 refine wpL_nil ?_
 go_upto_region 8 with fail
 refine wp_region_lit ?_
 refine L0A ?_ k_t7
 refine Lr ?_ (cd2 W16 (GA_ext hG off0.ext).1)
 intro W17 hO
 replace k_t6 := k_t6.o hO
 replace k_t7 := k_t7.o hO
 replace k_t8 := k_t8.o hO
 replace k_t9 := k_t9.o hO
 replace ow_c19 := Sl.off ow_c19 hO f0
 replace off0 := off0.o hO
 clear hO
 refine Lv ?_
 refine Lv ?_
 refine Lw ?_ (v := .int .i64 0)
 refine LnP ?_ (z := p4 0 0 0 0) (t := 60) (cells := p4 xd2 yd2 1 td2)
 intro p11_18 W19 n_t11 hO h_
 replace k_t6 := k_t6.o hO
 replace k_t7 := k_t7.o hO
 replace k_t8 := k_t8.o hO
 replace k_t9 := k_t9.o hO
 replace ow_c19 := Sl.off ow_c19 hO f0
 replace off0 := off0.o hO
 have k_t11 := h_
 clear hO h_ n_t11
 refine Lw ?_ (v := .int .i64 0)
 refine wpL_nil ?_
 go_upto_region 9 with fail
 refine wp_region_tr (.q 0 (.q 1 (.q 2 (.b 3 (.b 4 (.e 5 (.e 6 .z)) 5 (.e 4 (.e 6 .z))) 5 (.e 3 (.e 4 (.e 6 .z))))))) (fun W => True) (by kernel_rfl) (by kernel_rfl) ?_
 intro W20 hO
 replace k_t6 := k_t6.o hO
 replace k_t7 := k_t7.o hO
 replace k_t8 := k_t8.o hO
 replace k_t9 := k_t9.o hO
 replace k_t11 := k_t11.o hO
 replace ow_c19 := Sl.off ow_c19 hO f0
 replace off0 := off0.o hO
 clear hO
 refine ⟨trivial, ?_⟩
 refine wpT_q (v := .slice (some ⟨p7_8, 0, none⟩) 32 32) rfl (by rfl) (fun W hS => by first | rfl | (go_simp; done) | (go_simp; with_reducible rfl)) ?_
 (try simp only [Act.put, mA, mB, mC])
 refine wpT_q (v := .slice (some ⟨p6_6, 0, none⟩) 32 32) rfl (by rfl) (fun W hS => by first | rfl | (go_simp; done) | (go_simp; with_reducible rfl)) ?_
 (try simp only [Act.put, mA, mB, mC])
 (refine wpT_q (v := ?_) rfl (by rfl) (fun W hS => ?_) ?_; rotate_left 1; (focus (go_simp; first | done | with_reducible rfl)))
 (try simp only [Act.put, mA, mB, mC])
 refine wpT_b rfl rfl ?_ ?_
 ·
  have _f := True.intro
  refine LnS ?_ (z := #[.slice (some ⟨p7_8, 0, none⟩) 32 32, .slice (some ⟨p6_6, 0, none⟩) 32 32, u19_1]) (t := 23) (n := 3) (c := 3) (hr := by exact run_bsv [.slice (some ⟨p7_8, 0, none⟩) 32 32, .slice (some ⟨p6_6, 0, none⟩) 32 32, u19_1] rfl rfl (vsc (rfl) (vsc (rfl) (vsc ((sl_cells ow_c19).1) vs0))) Tryd.underlying112 (by kernel_rfl) (by kernel_rfl) rfl (by decide) (by decide))
  intro p45_21 W21 n_s45 hO h_
  replace k_t6 := k_t6.o hO
  replace k_t7 := k_t7.o hO
  replace k_t8 := k_t8.o hO
  replace k_t9 := k_t9.o hO
  replace k_t11 := k_t11.o hO
  replace ow_c19 := Sl.off ow_c19 hO f0
  replace off0 := off0.o hO
  have k_s45 := h_
  clear hO h_ n_s45
  refine wpT_n (fun W => True) (fun W hS => trivial) trivial ?_
  refine wpT_b rfl rfl ?_ ?_
  ·
   have _f := True.intro
   refine Lr ?_ (sumN_c HU5.out [lb 32 (lo U1), lb 32 U4, M] (some ⟨p45_21, 0, none⟩) 3 (by simp only [List.flatten_cons, List.flatten_nil, List.append_nil, List.nil_append, List.append_assoc, List.cons_append]) (by first | omega | (simp only [List.length_append, List.length_cons, List.length_nil, lb_length]; omega)) (by simp) W21 (pss_blk k_s45 (pvc (sl_part (V := (lo U1)) (n := 32) (off := 0) k_t7 ap0 (by decide) (by decide)) (pvc (sl_part (V := U4) (n := 32) (off := 0) k_t6 ap0 (by decide) (by decide)) (pvc ow_c19 pv0)))) (GA_ext hG off0.ext).2.1)
   intro W22 hO
   replace k_t6 := k_t6.o hO
   replace k_t7 := k_t7.o hO
   replace k_t8 := k_t8.o hO
   replace k_t9 := k_t9.o hO
   replace k_t11 := k_t11.o hO
   replace k_s45 := k_s45.o hO
   replace ow_c19 := Sl.off ow_c19 hO f0
   replace off0 := off0.o hO
   clear hO
   refine wpT_n (fun W => True) (fun W hS => trivial) trivial ?_
   refine wpT_e rfl ?_
   refine Ln ?_ (z := arrK .u8 64 (byt 0)) (t := 30)
   intro p13_23 W23 n_t13 hO h_
   have nq_t6_t13 := bn k_t6 n_t13
   have nq_t7_t13 := bn k_t7 n_t13
   have nq_t8_t13 := bn k_t8 n_t13
   have nq_t9_t13 := bn k_t9 n_t13
   have nq_t11_t13 := bn k_t11 n_t13
   have nq_s45_t13 := bn k_s45 n_t13
   have ne_c19_t13 := ne_new (Sl.lt ow_c19) n_t13
   have fb_t13 := fbn off0 n_t13
   replace k_t6 := k_t6.o hO
   replace k_t7 := k_t7.o hO
   replace k_t8 := k_t8.o hO
   replace k_t9 := k_t9.o hO
   replace k_t11 := k_t11.o hO
   replace k_s45 := k_s45.o hO
   replace ow_c19 := Sl.off ow_c19 hO f0
   replace off0 := off0.o hO
   have k_t13 := h_
   clear hO h_ n_t13
   refine wpT_n (fun W => True) (fun W hS => trivial) trivial ?_
   refine wpT_e rfl ?_
   refine LpA ?_ k_t13 (k := .u8) (n := 64) (f := byt U5)
   intro W24 hO h_
   replace k_t13 : Blk W24 p13_23 (arrK .u8 64 (byt U5)) 30 := h_
   clear h_
   replace k_t6 := k_t6.p hO nq_t6_t13
   replace k_t7 := k_t7.p hO nq_t7_t13
   replace k_t8 := k_t8.p hO nq_t8_t13
   replace k_t9 := k_t9.p hO nq_t9_t13
   replace k_t11 := k_t11.p hO nq_t11_t13
   replace k_s45 := k_s45.p hO nq_s45_t13
   replace ow_c19 := Sl.off ow_c19 hO (f1 ne_c19_t13)
   replace off0 := off0.p hO fb_t13
   clear hO
   refine wpT_n (fun W => True) (fun W hS => trivial) trivial ?_
   refine wpT_z ?_
   go_upto_region 10 with fail
   refine wp_region_lit ?_
   refine Lw ?_ (v := .slice (some ⟨p13_23, 0, none⟩) 64 64) (hv := by first | rfl | (go_simp; done) | (go_simp; with_reducible rfl))
   refine Lr ?_ (ofN_c HU6.out (n := 64) (off := 0) k_t13 ap0 (by decide) (by rw [HU5.out]; exact hs_lt' _) (GA_ext hG off0.ext).2.2.1)
   intro W25 hO
   replace k_t6 := k_t6.o hO
   replace k_t7 := k_t7.o hO
   replace k_t8 := k_t8.o hO
   replace k_t9 := k_t9.o hO
   replace k_t11 := k_t11.o hO
   replace k_s45 := k_s45.o hO
   replace k_t13 := k_t13.o hO
   replace ow_c19 := Sl.off ow_c19 hO f0
   replace off0 := off0.o hO
   clear hO
   refine Lr ?_ (bytesN_c lU6 W25 (GA_ext hG off0.ext).2.2.1)
   intro W26 hO
   replace k_t6 := k_t6.o hO
   replace k_t7 := k_t7.o hO
   replace k_t8 := k_t8.o hO
   replace k_t9 := k_t9.o hO
   replace k_t11 := k_t11.o hO
   replace k_s45 := k_s45.o hO
   replace k_t13 := k_t13.o hO
   replace ow_c19 := Sl.off ow_c19 hO f0
   replace off0 := off0.o hO
   clear hO
   refine LnA ?_ (z := arrK .u8 32 (byt 0)) (t := 22) (k := .u8) (n := 32) (f := byt U6)
   intro p14_27 W28 n_t14 hO h_
   replace k_t6 := k_t6.o hO
   replace k_t7 := k_t7.o hO
   replace k_t8 := k_t8.o hO
   replace k_t9 := k_t9.o hO
   replace k_t11 := k_t11.o hO
   replace k_s45 := k_s45.o hO
   replace k_t13 := k_t13.o hO
   replace ow_c19 := Sl.off ow_c19 hO f0
   replace off0 := off0.o hO
   have k_t14 := h_
   clear hO h_ n_t14
   refine wpL_nil ?_
   go_upto_region 11 with fail
   refine Rx 21 ?_
   refine Xf ?_ (fun W hW => stands_c W (H2.GS_ext4 (H2.GS_ext4 h4 off0.ext) hW))
   refine Xv ?_
   refine Xv ?_
   refine Xv ?_
   refine Xv ?_
   refine Xv ?_
   refine Xv ?_
   refine Xv ?_
   refine Xv ?_
   refine Xv ?_
   refine Xf ?_ (fun W hW => c8 W (GA_ext (GA_ext hG off0.ext) hW).1)
   refine XlA ?_ k_t8
   refine Xf ?_ (fun W hW => c14 W (GA_ext (GA_ext hG off0.ext) hW).1)
   refine Xl ?_ k_t11
   refine Xl ?_ k_t9
   refine XlA ?_ k_t14
   refine Xf ?_ (fun W hW => c20 W (GA_ext (GA_ext hG off0.ext) hW).1)
   refine Xf ?_ (fun W hW => c26 W (GA_ext (GA_ext hG off0.ext) hW).1)
   refine Xf ?_ (fun W hW => cs27 W (GA_ext (GA_ext hG off0.ext) hW).1)
   refine Xv ?_
   refine Xv ?_
   refine wpX_nil fun W29 hE => ?_
   have hO := off_ext hE
   replace k_t6 := k_t6.o hO
   replace k_t7 := k_t7.o hO
   replace k_t8 := k_t8.o hO
   replace k_t9 := k_t9.o hO
   replace k_t11 := k_t11.o hO
   replace k_s45 := k_s45.o hO
   replace k_t13 := k_t13.o hO
   replace k_t14 := k_t14.o hO
   replace ow_c19 := Sl.off ow_c19 hO f0
   replace off0 := off0.o hO
   clear hO hE
   refine LN ?_
   go_wp2
   exact bodyPost_ret (v := .bool true) (by simp only [results, Tryd.results13]; go_simp) rfl ⟨rfl, off0.ext⟩
  ·
   have _f := True.intro
   refine Ln ?_ (z := arrK .u8 64 (byt 0)) (t := 30)
   intro p13_22 W22 n_t13 hO h_
   have nq_t6_t13 := bn k_t6 n_t13
   have nq_t7_t13 := bn k_t7 n_t13
   have nq_t8_t13 := bn k_t8 n_t13
   have nq_t9_t13 := bn k_t9 n_t13
   have nq_t11_t13 := bn k_t11 n_t13
   have nq_s45_t13 := bn k_s45 n_t13
   have ne_c19_t13 := ne_new (Sl.lt ow_c19) n_t13
   have fb_t13 := fbn off0 n_t13
   replace k_t6 := k_t6.o hO
   replace k_t7 := k_t7.o hO
   replace k_t8 := k_t8.o hO
   replace k_t9 := k_t9.o hO
   replace k_t11 := k_t11.o hO
   replace k_s45 := k_s45.o hO
   replace ow_c19 := Sl.off ow_c19 hO f0
   replace off0 := off0.o hO
   have k_t13 := h_
   clear hO h_ n_t13
   refine wpT_n (fun W => True) (fun W hS => trivial) trivial ?_
   refine wpT_e rfl ?_
   refine Lr ?_ (sumN_c HU5.out [lb 32 (lo U1), lb 32 U4, M] (some ⟨p45_21, 0, none⟩) 3 (by simp only [List.flatten_cons, List.flatten_nil, List.append_nil, List.nil_append, List.append_assoc, List.cons_append]) (by first | omega | (simp only [List.length_append, List.length_cons, List.length_nil, lb_length]; omega)) (by simp) W22 (pss_blk k_s45 (pvc (sl_part (V := (lo U1)) (n := 32) (off := 0) k_t7 ap0 (by decide) (by decide)) (pvc (sl_part (V := U4) (n := 32) (off := 0) k_t6 ap0 (by decide) (by decide)) (pvc ow_c19 pv0)))) (GA_ext hG off0.ext).2.1)
   intro W23 hO
   replace k_t6 := k_t6.o hO
   replace k_t7 := k_t7.o hO
   replace k_t8 := k_t8.o hO
   replace k_t9 := k_t9.o hO
   replace k_t11 := k_t11.o hO
   replace k_s45 := k_s45.o hO
   replace k_t13 := k_t13.o hO
   replace ow_c19 := Sl.off ow_c19 hO f0
   replace off0 := off0.o hO
   clear hO
   refine wpT_n (fun W => True) (fun W hS => trivial) trivial ?_
   refine wpT_e rfl ?_
   refine LpA ?_ k_t13 (k := .u8) (n := 64) (f := byt U5)
   intro W24 hO h_
   replace k_t13 : Blk W24 p13_22 (arrK .u8 64 (byt U5)) 30 := h_
   clear h_
   replace k_t6 := k_t6.p hO nq_t6_t13
   replace k_t7 := k_t7.p hO nq_t7_t13
   replace k_t8 := k_t8.p hO nq_t8_t13
   replace k_t9 := k_t9.p hO nq_t9_t13
   replace k_t11 := k_t11.p hO nq_t11_t13
   replace k_s45 := k_s45.p hO nq_s45_t13
   replace ow_c19 := Sl.off ow_c19 hO (f1 ne_c19_t13)
   replace off0 := off0.p hO fb_t13
   clear hO
   refine wpT_n (fun W => True) (fun W hS => trivial) trivial ?_
   refine wpT_z ?_
   go_upto_region 10 with fail
   refine wp_region_lit ?_
   refine Lw ?_ (v := .slice (some ⟨p13_22, 0, none⟩) 64 64) (hv := by first | rfl | (go_simp; done) | (go_simp; with_reducible rfl))
   refine Lr ?_ (ofN_c HU6.out (n := 64) (off := 0) k_t13 ap0 (by decide) (by rw [HU5.out]; exact hs_lt' _) (GA_ext hG off0.ext).2.2.1)
   intro W25 hO
   replace k_t6 := k_t6.o hO
   replace k_t7 := k_t7.o hO
   replace k_t8 := k_t8.o hO
   replace k_t9 := k_t9.o hO
   replace k_t11 := k_t11.o hO
   replace k_s45 := k_s45.o hO
   replace k_t13 := k_t13.o hO
   replace ow_c19 := Sl.off ow_c19 hO f0
   replace off0 := off0.o hO
   clear hO
   refine Lr ?_ (bytesN_c lU6 W25 (GA_ext hG off0.ext).2.2.1)
   intro W26 hO
   replace k_t6 := k_t6.o hO
   replace k_t7 := k_t7.o hO
   replace k_t8 := k_t8.o hO
   replace k_t9 := k_t9.o hO
   replace k_t11 := k_t11.o hO
   replace k_s45 := k_s45.o hO
   replace k_t13 := k_t13.o hO
   replace ow_c19 := Sl.off ow_c19 hO f0
   replace off0 := off0.o hO
   clear hO
   refine LnA ?_ (z := arrK .u8 32 (byt 0)) (t := 22) (k := .u8) (n := 32) (f := byt U6)
   intro p14_27 W28 n_t14 hO h_
   replace k_t6 := k_t6.o hO
   replace k_t7 := k_t7.o hO
   replace k_t8 := k_t8.o hO
   replace k_t9 := k_t9.o hO
   replace k_t11 := k_t11.o hO
   replace k_s45 := k_s45.o hO
   replace k_t13 := k_t13.o hO
   replace ow_c19 := Sl.off ow_c19 hO f0
   replace off0 := off0.o hO
   have k_t14 := h_
   clear hO h_ n_t14
   refine wpL_nil ?_
   go_upto_region 11 with fail
   refine Rx 21 ?_
   refine Xf ?_ (fun W hW => stands_c W (H2.GS_ext4 (H2.GS_ext4 h4 off0.ext) hW))
   refine Xv ?_
   refine Xv ?_
   refine Xv ?_
   refine Xv ?_
   refine Xv ?_
   refine Xv ?_
   refine Xv ?_
   refine Xv ?_
   refine Xv ?_
   refine Xf ?_ (fun W hW => c8 W (GA_ext (GA_ext hG off0.ext) hW).1)
   refine XlA ?_ k_t8
   refine Xf ?_ (fun W hW => c14 W (GA_ext (GA_ext hG off0.ext) hW).1)
   refine Xl ?_ k_t11
   refine Xl ?_ k_t9
   refine XlA ?_ k_t14
   refine Xf ?_ (fun W hW => c20 W (GA_ext (GA_ext hG off0.ext) hW).1)
   refine Xf ?_ (fun W hW => c26 W (GA_ext (GA_ext hG off0.ext) hW).1)
   refine Xf ?_ (fun W hW => cs27 W (GA_ext (GA_ext hG off0.ext) hW).1)
   refine Xv ?_
   refine Xv ?_
   refine wpX_nil fun W29 hE => ?_
   have hO := off_ext hE
   replace k_t6 := k_t6.o hO
   replace k_t7 := k_t7.o hO
   replace k_t8 := k_t8.o hO
   replace k_t9 := k_t9.o hO
   replace k_t11 := k_t11.o hO
   replace k_s45 := k_s45.o hO
   replace k_t13 := k_t13.o hO
   replace k_t14 := k_t14.o hO
   replace ow_c19 := Sl.off ow_c19 hO f0
   replace off0 := off0.o hO
   clear hO hE
   refine LN ?_
   go_wp2
   exact bodyPost_ret (v := .bool true) (by simp only [results, Tryd.results13]; go_simp) rfl ⟨rfl, off0.ext⟩
 ·
  have _f := True.intro
  refine Ln ?_ (z := arrK .u8 64 (byt 0)) (t := 30)
  intro p13_21 W21 n_t13 hO h_
  have nq_t8_t13 := bn k_t8 n_t13
  have nq_t9_t13 := bn k_t9 n_t13
  have nq_t11_t13 := bn k_t11 n_t13
  have fb_t13 := fbn off0 n_t13
  replace k_t6 := k_t6.o hO
  replace k_t7 := k_t7.o hO
  replace k_t8 := k_t8.o hO
  replace k_t9 := k_t9.o hO
  replace k_t11 := k_t11.o hO
  replace ow_c19 := Sl.off ow_c19 hO f0
  replace off0 := off0.o hO
  have k_t13 := h_
  clear hO h_ n_t13
  refine wpT_n (fun W => True) (fun W hS => trivial) trivial ?_
  refine wpT_e rfl ?_
  refine LnS ?_ (z := #[.slice (some ⟨p7_8, 0, none⟩) 32 32, .slice (some ⟨p6_6, 0, none⟩) 32 32, u19_1]) (t := 23) (n := 3) (c := 3) (hr := by exact run_bsv [.slice (some ⟨p7_8, 0, none⟩) 32 32, .slice (some ⟨p6_6, 0, none⟩) 32 32, u19_1] rfl rfl (vsc (rfl) (vsc (rfl) (vsc ((sl_cells ow_c19).1) vs0))) Tryd.underlying112 (by kernel_rfl) (by kernel_rfl) rfl (by decide) (by decide))
  intro p45_22 W22 n_s45 hO h_
  replace k_t6 := k_t6.o hO
  replace k_t7 := k_t7.o hO
  replace k_t8 := k_t8.o hO
  replace k_t9 := k_t9.o hO
  replace k_t11 := k_t11.o hO
  replace k_t13 := k_t13.o hO
  replace ow_c19 := Sl.off ow_c19 hO f0
  replace off0 := off0.o hO
  have k_s45 := h_
  clear hO h_ n_s45
  refine wpT_n (fun W => True) (fun W hS => trivial) trivial ?_
  refine wpT_e rfl ?_
  refine Lr ?_ (sumN_c HU5.out [lb 32 (lo U1), lb 32 U4, M] (some ⟨p45_22, 0, none⟩) 3 (by simp only [List.flatten_cons, List.flatten_nil, List.append_nil, List.nil_append, List.append_assoc, List.cons_append]) (by first | omega | (simp only [List.length_append, List.length_cons, List.length_nil, lb_length]; omega)) (by simp) W22 (pss_blk k_s45 (pvc (sl_part (V := (lo U1)) (n := 32) (off := 0) k_t7 ap0 (by decide) (by decide)) (pvc (sl_part (V := U4) (n := 32) (off := 0) k_t6 ap0 (by decide) (by decide)) (pvc ow_c19 pv0)))) (GA_ext hG off0.ext).2.1)
  intro W23 hO
  replace k_t8 := k_t8.o hO
  replace k_t9 := k_t9.o hO
  replace k_t11 := k_t11.o hO
  replace k_t13 := k_t13.o hO
  replace off0 := off0.o hO
  clear hO
  refine wpT_n (fun W => True) (fun W hS => trivial) trivial ?_
  refine wpT_e rfl ?_
  refine LpA ?_ k_t13 (k := .u8) (n := 64) (f := byt U5)
  intro W24 hO h_
  replace k_t13 : Blk W24 p13_21 (arrK .u8 64 (byt U5)) 30 := h_
  clear h_
  replace k_t8 := k_t8.p hO nq_t8_t13
  replace k_t9 := k_t9.p hO nq_t9_t13
  replace k_t11 := k_t11.p hO nq_t11_t13
  replace off0 := off0.p hO fb_t13
  clear hO
  refine wpT_n (fun W => True) (fun W hS => trivial) trivial ?_
  refine wpT_z ?_
  go_upto_region 10 with fail
  refine wp_region_lit ?_
  refine Lw ?_ (v := .slice (some ⟨p13_21, 0, none⟩) 64 64) (hv := by first | rfl | (go_simp; done) | (go_simp; with_reducible rfl))
  refine Lr ?_ (ofN_c HU6.out (n := 64) (off := 0) k_t13 ap0 (by decide) (by rw [HU5.out]; exact hs_lt' _) (GA_ext hG off0.ext).2.2.1)
  intro W25 hO
  replace k_t8 := k_t8.o hO
  replace k_t9 := k_t9.o hO
  replace k_t11 := k_t11.o hO
  replace off0 := off0.o hO
  clear hO
  refine Lr ?_ (bytesN_c lU6 W25 (GA_ext hG off0.ext).2.2.1)
  intro W26 hO
  replace k_t8 := k_t8.o hO
  replace k_t9 := k_t9.o hO
  replace k_t11 := k_t11.o hO
  replace off0 := off0.o hO
  clear hO
  refine LnA ?_ (z := arrK .u8 32 (byt 0)) (t := 22) (k := .u8) (n := 32) (f := byt U6)
  intro p14_27 W28 n_t14 hO h_
  replace k_t8 := k_t8.o hO
  replace k_t9 := k_t9.o hO
  replace k_t11 := k_t11.o hO
  replace off0 := off0.o hO
  have k_t14 := h_
  clear hO h_ n_t14
  refine wpL_nil ?_
  go_upto_region 11 with fail
  refine Rx 21 ?_
  refine Xf ?_ (fun W hW => stands_c W (H2.GS_ext4 (H2.GS_ext4 h4 off0.ext) hW))
  refine Xv ?_
  refine Xv ?_
  refine Xv ?_
  refine Xv ?_
  refine Xv ?_
  refine Xv ?_
  refine Xv ?_
  refine Xv ?_
  refine Xv ?_
  refine Xf ?_ (fun W hW => c8 W (GA_ext (GA_ext hG off0.ext) hW).1)
  refine XlA ?_ k_t8
  refine Xf ?_ (fun W hW => c14 W (GA_ext (GA_ext hG off0.ext) hW).1)
  refine Xl ?_ k_t11
  refine Xl ?_ k_t9
  refine XlA ?_ k_t14
  refine Xf ?_ (fun W hW => c20 W (GA_ext (GA_ext hG off0.ext) hW).1)
  refine Xf ?_ (fun W hW => c26 W (GA_ext (GA_ext hG off0.ext) hW).1)
  refine Xf ?_ (fun W hW => cs27 W (GA_ext (GA_ext hG off0.ext) hW).1)
  refine Xv ?_
  refine Xv ?_
  refine wpX_nil fun W29 hE => ?_
  have hO := off_ext hE
  replace off0 := off0.o hO
  clear hO hE
  refine LN ?_
  go_wp2
  exact bodyPost_ret (v := .bool true) (by simp only [results, Tryd.results13]; go_simp) rfl ⟨rfl, off0.ext⟩
end Go.Proofs.YtefpoollmbmkfaaDoor
