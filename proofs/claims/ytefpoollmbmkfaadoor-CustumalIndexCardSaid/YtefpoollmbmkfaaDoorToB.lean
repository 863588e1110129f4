/- custumaltop: CustumalIndex. Conditions: the cells of the variables hold their numbers. -/
import Derived.Test.YtefpoollmbmkfaaDoorGc
import Derived.Test.YtefpoollmbmkfaaDoorVq
import Derived.Test.YtefpoollmbmkfaaDoorJ37
set_option linter.unusedSimpArgs false
set_option linter.unusedVariables false
namespace Go.Proofs.YtefpoollmbmkfaaDoor
set_option maxHeartbeats 2000000
set_option maxRecDepth 100000
open Go.RowKit
attribute [local irreducible] wpList wpTr
variable {kn : Kn}
open Sc (LL clampF)
attribute [local irreducible] hs vprv vchk
theorem vsm_ok {P : Nat} (h : (vsm P).2 = 0) : dOk (pG P) = true ∧ (vsm P).1 = vSum P := by
  unfold vsm at h ⊢
  by_cases k : dOk (pG P) = true
  · rw [if_pos k]; exact ⟨k, rfl⟩
  · rw [if_neg k] at h; cases h
attribute [local irreducible] vsm
theorem run_cutX {W : World} {o : Oper} {a : Act} {x y : Operand} {v u : Value} {n : Nat} (hr : ∀ W, (Instr.sliceAt 23 v none (some (.int .i64 (n : Int))) none).run Tryd.prog W = .ok u W) (ho : o.op = .slice 23 x none (some y) none) (hx : a.eval x = v) (hy : a.eval y = .int .i64 (n : Int)) :
    (execOp a.eval o).run Tryd.prog W = .ok (.value u) W := by
  simp [execOp, ho, hx, hy, hr, Sem.run_bind]
theorem eq64t {A B : Nat} (h : A = B) (w : World) : (Op.equalIn 10000 30 (.agg (arrK .u8 64 (byt A))) (.agg (arrK .u8 64 (byt B)))).run Tryd.prog w = .ok true w := by
  subst h
  rw [run_equalIn_arr (P := Tryd.prog) w 9998 30 5 64 .u8 (arrK .u8 64 (byt A)) (arrK .u8 64 (byt A)) (byt A) (byt A) Tryd.underlying30 Tryd.underlying5 (by kernel_rfl) (fun i hi => arrK_get _ _ _ _ hi) (fun i hi => arrK_get _ _ _ _ hi)]
  rw [(eqArr_true _ _ _).2 fun _ _ => rfl]
theorem eq32t {A B : Nat} (h : A = B) (w : World) : (Op.equalIn 10000 22 (.agg (arrK .u8 32 (byt A))) (.agg (arrK .u8 32 (byt B)))).run Tryd.prog w = .ok true w := by
  subst h
  rw [run_equalIn_arr (P := Tryd.prog) w 9998 22 5 32 .u8 (arrK .u8 32 (byt A)) (arrK .u8 32 (byt A)) (byt A) (byt A) Tryd.underlying22 Tryd.underlying5 (by kernel_rfl) (fun i hi => arrK_get _ _ _ _ hi) (fun i hi => arrK_get _ _ _ _ hi)]
  rw [(eqArr_true _ _ _).2 fun _ _ => rfl]

theorem custumalIndex_0 (hd : kn.d) (hb : kn.b) (hc : kn.c) (S : Nat) (v : Value) (L M : List UInt8) (hL : L.length ≤ 9223372036854775807) (hM : List.take (min L.length 100) L = M) (hMl : M.length ≤ 100) (L2 M2 : List UInt8) (v2 : Value) (hL2 : L2.length ≤ 9223372036854775807) (hN : List.take (min L2.length 100) L2 = M2) (hMl2 : M2.length ≤ 100) (h0 : (vprv S M).2 ≠ 0) :
  ∀ w, GA kn w → H2.GS4 w → Sl w v L → Sl w v2 L2 → Calls Tryd.prog 14 #[.agg (arrK .u8 32 (byt S)), v, v2] w fun e w' => Ret (.bool true) w w' e := by
 obtain ⟨U1, hU1⟩ := exn ((vprv S M).1)
 have eU1 : B80 U1 := by rw [hU1]; exact vprv_80 _ _
 have HU1 := Lib.hid hU1
 clear hU1
 obtain ⟨U2, hU2⟩ := exn ((vprv S M).2)
 have HU2 := Lib.hid hU2
 clear hU2
 have hz0 : (U2 : Int) = 15 := by rw [HU2.out, (vprv_e _ _).resolve_left h0]; rfl
 intro w hG h4 hs hs2
 have ow_a := hs
 have ow_b := hs2
 have off0 : Off [] w w := Off.refl _ _
 go_enter Tryd.func14, Tryd.ntmps14
 go_upto_region 0 with fail
 refine wp_region_lit ?_
 refine Ln ?_ (z := arrK .u8 32 (byt S)) (t := 22)
 intro p3_1 W1 n_t3 hO h_
 replace ow_a := Sl.off ow_a hO f0
 replace ow_b := Sl.off ow_b hO f0
 replace off0 := off0.o hO
 have k_t3 := h_
 clear hO h_ n_t3
 refine Lw ?_ (v := .bool false)
 refine wpL_nil ?_
 go_upto_region 1 with fail
 refine Rx 12 ?_
 refine Xv ?_
 refine Xv ?_
 refine Xw ?_ (v := .int .i64 (L.length : Int)) (hv := fun W _ => run_lenA ow_a rfl rfl)
 refine Xw ?_ (v := .int .i64 ((min L.length 100 : Nat) : Int)) (hv := fun _ _ => by go_simp; (try omega))
 obtain ⟨u22, hrc22, ow_c22, sub_c22, _⟩ := run_head (n := min L.length 100) ow_a (by omega)
 rw [hM] at ow_c22 sub_c22
 (refine wpX_val (v := u22) (by rfl) (fun W hW => run_cutX hrc22 rfl rfl rfl) ?_)
 (try simp only [Act.put, mA, mB, mC])
 refine Xv ?_
 refine Xv ?_
 refine Xw ?_ (v := .int .i64 (L2.length : Int)) (hv := fun W _ => run_lenA ow_b rfl rfl)
 refine Xw ?_ (v := .int .i64 ((min L2.length 100 : Nat) : Int)) (hv := fun _ _ => by go_simp; (try omega))
 obtain ⟨u27, hrc27, ow_c27, sub_c27, _⟩ := run_head (n := min L2.length 100) ow_b (by omega)
 rw [hN] at ow_c27 sub_c27
 (refine wpX_val (v := u27) (by rfl) (fun W hW => run_cutX hrc27 rfl rfl rfl) ?_)
 (try simp only [Act.put, mA, mB, mC])
 refine Xv ?_
 refine Xv ?_
 refine wpX_nil fun W2 hE => ?_
 have hO := off_ext hE
 replace k_t3 := k_t3.o hO
 replace ow_c22 := Sl.off ow_c22 hO f0
 replace off0 := off0.o hO
 clear hO hE
 refine LN ?_
 go_upto_region 2 with fail
 refine wp_region_lit ?_
 refine L0A ?_ k_t3
 refine Lv ?_
 refine Lr ?_ (proveN_c hd hb hc HU1.out HU2.out u22 (by first | omega | (simp only [List.length_append, List.length_take, List.length_cons, List.length_nil, lb_length]; omega)) W2 (GA_ext hG off0.ext) ow_c22)
 intro W3 hO
 replace off0 := off0.o hO
 clear hO
 refine Lv ?_
 refine Lv ?_
 refine Lv ?_
 refine LnA ?_ (z := arrK .u8 80 (byt 0)) (t := 45) (k := .u8) (n := 80) (f := byt U1)
 intro p7_4 W5 n_t7 hO h_
 replace off0 := off0.o hO
 clear hO h_ n_t7
 refine Lv ?_
 refine wpL_nil ?_
 go_upto_region 3 with fail
 refine wp_region_lit ?_
 refine Lr ?_ (stands_c W5 (H2.GS_ext4 h4 off0.ext))
 intro W6 hO
 replace off0 := off0.o hO
 clear hO
 refine Lw ?_ (v := .bool false)
 refine Lw ?_ (v := .bool false)
 refine Lv ?_
 refine Lw ?_ (v := .bool true) (hv := by first | (go_simp; done) | (go_simp; simp only [hz0]; done) | (go_simp; simp only [hz0]; decide))
 refine Lw ?_ (v := .bool true)
 refine wpL_nil ?_
 go_upto_region 4 with fail
 refine wp_region_lit ?_
 refine Lr ?_ (stands_c W6 (H2.GS_ext4 h4 off0.ext))
 intro W7 hO
 replace off0 := off0.o hO
 clear hO
 refine Lw ?_ (v := .bool true)
 refine wpL_nil ?_
 go_wp2
 exact bodyPost_ret (v := .bool true) (by simp only [results, Tryd.results14]; go_simp) rfl ⟨rfl, off0.ext⟩
theorem custumalIndex_1 (hd : kn.d) (hb : kn.b) (hc : kn.c) (S : Nat) (v : Value) (L M : List UInt8) (hL : L.length ≤ 9223372036854775807) (hM : List.take (min L.length 100) L = M) (hMl : M.length ≤ 100) (L2 M2 : List UInt8) (v2 : Value) (hL2 : L2.length ≤ 9223372036854775807) (hN : List.take (min L2.length 100) L2 = M2) (hMl2 : M2.length ≤ 100) (h0 : (vprv S M).2 = 0) :
  ∀ w, GA kn w → H2.GS4 w → Sl w v L → Sl w v2 L2 → Calls Tryd.prog 14 #[.agg (arrK .u8 32 (byt S)), v, v2] w fun e w' => Ret (.bool true) w w' e := by
 obtain ⟨U1, hU1⟩ := exn ((vprv S M).1)
 have eU1 : B80 U1 := by rw [hU1]; exact vprv_80 _ _
 have HU1 := Lib.hid hU1
 clear hU1
 obtain ⟨U2, hU2⟩ := exn ((vprv S M).2)
 have HU2 := Lib.hid hU2
 clear hU2
 have hz0 : (U2 : Int) = 0 := by rw [HU2.out, h0]; rfl
 obtain ⟨U3, hU3⟩ := exn (kN S)
 have bU3 : U3 < 2 ^ 256 := by rw [hU3]; exact kN_lt _
 have HU3 := Lib.hid hU3
 clear hU3
 obtain ⟨U4, hU4⟩ := exn (kD S)
 have bU4 : U4 < 2 ^ 256 := by rw [hU4]; exact kD_lt _
 have HU4 := Lib.hid hU4
 clear hU4
 obtain ⟨U5, hU5⟩ := exn (kP S)
 have bU5 : U5 < 2 ^ 256 := by rw [hU5]; exact kP_lt _
 have HU5 := Lib.hid hU5
 clear hU5
 obtain ⟨U6, hU6⟩ := exn ((vchk U5 M U1).1)
 have HU6 := Lib.hid hU6
 clear hU6
 obtain ⟨U7, hU7⟩ := exn ((vchk U5 M U1).2)
 have HU7 := Lib.hid hU7
 clear hU7
 obtain ⟨U8, hU8⟩ := exn ((vsm U1).1)
 have HU8 := Lib.hid hU8
 clear hU8
 obtain ⟨U9, hU9⟩ := exn ((vsm U1).2)
 have HU9 := Lib.hid hU9
 clear hU9
 have hq_ := back_all (S := S) (L := M) h0
 rw [← HU5.out, ← HU1.out] at hq_
 rw [← HU7.out, ← HU9.out, ← HU6.out, ← HU8.out] at hq_
 have hz1 : (U7 : Int) = 0 := by rw [hq_.1]; rfl
 have hz2 : (U9 : Int) = 0 := by rw [hq_.2.1]; rfl
 have HX := Lib.hid hq_.2.2
 have hs_ := vsm_ok (P := U1) (by rw [← HU9.out]; exact hq_.2.1)
 rw [← HU8.out] at hs_
 have okG := hs_.1
 have HS3 := Lib.hid hs_.2
 clear hq_ hs_
 have od1 : dOk (pG U1) = true := okG
 obtain ⟨xd1, td1, rd1, cd1⟩ := eDec_1 hc (V := (pG U1)) (pG_lt _) od1
 obtain ⟨yd1, hyd1⟩ := exn ((pG U1) % 2 ^ 255)
 rw [← hyd1] at rd1 cd1
 have Hyd1 := Lib.hid hyd1
 clear hyd1
 obtain ⟨x2, y3, z4, t5, r6, c7⟩ := eEight_c (kn := kn) rd1.rw
 obtain ⟨U10, hU10⟩ := exn (enc (pm (dPt (pG U1)) 8))
 have bU10 : U10 < 2 ^ 256 := by rw [hU10]; exact enc_lt _
 have HU10 := Lib.hid hU10
 clear hU10
 obtain ⟨U11, hU11⟩ := exn (hs ([3, 3] ++ (lb 32 U10) ++ [0]))
 have HU11 := Lib.hid hU11
 clear hU11
 intro w hG h4 hs hs2
 have ow_a := hs
 have ow_b := hs2
 have off0 : Off [] w w := Off.refl _ _
 go_enter Tryd.func14, Tryd.ntmps14
 go_upto_region 0 with fail
 refine wp_region_lit ?_
 refine Ln ?_ (z := arrK .u8 32 (byt S)) (t := 22)
 intro p3_1 W1 n_t3 hO h_
 replace ow_a := Sl.off ow_a hO f0
 replace ow_b := Sl.off ow_b hO f0
 replace off0 := off0.o hO
 have k_t3 := h_
 clear hO h_ n_t3
 refine Lw ?_ (v := .bool false)
 refine wpL_nil ?_
 go_upto_region 1 with fail
 refine Rx 12 ?_
 refine Xv ?_
 refine Xv ?_
 refine Xw ?_ (v := .int .i64 (L.length : Int)) (hv := fun W _ => run_lenA ow_a rfl rfl)
 refine Xw ?_ (v := .int .i64 ((min L.length 100 : Nat) : Int)) (hv := fun _ _ => by go_simp; (try omega))
 obtain ⟨u22, hrc22, ow_c22, sub_c22, _⟩ := run_head (n := min L.length 100) ow_a (by omega)
 rw [hM] at ow_c22 sub_c22
 (refine wpX_val (v := u22) (by rfl) (fun W hW => run_cutX hrc22 rfl rfl rfl) ?_)
 (try simp only [Act.put, mA, mB, mC])
 refine Xv ?_
 refine Xv ?_
 refine Xw ?_ (v := .int .i64 (L2.length : Int)) (hv := fun W _ => run_lenA ow_b rfl rfl)
 refine Xw ?_ (v := .int .i64 ((min L2.length 100 : Nat) : Int)) (hv := fun _ _ => by go_simp; (try omega))
 obtain ⟨u27, hrc27, ow_c27, sub_c27, _⟩ := run_head (n := min L2.length 100) ow_b (by omega)
 rw [hN] at ow_c27 sub_c27
 (refine wpX_val (v := u27) (by rfl) (fun W hW => run_cutX hrc27 rfl rfl rfl) ?_)
 (try simp only [Act.put, mA, mB, mC])
 refine Xv ?_
 refine Xv ?_
 refine wpX_nil fun W2 hE => ?_
 have hO := off_ext hE
 replace k_t3 := k_t3.o hO
 replace ow_c22 := Sl.off ow_c22 hO f0
 replace ow_c27 := Sl.off ow_c27 hO f0
 replace off0 := off0.o hO
 clear hO hE
 refine LN ?_
 go_upto_region 2 with fail
 refine wp_region_lit ?_
 refine L0A ?_ k_t3
 refine Lv ?_
 refine Lr ?_ (proveN_c hd hb hc HU1.out HU2.out u22 (by first | omega | (simp only [List.length_append, List.length_take, List.length_cons, List.length_nil, lb_length]; omega)) W2 (GA_ext hG off0.ext) ow_c22)
 intro W3 hO
 replace k_t3 := k_t3.o hO
 replace ow_c22 := Sl.off ow_c22 hO f0
 replace ow_c27 := Sl.off ow_c27 hO f0
 replace off0 := off0.o hO
 clear hO
 refine Lv ?_
 refine Lv ?_
 refine Lv ?_
 refine LnA ?_ (z := arrK .u8 80 (byt 0)) (t := 45) (k := .u8) (n := 80) (f := byt U1)
 intro p7_4 W5 n_t7 hO h_
 replace k_t3 := k_t3.o hO
 replace ow_c22 := Sl.off ow_c22 hO f0
 replace ow_c27 := Sl.off ow_c27 hO f0
 replace off0 := off0.o hO
 have k_t7 := h_
 clear hO h_ n_t7
 refine Lv ?_
 refine wpL_nil ?_
 go_upto_region 3 with fail
 refine wp_region_lit ?_
 refine Lr ?_ (stands_c W5 (H2.GS_ext4 h4 off0.ext))
 intro W6 hO
 replace k_t3 := k_t3.o hO
 replace k_t7 := k_t7.o hO
 replace ow_c22 := Sl.off ow_c22 hO f0
 replace ow_c27 := Sl.off ow_c27 hO f0
 replace off0 := off0.o hO
 clear hO
 refine Lw ?_ (v := .bool false)
 refine Lw ?_ (v := .bool false)
 refine Lv ?_
 refine Lw ?_ (v := .bool false) (hv := by first | (go_simp; done) | (go_simp; simp only [hz0]; done) | (go_simp; simp only [hz0]; decide))
 refine Lw ?_ (v := .bool false)
 refine wpL_nil ?_
 go_upto_region 5 with fail
 refine Rx1 9 9 (z := arrK .u8 64 (byt 0)) (t := 30) ?_
 refine XlA ?_ k_t3
 refine Xf ?_ (fun W hW => spreadN_c hd hb HU3.out HU4.out HU5.out W (GA_ext (GA_ext hG off0.ext) hW))
 refine Xw ?_ (v := .agg (arrK .u8 32 (byt U5))) (hv := fun _ _ => by kernel_rfl)
 refine Xv ?_
 refine XlA ?_ k_t7
 refine Xf ?_ (fun W hW => checkN_c hd hb hc HU6.out HU7.out bU5 eU1 u22 (by first | omega | (simp only [List.length_append, List.length_take, List.length_cons, List.length_nil, lb_length]; omega)) W (GA_ext (GA_ext hG off0.ext) hW) (sl_ext ow_c22 hW))
 refine Xv ?_
 refine Xv ?_
 refine Xv ?_
 refine XN ?_
 intro p9_7 W7 n_t9 hE h_t9
 have hO := off_ext hE
 have nq_t7_t9 := bn k_t7 n_t9
 have ne_c22_t9 := ne_new (Sl.lt ow_c22) n_t9
 have ne_c27_t9 := ne_new (Sl.lt ow_c27) n_t9
 have fb_t9 := fbn off0 n_t9
 replace k_t7 := k_t7.o hO
 replace ow_c22 := Sl.off ow_c22 hO f0
 replace ow_c27 := Sl.off ow_c27 hO f0
 replace off0 := off0.o hO
 clear hO hE n_t9
 have k_t9 : Blk W7 p9_7 (arrK .u8 64 (byt 0)) 30 := h_t9
 clear h_t9
 refine LpA ?_ k_t9 (k := .u8) (n := 64) (f := byt U6)
 intro W8 hO h_
 replace k_t9 : Blk W8 p9_7 (arrK .u8 64 (byt U6)) 30 := h_
 clear h_
 replace k_t7 := k_t7.p hO nq_t7_t9
 replace ow_c22 := Sl.off ow_c22 hO (f1 ne_c22_t9)
 replace ow_c27 := Sl.off ow_c27 hO (f1 ne_c27_t9)
 replace off0 := off0.p hO fb_t9
 clear hO
 refine Lv ?_
 refine LN ?_
 go_upto_region 6 with fail
 refine wp_region_lit ?_
 refine L0A ?_ k_t7
 refine Lr ?_ (vsumN_c hc HU8.out HU9.out W8 (GA_ext hG off0.ext))
 intro W9 hO
 replace k_t7 := k_t7.o hO
 replace k_t9 := k_t9.o hO
 replace ow_c22 := Sl.off ow_c22 hO f0
 replace ow_c27 := Sl.off ow_c27 hO f0
 replace off0 := off0.o hO
 clear hO
 refine Lv ?_
 refine Lv ?_
 refine Lv ?_
 refine LnA ?_ (z := arrK .u8 64 (byt 0)) (t := 30) (k := .u8) (n := 64) (f := byt U8)
 intro p11_10 W11 n_t11 hO h_
 replace k_t7 := k_t7.o hO
 replace k_t9 := k_t9.o hO
 replace ow_c22 := Sl.off ow_c22 hO f0
 replace ow_c27 := Sl.off ow_c27 hO f0
 replace off0 := off0.o hO
 have k_t11 := h_
 clear hO h_ n_t11
 refine Lv ?_
 refine wpL_nil ?_
 go_upto_region 7 with fail
 refine wp_region_lit ?_
 refine Ln ?_ (z := arrK .u8 32 (byt 0)) (t := 22)
 intro p13_12 W12 n_t13 hO h_
 have nq_t9_t13 := bn k_t9 n_t13
 have nq_t11_t13 := bn k_t11 n_t13
 have ne_c22_t13 := ne_new (Sl.lt ow_c22) n_t13
 have ne_c27_t13 := ne_new (Sl.lt ow_c27) n_t13
 have fb_t13 := fbn off0 n_t13
 replace k_t7 := k_t7.o hO
 replace k_t9 := k_t9.o hO
 replace k_t11 := k_t11.o hO
 replace ow_c22 := Sl.off ow_c22 hO f0
 replace ow_c27 := Sl.off ow_c27 hO f0
 replace off0 := off0.o hO
 have k_t13 := h_
 clear hO h_ n_t13
 refine wpL_nil ?_
 go_upto_region 8 with fail
 refine Rx 2 ?_
 refine Xw ?_ (v := .slice (some ⟨p13_12, 0, none⟩) 32 32)
 refine Xw ?_ (v := .slice (some ⟨p7_4, 0, none⟩) 32 80)
 refine wpX_nil fun W13 hE => ?_
 have hO := off_ext hE
 replace k_t7 := k_t7.o hO
 replace k_t9 := k_t9.o hO
 replace k_t11 := k_t11.o hO
 replace k_t13 := k_t13.o hO
 replace ow_c22 := Sl.off ow_c22 hO f0
 replace ow_c27 := Sl.off ow_c27 hO f0
 replace off0 := off0.o hO
 clear hO hE
 refine wpL_copyA (V := (pG U1)) (sl_part (V := (pG U1)) (n := 32) (off := 0) k_t7 h80g (by decide) (by decide)) k_t13 (by rfl) rfl rfl rfl ?_
 (try simp only [Act.put, mA, mB, mC])
 intro W14 hO h_
 replace k_t13 : Blk W14 p13_12 (arrK .u8 32 (byt (pG U1))) 22 := h_
 clear h_
 replace k_t9 := k_t9.p hO nq_t9_t13
 replace k_t11 := k_t11.p hO nq_t11_t13
 replace ow_c22 := Sl.off ow_c22 hO (f1 ne_c22_t13)
 replace ow_c27 := Sl.off ow_c27 hO (f1 ne_c27_t13)
 replace off0 := off0.p hO fb_t13
 clear hO
 refine LN ?_
 go_upto_region 9 with fail
 refine wp_region_lit ?_
 refine L0A ?_ k_t13
 refine Lr ?_ (cd1 W14 (GA_ext hG off0.ext).1)
 intro W15 hO
 replace k_t9 := k_t9.o hO
 replace k_t11 := k_t11.o hO
 replace ow_c22 := Sl.off ow_c22 hO f0
 replace ow_c27 := Sl.off ow_c27 hO f0
 replace off0 := off0.o hO
 clear hO
 refine Lv ?_
 refine Lv ?_
 refine Lw ?_ (v := .int .i64 0)
 refine LnP ?_ (z := p4 0 0 0 0) (t := 60) (cells := p4 xd1 yd1 1 td1)
 intro p14_16 W17 n_t14 hO h_
 replace k_t9 := k_t9.o hO
 replace k_t11 := k_t11.o hO
 replace ow_c22 := Sl.off ow_c22 hO f0
 replace ow_c27 := Sl.off ow_c27 hO f0
 replace off0 := off0.o hO
 have k_t14 := h_
 clear hO h_ n_t14
 refine Lw ?_ (v := .int .i64 0)
 refine wpL_nil ?_
 go_upto_region 10 with fail
 refine wp_region_lit ?_
 refine L0 ?_ k_t14
 refine Lr ?_ (c7 W17 (GA_ext hG off0.ext).1)
 intro W18 hO
 replace k_t9 := k_t9.o hO
 replace k_t11 := k_t11.o hO
 replace ow_c22 := Sl.off ow_c22 hO f0
 replace ow_c27 := Sl.off ow_c27 hO f0
 replace off0 := off0.o hO
 clear hO
 refine Lr ?_ (encN_c r6.rw HU10.out W18 (GA_ext hG off0.ext).1)
 intro W19 hO
 replace k_t9 := k_t9.o hO
 replace k_t11 := k_t11.o hO
 replace ow_c22 := Sl.off ow_c22 hO f0
 replace ow_c27 := Sl.off ow_c27 hO f0
 replace off0 := off0.o hO
 clear hO
 refine LnA ?_ (z := arrK .u8 32 (byt 0)) (t := 22) (k := .u8) (n := 32) (f := byt U10)
 intro p16_20 W21 n_t16 hO h_
 replace k_t9 := k_t9.o hO
 replace k_t11 := k_t11.o hO
 replace ow_c22 := Sl.off ow_c22 hO f0
 replace ow_c27 := Sl.off ow_c27 hO f0
 replace off0 := off0.o hO
 have k_t16 := h_
 clear hO h_ n_t16
 refine wpL_nil ?_
 go_upto_region 11 with fail
 refine wp_region_lit ?_
 refine LnS ?_ (z := #[.int .u8 3, .int .u8 3]) (t := 5) (n := 2) (c := 2)
 intro p66_22 W22 n_s66 hO h_
 replace k_t9 := k_t9.o hO
 replace k_t11 := k_t11.o hO
 replace k_t16 := k_t16.o hO
 replace ow_c22 := Sl.off ow_c22 hO f0
 replace ow_c27 := Sl.off ow_c27 hO f0
 replace off0 := off0.o hO
 have ow_s66 : Own W22 (.slice (some ⟨p66_22, 0, none⟩) 2 2) [3, 3] := own_blk h_ (by rfl) (by show 2 ≤ maxLen; decide)
 clear hO h_ n_s66
 refine Lw ?_ (v := .slice (some ⟨p16_20, 0, none⟩) 32 32) (hv := by first | rfl | (go_simp; done) | (go_simp; with_reducible rfl))
 refine LnS ?_ (z := #[.int .u8 0]) (t := 5) (n := 1) (c := 1)
 intro p68_23 W23 n_s68 hO h_
 replace k_t9 := k_t9.o hO
 replace k_t11 := k_t11.o hO
 replace k_t16 := k_t16.o hO
 replace ow_c22 := Sl.off ow_c22 hO f0
 replace ow_c27 := Sl.off ow_c27 hO f0
 replace ow_s66 := Own.off ow_s66 hO f0
 replace off0 := off0.o hO
 have ow_s68 : Own W23 (.slice (some ⟨p68_23, 0, none⟩) 1 1) [0] := own_blk h_ (by rfl) (by show 1 ≤ maxLen; decide)
 clear hO h_ n_s68
 refine LnS ?_ (z := #[(.slice (some ⟨p66_22, 0, none⟩) 2 2), .slice (some ⟨p16_20, 0, none⟩) 32 32, (.slice (some ⟨p68_23, 0, none⟩) 1 1)]) (t := 23) (n := 3) (c := 3) (hr := by exact run_bsv [(.slice (some ⟨p66_22, 0, none⟩) 2 2), .slice (some ⟨p16_20, 0, none⟩) 32 32, (.slice (some ⟨p68_23, 0, none⟩) 1 1)] rfl rfl (vsc ((own_cells ow_s66).1) (vsc (rfl) (vsc ((own_cells ow_s68).1) vs0))) Tryd.underlying112 (by kernel_rfl) (by kernel_rfl) rfl (by decide) (by decide))
 intro p69_24 W24 n_s69 hO h_
 replace k_t9 := k_t9.o hO
 replace k_t11 := k_t11.o hO
 replace k_t16 := k_t16.o hO
 replace ow_c22 := Sl.off ow_c22 hO f0
 replace ow_c27 := Sl.off ow_c27 hO f0
 replace ow_s66 := Own.off ow_s66 hO f0
 replace ow_s68 := Own.off ow_s68 hO f0
 replace off0 := off0.o hO
 have k_s69 := h_
 clear hO h_ n_s69
 refine Lr ?_ (sumN_c HU11.out [[3, 3], lb 32 U10, [0]] (some ⟨p69_24, 0, none⟩) 3 (by simp only [List.flatten_cons, List.flatten_nil, List.append_nil, List.nil_append, List.append_assoc, List.cons_append]) (by first | omega | (simp only [List.length_append, List.length_cons, List.length_nil, lb_length]; omega)) (by simp) W24 (pss_blk k_s69 (pvc (ow_s66.sl) (pvc (sl_part (V := U10) (n := 32) (off := 0) k_t16 ap0 (by decide) (by decide)) (pvc (ow_s68.sl) pv0)))) (GA_ext hG off0.ext).2.1)
 intro W25 hO
 replace k_t9 := k_t9.o hO
 replace k_t11 := k_t11.o hO
 replace ow_c22 := Sl.off ow_c22 hO f0
 replace ow_c27 := Sl.off ow_c27 hO f0
 replace off0 := off0.o hO
 clear hO
 refine LnA ?_ (z := arrK .u8 64 (byt 0)) (t := 30) (k := .u8) (n := 64) (f := byt U11)
 intro p17_26 W27 n_t17 hO h_
 replace k_t9 := k_t9.o hO
 replace k_t11 := k_t11.o hO
 replace ow_c22 := Sl.off ow_c22 hO f0
 replace ow_c27 := Sl.off ow_c27 hO f0
 replace off0 := off0.o hO
 have k_t17 := h_
 clear hO h_ n_t17
 refine wpL_nil ?_
 by_cases hq : M2 = M
 ·
  have _f := hq
  go_upto_region 12 with fail
  refine Rx 35 ?_
  refine Xv ?_
  refine Xw ?_ (v := .bool true) (hv := fun _ _ => by first | (go_simp; done) | (go_simp; simp only [hz1]; done) | (go_simp; simp only [hz1]; decide))
  refine Xv ?_
  refine Xv ?_
  refine Xw ?_ (v := .bool true) (hv := fun _ _ => by first | (go_simp; done) | (go_simp; simp only [hz2]; done) | (go_simp; simp only [hz2]; decide))
  refine Xv ?_
  refine Xv ?_
  refine Xv ?_
  refine Xv ?_
  refine Xv ?_
  refine Xv ?_
  refine XlA ?_ k_t9
  refine XlA ?_ k_t11
  refine wpX_eqlA (fun w => eq64t HX.out w) (by kernel_rfl) (by rfl) rfl rfl rfl ?_
  (try simp only [Act.put, mA, mB, mC])
  refine Xv ?_
  refine Xv ?_
  refine XlA ?_ k_t9
  refine XlA ?_ k_t17
  refine wpX_eqlA (fun w => eq64t (by rw [HX.out, HS3.out, HU11.out, HU10.out]; rfl) w) (by kernel_rfl) (by rfl) rfl rfl rfl ?_
  (try simp only [Act.put, mA, mB, mC])
  refine Xv ?_
  refine Xv ?_
  refine Xv ?_
  refine wpX_str (l := M2) (fun W hW => sl_ext ow_c27 hW) (by rfl) rfl rfl ?_
  (try simp only [Act.put, mA, mB, mC])
  refine Xv ?_
  refine wpX_str (l := M) (fun W hW => sl_ext ow_c22 hW) (by rfl) rfl rfl ?_
  (try simp only [Act.put, mA, mB, mC])
  refine wpX_strne (l := M2) (m := M) (b := false) (by rw [decide_eq_true hq]; rfl) (by rfl) rfl rfl rfl ?_
  (try simp only [Act.put, mA, mB, mC])
  refine Xv ?_
  refine XlA ?_ k_t9
  refine Xf ?_ (fun W hW => index_c W)
  refine XlA ?_ k_t11
  refine Xf ?_ (fun W hW => index_c W)
  refine wpX_eqlA (fun w => eq32t (congrArg lo HX.out) w) (by kernel_rfl) (by rfl) rfl rfl rfl ?_
  (try simp only [Act.put, mA, mB, mC])
  refine Xv ?_
  refine Xv ?_
  refine Xv ?_
  refine wpX_nil fun W28 hE => ?_
  have hO := off_ext hE
  replace k_t9 := k_t9.o hO
  replace k_t11 := k_t11.o hO
  replace k_t17 := k_t17.o hO
  replace ow_c22 := Sl.off ow_c22 hO f0
  replace ow_c27 := Sl.off ow_c27 hO f0
  replace off0 := off0.o hO
  clear hO hE
  refine LN ?_
  go_wp2
  exact bodyPost_ret (v := .bool true) (by simp only [results, Tryd.results14]; go_simp) rfl ⟨rfl, off0.ext⟩
 ·
  have _f := hq
  go_upto_region 12 with fail
  refine Rx 35 ?_
  refine Xv ?_
  refine Xw ?_ (v := .bool true) (hv := fun _ _ => by first | (go_simp; done) | (go_simp; simp only [hz1]; done) | (go_simp; simp only [hz1]; decide))
  refine Xv ?_
  refine Xv ?_
  refine Xw ?_ (v := .bool true) (hv := fun _ _ => by first | (go_simp; done) | (go_simp; simp only [hz2]; done) | (go_simp; simp only [hz2]; decide))
  refine Xv ?_
  refine Xv ?_
  refine Xv ?_
  refine Xv ?_
  refine Xv ?_
  refine Xv ?_
  refine XlA ?_ k_t9
  refine XlA ?_ k_t11
  refine wpX_eqlA (fun w => eq64t HX.out w) (by kernel_rfl) (by rfl) rfl rfl rfl ?_
  (try simp only [Act.put, mA, mB, mC])
  refine Xv ?_
  refine Xv ?_
  refine XlA ?_ k_t9
  refine XlA ?_ k_t17
  refine wpX_eqlA (fun w => eq64t (by rw [HX.out, HS3.out, HU11.out, HU10.out]; rfl) w) (by kernel_rfl) (by rfl) rfl rfl rfl ?_
  (try simp only [Act.put, mA, mB, mC])
  refine Xv ?_
  refine Xv ?_
  refine Xv ?_
  refine wpX_str (l := M2) (fun W hW => sl_ext ow_c27 hW) (by rfl) rfl rfl ?_
  (try simp only [Act.put, mA, mB, mC])
  refine Xv ?_
  refine wpX_str (l := M) (fun W hW => sl_ext ow_c22 hW) (by rfl) rfl rfl ?_
  (try simp only [Act.put, mA, mB, mC])
  refine wpX_strne (l := M2) (m := M) (b := true) (by rw [decide_eq_false hq]; rfl) (by rfl) rfl rfl rfl ?_
  (try simp only [Act.put, mA, mB, mC])
  refine Xv ?_
  refine Xs ?_
  refine Xs ?_
  refine Xs ?_
  refine Xs ?_
  refine Xs ?_
  refine Xv ?_
  refine Xv ?_
  refine Xv ?_
  refine wpX_nil fun W28 hE => ?_
  have hO := off_ext hE
  replace off0 := off0.o hO
  clear hO hE
  refine LN ?_
  go_wp2
  exact bodyPost_ret (v := .bool true) (by simp only [results, Tryd.results14]; go_simp) rfl ⟨rfl, off0.ext⟩
theorem custumalIndex_c (hd : kn.d) (hb : kn.b) (hc : kn.c) (S : Nat) (v : Value) (L M : List UInt8) (hL : L.length ≤ 9223372036854775807) (hM : List.take (min L.length 100) L = M) (hMl : M.length ≤ 100) (L2 M2 : List UInt8) (v2 : Value) (hL2 : L2.length ≤ 9223372036854775807) (hN : List.take (min L2.length 100) L2 = M2) (hMl2 : M2.length ≤ 100) : ∀ w, GA kn w → H2.GS4 w → Sl w v L → Sl w v2 L2 →
    Calls Tryd.prog 14 #[.agg (arrK .u8 32 (byt S)), v, v2] w fun e w' => Ret (.bool true) w w' e := by
  by_cases h0 : (vprv S M).2 = 0
  · exact custumalIndex_1 hd hb hc S v L M hL hM hMl L2 M2 v2 hL2 hN hMl2 h0
  · exact custumalIndex_0 hd hb hc S v L M hL hM hMl L2 M2 v2 hL2 hN hMl2 h0
end Go.Proofs.YtefpoollmbmkfaaDoor
