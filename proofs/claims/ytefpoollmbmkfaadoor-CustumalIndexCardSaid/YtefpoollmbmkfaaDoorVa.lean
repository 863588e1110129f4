/- vrf: point. Conditions: the cells of the variables hold their numbers. vrf: mark, wide. Conditions: the cells of the variables hold their numbers. vrf: key, parts, Sum, Index. Conditions: the cells of the variables hold their numbers. -/
import Derived.Test.YtefpoollmbmkfaaDoorGc
import Derived.Test.YtefpoollmbmkfaaDoorJ23
set_option linter.unusedSimpArgs false
set_option linter.unusedVariables false
namespace Go.Proofs.YtefpoollmbmkfaaDoor
set_option maxHeartbeats 2000000
set_option maxRecDepth 100000
open Go.RowKit
attribute [local irreducible] wpList
variable {kn : Kn}
open Sc (LL clampF)
attribute [local irreducible] hs
theorem dec_rw {A B : Nat} {v : Value} {w : World} (h : A = B) (c : Calls Tryd.prog 31 #[.agg (arrK .u8 32 (byt B))] w fun e w' => Ret v w w' e) : Calls Tryd.prog 31 #[.agg (arrK .u8 32 (byt A))] w fun e w' => Ret v w w' e := h ▸ c
theorem run_lt {w : World} {o : Oper} {a : Act} {x y : Operand} {t t' : TypeId} {i n : Nat} {c : Bool} (hc : decide (i < n) = c) (ho : o.op = .binOp .lss t x y t') (hx : a.eval x = .int .i64 (i : Int)) (hy : a.eval y = .int .i64 (n : Int)) : (execOp a.eval o).run Tryd.prog w = .ok (.value (.bool c)) w := by
  have e : decide ((i : Int) < (n : Int)) = c := by rw [← hc]; exact decide_eq_decide.2 Int.ofNat_lt
  simp only [execOp, ho, hx, hy, eqGuard, binOp, Sem.run_bind]
  simp [e, hc, go_sem, Sem.run_bind]
theorem run_u8 {w : World} {o : Oper} {a : Act} {x : Operand} {i : Nat} (ho : o.op = .convert 3 5 x) (hx : a.eval x = .int .i64 (i : Int)) : (execOp a.eval o).run Tryd.prog w = .ok (.value (.int .u8 ((u8 i).toNat : Int))) w := by
  rw [u8_cast, show ((i : Int) % 256) = w8 (i : Int) from (IntKind.wrap_u8 _).symm]; exact run_c8i ho hx

theorem point_some (hc : kn.c) {V : Nat} {L : List UInt8} (hL : L.length ≤ 1099511627776) (c0 : Nat) (h256 : c0 < 256) (hok : candOk V L c0 = true) (hlow : ∀ i, i < c0 → candOk V L i = false) :
  ∃ X Y Z T, RN X Y Z T (candP V L c0) ∧ ∀ v w, GA kn w → Sl w v L → Calls Tryd.prog 60 #[.agg (arrK .u8 32 (byt V)), v] w fun e w' => Ret (.tuple #[.agg (p4 X Y Z T), .int .i64 0]) w w' e := by
 obtain ⟨dx0, dt0, dr0, dc0⟩ := eDec_1 (kn := kn) hc (cand_lt V L c0) (candOk_iff.1 hok).1
 obtain ⟨dy0, hdy0⟩ := exn (cand V L c0 % 2 ^ 255)
 rw [← hdy0] at dr0 dc0
 clear hdy0
 obtain ⟨ex0, ey0, ez0, et0, er0, ec0⟩ := eEight_c (kn := kn) dr0.rw
 replace er0 : RN ex0 ey0 ez0 et0 (candP V L c0) := er0
 refine ⟨ex0, ey0, ez0, et0, er0, fun v w hG hsl => ?_⟩
 have ow_a := hsl
 have off0 : Off [] w w := Off.refl _ _
 go_enter Tryd.func60, Tryd.ntmps60
 go_upto_region 0 with fail
 refine wp_region_lit ?_
 refine Ln ?_ (z := arrK .u8 32 (byt V)) (t := 22)
 intro p2_1 W1 n_t2 hO h_
 replace ow_a := Sl.off ow_a hO f0
 replace off0 := off0.o hO
 have k_t2 := h_
 clear hO h_ n_t2
 refine Ln ?_ (z := p4 0 0 0 0) (t := 60)
 intro p4_2 W2 n_t4 hO h_
 have nq_t2_t4 := bn k_t2 n_t4
 have ne_a_t4 := ne_new (Sl.lt ow_a) n_t4
 have fb_t4 := fbn off0 n_t4
 replace k_t2 := k_t2.o hO
 replace ow_a := Sl.off ow_a hO f0
 replace off0 := off0.o hO
 have k_t4 := h_
 clear hO h_ n_t4
 refine Lw ?_ (v := .int .i64 0)
 refine wpL_nil ?_
 go_wp2_with fail
 go_loopw [10] (fun ii wr => ∃ (i : Nat), (i ≤ c0) ∧ (ii = .int .i64 (i : Int)) ∧ Off [] w wr ∧ Blk wr p2_1 (arrK .u8 32 (byt V)) 22 ∧ Blk wr p4_2 (p4 0 0 0 0) 60 ∧ Sl wr v L)
  (fun ii _ => (256 - intOf ii).toNat)
 case atStart => exact ⟨0, Nat.zero_le _, rfl, off0, k_t2, k_t4, ow_a⟩
 case round =>
  obtain ⟨i, hi, rfl, off0, k_t2, k_t4, ow_a⟩ := hrel
  obtain ⟨W3, eW_⟩ := wname off0
  subst eW_
  go_upto_region 2 with fail
  refine wp_region_lit ?_
  refine Lw ?_ (v := .bool true) (hv := by exact run_lt (i := i) (n := 256) (decide_eq_true (by omega)) rfl rfl rfl)
  refine wpL_nil ?_
  by_cases hi0 : i = c0
  ·
   have _f := hi0
   subst hi0
   have hdo := (candOk_iff.1 hok).1
   have hne := (candOk_iff.1 hok).2
   go_upto_region 4 with fail
   refine wp_region_lit ?_
   refine LnS ?_ (z := #[.int .u8 3, .int .u8 1]) (t := 5) (n := 2) (c := 2)
   intro p13_4 W4 n_s13 hO h_
   have ne_s13_t4 : Value.ownBlock (.slice (some ⟨p13_4, 0, none⟩) 2 2) ≠ some p4_2 := obn k_t4 n_s13
   replace k_t2 := k_t2.o hO
   replace k_t4 := k_t4.o hO
   replace ow_a := Sl.off ow_a hO f0
   replace off0 := off0.o hO
   have ow_s13 : Own W4 (.slice (some ⟨p13_4, 0, none⟩) 2 2) [3, 1] := own_blk h_ (by rfl) (by show 2 ≤ maxLen; decide)
   clear hO h_ n_s13
   refine Lw ?_ (v := .slice (some ⟨p2_1, 0, none⟩) 32 32) (hv := by first | rfl | (go_simp; done) | (go_simp; with_reducible rfl))
   refine Lv ?_
   refine Lv ?_
   refine Lw ?_ (v := .int .u8 ((UInt8.ofNat i).toNat : Int)) (hv := by exact run_u8 rfl rfl)
   refine LnS ?_ (z := #[.int .u8 ((UInt8.ofNat i).toNat : Int), .int .u8 0]) (t := 5) (n := 2) (c := 2)
   intro p18_5 W5 n_s18 hO h_
   have ne_s18_t4 : Value.ownBlock (.slice (some ⟨p18_5, 0, none⟩) 2 2) ≠ some p4_2 := obn k_t4 n_s18
   replace k_t2 := k_t2.o hO
   replace k_t4 := k_t4.o hO
   replace ow_a := Sl.off ow_a hO f0
   replace ow_s13 := Own.off ow_s13 hO f0
   replace off0 := off0.o hO
   have ow_s18 : Own W5 (.slice (some ⟨p18_5, 0, none⟩) 2 2) [UInt8.ofNat i, 0] := own_blk h_ (by rfl) (by show 2 ≤ maxLen; decide)
   clear hO h_ n_s18
   refine LnS ?_ (z := #[(.slice (some ⟨p13_4, 0, none⟩) 2 2), .slice (some ⟨p2_1, 0, none⟩) 32 32, v, (.slice (some ⟨p18_5, 0, none⟩) 2 2)]) (t := 23) (n := 4) (c := 4) (hr := by exact run_bsv [(.slice (some ⟨p13_4, 0, none⟩) 2 2), .slice (some ⟨p2_1, 0, none⟩) 32 32, v, (.slice (some ⟨p18_5, 0, none⟩) 2 2)] rfl rfl (vsc ((own_cells ow_s13).1) (vsc (rfl) (vsc ((sl_cells ow_a).1) (vsc ((own_cells ow_s18).1) vs0)))) Tryd.underlying112 (by kernel_rfl) (by kernel_rfl) rfl (by decide) (by decide))
   intro p19_6 W6 n_s19 hO h_
   have nq_t4_s19 := bn k_t4 n_s19
   replace k_t2 := k_t2.o hO
   replace k_t4 := k_t4.o hO
   replace ow_a := Sl.off ow_a hO f0
   replace ow_s13 := Own.off ow_s13 hO f0
   replace ow_s18 := Own.off ow_s18 hO f0
   replace off0 := off0.o hO
   have k_s19 := h_
   clear hO h_ n_s19
   obtain ⟨U1, hU1⟩ := exn (hs ([3, 1] ++ (lb 32 V) ++ L ++ [UInt8.ofNat i, 0]))
   have HU1 := Lib.hid hU1
   clear hU1
   refine Lr ?_ (sumN_c HU1.out [[3, 1], lb 32 V, L, [UInt8.ofNat i, 0]] (some ⟨p19_6, 0, none⟩) 4 (by simp only [List.flatten_cons, List.flatten_nil, List.append_nil, List.nil_append, List.append_assoc, List.cons_append]) (by first | omega | (simp only [List.length_append, List.length_cons, List.length_nil, lb_length]; omega)) (by simp) W6 (pss_blk k_s19 (pvc (ow_s13.sl) (pvc (sl_part (V := V) (n := 32) (off := 0) k_t2 ap0 (by decide) (by decide)) (pvc ow_a (pvc (ow_s18.sl) pv0))))) (GA_ext hG off0.ext).2.1)
   intro W7 hO
   replace k_t2 := k_t2.o hO
   replace k_t4 := k_t4.o hO
   replace k_s19 := k_s19.o hO
   replace ow_a := Sl.off ow_a hO f0
   replace ow_s13 := Own.off ow_s13 hO f0
   replace ow_s18 := Own.off ow_s18 hO f0
   replace off0 := off0.o hO
   clear hO
   refine LnA ?_ (z := arrK .u8 64 (byt 0)) (t := 30) (k := .u8) (n := 64) (f := byt U1)
   intro p7_8 W9 n_t7 hO h_
   have nq_t4_t7 := bn k_t4 n_t7
   replace k_t2 := k_t2.o hO
   replace k_t4 := k_t4.o hO
   replace k_s19 := k_s19.o hO
   replace ow_a := Sl.off ow_a hO f0
   replace ow_s13 := Own.off ow_s13 hO f0
   replace ow_s18 := Own.off ow_s18 hO f0
   replace off0 := off0.o hO
   have k_t7 := h_
   clear hO h_ n_t7
   refine wpL_nil ?_
   go_upto_region 5 with fail
   refine wp_region_lit ?_
   refine Lw ?_ (v := .slice (some ⟨p7_8, 0, none⟩) 32 64) (hv := by first | rfl | (go_simp; done) | (go_simp; with_reducible rfl))
   refine Lw ?_ (v := .pointer (some ⟨p7_8, 0, none⟩)) (hv := by first | rfl | (go_simp; done) | (go_simp; with_reducible rfl))
   refine wpL_gets (vs := (arrK .u8 32 (byt (lo U1))).toList) (by rfl) rfl rfl k_t7 (subL h64l) (by kernel_rfl) (by kernel_rfl) ?_
   (try simp only [Act.put, mA, mB, mC])
   have hcb9 : lo U1 = cand V L i := by rw [HU1.out]; rfl
   refine Lr ?_ (dec_rw hcb9 (dc0 W9 (GA_ext hG off0.ext).1))
   intro W10 hO
   replace k_t2 := k_t2.o hO
   replace k_t4 := k_t4.o hO
   replace k_s19 := k_s19.o hO
   replace k_t7 := k_t7.o hO
   replace ow_a := Sl.off ow_a hO f0
   replace ow_s13 := Own.off ow_s13 hO f0
   replace ow_s18 := Own.off ow_s18 hO f0
   replace off0 := off0.o hO
   clear hO
   refine Lv ?_
   refine Lv ?_
   refine Lw ?_ (v := .int .i64 0)
   refine LnP ?_ (z := p4 0 0 0 0) (t := 60) (cells := p4 dx0 dy0 1 dt0)
   intro p8_11 W12 n_t8 hO h_
   have nq_t2_t8 := bn k_t2 n_t8
   have nq_t4_t8 := bn k_t4 n_t8
   have nq_s19_t8 := bn k_s19 n_t8
   have nq_t7_t8 := bn k_t7 n_t8
   have ne_a_t8 := ne_new (Sl.lt ow_a) n_t8
   have ne_s13_t8 := ne_new (Own.lt ow_s13) n_t8
   have ne_s18_t8 := ne_new (Own.lt ow_s18) n_t8
   have fb_t8 := fbn off0 n_t8
   replace k_t2 := k_t2.o hO
   replace k_t4 := k_t4.o hO
   replace k_s19 := k_s19.o hO
   replace k_t7 := k_t7.o hO
   replace ow_a := Sl.off ow_a hO f0
   replace ow_s13 := Own.off ow_s13 hO f0
   replace ow_s18 := Own.off ow_s18 hO f0
   replace off0 := off0.o hO
   have k_t8 := h_
   clear hO h_ n_t8
   refine Lw ?_ (v := .int .i64 0)
   refine wpL_nil ?_
   go_upto_region 7 with fail
   refine wp_region_lit ?_
   refine L0 ?_ k_t8
   refine Lr ?_ (ec0 W12 (GA_ext hG off0.ext).1)
   intro W13 hO
   replace k_t2 := k_t2.o hO
   replace k_t4 := k_t4.o hO
   replace k_s19 := k_s19.o hO
   replace k_t7 := k_t7.o hO
   replace k_t8 := k_t8.o hO
   replace ow_a := Sl.off ow_a hO f0
   replace ow_s13 := Own.off ow_s13 hO f0
   replace ow_s18 := Own.off ow_s18 hO f0
   replace off0 := off0.o hO
   clear hO
   refine Lp ?_ k_t8 (cells := p4 ex0 ey0 ez0 et0)
   intro W14 hO h_
   replace k_t8 : Blk W14 p8_11 (p4 ex0 ey0 ez0 et0) 60 := h_
   clear h_
   replace k_t2 := k_t2.p hO nq_t2_t8
   replace k_t4 := k_t4.p hO nq_t4_t8
   replace k_s19 := k_s19.p hO nq_s19_t8
   replace k_t7 := k_t7.p hO nq_t7_t8
   replace ow_a := Sl.off ow_a hO (f1 ne_a_t8)
   replace ow_s13 := Own.off ow_s13 hO (f1 ne_s13_t8)
   replace ow_s18 := Own.off ow_s18 hO (f1 ne_s18_t8)
   replace off0 := off0.p hO fb_t8
   clear hO
   refine wpL_nil ?_
   go_upto_region 8 with fail
   refine wp_region_lit ?_
   refine L0 ?_ k_t8
   refine Lw ?_ (v := .agg (p4 0 0 0 0)) (hv := by kernel_rfl)
   have cs_ := eSame_c (kn := kn) er0.rw rw_zero
   rw [show decide (candP V L i = p0) = false from decide_eq_false hne] at cs_
   refine Lr ?_ (cs_ W14 (GA_ext hG off0.ext).1)
   intro W15 hO
   replace k_t2 := k_t2.o hO
   replace k_t4 := k_t4.o hO
   replace k_s19 := k_s19.o hO
   replace k_t7 := k_t7.o hO
   replace k_t8 := k_t8.o hO
   replace ow_a := Sl.off ow_a hO f0
   replace ow_s13 := Own.off ow_s13 hO f0
   replace ow_s18 := Own.off ow_s18 hO f0
   replace off0 := off0.o hO
   clear hO
   refine Lw ?_ (v := .bool true)
   refine wpL_nil ?_
   go_upto_region 9 with fail
   refine wp_region_lit ?_
   refine L0 ?_ k_t8
   refine Lp ?_ k_t4 (cells := p4 ex0 ey0 ez0 et0)
   intro W16 hO h_
   replace k_t4 : Blk W16 p4_2 (p4 ex0 ey0 ez0 et0) 60 := h_
   clear h_
   replace k_t2 := k_t2.p hO nq_t2_t4
   replace k_s19 := k_s19.p hO nq_t4_s19.symm
   replace k_t7 := k_t7.p hO nq_t4_t7.symm
   replace k_t8 := k_t8.p hO nq_t4_t8.symm
   replace ow_a := Sl.off ow_a hO (f1 ne_a_t4)
   replace ow_s13 := Own.off ow_s13 hO (f1 ne_s13_t4)
   replace ow_s18 := Own.off ow_s18 hO (f1 ne_s18_t4)
   replace off0 := off0.p hO fb_t4
   clear hO
   refine Lw ?_ (v := .int .i64 0)
   refine wpL_nil ?_
   go_wp2
   exact bodyPost_ret (res_row2 rfl rfl rfl k_t4 (by kernel_rfl) (by kernel_rfl)) rfl ⟨rfl, off0.ext⟩
  ·
   have _f := hi0
   have hbad := hlow i (by omega)
   go_upto_region 4 with fail
   refine wp_region_lit ?_
   refine LnS ?_ (z := #[.int .u8 3, .int .u8 1]) (t := 5) (n := 2) (c := 2)
   intro p13_4 W4 n_s13 hO h_
   replace k_t2 := k_t2.o hO
   replace k_t4 := k_t4.o hO
   replace ow_a := Sl.off ow_a hO f0
   replace off0 := off0.o hO
   have ow_s13 : Own W4 (.slice (some ⟨p13_4, 0, none⟩) 2 2) [3, 1] := own_blk h_ (by rfl) (by show 2 ≤ maxLen; decide)
   clear hO h_ n_s13
   refine Lw ?_ (v := .slice (some ⟨p2_1, 0, none⟩) 32 32) (hv := by first | rfl | (go_simp; done) | (go_simp; with_reducible rfl))
   refine Lv ?_
   refine Lv ?_
   refine Lw ?_ (v := .int .u8 ((UInt8.ofNat i).toNat : Int)) (hv := by exact run_u8 rfl rfl)
   refine LnS ?_ (z := #[.int .u8 ((UInt8.ofNat i).toNat : Int), .int .u8 0]) (t := 5) (n := 2) (c := 2)
   intro p18_5 W5 n_s18 hO h_
   replace k_t2 := k_t2.o hO
   replace k_t4 := k_t4.o hO
   replace ow_a := Sl.off ow_a hO f0
   replace ow_s13 := Own.off ow_s13 hO f0
   replace off0 := off0.o hO
   have ow_s18 : Own W5 (.slice (some ⟨p18_5, 0, none⟩) 2 2) [UInt8.ofNat i, 0] := own_blk h_ (by rfl) (by show 2 ≤ maxLen; decide)
   clear hO h_ n_s18
   refine LnS ?_ (z := #[(.slice (some ⟨p13_4, 0, none⟩) 2 2), .slice (some ⟨p2_1, 0, none⟩) 32 32, v, (.slice (some ⟨p18_5, 0, none⟩) 2 2)]) (t := 23) (n := 4) (c := 4) (hr := by exact run_bsv [(.slice (some ⟨p13_4, 0, none⟩) 2 2), .slice (some ⟨p2_1, 0, none⟩) 32 32, v, (.slice (some ⟨p18_5, 0, none⟩) 2 2)] rfl rfl (vsc ((own_cells ow_s13).1) (vsc (rfl) (vsc ((sl_cells ow_a).1) (vsc ((own_cells ow_s18).1) vs0)))) Tryd.underlying112 (by kernel_rfl) (by kernel_rfl) rfl (by decide) (by decide))
   intro p19_6 W6 n_s19 hO h_
   replace k_t2 := k_t2.o hO
   replace k_t4 := k_t4.o hO
   replace ow_a := Sl.off ow_a hO f0
   replace ow_s13 := Own.off ow_s13 hO f0
   replace ow_s18 := Own.off ow_s18 hO f0
   replace off0 := off0.o hO
   have k_s19 := h_
   clear hO h_ n_s19
   obtain ⟨U2, hU2⟩ := exn (hs ([3, 1] ++ (lb 32 V) ++ L ++ [UInt8.ofNat i, 0]))
   have HU2 := Lib.hid hU2
   clear hU2
   refine Lr ?_ (sumN_c HU2.out [[3, 1], lb 32 V, L, [UInt8.ofNat i, 0]] (some ⟨p19_6, 0, none⟩) 4 (by simp only [List.flatten_cons, List.flatten_nil, List.append_nil, List.nil_append, List.append_assoc, List.cons_append]) (by first | omega | (simp only [List.length_append, List.length_cons, List.length_nil, lb_length]; omega)) (by simp) W6 (pss_blk k_s19 (pvc (ow_s13.sl) (pvc (sl_part (V := V) (n := 32) (off := 0) k_t2 ap0 (by decide) (by decide)) (pvc ow_a (pvc (ow_s18.sl) pv0))))) (GA_ext hG off0.ext).2.1)
   intro W7 hO
   replace k_t2 := k_t2.o hO
   replace k_t4 := k_t4.o hO
   replace ow_a := Sl.off ow_a hO f0
   replace off0 := off0.o hO
   clear hO
   refine LnA ?_ (z := arrK .u8 64 (byt 0)) (t := 30) (k := .u8) (n := 64) (f := byt U2)
   intro p7_8 W9 n_t7 hO h_
   replace k_t2 := k_t2.o hO
   replace k_t4 := k_t4.o hO
   replace ow_a := Sl.off ow_a hO f0
   replace off0 := off0.o hO
   have k_t7 := h_
   clear hO h_ n_t7
   refine wpL_nil ?_
   by_cases hdo : dOk (cand V L i) = true
   ·
    have _f := hdo
    go_upto_region 5 with fail
    refine wp_region_lit ?_
    refine Lw ?_ (v := .slice (some ⟨p7_8, 0, none⟩) 32 64) (hv := by first | rfl | (go_simp; done) | (go_simp; with_reducible rfl))
    refine Lw ?_ (v := .pointer (some ⟨p7_8, 0, none⟩)) (hv := by first | rfl | (go_simp; done) | (go_simp; with_reducible rfl))
    refine wpL_gets (vs := (arrK .u8 32 (byt (lo U2))).toList) (by rfl) rfl rfl k_t7 (subL h64l) (by kernel_rfl) (by kernel_rfl) ?_
    (try simp only [Act.put, mA, mB, mC])
    have hcb9 : lo U2 = cand V L i := by rw [HU2.out]; rfl
    obtain ⟨dx, dt, dr, dc⟩ := eDec_1 (kn := kn) hc (cand_lt V L i) hdo
    obtain ⟨dy, hdy⟩ := exn (cand V L i % 2 ^ 255)
    rw [← hdy] at dr dc
    clear hdy
    refine Lr ?_ (dec_rw hcb9 (dc W9 (GA_ext hG off0.ext).1))
    intro W10 hO
    replace k_t2 := k_t2.o hO
    replace k_t4 := k_t4.o hO
    replace k_t7 := k_t7.o hO
    replace ow_a := Sl.off ow_a hO f0
    replace off0 := off0.o hO
    clear hO
    refine Lv ?_
    refine Lv ?_
    refine Lw ?_ (v := .int .i64 0)
    refine LnP ?_ (z := p4 0 0 0 0) (t := 60) (cells := p4 dx dy 1 dt)
    intro p8_11 W12 n_t8 hO h_
    have nq_t2_t8 := bn k_t2 n_t8
    have nq_t4_t8 := bn k_t4 n_t8
    have nq_t7_t8 := bn k_t7 n_t8
    have ne_a_t8 := ne_new (Sl.lt ow_a) n_t8
    have fb_t8 := fbn off0 n_t8
    replace k_t2 := k_t2.o hO
    replace k_t4 := k_t4.o hO
    replace k_t7 := k_t7.o hO
    replace ow_a := Sl.off ow_a hO f0
    replace off0 := off0.o hO
    have k_t8 := h_
    clear hO h_ n_t8
    refine Lw ?_ (v := .int .i64 0)
    refine wpL_nil ?_
    go_upto_region 7 with fail
    refine wp_region_lit ?_
    refine L0 ?_ k_t8
    obtain ⟨ex, ey, ez, et, er, ec⟩ := eEight_c (kn := kn) dr.rw
    refine Lr ?_ (ec W12 (GA_ext hG off0.ext).1)
    intro W13 hO
    replace k_t2 := k_t2.o hO
    replace k_t4 := k_t4.o hO
    replace k_t7 := k_t7.o hO
    replace k_t8 := k_t8.o hO
    replace ow_a := Sl.off ow_a hO f0
    replace off0 := off0.o hO
    clear hO
    refine Lp ?_ k_t8 (cells := p4 ex ey ez et)
    intro W14 hO h_
    replace k_t8 : Blk W14 p8_11 (p4 ex ey ez et) 60 := h_
    clear h_
    replace k_t2 := k_t2.p hO nq_t2_t8
    replace k_t4 := k_t4.p hO nq_t4_t8
    replace k_t7 := k_t7.p hO nq_t7_t8
    replace ow_a := Sl.off ow_a hO (f1 ne_a_t8)
    replace off0 := off0.p hO fb_t8
    clear hO
    refine wpL_nil ?_
    go_upto_region 8 with fail
    refine wp_region_lit ?_
    refine L0 ?_ k_t8
    refine Lw ?_ (v := .agg (p4 0 0 0 0)) (hv := by kernel_rfl)
    have cs_ := eSame_c (kn := kn) er.rw rw_zero
    rw [show decide (pm (dPt (cand V L i)) 8 = p0) = true from decide_eq_true (cand_bad hbad hdo)] at cs_
    refine Lr ?_ (cs_ W14 (GA_ext hG off0.ext).1)
    intro W15 hO
    replace k_t2 := k_t2.o hO
    replace k_t4 := k_t4.o hO
    replace k_t7 := k_t7.o hO
    replace ow_a := Sl.off ow_a hO f0
    replace off0 := off0.o hO
    clear hO
    refine Lw ?_ (v := .bool false)
    refine wpL_nil ?_
    go_upto_region 10 with fail
    refine wp_region_lit ?_
    refine Lw ?_ (v := .int .i64 (((i + 1 : Nat) : Int))) (hv := by go_simp; (try simp only [IntKind.wrap_i64]); (try omega))
    refine Lv ?_
    refine wpL_nil ?_
    go_wp2
    go_roundw
    case rel => exact ⟨i + 1, by omega, by go_num, off0, k_t2, k_t4, ow_a⟩
    case measure => simp [intOf]; omega
   ·
    have _f := hdo
    replace hdo : dOk (cand V L i) = false := by simpa using hdo
    go_upto_region 5 with fail
    refine wp_region_lit ?_
    refine Lw ?_ (v := .slice (some ⟨p7_8, 0, none⟩) 32 64) (hv := by first | rfl | (go_simp; done) | (go_simp; with_reducible rfl))
    refine Lw ?_ (v := .pointer (some ⟨p7_8, 0, none⟩)) (hv := by first | rfl | (go_simp; done) | (go_simp; with_reducible rfl))
    refine wpL_gets (vs := (arrK .u8 32 (byt (lo U2))).toList) (by rfl) rfl rfl k_t7 (subL h64l) (by kernel_rfl) (by kernel_rfl) ?_
    (try simp only [Act.put, mA, mB, mC])
    have hcb9 : lo U2 = cand V L i := by rw [HU2.out]; rfl
    refine Lr ?_ (dec_rw hcb9 (eDec_0 (kn := kn) hc (cand_lt V L i) hdo W9 (GA_ext hG off0.ext).1))
    intro W10 hO
    replace k_t2 := k_t2.o hO
    replace k_t4 := k_t4.o hO
    replace ow_a := Sl.off ow_a hO f0
    replace off0 := off0.o hO
    clear hO
    refine Lv ?_
    refine Lv ?_
    refine Lw ?_ (v := .int .i64 15)
    refine LnP ?_ (z := p4 0 0 0 0) (t := 60) (cells := p4 0 0 0 0)
    intro p8_11 W12 n_t8 hO h_
    replace k_t2 := k_t2.o hO
    replace k_t4 := k_t4.o hO
    replace ow_a := Sl.off ow_a hO f0
    replace off0 := off0.o hO
    clear hO h_ n_t8
    refine Lw ?_ (v := .int .i64 15)
    refine wpL_nil ?_
    go_upto_region 10 with fail
    refine wp_region_lit ?_
    refine Lw ?_ (v := .int .i64 (((i + 1 : Nat) : Int))) (hv := by go_simp; (try simp only [IntKind.wrap_i64]); (try omega))
    refine Lv ?_
    refine wpL_nil ?_
    go_wp2
    go_roundw
    case rel => exact ⟨i + 1, by omega, by go_num, off0, k_t2, k_t4, ow_a⟩
    case measure => simp [intOf]; omega
theorem point_none (hc : kn.c) {V : Nat} {L : List UInt8} (hL : L.length ≤ 1099511627776) (hlow : ∀ i, i < 256 → candOk V L i = false) :
  ∀ v w, GA kn w → Sl w v L → Calls Tryd.prog 60 #[.agg (arrK .u8 32 (byt V)), v] w fun e w' => Ret (.tuple #[.agg (p4 0 0 0 0), .int .i64 15]) w w' e := by
 intro v w hG hsl
 have ow_a := hsl
 have off0 : Off [] w w := Off.refl _ _
 go_enter Tryd.func60, Tryd.ntmps60
 go_upto_region 0 with fail
 refine wp_region_lit ?_
 refine Ln ?_ (z := arrK .u8 32 (byt V)) (t := 22)
 intro p2_1 W1 n_t2 hO h_
 replace ow_a := Sl.off ow_a hO f0
 replace off0 := off0.o hO
 have k_t2 := h_
 clear hO h_ n_t2
 refine Ln ?_ (z := p4 0 0 0 0) (t := 60)
 intro p4_2 W2 n_t4 hO h_
 have fb_t4 := fbn off0 n_t4
 replace k_t2 := k_t2.o hO
 replace ow_a := Sl.off ow_a hO f0
 replace off0 := off0.o hO
 have k_t4 := h_
 clear hO h_ n_t4
 refine Lw ?_ (v := .int .i64 0)
 refine wpL_nil ?_
 go_wp2_with fail
 go_loopw [10] (fun ii wr => ∃ (i : Nat), (i ≤ 256) ∧ (ii = .int .i64 (i : Int)) ∧ Off [] w wr ∧ Blk wr p2_1 (arrK .u8 32 (byt V)) 22 ∧ Blk wr p4_2 (p4 0 0 0 0) 60 ∧ Sl wr v L)
  (fun ii _ => (256 - intOf ii).toNat)
 case atStart => exact ⟨0, Nat.zero_le _, rfl, off0, k_t2, k_t4, ow_a⟩
 case round =>
  obtain ⟨i, hi, rfl, off0, k_t2, k_t4, ow_a⟩ := hrel
  obtain ⟨W3, eW_⟩ := wname off0
  subst eW_
  by_cases h256 : i < 256
  ·
   have _f := h256
   have hbad := hlow i h256
   go_upto_region 2 with fail
   refine wp_region_lit ?_
   refine Lw ?_ (v := .bool true) (hv := by exact run_lt (i := i) (n := 256) (decide_eq_true h256) rfl rfl rfl)
   refine wpL_nil ?_
   go_upto_region 4 with fail
   refine wp_region_lit ?_
   refine LnS ?_ (z := #[.int .u8 3, .int .u8 1]) (t := 5) (n := 2) (c := 2)
   intro p13_4 W4 n_s13 hO h_
   replace k_t2 := k_t2.o hO
   replace k_t4 := k_t4.o hO
   replace ow_a := Sl.off ow_a hO f0
   replace off0 := off0.o hO
   have ow_s13 : Own W4 (.slice (some ⟨p13_4, 0, none⟩) 2 2) [3, 1] := own_blk h_ (by rfl) (by show 2 ≤ maxLen; decide)
   clear hO h_ n_s13
   refine Lw ?_ (v := .slice (some ⟨p2_1, 0, none⟩) 32 32) (hv := by first | rfl | (go_simp; done) | (go_simp; with_reducible rfl))
   refine Lv ?_
   refine Lv ?_
   refine Lw ?_ (v := .int .u8 ((UInt8.ofNat i).toNat : Int)) (hv := by exact run_u8 rfl rfl)
   refine LnS ?_ (z := #[.int .u8 ((UInt8.ofNat i).toNat : Int), .int .u8 0]) (t := 5) (n := 2) (c := 2)
   intro p18_5 W5 n_s18 hO h_
   replace k_t2 := k_t2.o hO
   replace k_t4 := k_t4.o hO
   replace ow_a := Sl.off ow_a hO f0
   replace ow_s13 := Own.off ow_s13 hO f0
   replace off0 := off0.o hO
   have ow_s18 : Own W5 (.slice (some ⟨p18_5, 0, none⟩) 2 2) [UInt8.ofNat i, 0] := own_blk h_ (by rfl) (by show 2 ≤ maxLen; decide)
   clear hO h_ n_s18
   refine LnS ?_ (z := #[(.slice (some ⟨p13_4, 0, none⟩) 2 2), .slice (some ⟨p2_1, 0, none⟩) 32 32, v, (.slice (some ⟨p18_5, 0, none⟩) 2 2)]) (t := 23) (n := 4) (c := 4) (hr := by exact run_bsv [(.slice (some ⟨p13_4, 0, none⟩) 2 2), .slice (some ⟨p2_1, 0, none⟩) 32 32, v, (.slice (some ⟨p18_5, 0, none⟩) 2 2)] rfl rfl (vsc ((own_cells ow_s13).1) (vsc (rfl) (vsc ((sl_cells ow_a).1) (vsc ((own_cells ow_s18).1) vs0)))) Tryd.underlying112 (by kernel_rfl) (by kernel_rfl) rfl (by decide) (by decide))
   intro p19_6 W6 n_s19 hO h_
   replace k_t2 := k_t2.o hO
   replace k_t4 := k_t4.o hO
   replace ow_a := Sl.off ow_a hO f0
   replace ow_s13 := Own.off ow_s13 hO f0
   replace ow_s18 := Own.off ow_s18 hO f0
   replace off0 := off0.o hO
   have k_s19 := h_
   clear hO h_ n_s19
   obtain ⟨U1, hU1⟩ := exn (hs ([3, 1] ++ (lb 32 V) ++ L ++ [UInt8.ofNat i, 0]))
   have HU1 := Lib.hid hU1
   clear hU1
   refine Lr ?_ (sumN_c HU1.out [[3, 1], lb 32 V, L, [UInt8.ofNat i, 0]] (some ⟨p19_6, 0, none⟩) 4 (by simp only [List.flatten_cons, List.flatten_nil, List.append_nil, List.nil_append, List.append_assoc, List.cons_append]) (by first | omega | (simp only [List.length_append, List.length_cons, List.length_nil, lb_length]; omega)) (by simp) W6 (pss_blk k_s19 (pvc (ow_s13.sl) (pvc (sl_part (V := V) (n := 32) (off := 0) k_t2 ap0 (by decide) (by decide)) (pvc ow_a (pvc (ow_s18.sl) pv0))))) (GA_ext hG off0.ext).2.1)
   intro W7 hO
   replace k_t2 := k_t2.o hO
   replace k_t4 := k_t4.o hO
   replace ow_a := Sl.off ow_a hO f0
   replace off0 := off0.o hO
   clear hO
   refine LnA ?_ (z := arrK .u8 64 (byt 0)) (t := 30) (k := .u8) (n := 64) (f := byt U1)
   intro p7_8 W9 n_t7 hO h_
   replace k_t2 := k_t2.o hO
   replace k_t4 := k_t4.o hO
   replace ow_a := Sl.off ow_a hO f0
   replace off0 := off0.o hO
   have k_t7 := h_
   clear hO h_ n_t7
   refine wpL_nil ?_
   by_cases hdo : dOk (cand V L i) = true
   ·
    have _f := hdo
    go_upto_region 5 with fail
    refine wp_region_lit ?_
    refine Lw ?_ (v := .slice (some ⟨p7_8, 0, none⟩) 32 64) (hv := by first | rfl | (go_simp; done) | (go_simp; with_reducible rfl))
    refine Lw ?_ (v := .pointer (some ⟨p7_8, 0, none⟩)) (hv := by first | rfl | (go_simp; done) | (go_simp; with_reducible rfl))
    refine wpL_gets (vs := (arrK .u8 32 (byt (lo U1))).toList) (by rfl) rfl rfl k_t7 (subL h64l) (by kernel_rfl) (by kernel_rfl) ?_
    (try simp only [Act.put, mA, mB, mC])
    have hcb9 : lo U1 = cand V L i := by rw [HU1.out]; rfl
    obtain ⟨dx, dt, dr, dc⟩ := eDec_1 (kn := kn) hc (cand_lt V L i) hdo
    obtain ⟨dy, hdy⟩ := exn (cand V L i % 2 ^ 255)
    rw [← hdy] at dr dc
    clear hdy
    refine Lr ?_ (dec_rw hcb9 (dc W9 (GA_ext hG off0.ext).1))
    intro W10 hO
    replace k_t2 := k_t2.o hO
    replace k_t4 := k_t4.o hO
    replace k_t7 := k_t7.o hO
    replace ow_a := Sl.off ow_a hO f0
    replace off0 := off0.o hO
    clear hO
    refine Lv ?_
    refine Lv ?_
    refine Lw ?_ (v := .int .i64 0)
    refine LnP ?_ (z := p4 0 0 0 0) (t := 60) (cells := p4 dx dy 1 dt)
    intro p8_11 W12 n_t8 hO h_
    have nq_t2_t8 := bn k_t2 n_t8
    have nq_t4_t8 := bn k_t4 n_t8
    have nq_t7_t8 := bn k_t7 n_t8
    have ne_a_t8 := ne_new (Sl.lt ow_a) n_t8
    have fb_t8 := fbn off0 n_t8
    replace k_t2 := k_t2.o hO
    replace k_t4 := k_t4.o hO
    replace k_t7 := k_t7.o hO
    replace ow_a := Sl.off ow_a hO f0
    replace off0 := off0.o hO
    have k_t8 := h_
    clear hO h_ n_t8
    refine Lw ?_ (v := .int .i64 0)
    refine wpL_nil ?_
    go_upto_region 7 with fail
    refine wp_region_lit ?_
    refine L0 ?_ k_t8
    obtain ⟨ex, ey, ez, et, er, ec⟩ := eEight_c (kn := kn) dr.rw
    refine Lr ?_ (ec W12 (GA_ext hG off0.ext).1)
    intro W13 hO
    replace k_t2 := k_t2.o hO
    replace k_t4 := k_t4.o hO
    replace k_t7 := k_t7.o hO
    replace k_t8 := k_t8.o hO
    replace ow_a := Sl.off ow_a hO f0
    replace off0 := off0.o hO
    clear hO
    refine Lp ?_ k_t8 (cells := p4 ex ey ez et)
    intro W14 hO h_
    replace k_t8 : Blk W14 p8_11 (p4 ex ey ez et) 60 := h_
    clear h_
    replace k_t2 := k_t2.p hO nq_t2_t8
    replace k_t4 := k_t4.p hO nq_t4_t8
    replace k_t7 := k_t7.p hO nq_t7_t8
    replace ow_a := Sl.off ow_a hO (f1 ne_a_t8)
    replace off0 := off0.p hO fb_t8
    clear hO
    refine wpL_nil ?_
    go_upto_region 8 with fail
    refine wp_region_lit ?_
    refine L0 ?_ k_t8
    refine Lw ?_ (v := .agg (p4 0 0 0 0)) (hv := by kernel_rfl)
    have cs_ := eSame_c (kn := kn) er.rw rw_zero
    rw [show decide (pm (dPt (cand V L i)) 8 = p0) = true from decide_eq_true (cand_bad hbad hdo)] at cs_
    refine Lr ?_ (cs_ W14 (GA_ext hG off0.ext).1)
    intro W15 hO
    replace k_t2 := k_t2.o hO
    replace k_t4 := k_t4.o hO
    replace k_t7 := k_t7.o hO
    replace ow_a := Sl.off ow_a hO f0
    replace off0 := off0.o hO
    clear hO
    refine Lw ?_ (v := .bool false)
    refine wpL_nil ?_
    go_upto_region 10 with fail
    refine wp_region_lit ?_
    refine Lw ?_ (v := .int .i64 (((i + 1 : Nat) : Int))) (hv := by go_simp; (try simp only [IntKind.wrap_i64]); (try omega))
    refine Lv ?_
    refine wpL_nil ?_
    go_wp2
    go_roundw
    case rel => exact ⟨i + 1, by omega, by go_num, off0, k_t2, k_t4, ow_a⟩
    case measure => simp [intOf]; omega
   ·
    have _f := hdo
    replace hdo : dOk (cand V L i) = false := by simpa using hdo
    go_upto_region 5 with fail
    refine wp_region_lit ?_
    refine Lw ?_ (v := .slice (some ⟨p7_8, 0, none⟩) 32 64) (hv := by first | rfl | (go_simp; done) | (go_simp; with_reducible rfl))
    refine Lw ?_ (v := .pointer (some ⟨p7_8, 0, none⟩)) (hv := by first | rfl | (go_simp; done) | (go_simp; with_reducible rfl))
    refine wpL_gets (vs := (arrK .u8 32 (byt (lo U1))).toList) (by rfl) rfl rfl k_t7 (subL h64l) (by kernel_rfl) (by kernel_rfl) ?_
    (try simp only [Act.put, mA, mB, mC])
    have hcb9 : lo U1 = cand V L i := by rw [HU1.out]; rfl
    refine Lr ?_ (dec_rw hcb9 (eDec_0 (kn := kn) hc (cand_lt V L i) hdo W9 (GA_ext hG off0.ext).1))
    intro W10 hO
    replace k_t2 := k_t2.o hO
    replace k_t4 := k_t4.o hO
    replace ow_a := Sl.off ow_a hO f0
    replace off0 := off0.o hO
    clear hO
    refine Lv ?_
    refine Lv ?_
    refine Lw ?_ (v := .int .i64 15)
    refine LnP ?_ (z := p4 0 0 0 0) (t := 60) (cells := p4 0 0 0 0)
    intro p8_11 W12 n_t8 hO h_
    replace k_t2 := k_t2.o hO
    replace k_t4 := k_t4.o hO
    replace ow_a := Sl.off ow_a hO f0
    replace off0 := off0.o hO
    clear hO h_ n_t8
    refine Lw ?_ (v := .int .i64 15)
    refine wpL_nil ?_
    go_upto_region 10 with fail
    refine wp_region_lit ?_
    refine Lw ?_ (v := .int .i64 (((i + 1 : Nat) : Int))) (hv := by go_simp; (try simp only [IntKind.wrap_i64]); (try omega))
    refine Lv ?_
    refine wpL_nil ?_
    go_wp2
    go_roundw
    case rel => exact ⟨i + 1, by omega, by go_num, off0, k_t2, k_t4, ow_a⟩
    case measure => simp [intOf]; omega
  ·
   have _f := h256
   go_upto_region 2 with fail
   refine wp_region_lit ?_
   refine Lw ?_ (v := .bool false) (hv := by exact run_lt (i := i) (n := 256) (decide_eq_false h256) rfl rfl rfl)
   refine wpL_nil ?_
   go_upto_region 11 with fail
   refine wp_region_lit ?_
   refine Lw ?_ (v := .agg (p4 0 0 0 0)) (hv := by kernel_rfl)
   refine Lp ?_ k_t4 (cells := p4 0 0 0 0)
   intro W4 hO h_
   replace k_t4 : Blk W4 p4_2 (p4 0 0 0 0) 60 := h_
   clear h_
   replace off0 := off0.p hO fb_t4
   clear hO
   refine Lw ?_ (v := .int .i64 15)
   refine wpL_nil ?_
   go_wp2
   exact bodyPost_ret (res_row2 rfl rfl rfl k_t4 (by kernel_rfl) (by kernel_rfl)) rfl ⟨rfl, off0.ext⟩
end Go.Proofs.YtefpoollmbmkfaaDoor

namespace Go.Proofs.YtefpoollmbmkfaaDoor
set_option maxHeartbeats 2000000
set_option maxRecDepth 100000
open Go.RowKit
attribute [local irreducible] wpList
variable {kn : Kn}
open Sc (LL clampF)
attribute [local irreducible] hs
/-- four points in a row -/
def q4 (a b c d : Array Value) : Array Value := a ++ b ++ c ++ d
section
variable {X1 Y1 Z1 T1 X2 Y2 Z2 T2 X3 Y3 Z3 T3 X4 Y4 Z4 T4 : Nat}
theorem p4sz {X Y Z T : Nat} : (p4 X Y Z T).size = 16 := rfl
theorem q4c0 : ∀ i v, (p4 X1 Y1 Z1 T1)[i]? = some v → (q4 (p4 X1 Y1 Z1 T1) (p4 X2 Y2 Z2 T2) (p4 X3 Y3 Z3 T3) (p4 X4 Y4 Z4 T4))[0 + i]? = some v := fun i v h => by rw [Nat.zero_add]; exact app_l (app_l (app_l h))
theorem q4c1 : ∀ i v, (p4 X2 Y2 Z2 T2)[i]? = some v → (q4 (p4 X1 Y1 Z1 T1) (p4 X2 Y2 Z2 T2) (p4 X3 Y3 Z3 T3) (p4 X4 Y4 Z4 T4))[16 + i]? = some v := fun i v h => app_l (app_l (app_r p4sz h))
theorem q4c2 : ∀ i v, (p4 X3 Y3 Z3 T3)[i]? = some v → (q4 (p4 X1 Y1 Z1 T1) (p4 X2 Y2 Z2 T2) (p4 X3 Y3 Z3 T3) (p4 X4 Y4 Z4 T4))[32 + i]? = some v := fun i v h => app_l (app_r (by rw [Array.size_append, p4sz, p4sz]) h)
theorem q4c3 : ∀ i v, (p4 X4 Y4 Z4 T4)[i]? = some v → (q4 (p4 X1 Y1 Z1 T1) (p4 X2 Y2 Z2 T2) (p4 X3 Y3 Z3 T3) (p4 X4 Y4 Z4 T4))[48 + i]? = some v := fun i v h => app_r (by rw [Array.size_append, Array.size_append, p4sz, p4sz, p4sz]) h
end
theorem fr_of_fb {e n : Nat} {F : List Nat} (h : Fb e n F) : Fr (some e) n F := fun x hx hlt => by have := Option.some.inj hx; subst this; exact h hlt
theorem ne_of_nq {e b : Nat} (h : b ≠ e) : some e ≠ some b := fun k => h (Option.some.inj k).symm
/-- parts out of a row of slices -/
theorem pss_row {w : World} {v : Value} {t : TypeId} {vs : List Value} {ps : List (List UInt8)} (h : Row t 1 w v (vs.map fun x => [x])) (hn : ps.length = vs.length) (hv : ∀ (i : Nat) (l : List UInt8), ps[i]? = some l → ∃ u, vs[i]? = some u ∧ Sl w u l) (h0 : 0 < vs.length) :
    ∃ A c, v = .slice A ps.length c ∧ ∀ (i : Nat) (l : List UInt8), ps[i]? = some l → ∃ ad u, A = some ad ∧ w.cell? (ad.add i) = some u ∧ Sl w u l := by
  have h1 : (vs.map fun x => [x])[0]? = some [vs[0]] := by rw [List.getElem?_map, List.getElem?_eq_getElem h0]; rfl
  obtain ⟨g, c, hv0, _⟩ := h.at h1
  rw [List.length_map, ← hn] at hv0
  refine ⟨_, c, hv0, fun i l hi => ?_⟩
  obtain ⟨u, hu, hs⟩ := hv i l hi
  have h2 : (vs.map fun x => [x])[i]? = some [u] := by rw [List.getElem?_map, hu]; rfl
  obtain ⟨g', c', hv', hc⟩ := h.at h2
  rw [List.length_map, ← hn, hv0] at hv'
  injection hv' with e1 _ _
  injection e1 with e1
  injection e1 with e1 _ _
  subst e1
  have := hc 0 u rfl
  rw [Nat.mul_one, Nat.add_zero] at this
  exact ⟨_, u, rfl, by rw [Addr.add_mid, Nat.zero_add]; exact this, hs⟩
/-- bytes copied over the head of an array -/
theorem wpL_copyP {ops : Array Oper} {Q : Exit → Act → World → Prop} {w : World} {r : List Oper} {o : Oper} {a : Act} {x y : Operand} {v : Value} {l : List UInt8} {g : Nat} {cur : Array Value} {t : TypeId} {n c : Nat} (hs : Sl w v l) (hB : Blk w g cur t) (hcur : cur.size = n) (hn : l.length ≤ n) (hp : 0 < l.length) (hw : Region.wanted o (yielded ops a.tmps) = true)
    (ho : o.op = .call { callee := .builtin .copy, args := #[x, y], argTypes := #[23, 23] }) (hx : a.eval x = .slice (some ⟨g, 0, none⟩) n c) (hy : a.eval y = v)
    (h : ∀ W, Off [g] w W → Blk W g (bs8 l ++ cur.toList.drop l.length).toArray t → wpList Tryd.prog ops Q r (a.put o.dst (goInt l.length)) W) : wpList Tryd.prog ops Q (o :: r) a w := by
  obtain ⟨A, cc, rfl, h1, h2, h0, h3⟩ := hs
  obtain ⟨ad, rfl, _⟩ := h3 0 l[0] (List.getElem?_eq_getElem hp)
  have hrun := run_copy_row (P := Tryd.prog) w 23 23 o.type 5 g 0 n c ad l.length cc cur t (bs8 l) Tryd.underlying23 u8_size hB (by rw [bs8_length]; exact (Nat.min_eq_left hn).symm) (fun j u hj => by
    simp only [bs8, List.getElem?_map, Option.map_eq_some_iff] at hj
    obtain ⟨z, hz, rfl⟩ := hj
    obtain ⟨ad', e, hc⟩ := h3 j z hz
    obtain rfl := Option.some.inj e
    exact hc) (by rw [bs8_length]; omega) (bs8_one l)
  have e : (cur.toList.take 0 ++ bs8 l ++ cur.toList.drop (0 + (bs8 l).length)) = bs8 l ++ cur.toList.drop l.length := by
    rw [List.take_zero, List.nil_append, Nat.zero_add, bs8_length]
  rw [e] at hrun
  have h4 : Blk (w.setRow g (bs8 l ++ cur.toList.drop l.length).toArray) g (bs8 l ++ cur.toList.drop l.length).toArray t := blk_setRow hB _
  refine wpL_run hw (v := goInt l.length) (W := w.setRow g (bs8 l ++ cur.toList.drop l.length).toArray) ?_ (h _ ⟨rfl, rfl, rfl, by simp, fun k _ hk => setRow_other w g k _ (by simpa using hk)⟩ h4)
  unfold execOp
  simp only [ho, resolve, invoke, builtin, Sem.run_bind, Sem.run_pure, Result.andThen_ok, List.map_toArray, List.map_cons, List.map_nil, hx, hy, hrun, bs8_length]
theorem wide_cells {l : List UInt8} (hl : l.length = 16) : (bs8 l ++ (arrK .u8 32 (byt 0)).toList.drop l.length).toArray = arrK .u8 32 (byt (le l)) := by
  have h1 := le_lt l
  rw [hl] at h1 ⊢
  have e : le l / 2 ^ (8 * 16) = 0 := Nat.div_eq_of_lt h1
  have hR : (arrK .u8 32 (byt (le l))).toList = bs8 l ++ bs8 (lb 16 0) := by rw [arrK_list, ← bs8_lb, show lb 32 (le l) = lb 16 (le l) ++ lb 16 (le l / 2 ^ (8 * 16)) from lb_add 16 16 _, e, lb_le' hl, bs8_append]
  apply Array.ext'
  rw [hR]
  show bs8 l ++ _ = _
  congr 1

theorem wide_c (v : Value) (l : List UInt8) (hl : l.length = 16) (w : World) (hsl : Sl w v l) :
  Calls Tryd.prog 66 #[v] w fun e w' => Ret (.agg (arrK .u8 32 (byt (le l)))) w w' e := by
 have ow_a := hsl
 have off0 : Off [] w w := Off.refl _ _
 go_enter Tryd.func66, Tryd.ntmps66
 go_upto_region 0 with fail
 refine wp_region_lit ?_
 refine Ln ?_ (z := arrK .u8 32 (byt 0)) (t := 22)
 intro p2_1 W1 n_t2 hO h_
 have fb_t2 := fbn off0 n_t2
 replace ow_a := Sl.off ow_a hO f0
 replace off0 := off0.o hO
 have k_t2 := h_
 clear hO h_ n_t2
 refine wpL_nil ?_
 go_upto_region 1 with fail
 refine wp_region_lit ?_
 refine Ln ?_ (z := arrK .u8 32 (byt 0)) (t := 22)
 intro p3_2 W2 n_t3 hO h_
 have nq_t2_t3 := bn k_t2 n_t3
 have fb_t3 := fbn off0 n_t3
 replace k_t2 := k_t2.o hO
 replace ow_a := Sl.off ow_a hO f0
 replace off0 := off0.o hO
 have k_t3 := h_
 clear hO h_ n_t3
 refine wpL_nil ?_
 go_upto_region 2 with fail
 refine wp_region_lit ?_
 refine Lw ?_ (v := .slice (some ⟨p3_2, 0, none⟩) 32 32) (hv := by first | rfl | (go_simp; done) | (go_simp; with_reducible rfl))
 refine Lv ?_
 refine wpL_copyP ow_a k_t3 (by rw [arrK_size]) (by omega) (by omega) (by rfl) rfl rfl rfl ?_
 (try simp only [Act.put, mA, mB, mC])
 intro W3 hO h_
 rw [wide_cells hl] at h_
 replace k_t3 : Blk W3 p3_2 (arrK .u8 32 (byt (le l))) 22 := h_
 clear h_
 replace k_t2 := k_t2.p hO nq_t2_t3
 replace off0 := off0.p hO fb_t3
 clear hO
 refine wpL_nil ?_
 go_upto_region 3 with fail
 refine wp_region_lit ?_
 refine L0A ?_ k_t3
 refine LpA ?_ k_t2 (k := .u8) (n := 32) (f := byt (le l))
 intro W4 hO h_
 replace k_t2 : Blk W4 p2_1 (arrK .u8 32 (byt (le l))) 22 := h_
 clear h_
 replace off0 := off0.p hO fb_t2
 clear hO
 refine wpL_nil ?_
 go_wp2
 exact bodyPost_ret (res_row rfl rfl k_t2 (by kernel_rfl) (by rw [arrK_size]; kernel_rfl)) rfl ⟨rfl, off0.ext⟩
theorem mark_c {V X : Nat} {X1 Y1 Z1 T1 : Nat} {a1 : Pr} (h1 : RN X1 Y1 Z1 T1 a1) {X2 Y2 Z2 T2 : Nat} {a2 : Pr} (h2 : RN X2 Y2 Z2 T2 a2) {X3 Y3 Z3 T3 : Nat} {a3 : Pr} (h3 : RN X3 Y3 Z3 T3 a3) {X4 Y4 Z4 T4 : Nat} {a4 : Pr} (h4 : RN X4 Y4 Z4 T4 a4) (hX : X = chH V a1 a2 a3 a4) :
  ∀ gP w, GA kn w → Blk w gP (q4 (p4 X1 Y1 Z1 T1) (p4 X2 Y2 Z2 T2) (p4 X3 Y3 Z3 T3) (p4 X4 Y4 Z4 T4)) 60 → Calls Tryd.prog 61 #[.agg (arrK .u8 32 (byt V)), .slice (some ⟨gP, 0, none⟩) 4 4] w fun e w' => ∃ p, e = .returned (.slice (some ⟨p, 0, none⟩) 16 64) ∧ w.heap.size ≤ p ∧ Off [] w w' ∧ Blk w' p (arrK .u8 64 (byt X)) 30 := by
 obtain ⟨U1, hU1⟩ := exn (enc a1)
 have bU1 : U1 < 2 ^ 256 := by rw [hU1]; exact enc_lt _
 have HU1 := Lib.hid hU1
 clear hU1
 obtain ⟨U2, hU2⟩ := exn (enc a2)
 have bU2 : U2 < 2 ^ 256 := by rw [hU2]; exact enc_lt _
 have HU2 := Lib.hid hU2
 clear hU2
 obtain ⟨U3, hU3⟩ := exn (enc a3)
 have bU3 : U3 < 2 ^ 256 := by rw [hU3]; exact enc_lt _
 have HU3 := Lib.hid hU3
 clear hU3
 obtain ⟨U4, hU4⟩ := exn (enc a4)
 have bU4 : U4 < 2 ^ 256 := by rw [hU4]; exact enc_lt _
 have HU4 := Lib.hid hU4
 clear hU4
 obtain ⟨U5, hU5⟩ := exn (hs ([3, 2] ++ (lb 32 V) ++ (lb 32 U1) ++ (lb 32 U2) ++ (lb 32 U3) ++ (lb 32 U4) ++ [0]))
 have HU5 := Lib.hid hU5
 clear hU5
 intro gP w hG hP
 have k_pp := hP
 have off0 : Off [] w w := Off.refl _ _
 go_enter Tryd.func61, Tryd.ntmps61
 go_upto_region 0 with fail
 refine wp_region_lit ?_
 refine Ln ?_ (z := arrK .u8 32 (byt V)) (t := 22)
 intro p2_1 W1 n_t2 hO h_
 replace k_pp := k_pp.o hO
 replace off0 := off0.o hO
 have k_t2 := h_
 clear hO h_ n_t2
 refine Lv ?_
 refine wpL_nil ?_
 go_upto_region 1 with fail
 refine wp_region_lit ?_
 refine LnS ?_ (z := #[.int .u8 3, .int .u8 2]) (t := 5) (n := 2) (c := 2)
 intro p10_2 W2 n_s10 hO h_
 replace k_pp := k_pp.o hO
 replace k_t2 := k_t2.o hO
 replace off0 := off0.o hO
 have ow_s10 : Own W2 (.slice (some ⟨p10_2, 0, none⟩) 2 2) [3, 2] := own_blk h_ (by rfl) (by show 2 ≤ maxLen; decide)
 clear hO h_ n_s10
 refine Lw ?_ (v := .slice (some ⟨p2_1, 0, none⟩) 32 32)
 have ow_e0 : Sl W2 (.slice (some ⟨p2_1, 0, none⟩) 32 32) (lb 32 V) := (sl_part (V := V) (n := 32) (off := 0) k_t2 ap0 (by decide) (by decide))
 refine LnS ?_ (z := #[(.slice (some ⟨p10_2, 0, none⟩) 2 2), (.slice (some ⟨p2_1, 0, none⟩) 32 32)]) (t := 23) (n := 2) (c := 2) (hr := by exact run_bsv [(.slice (some ⟨p10_2, 0, none⟩) 2 2), (.slice (some ⟨p2_1, 0, none⟩) 32 32)] rfl rfl (vsc ((own_cells ow_s10).1) (vsc ((sl_cells ow_e0).1) vs0)) Tryd.underlying112 (by kernel_rfl) (by kernel_rfl) rfl (by decide) (by decide))
 intro p12_3 W3 n_s12 hO h_
 have nq_pp_s12 := bn k_pp n_s12
 have ne_s10_s12 := ne_new (Own.lt ow_s10) n_s12
 have ne_e0_s12 := ne_new (Sl.lt ow_e0) n_s12
 have fb_s12 := fbn off0 n_s12
 replace k_pp := k_pp.o hO
 replace ow_s10 := Own.off ow_s10 hO f0
 replace ow_e0 := Sl.off ow_e0 hO f0
 replace off0 := off0.o hO
 have k_s12 := h_
 clear hO h_ n_s12
 have ow_r : Row 23 1 W3 (.slice (some ⟨p12_3, 0, none⟩) 2 2) ([(.slice (some ⟨p10_2, 0, none⟩) 2 2), (.slice (some ⟨p2_1, 0, none⟩) 32 32)].map fun x => [x]) := row_blk k_s12 (es := [(.slice (some ⟨p10_2, 0, none⟩) 2 2), (.slice (some ⟨p2_1, 0, none⟩) 32 32)].map fun x => [x]) rfl (by simp) (by show 2 ≤ maxLen; decide)
 have fr_r : Fr (Value.ownBlock (.slice (some ⟨p12_3, 0, none⟩) 2 2)) w.heap.size [] := fr_of_fb fb_s12
 have ne_r_pp : Value.ownBlock (.slice (some ⟨p12_3, 0, none⟩) 2 2) ≠ some gP := ne_of_nq nq_pp_s12
 have dj_s10_r : ∀ x, (Value.ownBlock (.slice (some ⟨p10_2, 0, none⟩) 2 2)) = some x → Value.ownBlock (.slice (some ⟨p12_3, 0, none⟩) 2 2) ≠ some x := fun x h1 h2 => ne_s10_s12 (h1.trans h2.symm)
 have dj_e0_r : ∀ x, (sb (.slice (some ⟨p2_1, 0, none⟩) 32 32) (lb 32 V)) = some x → Value.ownBlock (.slice (some ⟨p12_3, 0, none⟩) 2 2) ≠ some x := fun x h1 h2 => ne_e0_s12 (h1.trans h2.symm)
 clear k_s12 fb_s12 nq_pp_s12 ne_s10_s12 ne_e0_s12
 refine Lv ?_
 refine wpL_nil ?_
 go_upto_region 2 with fail
 refine wp_region_lit ?_
 refine Lv ?_
 refine Lw ?_ (v := .int .i64 4)
 refine Lw ?_ (v := .int .i64 0)
 refine wpL_nil ?_
 go_wp2_with fail
 refine wp_loop_rounds 5 ?_
 rw [rounds_succ]
 go_upto_region 4 with fail
 refine wp_region_lit ?_
 refine Lw ?_ (v := .pointer (some ⟨gP, 0, none⟩)) (hv := by exact (run_ixR (ad := ⟨gP, 0, none⟩) (j := 0) (k := 16) (n := 4) (c := 4) (by decide) rfl rfl rfl Tryd.underlying135 (by kernel_rfl)).trans (by rw [Addr.add_mid]))
 refine wpL_gets (vs := (p4 X1 Y1 Z1 T1).toList) (by rfl) rfl rfl k_pp (subL q4c0) (by kernel_rfl) (by kernel_rfl) ?_
 (try simp only [Act.put, mA, mB, mC])
 refine LnP ?_ (z := p4 0 0 0 0) (t := 60) (cells := p4 X1 Y1 Z1 T1)
 intro p7_4 W5 n_t7 hO h_
 have ne_r_t7 := ne_new (Row.lt ow_r) n_t7
 replace k_pp := k_pp.o hO
 replace ow_s10 := Own.off ow_s10 hO f0
 replace ow_e0 := Sl.off ow_e0 hO f0
 replace ow_r := Row.off ow_r hO f0
 replace off0 := off0.o hO
 have k_t7 := h_
 clear hO h_ n_t7
 refine wpL_nil ?_
 go_upto_region 5 with fail
 refine wp_region_lit ?_
 refine L0 ?_ k_t7
 refine Lr ?_ (encN_c h1.rw HU1.out W5 (GA_ext hG off0.ext).1)
 intro W6 hO
 replace k_pp := k_pp.o hO
 replace k_t7 := k_t7.o hO
 replace ow_s10 := Own.off ow_s10 hO f0
 replace ow_e0 := Sl.off ow_e0 hO f0
 replace ow_r := Row.off ow_r hO f0
 replace off0 := off0.o hO
 clear hO
 refine LnA ?_ (z := arrK .u8 32 (byt 0)) (t := 22) (k := .u8) (n := 32) (f := byt U1)
 intro p8_7 W8 n_t8 hO h_
 have ne_r_t8 := ne_new (Row.lt ow_r) n_t8
 replace k_pp := k_pp.o hO
 replace k_t7 := k_t7.o hO
 replace ow_s10 := Own.off ow_s10 hO f0
 replace ow_e0 := Sl.off ow_e0 hO f0
 replace ow_r := Row.off ow_r hO f0
 replace off0 := off0.o hO
 have k_t8 := h_
 clear hO h_ n_t8
 refine wpL_nil ?_
 go_upto_region 6 with fail
 refine wp_region_lit ?_
 refine Lv ?_
 refine Lw ?_ (v := .slice (some ⟨p8_7, 0, none⟩) 32 32)
 have ow_e1 : Sl W8 (.slice (some ⟨p8_7, 0, none⟩) 32 32) (lb 32 U1) := (sl_part (V := U1) (n := 32) (off := 0) k_t8 ap0 (by decide) (by decide))
 have dj_r_e1 : ∀ x, (Value.ownBlock (.slice (some ⟨p12_3, 0, none⟩) 2 2)) = some x → sb (.slice (some ⟨p8_7, 0, none⟩) 32 32) (lb 32 U1) ≠ some x := dj_blk ne_r_t8
 refine LnS ?_ (z := #[(.slice (some ⟨p8_7, 0, none⟩) 32 32)]) (t := 23) (n := 1) (c := 1) (hr := by exact run_bsv [(.slice (some ⟨p8_7, 0, none⟩) 32 32)] rfl rfl (vsc ((sl_cells ow_e1).1) vs0) Tryd.underlying112 (by kernel_rfl) (by kernel_rfl) rfl (by decide) (by decide))
 intro p23_9 W9 n_s23 hO h_
 have ne_r_s23 := ne_new (Row.lt ow_r) n_s23
 replace k_pp := k_pp.o hO
 replace k_t7 := k_t7.o hO
 replace k_t8 := k_t8.o hO
 replace ow_s10 := Own.off ow_s10 hO f0
 replace ow_e0 := Sl.off ow_e0 hO f0
 replace ow_r := Row.off ow_r hO f0
 replace ow_e1 := Sl.off ow_e1 hO f0
 replace off0 := off0.o hO
 have k_s23 := h_
 clear hO h_ n_s23
 refine wpL_append1 (es := ([(.slice (some ⟨p10_2, 0, none⟩) 2 2), (.slice (some ⟨p2_1, 0, none⟩) 32 32)].map fun x => [x])) (cs := #[(.slice (some ⟨p8_7, 0, none⟩) 32 32)]) (bytes := 24) (by rfl) rfl rfl rfl ow_r k_s23 rfl (all1 (sl_cells ow_e1).2) (by first | decide | (show 0 < 1; decide)) Tryd.underlying112 (by kernel_rfl) (by first | omega | (simp only [List.length_append, List.length_cons, List.length_nil, lb_length]; omega) | (simp; done)) (by unfold maxLen; first | omega | (simp only [List.length_append, List.length_cons, List.length_nil, lb_length]; omega) | (simp; done)) ?_
 (try simp only [Act.put, mA, mB, mC])
 intro v24_10 W10 ow_a24 hO at_a24
 replace ow_a24 : Row 23 1 W10 v24_10 (([(.slice (some ⟨p10_2, 0, none⟩) 2 2), (.slice (some ⟨p2_1, 0, none⟩) 32 32)].map fun x => [x]) ++ [[(.slice (some ⟨p8_7, 0, none⟩) 32 32)]]) := ow_a24
 have ne_a24_pp := own_ne at_a24 ne_r_pp (blk_lt k_pp)
 have ne_a24_t7 := own_ne at_a24 ne_r_t7 (blk_lt k_t7)
 have ne_a24_t8 := own_ne at_a24 ne_r_t8 (blk_lt k_t8)
 have ne_a24_s23 := own_ne at_a24 ne_r_s23 (blk_lt k_s23)
 have dj_a24_s10 := own_dj at_a24 (dj_symm dj_s10_r) (Own.lt ow_s10)
 have dj_a24_e0 := own_dj at_a24 (dj_symm dj_e0_r) (Sl.lt ow_e0)
 have dj_a24_e1 := own_dj at_a24 dj_r_e1 (Sl.lt ow_e1)
 have fr_a24 := own_fr at_a24 fr_r off0.size
 replace k_pp := blk_off k_pp hO (nmo ne_r_pp)
 replace k_t7 := blk_off k_t7 hO (nmo ne_r_t7)
 replace k_t8 := blk_off k_t8 hO (nmo ne_r_t8)
 replace k_s23 := blk_off k_s23 hO (nmo ne_r_s23)
 replace ow_s10 := Own.off ow_s10 hO (fo (dj_symm dj_s10_r))
 replace ow_e0 := Sl.off ow_e0 hO (fo (dj_symm dj_e0_r))
 replace ow_e1 := Sl.off ow_e1 hO (fo dj_r_e1)
 replace off0 := off0.step hO (io fr_r)
 clear hO at_a24
 replace ow_a24 : Row 23 1 W10 v24_10 ([(.slice (some ⟨p10_2, 0, none⟩) 2 2), (.slice (some ⟨p2_1, 0, none⟩) 32 32), (.slice (some ⟨p8_7, 0, none⟩) 32 32)].map fun x => [x]) := ow_a24
 have ow_r := ow_a24
 clear ow_a24
 have fr_r := fr_a24
 have ne_r_pp := ne_a24_pp
 have ne_r_t7 := ne_a24_t7
 have ne_r_t8 := ne_a24_t8
 have ne_r_s23 := ne_a24_s23
 have dj_r_s10 := dj_a24_s10
 have dj_r_e0 := dj_a24_e0
 have dj_r_e1 := dj_a24_e1
 clear k_s23 ne_r_s23
 refine Lv ?_
 refine wpL_nil ?_
 go_wp2_with fail
 rw [rounds_succ]
 go_upto_region 4 with fail
 refine wp_region_lit ?_
 refine Lw ?_ (v := .pointer (some ⟨gP, 16, none⟩)) (hv := by exact (run_ixR (ad := ⟨gP, 0, none⟩) (j := 1) (k := 16) (n := 4) (c := 4) (by decide) rfl rfl rfl Tryd.underlying135 (by kernel_rfl)).trans (by rw [Addr.add_mid]))
 refine wpL_gets (vs := (p4 X2 Y2 Z2 T2).toList) (by rfl) rfl rfl k_pp (subL q4c1) (by kernel_rfl) (by kernel_rfl) ?_
 (try simp only [Act.put, mA, mB, mC])
 clear k_t7 ne_r_t7
 refine LnP ?_ (z := p4 0 0 0 0) (t := 60) (cells := p4 X2 Y2 Z2 T2)
 intro p7_11 W12 n_t7 hO h_
 have ne_r_t7 := ne_new (Row.lt ow_r) n_t7
 replace k_pp := k_pp.o hO
 replace k_t8 := k_t8.o hO
 replace ow_s10 := Own.off ow_s10 hO f0
 replace ow_e0 := Sl.off ow_e0 hO f0
 replace ow_e1 := Sl.off ow_e1 hO f0
 replace ow_r := Row.off ow_r hO f0
 replace off0 := off0.o hO
 have k_t7 := h_
 clear hO h_ n_t7
 refine wpL_nil ?_
 go_upto_region 5 with fail
 refine wp_region_lit ?_
 refine L0 ?_ k_t7
 refine Lr ?_ (encN_c h2.rw HU2.out W12 (GA_ext hG off0.ext).1)
 intro W13 hO
 replace k_pp := k_pp.o hO
 replace k_t8 := k_t8.o hO
 replace k_t7 := k_t7.o hO
 replace ow_s10 := Own.off ow_s10 hO f0
 replace ow_e0 := Sl.off ow_e0 hO f0
 replace ow_e1 := Sl.off ow_e1 hO f0
 replace ow_r := Row.off ow_r hO f0
 replace off0 := off0.o hO
 clear hO
 clear k_t8 ne_r_t8
 refine LnA ?_ (z := arrK .u8 32 (byt 0)) (t := 22) (k := .u8) (n := 32) (f := byt U2)
 intro p8_14 W15 n_t8 hO h_
 have ne_r_t8 := ne_new (Row.lt ow_r) n_t8
 replace k_pp := k_pp.o hO
 replace k_t7 := k_t7.o hO
 replace ow_s10 := Own.off ow_s10 hO f0
 replace ow_e0 := Sl.off ow_e0 hO f0
 replace ow_e1 := Sl.off ow_e1 hO f0
 replace ow_r := Row.off ow_r hO f0
 replace off0 := off0.o hO
 have k_t8 := h_
 clear hO h_ n_t8
 refine wpL_nil ?_
 go_upto_region 6 with fail
 refine wp_region_lit ?_
 refine Lv ?_
 refine Lw ?_ (v := .slice (some ⟨p8_14, 0, none⟩) 32 32)
 have ow_e2 : Sl W15 (.slice (some ⟨p8_14, 0, none⟩) 32 32) (lb 32 U2) := (sl_part (V := U2) (n := 32) (off := 0) k_t8 ap0 (by decide) (by decide))
 have dj_r_e2 : ∀ x, (Value.ownBlock v24_10) = some x → sb (.slice (some ⟨p8_14, 0, none⟩) 32 32) (lb 32 U2) ≠ some x := dj_blk ne_r_t8
 refine LnS ?_ (z := #[(.slice (some ⟨p8_14, 0, none⟩) 32 32)]) (t := 23) (n := 1) (c := 1) (hr := by exact run_bsv [(.slice (some ⟨p8_14, 0, none⟩) 32 32)] rfl rfl (vsc ((sl_cells ow_e2).1) vs0) Tryd.underlying112 (by kernel_rfl) (by kernel_rfl) rfl (by decide) (by decide))
 intro p23_16 W16 n_s23 hO h_
 have ne_r_s23 := ne_new (Row.lt ow_r) n_s23
 replace k_pp := k_pp.o hO
 replace k_t7 := k_t7.o hO
 replace k_t8 := k_t8.o hO
 replace ow_s10 := Own.off ow_s10 hO f0
 replace ow_e0 := Sl.off ow_e0 hO f0
 replace ow_e1 := Sl.off ow_e1 hO f0
 replace ow_r := Row.off ow_r hO f0
 replace ow_e2 := Sl.off ow_e2 hO f0
 replace off0 := off0.o hO
 have k_s23 := h_
 clear hO h_ n_s23
 refine wpL_append1 (es := ([(.slice (some ⟨p10_2, 0, none⟩) 2 2), (.slice (some ⟨p2_1, 0, none⟩) 32 32), (.slice (some ⟨p8_7, 0, none⟩) 32 32)].map fun x => [x])) (cs := #[(.slice (some ⟨p8_14, 0, none⟩) 32 32)]) (bytes := 24) (by rfl) rfl rfl rfl ow_r k_s23 rfl (all1 (sl_cells ow_e2).2) (by first | decide | (show 0 < 1; decide)) Tryd.underlying112 (by kernel_rfl) (by first | omega | (simp only [List.length_append, List.length_cons, List.length_nil, lb_length]; omega) | (simp; done)) (by unfold maxLen; first | omega | (simp only [List.length_append, List.length_cons, List.length_nil, lb_length]; omega) | (simp; done)) ?_
 (try simp only [Act.put, mA, mB, mC])
 intro v24_17 W17 ow_a24 hO at_a24
 replace ow_a24 : Row 23 1 W17 v24_17 (([(.slice (some ⟨p10_2, 0, none⟩) 2 2), (.slice (some ⟨p2_1, 0, none⟩) 32 32), (.slice (some ⟨p8_7, 0, none⟩) 32 32)].map fun x => [x]) ++ [[(.slice (some ⟨p8_14, 0, none⟩) 32 32)]]) := ow_a24
 have ne_a24_pp := own_ne at_a24 ne_r_pp (blk_lt k_pp)
 have ne_a24_t7 := own_ne at_a24 ne_r_t7 (blk_lt k_t7)
 have ne_a24_t8 := own_ne at_a24 ne_r_t8 (blk_lt k_t8)
 have ne_a24_s23 := own_ne at_a24 ne_r_s23 (blk_lt k_s23)
 have dj_a24_s10 := own_dj at_a24 dj_r_s10 (Own.lt ow_s10)
 have dj_a24_e0 := own_dj at_a24 dj_r_e0 (Sl.lt ow_e0)
 have dj_a24_e1 := own_dj at_a24 dj_r_e1 (Sl.lt ow_e1)
 have dj_a24_e2 := own_dj at_a24 dj_r_e2 (Sl.lt ow_e2)
 have fr_a24 := own_fr at_a24 fr_r off0.size
 replace k_pp := blk_off k_pp hO (nmo ne_r_pp)
 replace k_t7 := blk_off k_t7 hO (nmo ne_r_t7)
 replace k_t8 := blk_off k_t8 hO (nmo ne_r_t8)
 replace k_s23 := blk_off k_s23 hO (nmo ne_r_s23)
 replace ow_s10 := Own.off ow_s10 hO (fo dj_r_s10)
 replace ow_e0 := Sl.off ow_e0 hO (fo dj_r_e0)
 replace ow_e1 := Sl.off ow_e1 hO (fo dj_r_e1)
 replace ow_e2 := Sl.off ow_e2 hO (fo dj_r_e2)
 replace off0 := off0.step hO (io fr_r)
 clear hO at_a24
 replace ow_a24 : Row 23 1 W17 v24_17 ([(.slice (some ⟨p10_2, 0, none⟩) 2 2), (.slice (some ⟨p2_1, 0, none⟩) 32 32), (.slice (some ⟨p8_7, 0, none⟩) 32 32), (.slice (some ⟨p8_14, 0, none⟩) 32 32)].map fun x => [x]) := ow_a24
 have ow_r := ow_a24
 clear ow_a24
 have fr_r := fr_a24
 have ne_r_pp := ne_a24_pp
 have ne_r_t7 := ne_a24_t7
 have ne_r_t8 := ne_a24_t8
 have ne_r_s23 := ne_a24_s23
 have dj_r_s10 := dj_a24_s10
 have dj_r_e0 := dj_a24_e0
 have dj_r_e1 := dj_a24_e1
 have dj_r_e2 := dj_a24_e2
 clear k_s23 ne_r_s23
 refine Lv ?_
 refine wpL_nil ?_
 go_wp2_with fail
 rw [rounds_succ]
 go_upto_region 4 with fail
 refine wp_region_lit ?_
 refine Lw ?_ (v := .pointer (some ⟨gP, 32, none⟩)) (hv := by exact (run_ixR (ad := ⟨gP, 0, none⟩) (j := 2) (k := 16) (n := 4) (c := 4) (by decide) rfl rfl rfl Tryd.underlying135 (by kernel_rfl)).trans (by rw [Addr.add_mid]))
 refine wpL_gets (vs := (p4 X3 Y3 Z3 T3).toList) (by rfl) rfl rfl k_pp (subL q4c2) (by kernel_rfl) (by kernel_rfl) ?_
 (try simp only [Act.put, mA, mB, mC])
 clear k_t7 ne_r_t7
 refine LnP ?_ (z := p4 0 0 0 0) (t := 60) (cells := p4 X3 Y3 Z3 T3)
 intro p7_18 W19 n_t7 hO h_
 have ne_r_t7 := ne_new (Row.lt ow_r) n_t7
 replace k_pp := k_pp.o hO
 replace k_t8 := k_t8.o hO
 replace ow_s10 := Own.off ow_s10 hO f0
 replace ow_e0 := Sl.off ow_e0 hO f0
 replace ow_e1 := Sl.off ow_e1 hO f0
 replace ow_e2 := Sl.off ow_e2 hO f0
 replace ow_r := Row.off ow_r hO f0
 replace off0 := off0.o hO
 have k_t7 := h_
 clear hO h_ n_t7
 refine wpL_nil ?_
 go_upto_region 5 with fail
 refine wp_region_lit ?_
 refine L0 ?_ k_t7
 refine Lr ?_ (encN_c h3.rw HU3.out W19 (GA_ext hG off0.ext).1)
 intro W20 hO
 replace k_pp := k_pp.o hO
 replace k_t8 := k_t8.o hO
 replace k_t7 := k_t7.o hO
 replace ow_s10 := Own.off ow_s10 hO f0
 replace ow_e0 := Sl.off ow_e0 hO f0
 replace ow_e1 := Sl.off ow_e1 hO f0
 replace ow_e2 := Sl.off ow_e2 hO f0
 replace ow_r := Row.off ow_r hO f0
 replace off0 := off0.o hO
 clear hO
 clear k_t8 ne_r_t8
 refine LnA ?_ (z := arrK .u8 32 (byt 0)) (t := 22) (k := .u8) (n := 32) (f := byt U3)
 intro p8_21 W22 n_t8 hO h_
 have ne_r_t8 := ne_new (Row.lt ow_r) n_t8
 replace k_pp := k_pp.o hO
 replace k_t7 := k_t7.o hO
 replace ow_s10 := Own.off ow_s10 hO f0
 replace ow_e0 := Sl.off ow_e0 hO f0
 replace ow_e1 := Sl.off ow_e1 hO f0
 replace ow_e2 := Sl.off ow_e2 hO f0
 replace ow_r := Row.off ow_r hO f0
 replace off0 := off0.o hO
 have k_t8 := h_
 clear hO h_ n_t8
 refine wpL_nil ?_
 go_upto_region 6 with fail
 refine wp_region_lit ?_
 refine Lv ?_
 refine Lw ?_ (v := .slice (some ⟨p8_21, 0, none⟩) 32 32)
 have ow_e3 : Sl W22 (.slice (some ⟨p8_21, 0, none⟩) 32 32) (lb 32 U3) := (sl_part (V := U3) (n := 32) (off := 0) k_t8 ap0 (by decide) (by decide))
 have dj_r_e3 : ∀ x, (Value.ownBlock v24_17) = some x → sb (.slice (some ⟨p8_21, 0, none⟩) 32 32) (lb 32 U3) ≠ some x := dj_blk ne_r_t8
 refine LnS ?_ (z := #[(.slice (some ⟨p8_21, 0, none⟩) 32 32)]) (t := 23) (n := 1) (c := 1) (hr := by exact run_bsv [(.slice (some ⟨p8_21, 0, none⟩) 32 32)] rfl rfl (vsc ((sl_cells ow_e3).1) vs0) Tryd.underlying112 (by kernel_rfl) (by kernel_rfl) rfl (by decide) (by decide))
 intro p23_23 W23 n_s23 hO h_
 have ne_r_s23 := ne_new (Row.lt ow_r) n_s23
 replace k_pp := k_pp.o hO
 replace k_t7 := k_t7.o hO
 replace k_t8 := k_t8.o hO
 replace ow_s10 := Own.off ow_s10 hO f0
 replace ow_e0 := Sl.off ow_e0 hO f0
 replace ow_e1 := Sl.off ow_e1 hO f0
 replace ow_e2 := Sl.off ow_e2 hO f0
 replace ow_r := Row.off ow_r hO f0
 replace ow_e3 := Sl.off ow_e3 hO f0
 replace off0 := off0.o hO
 have k_s23 := h_
 clear hO h_ n_s23
 refine wpL_append1 (es := ([(.slice (some ⟨p10_2, 0, none⟩) 2 2), (.slice (some ⟨p2_1, 0, none⟩) 32 32), (.slice (some ⟨p8_7, 0, none⟩) 32 32), (.slice (some ⟨p8_14, 0, none⟩) 32 32)].map fun x => [x])) (cs := #[(.slice (some ⟨p8_21, 0, none⟩) 32 32)]) (bytes := 24) (by rfl) rfl rfl rfl ow_r k_s23 rfl (all1 (sl_cells ow_e3).2) (by first | decide | (show 0 < 1; decide)) Tryd.underlying112 (by kernel_rfl) (by first | omega | (simp only [List.length_append, List.length_cons, List.length_nil, lb_length]; omega) | (simp; done)) (by unfold maxLen; first | omega | (simp only [List.length_append, List.length_cons, List.length_nil, lb_length]; omega) | (simp; done)) ?_
 (try simp only [Act.put, mA, mB, mC])
 intro v24_24 W24 ow_a24 hO at_a24
 replace ow_a24 : Row 23 1 W24 v24_24 (([(.slice (some ⟨p10_2, 0, none⟩) 2 2), (.slice (some ⟨p2_1, 0, none⟩) 32 32), (.slice (some ⟨p8_7, 0, none⟩) 32 32), (.slice (some ⟨p8_14, 0, none⟩) 32 32)].map fun x => [x]) ++ [[(.slice (some ⟨p8_21, 0, none⟩) 32 32)]]) := ow_a24
 have ne_a24_t8 := own_ne at_a24 ne_r_t8 (blk_lt k_t8)
 have dj_a24_s10 := own_dj at_a24 dj_r_s10 (Own.lt ow_s10)
 have dj_a24_e0 := own_dj at_a24 dj_r_e0 (Sl.lt ow_e0)
 have dj_a24_e1 := own_dj at_a24 dj_r_e1 (Sl.lt ow_e1)
 have dj_a24_e2 := own_dj at_a24 dj_r_e2 (Sl.lt ow_e2)
 have dj_a24_e3 := own_dj at_a24 dj_r_e3 (Sl.lt ow_e3)
 have fr_a24 := own_fr at_a24 fr_r off0.size
 replace k_pp := blk_off k_pp hO (nmo ne_r_pp)
 replace k_t7 := blk_off k_t7 hO (nmo ne_r_t7)
 replace k_t8 := blk_off k_t8 hO (nmo ne_r_t8)
 replace k_s23 := blk_off k_s23 hO (nmo ne_r_s23)
 replace ow_s10 := Own.off ow_s10 hO (fo dj_r_s10)
 replace ow_e0 := Sl.off ow_e0 hO (fo dj_r_e0)
 replace ow_e1 := Sl.off ow_e1 hO (fo dj_r_e1)
 replace ow_e2 := Sl.off ow_e2 hO (fo dj_r_e2)
 replace ow_e3 := Sl.off ow_e3 hO (fo dj_r_e3)
 replace off0 := off0.step hO (io fr_r)
 clear hO at_a24
 replace ow_a24 : Row 23 1 W24 v24_24 ([(.slice (some ⟨p10_2, 0, none⟩) 2 2), (.slice (some ⟨p2_1, 0, none⟩) 32 32), (.slice (some ⟨p8_7, 0, none⟩) 32 32), (.slice (some ⟨p8_14, 0, none⟩) 32 32), (.slice (some ⟨p8_21, 0, none⟩) 32 32)].map fun x => [x]) := ow_a24
 have ow_r := ow_a24
 clear ow_a24
 have fr_r := fr_a24
 have ne_r_t8 := ne_a24_t8
 have dj_r_s10 := dj_a24_s10
 have dj_r_e0 := dj_a24_e0
 have dj_r_e1 := dj_a24_e1
 have dj_r_e2 := dj_a24_e2
 have dj_r_e3 := dj_a24_e3
 clear k_s23 ne_r_s23
 refine Lv ?_
 refine wpL_nil ?_
 go_wp2_with fail
 rw [rounds_succ]
 go_upto_region 4 with fail
 refine wp_region_lit ?_
 refine Lw ?_ (v := .pointer (some ⟨gP, 48, none⟩)) (hv := by exact (run_ixR (ad := ⟨gP, 0, none⟩) (j := 3) (k := 16) (n := 4) (c := 4) (by decide) rfl rfl rfl Tryd.underlying135 (by kernel_rfl)).trans (by rw [Addr.add_mid]))
 refine wpL_gets (vs := (p4 X4 Y4 Z4 T4).toList) (by rfl) rfl rfl k_pp (subL q4c3) (by kernel_rfl) (by kernel_rfl) ?_
 (try simp only [Act.put, mA, mB, mC])
 clear k_t7 ne_r_t7
 refine LnP ?_ (z := p4 0 0 0 0) (t := 60) (cells := p4 X4 Y4 Z4 T4)
 intro p7_25 W26 n_t7 hO h_
 replace k_t8 := k_t8.o hO
 replace ow_s10 := Own.off ow_s10 hO f0
 replace ow_e0 := Sl.off ow_e0 hO f0
 replace ow_e1 := Sl.off ow_e1 hO f0
 replace ow_e2 := Sl.off ow_e2 hO f0
 replace ow_e3 := Sl.off ow_e3 hO f0
 replace ow_r := Row.off ow_r hO f0
 replace off0 := off0.o hO
 have k_t7 := h_
 clear hO h_ n_t7
 refine wpL_nil ?_
 go_upto_region 5 with fail
 refine wp_region_lit ?_
 refine L0 ?_ k_t7
 refine Lr ?_ (encN_c h4.rw HU4.out W26 (GA_ext hG off0.ext).1)
 intro W27 hO
 replace k_t8 := k_t8.o hO
 replace ow_s10 := Own.off ow_s10 hO f0
 replace ow_e0 := Sl.off ow_e0 hO f0
 replace ow_e1 := Sl.off ow_e1 hO f0
 replace ow_e2 := Sl.off ow_e2 hO f0
 replace ow_e3 := Sl.off ow_e3 hO f0
 replace ow_r := Row.off ow_r hO f0
 replace off0 := off0.o hO
 clear hO
 clear k_t8 ne_r_t8
 refine LnA ?_ (z := arrK .u8 32 (byt 0)) (t := 22) (k := .u8) (n := 32) (f := byt U4)
 intro p8_28 W29 n_t8 hO h_
 have ne_r_t8 := ne_new (Row.lt ow_r) n_t8
 replace ow_s10 := Own.off ow_s10 hO f0
 replace ow_e0 := Sl.off ow_e0 hO f0
 replace ow_e1 := Sl.off ow_e1 hO f0
 replace ow_e2 := Sl.off ow_e2 hO f0
 replace ow_e3 := Sl.off ow_e3 hO f0
 replace ow_r := Row.off ow_r hO f0
 replace off0 := off0.o hO
 have k_t8 := h_
 clear hO h_ n_t8
 refine wpL_nil ?_
 go_upto_region 6 with fail
 refine wp_region_lit ?_
 refine Lv ?_
 refine Lw ?_ (v := .slice (some ⟨p8_28, 0, none⟩) 32 32)
 have ow_e4 : Sl W29 (.slice (some ⟨p8_28, 0, none⟩) 32 32) (lb 32 U4) := (sl_part (V := U4) (n := 32) (off := 0) k_t8 ap0 (by decide) (by decide))
 have dj_r_e4 : ∀ x, (Value.ownBlock v24_24) = some x → sb (.slice (some ⟨p8_28, 0, none⟩) 32 32) (lb 32 U4) ≠ some x := dj_blk ne_r_t8
 refine LnS ?_ (z := #[(.slice (some ⟨p8_28, 0, none⟩) 32 32)]) (t := 23) (n := 1) (c := 1) (hr := by exact run_bsv [(.slice (some ⟨p8_28, 0, none⟩) 32 32)] rfl rfl (vsc ((sl_cells ow_e4).1) vs0) Tryd.underlying112 (by kernel_rfl) (by kernel_rfl) rfl (by decide) (by decide))
 intro p23_30 W30 n_s23 hO h_
 replace ow_s10 := Own.off ow_s10 hO f0
 replace ow_e0 := Sl.off ow_e0 hO f0
 replace ow_e1 := Sl.off ow_e1 hO f0
 replace ow_e2 := Sl.off ow_e2 hO f0
 replace ow_e3 := Sl.off ow_e3 hO f0
 replace ow_r := Row.off ow_r hO f0
 replace ow_e4 := Sl.off ow_e4 hO f0
 replace off0 := off0.o hO
 have k_s23 := h_
 clear hO h_ n_s23
 refine wpL_append1 (es := ([(.slice (some ⟨p10_2, 0, none⟩) 2 2), (.slice (some ⟨p2_1, 0, none⟩) 32 32), (.slice (some ⟨p8_7, 0, none⟩) 32 32), (.slice (some ⟨p8_14, 0, none⟩) 32 32), (.slice (some ⟨p8_21, 0, none⟩) 32 32)].map fun x => [x])) (cs := #[(.slice (some ⟨p8_28, 0, none⟩) 32 32)]) (bytes := 24) (by rfl) rfl rfl rfl ow_r k_s23 rfl (all1 (sl_cells ow_e4).2) (by first | decide | (show 0 < 1; decide)) Tryd.underlying112 (by kernel_rfl) (by first | omega | (simp only [List.length_append, List.length_cons, List.length_nil, lb_length]; omega) | (simp; done)) (by unfold maxLen; first | omega | (simp only [List.length_append, List.length_cons, List.length_nil, lb_length]; omega) | (simp; done)) ?_
 (try simp only [Act.put, mA, mB, mC])
 intro v24_31 W31 ow_a24 hO at_a24
 replace ow_a24 : Row 23 1 W31 v24_31 (([(.slice (some ⟨p10_2, 0, none⟩) 2 2), (.slice (some ⟨p2_1, 0, none⟩) 32 32), (.slice (some ⟨p8_7, 0, none⟩) 32 32), (.slice (some ⟨p8_14, 0, none⟩) 32 32), (.slice (some ⟨p8_21, 0, none⟩) 32 32)].map fun x => [x]) ++ [[(.slice (some ⟨p8_28, 0, none⟩) 32 32)]]) := ow_a24
 have dj_a24_s10 := own_dj at_a24 dj_r_s10 (Own.lt ow_s10)
 have dj_a24_e0 := own_dj at_a24 dj_r_e0 (Sl.lt ow_e0)
 have dj_a24_e1 := own_dj at_a24 dj_r_e1 (Sl.lt ow_e1)
 have dj_a24_e2 := own_dj at_a24 dj_r_e2 (Sl.lt ow_e2)
 have dj_a24_e3 := own_dj at_a24 dj_r_e3 (Sl.lt ow_e3)
 have dj_a24_e4 := own_dj at_a24 dj_r_e4 (Sl.lt ow_e4)
 have fr_a24 := own_fr at_a24 fr_r off0.size
 replace ow_s10 := Own.off ow_s10 hO (fo dj_r_s10)
 replace ow_e0 := Sl.off ow_e0 hO (fo dj_r_e0)
 replace ow_e1 := Sl.off ow_e1 hO (fo dj_r_e1)
 replace ow_e2 := Sl.off ow_e2 hO (fo dj_r_e2)
 replace ow_e3 := Sl.off ow_e3 hO (fo dj_r_e3)
 replace ow_e4 := Sl.off ow_e4 hO (fo dj_r_e4)
 replace off0 := off0.step hO (io fr_r)
 clear hO at_a24
 replace ow_a24 : Row 23 1 W31 v24_31 ([(.slice (some ⟨p10_2, 0, none⟩) 2 2), (.slice (some ⟨p2_1, 0, none⟩) 32 32), (.slice (some ⟨p8_7, 0, none⟩) 32 32), (.slice (some ⟨p8_14, 0, none⟩) 32 32), (.slice (some ⟨p8_21, 0, none⟩) 32 32), (.slice (some ⟨p8_28, 0, none⟩) 32 32)].map fun x => [x]) := ow_a24
 have ow_r := ow_a24
 clear ow_a24
 have fr_r := fr_a24
 have dj_r_s10 := dj_a24_s10
 have dj_r_e0 := dj_a24_e0
 have dj_r_e1 := dj_a24_e1
 have dj_r_e2 := dj_a24_e2
 have dj_r_e3 := dj_a24_e3
 have dj_r_e4 := dj_a24_e4
 clear k_s23 ne_r_s23
 refine Lv ?_
 refine wpL_nil ?_
 go_wp2_with fail
 rw [rounds_succ]
 go_upto_region 8 with fail
 refine wp_region_lit ?_
 refine Lv ?_
 refine LnS ?_ (z := #[.int .u8 0]) (t := 5) (n := 1) (c := 1)
 intro p27_32 W32 n_s27 hO h_
 have dj_r_s27 : ∀ x, (Value.ownBlock v24_31) = some x → Value.ownBlock (.slice (some ⟨p27_32, 0, none⟩) 1 1) ≠ some x := dj_new (Row.lt ow_r) n_s27
 replace ow_s10 := Own.off ow_s10 hO f0
 replace ow_e0 := Sl.off ow_e0 hO f0
 replace ow_e1 := Sl.off ow_e1 hO f0
 replace ow_e2 := Sl.off ow_e2 hO f0
 replace ow_e3 := Sl.off ow_e3 hO f0
 replace ow_e4 := Sl.off ow_e4 hO f0
 replace ow_r := Row.off ow_r hO f0
 replace off0 := off0.o hO
 have ow_s27 : Own W32 (.slice (some ⟨p27_32, 0, none⟩) 1 1) [0] := own_blk h_ (by rfl) (by show 1 ≤ maxLen; decide)
 clear hO h_ n_s27
 refine LnS ?_ (z := #[(.slice (some ⟨p27_32, 0, none⟩) 1 1)]) (t := 23) (n := 1) (c := 1) (hr := by exact run_bsv [(.slice (some ⟨p27_32, 0, none⟩) 1 1)] rfl rfl (vsc ((own_cells ow_s27).1) vs0) Tryd.underlying112 (by kernel_rfl) (by kernel_rfl) rfl (by decide) (by decide))
 intro p28_33 W33 n_s28 hO h_
 replace ow_s10 := Own.off ow_s10 hO f0
 replace ow_e0 := Sl.off ow_e0 hO f0
 replace ow_e1 := Sl.off ow_e1 hO f0
 replace ow_e2 := Sl.off ow_e2 hO f0
 replace ow_e3 := Sl.off ow_e3 hO f0
 replace ow_e4 := Sl.off ow_e4 hO f0
 replace ow_r := Row.off ow_r hO f0
 replace ow_s27 := Own.off ow_s27 hO f0
 replace off0 := off0.o hO
 have k_s28 := h_
 clear hO h_ n_s28
 refine wpL_append1 (es := ([(.slice (some ⟨p10_2, 0, none⟩) 2 2), (.slice (some ⟨p2_1, 0, none⟩) 32 32), (.slice (some ⟨p8_7, 0, none⟩) 32 32), (.slice (some ⟨p8_14, 0, none⟩) 32 32), (.slice (some ⟨p8_21, 0, none⟩) 32 32), (.slice (some ⟨p8_28, 0, none⟩) 32 32)].map fun x => [x])) (cs := #[(.slice (some ⟨p27_32, 0, none⟩) 1 1)]) (bytes := 24) (by rfl) rfl rfl rfl ow_r k_s28 rfl (all1 (own_cells ow_s27).2) (by first | decide | (show 0 < 1; decide)) Tryd.underlying112 (by kernel_rfl) (by first | omega | (simp only [List.length_append, List.length_cons, List.length_nil, lb_length]; omega) | (simp; done)) (by unfold maxLen; first | omega | (simp only [List.length_append, List.length_cons, List.length_nil, lb_length]; omega) | (simp; done)) ?_
 (try simp only [Act.put, mA, mB, mC])
 intro v29_34 W34 ow_a29 hO at_a29
 replace ow_a29 : Row 23 1 W34 v29_34 (([(.slice (some ⟨p10_2, 0, none⟩) 2 2), (.slice (some ⟨p2_1, 0, none⟩) 32 32), (.slice (some ⟨p8_7, 0, none⟩) 32 32), (.slice (some ⟨p8_14, 0, none⟩) 32 32), (.slice (some ⟨p8_21, 0, none⟩) 32 32), (.slice (some ⟨p8_28, 0, none⟩) 32 32)].map fun x => [x]) ++ [[(.slice (some ⟨p27_32, 0, none⟩) 1 1)]]) := ow_a29
 replace ow_s10 := Own.off ow_s10 hO (fo dj_r_s10)
 replace ow_e0 := Sl.off ow_e0 hO (fo dj_r_e0)
 replace ow_e1 := Sl.off ow_e1 hO (fo dj_r_e1)
 replace ow_e2 := Sl.off ow_e2 hO (fo dj_r_e2)
 replace ow_e3 := Sl.off ow_e3 hO (fo dj_r_e3)
 replace ow_e4 := Sl.off ow_e4 hO (fo dj_r_e4)
 replace ow_s27 := Own.off ow_s27 hO (fo dj_r_s27)
 replace off0 := off0.step hO (io fr_r)
 clear hO at_a29
 replace ow_a29 : Row 23 1 W34 v29_34 ([(.slice (some ⟨p10_2, 0, none⟩) 2 2), (.slice (some ⟨p2_1, 0, none⟩) 32 32), (.slice (some ⟨p8_7, 0, none⟩) 32 32), (.slice (some ⟨p8_14, 0, none⟩) 32 32), (.slice (some ⟨p8_21, 0, none⟩) 32 32), (.slice (some ⟨p8_28, 0, none⟩) 32 32), (.slice (some ⟨p27_32, 0, none⟩) 1 1)].map fun x => [x]) := ow_a29
 have ow_r := ow_a29
 clear ow_a29
 clear k_s28
 obtain ⟨A_, c_, ev_, hps_⟩ := pss_row (vs := [(.slice (some ⟨p10_2, 0, none⟩) 2 2), (.slice (some ⟨p2_1, 0, none⟩) 32 32), (.slice (some ⟨p8_7, 0, none⟩) 32 32), (.slice (some ⟨p8_14, 0, none⟩) 32 32), (.slice (some ⟨p8_21, 0, none⟩) 32 32), (.slice (some ⟨p8_28, 0, none⟩) 32 32), (.slice (some ⟨p27_32, 0, none⟩) 1 1)]) (ps := [[3, 2], lb 32 V, lb 32 U1, lb 32 U2, lb 32 U3, lb 32 U4, [0]]) ow_r rfl (pvc (ow_s10.sl) (pvc ow_e0 (pvc ow_e1 (pvc ow_e2 (pvc ow_e3 (pvc ow_e4 (pvc (ow_s27.sl) pv0))))))) (by simp)
 subst ev_
 refine Lr ?_ (sumN_c HU5.out [[3, 2], lb 32 V, lb 32 U1, lb 32 U2, lb 32 U3, lb 32 U4, [0]] A_ c_ (by simp only [List.flatten_cons, List.flatten_nil, List.append_nil, List.nil_append, List.append_assoc, List.cons_append]) (by first | omega | (simp only [List.length_append, List.length_cons, List.length_nil, lb_length]; omega)) (by simp) W34 hps_ (GA_ext hG off0.ext).2.1)
 intro W35 hO
 replace off0 := off0.o hO
 clear hO
 refine LnA ?_ (z := arrK .u8 64 (byt 0)) (t := 30) (k := .u8) (n := 64) (f := byt U5)
 intro p9_36 W37 n_t9 hO h_
 have fb_t9 := fbn off0 n_t9
 replace off0 := off0.o hO
 have k_t9 := h_
 clear hO h_ n_t9
 refine wpL_nil ?_
 go_upto_region 9 with fail
 refine wp_region_lit ?_
 refine Lv ?_
 refine Lv ?_
 refine wpL_nil ?_
 go_wp2
 exact bodyPost_ret (v := .slice (some ⟨p9_36, 0, none⟩) 16 64) (by simp only [results, Tryd.results61]; go_simp) rfl ⟨p9_36, rfl, Nat.not_lt.1 (fun h => by cases fb_t9 h), off0, by rw [hX]; rw [show chH V a1 a2 a3 a4 = U5 by rw [HU5.out, HU4.out, HU3.out, HU2.out, HU1.out]; rfl]; exact k_t9⟩
end Go.Proofs.YtefpoollmbmkfaaDoor

namespace Go.Proofs.YtefpoollmbmkfaaDoor
set_option maxHeartbeats 2000000
set_option maxRecDepth 100000
open Go.RowKit
attribute [local irreducible] wpList wpTr
variable {kn : Kn}
open Sc (LL clampF)
attribute [local irreducible] hs
theorem byt_div (V off j : Nat) : byt (V / 2 ^ (8 * off)) j = byt V (off + j) := by
  unfold byt
  rw [Nat.div_div_eq_div_mul, ← Nat.pow_add, show 8 * off + 8 * j = 8 * (off + j) by omega]
theorem byt_cut {V m j : Nat} (hj : j < m) : byt (V % 2 ^ (8 * m)) j = byt V j := by
  unfold byt
  have e : (2 : Nat) ^ (8 * m) = 2 ^ (8 * j) * 2 ^ (8 * m - 8 * j) := by rw [← Nat.pow_add]; congr 1; omega
  have e2 : (2 : Nat) ^ (8 * m - 8 * j) = 256 * 2 ^ (8 * m - 8 * j - 8) := by rw [show 8 * m - 8 * j = 8 + (8 * m - 8 * j - 8) by omega, Nat.pow_add, Nat.add_sub_cancel_left]
  rw [e, Nat.mod_mul_right_div_self, e2, Nat.mod_mul_right_mod]
theorem sub_arr {n m off V U : Nat} (hU : ∀ j, j < m → byt U j = byt V (off + j)) (h : off + m ≤ n) : ∀ i v, (arrK .u8 m (byt U))[i]? = some v → (arrK .u8 n (byt V))[off + i]? = some v := fun i v hv => by
  have hi : i < m := by have := (Array.getElem?_eq_some_iff.1 hv).1; rwa [arrK_size] at this
  rw [arrK_get _ _ _ _ hi, hU i hi] at hv
  rw [arrK_get _ _ _ _ (by omega)]; exact hv
theorem pC_byt {P j : Nat} (hj : j < 16) : byt (pC P) j = byt P (32 + j) := by
  unfold pC
  rw [show P128 = 2 ^ (8 * 16) from rfl, byt_cut hj, show (2 : Nat) ^ 256 = 2 ^ (8 * 32) from rfl, byt_div]
theorem pN_byt (P j : Nat) : byt (pN P) j = byt P (48 + j) := by
  unfold pN
  rw [show P128 = 2 ^ (8 * 16) from rfl, byt_div, show (2 : Nat) ^ 256 = 2 ^ (8 * 32) from rfl, byt_div, show 32 + (16 + j) = 48 + j by omega]
theorem h80g {P : Nat} : ∀ i v, (arrK .u8 32 (byt (pG P)))[i]? = some v → (arrK .u8 80 (byt P))[0 + i]? = some v := sub_arr (fun j hj => by rw [Nat.zero_add]; exact byt_lo hj) (by decide)
theorem h80c {P : Nat} : ∀ i v, (arrK .u8 16 (byt (pC P)))[i]? = some v → (arrK .u8 80 (byt P))[32 + i]? = some v := sub_arr (fun j hj => pC_byt hj) (by decide)
theorem h80n {P : Nat} : ∀ i v, (arrK .u8 32 (byt (pN P)))[i]? = some v → (arrK .u8 80 (byt P))[48 + i]? = some v := sub_arr (fun j _ => pN_byt P j) (by decide)
theorem pG_lt (P : Nat) : pG P < 2 ^ 256 := lo_lt P
theorem pC_lt (P : Nat) : pC P < P128 := Nat.mod_lt _ (by decide)
/-- bytes of a proof -/
def B80 (P : Nat) : Prop := pN P < 2 ^ 256
/-- The results: two rows in variables, and a value. -/
theorem res_rowrr {P : Program} {fn : Func} {p q r : Tmp} {ty tz t t' : TypeId} {tmps : Array Value} {w : World} {g g' : Nat} {cs ds : Array Value} {v : Value} (h : fn.results = #[.cell p ty, .cell q tz, .tmp r])
    (hp : tmps.getD p undef = .pointer (some ⟨g, 0, none⟩)) (hq : tmps.getD q undef = .pointer (some ⟨g', 0, none⟩)) (hr : tmps.getD r undef = v) (hB : Blk w g cs t) (hC : Blk w g' ds t') (hk : (P.underlying ty).map TypeDesc.isRow = some true) (hi : (P.info? ty).map (·.size) = some cs.size)
    (hk' : (P.underlying tz).map TypeDesc.isRow = some true) (hi' : (P.info? tz).map (·.size) = some ds.size) : (results fn tmps).run P w = .ok (.tuple #[.agg cs, .agg ds, v]) w := by
  cases hu : P.underlying ty with
  | none => simp [hu] at hk
  | some d =>
    cases hu' : P.underlying tz with
    | none => simp [hu'] at hk'
    | some d' =>
      have hd : d.isRow = true := by simpa [hu] using hk
      have hd' : d'.isRow = true := by simpa [hu'] using hk'
      have hp' : tmps[p]?.getD undef = .pointer (some ⟨g, 0, none⟩) := by simpa using hp
      have hq' : tmps[q]?.getD undef = .pointer (some ⟨g', 0, none⟩) := by simpa using hq
      have hr' : tmps[r]?.getD undef = v := by simpa using hr
      simp [results, h, hp', hq', hr', asAddr, run_loadVar_row w g t ty cs _ d hB hu (by cases d <;> simp_all [TypeDesc.isRow]) hi, run_loadVar_row w g' t' tz ds _ d' hC hu' (by cases d' <;> simp_all [TypeDesc.isRow]) hi']

theorem key_0 (hc : kn.c) {V : Nat} (hV : V < 2 ^ 256) (hok : dOk V = false) :
  ∀ w, GA kn w → Calls Tryd.prog 64 #[.agg (arrK .u8 32 (byt V))] w fun e w' => Ret (.tuple #[.agg (p4 0 0 0 0), .int .i64 15]) w w' e := by
 have dc := eDec_0 (kn := kn) hc (V := V) hV hok
 intro w hG
 have off0 : Off [] w w := Off.refl _ _
 go_enter Tryd.func64, Tryd.ntmps64
 go_upto_region 0 with fail
 refine wp_region_lit ?_
 refine Ln ?_ (z := arrK .u8 32 (byt V)) (t := 22)
 intro p1_1 W1 n_t1 hO h_
 replace off0 := off0.o hO
 have k_t1 := h_
 clear hO h_ n_t1
 refine Ln ?_ (z := p4 0 0 0 0) (t := 60)
 intro p2_2 W2 n_t2 hO h_
 have fb_t2 := fbn off0 n_t2
 replace k_t1 := k_t1.o hO
 replace off0 := off0.o hO
 have k_t2 := h_
 clear hO h_ n_t2
 refine Lw ?_ (v := .int .i64 0)
 refine wpL_nil ?_
 go_upto_region 1 with fail
 refine wp_region_lit ?_
 refine L0A ?_ k_t1
 refine Lr ?_ (dc W2 (GA_ext hG off0.ext).1)
 intro W3 hO
 replace k_t2 := k_t2.o hO
 replace off0 := off0.o hO
 clear hO
 refine Lv ?_
 refine Lv ?_
 refine Lw ?_ (v := .int .i64 15)
 refine LnP ?_ (z := p4 0 0 0 0) (t := 60) (cells := p4 0 0 0 0)
 intro p4_4 W5 n_t4 hO h_
 replace k_t2 := k_t2.o hO
 replace off0 := off0.o hO
 have k_t4 := h_
 clear hO h_ n_t4
 refine Lw ?_ (v := .int .i64 15)
 refine wpL_nil ?_
 go_upto_region 2 with fail
 refine wp_region_lit ?_
 refine Lw ?_ (v := .int .i64 15)
 refine Lw ?_ (v := .bool false)
 refine Lw ?_ (v := .bool false)
 refine Ls ?_
 refine Ls ?_
 refine Ls ?_
 refine Ls ?_
 refine Lw ?_ (v := .bool false)
 refine wpL_nil ?_
 go_upto_region 4 with fail
 refine wp_region_lit ?_
 refine L0 ?_ k_t4
 refine Lw ?_ (v := .int .i64 15)
 refine Lp ?_ k_t2 (cells := p4 0 0 0 0)
 intro W6 hO h_
 replace k_t2 : Blk W6 p2_2 (p4 0 0 0 0) 60 := h_
 clear h_
 replace off0 := off0.p hO fb_t2
 clear hO
 refine Lw ?_ (v := .int .i64 15)
 refine wpL_nil ?_
 go_wp2
 exact bodyPost_ret (res_row2 rfl rfl rfl k_t2 (by kernel_rfl) (by kernel_rfl)) rfl ⟨rfl, off0.ext⟩
theorem key_1 (hc : kn.c) {V : Nat} (hV : V < 2 ^ 256) (hok : dOk V = true) (h8 : pm (dPt V) 8 = p0) :
  ∃ X Y T, RN X Y 1 T (dPt V) ∧ ∀ w, GA kn w → Calls Tryd.prog 64 #[.agg (arrK .u8 32 (byt V))] w fun e w' => Ret (.tuple #[.agg (p4 X Y 1 T), .int .i64 15]) w w' e := by
 obtain ⟨dx, dt, dr, dc⟩ := eDec_1 hc (V := V) hV hok
 obtain ⟨y0, hy0⟩ := exn (V % 2 ^ 255)
 rw [← hy0] at dr dc
 clear hy0
 obtain ⟨x1, y2, z3, t4, r5, c6⟩ := eEight_c (kn := kn) dr.rw
 have cs_ := eSame_c (kn := kn) r5.rw rw_zero
 rw [decide_eq_true h8] at cs_
 refine ⟨dx, y0, dt, dr, fun w hG => ?_⟩
 have off0 : Off [] w w := Off.refl _ _
 go_enter Tryd.func64, Tryd.ntmps64
 go_upto_region 0 with fail
 refine wp_region_lit ?_
 refine Ln ?_ (z := arrK .u8 32 (byt V)) (t := 22)
 intro p1_1 W1 n_t1 hO h_
 replace off0 := off0.o hO
 have k_t1 := h_
 clear hO h_ n_t1
 refine Ln ?_ (z := p4 0 0 0 0) (t := 60)
 intro p2_2 W2 n_t2 hO h_
 have fb_t2 := fbn off0 n_t2
 replace k_t1 := k_t1.o hO
 replace off0 := off0.o hO
 have k_t2 := h_
 clear hO h_ n_t2
 refine Lw ?_ (v := .int .i64 0)
 refine wpL_nil ?_
 go_upto_region 1 with fail
 refine wp_region_lit ?_
 refine L0A ?_ k_t1
 refine Lr ?_ (dc W2 (GA_ext hG off0.ext).1)
 intro W3 hO
 replace k_t2 := k_t2.o hO
 replace off0 := off0.o hO
 clear hO
 refine Lv ?_
 refine Lv ?_
 refine Lw ?_ (v := .int .i64 0)
 refine LnP ?_ (z := p4 0 0 0 0) (t := 60) (cells := p4 dx y0 1 dt)
 intro p4_4 W5 n_t4 hO h_
 replace k_t2 := k_t2.o hO
 replace off0 := off0.o hO
 have k_t4 := h_
 clear hO h_ n_t4
 refine Lw ?_ (v := .int .i64 0)
 refine wpL_nil ?_
 go_upto_region 2 with fail
 refine wp_region_lit ?_
 refine Lw ?_ (v := .int .i64 0)
 refine Lw ?_ (v := .bool true)
 refine Lw ?_ (v := .bool true)
 refine L0 ?_ k_t4
 refine Lr ?_ (c6 W5 (GA_ext hG off0.ext).1)
 intro W6 hO
 replace k_t2 := k_t2.o hO
 replace k_t4 := k_t4.o hO
 replace off0 := off0.o hO
 clear hO
 refine Lw ?_ (v := .agg (p4 0 0 0 0)) (hv := by kernel_rfl)
 refine Lr ?_ (cs_ W6 (GA_ext hG off0.ext).1)
 intro W7 hO
 replace k_t2 := k_t2.o hO
 replace k_t4 := k_t4.o hO
 replace off0 := off0.o hO
 clear hO
 refine Lw ?_ (v := .bool true)
 refine wpL_nil ?_
 go_upto_region 4 with fail
 refine wp_region_lit ?_
 refine L0 ?_ k_t4
 refine Lw ?_ (v := .int .i64 15)
 refine Lp ?_ k_t2 (cells := p4 dx y0 1 dt)
 intro W8 hO h_
 replace k_t2 : Blk W8 p2_2 (p4 dx y0 1 dt) 60 := h_
 clear h_
 replace off0 := off0.p hO fb_t2
 clear hO
 refine Lw ?_ (v := .int .i64 15)
 refine wpL_nil ?_
 go_wp2
 exact bodyPost_ret (res_row2 rfl rfl rfl k_t2 (by kernel_rfl) (by kernel_rfl)) rfl ⟨rfl, off0.ext⟩
theorem key_2 (hc : kn.c) {V : Nat} (hV : V < 2 ^ 256) (hok : dOk V = true) (h8 : ¬ pm (dPt V) 8 = p0) :
  ∃ X Y T, RN X Y 1 T (dPt V) ∧ ∀ w, GA kn w → Calls Tryd.prog 64 #[.agg (arrK .u8 32 (byt V))] w fun e w' => Ret (.tuple #[.agg (p4 X Y 1 T), .int .i64 0]) w w' e := by
 obtain ⟨dx, dt, dr, dc⟩ := eDec_1 hc (V := V) hV hok
 obtain ⟨y0, hy0⟩ := exn (V % 2 ^ 255)
 rw [← hy0] at dr dc
 clear hy0
 obtain ⟨x1, y2, z3, t4, r5, c6⟩ := eEight_c (kn := kn) dr.rw
 have cs_ := eSame_c (kn := kn) r5.rw rw_zero
 rw [decide_eq_false h8] at cs_
 refine ⟨dx, y0, dt, dr, fun w hG => ?_⟩
 have off0 : Off [] w w := Off.refl _ _
 go_enter Tryd.func64, Tryd.ntmps64
 go_upto_region 0 with fail
 refine wp_region_lit ?_
 refine Ln ?_ (z := arrK .u8 32 (byt V)) (t := 22)
 intro p1_1 W1 n_t1 hO h_
 replace off0 := off0.o hO
 have k_t1 := h_
 clear hO h_ n_t1
 refine Ln ?_ (z := p4 0 0 0 0) (t := 60)
 intro p2_2 W2 n_t2 hO h_
 have fb_t2 := fbn off0 n_t2
 replace k_t1 := k_t1.o hO
 replace off0 := off0.o hO
 have k_t2 := h_
 clear hO h_ n_t2
 refine Lw ?_ (v := .int .i64 0)
 refine wpL_nil ?_
 go_upto_region 1 with fail
 refine wp_region_lit ?_
 refine L0A ?_ k_t1
 refine Lr ?_ (dc W2 (GA_ext hG off0.ext).1)
 intro W3 hO
 replace k_t2 := k_t2.o hO
 replace off0 := off0.o hO
 clear hO
 refine Lv ?_
 refine Lv ?_
 refine Lw ?_ (v := .int .i64 0)
 refine LnP ?_ (z := p4 0 0 0 0) (t := 60) (cells := p4 dx y0 1 dt)
 intro p4_4 W5 n_t4 hO h_
 replace k_t2 := k_t2.o hO
 replace off0 := off0.o hO
 have k_t4 := h_
 clear hO h_ n_t4
 refine Lw ?_ (v := .int .i64 0)
 refine wpL_nil ?_
 go_upto_region 2 with fail
 refine wp_region_lit ?_
 refine Lw ?_ (v := .int .i64 0)
 refine Lw ?_ (v := .bool true)
 refine Lw ?_ (v := .bool true)
 refine L0 ?_ k_t4
 refine Lr ?_ (c6 W5 (GA_ext hG off0.ext).1)
 intro W6 hO
 replace k_t2 := k_t2.o hO
 replace k_t4 := k_t4.o hO
 replace off0 := off0.o hO
 clear hO
 refine Lw ?_ (v := .agg (p4 0 0 0 0)) (hv := by kernel_rfl)
 refine Lr ?_ (cs_ W6 (GA_ext hG off0.ext).1)
 intro W7 hO
 replace k_t2 := k_t2.o hO
 replace k_t4 := k_t4.o hO
 replace off0 := off0.o hO
 clear hO
 refine Lw ?_ (v := .bool false)
 refine wpL_nil ?_
 go_upto_region 4 with fail
 refine wp_region_lit ?_
 refine L0 ?_ k_t4
 refine Lw ?_ (v := .int .i64 0)
 refine Lp ?_ k_t2 (cells := p4 dx y0 1 dt)
 intro W8 hO h_
 replace k_t2 : Blk W8 p2_2 (p4 dx y0 1 dt) 60 := h_
 clear h_
 replace off0 := off0.p hO fb_t2
 clear hO
 refine Lw ?_ (v := .int .i64 0)
 refine wpL_nil ?_
 go_wp2
 exact bodyPost_ret (res_row2 rfl rfl rfl k_t2 (by kernel_rfl) (by kernel_rfl)) rfl ⟨rfl, off0.ext⟩
theorem parts_0 (hc : kn.c) {P : Nat} (hP : B80 P) (hok : dOk (pG P) = false) (h1 : LL ≤ pN P) :
  ∀ w, GA kn w → Calls Tryd.prog 65 #[.agg (arrK .u8 80 (byt P))] w fun e w' => Ret (.tuple #[.agg (p4 0 0 0 0), .agg (c4 0), .int .i64 17]) w w' e := by
 have dc := eDec_0 (kn := kn) hc (V := (pG P)) (pG_lt P) hok
 intro w hG
 have off0 : Off [] w w := Off.refl _ _
 go_enter Tryd.func65, Tryd.ntmps65
 go_upto_region 0 with fail
 refine wp_region_lit ?_
 refine Ln ?_ (z := arrK .u8 80 (byt P)) (t := 45)
 intro p1_1 W1 n_t1 hO h_
 replace off0 := off0.o hO
 have k_t1 := h_
 clear hO h_ n_t1
 refine Ln ?_ (z := p4 0 0 0 0) (t := 60)
 intro p2_2 W2 n_t2 hO h_
 have fb_t2 := fbn off0 n_t2
 replace k_t1 := k_t1.o hO
 replace off0 := off0.o hO
 have k_t2 := h_
 clear hO h_ n_t2
 refine Ln ?_ (z := c4 0) (t := 42)
 intro p3_3 W3 n_t3 hO h_
 have nq_t2_t3 := bn k_t2 n_t3
 have fb_t3 := fbn off0 n_t3
 replace k_t1 := k_t1.o hO
 replace k_t2 := k_t2.o hO
 replace off0 := off0.o hO
 have k_t3 := h_
 clear hO h_ n_t3
 refine Lw ?_ (v := .int .i64 0)
 refine wpL_nil ?_
 go_upto_region 1 with fail
 refine wp_region_lit ?_
 refine Lw ?_ (v := .slice (some ⟨p1_1, 0, none⟩) 32 80) (hv := by first | rfl | (go_simp; done) | (go_simp; with_reducible rfl))
 refine Lw ?_ (v := .pointer (some ⟨p1_1, 0, none⟩)) (hv := by first | rfl | (go_simp; done) | (go_simp; with_reducible rfl))
 refine wpL_gets (vs := (arrK .u8 32 (byt (pG P))).toList) (by rfl) rfl rfl k_t1 (subL h80g) (by kernel_rfl) (by kernel_rfl) ?_
 (try simp only [Act.put, mA, mB, mC])
 refine Lr ?_ (dc W3 (GA_ext hG off0.ext).1)
 intro W4 hO
 replace k_t1 := k_t1.o hO
 replace k_t2 := k_t2.o hO
 replace k_t3 := k_t3.o hO
 replace off0 := off0.o hO
 clear hO
 refine Lv ?_
 refine Lv ?_
 refine Lw ?_ (v := .int .i64 15)
 refine LnP ?_ (z := p4 0 0 0 0) (t := 60) (cells := p4 0 0 0 0)
 intro p5_5 W6 n_t5 hO h_
 replace k_t1 := k_t1.o hO
 replace k_t2 := k_t2.o hO
 replace k_t3 := k_t3.o hO
 replace off0 := off0.o hO
 clear hO h_ n_t5
 refine Lw ?_ (v := .int .i64 15)
 refine wpL_nil ?_
 go_upto_region 2 with fail
 refine wp_region_lit ?_
 refine Lw ?_ (v := .slice (some ⟨p1_1, 48, none⟩) 32 32) (hv := by first | rfl | (go_simp; done) | (go_simp; with_reducible rfl))
 refine Lw ?_ (v := .pointer (some ⟨p1_1, 48, none⟩)) (hv := by first | rfl | (go_simp; done) | (go_simp; with_reducible rfl))
 refine wpL_gets (vs := (arrK .u8 32 (byt (pN P))).toList) (by rfl) rfl rfl k_t1 (subL h80n) (by kernel_rfl) (by kernel_rfl) ?_
 (try simp only [Act.put, mA, mB, mC])
 refine Lr ?_ (canon0_c h1 hP W6 (GA_ext hG off0.ext).2.2.1)
 intro W7 hO
 replace k_t2 := k_t2.o hO
 replace k_t3 := k_t3.o hO
 replace off0 := off0.o hO
 clear hO
 refine Lv ?_
 refine Lv ?_
 refine Lw ?_ (v := .bool false)
 refine LnP ?_ (z := c4 0) (t := 42) (cells := c4 0)
 intro p7_8 W9 n_t7 hO h_
 replace k_t2 := k_t2.o hO
 replace k_t3 := k_t3.o hO
 replace off0 := off0.o hO
 clear hO h_ n_t7
 refine Lw ?_ (v := .bool false)
 refine wpL_nil ?_
 go_upto_region 4 with fail
 refine wp_region_lit ?_
 refine Lw ?_ (v := .agg (p4 0 0 0 0)) (hv := by kernel_rfl)
 refine Lw ?_ (v := .agg (c4 0)) (hv := by kernel_rfl)
 refine Lp ?_ k_t2 (cells := p4 0 0 0 0)
 intro W10 hO h_
 replace k_t2 : Blk W10 p2_2 (p4 0 0 0 0) 60 := h_
 clear h_
 replace k_t3 := k_t3.p hO nq_t2_t3.symm
 replace off0 := off0.p hO fb_t2
 clear hO
 refine Lp ?_ k_t3 (cells := c4 0)
 intro W11 hO h_
 replace k_t3 : Blk W11 p3_3 (c4 0) 42 := h_
 clear h_
 replace k_t2 := k_t2.p hO nq_t2_t3
 replace off0 := off0.p hO fb_t3
 clear hO
 refine Lw ?_ (v := .int .i64 17)
 refine wpL_nil ?_
 go_wp2
 exact bodyPost_ret (res_rowrr rfl rfl rfl rfl k_t2 k_t3 (by kernel_rfl) (by kernel_rfl) (by kernel_rfl) (by kernel_rfl)) rfl ⟨rfl, off0.ext⟩
theorem parts_1 (hc : kn.c) {P : Nat} (hP : B80 P) (hok : dOk (pG P) = false) (h1 : pN P < LL) :
  ∀ w, GA kn w → Calls Tryd.prog 65 #[.agg (arrK .u8 80 (byt P))] w fun e w' => Ret (.tuple #[.agg (p4 0 0 0 0), .agg (c4 0), .int .i64 17]) w w' e := by
 have dc := eDec_0 (kn := kn) hc (V := (pG P)) (pG_lt P) hok
 intro w hG
 have off0 : Off [] w w := Off.refl _ _
 go_enter Tryd.func65, Tryd.ntmps65
 go_upto_region 0 with fail
 refine wp_region_lit ?_
 refine Ln ?_ (z := arrK .u8 80 (byt P)) (t := 45)
 intro p1_1 W1 n_t1 hO h_
 replace off0 := off0.o hO
 have k_t1 := h_
 clear hO h_ n_t1
 refine Ln ?_ (z := p4 0 0 0 0) (t := 60)
 intro p2_2 W2 n_t2 hO h_
 have fb_t2 := fbn off0 n_t2
 replace k_t1 := k_t1.o hO
 replace off0 := off0.o hO
 have k_t2 := h_
 clear hO h_ n_t2
 refine Ln ?_ (z := c4 0) (t := 42)
 intro p3_3 W3 n_t3 hO h_
 have nq_t2_t3 := bn k_t2 n_t3
 have fb_t3 := fbn off0 n_t3
 replace k_t1 := k_t1.o hO
 replace k_t2 := k_t2.o hO
 replace off0 := off0.o hO
 have k_t3 := h_
 clear hO h_ n_t3
 refine Lw ?_ (v := .int .i64 0)
 refine wpL_nil ?_
 go_upto_region 1 with fail
 refine wp_region_lit ?_
 refine Lw ?_ (v := .slice (some ⟨p1_1, 0, none⟩) 32 80) (hv := by first | rfl | (go_simp; done) | (go_simp; with_reducible rfl))
 refine Lw ?_ (v := .pointer (some ⟨p1_1, 0, none⟩)) (hv := by first | rfl | (go_simp; done) | (go_simp; with_reducible rfl))
 refine wpL_gets (vs := (arrK .u8 32 (byt (pG P))).toList) (by rfl) rfl rfl k_t1 (subL h80g) (by kernel_rfl) (by kernel_rfl) ?_
 (try simp only [Act.put, mA, mB, mC])
 refine Lr ?_ (dc W3 (GA_ext hG off0.ext).1)
 intro W4 hO
 replace k_t1 := k_t1.o hO
 replace k_t2 := k_t2.o hO
 replace k_t3 := k_t3.o hO
 replace off0 := off0.o hO
 clear hO
 refine Lv ?_
 refine Lv ?_
 refine Lw ?_ (v := .int .i64 15)
 refine LnP ?_ (z := p4 0 0 0 0) (t := 60) (cells := p4 0 0 0 0)
 intro p5_5 W6 n_t5 hO h_
 replace k_t1 := k_t1.o hO
 replace k_t2 := k_t2.o hO
 replace k_t3 := k_t3.o hO
 replace off0 := off0.o hO
 clear hO h_ n_t5
 refine Lw ?_ (v := .int .i64 15)
 refine wpL_nil ?_
 go_upto_region 2 with fail
 refine wp_region_lit ?_
 refine Lw ?_ (v := .slice (some ⟨p1_1, 48, none⟩) 32 32) (hv := by first | rfl | (go_simp; done) | (go_simp; with_reducible rfl))
 refine Lw ?_ (v := .pointer (some ⟨p1_1, 48, none⟩)) (hv := by first | rfl | (go_simp; done) | (go_simp; with_reducible rfl))
 refine wpL_gets (vs := (arrK .u8 32 (byt (pN P))).toList) (by rfl) rfl rfl k_t1 (subL h80n) (by kernel_rfl) (by kernel_rfl) ?_
 (try simp only [Act.put, mA, mB, mC])
 refine Lr ?_ (canon1_c h1 W6 (GA_ext hG off0.ext).2.2.1)
 intro W7 hO
 replace k_t2 := k_t2.o hO
 replace k_t3 := k_t3.o hO
 replace off0 := off0.o hO
 clear hO
 refine Lv ?_
 refine Lv ?_
 refine Lw ?_ (v := .bool true)
 refine LnP ?_ (z := c4 0) (t := 42) (cells := c4 (pN P))
 intro p7_8 W9 n_t7 hO h_
 replace k_t2 := k_t2.o hO
 replace k_t3 := k_t3.o hO
 replace off0 := off0.o hO
 clear hO h_ n_t7
 refine Lw ?_ (v := .bool true)
 refine wpL_nil ?_
 go_upto_region 4 with fail
 refine wp_region_lit ?_
 refine Lw ?_ (v := .agg (p4 0 0 0 0)) (hv := by kernel_rfl)
 refine Lw ?_ (v := .agg (c4 0)) (hv := by kernel_rfl)
 refine Lp ?_ k_t2 (cells := p4 0 0 0 0)
 intro W10 hO h_
 replace k_t2 : Blk W10 p2_2 (p4 0 0 0 0) 60 := h_
 clear h_
 replace k_t3 := k_t3.p hO nq_t2_t3.symm
 replace off0 := off0.p hO fb_t2
 clear hO
 refine Lp ?_ k_t3 (cells := c4 0)
 intro W11 hO h_
 replace k_t3 : Blk W11 p3_3 (c4 0) 42 := h_
 clear h_
 replace k_t2 := k_t2.p hO nq_t2_t3
 replace off0 := off0.p hO fb_t3
 clear hO
 refine Lw ?_ (v := .int .i64 17)
 refine wpL_nil ?_
 go_wp2
 exact bodyPost_ret (res_rowrr rfl rfl rfl rfl k_t2 k_t3 (by kernel_rfl) (by kernel_rfl) (by kernel_rfl) (by kernel_rfl)) rfl ⟨rfl, off0.ext⟩
theorem parts_2 (hc : kn.c) {P : Nat} (hP : B80 P) (hok : dOk (pG P) = true) (h1 : LL ≤ pN P) :
  ∀ w, GA kn w → Calls Tryd.prog 65 #[.agg (arrK .u8 80 (byt P))] w fun e w' => Ret (.tuple #[.agg (p4 0 0 0 0), .agg (c4 0), .int .i64 17]) w w' e := by
 obtain ⟨dx, dt, dr, dc⟩ := eDec_1 hc (V := (pG P)) (pG_lt P) hok
 obtain ⟨y0, hy0⟩ := exn ((pG P) % 2 ^ 255)
 rw [← hy0] at dr dc
 clear hy0
 intro w hG
 have off0 : Off [] w w := Off.refl _ _
 go_enter Tryd.func65, Tryd.ntmps65
 go_upto_region 0 with fail
 refine wp_region_lit ?_
 refine Ln ?_ (z := arrK .u8 80 (byt P)) (t := 45)
 intro p1_1 W1 n_t1 hO h_
 replace off0 := off0.o hO
 have k_t1 := h_
 clear hO h_ n_t1
 refine Ln ?_ (z := p4 0 0 0 0) (t := 60)
 intro p2_2 W2 n_t2 hO h_
 have fb_t2 := fbn off0 n_t2
 replace k_t1 := k_t1.o hO
 replace off0 := off0.o hO
 have k_t2 := h_
 clear hO h_ n_t2
 refine Ln ?_ (z := c4 0) (t := 42)
 intro p3_3 W3 n_t3 hO h_
 have nq_t2_t3 := bn k_t2 n_t3
 have fb_t3 := fbn off0 n_t3
 replace k_t1 := k_t1.o hO
 replace k_t2 := k_t2.o hO
 replace off0 := off0.o hO
 have k_t3 := h_
 clear hO h_ n_t3
 refine Lw ?_ (v := .int .i64 0)
 refine wpL_nil ?_
 go_upto_region 1 with fail
 refine wp_region_lit ?_
 refine Lw ?_ (v := .slice (some ⟨p1_1, 0, none⟩) 32 80) (hv := by first | rfl | (go_simp; done) | (go_simp; with_reducible rfl))
 refine Lw ?_ (v := .pointer (some ⟨p1_1, 0, none⟩)) (hv := by first | rfl | (go_simp; done) | (go_simp; with_reducible rfl))
 refine wpL_gets (vs := (arrK .u8 32 (byt (pG P))).toList) (by rfl) rfl rfl k_t1 (subL h80g) (by kernel_rfl) (by kernel_rfl) ?_
 (try simp only [Act.put, mA, mB, mC])
 refine Lr ?_ (dc W3 (GA_ext hG off0.ext).1)
 intro W4 hO
 replace k_t1 := k_t1.o hO
 replace k_t2 := k_t2.o hO
 replace k_t3 := k_t3.o hO
 replace off0 := off0.o hO
 clear hO
 refine Lv ?_
 refine Lv ?_
 refine Lw ?_ (v := .int .i64 0)
 refine LnP ?_ (z := p4 0 0 0 0) (t := 60) (cells := p4 dx y0 1 dt)
 intro p5_5 W6 n_t5 hO h_
 replace k_t1 := k_t1.o hO
 replace k_t2 := k_t2.o hO
 replace k_t3 := k_t3.o hO
 replace off0 := off0.o hO
 clear hO h_ n_t5
 refine Lw ?_ (v := .int .i64 0)
 refine wpL_nil ?_
 go_upto_region 2 with fail
 refine wp_region_lit ?_
 refine Lw ?_ (v := .slice (some ⟨p1_1, 48, none⟩) 32 32) (hv := by first | rfl | (go_simp; done) | (go_simp; with_reducible rfl))
 refine Lw ?_ (v := .pointer (some ⟨p1_1, 48, none⟩)) (hv := by first | rfl | (go_simp; done) | (go_simp; with_reducible rfl))
 refine wpL_gets (vs := (arrK .u8 32 (byt (pN P))).toList) (by rfl) rfl rfl k_t1 (subL h80n) (by kernel_rfl) (by kernel_rfl) ?_
 (try simp only [Act.put, mA, mB, mC])
 refine Lr ?_ (canon0_c h1 hP W6 (GA_ext hG off0.ext).2.2.1)
 intro W7 hO
 replace k_t2 := k_t2.o hO
 replace k_t3 := k_t3.o hO
 replace off0 := off0.o hO
 clear hO
 refine Lv ?_
 refine Lv ?_
 refine Lw ?_ (v := .bool false)
 refine LnP ?_ (z := c4 0) (t := 42) (cells := c4 0)
 intro p7_8 W9 n_t7 hO h_
 replace k_t2 := k_t2.o hO
 replace k_t3 := k_t3.o hO
 replace off0 := off0.o hO
 clear hO h_ n_t7
 refine Lw ?_ (v := .bool false)
 refine wpL_nil ?_
 go_upto_region 4 with fail
 refine wp_region_lit ?_
 refine Lw ?_ (v := .agg (p4 0 0 0 0)) (hv := by kernel_rfl)
 refine Lw ?_ (v := .agg (c4 0)) (hv := by kernel_rfl)
 refine Lp ?_ k_t2 (cells := p4 0 0 0 0)
 intro W10 hO h_
 replace k_t2 : Blk W10 p2_2 (p4 0 0 0 0) 60 := h_
 clear h_
 replace k_t3 := k_t3.p hO nq_t2_t3.symm
 replace off0 := off0.p hO fb_t2
 clear hO
 refine Lp ?_ k_t3 (cells := c4 0)
 intro W11 hO h_
 replace k_t3 : Blk W11 p3_3 (c4 0) 42 := h_
 clear h_
 replace k_t2 := k_t2.p hO nq_t2_t3
 replace off0 := off0.p hO fb_t3
 clear hO
 refine Lw ?_ (v := .int .i64 17)
 refine wpL_nil ?_
 go_wp2
 exact bodyPost_ret (res_rowrr rfl rfl rfl rfl k_t2 k_t3 (by kernel_rfl) (by kernel_rfl) (by kernel_rfl) (by kernel_rfl)) rfl ⟨rfl, off0.ext⟩
theorem parts_3 (hc : kn.c) {P : Nat} (hP : B80 P) (hok : dOk (pG P) = true) (h1 : pN P < LL) :
  ∃ X Y T, RN X Y 1 T (dPt (pG P)) ∧ ∀ w, GA kn w → Calls Tryd.prog 65 #[.agg (arrK .u8 80 (byt P))] w fun e w' => Ret (.tuple #[.agg (p4 X Y 1 T), .agg (c4 (pN P)), .int .i64 0]) w w' e := by
 obtain ⟨dx, dt, dr, dc⟩ := eDec_1 hc (V := (pG P)) (pG_lt P) hok
 obtain ⟨y0, hy0⟩ := exn ((pG P) % 2 ^ 255)
 rw [← hy0] at dr dc
 clear hy0
 refine ⟨dx, y0, dt, dr, fun w hG => ?_⟩
 have off0 : Off [] w w := Off.refl _ _
 go_enter Tryd.func65, Tryd.ntmps65
 go_upto_region 0 with fail
 refine wp_region_lit ?_
 refine Ln ?_ (z := arrK .u8 80 (byt P)) (t := 45)
 intro p1_1 W1 n_t1 hO h_
 replace off0 := off0.o hO
 have k_t1 := h_
 clear hO h_ n_t1
 refine Ln ?_ (z := p4 0 0 0 0) (t := 60)
 intro p2_2 W2 n_t2 hO h_
 have fb_t2 := fbn off0 n_t2
 replace k_t1 := k_t1.o hO
 replace off0 := off0.o hO
 have k_t2 := h_
 clear hO h_ n_t2
 refine Ln ?_ (z := c4 0) (t := 42)
 intro p3_3 W3 n_t3 hO h_
 have nq_t2_t3 := bn k_t2 n_t3
 have fb_t3 := fbn off0 n_t3
 replace k_t1 := k_t1.o hO
 replace k_t2 := k_t2.o hO
 replace off0 := off0.o hO
 have k_t3 := h_
 clear hO h_ n_t3
 refine Lw ?_ (v := .int .i64 0)
 refine wpL_nil ?_
 go_upto_region 1 with fail
 refine wp_region_lit ?_
 refine Lw ?_ (v := .slice (some ⟨p1_1, 0, none⟩) 32 80) (hv := by first | rfl | (go_simp; done) | (go_simp; with_reducible rfl))
 refine Lw ?_ (v := .pointer (some ⟨p1_1, 0, none⟩)) (hv := by first | rfl | (go_simp; done) | (go_simp; with_reducible rfl))
 refine wpL_gets (vs := (arrK .u8 32 (byt (pG P))).toList) (by rfl) rfl rfl k_t1 (subL h80g) (by kernel_rfl) (by kernel_rfl) ?_
 (try simp only [Act.put, mA, mB, mC])
 refine Lr ?_ (dc W3 (GA_ext hG off0.ext).1)
 intro W4 hO
 replace k_t1 := k_t1.o hO
 replace k_t2 := k_t2.o hO
 replace k_t3 := k_t3.o hO
 replace off0 := off0.o hO
 clear hO
 refine Lv ?_
 refine Lv ?_
 refine Lw ?_ (v := .int .i64 0)
 refine LnP ?_ (z := p4 0 0 0 0) (t := 60) (cells := p4 dx y0 1 dt)
 intro p5_5 W6 n_t5 hO h_
 have nq_t2_t5 := bn k_t2 n_t5
 have nq_t3_t5 := bn k_t3 n_t5
 replace k_t1 := k_t1.o hO
 replace k_t2 := k_t2.o hO
 replace k_t3 := k_t3.o hO
 replace off0 := off0.o hO
 have k_t5 := h_
 clear hO h_ n_t5
 refine Lw ?_ (v := .int .i64 0)
 refine wpL_nil ?_
 go_upto_region 2 with fail
 refine wp_region_lit ?_
 refine Lw ?_ (v := .slice (some ⟨p1_1, 48, none⟩) 32 32) (hv := by first | rfl | (go_simp; done) | (go_simp; with_reducible rfl))
 refine Lw ?_ (v := .pointer (some ⟨p1_1, 48, none⟩)) (hv := by first | rfl | (go_simp; done) | (go_simp; with_reducible rfl))
 refine wpL_gets (vs := (arrK .u8 32 (byt (pN P))).toList) (by rfl) rfl rfl k_t1 (subL h80n) (by kernel_rfl) (by kernel_rfl) ?_
 (try simp only [Act.put, mA, mB, mC])
 refine Lr ?_ (canon1_c h1 W6 (GA_ext hG off0.ext).2.2.1)
 intro W7 hO
 replace k_t2 := k_t2.o hO
 replace k_t3 := k_t3.o hO
 replace k_t5 := k_t5.o hO
 replace off0 := off0.o hO
 clear hO
 refine Lv ?_
 refine Lv ?_
 refine Lw ?_ (v := .bool true)
 refine LnP ?_ (z := c4 0) (t := 42) (cells := c4 (pN P))
 intro p7_8 W9 n_t7 hO h_
 have nq_t2_t7 := bn k_t2 n_t7
 have nq_t3_t7 := bn k_t3 n_t7
 replace k_t2 := k_t2.o hO
 replace k_t3 := k_t3.o hO
 replace k_t5 := k_t5.o hO
 replace off0 := off0.o hO
 have k_t7 := h_
 clear hO h_ n_t7
 refine Lw ?_ (v := .bool true)
 refine wpL_nil ?_
 go_upto_region 5 with fail
 refine wp_region_tr (.q 0 (.q 1 (.e 2 (.e 3 (.q 4 .z))))) (fun W => (Blk W p5_5 (p4 dx y0 1 dt) 60) ∧ (Blk W p7_8 (c4 (pN P)) 42)) (by kernel_rfl) (by kernel_rfl) ?_
 intro W10 hO
 replace k_t2 := k_t2.o hO
 replace k_t3 := k_t3.o hO
 replace k_t5 := k_t5.o hO
 replace k_t7 := k_t7.o hO
 replace off0 := off0.o hO
 clear hO
 refine ⟨⟨k_t5, k_t7⟩, ?_⟩
 refine wpT_q (v := .agg (p4 dx y0 1 dt)) rfl (by rfl) (fun W hS => by exact (run_row0 rfl rfl (hS.1) (by kernel_rfl) (by kernel_rfl))) ?_
 (try simp only [Act.put, mA, mB, mC])
 refine wpT_q (v := .agg (c4 (pN P))) rfl (by rfl) (fun W hS => by exact (run_row0 rfl rfl (hS.2) (by kernel_rfl) (by kernel_rfl))) ?_
 (try simp only [Act.put, mA, mB, mC])
 refine wpT_e rfl ?_
 refine Lp ?_ k_t2 (cells := p4 dx y0 1 dt)
 intro W11 hO h_
 replace k_t2 : Blk W11 p2_2 (p4 dx y0 1 dt) 60 := h_
 clear h_
 replace k_t3 := k_t3.p hO nq_t2_t3.symm
 replace k_t5 := k_t5.p hO nq_t2_t5.symm
 replace k_t7 := k_t7.p hO nq_t2_t7.symm
 replace off0 := off0.p hO fb_t2
 clear hO
 refine wpT_n (fun W => (Blk W p5_5 (p4 dx y0 1 dt) 60) ∧ (Blk W p7_8 (c4 (pN P)) 42)) (fun W hS => ⟨hS.1, hS.2⟩) ⟨k_t5, k_t7⟩ ?_
 refine wpT_e rfl ?_
 refine Lp ?_ k_t3 (cells := c4 (pN P))
 intro W12 hO h_
 replace k_t3 : Blk W12 p3_3 (c4 (pN P)) 42 := h_
 clear h_
 replace k_t2 := k_t2.p hO nq_t2_t3
 replace k_t5 := k_t5.p hO nq_t3_t5.symm
 replace k_t7 := k_t7.p hO nq_t3_t7.symm
 replace off0 := off0.p hO fb_t3
 clear hO
 refine wpT_n (fun W => (Blk W p5_5 (p4 dx y0 1 dt) 60) ∧ (Blk W p7_8 (c4 (pN P)) 42)) (fun W hS => ⟨hS.1, hS.2⟩) ⟨k_t5, k_t7⟩ ?_
 (refine wpT_q (v := ?_) rfl (by rfl) (fun W hS => ?_) ?_; rotate_left 1; (focus (go_simp; first | done | with_reducible rfl)))
 (try simp only [Act.put, mA, mB, mC])
 refine wpT_z ?_
 go_wp2
 exact bodyPost_ret (res_rowrr rfl rfl rfl rfl k_t2 k_t3 (by kernel_rfl) (by kernel_rfl) (by kernel_rfl) (by kernel_rfl)) rfl ⟨rfl, off0.ext⟩
theorem vsum_0 (hc : kn.c) {P : Nat} (hok : dOk (pG P) = false) :
  ∀ w, GA kn w → Calls Tryd.prog 27 #[.agg (arrK .u8 80 (byt P))] w fun e w' => Ret (.tuple #[.agg (arrK .u8 64 (byt 0)), .int .i64 17]) w w' e := by
 have dc := eDec_0 (kn := kn) hc (V := (pG P)) (pG_lt P) hok
 intro w hG
 have off0 : Off [] w w := Off.refl _ _
 go_enter Tryd.func27, Tryd.ntmps27
 go_upto_region 0 with fail
 refine wp_region_lit ?_
 refine Ln ?_ (z := arrK .u8 80 (byt P)) (t := 45)
 intro p1_1 W1 n_t1 hO h_
 replace off0 := off0.o hO
 have k_t1 := h_
 clear hO h_ n_t1
 refine Ln ?_ (z := arrK .u8 64 (byt 0)) (t := 30)
 intro p2_2 W2 n_t2 hO h_
 have fb_t2 := fbn off0 n_t2
 replace k_t1 := k_t1.o hO
 replace off0 := off0.o hO
 have k_t2 := h_
 clear hO h_ n_t2
 refine Lw ?_ (v := .int .i64 0)
 refine wpL_nil ?_
 go_upto_region 1 with fail
 refine wp_region_lit ?_
 refine Lw ?_ (v := .slice (some ⟨p1_1, 0, none⟩) 32 80) (hv := by first | rfl | (go_simp; done) | (go_simp; with_reducible rfl))
 refine Lw ?_ (v := .pointer (some ⟨p1_1, 0, none⟩)) (hv := by first | rfl | (go_simp; done) | (go_simp; with_reducible rfl))
 refine wpL_gets (vs := (arrK .u8 32 (byt (pG P))).toList) (by rfl) rfl rfl k_t1 (subL h80g) (by kernel_rfl) (by kernel_rfl) ?_
 (try simp only [Act.put, mA, mB, mC])
 refine Lr ?_ (dc W2 (GA_ext hG off0.ext).1)
 intro W3 hO
 replace k_t2 := k_t2.o hO
 replace off0 := off0.o hO
 clear hO
 refine Lv ?_
 refine Lv ?_
 refine Lw ?_ (v := .int .i64 15)
 refine LnP ?_ (z := p4 0 0 0 0) (t := 60) (cells := p4 0 0 0 0)
 intro p4_4 W5 n_t4 hO h_
 replace k_t2 := k_t2.o hO
 replace off0 := off0.o hO
 clear hO h_ n_t4
 refine Lw ?_ (v := .int .i64 15)
 refine wpL_nil ?_
 go_upto_region 3 with fail
 refine wp_region_lit ?_
 refine Lw ?_ (v := .agg (arrK .u8 64 (byt 0))) (hv := by kernel_rfl)
 refine LpA ?_ k_t2 (k := .u8) (n := 64) (f := byt 0)
 intro W6 hO h_
 replace k_t2 : Blk W6 p2_2 (arrK .u8 64 (byt 0)) 30 := h_
 clear h_
 replace off0 := off0.p hO fb_t2
 clear hO
 refine Lw ?_ (v := .int .i64 17)
 refine wpL_nil ?_
 go_wp2
 exact bodyPost_ret (res_row2 rfl rfl rfl k_t2 (by kernel_rfl) (by rw [arrK_size]; kernel_rfl)) rfl ⟨rfl, off0.ext⟩
theorem vsum_1 (hc : kn.c) {P X : Nat} (hok : dOk (pG P) = true) (hX : X = vSum P) :
  ∀ w, GA kn w → Calls Tryd.prog 27 #[.agg (arrK .u8 80 (byt P))] w fun e w' => Ret (.tuple #[.agg (arrK .u8 64 (byt X)), .int .i64 0]) w w' e := by
 obtain ⟨dx, dt, dr, dc⟩ := eDec_1 hc (V := (pG P)) (pG_lt P) hok
 obtain ⟨y0, hy0⟩ := exn ((pG P) % 2 ^ 255)
 rw [← hy0] at dr dc
 clear hy0
 obtain ⟨x1, y2, z3, t4, r5, c6⟩ := eEight_c (kn := kn) dr.rw
 obtain ⟨U1, hU1⟩ := exn (enc (pm (dPt (pG P)) 8))
 have bU1 : U1 < 2 ^ 256 := by rw [hU1]; exact enc_lt _
 have HU1 := Lib.hid hU1
 clear hU1
 obtain ⟨U2, hU2⟩ := exn (hs ([3, 3] ++ (lb 32 U1) ++ [0]))
 have HU2 := Lib.hid hU2
 clear hU2
 intro w hG
 have off0 : Off [] w w := Off.refl _ _
 go_enter Tryd.func27, Tryd.ntmps27
 go_upto_region 0 with fail
 refine wp_region_lit ?_
 refine Ln ?_ (z := arrK .u8 80 (byt P)) (t := 45)
 intro p1_1 W1 n_t1 hO h_
 replace off0 := off0.o hO
 have k_t1 := h_
 clear hO h_ n_t1
 refine Ln ?_ (z := arrK .u8 64 (byt 0)) (t := 30)
 intro p2_2 W2 n_t2 hO h_
 have fb_t2 := fbn off0 n_t2
 replace k_t1 := k_t1.o hO
 replace off0 := off0.o hO
 have k_t2 := h_
 clear hO h_ n_t2
 refine Lw ?_ (v := .int .i64 0)
 refine wpL_nil ?_
 go_upto_region 1 with fail
 refine wp_region_lit ?_
 refine Lw ?_ (v := .slice (some ⟨p1_1, 0, none⟩) 32 80) (hv := by first | rfl | (go_simp; done) | (go_simp; with_reducible rfl))
 refine Lw ?_ (v := .pointer (some ⟨p1_1, 0, none⟩)) (hv := by first | rfl | (go_simp; done) | (go_simp; with_reducible rfl))
 refine wpL_gets (vs := (arrK .u8 32 (byt (pG P))).toList) (by rfl) rfl rfl k_t1 (subL h80g) (by kernel_rfl) (by kernel_rfl) ?_
 (try simp only [Act.put, mA, mB, mC])
 refine Lr ?_ (dc W2 (GA_ext hG off0.ext).1)
 intro W3 hO
 replace k_t2 := k_t2.o hO
 replace off0 := off0.o hO
 clear hO
 refine Lv ?_
 refine Lv ?_
 refine Lw ?_ (v := .int .i64 0)
 refine LnP ?_ (z := p4 0 0 0 0) (t := 60) (cells := p4 dx y0 1 dt)
 intro p4_4 W5 n_t4 hO h_
 replace k_t2 := k_t2.o hO
 replace off0 := off0.o hO
 have k_t4 := h_
 clear hO h_ n_t4
 refine Lw ?_ (v := .int .i64 0)
 refine wpL_nil ?_
 go_upto_region 4 with fail
 refine wp_region_lit ?_
 refine L0 ?_ k_t4
 refine Lr ?_ (c6 W5 (GA_ext hG off0.ext).1)
 intro W6 hO
 replace k_t2 := k_t2.o hO
 replace off0 := off0.o hO
 clear hO
 refine Lr ?_ (encN_c r5.rw HU1.out W6 (GA_ext hG off0.ext).1)
 intro W7 hO
 replace k_t2 := k_t2.o hO
 replace off0 := off0.o hO
 clear hO
 refine LnA ?_ (z := arrK .u8 32 (byt 0)) (t := 22) (k := .u8) (n := 32) (f := byt U1)
 intro p6_8 W9 n_t6 hO h_
 replace k_t2 := k_t2.o hO
 replace off0 := off0.o hO
 have k_t6 := h_
 clear hO h_ n_t6
 refine wpL_nil ?_
 go_upto_region 5 with fail
 refine wp_region_lit ?_
 refine LnS ?_ (z := #[.int .u8 3, .int .u8 3]) (t := 5) (n := 2) (c := 2)
 intro p20_10 W10 n_s20 hO h_
 replace k_t2 := k_t2.o hO
 replace k_t6 := k_t6.o hO
 replace off0 := off0.o hO
 have ow_s20 : Own W10 (.slice (some ⟨p20_10, 0, none⟩) 2 2) [3, 3] := own_blk h_ (by rfl) (by show 2 ≤ maxLen; decide)
 clear hO h_ n_s20
 refine Lw ?_ (v := .slice (some ⟨p6_8, 0, none⟩) 32 32) (hv := by first | rfl | (go_simp; done) | (go_simp; with_reducible rfl))
 refine LnS ?_ (z := #[.int .u8 0]) (t := 5) (n := 1) (c := 1)
 intro p22_11 W11 n_s22 hO h_
 replace k_t2 := k_t2.o hO
 replace k_t6 := k_t6.o hO
 replace ow_s20 := Own.off ow_s20 hO f0
 replace off0 := off0.o hO
 have ow_s22 : Own W11 (.slice (some ⟨p22_11, 0, none⟩) 1 1) [0] := own_blk h_ (by rfl) (by show 1 ≤ maxLen; decide)
 clear hO h_ n_s22
 refine LnS ?_ (z := #[(.slice (some ⟨p20_10, 0, none⟩) 2 2), .slice (some ⟨p6_8, 0, none⟩) 32 32, (.slice (some ⟨p22_11, 0, none⟩) 1 1)]) (t := 23) (n := 3) (c := 3) (hr := by exact run_bsv [(.slice (some ⟨p20_10, 0, none⟩) 2 2), .slice (some ⟨p6_8, 0, none⟩) 32 32, (.slice (some ⟨p22_11, 0, none⟩) 1 1)] rfl rfl (vsc ((own_cells ow_s20).1) (vsc (rfl) (vsc ((own_cells ow_s22).1) vs0))) Tryd.underlying112 (by kernel_rfl) (by kernel_rfl) rfl (by decide) (by decide))
 intro p23_12 W12 n_s23 hO h_
 replace k_t2 := k_t2.o hO
 replace k_t6 := k_t6.o hO
 replace ow_s20 := Own.off ow_s20 hO f0
 replace ow_s22 := Own.off ow_s22 hO f0
 replace off0 := off0.o hO
 have k_s23 := h_
 clear hO h_ n_s23
 refine Lr ?_ (sumN_c HU2.out [[3, 3], lb 32 U1, [0]] (some ⟨p23_12, 0, none⟩) 3 (by simp only [List.flatten_cons, List.flatten_nil, List.append_nil, List.nil_append, List.append_assoc, List.cons_append]) (by first | omega | (simp only [List.length_append, List.length_cons, List.length_nil, lb_length]; omega)) (by simp) W12 (pss_blk k_s23 (pvc (ow_s20.sl) (pvc (sl_part (V := U1) (n := 32) (off := 0) k_t6 ap0 (by decide) (by decide)) (pvc (ow_s22.sl) pv0)))) (GA_ext hG off0.ext).2.1)
 intro W13 hO
 replace k_t2 := k_t2.o hO
 replace off0 := off0.o hO
 clear hO
 refine LpA ?_ k_t2 (k := .u8) (n := 64) (f := byt U2)
 intro W14 hO h_
 replace k_t2 : Blk W14 p2_2 (arrK .u8 64 (byt U2)) 30 := h_
 clear h_
 replace off0 := off0.p hO fb_t2
 clear hO
 refine Lw ?_ (v := .int .i64 0)
 refine wpL_nil ?_
 go_wp2
 rw [hX, show vSum P = U2 by rw [HU2.out, HU1.out]; rfl]
 exact bodyPost_ret (res_row2 rfl rfl rfl k_t2 (by kernel_rfl) (by rw [arrK_size]; kernel_rfl)) rfl ⟨rfl, off0.ext⟩
theorem index_c {X : Nat} (w : World) :
  Calls Tryd.prog 30 #[.agg (arrK .u8 64 (byt X))] w fun e w' => Ret (.agg (arrK .u8 32 (byt (lo X)))) w w' e := by
 have off0 : Off [] w w := Off.refl _ _
 go_enter Tryd.func30, Tryd.ntmps30
 go_upto_region 0 with fail
 refine wp_region_lit ?_
 refine Ln ?_ (z := arrK .u8 64 (byt X)) (t := 30)
 intro p1_1 W1 n_t1 hO h_
 replace off0 := off0.o hO
 have k_t1 := h_
 clear hO h_ n_t1
 refine Ln ?_ (z := arrK .u8 32 (byt 0)) (t := 22)
 intro p2_2 W2 n_t2 hO h_
 have fb_t2 := fbn off0 n_t2
 replace k_t1 := k_t1.o hO
 replace off0 := off0.o hO
 have k_t2 := h_
 clear hO h_ n_t2
 refine wpL_nil ?_
 go_upto_region 1 with fail
 refine wp_region_lit ?_
 refine Lw ?_ (v := .slice (some ⟨p1_1, 0, none⟩) 32 64) (hv := by first | rfl | (go_simp; done) | (go_simp; with_reducible rfl))
 refine Lw ?_ (v := .pointer (some ⟨p1_1, 0, none⟩)) (hv := by first | rfl | (go_simp; done) | (go_simp; with_reducible rfl))
 refine wpL_gets (vs := (arrK .u8 32 (byt (lo X))).toList) (by rfl) rfl rfl k_t1 (subL h64l) (by kernel_rfl) (by kernel_rfl) ?_
 (try simp only [Act.put, mA, mB, mC])
 refine LpA ?_ k_t2 (k := .u8) (n := 32) (f := byt (lo X))
 intro W3 hO h_
 replace k_t2 : Blk W3 p2_2 (arrK .u8 32 (byt (lo X))) 22 := h_
 clear h_
 replace off0 := off0.p hO fb_t2
 clear hO
 refine wpL_nil ?_
 go_wp2
 exact bodyPost_ret (res_row rfl rfl k_t2 (by kernel_rfl) (by rw [arrK_size]; kernel_rfl)) rfl ⟨rfl, off0.ext⟩
end Go.Proofs.YtefpoollmbmkfaaDoor
