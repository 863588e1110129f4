/- vrf: point. Conditions: the cells of the variables hold their numbers. vrf: mark, wide. Conditions: the cells of the variables hold their numbers. vrf: key, parts, Sum, Index. Conditions: the cells of the variables hold their numbers. -/
import Derived.Test.YtefpoollmbmkfaaDoorGc
import Derived.Test.YtefpoollmbmkfaaDoorVf
import Derived.Test.YtefpoollmbmkfaaDoorSgC
set_option linter.unusedSimpArgs false
set_option linter.unusedVariables false
namespace Go.Proofs.YtefpoollmbmkfaaDoor
set_option maxHeartbeats 2000000
set_option maxRecDepth 100000
open Go.RowKit
attribute [local irreducible] wpList
variable {kn : Kn}
open Sc (LL i6)
attribute [local irreducible] hs
theorem q3u {A B : Nat} {v : Value} {w : World} (h : A = B) (c : Calls Tryd.prog 31 #[.agg (q7 .u8 32 (j0 B))] w fun e w' => h9 v w w' e) : Calls Tryd.prog 31 #[.agg (q7 .u8 32 (j0 A))] w fun e w' => h9 v w w' e := h ▸ c
theorem q9v {w : World} {o : Oper} {a : Act} {x y : Operand} {t t' : TypeId} {i n : Nat} {c : Bool} (hc : decide (i < n) = c) (ho : o.op = .binOp .lss t x y t') (hx : a.eval x = .int .i64 (i : Int)) (hy : a.eval y = .int .i64 (n : Int)) : (execOp a.eval o).run Tryd.prog w = .ok (.value (.bool c)) w := by
  have e : decide ((i : Int) < (n : Int)) = c := by rw [← hc]; exact decide_eq_decide.2 Int.ofNat_lt
  simp only [execOp, ho, hx, hy, eqGuard, binOp, Sem.run_bind]
  simp [e, hc, go_sem, Sem.run_bind]
theorem q9w {w : World} {o : Oper} {a : Act} {x : Operand} {i : Nat} (ho : o.op = .convert 3 5 x) (hx : a.eval x = .int .i64 (i : Int)) : (execOp a.eval o).run Tryd.prog w = .ok (.value (.int .u8 ((u8 i).toNat : Int))) w := by
  rw [q6w, show ((i : Int) % 256) = w8 (i : Int) from (IntKind.wrap_u8 _).symm]; exact j3p ho hx

theorem q9x (hc : kn.c) {V : Nat} {L : List UInt8} (hL : L.length ≤ 1099511627776) (c0 : Nat) (h256 : c0 < 256) (hok : r3 V L c0 = true) (hlow : ∀ i, i < c0 → r3 V L i = false) :
  ∃ X Y Z T, RN X Y Z T (o6 V L c0) ∧ ∀ v w, GA kn w → Sl w v L → Calls Tryd.prog 60 #[.agg (q7 .u8 32 (j0 V)), v] w fun e w' => h9 (.tuple #[.agg (p4 X Y Z T), .int .i64 0]) w w' e := by
 obtain ⟨dx0, dt0, dr0, dc0⟩ := L1 (kn := kn) hc (q0j V L c0) (candOk_iff.1 hok).1
 obtain ⟨dy0, hdy0⟩ := z8 (C0 V L c0 % 2 ^ 255)
 rw [← hdy0] at dr0 dc0
 clear hdy0
 obtain ⟨ex0, ey0, ez0, et0, er0, ec0⟩ := C7 (kn := kn) dr0.rw
 replace er0 : RN ex0 ey0 ez0 et0 (o6 V L c0) := er0
 refine ⟨ex0, ey0, ez0, et0, er0, fun v w hG hsl => ?_⟩
 have y6 := hsl
 have off0 : Off [] w w := Off.refl _ _
 go_enter Tryd.func60, Tryd.ntmps60
 go_upto_region 0 with fail
 refine wp_region_lit ?_
 refine Ln ?_ (z := q7 .u8 32 (j0 V)) (t := 22)
 intro s7 W1 z7 hO h_
 replace y6 := Sl.off y6 hO f0
 replace off0 := off0.o hO
 have k_t2 := h_
 clear hO h_ z7
 refine Ln ?_ (z := p4 0 0 0 0) (t := 60)
 intro E9 W2 c9 hO h_
 have nq_t2_t4 := bn k_t2 c9
 have j4k := n8 (Sl.lt y6) c9
 have w6 := i3 off0 c9
 replace k_t2 := k_t2.o hO
 replace y6 := Sl.off y6 hO f0
 replace off0 := off0.o hO
 have k_t4 := h_
 clear hO h_ c9
 refine Lw ?_ (v := .int .i64 0)
 refine q5 ?_
 go_wp2_with fail
 go_loopw [10] (fun ii wr => ∃ (i : Nat), (i ≤ c0) ∧ (ii = .int .i64 (i : Int)) ∧ Off [] w wr ∧ Blk wr s7 (q7 .u8 32 (j0 V)) 22 ∧ Blk wr E9 (p4 0 0 0 0) 60 ∧ Sl wr v L)
  (fun ii _ => (256 - intOf ii).toNat)
 case atStart => exact ⟨0, Nat.zero_le _, rfl, off0, k_t2, k_t4, ow_a⟩
 case round =>
  obtain ⟨i, hi, rfl, off0, k_t2, k_t4, ow_a⟩ := hrel
  obtain ⟨W3, eW_⟩ := F7 off0
  subst eW_
  go_upto_region 2 with fail
  refine wp_region_lit ?_
  refine Lw ?_ (v := .bool true) (hv := by exact q9v (i := i) (n := 256) (decide_eq_true (by omega)) rfl rfl rfl)
  refine q5 ?_
  by_cases hi0 : i = c0
  ·
   have _f := hi0
   subst hi0
   have hdo := (candOk_iff.1 hok).1
   have hne := (candOk_iff.1 hok).2
   go_upto_region 4 with fail
   refine wp_region_lit ?_
   refine E3 ?_ (z := #[.int .u8 3, .int .u8 1]) (t := 5) (n := 2) (c := 2)
   intro j6m W4 q5e hO h_
   have y4n : Value.ownBlock (.slice (some ⟨p13_4, 0, none⟩) 2 2) ≠ some E9 := obn k_t4 q5e
   replace k_t2 := k_t2.o hO
   replace k_t4 := k_t4.o hO
   replace y6 := Sl.off y6 hO f0
   replace off0 := off0.o hO
   have ow_s13 : Own W4 (.slice (some ⟨p13_4, 0, none⟩) 2 2) [3, 1] := d8 h_ (by rfl) (by show 2 ≤ maxLen; decide)
   clear hO h_ q5e
   refine Lw ?_ (v := .slice (some ⟨p2_1, 0, none⟩) 32 32) (hv := by first | rfl | (go_simp; done) | (go_simp; with_reducible rfl))
   refine Lv ?_
   refine Lv ?_
   refine Lw ?_ (v := .int .u8 ((UInt8.ofNat i).toNat : Int)) (hv := by exact q9w rfl rfl)
   refine E3 ?_ (z := #[.int .u8 ((UInt8.ofNat i).toNat : Int), .int .u8 0]) (t := 5) (n := 2) (c := 2)
   intro j6n W5 q5f hO h_
   have y4o : Value.ownBlock (.slice (some ⟨p18_5, 0, none⟩) 2 2) ≠ some E9 := obn k_t4 q5f
   replace k_t2 := k_t2.o hO
   replace k_t4 := k_t4.o hO
   replace y6 := Sl.off y6 hO f0
   replace ow_s13 := Own.off ow_s13 hO f0
   replace off0 := off0.o hO
   have ow_s18 : Own W5 (.slice (some ⟨p18_5, 0, none⟩) 2 2) [UInt8.ofNat i, 0] := d8 h_ (by rfl) (by show 2 ≤ maxLen; decide)
   clear hO h_ q5f
   refine E3 ?_ (z := #[(.slice (some ⟨p13_4, 0, none⟩) 2 2), .slice (some ⟨p2_1, 0, none⟩) 32 32, v, (.slice (some ⟨p18_5, 0, none⟩) 2 2)]) (t := 23) (n := 4) (c := 4) (hr := by exact p7 [(.slice (some ⟨p13_4, 0, none⟩) 2 2), .slice (some ⟨p2_1, 0, none⟩) 32 32, v, (.slice (some ⟨p18_5, 0, none⟩) 2 2)] rfl rfl (vsc ((r9 ow_s13).1) (vsc (rfl) (vsc ((s9 y6).1) (vsc ((r9 ow_s18).1) vs0)))) Tryd.underlying112 (by kernel_rfl) (by kernel_rfl) rfl (by decide) (by decide))
   intro j6o W6 q5g hO h_
   have nq_t4_s19 := bn k_t4 q5g
   replace k_t2 := k_t2.o hO
   replace k_t4 := k_t4.o hO
   replace y6 := Sl.off y6 hO f0
   replace ow_s13 := Own.off ow_s13 hO f0
   replace ow_s18 := Own.off ow_s18 hO f0
   replace off0 := off0.o hO
   have k_s19 := h_
   clear hO h_ q5g
   obtain ⟨U1, hU1⟩ := z8 (hs ([3, 1] ++ (lb 32 V) ++ L ++ [UInt8.ofNat i, 0]))
   have HU1 := Lib.hid hU1
   clear hU1
   refine Lr ?_ (F1 HU1.out [[3, 1], lb 32 V, L, [UInt8.ofNat i, 0]] (some ⟨p19_6, 0, none⟩) 4 (by simp only [List.flatten_cons, List.flatten_nil, List.append_nil, List.nil_append, List.append_assoc, List.cons_append]) (by first | omega | (simp only [List.length_append, List.length_cons, List.length_nil, g7]; omega)) (by simp) W6 (B1 k_s19 (pvc (ow_s13.sl) (pvc (d9 (V := V) (n := 32) (off := 0) k_t2 ap0 (by decide) (by decide)) (pvc y6 (pvc (ow_s18.sl) pv0))))) (y7 hG off0.ext).2.1)
   intro W7 hO
   replace k_t2 := k_t2.o hO
   replace k_t4 := k_t4.o hO
   replace k_s19 := k_s19.o hO
   replace y6 := Sl.off y6 hO f0
   replace ow_s13 := Own.off ow_s13 hO f0
   replace ow_s18 := Own.off ow_s18 hO f0
   replace off0 := off0.o hO
   clear hO
   refine LnA ?_ (z := q7 .u8 64 (j0 0)) (t := 30) (k := .u8) (n := 64) (f := j0 U1)
   intro q7c W9 u6 hO h_
   have nq_t4_t7 := bn k_t4 u6
   replace k_t2 := k_t2.o hO
   replace k_t4 := k_t4.o hO
   replace k_s19 := k_s19.o hO
   replace y6 := Sl.off y6 hO f0
   replace ow_s13 := Own.off ow_s13 hO f0
   replace ow_s18 := Own.off ow_s18 hO f0
   replace off0 := off0.o hO
   have k_t7 := h_
   clear hO h_ u6
   refine q5 ?_
   go_upto_region 5 with fail
   refine wp_region_lit ?_
   refine Lw ?_ (v := .slice (some ⟨p7_8, 0, none⟩) 32 64) (hv := by first | rfl | (go_simp; done) | (go_simp; with_reducible rfl))
   refine Lw ?_ (v := .pointer (some ⟨p7_8, 0, none⟩)) (hv := by first | rfl | (go_simp; done) | (go_simp; with_reducible rfl))
   refine z0 (vs := (q7 .u8 32 (j0 (lo U1))).toList) (by rfl) rfl rfl k_t7 (Y7 y4i) (by kernel_rfl) (by kernel_rfl) ?_
   (try simp only [Act.put, mA, mB, mC])
   have hcb9 : lo U1 = C0 V L i := by rw [HU1.out]; rfl
   refine Lr ?_ (q3u hcb9 (dc0 W9 (y7 hG off0.ext).1))
   intro W10 hO
   replace k_t2 := k_t2.o hO
   replace k_t4 := k_t4.o hO
   replace k_s19 := k_s19.o hO
   replace k_t7 := k_t7.o hO
   replace y6 := Sl.off y6 hO f0
   replace ow_s13 := Own.off ow_s13 hO f0
   replace ow_s18 := Own.off ow_s18 hO f0
   replace off0 := off0.o hO
   clear hO
   refine Lv ?_
   refine Lv ?_
   refine Lw ?_ (v := .int .i64 0)
   refine U0 ?_ (z := p4 0 0 0 0) (t := 60) (cells := p4 dx0 dy0 1 dt0)
   intro q3v W12 v6 hO h_
   have J6 := bn k_t2 v6
   have nq_t4_t8 := bn k_t4 v6
   have y4p := bn k_s19 v6
   have H3 := bn k_t7 v6
   have q0k := n8 (Sl.lt y6) v6
   have y4q := n8 (Own.lt ow_s13) v6
   have y4r := n8 (Own.lt ow_s18) v6
   have I8 := i3 off0 v6
   replace k_t2 := k_t2.o hO
   replace k_t4 := k_t4.o hO
   replace k_s19 := k_s19.o hO
   replace k_t7 := k_t7.o hO
   replace y6 := Sl.off y6 hO f0
   replace ow_s13 := Own.off ow_s13 hO f0
   replace ow_s18 := Own.off ow_s18 hO f0
   replace off0 := off0.o hO
   have k_t8 := h_
   clear hO h_ v6
   refine Lw ?_ (v := .int .i64 0)
   refine q5 ?_
   go_upto_region 7 with fail
   refine wp_region_lit ?_
   refine L0 ?_ k_t8
   refine Lr ?_ (ec0 W12 (y7 hG off0.ext).1)
   intro W13 hO
   replace k_t2 := k_t2.o hO
   replace k_t4 := k_t4.o hO
   replace k_s19 := k_s19.o hO
   replace k_t7 := k_t7.o hO
   replace k_t8 := k_t8.o hO
   replace y6 := Sl.off y6 hO f0
   replace ow_s13 := Own.off ow_s13 hO f0
   replace ow_s18 := Own.off ow_s18 hO f0
   replace off0 := off0.o hO
   clear hO
   refine Lp ?_ k_t8 (cells := p4 ex0 ey0 ez0 et0)
   intro W14 hO h_
   replace k_t8 : Blk W14 q3v (p4 ex0 ey0 ez0 et0) 60 := h_
   clear h_
   replace k_t2 := k_t2.p hO J6
   replace k_t4 := k_t4.p hO nq_t4_t8
   replace k_s19 := k_s19.p hO y4p
   replace k_t7 := k_t7.p hO H3
   replace y6 := Sl.off y6 hO (f1 q0k)
   replace ow_s13 := Own.off ow_s13 hO (f1 y4q)
   replace ow_s18 := Own.off ow_s18 hO (f1 y4r)
   replace off0 := off0.p hO I8
   clear hO
   refine q5 ?_
   go_upto_region 8 with fail
   refine wp_region_lit ?_
   refine L0 ?_ k_t8
   refine Lw ?_ (v := .agg (p4 0 0 0 0)) (hv := by kernel_rfl)
   have cs_ := P7 (kn := kn) er0.rw R1
   rw [show decide (o6 V L i = p0) = false from decide_eq_false hne] at cs_
   refine Lr ?_ (cs_ W14 (y7 hG off0.ext).1)
   intro W15 hO
   replace k_t2 := k_t2.o hO
   replace k_t4 := k_t4.o hO
   replace k_s19 := k_s19.o hO
   replace k_t7 := k_t7.o hO
   replace k_t8 := k_t8.o hO
   replace y6 := Sl.off y6 hO f0
   replace ow_s13 := Own.off ow_s13 hO f0
   replace ow_s18 := Own.off ow_s18 hO f0
   replace off0 := off0.o hO
   clear hO
   refine Lw ?_ (v := .bool true)
   refine q5 ?_
   go_upto_region 9 with fail
   refine wp_region_lit ?_
   refine L0 ?_ k_t8
   refine Lp ?_ k_t4 (cells := p4 ex0 ey0 ez0 et0)
   intro W16 hO h_
   replace k_t4 : Blk W16 E9 (p4 ex0 ey0 ez0 et0) 60 := h_
   clear h_
   replace k_t2 := k_t2.p hO nq_t2_t4
   replace k_s19 := k_s19.p hO nq_t4_s19.symm
   replace k_t7 := k_t7.p hO nq_t4_t7.symm
   replace k_t8 := k_t8.p hO nq_t4_t8.symm
   replace y6 := Sl.off y6 hO (f1 j4k)
   replace ow_s13 := Own.off ow_s13 hO (f1 y4n)
   replace ow_s18 := Own.off ow_s18 hO (f1 y4o)
   replace off0 := off0.p hO w6
   clear hO
   refine Lw ?_ (v := .int .i64 0)
   refine q5 ?_
   go_wp2
   exact bodyPost_ret (u5 rfl rfl rfl k_t4 (by kernel_rfl) (by kernel_rfl)) rfl ⟨rfl, off0.ext⟩
  ·
   have _f := hi0
   have hbad := hlow i (by omega)
   go_upto_region 4 with fail
   refine wp_region_lit ?_
   refine E3 ?_ (z := #[.int .u8 3, .int .u8 1]) (t := 5) (n := 2) (c := 2)
   intro j6m W4 q5e hO h_
   replace k_t2 := k_t2.o hO
   replace k_t4 := k_t4.o hO
   replace y6 := Sl.off y6 hO f0
   replace off0 := off0.o hO
   have ow_s13 : Own W4 (.slice (some ⟨p13_4, 0, none⟩) 2 2) [3, 1] := d8 h_ (by rfl) (by show 2 ≤ maxLen; decide)
   clear hO h_ q5e
   refine Lw ?_ (v := .slice (some ⟨p2_1, 0, none⟩) 32 32) (hv := by first | rfl | (go_simp; done) | (go_simp; with_reducible rfl))
   refine Lv ?_
   refine Lv ?_
   refine Lw ?_ (v := .int .u8 ((UInt8.ofNat i).toNat : Int)) (hv := by exact q9w rfl rfl)
   refine E3 ?_ (z := #[.int .u8 ((UInt8.ofNat i).toNat : Int), .int .u8 0]) (t := 5) (n := 2) (c := 2)
   intro j6n W5 q5f hO h_
   replace k_t2 := k_t2.o hO
   replace k_t4 := k_t4.o hO
   replace y6 := Sl.off y6 hO f0
   replace ow_s13 := Own.off ow_s13 hO f0
   replace off0 := off0.o hO
   have ow_s18 : Own W5 (.slice (some ⟨p18_5, 0, none⟩) 2 2) [UInt8.ofNat i, 0] := d8 h_ (by rfl) (by show 2 ≤ maxLen; decide)
   clear hO h_ q5f
   refine E3 ?_ (z := #[(.slice (some ⟨p13_4, 0, none⟩) 2 2), .slice (some ⟨p2_1, 0, none⟩) 32 32, v, (.slice (some ⟨p18_5, 0, none⟩) 2 2)]) (t := 23) (n := 4) (c := 4) (hr := by exact p7 [(.slice (some ⟨p13_4, 0, none⟩) 2 2), .slice (some ⟨p2_1, 0, none⟩) 32 32, v, (.slice (some ⟨p18_5, 0, none⟩) 2 2)] rfl rfl (vsc ((r9 ow_s13).1) (vsc (rfl) (vsc ((s9 y6).1) (vsc ((r9 ow_s18).1) vs0)))) Tryd.underlying112 (by kernel_rfl) (by kernel_rfl) rfl (by decide) (by decide))
   intro j6o W6 q5g hO h_
   replace k_t2 := k_t2.o hO
   replace k_t4 := k_t4.o hO
   replace y6 := Sl.off y6 hO f0
   replace ow_s13 := Own.off ow_s13 hO f0
   replace ow_s18 := Own.off ow_s18 hO f0
   replace off0 := off0.o hO
   have k_s19 := h_
   clear hO h_ q5g
   obtain ⟨U2, hU2⟩ := z8 (hs ([3, 1] ++ (lb 32 V) ++ L ++ [UInt8.ofNat i, 0]))
   have HU2 := Lib.hid hU2
   clear hU2
   refine Lr ?_ (F1 HU2.out [[3, 1], lb 32 V, L, [UInt8.ofNat i, 0]] (some ⟨p19_6, 0, none⟩) 4 (by simp only [List.flatten_cons, List.flatten_nil, List.append_nil, List.nil_append, List.append_assoc, List.cons_append]) (by first | omega | (simp only [List.length_append, List.length_cons, List.length_nil, g7]; omega)) (by simp) W6 (B1 k_s19 (pvc (ow_s13.sl) (pvc (d9 (V := V) (n := 32) (off := 0) k_t2 ap0 (by decide) (by decide)) (pvc y6 (pvc (ow_s18.sl) pv0))))) (y7 hG off0.ext).2.1)
   intro W7 hO
   replace k_t2 := k_t2.o hO
   replace k_t4 := k_t4.o hO
   replace y6 := Sl.off y6 hO f0
   replace off0 := off0.o hO
   clear hO
   refine LnA ?_ (z := q7 .u8 64 (j0 0)) (t := 30) (k := .u8) (n := 64) (f := j0 U2)
   intro q7c W9 u6 hO h_
   replace k_t2 := k_t2.o hO
   replace k_t4 := k_t4.o hO
   replace y6 := Sl.off y6 hO f0
   replace off0 := off0.o hO
   have k_t7 := h_
   clear hO h_ u6
   refine q5 ?_
   by_cases hdo : K0 (C0 V L i) = true
   ·
    have _f := hdo
    go_upto_region 5 with fail
    refine wp_region_lit ?_
    refine Lw ?_ (v := .slice (some ⟨p7_8, 0, none⟩) 32 64) (hv := by first | rfl | (go_simp; done) | (go_simp; with_reducible rfl))
    refine Lw ?_ (v := .pointer (some ⟨p7_8, 0, none⟩)) (hv := by first | rfl | (go_simp; done) | (go_simp; with_reducible rfl))
    refine z0 (vs := (q7 .u8 32 (j0 (lo U2))).toList) (by rfl) rfl rfl k_t7 (Y7 y4i) (by kernel_rfl) (by kernel_rfl) ?_
    (try simp only [Act.put, mA, mB, mC])
    have hcb9 : lo U2 = C0 V L i := by rw [HU2.out]; rfl
    obtain ⟨dx, dt, dr, dc⟩ := L1 (kn := kn) hc (q0j V L i) hdo
    obtain ⟨dy, hdy⟩ := z8 (C0 V L i % 2 ^ 255)
    rw [← hdy] at dr dc
    clear hdy
    refine Lr ?_ (q3u hcb9 (dc W9 (y7 hG off0.ext).1))
    intro W10 hO
    replace k_t2 := k_t2.o hO
    replace k_t4 := k_t4.o hO
    replace k_t7 := k_t7.o hO
    replace y6 := Sl.off y6 hO f0
    replace off0 := off0.o hO
    clear hO
    refine Lv ?_
    refine Lv ?_
    refine Lw ?_ (v := .int .i64 0)
    refine U0 ?_ (z := p4 0 0 0 0) (t := 60) (cells := p4 dx dy 1 dt)
    intro q3v W12 v6 hO h_
    have J6 := bn k_t2 v6
    have nq_t4_t8 := bn k_t4 v6
    have H3 := bn k_t7 v6
    have q0k := n8 (Sl.lt y6) v6
    have I8 := i3 off0 v6
    replace k_t2 := k_t2.o hO
    replace k_t4 := k_t4.o hO
    replace k_t7 := k_t7.o hO
    replace y6 := Sl.off y6 hO f0
    replace off0 := off0.o hO
    have k_t8 := h_
    clear hO h_ v6
    refine Lw ?_ (v := .int .i64 0)
    refine q5 ?_
    go_upto_region 7 with fail
    refine wp_region_lit ?_
    refine L0 ?_ k_t8
    obtain ⟨ex, ey, ez, et, er, ec⟩ := C7 (kn := kn) dr.rw
    refine Lr ?_ (ec W12 (y7 hG off0.ext).1)
    intro W13 hO
    replace k_t2 := k_t2.o hO
    replace k_t4 := k_t4.o hO
    replace k_t7 := k_t7.o hO
    replace k_t8 := k_t8.o hO
    replace y6 := Sl.off y6 hO f0
    replace off0 := off0.o hO
    clear hO
    refine Lp ?_ k_t8 (cells := p4 ex ey ez et)
    intro W14 hO h_
    replace k_t8 : Blk W14 q3v (p4 ex ey ez et) 60 := h_
    clear h_
    replace k_t2 := k_t2.p hO J6
    replace k_t4 := k_t4.p hO nq_t4_t8
    replace k_t7 := k_t7.p hO H3
    replace y6 := Sl.off y6 hO (f1 q0k)
    replace off0 := off0.p hO I8
    clear hO
    refine q5 ?_
    go_upto_region 8 with fail
    refine wp_region_lit ?_
    refine L0 ?_ k_t8
    refine Lw ?_ (v := .agg (p4 0 0 0 0)) (hv := by kernel_rfl)
    have cs_ := P7 (kn := kn) er.rw R1
    rw [show decide (pm (M6 (C0 V L i)) 8 = p0) = true from decide_eq_true (q8i hbad hdo)] at cs_
    refine Lr ?_ (cs_ W14 (y7 hG off0.ext).1)
    intro W15 hO
    replace k_t2 := k_t2.o hO
    replace k_t4 := k_t4.o hO
    replace k_t7 := k_t7.o hO
    replace y6 := Sl.off y6 hO f0
    replace off0 := off0.o hO
    clear hO
    refine Lw ?_ (v := .bool false)
    refine q5 ?_
    go_upto_region 10 with fail
    refine wp_region_lit ?_
    refine Lw ?_ (v := .int .i64 (((i + 1 : Nat) : Int))) (hv := by go_simp; (try simp only [IntKind.wrap_i64]); (try omega))
    refine Lv ?_
    refine q5 ?_
    go_wp2
    go_roundw
    case rel => exact ⟨i + 1, by omega, by go_num, off0, k_t2, k_t4, ow_a⟩
    case measure => simp [intOf]; omega
   ·
    have _f := hdo
    replace hdo : K0 (C0 V L i) = false := by simpa using hdo
    go_upto_region 5 with fail
    refine wp_region_lit ?_
    refine Lw ?_ (v := .slice (some ⟨p7_8, 0, none⟩) 32 64) (hv := by first | rfl | (go_simp; done) | (go_simp; with_reducible rfl))
    refine Lw ?_ (v := .pointer (some ⟨p7_8, 0, none⟩)) (hv := by first | rfl | (go_simp; done) | (go_simp; with_reducible rfl))
    refine z0 (vs := (q7 .u8 32 (j0 (lo U2))).toList) (by rfl) rfl rfl k_t7 (Y7 y4i) (by kernel_rfl) (by kernel_rfl) ?_
    (try simp only [Act.put, mA, mB, mC])
    have hcb9 : lo U2 = C0 V L i := by rw [HU2.out]; rfl
    refine Lr ?_ (q3u hcb9 (q3d (kn := kn) hc (q0j V L i) hdo W9 (y7 hG off0.ext).1))
    intro W10 hO
    replace k_t2 := k_t2.o hO
    replace k_t4 := k_t4.o hO
    replace y6 := Sl.off y6 hO f0
    replace off0 := off0.o hO
    clear hO
    refine Lv ?_
    refine Lv ?_
    refine Lw ?_ (v := .int .i64 15)
    refine U0 ?_ (z := p4 0 0 0 0) (t := 60) (cells := p4 0 0 0 0)
    intro q3v W12 v6 hO h_
    replace k_t2 := k_t2.o hO
    replace k_t4 := k_t4.o hO
    replace y6 := Sl.off y6 hO f0
    replace off0 := off0.o hO
    clear hO h_ v6
    refine Lw ?_ (v := .int .i64 15)
    refine q5 ?_
    go_upto_region 10 with fail
    refine wp_region_lit ?_
    refine Lw ?_ (v := .int .i64 (((i + 1 : Nat) : Int))) (hv := by go_simp; (try simp only [IntKind.wrap_i64]); (try omega))
    refine Lv ?_
    refine q5 ?_
    go_wp2
    go_roundw
    case rel => exact ⟨i + 1, by omega, by go_num, off0, k_t2, k_t4, ow_a⟩
    case measure => simp [intOf]; omega
theorem q9y (hc : kn.c) {V : Nat} {L : List UInt8} (hL : L.length ≤ 1099511627776) (hlow : ∀ i, i < 256 → r3 V L i = false) :
  ∀ v w, GA kn w → Sl w v L → Calls Tryd.prog 60 #[.agg (q7 .u8 32 (j0 V)), v] w fun e w' => h9 (.tuple #[.agg (p4 0 0 0 0), .int .i64 15]) w w' e := by
 intro v w hG hsl
 have y6 := hsl
 have off0 : Off [] w w := Off.refl _ _
 go_enter Tryd.func60, Tryd.ntmps60
 go_upto_region 0 with fail
 refine wp_region_lit ?_
 refine Ln ?_ (z := q7 .u8 32 (j0 V)) (t := 22)
 intro s7 W1 z7 hO h_
 replace y6 := Sl.off y6 hO f0
 replace off0 := off0.o hO
 have k_t2 := h_
 clear hO h_ z7
 refine Ln ?_ (z := p4 0 0 0 0) (t := 60)
 intro E9 W2 c9 hO h_
 have w6 := i3 off0 c9
 replace k_t2 := k_t2.o hO
 replace y6 := Sl.off y6 hO f0
 replace off0 := off0.o hO
 have k_t4 := h_
 clear hO h_ c9
 refine Lw ?_ (v := .int .i64 0)
 refine q5 ?_
 go_wp2_with fail
 go_loopw [10] (fun ii wr => ∃ (i : Nat), (i ≤ 256) ∧ (ii = .int .i64 (i : Int)) ∧ Off [] w wr ∧ Blk wr s7 (q7 .u8 32 (j0 V)) 22 ∧ Blk wr E9 (p4 0 0 0 0) 60 ∧ Sl wr v L)
  (fun ii _ => (256 - intOf ii).toNat)
 case atStart => exact ⟨0, Nat.zero_le _, rfl, off0, k_t2, k_t4, ow_a⟩
 case round =>
  obtain ⟨i, hi, rfl, off0, k_t2, k_t4, ow_a⟩ := hrel
  obtain ⟨W3, eW_⟩ := F7 off0
  subst eW_
  by_cases h256 : i < 256
  ·
   have _f := h256
   have hbad := hlow i h256
   go_upto_region 2 with fail
   refine wp_region_lit ?_
   refine Lw ?_ (v := .bool true) (hv := by exact q9v (i := i) (n := 256) (decide_eq_true h256) rfl rfl rfl)
   refine q5 ?_
   go_upto_region 4 with fail
   refine wp_region_lit ?_
   refine E3 ?_ (z := #[.int .u8 3, .int .u8 1]) (t := 5) (n := 2) (c := 2)
   intro j6m W4 q5e hO h_
   replace k_t2 := k_t2.o hO
   replace k_t4 := k_t4.o hO
   replace y6 := Sl.off y6 hO f0
   replace off0 := off0.o hO
   have ow_s13 : Own W4 (.slice (some ⟨p13_4, 0, none⟩) 2 2) [3, 1] := d8 h_ (by rfl) (by show 2 ≤ maxLen; decide)
   clear hO h_ q5e
   refine Lw ?_ (v := .slice (some ⟨p2_1, 0, none⟩) 32 32) (hv := by first | rfl | (go_simp; done) | (go_simp; with_reducible rfl))
   refine Lv ?_
   refine Lv ?_
   refine Lw ?_ (v := .int .u8 ((UInt8.ofNat i).toNat : Int)) (hv := by exact q9w rfl rfl)
   refine E3 ?_ (z := #[.int .u8 ((UInt8.ofNat i).toNat : Int), .int .u8 0]) (t := 5) (n := 2) (c := 2)
   intro j6n W5 q5f hO h_
   replace k_t2 := k_t2.o hO
   replace k_t4 := k_t4.o hO
   replace y6 := Sl.off y6 hO f0
   replace ow_s13 := Own.off ow_s13 hO f0
   replace off0 := off0.o hO
   have ow_s18 : Own W5 (.slice (some ⟨p18_5, 0, none⟩) 2 2) [UInt8.ofNat i, 0] := d8 h_ (by rfl) (by show 2 ≤ maxLen; decide)
   clear hO h_ q5f
   refine E3 ?_ (z := #[(.slice (some ⟨p13_4, 0, none⟩) 2 2), .slice (some ⟨p2_1, 0, none⟩) 32 32, v, (.slice (some ⟨p18_5, 0, none⟩) 2 2)]) (t := 23) (n := 4) (c := 4) (hr := by exact p7 [(.slice (some ⟨p13_4, 0, none⟩) 2 2), .slice (some ⟨p2_1, 0, none⟩) 32 32, v, (.slice (some ⟨p18_5, 0, none⟩) 2 2)] rfl rfl (vsc ((r9 ow_s13).1) (vsc (rfl) (vsc ((s9 y6).1) (vsc ((r9 ow_s18).1) vs0)))) Tryd.underlying112 (by kernel_rfl) (by kernel_rfl) rfl (by decide) (by decide))
   intro j6o W6 q5g hO h_
   replace k_t2 := k_t2.o hO
   replace k_t4 := k_t4.o hO
   replace y6 := Sl.off y6 hO f0
   replace ow_s13 := Own.off ow_s13 hO f0
   replace ow_s18 := Own.off ow_s18 hO f0
   replace off0 := off0.o hO
   have k_s19 := h_
   clear hO h_ q5g
   obtain ⟨U1, hU1⟩ := z8 (hs ([3, 1] ++ (lb 32 V) ++ L ++ [UInt8.ofNat i, 0]))
   have HU1 := Lib.hid hU1
   clear hU1
   refine Lr ?_ (F1 HU1.out [[3, 1], lb 32 V, L, [UInt8.ofNat i, 0]] (some ⟨p19_6, 0, none⟩) 4 (by simp only [List.flatten_cons, List.flatten_nil, List.append_nil, List.nil_append, List.append_assoc, List.cons_append]) (by first | omega | (simp only [List.length_append, List.length_cons, List.length_nil, g7]; omega)) (by simp) W6 (B1 k_s19 (pvc (ow_s13.sl) (pvc (d9 (V := V) (n := 32) (off := 0) k_t2 ap0 (by decide) (by decide)) (pvc y6 (pvc (ow_s18.sl) pv0))))) (y7 hG off0.ext).2.1)
   intro W7 hO
   replace k_t2 := k_t2.o hO
   replace k_t4 := k_t4.o hO
   replace y6 := Sl.off y6 hO f0
   replace off0 := off0.o hO
   clear hO
   refine LnA ?_ (z := q7 .u8 64 (j0 0)) (t := 30) (k := .u8) (n := 64) (f := j0 U1)
   intro q7c W9 u6 hO h_
   replace k_t2 := k_t2.o hO
   replace k_t4 := k_t4.o hO
   replace y6 := Sl.off y6 hO f0
   replace off0 := off0.o hO
   have k_t7 := h_
   clear hO h_ u6
   refine q5 ?_
   by_cases hdo : K0 (C0 V L i) = true
   ·
    have _f := hdo
    go_upto_region 5 with fail
    refine wp_region_lit ?_
    refine Lw ?_ (v := .slice (some ⟨p7_8, 0, none⟩) 32 64) (hv := by first | rfl | (go_simp; done) | (go_simp; with_reducible rfl))
    refine Lw ?_ (v := .pointer (some ⟨p7_8, 0, none⟩)) (hv := by first | rfl | (go_simp; done) | (go_simp; with_reducible rfl))
    refine z0 (vs := (q7 .u8 32 (j0 (lo U1))).toList) (by rfl) rfl rfl k_t7 (Y7 y4i) (by kernel_rfl) (by kernel_rfl) ?_
    (try simp only [Act.put, mA, mB, mC])
    have hcb9 : lo U1 = C0 V L i := by rw [HU1.out]; rfl
    obtain ⟨dx, dt, dr, dc⟩ := L1 (kn := kn) hc (q0j V L i) hdo
    obtain ⟨dy, hdy⟩ := z8 (C0 V L i % 2 ^ 255)
    rw [← hdy] at dr dc
    clear hdy
    refine Lr ?_ (q3u hcb9 (dc W9 (y7 hG off0.ext).1))
    intro W10 hO
    replace k_t2 := k_t2.o hO
    replace k_t4 := k_t4.o hO
    replace k_t7 := k_t7.o hO
    replace y6 := Sl.off y6 hO f0
    replace off0 := off0.o hO
    clear hO
    refine Lv ?_
    refine Lv ?_
    refine Lw ?_ (v := .int .i64 0)
    refine U0 ?_ (z := p4 0 0 0 0) (t := 60) (cells := p4 dx dy 1 dt)
    intro q3v W12 v6 hO h_
    have J6 := bn k_t2 v6
    have nq_t4_t8 := bn k_t4 v6
    have H3 := bn k_t7 v6
    have q0k := n8 (Sl.lt y6) v6
    have I8 := i3 off0 v6
    replace k_t2 := k_t2.o hO
    replace k_t4 := k_t4.o hO
    replace k_t7 := k_t7.o hO
    replace y6 := Sl.off y6 hO f0
    replace off0 := off0.o hO
    have k_t8 := h_
    clear hO h_ v6
    refine Lw ?_ (v := .int .i64 0)
    refine q5 ?_
    go_upto_region 7 with fail
    refine wp_region_lit ?_
    refine L0 ?_ k_t8
    obtain ⟨ex, ey, ez, et, er, ec⟩ := C7 (kn := kn) dr.rw
    refine Lr ?_ (ec W12 (y7 hG off0.ext).1)
    intro W13 hO
    replace k_t2 := k_t2.o hO
    replace k_t4 := k_t4.o hO
    replace k_t7 := k_t7.o hO
    replace k_t8 := k_t8.o hO
    replace y6 := Sl.off y6 hO f0
    replace off0 := off0.o hO
    clear hO
    refine Lp ?_ k_t8 (cells := p4 ex ey ez et)
    intro W14 hO h_
    replace k_t8 : Blk W14 q3v (p4 ex ey ez et) 60 := h_
    clear h_
    replace k_t2 := k_t2.p hO J6
    replace k_t4 := k_t4.p hO nq_t4_t8
    replace k_t7 := k_t7.p hO H3
    replace y6 := Sl.off y6 hO (f1 q0k)
    replace off0 := off0.p hO I8
    clear hO
    refine q5 ?_
    go_upto_region 8 with fail
    refine wp_region_lit ?_
    refine L0 ?_ k_t8
    refine Lw ?_ (v := .agg (p4 0 0 0 0)) (hv := by kernel_rfl)
    have cs_ := P7 (kn := kn) er.rw R1
    rw [show decide (pm (M6 (C0 V L i)) 8 = p0) = true from decide_eq_true (q8i hbad hdo)] at cs_
    refine Lr ?_ (cs_ W14 (y7 hG off0.ext).1)
    intro W15 hO
    replace k_t2 := k_t2.o hO
    replace k_t4 := k_t4.o hO
    replace k_t7 := k_t7.o hO
    replace y6 := Sl.off y6 hO f0
    replace off0 := off0.o hO
    clear hO
    refine Lw ?_ (v := .bool false)
    refine q5 ?_
    go_upto_region 10 with fail
    refine wp_region_lit ?_
    refine Lw ?_ (v := .int .i64 (((i + 1 : Nat) : Int))) (hv := by go_simp; (try simp only [IntKind.wrap_i64]); (try omega))
    refine Lv ?_
    refine q5 ?_
    go_wp2
    go_roundw
    case rel => exact ⟨i + 1, by omega, by go_num, off0, k_t2, k_t4, ow_a⟩
    case measure => simp [intOf]; omega
   ·
    have _f := hdo
    replace hdo : K0 (C0 V L i) = false := by simpa using hdo
    go_upto_region 5 with fail
    refine wp_region_lit ?_
    refine Lw ?_ (v := .slice (some ⟨p7_8, 0, none⟩) 32 64) (hv := by first | rfl | (go_simp; done) | (go_simp; with_reducible rfl))
    refine Lw ?_ (v := .pointer (some ⟨p7_8, 0, none⟩)) (hv := by first | rfl | (go_simp; done) | (go_simp; with_reducible rfl))
    refine z0 (vs := (q7 .u8 32 (j0 (lo U1))).toList) (by rfl) rfl rfl k_t7 (Y7 y4i) (by kernel_rfl) (by kernel_rfl) ?_
    (try simp only [Act.put, mA, mB, mC])
    have hcb9 : lo U1 = C0 V L i := by rw [HU1.out]; rfl
    refine Lr ?_ (q3u hcb9 (q3d (kn := kn) hc (q0j V L i) hdo W9 (y7 hG off0.ext).1))
    intro W10 hO
    replace k_t2 := k_t2.o hO
    replace k_t4 := k_t4.o hO
    replace y6 := Sl.off y6 hO f0
    replace off0 := off0.o hO
    clear hO
    refine Lv ?_
    refine Lv ?_
    refine Lw ?_ (v := .int .i64 15)
    refine U0 ?_ (z := p4 0 0 0 0) (t := 60) (cells := p4 0 0 0 0)
    intro q3v W12 v6 hO h_
    replace k_t2 := k_t2.o hO
    replace k_t4 := k_t4.o hO
    replace y6 := Sl.off y6 hO f0
    replace off0 := off0.o hO
    clear hO h_ v6
    refine Lw ?_ (v := .int .i64 15)
    refine q5 ?_
    go_upto_region 10 with fail
    refine wp_region_lit ?_
    refine Lw ?_ (v := .int .i64 (((i + 1 : Nat) : Int))) (hv := by go_simp; (try simp only [IntKind.wrap_i64]); (try omega))
    refine Lv ?_
    refine q5 ?_
    go_wp2
    go_roundw
    case rel => exact ⟨i + 1, by omega, by go_num, off0, k_t2, k_t4, ow_a⟩
    case measure => simp [intOf]; omega
  ·
   have _f := h256
   go_upto_region 2 with fail
   refine wp_region_lit ?_
   refine Lw ?_ (v := .bool false) (hv := by exact q9v (i := i) (n := 256) (decide_eq_false h256) rfl rfl rfl)
   refine q5 ?_
   go_upto_region 11 with fail
   refine wp_region_lit ?_
   refine Lw ?_ (v := .agg (p4 0 0 0 0)) (hv := by kernel_rfl)
   refine Lp ?_ k_t4 (cells := p4 0 0 0 0)
   intro W4 hO h_
   replace k_t4 : Blk W4 E9 (p4 0 0 0 0) 60 := h_
   clear h_
   replace off0 := off0.p hO w6
   clear hO
   refine Lw ?_ (v := .int .i64 15)
   refine q5 ?_
   go_wp2
   exact bodyPost_ret (u5 rfl rfl rfl k_t4 (by kernel_rfl) (by kernel_rfl)) rfl ⟨rfl, off0.ext⟩
end Go.Proofs.YtefpoollmbmkfaaDoor

namespace Go.Proofs.YtefpoollmbmkfaaDoor
set_option maxHeartbeats 2000000
set_option maxRecDepth 100000
open Go.RowKit
attribute [local irreducible] wpList
variable {kn : Kn}
open Sc (LL i6)
attribute [local irreducible] hs
def q4 (a b c d : Array Value) : Array Value := a ++ b ++ c ++ d
section
variable {X1 Y1 Z1 T1 X2 Y2 Z2 T2 X3 Y3 Z3 T3 X4 Y4 Z4 T4 : Nat}
theorem y4s {X Y Z T : Nat} : (p4 X Y Z T).size = 16 := rfl
theorem g6z : ∀ i v, (p4 X1 Y1 Z1 T1)[i]? = some v → (q4 (p4 X1 Y1 Z1 T1) (p4 X2 Y2 Z2 T2) (p4 X3 Y3 Z3 T3) (p4 X4 Y4 Z4 T4))[0 + i]? = some v := fun i v h => by rw [Nat.zero_add]; exact H5 (H5 (H5 h))
theorem g7a : ∀ i v, (p4 X2 Y2 Z2 T2)[i]? = some v → (q4 (p4 X1 Y1 Z1 T1) (p4 X2 Y2 Z2 T2) (p4 X3 Y3 Z3 T3) (p4 X4 Y4 Z4 T4))[16 + i]? = some v := fun i v h => H5 (H5 (q1p y4s h))
theorem g7b : ∀ i v, (p4 X3 Y3 Z3 T3)[i]? = some v → (q4 (p4 X1 Y1 Z1 T1) (p4 X2 Y2 Z2 T2) (p4 X3 Y3 Z3 T3) (p4 X4 Y4 Z4 T4))[32 + i]? = some v := fun i v h => H5 (q1p (by rw [Array.size_append, y4s, y4s]) h)
theorem g7c : ∀ i v, (p4 X4 Y4 Z4 T4)[i]? = some v → (q4 (p4 X1 Y1 Z1 T1) (p4 X2 Y2 Z2 T2) (p4 X3 Y3 Z3 T3) (p4 X4 Y4 Z4 T4))[48 + i]? = some v := fun i v h => q1p (by rw [Array.size_append, Array.size_append, y4s, y4s, y4s]) h
end
theorem j0c {e n : Nat} {F : List Nat} (h : Fb e n F) : Fr (some e) n F := fun x hx hlt => by have := Option.some.inj hx; subst this; exact h hlt
theorem j0d {e b : Nat} (h : b ≠ e) : some e ≠ some b := fun k => h (Option.some.inj k).symm
theorem j4l {w : World} {v : Value} {t : TypeId} {vs : List Value} {ps : List (List UInt8)} (h : Row t 1 w v (vs.map fun x => [x])) (hn : ps.length = vs.length) (hv : ∀ (i : Nat) (l : List UInt8), ps[i]? = some l → ∃ u, vs[i]? = some u ∧ Sl w u l) (h0 : 0 < vs.length) :
    ∃ A c, v = .slice A ps.length c ∧ ∀ (i : Nat) (l : List UInt8), ps[i]? = some l → ∃ ad u, A = some ad ∧ w.cell? (ad.add i) = some u ∧ Sl w u l := by
  have h1 : (vs.map fun x => [x])[0]? = some [vs[0]] := by rw [List.getElem?_map, List.getElem?_eq_getElem h0]; rfl
  obtain ⟨g, c, hv0, _⟩ := h.at h1
  rw [List.length_map, ← hn] at hv0
  refine ⟨_, c, hv0, fun i l hi => ?_⟩
  obtain ⟨u, hu, hs⟩ := hv i l hi
  have h2 : (vs.map fun x => [x])[i]? = some [u] := by rw [List.getElem?_map, hu]; rfl
  obtain ⟨g', c', hv', hc⟩ := h.at h2
  rw [List.length_map, ← hn, hv0] at hv'
  injection hv' with e1 _ _
  injection e1 with e1
  injection e1 with e1 _ _
  subst e1
  have := hc 0 u rfl
  rw [Nat.mul_one, Nat.add_zero] at this
  exact ⟨_, u, rfl, by rw [Addr.add_mid, Nat.zero_add]; exact this, hs⟩
theorem y4t {ops : Array Oper} {Q : Exit → Act → World → Prop} {w : World} {r : List Oper} {o : Oper} {a : Act} {x y : Operand} {v : Value} {l : List UInt8} {g : Nat} {cur : Array Value} {t : TypeId} {n c : Nat} (hs : Sl w v l) (hB : Blk w g cur t) (hcur : cur.size = n) (hn : l.length ≤ n) (hp : 0 < l.length) (hw : Region.wanted o (yielded ops a.tmps) = true)
    (ho : o.op = .call { callee := .builtin .copy, args := #[x, y], argTypes := #[23, 23] }) (hx : a.eval x = .slice (some ⟨g, 0, none⟩) n c) (hy : a.eval y = v)
    (h : ∀ W, Off [g] w W → Blk W g (D5 l ++ cur.toList.drop l.length).toArray t → wpList Tryd.prog ops Q r (a.put o.dst (goInt l.length)) W) : wpList Tryd.prog ops Q (o :: r) a w := by
  obtain ⟨A, cc, rfl, h1, h2, h0, h3⟩ := hs
  obtain ⟨ad, rfl, _⟩ := h3 0 l[0] (List.getElem?_eq_getElem hp)
  have hrun := run_copy_row (P := Tryd.prog) w 23 23 o.type 5 g 0 n c ad l.length cc cur t (D5 l) Tryd.underlying23 q2l hB (by rw [f9]; exact (Nat.min_eq_left hn).symm) (fun j u hj => by
    simp only [D5, List.getElem?_map, Option.map_eq_some_iff] at hj
    obtain ⟨z, hz, rfl⟩ := hj
    obtain ⟨ad', e, hc⟩ := h3 j z hz
    obtain rfl := Option.some.inj e
    exact hc) (by rw [f9]; omega) (q6q l)
  have e : (cur.toList.take 0 ++ D5 l ++ cur.toList.drop (0 + (D5 l).length)) = D5 l ++ cur.toList.drop l.length := by
    rw [List.take_zero, List.nil_append, Nat.zero_add, f9]
  rw [e] at hrun
  have h4 : Blk (w.setRow g (D5 l ++ cur.toList.drop l.length).toArray) g (D5 l ++ cur.toList.drop l.length).toArray t := x4 hB _
  refine q0c hw (v := goInt l.length) (W := w.setRow g (D5 l ++ cur.toList.drop l.length).toArray) ?_ (h _ ⟨rfl, rfl, rfl, by simp, fun k _ hk => setRow_other w g k _ (by simpa using hk)⟩ h4)
  unfold execOp
  simp only [ho, resolve, invoke, builtin, Sem.run_bind, Sem.run_pure, Result.andThen_ok, List.map_toArray, List.map_cons, List.map_nil, hx, hy, hrun, f9]
theorem q9z {l : List UInt8} (hl : l.length = 16) : (D5 l ++ (q7 .u8 32 (j0 0)).toList.drop l.length).toArray = q7 .u8 32 (j0 (le l)) := by
  have h1 := y7l l
  rw [hl] at h1 ⊢
  have e : le l / 2 ^ (8 * 16) = 0 := Nat.div_eq_of_lt h1
  have hR : (q7 .u8 32 (j0 (le l))).toList = D5 l ++ D5 (lb 16 0) := by rw [A0, ← q9i, show lb 32 (le l) = lb 16 (le l) ++ lb 16 (le l / 2 ^ (8 * 16)) from q9u 16 16 _, e, y9q hl, T6]
  apply Array.ext'
  rw [hR]
  show D5 l ++ _ = _
  congr 1

theorem g0j (v : Value) (l : List UInt8) (hl : l.length = 16) (w : World) (hsl : Sl w v l) :
  Calls Tryd.prog 66 #[v] w fun e w' => h9 (.agg (q7 .u8 32 (j0 (le l)))) w w' e := by
 have y6 := hsl
 have off0 : Off [] w w := Off.refl _ _
 go_enter Tryd.func66, Tryd.ntmps66
 go_upto_region 0 with fail
 refine wp_region_lit ?_
 refine Ln ?_ (z := q7 .u8 32 (j0 0)) (t := 22)
 intro s7 W1 z7 hO h_
 have u9 := i3 off0 z7
 replace y6 := Sl.off y6 hO f0
 replace off0 := off0.o hO
 have k_t2 := h_
 clear hO h_ z7
 refine q5 ?_
 go_upto_region 1 with fail
 refine wp_region_lit ?_
 refine Ln ?_ (z := q7 .u8 32 (j0 0)) (t := 22)
 intro q0r W2 d7 hO h_
 have nq_t2_t3 := bn k_t2 d7
 have G5 := i3 off0 d7
 replace k_t2 := k_t2.o hO
 replace y6 := Sl.off y6 hO f0
 replace off0 := off0.o hO
 have k_t3 := h_
 clear hO h_ d7
 refine q5 ?_
 go_upto_region 2 with fail
 refine wp_region_lit ?_
 refine Lw ?_ (v := .slice (some ⟨p3_2, 0, none⟩) 32 32) (hv := by first | rfl | (go_simp; done) | (go_simp; with_reducible rfl))
 refine Lv ?_
 refine y4t y6 k_t3 (by rw [y5]) (by omega) (by omega) (by rfl) rfl rfl rfl ?_
 (try simp only [Act.put, mA, mB, mC])
 intro W3 hO h_
 rw [q9z hl] at h_
 replace k_t3 : Blk W3 q0r (q7 .u8 32 (j0 (le l))) 22 := h_
 clear h_
 replace k_t2 := k_t2.p hO nq_t2_t3
 replace off0 := off0.p hO G5
 clear hO
 refine q5 ?_
 go_upto_region 3 with fail
 refine wp_region_lit ?_
 refine M0 ?_ k_t3
 refine LpA ?_ k_t2 (k := .u8) (n := 32) (f := j0 (le l))
 intro W4 hO h_
 replace k_t2 : Blk W4 s7 (q7 .u8 32 (j0 (le l))) 22 := h_
 clear h_
 replace off0 := off0.p hO u9
 clear hO
 refine q5 ?_
 go_wp2
 exact bodyPost_ret (k9 rfl rfl k_t2 (by kernel_rfl) (by rw [y5]; kernel_rfl)) rfl ⟨rfl, off0.ext⟩
theorem y0a {V X : Nat} {X1 Y1 Z1 T1 : Nat} {a1 : Pr} (h1 : RN X1 Y1 Z1 T1 a1) {X2 Y2 Z2 T2 : Nat} {a2 : Pr} (h2 : RN X2 Y2 Z2 T2 a2) {X3 Y3 Z3 T3 : Nat} {a3 : Pr} (h3 : RN X3 Y3 Z3 T3 a3) {X4 Y4 Z4 T4 : Nat} {a4 : Pr} (h4 : RN X4 Y4 Z4 T4 a4) (hX : X = chH V a1 a2 a3 a4) :
  ∀ gP w, GA kn w → Blk w gP (q4 (p4 X1 Y1 Z1 T1) (p4 X2 Y2 Z2 T2) (p4 X3 Y3 Z3 T3) (p4 X4 Y4 Z4 T4)) 60 → Calls Tryd.prog 61 #[.agg (q7 .u8 32 (j0 V)), .slice (some ⟨gP, 0, none⟩) 4 4] w fun e w' => ∃ p, e = .returned (.slice (some ⟨p, 0, none⟩) 16 64) ∧ w.heap.size ≤ p ∧ Off [] w w' ∧ Blk w' p (q7 .u8 64 (j0 X)) 30 := by
 obtain ⟨U1, hU1⟩ := z8 (r4 a1)
 have bU1 : U1 < 2 ^ 256 := by rw [hU1]; exact B9 _
 have HU1 := Lib.hid hU1
 clear hU1
 obtain ⟨U2, hU2⟩ := z8 (r4 a2)
 have bU2 : U2 < 2 ^ 256 := by rw [hU2]; exact B9 _
 have HU2 := Lib.hid hU2
 clear hU2
 obtain ⟨U3, hU3⟩ := z8 (r4 a3)
 have bU3 : U3 < 2 ^ 256 := by rw [hU3]; exact B9 _
 have HU3 := Lib.hid hU3
 clear hU3
 obtain ⟨U4, hU4⟩ := z8 (r4 a4)
 have bU4 : U4 < 2 ^ 256 := by rw [hU4]; exact B9 _
 have HU4 := Lib.hid hU4
 clear hU4
 obtain ⟨U5, hU5⟩ := z8 (hs ([3, 2] ++ (lb 32 V) ++ (lb 32 U1) ++ (lb 32 U2) ++ (lb 32 U3) ++ (lb 32 U4) ++ [0]))
 have HU5 := Lib.hid hU5
 clear hU5
 intro gP w hG hP
 have k_pp := hP
 have off0 : Off [] w w := Off.refl _ _
 go_enter Tryd.func61, Tryd.ntmps61
 go_upto_region 0 with fail
 refine wp_region_lit ?_
 refine Ln ?_ (z := q7 .u8 32 (j0 V)) (t := 22)
 intro s7 W1 z7 hO h_
 replace k_pp := k_pp.o hO
 replace off0 := off0.o hO
 have k_t2 := h_
 clear hO h_ z7
 refine Lv ?_
 refine q5 ?_
 go_upto_region 1 with fail
 refine wp_region_lit ?_
 refine E3 ?_ (z := #[.int .u8 3, .int .u8 2]) (t := 5) (n := 2) (c := 2)
 intro g9d W2 g4k hO h_
 replace k_pp := k_pp.o hO
 replace k_t2 := k_t2.o hO
 replace off0 := off0.o hO
 have ow_s10 : Own W2 (.slice (some ⟨p10_2, 0, none⟩) 2 2) [3, 2] := d8 h_ (by rfl) (by show 2 ≤ maxLen; decide)
 clear hO h_ g4k
 refine Lw ?_ (v := .slice (some ⟨p2_1, 0, none⟩) 32 32)
 have k7 : Sl W2 (.slice (some ⟨p2_1, 0, none⟩) 32 32) (lb 32 V) := (d9 (V := V) (n := 32) (off := 0) k_t2 ap0 (by decide) (by decide))
 refine E3 ?_ (z := #[(.slice (some ⟨p10_2, 0, none⟩) 2 2), (.slice (some ⟨p2_1, 0, none⟩) 32 32)]) (t := 23) (n := 2) (c := 2) (hr := by exact p7 [(.slice (some ⟨p10_2, 0, none⟩) 2 2), (.slice (some ⟨p2_1, 0, none⟩) 32 32)] rfl rfl (vsc ((r9 ow_s10).1) (vsc ((s9 k7).1) vs0)) Tryd.underlying112 (by kernel_rfl) (by kernel_rfl) rfl (by decide) (by decide))
 intro g4l W3 q0l hO h_
 have q5h := bn k_pp q0l
 have q3w := n8 (Own.lt ow_s10) q0l
 have q5i := n8 (Sl.lt k7) q0l
 have j0e := i3 off0 q0l
 replace k_pp := k_pp.o hO
 replace ow_s10 := Own.off ow_s10 hO f0
 replace k7 := Sl.off k7 hO f0
 replace off0 := off0.o hO
 have j6p := h_
 clear hO h_ q0l
 have b7 : Row 23 1 W3 (.slice (some ⟨p12_3, 0, none⟩) 2 2) ([(.slice (some ⟨p10_2, 0, none⟩) 2 2), (.slice (some ⟨p2_1, 0, none⟩) 32 32)].map fun x => [x]) := j3a j6p (es := [(.slice (some ⟨p10_2, 0, none⟩) 2 2), (.slice (some ⟨p2_1, 0, none⟩) 32 32)].map fun x => [x]) rfl (by simp) (by show 2 ≤ maxLen; decide)
 have q1g : Fr (Value.ownBlock (.slice (some ⟨p12_3, 0, none⟩) 2 2)) w.heap.size [] := j0c j0e
 have F3 : Value.ownBlock (.slice (some ⟨p12_3, 0, none⟩) 2 2) ≠ some gP := j0d q5h
 have q8j : ∀ x, (Value.ownBlock (.slice (some ⟨p10_2, 0, none⟩) 2 2)) = some x → Value.ownBlock (.slice (some ⟨p12_3, 0, none⟩) 2 2) ≠ some x := fun x h1 h2 => q3w (h1.trans h2.symm)
 have y2p : ∀ x, (sb (.slice (some ⟨p2_1, 0, none⟩) 32 32) (lb 32 V)) = some x → Value.ownBlock (.slice (some ⟨p12_3, 0, none⟩) 2 2) ≠ some x := fun x h1 h2 => q5i (h1.trans h2.symm)
 clear j6p j0e q5h q3w q5i
 refine Lv ?_
 refine q5 ?_
 go_upto_region 2 with fail
 refine wp_region_lit ?_
 refine Lv ?_
 refine Lw ?_ (v := .int .i64 4)
 refine Lw ?_ (v := .int .i64 0)
 refine q5 ?_
 go_wp2_with fail
 refine wp_loop_rounds 5 ?_
 rw [rounds_succ]
 go_upto_region 4 with fail
 refine wp_region_lit ?_
 refine Lw ?_ (v := .pointer (some ⟨gP, 0, none⟩)) (hv := by exact (q2n (ad := ⟨gP, 0, none⟩) (j := 0) (k := 16) (n := 4) (c := 4) (by decide) rfl rfl rfl Tryd.underlying135 (by kernel_rfl)).trans (by rw [Addr.add_mid]))
 refine z0 (vs := (p4 X1 Y1 Z1 T1).toList) (by rfl) rfl rfl k_pp (Y7 g6z) (by kernel_rfl) (by kernel_rfl) ?_
 (try simp only [Act.put, mA, mB, mC])
 refine U0 ?_ (z := p4 0 0 0 0) (t := 60) (cells := p4 X1 Y1 Z1 T1)
 intro g9w W5 u6 hO h_
 have Y5 := n8 (Row.lt b7) u6
 replace k_pp := k_pp.o hO
 replace ow_s10 := Own.off ow_s10 hO f0
 replace k7 := Sl.off k7 hO f0
 replace b7 := Row.off b7 hO f0
 replace off0 := off0.o hO
 have k_t7 := h_
 clear hO h_ u6
 refine q5 ?_
 go_upto_region 5 with fail
 refine wp_region_lit ?_
 refine L0 ?_ k_t7
 refine Lr ?_ (O1 h1.rw HU1.out W5 (y7 hG off0.ext).1)
 intro W6 hO
 replace k_pp := k_pp.o hO
 replace k_t7 := k_t7.o hO
 replace ow_s10 := Own.off ow_s10 hO f0
 replace k7 := Sl.off k7 hO f0
 replace b7 := Row.off b7 hO f0
 replace off0 := off0.o hO
 clear hO
 refine LnA ?_ (z := q7 .u8 32 (j0 0)) (t := 22) (k := .u8) (n := 32) (f := j0 U1)
 intro g9x W8 v6 hO h_
 have i8 := n8 (Row.lt b7) v6
 replace k_pp := k_pp.o hO
 replace k_t7 := k_t7.o hO
 replace ow_s10 := Own.off ow_s10 hO f0
 replace k7 := Sl.off k7 hO f0
 replace b7 := Row.off b7 hO f0
 replace off0 := off0.o hO
 have k_t8 := h_
 clear hO h_ v6
 refine q5 ?_
 go_upto_region 6 with fail
 refine wp_region_lit ?_
 refine Lv ?_
 refine Lw ?_ (v := .slice (some ⟨p8_7, 0, none⟩) 32 32)
 have v9 : Sl W8 (.slice (some ⟨p8_7, 0, none⟩) 32 32) (lb 32 U1) := (d9 (V := U1) (n := 32) (off := 0) k_t8 ap0 (by decide) (by decide))
 have p8 : ∀ x, (Value.ownBlock (.slice (some ⟨p12_3, 0, none⟩) 2 2)) = some x → sb (.slice (some ⟨p8_7, 0, none⟩) 32 32) (lb 32 U1) ≠ some x := q6r i8
 refine E3 ?_ (z := #[(.slice (some ⟨p8_7, 0, none⟩) 32 32)]) (t := 23) (n := 1) (c := 1) (hr := by exact p7 [(.slice (some ⟨p8_7, 0, none⟩) 32 32)] rfl rfl (vsc ((s9 v9).1) vs0) Tryd.underlying112 (by kernel_rfl) (by kernel_rfl) rfl (by decide) (by decide))
 intro g9e W9 F8 hO h_
 have s6 := n8 (Row.lt b7) F8
 replace k_pp := k_pp.o hO
 replace k_t7 := k_t7.o hO
 replace k_t8 := k_t8.o hO
 replace ow_s10 := Own.off ow_s10 hO f0
 replace k7 := Sl.off k7 hO f0
 replace b7 := Row.off b7 hO f0
 replace v9 := Sl.off v9 hO f0
 replace off0 := off0.o hO
 have Q8 := h_
 clear hO h_ F8
 refine V0 (es := ([(.slice (some ⟨p10_2, 0, none⟩) 2 2), (.slice (some ⟨p2_1, 0, none⟩) 32 32)].map fun x => [x])) (cs := #[(.slice (some ⟨p8_7, 0, none⟩) 32 32)]) (bytes := 24) (by rfl) rfl rfl rfl b7 Q8 rfl (y8h (s9 v9).2) (by first | decide | (show 0 < 1; decide)) Tryd.underlying112 (by kernel_rfl) (by first | omega | (simp only [List.length_append, List.length_cons, List.length_nil, g7]; omega) | (simp; done)) (by unfold maxLen; first | omega | (simp only [List.length_append, List.length_cons, List.length_nil, g7]; omega) | (simp; done)) ?_
 (try simp only [Act.put, mA, mB, mC])
 intro y0b W10 a7 hO v5
 replace a7 : Row 23 1 W10 y0b (([(.slice (some ⟨p10_2, 0, none⟩) 2 2), (.slice (some ⟨p2_1, 0, none⟩) 32 32)].map fun x => [x]) ++ [[(.slice (some ⟨p8_7, 0, none⟩) 32 32)]]) := a7
 have q1h := f8 v5 F3 (y4 k_pp)
 have q1i := f8 v5 Y5 (y4 k_t7)
 have A2 := f8 v5 i8 (y4 k_t8)
 have T8 := f8 v5 s6 (y4 Q8)
 have Y8 := i5 v5 (q2k q8j) (Own.lt ow_s10)
 have Z6 := i5 v5 (q2k y2p) (Sl.lt k7)
 have Z7 := i5 v5 p8 (Sl.lt v9)
 have T9 := t7 v5 q1g off0.size
 replace k_pp := z6 k_pp hO (R5 F3)
 replace k_t7 := z6 k_t7 hO (R5 Y5)
 replace k_t8 := z6 k_t8 hO (R5 i8)
 replace Q8 := z6 Q8 hO (R5 s6)
 replace ow_s10 := Own.off ow_s10 hO (fo (q2k q8j))
 replace k7 := Sl.off k7 hO (fo (q2k y2p))
 replace v9 := Sl.off v9 hO (fo p8)
 replace off0 := off0.step hO (io q1g)
 clear hO v5
 replace a7 : Row 23 1 W10 y0b ([(.slice (some ⟨p10_2, 0, none⟩) 2 2), (.slice (some ⟨p2_1, 0, none⟩) 32 32), (.slice (some ⟨p8_7, 0, none⟩) 32 32)].map fun x => [x]) := a7
 have b7 := a7
 clear a7
 have q1g := T9
 have F3 := q1h
 have Y5 := q1i
 have i8 := A2
 have s6 := T8
 have Q9 := Y8
 have K2 := Z6
 have p8 := Z7
 clear Q8 s6
 refine Lv ?_
 refine q5 ?_
 go_wp2_with fail
 rw [rounds_succ]
 go_upto_region 4 with fail
 refine wp_region_lit ?_
 refine Lw ?_ (v := .pointer (some ⟨gP, 16, none⟩)) (hv := by exact (q2n (ad := ⟨gP, 0, none⟩) (j := 1) (k := 16) (n := 4) (c := 4) (by decide) rfl rfl rfl Tryd.underlying135 (by kernel_rfl)).trans (by rw [Addr.add_mid]))
 refine z0 (vs := (p4 X2 Y2 Z2 T2).toList) (by rfl) rfl rfl k_pp (Y7 g7a) (by kernel_rfl) (by kernel_rfl) ?_
 (try simp only [Act.put, mA, mB, mC])
 clear k_t7 Y5
 refine U0 ?_ (z := p4 0 0 0 0) (t := 60) (cells := p4 X2 Y2 Z2 T2)
 intro w7 W12 u6 hO h_
 have Y5 := n8 (Row.lt b7) u6
 replace k_pp := k_pp.o hO
 replace k_t8 := k_t8.o hO
 replace ow_s10 := Own.off ow_s10 hO f0
 replace k7 := Sl.off k7 hO f0
 replace v9 := Sl.off v9 hO f0
 replace b7 := Row.off b7 hO f0
 replace off0 := off0.o hO
 have k_t7 := h_
 clear hO h_ u6
 refine q5 ?_
 go_upto_region 5 with fail
 refine wp_region_lit ?_
 refine L0 ?_ k_t7
 refine Lr ?_ (O1 h2.rw HU2.out W12 (y7 hG off0.ext).1)
 intro W13 hO
 replace k_pp := k_pp.o hO
 replace k_t8 := k_t8.o hO
 replace k_t7 := k_t7.o hO
 replace ow_s10 := Own.off ow_s10 hO f0
 replace k7 := Sl.off k7 hO f0
 replace v9 := Sl.off v9 hO f0
 replace b7 := Row.off b7 hO f0
 replace off0 := off0.o hO
 clear hO
 clear k_t8 i8
 refine LnA ?_ (z := q7 .u8 32 (j0 0)) (t := 22) (k := .u8) (n := 32) (f := j0 U2)
 intro g9f W15 v6 hO h_
 have i8 := n8 (Row.lt b7) v6
 replace k_pp := k_pp.o hO
 replace k_t7 := k_t7.o hO
 replace ow_s10 := Own.off ow_s10 hO f0
 replace k7 := Sl.off k7 hO f0
 replace v9 := Sl.off v9 hO f0
 replace b7 := Row.off b7 hO f0
 replace off0 := off0.o hO
 have k_t8 := h_
 clear hO h_ v6
 refine q5 ?_
 go_upto_region 6 with fail
 refine wp_region_lit ?_
 refine Lv ?_
 refine Lw ?_ (v := .slice (some ⟨p8_14, 0, none⟩) 32 32)
 have a8 : Sl W15 (.slice (some ⟨p8_14, 0, none⟩) 32 32) (lb 32 U2) := (d9 (V := U2) (n := 32) (off := 0) k_t8 ap0 (by decide) (by decide))
 have K3 : ∀ x, (Value.ownBlock y0b) = some x → sb (.slice (some ⟨p8_14, 0, none⟩) 32 32) (lb 32 U2) ≠ some x := q6r i8
 refine E3 ?_ (z := #[(.slice (some ⟨p8_14, 0, none⟩) 32 32)]) (t := 23) (n := 1) (c := 1) (hr := by exact p7 [(.slice (some ⟨p8_14, 0, none⟩) 32 32)] rfl rfl (vsc ((s9 a8).1) vs0) Tryd.underlying112 (by kernel_rfl) (by kernel_rfl) rfl (by decide) (by decide))
 intro g7d W16 F8 hO h_
 have s6 := n8 (Row.lt b7) F8
 replace k_pp := k_pp.o hO
 replace k_t7 := k_t7.o hO
 replace k_t8 := k_t8.o hO
 replace ow_s10 := Own.off ow_s10 hO f0
 replace k7 := Sl.off k7 hO f0
 replace v9 := Sl.off v9 hO f0
 replace b7 := Row.off b7 hO f0
 replace a8 := Sl.off a8 hO f0
 replace off0 := off0.o hO
 have Q8 := h_
 clear hO h_ F8
 refine V0 (es := ([(.slice (some ⟨p10_2, 0, none⟩) 2 2), (.slice (some ⟨p2_1, 0, none⟩) 32 32), (.slice (some ⟨p8_7, 0, none⟩) 32 32)].map fun x => [x])) (cs := #[(.slice (some ⟨p8_14, 0, none⟩) 32 32)]) (bytes := 24) (by rfl) rfl rfl rfl b7 Q8 rfl (y8h (s9 a8).2) (by first | decide | (show 0 < 1; decide)) Tryd.underlying112 (by kernel_rfl) (by first | omega | (simp only [List.length_append, List.length_cons, List.length_nil, g7]; omega) | (simp; done)) (by unfold maxLen; first | omega | (simp only [List.length_append, List.length_cons, List.length_nil, g7]; omega) | (simp; done)) ?_
 (try simp only [Act.put, mA, mB, mC])
 intro y0c W17 a7 hO v5
 replace a7 : Row 23 1 W17 y0c (([(.slice (some ⟨p10_2, 0, none⟩) 2 2), (.slice (some ⟨p2_1, 0, none⟩) 32 32), (.slice (some ⟨p8_7, 0, none⟩) 32 32)].map fun x => [x]) ++ [[(.slice (some ⟨p8_14, 0, none⟩) 32 32)]]) := a7
 have q1h := f8 v5 F3 (y4 k_pp)
 have q1i := f8 v5 Y5 (y4 k_t7)
 have A2 := f8 v5 i8 (y4 k_t8)
 have T8 := f8 v5 s6 (y4 Q8)
 have Y8 := i5 v5 Q9 (Own.lt ow_s10)
 have Z6 := i5 v5 K2 (Sl.lt k7)
 have Z7 := i5 v5 p8 (Sl.lt v9)
 have A3 := i5 v5 K3 (Sl.lt a8)
 have T9 := t7 v5 q1g off0.size
 replace k_pp := z6 k_pp hO (R5 F3)
 replace k_t7 := z6 k_t7 hO (R5 Y5)
 replace k_t8 := z6 k_t8 hO (R5 i8)
 replace Q8 := z6 Q8 hO (R5 s6)
 replace ow_s10 := Own.off ow_s10 hO (fo Q9)
 replace k7 := Sl.off k7 hO (fo K2)
 replace v9 := Sl.off v9 hO (fo p8)
 replace a8 := Sl.off a8 hO (fo K3)
 replace off0 := off0.step hO (io q1g)
 clear hO v5
 replace a7 : Row 23 1 W17 y0c ([(.slice (some ⟨p10_2, 0, none⟩) 2 2), (.slice (some ⟨p2_1, 0, none⟩) 32 32), (.slice (some ⟨p8_7, 0, none⟩) 32 32), (.slice (some ⟨p8_14, 0, none⟩) 32 32)].map fun x => [x]) := a7
 have b7 := a7
 clear a7
 have q1g := T9
 have F3 := q1h
 have Y5 := q1i
 have i8 := A2
 have s6 := T8
 have Q9 := Y8
 have K2 := Z6
 have p8 := Z7
 have K3 := A3
 clear Q8 s6
 refine Lv ?_
 refine q5 ?_
 go_wp2_with fail
 rw [rounds_succ]
 go_upto_region 4 with fail
 refine wp_region_lit ?_
 refine Lw ?_ (v := .pointer (some ⟨gP, 32, none⟩)) (hv := by exact (q2n (ad := ⟨gP, 0, none⟩) (j := 2) (k := 16) (n := 4) (c := 4) (by decide) rfl rfl rfl Tryd.underlying135 (by kernel_rfl)).trans (by rw [Addr.add_mid]))
 refine z0 (vs := (p4 X3 Y3 Z3 T3).toList) (by rfl) rfl rfl k_pp (Y7 g7b) (by kernel_rfl) (by kernel_rfl) ?_
 (try simp only [Act.put, mA, mB, mC])
 clear k_t7 Y5
 refine U0 ?_ (z := p4 0 0 0 0) (t := 60) (cells := p4 X3 Y3 Z3 T3)
 intro g9g W19 u6 hO h_
 have Y5 := n8 (Row.lt b7) u6
 replace k_pp := k_pp.o hO
 replace k_t8 := k_t8.o hO
 replace ow_s10 := Own.off ow_s10 hO f0
 replace k7 := Sl.off k7 hO f0
 replace v9 := Sl.off v9 hO f0
 replace a8 := Sl.off a8 hO f0
 replace b7 := Row.off b7 hO f0
 replace off0 := off0.o hO
 have k_t7 := h_
 clear hO h_ u6
 refine q5 ?_
 go_upto_region 5 with fail
 refine wp_region_lit ?_
 refine L0 ?_ k_t7
 refine Lr ?_ (O1 h3.rw HU3.out W19 (y7 hG off0.ext).1)
 intro W20 hO
 replace k_pp := k_pp.o hO
 replace k_t8 := k_t8.o hO
 replace k_t7 := k_t7.o hO
 replace ow_s10 := Own.off ow_s10 hO f0
 replace k7 := Sl.off k7 hO f0
 replace v9 := Sl.off v9 hO f0
 replace a8 := Sl.off a8 hO f0
 replace b7 := Row.off b7 hO f0
 replace off0 := off0.o hO
 clear hO
 clear k_t8 i8
 refine LnA ?_ (z := q7 .u8 32 (j0 0)) (t := 22) (k := .u8) (n := 32) (f := j0 U3)
 intro g9h W22 v6 hO h_
 have i8 := n8 (Row.lt b7) v6
 replace k_pp := k_pp.o hO
 replace k_t7 := k_t7.o hO
 replace ow_s10 := Own.off ow_s10 hO f0
 replace k7 := Sl.off k7 hO f0
 replace v9 := Sl.off v9 hO f0
 replace a8 := Sl.off a8 hO f0
 replace b7 := Row.off b7 hO f0
 replace off0 := off0.o hO
 have k_t8 := h_
 clear hO h_ v6
 refine q5 ?_
 go_upto_region 6 with fail
 refine wp_region_lit ?_
 refine Lv ?_
 refine Lw ?_ (v := .slice (some ⟨p8_21, 0, none⟩) 32 32)
 have t6 : Sl W22 (.slice (some ⟨p8_21, 0, none⟩) 32 32) (lb 32 U3) := (d9 (V := U3) (n := 32) (off := 0) k_t8 ap0 (by decide) (by decide))
 have F4 : ∀ x, (Value.ownBlock y0c) = some x → sb (.slice (some ⟨p8_21, 0, none⟩) 32 32) (lb 32 U3) ≠ some x := q6r i8
 refine E3 ?_ (z := #[(.slice (some ⟨p8_21, 0, none⟩) 32 32)]) (t := 23) (n := 1) (c := 1) (hr := by exact p7 [(.slice (some ⟨p8_21, 0, none⟩) 32 32)] rfl rfl (vsc ((s9 t6).1) vs0) Tryd.underlying112 (by kernel_rfl) (by kernel_rfl) rfl (by decide) (by decide))
 intro g7e W23 F8 hO h_
 have s6 := n8 (Row.lt b7) F8
 replace k_pp := k_pp.o hO
 replace k_t7 := k_t7.o hO
 replace k_t8 := k_t8.o hO
 replace ow_s10 := Own.off ow_s10 hO f0
 replace k7 := Sl.off k7 hO f0
 replace v9 := Sl.off v9 hO f0
 replace a8 := Sl.off a8 hO f0
 replace b7 := Row.off b7 hO f0
 replace t6 := Sl.off t6 hO f0
 replace off0 := off0.o hO
 have Q8 := h_
 clear hO h_ F8
 refine V0 (es := ([(.slice (some ⟨p10_2, 0, none⟩) 2 2), (.slice (some ⟨p2_1, 0, none⟩) 32 32), (.slice (some ⟨p8_7, 0, none⟩) 32 32), (.slice (some ⟨p8_14, 0, none⟩) 32 32)].map fun x => [x])) (cs := #[(.slice (some ⟨p8_21, 0, none⟩) 32 32)]) (bytes := 24) (by rfl) rfl rfl rfl b7 Q8 rfl (y8h (s9 t6).2) (by first | decide | (show 0 < 1; decide)) Tryd.underlying112 (by kernel_rfl) (by first | omega | (simp only [List.length_append, List.length_cons, List.length_nil, g7]; omega) | (simp; done)) (by unfold maxLen; first | omega | (simp only [List.length_append, List.length_cons, List.length_nil, g7]; omega) | (simp; done)) ?_
 (try simp only [Act.put, mA, mB, mC])
 intro y0d W24 a7 hO v5
 replace a7 : Row 23 1 W24 y0d (([(.slice (some ⟨p10_2, 0, none⟩) 2 2), (.slice (some ⟨p2_1, 0, none⟩) 32 32), (.slice (some ⟨p8_7, 0, none⟩) 32 32), (.slice (some ⟨p8_14, 0, none⟩) 32 32)].map fun x => [x]) ++ [[(.slice (some ⟨p8_21, 0, none⟩) 32 32)]]) := a7
 have A2 := f8 v5 i8 (y4 k_t8)
 have Y8 := i5 v5 Q9 (Own.lt ow_s10)
 have Z6 := i5 v5 K2 (Sl.lt k7)
 have Z7 := i5 v5 p8 (Sl.lt v9)
 have A3 := i5 v5 K3 (Sl.lt a8)
 have q1j := i5 v5 F4 (Sl.lt t6)
 have T9 := t7 v5 q1g off0.size
 replace k_pp := z6 k_pp hO (R5 F3)
 replace k_t7 := z6 k_t7 hO (R5 Y5)
 replace k_t8 := z6 k_t8 hO (R5 i8)
 replace Q8 := z6 Q8 hO (R5 s6)
 replace ow_s10 := Own.off ow_s10 hO (fo Q9)
 replace k7 := Sl.off k7 hO (fo K2)
 replace v9 := Sl.off v9 hO (fo p8)
 replace a8 := Sl.off a8 hO (fo K3)
 replace t6 := Sl.off t6 hO (fo F4)
 replace off0 := off0.step hO (io q1g)
 clear hO v5
 replace a7 : Row 23 1 W24 y0d ([(.slice (some ⟨p10_2, 0, none⟩) 2 2), (.slice (some ⟨p2_1, 0, none⟩) 32 32), (.slice (some ⟨p8_7, 0, none⟩) 32 32), (.slice (some ⟨p8_14, 0, none⟩) 32 32), (.slice (some ⟨p8_21, 0, none⟩) 32 32)].map fun x => [x]) := a7
 have b7 := a7
 clear a7
 have q1g := T9
 have i8 := A2
 have Q9 := Y8
 have K2 := Z6
 have p8 := Z7
 have K3 := A3
 have F4 := q1j
 clear Q8 s6
 refine Lv ?_
 refine q5 ?_
 go_wp2_with fail
 rw [rounds_succ]
 go_upto_region 4 with fail
 refine wp_region_lit ?_
 refine Lw ?_ (v := .pointer (some ⟨gP, 48, none⟩)) (hv := by exact (q2n (ad := ⟨gP, 0, none⟩) (j := 3) (k := 16) (n := 4) (c := 4) (by decide) rfl rfl rfl Tryd.underlying135 (by kernel_rfl)).trans (by rw [Addr.add_mid]))
 refine z0 (vs := (p4 X4 Y4 Z4 T4).toList) (by rfl) rfl rfl k_pp (Y7 g7c) (by kernel_rfl) (by kernel_rfl) ?_
 (try simp only [Act.put, mA, mB, mC])
 clear k_t7 Y5
 refine U0 ?_ (z := p4 0 0 0 0) (t := 60) (cells := p4 X4 Y4 Z4 T4)
 intro g9i W26 u6 hO h_
 replace k_t8 := k_t8.o hO
 replace ow_s10 := Own.off ow_s10 hO f0
 replace k7 := Sl.off k7 hO f0
 replace v9 := Sl.off v9 hO f0
 replace a8 := Sl.off a8 hO f0
 replace t6 := Sl.off t6 hO f0
 replace b7 := Row.off b7 hO f0
 replace off0 := off0.o hO
 have k_t7 := h_
 clear hO h_ u6
 refine q5 ?_
 go_upto_region 5 with fail
 refine wp_region_lit ?_
 refine L0 ?_ k_t7
 refine Lr ?_ (O1 h4.rw HU4.out W26 (y7 hG off0.ext).1)
 intro W27 hO
 replace k_t8 := k_t8.o hO
 replace ow_s10 := Own.off ow_s10 hO f0
 replace k7 := Sl.off k7 hO f0
 replace v9 := Sl.off v9 hO f0
 replace a8 := Sl.off a8 hO f0
 replace t6 := Sl.off t6 hO f0
 replace b7 := Row.off b7 hO f0
 replace off0 := off0.o hO
 clear hO
 clear k_t8 i8
 refine LnA ?_ (z := q7 .u8 32 (j0 0)) (t := 22) (k := .u8) (n := 32) (f := j0 U4)
 intro g9j W29 v6 hO h_
 have i8 := n8 (Row.lt b7) v6
 replace ow_s10 := Own.off ow_s10 hO f0
 replace k7 := Sl.off k7 hO f0
 replace v9 := Sl.off v9 hO f0
 replace a8 := Sl.off a8 hO f0
 replace t6 := Sl.off t6 hO f0
 replace b7 := Row.off b7 hO f0
 replace off0 := off0.o hO
 have k_t8 := h_
 clear hO h_ v6
 refine q5 ?_
 go_upto_region 6 with fail
 refine wp_region_lit ?_
 refine Lv ?_
 refine Lw ?_ (v := .slice (some ⟨p8_28, 0, none⟩) 32 32)
 have B2 : Sl W29 (.slice (some ⟨p8_28, 0, none⟩) 32 32) (lb 32 U4) := (d9 (V := U4) (n := 32) (off := 0) k_t8 ap0 (by decide) (by decide))
 have q2r : ∀ x, (Value.ownBlock y0d) = some x → sb (.slice (some ⟨p8_28, 0, none⟩) 32 32) (lb 32 U4) ≠ some x := q6r i8
 refine E3 ?_ (z := #[(.slice (some ⟨p8_28, 0, none⟩) 32 32)]) (t := 23) (n := 1) (c := 1) (hr := by exact p7 [(.slice (some ⟨p8_28, 0, none⟩) 32 32)] rfl rfl (vsc ((s9 B2).1) vs0) Tryd.underlying112 (by kernel_rfl) (by kernel_rfl) rfl (by decide) (by decide))
 intro g7f W30 F8 hO h_
 replace ow_s10 := Own.off ow_s10 hO f0
 replace k7 := Sl.off k7 hO f0
 replace v9 := Sl.off v9 hO f0
 replace a8 := Sl.off a8 hO f0
 replace t6 := Sl.off t6 hO f0
 replace b7 := Row.off b7 hO f0
 replace B2 := Sl.off B2 hO f0
 replace off0 := off0.o hO
 have Q8 := h_
 clear hO h_ F8
 refine V0 (es := ([(.slice (some ⟨p10_2, 0, none⟩) 2 2), (.slice (some ⟨p2_1, 0, none⟩) 32 32), (.slice (some ⟨p8_7, 0, none⟩) 32 32), (.slice (some ⟨p8_14, 0, none⟩) 32 32), (.slice (some ⟨p8_21, 0, none⟩) 32 32)].map fun x => [x])) (cs := #[(.slice (some ⟨p8_28, 0, none⟩) 32 32)]) (bytes := 24) (by rfl) rfl rfl rfl b7 Q8 rfl (y8h (s9 B2).2) (by first | decide | (show 0 < 1; decide)) Tryd.underlying112 (by kernel_rfl) (by first | omega | (simp only [List.length_append, List.length_cons, List.length_nil, g7]; omega) | (simp; done)) (by unfold maxLen; first | omega | (simp only [List.length_append, List.length_cons, List.length_nil, g7]; omega) | (simp; done)) ?_
 (try simp only [Act.put, mA, mB, mC])
 intro y0e W31 a7 hO v5
 replace a7 : Row 23 1 W31 y0e (([(.slice (some ⟨p10_2, 0, none⟩) 2 2), (.slice (some ⟨p2_1, 0, none⟩) 32 32), (.slice (some ⟨p8_7, 0, none⟩) 32 32), (.slice (some ⟨p8_14, 0, none⟩) 32 32), (.slice (some ⟨p8_21, 0, none⟩) 32 32)].map fun x => [x]) ++ [[(.slice (some ⟨p8_28, 0, none⟩) 32 32)]]) := a7
 have Y8 := i5 v5 Q9 (Own.lt ow_s10)
 have Z6 := i5 v5 K2 (Sl.lt k7)
 have Z7 := i5 v5 p8 (Sl.lt v9)
 have A3 := i5 v5 K3 (Sl.lt a8)
 have q1j := i5 v5 F4 (Sl.lt t6)
 have y4u := i5 v5 q2r (Sl.lt B2)
 have T9 := t7 v5 q1g off0.size
 replace ow_s10 := Own.off ow_s10 hO (fo Q9)
 replace k7 := Sl.off k7 hO (fo K2)
 replace v9 := Sl.off v9 hO (fo p8)
 replace a8 := Sl.off a8 hO (fo K3)
 replace t6 := Sl.off t6 hO (fo F4)
 replace B2 := Sl.off B2 hO (fo q2r)
 replace off0 := off0.step hO (io q1g)
 clear hO v5
 replace a7 : Row 23 1 W31 y0e ([(.slice (some ⟨p10_2, 0, none⟩) 2 2), (.slice (some ⟨p2_1, 0, none⟩) 32 32), (.slice (some ⟨p8_7, 0, none⟩) 32 32), (.slice (some ⟨p8_14, 0, none⟩) 32 32), (.slice (some ⟨p8_21, 0, none⟩) 32 32), (.slice (some ⟨p8_28, 0, none⟩) 32 32)].map fun x => [x]) := a7
 have b7 := a7
 clear a7
 have q1g := T9
 have Q9 := Y8
 have K2 := Z6
 have p8 := Z7
 have K3 := A3
 have F4 := q1j
 have q2r := y4u
 clear Q8 s6
 refine Lv ?_
 refine q5 ?_
 go_wp2_with fail
 rw [rounds_succ]
 go_upto_region 8 with fail
 refine wp_region_lit ?_
 refine Lv ?_
 refine E3 ?_ (z := #[.int .u8 0]) (t := 5) (n := 1) (c := 1)
 intro g7g W32 j6q hO h_
 have j0f : ∀ x, (Value.ownBlock y0e) = some x → Value.ownBlock (.slice (some ⟨p27_32, 0, none⟩) 1 1) ≠ some x := L6 (Row.lt b7) j6q
 replace ow_s10 := Own.off ow_s10 hO f0
 replace k7 := Sl.off k7 hO f0
 replace v9 := Sl.off v9 hO f0
 replace a8 := Sl.off a8 hO f0
 replace t6 := Sl.off t6 hO f0
 replace B2 := Sl.off B2 hO f0
 replace b7 := Row.off b7 hO f0
 replace off0 := off0.o hO
 have ow_s27 : Own W32 (.slice (some ⟨p27_32, 0, none⟩) 1 1) [0] := d8 h_ (by rfl) (by show 1 ≤ maxLen; decide)
 clear hO h_ j6q
 refine E3 ?_ (z := #[(.slice (some ⟨p27_32, 0, none⟩) 1 1)]) (t := 23) (n := 1) (c := 1) (hr := by exact p7 [(.slice (some ⟨p27_32, 0, none⟩) 1 1)] rfl rfl (vsc ((r9 ow_s27).1) vs0) Tryd.underlying112 (by kernel_rfl) (by kernel_rfl) rfl (by decide) (by decide))
 intro g7h W33 y9j hO h_
 replace ow_s10 := Own.off ow_s10 hO f0
 replace k7 := Sl.off k7 hO f0
 replace v9 := Sl.off v9 hO f0
 replace a8 := Sl.off a8 hO f0
 replace t6 := Sl.off t6 hO f0
 replace B2 := Sl.off B2 hO f0
 replace b7 := Row.off b7 hO f0
 replace ow_s27 := Own.off ow_s27 hO f0
 replace off0 := off0.o hO
 have j6r := h_
 clear hO h_ y9j
 refine V0 (es := ([(.slice (some ⟨p10_2, 0, none⟩) 2 2), (.slice (some ⟨p2_1, 0, none⟩) 32 32), (.slice (some ⟨p8_7, 0, none⟩) 32 32), (.slice (some ⟨p8_14, 0, none⟩) 32 32), (.slice (some ⟨p8_21, 0, none⟩) 32 32), (.slice (some ⟨p8_28, 0, none⟩) 32 32)].map fun x => [x])) (cs := #[(.slice (some ⟨p27_32, 0, none⟩) 1 1)]) (bytes := 24) (by rfl) rfl rfl rfl b7 j6r rfl (y8h (r9 ow_s27).2) (by first | decide | (show 0 < 1; decide)) Tryd.underlying112 (by kernel_rfl) (by first | omega | (simp only [List.length_append, List.length_cons, List.length_nil, g7]; omega) | (simp; done)) (by unfold maxLen; first | omega | (simp only [List.length_append, List.length_cons, List.length_nil, g7]; omega) | (simp; done)) ?_
 (try simp only [Act.put, mA, mB, mC])
 intro j0g W34 F2 hO q3s
 replace F2 : Row 23 1 W34 j0g (([(.slice (some ⟨p10_2, 0, none⟩) 2 2), (.slice (some ⟨p2_1, 0, none⟩) 32 32), (.slice (some ⟨p8_7, 0, none⟩) 32 32), (.slice (some ⟨p8_14, 0, none⟩) 32 32), (.slice (some ⟨p8_21, 0, none⟩) 32 32), (.slice (some ⟨p8_28, 0, none⟩) 32 32)].map fun x => [x]) ++ [[(.slice (some ⟨p27_32, 0, none⟩) 1 1)]]) := F2
 replace ow_s10 := Own.off ow_s10 hO (fo Q9)
 replace k7 := Sl.off k7 hO (fo K2)
 replace v9 := Sl.off v9 hO (fo p8)
 replace a8 := Sl.off a8 hO (fo K3)
 replace t6 := Sl.off t6 hO (fo F4)
 replace B2 := Sl.off B2 hO (fo q2r)
 replace ow_s27 := Own.off ow_s27 hO (fo j0f)
 replace off0 := off0.step hO (io q1g)
 clear hO q3s
 replace F2 : Row 23 1 W34 j0g ([(.slice (some ⟨p10_2, 0, none⟩) 2 2), (.slice (some ⟨p2_1, 0, none⟩) 32 32), (.slice (some ⟨p8_7, 0, none⟩) 32 32), (.slice (some ⟨p8_14, 0, none⟩) 32 32), (.slice (some ⟨p8_21, 0, none⟩) 32 32), (.slice (some ⟨p8_28, 0, none⟩) 32 32), (.slice (some ⟨p27_32, 0, none⟩) 1 1)].map fun x => [x]) := F2
 have b7 := F2
 clear F2
 clear j6r
 obtain ⟨A_, c_, ev_, hps_⟩ := j4l (vs := [(.slice (some ⟨p10_2, 0, none⟩) 2 2), (.slice (some ⟨p2_1, 0, none⟩) 32 32), (.slice (some ⟨p8_7, 0, none⟩) 32 32), (.slice (some ⟨p8_14, 0, none⟩) 32 32), (.slice (some ⟨p8_21, 0, none⟩) 32 32), (.slice (some ⟨p8_28, 0, none⟩) 32 32), (.slice (some ⟨p27_32, 0, none⟩) 1 1)]) (ps := [[3, 2], lb 32 V, lb 32 U1, lb 32 U2, lb 32 U3, lb 32 U4, [0]]) b7 rfl (pvc (ow_s10.sl) (pvc k7 (pvc v9 (pvc a8 (pvc t6 (pvc B2 (pvc (ow_s27.sl) pv0))))))) (by simp)
 subst ev_
 refine Lr ?_ (F1 HU5.out [[3, 2], lb 32 V, lb 32 U1, lb 32 U2, lb 32 U3, lb 32 U4, [0]] A_ c_ (by simp only [List.flatten_cons, List.flatten_nil, List.append_nil, List.nil_append, List.append_assoc, List.cons_append]) (by first | omega | (simp only [List.length_append, List.length_cons, List.length_nil, g7]; omega)) (by simp) W34 hps_ (y7 hG off0.ext).2.1)
 intro W35 hO
 replace off0 := off0.o hO
 clear hO
 refine LnA ?_ (z := q7 .u8 64 (j0 0)) (t := 30) (k := .u8) (n := 64) (f := j0 U5)
 intro g9k W37 I1 hO h_
 have q7p := i3 off0 I1
 replace off0 := off0.o hO
 have k_t9 := h_
 clear hO h_ I1
 refine q5 ?_
 go_upto_region 9 with fail
 refine wp_region_lit ?_
 refine Lv ?_
 refine Lv ?_
 refine q5 ?_
 go_wp2
 exact bodyPost_ret (v := .slice (some ⟨p9_36, 0, none⟩) 16 64) (by simp only [results, Tryd.results61]; go_simp) rfl ⟨p9_36, rfl, Nat.not_lt.1 (fun h => by cases q7p h), off0, by rw [hX]; rw [show chH V a1 a2 a3 a4 = U5 by rw [HU5.out, HU4.out, HU3.out, HU2.out, HU1.out]; rfl]; exact k_t9⟩
end Go.Proofs.YtefpoollmbmkfaaDoor

namespace Go.Proofs.YtefpoollmbmkfaaDoor
set_option maxHeartbeats 2000000
set_option maxRecDepth 100000
open Go.RowKit
attribute [local irreducible] wpList V4
variable {kn : Kn}
open Sc (LL i6)
attribute [local irreducible] hs
theorem q7d (V off j : Nat) : j0 (V / 2 ^ (8 * off)) j = j0 V (off + j) := by
  unfold j0
  rw [Nat.div_div_eq_div_mul, ← Nat.pow_add, show 8 * off + 8 * j = 8 * (off + j) by omega]
theorem y2q {V m j : Nat} (hj : j < m) : j0 (V % 2 ^ (8 * m)) j = j0 V j := by
  unfold j0
  have e : (2 : Nat) ^ (8 * m) = 2 ^ (8 * j) * 2 ^ (8 * m - 8 * j) := by rw [← Nat.pow_add]; congr 1; omega
  have e2 : (2 : Nat) ^ (8 * m - 8 * j) = 256 * 2 ^ (8 * m - 8 * j - 8) := by rw [show 8 * m - 8 * j = 8 + (8 * m - 8 * j - 8) by omega, Nat.pow_add, Nat.add_sub_cancel_left]
  rw [e, Nat.mod_mul_right_div_self, e2, Nat.mod_mul_right_mod]
theorem q2s {n m off V U : Nat} (hU : ∀ j, j < m → j0 U j = j0 V (off + j)) (h : off + m ≤ n) : ∀ i v, (q7 .u8 m (j0 U))[i]? = some v → (q7 .u8 n (j0 V))[off + i]? = some v := fun i v hv => by
  have hi : i < m := by have := (Array.getElem?_eq_some_iff.1 hv).1; rwa [y5] at this
  rw [y9 _ _ _ _ hi, hU i hi] at hv
  rw [y9 _ _ _ _ (by omega)]; exact hv
theorem g0l {P j : Nat} (hj : j < 16) : j0 (pC P) j = j0 P (32 + j) := by
  unfold pC
  rw [show r6 = 2 ^ (8 * 16) from rfl, y2q hj, show (2 : Nat) ^ 256 = 2 ^ (8 * 32) from rfl, q7d]
theorem g0m (P j : Nat) : j0 (pN P) j = j0 P (48 + j) := by
  unfold pN
  rw [show r6 = 2 ^ (8 * 16) from rfl, q7d, show (2 : Nat) ^ 256 = 2 ^ (8 * 32) from rfl, q7d, show 32 + (16 + j) = 48 + j by omega]
theorem j0h {P : Nat} : ∀ i v, (q7 .u8 32 (j0 (pG P)))[i]? = some v → (q7 .u8 80 (j0 P))[0 + i]? = some v := q2s (fun j hj => by rw [Nat.zero_add]; exact y9t hj) (by decide)
theorem g0n {P : Nat} : ∀ i v, (q7 .u8 16 (j0 (pC P)))[i]? = some v → (q7 .u8 80 (j0 P))[32 + i]? = some v := q2s (fun j hj => g0l hj) (by decide)
theorem j4m {P : Nat} : ∀ i v, (q7 .u8 32 (j0 (pN P)))[i]? = some v → (q7 .u8 80 (j0 P))[48 + i]? = some v := q2s (fun j _ => g0m P j) (by decide)
theorem q8k (P : Nat) : pG P < 2 ^ 256 := j6j P
theorem y2r (P : Nat) : pC P < r6 := Nat.mod_lt _ (by decide)
def B80 (P : Nat) : Prop := pN P < 2 ^ 256
theorem R8 {P : Program} {fn : Func} {p q r : Tmp} {ty tz t t' : TypeId} {tmps : Array Value} {w : World} {g g' : Nat} {cs ds : Array Value} {v : Value} (h : fn.results = #[.cell p ty, .cell q tz, .tmp r])
    (hp : tmps.getD p undef = .pointer (some ⟨g, 0, none⟩)) (hq : tmps.getD q undef = .pointer (some ⟨g', 0, none⟩)) (hr : tmps.getD r undef = v) (hB : Blk w g cs t) (hC : Blk w g' ds t') (hk : (P.underlying ty).map TypeDesc.isRow = some true) (hi : (P.info? ty).map (·.size) = some cs.size)
    (hk' : (P.underlying tz).map TypeDesc.isRow = some true) (hi' : (P.info? tz).map (·.size) = some ds.size) : (results fn tmps).run P w = .ok (.tuple #[.agg cs, .agg ds, v]) w := by
  cases hu : P.underlying ty with
  | none => simp [hu] at hk
  | some d =>
    cases hu' : P.underlying tz with
    | none => simp [hu'] at hk'
    | some d' =>
      have hd : d.isRow = true := by simpa [hu] using hk
      have hd' : d'.isRow = true := by simpa [hu'] using hk'
      have hp' : tmps[p]?.getD undef = .pointer (some ⟨g, 0, none⟩) := by simpa using hp
      have hq' : tmps[q]?.getD undef = .pointer (some ⟨g', 0, none⟩) := by simpa using hq
      have hr' : tmps[r]?.getD undef = v := by simpa using hr
      simp [results, h, hp', hq', hr', asAddr, run_loadVar_row w g t ty cs _ d hB hu (by cases d <;> simp_all [TypeDesc.isRow]) hi, run_loadVar_row w g' t' tz ds _ d' hC hu' (by cases d' <;> simp_all [TypeDesc.isRow]) hi']

theorem g4m (hc : kn.c) {V : Nat} (hV : V < 2 ^ 256) (hok : K0 V = false) :
  ∀ w, GA kn w → Calls Tryd.prog 64 #[.agg (q7 .u8 32 (j0 V))] w fun e w' => h9 (.tuple #[.agg (p4 0 0 0 0), .int .i64 15]) w w' e := by
 have dc := q3d (kn := kn) hc (V := V) hV hok
 intro w hG
 have off0 : Off [] w w := Off.refl _ _
 go_enter Tryd.func64, Tryd.ntmps64
 go_upto_region 0 with fail
 refine wp_region_lit ?_
 refine Ln ?_ (z := q7 .u8 32 (j0 V)) (t := 22)
 intro V8 W1 s8 hO h_
 replace off0 := off0.o hO
 have k_t1 := h_
 clear hO h_ s8
 refine Ln ?_ (z := p4 0 0 0 0) (t := 60)
 intro r7 W2 z7 hO h_
 have u9 := i3 off0 z7
 replace k_t1 := k_t1.o hO
 replace off0 := off0.o hO
 have k_t2 := h_
 clear hO h_ z7
 refine Lw ?_ (v := .int .i64 0)
 refine q5 ?_
 go_upto_region 1 with fail
 refine wp_region_lit ?_
 refine M0 ?_ k_t1
 refine Lr ?_ (dc W2 (y7 hG off0.ext).1)
 intro W3 hO
 replace k_t2 := k_t2.o hO
 replace off0 := off0.o hO
 clear hO
 refine Lv ?_
 refine Lv ?_
 refine Lw ?_ (v := .int .i64 15)
 refine U0 ?_ (z := p4 0 0 0 0) (t := 60) (cells := p4 0 0 0 0)
 intro g0o W5 c9 hO h_
 replace k_t2 := k_t2.o hO
 replace off0 := off0.o hO
 have k_t4 := h_
 clear hO h_ c9
 refine Lw ?_ (v := .int .i64 15)
 refine q5 ?_
 go_upto_region 2 with fail
 refine wp_region_lit ?_
 refine Lw ?_ (v := .int .i64 15)
 refine Lw ?_ (v := .bool false)
 refine Lw ?_ (v := .bool false)
 refine Ls ?_
 refine Ls ?_
 refine Ls ?_
 refine Ls ?_
 refine Lw ?_ (v := .bool false)
 refine q5 ?_
 go_upto_region 4 with fail
 refine wp_region_lit ?_
 refine L0 ?_ k_t4
 refine Lw ?_ (v := .int .i64 15)
 refine Lp ?_ k_t2 (cells := p4 0 0 0 0)
 intro W6 hO h_
 replace k_t2 : Blk W6 r7 (p4 0 0 0 0) 60 := h_
 clear h_
 replace off0 := off0.p hO u9
 clear hO
 refine Lw ?_ (v := .int .i64 15)
 refine q5 ?_
 go_wp2
 exact bodyPost_ret (u5 rfl rfl rfl k_t2 (by kernel_rfl) (by kernel_rfl)) rfl ⟨rfl, off0.ext⟩
theorem g4n (hc : kn.c) {V : Nat} (hV : V < 2 ^ 256) (hok : K0 V = true) (h8 : pm (M6 V) 8 = p0) :
  ∃ X Y T, RN X Y 1 T (M6 V) ∧ ∀ w, GA kn w → Calls Tryd.prog 64 #[.agg (q7 .u8 32 (j0 V))] w fun e w' => h9 (.tuple #[.agg (p4 X Y 1 T), .int .i64 15]) w w' e := by
 obtain ⟨dx, dt, dr, dc⟩ := L1 hc (V := V) hV hok
 obtain ⟨y0, hy0⟩ := z8 (V % 2 ^ 255)
 rw [← hy0] at dr dc
 clear hy0
 obtain ⟨x1, y2, z3, t4, r5, c6⟩ := C7 (kn := kn) dr.rw
 have cs_ := P7 (kn := kn) r5.rw R1
 rw [decide_eq_true h8] at cs_
 refine ⟨dx, y0, dt, dr, fun w hG => ?_⟩
 have off0 : Off [] w w := Off.refl _ _
 go_enter Tryd.func64, Tryd.ntmps64
 go_upto_region 0 with fail
 refine wp_region_lit ?_
 refine Ln ?_ (z := q7 .u8 32 (j0 V)) (t := 22)
 intro V8 W1 s8 hO h_
 replace off0 := off0.o hO
 have k_t1 := h_
 clear hO h_ s8
 refine Ln ?_ (z := p4 0 0 0 0) (t := 60)
 intro r7 W2 z7 hO h_
 have u9 := i3 off0 z7
 replace k_t1 := k_t1.o hO
 replace off0 := off0.o hO
 have k_t2 := h_
 clear hO h_ z7
 refine Lw ?_ (v := .int .i64 0)
 refine q5 ?_
 go_upto_region 1 with fail
 refine wp_region_lit ?_
 refine M0 ?_ k_t1
 refine Lr ?_ (dc W2 (y7 hG off0.ext).1)
 intro W3 hO
 replace k_t2 := k_t2.o hO
 replace off0 := off0.o hO
 clear hO
 refine Lv ?_
 refine Lv ?_
 refine Lw ?_ (v := .int .i64 0)
 refine U0 ?_ (z := p4 0 0 0 0) (t := 60) (cells := p4 dx y0 1 dt)
 intro g0o W5 c9 hO h_
 replace k_t2 := k_t2.o hO
 replace off0 := off0.o hO
 have k_t4 := h_
 clear hO h_ c9
 refine Lw ?_ (v := .int .i64 0)
 refine q5 ?_
 go_upto_region 2 with fail
 refine wp_region_lit ?_
 refine Lw ?_ (v := .int .i64 0)
 refine Lw ?_ (v := .bool true)
 refine Lw ?_ (v := .bool true)
 refine L0 ?_ k_t4
 refine Lr ?_ (c6 W5 (y7 hG off0.ext).1)
 intro W6 hO
 replace k_t2 := k_t2.o hO
 replace k_t4 := k_t4.o hO
 replace off0 := off0.o hO
 clear hO
 refine Lw ?_ (v := .agg (p4 0 0 0 0)) (hv := by kernel_rfl)
 refine Lr ?_ (cs_ W6 (y7 hG off0.ext).1)
 intro W7 hO
 replace k_t2 := k_t2.o hO
 replace k_t4 := k_t4.o hO
 replace off0 := off0.o hO
 clear hO
 refine Lw ?_ (v := .bool true)
 refine q5 ?_
 go_upto_region 4 with fail
 refine wp_region_lit ?_
 refine L0 ?_ k_t4
 refine Lw ?_ (v := .int .i64 15)
 refine Lp ?_ k_t2 (cells := p4 dx y0 1 dt)
 intro W8 hO h_
 replace k_t2 : Blk W8 r7 (p4 dx y0 1 dt) 60 := h_
 clear h_
 replace off0 := off0.p hO u9
 clear hO
 refine Lw ?_ (v := .int .i64 15)
 refine q5 ?_
 go_wp2
 exact bodyPost_ret (u5 rfl rfl rfl k_t2 (by kernel_rfl) (by kernel_rfl)) rfl ⟨rfl, off0.ext⟩
theorem q8l (hc : kn.c) {V : Nat} (hV : V < 2 ^ 256) (hok : K0 V = true) (h8 : ¬ pm (M6 V) 8 = p0) :
  ∃ X Y T, RN X Y 1 T (M6 V) ∧ ∀ w, GA kn w → Calls Tryd.prog 64 #[.agg (q7 .u8 32 (j0 V))] w fun e w' => h9 (.tuple #[.agg (p4 X Y 1 T), .int .i64 0]) w w' e := by
 obtain ⟨dx, dt, dr, dc⟩ := L1 hc (V := V) hV hok
 obtain ⟨y0, hy0⟩ := z8 (V % 2 ^ 255)
 rw [← hy0] at dr dc
 clear hy0
 obtain ⟨x1, y2, z3, t4, r5, c6⟩ := C7 (kn := kn) dr.rw
 have cs_ := P7 (kn := kn) r5.rw R1
 rw [decide_eq_false h8] at cs_
 refine ⟨dx, y0, dt, dr, fun w hG => ?_⟩
 have off0 : Off [] w w := Off.refl _ _
 go_enter Tryd.func64, Tryd.ntmps64
 go_upto_region 0 with fail
 refine wp_region_lit ?_
 refine Ln ?_ (z := q7 .u8 32 (j0 V)) (t := 22)
 intro V8 W1 s8 hO h_
 replace off0 := off0.o hO
 have k_t1 := h_
 clear hO h_ s8
 refine Ln ?_ (z := p4 0 0 0 0) (t := 60)
 intro r7 W2 z7 hO h_
 have u9 := i3 off0 z7
 replace k_t1 := k_t1.o hO
 replace off0 := off0.o hO
 have k_t2 := h_
 clear hO h_ z7
 refine Lw ?_ (v := .int .i64 0)
 refine q5 ?_
 go_upto_region 1 with fail
 refine wp_region_lit ?_
 refine M0 ?_ k_t1
 refine Lr ?_ (dc W2 (y7 hG off0.ext).1)
 intro W3 hO
 replace k_t2 := k_t2.o hO
 replace off0 := off0.o hO
 clear hO
 refine Lv ?_
 refine Lv ?_
 refine Lw ?_ (v := .int .i64 0)
 refine U0 ?_ (z := p4 0 0 0 0) (t := 60) (cells := p4 dx y0 1 dt)
 intro g0o W5 c9 hO h_
 replace k_t2 := k_t2.o hO
 replace off0 := off0.o hO
 have k_t4 := h_
 clear hO h_ c9
 refine Lw ?_ (v := .int .i64 0)
 refine q5 ?_
 go_upto_region 2 with fail
 refine wp_region_lit ?_
 refine Lw ?_ (v := .int .i64 0)
 refine Lw ?_ (v := .bool true)
 refine Lw ?_ (v := .bool true)
 refine L0 ?_ k_t4
 refine Lr ?_ (c6 W5 (y7 hG off0.ext).1)
 intro W6 hO
 replace k_t2 := k_t2.o hO
 replace k_t4 := k_t4.o hO
 replace off0 := off0.o hO
 clear hO
 refine Lw ?_ (v := .agg (p4 0 0 0 0)) (hv := by kernel_rfl)
 refine Lr ?_ (cs_ W6 (y7 hG off0.ext).1)
 intro W7 hO
 replace k_t2 := k_t2.o hO
 replace k_t4 := k_t4.o hO
 replace off0 := off0.o hO
 clear hO
 refine Lw ?_ (v := .bool false)
 refine q5 ?_
 go_upto_region 4 with fail
 refine wp_region_lit ?_
 refine L0 ?_ k_t4
 refine Lw ?_ (v := .int .i64 0)
 refine Lp ?_ k_t2 (cells := p4 dx y0 1 dt)
 intro W8 hO h_
 replace k_t2 : Blk W8 r7 (p4 dx y0 1 dt) 60 := h_
 clear h_
 replace off0 := off0.p hO u9
 clear hO
 refine Lw ?_ (v := .int .i64 0)
 refine q5 ?_
 go_wp2
 exact bodyPost_ret (u5 rfl rfl rfl k_t2 (by kernel_rfl) (by kernel_rfl)) rfl ⟨rfl, off0.ext⟩
theorem j4n (hc : kn.c) {P : Nat} (hP : B80 P) (hok : K0 (pG P) = false) (h1 : LL ≤ pN P) :
  ∀ w, GA kn w → Calls Tryd.prog 65 #[.agg (q7 .u8 80 (j0 P))] w fun e w' => h9 (.tuple #[.agg (p4 0 0 0 0), .agg (c4 0), .int .i64 17]) w w' e := by
 have dc := q3d (kn := kn) hc (V := (pG P)) (q8k P) hok
 intro w hG
 have off0 : Off [] w w := Off.refl _ _
 go_enter Tryd.func65, Tryd.ntmps65
 go_upto_region 0 with fail
 refine wp_region_lit ?_
 refine Ln ?_ (z := q7 .u8 80 (j0 P)) (t := 45)
 intro V8 W1 s8 hO h_
 replace off0 := off0.o hO
 have k_t1 := h_
 clear hO h_ s8
 refine Ln ?_ (z := p4 0 0 0 0) (t := 60)
 intro r7 W2 z7 hO h_
 have u9 := i3 off0 z7
 replace k_t1 := k_t1.o hO
 replace off0 := off0.o hO
 have k_t2 := h_
 clear hO h_ z7
 refine Ln ?_ (z := c4 0) (t := 42)
 intro q0q W3 d7 hO h_
 have nq_t2_t3 := bn k_t2 d7
 have G5 := i3 off0 d7
 replace k_t1 := k_t1.o hO
 replace k_t2 := k_t2.o hO
 replace off0 := off0.o hO
 have k_t3 := h_
 clear hO h_ d7
 refine Lw ?_ (v := .int .i64 0)
 refine q5 ?_
 go_upto_region 1 with fail
 refine wp_region_lit ?_
 refine Lw ?_ (v := .slice (some ⟨p1_1, 0, none⟩) 32 80) (hv := by first | rfl | (go_simp; done) | (go_simp; with_reducible rfl))
 refine Lw ?_ (v := .pointer (some ⟨p1_1, 0, none⟩)) (hv := by first | rfl | (go_simp; done) | (go_simp; with_reducible rfl))
 refine z0 (vs := (q7 .u8 32 (j0 (pG P))).toList) (by rfl) rfl rfl k_t1 (Y7 j0h) (by kernel_rfl) (by kernel_rfl) ?_
 (try simp only [Act.put, mA, mB, mC])
 refine Lr ?_ (dc W3 (y7 hG off0.ext).1)
 intro W4 hO
 replace k_t1 := k_t1.o hO
 replace k_t2 := k_t2.o hO
 replace k_t3 := k_t3.o hO
 replace off0 := off0.o hO
 clear hO
 refine Lv ?_
 refine Lv ?_
 refine Lw ?_ (v := .int .i64 15)
 refine U0 ?_ (z := p4 0 0 0 0) (t := 60) (cells := p4 0 0 0 0)
 intro q4h W6 d6 hO h_
 replace k_t1 := k_t1.o hO
 replace k_t2 := k_t2.o hO
 replace k_t3 := k_t3.o hO
 replace off0 := off0.o hO
 clear hO h_ d6
 refine Lw ?_ (v := .int .i64 15)
 refine q5 ?_
 go_upto_region 2 with fail
 refine wp_region_lit ?_
 refine Lw ?_ (v := .slice (some ⟨p1_1, 48, none⟩) 32 32) (hv := by first | rfl | (go_simp; done) | (go_simp; with_reducible rfl))
 refine Lw ?_ (v := .pointer (some ⟨p1_1, 48, none⟩)) (hv := by first | rfl | (go_simp; done) | (go_simp; with_reducible rfl))
 refine z0 (vs := (q7 .u8 32 (j0 (pN P))).toList) (by rfl) rfl rfl k_t1 (Y7 j4m) (by kernel_rfl) (by kernel_rfl) ?_
 (try simp only [Act.put, mA, mB, mC])
 refine Lr ?_ (q8f h1 hP W6 (y7 hG off0.ext).2.2.1)
 intro W7 hO
 replace k_t2 := k_t2.o hO
 replace k_t3 := k_t3.o hO
 replace off0 := off0.o hO
 clear hO
 refine Lv ?_
 refine Lv ?_
 refine Lw ?_ (v := .bool false)
 refine U0 ?_ (z := c4 0) (t := 42) (cells := c4 0)
 intro q7c W9 u6 hO h_
 replace k_t2 := k_t2.o hO
 replace k_t3 := k_t3.o hO
 replace off0 := off0.o hO
 clear hO h_ u6
 refine Lw ?_ (v := .bool false)
 refine q5 ?_
 go_upto_region 4 with fail
 refine wp_region_lit ?_
 refine Lw ?_ (v := .agg (p4 0 0 0 0)) (hv := by kernel_rfl)
 refine Lw ?_ (v := .agg (c4 0)) (hv := by kernel_rfl)
 refine Lp ?_ k_t2 (cells := p4 0 0 0 0)
 intro W10 hO h_
 replace k_t2 : Blk W10 r7 (p4 0 0 0 0) 60 := h_
 clear h_
 replace k_t3 := k_t3.p hO nq_t2_t3.symm
 replace off0 := off0.p hO u9
 clear hO
 refine Lp ?_ k_t3 (cells := c4 0)
 intro W11 hO h_
 replace k_t3 : Blk W11 q0q (c4 0) 42 := h_
 clear h_
 replace k_t2 := k_t2.p hO nq_t2_t3
 replace off0 := off0.p hO G5
 clear hO
 refine Lw ?_ (v := .int .i64 17)
 refine q5 ?_
 go_wp2
 exact bodyPost_ret (R8 rfl rfl rfl rfl k_t2 k_t3 (by kernel_rfl) (by kernel_rfl) (by kernel_rfl) (by kernel_rfl)) rfl ⟨rfl, off0.ext⟩
theorem j4o (hc : kn.c) {P : Nat} (hP : B80 P) (hok : K0 (pG P) = false) (h1 : pN P < LL) :
  ∀ w, GA kn w → Calls Tryd.prog 65 #[.agg (q7 .u8 80 (j0 P))] w fun e w' => h9 (.tuple #[.agg (p4 0 0 0 0), .agg (c4 0), .int .i64 17]) w w' e := by
 have dc := q3d (kn := kn) hc (V := (pG P)) (q8k P) hok
 intro w hG
 have off0 : Off [] w w := Off.refl _ _
 go_enter Tryd.func65, Tryd.ntmps65
 go_upto_region 0 with fail
 refine wp_region_lit ?_
 refine Ln ?_ (z := q7 .u8 80 (j0 P)) (t := 45)
 intro V8 W1 s8 hO h_
 replace off0 := off0.o hO
 have k_t1 := h_
 clear hO h_ s8
 refine Ln ?_ (z := p4 0 0 0 0) (t := 60)
 intro r7 W2 z7 hO h_
 have u9 := i3 off0 z7
 replace k_t1 := k_t1.o hO
 replace off0 := off0.o hO
 have k_t2 := h_
 clear hO h_ z7
 refine Ln ?_ (z := c4 0) (t := 42)
 intro q0q W3 d7 hO h_
 have nq_t2_t3 := bn k_t2 d7
 have G5 := i3 off0 d7
 replace k_t1 := k_t1.o hO
 replace k_t2 := k_t2.o hO
 replace off0 := off0.o hO
 have k_t3 := h_
 clear hO h_ d7
 refine Lw ?_ (v := .int .i64 0)
 refine q5 ?_
 go_upto_region 1 with fail
 refine wp_region_lit ?_
 refine Lw ?_ (v := .slice (some ⟨p1_1, 0, none⟩) 32 80) (hv := by first | rfl | (go_simp; done) | (go_simp; with_reducible rfl))
 refine Lw ?_ (v := .pointer (some ⟨p1_1, 0, none⟩)) (hv := by first | rfl | (go_simp; done) | (go_simp; with_reducible rfl))
 refine z0 (vs := (q7 .u8 32 (j0 (pG P))).toList) (by rfl) rfl rfl k_t1 (Y7 j0h) (by kernel_rfl) (by kernel_rfl) ?_
 (try simp only [Act.put, mA, mB, mC])
 refine Lr ?_ (dc W3 (y7 hG off0.ext).1)
 intro W4 hO
 replace k_t1 := k_t1.o hO
 replace k_t2 := k_t2.o hO
 replace k_t3 := k_t3.o hO
 replace off0 := off0.o hO
 clear hO
 refine Lv ?_
 refine Lv ?_
 refine Lw ?_ (v := .int .i64 15)
 refine U0 ?_ (z := p4 0 0 0 0) (t := 60) (cells := p4 0 0 0 0)
 intro q4h W6 d6 hO h_
 replace k_t1 := k_t1.o hO
 replace k_t2 := k_t2.o hO
 replace k_t3 := k_t3.o hO
 replace off0 := off0.o hO
 clear hO h_ d6
 refine Lw ?_ (v := .int .i64 15)
 refine q5 ?_
 go_upto_region 2 with fail
 refine wp_region_lit ?_
 refine Lw ?_ (v := .slice (some ⟨p1_1, 48, none⟩) 32 32) (hv := by first | rfl | (go_simp; done) | (go_simp; with_reducible rfl))
 refine Lw ?_ (v := .pointer (some ⟨p1_1, 48, none⟩)) (hv := by first | rfl | (go_simp; done) | (go_simp; with_reducible rfl))
 refine z0 (vs := (q7 .u8 32 (j0 (pN P))).toList) (by rfl) rfl rfl k_t1 (Y7 j4m) (by kernel_rfl) (by kernel_rfl) ?_
 (try simp only [Act.put, mA, mB, mC])
 refine Lr ?_ (q8e h1 W6 (y7 hG off0.ext).2.2.1)
 intro W7 hO
 replace k_t2 := k_t2.o hO
 replace k_t3 := k_t3.o hO
 replace off0 := off0.o hO
 clear hO
 refine Lv ?_
 refine Lv ?_
 refine Lw ?_ (v := .bool true)
 refine U0 ?_ (z := c4 0) (t := 42) (cells := c4 (pN P))
 intro q7c W9 u6 hO h_
 replace k_t2 := k_t2.o hO
 replace k_t3 := k_t3.o hO
 replace off0 := off0.o hO
 clear hO h_ u6
 refine Lw ?_ (v := .bool true)
 refine q5 ?_
 go_upto_region 4 with fail
 refine wp_region_lit ?_
 refine Lw ?_ (v := .agg (p4 0 0 0 0)) (hv := by kernel_rfl)
 refine Lw ?_ (v := .agg (c4 0)) (hv := by kernel_rfl)
 refine Lp ?_ k_t2 (cells := p4 0 0 0 0)
 intro W10 hO h_
 replace k_t2 : Blk W10 r7 (p4 0 0 0 0) 60 := h_
 clear h_
 replace k_t3 := k_t3.p hO nq_t2_t3.symm
 replace off0 := off0.p hO u9
 clear hO
 refine Lp ?_ k_t3 (cells := c4 0)
 intro W11 hO h_
 replace k_t3 : Blk W11 q0q (c4 0) 42 := h_
 clear h_
 replace k_t2 := k_t2.p hO nq_t2_t3
 replace off0 := off0.p hO G5
 clear hO
 refine Lw ?_ (v := .int .i64 17)
 refine q5 ?_
 go_wp2
 exact bodyPost_ret (R8 rfl rfl rfl rfl k_t2 k_t3 (by kernel_rfl) (by kernel_rfl) (by kernel_rfl) (by kernel_rfl)) rfl ⟨rfl, off0.ext⟩
theorem j4p (hc : kn.c) {P : Nat} (hP : B80 P) (hok : K0 (pG P) = true) (h1 : LL ≤ pN P) :
  ∀ w, GA kn w → Calls Tryd.prog 65 #[.agg (q7 .u8 80 (j0 P))] w fun e w' => h9 (.tuple #[.agg (p4 0 0 0 0), .agg (c4 0), .int .i64 17]) w w' e := by
 obtain ⟨dx, dt, dr, dc⟩ := L1 hc (V := (pG P)) (q8k P) hok
 obtain ⟨y0, hy0⟩ := z8 ((pG P) % 2 ^ 255)
 rw [← hy0] at dr dc
 clear hy0
 intro w hG
 have off0 : Off [] w w := Off.refl _ _
 go_enter Tryd.func65, Tryd.ntmps65
 go_upto_region 0 with fail
 refine wp_region_lit ?_
 refine Ln ?_ (z := q7 .u8 80 (j0 P)) (t := 45)
 intro V8 W1 s8 hO h_
 replace off0 := off0.o hO
 have k_t1 := h_
 clear hO h_ s8
 refine Ln ?_ (z := p4 0 0 0 0) (t := 60)
 intro r7 W2 z7 hO h_
 have u9 := i3 off0 z7
 replace k_t1 := k_t1.o hO
 replace off0 := off0.o hO
 have k_t2 := h_
 clear hO h_ z7
 refine Ln ?_ (z := c4 0) (t := 42)
 intro q0q W3 d7 hO h_
 have nq_t2_t3 := bn k_t2 d7
 have G5 := i3 off0 d7
 replace k_t1 := k_t1.o hO
 replace k_t2 := k_t2.o hO
 replace off0 := off0.o hO
 have k_t3 := h_
 clear hO h_ d7
 refine Lw ?_ (v := .int .i64 0)
 refine q5 ?_
 go_upto_region 1 with fail
 refine wp_region_lit ?_
 refine Lw ?_ (v := .slice (some ⟨p1_1, 0, none⟩) 32 80) (hv := by first | rfl | (go_simp; done) | (go_simp; with_reducible rfl))
 refine Lw ?_ (v := .pointer (some ⟨p1_1, 0, none⟩)) (hv := by first | rfl | (go_simp; done) | (go_simp; with_reducible rfl))
 refine z0 (vs := (q7 .u8 32 (j0 (pG P))).toList) (by rfl) rfl rfl k_t1 (Y7 j0h) (by kernel_rfl) (by kernel_rfl) ?_
 (try simp only [Act.put, mA, mB, mC])
 refine Lr ?_ (dc W3 (y7 hG off0.ext).1)
 intro W4 hO
 replace k_t1 := k_t1.o hO
 replace k_t2 := k_t2.o hO
 replace k_t3 := k_t3.o hO
 replace off0 := off0.o hO
 clear hO
 refine Lv ?_
 refine Lv ?_
 refine Lw ?_ (v := .int .i64 0)
 refine U0 ?_ (z := p4 0 0 0 0) (t := 60) (cells := p4 dx y0 1 dt)
 intro q4h W6 d6 hO h_
 replace k_t1 := k_t1.o hO
 replace k_t2 := k_t2.o hO
 replace k_t3 := k_t3.o hO
 replace off0 := off0.o hO
 clear hO h_ d6
 refine Lw ?_ (v := .int .i64 0)
 refine q5 ?_
 go_upto_region 2 with fail
 refine wp_region_lit ?_
 refine Lw ?_ (v := .slice (some ⟨p1_1, 48, none⟩) 32 32) (hv := by first | rfl | (go_simp; done) | (go_simp; with_reducible rfl))
 refine Lw ?_ (v := .pointer (some ⟨p1_1, 48, none⟩)) (hv := by first | rfl | (go_simp; done) | (go_simp; with_reducible rfl))
 refine z0 (vs := (q7 .u8 32 (j0 (pN P))).toList) (by rfl) rfl rfl k_t1 (Y7 j4m) (by kernel_rfl) (by kernel_rfl) ?_
 (try simp only [Act.put, mA, mB, mC])
 refine Lr ?_ (q8f h1 hP W6 (y7 hG off0.ext).2.2.1)
 intro W7 hO
 replace k_t2 := k_t2.o hO
 replace k_t3 := k_t3.o hO
 replace off0 := off0.o hO
 clear hO
 refine Lv ?_
 refine Lv ?_
 refine Lw ?_ (v := .bool false)
 refine U0 ?_ (z := c4 0) (t := 42) (cells := c4 0)
 intro q7c W9 u6 hO h_
 replace k_t2 := k_t2.o hO
 replace k_t3 := k_t3.o hO
 replace off0 := off0.o hO
 clear hO h_ u6
 refine Lw ?_ (v := .bool false)
 refine q5 ?_
 go_upto_region 4 with fail
 refine wp_region_lit ?_
 refine Lw ?_ (v := .agg (p4 0 0 0 0)) (hv := by kernel_rfl)
 refine Lw ?_ (v := .agg (c4 0)) (hv := by kernel_rfl)
 refine Lp ?_ k_t2 (cells := p4 0 0 0 0)
 intro W10 hO h_
 replace k_t2 : Blk W10 r7 (p4 0 0 0 0) 60 := h_
 clear h_
 replace k_t3 := k_t3.p hO nq_t2_t3.symm
 replace off0 := off0.p hO u9
 clear hO
 refine Lp ?_ k_t3 (cells := c4 0)
 intro W11 hO h_
 replace k_t3 : Blk W11 q0q (c4 0) 42 := h_
 clear h_
 replace k_t2 := k_t2.p hO nq_t2_t3
 replace off0 := off0.p hO G5
 clear hO
 refine Lw ?_ (v := .int .i64 17)
 refine q5 ?_
 go_wp2
 exact bodyPost_ret (R8 rfl rfl rfl rfl k_t2 k_t3 (by kernel_rfl) (by kernel_rfl) (by kernel_rfl) (by kernel_rfl)) rfl ⟨rfl, off0.ext⟩
theorem y2s (hc : kn.c) {P : Nat} (hP : B80 P) (hok : K0 (pG P) = true) (h1 : pN P < LL) :
  ∃ X Y T, RN X Y 1 T (M6 (pG P)) ∧ ∀ w, GA kn w → Calls Tryd.prog 65 #[.agg (q7 .u8 80 (j0 P))] w fun e w' => h9 (.tuple #[.agg (p4 X Y 1 T), .agg (c4 (pN P)), .int .i64 0]) w w' e := by
 obtain ⟨dx, dt, dr, dc⟩ := L1 hc (V := (pG P)) (q8k P) hok
 obtain ⟨y0, hy0⟩ := z8 ((pG P) % 2 ^ 255)
 rw [← hy0] at dr dc
 clear hy0
 refine ⟨dx, y0, dt, dr, fun w hG => ?_⟩
 have off0 : Off [] w w := Off.refl _ _
 go_enter Tryd.func65, Tryd.ntmps65
 go_upto_region 0 with fail
 refine wp_region_lit ?_
 refine Ln ?_ (z := q7 .u8 80 (j0 P)) (t := 45)
 intro V8 W1 s8 hO h_
 replace off0 := off0.o hO
 have k_t1 := h_
 clear hO h_ s8
 refine Ln ?_ (z := p4 0 0 0 0) (t := 60)
 intro r7 W2 z7 hO h_
 have u9 := i3 off0 z7
 replace k_t1 := k_t1.o hO
 replace off0 := off0.o hO
 have k_t2 := h_
 clear hO h_ z7
 refine Ln ?_ (z := c4 0) (t := 42)
 intro q0q W3 d7 hO h_
 have nq_t2_t3 := bn k_t2 d7
 have G5 := i3 off0 d7
 replace k_t1 := k_t1.o hO
 replace k_t2 := k_t2.o hO
 replace off0 := off0.o hO
 have k_t3 := h_
 clear hO h_ d7
 refine Lw ?_ (v := .int .i64 0)
 refine q5 ?_
 go_upto_region 1 with fail
 refine wp_region_lit ?_
 refine Lw ?_ (v := .slice (some ⟨p1_1, 0, none⟩) 32 80) (hv := by first | rfl | (go_simp; done) | (go_simp; with_reducible rfl))
 refine Lw ?_ (v := .pointer (some ⟨p1_1, 0, none⟩)) (hv := by first | rfl | (go_simp; done) | (go_simp; with_reducible rfl))
 refine z0 (vs := (q7 .u8 32 (j0 (pG P))).toList) (by rfl) rfl rfl k_t1 (Y7 j0h) (by kernel_rfl) (by kernel_rfl) ?_
 (try simp only [Act.put, mA, mB, mC])
 refine Lr ?_ (dc W3 (y7 hG off0.ext).1)
 intro W4 hO
 replace k_t1 := k_t1.o hO
 replace k_t2 := k_t2.o hO
 replace k_t3 := k_t3.o hO
 replace off0 := off0.o hO
 clear hO
 refine Lv ?_
 refine Lv ?_
 refine Lw ?_ (v := .int .i64 0)
 refine U0 ?_ (z := p4 0 0 0 0) (t := 60) (cells := p4 dx y0 1 dt)
 intro q4h W6 d6 hO h_
 have nq_t2_t5 := bn k_t2 d6
 have nq_t3_t5 := bn k_t3 d6
 replace k_t1 := k_t1.o hO
 replace k_t2 := k_t2.o hO
 replace k_t3 := k_t3.o hO
 replace off0 := off0.o hO
 have k_t5 := h_
 clear hO h_ d6
 refine Lw ?_ (v := .int .i64 0)
 refine q5 ?_
 go_upto_region 2 with fail
 refine wp_region_lit ?_
 refine Lw ?_ (v := .slice (some ⟨p1_1, 48, none⟩) 32 32) (hv := by first | rfl | (go_simp; done) | (go_simp; with_reducible rfl))
 refine Lw ?_ (v := .pointer (some ⟨p1_1, 48, none⟩)) (hv := by first | rfl | (go_simp; done) | (go_simp; with_reducible rfl))
 refine z0 (vs := (q7 .u8 32 (j0 (pN P))).toList) (by rfl) rfl rfl k_t1 (Y7 j4m) (by kernel_rfl) (by kernel_rfl) ?_
 (try simp only [Act.put, mA, mB, mC])
 refine Lr ?_ (q8e h1 W6 (y7 hG off0.ext).2.2.1)
 intro W7 hO
 replace k_t2 := k_t2.o hO
 replace k_t3 := k_t3.o hO
 replace k_t5 := k_t5.o hO
 replace off0 := off0.o hO
 clear hO
 refine Lv ?_
 refine Lv ?_
 refine Lw ?_ (v := .bool true)
 refine U0 ?_ (z := c4 0) (t := 42) (cells := c4 (pN P))
 intro q7c W9 u6 hO h_
 have nq_t2_t7 := bn k_t2 u6
 have nq_t3_t7 := bn k_t3 u6
 replace k_t2 := k_t2.o hO
 replace k_t3 := k_t3.o hO
 replace k_t5 := k_t5.o hO
 replace off0 := off0.o hO
 have k_t7 := h_
 clear hO h_ u6
 refine Lw ?_ (v := .bool true)
 refine q5 ?_
 go_upto_region 5 with fail
 refine p6 (.q 0 (.q 1 (.e 2 (.e 3 (.q 4 .z))))) (fun W => (Blk W q4h (p4 dx y0 1 dt) 60) ∧ (Blk W q7c (c4 (pN P)) 42)) (by kernel_rfl) (by kernel_rfl) ?_
 intro W10 hO
 replace k_t2 := k_t2.o hO
 replace k_t3 := k_t3.o hO
 replace k_t5 := k_t5.o hO
 replace k_t7 := k_t7.o hO
 replace off0 := off0.o hO
 clear hO
 refine ⟨⟨k_t5, k_t7⟩, ?_⟩
 refine b8 (v := .agg (p4 dx y0 1 dt)) rfl (by rfl) (fun W hS => by exact (f4 rfl rfl (hS.1) (by kernel_rfl) (by kernel_rfl))) ?_
 (try simp only [Act.put, mA, mB, mC])
 refine b8 (v := .agg (c4 (pN P))) rfl (by rfl) (fun W hS => by exact (f4 rfl rfl (hS.2) (by kernel_rfl) (by kernel_rfl))) ?_
 (try simp only [Act.put, mA, mB, mC])
 refine t0 rfl ?_
 refine Lp ?_ k_t2 (cells := p4 dx y0 1 dt)
 intro W11 hO h_
 replace k_t2 : Blk W11 r7 (p4 dx y0 1 dt) 60 := h_
 clear h_
 replace k_t3 := k_t3.p hO nq_t2_t3.symm
 replace k_t5 := k_t5.p hO nq_t2_t5.symm
 replace k_t7 := k_t7.p hO nq_t2_t7.symm
 replace off0 := off0.p hO u9
 clear hO
 refine o5 (fun W => (Blk W q4h (p4 dx y0 1 dt) 60) ∧ (Blk W q7c (c4 (pN P)) 42)) (fun W hS => ⟨hS.1, hS.2⟩) ⟨k_t5, k_t7⟩ ?_
 refine t0 rfl ?_
 refine Lp ?_ k_t3 (cells := c4 (pN P))
 intro W12 hO h_
 replace k_t3 : Blk W12 q0q (c4 (pN P)) 42 := h_
 clear h_
 replace k_t2 := k_t2.p hO nq_t2_t3
 replace k_t5 := k_t5.p hO nq_t3_t5.symm
 replace k_t7 := k_t7.p hO nq_t3_t7.symm
 replace off0 := off0.p hO G5
 clear hO
 refine o5 (fun W => (Blk W q4h (p4 dx y0 1 dt) 60) ∧ (Blk W q7c (c4 (pN P)) 42)) (fun W hS => ⟨hS.1, hS.2⟩) ⟨k_t5, k_t7⟩ ?_
 (refine b8 (v := ?_) rfl (by rfl) (fun W hS => ?_) ?_; rotate_left 1; (focus (go_simp; first | done | with_reducible rfl)))
 (try simp only [Act.put, mA, mB, mC])
 refine q1t ?_
 go_wp2
 exact bodyPost_ret (R8 rfl rfl rfl rfl k_t2 k_t3 (by kernel_rfl) (by kernel_rfl) (by kernel_rfl) (by kernel_rfl)) rfl ⟨rfl, off0.ext⟩
theorem g0p (hc : kn.c) {P X : Nat} (hok : K0 (pG P) = true) (hX : X = q8m P) :
  ∀ w, GA kn w → Calls Tryd.prog 27 #[.agg (q7 .u8 80 (j0 P))] w fun e w' => h9 (.tuple #[.agg (q7 .u8 64 (j0 X)), .int .i64 0]) w w' e := by
 obtain ⟨dx, dt, dr, dc⟩ := L1 hc (V := (pG P)) (q8k P) hok
 obtain ⟨y0, hy0⟩ := z8 ((pG P) % 2 ^ 255)
 rw [← hy0] at dr dc
 clear hy0
 obtain ⟨x1, y2, z3, t4, r5, c6⟩ := C7 (kn := kn) dr.rw
 obtain ⟨U1, hU1⟩ := z8 (r4 (pm (M6 (pG P)) 8))
 have bU1 : U1 < 2 ^ 256 := by rw [hU1]; exact B9 _
 have HU1 := Lib.hid hU1
 clear hU1
 obtain ⟨U2, hU2⟩ := z8 (hs ([3, 3] ++ (lb 32 U1) ++ [0]))
 have HU2 := Lib.hid hU2
 clear hU2
 intro w hG
 have off0 : Off [] w w := Off.refl _ _
 go_enter Tryd.func27, Tryd.ntmps27
 go_upto_region 0 with fail
 refine wp_region_lit ?_
 refine Ln ?_ (z := q7 .u8 80 (j0 P)) (t := 45)
 intro V8 W1 s8 hO h_
 replace off0 := off0.o hO
 have k_t1 := h_
 clear hO h_ s8
 refine Ln ?_ (z := q7 .u8 64 (j0 0)) (t := 30)
 intro r7 W2 z7 hO h_
 have u9 := i3 off0 z7
 replace k_t1 := k_t1.o hO
 replace off0 := off0.o hO
 have k_t2 := h_
 clear hO h_ z7
 refine Lw ?_ (v := .int .i64 0)
 refine q5 ?_
 go_upto_region 1 with fail
 refine wp_region_lit ?_
 refine Lw ?_ (v := .slice (some ⟨p1_1, 0, none⟩) 32 80) (hv := by first | rfl | (go_simp; done) | (go_simp; with_reducible rfl))
 refine Lw ?_ (v := .pointer (some ⟨p1_1, 0, none⟩)) (hv := by first | rfl | (go_simp; done) | (go_simp; with_reducible rfl))
 refine z0 (vs := (q7 .u8 32 (j0 (pG P))).toList) (by rfl) rfl rfl k_t1 (Y7 j0h) (by kernel_rfl) (by kernel_rfl) ?_
 (try simp only [Act.put, mA, mB, mC])
 refine Lr ?_ (dc W2 (y7 hG off0.ext).1)
 intro W3 hO
 replace k_t2 := k_t2.o hO
 replace off0 := off0.o hO
 clear hO
 refine Lv ?_
 refine Lv ?_
 refine Lw ?_ (v := .int .i64 0)
 refine U0 ?_ (z := p4 0 0 0 0) (t := 60) (cells := p4 dx y0 1 dt)
 intro g0o W5 c9 hO h_
 replace k_t2 := k_t2.o hO
 replace off0 := off0.o hO
 have k_t4 := h_
 clear hO h_ c9
 refine Lw ?_ (v := .int .i64 0)
 refine q5 ?_
 go_upto_region 4 with fail
 refine wp_region_lit ?_
 refine L0 ?_ k_t4
 refine Lr ?_ (c6 W5 (y7 hG off0.ext).1)
 intro W6 hO
 replace k_t2 := k_t2.o hO
 replace off0 := off0.o hO
 clear hO
 refine Lr ?_ (O1 r5.rw HU1.out W6 (y7 hG off0.ext).1)
 intro W7 hO
 replace k_t2 := k_t2.o hO
 replace off0 := off0.o hO
 clear hO
 refine LnA ?_ (z := q7 .u8 32 (j0 0)) (t := 22) (k := .u8) (n := 32) (f := j0 U1)
 intro g9y W9 e7 hO h_
 replace k_t2 := k_t2.o hO
 replace off0 := off0.o hO
 have k_t6 := h_
 clear hO h_ e7
 refine q5 ?_
 go_upto_region 5 with fail
 refine wp_region_lit ?_
 refine E3 ?_ (z := #[.int .u8 3, .int .u8 3]) (t := 5) (n := 2) (c := 2)
 intro g7i W10 g4o hO h_
 replace k_t2 := k_t2.o hO
 replace k_t6 := k_t6.o hO
 replace off0 := off0.o hO
 have ow_s20 : Own W10 (.slice (some ⟨p20_10, 0, none⟩) 2 2) [3, 3] := d8 h_ (by rfl) (by show 2 ≤ maxLen; decide)
 clear hO h_ g4o
 refine Lw ?_ (v := .slice (some ⟨p6_8, 0, none⟩) 32 32) (hv := by first | rfl | (go_simp; done) | (go_simp; with_reducible rfl))
 refine E3 ?_ (z := #[.int .u8 0]) (t := 5) (n := 1) (c := 1)
 intro g0q W11 q5j hO h_
 replace k_t2 := k_t2.o hO
 replace k_t6 := k_t6.o hO
 replace ow_s20 := Own.off ow_s20 hO f0
 replace off0 := off0.o hO
 have ow_s22 : Own W11 (.slice (some ⟨p22_11, 0, none⟩) 1 1) [0] := d8 h_ (by rfl) (by show 1 ≤ maxLen; decide)
 clear hO h_ q5j
 refine E3 ?_ (z := #[(.slice (some ⟨p20_10, 0, none⟩) 2 2), .slice (some ⟨p6_8, 0, none⟩) 32 32, (.slice (some ⟨p22_11, 0, none⟩) 1 1)]) (t := 23) (n := 3) (c := 3) (hr := by exact p7 [(.slice (some ⟨p20_10, 0, none⟩) 2 2), .slice (some ⟨p6_8, 0, none⟩) 32 32, (.slice (some ⟨p22_11, 0, none⟩) 1 1)] rfl rfl (vsc ((r9 ow_s20).1) (vsc (rfl) (vsc ((r9 ow_s22).1) vs0))) Tryd.underlying112 (by kernel_rfl) (by kernel_rfl) rfl (by decide) (by decide))
 intro g7j W12 F8 hO h_
 replace k_t2 := k_t2.o hO
 replace k_t6 := k_t6.o hO
 replace ow_s20 := Own.off ow_s20 hO f0
 replace ow_s22 := Own.off ow_s22 hO f0
 replace off0 := off0.o hO
 have Q8 := h_
 clear hO h_ F8
 refine Lr ?_ (F1 HU2.out [[3, 3], lb 32 U1, [0]] (some ⟨p23_12, 0, none⟩) 3 (by simp only [List.flatten_cons, List.flatten_nil, List.append_nil, List.nil_append, List.append_assoc, List.cons_append]) (by first | omega | (simp only [List.length_append, List.length_cons, List.length_nil, g7]; omega)) (by simp) W12 (B1 Q8 (pvc (ow_s20.sl) (pvc (d9 (V := U1) (n := 32) (off := 0) k_t6 ap0 (by decide) (by decide)) (pvc (ow_s22.sl) pv0)))) (y7 hG off0.ext).2.1)
 intro W13 hO
 replace k_t2 := k_t2.o hO
 replace off0 := off0.o hO
 clear hO
 refine LpA ?_ k_t2 (k := .u8) (n := 64) (f := j0 U2)
 intro W14 hO h_
 replace k_t2 : Blk W14 r7 (q7 .u8 64 (j0 U2)) 30 := h_
 clear h_
 replace off0 := off0.p hO u9
 clear hO
 refine Lw ?_ (v := .int .i64 0)
 refine q5 ?_
 go_wp2
 rw [hX, show q8m P = U2 by rw [HU2.out, HU1.out]; rfl]
 exact bodyPost_ret (u5 rfl rfl rfl k_t2 (by kernel_rfl) (by rw [y5]; kernel_rfl)) rfl ⟨rfl, off0.ext⟩
end Go.Proofs.YtefpoollmbmkfaaDoor
