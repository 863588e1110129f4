/- vrf: point. Conditions: the cells of the variables hold their numbers. vrf: mark, wide. Conditions: the cells of the variables hold their numbers. vrf: key, parts, Sum, Index. Conditions: the cells of the variables hold their numbers. -/
import Derived.Test.YtefpoollmbmkfaaDoorGc
import Derived.Test.YtefpoollmbmkfaaDoorVf
import Derived.Test.YtefpoollmbmkfaaDoorSgC
set_option linter.unusedSimpArgs false
set_option linter.unusedVariables false
namespace Go.Proofs.YtefpoollmbmkfaaDoor
set_option maxHeartbeats 2000000
set_option maxRecDepth 100000
open Go.RowKit
attribute [local irreducible] wpList
variable {kn : Kn}
open Sc (LL e9)
attribute [local irreducible] hs
theorem q4x {A B : Nat} {v : Value} {w : World} (h : A = B) (c : Calls Tryd.prog 31 #[.agg (q7 .u8 32 (j0 B))] w fun e w' => m7 v w w' e) : Calls Tryd.prog 31 #[.agg (q7 .u8 32 (j0 A))] w fun e w' => m7 v w w' e := h ▸ c
theorem y1h {w : World} {o : Oper} {a : Act} {x y : Operand} {t t' : TypeId} {i n : Nat} {c : Bool} (hc : decide (i < n) = c) (ho : o.op = .binOp .lss t x y t') (hx : a.eval x = .int .i64 (i : Int)) (hy : a.eval y = .int .i64 (n : Int)) : (execOp a.eval o).run Tryd.prog w = .ok (.value (.bool c)) w := by
  have e : decide ((i : Int) < (n : Int)) = c := by rw [← hc]; exact decide_eq_decide.2 Int.ofNat_lt
  simp only [execOp, ho, hx, hy, eqGuard, binOp, Sem.run_bind]
  simp [e, hc, go_sem, Sem.run_bind]
theorem y1i {w : World} {o : Oper} {a : Act} {x : Operand} {i : Nat} (ho : o.op = .convert 3 5 x) (hx : a.eval x = .int .i64 (i : Int)) : (execOp a.eval o).run Tryd.prog w = .ok (.value (.int .u8 ((u8 i).toNat : Int))) w := by
  rw [q8c, show ((i : Int) % 256) = w8 (i : Int) from (IntKind.wrap_u8 _).symm]; exact j5l ho hx

theorem y1j (hc : kn.c) {V : Nat} {L : List UInt8} (hL : L.length ≤ 1099511627776) (c0 : Nat) (h256 : c0 < 256) (hok : r9 V L c0 = true) (hlow : ∀ i, i < c0 → r9 V L i = false) :
  ∃ X Y Z T, RN X Y Z T (a6 V L c0) ∧ ∀ v w, GA kn w → Sl w v L → Calls Tryd.prog 60 #[.agg (q7 .u8 32 (j0 V)), v] w fun e w' => m7 (.tuple #[.agg (p4 X Y Z T), .int .i64 0]) w w' e := by
 obtain ⟨dx0, dt0, dr0, dc0⟩ := R9 (kn := kn) hc (q1u V L c0) (candOk_iff.1 hok).1
 obtain ⟨dy0, hdy0⟩ := z8 (A9 V L c0 % 2 ^ 255)
 rw [← hdy0] at dr0 dc0
 clear hdy0
 obtain ⟨ex0, ey0, ez0, et0, er0, ec0⟩ := F0 (kn := kn) dr0.rw
 replace er0 : RN ex0 ey0 ez0 et0 (a6 V L c0) := er0
 refine ⟨ex0, ey0, ez0, et0, er0, fun v w hG hsl => ?_⟩
 have y6 := hsl
 have off0 : Off [] w w := Off.refl _ _
 go_enter Tryd.func60, Tryd.ntmps60
 go_upto_region 0 with fail
 refine wp_region_lit ?_
 refine Ln ?_ (z := q7 .u8 32 (j0 V)) (t := 22)
 intro v9 W1 z4 hO h_
 replace y6 := Sl.off y6 hO f0
 replace off0 := off0.o hO
 have k_t2 := h_
 clear hO h_ z4
 refine Ln ?_ (z := p4 0 0 0 0) (t := 60)
 intro L3 W2 a7 hO h_
 have nq_t2_t4 := bn k_t2 a7
 have j6f := d8 (Sl.lt y6) a7
 have Q9 := l4 off0 a7
 replace k_t2 := k_t2.o hO
 replace y6 := Sl.off y6 hO f0
 replace off0 := off0.o hO
 have k_t4 := h_
 clear hO h_ a7
 refine Lw ?_ (v := .int .i64 0)
 refine q5 ?_
 go_wp2_with fail
 go_loopw [10] (fun ii wr => ∃ (i : Nat), (i ≤ c0) ∧ (ii = .int .i64 (i : Int)) ∧ Off [] w wr ∧ Blk wr v9 (q7 .u8 32 (j0 V)) 22 ∧ Blk wr L3 (p4 0 0 0 0) 60 ∧ Sl wr v L)
  (fun ii _ => (256 - intOf ii).toNat)
 case atStart => exact ⟨0, Nat.zero_le _, rfl, off0, k_t2, k_t4, y6⟩
 case round =>
  obtain ⟨i, hi, rfl, off0, k_t2, k_t4, y6⟩ := hrel
  obtain ⟨W3, eW_⟩ := O6 off0
  subst eW_
  go_upto_region 2 with fail
  refine wp_region_lit ?_
  refine Lw ?_ (v := .bool true) (hv := by exact y1h (i := i) (n := 256) (decide_eq_true (by omega)) rfl rfl rfl)
  refine q5 ?_
  by_cases hi0 : i = c0
  ·
   have _f := hi0
   subst hi0
   have hdo := (candOk_iff.1 hok).1
   have hne := (candOk_iff.1 hok).2
   go_upto_region 4 with fail
   refine wp_region_lit ?_
   refine I4 ?_ (z := #[.int .u8 3, .int .u8 1]) (t := 5) (n := 2) (c := 2)
   intro O7 W4 q6i hO h_
   have y6a : Value.ownBlock (.slice (some ⟨O7, 0, none⟩) 2 2) ≠ some L3 := obn k_t4 q6i
   replace k_t2 := k_t2.o hO
   replace k_t4 := k_t4.o hO
   replace y6 := Sl.off y6 hO f0
   replace off0 := off0.o hO
   have ow_s13 : Own W4 (.slice (some ⟨O7, 0, none⟩) 2 2) [3, 1] := b5 h_ (by rfl) (by show 2 ≤ maxLen; decide)
   clear hO h_ q6i
   refine Lw ?_ (v := .slice (some ⟨v9, 0, none⟩) 32 32) (hv := by first | rfl | (go_simp; done) | (go_simp; with_reducible rfl))
   refine Lv ?_
   refine Lv ?_
   refine Lw ?_ (v := .int .u8 ((UInt8.ofNat i).toNat : Int)) (hv := by exact y1i rfl rfl)
   refine I4 ?_ (z := #[.int .u8 ((UInt8.ofNat i).toNat : Int), .int .u8 0]) (t := 5) (n := 2) (c := 2)
   intro O8 W5 q6j hO h_
   have y6b : Value.ownBlock (.slice (some ⟨O8, 0, none⟩) 2 2) ≠ some L3 := obn k_t4 q6j
   replace k_t2 := k_t2.o hO
   replace k_t4 := k_t4.o hO
   replace y6 := Sl.off y6 hO f0
   replace ow_s13 := Own.off ow_s13 hO f0
   replace off0 := off0.o hO
   have ow_s18 : Own W5 (.slice (some ⟨O8, 0, none⟩) 2 2) [UInt8.ofNat i, 0] := b5 h_ (by rfl) (by show 2 ≤ maxLen; decide)
   clear hO h_ q6j
   refine I4 ?_ (z := #[(.slice (some ⟨O7, 0, none⟩) 2 2), .slice (some ⟨v9, 0, none⟩) 32 32, v, (.slice (some ⟨O8, 0, none⟩) 2 2)]) (t := 23) (n := 4) (c := 4) (hr := by exact Q5 [(.slice (some ⟨O7, 0, none⟩) 2 2), .slice (some ⟨v9, 0, none⟩) 32 32, v, (.slice (some ⟨O8, 0, none⟩) 2 2)] rfl rfl (vsc ((p3 ow_s13).1) (vsc (rfl) (vsc ((w5 y6).1) (vsc ((p3 ow_s18).1) vs0)))) Tryd.underlying112 (by kernel_rfl) (by kernel_rfl) rfl (by decide) (by decide))
   intro q9q W6 q6k hO h_
   have nq_t4_s19 := bn k_t4 q6k
   replace k_t2 := k_t2.o hO
   replace k_t4 := k_t4.o hO
   replace y6 := Sl.off y6 hO f0
   replace ow_s13 := Own.off ow_s13 hO f0
   replace ow_s18 := Own.off ow_s18 hO f0
   replace off0 := off0.o hO
   have k_s19 := h_
   clear hO h_ q6k
   obtain ⟨U1, hU1⟩ := z8 (hs ([3, 1] ++ (lb 32 V) ++ L ++ [UInt8.ofNat i, 0]))
   have HU1 := Lib.hid hU1
   clear hU1
   refine Lr ?_ (L6 HU1.out [[3, 1], lb 32 V, L, [UInt8.ofNat i, 0]] (some ⟨q9q, 0, none⟩) 4 (by simp only [List.flatten_cons, List.flatten_nil, List.append_nil, List.nil_append, List.append_assoc, List.cons_append]) (by first | omega | (simp only [List.length_append, List.length_cons, List.length_nil, g7]; omega)) (by simp) W6 (A0 k_s19 (pvc (ow_s13.sl) (pvc (b6 (V := V) (n := 32) (off := 0) k_t2 ap0 (by decide) (by decide)) (pvc y6 (pvc (ow_s18.sl) pv0))))) (y7 hG off0.ext).2.1)
   intro W7 hO
   replace k_t2 := k_t2.o hO
   replace k_t4 := k_t4.o hO
   replace k_s19 := k_s19.o hO
   replace y6 := Sl.off y6 hO f0
   replace ow_s13 := Own.off ow_s13 hO f0
   replace ow_s18 := Own.off ow_s18 hO f0
   replace off0 := off0.o hO
   clear hO
   refine LnA ?_ (z := q7 .u8 64 (j0 0)) (t := 30) (k := .u8) (n := 64) (f := j0 U1)
   intro L9 W9 u9 hO h_
   have nq_t4_t7 := bn k_t4 u9
   replace k_t2 := k_t2.o hO
   replace k_t4 := k_t4.o hO
   replace k_s19 := k_s19.o hO
   replace y6 := Sl.off y6 hO f0
   replace ow_s13 := Own.off ow_s13 hO f0
   replace ow_s18 := Own.off ow_s18 hO f0
   replace off0 := off0.o hO
   have k_t7 := h_
   clear hO h_ u9
   refine q5 ?_
   go_upto_region 5 with fail
   refine wp_region_lit ?_
   refine Lw ?_ (v := .slice (some ⟨L9, 0, none⟩) 32 64) (hv := by first | rfl | (go_simp; done) | (go_simp; with_reducible rfl))
   refine Lw ?_ (v := .pointer (some ⟨L9, 0, none⟩)) (hv := by first | rfl | (go_simp; done) | (go_simp; with_reducible rfl))
   refine z0 (vs := (q7 .u8 32 (j0 (lo U1))).toList) (by rfl) rfl rfl k_t7 (J0 y5v) (by kernel_rfl) (by kernel_rfl) ?_
   (try simp only [Act.put, mA, mB, mC])
   have hcb9 : lo U1 = A9 V L i := by rw [HU1.out]; rfl
   refine Lr ?_ (q4x hcb9 (dc0 W9 (y7 hG off0.ext).1))
   intro W10 hO
   replace k_t2 := k_t2.o hO
   replace k_t4 := k_t4.o hO
   replace k_s19 := k_s19.o hO
   replace k_t7 := k_t7.o hO
   replace y6 := Sl.off y6 hO f0
   replace ow_s13 := Own.off ow_s13 hO f0
   replace ow_s18 := Own.off ow_s18 hO f0
   replace off0 := off0.o hO
   clear hO
   refine Lv ?_
   refine Lv ?_
   refine Lw ?_ (v := .int .i64 0)
   refine K8 ?_ (z := p4 0 0 0 0) (t := 60) (cells := p4 dx0 dy0 1 dt0)
   intro q4y W12 n3 hO h_
   have Z5 := bn k_t2 n3
   have nq_t4_t8 := bn k_t4 n3
   have y6c := bn k_s19 n3
   have M7 := bn k_t7 n3
   have q1v := d8 (Sl.lt y6) n3
   have y6d := d8 (Own.lt ow_s13) n3
   have y6e := d8 (Own.lt ow_s18) n3
   have R6 := l4 off0 n3
   replace k_t2 := k_t2.o hO
   replace k_t4 := k_t4.o hO
   replace k_s19 := k_s19.o hO
   replace k_t7 := k_t7.o hO
   replace y6 := Sl.off y6 hO f0
   replace ow_s13 := Own.off ow_s13 hO f0
   replace ow_s18 := Own.off ow_s18 hO f0
   replace off0 := off0.o hO
   have k_t8 := h_
   clear hO h_ n3
   refine Lw ?_ (v := .int .i64 0)
   refine q5 ?_
   go_upto_region 7 with fail
   refine wp_region_lit ?_
   refine L0 ?_ k_t8
   refine Lr ?_ (ec0 W12 (y7 hG off0.ext).1)
   intro W13 hO
   replace k_t2 := k_t2.o hO
   replace k_t4 := k_t4.o hO
   replace k_s19 := k_s19.o hO
   replace k_t7 := k_t7.o hO
   replace k_t8 := k_t8.o hO
   replace y6 := Sl.off y6 hO f0
   replace ow_s13 := Own.off ow_s13 hO f0
   replace ow_s18 := Own.off ow_s18 hO f0
   replace off0 := off0.o hO
   clear hO
   refine Lp ?_ k_t8 (cells := p4 ex0 ey0 ez0 et0)
   intro W14 hO h_
   replace k_t8 : Blk W14 q4y (p4 ex0 ey0 ez0 et0) 60 := h_
   clear h_
   replace k_t2 := k_t2.p hO Z5
   replace k_t4 := k_t4.p hO nq_t4_t8
   replace k_s19 := k_s19.p hO y6c
   replace k_t7 := k_t7.p hO M7
   replace y6 := Sl.off y6 hO (f1 q1v)
   replace ow_s13 := Own.off ow_s13 hO (f1 y6d)
   replace ow_s18 := Own.off ow_s18 hO (f1 y6e)
   replace off0 := off0.p hO R6
   clear hO
   refine q5 ?_
   go_upto_region 8 with fail
   refine wp_region_lit ?_
   refine L0 ?_ k_t8
   refine Lw ?_ (v := .agg (p4 0 0 0 0)) (hv := by kernel_rfl)
   have cs_ := q1g (kn := kn) er0.rw P6
   rw [show decide (a6 V L i = p0) = false from decide_eq_false hne] at cs_
   refine Lr ?_ (cs_ W14 (y7 hG off0.ext).1)
   intro W15 hO
   replace k_t2 := k_t2.o hO
   replace k_t4 := k_t4.o hO
   replace k_s19 := k_s19.o hO
   replace k_t7 := k_t7.o hO
   replace k_t8 := k_t8.o hO
   replace y6 := Sl.off y6 hO f0
   replace ow_s13 := Own.off ow_s13 hO f0
   replace ow_s18 := Own.off ow_s18 hO f0
   replace off0 := off0.o hO
   clear hO
   refine Lw ?_ (v := .bool true)
   refine q5 ?_
   go_upto_region 9 with fail
   refine wp_region_lit ?_
   refine L0 ?_ k_t8
   refine Lp ?_ k_t4 (cells := p4 ex0 ey0 ez0 et0)
   intro W16 hO h_
   replace k_t4 : Blk W16 L3 (p4 ex0 ey0 ez0 et0) 60 := h_
   clear h_
   replace k_t2 := k_t2.p hO nq_t2_t4
   replace k_s19 := k_s19.p hO nq_t4_s19.symm
   replace k_t7 := k_t7.p hO nq_t4_t7.symm
   replace k_t8 := k_t8.p hO nq_t4_t8.symm
   replace y6 := Sl.off y6 hO (f1 j6f)
   replace ow_s13 := Own.off ow_s13 hO (f1 y6a)
   replace ow_s18 := Own.off ow_s18 hO (f1 y6b)
   replace off0 := off0.p hO Q9
   clear hO
   refine Lw ?_ (v := .int .i64 0)
   refine q5 ?_
   go_wp2
   exact bodyPost_ret (u4 rfl rfl rfl k_t4 (by kernel_rfl) (by kernel_rfl)) rfl ⟨rfl, off0.ext⟩
  ·
   have _f := hi0
   have hbad := hlow i (by omega)
   go_upto_region 4 with fail
   refine wp_region_lit ?_
   refine I4 ?_ (z := #[.int .u8 3, .int .u8 1]) (t := 5) (n := 2) (c := 2)
   intro O7 W4 q6i hO h_
   replace k_t2 := k_t2.o hO
   replace k_t4 := k_t4.o hO
   replace y6 := Sl.off y6 hO f0
   replace off0 := off0.o hO
   have ow_s13 : Own W4 (.slice (some ⟨O7, 0, none⟩) 2 2) [3, 1] := b5 h_ (by rfl) (by show 2 ≤ maxLen; decide)
   clear hO h_ q6i
   refine Lw ?_ (v := .slice (some ⟨v9, 0, none⟩) 32 32) (hv := by first | rfl | (go_simp; done) | (go_simp; with_reducible rfl))
   refine Lv ?_
   refine Lv ?_
   refine Lw ?_ (v := .int .u8 ((UInt8.ofNat i).toNat : Int)) (hv := by exact y1i rfl rfl)
   refine I4 ?_ (z := #[.int .u8 ((UInt8.ofNat i).toNat : Int), .int .u8 0]) (t := 5) (n := 2) (c := 2)
   intro O8 W5 q6j hO h_
   replace k_t2 := k_t2.o hO
   replace k_t4 := k_t4.o hO
   replace y6 := Sl.off y6 hO f0
   replace ow_s13 := Own.off ow_s13 hO f0
   replace off0 := off0.o hO
   have ow_s18 : Own W5 (.slice (some ⟨O8, 0, none⟩) 2 2) [UInt8.ofNat i, 0] := b5 h_ (by rfl) (by show 2 ≤ maxLen; decide)
   clear hO h_ q6j
   refine I4 ?_ (z := #[(.slice (some ⟨O7, 0, none⟩) 2 2), .slice (some ⟨v9, 0, none⟩) 32 32, v, (.slice (some ⟨O8, 0, none⟩) 2 2)]) (t := 23) (n := 4) (c := 4) (hr := by exact Q5 [(.slice (some ⟨O7, 0, none⟩) 2 2), .slice (some ⟨v9, 0, none⟩) 32 32, v, (.slice (some ⟨O8, 0, none⟩) 2 2)] rfl rfl (vsc ((p3 ow_s13).1) (vsc (rfl) (vsc ((w5 y6).1) (vsc ((p3 ow_s18).1) vs0)))) Tryd.underlying112 (by kernel_rfl) (by kernel_rfl) rfl (by decide) (by decide))
   intro q9q W6 q6k hO h_
   replace k_t2 := k_t2.o hO
   replace k_t4 := k_t4.o hO
   replace y6 := Sl.off y6 hO f0
   replace ow_s13 := Own.off ow_s13 hO f0
   replace ow_s18 := Own.off ow_s18 hO f0
   replace off0 := off0.o hO
   have k_s19 := h_
   clear hO h_ q6k
   obtain ⟨U2, hU2⟩ := z8 (hs ([3, 1] ++ (lb 32 V) ++ L ++ [UInt8.ofNat i, 0]))
   have HU2 := Lib.hid hU2
   clear hU2
   refine Lr ?_ (L6 HU2.out [[3, 1], lb 32 V, L, [UInt8.ofNat i, 0]] (some ⟨q9q, 0, none⟩) 4 (by simp only [List.flatten_cons, List.flatten_nil, List.append_nil, List.nil_append, List.append_assoc, List.cons_append]) (by first | omega | (simp only [List.length_append, List.length_cons, List.length_nil, g7]; omega)) (by simp) W6 (A0 k_s19 (pvc (ow_s13.sl) (pvc (b6 (V := V) (n := 32) (off := 0) k_t2 ap0 (by decide) (by decide)) (pvc y6 (pvc (ow_s18.sl) pv0))))) (y7 hG off0.ext).2.1)
   intro W7 hO
   replace k_t2 := k_t2.o hO
   replace k_t4 := k_t4.o hO
   replace y6 := Sl.off y6 hO f0
   replace off0 := off0.o hO
   clear hO
   refine LnA ?_ (z := q7 .u8 64 (j0 0)) (t := 30) (k := .u8) (n := 64) (f := j0 U2)
   intro L9 W9 u9 hO h_
   replace k_t2 := k_t2.o hO
   replace k_t4 := k_t4.o hO
   replace y6 := Sl.off y6 hO f0
   replace off0 := off0.o hO
   have k_t7 := h_
   clear hO h_ u9
   refine q5 ?_
   by_cases hdo : G9 (A9 V L i) = true
   ·
    have _f := hdo
    go_upto_region 5 with fail
    refine wp_region_lit ?_
    refine Lw ?_ (v := .slice (some ⟨L9, 0, none⟩) 32 64) (hv := by first | rfl | (go_simp; done) | (go_simp; with_reducible rfl))
    refine Lw ?_ (v := .pointer (some ⟨L9, 0, none⟩)) (hv := by first | rfl | (go_simp; done) | (go_simp; with_reducible rfl))
    refine z0 (vs := (q7 .u8 32 (j0 (lo U2))).toList) (by rfl) rfl rfl k_t7 (J0 y5v) (by kernel_rfl) (by kernel_rfl) ?_
    (try simp only [Act.put, mA, mB, mC])
    have hcb9 : lo U2 = A9 V L i := by rw [HU2.out]; rfl
    obtain ⟨dx, dt, dr, dc⟩ := R9 (kn := kn) hc (q1u V L i) hdo
    obtain ⟨dy, hdy⟩ := z8 (A9 V L i % 2 ^ 255)
    rw [← hdy] at dr dc
    clear hdy
    refine Lr ?_ (q4x hcb9 (dc W9 (y7 hG off0.ext).1))
    intro W10 hO
    replace k_t2 := k_t2.o hO
    replace k_t4 := k_t4.o hO
    replace k_t7 := k_t7.o hO
    replace y6 := Sl.off y6 hO f0
    replace off0 := off0.o hO
    clear hO
    refine Lv ?_
    refine Lv ?_
    refine Lw ?_ (v := .int .i64 0)
    refine K8 ?_ (z := p4 0 0 0 0) (t := 60) (cells := p4 dx dy 1 dt)
    intro q4y W12 n3 hO h_
    have Z5 := bn k_t2 n3
    have nq_t4_t8 := bn k_t4 n3
    have M7 := bn k_t7 n3
    have q1v := d8 (Sl.lt y6) n3
    have R6 := l4 off0 n3
    replace k_t2 := k_t2.o hO
    replace k_t4 := k_t4.o hO
    replace k_t7 := k_t7.o hO
    replace y6 := Sl.off y6 hO f0
    replace off0 := off0.o hO
    have k_t8 := h_
    clear hO h_ n3
    refine Lw ?_ (v := .int .i64 0)
    refine q5 ?_
    go_upto_region 7 with fail
    refine wp_region_lit ?_
    refine L0 ?_ k_t8
    obtain ⟨ex, ey, ez, et, er, ec⟩ := F0 (kn := kn) dr.rw
    refine Lr ?_ (ec W12 (y7 hG off0.ext).1)
    intro W13 hO
    replace k_t2 := k_t2.o hO
    replace k_t4 := k_t4.o hO
    replace k_t7 := k_t7.o hO
    replace k_t8 := k_t8.o hO
    replace y6 := Sl.off y6 hO f0
    replace off0 := off0.o hO
    clear hO
    refine Lp ?_ k_t8 (cells := p4 ex ey ez et)
    intro W14 hO h_
    replace k_t8 : Blk W14 q4y (p4 ex ey ez et) 60 := h_
    clear h_
    replace k_t2 := k_t2.p hO Z5
    replace k_t4 := k_t4.p hO nq_t4_t8
    replace k_t7 := k_t7.p hO M7
    replace y6 := Sl.off y6 hO (f1 q1v)
    replace off0 := off0.p hO R6
    clear hO
    refine q5 ?_
    go_upto_region 8 with fail
    refine wp_region_lit ?_
    refine L0 ?_ k_t8
    refine Lw ?_ (v := .agg (p4 0 0 0 0)) (hv := by kernel_rfl)
    have cs_ := q1g (kn := kn) er.rw P6
    rw [show decide (pm (B1 (A9 V L i)) 8 = p0) = true from decide_eq_true (q9r hbad hdo)] at cs_
    refine Lr ?_ (cs_ W14 (y7 hG off0.ext).1)
    intro W15 hO
    replace k_t2 := k_t2.o hO
    replace k_t4 := k_t4.o hO
    replace k_t7 := k_t7.o hO
    replace y6 := Sl.off y6 hO f0
    replace off0 := off0.o hO
    clear hO
    refine Lw ?_ (v := .bool false)
    refine q5 ?_
    go_upto_region 10 with fail
    refine wp_region_lit ?_
    refine Lw ?_ (v := .int .i64 (((i + 1 : Nat) : Int))) (hv := by go_simp; (try simp only [IntKind.wrap_i64]); (try omega))
    refine Lv ?_
    refine q5 ?_
    go_wp2
    go_roundw
    case rel => exact ⟨i + 1, by omega, by go_num, off0, k_t2, k_t4, y6⟩
    case measure => simp [intOf]; omega
   ·
    have _f := hdo
    replace hdo : G9 (A9 V L i) = false := by simpa using hdo
    go_upto_region 5 with fail
    refine wp_region_lit ?_
    refine Lw ?_ (v := .slice (some ⟨L9, 0, none⟩) 32 64) (hv := by first | rfl | (go_simp; done) | (go_simp; with_reducible rfl))
    refine Lw ?_ (v := .pointer (some ⟨L9, 0, none⟩)) (hv := by first | rfl | (go_simp; done) | (go_simp; with_reducible rfl))
    refine z0 (vs := (q7 .u8 32 (j0 (lo U2))).toList) (by rfl) rfl rfl k_t7 (J0 y5v) (by kernel_rfl) (by kernel_rfl) ?_
    (try simp only [Act.put, mA, mB, mC])
    have hcb9 : lo U2 = A9 V L i := by rw [HU2.out]; rfl
    refine Lr ?_ (q4x hcb9 (q2d (kn := kn) hc (q1u V L i) hdo W9 (y7 hG off0.ext).1))
    intro W10 hO
    replace k_t2 := k_t2.o hO
    replace k_t4 := k_t4.o hO
    replace y6 := Sl.off y6 hO f0
    replace off0 := off0.o hO
    clear hO
    refine Lv ?_
    refine Lv ?_
    refine Lw ?_ (v := .int .i64 15)
    refine K8 ?_ (z := p4 0 0 0 0) (t := 60) (cells := p4 0 0 0 0)
    intro q4y W12 n3 hO h_
    replace k_t2 := k_t2.o hO
    replace k_t4 := k_t4.o hO
    replace y6 := Sl.off y6 hO f0
    replace off0 := off0.o hO
    clear hO h_ n3
    refine Lw ?_ (v := .int .i64 15)
    refine q5 ?_
    go_upto_region 10 with fail
    refine wp_region_lit ?_
    refine Lw ?_ (v := .int .i64 (((i + 1 : Nat) : Int))) (hv := by go_simp; (try simp only [IntKind.wrap_i64]); (try omega))
    refine Lv ?_
    refine q5 ?_
    go_wp2
    go_roundw
    case rel => exact ⟨i + 1, by omega, by go_num, off0, k_t2, k_t4, y6⟩
    case measure => simp [intOf]; omega
theorem y1k (hc : kn.c) {V : Nat} {L : List UInt8} (hL : L.length ≤ 1099511627776) (hlow : ∀ i, i < 256 → r9 V L i = false) :
  ∀ v w, GA kn w → Sl w v L → Calls Tryd.prog 60 #[.agg (q7 .u8 32 (j0 V)), v] w fun e w' => m7 (.tuple #[.agg (p4 0 0 0 0), .int .i64 15]) w w' e := by
 intro v w hG hsl
 have y6 := hsl
 have off0 : Off [] w w := Off.refl _ _
 go_enter Tryd.func60, Tryd.ntmps60
 go_upto_region 0 with fail
 refine wp_region_lit ?_
 refine Ln ?_ (z := q7 .u8 32 (j0 V)) (t := 22)
 intro v9 W1 z4 hO h_
 replace y6 := Sl.off y6 hO f0
 replace off0 := off0.o hO
 have k_t2 := h_
 clear hO h_ z4
 refine Ln ?_ (z := p4 0 0 0 0) (t := 60)
 intro L3 W2 a7 hO h_
 have Q9 := l4 off0 a7
 replace k_t2 := k_t2.o hO
 replace y6 := Sl.off y6 hO f0
 replace off0 := off0.o hO
 have k_t4 := h_
 clear hO h_ a7
 refine Lw ?_ (v := .int .i64 0)
 refine q5 ?_
 go_wp2_with fail
 go_loopw [10] (fun ii wr => ∃ (i : Nat), (i ≤ 256) ∧ (ii = .int .i64 (i : Int)) ∧ Off [] w wr ∧ Blk wr v9 (q7 .u8 32 (j0 V)) 22 ∧ Blk wr L3 (p4 0 0 0 0) 60 ∧ Sl wr v L)
  (fun ii _ => (256 - intOf ii).toNat)
 case atStart => exact ⟨0, Nat.zero_le _, rfl, off0, k_t2, k_t4, y6⟩
 case round =>
  obtain ⟨i, hi, rfl, off0, k_t2, k_t4, y6⟩ := hrel
  obtain ⟨W3, eW_⟩ := O6 off0
  subst eW_
  by_cases h256 : i < 256
  ·
   have _f := h256
   have hbad := hlow i h256
   go_upto_region 2 with fail
   refine wp_region_lit ?_
   refine Lw ?_ (v := .bool true) (hv := by exact y1h (i := i) (n := 256) (decide_eq_true h256) rfl rfl rfl)
   refine q5 ?_
   go_upto_region 4 with fail
   refine wp_region_lit ?_
   refine I4 ?_ (z := #[.int .u8 3, .int .u8 1]) (t := 5) (n := 2) (c := 2)
   intro O7 W4 q6i hO h_
   replace k_t2 := k_t2.o hO
   replace k_t4 := k_t4.o hO
   replace y6 := Sl.off y6 hO f0
   replace off0 := off0.o hO
   have ow_s13 : Own W4 (.slice (some ⟨O7, 0, none⟩) 2 2) [3, 1] := b5 h_ (by rfl) (by show 2 ≤ maxLen; decide)
   clear hO h_ q6i
   refine Lw ?_ (v := .slice (some ⟨v9, 0, none⟩) 32 32) (hv := by first | rfl | (go_simp; done) | (go_simp; with_reducible rfl))
   refine Lv ?_
   refine Lv ?_
   refine Lw ?_ (v := .int .u8 ((UInt8.ofNat i).toNat : Int)) (hv := by exact y1i rfl rfl)
   refine I4 ?_ (z := #[.int .u8 ((UInt8.ofNat i).toNat : Int), .int .u8 0]) (t := 5) (n := 2) (c := 2)
   intro O8 W5 q6j hO h_
   replace k_t2 := k_t2.o hO
   replace k_t4 := k_t4.o hO
   replace y6 := Sl.off y6 hO f0
   replace ow_s13 := Own.off ow_s13 hO f0
   replace off0 := off0.o hO
   have ow_s18 : Own W5 (.slice (some ⟨O8, 0, none⟩) 2 2) [UInt8.ofNat i, 0] := b5 h_ (by rfl) (by show 2 ≤ maxLen; decide)
   clear hO h_ q6j
   refine I4 ?_ (z := #[(.slice (some ⟨O7, 0, none⟩) 2 2), .slice (some ⟨v9, 0, none⟩) 32 32, v, (.slice (some ⟨O8, 0, none⟩) 2 2)]) (t := 23) (n := 4) (c := 4) (hr := by exact Q5 [(.slice (some ⟨O7, 0, none⟩) 2 2), .slice (some ⟨v9, 0, none⟩) 32 32, v, (.slice (some ⟨O8, 0, none⟩) 2 2)] rfl rfl (vsc ((p3 ow_s13).1) (vsc (rfl) (vsc ((w5 y6).1) (vsc ((p3 ow_s18).1) vs0)))) Tryd.underlying112 (by kernel_rfl) (by kernel_rfl) rfl (by decide) (by decide))
   intro q9q W6 q6k hO h_
   replace k_t2 := k_t2.o hO
   replace k_t4 := k_t4.o hO
   replace y6 := Sl.off y6 hO f0
   replace ow_s13 := Own.off ow_s13 hO f0
   replace ow_s18 := Own.off ow_s18 hO f0
   replace off0 := off0.o hO
   have k_s19 := h_
   clear hO h_ q6k
   obtain ⟨U1, hU1⟩ := z8 (hs ([3, 1] ++ (lb 32 V) ++ L ++ [UInt8.ofNat i, 0]))
   have HU1 := Lib.hid hU1
   clear hU1
   refine Lr ?_ (L6 HU1.out [[3, 1], lb 32 V, L, [UInt8.ofNat i, 0]] (some ⟨q9q, 0, none⟩) 4 (by simp only [List.flatten_cons, List.flatten_nil, List.append_nil, List.nil_append, List.append_assoc, List.cons_append]) (by first | omega | (simp only [List.length_append, List.length_cons, List.length_nil, g7]; omega)) (by simp) W6 (A0 k_s19 (pvc (ow_s13.sl) (pvc (b6 (V := V) (n := 32) (off := 0) k_t2 ap0 (by decide) (by decide)) (pvc y6 (pvc (ow_s18.sl) pv0))))) (y7 hG off0.ext).2.1)
   intro W7 hO
   replace k_t2 := k_t2.o hO
   replace k_t4 := k_t4.o hO
   replace y6 := Sl.off y6 hO f0
   replace off0 := off0.o hO
   clear hO
   refine LnA ?_ (z := q7 .u8 64 (j0 0)) (t := 30) (k := .u8) (n := 64) (f := j0 U1)
   intro L9 W9 u9 hO h_
   replace k_t2 := k_t2.o hO
   replace k_t4 := k_t4.o hO
   replace y6 := Sl.off y6 hO f0
   replace off0 := off0.o hO
   have k_t7 := h_
   clear hO h_ u9
   refine q5 ?_
   by_cases hdo : G9 (A9 V L i) = true
   ·
    have _f := hdo
    go_upto_region 5 with fail
    refine wp_region_lit ?_
    refine Lw ?_ (v := .slice (some ⟨L9, 0, none⟩) 32 64) (hv := by first | rfl | (go_simp; done) | (go_simp; with_reducible rfl))
    refine Lw ?_ (v := .pointer (some ⟨L9, 0, none⟩)) (hv := by first | rfl | (go_simp; done) | (go_simp; with_reducible rfl))
    refine z0 (vs := (q7 .u8 32 (j0 (lo U1))).toList) (by rfl) rfl rfl k_t7 (J0 y5v) (by kernel_rfl) (by kernel_rfl) ?_
    (try simp only [Act.put, mA, mB, mC])
    have hcb9 : lo U1 = A9 V L i := by rw [HU1.out]; rfl
    obtain ⟨dx, dt, dr, dc⟩ := R9 (kn := kn) hc (q1u V L i) hdo
    obtain ⟨dy, hdy⟩ := z8 (A9 V L i % 2 ^ 255)
    rw [← hdy] at dr dc
    clear hdy
    refine Lr ?_ (q4x hcb9 (dc W9 (y7 hG off0.ext).1))
    intro W10 hO
    replace k_t2 := k_t2.o hO
    replace k_t4 := k_t4.o hO
    replace k_t7 := k_t7.o hO
    replace y6 := Sl.off y6 hO f0
    replace off0 := off0.o hO
    clear hO
    refine Lv ?_
    refine Lv ?_
    refine Lw ?_ (v := .int .i64 0)
    refine K8 ?_ (z := p4 0 0 0 0) (t := 60) (cells := p4 dx dy 1 dt)
    intro q4y W12 n3 hO h_
    have Z5 := bn k_t2 n3
    have nq_t4_t8 := bn k_t4 n3
    have M7 := bn k_t7 n3
    have q1v := d8 (Sl.lt y6) n3
    have R6 := l4 off0 n3
    replace k_t2 := k_t2.o hO
    replace k_t4 := k_t4.o hO
    replace k_t7 := k_t7.o hO
    replace y6 := Sl.off y6 hO f0
    replace off0 := off0.o hO
    have k_t8 := h_
    clear hO h_ n3
    refine Lw ?_ (v := .int .i64 0)
    refine q5 ?_
    go_upto_region 7 with fail
    refine wp_region_lit ?_
    refine L0 ?_ k_t8
    obtain ⟨ex, ey, ez, et, er, ec⟩ := F0 (kn := kn) dr.rw
    refine Lr ?_ (ec W12 (y7 hG off0.ext).1)
    intro W13 hO
    replace k_t2 := k_t2.o hO
    replace k_t4 := k_t4.o hO
    replace k_t7 := k_t7.o hO
    replace k_t8 := k_t8.o hO
    replace y6 := Sl.off y6 hO f0
    replace off0 := off0.o hO
    clear hO
    refine Lp ?_ k_t8 (cells := p4 ex ey ez et)
    intro W14 hO h_
    replace k_t8 : Blk W14 q4y (p4 ex ey ez et) 60 := h_
    clear h_
    replace k_t2 := k_t2.p hO Z5
    replace k_t4 := k_t4.p hO nq_t4_t8
    replace k_t7 := k_t7.p hO M7
    replace y6 := Sl.off y6 hO (f1 q1v)
    replace off0 := off0.p hO R6
    clear hO
    refine q5 ?_
    go_upto_region 8 with fail
    refine wp_region_lit ?_
    refine L0 ?_ k_t8
    refine Lw ?_ (v := .agg (p4 0 0 0 0)) (hv := by kernel_rfl)
    have cs_ := q1g (kn := kn) er.rw P6
    rw [show decide (pm (B1 (A9 V L i)) 8 = p0) = true from decide_eq_true (q9r hbad hdo)] at cs_
    refine Lr ?_ (cs_ W14 (y7 hG off0.ext).1)
    intro W15 hO
    replace k_t2 := k_t2.o hO
    replace k_t4 := k_t4.o hO
    replace k_t7 := k_t7.o hO
    replace y6 := Sl.off y6 hO f0
    replace off0 := off0.o hO
    clear hO
    refine Lw ?_ (v := .bool false)
    refine q5 ?_
    go_upto_region 10 with fail
    refine wp_region_lit ?_
    refine Lw ?_ (v := .int .i64 (((i + 1 : Nat) : Int))) (hv := by go_simp; (try simp only [IntKind.wrap_i64]); (try omega))
    refine Lv ?_
    refine q5 ?_
    go_wp2
    go_roundw
    case rel => exact ⟨i + 1, by omega, by go_num, off0, k_t2, k_t4, y6⟩
    case measure => simp [intOf]; omega
   ·
    have _f := hdo
    replace hdo : G9 (A9 V L i) = false := by simpa using hdo
    go_upto_region 5 with fail
    refine wp_region_lit ?_
    refine Lw ?_ (v := .slice (some ⟨L9, 0, none⟩) 32 64) (hv := by first | rfl | (go_simp; done) | (go_simp; with_reducible rfl))
    refine Lw ?_ (v := .pointer (some ⟨L9, 0, none⟩)) (hv := by first | rfl | (go_simp; done) | (go_simp; with_reducible rfl))
    refine z0 (vs := (q7 .u8 32 (j0 (lo U1))).toList) (by rfl) rfl rfl k_t7 (J0 y5v) (by kernel_rfl) (by kernel_rfl) ?_
    (try simp only [Act.put, mA, mB, mC])
    have hcb9 : lo U1 = A9 V L i := by rw [HU1.out]; rfl
    refine Lr ?_ (q4x hcb9 (q2d (kn := kn) hc (q1u V L i) hdo W9 (y7 hG off0.ext).1))
    intro W10 hO
    replace k_t2 := k_t2.o hO
    replace k_t4 := k_t4.o hO
    replace y6 := Sl.off y6 hO f0
    replace off0 := off0.o hO
    clear hO
    refine Lv ?_
    refine Lv ?_
    refine Lw ?_ (v := .int .i64 15)
    refine K8 ?_ (z := p4 0 0 0 0) (t := 60) (cells := p4 0 0 0 0)
    intro q4y W12 n3 hO h_
    replace k_t2 := k_t2.o hO
    replace k_t4 := k_t4.o hO
    replace y6 := Sl.off y6 hO f0
    replace off0 := off0.o hO
    clear hO h_ n3
    refine Lw ?_ (v := .int .i64 15)
    refine q5 ?_
    go_upto_region 10 with fail
    refine wp_region_lit ?_
    refine Lw ?_ (v := .int .i64 (((i + 1 : Nat) : Int))) (hv := by go_simp; (try simp only [IntKind.wrap_i64]); (try omega))
    refine Lv ?_
    refine q5 ?_
    go_wp2
    go_roundw
    case rel => exact ⟨i + 1, by omega, by go_num, off0, k_t2, k_t4, y6⟩
    case measure => simp [intOf]; omega
  ·
   have _f := h256
   go_upto_region 2 with fail
   refine wp_region_lit ?_
   refine Lw ?_ (v := .bool false) (hv := by exact y1h (i := i) (n := 256) (decide_eq_false h256) rfl rfl rfl)
   refine q5 ?_
   go_upto_region 11 with fail
   refine wp_region_lit ?_
   refine Lw ?_ (v := .agg (p4 0 0 0 0)) (hv := by kernel_rfl)
   refine Lp ?_ k_t4 (cells := p4 0 0 0 0)
   intro W4 hO h_
   replace k_t4 : Blk W4 L3 (p4 0 0 0 0) 60 := h_
   clear h_
   replace off0 := off0.p hO Q9
   clear hO
   refine Lw ?_ (v := .int .i64 15)
   refine q5 ?_
   go_wp2
   exact bodyPost_ret (u4 rfl rfl rfl k_t4 (by kernel_rfl) (by kernel_rfl)) rfl ⟨rfl, off0.ext⟩
end Go.Proofs.YtefpoollmbmkfaaDoor

namespace Go.Proofs.YtefpoollmbmkfaaDoor
set_option maxHeartbeats 2000000
set_option maxRecDepth 100000
open Go.RowKit
attribute [local irreducible] wpList
variable {kn : Kn}
open Sc (LL e9)
attribute [local irreducible] hs
def q4 (a b c d : Array Value) : Array Value := a ++ b ++ c ++ d
section
variable {X1 Y1 Z1 T1 X2 Y2 Z2 T2 X3 Y3 Z3 T3 X4 Y4 Z4 T4 : Nat}
theorem y6f {X Y Z T : Nat} : (p4 X Y Z T).size = 16 := rfl
theorem g8u : ∀ i v, (p4 X1 Y1 Z1 T1)[i]? = some v → (q4 (p4 X1 Y1 Z1 T1) (p4 X2 Y2 Z2 T2) (p4 X3 Y3 Z3 T3) (p4 X4 Y4 Z4 T4))[0 + i]? = some v := fun i v h => by rw [Nat.zero_add]; exact B2 (B2 (B2 h))
theorem g8v : ∀ i v, (p4 X2 Y2 Z2 T2)[i]? = some v → (q4 (p4 X1 Y1 Z1 T1) (p4 X2 Y2 Z2 T2) (p4 X3 Y3 Z3 T3) (p4 X4 Y4 Z4 T4))[16 + i]? = some v := fun i v h => B2 (B2 (q2x y6f h))
theorem g8w : ∀ i v, (p4 X3 Y3 Z3 T3)[i]? = some v → (q4 (p4 X1 Y1 Z1 T1) (p4 X2 Y2 Z2 T2) (p4 X3 Y3 Z3 T3) (p4 X4 Y4 Z4 T4))[32 + i]? = some v := fun i v h => B2 (q2x (by rw [Array.size_append, y6f, y6f]) h)
theorem g8x : ∀ i v, (p4 X4 Y4 Z4 T4)[i]? = some v → (q4 (p4 X1 Y1 Z1 T1) (p4 X2 Y2 Z2 T2) (p4 X3 Y3 Z3 T3) (p4 X4 Y4 Z4 T4))[48 + i]? = some v := fun i v h => q2x (by rw [Array.size_append, Array.size_append, y6f, y6f, y6f]) h
end
theorem j1r {e n : Nat} {F : List Nat} (h : Fb e n F) : Fr (some e) n F := fun x hx hlt => by have := Option.some.inj hx; subst this; exact h hlt
theorem j1s {e b : Nat} (h : b ≠ e) : some e ≠ some b := fun k => h (Option.some.inj k).symm
theorem j6g {w : World} {v : Value} {t : TypeId} {vs : List Value} {ps : List (List UInt8)} (h : Row t 1 w v (vs.map fun x => [x])) (hn : ps.length = vs.length) (hv : ∀ (i : Nat) (l : List UInt8), ps[i]? = some l → ∃ u, vs[i]? = some u ∧ Sl w u l) (h0 : 0 < vs.length) :
    ∃ A c, v = .slice A ps.length c ∧ ∀ (i : Nat) (l : List UInt8), ps[i]? = some l → ∃ ad u, A = some ad ∧ w.cell? (ad.add i) = some u ∧ Sl w u l := by
  have h1 : (vs.map fun x => [x])[0]? = some [vs[0]] := by rw [List.getElem?_map, List.getElem?_eq_getElem h0]; rfl
  obtain ⟨g, c, hv0, _⟩ := h.at h1
  rw [List.length_map, ← hn] at hv0
  refine ⟨_, c, hv0, fun i l hi => ?_⟩
  obtain ⟨u, hu, hs⟩ := hv i l hi
  have h2 : (vs.map fun x => [x])[i]? = some [u] := by rw [List.getElem?_map, hu]; rfl
  obtain ⟨g', c', hv', hc⟩ := h.at h2
  rw [List.length_map, ← hn, hv0] at hv'
  injection hv' with e1 _ _
  injection e1 with e1
  injection e1 with e1 _ _
  subst e1
  have := hc 0 u rfl
  rw [Nat.mul_one, Nat.add_zero] at this
  exact ⟨_, u, rfl, by rw [Addr.add_mid, Nat.zero_add]; exact this, hs⟩
theorem y6g {ops : Array Oper} {Q : Exit → Act → World → Prop} {w : World} {r : List Oper} {o : Oper} {a : Act} {x y : Operand} {v : Value} {l : List UInt8} {g : Nat} {cur : Array Value} {t : TypeId} {n c : Nat} (hs : Sl w v l) (hB : Blk w g cur t) (hcur : cur.size = n) (hn : l.length ≤ n) (hp : 0 < l.length) (hw : Region.wanted o (yielded ops a.tmps) = true)
    (ho : o.op = .call { callee := .builtin .copy, args := #[x, y], argTypes := #[23, 23] }) (hx : a.eval x = .slice (some ⟨g, 0, none⟩) n c) (hy : a.eval y = v)
    (h : ∀ W, Off [g] w W → Blk W g (M0 l ++ cur.toList.drop l.length).toArray t → wpList Tryd.prog ops Q r (a.put o.dst (goInt l.length)) W) : wpList Tryd.prog ops Q (o :: r) a w := by
  obtain ⟨A, cc, rfl, h1, h2, h0, h3⟩ := hs
  obtain ⟨ad, rfl, _⟩ := h3 0 l[0] (List.getElem?_eq_getElem hp)
  have hrun := run_copy_row (P := Tryd.prog) w 23 23 o.type 5 g 0 n c ad l.length cc cur t (M0 l) Tryd.underlying23 q3q hB (by rw [l8]; exact (Nat.min_eq_left hn).symm) (fun j u hj => by
    simp only [M0, List.getElem?_map, Option.map_eq_some_iff] at hj
    obtain ⟨z, hz, rfl⟩ := hj
    obtain ⟨ad', e, hc⟩ := h3 j z hz
    obtain rfl := Option.some.inj e
    exact hc) (by rw [l8]; omega) (q7v l)
  have e : (cur.toList.take 0 ++ M0 l ++ cur.toList.drop (0 + (M0 l).length)) = M0 l ++ cur.toList.drop l.length := by
    rw [List.take_zero, List.nil_append, Nat.zero_add, l8]
  rw [e] at hrun
  have h4 : Blk (w.setRow g (M0 l ++ cur.toList.drop l.length).toArray) g (M0 l ++ cur.toList.drop l.length).toArray t := x5 hB _
  refine q1m hw (v := goInt l.length) (W := w.setRow g (M0 l ++ cur.toList.drop l.length).toArray) ?_ (h _ ⟨rfl, rfl, rfl, by simp, fun k _ hk => setRow_other w g k _ (by simpa using hk)⟩ h4)
  unfold execOp
  simp only [ho, resolve, invoke, builtin, Sem.run_bind, Sem.run_pure, Result.andThen_ok, List.map_toArray, List.map_cons, List.map_nil, hx, hy, hrun, l8]
theorem y1l {l : List UInt8} (hl : l.length = 16) : (M0 l ++ (q7 .u8 32 (j0 0)).toList.drop l.length).toArray = q7 .u8 32 (j0 (le l)) := by
  have h1 := y8z l
  rw [hl] at h1 ⊢
  have e : le l / 2 ^ (8 * 16) = 0 := Nat.div_eq_of_lt h1
  have hR : (q7 .u8 32 (j0 (le l))).toList = M0 l ++ M0 (lb 16 0) := by rw [F4, ← y0t, show lb 32 (le l) = lb 16 (le l) ++ lb 16 (le l / 2 ^ (8 * 16)) from y1g 16 16 _, e, j1i hl, q0r]
  apply Array.ext'
  rw [hR]
  show M0 l ++ _ = _
  congr 1

theorem g2e (v : Value) (l : List UInt8) (hl : l.length = 16) (w : World) (hsl : Sl w v l) :
  Calls Tryd.prog 66 #[v] w fun e w' => m7 (.agg (q7 .u8 32 (j0 (le l)))) w w' e := by
 have y6 := hsl
 have off0 : Off [] w w := Off.refl _ _
 go_enter Tryd.func66, Tryd.ntmps66
 go_upto_region 0 with fail
 refine wp_region_lit ?_
 refine Ln ?_ (z := q7 .u8 32 (j0 0)) (t := 22)
 intro v9 W1 z4 hO h_
 have u7 := l4 off0 z4
 replace y6 := Sl.off y6 hO f0
 replace off0 := off0.o hO
 have k_t2 := h_
 clear hO h_ z4
 refine q5 ?_
 go_upto_region 1 with fail
 refine wp_region_lit ?_
 refine Ln ?_ (z := q7 .u8 32 (j0 0)) (t := 22)
 intro M4 W2 m8 hO h_
 have nq_t2_t3 := bn k_t2 m8
 have K3 := l4 off0 m8
 replace k_t2 := k_t2.o hO
 replace y6 := Sl.off y6 hO f0
 replace off0 := off0.o hO
 have k_t3 := h_
 clear hO h_ m8
 refine q5 ?_
 go_upto_region 2 with fail
 refine wp_region_lit ?_
 refine Lw ?_ (v := .slice (some ⟨M4, 0, none⟩) 32 32) (hv := by first | rfl | (go_simp; done) | (go_simp; with_reducible rfl))
 refine Lv ?_
 refine y6g y6 k_t3 (by rw [y5]) (by omega) (by omega) (by rfl) rfl rfl rfl ?_
 (try simp only [Act.put, mA, mB, mC])
 intro W3 hO h_
 rw [y1l hl] at h_
 replace k_t3 : Blk W3 M4 (q7 .u8 32 (j0 (le l))) 22 := h_
 clear h_
 replace k_t2 := k_t2.p hO nq_t2_t3
 replace off0 := off0.p hO K3
 clear hO
 refine q5 ?_
 go_upto_region 3 with fail
 refine wp_region_lit ?_
 refine B9 ?_ k_t3
 refine LpA ?_ k_t2 (k := .u8) (n := 32) (f := j0 (le l))
 intro W4 hO h_
 replace k_t2 : Blk W4 v9 (q7 .u8 32 (j0 (le l))) 22 := h_
 clear h_
 replace off0 := off0.p hO u7
 clear hO
 refine q5 ?_
 go_wp2
 exact bodyPost_ret (v5 rfl rfl k_t2 (by kernel_rfl) (by rw [y5]; kernel_rfl)) rfl ⟨rfl, off0.ext⟩
theorem y1m {V X : Nat} {X1 Y1 Z1 T1 : Nat} {a1 : Pr} (h1 : RN X1 Y1 Z1 T1 a1) {X2 Y2 Z2 T2 : Nat} {a2 : Pr} (h2 : RN X2 Y2 Z2 T2 a2) {X3 Y3 Z3 T3 : Nat} {a3 : Pr} (h3 : RN X3 Y3 Z3 T3 a3) {X4 Y4 Z4 T4 : Nat} {a4 : Pr} (h4 : RN X4 Y4 Z4 T4 a4) (hX : X = chH V a1 a2 a3 a4) :
  ∀ gP w, GA kn w → Blk w gP (q4 (p4 X1 Y1 Z1 T1) (p4 X2 Y2 Z2 T2) (p4 X3 Y3 Z3 T3) (p4 X4 Y4 Z4 T4)) 60 → Calls Tryd.prog 61 #[.agg (q7 .u8 32 (j0 V)), .slice (some ⟨gP, 0, none⟩) 4 4] w fun e w' => ∃ p, e = .returned (.slice (some ⟨p, 0, none⟩) 16 64) ∧ w.heap.size ≤ p ∧ Off [] w w' ∧ Blk w' p (q7 .u8 64 (j0 X)) 30 := by
 obtain ⟨U1, hU1⟩ := z8 (t6 a1)
 have bU1 : U1 < 2 ^ 256 := by rw [hU1]; exact B4 _
 have HU1 := Lib.hid hU1
 clear hU1
 obtain ⟨U2, hU2⟩ := z8 (t6 a2)
 have bU2 : U2 < 2 ^ 256 := by rw [hU2]; exact B4 _
 have HU2 := Lib.hid hU2
 clear hU2
 obtain ⟨U3, hU3⟩ := z8 (t6 a3)
 have bU3 : U3 < 2 ^ 256 := by rw [hU3]; exact B4 _
 have HU3 := Lib.hid hU3
 clear hU3
 obtain ⟨U4, hU4⟩ := z8 (t6 a4)
 have bU4 : U4 < 2 ^ 256 := by rw [hU4]; exact B4 _
 have HU4 := Lib.hid hU4
 clear hU4
 obtain ⟨U5, hU5⟩ := z8 (hs ([3, 2] ++ (lb 32 V) ++ (lb 32 U1) ++ (lb 32 U2) ++ (lb 32 U3) ++ (lb 32 U4) ++ [0]))
 have HU5 := Lib.hid hU5
 clear hU5
 intro gP w hG hP
 have k_pp := hP
 have off0 : Off [] w w := Off.refl _ _
 go_enter Tryd.func61, Tryd.ntmps61
 go_upto_region 0 with fail
 refine wp_region_lit ?_
 refine Ln ?_ (z := q7 .u8 32 (j0 V)) (t := 22)
 intro v9 W1 z4 hO h_
 replace k_pp := k_pp.o hO
 replace off0 := off0.o hO
 have k_t2 := h_
 clear hO h_ z4
 refine Lv ?_
 refine q5 ?_
 go_upto_region 1 with fail
 refine wp_region_lit ?_
 refine I4 ?_ (z := #[.int .u8 3, .int .u8 2]) (t := 5) (n := 2) (c := 2)
 intro Y6 W2 g6h hO h_
 replace k_pp := k_pp.o hO
 replace k_t2 := k_t2.o hO
 replace off0 := off0.o hO
 have ow_s10 : Own W2 (.slice (some ⟨Y6, 0, none⟩) 2 2) [3, 2] := b5 h_ (by rfl) (by show 2 ≤ maxLen; decide)
 clear hO h_ g6h
 refine Lw ?_ (v := .slice (some ⟨v9, 0, none⟩) 32 32)
 have k9 : Sl W2 (.slice (some ⟨v9, 0, none⟩) 32 32) (lb 32 V) := (b6 (V := V) (n := 32) (off := 0) k_t2 ap0 (by decide) (by decide))
 refine I4 ?_ (z := #[(.slice (some ⟨Y6, 0, none⟩) 2 2), (.slice (some ⟨v9, 0, none⟩) 32 32)]) (t := 23) (n := 2) (c := 2) (hr := by exact Q5 [(.slice (some ⟨Y6, 0, none⟩) 2 2), (.slice (some ⟨v9, 0, none⟩) 32 32)] rfl rfl (vsc ((p3 ow_s10).1) (vsc ((w5 k9).1) vs0)) Tryd.underlying112 (by kernel_rfl) (by kernel_rfl) rfl (by decide) (by decide))
 intro T5 W3 q1w hO h_
 have q6l := bn k_pp q1w
 have q4z := d8 (Own.lt ow_s10) q1w
 have q6m := d8 (Sl.lt k9) q1w
 have j1t := l4 off0 q1w
 replace k_pp := k_pp.o hO
 replace ow_s10 := Own.off ow_s10 hO f0
 replace k9 := Sl.off k9 hO f0
 replace off0 := off0.o hO
 have j8m := h_
 clear hO h_ q1w
 have a8 : Row 23 1 W3 (.slice (some ⟨T5, 0, none⟩) 2 2) ([(.slice (some ⟨Y6, 0, none⟩) 2 2), (.slice (some ⟨v9, 0, none⟩) 32 32)].map fun x => [x]) := j4x j8m (es := [(.slice (some ⟨Y6, 0, none⟩) 2 2), (.slice (some ⟨v9, 0, none⟩) 32 32)].map fun x => [x]) rfl (by simp) (by show 2 ≤ maxLen; decide)
 have q2o : Fr (Value.ownBlock (.slice (some ⟨T5, 0, none⟩) 2 2)) w.heap.size [] := j1r j1t
 have O0 : Value.ownBlock (.slice (some ⟨T5, 0, none⟩) 2 2) ≠ some gP := j1s q6l
 have q9s : ∀ x, (Value.ownBlock (.slice (some ⟨Y6, 0, none⟩) 2 2)) = some x → Value.ownBlock (.slice (some ⟨T5, 0, none⟩) 2 2) ≠ some x := fun x h1 h2 => q4z (h1.trans h2.symm)
 have y4e : ∀ x, (sb (.slice (some ⟨v9, 0, none⟩) 32 32) (lb 32 V)) = some x → Value.ownBlock (.slice (some ⟨T5, 0, none⟩) 2 2) ≠ some x := fun x h1 h2 => q6m (h1.trans h2.symm)
 clear j8m j1t q6l q4z q6m
 refine Lv ?_
 refine q5 ?_
 go_upto_region 2 with fail
 refine wp_region_lit ?_
 refine Lv ?_
 refine Lw ?_ (v := .int .i64 4)
 refine Lw ?_ (v := .int .i64 0)
 refine q5 ?_
 go_wp2_with fail
 refine wp_loop_rounds 5 ?_
 rw [rounds_succ]
 go_upto_region 4 with fail
 refine wp_region_lit ?_
 refine Lw ?_ (v := .pointer (some ⟨gP, 0, none⟩)) (hv := by exact (q3s (ad := ⟨gP, 0, none⟩) (j := 0) (k := 16) (n := 4) (c := 4) (by decide) rfl rfl rfl Tryd.underlying135 (by kernel_rfl)).trans (by rw [Addr.add_mid]))
 refine z0 (vs := (p4 X1 Y1 Z1 T1).toList) (by rfl) rfl rfl k_pp (J0 g8u) (by kernel_rfl) (by kernel_rfl) ?_
 (try simp only [Act.put, mA, mB, mC])
 refine K8 ?_ (z := p4 0 0 0 0) (t := 60) (cells := p4 X1 Y1 Z1 T1)
 intro x1h W5 u9 hO h_
 have J9 := d8 (Row.lt a8) u9
 replace k_pp := k_pp.o hO
 replace ow_s10 := Own.off ow_s10 hO f0
 replace k9 := Sl.off k9 hO f0
 replace a8 := Row.off a8 hO f0
 replace off0 := off0.o hO
 have k_t7 := h_
 clear hO h_ u9
 refine q5 ?_
 go_upto_region 5 with fail
 refine wp_region_lit ?_
 refine L0 ?_ k_t7
 refine Lr ?_ (T0 h1.rw HU1.out W5 (y7 hG off0.ext).1)
 intro W6 hO
 replace k_pp := k_pp.o hO
 replace k_t7 := k_t7.o hO
 replace ow_s10 := Own.off ow_s10 hO f0
 replace k9 := Sl.off k9 hO f0
 replace a8 := Row.off a8 hO f0
 replace off0 := off0.o hO
 clear hO
 refine LnA ?_ (z := q7 .u8 32 (j0 0)) (t := 22) (k := .u8) (n := 32) (f := j0 U1)
 intro E0 W8 n3 hO h_
 have o5 := d8 (Row.lt a8) n3
 replace k_pp := k_pp.o hO
 replace k_t7 := k_t7.o hO
 replace ow_s10 := Own.off ow_s10 hO f0
 replace k9 := Sl.off k9 hO f0
 replace a8 := Row.off a8 hO f0
 replace off0 := off0.o hO
 have k_t8 := h_
 clear hO h_ n3
 refine q5 ?_
 go_upto_region 6 with fail
 refine wp_region_lit ?_
 refine Lv ?_
 refine Lw ?_ (v := .slice (some ⟨E0, 0, none⟩) 32 32)
 have n6 : Sl W8 (.slice (some ⟨E0, 0, none⟩) 32 32) (lb 32 U1) := (b6 (V := U1) (n := 32) (off := 0) k_t8 ap0 (by decide) (by decide))
 have Q6 : ∀ x, (Value.ownBlock (.slice (some ⟨T5, 0, none⟩) 2 2)) = some x → sb (.slice (some ⟨E0, 0, none⟩) 32 32) (lb 32 U1) ≠ some x := q7w o5
 refine I4 ?_ (z := #[(.slice (some ⟨E0, 0, none⟩) 32 32)]) (t := 23) (n := 1) (c := 1) (hr := by exact Q5 [(.slice (some ⟨E0, 0, none⟩) 32 32)] rfl rfl (vsc ((w5 n6).1) vs0) Tryd.underlying112 (by kernel_rfl) (by kernel_rfl) rfl (by decide) (by decide))
 intro x0t W9 O9 hO h_
 have p6 := d8 (Row.lt a8) O9
 replace k_pp := k_pp.o hO
 replace k_t7 := k_t7.o hO
 replace k_t8 := k_t8.o hO
 replace ow_s10 := Own.off ow_s10 hO f0
 replace k9 := Sl.off k9 hO f0
 replace a8 := Row.off a8 hO f0
 replace n6 := Sl.off n6 hO f0
 replace off0 := off0.o hO
 have J5 := h_
 clear hO h_ O9
 refine D5 (es := ([(.slice (some ⟨Y6, 0, none⟩) 2 2), (.slice (some ⟨v9, 0, none⟩) 32 32)].map fun x => [x])) (cs := #[(.slice (some ⟨E0, 0, none⟩) 32 32)]) (bytes := 24) (by rfl) rfl rfl rfl a8 J5 rfl (y9v (w5 n6).2) (by first | decide | (show 0 < 1; decide)) Tryd.underlying112 (by kernel_rfl) (by first | omega | (simp only [List.length_append, List.length_cons, List.length_nil, g7]; omega) | (simp; done)) (by unfold maxLen; first | omega | (simp only [List.length_append, List.length_cons, List.length_nil, g7]; omega) | (simp; done)) ?_
 (try simp only [Act.put, mA, mB, mC])
 intro y1n W10 i4 hO v8
 replace i4 : Row 23 1 W10 y1n (([(.slice (some ⟨Y6, 0, none⟩) 2 2), (.slice (some ⟨v9, 0, none⟩) 32 32)].map fun x => [x]) ++ [[(.slice (some ⟨E0, 0, none⟩) 32 32)]]) := i4
 have q2p := l7 v8 O0 (y4 k_pp)
 have q2q := l7 v8 J9 (y4 k_t7)
 have F6 := l7 v8 o5 (y4 k_t8)
 have q0t := l7 v8 p6 (y4 J5)
 have G2 := l9 v8 (q3p q9s) (Own.lt ow_s10)
 have V2 := l9 v8 (q3p y4e) (Sl.lt k9)
 have V3 := l9 v8 Q6 (Sl.lt n6)
 have q0u := Q0 v8 q2o off0.size
 replace k_pp := z7 k_pp hO (nmo O0)
 replace k_t7 := z7 k_t7 hO (nmo J9)
 replace k_t8 := z7 k_t8 hO (nmo o5)
 replace J5 := z7 J5 hO (nmo p6)
 replace ow_s10 := Own.off ow_s10 hO (fo (q3p q9s))
 replace k9 := Sl.off k9 hO (fo (q3p y4e))
 replace n6 := Sl.off n6 hO (fo Q6)
 replace off0 := off0.step hO (io q2o)
 clear hO v8
 replace i4 : Row 23 1 W10 y1n ([(.slice (some ⟨Y6, 0, none⟩) 2 2), (.slice (some ⟨v9, 0, none⟩) 32 32), (.slice (some ⟨E0, 0, none⟩) 32 32)].map fun x => [x]) := i4
 have a8 := i4
 clear i4
 have q2o := q0u
 have O0 := q2p
 have J9 := q2q
 have o5 := F6
 have p6 := q0t
 have J6 := G2
 have V9 := V2
 have Q6 := V3
 clear J5 p6
 refine Lv ?_
 refine q5 ?_
 go_wp2_with fail
 rw [rounds_succ]
 go_upto_region 4 with fail
 refine wp_region_lit ?_
 refine Lw ?_ (v := .pointer (some ⟨gP, 16, none⟩)) (hv := by exact (q3s (ad := ⟨gP, 0, none⟩) (j := 1) (k := 16) (n := 4) (c := 4) (by decide) rfl rfl rfl Tryd.underlying135 (by kernel_rfl)).trans (by rw [Addr.add_mid]))
 refine z0 (vs := (p4 X2 Y2 Z2 T2).toList) (by rfl) rfl rfl k_pp (J0 g8v) (by kernel_rfl) (by kernel_rfl) ?_
 (try simp only [Act.put, mA, mB, mC])
 clear k_t7 J9
 refine K8 ?_ (z := p4 0 0 0 0) (t := 60) (cells := p4 X2 Y2 Z2 T2)
 intro Y0 W12 u9 hO h_
 have J9 := d8 (Row.lt a8) u9
 replace k_pp := k_pp.o hO
 replace k_t8 := k_t8.o hO
 replace ow_s10 := Own.off ow_s10 hO f0
 replace k9 := Sl.off k9 hO f0
 replace n6 := Sl.off n6 hO f0
 replace a8 := Row.off a8 hO f0
 replace off0 := off0.o hO
 have k_t7 := h_
 clear hO h_ u9
 refine q5 ?_
 go_upto_region 5 with fail
 refine wp_region_lit ?_
 refine L0 ?_ k_t7
 refine Lr ?_ (T0 h2.rw HU2.out W12 (y7 hG off0.ext).1)
 intro W13 hO
 replace k_pp := k_pp.o hO
 replace k_t8 := k_t8.o hO
 replace k_t7 := k_t7.o hO
 replace ow_s10 := Own.off ow_s10 hO f0
 replace k9 := Sl.off k9 hO f0
 replace n6 := Sl.off n6 hO f0
 replace a8 := Row.off a8 hO f0
 replace off0 := off0.o hO
 clear hO
 clear k_t8 o5
 refine LnA ?_ (z := q7 .u8 32 (j0 0)) (t := 22) (k := .u8) (n := 32) (f := j0 U2)
 intro K5 W15 n3 hO h_
 have o5 := d8 (Row.lt a8) n3
 replace k_pp := k_pp.o hO
 replace k_t7 := k_t7.o hO
 replace ow_s10 := Own.off ow_s10 hO f0
 replace k9 := Sl.off k9 hO f0
 replace n6 := Sl.off n6 hO f0
 replace a8 := Row.off a8 hO f0
 replace off0 := off0.o hO
 have k_t8 := h_
 clear hO h_ n3
 refine q5 ?_
 go_upto_region 6 with fail
 refine wp_region_lit ?_
 refine Lv ?_
 refine Lw ?_ (v := .slice (some ⟨K5, 0, none⟩) 32 32)
 have i5 : Sl W15 (.slice (some ⟨K5, 0, none⟩) 32 32) (lb 32 U2) := (b6 (V := U2) (n := 32) (off := 0) k_t8 ap0 (by decide) (by decide))
 have N0 : ∀ x, (Value.ownBlock y1n) = some x → sb (.slice (some ⟨K5, 0, none⟩) 32 32) (lb 32 U2) ≠ some x := q7w o5
 refine I4 ?_ (z := #[(.slice (some ⟨K5, 0, none⟩) 32 32)]) (t := 23) (n := 1) (c := 1) (hr := by exact Q5 [(.slice (some ⟨K5, 0, none⟩) 32 32)] rfl rfl (vsc ((w5 i5).1) vs0) Tryd.underlying112 (by kernel_rfl) (by kernel_rfl) rfl (by decide) (by decide))
 intro g8y W16 O9 hO h_
 have p6 := d8 (Row.lt a8) O9
 replace k_pp := k_pp.o hO
 replace k_t7 := k_t7.o hO
 replace k_t8 := k_t8.o hO
 replace ow_s10 := Own.off ow_s10 hO f0
 replace k9 := Sl.off k9 hO f0
 replace n6 := Sl.off n6 hO f0
 replace a8 := Row.off a8 hO f0
 replace i5 := Sl.off i5 hO f0
 replace off0 := off0.o hO
 have J5 := h_
 clear hO h_ O9
 refine D5 (es := ([(.slice (some ⟨Y6, 0, none⟩) 2 2), (.slice (some ⟨v9, 0, none⟩) 32 32), (.slice (some ⟨E0, 0, none⟩) 32 32)].map fun x => [x])) (cs := #[(.slice (some ⟨K5, 0, none⟩) 32 32)]) (bytes := 24) (by rfl) rfl rfl rfl a8 J5 rfl (y9v (w5 i5).2) (by first | decide | (show 0 < 1; decide)) Tryd.underlying112 (by kernel_rfl) (by first | omega | (simp only [List.length_append, List.length_cons, List.length_nil, g7]; omega) | (simp; done)) (by unfold maxLen; first | omega | (simp only [List.length_append, List.length_cons, List.length_nil, g7]; omega) | (simp; done)) ?_
 (try simp only [Act.put, mA, mB, mC])
 intro y1o W17 i4 hO v8
 replace i4 : Row 23 1 W17 y1o (([(.slice (some ⟨Y6, 0, none⟩) 2 2), (.slice (some ⟨v9, 0, none⟩) 32 32), (.slice (some ⟨E0, 0, none⟩) 32 32)].map fun x => [x]) ++ [[(.slice (some ⟨K5, 0, none⟩) 32 32)]]) := i4
 have q2p := l7 v8 O0 (y4 k_pp)
 have q2q := l7 v8 J9 (y4 k_t7)
 have F6 := l7 v8 o5 (y4 k_t8)
 have q0t := l7 v8 p6 (y4 J5)
 have G2 := l9 v8 J6 (Own.lt ow_s10)
 have V2 := l9 v8 V9 (Sl.lt k9)
 have V3 := l9 v8 Q6 (Sl.lt n6)
 have F7 := l9 v8 N0 (Sl.lt i5)
 have q0u := Q0 v8 q2o off0.size
 replace k_pp := z7 k_pp hO (nmo O0)
 replace k_t7 := z7 k_t7 hO (nmo J9)
 replace k_t8 := z7 k_t8 hO (nmo o5)
 replace J5 := z7 J5 hO (nmo p6)
 replace ow_s10 := Own.off ow_s10 hO (fo J6)
 replace k9 := Sl.off k9 hO (fo V9)
 replace n6 := Sl.off n6 hO (fo Q6)
 replace i5 := Sl.off i5 hO (fo N0)
 replace off0 := off0.step hO (io q2o)
 clear hO v8
 replace i4 : Row 23 1 W17 y1o ([(.slice (some ⟨Y6, 0, none⟩) 2 2), (.slice (some ⟨v9, 0, none⟩) 32 32), (.slice (some ⟨E0, 0, none⟩) 32 32), (.slice (some ⟨K5, 0, none⟩) 32 32)].map fun x => [x]) := i4
 have a8 := i4
 clear i4
 have q2o := q0u
 have O0 := q2p
 have J9 := q2q
 have o5 := F6
 have p6 := q0t
 have J6 := G2
 have V9 := V2
 have Q6 := V3
 have N0 := F7
 clear J5 p6
 refine Lv ?_
 refine q5 ?_
 go_wp2_with fail
 rw [rounds_succ]
 go_upto_region 4 with fail
 refine wp_region_lit ?_
 refine Lw ?_ (v := .pointer (some ⟨gP, 32, none⟩)) (hv := by exact (q3s (ad := ⟨gP, 0, none⟩) (j := 2) (k := 16) (n := 4) (c := 4) (by decide) rfl rfl rfl Tryd.underlying135 (by kernel_rfl)).trans (by rw [Addr.add_mid]))
 refine z0 (vs := (p4 X3 Y3 Z3 T3).toList) (by rfl) rfl rfl k_pp (J0 g8w) (by kernel_rfl) (by kernel_rfl) ?_
 (try simp only [Act.put, mA, mB, mC])
 clear k_t7 J9
 refine K8 ?_ (z := p4 0 0 0 0) (t := 60) (cells := p4 X3 Y3 Z3 T3)
 intro x0u W19 u9 hO h_
 have J9 := d8 (Row.lt a8) u9
 replace k_pp := k_pp.o hO
 replace k_t8 := k_t8.o hO
 replace ow_s10 := Own.off ow_s10 hO f0
 replace k9 := Sl.off k9 hO f0
 replace n6 := Sl.off n6 hO f0
 replace i5 := Sl.off i5 hO f0
 replace a8 := Row.off a8 hO f0
 replace off0 := off0.o hO
 have k_t7 := h_
 clear hO h_ u9
 refine q5 ?_
 go_upto_region 5 with fail
 refine wp_region_lit ?_
 refine L0 ?_ k_t7
 refine Lr ?_ (T0 h3.rw HU3.out W19 (y7 hG off0.ext).1)
 intro W20 hO
 replace k_pp := k_pp.o hO
 replace k_t8 := k_t8.o hO
 replace k_t7 := k_t7.o hO
 replace ow_s10 := Own.off ow_s10 hO f0
 replace k9 := Sl.off k9 hO f0
 replace n6 := Sl.off n6 hO f0
 replace i5 := Sl.off i5 hO f0
 replace a8 := Row.off a8 hO f0
 replace off0 := off0.o hO
 clear hO
 clear k_t8 o5
 refine LnA ?_ (z := q7 .u8 32 (j0 0)) (t := 22) (k := .u8) (n := 32) (f := j0 U3)
 intro B5 W22 n3 hO h_
 have o5 := d8 (Row.lt a8) n3
 replace k_pp := k_pp.o hO
 replace k_t7 := k_t7.o hO
 replace ow_s10 := Own.off ow_s10 hO f0
 replace k9 := Sl.off k9 hO f0
 replace n6 := Sl.off n6 hO f0
 replace i5 := Sl.off i5 hO f0
 replace a8 := Row.off a8 hO f0
 replace off0 := off0.o hO
 have k_t8 := h_
 clear hO h_ n3
 refine q5 ?_
 go_upto_region 6 with fail
 refine wp_region_lit ?_
 refine Lv ?_
 refine Lw ?_ (v := .slice (some ⟨B5, 0, none⟩) 32 32)
 have w7 : Sl W22 (.slice (some ⟨B5, 0, none⟩) 32 32) (lb 32 U3) := (b6 (V := U3) (n := 32) (off := 0) k_t8 ap0 (by decide) (by decide))
 have O1 : ∀ x, (Value.ownBlock y1o) = some x → sb (.slice (some ⟨B5, 0, none⟩) 32 32) (lb 32 U3) ≠ some x := q7w o5
 refine I4 ?_ (z := #[(.slice (some ⟨B5, 0, none⟩) 32 32)]) (t := 23) (n := 1) (c := 1) (hr := by exact Q5 [(.slice (some ⟨B5, 0, none⟩) 32 32)] rfl rfl (vsc ((w5 w7).1) vs0) Tryd.underlying112 (by kernel_rfl) (by kernel_rfl) rfl (by decide) (by decide))
 intro g8z W23 O9 hO h_
 have p6 := d8 (Row.lt a8) O9
 replace k_pp := k_pp.o hO
 replace k_t7 := k_t7.o hO
 replace k_t8 := k_t8.o hO
 replace ow_s10 := Own.off ow_s10 hO f0
 replace k9 := Sl.off k9 hO f0
 replace n6 := Sl.off n6 hO f0
 replace i5 := Sl.off i5 hO f0
 replace a8 := Row.off a8 hO f0
 replace w7 := Sl.off w7 hO f0
 replace off0 := off0.o hO
 have J5 := h_
 clear hO h_ O9
 refine D5 (es := ([(.slice (some ⟨Y6, 0, none⟩) 2 2), (.slice (some ⟨v9, 0, none⟩) 32 32), (.slice (some ⟨E0, 0, none⟩) 32 32), (.slice (some ⟨K5, 0, none⟩) 32 32)].map fun x => [x])) (cs := #[(.slice (some ⟨B5, 0, none⟩) 32 32)]) (bytes := 24) (by rfl) rfl rfl rfl a8 J5 rfl (y9v (w5 w7).2) (by first | decide | (show 0 < 1; decide)) Tryd.underlying112 (by kernel_rfl) (by first | omega | (simp only [List.length_append, List.length_cons, List.length_nil, g7]; omega) | (simp; done)) (by unfold maxLen; first | omega | (simp only [List.length_append, List.length_cons, List.length_nil, g7]; omega) | (simp; done)) ?_
 (try simp only [Act.put, mA, mB, mC])
 intro y1p W24 i4 hO v8
 replace i4 : Row 23 1 W24 y1p (([(.slice (some ⟨Y6, 0, none⟩) 2 2), (.slice (some ⟨v9, 0, none⟩) 32 32), (.slice (some ⟨E0, 0, none⟩) 32 32), (.slice (some ⟨K5, 0, none⟩) 32 32)].map fun x => [x]) ++ [[(.slice (some ⟨B5, 0, none⟩) 32 32)]]) := i4
 have F6 := l7 v8 o5 (y4 k_t8)
 have G2 := l9 v8 J6 (Own.lt ow_s10)
 have V2 := l9 v8 V9 (Sl.lt k9)
 have V3 := l9 v8 Q6 (Sl.lt n6)
 have F7 := l9 v8 N0 (Sl.lt i5)
 have q2r := l9 v8 O1 (Sl.lt w7)
 have q0u := Q0 v8 q2o off0.size
 replace k_pp := z7 k_pp hO (nmo O0)
 replace k_t7 := z7 k_t7 hO (nmo J9)
 replace k_t8 := z7 k_t8 hO (nmo o5)
 replace J5 := z7 J5 hO (nmo p6)
 replace ow_s10 := Own.off ow_s10 hO (fo J6)
 replace k9 := Sl.off k9 hO (fo V9)
 replace n6 := Sl.off n6 hO (fo Q6)
 replace i5 := Sl.off i5 hO (fo N0)
 replace w7 := Sl.off w7 hO (fo O1)
 replace off0 := off0.step hO (io q2o)
 clear hO v8
 replace i4 : Row 23 1 W24 y1p ([(.slice (some ⟨Y6, 0, none⟩) 2 2), (.slice (some ⟨v9, 0, none⟩) 32 32), (.slice (some ⟨E0, 0, none⟩) 32 32), (.slice (some ⟨K5, 0, none⟩) 32 32), (.slice (some ⟨B5, 0, none⟩) 32 32)].map fun x => [x]) := i4
 have a8 := i4
 clear i4
 have q2o := q0u
 have o5 := F6
 have J6 := G2
 have V9 := V2
 have Q6 := V3
 have N0 := F7
 have O1 := q2r
 clear J5 p6
 refine Lv ?_
 refine q5 ?_
 go_wp2_with fail
 rw [rounds_succ]
 go_upto_region 4 with fail
 refine wp_region_lit ?_
 refine Lw ?_ (v := .pointer (some ⟨gP, 48, none⟩)) (hv := by exact (q3s (ad := ⟨gP, 0, none⟩) (j := 3) (k := 16) (n := 4) (c := 4) (by decide) rfl rfl rfl Tryd.underlying135 (by kernel_rfl)).trans (by rw [Addr.add_mid]))
 refine z0 (vs := (p4 X4 Y4 Z4 T4).toList) (by rfl) rfl rfl k_pp (J0 g8x) (by kernel_rfl) (by kernel_rfl) ?_
 (try simp only [Act.put, mA, mB, mC])
 clear k_t7 J9
 refine K8 ?_ (z := p4 0 0 0 0) (t := 60) (cells := p4 X4 Y4 Z4 T4)
 intro x0v W26 u9 hO h_
 replace k_t8 := k_t8.o hO
 replace ow_s10 := Own.off ow_s10 hO f0
 replace k9 := Sl.off k9 hO f0
 replace n6 := Sl.off n6 hO f0
 replace i5 := Sl.off i5 hO f0
 replace w7 := Sl.off w7 hO f0
 replace a8 := Row.off a8 hO f0
 replace off0 := off0.o hO
 have k_t7 := h_
 clear hO h_ u9
 refine q5 ?_
 go_upto_region 5 with fail
 refine wp_region_lit ?_
 refine L0 ?_ k_t7
 refine Lr ?_ (T0 h4.rw HU4.out W26 (y7 hG off0.ext).1)
 intro W27 hO
 replace k_t8 := k_t8.o hO
 replace ow_s10 := Own.off ow_s10 hO f0
 replace k9 := Sl.off k9 hO f0
 replace n6 := Sl.off n6 hO f0
 replace i5 := Sl.off i5 hO f0
 replace w7 := Sl.off w7 hO f0
 replace a8 := Row.off a8 hO f0
 replace off0 := off0.o hO
 clear hO
 clear k_t8 o5
 refine LnA ?_ (z := q7 .u8 32 (j0 0)) (t := 22) (k := .u8) (n := 32) (f := j0 U4)
 intro R0 W29 n3 hO h_
 have o5 := d8 (Row.lt a8) n3
 replace ow_s10 := Own.off ow_s10 hO f0
 replace k9 := Sl.off k9 hO f0
 replace n6 := Sl.off n6 hO f0
 replace i5 := Sl.off i5 hO f0
 replace w7 := Sl.off w7 hO f0
 replace a8 := Row.off a8 hO f0
 replace off0 := off0.o hO
 have k_t8 := h_
 clear hO h_ n3
 refine q5 ?_
 go_upto_region 6 with fail
 refine wp_region_lit ?_
 refine Lv ?_
 refine Lw ?_ (v := .slice (some ⟨R0, 0, none⟩) 32 32)
 have A1 : Sl W29 (.slice (some ⟨R0, 0, none⟩) 32 32) (lb 32 U4) := (b6 (V := U4) (n := 32) (off := 0) k_t8 ap0 (by decide) (by decide))
 have q3u : ∀ x, (Value.ownBlock y1p) = some x → sb (.slice (some ⟨R0, 0, none⟩) 32 32) (lb 32 U4) ≠ some x := q7w o5
 refine I4 ?_ (z := #[(.slice (some ⟨R0, 0, none⟩) 32 32)]) (t := 23) (n := 1) (c := 1) (hr := by exact Q5 [(.slice (some ⟨R0, 0, none⟩) 32 32)] rfl rfl (vsc ((w5 A1).1) vs0) Tryd.underlying112 (by kernel_rfl) (by kernel_rfl) rfl (by decide) (by decide))
 intro g9a W30 O9 hO h_
 replace ow_s10 := Own.off ow_s10 hO f0
 replace k9 := Sl.off k9 hO f0
 replace n6 := Sl.off n6 hO f0
 replace i5 := Sl.off i5 hO f0
 replace w7 := Sl.off w7 hO f0
 replace a8 := Row.off a8 hO f0
 replace A1 := Sl.off A1 hO f0
 replace off0 := off0.o hO
 have J5 := h_
 clear hO h_ O9
 refine D5 (es := ([(.slice (some ⟨Y6, 0, none⟩) 2 2), (.slice (some ⟨v9, 0, none⟩) 32 32), (.slice (some ⟨E0, 0, none⟩) 32 32), (.slice (some ⟨K5, 0, none⟩) 32 32), (.slice (some ⟨B5, 0, none⟩) 32 32)].map fun x => [x])) (cs := #[(.slice (some ⟨R0, 0, none⟩) 32 32)]) (bytes := 24) (by rfl) rfl rfl rfl a8 J5 rfl (y9v (w5 A1).2) (by first | decide | (show 0 < 1; decide)) Tryd.underlying112 (by kernel_rfl) (by first | omega | (simp only [List.length_append, List.length_cons, List.length_nil, g7]; omega) | (simp; done)) (by unfold maxLen; first | omega | (simp only [List.length_append, List.length_cons, List.length_nil, g7]; omega) | (simp; done)) ?_
 (try simp only [Act.put, mA, mB, mC])
 intro y1q W31 i4 hO v8
 replace i4 : Row 23 1 W31 y1q (([(.slice (some ⟨Y6, 0, none⟩) 2 2), (.slice (some ⟨v9, 0, none⟩) 32 32), (.slice (some ⟨E0, 0, none⟩) 32 32), (.slice (some ⟨K5, 0, none⟩) 32 32), (.slice (some ⟨B5, 0, none⟩) 32 32)].map fun x => [x]) ++ [[(.slice (some ⟨R0, 0, none⟩) 32 32)]]) := i4
 have G2 := l9 v8 J6 (Own.lt ow_s10)
 have V2 := l9 v8 V9 (Sl.lt k9)
 have V3 := l9 v8 Q6 (Sl.lt n6)
 have F7 := l9 v8 N0 (Sl.lt i5)
 have q2r := l9 v8 O1 (Sl.lt w7)
 have y6h := l9 v8 q3u (Sl.lt A1)
 have q0u := Q0 v8 q2o off0.size
 replace ow_s10 := Own.off ow_s10 hO (fo J6)
 replace k9 := Sl.off k9 hO (fo V9)
 replace n6 := Sl.off n6 hO (fo Q6)
 replace i5 := Sl.off i5 hO (fo N0)
 replace w7 := Sl.off w7 hO (fo O1)
 replace A1 := Sl.off A1 hO (fo q3u)
 replace off0 := off0.step hO (io q2o)
 clear hO v8
 replace i4 : Row 23 1 W31 y1q ([(.slice (some ⟨Y6, 0, none⟩) 2 2), (.slice (some ⟨v9, 0, none⟩) 32 32), (.slice (some ⟨E0, 0, none⟩) 32 32), (.slice (some ⟨K5, 0, none⟩) 32 32), (.slice (some ⟨B5, 0, none⟩) 32 32), (.slice (some ⟨R0, 0, none⟩) 32 32)].map fun x => [x]) := i4
 have a8 := i4
 clear i4
 have q2o := q0u
 have J6 := G2
 have V9 := V2
 have Q6 := V3
 have N0 := F7
 have O1 := q2r
 have q3u := y6h
 clear J5 p6
 refine Lv ?_
 refine q5 ?_
 go_wp2_with fail
 rw [rounds_succ]
 go_upto_region 8 with fail
 refine wp_region_lit ?_
 refine Lv ?_
 refine I4 ?_ (z := #[.int .u8 0]) (t := 5) (n := 1) (c := 1)
 intro T6 W32 j8n hO h_
 have j1u : ∀ x, (Value.ownBlock y1q) = some x → Value.ownBlock (.slice (some ⟨T6, 0, none⟩) 1 1) ≠ some x := S4 (Row.lt a8) j8n
 replace ow_s10 := Own.off ow_s10 hO f0
 replace k9 := Sl.off k9 hO f0
 replace n6 := Sl.off n6 hO f0
 replace i5 := Sl.off i5 hO f0
 replace w7 := Sl.off w7 hO f0
 replace A1 := Sl.off A1 hO f0
 replace a8 := Row.off a8 hO f0
 replace off0 := off0.o hO
 have ow_s27 : Own W32 (.slice (some ⟨T6, 0, none⟩) 1 1) [0] := b5 h_ (by rfl) (by show 1 ≤ maxLen; decide)
 clear hO h_ j8n
 refine I4 ?_ (z := #[(.slice (some ⟨T6, 0, none⟩) 1 1)]) (t := 23) (n := 1) (c := 1) (hr := by exact Q5 [(.slice (some ⟨T6, 0, none⟩) 1 1)] rfl rfl (vsc ((p3 ow_s27).1) vs0) Tryd.underlying112 (by kernel_rfl) (by kernel_rfl) rfl (by decide) (by decide))
 intro g9b W33 j0x hO h_
 replace ow_s10 := Own.off ow_s10 hO f0
 replace k9 := Sl.off k9 hO f0
 replace n6 := Sl.off n6 hO f0
 replace i5 := Sl.off i5 hO f0
 replace w7 := Sl.off w7 hO f0
 replace A1 := Sl.off A1 hO f0
 replace a8 := Row.off a8 hO f0
 replace ow_s27 := Own.off ow_s27 hO f0
 replace off0 := off0.o hO
 have j8o := h_
 clear hO h_ j0x
 refine D5 (es := ([(.slice (some ⟨Y6, 0, none⟩) 2 2), (.slice (some ⟨v9, 0, none⟩) 32 32), (.slice (some ⟨E0, 0, none⟩) 32 32), (.slice (some ⟨K5, 0, none⟩) 32 32), (.slice (some ⟨B5, 0, none⟩) 32 32), (.slice (some ⟨R0, 0, none⟩) 32 32)].map fun x => [x])) (cs := #[(.slice (some ⟨T6, 0, none⟩) 1 1)]) (bytes := 24) (by rfl) rfl rfl rfl a8 j8o rfl (y9v (p3 ow_s27).2) (by first | decide | (show 0 < 1; decide)) Tryd.underlying112 (by kernel_rfl) (by first | omega | (simp only [List.length_append, List.length_cons, List.length_nil, g7]; omega) | (simp; done)) (by unfold maxLen; first | omega | (simp only [List.length_append, List.length_cons, List.length_nil, g7]; omega) | (simp; done)) ?_
 (try simp only [Act.put, mA, mB, mC])
 intro j1v W34 L7 hO q4v
 replace L7 : Row 23 1 W34 j1v (([(.slice (some ⟨Y6, 0, none⟩) 2 2), (.slice (some ⟨v9, 0, none⟩) 32 32), (.slice (some ⟨E0, 0, none⟩) 32 32), (.slice (some ⟨K5, 0, none⟩) 32 32), (.slice (some ⟨B5, 0, none⟩) 32 32), (.slice (some ⟨R0, 0, none⟩) 32 32)].map fun x => [x]) ++ [[(.slice (some ⟨T6, 0, none⟩) 1 1)]]) := L7
 replace ow_s10 := Own.off ow_s10 hO (fo J6)
 replace k9 := Sl.off k9 hO (fo V9)
 replace n6 := Sl.off n6 hO (fo Q6)
 replace i5 := Sl.off i5 hO (fo N0)
 replace w7 := Sl.off w7 hO (fo O1)
 replace A1 := Sl.off A1 hO (fo q3u)
 replace ow_s27 := Own.off ow_s27 hO (fo j1u)
 replace off0 := off0.step hO (io q2o)
 clear hO q4v
 replace L7 : Row 23 1 W34 j1v ([(.slice (some ⟨Y6, 0, none⟩) 2 2), (.slice (some ⟨v9, 0, none⟩) 32 32), (.slice (some ⟨E0, 0, none⟩) 32 32), (.slice (some ⟨K5, 0, none⟩) 32 32), (.slice (some ⟨B5, 0, none⟩) 32 32), (.slice (some ⟨R0, 0, none⟩) 32 32), (.slice (some ⟨T6, 0, none⟩) 1 1)].map fun x => [x]) := L7
 have a8 := L7
 clear L7
 clear j8o
 obtain ⟨A_, c_, ev_, hps_⟩ := j6g (vs := [(.slice (some ⟨Y6, 0, none⟩) 2 2), (.slice (some ⟨v9, 0, none⟩) 32 32), (.slice (some ⟨E0, 0, none⟩) 32 32), (.slice (some ⟨K5, 0, none⟩) 32 32), (.slice (some ⟨B5, 0, none⟩) 32 32), (.slice (some ⟨R0, 0, none⟩) 32 32), (.slice (some ⟨T6, 0, none⟩) 1 1)]) (ps := [[3, 2], lb 32 V, lb 32 U1, lb 32 U2, lb 32 U3, lb 32 U4, [0]]) a8 rfl (pvc (ow_s10.sl) (pvc k9 (pvc n6 (pvc i5 (pvc w7 (pvc A1 (pvc (ow_s27.sl) pv0))))))) (by simp)
 subst ev_
 refine Lr ?_ (L6 HU5.out [[3, 2], lb 32 V, lb 32 U1, lb 32 U2, lb 32 U3, lb 32 U4, [0]] A_ c_ (by simp only [List.flatten_cons, List.flatten_nil, List.append_nil, List.nil_append, List.append_assoc, List.cons_append]) (by first | omega | (simp only [List.length_append, List.length_cons, List.length_nil, g7]; omega)) (by simp) W34 hps_ (y7 hG off0.ext).2.1)
 intro W35 hO
 replace off0 := off0.o hO
 clear hO
 refine LnA ?_ (z := q7 .u8 64 (j0 0)) (t := 30) (k := .u8) (n := 64) (f := j0 U5)
 intro j8p W37 C4 hO h_
 have q4h := l4 off0 C4
 replace off0 := off0.o hO
 have k_t9 := h_
 clear hO h_ C4
 refine q5 ?_
 go_upto_region 9 with fail
 refine wp_region_lit ?_
 refine Lv ?_
 refine Lv ?_
 refine q5 ?_
 go_wp2
 exact bodyPost_ret (v := .slice (some ⟨j8p, 0, none⟩) 16 64) (by simp only [results, Tryd.results61]; go_simp) rfl ⟨j8p, rfl, Nat.not_lt.1 (fun h => by cases q4h h), off0, by rw [hX]; rw [show chH V a1 a2 a3 a4 = U5 by rw [HU5.out, HU4.out, HU3.out, HU2.out, HU1.out]; rfl]; exact k_t9⟩
end Go.Proofs.YtefpoollmbmkfaaDoor

namespace Go.Proofs.YtefpoollmbmkfaaDoor
set_option maxHeartbeats 2000000
set_option maxRecDepth 100000
open Go.RowKit
attribute [local irreducible] wpList D9
variable {kn : Kn}
open Sc (LL e9)
attribute [local irreducible] hs
theorem q8h (V off j : Nat) : j0 (V / 2 ^ (8 * off)) j = j0 V (off + j) := by
  unfold j0
  rw [Nat.div_div_eq_div_mul, ← Nat.pow_add, show 8 * off + 8 * j = 8 * (off + j) by omega]
theorem y4f {V m j : Nat} (hj : j < m) : j0 (V % 2 ^ (8 * m)) j = j0 V j := by
  unfold j0
  have e : (2 : Nat) ^ (8 * m) = 2 ^ (8 * j) * 2 ^ (8 * m - 8 * j) := by rw [← Nat.pow_add]; congr 1; omega
  have e2 : (2 : Nat) ^ (8 * m - 8 * j) = 256 * 2 ^ (8 * m - 8 * j - 8) := by rw [show 8 * m - 8 * j = 8 + (8 * m - 8 * j - 8) by omega, Nat.pow_add, Nat.add_sub_cancel_left]
  rw [e, Nat.mod_mul_right_div_self, e2, Nat.mod_mul_right_mod]
theorem q3v {n m off V U : Nat} (hU : ∀ j, j < m → j0 U j = j0 V (off + j)) (h : off + m ≤ n) : ∀ i v, (q7 .u8 m (j0 U))[i]? = some v → (q7 .u8 n (j0 V))[off + i]? = some v := fun i v hv => by
  have hi : i < m := by have := (Array.getElem?_eq_some_iff.1 hv).1; rwa [y5] at this
  rw [y9 _ _ _ _ hi, hU i hi] at hv
  rw [y9 _ _ _ _ (by omega)]; exact hv
theorem g2g {P j : Nat} (hj : j < 16) : j0 (pC P) j = j0 P (32 + j) := by
  unfold pC
  rw [show p7 = 2 ^ (8 * 16) from rfl, y4f hj, show (2 : Nat) ^ 256 = 2 ^ (8 * 32) from rfl, q8h]
theorem g2h (P j : Nat) : j0 (pN P) j = j0 P (48 + j) := by
  unfold pN
  rw [show p7 = 2 ^ (8 * 16) from rfl, q8h, show (2 : Nat) ^ 256 = 2 ^ (8 * 32) from rfl, q8h, show 32 + (16 + j) = 48 + j by omega]
theorem y6i {P : Nat} : ∀ i v, (q7 .u8 32 (j0 (pG P)))[i]? = some v → (q7 .u8 80 (j0 P))[0 + i]? = some v := q3v (fun j hj => by rw [Nat.zero_add]; exact j1l hj) (by decide)
theorem g2i {P : Nat} : ∀ i v, (q7 .u8 16 (j0 (pC P)))[i]? = some v → (q7 .u8 80 (j0 P))[32 + i]? = some v := q3v (fun j hj => g2g hj) (by decide)
theorem j6h {P : Nat} : ∀ i v, (q7 .u8 32 (j0 (pN P)))[i]? = some v → (q7 .u8 80 (j0 P))[48 + i]? = some v := q3v (fun j _ => g2h P j) (by decide)
theorem q6n (P : Nat) : pG P < 2 ^ 256 := j8j P
theorem y4g (P : Nat) : pC P < p7 := Nat.mod_lt _ (by decide)
def B80 (P : Nat) : Prop := pN P < 2 ^ 256
theorem q0e {P : Program} {fn : Func} {p q r : Tmp} {ty tz t t' : TypeId} {tmps : Array Value} {w : World} {g g' : Nat} {cs ds : Array Value} {v : Value} (h : fn.results = #[.cell p ty, .cell q tz, .tmp r])
    (hp : tmps.getD p undef = .pointer (some ⟨g, 0, none⟩)) (hq : tmps.getD q undef = .pointer (some ⟨g', 0, none⟩)) (hr : tmps.getD r undef = v) (hB : Blk w g cs t) (hC : Blk w g' ds t') (hk : (P.underlying ty).map TypeDesc.isRow = some true) (hi : (P.info? ty).map (·.size) = some cs.size)
    (hk' : (P.underlying tz).map TypeDesc.isRow = some true) (hi' : (P.info? tz).map (·.size) = some ds.size) : (results fn tmps).run P w = .ok (.tuple #[.agg cs, .agg ds, v]) w := by
  cases hu : P.underlying ty with
  | none => simp [hu] at hk
  | some d =>
    cases hu' : P.underlying tz with
    | none => simp [hu'] at hk'
    | some d' =>
      have hd : d.isRow = true := by simpa [hu] using hk
      have hd' : d'.isRow = true := by simpa [hu'] using hk'
      have hp' : tmps[p]?.getD undef = .pointer (some ⟨g, 0, none⟩) := by simpa using hp
      have hq' : tmps[q]?.getD undef = .pointer (some ⟨g', 0, none⟩) := by simpa using hq
      have hr' : tmps[r]?.getD undef = v := by simpa using hr
      simp [results, h, hp', hq', hr', asAddr, run_loadVar_row w g t ty cs _ d hB hu (by cases d <;> simp_all [TypeDesc.isRow]) hi, run_loadVar_row w g' t' tz ds _ d' hC hu' (by cases d' <;> simp_all [TypeDesc.isRow]) hi']

theorem g6i (hc : kn.c) {V : Nat} (hV : V < 2 ^ 256) (hok : G9 V = false) :
  ∀ w, GA kn w → Calls Tryd.prog 64 #[.agg (q7 .u8 32 (j0 V))] w fun e w' => m7 (.tuple #[.agg (p4 0 0 0 0), .int .i64 15]) w w' e := by
 have dc := q2d (kn := kn) hc (V := V) hV hok
 intro w hG
 have off0 : Off [] w w := Off.refl _ _
 go_enter Tryd.func64, Tryd.ntmps64
 go_upto_region 0 with fail
 refine wp_region_lit ?_
 refine Ln ?_ (z := q7 .u8 32 (j0 V)) (t := 22)
 intro b7 W1 t8 hO h_
 replace off0 := off0.o hO
 have k_t1 := h_
 clear hO h_ t8
 refine Ln ?_ (z := p4 0 0 0 0) (t := 60)
 intro s9 W2 z4 hO h_
 have u7 := l4 off0 z4
 replace k_t1 := k_t1.o hO
 replace off0 := off0.o hO
 have k_t2 := h_
 clear hO h_ z4
 refine Lw ?_ (v := .int .i64 0)
 refine q5 ?_
 go_upto_region 1 with fail
 refine wp_region_lit ?_
 refine B9 ?_ k_t1
 refine Lr ?_ (dc W2 (y7 hG off0.ext).1)
 intro W3 hO
 replace k_t2 := k_t2.o hO
 replace off0 := off0.o hO
 clear hO
 refine Lv ?_
 refine Lv ?_
 refine Lw ?_ (v := .int .i64 15)
 refine K8 ?_ (z := p4 0 0 0 0) (t := 60) (cells := p4 0 0 0 0)
 intro j6i W5 a7 hO h_
 replace k_t2 := k_t2.o hO
 replace off0 := off0.o hO
 have k_t4 := h_
 clear hO h_ a7
 refine Lw ?_ (v := .int .i64 15)
 refine q5 ?_
 go_upto_region 2 with fail
 refine wp_region_lit ?_
 refine Lw ?_ (v := .int .i64 15)
 refine Lw ?_ (v := .bool false)
 refine Lw ?_ (v := .bool false)
 refine Ls ?_
 refine Ls ?_
 refine Ls ?_
 refine Ls ?_
 refine Lw ?_ (v := .bool false)
 refine q5 ?_
 go_upto_region 4 with fail
 refine wp_region_lit ?_
 refine L0 ?_ k_t4
 refine Lw ?_ (v := .int .i64 15)
 refine Lp ?_ k_t2 (cells := p4 0 0 0 0)
 intro W6 hO h_
 replace k_t2 : Blk W6 s9 (p4 0 0 0 0) 60 := h_
 clear h_
 replace off0 := off0.p hO u7
 clear hO
 refine Lw ?_ (v := .int .i64 15)
 refine q5 ?_
 go_wp2
 exact bodyPost_ret (u4 rfl rfl rfl k_t2 (by kernel_rfl) (by kernel_rfl)) rfl ⟨rfl, off0.ext⟩
theorem g6j (hc : kn.c) {V : Nat} (hV : V < 2 ^ 256) (hok : G9 V = true) (h8 : pm (B1 V) 8 = p0) :
  ∃ X Y T, RN X Y 1 T (B1 V) ∧ ∀ w, GA kn w → Calls Tryd.prog 64 #[.agg (q7 .u8 32 (j0 V))] w fun e w' => m7 (.tuple #[.agg (p4 X Y 1 T), .int .i64 15]) w w' e := by
 obtain ⟨dx, dt, dr, dc⟩ := R9 hc (V := V) hV hok
 obtain ⟨y0, hy0⟩ := z8 (V % 2 ^ 255)
 rw [← hy0] at dr dc
 clear hy0
 obtain ⟨x1, y2, z3, t4, r5, c6⟩ := F0 (kn := kn) dr.rw
 have cs_ := q1g (kn := kn) r5.rw P6
 rw [decide_eq_true h8] at cs_
 refine ⟨dx, y0, dt, dr, fun w hG => ?_⟩
 have off0 : Off [] w w := Off.refl _ _
 go_enter Tryd.func64, Tryd.ntmps64
 go_upto_region 0 with fail
 refine wp_region_lit ?_
 refine Ln ?_ (z := q7 .u8 32 (j0 V)) (t := 22)
 intro b7 W1 t8 hO h_
 replace off0 := off0.o hO
 have k_t1 := h_
 clear hO h_ t8
 refine Ln ?_ (z := p4 0 0 0 0) (t := 60)
 intro s9 W2 z4 hO h_
 have u7 := l4 off0 z4
 replace k_t1 := k_t1.o hO
 replace off0 := off0.o hO
 have k_t2 := h_
 clear hO h_ z4
 refine Lw ?_ (v := .int .i64 0)
 refine q5 ?_
 go_upto_region 1 with fail
 refine wp_region_lit ?_
 refine B9 ?_ k_t1
 refine Lr ?_ (dc W2 (y7 hG off0.ext).1)
 intro W3 hO
 replace k_t2 := k_t2.o hO
 replace off0 := off0.o hO
 clear hO
 refine Lv ?_
 refine Lv ?_
 refine Lw ?_ (v := .int .i64 0)
 refine K8 ?_ (z := p4 0 0 0 0) (t := 60) (cells := p4 dx y0 1 dt)
 intro j6i W5 a7 hO h_
 replace k_t2 := k_t2.o hO
 replace off0 := off0.o hO
 have k_t4 := h_
 clear hO h_ a7
 refine Lw ?_ (v := .int .i64 0)
 refine q5 ?_
 go_upto_region 2 with fail
 refine wp_region_lit ?_
 refine Lw ?_ (v := .int .i64 0)
 refine Lw ?_ (v := .bool true)
 refine Lw ?_ (v := .bool true)
 refine L0 ?_ k_t4
 refine Lr ?_ (c6 W5 (y7 hG off0.ext).1)
 intro W6 hO
 replace k_t2 := k_t2.o hO
 replace k_t4 := k_t4.o hO
 replace off0 := off0.o hO
 clear hO
 refine Lw ?_ (v := .agg (p4 0 0 0 0)) (hv := by kernel_rfl)
 refine Lr ?_ (cs_ W6 (y7 hG off0.ext).1)
 intro W7 hO
 replace k_t2 := k_t2.o hO
 replace k_t4 := k_t4.o hO
 replace off0 := off0.o hO
 clear hO
 refine Lw ?_ (v := .bool true)
 refine q5 ?_
 go_upto_region 4 with fail
 refine wp_region_lit ?_
 refine L0 ?_ k_t4
 refine Lw ?_ (v := .int .i64 15)
 refine Lp ?_ k_t2 (cells := p4 dx y0 1 dt)
 intro W8 hO h_
 replace k_t2 : Blk W8 s9 (p4 dx y0 1 dt) 60 := h_
 clear h_
 replace off0 := off0.p hO u7
 clear hO
 refine Lw ?_ (v := .int .i64 15)
 refine q5 ?_
 go_wp2
 exact bodyPost_ret (u4 rfl rfl rfl k_t2 (by kernel_rfl) (by kernel_rfl)) rfl ⟨rfl, off0.ext⟩
theorem q9u (hc : kn.c) {V : Nat} (hV : V < 2 ^ 256) (hok : G9 V = true) (h8 : ¬ pm (B1 V) 8 = p0) :
  ∃ X Y T, RN X Y 1 T (B1 V) ∧ ∀ w, GA kn w → Calls Tryd.prog 64 #[.agg (q7 .u8 32 (j0 V))] w fun e w' => m7 (.tuple #[.agg (p4 X Y 1 T), .int .i64 0]) w w' e := by
 obtain ⟨dx, dt, dr, dc⟩ := R9 hc (V := V) hV hok
 obtain ⟨y0, hy0⟩ := z8 (V % 2 ^ 255)
 rw [← hy0] at dr dc
 clear hy0
 obtain ⟨x1, y2, z3, t4, r5, c6⟩ := F0 (kn := kn) dr.rw
 have cs_ := q1g (kn := kn) r5.rw P6
 rw [decide_eq_false h8] at cs_
 refine ⟨dx, y0, dt, dr, fun w hG => ?_⟩
 have off0 : Off [] w w := Off.refl _ _
 go_enter Tryd.func64, Tryd.ntmps64
 go_upto_region 0 with fail
 refine wp_region_lit ?_
 refine Ln ?_ (z := q7 .u8 32 (j0 V)) (t := 22)
 intro b7 W1 t8 hO h_
 replace off0 := off0.o hO
 have k_t1 := h_
 clear hO h_ t8
 refine Ln ?_ (z := p4 0 0 0 0) (t := 60)
 intro s9 W2 z4 hO h_
 have u7 := l4 off0 z4
 replace k_t1 := k_t1.o hO
 replace off0 := off0.o hO
 have k_t2 := h_
 clear hO h_ z4
 refine Lw ?_ (v := .int .i64 0)
 refine q5 ?_
 go_upto_region 1 with fail
 refine wp_region_lit ?_
 refine B9 ?_ k_t1
 refine Lr ?_ (dc W2 (y7 hG off0.ext).1)
 intro W3 hO
 replace k_t2 := k_t2.o hO
 replace off0 := off0.o hO
 clear hO
 refine Lv ?_
 refine Lv ?_
 refine Lw ?_ (v := .int .i64 0)
 refine K8 ?_ (z := p4 0 0 0 0) (t := 60) (cells := p4 dx y0 1 dt)
 intro j6i W5 a7 hO h_
 replace k_t2 := k_t2.o hO
 replace off0 := off0.o hO
 have k_t4 := h_
 clear hO h_ a7
 refine Lw ?_ (v := .int .i64 0)
 refine q5 ?_
 go_upto_region 2 with fail
 refine wp_region_lit ?_
 refine Lw ?_ (v := .int .i64 0)
 refine Lw ?_ (v := .bool true)
 refine Lw ?_ (v := .bool true)
 refine L0 ?_ k_t4
 refine Lr ?_ (c6 W5 (y7 hG off0.ext).1)
 intro W6 hO
 replace k_t2 := k_t2.o hO
 replace k_t4 := k_t4.o hO
 replace off0 := off0.o hO
 clear hO
 refine Lw ?_ (v := .agg (p4 0 0 0 0)) (hv := by kernel_rfl)
 refine Lr ?_ (cs_ W6 (y7 hG off0.ext).1)
 intro W7 hO
 replace k_t2 := k_t2.o hO
 replace k_t4 := k_t4.o hO
 replace off0 := off0.o hO
 clear hO
 refine Lw ?_ (v := .bool false)
 refine q5 ?_
 go_upto_region 4 with fail
 refine wp_region_lit ?_
 refine L0 ?_ k_t4
 refine Lw ?_ (v := .int .i64 0)
 refine Lp ?_ k_t2 (cells := p4 dx y0 1 dt)
 intro W8 hO h_
 replace k_t2 : Blk W8 s9 (p4 dx y0 1 dt) 60 := h_
 clear h_
 replace off0 := off0.p hO u7
 clear hO
 refine Lw ?_ (v := .int .i64 0)
 refine q5 ?_
 go_wp2
 exact bodyPost_ret (u4 rfl rfl rfl k_t2 (by kernel_rfl) (by kernel_rfl)) rfl ⟨rfl, off0.ext⟩
theorem j6j (hc : kn.c) {P : Nat} (hP : B80 P) (hok : G9 (pG P) = false) (h1 : LL ≤ pN P) :
  ∀ w, GA kn w → Calls Tryd.prog 65 #[.agg (q7 .u8 80 (j0 P))] w fun e w' => m7 (.tuple #[.agg (p4 0 0 0 0), .agg (c4 0), .int .i64 17]) w w' e := by
 have dc := q2d (kn := kn) hc (V := (pG P)) (q6n P) hok
 intro w hG
 have off0 : Off [] w w := Off.refl _ _
 go_enter Tryd.func65, Tryd.ntmps65
 go_upto_region 0 with fail
 refine wp_region_lit ?_
 refine Ln ?_ (z := q7 .u8 80 (j0 P)) (t := 45)
 intro b7 W1 t8 hO h_
 replace off0 := off0.o hO
 have k_t1 := h_
 clear hO h_ t8
 refine Ln ?_ (z := p4 0 0 0 0) (t := 60)
 intro s9 W2 z4 hO h_
 have u7 := l4 off0 z4
 replace k_t1 := k_t1.o hO
 replace off0 := off0.o hO
 have k_t2 := h_
 clear hO h_ z4
 refine Ln ?_ (z := c4 0) (t := 42)
 intro q2b W3 m8 hO h_
 have nq_t2_t3 := bn k_t2 m8
 have K3 := l4 off0 m8
 replace k_t1 := k_t1.o hO
 replace k_t2 := k_t2.o hO
 replace off0 := off0.o hO
 have k_t3 := h_
 clear hO h_ m8
 refine Lw ?_ (v := .int .i64 0)
 refine q5 ?_
 go_upto_region 1 with fail
 refine wp_region_lit ?_
 refine Lw ?_ (v := .slice (some ⟨b7, 0, none⟩) 32 80) (hv := by first | rfl | (go_simp; done) | (go_simp; with_reducible rfl))
 refine Lw ?_ (v := .pointer (some ⟨b7, 0, none⟩)) (hv := by first | rfl | (go_simp; done) | (go_simp; with_reducible rfl))
 refine z0 (vs := (q7 .u8 32 (j0 (pG P))).toList) (by rfl) rfl rfl k_t1 (J0 y6i) (by kernel_rfl) (by kernel_rfl) ?_
 (try simp only [Act.put, mA, mB, mC])
 refine Lr ?_ (dc W3 (y7 hG off0.ext).1)
 intro W4 hO
 replace k_t1 := k_t1.o hO
 replace k_t2 := k_t2.o hO
 replace k_t3 := k_t3.o hO
 replace off0 := off0.o hO
 clear hO
 refine Lv ?_
 refine Lv ?_
 refine Lw ?_ (v := .int .i64 15)
 refine K8 ?_ (z := p4 0 0 0 0) (t := 60) (cells := p4 0 0 0 0)
 intro q5m W6 h9 hO h_
 replace k_t1 := k_t1.o hO
 replace k_t2 := k_t2.o hO
 replace k_t3 := k_t3.o hO
 replace off0 := off0.o hO
 clear hO h_ h9
 refine Lw ?_ (v := .int .i64 15)
 refine q5 ?_
 go_upto_region 2 with fail
 refine wp_region_lit ?_
 refine Lw ?_ (v := .slice (some ⟨b7, 48, none⟩) 32 32) (hv := by first | rfl | (go_simp; done) | (go_simp; with_reducible rfl))
 refine Lw ?_ (v := .pointer (some ⟨b7, 48, none⟩)) (hv := by first | rfl | (go_simp; done) | (go_simp; with_reducible rfl))
 refine z0 (vs := (q7 .u8 32 (j0 (pN P))).toList) (by rfl) rfl rfl k_t1 (J0 j6h) (by kernel_rfl) (by kernel_rfl) ?_
 (try simp only [Act.put, mA, mB, mC])
 refine Lr ?_ (q9o h1 hP W6 (y7 hG off0.ext).2.2.1)
 intro W7 hO
 replace k_t2 := k_t2.o hO
 replace k_t3 := k_t3.o hO
 replace off0 := off0.o hO
 clear hO
 refine Lv ?_
 refine Lv ?_
 refine Lw ?_ (v := .bool false)
 refine K8 ?_ (z := c4 0) (t := 42) (cells := c4 0)
 intro L9 W9 u9 hO h_
 replace k_t2 := k_t2.o hO
 replace k_t3 := k_t3.o hO
 replace off0 := off0.o hO
 clear hO h_ u9
 refine Lw ?_ (v := .bool false)
 refine q5 ?_
 go_upto_region 4 with fail
 refine wp_region_lit ?_
 refine Lw ?_ (v := .agg (p4 0 0 0 0)) (hv := by kernel_rfl)
 refine Lw ?_ (v := .agg (c4 0)) (hv := by kernel_rfl)
 refine Lp ?_ k_t2 (cells := p4 0 0 0 0)
 intro W10 hO h_
 replace k_t2 : Blk W10 s9 (p4 0 0 0 0) 60 := h_
 clear h_
 replace k_t3 := k_t3.p hO nq_t2_t3.symm
 replace off0 := off0.p hO u7
 clear hO
 refine Lp ?_ k_t3 (cells := c4 0)
 intro W11 hO h_
 replace k_t3 : Blk W11 q2b (c4 0) 42 := h_
 clear h_
 replace k_t2 := k_t2.p hO nq_t2_t3
 replace off0 := off0.p hO K3
 clear hO
 refine Lw ?_ (v := .int .i64 17)
 refine q5 ?_
 go_wp2
 exact bodyPost_ret (q0e rfl rfl rfl rfl k_t2 k_t3 (by kernel_rfl) (by kernel_rfl) (by kernel_rfl) (by kernel_rfl)) rfl ⟨rfl, off0.ext⟩
theorem j6k (hc : kn.c) {P : Nat} (hP : B80 P) (hok : G9 (pG P) = false) (h1 : pN P < LL) :
  ∀ w, GA kn w → Calls Tryd.prog 65 #[.agg (q7 .u8 80 (j0 P))] w fun e w' => m7 (.tuple #[.agg (p4 0 0 0 0), .agg (c4 0), .int .i64 17]) w w' e := by
 have dc := q2d (kn := kn) hc (V := (pG P)) (q6n P) hok
 intro w hG
 have off0 : Off [] w w := Off.refl _ _
 go_enter Tryd.func65, Tryd.ntmps65
 go_upto_region 0 with fail
 refine wp_region_lit ?_
 refine Ln ?_ (z := q7 .u8 80 (j0 P)) (t := 45)
 intro b7 W1 t8 hO h_
 replace off0 := off0.o hO
 have k_t1 := h_
 clear hO h_ t8
 refine Ln ?_ (z := p4 0 0 0 0) (t := 60)
 intro s9 W2 z4 hO h_
 have u7 := l4 off0 z4
 replace k_t1 := k_t1.o hO
 replace off0 := off0.o hO
 have k_t2 := h_
 clear hO h_ z4
 refine Ln ?_ (z := c4 0) (t := 42)
 intro q2b W3 m8 hO h_
 have nq_t2_t3 := bn k_t2 m8
 have K3 := l4 off0 m8
 replace k_t1 := k_t1.o hO
 replace k_t2 := k_t2.o hO
 replace off0 := off0.o hO
 have k_t3 := h_
 clear hO h_ m8
 refine Lw ?_ (v := .int .i64 0)
 refine q5 ?_
 go_upto_region 1 with fail
 refine wp_region_lit ?_
 refine Lw ?_ (v := .slice (some ⟨b7, 0, none⟩) 32 80) (hv := by first | rfl | (go_simp; done) | (go_simp; with_reducible rfl))
 refine Lw ?_ (v := .pointer (some ⟨b7, 0, none⟩)) (hv := by first | rfl | (go_simp; done) | (go_simp; with_reducible rfl))
 refine z0 (vs := (q7 .u8 32 (j0 (pG P))).toList) (by rfl) rfl rfl k_t1 (J0 y6i) (by kernel_rfl) (by kernel_rfl) ?_
 (try simp only [Act.put, mA, mB, mC])
 refine Lr ?_ (dc W3 (y7 hG off0.ext).1)
 intro W4 hO
 replace k_t1 := k_t1.o hO
 replace k_t2 := k_t2.o hO
 replace k_t3 := k_t3.o hO
 replace off0 := off0.o hO
 clear hO
 refine Lv ?_
 refine Lv ?_
 refine Lw ?_ (v := .int .i64 15)
 refine K8 ?_ (z := p4 0 0 0 0) (t := 60) (cells := p4 0 0 0 0)
 intro q5m W6 h9 hO h_
 replace k_t1 := k_t1.o hO
 replace k_t2 := k_t2.o hO
 replace k_t3 := k_t3.o hO
 replace off0 := off0.o hO
 clear hO h_ h9
 refine Lw ?_ (v := .int .i64 15)
 refine q5 ?_
 go_upto_region 2 with fail
 refine wp_region_lit ?_
 refine Lw ?_ (v := .slice (some ⟨b7, 48, none⟩) 32 32) (hv := by first | rfl | (go_simp; done) | (go_simp; with_reducible rfl))
 refine Lw ?_ (v := .pointer (some ⟨b7, 48, none⟩)) (hv := by first | rfl | (go_simp; done) | (go_simp; with_reducible rfl))
 refine z0 (vs := (q7 .u8 32 (j0 (pN P))).toList) (by rfl) rfl rfl k_t1 (J0 j6h) (by kernel_rfl) (by kernel_rfl) ?_
 (try simp only [Act.put, mA, mB, mC])
 refine Lr ?_ (q9n h1 W6 (y7 hG off0.ext).2.2.1)
 intro W7 hO
 replace k_t2 := k_t2.o hO
 replace k_t3 := k_t3.o hO
 replace off0 := off0.o hO
 clear hO
 refine Lv ?_
 refine Lv ?_
 refine Lw ?_ (v := .bool true)
 refine K8 ?_ (z := c4 0) (t := 42) (cells := c4 (pN P))
 intro L9 W9 u9 hO h_
 replace k_t2 := k_t2.o hO
 replace k_t3 := k_t3.o hO
 replace off0 := off0.o hO
 clear hO h_ u9
 refine Lw ?_ (v := .bool true)
 refine q5 ?_
 go_upto_region 4 with fail
 refine wp_region_lit ?_
 refine Lw ?_ (v := .agg (p4 0 0 0 0)) (hv := by kernel_rfl)
 refine Lw ?_ (v := .agg (c4 0)) (hv := by kernel_rfl)
 refine Lp ?_ k_t2 (cells := p4 0 0 0 0)
 intro W10 hO h_
 replace k_t2 : Blk W10 s9 (p4 0 0 0 0) 60 := h_
 clear h_
 replace k_t3 := k_t3.p hO nq_t2_t3.symm
 replace off0 := off0.p hO u7
 clear hO
 refine Lp ?_ k_t3 (cells := c4 0)
 intro W11 hO h_
 replace k_t3 : Blk W11 q2b (c4 0) 42 := h_
 clear h_
 replace k_t2 := k_t2.p hO nq_t2_t3
 replace off0 := off0.p hO K3
 clear hO
 refine Lw ?_ (v := .int .i64 17)
 refine q5 ?_
 go_wp2
 exact bodyPost_ret (q0e rfl rfl rfl rfl k_t2 k_t3 (by kernel_rfl) (by kernel_rfl) (by kernel_rfl) (by kernel_rfl)) rfl ⟨rfl, off0.ext⟩
theorem j6l (hc : kn.c) {P : Nat} (hP : B80 P) (hok : G9 (pG P) = true) (h1 : LL ≤ pN P) :
  ∀ w, GA kn w → Calls Tryd.prog 65 #[.agg (q7 .u8 80 (j0 P))] w fun e w' => m7 (.tuple #[.agg (p4 0 0 0 0), .agg (c4 0), .int .i64 17]) w w' e := by
 obtain ⟨dx, dt, dr, dc⟩ := R9 hc (V := (pG P)) (q6n P) hok
 obtain ⟨y0, hy0⟩ := z8 ((pG P) % 2 ^ 255)
 rw [← hy0] at dr dc
 clear hy0
 intro w hG
 have off0 : Off [] w w := Off.refl _ _
 go_enter Tryd.func65, Tryd.ntmps65
 go_upto_region 0 with fail
 refine wp_region_lit ?_
 refine Ln ?_ (z := q7 .u8 80 (j0 P)) (t := 45)
 intro b7 W1 t8 hO h_
 replace off0 := off0.o hO
 have k_t1 := h_
 clear hO h_ t8
 refine Ln ?_ (z := p4 0 0 0 0) (t := 60)
 intro s9 W2 z4 hO h_
 have u7 := l4 off0 z4
 replace k_t1 := k_t1.o hO
 replace off0 := off0.o hO
 have k_t2 := h_
 clear hO h_ z4
 refine Ln ?_ (z := c4 0) (t := 42)
 intro q2b W3 m8 hO h_
 have nq_t2_t3 := bn k_t2 m8
 have K3 := l4 off0 m8
 replace k_t1 := k_t1.o hO
 replace k_t2 := k_t2.o hO
 replace off0 := off0.o hO
 have k_t3 := h_
 clear hO h_ m8
 refine Lw ?_ (v := .int .i64 0)
 refine q5 ?_
 go_upto_region 1 with fail
 refine wp_region_lit ?_
 refine Lw ?_ (v := .slice (some ⟨b7, 0, none⟩) 32 80) (hv := by first | rfl | (go_simp; done) | (go_simp; with_reducible rfl))
 refine Lw ?_ (v := .pointer (some ⟨b7, 0, none⟩)) (hv := by first | rfl | (go_simp; done) | (go_simp; with_reducible rfl))
 refine z0 (vs := (q7 .u8 32 (j0 (pG P))).toList) (by rfl) rfl rfl k_t1 (J0 y6i) (by kernel_rfl) (by kernel_rfl) ?_
 (try simp only [Act.put, mA, mB, mC])
 refine Lr ?_ (dc W3 (y7 hG off0.ext).1)
 intro W4 hO
 replace k_t1 := k_t1.o hO
 replace k_t2 := k_t2.o hO
 replace k_t3 := k_t3.o hO
 replace off0 := off0.o hO
 clear hO
 refine Lv ?_
 refine Lv ?_
 refine Lw ?_ (v := .int .i64 0)
 refine K8 ?_ (z := p4 0 0 0 0) (t := 60) (cells := p4 dx y0 1 dt)
 intro q5m W6 h9 hO h_
 replace k_t1 := k_t1.o hO
 replace k_t2 := k_t2.o hO
 replace k_t3 := k_t3.o hO
 replace off0 := off0.o hO
 clear hO h_ h9
 refine Lw ?_ (v := .int .i64 0)
 refine q5 ?_
 go_upto_region 2 with fail
 refine wp_region_lit ?_
 refine Lw ?_ (v := .slice (some ⟨b7, 48, none⟩) 32 32) (hv := by first | rfl | (go_simp; done) | (go_simp; with_reducible rfl))
 refine Lw ?_ (v := .pointer (some ⟨b7, 48, none⟩)) (hv := by first | rfl | (go_simp; done) | (go_simp; with_reducible rfl))
 refine z0 (vs := (q7 .u8 32 (j0 (pN P))).toList) (by rfl) rfl rfl k_t1 (J0 j6h) (by kernel_rfl) (by kernel_rfl) ?_
 (try simp only [Act.put, mA, mB, mC])
 refine Lr ?_ (q9o h1 hP W6 (y7 hG off0.ext).2.2.1)
 intro W7 hO
 replace k_t2 := k_t2.o hO
 replace k_t3 := k_t3.o hO
 replace off0 := off0.o hO
 clear hO
 refine Lv ?_
 refine Lv ?_
 refine Lw ?_ (v := .bool false)
 refine K8 ?_ (z := c4 0) (t := 42) (cells := c4 0)
 intro L9 W9 u9 hO h_
 replace k_t2 := k_t2.o hO
 replace k_t3 := k_t3.o hO
 replace off0 := off0.o hO
 clear hO h_ u9
 refine Lw ?_ (v := .bool false)
 refine q5 ?_
 go_upto_region 4 with fail
 refine wp_region_lit ?_
 refine Lw ?_ (v := .agg (p4 0 0 0 0)) (hv := by kernel_rfl)
 refine Lw ?_ (v := .agg (c4 0)) (hv := by kernel_rfl)
 refine Lp ?_ k_t2 (cells := p4 0 0 0 0)
 intro W10 hO h_
 replace k_t2 : Blk W10 s9 (p4 0 0 0 0) 60 := h_
 clear h_
 replace k_t3 := k_t3.p hO nq_t2_t3.symm
 replace off0 := off0.p hO u7
 clear hO
 refine Lp ?_ k_t3 (cells := c4 0)
 intro W11 hO h_
 replace k_t3 : Blk W11 q2b (c4 0) 42 := h_
 clear h_
 replace k_t2 := k_t2.p hO nq_t2_t3
 replace off0 := off0.p hO K3
 clear hO
 refine Lw ?_ (v := .int .i64 17)
 refine q5 ?_
 go_wp2
 exact bodyPost_ret (q0e rfl rfl rfl rfl k_t2 k_t3 (by kernel_rfl) (by kernel_rfl) (by kernel_rfl) (by kernel_rfl)) rfl ⟨rfl, off0.ext⟩
theorem y4h (hc : kn.c) {P : Nat} (hP : B80 P) (hok : G9 (pG P) = true) (h1 : pN P < LL) :
  ∃ X Y T, RN X Y 1 T (B1 (pG P)) ∧ ∀ w, GA kn w → Calls Tryd.prog 65 #[.agg (q7 .u8 80 (j0 P))] w fun e w' => m7 (.tuple #[.agg (p4 X Y 1 T), .agg (c4 (pN P)), .int .i64 0]) w w' e := by
 obtain ⟨dx, dt, dr, dc⟩ := R9 hc (V := (pG P)) (q6n P) hok
 obtain ⟨y0, hy0⟩ := z8 ((pG P) % 2 ^ 255)
 rw [← hy0] at dr dc
 clear hy0
 refine ⟨dx, y0, dt, dr, fun w hG => ?_⟩
 have off0 : Off [] w w := Off.refl _ _
 go_enter Tryd.func65, Tryd.ntmps65
 go_upto_region 0 with fail
 refine wp_region_lit ?_
 refine Ln ?_ (z := q7 .u8 80 (j0 P)) (t := 45)
 intro b7 W1 t8 hO h_
 replace off0 := off0.o hO
 have k_t1 := h_
 clear hO h_ t8
 refine Ln ?_ (z := p4 0 0 0 0) (t := 60)
 intro s9 W2 z4 hO h_
 have u7 := l4 off0 z4
 replace k_t1 := k_t1.o hO
 replace off0 := off0.o hO
 have k_t2 := h_
 clear hO h_ z4
 refine Ln ?_ (z := c4 0) (t := 42)
 intro q2b W3 m8 hO h_
 have nq_t2_t3 := bn k_t2 m8
 have K3 := l4 off0 m8
 replace k_t1 := k_t1.o hO
 replace k_t2 := k_t2.o hO
 replace off0 := off0.o hO
 have k_t3 := h_
 clear hO h_ m8
 refine Lw ?_ (v := .int .i64 0)
 refine q5 ?_
 go_upto_region 1 with fail
 refine wp_region_lit ?_
 refine Lw ?_ (v := .slice (some ⟨b7, 0, none⟩) 32 80) (hv := by first | rfl | (go_simp; done) | (go_simp; with_reducible rfl))
 refine Lw ?_ (v := .pointer (some ⟨b7, 0, none⟩)) (hv := by first | rfl | (go_simp; done) | (go_simp; with_reducible rfl))
 refine z0 (vs := (q7 .u8 32 (j0 (pG P))).toList) (by rfl) rfl rfl k_t1 (J0 y6i) (by kernel_rfl) (by kernel_rfl) ?_
 (try simp only [Act.put, mA, mB, mC])
 refine Lr ?_ (dc W3 (y7 hG off0.ext).1)
 intro W4 hO
 replace k_t1 := k_t1.o hO
 replace k_t2 := k_t2.o hO
 replace k_t3 := k_t3.o hO
 replace off0 := off0.o hO
 clear hO
 refine Lv ?_
 refine Lv ?_
 refine Lw ?_ (v := .int .i64 0)
 refine K8 ?_ (z := p4 0 0 0 0) (t := 60) (cells := p4 dx y0 1 dt)
 intro q5m W6 h9 hO h_
 have nq_t2_t5 := bn k_t2 h9
 have nq_t3_t5 := bn k_t3 h9
 replace k_t1 := k_t1.o hO
 replace k_t2 := k_t2.o hO
 replace k_t3 := k_t3.o hO
 replace off0 := off0.o hO
 have k_t5 := h_
 clear hO h_ h9
 refine Lw ?_ (v := .int .i64 0)
 refine q5 ?_
 go_upto_region 2 with fail
 refine wp_region_lit ?_
 refine Lw ?_ (v := .slice (some ⟨b7, 48, none⟩) 32 32) (hv := by first | rfl | (go_simp; done) | (go_simp; with_reducible rfl))
 refine Lw ?_ (v := .pointer (some ⟨b7, 48, none⟩)) (hv := by first | rfl | (go_simp; done) | (go_simp; with_reducible rfl))
 refine z0 (vs := (q7 .u8 32 (j0 (pN P))).toList) (by rfl) rfl rfl k_t1 (J0 j6h) (by kernel_rfl) (by kernel_rfl) ?_
 (try simp only [Act.put, mA, mB, mC])
 refine Lr ?_ (q9n h1 W6 (y7 hG off0.ext).2.2.1)
 intro W7 hO
 replace k_t2 := k_t2.o hO
 replace k_t3 := k_t3.o hO
 replace k_t5 := k_t5.o hO
 replace off0 := off0.o hO
 clear hO
 refine Lv ?_
 refine Lv ?_
 refine Lw ?_ (v := .bool true)
 refine K8 ?_ (z := c4 0) (t := 42) (cells := c4 (pN P))
 intro L9 W9 u9 hO h_
 have nq_t2_t7 := bn k_t2 u9
 have nq_t3_t7 := bn k_t3 u9
 replace k_t2 := k_t2.o hO
 replace k_t3 := k_t3.o hO
 replace k_t5 := k_t5.o hO
 replace off0 := off0.o hO
 have k_t7 := h_
 clear hO h_ u9
 refine Lw ?_ (v := .bool true)
 refine q5 ?_
 go_upto_region 5 with fail
 refine Q3 (.q 0 (.q 1 (.e 2 (.e 3 (.q 4 .z))))) (fun W => (Blk W q5m (p4 dx y0 1 dt) 60) ∧ (Blk W L9 (c4 (pN P)) 42)) (by kernel_rfl) (by kernel_rfl) ?_
 intro W10 hO
 replace k_t2 := k_t2.o hO
 replace k_t3 := k_t3.o hO
 replace k_t5 := k_t5.o hO
 replace k_t7 := k_t7.o hO
 replace off0 := off0.o hO
 clear hO
 refine ⟨⟨k_t5, k_t7⟩, ?_⟩
 refine a9 (v := .agg (p4 dx y0 1 dt)) rfl (by rfl) (fun W hS => by exact (i8 rfl rfl (hS.1) (by kernel_rfl) (by kernel_rfl))) ?_
 (try simp only [Act.put, mA, mB, mC])
 refine a9 (v := .agg (c4 (pN P))) rfl (by rfl) (fun W hS => by exact (i8 rfl rfl (hS.2) (by kernel_rfl) (by kernel_rfl))) ?_
 (try simp only [Act.put, mA, mB, mC])
 refine w6 rfl ?_
 refine Lp ?_ k_t2 (cells := p4 dx y0 1 dt)
 intro W11 hO h_
 replace k_t2 : Blk W11 s9 (p4 dx y0 1 dt) 60 := h_
 clear h_
 replace k_t3 := k_t3.p hO nq_t2_t3.symm
 replace k_t5 := k_t5.p hO nq_t2_t5.symm
 replace k_t7 := k_t7.p hO nq_t2_t7.symm
 replace off0 := off0.p hO u7
 clear hO
 refine s6 (fun W => (Blk W q5m (p4 dx y0 1 dt) 60) ∧ (Blk W L9 (c4 (pN P)) 42)) (fun W hS => ⟨hS.1, hS.2⟩) ⟨k_t5, k_t7⟩ ?_
 refine w6 rfl ?_
 refine Lp ?_ k_t3 (cells := c4 (pN P))
 intro W12 hO h_
 replace k_t3 : Blk W12 q2b (c4 (pN P)) 42 := h_
 clear h_
 replace k_t2 := k_t2.p hO nq_t2_t3
 replace k_t5 := k_t5.p hO nq_t3_t5.symm
 replace k_t7 := k_t7.p hO nq_t3_t7.symm
 replace off0 := off0.p hO K3
 clear hO
 refine s6 (fun W => (Blk W q5m (p4 dx y0 1 dt) 60) ∧ (Blk W L9 (c4 (pN P)) 42)) (fun W hS => ⟨hS.1, hS.2⟩) ⟨k_t5, k_t7⟩ ?_
 (refine a9 (v := ?_) rfl (by rfl) (fun W hS => ?_) ?_; rotate_left 1; (focus (go_simp; first | done | with_reducible rfl)))
 (try simp only [Act.put, mA, mB, mC])
 refine q3b ?_
 go_wp2
 exact bodyPost_ret (q0e rfl rfl rfl rfl k_t2 k_t3 (by kernel_rfl) (by kernel_rfl) (by kernel_rfl) (by kernel_rfl)) rfl ⟨rfl, off0.ext⟩
theorem g2j (hc : kn.c) {P : Nat} (hok : G9 (pG P) = false) :
  ∀ w, GA kn w → Calls Tryd.prog 27 #[.agg (q7 .u8 80 (j0 P))] w fun e w' => m7 (.tuple #[.agg (q7 .u8 64 (j0 0)), .int .i64 17]) w w' e := by
 have dc := q2d (kn := kn) hc (V := (pG P)) (q6n P) hok
 intro w hG
 have off0 : Off [] w w := Off.refl _ _
 go_enter Tryd.func27, Tryd.ntmps27
 go_upto_region 0 with fail
 refine wp_region_lit ?_
 refine Ln ?_ (z := q7 .u8 80 (j0 P)) (t := 45)
 intro b7 W1 t8 hO h_
 replace off0 := off0.o hO
 have k_t1 := h_
 clear hO h_ t8
 refine Ln ?_ (z := q7 .u8 64 (j0 0)) (t := 30)
 intro s9 W2 z4 hO h_
 have u7 := l4 off0 z4
 replace k_t1 := k_t1.o hO
 replace off0 := off0.o hO
 have k_t2 := h_
 clear hO h_ z4
 refine Lw ?_ (v := .int .i64 0)
 refine q5 ?_
 go_upto_region 1 with fail
 refine wp_region_lit ?_
 refine Lw ?_ (v := .slice (some ⟨b7, 0, none⟩) 32 80) (hv := by first | rfl | (go_simp; done) | (go_simp; with_reducible rfl))
 refine Lw ?_ (v := .pointer (some ⟨b7, 0, none⟩)) (hv := by first | rfl | (go_simp; done) | (go_simp; with_reducible rfl))
 refine z0 (vs := (q7 .u8 32 (j0 (pG P))).toList) (by rfl) rfl rfl k_t1 (J0 y6i) (by kernel_rfl) (by kernel_rfl) ?_
 (try simp only [Act.put, mA, mB, mC])
 refine Lr ?_ (dc W2 (y7 hG off0.ext).1)
 intro W3 hO
 replace k_t2 := k_t2.o hO
 replace off0 := off0.o hO
 clear hO
 refine Lv ?_
 refine Lv ?_
 refine Lw ?_ (v := .int .i64 15)
 refine K8 ?_ (z := p4 0 0 0 0) (t := 60) (cells := p4 0 0 0 0)
 intro j6i W5 a7 hO h_
 replace k_t2 := k_t2.o hO
 replace off0 := off0.o hO
 clear hO h_ a7
 refine Lw ?_ (v := .int .i64 15)
 refine q5 ?_
 go_upto_region 3 with fail
 refine wp_region_lit ?_
 refine Lw ?_ (v := .agg (q7 .u8 64 (j0 0))) (hv := by kernel_rfl)
 refine LpA ?_ k_t2 (k := .u8) (n := 64) (f := j0 0)
 intro W6 hO h_
 replace k_t2 : Blk W6 s9 (q7 .u8 64 (j0 0)) 30 := h_
 clear h_
 replace off0 := off0.p hO u7
 clear hO
 refine Lw ?_ (v := .int .i64 17)
 refine q5 ?_
 go_wp2
 exact bodyPost_ret (u4 rfl rfl rfl k_t2 (by kernel_rfl) (by rw [y5]; kernel_rfl)) rfl ⟨rfl, off0.ext⟩
theorem j1w (hc : kn.c) {P X : Nat} (hok : G9 (pG P) = true) (hX : X = q8i P) :
  ∀ w, GA kn w → Calls Tryd.prog 27 #[.agg (q7 .u8 80 (j0 P))] w fun e w' => m7 (.tuple #[.agg (q7 .u8 64 (j0 X)), .int .i64 0]) w w' e := by
 obtain ⟨dx, dt, dr, dc⟩ := R9 hc (V := (pG P)) (q6n P) hok
 obtain ⟨y0, hy0⟩ := z8 ((pG P) % 2 ^ 255)
 rw [← hy0] at dr dc
 clear hy0
 obtain ⟨x1, y2, z3, t4, r5, c6⟩ := F0 (kn := kn) dr.rw
 obtain ⟨U1, hU1⟩ := z8 (t6 (pm (B1 (pG P)) 8))
 have bU1 : U1 < 2 ^ 256 := by rw [hU1]; exact B4 _
 have HU1 := Lib.hid hU1
 clear hU1
 obtain ⟨U2, hU2⟩ := z8 (hs ([3, 3] ++ (lb 32 U1) ++ [0]))
 have HU2 := Lib.hid hU2
 clear hU2
 intro w hG
 have off0 : Off [] w w := Off.refl _ _
 go_enter Tryd.func27, Tryd.ntmps27
 go_upto_region 0 with fail
 refine wp_region_lit ?_
 refine Ln ?_ (z := q7 .u8 80 (j0 P)) (t := 45)
 intro b7 W1 t8 hO h_
 replace off0 := off0.o hO
 have k_t1 := h_
 clear hO h_ t8
 refine Ln ?_ (z := q7 .u8 64 (j0 0)) (t := 30)
 intro s9 W2 z4 hO h_
 have u7 := l4 off0 z4
 replace k_t1 := k_t1.o hO
 replace off0 := off0.o hO
 have k_t2 := h_
 clear hO h_ z4
 refine Lw ?_ (v := .int .i64 0)
 refine q5 ?_
 go_upto_region 1 with fail
 refine wp_region_lit ?_
 refine Lw ?_ (v := .slice (some ⟨b7, 0, none⟩) 32 80) (hv := by first | rfl | (go_simp; done) | (go_simp; with_reducible rfl))
 refine Lw ?_ (v := .pointer (some ⟨b7, 0, none⟩)) (hv := by first | rfl | (go_simp; done) | (go_simp; with_reducible rfl))
 refine z0 (vs := (q7 .u8 32 (j0 (pG P))).toList) (by rfl) rfl rfl k_t1 (J0 y6i) (by kernel_rfl) (by kernel_rfl) ?_
 (try simp only [Act.put, mA, mB, mC])
 refine Lr ?_ (dc W2 (y7 hG off0.ext).1)
 intro W3 hO
 replace k_t2 := k_t2.o hO
 replace off0 := off0.o hO
 clear hO
 refine Lv ?_
 refine Lv ?_
 refine Lw ?_ (v := .int .i64 0)
 refine K8 ?_ (z := p4 0 0 0 0) (t := 60) (cells := p4 dx y0 1 dt)
 intro j6i W5 a7 hO h_
 replace k_t2 := k_t2.o hO
 replace off0 := off0.o hO
 have k_t4 := h_
 clear hO h_ a7
 refine Lw ?_ (v := .int .i64 0)
 refine q5 ?_
 go_upto_region 4 with fail
 refine wp_region_lit ?_
 refine L0 ?_ k_t4
 refine Lr ?_ (c6 W5 (y7 hG off0.ext).1)
 intro W6 hO
 replace k_t2 := k_t2.o hO
 replace off0 := off0.o hO
 clear hO
 refine Lr ?_ (T0 r5.rw HU1.out W6 (y7 hG off0.ext).1)
 intro W7 hO
 replace k_t2 := k_t2.o hO
 replace off0 := off0.o hO
 clear hO
 refine LnA ?_ (z := q7 .u8 32 (j0 0)) (t := 22) (k := .u8) (n := 32) (f := j0 U1)
 intro g2k W9 i7 hO h_
 replace k_t2 := k_t2.o hO
 replace off0 := off0.o hO
 have k_t6 := h_
 clear hO h_ i7
 refine q5 ?_
 go_upto_region 5 with fail
 refine wp_region_lit ?_
 refine I4 ?_ (z := #[.int .u8 3, .int .u8 3]) (t := 5) (n := 2) (c := 2)
 intro y1r W10 g6k hO h_
 replace k_t2 := k_t2.o hO
 replace k_t6 := k_t6.o hO
 replace off0 := off0.o hO
 have ow_s20 : Own W10 (.slice (some ⟨y1r, 0, none⟩) 2 2) [3, 3] := b5 h_ (by rfl) (by show 2 ≤ maxLen; decide)
 clear hO h_ g6k
 refine Lw ?_ (v := .slice (some ⟨g2k, 0, none⟩) 32 32) (hv := by first | rfl | (go_simp; done) | (go_simp; with_reducible rfl))
 refine I4 ?_ (z := #[.int .u8 0]) (t := 5) (n := 1) (c := 1)
 intro O2 W11 q6o hO h_
 replace k_t2 := k_t2.o hO
 replace k_t6 := k_t6.o hO
 replace ow_s20 := Own.off ow_s20 hO f0
 replace off0 := off0.o hO
 have ow_s22 : Own W11 (.slice (some ⟨O2, 0, none⟩) 1 1) [0] := b5 h_ (by rfl) (by show 1 ≤ maxLen; decide)
 clear hO h_ q6o
 refine I4 ?_ (z := #[(.slice (some ⟨y1r, 0, none⟩) 2 2), .slice (some ⟨g2k, 0, none⟩) 32 32, (.slice (some ⟨O2, 0, none⟩) 1 1)]) (t := 23) (n := 3) (c := 3) (hr := by exact Q5 [(.slice (some ⟨y1r, 0, none⟩) 2 2), .slice (some ⟨g2k, 0, none⟩) 32 32, (.slice (some ⟨O2, 0, none⟩) 1 1)] rfl rfl (vsc ((p3 ow_s20).1) (vsc (rfl) (vsc ((p3 ow_s22).1) vs0))) Tryd.underlying112 (by kernel_rfl) (by kernel_rfl) rfl (by decide) (by decide))
 intro g2l W12 O9 hO h_
 replace k_t2 := k_t2.o hO
 replace k_t6 := k_t6.o hO
 replace ow_s20 := Own.off ow_s20 hO f0
 replace ow_s22 := Own.off ow_s22 hO f0
 replace off0 := off0.o hO
 have J5 := h_
 clear hO h_ O9
 refine Lr ?_ (L6 HU2.out [[3, 3], lb 32 U1, [0]] (some ⟨g2l, 0, none⟩) 3 (by simp only [List.flatten_cons, List.flatten_nil, List.append_nil, List.nil_append, List.append_assoc, List.cons_append]) (by first | omega | (simp only [List.length_append, List.length_cons, List.length_nil, g7]; omega)) (by simp) W12 (A0 J5 (pvc (ow_s20.sl) (pvc (b6 (V := U1) (n := 32) (off := 0) k_t6 ap0 (by decide) (by decide)) (pvc (ow_s22.sl) pv0)))) (y7 hG off0.ext).2.1)
 intro W13 hO
 replace k_t2 := k_t2.o hO
 replace off0 := off0.o hO
 clear hO
 refine LpA ?_ k_t2 (k := .u8) (n := 64) (f := j0 U2)
 intro W14 hO h_
 replace k_t2 : Blk W14 s9 (q7 .u8 64 (j0 U2)) 30 := h_
 clear h_
 replace off0 := off0.p hO u7
 clear hO
 refine Lw ?_ (v := .int .i64 0)
 refine q5 ?_
 go_wp2
 rw [hX, show q8i P = U2 by rw [HU2.out, HU1.out]; rfl]
 exact bodyPost_ret (u4 rfl rfl rfl k_t2 (by kernel_rfl) (by rw [y5]; kernel_rfl)) rfl ⟨rfl, off0.ext⟩
end Go.Proofs.YtefpoollmbmkfaaDoor
