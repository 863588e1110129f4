/- vrf: point. Conditions: the cells of the variables hold their numbers. vrf: mark, wide. Conditions: the cells of the variables hold their numbers. vrf: key, parts, Sum, Index. Conditions: the cells of the variables hold their numbers. -/
import Derived.Test.YtefpoollmbmkfaaDoorGc
import Derived.Test.YtefpoollmbmkfaaDoorVf
import Derived.Test.YtefpoollmbmkfaaDoorSgC
set_option linter.unusedSimpArgs false
set_option linter.unusedVariables false
namespace Go.Proofs.YtefpoollmbmkfaaDoor
set_option maxHeartbeats 2000000
set_option maxRecDepth 100000
open Go.RowKit
attribute [local irreducible] wpList
variable {kn : Kn}
open Sc (LL J12)
attribute [local irreducible] hs
theorem Q0o {A B : Nat} {v : Value} {w : World} (h : A = B) (c : Calls Tryd.prog 31 #[.agg (J2 .u8 32 (Q0 B))] w fun e w' => Ret v w w' e) : Calls Tryd.prog 31 #[.agg (J2 .u8 32 (Q0 A))] w fun e w' => Ret v w w' e := h ▸ c
theorem Q56 {w : World} {o : Oper} {a : Act} {x y : Operand} {t t' : TypeId} {i n : Nat} {c : Bool} (hc : decide (i < n) = c) (ho : o.op = .binOp .lss t x y t') (hx : a.eval x = .int .i64 (i : Int)) (hy : a.eval y = .int .i64 (n : Int)) : (execOp a.eval o).run Tryd.prog w = .ok (.value (.bool c)) w := by
  have e : decide ((i : Int) < (n : Int)) = c := by rw [← hc]; exact decide_eq_decide.2 Int.ofNat_lt
  simp only [execOp, ho, hx, hy, eqGuard, binOp, Sem.run_bind]
  simp [e, hc, go_sem, Sem.run_bind]
theorem Q57 {w : World} {o : Oper} {a : Act} {x : Operand} {i : Nat} (ho : o.op = .convert 3 5 x) (hx : a.eval x = .int .i64 (i : Int)) : (execOp a.eval o).run Tryd.prog w = .ok (.value (.int .u8 ((u8 i).toNat : Int))) w := by
  rw [Q2x, show ((i : Int) % 256) = w8 (i : Int) from (IntKind.wrap_u8 _).symm]; exact Z5c ho hx

theorem Q58 (hc : kn.c) {V : Nat} {L : List UInt8} (hL : L.length ≤ 1099511627776) (c0 : Nat) (h256 : c0 < 256) (hok : J1j V L c0 = true) (hlow : ∀ i, i < c0 → J1j V L i = false) :
  ∃ X Y Z T, RN X Y Z T (J1f V L c0) ∧ ∀ v w, GA kn w → Sl w v L → Calls Tryd.prog 60 #[.agg (J2 .u8 32 (Q0 V)), v] w fun e w' => Ret (.tuple #[.agg (p4 X Y Z T), .int .i64 0]) w w' e := by
 obtain ⟨dx0, dt0, dr0, dc0⟩ := J6m (kn := kn) hc (J8d V L c0) (candOk_iff.1 hok).1
 obtain ⟨dy0, hdy0⟩ := V3 (J53 V L c0 % 2 ^ 255)
 rw [← hdy0] at dr0 dc0
 clear hdy0
 obtain ⟨ex0, ey0, ez0, et0, er0, ec0⟩ := J5c (kn := kn) dr0.rw
 replace er0 : RN ex0 ey0 ez0 et0 (J1f V L c0) := er0
 refine ⟨ex0, ey0, ez0, et0, er0, fun v w hG hsl => ?_⟩
 have J7 := hsl
 have off0 : Off [] w w := Off.refl _ _
 go_enter Tryd.func60, Tryd.ntmps60
 go_upto_region 0 with fail
 refine wp_region_lit ?_
 refine Ln ?_ (z := J2 .u8 32 (Q0 V)) (t := 22)
 intro K4 W1 V2 hO h_
 replace J7 := Sl.off J7 hO f0
 replace off0 := off0.o hO
 have k_t2 := h_
 clear hO h_ V2
 refine Ln ?_ (z := p4 0 0 0 0) (t := 60)
 intro J5x W2 J0k hO h_
 have nq_t2_t4 := bn k_t2 J0k
 have Z5x := J01 (Sl.lt J7) J0k
 have J27 := fbn off0 J0k
 replace k_t2 := k_t2.o hO
 replace J7 := Sl.off J7 hO f0
 replace off0 := off0.o hO
 have k_t4 := h_
 clear hO h_ J0k
 refine Lw ?_ (v := .int .i64 0)
 refine J0 ?_
 go_wp2_with fail
 go_loopw [10] (fun ii wr => ∃ (i : Nat), (i ≤ c0) ∧ (ii = .int .i64 (i : Int)) ∧ Off [] w wr ∧ Blk wr K4 (J2 .u8 32 (Q0 V)) 22 ∧ Blk wr J5x (p4 0 0 0 0) 60 ∧ Sl wr v L)
  (fun ii _ => (256 - intOf ii).toNat)
 case atStart => exact ⟨0, Nat.zero_le _, rfl, off0, k_t2, k_t4, J7⟩
 case round =>
  obtain ⟨i, hi, rfl, off0, k_t2, k_t4, J7⟩ := hrel
  obtain ⟨W3, eW_⟩ := J68 off0
  subst eW_
  go_upto_region 2 with fail
  refine wp_region_lit ?_
  refine Lw ?_ (v := .bool true) (hv := by exact Q56 (i := i) (n := 256) (decide_eq_true (by omega)) rfl rfl rfl)
  refine J0 ?_
  by_cases hi0 : i = c0
  ·
   have _f := hi0
   subst hi0
   have hdo := (candOk_iff.1 hok).1
   have hne := (candOk_iff.1 hok).2
   go_upto_region 4 with fail
   refine wp_region_lit ?_
   refine LnS ?_ (z := #[.int .u8 3, .int .u8 1]) (t := 5) (n := 2) (c := 2)
   intro J69 W4 Q1p hO h_
   have Q8k : Value.ownBlock (.slice (some ⟨J69, 0, none⟩) 2 2) ≠ some J5x := obn k_t4 Q1p
   replace k_t2 := k_t2.o hO
   replace k_t4 := k_t4.o hO
   replace J7 := Sl.off J7 hO f0
   replace off0 := off0.o hO
   have ow_s13 : Own W4 (.slice (some ⟨J69, 0, none⟩) 2 2) [3, 1] := J07 h_ (by rfl) (by show 2 ≤ maxLen; decide)
   clear hO h_ Q1p
   refine Lw ?_ (v := .slice (some ⟨K4, 0, none⟩) 32 32) (hv := by first | rfl | (go_simp; done) | (go_simp; with_reducible rfl))
   refine Lv ?_
   refine Lv ?_
   refine Lw ?_ (v := .int .u8 ((UInt8.ofNat i).toNat : Int)) (hv := by exact Q57 rfl rfl)
   refine LnS ?_ (z := #[.int .u8 ((UInt8.ofNat i).toNat : Int), .int .u8 0]) (t := 5) (n := 2) (c := 2)
   intro J6a W5 Q1q hO h_
   have Q8l : Value.ownBlock (.slice (some ⟨J6a, 0, none⟩) 2 2) ≠ some J5x := obn k_t4 Q1q
   replace k_t2 := k_t2.o hO
   replace k_t4 := k_t4.o hO
   replace J7 := Sl.off J7 hO f0
   replace ow_s13 := Own.off ow_s13 hO f0
   replace off0 := off0.o hO
   have ow_s18 : Own W5 (.slice (some ⟨J6a, 0, none⟩) 2 2) [UInt8.ofNat i, 0] := J07 h_ (by rfl) (by show 2 ≤ maxLen; decide)
   clear hO h_ Q1q
   refine LnS ?_ (z := #[(.slice (some ⟨J69, 0, none⟩) 2 2), .slice (some ⟨K4, 0, none⟩) 32 32, v, (.slice (some ⟨J6a, 0, none⟩) 2 2)]) (t := 23) (n := 4) (c := 4) (hr := by exact J23 [(.slice (some ⟨J69, 0, none⟩) 2 2), .slice (some ⟨K4, 0, none⟩) 32 32, v, (.slice (some ⟨J6a, 0, none⟩) 2 2)] rfl rfl (vsc ((J1o ow_s13).1) (vsc (rfl) (vsc ((J1u J7).1) (vsc ((J1o ow_s18).1) vs0)))) Tryd.underlying112 (by kernel_rfl) (by kernel_rfl) rfl (by decide) (by decide))
   intro Q41 W6 Q1r hO h_
   have nq_t4_s19 := bn k_t4 Q1r
   replace k_t2 := k_t2.o hO
   replace k_t4 := k_t4.o hO
   replace J7 := Sl.off J7 hO f0
   replace ow_s13 := Own.off ow_s13 hO f0
   replace ow_s18 := Own.off ow_s18 hO f0
   replace off0 := off0.o hO
   have k_s19 := h_
   clear hO h_ Q1r
   obtain ⟨U1, hU1⟩ := V3 (hs ([3, 1] ++ (lb 32 V) ++ L ++ [UInt8.ofNat i, 0]))
   have HU1 := Lib.hid hU1
   clear hU1
   refine Lr ?_ (J5z HU1.out [[3, 1], lb 32 V, L, [UInt8.ofNat i, 0]] (some ⟨Q41, 0, none⟩) 4 (by simp only [List.flatten_cons, List.flatten_nil, List.append_nil, List.nil_append, List.append_assoc, List.cons_append]) (by first | omega | (simp only [List.length_append, List.length_cons, List.length_nil, Z7]; omega)) (by simp) W6 (J4u k_s19 (pvc (ow_s13.sl) (pvc (J08 (V := V) (n := 32) (off := 0) k_t2 ap0 (by decide) (by decide)) (pvc J7 (pvc (ow_s18.sl) pv0))))) (J8 hG off0.ext).2.1)
   intro W7 hO
   replace k_t2 := k_t2.o hO
   replace k_t4 := k_t4.o hO
   replace k_s19 := k_s19.o hO
   replace J7 := Sl.off J7 hO f0
   replace ow_s13 := Own.off ow_s13 hO f0
   replace ow_s18 := Own.off ow_s18 hO f0
   replace off0 := off0.o hO
   clear hO
   refine LnA ?_ (z := J2 .u8 64 (Q0 0)) (t := 30) (k := .u8) (n := 64) (f := Q0 U1)
   intro J62 W9 V6 hO h_
   have nq_t4_t7 := bn k_t4 V6
   replace k_t2 := k_t2.o hO
   replace k_t4 := k_t4.o hO
   replace k_s19 := k_s19.o hO
   replace J7 := Sl.off J7 hO f0
   replace ow_s13 := Own.off ow_s13 hO f0
   replace ow_s18 := Own.off ow_s18 hO f0
   replace off0 := off0.o hO
   have k_t7 := h_
   clear hO h_ V6
   refine J0 ?_
   go_upto_region 5 with fail
   refine wp_region_lit ?_
   refine Lw ?_ (v := .slice (some ⟨J62, 0, none⟩) 32 64) (hv := by first | rfl | (go_simp; done) | (go_simp; with_reducible rfl))
   refine Lw ?_ (v := .pointer (some ⟨J62, 0, none⟩)) (hv := by first | rfl | (go_simp; done) | (go_simp; with_reducible rfl))
   refine Y9 (vs := (J2 .u8 32 (Q0 (lo U1))).toList) (by rfl) rfl rfl k_t7 (J2m Q8f) (by kernel_rfl) (by kernel_rfl) ?_
   (try simp only [Act.put, mA, mB, mC])
   have hcb9 : lo U1 = J53 V L i := by rw [HU1.out]; rfl
   refine Lr ?_ (Q0o hcb9 (dc0 W9 (J8 hG off0.ext).1))
   intro W10 hO
   replace k_t2 := k_t2.o hO
   replace k_t4 := k_t4.o hO
   replace k_s19 := k_s19.o hO
   replace k_t7 := k_t7.o hO
   replace J7 := Sl.off J7 hO f0
   replace ow_s13 := Own.off ow_s13 hO f0
   replace ow_s18 := Own.off ow_s18 hO f0
   replace off0 := off0.o hO
   clear hO
   refine Lv ?_
   refine Lv ?_
   refine Lw ?_ (v := .int .i64 0)
   refine LnP ?_ (z := p4 0 0 0 0) (t := 60) (cells := p4 dx0 dy0 1 dt0)
   intro Q0p W12 K5 hO h_
   have J2v := bn k_t2 K5
   have nq_t4_t8 := bn k_t4 K5
   have Q8m := bn k_s19 K5
   have J4c := bn k_t7 K5
   have J8e := J01 (Sl.lt J7) K5
   have Q8n := J01 (Own.lt ow_s13) K5
   have Q8o := J01 (Own.lt ow_s18) K5
   have J6j := fbn off0 K5
   replace k_t2 := k_t2.o hO
   replace k_t4 := k_t4.o hO
   replace k_s19 := k_s19.o hO
   replace k_t7 := k_t7.o hO
   replace J7 := Sl.off J7 hO f0
   replace ow_s13 := Own.off ow_s13 hO f0
   replace ow_s18 := Own.off ow_s18 hO f0
   replace off0 := off0.o hO
   have k_t8 := h_
   clear hO h_ K5
   refine Lw ?_ (v := .int .i64 0)
   refine J0 ?_
   go_upto_region 7 with fail
   refine wp_region_lit ?_
   refine L0 ?_ k_t8
   refine Lr ?_ (ec0 W12 (J8 hG off0.ext).1)
   intro W13 hO
   replace k_t2 := k_t2.o hO
   replace k_t4 := k_t4.o hO
   replace k_s19 := k_s19.o hO
   replace k_t7 := k_t7.o hO
   replace k_t8 := k_t8.o hO
   replace J7 := Sl.off J7 hO f0
   replace ow_s13 := Own.off ow_s13 hO f0
   replace ow_s18 := Own.off ow_s18 hO f0
   replace off0 := off0.o hO
   clear hO
   refine Lp ?_ k_t8 (cells := p4 ex0 ey0 ez0 et0)
   intro W14 hO h_
   replace k_t8 : Blk W14 Q0p (p4 ex0 ey0 ez0 et0) 60 := h_
   clear h_
   replace k_t2 := k_t2.p hO J2v
   replace k_t4 := k_t4.p hO nq_t4_t8
   replace k_s19 := k_s19.p hO Q8m
   replace k_t7 := k_t7.p hO J4c
   replace J7 := Sl.off J7 hO (f1 J8e)
   replace ow_s13 := Own.off ow_s13 hO (f1 Q8n)
   replace ow_s18 := Own.off ow_s18 hO (f1 Q8o)
   replace off0 := off0.p hO J6j
   clear hO
   refine J0 ?_
   go_upto_region 8 with fail
   refine wp_region_lit ?_
   refine L0 ?_ k_t8
   refine Lw ?_ (v := .agg (p4 0 0 0 0)) (hv := by kernel_rfl)
   have cs_ := J81 (kn := kn) er0.rw J76
   rw [show decide (J1f V L i = p0) = false from decide_eq_false hne] at cs_
   refine Lr ?_ (cs_ W14 (J8 hG off0.ext).1)
   intro W15 hO
   replace k_t2 := k_t2.o hO
   replace k_t4 := k_t4.o hO
   replace k_s19 := k_s19.o hO
   replace k_t7 := k_t7.o hO
   replace k_t8 := k_t8.o hO
   replace J7 := Sl.off J7 hO f0
   replace ow_s13 := Own.off ow_s13 hO f0
   replace ow_s18 := Own.off ow_s18 hO f0
   replace off0 := off0.o hO
   clear hO
   refine Lw ?_ (v := .bool true)
   refine J0 ?_
   go_upto_region 9 with fail
   refine wp_region_lit ?_
   refine L0 ?_ k_t8
   refine Lp ?_ k_t4 (cells := p4 ex0 ey0 ez0 et0)
   intro W16 hO h_
   replace k_t4 : Blk W16 J5x (p4 ex0 ey0 ez0 et0) 60 := h_
   clear h_
   replace k_t2 := k_t2.p hO nq_t2_t4
   replace k_s19 := k_s19.p hO nq_t4_s19.symm
   replace k_t7 := k_t7.p hO nq_t4_t7.symm
   replace k_t8 := k_t8.p hO nq_t4_t8.symm
   replace J7 := Sl.off J7 hO (f1 Z5x)
   replace ow_s13 := Own.off ow_s13 hO (f1 Q8k)
   replace ow_s18 := Own.off ow_s18 hO (f1 Q8l)
   replace off0 := off0.p hO J27
   clear hO
   refine Lw ?_ (v := .int .i64 0)
   refine J0 ?_
   go_wp2
   exact bodyPost_ret (V5 rfl rfl rfl k_t4 (by kernel_rfl) (by kernel_rfl)) rfl ⟨rfl, off0.ext⟩
  ·
   have _f := hi0
   have hbad := hlow i (by omega)
   go_upto_region 4 with fail
   refine wp_region_lit ?_
   refine LnS ?_ (z := #[.int .u8 3, .int .u8 1]) (t := 5) (n := 2) (c := 2)
   intro J69 W4 Q1p hO h_
   replace k_t2 := k_t2.o hO
   replace k_t4 := k_t4.o hO
   replace J7 := Sl.off J7 hO f0
   replace off0 := off0.o hO
   have ow_s13 : Own W4 (.slice (some ⟨J69, 0, none⟩) 2 2) [3, 1] := J07 h_ (by rfl) (by show 2 ≤ maxLen; decide)
   clear hO h_ Q1p
   refine Lw ?_ (v := .slice (some ⟨K4, 0, none⟩) 32 32) (hv := by first | rfl | (go_simp; done) | (go_simp; with_reducible rfl))
   refine Lv ?_
   refine Lv ?_
   refine Lw ?_ (v := .int .u8 ((UInt8.ofNat i).toNat : Int)) (hv := by exact Q57 rfl rfl)
   refine LnS ?_ (z := #[.int .u8 ((UInt8.ofNat i).toNat : Int), .int .u8 0]) (t := 5) (n := 2) (c := 2)
   intro J6a W5 Q1q hO h_
   replace k_t2 := k_t2.o hO
   replace k_t4 := k_t4.o hO
   replace J7 := Sl.off J7 hO f0
   replace ow_s13 := Own.off ow_s13 hO f0
   replace off0 := off0.o hO
   have ow_s18 : Own W5 (.slice (some ⟨J6a, 0, none⟩) 2 2) [UInt8.ofNat i, 0] := J07 h_ (by rfl) (by show 2 ≤ maxLen; decide)
   clear hO h_ Q1q
   refine LnS ?_ (z := #[(.slice (some ⟨J69, 0, none⟩) 2 2), .slice (some ⟨K4, 0, none⟩) 32 32, v, (.slice (some ⟨J6a, 0, none⟩) 2 2)]) (t := 23) (n := 4) (c := 4) (hr := by exact J23 [(.slice (some ⟨J69, 0, none⟩) 2 2), .slice (some ⟨K4, 0, none⟩) 32 32, v, (.slice (some ⟨J6a, 0, none⟩) 2 2)] rfl rfl (vsc ((J1o ow_s13).1) (vsc (rfl) (vsc ((J1u J7).1) (vsc ((J1o ow_s18).1) vs0)))) Tryd.underlying112 (by kernel_rfl) (by kernel_rfl) rfl (by decide) (by decide))
   intro Q41 W6 Q1r hO h_
   replace k_t2 := k_t2.o hO
   replace k_t4 := k_t4.o hO
   replace J7 := Sl.off J7 hO f0
   replace ow_s13 := Own.off ow_s13 hO f0
   replace ow_s18 := Own.off ow_s18 hO f0
   replace off0 := off0.o hO
   have k_s19 := h_
   clear hO h_ Q1r
   obtain ⟨U2, hU2⟩ := V3 (hs ([3, 1] ++ (lb 32 V) ++ L ++ [UInt8.ofNat i, 0]))
   have HU2 := Lib.hid hU2
   clear hU2
   refine Lr ?_ (J5z HU2.out [[3, 1], lb 32 V, L, [UInt8.ofNat i, 0]] (some ⟨Q41, 0, none⟩) 4 (by simp only [List.flatten_cons, List.flatten_nil, List.append_nil, List.nil_append, List.append_assoc, List.cons_append]) (by first | omega | (simp only [List.length_append, List.length_cons, List.length_nil, Z7]; omega)) (by simp) W6 (J4u k_s19 (pvc (ow_s13.sl) (pvc (J08 (V := V) (n := 32) (off := 0) k_t2 ap0 (by decide) (by decide)) (pvc J7 (pvc (ow_s18.sl) pv0))))) (J8 hG off0.ext).2.1)
   intro W7 hO
   replace k_t2 := k_t2.o hO
   replace k_t4 := k_t4.o hO
   replace J7 := Sl.off J7 hO f0
   replace off0 := off0.o hO
   clear hO
   refine LnA ?_ (z := J2 .u8 64 (Q0 0)) (t := 30) (k := .u8) (n := 64) (f := Q0 U2)
   intro J62 W9 V6 hO h_
   replace k_t2 := k_t2.o hO
   replace k_t4 := k_t4.o hO
   replace J7 := Sl.off J7 hO f0
   replace off0 := off0.o hO
   have k_t7 := h_
   clear hO h_ V6
   refine J0 ?_
   by_cases hdo : dOk (J53 V L i) = true
   ·
    have _f := hdo
    go_upto_region 5 with fail
    refine wp_region_lit ?_
    refine Lw ?_ (v := .slice (some ⟨J62, 0, none⟩) 32 64) (hv := by first | rfl | (go_simp; done) | (go_simp; with_reducible rfl))
    refine Lw ?_ (v := .pointer (some ⟨J62, 0, none⟩)) (hv := by first | rfl | (go_simp; done) | (go_simp; with_reducible rfl))
    refine Y9 (vs := (J2 .u8 32 (Q0 (lo U2))).toList) (by rfl) rfl rfl k_t7 (J2m Q8f) (by kernel_rfl) (by kernel_rfl) ?_
    (try simp only [Act.put, mA, mB, mC])
    have hcb9 : lo U2 = J53 V L i := by rw [HU2.out]; rfl
    obtain ⟨dx, dt, dr, dc⟩ := J6m (kn := kn) hc (J8d V L i) hdo
    obtain ⟨dy, hdy⟩ := V3 (J53 V L i % 2 ^ 255)
    rw [← hdy] at dr dc
    clear hdy
    refine Lr ?_ (Q0o hcb9 (dc W9 (J8 hG off0.ext).1))
    intro W10 hO
    replace k_t2 := k_t2.o hO
    replace k_t4 := k_t4.o hO
    replace k_t7 := k_t7.o hO
    replace J7 := Sl.off J7 hO f0
    replace off0 := off0.o hO
    clear hO
    refine Lv ?_
    refine Lv ?_
    refine Lw ?_ (v := .int .i64 0)
    refine LnP ?_ (z := p4 0 0 0 0) (t := 60) (cells := p4 dx dy 1 dt)
    intro Q0p W12 K5 hO h_
    have J2v := bn k_t2 K5
    have nq_t4_t8 := bn k_t4 K5
    have J4c := bn k_t7 K5
    have J8e := J01 (Sl.lt J7) K5
    have J6j := fbn off0 K5
    replace k_t2 := k_t2.o hO
    replace k_t4 := k_t4.o hO
    replace k_t7 := k_t7.o hO
    replace J7 := Sl.off J7 hO f0
    replace off0 := off0.o hO
    have k_t8 := h_
    clear hO h_ K5
    refine Lw ?_ (v := .int .i64 0)
    refine J0 ?_
    go_upto_region 7 with fail
    refine wp_region_lit ?_
    refine L0 ?_ k_t8
    obtain ⟨ex, ey, ez, et, er, ec⟩ := J5c (kn := kn) dr.rw
    refine Lr ?_ (ec W12 (J8 hG off0.ext).1)
    intro W13 hO
    replace k_t2 := k_t2.o hO
    replace k_t4 := k_t4.o hO
    replace k_t7 := k_t7.o hO
    replace k_t8 := k_t8.o hO
    replace J7 := Sl.off J7 hO f0
    replace off0 := off0.o hO
    clear hO
    refine Lp ?_ k_t8 (cells := p4 ex ey ez et)
    intro W14 hO h_
    replace k_t8 : Blk W14 Q0p (p4 ex ey ez et) 60 := h_
    clear h_
    replace k_t2 := k_t2.p hO J2v
    replace k_t4 := k_t4.p hO nq_t4_t8
    replace k_t7 := k_t7.p hO J4c
    replace J7 := Sl.off J7 hO (f1 J8e)
    replace off0 := off0.p hO J6j
    clear hO
    refine J0 ?_
    go_upto_region 8 with fail
    refine wp_region_lit ?_
    refine L0 ?_ k_t8
    refine Lw ?_ (v := .agg (p4 0 0 0 0)) (hv := by kernel_rfl)
    have cs_ := J81 (kn := kn) er.rw J76
    rw [show decide (pm (dPt (J53 V L i)) 8 = p0) = true from decide_eq_true (Q42 hbad hdo)] at cs_
    refine Lr ?_ (cs_ W14 (J8 hG off0.ext).1)
    intro W15 hO
    replace k_t2 := k_t2.o hO
    replace k_t4 := k_t4.o hO
    replace k_t7 := k_t7.o hO
    replace J7 := Sl.off J7 hO f0
    replace off0 := off0.o hO
    clear hO
    refine Lw ?_ (v := .bool false)
    refine J0 ?_
    go_upto_region 10 with fail
    refine wp_region_lit ?_
    refine Lw ?_ (v := .int .i64 (((i + 1 : Nat) : Int))) (hv := by go_simp; (try simp only [IntKind.wrap_i64]); (try omega))
    refine Lv ?_
    refine J0 ?_
    go_wp2
    go_roundw
    case rel => exact ⟨i + 1, by omega, by go_num, off0, k_t2, k_t4, J7⟩
    case measure => simp [intOf]; omega
   ·
    have _f := hdo
    replace hdo : dOk (J53 V L i) = false := by simpa using hdo
    go_upto_region 5 with fail
    refine wp_region_lit ?_
    refine Lw ?_ (v := .slice (some ⟨J62, 0, none⟩) 32 64) (hv := by first | rfl | (go_simp; done) | (go_simp; with_reducible rfl))
    refine Lw ?_ (v := .pointer (some ⟨J62, 0, none⟩)) (hv := by first | rfl | (go_simp; done) | (go_simp; with_reducible rfl))
    refine Y9 (vs := (J2 .u8 32 (Q0 (lo U2))).toList) (by rfl) rfl rfl k_t7 (J2m Q8f) (by kernel_rfl) (by kernel_rfl) ?_
    (try simp only [Act.put, mA, mB, mC])
    have hcb9 : lo U2 = J53 V L i := by rw [HU2.out]; rfl
    refine Lr ?_ (Q0o hcb9 (Q07 (kn := kn) hc (J8d V L i) hdo W9 (J8 hG off0.ext).1))
    intro W10 hO
    replace k_t2 := k_t2.o hO
    replace k_t4 := k_t4.o hO
    replace J7 := Sl.off J7 hO f0
    replace off0 := off0.o hO
    clear hO
    refine Lv ?_
    refine Lv ?_
    refine Lw ?_ (v := .int .i64 15)
    refine LnP ?_ (z := p4 0 0 0 0) (t := 60) (cells := p4 0 0 0 0)
    intro Q0p W12 K5 hO h_
    replace k_t2 := k_t2.o hO
    replace k_t4 := k_t4.o hO
    replace J7 := Sl.off J7 hO f0
    replace off0 := off0.o hO
    clear hO h_ K5
    refine Lw ?_ (v := .int .i64 15)
    refine J0 ?_
    go_upto_region 10 with fail
    refine wp_region_lit ?_
    refine Lw ?_ (v := .int .i64 (((i + 1 : Nat) : Int))) (hv := by go_simp; (try simp only [IntKind.wrap_i64]); (try omega))
    refine Lv ?_
    refine J0 ?_
    go_wp2
    go_roundw
    case rel => exact ⟨i + 1, by omega, by go_num, off0, k_t2, k_t4, J7⟩
    case measure => simp [intOf]; omega
theorem Q59 (hc : kn.c) {V : Nat} {L : List UInt8} (hL : L.length ≤ 1099511627776) (hlow : ∀ i, i < 256 → J1j V L i = false) :
  ∀ v w, GA kn w → Sl w v L → Calls Tryd.prog 60 #[.agg (J2 .u8 32 (Q0 V)), v] w fun e w' => Ret (.tuple #[.agg (p4 0 0 0 0), .int .i64 15]) w w' e := by
 intro v w hG hsl
 have J7 := hsl
 have off0 : Off [] w w := Off.refl _ _
 go_enter Tryd.func60, Tryd.ntmps60
 go_upto_region 0 with fail
 refine wp_region_lit ?_
 refine Ln ?_ (z := J2 .u8 32 (Q0 V)) (t := 22)
 intro K4 W1 V2 hO h_
 replace J7 := Sl.off J7 hO f0
 replace off0 := off0.o hO
 have k_t2 := h_
 clear hO h_ V2
 refine Ln ?_ (z := p4 0 0 0 0) (t := 60)
 intro J5x W2 J0k hO h_
 have J27 := fbn off0 J0k
 replace k_t2 := k_t2.o hO
 replace J7 := Sl.off J7 hO f0
 replace off0 := off0.o hO
 have k_t4 := h_
 clear hO h_ J0k
 refine Lw ?_ (v := .int .i64 0)
 refine J0 ?_
 go_wp2_with fail
 go_loopw [10] (fun ii wr => ∃ (i : Nat), (i ≤ 256) ∧ (ii = .int .i64 (i : Int)) ∧ Off [] w wr ∧ Blk wr K4 (J2 .u8 32 (Q0 V)) 22 ∧ Blk wr J5x (p4 0 0 0 0) 60 ∧ Sl wr v L)
  (fun ii _ => (256 - intOf ii).toNat)
 case atStart => exact ⟨0, Nat.zero_le _, rfl, off0, k_t2, k_t4, J7⟩
 case round =>
  obtain ⟨i, hi, rfl, off0, k_t2, k_t4, J7⟩ := hrel
  obtain ⟨W3, eW_⟩ := J68 off0
  subst eW_
  by_cases h256 : i < 256
  ·
   have _f := h256
   have hbad := hlow i h256
   go_upto_region 2 with fail
   refine wp_region_lit ?_
   refine Lw ?_ (v := .bool true) (hv := by exact Q56 (i := i) (n := 256) (decide_eq_true h256) rfl rfl rfl)
   refine J0 ?_
   go_upto_region 4 with fail
   refine wp_region_lit ?_
   refine LnS ?_ (z := #[.int .u8 3, .int .u8 1]) (t := 5) (n := 2) (c := 2)
   intro J69 W4 Q1p hO h_
   replace k_t2 := k_t2.o hO
   replace k_t4 := k_t4.o hO
   replace J7 := Sl.off J7 hO f0
   replace off0 := off0.o hO
   have ow_s13 : Own W4 (.slice (some ⟨J69, 0, none⟩) 2 2) [3, 1] := J07 h_ (by rfl) (by show 2 ≤ maxLen; decide)
   clear hO h_ Q1p
   refine Lw ?_ (v := .slice (some ⟨K4, 0, none⟩) 32 32) (hv := by first | rfl | (go_simp; done) | (go_simp; with_reducible rfl))
   refine Lv ?_
   refine Lv ?_
   refine Lw ?_ (v := .int .u8 ((UInt8.ofNat i).toNat : Int)) (hv := by exact Q57 rfl rfl)
   refine LnS ?_ (z := #[.int .u8 ((UInt8.ofNat i).toNat : Int), .int .u8 0]) (t := 5) (n := 2) (c := 2)
   intro J6a W5 Q1q hO h_
   replace k_t2 := k_t2.o hO
   replace k_t4 := k_t4.o hO
   replace J7 := Sl.off J7 hO f0
   replace ow_s13 := Own.off ow_s13 hO f0
   replace off0 := off0.o hO
   have ow_s18 : Own W5 (.slice (some ⟨J6a, 0, none⟩) 2 2) [UInt8.ofNat i, 0] := J07 h_ (by rfl) (by show 2 ≤ maxLen; decide)
   clear hO h_ Q1q
   refine LnS ?_ (z := #[(.slice (some ⟨J69, 0, none⟩) 2 2), .slice (some ⟨K4, 0, none⟩) 32 32, v, (.slice (some ⟨J6a, 0, none⟩) 2 2)]) (t := 23) (n := 4) (c := 4) (hr := by exact J23 [(.slice (some ⟨J69, 0, none⟩) 2 2), .slice (some ⟨K4, 0, none⟩) 32 32, v, (.slice (some ⟨J6a, 0, none⟩) 2 2)] rfl rfl (vsc ((J1o ow_s13).1) (vsc (rfl) (vsc ((J1u J7).1) (vsc ((J1o ow_s18).1) vs0)))) Tryd.underlying112 (by kernel_rfl) (by kernel_rfl) rfl (by decide) (by decide))
   intro Q41 W6 Q1r hO h_
   replace k_t2 := k_t2.o hO
   replace k_t4 := k_t4.o hO
   replace J7 := Sl.off J7 hO f0
   replace ow_s13 := Own.off ow_s13 hO f0
   replace ow_s18 := Own.off ow_s18 hO f0
   replace off0 := off0.o hO
   have k_s19 := h_
   clear hO h_ Q1r
   obtain ⟨U1, hU1⟩ := V3 (hs ([3, 1] ++ (lb 32 V) ++ L ++ [UInt8.ofNat i, 0]))
   have HU1 := Lib.hid hU1
   clear hU1
   refine Lr ?_ (J5z HU1.out [[3, 1], lb 32 V, L, [UInt8.ofNat i, 0]] (some ⟨Q41, 0, none⟩) 4 (by simp only [List.flatten_cons, List.flatten_nil, List.append_nil, List.nil_append, List.append_assoc, List.cons_append]) (by first | omega | (simp only [List.length_append, List.length_cons, List.length_nil, Z7]; omega)) (by simp) W6 (J4u k_s19 (pvc (ow_s13.sl) (pvc (J08 (V := V) (n := 32) (off := 0) k_t2 ap0 (by decide) (by decide)) (pvc J7 (pvc (ow_s18.sl) pv0))))) (J8 hG off0.ext).2.1)
   intro W7 hO
   replace k_t2 := k_t2.o hO
   replace k_t4 := k_t4.o hO
   replace J7 := Sl.off J7 hO f0
   replace off0 := off0.o hO
   clear hO
   refine LnA ?_ (z := J2 .u8 64 (Q0 0)) (t := 30) (k := .u8) (n := 64) (f := Q0 U1)
   intro J62 W9 V6 hO h_
   replace k_t2 := k_t2.o hO
   replace k_t4 := k_t4.o hO
   replace J7 := Sl.off J7 hO f0
   replace off0 := off0.o hO
   have k_t7 := h_
   clear hO h_ V6
   refine J0 ?_
   by_cases hdo : dOk (J53 V L i) = true
   ·
    have _f := hdo
    go_upto_region 5 with fail
    refine wp_region_lit ?_
    refine Lw ?_ (v := .slice (some ⟨J62, 0, none⟩) 32 64) (hv := by first | rfl | (go_simp; done) | (go_simp; with_reducible rfl))
    refine Lw ?_ (v := .pointer (some ⟨J62, 0, none⟩)) (hv := by first | rfl | (go_simp; done) | (go_simp; with_reducible rfl))
    refine Y9 (vs := (J2 .u8 32 (Q0 (lo U1))).toList) (by rfl) rfl rfl k_t7 (J2m Q8f) (by kernel_rfl) (by kernel_rfl) ?_
    (try simp only [Act.put, mA, mB, mC])
    have hcb9 : lo U1 = J53 V L i := by rw [HU1.out]; rfl
    obtain ⟨dx, dt, dr, dc⟩ := J6m (kn := kn) hc (J8d V L i) hdo
    obtain ⟨dy, hdy⟩ := V3 (J53 V L i % 2 ^ 255)
    rw [← hdy] at dr dc
    clear hdy
    refine Lr ?_ (Q0o hcb9 (dc W9 (J8 hG off0.ext).1))
    intro W10 hO
    replace k_t2 := k_t2.o hO
    replace k_t4 := k_t4.o hO
    replace k_t7 := k_t7.o hO
    replace J7 := Sl.off J7 hO f0
    replace off0 := off0.o hO
    clear hO
    refine Lv ?_
    refine Lv ?_
    refine Lw ?_ (v := .int .i64 0)
    refine LnP ?_ (z := p4 0 0 0 0) (t := 60) (cells := p4 dx dy 1 dt)
    intro Q0p W12 K5 hO h_
    have J2v := bn k_t2 K5
    have nq_t4_t8 := bn k_t4 K5
    have J4c := bn k_t7 K5
    have J8e := J01 (Sl.lt J7) K5
    have J6j := fbn off0 K5
    replace k_t2 := k_t2.o hO
    replace k_t4 := k_t4.o hO
    replace k_t7 := k_t7.o hO
    replace J7 := Sl.off J7 hO f0
    replace off0 := off0.o hO
    have k_t8 := h_
    clear hO h_ K5
    refine Lw ?_ (v := .int .i64 0)
    refine J0 ?_
    go_upto_region 7 with fail
    refine wp_region_lit ?_
    refine L0 ?_ k_t8
    obtain ⟨ex, ey, ez, et, er, ec⟩ := J5c (kn := kn) dr.rw
    refine Lr ?_ (ec W12 (J8 hG off0.ext).1)
    intro W13 hO
    replace k_t2 := k_t2.o hO
    replace k_t4 := k_t4.o hO
    replace k_t7 := k_t7.o hO
    replace k_t8 := k_t8.o hO
    replace J7 := Sl.off J7 hO f0
    replace off0 := off0.o hO
    clear hO
    refine Lp ?_ k_t8 (cells := p4 ex ey ez et)
    intro W14 hO h_
    replace k_t8 : Blk W14 Q0p (p4 ex ey ez et) 60 := h_
    clear h_
    replace k_t2 := k_t2.p hO J2v
    replace k_t4 := k_t4.p hO nq_t4_t8
    replace k_t7 := k_t7.p hO J4c
    replace J7 := Sl.off J7 hO (f1 J8e)
    replace off0 := off0.p hO J6j
    clear hO
    refine J0 ?_
    go_upto_region 8 with fail
    refine wp_region_lit ?_
    refine L0 ?_ k_t8
    refine Lw ?_ (v := .agg (p4 0 0 0 0)) (hv := by kernel_rfl)
    have cs_ := J81 (kn := kn) er.rw J76
    rw [show decide (pm (dPt (J53 V L i)) 8 = p0) = true from decide_eq_true (Q42 hbad hdo)] at cs_
    refine Lr ?_ (cs_ W14 (J8 hG off0.ext).1)
    intro W15 hO
    replace k_t2 := k_t2.o hO
    replace k_t4 := k_t4.o hO
    replace k_t7 := k_t7.o hO
    replace J7 := Sl.off J7 hO f0
    replace off0 := off0.o hO
    clear hO
    refine Lw ?_ (v := .bool false)
    refine J0 ?_
    go_upto_region 10 with fail
    refine wp_region_lit ?_
    refine Lw ?_ (v := .int .i64 (((i + 1 : Nat) : Int))) (hv := by go_simp; (try simp only [IntKind.wrap_i64]); (try omega))
    refine Lv ?_
    refine J0 ?_
    go_wp2
    go_roundw
    case rel => exact ⟨i + 1, by omega, by go_num, off0, k_t2, k_t4, J7⟩
    case measure => simp [intOf]; omega
   ·
    have _f := hdo
    replace hdo : dOk (J53 V L i) = false := by simpa using hdo
    go_upto_region 5 with fail
    refine wp_region_lit ?_
    refine Lw ?_ (v := .slice (some ⟨J62, 0, none⟩) 32 64) (hv := by first | rfl | (go_simp; done) | (go_simp; with_reducible rfl))
    refine Lw ?_ (v := .pointer (some ⟨J62, 0, none⟩)) (hv := by first | rfl | (go_simp; done) | (go_simp; with_reducible rfl))
    refine Y9 (vs := (J2 .u8 32 (Q0 (lo U1))).toList) (by rfl) rfl rfl k_t7 (J2m Q8f) (by kernel_rfl) (by kernel_rfl) ?_
    (try simp only [Act.put, mA, mB, mC])
    have hcb9 : lo U1 = J53 V L i := by rw [HU1.out]; rfl
    refine Lr ?_ (Q0o hcb9 (Q07 (kn := kn) hc (J8d V L i) hdo W9 (J8 hG off0.ext).1))
    intro W10 hO
    replace k_t2 := k_t2.o hO
    replace k_t4 := k_t4.o hO
    replace J7 := Sl.off J7 hO f0
    replace off0 := off0.o hO
    clear hO
    refine Lv ?_
    refine Lv ?_
    refine Lw ?_ (v := .int .i64 15)
    refine LnP ?_ (z := p4 0 0 0 0) (t := 60) (cells := p4 0 0 0 0)
    intro Q0p W12 K5 hO h_
    replace k_t2 := k_t2.o hO
    replace k_t4 := k_t4.o hO
    replace J7 := Sl.off J7 hO f0
    replace off0 := off0.o hO
    clear hO h_ K5
    refine Lw ?_ (v := .int .i64 15)
    refine J0 ?_
    go_upto_region 10 with fail
    refine wp_region_lit ?_
    refine Lw ?_ (v := .int .i64 (((i + 1 : Nat) : Int))) (hv := by go_simp; (try simp only [IntKind.wrap_i64]); (try omega))
    refine Lv ?_
    refine J0 ?_
    go_wp2
    go_roundw
    case rel => exact ⟨i + 1, by omega, by go_num, off0, k_t2, k_t4, J7⟩
    case measure => simp [intOf]; omega
  ·
   have _f := h256
   go_upto_region 2 with fail
   refine wp_region_lit ?_
   refine Lw ?_ (v := .bool false) (hv := by exact Q56 (i := i) (n := 256) (decide_eq_false h256) rfl rfl rfl)
   refine J0 ?_
   go_upto_region 11 with fail
   refine wp_region_lit ?_
   refine Lw ?_ (v := .agg (p4 0 0 0 0)) (hv := by kernel_rfl)
   refine Lp ?_ k_t4 (cells := p4 0 0 0 0)
   intro W4 hO h_
   replace k_t4 : Blk W4 J5x (p4 0 0 0 0) 60 := h_
   clear h_
   replace off0 := off0.p hO J27
   clear hO
   refine Lw ?_ (v := .int .i64 15)
   refine J0 ?_
   go_wp2
   exact bodyPost_ret (V5 rfl rfl rfl k_t4 (by kernel_rfl) (by kernel_rfl)) rfl ⟨rfl, off0.ext⟩
end Go.Proofs.YtefpoollmbmkfaaDoor

namespace Go.Proofs.YtefpoollmbmkfaaDoor
set_option maxHeartbeats 2000000
set_option maxRecDepth 100000
open Go.RowKit
attribute [local irreducible] wpList
variable {kn : Kn}
open Sc (LL J12)
attribute [local irreducible] hs
def q4 (a b c d : Array Value) : Array Value := a ++ b ++ c ++ d
section
variable {X1 Y1 Z1 T1 X2 Y2 Z2 T2 X3 Y3 Z3 T3 X4 Y4 Z4 T4 : Nat}
theorem Q8p {X Y Z T : Nat} : (p4 X Y Z T).size = 16 := rfl
theorem Y4u : ∀ i v, (p4 X1 Y1 Z1 T1)[i]? = some v → (q4 (p4 X1 Y1 Z1 T1) (p4 X2 Y2 Z2 T2) (p4 X3 Y3 Z3 T3) (p4 X4 Y4 Z4 T4))[0 + i]? = some v := fun i v h => by rw [Nat.zero_add]; exact J4e (J4e (J4e h))
theorem Y4v : ∀ i v, (p4 X2 Y2 Z2 T2)[i]? = some v → (q4 (p4 X1 Y1 Z1 T1) (p4 X2 Y2 Z2 T2) (p4 X3 Y3 Z3 T3) (p4 X4 Y4 Z4 T4))[16 + i]? = some v := fun i v h => J4e (J4e (J97 Q8p h))
theorem Y4w : ∀ i v, (p4 X3 Y3 Z3 T3)[i]? = some v → (q4 (p4 X1 Y1 Z1 T1) (p4 X2 Y2 Z2 T2) (p4 X3 Y3 Z3 T3) (p4 X4 Y4 Z4 T4))[32 + i]? = some v := fun i v h => J4e (J97 (by rw [Array.size_append, Q8p, Q8p]) h)
theorem Y4x : ∀ i v, (p4 X4 Y4 Z4 T4)[i]? = some v → (q4 (p4 X1 Y1 Z1 T1) (p4 X2 Y2 Z2 T2) (p4 X3 Y3 Z3 T3) (p4 X4 Y4 Z4 T4))[48 + i]? = some v := fun i v h => J97 (by rw [Array.size_append, Array.size_append, Q8p, Q8p, Q8p]) h
end
theorem Z2q {e n : Nat} {F : List Nat} (h : Fb e n F) : Fr (some e) n F := fun x hx hlt => by have := Option.some.inj hx; subst this; exact h hlt
theorem Z2r {e b : Nat} (h : b ≠ e) : some e ≠ some b := fun k => h (Option.some.inj k).symm
theorem Z5y {w : World} {v : Value} {t : TypeId} {vs : List Value} {ps : List (List UInt8)} (h : Row t 1 w v (vs.map fun x => [x])) (hn : ps.length = vs.length) (hv : ∀ (i : Nat) (l : List UInt8), ps[i]? = some l → ∃ u, vs[i]? = some u ∧ Sl w u l) (h0 : 0 < vs.length) :
    ∃ A c, v = .slice A ps.length c ∧ ∀ (i : Nat) (l : List UInt8), ps[i]? = some l → ∃ ad u, A = some ad ∧ w.cell? (ad.add i) = some u ∧ Sl w u l := by
  have h1 : (vs.map fun x => [x])[0]? = some [vs[0]] := by rw [List.getElem?_map, List.getElem?_eq_getElem h0]; rfl
  obtain ⟨g, c, hv0, _⟩ := h.at h1
  rw [List.length_map, ← hn] at hv0
  refine ⟨_, c, hv0, fun i l hi => ?_⟩
  obtain ⟨u, hu, hs⟩ := hv i l hi
  have h2 : (vs.map fun x => [x])[i]? = some [u] := by rw [List.getElem?_map, hu]; rfl
  obtain ⟨g', c', hv', hc⟩ := h.at h2
  rw [List.length_map, ← hn, hv0] at hv'
  injection hv' with e1 _ _
  injection e1 with e1
  injection e1 with e1 _ _
  subst e1
  have := hc 0 u rfl
  rw [Nat.mul_one, Nat.add_zero] at this
  exact ⟨_, u, rfl, by rw [Addr.add_mid, Nat.zero_add]; exact this, hs⟩
theorem Q8q {ops : Array Oper} {Q : Exit → Act → World → Prop} {w : World} {r : List Oper} {o : Oper} {a : Act} {x y : Operand} {v : Value} {l : List UInt8} {g : Nat} {cur : Array Value} {t : TypeId} {n c : Nat} (hs : Sl w v l) (hB : Blk w g cur t) (hcur : cur.size = n) (hn : l.length ≤ n) (hp : 0 < l.length) (hw : Region.wanted o (yielded ops a.tmps) = true)
    (ho : o.op = .call { callee := .builtin .copy, args := #[x, y], argTypes := #[23, 23] }) (hx : a.eval x = .slice (some ⟨g, 0, none⟩) n c) (hy : a.eval y = v)
    (h : ∀ W, Off [g] w W → Blk W g (bs8 l ++ cur.toList.drop l.length).toArray t → wpList Tryd.prog ops Q r (a.put o.dst (goInt l.length)) W) : wpList Tryd.prog ops Q (o :: r) a w := by
  obtain ⟨A, cc, rfl, h1, h2, h0, h3⟩ := hs
  obtain ⟨ad, rfl, _⟩ := h3 0 l[0] (List.getElem?_eq_getElem hp)
  have hrun := run_copy_row (P := Tryd.prog) w 23 23 o.type 5 g 0 n c ad l.length cc cur t (bs8 l) Tryd.underlying23 J9q hB (by rw [J0z]; exact (Nat.min_eq_left hn).symm) (fun j u hj => by
    simp only [bs8, List.getElem?_map, Option.map_eq_some_iff] at hj
    obtain ⟨z, hz, rfl⟩ := hj
    obtain ⟨ad', e, hc⟩ := h3 j z hz
    obtain rfl := Option.some.inj e
    exact hc) (by rw [J0z]; omega) (Q2r l)
  have e : (cur.toList.take 0 ++ bs8 l ++ cur.toList.drop (0 + (bs8 l).length)) = bs8 l ++ cur.toList.drop l.length := by
    rw [List.take_zero, List.nil_append, Nat.zero_add, J0z]
  rw [e] at hrun
  have h4 : Blk (w.setRow g (bs8 l ++ cur.toList.drop l.length).toArray) g (bs8 l ++ cur.toList.drop l.length).toArray t := Y5 hB _
  refine J86 hw (v := goInt l.length) (W := w.setRow g (bs8 l ++ cur.toList.drop l.length).toArray) ?_ (h _ ⟨rfl, rfl, rfl, by simp, fun k _ hk => setRow_other w g k _ (by simpa using hk)⟩ h4)
  unfold execOp
  simp only [ho, resolve, invoke, builtin, Sem.run_bind, Sem.run_pure, Result.andThen_ok, List.map_toArray, List.map_cons, List.map_nil, hx, hy, hrun, J0z]
theorem Q5a {l : List UInt8} (hl : l.length = 16) : (bs8 l ++ (J2 .u8 32 (Q0 0)).toList.drop l.length).toArray = J2 .u8 32 (Q0 (le l)) := by
  have h1 := Z0p l
  rw [hl] at h1 ⊢
  have e : le l / 2 ^ (8 * 16) = 0 := Nat.div_eq_of_lt h1
  have hR : (J2 .u8 32 (Q0 (le l))).toList = bs8 l ++ bs8 (lb 16 0) := by rw [J5f, ← Q4t, show lb 32 (le l) = lb 16 (le l) ++ lb 16 (le l / 2 ^ (8 * 16)) from Q55 16 16 _, e, Z2e hl, J7q]
  apply Array.ext'
  rw [hR]
  show bs8 l ++ _ = _
  congr 1

theorem Y08 (v : Value) (l : List UInt8) (hl : l.length = 16) (w : World) (hsl : Sl w v l) :
  Calls Tryd.prog 66 #[v] w fun e w' => Ret (.agg (J2 .u8 32 (Q0 (le l)))) w w' e := by
 have J7 := hsl
 have off0 : Off [] w w := Off.refl _ _
 go_enter Tryd.func66, Tryd.ntmps66
 go_upto_region 0 with fail
 refine wp_region_lit ?_
 refine Ln ?_ (z := J2 .u8 32 (Q0 0)) (t := 22)
 intro K4 W1 V2 hO h_
 have V8 := fbn off0 V2
 replace J7 := Sl.off J7 hO f0
 replace off0 := off0.o hO
 have k_t2 := h_
 clear hO h_ V2
 refine J0 ?_
 go_upto_region 1 with fail
 refine wp_region_lit ?_
 refine Ln ?_ (z := J2 .u8 32 (Q0 0)) (t := 22)
 intro J4a W2 J03 hO h_
 have nq_t2_t3 := bn k_t2 J03
 have J34 := fbn off0 J03
 replace k_t2 := k_t2.o hO
 replace J7 := Sl.off J7 hO f0
 replace off0 := off0.o hO
 have k_t3 := h_
 clear hO h_ J03
 refine J0 ?_
 go_upto_region 2 with fail
 refine wp_region_lit ?_
 refine Lw ?_ (v := .slice (some ⟨J4a, 0, none⟩) 32 32) (hv := by first | rfl | (go_simp; done) | (go_simp; with_reducible rfl))
 refine Lv ?_
 refine Q8q J7 k_t3 (by rw [J6]) (by omega) (by omega) (by rfl) rfl rfl rfl ?_
 (try simp only [Act.put, mA, mB, mC])
 intro W3 hO h_
 rw [Q5a hl] at h_
 replace k_t3 : Blk W3 J4a (J2 .u8 32 (Q0 (le l))) 22 := h_
 clear h_
 replace k_t2 := k_t2.p hO nq_t2_t3
 replace off0 := off0.p hO J34
 clear hO
 refine J0 ?_
 go_upto_region 3 with fail
 refine wp_region_lit ?_
 refine L0A ?_ k_t3
 refine LpA ?_ k_t2 (k := .u8) (n := 32) (f := Q0 (le l))
 intro W4 hO h_
 replace k_t2 : Blk W4 K4 (J2 .u8 32 (Q0 (le l))) 22 := h_
 clear h_
 replace off0 := off0.p hO V8
 clear hO
 refine J0 ?_
 go_wp2
 exact bodyPost_ret (K1 rfl rfl k_t2 (by kernel_rfl) (by rw [J6]; kernel_rfl)) rfl ⟨rfl, off0.ext⟩
theorem Q5b {V X : Nat} {X1 Y1 Z1 T1 : Nat} {a1 : Pr} (h1 : RN X1 Y1 Z1 T1 a1) {X2 Y2 Z2 T2 : Nat} {a2 : Pr} (h2 : RN X2 Y2 Z2 T2 a2) {X3 Y3 Z3 T3 : Nat} {a3 : Pr} (h3 : RN X3 Y3 Z3 T3 a3) {X4 Y4 Z4 T4 : Nat} {a4 : Pr} (h4 : RN X4 Y4 Z4 T4 a4) (hX : X = chH V a1 a2 a3 a4) :
  ∀ gP w, GA kn w → Blk w gP (q4 (p4 X1 Y1 Z1 T1) (p4 X2 Y2 Z2 T2) (p4 X3 Y3 Z3 T3) (p4 X4 Y4 Z4 T4)) 60 → Calls Tryd.prog 61 #[.agg (J2 .u8 32 (Q0 V)), .slice (some ⟨gP, 0, none⟩) 4 4] w fun e w' => ∃ p, e = .returned (.slice (some ⟨p, 0, none⟩) 16 64) ∧ w.heap.size ≤ p ∧ Off [] w w' ∧ Blk w' p (J2 .u8 64 (Q0 X)) 30 := by
 obtain ⟨U1, hU1⟩ := V3 (enc a1)
 have bU1 : U1 < 2 ^ 256 := by rw [hU1]; exact J52 _
 have HU1 := Lib.hid hU1
 clear hU1
 obtain ⟨U2, hU2⟩ := V3 (enc a2)
 have bU2 : U2 < 2 ^ 256 := by rw [hU2]; exact J52 _
 have HU2 := Lib.hid hU2
 clear hU2
 obtain ⟨U3, hU3⟩ := V3 (enc a3)
 have bU3 : U3 < 2 ^ 256 := by rw [hU3]; exact J52 _
 have HU3 := Lib.hid hU3
 clear hU3
 obtain ⟨U4, hU4⟩ := V3 (enc a4)
 have bU4 : U4 < 2 ^ 256 := by rw [hU4]; exact J52 _
 have HU4 := Lib.hid hU4
 clear hU4
 obtain ⟨U5, hU5⟩ := V3 (hs ([3, 2] ++ (lb 32 V) ++ (lb 32 U1) ++ (lb 32 U2) ++ (lb 32 U3) ++ (lb 32 U4) ++ [0]))
 have HU5 := Lib.hid hU5
 clear hU5
 intro gP w hG hP
 have k_pp := hP
 have off0 : Off [] w w := Off.refl _ _
 go_enter Tryd.func61, Tryd.ntmps61
 go_upto_region 0 with fail
 refine wp_region_lit ?_
 refine Ln ?_ (z := J2 .u8 32 (Q0 V)) (t := 22)
 intro K4 W1 V2 hO h_
 replace k_pp := k_pp.o hO
 replace off0 := off0.o hO
 have k_t2 := h_
 clear hO h_ V2
 refine Lv ?_
 refine J0 ?_
 go_upto_region 1 with fail
 refine wp_region_lit ?_
 refine LnS ?_ (z := #[.int .u8 3, .int .u8 2]) (t := 5) (n := 2) (c := 2)
 intro J2a W2 Y38 hO h_
 replace k_pp := k_pp.o hO
 replace k_t2 := k_t2.o hO
 replace off0 := off0.o hO
 have ow_s10 : Own W2 (.slice (some ⟨J2a, 0, none⟩) 2 2) [3, 2] := J07 h_ (by rfl) (by show 2 ≤ maxLen; decide)
 clear hO h_ Y38
 refine Lw ?_ (v := .slice (some ⟨K4, 0, none⟩) 32 32)
 have V9 : Sl W2 (.slice (some ⟨K4, 0, none⟩) 32 32) (lb 32 V) := (J08 (V := V) (n := 32) (off := 0) k_t2 ap0 (by decide) (by decide))
 refine LnS ?_ (z := #[(.slice (some ⟨J2a, 0, none⟩) 2 2), (.slice (some ⟨K4, 0, none⟩) 32 32)]) (t := 23) (n := 2) (c := 2) (hr := by exact J23 [(.slice (some ⟨J2a, 0, none⟩) 2 2), (.slice (some ⟨K4, 0, none⟩) 32 32)] rfl rfl (vsc ((J1o ow_s10).1) (vsc ((J1u V9).1) vs0)) Tryd.underlying112 (by kernel_rfl) (by kernel_rfl) rfl (by decide) (by decide))
 intro J6v W3 J8f hO h_
 have Q1s := bn k_pp J8f
 have Q0q := J01 (Own.lt ow_s10) J8f
 have Q1t := J01 (Sl.lt V9) J8f
 have Z2s := fbn off0 J8f
 replace k_pp := k_pp.o hO
 replace ow_s10 := Own.off ow_s10 hO f0
 replace V9 := Sl.off V9 hO f0
 replace off0 := off0.o hO
 have Z7h := h_
 clear hO h_ J8f
 have J0g : Row 23 1 W3 (.slice (some ⟨J6v, 0, none⟩) 2 2) ([(.slice (some ⟨J2a, 0, none⟩) 2 2), (.slice (some ⟨K4, 0, none⟩) 32 32)].map fun x => [x]) := Z4x Z7h (es := [(.slice (some ⟨J2a, 0, none⟩) 2 2), (.slice (some ⟨K4, 0, none⟩) 32 32)].map fun x => [x]) rfl (by simp) (by show 2 ≤ maxLen; decide)
 have J8y : Fr (Value.ownBlock (.slice (some ⟨J6v, 0, none⟩) 2 2)) w.heap.size [] := Z2q Z2s
 have J63 : Value.ownBlock (.slice (some ⟨J6v, 0, none⟩) 2 2) ≠ some gP := Z2r Q1s
 have Q43 : ∀ x, (Value.ownBlock (.slice (some ⟨J2a, 0, none⟩) 2 2)) = some x → Value.ownBlock (.slice (some ⟨J6v, 0, none⟩) 2 2) ≠ some x := fun x h1 h2 => Q0q (h1.trans h2.symm)
 have Q77 : ∀ x, (sb (.slice (some ⟨K4, 0, none⟩) 32 32) (lb 32 V)) = some x → Value.ownBlock (.slice (some ⟨J6v, 0, none⟩) 2 2) ≠ some x := fun x h1 h2 => Q1t (h1.trans h2.symm)
 clear Z7h Z2s Q1s Q0q Q1t
 refine Lv ?_
 refine J0 ?_
 go_upto_region 2 with fail
 refine wp_region_lit ?_
 refine Lv ?_
 refine Lw ?_ (v := .int .i64 4)
 refine Lw ?_ (v := .int .i64 0)
 refine J0 ?_
 go_wp2_with fail
 refine wp_loop_rounds 5 ?_
 rw [rounds_succ]
 go_upto_region 4 with fail
 refine wp_region_lit ?_
 refine Lw ?_ (v := .pointer (some ⟨gP, 0, none⟩)) (hv := by exact (J9s (ad := ⟨gP, 0, none⟩) (j := 0) (k := 16) (n := 4) (c := 4) (by decide) rfl rfl rfl Tryd.underlying135 (by kernel_rfl)).trans (by rw [Addr.add_mid]))
 refine Y9 (vs := (p4 X1 Y1 Z1 T1).toList) (by rfl) rfl rfl k_pp (J2m Y4u) (by kernel_rfl) (by kernel_rfl) ?_
 (try simp only [Act.put, mA, mB, mC])
 refine LnP ?_ (z := p4 0 0 0 0) (t := 60) (cells := p4 X1 Y1 Z1 T1)
 intro Y6f W5 V6 hO h_
 have J2k := J01 (Row.lt J0g) V6
 replace k_pp := k_pp.o hO
 replace ow_s10 := Own.off ow_s10 hO f0
 replace V9 := Sl.off V9 hO f0
 replace J0g := Row.off J0g hO f0
 replace off0 := off0.o hO
 have k_t7 := h_
 clear hO h_ V6
 refine J0 ?_
 go_upto_region 5 with fail
 refine wp_region_lit ?_
 refine L0 ?_ k_t7
 refine Lr ?_ (J6u h1.rw HU1.out W5 (J8 hG off0.ext).1)
 intro W6 hO
 replace k_pp := k_pp.o hO
 replace k_t7 := k_t7.o hO
 replace ow_s10 := Own.off ow_s10 hO f0
 replace V9 := Sl.off V9 hO f0
 replace J0g := Row.off J0g hO f0
 replace off0 := off0.o hO
 clear hO
 refine LnA ?_ (z := J2 .u8 32 (Q0 0)) (t := 22) (k := .u8) (n := 32) (f := Q0 U1)
 intro J54 W8 K5 hO h_
 have J14 := J01 (Row.lt J0g) K5
 replace k_pp := k_pp.o hO
 replace k_t7 := k_t7.o hO
 replace ow_s10 := Own.off ow_s10 hO f0
 replace V9 := Sl.off V9 hO f0
 replace J0g := Row.off J0g hO f0
 replace off0 := off0.o hO
 have k_t8 := h_
 clear hO h_ K5
 refine J0 ?_
 go_upto_region 6 with fail
 refine wp_region_lit ?_
 refine Lv ?_
 refine Lw ?_ (v := .slice (some ⟨J54, 0, none⟩) 32 32)
 have K7 : Sl W8 (.slice (some ⟨J54, 0, none⟩) 32 32) (lb 32 U1) := (J08 (V := U1) (n := 32) (off := 0) k_t8 ap0 (by decide) (by decide))
 have J24 : ∀ x, (Value.ownBlock (.slice (some ⟨J6v, 0, none⟩) 2 2)) = some x → sb (.slice (some ⟨J54, 0, none⟩) 32 32) (lb 32 U1) ≠ some x := Q2s J14
 refine LnS ?_ (z := #[(.slice (some ⟨J54, 0, none⟩) 32 32)]) (t := 23) (n := 1) (c := 1) (hr := by exact J23 [(.slice (some ⟨J54, 0, none⟩) 32 32)] rfl rfl (vsc ((J1u K7).1) vs0) Tryd.underlying112 (by kernel_rfl) (by kernel_rfl) rfl (by decide) (by decide))
 intro Y61 W9 J6b hO h_
 have J1q := J01 (Row.lt J0g) J6b
 replace k_pp := k_pp.o hO
 replace k_t7 := k_t7.o hO
 replace k_t8 := k_t8.o hO
 replace ow_s10 := Own.off ow_s10 hO f0
 replace V9 := Sl.off V9 hO f0
 replace J0g := Row.off J0g hO f0
 replace K7 := Sl.off K7 hO f0
 replace off0 := off0.o hO
 have J2h := h_
 clear hO h_ J6b
 refine J3r (es := ([(.slice (some ⟨J2a, 0, none⟩) 2 2), (.slice (some ⟨K4, 0, none⟩) 32 32)].map fun x => [x])) (cs := #[(.slice (some ⟨J54, 0, none⟩) 32 32)]) (bytes := 24) (by rfl) rfl rfl rfl J0g J2h rfl (Z1b (J1u K7).2) (by first | decide | (show 0 < 1; decide)) Tryd.underlying112 (by kernel_rfl) (by first | omega | (simp only [List.length_append, List.length_cons, List.length_nil, Z7]; omega) | (simp; done)) (by unfold maxLen; first | omega | (simp only [List.length_append, List.length_cons, List.length_nil, Z7]; omega) | (simp; done)) ?_
 (try simp only [Act.put, mA, mB, mC])
 intro Q5c W10 J0q hO K3
 replace J0q : Row 23 1 W10 Q5c (([(.slice (some ⟨J2a, 0, none⟩) 2 2), (.slice (some ⟨K4, 0, none⟩) 32 32)].map fun x => [x]) ++ [[(.slice (some ⟨J54, 0, none⟩) 32 32)]]) := J0q
 have J8z := J0y K3 J63 (J5 k_pp)
 have J90 := J0y K3 J2k (J5 k_t7)
 have J5h := J0y K3 J14 (J5 k_t8)
 have J7s := J0y K3 J1q (J5 J2h)
 have J2n := J11 K3 (J9p Q43) (Own.lt ow_s10)
 have J3c := J11 K3 (J9p Q77) (Sl.lt V9)
 have J3d := J11 K3 J24 (Sl.lt K7)
 have J7t := J1x K3 J8y off0.size
 replace k_pp := V1 k_pp hO (nmo J63)
 replace k_t7 := V1 k_t7 hO (nmo J2k)
 replace k_t8 := V1 k_t8 hO (nmo J14)
 replace J2h := V1 J2h hO (nmo J1q)
 replace ow_s10 := Own.off ow_s10 hO (fo (J9p Q43))
 replace V9 := Sl.off V9 hO (fo (J9p Q77))
 replace K7 := Sl.off K7 hO (fo J24)
 replace off0 := off0.step hO (io J8y)
 clear hO K3
 replace J0q : Row 23 1 W10 Q5c ([(.slice (some ⟨J2a, 0, none⟩) 2 2), (.slice (some ⟨K4, 0, none⟩) 32 32), (.slice (some ⟨J54, 0, none⟩) 32 32)].map fun x => [x]) := J0q
 have J0g := J0q
 clear J0q
 have J8y := J7t
 have J63 := J8z
 have J2k := J90
 have J14 := J5h
 have J1q := J7s
 have J2i := J2n
 have J3j := J3c
 have J24 := J3d
 clear J2h J1q
 refine Lv ?_
 refine J0 ?_
 go_wp2_with fail
 rw [rounds_succ]
 go_upto_region 4 with fail
 refine wp_region_lit ?_
 refine Lw ?_ (v := .pointer (some ⟨gP, 16, none⟩)) (hv := by exact (J9s (ad := ⟨gP, 0, none⟩) (j := 1) (k := 16) (n := 4) (c := 4) (by decide) rfl rfl rfl Tryd.underlying135 (by kernel_rfl)).trans (by rw [Addr.add_mid]))
 refine Y9 (vs := (p4 X2 Y2 Z2 T2).toList) (by rfl) rfl rfl k_pp (J2m Y4v) (by kernel_rfl) (by kernel_rfl) ?_
 (try simp only [Act.put, mA, mB, mC])
 clear k_t7 J2k
 refine LnP ?_ (z := p4 0 0 0 0) (t := 60) (cells := p4 X2 Y2 Z2 T2)
 intro J28 W12 V6 hO h_
 have J2k := J01 (Row.lt J0g) V6
 replace k_pp := k_pp.o hO
 replace k_t8 := k_t8.o hO
 replace ow_s10 := Own.off ow_s10 hO f0
 replace V9 := Sl.off V9 hO f0
 replace K7 := Sl.off K7 hO f0
 replace J0g := Row.off J0g hO f0
 replace off0 := off0.o hO
 have k_t7 := h_
 clear hO h_ V6
 refine J0 ?_
 go_upto_region 5 with fail
 refine wp_region_lit ?_
 refine L0 ?_ k_t7
 refine Lr ?_ (J6u h2.rw HU2.out W12 (J8 hG off0.ext).1)
 intro W13 hO
 replace k_pp := k_pp.o hO
 replace k_t8 := k_t8.o hO
 replace k_t7 := k_t7.o hO
 replace ow_s10 := Own.off ow_s10 hO f0
 replace V9 := Sl.off V9 hO f0
 replace K7 := Sl.off K7 hO f0
 replace J0g := Row.off J0g hO f0
 replace off0 := off0.o hO
 clear hO
 clear k_t8 J14
 refine LnA ?_ (z := J2 .u8 32 (Q0 0)) (t := 22) (k := .u8) (n := 32) (f := Q0 U2)
 intro J36 W15 K5 hO h_
 have J14 := J01 (Row.lt J0g) K5
 replace k_pp := k_pp.o hO
 replace k_t7 := k_t7.o hO
 replace ow_s10 := Own.off ow_s10 hO f0
 replace V9 := Sl.off V9 hO f0
 replace K7 := Sl.off K7 hO f0
 replace J0g := Row.off J0g hO f0
 replace off0 := off0.o hO
 have k_t8 := h_
 clear hO h_ K5
 refine J0 ?_
 go_upto_region 6 with fail
 refine wp_region_lit ?_
 refine Lv ?_
 refine Lw ?_ (v := .slice (some ⟨J36, 0, none⟩) 32 32)
 have J0r : Sl W15 (.slice (some ⟨J36, 0, none⟩) 32 32) (lb 32 U2) := (J08 (V := U2) (n := 32) (off := 0) k_t8 ap0 (by decide) (by decide))
 have J3k : ∀ x, (Value.ownBlock Q5c) = some x → sb (.slice (some ⟨J36, 0, none⟩) 32 32) (lb 32 U2) ≠ some x := Q2s J14
 refine LnS ?_ (z := #[(.slice (some ⟨J36, 0, none⟩) 32 32)]) (t := 23) (n := 1) (c := 1) (hr := by exact J23 [(.slice (some ⟨J36, 0, none⟩) 32 32)] rfl rfl (vsc ((J1u J0r).1) vs0) Tryd.underlying112 (by kernel_rfl) (by kernel_rfl) rfl (by decide) (by decide))
 intro Y4y W16 J6b hO h_
 have J1q := J01 (Row.lt J0g) J6b
 replace k_pp := k_pp.o hO
 replace k_t7 := k_t7.o hO
 replace k_t8 := k_t8.o hO
 replace ow_s10 := Own.off ow_s10 hO f0
 replace V9 := Sl.off V9 hO f0
 replace K7 := Sl.off K7 hO f0
 replace J0g := Row.off J0g hO f0
 replace J0r := Sl.off J0r hO f0
 replace off0 := off0.o hO
 have J2h := h_
 clear hO h_ J6b
 refine J3r (es := ([(.slice (some ⟨J2a, 0, none⟩) 2 2), (.slice (some ⟨K4, 0, none⟩) 32 32), (.slice (some ⟨J54, 0, none⟩) 32 32)].map fun x => [x])) (cs := #[(.slice (some ⟨J36, 0, none⟩) 32 32)]) (bytes := 24) (by rfl) rfl rfl rfl J0g J2h rfl (Z1b (J1u J0r).2) (by first | decide | (show 0 < 1; decide)) Tryd.underlying112 (by kernel_rfl) (by first | omega | (simp only [List.length_append, List.length_cons, List.length_nil, Z7]; omega) | (simp; done)) (by unfold maxLen; first | omega | (simp only [List.length_append, List.length_cons, List.length_nil, Z7]; omega) | (simp; done)) ?_
 (try simp only [Act.put, mA, mB, mC])
 intro Q5d W17 J0q hO K3
 replace J0q : Row 23 1 W17 Q5d (([(.slice (some ⟨J2a, 0, none⟩) 2 2), (.slice (some ⟨K4, 0, none⟩) 32 32), (.slice (some ⟨J54, 0, none⟩) 32 32)].map fun x => [x]) ++ [[(.slice (some ⟨J36, 0, none⟩) 32 32)]]) := J0q
 have J8z := J0y K3 J63 (J5 k_pp)
 have J90 := J0y K3 J2k (J5 k_t7)
 have J5h := J0y K3 J14 (J5 k_t8)
 have J7s := J0y K3 J1q (J5 J2h)
 have J2n := J11 K3 J2i (Own.lt ow_s10)
 have J3c := J11 K3 J3j (Sl.lt V9)
 have J3d := J11 K3 J24 (Sl.lt K7)
 have J5i := J11 K3 J3k (Sl.lt J0r)
 have J7t := J1x K3 J8y off0.size
 replace k_pp := V1 k_pp hO (nmo J63)
 replace k_t7 := V1 k_t7 hO (nmo J2k)
 replace k_t8 := V1 k_t8 hO (nmo J14)
 replace J2h := V1 J2h hO (nmo J1q)
 replace ow_s10 := Own.off ow_s10 hO (fo J2i)
 replace V9 := Sl.off V9 hO (fo J3j)
 replace K7 := Sl.off K7 hO (fo J24)
 replace J0r := Sl.off J0r hO (fo J3k)
 replace off0 := off0.step hO (io J8y)
 clear hO K3
 replace J0q : Row 23 1 W17 Q5d ([(.slice (some ⟨J2a, 0, none⟩) 2 2), (.slice (some ⟨K4, 0, none⟩) 32 32), (.slice (some ⟨J54, 0, none⟩) 32 32), (.slice (some ⟨J36, 0, none⟩) 32 32)].map fun x => [x]) := J0q
 have J0g := J0q
 clear J0q
 have J8y := J7t
 have J63 := J8z
 have J2k := J90
 have J14 := J5h
 have J1q := J7s
 have J2i := J2n
 have J3j := J3c
 have J24 := J3d
 have J3k := J5i
 clear J2h J1q
 refine Lv ?_
 refine J0 ?_
 go_wp2_with fail
 rw [rounds_succ]
 go_upto_region 4 with fail
 refine wp_region_lit ?_
 refine Lw ?_ (v := .pointer (some ⟨gP, 32, none⟩)) (hv := by exact (J9s (ad := ⟨gP, 0, none⟩) (j := 2) (k := 16) (n := 4) (c := 4) (by decide) rfl rfl rfl Tryd.underlying135 (by kernel_rfl)).trans (by rw [Addr.add_mid]))
 refine Y9 (vs := (p4 X3 Y3 Z3 T3).toList) (by rfl) rfl rfl k_pp (J2m Y4w) (by kernel_rfl) (by kernel_rfl) ?_
 (try simp only [Act.put, mA, mB, mC])
 clear k_t7 J2k
 refine LnP ?_ (z := p4 0 0 0 0) (t := 60) (cells := p4 X3 Y3 Z3 T3)
 intro Y62 W19 V6 hO h_
 have J2k := J01 (Row.lt J0g) V6
 replace k_pp := k_pp.o hO
 replace k_t8 := k_t8.o hO
 replace ow_s10 := Own.off ow_s10 hO f0
 replace V9 := Sl.off V9 hO f0
 replace K7 := Sl.off K7 hO f0
 replace J0r := Sl.off J0r hO f0
 replace J0g := Row.off J0g hO f0
 replace off0 := off0.o hO
 have k_t7 := h_
 clear hO h_ V6
 refine J0 ?_
 go_upto_region 5 with fail
 refine wp_region_lit ?_
 refine L0 ?_ k_t7
 refine Lr ?_ (J6u h3.rw HU3.out W19 (J8 hG off0.ext).1)
 intro W20 hO
 replace k_pp := k_pp.o hO
 replace k_t8 := k_t8.o hO
 replace k_t7 := k_t7.o hO
 replace ow_s10 := Own.off ow_s10 hO f0
 replace V9 := Sl.off V9 hO f0
 replace K7 := Sl.off K7 hO f0
 replace J0r := Sl.off J0r hO f0
 replace J0g := Row.off J0g hO f0
 replace off0 := off0.o hO
 clear hO
 clear k_t8 J14
 refine LnA ?_ (z := J2 .u8 32 (Q0 0)) (t := 22) (k := .u8) (n := 32) (f := Q0 U3)
 intro J4g W22 K5 hO h_
 have J14 := J01 (Row.lt J0g) K5
 replace k_pp := k_pp.o hO
 replace k_t7 := k_t7.o hO
 replace ow_s10 := Own.off ow_s10 hO f0
 replace V9 := Sl.off V9 hO f0
 replace K7 := Sl.off K7 hO f0
 replace J0r := Sl.off J0r hO f0
 replace J0g := Row.off J0g hO f0
 replace off0 := off0.o hO
 have k_t8 := h_
 clear hO h_ K5
 refine J0 ?_
 go_upto_region 6 with fail
 refine wp_region_lit ?_
 refine Lv ?_
 refine Lw ?_ (v := .slice (some ⟨J4g, 0, none⟩) 32 32)
 have J1w : Sl W22 (.slice (some ⟨J4g, 0, none⟩) 32 32) (lb 32 U3) := (J08 (V := U3) (n := 32) (off := 0) k_t8 ap0 (by decide) (by decide))
 have J64 : ∀ x, (Value.ownBlock Q5d) = some x → sb (.slice (some ⟨J4g, 0, none⟩) 32 32) (lb 32 U3) ≠ some x := Q2s J14
 refine LnS ?_ (z := #[(.slice (some ⟨J4g, 0, none⟩) 32 32)]) (t := 23) (n := 1) (c := 1) (hr := by exact J23 [(.slice (some ⟨J4g, 0, none⟩) 32 32)] rfl rfl (vsc ((J1u J1w).1) vs0) Tryd.underlying112 (by kernel_rfl) (by kernel_rfl) rfl (by decide) (by decide))
 intro Y4z W23 J6b hO h_
 have J1q := J01 (Row.lt J0g) J6b
 replace k_pp := k_pp.o hO
 replace k_t7 := k_t7.o hO
 replace k_t8 := k_t8.o hO
 replace ow_s10 := Own.off ow_s10 hO f0
 replace V9 := Sl.off V9 hO f0
 replace K7 := Sl.off K7 hO f0
 replace J0r := Sl.off J0r hO f0
 replace J0g := Row.off J0g hO f0
 replace J1w := Sl.off J1w hO f0
 replace off0 := off0.o hO
 have J2h := h_
 clear hO h_ J6b
 refine J3r (es := ([(.slice (some ⟨J2a, 0, none⟩) 2 2), (.slice (some ⟨K4, 0, none⟩) 32 32), (.slice (some ⟨J54, 0, none⟩) 32 32), (.slice (some ⟨J36, 0, none⟩) 32 32)].map fun x => [x])) (cs := #[(.slice (some ⟨J4g, 0, none⟩) 32 32)]) (bytes := 24) (by rfl) rfl rfl rfl J0g J2h rfl (Z1b (J1u J1w).2) (by first | decide | (show 0 < 1; decide)) Tryd.underlying112 (by kernel_rfl) (by first | omega | (simp only [List.length_append, List.length_cons, List.length_nil, Z7]; omega) | (simp; done)) (by unfold maxLen; first | omega | (simp only [List.length_append, List.length_cons, List.length_nil, Z7]; omega) | (simp; done)) ?_
 (try simp only [Act.put, mA, mB, mC])
 intro Q5e W24 J0q hO K3
 replace J0q : Row 23 1 W24 Q5e (([(.slice (some ⟨J2a, 0, none⟩) 2 2), (.slice (some ⟨K4, 0, none⟩) 32 32), (.slice (some ⟨J54, 0, none⟩) 32 32), (.slice (some ⟨J36, 0, none⟩) 32 32)].map fun x => [x]) ++ [[(.slice (some ⟨J4g, 0, none⟩) 32 32)]]) := J0q
 have J5h := J0y K3 J14 (J5 k_t8)
 have J2n := J11 K3 J2i (Own.lt ow_s10)
 have J3c := J11 K3 J3j (Sl.lt V9)
 have J3d := J11 K3 J24 (Sl.lt K7)
 have J5i := J11 K3 J3k (Sl.lt J0r)
 have J91 := J11 K3 J64 (Sl.lt J1w)
 have J7t := J1x K3 J8y off0.size
 replace k_pp := V1 k_pp hO (nmo J63)
 replace k_t7 := V1 k_t7 hO (nmo J2k)
 replace k_t8 := V1 k_t8 hO (nmo J14)
 replace J2h := V1 J2h hO (nmo J1q)
 replace ow_s10 := Own.off ow_s10 hO (fo J2i)
 replace V9 := Sl.off V9 hO (fo J3j)
 replace K7 := Sl.off K7 hO (fo J24)
 replace J0r := Sl.off J0r hO (fo J3k)
 replace J1w := Sl.off J1w hO (fo J64)
 replace off0 := off0.step hO (io J8y)
 clear hO K3
 replace J0q : Row 23 1 W24 Q5e ([(.slice (some ⟨J2a, 0, none⟩) 2 2), (.slice (some ⟨K4, 0, none⟩) 32 32), (.slice (some ⟨J54, 0, none⟩) 32 32), (.slice (some ⟨J36, 0, none⟩) 32 32), (.slice (some ⟨J4g, 0, none⟩) 32 32)].map fun x => [x]) := J0q
 have J0g := J0q
 clear J0q
 have J8y := J7t
 have J14 := J5h
 have J2i := J2n
 have J3j := J3c
 have J24 := J3d
 have J3k := J5i
 have J64 := J91
 clear J2h J1q
 refine Lv ?_
 refine J0 ?_
 go_wp2_with fail
 rw [rounds_succ]
 go_upto_region 4 with fail
 refine wp_region_lit ?_
 refine Lw ?_ (v := .pointer (some ⟨gP, 48, none⟩)) (hv := by exact (J9s (ad := ⟨gP, 0, none⟩) (j := 3) (k := 16) (n := 4) (c := 4) (by decide) rfl rfl rfl Tryd.underlying135 (by kernel_rfl)).trans (by rw [Addr.add_mid]))
 refine Y9 (vs := (p4 X4 Y4 Z4 T4).toList) (by rfl) rfl rfl k_pp (J2m Y4x) (by kernel_rfl) (by kernel_rfl) ?_
 (try simp only [Act.put, mA, mB, mC])
 clear k_t7 J2k
 refine LnP ?_ (z := p4 0 0 0 0) (t := 60) (cells := p4 X4 Y4 Z4 T4)
 intro Y63 W26 V6 hO h_
 replace k_t8 := k_t8.o hO
 replace ow_s10 := Own.off ow_s10 hO f0
 replace V9 := Sl.off V9 hO f0
 replace K7 := Sl.off K7 hO f0
 replace J0r := Sl.off J0r hO f0
 replace J1w := Sl.off J1w hO f0
 replace J0g := Row.off J0g hO f0
 replace off0 := off0.o hO
 have k_t7 := h_
 clear hO h_ V6
 refine J0 ?_
 go_upto_region 5 with fail
 refine wp_region_lit ?_
 refine L0 ?_ k_t7
 refine Lr ?_ (J6u h4.rw HU4.out W26 (J8 hG off0.ext).1)
 intro W27 hO
 replace k_t8 := k_t8.o hO
 replace ow_s10 := Own.off ow_s10 hO f0
 replace V9 := Sl.off V9 hO f0
 replace K7 := Sl.off K7 hO f0
 replace J0r := Sl.off J0r hO f0
 replace J1w := Sl.off J1w hO f0
 replace J0g := Row.off J0g hO f0
 replace off0 := off0.o hO
 clear hO
 clear k_t8 J14
 refine LnA ?_ (z := J2 .u8 32 (Q0 0)) (t := 22) (k := .u8) (n := 32) (f := Q0 U4)
 intro J6c W29 K5 hO h_
 have J14 := J01 (Row.lt J0g) K5
 replace ow_s10 := Own.off ow_s10 hO f0
 replace V9 := Sl.off V9 hO f0
 replace K7 := Sl.off K7 hO f0
 replace J0r := Sl.off J0r hO f0
 replace J1w := Sl.off J1w hO f0
 replace J0g := Row.off J0g hO f0
 replace off0 := off0.o hO
 have k_t8 := h_
 clear hO h_ K5
 refine J0 ?_
 go_upto_region 6 with fail
 refine wp_region_lit ?_
 refine Lv ?_
 refine Lw ?_ (v := .slice (some ⟨J6c, 0, none⟩) 32 32)
 have J4v : Sl W29 (.slice (some ⟨J6c, 0, none⟩) 32 32) (lb 32 U4) := (J08 (V := U4) (n := 32) (off := 0) k_t8 ap0 (by decide) (by decide))
 have J9v : ∀ x, (Value.ownBlock Q5e) = some x → sb (.slice (some ⟨J6c, 0, none⟩) 32 32) (lb 32 U4) ≠ some x := Q2s J14
 refine LnS ?_ (z := #[(.slice (some ⟨J6c, 0, none⟩) 32 32)]) (t := 23) (n := 1) (c := 1) (hr := by exact J23 [(.slice (some ⟨J6c, 0, none⟩) 32 32)] rfl rfl (vsc ((J1u J4v).1) vs0) Tryd.underlying112 (by kernel_rfl) (by kernel_rfl) rfl (by decide) (by decide))
 intro Y50 W30 J6b hO h_
 replace ow_s10 := Own.off ow_s10 hO f0
 replace V9 := Sl.off V9 hO f0
 replace K7 := Sl.off K7 hO f0
 replace J0r := Sl.off J0r hO f0
 replace J1w := Sl.off J1w hO f0
 replace J0g := Row.off J0g hO f0
 replace J4v := Sl.off J4v hO f0
 replace off0 := off0.o hO
 have J2h := h_
 clear hO h_ J6b
 refine J3r (es := ([(.slice (some ⟨J2a, 0, none⟩) 2 2), (.slice (some ⟨K4, 0, none⟩) 32 32), (.slice (some ⟨J54, 0, none⟩) 32 32), (.slice (some ⟨J36, 0, none⟩) 32 32), (.slice (some ⟨J4g, 0, none⟩) 32 32)].map fun x => [x])) (cs := #[(.slice (some ⟨J6c, 0, none⟩) 32 32)]) (bytes := 24) (by rfl) rfl rfl rfl J0g J2h rfl (Z1b (J1u J4v).2) (by first | decide | (show 0 < 1; decide)) Tryd.underlying112 (by kernel_rfl) (by first | omega | (simp only [List.length_append, List.length_cons, List.length_nil, Z7]; omega) | (simp; done)) (by unfold maxLen; first | omega | (simp only [List.length_append, List.length_cons, List.length_nil, Z7]; omega) | (simp; done)) ?_
 (try simp only [Act.put, mA, mB, mC])
 intro Q5f W31 J0q hO K3
 replace J0q : Row 23 1 W31 Q5f (([(.slice (some ⟨J2a, 0, none⟩) 2 2), (.slice (some ⟨K4, 0, none⟩) 32 32), (.slice (some ⟨J54, 0, none⟩) 32 32), (.slice (some ⟨J36, 0, none⟩) 32 32), (.slice (some ⟨J4g, 0, none⟩) 32 32)].map fun x => [x]) ++ [[(.slice (some ⟨J6c, 0, none⟩) 32 32)]]) := J0q
 have J2n := J11 K3 J2i (Own.lt ow_s10)
 have J3c := J11 K3 J3j (Sl.lt V9)
 have J3d := J11 K3 J24 (Sl.lt K7)
 have J5i := J11 K3 J3k (Sl.lt J0r)
 have J91 := J11 K3 J64 (Sl.lt J1w)
 have Q8r := J11 K3 J9v (Sl.lt J4v)
 have J7t := J1x K3 J8y off0.size
 replace ow_s10 := Own.off ow_s10 hO (fo J2i)
 replace V9 := Sl.off V9 hO (fo J3j)
 replace K7 := Sl.off K7 hO (fo J24)
 replace J0r := Sl.off J0r hO (fo J3k)
 replace J1w := Sl.off J1w hO (fo J64)
 replace J4v := Sl.off J4v hO (fo J9v)
 replace off0 := off0.step hO (io J8y)
 clear hO K3
 replace J0q : Row 23 1 W31 Q5f ([(.slice (some ⟨J2a, 0, none⟩) 2 2), (.slice (some ⟨K4, 0, none⟩) 32 32), (.slice (some ⟨J54, 0, none⟩) 32 32), (.slice (some ⟨J36, 0, none⟩) 32 32), (.slice (some ⟨J4g, 0, none⟩) 32 32), (.slice (some ⟨J6c, 0, none⟩) 32 32)].map fun x => [x]) := J0q
 have J0g := J0q
 clear J0q
 have J8y := J7t
 have J2i := J2n
 have J3j := J3c
 have J24 := J3d
 have J3k := J5i
 have J64 := J91
 have J9v := Q8r
 clear J2h J1q
 refine Lv ?_
 refine J0 ?_
 go_wp2_with fail
 rw [rounds_succ]
 go_upto_region 8 with fail
 refine wp_region_lit ?_
 refine Lv ?_
 refine LnS ?_ (z := #[.int .u8 0]) (t := 5) (n := 1) (c := 1)
 intro J6w W32 Z7i hO h_
 have Z2t : ∀ x, (Value.ownBlock Q5f) = some x → Value.ownBlock (.slice (some ⟨J6w, 0, none⟩) 1 1) ≠ some x := J6q (Row.lt J0g) Z7i
 replace ow_s10 := Own.off ow_s10 hO f0
 replace V9 := Sl.off V9 hO f0
 replace K7 := Sl.off K7 hO f0
 replace J0r := Sl.off J0r hO f0
 replace J1w := Sl.off J1w hO f0
 replace J4v := Sl.off J4v hO f0
 replace J0g := Row.off J0g hO f0
 replace off0 := off0.o hO
 have ow_s27 : Own W32 (.slice (some ⟨J6w, 0, none⟩) 1 1) [0] := J07 h_ (by rfl) (by show 1 ≤ maxLen; decide)
 clear hO h_ Z7i
 refine LnS ?_ (z := #[(.slice (some ⟨J6w, 0, none⟩) 1 1)]) (t := 23) (n := 1) (c := 1) (hr := by exact J23 [(.slice (some ⟨J6w, 0, none⟩) 1 1)] rfl rfl (vsc ((J1o ow_s27).1) vs0) Tryd.underlying112 (by kernel_rfl) (by kernel_rfl) rfl (by decide) (by decide))
 intro Y51 W33 Z23 hO h_
 replace ow_s10 := Own.off ow_s10 hO f0
 replace V9 := Sl.off V9 hO f0
 replace K7 := Sl.off K7 hO f0
 replace J0r := Sl.off J0r hO f0
 replace J1w := Sl.off J1w hO f0
 replace J4v := Sl.off J4v hO f0
 replace J0g := Row.off J0g hO f0
 replace ow_s27 := Own.off ow_s27 hO f0
 replace off0 := off0.o hO
 have Z7j := h_
 clear hO h_ Z23
 refine J3r (es := ([(.slice (some ⟨J2a, 0, none⟩) 2 2), (.slice (some ⟨K4, 0, none⟩) 32 32), (.slice (some ⟨J54, 0, none⟩) 32 32), (.slice (some ⟨J36, 0, none⟩) 32 32), (.slice (some ⟨J4g, 0, none⟩) 32 32), (.slice (some ⟨J6c, 0, none⟩) 32 32)].map fun x => [x])) (cs := #[(.slice (some ⟨J6w, 0, none⟩) 1 1)]) (bytes := 24) (by rfl) rfl rfl rfl J0g Z7j rfl (Z1b (J1o ow_s27).2) (by first | decide | (show 0 < 1; decide)) Tryd.underlying112 (by kernel_rfl) (by first | omega | (simp only [List.length_append, List.length_cons, List.length_nil, Z7]; omega) | (simp; done)) (by unfold maxLen; first | omega | (simp only [List.length_append, List.length_cons, List.length_nil, Z7]; omega) | (simp; done)) ?_
 (try simp only [Act.put, mA, mB, mC])
 intro Z2u W34 J60 hO Q0m
 replace J60 : Row 23 1 W34 Z2u (([(.slice (some ⟨J2a, 0, none⟩) 2 2), (.slice (some ⟨K4, 0, none⟩) 32 32), (.slice (some ⟨J54, 0, none⟩) 32 32), (.slice (some ⟨J36, 0, none⟩) 32 32), (.slice (some ⟨J4g, 0, none⟩) 32 32), (.slice (some ⟨J6c, 0, none⟩) 32 32)].map fun x => [x]) ++ [[(.slice (some ⟨J6w, 0, none⟩) 1 1)]]) := J60
 replace ow_s10 := Own.off ow_s10 hO (fo J2i)
 replace V9 := Sl.off V9 hO (fo J3j)
 replace K7 := Sl.off K7 hO (fo J24)
 replace J0r := Sl.off J0r hO (fo J3k)
 replace J1w := Sl.off J1w hO (fo J64)
 replace J4v := Sl.off J4v hO (fo J9v)
 replace ow_s27 := Own.off ow_s27 hO (fo Z2t)
 replace off0 := off0.step hO (io J8y)
 clear hO Q0m
 replace J60 : Row 23 1 W34 Z2u ([(.slice (some ⟨J2a, 0, none⟩) 2 2), (.slice (some ⟨K4, 0, none⟩) 32 32), (.slice (some ⟨J54, 0, none⟩) 32 32), (.slice (some ⟨J36, 0, none⟩) 32 32), (.slice (some ⟨J4g, 0, none⟩) 32 32), (.slice (some ⟨J6c, 0, none⟩) 32 32), (.slice (some ⟨J6w, 0, none⟩) 1 1)].map fun x => [x]) := J60
 have J0g := J60
 clear J60
 clear Z7j
 obtain ⟨A_, c_, ev_, hps_⟩ := Z5y (vs := [(.slice (some ⟨J2a, 0, none⟩) 2 2), (.slice (some ⟨K4, 0, none⟩) 32 32), (.slice (some ⟨J54, 0, none⟩) 32 32), (.slice (some ⟨J36, 0, none⟩) 32 32), (.slice (some ⟨J4g, 0, none⟩) 32 32), (.slice (some ⟨J6c, 0, none⟩) 32 32), (.slice (some ⟨J6w, 0, none⟩) 1 1)]) (ps := [[3, 2], lb 32 V, lb 32 U1, lb 32 U2, lb 32 U3, lb 32 U4, [0]]) J0g rfl (pvc (ow_s10.sl) (pvc V9 (pvc K7 (pvc J0r (pvc J1w (pvc J4v (pvc (ow_s27.sl) pv0))))))) (by simp)
 subst ev_
 refine Lr ?_ (J5z HU5.out [[3, 2], lb 32 V, lb 32 U1, lb 32 U2, lb 32 U3, lb 32 U4, [0]] A_ c_ (by simp only [List.flatten_cons, List.flatten_nil, List.append_nil, List.nil_append, List.append_assoc, List.cons_append]) (by first | omega | (simp only [List.length_append, List.length_cons, List.length_nil, Z7]; omega)) (by simp) W34 hps_ (J8 hG off0.ext).2.1)
 intro W35 hO
 replace off0 := off0.o hO
 clear hO
 refine LnA ?_ (z := J2 .u8 64 (Q0 0)) (t := 30) (k := .u8) (n := 64) (f := Q0 U5)
 intro Z7k W37 J5t hO h_
 have Q3i := fbn off0 J5t
 replace off0 := off0.o hO
 have k_t9 := h_
 clear hO h_ J5t
 refine J0 ?_
 go_upto_region 9 with fail
 refine wp_region_lit ?_
 refine Lv ?_
 refine Lv ?_
 refine J0 ?_
 go_wp2
 exact bodyPost_ret (v := .slice (some ⟨Z7k, 0, none⟩) 16 64) (by simp only [results, Tryd.results61]; go_simp) rfl ⟨Z7k, rfl, Nat.not_lt.1 (fun h => by cases Q3i h), off0, by rw [hX]; rw [show chH V a1 a2 a3 a4 = U5 by rw [HU5.out, HU4.out, HU3.out, HU2.out, HU1.out]; rfl]; exact k_t9⟩
end Go.Proofs.YtefpoollmbmkfaaDoor

namespace Go.Proofs.YtefpoollmbmkfaaDoor
set_option maxHeartbeats 2000000
set_option maxRecDepth 100000
open Go.RowKit
attribute [local irreducible] wpList J3w
variable {kn : Kn}
open Sc (LL J12)
attribute [local irreducible] hs
theorem Q33 (V off j : Nat) : Q0 (V / 2 ^ (8 * off)) j = Q0 V (off + j) := by
  unfold Q0
  rw [Nat.div_div_eq_div_mul, ← Nat.pow_add, show 8 * off + 8 * j = 8 * (off + j) by omega]
theorem Q78 {V m j : Nat} (hj : j < m) : Q0 (V % 2 ^ (8 * m)) j = Q0 V j := by
  unfold Q0
  have e : (2 : Nat) ^ (8 * m) = 2 ^ (8 * j) * 2 ^ (8 * m - 8 * j) := by rw [← Nat.pow_add]; congr 1; omega
  have e2 : (2 : Nat) ^ (8 * m - 8 * j) = 256 * 2 ^ (8 * m - 8 * j - 8) := by rw [show 8 * m - 8 * j = 8 + (8 * m - 8 * j - 8) by omega, Nat.pow_add, Nat.add_sub_cancel_left]
  rw [e, Nat.mod_mul_right_div_self, e2, Nat.mod_mul_right_mod]
theorem J9w {n m off V U : Nat} (hU : ∀ j, j < m → Q0 U j = Q0 V (off + j)) (h : off + m ≤ n) : ∀ i v, (J2 .u8 m (Q0 U))[i]? = some v → (J2 .u8 n (Q0 V))[off + i]? = some v := fun i v hv => by
  have hi : i < m := by have := (Array.getElem?_eq_some_iff.1 hv).1; rwa [J6] at this
  rw [J9 _ _ _ _ hi, hU i hi] at hv
  rw [J9 _ _ _ _ (by omega)]; exact hv
theorem Y0a {P j : Nat} (hj : j < 16) : Q0 (pC P) j = Q0 P (32 + j) := by
  unfold pC
  rw [show J1l = 2 ^ (8 * 16) from rfl, Q78 hj, show (2 : Nat) ^ 256 = 2 ^ (8 * 32) from rfl, Q33]
theorem Y0b (P j : Nat) : Q0 (pN P) j = Q0 P (48 + j) := by
  unfold pN
  rw [show J1l = 2 ^ (8 * 16) from rfl, Q33, show (2 : Nat) ^ 256 = 2 ^ (8 * 32) from rfl, Q33, show 32 + (16 + j) = 48 + j by omega]
theorem Z2v {P : Nat} : ∀ i v, (J2 .u8 32 (Q0 (pG P)))[i]? = some v → (J2 .u8 80 (Q0 P))[0 + i]? = some v := J9w (fun j hj => by rw [Nat.zero_add]; exact Z2h hj) (by decide)
theorem Y0c {P : Nat} : ∀ i v, (J2 .u8 16 (Q0 (pC P)))[i]? = some v → (J2 .u8 80 (Q0 P))[32 + i]? = some v := J9w (fun j hj => Y0a hj) (by decide)
theorem Z5z {P : Nat} : ∀ i v, (J2 .u8 32 (Q0 (pN P)))[i]? = some v → (J2 .u8 80 (Q0 P))[48 + i]? = some v := J9w (fun j _ => Y0b P j) (by decide)
theorem Q44 (P : Nat) : pG P < 2 ^ 256 := Z7e P
theorem Q79 (P : Nat) : pC P < J1l := Nat.mod_lt _ (by decide)
def B80 (P : Nat) : Prop := pN P < 2 ^ 256
theorem J7d {P : Program} {fn : Func} {p q r : Tmp} {ty tz t t' : TypeId} {tmps : Array Value} {w : World} {g g' : Nat} {cs ds : Array Value} {v : Value} (h : fn.results = #[.cell p ty, .cell q tz, .tmp r])
    (hp : tmps.getD p undef = .pointer (some ⟨g, 0, none⟩)) (hq : tmps.getD q undef = .pointer (some ⟨g', 0, none⟩)) (hr : tmps.getD r undef = v) (hB : Blk w g cs t) (hC : Blk w g' ds t') (hk : (P.underlying ty).map TypeDesc.isRow = some true) (hi : (P.info? ty).map (·.size) = some cs.size)
    (hk' : (P.underlying tz).map TypeDesc.isRow = some true) (hi' : (P.info? tz).map (·.size) = some ds.size) : (results fn tmps).run P w = .ok (.tuple #[.agg cs, .agg ds, v]) w := by
  cases hu : P.underlying ty with
  | none => simp [hu] at hk
  | some d =>
    cases hu' : P.underlying tz with
    | none => simp [hu'] at hk'
    | some d' =>
      have hd : d.isRow = true := by simpa [hu] using hk
      have hd' : d'.isRow = true := by simpa [hu'] using hk'
      have hp' : tmps[p]?.getD undef = .pointer (some ⟨g, 0, none⟩) := by simpa using hp
      have hq' : tmps[q]?.getD undef = .pointer (some ⟨g', 0, none⟩) := by simpa using hq
      have hr' : tmps[r]?.getD undef = v := by simpa using hr
      simp [results, h, hp', hq', hr', asAddr, run_loadVar_row w g t ty cs _ d hB hu (by cases d <;> simp_all [TypeDesc.isRow]) hi, run_loadVar_row w g' t' tz ds _ d' hC hu' (by cases d' <;> simp_all [TypeDesc.isRow]) hi']

theorem Y39 (hc : kn.c) {V : Nat} (hV : V < 2 ^ 256) (hok : dOk V = false) :
  ∀ w, GA kn w → Calls Tryd.prog 64 #[.agg (J2 .u8 32 (Q0 V))] w fun e w' => Ret (.tuple #[.agg (p4 0 0 0 0), .int .i64 15]) w w' e := by
 have dc := Q07 (kn := kn) hc (V := V) hV hok
 intro w hG
 have off0 : Off [] w w := Off.refl _ _
 go_enter Tryd.func64, Tryd.ntmps64
 go_upto_region 0 with fail
 refine wp_region_lit ?_
 refine Ln ?_ (z := J2 .u8 32 (Q0 V)) (t := 22)
 intro J0i W1 J1s hO h_
 replace off0 := off0.o hO
 have k_t1 := h_
 clear hO h_ J1s
 refine Ln ?_ (z := p4 0 0 0 0) (t := 60)
 intro J1m W2 V2 hO h_
 have V8 := fbn off0 V2
 replace k_t1 := k_t1.o hO
 replace off0 := off0.o hO
 have k_t2 := h_
 clear hO h_ V2
 refine Lw ?_ (v := .int .i64 0)
 refine J0 ?_
 go_upto_region 1 with fail
 refine wp_region_lit ?_
 refine L0A ?_ k_t1
 refine Lr ?_ (dc W2 (J8 hG off0.ext).1)
 intro W3 hO
 replace k_t2 := k_t2.o hO
 replace off0 := off0.o hO
 clear hO
 refine Lv ?_
 refine Lv ?_
 refine Lw ?_ (v := .int .i64 15)
 refine LnP ?_ (z := p4 0 0 0 0) (t := 60) (cells := p4 0 0 0 0)
 intro Y0d W5 J0k hO h_
 replace k_t2 := k_t2.o hO
 replace off0 := off0.o hO
 have k_t4 := h_
 clear hO h_ J0k
 refine Lw ?_ (v := .int .i64 15)
 refine J0 ?_
 go_upto_region 2 with fail
 refine wp_region_lit ?_
 refine Lw ?_ (v := .int .i64 15)
 refine Lw ?_ (v := .bool false)
 refine Lw ?_ (v := .bool false)
 refine Ls ?_
 refine Ls ?_
 refine Ls ?_
 refine Ls ?_
 refine Lw ?_ (v := .bool false)
 refine J0 ?_
 go_upto_region 4 with fail
 refine wp_region_lit ?_
 refine L0 ?_ k_t4
 refine Lw ?_ (v := .int .i64 15)
 refine Lp ?_ k_t2 (cells := p4 0 0 0 0)
 intro W6 hO h_
 replace k_t2 : Blk W6 J1m (p4 0 0 0 0) 60 := h_
 clear h_
 replace off0 := off0.p hO V8
 clear hO
 refine Lw ?_ (v := .int .i64 15)
 refine J0 ?_
 go_wp2
 exact bodyPost_ret (V5 rfl rfl rfl k_t2 (by kernel_rfl) (by kernel_rfl)) rfl ⟨rfl, off0.ext⟩
theorem Y3a (hc : kn.c) {V : Nat} (hV : V < 2 ^ 256) (hok : dOk V = true) (h8 : pm (dPt V) 8 = p0) :
  ∃ X Y T, RN X Y 1 T (dPt V) ∧ ∀ w, GA kn w → Calls Tryd.prog 64 #[.agg (J2 .u8 32 (Q0 V))] w fun e w' => Ret (.tuple #[.agg (p4 X Y 1 T), .int .i64 15]) w w' e := by
 obtain ⟨dx, dt, dr, dc⟩ := J6m hc (V := V) hV hok
 obtain ⟨y0, hy0⟩ := V3 (V % 2 ^ 255)
 rw [← hy0] at dr dc
 clear hy0
 obtain ⟨x1, y2, z3, t4, r5, c6⟩ := J5c (kn := kn) dr.rw
 have cs_ := J81 (kn := kn) r5.rw J76
 rw [decide_eq_true h8] at cs_
 refine ⟨dx, y0, dt, dr, fun w hG => ?_⟩
 have off0 : Off [] w w := Off.refl _ _
 go_enter Tryd.func64, Tryd.ntmps64
 go_upto_region 0 with fail
 refine wp_region_lit ?_
 refine Ln ?_ (z := J2 .u8 32 (Q0 V)) (t := 22)
 intro J0i W1 J1s hO h_
 replace off0 := off0.o hO
 have k_t1 := h_
 clear hO h_ J1s
 refine Ln ?_ (z := p4 0 0 0 0) (t := 60)
 intro J1m W2 V2 hO h_
 have V8 := fbn off0 V2
 replace k_t1 := k_t1.o hO
 replace off0 := off0.o hO
 have k_t2 := h_
 clear hO h_ V2
 refine Lw ?_ (v := .int .i64 0)
 refine J0 ?_
 go_upto_region 1 with fail
 refine wp_region_lit ?_
 refine L0A ?_ k_t1
 refine Lr ?_ (dc W2 (J8 hG off0.ext).1)
 intro W3 hO
 replace k_t2 := k_t2.o hO
 replace off0 := off0.o hO
 clear hO
 refine Lv ?_
 refine Lv ?_
 refine Lw ?_ (v := .int .i64 0)
 refine LnP ?_ (z := p4 0 0 0 0) (t := 60) (cells := p4 dx y0 1 dt)
 intro Y0d W5 J0k hO h_
 replace k_t2 := k_t2.o hO
 replace off0 := off0.o hO
 have k_t4 := h_
 clear hO h_ J0k
 refine Lw ?_ (v := .int .i64 0)
 refine J0 ?_
 go_upto_region 2 with fail
 refine wp_region_lit ?_
 refine Lw ?_ (v := .int .i64 0)
 refine Lw ?_ (v := .bool true)
 refine Lw ?_ (v := .bool true)
 refine L0 ?_ k_t4
 refine Lr ?_ (c6 W5 (J8 hG off0.ext).1)
 intro W6 hO
 replace k_t2 := k_t2.o hO
 replace k_t4 := k_t4.o hO
 replace off0 := off0.o hO
 clear hO
 refine Lw ?_ (v := .agg (p4 0 0 0 0)) (hv := by kernel_rfl)
 refine Lr ?_ (cs_ W6 (J8 hG off0.ext).1)
 intro W7 hO
 replace k_t2 := k_t2.o hO
 replace k_t4 := k_t4.o hO
 replace off0 := off0.o hO
 clear hO
 refine Lw ?_ (v := .bool true)
 refine J0 ?_
 go_upto_region 4 with fail
 refine wp_region_lit ?_
 refine L0 ?_ k_t4
 refine Lw ?_ (v := .int .i64 15)
 refine Lp ?_ k_t2 (cells := p4 dx y0 1 dt)
 intro W8 hO h_
 replace k_t2 : Blk W8 J1m (p4 dx y0 1 dt) 60 := h_
 clear h_
 replace off0 := off0.p hO V8
 clear hO
 refine Lw ?_ (v := .int .i64 15)
 refine J0 ?_
 go_wp2
 exact bodyPost_ret (V5 rfl rfl rfl k_t2 (by kernel_rfl) (by kernel_rfl)) rfl ⟨rfl, off0.ext⟩
theorem Q45 (hc : kn.c) {V : Nat} (hV : V < 2 ^ 256) (hok : dOk V = true) (h8 : ¬ pm (dPt V) 8 = p0) :
  ∃ X Y T, RN X Y 1 T (dPt V) ∧ ∀ w, GA kn w → Calls Tryd.prog 64 #[.agg (J2 .u8 32 (Q0 V))] w fun e w' => Ret (.tuple #[.agg (p4 X Y 1 T), .int .i64 0]) w w' e := by
 obtain ⟨dx, dt, dr, dc⟩ := J6m hc (V := V) hV hok
 obtain ⟨y0, hy0⟩ := V3 (V % 2 ^ 255)
 rw [← hy0] at dr dc
 clear hy0
 obtain ⟨x1, y2, z3, t4, r5, c6⟩ := J5c (kn := kn) dr.rw
 have cs_ := J81 (kn := kn) r5.rw J76
 rw [decide_eq_false h8] at cs_
 refine ⟨dx, y0, dt, dr, fun w hG => ?_⟩
 have off0 : Off [] w w := Off.refl _ _
 go_enter Tryd.func64, Tryd.ntmps64
 go_upto_region 0 with fail
 refine wp_region_lit ?_
 refine Ln ?_ (z := J2 .u8 32 (Q0 V)) (t := 22)
 intro J0i W1 J1s hO h_
 replace off0 := off0.o hO
 have k_t1 := h_
 clear hO h_ J1s
 refine Ln ?_ (z := p4 0 0 0 0) (t := 60)
 intro J1m W2 V2 hO h_
 have V8 := fbn off0 V2
 replace k_t1 := k_t1.o hO
 replace off0 := off0.o hO
 have k_t2 := h_
 clear hO h_ V2
 refine Lw ?_ (v := .int .i64 0)
 refine J0 ?_
 go_upto_region 1 with fail
 refine wp_region_lit ?_
 refine L0A ?_ k_t1
 refine Lr ?_ (dc W2 (J8 hG off0.ext).1)
 intro W3 hO
 replace k_t2 := k_t2.o hO
 replace off0 := off0.o hO
 clear hO
 refine Lv ?_
 refine Lv ?_
 refine Lw ?_ (v := .int .i64 0)
 refine LnP ?_ (z := p4 0 0 0 0) (t := 60) (cells := p4 dx y0 1 dt)
 intro Y0d W5 J0k hO h_
 replace k_t2 := k_t2.o hO
 replace off0 := off0.o hO
 have k_t4 := h_
 clear hO h_ J0k
 refine Lw ?_ (v := .int .i64 0)
 refine J0 ?_
 go_upto_region 2 with fail
 refine wp_region_lit ?_
 refine Lw ?_ (v := .int .i64 0)
 refine Lw ?_ (v := .bool true)
 refine Lw ?_ (v := .bool true)
 refine L0 ?_ k_t4
 refine Lr ?_ (c6 W5 (J8 hG off0.ext).1)
 intro W6 hO
 replace k_t2 := k_t2.o hO
 replace k_t4 := k_t4.o hO
 replace off0 := off0.o hO
 clear hO
 refine Lw ?_ (v := .agg (p4 0 0 0 0)) (hv := by kernel_rfl)
 refine Lr ?_ (cs_ W6 (J8 hG off0.ext).1)
 intro W7 hO
 replace k_t2 := k_t2.o hO
 replace k_t4 := k_t4.o hO
 replace off0 := off0.o hO
 clear hO
 refine Lw ?_ (v := .bool false)
 refine J0 ?_
 go_upto_region 4 with fail
 refine wp_region_lit ?_
 refine L0 ?_ k_t4
 refine Lw ?_ (v := .int .i64 0)
 refine Lp ?_ k_t2 (cells := p4 dx y0 1 dt)
 intro W8 hO h_
 replace k_t2 : Blk W8 J1m (p4 dx y0 1 dt) 60 := h_
 clear h_
 replace off0 := off0.p hO V8
 clear hO
 refine Lw ?_ (v := .int .i64 0)
 refine J0 ?_
 go_wp2
 exact bodyPost_ret (V5 rfl rfl rfl k_t2 (by kernel_rfl) (by kernel_rfl)) rfl ⟨rfl, off0.ext⟩
theorem Z60 (hc : kn.c) {P : Nat} (hP : B80 P) (hok : dOk (pG P) = false) (h1 : LL ≤ pN P) :
  ∀ w, GA kn w → Calls Tryd.prog 65 #[.agg (J2 .u8 80 (Q0 P))] w fun e w' => Ret (.tuple #[.agg (p4 0 0 0 0), .agg (c4 0), .int .i64 17]) w w' e := by
 have dc := Q07 (kn := kn) hc (V := (pG P)) (Q44 P) hok
 intro w hG
 have off0 : Off [] w w := Off.refl _ _
 go_enter Tryd.func65, Tryd.ntmps65
 go_upto_region 0 with fail
 refine wp_region_lit ?_
 refine Ln ?_ (z := J2 .u8 80 (Q0 P)) (t := 45)
 intro J0i W1 J1s hO h_
 replace off0 := off0.o hO
 have k_t1 := h_
 clear hO h_ J1s
 refine Ln ?_ (z := p4 0 0 0 0) (t := 60)
 intro J1m W2 V2 hO h_
 have V8 := fbn off0 V2
 replace k_t1 := k_t1.o hO
 replace off0 := off0.o hO
 have k_t2 := h_
 clear hO h_ V2
 refine Ln ?_ (z := c4 0) (t := 42)
 intro J8l W3 J03 hO h_
 have nq_t2_t3 := bn k_t2 J03
 have J34 := fbn off0 J03
 replace k_t1 := k_t1.o hO
 replace k_t2 := k_t2.o hO
 replace off0 := off0.o hO
 have k_t3 := h_
 clear hO h_ J03
 refine Lw ?_ (v := .int .i64 0)
 refine J0 ?_
 go_upto_region 1 with fail
 refine wp_region_lit ?_
 refine Lw ?_ (v := .slice (some ⟨J0i, 0, none⟩) 32 80) (hv := by first | rfl | (go_simp; done) | (go_simp; with_reducible rfl))
 refine Lw ?_ (v := .pointer (some ⟨J0i, 0, none⟩)) (hv := by first | rfl | (go_simp; done) | (go_simp; with_reducible rfl))
 refine Y9 (vs := (J2 .u8 32 (Q0 (pG P))).toList) (by rfl) rfl rfl k_t1 (J2m Z2v) (by kernel_rfl) (by kernel_rfl) ?_
 (try simp only [Act.put, mA, mB, mC])
 refine Lr ?_ (dc W3 (J8 hG off0.ext).1)
 intro W4 hO
 replace k_t1 := k_t1.o hO
 replace k_t2 := k_t2.o hO
 replace k_t3 := k_t3.o hO
 replace off0 := off0.o hO
 clear hO
 refine Lv ?_
 refine Lv ?_
 refine Lw ?_ (v := .int .i64 15)
 refine LnP ?_ (z := p4 0 0 0 0) (t := 60) (cells := p4 0 0 0 0)
 intro Q12 W6 J05 hO h_
 replace k_t1 := k_t1.o hO
 replace k_t2 := k_t2.o hO
 replace k_t3 := k_t3.o hO
 replace off0 := off0.o hO
 clear hO h_ J05
 refine Lw ?_ (v := .int .i64 15)
 refine J0 ?_
 go_upto_region 2 with fail
 refine wp_region_lit ?_
 refine Lw ?_ (v := .slice (some ⟨J0i, 48, none⟩) 32 32) (hv := by first | rfl | (go_simp; done) | (go_simp; with_reducible rfl))
 refine Lw ?_ (v := .pointer (some ⟨J0i, 48, none⟩)) (hv := by first | rfl | (go_simp; done) | (go_simp; with_reducible rfl))
 refine Y9 (vs := (J2 .u8 32 (Q0 (pN P))).toList) (by rfl) rfl rfl k_t1 (J2m Z5z) (by kernel_rfl) (by kernel_rfl) ?_
 (try simp only [Act.put, mA, mB, mC])
 refine Lr ?_ (Q3y h1 hP W6 (J8 hG off0.ext).2.2.1)
 intro W7 hO
 replace k_t2 := k_t2.o hO
 replace k_t3 := k_t3.o hO
 replace off0 := off0.o hO
 clear hO
 refine Lv ?_
 refine Lv ?_
 refine Lw ?_ (v := .bool false)
 refine LnP ?_ (z := c4 0) (t := 42) (cells := c4 0)
 intro J62 W9 V6 hO h_
 replace k_t2 := k_t2.o hO
 replace k_t3 := k_t3.o hO
 replace off0 := off0.o hO
 clear hO h_ V6
 refine Lw ?_ (v := .bool false)
 refine J0 ?_
 go_upto_region 4 with fail
 refine wp_region_lit ?_
 refine Lw ?_ (v := .agg (p4 0 0 0 0)) (hv := by kernel_rfl)
 refine Lw ?_ (v := .agg (c4 0)) (hv := by kernel_rfl)
 refine Lp ?_ k_t2 (cells := p4 0 0 0 0)
 intro W10 hO h_
 replace k_t2 : Blk W10 J1m (p4 0 0 0 0) 60 := h_
 clear h_
 replace k_t3 := k_t3.p hO nq_t2_t3.symm
 replace off0 := off0.p hO V8
 clear hO
 refine Lp ?_ k_t3 (cells := c4 0)
 intro W11 hO h_
 replace k_t3 : Blk W11 J8l (c4 0) 42 := h_
 clear h_
 replace k_t2 := k_t2.p hO nq_t2_t3
 replace off0 := off0.p hO J34
 clear hO
 refine Lw ?_ (v := .int .i64 17)
 refine J0 ?_
 go_wp2
 exact bodyPost_ret (J7d rfl rfl rfl rfl k_t2 k_t3 (by kernel_rfl) (by kernel_rfl) (by kernel_rfl) (by kernel_rfl)) rfl ⟨rfl, off0.ext⟩
theorem Z61 (hc : kn.c) {P : Nat} (hP : B80 P) (hok : dOk (pG P) = false) (h1 : pN P < LL) :
  ∀ w, GA kn w → Calls Tryd.prog 65 #[.agg (J2 .u8 80 (Q0 P))] w fun e w' => Ret (.tuple #[.agg (p4 0 0 0 0), .agg (c4 0), .int .i64 17]) w w' e := by
 have dc := Q07 (kn := kn) hc (V := (pG P)) (Q44 P) hok
 intro w hG
 have off0 : Off [] w w := Off.refl _ _
 go_enter Tryd.func65, Tryd.ntmps65
 go_upto_region 0 with fail
 refine wp_region_lit ?_
 refine Ln ?_ (z := J2 .u8 80 (Q0 P)) (t := 45)
 intro J0i W1 J1s hO h_
 replace off0 := off0.o hO
 have k_t1 := h_
 clear hO h_ J1s
 refine Ln ?_ (z := p4 0 0 0 0) (t := 60)
 intro J1m W2 V2 hO h_
 have V8 := fbn off0 V2
 replace k_t1 := k_t1.o hO
 replace off0 := off0.o hO
 have k_t2 := h_
 clear hO h_ V2
 refine Ln ?_ (z := c4 0) (t := 42)
 intro J8l W3 J03 hO h_
 have nq_t2_t3 := bn k_t2 J03
 have J34 := fbn off0 J03
 replace k_t1 := k_t1.o hO
 replace k_t2 := k_t2.o hO
 replace off0 := off0.o hO
 have k_t3 := h_
 clear hO h_ J03
 refine Lw ?_ (v := .int .i64 0)
 refine J0 ?_
 go_upto_region 1 with fail
 refine wp_region_lit ?_
 refine Lw ?_ (v := .slice (some ⟨J0i, 0, none⟩) 32 80) (hv := by first | rfl | (go_simp; done) | (go_simp; with_reducible rfl))
 refine Lw ?_ (v := .pointer (some ⟨J0i, 0, none⟩)) (hv := by first | rfl | (go_simp; done) | (go_simp; with_reducible rfl))
 refine Y9 (vs := (J2 .u8 32 (Q0 (pG P))).toList) (by rfl) rfl rfl k_t1 (J2m Z2v) (by kernel_rfl) (by kernel_rfl) ?_
 (try simp only [Act.put, mA, mB, mC])
 refine Lr ?_ (dc W3 (J8 hG off0.ext).1)
 intro W4 hO
 replace k_t1 := k_t1.o hO
 replace k_t2 := k_t2.o hO
 replace k_t3 := k_t3.o hO
 replace off0 := off0.o hO
 clear hO
 refine Lv ?_
 refine Lv ?_
 refine Lw ?_ (v := .int .i64 15)
 refine LnP ?_ (z := p4 0 0 0 0) (t := 60) (cells := p4 0 0 0 0)
 intro Q12 W6 J05 hO h_
 replace k_t1 := k_t1.o hO
 replace k_t2 := k_t2.o hO
 replace k_t3 := k_t3.o hO
 replace off0 := off0.o hO
 clear hO h_ J05
 refine Lw ?_ (v := .int .i64 15)
 refine J0 ?_
 go_upto_region 2 with fail
 refine wp_region_lit ?_
 refine Lw ?_ (v := .slice (some ⟨J0i, 48, none⟩) 32 32) (hv := by first | rfl | (go_simp; done) | (go_simp; with_reducible rfl))
 refine Lw ?_ (v := .pointer (some ⟨J0i, 48, none⟩)) (hv := by first | rfl | (go_simp; done) | (go_simp; with_reducible rfl))
 refine Y9 (vs := (J2 .u8 32 (Q0 (pN P))).toList) (by rfl) rfl rfl k_t1 (J2m Z5z) (by kernel_rfl) (by kernel_rfl) ?_
 (try simp only [Act.put, mA, mB, mC])
 refine Lr ?_ (Q3x h1 W6 (J8 hG off0.ext).2.2.1)
 intro W7 hO
 replace k_t2 := k_t2.o hO
 replace k_t3 := k_t3.o hO
 replace off0 := off0.o hO
 clear hO
 refine Lv ?_
 refine Lv ?_
 refine Lw ?_ (v := .bool true)
 refine LnP ?_ (z := c4 0) (t := 42) (cells := c4 (pN P))
 intro J62 W9 V6 hO h_
 replace k_t2 := k_t2.o hO
 replace k_t3 := k_t3.o hO
 replace off0 := off0.o hO
 clear hO h_ V6
 refine Lw ?_ (v := .bool true)
 refine J0 ?_
 go_upto_region 4 with fail
 refine wp_region_lit ?_
 refine Lw ?_ (v := .agg (p4 0 0 0 0)) (hv := by kernel_rfl)
 refine Lw ?_ (v := .agg (c4 0)) (hv := by kernel_rfl)
 refine Lp ?_ k_t2 (cells := p4 0 0 0 0)
 intro W10 hO h_
 replace k_t2 : Blk W10 J1m (p4 0 0 0 0) 60 := h_
 clear h_
 replace k_t3 := k_t3.p hO nq_t2_t3.symm
 replace off0 := off0.p hO V8
 clear hO
 refine Lp ?_ k_t3 (cells := c4 0)
 intro W11 hO h_
 replace k_t3 : Blk W11 J8l (c4 0) 42 := h_
 clear h_
 replace k_t2 := k_t2.p hO nq_t2_t3
 replace off0 := off0.p hO J34
 clear hO
 refine Lw ?_ (v := .int .i64 17)
 refine J0 ?_
 go_wp2
 exact bodyPost_ret (J7d rfl rfl rfl rfl k_t2 k_t3 (by kernel_rfl) (by kernel_rfl) (by kernel_rfl) (by kernel_rfl)) rfl ⟨rfl, off0.ext⟩
theorem Z62 (hc : kn.c) {P : Nat} (hP : B80 P) (hok : dOk (pG P) = true) (h1 : LL ≤ pN P) :
  ∀ w, GA kn w → Calls Tryd.prog 65 #[.agg (J2 .u8 80 (Q0 P))] w fun e w' => Ret (.tuple #[.agg (p4 0 0 0 0), .agg (c4 0), .int .i64 17]) w w' e := by
 obtain ⟨dx, dt, dr, dc⟩ := J6m hc (V := (pG P)) (Q44 P) hok
 obtain ⟨y0, hy0⟩ := V3 ((pG P) % 2 ^ 255)
 rw [← hy0] at dr dc
 clear hy0
 intro w hG
 have off0 : Off [] w w := Off.refl _ _
 go_enter Tryd.func65, Tryd.ntmps65
 go_upto_region 0 with fail
 refine wp_region_lit ?_
 refine Ln ?_ (z := J2 .u8 80 (Q0 P)) (t := 45)
 intro J0i W1 J1s hO h_
 replace off0 := off0.o hO
 have k_t1 := h_
 clear hO h_ J1s
 refine Ln ?_ (z := p4 0 0 0 0) (t := 60)
 intro J1m W2 V2 hO h_
 have V8 := fbn off0 V2
 replace k_t1 := k_t1.o hO
 replace off0 := off0.o hO
 have k_t2 := h_
 clear hO h_ V2
 refine Ln ?_ (z := c4 0) (t := 42)
 intro J8l W3 J03 hO h_
 have nq_t2_t3 := bn k_t2 J03
 have J34 := fbn off0 J03
 replace k_t1 := k_t1.o hO
 replace k_t2 := k_t2.o hO
 replace off0 := off0.o hO
 have k_t3 := h_
 clear hO h_ J03
 refine Lw ?_ (v := .int .i64 0)
 refine J0 ?_
 go_upto_region 1 with fail
 refine wp_region_lit ?_
 refine Lw ?_ (v := .slice (some ⟨J0i, 0, none⟩) 32 80) (hv := by first | rfl | (go_simp; done) | (go_simp; with_reducible rfl))
 refine Lw ?_ (v := .pointer (some ⟨J0i, 0, none⟩)) (hv := by first | rfl | (go_simp; done) | (go_simp; with_reducible rfl))
 refine Y9 (vs := (J2 .u8 32 (Q0 (pG P))).toList) (by rfl) rfl rfl k_t1 (J2m Z2v) (by kernel_rfl) (by kernel_rfl) ?_
 (try simp only [Act.put, mA, mB, mC])
 refine Lr ?_ (dc W3 (J8 hG off0.ext).1)
 intro W4 hO
 replace k_t1 := k_t1.o hO
 replace k_t2 := k_t2.o hO
 replace k_t3 := k_t3.o hO
 replace off0 := off0.o hO
 clear hO
 refine Lv ?_
 refine Lv ?_
 refine Lw ?_ (v := .int .i64 0)
 refine LnP ?_ (z := p4 0 0 0 0) (t := 60) (cells := p4 dx y0 1 dt)
 intro Q12 W6 J05 hO h_
 replace k_t1 := k_t1.o hO
 replace k_t2 := k_t2.o hO
 replace k_t3 := k_t3.o hO
 replace off0 := off0.o hO
 clear hO h_ J05
 refine Lw ?_ (v := .int .i64 0)
 refine J0 ?_
 go_upto_region 2 with fail
 refine wp_region_lit ?_
 refine Lw ?_ (v := .slice (some ⟨J0i, 48, none⟩) 32 32) (hv := by first | rfl | (go_simp; done) | (go_simp; with_reducible rfl))
 refine Lw ?_ (v := .pointer (some ⟨J0i, 48, none⟩)) (hv := by first | rfl | (go_simp; done) | (go_simp; with_reducible rfl))
 refine Y9 (vs := (J2 .u8 32 (Q0 (pN P))).toList) (by rfl) rfl rfl k_t1 (J2m Z5z) (by kernel_rfl) (by kernel_rfl) ?_
 (try simp only [Act.put, mA, mB, mC])
 refine Lr ?_ (Q3y h1 hP W6 (J8 hG off0.ext).2.2.1)
 intro W7 hO
 replace k_t2 := k_t2.o hO
 replace k_t3 := k_t3.o hO
 replace off0 := off0.o hO
 clear hO
 refine Lv ?_
 refine Lv ?_
 refine Lw ?_ (v := .bool false)
 refine LnP ?_ (z := c4 0) (t := 42) (cells := c4 0)
 intro J62 W9 V6 hO h_
 replace k_t2 := k_t2.o hO
 replace k_t3 := k_t3.o hO
 replace off0 := off0.o hO
 clear hO h_ V6
 refine Lw ?_ (v := .bool false)
 refine J0 ?_
 go_upto_region 4 with fail
 refine wp_region_lit ?_
 refine Lw ?_ (v := .agg (p4 0 0 0 0)) (hv := by kernel_rfl)
 refine Lw ?_ (v := .agg (c4 0)) (hv := by kernel_rfl)
 refine Lp ?_ k_t2 (cells := p4 0 0 0 0)
 intro W10 hO h_
 replace k_t2 : Blk W10 J1m (p4 0 0 0 0) 60 := h_
 clear h_
 replace k_t3 := k_t3.p hO nq_t2_t3.symm
 replace off0 := off0.p hO V8
 clear hO
 refine Lp ?_ k_t3 (cells := c4 0)
 intro W11 hO h_
 replace k_t3 : Blk W11 J8l (c4 0) 42 := h_
 clear h_
 replace k_t2 := k_t2.p hO nq_t2_t3
 replace off0 := off0.p hO J34
 clear hO
 refine Lw ?_ (v := .int .i64 17)
 refine J0 ?_
 go_wp2
 exact bodyPost_ret (J7d rfl rfl rfl rfl k_t2 k_t3 (by kernel_rfl) (by kernel_rfl) (by kernel_rfl) (by kernel_rfl)) rfl ⟨rfl, off0.ext⟩
theorem Q7a (hc : kn.c) {P : Nat} (hP : B80 P) (hok : dOk (pG P) = true) (h1 : pN P < LL) :
  ∃ X Y T, RN X Y 1 T (dPt (pG P)) ∧ ∀ w, GA kn w → Calls Tryd.prog 65 #[.agg (J2 .u8 80 (Q0 P))] w fun e w' => Ret (.tuple #[.agg (p4 X Y 1 T), .agg (c4 (pN P)), .int .i64 0]) w w' e := by
 obtain ⟨dx, dt, dr, dc⟩ := J6m hc (V := (pG P)) (Q44 P) hok
 obtain ⟨y0, hy0⟩ := V3 ((pG P) % 2 ^ 255)
 rw [← hy0] at dr dc
 clear hy0
 refine ⟨dx, y0, dt, dr, fun w hG => ?_⟩
 have off0 : Off [] w w := Off.refl _ _
 go_enter Tryd.func65, Tryd.ntmps65
 go_upto_region 0 with fail
 refine wp_region_lit ?_
 refine Ln ?_ (z := J2 .u8 80 (Q0 P)) (t := 45)
 intro J0i W1 J1s hO h_
 replace off0 := off0.o hO
 have k_t1 := h_
 clear hO h_ J1s
 refine Ln ?_ (z := p4 0 0 0 0) (t := 60)
 intro J1m W2 V2 hO h_
 have V8 := fbn off0 V2
 replace k_t1 := k_t1.o hO
 replace off0 := off0.o hO
 have k_t2 := h_
 clear hO h_ V2
 refine Ln ?_ (z := c4 0) (t := 42)
 intro J8l W3 J03 hO h_
 have nq_t2_t3 := bn k_t2 J03
 have J34 := fbn off0 J03
 replace k_t1 := k_t1.o hO
 replace k_t2 := k_t2.o hO
 replace off0 := off0.o hO
 have k_t3 := h_
 clear hO h_ J03
 refine Lw ?_ (v := .int .i64 0)
 refine J0 ?_
 go_upto_region 1 with fail
 refine wp_region_lit ?_
 refine Lw ?_ (v := .slice (some ⟨J0i, 0, none⟩) 32 80) (hv := by first | rfl | (go_simp; done) | (go_simp; with_reducible rfl))
 refine Lw ?_ (v := .pointer (some ⟨J0i, 0, none⟩)) (hv := by first | rfl | (go_simp; done) | (go_simp; with_reducible rfl))
 refine Y9 (vs := (J2 .u8 32 (Q0 (pG P))).toList) (by rfl) rfl rfl k_t1 (J2m Z2v) (by kernel_rfl) (by kernel_rfl) ?_
 (try simp only [Act.put, mA, mB, mC])
 refine Lr ?_ (dc W3 (J8 hG off0.ext).1)
 intro W4 hO
 replace k_t1 := k_t1.o hO
 replace k_t2 := k_t2.o hO
 replace k_t3 := k_t3.o hO
 replace off0 := off0.o hO
 clear hO
 refine Lv ?_
 refine Lv ?_
 refine Lw ?_ (v := .int .i64 0)
 refine LnP ?_ (z := p4 0 0 0 0) (t := 60) (cells := p4 dx y0 1 dt)
 intro Q12 W6 J05 hO h_
 have nq_t2_t5 := bn k_t2 J05
 have nq_t3_t5 := bn k_t3 J05
 replace k_t1 := k_t1.o hO
 replace k_t2 := k_t2.o hO
 replace k_t3 := k_t3.o hO
 replace off0 := off0.o hO
 have k_t5 := h_
 clear hO h_ J05
 refine Lw ?_ (v := .int .i64 0)
 refine J0 ?_
 go_upto_region 2 with fail
 refine wp_region_lit ?_
 refine Lw ?_ (v := .slice (some ⟨J0i, 48, none⟩) 32 32) (hv := by first | rfl | (go_simp; done) | (go_simp; with_reducible rfl))
 refine Lw ?_ (v := .pointer (some ⟨J0i, 48, none⟩)) (hv := by first | rfl | (go_simp; done) | (go_simp; with_reducible rfl))
 refine Y9 (vs := (J2 .u8 32 (Q0 (pN P))).toList) (by rfl) rfl rfl k_t1 (J2m Z5z) (by kernel_rfl) (by kernel_rfl) ?_
 (try simp only [Act.put, mA, mB, mC])
 refine Lr ?_ (Q3x h1 W6 (J8 hG off0.ext).2.2.1)
 intro W7 hO
 replace k_t2 := k_t2.o hO
 replace k_t3 := k_t3.o hO
 replace k_t5 := k_t5.o hO
 replace off0 := off0.o hO
 clear hO
 refine Lv ?_
 refine Lv ?_
 refine Lw ?_ (v := .bool true)
 refine LnP ?_ (z := c4 0) (t := 42) (cells := c4 (pN P))
 intro J62 W9 V6 hO h_
 have nq_t2_t7 := bn k_t2 V6
 have nq_t3_t7 := bn k_t3 V6
 replace k_t2 := k_t2.o hO
 replace k_t3 := k_t3.o hO
 replace k_t5 := k_t5.o hO
 replace off0 := off0.o hO
 have k_t7 := h_
 clear hO h_ V6
 refine Lw ?_ (v := .bool true)
 refine J0 ?_
 go_upto_region 5 with fail
 refine J22 (.q 0 (.q 1 (.e 2 (.e 3 (.q 4 .z))))) (fun W => (Blk W Q12 (p4 dx y0 1 dt) 60) ∧ (Blk W J62 (c4 (pN P)) 42)) (by kernel_rfl) (by kernel_rfl) ?_
 intro W10 hO
 replace k_t2 := k_t2.o hO
 replace k_t3 := k_t3.o hO
 replace k_t5 := k_t5.o hO
 replace k_t7 := k_t7.o hO
 replace off0 := off0.o hO
 clear hO
 refine ⟨⟨k_t5, k_t7⟩, ?_⟩
 refine J0h (v := .agg (p4 dx y0 1 dt)) rfl (by rfl) (fun W hS => by exact (J0u rfl rfl (hS.1) (by kernel_rfl) (by kernel_rfl))) ?_
 (try simp only [Act.put, mA, mB, mC])
 refine J0h (v := .agg (c4 (pN P))) rfl (by rfl) (fun W hS => by exact (J0u rfl rfl (hS.2) (by kernel_rfl) (by kernel_rfl))) ?_
 (try simp only [Act.put, mA, mB, mC])
 refine J1v rfl ?_
 refine Lp ?_ k_t2 (cells := p4 dx y0 1 dt)
 intro W11 hO h_
 replace k_t2 : Blk W11 J1m (p4 dx y0 1 dt) 60 := h_
 clear h_
 replace k_t3 := k_t3.p hO nq_t2_t3.symm
 replace k_t5 := k_t5.p hO nq_t2_t5.symm
 replace k_t7 := k_t7.p hO nq_t2_t7.symm
 replace off0 := off0.p hO V8
 clear hO
 refine J1e (fun W => (Blk W Q12 (p4 dx y0 1 dt) 60) ∧ (Blk W J62 (c4 (pN P)) 42)) (fun W hS => ⟨hS.1, hS.2⟩) ⟨k_t5, k_t7⟩ ?_
 refine J1v rfl ?_
 refine Lp ?_ k_t3 (cells := c4 (pN P))
 intro W12 hO h_
 replace k_t3 : Blk W12 J8l (c4 (pN P)) 42 := h_
 clear h_
 replace k_t2 := k_t2.p hO nq_t2_t3
 replace k_t5 := k_t5.p hO nq_t3_t5.symm
 replace k_t7 := k_t7.p hO nq_t3_t7.symm
 replace off0 := off0.p hO J34
 clear hO
 refine J1e (fun W => (Blk W Q12 (p4 dx y0 1 dt) 60) ∧ (Blk W J62 (c4 (pN P)) 42)) (fun W hS => ⟨hS.1, hS.2⟩) ⟨k_t5, k_t7⟩ ?_
 (refine J0h (v := ?_) rfl (by rfl) (fun W hS => ?_) ?_; rotate_left 1; (focus (go_simp; first | done | with_reducible rfl)))
 (try simp only [Act.put, mA, mB, mC])
 refine J9b ?_
 go_wp2
 exact bodyPost_ret (J7d rfl rfl rfl rfl k_t2 k_t3 (by kernel_rfl) (by kernel_rfl) (by kernel_rfl) (by kernel_rfl)) rfl ⟨rfl, off0.ext⟩
theorem Y0e (hc : kn.c) {P X : Nat} (hok : dOk (pG P) = true) (hX : X = Q46 P) :
  ∀ w, GA kn w → Calls Tryd.prog 27 #[.agg (J2 .u8 80 (Q0 P))] w fun e w' => Ret (.tuple #[.agg (J2 .u8 64 (Q0 X)), .int .i64 0]) w w' e := by
 obtain ⟨dx, dt, dr, dc⟩ := J6m hc (V := (pG P)) (Q44 P) hok
 obtain ⟨y0, hy0⟩ := V3 ((pG P) % 2 ^ 255)
 rw [← hy0] at dr dc
 clear hy0
 obtain ⟨x1, y2, z3, t4, r5, c6⟩ := J5c (kn := kn) dr.rw
 obtain ⟨U1, hU1⟩ := V3 (enc (pm (dPt (pG P)) 8))
 have bU1 : U1 < 2 ^ 256 := by rw [hU1]; exact J52 _
 have HU1 := Lib.hid hU1
 clear hU1
 obtain ⟨U2, hU2⟩ := V3 (hs ([3, 3] ++ (lb 32 U1) ++ [0]))
 have HU2 := Lib.hid hU2
 clear hU2
 intro w hG
 have off0 : Off [] w w := Off.refl _ _
 go_enter Tryd.func27, Tryd.ntmps27
 go_upto_region 0 with fail
 refine wp_region_lit ?_
 refine Ln ?_ (z := J2 .u8 80 (Q0 P)) (t := 45)
 intro J0i W1 J1s hO h_
 replace off0 := off0.o hO
 have k_t1 := h_
 clear hO h_ J1s
 refine Ln ?_ (z := J2 .u8 64 (Q0 0)) (t := 30)
 intro J1m W2 V2 hO h_
 have V8 := fbn off0 V2
 replace k_t1 := k_t1.o hO
 replace off0 := off0.o hO
 have k_t2 := h_
 clear hO h_ V2
 refine Lw ?_ (v := .int .i64 0)
 refine J0 ?_
 go_upto_region 1 with fail
 refine wp_region_lit ?_
 refine Lw ?_ (v := .slice (some ⟨J0i, 0, none⟩) 32 80) (hv := by first | rfl | (go_simp; done) | (go_simp; with_reducible rfl))
 refine Lw ?_ (v := .pointer (some ⟨J0i, 0, none⟩)) (hv := by first | rfl | (go_simp; done) | (go_simp; with_reducible rfl))
 refine Y9 (vs := (J2 .u8 32 (Q0 (pG P))).toList) (by rfl) rfl rfl k_t1 (J2m Z2v) (by kernel_rfl) (by kernel_rfl) ?_
 (try simp only [Act.put, mA, mB, mC])
 refine Lr ?_ (dc W2 (J8 hG off0.ext).1)
 intro W3 hO
 replace k_t2 := k_t2.o hO
 replace off0 := off0.o hO
 clear hO
 refine Lv ?_
 refine Lv ?_
 refine Lw ?_ (v := .int .i64 0)
 refine LnP ?_ (z := p4 0 0 0 0) (t := 60) (cells := p4 dx y0 1 dt)
 intro Y0d W5 J0k hO h_
 replace k_t2 := k_t2.o hO
 replace off0 := off0.o hO
 have k_t4 := h_
 clear hO h_ J0k
 refine Lw ?_ (v := .int .i64 0)
 refine J0 ?_
 go_upto_region 4 with fail
 refine wp_region_lit ?_
 refine L0 ?_ k_t4
 refine Lr ?_ (c6 W5 (J8 hG off0.ext).1)
 intro W6 hO
 replace k_t2 := k_t2.o hO
 replace off0 := off0.o hO
 clear hO
 refine Lr ?_ (J6u r5.rw HU1.out W6 (J8 hG off0.ext).1)
 intro W7 hO
 replace k_t2 := k_t2.o hO
 replace off0 := off0.o hO
 clear hO
 refine LnA ?_ (z := J2 .u8 32 (Q0 0)) (t := 22) (k := .u8) (n := 32) (f := Q0 U1)
 intro Y0f W9 J0t hO h_
 replace k_t2 := k_t2.o hO
 replace off0 := off0.o hO
 have k_t6 := h_
 clear hO h_ J0t
 refine J0 ?_
 go_upto_region 5 with fail
 refine wp_region_lit ?_
 refine LnS ?_ (z := #[.int .u8 3, .int .u8 3]) (t := 5) (n := 2) (c := 2)
 intro Q5g W10 Y3b hO h_
 replace k_t2 := k_t2.o hO
 replace k_t6 := k_t6.o hO
 replace off0 := off0.o hO
 have ow_s20 : Own W10 (.slice (some ⟨Q5g, 0, none⟩) 2 2) [3, 3] := J07 h_ (by rfl) (by show 2 ≤ maxLen; decide)
 clear hO h_ Y3b
 refine Lw ?_ (v := .slice (some ⟨Y0f, 0, none⟩) 32 32) (hv := by first | rfl | (go_simp; done) | (go_simp; with_reducible rfl))
 refine LnS ?_ (z := #[.int .u8 0]) (t := 5) (n := 1) (c := 1)
 intro J65 W11 Q1u hO h_
 replace k_t2 := k_t2.o hO
 replace k_t6 := k_t6.o hO
 replace ow_s20 := Own.off ow_s20 hO f0
 replace off0 := off0.o hO
 have ow_s22 : Own W11 (.slice (some ⟨J65, 0, none⟩) 1 1) [0] := J07 h_ (by rfl) (by show 1 ≤ maxLen; decide)
 clear hO h_ Q1u
 refine LnS ?_ (z := #[(.slice (some ⟨Q5g, 0, none⟩) 2 2), .slice (some ⟨Y0f, 0, none⟩) 32 32, (.slice (some ⟨J65, 0, none⟩) 1 1)]) (t := 23) (n := 3) (c := 3) (hr := by exact J23 [(.slice (some ⟨Q5g, 0, none⟩) 2 2), .slice (some ⟨Y0f, 0, none⟩) 32 32, (.slice (some ⟨J65, 0, none⟩) 1 1)] rfl rfl (vsc ((J1o ow_s20).1) (vsc (rfl) (vsc ((J1o ow_s22).1) vs0))) Tryd.underlying112 (by kernel_rfl) (by kernel_rfl) rfl (by decide) (by decide))
 intro Y0g W12 J6b hO h_
 replace k_t2 := k_t2.o hO
 replace k_t6 := k_t6.o hO
 replace ow_s20 := Own.off ow_s20 hO f0
 replace ow_s22 := Own.off ow_s22 hO f0
 replace off0 := off0.o hO
 have J2h := h_
 clear hO h_ J6b
 refine Lr ?_ (J5z HU2.out [[3, 3], lb 32 U1, [0]] (some ⟨Y0g, 0, none⟩) 3 (by simp only [List.flatten_cons, List.flatten_nil, List.append_nil, List.nil_append, List.append_assoc, List.cons_append]) (by first | omega | (simp only [List.length_append, List.length_cons, List.length_nil, Z7]; omega)) (by simp) W12 (J4u J2h (pvc (ow_s20.sl) (pvc (J08 (V := U1) (n := 32) (off := 0) k_t6 ap0 (by decide) (by decide)) (pvc (ow_s22.sl) pv0)))) (J8 hG off0.ext).2.1)
 intro W13 hO
 replace k_t2 := k_t2.o hO
 replace off0 := off0.o hO
 clear hO
 refine LpA ?_ k_t2 (k := .u8) (n := 64) (f := Q0 U2)
 intro W14 hO h_
 replace k_t2 : Blk W14 J1m (J2 .u8 64 (Q0 U2)) 30 := h_
 clear h_
 replace off0 := off0.p hO V8
 clear hO
 refine Lw ?_ (v := .int .i64 0)
 refine J0 ?_
 go_wp2
 rw [hX, show Q46 P = U2 by rw [HU2.out, HU1.out]; rfl]
 exact bodyPost_ret (V5 rfl rfl rfl k_t2 (by kernel_rfl) (by rw [J6]; kernel_rfl)) rfl ⟨rfl, off0.ext⟩
end Go.Proofs.YtefpoollmbmkfaaDoor
