/- vrf: point. Conditions: the cells of the variables hold their numbers. vrf: mark, wide. Conditions: the cells of the variables hold their numbers. vrf: key, parts, Sum, Index. Conditions: the cells of the variables hold their numbers. -/
import Derived.Test.YtefpoollmbmkfaaDoorGc
import Derived.Test.YtefpoollmbmkfaaDoorVf
import Derived.Test.YtefpoollmbmkfaaDoorSgC
set_option linter.unusedSimpArgs false
set_option linter.unusedVariables false
namespace Go.Proofs.YtefpoollmbmkfaaDoor
set_option maxHeartbeats 2000000
set_option maxRecDepth 100000
open Go.RowKit
attribute [local irreducible] wpList
variable {kn : Kn}
open Sc (LL J21)
attribute [local irreducible] hs
theorem Q67 {A B : Nat} {v : Value} {w : World} (h : A = B) (c : Calls Tryd.prog 31 #[.agg (J1 .u8 32 (Q6 B))] w fun e w' => Ret v w w' e) : Calls Tryd.prog 31 #[.agg (J1 .u8 32 (Q6 A))] w fun e w' => Ret v w w' e := h ▸ c
theorem Q3e {w : World} {o : Oper} {a : Act} {x y : Operand} {t t' : TypeId} {i n : Nat} {c : Bool} (hc : decide (i < n) = c) (ho : o.op = .binOp .lss t x y t') (hx : a.eval x = .int .i64 (i : Int)) (hy : a.eval y = .int .i64 (n : Int)) : (execOp a.eval o).run Tryd.prog w = .ok (.value (.bool c)) w := by
  have e : decide ((i : Int) < (n : Int)) = c := by rw [← hc]; exact decide_eq_decide.2 Int.ofNat_lt
  simp only [execOp, ho, hx, hy, eqGuard, binOp, Sem.run_bind]
  simp [e, hc, go_sem, Sem.run_bind]
theorem Q3f {w : World} {o : Oper} {a : Act} {x : Operand} {i : Nat} (ho : o.op = .convert 3 5 x) (hx : a.eval x = .int .i64 (i : Int)) : (execOp a.eval o).run Tryd.prog w = .ok (.value (.int .u8 ((u8 i).toNat : Int))) w := by
  rw [Q27, show ((i : Int) % 256) = w8 (i : Int) from (IntKind.wrap_u8 _).symm]; exact J6t ho hx

theorem Z27 (hc : kn.c) {V : Nat} {L : List UInt8} (hL : L.length ≤ 1099511627776) (c0 : Nat) (h256 : c0 < 256) (hok : J2a V L c0 = true) (hlow : ∀ i, i < c0 → J2a V L i = false) :
  ∃ X Y Z T, RN X Y Z T (J22 V L c0) ∧ ∀ v w, GA kn w → Sl w v L → Calls Tryd.prog 60 #[.agg (J1 .u8 32 (Q6 V)), v] w fun e w' => Ret (.tuple #[.agg (p4 X Y Z T), .int .i64 0]) w w' e := by
 obtain ⟨dx0, dt0, dr0, dc0⟩ := J9p (kn := kn) hc (J5z V L c0) (candOk_iff.1 hok).1
 obtain ⟨dy0, hdy0⟩ := V2 (J3w V L c0 % 2 ^ 255)
 rw [← hdy0] at dr0 dc0
 clear hdy0
 obtain ⟨ex0, ey0, ez0, et0, er0, ec0⟩ := J84 (kn := kn) dr0.rw
 replace er0 : RN ex0 ey0 ez0 et0 (J22 V L c0) := er0
 refine ⟨ex0, ey0, ez0, et0, er0, fun v w hG hsl => ?_⟩
 have Q5 := hsl
 have off0 : Off [] w w := Off.refl _ _
 go_enter Tryd.func60, Tryd.ntmps60
 go_upto_region 0 with fail
 refine wp_region_lit ?_
 refine Ln ?_ (z := J1 .u8 32 (Q6 V)) (t := 22)
 intro J0c W1 U0 hO h_
 replace Q5 := Sl.off Q5 hO f0
 replace off0 := off0.o hO
 have k_t2 := h_
 clear hO h_ U0
 refine Ln ?_ (z := p4 0 0 0 0) (t := 60)
 intro J6r W2 J10 hO h_
 have nq_t2_t4 := bn k_t2 J10
 have Y5o := J0m (Sl.lt Q5) J10
 have J2d := fbn off0 J10
 replace k_t2 := k_t2.o hO
 replace Q5 := Sl.off Q5 hO f0
 replace off0 := off0.o hO
 have k_t4 := h_
 clear hO h_ J10
 refine Lw ?_ (v := .int .i64 0)
 refine J0 ?_
 go_wp2_with fail
 go_loopw [10] (fun ii wr => ∃ (i : Nat), (i ≤ c0) ∧ (ii = .int .i64 (i : Int)) ∧ Off [] w wr ∧ Blk wr J0c (J1 .u8 32 (Q6 V)) 22 ∧ Blk wr J6r (p4 0 0 0 0) 60 ∧ Sl wr v L)
  (fun ii _ => (256 - intOf ii).toNat)
 case atStart => exact ⟨0, Nat.zero_le _, rfl, off0, k_t2, k_t4, Q5⟩
 case round =>
  obtain ⟨i, hi, rfl, off0, k_t2, k_t4, Q5⟩ := hrel
  obtain ⟨W3, eW_⟩ := J3r off0
  subst eW_
  go_upto_region 2 with fail
  refine wp_region_lit ?_
  refine Lw ?_ (v := .bool true) (hv := by exact Q3e (i := i) (n := 256) (decide_eq_true (by omega)) rfl rfl rfl)
  refine J0 ?_
  by_cases hi0 : i = c0
  ·
   have _f := hi0
   subst hi0
   have hdo := (candOk_iff.1 hok).1
   have hne := (candOk_iff.1 hok).2
   go_upto_region 4 with fail
   refine wp_region_lit ?_
   refine LnS ?_ (z := #[.int .u8 3, .int .u8 1]) (t := 5) (n := 2) (c := 2)
   intro J9c W4 Q7f hO h_
   have Z6x : Value.ownBlock (.slice (some ⟨J9c, 0, none⟩) 2 2) ≠ some J6r := obn k_t4 Q7f
   replace k_t2 := k_t2.o hO
   replace k_t4 := k_t4.o hO
   replace Q5 := Sl.off Q5 hO f0
   replace off0 := off0.o hO
   have ow_s13 : Own W4 (.slice (some ⟨J9c, 0, none⟩) 2 2) [3, 1] := V7 h_ (by rfl) (by show 2 ≤ maxLen; decide)
   clear hO h_ Q7f
   refine Lw ?_ (v := .slice (some ⟨J0c, 0, none⟩) 32 32) (hv := by first | rfl | (go_simp; done) | (go_simp; with_reducible rfl))
   refine Lv ?_
   refine Lv ?_
   refine Lw ?_ (v := .int .u8 ((UInt8.ofNat i).toNat : Int)) (hv := by exact Q3f rfl rfl)
   refine LnS ?_ (z := #[.int .u8 ((UInt8.ofNat i).toNat : Int), .int .u8 0]) (t := 5) (n := 2) (c := 2)
   intro J9d W5 Q7g hO h_
   have Z6y : Value.ownBlock (.slice (some ⟨J9d, 0, none⟩) 2 2) ≠ some J6r := obn k_t4 Q7g
   replace k_t2 := k_t2.o hO
   replace k_t4 := k_t4.o hO
   replace Q5 := Sl.off Q5 hO f0
   replace ow_s13 := Own.off ow_s13 hO f0
   replace off0 := off0.o hO
   have ow_s18 : Own W5 (.slice (some ⟨J9d, 0, none⟩) 2 2) [UInt8.ofNat i, 0] := V7 h_ (by rfl) (by show 2 ≤ maxLen; decide)
   clear hO h_ Q7g
   refine LnS ?_ (z := #[(.slice (some ⟨J9c, 0, none⟩) 2 2), .slice (some ⟨J0c, 0, none⟩) 32 32, v, (.slice (some ⟨J9d, 0, none⟩) 2 2)]) (t := 23) (n := 4) (c := 4) (hr := by exact J43 [(.slice (some ⟨J9c, 0, none⟩) 2 2), .slice (some ⟨J0c, 0, none⟩) 32 32, v, (.slice (some ⟨J9d, 0, none⟩) 2 2)] rfl rfl (vsc ((J36 ow_s13).1) (vsc (rfl) (vsc ((J3f Q5).1) (vsc ((J36 ow_s18).1) vs0)))) Tryd.underlying112 (by kernel_rfl) (by kernel_rfl) rfl (by decide) (by decide))
   intro Z0n W6 Q7h hO h_
   have nq_t4_s19 := bn k_t4 Q7h
   replace k_t2 := k_t2.o hO
   replace k_t4 := k_t4.o hO
   replace Q5 := Sl.off Q5 hO f0
   replace ow_s13 := Own.off ow_s13 hO f0
   replace ow_s18 := Own.off ow_s18 hO f0
   replace off0 := off0.o hO
   have k_s19 := h_
   clear hO h_ Q7h
   obtain ⟨U1, hU1⟩ := V2 (hs ([3, 1] ++ (lb 32 V) ++ L ++ [UInt8.ofNat i, 0]))
   have HU1 := Lib.hid hU1
   clear hU1
   refine Lr ?_ (J8z HU1.out [[3, 1], lb 32 V, L, [UInt8.ofNat i, 0]] (some ⟨Z0n, 0, none⟩) 4 (by simp only [List.flatten_cons, List.flatten_nil, List.append_nil, List.nil_append, List.append_assoc, List.cons_append]) (by first | omega | (simp only [List.length_append, List.length_cons, List.length_nil, J8]; omega)) (by simp) W6 (J7i k_s19 (pvc (ow_s13.sl) (pvc (J0j (V := V) (n := 32) (off := 0) k_t2 ap0 (by decide) (by decide)) (pvc Q5 (pvc (ow_s18.sl) pv0))))) (Q7 hG off0.ext).2.1)
   intro W7 hO
   replace k_t2 := k_t2.o hO
   replace k_t4 := k_t4.o hO
   replace k_s19 := k_s19.o hO
   replace Q5 := Sl.off Q5 hO f0
   replace ow_s13 := Own.off ow_s13 hO f0
   replace ow_s18 := Own.off ow_s18 hO f0
   replace off0 := off0.o hO
   clear hO
   refine LnA ?_ (z := J1 .u8 64 (Q6 0)) (t := 30) (k := .u8) (n := 64) (f := Q6 U1)
   intro J92 W9 J03 hO h_
   have nq_t4_t7 := bn k_t4 J03
   replace k_t2 := k_t2.o hO
   replace k_t4 := k_t4.o hO
   replace k_s19 := k_s19.o hO
   replace Q5 := Sl.off Q5 hO f0
   replace ow_s13 := Own.off ow_s13 hO f0
   replace ow_s18 := Own.off ow_s18 hO f0
   replace off0 := off0.o hO
   have k_t7 := h_
   clear hO h_ J03
   refine J0 ?_
   go_upto_region 5 with fail
   refine wp_region_lit ?_
   refine Lw ?_ (v := .slice (some ⟨J92, 0, none⟩) 32 64) (hv := by first | rfl | (go_simp; done) | (go_simp; with_reducible rfl))
   refine Lw ?_ (v := .pointer (some ⟨J92, 0, none⟩)) (hv := by first | rfl | (go_simp; done) | (go_simp; with_reducible rfl))
   refine J05 (vs := (J1 .u8 32 (Q6 (lo U1))).toList) (by rfl) rfl rfl k_t7 (J3z Z6q) (by kernel_rfl) (by kernel_rfl) ?_
   (try simp only [Act.put, mA, mB, mC])
   have hcb9 : lo U1 = J3w V L i := by rw [HU1.out]; rfl
   refine Lr ?_ (Q67 hcb9 (dc0 W9 (Q7 hG off0.ext).1))
   intro W10 hO
   replace k_t2 := k_t2.o hO
   replace k_t4 := k_t4.o hO
   replace k_s19 := k_s19.o hO
   replace k_t7 := k_t7.o hO
   replace Q5 := Sl.off Q5 hO f0
   replace ow_s13 := Own.off ow_s13 hO f0
   replace ow_s18 := Own.off ow_s18 hO f0
   replace off0 := off0.o hO
   clear hO
   refine Lv ?_
   refine Lv ?_
   refine Lw ?_ (v := .int .i64 0)
   refine LnP ?_ (z := p4 0 0 0 0) (t := 60) (cells := p4 dx0 dy0 1 dt0)
   intro J1x W12 V6 hO h_
   have nq_t2_t8 := bn k_t2 V6
   have nq_t4_t8 := bn k_t4 V6
   have Z6z := bn k_s19 V6
   have nq_t7_t8 := bn k_t7 V6
   have Q2g := J0m (Sl.lt Q5) V6
   have Z70 := J0m (Own.lt ow_s13) V6
   have Z71 := J0m (Own.lt ow_s18) V6
   have J1v := fbn off0 V6
   replace k_t2 := k_t2.o hO
   replace k_t4 := k_t4.o hO
   replace k_s19 := k_s19.o hO
   replace k_t7 := k_t7.o hO
   replace Q5 := Sl.off Q5 hO f0
   replace ow_s13 := Own.off ow_s13 hO f0
   replace ow_s18 := Own.off ow_s18 hO f0
   replace off0 := off0.o hO
   have k_t8 := h_
   clear hO h_ V6
   refine Lw ?_ (v := .int .i64 0)
   refine J0 ?_
   go_upto_region 7 with fail
   refine wp_region_lit ?_
   refine L0 ?_ k_t8
   refine Lr ?_ (ec0 W12 (Q7 hG off0.ext).1)
   intro W13 hO
   replace k_t2 := k_t2.o hO
   replace k_t4 := k_t4.o hO
   replace k_s19 := k_s19.o hO
   replace k_t7 := k_t7.o hO
   replace k_t8 := k_t8.o hO
   replace Q5 := Sl.off Q5 hO f0
   replace ow_s13 := Own.off ow_s13 hO f0
   replace ow_s18 := Own.off ow_s18 hO f0
   replace off0 := off0.o hO
   clear hO
   refine Lp ?_ k_t8 (cells := p4 ex0 ey0 ez0 et0)
   intro W14 hO h_
   replace k_t8 : Blk W14 J1x (p4 ex0 ey0 ez0 et0) 60 := h_
   clear h_
   replace k_t2 := k_t2.p hO nq_t2_t8
   replace k_t4 := k_t4.p hO nq_t4_t8
   replace k_s19 := k_s19.p hO Z6z
   replace k_t7 := k_t7.p hO nq_t7_t8
   replace Q5 := Sl.off Q5 hO (f1 Q2g)
   replace ow_s13 := Own.off ow_s13 hO (f1 Z70)
   replace ow_s18 := Own.off ow_s18 hO (f1 Z71)
   replace off0 := off0.p hO J1v
   clear hO
   refine J0 ?_
   go_upto_region 8 with fail
   refine wp_region_lit ?_
   refine L0 ?_ k_t8
   refine Lw ?_ (v := .agg (p4 0 0 0 0)) (hv := by kernel_rfl)
   have cs_ := Q1o (kn := kn) er0.rw Q0g
   rw [show decide (J22 V L i = p0) = false from decide_eq_false hne] at cs_
   refine Lr ?_ (cs_ W14 (Q7 hG off0.ext).1)
   intro W15 hO
   replace k_t2 := k_t2.o hO
   replace k_t4 := k_t4.o hO
   replace k_s19 := k_s19.o hO
   replace k_t7 := k_t7.o hO
   replace k_t8 := k_t8.o hO
   replace Q5 := Sl.off Q5 hO f0
   replace ow_s13 := Own.off ow_s13 hO f0
   replace ow_s18 := Own.off ow_s18 hO f0
   replace off0 := off0.o hO
   clear hO
   refine Lw ?_ (v := .bool true)
   refine J0 ?_
   go_upto_region 9 with fail
   refine wp_region_lit ?_
   refine L0 ?_ k_t8
   refine Lp ?_ k_t4 (cells := p4 ex0 ey0 ez0 et0)
   intro W16 hO h_
   replace k_t4 : Blk W16 J6r (p4 ex0 ey0 ez0 et0) 60 := h_
   clear h_
   replace k_t2 := k_t2.p hO nq_t2_t4
   replace k_s19 := k_s19.p hO nq_t4_s19.symm
   replace k_t7 := k_t7.p hO nq_t4_t7.symm
   replace k_t8 := k_t8.p hO nq_t4_t8.symm
   replace Q5 := Sl.off Q5 hO (f1 Y5o)
   replace ow_s13 := Own.off ow_s13 hO (f1 Z6x)
   replace ow_s18 := Own.off ow_s18 hO (f1 Z6y)
   replace off0 := off0.p hO J2d
   clear hO
   refine Lw ?_ (v := .int .i64 0)
   refine J0 ?_
   go_wp2
   exact bodyPost_ret (V8 rfl rfl rfl k_t4 (by kernel_rfl) (by kernel_rfl)) rfl ⟨rfl, off0.ext⟩
  ·
   have _f := hi0
   have hbad := hlow i (by omega)
   go_upto_region 4 with fail
   refine wp_region_lit ?_
   refine LnS ?_ (z := #[.int .u8 3, .int .u8 1]) (t := 5) (n := 2) (c := 2)
   intro J9c W4 Q7f hO h_
   replace k_t2 := k_t2.o hO
   replace k_t4 := k_t4.o hO
   replace Q5 := Sl.off Q5 hO f0
   replace off0 := off0.o hO
   have ow_s13 : Own W4 (.slice (some ⟨J9c, 0, none⟩) 2 2) [3, 1] := V7 h_ (by rfl) (by show 2 ≤ maxLen; decide)
   clear hO h_ Q7f
   refine Lw ?_ (v := .slice (some ⟨J0c, 0, none⟩) 32 32) (hv := by first | rfl | (go_simp; done) | (go_simp; with_reducible rfl))
   refine Lv ?_
   refine Lv ?_
   refine Lw ?_ (v := .int .u8 ((UInt8.ofNat i).toNat : Int)) (hv := by exact Q3f rfl rfl)
   refine LnS ?_ (z := #[.int .u8 ((UInt8.ofNat i).toNat : Int), .int .u8 0]) (t := 5) (n := 2) (c := 2)
   intro J9d W5 Q7g hO h_
   replace k_t2 := k_t2.o hO
   replace k_t4 := k_t4.o hO
   replace Q5 := Sl.off Q5 hO f0
   replace ow_s13 := Own.off ow_s13 hO f0
   replace off0 := off0.o hO
   have ow_s18 : Own W5 (.slice (some ⟨J9d, 0, none⟩) 2 2) [UInt8.ofNat i, 0] := V7 h_ (by rfl) (by show 2 ≤ maxLen; decide)
   clear hO h_ Q7g
   refine LnS ?_ (z := #[(.slice (some ⟨J9c, 0, none⟩) 2 2), .slice (some ⟨J0c, 0, none⟩) 32 32, v, (.slice (some ⟨J9d, 0, none⟩) 2 2)]) (t := 23) (n := 4) (c := 4) (hr := by exact J43 [(.slice (some ⟨J9c, 0, none⟩) 2 2), .slice (some ⟨J0c, 0, none⟩) 32 32, v, (.slice (some ⟨J9d, 0, none⟩) 2 2)] rfl rfl (vsc ((J36 ow_s13).1) (vsc (rfl) (vsc ((J3f Q5).1) (vsc ((J36 ow_s18).1) vs0)))) Tryd.underlying112 (by kernel_rfl) (by kernel_rfl) rfl (by decide) (by decide))
   intro Z0n W6 Q7h hO h_
   replace k_t2 := k_t2.o hO
   replace k_t4 := k_t4.o hO
   replace Q5 := Sl.off Q5 hO f0
   replace ow_s13 := Own.off ow_s13 hO f0
   replace ow_s18 := Own.off ow_s18 hO f0
   replace off0 := off0.o hO
   have k_s19 := h_
   clear hO h_ Q7h
   obtain ⟨U2, hU2⟩ := V2 (hs ([3, 1] ++ (lb 32 V) ++ L ++ [UInt8.ofNat i, 0]))
   have HU2 := Lib.hid hU2
   clear hU2
   refine Lr ?_ (J8z HU2.out [[3, 1], lb 32 V, L, [UInt8.ofNat i, 0]] (some ⟨Z0n, 0, none⟩) 4 (by simp only [List.flatten_cons, List.flatten_nil, List.append_nil, List.nil_append, List.append_assoc, List.cons_append]) (by first | omega | (simp only [List.length_append, List.length_cons, List.length_nil, J8]; omega)) (by simp) W6 (J7i k_s19 (pvc (ow_s13.sl) (pvc (J0j (V := V) (n := 32) (off := 0) k_t2 ap0 (by decide) (by decide)) (pvc Q5 (pvc (ow_s18.sl) pv0))))) (Q7 hG off0.ext).2.1)
   intro W7 hO
   replace k_t2 := k_t2.o hO
   replace k_t4 := k_t4.o hO
   replace Q5 := Sl.off Q5 hO f0
   replace off0 := off0.o hO
   clear hO
   refine LnA ?_ (z := J1 .u8 64 (Q6 0)) (t := 30) (k := .u8) (n := 64) (f := Q6 U2)
   intro J92 W9 J03 hO h_
   replace k_t2 := k_t2.o hO
   replace k_t4 := k_t4.o hO
   replace Q5 := Sl.off Q5 hO f0
   replace off0 := off0.o hO
   have k_t7 := h_
   clear hO h_ J03
   refine J0 ?_
   by_cases hdo : dOk (J3w V L i) = true
   ·
    have _f := hdo
    go_upto_region 5 with fail
    refine wp_region_lit ?_
    refine Lw ?_ (v := .slice (some ⟨J92, 0, none⟩) 32 64) (hv := by first | rfl | (go_simp; done) | (go_simp; with_reducible rfl))
    refine Lw ?_ (v := .pointer (some ⟨J92, 0, none⟩)) (hv := by first | rfl | (go_simp; done) | (go_simp; with_reducible rfl))
    refine J05 (vs := (J1 .u8 32 (Q6 (lo U2))).toList) (by rfl) rfl rfl k_t7 (J3z Z6q) (by kernel_rfl) (by kernel_rfl) ?_
    (try simp only [Act.put, mA, mB, mC])
    have hcb9 : lo U2 = J3w V L i := by rw [HU2.out]; rfl
    obtain ⟨dx, dt, dr, dc⟩ := J9p (kn := kn) hc (J5z V L i) hdo
    obtain ⟨dy, hdy⟩ := V2 (J3w V L i % 2 ^ 255)
    rw [← hdy] at dr dc
    clear hdy
    refine Lr ?_ (Q67 hcb9 (dc W9 (Q7 hG off0.ext).1))
    intro W10 hO
    replace k_t2 := k_t2.o hO
    replace k_t4 := k_t4.o hO
    replace k_t7 := k_t7.o hO
    replace Q5 := Sl.off Q5 hO f0
    replace off0 := off0.o hO
    clear hO
    refine Lv ?_
    refine Lv ?_
    refine Lw ?_ (v := .int .i64 0)
    refine LnP ?_ (z := p4 0 0 0 0) (t := 60) (cells := p4 dx dy 1 dt)
    intro J1x W12 V6 hO h_
    have nq_t2_t8 := bn k_t2 V6
    have nq_t4_t8 := bn k_t4 V6
    have nq_t7_t8 := bn k_t7 V6
    have Q2g := J0m (Sl.lt Q5) V6
    have J1v := fbn off0 V6
    replace k_t2 := k_t2.o hO
    replace k_t4 := k_t4.o hO
    replace k_t7 := k_t7.o hO
    replace Q5 := Sl.off Q5 hO f0
    replace off0 := off0.o hO
    have k_t8 := h_
    clear hO h_ V6
    refine Lw ?_ (v := .int .i64 0)
    refine J0 ?_
    go_upto_region 7 with fail
    refine wp_region_lit ?_
    refine L0 ?_ k_t8
    obtain ⟨ex, ey, ez, et, er, ec⟩ := J84 (kn := kn) dr.rw
    refine Lr ?_ (ec W12 (Q7 hG off0.ext).1)
    intro W13 hO
    replace k_t2 := k_t2.o hO
    replace k_t4 := k_t4.o hO
    replace k_t7 := k_t7.o hO
    replace k_t8 := k_t8.o hO
    replace Q5 := Sl.off Q5 hO f0
    replace off0 := off0.o hO
    clear hO
    refine Lp ?_ k_t8 (cells := p4 ex ey ez et)
    intro W14 hO h_
    replace k_t8 : Blk W14 J1x (p4 ex ey ez et) 60 := h_
    clear h_
    replace k_t2 := k_t2.p hO nq_t2_t8
    replace k_t4 := k_t4.p hO nq_t4_t8
    replace k_t7 := k_t7.p hO nq_t7_t8
    replace Q5 := Sl.off Q5 hO (f1 Q2g)
    replace off0 := off0.p hO J1v
    clear hO
    refine J0 ?_
    go_upto_region 8 with fail
    refine wp_region_lit ?_
    refine L0 ?_ k_t8
    refine Lw ?_ (v := .agg (p4 0 0 0 0)) (hv := by kernel_rfl)
    have cs_ := Q1o (kn := kn) er.rw Q0g
    rw [show decide (pm (dPt (J3w V L i)) 8 = p0) = true from decide_eq_true (Q2h hbad hdo)] at cs_
    refine Lr ?_ (cs_ W14 (Q7 hG off0.ext).1)
    intro W15 hO
    replace k_t2 := k_t2.o hO
    replace k_t4 := k_t4.o hO
    replace k_t7 := k_t7.o hO
    replace Q5 := Sl.off Q5 hO f0
    replace off0 := off0.o hO
    clear hO
    refine Lw ?_ (v := .bool false)
    refine J0 ?_
    go_upto_region 10 with fail
    refine wp_region_lit ?_
    refine Lw ?_ (v := .int .i64 (((i + 1 : Nat) : Int))) (hv := by go_simp; (try simp only [IntKind.wrap_i64]); (try omega))
    refine Lv ?_
    refine J0 ?_
    go_wp2
    go_roundw
    case rel => exact ⟨i + 1, by omega, by go_num, off0, k_t2, k_t4, Q5⟩
    case measure => simp [intOf]; omega
   ·
    have _f := hdo
    replace hdo : dOk (J3w V L i) = false := by simpa using hdo
    go_upto_region 5 with fail
    refine wp_region_lit ?_
    refine Lw ?_ (v := .slice (some ⟨J92, 0, none⟩) 32 64) (hv := by first | rfl | (go_simp; done) | (go_simp; with_reducible rfl))
    refine Lw ?_ (v := .pointer (some ⟨J92, 0, none⟩)) (hv := by first | rfl | (go_simp; done) | (go_simp; with_reducible rfl))
    refine J05 (vs := (J1 .u8 32 (Q6 (lo U2))).toList) (by rfl) rfl rfl k_t7 (J3z Z6q) (by kernel_rfl) (by kernel_rfl) ?_
    (try simp only [Act.put, mA, mB, mC])
    have hcb9 : lo U2 = J3w V L i := by rw [HU2.out]; rfl
    refine Lr ?_ (Q67 hcb9 (Q5b (kn := kn) hc (J5z V L i) hdo W9 (Q7 hG off0.ext).1))
    intro W10 hO
    replace k_t2 := k_t2.o hO
    replace k_t4 := k_t4.o hO
    replace Q5 := Sl.off Q5 hO f0
    replace off0 := off0.o hO
    clear hO
    refine Lv ?_
    refine Lv ?_
    refine Lw ?_ (v := .int .i64 15)
    refine LnP ?_ (z := p4 0 0 0 0) (t := 60) (cells := p4 0 0 0 0)
    intro J1x W12 V6 hO h_
    replace k_t2 := k_t2.o hO
    replace k_t4 := k_t4.o hO
    replace Q5 := Sl.off Q5 hO f0
    replace off0 := off0.o hO
    clear hO h_ V6
    refine Lw ?_ (v := .int .i64 15)
    refine J0 ?_
    go_upto_region 10 with fail
    refine wp_region_lit ?_
    refine Lw ?_ (v := .int .i64 (((i + 1 : Nat) : Int))) (hv := by go_simp; (try simp only [IntKind.wrap_i64]); (try omega))
    refine Lv ?_
    refine J0 ?_
    go_wp2
    go_roundw
    case rel => exact ⟨i + 1, by omega, by go_num, off0, k_t2, k_t4, Q5⟩
    case measure => simp [intOf]; omega
theorem Z28 (hc : kn.c) {V : Nat} {L : List UInt8} (hL : L.length ≤ 1099511627776) (hlow : ∀ i, i < 256 → J2a V L i = false) :
  ∀ v w, GA kn w → Sl w v L → Calls Tryd.prog 60 #[.agg (J1 .u8 32 (Q6 V)), v] w fun e w' => Ret (.tuple #[.agg (p4 0 0 0 0), .int .i64 15]) w w' e := by
 intro v w hG hsl
 have Q5 := hsl
 have off0 : Off [] w w := Off.refl _ _
 go_enter Tryd.func60, Tryd.ntmps60
 go_upto_region 0 with fail
 refine wp_region_lit ?_
 refine Ln ?_ (z := J1 .u8 32 (Q6 V)) (t := 22)
 intro J0c W1 U0 hO h_
 replace Q5 := Sl.off Q5 hO f0
 replace off0 := off0.o hO
 have k_t2 := h_
 clear hO h_ U0
 refine Ln ?_ (z := p4 0 0 0 0) (t := 60)
 intro J6r W2 J10 hO h_
 have J2d := fbn off0 J10
 replace k_t2 := k_t2.o hO
 replace Q5 := Sl.off Q5 hO f0
 replace off0 := off0.o hO
 have k_t4 := h_
 clear hO h_ J10
 refine Lw ?_ (v := .int .i64 0)
 refine J0 ?_
 go_wp2_with fail
 go_loopw [10] (fun ii wr => ∃ (i : Nat), (i ≤ 256) ∧ (ii = .int .i64 (i : Int)) ∧ Off [] w wr ∧ Blk wr J0c (J1 .u8 32 (Q6 V)) 22 ∧ Blk wr J6r (p4 0 0 0 0) 60 ∧ Sl wr v L)
  (fun ii _ => (256 - intOf ii).toNat)
 case atStart => exact ⟨0, Nat.zero_le _, rfl, off0, k_t2, k_t4, Q5⟩
 case round =>
  obtain ⟨i, hi, rfl, off0, k_t2, k_t4, Q5⟩ := hrel
  obtain ⟨W3, eW_⟩ := J3r off0
  subst eW_
  by_cases h256 : i < 256
  ·
   have _f := h256
   have hbad := hlow i h256
   go_upto_region 2 with fail
   refine wp_region_lit ?_
   refine Lw ?_ (v := .bool true) (hv := by exact Q3e (i := i) (n := 256) (decide_eq_true h256) rfl rfl rfl)
   refine J0 ?_
   go_upto_region 4 with fail
   refine wp_region_lit ?_
   refine LnS ?_ (z := #[.int .u8 3, .int .u8 1]) (t := 5) (n := 2) (c := 2)
   intro J9c W4 Q7f hO h_
   replace k_t2 := k_t2.o hO
   replace k_t4 := k_t4.o hO
   replace Q5 := Sl.off Q5 hO f0
   replace off0 := off0.o hO
   have ow_s13 : Own W4 (.slice (some ⟨J9c, 0, none⟩) 2 2) [3, 1] := V7 h_ (by rfl) (by show 2 ≤ maxLen; decide)
   clear hO h_ Q7f
   refine Lw ?_ (v := .slice (some ⟨J0c, 0, none⟩) 32 32) (hv := by first | rfl | (go_simp; done) | (go_simp; with_reducible rfl))
   refine Lv ?_
   refine Lv ?_
   refine Lw ?_ (v := .int .u8 ((UInt8.ofNat i).toNat : Int)) (hv := by exact Q3f rfl rfl)
   refine LnS ?_ (z := #[.int .u8 ((UInt8.ofNat i).toNat : Int), .int .u8 0]) (t := 5) (n := 2) (c := 2)
   intro J9d W5 Q7g hO h_
   replace k_t2 := k_t2.o hO
   replace k_t4 := k_t4.o hO
   replace Q5 := Sl.off Q5 hO f0
   replace ow_s13 := Own.off ow_s13 hO f0
   replace off0 := off0.o hO
   have ow_s18 : Own W5 (.slice (some ⟨J9d, 0, none⟩) 2 2) [UInt8.ofNat i, 0] := V7 h_ (by rfl) (by show 2 ≤ maxLen; decide)
   clear hO h_ Q7g
   refine LnS ?_ (z := #[(.slice (some ⟨J9c, 0, none⟩) 2 2), .slice (some ⟨J0c, 0, none⟩) 32 32, v, (.slice (some ⟨J9d, 0, none⟩) 2 2)]) (t := 23) (n := 4) (c := 4) (hr := by exact J43 [(.slice (some ⟨J9c, 0, none⟩) 2 2), .slice (some ⟨J0c, 0, none⟩) 32 32, v, (.slice (some ⟨J9d, 0, none⟩) 2 2)] rfl rfl (vsc ((J36 ow_s13).1) (vsc (rfl) (vsc ((J3f Q5).1) (vsc ((J36 ow_s18).1) vs0)))) Tryd.underlying112 (by kernel_rfl) (by kernel_rfl) rfl (by decide) (by decide))
   intro Z0n W6 Q7h hO h_
   replace k_t2 := k_t2.o hO
   replace k_t4 := k_t4.o hO
   replace Q5 := Sl.off Q5 hO f0
   replace ow_s13 := Own.off ow_s13 hO f0
   replace ow_s18 := Own.off ow_s18 hO f0
   replace off0 := off0.o hO
   have k_s19 := h_
   clear hO h_ Q7h
   obtain ⟨U1, hU1⟩ := V2 (hs ([3, 1] ++ (lb 32 V) ++ L ++ [UInt8.ofNat i, 0]))
   have HU1 := Lib.hid hU1
   clear hU1
   refine Lr ?_ (J8z HU1.out [[3, 1], lb 32 V, L, [UInt8.ofNat i, 0]] (some ⟨Z0n, 0, none⟩) 4 (by simp only [List.flatten_cons, List.flatten_nil, List.append_nil, List.nil_append, List.append_assoc, List.cons_append]) (by first | omega | (simp only [List.length_append, List.length_cons, List.length_nil, J8]; omega)) (by simp) W6 (J7i k_s19 (pvc (ow_s13.sl) (pvc (J0j (V := V) (n := 32) (off := 0) k_t2 ap0 (by decide) (by decide)) (pvc Q5 (pvc (ow_s18.sl) pv0))))) (Q7 hG off0.ext).2.1)
   intro W7 hO
   replace k_t2 := k_t2.o hO
   replace k_t4 := k_t4.o hO
   replace Q5 := Sl.off Q5 hO f0
   replace off0 := off0.o hO
   clear hO
   refine LnA ?_ (z := J1 .u8 64 (Q6 0)) (t := 30) (k := .u8) (n := 64) (f := Q6 U1)
   intro J92 W9 J03 hO h_
   replace k_t2 := k_t2.o hO
   replace k_t4 := k_t4.o hO
   replace Q5 := Sl.off Q5 hO f0
   replace off0 := off0.o hO
   have k_t7 := h_
   clear hO h_ J03
   refine J0 ?_
   by_cases hdo : dOk (J3w V L i) = true
   ·
    have _f := hdo
    go_upto_region 5 with fail
    refine wp_region_lit ?_
    refine Lw ?_ (v := .slice (some ⟨J92, 0, none⟩) 32 64) (hv := by first | rfl | (go_simp; done) | (go_simp; with_reducible rfl))
    refine Lw ?_ (v := .pointer (some ⟨J92, 0, none⟩)) (hv := by first | rfl | (go_simp; done) | (go_simp; with_reducible rfl))
    refine J05 (vs := (J1 .u8 32 (Q6 (lo U1))).toList) (by rfl) rfl rfl k_t7 (J3z Z6q) (by kernel_rfl) (by kernel_rfl) ?_
    (try simp only [Act.put, mA, mB, mC])
    have hcb9 : lo U1 = J3w V L i := by rw [HU1.out]; rfl
    obtain ⟨dx, dt, dr, dc⟩ := J9p (kn := kn) hc (J5z V L i) hdo
    obtain ⟨dy, hdy⟩ := V2 (J3w V L i % 2 ^ 255)
    rw [← hdy] at dr dc
    clear hdy
    refine Lr ?_ (Q67 hcb9 (dc W9 (Q7 hG off0.ext).1))
    intro W10 hO
    replace k_t2 := k_t2.o hO
    replace k_t4 := k_t4.o hO
    replace k_t7 := k_t7.o hO
    replace Q5 := Sl.off Q5 hO f0
    replace off0 := off0.o hO
    clear hO
    refine Lv ?_
    refine Lv ?_
    refine Lw ?_ (v := .int .i64 0)
    refine LnP ?_ (z := p4 0 0 0 0) (t := 60) (cells := p4 dx dy 1 dt)
    intro J1x W12 V6 hO h_
    have nq_t2_t8 := bn k_t2 V6
    have nq_t4_t8 := bn k_t4 V6
    have nq_t7_t8 := bn k_t7 V6
    have Q2g := J0m (Sl.lt Q5) V6
    have J1v := fbn off0 V6
    replace k_t2 := k_t2.o hO
    replace k_t4 := k_t4.o hO
    replace k_t7 := k_t7.o hO
    replace Q5 := Sl.off Q5 hO f0
    replace off0 := off0.o hO
    have k_t8 := h_
    clear hO h_ V6
    refine Lw ?_ (v := .int .i64 0)
    refine J0 ?_
    go_upto_region 7 with fail
    refine wp_region_lit ?_
    refine L0 ?_ k_t8
    obtain ⟨ex, ey, ez, et, er, ec⟩ := J84 (kn := kn) dr.rw
    refine Lr ?_ (ec W12 (Q7 hG off0.ext).1)
    intro W13 hO
    replace k_t2 := k_t2.o hO
    replace k_t4 := k_t4.o hO
    replace k_t7 := k_t7.o hO
    replace k_t8 := k_t8.o hO
    replace Q5 := Sl.off Q5 hO f0
    replace off0 := off0.o hO
    clear hO
    refine Lp ?_ k_t8 (cells := p4 ex ey ez et)
    intro W14 hO h_
    replace k_t8 : Blk W14 J1x (p4 ex ey ez et) 60 := h_
    clear h_
    replace k_t2 := k_t2.p hO nq_t2_t8
    replace k_t4 := k_t4.p hO nq_t4_t8
    replace k_t7 := k_t7.p hO nq_t7_t8
    replace Q5 := Sl.off Q5 hO (f1 Q2g)
    replace off0 := off0.p hO J1v
    clear hO
    refine J0 ?_
    go_upto_region 8 with fail
    refine wp_region_lit ?_
    refine L0 ?_ k_t8
    refine Lw ?_ (v := .agg (p4 0 0 0 0)) (hv := by kernel_rfl)
    have cs_ := Q1o (kn := kn) er.rw Q0g
    rw [show decide (pm (dPt (J3w V L i)) 8 = p0) = true from decide_eq_true (Q2h hbad hdo)] at cs_
    refine Lr ?_ (cs_ W14 (Q7 hG off0.ext).1)
    intro W15 hO
    replace k_t2 := k_t2.o hO
    replace k_t4 := k_t4.o hO
    replace k_t7 := k_t7.o hO
    replace Q5 := Sl.off Q5 hO f0
    replace off0 := off0.o hO
    clear hO
    refine Lw ?_ (v := .bool false)
    refine J0 ?_
    go_upto_region 10 with fail
    refine wp_region_lit ?_
    refine Lw ?_ (v := .int .i64 (((i + 1 : Nat) : Int))) (hv := by go_simp; (try simp only [IntKind.wrap_i64]); (try omega))
    refine Lv ?_
    refine J0 ?_
    go_wp2
    go_roundw
    case rel => exact ⟨i + 1, by omega, by go_num, off0, k_t2, k_t4, Q5⟩
    case measure => simp [intOf]; omega
   ·
    have _f := hdo
    replace hdo : dOk (J3w V L i) = false := by simpa using hdo
    go_upto_region 5 with fail
    refine wp_region_lit ?_
    refine Lw ?_ (v := .slice (some ⟨J92, 0, none⟩) 32 64) (hv := by first | rfl | (go_simp; done) | (go_simp; with_reducible rfl))
    refine Lw ?_ (v := .pointer (some ⟨J92, 0, none⟩)) (hv := by first | rfl | (go_simp; done) | (go_simp; with_reducible rfl))
    refine J05 (vs := (J1 .u8 32 (Q6 (lo U1))).toList) (by rfl) rfl rfl k_t7 (J3z Z6q) (by kernel_rfl) (by kernel_rfl) ?_
    (try simp only [Act.put, mA, mB, mC])
    have hcb9 : lo U1 = J3w V L i := by rw [HU1.out]; rfl
    refine Lr ?_ (Q67 hcb9 (Q5b (kn := kn) hc (J5z V L i) hdo W9 (Q7 hG off0.ext).1))
    intro W10 hO
    replace k_t2 := k_t2.o hO
    replace k_t4 := k_t4.o hO
    replace Q5 := Sl.off Q5 hO f0
    replace off0 := off0.o hO
    clear hO
    refine Lv ?_
    refine Lv ?_
    refine Lw ?_ (v := .int .i64 15)
    refine LnP ?_ (z := p4 0 0 0 0) (t := 60) (cells := p4 0 0 0 0)
    intro J1x W12 V6 hO h_
    replace k_t2 := k_t2.o hO
    replace k_t4 := k_t4.o hO
    replace Q5 := Sl.off Q5 hO f0
    replace off0 := off0.o hO
    clear hO h_ V6
    refine Lw ?_ (v := .int .i64 15)
    refine J0 ?_
    go_upto_region 10 with fail
    refine wp_region_lit ?_
    refine Lw ?_ (v := .int .i64 (((i + 1 : Nat) : Int))) (hv := by go_simp; (try simp only [IntKind.wrap_i64]); (try omega))
    refine Lv ?_
    refine J0 ?_
    go_wp2
    go_roundw
    case rel => exact ⟨i + 1, by omega, by go_num, off0, k_t2, k_t4, Q5⟩
    case measure => simp [intOf]; omega
  ·
   have _f := h256
   go_upto_region 2 with fail
   refine wp_region_lit ?_
   refine Lw ?_ (v := .bool false) (hv := by exact Q3e (i := i) (n := 256) (decide_eq_false h256) rfl rfl rfl)
   refine J0 ?_
   go_upto_region 11 with fail
   refine wp_region_lit ?_
   refine Lw ?_ (v := .agg (p4 0 0 0 0)) (hv := by kernel_rfl)
   refine Lp ?_ k_t4 (cells := p4 0 0 0 0)
   intro W4 hO h_
   replace k_t4 : Blk W4 J6r (p4 0 0 0 0) 60 := h_
   clear h_
   replace off0 := off0.p hO J2d
   clear hO
   refine Lw ?_ (v := .int .i64 15)
   refine J0 ?_
   go_wp2
   exact bodyPost_ret (V8 rfl rfl rfl k_t4 (by kernel_rfl) (by kernel_rfl)) rfl ⟨rfl, off0.ext⟩
end Go.Proofs.YtefpoollmbmkfaaDoor

namespace Go.Proofs.YtefpoollmbmkfaaDoor
set_option maxHeartbeats 2000000
set_option maxRecDepth 100000
open Go.RowKit
attribute [local irreducible] wpList
variable {kn : Kn}
open Sc (LL J21)
attribute [local irreducible] hs
def q4 (a b c d : Array Value) : Array Value := a ++ b ++ c ++ d
section
variable {X1 Y1 Z1 T1 X2 Y2 Z2 T2 X3 Y3 Z3 T3 X4 Y4 Z4 T4 : Nat}
theorem Z72 {X Y Z T : Nat} : (p4 X Y Z T).size = 16 := rfl
theorem V5t : ∀ i v, (p4 X1 Y1 Z1 T1)[i]? = some v → (q4 (p4 X1 Y1 Z1 T1) (p4 X2 Y2 Z2 T2) (p4 X3 Y3 Z3 T3) (p4 X4 Y4 Z4 T4))[0 + i]? = some v := fun i v h => by rw [Nat.zero_add]; exact J5h (J5h (J5h h))
theorem V5u : ∀ i v, (p4 X2 Y2 Z2 T2)[i]? = some v → (q4 (p4 X1 Y1 Z1 T1) (p4 X2 Y2 Z2 T2) (p4 X3 Y3 Z3 T3) (p4 X4 Y4 Z4 T4))[16 + i]? = some v := fun i v h => J5h (J5h (Q0x Z72 h))
theorem V5v : ∀ i v, (p4 X3 Y3 Z3 T3)[i]? = some v → (q4 (p4 X1 Y1 Z1 T1) (p4 X2 Y2 Z2 T2) (p4 X3 Y3 Z3 T3) (p4 X4 Y4 Z4 T4))[32 + i]? = some v := fun i v h => J5h (Q0x (by rw [Array.size_append, Z72, Z72]) h)
theorem V5w : ∀ i v, (p4 X4 Y4 Z4 T4)[i]? = some v → (q4 (p4 X1 Y1 Z1 T1) (p4 X2 Y2 Z2 T2) (p4 X3 Y3 Z3 T3) (p4 X4 Y4 Z4 T4))[48 + i]? = some v := fun i v h => Q0x (by rw [Array.size_append, Array.size_append, Z72, Z72, Z72]) h
end
theorem Y1v {e n : Nat} {F : List Nat} (h : Fb e n F) : Fr (some e) n F := fun x hx hlt => by have := Option.some.inj hx; subst this; exact h hlt
theorem Y1w {e b : Nat} (h : b ≠ e) : some e ≠ some b := fun k => h (Option.some.inj k).symm
theorem Y5p {w : World} {v : Value} {t : TypeId} {vs : List Value} {ps : List (List UInt8)} (h : Row t 1 w v (vs.map fun x => [x])) (hn : ps.length = vs.length) (hv : ∀ (i : Nat) (l : List UInt8), ps[i]? = some l → ∃ u, vs[i]? = some u ∧ Sl w u l) (h0 : 0 < vs.length) :
    ∃ A c, v = .slice A ps.length c ∧ ∀ (i : Nat) (l : List UInt8), ps[i]? = some l → ∃ ad u, A = some ad ∧ w.cell? (ad.add i) = some u ∧ Sl w u l := by
  have h1 : (vs.map fun x => [x])[0]? = some [vs[0]] := by rw [List.getElem?_map, List.getElem?_eq_getElem h0]; rfl
  obtain ⟨g, c, hv0, _⟩ := h.at h1
  rw [List.length_map, ← hn] at hv0
  refine ⟨_, c, hv0, fun i l hi => ?_⟩
  obtain ⟨u, hu, hs⟩ := hv i l hi
  have h2 : (vs.map fun x => [x])[i]? = some [u] := by rw [List.getElem?_map, hu]; rfl
  obtain ⟨g', c', hv', hc⟩ := h.at h2
  rw [List.length_map, ← hn, hv0] at hv'
  injection hv' with e1 _ _
  injection e1 with e1
  injection e1 with e1 _ _
  subst e1
  have := hc 0 u rfl
  rw [Nat.mul_one, Nat.add_zero] at this
  exact ⟨_, u, rfl, by rw [Addr.add_mid, Nat.zero_add]; exact this, hs⟩
theorem Z73 {ops : Array Oper} {Q : Exit → Act → World → Prop} {w : World} {r : List Oper} {o : Oper} {a : Act} {x y : Operand} {v : Value} {l : List UInt8} {g : Nat} {cur : Array Value} {t : TypeId} {n c : Nat} (hs : Sl w v l) (hB : Blk w g cur t) (hcur : cur.size = n) (hn : l.length ≤ n) (hp : 0 < l.length) (hw : Region.wanted o (yielded ops a.tmps) = true)
    (ho : o.op = .call { callee := .builtin .copy, args := #[x, y], argTypes := #[23, 23] }) (hx : a.eval x = .slice (some ⟨g, 0, none⟩) n c) (hy : a.eval y = v)
    (h : ∀ W, Off [g] w W → Blk W g (bs8 l ++ cur.toList.drop l.length).toArray t → wpList Tryd.prog ops Q r (a.put o.dst (goInt l.length)) W) : wpList Tryd.prog ops Q (o :: r) a w := by
  obtain ⟨A, cc, rfl, h1, h2, h0, h3⟩ := hs
  obtain ⟨ad, rfl, _⟩ := h3 0 l[0] (List.getElem?_eq_getElem hp)
  have hrun := run_copy_row (P := Tryd.prog) w 23 23 o.type 5 g 0 n c ad l.length cc cur t (bs8 l) Tryd.underlying23 Q4h hB (by rw [J0o]; exact (Nat.min_eq_left hn).symm) (fun j u hj => by
    simp only [bs8, List.getElem?_map, Option.map_eq_some_iff] at hj
    obtain ⟨z, hz, rfl⟩ := hj
    obtain ⟨ad', e, hc⟩ := h3 j z hz
    obtain rfl := Option.some.inj e
    exact hc) (by rw [J0o]; omega) (Q4f l)
  have e : (cur.toList.take 0 ++ bs8 l ++ cur.toList.drop (0 + (bs8 l).length)) = bs8 l ++ cur.toList.drop l.length := by
    rw [List.take_zero, List.nil_append, Nat.zero_add, J0o]
  rw [e] at hrun
  have h4 : Blk (w.setRow g (bs8 l ++ cur.toList.drop l.length).toArray) g (bs8 l ++ cur.toList.drop l.length).toArray t := V0 hB _
  refine J7f hw (v := goInt l.length) (W := w.setRow g (bs8 l ++ cur.toList.drop l.length).toArray) ?_ (h _ ⟨rfl, rfl, rfl, by simp, fun k _ hk => setRow_other w g k _ (by simpa using hk)⟩ h4)
  unfold execOp
  simp only [ho, resolve, invoke, builtin, Sem.run_bind, Sem.run_pure, Result.andThen_ok, List.map_toArray, List.map_cons, List.map_nil, hx, hy, hrun, J0o]
theorem Z29 {l : List UInt8} (hl : l.length = 16) : (bs8 l ++ (J1 .u8 32 (Q6 0)).toList.drop l.length).toArray = J1 .u8 32 (Q6 (le l)) := by
  have h1 := Z3q l
  rw [hl] at h1 ⊢
  have e : le l / 2 ^ (8 * 16) = 0 := Nat.div_eq_of_lt h1
  have hR : (J1 .u8 32 (Q6 (le l))).toList = bs8 l ++ bs8 (lb 16 0) := by rw [J5n, ← Q32, show lb 32 (le l) = lb 16 (le l) ++ lb 16 (le l / 2 ^ (8 * 16)) from Q3c 16 16 _, e, Y1n hl, J74]
  apply Array.ext'
  rw [hR]
  show bs8 l ++ _ = _
  congr 1

theorem V0r (v : Value) (l : List UInt8) (hl : l.length = 16) (w : World) (hsl : Sl w v l) :
  Calls Tryd.prog 66 #[v] w fun e w' => Ret (.agg (J1 .u8 32 (Q6 (le l)))) w w' e := by
 have Q5 := hsl
 have off0 : Off [] w w := Off.refl _ _
 go_enter Tryd.func66, Tryd.ntmps66
 go_upto_region 0 with fail
 refine wp_region_lit ?_
 refine Ln ?_ (z := J1 .u8 32 (Q6 0)) (t := 22)
 intro J0c W1 U0 hO h_
 have J01 := fbn off0 U0
 replace Q5 := Sl.off Q5 hO f0
 replace off0 := off0.o hO
 have k_t2 := h_
 clear hO h_ U0
 refine J0 ?_
 go_upto_region 1 with fail
 refine wp_region_lit ?_
 refine Ln ?_ (z := J1 .u8 32 (Q6 0)) (t := 22)
 intro J6g W2 J13 hO h_
 have nq_t2_t3 := bn k_t2 J13
 have J5f := fbn off0 J13
 replace k_t2 := k_t2.o hO
 replace Q5 := Sl.off Q5 hO f0
 replace off0 := off0.o hO
 have k_t3 := h_
 clear hO h_ J13
 refine J0 ?_
 go_upto_region 2 with fail
 refine wp_region_lit ?_
 refine Lw ?_ (v := .slice (some ⟨J6g, 0, none⟩) 32 32) (hv := by first | rfl | (go_simp; done) | (go_simp; with_reducible rfl))
 refine Lv ?_
 refine Z73 Q5 k_t3 (by rw [Q1]) (by omega) (by omega) (by rfl) rfl rfl rfl ?_
 (try simp only [Act.put, mA, mB, mC])
 intro W3 hO h_
 rw [Z29 hl] at h_
 replace k_t3 : Blk W3 J6g (J1 .u8 32 (Q6 (le l))) 22 := h_
 clear h_
 replace k_t2 := k_t2.p hO nq_t2_t3
 replace off0 := off0.p hO J5f
 clear hO
 refine J0 ?_
 go_upto_region 3 with fail
 refine wp_region_lit ?_
 refine L0A ?_ k_t3
 refine LpA ?_ k_t2 (k := .u8) (n := 32) (f := Q6 (le l))
 intro W4 hO h_
 replace k_t2 : Blk W4 J0c (J1 .u8 32 (Q6 (le l))) 22 := h_
 clear h_
 replace off0 := off0.p hO J01
 clear hO
 refine J0 ?_
 go_wp2
 exact bodyPost_ret (K6 rfl rfl k_t2 (by kernel_rfl) (by rw [Q1]; kernel_rfl)) rfl ⟨rfl, off0.ext⟩
theorem Z2a {V X : Nat} {X1 Y1 Z1 T1 : Nat} {a1 : Pr} (h1 : RN X1 Y1 Z1 T1 a1) {X2 Y2 Z2 T2 : Nat} {a2 : Pr} (h2 : RN X2 Y2 Z2 T2 a2) {X3 Y3 Z3 T3 : Nat} {a3 : Pr} (h3 : RN X3 Y3 Z3 T3 a3) {X4 Y4 Z4 T4 : Nat} {a4 : Pr} (h4 : RN X4 Y4 Z4 T4 a4) (hX : X = chH V a1 a2 a3 a4) :
  ∀ gP w, GA kn w → Blk w gP (q4 (p4 X1 Y1 Z1 T1) (p4 X2 Y2 Z2 T2) (p4 X3 Y3 Z3 T3) (p4 X4 Y4 Z4 T4)) 60 → Calls Tryd.prog 61 #[.agg (J1 .u8 32 (Q6 V)), .slice (some ⟨gP, 0, none⟩) 4 4] w fun e w' => ∃ p, e = .returned (.slice (some ⟨p, 0, none⟩) 16 64) ∧ w.heap.size ≤ p ∧ Off [] w w' ∧ Blk w' p (J1 .u8 64 (Q6 X)) 30 := by
 obtain ⟨U1, hU1⟩ := V2 (enc a1)
 have bU1 : U1 < 2 ^ 256 := by rw [hU1]; exact J4r _
 have HU1 := Lib.hid hU1
 clear hU1
 obtain ⟨U2, hU2⟩ := V2 (enc a2)
 have bU2 : U2 < 2 ^ 256 := by rw [hU2]; exact J4r _
 have HU2 := Lib.hid hU2
 clear hU2
 obtain ⟨U3, hU3⟩ := V2 (enc a3)
 have bU3 : U3 < 2 ^ 256 := by rw [hU3]; exact J4r _
 have HU3 := Lib.hid hU3
 clear hU3
 obtain ⟨U4, hU4⟩ := V2 (enc a4)
 have bU4 : U4 < 2 ^ 256 := by rw [hU4]; exact J4r _
 have HU4 := Lib.hid hU4
 clear hU4
 obtain ⟨U5, hU5⟩ := V2 (hs ([3, 2] ++ (lb 32 V) ++ (lb 32 U1) ++ (lb 32 U2) ++ (lb 32 U3) ++ (lb 32 U4) ++ [0]))
 have HU5 := Lib.hid hU5
 clear hU5
 intro gP w hG hP
 have k_pp := hP
 have off0 : Off [] w w := Off.refl _ _
 go_enter Tryd.func61, Tryd.ntmps61
 go_upto_region 0 with fail
 refine wp_region_lit ?_
 refine Ln ?_ (z := J1 .u8 32 (Q6 V)) (t := 22)
 intro J0c W1 U0 hO h_
 replace k_pp := k_pp.o hO
 replace off0 := off0.o hO
 have k_t2 := h_
 clear hO h_ U0
 refine Lv ?_
 refine J0 ?_
 go_upto_region 1 with fail
 refine wp_region_lit ?_
 refine LnS ?_ (z := #[.int .u8 3, .int .u8 2]) (t := 5) (n := 2) (c := 2)
 intro J49 W2 V3w hO h_
 replace k_pp := k_pp.o hO
 replace k_t2 := k_t2.o hO
 replace off0 := off0.o hO
 have ow_s10 : Own W2 (.slice (some ⟨J49, 0, none⟩) 2 2) [3, 2] := V7 h_ (by rfl) (by show 2 ≤ maxLen; decide)
 clear hO h_ V3w
 refine Lw ?_ (v := .slice (some ⟨J0c, 0, none⟩) 32 32)
 have J0t : Sl W2 (.slice (some ⟨J0c, 0, none⟩) 32 32) (lb 32 V) := (J0j (V := V) (n := 32) (off := 0) k_t2 ap0 (by decide) (by decide))
 refine LnS ?_ (z := #[(.slice (some ⟨J49, 0, none⟩) 2 2), (.slice (some ⟨J0c, 0, none⟩) 32 32)]) (t := 23) (n := 2) (c := 2) (hr := by exact J43 [(.slice (some ⟨J49, 0, none⟩) 2 2), (.slice (some ⟨J0c, 0, none⟩) 32 32)] rfl rfl (vsc ((J36 ow_s10).1) (vsc ((J3f J0t).1) vs0)) Tryd.underlying112 (by kernel_rfl) (by kernel_rfl) rfl (by decide) (by decide))
 intro Q00 W3 Q2i hO h_
 have Q7i := bn k_pp Q2i
 have Q68 := J0m (Own.lt ow_s10) Q2i
 have Q7j := J0m (Sl.lt J0t) Q2i
 have Y1x := fbn off0 Q2i
 replace k_pp := k_pp.o hO
 replace ow_s10 := Own.off ow_s10 hO f0
 replace J0t := Sl.off J0t hO f0
 replace off0 := off0.o hO
 have Y7l := h_
 clear hO h_ Q2i
 have J1q : Row 23 1 W3 (.slice (some ⟨Q00, 0, none⟩) 2 2) ([(.slice (some ⟨J49, 0, none⟩) 2 2), (.slice (some ⟨J0c, 0, none⟩) 32 32)].map fun x => [x]) := Y4i Y7l (es := [(.slice (some ⟨J49, 0, none⟩) 2 2), (.slice (some ⟨J0c, 0, none⟩) 32 32)].map fun x => [x]) rfl (by simp) (by show 2 ≤ maxLen; decide)
 have Q3g : Fr (Value.ownBlock (.slice (some ⟨Q00, 0, none⟩) 2 2)) w.heap.size [] := Y1v Y1x
 have J93 : Value.ownBlock (.slice (some ⟨Q00, 0, none⟩) 2 2) ≠ some gP := Y1w Q7i
 have Z0o : ∀ x, (Value.ownBlock (.slice (some ⟨J49, 0, none⟩) 2 2)) = some x → Value.ownBlock (.slice (some ⟨Q00, 0, none⟩) 2 2) ≠ some x := fun x h1 h2 => Q68 (h1.trans h2.symm)
 have Z55 : ∀ x, (sb (.slice (some ⟨J0c, 0, none⟩) 32 32) (lb 32 V)) = some x → Value.ownBlock (.slice (some ⟨Q00, 0, none⟩) 2 2) ≠ some x := fun x h1 h2 => Q7j (h1.trans h2.symm)
 clear Y7l Y1x Q7i Q68 Q7j
 refine Lv ?_
 refine J0 ?_
 go_upto_region 2 with fail
 refine wp_region_lit ?_
 refine Lv ?_
 refine Lw ?_ (v := .int .i64 4)
 refine Lw ?_ (v := .int .i64 0)
 refine J0 ?_
 go_wp2_with fail
 refine wp_loop_rounds 5 ?_
 rw [rounds_succ]
 go_upto_region 4 with fail
 refine wp_region_lit ?_
 refine Lw ?_ (v := .pointer (some ⟨gP, 0, none⟩)) (hv := by exact (Q4j (ad := ⟨gP, 0, none⟩) (j := 0) (k := 16) (n := 4) (c := 4) (by decide) rfl rfl rfl Tryd.underlying135 (by kernel_rfl)).trans (by rw [Addr.add_mid]))
 refine J05 (vs := (p4 X1 Y1 Z1 T1).toList) (by rfl) rfl rfl k_pp (J3z V5t) (by kernel_rfl) (by kernel_rfl) ?_
 (try simp only [Act.put, mA, mB, mC])
 refine LnP ?_ (z := p4 0 0 0 0) (t := 60) (cells := p4 X1 Y1 Z1 T1)
 intro V7h W5 J03 hO h_
 have J4k := J0m (Row.lt J1q) J03
 replace k_pp := k_pp.o hO
 replace ow_s10 := Own.off ow_s10 hO f0
 replace J0t := Sl.off J0t hO f0
 replace J1q := Row.off J1q hO f0
 replace off0 := off0.o hO
 have k_t7 := h_
 clear hO h_ J03
 refine J0 ?_
 go_upto_region 5 with fail
 refine wp_region_lit ?_
 refine L0 ?_ k_t7
 refine Lr ?_ (J9z h1.rw HU1.out W5 (Q7 hG off0.ext).1)
 intro W6 hO
 replace k_pp := k_pp.o hO
 replace k_t7 := k_t7.o hO
 replace ow_s10 := Own.off ow_s10 hO f0
 replace J0t := Sl.off J0t hO f0
 replace J1q := Row.off J1q hO f0
 replace off0 := off0.o hO
 clear hO
 refine LnA ?_ (z := J1 .u8 32 (Q6 0)) (t := 22) (k := .u8) (n := 32) (f := Q6 U1)
 intro J7t W8 V6 hO h_
 have J2b := J0m (Row.lt J1q) V6
 replace k_pp := k_pp.o hO
 replace k_t7 := k_t7.o hO
 replace ow_s10 := Own.off ow_s10 hO f0
 replace J0t := Sl.off J0t hO f0
 replace J1q := Row.off J1q hO f0
 replace off0 := off0.o hO
 have k_t8 := h_
 clear hO h_ V6
 refine J0 ?_
 go_upto_region 6 with fail
 refine wp_region_lit ?_
 refine Lv ?_
 refine Lw ?_ (v := .slice (some ⟨J7t, 0, none⟩) 32 32)
 have J12 : Sl W8 (.slice (some ⟨J7t, 0, none⟩) 32 32) (lb 32 U1) := (J0j (V := U1) (n := 32) (off := 0) k_t8 ap0 (by decide) (by decide))
 have J44 : ∀ x, (Value.ownBlock (.slice (some ⟨Q00, 0, none⟩) 2 2)) = some x → sb (.slice (some ⟨J7t, 0, none⟩) 32 32) (lb 32 U1) ≠ some x := Q8s J2b
 refine LnS ?_ (z := #[(.slice (some ⟨J7t, 0, none⟩) 32 32)]) (t := 23) (n := 1) (c := 1) (hr := by exact J43 [(.slice (some ⟨J7t, 0, none⟩) 32 32)] rfl rfl (vsc ((J3f J12).1) vs0) Tryd.underlying112 (by kernel_rfl) (by kernel_rfl) rfl (by decide) (by decide))
 intro V6w W9 J7k hO h_
 have J37 := J0m (Row.lt J1q) J7k
 replace k_pp := k_pp.o hO
 replace k_t7 := k_t7.o hO
 replace k_t8 := k_t8.o hO
 replace ow_s10 := Own.off ow_s10 hO f0
 replace J0t := Sl.off J0t hO f0
 replace J1q := Row.off J1q hO f0
 replace J12 := Sl.off J12 hO f0
 replace off0 := off0.o hO
 have J4g := h_
 clear hO h_ J7k
 refine J68 (es := ([(.slice (some ⟨J49, 0, none⟩) 2 2), (.slice (some ⟨J0c, 0, none⟩) 32 32)].map fun x => [x])) (cs := #[(.slice (some ⟨J7t, 0, none⟩) 32 32)]) (bytes := 24) (by rfl) rfl rfl rfl J1q J4g rfl (Z9y (J3f J12).2) (by first | decide | (show 0 < 1; decide)) Tryd.underlying112 (by kernel_rfl) (by first | omega | (simp only [List.length_append, List.length_cons, List.length_nil, J8]; omega) | (simp; done)) (by unfold maxLen; first | omega | (simp only [List.length_append, List.length_cons, List.length_nil, J8]; omega) | (simp; done)) ?_
 (try simp only [Act.put, mA, mB, mC])
 intro Z2b W10 ow_a24 hO J0u
 replace ow_a24 : Row 23 1 W10 Z2b (([(.slice (some ⟨J49, 0, none⟩) 2 2), (.slice (some ⟨J0c, 0, none⟩) 32 32)].map fun x => [x]) ++ [[(.slice (some ⟨J7t, 0, none⟩) 32 32)]]) := ow_a24
 have Q3h := J15 J0u J93 (J5 k_pp)
 have J6y := J15 J0u J4k (J5 k_t7)
 have J8c := J15 J0u J2b (J5 k_t8)
 have Q1e := J15 J0u J37 (J5 J4g)
 have J4t := J0r J0u (Q4e Z0o) (Own.lt ow_s10)
 have J5p := J0r J0u (Q4e Z55) (Sl.lt J0t)
 have J5q := J0r J0u J44 (Sl.lt J12)
 have J94 := J0i J0u Q3g off0.size
 replace k_pp := K3 k_pp hO (nmo J93)
 replace k_t7 := K3 k_t7 hO (nmo J4k)
 replace k_t8 := K3 k_t8 hO (nmo J2b)
 replace J4g := K3 J4g hO (nmo J37)
 replace ow_s10 := Own.off ow_s10 hO (fo (Q4e Z0o))
 replace J0t := Sl.off J0t hO (fo (Q4e Z55))
 replace J12 := Sl.off J12 hO (fo J44)
 replace off0 := off0.step hO (io Q3g)
 clear hO J0u
 replace ow_a24 : Row 23 1 W10 Z2b ([(.slice (some ⟨J49, 0, none⟩) 2 2), (.slice (some ⟨J0c, 0, none⟩) 32 32), (.slice (some ⟨J7t, 0, none⟩) 32 32)].map fun x => [x]) := ow_a24
 have J1q := ow_a24
 clear ow_a24
 have Q3g := J94
 have J93 := Q3h
 have J4k := J6y
 have J2b := J8c
 have J37 := Q1e
 have J4h := J4t
 have J60 := J5p
 have J44 := J5q
 clear J4g J37
 refine Lv ?_
 refine J0 ?_
 go_wp2_with fail
 rw [rounds_succ]
 go_upto_region 4 with fail
 refine wp_region_lit ?_
 refine Lw ?_ (v := .pointer (some ⟨gP, 16, none⟩)) (hv := by exact (Q4j (ad := ⟨gP, 0, none⟩) (j := 1) (k := 16) (n := 4) (c := 4) (by decide) rfl rfl rfl Tryd.underlying135 (by kernel_rfl)).trans (by rw [Addr.add_mid]))
 refine J05 (vs := (p4 X2 Y2 Z2 T2).toList) (by rfl) rfl rfl k_pp (J3z V5u) (by kernel_rfl) (by kernel_rfl) ?_
 (try simp only [Act.put, mA, mB, mC])
 clear k_t7 J4k
 refine LnP ?_ (z := p4 0 0 0 0) (t := 60) (cells := p4 X2 Y2 Z2 T2)
 intro J45 W12 J03 hO h_
 have J4k := J0m (Row.lt J1q) J03
 replace k_pp := k_pp.o hO
 replace k_t8 := k_t8.o hO
 replace ow_s10 := Own.off ow_s10 hO f0
 replace J0t := Sl.off J0t hO f0
 replace J12 := Sl.off J12 hO f0
 replace J1q := Row.off J1q hO f0
 replace off0 := off0.o hO
 have k_t7 := h_
 clear hO h_ J03
 refine J0 ?_
 go_upto_region 5 with fail
 refine wp_region_lit ?_
 refine L0 ?_ k_t7
 refine Lr ?_ (J9z h2.rw HU2.out W12 (Q7 hG off0.ext).1)
 intro W13 hO
 replace k_pp := k_pp.o hO
 replace k_t8 := k_t8.o hO
 replace k_t7 := k_t7.o hO
 replace ow_s10 := Own.off ow_s10 hO f0
 replace J0t := Sl.off J0t hO f0
 replace J12 := Sl.off J12 hO f0
 replace J1q := Row.off J1q hO f0
 replace off0 := off0.o hO
 clear hO
 clear k_t8 J2b
 refine LnA ?_ (z := J1 .u8 32 (Q6 0)) (t := 22) (k := .u8) (n := 32) (f := Q6 U2)
 intro J5i W15 V6 hO h_
 have J2b := J0m (Row.lt J1q) V6
 replace k_pp := k_pp.o hO
 replace k_t7 := k_t7.o hO
 replace ow_s10 := Own.off ow_s10 hO f0
 replace J0t := Sl.off J0t hO f0
 replace J12 := Sl.off J12 hO f0
 replace J1q := Row.off J1q hO f0
 replace off0 := off0.o hO
 have k_t8 := h_
 clear hO h_ V6
 refine J0 ?_
 go_upto_region 6 with fail
 refine wp_region_lit ?_
 refine Lv ?_
 refine Lw ?_ (v := .slice (some ⟨J5i, 0, none⟩) 32 32)
 have J1y : Sl W15 (.slice (some ⟨J5i, 0, none⟩) 32 32) (lb 32 U2) := (J0j (V := U2) (n := 32) (off := 0) k_t8 ap0 (by decide) (by decide))
 have J61 : ∀ x, (Value.ownBlock Z2b) = some x → sb (.slice (some ⟨J5i, 0, none⟩) 32 32) (lb 32 U2) ≠ some x := Q8s J2b
 refine LnS ?_ (z := #[(.slice (some ⟨J5i, 0, none⟩) 32 32)]) (t := 23) (n := 1) (c := 1) (hr := by exact J43 [(.slice (some ⟨J5i, 0, none⟩) 32 32)] rfl rfl (vsc ((J3f J1y).1) vs0) Tryd.underlying112 (by kernel_rfl) (by kernel_rfl) rfl (by decide) (by decide))
 intro V5x W16 J7k hO h_
 have J37 := J0m (Row.lt J1q) J7k
 replace k_pp := k_pp.o hO
 replace k_t7 := k_t7.o hO
 replace k_t8 := k_t8.o hO
 replace ow_s10 := Own.off ow_s10 hO f0
 replace J0t := Sl.off J0t hO f0
 replace J12 := Sl.off J12 hO f0
 replace J1q := Row.off J1q hO f0
 replace J1y := Sl.off J1y hO f0
 replace off0 := off0.o hO
 have J4g := h_
 clear hO h_ J7k
 refine J68 (es := ([(.slice (some ⟨J49, 0, none⟩) 2 2), (.slice (some ⟨J0c, 0, none⟩) 32 32), (.slice (some ⟨J7t, 0, none⟩) 32 32)].map fun x => [x])) (cs := #[(.slice (some ⟨J5i, 0, none⟩) 32 32)]) (bytes := 24) (by rfl) rfl rfl rfl J1q J4g rfl (Z9y (J3f J1y).2) (by first | decide | (show 0 < 1; decide)) Tryd.underlying112 (by kernel_rfl) (by first | omega | (simp only [List.length_append, List.length_cons, List.length_nil, J8]; omega) | (simp; done)) (by unfold maxLen; first | omega | (simp only [List.length_append, List.length_cons, List.length_nil, J8]; omega) | (simp; done)) ?_
 (try simp only [Act.put, mA, mB, mC])
 intro Z2c W17 ow_a24 hO J0u
 replace ow_a24 : Row 23 1 W17 Z2c (([(.slice (some ⟨J49, 0, none⟩) 2 2), (.slice (some ⟨J0c, 0, none⟩) 32 32), (.slice (some ⟨J7t, 0, none⟩) 32 32)].map fun x => [x]) ++ [[(.slice (some ⟨J5i, 0, none⟩) 32 32)]]) := ow_a24
 have Q3h := J15 J0u J93 (J5 k_pp)
 have J6y := J15 J0u J4k (J5 k_t7)
 have J8c := J15 J0u J2b (J5 k_t8)
 have Q1e := J15 J0u J37 (J5 J4g)
 have J4t := J0r J0u J4h (Own.lt ow_s10)
 have J5p := J0r J0u J60 (Sl.lt J0t)
 have J5q := J0r J0u J44 (Sl.lt J12)
 have J8d := J0r J0u J61 (Sl.lt J1y)
 have J94 := J0i J0u Q3g off0.size
 replace k_pp := K3 k_pp hO (nmo J93)
 replace k_t7 := K3 k_t7 hO (nmo J4k)
 replace k_t8 := K3 k_t8 hO (nmo J2b)
 replace J4g := K3 J4g hO (nmo J37)
 replace ow_s10 := Own.off ow_s10 hO (fo J4h)
 replace J0t := Sl.off J0t hO (fo J60)
 replace J12 := Sl.off J12 hO (fo J44)
 replace J1y := Sl.off J1y hO (fo J61)
 replace off0 := off0.step hO (io Q3g)
 clear hO J0u
 replace ow_a24 : Row 23 1 W17 Z2c ([(.slice (some ⟨J49, 0, none⟩) 2 2), (.slice (some ⟨J0c, 0, none⟩) 32 32), (.slice (some ⟨J7t, 0, none⟩) 32 32), (.slice (some ⟨J5i, 0, none⟩) 32 32)].map fun x => [x]) := ow_a24
 have J1q := ow_a24
 clear ow_a24
 have Q3g := J94
 have J93 := Q3h
 have J4k := J6y
 have J2b := J8c
 have J37 := Q1e
 have J4h := J4t
 have J60 := J5p
 have J44 := J5q
 have J61 := J8d
 clear J4g J37
 refine Lv ?_
 refine J0 ?_
 go_wp2_with fail
 rw [rounds_succ]
 go_upto_region 4 with fail
 refine wp_region_lit ?_
 refine Lw ?_ (v := .pointer (some ⟨gP, 32, none⟩)) (hv := by exact (Q4j (ad := ⟨gP, 0, none⟩) (j := 2) (k := 16) (n := 4) (c := 4) (by decide) rfl rfl rfl Tryd.underlying135 (by kernel_rfl)).trans (by rw [Addr.add_mid]))
 refine J05 (vs := (p4 X3 Y3 Z3 T3).toList) (by rfl) rfl rfl k_pp (J3z V5v) (by kernel_rfl) (by kernel_rfl) ?_
 (try simp only [Act.put, mA, mB, mC])
 clear k_t7 J4k
 refine LnP ?_ (z := p4 0 0 0 0) (t := 60) (cells := p4 X3 Y3 Z3 T3)
 intro V6x W19 J03 hO h_
 have J4k := J0m (Row.lt J1q) J03
 replace k_pp := k_pp.o hO
 replace k_t8 := k_t8.o hO
 replace ow_s10 := Own.off ow_s10 hO f0
 replace J0t := Sl.off J0t hO f0
 replace J12 := Sl.off J12 hO f0
 replace J1y := Sl.off J1y hO f0
 replace J1q := Row.off J1q hO f0
 replace off0 := off0.o hO
 have k_t7 := h_
 clear hO h_ J03
 refine J0 ?_
 go_upto_region 5 with fail
 refine wp_region_lit ?_
 refine L0 ?_ k_t7
 refine Lr ?_ (J9z h3.rw HU3.out W19 (Q7 hG off0.ext).1)
 intro W20 hO
 replace k_pp := k_pp.o hO
 replace k_t8 := k_t8.o hO
 replace k_t7 := k_t7.o hO
 replace ow_s10 := Own.off ow_s10 hO f0
 replace J0t := Sl.off J0t hO f0
 replace J12 := Sl.off J12 hO f0
 replace J1y := Sl.off J1y hO f0
 replace J1q := Row.off J1q hO f0
 replace off0 := off0.o hO
 clear hO
 clear k_t8 J2b
 refine LnA ?_ (z := J1 .u8 32 (Q6 0)) (t := 22) (k := .u8) (n := 32) (f := Q6 U3)
 intro J76 W22 V6 hO h_
 have J2b := J0m (Row.lt J1q) V6
 replace k_pp := k_pp.o hO
 replace k_t7 := k_t7.o hO
 replace ow_s10 := Own.off ow_s10 hO f0
 replace J0t := Sl.off J0t hO f0
 replace J12 := Sl.off J12 hO f0
 replace J1y := Sl.off J1y hO f0
 replace J1q := Row.off J1q hO f0
 replace off0 := off0.o hO
 have k_t8 := h_
 clear hO h_ V6
 refine J0 ?_
 go_upto_region 6 with fail
 refine wp_region_lit ?_
 refine Lv ?_
 refine Lw ?_ (v := .slice (some ⟨J76, 0, none⟩) 32 32)
 have J3h : Sl W22 (.slice (some ⟨J76, 0, none⟩) 32 32) (lb 32 U3) := (J0j (V := U3) (n := 32) (off := 0) k_t8 ap0 (by decide) (by decide))
 have J95 : ∀ x, (Value.ownBlock Z2c) = some x → sb (.slice (some ⟨J76, 0, none⟩) 32 32) (lb 32 U3) ≠ some x := Q8s J2b
 refine LnS ?_ (z := #[(.slice (some ⟨J76, 0, none⟩) 32 32)]) (t := 23) (n := 1) (c := 1) (hr := by exact J43 [(.slice (some ⟨J76, 0, none⟩) 32 32)] rfl rfl (vsc ((J3f J3h).1) vs0) Tryd.underlying112 (by kernel_rfl) (by kernel_rfl) rfl (by decide) (by decide))
 intro V5y W23 J7k hO h_
 have J37 := J0m (Row.lt J1q) J7k
 replace k_pp := k_pp.o hO
 replace k_t7 := k_t7.o hO
 replace k_t8 := k_t8.o hO
 replace ow_s10 := Own.off ow_s10 hO f0
 replace J0t := Sl.off J0t hO f0
 replace J12 := Sl.off J12 hO f0
 replace J1y := Sl.off J1y hO f0
 replace J1q := Row.off J1q hO f0
 replace J3h := Sl.off J3h hO f0
 replace off0 := off0.o hO
 have J4g := h_
 clear hO h_ J7k
 refine J68 (es := ([(.slice (some ⟨J49, 0, none⟩) 2 2), (.slice (some ⟨J0c, 0, none⟩) 32 32), (.slice (some ⟨J7t, 0, none⟩) 32 32), (.slice (some ⟨J5i, 0, none⟩) 32 32)].map fun x => [x])) (cs := #[(.slice (some ⟨J76, 0, none⟩) 32 32)]) (bytes := 24) (by rfl) rfl rfl rfl J1q J4g rfl (Z9y (J3f J3h).2) (by first | decide | (show 0 < 1; decide)) Tryd.underlying112 (by kernel_rfl) (by first | omega | (simp only [List.length_append, List.length_cons, List.length_nil, J8]; omega) | (simp; done)) (by unfold maxLen; first | omega | (simp only [List.length_append, List.length_cons, List.length_nil, J8]; omega) | (simp; done)) ?_
 (try simp only [Act.put, mA, mB, mC])
 intro Z2d W24 ow_a24 hO J0u
 replace ow_a24 : Row 23 1 W24 Z2d (([(.slice (some ⟨J49, 0, none⟩) 2 2), (.slice (some ⟨J0c, 0, none⟩) 32 32), (.slice (some ⟨J7t, 0, none⟩) 32 32), (.slice (some ⟨J5i, 0, none⟩) 32 32)].map fun x => [x]) ++ [[(.slice (some ⟨J76, 0, none⟩) 32 32)]]) := ow_a24
 have J8c := J15 J0u J2b (J5 k_t8)
 have J4t := J0r J0u J4h (Own.lt ow_s10)
 have J5p := J0r J0u J60 (Sl.lt J0t)
 have J5q := J0r J0u J44 (Sl.lt J12)
 have J8d := J0r J0u J61 (Sl.lt J1y)
 have Q3i := J0r J0u J95 (Sl.lt J3h)
 have J94 := J0i J0u Q3g off0.size
 replace k_pp := K3 k_pp hO (nmo J93)
 replace k_t7 := K3 k_t7 hO (nmo J4k)
 replace k_t8 := K3 k_t8 hO (nmo J2b)
 replace J4g := K3 J4g hO (nmo J37)
 replace ow_s10 := Own.off ow_s10 hO (fo J4h)
 replace J0t := Sl.off J0t hO (fo J60)
 replace J12 := Sl.off J12 hO (fo J44)
 replace J1y := Sl.off J1y hO (fo J61)
 replace J3h := Sl.off J3h hO (fo J95)
 replace off0 := off0.step hO (io Q3g)
 clear hO J0u
 replace ow_a24 : Row 23 1 W24 Z2d ([(.slice (some ⟨J49, 0, none⟩) 2 2), (.slice (some ⟨J0c, 0, none⟩) 32 32), (.slice (some ⟨J7t, 0, none⟩) 32 32), (.slice (some ⟨J5i, 0, none⟩) 32 32), (.slice (some ⟨J76, 0, none⟩) 32 32)].map fun x => [x]) := ow_a24
 have J1q := ow_a24
 clear ow_a24
 have Q3g := J94
 have J2b := J8c
 have J4h := J4t
 have J60 := J5p
 have J44 := J5q
 have J61 := J8d
 have J95 := Q3i
 clear J4g J37
 refine Lv ?_
 refine J0 ?_
 go_wp2_with fail
 rw [rounds_succ]
 go_upto_region 4 with fail
 refine wp_region_lit ?_
 refine Lw ?_ (v := .pointer (some ⟨gP, 48, none⟩)) (hv := by exact (Q4j (ad := ⟨gP, 0, none⟩) (j := 3) (k := 16) (n := 4) (c := 4) (by decide) rfl rfl rfl Tryd.underlying135 (by kernel_rfl)).trans (by rw [Addr.add_mid]))
 refine J05 (vs := (p4 X4 Y4 Z4 T4).toList) (by rfl) rfl rfl k_pp (J3z V5w) (by kernel_rfl) (by kernel_rfl) ?_
 (try simp only [Act.put, mA, mB, mC])
 clear k_t7 J4k
 refine LnP ?_ (z := p4 0 0 0 0) (t := 60) (cells := p4 X4 Y4 Z4 T4)
 intro V6y W26 J03 hO h_
 replace k_t8 := k_t8.o hO
 replace ow_s10 := Own.off ow_s10 hO f0
 replace J0t := Sl.off J0t hO f0
 replace J12 := Sl.off J12 hO f0
 replace J1y := Sl.off J1y hO f0
 replace J3h := Sl.off J3h hO f0
 replace J1q := Row.off J1q hO f0
 replace off0 := off0.o hO
 have k_t7 := h_
 clear hO h_ J03
 refine J0 ?_
 go_upto_region 5 with fail
 refine wp_region_lit ?_
 refine L0 ?_ k_t7
 refine Lr ?_ (J9z h4.rw HU4.out W26 (Q7 hG off0.ext).1)
 intro W27 hO
 replace k_t8 := k_t8.o hO
 replace ow_s10 := Own.off ow_s10 hO f0
 replace J0t := Sl.off J0t hO f0
 replace J12 := Sl.off J12 hO f0
 replace J1y := Sl.off J1y hO f0
 replace J3h := Sl.off J3h hO f0
 replace J1q := Row.off J1q hO f0
 replace off0 := off0.o hO
 clear hO
 clear k_t8 J2b
 refine LnA ?_ (z := J1 .u8 32 (Q6 0)) (t := 22) (k := .u8) (n := 32) (f := Q6 U4)
 intro J9e W29 V6 hO h_
 have J2b := J0m (Row.lt J1q) V6
 replace ow_s10 := Own.off ow_s10 hO f0
 replace J0t := Sl.off J0t hO f0
 replace J12 := Sl.off J12 hO f0
 replace J1y := Sl.off J1y hO f0
 replace J3h := Sl.off J3h hO f0
 replace J1q := Row.off J1q hO f0
 replace off0 := off0.o hO
 have k_t8 := h_
 clear hO h_ V6
 refine J0 ?_
 go_upto_region 6 with fail
 refine wp_region_lit ?_
 refine Lv ?_
 refine Lw ?_ (v := .slice (some ⟨J9e, 0, none⟩) 32 32)
 have J7l : Sl W29 (.slice (some ⟨J9e, 0, none⟩) 32 32) (lb 32 U4) := (J0j (V := U4) (n := 32) (off := 0) k_t8 ap0 (by decide) (by decide))
 have Q4m : ∀ x, (Value.ownBlock Z2d) = some x → sb (.slice (some ⟨J9e, 0, none⟩) 32 32) (lb 32 U4) ≠ some x := Q8s J2b
 refine LnS ?_ (z := #[(.slice (some ⟨J9e, 0, none⟩) 32 32)]) (t := 23) (n := 1) (c := 1) (hr := by exact J43 [(.slice (some ⟨J9e, 0, none⟩) 32 32)] rfl rfl (vsc ((J3f J7l).1) vs0) Tryd.underlying112 (by kernel_rfl) (by kernel_rfl) rfl (by decide) (by decide))
 intro V5z W30 J7k hO h_
 replace ow_s10 := Own.off ow_s10 hO f0
 replace J0t := Sl.off J0t hO f0
 replace J12 := Sl.off J12 hO f0
 replace J1y := Sl.off J1y hO f0
 replace J3h := Sl.off J3h hO f0
 replace J1q := Row.off J1q hO f0
 replace J7l := Sl.off J7l hO f0
 replace off0 := off0.o hO
 have J4g := h_
 clear hO h_ J7k
 refine J68 (es := ([(.slice (some ⟨J49, 0, none⟩) 2 2), (.slice (some ⟨J0c, 0, none⟩) 32 32), (.slice (some ⟨J7t, 0, none⟩) 32 32), (.slice (some ⟨J5i, 0, none⟩) 32 32), (.slice (some ⟨J76, 0, none⟩) 32 32)].map fun x => [x])) (cs := #[(.slice (some ⟨J9e, 0, none⟩) 32 32)]) (bytes := 24) (by rfl) rfl rfl rfl J1q J4g rfl (Z9y (J3f J7l).2) (by first | decide | (show 0 < 1; decide)) Tryd.underlying112 (by kernel_rfl) (by first | omega | (simp only [List.length_append, List.length_cons, List.length_nil, J8]; omega) | (simp; done)) (by unfold maxLen; first | omega | (simp only [List.length_append, List.length_cons, List.length_nil, J8]; omega) | (simp; done)) ?_
 (try simp only [Act.put, mA, mB, mC])
 intro Z2e W31 ow_a24 hO J0u
 replace ow_a24 : Row 23 1 W31 Z2e (([(.slice (some ⟨J49, 0, none⟩) 2 2), (.slice (some ⟨J0c, 0, none⟩) 32 32), (.slice (some ⟨J7t, 0, none⟩) 32 32), (.slice (some ⟨J5i, 0, none⟩) 32 32), (.slice (some ⟨J76, 0, none⟩) 32 32)].map fun x => [x]) ++ [[(.slice (some ⟨J9e, 0, none⟩) 32 32)]]) := ow_a24
 have J4t := J0r J0u J4h (Own.lt ow_s10)
 have J5p := J0r J0u J60 (Sl.lt J0t)
 have J5q := J0r J0u J44 (Sl.lt J12)
 have J8d := J0r J0u J61 (Sl.lt J1y)
 have Q3i := J0r J0u J95 (Sl.lt J3h)
 have Z74 := J0r J0u Q4m (Sl.lt J7l)
 have J94 := J0i J0u Q3g off0.size
 replace ow_s10 := Own.off ow_s10 hO (fo J4h)
 replace J0t := Sl.off J0t hO (fo J60)
 replace J12 := Sl.off J12 hO (fo J44)
 replace J1y := Sl.off J1y hO (fo J61)
 replace J3h := Sl.off J3h hO (fo J95)
 replace J7l := Sl.off J7l hO (fo Q4m)
 replace off0 := off0.step hO (io Q3g)
 clear hO J0u
 replace ow_a24 : Row 23 1 W31 Z2e ([(.slice (some ⟨J49, 0, none⟩) 2 2), (.slice (some ⟨J0c, 0, none⟩) 32 32), (.slice (some ⟨J7t, 0, none⟩) 32 32), (.slice (some ⟨J5i, 0, none⟩) 32 32), (.slice (some ⟨J76, 0, none⟩) 32 32), (.slice (some ⟨J9e, 0, none⟩) 32 32)].map fun x => [x]) := ow_a24
 have J1q := ow_a24
 clear ow_a24
 have Q3g := J94
 have J4h := J4t
 have J60 := J5p
 have J44 := J5q
 have J61 := J8d
 have J95 := Q3i
 have Q4m := Z74
 clear J4g J37
 refine Lv ?_
 refine J0 ?_
 go_wp2_with fail
 rw [rounds_succ]
 go_upto_region 8 with fail
 refine wp_region_lit ?_
 refine Lv ?_
 refine LnS ?_ (z := #[.int .u8 0]) (t := 5) (n := 1) (c := 1)
 intro Q01 W32 Y7m hO h_
 have Y1y : ∀ x, (Value.ownBlock Z2e) = some x → Value.ownBlock (.slice (some ⟨Q01, 0, none⟩) 1 1) ≠ some x := J1k (Row.lt J1q) Y7m
 replace ow_s10 := Own.off ow_s10 hO f0
 replace J0t := Sl.off J0t hO f0
 replace J12 := Sl.off J12 hO f0
 replace J1y := Sl.off J1y hO f0
 replace J3h := Sl.off J3h hO f0
 replace J7l := Sl.off J7l hO f0
 replace J1q := Row.off J1q hO f0
 replace off0 := off0.o hO
 have ow_s27 : Own W32 (.slice (some ⟨Q01, 0, none⟩) 1 1) [0] := V7 h_ (by rfl) (by show 1 ≤ maxLen; decide)
 clear hO h_ Y7m
 refine LnS ?_ (z := #[(.slice (some ⟨Q01, 0, none⟩) 1 1)]) (t := 23) (n := 1) (c := 1) (hr := by exact J43 [(.slice (some ⟨Q01, 0, none⟩) 1 1)] rfl rfl (vsc ((J36 ow_s27).1) vs0) Tryd.underlying112 (by kernel_rfl) (by kernel_rfl) rfl (by decide) (by decide))
 intro V60 W33 Y0x hO h_
 replace ow_s10 := Own.off ow_s10 hO f0
 replace J0t := Sl.off J0t hO f0
 replace J12 := Sl.off J12 hO f0
 replace J1y := Sl.off J1y hO f0
 replace J3h := Sl.off J3h hO f0
 replace J7l := Sl.off J7l hO f0
 replace J1q := Row.off J1q hO f0
 replace ow_s27 := Own.off ow_s27 hO f0
 replace off0 := off0.o hO
 have Y7n := h_
 clear hO h_ Y0x
 refine J68 (es := ([(.slice (some ⟨J49, 0, none⟩) 2 2), (.slice (some ⟨J0c, 0, none⟩) 32 32), (.slice (some ⟨J7t, 0, none⟩) 32 32), (.slice (some ⟨J5i, 0, none⟩) 32 32), (.slice (some ⟨J76, 0, none⟩) 32 32), (.slice (some ⟨J9e, 0, none⟩) 32 32)].map fun x => [x])) (cs := #[(.slice (some ⟨Q01, 0, none⟩) 1 1)]) (bytes := 24) (by rfl) rfl rfl rfl J1q Y7n rfl (Z9y (J36 ow_s27).2) (by first | decide | (show 0 < 1; decide)) Tryd.underlying112 (by kernel_rfl) (by first | omega | (simp only [List.length_append, List.length_cons, List.length_nil, J8]; omega) | (simp; done)) (by unfold maxLen; first | omega | (simp only [List.length_append, List.length_cons, List.length_nil, J8]; omega) | (simp; done)) ?_
 (try simp only [Act.put, mA, mB, mC])
 intro Y1z W34 J90 hO Q64
 replace J90 : Row 23 1 W34 Y1z (([(.slice (some ⟨J49, 0, none⟩) 2 2), (.slice (some ⟨J0c, 0, none⟩) 32 32), (.slice (some ⟨J7t, 0, none⟩) 32 32), (.slice (some ⟨J5i, 0, none⟩) 32 32), (.slice (some ⟨J76, 0, none⟩) 32 32), (.slice (some ⟨J9e, 0, none⟩) 32 32)].map fun x => [x]) ++ [[(.slice (some ⟨Q01, 0, none⟩) 1 1)]]) := J90
 replace ow_s10 := Own.off ow_s10 hO (fo J4h)
 replace J0t := Sl.off J0t hO (fo J60)
 replace J12 := Sl.off J12 hO (fo J44)
 replace J1y := Sl.off J1y hO (fo J61)
 replace J3h := Sl.off J3h hO (fo J95)
 replace J7l := Sl.off J7l hO (fo Q4m)
 replace ow_s27 := Own.off ow_s27 hO (fo Y1y)
 replace off0 := off0.step hO (io Q3g)
 clear hO Q64
 replace J90 : Row 23 1 W34 Y1z ([(.slice (some ⟨J49, 0, none⟩) 2 2), (.slice (some ⟨J0c, 0, none⟩) 32 32), (.slice (some ⟨J7t, 0, none⟩) 32 32), (.slice (some ⟨J5i, 0, none⟩) 32 32), (.slice (some ⟨J76, 0, none⟩) 32 32), (.slice (some ⟨J9e, 0, none⟩) 32 32), (.slice (some ⟨Q01, 0, none⟩) 1 1)].map fun x => [x]) := J90
 have J1q := J90
 clear J90
 clear Y7n
 obtain ⟨A_, c_, ev_, hps_⟩ := Y5p (vs := [(.slice (some ⟨J49, 0, none⟩) 2 2), (.slice (some ⟨J0c, 0, none⟩) 32 32), (.slice (some ⟨J7t, 0, none⟩) 32 32), (.slice (some ⟨J5i, 0, none⟩) 32 32), (.slice (some ⟨J76, 0, none⟩) 32 32), (.slice (some ⟨J9e, 0, none⟩) 32 32), (.slice (some ⟨Q01, 0, none⟩) 1 1)]) (ps := [[3, 2], lb 32 V, lb 32 U1, lb 32 U2, lb 32 U3, lb 32 U4, [0]]) J1q rfl (pvc (ow_s10.sl) (pvc J0t (pvc J12 (pvc J1y (pvc J3h (pvc J7l (pvc (ow_s27.sl) pv0))))))) (by simp)
 subst ev_
 refine Lr ?_ (J8z HU5.out [[3, 2], lb 32 V, lb 32 U1, lb 32 U2, lb 32 U3, lb 32 U4, [0]] A_ c_ (by simp only [List.flatten_cons, List.flatten_nil, List.append_nil, List.nil_append, List.append_assoc, List.cons_append]) (by first | omega | (simp only [List.length_append, List.length_cons, List.length_nil, J8]; omega)) (by simp) W34 hps_ (Q7 hG off0.ext).2.1)
 intro W35 hO
 replace off0 := off0.o hO
 clear hO
 refine LnA ?_ (z := J1 .u8 64 (Q6 0)) (t := 30) (k := .u8) (n := 64) (f := Q6 U5)
 intro Y7o W37 J2o hO h_
 have Q1n := fbn off0 J2o
 replace off0 := off0.o hO
 have k_t9 := h_
 clear hO h_ J2o
 refine J0 ?_
 go_upto_region 9 with fail
 refine wp_region_lit ?_
 refine Lv ?_
 refine Lv ?_
 refine J0 ?_
 go_wp2
 exact bodyPost_ret (v := .slice (some ⟨Y7o, 0, none⟩) 16 64) (by simp only [results, Tryd.results61]; go_simp) rfl ⟨Y7o, rfl, Nat.not_lt.1 (fun h => by cases Q1n h), off0, by rw [hX]; rw [show chH V a1 a2 a3 a4 = U5 by rw [HU5.out, HU4.out, HU3.out, HU2.out, HU1.out]; rfl]; exact k_t9⟩
end Go.Proofs.YtefpoollmbmkfaaDoor

namespace Go.Proofs.YtefpoollmbmkfaaDoor
set_option maxHeartbeats 2000000
set_option maxRecDepth 100000
open Go.RowKit
attribute [local irreducible] wpList J6j
variable {kn : Kn}
open Sc (LL J21)
attribute [local irreducible] hs
theorem Q4n (V off j : Nat) : Q6 (V / 2 ^ (8 * off)) j = Q6 V (off + j) := by
  unfold Q6
  rw [Nat.div_div_eq_div_mul, ← Nat.pow_add, show 8 * off + 8 * j = 8 * (off + j) by omega]
theorem Z56 {V m j : Nat} (hj : j < m) : Q6 (V % 2 ^ (8 * m)) j = Q6 V j := by
  unfold Q6
  have e : (2 : Nat) ^ (8 * m) = 2 ^ (8 * j) * 2 ^ (8 * m - 8 * j) := by rw [← Nat.pow_add]; congr 1; omega
  have e2 : (2 : Nat) ^ (8 * m - 8 * j) = 256 * 2 ^ (8 * m - 8 * j - 8) := by rw [show 8 * m - 8 * j = 8 + (8 * m - 8 * j - 8) by omega, Nat.pow_add, Nat.add_sub_cancel_left]
  rw [e, Nat.mod_mul_right_div_self, e2, Nat.mod_mul_right_mod]
theorem Q4o {n m off V U : Nat} (hU : ∀ j, j < m → Q6 U j = Q6 V (off + j)) (h : off + m ≤ n) : ∀ i v, (J1 .u8 m (Q6 U))[i]? = some v → (J1 .u8 n (Q6 V))[off + i]? = some v := fun i v hv => by
  have hi : i < m := by have := (Array.getElem?_eq_some_iff.1 hv).1; rwa [Q1] at this
  rw [J6 _ _ _ _ hi, hU i hi] at hv
  rw [J6 _ _ _ _ (by omega)]; exact hv
theorem V0t {P j : Nat} (hj : j < 16) : Q6 (pC P) j = Q6 P (32 + j) := by
  unfold pC
  rw [show J28 = 2 ^ (8 * 16) from rfl, Z56 hj, show (2 : Nat) ^ 256 = 2 ^ (8 * 32) from rfl, Q4n]
theorem Y20 (P j : Nat) : Q6 (pN P) j = Q6 P (48 + j) := by
  unfold pN
  rw [show J28 = 2 ^ (8 * 16) from rfl, Q4n, show (2 : Nat) ^ 256 = 2 ^ (8 * 32) from rfl, Q4n, show 32 + (16 + j) = 48 + j by omega]
theorem Y21 {P : Nat} : ∀ i v, (J1 .u8 32 (Q6 (pG P)))[i]? = some v → (J1 .u8 80 (Q6 P))[0 + i]? = some v := Q4o (fun j hj => by rw [Nat.zero_add]; exact Y1p hj) (by decide)
theorem V0u {P : Nat} : ∀ i v, (J1 .u8 16 (Q6 (pC P)))[i]? = some v → (J1 .u8 80 (Q6 P))[32 + i]? = some v := Q4o (fun j hj => V0t hj) (by decide)
theorem Y5q {P : Nat} : ∀ i v, (J1 .u8 32 (Q6 (pN P)))[i]? = some v → (J1 .u8 80 (Q6 P))[48 + i]? = some v := Q4o (fun j _ => Y20 P j) (by decide)
theorem Q11 (P : Nat) : pG P < 2 ^ 256 := Y7i P
theorem Q69 (P : Nat) : pC P < J28 := Nat.mod_lt _ (by decide)
def B80 (P : Nat) : Prop := pN P < 2 ^ 256
theorem Q0p {P : Program} {fn : Func} {p q r : Tmp} {ty tz t t' : TypeId} {tmps : Array Value} {w : World} {g g' : Nat} {cs ds : Array Value} {v : Value} (h : fn.results = #[.cell p ty, .cell q tz, .tmp r])
    (hp : tmps.getD p undef = .pointer (some ⟨g, 0, none⟩)) (hq : tmps.getD q undef = .pointer (some ⟨g', 0, none⟩)) (hr : tmps.getD r undef = v) (hB : Blk w g cs t) (hC : Blk w g' ds t') (hk : (P.underlying ty).map TypeDesc.isRow = some true) (hi : (P.info? ty).map (·.size) = some cs.size)
    (hk' : (P.underlying tz).map TypeDesc.isRow = some true) (hi' : (P.info? tz).map (·.size) = some ds.size) : (results fn tmps).run P w = .ok (.tuple #[.agg cs, .agg ds, v]) w := by
  cases hu : P.underlying ty with
  | none => simp [hu] at hk
  | some d =>
    cases hu' : P.underlying tz with
    | none => simp [hu'] at hk'
    | some d' =>
      have hd : d.isRow = true := by simpa [hu] using hk
      have hd' : d'.isRow = true := by simpa [hu'] using hk'
      have hp' : tmps[p]?.getD undef = .pointer (some ⟨g, 0, none⟩) := by simpa using hp
      have hq' : tmps[q]?.getD undef = .pointer (some ⟨g', 0, none⟩) := by simpa using hq
      have hr' : tmps[r]?.getD undef = v := by simpa using hr
      simp [results, h, hp', hq', hr', asAddr, run_loadVar_row w g t ty cs _ d hB hu (by cases d <;> simp_all [TypeDesc.isRow]) hi, run_loadVar_row w g' t' tz ds _ d' hC hu' (by cases d' <;> simp_all [TypeDesc.isRow]) hi']

theorem V3x (hc : kn.c) {V : Nat} (hV : V < 2 ^ 256) (hok : dOk V = false) :
  ∀ w, GA kn w → Calls Tryd.prog 64 #[.agg (J1 .u8 32 (Q6 V))] w fun e w' => Ret (.tuple #[.agg (p4 0 0 0 0), .int .i64 15]) w w' e := by
 have dc := Q5b (kn := kn) hc (V := V) hV hok
 intro w hG
 have off0 : Off [] w w := Off.refl _ _
 go_enter Tryd.func64, Tryd.ntmps64
 go_upto_region 0 with fail
 refine wp_region_lit ?_
 refine Ln ?_ (z := J1 .u8 32 (Q6 V)) (t := 22)
 intro J1a W1 J2n hO h_
 replace off0 := off0.o hO
 have k_t1 := h_
 clear hO h_ J2n
 refine Ln ?_ (z := p4 0 0 0 0) (t := 60)
 intro J2q W2 U0 hO h_
 have J01 := fbn off0 U0
 replace k_t1 := k_t1.o hO
 replace off0 := off0.o hO
 have k_t2 := h_
 clear hO h_ U0
 refine Lw ?_ (v := .int .i64 0)
 refine J0 ?_
 go_upto_region 1 with fail
 refine wp_region_lit ?_
 refine L0A ?_ k_t1
 refine Lr ?_ (dc W2 (Q7 hG off0.ext).1)
 intro W3 hO
 replace k_t2 := k_t2.o hO
 replace off0 := off0.o hO
 clear hO
 refine Lv ?_
 refine Lv ?_
 refine Lw ?_ (v := .int .i64 15)
 refine LnP ?_ (z := p4 0 0 0 0) (t := 60) (cells := p4 0 0 0 0)
 intro Q0s W5 J10 hO h_
 replace k_t2 := k_t2.o hO
 replace off0 := off0.o hO
 have k_t4 := h_
 clear hO h_ J10
 refine Lw ?_ (v := .int .i64 15)
 refine J0 ?_
 go_upto_region 2 with fail
 refine wp_region_lit ?_
 refine Lw ?_ (v := .int .i64 15)
 refine Lw ?_ (v := .bool false)
 refine Lw ?_ (v := .bool false)
 refine Ls ?_
 refine Ls ?_
 refine Ls ?_
 refine Ls ?_
 refine Lw ?_ (v := .bool false)
 refine J0 ?_
 go_upto_region 4 with fail
 refine wp_region_lit ?_
 refine L0 ?_ k_t4
 refine Lw ?_ (v := .int .i64 15)
 refine Lp ?_ k_t2 (cells := p4 0 0 0 0)
 intro W6 hO h_
 replace k_t2 : Blk W6 J2q (p4 0 0 0 0) 60 := h_
 clear h_
 replace off0 := off0.p hO J01
 clear hO
 refine Lw ?_ (v := .int .i64 15)
 refine J0 ?_
 go_wp2
 exact bodyPost_ret (V8 rfl rfl rfl k_t2 (by kernel_rfl) (by kernel_rfl)) rfl ⟨rfl, off0.ext⟩
theorem V3y (hc : kn.c) {V : Nat} (hV : V < 2 ^ 256) (hok : dOk V = true) (h8 : pm (dPt V) 8 = p0) :
  ∃ X Y T, RN X Y 1 T (dPt V) ∧ ∀ w, GA kn w → Calls Tryd.prog 64 #[.agg (J1 .u8 32 (Q6 V))] w fun e w' => Ret (.tuple #[.agg (p4 X Y 1 T), .int .i64 15]) w w' e := by
 obtain ⟨dx, dt, dr, dc⟩ := J9p hc (V := V) hV hok
 obtain ⟨y0, hy0⟩ := V2 (V % 2 ^ 255)
 rw [← hy0] at dr dc
 clear hy0
 obtain ⟨x1, y2, z3, t4, r5, c6⟩ := J84 (kn := kn) dr.rw
 have cs_ := Q1o (kn := kn) r5.rw Q0g
 rw [decide_eq_true h8] at cs_
 refine ⟨dx, y0, dt, dr, fun w hG => ?_⟩
 have off0 : Off [] w w := Off.refl _ _
 go_enter Tryd.func64, Tryd.ntmps64
 go_upto_region 0 with fail
 refine wp_region_lit ?_
 refine Ln ?_ (z := J1 .u8 32 (Q6 V)) (t := 22)
 intro J1a W1 J2n hO h_
 replace off0 := off0.o hO
 have k_t1 := h_
 clear hO h_ J2n
 refine Ln ?_ (z := p4 0 0 0 0) (t := 60)
 intro J2q W2 U0 hO h_
 have J01 := fbn off0 U0
 replace k_t1 := k_t1.o hO
 replace off0 := off0.o hO
 have k_t2 := h_
 clear hO h_ U0
 refine Lw ?_ (v := .int .i64 0)
 refine J0 ?_
 go_upto_region 1 with fail
 refine wp_region_lit ?_
 refine L0A ?_ k_t1
 refine Lr ?_ (dc W2 (Q7 hG off0.ext).1)
 intro W3 hO
 replace k_t2 := k_t2.o hO
 replace off0 := off0.o hO
 clear hO
 refine Lv ?_
 refine Lv ?_
 refine Lw ?_ (v := .int .i64 0)
 refine LnP ?_ (z := p4 0 0 0 0) (t := 60) (cells := p4 dx y0 1 dt)
 intro Q0s W5 J10 hO h_
 replace k_t2 := k_t2.o hO
 replace off0 := off0.o hO
 have k_t4 := h_
 clear hO h_ J10
 refine Lw ?_ (v := .int .i64 0)
 refine J0 ?_
 go_upto_region 2 with fail
 refine wp_region_lit ?_
 refine Lw ?_ (v := .int .i64 0)
 refine Lw ?_ (v := .bool true)
 refine Lw ?_ (v := .bool true)
 refine L0 ?_ k_t4
 refine Lr ?_ (c6 W5 (Q7 hG off0.ext).1)
 intro W6 hO
 replace k_t2 := k_t2.o hO
 replace k_t4 := k_t4.o hO
 replace off0 := off0.o hO
 clear hO
 refine Lw ?_ (v := .agg (p4 0 0 0 0)) (hv := by kernel_rfl)
 refine Lr ?_ (cs_ W6 (Q7 hG off0.ext).1)
 intro W7 hO
 replace k_t2 := k_t2.o hO
 replace k_t4 := k_t4.o hO
 replace off0 := off0.o hO
 clear hO
 refine Lw ?_ (v := .bool true)
 refine J0 ?_
 go_upto_region 4 with fail
 refine wp_region_lit ?_
 refine L0 ?_ k_t4
 refine Lw ?_ (v := .int .i64 15)
 refine Lp ?_ k_t2 (cells := p4 dx y0 1 dt)
 intro W8 hO h_
 replace k_t2 : Blk W8 J2q (p4 dx y0 1 dt) 60 := h_
 clear h_
 replace off0 := off0.p hO J01
 clear hO
 refine Lw ?_ (v := .int .i64 15)
 refine J0 ?_
 go_wp2
 exact bodyPost_ret (V8 rfl rfl rfl k_t2 (by kernel_rfl) (by kernel_rfl)) rfl ⟨rfl, off0.ext⟩
theorem Z0p (hc : kn.c) {V : Nat} (hV : V < 2 ^ 256) (hok : dOk V = true) (h8 : ¬ pm (dPt V) 8 = p0) :
  ∃ X Y T, RN X Y 1 T (dPt V) ∧ ∀ w, GA kn w → Calls Tryd.prog 64 #[.agg (J1 .u8 32 (Q6 V))] w fun e w' => Ret (.tuple #[.agg (p4 X Y 1 T), .int .i64 0]) w w' e := by
 obtain ⟨dx, dt, dr, dc⟩ := J9p hc (V := V) hV hok
 obtain ⟨y0, hy0⟩ := V2 (V % 2 ^ 255)
 rw [← hy0] at dr dc
 clear hy0
 obtain ⟨x1, y2, z3, t4, r5, c6⟩ := J84 (kn := kn) dr.rw
 have cs_ := Q1o (kn := kn) r5.rw Q0g
 rw [decide_eq_false h8] at cs_
 refine ⟨dx, y0, dt, dr, fun w hG => ?_⟩
 have off0 : Off [] w w := Off.refl _ _
 go_enter Tryd.func64, Tryd.ntmps64
 go_upto_region 0 with fail
 refine wp_region_lit ?_
 refine Ln ?_ (z := J1 .u8 32 (Q6 V)) (t := 22)
 intro J1a W1 J2n hO h_
 replace off0 := off0.o hO
 have k_t1 := h_
 clear hO h_ J2n
 refine Ln ?_ (z := p4 0 0 0 0) (t := 60)
 intro J2q W2 U0 hO h_
 have J01 := fbn off0 U0
 replace k_t1 := k_t1.o hO
 replace off0 := off0.o hO
 have k_t2 := h_
 clear hO h_ U0
 refine Lw ?_ (v := .int .i64 0)
 refine J0 ?_
 go_upto_region 1 with fail
 refine wp_region_lit ?_
 refine L0A ?_ k_t1
 refine Lr ?_ (dc W2 (Q7 hG off0.ext).1)
 intro W3 hO
 replace k_t2 := k_t2.o hO
 replace off0 := off0.o hO
 clear hO
 refine Lv ?_
 refine Lv ?_
 refine Lw ?_ (v := .int .i64 0)
 refine LnP ?_ (z := p4 0 0 0 0) (t := 60) (cells := p4 dx y0 1 dt)
 intro Q0s W5 J10 hO h_
 replace k_t2 := k_t2.o hO
 replace off0 := off0.o hO
 have k_t4 := h_
 clear hO h_ J10
 refine Lw ?_ (v := .int .i64 0)
 refine J0 ?_
 go_upto_region 2 with fail
 refine wp_region_lit ?_
 refine Lw ?_ (v := .int .i64 0)
 refine Lw ?_ (v := .bool true)
 refine Lw ?_ (v := .bool true)
 refine L0 ?_ k_t4
 refine Lr ?_ (c6 W5 (Q7 hG off0.ext).1)
 intro W6 hO
 replace k_t2 := k_t2.o hO
 replace k_t4 := k_t4.o hO
 replace off0 := off0.o hO
 clear hO
 refine Lw ?_ (v := .agg (p4 0 0 0 0)) (hv := by kernel_rfl)
 refine Lr ?_ (cs_ W6 (Q7 hG off0.ext).1)
 intro W7 hO
 replace k_t2 := k_t2.o hO
 replace k_t4 := k_t4.o hO
 replace off0 := off0.o hO
 clear hO
 refine Lw ?_ (v := .bool false)
 refine J0 ?_
 go_upto_region 4 with fail
 refine wp_region_lit ?_
 refine L0 ?_ k_t4
 refine Lw ?_ (v := .int .i64 0)
 refine Lp ?_ k_t2 (cells := p4 dx y0 1 dt)
 intro W8 hO h_
 replace k_t2 : Blk W8 J2q (p4 dx y0 1 dt) 60 := h_
 clear h_
 replace off0 := off0.p hO J01
 clear hO
 refine Lw ?_ (v := .int .i64 0)
 refine J0 ?_
 go_wp2
 exact bodyPost_ret (V8 rfl rfl rfl k_t2 (by kernel_rfl) (by kernel_rfl)) rfl ⟨rfl, off0.ext⟩
theorem Y5r (hc : kn.c) {P : Nat} (hP : B80 P) (hok : dOk (pG P) = false) (h1 : LL ≤ pN P) :
  ∀ w, GA kn w → Calls Tryd.prog 65 #[.agg (J1 .u8 80 (Q6 P))] w fun e w' => Ret (.tuple #[.agg (p4 0 0 0 0), .agg (c4 0), .int .i64 17]) w w' e := by
 have dc := Q5b (kn := kn) hc (V := (pG P)) (Q11 P) hok
 intro w hG
 have off0 : Off [] w w := Off.refl _ _
 go_enter Tryd.func65, Tryd.ntmps65
 go_upto_region 0 with fail
 refine wp_region_lit ?_
 refine Ln ?_ (z := J1 .u8 80 (Q6 P)) (t := 45)
 intro J1a W1 J2n hO h_
 replace off0 := off0.o hO
 have k_t1 := h_
 clear hO h_ J2n
 refine Ln ?_ (z := p4 0 0 0 0) (t := 60)
 intro J2q W2 U0 hO h_
 have J01 := fbn off0 U0
 replace k_t1 := k_t1.o hO
 replace off0 := off0.o hO
 have k_t2 := h_
 clear hO h_ U0
 refine Ln ?_ (z := c4 0) (t := 42)
 intro Q1j W3 J13 hO h_
 have nq_t2_t3 := bn k_t2 J13
 have J5f := fbn off0 J13
 replace k_t1 := k_t1.o hO
 replace k_t2 := k_t2.o hO
 replace off0 := off0.o hO
 have k_t3 := h_
 clear hO h_ J13
 refine Lw ?_ (v := .int .i64 0)
 refine J0 ?_
 go_upto_region 1 with fail
 refine wp_region_lit ?_
 refine Lw ?_ (v := .slice (some ⟨J1a, 0, none⟩) 32 80) (hv := by first | rfl | (go_simp; done) | (go_simp; with_reducible rfl))
 refine Lw ?_ (v := .pointer (some ⟨J1a, 0, none⟩)) (hv := by first | rfl | (go_simp; done) | (go_simp; with_reducible rfl))
 refine J05 (vs := (J1 .u8 32 (Q6 (pG P))).toList) (by rfl) rfl rfl k_t1 (J3z Y21) (by kernel_rfl) (by kernel_rfl) ?_
 (try simp only [Act.put, mA, mB, mC])
 refine Lr ?_ (dc W3 (Q7 hG off0.ext).1)
 intro W4 hO
 replace k_t1 := k_t1.o hO
 replace k_t2 := k_t2.o hO
 replace k_t3 := k_t3.o hO
 replace off0 := off0.o hO
 clear hO
 refine Lv ?_
 refine Lv ?_
 refine Lw ?_ (v := .int .i64 15)
 refine LnP ?_ (z := p4 0 0 0 0) (t := 60) (cells := p4 0 0 0 0)
 intro Q1u W6 J0p hO h_
 replace k_t1 := k_t1.o hO
 replace k_t2 := k_t2.o hO
 replace k_t3 := k_t3.o hO
 replace off0 := off0.o hO
 clear hO h_ J0p
 refine Lw ?_ (v := .int .i64 15)
 refine J0 ?_
 go_upto_region 2 with fail
 refine wp_region_lit ?_
 refine Lw ?_ (v := .slice (some ⟨J1a, 48, none⟩) 32 32) (hv := by first | rfl | (go_simp; done) | (go_simp; with_reducible rfl))
 refine Lw ?_ (v := .pointer (some ⟨J1a, 48, none⟩)) (hv := by first | rfl | (go_simp; done) | (go_simp; with_reducible rfl))
 refine J05 (vs := (J1 .u8 32 (Q6 (pN P))).toList) (by rfl) rfl rfl k_t1 (J3z Y5q) (by kernel_rfl) (by kernel_rfl) ?_
 (try simp only [Act.put, mA, mB, mC])
 refine Lr ?_ (Z0k h1 hP W6 (Q7 hG off0.ext).2.2.1)
 intro W7 hO
 replace k_t2 := k_t2.o hO
 replace k_t3 := k_t3.o hO
 replace off0 := off0.o hO
 clear hO
 refine Lv ?_
 refine Lv ?_
 refine Lw ?_ (v := .bool false)
 refine LnP ?_ (z := c4 0) (t := 42) (cells := c4 0)
 intro J92 W9 J03 hO h_
 replace k_t2 := k_t2.o hO
 replace k_t3 := k_t3.o hO
 replace off0 := off0.o hO
 clear hO h_ J03
 refine Lw ?_ (v := .bool false)
 refine J0 ?_
 go_upto_region 4 with fail
 refine wp_region_lit ?_
 refine Lw ?_ (v := .agg (p4 0 0 0 0)) (hv := by kernel_rfl)
 refine Lw ?_ (v := .agg (c4 0)) (hv := by kernel_rfl)
 refine Lp ?_ k_t2 (cells := p4 0 0 0 0)
 intro W10 hO h_
 replace k_t2 : Blk W10 J2q (p4 0 0 0 0) 60 := h_
 clear h_
 replace k_t3 := k_t3.p hO nq_t2_t3.symm
 replace off0 := off0.p hO J01
 clear hO
 refine Lp ?_ k_t3 (cells := c4 0)
 intro W11 hO h_
 replace k_t3 : Blk W11 Q1j (c4 0) 42 := h_
 clear h_
 replace k_t2 := k_t2.p hO nq_t2_t3
 replace off0 := off0.p hO J5f
 clear hO
 refine Lw ?_ (v := .int .i64 17)
 refine J0 ?_
 go_wp2
 exact bodyPost_ret (Q0p rfl rfl rfl rfl k_t2 k_t3 (by kernel_rfl) (by kernel_rfl) (by kernel_rfl) (by kernel_rfl)) rfl ⟨rfl, off0.ext⟩
theorem Y5s (hc : kn.c) {P : Nat} (hP : B80 P) (hok : dOk (pG P) = false) (h1 : pN P < LL) :
  ∀ w, GA kn w → Calls Tryd.prog 65 #[.agg (J1 .u8 80 (Q6 P))] w fun e w' => Ret (.tuple #[.agg (p4 0 0 0 0), .agg (c4 0), .int .i64 17]) w w' e := by
 have dc := Q5b (kn := kn) hc (V := (pG P)) (Q11 P) hok
 intro w hG
 have off0 : Off [] w w := Off.refl _ _
 go_enter Tryd.func65, Tryd.ntmps65
 go_upto_region 0 with fail
 refine wp_region_lit ?_
 refine Ln ?_ (z := J1 .u8 80 (Q6 P)) (t := 45)
 intro J1a W1 J2n hO h_
 replace off0 := off0.o hO
 have k_t1 := h_
 clear hO h_ J2n
 refine Ln ?_ (z := p4 0 0 0 0) (t := 60)
 intro J2q W2 U0 hO h_
 have J01 := fbn off0 U0
 replace k_t1 := k_t1.o hO
 replace off0 := off0.o hO
 have k_t2 := h_
 clear hO h_ U0
 refine Ln ?_ (z := c4 0) (t := 42)
 intro Q1j W3 J13 hO h_
 have nq_t2_t3 := bn k_t2 J13
 have J5f := fbn off0 J13
 replace k_t1 := k_t1.o hO
 replace k_t2 := k_t2.o hO
 replace off0 := off0.o hO
 have k_t3 := h_
 clear hO h_ J13
 refine Lw ?_ (v := .int .i64 0)
 refine J0 ?_
 go_upto_region 1 with fail
 refine wp_region_lit ?_
 refine Lw ?_ (v := .slice (some ⟨J1a, 0, none⟩) 32 80) (hv := by first | rfl | (go_simp; done) | (go_simp; with_reducible rfl))
 refine Lw ?_ (v := .pointer (some ⟨J1a, 0, none⟩)) (hv := by first | rfl | (go_simp; done) | (go_simp; with_reducible rfl))
 refine J05 (vs := (J1 .u8 32 (Q6 (pG P))).toList) (by rfl) rfl rfl k_t1 (J3z Y21) (by kernel_rfl) (by kernel_rfl) ?_
 (try simp only [Act.put, mA, mB, mC])
 refine Lr ?_ (dc W3 (Q7 hG off0.ext).1)
 intro W4 hO
 replace k_t1 := k_t1.o hO
 replace k_t2 := k_t2.o hO
 replace k_t3 := k_t3.o hO
 replace off0 := off0.o hO
 clear hO
 refine Lv ?_
 refine Lv ?_
 refine Lw ?_ (v := .int .i64 15)
 refine LnP ?_ (z := p4 0 0 0 0) (t := 60) (cells := p4 0 0 0 0)
 intro Q1u W6 J0p hO h_
 replace k_t1 := k_t1.o hO
 replace k_t2 := k_t2.o hO
 replace k_t3 := k_t3.o hO
 replace off0 := off0.o hO
 clear hO h_ J0p
 refine Lw ?_ (v := .int .i64 15)
 refine J0 ?_
 go_upto_region 2 with fail
 refine wp_region_lit ?_
 refine Lw ?_ (v := .slice (some ⟨J1a, 48, none⟩) 32 32) (hv := by first | rfl | (go_simp; done) | (go_simp; with_reducible rfl))
 refine Lw ?_ (v := .pointer (some ⟨J1a, 48, none⟩)) (hv := by first | rfl | (go_simp; done) | (go_simp; with_reducible rfl))
 refine J05 (vs := (J1 .u8 32 (Q6 (pN P))).toList) (by rfl) rfl rfl k_t1 (J3z Y5q) (by kernel_rfl) (by kernel_rfl) ?_
 (try simp only [Act.put, mA, mB, mC])
 refine Lr ?_ (Z0j h1 W6 (Q7 hG off0.ext).2.2.1)
 intro W7 hO
 replace k_t2 := k_t2.o hO
 replace k_t3 := k_t3.o hO
 replace off0 := off0.o hO
 clear hO
 refine Lv ?_
 refine Lv ?_
 refine Lw ?_ (v := .bool true)
 refine LnP ?_ (z := c4 0) (t := 42) (cells := c4 (pN P))
 intro J92 W9 J03 hO h_
 replace k_t2 := k_t2.o hO
 replace k_t3 := k_t3.o hO
 replace off0 := off0.o hO
 clear hO h_ J03
 refine Lw ?_ (v := .bool true)
 refine J0 ?_
 go_upto_region 4 with fail
 refine wp_region_lit ?_
 refine Lw ?_ (v := .agg (p4 0 0 0 0)) (hv := by kernel_rfl)
 refine Lw ?_ (v := .agg (c4 0)) (hv := by kernel_rfl)
 refine Lp ?_ k_t2 (cells := p4 0 0 0 0)
 intro W10 hO h_
 replace k_t2 : Blk W10 J2q (p4 0 0 0 0) 60 := h_
 clear h_
 replace k_t3 := k_t3.p hO nq_t2_t3.symm
 replace off0 := off0.p hO J01
 clear hO
 refine Lp ?_ k_t3 (cells := c4 0)
 intro W11 hO h_
 replace k_t3 : Blk W11 Q1j (c4 0) 42 := h_
 clear h_
 replace k_t2 := k_t2.p hO nq_t2_t3
 replace off0 := off0.p hO J5f
 clear hO
 refine Lw ?_ (v := .int .i64 17)
 refine J0 ?_
 go_wp2
 exact bodyPost_ret (Q0p rfl rfl rfl rfl k_t2 k_t3 (by kernel_rfl) (by kernel_rfl) (by kernel_rfl) (by kernel_rfl)) rfl ⟨rfl, off0.ext⟩
theorem Y5t (hc : kn.c) {P : Nat} (hP : B80 P) (hok : dOk (pG P) = true) (h1 : LL ≤ pN P) :
  ∀ w, GA kn w → Calls Tryd.prog 65 #[.agg (J1 .u8 80 (Q6 P))] w fun e w' => Ret (.tuple #[.agg (p4 0 0 0 0), .agg (c4 0), .int .i64 17]) w w' e := by
 obtain ⟨dx, dt, dr, dc⟩ := J9p hc (V := (pG P)) (Q11 P) hok
 obtain ⟨y0, hy0⟩ := V2 ((pG P) % 2 ^ 255)
 rw [← hy0] at dr dc
 clear hy0
 intro w hG
 have off0 : Off [] w w := Off.refl _ _
 go_enter Tryd.func65, Tryd.ntmps65
 go_upto_region 0 with fail
 refine wp_region_lit ?_
 refine Ln ?_ (z := J1 .u8 80 (Q6 P)) (t := 45)
 intro J1a W1 J2n hO h_
 replace off0 := off0.o hO
 have k_t1 := h_
 clear hO h_ J2n
 refine Ln ?_ (z := p4 0 0 0 0) (t := 60)
 intro J2q W2 U0 hO h_
 have J01 := fbn off0 U0
 replace k_t1 := k_t1.o hO
 replace off0 := off0.o hO
 have k_t2 := h_
 clear hO h_ U0
 refine Ln ?_ (z := c4 0) (t := 42)
 intro Q1j W3 J13 hO h_
 have nq_t2_t3 := bn k_t2 J13
 have J5f := fbn off0 J13
 replace k_t1 := k_t1.o hO
 replace k_t2 := k_t2.o hO
 replace off0 := off0.o hO
 have k_t3 := h_
 clear hO h_ J13
 refine Lw ?_ (v := .int .i64 0)
 refine J0 ?_
 go_upto_region 1 with fail
 refine wp_region_lit ?_
 refine Lw ?_ (v := .slice (some ⟨J1a, 0, none⟩) 32 80) (hv := by first | rfl | (go_simp; done) | (go_simp; with_reducible rfl))
 refine Lw ?_ (v := .pointer (some ⟨J1a, 0, none⟩)) (hv := by first | rfl | (go_simp; done) | (go_simp; with_reducible rfl))
 refine J05 (vs := (J1 .u8 32 (Q6 (pG P))).toList) (by rfl) rfl rfl k_t1 (J3z Y21) (by kernel_rfl) (by kernel_rfl) ?_
 (try simp only [Act.put, mA, mB, mC])
 refine Lr ?_ (dc W3 (Q7 hG off0.ext).1)
 intro W4 hO
 replace k_t1 := k_t1.o hO
 replace k_t2 := k_t2.o hO
 replace k_t3 := k_t3.o hO
 replace off0 := off0.o hO
 clear hO
 refine Lv ?_
 refine Lv ?_
 refine Lw ?_ (v := .int .i64 0)
 refine LnP ?_ (z := p4 0 0 0 0) (t := 60) (cells := p4 dx y0 1 dt)
 intro Q1u W6 J0p hO h_
 replace k_t1 := k_t1.o hO
 replace k_t2 := k_t2.o hO
 replace k_t3 := k_t3.o hO
 replace off0 := off0.o hO
 clear hO h_ J0p
 refine Lw ?_ (v := .int .i64 0)
 refine J0 ?_
 go_upto_region 2 with fail
 refine wp_region_lit ?_
 refine Lw ?_ (v := .slice (some ⟨J1a, 48, none⟩) 32 32) (hv := by first | rfl | (go_simp; done) | (go_simp; with_reducible rfl))
 refine Lw ?_ (v := .pointer (some ⟨J1a, 48, none⟩)) (hv := by first | rfl | (go_simp; done) | (go_simp; with_reducible rfl))
 refine J05 (vs := (J1 .u8 32 (Q6 (pN P))).toList) (by rfl) rfl rfl k_t1 (J3z Y5q) (by kernel_rfl) (by kernel_rfl) ?_
 (try simp only [Act.put, mA, mB, mC])
 refine Lr ?_ (Z0k h1 hP W6 (Q7 hG off0.ext).2.2.1)
 intro W7 hO
 replace k_t2 := k_t2.o hO
 replace k_t3 := k_t3.o hO
 replace off0 := off0.o hO
 clear hO
 refine Lv ?_
 refine Lv ?_
 refine Lw ?_ (v := .bool false)
 refine LnP ?_ (z := c4 0) (t := 42) (cells := c4 0)
 intro J92 W9 J03 hO h_
 replace k_t2 := k_t2.o hO
 replace k_t3 := k_t3.o hO
 replace off0 := off0.o hO
 clear hO h_ J03
 refine Lw ?_ (v := .bool false)
 refine J0 ?_
 go_upto_region 4 with fail
 refine wp_region_lit ?_
 refine Lw ?_ (v := .agg (p4 0 0 0 0)) (hv := by kernel_rfl)
 refine Lw ?_ (v := .agg (c4 0)) (hv := by kernel_rfl)
 refine Lp ?_ k_t2 (cells := p4 0 0 0 0)
 intro W10 hO h_
 replace k_t2 : Blk W10 J2q (p4 0 0 0 0) 60 := h_
 clear h_
 replace k_t3 := k_t3.p hO nq_t2_t3.symm
 replace off0 := off0.p hO J01
 clear hO
 refine Lp ?_ k_t3 (cells := c4 0)
 intro W11 hO h_
 replace k_t3 : Blk W11 Q1j (c4 0) 42 := h_
 clear h_
 replace k_t2 := k_t2.p hO nq_t2_t3
 replace off0 := off0.p hO J5f
 clear hO
 refine Lw ?_ (v := .int .i64 17)
 refine J0 ?_
 go_wp2
 exact bodyPost_ret (Q0p rfl rfl rfl rfl k_t2 k_t3 (by kernel_rfl) (by kernel_rfl) (by kernel_rfl) (by kernel_rfl)) rfl ⟨rfl, off0.ext⟩
theorem Z57 (hc : kn.c) {P : Nat} (hP : B80 P) (hok : dOk (pG P) = true) (h1 : pN P < LL) :
  ∃ X Y T, RN X Y 1 T (dPt (pG P)) ∧ ∀ w, GA kn w → Calls Tryd.prog 65 #[.agg (J1 .u8 80 (Q6 P))] w fun e w' => Ret (.tuple #[.agg (p4 X Y 1 T), .agg (c4 (pN P)), .int .i64 0]) w w' e := by
 obtain ⟨dx, dt, dr, dc⟩ := J9p hc (V := (pG P)) (Q11 P) hok
 obtain ⟨y0, hy0⟩ := V2 ((pG P) % 2 ^ 255)
 rw [← hy0] at dr dc
 clear hy0
 refine ⟨dx, y0, dt, dr, fun w hG => ?_⟩
 have off0 : Off [] w w := Off.refl _ _
 go_enter Tryd.func65, Tryd.ntmps65
 go_upto_region 0 with fail
 refine wp_region_lit ?_
 refine Ln ?_ (z := J1 .u8 80 (Q6 P)) (t := 45)
 intro J1a W1 J2n hO h_
 replace off0 := off0.o hO
 have k_t1 := h_
 clear hO h_ J2n
 refine Ln ?_ (z := p4 0 0 0 0) (t := 60)
 intro J2q W2 U0 hO h_
 have J01 := fbn off0 U0
 replace k_t1 := k_t1.o hO
 replace off0 := off0.o hO
 have k_t2 := h_
 clear hO h_ U0
 refine Ln ?_ (z := c4 0) (t := 42)
 intro Q1j W3 J13 hO h_
 have nq_t2_t3 := bn k_t2 J13
 have J5f := fbn off0 J13
 replace k_t1 := k_t1.o hO
 replace k_t2 := k_t2.o hO
 replace off0 := off0.o hO
 have k_t3 := h_
 clear hO h_ J13
 refine Lw ?_ (v := .int .i64 0)
 refine J0 ?_
 go_upto_region 1 with fail
 refine wp_region_lit ?_
 refine Lw ?_ (v := .slice (some ⟨J1a, 0, none⟩) 32 80) (hv := by first | rfl | (go_simp; done) | (go_simp; with_reducible rfl))
 refine Lw ?_ (v := .pointer (some ⟨J1a, 0, none⟩)) (hv := by first | rfl | (go_simp; done) | (go_simp; with_reducible rfl))
 refine J05 (vs := (J1 .u8 32 (Q6 (pG P))).toList) (by rfl) rfl rfl k_t1 (J3z Y21) (by kernel_rfl) (by kernel_rfl) ?_
 (try simp only [Act.put, mA, mB, mC])
 refine Lr ?_ (dc W3 (Q7 hG off0.ext).1)
 intro W4 hO
 replace k_t1 := k_t1.o hO
 replace k_t2 := k_t2.o hO
 replace k_t3 := k_t3.o hO
 replace off0 := off0.o hO
 clear hO
 refine Lv ?_
 refine Lv ?_
 refine Lw ?_ (v := .int .i64 0)
 refine LnP ?_ (z := p4 0 0 0 0) (t := 60) (cells := p4 dx y0 1 dt)
 intro Q1u W6 J0p hO h_
 have nq_t2_t5 := bn k_t2 J0p
 have nq_t3_t5 := bn k_t3 J0p
 replace k_t1 := k_t1.o hO
 replace k_t2 := k_t2.o hO
 replace k_t3 := k_t3.o hO
 replace off0 := off0.o hO
 have k_t5 := h_
 clear hO h_ J0p
 refine Lw ?_ (v := .int .i64 0)
 refine J0 ?_
 go_upto_region 2 with fail
 refine wp_region_lit ?_
 refine Lw ?_ (v := .slice (some ⟨J1a, 48, none⟩) 32 32) (hv := by first | rfl | (go_simp; done) | (go_simp; with_reducible rfl))
 refine Lw ?_ (v := .pointer (some ⟨J1a, 48, none⟩)) (hv := by first | rfl | (go_simp; done) | (go_simp; with_reducible rfl))
 refine J05 (vs := (J1 .u8 32 (Q6 (pN P))).toList) (by rfl) rfl rfl k_t1 (J3z Y5q) (by kernel_rfl) (by kernel_rfl) ?_
 (try simp only [Act.put, mA, mB, mC])
 refine Lr ?_ (Z0j h1 W6 (Q7 hG off0.ext).2.2.1)
 intro W7 hO
 replace k_t2 := k_t2.o hO
 replace k_t3 := k_t3.o hO
 replace k_t5 := k_t5.o hO
 replace off0 := off0.o hO
 clear hO
 refine Lv ?_
 refine Lv ?_
 refine Lw ?_ (v := .bool true)
 refine LnP ?_ (z := c4 0) (t := 42) (cells := c4 (pN P))
 intro J92 W9 J03 hO h_
 have nq_t2_t7 := bn k_t2 J03
 have nq_t3_t7 := bn k_t3 J03
 replace k_t2 := k_t2.o hO
 replace k_t3 := k_t3.o hO
 replace k_t5 := k_t5.o hO
 replace off0 := off0.o hO
 have k_t7 := h_
 clear hO h_ J03
 refine Lw ?_ (v := .bool true)
 refine J0 ?_
 go_upto_region 5 with fail
 refine J42 (.q 0 (.q 1 (.e 2 (.e 3 (.q 4 .z))))) (fun W => (Blk W Q1u (p4 dx y0 1 dt) 60) ∧ (Blk W J92 (c4 (pN P)) 42)) (by kernel_rfl) (by kernel_rfl) ?_
 intro W10 hO
 replace k_t2 := k_t2.o hO
 replace k_t3 := k_t3.o hO
 replace k_t5 := k_t5.o hO
 replace k_t7 := k_t7.o hO
 replace off0 := off0.o hO
 clear hO
 refine ⟨⟨k_t5, k_t7⟩, ?_⟩
 refine J1r (v := .agg (p4 dx y0 1 dt)) rfl (by rfl) (fun W hS => by exact (J20 rfl rfl (hS.1) (by kernel_rfl) (by kernel_rfl))) ?_
 (try simp only [Act.put, mA, mB, mC])
 refine J1r (v := .agg (c4 (pN P))) rfl (by rfl) (fun W hS => by exact (J20 rfl rfl (hS.2) (by kernel_rfl) (by kernel_rfl))) ?_
 (try simp only [Act.put, mA, mB, mC])
 refine J3g rfl ?_
 refine Lp ?_ k_t2 (cells := p4 dx y0 1 dt)
 intro W11 hO h_
 replace k_t2 : Blk W11 J2q (p4 dx y0 1 dt) 60 := h_
 clear h_
 replace k_t3 := k_t3.p hO nq_t2_t3.symm
 replace k_t5 := k_t5.p hO nq_t2_t5.symm
 replace k_t7 := k_t7.p hO nq_t2_t7.symm
 replace off0 := off0.p hO J01
 clear hO
 refine J2t (fun W => (Blk W Q1u (p4 dx y0 1 dt) 60) ∧ (Blk W J92 (c4 (pN P)) 42)) (fun W hS => ⟨hS.1, hS.2⟩) ⟨k_t5, k_t7⟩ ?_
 refine J3g rfl ?_
 refine Lp ?_ k_t3 (cells := c4 (pN P))
 intro W12 hO h_
 replace k_t3 : Blk W12 Q1j (c4 (pN P)) 42 := h_
 clear h_
 replace k_t2 := k_t2.p hO nq_t2_t3
 replace k_t5 := k_t5.p hO nq_t3_t5.symm
 replace k_t7 := k_t7.p hO nq_t3_t7.symm
 replace off0 := off0.p hO J5f
 clear hO
 refine J2t (fun W => (Blk W Q1u (p4 dx y0 1 dt) 60) ∧ (Blk W J92 (c4 (pN P)) 42)) (fun W hS => ⟨hS.1, hS.2⟩) ⟨k_t5, k_t7⟩ ?_
 (refine J1r (v := ?_) rfl (by rfl) (fun W hS => ?_) ?_; rotate_left 1; (focus (go_simp; first | done | with_reducible rfl)))
 (try simp only [Act.put, mA, mB, mC])
 refine Q3s ?_
 go_wp2
 exact bodyPost_ret (Q0p rfl rfl rfl rfl k_t2 k_t3 (by kernel_rfl) (by kernel_rfl) (by kernel_rfl) (by kernel_rfl)) rfl ⟨rfl, off0.ext⟩
theorem V0v (hc : kn.c) {P X : Nat} (hok : dOk (pG P) = true) (hX : X = Q6a P) :
  ∀ w, GA kn w → Calls Tryd.prog 27 #[.agg (J1 .u8 80 (Q6 P))] w fun e w' => Ret (.tuple #[.agg (J1 .u8 64 (Q6 X)), .int .i64 0]) w w' e := by
 obtain ⟨dx, dt, dr, dc⟩ := J9p hc (V := (pG P)) (Q11 P) hok
 obtain ⟨y0, hy0⟩ := V2 ((pG P) % 2 ^ 255)
 rw [← hy0] at dr dc
 clear hy0
 obtain ⟨x1, y2, z3, t4, r5, c6⟩ := J84 (kn := kn) dr.rw
 obtain ⟨U1, hU1⟩ := V2 (enc (pm (dPt (pG P)) 8))
 have bU1 : U1 < 2 ^ 256 := by rw [hU1]; exact J4r _
 have HU1 := Lib.hid hU1
 clear hU1
 obtain ⟨U2, hU2⟩ := V2 (hs ([3, 3] ++ (lb 32 U1) ++ [0]))
 have HU2 := Lib.hid hU2
 clear hU2
 intro w hG
 have off0 : Off [] w w := Off.refl _ _
 go_enter Tryd.func27, Tryd.ntmps27
 go_upto_region 0 with fail
 refine wp_region_lit ?_
 refine Ln ?_ (z := J1 .u8 80 (Q6 P)) (t := 45)
 intro J1a W1 J2n hO h_
 replace off0 := off0.o hO
 have k_t1 := h_
 clear hO h_ J2n
 refine Ln ?_ (z := J1 .u8 64 (Q6 0)) (t := 30)
 intro J2q W2 U0 hO h_
 have J01 := fbn off0 U0
 replace k_t1 := k_t1.o hO
 replace off0 := off0.o hO
 have k_t2 := h_
 clear hO h_ U0
 refine Lw ?_ (v := .int .i64 0)
 refine J0 ?_
 go_upto_region 1 with fail
 refine wp_region_lit ?_
 refine Lw ?_ (v := .slice (some ⟨J1a, 0, none⟩) 32 80) (hv := by first | rfl | (go_simp; done) | (go_simp; with_reducible rfl))
 refine Lw ?_ (v := .pointer (some ⟨J1a, 0, none⟩)) (hv := by first | rfl | (go_simp; done) | (go_simp; with_reducible rfl))
 refine J05 (vs := (J1 .u8 32 (Q6 (pG P))).toList) (by rfl) rfl rfl k_t1 (J3z Y21) (by kernel_rfl) (by kernel_rfl) ?_
 (try simp only [Act.put, mA, mB, mC])
 refine Lr ?_ (dc W2 (Q7 hG off0.ext).1)
 intro W3 hO
 replace k_t2 := k_t2.o hO
 replace off0 := off0.o hO
 clear hO
 refine Lv ?_
 refine Lv ?_
 refine Lw ?_ (v := .int .i64 0)
 refine LnP ?_ (z := p4 0 0 0 0) (t := 60) (cells := p4 dx y0 1 dt)
 intro Q0s W5 J10 hO h_
 replace k_t2 := k_t2.o hO
 replace off0 := off0.o hO
 have k_t4 := h_
 clear hO h_ J10
 refine Lw ?_ (v := .int .i64 0)
 refine J0 ?_
 go_upto_region 4 with fail
 refine wp_region_lit ?_
 refine L0 ?_ k_t4
 refine Lr ?_ (c6 W5 (Q7 hG off0.ext).1)
 intro W6 hO
 replace k_t2 := k_t2.o hO
 replace off0 := off0.o hO
 clear hO
 refine Lr ?_ (J9z r5.rw HU1.out W6 (Q7 hG off0.ext).1)
 intro W7 hO
 replace k_t2 := k_t2.o hO
 replace off0 := off0.o hO
 clear hO
 refine LnA ?_ (z := J1 .u8 32 (Q6 0)) (t := 22) (k := .u8) (n := 32) (f := Q6 U1)
 intro Y3t W9 J1c hO h_
 replace k_t2 := k_t2.o hO
 replace off0 := off0.o hO
 have k_t6 := h_
 clear hO h_ J1c
 refine J0 ?_
 go_upto_region 5 with fail
 refine wp_region_lit ?_
 refine LnS ?_ (z := #[.int .u8 3, .int .u8 3]) (t := 5) (n := 2) (c := 2)
 intro Z2f W10 Q3v hO h_
 replace k_t2 := k_t2.o hO
 replace k_t6 := k_t6.o hO
 replace off0 := off0.o hO
 have ow_s20 : Own W10 (.slice (some ⟨Z2f, 0, none⟩) 2 2) [3, 3] := V7 h_ (by rfl) (by show 2 ≤ maxLen; decide)
 clear hO h_ Q3v
 refine Lw ?_ (v := .slice (some ⟨Y3t, 0, none⟩) 32 32) (hv := by first | rfl | (go_simp; done) | (go_simp; with_reducible rfl))
 refine LnS ?_ (z := #[.int .u8 0]) (t := 5) (n := 1) (c := 1)
 intro J96 W11 Q7k hO h_
 replace k_t2 := k_t2.o hO
 replace k_t6 := k_t6.o hO
 replace ow_s20 := Own.off ow_s20 hO f0
 replace off0 := off0.o hO
 have ow_s22 : Own W11 (.slice (some ⟨J96, 0, none⟩) 1 1) [0] := V7 h_ (by rfl) (by show 1 ≤ maxLen; decide)
 clear hO h_ Q7k
 refine LnS ?_ (z := #[(.slice (some ⟨Z2f, 0, none⟩) 2 2), .slice (some ⟨Y3t, 0, none⟩) 32 32, (.slice (some ⟨J96, 0, none⟩) 1 1)]) (t := 23) (n := 3) (c := 3) (hr := by exact J43 [(.slice (some ⟨Z2f, 0, none⟩) 2 2), .slice (some ⟨Y3t, 0, none⟩) 32 32, (.slice (some ⟨J96, 0, none⟩) 1 1)] rfl rfl (vsc ((J36 ow_s20).1) (vsc (rfl) (vsc ((J36 ow_s22).1) vs0))) Tryd.underlying112 (by kernel_rfl) (by kernel_rfl) rfl (by decide) (by decide))
 intro V0w W12 J7k hO h_
 replace k_t2 := k_t2.o hO
 replace k_t6 := k_t6.o hO
 replace ow_s20 := Own.off ow_s20 hO f0
 replace ow_s22 := Own.off ow_s22 hO f0
 replace off0 := off0.o hO
 have J4g := h_
 clear hO h_ J7k
 refine Lr ?_ (J8z HU2.out [[3, 3], lb 32 U1, [0]] (some ⟨V0w, 0, none⟩) 3 (by simp only [List.flatten_cons, List.flatten_nil, List.append_nil, List.nil_append, List.append_assoc, List.cons_append]) (by first | omega | (simp only [List.length_append, List.length_cons, List.length_nil, J8]; omega)) (by simp) W12 (J7i J4g (pvc (ow_s20.sl) (pvc (J0j (V := U1) (n := 32) (off := 0) k_t6 ap0 (by decide) (by decide)) (pvc (ow_s22.sl) pv0)))) (Q7 hG off0.ext).2.1)
 intro W13 hO
 replace k_t2 := k_t2.o hO
 replace off0 := off0.o hO
 clear hO
 refine LpA ?_ k_t2 (k := .u8) (n := 64) (f := Q6 U2)
 intro W14 hO h_
 replace k_t2 : Blk W14 J2q (J1 .u8 64 (Q6 U2)) 30 := h_
 clear h_
 replace off0 := off0.p hO J01
 clear hO
 refine Lw ?_ (v := .int .i64 0)
 refine J0 ?_
 go_wp2
 rw [hX, show Q6a P = U2 by rw [HU2.out, HU1.out]; rfl]
 exact bodyPost_ret (V8 rfl rfl rfl k_t2 (by kernel_rfl) (by rw [Q1]; kernel_rfl)) rfl ⟨rfl, off0.ext⟩
end Go.Proofs.YtefpoollmbmkfaaDoor
