/- vrf: point. Conditions: the cells of the variables hold their numbers. vrf: mark, wide. Conditions: the cells of the variables hold their numbers. vrf: key, parts, Sum, Index. Conditions: the cells of the variables hold their numbers. -/
import Derived.Test.YtefpoollmbmkfaaDoorGc
import Derived.Test.YtefpoollmbmkfaaDoorVf
import Derived.Test.YtefpoollmbmkfaaDoorSgC
set_option linter.unusedSimpArgs false
set_option linter.unusedVariables false
namespace Go.Proofs.YtefpoollmbmkfaaDoor
set_option maxHeartbeats 2000000
set_option maxRecDepth 100000
open Go.RowKit
attribute [local irreducible] wpList
variable {kn : Kn}
open Sc (LL J2a)
attribute [local irreducible] hs
theorem Q63 {A B : Nat} {v : Value} {w : World} (h : A = B) (c : Calls Tryd.prog 31 #[.agg (J1 .u8 32 (Q6 B))] w fun e w' => Ret v w w' e) : Calls Tryd.prog 31 #[.agg (J1 .u8 32 (Q6 A))] w fun e w' => Ret v w w' e := h ▸ c
theorem Q38 {w : World} {o : Oper} {a : Act} {x y : Operand} {t t' : TypeId} {i n : Nat} {c : Bool} (hc : decide (i < n) = c) (ho : o.op = .binOp .lss t x y t') (hx : a.eval x = .int .i64 (i : Int)) (hy : a.eval y = .int .i64 (n : Int)) : (execOp a.eval o).run Tryd.prog w = .ok (.value (.bool c)) w := by
  have e : decide ((i : Int) < (n : Int)) = c := by rw [← hc]; exact decide_eq_decide.2 Int.ofNat_lt
  simp only [execOp, ho, hx, hy, eqGuard, binOp, Sem.run_bind]
  simp [e, hc, go_sem, Sem.run_bind]
theorem Q39 {w : World} {o : Oper} {a : Act} {x : Operand} {i : Nat} (ho : o.op = .convert 3 5 x) (hx : a.eval x = .int .i64 (i : Int)) : (execOp a.eval o).run Tryd.prog w = .ok (.value (.int .u8 ((u8 i).toNat : Int))) w := by
  rw [Q21, show ((i : Int) % 256) = w8 (i : Int) from (IntKind.wrap_u8 _).symm]; exact J6q ho hx

theorem Z21 (hc : kn.c) {V : Nat} {L : List UInt8} (hL : L.length ≤ 1099511627776) (c0 : Nat) (h256 : c0 < 256) (hok : J2d V L c0 = true) (hlow : ∀ i, i < c0 → J2d V L i = false) :
  ∃ X Y Z T, RN X Y Z T (J22 V L c0) ∧ ∀ v w, GA kn w → Sl w v L → Calls Tryd.prog 60 #[.agg (J1 .u8 32 (Q6 V)), v] w fun e w' => Ret (.tuple #[.agg (p4 X Y Z T), .int .i64 0]) w w' e := by
 obtain ⟨dx0, dt0, dr0, dc0⟩ := J9o (kn := kn) hc (J5v V L c0) (candOk_iff.1 hok).1
 obtain ⟨dy0, hdy0⟩ := V2 (J3x V L c0 % 2 ^ 255)
 rw [← hdy0] at dr0 dc0
 clear hdy0
 obtain ⟨ex0, ey0, ez0, et0, er0, ec0⟩ := J83 (kn := kn) dr0.rw
 replace er0 : RN ex0 ey0 ez0 et0 (J22 V L c0) := er0
 refine ⟨ex0, ey0, ez0, et0, er0, fun v w hG hsl => ?_⟩
 have Q5 := hsl
 have off0 : Off [] w w := Off.refl _ _
 go_enter Tryd.func60, Tryd.ntmps60
 go_upto_region 0 with fail
 refine wp_region_lit ?_
 refine Ln ?_ (z := J1 .u8 32 (Q6 V)) (t := 22)
 intro J0b W1 K7 hO h_
 replace Q5 := Sl.off Q5 hO f0
 replace off0 := off0.o hO
 have k_t2 := h_
 clear hO h_ K7
 refine Ln ?_ (z := p4 0 0 0 0) (t := 60)
 intro J6d W2 J0u hO h_
 have nq_t2_t4 := bn k_t2 J0u
 have Y5d := J0m (Sl.lt Q5) J0u
 have J2g := fbn off0 J0u
 replace k_t2 := k_t2.o hO
 replace Q5 := Sl.off Q5 hO f0
 replace off0 := off0.o hO
 have k_t4 := h_
 clear hO h_ J0u
 refine Lw ?_ (v := .int .i64 0)
 refine J0 ?_
 go_wp2_with fail
 go_loopw [10] (fun ii wr => ∃ (i : Nat), (i ≤ c0) ∧ (ii = .int .i64 (i : Int)) ∧ Off [] w wr ∧ Blk wr J0b (J1 .u8 32 (Q6 V)) 22 ∧ Blk wr J6d (p4 0 0 0 0) 60 ∧ Sl wr v L)
  (fun ii _ => (256 - intOf ii).toNat)
 case atStart => exact ⟨0, Nat.zero_le _, rfl, off0, k_t2, k_t4, Q5⟩
 case round =>
  obtain ⟨i, hi, rfl, off0, k_t2, k_t4, Q5⟩ := hrel
  obtain ⟨W3, eW_⟩ := J3s off0
  subst eW_
  go_upto_region 2 with fail
  refine wp_region_lit ?_
  refine Lw ?_ (v := .bool true) (hv := by exact Q38 (i := i) (n := 256) (decide_eq_true (by omega)) rfl rfl rfl)
  refine J0 ?_
  by_cases hi0 : i = c0
  ·
   have _f := hi0
   subst hi0
   have hdo := (candOk_iff.1 hok).1
   have hne := (candOk_iff.1 hok).2
   go_upto_region 4 with fail
   refine wp_region_lit ?_
   refine LnS ?_ (z := #[.int .u8 3, .int .u8 1]) (t := 5) (n := 2) (c := 2)
   intro J97 W4 Q7b hO h_
   have Z6j : Value.ownBlock (.slice (some ⟨J97, 0, none⟩) 2 2) ≠ some J6d := obn k_t4 Q7b
   replace k_t2 := k_t2.o hO
   replace k_t4 := k_t4.o hO
   replace Q5 := Sl.off Q5 hO f0
   replace off0 := off0.o hO
   have ow_s13 : Own W4 (.slice (some ⟨J97, 0, none⟩) 2 2) [3, 1] := V8 h_ (by rfl) (by show 2 ≤ maxLen; decide)
   clear hO h_ Q7b
   refine Lw ?_ (v := .slice (some ⟨J0b, 0, none⟩) 32 32) (hv := by first | rfl | (go_simp; done) | (go_simp; with_reducible rfl))
   refine Lv ?_
   refine Lv ?_
   refine Lw ?_ (v := .int .u8 ((UInt8.ofNat i).toNat : Int)) (hv := by exact Q39 rfl rfl)
   refine LnS ?_ (z := #[.int .u8 ((UInt8.ofNat i).toNat : Int), .int .u8 0]) (t := 5) (n := 2) (c := 2)
   intro J98 W5 Q7c hO h_
   have Z6k : Value.ownBlock (.slice (some ⟨J98, 0, none⟩) 2 2) ≠ some J6d := obn k_t4 Q7c
   replace k_t2 := k_t2.o hO
   replace k_t4 := k_t4.o hO
   replace Q5 := Sl.off Q5 hO f0
   replace ow_s13 := Own.off ow_s13 hO f0
   replace off0 := off0.o hO
   have ow_s18 : Own W5 (.slice (some ⟨J98, 0, none⟩) 2 2) [UInt8.ofNat i, 0] := V8 h_ (by rfl) (by show 2 ≤ maxLen; decide)
   clear hO h_ Q7c
   refine LnS ?_ (z := #[(.slice (some ⟨J97, 0, none⟩) 2 2), .slice (some ⟨J0b, 0, none⟩) 32 32, v, (.slice (some ⟨J98, 0, none⟩) 2 2)]) (t := 23) (n := 4) (c := 4) (hr := by exact J45 [(.slice (some ⟨J97, 0, none⟩) 2 2), .slice (some ⟨J0b, 0, none⟩) 32 32, v, (.slice (some ⟨J98, 0, none⟩) 2 2)] rfl rfl (vsc ((J33 ow_s13).1) (vsc (rfl) (vsc ((J3e Q5).1) (vsc ((J33 ow_s18).1) vs0)))) Tryd.underlying112 (by kernel_rfl) (by kernel_rfl) rfl (by decide) (by decide))
   intro Z0i W6 Q7d hO h_
   have nq_t4_s19 := bn k_t4 Q7d
   replace k_t2 := k_t2.o hO
   replace k_t4 := k_t4.o hO
   replace Q5 := Sl.off Q5 hO f0
   replace ow_s13 := Own.off ow_s13 hO f0
   replace ow_s18 := Own.off ow_s18 hO f0
   replace off0 := off0.o hO
   have k_s19 := h_
   clear hO h_ Q7d
   obtain ⟨U1, hU1⟩ := V2 (hs ([3, 1] ++ (lb 32 V) ++ L ++ [UInt8.ofNat i, 0]))
   have HU1 := Lib.hid hU1
   clear hU1
   refine Lr ?_ (J8w HU1.out [[3, 1], lb 32 V, L, [UInt8.ofNat i, 0]] (some ⟨Z0i, 0, none⟩) 4 (by simp only [List.flatten_cons, List.flatten_nil, List.append_nil, List.nil_append, List.append_assoc, List.cons_append]) (by first | omega | (simp only [List.length_append, List.length_cons, List.length_nil, J8]; omega)) (by simp) W6 (J7g k_s19 (pvc (ow_s13.sl) (pvc (J0z (V := V) (n := 32) (off := 0) k_t2 ap0 (by decide) (by decide)) (pvc Q5 (pvc (ow_s18.sl) pv0))))) (Q9 hG off0.ext).2.1)
   intro W7 hO
   replace k_t2 := k_t2.o hO
   replace k_t4 := k_t4.o hO
   replace k_s19 := k_s19.o hO
   replace Q5 := Sl.off Q5 hO f0
   replace ow_s13 := Own.off ow_s13 hO f0
   replace ow_s18 := Own.off ow_s18 hO f0
   replace off0 := off0.o hO
   clear hO
   refine LnA ?_ (z := J1 .u8 64 (Q6 0)) (t := 30) (k := .u8) (n := 64) (f := Q6 U1)
   intro J8z W9 J04 hO h_
   have nq_t4_t7 := bn k_t4 J04
   replace k_t2 := k_t2.o hO
   replace k_t4 := k_t4.o hO
   replace k_s19 := k_s19.o hO
   replace Q5 := Sl.off Q5 hO f0
   replace ow_s13 := Own.off ow_s13 hO f0
   replace ow_s18 := Own.off ow_s18 hO f0
   replace off0 := off0.o hO
   have k_t7 := h_
   clear hO h_ J04
   refine J0 ?_
   go_upto_region 5 with fail
   refine wp_region_lit ?_
   refine Lw ?_ (v := .slice (some ⟨J8z, 0, none⟩) 32 64) (hv := by first | rfl | (go_simp; done) | (go_simp; with_reducible rfl))
   refine Lw ?_ (v := .pointer (some ⟨J8z, 0, none⟩)) (hv := by first | rfl | (go_simp; done) | (go_simp; with_reducible rfl))
   refine J01 (vs := (J1 .u8 32 (Q6 (lo U1))).toList) (by rfl) rfl rfl k_t7 (J3o Z1t) (by kernel_rfl) (by kernel_rfl) ?_
   (try simp only [Act.put, mA, mB, mC])
   have hcb9 : lo U1 = J3x V L i := by rw [HU1.out]; rfl
   refine Lr ?_ (Q63 hcb9 (dc0 W9 (Q9 hG off0.ext).1))
   intro W10 hO
   replace k_t2 := k_t2.o hO
   replace k_t4 := k_t4.o hO
   replace k_s19 := k_s19.o hO
   replace k_t7 := k_t7.o hO
   replace Q5 := Sl.off Q5 hO f0
   replace ow_s13 := Own.off ow_s13 hO f0
   replace ow_s18 := Own.off ow_s18 hO f0
   replace off0 := off0.o hO
   clear hO
   refine Lv ?_
   refine Lv ?_
   refine Lw ?_ (v := .int .i64 0)
   refine LnP ?_ (z := p4 0 0 0 0) (t := 60) (cells := p4 dx0 dy0 1 dt0)
   intro J1y W12 V6 hO h_
   have nq_t2_t8 := bn k_t2 V6
   have nq_t4_t8 := bn k_t4 V6
   have Z6l := bn k_s19 V6
   have nq_t7_t8 := bn k_t7 V6
   have Q29 := J0m (Sl.lt Q5) V6
   have Z6m := J0m (Own.lt ow_s13) V6
   have Z6n := J0m (Own.lt ow_s18) V6
   have J1v := fbn off0 V6
   replace k_t2 := k_t2.o hO
   replace k_t4 := k_t4.o hO
   replace k_s19 := k_s19.o hO
   replace k_t7 := k_t7.o hO
   replace Q5 := Sl.off Q5 hO f0
   replace ow_s13 := Own.off ow_s13 hO f0
   replace ow_s18 := Own.off ow_s18 hO f0
   replace off0 := off0.o hO
   have k_t8 := h_
   clear hO h_ V6
   refine Lw ?_ (v := .int .i64 0)
   refine J0 ?_
   go_upto_region 7 with fail
   refine wp_region_lit ?_
   refine L0 ?_ k_t8
   refine Lr ?_ (ec0 W12 (Q9 hG off0.ext).1)
   intro W13 hO
   replace k_t2 := k_t2.o hO
   replace k_t4 := k_t4.o hO
   replace k_s19 := k_s19.o hO
   replace k_t7 := k_t7.o hO
   replace k_t8 := k_t8.o hO
   replace Q5 := Sl.off Q5 hO f0
   replace ow_s13 := Own.off ow_s13 hO f0
   replace ow_s18 := Own.off ow_s18 hO f0
   replace off0 := off0.o hO
   clear hO
   refine Lp ?_ k_t8 (cells := p4 ex0 ey0 ez0 et0)
   intro W14 hO h_
   replace k_t8 : Blk W14 J1y (p4 ex0 ey0 ez0 et0) 60 := h_
   clear h_
   replace k_t2 := k_t2.p hO nq_t2_t8
   replace k_t4 := k_t4.p hO nq_t4_t8
   replace k_s19 := k_s19.p hO Z6l
   replace k_t7 := k_t7.p hO nq_t7_t8
   replace Q5 := Sl.off Q5 hO (f1 Q29)
   replace ow_s13 := Own.off ow_s13 hO (f1 Z6m)
   replace ow_s18 := Own.off ow_s18 hO (f1 Z6n)
   replace off0 := off0.p hO J1v
   clear hO
   refine J0 ?_
   go_upto_region 8 with fail
   refine wp_region_lit ?_
   refine L0 ?_ k_t8
   refine Lw ?_ (v := .agg (p4 0 0 0 0)) (hv := by kernel_rfl)
   have cs_ := Q1j (kn := kn) er0.rw Q0c
   rw [show decide (J22 V L i = p0) = false from decide_eq_false hne] at cs_
   refine Lr ?_ (cs_ W14 (Q9 hG off0.ext).1)
   intro W15 hO
   replace k_t2 := k_t2.o hO
   replace k_t4 := k_t4.o hO
   replace k_s19 := k_s19.o hO
   replace k_t7 := k_t7.o hO
   replace k_t8 := k_t8.o hO
   replace Q5 := Sl.off Q5 hO f0
   replace ow_s13 := Own.off ow_s13 hO f0
   replace ow_s18 := Own.off ow_s18 hO f0
   replace off0 := off0.o hO
   clear hO
   refine Lw ?_ (v := .bool true)
   refine J0 ?_
   go_upto_region 9 with fail
   refine wp_region_lit ?_
   refine L0 ?_ k_t8
   refine Lp ?_ k_t4 (cells := p4 ex0 ey0 ez0 et0)
   intro W16 hO h_
   replace k_t4 : Blk W16 J6d (p4 ex0 ey0 ez0 et0) 60 := h_
   clear h_
   replace k_t2 := k_t2.p hO nq_t2_t4
   replace k_s19 := k_s19.p hO nq_t4_s19.symm
   replace k_t7 := k_t7.p hO nq_t4_t7.symm
   replace k_t8 := k_t8.p hO nq_t4_t8.symm
   replace Q5 := Sl.off Q5 hO (f1 Y5d)
   replace ow_s13 := Own.off ow_s13 hO (f1 Z6j)
   replace ow_s18 := Own.off ow_s18 hO (f1 Z6k)
   replace off0 := off0.p hO J2g
   clear hO
   refine Lw ?_ (v := .int .i64 0)
   refine J0 ?_
   go_wp2
   exact bodyPost_ret (V7 rfl rfl rfl k_t4 (by kernel_rfl) (by kernel_rfl)) rfl ⟨rfl, off0.ext⟩
  ·
   have _f := hi0
   have hbad := hlow i (by omega)
   go_upto_region 4 with fail
   refine wp_region_lit ?_
   refine LnS ?_ (z := #[.int .u8 3, .int .u8 1]) (t := 5) (n := 2) (c := 2)
   intro J97 W4 Q7b hO h_
   replace k_t2 := k_t2.o hO
   replace k_t4 := k_t4.o hO
   replace Q5 := Sl.off Q5 hO f0
   replace off0 := off0.o hO
   have ow_s13 : Own W4 (.slice (some ⟨J97, 0, none⟩) 2 2) [3, 1] := V8 h_ (by rfl) (by show 2 ≤ maxLen; decide)
   clear hO h_ Q7b
   refine Lw ?_ (v := .slice (some ⟨J0b, 0, none⟩) 32 32) (hv := by first | rfl | (go_simp; done) | (go_simp; with_reducible rfl))
   refine Lv ?_
   refine Lv ?_
   refine Lw ?_ (v := .int .u8 ((UInt8.ofNat i).toNat : Int)) (hv := by exact Q39 rfl rfl)
   refine LnS ?_ (z := #[.int .u8 ((UInt8.ofNat i).toNat : Int), .int .u8 0]) (t := 5) (n := 2) (c := 2)
   intro J98 W5 Q7c hO h_
   replace k_t2 := k_t2.o hO
   replace k_t4 := k_t4.o hO
   replace Q5 := Sl.off Q5 hO f0
   replace ow_s13 := Own.off ow_s13 hO f0
   replace off0 := off0.o hO
   have ow_s18 : Own W5 (.slice (some ⟨J98, 0, none⟩) 2 2) [UInt8.ofNat i, 0] := V8 h_ (by rfl) (by show 2 ≤ maxLen; decide)
   clear hO h_ Q7c
   refine LnS ?_ (z := #[(.slice (some ⟨J97, 0, none⟩) 2 2), .slice (some ⟨J0b, 0, none⟩) 32 32, v, (.slice (some ⟨J98, 0, none⟩) 2 2)]) (t := 23) (n := 4) (c := 4) (hr := by exact J45 [(.slice (some ⟨J97, 0, none⟩) 2 2), .slice (some ⟨J0b, 0, none⟩) 32 32, v, (.slice (some ⟨J98, 0, none⟩) 2 2)] rfl rfl (vsc ((J33 ow_s13).1) (vsc (rfl) (vsc ((J3e Q5).1) (vsc ((J33 ow_s18).1) vs0)))) Tryd.underlying112 (by kernel_rfl) (by kernel_rfl) rfl (by decide) (by decide))
   intro Z0i W6 Q7d hO h_
   replace k_t2 := k_t2.o hO
   replace k_t4 := k_t4.o hO
   replace Q5 := Sl.off Q5 hO f0
   replace ow_s13 := Own.off ow_s13 hO f0
   replace ow_s18 := Own.off ow_s18 hO f0
   replace off0 := off0.o hO
   have k_s19 := h_
   clear hO h_ Q7d
   obtain ⟨U2, hU2⟩ := V2 (hs ([3, 1] ++ (lb 32 V) ++ L ++ [UInt8.ofNat i, 0]))
   have HU2 := Lib.hid hU2
   clear hU2
   refine Lr ?_ (J8w HU2.out [[3, 1], lb 32 V, L, [UInt8.ofNat i, 0]] (some ⟨Z0i, 0, none⟩) 4 (by simp only [List.flatten_cons, List.flatten_nil, List.append_nil, List.nil_append, List.append_assoc, List.cons_append]) (by first | omega | (simp only [List.length_append, List.length_cons, List.length_nil, J8]; omega)) (by simp) W6 (J7g k_s19 (pvc (ow_s13.sl) (pvc (J0z (V := V) (n := 32) (off := 0) k_t2 ap0 (by decide) (by decide)) (pvc Q5 (pvc (ow_s18.sl) pv0))))) (Q9 hG off0.ext).2.1)
   intro W7 hO
   replace k_t2 := k_t2.o hO
   replace k_t4 := k_t4.o hO
   replace Q5 := Sl.off Q5 hO f0
   replace off0 := off0.o hO
   clear hO
   refine LnA ?_ (z := J1 .u8 64 (Q6 0)) (t := 30) (k := .u8) (n := 64) (f := Q6 U2)
   intro J8z W9 J04 hO h_
   replace k_t2 := k_t2.o hO
   replace k_t4 := k_t4.o hO
   replace Q5 := Sl.off Q5 hO f0
   replace off0 := off0.o hO
   have k_t7 := h_
   clear hO h_ J04
   refine J0 ?_
   by_cases hdo : dOk (J3x V L i) = true
   ·
    have _f := hdo
    go_upto_region 5 with fail
    refine wp_region_lit ?_
    refine Lw ?_ (v := .slice (some ⟨J8z, 0, none⟩) 32 64) (hv := by first | rfl | (go_simp; done) | (go_simp; with_reducible rfl))
    refine Lw ?_ (v := .pointer (some ⟨J8z, 0, none⟩)) (hv := by first | rfl | (go_simp; done) | (go_simp; with_reducible rfl))
    refine J01 (vs := (J1 .u8 32 (Q6 (lo U2))).toList) (by rfl) rfl rfl k_t7 (J3o Z1t) (by kernel_rfl) (by kernel_rfl) ?_
    (try simp only [Act.put, mA, mB, mC])
    have hcb9 : lo U2 = J3x V L i := by rw [HU2.out]; rfl
    obtain ⟨dx, dt, dr, dc⟩ := J9o (kn := kn) hc (J5v V L i) hdo
    obtain ⟨dy, hdy⟩ := V2 (J3x V L i % 2 ^ 255)
    rw [← hdy] at dr dc
    clear hdy
    refine Lr ?_ (Q63 hcb9 (dc W9 (Q9 hG off0.ext).1))
    intro W10 hO
    replace k_t2 := k_t2.o hO
    replace k_t4 := k_t4.o hO
    replace k_t7 := k_t7.o hO
    replace Q5 := Sl.off Q5 hO f0
    replace off0 := off0.o hO
    clear hO
    refine Lv ?_
    refine Lv ?_
    refine Lw ?_ (v := .int .i64 0)
    refine LnP ?_ (z := p4 0 0 0 0) (t := 60) (cells := p4 dx dy 1 dt)
    intro J1y W12 V6 hO h_
    have nq_t2_t8 := bn k_t2 V6
    have nq_t4_t8 := bn k_t4 V6
    have nq_t7_t8 := bn k_t7 V6
    have Q29 := J0m (Sl.lt Q5) V6
    have J1v := fbn off0 V6
    replace k_t2 := k_t2.o hO
    replace k_t4 := k_t4.o hO
    replace k_t7 := k_t7.o hO
    replace Q5 := Sl.off Q5 hO f0
    replace off0 := off0.o hO
    have k_t8 := h_
    clear hO h_ V6
    refine Lw ?_ (v := .int .i64 0)
    refine J0 ?_
    go_upto_region 7 with fail
    refine wp_region_lit ?_
    refine L0 ?_ k_t8
    obtain ⟨ex, ey, ez, et, er, ec⟩ := J83 (kn := kn) dr.rw
    refine Lr ?_ (ec W12 (Q9 hG off0.ext).1)
    intro W13 hO
    replace k_t2 := k_t2.o hO
    replace k_t4 := k_t4.o hO
    replace k_t7 := k_t7.o hO
    replace k_t8 := k_t8.o hO
    replace Q5 := Sl.off Q5 hO f0
    replace off0 := off0.o hO
    clear hO
    refine Lp ?_ k_t8 (cells := p4 ex ey ez et)
    intro W14 hO h_
    replace k_t8 : Blk W14 J1y (p4 ex ey ez et) 60 := h_
    clear h_
    replace k_t2 := k_t2.p hO nq_t2_t8
    replace k_t4 := k_t4.p hO nq_t4_t8
    replace k_t7 := k_t7.p hO nq_t7_t8
    replace Q5 := Sl.off Q5 hO (f1 Q29)
    replace off0 := off0.p hO J1v
    clear hO
    refine J0 ?_
    go_upto_region 8 with fail
    refine wp_region_lit ?_
    refine L0 ?_ k_t8
    refine Lw ?_ (v := .agg (p4 0 0 0 0)) (hv := by kernel_rfl)
    have cs_ := Q1j (kn := kn) er.rw Q0c
    rw [show decide (pm (dPt (J3x V L i)) 8 = p0) = true from decide_eq_true (Q2a hbad hdo)] at cs_
    refine Lr ?_ (cs_ W14 (Q9 hG off0.ext).1)
    intro W15 hO
    replace k_t2 := k_t2.o hO
    replace k_t4 := k_t4.o hO
    replace k_t7 := k_t7.o hO
    replace Q5 := Sl.off Q5 hO f0
    replace off0 := off0.o hO
    clear hO
    refine Lw ?_ (v := .bool false)
    refine J0 ?_
    go_upto_region 10 with fail
    refine wp_region_lit ?_
    refine Lw ?_ (v := .int .i64 (((i + 1 : Nat) : Int))) (hv := by go_simp; (try simp only [IntKind.wrap_i64]); (try omega))
    refine Lv ?_
    refine J0 ?_
    go_wp2
    go_roundw
    case rel => exact ⟨i + 1, by omega, by go_num, off0, k_t2, k_t4, Q5⟩
    case measure => simp [intOf]; omega
   ·
    have _f := hdo
    replace hdo : dOk (J3x V L i) = false := by simpa using hdo
    go_upto_region 5 with fail
    refine wp_region_lit ?_
    refine Lw ?_ (v := .slice (some ⟨J8z, 0, none⟩) 32 64) (hv := by first | rfl | (go_simp; done) | (go_simp; with_reducible rfl))
    refine Lw ?_ (v := .pointer (some ⟨J8z, 0, none⟩)) (hv := by first | rfl | (go_simp; done) | (go_simp; with_reducible rfl))
    refine J01 (vs := (J1 .u8 32 (Q6 (lo U2))).toList) (by rfl) rfl rfl k_t7 (J3o Z1t) (by kernel_rfl) (by kernel_rfl) ?_
    (try simp only [Act.put, mA, mB, mC])
    have hcb9 : lo U2 = J3x V L i := by rw [HU2.out]; rfl
    refine Lr ?_ (Q63 hcb9 (Q2k (kn := kn) hc (J5v V L i) hdo W9 (Q9 hG off0.ext).1))
    intro W10 hO
    replace k_t2 := k_t2.o hO
    replace k_t4 := k_t4.o hO
    replace Q5 := Sl.off Q5 hO f0
    replace off0 := off0.o hO
    clear hO
    refine Lv ?_
    refine Lv ?_
    refine Lw ?_ (v := .int .i64 15)
    refine LnP ?_ (z := p4 0 0 0 0) (t := 60) (cells := p4 0 0 0 0)
    intro J1y W12 V6 hO h_
    replace k_t2 := k_t2.o hO
    replace k_t4 := k_t4.o hO
    replace Q5 := Sl.off Q5 hO f0
    replace off0 := off0.o hO
    clear hO h_ V6
    refine Lw ?_ (v := .int .i64 15)
    refine J0 ?_
    go_upto_region 10 with fail
    refine wp_region_lit ?_
    refine Lw ?_ (v := .int .i64 (((i + 1 : Nat) : Int))) (hv := by go_simp; (try simp only [IntKind.wrap_i64]); (try omega))
    refine Lv ?_
    refine J0 ?_
    go_wp2
    go_roundw
    case rel => exact ⟨i + 1, by omega, by go_num, off0, k_t2, k_t4, Q5⟩
    case measure => simp [intOf]; omega
theorem Z22 (hc : kn.c) {V : Nat} {L : List UInt8} (hL : L.length ≤ 1099511627776) (hlow : ∀ i, i < 256 → J2d V L i = false) :
  ∀ v w, GA kn w → Sl w v L → Calls Tryd.prog 60 #[.agg (J1 .u8 32 (Q6 V)), v] w fun e w' => Ret (.tuple #[.agg (p4 0 0 0 0), .int .i64 15]) w w' e := by
 intro v w hG hsl
 have Q5 := hsl
 have off0 : Off [] w w := Off.refl _ _
 go_enter Tryd.func60, Tryd.ntmps60
 go_upto_region 0 with fail
 refine wp_region_lit ?_
 refine Ln ?_ (z := J1 .u8 32 (Q6 V)) (t := 22)
 intro J0b W1 K7 hO h_
 replace Q5 := Sl.off Q5 hO f0
 replace off0 := off0.o hO
 have k_t2 := h_
 clear hO h_ K7
 refine Ln ?_ (z := p4 0 0 0 0) (t := 60)
 intro J6d W2 J0u hO h_
 have J2g := fbn off0 J0u
 replace k_t2 := k_t2.o hO
 replace Q5 := Sl.off Q5 hO f0
 replace off0 := off0.o hO
 have k_t4 := h_
 clear hO h_ J0u
 refine Lw ?_ (v := .int .i64 0)
 refine J0 ?_
 go_wp2_with fail
 go_loopw [10] (fun ii wr => ∃ (i : Nat), (i ≤ 256) ∧ (ii = .int .i64 (i : Int)) ∧ Off [] w wr ∧ Blk wr J0b (J1 .u8 32 (Q6 V)) 22 ∧ Blk wr J6d (p4 0 0 0 0) 60 ∧ Sl wr v L)
  (fun ii _ => (256 - intOf ii).toNat)
 case atStart => exact ⟨0, Nat.zero_le _, rfl, off0, k_t2, k_t4, Q5⟩
 case round =>
  obtain ⟨i, hi, rfl, off0, k_t2, k_t4, Q5⟩ := hrel
  obtain ⟨W3, eW_⟩ := J3s off0
  subst eW_
  by_cases h256 : i < 256
  ·
   have _f := h256
   have hbad := hlow i h256
   go_upto_region 2 with fail
   refine wp_region_lit ?_
   refine Lw ?_ (v := .bool true) (hv := by exact Q38 (i := i) (n := 256) (decide_eq_true h256) rfl rfl rfl)
   refine J0 ?_
   go_upto_region 4 with fail
   refine wp_region_lit ?_
   refine LnS ?_ (z := #[.int .u8 3, .int .u8 1]) (t := 5) (n := 2) (c := 2)
   intro J97 W4 Q7b hO h_
   replace k_t2 := k_t2.o hO
   replace k_t4 := k_t4.o hO
   replace Q5 := Sl.off Q5 hO f0
   replace off0 := off0.o hO
   have ow_s13 : Own W4 (.slice (some ⟨J97, 0, none⟩) 2 2) [3, 1] := V8 h_ (by rfl) (by show 2 ≤ maxLen; decide)
   clear hO h_ Q7b
   refine Lw ?_ (v := .slice (some ⟨J0b, 0, none⟩) 32 32) (hv := by first | rfl | (go_simp; done) | (go_simp; with_reducible rfl))
   refine Lv ?_
   refine Lv ?_
   refine Lw ?_ (v := .int .u8 ((UInt8.ofNat i).toNat : Int)) (hv := by exact Q39 rfl rfl)
   refine LnS ?_ (z := #[.int .u8 ((UInt8.ofNat i).toNat : Int), .int .u8 0]) (t := 5) (n := 2) (c := 2)
   intro J98 W5 Q7c hO h_
   replace k_t2 := k_t2.o hO
   replace k_t4 := k_t4.o hO
   replace Q5 := Sl.off Q5 hO f0
   replace ow_s13 := Own.off ow_s13 hO f0
   replace off0 := off0.o hO
   have ow_s18 : Own W5 (.slice (some ⟨J98, 0, none⟩) 2 2) [UInt8.ofNat i, 0] := V8 h_ (by rfl) (by show 2 ≤ maxLen; decide)
   clear hO h_ Q7c
   refine LnS ?_ (z := #[(.slice (some ⟨J97, 0, none⟩) 2 2), .slice (some ⟨J0b, 0, none⟩) 32 32, v, (.slice (some ⟨J98, 0, none⟩) 2 2)]) (t := 23) (n := 4) (c := 4) (hr := by exact J45 [(.slice (some ⟨J97, 0, none⟩) 2 2), .slice (some ⟨J0b, 0, none⟩) 32 32, v, (.slice (some ⟨J98, 0, none⟩) 2 2)] rfl rfl (vsc ((J33 ow_s13).1) (vsc (rfl) (vsc ((J3e Q5).1) (vsc ((J33 ow_s18).1) vs0)))) Tryd.underlying112 (by kernel_rfl) (by kernel_rfl) rfl (by decide) (by decide))
   intro Z0i W6 Q7d hO h_
   replace k_t2 := k_t2.o hO
   replace k_t4 := k_t4.o hO
   replace Q5 := Sl.off Q5 hO f0
   replace ow_s13 := Own.off ow_s13 hO f0
   replace ow_s18 := Own.off ow_s18 hO f0
   replace off0 := off0.o hO
   have k_s19 := h_
   clear hO h_ Q7d
   obtain ⟨U1, hU1⟩ := V2 (hs ([3, 1] ++ (lb 32 V) ++ L ++ [UInt8.ofNat i, 0]))
   have HU1 := Lib.hid hU1
   clear hU1
   refine Lr ?_ (J8w HU1.out [[3, 1], lb 32 V, L, [UInt8.ofNat i, 0]] (some ⟨Z0i, 0, none⟩) 4 (by simp only [List.flatten_cons, List.flatten_nil, List.append_nil, List.nil_append, List.append_assoc, List.cons_append]) (by first | omega | (simp only [List.length_append, List.length_cons, List.length_nil, J8]; omega)) (by simp) W6 (J7g k_s19 (pvc (ow_s13.sl) (pvc (J0z (V := V) (n := 32) (off := 0) k_t2 ap0 (by decide) (by decide)) (pvc Q5 (pvc (ow_s18.sl) pv0))))) (Q9 hG off0.ext).2.1)
   intro W7 hO
   replace k_t2 := k_t2.o hO
   replace k_t4 := k_t4.o hO
   replace Q5 := Sl.off Q5 hO f0
   replace off0 := off0.o hO
   clear hO
   refine LnA ?_ (z := J1 .u8 64 (Q6 0)) (t := 30) (k := .u8) (n := 64) (f := Q6 U1)
   intro J8z W9 J04 hO h_
   replace k_t2 := k_t2.o hO
   replace k_t4 := k_t4.o hO
   replace Q5 := Sl.off Q5 hO f0
   replace off0 := off0.o hO
   have k_t7 := h_
   clear hO h_ J04
   refine J0 ?_
   by_cases hdo : dOk (J3x V L i) = true
   ·
    have _f := hdo
    go_upto_region 5 with fail
    refine wp_region_lit ?_
    refine Lw ?_ (v := .slice (some ⟨J8z, 0, none⟩) 32 64) (hv := by first | rfl | (go_simp; done) | (go_simp; with_reducible rfl))
    refine Lw ?_ (v := .pointer (some ⟨J8z, 0, none⟩)) (hv := by first | rfl | (go_simp; done) | (go_simp; with_reducible rfl))
    refine J01 (vs := (J1 .u8 32 (Q6 (lo U1))).toList) (by rfl) rfl rfl k_t7 (J3o Z1t) (by kernel_rfl) (by kernel_rfl) ?_
    (try simp only [Act.put, mA, mB, mC])
    have hcb9 : lo U1 = J3x V L i := by rw [HU1.out]; rfl
    obtain ⟨dx, dt, dr, dc⟩ := J9o (kn := kn) hc (J5v V L i) hdo
    obtain ⟨dy, hdy⟩ := V2 (J3x V L i % 2 ^ 255)
    rw [← hdy] at dr dc
    clear hdy
    refine Lr ?_ (Q63 hcb9 (dc W9 (Q9 hG off0.ext).1))
    intro W10 hO
    replace k_t2 := k_t2.o hO
    replace k_t4 := k_t4.o hO
    replace k_t7 := k_t7.o hO
    replace Q5 := Sl.off Q5 hO f0
    replace off0 := off0.o hO
    clear hO
    refine Lv ?_
    refine Lv ?_
    refine Lw ?_ (v := .int .i64 0)
    refine LnP ?_ (z := p4 0 0 0 0) (t := 60) (cells := p4 dx dy 1 dt)
    intro J1y W12 V6 hO h_
    have nq_t2_t8 := bn k_t2 V6
    have nq_t4_t8 := bn k_t4 V6
    have nq_t7_t8 := bn k_t7 V6
    have Q29 := J0m (Sl.lt Q5) V6
    have J1v := fbn off0 V6
    replace k_t2 := k_t2.o hO
    replace k_t4 := k_t4.o hO
    replace k_t7 := k_t7.o hO
    replace Q5 := Sl.off Q5 hO f0
    replace off0 := off0.o hO
    have k_t8 := h_
    clear hO h_ V6
    refine Lw ?_ (v := .int .i64 0)
    refine J0 ?_
    go_upto_region 7 with fail
    refine wp_region_lit ?_
    refine L0 ?_ k_t8
    obtain ⟨ex, ey, ez, et, er, ec⟩ := J83 (kn := kn) dr.rw
    refine Lr ?_ (ec W12 (Q9 hG off0.ext).1)
    intro W13 hO
    replace k_t2 := k_t2.o hO
    replace k_t4 := k_t4.o hO
    replace k_t7 := k_t7.o hO
    replace k_t8 := k_t8.o hO
    replace Q5 := Sl.off Q5 hO f0
    replace off0 := off0.o hO
    clear hO
    refine Lp ?_ k_t8 (cells := p4 ex ey ez et)
    intro W14 hO h_
    replace k_t8 : Blk W14 J1y (p4 ex ey ez et) 60 := h_
    clear h_
    replace k_t2 := k_t2.p hO nq_t2_t8
    replace k_t4 := k_t4.p hO nq_t4_t8
    replace k_t7 := k_t7.p hO nq_t7_t8
    replace Q5 := Sl.off Q5 hO (f1 Q29)
    replace off0 := off0.p hO J1v
    clear hO
    refine J0 ?_
    go_upto_region 8 with fail
    refine wp_region_lit ?_
    refine L0 ?_ k_t8
    refine Lw ?_ (v := .agg (p4 0 0 0 0)) (hv := by kernel_rfl)
    have cs_ := Q1j (kn := kn) er.rw Q0c
    rw [show decide (pm (dPt (J3x V L i)) 8 = p0) = true from decide_eq_true (Q2a hbad hdo)] at cs_
    refine Lr ?_ (cs_ W14 (Q9 hG off0.ext).1)
    intro W15 hO
    replace k_t2 := k_t2.o hO
    replace k_t4 := k_t4.o hO
    replace k_t7 := k_t7.o hO
    replace Q5 := Sl.off Q5 hO f0
    replace off0 := off0.o hO
    clear hO
    refine Lw ?_ (v := .bool false)
    refine J0 ?_
    go_upto_region 10 with fail
    refine wp_region_lit ?_
    refine Lw ?_ (v := .int .i64 (((i + 1 : Nat) : Int))) (hv := by go_simp; (try simp only [IntKind.wrap_i64]); (try omega))
    refine Lv ?_
    refine J0 ?_
    go_wp2
    go_roundw
    case rel => exact ⟨i + 1, by omega, by go_num, off0, k_t2, k_t4, Q5⟩
    case measure => simp [intOf]; omega
   ·
    have _f := hdo
    replace hdo : dOk (J3x V L i) = false := by simpa using hdo
    go_upto_region 5 with fail
    refine wp_region_lit ?_
    refine Lw ?_ (v := .slice (some ⟨J8z, 0, none⟩) 32 64) (hv := by first | rfl | (go_simp; done) | (go_simp; with_reducible rfl))
    refine Lw ?_ (v := .pointer (some ⟨J8z, 0, none⟩)) (hv := by first | rfl | (go_simp; done) | (go_simp; with_reducible rfl))
    refine J01 (vs := (J1 .u8 32 (Q6 (lo U1))).toList) (by rfl) rfl rfl k_t7 (J3o Z1t) (by kernel_rfl) (by kernel_rfl) ?_
    (try simp only [Act.put, mA, mB, mC])
    have hcb9 : lo U1 = J3x V L i := by rw [HU1.out]; rfl
    refine Lr ?_ (Q63 hcb9 (Q2k (kn := kn) hc (J5v V L i) hdo W9 (Q9 hG off0.ext).1))
    intro W10 hO
    replace k_t2 := k_t2.o hO
    replace k_t4 := k_t4.o hO
    replace Q5 := Sl.off Q5 hO f0
    replace off0 := off0.o hO
    clear hO
    refine Lv ?_
    refine Lv ?_
    refine Lw ?_ (v := .int .i64 15)
    refine LnP ?_ (z := p4 0 0 0 0) (t := 60) (cells := p4 0 0 0 0)
    intro J1y W12 V6 hO h_
    replace k_t2 := k_t2.o hO
    replace k_t4 := k_t4.o hO
    replace Q5 := Sl.off Q5 hO f0
    replace off0 := off0.o hO
    clear hO h_ V6
    refine Lw ?_ (v := .int .i64 15)
    refine J0 ?_
    go_upto_region 10 with fail
    refine wp_region_lit ?_
    refine Lw ?_ (v := .int .i64 (((i + 1 : Nat) : Int))) (hv := by go_simp; (try simp only [IntKind.wrap_i64]); (try omega))
    refine Lv ?_
    refine J0 ?_
    go_wp2
    go_roundw
    case rel => exact ⟨i + 1, by omega, by go_num, off0, k_t2, k_t4, Q5⟩
    case measure => simp [intOf]; omega
  ·
   have _f := h256
   go_upto_region 2 with fail
   refine wp_region_lit ?_
   refine Lw ?_ (v := .bool false) (hv := by exact Q38 (i := i) (n := 256) (decide_eq_false h256) rfl rfl rfl)
   refine J0 ?_
   go_upto_region 11 with fail
   refine wp_region_lit ?_
   refine Lw ?_ (v := .agg (p4 0 0 0 0)) (hv := by kernel_rfl)
   refine Lp ?_ k_t4 (cells := p4 0 0 0 0)
   intro W4 hO h_
   replace k_t4 : Blk W4 J6d (p4 0 0 0 0) 60 := h_
   clear h_
   replace off0 := off0.p hO J2g
   clear hO
   refine Lw ?_ (v := .int .i64 15)
   refine J0 ?_
   go_wp2
   exact bodyPost_ret (V7 rfl rfl rfl k_t4 (by kernel_rfl) (by kernel_rfl)) rfl ⟨rfl, off0.ext⟩
end Go.Proofs.YtefpoollmbmkfaaDoor

namespace Go.Proofs.YtefpoollmbmkfaaDoor
set_option maxHeartbeats 2000000
set_option maxRecDepth 100000
open Go.RowKit
attribute [local irreducible] wpList
variable {kn : Kn}
open Sc (LL J2a)
attribute [local irreducible] hs
def q4 (a b c d : Array Value) : Array Value := a ++ b ++ c ++ d
section
variable {X1 Y1 Z1 T1 X2 Y2 Z2 T2 X3 Y3 Z3 T3 X4 Y4 Z4 T4 : Nat}
theorem Z6o {X Y Z T : Nat} : (p4 X Y Z T).size = 16 := rfl
theorem V5l : ∀ i v, (p4 X1 Y1 Z1 T1)[i]? = some v → (q4 (p4 X1 Y1 Z1 T1) (p4 X2 Y2 Z2 T2) (p4 X3 Y3 Z3 T3) (p4 X4 Y4 Z4 T4))[0 + i]? = some v := fun i v h => by rw [Nat.zero_add]; exact J5f (J5f (J5f h))
theorem V5m : ∀ i v, (p4 X2 Y2 Z2 T2)[i]? = some v → (q4 (p4 X1 Y1 Z1 T1) (p4 X2 Y2 Z2 T2) (p4 X3 Y3 Z3 T3) (p4 X4 Y4 Z4 T4))[16 + i]? = some v := fun i v h => J5f (J5f (Q0r Z6o h))
theorem V5n : ∀ i v, (p4 X3 Y3 Z3 T3)[i]? = some v → (q4 (p4 X1 Y1 Z1 T1) (p4 X2 Y2 Z2 T2) (p4 X3 Y3 Z3 T3) (p4 X4 Y4 Z4 T4))[32 + i]? = some v := fun i v h => J5f (Q0r (by rw [Array.size_append, Z6o, Z6o]) h)
theorem V5o : ∀ i v, (p4 X4 Y4 Z4 T4)[i]? = some v → (q4 (p4 X1 Y1 Z1 T1) (p4 X2 Y2 Z2 T2) (p4 X3 Y3 Z3 T3) (p4 X4 Y4 Z4 T4))[48 + i]? = some v := fun i v h => Q0r (by rw [Array.size_append, Array.size_append, Z6o, Z6o, Z6o]) h
end
theorem Y1o {e n : Nat} {F : List Nat} (h : Fb e n F) : Fr (some e) n F := fun x hx hlt => by have := Option.some.inj hx; subst this; exact h hlt
theorem Y1p {e b : Nat} (h : b ≠ e) : some e ≠ some b := fun k => h (Option.some.inj k).symm
theorem Y5e {w : World} {v : Value} {t : TypeId} {vs : List Value} {ps : List (List UInt8)} (h : Row t 1 w v (vs.map fun x => [x])) (hn : ps.length = vs.length) (hv : ∀ (i : Nat) (l : List UInt8), ps[i]? = some l → ∃ u, vs[i]? = some u ∧ Sl w u l) (h0 : 0 < vs.length) :
    ∃ A c, v = .slice A ps.length c ∧ ∀ (i : Nat) (l : List UInt8), ps[i]? = some l → ∃ ad u, A = some ad ∧ w.cell? (ad.add i) = some u ∧ Sl w u l := by
  have h1 : (vs.map fun x => [x])[0]? = some [vs[0]] := by rw [List.getElem?_map, List.getElem?_eq_getElem h0]; rfl
  obtain ⟨g, c, hv0, _⟩ := h.at h1
  rw [List.length_map, ← hn] at hv0
  refine ⟨_, c, hv0, fun i l hi => ?_⟩
  obtain ⟨u, hu, hs⟩ := hv i l hi
  have h2 : (vs.map fun x => [x])[i]? = some [u] := by rw [List.getElem?_map, hu]; rfl
  obtain ⟨g', c', hv', hc⟩ := h.at h2
  rw [List.length_map, ← hn, hv0] at hv'
  injection hv' with e1 _ _
  injection e1 with e1
  injection e1 with e1 _ _
  subst e1
  have := hc 0 u rfl
  rw [Nat.mul_one, Nat.add_zero] at this
  exact ⟨_, u, rfl, by rw [Addr.add_mid, Nat.zero_add]; exact this, hs⟩
theorem Z6p {ops : Array Oper} {Q : Exit → Act → World → Prop} {w : World} {r : List Oper} {o : Oper} {a : Act} {x y : Operand} {v : Value} {l : List UInt8} {g : Nat} {cur : Array Value} {t : TypeId} {n c : Nat} (hs : Sl w v l) (hB : Blk w g cur t) (hcur : cur.size = n) (hn : l.length ≤ n) (hp : 0 < l.length) (hw : Region.wanted o (yielded ops a.tmps) = true)
    (ho : o.op = .call { callee := .builtin .copy, args := #[x, y], argTypes := #[23, 23] }) (hx : a.eval x = .slice (some ⟨g, 0, none⟩) n c) (hy : a.eval y = v)
    (h : ∀ W, Off [g] w W → Blk W g (bs8 l ++ cur.toList.drop l.length).toArray t → wpList Tryd.prog ops Q r (a.put o.dst (goInt l.length)) W) : wpList Tryd.prog ops Q (o :: r) a w := by
  obtain ⟨A, cc, rfl, h1, h2, h0, h3⟩ := hs
  obtain ⟨ad, rfl, _⟩ := h3 0 l[0] (List.getElem?_eq_getElem hp)
  have hrun := run_copy_row (P := Tryd.prog) w 23 23 o.type 5 g 0 n c ad l.length cc cur t (bs8 l) Tryd.underlying23 Q4c hB (by rw [J0r]; exact (Nat.min_eq_left hn).symm) (fun j u hj => by
    simp only [bs8, List.getElem?_map, Option.map_eq_some_iff] at hj
    obtain ⟨z, hz, rfl⟩ := hj
    obtain ⟨ad', e, hc⟩ := h3 j z hz
    obtain rfl := Option.some.inj e
    exact hc) (by rw [J0r]; omega) (Q4b l)
  have e : (cur.toList.take 0 ++ bs8 l ++ cur.toList.drop (0 + (bs8 l).length)) = bs8 l ++ cur.toList.drop l.length := by
    rw [List.take_zero, List.nil_append, Nat.zero_add, J0r]
  rw [e] at hrun
  have h4 : Blk (w.setRow g (bs8 l ++ cur.toList.drop l.length).toArray) g (bs8 l ++ cur.toList.drop l.length).toArray t := V0 hB _
  refine J7d hw (v := goInt l.length) (W := w.setRow g (bs8 l ++ cur.toList.drop l.length).toArray) ?_ (h _ ⟨rfl, rfl, rfl, by simp, fun k _ hk => setRow_other w g k _ (by simpa using hk)⟩ h4)
  unfold execOp
  simp only [ho, resolve, invoke, builtin, Sem.run_bind, Sem.run_pure, Result.andThen_ok, List.map_toArray, List.map_cons, List.map_nil, hx, hy, hrun, J0r]
theorem Z23 {l : List UInt8} (hl : l.length = 16) : (bs8 l ++ (J1 .u8 32 (Q6 0)).toList.drop l.length).toArray = J1 .u8 32 (Q6 (le l)) := by
  have h1 := Z3j l
  rw [hl] at h1 ⊢
  have e : le l / 2 ^ (8 * 16) = 0 := Nat.div_eq_of_lt h1
  have hR : (J1 .u8 32 (Q6 (le l))).toList = bs8 l ++ bs8 (lb 16 0) := by rw [J5k, ← Q2u, show lb 32 (le l) = lb 16 (le l) ++ lb 16 (le l / 2 ^ (8 * 16)) from Q36 16 16 _, e, Y1d hl, J71]
  apply Array.ext'
  rw [hR]
  show bs8 l ++ _ = _
  congr 1

theorem V0j (v : Value) (l : List UInt8) (hl : l.length = 16) (w : World) (hsl : Sl w v l) :
  Calls Tryd.prog 66 #[v] w fun e w' => Ret (.agg (J1 .u8 32 (Q6 (le l)))) w w' e := by
 have Q5 := hsl
 have off0 : Off [] w w := Off.refl _ _
 go_enter Tryd.func66, Tryd.ntmps66
 go_upto_region 0 with fail
 refine wp_region_lit ?_
 refine Ln ?_ (z := J1 .u8 32 (Q6 0)) (t := 22)
 intro J0b W1 K7 hO h_
 have K8 := fbn off0 K7
 replace Q5 := Sl.off Q5 hO f0
 replace off0 := off0.o hO
 have k_t2 := h_
 clear hO h_ K7
 refine J0 ?_
 go_upto_region 1 with fail
 refine wp_region_lit ?_
 refine Ln ?_ (z := J1 .u8 32 (Q6 0)) (t := 22)
 intro J6c W2 J12 hO h_
 have nq_t2_t3 := bn k_t2 J12
 have J5d := fbn off0 J12
 replace k_t2 := k_t2.o hO
 replace Q5 := Sl.off Q5 hO f0
 replace off0 := off0.o hO
 have k_t3 := h_
 clear hO h_ J12
 refine J0 ?_
 go_upto_region 2 with fail
 refine wp_region_lit ?_
 refine Lw ?_ (v := .slice (some ⟨J6c, 0, none⟩) 32 32) (hv := by first | rfl | (go_simp; done) | (go_simp; with_reducible rfl))
 refine Lv ?_
 refine Z6p Q5 k_t3 (by rw [Q1]) (by omega) (by omega) (by rfl) rfl rfl rfl ?_
 (try simp only [Act.put, mA, mB, mC])
 intro W3 hO h_
 rw [Z23 hl] at h_
 replace k_t3 : Blk W3 J6c (J1 .u8 32 (Q6 (le l))) 22 := h_
 clear h_
 replace k_t2 := k_t2.p hO nq_t2_t3
 replace off0 := off0.p hO J5d
 clear hO
 refine J0 ?_
 go_upto_region 3 with fail
 refine wp_region_lit ?_
 refine L0A ?_ k_t3
 refine LpA ?_ k_t2 (k := .u8) (n := 32) (f := Q6 (le l))
 intro W4 hO h_
 replace k_t2 : Blk W4 J0b (J1 .u8 32 (Q6 (le l))) 22 := h_
 clear h_
 replace off0 := off0.p hO K8
 clear hO
 refine J0 ?_
 go_wp2
 exact bodyPost_ret (K3 rfl rfl k_t2 (by kernel_rfl) (by rw [Q1]; kernel_rfl)) rfl ⟨rfl, off0.ext⟩
theorem Z24 {V X : Nat} {X1 Y1 Z1 T1 : Nat} {a1 : Pr} (h1 : RN X1 Y1 Z1 T1 a1) {X2 Y2 Z2 T2 : Nat} {a2 : Pr} (h2 : RN X2 Y2 Z2 T2 a2) {X3 Y3 Z3 T3 : Nat} {a3 : Pr} (h3 : RN X3 Y3 Z3 T3 a3) {X4 Y4 Z4 T4 : Nat} {a4 : Pr} (h4 : RN X4 Y4 Z4 T4 a4) (hX : X = chH V a1 a2 a3 a4) :
  ∀ gP w, GA kn w → Blk w gP (q4 (p4 X1 Y1 Z1 T1) (p4 X2 Y2 Z2 T2) (p4 X3 Y3 Z3 T3) (p4 X4 Y4 Z4 T4)) 60 → Calls Tryd.prog 61 #[.agg (J1 .u8 32 (Q6 V)), .slice (some ⟨gP, 0, none⟩) 4 4] w fun e w' => ∃ p, e = .returned (.slice (some ⟨p, 0, none⟩) 16 64) ∧ w.heap.size ≤ p ∧ Off [] w w' ∧ Blk w' p (J1 .u8 64 (Q6 X)) 30 := by
 obtain ⟨U1, hU1⟩ := V2 (enc a1)
 have bU1 : U1 < 2 ^ 256 := by rw [hU1]; exact J4p _
 have HU1 := Lib.hid hU1
 clear hU1
 obtain ⟨U2, hU2⟩ := V2 (enc a2)
 have bU2 : U2 < 2 ^ 256 := by rw [hU2]; exact J4p _
 have HU2 := Lib.hid hU2
 clear hU2
 obtain ⟨U3, hU3⟩ := V2 (enc a3)
 have bU3 : U3 < 2 ^ 256 := by rw [hU3]; exact J4p _
 have HU3 := Lib.hid hU3
 clear hU3
 obtain ⟨U4, hU4⟩ := V2 (enc a4)
 have bU4 : U4 < 2 ^ 256 := by rw [hU4]; exact J4p _
 have HU4 := Lib.hid hU4
 clear hU4
 obtain ⟨U5, hU5⟩ := V2 (hs ([3, 2] ++ (lb 32 V) ++ (lb 32 U1) ++ (lb 32 U2) ++ (lb 32 U3) ++ (lb 32 U4) ++ [0]))
 have HU5 := Lib.hid hU5
 clear hU5
 intro gP w hG hP
 have k_pp := hP
 have off0 : Off [] w w := Off.refl _ _
 go_enter Tryd.func61, Tryd.ntmps61
 go_upto_region 0 with fail
 refine wp_region_lit ?_
 refine Ln ?_ (z := J1 .u8 32 (Q6 V)) (t := 22)
 intro J0b W1 K7 hO h_
 replace k_pp := k_pp.o hO
 replace off0 := off0.o hO
 have k_t2 := h_
 clear hO h_ K7
 refine Lv ?_
 refine J0 ?_
 go_upto_region 1 with fail
 refine wp_region_lit ?_
 refine LnS ?_ (z := #[.int .u8 3, .int .u8 2]) (t := 5) (n := 2) (c := 2)
 intro J4a W2 V3n hO h_
 replace k_pp := k_pp.o hO
 replace k_t2 := k_t2.o hO
 replace off0 := off0.o hO
 have ow_s10 : Own W2 (.slice (some ⟨J4a, 0, none⟩) 2 2) [3, 2] := V8 h_ (by rfl) (by show 2 ≤ maxLen; decide)
 clear hO h_ V3n
 refine Lw ?_ (v := .slice (some ⟨J0b, 0, none⟩) 32 32)
 have J0s : Sl W2 (.slice (some ⟨J0b, 0, none⟩) 32 32) (lb 32 V) := (J0z (V := V) (n := 32) (off := 0) k_t2 ap0 (by decide) (by decide))
 refine LnS ?_ (z := #[(.slice (some ⟨J4a, 0, none⟩) 2 2), (.slice (some ⟨J0b, 0, none⟩) 32 32)]) (t := 23) (n := 2) (c := 2) (hr := by exact J45 [(.slice (some ⟨J4a, 0, none⟩) 2 2), (.slice (some ⟨J0b, 0, none⟩) 32 32)] rfl rfl (vsc ((J33 ow_s10).1) (vsc ((J3e J0s).1) vs0)) Tryd.underlying112 (by kernel_rfl) (by kernel_rfl) rfl (by decide) (by decide))
 intro J9z W3 Q2b hO h_
 have Q7e := bn k_pp Q2b
 have Q64 := J0m (Own.lt ow_s10) Q2b
 have Q7f := J0m (Sl.lt J0s) Q2b
 have Y1q := fbn off0 Q2b
 replace k_pp := k_pp.o hO
 replace ow_s10 := Own.off ow_s10 hO f0
 replace J0s := Sl.off J0s hO f0
 replace off0 := off0.o hO
 have Y7f := h_
 clear hO h_ Q2b
 have J1q : Row 23 1 W3 (.slice (some ⟨J9z, 0, none⟩) 2 2) ([(.slice (some ⟨J4a, 0, none⟩) 2 2), (.slice (some ⟨J0b, 0, none⟩) 32 32)].map fun x => [x]) := Y49 Y7f (es := [(.slice (some ⟨J4a, 0, none⟩) 2 2), (.slice (some ⟨J0b, 0, none⟩) 32 32)].map fun x => [x]) rfl (by simp) (by show 2 ≤ maxLen; decide)
 have Q3a : Fr (Value.ownBlock (.slice (some ⟨J9z, 0, none⟩) 2 2)) w.heap.size [] := Y1o Y1q
 have J90 : Value.ownBlock (.slice (some ⟨J9z, 0, none⟩) 2 2) ≠ some gP := Y1p Q7e
 have Z0j : ∀ x, (Value.ownBlock (.slice (some ⟨J4a, 0, none⟩) 2 2)) = some x → Value.ownBlock (.slice (some ⟨J9z, 0, none⟩) 2 2) ≠ some x := fun x h1 h2 => Q64 (h1.trans h2.symm)
 have Z4u : ∀ x, (sb (.slice (some ⟨J0b, 0, none⟩) 32 32) (lb 32 V)) = some x → Value.ownBlock (.slice (some ⟨J9z, 0, none⟩) 2 2) ≠ some x := fun x h1 h2 => Q7f (h1.trans h2.symm)
 clear Y7f Y1q Q7e Q64 Q7f
 refine Lv ?_
 refine J0 ?_
 go_upto_region 2 with fail
 refine wp_region_lit ?_
 refine Lv ?_
 refine Lw ?_ (v := .int .i64 4)
 refine Lw ?_ (v := .int .i64 0)
 refine J0 ?_
 go_wp2_with fail
 refine wp_loop_rounds 5 ?_
 rw [rounds_succ]
 go_upto_region 4 with fail
 refine wp_region_lit ?_
 refine Lw ?_ (v := .pointer (some ⟨gP, 0, none⟩)) (hv := by exact (Q4e (ad := ⟨gP, 0, none⟩) (j := 0) (k := 16) (n := 4) (c := 4) (by decide) rfl rfl rfl Tryd.underlying135 (by kernel_rfl)).trans (by rw [Addr.add_mid]))
 refine J01 (vs := (p4 X1 Y1 Z1 T1).toList) (by rfl) rfl rfl k_pp (J3o V5l) (by kernel_rfl) (by kernel_rfl) ?_
 (try simp only [Act.put, mA, mB, mC])
 refine LnP ?_ (z := p4 0 0 0 0) (t := 60) (cells := p4 X1 Y1 Z1 T1)
 intro V3o W5 J04 hO h_
 have J4k := J0m (Row.lt J1q) J04
 replace k_pp := k_pp.o hO
 replace ow_s10 := Own.off ow_s10 hO f0
 replace J0s := Sl.off J0s hO f0
 replace J1q := Row.off J1q hO f0
 replace off0 := off0.o hO
 have k_t7 := h_
 clear hO h_ J04
 refine J0 ?_
 go_upto_region 5 with fail
 refine wp_region_lit ?_
 refine L0 ?_ k_t7
 refine Lr ?_ (J9y h1.rw HU1.out W5 (Q9 hG off0.ext).1)
 intro W6 hO
 replace k_pp := k_pp.o hO
 replace k_t7 := k_t7.o hO
 replace ow_s10 := Own.off ow_s10 hO f0
 replace J0s := Sl.off J0s hO f0
 replace J1q := Row.off J1q hO f0
 replace off0 := off0.o hO
 clear hO
 refine LnA ?_ (z := J1 .u8 32 (Q6 0)) (t := 22) (k := .u8) (n := 32) (f := Q6 U1)
 intro J7q W8 V6 hO h_
 have J2e := J0m (Row.lt J1q) V6
 replace k_pp := k_pp.o hO
 replace k_t7 := k_t7.o hO
 replace ow_s10 := Own.off ow_s10 hO f0
 replace J0s := Sl.off J0s hO f0
 replace J1q := Row.off J1q hO f0
 replace off0 := off0.o hO
 have k_t8 := h_
 clear hO h_ V6
 refine J0 ?_
 go_upto_region 6 with fail
 refine wp_region_lit ?_
 refine Lv ?_
 refine Lw ?_ (v := .slice (some ⟨J7q, 0, none⟩) 32 32)
 have J13 : Sl W8 (.slice (some ⟨J7q, 0, none⟩) 32 32) (lb 32 U1) := (J0z (V := U1) (n := 32) (off := 0) k_t8 ap0 (by decide) (by decide))
 have J46 : ∀ x, (Value.ownBlock (.slice (some ⟨J9z, 0, none⟩) 2 2)) = some x → sb (.slice (some ⟨J7q, 0, none⟩) 32 32) (lb 32 U1) ≠ some x := Q8m J2e
 refine LnS ?_ (z := #[(.slice (some ⟨J7q, 0, none⟩) 32 32)]) (t := 23) (n := 1) (c := 1) (hr := by exact J45 [(.slice (some ⟨J7q, 0, none⟩) 32 32)] rfl rfl (vsc ((J3e J13).1) vs0) Tryd.underlying112 (by kernel_rfl) (by kernel_rfl) rfl (by decide) (by decide))
 intro V6n W9 J99 hO h_
 have J34 := J0m (Row.lt J1q) J99
 replace k_pp := k_pp.o hO
 replace k_t7 := k_t7.o hO
 replace k_t8 := k_t8.o hO
 replace ow_s10 := Own.off ow_s10 hO f0
 replace J0s := Sl.off J0s hO f0
 replace J1q := Row.off J1q hO f0
 replace J13 := Sl.off J13 hO f0
 replace off0 := off0.o hO
 have J4h := h_
 clear hO h_ J99
 refine J65 (es := ([(.slice (some ⟨J4a, 0, none⟩) 2 2), (.slice (some ⟨J0b, 0, none⟩) 32 32)].map fun x => [x])) (cs := #[(.slice (some ⟨J7q, 0, none⟩) 32 32)]) (bytes := 24) (by rfl) rfl rfl rfl J1q J4h rfl (Z9n (J3e J13).2) (by first | decide | (show 0 < 1; decide)) Tryd.underlying112 (by kernel_rfl) (by first | omega | (simp only [List.length_append, List.length_cons, List.length_nil, J8]; omega) | (simp; done)) (by unfold maxLen; first | omega | (simp only [List.length_append, List.length_cons, List.length_nil, J8]; omega) | (simp; done)) ?_
 (try simp only [Act.put, mA, mB, mC])
 intro Z25 W10 J1x hO J0x
 replace J1x : Row 23 1 W10 Z25 (([(.slice (some ⟨J4a, 0, none⟩) 2 2), (.slice (some ⟨J0b, 0, none⟩) 32 32)].map fun x => [x]) ++ [[(.slice (some ⟨J7q, 0, none⟩) 32 32)]]) := J1x
 have Q3b := J18 J0x J90 (J5 k_pp)
 have Q3c := J18 J0x J4k (J5 k_t7)
 have J8a := J18 J0x J2e (J5 k_t8)
 have Q18 := J18 J0x J34 (J5 J4h)
 have J4r := J0p J0x (Q4a Z0j) (Own.lt ow_s10)
 have J5m := J0p J0x (Q4a Z4u) (Sl.lt J0s)
 have J5n := J0p J0x J46 (Sl.lt J13)
 have Q19 := J0l J0x Q3a off0.size
 replace k_pp := U0 k_pp hO (nmo J90)
 replace k_t7 := U0 k_t7 hO (nmo J4k)
 replace k_t8 := U0 k_t8 hO (nmo J2e)
 replace J4h := U0 J4h hO (nmo J34)
 replace ow_s10 := Own.off ow_s10 hO (fo (Q4a Z0j))
 replace J0s := Sl.off J0s hO (fo (Q4a Z4u))
 replace J13 := Sl.off J13 hO (fo J46)
 replace off0 := off0.step hO (io Q3a)
 clear hO J0x
 replace J1x : Row 23 1 W10 Z25 ([(.slice (some ⟨J4a, 0, none⟩) 2 2), (.slice (some ⟨J0b, 0, none⟩) 32 32), (.slice (some ⟨J7q, 0, none⟩) 32 32)].map fun x => [x]) := J1x
 have J1q := J1x
 clear J1x
 have Q3a := Q19
 have J90 := Q3b
 have J4k := Q3c
 have J2e := J8a
 have J34 := Q18
 have J4i := J4r
 have J5w := J5m
 have J46 := J5n
 clear J4h J34
 refine Lv ?_
 refine J0 ?_
 go_wp2_with fail
 rw [rounds_succ]
 go_upto_region 4 with fail
 refine wp_region_lit ?_
 refine Lw ?_ (v := .pointer (some ⟨gP, 16, none⟩)) (hv := by exact (Q4e (ad := ⟨gP, 0, none⟩) (j := 1) (k := 16) (n := 4) (c := 4) (by decide) rfl rfl rfl Tryd.underlying135 (by kernel_rfl)).trans (by rw [Addr.add_mid]))
 refine J01 (vs := (p4 X2 Y2 Z2 T2).toList) (by rfl) rfl rfl k_pp (J3o V5m) (by kernel_rfl) (by kernel_rfl) ?_
 (try simp only [Act.put, mA, mB, mC])
 clear k_t7 J4k
 refine LnP ?_ (z := p4 0 0 0 0) (t := 60) (cells := p4 X2 Y2 Z2 T2)
 intro J47 W12 J04 hO h_
 have J4k := J0m (Row.lt J1q) J04
 replace k_pp := k_pp.o hO
 replace k_t8 := k_t8.o hO
 replace ow_s10 := Own.off ow_s10 hO f0
 replace J0s := Sl.off J0s hO f0
 replace J13 := Sl.off J13 hO f0
 replace J1q := Row.off J1q hO f0
 replace off0 := off0.o hO
 have k_t7 := h_
 clear hO h_ J04
 refine J0 ?_
 go_upto_region 5 with fail
 refine wp_region_lit ?_
 refine L0 ?_ k_t7
 refine Lr ?_ (J9y h2.rw HU2.out W12 (Q9 hG off0.ext).1)
 intro W13 hO
 replace k_pp := k_pp.o hO
 replace k_t8 := k_t8.o hO
 replace k_t7 := k_t7.o hO
 replace ow_s10 := Own.off ow_s10 hO f0
 replace J0s := Sl.off J0s hO f0
 replace J13 := Sl.off J13 hO f0
 replace J1q := Row.off J1q hO f0
 replace off0 := off0.o hO
 clear hO
 clear k_t8 J2e
 refine LnA ?_ (z := J1 .u8 32 (Q6 0)) (t := 22) (k := .u8) (n := 32) (f := Q6 U2)
 intro J5g W15 V6 hO h_
 have J2e := J0m (Row.lt J1q) V6
 replace k_pp := k_pp.o hO
 replace k_t7 := k_t7.o hO
 replace ow_s10 := Own.off ow_s10 hO f0
 replace J0s := Sl.off J0s hO f0
 replace J13 := Sl.off J13 hO f0
 replace J1q := Row.off J1q hO f0
 replace off0 := off0.o hO
 have k_t8 := h_
 clear hO h_ V6
 refine J0 ?_
 go_upto_region 6 with fail
 refine wp_region_lit ?_
 refine Lv ?_
 refine Lw ?_ (v := .slice (some ⟨J5g, 0, none⟩) 32 32)
 have J1z : Sl W15 (.slice (some ⟨J5g, 0, none⟩) 32 32) (lb 32 U2) := (J0z (V := U2) (n := 32) (off := 0) k_t8 ap0 (by decide) (by decide))
 have J5x : ∀ x, (Value.ownBlock Z25) = some x → sb (.slice (some ⟨J5g, 0, none⟩) 32 32) (lb 32 U2) ≠ some x := Q8m J2e
 refine LnS ?_ (z := #[(.slice (some ⟨J5g, 0, none⟩) 32 32)]) (t := 23) (n := 1) (c := 1) (hr := by exact J45 [(.slice (some ⟨J5g, 0, none⟩) 32 32)] rfl rfl (vsc ((J3e J1z).1) vs0) Tryd.underlying112 (by kernel_rfl) (by kernel_rfl) rfl (by decide) (by decide))
 intro V5p W16 J99 hO h_
 have J34 := J0m (Row.lt J1q) J99
 replace k_pp := k_pp.o hO
 replace k_t7 := k_t7.o hO
 replace k_t8 := k_t8.o hO
 replace ow_s10 := Own.off ow_s10 hO f0
 replace J0s := Sl.off J0s hO f0
 replace J13 := Sl.off J13 hO f0
 replace J1q := Row.off J1q hO f0
 replace J1z := Sl.off J1z hO f0
 replace off0 := off0.o hO
 have J4h := h_
 clear hO h_ J99
 refine J65 (es := ([(.slice (some ⟨J4a, 0, none⟩) 2 2), (.slice (some ⟨J0b, 0, none⟩) 32 32), (.slice (some ⟨J7q, 0, none⟩) 32 32)].map fun x => [x])) (cs := #[(.slice (some ⟨J5g, 0, none⟩) 32 32)]) (bytes := 24) (by rfl) rfl rfl rfl J1q J4h rfl (Z9n (J3e J1z).2) (by first | decide | (show 0 < 1; decide)) Tryd.underlying112 (by kernel_rfl) (by first | omega | (simp only [List.length_append, List.length_cons, List.length_nil, J8]; omega) | (simp; done)) (by unfold maxLen; first | omega | (simp only [List.length_append, List.length_cons, List.length_nil, J8]; omega) | (simp; done)) ?_
 (try simp only [Act.put, mA, mB, mC])
 intro Z26 W17 J1x hO J0x
 replace J1x : Row 23 1 W17 Z26 (([(.slice (some ⟨J4a, 0, none⟩) 2 2), (.slice (some ⟨J0b, 0, none⟩) 32 32), (.slice (some ⟨J7q, 0, none⟩) 32 32)].map fun x => [x]) ++ [[(.slice (some ⟨J5g, 0, none⟩) 32 32)]]) := J1x
 have Q3b := J18 J0x J90 (J5 k_pp)
 have Q3c := J18 J0x J4k (J5 k_t7)
 have J8a := J18 J0x J2e (J5 k_t8)
 have Q18 := J18 J0x J34 (J5 J4h)
 have J4r := J0p J0x J4i (Own.lt ow_s10)
 have J5m := J0p J0x J5w (Sl.lt J0s)
 have J5n := J0p J0x J46 (Sl.lt J13)
 have J8b := J0p J0x J5x (Sl.lt J1z)
 have Q19 := J0l J0x Q3a off0.size
 replace k_pp := U0 k_pp hO (nmo J90)
 replace k_t7 := U0 k_t7 hO (nmo J4k)
 replace k_t8 := U0 k_t8 hO (nmo J2e)
 replace J4h := U0 J4h hO (nmo J34)
 replace ow_s10 := Own.off ow_s10 hO (fo J4i)
 replace J0s := Sl.off J0s hO (fo J5w)
 replace J13 := Sl.off J13 hO (fo J46)
 replace J1z := Sl.off J1z hO (fo J5x)
 replace off0 := off0.step hO (io Q3a)
 clear hO J0x
 replace J1x : Row 23 1 W17 Z26 ([(.slice (some ⟨J4a, 0, none⟩) 2 2), (.slice (some ⟨J0b, 0, none⟩) 32 32), (.slice (some ⟨J7q, 0, none⟩) 32 32), (.slice (some ⟨J5g, 0, none⟩) 32 32)].map fun x => [x]) := J1x
 have J1q := J1x
 clear J1x
 have Q3a := Q19
 have J90 := Q3b
 have J4k := Q3c
 have J2e := J8a
 have J34 := Q18
 have J4i := J4r
 have J5w := J5m
 have J46 := J5n
 have J5x := J8b
 clear J4h J34
 refine Lv ?_
 refine J0 ?_
 go_wp2_with fail
 rw [rounds_succ]
 go_upto_region 4 with fail
 refine wp_region_lit ?_
 refine Lw ?_ (v := .pointer (some ⟨gP, 32, none⟩)) (hv := by exact (Q4e (ad := ⟨gP, 0, none⟩) (j := 2) (k := 16) (n := 4) (c := 4) (by decide) rfl rfl rfl Tryd.underlying135 (by kernel_rfl)).trans (by rw [Addr.add_mid]))
 refine J01 (vs := (p4 X3 Y3 Z3 T3).toList) (by rfl) rfl rfl k_pp (J3o V5n) (by kernel_rfl) (by kernel_rfl) ?_
 (try simp only [Act.put, mA, mB, mC])
 clear k_t7 J4k
 refine LnP ?_ (z := p4 0 0 0 0) (t := 60) (cells := p4 X3 Y3 Z3 T3)
 intro V6o W19 J04 hO h_
 have J4k := J0m (Row.lt J1q) J04
 replace k_pp := k_pp.o hO
 replace k_t8 := k_t8.o hO
 replace ow_s10 := Own.off ow_s10 hO f0
 replace J0s := Sl.off J0s hO f0
 replace J13 := Sl.off J13 hO f0
 replace J1z := Sl.off J1z hO f0
 replace J1q := Row.off J1q hO f0
 replace off0 := off0.o hO
 have k_t7 := h_
 clear hO h_ J04
 refine J0 ?_
 go_upto_region 5 with fail
 refine wp_region_lit ?_
 refine L0 ?_ k_t7
 refine Lr ?_ (J9y h3.rw HU3.out W19 (Q9 hG off0.ext).1)
 intro W20 hO
 replace k_pp := k_pp.o hO
 replace k_t8 := k_t8.o hO
 replace k_t7 := k_t7.o hO
 replace ow_s10 := Own.off ow_s10 hO f0
 replace J0s := Sl.off J0s hO f0
 replace J13 := Sl.off J13 hO f0
 replace J1z := Sl.off J1z hO f0
 replace J1q := Row.off J1q hO f0
 replace off0 := off0.o hO
 clear hO
 clear k_t8 J2e
 refine LnA ?_ (z := J1 .u8 32 (Q6 0)) (t := 22) (k := .u8) (n := 32) (f := Q6 U3)
 intro J74 W22 V6 hO h_
 have J2e := J0m (Row.lt J1q) V6
 replace k_pp := k_pp.o hO
 replace k_t7 := k_t7.o hO
 replace ow_s10 := Own.off ow_s10 hO f0
 replace J0s := Sl.off J0s hO f0
 replace J13 := Sl.off J13 hO f0
 replace J1z := Sl.off J1z hO f0
 replace J1q := Row.off J1q hO f0
 replace off0 := off0.o hO
 have k_t8 := h_
 clear hO h_ V6
 refine J0 ?_
 go_upto_region 6 with fail
 refine wp_region_lit ?_
 refine Lv ?_
 refine Lw ?_ (v := .slice (some ⟨J74, 0, none⟩) 32 32)
 have J3g : Sl W22 (.slice (some ⟨J74, 0, none⟩) 32 32) (lb 32 U3) := (J0z (V := U3) (n := 32) (off := 0) k_t8 ap0 (by decide) (by decide))
 have J91 : ∀ x, (Value.ownBlock Z26) = some x → sb (.slice (some ⟨J74, 0, none⟩) 32 32) (lb 32 U3) ≠ some x := Q8m J2e
 refine LnS ?_ (z := #[(.slice (some ⟨J74, 0, none⟩) 32 32)]) (t := 23) (n := 1) (c := 1) (hr := by exact J45 [(.slice (some ⟨J74, 0, none⟩) 32 32)] rfl rfl (vsc ((J3e J3g).1) vs0) Tryd.underlying112 (by kernel_rfl) (by kernel_rfl) rfl (by decide) (by decide))
 intro V5q W23 J99 hO h_
 have J34 := J0m (Row.lt J1q) J99
 replace k_pp := k_pp.o hO
 replace k_t7 := k_t7.o hO
 replace k_t8 := k_t8.o hO
 replace ow_s10 := Own.off ow_s10 hO f0
 replace J0s := Sl.off J0s hO f0
 replace J13 := Sl.off J13 hO f0
 replace J1z := Sl.off J1z hO f0
 replace J1q := Row.off J1q hO f0
 replace J3g := Sl.off J3g hO f0
 replace off0 := off0.o hO
 have J4h := h_
 clear hO h_ J99
 refine J65 (es := ([(.slice (some ⟨J4a, 0, none⟩) 2 2), (.slice (some ⟨J0b, 0, none⟩) 32 32), (.slice (some ⟨J7q, 0, none⟩) 32 32), (.slice (some ⟨J5g, 0, none⟩) 32 32)].map fun x => [x])) (cs := #[(.slice (some ⟨J74, 0, none⟩) 32 32)]) (bytes := 24) (by rfl) rfl rfl rfl J1q J4h rfl (Z9n (J3e J3g).2) (by first | decide | (show 0 < 1; decide)) Tryd.underlying112 (by kernel_rfl) (by first | omega | (simp only [List.length_append, List.length_cons, List.length_nil, J8]; omega) | (simp; done)) (by unfold maxLen; first | omega | (simp only [List.length_append, List.length_cons, List.length_nil, J8]; omega) | (simp; done)) ?_
 (try simp only [Act.put, mA, mB, mC])
 intro Z27 W24 J1x hO J0x
 replace J1x : Row 23 1 W24 Z27 (([(.slice (some ⟨J4a, 0, none⟩) 2 2), (.slice (some ⟨J0b, 0, none⟩) 32 32), (.slice (some ⟨J7q, 0, none⟩) 32 32), (.slice (some ⟨J5g, 0, none⟩) 32 32)].map fun x => [x]) ++ [[(.slice (some ⟨J74, 0, none⟩) 32 32)]]) := J1x
 have J8a := J18 J0x J2e (J5 k_t8)
 have J4r := J0p J0x J4i (Own.lt ow_s10)
 have J5m := J0p J0x J5w (Sl.lt J0s)
 have J5n := J0p J0x J46 (Sl.lt J13)
 have J8b := J0p J0x J5x (Sl.lt J1z)
 have Q3d := J0p J0x J91 (Sl.lt J3g)
 have Q19 := J0l J0x Q3a off0.size
 replace k_pp := U0 k_pp hO (nmo J90)
 replace k_t7 := U0 k_t7 hO (nmo J4k)
 replace k_t8 := U0 k_t8 hO (nmo J2e)
 replace J4h := U0 J4h hO (nmo J34)
 replace ow_s10 := Own.off ow_s10 hO (fo J4i)
 replace J0s := Sl.off J0s hO (fo J5w)
 replace J13 := Sl.off J13 hO (fo J46)
 replace J1z := Sl.off J1z hO (fo J5x)
 replace J3g := Sl.off J3g hO (fo J91)
 replace off0 := off0.step hO (io Q3a)
 clear hO J0x
 replace J1x : Row 23 1 W24 Z27 ([(.slice (some ⟨J4a, 0, none⟩) 2 2), (.slice (some ⟨J0b, 0, none⟩) 32 32), (.slice (some ⟨J7q, 0, none⟩) 32 32), (.slice (some ⟨J5g, 0, none⟩) 32 32), (.slice (some ⟨J74, 0, none⟩) 32 32)].map fun x => [x]) := J1x
 have J1q := J1x
 clear J1x
 have Q3a := Q19
 have J2e := J8a
 have J4i := J4r
 have J5w := J5m
 have J46 := J5n
 have J5x := J8b
 have J91 := Q3d
 clear J4h J34
 refine Lv ?_
 refine J0 ?_
 go_wp2_with fail
 rw [rounds_succ]
 go_upto_region 4 with fail
 refine wp_region_lit ?_
 refine Lw ?_ (v := .pointer (some ⟨gP, 48, none⟩)) (hv := by exact (Q4e (ad := ⟨gP, 0, none⟩) (j := 3) (k := 16) (n := 4) (c := 4) (by decide) rfl rfl rfl Tryd.underlying135 (by kernel_rfl)).trans (by rw [Addr.add_mid]))
 refine J01 (vs := (p4 X4 Y4 Z4 T4).toList) (by rfl) rfl rfl k_pp (J3o V5o) (by kernel_rfl) (by kernel_rfl) ?_
 (try simp only [Act.put, mA, mB, mC])
 clear k_t7 J4k
 refine LnP ?_ (z := p4 0 0 0 0) (t := 60) (cells := p4 X4 Y4 Z4 T4)
 intro V6p W26 J04 hO h_
 replace k_t8 := k_t8.o hO
 replace ow_s10 := Own.off ow_s10 hO f0
 replace J0s := Sl.off J0s hO f0
 replace J13 := Sl.off J13 hO f0
 replace J1z := Sl.off J1z hO f0
 replace J3g := Sl.off J3g hO f0
 replace J1q := Row.off J1q hO f0
 replace off0 := off0.o hO
 have k_t7 := h_
 clear hO h_ J04
 refine J0 ?_
 go_upto_region 5 with fail
 refine wp_region_lit ?_
 refine L0 ?_ k_t7
 refine Lr ?_ (J9y h4.rw HU4.out W26 (Q9 hG off0.ext).1)
 intro W27 hO
 replace k_t8 := k_t8.o hO
 replace ow_s10 := Own.off ow_s10 hO f0
 replace J0s := Sl.off J0s hO f0
 replace J13 := Sl.off J13 hO f0
 replace J1z := Sl.off J1z hO f0
 replace J3g := Sl.off J3g hO f0
 replace J1q := Row.off J1q hO f0
 replace off0 := off0.o hO
 clear hO
 clear k_t8 J2e
 refine LnA ?_ (z := J1 .u8 32 (Q6 0)) (t := 22) (k := .u8) (n := 32) (f := Q6 U4)
 intro J9a W29 V6 hO h_
 have J2e := J0m (Row.lt J1q) V6
 replace ow_s10 := Own.off ow_s10 hO f0
 replace J0s := Sl.off J0s hO f0
 replace J13 := Sl.off J13 hO f0
 replace J1z := Sl.off J1z hO f0
 replace J3g := Sl.off J3g hO f0
 replace J1q := Row.off J1q hO f0
 replace off0 := off0.o hO
 have k_t8 := h_
 clear hO h_ V6
 refine J0 ?_
 go_upto_region 6 with fail
 refine wp_region_lit ?_
 refine Lv ?_
 refine Lw ?_ (v := .slice (some ⟨J9a, 0, none⟩) 32 32)
 have J7i : Sl W29 (.slice (some ⟨J9a, 0, none⟩) 32 32) (lb 32 U4) := (J0z (V := U4) (n := 32) (off := 0) k_t8 ap0 (by decide) (by decide))
 have Q4h : ∀ x, (Value.ownBlock Z27) = some x → sb (.slice (some ⟨J9a, 0, none⟩) 32 32) (lb 32 U4) ≠ some x := Q8m J2e
 refine LnS ?_ (z := #[(.slice (some ⟨J9a, 0, none⟩) 32 32)]) (t := 23) (n := 1) (c := 1) (hr := by exact J45 [(.slice (some ⟨J9a, 0, none⟩) 32 32)] rfl rfl (vsc ((J3e J7i).1) vs0) Tryd.underlying112 (by kernel_rfl) (by kernel_rfl) rfl (by decide) (by decide))
 intro V5r W30 J99 hO h_
 replace ow_s10 := Own.off ow_s10 hO f0
 replace J0s := Sl.off J0s hO f0
 replace J13 := Sl.off J13 hO f0
 replace J1z := Sl.off J1z hO f0
 replace J3g := Sl.off J3g hO f0
 replace J1q := Row.off J1q hO f0
 replace J7i := Sl.off J7i hO f0
 replace off0 := off0.o hO
 have J4h := h_
 clear hO h_ J99
 refine J65 (es := ([(.slice (some ⟨J4a, 0, none⟩) 2 2), (.slice (some ⟨J0b, 0, none⟩) 32 32), (.slice (some ⟨J7q, 0, none⟩) 32 32), (.slice (some ⟨J5g, 0, none⟩) 32 32), (.slice (some ⟨J74, 0, none⟩) 32 32)].map fun x => [x])) (cs := #[(.slice (some ⟨J9a, 0, none⟩) 32 32)]) (bytes := 24) (by rfl) rfl rfl rfl J1q J4h rfl (Z9n (J3e J7i).2) (by first | decide | (show 0 < 1; decide)) Tryd.underlying112 (by kernel_rfl) (by first | omega | (simp only [List.length_append, List.length_cons, List.length_nil, J8]; omega) | (simp; done)) (by unfold maxLen; first | omega | (simp only [List.length_append, List.length_cons, List.length_nil, J8]; omega) | (simp; done)) ?_
 (try simp only [Act.put, mA, mB, mC])
 intro Z28 W31 J1x hO J0x
 replace J1x : Row 23 1 W31 Z28 (([(.slice (some ⟨J4a, 0, none⟩) 2 2), (.slice (some ⟨J0b, 0, none⟩) 32 32), (.slice (some ⟨J7q, 0, none⟩) 32 32), (.slice (some ⟨J5g, 0, none⟩) 32 32), (.slice (some ⟨J74, 0, none⟩) 32 32)].map fun x => [x]) ++ [[(.slice (some ⟨J9a, 0, none⟩) 32 32)]]) := J1x
 have J4r := J0p J0x J4i (Own.lt ow_s10)
 have J5m := J0p J0x J5w (Sl.lt J0s)
 have J5n := J0p J0x J46 (Sl.lt J13)
 have J8b := J0p J0x J5x (Sl.lt J1z)
 have Q3d := J0p J0x J91 (Sl.lt J3g)
 have Z6q := J0p J0x Q4h (Sl.lt J7i)
 have Q19 := J0l J0x Q3a off0.size
 replace ow_s10 := Own.off ow_s10 hO (fo J4i)
 replace J0s := Sl.off J0s hO (fo J5w)
 replace J13 := Sl.off J13 hO (fo J46)
 replace J1z := Sl.off J1z hO (fo J5x)
 replace J3g := Sl.off J3g hO (fo J91)
 replace J7i := Sl.off J7i hO (fo Q4h)
 replace off0 := off0.step hO (io Q3a)
 clear hO J0x
 replace J1x : Row 23 1 W31 Z28 ([(.slice (some ⟨J4a, 0, none⟩) 2 2), (.slice (some ⟨J0b, 0, none⟩) 32 32), (.slice (some ⟨J7q, 0, none⟩) 32 32), (.slice (some ⟨J5g, 0, none⟩) 32 32), (.slice (some ⟨J74, 0, none⟩) 32 32), (.slice (some ⟨J9a, 0, none⟩) 32 32)].map fun x => [x]) := J1x
 have J1q := J1x
 clear J1x
 have Q3a := Q19
 have J4i := J4r
 have J5w := J5m
 have J46 := J5n
 have J5x := J8b
 have J91 := Q3d
 have Q4h := Z6q
 clear J4h J34
 refine Lv ?_
 refine J0 ?_
 go_wp2_with fail
 rw [rounds_succ]
 go_upto_region 8 with fail
 refine wp_region_lit ?_
 refine Lv ?_
 refine LnS ?_ (z := #[.int .u8 0]) (t := 5) (n := 1) (c := 1)
 intro Q00 W32 Y7g hO h_
 have Y1r : ∀ x, (Value.ownBlock Z28) = some x → Value.ownBlock (.slice (some ⟨Q00, 0, none⟩) 1 1) ≠ some x := J1k (Row.lt J1q) Y7g
 replace ow_s10 := Own.off ow_s10 hO f0
 replace J0s := Sl.off J0s hO f0
 replace J13 := Sl.off J13 hO f0
 replace J1z := Sl.off J1z hO f0
 replace J3g := Sl.off J3g hO f0
 replace J7i := Sl.off J7i hO f0
 replace J1q := Row.off J1q hO f0
 replace off0 := off0.o hO
 have ow_s27 : Own W32 (.slice (some ⟨Q00, 0, none⟩) 1 1) [0] := V8 h_ (by rfl) (by show 1 ≤ maxLen; decide)
 clear hO h_ Y7g
 refine LnS ?_ (z := #[(.slice (some ⟨Q00, 0, none⟩) 1 1)]) (t := 23) (n := 1) (c := 1) (hr := by exact J45 [(.slice (some ⟨Q00, 0, none⟩) 1 1)] rfl rfl (vsc ((J33 ow_s27).1) vs0) Tryd.underlying112 (by kernel_rfl) (by kernel_rfl) rfl (by decide) (by decide))
 intro V5s W33 Y0n hO h_
 replace ow_s10 := Own.off ow_s10 hO f0
 replace J0s := Sl.off J0s hO f0
 replace J13 := Sl.off J13 hO f0
 replace J1z := Sl.off J1z hO f0
 replace J3g := Sl.off J3g hO f0
 replace J7i := Sl.off J7i hO f0
 replace J1q := Row.off J1q hO f0
 replace ow_s27 := Own.off ow_s27 hO f0
 replace off0 := off0.o hO
 have Y7h := h_
 clear hO h_ Y0n
 refine J65 (es := ([(.slice (some ⟨J4a, 0, none⟩) 2 2), (.slice (some ⟨J0b, 0, none⟩) 32 32), (.slice (some ⟨J7q, 0, none⟩) 32 32), (.slice (some ⟨J5g, 0, none⟩) 32 32), (.slice (some ⟨J74, 0, none⟩) 32 32), (.slice (some ⟨J9a, 0, none⟩) 32 32)].map fun x => [x])) (cs := #[(.slice (some ⟨Q00, 0, none⟩) 1 1)]) (bytes := 24) (by rfl) rfl rfl rfl J1q Y7h rfl (Z9n (J33 ow_s27).2) (by first | decide | (show 0 < 1; decide)) Tryd.underlying112 (by kernel_rfl) (by first | omega | (simp only [List.length_append, List.length_cons, List.length_nil, J8]; omega) | (simp; done)) (by unfold maxLen; first | omega | (simp only [List.length_append, List.length_cons, List.length_nil, J8]; omega) | (simp; done)) ?_
 (try simp only [Act.put, mA, mB, mC])
 intro Y1s W34 J8x hO Q60
 replace J8x : Row 23 1 W34 Y1s (([(.slice (some ⟨J4a, 0, none⟩) 2 2), (.slice (some ⟨J0b, 0, none⟩) 32 32), (.slice (some ⟨J7q, 0, none⟩) 32 32), (.slice (some ⟨J5g, 0, none⟩) 32 32), (.slice (some ⟨J74, 0, none⟩) 32 32), (.slice (some ⟨J9a, 0, none⟩) 32 32)].map fun x => [x]) ++ [[(.slice (some ⟨Q00, 0, none⟩) 1 1)]]) := J8x
 replace ow_s10 := Own.off ow_s10 hO (fo J4i)
 replace J0s := Sl.off J0s hO (fo J5w)
 replace J13 := Sl.off J13 hO (fo J46)
 replace J1z := Sl.off J1z hO (fo J5x)
 replace J3g := Sl.off J3g hO (fo J91)
 replace J7i := Sl.off J7i hO (fo Q4h)
 replace ow_s27 := Own.off ow_s27 hO (fo Y1r)
 replace off0 := off0.step hO (io Q3a)
 clear hO Q60
 replace J8x : Row 23 1 W34 Y1s ([(.slice (some ⟨J4a, 0, none⟩) 2 2), (.slice (some ⟨J0b, 0, none⟩) 32 32), (.slice (some ⟨J7q, 0, none⟩) 32 32), (.slice (some ⟨J5g, 0, none⟩) 32 32), (.slice (some ⟨J74, 0, none⟩) 32 32), (.slice (some ⟨J9a, 0, none⟩) 32 32), (.slice (some ⟨Q00, 0, none⟩) 1 1)].map fun x => [x]) := J8x
 have J1q := J8x
 clear J8x
 clear Y7h
 obtain ⟨A_, c_, ev_, hps_⟩ := Y5e (vs := [(.slice (some ⟨J4a, 0, none⟩) 2 2), (.slice (some ⟨J0b, 0, none⟩) 32 32), (.slice (some ⟨J7q, 0, none⟩) 32 32), (.slice (some ⟨J5g, 0, none⟩) 32 32), (.slice (some ⟨J74, 0, none⟩) 32 32), (.slice (some ⟨J9a, 0, none⟩) 32 32), (.slice (some ⟨Q00, 0, none⟩) 1 1)]) (ps := [[3, 2], lb 32 V, lb 32 U1, lb 32 U2, lb 32 U3, lb 32 U4, [0]]) J1q rfl (pvc (ow_s10.sl) (pvc J0s (pvc J13 (pvc J1z (pvc J3g (pvc J7i (pvc (ow_s27.sl) pv0))))))) (by simp)
 subst ev_
 refine Lr ?_ (J8w HU5.out [[3, 2], lb 32 V, lb 32 U1, lb 32 U2, lb 32 U3, lb 32 U4, [0]] A_ c_ (by simp only [List.flatten_cons, List.flatten_nil, List.append_nil, List.nil_append, List.append_assoc, List.cons_append]) (by first | omega | (simp only [List.length_append, List.length_cons, List.length_nil, J8]; omega)) (by simp) W34 hps_ (Q9 hG off0.ext).2.1)
 intro W35 hO
 replace off0 := off0.o hO
 clear hO
 refine LnA ?_ (z := J1 .u8 64 (Q6 0)) (t := 30) (k := .u8) (n := 64) (f := Q6 U5)
 intro Y7i W37 J2y hO h_
 have Q53 := fbn off0 J2y
 replace off0 := off0.o hO
 have k_t9 := h_
 clear hO h_ J2y
 refine J0 ?_
 go_upto_region 9 with fail
 refine wp_region_lit ?_
 refine Lv ?_
 refine Lv ?_
 refine J0 ?_
 go_wp2
 exact bodyPost_ret (v := .slice (some ⟨Y7i, 0, none⟩) 16 64) (by simp only [results, Tryd.results61]; go_simp) rfl ⟨Y7i, rfl, Nat.not_lt.1 (fun h => by cases Q53 h), off0, by rw [hX]; rw [show chH V a1 a2 a3 a4 = U5 by rw [HU5.out, HU4.out, HU3.out, HU2.out, HU1.out]; rfl]; exact k_t9⟩
end Go.Proofs.YtefpoollmbmkfaaDoor

namespace Go.Proofs.YtefpoollmbmkfaaDoor
set_option maxHeartbeats 2000000
set_option maxRecDepth 100000
open Go.RowKit
attribute [local irreducible] wpList J6g
variable {kn : Kn}
open Sc (LL J2a)
attribute [local irreducible] hs
theorem Q4i (V off j : Nat) : Q6 (V / 2 ^ (8 * off)) j = Q6 V (off + j) := by
  unfold Q6
  rw [Nat.div_div_eq_div_mul, ← Nat.pow_add, show 8 * off + 8 * j = 8 * (off + j) by omega]
theorem Z4v {V m j : Nat} (hj : j < m) : Q6 (V % 2 ^ (8 * m)) j = Q6 V j := by
  unfold Q6
  have e : (2 : Nat) ^ (8 * m) = 2 ^ (8 * j) * 2 ^ (8 * m - 8 * j) := by rw [← Nat.pow_add]; congr 1; omega
  have e2 : (2 : Nat) ^ (8 * m - 8 * j) = 256 * 2 ^ (8 * m - 8 * j - 8) := by rw [show 8 * m - 8 * j = 8 + (8 * m - 8 * j - 8) by omega, Nat.pow_add, Nat.add_sub_cancel_left]
  rw [e, Nat.mod_mul_right_div_self, e2, Nat.mod_mul_right_mod]
theorem Q4j {n m off V U : Nat} (hU : ∀ j, j < m → Q6 U j = Q6 V (off + j)) (h : off + m ≤ n) : ∀ i v, (J1 .u8 m (Q6 U))[i]? = some v → (J1 .u8 n (Q6 V))[off + i]? = some v := fun i v hv => by
  have hi : i < m := by have := (Array.getElem?_eq_some_iff.1 hv).1; rwa [Q1] at this
  rw [J6 _ _ _ _ hi, hU i hi] at hv
  rw [J6 _ _ _ _ (by omega)]; exact hv
theorem V0l {P j : Nat} (hj : j < 16) : Q6 (pC P) j = Q6 P (32 + j) := by
  unfold pC
  rw [show J2b = 2 ^ (8 * 16) from rfl, Z4v hj, show (2 : Nat) ^ 256 = 2 ^ (8 * 32) from rfl, Q4i]
theorem Y1t (P j : Nat) : Q6 (pN P) j = Q6 P (48 + j) := by
  unfold pN
  rw [show J2b = 2 ^ (8 * 16) from rfl, Q4i, show (2 : Nat) ^ 256 = 2 ^ (8 * 32) from rfl, Q4i, show 32 + (16 + j) = 48 + j by omega]
theorem Z6r {P : Nat} : ∀ i v, (J1 .u8 32 (Q6 (pG P)))[i]? = some v → (J1 .u8 80 (Q6 P))[0 + i]? = some v := Q4j (fun j hj => by rw [Nat.zero_add]; exact Y1f hj) (by decide)
theorem V0m {P : Nat} : ∀ i v, (J1 .u8 16 (Q6 (pC P)))[i]? = some v → (J1 .u8 80 (Q6 P))[32 + i]? = some v := Q4j (fun j hj => V0l hj) (by decide)
theorem Y5f {P : Nat} : ∀ i v, (J1 .u8 32 (Q6 (pN P)))[i]? = some v → (J1 .u8 80 (Q6 P))[48 + i]? = some v := Q4j (fun j _ => Y1t P j) (by decide)
theorem J9b (P : Nat) : pG P < 2 ^ 256 := Y7c P
theorem Q65 (P : Nat) : pC P < J2b := Nat.mod_lt _ (by decide)
def B80 (P : Nat) : Prop := pN P < 2 ^ 256
theorem Q0l {P : Program} {fn : Func} {p q r : Tmp} {ty tz t t' : TypeId} {tmps : Array Value} {w : World} {g g' : Nat} {cs ds : Array Value} {v : Value} (h : fn.results = #[.cell p ty, .cell q tz, .tmp r])
    (hp : tmps.getD p undef = .pointer (some ⟨g, 0, none⟩)) (hq : tmps.getD q undef = .pointer (some ⟨g', 0, none⟩)) (hr : tmps.getD r undef = v) (hB : Blk w g cs t) (hC : Blk w g' ds t') (hk : (P.underlying ty).map TypeDesc.isRow = some true) (hi : (P.info? ty).map (·.size) = some cs.size)
    (hk' : (P.underlying tz).map TypeDesc.isRow = some true) (hi' : (P.info? tz).map (·.size) = some ds.size) : (results fn tmps).run P w = .ok (.tuple #[.agg cs, .agg ds, v]) w := by
  cases hu : P.underlying ty with
  | none => simp [hu] at hk
  | some d =>
    cases hu' : P.underlying tz with
    | none => simp [hu'] at hk'
    | some d' =>
      have hd : d.isRow = true := by simpa [hu] using hk
      have hd' : d'.isRow = true := by simpa [hu'] using hk'
      have hp' : tmps[p]?.getD undef = .pointer (some ⟨g, 0, none⟩) := by simpa using hp
      have hq' : tmps[q]?.getD undef = .pointer (some ⟨g', 0, none⟩) := by simpa using hq
      have hr' : tmps[r]?.getD undef = v := by simpa using hr
      simp [results, h, hp', hq', hr', asAddr, run_loadVar_row w g t ty cs _ d hB hu (by cases d <;> simp_all [TypeDesc.isRow]) hi, run_loadVar_row w g' t' tz ds _ d' hC hu' (by cases d' <;> simp_all [TypeDesc.isRow]) hi']

theorem V3p (hc : kn.c) {V : Nat} (hV : V < 2 ^ 256) (hok : dOk V = false) :
  ∀ w, GA kn w → Calls Tryd.prog 64 #[.agg (J1 .u8 32 (Q6 V))] w fun e w' => Ret (.tuple #[.agg (p4 0 0 0 0), .int .i64 15]) w w' e := by
 have dc := Q2k (kn := kn) hc (V := V) hV hok
 intro w hG
 have off0 : Off [] w w := Off.refl _ _
 go_enter Tryd.func64, Tryd.ntmps64
 go_upto_region 0 with fail
 refine wp_region_lit ?_
 refine Ln ?_ (z := J1 .u8 32 (Q6 V)) (t := 22)
 intro J15 W1 J27 hO h_
 replace off0 := off0.o hO
 have k_t1 := h_
 clear hO h_ J27
 refine Ln ?_ (z := p4 0 0 0 0) (t := 60)
 intro J29 W2 K7 hO h_
 have K8 := fbn off0 K7
 replace k_t1 := k_t1.o hO
 replace off0 := off0.o hO
 have k_t2 := h_
 clear hO h_ K7
 refine Lw ?_ (v := .int .i64 0)
 refine J0 ?_
 go_upto_region 1 with fail
 refine wp_region_lit ?_
 refine L0A ?_ k_t1
 refine Lr ?_ (dc W2 (Q9 hG off0.ext).1)
 intro W3 hO
 replace k_t2 := k_t2.o hO
 replace off0 := off0.o hO
 clear hO
 refine Lv ?_
 refine Lv ?_
 refine Lw ?_ (v := .int .i64 15)
 refine LnP ?_ (z := p4 0 0 0 0) (t := 60) (cells := p4 0 0 0 0)
 intro J9i W5 J0u hO h_
 replace k_t2 := k_t2.o hO
 replace off0 := off0.o hO
 have k_t4 := h_
 clear hO h_ J0u
 refine Lw ?_ (v := .int .i64 15)
 refine J0 ?_
 go_upto_region 2 with fail
 refine wp_region_lit ?_
 refine Lw ?_ (v := .int .i64 15)
 refine Lw ?_ (v := .bool false)
 refine Lw ?_ (v := .bool false)
 refine Ls ?_
 refine Ls ?_
 refine Ls ?_
 refine Ls ?_
 refine Lw ?_ (v := .bool false)
 refine J0 ?_
 go_upto_region 4 with fail
 refine wp_region_lit ?_
 refine L0 ?_ k_t4
 refine Lw ?_ (v := .int .i64 15)
 refine Lp ?_ k_t2 (cells := p4 0 0 0 0)
 intro W6 hO h_
 replace k_t2 : Blk W6 J29 (p4 0 0 0 0) 60 := h_
 clear h_
 replace off0 := off0.p hO K8
 clear hO
 refine Lw ?_ (v := .int .i64 15)
 refine J0 ?_
 go_wp2
 exact bodyPost_ret (V7 rfl rfl rfl k_t2 (by kernel_rfl) (by kernel_rfl)) rfl ⟨rfl, off0.ext⟩
theorem V3q (hc : kn.c) {V : Nat} (hV : V < 2 ^ 256) (hok : dOk V = true) (h8 : pm (dPt V) 8 = p0) :
  ∃ X Y T, RN X Y 1 T (dPt V) ∧ ∀ w, GA kn w → Calls Tryd.prog 64 #[.agg (J1 .u8 32 (Q6 V))] w fun e w' => Ret (.tuple #[.agg (p4 X Y 1 T), .int .i64 15]) w w' e := by
 obtain ⟨dx, dt, dr, dc⟩ := J9o hc (V := V) hV hok
 obtain ⟨y0, hy0⟩ := V2 (V % 2 ^ 255)
 rw [← hy0] at dr dc
 clear hy0
 obtain ⟨x1, y2, z3, t4, r5, c6⟩ := J83 (kn := kn) dr.rw
 have cs_ := Q1j (kn := kn) r5.rw Q0c
 rw [decide_eq_true h8] at cs_
 refine ⟨dx, y0, dt, dr, fun w hG => ?_⟩
 have off0 : Off [] w w := Off.refl _ _
 go_enter Tryd.func64, Tryd.ntmps64
 go_upto_region 0 with fail
 refine wp_region_lit ?_
 refine Ln ?_ (z := J1 .u8 32 (Q6 V)) (t := 22)
 intro J15 W1 J27 hO h_
 replace off0 := off0.o hO
 have k_t1 := h_
 clear hO h_ J27
 refine Ln ?_ (z := p4 0 0 0 0) (t := 60)
 intro J29 W2 K7 hO h_
 have K8 := fbn off0 K7
 replace k_t1 := k_t1.o hO
 replace off0 := off0.o hO
 have k_t2 := h_
 clear hO h_ K7
 refine Lw ?_ (v := .int .i64 0)
 refine J0 ?_
 go_upto_region 1 with fail
 refine wp_region_lit ?_
 refine L0A ?_ k_t1
 refine Lr ?_ (dc W2 (Q9 hG off0.ext).1)
 intro W3 hO
 replace k_t2 := k_t2.o hO
 replace off0 := off0.o hO
 clear hO
 refine Lv ?_
 refine Lv ?_
 refine Lw ?_ (v := .int .i64 0)
 refine LnP ?_ (z := p4 0 0 0 0) (t := 60) (cells := p4 dx y0 1 dt)
 intro J9i W5 J0u hO h_
 replace k_t2 := k_t2.o hO
 replace off0 := off0.o hO
 have k_t4 := h_
 clear hO h_ J0u
 refine Lw ?_ (v := .int .i64 0)
 refine J0 ?_
 go_upto_region 2 with fail
 refine wp_region_lit ?_
 refine Lw ?_ (v := .int .i64 0)
 refine Lw ?_ (v := .bool true)
 refine Lw ?_ (v := .bool true)
 refine L0 ?_ k_t4
 refine Lr ?_ (c6 W5 (Q9 hG off0.ext).1)
 intro W6 hO
 replace k_t2 := k_t2.o hO
 replace k_t4 := k_t4.o hO
 replace off0 := off0.o hO
 clear hO
 refine Lw ?_ (v := .agg (p4 0 0 0 0)) (hv := by kernel_rfl)
 refine Lr ?_ (cs_ W6 (Q9 hG off0.ext).1)
 intro W7 hO
 replace k_t2 := k_t2.o hO
 replace k_t4 := k_t4.o hO
 replace off0 := off0.o hO
 clear hO
 refine Lw ?_ (v := .bool true)
 refine J0 ?_
 go_upto_region 4 with fail
 refine wp_region_lit ?_
 refine L0 ?_ k_t4
 refine Lw ?_ (v := .int .i64 15)
 refine Lp ?_ k_t2 (cells := p4 dx y0 1 dt)
 intro W8 hO h_
 replace k_t2 : Blk W8 J29 (p4 dx y0 1 dt) 60 := h_
 clear h_
 replace off0 := off0.p hO K8
 clear hO
 refine Lw ?_ (v := .int .i64 15)
 refine J0 ?_
 go_wp2
 exact bodyPost_ret (V7 rfl rfl rfl k_t2 (by kernel_rfl) (by kernel_rfl)) rfl ⟨rfl, off0.ext⟩
theorem Z0k (hc : kn.c) {V : Nat} (hV : V < 2 ^ 256) (hok : dOk V = true) (h8 : ¬ pm (dPt V) 8 = p0) :
  ∃ X Y T, RN X Y 1 T (dPt V) ∧ ∀ w, GA kn w → Calls Tryd.prog 64 #[.agg (J1 .u8 32 (Q6 V))] w fun e w' => Ret (.tuple #[.agg (p4 X Y 1 T), .int .i64 0]) w w' e := by
 obtain ⟨dx, dt, dr, dc⟩ := J9o hc (V := V) hV hok
 obtain ⟨y0, hy0⟩ := V2 (V % 2 ^ 255)
 rw [← hy0] at dr dc
 clear hy0
 obtain ⟨x1, y2, z3, t4, r5, c6⟩ := J83 (kn := kn) dr.rw
 have cs_ := Q1j (kn := kn) r5.rw Q0c
 rw [decide_eq_false h8] at cs_
 refine ⟨dx, y0, dt, dr, fun w hG => ?_⟩
 have off0 : Off [] w w := Off.refl _ _
 go_enter Tryd.func64, Tryd.ntmps64
 go_upto_region 0 with fail
 refine wp_region_lit ?_
 refine Ln ?_ (z := J1 .u8 32 (Q6 V)) (t := 22)
 intro J15 W1 J27 hO h_
 replace off0 := off0.o hO
 have k_t1 := h_
 clear hO h_ J27
 refine Ln ?_ (z := p4 0 0 0 0) (t := 60)
 intro J29 W2 K7 hO h_
 have K8 := fbn off0 K7
 replace k_t1 := k_t1.o hO
 replace off0 := off0.o hO
 have k_t2 := h_
 clear hO h_ K7
 refine Lw ?_ (v := .int .i64 0)
 refine J0 ?_
 go_upto_region 1 with fail
 refine wp_region_lit ?_
 refine L0A ?_ k_t1
 refine Lr ?_ (dc W2 (Q9 hG off0.ext).1)
 intro W3 hO
 replace k_t2 := k_t2.o hO
 replace off0 := off0.o hO
 clear hO
 refine Lv ?_
 refine Lv ?_
 refine Lw ?_ (v := .int .i64 0)
 refine LnP ?_ (z := p4 0 0 0 0) (t := 60) (cells := p4 dx y0 1 dt)
 intro J9i W5 J0u hO h_
 replace k_t2 := k_t2.o hO
 replace off0 := off0.o hO
 have k_t4 := h_
 clear hO h_ J0u
 refine Lw ?_ (v := .int .i64 0)
 refine J0 ?_
 go_upto_region 2 with fail
 refine wp_region_lit ?_
 refine Lw ?_ (v := .int .i64 0)
 refine Lw ?_ (v := .bool true)
 refine Lw ?_ (v := .bool true)
 refine L0 ?_ k_t4
 refine Lr ?_ (c6 W5 (Q9 hG off0.ext).1)
 intro W6 hO
 replace k_t2 := k_t2.o hO
 replace k_t4 := k_t4.o hO
 replace off0 := off0.o hO
 clear hO
 refine Lw ?_ (v := .agg (p4 0 0 0 0)) (hv := by kernel_rfl)
 refine Lr ?_ (cs_ W6 (Q9 hG off0.ext).1)
 intro W7 hO
 replace k_t2 := k_t2.o hO
 replace k_t4 := k_t4.o hO
 replace off0 := off0.o hO
 clear hO
 refine Lw ?_ (v := .bool false)
 refine J0 ?_
 go_upto_region 4 with fail
 refine wp_region_lit ?_
 refine L0 ?_ k_t4
 refine Lw ?_ (v := .int .i64 0)
 refine Lp ?_ k_t2 (cells := p4 dx y0 1 dt)
 intro W8 hO h_
 replace k_t2 : Blk W8 J29 (p4 dx y0 1 dt) 60 := h_
 clear h_
 replace off0 := off0.p hO K8
 clear hO
 refine Lw ?_ (v := .int .i64 0)
 refine J0 ?_
 go_wp2
 exact bodyPost_ret (V7 rfl rfl rfl k_t2 (by kernel_rfl) (by kernel_rfl)) rfl ⟨rfl, off0.ext⟩
theorem Y5g (hc : kn.c) {P : Nat} (hP : B80 P) (hok : dOk (pG P) = false) (h1 : LL ≤ pN P) :
  ∀ w, GA kn w → Calls Tryd.prog 65 #[.agg (J1 .u8 80 (Q6 P))] w fun e w' => Ret (.tuple #[.agg (p4 0 0 0 0), .agg (c4 0), .int .i64 17]) w w' e := by
 have dc := Q2k (kn := kn) hc (V := (pG P)) (J9b P) hok
 intro w hG
 have off0 : Off [] w w := Off.refl _ _
 go_enter Tryd.func65, Tryd.ntmps65
 go_upto_region 0 with fail
 refine wp_region_lit ?_
 refine Ln ?_ (z := J1 .u8 80 (Q6 P)) (t := 45)
 intro J15 W1 J27 hO h_
 replace off0 := off0.o hO
 have k_t1 := h_
 clear hO h_ J27
 refine Ln ?_ (z := p4 0 0 0 0) (t := 60)
 intro J29 W2 K7 hO h_
 have K8 := fbn off0 K7
 replace k_t1 := k_t1.o hO
 replace off0 := off0.o hO
 have k_t2 := h_
 clear hO h_ K7
 refine Ln ?_ (z := c4 0) (t := 42)
 intro Q1f W3 J12 hO h_
 have nq_t2_t3 := bn k_t2 J12
 have J5d := fbn off0 J12
 replace k_t1 := k_t1.o hO
 replace k_t2 := k_t2.o hO
 replace off0 := off0.o hO
 have k_t3 := h_
 clear hO h_ J12
 refine Lw ?_ (v := .int .i64 0)
 refine J0 ?_
 go_upto_region 1 with fail
 refine wp_region_lit ?_
 refine Lw ?_ (v := .slice (some ⟨J15, 0, none⟩) 32 80) (hv := by first | rfl | (go_simp; done) | (go_simp; with_reducible rfl))
 refine Lw ?_ (v := .pointer (some ⟨J15, 0, none⟩)) (hv := by first | rfl | (go_simp; done) | (go_simp; with_reducible rfl))
 refine J01 (vs := (J1 .u8 32 (Q6 (pG P))).toList) (by rfl) rfl rfl k_t1 (J3o Z6r) (by kernel_rfl) (by kernel_rfl) ?_
 (try simp only [Act.put, mA, mB, mC])
 refine Lr ?_ (dc W3 (Q9 hG off0.ext).1)
 intro W4 hO
 replace k_t1 := k_t1.o hO
 replace k_t2 := k_t2.o hO
 replace k_t3 := k_t3.o hO
 replace off0 := off0.o hO
 clear hO
 refine Lv ?_
 refine Lv ?_
 refine Lw ?_ (v := .int .i64 15)
 refine LnP ?_ (z := p4 0 0 0 0) (t := 60) (cells := p4 0 0 0 0)
 intro Q1p W6 J0k hO h_
 replace k_t1 := k_t1.o hO
 replace k_t2 := k_t2.o hO
 replace k_t3 := k_t3.o hO
 replace off0 := off0.o hO
 clear hO h_ J0k
 refine Lw ?_ (v := .int .i64 15)
 refine J0 ?_
 go_upto_region 2 with fail
 refine wp_region_lit ?_
 refine Lw ?_ (v := .slice (some ⟨J15, 48, none⟩) 32 32) (hv := by first | rfl | (go_simp; done) | (go_simp; with_reducible rfl))
 refine Lw ?_ (v := .pointer (some ⟨J15, 48, none⟩)) (hv := by first | rfl | (go_simp; done) | (go_simp; with_reducible rfl))
 refine J01 (vs := (J1 .u8 32 (Q6 (pN P))).toList) (by rfl) rfl rfl k_t1 (J3o Y5f) (by kernel_rfl) (by kernel_rfl) ?_
 (try simp only [Act.put, mA, mB, mC])
 refine Lr ?_ (Z0f h1 hP W6 (Q9 hG off0.ext).2.2.1)
 intro W7 hO
 replace k_t2 := k_t2.o hO
 replace k_t3 := k_t3.o hO
 replace off0 := off0.o hO
 clear hO
 refine Lv ?_
 refine Lv ?_
 refine Lw ?_ (v := .bool false)
 refine LnP ?_ (z := c4 0) (t := 42) (cells := c4 0)
 intro J8z W9 J04 hO h_
 replace k_t2 := k_t2.o hO
 replace k_t3 := k_t3.o hO
 replace off0 := off0.o hO
 clear hO h_ J04
 refine Lw ?_ (v := .bool false)
 refine J0 ?_
 go_upto_region 4 with fail
 refine wp_region_lit ?_
 refine Lw ?_ (v := .agg (p4 0 0 0 0)) (hv := by kernel_rfl)
 refine Lw ?_ (v := .agg (c4 0)) (hv := by kernel_rfl)
 refine Lp ?_ k_t2 (cells := p4 0 0 0 0)
 intro W10 hO h_
 replace k_t2 : Blk W10 J29 (p4 0 0 0 0) 60 := h_
 clear h_
 replace k_t3 := k_t3.p hO nq_t2_t3.symm
 replace off0 := off0.p hO K8
 clear hO
 refine Lp ?_ k_t3 (cells := c4 0)
 intro W11 hO h_
 replace k_t3 : Blk W11 Q1f (c4 0) 42 := h_
 clear h_
 replace k_t2 := k_t2.p hO nq_t2_t3
 replace off0 := off0.p hO J5d
 clear hO
 refine Lw ?_ (v := .int .i64 17)
 refine J0 ?_
 go_wp2
 exact bodyPost_ret (Q0l rfl rfl rfl rfl k_t2 k_t3 (by kernel_rfl) (by kernel_rfl) (by kernel_rfl) (by kernel_rfl)) rfl ⟨rfl, off0.ext⟩
theorem Y5h (hc : kn.c) {P : Nat} (hP : B80 P) (hok : dOk (pG P) = false) (h1 : pN P < LL) :
  ∀ w, GA kn w → Calls Tryd.prog 65 #[.agg (J1 .u8 80 (Q6 P))] w fun e w' => Ret (.tuple #[.agg (p4 0 0 0 0), .agg (c4 0), .int .i64 17]) w w' e := by
 have dc := Q2k (kn := kn) hc (V := (pG P)) (J9b P) hok
 intro w hG
 have off0 : Off [] w w := Off.refl _ _
 go_enter Tryd.func65, Tryd.ntmps65
 go_upto_region 0 with fail
 refine wp_region_lit ?_
 refine Ln ?_ (z := J1 .u8 80 (Q6 P)) (t := 45)
 intro J15 W1 J27 hO h_
 replace off0 := off0.o hO
 have k_t1 := h_
 clear hO h_ J27
 refine Ln ?_ (z := p4 0 0 0 0) (t := 60)
 intro J29 W2 K7 hO h_
 have K8 := fbn off0 K7
 replace k_t1 := k_t1.o hO
 replace off0 := off0.o hO
 have k_t2 := h_
 clear hO h_ K7
 refine Ln ?_ (z := c4 0) (t := 42)
 intro Q1f W3 J12 hO h_
 have nq_t2_t3 := bn k_t2 J12
 have J5d := fbn off0 J12
 replace k_t1 := k_t1.o hO
 replace k_t2 := k_t2.o hO
 replace off0 := off0.o hO
 have k_t3 := h_
 clear hO h_ J12
 refine Lw ?_ (v := .int .i64 0)
 refine J0 ?_
 go_upto_region 1 with fail
 refine wp_region_lit ?_
 refine Lw ?_ (v := .slice (some ⟨J15, 0, none⟩) 32 80) (hv := by first | rfl | (go_simp; done) | (go_simp; with_reducible rfl))
 refine Lw ?_ (v := .pointer (some ⟨J15, 0, none⟩)) (hv := by first | rfl | (go_simp; done) | (go_simp; with_reducible rfl))
 refine J01 (vs := (J1 .u8 32 (Q6 (pG P))).toList) (by rfl) rfl rfl k_t1 (J3o Z6r) (by kernel_rfl) (by kernel_rfl) ?_
 (try simp only [Act.put, mA, mB, mC])
 refine Lr ?_ (dc W3 (Q9 hG off0.ext).1)
 intro W4 hO
 replace k_t1 := k_t1.o hO
 replace k_t2 := k_t2.o hO
 replace k_t3 := k_t3.o hO
 replace off0 := off0.o hO
 clear hO
 refine Lv ?_
 refine Lv ?_
 refine Lw ?_ (v := .int .i64 15)
 refine LnP ?_ (z := p4 0 0 0 0) (t := 60) (cells := p4 0 0 0 0)
 intro Q1p W6 J0k hO h_
 replace k_t1 := k_t1.o hO
 replace k_t2 := k_t2.o hO
 replace k_t3 := k_t3.o hO
 replace off0 := off0.o hO
 clear hO h_ J0k
 refine Lw ?_ (v := .int .i64 15)
 refine J0 ?_
 go_upto_region 2 with fail
 refine wp_region_lit ?_
 refine Lw ?_ (v := .slice (some ⟨J15, 48, none⟩) 32 32) (hv := by first | rfl | (go_simp; done) | (go_simp; with_reducible rfl))
 refine Lw ?_ (v := .pointer (some ⟨J15, 48, none⟩)) (hv := by first | rfl | (go_simp; done) | (go_simp; with_reducible rfl))
 refine J01 (vs := (J1 .u8 32 (Q6 (pN P))).toList) (by rfl) rfl rfl k_t1 (J3o Y5f) (by kernel_rfl) (by kernel_rfl) ?_
 (try simp only [Act.put, mA, mB, mC])
 refine Lr ?_ (Z0e h1 W6 (Q9 hG off0.ext).2.2.1)
 intro W7 hO
 replace k_t2 := k_t2.o hO
 replace k_t3 := k_t3.o hO
 replace off0 := off0.o hO
 clear hO
 refine Lv ?_
 refine Lv ?_
 refine Lw ?_ (v := .bool true)
 refine LnP ?_ (z := c4 0) (t := 42) (cells := c4 (pN P))
 intro J8z W9 J04 hO h_
 replace k_t2 := k_t2.o hO
 replace k_t3 := k_t3.o hO
 replace off0 := off0.o hO
 clear hO h_ J04
 refine Lw ?_ (v := .bool true)
 refine J0 ?_
 go_upto_region 4 with fail
 refine wp_region_lit ?_
 refine Lw ?_ (v := .agg (p4 0 0 0 0)) (hv := by kernel_rfl)
 refine Lw ?_ (v := .agg (c4 0)) (hv := by kernel_rfl)
 refine Lp ?_ k_t2 (cells := p4 0 0 0 0)
 intro W10 hO h_
 replace k_t2 : Blk W10 J29 (p4 0 0 0 0) 60 := h_
 clear h_
 replace k_t3 := k_t3.p hO nq_t2_t3.symm
 replace off0 := off0.p hO K8
 clear hO
 refine Lp ?_ k_t3 (cells := c4 0)
 intro W11 hO h_
 replace k_t3 : Blk W11 Q1f (c4 0) 42 := h_
 clear h_
 replace k_t2 := k_t2.p hO nq_t2_t3
 replace off0 := off0.p hO J5d
 clear hO
 refine Lw ?_ (v := .int .i64 17)
 refine J0 ?_
 go_wp2
 exact bodyPost_ret (Q0l rfl rfl rfl rfl k_t2 k_t3 (by kernel_rfl) (by kernel_rfl) (by kernel_rfl) (by kernel_rfl)) rfl ⟨rfl, off0.ext⟩
theorem Y5i (hc : kn.c) {P : Nat} (hP : B80 P) (hok : dOk (pG P) = true) (h1 : LL ≤ pN P) :
  ∀ w, GA kn w → Calls Tryd.prog 65 #[.agg (J1 .u8 80 (Q6 P))] w fun e w' => Ret (.tuple #[.agg (p4 0 0 0 0), .agg (c4 0), .int .i64 17]) w w' e := by
 obtain ⟨dx, dt, dr, dc⟩ := J9o hc (V := (pG P)) (J9b P) hok
 obtain ⟨y0, hy0⟩ := V2 ((pG P) % 2 ^ 255)
 rw [← hy0] at dr dc
 clear hy0
 intro w hG
 have off0 : Off [] w w := Off.refl _ _
 go_enter Tryd.func65, Tryd.ntmps65
 go_upto_region 0 with fail
 refine wp_region_lit ?_
 refine Ln ?_ (z := J1 .u8 80 (Q6 P)) (t := 45)
 intro J15 W1 J27 hO h_
 replace off0 := off0.o hO
 have k_t1 := h_
 clear hO h_ J27
 refine Ln ?_ (z := p4 0 0 0 0) (t := 60)
 intro J29 W2 K7 hO h_
 have K8 := fbn off0 K7
 replace k_t1 := k_t1.o hO
 replace off0 := off0.o hO
 have k_t2 := h_
 clear hO h_ K7
 refine Ln ?_ (z := c4 0) (t := 42)
 intro Q1f W3 J12 hO h_
 have nq_t2_t3 := bn k_t2 J12
 have J5d := fbn off0 J12
 replace k_t1 := k_t1.o hO
 replace k_t2 := k_t2.o hO
 replace off0 := off0.o hO
 have k_t3 := h_
 clear hO h_ J12
 refine Lw ?_ (v := .int .i64 0)
 refine J0 ?_
 go_upto_region 1 with fail
 refine wp_region_lit ?_
 refine Lw ?_ (v := .slice (some ⟨J15, 0, none⟩) 32 80) (hv := by first | rfl | (go_simp; done) | (go_simp; with_reducible rfl))
 refine Lw ?_ (v := .pointer (some ⟨J15, 0, none⟩)) (hv := by first | rfl | (go_simp; done) | (go_simp; with_reducible rfl))
 refine J01 (vs := (J1 .u8 32 (Q6 (pG P))).toList) (by rfl) rfl rfl k_t1 (J3o Z6r) (by kernel_rfl) (by kernel_rfl) ?_
 (try simp only [Act.put, mA, mB, mC])
 refine Lr ?_ (dc W3 (Q9 hG off0.ext).1)
 intro W4 hO
 replace k_t1 := k_t1.o hO
 replace k_t2 := k_t2.o hO
 replace k_t3 := k_t3.o hO
 replace off0 := off0.o hO
 clear hO
 refine Lv ?_
 refine Lv ?_
 refine Lw ?_ (v := .int .i64 0)
 refine LnP ?_ (z := p4 0 0 0 0) (t := 60) (cells := p4 dx y0 1 dt)
 intro Q1p W6 J0k hO h_
 replace k_t1 := k_t1.o hO
 replace k_t2 := k_t2.o hO
 replace k_t3 := k_t3.o hO
 replace off0 := off0.o hO
 clear hO h_ J0k
 refine Lw ?_ (v := .int .i64 0)
 refine J0 ?_
 go_upto_region 2 with fail
 refine wp_region_lit ?_
 refine Lw ?_ (v := .slice (some ⟨J15, 48, none⟩) 32 32) (hv := by first | rfl | (go_simp; done) | (go_simp; with_reducible rfl))
 refine Lw ?_ (v := .pointer (some ⟨J15, 48, none⟩)) (hv := by first | rfl | (go_simp; done) | (go_simp; with_reducible rfl))
 refine J01 (vs := (J1 .u8 32 (Q6 (pN P))).toList) (by rfl) rfl rfl k_t1 (J3o Y5f) (by kernel_rfl) (by kernel_rfl) ?_
 (try simp only [Act.put, mA, mB, mC])
 refine Lr ?_ (Z0f h1 hP W6 (Q9 hG off0.ext).2.2.1)
 intro W7 hO
 replace k_t2 := k_t2.o hO
 replace k_t3 := k_t3.o hO
 replace off0 := off0.o hO
 clear hO
 refine Lv ?_
 refine Lv ?_
 refine Lw ?_ (v := .bool false)
 refine LnP ?_ (z := c4 0) (t := 42) (cells := c4 0)
 intro J8z W9 J04 hO h_
 replace k_t2 := k_t2.o hO
 replace k_t3 := k_t3.o hO
 replace off0 := off0.o hO
 clear hO h_ J04
 refine Lw ?_ (v := .bool false)
 refine J0 ?_
 go_upto_region 4 with fail
 refine wp_region_lit ?_
 refine Lw ?_ (v := .agg (p4 0 0 0 0)) (hv := by kernel_rfl)
 refine Lw ?_ (v := .agg (c4 0)) (hv := by kernel_rfl)
 refine Lp ?_ k_t2 (cells := p4 0 0 0 0)
 intro W10 hO h_
 replace k_t2 : Blk W10 J29 (p4 0 0 0 0) 60 := h_
 clear h_
 replace k_t3 := k_t3.p hO nq_t2_t3.symm
 replace off0 := off0.p hO K8
 clear hO
 refine Lp ?_ k_t3 (cells := c4 0)
 intro W11 hO h_
 replace k_t3 : Blk W11 Q1f (c4 0) 42 := h_
 clear h_
 replace k_t2 := k_t2.p hO nq_t2_t3
 replace off0 := off0.p hO J5d
 clear hO
 refine Lw ?_ (v := .int .i64 17)
 refine J0 ?_
 go_wp2
 exact bodyPost_ret (Q0l rfl rfl rfl rfl k_t2 k_t3 (by kernel_rfl) (by kernel_rfl) (by kernel_rfl) (by kernel_rfl)) rfl ⟨rfl, off0.ext⟩
theorem Z4w (hc : kn.c) {P : Nat} (hP : B80 P) (hok : dOk (pG P) = true) (h1 : pN P < LL) :
  ∃ X Y T, RN X Y 1 T (dPt (pG P)) ∧ ∀ w, GA kn w → Calls Tryd.prog 65 #[.agg (J1 .u8 80 (Q6 P))] w fun e w' => Ret (.tuple #[.agg (p4 X Y 1 T), .agg (c4 (pN P)), .int .i64 0]) w w' e := by
 obtain ⟨dx, dt, dr, dc⟩ := J9o hc (V := (pG P)) (J9b P) hok
 obtain ⟨y0, hy0⟩ := V2 ((pG P) % 2 ^ 255)
 rw [← hy0] at dr dc
 clear hy0
 refine ⟨dx, y0, dt, dr, fun w hG => ?_⟩
 have off0 : Off [] w w := Off.refl _ _
 go_enter Tryd.func65, Tryd.ntmps65
 go_upto_region 0 with fail
 refine wp_region_lit ?_
 refine Ln ?_ (z := J1 .u8 80 (Q6 P)) (t := 45)
 intro J15 W1 J27 hO h_
 replace off0 := off0.o hO
 have k_t1 := h_
 clear hO h_ J27
 refine Ln ?_ (z := p4 0 0 0 0) (t := 60)
 intro J29 W2 K7 hO h_
 have K8 := fbn off0 K7
 replace k_t1 := k_t1.o hO
 replace off0 := off0.o hO
 have k_t2 := h_
 clear hO h_ K7
 refine Ln ?_ (z := c4 0) (t := 42)
 intro Q1f W3 J12 hO h_
 have nq_t2_t3 := bn k_t2 J12
 have J5d := fbn off0 J12
 replace k_t1 := k_t1.o hO
 replace k_t2 := k_t2.o hO
 replace off0 := off0.o hO
 have k_t3 := h_
 clear hO h_ J12
 refine Lw ?_ (v := .int .i64 0)
 refine J0 ?_
 go_upto_region 1 with fail
 refine wp_region_lit ?_
 refine Lw ?_ (v := .slice (some ⟨J15, 0, none⟩) 32 80) (hv := by first | rfl | (go_simp; done) | (go_simp; with_reducible rfl))
 refine Lw ?_ (v := .pointer (some ⟨J15, 0, none⟩)) (hv := by first | rfl | (go_simp; done) | (go_simp; with_reducible rfl))
 refine J01 (vs := (J1 .u8 32 (Q6 (pG P))).toList) (by rfl) rfl rfl k_t1 (J3o Z6r) (by kernel_rfl) (by kernel_rfl) ?_
 (try simp only [Act.put, mA, mB, mC])
 refine Lr ?_ (dc W3 (Q9 hG off0.ext).1)
 intro W4 hO
 replace k_t1 := k_t1.o hO
 replace k_t2 := k_t2.o hO
 replace k_t3 := k_t3.o hO
 replace off0 := off0.o hO
 clear hO
 refine Lv ?_
 refine Lv ?_
 refine Lw ?_ (v := .int .i64 0)
 refine LnP ?_ (z := p4 0 0 0 0) (t := 60) (cells := p4 dx y0 1 dt)
 intro Q1p W6 J0k hO h_
 have nq_t2_t5 := bn k_t2 J0k
 have nq_t3_t5 := bn k_t3 J0k
 replace k_t1 := k_t1.o hO
 replace k_t2 := k_t2.o hO
 replace k_t3 := k_t3.o hO
 replace off0 := off0.o hO
 have k_t5 := h_
 clear hO h_ J0k
 refine Lw ?_ (v := .int .i64 0)
 refine J0 ?_
 go_upto_region 2 with fail
 refine wp_region_lit ?_
 refine Lw ?_ (v := .slice (some ⟨J15, 48, none⟩) 32 32) (hv := by first | rfl | (go_simp; done) | (go_simp; with_reducible rfl))
 refine Lw ?_ (v := .pointer (some ⟨J15, 48, none⟩)) (hv := by first | rfl | (go_simp; done) | (go_simp; with_reducible rfl))
 refine J01 (vs := (J1 .u8 32 (Q6 (pN P))).toList) (by rfl) rfl rfl k_t1 (J3o Y5f) (by kernel_rfl) (by kernel_rfl) ?_
 (try simp only [Act.put, mA, mB, mC])
 refine Lr ?_ (Z0e h1 W6 (Q9 hG off0.ext).2.2.1)
 intro W7 hO
 replace k_t2 := k_t2.o hO
 replace k_t3 := k_t3.o hO
 replace k_t5 := k_t5.o hO
 replace off0 := off0.o hO
 clear hO
 refine Lv ?_
 refine Lv ?_
 refine Lw ?_ (v := .bool true)
 refine LnP ?_ (z := c4 0) (t := 42) (cells := c4 (pN P))
 intro J8z W9 J04 hO h_
 have nq_t2_t7 := bn k_t2 J04
 have nq_t3_t7 := bn k_t3 J04
 replace k_t2 := k_t2.o hO
 replace k_t3 := k_t3.o hO
 replace k_t5 := k_t5.o hO
 replace off0 := off0.o hO
 have k_t7 := h_
 clear hO h_ J04
 refine Lw ?_ (v := .bool true)
 refine J0 ?_
 go_upto_region 5 with fail
 refine J44 (.q 0 (.q 1 (.e 2 (.e 3 (.q 4 .z))))) (fun W => (Blk W Q1p (p4 dx y0 1 dt) 60) ∧ (Blk W J8z (c4 (pN P)) 42)) (by kernel_rfl) (by kernel_rfl) ?_
 intro W10 hO
 replace k_t2 := k_t2.o hO
 replace k_t3 := k_t3.o hO
 replace k_t5 := k_t5.o hO
 replace k_t7 := k_t7.o hO
 replace off0 := off0.o hO
 clear hO
 refine ⟨⟨k_t5, k_t7⟩, ?_⟩
 refine J1r (v := .agg (p4 dx y0 1 dt)) rfl (by rfl) (fun W hS => by exact (J21 rfl rfl (hS.1) (by kernel_rfl) (by kernel_rfl))) ?_
 (try simp only [Act.put, mA, mB, mC])
 refine J1r (v := .agg (c4 (pN P))) rfl (by rfl) (fun W hS => by exact (J21 rfl rfl (hS.2) (by kernel_rfl) (by kernel_rfl))) ?_
 (try simp only [Act.put, mA, mB, mC])
 refine J3f rfl ?_
 refine Lp ?_ k_t2 (cells := p4 dx y0 1 dt)
 intro W11 hO h_
 replace k_t2 : Blk W11 J29 (p4 dx y0 1 dt) 60 := h_
 clear h_
 replace k_t3 := k_t3.p hO nq_t2_t3.symm
 replace k_t5 := k_t5.p hO nq_t2_t5.symm
 replace k_t7 := k_t7.p hO nq_t2_t7.symm
 replace off0 := off0.p hO K8
 clear hO
 refine J2q (fun W => (Blk W Q1p (p4 dx y0 1 dt) 60) ∧ (Blk W J8z (c4 (pN P)) 42)) (fun W hS => ⟨hS.1, hS.2⟩) ⟨k_t5, k_t7⟩ ?_
 refine J3f rfl ?_
 refine Lp ?_ k_t3 (cells := c4 (pN P))
 intro W12 hO h_
 replace k_t3 : Blk W12 Q1f (c4 (pN P)) 42 := h_
 clear h_
 replace k_t2 := k_t2.p hO nq_t2_t3
 replace k_t5 := k_t5.p hO nq_t3_t5.symm
 replace k_t7 := k_t7.p hO nq_t3_t7.symm
 replace off0 := off0.p hO J5d
 clear hO
 refine J2q (fun W => (Blk W Q1p (p4 dx y0 1 dt) 60) ∧ (Blk W J8z (c4 (pN P)) 42)) (fun W hS => ⟨hS.1, hS.2⟩) ⟨k_t5, k_t7⟩ ?_
 (refine J1r (v := ?_) rfl (by rfl) (fun W hS => ?_) ?_; rotate_left 1; (focus (go_simp; first | done | with_reducible rfl)))
 (try simp only [Act.put, mA, mB, mC])
 refine Q3m ?_
 go_wp2
 exact bodyPost_ret (Q0l rfl rfl rfl rfl k_t2 k_t3 (by kernel_rfl) (by kernel_rfl) (by kernel_rfl) (by kernel_rfl)) rfl ⟨rfl, off0.ext⟩
theorem V0n (hc : kn.c) {P : Nat} (hok : dOk (pG P) = false) :
  ∀ w, GA kn w → Calls Tryd.prog 27 #[.agg (J1 .u8 80 (Q6 P))] w fun e w' => Ret (.tuple #[.agg (J1 .u8 64 (Q6 0)), .int .i64 17]) w w' e := by
 have dc := Q2k (kn := kn) hc (V := (pG P)) (J9b P) hok
 intro w hG
 have off0 : Off [] w w := Off.refl _ _
 go_enter Tryd.func27, Tryd.ntmps27
 go_upto_region 0 with fail
 refine wp_region_lit ?_
 refine Ln ?_ (z := J1 .u8 80 (Q6 P)) (t := 45)
 intro J15 W1 J27 hO h_
 replace off0 := off0.o hO
 have k_t1 := h_
 clear hO h_ J27
 refine Ln ?_ (z := J1 .u8 64 (Q6 0)) (t := 30)
 intro J29 W2 K7 hO h_
 have K8 := fbn off0 K7
 replace k_t1 := k_t1.o hO
 replace off0 := off0.o hO
 have k_t2 := h_
 clear hO h_ K7
 refine Lw ?_ (v := .int .i64 0)
 refine J0 ?_
 go_upto_region 1 with fail
 refine wp_region_lit ?_
 refine Lw ?_ (v := .slice (some ⟨J15, 0, none⟩) 32 80) (hv := by first | rfl | (go_simp; done) | (go_simp; with_reducible rfl))
 refine Lw ?_ (v := .pointer (some ⟨J15, 0, none⟩)) (hv := by first | rfl | (go_simp; done) | (go_simp; with_reducible rfl))
 refine J01 (vs := (J1 .u8 32 (Q6 (pG P))).toList) (by rfl) rfl rfl k_t1 (J3o Z6r) (by kernel_rfl) (by kernel_rfl) ?_
 (try simp only [Act.put, mA, mB, mC])
 refine Lr ?_ (dc W2 (Q9 hG off0.ext).1)
 intro W3 hO
 replace k_t2 := k_t2.o hO
 replace off0 := off0.o hO
 clear hO
 refine Lv ?_
 refine Lv ?_
 refine Lw ?_ (v := .int .i64 15)
 refine LnP ?_ (z := p4 0 0 0 0) (t := 60) (cells := p4 0 0 0 0)
 intro J9i W5 J0u hO h_
 replace k_t2 := k_t2.o hO
 replace off0 := off0.o hO
 clear hO h_ J0u
 refine Lw ?_ (v := .int .i64 15)
 refine J0 ?_
 go_upto_region 3 with fail
 refine wp_region_lit ?_
 refine Lw ?_ (v := .agg (J1 .u8 64 (Q6 0))) (hv := by kernel_rfl)
 refine LpA ?_ k_t2 (k := .u8) (n := 64) (f := Q6 0)
 intro W6 hO h_
 replace k_t2 : Blk W6 J29 (J1 .u8 64 (Q6 0)) 30 := h_
 clear h_
 replace off0 := off0.p hO K8
 clear hO
 refine Lw ?_ (v := .int .i64 17)
 refine J0 ?_
 go_wp2
 exact bodyPost_ret (V7 rfl rfl rfl k_t2 (by kernel_rfl) (by rw [Q1]; kernel_rfl)) rfl ⟨rfl, off0.ext⟩
theorem Y1u (hc : kn.c) {P X : Nat} (hok : dOk (pG P) = true) (hX : X = Q3w P) :
  ∀ w, GA kn w → Calls Tryd.prog 27 #[.agg (J1 .u8 80 (Q6 P))] w fun e w' => Ret (.tuple #[.agg (J1 .u8 64 (Q6 X)), .int .i64 0]) w w' e := by
 obtain ⟨dx, dt, dr, dc⟩ := J9o hc (V := (pG P)) (J9b P) hok
 obtain ⟨y0, hy0⟩ := V2 ((pG P) % 2 ^ 255)
 rw [← hy0] at dr dc
 clear hy0
 obtain ⟨x1, y2, z3, t4, r5, c6⟩ := J83 (kn := kn) dr.rw
 obtain ⟨U1, hU1⟩ := V2 (enc (pm (dPt (pG P)) 8))
 have bU1 : U1 < 2 ^ 256 := by rw [hU1]; exact J4p _
 have HU1 := Lib.hid hU1
 clear hU1
 obtain ⟨U2, hU2⟩ := V2 (hs ([3, 3] ++ (lb 32 U1) ++ [0]))
 have HU2 := Lib.hid hU2
 clear hU2
 intro w hG
 have off0 : Off [] w w := Off.refl _ _
 go_enter Tryd.func27, Tryd.ntmps27
 go_upto_region 0 with fail
 refine wp_region_lit ?_
 refine Ln ?_ (z := J1 .u8 80 (Q6 P)) (t := 45)
 intro J15 W1 J27 hO h_
 replace off0 := off0.o hO
 have k_t1 := h_
 clear hO h_ J27
 refine Ln ?_ (z := J1 .u8 64 (Q6 0)) (t := 30)
 intro J29 W2 K7 hO h_
 have K8 := fbn off0 K7
 replace k_t1 := k_t1.o hO
 replace off0 := off0.o hO
 have k_t2 := h_
 clear hO h_ K7
 refine Lw ?_ (v := .int .i64 0)
 refine J0 ?_
 go_upto_region 1 with fail
 refine wp_region_lit ?_
 refine Lw ?_ (v := .slice (some ⟨J15, 0, none⟩) 32 80) (hv := by first | rfl | (go_simp; done) | (go_simp; with_reducible rfl))
 refine Lw ?_ (v := .pointer (some ⟨J15, 0, none⟩)) (hv := by first | rfl | (go_simp; done) | (go_simp; with_reducible rfl))
 refine J01 (vs := (J1 .u8 32 (Q6 (pG P))).toList) (by rfl) rfl rfl k_t1 (J3o Z6r) (by kernel_rfl) (by kernel_rfl) ?_
 (try simp only [Act.put, mA, mB, mC])
 refine Lr ?_ (dc W2 (Q9 hG off0.ext).1)
 intro W3 hO
 replace k_t2 := k_t2.o hO
 replace off0 := off0.o hO
 clear hO
 refine Lv ?_
 refine Lv ?_
 refine Lw ?_ (v := .int .i64 0)
 refine LnP ?_ (z := p4 0 0 0 0) (t := 60) (cells := p4 dx y0 1 dt)
 intro J9i W5 J0u hO h_
 replace k_t2 := k_t2.o hO
 replace off0 := off0.o hO
 have k_t4 := h_
 clear hO h_ J0u
 refine Lw ?_ (v := .int .i64 0)
 refine J0 ?_
 go_upto_region 4 with fail
 refine wp_region_lit ?_
 refine L0 ?_ k_t4
 refine Lr ?_ (c6 W5 (Q9 hG off0.ext).1)
 intro W6 hO
 replace k_t2 := k_t2.o hO
 replace off0 := off0.o hO
 clear hO
 refine Lr ?_ (J9y r5.rw HU1.out W6 (Q9 hG off0.ext).1)
 intro W7 hO
 replace k_t2 := k_t2.o hO
 replace off0 := off0.o hO
 clear hO
 refine LnA ?_ (z := J1 .u8 32 (Q6 0)) (t := 22) (k := .u8) (n := 32) (f := Q6 U1)
 intro Y3k W9 J1c hO h_
 replace k_t2 := k_t2.o hO
 replace off0 := off0.o hO
 have k_t6 := h_
 clear hO h_ J1c
 refine J0 ?_
 go_upto_region 5 with fail
 refine wp_region_lit ?_
 refine LnS ?_ (z := #[.int .u8 3, .int .u8 3]) (t := 5) (n := 2) (c := 2)
 intro Z29 W10 Q3p hO h_
 replace k_t2 := k_t2.o hO
 replace k_t6 := k_t6.o hO
 replace off0 := off0.o hO
 have ow_s20 : Own W10 (.slice (some ⟨Z29, 0, none⟩) 2 2) [3, 3] := V8 h_ (by rfl) (by show 2 ≤ maxLen; decide)
 clear hO h_ Q3p
 refine Lw ?_ (v := .slice (some ⟨Y3k, 0, none⟩) 32 32) (hv := by first | rfl | (go_simp; done) | (go_simp; with_reducible rfl))
 refine LnS ?_ (z := #[.int .u8 0]) (t := 5) (n := 1) (c := 1)
 intro J92 W11 Q7g hO h_
 replace k_t2 := k_t2.o hO
 replace k_t6 := k_t6.o hO
 replace ow_s20 := Own.off ow_s20 hO f0
 replace off0 := off0.o hO
 have ow_s22 : Own W11 (.slice (some ⟨J92, 0, none⟩) 1 1) [0] := V8 h_ (by rfl) (by show 1 ≤ maxLen; decide)
 clear hO h_ Q7g
 refine LnS ?_ (z := #[(.slice (some ⟨Z29, 0, none⟩) 2 2), .slice (some ⟨Y3k, 0, none⟩) 32 32, (.slice (some ⟨J92, 0, none⟩) 1 1)]) (t := 23) (n := 3) (c := 3) (hr := by exact J45 [(.slice (some ⟨Z29, 0, none⟩) 2 2), .slice (some ⟨Y3k, 0, none⟩) 32 32, (.slice (some ⟨J92, 0, none⟩) 1 1)] rfl rfl (vsc ((J33 ow_s20).1) (vsc (rfl) (vsc ((J33 ow_s22).1) vs0))) Tryd.underlying112 (by kernel_rfl) (by kernel_rfl) rfl (by decide) (by decide))
 intro V0o W12 J99 hO h_
 replace k_t2 := k_t2.o hO
 replace k_t6 := k_t6.o hO
 replace ow_s20 := Own.off ow_s20 hO f0
 replace ow_s22 := Own.off ow_s22 hO f0
 replace off0 := off0.o hO
 have J4h := h_
 clear hO h_ J99
 refine Lr ?_ (J8w HU2.out [[3, 3], lb 32 U1, [0]] (some ⟨V0o, 0, none⟩) 3 (by simp only [List.flatten_cons, List.flatten_nil, List.append_nil, List.nil_append, List.append_assoc, List.cons_append]) (by first | omega | (simp only [List.length_append, List.length_cons, List.length_nil, J8]; omega)) (by simp) W12 (J7g J4h (pvc (ow_s20.sl) (pvc (J0z (V := U1) (n := 32) (off := 0) k_t6 ap0 (by decide) (by decide)) (pvc (ow_s22.sl) pv0)))) (Q9 hG off0.ext).2.1)
 intro W13 hO
 replace k_t2 := k_t2.o hO
 replace off0 := off0.o hO
 clear hO
 refine LpA ?_ k_t2 (k := .u8) (n := 64) (f := Q6 U2)
 intro W14 hO h_
 replace k_t2 : Blk W14 J29 (J1 .u8 64 (Q6 U2)) 30 := h_
 clear h_
 replace off0 := off0.p hO K8
 clear hO
 refine Lw ?_ (v := .int .i64 0)
 refine J0 ?_
 go_wp2
 rw [hX, show Q3w P = U2 by rw [HU2.out, HU1.out]; rfl]
 exact bodyPost_ret (V7 rfl rfl rfl k_t2 (by kernel_rfl) (by rw [Q1]; kernel_rfl)) rfl ⟨rfl, off0.ext⟩
theorem Y5j {X : Nat} (w : World) :
  Calls Tryd.prog 30 #[.agg (J1 .u8 64 (Q6 X))] w fun e w' => Ret (.agg (J1 .u8 32 (Q6 (lo X)))) w w' e := by
 have off0 : Off [] w w := Off.refl _ _
 go_enter Tryd.func30, Tryd.ntmps30
 go_upto_region 0 with fail
 refine wp_region_lit ?_
 refine Ln ?_ (z := J1 .u8 64 (Q6 X)) (t := 30)
 intro J15 W1 J27 hO h_
 replace off0 := off0.o hO
 have k_t1 := h_
 clear hO h_ J27
 refine Ln ?_ (z := J1 .u8 32 (Q6 0)) (t := 22)
 intro J29 W2 K7 hO h_
 have K8 := fbn off0 K7
 replace k_t1 := k_t1.o hO
 replace off0 := off0.o hO
 have k_t2 := h_
 clear hO h_ K7
 refine J0 ?_
 go_upto_region 1 with fail
 refine wp_region_lit ?_
 refine Lw ?_ (v := .slice (some ⟨J15, 0, none⟩) 32 64) (hv := by first | rfl | (go_simp; done) | (go_simp; with_reducible rfl))
 refine Lw ?_ (v := .pointer (some ⟨J15, 0, none⟩)) (hv := by first | rfl | (go_simp; done) | (go_simp; with_reducible rfl))
 refine J01 (vs := (J1 .u8 32 (Q6 (lo X))).toList) (by rfl) rfl rfl k_t1 (J3o Z1t) (by kernel_rfl) (by kernel_rfl) ?_
 (try simp only [Act.put, mA, mB, mC])
 refine LpA ?_ k_t2 (k := .u8) (n := 32) (f := Q6 (lo X))
 intro W3 hO h_
 replace k_t2 : Blk W3 J29 (J1 .u8 32 (Q6 (lo X))) 22 := h_
 clear h_
 replace off0 := off0.p hO K8
 clear hO
 refine J0 ?_
 go_wp2
 exact bodyPost_ret (K3 rfl rfl k_t2 (by kernel_rfl) (by rw [Q1]; kernel_rfl)) rfl ⟨rfl, off0.ext⟩
end Go.Proofs.YtefpoollmbmkfaaDoor
