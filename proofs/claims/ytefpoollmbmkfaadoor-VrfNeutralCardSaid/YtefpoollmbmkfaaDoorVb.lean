/- vrf: Prove. Conditions: the cells of the variables hold their numbers. vrf: Check. Conditions: the cells of the variables hold their numbers. -/
import Derived.Test.YtefpoollmbmkfaaDoorGc
import Derived.Test.YtefpoollmbmkfaaDoorVa
set_option linter.unusedSimpArgs false
set_option linter.unusedVariables false
namespace Go.Proofs.YtefpoollmbmkfaaDoor
set_option maxHeartbeats 2000000
set_option maxRecDepth 100000
open Go.RowKit
attribute [local irreducible] wpList J3w
variable {kn : Kn}
open Sc (LL J12)
attribute [local irreducible] hs
theorem h16 {X C : Nat} (hC : C = X % J1l) : ∀ i v, (J2 .u8 16 (Q0 C))[i]? = some v → (J2 .u8 64 (Q0 X))[0 + i]? = some v :=
  J9w (fun j hj => by rw [hC, show J1l = 2 ^ (8 * 16) from rfl, Q78 hj, Nat.zero_add]) (by decide)
theorem Q7b (hc : kn.c) {V c0 : Nat} {L : List UInt8} (hL : L.length ≤ 1099511627776) (hv : vpt V L = some c0) {h : Pr} (hh : h = J1f V L c0) :
    ∃ X Y Z T, RN X Y Z T h ∧ ∀ v w, GA kn w → Sl w v L → Calls Tryd.prog 60 #[.agg (J2 .u8 32 (Q0 V)), v] w fun e w' => Ret (.tuple #[.agg (p4 X Y Z T), .int .i64 0]) w w' e := by
  obtain ⟨h1, h2, h3⟩ := Q0r hv
  subst hh
  exact Q58 hc hL c0 h1 h2 h3
theorem Q7c (hc : kn.c) {V : Nat} {L : List UInt8} (hL : L.length ≤ 1099511627776) (hv : vpt V L = none) (v : Value) (w : World) (hG : GA kn w) (hs : Sl w v L) :
    Calls Tryd.prog 60 #[.agg (J2 .u8 32 (Q0 V)), v] w fun e w' => Ret (.tuple #[.agg (p4 0 0 0 0), .int .i64 15]) w w' e := Q59 hc hL (Z2w hv) v w hG hs
theorem Z2x {E C n : Nat} (hE : E < 2 ^ 256) (hC : C < J1l) : lb 32 E ++ lb 16 C ++ lb 32 n = lb 80 (E + 2 ^ 256 * (C + J1l * n)) := by
  have e1 : lb 80 (E + 2 ^ 256 * (C + J1l * n)) = lb 32 (E + 2 ^ 256 * (C + J1l * n)) ++ lb 48 ((E + 2 ^ 256 * (C + J1l * n)) / 2 ^ (8 * 32)) := Q55 32 48 _
  have e2 : lb 48 (C + J1l * n) = lb 16 (C + J1l * n) ++ lb 32 ((C + J1l * n) / 2 ^ (8 * 16)) := Q55 16 32 _
  rw [e1, show (2 : Nat) ^ (8 * 32) = 2 ^ 256 from rfl, Nat.add_mul_div_left _ _ (by decide), Nat.div_eq_of_lt hE, Nat.zero_add, e2, show (2 : Nat) ^ (8 * 16) = J1l from rfl, Nat.add_mul_div_left _ _ (by decide), Nat.div_eq_of_lt hC, Nat.zero_add, List.append_assoc]
  congr 1
  · rw [← Z2f 32 (E + 2 ^ 256 * (C + J1l * n)), show (2 : Nat) ^ (8 * 32) = 2 ^ 256 from rfl, Nat.add_mul_mod_self_left, Nat.mod_eq_of_lt hE]
  · congr 1
    rw [← Z2f 16 (C + J1l * n), show (2 : Nat) ^ (8 * 16) = J1l from rfl, Nat.add_mul_mod_self_left, Nat.mod_eq_of_lt hC]

theorem Z63 (hd : kn.d) (hb : kn.b) (hc : kn.c) (S c0 : Nat) (v : Value) (L : List UInt8) (hL : L.length ≤ 1099511627776) (hv : vpt (kP S) L = some c0) {h : Pr} (hh : h = J1f (kP S) L c0) :
  ∀ w, GA kn w → Sl w v L → Calls Tryd.prog 23 #[.agg (J2 .u8 32 (Q0 S)), v] w fun e w' => Ret (.tuple #[.agg (J2 .u8 80 (Q0 (vPr S h))), .int .i64 0]) w w' e := by
 obtain ⟨U1, hU1⟩ := V3 (kN S)
 have bU1 : U1 < 2 ^ 256 := by rw [hU1]; exact Z2j _
 have HU1 := Lib.hid hU1
 clear hU1
 obtain ⟨U2, hU2⟩ := V3 (kD S)
 have bU2 : U2 < 2 ^ 256 := by rw [hU2]; exact Z2k _
 have HU2 := Lib.hid hU2
 clear hU2
 obtain ⟨U3, hU3⟩ := V3 (kP S)
 have bU3 : U3 < 2 ^ 256 := by rw [hU3]; exact Z2l _
 have HU3 := Lib.hid hU3
 clear hU3
 have hv_ : vpt U3 L = some c0 := by rw [HU3.out]; exact hv
 have hh_ : h = J1f U3 L c0 := by rw [HU3.out]; exact hh
 obtain ⟨hx, hy, hz, ht, hr, hcl⟩ := Q7b (kn := kn) hc hL hv_ hh_
 obtain ⟨x1, y2, z3, t4, r5, c6⟩ := J3l hd hr.rw (N := U1) bU1
 obtain ⟨U4, hU4⟩ := V3 (enc h)
 have bU4 : U4 < 2 ^ 256 := by rw [hU4]; exact J52 _
 have HU4 := Lib.hid hU4
 clear hU4
 obtain ⟨U5, hU5⟩ := V3 (hs ((lb 32 U2) ++ (lb 32 U4)))
 have HU5 := Lib.hid hU5
 clear hU5
 obtain ⟨U6, hU6⟩ := V3 (U5 % LL)
 have lU6 : U6 < LL := by rw [hU6]; exact mLL _
 have bU6 : U6 < 2 ^ 256 := Nat.lt_trans lU6 J2b
 have HU6 := Lib.hid hU6
 clear hU6
 obtain ⟨x7, y8, z9, t10, r11, c12⟩ := Q2e hb
 obtain ⟨x13, y14, z15, t16, r17, c18⟩ := J3l hd r11.rw (N := U6) (Nat.lt_trans lU6 J2b)
 obtain ⟨x19, y20, z21, t22, r23, c24⟩ := J3l hd hr.rw (N := U6) (Nat.lt_trans lU6 J2b)
 obtain ⟨U7, hU7⟩ := V3 (chH U3 h (pm h U1) (pm BP U6) (pm h U6))
 have HU7 := Lib.hid hU7
 clear hU7
 obtain ⟨U8, hU8⟩ := V3 (U7 % J1l)
 have qU8 : U8 < J1l := by rw [hU8]; exact Nat.mod_lt _ (by decide)
 have HU8 := Lib.hid hU8
 clear hU8
 obtain ⟨U9, hU9⟩ := V3 (U8 % LL)
 have lU9 : U9 < LL := by rw [hU9]; exact mLL _
 have bU9 : U9 < 2 ^ 256 := Nat.lt_trans lU9 J2b
 have HU9 := Lib.hid hU9
 clear hU9
 obtain ⟨U10, hU10⟩ := V3 (U1 % LL)
 have lU10 : U10 < LL := by rw [hU10]; exact mLL _
 have bU10 : U10 < 2 ^ 256 := Nat.lt_trans lU10 J2b
 have HU10 := Lib.hid hU10
 clear hU10
 obtain ⟨U11, hU11⟩ := V3 (U9 * U10 % LL)
 have lU11 : U11 < LL := by rw [hU11]; exact mLL _
 have bU11 : U11 < 2 ^ 256 := Nat.lt_trans lU11 J2b
 have HU11 := Lib.hid hU11
 clear hU11
 obtain ⟨U12, hU12⟩ := V3 ((U6 + U11) % LL)
 have lU12 : U12 < LL := by rw [hU12]; exact mLL _
 have bU12 : U12 < 2 ^ 256 := Nat.lt_trans lU12 J2b
 have HU12 := Lib.hid hU12
 clear hU12
 obtain ⟨U13, hU13⟩ := V3 (enc (pm h U1))
 have bU13 : U13 < 2 ^ 256 := by rw [hU13]; exact J52 _
 have HU13 := Lib.hid hU13
 clear hU13
 intro w hG hsl
 have J7 := hsl
 have off0 : Off [] w w := Off.refl _ _
 go_enter Tryd.func23, Tryd.ntmps23
 go_upto_region 0 with fail
 refine wp_region_lit ?_
 refine Ln ?_ (z := J2 .u8 32 (Q0 S)) (t := 22)
 intro K4 W1 V2 hO h_
 replace J7 := Sl.off J7 hO f0
 replace off0 := off0.o hO
 have k_t2 := h_
 clear hO h_ V2
 refine Ln ?_ (z := J2 .u8 80 (Q0 0)) (t := 45)
 intro J5x W2 J0k hO h_
 have J27 := fbn off0 J0k
 replace k_t2 := k_t2.o hO
 replace J7 := Sl.off J7 hO f0
 replace off0 := off0.o hO
 have k_t4 := h_
 clear hO h_ J0k
 refine Lw ?_ (v := .int .i64 0)
 refine J0 ?_
 go_upto_region 1 with fail
 refine wp_region_lit ?_
 refine L0A ?_ k_t2
 refine Lr ?_ (J8w hd hb HU1.out HU2.out HU3.out W2 (J8 hG off0.ext))
 intro W3 hO
 replace k_t2 := k_t2.o hO
 replace k_t4 := k_t4.o hO
 replace J7 := Sl.off J7 hO f0
 replace off0 := off0.o hO
 clear hO
 refine LnP ?_ (z := s3 0 0 0) (t := 25) (cells := s3 U1 U2 U3) (hi := by rw [J13]; kernel_rfl) (hs := by first | rw [J13, J13] | rw [J13] | kernel_rfl) (h1 := by exact Q32)
 intro J55 W5 J0t hO h_
 replace k_t2 := k_t2.o hO
 replace k_t4 := k_t4.o hO
 replace J7 := Sl.off J7 hO f0
 replace off0 := off0.o hO
 have k_t6 := h_
 clear hO h_ J0t
 refine J0 ?_
 go_upto_region 2 with fail
 refine wp_region_lit ?_
 refine Lv ?_
 refine Y9 (vs := (J2 .u8 32 (Q0 U3)).toList) (by rfl) rfl rfl k_t6 (J2m Z9i) (by kernel_rfl) (by kernel_rfl) ?_
 (try simp only [Act.put, mA, mB, mC])
 refine Lv ?_
 refine Lr ?_ (hcl v W5 (J8 hG off0.ext) J7)
 intro W6 hO
 replace k_t2 := k_t2.o hO
 replace k_t4 := k_t4.o hO
 replace k_t6 := k_t6.o hO
 replace J7 := Sl.off J7 hO f0
 replace off0 := off0.o hO
 clear hO
 refine Lv ?_
 refine Lv ?_
 refine Lw ?_ (v := .int .i64 0)
 refine LnP ?_ (z := p4 0 0 0 0) (t := 60) (cells := p4 hx hy hz ht)
 intro J9i W8 V6 hO h_
 replace k_t2 := k_t2.o hO
 replace k_t4 := k_t4.o hO
 replace k_t6 := k_t6.o hO
 replace J7 := Sl.off J7 hO f0
 replace off0 := off0.o hO
 have k_t7 := h_
 clear hO h_ V6
 refine Lw ?_ (v := .int .i64 0)
 refine J0 ?_
 go_upto_region 5 with fail
 refine wp_region_lit ?_
 refine L0 ?_ k_t7
 refine Lv ?_
 refine Y9 (vs := (J2 .u8 32 (Q0 U1)).toList) (by rfl) rfl rfl k_t6 (J2m Z9g) (by kernel_rfl) (by kernel_rfl) ?_
 (try simp only [Act.put, mA, mB, mC])
 refine Lr ?_ (c6 W8 (J8 hG off0.ext).1)
 intro W9 hO
 replace k_t2 := k_t2.o hO
 replace k_t4 := k_t4.o hO
 replace k_t6 := k_t6.o hO
 replace k_t7 := k_t7.o hO
 replace J7 := Sl.off J7 hO f0
 replace off0 := off0.o hO
 clear hO
 refine LnP ?_ (z := p4 0 0 0 0) (t := 60) (cells := p4 x1 y2 z3 t4)
 intro J6x W11 J5t hO h_
 replace k_t2 := k_t2.o hO
 replace k_t4 := k_t4.o hO
 replace k_t6 := k_t6.o hO
 replace k_t7 := k_t7.o hO
 replace J7 := Sl.off J7 hO f0
 replace off0 := off0.o hO
 have k_t9 := h_
 clear hO h_ J5t
 refine J0 ?_
 go_upto_region 6 with fail
 refine wp_region_lit ?_
 refine L0 ?_ k_t7
 refine Lr ?_ (J6u hr.rw HU4.out W11 (J8 hG off0.ext).1)
 intro W12 hO
 replace k_t2 := k_t2.o hO
 replace k_t4 := k_t4.o hO
 replace k_t6 := k_t6.o hO
 replace k_t7 := k_t7.o hO
 replace k_t9 := k_t9.o hO
 replace J7 := Sl.off J7 hO f0
 replace off0 := off0.o hO
 clear hO
 refine LnA ?_ (z := J2 .u8 32 (Q0 0)) (t := 22) (k := .u8) (n := 32) (f := Q0 U4)
 intro J56 W14 J0w hO h_
 replace k_t2 := k_t2.o hO
 replace k_t4 := k_t4.o hO
 replace k_t6 := k_t6.o hO
 replace k_t7 := k_t7.o hO
 replace k_t9 := k_t9.o hO
 replace J7 := Sl.off J7 hO f0
 replace off0 := off0.o hO
 have k_t10 := h_
 clear hO h_ J0w
 refine J0 ?_
 go_upto_region 7 with fail
 refine Q13 (.q 0 (.q 1 (.q 2 (.b 3 (.b 4 (.e 5 (.e 6 .z)) 5 (.e 4 (.e 6 .z))) 5 (.e 3 (.e 4 (.e 6 .z))))))) (fun W => True) (fun a0 a_ wr => ∃ (j_s38 : Nat) (j_t11 : Nat), a_ = Z1a a0 [(35, .pointer (some ⟨J55, 32, none⟩)), (36, .slice (some ⟨J55, 32, none⟩) 32 32), (37, .slice (some ⟨J56, 0, none⟩) 32 32), (38, .slice (some ⟨j_s38, 0, none⟩) 2 2), (39, .agg (J2 .u8 64 (Q0 U5))), (11, .pointer (some ⟨j_t11, 0, none⟩))] ∧ Off [] w wr ∧ Blk wr K4 (J2 .u8 32 (Q0 S)) 22 ∧ Blk wr J5x (J2 .u8 80 (Q0 0)) 45 ∧ Blk wr J55 (s3 U1 U2 U3) 25 ∧ Blk wr J9i (p4 hx hy hz ht) 60 ∧ Blk wr J6x (p4 x1 y2 z3 t4) 60 ∧ Blk wr J56 (J2 .u8 32 (Q0 U4)) 22 ∧ Blk wr j_s38 #[.slice (some ⟨J55, 32, none⟩) 32 32, .slice (some ⟨J56, 0, none⟩) 32 32] 23 ∧ Blk wr j_t11 (J2 .u8 64 (Q0 U5)) 30 ∧ Sl wr v L ∧ Fb j_s38 w.heap.size [] ∧ K4 ≠ j_s38 ∧ J5x ≠ j_s38 ∧ J55 ≠ j_s38 ∧ J9i ≠ j_s38 ∧ J6x ≠ j_s38 ∧ J56 ≠ j_s38 ∧ (sb v L) ≠ some j_s38 ∧ Fb j_t11 w.heap.size [] ∧ K4 ≠ j_t11 ∧ J5x ≠ j_t11 ∧ J55 ≠ j_t11 ∧ J9i ≠ j_t11 ∧ J6x ≠ j_t11 ∧ J56 ≠ j_t11 ∧ j_s38 ≠ j_t11 ∧ (sb v L) ≠ some j_t11) (by kernel_rfl) (by kernel_rfl) ?_ ?_
 ·
  have _f := True.intro
  intro W15 hO
  replace k_t2 := k_t2.o hO
  replace k_t4 := k_t4.o hO
  replace k_t6 := k_t6.o hO
  replace k_t7 := k_t7.o hO
  replace k_t9 := k_t9.o hO
  replace k_t10 := k_t10.o hO
  replace J7 := Sl.off J7 hO f0
  replace off0 := off0.o hO
  clear hO
  refine ⟨trivial, ?_⟩
  (refine J0h (v := ?_) rfl (by rfl) (fun W hS => ?_) ?_; rotate_left 1; (focus (go_simp; first | done | with_reducible rfl)))
  (try simp only [Act.put, mA, mB, mC])
  refine J0h (v := .slice (some ⟨J55, 32, none⟩) 32 32) rfl (by rfl) (fun W hS => by first | rfl | (go_simp; done) | (go_simp; with_reducible rfl)) ?_
  (try simp only [Act.put, mA, mB, mC])
  refine J0h (v := .slice (some ⟨J56, 0, none⟩) 32 32) rfl (by rfl) (fun W hS => by first | rfl | (go_simp; done) | (go_simp; with_reducible rfl)) ?_
  (try simp only [Act.put, mA, mB, mC])
  refine Z73 rfl rfl ?_ ?_
  ·
   have _f := True.intro
   refine LnS ?_ (z := #[.slice (some ⟨J55, 32, none⟩) 32 32, .slice (some ⟨J56, 0, none⟩) 32 32]) (t := 23) (n := 2) (c := 2) (hr := by exact J23 [.slice (some ⟨J55, 32, none⟩) 32 32, .slice (some ⟨J56, 0, none⟩) 32 32] rfl rfl (vsc (rfl) (vsc (rfl) vs0)) Tryd.underlying112 (by kernel_rfl) (by kernel_rfl) rfl (by decide) (by decide))
   intro Q34 W16 J2r hO h_
   have J5j := bn k_t2 J2r
   have J5k := bn k_t4 J2r
   have J5l := bn k_t6 J2r
   have J5m := bn k_t7 J2r
   have J5n := bn k_t9 J2r
   have J4h := bn k_t10 J2r
   have J6y := J01 (Sl.lt J7) J2r
   have Q0s := fbn off0 J2r
   replace k_t2 := k_t2.o hO
   replace k_t4 := k_t4.o hO
   replace k_t6 := k_t6.o hO
   replace k_t7 := k_t7.o hO
   replace k_t9 := k_t9.o hO
   replace k_t10 := k_t10.o hO
   replace J7 := Sl.off J7 hO f0
   replace off0 := off0.o hO
   have k_s38 := h_
   clear hO h_ J2r
   refine J1e (fun W => True) (fun W hS => trivial) trivial ?_
   refine Z73 rfl rfl ?_ ?_
   ·
    have _f := True.intro
    refine Lr ?_ (J5z HU5.out [lb 32 U2, lb 32 U4] (some ⟨Q34, 0, none⟩) 2 (by simp only [List.flatten_cons, List.flatten_nil, List.append_nil, List.nil_append, List.append_assoc, List.cons_append]) (by first | omega | (simp only [List.length_append, List.length_cons, List.length_nil, Z7]; omega)) (by simp) W16 (J4u k_s38 (pvc (J08 (V := U2) (n := 32) (off := 32) k_t6 Z9h (by decide) (by decide)) (pvc (J08 (V := U4) (n := 32) (off := 0) k_t10 ap0 (by decide) (by decide)) pv0))) (J8 hG off0.ext).2.1)
    intro W17 hO
    replace k_t2 := k_t2.o hO
    replace k_t4 := k_t4.o hO
    replace k_t6 := k_t6.o hO
    replace k_t7 := k_t7.o hO
    replace k_t9 := k_t9.o hO
    replace k_t10 := k_t10.o hO
    replace k_s38 := k_s38.o hO
    replace J7 := Sl.off J7 hO f0
    replace off0 := off0.o hO
    clear hO
    refine J1e (fun W => True) (fun W hS => trivial) trivial ?_
    refine J1v rfl ?_
    refine Ln ?_ (z := J2 .u8 64 (Q0 0)) (t := 30)
    intro Z2y W18 Y6 hO h_
    have J25 := bn k_t2 Y6
    have J1n := bn k_t4 Y6
    have K9 := bn k_t6 Y6
    have J26 := bn k_t7 Y6
    have nq_t9_t11 := bn k_t9 Y6
    have nq_t10_t11 := bn k_t10 Y6
    have J3e := bn k_s38 Y6
    have J1r := J01 (Sl.lt J7) Y6
    have J1h := fbn off0 Y6
    replace k_t2 := k_t2.o hO
    replace k_t4 := k_t4.o hO
    replace k_t6 := k_t6.o hO
    replace k_t7 := k_t7.o hO
    replace k_t9 := k_t9.o hO
    replace k_t10 := k_t10.o hO
    replace k_s38 := k_s38.o hO
    replace J7 := Sl.off J7 hO f0
    replace off0 := off0.o hO
    have k_t11 := h_
    clear hO h_ Y6
    refine J1e (fun W => True) (fun W hS => trivial) trivial ?_
    refine J1v rfl ?_
    refine LpA ?_ k_t11 (k := .u8) (n := 64) (f := Q0 U5)
    intro W19 hO h_
    replace k_t11 : Blk W19 Z2y (J2 .u8 64 (Q0 U5)) 30 := h_
    clear h_
    replace k_t2 := k_t2.p hO J25
    replace k_t4 := k_t4.p hO J1n
    replace k_t6 := k_t6.p hO K9
    replace k_t7 := k_t7.p hO J26
    replace k_t9 := k_t9.p hO nq_t9_t11
    replace k_t10 := k_t10.p hO nq_t10_t11
    replace k_s38 := k_s38.p hO J3e
    replace J7 := Sl.off J7 hO (f1 J1r)
    replace off0 := off0.p hO J1h
    clear hO
    refine J1e (fun W => True) (fun W hS => trivial) trivial ?_
    refine J9b ?_
    exact ⟨Q34, Z2y, (by (simp only [Z1a, List.foldl_cons, List.foldl_nil, Act.put, mA, mB, mC] <;> rfl)), off0, k_t2, k_t4, k_t6, k_t7, k_t9, k_t10, k_s38, k_t11, J7, Q0s, J5j, J5k, J5l, J5m, J5n, J4h, J6y, J1h, J25, J1n, K9, J26, nq_t9_t11, nq_t10_t11, J3e, J1r⟩
   ·
    have _f := True.intro
    refine Ln ?_ (z := J2 .u8 64 (Q0 0)) (t := 30)
    intro Z2z W17 Y6 hO h_
    have J25 := bn k_t2 Y6
    have J1n := bn k_t4 Y6
    have K9 := bn k_t6 Y6
    have J26 := bn k_t7 Y6
    have nq_t9_t11 := bn k_t9 Y6
    have nq_t10_t11 := bn k_t10 Y6
    have J3e := bn k_s38 Y6
    have J1r := J01 (Sl.lt J7) Y6
    have J1h := fbn off0 Y6
    replace k_t2 := k_t2.o hO
    replace k_t4 := k_t4.o hO
    replace k_t6 := k_t6.o hO
    replace k_t7 := k_t7.o hO
    replace k_t9 := k_t9.o hO
    replace k_t10 := k_t10.o hO
    replace k_s38 := k_s38.o hO
    replace J7 := Sl.off J7 hO f0
    replace off0 := off0.o hO
    have k_t11 := h_
    clear hO h_ Y6
    refine J1e (fun W => True) (fun W hS => trivial) trivial ?_
    refine J1v rfl ?_
    refine Lr ?_ (J5z HU5.out [lb 32 U2, lb 32 U4] (some ⟨Q34, 0, none⟩) 2 (by simp only [List.flatten_cons, List.flatten_nil, List.append_nil, List.nil_append, List.append_assoc, List.cons_append]) (by first | omega | (simp only [List.length_append, List.length_cons, List.length_nil, Z7]; omega)) (by simp) W17 (J4u k_s38 (pvc (J08 (V := U2) (n := 32) (off := 32) k_t6 Z9h (by decide) (by decide)) (pvc (J08 (V := U4) (n := 32) (off := 0) k_t10 ap0 (by decide) (by decide)) pv0))) (J8 hG off0.ext).2.1)
    intro W18 hO
    replace k_t2 := k_t2.o hO
    replace k_t4 := k_t4.o hO
    replace k_t6 := k_t6.o hO
    replace k_t7 := k_t7.o hO
    replace k_t9 := k_t9.o hO
    replace k_t10 := k_t10.o hO
    replace k_s38 := k_s38.o hO
    replace k_t11 := k_t11.o hO
    replace J7 := Sl.off J7 hO f0
    replace off0 := off0.o hO
    clear hO
    refine J1e (fun W => True) (fun W hS => trivial) trivial ?_
    refine J1v rfl ?_
    refine LpA ?_ k_t11 (k := .u8) (n := 64) (f := Q0 U5)
    intro W19 hO h_
    replace k_t11 : Blk W19 Z2z (J2 .u8 64 (Q0 U5)) 30 := h_
    clear h_
    replace k_t2 := k_t2.p hO J25
    replace k_t4 := k_t4.p hO J1n
    replace k_t6 := k_t6.p hO K9
    replace k_t7 := k_t7.p hO J26
    replace k_t9 := k_t9.p hO nq_t9_t11
    replace k_t10 := k_t10.p hO nq_t10_t11
    replace k_s38 := k_s38.p hO J3e
    replace J7 := Sl.off J7 hO (f1 J1r)
    replace off0 := off0.p hO J1h
    clear hO
    refine J1e (fun W => True) (fun W hS => trivial) trivial ?_
    refine J9b ?_
    exact ⟨Q34, Z2z, (by (simp only [Z1a, List.foldl_cons, List.foldl_nil, Act.put, mA, mB, mC] <;> rfl)), off0, k_t2, k_t4, k_t6, k_t7, k_t9, k_t10, k_s38, k_t11, J7, Q0s, J5j, J5k, J5l, J5m, J5n, J4h, J6y, J1h, J25, J1n, K9, J26, nq_t9_t11, nq_t10_t11, J3e, J1r⟩
  ·
   have _f := True.intro
   refine Ln ?_ (z := J2 .u8 64 (Q0 0)) (t := 30)
   intro Z30 W16 Y6 hO h_
   have J25 := bn k_t2 Y6
   have J1n := bn k_t4 Y6
   have K9 := bn k_t6 Y6
   have J26 := bn k_t7 Y6
   have nq_t9_t11 := bn k_t9 Y6
   have nq_t10_t11 := bn k_t10 Y6
   have J1r := J01 (Sl.lt J7) Y6
   have J1h := fbn off0 Y6
   replace k_t2 := k_t2.o hO
   replace k_t4 := k_t4.o hO
   replace k_t6 := k_t6.o hO
   replace k_t7 := k_t7.o hO
   replace k_t9 := k_t9.o hO
   replace k_t10 := k_t10.o hO
   replace J7 := Sl.off J7 hO f0
   replace off0 := off0.o hO
   have k_t11 := h_
   clear hO h_ Y6
   refine J1e (fun W => True) (fun W hS => trivial) trivial ?_
   refine J1v rfl ?_
   refine LnS ?_ (z := #[.slice (some ⟨J55, 32, none⟩) 32 32, .slice (some ⟨J56, 0, none⟩) 32 32]) (t := 23) (n := 2) (c := 2) (hr := by exact J23 [.slice (some ⟨J55, 32, none⟩) 32 32, .slice (some ⟨J56, 0, none⟩) 32 32] rfl rfl (vsc (rfl) (vsc (rfl) vs0)) Tryd.underlying112 (by kernel_rfl) (by kernel_rfl) rfl (by decide) (by decide))
   intro Z31 W17 J2r hO h_
   have J5j := bn k_t2 J2r
   have J5k := bn k_t4 J2r
   have J5l := bn k_t6 J2r
   have J5m := bn k_t7 J2r
   have J5n := bn k_t9 J2r
   have J4h := bn k_t10 J2r
   have nq_t11_s38 := bn k_t11 J2r
   have J6y := J01 (Sl.lt J7) J2r
   have Q0s := fbn off0 J2r
   replace k_t2 := k_t2.o hO
   replace k_t4 := k_t4.o hO
   replace k_t6 := k_t6.o hO
   replace k_t7 := k_t7.o hO
   replace k_t9 := k_t9.o hO
   replace k_t10 := k_t10.o hO
   replace k_t11 := k_t11.o hO
   replace J7 := Sl.off J7 hO f0
   replace off0 := off0.o hO
   have k_s38 := h_
   clear hO h_ J2r
   refine J1e (fun W => True) (fun W hS => trivial) trivial ?_
   refine J1v rfl ?_
   refine Lr ?_ (J5z HU5.out [lb 32 U2, lb 32 U4] (some ⟨Z31, 0, none⟩) 2 (by simp only [List.flatten_cons, List.flatten_nil, List.append_nil, List.nil_append, List.append_assoc, List.cons_append]) (by first | omega | (simp only [List.length_append, List.length_cons, List.length_nil, Z7]; omega)) (by simp) W17 (J4u k_s38 (pvc (J08 (V := U2) (n := 32) (off := 32) k_t6 Z9h (by decide) (by decide)) (pvc (J08 (V := U4) (n := 32) (off := 0) k_t10 ap0 (by decide) (by decide)) pv0))) (J8 hG off0.ext).2.1)
   intro W18 hO
   replace k_t2 := k_t2.o hO
   replace k_t4 := k_t4.o hO
   replace k_t6 := k_t6.o hO
   replace k_t7 := k_t7.o hO
   replace k_t9 := k_t9.o hO
   replace k_t10 := k_t10.o hO
   replace k_t11 := k_t11.o hO
   replace k_s38 := k_s38.o hO
   replace J7 := Sl.off J7 hO f0
   replace off0 := off0.o hO
   clear hO
   refine J1e (fun W => True) (fun W hS => trivial) trivial ?_
   refine J1v rfl ?_
   refine LpA ?_ k_t11 (k := .u8) (n := 64) (f := Q0 U5)
   intro W19 hO h_
   replace k_t11 : Blk W19 Z30 (J2 .u8 64 (Q0 U5)) 30 := h_
   clear h_
   replace k_t2 := k_t2.p hO J25
   replace k_t4 := k_t4.p hO J1n
   replace k_t6 := k_t6.p hO K9
   replace k_t7 := k_t7.p hO J26
   replace k_t9 := k_t9.p hO nq_t9_t11
   replace k_t10 := k_t10.p hO nq_t10_t11
   replace k_s38 := k_s38.p hO nq_t11_s38.symm
   replace J7 := Sl.off J7 hO (f1 J1r)
   replace off0 := off0.p hO J1h
   clear hO
   refine J1e (fun W => True) (fun W hS => trivial) trivial ?_
   refine J9b ?_
   exact ⟨Z31, Z30, (by (simp only [Z1a, List.foldl_cons, List.foldl_nil, Act.put, mA, mB, mC] <;> rfl)), off0, k_t2, k_t4, k_t6, k_t7, k_t9, k_t10, k_s38, k_t11, J7, Q0s, J5j, J5k, J5l, J5m, J5n, J4h, J6y, J1h, J25, J1n, K9, J26, nq_t9_t11, nq_t10_t11, nq_t11_s38.symm, J1r⟩
 rintro _ W20 ⟨j_s38, j_t11, rfl, off0, k_t2, k_t4, k_t6, k_t7, k_t9, k_t10, k_s38, k_t11, J7, Q0s, J5j, J5k, J5l, J5m, J5n, J4h, J6y, J1h, J25, J1n, K9, J26, nq_t9_t11, nq_t10_t11, J3e, J1r⟩
 simp only [Z1a, List.foldl_cons, List.foldl_nil]
 (try simp only [Act.put, mA, mB, mC])
 go_upto_region 8 with fail
 refine wp_region_lit ?_
 refine Lw ?_ (v := .slice (some ⟨j_t11, 0, none⟩) 64 64) (hv := by first | rfl | (go_simp; done) | (go_simp; with_reducible rfl))
 refine Lr ?_ (Z1z HU6.out (n := 64) (off := 0) k_t11 ap0 (by decide) (by rw [HU5.out]; exact Z2i _) (J8 hG off0.ext).2.2.1)
 intro W21 hO
 replace k_t4 := k_t4.o hO
 replace k_t6 := k_t6.o hO
 replace k_t7 := k_t7.o hO
 replace k_t9 := k_t9.o hO
 replace off0 := off0.o hO
 clear hO
 refine LnP ?_ (z := c4 0) (t := 42) (cells := c4 U6)
 intro J6z W23 J6l hO h_
 replace k_t4 := k_t4.o hO
 replace k_t6 := k_t6.o hO
 replace k_t7 := k_t7.o hO
 replace k_t9 := k_t9.o hO
 replace off0 := off0.o hO
 have k_t12 := h_
 clear hO h_ J6l
 refine J0 ?_
 go_upto_region 9 with fail
 refine J22 (.q 0 (.q 1 (.q 2 (.q 3 (.q 5 (.q 8 (.q 9 (.e 4 (.e 6 (.e 7 (.e 10 (.e 11 (.e 12 (.e 13 (.q 14 .z))))))))))))))) (fun W => (Blk W J55 (s3 U1 U2 U3) 25) ∧ (Blk W J9i (p4 hx hy hz ht) 60) ∧ (Blk W J6x (p4 x1 y2 z3 t4) 60) ∧ (Blk W J6z (c4 U6) 42)) (by kernel_rfl) (by kernel_rfl) ?_
 intro W24 hO
 replace k_t4 := k_t4.o hO
 replace k_t6 := k_t6.o hO
 replace k_t7 := k_t7.o hO
 replace k_t9 := k_t9.o hO
 replace k_t12 := k_t12.o hO
 replace off0 := off0.o hO
 clear hO
 refine ⟨⟨k_t6, k_t7, k_t9, k_t12⟩, ?_⟩
 (refine J0h (v := ?_) rfl (by rfl) (fun W hS => ?_) ?_; rotate_left 1; (focus (go_simp; first | done | with_reducible rfl)))
 (try simp only [Act.put, mA, mB, mC])
 refine J0h (v := .agg (J2 .u8 32 (Q0 U3))) rfl (by rfl) (fun W hS => by exact (J8t (vs := (J2 .u8 32 (Q0 U3)).toList) rfl rfl (fun i v hv => by rw [Q3 (hS.1)]; exact Z9i i v (by simpa using hv)) (by kernel_rfl) (by kernel_rfl))) ?_
 (try simp only [Act.put, mA, mB, mC])
 refine J0h (v := .agg (p4 hx hy hz ht)) rfl (by rfl) (fun W hS => by exact (J0u rfl rfl (hS.2.1) (by kernel_rfl) (by kernel_rfl))) ?_
 (try simp only [Act.put, mA, mB, mC])
 refine J0h (v := .agg (p4 x1 y2 z3 t4)) rfl (by rfl) (fun W hS => by exact (J0u rfl rfl (hS.2.2.1) (by kernel_rfl) (by kernel_rfl))) ?_
 (try simp only [Act.put, mA, mB, mC])
 refine J0h (v := .agg (c4 U6)) rfl (by rfl) (fun W hS => by exact (J0u rfl rfl (hS.2.2.2) (by kernel_rfl) (by kernel_rfl))) ?_
 (try simp only [Act.put, mA, mB, mC])
 refine J0h (v := .agg (p4 hx hy hz ht)) rfl (by rfl) (fun W hS => by exact (J0u rfl rfl (hS.2.1) (by kernel_rfl) (by kernel_rfl))) ?_
 (try simp only [Act.put, mA, mB, mC])
 refine J0h (v := .agg (c4 U6)) rfl (by rfl) (fun W hS => by exact (J0u rfl rfl (hS.2.2.2) (by kernel_rfl) (by kernel_rfl))) ?_
 (try simp only [Act.put, mA, mB, mC])
 refine J1v rfl ?_
 refine Lr ?_ (c12 W24 (J8 hG off0.ext).1)
 intro W25 hO
 replace k_t4 := k_t4.o hO
 replace k_t6 := k_t6.o hO
 replace k_t7 := k_t7.o hO
 replace k_t9 := k_t9.o hO
 replace k_t12 := k_t12.o hO
 replace off0 := off0.o hO
 clear hO
 refine J1e (fun W => (Blk W J55 (s3 U1 U2 U3) 25) ∧ (Blk W J9i (p4 hx hy hz ht) 60) ∧ (Blk W J6x (p4 x1 y2 z3 t4) 60) ∧ (Blk W J6z (c4 U6) 42)) (fun W hS => ⟨hS.1, hS.2.1, hS.2.2.1, hS.2.2.2⟩) ⟨k_t6, k_t7, k_t9, k_t12⟩ ?_
 refine J1v rfl ?_
 refine Lr ?_ (J8a lU6 W25 (J8 hG off0.ext).2.2.1)
 intro W26 hO
 replace k_t4 := k_t4.o hO
 replace k_t6 := k_t6.o hO
 replace k_t7 := k_t7.o hO
 replace k_t9 := k_t9.o hO
 replace k_t12 := k_t12.o hO
 replace off0 := off0.o hO
 clear hO
 refine J1e (fun W => (Blk W J55 (s3 U1 U2 U3) 25) ∧ (Blk W J9i (p4 hx hy hz ht) 60) ∧ (Blk W J6x (p4 x1 y2 z3 t4) 60) ∧ (Blk W J6z (c4 U6) 42)) (fun W hS => ⟨hS.1, hS.2.1, hS.2.2.1, hS.2.2.2⟩) ⟨k_t6, k_t7, k_t9, k_t12⟩ ?_
 refine J1v rfl ?_
 refine Lr ?_ (c18 W26 (J8 hG off0.ext).1)
 intro W27 hO
 replace k_t4 := k_t4.o hO
 replace k_t6 := k_t6.o hO
 replace k_t7 := k_t7.o hO
 replace k_t9 := k_t9.o hO
 replace k_t12 := k_t12.o hO
 replace off0 := off0.o hO
 clear hO
 refine J1e (fun W => (Blk W J55 (s3 U1 U2 U3) 25) ∧ (Blk W J9i (p4 hx hy hz ht) 60) ∧ (Blk W J6x (p4 x1 y2 z3 t4) 60) ∧ (Blk W J6z (c4 U6) 42)) (fun W hS => ⟨hS.1, hS.2.1, hS.2.2.1, hS.2.2.2⟩) ⟨k_t6, k_t7, k_t9, k_t12⟩ ?_
 refine J1v rfl ?_
 refine Lr ?_ (J8a lU6 W27 (J8 hG off0.ext).2.2.1)
 intro W28 hO
 replace k_t4 := k_t4.o hO
 replace k_t6 := k_t6.o hO
 replace k_t7 := k_t7.o hO
 replace k_t9 := k_t9.o hO
 replace k_t12 := k_t12.o hO
 replace off0 := off0.o hO
 clear hO
 refine J1e (fun W => (Blk W J55 (s3 U1 U2 U3) 25) ∧ (Blk W J9i (p4 hx hy hz ht) 60) ∧ (Blk W J6x (p4 x1 y2 z3 t4) 60) ∧ (Blk W J6z (c4 U6) 42)) (fun W hS => ⟨hS.1, hS.2.1, hS.2.2.1, hS.2.2.2⟩) ⟨k_t6, k_t7, k_t9, k_t12⟩ ?_
 refine J1v rfl ?_
 refine Lr ?_ (c24 W28 (J8 hG off0.ext).1)
 intro W29 hO
 replace k_t4 := k_t4.o hO
 replace k_t6 := k_t6.o hO
 replace k_t7 := k_t7.o hO
 replace k_t9 := k_t9.o hO
 replace k_t12 := k_t12.o hO
 replace off0 := off0.o hO
 clear hO
 refine J1e (fun W => (Blk W J55 (s3 U1 U2 U3) 25) ∧ (Blk W J9i (p4 hx hy hz ht) 60) ∧ (Blk W J6x (p4 x1 y2 z3 t4) 60) ∧ (Blk W J6z (c4 U6) 42)) (fun W hS => ⟨hS.1, hS.2.1, hS.2.2.1, hS.2.2.2⟩) ⟨k_t6, k_t7, k_t9, k_t12⟩ ?_
 refine J1v rfl ?_
 refine LnS ?_ (z := (p4 hx hy hz ht) ++ (p4 x1 y2 z3 t4) ++ (p4 x13 y14 z15 t16) ++ (p4 x19 y20 z21 t22)) (t := 60) (n := 4) (c := 4)
 intro Y0h W30 Y3c hO h_
 replace k_t4 := k_t4.o hO
 replace k_t6 := k_t6.o hO
 replace k_t7 := k_t7.o hO
 replace k_t9 := k_t9.o hO
 replace k_t12 := k_t12.o hO
 replace off0 := off0.o hO
 have Y3d := h_
 clear hO h_ Y3c
 refine J1e (fun W => (Blk W J55 (s3 U1 U2 U3) 25) ∧ (Blk W J9i (p4 hx hy hz ht) 60) ∧ (Blk W J6x (p4 x1 y2 z3 t4) 60) ∧ (Blk W J6z (c4 U6) 42)) (fun W hS => ⟨hS.1, hS.2.1, hS.2.2.1, hS.2.2.2⟩) ⟨k_t6, k_t7, k_t9, k_t12⟩ ?_
 refine J1v rfl ?_
 refine Q0g (R := fun v W => ∃ p, v = .slice (some ⟨p, 0, none⟩) 16 64 ∧ W30.heap.size ≤ p ∧ Off [] W30 W ∧ Blk W p (J2 .u8 64 (Q0 U7)) 30) ((Q5b (kn := kn) hr r5 r17 r23 HU7.out Y0h W30 (J8 hG off0.ext) Y3d).mono fun e W h => by obtain ⟨p, h1, h2⟩ := h; exact ⟨_, h1, p, rfl, h2⟩) (by rfl) rfl (by kernel_rfl) rfl ?_
 (try simp only [Act.put, mA, mB, mC])
 rintro _ W31 ⟨pm31, rfl, n_mk, hO, h_⟩
 (try simp only [Act.put, mA, mB, mC])
 replace k_t4 := k_t4.o hO
 replace k_t6 := k_t6.o hO
 replace k_t7 := k_t7.o hO
 replace k_t9 := k_t9.o hO
 replace k_t12 := k_t12.o hO
 replace off0 := off0.o hO
 have k_mk := h_
 clear hO h_ n_mk
 refine J1e (fun W => (Blk W J55 (s3 U1 U2 U3) 25) ∧ (Blk W J9i (p4 hx hy hz ht) 60) ∧ (Blk W J6x (p4 x1 y2 z3 t4) 60) ∧ (Blk W J6z (c4 U6) 42)) (fun W hS => ⟨hS.1, hS.2.1, hS.2.2.1, hS.2.2.2⟩) ⟨k_t6, k_t7, k_t9, k_t12⟩ ?_
 (refine J0h (v := ?_) rfl (by rfl) (fun W hS => ?_) ?_; rotate_left 1; (focus (go_simp; first | done | with_reducible rfl)))
 (try simp only [Act.put, mA, mB, mC])
 refine J9b ?_
 go_upto_region 10 with fail
 refine Rx1 9 14 (z := J2 .u8 32 (Q0 0)) (t := 22) ?_
 refine Xl ?_ k_t12
 refine Xv ?_
 refine Xf ?_ (fun W hW => Z1z HU9.out (n := 16) (off := 0) (J1 k_mk hW) (h16 HU8.out) (by decide) qU8 (J8 (J8 hG off0.ext) hW).2.2.1)
 refine Xv ?_
 refine Xw ?_ (v := .slice (some ⟨J55, 0, none⟩) 32 32)
 refine Xf ?_ (fun W hW => Z1z HU10.out (n := 32) (off := 0) (J1 k_t6 hW) Z9g (by decide) bU1 (J8 (J8 hG off0.ext) hW).2.2.1)
 refine Xf ?_ (fun W hW => Z9l HU11.out (Nat.lt_trans lU9 J2b) (Nat.lt_trans lU10 J2b) W (J8 (J8 hG off0.ext) hW).2.2.1)
 refine Xf ?_ (fun W hW => Z9m HU12.out (Nat.lt_trans lU6 J2b) (Nat.lt_trans lU11 J2b) W (J8 (J8 hG off0.ext) hW).2.2.1)
 refine Xf ?_ (fun W hW => J8a lU12 W (J8 (J8 hG off0.ext) hW).2.2.1)
 refine XN ?_
 intro Q35 W32 J4i hE h_t14
 have hO := Y0 hE
 have Q8s := bn k_t4 J4i
 have Q8t := bn k_t9 J4i
 have Q8u := bn k_mk J4i
 have Q5h := fbn off0 J4i
 replace k_t4 := k_t4.o hO
 replace k_t9 := k_t9.o hO
 replace k_mk := k_mk.o hO
 replace off0 := off0.o hO
 clear hO hE J4i
 have k_t14 : Blk W32 Q35 (J2 .u8 32 (Q0 0)) 22 := h_t14
 clear h_t14
 refine LpA ?_ k_t14 (k := .u8) (n := 32) (f := Q0 U12)
 intro W33 hO h_
 replace k_t14 : Blk W33 Q35 (J2 .u8 32 (Q0 U12)) 22 := h_
 clear h_
 replace k_t4 := k_t4.p hO Q8s
 replace k_t9 := k_t9.p hO Q8t
 replace k_mk := k_mk.p hO Q8u
 replace off0 := off0.p hO Q5h
 clear hO
 refine LN ?_
 go_upto_region 11 with fail
 refine wp_region_lit ?_
 refine L0 ?_ k_t9
 refine Lr ?_ (J6u r5.rw HU13.out W33 (J8 hG off0.ext).1)
 intro W34 hO
 replace k_t4 := k_t4.o hO
 replace k_mk := k_mk.o hO
 replace k_t14 := k_t14.o hO
 replace off0 := off0.o hO
 clear hO
 refine LnA ?_ (z := J2 .u8 32 (Q0 0)) (t := 22) (k := .u8) (n := 32) (f := Q0 U13)
 intro Y0i W36 J70 hO h_
 replace k_t4 := k_t4.o hO
 replace k_mk := k_mk.o hO
 replace k_t14 := k_t14.o hO
 replace off0 := off0.o hO
 have k_t15 := h_
 clear hO h_ J70
 refine J0 ?_
 go_upto_region 12 with fail
 refine J22 (.q 1 (.q 3 (.q 5 (.e 0 (.e 2 (.e 4 (.e 6 (.q 7 (.q 8 (.e 9 (.q 10 .z))))))))))) (fun W => True) (by kernel_rfl) (by kernel_rfl) ?_
 intro W37 hO
 replace k_t4 := k_t4.o hO
 replace k_mk := k_mk.o hO
 replace k_t14 := k_t14.o hO
 replace k_t15 := k_t15.o hO
 replace off0 := off0.o hO
 clear hO
 refine ⟨trivial, ?_⟩
 refine J0h (v := .slice (some ⟨Y0i, 0, none⟩) 32 32) rfl (by rfl) (fun W hS => by first | rfl | (go_simp; done) | (go_simp; with_reducible rfl)) ?_
 (try simp only [Act.put, mA, mB, mC])
 (refine J0h (v := ?_) rfl (by rfl) (fun W hS => ?_) ?_; rotate_left 1; (focus (go_simp; first | done | with_reducible rfl)))
 (try simp only [Act.put, mA, mB, mC])
 refine J0h (v := .slice (some ⟨Q35, 0, none⟩) 32 32) rfl (by rfl) (fun W hS => by first | rfl | (go_simp; done) | (go_simp; with_reducible rfl)) ?_
 (try simp only [Act.put, mA, mB, mC])
 refine J1v rfl ?_
 refine LnS ?_ (z := #[]) (t := 5) (n := 0) (c := 0)
 intro Q0t W38 Q47 hO h_
 have Q1v : Value.ownBlock (.slice (some ⟨Q0t, 0, none⟩) 0 0) ≠ some J5x := obn k_t4 Q47
 have Q8v : Value.ownBlock (.slice (some ⟨Q0t, 0, none⟩) 0 0) ≠ some pm31 := obn k_mk Q47
 have Q0u : Value.ownBlock (.slice (some ⟨Q0t, 0, none⟩) 0 0) ≠ some Q35 := obn k_t14 Q47
 have Z32 : Fr (Value.ownBlock (.slice (some ⟨Q0t, 0, none⟩) 0 0)) w.heap.size [] := frn off0 Q47
 replace k_t4 := k_t4.o hO
 replace k_mk := k_mk.o hO
 replace k_t14 := k_t14.o hO
 replace k_t15 := k_t15.o hO
 replace off0 := off0.o hO
 have Y0j : Own W38 (.slice (some ⟨Q0t, 0, none⟩) 0 0) [] := J07 h_ (by rfl) (by show 0 ≤ maxLen; decide)
 clear hO h_ Q47
 refine J1e (fun W => True) (fun W hS => trivial) trivial ?_
 refine J1v rfl ?_
 refine J0f (xs := []) (ys := (lb 32 U13)) (by rfl) rfl rfl rfl Y0j (J08 (V := U13) (n := 32) (off := 0) k_t15 ap0 (by decide) (by decide)) (by first | omega | (simp only [List.length_append, List.length_cons, List.length_nil, Z7]; omega)) ?_
 (try simp only [Act.put, mA, mB, mC])
 intro Y52 W39 Y0k hO Q36 nil_a69
 clear nil_a69
 have Q1w := J0y Q36 Q1v (J5 k_t4)
 have Q5i := J0y Q36 Q0u (J5 k_t14)
 have Z33 := J1x Q36 Z32 off0.size
 replace k_t4 := V1 k_t4 hO (nmo Q1v)
 replace k_mk := V1 k_mk hO (nmo Q8v)
 replace k_t14 := V1 k_t14 hO (nmo Q0u)
 replace off0 := off0.step hO (io Z32)
 clear hO Q36
 refine J1e (fun W => True) (fun W hS => trivial) trivial ?_
 refine J1v rfl ?_
 refine J0f (xs := ([] ++ (lb 32 U13))) (ys := (lb 16 U8)) (by rfl) rfl rfl rfl Y0k (J08 (V := U8) (n := 16) (off := 0) k_mk (h16 HU8.out) (by decide) (by decide)) (by first | omega | (simp only [List.length_append, List.length_cons, List.length_nil, Z7]; omega)) ?_
 (try simp only [Act.put, mA, mB, mC])
 intro Y53 W40 Y0l hO Q5j nil_a71
 clear nil_a71
 have Q1x := J0y Q5j Q1w (J5 k_t4)
 have Y0m := J1x Q5j Z33 off0.size
 replace k_t4 := V1 k_t4 hO (nmo Q1w)
 replace k_t14 := V1 k_t14 hO (nmo Q5i)
 replace off0 := off0.step hO (io Z33)
 clear hO Q5j
 refine J1e (fun W => True) (fun W hS => trivial) trivial ?_
 refine J1v rfl ?_
 refine J0f (xs := (([] ++ (lb 32 U13)) ++ (lb 16 U8))) (ys := (lb 32 U12)) (by rfl) rfl rfl rfl Y0l (J08 (V := U12) (n := 32) (off := 0) k_t14 ap0 (by decide) (by decide)) (by first | omega | (simp only [List.length_append, List.length_cons, List.length_nil, Z7]; omega)) ?_
 (try simp only [Act.put, mA, mB, mC])
 intro Q5k W41 Q0v hO Z34 nil_a73
 clear nil_a73
 have Q8w := J0y Z34 Q1x (J5 k_t4)
 replace k_t4 := V1 k_t4 hO (nmo Q1x)
 replace off0 := off0.step hO (io Y0m)
 clear hO Z34
 refine J1e (fun W => (Own W Q5k ((([] ++ (lb 32 U13)) ++ (lb 16 U8)) ++ (lb 32 U12)))) (fun W hS => trivial) Q0v ?_
 have ln_ : ((([] ++ (lb 32 U13)) ++ (lb 16 U8)) ++ (lb 32 U12)).length = 80 := by simp only [List.length_append, Z7, List.length_nil]
 obtain ⟨gz, cz, curz, ez, -, -⟩ := Q3w Q0v (by rw [ln_]; decide)
 rw [ln_] at ez
 refine J0h (v := .pointer (some ⟨gz, 0, none⟩)) rfl (by rfl) (fun W hS => by exact (Z5s (n := 80) rfl (by show Q5k = _; exact ez) Tryd.underlying45)) ?_
 (try simp only [Act.put, mA, mB, mC])
 refine J0h (v := .agg (J2 .u8 80 (Q0 (U13 + 2 ^ 256 * (U8 + J1l * U12))))) rfl (by rfl) (fun W hS => by exact (J8t (vs := (J2 .u8 80 (Q0 (U13 + 2 ^ 256 * (U8 + J1l * U12)))).toList) rfl rfl (Z9o (hS) ez ln_ (by decide) (by rw [List.nil_append]; exact Z2x bU13 qU8)) (by kernel_rfl) (by rw [Array.length_toList, J6]; kernel_rfl))) ?_
 (try simp only [Act.put, mA, mB, mC])
 refine J1v rfl ?_
 refine LpA ?_ k_t4 (k := .u8) (n := 80) (f := Q0 (U13 + 2 ^ 256 * (U8 + J1l * U12)))
 intro W42 hO h_
 replace k_t4 : Blk W42 J5x (J2 .u8 80 (Q0 (U13 + 2 ^ 256 * (U8 + J1l * U12)))) 45 := h_
 clear h_
 replace Q0v := Own.off Q0v hO (f1 Q8w)
 replace off0 := off0.p hO J27
 clear hO
 refine J1e (fun W => (Own W Q5k ((([] ++ (lb 32 U13)) ++ (lb 16 U8)) ++ (lb 32 U12)))) (fun W hS => hS) Q0v ?_
 (refine J0h (v := ?_) rfl (by rfl) (fun W hS => ?_) ?_; rotate_left 1; (focus (go_simp; first | done | with_reducible rfl)))
 (try simp only [Act.put, mA, mB, mC])
 refine J9b ?_
 go_wp2
 rw [show J2 .u8 80 (Q0 (U13 + 2 ^ 256 * (U8 + J1l * U12))) = J2 .u8 80 (Q0 (vPr S h)) by rw [HU13.out, HU12.out, HU11.out, HU10.out, HU9.out, HU8.out, HU7.out, HU6.out, HU5.out, HU4.out, HU3.out, HU2.out, HU1.out]; rfl] at k_t4
 exact bodyPost_ret (V5 rfl rfl rfl k_t4 (by kernel_rfl) (by rw [J6]; kernel_rfl)) rfl ⟨rfl, off0.ext⟩
theorem Z64 (hd : kn.d) (hb : kn.b) (hc : kn.c) (S : Nat) (v : Value) (L : List UInt8) (hL : L.length ≤ 1099511627776) (hv : vpt (kP S) L = none) :
  ∀ w, GA kn w → Sl w v L → Calls Tryd.prog 23 #[.agg (J2 .u8 32 (Q0 S)), v] w fun e w' => Ret (.tuple #[.agg (J2 .u8 80 (Q0 0)), .int .i64 15]) w w' e := by
 obtain ⟨U1, hU1⟩ := V3 (kN S)
 have bU1 : U1 < 2 ^ 256 := by rw [hU1]; exact Z2j _
 have HU1 := Lib.hid hU1
 clear hU1
 obtain ⟨U2, hU2⟩ := V3 (kD S)
 have bU2 : U2 < 2 ^ 256 := by rw [hU2]; exact Z2k _
 have HU2 := Lib.hid hU2
 clear hU2
 obtain ⟨U3, hU3⟩ := V3 (kP S)
 have bU3 : U3 < 2 ^ 256 := by rw [hU3]; exact Z2l _
 have HU3 := Lib.hid hU3
 clear hU3
 have hv_ : vpt U3 L = none := by rw [HU3.out]; exact hv
 intro w hG hsl
 have J7 := hsl
 have off0 : Off [] w w := Off.refl _ _
 go_enter Tryd.func23, Tryd.ntmps23
 go_upto_region 0 with fail
 refine wp_region_lit ?_
 refine Ln ?_ (z := J2 .u8 32 (Q0 S)) (t := 22)
 intro K4 W1 V2 hO h_
 replace J7 := Sl.off J7 hO f0
 replace off0 := off0.o hO
 have k_t2 := h_
 clear hO h_ V2
 refine Ln ?_ (z := J2 .u8 80 (Q0 0)) (t := 45)
 intro J5x W2 J0k hO h_
 have J27 := fbn off0 J0k
 replace k_t2 := k_t2.o hO
 replace J7 := Sl.off J7 hO f0
 replace off0 := off0.o hO
 have k_t4 := h_
 clear hO h_ J0k
 refine Lw ?_ (v := .int .i64 0)
 refine J0 ?_
 go_upto_region 1 with fail
 refine wp_region_lit ?_
 refine L0A ?_ k_t2
 refine Lr ?_ (J8w hd hb HU1.out HU2.out HU3.out W2 (J8 hG off0.ext))
 intro W3 hO
 replace k_t4 := k_t4.o hO
 replace J7 := Sl.off J7 hO f0
 replace off0 := off0.o hO
 clear hO
 refine LnP ?_ (z := s3 0 0 0) (t := 25) (cells := s3 U1 U2 U3) (hi := by rw [J13]; kernel_rfl) (hs := by first | rw [J13, J13] | rw [J13] | kernel_rfl) (h1 := by exact Q32)
 intro J55 W5 J0t hO h_
 replace k_t4 := k_t4.o hO
 replace J7 := Sl.off J7 hO f0
 replace off0 := off0.o hO
 have k_t6 := h_
 clear hO h_ J0t
 refine J0 ?_
 go_upto_region 2 with fail
 refine wp_region_lit ?_
 refine Lv ?_
 refine Y9 (vs := (J2 .u8 32 (Q0 U3)).toList) (by rfl) rfl rfl k_t6 (J2m Z9i) (by kernel_rfl) (by kernel_rfl) ?_
 (try simp only [Act.put, mA, mB, mC])
 refine Lv ?_
 refine Lr ?_ (Q7c (kn := kn) hc hL hv_ v W5 (J8 hG off0.ext) J7)
 intro W6 hO
 replace k_t4 := k_t4.o hO
 replace off0 := off0.o hO
 clear hO
 refine Lv ?_
 refine Lv ?_
 refine Lw ?_ (v := .int .i64 15)
 refine LnP ?_ (z := p4 0 0 0 0) (t := 60) (cells := p4 0 0 0 0)
 intro J9i W8 V6 hO h_
 replace k_t4 := k_t4.o hO
 replace off0 := off0.o hO
 clear hO h_ V6
 refine Lw ?_ (v := .int .i64 15)
 refine J0 ?_
 go_upto_region 4 with fail
 refine wp_region_lit ?_
 refine Lw ?_ (v := .agg (J2 .u8 80 (Q0 0))) (hv := by kernel_rfl)
 refine Lw ?_ (v := .int .i64 15)
 refine LpA ?_ k_t4 (k := .u8) (n := 80) (f := Q0 0)
 intro W9 hO h_
 replace k_t4 : Blk W9 J5x (J2 .u8 80 (Q0 0)) 45 := h_
 clear h_
 replace off0 := off0.p hO J27
 clear hO
 refine Lw ?_ (v := .int .i64 15)
 refine J0 ?_
 go_wp2
 exact bodyPost_ret (V5 rfl rfl rfl k_t4 (by kernel_rfl) (by rw [J6]; kernel_rfl)) rfl ⟨rfl, off0.ext⟩
end Go.Proofs.YtefpoollmbmkfaaDoor

namespace Go.Proofs.YtefpoollmbmkfaaDoor
set_option maxHeartbeats 2000000
set_option maxRecDepth 100000
open Go.RowKit
attribute [local irreducible] wpList J3w
variable {kn : Kn}
open Sc (LL J12)
attribute [local irreducible] hs
theorem Q48 : J1l < 2 ^ 256 := by decide
theorem Z65 {C : Nat} (hC : C < J1l) (v : Value) (w : World) (h : Sl w v (lb 16 C)) : Calls Tryd.prog 66 #[v] w fun e w' => Ret (.agg (J2 .u8 32 (Q0 C))) w w' e := by
  have h2 := Y08 v (lb 16 C) (Z7 _ _) w h
  rw [Q6m 16 C hC] at h2
  exact h2
theorem Z35 {A B : Nat} (hA : A < J1l) (hB : B < J1l) (h : lb 16 A = lb 16 B) : A = B := by
  rw [← Q6m 16 A hA, ← Q6m 16 B hB, h]
theorem Q0w {W : World} {o : Oper} {a : Act} {x y : Operand} {t : TypeId} {l m : List UInt8} {b : Bool} (hb : (!decide (l = m)) = b) (ho : o.op = .binOp .neq 9 x y t) (hx : a.eval x = str l) (hy : a.eval y = str m) : (execOp a.eval o).run Tryd.prog W = .ok (.value (.bool b)) W := by
  exact hb ▸ Q83 ho hx hy
def chk (V P : Nat) (h : Pr) : Nat := ch V h (dPt (pG P)) (J04 (pm BP (pN P)) (pm (J32 (dPt V)) (pC P))) (J04 (pm h (pN P)) (pm (J32 (dPt (pG P))) (pC P)))

theorem Z66 (hd : kn.d) (hb : kn.b) (hc : kn.c) {V P : Nat} (hV : V < 2 ^ 256) (hP : B80 P) (v : Value) (L : List UInt8) (hL : L.length ≤ 1099511627776) (hk1 : dOk V = false) :
  ∀ w, GA kn w → Sl w v L → Calls Tryd.prog 26 #[.agg (J2 .u8 32 (Q0 V)), v, .agg (J2 .u8 80 (Q0 P))] w fun e w' => Ret (.tuple #[.agg (J2 .u8 64 (Q0 0)), .int .i64 15]) w w' e := by
 have kc := Y39 (kn := kn) hc hV hk1
 intro w hG hsl
 have off0 : Off [] w w := Off.refl _ _
 go_enter Tryd.func26, Tryd.ntmps26
 go_upto_region 0 with fail
 refine wp_region_lit ?_
 refine Ln ?_ (z := J2 .u8 32 (Q0 V)) (t := 22)
 intro J16 W1 J03 hO h_
 replace off0 := off0.o hO
 have k_t3 := h_
 clear hO h_ J03
 refine Ln ?_ (z := J2 .u8 80 (Q0 P)) (t := 45)
 intro J7g W2 J05 hO h_
 replace k_t3 := k_t3.o hO
 replace off0 := off0.o hO
 clear hO h_ J05
 refine Ln ?_ (z := J2 .u8 64 (Q0 0)) (t := 30)
 intro J5r W3 J0t hO h_
 have J35 := fbn off0 J0t
 replace k_t3 := k_t3.o hO
 replace off0 := off0.o hO
 have k_t6 := h_
 clear hO h_ J0t
 refine Lw ?_ (v := .int .i64 0)
 refine J0 ?_
 go_upto_region 1 with fail
 refine wp_region_lit ?_
 refine L0A ?_ k_t3
 refine Lr ?_ (kc W3 (J8 hG off0.ext))
 intro W4 hO
 replace k_t6 := k_t6.o hO
 replace off0 := off0.o hO
 clear hO
 refine Lv ?_
 refine Lv ?_
 refine Lw ?_ (v := .int .i64 15)
 refine LnP ?_ (z := p4 0 0 0 0) (t := 60) (cells := p4 0 0 0 0)
 intro J9g W6 K5 hO h_
 replace k_t6 := k_t6.o hO
 replace off0 := off0.o hO
 clear hO h_ K5
 refine Lw ?_ (v := .int .i64 15)
 refine J0 ?_
 go_upto_region 3 with fail
 refine wp_region_lit ?_
 refine Lw ?_ (v := .agg (J2 .u8 64 (Q0 0))) (hv := by kernel_rfl)
 refine Lw ?_ (v := .int .i64 15)
 refine LpA ?_ k_t6 (k := .u8) (n := 64) (f := Q0 0)
 intro W7 hO h_
 replace k_t6 : Blk W7 J5r (J2 .u8 64 (Q0 0)) 30 := h_
 clear h_
 replace off0 := off0.p hO J35
 clear hO
 refine Lw ?_ (v := .int .i64 15)
 refine J0 ?_
 go_wp2
 exact bodyPost_ret (V5 rfl rfl rfl k_t6 (by kernel_rfl) (by rw [J6]; kernel_rfl)) rfl ⟨rfl, off0.ext⟩
theorem Z67 (hd : kn.d) (hb : kn.b) (hc : kn.c) {V P : Nat} (hV : V < 2 ^ 256) (hP : B80 P) (v : Value) (L : List UInt8) (hL : L.length ≤ 1099511627776) (hk1 : dOk V = true) (hk2 : pm (dPt V) 8 = p0) :
  ∀ w, GA kn w → Sl w v L → Calls Tryd.prog 26 #[.agg (J2 .u8 32 (Q0 V)), v, .agg (J2 .u8 80 (Q0 P))] w fun e w' => Ret (.tuple #[.agg (J2 .u8 64 (Q0 0)), .int .i64 15]) w w' e := by
 obtain ⟨kx, ky, kt, kr, kc⟩ := Y3a (kn := kn) hc hV hk1 hk2
 intro w hG hsl
 have off0 : Off [] w w := Off.refl _ _
 go_enter Tryd.func26, Tryd.ntmps26
 go_upto_region 0 with fail
 refine wp_region_lit ?_
 refine Ln ?_ (z := J2 .u8 32 (Q0 V)) (t := 22)
 intro J16 W1 J03 hO h_
 replace off0 := off0.o hO
 have k_t3 := h_
 clear hO h_ J03
 refine Ln ?_ (z := J2 .u8 80 (Q0 P)) (t := 45)
 intro J7g W2 J05 hO h_
 replace k_t3 := k_t3.o hO
 replace off0 := off0.o hO
 clear hO h_ J05
 refine Ln ?_ (z := J2 .u8 64 (Q0 0)) (t := 30)
 intro J5r W3 J0t hO h_
 have J35 := fbn off0 J0t
 replace k_t3 := k_t3.o hO
 replace off0 := off0.o hO
 have k_t6 := h_
 clear hO h_ J0t
 refine Lw ?_ (v := .int .i64 0)
 refine J0 ?_
 go_upto_region 1 with fail
 refine wp_region_lit ?_
 refine L0A ?_ k_t3
 refine Lr ?_ (kc W3 (J8 hG off0.ext))
 intro W4 hO
 replace k_t6 := k_t6.o hO
 replace off0 := off0.o hO
 clear hO
 refine Lv ?_
 refine Lv ?_
 refine Lw ?_ (v := .int .i64 15)
 refine LnP ?_ (z := p4 0 0 0 0) (t := 60) (cells := p4 kx ky 1 kt)
 intro J9g W6 K5 hO h_
 replace k_t6 := k_t6.o hO
 replace off0 := off0.o hO
 clear hO h_ K5
 refine Lw ?_ (v := .int .i64 15)
 refine J0 ?_
 go_upto_region 3 with fail
 refine wp_region_lit ?_
 refine Lw ?_ (v := .agg (J2 .u8 64 (Q0 0))) (hv := by kernel_rfl)
 refine Lw ?_ (v := .int .i64 15)
 refine LpA ?_ k_t6 (k := .u8) (n := 64) (f := Q0 0)
 intro W7 hO h_
 replace k_t6 : Blk W7 J5r (J2 .u8 64 (Q0 0)) 30 := h_
 clear h_
 replace off0 := off0.p hO J35
 clear hO
 refine Lw ?_ (v := .int .i64 15)
 refine J0 ?_
 go_wp2
 exact bodyPost_ret (V5 rfl rfl rfl k_t6 (by kernel_rfl) (by rw [J6]; kernel_rfl)) rfl ⟨rfl, off0.ext⟩
theorem Z36 (hd : kn.d) (hb : kn.b) (hc : kn.c) {V P : Nat} (hV : V < 2 ^ 256) (hP : B80 P) (v : Value) (L : List UInt8) (hL : L.length ≤ 1099511627776) (hk1 : dOk V = true) (hk2 : ¬ pm (dPt V) 8 = p0) (hok : dOk (pG P) = false) (h1 : LL ≤ pN P) :
  ∀ w, GA kn w → Sl w v L → Calls Tryd.prog 26 #[.agg (J2 .u8 32 (Q0 V)), v, .agg (J2 .u8 80 (Q0 P))] w fun e w' => Ret (.tuple #[.agg (J2 .u8 64 (Q0 0)), .int .i64 17]) w w' e := by
 obtain ⟨kx, ky, kt, kr, kc⟩ := Q45 (kn := kn) hc hV hk1 hk2
 have pc := Z60 (kn := kn) hc hP hok h1
 intro w hG hsl
 have off0 : Off [] w w := Off.refl _ _
 go_enter Tryd.func26, Tryd.ntmps26
 go_upto_region 0 with fail
 refine wp_region_lit ?_
 refine Ln ?_ (z := J2 .u8 32 (Q0 V)) (t := 22)
 intro J16 W1 J03 hO h_
 replace off0 := off0.o hO
 have k_t3 := h_
 clear hO h_ J03
 refine Ln ?_ (z := J2 .u8 80 (Q0 P)) (t := 45)
 intro J7g W2 J05 hO h_
 replace k_t3 := k_t3.o hO
 replace off0 := off0.o hO
 have k_t5 := h_
 clear hO h_ J05
 refine Ln ?_ (z := J2 .u8 64 (Q0 0)) (t := 30)
 intro J5r W3 J0t hO h_
 have J35 := fbn off0 J0t
 replace k_t3 := k_t3.o hO
 replace k_t5 := k_t5.o hO
 replace off0 := off0.o hO
 have k_t6 := h_
 clear hO h_ J0t
 refine Lw ?_ (v := .int .i64 0)
 refine J0 ?_
 go_upto_region 1 with fail
 refine wp_region_lit ?_
 refine L0A ?_ k_t3
 refine Lr ?_ (kc W3 (J8 hG off0.ext))
 intro W4 hO
 replace k_t5 := k_t5.o hO
 replace k_t6 := k_t6.o hO
 replace off0 := off0.o hO
 clear hO
 refine Lv ?_
 refine Lv ?_
 refine Lw ?_ (v := .int .i64 0)
 refine LnP ?_ (z := p4 0 0 0 0) (t := 60) (cells := p4 kx ky 1 kt)
 intro J9g W6 K5 hO h_
 replace k_t5 := k_t5.o hO
 replace k_t6 := k_t6.o hO
 replace off0 := off0.o hO
 clear hO h_ K5
 refine Lw ?_ (v := .int .i64 0)
 refine J0 ?_
 go_upto_region 4 with fail
 refine wp_region_lit ?_
 refine L0A ?_ k_t5
 refine Lr ?_ (pc W6 (J8 hG off0.ext))
 intro W7 hO
 replace k_t6 := k_t6.o hO
 replace off0 := off0.o hO
 clear hO
 refine Lv ?_
 refine Lv ?_
 refine Lv ?_
 refine Lw ?_ (v := .int .i64 17)
 refine Ln ?_ (z := p4 0 0 0 0) (t := 60)
 intro J71 W8 J0w hO h_
 have nq_t6_t10 := bn k_t6 J0w
 have J4d := fbn off0 J0w
 replace k_t6 := k_t6.o hO
 replace off0 := off0.o hO
 have k_t10 := h_
 clear hO h_ J0w
 refine Ln ?_ (z := c4 0) (t := 42)
 intro Q49 W9 Y6 hO h_
 have K9 := bn k_t6 Y6
 have nq_t10_t11 := bn k_t10 Y6
 have J1h := fbn off0 Y6
 replace k_t6 := k_t6.o hO
 replace k_t10 := k_t10.o hO
 replace off0 := off0.o hO
 have k_t11 := h_
 clear hO h_ Y6
 refine Lp ?_ k_t10 (cells := p4 0 0 0 0)
 intro W10 hO h_
 clear h_
 replace k_t6 := k_t6.p hO nq_t6_t10
 replace k_t11 := k_t11.p hO nq_t10_t11.symm
 replace off0 := off0.p hO J4d
 clear hO
 refine Lp ?_ k_t11 (cells := c4 0)
 intro W11 hO h_
 clear h_
 replace k_t6 := k_t6.p hO K9
 replace off0 := off0.p hO J1h
 clear hO
 refine Lw ?_ (v := .int .i64 17)
 refine J0 ?_
 go_upto_region 6 with fail
 refine wp_region_lit ?_
 refine Lw ?_ (v := .agg (J2 .u8 64 (Q0 0))) (hv := by kernel_rfl)
 refine Lw ?_ (v := .int .i64 17)
 refine LpA ?_ k_t6 (k := .u8) (n := 64) (f := Q0 0)
 intro W12 hO h_
 replace k_t6 : Blk W12 J5r (J2 .u8 64 (Q0 0)) 30 := h_
 clear h_
 replace off0 := off0.p hO J35
 clear hO
 refine Lw ?_ (v := .int .i64 17)
 refine J0 ?_
 go_wp2
 exact bodyPost_ret (V5 rfl rfl rfl k_t6 (by kernel_rfl) (by rw [J6]; kernel_rfl)) rfl ⟨rfl, off0.ext⟩
theorem Z37 (hd : kn.d) (hb : kn.b) (hc : kn.c) {V P : Nat} (hV : V < 2 ^ 256) (hP : B80 P) (v : Value) (L : List UInt8) (hL : L.length ≤ 1099511627776) (hk1 : dOk V = true) (hk2 : ¬ pm (dPt V) 8 = p0) (hok : dOk (pG P) = false) (h1 : pN P < LL) :
  ∀ w, GA kn w → Sl w v L → Calls Tryd.prog 26 #[.agg (J2 .u8 32 (Q0 V)), v, .agg (J2 .u8 80 (Q0 P))] w fun e w' => Ret (.tuple #[.agg (J2 .u8 64 (Q0 0)), .int .i64 17]) w w' e := by
 obtain ⟨kx, ky, kt, kr, kc⟩ := Q45 (kn := kn) hc hV hk1 hk2
 have pc := Z61 (kn := kn) hc hP hok h1
 intro w hG hsl
 have off0 : Off [] w w := Off.refl _ _
 go_enter Tryd.func26, Tryd.ntmps26
 go_upto_region 0 with fail
 refine wp_region_lit ?_
 refine Ln ?_ (z := J2 .u8 32 (Q0 V)) (t := 22)
 intro J16 W1 J03 hO h_
 replace off0 := off0.o hO
 have k_t3 := h_
 clear hO h_ J03
 refine Ln ?_ (z := J2 .u8 80 (Q0 P)) (t := 45)
 intro J7g W2 J05 hO h_
 replace k_t3 := k_t3.o hO
 replace off0 := off0.o hO
 have k_t5 := h_
 clear hO h_ J05
 refine Ln ?_ (z := J2 .u8 64 (Q0 0)) (t := 30)
 intro J5r W3 J0t hO h_
 have J35 := fbn off0 J0t
 replace k_t3 := k_t3.o hO
 replace k_t5 := k_t5.o hO
 replace off0 := off0.o hO
 have k_t6 := h_
 clear hO h_ J0t
 refine Lw ?_ (v := .int .i64 0)
 refine J0 ?_
 go_upto_region 1 with fail
 refine wp_region_lit ?_
 refine L0A ?_ k_t3
 refine Lr ?_ (kc W3 (J8 hG off0.ext))
 intro W4 hO
 replace k_t5 := k_t5.o hO
 replace k_t6 := k_t6.o hO
 replace off0 := off0.o hO
 clear hO
 refine Lv ?_
 refine Lv ?_
 refine Lw ?_ (v := .int .i64 0)
 refine LnP ?_ (z := p4 0 0 0 0) (t := 60) (cells := p4 kx ky 1 kt)
 intro J9g W6 K5 hO h_
 replace k_t5 := k_t5.o hO
 replace k_t6 := k_t6.o hO
 replace off0 := off0.o hO
 clear hO h_ K5
 refine Lw ?_ (v := .int .i64 0)
 refine J0 ?_
 go_upto_region 4 with fail
 refine wp_region_lit ?_
 refine L0A ?_ k_t5
 refine Lr ?_ (pc W6 (J8 hG off0.ext))
 intro W7 hO
 replace k_t6 := k_t6.o hO
 replace off0 := off0.o hO
 clear hO
 refine Lv ?_
 refine Lv ?_
 refine Lv ?_
 refine Lw ?_ (v := .int .i64 17)
 refine Ln ?_ (z := p4 0 0 0 0) (t := 60)
 intro J71 W8 J0w hO h_
 have nq_t6_t10 := bn k_t6 J0w
 have J4d := fbn off0 J0w
 replace k_t6 := k_t6.o hO
 replace off0 := off0.o hO
 have k_t10 := h_
 clear hO h_ J0w
 refine Ln ?_ (z := c4 0) (t := 42)
 intro Q49 W9 Y6 hO h_
 have K9 := bn k_t6 Y6
 have nq_t10_t11 := bn k_t10 Y6
 have J1h := fbn off0 Y6
 replace k_t6 := k_t6.o hO
 replace k_t10 := k_t10.o hO
 replace off0 := off0.o hO
 have k_t11 := h_
 clear hO h_ Y6
 refine Lp ?_ k_t10 (cells := p4 0 0 0 0)
 intro W10 hO h_
 clear h_
 replace k_t6 := k_t6.p hO nq_t6_t10
 replace k_t11 := k_t11.p hO nq_t10_t11.symm
 replace off0 := off0.p hO J4d
 clear hO
 refine Lp ?_ k_t11 (cells := c4 0)
 intro W11 hO h_
 clear h_
 replace k_t6 := k_t6.p hO K9
 replace off0 := off0.p hO J1h
 clear hO
 refine Lw ?_ (v := .int .i64 17)
 refine J0 ?_
 go_upto_region 6 with fail
 refine wp_region_lit ?_
 refine Lw ?_ (v := .agg (J2 .u8 64 (Q0 0))) (hv := by kernel_rfl)
 refine Lw ?_ (v := .int .i64 17)
 refine LpA ?_ k_t6 (k := .u8) (n := 64) (f := Q0 0)
 intro W12 hO h_
 replace k_t6 : Blk W12 J5r (J2 .u8 64 (Q0 0)) 30 := h_
 clear h_
 replace off0 := off0.p hO J35
 clear hO
 refine Lw ?_ (v := .int .i64 17)
 refine J0 ?_
 go_wp2
 exact bodyPost_ret (V5 rfl rfl rfl k_t6 (by kernel_rfl) (by rw [J6]; kernel_rfl)) rfl ⟨rfl, off0.ext⟩
theorem Z38 (hd : kn.d) (hb : kn.b) (hc : kn.c) {V P : Nat} (hV : V < 2 ^ 256) (hP : B80 P) (v : Value) (L : List UInt8) (hL : L.length ≤ 1099511627776) (hk1 : dOk V = true) (hk2 : ¬ pm (dPt V) 8 = p0) (hok : dOk (pG P) = true) (h1 : LL ≤ pN P) :
  ∀ w, GA kn w → Sl w v L → Calls Tryd.prog 26 #[.agg (J2 .u8 32 (Q0 V)), v, .agg (J2 .u8 80 (Q0 P))] w fun e w' => Ret (.tuple #[.agg (J2 .u8 64 (Q0 0)), .int .i64 17]) w w' e := by
 obtain ⟨kx, ky, kt, kr, kc⟩ := Q45 (kn := kn) hc hV hk1 hk2
 have pc := Z62 (kn := kn) hc hP hok h1
 intro w hG hsl
 have off0 : Off [] w w := Off.refl _ _
 go_enter Tryd.func26, Tryd.ntmps26
 go_upto_region 0 with fail
 refine wp_region_lit ?_
 refine Ln ?_ (z := J2 .u8 32 (Q0 V)) (t := 22)
 intro J16 W1 J03 hO h_
 replace off0 := off0.o hO
 have k_t3 := h_
 clear hO h_ J03
 refine Ln ?_ (z := J2 .u8 80 (Q0 P)) (t := 45)
 intro J7g W2 J05 hO h_
 replace k_t3 := k_t3.o hO
 replace off0 := off0.o hO
 have k_t5 := h_
 clear hO h_ J05
 refine Ln ?_ (z := J2 .u8 64 (Q0 0)) (t := 30)
 intro J5r W3 J0t hO h_
 have J35 := fbn off0 J0t
 replace k_t3 := k_t3.o hO
 replace k_t5 := k_t5.o hO
 replace off0 := off0.o hO
 have k_t6 := h_
 clear hO h_ J0t
 refine Lw ?_ (v := .int .i64 0)
 refine J0 ?_
 go_upto_region 1 with fail
 refine wp_region_lit ?_
 refine L0A ?_ k_t3
 refine Lr ?_ (kc W3 (J8 hG off0.ext))
 intro W4 hO
 replace k_t5 := k_t5.o hO
 replace k_t6 := k_t6.o hO
 replace off0 := off0.o hO
 clear hO
 refine Lv ?_
 refine Lv ?_
 refine Lw ?_ (v := .int .i64 0)
 refine LnP ?_ (z := p4 0 0 0 0) (t := 60) (cells := p4 kx ky 1 kt)
 intro J9g W6 K5 hO h_
 replace k_t5 := k_t5.o hO
 replace k_t6 := k_t6.o hO
 replace off0 := off0.o hO
 clear hO h_ K5
 refine Lw ?_ (v := .int .i64 0)
 refine J0 ?_
 go_upto_region 4 with fail
 refine wp_region_lit ?_
 refine L0A ?_ k_t5
 refine Lr ?_ (pc W6 (J8 hG off0.ext))
 intro W7 hO
 replace k_t6 := k_t6.o hO
 replace off0 := off0.o hO
 clear hO
 refine Lv ?_
 refine Lv ?_
 refine Lv ?_
 refine Lw ?_ (v := .int .i64 17)
 refine Ln ?_ (z := p4 0 0 0 0) (t := 60)
 intro J71 W8 J0w hO h_
 have nq_t6_t10 := bn k_t6 J0w
 have J4d := fbn off0 J0w
 replace k_t6 := k_t6.o hO
 replace off0 := off0.o hO
 have k_t10 := h_
 clear hO h_ J0w
 refine Ln ?_ (z := c4 0) (t := 42)
 intro Q49 W9 Y6 hO h_
 have K9 := bn k_t6 Y6
 have nq_t10_t11 := bn k_t10 Y6
 have J1h := fbn off0 Y6
 replace k_t6 := k_t6.o hO
 replace k_t10 := k_t10.o hO
 replace off0 := off0.o hO
 have k_t11 := h_
 clear hO h_ Y6
 refine Lp ?_ k_t10 (cells := p4 0 0 0 0)
 intro W10 hO h_
 clear h_
 replace k_t6 := k_t6.p hO nq_t6_t10
 replace k_t11 := k_t11.p hO nq_t10_t11.symm
 replace off0 := off0.p hO J4d
 clear hO
 refine Lp ?_ k_t11 (cells := c4 0)
 intro W11 hO h_
 clear h_
 replace k_t6 := k_t6.p hO K9
 replace off0 := off0.p hO J1h
 clear hO
 refine Lw ?_ (v := .int .i64 17)
 refine J0 ?_
 go_upto_region 6 with fail
 refine wp_region_lit ?_
 refine Lw ?_ (v := .agg (J2 .u8 64 (Q0 0))) (hv := by kernel_rfl)
 refine Lw ?_ (v := .int .i64 17)
 refine LpA ?_ k_t6 (k := .u8) (n := 64) (f := Q0 0)
 intro W12 hO h_
 replace k_t6 : Blk W12 J5r (J2 .u8 64 (Q0 0)) 30 := h_
 clear h_
 replace off0 := off0.p hO J35
 clear hO
 refine Lw ?_ (v := .int .i64 17)
 refine J0 ?_
 go_wp2
 exact bodyPost_ret (V5 rfl rfl rfl k_t6 (by kernel_rfl) (by rw [J6]; kernel_rfl)) rfl ⟨rfl, off0.ext⟩
theorem Z68 (hd : kn.d) (hb : kn.b) (hc : kn.c) {V P : Nat} (hV : V < 2 ^ 256) (hP : B80 P) (v : Value) (L : List UInt8) (hL : L.length ≤ 1099511627776) (hk1 : dOk V = true) (hk2 : ¬ pm (dPt V) 8 = p0) (hok : dOk (pG P) = true) (h1 : pN P < LL) (hv : vpt V L = none) :
  ∀ w, GA kn w → Sl w v L → Calls Tryd.prog 26 #[.agg (J2 .u8 32 (Q0 V)), v, .agg (J2 .u8 80 (Q0 P))] w fun e w' => Ret (.tuple #[.agg (J2 .u8 64 (Q0 0)), .int .i64 15]) w w' e := by
 obtain ⟨kx, ky, kt, kr, kc⟩ := Q45 (kn := kn) hc hV hk1 hk2
 obtain ⟨gx, gy, gt, gr, pc⟩ := Q7a (kn := kn) hc hP hok h1
 intro w hG hsl
 have J7 := hsl
 have off0 : Off [] w w := Off.refl _ _
 go_enter Tryd.func26, Tryd.ntmps26
 go_upto_region 0 with fail
 refine wp_region_lit ?_
 refine Ln ?_ (z := J2 .u8 32 (Q0 V)) (t := 22)
 intro J16 W1 J03 hO h_
 replace J7 := Sl.off J7 hO f0
 replace off0 := off0.o hO
 have k_t3 := h_
 clear hO h_ J03
 refine Ln ?_ (z := J2 .u8 80 (Q0 P)) (t := 45)
 intro J7g W2 J05 hO h_
 replace k_t3 := k_t3.o hO
 replace J7 := Sl.off J7 hO f0
 replace off0 := off0.o hO
 have k_t5 := h_
 clear hO h_ J05
 refine Ln ?_ (z := J2 .u8 64 (Q0 0)) (t := 30)
 intro J5r W3 J0t hO h_
 have J35 := fbn off0 J0t
 replace k_t3 := k_t3.o hO
 replace k_t5 := k_t5.o hO
 replace J7 := Sl.off J7 hO f0
 replace off0 := off0.o hO
 have k_t6 := h_
 clear hO h_ J0t
 refine Lw ?_ (v := .int .i64 0)
 refine J0 ?_
 go_upto_region 1 with fail
 refine wp_region_lit ?_
 refine L0A ?_ k_t3
 refine Lr ?_ (kc W3 (J8 hG off0.ext))
 intro W4 hO
 replace k_t3 := k_t3.o hO
 replace k_t5 := k_t5.o hO
 replace k_t6 := k_t6.o hO
 replace J7 := Sl.off J7 hO f0
 replace off0 := off0.o hO
 clear hO
 refine Lv ?_
 refine Lv ?_
 refine Lw ?_ (v := .int .i64 0)
 refine LnP ?_ (z := p4 0 0 0 0) (t := 60) (cells := p4 kx ky 1 kt)
 intro J9g W6 K5 hO h_
 replace k_t3 := k_t3.o hO
 replace k_t5 := k_t5.o hO
 replace k_t6 := k_t6.o hO
 replace J7 := Sl.off J7 hO f0
 replace off0 := off0.o hO
 clear hO h_ K5
 refine Lw ?_ (v := .int .i64 0)
 refine J0 ?_
 go_upto_region 4 with fail
 refine wp_region_lit ?_
 refine L0A ?_ k_t5
 refine Lr ?_ (pc W6 (J8 hG off0.ext))
 intro W7 hO
 replace k_t3 := k_t3.o hO
 replace k_t6 := k_t6.o hO
 replace J7 := Sl.off J7 hO f0
 replace off0 := off0.o hO
 clear hO
 refine Lv ?_
 refine Lv ?_
 refine Lv ?_
 refine Lw ?_ (v := .int .i64 0)
 refine Ln ?_ (z := p4 0 0 0 0) (t := 60)
 intro J71 W8 J0w hO h_
 have J92 := bn k_t3 J0w
 have nq_t6_t10 := bn k_t6 J0w
 have Q0x := J01 (Sl.lt J7) J0w
 have J4d := fbn off0 J0w
 replace k_t3 := k_t3.o hO
 replace k_t6 := k_t6.o hO
 replace J7 := Sl.off J7 hO f0
 replace off0 := off0.o hO
 have k_t10 := h_
 clear hO h_ J0w
 refine Ln ?_ (z := c4 0) (t := 42)
 intro Q49 W9 Y6 hO h_
 have J93 := bn k_t3 Y6
 have K9 := bn k_t6 Y6
 have nq_t10_t11 := bn k_t10 Y6
 have J1r := J01 (Sl.lt J7) Y6
 have J1h := fbn off0 Y6
 replace k_t3 := k_t3.o hO
 replace k_t6 := k_t6.o hO
 replace k_t10 := k_t10.o hO
 replace J7 := Sl.off J7 hO f0
 replace off0 := off0.o hO
 have k_t11 := h_
 clear hO h_ Y6
 refine Lp ?_ k_t10 (cells := p4 gx gy 1 gt)
 intro W10 hO h_
 clear h_
 replace k_t3 := k_t3.p hO J92
 replace k_t6 := k_t6.p hO nq_t6_t10
 replace k_t11 := k_t11.p hO nq_t10_t11.symm
 replace J7 := Sl.off J7 hO (f1 Q0x)
 replace off0 := off0.p hO J4d
 clear hO
 refine Lp ?_ k_t11 (cells := c4 (pN P))
 intro W11 hO h_
 clear h_
 replace k_t3 := k_t3.p hO J93
 replace k_t6 := k_t6.p hO K9
 replace J7 := Sl.off J7 hO (f1 J1r)
 replace off0 := off0.p hO J1h
 clear hO
 refine Lw ?_ (v := .int .i64 0)
 refine J0 ?_
 go_upto_region 7 with fail
 refine wp_region_lit ?_
 refine L0A ?_ k_t3
 refine Lv ?_
 refine Lr ?_ (Q7c (kn := kn) hc hL hv v W11 (J8 hG off0.ext) J7)
 intro W12 hO
 replace k_t6 := k_t6.o hO
 replace off0 := off0.o hO
 clear hO
 refine Lv ?_
 refine Lv ?_
 refine Lw ?_ (v := .int .i64 15)
 refine LnP ?_ (z := p4 0 0 0 0) (t := 60) (cells := p4 0 0 0 0)
 intro J7u W14 J6l hO h_
 replace k_t6 := k_t6.o hO
 replace off0 := off0.o hO
 clear hO h_ J6l
 refine Lw ?_ (v := .int .i64 15)
 refine J0 ?_
 go_upto_region 9 with fail
 refine wp_region_lit ?_
 refine Lw ?_ (v := .agg (J2 .u8 64 (Q0 0))) (hv := by kernel_rfl)
 refine Lw ?_ (v := .int .i64 15)
 refine LpA ?_ k_t6 (k := .u8) (n := 64) (f := Q0 0)
 intro W15 hO h_
 replace k_t6 : Blk W15 J5r (J2 .u8 64 (Q0 0)) 30 := h_
 clear h_
 replace off0 := off0.p hO J35
 clear hO
 refine Lw ?_ (v := .int .i64 15)
 refine J0 ?_
 go_wp2
 exact bodyPost_ret (V5 rfl rfl rfl k_t6 (by kernel_rfl) (by rw [J6]; kernel_rfl)) rfl ⟨rfl, off0.ext⟩
theorem Q7d (hd : kn.d) (hb : kn.b) (hc : kn.c) {V P : Nat} (hV : V < 2 ^ 256) (hP : B80 P) (v : Value) (L : List UInt8) (hL : L.length ≤ 1099511627776) (hk1 : dOk V = true) (hk2 : ¬ pm (dPt V) 8 = p0) (hok : dOk (pG P) = true) (h1 : pN P < LL) {c0 : Nat} (hv : vpt V L = some c0) {h : Pr} (hh : h = J1f V L c0) {r k : Nat} (hqq : ((chk V P h = pC P → r = Q46 P ∧ k = 0) ∧ (¬ chk V P h = pC P → r = 0 ∧ k = 17))) :
  ∀ w, GA kn w → Sl w v L → Calls Tryd.prog 26 #[.agg (J2 .u8 32 (Q0 V)), v, .agg (J2 .u8 80 (Q0 P))] w fun e w' => Ret (.tuple #[.agg (J2 .u8 64 (Q0 r)), .int .i64 (k : Int)]) w w' e := by
 obtain ⟨kx, ky, kt, kr, kc⟩ := Q45 (kn := kn) hc hV hk1 hk2
 obtain ⟨gx, gy, gt, gr, pc⟩ := Q7a (kn := kn) hc hP hok h1
 obtain ⟨hx, hy, hz, ht, hr, hcl⟩ := Q7b (kn := kn) hc hL hv hh
 obtain ⟨x1, y2, z3, t4, r5, c6⟩ := Q2e hb
 obtain ⟨x7, y8, z9, t10, r11, c12⟩ := J3l hd r5.rw (N := (pN P)) (Nat.lt_trans h1 J2b)
 obtain ⟨x13, y14, z15, t16, r17, c18⟩ := Z06 (kn := kn) kr.rw
 obtain ⟨x19, y20, z21, t22, r23, c24⟩ := J3l hd r17.rw (N := (pC P)) (Nat.lt_trans (Q79 P) Q48)
 obtain ⟨x25, y26, z27, t28, r29, c30⟩ := Q4l hd r11.rw r23.rw
 obtain ⟨x31, y32, z33, t34, r35, c36⟩ := J3l hd hr.rw (N := (pN P)) (Nat.lt_trans h1 J2b)
 obtain ⟨x37, y38, z39, t40, r41, c42⟩ := Z06 (kn := kn) gr.rw
 obtain ⟨x43, y44, z45, t46, r47, c48⟩ := J3l hd r41.rw (N := (pC P)) (Nat.lt_trans (Q79 P) Q48)
 obtain ⟨x49, y50, z51, t52, r53, c54⟩ := Q4l hd r35.rw r47.rw
 obtain ⟨U1, hU1⟩ := V3 (chH V h (dPt (pG P)) (J04 (pm BP (pN P)) (pm (J32 (dPt V)) (pC P))) (J04 (pm h (pN P)) (pm (J32 (dPt (pG P))) (pC P))))
 have HU1 := Lib.hid hU1
 clear hU1
 obtain ⟨U2, hU2⟩ := V3 (U1 % J1l)
 have qU2 : U2 < J1l := by rw [hU2]; exact Nat.mod_lt _ (by decide)
 have HU2 := Lib.hid hU2
 clear hU2
 obtain ⟨U3, hU3⟩ := V3 (Q46 P)
 have HU3 := Lib.hid hU3
 clear hU3
 have HQ := Lib.hid hqq
 clear hqq
 intro w hG hsl
 have J7 := hsl
 have off0 : Off [] w w := Off.refl _ _
 go_enter Tryd.func26, Tryd.ntmps26
 go_upto_region 0 with fail
 refine wp_region_lit ?_
 refine Ln ?_ (z := J2 .u8 32 (Q0 V)) (t := 22)
 intro J16 W1 J03 hO h_
 replace J7 := Sl.off J7 hO f0
 replace off0 := off0.o hO
 have k_t3 := h_
 clear hO h_ J03
 refine Ln ?_ (z := J2 .u8 80 (Q0 P)) (t := 45)
 intro J7g W2 J05 hO h_
 replace k_t3 := k_t3.o hO
 replace J7 := Sl.off J7 hO f0
 replace off0 := off0.o hO
 have k_t5 := h_
 clear hO h_ J05
 refine Ln ?_ (z := J2 .u8 64 (Q0 0)) (t := 30)
 intro J5r W3 J0t hO h_
 have Q04 := bn k_t3 J0t
 have J6k := bn k_t5 J0t
 have J35 := fbn off0 J0t
 replace k_t3 := k_t3.o hO
 replace k_t5 := k_t5.o hO
 replace J7 := Sl.off J7 hO f0
 replace off0 := off0.o hO
 have k_t6 := h_
 clear hO h_ J0t
 refine Lw ?_ (v := .int .i64 0)
 refine J0 ?_
 go_upto_region 1 with fail
 refine wp_region_lit ?_
 refine L0A ?_ k_t3
 refine Lr ?_ (kc W3 (J8 hG off0.ext))
 intro W4 hO
 replace k_t3 := k_t3.o hO
 replace k_t5 := k_t5.o hO
 replace k_t6 := k_t6.o hO
 replace J7 := Sl.off J7 hO f0
 replace off0 := off0.o hO
 clear hO
 refine Lv ?_
 refine Lv ?_
 refine Lw ?_ (v := .int .i64 0)
 refine LnP ?_ (z := p4 0 0 0 0) (t := 60) (cells := p4 kx ky 1 kt)
 intro J9g W6 K5 hO h_
 replace k_t3 := k_t3.o hO
 replace k_t5 := k_t5.o hO
 replace k_t6 := k_t6.o hO
 replace J7 := Sl.off J7 hO f0
 replace off0 := off0.o hO
 have k_t8 := h_
 clear hO h_ K5
 refine Lw ?_ (v := .int .i64 0)
 refine J0 ?_
 go_upto_region 4 with fail
 refine wp_region_lit ?_
 refine L0A ?_ k_t5
 refine Lr ?_ (pc W6 (J8 hG off0.ext))
 intro W7 hO
 replace k_t3 := k_t3.o hO
 replace k_t5 := k_t5.o hO
 replace k_t6 := k_t6.o hO
 replace k_t8 := k_t8.o hO
 replace J7 := Sl.off J7 hO f0
 replace off0 := off0.o hO
 clear hO
 refine Lv ?_
 refine Lv ?_
 refine Lv ?_
 refine Lw ?_ (v := .int .i64 0)
 refine Ln ?_ (z := p4 0 0 0 0) (t := 60)
 intro J71 W8 J0w hO h_
 have J92 := bn k_t3 J0w
 have Q8x := bn k_t5 J0w
 have nq_t6_t10 := bn k_t6 J0w
 have Q8y := bn k_t8 J0w
 have Q0x := J01 (Sl.lt J7) J0w
 have J4d := fbn off0 J0w
 replace k_t3 := k_t3.o hO
 replace k_t5 := k_t5.o hO
 replace k_t6 := k_t6.o hO
 replace k_t8 := k_t8.o hO
 replace J7 := Sl.off J7 hO f0
 replace off0 := off0.o hO
 have k_t10 := h_
 clear hO h_ J0w
 refine Ln ?_ (z := c4 0) (t := 42)
 intro Q49 W9 Y6 hO h_
 have J93 := bn k_t3 Y6
 have Q8z := bn k_t5 Y6
 have K9 := bn k_t6 Y6
 have Q90 := bn k_t8 Y6
 have nq_t10_t11 := bn k_t10 Y6
 have J1r := J01 (Sl.lt J7) Y6
 have J1h := fbn off0 Y6
 replace k_t3 := k_t3.o hO
 replace k_t5 := k_t5.o hO
 replace k_t6 := k_t6.o hO
 replace k_t8 := k_t8.o hO
 replace k_t10 := k_t10.o hO
 replace J7 := Sl.off J7 hO f0
 replace off0 := off0.o hO
 have k_t11 := h_
 clear hO h_ Y6
 refine Lp ?_ k_t10 (cells := p4 gx gy 1 gt)
 intro W10 hO h_
 replace k_t10 : Blk W10 J71 (p4 gx gy 1 gt) 60 := h_
 clear h_
 replace k_t3 := k_t3.p hO J92
 replace k_t5 := k_t5.p hO Q8x
 replace k_t6 := k_t6.p hO nq_t6_t10
 replace k_t8 := k_t8.p hO Q8y
 replace k_t11 := k_t11.p hO nq_t10_t11.symm
 replace J7 := Sl.off J7 hO (f1 Q0x)
 replace off0 := off0.p hO J4d
 clear hO
 refine Lp ?_ k_t11 (cells := c4 (pN P))
 intro W11 hO h_
 replace k_t11 : Blk W11 Q49 (c4 (pN P)) 42 := h_
 clear h_
 replace k_t3 := k_t3.p hO J93
 replace k_t5 := k_t5.p hO Q8z
 replace k_t6 := k_t6.p hO K9
 replace k_t8 := k_t8.p hO Q90
 replace k_t10 := k_t10.p hO nq_t10_t11
 replace J7 := Sl.off J7 hO (f1 J1r)
 replace off0 := off0.p hO J1h
 clear hO
 refine Lw ?_ (v := .int .i64 0)
 refine J0 ?_
 go_upto_region 7 with fail
 refine wp_region_lit ?_
 refine L0A ?_ k_t3
 refine Lv ?_
 refine Lr ?_ (hcl v W11 (J8 hG off0.ext) J7)
 intro W12 hO
 replace k_t3 := k_t3.o hO
 replace k_t5 := k_t5.o hO
 replace k_t6 := k_t6.o hO
 replace k_t8 := k_t8.o hO
 replace k_t10 := k_t10.o hO
 replace k_t11 := k_t11.o hO
 replace off0 := off0.o hO
 clear hO
 refine Lv ?_
 refine Lv ?_
 refine Lw ?_ (v := .int .i64 0)
 refine LnP ?_ (z := p4 0 0 0 0) (t := 60) (cells := p4 hx hy hz ht)
 intro J7u W14 J6l hO h_
 have nq_t6_t12 := bn k_t6 J6l
 replace k_t3 := k_t3.o hO
 replace k_t5 := k_t5.o hO
 replace k_t6 := k_t6.o hO
 replace k_t8 := k_t8.o hO
 replace k_t10 := k_t10.o hO
 replace k_t11 := k_t11.o hO
 replace off0 := off0.o hO
 have k_t12 := h_
 clear hO h_ J6l
 refine Lw ?_ (v := .int .i64 0)
 refine J0 ?_
 go_upto_region 10 with fail
 refine J0s 4 [⟨4, 13, J2 .u8 32 (Q0 0), 22⟩, ⟨5, 14, J2 .u8 32 (Q0 0), 22⟩] (by kernel_rfl) ?_ (by kernel_rfl) ?_
 ·
  intro x hx
  simp only [List.mem_cons, List.not_mem_nil, or_false] at hx
  rcases hx with rfl | rfl <;> exact ⟨_, rfl, rfl, rfl, fun _ _ => by kernel_rfl⟩
 simp only [List.take_succ_cons, List.take_zero, List.take_nil]
 (try simp only [Act.put, mA, mB, mC])
 refine Xw ?_ (v := .slice (some ⟨J7g, 32, none⟩) 16 48)
 refine Xf ?_ (fun W hW => Z65 (Q79 P) (.slice (some ⟨J7g, 32, none⟩) 16 48) W (J08 (V := (pC P)) (n := 16) (off := 32) (J1 k_t5 hW) Y0c (by decide) (by decide)))
 refine Xl ?_ k_t11
 refine Xf ?_ (fun W hW => J8a h1 W (J8 (J8 hG off0.ext) hW).2.2.1)
 refine Q8 ?_
 intro β W15 hE hN hD
 obtain ⟨J8g, h_t13⟩ := hN _ (List.mem_cons_self ..)
 obtain ⟨J4i, h_t14⟩ := hN _ (List.mem_cons_of_mem _ (List.mem_cons_self ..))
 have nq_t13_t14 := (hD _ (List.mem_cons_of_mem _ (List.mem_cons_self ..)) _ (List.mem_cons_self ..) (by decide)).symm
 clear hN hD
 simp only [K8, Act.put, mA, mB, mC, List.drop_succ_cons, List.drop_zero, List.drop_nil, List.length_cons, List.length_nil, Nat.add_zero] at J8g h_t13 J4i h_t14 nq_t13_t14 ⊢
 have hO := Y0 hE
 generalize β 4 = Z39 at *
 have Q91 := bn k_t3 J8g
 have Q92 := bn k_t5 J8g
 have Q93 := bn k_t6 J8g
 have Q94 := bn k_t8 J8g
 have Q5l := bn k_t10 J8g
 have Q5m := bn k_t12 J8g
 have Y0n := fbn off0 J8g
 generalize β 5 = Z3a at *
 have Q95 := bn k_t3 J4i
 have Q96 := bn k_t5 J4i
 have Q97 := bn k_t6 J4i
 have Q98 := bn k_t8 J4i
 have Q5n := bn k_t10 J4i
 have Q5o := bn k_t12 J4i
 have Q5h := fbn off0 J4i
 replace k_t3 := k_t3.o hO
 replace k_t5 := k_t5.o hO
 replace k_t6 := k_t6.o hO
 replace k_t8 := k_t8.o hO
 replace k_t10 := k_t10.o hO
 replace k_t12 := k_t12.o hO
 replace off0 := off0.o hO
 clear hO hE β J8g J4i
 have k_t13 : Blk W15 Z39 (J2 .u8 32 (Q0 0)) 22 := h_t13
 clear h_t13
 have k_t14 : Blk W15 Z3a (J2 .u8 32 (Q0 0)) 22 := h_t14
 clear h_t14
 refine LpA ?_ k_t13 (k := .u8) (n := 32) (f := Q0 (pC P))
 intro W16 hO h_
 replace k_t13 : Blk W16 Z39 (J2 .u8 32 (Q0 (pC P))) 22 := h_
 clear h_
 replace k_t3 := k_t3.p hO Q91
 replace k_t5 := k_t5.p hO Q92
 replace k_t6 := k_t6.p hO Q93
 replace k_t8 := k_t8.p hO Q94
 replace k_t10 := k_t10.p hO Q5l
 replace k_t12 := k_t12.p hO Q5m
 replace k_t14 := k_t14.p hO nq_t13_t14.symm
 replace off0 := off0.p hO Y0n
 clear hO
 refine LpA ?_ k_t14 (k := .u8) (n := 32) (f := Q0 (pN P))
 intro W17 hO h_
 replace k_t14 : Blk W17 Z3a (J2 .u8 32 (Q0 (pN P))) 22 := h_
 clear h_
 replace k_t3 := k_t3.p hO Q95
 replace k_t5 := k_t5.p hO Q96
 replace k_t6 := k_t6.p hO Q97
 replace k_t8 := k_t8.p hO Q98
 replace k_t10 := k_t10.p hO Q5n
 replace k_t12 := k_t12.p hO Q5o
 replace k_t13 := k_t13.p hO nq_t13_t14
 replace off0 := off0.p hO Q5h
 clear hO
 refine LN ?_
 go_upto_region 11 with fail
 refine Rx1 8 15 (z := p4 0 0 0 0) (t := 60) ?_
 refine Xf ?_ (fun W hW => c6 W (J8 (J8 hG off0.ext) hW).1)
 refine XlA ?_ k_t14
 refine Xf ?_ (fun W hW => c12 W (J8 (J8 hG off0.ext) hW).1)
 refine Xl ?_ k_t8
 refine Xf ?_ (fun W hW => c18 W (J8 (J8 hG off0.ext) hW).1)
 refine XlA ?_ k_t13
 refine Xf ?_ (fun W hW => c24 W (J8 (J8 hG off0.ext) hW).1)
 refine Xf ?_ (fun W hW => c30 W (J8 (J8 hG off0.ext) hW).1)
 refine XN ?_
 intro J72 W18 J70 hE h_t15
 have hO := Y0 hE
 have Q99 := bn k_t3 J70
 have Q9a := bn k_t5 J70
 have nq_t6_t15 := bn k_t6 J70
 have Q5p := bn k_t10 J70
 have Q5q := bn k_t12 J70
 have Q5r := bn k_t13 J70
 have Q5s := bn k_t14 J70
 have Y0o := fbn off0 J70
 replace k_t3 := k_t3.o hO
 replace k_t5 := k_t5.o hO
 replace k_t6 := k_t6.o hO
 replace k_t10 := k_t10.o hO
 replace k_t12 := k_t12.o hO
 replace k_t13 := k_t13.o hO
 replace k_t14 := k_t14.o hO
 replace off0 := off0.o hO
 clear hO hE J70
 have k_t15 : Blk W18 J72 (p4 0 0 0 0) 60 := h_t15
 clear h_t15
 refine Lp ?_ k_t15 (cells := p4 x25 y26 z27 t28)
 intro W19 hO h_
 replace k_t15 : Blk W19 J72 (p4 x25 y26 z27 t28) 60 := h_
 clear h_
 replace k_t3 := k_t3.p hO Q99
 replace k_t5 := k_t5.p hO Q9a
 replace k_t6 := k_t6.p hO nq_t6_t15
 replace k_t10 := k_t10.p hO Q5p
 replace k_t12 := k_t12.p hO Q5q
 replace k_t13 := k_t13.p hO Q5r
 replace k_t14 := k_t14.p hO Q5s
 replace off0 := off0.p hO Y0o
 clear hO
 refine LN ?_
 go_upto_region 12 with fail
 refine Rx1 8 16 (z := p4 0 0 0 0) (t := 60) ?_
 refine Xl ?_ k_t12
 refine XlA ?_ k_t14
 refine Xf ?_ (fun W hW => c36 W (J8 (J8 hG off0.ext) hW).1)
 refine Xl ?_ k_t10
 refine Xf ?_ (fun W hW => c42 W (J8 (J8 hG off0.ext) hW).1)
 refine XlA ?_ k_t13
 refine Xf ?_ (fun W hW => c48 W (J8 (J8 hG off0.ext) hW).1)
 refine Xf ?_ (fun W hW => c54 W (J8 (J8 hG off0.ext) hW).1)
 refine XN ?_
 intro J73 W20 J9e hE h_t16
 have hO := Y0 hE
 have Q9b := bn k_t3 J9e
 have Q9c := bn k_t5 J9e
 have nq_t6_t16 := bn k_t6 J9e
 have Q5t := bn k_t10 J9e
 have Q5u := bn k_t12 J9e
 have Q5v := bn k_t15 J9e
 have Y0p := fbn off0 J9e
 replace k_t3 := k_t3.o hO
 replace k_t5 := k_t5.o hO
 replace k_t6 := k_t6.o hO
 replace k_t10 := k_t10.o hO
 replace k_t12 := k_t12.o hO
 replace k_t15 := k_t15.o hO
 replace off0 := off0.o hO
 clear hO hE J9e
 have k_t16 : Blk W20 J73 (p4 0 0 0 0) 60 := h_t16
 clear h_t16
 refine Lp ?_ k_t16 (cells := p4 x49 y50 z51 t52)
 intro W21 hO h_
 replace k_t16 : Blk W21 J73 (p4 x49 y50 z51 t52) 60 := h_
 clear h_
 replace k_t3 := k_t3.p hO Q9b
 replace k_t5 := k_t5.p hO Q9c
 replace k_t6 := k_t6.p hO nq_t6_t16
 replace k_t10 := k_t10.p hO Q5t
 replace k_t12 := k_t12.p hO Q5u
 replace k_t15 := k_t15.p hO Q5v
 replace off0 := off0.p hO Y0p
 clear hO
 refine LN ?_
 by_cases htk : chk V P h = pC P
 ·
  have _f := htk
  go_upto_region 13 with fail
  refine J22 (.q 0 (.q 1 (.q 2 (.q 3 (.q 4 (.q 8 (.q 9 (.e 5 (.e 6 (.q 7 (.q 10 .z))))))))))) (fun W => (Blk W J16 (J2 .u8 32 (Q0 V)) 22) ∧ (Blk W J7u (p4 hx hy hz ht) 60) ∧ (Blk W J71 (p4 gx gy 1 gt) 60) ∧ (Blk W J72 (p4 x25 y26 z27 t28) 60) ∧ (Blk W J73 (p4 x49 y50 z51 t52) 60) ∧ (Blk W J7g (J2 .u8 80 (Q0 P)) 45)) (by kernel_rfl) (by kernel_rfl) ?_
  intro W22 hO
  replace k_t3 := k_t3.o hO
  replace k_t5 := k_t5.o hO
  replace k_t6 := k_t6.o hO
  replace k_t10 := k_t10.o hO
  replace k_t12 := k_t12.o hO
  replace k_t15 := k_t15.o hO
  replace k_t16 := k_t16.o hO
  replace off0 := off0.o hO
  clear hO
  refine ⟨⟨k_t3, k_t12, k_t10, k_t15, k_t16, k_t5⟩, ?_⟩
  refine J0h (v := .agg (J2 .u8 32 (Q0 V))) rfl (by rfl) (fun W hS => by exact (J0u rfl rfl (hS.1) (by kernel_rfl) (by rw [J6]; kernel_rfl))) ?_
  (try simp only [Act.put, mA, mB, mC])
  refine J0h (v := .agg (p4 hx hy hz ht)) rfl (by rfl) (fun W hS => by exact (J0u rfl rfl (hS.2.1) (by kernel_rfl) (by kernel_rfl))) ?_
  (try simp only [Act.put, mA, mB, mC])
  refine J0h (v := .agg (p4 gx gy 1 gt)) rfl (by rfl) (fun W hS => by exact (J0u rfl rfl (hS.2.2.1) (by kernel_rfl) (by kernel_rfl))) ?_
  (try simp only [Act.put, mA, mB, mC])
  refine J0h (v := .agg (p4 x25 y26 z27 t28)) rfl (by rfl) (fun W hS => by exact (J0u rfl rfl (hS.2.2.2.1) (by kernel_rfl) (by kernel_rfl))) ?_
  (try simp only [Act.put, mA, mB, mC])
  refine J0h (v := .agg (p4 x49 y50 z51 t52)) rfl (by rfl) (fun W hS => by exact (J0u rfl rfl (hS.2.2.2.2.1) (by kernel_rfl) (by kernel_rfl))) ?_
  (try simp only [Act.put, mA, mB, mC])
  refine J0h (v := .slice (some ⟨J7g, 32, none⟩) 16 48) rfl (by rfl) (fun W hS => by first | rfl | (go_simp; done) | (go_simp; with_reducible rfl)) ?_
  (try simp only [Act.put, mA, mB, mC])
  refine J0h (v := str (lb 16 (pC P))) rfl (by rfl) (fun W hS => by exact (J9r (J08 (V := (pC P)) (n := 16) (off := 32) (hS.2.2.2.2.2) Y0c (by decide) (by decide)) rfl rfl)) ?_
  (try simp only [Act.put, mA, mB, mC])
  refine J1v rfl ?_
  refine LnS ?_ (z := (p4 hx hy hz ht) ++ (p4 gx gy 1 gt) ++ (p4 x25 y26 z27 t28) ++ (p4 x49 y50 z51 t52)) (t := 60) (n := 4) (c := 4)
  intro Q5w W23 Q7e hO h_
  have nq_t6_s71 := bn k_t6 Q7e
  replace k_t3 := k_t3.o hO
  replace k_t5 := k_t5.o hO
  replace k_t6 := k_t6.o hO
  replace k_t10 := k_t10.o hO
  replace k_t12 := k_t12.o hO
  replace k_t15 := k_t15.o hO
  replace k_t16 := k_t16.o hO
  replace off0 := off0.o hO
  have k_s71 := h_
  clear hO h_ Q7e
  refine J1e (fun W => (Blk W J16 (J2 .u8 32 (Q0 V)) 22) ∧ (Blk W J7u (p4 hx hy hz ht) 60) ∧ (Blk W J71 (p4 gx gy 1 gt) 60) ∧ (Blk W J72 (p4 x25 y26 z27 t28) 60) ∧ (Blk W J73 (p4 x49 y50 z51 t52) 60) ∧ (Blk W J7g (J2 .u8 80 (Q0 P)) 45)) (fun W hS => ⟨hS.1, hS.2.1, hS.2.2.1, hS.2.2.2.1, hS.2.2.2.2.1, hS.2.2.2.2.2⟩) ⟨k_t3, k_t12, k_t10, k_t15, k_t16, k_t5⟩ ?_
  refine J1v rfl ?_
  refine Q0g (R := fun v W => ∃ p, v = .slice (some ⟨p, 0, none⟩) 16 64 ∧ W23.heap.size ≤ p ∧ Off [] W23 W ∧ Blk W p (J2 .u8 64 (Q0 U1)) 30) ((Q5b (kn := kn) hr gr r29 r53 HU1.out Q5w W23 (J8 hG off0.ext) k_s71).mono fun e W h => by obtain ⟨p, h1, h2⟩ := h; exact ⟨_, h1, p, rfl, h2⟩) (by rfl) rfl (by kernel_rfl) rfl ?_
  (try simp only [Act.put, mA, mB, mC])
  rintro _ W24 ⟨pm24, rfl, n_mk, hO, h_⟩
  (try simp only [Act.put, mA, mB, mC])
  have nq_t6_mk := bn k_t6 n_mk
  replace k_t3 := k_t3.o hO
  replace k_t5 := k_t5.o hO
  replace k_t6 := k_t6.o hO
  replace k_t10 := k_t10.o hO
  replace k_t12 := k_t12.o hO
  replace k_t15 := k_t15.o hO
  replace k_t16 := k_t16.o hO
  replace k_s71 := k_s71.o hO
  replace off0 := off0.o hO
  have k_mk := h_
  clear hO h_ n_mk
  refine J1e (fun W => (Blk W J16 (J2 .u8 32 (Q0 V)) 22) ∧ (Blk W J7u (p4 hx hy hz ht) 60) ∧ (Blk W J71 (p4 gx gy 1 gt) 60) ∧ (Blk W J72 (p4 x25 y26 z27 t28) 60) ∧ (Blk W J73 (p4 x49 y50 z51 t52) 60) ∧ (Blk W J7g (J2 .u8 80 (Q0 P)) 45) ∧ (Blk W pm24 (J2 .u8 64 (Q0 U1)) 30)) (fun W hS => ⟨hS.1, hS.2.1, hS.2.2.1, hS.2.2.2.1, hS.2.2.2.2.1, hS.2.2.2.2.2.1⟩) ⟨k_t3, k_t12, k_t10, k_t15, k_t16, k_t5, k_mk⟩ ?_
  refine J0h (v := str (lb 16 U2)) rfl (by rfl) (fun W hS => by exact (J9r (J08 (V := U2) (n := 16) (off := 0) (hS.2.2.2.2.2.2) (h16 HU2.out) (by decide) (by decide)) rfl rfl)) ?_
  (try simp only [Act.put, mA, mB, mC])
  have hc_ : U2 = chk V P h := by rw [HU2.out, HU1.out]; rfl
  refine J0h (v := .bool false) rfl (by rfl) (fun W hS => by exact (Q0w (l := (lb 16 U2)) (m := (lb 16 (pC P))) ((by rw [decide_eq_true (by rw [hc_, htk])]; rfl)) rfl rfl rfl)) ?_
  (try simp only [Act.put, mA, mB, mC])
  refine J9b ?_
  go_upto_region 15 with fail
  refine wp_region_lit ?_
  refine L0A ?_ k_t5
  refine Lr ?_ (Y0e (kn := kn) hc hok HU3.out W24 (J8 hG off0.ext))
  intro W25 hO
  replace k_t3 := k_t3.o hO
  replace k_t5 := k_t5.o hO
  replace k_t6 := k_t6.o hO
  replace k_t10 := k_t10.o hO
  replace k_t12 := k_t12.o hO
  replace k_t15 := k_t15.o hO
  replace k_t16 := k_t16.o hO
  replace k_s71 := k_s71.o hO
  replace k_mk := k_mk.o hO
  replace off0 := off0.o hO
  clear hO
  refine Lv ?_
  refine Lw ?_ (v := .int .i64 0)
  refine LpA ?_ k_t6 (k := .u8) (n := 64) (f := Q0 U3)
  intro W26 hO h_
  replace k_t6 : Blk W26 J5r (J2 .u8 64 (Q0 U3)) 30 := h_
  clear h_
  replace k_t3 := k_t3.p hO Q04
  replace k_t5 := k_t5.p hO J6k
  replace k_t10 := k_t10.p hO nq_t6_t10.symm
  replace k_t12 := k_t12.p hO nq_t6_t12.symm
  replace k_t15 := k_t15.p hO nq_t6_t15.symm
  replace k_t16 := k_t16.p hO nq_t6_t16.symm
  replace k_s71 := k_s71.p hO nq_t6_s71.symm
  replace k_mk := k_mk.p hO nq_t6_mk.symm
  replace off0 := off0.p hO J35
  clear hO
  refine Lw ?_ (v := .int .i64 0)
  refine J0 ?_
  go_wp2
  rw [HU3.out] at k_t6
  obtain ⟨er_, ek_⟩ := HQ.out.1 htk
  rw [er_, ek_]
  exact bodyPost_ret (V5 rfl rfl rfl k_t6 (by kernel_rfl) (by rw [J6]; kernel_rfl)) rfl ⟨rfl, off0.ext⟩
 ·
  have _f := htk
  go_upto_region 13 with fail
  refine J22 (.q 0 (.q 1 (.q 2 (.q 3 (.q 4 (.q 8 (.q 9 (.e 5 (.e 6 (.q 7 (.q 10 .z))))))))))) (fun W => (Blk W J16 (J2 .u8 32 (Q0 V)) 22) ∧ (Blk W J7u (p4 hx hy hz ht) 60) ∧ (Blk W J71 (p4 gx gy 1 gt) 60) ∧ (Blk W J72 (p4 x25 y26 z27 t28) 60) ∧ (Blk W J73 (p4 x49 y50 z51 t52) 60) ∧ (Blk W J7g (J2 .u8 80 (Q0 P)) 45)) (by kernel_rfl) (by kernel_rfl) ?_
  intro W22 hO
  replace k_t3 := k_t3.o hO
  replace k_t5 := k_t5.o hO
  replace k_t6 := k_t6.o hO
  replace k_t10 := k_t10.o hO
  replace k_t12 := k_t12.o hO
  replace k_t15 := k_t15.o hO
  replace k_t16 := k_t16.o hO
  replace off0 := off0.o hO
  clear hO
  refine ⟨⟨k_t3, k_t12, k_t10, k_t15, k_t16, k_t5⟩, ?_⟩
  refine J0h (v := .agg (J2 .u8 32 (Q0 V))) rfl (by rfl) (fun W hS => by exact (J0u rfl rfl (hS.1) (by kernel_rfl) (by rw [J6]; kernel_rfl))) ?_
  (try simp only [Act.put, mA, mB, mC])
  refine J0h (v := .agg (p4 hx hy hz ht)) rfl (by rfl) (fun W hS => by exact (J0u rfl rfl (hS.2.1) (by kernel_rfl) (by kernel_rfl))) ?_
  (try simp only [Act.put, mA, mB, mC])
  refine J0h (v := .agg (p4 gx gy 1 gt)) rfl (by rfl) (fun W hS => by exact (J0u rfl rfl (hS.2.2.1) (by kernel_rfl) (by kernel_rfl))) ?_
  (try simp only [Act.put, mA, mB, mC])
  refine J0h (v := .agg (p4 x25 y26 z27 t28)) rfl (by rfl) (fun W hS => by exact (J0u rfl rfl (hS.2.2.2.1) (by kernel_rfl) (by kernel_rfl))) ?_
  (try simp only [Act.put, mA, mB, mC])
  refine J0h (v := .agg (p4 x49 y50 z51 t52)) rfl (by rfl) (fun W hS => by exact (J0u rfl rfl (hS.2.2.2.2.1) (by kernel_rfl) (by kernel_rfl))) ?_
  (try simp only [Act.put, mA, mB, mC])
  refine J0h (v := .slice (some ⟨J7g, 32, none⟩) 16 48) rfl (by rfl) (fun W hS => by first | rfl | (go_simp; done) | (go_simp; with_reducible rfl)) ?_
  (try simp only [Act.put, mA, mB, mC])
  refine J0h (v := str (lb 16 (pC P))) rfl (by rfl) (fun W hS => by exact (J9r (J08 (V := (pC P)) (n := 16) (off := 32) (hS.2.2.2.2.2) Y0c (by decide) (by decide)) rfl rfl)) ?_
  (try simp only [Act.put, mA, mB, mC])
  refine J1v rfl ?_
  refine LnS ?_ (z := (p4 hx hy hz ht) ++ (p4 gx gy 1 gt) ++ (p4 x25 y26 z27 t28) ++ (p4 x49 y50 z51 t52)) (t := 60) (n := 4) (c := 4)
  intro Q5w W23 Q7e hO h_
  replace k_t3 := k_t3.o hO
  replace k_t5 := k_t5.o hO
  replace k_t6 := k_t6.o hO
  replace k_t10 := k_t10.o hO
  replace k_t12 := k_t12.o hO
  replace k_t15 := k_t15.o hO
  replace k_t16 := k_t16.o hO
  replace off0 := off0.o hO
  have k_s71 := h_
  clear hO h_ Q7e
  refine J1e (fun W => (Blk W J16 (J2 .u8 32 (Q0 V)) 22) ∧ (Blk W J7u (p4 hx hy hz ht) 60) ∧ (Blk W J71 (p4 gx gy 1 gt) 60) ∧ (Blk W J72 (p4 x25 y26 z27 t28) 60) ∧ (Blk W J73 (p4 x49 y50 z51 t52) 60) ∧ (Blk W J7g (J2 .u8 80 (Q0 P)) 45)) (fun W hS => ⟨hS.1, hS.2.1, hS.2.2.1, hS.2.2.2.1, hS.2.2.2.2.1, hS.2.2.2.2.2⟩) ⟨k_t3, k_t12, k_t10, k_t15, k_t16, k_t5⟩ ?_
  refine J1v rfl ?_
  refine Q0g (R := fun v W => ∃ p, v = .slice (some ⟨p, 0, none⟩) 16 64 ∧ W23.heap.size ≤ p ∧ Off [] W23 W ∧ Blk W p (J2 .u8 64 (Q0 U1)) 30) ((Q5b (kn := kn) hr gr r29 r53 HU1.out Q5w W23 (J8 hG off0.ext) k_s71).mono fun e W h => by obtain ⟨p, h1, h2⟩ := h; exact ⟨_, h1, p, rfl, h2⟩) (by rfl) rfl (by kernel_rfl) rfl ?_
  (try simp only [Act.put, mA, mB, mC])
  rintro _ W24 ⟨pm24, rfl, n_mk, hO, h_⟩
  (try simp only [Act.put, mA, mB, mC])
  replace k_t3 := k_t3.o hO
  replace k_t5 := k_t5.o hO
  replace k_t6 := k_t6.o hO
  replace k_t10 := k_t10.o hO
  replace k_t12 := k_t12.o hO
  replace k_t15 := k_t15.o hO
  replace k_t16 := k_t16.o hO
  replace off0 := off0.o hO
  have k_mk := h_
  clear hO h_ n_mk
  refine J1e (fun W => (Blk W J16 (J2 .u8 32 (Q0 V)) 22) ∧ (Blk W J7u (p4 hx hy hz ht) 60) ∧ (Blk W J71 (p4 gx gy 1 gt) 60) ∧ (Blk W J72 (p4 x25 y26 z27 t28) 60) ∧ (Blk W J73 (p4 x49 y50 z51 t52) 60) ∧ (Blk W J7g (J2 .u8 80 (Q0 P)) 45) ∧ (Blk W pm24 (J2 .u8 64 (Q0 U1)) 30)) (fun W hS => ⟨hS.1, hS.2.1, hS.2.2.1, hS.2.2.2.1, hS.2.2.2.2.1, hS.2.2.2.2.2.1⟩) ⟨k_t3, k_t12, k_t10, k_t15, k_t16, k_t5, k_mk⟩ ?_
  refine J0h (v := str (lb 16 U2)) rfl (by rfl) (fun W hS => by exact (J9r (J08 (V := U2) (n := 16) (off := 0) (hS.2.2.2.2.2.2) (h16 HU2.out) (by decide) (by decide)) rfl rfl)) ?_
  (try simp only [Act.put, mA, mB, mC])
  have hc_ : U2 = chk V P h := by rw [HU2.out, HU1.out]; rfl
  refine J0h (v := .bool true) rfl (by rfl) (fun W hS => by exact (Q0w (l := (lb 16 U2)) (m := (lb 16 (pC P))) ((by rw [decide_eq_false fun e => htk (hc_ ▸ Z35 qU2 (Q79 P) e)]; rfl)) rfl rfl rfl)) ?_
  (try simp only [Act.put, mA, mB, mC])
  refine J9b ?_
  go_upto_region 14 with fail
  refine wp_region_lit ?_
  refine Lw ?_ (v := .agg (J2 .u8 64 (Q0 0))) (hv := by kernel_rfl)
  refine LpA ?_ k_t6 (k := .u8) (n := 64) (f := Q0 0)
  intro W25 hO h_
  replace k_t6 : Blk W25 J5r (J2 .u8 64 (Q0 0)) 30 := h_
  clear h_
  replace off0 := off0.p hO J35
  clear hO
  refine Lw ?_ (v := .int .i64 17)
  refine J0 ?_
  go_wp2
  obtain ⟨er_, ek_⟩ := HQ.out.2 htk
  rw [er_, ek_]
  exact bodyPost_ret (V5 rfl rfl rfl k_t6 (by kernel_rfl) (by rw [J6]; kernel_rfl)) rfl ⟨rfl, off0.ext⟩
def J2s (V : Nat) (L : List UInt8) (P : Nat) : Nat × Nat :=
  if dOk V = false ∨ pm (dPt V) 8 = p0 then (0, 15) else if dOk (pG P) = false ∨ LL ≤ pN P then (0, 17) else
  match vpt V L with
  | none => (0, 15)
  | some c => if chk V P (J1f V L c) = pC P then (Q46 P, 0) else (0, 17)
theorem Z69 (hd : kn.d) (hb : kn.b) (hc : kn.c) {V P : Nat} {X : Nat × Nat} {L : List UInt8} (hX : X = J2s V L P) (hV : V < 2 ^ 256) (hP : B80 P) (v : Value) (hL : L.length ≤ 1099511627776) (w : World) (hG : GA kn w) (hsl : Sl w v L) :
    Calls Tryd.prog 26 #[.agg (J2 .u8 32 (Q0 V)), v, .agg (J2 .u8 80 (Q0 P))] w fun e w' => Ret (.tuple #[.agg (J2 .u8 64 (Q0 X.1)), .int .i64 (X.2 : Int)]) w w' e := by
  subst hX
  unfold J2s
  cases hk1 : dOk V
  · rw [if_pos (Or.inl rfl)]; exact Z66 hd hb hc hV hP v L hL hk1 w hG hsl
  by_cases hk2 : pm (dPt V) 8 = p0
  · rw [if_pos (Or.inr hk2)]; exact Z67 hd hb hc hV hP v L hL hk1 hk2 w hG hsl
  rw [if_neg (by rintro (h | h); cases h; exact hk2 h)]
  cases hok : dOk (pG P)
  · rw [if_pos (Or.inl rfl)]
    by_cases h1 : LL ≤ pN P
    · exact Z36 hd hb hc hV hP v L hL hk1 hk2 hok h1 w hG hsl
    · exact Z37 hd hb hc hV hP v L hL hk1 hk2 hok (Nat.not_le.1 h1) w hG hsl
  by_cases h1 : LL ≤ pN P
  · rw [if_pos (Or.inr h1)]; exact Z38 hd hb hc hV hP v L hL hk1 hk2 hok h1 w hG hsl
  rw [if_neg (by rintro (h | h); cases h; exact h1 h)]
  cases hv : vpt V L with
  | none => exact Z68 hd hb hc hV hP v L hL hk1 hk2 hok (Nat.not_le.1 h1) hv w hG hsl
  | some c =>
    by_cases ht : chk V P (J1f V L c) = pC P
    · simp only [if_pos ht]; exact Q7d hd hb hc hV hP v L hL hk1 hk2 hok (Nat.not_le.1 h1) hv rfl ⟨fun _ => ⟨rfl, rfl⟩, fun h => absurd ht h⟩ w hG hsl
    · simp only [if_neg ht]; exact Q7d hd hb hc hV hP v L hL hk1 hk2 hok (Nat.not_le.1 h1) hv rfl ⟨fun h => absurd h ht, fun _ => ⟨rfl, rfl⟩⟩ w hG hsl
end Go.Proofs.YtefpoollmbmkfaaDoor
