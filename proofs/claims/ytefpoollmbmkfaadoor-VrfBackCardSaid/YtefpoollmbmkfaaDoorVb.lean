/- vrf: Prove. Conditions: the cells of the variables hold their numbers. vrf: Check. Conditions: the cells of the variables hold their numbers. -/
import Derived.Test.YtefpoollmbmkfaaDoorGc
import Derived.Test.YtefpoollmbmkfaaDoorVa
set_option linter.unusedSimpArgs false
set_option linter.unusedVariables false
namespace Go.Proofs.YtefpoollmbmkfaaDoor
set_option maxHeartbeats 2000000
set_option maxRecDepth 100000
open Go.RowKit
attribute [local irreducible] wpList J41
variable {kn : Kn}
open Sc (LL J0p)
attribute [local irreducible] hs
theorem h16 {X C : Nat} (hC : C = X % J1w) : ∀ i v, (J2 .u8 16 (Q0 C))[i]? = some v → (J2 .u8 64 (Q0 X))[0 + i]? = some v :=
  Q08 (fun j hj => by rw [hC, show J1w = 2 ^ (8 * 16) from rfl, Q7q hj, Nat.zero_add]) (by decide)
theorem Q7t (hc : kn.c) {V c0 : Nat} {L : List UInt8} (hL : L.length ≤ 1099511627776) (hv : vpt V L = some c0) {h : Pr} (hh : h = J0k V L c0) :
    ∃ X Y Z T, RN X Y Z T h ∧ ∀ v w, GA kn w → Sl w v L → Calls Tryd.prog 60 #[.agg (J2 .u8 32 (Q0 V)), v] w fun e w' => Ret (.tuple #[.agg (p4 X Y Z T), .int .i64 0]) w w' e := by
  obtain ⟨h1, h2, h3⟩ := J8u hv
  subst hh
  exact Q5o hc hL c0 h1 h2 h3
theorem Q7u (hc : kn.c) {V : Nat} {L : List UInt8} (hL : L.length ≤ 1099511627776) (hv : vpt V L = none) (v : Value) (w : World) (hG : GA kn w) (hs : Sl w v L) :
    Calls Tryd.prog 60 #[.agg (J2 .u8 32 (Q0 V)), v] w fun e w' => Ret (.tuple #[.agg (p4 0 0 0 0), .int .i64 15]) w w' e := Q5p hc hL (Z3a hv) v w hG hs
theorem Z3b {E C n : Nat} (hE : E < 2 ^ 256) (hC : C < J1w) : lb 32 E ++ lb 16 C ++ lb 32 n = lb 80 (E + 2 ^ 256 * (C + J1w * n)) := by
  have e1 : lb 80 (E + 2 ^ 256 * (C + J1w * n)) = lb 32 (E + 2 ^ 256 * (C + J1w * n)) ++ lb 48 ((E + 2 ^ 256 * (C + J1w * n)) / 2 ^ (8 * 32)) := Q5l 32 48 _
  have e2 : lb 48 (C + J1w * n) = lb 16 (C + J1w * n) ++ lb 32 ((C + J1w * n) / 2 ^ (8 * 16)) := Q5l 16 32 _
  rw [e1, show (2 : Nat) ^ (8 * 32) = 2 ^ 256 from rfl, Nat.add_mul_div_left _ _ (by decide), Nat.div_eq_of_lt hE, Nat.zero_add, e2, show (2 : Nat) ^ (8 * 16) = J1w from rfl, Nat.add_mul_div_left _ _ (by decide), Nat.div_eq_of_lt hC, Nat.zero_add, List.append_assoc]
  congr 1
  · rw [← Z2w 32 (E + 2 ^ 256 * (C + J1w * n)), show (2 : Nat) ^ (8 * 32) = 2 ^ 256 from rfl, Nat.add_mul_mod_self_left, Nat.mod_eq_of_lt hE]
  · congr 1
    rw [← Z2w 16 (C + J1w * n), show (2 : Nat) ^ (8 * 16) = J1w from rfl, Nat.add_mul_mod_self_left, Nat.mod_eq_of_lt hC]

theorem Z6l (hd : kn.d) (hb : kn.b) (hc : kn.c) (S c0 : Nat) (v : Value) (L : List UInt8) (hL : L.length ≤ 1099511627776) (hv : vpt (kP S) L = some c0) {h : Pr} (hh : h = J0k (kP S) L c0) :
  ∀ w, GA kn w → Sl w v L → Calls Tryd.prog 23 #[.agg (J2 .u8 32 (Q0 S)), v] w fun e w' => Ret (.tuple #[.agg (J2 .u8 80 (Q0 (vPr S h))), .int .i64 0]) w w' e := by
 obtain ⟨U1, hU1⟩ := V3 (kN S)
 have bU1 : U1 < 2 ^ 256 := by rw [hU1]; exact Q7j _
 have HU1 := Lib.hid hU1
 clear hU1
 obtain ⟨U2, hU2⟩ := V3 (kD S)
 have bU2 : U2 < 2 ^ 256 := by rw [hU2]; exact Q7k _
 have HU2 := Lib.hid hU2
 clear hU2
 obtain ⟨U3, hU3⟩ := V3 (kP S)
 have bU3 : U3 < 2 ^ 256 := by rw [hU3]; exact Q7l _
 have HU3 := Lib.hid hU3
 clear hU3
 have hv_ : vpt U3 L = some c0 := by rw [HU3.out]; exact hv
 have hh_ : h = J0k U3 L c0 := by rw [HU3.out]; exact hh
 obtain ⟨hx, hy, hz, ht, hr, hcl⟩ := Q7t (kn := kn) hc hL hv_ hh_
 obtain ⟨x1, y2, z3, t4, r5, c6⟩ := J3u hd hr.rw (N := U1) bU1
 obtain ⟨U4, hU4⟩ := V3 (enc h)
 have bU4 : U4 < 2 ^ 256 := by rw [hU4]; exact J4m _
 have HU4 := Lib.hid hU4
 clear hU4
 obtain ⟨U5, hU5⟩ := V3 (hs ((lb 32 U2) ++ (lb 32 U4)))
 have HU5 := Lib.hid hU5
 clear hU5
 obtain ⟨U6, hU6⟩ := V3 (U5 % LL)
 have lU6 : U6 < LL := by rw [hU6]; exact mLL _
 have bU6 : U6 < 2 ^ 256 := Nat.lt_trans lU6 J2f
 have HU6 := Lib.hid hU6
 clear hU6
 obtain ⟨x7, y8, z9, t10, r11, c12⟩ := Q2s hb
 obtain ⟨x13, y14, z15, t16, r17, c18⟩ := J3u hd r11.rw (N := U6) (Nat.lt_trans lU6 J2f)
 obtain ⟨x19, y20, z21, t22, r23, c24⟩ := J3u hd hr.rw (N := U6) (Nat.lt_trans lU6 J2f)
 obtain ⟨U7, hU7⟩ := V3 (chH U3 h (pm h U1) (pm BP U6) (pm h U6))
 have HU7 := Lib.hid hU7
 clear hU7
 obtain ⟨U8, hU8⟩ := V3 (U7 % J1w)
 have qU8 : U8 < J1w := by rw [hU8]; exact Nat.mod_lt _ (by decide)
 have HU8 := Lib.hid hU8
 clear hU8
 obtain ⟨U9, hU9⟩ := V3 (U8 % LL)
 have lU9 : U9 < LL := by rw [hU9]; exact mLL _
 have bU9 : U9 < 2 ^ 256 := Nat.lt_trans lU9 J2f
 have HU9 := Lib.hid hU9
 clear hU9
 obtain ⟨U10, hU10⟩ := V3 (U1 % LL)
 have lU10 : U10 < LL := by rw [hU10]; exact mLL _
 have bU10 : U10 < 2 ^ 256 := Nat.lt_trans lU10 J2f
 have HU10 := Lib.hid hU10
 clear hU10
 obtain ⟨U11, hU11⟩ := V3 (U9 * U10 % LL)
 have lU11 : U11 < LL := by rw [hU11]; exact mLL _
 have bU11 : U11 < 2 ^ 256 := Nat.lt_trans lU11 J2f
 have HU11 := Lib.hid hU11
 clear hU11
 obtain ⟨U12, hU12⟩ := V3 ((U6 + U11) % LL)
 have lU12 : U12 < LL := by rw [hU12]; exact mLL _
 have bU12 : U12 < 2 ^ 256 := Nat.lt_trans lU12 J2f
 have HU12 := Lib.hid hU12
 clear hU12
 obtain ⟨U13, hU13⟩ := V3 (enc (pm h U1))
 have bU13 : U13 < 2 ^ 256 := by rw [hU13]; exact J4m _
 have HU13 := Lib.hid hU13
 clear hU13
 intro w hG hsl
 have J7 := hsl
 have off0 : Off [] w w := Off.refl _ _
 go_enter Tryd.func23, Tryd.ntmps23
 go_upto_region 0 with fail
 refine wp_region_lit ?_
 refine Ln ?_ (z := J2 .u8 32 (Q0 S)) (t := 22)
 intro K5 W1 V0 hO h_
 replace J7 := Sl.off J7 hO f0
 replace off0 := off0.o hO
 have k_t2 := h_
 clear hO h_ V0
 refine Ln ?_ (z := J2 .u8 80 (Q0 0)) (t := 45)
 intro J64 W2 J0l hO h_
 have J2b := fbn off0 J0l
 replace k_t2 := k_t2.o hO
 replace J7 := Sl.off J7 hO f0
 replace off0 := off0.o hO
 have k_t4 := h_
 clear hO h_ J0l
 refine Lw ?_ (v := .int .i64 0)
 refine J0 ?_
 go_upto_region 1 with fail
 refine wp_region_lit ?_
 refine L0A ?_ k_t2
 refine Lr ?_ (J7l hd hb HU1.out HU2.out HU3.out W2 (J8 hG off0.ext))
 intro W3 hO
 replace k_t2 := k_t2.o hO
 replace k_t4 := k_t4.o hO
 replace J7 := Sl.off J7 hO f0
 replace off0 := off0.o hO
 clear hO
 refine LnP ?_ (z := s3 0 0 0) (t := 25) (cells := s3 U1 U2 U3) (hi := by rw [J17]; kernel_rfl) (hs := by first | rw [J17, J17] | rw [J17] | kernel_rfl) (h1 := by exact Q3f)
 intro J5b W5 J0y hO h_
 replace k_t2 := k_t2.o hO
 replace k_t4 := k_t4.o hO
 replace J7 := Sl.off J7 hO f0
 replace off0 := off0.o hO
 have k_t6 := h_
 clear hO h_ J0y
 refine J0 ?_
 go_upto_region 2 with fail
 refine wp_region_lit ?_
 refine Lv ?_
 refine Y9 (vs := (J2 .u8 32 (Q0 U3)).toList) (by rfl) rfl rfl k_t6 (J2i Z9z) (by kernel_rfl) (by kernel_rfl) ?_
 (try simp only [Act.put, mA, mB, mC])
 refine Lv ?_
 refine Lr ?_ (hcl v W5 (J8 hG off0.ext) J7)
 intro W6 hO
 replace k_t2 := k_t2.o hO
 replace k_t4 := k_t4.o hO
 replace k_t6 := k_t6.o hO
 replace J7 := Sl.off J7 hO f0
 replace off0 := off0.o hO
 clear hO
 refine Lv ?_
 refine Lv ?_
 refine Lw ?_ (v := .int .i64 0)
 refine LnP ?_ (z := p4 0 0 0 0) (t := 60) (cells := p4 hx hy hz ht)
 intro J9w W8 V8 hO h_
 replace k_t2 := k_t2.o hO
 replace k_t4 := k_t4.o hO
 replace k_t6 := k_t6.o hO
 replace J7 := Sl.off J7 hO f0
 replace off0 := off0.o hO
 have k_t7 := h_
 clear hO h_ V8
 refine Lw ?_ (v := .int .i64 0)
 refine J0 ?_
 go_upto_region 5 with fail
 refine wp_region_lit ?_
 refine L0 ?_ k_t7
 refine Lv ?_
 refine Y9 (vs := (J2 .u8 32 (Q0 U1)).toList) (by rfl) rfl rfl k_t6 (J2i Z9x) (by kernel_rfl) (by kernel_rfl) ?_
 (try simp only [Act.put, mA, mB, mC])
 refine Lr ?_ (c6 W8 (J8 hG off0.ext).1)
 intro W9 hO
 replace k_t2 := k_t2.o hO
 replace k_t4 := k_t4.o hO
 replace k_t6 := k_t6.o hO
 replace k_t7 := k_t7.o hO
 replace J7 := Sl.off J7 hO f0
 replace off0 := off0.o hO
 clear hO
 refine LnP ?_ (z := p4 0 0 0 0) (t := 60) (cells := p4 x1 y2 z3 t4)
 intro J76 W11 J4v hO h_
 replace k_t2 := k_t2.o hO
 replace k_t4 := k_t4.o hO
 replace k_t6 := k_t6.o hO
 replace k_t7 := k_t7.o hO
 replace J7 := Sl.off J7 hO f0
 replace off0 := off0.o hO
 have k_t9 := h_
 clear hO h_ J4v
 refine J0 ?_
 go_upto_region 6 with fail
 refine wp_region_lit ?_
 refine L0 ?_ k_t7
 refine Lr ?_ (J73 hr.rw HU4.out W11 (J8 hG off0.ext).1)
 intro W12 hO
 replace k_t2 := k_t2.o hO
 replace k_t4 := k_t4.o hO
 replace k_t6 := k_t6.o hO
 replace k_t7 := k_t7.o hO
 replace k_t9 := k_t9.o hO
 replace J7 := Sl.off J7 hO f0
 replace off0 := off0.o hO
 clear hO
 refine LnA ?_ (z := J2 .u8 32 (Q0 0)) (t := 22) (k := .u8) (n := 32) (f := Q0 U4)
 intro J5c W14 J12 hO h_
 replace k_t2 := k_t2.o hO
 replace k_t4 := k_t4.o hO
 replace k_t6 := k_t6.o hO
 replace k_t7 := k_t7.o hO
 replace k_t9 := k_t9.o hO
 replace J7 := Sl.off J7 hO f0
 replace off0 := off0.o hO
 have k_t10 := h_
 clear hO h_ J12
 refine J0 ?_
 go_upto_region 7 with fail
 refine Q1g (.q 0 (.q 1 (.q 2 (.b 3 (.b 4 (.e 5 (.e 6 .z)) 5 (.e 4 (.e 6 .z))) 5 (.e 3 (.e 4 (.e 6 .z))))))) (fun W => True) (fun a0 a_ wr => ∃ (j_s38 : Nat) (j_t11 : Nat), a_ = Z1r a0 [(35, .pointer (some ⟨J5b, 32, none⟩)), (36, .slice (some ⟨J5b, 32, none⟩) 32 32), (37, .slice (some ⟨J5c, 0, none⟩) 32 32), (38, .slice (some ⟨j_s38, 0, none⟩) 2 2), (39, .agg (J2 .u8 64 (Q0 U5))), (11, .pointer (some ⟨j_t11, 0, none⟩))] ∧ Off [] w wr ∧ Blk wr K5 (J2 .u8 32 (Q0 S)) 22 ∧ Blk wr J64 (J2 .u8 80 (Q0 0)) 45 ∧ Blk wr J5b (s3 U1 U2 U3) 25 ∧ Blk wr J9w (p4 hx hy hz ht) 60 ∧ Blk wr J76 (p4 x1 y2 z3 t4) 60 ∧ Blk wr J5c (J2 .u8 32 (Q0 U4)) 22 ∧ Blk wr j_s38 #[.slice (some ⟨J5b, 32, none⟩) 32 32, .slice (some ⟨J5c, 0, none⟩) 32 32] 23 ∧ Blk wr j_t11 (J2 .u8 64 (Q0 U5)) 30 ∧ Sl wr v L ∧ Fb j_s38 w.heap.size [] ∧ K5 ≠ j_s38 ∧ J64 ≠ j_s38 ∧ J5b ≠ j_s38 ∧ J9w ≠ j_s38 ∧ J76 ≠ j_s38 ∧ J5c ≠ j_s38 ∧ (sb v L) ≠ some j_s38 ∧ Fb j_t11 w.heap.size [] ∧ K5 ≠ j_t11 ∧ J64 ≠ j_t11 ∧ J5b ≠ j_t11 ∧ J9w ≠ j_t11 ∧ J76 ≠ j_t11 ∧ J5c ≠ j_t11 ∧ j_s38 ≠ j_t11 ∧ (sb v L) ≠ some j_t11) (by kernel_rfl) (by kernel_rfl) ?_ ?_
 ·
  have _f := True.intro
  intro W15 hO
  replace k_t2 := k_t2.o hO
  replace k_t4 := k_t4.o hO
  replace k_t6 := k_t6.o hO
  replace k_t7 := k_t7.o hO
  replace k_t9 := k_t9.o hO
  replace k_t10 := k_t10.o hO
  replace J7 := Sl.off J7 hO f0
  replace off0 := off0.o hO
  clear hO
  refine ⟨trivial, ?_⟩
  (refine J0n (v := ?_) rfl (by rfl) (fun W hS => ?_) ?_; rotate_left 1; (focus (go_simp; first | done | with_reducible rfl)))
  (try simp only [Act.put, mA, mB, mC])
  refine J0n (v := .slice (some ⟨J5b, 32, none⟩) 32 32) rfl (by rfl) (fun W hS => by first | rfl | (go_simp; done) | (go_simp; with_reducible rfl)) ?_
  (try simp only [Act.put, mA, mB, mC])
  refine J0n (v := .slice (some ⟨J5c, 0, none⟩) 32 32) rfl (by rfl) (fun W hS => by first | rfl | (go_simp; done) | (go_simp; with_reducible rfl)) ?_
  (try simp only [Act.put, mA, mB, mC])
  refine Z7o rfl rfl ?_ ?_
  ·
   have _f := True.intro
   refine LnS ?_ (z := #[.slice (some ⟨J5b, 32, none⟩) 32 32, .slice (some ⟨J5c, 0, none⟩) 32 32]) (t := 23) (n := 2) (c := 2) (hr := by exact J27 [.slice (some ⟨J5b, 32, none⟩) 32 32, .slice (some ⟨J5c, 0, none⟩) 32 32] rfl rfl (vsc (rfl) (vsc (rfl) vs0)) Tryd.underlying112 (by kernel_rfl) (by kernel_rfl) rfl (by decide) (by decide))
   intro Q3i W16 J2y hO h_
   have J5q := bn k_t2 J2y
   have J5r := bn k_t4 J2y
   have J5s := bn k_t6 J2y
   have J5t := bn k_t7 J2y
   have J5u := bn k_t9 J2y
   have J4o := bn k_t10 J2y
   have J77 := J04 (Sl.lt J7) J2y
   have Q13 := fbn off0 J2y
   replace k_t2 := k_t2.o hO
   replace k_t4 := k_t4.o hO
   replace k_t6 := k_t6.o hO
   replace k_t7 := k_t7.o hO
   replace k_t9 := k_t9.o hO
   replace k_t10 := k_t10.o hO
   replace J7 := Sl.off J7 hO f0
   replace off0 := off0.o hO
   have k_s38 := h_
   clear hO h_ J2y
   refine J1k (fun W => True) (fun W hS => trivial) trivial ?_
   refine Z7o rfl rfl ?_ ?_
   ·
    have _f := True.intro
    refine Lr ?_ (J66 HU5.out [lb 32 U2, lb 32 U4] (some ⟨Q3i, 0, none⟩) 2 (by simp only [List.flatten_cons, List.flatten_nil, List.append_nil, List.nil_append, List.append_assoc, List.cons_append]) (by first | omega | (simp only [List.length_append, List.length_cons, List.length_nil, Z7]; omega)) (by simp) W16 (J51 k_s38 (pvc (J0c (V := U2) (n := 32) (off := 32) k_t6 Z9y (by decide) (by decide)) (pvc (J0c (V := U4) (n := 32) (off := 0) k_t10 ap0 (by decide) (by decide)) pv0))) (J8 hG off0.ext).2.1)
    intro W17 hO
    replace k_t2 := k_t2.o hO
    replace k_t4 := k_t4.o hO
    replace k_t6 := k_t6.o hO
    replace k_t7 := k_t7.o hO
    replace k_t9 := k_t9.o hO
    replace k_t10 := k_t10.o hO
    replace k_s38 := k_s38.o hO
    replace J7 := Sl.off J7 hO f0
    replace off0 := off0.o hO
    clear hO
    refine J1k (fun W => True) (fun W hS => trivial) trivial ?_
    refine J20 rfl ?_
    refine Ln ?_ (z := J2 .u8 64 (Q0 0)) (t := 30)
    intro Z3c W18 Y6 hO h_
    have J29 := bn k_t2 Y6
    have J1s := bn k_t4 Y6
    have U0 := bn k_t6 Y6
    have J2a := bn k_t7 Y6
    have nq_t9_t11 := bn k_t9 Y6
    have nq_t10_t11 := bn k_t10 Y6
    have J3n := bn k_s38 Y6
    have J1x := J04 (Sl.lt J7) Y6
    have J1o := fbn off0 Y6
    replace k_t2 := k_t2.o hO
    replace k_t4 := k_t4.o hO
    replace k_t6 := k_t6.o hO
    replace k_t7 := k_t7.o hO
    replace k_t9 := k_t9.o hO
    replace k_t10 := k_t10.o hO
    replace k_s38 := k_s38.o hO
    replace J7 := Sl.off J7 hO f0
    replace off0 := off0.o hO
    have k_t11 := h_
    clear hO h_ Y6
    refine J1k (fun W => True) (fun W hS => trivial) trivial ?_
    refine J20 rfl ?_
    refine LpA ?_ k_t11 (k := .u8) (n := 64) (f := Q0 U5)
    intro W19 hO h_
    replace k_t11 : Blk W19 Z3c (J2 .u8 64 (Q0 U5)) 30 := h_
    clear h_
    replace k_t2 := k_t2.p hO J29
    replace k_t4 := k_t4.p hO J1s
    replace k_t6 := k_t6.p hO U0
    replace k_t7 := k_t7.p hO J2a
    replace k_t9 := k_t9.p hO nq_t9_t11
    replace k_t10 := k_t10.p hO nq_t10_t11
    replace k_s38 := k_s38.p hO J3n
    replace J7 := Sl.off J7 hO (f1 J1x)
    replace off0 := off0.p hO J1o
    clear hO
    refine J1k (fun W => True) (fun W hS => trivial) trivial ?_
    refine J9o ?_
    exact ⟨Q3i, Z3c, (by (simp only [Z1r, List.foldl_cons, List.foldl_nil, Act.put, mA, mB, mC] <;> rfl)), off0, k_t2, k_t4, k_t6, k_t7, k_t9, k_t10, k_s38, k_t11, J7, Q13, J5q, J5r, J5s, J5t, J5u, J4o, J77, J1o, J29, J1s, U0, J2a, nq_t9_t11, nq_t10_t11, J3n, J1x⟩
   ·
    have _f := True.intro
    refine Ln ?_ (z := J2 .u8 64 (Q0 0)) (t := 30)
    intro Z3d W17 Y6 hO h_
    have J29 := bn k_t2 Y6
    have J1s := bn k_t4 Y6
    have U0 := bn k_t6 Y6
    have J2a := bn k_t7 Y6
    have nq_t9_t11 := bn k_t9 Y6
    have nq_t10_t11 := bn k_t10 Y6
    have J3n := bn k_s38 Y6
    have J1x := J04 (Sl.lt J7) Y6
    have J1o := fbn off0 Y6
    replace k_t2 := k_t2.o hO
    replace k_t4 := k_t4.o hO
    replace k_t6 := k_t6.o hO
    replace k_t7 := k_t7.o hO
    replace k_t9 := k_t9.o hO
    replace k_t10 := k_t10.o hO
    replace k_s38 := k_s38.o hO
    replace J7 := Sl.off J7 hO f0
    replace off0 := off0.o hO
    have k_t11 := h_
    clear hO h_ Y6
    refine J1k (fun W => True) (fun W hS => trivial) trivial ?_
    refine J20 rfl ?_
    refine Lr ?_ (J66 HU5.out [lb 32 U2, lb 32 U4] (some ⟨Q3i, 0, none⟩) 2 (by simp only [List.flatten_cons, List.flatten_nil, List.append_nil, List.nil_append, List.append_assoc, List.cons_append]) (by first | omega | (simp only [List.length_append, List.length_cons, List.length_nil, Z7]; omega)) (by simp) W17 (J51 k_s38 (pvc (J0c (V := U2) (n := 32) (off := 32) k_t6 Z9y (by decide) (by decide)) (pvc (J0c (V := U4) (n := 32) (off := 0) k_t10 ap0 (by decide) (by decide)) pv0))) (J8 hG off0.ext).2.1)
    intro W18 hO
    replace k_t2 := k_t2.o hO
    replace k_t4 := k_t4.o hO
    replace k_t6 := k_t6.o hO
    replace k_t7 := k_t7.o hO
    replace k_t9 := k_t9.o hO
    replace k_t10 := k_t10.o hO
    replace k_s38 := k_s38.o hO
    replace k_t11 := k_t11.o hO
    replace J7 := Sl.off J7 hO f0
    replace off0 := off0.o hO
    clear hO
    refine J1k (fun W => True) (fun W hS => trivial) trivial ?_
    refine J20 rfl ?_
    refine LpA ?_ k_t11 (k := .u8) (n := 64) (f := Q0 U5)
    intro W19 hO h_
    replace k_t11 : Blk W19 Z3d (J2 .u8 64 (Q0 U5)) 30 := h_
    clear h_
    replace k_t2 := k_t2.p hO J29
    replace k_t4 := k_t4.p hO J1s
    replace k_t6 := k_t6.p hO U0
    replace k_t7 := k_t7.p hO J2a
    replace k_t9 := k_t9.p hO nq_t9_t11
    replace k_t10 := k_t10.p hO nq_t10_t11
    replace k_s38 := k_s38.p hO J3n
    replace J7 := Sl.off J7 hO (f1 J1x)
    replace off0 := off0.p hO J1o
    clear hO
    refine J1k (fun W => True) (fun W hS => trivial) trivial ?_
    refine J9o ?_
    exact ⟨Q3i, Z3d, (by (simp only [Z1r, List.foldl_cons, List.foldl_nil, Act.put, mA, mB, mC] <;> rfl)), off0, k_t2, k_t4, k_t6, k_t7, k_t9, k_t10, k_s38, k_t11, J7, Q13, J5q, J5r, J5s, J5t, J5u, J4o, J77, J1o, J29, J1s, U0, J2a, nq_t9_t11, nq_t10_t11, J3n, J1x⟩
  ·
   have _f := True.intro
   refine Ln ?_ (z := J2 .u8 64 (Q0 0)) (t := 30)
   intro Z3e W16 Y6 hO h_
   have J29 := bn k_t2 Y6
   have J1s := bn k_t4 Y6
   have U0 := bn k_t6 Y6
   have J2a := bn k_t7 Y6
   have nq_t9_t11 := bn k_t9 Y6
   have nq_t10_t11 := bn k_t10 Y6
   have J1x := J04 (Sl.lt J7) Y6
   have J1o := fbn off0 Y6
   replace k_t2 := k_t2.o hO
   replace k_t4 := k_t4.o hO
   replace k_t6 := k_t6.o hO
   replace k_t7 := k_t7.o hO
   replace k_t9 := k_t9.o hO
   replace k_t10 := k_t10.o hO
   replace J7 := Sl.off J7 hO f0
   replace off0 := off0.o hO
   have k_t11 := h_
   clear hO h_ Y6
   refine J1k (fun W => True) (fun W hS => trivial) trivial ?_
   refine J20 rfl ?_
   refine LnS ?_ (z := #[.slice (some ⟨J5b, 32, none⟩) 32 32, .slice (some ⟨J5c, 0, none⟩) 32 32]) (t := 23) (n := 2) (c := 2) (hr := by exact J27 [.slice (some ⟨J5b, 32, none⟩) 32 32, .slice (some ⟨J5c, 0, none⟩) 32 32] rfl rfl (vsc (rfl) (vsc (rfl) vs0)) Tryd.underlying112 (by kernel_rfl) (by kernel_rfl) rfl (by decide) (by decide))
   intro Z3f W17 J2y hO h_
   have J5q := bn k_t2 J2y
   have J5r := bn k_t4 J2y
   have J5s := bn k_t6 J2y
   have J5t := bn k_t7 J2y
   have J5u := bn k_t9 J2y
   have J4o := bn k_t10 J2y
   have nq_t11_s38 := bn k_t11 J2y
   have J77 := J04 (Sl.lt J7) J2y
   have Q13 := fbn off0 J2y
   replace k_t2 := k_t2.o hO
   replace k_t4 := k_t4.o hO
   replace k_t6 := k_t6.o hO
   replace k_t7 := k_t7.o hO
   replace k_t9 := k_t9.o hO
   replace k_t10 := k_t10.o hO
   replace k_t11 := k_t11.o hO
   replace J7 := Sl.off J7 hO f0
   replace off0 := off0.o hO
   have k_s38 := h_
   clear hO h_ J2y
   refine J1k (fun W => True) (fun W hS => trivial) trivial ?_
   refine J20 rfl ?_
   refine Lr ?_ (J66 HU5.out [lb 32 U2, lb 32 U4] (some ⟨Z3f, 0, none⟩) 2 (by simp only [List.flatten_cons, List.flatten_nil, List.append_nil, List.nil_append, List.append_assoc, List.cons_append]) (by first | omega | (simp only [List.length_append, List.length_cons, List.length_nil, Z7]; omega)) (by simp) W17 (J51 k_s38 (pvc (J0c (V := U2) (n := 32) (off := 32) k_t6 Z9y (by decide) (by decide)) (pvc (J0c (V := U4) (n := 32) (off := 0) k_t10 ap0 (by decide) (by decide)) pv0))) (J8 hG off0.ext).2.1)
   intro W18 hO
   replace k_t2 := k_t2.o hO
   replace k_t4 := k_t4.o hO
   replace k_t6 := k_t6.o hO
   replace k_t7 := k_t7.o hO
   replace k_t9 := k_t9.o hO
   replace k_t10 := k_t10.o hO
   replace k_t11 := k_t11.o hO
   replace k_s38 := k_s38.o hO
   replace J7 := Sl.off J7 hO f0
   replace off0 := off0.o hO
   clear hO
   refine J1k (fun W => True) (fun W hS => trivial) trivial ?_
   refine J20 rfl ?_
   refine LpA ?_ k_t11 (k := .u8) (n := 64) (f := Q0 U5)
   intro W19 hO h_
   replace k_t11 : Blk W19 Z3e (J2 .u8 64 (Q0 U5)) 30 := h_
   clear h_
   replace k_t2 := k_t2.p hO J29
   replace k_t4 := k_t4.p hO J1s
   replace k_t6 := k_t6.p hO U0
   replace k_t7 := k_t7.p hO J2a
   replace k_t9 := k_t9.p hO nq_t9_t11
   replace k_t10 := k_t10.p hO nq_t10_t11
   replace k_s38 := k_s38.p hO nq_t11_s38.symm
   replace J7 := Sl.off J7 hO (f1 J1x)
   replace off0 := off0.p hO J1o
   clear hO
   refine J1k (fun W => True) (fun W hS => trivial) trivial ?_
   refine J9o ?_
   exact ⟨Z3f, Z3e, (by (simp only [Z1r, List.foldl_cons, List.foldl_nil, Act.put, mA, mB, mC] <;> rfl)), off0, k_t2, k_t4, k_t6, k_t7, k_t9, k_t10, k_s38, k_t11, J7, Q13, J5q, J5r, J5s, J5t, J5u, J4o, J77, J1o, J29, J1s, U0, J2a, nq_t9_t11, nq_t10_t11, nq_t11_s38.symm, J1x⟩
 rintro _ W20 ⟨j_s38, j_t11, rfl, off0, k_t2, k_t4, k_t6, k_t7, k_t9, k_t10, k_s38, k_t11, J7, Q13, J5q, J5r, J5s, J5t, J5u, J4o, J77, J1o, J29, J1s, U0, J2a, nq_t9_t11, nq_t10_t11, J3n, J1x⟩
 simp only [Z1r, List.foldl_cons, List.foldl_nil]
 (try simp only [Act.put, mA, mB, mC])
 go_upto_region 8 with fail
 refine wp_region_lit ?_
 refine Lw ?_ (v := .slice (some ⟨j_t11, 0, none⟩) 64 64) (hv := by first | rfl | (go_simp; done) | (go_simp; with_reducible rfl))
 refine Lr ?_ (Z2h HU6.out (n := 64) (off := 0) k_t11 ap0 (by decide) (by rw [HU5.out]; exact Z2z _) (J8 hG off0.ext).2.2.1)
 intro W21 hO
 replace k_t4 := k_t4.o hO
 replace k_t6 := k_t6.o hO
 replace k_t7 := k_t7.o hO
 replace k_t9 := k_t9.o hO
 replace off0 := off0.o hO
 clear hO
 refine LnP ?_ (z := c4 0) (t := 42) (cells := c4 U6)
 intro J78 W23 J6s hO h_
 replace k_t4 := k_t4.o hO
 replace k_t6 := k_t6.o hO
 replace k_t7 := k_t7.o hO
 replace k_t9 := k_t9.o hO
 replace off0 := off0.o hO
 have k_t12 := h_
 clear hO h_ J6s
 refine J0 ?_
 go_upto_region 9 with fail
 refine J26 (.q 0 (.q 1 (.q 2 (.q 3 (.q 5 (.q 8 (.q 9 (.e 4 (.e 6 (.e 7 (.e 10 (.e 11 (.e 12 (.e 13 (.q 14 .z))))))))))))))) (fun W => (Blk W J5b (s3 U1 U2 U3) 25) ∧ (Blk W J9w (p4 hx hy hz ht) 60) ∧ (Blk W J76 (p4 x1 y2 z3 t4) 60) ∧ (Blk W J78 (c4 U6) 42)) (by kernel_rfl) (by kernel_rfl) ?_
 intro W24 hO
 replace k_t4 := k_t4.o hO
 replace k_t6 := k_t6.o hO
 replace k_t7 := k_t7.o hO
 replace k_t9 := k_t9.o hO
 replace k_t12 := k_t12.o hO
 replace off0 := off0.o hO
 clear hO
 refine ⟨⟨k_t6, k_t7, k_t9, k_t12⟩, ?_⟩
 (refine J0n (v := ?_) rfl (by rfl) (fun W hS => ?_) ?_; rotate_left 1; (focus (go_simp; first | done | with_reducible rfl)))
 (try simp only [Act.put, mA, mB, mC])
 refine J0n (v := .agg (J2 .u8 32 (Q0 U3))) rfl (by rfl) (fun W hS => by exact (J97 (vs := (J2 .u8 32 (Q0 U3)).toList) rfl rfl (fun i v hv => by rw [Q3 (hS.1)]; exact Z9z i v (by simpa using hv)) (by kernel_rfl) (by kernel_rfl))) ?_
 (try simp only [Act.put, mA, mB, mC])
 refine J0n (v := .agg (p4 hx hy hz ht)) rfl (by rfl) (fun W hS => by exact (J0z rfl rfl (hS.2.1) (by kernel_rfl) (by kernel_rfl))) ?_
 (try simp only [Act.put, mA, mB, mC])
 refine J0n (v := .agg (p4 x1 y2 z3 t4)) rfl (by rfl) (fun W hS => by exact (J0z rfl rfl (hS.2.2.1) (by kernel_rfl) (by kernel_rfl))) ?_
 (try simp only [Act.put, mA, mB, mC])
 refine J0n (v := .agg (c4 U6)) rfl (by rfl) (fun W hS => by exact (J0z rfl rfl (hS.2.2.2) (by kernel_rfl) (by kernel_rfl))) ?_
 (try simp only [Act.put, mA, mB, mC])
 refine J0n (v := .agg (p4 hx hy hz ht)) rfl (by rfl) (fun W hS => by exact (J0z rfl rfl (hS.2.1) (by kernel_rfl) (by kernel_rfl))) ?_
 (try simp only [Act.put, mA, mB, mC])
 refine J0n (v := .agg (c4 U6)) rfl (by rfl) (fun W hS => by exact (J0z rfl rfl (hS.2.2.2) (by kernel_rfl) (by kernel_rfl))) ?_
 (try simp only [Act.put, mA, mB, mC])
 refine J20 rfl ?_
 refine Lr ?_ (c12 W24 (J8 hG off0.ext).1)
 intro W25 hO
 replace k_t4 := k_t4.o hO
 replace k_t6 := k_t6.o hO
 replace k_t7 := k_t7.o hO
 replace k_t9 := k_t9.o hO
 replace k_t12 := k_t12.o hO
 replace off0 := off0.o hO
 clear hO
 refine J1k (fun W => (Blk W J5b (s3 U1 U2 U3) 25) ∧ (Blk W J9w (p4 hx hy hz ht) 60) ∧ (Blk W J76 (p4 x1 y2 z3 t4) 60) ∧ (Blk W J78 (c4 U6) 42)) (fun W hS => ⟨hS.1, hS.2.1, hS.2.2.1, hS.2.2.2⟩) ⟨k_t6, k_t7, k_t9, k_t12⟩ ?_
 refine J20 rfl ?_
 refine Lr ?_ (J8n lU6 W25 (J8 hG off0.ext).2.2.1)
 intro W26 hO
 replace k_t4 := k_t4.o hO
 replace k_t6 := k_t6.o hO
 replace k_t7 := k_t7.o hO
 replace k_t9 := k_t9.o hO
 replace k_t12 := k_t12.o hO
 replace off0 := off0.o hO
 clear hO
 refine J1k (fun W => (Blk W J5b (s3 U1 U2 U3) 25) ∧ (Blk W J9w (p4 hx hy hz ht) 60) ∧ (Blk W J76 (p4 x1 y2 z3 t4) 60) ∧ (Blk W J78 (c4 U6) 42)) (fun W hS => ⟨hS.1, hS.2.1, hS.2.2.1, hS.2.2.2⟩) ⟨k_t6, k_t7, k_t9, k_t12⟩ ?_
 refine J20 rfl ?_
 refine Lr ?_ (c18 W26 (J8 hG off0.ext).1)
 intro W27 hO
 replace k_t4 := k_t4.o hO
 replace k_t6 := k_t6.o hO
 replace k_t7 := k_t7.o hO
 replace k_t9 := k_t9.o hO
 replace k_t12 := k_t12.o hO
 replace off0 := off0.o hO
 clear hO
 refine J1k (fun W => (Blk W J5b (s3 U1 U2 U3) 25) ∧ (Blk W J9w (p4 hx hy hz ht) 60) ∧ (Blk W J76 (p4 x1 y2 z3 t4) 60) ∧ (Blk W J78 (c4 U6) 42)) (fun W hS => ⟨hS.1, hS.2.1, hS.2.2.1, hS.2.2.2⟩) ⟨k_t6, k_t7, k_t9, k_t12⟩ ?_
 refine J20 rfl ?_
 refine Lr ?_ (J8n lU6 W27 (J8 hG off0.ext).2.2.1)
 intro W28 hO
 replace k_t4 := k_t4.o hO
 replace k_t6 := k_t6.o hO
 replace k_t7 := k_t7.o hO
 replace k_t9 := k_t9.o hO
 replace k_t12 := k_t12.o hO
 replace off0 := off0.o hO
 clear hO
 refine J1k (fun W => (Blk W J5b (s3 U1 U2 U3) 25) ∧ (Blk W J9w (p4 hx hy hz ht) 60) ∧ (Blk W J76 (p4 x1 y2 z3 t4) 60) ∧ (Blk W J78 (c4 U6) 42)) (fun W hS => ⟨hS.1, hS.2.1, hS.2.2.1, hS.2.2.2⟩) ⟨k_t6, k_t7, k_t9, k_t12⟩ ?_
 refine J20 rfl ?_
 refine Lr ?_ (c24 W28 (J8 hG off0.ext).1)
 intro W29 hO
 replace k_t4 := k_t4.o hO
 replace k_t6 := k_t6.o hO
 replace k_t7 := k_t7.o hO
 replace k_t9 := k_t9.o hO
 replace k_t12 := k_t12.o hO
 replace off0 := off0.o hO
 clear hO
 refine J1k (fun W => (Blk W J5b (s3 U1 U2 U3) 25) ∧ (Blk W J9w (p4 hx hy hz ht) 60) ∧ (Blk W J76 (p4 x1 y2 z3 t4) 60) ∧ (Blk W J78 (c4 U6) 42)) (fun W hS => ⟨hS.1, hS.2.1, hS.2.2.1, hS.2.2.2⟩) ⟨k_t6, k_t7, k_t9, k_t12⟩ ?_
 refine J20 rfl ?_
 refine LnS ?_ (z := (p4 hx hy hz ht) ++ (p4 x1 y2 z3 t4) ++ (p4 x13 y14 z15 t16) ++ (p4 x19 y20 z21 t22)) (t := 60) (n := 4) (c := 4)
 intro Y0x W30 Y3s hO h_
 replace k_t4 := k_t4.o hO
 replace k_t6 := k_t6.o hO
 replace k_t7 := k_t7.o hO
 replace k_t9 := k_t9.o hO
 replace k_t12 := k_t12.o hO
 replace off0 := off0.o hO
 have Y3t := h_
 clear hO h_ Y3s
 refine J1k (fun W => (Blk W J5b (s3 U1 U2 U3) 25) ∧ (Blk W J9w (p4 hx hy hz ht) 60) ∧ (Blk W J76 (p4 x1 y2 z3 t4) 60) ∧ (Blk W J78 (c4 U6) 42)) (fun W hS => ⟨hS.1, hS.2.1, hS.2.2.1, hS.2.2.2⟩) ⟨k_t6, k_t7, k_t9, k_t12⟩ ?_
 refine J20 rfl ?_
 refine Q0t (R := fun v W => ∃ p, v = .slice (some ⟨p, 0, none⟩) 16 64 ∧ W30.heap.size ≤ p ∧ Off [] W30 W ∧ Blk W p (J2 .u8 64 (Q0 U7)) 30) ((Q5r (kn := kn) hr r5 r17 r23 HU7.out Y0x W30 (J8 hG off0.ext) Y3t).mono fun e W h => by obtain ⟨p, h1, h2⟩ := h; exact ⟨_, h1, p, rfl, h2⟩) (by rfl) rfl (by kernel_rfl) rfl ?_
 (try simp only [Act.put, mA, mB, mC])
 rintro _ W31 ⟨pm31, rfl, n_mk, hO, h_⟩
 (try simp only [Act.put, mA, mB, mC])
 replace k_t4 := k_t4.o hO
 replace k_t6 := k_t6.o hO
 replace k_t7 := k_t7.o hO
 replace k_t9 := k_t9.o hO
 replace k_t12 := k_t12.o hO
 replace off0 := off0.o hO
 have k_mk := h_
 clear hO h_ n_mk
 refine J1k (fun W => (Blk W J5b (s3 U1 U2 U3) 25) ∧ (Blk W J9w (p4 hx hy hz ht) 60) ∧ (Blk W J76 (p4 x1 y2 z3 t4) 60) ∧ (Blk W J78 (c4 U6) 42)) (fun W hS => ⟨hS.1, hS.2.1, hS.2.2.1, hS.2.2.2⟩) ⟨k_t6, k_t7, k_t9, k_t12⟩ ?_
 (refine J0n (v := ?_) rfl (by rfl) (fun W hS => ?_) ?_; rotate_left 1; (focus (go_simp; first | done | with_reducible rfl)))
 (try simp only [Act.put, mA, mB, mC])
 refine J9o ?_
 go_upto_region 10 with fail
 refine Rx1 9 14 (z := J2 .u8 32 (Q0 0)) (t := 22) ?_
 refine Xl ?_ k_t12
 refine Xv ?_
 refine Xf ?_ (fun W hW => Z2h HU9.out (n := 16) (off := 0) (J1 k_mk hW) (h16 HU8.out) (by decide) qU8 (J8 (J8 hG off0.ext) hW).2.2.1)
 refine Xv ?_
 refine Xw ?_ (v := .slice (some ⟨J5b, 0, none⟩) 32 32)
 refine Xf ?_ (fun W hW => Z2h HU10.out (n := 32) (off := 0) (J1 k_t6 hW) Z9x (by decide) bU1 (J8 (J8 hG off0.ext) hW).2.2.1)
 refine Xf ?_ (fun W hW => Y02 HU11.out (Nat.lt_trans lU9 J2f) (Nat.lt_trans lU10 J2f) W (J8 (J8 hG off0.ext) hW).2.2.1)
 refine Xf ?_ (fun W hW => Y03 HU12.out (Nat.lt_trans lU6 J2f) (Nat.lt_trans lU11 J2f) W (J8 (J8 hG off0.ext) hW).2.2.1)
 refine Xf ?_ (fun W hW => J8n lU12 W (J8 (J8 hG off0.ext) hW).2.2.1)
 refine XN ?_
 intro Q3j W32 J4p hE h_t14
 have hO := Z8 hE
 have Q9a := bn k_t4 J4p
 have Q9b := bn k_t9 J4p
 have Q9c := bn k_mk J4p
 have Q5x := fbn off0 J4p
 replace k_t4 := k_t4.o hO
 replace k_t9 := k_t9.o hO
 replace k_mk := k_mk.o hO
 replace off0 := off0.o hO
 clear hO hE J4p
 have k_t14 : Blk W32 Q3j (J2 .u8 32 (Q0 0)) 22 := h_t14
 clear h_t14
 refine LpA ?_ k_t14 (k := .u8) (n := 32) (f := Q0 U12)
 intro W33 hO h_
 replace k_t14 : Blk W33 Q3j (J2 .u8 32 (Q0 U12)) 22 := h_
 clear h_
 replace k_t4 := k_t4.p hO Q9a
 replace k_t9 := k_t9.p hO Q9b
 replace k_mk := k_mk.p hO Q9c
 replace off0 := off0.p hO Q5x
 clear hO
 refine LN ?_
 go_upto_region 11 with fail
 refine wp_region_lit ?_
 refine L0 ?_ k_t9
 refine Lr ?_ (J73 r5.rw HU13.out W33 (J8 hG off0.ext).1)
 intro W34 hO
 replace k_t4 := k_t4.o hO
 replace k_mk := k_mk.o hO
 replace k_t14 := k_t14.o hO
 replace off0 := off0.o hO
 clear hO
 refine LnA ?_ (z := J2 .u8 32 (Q0 0)) (t := 22) (k := .u8) (n := 32) (f := Q0 U13)
 intro Y0y W36 J79 hO h_
 replace k_t4 := k_t4.o hO
 replace k_mk := k_mk.o hO
 replace k_t14 := k_t14.o hO
 replace off0 := off0.o hO
 have k_t15 := h_
 clear hO h_ J79
 refine J0 ?_
 go_upto_region 12 with fail
 refine J26 (.q 1 (.q 3 (.q 5 (.e 0 (.e 2 (.e 4 (.e 6 (.q 7 (.q 8 (.e 9 (.q 10 .z))))))))))) (fun W => True) (by kernel_rfl) (by kernel_rfl) ?_
 intro W37 hO
 replace k_t4 := k_t4.o hO
 replace k_mk := k_mk.o hO
 replace k_t14 := k_t14.o hO
 replace k_t15 := k_t15.o hO
 replace off0 := off0.o hO
 clear hO
 refine ⟨trivial, ?_⟩
 refine J0n (v := .slice (some ⟨Y0y, 0, none⟩) 32 32) rfl (by rfl) (fun W hS => by first | rfl | (go_simp; done) | (go_simp; with_reducible rfl)) ?_
 (try simp only [Act.put, mA, mB, mC])
 (refine J0n (v := ?_) rfl (by rfl) (fun W hS => ?_) ?_; rotate_left 1; (focus (go_simp; first | done | with_reducible rfl)))
 (try simp only [Act.put, mA, mB, mC])
 refine J0n (v := .slice (some ⟨Q3j, 0, none⟩) 32 32) rfl (by rfl) (fun W hS => by first | rfl | (go_simp; done) | (go_simp; with_reducible rfl)) ?_
 (try simp only [Act.put, mA, mB, mC])
 refine J20 rfl ?_
 refine LnS ?_ (z := #[]) (t := 5) (n := 0) (c := 0)
 intro Q14 W38 Q4k hO h_
 have Q29 : Value.ownBlock (.slice (some ⟨Q14, 0, none⟩) 0 0) ≠ some J64 := obn k_t4 Q4k
 have Q9d : Value.ownBlock (.slice (some ⟨Q14, 0, none⟩) 0 0) ≠ some pm31 := obn k_mk Q4k
 have Q15 : Value.ownBlock (.slice (some ⟨Q14, 0, none⟩) 0 0) ≠ some Q3j := obn k_t14 Q4k
 have Z3g : Fr (Value.ownBlock (.slice (some ⟨Q14, 0, none⟩) 0 0)) w.heap.size [] := frn off0 Q4k
 replace k_t4 := k_t4.o hO
 replace k_mk := k_mk.o hO
 replace k_t14 := k_t14.o hO
 replace k_t15 := k_t15.o hO
 replace off0 := off0.o hO
 have Y0z : Own W38 (.slice (some ⟨Q14, 0, none⟩) 0 0) [] := J0b h_ (by rfl) (by show 0 ≤ maxLen; decide)
 clear hO h_ Q4k
 refine J1k (fun W => True) (fun W hS => trivial) trivial ?_
 refine J20 rfl ?_
 refine J0j (xs := []) (ys := (lb 32 U13)) (by rfl) rfl rfl rfl Y0z (J0c (V := U13) (n := 32) (off := 0) k_t15 ap0 (by decide) (by decide)) (by first | omega | (simp only [List.length_append, List.length_cons, List.length_nil, Z7]; omega)) ?_
 (try simp only [Act.put, mA, mB, mC])
 intro Y5p W39 Y10 hO Q3k nil_a69
 clear nil_a69
 have Q2a := J14 Q3k Q29 (J5 k_t4)
 have Q5y := J14 Q3k Q15 (J5 k_t14)
 have Z3h := J23 Q3k Z3g off0.size
 replace k_t4 := V2 k_t4 hO (nmo Q29)
 replace k_mk := V2 k_mk hO (nmo Q9d)
 replace k_t14 := V2 k_t14 hO (nmo Q15)
 replace off0 := off0.step hO (io Z3g)
 clear hO Q3k
 refine J1k (fun W => True) (fun W hS => trivial) trivial ?_
 refine J20 rfl ?_
 refine J0j (xs := ([] ++ (lb 32 U13))) (ys := (lb 16 U8)) (by rfl) rfl rfl rfl Y10 (J0c (V := U8) (n := 16) (off := 0) k_mk (h16 HU8.out) (by decide) (by decide)) (by first | omega | (simp only [List.length_append, List.length_cons, List.length_nil, Z7]; omega)) ?_
 (try simp only [Act.put, mA, mB, mC])
 intro Y5q W40 Y11 hO Q5z nil_a71
 clear nil_a71
 have Q2b := J14 Q5z Q2a (J5 k_t4)
 have Y12 := J23 Q5z Z3h off0.size
 replace k_t4 := V2 k_t4 hO (nmo Q2a)
 replace k_t14 := V2 k_t14 hO (nmo Q5y)
 replace off0 := off0.step hO (io Z3h)
 clear hO Q5z
 refine J1k (fun W => True) (fun W hS => trivial) trivial ?_
 refine J20 rfl ?_
 refine J0j (xs := (([] ++ (lb 32 U13)) ++ (lb 16 U8))) (ys := (lb 32 U12)) (by rfl) rfl rfl rfl Y11 (J0c (V := U12) (n := 32) (off := 0) k_t14 ap0 (by decide) (by decide)) (by first | omega | (simp only [List.length_append, List.length_cons, List.length_nil, Z7]; omega)) ?_
 (try simp only [Act.put, mA, mB, mC])
 intro Q60 W41 Q16 hO Z3i nil_a73
 clear nil_a73
 have Q9e := J14 Z3i Q2b (J5 k_t4)
 replace k_t4 := V2 k_t4 hO (nmo Q2b)
 replace off0 := off0.step hO (io Y12)
 clear hO Z3i
 refine J1k (fun W => (Own W Q60 ((([] ++ (lb 32 U13)) ++ (lb 16 U8)) ++ (lb 32 U12)))) (fun W hS => trivial) Q16 ?_
 have ln_ : ((([] ++ (lb 32 U13)) ++ (lb 16 U8)) ++ (lb 32 U12)).length = 80 := by simp only [List.length_append, Z7, List.length_nil]
 obtain ⟨gz, cz, curz, ez, -, -⟩ := Q4b Q16 (by rw [ln_]; decide)
 rw [ln_] at ez
 refine J0n (v := .pointer (some ⟨gz, 0, none⟩)) rfl (by rfl) (fun W hS => by exact (Z69 (n := 80) rfl (by show Q60 = _; exact ez) Tryd.underlying45)) ?_
 (try simp only [Act.put, mA, mB, mC])
 refine J0n (v := .agg (J2 .u8 80 (Q0 (U13 + 2 ^ 256 * (U8 + J1w * U12))))) rfl (by rfl) (fun W hS => by exact (J97 (vs := (J2 .u8 80 (Q0 (U13 + 2 ^ 256 * (U8 + J1w * U12)))).toList) rfl rfl (Y05 (hS) ez ln_ (by decide) (by rw [List.nil_append]; exact Z3b bU13 qU8)) (by kernel_rfl) (by rw [Array.length_toList, J6]; kernel_rfl))) ?_
 (try simp only [Act.put, mA, mB, mC])
 refine J20 rfl ?_
 refine LpA ?_ k_t4 (k := .u8) (n := 80) (f := Q0 (U13 + 2 ^ 256 * (U8 + J1w * U12)))
 intro W42 hO h_
 replace k_t4 : Blk W42 J64 (J2 .u8 80 (Q0 (U13 + 2 ^ 256 * (U8 + J1w * U12)))) 45 := h_
 clear h_
 replace Q16 := Own.off Q16 hO (f1 Q9e)
 replace off0 := off0.p hO J2b
 clear hO
 refine J1k (fun W => (Own W Q60 ((([] ++ (lb 32 U13)) ++ (lb 16 U8)) ++ (lb 32 U12)))) (fun W hS => hS) Q16 ?_
 (refine J0n (v := ?_) rfl (by rfl) (fun W hS => ?_) ?_; rotate_left 1; (focus (go_simp; first | done | with_reducible rfl)))
 (try simp only [Act.put, mA, mB, mC])
 refine J9o ?_
 go_wp2
 rw [show J2 .u8 80 (Q0 (U13 + 2 ^ 256 * (U8 + J1w * U12))) = J2 .u8 80 (Q0 (vPr S h)) by rw [HU13.out, HU12.out, HU11.out, HU10.out, HU9.out, HU8.out, HU7.out, HU6.out, HU5.out, HU4.out, HU3.out, HU2.out, HU1.out]; rfl] at k_t4
 exact bodyPost_ret (V4 rfl rfl rfl k_t4 (by kernel_rfl) (by rw [J6]; kernel_rfl)) rfl ⟨rfl, off0.ext⟩
theorem Z6m (hd : kn.d) (hb : kn.b) (hc : kn.c) (S : Nat) (v : Value) (L : List UInt8) (hL : L.length ≤ 1099511627776) (hv : vpt (kP S) L = none) :
  ∀ w, GA kn w → Sl w v L → Calls Tryd.prog 23 #[.agg (J2 .u8 32 (Q0 S)), v] w fun e w' => Ret (.tuple #[.agg (J2 .u8 80 (Q0 0)), .int .i64 15]) w w' e := by
 obtain ⟨U1, hU1⟩ := V3 (kN S)
 have bU1 : U1 < 2 ^ 256 := by rw [hU1]; exact Q7j _
 have HU1 := Lib.hid hU1
 clear hU1
 obtain ⟨U2, hU2⟩ := V3 (kD S)
 have bU2 : U2 < 2 ^ 256 := by rw [hU2]; exact Q7k _
 have HU2 := Lib.hid hU2
 clear hU2
 obtain ⟨U3, hU3⟩ := V3 (kP S)
 have bU3 : U3 < 2 ^ 256 := by rw [hU3]; exact Q7l _
 have HU3 := Lib.hid hU3
 clear hU3
 have hv_ : vpt U3 L = none := by rw [HU3.out]; exact hv
 intro w hG hsl
 have J7 := hsl
 have off0 : Off [] w w := Off.refl _ _
 go_enter Tryd.func23, Tryd.ntmps23
 go_upto_region 0 with fail
 refine wp_region_lit ?_
 refine Ln ?_ (z := J2 .u8 32 (Q0 S)) (t := 22)
 intro K5 W1 V0 hO h_
 replace J7 := Sl.off J7 hO f0
 replace off0 := off0.o hO
 have k_t2 := h_
 clear hO h_ V0
 refine Ln ?_ (z := J2 .u8 80 (Q0 0)) (t := 45)
 intro J64 W2 J0l hO h_
 have J2b := fbn off0 J0l
 replace k_t2 := k_t2.o hO
 replace J7 := Sl.off J7 hO f0
 replace off0 := off0.o hO
 have k_t4 := h_
 clear hO h_ J0l
 refine Lw ?_ (v := .int .i64 0)
 refine J0 ?_
 go_upto_region 1 with fail
 refine wp_region_lit ?_
 refine L0A ?_ k_t2
 refine Lr ?_ (J7l hd hb HU1.out HU2.out HU3.out W2 (J8 hG off0.ext))
 intro W3 hO
 replace k_t4 := k_t4.o hO
 replace J7 := Sl.off J7 hO f0
 replace off0 := off0.o hO
 clear hO
 refine LnP ?_ (z := s3 0 0 0) (t := 25) (cells := s3 U1 U2 U3) (hi := by rw [J17]; kernel_rfl) (hs := by first | rw [J17, J17] | rw [J17] | kernel_rfl) (h1 := by exact Q3f)
 intro J5b W5 J0y hO h_
 replace k_t4 := k_t4.o hO
 replace J7 := Sl.off J7 hO f0
 replace off0 := off0.o hO
 have k_t6 := h_
 clear hO h_ J0y
 refine J0 ?_
 go_upto_region 2 with fail
 refine wp_region_lit ?_
 refine Lv ?_
 refine Y9 (vs := (J2 .u8 32 (Q0 U3)).toList) (by rfl) rfl rfl k_t6 (J2i Z9z) (by kernel_rfl) (by kernel_rfl) ?_
 (try simp only [Act.put, mA, mB, mC])
 refine Lv ?_
 refine Lr ?_ (Q7u (kn := kn) hc hL hv_ v W5 (J8 hG off0.ext) J7)
 intro W6 hO
 replace k_t4 := k_t4.o hO
 replace off0 := off0.o hO
 clear hO
 refine Lv ?_
 refine Lv ?_
 refine Lw ?_ (v := .int .i64 15)
 refine LnP ?_ (z := p4 0 0 0 0) (t := 60) (cells := p4 0 0 0 0)
 intro J9w W8 V8 hO h_
 replace k_t4 := k_t4.o hO
 replace off0 := off0.o hO
 clear hO h_ V8
 refine Lw ?_ (v := .int .i64 15)
 refine J0 ?_
 go_upto_region 4 with fail
 refine wp_region_lit ?_
 refine Lw ?_ (v := .agg (J2 .u8 80 (Q0 0))) (hv := by kernel_rfl)
 refine Lw ?_ (v := .int .i64 15)
 refine LpA ?_ k_t4 (k := .u8) (n := 80) (f := Q0 0)
 intro W9 hO h_
 replace k_t4 : Blk W9 J64 (J2 .u8 80 (Q0 0)) 45 := h_
 clear h_
 replace off0 := off0.p hO J2b
 clear hO
 refine Lw ?_ (v := .int .i64 15)
 refine J0 ?_
 go_wp2
 exact bodyPost_ret (V4 rfl rfl rfl k_t4 (by kernel_rfl) (by rw [J6]; kernel_rfl)) rfl ⟨rfl, off0.ext⟩
end Go.Proofs.YtefpoollmbmkfaaDoor

namespace Go.Proofs.YtefpoollmbmkfaaDoor
set_option maxHeartbeats 2000000
set_option maxRecDepth 100000
open Go.RowKit
attribute [local irreducible] wpList J41
variable {kn : Kn}
open Sc (LL J0p)
attribute [local irreducible] hs
theorem Q4l : J1w < 2 ^ 256 := by decide
theorem Z6n {C : Nat} (hC : C < J1w) (v : Value) (w : World) (h : Sl w v (lb 16 C)) : Calls Tryd.prog 66 #[v] w fun e w' => Ret (.agg (J2 .u8 32 (Q0 C))) w w' e := by
  have h2 := Y0p v (lb 16 C) (Z7 _ _) w h
  rw [Q70 16 C hC] at h2
  exact h2
theorem Z3j {A B : Nat} (hA : A < J1w) (hB : B < J1w) (h : lb 16 A = lb 16 B) : A = B := by
  rw [← Q70 16 A hA, ← Q70 16 B hB, h]
theorem Q17 {W : World} {o : Oper} {a : Act} {x y : Operand} {t : TypeId} {l m : List UInt8} {b : Bool} (hb : (!decide (l = m)) = b) (ho : o.op = .binOp .neq 9 x y t) (hx : a.eval x = str l) (hy : a.eval y = str m) : (execOp a.eval o).run Tryd.prog W = .ok (.value (.bool b)) W := by
  exact hb ▸ Q8j ho hx hy
def chk (V P : Nat) (h : Pr) : Nat := ch V h (dPt (pG P)) (V5 (pm BP (pN P)) (pm (J2t (dPt V)) (pC P))) (V5 (pm h (pN P)) (pm (J2t (dPt (pG P))) (pC P)))

theorem Z6o (hd : kn.d) (hb : kn.b) (hc : kn.c) {V P : Nat} (hV : V < 2 ^ 256) (hP : B80 P) (v : Value) (L : List UInt8) (hL : L.length ≤ 1099511627776) (hk1 : dOk V = false) :
  ∀ w, GA kn w → Sl w v L → Calls Tryd.prog 26 #[.agg (J2 .u8 32 (Q0 V)), v, .agg (J2 .u8 80 (Q0 P))] w fun e w' => Ret (.tuple #[.agg (J2 .u8 64 (Q0 0)), .int .i64 15]) w w' e := by
 have kc := Y3p (kn := kn) hc hV hk1
 intro w hG hsl
 have off0 : Off [] w w := Off.refl _ _
 go_enter Tryd.func26, Tryd.ntmps26
 go_upto_region 0 with fail
 refine wp_region_lit ?_
 refine Ln ?_ (z := J2 .u8 32 (Q0 V)) (t := 22)
 intro J1g W1 J09 hO h_
 replace off0 := off0.o hO
 have k_t3 := h_
 clear hO h_ J09
 refine Ln ?_ (z := J2 .u8 80 (Q0 P)) (t := 45)
 intro J7q W2 J06 hO h_
 replace k_t3 := k_t3.o hO
 replace off0 := off0.o hO
 clear hO h_ J06
 refine Ln ?_ (z := J2 .u8 64 (Q0 0)) (t := 30)
 intro J5y W3 J0y hO h_
 have J3d := fbn off0 J0y
 replace k_t3 := k_t3.o hO
 replace off0 := off0.o hO
 have k_t6 := h_
 clear hO h_ J0y
 refine Lw ?_ (v := .int .i64 0)
 refine J0 ?_
 go_upto_region 1 with fail
 refine wp_region_lit ?_
 refine L0A ?_ k_t3
 refine Lr ?_ (kc W3 (J8 hG off0.ext))
 intro W4 hO
 replace k_t6 := k_t6.o hO
 replace off0 := off0.o hO
 clear hO
 refine Lv ?_
 refine Lv ?_
 refine Lw ?_ (v := .int .i64 15)
 refine LnP ?_ (z := p4 0 0 0 0) (t := 60) (cells := p4 0 0 0 0)
 intro J9t W6 K6 hO h_
 replace k_t6 := k_t6.o hO
 replace off0 := off0.o hO
 clear hO h_ K6
 refine Lw ?_ (v := .int .i64 15)
 refine J0 ?_
 go_upto_region 3 with fail
 refine wp_region_lit ?_
 refine Lw ?_ (v := .agg (J2 .u8 64 (Q0 0))) (hv := by kernel_rfl)
 refine Lw ?_ (v := .int .i64 15)
 refine LpA ?_ k_t6 (k := .u8) (n := 64) (f := Q0 0)
 intro W7 hO h_
 replace k_t6 : Blk W7 J5y (J2 .u8 64 (Q0 0)) 30 := h_
 clear h_
 replace off0 := off0.p hO J3d
 clear hO
 refine Lw ?_ (v := .int .i64 15)
 refine J0 ?_
 go_wp2
 exact bodyPost_ret (V4 rfl rfl rfl k_t6 (by kernel_rfl) (by rw [J6]; kernel_rfl)) rfl ⟨rfl, off0.ext⟩
theorem Z6p (hd : kn.d) (hb : kn.b) (hc : kn.c) {V P : Nat} (hV : V < 2 ^ 256) (hP : B80 P) (v : Value) (L : List UInt8) (hL : L.length ≤ 1099511627776) (hk1 : dOk V = true) (hk2 : pm (dPt V) 8 = p0) :
  ∀ w, GA kn w → Sl w v L → Calls Tryd.prog 26 #[.agg (J2 .u8 32 (Q0 V)), v, .agg (J2 .u8 80 (Q0 P))] w fun e w' => Ret (.tuple #[.agg (J2 .u8 64 (Q0 0)), .int .i64 15]) w w' e := by
 obtain ⟨kx, ky, kt, kr, kc⟩ := Y3q (kn := kn) hc hV hk1 hk2
 intro w hG hsl
 have off0 : Off [] w w := Off.refl _ _
 go_enter Tryd.func26, Tryd.ntmps26
 go_upto_region 0 with fail
 refine wp_region_lit ?_
 refine Ln ?_ (z := J2 .u8 32 (Q0 V)) (t := 22)
 intro J1g W1 J09 hO h_
 replace off0 := off0.o hO
 have k_t3 := h_
 clear hO h_ J09
 refine Ln ?_ (z := J2 .u8 80 (Q0 P)) (t := 45)
 intro J7q W2 J06 hO h_
 replace k_t3 := k_t3.o hO
 replace off0 := off0.o hO
 clear hO h_ J06
 refine Ln ?_ (z := J2 .u8 64 (Q0 0)) (t := 30)
 intro J5y W3 J0y hO h_
 have J3d := fbn off0 J0y
 replace k_t3 := k_t3.o hO
 replace off0 := off0.o hO
 have k_t6 := h_
 clear hO h_ J0y
 refine Lw ?_ (v := .int .i64 0)
 refine J0 ?_
 go_upto_region 1 with fail
 refine wp_region_lit ?_
 refine L0A ?_ k_t3
 refine Lr ?_ (kc W3 (J8 hG off0.ext))
 intro W4 hO
 replace k_t6 := k_t6.o hO
 replace off0 := off0.o hO
 clear hO
 refine Lv ?_
 refine Lv ?_
 refine Lw ?_ (v := .int .i64 15)
 refine LnP ?_ (z := p4 0 0 0 0) (t := 60) (cells := p4 kx ky 1 kt)
 intro J9t W6 K6 hO h_
 replace k_t6 := k_t6.o hO
 replace off0 := off0.o hO
 clear hO h_ K6
 refine Lw ?_ (v := .int .i64 15)
 refine J0 ?_
 go_upto_region 3 with fail
 refine wp_region_lit ?_
 refine Lw ?_ (v := .agg (J2 .u8 64 (Q0 0))) (hv := by kernel_rfl)
 refine Lw ?_ (v := .int .i64 15)
 refine LpA ?_ k_t6 (k := .u8) (n := 64) (f := Q0 0)
 intro W7 hO h_
 replace k_t6 : Blk W7 J5y (J2 .u8 64 (Q0 0)) 30 := h_
 clear h_
 replace off0 := off0.p hO J3d
 clear hO
 refine Lw ?_ (v := .int .i64 15)
 refine J0 ?_
 go_wp2
 exact bodyPost_ret (V4 rfl rfl rfl k_t6 (by kernel_rfl) (by rw [J6]; kernel_rfl)) rfl ⟨rfl, off0.ext⟩
theorem Z3k (hd : kn.d) (hb : kn.b) (hc : kn.c) {V P : Nat} (hV : V < 2 ^ 256) (hP : B80 P) (v : Value) (L : List UInt8) (hL : L.length ≤ 1099511627776) (hk1 : dOk V = true) (hk2 : ¬ pm (dPt V) 8 = p0) (hok : dOk (pG P) = false) (h1 : LL ≤ pN P) :
  ∀ w, GA kn w → Sl w v L → Calls Tryd.prog 26 #[.agg (J2 .u8 32 (Q0 V)), v, .agg (J2 .u8 80 (Q0 P))] w fun e w' => Ret (.tuple #[.agg (J2 .u8 64 (Q0 0)), .int .i64 17]) w w' e := by
 obtain ⟨kx, ky, kt, kr, kc⟩ := Q4j (kn := kn) hc hV hk1 hk2
 have pc := Z6i (kn := kn) hc hP hok h1
 intro w hG hsl
 have off0 : Off [] w w := Off.refl _ _
 go_enter Tryd.func26, Tryd.ntmps26
 go_upto_region 0 with fail
 refine wp_region_lit ?_
 refine Ln ?_ (z := J2 .u8 32 (Q0 V)) (t := 22)
 intro J1g W1 J09 hO h_
 replace off0 := off0.o hO
 have k_t3 := h_
 clear hO h_ J09
 refine Ln ?_ (z := J2 .u8 80 (Q0 P)) (t := 45)
 intro J7q W2 J06 hO h_
 replace k_t3 := k_t3.o hO
 replace off0 := off0.o hO
 have k_t5 := h_
 clear hO h_ J06
 refine Ln ?_ (z := J2 .u8 64 (Q0 0)) (t := 30)
 intro J5y W3 J0y hO h_
 have J3d := fbn off0 J0y
 replace k_t3 := k_t3.o hO
 replace k_t5 := k_t5.o hO
 replace off0 := off0.o hO
 have k_t6 := h_
 clear hO h_ J0y
 refine Lw ?_ (v := .int .i64 0)
 refine J0 ?_
 go_upto_region 1 with fail
 refine wp_region_lit ?_
 refine L0A ?_ k_t3
 refine Lr ?_ (kc W3 (J8 hG off0.ext))
 intro W4 hO
 replace k_t5 := k_t5.o hO
 replace k_t6 := k_t6.o hO
 replace off0 := off0.o hO
 clear hO
 refine Lv ?_
 refine Lv ?_
 refine Lw ?_ (v := .int .i64 0)
 refine LnP ?_ (z := p4 0 0 0 0) (t := 60) (cells := p4 kx ky 1 kt)
 intro J9t W6 K6 hO h_
 replace k_t5 := k_t5.o hO
 replace k_t6 := k_t6.o hO
 replace off0 := off0.o hO
 clear hO h_ K6
 refine Lw ?_ (v := .int .i64 0)
 refine J0 ?_
 go_upto_region 4 with fail
 refine wp_region_lit ?_
 refine L0A ?_ k_t5
 refine Lr ?_ (pc W6 (J8 hG off0.ext))
 intro W7 hO
 replace k_t6 := k_t6.o hO
 replace off0 := off0.o hO
 clear hO
 refine Lv ?_
 refine Lv ?_
 refine Lv ?_
 refine Lw ?_ (v := .int .i64 17)
 refine Ln ?_ (z := p4 0 0 0 0) (t := 60)
 intro J7a W8 J12 hO h_
 have nq_t6_t10 := bn k_t6 J12
 have J4h := fbn off0 J12
 replace k_t6 := k_t6.o hO
 replace off0 := off0.o hO
 have k_t10 := h_
 clear hO h_ J12
 refine Ln ?_ (z := c4 0) (t := 42)
 intro Q4m W9 Y6 hO h_
 have U0 := bn k_t6 Y6
 have nq_t10_t11 := bn k_t10 Y6
 have J1o := fbn off0 Y6
 replace k_t6 := k_t6.o hO
 replace k_t10 := k_t10.o hO
 replace off0 := off0.o hO
 have k_t11 := h_
 clear hO h_ Y6
 refine Lp ?_ k_t10 (cells := p4 0 0 0 0)
 intro W10 hO h_
 clear h_
 replace k_t6 := k_t6.p hO nq_t6_t10
 replace k_t11 := k_t11.p hO nq_t10_t11.symm
 replace off0 := off0.p hO J4h
 clear hO
 refine Lp ?_ k_t11 (cells := c4 0)
 intro W11 hO h_
 clear h_
 replace k_t6 := k_t6.p hO U0
 replace off0 := off0.p hO J1o
 clear hO
 refine Lw ?_ (v := .int .i64 17)
 refine J0 ?_
 go_upto_region 6 with fail
 refine wp_region_lit ?_
 refine Lw ?_ (v := .agg (J2 .u8 64 (Q0 0))) (hv := by kernel_rfl)
 refine Lw ?_ (v := .int .i64 17)
 refine LpA ?_ k_t6 (k := .u8) (n := 64) (f := Q0 0)
 intro W12 hO h_
 replace k_t6 : Blk W12 J5y (J2 .u8 64 (Q0 0)) 30 := h_
 clear h_
 replace off0 := off0.p hO J3d
 clear hO
 refine Lw ?_ (v := .int .i64 17)
 refine J0 ?_
 go_wp2
 exact bodyPost_ret (V4 rfl rfl rfl k_t6 (by kernel_rfl) (by rw [J6]; kernel_rfl)) rfl ⟨rfl, off0.ext⟩
theorem Z3l (hd : kn.d) (hb : kn.b) (hc : kn.c) {V P : Nat} (hV : V < 2 ^ 256) (hP : B80 P) (v : Value) (L : List UInt8) (hL : L.length ≤ 1099511627776) (hk1 : dOk V = true) (hk2 : ¬ pm (dPt V) 8 = p0) (hok : dOk (pG P) = false) (h1 : pN P < LL) :
  ∀ w, GA kn w → Sl w v L → Calls Tryd.prog 26 #[.agg (J2 .u8 32 (Q0 V)), v, .agg (J2 .u8 80 (Q0 P))] w fun e w' => Ret (.tuple #[.agg (J2 .u8 64 (Q0 0)), .int .i64 17]) w w' e := by
 obtain ⟨kx, ky, kt, kr, kc⟩ := Q4j (kn := kn) hc hV hk1 hk2
 have pc := Z6j (kn := kn) hc hP hok h1
 intro w hG hsl
 have off0 : Off [] w w := Off.refl _ _
 go_enter Tryd.func26, Tryd.ntmps26
 go_upto_region 0 with fail
 refine wp_region_lit ?_
 refine Ln ?_ (z := J2 .u8 32 (Q0 V)) (t := 22)
 intro J1g W1 J09 hO h_
 replace off0 := off0.o hO
 have k_t3 := h_
 clear hO h_ J09
 refine Ln ?_ (z := J2 .u8 80 (Q0 P)) (t := 45)
 intro J7q W2 J06 hO h_
 replace k_t3 := k_t3.o hO
 replace off0 := off0.o hO
 have k_t5 := h_
 clear hO h_ J06
 refine Ln ?_ (z := J2 .u8 64 (Q0 0)) (t := 30)
 intro J5y W3 J0y hO h_
 have J3d := fbn off0 J0y
 replace k_t3 := k_t3.o hO
 replace k_t5 := k_t5.o hO
 replace off0 := off0.o hO
 have k_t6 := h_
 clear hO h_ J0y
 refine Lw ?_ (v := .int .i64 0)
 refine J0 ?_
 go_upto_region 1 with fail
 refine wp_region_lit ?_
 refine L0A ?_ k_t3
 refine Lr ?_ (kc W3 (J8 hG off0.ext))
 intro W4 hO
 replace k_t5 := k_t5.o hO
 replace k_t6 := k_t6.o hO
 replace off0 := off0.o hO
 clear hO
 refine Lv ?_
 refine Lv ?_
 refine Lw ?_ (v := .int .i64 0)
 refine LnP ?_ (z := p4 0 0 0 0) (t := 60) (cells := p4 kx ky 1 kt)
 intro J9t W6 K6 hO h_
 replace k_t5 := k_t5.o hO
 replace k_t6 := k_t6.o hO
 replace off0 := off0.o hO
 clear hO h_ K6
 refine Lw ?_ (v := .int .i64 0)
 refine J0 ?_
 go_upto_region 4 with fail
 refine wp_region_lit ?_
 refine L0A ?_ k_t5
 refine Lr ?_ (pc W6 (J8 hG off0.ext))
 intro W7 hO
 replace k_t6 := k_t6.o hO
 replace off0 := off0.o hO
 clear hO
 refine Lv ?_
 refine Lv ?_
 refine Lv ?_
 refine Lw ?_ (v := .int .i64 17)
 refine Ln ?_ (z := p4 0 0 0 0) (t := 60)
 intro J7a W8 J12 hO h_
 have nq_t6_t10 := bn k_t6 J12
 have J4h := fbn off0 J12
 replace k_t6 := k_t6.o hO
 replace off0 := off0.o hO
 have k_t10 := h_
 clear hO h_ J12
 refine Ln ?_ (z := c4 0) (t := 42)
 intro Q4m W9 Y6 hO h_
 have U0 := bn k_t6 Y6
 have nq_t10_t11 := bn k_t10 Y6
 have J1o := fbn off0 Y6
 replace k_t6 := k_t6.o hO
 replace k_t10 := k_t10.o hO
 replace off0 := off0.o hO
 have k_t11 := h_
 clear hO h_ Y6
 refine Lp ?_ k_t10 (cells := p4 0 0 0 0)
 intro W10 hO h_
 clear h_
 replace k_t6 := k_t6.p hO nq_t6_t10
 replace k_t11 := k_t11.p hO nq_t10_t11.symm
 replace off0 := off0.p hO J4h
 clear hO
 refine Lp ?_ k_t11 (cells := c4 0)
 intro W11 hO h_
 clear h_
 replace k_t6 := k_t6.p hO U0
 replace off0 := off0.p hO J1o
 clear hO
 refine Lw ?_ (v := .int .i64 17)
 refine J0 ?_
 go_upto_region 6 with fail
 refine wp_region_lit ?_
 refine Lw ?_ (v := .agg (J2 .u8 64 (Q0 0))) (hv := by kernel_rfl)
 refine Lw ?_ (v := .int .i64 17)
 refine LpA ?_ k_t6 (k := .u8) (n := 64) (f := Q0 0)
 intro W12 hO h_
 replace k_t6 : Blk W12 J5y (J2 .u8 64 (Q0 0)) 30 := h_
 clear h_
 replace off0 := off0.p hO J3d
 clear hO
 refine Lw ?_ (v := .int .i64 17)
 refine J0 ?_
 go_wp2
 exact bodyPost_ret (V4 rfl rfl rfl k_t6 (by kernel_rfl) (by rw [J6]; kernel_rfl)) rfl ⟨rfl, off0.ext⟩
theorem Z3m (hd : kn.d) (hb : kn.b) (hc : kn.c) {V P : Nat} (hV : V < 2 ^ 256) (hP : B80 P) (v : Value) (L : List UInt8) (hL : L.length ≤ 1099511627776) (hk1 : dOk V = true) (hk2 : ¬ pm (dPt V) 8 = p0) (hok : dOk (pG P) = true) (h1 : LL ≤ pN P) :
  ∀ w, GA kn w → Sl w v L → Calls Tryd.prog 26 #[.agg (J2 .u8 32 (Q0 V)), v, .agg (J2 .u8 80 (Q0 P))] w fun e w' => Ret (.tuple #[.agg (J2 .u8 64 (Q0 0)), .int .i64 17]) w w' e := by
 obtain ⟨kx, ky, kt, kr, kc⟩ := Q4j (kn := kn) hc hV hk1 hk2
 have pc := Z6k (kn := kn) hc hP hok h1
 intro w hG hsl
 have off0 : Off [] w w := Off.refl _ _
 go_enter Tryd.func26, Tryd.ntmps26
 go_upto_region 0 with fail
 refine wp_region_lit ?_
 refine Ln ?_ (z := J2 .u8 32 (Q0 V)) (t := 22)
 intro J1g W1 J09 hO h_
 replace off0 := off0.o hO
 have k_t3 := h_
 clear hO h_ J09
 refine Ln ?_ (z := J2 .u8 80 (Q0 P)) (t := 45)
 intro J7q W2 J06 hO h_
 replace k_t3 := k_t3.o hO
 replace off0 := off0.o hO
 have k_t5 := h_
 clear hO h_ J06
 refine Ln ?_ (z := J2 .u8 64 (Q0 0)) (t := 30)
 intro J5y W3 J0y hO h_
 have J3d := fbn off0 J0y
 replace k_t3 := k_t3.o hO
 replace k_t5 := k_t5.o hO
 replace off0 := off0.o hO
 have k_t6 := h_
 clear hO h_ J0y
 refine Lw ?_ (v := .int .i64 0)
 refine J0 ?_
 go_upto_region 1 with fail
 refine wp_region_lit ?_
 refine L0A ?_ k_t3
 refine Lr ?_ (kc W3 (J8 hG off0.ext))
 intro W4 hO
 replace k_t5 := k_t5.o hO
 replace k_t6 := k_t6.o hO
 replace off0 := off0.o hO
 clear hO
 refine Lv ?_
 refine Lv ?_
 refine Lw ?_ (v := .int .i64 0)
 refine LnP ?_ (z := p4 0 0 0 0) (t := 60) (cells := p4 kx ky 1 kt)
 intro J9t W6 K6 hO h_
 replace k_t5 := k_t5.o hO
 replace k_t6 := k_t6.o hO
 replace off0 := off0.o hO
 clear hO h_ K6
 refine Lw ?_ (v := .int .i64 0)
 refine J0 ?_
 go_upto_region 4 with fail
 refine wp_region_lit ?_
 refine L0A ?_ k_t5
 refine Lr ?_ (pc W6 (J8 hG off0.ext))
 intro W7 hO
 replace k_t6 := k_t6.o hO
 replace off0 := off0.o hO
 clear hO
 refine Lv ?_
 refine Lv ?_
 refine Lv ?_
 refine Lw ?_ (v := .int .i64 17)
 refine Ln ?_ (z := p4 0 0 0 0) (t := 60)
 intro J7a W8 J12 hO h_
 have nq_t6_t10 := bn k_t6 J12
 have J4h := fbn off0 J12
 replace k_t6 := k_t6.o hO
 replace off0 := off0.o hO
 have k_t10 := h_
 clear hO h_ J12
 refine Ln ?_ (z := c4 0) (t := 42)
 intro Q4m W9 Y6 hO h_
 have U0 := bn k_t6 Y6
 have nq_t10_t11 := bn k_t10 Y6
 have J1o := fbn off0 Y6
 replace k_t6 := k_t6.o hO
 replace k_t10 := k_t10.o hO
 replace off0 := off0.o hO
 have k_t11 := h_
 clear hO h_ Y6
 refine Lp ?_ k_t10 (cells := p4 0 0 0 0)
 intro W10 hO h_
 clear h_
 replace k_t6 := k_t6.p hO nq_t6_t10
 replace k_t11 := k_t11.p hO nq_t10_t11.symm
 replace off0 := off0.p hO J4h
 clear hO
 refine Lp ?_ k_t11 (cells := c4 0)
 intro W11 hO h_
 clear h_
 replace k_t6 := k_t6.p hO U0
 replace off0 := off0.p hO J1o
 clear hO
 refine Lw ?_ (v := .int .i64 17)
 refine J0 ?_
 go_upto_region 6 with fail
 refine wp_region_lit ?_
 refine Lw ?_ (v := .agg (J2 .u8 64 (Q0 0))) (hv := by kernel_rfl)
 refine Lw ?_ (v := .int .i64 17)
 refine LpA ?_ k_t6 (k := .u8) (n := 64) (f := Q0 0)
 intro W12 hO h_
 replace k_t6 : Blk W12 J5y (J2 .u8 64 (Q0 0)) 30 := h_
 clear h_
 replace off0 := off0.p hO J3d
 clear hO
 refine Lw ?_ (v := .int .i64 17)
 refine J0 ?_
 go_wp2
 exact bodyPost_ret (V4 rfl rfl rfl k_t6 (by kernel_rfl) (by rw [J6]; kernel_rfl)) rfl ⟨rfl, off0.ext⟩
theorem Z6q (hd : kn.d) (hb : kn.b) (hc : kn.c) {V P : Nat} (hV : V < 2 ^ 256) (hP : B80 P) (v : Value) (L : List UInt8) (hL : L.length ≤ 1099511627776) (hk1 : dOk V = true) (hk2 : ¬ pm (dPt V) 8 = p0) (hok : dOk (pG P) = true) (h1 : pN P < LL) (hv : vpt V L = none) :
  ∀ w, GA kn w → Sl w v L → Calls Tryd.prog 26 #[.agg (J2 .u8 32 (Q0 V)), v, .agg (J2 .u8 80 (Q0 P))] w fun e w' => Ret (.tuple #[.agg (J2 .u8 64 (Q0 0)), .int .i64 15]) w w' e := by
 obtain ⟨kx, ky, kt, kr, kc⟩ := Q4j (kn := kn) hc hV hk1 hk2
 obtain ⟨gx, gy, gt, gr, pc⟩ := Q7s (kn := kn) hc hP hok h1
 intro w hG hsl
 have J7 := hsl
 have off0 : Off [] w w := Off.refl _ _
 go_enter Tryd.func26, Tryd.ntmps26
 go_upto_region 0 with fail
 refine wp_region_lit ?_
 refine Ln ?_ (z := J2 .u8 32 (Q0 V)) (t := 22)
 intro J1g W1 J09 hO h_
 replace J7 := Sl.off J7 hO f0
 replace off0 := off0.o hO
 have k_t3 := h_
 clear hO h_ J09
 refine Ln ?_ (z := J2 .u8 80 (Q0 P)) (t := 45)
 intro J7q W2 J06 hO h_
 replace k_t3 := k_t3.o hO
 replace J7 := Sl.off J7 hO f0
 replace off0 := off0.o hO
 have k_t5 := h_
 clear hO h_ J06
 refine Ln ?_ (z := J2 .u8 64 (Q0 0)) (t := 30)
 intro J5y W3 J0y hO h_
 have J3d := fbn off0 J0y
 replace k_t3 := k_t3.o hO
 replace k_t5 := k_t5.o hO
 replace J7 := Sl.off J7 hO f0
 replace off0 := off0.o hO
 have k_t6 := h_
 clear hO h_ J0y
 refine Lw ?_ (v := .int .i64 0)
 refine J0 ?_
 go_upto_region 1 with fail
 refine wp_region_lit ?_
 refine L0A ?_ k_t3
 refine Lr ?_ (kc W3 (J8 hG off0.ext))
 intro W4 hO
 replace k_t3 := k_t3.o hO
 replace k_t5 := k_t5.o hO
 replace k_t6 := k_t6.o hO
 replace J7 := Sl.off J7 hO f0
 replace off0 := off0.o hO
 clear hO
 refine Lv ?_
 refine Lv ?_
 refine Lw ?_ (v := .int .i64 0)
 refine LnP ?_ (z := p4 0 0 0 0) (t := 60) (cells := p4 kx ky 1 kt)
 intro J9t W6 K6 hO h_
 replace k_t3 := k_t3.o hO
 replace k_t5 := k_t5.o hO
 replace k_t6 := k_t6.o hO
 replace J7 := Sl.off J7 hO f0
 replace off0 := off0.o hO
 clear hO h_ K6
 refine Lw ?_ (v := .int .i64 0)
 refine J0 ?_
 go_upto_region 4 with fail
 refine wp_region_lit ?_
 refine L0A ?_ k_t5
 refine Lr ?_ (pc W6 (J8 hG off0.ext))
 intro W7 hO
 replace k_t3 := k_t3.o hO
 replace k_t6 := k_t6.o hO
 replace J7 := Sl.off J7 hO f0
 replace off0 := off0.o hO
 clear hO
 refine Lv ?_
 refine Lv ?_
 refine Lv ?_
 refine Lw ?_ (v := .int .i64 0)
 refine Ln ?_ (z := p4 0 0 0 0) (t := 60)
 intro J7a W8 J12 hO h_
 have J9f := bn k_t3 J12
 have nq_t6_t10 := bn k_t6 J12
 have Q18 := J04 (Sl.lt J7) J12
 have J4h := fbn off0 J12
 replace k_t3 := k_t3.o hO
 replace k_t6 := k_t6.o hO
 replace J7 := Sl.off J7 hO f0
 replace off0 := off0.o hO
 have k_t10 := h_
 clear hO h_ J12
 refine Ln ?_ (z := c4 0) (t := 42)
 intro Q4m W9 Y6 hO h_
 have J9g := bn k_t3 Y6
 have U0 := bn k_t6 Y6
 have nq_t10_t11 := bn k_t10 Y6
 have J1x := J04 (Sl.lt J7) Y6
 have J1o := fbn off0 Y6
 replace k_t3 := k_t3.o hO
 replace k_t6 := k_t6.o hO
 replace k_t10 := k_t10.o hO
 replace J7 := Sl.off J7 hO f0
 replace off0 := off0.o hO
 have k_t11 := h_
 clear hO h_ Y6
 refine Lp ?_ k_t10 (cells := p4 gx gy 1 gt)
 intro W10 hO h_
 clear h_
 replace k_t3 := k_t3.p hO J9f
 replace k_t6 := k_t6.p hO nq_t6_t10
 replace k_t11 := k_t11.p hO nq_t10_t11.symm
 replace J7 := Sl.off J7 hO (f1 Q18)
 replace off0 := off0.p hO J4h
 clear hO
 refine Lp ?_ k_t11 (cells := c4 (pN P))
 intro W11 hO h_
 clear h_
 replace k_t3 := k_t3.p hO J9g
 replace k_t6 := k_t6.p hO U0
 replace J7 := Sl.off J7 hO (f1 J1x)
 replace off0 := off0.p hO J1o
 clear hO
 refine Lw ?_ (v := .int .i64 0)
 refine J0 ?_
 go_upto_region 7 with fail
 refine wp_region_lit ?_
 refine L0A ?_ k_t3
 refine Lv ?_
 refine Lr ?_ (Q7u (kn := kn) hc hL hv v W11 (J8 hG off0.ext) J7)
 intro W12 hO
 replace k_t6 := k_t6.o hO
 replace off0 := off0.o hO
 clear hO
 refine Lv ?_
 refine Lv ?_
 refine Lw ?_ (v := .int .i64 15)
 refine LnP ?_ (z := p4 0 0 0 0) (t := 60) (cells := p4 0 0 0 0)
 intro J84 W14 J6s hO h_
 replace k_t6 := k_t6.o hO
 replace off0 := off0.o hO
 clear hO h_ J6s
 refine Lw ?_ (v := .int .i64 15)
 refine J0 ?_
 go_upto_region 9 with fail
 refine wp_region_lit ?_
 refine Lw ?_ (v := .agg (J2 .u8 64 (Q0 0))) (hv := by kernel_rfl)
 refine Lw ?_ (v := .int .i64 15)
 refine LpA ?_ k_t6 (k := .u8) (n := 64) (f := Q0 0)
 intro W15 hO h_
 replace k_t6 : Blk W15 J5y (J2 .u8 64 (Q0 0)) 30 := h_
 clear h_
 replace off0 := off0.p hO J3d
 clear hO
 refine Lw ?_ (v := .int .i64 15)
 refine J0 ?_
 go_wp2
 exact bodyPost_ret (V4 rfl rfl rfl k_t6 (by kernel_rfl) (by rw [J6]; kernel_rfl)) rfl ⟨rfl, off0.ext⟩
theorem Q7v (hd : kn.d) (hb : kn.b) (hc : kn.c) {V P : Nat} (hV : V < 2 ^ 256) (hP : B80 P) (v : Value) (L : List UInt8) (hL : L.length ≤ 1099511627776) (hk1 : dOk V = true) (hk2 : ¬ pm (dPt V) 8 = p0) (hok : dOk (pG P) = true) (h1 : pN P < LL) {c0 : Nat} (hv : vpt V L = some c0) {h : Pr} (hh : h = J0k V L c0) {r k : Nat} (hqq : ((chk V P h = pC P → r = Q3h P ∧ k = 0) ∧ (¬ chk V P h = pC P → r = 0 ∧ k = 17))) :
  ∀ w, GA kn w → Sl w v L → Calls Tryd.prog 26 #[.agg (J2 .u8 32 (Q0 V)), v, .agg (J2 .u8 80 (Q0 P))] w fun e w' => Ret (.tuple #[.agg (J2 .u8 64 (Q0 r)), .int .i64 (k : Int)]) w w' e := by
 obtain ⟨kx, ky, kt, kr, kc⟩ := Q4j (kn := kn) hc hV hk1 hk2
 obtain ⟨gx, gy, gt, gr, pc⟩ := Q7s (kn := kn) hc hP hok h1
 obtain ⟨hx, hy, hz, ht, hr, hcl⟩ := Q7t (kn := kn) hc hL hv hh
 obtain ⟨x1, y2, z3, t4, r5, c6⟩ := Q2s hb
 obtain ⟨x7, y8, z9, t10, r11, c12⟩ := J3u hd r5.rw (N := (pN P)) (Nat.lt_trans h1 J2f)
 obtain ⟨x13, y14, z15, t16, r17, c18⟩ := Z0q (kn := kn) kr.rw
 obtain ⟨x19, y20, z21, t22, r23, c24⟩ := J3u hd r17.rw (N := (pC P)) (Nat.lt_trans (Q7r P) Q4l)
 obtain ⟨x25, y26, z27, t28, r29, c30⟩ := Q50 hd r11.rw r23.rw
 obtain ⟨x31, y32, z33, t34, r35, c36⟩ := J3u hd hr.rw (N := (pN P)) (Nat.lt_trans h1 J2f)
 obtain ⟨x37, y38, z39, t40, r41, c42⟩ := Z0q (kn := kn) gr.rw
 obtain ⟨x43, y44, z45, t46, r47, c48⟩ := J3u hd r41.rw (N := (pC P)) (Nat.lt_trans (Q7r P) Q4l)
 obtain ⟨x49, y50, z51, t52, r53, c54⟩ := Q50 hd r35.rw r47.rw
 obtain ⟨U1, hU1⟩ := V3 (chH V h (dPt (pG P)) (V5 (pm BP (pN P)) (pm (J2t (dPt V)) (pC P))) (V5 (pm h (pN P)) (pm (J2t (dPt (pG P))) (pC P))))
 have HU1 := Lib.hid hU1
 clear hU1
 obtain ⟨U2, hU2⟩ := V3 (U1 % J1w)
 have qU2 : U2 < J1w := by rw [hU2]; exact Nat.mod_lt _ (by decide)
 have HU2 := Lib.hid hU2
 clear hU2
 obtain ⟨U3, hU3⟩ := V3 (Q3h P)
 have HU3 := Lib.hid hU3
 clear hU3
 have HQ := Lib.hid hqq
 clear hqq
 intro w hG hsl
 have J7 := hsl
 have off0 : Off [] w w := Off.refl _ _
 go_enter Tryd.func26, Tryd.ntmps26
 go_upto_region 0 with fail
 refine wp_region_lit ?_
 refine Ln ?_ (z := J2 .u8 32 (Q0 V)) (t := 22)
 intro J1g W1 J09 hO h_
 replace J7 := Sl.off J7 hO f0
 replace off0 := off0.o hO
 have k_t3 := h_
 clear hO h_ J09
 refine Ln ?_ (z := J2 .u8 80 (Q0 P)) (t := 45)
 intro J7q W2 J06 hO h_
 replace k_t3 := k_t3.o hO
 replace J7 := Sl.off J7 hO f0
 replace off0 := off0.o hO
 have k_t5 := h_
 clear hO h_ J06
 refine Ln ?_ (z := J2 .u8 64 (Q0 0)) (t := 30)
 intro J5y W3 J0y hO h_
 have Q0i := bn k_t3 J0y
 have J6r := bn k_t5 J0y
 have J3d := fbn off0 J0y
 replace k_t3 := k_t3.o hO
 replace k_t5 := k_t5.o hO
 replace J7 := Sl.off J7 hO f0
 replace off0 := off0.o hO
 have k_t6 := h_
 clear hO h_ J0y
 refine Lw ?_ (v := .int .i64 0)
 refine J0 ?_
 go_upto_region 1 with fail
 refine wp_region_lit ?_
 refine L0A ?_ k_t3
 refine Lr ?_ (kc W3 (J8 hG off0.ext))
 intro W4 hO
 replace k_t3 := k_t3.o hO
 replace k_t5 := k_t5.o hO
 replace k_t6 := k_t6.o hO
 replace J7 := Sl.off J7 hO f0
 replace off0 := off0.o hO
 clear hO
 refine Lv ?_
 refine Lv ?_
 refine Lw ?_ (v := .int .i64 0)
 refine LnP ?_ (z := p4 0 0 0 0) (t := 60) (cells := p4 kx ky 1 kt)
 intro J9t W6 K6 hO h_
 replace k_t3 := k_t3.o hO
 replace k_t5 := k_t5.o hO
 replace k_t6 := k_t6.o hO
 replace J7 := Sl.off J7 hO f0
 replace off0 := off0.o hO
 have k_t8 := h_
 clear hO h_ K6
 refine Lw ?_ (v := .int .i64 0)
 refine J0 ?_
 go_upto_region 4 with fail
 refine wp_region_lit ?_
 refine L0A ?_ k_t5
 refine Lr ?_ (pc W6 (J8 hG off0.ext))
 intro W7 hO
 replace k_t3 := k_t3.o hO
 replace k_t5 := k_t5.o hO
 replace k_t6 := k_t6.o hO
 replace k_t8 := k_t8.o hO
 replace J7 := Sl.off J7 hO f0
 replace off0 := off0.o hO
 clear hO
 refine Lv ?_
 refine Lv ?_
 refine Lv ?_
 refine Lw ?_ (v := .int .i64 0)
 refine Ln ?_ (z := p4 0 0 0 0) (t := 60)
 intro J7a W8 J12 hO h_
 have J9f := bn k_t3 J12
 have Q9f := bn k_t5 J12
 have nq_t6_t10 := bn k_t6 J12
 have Q9g := bn k_t8 J12
 have Q18 := J04 (Sl.lt J7) J12
 have J4h := fbn off0 J12
 replace k_t3 := k_t3.o hO
 replace k_t5 := k_t5.o hO
 replace k_t6 := k_t6.o hO
 replace k_t8 := k_t8.o hO
 replace J7 := Sl.off J7 hO f0
 replace off0 := off0.o hO
 have k_t10 := h_
 clear hO h_ J12
 refine Ln ?_ (z := c4 0) (t := 42)
 intro Q4m W9 Y6 hO h_
 have J9g := bn k_t3 Y6
 have Q9h := bn k_t5 Y6
 have U0 := bn k_t6 Y6
 have Q9i := bn k_t8 Y6
 have nq_t10_t11 := bn k_t10 Y6
 have J1x := J04 (Sl.lt J7) Y6
 have J1o := fbn off0 Y6
 replace k_t3 := k_t3.o hO
 replace k_t5 := k_t5.o hO
 replace k_t6 := k_t6.o hO
 replace k_t8 := k_t8.o hO
 replace k_t10 := k_t10.o hO
 replace J7 := Sl.off J7 hO f0
 replace off0 := off0.o hO
 have k_t11 := h_
 clear hO h_ Y6
 refine Lp ?_ k_t10 (cells := p4 gx gy 1 gt)
 intro W10 hO h_
 replace k_t10 : Blk W10 J7a (p4 gx gy 1 gt) 60 := h_
 clear h_
 replace k_t3 := k_t3.p hO J9f
 replace k_t5 := k_t5.p hO Q9f
 replace k_t6 := k_t6.p hO nq_t6_t10
 replace k_t8 := k_t8.p hO Q9g
 replace k_t11 := k_t11.p hO nq_t10_t11.symm
 replace J7 := Sl.off J7 hO (f1 Q18)
 replace off0 := off0.p hO J4h
 clear hO
 refine Lp ?_ k_t11 (cells := c4 (pN P))
 intro W11 hO h_
 replace k_t11 : Blk W11 Q4m (c4 (pN P)) 42 := h_
 clear h_
 replace k_t3 := k_t3.p hO J9g
 replace k_t5 := k_t5.p hO Q9h
 replace k_t6 := k_t6.p hO U0
 replace k_t8 := k_t8.p hO Q9i
 replace k_t10 := k_t10.p hO nq_t10_t11
 replace J7 := Sl.off J7 hO (f1 J1x)
 replace off0 := off0.p hO J1o
 clear hO
 refine Lw ?_ (v := .int .i64 0)
 refine J0 ?_
 go_upto_region 7 with fail
 refine wp_region_lit ?_
 refine L0A ?_ k_t3
 refine Lv ?_
 refine Lr ?_ (hcl v W11 (J8 hG off0.ext) J7)
 intro W12 hO
 replace k_t3 := k_t3.o hO
 replace k_t5 := k_t5.o hO
 replace k_t6 := k_t6.o hO
 replace k_t8 := k_t8.o hO
 replace k_t10 := k_t10.o hO
 replace k_t11 := k_t11.o hO
 replace off0 := off0.o hO
 clear hO
 refine Lv ?_
 refine Lv ?_
 refine Lw ?_ (v := .int .i64 0)
 refine LnP ?_ (z := p4 0 0 0 0) (t := 60) (cells := p4 hx hy hz ht)
 intro J84 W14 J6s hO h_
 have nq_t6_t12 := bn k_t6 J6s
 replace k_t3 := k_t3.o hO
 replace k_t5 := k_t5.o hO
 replace k_t6 := k_t6.o hO
 replace k_t8 := k_t8.o hO
 replace k_t10 := k_t10.o hO
 replace k_t11 := k_t11.o hO
 replace off0 := off0.o hO
 have k_t12 := h_
 clear hO h_ J6s
 refine Lw ?_ (v := .int .i64 0)
 refine J0 ?_
 go_upto_region 10 with fail
 refine J0x 4 [⟨4, 13, J2 .u8 32 (Q0 0), 22⟩, ⟨5, 14, J2 .u8 32 (Q0 0), 22⟩] (by kernel_rfl) ?_ (by kernel_rfl) ?_
 ·
  intro x hx
  simp only [List.mem_cons, List.not_mem_nil, or_false] at hx
  rcases hx with rfl | rfl <;> exact ⟨_, rfl, rfl, rfl, fun _ _ => by kernel_rfl⟩
 simp only [List.take_succ_cons, List.take_zero, List.take_nil]
 (try simp only [Act.put, mA, mB, mC])
 refine Xw ?_ (v := .slice (some ⟨J7q, 32, none⟩) 16 48)
 refine Xf ?_ (fun W hW => Z6n (Q7r P) (.slice (some ⟨J7q, 32, none⟩) 16 48) W (J0c (V := (pC P)) (n := 16) (off := 32) (J1 k_t5 hW) Y0t (by decide) (by decide)))
 refine Xl ?_ k_t11
 refine Xf ?_ (fun W hW => J8n h1 W (J8 (J8 hG off0.ext) hW).2.2.1)
 refine Q8 ?_
 intro β W15 hE hN hD
 obtain ⟨J8v, h_t13⟩ := hN _ (List.mem_cons_self ..)
 obtain ⟨J4p, h_t14⟩ := hN _ (List.mem_cons_of_mem _ (List.mem_cons_self ..))
 have nq_t13_t14 := (hD _ (List.mem_cons_of_mem _ (List.mem_cons_self ..)) _ (List.mem_cons_self ..) (by decide)).symm
 clear hN hD
 simp only [K9, Act.put, mA, mB, mC, List.drop_succ_cons, List.drop_zero, List.drop_nil, List.length_cons, List.length_nil, Nat.add_zero] at J8v h_t13 J4p h_t14 nq_t13_t14 ⊢
 have hO := Z8 hE
 generalize β 4 = Z3n at *
 have Q9j := bn k_t3 J8v
 have Q9k := bn k_t5 J8v
 have Q9l := bn k_t6 J8v
 have Q9m := bn k_t8 J8v
 have Q61 := bn k_t10 J8v
 have Q62 := bn k_t12 J8v
 have Y13 := fbn off0 J8v
 generalize β 5 = Z3o at *
 have Q9n := bn k_t3 J4p
 have Q9o := bn k_t5 J4p
 have Q9p := bn k_t6 J4p
 have Q9q := bn k_t8 J4p
 have Q63 := bn k_t10 J4p
 have Q64 := bn k_t12 J4p
 have Q5x := fbn off0 J4p
 replace k_t3 := k_t3.o hO
 replace k_t5 := k_t5.o hO
 replace k_t6 := k_t6.o hO
 replace k_t8 := k_t8.o hO
 replace k_t10 := k_t10.o hO
 replace k_t12 := k_t12.o hO
 replace off0 := off0.o hO
 clear hO hE β J8v J4p
 have k_t13 : Blk W15 Z3n (J2 .u8 32 (Q0 0)) 22 := h_t13
 clear h_t13
 have k_t14 : Blk W15 Z3o (J2 .u8 32 (Q0 0)) 22 := h_t14
 clear h_t14
 refine LpA ?_ k_t13 (k := .u8) (n := 32) (f := Q0 (pC P))
 intro W16 hO h_
 replace k_t13 : Blk W16 Z3n (J2 .u8 32 (Q0 (pC P))) 22 := h_
 clear h_
 replace k_t3 := k_t3.p hO Q9j
 replace k_t5 := k_t5.p hO Q9k
 replace k_t6 := k_t6.p hO Q9l
 replace k_t8 := k_t8.p hO Q9m
 replace k_t10 := k_t10.p hO Q61
 replace k_t12 := k_t12.p hO Q62
 replace k_t14 := k_t14.p hO nq_t13_t14.symm
 replace off0 := off0.p hO Y13
 clear hO
 refine LpA ?_ k_t14 (k := .u8) (n := 32) (f := Q0 (pN P))
 intro W17 hO h_
 replace k_t14 : Blk W17 Z3o (J2 .u8 32 (Q0 (pN P))) 22 := h_
 clear h_
 replace k_t3 := k_t3.p hO Q9n
 replace k_t5 := k_t5.p hO Q9o
 replace k_t6 := k_t6.p hO Q9p
 replace k_t8 := k_t8.p hO Q9q
 replace k_t10 := k_t10.p hO Q63
 replace k_t12 := k_t12.p hO Q64
 replace k_t13 := k_t13.p hO nq_t13_t14
 replace off0 := off0.p hO Q5x
 clear hO
 refine LN ?_
 go_upto_region 11 with fail
 refine Rx1 8 15 (z := p4 0 0 0 0) (t := 60) ?_
 refine Xf ?_ (fun W hW => c6 W (J8 (J8 hG off0.ext) hW).1)
 refine XlA ?_ k_t14
 refine Xf ?_ (fun W hW => c12 W (J8 (J8 hG off0.ext) hW).1)
 refine Xl ?_ k_t8
 refine Xf ?_ (fun W hW => c18 W (J8 (J8 hG off0.ext) hW).1)
 refine XlA ?_ k_t13
 refine Xf ?_ (fun W hW => c24 W (J8 (J8 hG off0.ext) hW).1)
 refine Xf ?_ (fun W hW => c30 W (J8 (J8 hG off0.ext) hW).1)
 refine XN ?_
 intro J7b W18 J79 hE h_t15
 have hO := Z8 hE
 have Q9r := bn k_t3 J79
 have Q9s := bn k_t5 J79
 have nq_t6_t15 := bn k_t6 J79
 have Q65 := bn k_t10 J79
 have Q66 := bn k_t12 J79
 have Q67 := bn k_t13 J79
 have Q68 := bn k_t14 J79
 have Y14 := fbn off0 J79
 replace k_t3 := k_t3.o hO
 replace k_t5 := k_t5.o hO
 replace k_t6 := k_t6.o hO
 replace k_t10 := k_t10.o hO
 replace k_t12 := k_t12.o hO
 replace k_t13 := k_t13.o hO
 replace k_t14 := k_t14.o hO
 replace off0 := off0.o hO
 clear hO hE J79
 have k_t15 : Blk W18 J7b (p4 0 0 0 0) 60 := h_t15
 clear h_t15
 refine Lp ?_ k_t15 (cells := p4 x25 y26 z27 t28)
 intro W19 hO h_
 replace k_t15 : Blk W19 J7b (p4 x25 y26 z27 t28) 60 := h_
 clear h_
 replace k_t3 := k_t3.p hO Q9r
 replace k_t5 := k_t5.p hO Q9s
 replace k_t6 := k_t6.p hO nq_t6_t15
 replace k_t10 := k_t10.p hO Q65
 replace k_t12 := k_t12.p hO Q66
 replace k_t13 := k_t13.p hO Q67
 replace k_t14 := k_t14.p hO Q68
 replace off0 := off0.p hO Y14
 clear hO
 refine LN ?_
 go_upto_region 12 with fail
 refine Rx1 8 16 (z := p4 0 0 0 0) (t := 60) ?_
 refine Xl ?_ k_t12
 refine XlA ?_ k_t14
 refine Xf ?_ (fun W hW => c36 W (J8 (J8 hG off0.ext) hW).1)
 refine Xl ?_ k_t10
 refine Xf ?_ (fun W hW => c42 W (J8 (J8 hG off0.ext) hW).1)
 refine XlA ?_ k_t13
 refine Xf ?_ (fun W hW => c48 W (J8 (J8 hG off0.ext) hW).1)
 refine Xf ?_ (fun W hW => c54 W (J8 (J8 hG off0.ext) hW).1)
 refine XN ?_
 intro J7c W20 J9r hE h_t16
 have hO := Z8 hE
 have Q9t := bn k_t3 J9r
 have Q9u := bn k_t5 J9r
 have nq_t6_t16 := bn k_t6 J9r
 have Q69 := bn k_t10 J9r
 have Q6a := bn k_t12 J9r
 have Q6b := bn k_t15 J9r
 have Y15 := fbn off0 J9r
 replace k_t3 := k_t3.o hO
 replace k_t5 := k_t5.o hO
 replace k_t6 := k_t6.o hO
 replace k_t10 := k_t10.o hO
 replace k_t12 := k_t12.o hO
 replace k_t15 := k_t15.o hO
 replace off0 := off0.o hO
 clear hO hE J9r
 have k_t16 : Blk W20 J7c (p4 0 0 0 0) 60 := h_t16
 clear h_t16
 refine Lp ?_ k_t16 (cells := p4 x49 y50 z51 t52)
 intro W21 hO h_
 replace k_t16 : Blk W21 J7c (p4 x49 y50 z51 t52) 60 := h_
 clear h_
 replace k_t3 := k_t3.p hO Q9t
 replace k_t5 := k_t5.p hO Q9u
 replace k_t6 := k_t6.p hO nq_t6_t16
 replace k_t10 := k_t10.p hO Q69
 replace k_t12 := k_t12.p hO Q6a
 replace k_t15 := k_t15.p hO Q6b
 replace off0 := off0.p hO Y15
 clear hO
 refine LN ?_
 by_cases htk : chk V P h = pC P
 ·
  have _f := htk
  go_upto_region 13 with fail
  refine J26 (.q 0 (.q 1 (.q 2 (.q 3 (.q 4 (.q 8 (.q 9 (.e 5 (.e 6 (.q 7 (.q 10 .z))))))))))) (fun W => (Blk W J1g (J2 .u8 32 (Q0 V)) 22) ∧ (Blk W J84 (p4 hx hy hz ht) 60) ∧ (Blk W J7a (p4 gx gy 1 gt) 60) ∧ (Blk W J7b (p4 x25 y26 z27 t28) 60) ∧ (Blk W J7c (p4 x49 y50 z51 t52) 60) ∧ (Blk W J7q (J2 .u8 80 (Q0 P)) 45)) (by kernel_rfl) (by kernel_rfl) ?_
  intro W22 hO
  replace k_t3 := k_t3.o hO
  replace k_t5 := k_t5.o hO
  replace k_t6 := k_t6.o hO
  replace k_t10 := k_t10.o hO
  replace k_t12 := k_t12.o hO
  replace k_t15 := k_t15.o hO
  replace k_t16 := k_t16.o hO
  replace off0 := off0.o hO
  clear hO
  refine ⟨⟨k_t3, k_t12, k_t10, k_t15, k_t16, k_t5⟩, ?_⟩
  refine J0n (v := .agg (J2 .u8 32 (Q0 V))) rfl (by rfl) (fun W hS => by exact (J0z rfl rfl (hS.1) (by kernel_rfl) (by rw [J6]; kernel_rfl))) ?_
  (try simp only [Act.put, mA, mB, mC])
  refine J0n (v := .agg (p4 hx hy hz ht)) rfl (by rfl) (fun W hS => by exact (J0z rfl rfl (hS.2.1) (by kernel_rfl) (by kernel_rfl))) ?_
  (try simp only [Act.put, mA, mB, mC])
  refine J0n (v := .agg (p4 gx gy 1 gt)) rfl (by rfl) (fun W hS => by exact (J0z rfl rfl (hS.2.2.1) (by kernel_rfl) (by kernel_rfl))) ?_
  (try simp only [Act.put, mA, mB, mC])
  refine J0n (v := .agg (p4 x25 y26 z27 t28)) rfl (by rfl) (fun W hS => by exact (J0z rfl rfl (hS.2.2.2.1) (by kernel_rfl) (by kernel_rfl))) ?_
  (try simp only [Act.put, mA, mB, mC])
  refine J0n (v := .agg (p4 x49 y50 z51 t52)) rfl (by rfl) (fun W hS => by exact (J0z rfl rfl (hS.2.2.2.2.1) (by kernel_rfl) (by kernel_rfl))) ?_
  (try simp only [Act.put, mA, mB, mC])
  refine J0n (v := .slice (some ⟨J7q, 32, none⟩) 16 48) rfl (by rfl) (fun W hS => by first | rfl | (go_simp; done) | (go_simp; with_reducible rfl)) ?_
  (try simp only [Act.put, mA, mB, mC])
  refine J0n (v := str (lb 16 (pC P))) rfl (by rfl) (fun W hS => by exact (Q04 (J0c (V := (pC P)) (n := 16) (off := 32) (hS.2.2.2.2.2) Y0t (by decide) (by decide)) rfl rfl)) ?_
  (try simp only [Act.put, mA, mB, mC])
  refine J20 rfl ?_
  refine LnS ?_ (z := (p4 hx hy hz ht) ++ (p4 gx gy 1 gt) ++ (p4 x25 y26 z27 t28) ++ (p4 x49 y50 z51 t52)) (t := 60) (n := 4) (c := 4)
  intro Q6c W23 Q7w hO h_
  have nq_t6_s71 := bn k_t6 Q7w
  replace k_t3 := k_t3.o hO
  replace k_t5 := k_t5.o hO
  replace k_t6 := k_t6.o hO
  replace k_t10 := k_t10.o hO
  replace k_t12 := k_t12.o hO
  replace k_t15 := k_t15.o hO
  replace k_t16 := k_t16.o hO
  replace off0 := off0.o hO
  have k_s71 := h_
  clear hO h_ Q7w
  refine J1k (fun W => (Blk W J1g (J2 .u8 32 (Q0 V)) 22) ∧ (Blk W J84 (p4 hx hy hz ht) 60) ∧ (Blk W J7a (p4 gx gy 1 gt) 60) ∧ (Blk W J7b (p4 x25 y26 z27 t28) 60) ∧ (Blk W J7c (p4 x49 y50 z51 t52) 60) ∧ (Blk W J7q (J2 .u8 80 (Q0 P)) 45)) (fun W hS => ⟨hS.1, hS.2.1, hS.2.2.1, hS.2.2.2.1, hS.2.2.2.2.1, hS.2.2.2.2.2⟩) ⟨k_t3, k_t12, k_t10, k_t15, k_t16, k_t5⟩ ?_
  refine J20 rfl ?_
  refine Q0t (R := fun v W => ∃ p, v = .slice (some ⟨p, 0, none⟩) 16 64 ∧ W23.heap.size ≤ p ∧ Off [] W23 W ∧ Blk W p (J2 .u8 64 (Q0 U1)) 30) ((Q5r (kn := kn) hr gr r29 r53 HU1.out Q6c W23 (J8 hG off0.ext) k_s71).mono fun e W h => by obtain ⟨p, h1, h2⟩ := h; exact ⟨_, h1, p, rfl, h2⟩) (by rfl) rfl (by kernel_rfl) rfl ?_
  (try simp only [Act.put, mA, mB, mC])
  rintro _ W24 ⟨pm24, rfl, n_mk, hO, h_⟩
  (try simp only [Act.put, mA, mB, mC])
  have nq_t6_mk := bn k_t6 n_mk
  replace k_t3 := k_t3.o hO
  replace k_t5 := k_t5.o hO
  replace k_t6 := k_t6.o hO
  replace k_t10 := k_t10.o hO
  replace k_t12 := k_t12.o hO
  replace k_t15 := k_t15.o hO
  replace k_t16 := k_t16.o hO
  replace k_s71 := k_s71.o hO
  replace off0 := off0.o hO
  have k_mk := h_
  clear hO h_ n_mk
  refine J1k (fun W => (Blk W J1g (J2 .u8 32 (Q0 V)) 22) ∧ (Blk W J84 (p4 hx hy hz ht) 60) ∧ (Blk W J7a (p4 gx gy 1 gt) 60) ∧ (Blk W J7b (p4 x25 y26 z27 t28) 60) ∧ (Blk W J7c (p4 x49 y50 z51 t52) 60) ∧ (Blk W J7q (J2 .u8 80 (Q0 P)) 45) ∧ (Blk W pm24 (J2 .u8 64 (Q0 U1)) 30)) (fun W hS => ⟨hS.1, hS.2.1, hS.2.2.1, hS.2.2.2.1, hS.2.2.2.2.1, hS.2.2.2.2.2.1⟩) ⟨k_t3, k_t12, k_t10, k_t15, k_t16, k_t5, k_mk⟩ ?_
  refine J0n (v := str (lb 16 U2)) rfl (by rfl) (fun W hS => by exact (Q04 (J0c (V := U2) (n := 16) (off := 0) (hS.2.2.2.2.2.2) (h16 HU2.out) (by decide) (by decide)) rfl rfl)) ?_
  (try simp only [Act.put, mA, mB, mC])
  have hc_ : U2 = chk V P h := by rw [HU2.out, HU1.out]; rfl
  refine J0n (v := .bool false) rfl (by rfl) (fun W hS => by exact (Q17 (l := (lb 16 U2)) (m := (lb 16 (pC P))) ((by rw [decide_eq_true (by rw [hc_, htk])]; rfl)) rfl rfl rfl)) ?_
  (try simp only [Act.put, mA, mB, mC])
  refine J9o ?_
  go_upto_region 15 with fail
  refine wp_region_lit ?_
  refine L0A ?_ k_t5
  refine Lr ?_ (Z39 (kn := kn) hc hok HU3.out W24 (J8 hG off0.ext))
  intro W25 hO
  replace k_t3 := k_t3.o hO
  replace k_t5 := k_t5.o hO
  replace k_t6 := k_t6.o hO
  replace k_t10 := k_t10.o hO
  replace k_t12 := k_t12.o hO
  replace k_t15 := k_t15.o hO
  replace k_t16 := k_t16.o hO
  replace k_s71 := k_s71.o hO
  replace k_mk := k_mk.o hO
  replace off0 := off0.o hO
  clear hO
  refine Lv ?_
  refine Lw ?_ (v := .int .i64 0)
  refine LpA ?_ k_t6 (k := .u8) (n := 64) (f := Q0 U3)
  intro W26 hO h_
  replace k_t6 : Blk W26 J5y (J2 .u8 64 (Q0 U3)) 30 := h_
  clear h_
  replace k_t3 := k_t3.p hO Q0i
  replace k_t5 := k_t5.p hO J6r
  replace k_t10 := k_t10.p hO nq_t6_t10.symm
  replace k_t12 := k_t12.p hO nq_t6_t12.symm
  replace k_t15 := k_t15.p hO nq_t6_t15.symm
  replace k_t16 := k_t16.p hO nq_t6_t16.symm
  replace k_s71 := k_s71.p hO nq_t6_s71.symm
  replace k_mk := k_mk.p hO nq_t6_mk.symm
  replace off0 := off0.p hO J3d
  clear hO
  refine Lw ?_ (v := .int .i64 0)
  refine J0 ?_
  go_wp2
  rw [HU3.out] at k_t6
  obtain ⟨er_, ek_⟩ := HQ.out.1 htk
  rw [er_, ek_]
  exact bodyPost_ret (V4 rfl rfl rfl k_t6 (by kernel_rfl) (by rw [J6]; kernel_rfl)) rfl ⟨rfl, off0.ext⟩
 ·
  have _f := htk
  go_upto_region 13 with fail
  refine J26 (.q 0 (.q 1 (.q 2 (.q 3 (.q 4 (.q 8 (.q 9 (.e 5 (.e 6 (.q 7 (.q 10 .z))))))))))) (fun W => (Blk W J1g (J2 .u8 32 (Q0 V)) 22) ∧ (Blk W J84 (p4 hx hy hz ht) 60) ∧ (Blk W J7a (p4 gx gy 1 gt) 60) ∧ (Blk W J7b (p4 x25 y26 z27 t28) 60) ∧ (Blk W J7c (p4 x49 y50 z51 t52) 60) ∧ (Blk W J7q (J2 .u8 80 (Q0 P)) 45)) (by kernel_rfl) (by kernel_rfl) ?_
  intro W22 hO
  replace k_t3 := k_t3.o hO
  replace k_t5 := k_t5.o hO
  replace k_t6 := k_t6.o hO
  replace k_t10 := k_t10.o hO
  replace k_t12 := k_t12.o hO
  replace k_t15 := k_t15.o hO
  replace k_t16 := k_t16.o hO
  replace off0 := off0.o hO
  clear hO
  refine ⟨⟨k_t3, k_t12, k_t10, k_t15, k_t16, k_t5⟩, ?_⟩
  refine J0n (v := .agg (J2 .u8 32 (Q0 V))) rfl (by rfl) (fun W hS => by exact (J0z rfl rfl (hS.1) (by kernel_rfl) (by rw [J6]; kernel_rfl))) ?_
  (try simp only [Act.put, mA, mB, mC])
  refine J0n (v := .agg (p4 hx hy hz ht)) rfl (by rfl) (fun W hS => by exact (J0z rfl rfl (hS.2.1) (by kernel_rfl) (by kernel_rfl))) ?_
  (try simp only [Act.put, mA, mB, mC])
  refine J0n (v := .agg (p4 gx gy 1 gt)) rfl (by rfl) (fun W hS => by exact (J0z rfl rfl (hS.2.2.1) (by kernel_rfl) (by kernel_rfl))) ?_
  (try simp only [Act.put, mA, mB, mC])
  refine J0n (v := .agg (p4 x25 y26 z27 t28)) rfl (by rfl) (fun W hS => by exact (J0z rfl rfl (hS.2.2.2.1) (by kernel_rfl) (by kernel_rfl))) ?_
  (try simp only [Act.put, mA, mB, mC])
  refine J0n (v := .agg (p4 x49 y50 z51 t52)) rfl (by rfl) (fun W hS => by exact (J0z rfl rfl (hS.2.2.2.2.1) (by kernel_rfl) (by kernel_rfl))) ?_
  (try simp only [Act.put, mA, mB, mC])
  refine J0n (v := .slice (some ⟨J7q, 32, none⟩) 16 48) rfl (by rfl) (fun W hS => by first | rfl | (go_simp; done) | (go_simp; with_reducible rfl)) ?_
  (try simp only [Act.put, mA, mB, mC])
  refine J0n (v := str (lb 16 (pC P))) rfl (by rfl) (fun W hS => by exact (Q04 (J0c (V := (pC P)) (n := 16) (off := 32) (hS.2.2.2.2.2) Y0t (by decide) (by decide)) rfl rfl)) ?_
  (try simp only [Act.put, mA, mB, mC])
  refine J20 rfl ?_
  refine LnS ?_ (z := (p4 hx hy hz ht) ++ (p4 gx gy 1 gt) ++ (p4 x25 y26 z27 t28) ++ (p4 x49 y50 z51 t52)) (t := 60) (n := 4) (c := 4)
  intro Q6c W23 Q7w hO h_
  replace k_t3 := k_t3.o hO
  replace k_t5 := k_t5.o hO
  replace k_t6 := k_t6.o hO
  replace k_t10 := k_t10.o hO
  replace k_t12 := k_t12.o hO
  replace k_t15 := k_t15.o hO
  replace k_t16 := k_t16.o hO
  replace off0 := off0.o hO
  have k_s71 := h_
  clear hO h_ Q7w
  refine J1k (fun W => (Blk W J1g (J2 .u8 32 (Q0 V)) 22) ∧ (Blk W J84 (p4 hx hy hz ht) 60) ∧ (Blk W J7a (p4 gx gy 1 gt) 60) ∧ (Blk W J7b (p4 x25 y26 z27 t28) 60) ∧ (Blk W J7c (p4 x49 y50 z51 t52) 60) ∧ (Blk W J7q (J2 .u8 80 (Q0 P)) 45)) (fun W hS => ⟨hS.1, hS.2.1, hS.2.2.1, hS.2.2.2.1, hS.2.2.2.2.1, hS.2.2.2.2.2⟩) ⟨k_t3, k_t12, k_t10, k_t15, k_t16, k_t5⟩ ?_
  refine J20 rfl ?_
  refine Q0t (R := fun v W => ∃ p, v = .slice (some ⟨p, 0, none⟩) 16 64 ∧ W23.heap.size ≤ p ∧ Off [] W23 W ∧ Blk W p (J2 .u8 64 (Q0 U1)) 30) ((Q5r (kn := kn) hr gr r29 r53 HU1.out Q6c W23 (J8 hG off0.ext) k_s71).mono fun e W h => by obtain ⟨p, h1, h2⟩ := h; exact ⟨_, h1, p, rfl, h2⟩) (by rfl) rfl (by kernel_rfl) rfl ?_
  (try simp only [Act.put, mA, mB, mC])
  rintro _ W24 ⟨pm24, rfl, n_mk, hO, h_⟩
  (try simp only [Act.put, mA, mB, mC])
  replace k_t3 := k_t3.o hO
  replace k_t5 := k_t5.o hO
  replace k_t6 := k_t6.o hO
  replace k_t10 := k_t10.o hO
  replace k_t12 := k_t12.o hO
  replace k_t15 := k_t15.o hO
  replace k_t16 := k_t16.o hO
  replace off0 := off0.o hO
  have k_mk := h_
  clear hO h_ n_mk
  refine J1k (fun W => (Blk W J1g (J2 .u8 32 (Q0 V)) 22) ∧ (Blk W J84 (p4 hx hy hz ht) 60) ∧ (Blk W J7a (p4 gx gy 1 gt) 60) ∧ (Blk W J7b (p4 x25 y26 z27 t28) 60) ∧ (Blk W J7c (p4 x49 y50 z51 t52) 60) ∧ (Blk W J7q (J2 .u8 80 (Q0 P)) 45) ∧ (Blk W pm24 (J2 .u8 64 (Q0 U1)) 30)) (fun W hS => ⟨hS.1, hS.2.1, hS.2.2.1, hS.2.2.2.1, hS.2.2.2.2.1, hS.2.2.2.2.2.1⟩) ⟨k_t3, k_t12, k_t10, k_t15, k_t16, k_t5, k_mk⟩ ?_
  refine J0n (v := str (lb 16 U2)) rfl (by rfl) (fun W hS => by exact (Q04 (J0c (V := U2) (n := 16) (off := 0) (hS.2.2.2.2.2.2) (h16 HU2.out) (by decide) (by decide)) rfl rfl)) ?_
  (try simp only [Act.put, mA, mB, mC])
  have hc_ : U2 = chk V P h := by rw [HU2.out, HU1.out]; rfl
  refine J0n (v := .bool true) rfl (by rfl) (fun W hS => by exact (Q17 (l := (lb 16 U2)) (m := (lb 16 (pC P))) ((by rw [decide_eq_false fun e => htk (hc_ ▸ Z3j qU2 (Q7r P) e)]; rfl)) rfl rfl rfl)) ?_
  (try simp only [Act.put, mA, mB, mC])
  refine J9o ?_
  go_upto_region 14 with fail
  refine wp_region_lit ?_
  refine Lw ?_ (v := .agg (J2 .u8 64 (Q0 0))) (hv := by kernel_rfl)
  refine LpA ?_ k_t6 (k := .u8) (n := 64) (f := Q0 0)
  intro W25 hO h_
  replace k_t6 : Blk W25 J5y (J2 .u8 64 (Q0 0)) 30 := h_
  clear h_
  replace off0 := off0.p hO J3d
  clear hO
  refine Lw ?_ (v := .int .i64 17)
  refine J0 ?_
  go_wp2
  obtain ⟨er_, ek_⟩ := HQ.out.2 htk
  rw [er_, ek_]
  exact bodyPost_ret (V4 rfl rfl rfl k_t6 (by kernel_rfl) (by rw [J6]; kernel_rfl)) rfl ⟨rfl, off0.ext⟩
def J4w (V : Nat) (L : List UInt8) (P : Nat) : Nat × Nat :=
  if dOk V = false ∨ pm (dPt V) 8 = p0 then (0, 15) else if dOk (pG P) = false ∨ LL ≤ pN P then (0, 17) else
  match vpt V L with
  | none => (0, 15)
  | some c => if chk V P (J0k V L c) = pC P then (Q3h P, 0) else (0, 17)
theorem Z6r (hd : kn.d) (hb : kn.b) (hc : kn.c) {V P : Nat} {X : Nat × Nat} {L : List UInt8} (hX : X = J4w V L P) (hV : V < 2 ^ 256) (hP : B80 P) (v : Value) (hL : L.length ≤ 1099511627776) (w : World) (hG : GA kn w) (hsl : Sl w v L) :
    Calls Tryd.prog 26 #[.agg (J2 .u8 32 (Q0 V)), v, .agg (J2 .u8 80 (Q0 P))] w fun e w' => Ret (.tuple #[.agg (J2 .u8 64 (Q0 X.1)), .int .i64 (X.2 : Int)]) w w' e := by
  subst hX
  unfold J4w
  cases hk1 : dOk V
  · rw [if_pos (Or.inl rfl)]; exact Z6o hd hb hc hV hP v L hL hk1 w hG hsl
  by_cases hk2 : pm (dPt V) 8 = p0
  · rw [if_pos (Or.inr hk2)]; exact Z6p hd hb hc hV hP v L hL hk1 hk2 w hG hsl
  rw [if_neg (by rintro (h | h); cases h; exact hk2 h)]
  cases hok : dOk (pG P)
  · rw [if_pos (Or.inl rfl)]
    by_cases h1 : LL ≤ pN P
    · exact Z3k hd hb hc hV hP v L hL hk1 hk2 hok h1 w hG hsl
    · exact Z3l hd hb hc hV hP v L hL hk1 hk2 hok (Nat.not_le.1 h1) w hG hsl
  by_cases h1 : LL ≤ pN P
  · rw [if_pos (Or.inr h1)]; exact Z3m hd hb hc hV hP v L hL hk1 hk2 hok h1 w hG hsl
  rw [if_neg (by rintro (h | h); cases h; exact h1 h)]
  cases hv : vpt V L with
  | none => exact Z6q hd hb hc hV hP v L hL hk1 hk2 hok (Nat.not_le.1 h1) hv w hG hsl
  | some c =>
    by_cases ht : chk V P (J0k V L c) = pC P
    · simp only [if_pos ht]; exact Q7v hd hb hc hV hP v L hL hk1 hk2 hok (Nat.not_le.1 h1) hv rfl ⟨fun _ => ⟨rfl, rfl⟩, fun h => absurd ht h⟩ w hG hsl
    · simp only [if_neg ht]; exact Q7v hd hb hc hV hP v L hL hk1 hk2 hok (Nat.not_le.1 h1) hv rfl ⟨fun h => absurd h ht, fun _ => ⟨rfl, rfl⟩⟩ w hG hsl
end Go.Proofs.YtefpoollmbmkfaaDoor
