/- vrf: Prove. Conditions: the cells of the variables hold their numbers. vrf: Check. Conditions: the cells of the variables hold their numbers. -/
import Derived.Test.YtefpoollmbmkfaaDoorGc
import Derived.Test.YtefpoollmbmkfaaDoorVa
set_option linter.unusedSimpArgs false
set_option linter.unusedVariables false
namespace Go.Proofs.YtefpoollmbmkfaaDoor
set_option maxHeartbeats 2000000
set_option maxRecDepth 100000
open Go.RowKit
attribute [local irreducible] wpList J6j
variable {kn : Kn}
open Sc (LL J21)
attribute [local irreducible] hs
theorem h16 {X C : Nat} (hC : C = X % J28) : ∀ i v, (J1 .u8 16 (Q6 C))[i]? = some v → (J1 .u8 64 (Q6 X))[0 + i]? = some v :=
  Q4o (fun j hj => by rw [hC, show J28 = 2 ^ (8 * 16) from rfl, Z56 hj, Nat.zero_add]) (by decide)
theorem Z58 (hc : kn.c) {V c0 : Nat} {L : List UInt8} (hL : L.length ≤ 1099511627776) (hv : vpt V L = some c0) {h : Pr} (hh : h = J22 V L c0) :
    ∃ X Y Z T, RN X Y Z T h ∧ ∀ v w, GA kn w → Sl w v L → Calls Tryd.prog 60 #[.agg (J1 .u8 32 (Q6 V)), v] w fun e w' => Ret (.tuple #[.agg (p4 X Y Z T), .int .i64 0]) w w' e := by
  obtain ⟨h1, h2, h3⟩ := Q2j hv
  subst hh
  exact Z27 hc hL c0 h1 h2 h3
theorem Z59 (hc : kn.c) {V : Nat} {L : List UInt8} (hL : L.length ≤ 1099511627776) (hv : vpt V L = none) (v : Value) (w : World) (hG : GA kn w) (hs : Sl w v L) :
    Calls Tryd.prog 60 #[.agg (J1 .u8 32 (Q6 V)), v] w fun e w' => Ret (.tuple #[.agg (p4 0 0 0 0), .int .i64 15]) w w' e := Z28 hc hL (Z0q hv) v w hG hs
theorem Y22 {E C n : Nat} (hE : E < 2 ^ 256) (hC : C < J28) : lb 32 E ++ lb 16 C ++ lb 32 n = lb 80 (E + 2 ^ 256 * (C + J28 * n)) := by
  have e1 : lb 80 (E + 2 ^ 256 * (C + J28 * n)) = lb 32 (E + 2 ^ 256 * (C + J28 * n)) ++ lb 48 ((E + 2 ^ 256 * (C + J28 * n)) / 2 ^ (8 * 32)) := Q3c 32 48 _
  have e2 : lb 48 (C + J28 * n) = lb 16 (C + J28 * n) ++ lb 32 ((C + J28 * n) / 2 ^ (8 * 16)) := Q3c 16 32 _
  rw [e1, show (2 : Nat) ^ (8 * 32) = 2 ^ 256 from rfl, Nat.add_mul_div_left _ _ (by decide), Nat.div_eq_of_lt hE, Nat.zero_add, e2, show (2 : Nat) ^ (8 * 16) = J28 from rfl, Nat.add_mul_div_left _ _ (by decide), Nat.div_eq_of_lt hC, Nat.zero_add, List.append_assoc]
  congr 1
  · rw [← Q3b 32 (E + 2 ^ 256 * (C + J28 * n)), show (2 : Nat) ^ (8 * 32) = 2 ^ 256 from rfl, Nat.add_mul_mod_self_left, Nat.mod_eq_of_lt hE]
  · congr 1
    rw [← Q3b 16 (C + J28 * n), show (2 : Nat) ^ (8 * 16) = J28 from rfl, Nat.add_mul_mod_self_left, Nat.mod_eq_of_lt hC]

theorem Y5u (hd : kn.d) (hb : kn.b) (hc : kn.c) (S c0 : Nat) (v : Value) (L : List UInt8) (hL : L.length ≤ 1099511627776) (hv : vpt (kP S) L = some c0) {h : Pr} (hh : h = J22 (kP S) L c0) :
  ∀ w, GA kn w → Sl w v L → Calls Tryd.prog 23 #[.agg (J1 .u8 32 (Q6 S)), v] w fun e w' => Ret (.tuple #[.agg (J1 .u8 80 (Q6 (vPr S h))), .int .i64 0]) w w' e := by
 obtain ⟨U1, hU1⟩ := V2 (kN S)
 have bU1 : U1 < 2 ^ 256 := by rw [hU1]; exact Z4z _
 have HU1 := Lib.hid hU1
 clear hU1
 obtain ⟨U2, hU2⟩ := V2 (kD S)
 have bU2 : U2 < 2 ^ 256 := by rw [hU2]; exact Z50 _
 have HU2 := Lib.hid hU2
 clear hU2
 obtain ⟨U3, hU3⟩ := V2 (kP S)
 have bU3 : U3 < 2 ^ 256 := by rw [hU3]; exact Z51 _
 have HU3 := Lib.hid hU3
 clear hU3
 have hv_ : vpt U3 L = some c0 := by rw [HU3.out]; exact hv
 have hh_ : h = J22 U3 L c0 := by rw [HU3.out]; exact hh
 obtain ⟨hx, hy, hz, ht, hr, hcl⟩ := Z58 (kn := kn) hc hL hv_ hh_
 obtain ⟨x1, y2, z3, t4, r5, c6⟩ := J63 hd hr.rw (N := U1) bU1
 obtain ⟨U4, hU4⟩ := V2 (enc h)
 have bU4 : U4 < 2 ^ 256 := by rw [hU4]; exact J4r _
 have HU4 := Lib.hid hU4
 clear hU4
 obtain ⟨U5, hU5⟩ := V2 (hs ((lb 32 U2) ++ (lb 32 U4)))
 have HU5 := Lib.hid hU5
 clear hU5
 obtain ⟨U6, hU6⟩ := V2 (U5 % LL)
 have lU6 : U6 < LL := by rw [hU6]; exact mLL _
 have bU6 : U6 < 2 ^ 256 := Nat.lt_trans lU6 J2w
 have HU6 := Lib.hid hU6
 clear hU6
 obtain ⟨x7, y8, z9, t10, r11, c12⟩ := Q8a hb
 obtain ⟨x13, y14, z15, t16, r17, c18⟩ := J63 hd r11.rw (N := U6) (Nat.lt_trans lU6 J2w)
 obtain ⟨x19, y20, z21, t22, r23, c24⟩ := J63 hd hr.rw (N := U6) (Nat.lt_trans lU6 J2w)
 obtain ⟨U7, hU7⟩ := V2 (chH U3 h (pm h U1) (pm BP U6) (pm h U6))
 have HU7 := Lib.hid hU7
 clear hU7
 obtain ⟨U8, hU8⟩ := V2 (U7 % J28)
 have qU8 : U8 < J28 := by rw [hU8]; exact Nat.mod_lt _ (by decide)
 have HU8 := Lib.hid hU8
 clear hU8
 obtain ⟨U9, hU9⟩ := V2 (U8 % LL)
 have lU9 : U9 < LL := by rw [hU9]; exact mLL _
 have bU9 : U9 < 2 ^ 256 := Nat.lt_trans lU9 J2w
 have HU9 := Lib.hid hU9
 clear hU9
 obtain ⟨U10, hU10⟩ := V2 (U1 % LL)
 have lU10 : U10 < LL := by rw [hU10]; exact mLL _
 have bU10 : U10 < 2 ^ 256 := Nat.lt_trans lU10 J2w
 have HU10 := Lib.hid hU10
 clear hU10
 obtain ⟨U11, hU11⟩ := V2 (U9 * U10 % LL)
 have lU11 : U11 < LL := by rw [hU11]; exact mLL _
 have bU11 : U11 < 2 ^ 256 := Nat.lt_trans lU11 J2w
 have HU11 := Lib.hid hU11
 clear hU11
 obtain ⟨U12, hU12⟩ := V2 ((U6 + U11) % LL)
 have lU12 : U12 < LL := by rw [hU12]; exact mLL _
 have bU12 : U12 < 2 ^ 256 := Nat.lt_trans lU12 J2w
 have HU12 := Lib.hid hU12
 clear hU12
 obtain ⟨U13, hU13⟩ := V2 (enc (pm h U1))
 have bU13 : U13 < 2 ^ 256 := by rw [hU13]; exact J4r _
 have HU13 := Lib.hid hU13
 clear hU13
 intro w hG hsl
 have Q5 := hsl
 have off0 : Off [] w w := Off.refl _ _
 go_enter Tryd.func23, Tryd.ntmps23
 go_upto_region 0 with fail
 refine wp_region_lit ?_
 refine Ln ?_ (z := J1 .u8 32 (Q6 S)) (t := 22)
 intro J0c W1 U0 hO h_
 replace Q5 := Sl.off Q5 hO f0
 replace off0 := off0.o hO
 have k_t2 := h_
 clear hO h_ U0
 refine Ln ?_ (z := J1 .u8 80 (Q6 0)) (t := 45)
 intro J6r W2 J10 hO h_
 have J2d := fbn off0 J10
 replace k_t2 := k_t2.o hO
 replace Q5 := Sl.off Q5 hO f0
 replace off0 := off0.o hO
 have k_t4 := h_
 clear hO h_ J10
 refine Lw ?_ (v := .int .i64 0)
 refine J0 ?_
 go_upto_region 1 with fail
 refine wp_region_lit ?_
 refine L0A ?_ k_t2
 refine Lr ?_ (Q0n hd hb HU1.out HU2.out HU3.out W2 (Q7 hG off0.ext))
 intro W3 hO
 replace k_t2 := k_t2.o hO
 replace k_t4 := k_t4.o hO
 replace Q5 := Sl.off Q5 hO f0
 replace off0 := off0.o hO
 clear hO
 refine LnP ?_ (z := s3 0 0 0) (t := 25) (cells := s3 U1 U2 U3) (hi := by rw [J29]; kernel_rfl) (hs := by first | rw [J29, J29] | rw [J29] | kernel_rfl) (h1 := by exact Q93)
 intro J7u W5 J1c hO h_
 replace k_t2 := k_t2.o hO
 replace k_t4 := k_t4.o hO
 replace Q5 := Sl.off Q5 hO f0
 replace off0 := off0.o hO
 have k_t6 := h_
 clear hO h_ J1c
 refine J0 ?_
 go_upto_region 2 with fail
 refine wp_region_lit ?_
 refine Lv ?_
 refine J05 (vs := (J1 .u8 32 (Q6 U3)).toList) (by rfl) rfl rfl k_t6 (J3z Y9n) (by kernel_rfl) (by kernel_rfl) ?_
 (try simp only [Act.put, mA, mB, mC])
 refine Lv ?_
 refine Lr ?_ (hcl v W5 (Q7 hG off0.ext) Q5)
 intro W6 hO
 replace k_t2 := k_t2.o hO
 replace k_t4 := k_t4.o hO
 replace k_t6 := k_t6.o hO
 replace Q5 := Sl.off Q5 hO f0
 replace off0 := off0.o hO
 clear hO
 refine Lv ?_
 refine Lv ?_
 refine Lw ?_ (v := .int .i64 0)
 refine LnP ?_ (z := p4 0 0 0 0) (t := 60) (cells := p4 hx hy hz ht)
 intro J97 W8 J03 hO h_
 replace k_t2 := k_t2.o hO
 replace k_t4 := k_t4.o hO
 replace k_t6 := k_t6.o hO
 replace Q5 := Sl.off Q5 hO f0
 replace off0 := off0.o hO
 have k_t7 := h_
 clear hO h_ J03
 refine Lw ?_ (v := .int .i64 0)
 refine J0 ?_
 go_upto_region 5 with fail
 refine wp_region_lit ?_
 refine L0 ?_ k_t7
 refine Lv ?_
 refine J05 (vs := (J1 .u8 32 (Q6 U1)).toList) (by rfl) rfl rfl k_t6 (J3z Y9l) (by kernel_rfl) (by kernel_rfl) ?_
 (try simp only [Act.put, mA, mB, mC])
 refine Lr ?_ (c6 W8 (Q7 hG off0.ext).1)
 intro W9 hO
 replace k_t2 := k_t2.o hO
 replace k_t4 := k_t4.o hO
 replace k_t6 := k_t6.o hO
 replace k_t7 := k_t7.o hO
 replace Q5 := Sl.off Q5 hO f0
 replace off0 := off0.o hO
 clear hO
 refine LnP ?_ (z := p4 0 0 0 0) (t := 60) (cells := p4 x1 y2 z3 t4)
 intro J5j W11 J2o hO h_
 replace k_t2 := k_t2.o hO
 replace k_t4 := k_t4.o hO
 replace k_t6 := k_t6.o hO
 replace k_t7 := k_t7.o hO
 replace Q5 := Sl.off Q5 hO f0
 replace off0 := off0.o hO
 have k_t9 := h_
 clear hO h_ J2o
 refine J0 ?_
 go_upto_region 6 with fail
 refine wp_region_lit ?_
 refine L0 ?_ k_t7
 refine Lr ?_ (J9z hr.rw HU4.out W11 (Q7 hG off0.ext).1)
 intro W12 hO
 replace k_t2 := k_t2.o hO
 replace k_t4 := k_t4.o hO
 replace k_t6 := k_t6.o hO
 replace k_t7 := k_t7.o hO
 replace k_t9 := k_t9.o hO
 replace Q5 := Sl.off Q5 hO f0
 replace off0 := off0.o hO
 clear hO
 refine LnA ?_ (z := J1 .u8 32 (Q6 0)) (t := 22) (k := .u8) (n := 32) (f := Q6 U4)
 intro J7v W14 J18 hO h_
 replace k_t2 := k_t2.o hO
 replace k_t4 := k_t4.o hO
 replace k_t6 := k_t6.o hO
 replace k_t7 := k_t7.o hO
 replace k_t9 := k_t9.o hO
 replace Q5 := Sl.off Q5 hO f0
 replace off0 := off0.o hO
 have k_t10 := h_
 clear hO h_ J18
 refine J0 ?_
 go_upto_region 7 with fail
 refine Q6j (.q 0 (.q 1 (.q 2 (.b 3 (.b 4 (.e 5 (.e 6 .z)) 5 (.e 4 (.e 6 .z))) 5 (.e 3 (.e 4 (.e 6 .z))))))) (fun W => True) (fun a0 a_ wr => ∃ (j_s38 : Nat) (j_t11 : Nat), a_ = Z9x a0 [(35, .pointer (some ⟨J7u, 32, none⟩)), (36, .slice (some ⟨J7u, 32, none⟩) 32 32), (37, .slice (some ⟨J7v, 0, none⟩) 32 32), (38, .slice (some ⟨j_s38, 0, none⟩) 2 2), (39, .agg (J1 .u8 64 (Q6 U5))), (11, .pointer (some ⟨j_t11, 0, none⟩))] ∧ Off [] w wr ∧ Blk wr J0c (J1 .u8 32 (Q6 S)) 22 ∧ Blk wr J6r (J1 .u8 80 (Q6 0)) 45 ∧ Blk wr J7u (s3 U1 U2 U3) 25 ∧ Blk wr J97 (p4 hx hy hz ht) 60 ∧ Blk wr J5j (p4 x1 y2 z3 t4) 60 ∧ Blk wr J7v (J1 .u8 32 (Q6 U4)) 22 ∧ Blk wr j_s38 #[.slice (some ⟨J7u, 32, none⟩) 32 32, .slice (some ⟨J7v, 0, none⟩) 32 32] 23 ∧ Blk wr j_t11 (J1 .u8 64 (Q6 U5)) 30 ∧ Sl wr v L ∧ Fb j_s38 w.heap.size [] ∧ J0c ≠ j_s38 ∧ J6r ≠ j_s38 ∧ J7u ≠ j_s38 ∧ J97 ≠ j_s38 ∧ J5j ≠ j_s38 ∧ J7v ≠ j_s38 ∧ (sb v L) ≠ some j_s38 ∧ Fb j_t11 w.heap.size [] ∧ J0c ≠ j_t11 ∧ J6r ≠ j_t11 ∧ J7u ≠ j_t11 ∧ J97 ≠ j_t11 ∧ J5j ≠ j_t11 ∧ J7v ≠ j_t11 ∧ j_s38 ≠ j_t11 ∧ (sb v L) ≠ some j_t11) (by kernel_rfl) (by kernel_rfl) ?_ ?_
 ·
  have _f := True.intro
  intro W15 hO
  replace k_t2 := k_t2.o hO
  replace k_t4 := k_t4.o hO
  replace k_t6 := k_t6.o hO
  replace k_t7 := k_t7.o hO
  replace k_t9 := k_t9.o hO
  replace k_t10 := k_t10.o hO
  replace Q5 := Sl.off Q5 hO f0
  replace off0 := off0.o hO
  clear hO
  refine ⟨trivial, ?_⟩
  (refine J1r (v := ?_) rfl (by rfl) (fun W hS => ?_) ?_; rotate_left 1; (focus (go_simp; first | done | with_reducible rfl)))
  (try simp only [Act.put, mA, mB, mC])
  refine J1r (v := .slice (some ⟨J7u, 32, none⟩) 32 32) rfl (by rfl) (fun W hS => by first | rfl | (go_simp; done) | (go_simp; with_reducible rfl)) ?_
  (try simp only [Act.put, mA, mB, mC])
  refine J1r (v := .slice (some ⟨J7v, 0, none⟩) 32 32) rfl (by rfl) (fun W hS => by first | rfl | (go_simp; done) | (go_simp; with_reducible rfl)) ?_
  (try simp only [Act.put, mA, mB, mC])
  refine Y72 rfl rfl ?_ ?_
  ·
   have _f := True.intro
   refine LnS ?_ (z := #[.slice (some ⟨J7u, 32, none⟩) 32 32, .slice (some ⟨J7v, 0, none⟩) 32 32]) (t := 23) (n := 2) (c := 2) (hr := by exact J43 [.slice (some ⟨J7u, 32, none⟩) 32 32, .slice (some ⟨J7v, 0, none⟩) 32 32] rfl rfl (vsc (rfl) (vsc (rfl) vs0)) Tryd.underlying112 (by kernel_rfl) (by kernel_rfl) rfl (by decide) (by decide))
   intro Q97 W16 J51 hO h_
   have J8e := bn k_t2 J51
   have J8f := bn k_t4 J51
   have J8g := bn k_t6 J51
   have J8h := bn k_t7 J51
   have J8i := bn k_t9 J51
   have J77 := bn k_t10 J51
   have Q02 := J0m (Sl.lt Q5) J51
   have Q6b := fbn off0 J51
   replace k_t2 := k_t2.o hO
   replace k_t4 := k_t4.o hO
   replace k_t6 := k_t6.o hO
   replace k_t7 := k_t7.o hO
   replace k_t9 := k_t9.o hO
   replace k_t10 := k_t10.o hO
   replace Q5 := Sl.off Q5 hO f0
   replace off0 := off0.o hO
   have k_s38 := h_
   clear hO h_ J51
   refine J2t (fun W => True) (fun W hS => trivial) trivial ?_
   refine Y72 rfl rfl ?_ ?_
   ·
    have _f := True.intro
    refine Lr ?_ (J8z HU5.out [lb 32 U2, lb 32 U4] (some ⟨Q97, 0, none⟩) 2 (by simp only [List.flatten_cons, List.flatten_nil, List.append_nil, List.nil_append, List.append_assoc, List.cons_append]) (by first | omega | (simp only [List.length_append, List.length_cons, List.length_nil, J8]; omega)) (by simp) W16 (J7i k_s38 (pvc (J0j (V := U2) (n := 32) (off := 32) k_t6 Y9m (by decide) (by decide)) (pvc (J0j (V := U4) (n := 32) (off := 0) k_t10 ap0 (by decide) (by decide)) pv0))) (Q7 hG off0.ext).2.1)
    intro W17 hO
    replace k_t2 := k_t2.o hO
    replace k_t4 := k_t4.o hO
    replace k_t6 := k_t6.o hO
    replace k_t7 := k_t7.o hO
    replace k_t9 := k_t9.o hO
    replace k_t10 := k_t10.o hO
    replace k_s38 := k_s38.o hO
    replace Q5 := Sl.off Q5 hO f0
    replace off0 := off0.o hO
    clear hO
    refine J2t (fun W => True) (fun W hS => trivial) trivial ?_
    refine J3g rfl ?_
    refine Ln ?_ (z := J1 .u8 64 (Q6 0)) (t := 30)
    intro Y23 W18 K1 hO h_
    have J33 := bn k_t2 K1
    have J2f := bn k_t4 K1
    have J16 := bn k_t6 K1
    have J34 := bn k_t7 K1
    have nq_t9_t11 := bn k_t9 K1
    have nq_t10_t11 := bn k_t10 K1
    have J5r := bn k_s38 K1
    have J38 := J0m (Sl.lt Q5) K1
    have J2g := fbn off0 K1
    replace k_t2 := k_t2.o hO
    replace k_t4 := k_t4.o hO
    replace k_t6 := k_t6.o hO
    replace k_t7 := k_t7.o hO
    replace k_t9 := k_t9.o hO
    replace k_t10 := k_t10.o hO
    replace k_s38 := k_s38.o hO
    replace Q5 := Sl.off Q5 hO f0
    replace off0 := off0.o hO
    have k_t11 := h_
    clear hO h_ K1
    refine J2t (fun W => True) (fun W hS => trivial) trivial ?_
    refine J3g rfl ?_
    refine LpA ?_ k_t11 (k := .u8) (n := 64) (f := Q6 U5)
    intro W19 hO h_
    replace k_t11 : Blk W19 Y23 (J1 .u8 64 (Q6 U5)) 30 := h_
    clear h_
    replace k_t2 := k_t2.p hO J33
    replace k_t4 := k_t4.p hO J2f
    replace k_t6 := k_t6.p hO J16
    replace k_t7 := k_t7.p hO J34
    replace k_t9 := k_t9.p hO nq_t9_t11
    replace k_t10 := k_t10.p hO nq_t10_t11
    replace k_s38 := k_s38.p hO J5r
    replace Q5 := Sl.off Q5 hO (f1 J38)
    replace off0 := off0.p hO J2g
    clear hO
    refine J2t (fun W => True) (fun W hS => trivial) trivial ?_
    refine Q3s ?_
    exact ⟨Q97, Y23, (by (simp only [Z9x, List.foldl_cons, List.foldl_nil, Act.put, mA, mB, mC] <;> rfl)), off0, k_t2, k_t4, k_t6, k_t7, k_t9, k_t10, k_s38, k_t11, Q5, Q6b, J8e, J8f, J8g, J8h, J8i, J77, Q02, J2g, J33, J2f, J16, J34, nq_t9_t11, nq_t10_t11, J5r, J38⟩
   ·
    have _f := True.intro
    refine Ln ?_ (z := J1 .u8 64 (Q6 0)) (t := 30)
    intro Y24 W17 K1 hO h_
    have J33 := bn k_t2 K1
    have J2f := bn k_t4 K1
    have J16 := bn k_t6 K1
    have J34 := bn k_t7 K1
    have nq_t9_t11 := bn k_t9 K1
    have nq_t10_t11 := bn k_t10 K1
    have J5r := bn k_s38 K1
    have J38 := J0m (Sl.lt Q5) K1
    have J2g := fbn off0 K1
    replace k_t2 := k_t2.o hO
    replace k_t4 := k_t4.o hO
    replace k_t6 := k_t6.o hO
    replace k_t7 := k_t7.o hO
    replace k_t9 := k_t9.o hO
    replace k_t10 := k_t10.o hO
    replace k_s38 := k_s38.o hO
    replace Q5 := Sl.off Q5 hO f0
    replace off0 := off0.o hO
    have k_t11 := h_
    clear hO h_ K1
    refine J2t (fun W => True) (fun W hS => trivial) trivial ?_
    refine J3g rfl ?_
    refine Lr ?_ (J8z HU5.out [lb 32 U2, lb 32 U4] (some ⟨Q97, 0, none⟩) 2 (by simp only [List.flatten_cons, List.flatten_nil, List.append_nil, List.nil_append, List.append_assoc, List.cons_append]) (by first | omega | (simp only [List.length_append, List.length_cons, List.length_nil, J8]; omega)) (by simp) W17 (J7i k_s38 (pvc (J0j (V := U2) (n := 32) (off := 32) k_t6 Y9m (by decide) (by decide)) (pvc (J0j (V := U4) (n := 32) (off := 0) k_t10 ap0 (by decide) (by decide)) pv0))) (Q7 hG off0.ext).2.1)
    intro W18 hO
    replace k_t2 := k_t2.o hO
    replace k_t4 := k_t4.o hO
    replace k_t6 := k_t6.o hO
    replace k_t7 := k_t7.o hO
    replace k_t9 := k_t9.o hO
    replace k_t10 := k_t10.o hO
    replace k_s38 := k_s38.o hO
    replace k_t11 := k_t11.o hO
    replace Q5 := Sl.off Q5 hO f0
    replace off0 := off0.o hO
    clear hO
    refine J2t (fun W => True) (fun W hS => trivial) trivial ?_
    refine J3g rfl ?_
    refine LpA ?_ k_t11 (k := .u8) (n := 64) (f := Q6 U5)
    intro W19 hO h_
    replace k_t11 : Blk W19 Y24 (J1 .u8 64 (Q6 U5)) 30 := h_
    clear h_
    replace k_t2 := k_t2.p hO J33
    replace k_t4 := k_t4.p hO J2f
    replace k_t6 := k_t6.p hO J16
    replace k_t7 := k_t7.p hO J34
    replace k_t9 := k_t9.p hO nq_t9_t11
    replace k_t10 := k_t10.p hO nq_t10_t11
    replace k_s38 := k_s38.p hO J5r
    replace Q5 := Sl.off Q5 hO (f1 J38)
    replace off0 := off0.p hO J2g
    clear hO
    refine J2t (fun W => True) (fun W hS => trivial) trivial ?_
    refine Q3s ?_
    exact ⟨Q97, Y24, (by (simp only [Z9x, List.foldl_cons, List.foldl_nil, Act.put, mA, mB, mC] <;> rfl)), off0, k_t2, k_t4, k_t6, k_t7, k_t9, k_t10, k_s38, k_t11, Q5, Q6b, J8e, J8f, J8g, J8h, J8i, J77, Q02, J2g, J33, J2f, J16, J34, nq_t9_t11, nq_t10_t11, J5r, J38⟩
  ·
   have _f := True.intro
   refine Ln ?_ (z := J1 .u8 64 (Q6 0)) (t := 30)
   intro Y25 W16 K1 hO h_
   have J33 := bn k_t2 K1
   have J2f := bn k_t4 K1
   have J16 := bn k_t6 K1
   have J34 := bn k_t7 K1
   have nq_t9_t11 := bn k_t9 K1
   have nq_t10_t11 := bn k_t10 K1
   have J38 := J0m (Sl.lt Q5) K1
   have J2g := fbn off0 K1
   replace k_t2 := k_t2.o hO
   replace k_t4 := k_t4.o hO
   replace k_t6 := k_t6.o hO
   replace k_t7 := k_t7.o hO
   replace k_t9 := k_t9.o hO
   replace k_t10 := k_t10.o hO
   replace Q5 := Sl.off Q5 hO f0
   replace off0 := off0.o hO
   have k_t11 := h_
   clear hO h_ K1
   refine J2t (fun W => True) (fun W hS => trivial) trivial ?_
   refine J3g rfl ?_
   refine LnS ?_ (z := #[.slice (some ⟨J7u, 32, none⟩) 32 32, .slice (some ⟨J7v, 0, none⟩) 32 32]) (t := 23) (n := 2) (c := 2) (hr := by exact J43 [.slice (some ⟨J7u, 32, none⟩) 32 32, .slice (some ⟨J7v, 0, none⟩) 32 32] rfl rfl (vsc (rfl) (vsc (rfl) vs0)) Tryd.underlying112 (by kernel_rfl) (by kernel_rfl) rfl (by decide) (by decide))
   intro Y26 W17 J51 hO h_
   have J8e := bn k_t2 J51
   have J8f := bn k_t4 J51
   have J8g := bn k_t6 J51
   have J8h := bn k_t7 J51
   have J8i := bn k_t9 J51
   have J77 := bn k_t10 J51
   have nq_t11_s38 := bn k_t11 J51
   have Q02 := J0m (Sl.lt Q5) J51
   have Q6b := fbn off0 J51
   replace k_t2 := k_t2.o hO
   replace k_t4 := k_t4.o hO
   replace k_t6 := k_t6.o hO
   replace k_t7 := k_t7.o hO
   replace k_t9 := k_t9.o hO
   replace k_t10 := k_t10.o hO
   replace k_t11 := k_t11.o hO
   replace Q5 := Sl.off Q5 hO f0
   replace off0 := off0.o hO
   have k_s38 := h_
   clear hO h_ J51
   refine J2t (fun W => True) (fun W hS => trivial) trivial ?_
   refine J3g rfl ?_
   refine Lr ?_ (J8z HU5.out [lb 32 U2, lb 32 U4] (some ⟨Y26, 0, none⟩) 2 (by simp only [List.flatten_cons, List.flatten_nil, List.append_nil, List.nil_append, List.append_assoc, List.cons_append]) (by first | omega | (simp only [List.length_append, List.length_cons, List.length_nil, J8]; omega)) (by simp) W17 (J7i k_s38 (pvc (J0j (V := U2) (n := 32) (off := 32) k_t6 Y9m (by decide) (by decide)) (pvc (J0j (V := U4) (n := 32) (off := 0) k_t10 ap0 (by decide) (by decide)) pv0))) (Q7 hG off0.ext).2.1)
   intro W18 hO
   replace k_t2 := k_t2.o hO
   replace k_t4 := k_t4.o hO
   replace k_t6 := k_t6.o hO
   replace k_t7 := k_t7.o hO
   replace k_t9 := k_t9.o hO
   replace k_t10 := k_t10.o hO
   replace k_t11 := k_t11.o hO
   replace k_s38 := k_s38.o hO
   replace Q5 := Sl.off Q5 hO f0
   replace off0 := off0.o hO
   clear hO
   refine J2t (fun W => True) (fun W hS => trivial) trivial ?_
   refine J3g rfl ?_
   refine LpA ?_ k_t11 (k := .u8) (n := 64) (f := Q6 U5)
   intro W19 hO h_
   replace k_t11 : Blk W19 Y25 (J1 .u8 64 (Q6 U5)) 30 := h_
   clear h_
   replace k_t2 := k_t2.p hO J33
   replace k_t4 := k_t4.p hO J2f
   replace k_t6 := k_t6.p hO J16
   replace k_t7 := k_t7.p hO J34
   replace k_t9 := k_t9.p hO nq_t9_t11
   replace k_t10 := k_t10.p hO nq_t10_t11
   replace k_s38 := k_s38.p hO nq_t11_s38.symm
   replace Q5 := Sl.off Q5 hO (f1 J38)
   replace off0 := off0.p hO J2g
   clear hO
   refine J2t (fun W => True) (fun W hS => trivial) trivial ?_
   refine Q3s ?_
   exact ⟨Y26, Y25, (by (simp only [Z9x, List.foldl_cons, List.foldl_nil, Act.put, mA, mB, mC] <;> rfl)), off0, k_t2, k_t4, k_t6, k_t7, k_t9, k_t10, k_s38, k_t11, Q5, Q6b, J8e, J8f, J8g, J8h, J8i, J77, Q02, J2g, J33, J2f, J16, J34, nq_t9_t11, nq_t10_t11, nq_t11_s38.symm, J38⟩
 rintro _ W20 ⟨j_s38, j_t11, rfl, off0, k_t2, k_t4, k_t6, k_t7, k_t9, k_t10, k_s38, k_t11, Q5, Q6b, J8e, J8f, J8g, J8h, J8i, J77, Q02, J2g, J33, J2f, J16, J34, nq_t9_t11, nq_t10_t11, J5r, J38⟩
 simp only [Z9x, List.foldl_cons, List.foldl_nil]
 (try simp only [Act.put, mA, mB, mC])
 go_upto_region 8 with fail
 refine wp_region_lit ?_
 refine Lw ?_ (v := .slice (some ⟨j_t11, 0, none⟩) 64 64) (hv := by first | rfl | (go_simp; done) | (go_simp; with_reducible rfl))
 refine Lr ?_ (Y0s HU6.out (n := 64) (off := 0) k_t11 ap0 (by decide) (by rw [HU5.out]; exact Y1q _) (Q7 hG off0.ext).2.2.1)
 intro W21 hO
 replace k_t4 := k_t4.o hO
 replace k_t6 := k_t6.o hO
 replace k_t7 := k_t7.o hO
 replace k_t9 := k_t9.o hO
 replace off0 := off0.o hO
 clear hO
 refine LnP ?_ (z := c4 0) (t := 42) (cells := c4 U6)
 intro Q03 W23 J24 hO h_
 replace k_t4 := k_t4.o hO
 replace k_t6 := k_t6.o hO
 replace k_t7 := k_t7.o hO
 replace k_t9 := k_t9.o hO
 replace off0 := off0.o hO
 have k_t12 := h_
 clear hO h_ J24
 refine J0 ?_
 go_upto_region 9 with fail
 refine J42 (.q 0 (.q 1 (.q 2 (.q 3 (.q 5 (.q 8 (.q 9 (.e 4 (.e 6 (.e 7 (.e 10 (.e 11 (.e 12 (.e 13 (.q 14 .z))))))))))))))) (fun W => (Blk W J7u (s3 U1 U2 U3) 25) ∧ (Blk W J97 (p4 hx hy hz ht) 60) ∧ (Blk W J5j (p4 x1 y2 z3 t4) 60) ∧ (Blk W Q03 (c4 U6) 42)) (by kernel_rfl) (by kernel_rfl) ?_
 intro W24 hO
 replace k_t4 := k_t4.o hO
 replace k_t6 := k_t6.o hO
 replace k_t7 := k_t7.o hO
 replace k_t9 := k_t9.o hO
 replace k_t12 := k_t12.o hO
 replace off0 := off0.o hO
 clear hO
 refine ⟨⟨k_t6, k_t7, k_t9, k_t12⟩, ?_⟩
 (refine J1r (v := ?_) rfl (by rfl) (fun W hS => ?_) ?_; rotate_left 1; (focus (go_simp; first | done | with_reducible rfl)))
 (try simp only [Act.put, mA, mB, mC])
 refine J1r (v := .agg (J1 .u8 32 (Q6 U3))) rfl (by rfl) (fun W hS => by exact (Q36 (vs := (J1 .u8 32 (Q6 U3)).toList) rfl rfl (fun i v hv => by rw [Q8 (hS.1)]; exact Y9n i v (by simpa using hv)) (by kernel_rfl) (by kernel_rfl))) ?_
 (try simp only [Act.put, mA, mB, mC])
 refine J1r (v := .agg (p4 hx hy hz ht)) rfl (by rfl) (fun W hS => by exact (J20 rfl rfl (hS.2.1) (by kernel_rfl) (by kernel_rfl))) ?_
 (try simp only [Act.put, mA, mB, mC])
 refine J1r (v := .agg (p4 x1 y2 z3 t4)) rfl (by rfl) (fun W hS => by exact (J20 rfl rfl (hS.2.2.1) (by kernel_rfl) (by kernel_rfl))) ?_
 (try simp only [Act.put, mA, mB, mC])
 refine J1r (v := .agg (c4 U6)) rfl (by rfl) (fun W hS => by exact (J20 rfl rfl (hS.2.2.2) (by kernel_rfl) (by kernel_rfl))) ?_
 (try simp only [Act.put, mA, mB, mC])
 refine J1r (v := .agg (p4 hx hy hz ht)) rfl (by rfl) (fun W hS => by exact (J20 rfl rfl (hS.2.1) (by kernel_rfl) (by kernel_rfl))) ?_
 (try simp only [Act.put, mA, mB, mC])
 refine J1r (v := .agg (c4 U6)) rfl (by rfl) (fun W hS => by exact (J20 rfl rfl (hS.2.2.2) (by kernel_rfl) (by kernel_rfl))) ?_
 (try simp only [Act.put, mA, mB, mC])
 refine J3g rfl ?_
 refine Lr ?_ (c12 W24 (Q7 hG off0.ext).1)
 intro W25 hO
 replace k_t4 := k_t4.o hO
 replace k_t6 := k_t6.o hO
 replace k_t7 := k_t7.o hO
 replace k_t9 := k_t9.o hO
 replace k_t12 := k_t12.o hO
 replace off0 := off0.o hO
 clear hO
 refine J2t (fun W => (Blk W J7u (s3 U1 U2 U3) 25) ∧ (Blk W J97 (p4 hx hy hz ht) 60) ∧ (Blk W J5j (p4 x1 y2 z3 t4) 60) ∧ (Blk W Q03 (c4 U6) 42)) (fun W hS => ⟨hS.1, hS.2.1, hS.2.2.1, hS.2.2.2⟩) ⟨k_t6, k_t7, k_t9, k_t12⟩ ?_
 refine J3g rfl ?_
 refine Lr ?_ (Q29 lU6 W25 (Q7 hG off0.ext).2.2.1)
 intro W26 hO
 replace k_t4 := k_t4.o hO
 replace k_t6 := k_t6.o hO
 replace k_t7 := k_t7.o hO
 replace k_t9 := k_t9.o hO
 replace k_t12 := k_t12.o hO
 replace off0 := off0.o hO
 clear hO
 refine J2t (fun W => (Blk W J7u (s3 U1 U2 U3) 25) ∧ (Blk W J97 (p4 hx hy hz ht) 60) ∧ (Blk W J5j (p4 x1 y2 z3 t4) 60) ∧ (Blk W Q03 (c4 U6) 42)) (fun W hS => ⟨hS.1, hS.2.1, hS.2.2.1, hS.2.2.2⟩) ⟨k_t6, k_t7, k_t9, k_t12⟩ ?_
 refine J3g rfl ?_
 refine Lr ?_ (c18 W26 (Q7 hG off0.ext).1)
 intro W27 hO
 replace k_t4 := k_t4.o hO
 replace k_t6 := k_t6.o hO
 replace k_t7 := k_t7.o hO
 replace k_t9 := k_t9.o hO
 replace k_t12 := k_t12.o hO
 replace off0 := off0.o hO
 clear hO
 refine J2t (fun W => (Blk W J7u (s3 U1 U2 U3) 25) ∧ (Blk W J97 (p4 hx hy hz ht) 60) ∧ (Blk W J5j (p4 x1 y2 z3 t4) 60) ∧ (Blk W Q03 (c4 U6) 42)) (fun W hS => ⟨hS.1, hS.2.1, hS.2.2.1, hS.2.2.2⟩) ⟨k_t6, k_t7, k_t9, k_t12⟩ ?_
 refine J3g rfl ?_
 refine Lr ?_ (Q29 lU6 W27 (Q7 hG off0.ext).2.2.1)
 intro W28 hO
 replace k_t4 := k_t4.o hO
 replace k_t6 := k_t6.o hO
 replace k_t7 := k_t7.o hO
 replace k_t9 := k_t9.o hO
 replace k_t12 := k_t12.o hO
 replace off0 := off0.o hO
 clear hO
 refine J2t (fun W => (Blk W J7u (s3 U1 U2 U3) 25) ∧ (Blk W J97 (p4 hx hy hz ht) 60) ∧ (Blk W J5j (p4 x1 y2 z3 t4) 60) ∧ (Blk W Q03 (c4 U6) 42)) (fun W hS => ⟨hS.1, hS.2.1, hS.2.2.1, hS.2.2.2⟩) ⟨k_t6, k_t7, k_t9, k_t12⟩ ?_
 refine J3g rfl ?_
 refine Lr ?_ (c24 W28 (Q7 hG off0.ext).1)
 intro W29 hO
 replace k_t4 := k_t4.o hO
 replace k_t6 := k_t6.o hO
 replace k_t7 := k_t7.o hO
 replace k_t9 := k_t9.o hO
 replace k_t12 := k_t12.o hO
 replace off0 := off0.o hO
 clear hO
 refine J2t (fun W => (Blk W J7u (s3 U1 U2 U3) 25) ∧ (Blk W J97 (p4 hx hy hz ht) 60) ∧ (Blk W J5j (p4 x1 y2 z3 t4) 60) ∧ (Blk W Q03 (c4 U6) 42)) (fun W hS => ⟨hS.1, hS.2.1, hS.2.2.1, hS.2.2.2⟩) ⟨k_t6, k_t7, k_t9, k_t12⟩ ?_
 refine J3g rfl ?_
 refine LnS ?_ (z := (p4 hx hy hz ht) ++ (p4 x1 y2 z3 t4) ++ (p4 x13 y14 z15 t16) ++ (p4 x19 y20 z21 t22)) (t := 60) (n := 4) (c := 4)
 intro V0x W30 V3z hO h_
 replace k_t4 := k_t4.o hO
 replace k_t6 := k_t6.o hO
 replace k_t7 := k_t7.o hO
 replace k_t9 := k_t9.o hO
 replace k_t12 := k_t12.o hO
 replace off0 := off0.o hO
 have V40 := h_
 clear hO h_ V3z
 refine J2t (fun W => (Blk W J7u (s3 U1 U2 U3) 25) ∧ (Blk W J97 (p4 hx hy hz ht) 60) ∧ (Blk W J5j (p4 x1 y2 z3 t4) 60) ∧ (Blk W Q03 (c4 U6) 42)) (fun W hS => ⟨hS.1, hS.2.1, hS.2.2.1, hS.2.2.2⟩) ⟨k_t6, k_t7, k_t9, k_t12⟩ ?_
 refine J3g rfl ?_
 refine Q5y (R := fun v W => ∃ p, v = .slice (some ⟨p, 0, none⟩) 16 64 ∧ W30.heap.size ≤ p ∧ Off [] W30 W ∧ Blk W p (J1 .u8 64 (Q6 U7)) 30) ((Z2a (kn := kn) hr r5 r17 r23 HU7.out V0x W30 (Q7 hG off0.ext) V40).mono fun e W h => by obtain ⟨p, h1, h2⟩ := h; exact ⟨_, h1, p, rfl, h2⟩) (by rfl) rfl (by kernel_rfl) rfl ?_
 (try simp only [Act.put, mA, mB, mC])
 rintro _ W31 ⟨pm31, rfl, n_mk, hO, h_⟩
 (try simp only [Act.put, mA, mB, mC])
 replace k_t4 := k_t4.o hO
 replace k_t6 := k_t6.o hO
 replace k_t7 := k_t7.o hO
 replace k_t9 := k_t9.o hO
 replace k_t12 := k_t12.o hO
 replace off0 := off0.o hO
 have k_mk := h_
 clear hO h_ n_mk
 refine J2t (fun W => (Blk W J7u (s3 U1 U2 U3) 25) ∧ (Blk W J97 (p4 hx hy hz ht) 60) ∧ (Blk W J5j (p4 x1 y2 z3 t4) 60) ∧ (Blk W Q03 (c4 U6) 42)) (fun W hS => ⟨hS.1, hS.2.1, hS.2.2.1, hS.2.2.2⟩) ⟨k_t6, k_t7, k_t9, k_t12⟩ ?_
 (refine J1r (v := ?_) rfl (by rfl) (fun W hS => ?_) ?_; rotate_left 1; (focus (go_simp; first | done | with_reducible rfl)))
 (try simp only [Act.put, mA, mB, mC])
 refine Q3s ?_
 go_upto_region 10 with fail
 refine Rx1 9 14 (z := J1 .u8 32 (Q6 0)) (t := 22) ?_
 refine Xl ?_ k_t12
 refine Xv ?_
 refine Xf ?_ (fun W hW => Y0s HU9.out (n := 16) (off := 0) (J2 k_mk hW) (h16 HU8.out) (by decide) qU8 (Q7 (Q7 hG off0.ext) hW).2.2.1)
 refine Xv ?_
 refine Xw ?_ (v := .slice (some ⟨J7u, 0, none⟩) 32 32)
 refine Xf ?_ (fun W hW => Y0s HU10.out (n := 32) (off := 0) (J2 k_t6 hW) Y9l (by decide) bU1 (Q7 (Q7 hG off0.ext) hW).2.2.1)
 refine Xf ?_ (fun W hW => Y9q HU11.out (Nat.lt_trans lU9 J2w) (Nat.lt_trans lU10 J2w) W (Q7 (Q7 hG off0.ext) hW).2.2.1)
 refine Xf ?_ (fun W hW => Y9r HU12.out (Nat.lt_trans lU6 J2w) (Nat.lt_trans lU11 J2w) W (Q7 (Q7 hG off0.ext) hW).2.2.1)
 refine Xf ?_ (fun W hW => Q29 lU12 W (Q7 (Q7 hG off0.ext) hW).2.2.1)
 refine XN ?_
 intro Q98 W32 J47 hE h_t14
 have hO := Z6 hE
 have Q2z := bn k_t4 J47
 have Z75 := bn k_t9 J47
 have Z76 := bn k_mk J47
 have Q5i := fbn off0 J47
 replace k_t4 := k_t4.o hO
 replace k_t9 := k_t9.o hO
 replace k_mk := k_mk.o hO
 replace off0 := off0.o hO
 clear hO hE J47
 have k_t14 : Blk W32 Q98 (J1 .u8 32 (Q6 0)) 22 := h_t14
 clear h_t14
 refine LpA ?_ k_t14 (k := .u8) (n := 32) (f := Q6 U12)
 intro W33 hO h_
 replace k_t14 : Blk W33 Q98 (J1 .u8 32 (Q6 U12)) 22 := h_
 clear h_
 replace k_t4 := k_t4.p hO Q2z
 replace k_t9 := k_t9.p hO Z75
 replace k_mk := k_mk.p hO Z76
 replace off0 := off0.p hO Q5i
 clear hO
 refine LN ?_
 go_upto_region 11 with fail
 refine wp_region_lit ?_
 refine L0 ?_ k_t9
 refine Lr ?_ (J9z r5.rw HU13.out W33 (Q7 hG off0.ext).1)
 intro W34 hO
 replace k_t4 := k_t4.o hO
 replace k_mk := k_mk.o hO
 replace k_t14 := k_t14.o hO
 replace off0 := off0.o hO
 clear hO
 refine LnA ?_ (z := J1 .u8 32 (Q6 0)) (t := 22) (k := .u8) (n := 32) (f := Q6 U13)
 intro V0y W36 Q04 hO h_
 replace k_t4 := k_t4.o hO
 replace k_mk := k_mk.o hO
 replace k_t14 := k_t14.o hO
 replace off0 := off0.o hO
 have k_t15 := h_
 clear hO h_ Q04
 refine J0 ?_
 go_upto_region 12 with fail
 refine J42 (.q 1 (.q 3 (.q 5 (.e 0 (.e 2 (.e 4 (.e 6 (.q 7 (.q 8 (.e 9 (.q 10 .z))))))))))) (fun W => True) (by kernel_rfl) (by kernel_rfl) ?_
 intro W37 hO
 replace k_t4 := k_t4.o hO
 replace k_mk := k_mk.o hO
 replace k_t14 := k_t14.o hO
 replace k_t15 := k_t15.o hO
 replace off0 := off0.o hO
 clear hO
 refine ⟨trivial, ?_⟩
 refine J1r (v := .slice (some ⟨V0y, 0, none⟩) 32 32) rfl (by rfl) (fun W hS => by first | rfl | (go_simp; done) | (go_simp; with_reducible rfl)) ?_
 (try simp only [Act.put, mA, mB, mC])
 (refine J1r (v := ?_) rfl (by rfl) (fun W hS => ?_) ?_; rotate_left 1; (focus (go_simp; first | done | with_reducible rfl)))
 (try simp only [Act.put, mA, mB, mC])
 refine J1r (v := .slice (some ⟨Q98, 0, none⟩) 32 32) rfl (by rfl) (fun W hS => by first | rfl | (go_simp; done) | (go_simp; with_reducible rfl)) ?_
 (try simp only [Act.put, mA, mB, mC])
 refine J3g rfl ?_
 refine LnS ?_ (z := #[]) (t := 5) (n := 0) (c := 0)
 intro Q6c W38 Z0r hO h_
 have Q7l : Value.ownBlock (.slice (some ⟨Q6c, 0, none⟩) 0 0) ≠ some J6r := obn k_t4 Z0r
 have Z77 : Value.ownBlock (.slice (some ⟨Q6c, 0, none⟩) 0 0) ≠ some pm31 := obn k_mk Z0r
 have Q6d : Value.ownBlock (.slice (some ⟨Q6c, 0, none⟩) 0 0) ≠ some Q98 := obn k_t14 Z0r
 have Y27 : Fr (Value.ownBlock (.slice (some ⟨Q6c, 0, none⟩) 0 0)) w.heap.size [] := frn off0 Z0r
 replace k_t4 := k_t4.o hO
 replace k_mk := k_mk.o hO
 replace k_t14 := k_t14.o hO
 replace k_t15 := k_t15.o hO
 replace off0 := off0.o hO
 have V0z : Own W38 (.slice (some ⟨Q6c, 0, none⟩) 0 0) [] := V7 h_ (by rfl) (by show 0 ≤ maxLen; decide)
 clear hO h_ Z0r
 refine J2t (fun W => True) (fun W hS => trivial) trivial ?_
 refine J3g rfl ?_
 refine J0b (xs := []) (ys := (lb 32 U13)) (by rfl) rfl rfl rfl V0z (J0j (V := U13) (n := 32) (off := 0) k_t15 ap0 (by decide) (by decide)) (by first | omega | (simp only [List.length_append, List.length_cons, List.length_nil, J8]; omega)) ?_
 (try simp only [Act.put, mA, mB, mC])
 intro V61 W39 V10 hO Q99 nil_a69
 clear nil_a69
 have Q7m := J15 Q99 Q7l (J5 k_t4)
 have Z2g := J15 Q99 Q6d (J5 k_t14)
 have Y28 := J0i Q99 Y27 off0.size
 replace k_t4 := K3 k_t4 hO (nmo Q7l)
 replace k_mk := K3 k_mk hO (nmo Z77)
 replace k_t14 := K3 k_t14 hO (nmo Q6d)
 replace off0 := off0.step hO (io Y27)
 clear hO Q99
 refine J2t (fun W => True) (fun W hS => trivial) trivial ?_
 refine J3g rfl ?_
 refine J0b (xs := ([] ++ (lb 32 U13))) (ys := (lb 16 U8)) (by rfl) rfl rfl rfl V10 (J0j (V := U8) (n := 16) (off := 0) k_mk (h16 HU8.out) (by decide) (by decide)) (by first | omega | (simp only [List.length_append, List.length_cons, List.length_nil, J8]; omega)) ?_
 (try simp only [Act.put, mA, mB, mC])
 intro V62 W40 V11 hO Z2h nil_a71
 clear nil_a71
 have Q7n := J15 Z2h Q7m (J5 k_t4)
 have V12 := J0i Z2h Y28 off0.size
 replace k_t4 := K3 k_t4 hO (nmo Q7m)
 replace k_t14 := K3 k_t14 hO (nmo Z2g)
 replace off0 := off0.step hO (io Y28)
 clear hO Z2h
 refine J2t (fun W => True) (fun W hS => trivial) trivial ?_
 refine J3g rfl ?_
 refine J0b (xs := (([] ++ (lb 32 U13)) ++ (lb 16 U8))) (ys := (lb 32 U12)) (by rfl) rfl rfl rfl V11 (J0j (V := U12) (n := 32) (off := 0) k_t14 ap0 (by decide) (by decide)) (by first | omega | (simp only [List.length_append, List.length_cons, List.length_nil, J8]; omega)) ?_
 (try simp only [Act.put, mA, mB, mC])
 intro Z2i W41 Q6e hO Y29 nil_a73
 clear nil_a73
 have Z78 := J15 Y29 Q7n (J5 k_t4)
 replace k_t4 := K3 k_t4 hO (nmo Q7n)
 replace off0 := off0.step hO (io V12)
 clear hO Y29
 refine J2t (fun W => (Own W Z2i ((([] ++ (lb 32 U13)) ++ (lb 16 U8)) ++ (lb 32 U12)))) (fun W hS => trivial) Q6e ?_
 have ln_ : ((([] ++ (lb 32 U13)) ++ (lb 16 U8)) ++ (lb 32 U12)).length = 80 := by simp only [List.length_append, J8, List.length_nil]
 obtain ⟨gz, cz, curz, ez, -, -⟩ := Z0i Q6e (by rw [ln_]; decide)
 rw [ln_] at ez
 refine J1r (v := .pointer (some ⟨gz, 0, none⟩)) rfl (by rfl) (fun W hS => by exact (Y5a (n := 80) rfl (by show Z2i = _; exact ez) Tryd.underlying45)) ?_
 (try simp only [Act.put, mA, mB, mC])
 refine J1r (v := .agg (J1 .u8 80 (Q6 (U13 + 2 ^ 256 * (U8 + J28 * U12))))) rfl (by rfl) (fun W hS => by exact (Q36 (vs := (J1 .u8 80 (Q6 (U13 + 2 ^ 256 * (U8 + J28 * U12)))).toList) rfl rfl (Y9t (hS) ez ln_ (by decide) (by rw [List.nil_append]; exact Y22 bU13 qU8)) (by kernel_rfl) (by rw [Array.length_toList, Q1]; kernel_rfl))) ?_
 (try simp only [Act.put, mA, mB, mC])
 refine J3g rfl ?_
 refine LpA ?_ k_t4 (k := .u8) (n := 80) (f := Q6 (U13 + 2 ^ 256 * (U8 + J28 * U12)))
 intro W42 hO h_
 replace k_t4 : Blk W42 J6r (J1 .u8 80 (Q6 (U13 + 2 ^ 256 * (U8 + J28 * U12)))) 45 := h_
 clear h_
 replace Q6e := Own.off Q6e hO (f1 Z78)
 replace off0 := off0.p hO J2d
 clear hO
 refine J2t (fun W => (Own W Z2i ((([] ++ (lb 32 U13)) ++ (lb 16 U8)) ++ (lb 32 U12)))) (fun W hS => hS) Q6e ?_
 (refine J1r (v := ?_) rfl (by rfl) (fun W hS => ?_) ?_; rotate_left 1; (focus (go_simp; first | done | with_reducible rfl)))
 (try simp only [Act.put, mA, mB, mC])
 refine Q3s ?_
 go_wp2
 rw [show J1 .u8 80 (Q6 (U13 + 2 ^ 256 * (U8 + J28 * U12))) = J1 .u8 80 (Q6 (vPr S h)) by rw [HU13.out, HU12.out, HU11.out, HU10.out, HU9.out, HU8.out, HU7.out, HU6.out, HU5.out, HU4.out, HU3.out, HU2.out, HU1.out]; rfl] at k_t4
 exact bodyPost_ret (V8 rfl rfl rfl k_t4 (by kernel_rfl) (by rw [Q1]; kernel_rfl)) rfl ⟨rfl, off0.ext⟩
theorem Y5v (hd : kn.d) (hb : kn.b) (hc : kn.c) (S : Nat) (v : Value) (L : List UInt8) (hL : L.length ≤ 1099511627776) (hv : vpt (kP S) L = none) :
  ∀ w, GA kn w → Sl w v L → Calls Tryd.prog 23 #[.agg (J1 .u8 32 (Q6 S)), v] w fun e w' => Ret (.tuple #[.agg (J1 .u8 80 (Q6 0)), .int .i64 15]) w w' e := by
 obtain ⟨U1, hU1⟩ := V2 (kN S)
 have bU1 : U1 < 2 ^ 256 := by rw [hU1]; exact Z4z _
 have HU1 := Lib.hid hU1
 clear hU1
 obtain ⟨U2, hU2⟩ := V2 (kD S)
 have bU2 : U2 < 2 ^ 256 := by rw [hU2]; exact Z50 _
 have HU2 := Lib.hid hU2
 clear hU2
 obtain ⟨U3, hU3⟩ := V2 (kP S)
 have bU3 : U3 < 2 ^ 256 := by rw [hU3]; exact Z51 _
 have HU3 := Lib.hid hU3
 clear hU3
 have hv_ : vpt U3 L = none := by rw [HU3.out]; exact hv
 intro w hG hsl
 have Q5 := hsl
 have off0 : Off [] w w := Off.refl _ _
 go_enter Tryd.func23, Tryd.ntmps23
 go_upto_region 0 with fail
 refine wp_region_lit ?_
 refine Ln ?_ (z := J1 .u8 32 (Q6 S)) (t := 22)
 intro J0c W1 U0 hO h_
 replace Q5 := Sl.off Q5 hO f0
 replace off0 := off0.o hO
 have k_t2 := h_
 clear hO h_ U0
 refine Ln ?_ (z := J1 .u8 80 (Q6 0)) (t := 45)
 intro J6r W2 J10 hO h_
 have J2d := fbn off0 J10
 replace k_t2 := k_t2.o hO
 replace Q5 := Sl.off Q5 hO f0
 replace off0 := off0.o hO
 have k_t4 := h_
 clear hO h_ J10
 refine Lw ?_ (v := .int .i64 0)
 refine J0 ?_
 go_upto_region 1 with fail
 refine wp_region_lit ?_
 refine L0A ?_ k_t2
 refine Lr ?_ (Q0n hd hb HU1.out HU2.out HU3.out W2 (Q7 hG off0.ext))
 intro W3 hO
 replace k_t4 := k_t4.o hO
 replace Q5 := Sl.off Q5 hO f0
 replace off0 := off0.o hO
 clear hO
 refine LnP ?_ (z := s3 0 0 0) (t := 25) (cells := s3 U1 U2 U3) (hi := by rw [J29]; kernel_rfl) (hs := by first | rw [J29, J29] | rw [J29] | kernel_rfl) (h1 := by exact Q93)
 intro J7u W5 J1c hO h_
 replace k_t4 := k_t4.o hO
 replace Q5 := Sl.off Q5 hO f0
 replace off0 := off0.o hO
 have k_t6 := h_
 clear hO h_ J1c
 refine J0 ?_
 go_upto_region 2 with fail
 refine wp_region_lit ?_
 refine Lv ?_
 refine J05 (vs := (J1 .u8 32 (Q6 U3)).toList) (by rfl) rfl rfl k_t6 (J3z Y9n) (by kernel_rfl) (by kernel_rfl) ?_
 (try simp only [Act.put, mA, mB, mC])
 refine Lv ?_
 refine Lr ?_ (Z59 (kn := kn) hc hL hv_ v W5 (Q7 hG off0.ext) Q5)
 intro W6 hO
 replace k_t4 := k_t4.o hO
 replace off0 := off0.o hO
 clear hO
 refine Lv ?_
 refine Lv ?_
 refine Lw ?_ (v := .int .i64 15)
 refine LnP ?_ (z := p4 0 0 0 0) (t := 60) (cells := p4 0 0 0 0)
 intro J97 W8 J03 hO h_
 replace k_t4 := k_t4.o hO
 replace off0 := off0.o hO
 clear hO h_ J03
 refine Lw ?_ (v := .int .i64 15)
 refine J0 ?_
 go_upto_region 4 with fail
 refine wp_region_lit ?_
 refine Lw ?_ (v := .agg (J1 .u8 80 (Q6 0))) (hv := by kernel_rfl)
 refine Lw ?_ (v := .int .i64 15)
 refine LpA ?_ k_t4 (k := .u8) (n := 80) (f := Q6 0)
 intro W9 hO h_
 replace k_t4 : Blk W9 J6r (J1 .u8 80 (Q6 0)) 45 := h_
 clear h_
 replace off0 := off0.p hO J2d
 clear hO
 refine Lw ?_ (v := .int .i64 15)
 refine J0 ?_
 go_wp2
 exact bodyPost_ret (V8 rfl rfl rfl k_t4 (by kernel_rfl) (by rw [Q1]; kernel_rfl)) rfl ⟨rfl, off0.ext⟩
end Go.Proofs.YtefpoollmbmkfaaDoor

namespace Go.Proofs.YtefpoollmbmkfaaDoor
set_option maxHeartbeats 2000000
set_option maxRecDepth 100000
open Go.RowKit
attribute [local irreducible] wpList J6j
variable {kn : Kn}
open Sc (LL J21)
attribute [local irreducible] hs
theorem Z0s : J28 < 2 ^ 256 := by decide
theorem Y5w {C : Nat} (hC : C < J28) (v : Value) (w : World) (h : Sl w v (lb 16 C)) : Calls Tryd.prog 66 #[v] w fun e w' => Ret (.agg (J1 .u8 32 (Q6 C))) w w' e := by
  have h2 := V0r v (lb 16 C) (J8 _ _) w h
  rw [Q3n 16 C hC] at h2
  exact h2
theorem Z0t {A B : Nat} (hA : A < J28) (hB : B < J28) (h : lb 16 A = lb 16 B) : A = B := by
  rw [← Q3n 16 A hA, ← Q3n 16 B hB, h]
theorem J98 {W : World} {o : Oper} {a : Act} {x y : Operand} {t : TypeId} {l m : List UInt8} {b : Bool} (hb : (!decide (l = m)) = b) (ho : o.op = .binOp .neq 9 x y t) (hx : a.eval x = str l) (hy : a.eval y = str m) : (execOp a.eval o).run Tryd.prog W = .ok (.value (.bool b)) W := by
  exact hb ▸ Q6v ho hx hy
def chk (V P : Nat) (h : Pr) : Nat := ch V h (dPt (pG P)) (J14 (pm BP (pN P)) (pm (J4c (dPt V)) (pC P))) (J14 (pm h (pN P)) (pm (J4c (dPt (pG P))) (pC P)))

theorem Y5x (hd : kn.d) (hb : kn.b) (hc : kn.c) {V P : Nat} (hV : V < 2 ^ 256) (hP : B80 P) (v : Value) (L : List UInt8) (hL : L.length ≤ 1099511627776) (hk1 : dOk V = false) :
  ∀ w, GA kn w → Sl w v L → Calls Tryd.prog 26 #[.agg (J1 .u8 32 (Q6 V)), v, .agg (J1 .u8 80 (Q6 P))] w fun e w' => Ret (.tuple #[.agg (J1 .u8 64 (Q6 0)), .int .i64 15]) w w' e := by
 have kc := V3x (kn := kn) hc hV hk1
 intro w hG hsl
 have off0 : Off [] w w := Off.refl _ _
 go_enter Tryd.func26, Tryd.ntmps26
 go_upto_region 0 with fail
 refine wp_region_lit ?_
 refine Ln ?_ (z := J1 .u8 32 (Q6 V)) (t := 22)
 intro J2e W1 J13 hO h_
 replace off0 := off0.o hO
 have k_t3 := h_
 clear hO h_ J13
 refine Ln ?_ (z := J1 .u8 80 (Q6 P)) (t := 45)
 intro Q0u W2 J0p hO h_
 replace k_t3 := k_t3.o hO
 replace off0 := off0.o hO
 clear hO h_ J0p
 refine Ln ?_ (z := J1 .u8 64 (Q6 0)) (t := 30)
 intro J8n W3 J1c hO h_
 have J4w := fbn off0 J1c
 replace k_t3 := k_t3.o hO
 replace off0 := off0.o hO
 have k_t6 := h_
 clear hO h_ J1c
 refine Lw ?_ (v := .int .i64 0)
 refine J0 ?_
 go_upto_region 1 with fail
 refine wp_region_lit ?_
 refine L0A ?_ k_t3
 refine Lr ?_ (kc W3 (Q7 hG off0.ext))
 intro W4 hO
 replace k_t6 := k_t6.o hO
 replace off0 := off0.o hO
 clear hO
 refine Lv ?_
 refine Lv ?_
 refine Lw ?_ (v := .int .i64 15)
 refine LnP ?_ (z := p4 0 0 0 0) (t := 60) (cells := p4 0 0 0 0)
 intro Q3x W6 V6 hO h_
 replace k_t6 := k_t6.o hO
 replace off0 := off0.o hO
 clear hO h_ V6
 refine Lw ?_ (v := .int .i64 15)
 refine J0 ?_
 go_upto_region 3 with fail
 refine wp_region_lit ?_
 refine Lw ?_ (v := .agg (J1 .u8 64 (Q6 0))) (hv := by kernel_rfl)
 refine Lw ?_ (v := .int .i64 15)
 refine LpA ?_ k_t6 (k := .u8) (n := 64) (f := Q6 0)
 intro W7 hO h_
 replace k_t6 : Blk W7 J8n (J1 .u8 64 (Q6 0)) 30 := h_
 clear h_
 replace off0 := off0.p hO J4w
 clear hO
 refine Lw ?_ (v := .int .i64 15)
 refine J0 ?_
 go_wp2
 exact bodyPost_ret (V8 rfl rfl rfl k_t6 (by kernel_rfl) (by rw [Q1]; kernel_rfl)) rfl ⟨rfl, off0.ext⟩
theorem Y5y (hd : kn.d) (hb : kn.b) (hc : kn.c) {V P : Nat} (hV : V < 2 ^ 256) (hP : B80 P) (v : Value) (L : List UInt8) (hL : L.length ≤ 1099511627776) (hk1 : dOk V = true) (hk2 : pm (dPt V) 8 = p0) :
  ∀ w, GA kn w → Sl w v L → Calls Tryd.prog 26 #[.agg (J1 .u8 32 (Q6 V)), v, .agg (J1 .u8 80 (Q6 P))] w fun e w' => Ret (.tuple #[.agg (J1 .u8 64 (Q6 0)), .int .i64 15]) w w' e := by
 obtain ⟨kx, ky, kt, kr, kc⟩ := V3y (kn := kn) hc hV hk1 hk2
 intro w hG hsl
 have off0 : Off [] w w := Off.refl _ _
 go_enter Tryd.func26, Tryd.ntmps26
 go_upto_region 0 with fail
 refine wp_region_lit ?_
 refine Ln ?_ (z := J1 .u8 32 (Q6 V)) (t := 22)
 intro J2e W1 J13 hO h_
 replace off0 := off0.o hO
 have k_t3 := h_
 clear hO h_ J13
 refine Ln ?_ (z := J1 .u8 80 (Q6 P)) (t := 45)
 intro Q0u W2 J0p hO h_
 replace k_t3 := k_t3.o hO
 replace off0 := off0.o hO
 clear hO h_ J0p
 refine Ln ?_ (z := J1 .u8 64 (Q6 0)) (t := 30)
 intro J8n W3 J1c hO h_
 have J4w := fbn off0 J1c
 replace k_t3 := k_t3.o hO
 replace off0 := off0.o hO
 have k_t6 := h_
 clear hO h_ J1c
 refine Lw ?_ (v := .int .i64 0)
 refine J0 ?_
 go_upto_region 1 with fail
 refine wp_region_lit ?_
 refine L0A ?_ k_t3
 refine Lr ?_ (kc W3 (Q7 hG off0.ext))
 intro W4 hO
 replace k_t6 := k_t6.o hO
 replace off0 := off0.o hO
 clear hO
 refine Lv ?_
 refine Lv ?_
 refine Lw ?_ (v := .int .i64 15)
 refine LnP ?_ (z := p4 0 0 0 0) (t := 60) (cells := p4 kx ky 1 kt)
 intro Q3x W6 V6 hO h_
 replace k_t6 := k_t6.o hO
 replace off0 := off0.o hO
 clear hO h_ V6
 refine Lw ?_ (v := .int .i64 15)
 refine J0 ?_
 go_upto_region 3 with fail
 refine wp_region_lit ?_
 refine Lw ?_ (v := .agg (J1 .u8 64 (Q6 0))) (hv := by kernel_rfl)
 refine Lw ?_ (v := .int .i64 15)
 refine LpA ?_ k_t6 (k := .u8) (n := 64) (f := Q6 0)
 intro W7 hO h_
 replace k_t6 : Blk W7 J8n (J1 .u8 64 (Q6 0)) 30 := h_
 clear h_
 replace off0 := off0.p hO J4w
 clear hO
 refine Lw ?_ (v := .int .i64 15)
 refine J0 ?_
 go_wp2
 exact bodyPost_ret (V8 rfl rfl rfl k_t6 (by kernel_rfl) (by rw [Q1]; kernel_rfl)) rfl ⟨rfl, off0.ext⟩
theorem Y2a (hd : kn.d) (hb : kn.b) (hc : kn.c) {V P : Nat} (hV : V < 2 ^ 256) (hP : B80 P) (v : Value) (L : List UInt8) (hL : L.length ≤ 1099511627776) (hk1 : dOk V = true) (hk2 : ¬ pm (dPt V) 8 = p0) (hok : dOk (pG P) = false) (h1 : LL ≤ pN P) :
  ∀ w, GA kn w → Sl w v L → Calls Tryd.prog 26 #[.agg (J1 .u8 32 (Q6 V)), v, .agg (J1 .u8 80 (Q6 P))] w fun e w' => Ret (.tuple #[.agg (J1 .u8 64 (Q6 0)), .int .i64 17]) w w' e := by
 obtain ⟨kx, ky, kt, kr, kc⟩ := Z0p (kn := kn) hc hV hk1 hk2
 have pc := Y5r (kn := kn) hc hP hok h1
 intro w hG hsl
 have off0 : Off [] w w := Off.refl _ _
 go_enter Tryd.func26, Tryd.ntmps26
 go_upto_region 0 with fail
 refine wp_region_lit ?_
 refine Ln ?_ (z := J1 .u8 32 (Q6 V)) (t := 22)
 intro J2e W1 J13 hO h_
 replace off0 := off0.o hO
 have k_t3 := h_
 clear hO h_ J13
 refine Ln ?_ (z := J1 .u8 80 (Q6 P)) (t := 45)
 intro Q0u W2 J0p hO h_
 replace k_t3 := k_t3.o hO
 replace off0 := off0.o hO
 have k_t5 := h_
 clear hO h_ J0p
 refine Ln ?_ (z := J1 .u8 64 (Q6 0)) (t := 30)
 intro J8n W3 J1c hO h_
 have J4w := fbn off0 J1c
 replace k_t3 := k_t3.o hO
 replace k_t5 := k_t5.o hO
 replace off0 := off0.o hO
 have k_t6 := h_
 clear hO h_ J1c
 refine Lw ?_ (v := .int .i64 0)
 refine J0 ?_
 go_upto_region 1 with fail
 refine wp_region_lit ?_
 refine L0A ?_ k_t3
 refine Lr ?_ (kc W3 (Q7 hG off0.ext))
 intro W4 hO
 replace k_t5 := k_t5.o hO
 replace k_t6 := k_t6.o hO
 replace off0 := off0.o hO
 clear hO
 refine Lv ?_
 refine Lv ?_
 refine Lw ?_ (v := .int .i64 0)
 refine LnP ?_ (z := p4 0 0 0 0) (t := 60) (cells := p4 kx ky 1 kt)
 intro Q3x W6 V6 hO h_
 replace k_t5 := k_t5.o hO
 replace k_t6 := k_t6.o hO
 replace off0 := off0.o hO
 clear hO h_ V6
 refine Lw ?_ (v := .int .i64 0)
 refine J0 ?_
 go_upto_region 4 with fail
 refine wp_region_lit ?_
 refine L0A ?_ k_t5
 refine Lr ?_ (pc W6 (Q7 hG off0.ext))
 intro W7 hO
 replace k_t6 := k_t6.o hO
 replace off0 := off0.o hO
 clear hO
 refine Lv ?_
 refine Lv ?_
 refine Lv ?_
 refine Lw ?_ (v := .int .i64 17)
 refine Ln ?_ (z := p4 0 0 0 0) (t := 60)
 intro Q05 W8 J18 hO h_
 have nq_t6_t10 := bn k_t6 J18
 have J5k := fbn off0 J18
 replace k_t6 := k_t6.o hO
 replace off0 := off0.o hO
 have k_t10 := h_
 clear hO h_ J18
 refine Ln ?_ (z := c4 0) (t := 42)
 intro Q2k W9 K1 hO h_
 have J16 := bn k_t6 K1
 have nq_t10_t11 := bn k_t10 K1
 have J2g := fbn off0 K1
 replace k_t6 := k_t6.o hO
 replace k_t10 := k_t10.o hO
 replace off0 := off0.o hO
 have k_t11 := h_
 clear hO h_ K1
 refine Lp ?_ k_t10 (cells := p4 0 0 0 0)
 intro W10 hO h_
 clear h_
 replace k_t6 := k_t6.p hO nq_t6_t10
 replace k_t11 := k_t11.p hO nq_t10_t11.symm
 replace off0 := off0.p hO J5k
 clear hO
 refine Lp ?_ k_t11 (cells := c4 0)
 intro W11 hO h_
 clear h_
 replace k_t6 := k_t6.p hO J16
 replace off0 := off0.p hO J2g
 clear hO
 refine Lw ?_ (v := .int .i64 17)
 refine J0 ?_
 go_upto_region 6 with fail
 refine wp_region_lit ?_
 refine Lw ?_ (v := .agg (J1 .u8 64 (Q6 0))) (hv := by kernel_rfl)
 refine Lw ?_ (v := .int .i64 17)
 refine LpA ?_ k_t6 (k := .u8) (n := 64) (f := Q6 0)
 intro W12 hO h_
 replace k_t6 : Blk W12 J8n (J1 .u8 64 (Q6 0)) 30 := h_
 clear h_
 replace off0 := off0.p hO J4w
 clear hO
 refine Lw ?_ (v := .int .i64 17)
 refine J0 ?_
 go_wp2
 exact bodyPost_ret (V8 rfl rfl rfl k_t6 (by kernel_rfl) (by rw [Q1]; kernel_rfl)) rfl ⟨rfl, off0.ext⟩
theorem Y2b (hd : kn.d) (hb : kn.b) (hc : kn.c) {V P : Nat} (hV : V < 2 ^ 256) (hP : B80 P) (v : Value) (L : List UInt8) (hL : L.length ≤ 1099511627776) (hk1 : dOk V = true) (hk2 : ¬ pm (dPt V) 8 = p0) (hok : dOk (pG P) = false) (h1 : pN P < LL) :
  ∀ w, GA kn w → Sl w v L → Calls Tryd.prog 26 #[.agg (J1 .u8 32 (Q6 V)), v, .agg (J1 .u8 80 (Q6 P))] w fun e w' => Ret (.tuple #[.agg (J1 .u8 64 (Q6 0)), .int .i64 17]) w w' e := by
 obtain ⟨kx, ky, kt, kr, kc⟩ := Z0p (kn := kn) hc hV hk1 hk2
 have pc := Y5s (kn := kn) hc hP hok h1
 intro w hG hsl
 have off0 : Off [] w w := Off.refl _ _
 go_enter Tryd.func26, Tryd.ntmps26
 go_upto_region 0 with fail
 refine wp_region_lit ?_
 refine Ln ?_ (z := J1 .u8 32 (Q6 V)) (t := 22)
 intro J2e W1 J13 hO h_
 replace off0 := off0.o hO
 have k_t3 := h_
 clear hO h_ J13
 refine Ln ?_ (z := J1 .u8 80 (Q6 P)) (t := 45)
 intro Q0u W2 J0p hO h_
 replace k_t3 := k_t3.o hO
 replace off0 := off0.o hO
 have k_t5 := h_
 clear hO h_ J0p
 refine Ln ?_ (z := J1 .u8 64 (Q6 0)) (t := 30)
 intro J8n W3 J1c hO h_
 have J4w := fbn off0 J1c
 replace k_t3 := k_t3.o hO
 replace k_t5 := k_t5.o hO
 replace off0 := off0.o hO
 have k_t6 := h_
 clear hO h_ J1c
 refine Lw ?_ (v := .int .i64 0)
 refine J0 ?_
 go_upto_region 1 with fail
 refine wp_region_lit ?_
 refine L0A ?_ k_t3
 refine Lr ?_ (kc W3 (Q7 hG off0.ext))
 intro W4 hO
 replace k_t5 := k_t5.o hO
 replace k_t6 := k_t6.o hO
 replace off0 := off0.o hO
 clear hO
 refine Lv ?_
 refine Lv ?_
 refine Lw ?_ (v := .int .i64 0)
 refine LnP ?_ (z := p4 0 0 0 0) (t := 60) (cells := p4 kx ky 1 kt)
 intro Q3x W6 V6 hO h_
 replace k_t5 := k_t5.o hO
 replace k_t6 := k_t6.o hO
 replace off0 := off0.o hO
 clear hO h_ V6
 refine Lw ?_ (v := .int .i64 0)
 refine J0 ?_
 go_upto_region 4 with fail
 refine wp_region_lit ?_
 refine L0A ?_ k_t5
 refine Lr ?_ (pc W6 (Q7 hG off0.ext))
 intro W7 hO
 replace k_t6 := k_t6.o hO
 replace off0 := off0.o hO
 clear hO
 refine Lv ?_
 refine Lv ?_
 refine Lv ?_
 refine Lw ?_ (v := .int .i64 17)
 refine Ln ?_ (z := p4 0 0 0 0) (t := 60)
 intro Q05 W8 J18 hO h_
 have nq_t6_t10 := bn k_t6 J18
 have J5k := fbn off0 J18
 replace k_t6 := k_t6.o hO
 replace off0 := off0.o hO
 have k_t10 := h_
 clear hO h_ J18
 refine Ln ?_ (z := c4 0) (t := 42)
 intro Q2k W9 K1 hO h_
 have J16 := bn k_t6 K1
 have nq_t10_t11 := bn k_t10 K1
 have J2g := fbn off0 K1
 replace k_t6 := k_t6.o hO
 replace k_t10 := k_t10.o hO
 replace off0 := off0.o hO
 have k_t11 := h_
 clear hO h_ K1
 refine Lp ?_ k_t10 (cells := p4 0 0 0 0)
 intro W10 hO h_
 clear h_
 replace k_t6 := k_t6.p hO nq_t6_t10
 replace k_t11 := k_t11.p hO nq_t10_t11.symm
 replace off0 := off0.p hO J5k
 clear hO
 refine Lp ?_ k_t11 (cells := c4 0)
 intro W11 hO h_
 clear h_
 replace k_t6 := k_t6.p hO J16
 replace off0 := off0.p hO J2g
 clear hO
 refine Lw ?_ (v := .int .i64 17)
 refine J0 ?_
 go_upto_region 6 with fail
 refine wp_region_lit ?_
 refine Lw ?_ (v := .agg (J1 .u8 64 (Q6 0))) (hv := by kernel_rfl)
 refine Lw ?_ (v := .int .i64 17)
 refine LpA ?_ k_t6 (k := .u8) (n := 64) (f := Q6 0)
 intro W12 hO h_
 replace k_t6 : Blk W12 J8n (J1 .u8 64 (Q6 0)) 30 := h_
 clear h_
 replace off0 := off0.p hO J4w
 clear hO
 refine Lw ?_ (v := .int .i64 17)
 refine J0 ?_
 go_wp2
 exact bodyPost_ret (V8 rfl rfl rfl k_t6 (by kernel_rfl) (by rw [Q1]; kernel_rfl)) rfl ⟨rfl, off0.ext⟩
theorem Y2c (hd : kn.d) (hb : kn.b) (hc : kn.c) {V P : Nat} (hV : V < 2 ^ 256) (hP : B80 P) (v : Value) (L : List UInt8) (hL : L.length ≤ 1099511627776) (hk1 : dOk V = true) (hk2 : ¬ pm (dPt V) 8 = p0) (hok : dOk (pG P) = true) (h1 : LL ≤ pN P) :
  ∀ w, GA kn w → Sl w v L → Calls Tryd.prog 26 #[.agg (J1 .u8 32 (Q6 V)), v, .agg (J1 .u8 80 (Q6 P))] w fun e w' => Ret (.tuple #[.agg (J1 .u8 64 (Q6 0)), .int .i64 17]) w w' e := by
 obtain ⟨kx, ky, kt, kr, kc⟩ := Z0p (kn := kn) hc hV hk1 hk2
 have pc := Y5t (kn := kn) hc hP hok h1
 intro w hG hsl
 have off0 : Off [] w w := Off.refl _ _
 go_enter Tryd.func26, Tryd.ntmps26
 go_upto_region 0 with fail
 refine wp_region_lit ?_
 refine Ln ?_ (z := J1 .u8 32 (Q6 V)) (t := 22)
 intro J2e W1 J13 hO h_
 replace off0 := off0.o hO
 have k_t3 := h_
 clear hO h_ J13
 refine Ln ?_ (z := J1 .u8 80 (Q6 P)) (t := 45)
 intro Q0u W2 J0p hO h_
 replace k_t3 := k_t3.o hO
 replace off0 := off0.o hO
 have k_t5 := h_
 clear hO h_ J0p
 refine Ln ?_ (z := J1 .u8 64 (Q6 0)) (t := 30)
 intro J8n W3 J1c hO h_
 have J4w := fbn off0 J1c
 replace k_t3 := k_t3.o hO
 replace k_t5 := k_t5.o hO
 replace off0 := off0.o hO
 have k_t6 := h_
 clear hO h_ J1c
 refine Lw ?_ (v := .int .i64 0)
 refine J0 ?_
 go_upto_region 1 with fail
 refine wp_region_lit ?_
 refine L0A ?_ k_t3
 refine Lr ?_ (kc W3 (Q7 hG off0.ext))
 intro W4 hO
 replace k_t5 := k_t5.o hO
 replace k_t6 := k_t6.o hO
 replace off0 := off0.o hO
 clear hO
 refine Lv ?_
 refine Lv ?_
 refine Lw ?_ (v := .int .i64 0)
 refine LnP ?_ (z := p4 0 0 0 0) (t := 60) (cells := p4 kx ky 1 kt)
 intro Q3x W6 V6 hO h_
 replace k_t5 := k_t5.o hO
 replace k_t6 := k_t6.o hO
 replace off0 := off0.o hO
 clear hO h_ V6
 refine Lw ?_ (v := .int .i64 0)
 refine J0 ?_
 go_upto_region 4 with fail
 refine wp_region_lit ?_
 refine L0A ?_ k_t5
 refine Lr ?_ (pc W6 (Q7 hG off0.ext))
 intro W7 hO
 replace k_t6 := k_t6.o hO
 replace off0 := off0.o hO
 clear hO
 refine Lv ?_
 refine Lv ?_
 refine Lv ?_
 refine Lw ?_ (v := .int .i64 17)
 refine Ln ?_ (z := p4 0 0 0 0) (t := 60)
 intro Q05 W8 J18 hO h_
 have nq_t6_t10 := bn k_t6 J18
 have J5k := fbn off0 J18
 replace k_t6 := k_t6.o hO
 replace off0 := off0.o hO
 have k_t10 := h_
 clear hO h_ J18
 refine Ln ?_ (z := c4 0) (t := 42)
 intro Q2k W9 K1 hO h_
 have J16 := bn k_t6 K1
 have nq_t10_t11 := bn k_t10 K1
 have J2g := fbn off0 K1
 replace k_t6 := k_t6.o hO
 replace k_t10 := k_t10.o hO
 replace off0 := off0.o hO
 have k_t11 := h_
 clear hO h_ K1
 refine Lp ?_ k_t10 (cells := p4 0 0 0 0)
 intro W10 hO h_
 clear h_
 replace k_t6 := k_t6.p hO nq_t6_t10
 replace k_t11 := k_t11.p hO nq_t10_t11.symm
 replace off0 := off0.p hO J5k
 clear hO
 refine Lp ?_ k_t11 (cells := c4 0)
 intro W11 hO h_
 clear h_
 replace k_t6 := k_t6.p hO J16
 replace off0 := off0.p hO J2g
 clear hO
 refine Lw ?_ (v := .int .i64 17)
 refine J0 ?_
 go_upto_region 6 with fail
 refine wp_region_lit ?_
 refine Lw ?_ (v := .agg (J1 .u8 64 (Q6 0))) (hv := by kernel_rfl)
 refine Lw ?_ (v := .int .i64 17)
 refine LpA ?_ k_t6 (k := .u8) (n := 64) (f := Q6 0)
 intro W12 hO h_
 replace k_t6 : Blk W12 J8n (J1 .u8 64 (Q6 0)) 30 := h_
 clear h_
 replace off0 := off0.p hO J4w
 clear hO
 refine Lw ?_ (v := .int .i64 17)
 refine J0 ?_
 go_wp2
 exact bodyPost_ret (V8 rfl rfl rfl k_t6 (by kernel_rfl) (by rw [Q1]; kernel_rfl)) rfl ⟨rfl, off0.ext⟩
theorem Y5z (hd : kn.d) (hb : kn.b) (hc : kn.c) {V P : Nat} (hV : V < 2 ^ 256) (hP : B80 P) (v : Value) (L : List UInt8) (hL : L.length ≤ 1099511627776) (hk1 : dOk V = true) (hk2 : ¬ pm (dPt V) 8 = p0) (hok : dOk (pG P) = true) (h1 : pN P < LL) (hv : vpt V L = none) :
  ∀ w, GA kn w → Sl w v L → Calls Tryd.prog 26 #[.agg (J1 .u8 32 (Q6 V)), v, .agg (J1 .u8 80 (Q6 P))] w fun e w' => Ret (.tuple #[.agg (J1 .u8 64 (Q6 0)), .int .i64 15]) w w' e := by
 obtain ⟨kx, ky, kt, kr, kc⟩ := Z0p (kn := kn) hc hV hk1 hk2
 obtain ⟨gx, gy, gt, gr, pc⟩ := Z57 (kn := kn) hc hP hok h1
 intro w hG hsl
 have Q5 := hsl
 have off0 : Off [] w w := Off.refl _ _
 go_enter Tryd.func26, Tryd.ntmps26
 go_upto_region 0 with fail
 refine wp_region_lit ?_
 refine Ln ?_ (z := J1 .u8 32 (Q6 V)) (t := 22)
 intro J2e W1 J13 hO h_
 replace Q5 := Sl.off Q5 hO f0
 replace off0 := off0.o hO
 have k_t3 := h_
 clear hO h_ J13
 refine Ln ?_ (z := J1 .u8 80 (Q6 P)) (t := 45)
 intro Q0u W2 J0p hO h_
 replace k_t3 := k_t3.o hO
 replace Q5 := Sl.off Q5 hO f0
 replace off0 := off0.o hO
 have k_t5 := h_
 clear hO h_ J0p
 refine Ln ?_ (z := J1 .u8 64 (Q6 0)) (t := 30)
 intro J8n W3 J1c hO h_
 have J4w := fbn off0 J1c
 replace k_t3 := k_t3.o hO
 replace k_t5 := k_t5.o hO
 replace Q5 := Sl.off Q5 hO f0
 replace off0 := off0.o hO
 have k_t6 := h_
 clear hO h_ J1c
 refine Lw ?_ (v := .int .i64 0)
 refine J0 ?_
 go_upto_region 1 with fail
 refine wp_region_lit ?_
 refine L0A ?_ k_t3
 refine Lr ?_ (kc W3 (Q7 hG off0.ext))
 intro W4 hO
 replace k_t3 := k_t3.o hO
 replace k_t5 := k_t5.o hO
 replace k_t6 := k_t6.o hO
 replace Q5 := Sl.off Q5 hO f0
 replace off0 := off0.o hO
 clear hO
 refine Lv ?_
 refine Lv ?_
 refine Lw ?_ (v := .int .i64 0)
 refine LnP ?_ (z := p4 0 0 0 0) (t := 60) (cells := p4 kx ky 1 kt)
 intro Q3x W6 V6 hO h_
 replace k_t3 := k_t3.o hO
 replace k_t5 := k_t5.o hO
 replace k_t6 := k_t6.o hO
 replace Q5 := Sl.off Q5 hO f0
 replace off0 := off0.o hO
 clear hO h_ V6
 refine Lw ?_ (v := .int .i64 0)
 refine J0 ?_
 go_upto_region 4 with fail
 refine wp_region_lit ?_
 refine L0A ?_ k_t5
 refine Lr ?_ (pc W6 (Q7 hG off0.ext))
 intro W7 hO
 replace k_t3 := k_t3.o hO
 replace k_t6 := k_t6.o hO
 replace Q5 := Sl.off Q5 hO f0
 replace off0 := off0.o hO
 clear hO
 refine Lv ?_
 refine Lv ?_
 refine Lv ?_
 refine Lw ?_ (v := .int .i64 0)
 refine Ln ?_ (z := p4 0 0 0 0) (t := 60)
 intro Q05 W8 J18 hO h_
 have J87 := bn k_t3 J18
 have nq_t6_t10 := bn k_t6 J18
 have Q6f := J0m (Sl.lt Q5) J18
 have J5k := fbn off0 J18
 replace k_t3 := k_t3.o hO
 replace k_t6 := k_t6.o hO
 replace Q5 := Sl.off Q5 hO f0
 replace off0 := off0.o hO
 have k_t10 := h_
 clear hO h_ J18
 refine Ln ?_ (z := c4 0) (t := 42)
 intro Q2k W9 K1 hO h_
 have J88 := bn k_t3 K1
 have J16 := bn k_t6 K1
 have nq_t10_t11 := bn k_t10 K1
 have J38 := J0m (Sl.lt Q5) K1
 have J2g := fbn off0 K1
 replace k_t3 := k_t3.o hO
 replace k_t6 := k_t6.o hO
 replace k_t10 := k_t10.o hO
 replace Q5 := Sl.off Q5 hO f0
 replace off0 := off0.o hO
 have k_t11 := h_
 clear hO h_ K1
 refine Lp ?_ k_t10 (cells := p4 gx gy 1 gt)
 intro W10 hO h_
 clear h_
 replace k_t3 := k_t3.p hO J87
 replace k_t6 := k_t6.p hO nq_t6_t10
 replace k_t11 := k_t11.p hO nq_t10_t11.symm
 replace Q5 := Sl.off Q5 hO (f1 Q6f)
 replace off0 := off0.p hO J5k
 clear hO
 refine Lp ?_ k_t11 (cells := c4 (pN P))
 intro W11 hO h_
 clear h_
 replace k_t3 := k_t3.p hO J88
 replace k_t6 := k_t6.p hO J16
 replace Q5 := Sl.off Q5 hO (f1 J38)
 replace off0 := off0.p hO J2g
 clear hO
 refine Lw ?_ (v := .int .i64 0)
 refine J0 ?_
 go_upto_region 7 with fail
 refine wp_region_lit ?_
 refine L0A ?_ k_t3
 refine Lv ?_
 refine Lr ?_ (Z59 (kn := kn) hc hL hv v W11 (Q7 hG off0.ext) Q5)
 intro W12 hO
 replace k_t6 := k_t6.o hO
 replace off0 := off0.o hO
 clear hO
 refine Lv ?_
 refine Lv ?_
 refine Lw ?_ (v := .int .i64 15)
 refine LnP ?_ (z := p4 0 0 0 0) (t := 60) (cells := p4 0 0 0 0)
 intro Q1f W14 J24 hO h_
 replace k_t6 := k_t6.o hO
 replace off0 := off0.o hO
 clear hO h_ J24
 refine Lw ?_ (v := .int .i64 15)
 refine J0 ?_
 go_upto_region 9 with fail
 refine wp_region_lit ?_
 refine Lw ?_ (v := .agg (J1 .u8 64 (Q6 0))) (hv := by kernel_rfl)
 refine Lw ?_ (v := .int .i64 15)
 refine LpA ?_ k_t6 (k := .u8) (n := 64) (f := Q6 0)
 intro W15 hO h_
 replace k_t6 : Blk W15 J8n (J1 .u8 64 (Q6 0)) 30 := h_
 clear h_
 replace off0 := off0.p hO J4w
 clear hO
 refine Lw ?_ (v := .int .i64 15)
 refine J0 ?_
 go_wp2
 exact bodyPost_ret (V8 rfl rfl rfl k_t6 (by kernel_rfl) (by rw [Q1]; kernel_rfl)) rfl ⟨rfl, off0.ext⟩
theorem Z5b (hd : kn.d) (hb : kn.b) (hc : kn.c) {V P : Nat} (hV : V < 2 ^ 256) (hP : B80 P) (v : Value) (L : List UInt8) (hL : L.length ≤ 1099511627776) (hk1 : dOk V = true) (hk2 : ¬ pm (dPt V) 8 = p0) (hok : dOk (pG P) = true) (h1 : pN P < LL) {c0 : Nat} (hv : vpt V L = some c0) {h : Pr} (hh : h = J22 V L c0) {r k : Nat} (hqq : ((chk V P h = pC P → r = Q6a P ∧ k = 0) ∧ (¬ chk V P h = pC P → r = 0 ∧ k = 17))) :
  ∀ w, GA kn w → Sl w v L → Calls Tryd.prog 26 #[.agg (J1 .u8 32 (Q6 V)), v, .agg (J1 .u8 80 (Q6 P))] w fun e w' => Ret (.tuple #[.agg (J1 .u8 64 (Q6 r)), .int .i64 (k : Int)]) w w' e := by
 obtain ⟨kx, ky, kt, kr, kc⟩ := Z0p (kn := kn) hc hV hk1 hk2
 obtain ⟨gx, gy, gt, gr, pc⟩ := Z57 (kn := kn) hc hP hok h1
 obtain ⟨hx, hy, hz, ht, hr, hcl⟩ := Z58 (kn := kn) hc hL hv hh
 obtain ⟨x1, y2, z3, t4, r5, c6⟩ := Q8a hb
 obtain ⟨x7, y8, z9, t10, r11, c12⟩ := J63 hd r5.rw (N := (pN P)) (Nat.lt_trans h1 J2w)
 obtain ⟨x13, y14, z15, t16, r17, c18⟩ := Z8d (kn := kn) kr.rw
 obtain ⟨x19, y20, z21, t22, r23, c24⟩ := J63 hd r17.rw (N := (pC P)) (Nat.lt_trans (Q69 P) Z0s)
 obtain ⟨x25, y26, z27, t28, r29, c30⟩ := Z1c hd r11.rw r23.rw
 obtain ⟨x31, y32, z33, t34, r35, c36⟩ := J63 hd hr.rw (N := (pN P)) (Nat.lt_trans h1 J2w)
 obtain ⟨x37, y38, z39, t40, r41, c42⟩ := Z8d (kn := kn) gr.rw
 obtain ⟨x43, y44, z45, t46, r47, c48⟩ := J63 hd r41.rw (N := (pC P)) (Nat.lt_trans (Q69 P) Z0s)
 obtain ⟨x49, y50, z51, t52, r53, c54⟩ := Z1c hd r35.rw r47.rw
 obtain ⟨U1, hU1⟩ := V2 (chH V h (dPt (pG P)) (J14 (pm BP (pN P)) (pm (J4c (dPt V)) (pC P))) (J14 (pm h (pN P)) (pm (J4c (dPt (pG P))) (pC P))))
 have HU1 := Lib.hid hU1
 clear hU1
 obtain ⟨U2, hU2⟩ := V2 (U1 % J28)
 have qU2 : U2 < J28 := by rw [hU2]; exact Nat.mod_lt _ (by decide)
 have HU2 := Lib.hid hU2
 clear hU2
 obtain ⟨U3, hU3⟩ := V2 (Q6a P)
 have HU3 := Lib.hid hU3
 clear hU3
 have HQ := Lib.hid hqq
 clear hqq
 intro w hG hsl
 have Q5 := hsl
 have off0 : Off [] w w := Off.refl _ _
 go_enter Tryd.func26, Tryd.ntmps26
 go_upto_region 0 with fail
 refine wp_region_lit ?_
 refine Ln ?_ (z := J1 .u8 32 (Q6 V)) (t := 22)
 intro J2e W1 J13 hO h_
 replace Q5 := Sl.off Q5 hO f0
 replace off0 := off0.o hO
 have k_t3 := h_
 clear hO h_ J13
 refine Ln ?_ (z := J1 .u8 80 (Q6 P)) (t := 45)
 intro Q0u W2 J0p hO h_
 replace k_t3 := k_t3.o hO
 replace Q5 := Sl.off Q5 hO f0
 replace off0 := off0.o hO
 have k_t5 := h_
 clear hO h_ J0p
 refine Ln ?_ (z := J1 .u8 64 (Q6 0)) (t := 30)
 intro J8n W3 J1c hO h_
 have Q55 := bn k_t3 J1c
 have J9o := bn k_t5 J1c
 have J4w := fbn off0 J1c
 replace k_t3 := k_t3.o hO
 replace k_t5 := k_t5.o hO
 replace Q5 := Sl.off Q5 hO f0
 replace off0 := off0.o hO
 have k_t6 := h_
 clear hO h_ J1c
 refine Lw ?_ (v := .int .i64 0)
 refine J0 ?_
 go_upto_region 1 with fail
 refine wp_region_lit ?_
 refine L0A ?_ k_t3
 refine Lr ?_ (kc W3 (Q7 hG off0.ext))
 intro W4 hO
 replace k_t3 := k_t3.o hO
 replace k_t5 := k_t5.o hO
 replace k_t6 := k_t6.o hO
 replace Q5 := Sl.off Q5 hO f0
 replace off0 := off0.o hO
 clear hO
 refine Lv ?_
 refine Lv ?_
 refine Lw ?_ (v := .int .i64 0)
 refine LnP ?_ (z := p4 0 0 0 0) (t := 60) (cells := p4 kx ky 1 kt)
 intro Q3x W6 V6 hO h_
 replace k_t3 := k_t3.o hO
 replace k_t5 := k_t5.o hO
 replace k_t6 := k_t6.o hO
 replace Q5 := Sl.off Q5 hO f0
 replace off0 := off0.o hO
 have k_t8 := h_
 clear hO h_ V6
 refine Lw ?_ (v := .int .i64 0)
 refine J0 ?_
 go_upto_region 4 with fail
 refine wp_region_lit ?_
 refine L0A ?_ k_t5
 refine Lr ?_ (pc W6 (Q7 hG off0.ext))
 intro W7 hO
 replace k_t3 := k_t3.o hO
 replace k_t5 := k_t5.o hO
 replace k_t6 := k_t6.o hO
 replace k_t8 := k_t8.o hO
 replace Q5 := Sl.off Q5 hO f0
 replace off0 := off0.o hO
 clear hO
 refine Lv ?_
 refine Lv ?_
 refine Lv ?_
 refine Lw ?_ (v := .int .i64 0)
 refine Ln ?_ (z := p4 0 0 0 0) (t := 60)
 intro Q05 W8 J18 hO h_
 have J87 := bn k_t3 J18
 have Q2u := bn k_t5 J18
 have nq_t6_t10 := bn k_t6 J18
 have Q2v := bn k_t8 J18
 have Q6f := J0m (Sl.lt Q5) J18
 have J5k := fbn off0 J18
 replace k_t3 := k_t3.o hO
 replace k_t5 := k_t5.o hO
 replace k_t6 := k_t6.o hO
 replace k_t8 := k_t8.o hO
 replace Q5 := Sl.off Q5 hO f0
 replace off0 := off0.o hO
 have k_t10 := h_
 clear hO h_ J18
 refine Ln ?_ (z := c4 0) (t := 42)
 intro Q2k W9 K1 hO h_
 have J88 := bn k_t3 K1
 have Q2w := bn k_t5 K1
 have J16 := bn k_t6 K1
 have Q2x := bn k_t8 K1
 have nq_t10_t11 := bn k_t10 K1
 have J38 := J0m (Sl.lt Q5) K1
 have J2g := fbn off0 K1
 replace k_t3 := k_t3.o hO
 replace k_t5 := k_t5.o hO
 replace k_t6 := k_t6.o hO
 replace k_t8 := k_t8.o hO
 replace k_t10 := k_t10.o hO
 replace Q5 := Sl.off Q5 hO f0
 replace off0 := off0.o hO
 have k_t11 := h_
 clear hO h_ K1
 refine Lp ?_ k_t10 (cells := p4 gx gy 1 gt)
 intro W10 hO h_
 replace k_t10 : Blk W10 Q05 (p4 gx gy 1 gt) 60 := h_
 clear h_
 replace k_t3 := k_t3.p hO J87
 replace k_t5 := k_t5.p hO Q2u
 replace k_t6 := k_t6.p hO nq_t6_t10
 replace k_t8 := k_t8.p hO Q2v
 replace k_t11 := k_t11.p hO nq_t10_t11.symm
 replace Q5 := Sl.off Q5 hO (f1 Q6f)
 replace off0 := off0.p hO J5k
 clear hO
 refine Lp ?_ k_t11 (cells := c4 (pN P))
 intro W11 hO h_
 replace k_t11 : Blk W11 Q2k (c4 (pN P)) 42 := h_
 clear h_
 replace k_t3 := k_t3.p hO J88
 replace k_t5 := k_t5.p hO Q2w
 replace k_t6 := k_t6.p hO J16
 replace k_t8 := k_t8.p hO Q2x
 replace k_t10 := k_t10.p hO nq_t10_t11
 replace Q5 := Sl.off Q5 hO (f1 J38)
 replace off0 := off0.p hO J2g
 clear hO
 refine Lw ?_ (v := .int .i64 0)
 refine J0 ?_
 go_upto_region 7 with fail
 refine wp_region_lit ?_
 refine L0A ?_ k_t3
 refine Lv ?_
 refine Lr ?_ (hcl v W11 (Q7 hG off0.ext) Q5)
 intro W12 hO
 replace k_t3 := k_t3.o hO
 replace k_t5 := k_t5.o hO
 replace k_t6 := k_t6.o hO
 replace k_t8 := k_t8.o hO
 replace k_t10 := k_t10.o hO
 replace k_t11 := k_t11.o hO
 replace off0 := off0.o hO
 clear hO
 refine Lv ?_
 refine Lv ?_
 refine Lw ?_ (v := .int .i64 0)
 refine LnP ?_ (z := p4 0 0 0 0) (t := 60) (cells := p4 hx hy hz ht)
 intro Q1f W14 J24 hO h_
 have nq_t6_t12 := bn k_t6 J24
 replace k_t3 := k_t3.o hO
 replace k_t5 := k_t5.o hO
 replace k_t6 := k_t6.o hO
 replace k_t8 := k_t8.o hO
 replace k_t10 := k_t10.o hO
 replace k_t11 := k_t11.o hO
 replace off0 := off0.o hO
 have k_t12 := h_
 clear hO h_ J24
 refine Lw ?_ (v := .int .i64 0)
 refine J0 ?_
 go_upto_region 10 with fail
 refine J06 4 [⟨4, 13, J1 .u8 32 (Q6 0), 22⟩, ⟨5, 14, J1 .u8 32 (Q6 0), 22⟩] (by kernel_rfl) ?_ (by kernel_rfl) ?_
 ·
  intro x hx
  simp only [List.mem_cons, List.not_mem_nil, or_false] at hx
  rcases hx with rfl | rfl <;> exact ⟨_, rfl, rfl, rfl, fun _ _ => by kernel_rfl⟩
 simp only [List.take_succ_cons, List.take_zero, List.take_nil]
 (try simp only [Act.put, mA, mB, mC])
 refine Xw ?_ (v := .slice (some ⟨Q0u, 32, none⟩) 16 48)
 refine Xf ?_ (fun W hW => Y5w (Q69 P) (.slice (some ⟨Q0u, 32, none⟩) 16 48) W (J0j (V := (pC P)) (n := 16) (off := 32) (J2 k_t5 hW) V0u (by decide) (by decide)))
 refine Xl ?_ k_t11
 refine Xf ?_ (fun W hW => Q29 h1 W (Q7 (Q7 hG off0.ext) hW).2.2.1)
 refine Q3 ?_
 intro β W15 hE hN hD
 obtain ⟨J2x, h_t13⟩ := hN _ (List.mem_cons_self ..)
 obtain ⟨J47, h_t14⟩ := hN _ (List.mem_cons_of_mem _ (List.mem_cons_self ..))
 have nq_t13_t14 := (hD _ (List.mem_cons_of_mem _ (List.mem_cons_self ..)) _ (List.mem_cons_self ..) (by decide)).symm
 clear hN hD
 simp only [J0l, Act.put, mA, mB, mC, List.drop_succ_cons, List.drop_zero, List.drop_nil, List.length_cons, List.length_nil, Nat.add_zero] at J2x h_t13 J47 h_t14 nq_t13_t14 ⊢
 have hO := Z6 hE
 generalize β 4 = Y2d at *
 have Z79 := bn k_t3 J2x
 have Q2y := bn k_t5 J2x
 have nq_t6_t13 := bn k_t6 J2x
 have J89 := bn k_t8 J2x
 have Q16 := bn k_t10 J2x
 have Z2j := bn k_t12 J2x
 have Q5h := fbn off0 J2x
 generalize β 5 = Y2e at *
 have Z7a := bn k_t3 J47
 have Z7b := bn k_t5 J47
 have Z7c := bn k_t6 J47
 have Z7d := bn k_t8 J47
 have Q17 := bn k_t10 J47
 have Z2k := bn k_t12 J47
 have Q5i := fbn off0 J47
 replace k_t3 := k_t3.o hO
 replace k_t5 := k_t5.o hO
 replace k_t6 := k_t6.o hO
 replace k_t8 := k_t8.o hO
 replace k_t10 := k_t10.o hO
 replace k_t12 := k_t12.o hO
 replace off0 := off0.o hO
 clear hO hE β J2x J47
 have k_t13 : Blk W15 Y2d (J1 .u8 32 (Q6 0)) 22 := h_t13
 clear h_t13
 have k_t14 : Blk W15 Y2e (J1 .u8 32 (Q6 0)) 22 := h_t14
 clear h_t14
 refine LpA ?_ k_t13 (k := .u8) (n := 32) (f := Q6 (pC P))
 intro W16 hO h_
 replace k_t13 : Blk W16 Y2d (J1 .u8 32 (Q6 (pC P))) 22 := h_
 clear h_
 replace k_t3 := k_t3.p hO Z79
 replace k_t5 := k_t5.p hO Q2y
 replace k_t6 := k_t6.p hO nq_t6_t13
 replace k_t8 := k_t8.p hO J89
 replace k_t10 := k_t10.p hO Q16
 replace k_t12 := k_t12.p hO Z2j
 replace k_t14 := k_t14.p hO nq_t13_t14.symm
 replace off0 := off0.p hO Q5h
 clear hO
 refine LpA ?_ k_t14 (k := .u8) (n := 32) (f := Q6 (pN P))
 intro W17 hO h_
 replace k_t14 : Blk W17 Y2e (J1 .u8 32 (Q6 (pN P))) 22 := h_
 clear h_
 replace k_t3 := k_t3.p hO Z7a
 replace k_t5 := k_t5.p hO Z7b
 replace k_t6 := k_t6.p hO Z7c
 replace k_t8 := k_t8.p hO Z7d
 replace k_t10 := k_t10.p hO Q17
 replace k_t12 := k_t12.p hO Z2k
 replace k_t13 := k_t13.p hO nq_t13_t14
 replace off0 := off0.p hO Q5i
 clear hO
 refine LN ?_
 go_upto_region 11 with fail
 refine Rx1 8 15 (z := p4 0 0 0 0) (t := 60) ?_
 refine Xf ?_ (fun W hW => c6 W (Q7 (Q7 hG off0.ext) hW).1)
 refine XlA ?_ k_t14
 refine Xf ?_ (fun W hW => c12 W (Q7 (Q7 hG off0.ext) hW).1)
 refine Xl ?_ k_t8
 refine Xf ?_ (fun W hW => c18 W (Q7 (Q7 hG off0.ext) hW).1)
 refine XlA ?_ k_t13
 refine Xf ?_ (fun W hW => c24 W (Q7 (Q7 hG off0.ext) hW).1)
 refine Xf ?_ (fun W hW => c30 W (Q7 (Q7 hG off0.ext) hW).1)
 refine XN ?_
 intro Q06 W18 Q04 hE h_t15
 have hO := Z6 hE
 have Z7e := bn k_t3 Q04
 have Z7f := bn k_t5 Q04
 have nq_t6_t15 := bn k_t6 Q04
 have Z2l := bn k_t10 Q04
 have Z2m := bn k_t12 Q04
 have Z2n := bn k_t13 Q04
 have Z2o := bn k_t14 Q04
 have V13 := fbn off0 Q04
 replace k_t3 := k_t3.o hO
 replace k_t5 := k_t5.o hO
 replace k_t6 := k_t6.o hO
 replace k_t10 := k_t10.o hO
 replace k_t12 := k_t12.o hO
 replace k_t13 := k_t13.o hO
 replace k_t14 := k_t14.o hO
 replace off0 := off0.o hO
 clear hO hE Q04
 have k_t15 : Blk W18 Q06 (p4 0 0 0 0) 60 := h_t15
 clear h_t15
 refine Lp ?_ k_t15 (cells := p4 x25 y26 z27 t28)
 intro W19 hO h_
 replace k_t15 : Blk W19 Q06 (p4 x25 y26 z27 t28) 60 := h_
 clear h_
 replace k_t3 := k_t3.p hO Z7e
 replace k_t5 := k_t5.p hO Z7f
 replace k_t6 := k_t6.p hO nq_t6_t15
 replace k_t10 := k_t10.p hO Z2l
 replace k_t12 := k_t12.p hO Z2m
 replace k_t13 := k_t13.p hO Z2n
 replace k_t14 := k_t14.p hO Z2o
 replace off0 := off0.p hO V13
 clear hO
 refine LN ?_
 go_upto_region 12 with fail
 refine Rx1 8 16 (z := p4 0 0 0 0) (t := 60) ?_
 refine Xl ?_ k_t12
 refine XlA ?_ k_t14
 refine Xf ?_ (fun W hW => c36 W (Q7 (Q7 hG off0.ext) hW).1)
 refine Xl ?_ k_t10
 refine Xf ?_ (fun W hW => c42 W (Q7 (Q7 hG off0.ext) hW).1)
 refine XlA ?_ k_t13
 refine Xf ?_ (fun W hW => c48 W (Q7 (Q7 hG off0.ext) hW).1)
 refine Xf ?_ (fun W hW => c54 W (Q7 (Q7 hG off0.ext) hW).1)
 refine XN ?_
 intro Q07 W20 J8j hE h_t16
 have hO := Z6 hE
 have Z7g := bn k_t3 J8j
 have Z7h := bn k_t5 J8j
 have nq_t6_t16 := bn k_t6 J8j
 have Z2p := bn k_t10 J8j
 have Z2q := bn k_t12 J8j
 have Z2r := bn k_t15 J8j
 have Z2s := fbn off0 J8j
 replace k_t3 := k_t3.o hO
 replace k_t5 := k_t5.o hO
 replace k_t6 := k_t6.o hO
 replace k_t10 := k_t10.o hO
 replace k_t12 := k_t12.o hO
 replace k_t15 := k_t15.o hO
 replace off0 := off0.o hO
 clear hO hE J8j
 have k_t16 : Blk W20 Q07 (p4 0 0 0 0) 60 := h_t16
 clear h_t16
 refine Lp ?_ k_t16 (cells := p4 x49 y50 z51 t52)
 intro W21 hO h_
 replace k_t16 : Blk W21 Q07 (p4 x49 y50 z51 t52) 60 := h_
 clear h_
 replace k_t3 := k_t3.p hO Z7g
 replace k_t5 := k_t5.p hO Z7h
 replace k_t6 := k_t6.p hO nq_t6_t16
 replace k_t10 := k_t10.p hO Z2p
 replace k_t12 := k_t12.p hO Z2q
 replace k_t15 := k_t15.p hO Z2r
 replace off0 := off0.p hO Z2s
 clear hO
 refine LN ?_
 by_cases htk : chk V P h = pC P
 ·
  have _f := htk
  go_upto_region 13 with fail
  refine J42 (.q 0 (.q 1 (.q 2 (.q 3 (.q 4 (.q 8 (.q 9 (.e 5 (.e 6 (.q 7 (.q 10 .z))))))))))) (fun W => (Blk W J2e (J1 .u8 32 (Q6 V)) 22) ∧ (Blk W Q1f (p4 hx hy hz ht) 60) ∧ (Blk W Q05 (p4 gx gy 1 gt) 60) ∧ (Blk W Q06 (p4 x25 y26 z27 t28) 60) ∧ (Blk W Q07 (p4 x49 y50 z51 t52) 60) ∧ (Blk W Q0u (J1 .u8 80 (Q6 P)) 45)) (by kernel_rfl) (by kernel_rfl) ?_
  intro W22 hO
  replace k_t3 := k_t3.o hO
  replace k_t5 := k_t5.o hO
  replace k_t6 := k_t6.o hO
  replace k_t10 := k_t10.o hO
  replace k_t12 := k_t12.o hO
  replace k_t15 := k_t15.o hO
  replace k_t16 := k_t16.o hO
  replace off0 := off0.o hO
  clear hO
  refine ⟨⟨k_t3, k_t12, k_t10, k_t15, k_t16, k_t5⟩, ?_⟩
  refine J1r (v := .agg (J1 .u8 32 (Q6 V))) rfl (by rfl) (fun W hS => by exact (J20 rfl rfl (hS.1) (by kernel_rfl) (by rw [Q1]; kernel_rfl))) ?_
  (try simp only [Act.put, mA, mB, mC])
  refine J1r (v := .agg (p4 hx hy hz ht)) rfl (by rfl) (fun W hS => by exact (J20 rfl rfl (hS.2.1) (by kernel_rfl) (by kernel_rfl))) ?_
  (try simp only [Act.put, mA, mB, mC])
  refine J1r (v := .agg (p4 gx gy 1 gt)) rfl (by rfl) (fun W hS => by exact (J20 rfl rfl (hS.2.2.1) (by kernel_rfl) (by kernel_rfl))) ?_
  (try simp only [Act.put, mA, mB, mC])
  refine J1r (v := .agg (p4 x25 y26 z27 t28)) rfl (by rfl) (fun W hS => by exact (J20 rfl rfl (hS.2.2.2.1) (by kernel_rfl) (by kernel_rfl))) ?_
  (try simp only [Act.put, mA, mB, mC])
  refine J1r (v := .agg (p4 x49 y50 z51 t52)) rfl (by rfl) (fun W hS => by exact (J20 rfl rfl (hS.2.2.2.2.1) (by kernel_rfl) (by kernel_rfl))) ?_
  (try simp only [Act.put, mA, mB, mC])
  refine J1r (v := .slice (some ⟨Q0u, 32, none⟩) 16 48) rfl (by rfl) (fun W hS => by first | rfl | (go_simp; done) | (go_simp; with_reducible rfl)) ?_
  (try simp only [Act.put, mA, mB, mC])
  refine J1r (v := str (lb 16 (pC P))) rfl (by rfl) (fun W hS => by exact (Q4i (J0j (V := (pC P)) (n := 16) (off := 32) (hS.2.2.2.2.2) V0u (by decide) (by decide)) rfl rfl)) ?_
  (try simp only [Act.put, mA, mB, mC])
  refine J3g rfl ?_
  refine LnS ?_ (z := (p4 hx hy hz ht) ++ (p4 gx gy 1 gt) ++ (p4 x25 y26 z27 t28) ++ (p4 x49 y50 z51 t52)) (t := 60) (n := 4) (c := 4)
  intro Z2t W23 Z5c hO h_
  have nq_t6_s71 := bn k_t6 Z5c
  replace k_t3 := k_t3.o hO
  replace k_t5 := k_t5.o hO
  replace k_t6 := k_t6.o hO
  replace k_t10 := k_t10.o hO
  replace k_t12 := k_t12.o hO
  replace k_t15 := k_t15.o hO
  replace k_t16 := k_t16.o hO
  replace off0 := off0.o hO
  have k_s71 := h_
  clear hO h_ Z5c
  refine J2t (fun W => (Blk W J2e (J1 .u8 32 (Q6 V)) 22) ∧ (Blk W Q1f (p4 hx hy hz ht) 60) ∧ (Blk W Q05 (p4 gx gy 1 gt) 60) ∧ (Blk W Q06 (p4 x25 y26 z27 t28) 60) ∧ (Blk W Q07 (p4 x49 y50 z51 t52) 60) ∧ (Blk W Q0u (J1 .u8 80 (Q6 P)) 45)) (fun W hS => ⟨hS.1, hS.2.1, hS.2.2.1, hS.2.2.2.1, hS.2.2.2.2.1, hS.2.2.2.2.2⟩) ⟨k_t3, k_t12, k_t10, k_t15, k_t16, k_t5⟩ ?_
  refine J3g rfl ?_
  refine Q5y (R := fun v W => ∃ p, v = .slice (some ⟨p, 0, none⟩) 16 64 ∧ W23.heap.size ≤ p ∧ Off [] W23 W ∧ Blk W p (J1 .u8 64 (Q6 U1)) 30) ((Z2a (kn := kn) hr gr r29 r53 HU1.out Z2t W23 (Q7 hG off0.ext) k_s71).mono fun e W h => by obtain ⟨p, h1, h2⟩ := h; exact ⟨_, h1, p, rfl, h2⟩) (by rfl) rfl (by kernel_rfl) rfl ?_
  (try simp only [Act.put, mA, mB, mC])
  rintro _ W24 ⟨pm24, rfl, n_mk, hO, h_⟩
  (try simp only [Act.put, mA, mB, mC])
  have nq_t6_mk := bn k_t6 n_mk
  replace k_t3 := k_t3.o hO
  replace k_t5 := k_t5.o hO
  replace k_t6 := k_t6.o hO
  replace k_t10 := k_t10.o hO
  replace k_t12 := k_t12.o hO
  replace k_t15 := k_t15.o hO
  replace k_t16 := k_t16.o hO
  replace k_s71 := k_s71.o hO
  replace off0 := off0.o hO
  have k_mk := h_
  clear hO h_ n_mk
  refine J2t (fun W => (Blk W J2e (J1 .u8 32 (Q6 V)) 22) ∧ (Blk W Q1f (p4 hx hy hz ht) 60) ∧ (Blk W Q05 (p4 gx gy 1 gt) 60) ∧ (Blk W Q06 (p4 x25 y26 z27 t28) 60) ∧ (Blk W Q07 (p4 x49 y50 z51 t52) 60) ∧ (Blk W Q0u (J1 .u8 80 (Q6 P)) 45) ∧ (Blk W pm24 (J1 .u8 64 (Q6 U1)) 30)) (fun W hS => ⟨hS.1, hS.2.1, hS.2.2.1, hS.2.2.2.1, hS.2.2.2.2.1, hS.2.2.2.2.2.1⟩) ⟨k_t3, k_t12, k_t10, k_t15, k_t16, k_t5, k_mk⟩ ?_
  refine J1r (v := str (lb 16 U2)) rfl (by rfl) (fun W hS => by exact (Q4i (J0j (V := U2) (n := 16) (off := 0) (hS.2.2.2.2.2.2) (h16 HU2.out) (by decide) (by decide)) rfl rfl)) ?_
  (try simp only [Act.put, mA, mB, mC])
  have hc_ : U2 = chk V P h := by rw [HU2.out, HU1.out]; rfl
  refine J1r (v := .bool false) rfl (by rfl) (fun W hS => by exact (J98 (l := (lb 16 U2)) (m := (lb 16 (pC P))) ((by rw [decide_eq_true (by rw [hc_, htk])]; rfl)) rfl rfl rfl)) ?_
  (try simp only [Act.put, mA, mB, mC])
  refine Q3s ?_
  go_upto_region 15 with fail
  refine wp_region_lit ?_
  refine L0A ?_ k_t5
  refine Lr ?_ (V0v (kn := kn) hc hok HU3.out W24 (Q7 hG off0.ext))
  intro W25 hO
  replace k_t3 := k_t3.o hO
  replace k_t5 := k_t5.o hO
  replace k_t6 := k_t6.o hO
  replace k_t10 := k_t10.o hO
  replace k_t12 := k_t12.o hO
  replace k_t15 := k_t15.o hO
  replace k_t16 := k_t16.o hO
  replace k_s71 := k_s71.o hO
  replace k_mk := k_mk.o hO
  replace off0 := off0.o hO
  clear hO
  refine Lv ?_
  refine Lw ?_ (v := .int .i64 0)
  refine LpA ?_ k_t6 (k := .u8) (n := 64) (f := Q6 U3)
  intro W26 hO h_
  replace k_t6 : Blk W26 J8n (J1 .u8 64 (Q6 U3)) 30 := h_
  clear h_
  replace k_t3 := k_t3.p hO Q55
  replace k_t5 := k_t5.p hO J9o
  replace k_t10 := k_t10.p hO nq_t6_t10.symm
  replace k_t12 := k_t12.p hO nq_t6_t12.symm
  replace k_t15 := k_t15.p hO nq_t6_t15.symm
  replace k_t16 := k_t16.p hO nq_t6_t16.symm
  replace k_s71 := k_s71.p hO nq_t6_s71.symm
  replace k_mk := k_mk.p hO nq_t6_mk.symm
  replace off0 := off0.p hO J4w
  clear hO
  refine Lw ?_ (v := .int .i64 0)
  refine J0 ?_
  go_wp2
  rw [HU3.out] at k_t6
  obtain ⟨er_, ek_⟩ := HQ.out.1 htk
  rw [er_, ek_]
  exact bodyPost_ret (V8 rfl rfl rfl k_t6 (by kernel_rfl) (by rw [Q1]; kernel_rfl)) rfl ⟨rfl, off0.ext⟩
 ·
  have _f := htk
  go_upto_region 13 with fail
  refine J42 (.q 0 (.q 1 (.q 2 (.q 3 (.q 4 (.q 8 (.q 9 (.e 5 (.e 6 (.q 7 (.q 10 .z))))))))))) (fun W => (Blk W J2e (J1 .u8 32 (Q6 V)) 22) ∧ (Blk W Q1f (p4 hx hy hz ht) 60) ∧ (Blk W Q05 (p4 gx gy 1 gt) 60) ∧ (Blk W Q06 (p4 x25 y26 z27 t28) 60) ∧ (Blk W Q07 (p4 x49 y50 z51 t52) 60) ∧ (Blk W Q0u (J1 .u8 80 (Q6 P)) 45)) (by kernel_rfl) (by kernel_rfl) ?_
  intro W22 hO
  replace k_t3 := k_t3.o hO
  replace k_t5 := k_t5.o hO
  replace k_t6 := k_t6.o hO
  replace k_t10 := k_t10.o hO
  replace k_t12 := k_t12.o hO
  replace k_t15 := k_t15.o hO
  replace k_t16 := k_t16.o hO
  replace off0 := off0.o hO
  clear hO
  refine ⟨⟨k_t3, k_t12, k_t10, k_t15, k_t16, k_t5⟩, ?_⟩
  refine J1r (v := .agg (J1 .u8 32 (Q6 V))) rfl (by rfl) (fun W hS => by exact (J20 rfl rfl (hS.1) (by kernel_rfl) (by rw [Q1]; kernel_rfl))) ?_
  (try simp only [Act.put, mA, mB, mC])
  refine J1r (v := .agg (p4 hx hy hz ht)) rfl (by rfl) (fun W hS => by exact (J20 rfl rfl (hS.2.1) (by kernel_rfl) (by kernel_rfl))) ?_
  (try simp only [Act.put, mA, mB, mC])
  refine J1r (v := .agg (p4 gx gy 1 gt)) rfl (by rfl) (fun W hS => by exact (J20 rfl rfl (hS.2.2.1) (by kernel_rfl) (by kernel_rfl))) ?_
  (try simp only [Act.put, mA, mB, mC])
  refine J1r (v := .agg (p4 x25 y26 z27 t28)) rfl (by rfl) (fun W hS => by exact (J20 rfl rfl (hS.2.2.2.1) (by kernel_rfl) (by kernel_rfl))) ?_
  (try simp only [Act.put, mA, mB, mC])
  refine J1r (v := .agg (p4 x49 y50 z51 t52)) rfl (by rfl) (fun W hS => by exact (J20 rfl rfl (hS.2.2.2.2.1) (by kernel_rfl) (by kernel_rfl))) ?_
  (try simp only [Act.put, mA, mB, mC])
  refine J1r (v := .slice (some ⟨Q0u, 32, none⟩) 16 48) rfl (by rfl) (fun W hS => by first | rfl | (go_simp; done) | (go_simp; with_reducible rfl)) ?_
  (try simp only [Act.put, mA, mB, mC])
  refine J1r (v := str (lb 16 (pC P))) rfl (by rfl) (fun W hS => by exact (Q4i (J0j (V := (pC P)) (n := 16) (off := 32) (hS.2.2.2.2.2) V0u (by decide) (by decide)) rfl rfl)) ?_
  (try simp only [Act.put, mA, mB, mC])
  refine J3g rfl ?_
  refine LnS ?_ (z := (p4 hx hy hz ht) ++ (p4 gx gy 1 gt) ++ (p4 x25 y26 z27 t28) ++ (p4 x49 y50 z51 t52)) (t := 60) (n := 4) (c := 4)
  intro Z2t W23 Z5c hO h_
  replace k_t3 := k_t3.o hO
  replace k_t5 := k_t5.o hO
  replace k_t6 := k_t6.o hO
  replace k_t10 := k_t10.o hO
  replace k_t12 := k_t12.o hO
  replace k_t15 := k_t15.o hO
  replace k_t16 := k_t16.o hO
  replace off0 := off0.o hO
  have k_s71 := h_
  clear hO h_ Z5c
  refine J2t (fun W => (Blk W J2e (J1 .u8 32 (Q6 V)) 22) ∧ (Blk W Q1f (p4 hx hy hz ht) 60) ∧ (Blk W Q05 (p4 gx gy 1 gt) 60) ∧ (Blk W Q06 (p4 x25 y26 z27 t28) 60) ∧ (Blk W Q07 (p4 x49 y50 z51 t52) 60) ∧ (Blk W Q0u (J1 .u8 80 (Q6 P)) 45)) (fun W hS => ⟨hS.1, hS.2.1, hS.2.2.1, hS.2.2.2.1, hS.2.2.2.2.1, hS.2.2.2.2.2⟩) ⟨k_t3, k_t12, k_t10, k_t15, k_t16, k_t5⟩ ?_
  refine J3g rfl ?_
  refine Q5y (R := fun v W => ∃ p, v = .slice (some ⟨p, 0, none⟩) 16 64 ∧ W23.heap.size ≤ p ∧ Off [] W23 W ∧ Blk W p (J1 .u8 64 (Q6 U1)) 30) ((Z2a (kn := kn) hr gr r29 r53 HU1.out Z2t W23 (Q7 hG off0.ext) k_s71).mono fun e W h => by obtain ⟨p, h1, h2⟩ := h; exact ⟨_, h1, p, rfl, h2⟩) (by rfl) rfl (by kernel_rfl) rfl ?_
  (try simp only [Act.put, mA, mB, mC])
  rintro _ W24 ⟨pm24, rfl, n_mk, hO, h_⟩
  (try simp only [Act.put, mA, mB, mC])
  replace k_t3 := k_t3.o hO
  replace k_t5 := k_t5.o hO
  replace k_t6 := k_t6.o hO
  replace k_t10 := k_t10.o hO
  replace k_t12 := k_t12.o hO
  replace k_t15 := k_t15.o hO
  replace k_t16 := k_t16.o hO
  replace off0 := off0.o hO
  have k_mk := h_
  clear hO h_ n_mk
  refine J2t (fun W => (Blk W J2e (J1 .u8 32 (Q6 V)) 22) ∧ (Blk W Q1f (p4 hx hy hz ht) 60) ∧ (Blk W Q05 (p4 gx gy 1 gt) 60) ∧ (Blk W Q06 (p4 x25 y26 z27 t28) 60) ∧ (Blk W Q07 (p4 x49 y50 z51 t52) 60) ∧ (Blk W Q0u (J1 .u8 80 (Q6 P)) 45) ∧ (Blk W pm24 (J1 .u8 64 (Q6 U1)) 30)) (fun W hS => ⟨hS.1, hS.2.1, hS.2.2.1, hS.2.2.2.1, hS.2.2.2.2.1, hS.2.2.2.2.2.1⟩) ⟨k_t3, k_t12, k_t10, k_t15, k_t16, k_t5, k_mk⟩ ?_
  refine J1r (v := str (lb 16 U2)) rfl (by rfl) (fun W hS => by exact (Q4i (J0j (V := U2) (n := 16) (off := 0) (hS.2.2.2.2.2.2) (h16 HU2.out) (by decide) (by decide)) rfl rfl)) ?_
  (try simp only [Act.put, mA, mB, mC])
  have hc_ : U2 = chk V P h := by rw [HU2.out, HU1.out]; rfl
  refine J1r (v := .bool true) rfl (by rfl) (fun W hS => by exact (J98 (l := (lb 16 U2)) (m := (lb 16 (pC P))) ((by rw [decide_eq_false fun e => htk (hc_ ▸ Z0t qU2 (Q69 P) e)]; rfl)) rfl rfl rfl)) ?_
  (try simp only [Act.put, mA, mB, mC])
  refine Q3s ?_
  go_upto_region 14 with fail
  refine wp_region_lit ?_
  refine Lw ?_ (v := .agg (J1 .u8 64 (Q6 0))) (hv := by kernel_rfl)
  refine LpA ?_ k_t6 (k := .u8) (n := 64) (f := Q6 0)
  intro W25 hO h_
  replace k_t6 : Blk W25 J8n (J1 .u8 64 (Q6 0)) 30 := h_
  clear h_
  replace off0 := off0.p hO J4w
  clear hO
  refine Lw ?_ (v := .int .i64 17)
  refine J0 ?_
  go_wp2
  obtain ⟨er_, ek_⟩ := HQ.out.2 htk
  rw [er_, ek_]
  exact bodyPost_ret (V8 rfl rfl rfl k_t6 (by kernel_rfl) (by rw [Q1]; kernel_rfl)) rfl ⟨rfl, off0.ext⟩
def J6a (V : Nat) (L : List UInt8) (P : Nat) : Nat × Nat :=
  if dOk V = false ∨ pm (dPt V) 8 = p0 then (0, 15) else if dOk (pG P) = false ∨ LL ≤ pN P then (0, 17) else
  match vpt V L with
  | none => (0, 15)
  | some c => if chk V P (J22 V L c) = pC P then (Q6a P, 0) else (0, 17)
theorem Y60 (hd : kn.d) (hb : kn.b) (hc : kn.c) {V P : Nat} {X : Nat × Nat} {L : List UInt8} (hX : X = J6a V L P) (hV : V < 2 ^ 256) (hP : B80 P) (v : Value) (hL : L.length ≤ 1099511627776) (w : World) (hG : GA kn w) (hsl : Sl w v L) :
    Calls Tryd.prog 26 #[.agg (J1 .u8 32 (Q6 V)), v, .agg (J1 .u8 80 (Q6 P))] w fun e w' => Ret (.tuple #[.agg (J1 .u8 64 (Q6 X.1)), .int .i64 (X.2 : Int)]) w w' e := by
  subst hX
  unfold J6a
  cases hk1 : dOk V
  · rw [if_pos (Or.inl rfl)]; exact Y5x hd hb hc hV hP v L hL hk1 w hG hsl
  by_cases hk2 : pm (dPt V) 8 = p0
  · rw [if_pos (Or.inr hk2)]; exact Y5y hd hb hc hV hP v L hL hk1 hk2 w hG hsl
  rw [if_neg (by rintro (h | h); cases h; exact hk2 h)]
  cases hok : dOk (pG P)
  · rw [if_pos (Or.inl rfl)]
    by_cases h1 : LL ≤ pN P
    · exact Y2a hd hb hc hV hP v L hL hk1 hk2 hok h1 w hG hsl
    · exact Y2b hd hb hc hV hP v L hL hk1 hk2 hok (Nat.not_le.1 h1) w hG hsl
  by_cases h1 : LL ≤ pN P
  · rw [if_pos (Or.inr h1)]; exact Y2c hd hb hc hV hP v L hL hk1 hk2 hok h1 w hG hsl
  rw [if_neg (by rintro (h | h); cases h; exact h1 h)]
  cases hv : vpt V L with
  | none => exact Y5z hd hb hc hV hP v L hL hk1 hk2 hok (Nat.not_le.1 h1) hv w hG hsl
  | some c =>
    by_cases ht : chk V P (J22 V L c) = pC P
    · simp only [if_pos ht]; exact Z5b hd hb hc hV hP v L hL hk1 hk2 hok (Nat.not_le.1 h1) hv rfl ⟨fun _ => ⟨rfl, rfl⟩, fun h => absurd ht h⟩ w hG hsl
    · simp only [if_neg ht]; exact Z5b hd hb hc hV hP v L hL hk1 hk2 hok (Nat.not_le.1 h1) hv rfl ⟨fun h => absurd h ht, fun _ => ⟨rfl, rfl⟩⟩ w hG hsl
end Go.Proofs.YtefpoollmbmkfaaDoor
