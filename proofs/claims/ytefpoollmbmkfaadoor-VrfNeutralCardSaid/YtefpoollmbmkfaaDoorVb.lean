/- vrf: Prove. Conditions: the cells of the variables hold their numbers. vrf: Check. Conditions: the cells of the variables hold their numbers. -/
import Derived.Test.YtefpoollmbmkfaaDoorGc
import Derived.Test.YtefpoollmbmkfaaDoorVa
set_option linter.unusedSimpArgs false
set_option linter.unusedVariables false
namespace Go.Proofs.YtefpoollmbmkfaaDoor
set_option maxHeartbeats 2000000
set_option maxRecDepth 100000
open Go.RowKit
attribute [local irreducible] wpList V4
variable {kn : Kn}
open Sc (LL i6)
attribute [local irreducible] hs
theorem h16 {X C : Nat} (hC : C = X % r6) : ∀ i v, (q7 .u8 16 (j0 C))[i]? = some v → (q7 .u8 64 (j0 X))[0 + i]? = some v :=
  q2s (fun j hj => by rw [hC, show r6 = 2 ^ (8 * 16) from rfl, y2q hj, Nat.zero_add]) (by decide)
theorem y2t (hc : kn.c) {V c0 : Nat} {L : List UInt8} (hL : L.length ≤ 1099511627776) (hv : vpt V L = some c0) {h : Pr} (hh : h = o6 V L c0) :
    ∃ X Y Z T, RN X Y Z T h ∧ ∀ v w, GA kn w → Sl w v L → Calls Tryd.prog 60 #[.agg (q7 .u8 32 (j0 V)), v] w fun e w' => h9 (.tuple #[.agg (p4 X Y Z T), .int .i64 0]) w w' e := by
  obtain ⟨h1, h2, h3⟩ := q3x hv
  subst hh
  exact q9x hc hL c0 h1 h2 h3
theorem y2u (hc : kn.c) {V : Nat} {L : List UInt8} (hL : L.length ≤ 1099511627776) (hv : vpt V L = none) (v : Value) (w : World) (hG : GA kn w) (hs : Sl w v L) :
    Calls Tryd.prog 60 #[.agg (q7 .u8 32 (j0 V)), v] w fun e w' => h9 (.tuple #[.agg (p4 0 0 0 0), .int .i64 15]) w w' e := q9y hc hL (j0i hv) v w hG hs
theorem j0j {E C n : Nat} (hE : E < 2 ^ 256) (hC : C < r6) : lb 32 E ++ lb 16 C ++ lb 32 n = lb 80 (E + 2 ^ 256 * (C + r6 * n)) := by
  have e1 : lb 80 (E + 2 ^ 256 * (C + r6 * n)) = lb 32 (E + 2 ^ 256 * (C + r6 * n)) ++ lb 48 ((E + 2 ^ 256 * (C + r6 * n)) / 2 ^ (8 * 32)) := q9u 32 48 _
  have e2 : lb 48 (C + r6 * n) = lb 16 (C + r6 * n) ++ lb 32 ((C + r6 * n) / 2 ^ (8 * 16)) := q9u 16 32 _
  rw [e1, show (2 : Nat) ^ (8 * 32) = 2 ^ 256 from rfl, Nat.add_mul_div_left _ _ (by decide), Nat.div_eq_of_lt hE, Nat.zero_add, e2, show (2 : Nat) ^ (8 * 16) = r6 from rfl, Nat.add_mul_div_left _ _ (by decide), Nat.div_eq_of_lt hC, Nat.zero_add, List.append_assoc]
  congr 1
  · rw [← y9r 32 (E + 2 ^ 256 * (C + r6 * n)), show (2 : Nat) ^ (8 * 32) = 2 ^ 256 from rfl, Nat.add_mul_mod_self_left, Nat.mod_eq_of_lt hE]
  · congr 1
    rw [← y9r 16 (C + r6 * n), show (2 : Nat) ^ (8 * 16) = r6 from rfl, Nat.add_mul_mod_self_left, Nat.mod_eq_of_lt hC]

theorem j4q (hd : kn.d) (hb : kn.b) (hc : kn.c) (S c0 : Nat) (v : Value) (L : List UInt8) (hL : L.length ≤ 1099511627776) (hv : vpt (kP S) L = some c0) {h : Pr} (hh : h = o6 (kP S) L c0) :
  ∀ w, GA kn w → Sl w v L → Calls Tryd.prog 23 #[.agg (q7 .u8 32 (j0 S)), v] w fun e w' => h9 (.tuple #[.agg (q7 .u8 80 (j0 (vPr S h))), .int .i64 0]) w w' e := by
 obtain ⟨U1, hU1⟩ := z8 (kN S)
 have bU1 : U1 < 2 ^ 256 := by rw [hU1]; exact y9v _
 have HU1 := Lib.hid hU1
 clear hU1
 obtain ⟨U2, hU2⟩ := z8 (kD S)
 have bU2 : U2 < 2 ^ 256 := by rw [hU2]; exact y9w _
 have HU2 := Lib.hid hU2
 clear hU2
 obtain ⟨U3, hU3⟩ := z8 (kP S)
 have bU3 : U3 < 2 ^ 256 := by rw [hU3]; exact y9x _
 have HU3 := Lib.hid hU3
 clear hU3
 have hv_ : vpt U3 L = some c0 := by rw [HU3.out]; exact hv
 have hh_ : h = o6 U3 L c0 := by rw [HU3.out]; exact hh
 obtain ⟨hx, hy, hz, ht, hr, hcl⟩ := y2t (kn := kn) hc hL hv_ hh_
 obtain ⟨x1, y2, z3, t4, r5, c6⟩ := K4 hd hr.rw (N := U1) bU1
 obtain ⟨U4, hU4⟩ := z8 (r4 h)
 have bU4 : U4 < 2 ^ 256 := by rw [hU4]; exact B9 _
 have HU4 := Lib.hid hU4
 clear hU4
 obtain ⟨U5, hU5⟩ := z8 (hs ((lb 32 U2) ++ (lb 32 U4)))
 have HU5 := Lib.hid hU5
 clear hU5
 obtain ⟨U6, hU6⟩ := z8 (U5 % LL)
 have lU6 : U6 < LL := by rw [hU6]; exact mLL _
 have bU6 : U6 < 2 ^ 256 := Nat.lt_trans lU6 Q0
 have HU6 := Lib.hid hU6
 clear hU6
 obtain ⟨x7, y8, z9, t10, r11, c12⟩ := q6d hb
 obtain ⟨x13, y14, z15, t16, r17, c18⟩ := K4 hd r11.rw (N := U6) (Nat.lt_trans lU6 Q0)
 obtain ⟨x19, y20, z21, t22, r23, c24⟩ := K4 hd hr.rw (N := U6) (Nat.lt_trans lU6 Q0)
 obtain ⟨U7, hU7⟩ := z8 (chH U3 h (pm h U1) (pm BP U6) (pm h U6))
 have HU7 := Lib.hid hU7
 clear hU7
 obtain ⟨U8, hU8⟩ := z8 (U7 % r6)
 have qU8 : U8 < r6 := by rw [hU8]; exact Nat.mod_lt _ (by decide)
 have HU8 := Lib.hid hU8
 clear hU8
 obtain ⟨U9, hU9⟩ := z8 (U8 % LL)
 have lU9 : U9 < LL := by rw [hU9]; exact mLL _
 have bU9 : U9 < 2 ^ 256 := Nat.lt_trans lU9 Q0
 have HU9 := Lib.hid hU9
 clear hU9
 obtain ⟨U10, hU10⟩ := z8 (U1 % LL)
 have lU10 : U10 < LL := by rw [hU10]; exact mLL _
 have bU10 : U10 < 2 ^ 256 := Nat.lt_trans lU10 Q0
 have HU10 := Lib.hid hU10
 clear hU10
 obtain ⟨U11, hU11⟩ := z8 (U9 * U10 % LL)
 have lU11 : U11 < LL := by rw [hU11]; exact mLL _
 have bU11 : U11 < 2 ^ 256 := Nat.lt_trans lU11 Q0
 have HU11 := Lib.hid hU11
 clear hU11
 obtain ⟨U12, hU12⟩ := z8 ((U6 + U11) % LL)
 have lU12 : U12 < LL := by rw [hU12]; exact mLL _
 have bU12 : U12 < 2 ^ 256 := Nat.lt_trans lU12 Q0
 have HU12 := Lib.hid hU12
 clear hU12
 obtain ⟨U13, hU13⟩ := z8 (r4 (pm h U1))
 have bU13 : U13 < 2 ^ 256 := by rw [hU13]; exact B9 _
 have HU13 := Lib.hid hU13
 clear hU13
 intro w hG hsl
 have y6 := hsl
 have off0 : Off [] w w := Off.refl _ _
 go_enter Tryd.func23, Tryd.ntmps23
 go_upto_region 0 with fail
 refine wp_region_lit ?_
 refine Ln ?_ (z := q7 .u8 32 (j0 S)) (t := 22)
 intro s7 W1 z7 hO h_
 replace y6 := Sl.off y6 hO f0
 replace off0 := off0.o hO
 have k_t2 := h_
 clear hO h_ z7
 refine Ln ?_ (z := q7 .u8 80 (j0 0)) (t := 45)
 intro E9 W2 c9 hO h_
 have w6 := i3 off0 c9
 replace k_t2 := k_t2.o hO
 replace y6 := Sl.off y6 hO f0
 replace off0 := off0.o hO
 have k_t4 := h_
 clear hO h_ c9
 refine Lw ?_ (v := .int .i64 0)
 refine q5 ?_
 go_upto_region 1 with fail
 refine wp_region_lit ?_
 refine M0 ?_ k_t2
 refine Lr ?_ (q1e hd hb HU1.out HU2.out HU3.out W2 (y7 hG off0.ext))
 intro W3 hO
 replace k_t2 := k_t2.o hO
 replace k_t4 := k_t4.o hO
 replace y6 := Sl.off y6 hO f0
 replace off0 := off0.o hO
 clear hO
 refine U0 ?_ (z := s3 0 0 0) (t := 25) (cells := s3 U1 U2 U3) (hi := by rw [i7]; kernel_rfl) (hs := by first | rw [i7, i7] | rw [i7] | kernel_rfl) (h1 := by exact q7b)
 intro q2b W5 e7 hO h_
 replace k_t2 := k_t2.o hO
 replace k_t4 := k_t4.o hO
 replace y6 := Sl.off y6 hO f0
 replace off0 := off0.o hO
 have k_t6 := h_
 clear hO h_ e7
 refine q5 ?_
 go_upto_region 2 with fail
 refine wp_region_lit ?_
 refine Lv ?_
 refine z0 (vs := (q7 .u8 32 (j0 U3)).toList) (by rfl) rfl rfl k_t6 (Y7 j9k) (by kernel_rfl) (by kernel_rfl) ?_
 (try simp only [Act.put, mA, mB, mC])
 refine Lv ?_
 refine Lr ?_ (hcl v W5 (y7 hG off0.ext) y6)
 intro W6 hO
 replace k_t2 := k_t2.o hO
 replace k_t4 := k_t4.o hO
 replace k_t6 := k_t6.o hO
 replace y6 := Sl.off y6 hO f0
 replace off0 := off0.o hO
 clear hO
 refine Lv ?_
 refine Lv ?_
 refine Lw ?_ (v := .int .i64 0)
 refine U0 ?_ (z := p4 0 0 0 0) (t := 60) (cells := p4 hx hy hz ht)
 intro q2c W8 u6 hO h_
 replace k_t2 := k_t2.o hO
 replace k_t4 := k_t4.o hO
 replace k_t6 := k_t6.o hO
 replace y6 := Sl.off y6 hO f0
 replace off0 := off0.o hO
 have k_t7 := h_
 clear hO h_ u6
 refine Lw ?_ (v := .int .i64 0)
 refine q5 ?_
 go_upto_region 5 with fail
 refine wp_region_lit ?_
 refine L0 ?_ k_t7
 refine Lv ?_
 refine z0 (vs := (q7 .u8 32 (j0 U1)).toList) (by rfl) rfl rfl k_t6 (Y7 j9i) (by kernel_rfl) (by kernel_rfl) ?_
 (try simp only [Act.put, mA, mB, mC])
 refine Lr ?_ (c6 W8 (y7 hG off0.ext).1)
 intro W9 hO
 replace k_t2 := k_t2.o hO
 replace k_t4 := k_t4.o hO
 replace k_t6 := k_t6.o hO
 replace k_t7 := k_t7.o hO
 replace y6 := Sl.off y6 hO f0
 replace off0 := off0.o hO
 clear hO
 refine U0 ?_ (z := p4 0 0 0 0) (t := 60) (cells := p4 x1 y2 z3 t4)
 intro O2 W11 I1 hO h_
 replace k_t2 := k_t2.o hO
 replace k_t4 := k_t4.o hO
 replace k_t6 := k_t6.o hO
 replace k_t7 := k_t7.o hO
 replace y6 := Sl.off y6 hO f0
 replace off0 := off0.o hO
 have k_t9 := h_
 clear hO h_ I1
 refine q5 ?_
 go_upto_region 6 with fail
 refine wp_region_lit ?_
 refine L0 ?_ k_t7
 refine Lr ?_ (O1 hr.rw HU4.out W11 (y7 hG off0.ext).1)
 intro W12 hO
 replace k_t2 := k_t2.o hO
 replace k_t4 := k_t4.o hO
 replace k_t6 := k_t6.o hO
 replace k_t7 := k_t7.o hO
 replace k_t9 := k_t9.o hO
 replace y6 := Sl.off y6 hO f0
 replace off0 := off0.o hO
 clear hO
 refine LnA ?_ (z := q7 .u8 32 (j0 0)) (t := 22) (k := .u8) (n := 32) (f := j0 U4)
 intro y0f W14 i4 hO h_
 replace k_t2 := k_t2.o hO
 replace k_t4 := k_t4.o hO
 replace k_t6 := k_t6.o hO
 replace k_t7 := k_t7.o hO
 replace k_t9 := k_t9.o hO
 replace y6 := Sl.off y6 hO f0
 replace off0 := off0.o hO
 have k_t10 := h_
 clear hO h_ i4
 refine q5 ?_
 go_upto_region 7 with fail
 refine q4i (.q 0 (.q 1 (.q 2 (.b 3 (.b 4 (.e 5 (.e 6 .z)) 5 (.e 4 (.e 6 .z))) 5 (.e 3 (.e 4 (.e 6 .z))))))) (fun W => True) (fun a0 a_ wr => ∃ (j_s38 : Nat) (j_t11 : Nat), a_ = y8g a0 [(35, .pointer (some ⟨p6_4, 32, none⟩)), (36, .slice (some ⟨p6_4, 32, none⟩) 32 32), (37, .slice (some ⟨p10_13, 0, none⟩) 32 32), (38, .slice (some ⟨j_s38, 0, none⟩) 2 2), (39, .agg (q7 .u8 64 (j0 U5))), (11, .pointer (some ⟨j_t11, 0, none⟩))] ∧ Off [] w wr ∧ Blk wr s7 (q7 .u8 32 (j0 S)) 22 ∧ Blk wr E9 (q7 .u8 80 (j0 0)) 45 ∧ Blk wr q2b (s3 U1 U2 U3) 25 ∧ Blk wr q2c (p4 hx hy hz ht) 60 ∧ Blk wr O2 (p4 x1 y2 z3 t4) 60 ∧ Blk wr y0f (q7 .u8 32 (j0 U4)) 22 ∧ Blk wr j_s38 #[.slice (some ⟨p6_4, 32, none⟩) 32 32, .slice (some ⟨p10_13, 0, none⟩) 32 32] 23 ∧ Blk wr j_t11 (q7 .u8 64 (j0 U5)) 30 ∧ Sl wr v L ∧ Fb j_s38 w.heap.size [] ∧ s7 ≠ j_s38 ∧ E9 ≠ j_s38 ∧ q2b ≠ j_s38 ∧ q2c ≠ j_s38 ∧ O2 ≠ j_s38 ∧ y0f ≠ j_s38 ∧ (sb v L) ≠ some j_s38 ∧ Fb j_t11 w.heap.size [] ∧ s7 ≠ j_t11 ∧ E9 ≠ j_t11 ∧ q2b ≠ j_t11 ∧ q2c ≠ j_t11 ∧ O2 ≠ j_t11 ∧ y0f ≠ j_t11 ∧ j_s38 ≠ j_t11 ∧ (sb v L) ≠ some j_t11) (by kernel_rfl) (by kernel_rfl) ?_ ?_
 ·
  have _f := True.intro
  intro W15 hO
  replace k_t2 := k_t2.o hO
  replace k_t4 := k_t4.o hO
  replace k_t6 := k_t6.o hO
  replace k_t7 := k_t7.o hO
  replace k_t9 := k_t9.o hO
  replace k_t10 := k_t10.o hO
  replace y6 := Sl.off y6 hO f0
  replace off0 := off0.o hO
  clear hO
  refine ⟨trivial, ?_⟩
  (refine b8 (v := ?_) rfl (by rfl) (fun W hS => ?_) ?_; rotate_left 1; (focus (go_simp; first | done | with_reducible rfl)))
  (try simp only [Act.put, mA, mB, mC])
  refine b8 (v := .slice (some ⟨p6_4, 32, none⟩) 32 32) rfl (by rfl) (fun W hS => by first | rfl | (go_simp; done) | (go_simp; with_reducible rfl)) ?_
  (try simp only [Act.put, mA, mB, mC])
  refine b8 (v := .slice (some ⟨p10_13, 0, none⟩) 32 32) rfl (by rfl) (fun W hS => by first | rfl | (go_simp; done) | (go_simp; with_reducible rfl)) ?_
  (try simp only [Act.put, mA, mB, mC])
  refine j6a rfl rfl ?_ ?_
  ·
   have _f := True.intro
   refine E3 ?_ (z := #[.slice (some ⟨p6_4, 32, none⟩) 32 32, .slice (some ⟨p10_13, 0, none⟩) 32 32]) (t := 23) (n := 2) (c := 2) (hr := by exact p7 [.slice (some ⟨p6_4, 32, none⟩) 32 32, .slice (some ⟨p10_13, 0, none⟩) 32 32] rfl rfl (vsc (rfl) (vsc (rfl) vs0)) Tryd.underlying112 (by kernel_rfl) (by kernel_rfl) rfl (by decide) (by decide))
   intro g7k W16 J2 hO h_
   have A5 := bn k_t2 J2
   have A6 := bn k_t4 J2
   have A7 := bn k_t6 J2
   have A8 := bn k_t7 J2
   have A9 := bn k_t9 J2
   have H7 := bn k_t10 J2
   have O3 := n8 (Sl.lt y6) J2
   have q3y := i3 off0 J2
   replace k_t2 := k_t2.o hO
   replace k_t4 := k_t4.o hO
   replace k_t6 := k_t6.o hO
   replace k_t7 := k_t7.o hO
   replace k_t9 := k_t9.o hO
   replace k_t10 := k_t10.o hO
   replace y6 := Sl.off y6 hO f0
   replace off0 := off0.o hO
   have k_s38 := h_
   clear hO h_ J2
   refine o5 (fun W => True) (fun W hS => trivial) trivial ?_
   refine j6a rfl rfl ?_ ?_
   ·
    have _f := True.intro
    refine Lr ?_ (F1 HU5.out [lb 32 U2, lb 32 U4] (some ⟨p38_16, 0, none⟩) 2 (by simp only [List.flatten_cons, List.flatten_nil, List.append_nil, List.nil_append, List.append_assoc, List.cons_append]) (by first | omega | (simp only [List.length_append, List.length_cons, List.length_nil, g7]; omega)) (by simp) W16 (B1 k_s38 (pvc (d9 (V := U2) (n := 32) (off := 32) k_t6 j9j (by decide) (by decide)) (pvc (d9 (V := U4) (n := 32) (off := 0) k_t10 ap0 (by decide) (by decide)) pv0))) (y7 hG off0.ext).2.1)
    intro W17 hO
    replace k_t2 := k_t2.o hO
    replace k_t4 := k_t4.o hO
    replace k_t6 := k_t6.o hO
    replace k_t7 := k_t7.o hO
    replace k_t9 := k_t9.o hO
    replace k_t10 := k_t10.o hO
    replace k_s38 := k_s38.o hO
    replace y6 := Sl.off y6 hO f0
    replace off0 := off0.o hO
    clear hO
    refine o5 (fun W => True) (fun W hS => trivial) trivial ?_
    refine t0 rfl ?_
    refine Ln ?_ (z := q7 .u8 64 (j0 0)) (t := 30)
    intro j0k W18 x5 hO h_
    have p9 := bn k_t2 x5
    have r8 := bn k_t4 x5
    have n5 := bn k_t6 x5
    have w5 := bn k_t7 x5
    have nq_t9_t11 := bn k_t9 x5
    have nq_t10_t11 := bn k_t10 x5
    have Z8 := bn k_s38 x5
    have G3 := n8 (Sl.lt y6) x5
    have o8 := i3 off0 x5
    replace k_t2 := k_t2.o hO
    replace k_t4 := k_t4.o hO
    replace k_t6 := k_t6.o hO
    replace k_t7 := k_t7.o hO
    replace k_t9 := k_t9.o hO
    replace k_t10 := k_t10.o hO
    replace k_s38 := k_s38.o hO
    replace y6 := Sl.off y6 hO f0
    replace off0 := off0.o hO
    have k_t11 := h_
    clear hO h_ x5
    refine o5 (fun W => True) (fun W hS => trivial) trivial ?_
    refine t0 rfl ?_
    refine LpA ?_ k_t11 (k := .u8) (n := 64) (f := j0 U5)
    intro W19 hO h_
    replace k_t11 : Blk W19 j0k (q7 .u8 64 (j0 U5)) 30 := h_
    clear h_
    replace k_t2 := k_t2.p hO p9
    replace k_t4 := k_t4.p hO r8
    replace k_t6 := k_t6.p hO n5
    replace k_t7 := k_t7.p hO w5
    replace k_t9 := k_t9.p hO nq_t9_t11
    replace k_t10 := k_t10.p hO nq_t10_t11
    replace k_s38 := k_s38.p hO Z8
    replace y6 := Sl.off y6 hO (f1 G3)
    replace off0 := off0.p hO o8
    clear hO
    refine o5 (fun W => True) (fun W hS => trivial) trivial ?_
    refine q1t ?_
    exact ⟨p38_16, j0k, (by (simp only [y8g, List.foldl_cons, List.foldl_nil, Act.put, mA, mB, mC] <;> rfl)), off0, k_t2, k_t4, k_t6, k_t7, k_t9, k_t10, k_s38, k_t11, y6, q3y, A5, A6, A7, A8, A9, H7, O3, o8, p9, r8, n5, w5, nq_t9_t11, nq_t10_t11, Z8, ne_a_t11⟩
   ·
    have _f := True.intro
    refine Ln ?_ (z := q7 .u8 64 (j0 0)) (t := 30)
    intro j0l W17 x5 hO h_
    have p9 := bn k_t2 x5
    have r8 := bn k_t4 x5
    have n5 := bn k_t6 x5
    have w5 := bn k_t7 x5
    have nq_t9_t11 := bn k_t9 x5
    have nq_t10_t11 := bn k_t10 x5
    have Z8 := bn k_s38 x5
    have G3 := n8 (Sl.lt y6) x5
    have o8 := i3 off0 x5
    replace k_t2 := k_t2.o hO
    replace k_t4 := k_t4.o hO
    replace k_t6 := k_t6.o hO
    replace k_t7 := k_t7.o hO
    replace k_t9 := k_t9.o hO
    replace k_t10 := k_t10.o hO
    replace k_s38 := k_s38.o hO
    replace y6 := Sl.off y6 hO f0
    replace off0 := off0.o hO
    have k_t11 := h_
    clear hO h_ x5
    refine o5 (fun W => True) (fun W hS => trivial) trivial ?_
    refine t0 rfl ?_
    refine Lr ?_ (F1 HU5.out [lb 32 U2, lb 32 U4] (some ⟨p38_16, 0, none⟩) 2 (by simp only [List.flatten_cons, List.flatten_nil, List.append_nil, List.nil_append, List.append_assoc, List.cons_append]) (by first | omega | (simp only [List.length_append, List.length_cons, List.length_nil, g7]; omega)) (by simp) W17 (B1 k_s38 (pvc (d9 (V := U2) (n := 32) (off := 32) k_t6 j9j (by decide) (by decide)) (pvc (d9 (V := U4) (n := 32) (off := 0) k_t10 ap0 (by decide) (by decide)) pv0))) (y7 hG off0.ext).2.1)
    intro W18 hO
    replace k_t2 := k_t2.o hO
    replace k_t4 := k_t4.o hO
    replace k_t6 := k_t6.o hO
    replace k_t7 := k_t7.o hO
    replace k_t9 := k_t9.o hO
    replace k_t10 := k_t10.o hO
    replace k_s38 := k_s38.o hO
    replace k_t11 := k_t11.o hO
    replace y6 := Sl.off y6 hO f0
    replace off0 := off0.o hO
    clear hO
    refine o5 (fun W => True) (fun W hS => trivial) trivial ?_
    refine t0 rfl ?_
    refine LpA ?_ k_t11 (k := .u8) (n := 64) (f := j0 U5)
    intro W19 hO h_
    replace k_t11 : Blk W19 j0l (q7 .u8 64 (j0 U5)) 30 := h_
    clear h_
    replace k_t2 := k_t2.p hO p9
    replace k_t4 := k_t4.p hO r8
    replace k_t6 := k_t6.p hO n5
    replace k_t7 := k_t7.p hO w5
    replace k_t9 := k_t9.p hO nq_t9_t11
    replace k_t10 := k_t10.p hO nq_t10_t11
    replace k_s38 := k_s38.p hO Z8
    replace y6 := Sl.off y6 hO (f1 G3)
    replace off0 := off0.p hO o8
    clear hO
    refine o5 (fun W => True) (fun W hS => trivial) trivial ?_
    refine q1t ?_
    exact ⟨p38_16, j0l, (by (simp only [y8g, List.foldl_cons, List.foldl_nil, Act.put, mA, mB, mC] <;> rfl)), off0, k_t2, k_t4, k_t6, k_t7, k_t9, k_t10, k_s38, k_t11, y6, q3y, A5, A6, A7, A8, A9, H7, O3, o8, p9, r8, n5, w5, nq_t9_t11, nq_t10_t11, Z8, ne_a_t11⟩
  ·
   have _f := True.intro
   refine Ln ?_ (z := q7 .u8 64 (j0 0)) (t := 30)
   intro j0m W16 x5 hO h_
   have p9 := bn k_t2 x5
   have r8 := bn k_t4 x5
   have n5 := bn k_t6 x5
   have w5 := bn k_t7 x5
   have nq_t9_t11 := bn k_t9 x5
   have nq_t10_t11 := bn k_t10 x5
   have G3 := n8 (Sl.lt y6) x5
   have o8 := i3 off0 x5
   replace k_t2 := k_t2.o hO
   replace k_t4 := k_t4.o hO
   replace k_t6 := k_t6.o hO
   replace k_t7 := k_t7.o hO
   replace k_t9 := k_t9.o hO
   replace k_t10 := k_t10.o hO
   replace y6 := Sl.off y6 hO f0
   replace off0 := off0.o hO
   have k_t11 := h_
   clear hO h_ x5
   refine o5 (fun W => True) (fun W hS => trivial) trivial ?_
   refine t0 rfl ?_
   refine E3 ?_ (z := #[.slice (some ⟨p6_4, 32, none⟩) 32 32, .slice (some ⟨p10_13, 0, none⟩) 32 32]) (t := 23) (n := 2) (c := 2) (hr := by exact p7 [.slice (some ⟨p6_4, 32, none⟩) 32 32, .slice (some ⟨p10_13, 0, none⟩) 32 32] rfl rfl (vsc (rfl) (vsc (rfl) vs0)) Tryd.underlying112 (by kernel_rfl) (by kernel_rfl) rfl (by decide) (by decide))
   intro g7l W17 J2 hO h_
   have A5 := bn k_t2 J2
   have A6 := bn k_t4 J2
   have A7 := bn k_t6 J2
   have A8 := bn k_t7 J2
   have A9 := bn k_t9 J2
   have H7 := bn k_t10 J2
   have nq_t11_s38 := bn k_t11 J2
   have O3 := n8 (Sl.lt y6) J2
   have q3y := i3 off0 J2
   replace k_t2 := k_t2.o hO
   replace k_t4 := k_t4.o hO
   replace k_t6 := k_t6.o hO
   replace k_t7 := k_t7.o hO
   replace k_t9 := k_t9.o hO
   replace k_t10 := k_t10.o hO
   replace k_t11 := k_t11.o hO
   replace y6 := Sl.off y6 hO f0
   replace off0 := off0.o hO
   have k_s38 := h_
   clear hO h_ J2
   refine o5 (fun W => True) (fun W hS => trivial) trivial ?_
   refine t0 rfl ?_
   refine Lr ?_ (F1 HU5.out [lb 32 U2, lb 32 U4] (some ⟨p38_17, 0, none⟩) 2 (by simp only [List.flatten_cons, List.flatten_nil, List.append_nil, List.nil_append, List.append_assoc, List.cons_append]) (by first | omega | (simp only [List.length_append, List.length_cons, List.length_nil, g7]; omega)) (by simp) W17 (B1 k_s38 (pvc (d9 (V := U2) (n := 32) (off := 32) k_t6 j9j (by decide) (by decide)) (pvc (d9 (V := U4) (n := 32) (off := 0) k_t10 ap0 (by decide) (by decide)) pv0))) (y7 hG off0.ext).2.1)
   intro W18 hO
   replace k_t2 := k_t2.o hO
   replace k_t4 := k_t4.o hO
   replace k_t6 := k_t6.o hO
   replace k_t7 := k_t7.o hO
   replace k_t9 := k_t9.o hO
   replace k_t10 := k_t10.o hO
   replace k_t11 := k_t11.o hO
   replace k_s38 := k_s38.o hO
   replace y6 := Sl.off y6 hO f0
   replace off0 := off0.o hO
   clear hO
   refine o5 (fun W => True) (fun W hS => trivial) trivial ?_
   refine t0 rfl ?_
   refine LpA ?_ k_t11 (k := .u8) (n := 64) (f := j0 U5)
   intro W19 hO h_
   replace k_t11 : Blk W19 j0m (q7 .u8 64 (j0 U5)) 30 := h_
   clear h_
   replace k_t2 := k_t2.p hO p9
   replace k_t4 := k_t4.p hO r8
   replace k_t6 := k_t6.p hO n5
   replace k_t7 := k_t7.p hO w5
   replace k_t9 := k_t9.p hO nq_t9_t11
   replace k_t10 := k_t10.p hO nq_t10_t11
   replace k_s38 := k_s38.p hO nq_t11_s38.symm
   replace y6 := Sl.off y6 hO (f1 G3)
   replace off0 := off0.p hO o8
   clear hO
   refine o5 (fun W => True) (fun W hS => trivial) trivial ?_
   refine q1t ?_
   exact ⟨p38_17, j0m, (by (simp only [y8g, List.foldl_cons, List.foldl_nil, Act.put, mA, mB, mC] <;> rfl)), off0, k_t2, k_t4, k_t6, k_t7, k_t9, k_t10, k_s38, k_t11, y6, q3y, A5, A6, A7, A8, A9, H7, O3, o8, p9, r8, n5, w5, nq_t9_t11, nq_t10_t11, nq_t11_s38.symm, ne_a_t11⟩
 rintro _ W20 ⟨j_s38, j_t11, rfl, off0, k_t2, k_t4, k_t6, k_t7, k_t9, k_t10, k_s38, k_t11, y6, q3y, A5, A6, A7, A8, A9, H7, O3, o8, p9, r8, n5, w5, nq_t9_t11, nq_t10_t11, Z8, ne_a_t11⟩
 simp only [y8g, List.foldl_cons, List.foldl_nil]
 (try simp only [Act.put, mA, mB, mC])
 go_upto_region 8 with fail
 refine wp_region_lit ?_
 refine Lw ?_ (v := .slice (some ⟨j_t11, 0, none⟩) 64 64) (hv := by first | rfl | (go_simp; done) | (go_simp; with_reducible rfl))
 refine Lr ?_ (y9f HU6.out (n := 64) (off := 0) k_t11 ap0 (by decide) (by rw [HU5.out]; exact y9u _) (y7 hG off0.ext).2.2.1)
 intro W21 hO
 replace k_t4 := k_t4.o hO
 replace k_t6 := k_t6.o hO
 replace k_t7 := k_t7.o hO
 replace k_t9 := k_t9.o hO
 replace off0 := off0.o hO
 clear hO
 refine U0 ?_ (z := c4 0) (t := 42) (cells := c4 U6)
 intro O4 W23 S3 hO h_
 replace k_t4 := k_t4.o hO
 replace k_t6 := k_t6.o hO
 replace k_t7 := k_t7.o hO
 replace k_t9 := k_t9.o hO
 replace off0 := off0.o hO
 have k_t12 := h_
 clear hO h_ S3
 refine q5 ?_
 go_upto_region 9 with fail
 refine p6 (.q 0 (.q 1 (.q 2 (.q 3 (.q 5 (.q 8 (.q 9 (.e 4 (.e 6 (.e 7 (.e 10 (.e 11 (.e 12 (.e 13 (.q 14 .z))))))))))))))) (fun W => (Blk W q2b (s3 U1 U2 U3) 25) ∧ (Blk W q2c (p4 hx hy hz ht) 60) ∧ (Blk W O2 (p4 x1 y2 z3 t4) 60) ∧ (Blk W O4 (c4 U6) 42)) (by kernel_rfl) (by kernel_rfl) ?_
 intro W24 hO
 replace k_t4 := k_t4.o hO
 replace k_t6 := k_t6.o hO
 replace k_t7 := k_t7.o hO
 replace k_t9 := k_t9.o hO
 replace k_t12 := k_t12.o hO
 replace off0 := off0.o hO
 clear hO
 refine ⟨⟨k_t6, k_t7, k_t9, k_t12⟩, ?_⟩
 (refine b8 (v := ?_) rfl (by rfl) (fun W hS => ?_) ?_; rotate_left 1; (focus (go_simp; first | done | with_reducible rfl)))
 (try simp only [Act.put, mA, mB, mC])
 refine b8 (v := .agg (q7 .u8 32 (j0 U3))) rfl (by rfl) (fun W hS => by exact (q1b (vs := (q7 .u8 32 (j0 U3)).toList) rfl rfl (fun i v hv => by rw [j3 (hS.1)]; exact j9k i v (by simpa using hv)) (by kernel_rfl) (by kernel_rfl))) ?_
 (try simp only [Act.put, mA, mB, mC])
 refine b8 (v := .agg (p4 hx hy hz ht)) rfl (by rfl) (fun W hS => by exact (f4 rfl rfl (hS.2.1) (by kernel_rfl) (by kernel_rfl))) ?_
 (try simp only [Act.put, mA, mB, mC])
 refine b8 (v := .agg (p4 x1 y2 z3 t4)) rfl (by rfl) (fun W hS => by exact (f4 rfl rfl (hS.2.2.1) (by kernel_rfl) (by kernel_rfl))) ?_
 (try simp only [Act.put, mA, mB, mC])
 refine b8 (v := .agg (c4 U6)) rfl (by rfl) (fun W hS => by exact (f4 rfl rfl (hS.2.2.2) (by kernel_rfl) (by kernel_rfl))) ?_
 (try simp only [Act.put, mA, mB, mC])
 refine b8 (v := .agg (p4 hx hy hz ht)) rfl (by rfl) (fun W hS => by exact (f4 rfl rfl (hS.2.1) (by kernel_rfl) (by kernel_rfl))) ?_
 (try simp only [Act.put, mA, mB, mC])
 refine b8 (v := .agg (c4 U6)) rfl (by rfl) (fun W hS => by exact (f4 rfl rfl (hS.2.2.2) (by kernel_rfl) (by kernel_rfl))) ?_
 (try simp only [Act.put, mA, mB, mC])
 refine t0 rfl ?_
 refine Lr ?_ (c12 W24 (y7 hG off0.ext).1)
 intro W25 hO
 replace k_t4 := k_t4.o hO
 replace k_t6 := k_t6.o hO
 replace k_t7 := k_t7.o hO
 replace k_t9 := k_t9.o hO
 replace k_t12 := k_t12.o hO
 replace off0 := off0.o hO
 clear hO
 refine o5 (fun W => (Blk W q2b (s3 U1 U2 U3) 25) ∧ (Blk W q2c (p4 hx hy hz ht) 60) ∧ (Blk W O2 (p4 x1 y2 z3 t4) 60) ∧ (Blk W O4 (c4 U6) 42)) (fun W hS => ⟨hS.1, hS.2.1, hS.2.2.1, hS.2.2.2⟩) ⟨k_t6, k_t7, k_t9, k_t12⟩ ?_
 refine t0 rfl ?_
 refine Lr ?_ (q0g lU6 W25 (y7 hG off0.ext).2.2.1)
 intro W26 hO
 replace k_t4 := k_t4.o hO
 replace k_t6 := k_t6.o hO
 replace k_t7 := k_t7.o hO
 replace k_t9 := k_t9.o hO
 replace k_t12 := k_t12.o hO
 replace off0 := off0.o hO
 clear hO
 refine o5 (fun W => (Blk W q2b (s3 U1 U2 U3) 25) ∧ (Blk W q2c (p4 hx hy hz ht) 60) ∧ (Blk W O2 (p4 x1 y2 z3 t4) 60) ∧ (Blk W O4 (c4 U6) 42)) (fun W hS => ⟨hS.1, hS.2.1, hS.2.2.1, hS.2.2.2⟩) ⟨k_t6, k_t7, k_t9, k_t12⟩ ?_
 refine t0 rfl ?_
 refine Lr ?_ (c18 W26 (y7 hG off0.ext).1)
 intro W27 hO
 replace k_t4 := k_t4.o hO
 replace k_t6 := k_t6.o hO
 replace k_t7 := k_t7.o hO
 replace k_t9 := k_t9.o hO
 replace k_t12 := k_t12.o hO
 replace off0 := off0.o hO
 clear hO
 refine o5 (fun W => (Blk W q2b (s3 U1 U2 U3) 25) ∧ (Blk W q2c (p4 hx hy hz ht) 60) ∧ (Blk W O2 (p4 x1 y2 z3 t4) 60) ∧ (Blk W O4 (c4 U6) 42)) (fun W hS => ⟨hS.1, hS.2.1, hS.2.2.1, hS.2.2.2⟩) ⟨k_t6, k_t7, k_t9, k_t12⟩ ?_
 refine t0 rfl ?_
 refine Lr ?_ (q0g lU6 W27 (y7 hG off0.ext).2.2.1)
 intro W28 hO
 replace k_t4 := k_t4.o hO
 replace k_t6 := k_t6.o hO
 replace k_t7 := k_t7.o hO
 replace k_t9 := k_t9.o hO
 replace k_t12 := k_t12.o hO
 replace off0 := off0.o hO
 clear hO
 refine o5 (fun W => (Blk W q2b (s3 U1 U2 U3) 25) ∧ (Blk W q2c (p4 hx hy hz ht) 60) ∧ (Blk W O2 (p4 x1 y2 z3 t4) 60) ∧ (Blk W O4 (c4 U6) 42)) (fun W hS => ⟨hS.1, hS.2.1, hS.2.2.1, hS.2.2.2⟩) ⟨k_t6, k_t7, k_t9, k_t12⟩ ?_
 refine t0 rfl ?_
 refine Lr ?_ (c24 W28 (y7 hG off0.ext).1)
 intro W29 hO
 replace k_t4 := k_t4.o hO
 replace k_t6 := k_t6.o hO
 replace k_t7 := k_t7.o hO
 replace k_t9 := k_t9.o hO
 replace k_t12 := k_t12.o hO
 replace off0 := off0.o hO
 clear hO
 refine o5 (fun W => (Blk W q2b (s3 U1 U2 U3) 25) ∧ (Blk W q2c (p4 hx hy hz ht) 60) ∧ (Blk W O2 (p4 x1 y2 z3 t4) 60) ∧ (Blk W O4 (c4 U6) 42)) (fun W hS => ⟨hS.1, hS.2.1, hS.2.2.1, hS.2.2.2⟩) ⟨k_t6, k_t7, k_t9, k_t12⟩ ?_
 refine t0 rfl ?_
 refine E3 ?_ (z := (p4 hx hy hz ht) ++ (p4 x1 y2 z3 t4) ++ (p4 x13 y14 z15 t16) ++ (p4 x19 y20 z21 t22)) (t := 60) (n := 4) (c := 4)
 intro g0r W30 g4p hO h_
 replace k_t4 := k_t4.o hO
 replace k_t6 := k_t6.o hO
 replace k_t7 := k_t7.o hO
 replace k_t9 := k_t9.o hO
 replace k_t12 := k_t12.o hO
 replace off0 := off0.o hO
 have g4q := h_
 clear hO h_ g4p
 refine o5 (fun W => (Blk W q2b (s3 U1 U2 U3) 25) ∧ (Blk W q2c (p4 hx hy hz ht) 60) ∧ (Blk W O2 (p4 x1 y2 z3 t4) 60) ∧ (Blk W O4 (c4 U6) 42)) (fun W hS => ⟨hS.1, hS.2.1, hS.2.2.1, hS.2.2.2⟩) ⟨k_t6, k_t7, k_t9, k_t12⟩ ?_
 refine t0 rfl ?_
 refine q3m (R := fun v W => ∃ p, v = .slice (some ⟨p, 0, none⟩) 16 64 ∧ W30.heap.size ≤ p ∧ Off [] W30 W ∧ Blk W p (q7 .u8 64 (j0 U7)) 30) ((y0a (kn := kn) hr r5 r17 r23 HU7.out g0r W30 (y7 hG off0.ext) g4q).mono fun e W h => by obtain ⟨p, h1, h2⟩ := h; exact ⟨_, h1, p, rfl, h2⟩) (by rfl) rfl (by kernel_rfl) rfl ?_
 (try simp only [Act.put, mA, mB, mC])
 rintro _ W31 ⟨pm31, rfl, n_mk, hO, h_⟩
 (try simp only [Act.put, mA, mB, mC])
 replace k_t4 := k_t4.o hO
 replace k_t6 := k_t6.o hO
 replace k_t7 := k_t7.o hO
 replace k_t9 := k_t9.o hO
 replace k_t12 := k_t12.o hO
 replace off0 := off0.o hO
 have k_mk := h_
 clear hO h_ n_mk
 refine o5 (fun W => (Blk W q2b (s3 U1 U2 U3) 25) ∧ (Blk W q2c (p4 hx hy hz ht) 60) ∧ (Blk W O2 (p4 x1 y2 z3 t4) 60) ∧ (Blk W O4 (c4 U6) 42)) (fun W hS => ⟨hS.1, hS.2.1, hS.2.2.1, hS.2.2.2⟩) ⟨k_t6, k_t7, k_t9, k_t12⟩ ?_
 (refine b8 (v := ?_) rfl (by rfl) (fun W hS => ?_) ?_; rotate_left 1; (focus (go_simp; first | done | with_reducible rfl)))
 (try simp only [Act.put, mA, mB, mC])
 refine q1t ?_
 go_upto_region 10 with fail
 refine Rx1 9 14 (z := q7 .u8 32 (j0 0)) (t := 22) ?_
 refine Xl ?_ k_t12
 refine Xv ?_
 refine Xf ?_ (fun W hW => y9f HU9.out (n := 16) (off := 0) (q6 k_mk hW) (h16 HU8.out) (by decide) qU8 (y7 (y7 hG off0.ext) hW).2.2.1)
 refine Xv ?_
 refine Xw ?_ (v := .slice (some ⟨p6_4, 0, none⟩) 32 32)
 refine Xf ?_ (fun W hW => y9f HU10.out (n := 32) (off := 0) (q6 k_t6 hW) j9i (by decide) bU1 (y7 (y7 hG off0.ext) hW).2.2.1)
 refine Xf ?_ (fun W hW => j9n HU11.out (Nat.lt_trans lU9 Q0) (Nat.lt_trans lU10 Q0) W (y7 (y7 hG off0.ext) hW).2.2.1)
 refine Xf ?_ (fun W hW => j9o HU12.out (Nat.lt_trans lU6 Q0) (Nat.lt_trans lU11 Q0) W (y7 (y7 hG off0.ext) hW).2.2.1)
 refine Xf ?_ (fun W hW => q0g lU12 W (y7 (y7 hG off0.ext) hW).2.2.1)
 refine XN ?_
 intro y0g W32 B3 hE h_t14
 have hO := g9 hE
 have y4v := bn k_t4 B3
 have y4w := bn k_t9 B3
 have y4x := bn k_mk B3
 have y0h := i3 off0 B3
 replace k_t4 := k_t4.o hO
 replace k_t9 := k_t9.o hO
 replace k_mk := k_mk.o hO
 replace off0 := off0.o hO
 clear hO hE B3
 have k_t14 : Blk W32 y0g (q7 .u8 32 (j0 0)) 22 := h_t14
 clear h_t14
 refine LpA ?_ k_t14 (k := .u8) (n := 32) (f := j0 U12)
 intro W33 hO h_
 replace k_t14 : Blk W33 y0g (q7 .u8 32 (j0 U12)) 22 := h_
 clear h_
 replace k_t4 := k_t4.p hO y4v
 replace k_t9 := k_t9.p hO y4w
 replace k_mk := k_mk.p hO y4x
 replace off0 := off0.p hO y0h
 clear hO
 refine LN ?_
 go_upto_region 11 with fail
 refine wp_region_lit ?_
 refine L0 ?_ k_t9
 refine Lr ?_ (O1 r5.rw HU13.out W33 (y7 hG off0.ext).1)
 intro W34 hO
 replace k_t4 := k_t4.o hO
 replace k_mk := k_mk.o hO
 replace k_t14 := k_t14.o hO
 replace off0 := off0.o hO
 clear hO
 refine LnA ?_ (z := q7 .u8 32 (j0 0)) (t := 22) (k := .u8) (n := 32) (f := j0 U13)
 intro g7m W36 O5 hO h_
 replace k_t4 := k_t4.o hO
 replace k_mk := k_mk.o hO
 replace k_t14 := k_t14.o hO
 replace off0 := off0.o hO
 have k_t15 := h_
 clear hO h_ O5
 refine q5 ?_
 go_upto_region 12 with fail
 refine p6 (.q 1 (.q 3 (.q 5 (.e 0 (.e 2 (.e 4 (.e 6 (.q 7 (.q 8 (.e 9 (.q 10 .z))))))))))) (fun W => True) (by kernel_rfl) (by kernel_rfl) ?_
 intro W37 hO
 replace k_t4 := k_t4.o hO
 replace k_mk := k_mk.o hO
 replace k_t14 := k_t14.o hO
 replace k_t15 := k_t15.o hO
 replace off0 := off0.o hO
 clear hO
 refine ⟨trivial, ?_⟩
 refine b8 (v := .slice (some ⟨p15_35, 0, none⟩) 32 32) rfl (by rfl) (fun W hS => by first | rfl | (go_simp; done) | (go_simp; with_reducible rfl)) ?_
 (try simp only [Act.put, mA, mB, mC])
 (refine b8 (v := ?_) rfl (by rfl) (fun W hS => ?_) ?_; rotate_left 1; (focus (go_simp; first | done | with_reducible rfl)))
 (try simp only [Act.put, mA, mB, mC])
 refine b8 (v := .slice (some ⟨p14_32, 0, none⟩) 32 32) rfl (by rfl) (fun W hS => by first | rfl | (go_simp; done) | (go_simp; with_reducible rfl)) ?_
 (try simp only [Act.put, mA, mB, mC])
 refine t0 rfl ?_
 refine E3 ?_ (z := #[]) (t := 5) (n := 0) (c := 0)
 intro g7n W38 q8n hO h_
 have q5k : Value.ownBlock (.slice (some ⟨p67_38, 0, none⟩) 0 0) ≠ some E9 := obn k_t4 q8n
 have y4y : Value.ownBlock (.slice (some ⟨p67_38, 0, none⟩) 0 0) ≠ some pm31 := obn k_mk q8n
 have q3z : Value.ownBlock (.slice (some ⟨p67_38, 0, none⟩) 0 0) ≠ some y0g := obn k_t14 q8n
 have j0n : Fr (Value.ownBlock (.slice (some ⟨p67_38, 0, none⟩) 0 0)) w.heap.size [] := frn off0 q8n
 replace k_t4 := k_t4.o hO
 replace k_mk := k_mk.o hO
 replace k_t14 := k_t14.o hO
 replace k_t15 := k_t15.o hO
 replace off0 := off0.o hO
 have g0s : Own W38 (.slice (some ⟨p67_38, 0, none⟩) 0 0) [] := d8 h_ (by rfl) (by show 0 ≤ maxLen; decide)
 clear hO h_ q8n
 refine o5 (fun W => True) (fun W hS => trivial) trivial ?_
 refine t0 rfl ?_
 refine b5 (xs := []) (ys := (lb 32 U13)) (by rfl) rfl rfl rfl g0s (d9 (V := U13) (n := 32) (off := 0) k_t15 ap0 (by decide) (by decide)) (by first | omega | (simp only [List.length_append, List.length_cons, List.length_nil, g7]; omega)) ?_
 (try simp only [Act.put, mA, mB, mC])
 intro g7o W39 g0t hO q7e nil_a69
 clear nil_a69
 have q5l := f8 q7e q5k (y4 k_t4)
 have y0i := f8 q7e q3z (y4 k_t14)
 have j0o := t7 q7e j0n off0.size
 replace k_t4 := z6 k_t4 hO (R5 q5k)
 replace k_mk := z6 k_mk hO (R5 y4y)
 replace k_t14 := z6 k_t14 hO (R5 q3z)
 replace off0 := off0.step hO (io j0n)
 clear hO q7e
 refine o5 (fun W => True) (fun W hS => trivial) trivial ?_
 refine t0 rfl ?_
 refine b5 (xs := ([] ++ (lb 32 U13))) (ys := (lb 16 U8)) (by rfl) rfl rfl rfl g0t (d9 (V := U8) (n := 16) (off := 0) k_mk (h16 HU8.out) (by decide) (by decide)) (by first | omega | (simp only [List.length_append, List.length_cons, List.length_nil, g7]; omega)) ?_
 (try simp only [Act.put, mA, mB, mC])
 intro g7p W40 g0u hO y0j nil_a71
 clear nil_a71
 have q5m := f8 y0j q5l (y4 k_t4)
 have g0v := t7 y0j j0o off0.size
 replace k_t4 := z6 k_t4 hO (R5 q5l)
 replace k_t14 := z6 k_t14 hO (R5 y0i)
 replace off0 := off0.step hO (io j0o)
 clear hO y0j
 refine o5 (fun W => True) (fun W hS => trivial) trivial ?_
 refine t0 rfl ?_
 refine b5 (xs := (([] ++ (lb 32 U13)) ++ (lb 16 U8))) (ys := (lb 32 U12)) (by rfl) rfl rfl rfl g0u (d9 (V := U12) (n := 32) (off := 0) k_t14 ap0 (by decide) (by decide)) (by first | omega | (simp only [List.length_append, List.length_cons, List.length_nil, g7]; omega)) ?_
 (try simp only [Act.put, mA, mB, mC])
 intro y0k W41 q4a hO j0p nil_a73
 clear nil_a73
 have y4z := f8 j0p q5m (y4 k_t4)
 replace k_t4 := z6 k_t4 hO (R5 q5m)
 replace off0 := off0.step hO (io g0v)
 clear hO j0p
 refine o5 (fun W => (Own W y0k ((([] ++ (lb 32 U13)) ++ (lb 16 U8)) ++ (lb 32 U12)))) (fun W hS => trivial) q4a ?_
 have ln_ : ((([] ++ (lb 32 U13)) ++ (lb 16 U8)) ++ (lb 32 U12)).length = 80 := by simp only [List.length_append, g7, List.length_nil]
 obtain ⟨gz, cz, curz, ez, -, -⟩ := q8d q4a (by rw [ln_]; decide)
 rw [ln_] at ez
 refine b8 (v := .pointer (some ⟨gz, 0, none⟩)) rfl (by rfl) (fun W hS => by exact (j4f (n := 80) rfl (by show y0k = _; exact ez) Tryd.underlying45)) ?_
 (try simp only [Act.put, mA, mB, mC])
 refine b8 (v := .agg (q7 .u8 80 (j0 (U13 + 2 ^ 256 * (U8 + r6 * U12))))) rfl (by rfl) (fun W hS => by exact (q1b (vs := (q7 .u8 80 (j0 (U13 + 2 ^ 256 * (U8 + r6 * U12)))).toList) rfl rfl (j9q (hS) ez ln_ (by decide) (by rw [List.nil_append]; exact j0j bU13 qU8)) (by kernel_rfl) (by rw [Array.length_toList, y5]; kernel_rfl))) ?_
 (try simp only [Act.put, mA, mB, mC])
 refine t0 rfl ?_
 refine LpA ?_ k_t4 (k := .u8) (n := 80) (f := j0 (U13 + 2 ^ 256 * (U8 + r6 * U12)))
 intro W42 hO h_
 replace k_t4 : Blk W42 E9 (q7 .u8 80 (j0 (U13 + 2 ^ 256 * (U8 + r6 * U12)))) 45 := h_
 clear h_
 replace q4a := Own.off q4a hO (f1 y4z)
 replace off0 := off0.p hO w6
 clear hO
 refine o5 (fun W => (Own W y0k ((([] ++ (lb 32 U13)) ++ (lb 16 U8)) ++ (lb 32 U12)))) (fun W hS => hS) q4a ?_
 (refine b8 (v := ?_) rfl (by rfl) (fun W hS => ?_) ?_; rotate_left 1; (focus (go_simp; first | done | with_reducible rfl)))
 (try simp only [Act.put, mA, mB, mC])
 refine q1t ?_
 go_wp2
 rw [show q7 .u8 80 (j0 (U13 + 2 ^ 256 * (U8 + r6 * U12))) = q7 .u8 80 (j0 (vPr S h)) by rw [HU13.out, HU12.out, HU11.out, HU10.out, HU9.out, HU8.out, HU7.out, HU6.out, HU5.out, HU4.out, HU3.out, HU2.out, HU1.out]; rfl] at k_t4
 exact bodyPost_ret (u5 rfl rfl rfl k_t4 (by kernel_rfl) (by rw [y5]; kernel_rfl)) rfl ⟨rfl, off0.ext⟩
theorem j4r (hd : kn.d) (hb : kn.b) (hc : kn.c) (S : Nat) (v : Value) (L : List UInt8) (hL : L.length ≤ 1099511627776) (hv : vpt (kP S) L = none) :
  ∀ w, GA kn w → Sl w v L → Calls Tryd.prog 23 #[.agg (q7 .u8 32 (j0 S)), v] w fun e w' => h9 (.tuple #[.agg (q7 .u8 80 (j0 0)), .int .i64 15]) w w' e := by
 obtain ⟨U1, hU1⟩ := z8 (kN S)
 have bU1 : U1 < 2 ^ 256 := by rw [hU1]; exact y9v _
 have HU1 := Lib.hid hU1
 clear hU1
 obtain ⟨U2, hU2⟩ := z8 (kD S)
 have bU2 : U2 < 2 ^ 256 := by rw [hU2]; exact y9w _
 have HU2 := Lib.hid hU2
 clear hU2
 obtain ⟨U3, hU3⟩ := z8 (kP S)
 have bU3 : U3 < 2 ^ 256 := by rw [hU3]; exact y9x _
 have HU3 := Lib.hid hU3
 clear hU3
 have hv_ : vpt U3 L = none := by rw [HU3.out]; exact hv
 intro w hG hsl
 have y6 := hsl
 have off0 : Off [] w w := Off.refl _ _
 go_enter Tryd.func23, Tryd.ntmps23
 go_upto_region 0 with fail
 refine wp_region_lit ?_
 refine Ln ?_ (z := q7 .u8 32 (j0 S)) (t := 22)
 intro s7 W1 z7 hO h_
 replace y6 := Sl.off y6 hO f0
 replace off0 := off0.o hO
 have k_t2 := h_
 clear hO h_ z7
 refine Ln ?_ (z := q7 .u8 80 (j0 0)) (t := 45)
 intro E9 W2 c9 hO h_
 have w6 := i3 off0 c9
 replace k_t2 := k_t2.o hO
 replace y6 := Sl.off y6 hO f0
 replace off0 := off0.o hO
 have k_t4 := h_
 clear hO h_ c9
 refine Lw ?_ (v := .int .i64 0)
 refine q5 ?_
 go_upto_region 1 with fail
 refine wp_region_lit ?_
 refine M0 ?_ k_t2
 refine Lr ?_ (q1e hd hb HU1.out HU2.out HU3.out W2 (y7 hG off0.ext))
 intro W3 hO
 replace k_t4 := k_t4.o hO
 replace y6 := Sl.off y6 hO f0
 replace off0 := off0.o hO
 clear hO
 refine U0 ?_ (z := s3 0 0 0) (t := 25) (cells := s3 U1 U2 U3) (hi := by rw [i7]; kernel_rfl) (hs := by first | rw [i7, i7] | rw [i7] | kernel_rfl) (h1 := by exact q7b)
 intro q2b W5 e7 hO h_
 replace k_t4 := k_t4.o hO
 replace y6 := Sl.off y6 hO f0
 replace off0 := off0.o hO
 have k_t6 := h_
 clear hO h_ e7
 refine q5 ?_
 go_upto_region 2 with fail
 refine wp_region_lit ?_
 refine Lv ?_
 refine z0 (vs := (q7 .u8 32 (j0 U3)).toList) (by rfl) rfl rfl k_t6 (Y7 j9k) (by kernel_rfl) (by kernel_rfl) ?_
 (try simp only [Act.put, mA, mB, mC])
 refine Lv ?_
 refine Lr ?_ (y2u (kn := kn) hc hL hv_ v W5 (y7 hG off0.ext) y6)
 intro W6 hO
 replace k_t4 := k_t4.o hO
 replace off0 := off0.o hO
 clear hO
 refine Lv ?_
 refine Lv ?_
 refine Lw ?_ (v := .int .i64 15)
 refine U0 ?_ (z := p4 0 0 0 0) (t := 60) (cells := p4 0 0 0 0)
 intro q2c W8 u6 hO h_
 replace k_t4 := k_t4.o hO
 replace off0 := off0.o hO
 clear hO h_ u6
 refine Lw ?_ (v := .int .i64 15)
 refine q5 ?_
 go_upto_region 4 with fail
 refine wp_region_lit ?_
 refine Lw ?_ (v := .agg (q7 .u8 80 (j0 0))) (hv := by kernel_rfl)
 refine Lw ?_ (v := .int .i64 15)
 refine LpA ?_ k_t4 (k := .u8) (n := 80) (f := j0 0)
 intro W9 hO h_
 replace k_t4 : Blk W9 E9 (q7 .u8 80 (j0 0)) 45 := h_
 clear h_
 replace off0 := off0.p hO w6
 clear hO
 refine Lw ?_ (v := .int .i64 15)
 refine q5 ?_
 go_wp2
 exact bodyPost_ret (u5 rfl rfl rfl k_t4 (by kernel_rfl) (by rw [y5]; kernel_rfl)) rfl ⟨rfl, off0.ext⟩
end Go.Proofs.YtefpoollmbmkfaaDoor

namespace Go.Proofs.YtefpoollmbmkfaaDoor
set_option maxHeartbeats 2000000
set_option maxRecDepth 100000
open Go.RowKit
attribute [local irreducible] wpList V4
variable {kn : Kn}
open Sc (LL i6)
attribute [local irreducible] hs
theorem q8o : r6 < 2 ^ 256 := by decide
theorem j4s {C : Nat} (hC : C < r6) (v : Value) (w : World) (h : Sl w v (lb 16 C)) : Calls Tryd.prog 66 #[v] w fun e w' => h9 (.agg (q7 .u8 32 (j0 C))) w w' e := by
  have h2 := g0j v (lb 16 C) (g7 _ _) w h
  rw [y1w 16 C hC] at h2
  exact h2
theorem j0q {A B : Nat} (hA : A < r6) (hB : B < r6) (h : lb 16 A = lb 16 B) : A = B := by
  rw [← y1w 16 A hA, ← y1w 16 B hB, h]
theorem q4b {W : World} {o : Oper} {a : Act} {x y : Operand} {t : TypeId} {l m : List UInt8} {b : Bool} (hb : (!decide (l = m)) = b) (ho : o.op = .binOp .neq 9 x y t) (hx : a.eval x = str l) (hy : a.eval y = str m) : (execOp a.eval o).run Tryd.prog W = .ok (.value (.bool b)) W := by
  exact hb ▸ y3w ho hx hy
def chk (V P : Nat) (h : Pr) : Nat := ch V h (M6 (pG P)) (d5 (pm BP (pN P)) (pm (G4 (M6 V)) (pC P))) (d5 (pm h (pN P)) (pm (G4 (M6 (pG P))) (pC P)))

theorem j4t (hd : kn.d) (hb : kn.b) (hc : kn.c) {V P : Nat} (hV : V < 2 ^ 256) (hP : B80 P) (v : Value) (L : List UInt8) (hL : L.length ≤ 1099511627776) (hk1 : K0 V = false) :
  ∀ w, GA kn w → Sl w v L → Calls Tryd.prog 26 #[.agg (q7 .u8 32 (j0 V)), v, .agg (q7 .u8 80 (j0 P))] w fun e w' => h9 (.tuple #[.agg (q7 .u8 64 (j0 0)), .int .i64 15]) w w' e := by
 have kc := g4m (kn := kn) hc hV hk1
 intro w hG hsl
 have off0 : Off [] w w := Off.refl _ _
 go_enter Tryd.func26, Tryd.ntmps26
 go_upto_region 0 with fail
 refine wp_region_lit ?_
 refine Ln ?_ (z := q7 .u8 32 (j0 V)) (t := 22)
 intro l3 W1 d7 hO h_
 replace off0 := off0.o hO
 have k_t3 := h_
 clear hO h_ d7
 refine Ln ?_ (z := q7 .u8 80 (j0 P)) (t := 45)
 intro q2d W2 d6 hO h_
 replace k_t3 := k_t3.o hO
 replace off0 := off0.o hO
 clear hO h_ d6
 refine Ln ?_ (z := q7 .u8 64 (j0 0)) (t := 30)
 intro I0 W3 e7 hO h_
 have G6 := i3 off0 e7
 replace k_t3 := k_t3.o hO
 replace off0 := off0.o hO
 have k_t6 := h_
 clear hO h_ e7
 refine Lw ?_ (v := .int .i64 0)
 refine q5 ?_
 go_upto_region 1 with fail
 refine wp_region_lit ?_
 refine M0 ?_ k_t3
 refine Lr ?_ (kc W3 (y7 hG off0.ext))
 intro W4 hO
 replace k_t6 := k_t6.o hO
 replace off0 := off0.o hO
 clear hO
 refine Lv ?_
 refine Lv ?_
 refine Lw ?_ (v := .int .i64 15)
 refine U0 ?_ (z := p4 0 0 0 0) (t := 60) (cells := p4 0 0 0 0)
 intro q1z W6 v6 hO h_
 replace k_t6 := k_t6.o hO
 replace off0 := off0.o hO
 clear hO h_ v6
 refine Lw ?_ (v := .int .i64 15)
 refine q5 ?_
 go_upto_region 3 with fail
 refine wp_region_lit ?_
 refine Lw ?_ (v := .agg (q7 .u8 64 (j0 0))) (hv := by kernel_rfl)
 refine Lw ?_ (v := .int .i64 15)
 refine LpA ?_ k_t6 (k := .u8) (n := 64) (f := j0 0)
 intro W7 hO h_
 replace k_t6 : Blk W7 I0 (q7 .u8 64 (j0 0)) 30 := h_
 clear h_
 replace off0 := off0.p hO G6
 clear hO
 refine Lw ?_ (v := .int .i64 15)
 refine q5 ?_
 go_wp2
 exact bodyPost_ret (u5 rfl rfl rfl k_t6 (by kernel_rfl) (by rw [y5]; kernel_rfl)) rfl ⟨rfl, off0.ext⟩
theorem j4u (hd : kn.d) (hb : kn.b) (hc : kn.c) {V P : Nat} (hV : V < 2 ^ 256) (hP : B80 P) (v : Value) (L : List UInt8) (hL : L.length ≤ 1099511627776) (hk1 : K0 V = true) (hk2 : pm (M6 V) 8 = p0) :
  ∀ w, GA kn w → Sl w v L → Calls Tryd.prog 26 #[.agg (q7 .u8 32 (j0 V)), v, .agg (q7 .u8 80 (j0 P))] w fun e w' => h9 (.tuple #[.agg (q7 .u8 64 (j0 0)), .int .i64 15]) w w' e := by
 obtain ⟨kx, ky, kt, kr, kc⟩ := g4n (kn := kn) hc hV hk1 hk2
 intro w hG hsl
 have off0 : Off [] w w := Off.refl _ _
 go_enter Tryd.func26, Tryd.ntmps26
 go_upto_region 0 with fail
 refine wp_region_lit ?_
 refine Ln ?_ (z := q7 .u8 32 (j0 V)) (t := 22)
 intro l3 W1 d7 hO h_
 replace off0 := off0.o hO
 have k_t3 := h_
 clear hO h_ d7
 refine Ln ?_ (z := q7 .u8 80 (j0 P)) (t := 45)
 intro q2d W2 d6 hO h_
 replace k_t3 := k_t3.o hO
 replace off0 := off0.o hO
 clear hO h_ d6
 refine Ln ?_ (z := q7 .u8 64 (j0 0)) (t := 30)
 intro I0 W3 e7 hO h_
 have G6 := i3 off0 e7
 replace k_t3 := k_t3.o hO
 replace off0 := off0.o hO
 have k_t6 := h_
 clear hO h_ e7
 refine Lw ?_ (v := .int .i64 0)
 refine q5 ?_
 go_upto_region 1 with fail
 refine wp_region_lit ?_
 refine M0 ?_ k_t3
 refine Lr ?_ (kc W3 (y7 hG off0.ext))
 intro W4 hO
 replace k_t6 := k_t6.o hO
 replace off0 := off0.o hO
 clear hO
 refine Lv ?_
 refine Lv ?_
 refine Lw ?_ (v := .int .i64 15)
 refine U0 ?_ (z := p4 0 0 0 0) (t := 60) (cells := p4 kx ky 1 kt)
 intro q1z W6 v6 hO h_
 replace k_t6 := k_t6.o hO
 replace off0 := off0.o hO
 clear hO h_ v6
 refine Lw ?_ (v := .int .i64 15)
 refine q5 ?_
 go_upto_region 3 with fail
 refine wp_region_lit ?_
 refine Lw ?_ (v := .agg (q7 .u8 64 (j0 0))) (hv := by kernel_rfl)
 refine Lw ?_ (v := .int .i64 15)
 refine LpA ?_ k_t6 (k := .u8) (n := 64) (f := j0 0)
 intro W7 hO h_
 replace k_t6 : Blk W7 I0 (q7 .u8 64 (j0 0)) 30 := h_
 clear h_
 replace off0 := off0.p hO G6
 clear hO
 refine Lw ?_ (v := .int .i64 15)
 refine q5 ?_
 go_wp2
 exact bodyPost_ret (u5 rfl rfl rfl k_t6 (by kernel_rfl) (by rw [y5]; kernel_rfl)) rfl ⟨rfl, off0.ext⟩
theorem j0r (hd : kn.d) (hb : kn.b) (hc : kn.c) {V P : Nat} (hV : V < 2 ^ 256) (hP : B80 P) (v : Value) (L : List UInt8) (hL : L.length ≤ 1099511627776) (hk1 : K0 V = true) (hk2 : ¬ pm (M6 V) 8 = p0) (hok : K0 (pG P) = false) (h1 : LL ≤ pN P) :
  ∀ w, GA kn w → Sl w v L → Calls Tryd.prog 26 #[.agg (q7 .u8 32 (j0 V)), v, .agg (q7 .u8 80 (j0 P))] w fun e w' => h9 (.tuple #[.agg (q7 .u8 64 (j0 0)), .int .i64 17]) w w' e := by
 obtain ⟨kx, ky, kt, kr, kc⟩ := q8l (kn := kn) hc hV hk1 hk2
 have pc := j4n (kn := kn) hc hP hok h1
 intro w hG hsl
 have off0 : Off [] w w := Off.refl _ _
 go_enter Tryd.func26, Tryd.ntmps26
 go_upto_region 0 with fail
 refine wp_region_lit ?_
 refine Ln ?_ (z := q7 .u8 32 (j0 V)) (t := 22)
 intro l3 W1 d7 hO h_
 replace off0 := off0.o hO
 have k_t3 := h_
 clear hO h_ d7
 refine Ln ?_ (z := q7 .u8 80 (j0 P)) (t := 45)
 intro q2d W2 d6 hO h_
 replace k_t3 := k_t3.o hO
 replace off0 := off0.o hO
 have k_t5 := h_
 clear hO h_ d6
 refine Ln ?_ (z := q7 .u8 64 (j0 0)) (t := 30)
 intro I0 W3 e7 hO h_
 have G6 := i3 off0 e7
 replace k_t3 := k_t3.o hO
 replace k_t5 := k_t5.o hO
 replace off0 := off0.o hO
 have k_t6 := h_
 clear hO h_ e7
 refine Lw ?_ (v := .int .i64 0)
 refine q5 ?_
 go_upto_region 1 with fail
 refine wp_region_lit ?_
 refine M0 ?_ k_t3
 refine Lr ?_ (kc W3 (y7 hG off0.ext))
 intro W4 hO
 replace k_t5 := k_t5.o hO
 replace k_t6 := k_t6.o hO
 replace off0 := off0.o hO
 clear hO
 refine Lv ?_
 refine Lv ?_
 refine Lw ?_ (v := .int .i64 0)
 refine U0 ?_ (z := p4 0 0 0 0) (t := 60) (cells := p4 kx ky 1 kt)
 intro q1z W6 v6 hO h_
 replace k_t5 := k_t5.o hO
 replace k_t6 := k_t6.o hO
 replace off0 := off0.o hO
 clear hO h_ v6
 refine Lw ?_ (v := .int .i64 0)
 refine q5 ?_
 go_upto_region 4 with fail
 refine wp_region_lit ?_
 refine M0 ?_ k_t5
 refine Lr ?_ (pc W6 (y7 hG off0.ext))
 intro W7 hO
 replace k_t6 := k_t6.o hO
 replace off0 := off0.o hO
 clear hO
 refine Lv ?_
 refine Lv ?_
 refine Lv ?_
 refine Lw ?_ (v := .int .i64 17)
 refine Ln ?_ (z := p4 0 0 0 0) (t := 60)
 intro O6 W8 i4 hO h_
 have nq_t6_t10 := bn k_t6 i4
 have H4 := i3 off0 i4
 replace k_t6 := k_t6.o hO
 replace off0 := off0.o hO
 have k_t10 := h_
 clear hO h_ i4
 refine Ln ?_ (z := c4 0) (t := 42)
 intro q8p W9 x5 hO h_
 have n5 := bn k_t6 x5
 have nq_t10_t11 := bn k_t10 x5
 have o8 := i3 off0 x5
 replace k_t6 := k_t6.o hO
 replace k_t10 := k_t10.o hO
 replace off0 := off0.o hO
 have k_t11 := h_
 clear hO h_ x5
 refine Lp ?_ k_t10 (cells := p4 0 0 0 0)
 intro W10 hO h_
 clear h_
 replace k_t6 := k_t6.p hO nq_t6_t10
 replace k_t11 := k_t11.p hO nq_t10_t11.symm
 replace off0 := off0.p hO H4
 clear hO
 refine Lp ?_ k_t11 (cells := c4 0)
 intro W11 hO h_
 clear h_
 replace k_t6 := k_t6.p hO n5
 replace off0 := off0.p hO o8
 clear hO
 refine Lw ?_ (v := .int .i64 17)
 refine q5 ?_
 go_upto_region 6 with fail
 refine wp_region_lit ?_
 refine Lw ?_ (v := .agg (q7 .u8 64 (j0 0))) (hv := by kernel_rfl)
 refine Lw ?_ (v := .int .i64 17)
 refine LpA ?_ k_t6 (k := .u8) (n := 64) (f := j0 0)
 intro W12 hO h_
 replace k_t6 : Blk W12 I0 (q7 .u8 64 (j0 0)) 30 := h_
 clear h_
 replace off0 := off0.p hO G6
 clear hO
 refine Lw ?_ (v := .int .i64 17)
 refine q5 ?_
 go_wp2
 exact bodyPost_ret (u5 rfl rfl rfl k_t6 (by kernel_rfl) (by rw [y5]; kernel_rfl)) rfl ⟨rfl, off0.ext⟩
theorem j0s (hd : kn.d) (hb : kn.b) (hc : kn.c) {V P : Nat} (hV : V < 2 ^ 256) (hP : B80 P) (v : Value) (L : List UInt8) (hL : L.length ≤ 1099511627776) (hk1 : K0 V = true) (hk2 : ¬ pm (M6 V) 8 = p0) (hok : K0 (pG P) = false) (h1 : pN P < LL) :
  ∀ w, GA kn w → Sl w v L → Calls Tryd.prog 26 #[.agg (q7 .u8 32 (j0 V)), v, .agg (q7 .u8 80 (j0 P))] w fun e w' => h9 (.tuple #[.agg (q7 .u8 64 (j0 0)), .int .i64 17]) w w' e := by
 obtain ⟨kx, ky, kt, kr, kc⟩ := q8l (kn := kn) hc hV hk1 hk2
 have pc := j4o (kn := kn) hc hP hok h1
 intro w hG hsl
 have off0 : Off [] w w := Off.refl _ _
 go_enter Tryd.func26, Tryd.ntmps26
 go_upto_region 0 with fail
 refine wp_region_lit ?_
 refine Ln ?_ (z := q7 .u8 32 (j0 V)) (t := 22)
 intro l3 W1 d7 hO h_
 replace off0 := off0.o hO
 have k_t3 := h_
 clear hO h_ d7
 refine Ln ?_ (z := q7 .u8 80 (j0 P)) (t := 45)
 intro q2d W2 d6 hO h_
 replace k_t3 := k_t3.o hO
 replace off0 := off0.o hO
 have k_t5 := h_
 clear hO h_ d6
 refine Ln ?_ (z := q7 .u8 64 (j0 0)) (t := 30)
 intro I0 W3 e7 hO h_
 have G6 := i3 off0 e7
 replace k_t3 := k_t3.o hO
 replace k_t5 := k_t5.o hO
 replace off0 := off0.o hO
 have k_t6 := h_
 clear hO h_ e7
 refine Lw ?_ (v := .int .i64 0)
 refine q5 ?_
 go_upto_region 1 with fail
 refine wp_region_lit ?_
 refine M0 ?_ k_t3
 refine Lr ?_ (kc W3 (y7 hG off0.ext))
 intro W4 hO
 replace k_t5 := k_t5.o hO
 replace k_t6 := k_t6.o hO
 replace off0 := off0.o hO
 clear hO
 refine Lv ?_
 refine Lv ?_
 refine Lw ?_ (v := .int .i64 0)
 refine U0 ?_ (z := p4 0 0 0 0) (t := 60) (cells := p4 kx ky 1 kt)
 intro q1z W6 v6 hO h_
 replace k_t5 := k_t5.o hO
 replace k_t6 := k_t6.o hO
 replace off0 := off0.o hO
 clear hO h_ v6
 refine Lw ?_ (v := .int .i64 0)
 refine q5 ?_
 go_upto_region 4 with fail
 refine wp_region_lit ?_
 refine M0 ?_ k_t5
 refine Lr ?_ (pc W6 (y7 hG off0.ext))
 intro W7 hO
 replace k_t6 := k_t6.o hO
 replace off0 := off0.o hO
 clear hO
 refine Lv ?_
 refine Lv ?_
 refine Lv ?_
 refine Lw ?_ (v := .int .i64 17)
 refine Ln ?_ (z := p4 0 0 0 0) (t := 60)
 intro O6 W8 i4 hO h_
 have nq_t6_t10 := bn k_t6 i4
 have H4 := i3 off0 i4
 replace k_t6 := k_t6.o hO
 replace off0 := off0.o hO
 have k_t10 := h_
 clear hO h_ i4
 refine Ln ?_ (z := c4 0) (t := 42)
 intro q8p W9 x5 hO h_
 have n5 := bn k_t6 x5
 have nq_t10_t11 := bn k_t10 x5
 have o8 := i3 off0 x5
 replace k_t6 := k_t6.o hO
 replace k_t10 := k_t10.o hO
 replace off0 := off0.o hO
 have k_t11 := h_
 clear hO h_ x5
 refine Lp ?_ k_t10 (cells := p4 0 0 0 0)
 intro W10 hO h_
 clear h_
 replace k_t6 := k_t6.p hO nq_t6_t10
 replace k_t11 := k_t11.p hO nq_t10_t11.symm
 replace off0 := off0.p hO H4
 clear hO
 refine Lp ?_ k_t11 (cells := c4 0)
 intro W11 hO h_
 clear h_
 replace k_t6 := k_t6.p hO n5
 replace off0 := off0.p hO o8
 clear hO
 refine Lw ?_ (v := .int .i64 17)
 refine q5 ?_
 go_upto_region 6 with fail
 refine wp_region_lit ?_
 refine Lw ?_ (v := .agg (q7 .u8 64 (j0 0))) (hv := by kernel_rfl)
 refine Lw ?_ (v := .int .i64 17)
 refine LpA ?_ k_t6 (k := .u8) (n := 64) (f := j0 0)
 intro W12 hO h_
 replace k_t6 : Blk W12 I0 (q7 .u8 64 (j0 0)) 30 := h_
 clear h_
 replace off0 := off0.p hO G6
 clear hO
 refine Lw ?_ (v := .int .i64 17)
 refine q5 ?_
 go_wp2
 exact bodyPost_ret (u5 rfl rfl rfl k_t6 (by kernel_rfl) (by rw [y5]; kernel_rfl)) rfl ⟨rfl, off0.ext⟩
theorem j0t (hd : kn.d) (hb : kn.b) (hc : kn.c) {V P : Nat} (hV : V < 2 ^ 256) (hP : B80 P) (v : Value) (L : List UInt8) (hL : L.length ≤ 1099511627776) (hk1 : K0 V = true) (hk2 : ¬ pm (M6 V) 8 = p0) (hok : K0 (pG P) = true) (h1 : LL ≤ pN P) :
  ∀ w, GA kn w → Sl w v L → Calls Tryd.prog 26 #[.agg (q7 .u8 32 (j0 V)), v, .agg (q7 .u8 80 (j0 P))] w fun e w' => h9 (.tuple #[.agg (q7 .u8 64 (j0 0)), .int .i64 17]) w w' e := by
 obtain ⟨kx, ky, kt, kr, kc⟩ := q8l (kn := kn) hc hV hk1 hk2
 have pc := j4p (kn := kn) hc hP hok h1
 intro w hG hsl
 have off0 : Off [] w w := Off.refl _ _
 go_enter Tryd.func26, Tryd.ntmps26
 go_upto_region 0 with fail
 refine wp_region_lit ?_
 refine Ln ?_ (z := q7 .u8 32 (j0 V)) (t := 22)
 intro l3 W1 d7 hO h_
 replace off0 := off0.o hO
 have k_t3 := h_
 clear hO h_ d7
 refine Ln ?_ (z := q7 .u8 80 (j0 P)) (t := 45)
 intro q2d W2 d6 hO h_
 replace k_t3 := k_t3.o hO
 replace off0 := off0.o hO
 have k_t5 := h_
 clear hO h_ d6
 refine Ln ?_ (z := q7 .u8 64 (j0 0)) (t := 30)
 intro I0 W3 e7 hO h_
 have G6 := i3 off0 e7
 replace k_t3 := k_t3.o hO
 replace k_t5 := k_t5.o hO
 replace off0 := off0.o hO
 have k_t6 := h_
 clear hO h_ e7
 refine Lw ?_ (v := .int .i64 0)
 refine q5 ?_
 go_upto_region 1 with fail
 refine wp_region_lit ?_
 refine M0 ?_ k_t3
 refine Lr ?_ (kc W3 (y7 hG off0.ext))
 intro W4 hO
 replace k_t5 := k_t5.o hO
 replace k_t6 := k_t6.o hO
 replace off0 := off0.o hO
 clear hO
 refine Lv ?_
 refine Lv ?_
 refine Lw ?_ (v := .int .i64 0)
 refine U0 ?_ (z := p4 0 0 0 0) (t := 60) (cells := p4 kx ky 1 kt)
 intro q1z W6 v6 hO h_
 replace k_t5 := k_t5.o hO
 replace k_t6 := k_t6.o hO
 replace off0 := off0.o hO
 clear hO h_ v6
 refine Lw ?_ (v := .int .i64 0)
 refine q5 ?_
 go_upto_region 4 with fail
 refine wp_region_lit ?_
 refine M0 ?_ k_t5
 refine Lr ?_ (pc W6 (y7 hG off0.ext))
 intro W7 hO
 replace k_t6 := k_t6.o hO
 replace off0 := off0.o hO
 clear hO
 refine Lv ?_
 refine Lv ?_
 refine Lv ?_
 refine Lw ?_ (v := .int .i64 17)
 refine Ln ?_ (z := p4 0 0 0 0) (t := 60)
 intro O6 W8 i4 hO h_
 have nq_t6_t10 := bn k_t6 i4
 have H4 := i3 off0 i4
 replace k_t6 := k_t6.o hO
 replace off0 := off0.o hO
 have k_t10 := h_
 clear hO h_ i4
 refine Ln ?_ (z := c4 0) (t := 42)
 intro q8p W9 x5 hO h_
 have n5 := bn k_t6 x5
 have nq_t10_t11 := bn k_t10 x5
 have o8 := i3 off0 x5
 replace k_t6 := k_t6.o hO
 replace k_t10 := k_t10.o hO
 replace off0 := off0.o hO
 have k_t11 := h_
 clear hO h_ x5
 refine Lp ?_ k_t10 (cells := p4 0 0 0 0)
 intro W10 hO h_
 clear h_
 replace k_t6 := k_t6.p hO nq_t6_t10
 replace k_t11 := k_t11.p hO nq_t10_t11.symm
 replace off0 := off0.p hO H4
 clear hO
 refine Lp ?_ k_t11 (cells := c4 0)
 intro W11 hO h_
 clear h_
 replace k_t6 := k_t6.p hO n5
 replace off0 := off0.p hO o8
 clear hO
 refine Lw ?_ (v := .int .i64 17)
 refine q5 ?_
 go_upto_region 6 with fail
 refine wp_region_lit ?_
 refine Lw ?_ (v := .agg (q7 .u8 64 (j0 0))) (hv := by kernel_rfl)
 refine Lw ?_ (v := .int .i64 17)
 refine LpA ?_ k_t6 (k := .u8) (n := 64) (f := j0 0)
 intro W12 hO h_
 replace k_t6 : Blk W12 I0 (q7 .u8 64 (j0 0)) 30 := h_
 clear h_
 replace off0 := off0.p hO G6
 clear hO
 refine Lw ?_ (v := .int .i64 17)
 refine q5 ?_
 go_wp2
 exact bodyPost_ret (u5 rfl rfl rfl k_t6 (by kernel_rfl) (by rw [y5]; kernel_rfl)) rfl ⟨rfl, off0.ext⟩
theorem j4v (hd : kn.d) (hb : kn.b) (hc : kn.c) {V P : Nat} (hV : V < 2 ^ 256) (hP : B80 P) (v : Value) (L : List UInt8) (hL : L.length ≤ 1099511627776) (hk1 : K0 V = true) (hk2 : ¬ pm (M6 V) 8 = p0) (hok : K0 (pG P) = true) (h1 : pN P < LL) (hv : vpt V L = none) :
  ∀ w, GA kn w → Sl w v L → Calls Tryd.prog 26 #[.agg (q7 .u8 32 (j0 V)), v, .agg (q7 .u8 80 (j0 P))] w fun e w' => h9 (.tuple #[.agg (q7 .u8 64 (j0 0)), .int .i64 15]) w w' e := by
 obtain ⟨kx, ky, kt, kr, kc⟩ := q8l (kn := kn) hc hV hk1 hk2
 obtain ⟨gx, gy, gt, gr, pc⟩ := y2s (kn := kn) hc hP hok h1
 intro w hG hsl
 have y6 := hsl
 have off0 : Off [] w w := Off.refl _ _
 go_enter Tryd.func26, Tryd.ntmps26
 go_upto_region 0 with fail
 refine wp_region_lit ?_
 refine Ln ?_ (z := q7 .u8 32 (j0 V)) (t := 22)
 intro l3 W1 d7 hO h_
 replace y6 := Sl.off y6 hO f0
 replace off0 := off0.o hO
 have k_t3 := h_
 clear hO h_ d7
 refine Ln ?_ (z := q7 .u8 80 (j0 P)) (t := 45)
 intro q2d W2 d6 hO h_
 replace k_t3 := k_t3.o hO
 replace y6 := Sl.off y6 hO f0
 replace off0 := off0.o hO
 have k_t5 := h_
 clear hO h_ d6
 refine Ln ?_ (z := q7 .u8 64 (j0 0)) (t := 30)
 intro I0 W3 e7 hO h_
 have G6 := i3 off0 e7
 replace k_t3 := k_t3.o hO
 replace k_t5 := k_t5.o hO
 replace y6 := Sl.off y6 hO f0
 replace off0 := off0.o hO
 have k_t6 := h_
 clear hO h_ e7
 refine Lw ?_ (v := .int .i64 0)
 refine q5 ?_
 go_upto_region 1 with fail
 refine wp_region_lit ?_
 refine M0 ?_ k_t3
 refine Lr ?_ (kc W3 (y7 hG off0.ext))
 intro W4 hO
 replace k_t3 := k_t3.o hO
 replace k_t5 := k_t5.o hO
 replace k_t6 := k_t6.o hO
 replace y6 := Sl.off y6 hO f0
 replace off0 := off0.o hO
 clear hO
 refine Lv ?_
 refine Lv ?_
 refine Lw ?_ (v := .int .i64 0)
 refine U0 ?_ (z := p4 0 0 0 0) (t := 60) (cells := p4 kx ky 1 kt)
 intro q1z W6 v6 hO h_
 replace k_t3 := k_t3.o hO
 replace k_t5 := k_t5.o hO
 replace k_t6 := k_t6.o hO
 replace y6 := Sl.off y6 hO f0
 replace off0 := off0.o hO
 clear hO h_ v6
 refine Lw ?_ (v := .int .i64 0)
 refine q5 ?_
 go_upto_region 4 with fail
 refine wp_region_lit ?_
 refine M0 ?_ k_t5
 refine Lr ?_ (pc W6 (y7 hG off0.ext))
 intro W7 hO
 replace k_t3 := k_t3.o hO
 replace k_t6 := k_t6.o hO
 replace y6 := Sl.off y6 hO f0
 replace off0 := off0.o hO
 clear hO
 refine Lv ?_
 refine Lv ?_
 refine Lv ?_
 refine Lw ?_ (v := .int .i64 0)
 refine Ln ?_ (z := p4 0 0 0 0) (t := 60)
 intro O6 W8 i4 hO h_
 have q1k := bn k_t3 i4
 have nq_t6_t10 := bn k_t6 i4
 have q4c := n8 (Sl.lt y6) i4
 have H4 := i3 off0 i4
 replace k_t3 := k_t3.o hO
 replace k_t6 := k_t6.o hO
 replace y6 := Sl.off y6 hO f0
 replace off0 := off0.o hO
 have k_t10 := h_
 clear hO h_ i4
 refine Ln ?_ (z := c4 0) (t := 42)
 intro q8p W9 x5 hO h_
 have q1l := bn k_t3 x5
 have n5 := bn k_t6 x5
 have nq_t10_t11 := bn k_t10 x5
 have G3 := n8 (Sl.lt y6) x5
 have o8 := i3 off0 x5
 replace k_t3 := k_t3.o hO
 replace k_t6 := k_t6.o hO
 replace k_t10 := k_t10.o hO
 replace y6 := Sl.off y6 hO f0
 replace off0 := off0.o hO
 have k_t11 := h_
 clear hO h_ x5
 refine Lp ?_ k_t10 (cells := p4 gx gy 1 gt)
 intro W10 hO h_
 clear h_
 replace k_t3 := k_t3.p hO q1k
 replace k_t6 := k_t6.p hO nq_t6_t10
 replace k_t11 := k_t11.p hO nq_t10_t11.symm
 replace y6 := Sl.off y6 hO (f1 q4c)
 replace off0 := off0.p hO H4
 clear hO
 refine Lp ?_ k_t11 (cells := c4 (pN P))
 intro W11 hO h_
 clear h_
 replace k_t3 := k_t3.p hO q1l
 replace k_t6 := k_t6.p hO n5
 replace y6 := Sl.off y6 hO (f1 G3)
 replace off0 := off0.p hO o8
 clear hO
 refine Lw ?_ (v := .int .i64 0)
 refine q5 ?_
 go_upto_region 7 with fail
 refine wp_region_lit ?_
 refine M0 ?_ k_t3
 refine Lv ?_
 refine Lr ?_ (y2u (kn := kn) hc hL hv v W11 (y7 hG off0.ext) y6)
 intro W12 hO
 replace k_t6 := k_t6.o hO
 replace off0 := off0.o hO
 clear hO
 refine Lv ?_
 refine Lv ?_
 refine Lw ?_ (v := .int .i64 15)
 refine U0 ?_ (z := p4 0 0 0 0) (t := 60) (cells := p4 0 0 0 0)
 intro P0 W14 S3 hO h_
 replace k_t6 := k_t6.o hO
 replace off0 := off0.o hO
 clear hO h_ S3
 refine Lw ?_ (v := .int .i64 15)
 refine q5 ?_
 go_upto_region 9 with fail
 refine wp_region_lit ?_
 refine Lw ?_ (v := .agg (q7 .u8 64 (j0 0))) (hv := by kernel_rfl)
 refine Lw ?_ (v := .int .i64 15)
 refine LpA ?_ k_t6 (k := .u8) (n := 64) (f := j0 0)
 intro W15 hO h_
 replace k_t6 : Blk W15 I0 (q7 .u8 64 (j0 0)) 30 := h_
 clear h_
 replace off0 := off0.p hO G6
 clear hO
 refine Lw ?_ (v := .int .i64 15)
 refine q5 ?_
 go_wp2
 exact bodyPost_ret (u5 rfl rfl rfl k_t6 (by kernel_rfl) (by rw [y5]; kernel_rfl)) rfl ⟨rfl, off0.ext⟩
theorem y2v (hd : kn.d) (hb : kn.b) (hc : kn.c) {V P : Nat} (hV : V < 2 ^ 256) (hP : B80 P) (v : Value) (L : List UInt8) (hL : L.length ≤ 1099511627776) (hk1 : K0 V = true) (hk2 : ¬ pm (M6 V) 8 = p0) (hok : K0 (pG P) = true) (h1 : pN P < LL) {c0 : Nat} (hv : vpt V L = some c0) {h : Pr} (hh : h = o6 V L c0) {r k : Nat} (hqq : ((chk V P h = pC P → r = q8m P ∧ k = 0) ∧ (¬ chk V P h = pC P → r = 0 ∧ k = 17))) :
  ∀ w, GA kn w → Sl w v L → Calls Tryd.prog 26 #[.agg (q7 .u8 32 (j0 V)), v, .agg (q7 .u8 80 (j0 P))] w fun e w' => h9 (.tuple #[.agg (q7 .u8 64 (j0 r)), .int .i64 (k : Int)]) w w' e := by
 obtain ⟨kx, ky, kt, kr, kc⟩ := q8l (kn := kn) hc hV hk1 hk2
 obtain ⟨gx, gy, gt, gr, pc⟩ := y2s (kn := kn) hc hP hok h1
 obtain ⟨hx, hy, hz, ht, hr, hcl⟩ := y2t (kn := kn) hc hL hv hh
 obtain ⟨x1, y2, z3, t4, r5, c6⟩ := q6d hb
 obtain ⟨x7, y8, z9, t10, r11, c12⟩ := K4 hd r5.rw (N := (pN P)) (Nat.lt_trans h1 Q0)
 obtain ⟨x13, y14, z15, t16, r17, c18⟩ := y6t (kn := kn) kr.rw
 obtain ⟨x19, y20, z21, t22, r23, c24⟩ := K4 hd r17.rw (N := (pC P)) (Nat.lt_trans (y2r P) q8o)
 obtain ⟨x25, y26, z27, t28, r29, c30⟩ := q9b hd r11.rw r23.rw
 obtain ⟨x31, y32, z33, t34, r35, c36⟩ := K4 hd hr.rw (N := (pN P)) (Nat.lt_trans h1 Q0)
 obtain ⟨x37, y38, z39, t40, r41, c42⟩ := y6t (kn := kn) gr.rw
 obtain ⟨x43, y44, z45, t46, r47, c48⟩ := K4 hd r41.rw (N := (pC P)) (Nat.lt_trans (y2r P) q8o)
 obtain ⟨x49, y50, z51, t52, r53, c54⟩ := q9b hd r35.rw r47.rw
 obtain ⟨U1, hU1⟩ := z8 (chH V h (M6 (pG P)) (d5 (pm BP (pN P)) (pm (G4 (M6 V)) (pC P))) (d5 (pm h (pN P)) (pm (G4 (M6 (pG P))) (pC P))))
 have HU1 := Lib.hid hU1
 clear hU1
 obtain ⟨U2, hU2⟩ := z8 (U1 % r6)
 have qU2 : U2 < r6 := by rw [hU2]; exact Nat.mod_lt _ (by decide)
 have HU2 := Lib.hid hU2
 clear hU2
 obtain ⟨U3, hU3⟩ := z8 (q8m P)
 have HU3 := Lib.hid hU3
 clear hU3
 have HQ := Lib.hid hqq
 clear hqq
 intro w hG hsl
 have y6 := hsl
 have off0 : Off [] w w := Off.refl _ _
 go_enter Tryd.func26, Tryd.ntmps26
 go_upto_region 0 with fail
 refine wp_region_lit ?_
 refine Ln ?_ (z := q7 .u8 32 (j0 V)) (t := 22)
 intro l3 W1 d7 hO h_
 replace y6 := Sl.off y6 hO f0
 replace off0 := off0.o hO
 have k_t3 := h_
 clear hO h_ d7
 refine Ln ?_ (z := q7 .u8 80 (j0 P)) (t := 45)
 intro q2d W2 d6 hO h_
 replace k_t3 := k_t3.o hO
 replace y6 := Sl.off y6 hO f0
 replace off0 := off0.o hO
 have k_t5 := h_
 clear hO h_ d6
 refine Ln ?_ (z := q7 .u8 64 (j0 0)) (t := 30)
 intro I0 W3 e7 hO h_
 have q3a := bn k_t3 e7
 have I9 := bn k_t5 e7
 have G6 := i3 off0 e7
 replace k_t3 := k_t3.o hO
 replace k_t5 := k_t5.o hO
 replace y6 := Sl.off y6 hO f0
 replace off0 := off0.o hO
 have k_t6 := h_
 clear hO h_ e7
 refine Lw ?_ (v := .int .i64 0)
 refine q5 ?_
 go_upto_region 1 with fail
 refine wp_region_lit ?_
 refine M0 ?_ k_t3
 refine Lr ?_ (kc W3 (y7 hG off0.ext))
 intro W4 hO
 replace k_t3 := k_t3.o hO
 replace k_t5 := k_t5.o hO
 replace k_t6 := k_t6.o hO
 replace y6 := Sl.off y6 hO f0
 replace off0 := off0.o hO
 clear hO
 refine Lv ?_
 refine Lv ?_
 refine Lw ?_ (v := .int .i64 0)
 refine U0 ?_ (z := p4 0 0 0 0) (t := 60) (cells := p4 kx ky 1 kt)
 intro q1z W6 v6 hO h_
 replace k_t3 := k_t3.o hO
 replace k_t5 := k_t5.o hO
 replace k_t6 := k_t6.o hO
 replace y6 := Sl.off y6 hO f0
 replace off0 := off0.o hO
 have k_t8 := h_
 clear hO h_ v6
 refine Lw ?_ (v := .int .i64 0)
 refine q5 ?_
 go_upto_region 4 with fail
 refine wp_region_lit ?_
 refine M0 ?_ k_t5
 refine Lr ?_ (pc W6 (y7 hG off0.ext))
 intro W7 hO
 replace k_t3 := k_t3.o hO
 replace k_t5 := k_t5.o hO
 replace k_t6 := k_t6.o hO
 replace k_t8 := k_t8.o hO
 replace y6 := Sl.off y6 hO f0
 replace off0 := off0.o hO
 clear hO
 refine Lv ?_
 refine Lv ?_
 refine Lv ?_
 refine Lw ?_ (v := .int .i64 0)
 refine Ln ?_ (z := p4 0 0 0 0) (t := 60)
 intro O6 W8 i4 hO h_
 have q1k := bn k_t3 i4
 have y5a := bn k_t5 i4
 have nq_t6_t10 := bn k_t6 i4
 have y5b := bn k_t8 i4
 have q4c := n8 (Sl.lt y6) i4
 have H4 := i3 off0 i4
 replace k_t3 := k_t3.o hO
 replace k_t5 := k_t5.o hO
 replace k_t6 := k_t6.o hO
 replace k_t8 := k_t8.o hO
 replace y6 := Sl.off y6 hO f0
 replace off0 := off0.o hO
 have k_t10 := h_
 clear hO h_ i4
 refine Ln ?_ (z := c4 0) (t := 42)
 intro q8p W9 x5 hO h_
 have q1l := bn k_t3 x5
 have y5c := bn k_t5 x5
 have n5 := bn k_t6 x5
 have y5d := bn k_t8 x5
 have nq_t10_t11 := bn k_t10 x5
 have G3 := n8 (Sl.lt y6) x5
 have o8 := i3 off0 x5
 replace k_t3 := k_t3.o hO
 replace k_t5 := k_t5.o hO
 replace k_t6 := k_t6.o hO
 replace k_t8 := k_t8.o hO
 replace k_t10 := k_t10.o hO
 replace y6 := Sl.off y6 hO f0
 replace off0 := off0.o hO
 have k_t11 := h_
 clear hO h_ x5
 refine Lp ?_ k_t10 (cells := p4 gx gy 1 gt)
 intro W10 hO h_
 replace k_t10 : Blk W10 O6 (p4 gx gy 1 gt) 60 := h_
 clear h_
 replace k_t3 := k_t3.p hO q1k
 replace k_t5 := k_t5.p hO y5a
 replace k_t6 := k_t6.p hO nq_t6_t10
 replace k_t8 := k_t8.p hO y5b
 replace k_t11 := k_t11.p hO nq_t10_t11.symm
 replace y6 := Sl.off y6 hO (f1 q4c)
 replace off0 := off0.p hO H4
 clear hO
 refine Lp ?_ k_t11 (cells := c4 (pN P))
 intro W11 hO h_
 replace k_t11 : Blk W11 q8p (c4 (pN P)) 42 := h_
 clear h_
 replace k_t3 := k_t3.p hO q1l
 replace k_t5 := k_t5.p hO y5c
 replace k_t6 := k_t6.p hO n5
 replace k_t8 := k_t8.p hO y5d
 replace k_t10 := k_t10.p hO nq_t10_t11
 replace y6 := Sl.off y6 hO (f1 G3)
 replace off0 := off0.p hO o8
 clear hO
 refine Lw ?_ (v := .int .i64 0)
 refine q5 ?_
 go_upto_region 7 with fail
 refine wp_region_lit ?_
 refine M0 ?_ k_t3
 refine Lv ?_
 refine Lr ?_ (hcl v W11 (y7 hG off0.ext) y6)
 intro W12 hO
 replace k_t3 := k_t3.o hO
 replace k_t5 := k_t5.o hO
 replace k_t6 := k_t6.o hO
 replace k_t8 := k_t8.o hO
 replace k_t10 := k_t10.o hO
 replace k_t11 := k_t11.o hO
 replace off0 := off0.o hO
 clear hO
 refine Lv ?_
 refine Lv ?_
 refine Lw ?_ (v := .int .i64 0)
 refine U0 ?_ (z := p4 0 0 0 0) (t := 60) (cells := p4 hx hy hz ht)
 intro P0 W14 S3 hO h_
 have nq_t6_t12 := bn k_t6 S3
 replace k_t3 := k_t3.o hO
 replace k_t5 := k_t5.o hO
 replace k_t6 := k_t6.o hO
 replace k_t8 := k_t8.o hO
 replace k_t10 := k_t10.o hO
 replace k_t11 := k_t11.o hO
 replace off0 := off0.o hO
 have k_t12 := h_
 clear hO h_ S3
 refine Lw ?_ (v := .int .i64 0)
 refine q5 ?_
 go_upto_region 10 with fail
 refine a9 4 [⟨4, 13, q7 .u8 32 (j0 0), 22⟩, ⟨5, 14, q7 .u8 32 (j0 0), 22⟩] (by kernel_rfl) ?_ (by kernel_rfl) ?_
 ·
  intro x hx
  simp only [List.mem_cons, List.not_mem_nil, or_false] at hx
  rcases hx with rfl | rfl <;> exact ⟨_, rfl, rfl, rfl, fun _ _ => by kernel_rfl⟩
 simp only [List.take_succ_cons, List.take_zero, List.take_nil]
 (try simp only [Act.put, mA, mB, mC])
 refine Xw ?_ (v := .slice (some ⟨p5_2, 32, none⟩) 16 48)
 refine Xf ?_ (fun W hW => j4s (y2r P) (.slice (some ⟨p5_2, 32, none⟩) 16 48) W (d9 (V := (pC P)) (n := 16) (off := 32) (q6 k_t5 hW) g0n (by decide) (by decide)))
 refine Xl ?_ k_t11
 refine Xf ?_ (fun W hW => q0g h1 W (y7 (y7 hG off0.ext) hW).2.2.1)
 refine j7 ?_
 intro β W15 hE hN hD
 obtain ⟨n_t13, h_t13⟩ := hN _ (List.mem_cons_self ..)
 obtain ⟨n_t14, h_t14⟩ := hN _ (List.mem_cons_of_mem _ (List.mem_cons_self ..))
 have nq_t13_t14 := (hD _ (List.mem_cons_of_mem _ (List.mem_cons_self ..)) _ (List.mem_cons_self ..) (by decide)).symm
 clear hN hD
 simp only [n3, Act.put, mA, mB, mC, List.drop_succ_cons, List.drop_zero, List.drop_nil, List.length_cons, List.length_nil, Nat.add_zero] at q1w h_t13 B3 h_t14 nq_t13_t14 ⊢
 have hO := g9 hE
 generalize β 4 = j0u at *
 have y5e := bn k_t3 q1w
 have y5f := bn k_t5 q1w
 have y5g := bn k_t6 q1w
 have y5h := bn k_t8 q1w
 have y0l := bn k_t10 q1w
 have y0m := bn k_t12 q1w
 have g0w := i3 off0 q1w
 generalize β 5 = j0v at *
 have y5i := bn k_t3 B3
 have y5j := bn k_t5 B3
 have y5k := bn k_t6 B3
 have y5l := bn k_t8 B3
 have y0n := bn k_t10 B3
 have y0o := bn k_t12 B3
 have y0h := i3 off0 B3
 replace k_t3 := k_t3.o hO
 replace k_t5 := k_t5.o hO
 replace k_t6 := k_t6.o hO
 replace k_t8 := k_t8.o hO
 replace k_t10 := k_t10.o hO
 replace k_t12 := k_t12.o hO
 replace off0 := off0.o hO
 clear hO hE β q1w B3
 have k_t13 : Blk W15 j0u (q7 .u8 32 (j0 0)) 22 := h_t13
 clear h_t13
 have k_t14 : Blk W15 j0v (q7 .u8 32 (j0 0)) 22 := h_t14
 clear h_t14
 refine LpA ?_ k_t13 (k := .u8) (n := 32) (f := j0 (pC P))
 intro W16 hO h_
 replace k_t13 : Blk W16 j0u (q7 .u8 32 (j0 (pC P))) 22 := h_
 clear h_
 replace k_t3 := k_t3.p hO y5e
 replace k_t5 := k_t5.p hO y5f
 replace k_t6 := k_t6.p hO y5g
 replace k_t8 := k_t8.p hO y5h
 replace k_t10 := k_t10.p hO y0l
 replace k_t12 := k_t12.p hO y0m
 replace k_t14 := k_t14.p hO nq_t13_t14.symm
 replace off0 := off0.p hO g0w
 clear hO
 refine LpA ?_ k_t14 (k := .u8) (n := 32) (f := j0 (pN P))
 intro W17 hO h_
 replace k_t14 : Blk W17 j0v (q7 .u8 32 (j0 (pN P))) 22 := h_
 clear h_
 replace k_t3 := k_t3.p hO y5i
 replace k_t5 := k_t5.p hO y5j
 replace k_t6 := k_t6.p hO y5k
 replace k_t8 := k_t8.p hO y5l
 replace k_t10 := k_t10.p hO y0n
 replace k_t12 := k_t12.p hO y0o
 replace k_t13 := k_t13.p hO nq_t13_t14
 replace off0 := off0.p hO y0h
 clear hO
 refine LN ?_
 go_upto_region 11 with fail
 refine Rx1 8 15 (z := p4 0 0 0 0) (t := 60) ?_
 refine Xf ?_ (fun W hW => c6 W (y7 (y7 hG off0.ext) hW).1)
 refine XlA ?_ k_t14
 refine Xf ?_ (fun W hW => c12 W (y7 (y7 hG off0.ext) hW).1)
 refine Xl ?_ k_t8
 refine Xf ?_ (fun W hW => c18 W (y7 (y7 hG off0.ext) hW).1)
 refine XlA ?_ k_t13
 refine Xf ?_ (fun W hW => c24 W (y7 (y7 hG off0.ext) hW).1)
 refine Xf ?_ (fun W hW => c30 W (y7 (y7 hG off0.ext) hW).1)
 refine XN ?_
 intro O7 W18 O5 hE h_t15
 have hO := g9 hE
 have y5m := bn k_t3 O5
 have y5n := bn k_t5 O5
 have nq_t6_t15 := bn k_t6 O5
 have y0p := bn k_t10 O5
 have y0q := bn k_t12 O5
 have y0r := bn k_t13 O5
 have y0s := bn k_t14 O5
 have g0x := i3 off0 O5
 replace k_t3 := k_t3.o hO
 replace k_t5 := k_t5.o hO
 replace k_t6 := k_t6.o hO
 replace k_t10 := k_t10.o hO
 replace k_t12 := k_t12.o hO
 replace k_t13 := k_t13.o hO
 replace k_t14 := k_t14.o hO
 replace off0 := off0.o hO
 clear hO hE O5
 have k_t15 : Blk W18 O7 (p4 0 0 0 0) 60 := h_t15
 clear h_t15
 refine Lp ?_ k_t15 (cells := p4 x25 y26 z27 t28)
 intro W19 hO h_
 replace k_t15 : Blk W19 O7 (p4 x25 y26 z27 t28) 60 := h_
 clear h_
 replace k_t3 := k_t3.p hO y5m
 replace k_t5 := k_t5.p hO y5n
 replace k_t6 := k_t6.p hO nq_t6_t15
 replace k_t10 := k_t10.p hO y0p
 replace k_t12 := k_t12.p hO y0q
 replace k_t13 := k_t13.p hO y0r
 replace k_t14 := k_t14.p hO y0s
 replace off0 := off0.p hO g0x
 clear hO
 refine LN ?_
 go_upto_region 12 with fail
 refine Rx1 8 16 (z := p4 0 0 0 0) (t := 60) ?_
 refine Xl ?_ k_t12
 refine XlA ?_ k_t14
 refine Xf ?_ (fun W hW => c36 W (y7 (y7 hG off0.ext) hW).1)
 refine Xl ?_ k_t10
 refine Xf ?_ (fun W hW => c42 W (y7 (y7 hG off0.ext) hW).1)
 refine XlA ?_ k_t13
 refine Xf ?_ (fun W hW => c48 W (y7 (y7 hG off0.ext) hW).1)
 refine Xf ?_ (fun W hW => c54 W (y7 (y7 hG off0.ext) hW).1)
 refine XN ?_
 intro O8 W20 q1x hE h_t16
 have hO := g9 hE
 have y5o := bn k_t3 q1x
 have y5p := bn k_t5 q1x
 have nq_t6_t16 := bn k_t6 q1x
 have y0t := bn k_t10 q1x
 have y0u := bn k_t12 q1x
 have y0v := bn k_t15 q1x
 have g0y := i3 off0 q1x
 replace k_t3 := k_t3.o hO
 replace k_t5 := k_t5.o hO
 replace k_t6 := k_t6.o hO
 replace k_t10 := k_t10.o hO
 replace k_t12 := k_t12.o hO
 replace k_t15 := k_t15.o hO
 replace off0 := off0.o hO
 clear hO hE q1x
 have k_t16 : Blk W20 O8 (p4 0 0 0 0) 60 := h_t16
 clear h_t16
 refine Lp ?_ k_t16 (cells := p4 x49 y50 z51 t52)
 intro W21 hO h_
 replace k_t16 : Blk W21 O8 (p4 x49 y50 z51 t52) 60 := h_
 clear h_
 replace k_t3 := k_t3.p hO y5o
 replace k_t5 := k_t5.p hO y5p
 replace k_t6 := k_t6.p hO nq_t6_t16
 replace k_t10 := k_t10.p hO y0t
 replace k_t12 := k_t12.p hO y0u
 replace k_t15 := k_t15.p hO y0v
 replace off0 := off0.p hO g0y
 clear hO
 refine LN ?_
 by_cases htk : chk V P h = pC P
 ·
  have _f := htk
  go_upto_region 13 with fail
  refine p6 (.q 0 (.q 1 (.q 2 (.q 3 (.q 4 (.q 8 (.q 9 (.e 5 (.e 6 (.q 7 (.q 10 .z))))))))))) (fun W => (Blk W l3 (q7 .u8 32 (j0 V)) 22) ∧ (Blk W P0 (p4 hx hy hz ht) 60) ∧ (Blk W O6 (p4 gx gy 1 gt) 60) ∧ (Blk W O7 (p4 x25 y26 z27 t28) 60) ∧ (Blk W O8 (p4 x49 y50 z51 t52) 60) ∧ (Blk W q2d (q7 .u8 80 (j0 P)) 45)) (by kernel_rfl) (by kernel_rfl) ?_
  intro W22 hO
  replace k_t3 := k_t3.o hO
  replace k_t5 := k_t5.o hO
  replace k_t6 := k_t6.o hO
  replace k_t10 := k_t10.o hO
  replace k_t12 := k_t12.o hO
  replace k_t15 := k_t15.o hO
  replace k_t16 := k_t16.o hO
  replace off0 := off0.o hO
  clear hO
  refine ⟨⟨k_t3, k_t12, k_t10, k_t15, k_t16, k_t5⟩, ?_⟩
  refine b8 (v := .agg (q7 .u8 32 (j0 V))) rfl (by rfl) (fun W hS => by exact (f4 rfl rfl (hS.1) (by kernel_rfl) (by rw [y5]; kernel_rfl))) ?_
  (try simp only [Act.put, mA, mB, mC])
  refine b8 (v := .agg (p4 hx hy hz ht)) rfl (by rfl) (fun W hS => by exact (f4 rfl rfl (hS.2.1) (by kernel_rfl) (by kernel_rfl))) ?_
  (try simp only [Act.put, mA, mB, mC])
  refine b8 (v := .agg (p4 gx gy 1 gt)) rfl (by rfl) (fun W hS => by exact (f4 rfl rfl (hS.2.2.1) (by kernel_rfl) (by kernel_rfl))) ?_
  (try simp only [Act.put, mA, mB, mC])
  refine b8 (v := .agg (p4 x25 y26 z27 t28)) rfl (by rfl) (fun W hS => by exact (f4 rfl rfl (hS.2.2.2.1) (by kernel_rfl) (by kernel_rfl))) ?_
  (try simp only [Act.put, mA, mB, mC])
  refine b8 (v := .agg (p4 x49 y50 z51 t52)) rfl (by rfl) (fun W hS => by exact (f4 rfl rfl (hS.2.2.2.2.1) (by kernel_rfl) (by kernel_rfl))) ?_
  (try simp only [Act.put, mA, mB, mC])
  refine b8 (v := .slice (some ⟨p5_2, 32, none⟩) 16 48) rfl (by rfl) (fun W hS => by first | rfl | (go_simp; done) | (go_simp; with_reducible rfl)) ?_
  (try simp only [Act.put, mA, mB, mC])
  refine b8 (v := str (lb 16 (pC P))) rfl (by rfl) (fun W hS => by exact (q2m (d9 (V := (pC P)) (n := 16) (off := 32) (hS.2.2.2.2.2) g0n (by decide) (by decide)) rfl rfl)) ?_
  (try simp only [Act.put, mA, mB, mC])
  refine t0 rfl ?_
  refine E3 ?_ (z := (p4 hx hy hz ht) ++ (p4 gx gy 1 gt) ++ (p4 x25 y26 z27 t28) ++ (p4 x49 y50 z51 t52)) (t := 60) (n := 4) (c := 4)
  intro y0w W23 y2w hO h_
  have nq_t6_s71 := bn k_t6 y2w
  replace k_t3 := k_t3.o hO
  replace k_t5 := k_t5.o hO
  replace k_t6 := k_t6.o hO
  replace k_t10 := k_t10.o hO
  replace k_t12 := k_t12.o hO
  replace k_t15 := k_t15.o hO
  replace k_t16 := k_t16.o hO
  replace off0 := off0.o hO
  have k_s71 := h_
  clear hO h_ y2w
  refine o5 (fun W => (Blk W l3 (q7 .u8 32 (j0 V)) 22) ∧ (Blk W P0 (p4 hx hy hz ht) 60) ∧ (Blk W O6 (p4 gx gy 1 gt) 60) ∧ (Blk W O7 (p4 x25 y26 z27 t28) 60) ∧ (Blk W O8 (p4 x49 y50 z51 t52) 60) ∧ (Blk W q2d (q7 .u8 80 (j0 P)) 45)) (fun W hS => ⟨hS.1, hS.2.1, hS.2.2.1, hS.2.2.2.1, hS.2.2.2.2.1, hS.2.2.2.2.2⟩) ⟨k_t3, k_t12, k_t10, k_t15, k_t16, k_t5⟩ ?_
  refine t0 rfl ?_
  refine q3m (R := fun v W => ∃ p, v = .slice (some ⟨p, 0, none⟩) 16 64 ∧ W23.heap.size ≤ p ∧ Off [] W23 W ∧ Blk W p (q7 .u8 64 (j0 U1)) 30) ((y0a (kn := kn) hr gr r29 r53 HU1.out y0w W23 (y7 hG off0.ext) k_s71).mono fun e W h => by obtain ⟨p, h1, h2⟩ := h; exact ⟨_, h1, p, rfl, h2⟩) (by rfl) rfl (by kernel_rfl) rfl ?_
  (try simp only [Act.put, mA, mB, mC])
  rintro _ W24 ⟨pm24, rfl, n_mk, hO, h_⟩
  (try simp only [Act.put, mA, mB, mC])
  have nq_t6_mk := bn k_t6 n_mk
  replace k_t3 := k_t3.o hO
  replace k_t5 := k_t5.o hO
  replace k_t6 := k_t6.o hO
  replace k_t10 := k_t10.o hO
  replace k_t12 := k_t12.o hO
  replace k_t15 := k_t15.o hO
  replace k_t16 := k_t16.o hO
  replace k_s71 := k_s71.o hO
  replace off0 := off0.o hO
  have k_mk := h_
  clear hO h_ n_mk
  refine o5 (fun W => (Blk W l3 (q7 .u8 32 (j0 V)) 22) ∧ (Blk W P0 (p4 hx hy hz ht) 60) ∧ (Blk W O6 (p4 gx gy 1 gt) 60) ∧ (Blk W O7 (p4 x25 y26 z27 t28) 60) ∧ (Blk W O8 (p4 x49 y50 z51 t52) 60) ∧ (Blk W q2d (q7 .u8 80 (j0 P)) 45) ∧ (Blk W pm24 (q7 .u8 64 (j0 U1)) 30)) (fun W hS => ⟨hS.1, hS.2.1, hS.2.2.1, hS.2.2.2.1, hS.2.2.2.2.1, hS.2.2.2.2.2.1⟩) ⟨k_t3, k_t12, k_t10, k_t15, k_t16, k_t5, k_mk⟩ ?_
  refine b8 (v := str (lb 16 U2)) rfl (by rfl) (fun W hS => by exact (q2m (d9 (V := U2) (n := 16) (off := 0) (hS.2.2.2.2.2.2) (h16 HU2.out) (by decide) (by decide)) rfl rfl)) ?_
  (try simp only [Act.put, mA, mB, mC])
  have hc_ : U2 = chk V P h := by rw [HU2.out, HU1.out]; rfl
  refine b8 (v := .bool false) rfl (by rfl) (fun W hS => by exact (q4b (l := (lb 16 U2)) (m := (lb 16 (pC P))) ((by rw [decide_eq_true (by rw [hc_, htk])]; rfl)) rfl rfl rfl)) ?_
  (try simp only [Act.put, mA, mB, mC])
  refine q1t ?_
  go_upto_region 15 with fail
  refine wp_region_lit ?_
  refine M0 ?_ k_t5
  refine Lr ?_ (g0p (kn := kn) hc hok HU3.out W24 (y7 hG off0.ext))
  intro W25 hO
  replace k_t3 := k_t3.o hO
  replace k_t5 := k_t5.o hO
  replace k_t6 := k_t6.o hO
  replace k_t10 := k_t10.o hO
  replace k_t12 := k_t12.o hO
  replace k_t15 := k_t15.o hO
  replace k_t16 := k_t16.o hO
  replace k_s71 := k_s71.o hO
  replace k_mk := k_mk.o hO
  replace off0 := off0.o hO
  clear hO
  refine Lv ?_
  refine Lw ?_ (v := .int .i64 0)
  refine LpA ?_ k_t6 (k := .u8) (n := 64) (f := j0 U3)
  intro W26 hO h_
  replace k_t6 : Blk W26 I0 (q7 .u8 64 (j0 U3)) 30 := h_
  clear h_
  replace k_t3 := k_t3.p hO q3a
  replace k_t5 := k_t5.p hO I9
  replace k_t10 := k_t10.p hO nq_t6_t10.symm
  replace k_t12 := k_t12.p hO nq_t6_t12.symm
  replace k_t15 := k_t15.p hO nq_t6_t15.symm
  replace k_t16 := k_t16.p hO nq_t6_t16.symm
  replace k_s71 := k_s71.p hO nq_t6_s71.symm
  replace k_mk := k_mk.p hO nq_t6_mk.symm
  replace off0 := off0.p hO G6
  clear hO
  refine Lw ?_ (v := .int .i64 0)
  refine q5 ?_
  go_wp2
  rw [HU3.out] at k_t6
  obtain ⟨er_, ek_⟩ := HQ.out.1 htk
  rw [er_, ek_]
  exact bodyPost_ret (u5 rfl rfl rfl k_t6 (by kernel_rfl) (by rw [y5]; kernel_rfl)) rfl ⟨rfl, off0.ext⟩
 ·
  have _f := htk
  go_upto_region 13 with fail
  refine p6 (.q 0 (.q 1 (.q 2 (.q 3 (.q 4 (.q 8 (.q 9 (.e 5 (.e 6 (.q 7 (.q 10 .z))))))))))) (fun W => (Blk W l3 (q7 .u8 32 (j0 V)) 22) ∧ (Blk W P0 (p4 hx hy hz ht) 60) ∧ (Blk W O6 (p4 gx gy 1 gt) 60) ∧ (Blk W O7 (p4 x25 y26 z27 t28) 60) ∧ (Blk W O8 (p4 x49 y50 z51 t52) 60) ∧ (Blk W q2d (q7 .u8 80 (j0 P)) 45)) (by kernel_rfl) (by kernel_rfl) ?_
  intro W22 hO
  replace k_t3 := k_t3.o hO
  replace k_t5 := k_t5.o hO
  replace k_t6 := k_t6.o hO
  replace k_t10 := k_t10.o hO
  replace k_t12 := k_t12.o hO
  replace k_t15 := k_t15.o hO
  replace k_t16 := k_t16.o hO
  replace off0 := off0.o hO
  clear hO
  refine ⟨⟨k_t3, k_t12, k_t10, k_t15, k_t16, k_t5⟩, ?_⟩
  refine b8 (v := .agg (q7 .u8 32 (j0 V))) rfl (by rfl) (fun W hS => by exact (f4 rfl rfl (hS.1) (by kernel_rfl) (by rw [y5]; kernel_rfl))) ?_
  (try simp only [Act.put, mA, mB, mC])
  refine b8 (v := .agg (p4 hx hy hz ht)) rfl (by rfl) (fun W hS => by exact (f4 rfl rfl (hS.2.1) (by kernel_rfl) (by kernel_rfl))) ?_
  (try simp only [Act.put, mA, mB, mC])
  refine b8 (v := .agg (p4 gx gy 1 gt)) rfl (by rfl) (fun W hS => by exact (f4 rfl rfl (hS.2.2.1) (by kernel_rfl) (by kernel_rfl))) ?_
  (try simp only [Act.put, mA, mB, mC])
  refine b8 (v := .agg (p4 x25 y26 z27 t28)) rfl (by rfl) (fun W hS => by exact (f4 rfl rfl (hS.2.2.2.1) (by kernel_rfl) (by kernel_rfl))) ?_
  (try simp only [Act.put, mA, mB, mC])
  refine b8 (v := .agg (p4 x49 y50 z51 t52)) rfl (by rfl) (fun W hS => by exact (f4 rfl rfl (hS.2.2.2.2.1) (by kernel_rfl) (by kernel_rfl))) ?_
  (try simp only [Act.put, mA, mB, mC])
  refine b8 (v := .slice (some ⟨p5_2, 32, none⟩) 16 48) rfl (by rfl) (fun W hS => by first | rfl | (go_simp; done) | (go_simp; with_reducible rfl)) ?_
  (try simp only [Act.put, mA, mB, mC])
  refine b8 (v := str (lb 16 (pC P))) rfl (by rfl) (fun W hS => by exact (q2m (d9 (V := (pC P)) (n := 16) (off := 32) (hS.2.2.2.2.2) g0n (by decide) (by decide)) rfl rfl)) ?_
  (try simp only [Act.put, mA, mB, mC])
  refine t0 rfl ?_
  refine E3 ?_ (z := (p4 hx hy hz ht) ++ (p4 gx gy 1 gt) ++ (p4 x25 y26 z27 t28) ++ (p4 x49 y50 z51 t52)) (t := 60) (n := 4) (c := 4)
  intro y0w W23 y2w hO h_
  replace k_t3 := k_t3.o hO
  replace k_t5 := k_t5.o hO
  replace k_t6 := k_t6.o hO
  replace k_t10 := k_t10.o hO
  replace k_t12 := k_t12.o hO
  replace k_t15 := k_t15.o hO
  replace k_t16 := k_t16.o hO
  replace off0 := off0.o hO
  have k_s71 := h_
  clear hO h_ y2w
  refine o5 (fun W => (Blk W l3 (q7 .u8 32 (j0 V)) 22) ∧ (Blk W P0 (p4 hx hy hz ht) 60) ∧ (Blk W O6 (p4 gx gy 1 gt) 60) ∧ (Blk W O7 (p4 x25 y26 z27 t28) 60) ∧ (Blk W O8 (p4 x49 y50 z51 t52) 60) ∧ (Blk W q2d (q7 .u8 80 (j0 P)) 45)) (fun W hS => ⟨hS.1, hS.2.1, hS.2.2.1, hS.2.2.2.1, hS.2.2.2.2.1, hS.2.2.2.2.2⟩) ⟨k_t3, k_t12, k_t10, k_t15, k_t16, k_t5⟩ ?_
  refine t0 rfl ?_
  refine q3m (R := fun v W => ∃ p, v = .slice (some ⟨p, 0, none⟩) 16 64 ∧ W23.heap.size ≤ p ∧ Off [] W23 W ∧ Blk W p (q7 .u8 64 (j0 U1)) 30) ((y0a (kn := kn) hr gr r29 r53 HU1.out y0w W23 (y7 hG off0.ext) k_s71).mono fun e W h => by obtain ⟨p, h1, h2⟩ := h; exact ⟨_, h1, p, rfl, h2⟩) (by rfl) rfl (by kernel_rfl) rfl ?_
  (try simp only [Act.put, mA, mB, mC])
  rintro _ W24 ⟨pm24, rfl, n_mk, hO, h_⟩
  (try simp only [Act.put, mA, mB, mC])
  replace k_t3 := k_t3.o hO
  replace k_t5 := k_t5.o hO
  replace k_t6 := k_t6.o hO
  replace k_t10 := k_t10.o hO
  replace k_t12 := k_t12.o hO
  replace k_t15 := k_t15.o hO
  replace k_t16 := k_t16.o hO
  replace off0 := off0.o hO
  have k_mk := h_
  clear hO h_ n_mk
  refine o5 (fun W => (Blk W l3 (q7 .u8 32 (j0 V)) 22) ∧ (Blk W P0 (p4 hx hy hz ht) 60) ∧ (Blk W O6 (p4 gx gy 1 gt) 60) ∧ (Blk W O7 (p4 x25 y26 z27 t28) 60) ∧ (Blk W O8 (p4 x49 y50 z51 t52) 60) ∧ (Blk W q2d (q7 .u8 80 (j0 P)) 45) ∧ (Blk W pm24 (q7 .u8 64 (j0 U1)) 30)) (fun W hS => ⟨hS.1, hS.2.1, hS.2.2.1, hS.2.2.2.1, hS.2.2.2.2.1, hS.2.2.2.2.2.1⟩) ⟨k_t3, k_t12, k_t10, k_t15, k_t16, k_t5, k_mk⟩ ?_
  refine b8 (v := str (lb 16 U2)) rfl (by rfl) (fun W hS => by exact (q2m (d9 (V := U2) (n := 16) (off := 0) (hS.2.2.2.2.2.2) (h16 HU2.out) (by decide) (by decide)) rfl rfl)) ?_
  (try simp only [Act.put, mA, mB, mC])
  have hc_ : U2 = chk V P h := by rw [HU2.out, HU1.out]; rfl
  refine b8 (v := .bool true) rfl (by rfl) (fun W hS => by exact (q4b (l := (lb 16 U2)) (m := (lb 16 (pC P))) ((by rw [decide_eq_false fun e => htk (hc_ ▸ j0q qU2 (y2r P) e)]; rfl)) rfl rfl rfl)) ?_
  (try simp only [Act.put, mA, mB, mC])
  refine q1t ?_
  go_upto_region 14 with fail
  refine wp_region_lit ?_
  refine Lw ?_ (v := .agg (q7 .u8 64 (j0 0))) (hv := by kernel_rfl)
  refine LpA ?_ k_t6 (k := .u8) (n := 64) (f := j0 0)
  intro W25 hO h_
  replace k_t6 : Blk W25 I0 (q7 .u8 64 (j0 0)) 30 := h_
  clear h_
  replace off0 := off0.p hO G6
  clear hO
  refine Lw ?_ (v := .int .i64 17)
  refine q5 ?_
  go_wp2
  obtain ⟨er_, ek_⟩ := HQ.out.2 htk
  rw [er_, ek_]
  exact bodyPost_ret (u5 rfl rfl rfl k_t6 (by kernel_rfl) (by rw [y5]; kernel_rfl)) rfl ⟨rfl, off0.ext⟩
def J3 (V : Nat) (L : List UInt8) (P : Nat) : Nat × Nat :=
  if K0 V = false ∨ pm (M6 V) 8 = p0 then (0, 15) else if K0 (pG P) = false ∨ LL ≤ pN P then (0, 17) else
  match vpt V L with
  | none => (0, 15)
  | some c => if chk V P (o6 V L c) = pC P then (q8m P, 0) else (0, 17)
theorem j4w (hd : kn.d) (hb : kn.b) (hc : kn.c) {V P : Nat} {X : Nat × Nat} {L : List UInt8} (hX : X = J3 V L P) (hV : V < 2 ^ 256) (hP : B80 P) (v : Value) (hL : L.length ≤ 1099511627776) (w : World) (hG : GA kn w) (hsl : Sl w v L) :
    Calls Tryd.prog 26 #[.agg (q7 .u8 32 (j0 V)), v, .agg (q7 .u8 80 (j0 P))] w fun e w' => h9 (.tuple #[.agg (q7 .u8 64 (j0 X.1)), .int .i64 (X.2 : Int)]) w w' e := by
  subst hX
  unfold J3
  cases hk1 : K0 V
  · rw [if_pos (Or.inl rfl)]; exact j4t hd hb hc hV hP v L hL hk1 w hG hsl
  by_cases hk2 : pm (M6 V) 8 = p0
  · rw [if_pos (Or.inr hk2)]; exact j4u hd hb hc hV hP v L hL hk1 hk2 w hG hsl
  rw [if_neg (by rintro (h | h); cases h; exact hk2 h)]
  cases hok : K0 (pG P)
  · rw [if_pos (Or.inl rfl)]
    by_cases h1 : LL ≤ pN P
    · exact j0r hd hb hc hV hP v L hL hk1 hk2 hok h1 w hG hsl
    · exact j0s hd hb hc hV hP v L hL hk1 hk2 hok (Nat.not_le.1 h1) w hG hsl
  by_cases h1 : LL ≤ pN P
  · rw [if_pos (Or.inr h1)]; exact j0t hd hb hc hV hP v L hL hk1 hk2 hok h1 w hG hsl
  rw [if_neg (by rintro (h | h); cases h; exact h1 h)]
  cases hv : vpt V L with
  | none => exact j4v hd hb hc hV hP v L hL hk1 hk2 hok (Nat.not_le.1 h1) hv w hG hsl
  | some c =>
    by_cases ht : chk V P (o6 V L c) = pC P
    · simp only [if_pos ht]; exact y2v hd hb hc hV hP v L hL hk1 hk2 hok (Nat.not_le.1 h1) hv rfl ⟨fun _ => ⟨rfl, rfl⟩, fun h => absurd ht h⟩ w hG hsl
    · simp only [if_neg ht]; exact y2v hd hb hc hV hP v L hL hk1 hk2 hok (Nat.not_le.1 h1) hv rfl ⟨fun h => absurd h ht, fun _ => ⟨rfl, rfl⟩⟩ w hG hsl
end Go.Proofs.YtefpoollmbmkfaaDoor
