/- vrf: Prove. Conditions: the cells of the variables hold their numbers. vrf: Check. Conditions: the cells of the variables hold their numbers. -/
import Derived.Test.YtefpoollmbmkfaaDoorGc
import Derived.Test.YtefpoollmbmkfaaDoorVa
set_option linter.unusedSimpArgs false
set_option linter.unusedVariables false
namespace Go.Proofs.YtefpoollmbmkfaaDoor
set_option maxHeartbeats 2000000
set_option maxRecDepth 100000
open Go.RowKit
attribute [local irreducible] wpList D9
variable {kn : Kn}
open Sc (LL e9)
attribute [local irreducible] hs
theorem h16 {X C : Nat} (hC : C = X % p7) : ∀ i v, (q7 .u8 16 (j0 C))[i]? = some v → (q7 .u8 64 (j0 X))[0 + i]? = some v :=
  q3v (fun j hj => by rw [hC, show p7 = 2 ^ (8 * 16) from rfl, y4f hj, Nat.zero_add]) (by decide)
theorem y4i (hc : kn.c) {V c0 : Nat} {L : List UInt8} (hL : L.length ≤ 1099511627776) (hv : vpt V L = some c0) {h : Pr} (hh : h = a6 V L c0) :
    ∃ X Y Z T, RN X Y Z T h ∧ ∀ v w, GA kn w → Sl w v L → Calls Tryd.prog 60 #[.agg (q7 .u8 32 (j0 V)), v] w fun e w' => m7 (.tuple #[.agg (p4 X Y Z T), .int .i64 0]) w w' e := by
  obtain ⟨h1, h2, h3⟩ := q1x hv
  subst hh
  exact y1j hc hL c0 h1 h2 h3
theorem y4j (hc : kn.c) {V : Nat} {L : List UInt8} (hL : L.length ≤ 1099511627776) (hv : vpt V L = none) (v : Value) (w : World) (hG : GA kn w) (hs : Sl w v L) :
    Calls Tryd.prog 60 #[.agg (q7 .u8 32 (j0 V)), v] w fun e w' => m7 (.tuple #[.agg (p4 0 0 0 0), .int .i64 15]) w w' e := y1k hc hL (j1x hv) v w hG hs
theorem j1y {E C n : Nat} (hE : E < 2 ^ 256) (hC : C < p7) : lb 32 E ++ lb 16 C ++ lb 32 n = lb 80 (E + 2 ^ 256 * (C + p7 * n)) := by
  have e1 : lb 80 (E + 2 ^ 256 * (C + p7 * n)) = lb 32 (E + 2 ^ 256 * (C + p7 * n)) ++ lb 48 ((E + 2 ^ 256 * (C + p7 * n)) / 2 ^ (8 * 32)) := y1g 32 48 _
  have e2 : lb 48 (C + p7 * n) = lb 16 (C + p7 * n) ++ lb 32 ((C + p7 * n) / 2 ^ (8 * 16)) := y1g 16 32 _
  rw [e1, show (2 : Nat) ^ (8 * 32) = 2 ^ 256 from rfl, Nat.add_mul_div_left _ _ (by decide), Nat.div_eq_of_lt hE, Nat.zero_add, e2, show (2 : Nat) ^ (8 * 16) = p7 from rfl, Nat.add_mul_div_left _ _ (by decide), Nat.div_eq_of_lt hC, Nat.zero_add, List.append_assoc]
  congr 1
  · rw [← j1j 32 (E + 2 ^ 256 * (C + p7 * n)), show (2 : Nat) ^ (8 * 32) = 2 ^ 256 from rfl, Nat.add_mul_mod_self_left, Nat.mod_eq_of_lt hE]
  · congr 1
    rw [← j1j 16 (C + p7 * n), show (2 : Nat) ^ (8 * 16) = p7 from rfl, Nat.add_mul_mod_self_left, Nat.mod_eq_of_lt hC]

theorem j6m (hd : kn.d) (hb : kn.b) (hc : kn.c) (S c0 : Nat) (v : Value) (L : List UInt8) (hL : L.length ≤ 1099511627776) (hv : vpt (kP S) L = some c0) {h : Pr} (hh : h = a6 (kP S) L c0) :
  ∀ w, GA kn w → Sl w v L → Calls Tryd.prog 23 #[.agg (q7 .u8 32 (j0 S)), v] w fun e w' => m7 (.tuple #[.agg (q7 .u8 80 (j0 (vPr S h))), .int .i64 0]) w w' e := by
 obtain ⟨U1, hU1⟩ := z8 (kN S)
 have bU1 : U1 < 2 ^ 256 := by rw [hU1]; exact y3y _
 have HU1 := Lib.hid hU1
 clear hU1
 obtain ⟨U2, hU2⟩ := z8 (kD S)
 have bU2 : U2 < 2 ^ 256 := by rw [hU2]; exact y3z _
 have HU2 := Lib.hid hU2
 clear hU2
 obtain ⟨U3, hU3⟩ := z8 (kP S)
 have bU3 : U3 < 2 ^ 256 := by rw [hU3]; exact y4a _
 have HU3 := Lib.hid hU3
 clear hU3
 have hv_ : vpt U3 L = some c0 := by rw [HU3.out]; exact hv
 have hh_ : h = a6 U3 L c0 := by rw [HU3.out]; exact hh
 obtain ⟨hx, hy, hz, ht, hr, hcl⟩ := y4i (kn := kn) hc hL hv_ hh_
 obtain ⟨x1, y2, z3, t4, r5, c6⟩ := D0 hd hr.rw (N := U1) bU1
 obtain ⟨U4, hU4⟩ := z8 (t6 h)
 have bU4 : U4 < 2 ^ 256 := by rw [hU4]; exact B4 _
 have HU4 := Lib.hid hU4
 clear hU4
 obtain ⟨U5, hU5⟩ := z8 (hs ((lb 32 U2) ++ (lb 32 U4)))
 have HU5 := Lib.hid hU5
 clear hU5
 obtain ⟨U6, hU6⟩ := z8 (U5 % LL)
 have lU6 : U6 < LL := by rw [hU6]; exact mLL _
 have bU6 : U6 < 2 ^ 256 := Nat.lt_trans lU6 Y7
 have HU6 := Lib.hid hU6
 clear hU6
 obtain ⟨x7, y8, z9, t10, r11, c12⟩ := q7j hb
 obtain ⟨x13, y14, z15, t16, r17, c18⟩ := D0 hd r11.rw (N := U6) (Nat.lt_trans lU6 Y7)
 obtain ⟨x19, y20, z21, t22, r23, c24⟩ := D0 hd hr.rw (N := U6) (Nat.lt_trans lU6 Y7)
 obtain ⟨U7, hU7⟩ := z8 (chH U3 h (pm h U1) (pm BP U6) (pm h U6))
 have HU7 := Lib.hid hU7
 clear hU7
 obtain ⟨U8, hU8⟩ := z8 (U7 % p7)
 have qU8 : U8 < p7 := by rw [hU8]; exact Nat.mod_lt _ (by decide)
 have HU8 := Lib.hid hU8
 clear hU8
 obtain ⟨U9, hU9⟩ := z8 (U8 % LL)
 have lU9 : U9 < LL := by rw [hU9]; exact mLL _
 have bU9 : U9 < 2 ^ 256 := Nat.lt_trans lU9 Y7
 have HU9 := Lib.hid hU9
 clear hU9
 obtain ⟨U10, hU10⟩ := z8 (U1 % LL)
 have lU10 : U10 < LL := by rw [hU10]; exact mLL _
 have bU10 : U10 < 2 ^ 256 := Nat.lt_trans lU10 Y7
 have HU10 := Lib.hid hU10
 clear hU10
 obtain ⟨U11, hU11⟩ := z8 (U9 * U10 % LL)
 have lU11 : U11 < LL := by rw [hU11]; exact mLL _
 have bU11 : U11 < 2 ^ 256 := Nat.lt_trans lU11 Y7
 have HU11 := Lib.hid hU11
 clear hU11
 obtain ⟨U12, hU12⟩ := z8 ((U6 + U11) % LL)
 have lU12 : U12 < LL := by rw [hU12]; exact mLL _
 have bU12 : U12 < 2 ^ 256 := Nat.lt_trans lU12 Y7
 have HU12 := Lib.hid hU12
 clear hU12
 obtain ⟨U13, hU13⟩ := z8 (t6 (pm h U1))
 have bU13 : U13 < 2 ^ 256 := by rw [hU13]; exact B4 _
 have HU13 := Lib.hid hU13
 clear hU13
 intro w hG hsl
 have y6 := hsl
 have off0 : Off [] w w := Off.refl _ _
 go_enter Tryd.func23, Tryd.ntmps23
 go_upto_region 0 with fail
 refine wp_region_lit ?_
 refine Ln ?_ (z := q7 .u8 32 (j0 S)) (t := 22)
 intro v9 W1 z4 hO h_
 replace y6 := Sl.off y6 hO f0
 replace off0 := off0.o hO
 have k_t2 := h_
 clear hO h_ z4
 refine Ln ?_ (z := q7 .u8 80 (j0 0)) (t := 45)
 intro L3 W2 a7 hO h_
 have Q9 := l4 off0 a7
 replace k_t2 := k_t2.o hO
 replace y6 := Sl.off y6 hO f0
 replace off0 := off0.o hO
 have k_t4 := h_
 clear hO h_ a7
 refine Lw ?_ (v := .int .i64 0)
 refine q5 ?_
 go_upto_region 1 with fail
 refine wp_region_lit ?_
 refine B9 ?_ k_t2
 refine Lr ?_ (q0c hd hb HU1.out HU2.out HU3.out W2 (y7 hG off0.ext))
 intro W3 hO
 replace k_t2 := k_t2.o hO
 replace k_t4 := k_t4.o hO
 replace y6 := Sl.off y6 hO f0
 replace off0 := off0.o hO
 clear hO
 refine K8 ?_ (z := s3 0 0 0) (t := 25) (cells := s3 U1 U2 U3) (hi := by rw [o4]; kernel_rfl) (hs := by first | rw [o4, o4] | rw [o4] | kernel_rfl) (h1 := by exact q8g)
 intro E3 W5 i7 hO h_
 replace k_t2 := k_t2.o hO
 replace k_t4 := k_t4.o hO
 replace y6 := Sl.off y6 hO f0
 replace off0 := off0.o hO
 have k_t6 := h_
 clear hO h_ i7
 refine q5 ?_
 go_upto_region 2 with fail
 refine wp_region_lit ?_
 refine Lv ?_
 refine z0 (vs := (q7 .u8 32 (j0 U3)).toList) (by rfl) rfl rfl k_t6 (J0 g1e) (by kernel_rfl) (by kernel_rfl) ?_
 (try simp only [Act.put, mA, mB, mC])
 refine Lv ?_
 refine Lr ?_ (hcl v W5 (y7 hG off0.ext) y6)
 intro W6 hO
 replace k_t2 := k_t2.o hO
 replace k_t4 := k_t4.o hO
 replace k_t6 := k_t6.o hO
 replace y6 := Sl.off y6 hO f0
 replace off0 := off0.o hO
 clear hO
 refine Lv ?_
 refine Lv ?_
 refine Lw ?_ (v := .int .i64 0)
 refine K8 ?_ (z := p4 0 0 0 0) (t := 60) (cells := p4 hx hy hz ht)
 intro q3j W8 u9 hO h_
 replace k_t2 := k_t2.o hO
 replace k_t4 := k_t4.o hO
 replace k_t6 := k_t6.o hO
 replace y6 := Sl.off y6 hO f0
 replace off0 := off0.o hO
 have k_t7 := h_
 clear hO h_ u9
 refine Lw ?_ (v := .int .i64 0)
 refine q5 ?_
 go_upto_region 5 with fail
 refine wp_region_lit ?_
 refine L0 ?_ k_t7
 refine Lv ?_
 refine z0 (vs := (q7 .u8 32 (j0 U1)).toList) (by rfl) rfl rfl k_t6 (J0 g1c) (by kernel_rfl) (by kernel_rfl) ?_
 (try simp only [Act.put, mA, mB, mC])
 refine Lr ?_ (c6 W8 (y7 hG off0.ext).1)
 intro W9 hO
 replace k_t2 := k_t2.o hO
 replace k_t4 := k_t4.o hO
 replace k_t6 := k_t6.o hO
 replace k_t7 := k_t7.o hO
 replace y6 := Sl.off y6 hO f0
 replace off0 := off0.o hO
 clear hO
 refine K8 ?_ (z := p4 0 0 0 0) (t := 60) (cells := p4 x1 y2 z3 t4)
 intro T7 W11 C4 hO h_
 replace k_t2 := k_t2.o hO
 replace k_t4 := k_t4.o hO
 replace k_t6 := k_t6.o hO
 replace k_t7 := k_t7.o hO
 replace y6 := Sl.off y6 hO f0
 replace off0 := off0.o hO
 have k_t9 := h_
 clear hO h_ C4
 refine q5 ?_
 go_upto_region 6 with fail
 refine wp_region_lit ?_
 refine L0 ?_ k_t7
 refine Lr ?_ (T0 hr.rw HU4.out W11 (y7 hG off0.ext).1)
 intro W12 hO
 replace k_t2 := k_t2.o hO
 replace k_t4 := k_t4.o hO
 replace k_t6 := k_t6.o hO
 replace k_t7 := k_t7.o hO
 replace k_t9 := k_t9.o hO
 replace y6 := Sl.off y6 hO f0
 replace off0 := off0.o hO
 clear hO
 refine LnA ?_ (z := q7 .u8 32 (j0 0)) (t := 22) (k := .u8) (n := 32) (f := j0 U4)
 intro E4 W14 l5 hO h_
 replace k_t2 := k_t2.o hO
 replace k_t4 := k_t4.o hO
 replace k_t6 := k_t6.o hO
 replace k_t7 := k_t7.o hO
 replace k_t9 := k_t9.o hO
 replace y6 := Sl.off y6 hO f0
 replace off0 := off0.o hO
 have k_t10 := h_
 clear hO h_ l5
 refine q5 ?_
 go_upto_region 7 with fail
 refine q5n (.q 0 (.q 1 (.q 2 (.b 3 (.b 4 (.e 5 (.e 6 .z)) 5 (.e 4 (.e 6 .z))) 5 (.e 3 (.e 4 (.e 6 .z))))))) (fun W => True) (fun a0 a_ wr => ∃ (j_s38 : Nat) (j_t11 : Nat), a_ = y9u a0 [(35, .pointer (some ⟨E3, 32, none⟩)), (36, .slice (some ⟨E3, 32, none⟩) 32 32), (37, .slice (some ⟨E4, 0, none⟩) 32 32), (38, .slice (some ⟨j_s38, 0, none⟩) 2 2), (39, .agg (q7 .u8 64 (j0 U5))), (11, .pointer (some ⟨j_t11, 0, none⟩))] ∧ Off [] w wr ∧ Blk wr v9 (q7 .u8 32 (j0 S)) 22 ∧ Blk wr L3 (q7 .u8 80 (j0 0)) 45 ∧ Blk wr E3 (s3 U1 U2 U3) 25 ∧ Blk wr q3j (p4 hx hy hz ht) 60 ∧ Blk wr T7 (p4 x1 y2 z3 t4) 60 ∧ Blk wr E4 (q7 .u8 32 (j0 U4)) 22 ∧ Blk wr j_s38 #[.slice (some ⟨E3, 32, none⟩) 32 32, .slice (some ⟨E4, 0, none⟩) 32 32] 23 ∧ Blk wr j_t11 (q7 .u8 64 (j0 U5)) 30 ∧ Sl wr v L ∧ Fb j_s38 w.heap.size [] ∧ v9 ≠ j_s38 ∧ L3 ≠ j_s38 ∧ E3 ≠ j_s38 ∧ q3j ≠ j_s38 ∧ T7 ≠ j_s38 ∧ E4 ≠ j_s38 ∧ (sb v L) ≠ some j_s38 ∧ Fb j_t11 w.heap.size [] ∧ v9 ≠ j_t11 ∧ L3 ≠ j_t11 ∧ E3 ≠ j_t11 ∧ q3j ≠ j_t11 ∧ T7 ≠ j_t11 ∧ E4 ≠ j_t11 ∧ j_s38 ≠ j_t11 ∧ (sb v L) ≠ some j_t11) (by kernel_rfl) (by kernel_rfl) ?_ ?_
 ·
  have _f := True.intro
  intro W15 hO
  replace k_t2 := k_t2.o hO
  replace k_t4 := k_t4.o hO
  replace k_t6 := k_t6.o hO
  replace k_t7 := k_t7.o hO
  replace k_t9 := k_t9.o hO
  replace k_t10 := k_t10.o hO
  replace y6 := Sl.off y6 hO f0
  replace off0 := off0.o hO
  clear hO
  refine ⟨trivial, ?_⟩
  (refine a9 (v := ?_) rfl (by rfl) (fun W hS => ?_) ?_; rotate_left 1; (focus (go_simp; first | done | with_reducible rfl)))
  (try simp only [Act.put, mA, mB, mC])
  refine a9 (v := .slice (some ⟨E3, 32, none⟩) 32 32) rfl (by rfl) (fun W hS => by first | rfl | (go_simp; done) | (go_simp; with_reducible rfl)) ?_
  (try simp only [Act.put, mA, mB, mC])
  refine a9 (v := .slice (some ⟨E4, 0, none⟩) 32 32) rfl (by rfl) (fun W hS => by first | rfl | (go_simp; done) | (go_simp; with_reducible rfl)) ?_
  (try simp only [Act.put, mA, mB, mC])
  refine j7z rfl rfl ?_ ?_
  ·
   have _f := True.intro
   refine I4 ?_ (z := #[.slice (some ⟨E3, 32, none⟩) 32 32, .slice (some ⟨E4, 0, none⟩) 32 32]) (t := 23) (n := 2) (c := 2) (hr := by exact Q5 [.slice (some ⟨E3, 32, none⟩) 32 32, .slice (some ⟨E4, 0, none⟩) 32 32] rfl rfl (vsc (rfl) (vsc (rfl) vs0)) Tryd.underlying112 (by kernel_rfl) (by kernel_rfl) rfl (by decide) (by decide))
   intro q8j W16 G6 hO h_
   have F8 := bn k_t2 G6
   have F9 := bn k_t4 G6
   have I0 := bn k_t6 G6
   have I1 := bn k_t7 G6
   have I2 := bn k_t9 G6
   have B6 := bn k_t10 G6
   have T8 := d8 (Sl.lt y6) G6
   have q5a := l4 off0 G6
   replace k_t2 := k_t2.o hO
   replace k_t4 := k_t4.o hO
   replace k_t6 := k_t6.o hO
   replace k_t7 := k_t7.o hO
   replace k_t9 := k_t9.o hO
   replace k_t10 := k_t10.o hO
   replace y6 := Sl.off y6 hO f0
   replace off0 := off0.o hO
   have k_s38 := h_
   clear hO h_ G6
   refine s6 (fun W => True) (fun W hS => trivial) trivial ?_
   refine j7z rfl rfl ?_ ?_
   ·
    have _f := True.intro
    refine Lr ?_ (L6 HU5.out [lb 32 U2, lb 32 U4] (some ⟨q8j, 0, none⟩) 2 (by simp only [List.flatten_cons, List.flatten_nil, List.append_nil, List.nil_append, List.append_assoc, List.cons_append]) (by first | omega | (simp only [List.length_append, List.length_cons, List.length_nil, g7]; omega)) (by simp) W16 (A0 k_s38 (pvc (b6 (V := U2) (n := 32) (off := 32) k_t6 g1d (by decide) (by decide)) (pvc (b6 (V := U4) (n := 32) (off := 0) k_t10 ap0 (by decide) (by decide)) pv0))) (y7 hG off0.ext).2.1)
    intro W17 hO
    replace k_t2 := k_t2.o hO
    replace k_t4 := k_t4.o hO
    replace k_t6 := k_t6.o hO
    replace k_t7 := k_t7.o hO
    replace k_t9 := k_t9.o hO
    replace k_t10 := k_t10.o hO
    replace k_s38 := k_s38.o hO
    replace y6 := Sl.off y6 hO f0
    replace off0 := off0.o hO
    clear hO
    refine s6 (fun W => True) (fun W hS => trivial) trivial ?_
    refine w6 rfl ?_
    refine Ln ?_ (z := q7 .u8 64 (j0 0)) (t := 30)
    intro j1z W18 x6 hO h_
    have Q7 := bn k_t2 x6
    have t9 := bn k_t4 x6
    have n8 := bn k_t6 x6
    have Q8 := bn k_t7 x6
    have nq_t9_t11 := bn k_t9 x6
    have nq_t10_t11 := bn k_t10 x6
    have V4 := bn k_s38 x6
    have p8 := d8 (Sl.lt y6) x6
    have t0 := l4 off0 x6
    replace k_t2 := k_t2.o hO
    replace k_t4 := k_t4.o hO
    replace k_t6 := k_t6.o hO
    replace k_t7 := k_t7.o hO
    replace k_t9 := k_t9.o hO
    replace k_t10 := k_t10.o hO
    replace k_s38 := k_s38.o hO
    replace y6 := Sl.off y6 hO f0
    replace off0 := off0.o hO
    have k_t11 := h_
    clear hO h_ x6
    refine s6 (fun W => True) (fun W hS => trivial) trivial ?_
    refine w6 rfl ?_
    refine LpA ?_ k_t11 (k := .u8) (n := 64) (f := j0 U5)
    intro W19 hO h_
    replace k_t11 : Blk W19 j1z (q7 .u8 64 (j0 U5)) 30 := h_
    clear h_
    replace k_t2 := k_t2.p hO Q7
    replace k_t4 := k_t4.p hO t9
    replace k_t6 := k_t6.p hO n8
    replace k_t7 := k_t7.p hO Q8
    replace k_t9 := k_t9.p hO nq_t9_t11
    replace k_t10 := k_t10.p hO nq_t10_t11
    replace k_s38 := k_s38.p hO V4
    replace y6 := Sl.off y6 hO (f1 p8)
    replace off0 := off0.p hO t0
    clear hO
    refine s6 (fun W => True) (fun W hS => trivial) trivial ?_
    refine q3b ?_
    exact ⟨q8j, j1z, (by (simp only [y9u, List.foldl_cons, List.foldl_nil, Act.put, mA, mB, mC] <;> rfl)), off0, k_t2, k_t4, k_t6, k_t7, k_t9, k_t10, k_s38, k_t11, y6, q5a, F8, F9, I0, I1, I2, B6, T8, t0, Q7, t9, n8, Q8, nq_t9_t11, nq_t10_t11, V4, p8⟩
   ·
    have _f := True.intro
    refine Ln ?_ (z := q7 .u8 64 (j0 0)) (t := 30)
    intro j2a W17 x6 hO h_
    have Q7 := bn k_t2 x6
    have t9 := bn k_t4 x6
    have n8 := bn k_t6 x6
    have Q8 := bn k_t7 x6
    have nq_t9_t11 := bn k_t9 x6
    have nq_t10_t11 := bn k_t10 x6
    have V4 := bn k_s38 x6
    have p8 := d8 (Sl.lt y6) x6
    have t0 := l4 off0 x6
    replace k_t2 := k_t2.o hO
    replace k_t4 := k_t4.o hO
    replace k_t6 := k_t6.o hO
    replace k_t7 := k_t7.o hO
    replace k_t9 := k_t9.o hO
    replace k_t10 := k_t10.o hO
    replace k_s38 := k_s38.o hO
    replace y6 := Sl.off y6 hO f0
    replace off0 := off0.o hO
    have k_t11 := h_
    clear hO h_ x6
    refine s6 (fun W => True) (fun W hS => trivial) trivial ?_
    refine w6 rfl ?_
    refine Lr ?_ (L6 HU5.out [lb 32 U2, lb 32 U4] (some ⟨q8j, 0, none⟩) 2 (by simp only [List.flatten_cons, List.flatten_nil, List.append_nil, List.nil_append, List.append_assoc, List.cons_append]) (by first | omega | (simp only [List.length_append, List.length_cons, List.length_nil, g7]; omega)) (by simp) W17 (A0 k_s38 (pvc (b6 (V := U2) (n := 32) (off := 32) k_t6 g1d (by decide) (by decide)) (pvc (b6 (V := U4) (n := 32) (off := 0) k_t10 ap0 (by decide) (by decide)) pv0))) (y7 hG off0.ext).2.1)
    intro W18 hO
    replace k_t2 := k_t2.o hO
    replace k_t4 := k_t4.o hO
    replace k_t6 := k_t6.o hO
    replace k_t7 := k_t7.o hO
    replace k_t9 := k_t9.o hO
    replace k_t10 := k_t10.o hO
    replace k_s38 := k_s38.o hO
    replace k_t11 := k_t11.o hO
    replace y6 := Sl.off y6 hO f0
    replace off0 := off0.o hO
    clear hO
    refine s6 (fun W => True) (fun W hS => trivial) trivial ?_
    refine w6 rfl ?_
    refine LpA ?_ k_t11 (k := .u8) (n := 64) (f := j0 U5)
    intro W19 hO h_
    replace k_t11 : Blk W19 j2a (q7 .u8 64 (j0 U5)) 30 := h_
    clear h_
    replace k_t2 := k_t2.p hO Q7
    replace k_t4 := k_t4.p hO t9
    replace k_t6 := k_t6.p hO n8
    replace k_t7 := k_t7.p hO Q8
    replace k_t9 := k_t9.p hO nq_t9_t11
    replace k_t10 := k_t10.p hO nq_t10_t11
    replace k_s38 := k_s38.p hO V4
    replace y6 := Sl.off y6 hO (f1 p8)
    replace off0 := off0.p hO t0
    clear hO
    refine s6 (fun W => True) (fun W hS => trivial) trivial ?_
    refine q3b ?_
    exact ⟨q8j, j2a, (by (simp only [y9u, List.foldl_cons, List.foldl_nil, Act.put, mA, mB, mC] <;> rfl)), off0, k_t2, k_t4, k_t6, k_t7, k_t9, k_t10, k_s38, k_t11, y6, q5a, F8, F9, I0, I1, I2, B6, T8, t0, Q7, t9, n8, Q8, nq_t9_t11, nq_t10_t11, V4, p8⟩
  ·
   have _f := True.intro
   refine Ln ?_ (z := q7 .u8 64 (j0 0)) (t := 30)
   intro j2b W16 x6 hO h_
   have Q7 := bn k_t2 x6
   have t9 := bn k_t4 x6
   have n8 := bn k_t6 x6
   have Q8 := bn k_t7 x6
   have nq_t9_t11 := bn k_t9 x6
   have nq_t10_t11 := bn k_t10 x6
   have p8 := d8 (Sl.lt y6) x6
   have t0 := l4 off0 x6
   replace k_t2 := k_t2.o hO
   replace k_t4 := k_t4.o hO
   replace k_t6 := k_t6.o hO
   replace k_t7 := k_t7.o hO
   replace k_t9 := k_t9.o hO
   replace k_t10 := k_t10.o hO
   replace y6 := Sl.off y6 hO f0
   replace off0 := off0.o hO
   have k_t11 := h_
   clear hO h_ x6
   refine s6 (fun W => True) (fun W hS => trivial) trivial ?_
   refine w6 rfl ?_
   refine I4 ?_ (z := #[.slice (some ⟨E3, 32, none⟩) 32 32, .slice (some ⟨E4, 0, none⟩) 32 32]) (t := 23) (n := 2) (c := 2) (hr := by exact Q5 [.slice (some ⟨E3, 32, none⟩) 32 32, .slice (some ⟨E4, 0, none⟩) 32 32] rfl rfl (vsc (rfl) (vsc (rfl) vs0)) Tryd.underlying112 (by kernel_rfl) (by kernel_rfl) rfl (by decide) (by decide))
   intro j2c W17 G6 hO h_
   have F8 := bn k_t2 G6
   have F9 := bn k_t4 G6
   have I0 := bn k_t6 G6
   have I1 := bn k_t7 G6
   have I2 := bn k_t9 G6
   have B6 := bn k_t10 G6
   have nq_t11_s38 := bn k_t11 G6
   have T8 := d8 (Sl.lt y6) G6
   have q5a := l4 off0 G6
   replace k_t2 := k_t2.o hO
   replace k_t4 := k_t4.o hO
   replace k_t6 := k_t6.o hO
   replace k_t7 := k_t7.o hO
   replace k_t9 := k_t9.o hO
   replace k_t10 := k_t10.o hO
   replace k_t11 := k_t11.o hO
   replace y6 := Sl.off y6 hO f0
   replace off0 := off0.o hO
   have k_s38 := h_
   clear hO h_ G6
   refine s6 (fun W => True) (fun W hS => trivial) trivial ?_
   refine w6 rfl ?_
   refine Lr ?_ (L6 HU5.out [lb 32 U2, lb 32 U4] (some ⟨j2c, 0, none⟩) 2 (by simp only [List.flatten_cons, List.flatten_nil, List.append_nil, List.nil_append, List.append_assoc, List.cons_append]) (by first | omega | (simp only [List.length_append, List.length_cons, List.length_nil, g7]; omega)) (by simp) W17 (A0 k_s38 (pvc (b6 (V := U2) (n := 32) (off := 32) k_t6 g1d (by decide) (by decide)) (pvc (b6 (V := U4) (n := 32) (off := 0) k_t10 ap0 (by decide) (by decide)) pv0))) (y7 hG off0.ext).2.1)
   intro W18 hO
   replace k_t2 := k_t2.o hO
   replace k_t4 := k_t4.o hO
   replace k_t6 := k_t6.o hO
   replace k_t7 := k_t7.o hO
   replace k_t9 := k_t9.o hO
   replace k_t10 := k_t10.o hO
   replace k_t11 := k_t11.o hO
   replace k_s38 := k_s38.o hO
   replace y6 := Sl.off y6 hO f0
   replace off0 := off0.o hO
   clear hO
   refine s6 (fun W => True) (fun W hS => trivial) trivial ?_
   refine w6 rfl ?_
   refine LpA ?_ k_t11 (k := .u8) (n := 64) (f := j0 U5)
   intro W19 hO h_
   replace k_t11 : Blk W19 j2b (q7 .u8 64 (j0 U5)) 30 := h_
   clear h_
   replace k_t2 := k_t2.p hO Q7
   replace k_t4 := k_t4.p hO t9
   replace k_t6 := k_t6.p hO n8
   replace k_t7 := k_t7.p hO Q8
   replace k_t9 := k_t9.p hO nq_t9_t11
   replace k_t10 := k_t10.p hO nq_t10_t11
   replace k_s38 := k_s38.p hO nq_t11_s38.symm
   replace y6 := Sl.off y6 hO (f1 p8)
   replace off0 := off0.p hO t0
   clear hO
   refine s6 (fun W => True) (fun W hS => trivial) trivial ?_
   refine q3b ?_
   exact ⟨j2c, j2b, (by (simp only [y9u, List.foldl_cons, List.foldl_nil, Act.put, mA, mB, mC] <;> rfl)), off0, k_t2, k_t4, k_t6, k_t7, k_t9, k_t10, k_s38, k_t11, y6, q5a, F8, F9, I0, I1, I2, B6, T8, t0, Q7, t9, n8, Q8, nq_t9_t11, nq_t10_t11, nq_t11_s38.symm, p8⟩
 rintro _ W20 ⟨j_s38, j_t11, rfl, off0, k_t2, k_t4, k_t6, k_t7, k_t9, k_t10, k_s38, k_t11, y6, q5a, F8, F9, I0, I1, I2, B6, T8, t0, Q7, t9, n8, Q8, nq_t9_t11, nq_t10_t11, V4, p8⟩
 simp only [y9u, List.foldl_cons, List.foldl_nil]
 (try simp only [Act.put, mA, mB, mC])
 go_upto_region 8 with fail
 refine wp_region_lit ?_
 refine Lw ?_ (v := .slice (some ⟨j_t11, 0, none⟩) 64 64) (hv := by first | rfl | (go_simp; done) | (go_simp; with_reducible rfl))
 refine Lr ?_ (j0u HU6.out (n := 64) (off := 0) k_t11 ap0 (by decide) (by rw [HU5.out]; exact j1m _) (y7 hG off0.ext).2.2.1)
 intro W21 hO
 replace k_t4 := k_t4.o hO
 replace k_t6 := k_t6.o hO
 replace k_t7 := k_t7.o hO
 replace k_t9 := k_t9.o hO
 replace off0 := off0.o hO
 clear hO
 refine K8 ?_ (z := c4 0) (t := 42) (cells := c4 U6)
 intro T9 W23 R8 hO h_
 replace k_t4 := k_t4.o hO
 replace k_t6 := k_t6.o hO
 replace k_t7 := k_t7.o hO
 replace k_t9 := k_t9.o hO
 replace off0 := off0.o hO
 have k_t12 := h_
 clear hO h_ R8
 refine q5 ?_
 go_upto_region 9 with fail
 refine Q3 (.q 0 (.q 1 (.q 2 (.q 3 (.q 5 (.q 8 (.q 9 (.e 4 (.e 6 (.e 7 (.e 10 (.e 11 (.e 12 (.e 13 (.q 14 .z))))))))))))))) (fun W => (Blk W E3 (s3 U1 U2 U3) 25) ∧ (Blk W q3j (p4 hx hy hz ht) 60) ∧ (Blk W T7 (p4 x1 y2 z3 t4) 60) ∧ (Blk W T9 (c4 U6) 42)) (by kernel_rfl) (by kernel_rfl) ?_
 intro W24 hO
 replace k_t4 := k_t4.o hO
 replace k_t6 := k_t6.o hO
 replace k_t7 := k_t7.o hO
 replace k_t9 := k_t9.o hO
 replace k_t12 := k_t12.o hO
 replace off0 := off0.o hO
 clear hO
 refine ⟨⟨k_t6, k_t7, k_t9, k_t12⟩, ?_⟩
 (refine a9 (v := ?_) rfl (by rfl) (fun W hS => ?_) ?_; rotate_left 1; (focus (go_simp; first | done | with_reducible rfl)))
 (try simp only [Act.put, mA, mB, mC])
 refine a9 (v := .agg (q7 .u8 32 (j0 U3))) rfl (by rfl) (fun W hS => by exact (q2k (vs := (q7 .u8 32 (j0 U3)).toList) rfl rfl (fun i v hv => by rw [j3 (hS.1)]; exact g1e i v (by simpa using hv)) (by kernel_rfl) (by kernel_rfl))) ?_
 (try simp only [Act.put, mA, mB, mC])
 refine a9 (v := .agg (p4 hx hy hz ht)) rfl (by rfl) (fun W hS => by exact (i8 rfl rfl (hS.2.1) (by kernel_rfl) (by kernel_rfl))) ?_
 (try simp only [Act.put, mA, mB, mC])
 refine a9 (v := .agg (p4 x1 y2 z3 t4)) rfl (by rfl) (fun W hS => by exact (i8 rfl rfl (hS.2.2.1) (by kernel_rfl) (by kernel_rfl))) ?_
 (try simp only [Act.put, mA, mB, mC])
 refine a9 (v := .agg (c4 U6)) rfl (by rfl) (fun W hS => by exact (i8 rfl rfl (hS.2.2.2) (by kernel_rfl) (by kernel_rfl))) ?_
 (try simp only [Act.put, mA, mB, mC])
 refine a9 (v := .agg (p4 hx hy hz ht)) rfl (by rfl) (fun W hS => by exact (i8 rfl rfl (hS.2.1) (by kernel_rfl) (by kernel_rfl))) ?_
 (try simp only [Act.put, mA, mB, mC])
 refine a9 (v := .agg (c4 U6)) rfl (by rfl) (fun W hS => by exact (i8 rfl rfl (hS.2.2.2) (by kernel_rfl) (by kernel_rfl))) ?_
 (try simp only [Act.put, mA, mB, mC])
 refine w6 rfl ?_
 refine Lr ?_ (c12 W24 (y7 hG off0.ext).1)
 intro W25 hO
 replace k_t4 := k_t4.o hO
 replace k_t6 := k_t6.o hO
 replace k_t7 := k_t7.o hO
 replace k_t9 := k_t9.o hO
 replace k_t12 := k_t12.o hO
 replace off0 := off0.o hO
 clear hO
 refine s6 (fun W => (Blk W E3 (s3 U1 U2 U3) 25) ∧ (Blk W q3j (p4 hx hy hz ht) 60) ∧ (Blk W T7 (p4 x1 y2 z3 t4) 60) ∧ (Blk W T9 (c4 U6) 42)) (fun W hS => ⟨hS.1, hS.2.1, hS.2.2.1, hS.2.2.2⟩) ⟨k_t6, k_t7, k_t9, k_t12⟩ ?_
 refine w6 rfl ?_
 refine Lr ?_ (q1q lU6 W25 (y7 hG off0.ext).2.2.1)
 intro W26 hO
 replace k_t4 := k_t4.o hO
 replace k_t6 := k_t6.o hO
 replace k_t7 := k_t7.o hO
 replace k_t9 := k_t9.o hO
 replace k_t12 := k_t12.o hO
 replace off0 := off0.o hO
 clear hO
 refine s6 (fun W => (Blk W E3 (s3 U1 U2 U3) 25) ∧ (Blk W q3j (p4 hx hy hz ht) 60) ∧ (Blk W T7 (p4 x1 y2 z3 t4) 60) ∧ (Blk W T9 (c4 U6) 42)) (fun W hS => ⟨hS.1, hS.2.1, hS.2.2.1, hS.2.2.2⟩) ⟨k_t6, k_t7, k_t9, k_t12⟩ ?_
 refine w6 rfl ?_
 refine Lr ?_ (c18 W26 (y7 hG off0.ext).1)
 intro W27 hO
 replace k_t4 := k_t4.o hO
 replace k_t6 := k_t6.o hO
 replace k_t7 := k_t7.o hO
 replace k_t9 := k_t9.o hO
 replace k_t12 := k_t12.o hO
 replace off0 := off0.o hO
 clear hO
 refine s6 (fun W => (Blk W E3 (s3 U1 U2 U3) 25) ∧ (Blk W q3j (p4 hx hy hz ht) 60) ∧ (Blk W T7 (p4 x1 y2 z3 t4) 60) ∧ (Blk W T9 (c4 U6) 42)) (fun W hS => ⟨hS.1, hS.2.1, hS.2.2.1, hS.2.2.2⟩) ⟨k_t6, k_t7, k_t9, k_t12⟩ ?_
 refine w6 rfl ?_
 refine Lr ?_ (q1q lU6 W27 (y7 hG off0.ext).2.2.1)
 intro W28 hO
 replace k_t4 := k_t4.o hO
 replace k_t6 := k_t6.o hO
 replace k_t7 := k_t7.o hO
 replace k_t9 := k_t9.o hO
 replace k_t12 := k_t12.o hO
 replace off0 := off0.o hO
 clear hO
 refine s6 (fun W => (Blk W E3 (s3 U1 U2 U3) 25) ∧ (Blk W q3j (p4 hx hy hz ht) 60) ∧ (Blk W T7 (p4 x1 y2 z3 t4) 60) ∧ (Blk W T9 (c4 U6) 42)) (fun W hS => ⟨hS.1, hS.2.1, hS.2.2.1, hS.2.2.2⟩) ⟨k_t6, k_t7, k_t9, k_t12⟩ ?_
 refine w6 rfl ?_
 refine Lr ?_ (c24 W28 (y7 hG off0.ext).1)
 intro W29 hO
 replace k_t4 := k_t4.o hO
 replace k_t6 := k_t6.o hO
 replace k_t7 := k_t7.o hO
 replace k_t9 := k_t9.o hO
 replace k_t12 := k_t12.o hO
 replace off0 := off0.o hO
 clear hO
 refine s6 (fun W => (Blk W E3 (s3 U1 U2 U3) 25) ∧ (Blk W q3j (p4 hx hy hz ht) 60) ∧ (Blk W T7 (p4 x1 y2 z3 t4) 60) ∧ (Blk W T9 (c4 U6) 42)) (fun W hS => ⟨hS.1, hS.2.1, hS.2.2.1, hS.2.2.2⟩) ⟨k_t6, k_t7, k_t9, k_t12⟩ ?_
 refine w6 rfl ?_
 refine I4 ?_ (z := (p4 hx hy hz ht) ++ (p4 x1 y2 z3 t4) ++ (p4 x13 y14 z15 t16) ++ (p4 x19 y20 z21 t22)) (t := 60) (n := 4) (c := 4)
 intro g2m W30 g6l hO h_
 replace k_t4 := k_t4.o hO
 replace k_t6 := k_t6.o hO
 replace k_t7 := k_t7.o hO
 replace k_t9 := k_t9.o hO
 replace k_t12 := k_t12.o hO
 replace off0 := off0.o hO
 have g6m := h_
 clear hO h_ g6l
 refine s6 (fun W => (Blk W E3 (s3 U1 U2 U3) 25) ∧ (Blk W q3j (p4 hx hy hz ht) 60) ∧ (Blk W T7 (p4 x1 y2 z3 t4) 60) ∧ (Blk W T9 (c4 U6) 42)) (fun W hS => ⟨hS.1, hS.2.1, hS.2.2.1, hS.2.2.2⟩) ⟨k_t6, k_t7, k_t9, k_t12⟩ ?_
 refine w6 rfl ?_
 refine q4q (R := fun v W => ∃ p, v = .slice (some ⟨p, 0, none⟩) 16 64 ∧ W30.heap.size ≤ p ∧ Off [] W30 W ∧ Blk W p (q7 .u8 64 (j0 U7)) 30) ((y1m (kn := kn) hr r5 r17 r23 HU7.out g2m W30 (y7 hG off0.ext) g6m).mono fun e W h => by obtain ⟨p, h1, h2⟩ := h; exact ⟨_, h1, p, rfl, h2⟩) (by rfl) rfl (by kernel_rfl) rfl ?_
 (try simp only [Act.put, mA, mB, mC])
 rintro _ W31 ⟨pm31, rfl, n_mk, hO, h_⟩
 (try simp only [Act.put, mA, mB, mC])
 replace k_t4 := k_t4.o hO
 replace k_t6 := k_t6.o hO
 replace k_t7 := k_t7.o hO
 replace k_t9 := k_t9.o hO
 replace k_t12 := k_t12.o hO
 replace off0 := off0.o hO
 have k_mk := h_
 clear hO h_ n_mk
 refine s6 (fun W => (Blk W E3 (s3 U1 U2 U3) 25) ∧ (Blk W q3j (p4 hx hy hz ht) 60) ∧ (Blk W T7 (p4 x1 y2 z3 t4) 60) ∧ (Blk W T9 (c4 U6) 42)) (fun W hS => ⟨hS.1, hS.2.1, hS.2.2.1, hS.2.2.2⟩) ⟨k_t6, k_t7, k_t9, k_t12⟩ ?_
 (refine a9 (v := ?_) rfl (by rfl) (fun W hS => ?_) ?_; rotate_left 1; (focus (go_simp; first | done | with_reducible rfl)))
 (try simp only [Act.put, mA, mB, mC])
 refine q3b ?_
 go_upto_region 10 with fail
 refine Rx1 9 14 (z := q7 .u8 32 (j0 0)) (t := 22) ?_
 refine Xl ?_ k_t12
 refine Xv ?_
 refine Xf ?_ (fun W hW => j0u HU9.out (n := 16) (off := 0) (q6 k_mk hW) (h16 HU8.out) (by decide) qU8 (y7 (y7 hG off0.ext) hW).2.2.1)
 refine Xv ?_
 refine Xw ?_ (v := .slice (some ⟨E3, 0, none⟩) 32 32)
 refine Xf ?_ (fun W hW => j0u HU10.out (n := 32) (off := 0) (q6 k_t6 hW) g1c (by decide) bU1 (y7 (y7 hG off0.ext) hW).2.2.1)
 refine Xf ?_ (fun W hW => g1h HU11.out (Nat.lt_trans lU9 Y7) (Nat.lt_trans lU10 Y7) W (y7 (y7 hG off0.ext) hW).2.2.1)
 refine Xf ?_ (fun W hW => g1i HU12.out (Nat.lt_trans lU6 Y7) (Nat.lt_trans lU11 Y7) W (y7 (y7 hG off0.ext) hW).2.2.1)
 refine Xf ?_ (fun W hW => q1q lU12 W (y7 (y7 hG off0.ext) hW).2.2.1)
 refine XN ?_
 intro q8k W32 B7 hE h_t14
 have hO := g8 hE
 have y6j := bn k_t4 B7
 have y6k := bn k_t9 B7
 have y6l := bn k_mk B7
 have y1s := l4 off0 B7
 replace k_t4 := k_t4.o hO
 replace k_t9 := k_t9.o hO
 replace k_mk := k_mk.o hO
 replace off0 := off0.o hO
 clear hO hE B7
 have k_t14 : Blk W32 q8k (q7 .u8 32 (j0 0)) 22 := h_t14
 clear h_t14
 refine LpA ?_ k_t14 (k := .u8) (n := 32) (f := j0 U12)
 intro W33 hO h_
 replace k_t14 : Blk W33 q8k (q7 .u8 32 (j0 U12)) 22 := h_
 clear h_
 replace k_t4 := k_t4.p hO y6j
 replace k_t9 := k_t9.p hO y6k
 replace k_mk := k_mk.p hO y6l
 replace off0 := off0.p hO y1s
 clear hO
 refine LN ?_
 go_upto_region 11 with fail
 refine wp_region_lit ?_
 refine L0 ?_ k_t9
 refine Lr ?_ (T0 r5.rw HU13.out W33 (y7 hG off0.ext).1)
 intro W34 hO
 replace k_t4 := k_t4.o hO
 replace k_mk := k_mk.o hO
 replace k_t14 := k_t14.o hO
 replace off0 := off0.o hO
 clear hO
 refine LnA ?_ (z := q7 .u8 32 (j0 0)) (t := 22) (k := .u8) (n := 32) (f := j0 U13)
 intro g2n W36 P0 hO h_
 replace k_t4 := k_t4.o hO
 replace k_mk := k_mk.o hO
 replace k_t14 := k_t14.o hO
 replace off0 := off0.o hO
 have k_t15 := h_
 clear hO h_ P0
 refine q5 ?_
 go_upto_region 12 with fail
 refine Q3 (.q 1 (.q 3 (.q 5 (.e 0 (.e 2 (.e 4 (.e 6 (.q 7 (.q 8 (.e 9 (.q 10 .z))))))))))) (fun W => True) (by kernel_rfl) (by kernel_rfl) ?_
 intro W37 hO
 replace k_t4 := k_t4.o hO
 replace k_mk := k_mk.o hO
 replace k_t14 := k_t14.o hO
 replace k_t15 := k_t15.o hO
 replace off0 := off0.o hO
 clear hO
 refine ⟨trivial, ?_⟩
 refine a9 (v := .slice (some ⟨g2n, 0, none⟩) 32 32) rfl (by rfl) (fun W hS => by first | rfl | (go_simp; done) | (go_simp; with_reducible rfl)) ?_
 (try simp only [Act.put, mA, mB, mC])
 (refine a9 (v := ?_) rfl (by rfl) (fun W hS => ?_) ?_; rotate_left 1; (focus (go_simp; first | done | with_reducible rfl)))
 (try simp only [Act.put, mA, mB, mC])
 refine a9 (v := .slice (some ⟨q8k, 0, none⟩) 32 32) rfl (by rfl) (fun W hS => by first | rfl | (go_simp; done) | (go_simp; with_reducible rfl)) ?_
 (try simp only [Act.put, mA, mB, mC])
 refine w6 rfl ?_
 refine I4 ?_ (z := #[]) (t := 5) (n := 0) (c := 0)
 intro q5b W38 q9v hO h_
 have q6q : Value.ownBlock (.slice (some ⟨q5b, 0, none⟩) 0 0) ≠ some L3 := obn k_t4 q9v
 have y6m : Value.ownBlock (.slice (some ⟨q5b, 0, none⟩) 0 0) ≠ some pm31 := obn k_mk q9v
 have q5c : Value.ownBlock (.slice (some ⟨q5b, 0, none⟩) 0 0) ≠ some q8k := obn k_t14 q9v
 have j2d : Fr (Value.ownBlock (.slice (some ⟨q5b, 0, none⟩) 0 0)) w.heap.size [] := frn off0 q9v
 replace k_t4 := k_t4.o hO
 replace k_mk := k_mk.o hO
 replace k_t14 := k_t14.o hO
 replace k_t15 := k_t15.o hO
 replace off0 := off0.o hO
 have g2o : Own W38 (.slice (some ⟨q5b, 0, none⟩) 0 0) [] := b5 h_ (by rfl) (by show 0 ≤ maxLen; decide)
 clear hO h_ q9v
 refine s6 (fun W => True) (fun W hS => trivial) trivial ?_
 refine w6 rfl ?_
 refine a5 (xs := []) (ys := (lb 32 U13)) (by rfl) rfl rfl rfl g2o (b6 (V := U13) (n := 32) (off := 0) k_t15 ap0 (by decide) (by decide)) (by first | omega | (simp only [List.length_append, List.length_cons, List.length_nil, g7]; omega)) ?_
 (try simp only [Act.put, mA, mB, mC])
 intro g9c W39 g2p hO q8l nil_a69
 clear nil_a69
 have q6r := l7 q8l q6q (y4 k_t4)
 have y1t := l7 q8l q5c (y4 k_t14)
 have j2e := Q0 q8l j2d off0.size
 replace k_t4 := z7 k_t4 hO (nmo q6q)
 replace k_mk := z7 k_mk hO (nmo y6m)
 replace k_t14 := z7 k_t14 hO (nmo q5c)
 replace off0 := off0.step hO (io j2d)
 clear hO q8l
 refine s6 (fun W => True) (fun W hS => trivial) trivial ?_
 refine w6 rfl ?_
 refine a5 (xs := ([] ++ (lb 32 U13))) (ys := (lb 16 U8)) (by rfl) rfl rfl rfl g2p (b6 (V := U8) (n := 16) (off := 0) k_mk (h16 HU8.out) (by decide) (by decide)) (by first | omega | (simp only [List.length_append, List.length_cons, List.length_nil, g7]; omega)) ?_
 (try simp only [Act.put, mA, mB, mC])
 intro g9d W40 g2q hO y1u nil_a71
 clear nil_a71
 have q6s := l7 y1u q6r (y4 k_t4)
 have g2r := Q0 y1u j2e off0.size
 replace k_t4 := z7 k_t4 hO (nmo q6r)
 replace k_t14 := z7 k_t14 hO (nmo y1t)
 replace off0 := off0.step hO (io j2e)
 clear hO y1u
 refine s6 (fun W => True) (fun W hS => trivial) trivial ?_
 refine w6 rfl ?_
 refine a5 (xs := (([] ++ (lb 32 U13)) ++ (lb 16 U8))) (ys := (lb 32 U12)) (by rfl) rfl rfl rfl g2q (b6 (V := U12) (n := 32) (off := 0) k_t14 ap0 (by decide) (by decide)) (by first | omega | (simp only [List.length_append, List.length_cons, List.length_nil, g7]; omega)) ?_
 (try simp only [Act.put, mA, mB, mC])
 intro y1v W41 q5d hO j2f nil_a73
 clear nil_a73
 have y6n := l7 j2f q6s (y4 k_t4)
 replace k_t4 := z7 k_t4 hO (nmo q6s)
 replace off0 := off0.step hO (io g2r)
 clear hO j2f
 refine s6 (fun W => (Own W y1v ((([] ++ (lb 32 U13)) ++ (lb 16 U8)) ++ (lb 32 U12)))) (fun W hS => trivial) q5d ?_
 have ln_ : ((([] ++ (lb 32 U13)) ++ (lb 16 U8)) ++ (lb 32 U12)).length = 80 := by simp only [List.length_append, g7, List.length_nil]
 obtain ⟨gz, cz, curz, ez, -, -⟩ := q9m q5d (by rw [ln_]; decide)
 rw [ln_] at ez
 refine a9 (v := .pointer (some ⟨gz, 0, none⟩)) rfl (by rfl) (fun W hS => by exact (j6a (n := 80) rfl (by show y1v = _; exact ez) Tryd.underlying45)) ?_
 (try simp only [Act.put, mA, mB, mC])
 refine a9 (v := .agg (q7 .u8 80 (j0 (U13 + 2 ^ 256 * (U8 + p7 * U12))))) rfl (by rfl) (fun W hS => by exact (q2k (vs := (q7 .u8 80 (j0 (U13 + 2 ^ 256 * (U8 + p7 * U12)))).toList) rfl rfl (g1k (hS) ez ln_ (by decide) (by rw [List.nil_append]; exact j1y bU13 qU8)) (by kernel_rfl) (by rw [Array.length_toList, y5]; kernel_rfl))) ?_
 (try simp only [Act.put, mA, mB, mC])
 refine w6 rfl ?_
 refine LpA ?_ k_t4 (k := .u8) (n := 80) (f := j0 (U13 + 2 ^ 256 * (U8 + p7 * U12)))
 intro W42 hO h_
 replace k_t4 : Blk W42 L3 (q7 .u8 80 (j0 (U13 + 2 ^ 256 * (U8 + p7 * U12)))) 45 := h_
 clear h_
 replace q5d := Own.off q5d hO (f1 y6n)
 replace off0 := off0.p hO Q9
 clear hO
 refine s6 (fun W => (Own W y1v ((([] ++ (lb 32 U13)) ++ (lb 16 U8)) ++ (lb 32 U12)))) (fun W hS => hS) q5d ?_
 (refine a9 (v := ?_) rfl (by rfl) (fun W hS => ?_) ?_; rotate_left 1; (focus (go_simp; first | done | with_reducible rfl)))
 (try simp only [Act.put, mA, mB, mC])
 refine q3b ?_
 go_wp2
 rw [show q7 .u8 80 (j0 (U13 + 2 ^ 256 * (U8 + p7 * U12))) = q7 .u8 80 (j0 (vPr S h)) by rw [HU13.out, HU12.out, HU11.out, HU10.out, HU9.out, HU8.out, HU7.out, HU6.out, HU5.out, HU4.out, HU3.out, HU2.out, HU1.out]; rfl] at k_t4
 exact bodyPost_ret (u4 rfl rfl rfl k_t4 (by kernel_rfl) (by rw [y5]; kernel_rfl)) rfl ⟨rfl, off0.ext⟩
theorem j6n (hd : kn.d) (hb : kn.b) (hc : kn.c) (S : Nat) (v : Value) (L : List UInt8) (hL : L.length ≤ 1099511627776) (hv : vpt (kP S) L = none) :
  ∀ w, GA kn w → Sl w v L → Calls Tryd.prog 23 #[.agg (q7 .u8 32 (j0 S)), v] w fun e w' => m7 (.tuple #[.agg (q7 .u8 80 (j0 0)), .int .i64 15]) w w' e := by
 obtain ⟨U1, hU1⟩ := z8 (kN S)
 have bU1 : U1 < 2 ^ 256 := by rw [hU1]; exact y3y _
 have HU1 := Lib.hid hU1
 clear hU1
 obtain ⟨U2, hU2⟩ := z8 (kD S)
 have bU2 : U2 < 2 ^ 256 := by rw [hU2]; exact y3z _
 have HU2 := Lib.hid hU2
 clear hU2
 obtain ⟨U3, hU3⟩ := z8 (kP S)
 have bU3 : U3 < 2 ^ 256 := by rw [hU3]; exact y4a _
 have HU3 := Lib.hid hU3
 clear hU3
 have hv_ : vpt U3 L = none := by rw [HU3.out]; exact hv
 intro w hG hsl
 have y6 := hsl
 have off0 : Off [] w w := Off.refl _ _
 go_enter Tryd.func23, Tryd.ntmps23
 go_upto_region 0 with fail
 refine wp_region_lit ?_
 refine Ln ?_ (z := q7 .u8 32 (j0 S)) (t := 22)
 intro v9 W1 z4 hO h_
 replace y6 := Sl.off y6 hO f0
 replace off0 := off0.o hO
 have k_t2 := h_
 clear hO h_ z4
 refine Ln ?_ (z := q7 .u8 80 (j0 0)) (t := 45)
 intro L3 W2 a7 hO h_
 have Q9 := l4 off0 a7
 replace k_t2 := k_t2.o hO
 replace y6 := Sl.off y6 hO f0
 replace off0 := off0.o hO
 have k_t4 := h_
 clear hO h_ a7
 refine Lw ?_ (v := .int .i64 0)
 refine q5 ?_
 go_upto_region 1 with fail
 refine wp_region_lit ?_
 refine B9 ?_ k_t2
 refine Lr ?_ (q0c hd hb HU1.out HU2.out HU3.out W2 (y7 hG off0.ext))
 intro W3 hO
 replace k_t4 := k_t4.o hO
 replace y6 := Sl.off y6 hO f0
 replace off0 := off0.o hO
 clear hO
 refine K8 ?_ (z := s3 0 0 0) (t := 25) (cells := s3 U1 U2 U3) (hi := by rw [o4]; kernel_rfl) (hs := by first | rw [o4, o4] | rw [o4] | kernel_rfl) (h1 := by exact q8g)
 intro E3 W5 i7 hO h_
 replace k_t4 := k_t4.o hO
 replace y6 := Sl.off y6 hO f0
 replace off0 := off0.o hO
 have k_t6 := h_
 clear hO h_ i7
 refine q5 ?_
 go_upto_region 2 with fail
 refine wp_region_lit ?_
 refine Lv ?_
 refine z0 (vs := (q7 .u8 32 (j0 U3)).toList) (by rfl) rfl rfl k_t6 (J0 g1e) (by kernel_rfl) (by kernel_rfl) ?_
 (try simp only [Act.put, mA, mB, mC])
 refine Lv ?_
 refine Lr ?_ (y4j (kn := kn) hc hL hv_ v W5 (y7 hG off0.ext) y6)
 intro W6 hO
 replace k_t4 := k_t4.o hO
 replace off0 := off0.o hO
 clear hO
 refine Lv ?_
 refine Lv ?_
 refine Lw ?_ (v := .int .i64 15)
 refine K8 ?_ (z := p4 0 0 0 0) (t := 60) (cells := p4 0 0 0 0)
 intro q3j W8 u9 hO h_
 replace k_t4 := k_t4.o hO
 replace off0 := off0.o hO
 clear hO h_ u9
 refine Lw ?_ (v := .int .i64 15)
 refine q5 ?_
 go_upto_region 4 with fail
 refine wp_region_lit ?_
 refine Lw ?_ (v := .agg (q7 .u8 80 (j0 0))) (hv := by kernel_rfl)
 refine Lw ?_ (v := .int .i64 15)
 refine LpA ?_ k_t4 (k := .u8) (n := 80) (f := j0 0)
 intro W9 hO h_
 replace k_t4 : Blk W9 L3 (q7 .u8 80 (j0 0)) 45 := h_
 clear h_
 replace off0 := off0.p hO Q9
 clear hO
 refine Lw ?_ (v := .int .i64 15)
 refine q5 ?_
 go_wp2
 exact bodyPost_ret (u4 rfl rfl rfl k_t4 (by kernel_rfl) (by rw [y5]; kernel_rfl)) rfl ⟨rfl, off0.ext⟩
end Go.Proofs.YtefpoollmbmkfaaDoor

namespace Go.Proofs.YtefpoollmbmkfaaDoor
set_option maxHeartbeats 2000000
set_option maxRecDepth 100000
open Go.RowKit
attribute [local irreducible] wpList D9
variable {kn : Kn}
open Sc (LL e9)
attribute [local irreducible] hs
theorem q9w : p7 < 2 ^ 256 := by decide
theorem j6o {C : Nat} (hC : C < p7) (v : Value) (w : World) (h : Sl w v (lb 16 C)) : Calls Tryd.prog 66 #[v] w fun e w' => m7 (.agg (q7 .u8 32 (j0 C))) w w' e := by
  have h2 := g2e v (lb 16 C) (g7 _ _) w h
  rw [y3f 16 C hC] at h2
  exact h2
theorem j2g {A B : Nat} (hA : A < p7) (hB : B < p7) (h : lb 16 A = lb 16 B) : A = B := by
  rw [← y3f 16 A hA, ← y3f 16 B hB, h]
theorem q5e {W : World} {o : Oper} {a : Act} {x y : Operand} {t : TypeId} {l m : List UInt8} {b : Bool} (hb : (!decide (l = m)) = b) (ho : o.op = .binOp .neq 9 x y t) (hx : a.eval x = str l) (hy : a.eval y = str m) : (execOp a.eval o).run Tryd.prog W = .ok (.value (.bool b)) W := by
  exact hb ▸ y5i ho hx hy
def chk (V P : Nat) (h : Pr) : Nat := ch V h (B1 (pG P)) (u5 (pm BP (pN P)) (pm (G1 (B1 V)) (pC P))) (u5 (pm h (pN P)) (pm (G1 (B1 (pG P))) (pC P)))

theorem j6p (hd : kn.d) (hb : kn.b) (hc : kn.c) {V P : Nat} (hV : V < 2 ^ 256) (hP : B80 P) (v : Value) (L : List UInt8) (hL : L.length ≤ 1099511627776) (hk1 : G9 V = false) :
  ∀ w, GA kn w → Sl w v L → Calls Tryd.prog 26 #[.agg (q7 .u8 32 (j0 V)), v, .agg (q7 .u8 80 (j0 P))] w fun e w' => m7 (.tuple #[.agg (q7 .u8 64 (j0 0)), .int .i64 15]) w w' e := by
 have kc := g6i (kn := kn) hc hV hk1
 intro w hG hsl
 have off0 : Off [] w w := Off.refl _ _
 go_enter Tryd.func26, Tryd.ntmps26
 go_upto_region 0 with fail
 refine wp_region_lit ?_
 refine Ln ?_ (z := q7 .u8 32 (j0 V)) (t := 22)
 intro r7 W1 m8 hO h_
 replace off0 := off0.o hO
 have k_t3 := h_
 clear hO h_ m8
 refine Ln ?_ (z := q7 .u8 80 (j0 P)) (t := 45)
 intro q0h W2 h9 hO h_
 replace k_t3 := k_t3.o hO
 replace off0 := off0.o hO
 clear hO h_ h9
 refine Ln ?_ (z := q7 .u8 64 (j0 0)) (t := 30)
 intro I6 W3 i7 hO h_
 have K4 := l4 off0 i7
 replace k_t3 := k_t3.o hO
 replace off0 := off0.o hO
 have k_t6 := h_
 clear hO h_ i7
 refine Lw ?_ (v := .int .i64 0)
 refine q5 ?_
 go_upto_region 1 with fail
 refine wp_region_lit ?_
 refine B9 ?_ k_t3
 refine Lr ?_ (kc W3 (y7 hG off0.ext))
 intro W4 hO
 replace k_t6 := k_t6.o hO
 replace off0 := off0.o hO
 clear hO
 refine Lv ?_
 refine Lv ?_
 refine Lw ?_ (v := .int .i64 15)
 refine K8 ?_ (z := p4 0 0 0 0) (t := 60) (cells := p4 0 0 0 0)
 intro q3g W6 n3 hO h_
 replace k_t6 := k_t6.o hO
 replace off0 := off0.o hO
 clear hO h_ n3
 refine Lw ?_ (v := .int .i64 15)
 refine q5 ?_
 go_upto_region 3 with fail
 refine wp_region_lit ?_
 refine Lw ?_ (v := .agg (q7 .u8 64 (j0 0))) (hv := by kernel_rfl)
 refine Lw ?_ (v := .int .i64 15)
 refine LpA ?_ k_t6 (k := .u8) (n := 64) (f := j0 0)
 intro W7 hO h_
 replace k_t6 : Blk W7 I6 (q7 .u8 64 (j0 0)) 30 := h_
 clear h_
 replace off0 := off0.p hO K4
 clear hO
 refine Lw ?_ (v := .int .i64 15)
 refine q5 ?_
 go_wp2
 exact bodyPost_ret (u4 rfl rfl rfl k_t6 (by kernel_rfl) (by rw [y5]; kernel_rfl)) rfl ⟨rfl, off0.ext⟩
theorem j6q (hd : kn.d) (hb : kn.b) (hc : kn.c) {V P : Nat} (hV : V < 2 ^ 256) (hP : B80 P) (v : Value) (L : List UInt8) (hL : L.length ≤ 1099511627776) (hk1 : G9 V = true) (hk2 : pm (B1 V) 8 = p0) :
  ∀ w, GA kn w → Sl w v L → Calls Tryd.prog 26 #[.agg (q7 .u8 32 (j0 V)), v, .agg (q7 .u8 80 (j0 P))] w fun e w' => m7 (.tuple #[.agg (q7 .u8 64 (j0 0)), .int .i64 15]) w w' e := by
 obtain ⟨kx, ky, kt, kr, kc⟩ := g6j (kn := kn) hc hV hk1 hk2
 intro w hG hsl
 have off0 : Off [] w w := Off.refl _ _
 go_enter Tryd.func26, Tryd.ntmps26
 go_upto_region 0 with fail
 refine wp_region_lit ?_
 refine Ln ?_ (z := q7 .u8 32 (j0 V)) (t := 22)
 intro r7 W1 m8 hO h_
 replace off0 := off0.o hO
 have k_t3 := h_
 clear hO h_ m8
 refine Ln ?_ (z := q7 .u8 80 (j0 P)) (t := 45)
 intro q0h W2 h9 hO h_
 replace k_t3 := k_t3.o hO
 replace off0 := off0.o hO
 clear hO h_ h9
 refine Ln ?_ (z := q7 .u8 64 (j0 0)) (t := 30)
 intro I6 W3 i7 hO h_
 have K4 := l4 off0 i7
 replace k_t3 := k_t3.o hO
 replace off0 := off0.o hO
 have k_t6 := h_
 clear hO h_ i7
 refine Lw ?_ (v := .int .i64 0)
 refine q5 ?_
 go_upto_region 1 with fail
 refine wp_region_lit ?_
 refine B9 ?_ k_t3
 refine Lr ?_ (kc W3 (y7 hG off0.ext))
 intro W4 hO
 replace k_t6 := k_t6.o hO
 replace off0 := off0.o hO
 clear hO
 refine Lv ?_
 refine Lv ?_
 refine Lw ?_ (v := .int .i64 15)
 refine K8 ?_ (z := p4 0 0 0 0) (t := 60) (cells := p4 kx ky 1 kt)
 intro q3g W6 n3 hO h_
 replace k_t6 := k_t6.o hO
 replace off0 := off0.o hO
 clear hO h_ n3
 refine Lw ?_ (v := .int .i64 15)
 refine q5 ?_
 go_upto_region 3 with fail
 refine wp_region_lit ?_
 refine Lw ?_ (v := .agg (q7 .u8 64 (j0 0))) (hv := by kernel_rfl)
 refine Lw ?_ (v := .int .i64 15)
 refine LpA ?_ k_t6 (k := .u8) (n := 64) (f := j0 0)
 intro W7 hO h_
 replace k_t6 : Blk W7 I6 (q7 .u8 64 (j0 0)) 30 := h_
 clear h_
 replace off0 := off0.p hO K4
 clear hO
 refine Lw ?_ (v := .int .i64 15)
 refine q5 ?_
 go_wp2
 exact bodyPost_ret (u4 rfl rfl rfl k_t6 (by kernel_rfl) (by rw [y5]; kernel_rfl)) rfl ⟨rfl, off0.ext⟩
theorem j2h (hd : kn.d) (hb : kn.b) (hc : kn.c) {V P : Nat} (hV : V < 2 ^ 256) (hP : B80 P) (v : Value) (L : List UInt8) (hL : L.length ≤ 1099511627776) (hk1 : G9 V = true) (hk2 : ¬ pm (B1 V) 8 = p0) (hok : G9 (pG P) = false) (h1 : LL ≤ pN P) :
  ∀ w, GA kn w → Sl w v L → Calls Tryd.prog 26 #[.agg (q7 .u8 32 (j0 V)), v, .agg (q7 .u8 80 (j0 P))] w fun e w' => m7 (.tuple #[.agg (q7 .u8 64 (j0 0)), .int .i64 17]) w w' e := by
 obtain ⟨kx, ky, kt, kr, kc⟩ := q9u (kn := kn) hc hV hk1 hk2
 have pc := j6j (kn := kn) hc hP hok h1
 intro w hG hsl
 have off0 : Off [] w w := Off.refl _ _
 go_enter Tryd.func26, Tryd.ntmps26
 go_upto_region 0 with fail
 refine wp_region_lit ?_
 refine Ln ?_ (z := q7 .u8 32 (j0 V)) (t := 22)
 intro r7 W1 m8 hO h_
 replace off0 := off0.o hO
 have k_t3 := h_
 clear hO h_ m8
 refine Ln ?_ (z := q7 .u8 80 (j0 P)) (t := 45)
 intro q0h W2 h9 hO h_
 replace k_t3 := k_t3.o hO
 replace off0 := off0.o hO
 have k_t5 := h_
 clear hO h_ h9
 refine Ln ?_ (z := q7 .u8 64 (j0 0)) (t := 30)
 intro I6 W3 i7 hO h_
 have K4 := l4 off0 i7
 replace k_t3 := k_t3.o hO
 replace k_t5 := k_t5.o hO
 replace off0 := off0.o hO
 have k_t6 := h_
 clear hO h_ i7
 refine Lw ?_ (v := .int .i64 0)
 refine q5 ?_
 go_upto_region 1 with fail
 refine wp_region_lit ?_
 refine B9 ?_ k_t3
 refine Lr ?_ (kc W3 (y7 hG off0.ext))
 intro W4 hO
 replace k_t5 := k_t5.o hO
 replace k_t6 := k_t6.o hO
 replace off0 := off0.o hO
 clear hO
 refine Lv ?_
 refine Lv ?_
 refine Lw ?_ (v := .int .i64 0)
 refine K8 ?_ (z := p4 0 0 0 0) (t := 60) (cells := p4 kx ky 1 kt)
 intro q3g W6 n3 hO h_
 replace k_t5 := k_t5.o hO
 replace k_t6 := k_t6.o hO
 replace off0 := off0.o hO
 clear hO h_ n3
 refine Lw ?_ (v := .int .i64 0)
 refine q5 ?_
 go_upto_region 4 with fail
 refine wp_region_lit ?_
 refine B9 ?_ k_t5
 refine Lr ?_ (pc W6 (y7 hG off0.ext))
 intro W7 hO
 replace k_t6 := k_t6.o hO
 replace off0 := off0.o hO
 clear hO
 refine Lv ?_
 refine Lv ?_
 refine Lv ?_
 refine Lw ?_ (v := .int .i64 17)
 refine Ln ?_ (z := p4 0 0 0 0) (t := 60)
 intro P1 W8 l5 hO h_
 have nq_t6_t10 := bn k_t6 l5
 have M8 := l4 off0 l5
 replace k_t6 := k_t6.o hO
 replace off0 := off0.o hO
 have k_t10 := h_
 clear hO h_ l5
 refine Ln ?_ (z := c4 0) (t := 42)
 intro q9x W9 x6 hO h_
 have n8 := bn k_t6 x6
 have nq_t10_t11 := bn k_t10 x6
 have t0 := l4 off0 x6
 replace k_t6 := k_t6.o hO
 replace k_t10 := k_t10.o hO
 replace off0 := off0.o hO
 have k_t11 := h_
 clear hO h_ x6
 refine Lp ?_ k_t10 (cells := p4 0 0 0 0)
 intro W10 hO h_
 clear h_
 replace k_t6 := k_t6.p hO nq_t6_t10
 replace k_t11 := k_t11.p hO nq_t10_t11.symm
 replace off0 := off0.p hO M8
 clear hO
 refine Lp ?_ k_t11 (cells := c4 0)
 intro W11 hO h_
 clear h_
 replace k_t6 := k_t6.p hO n8
 replace off0 := off0.p hO t0
 clear hO
 refine Lw ?_ (v := .int .i64 17)
 refine q5 ?_
 go_upto_region 6 with fail
 refine wp_region_lit ?_
 refine Lw ?_ (v := .agg (q7 .u8 64 (j0 0))) (hv := by kernel_rfl)
 refine Lw ?_ (v := .int .i64 17)
 refine LpA ?_ k_t6 (k := .u8) (n := 64) (f := j0 0)
 intro W12 hO h_
 replace k_t6 : Blk W12 I6 (q7 .u8 64 (j0 0)) 30 := h_
 clear h_
 replace off0 := off0.p hO K4
 clear hO
 refine Lw ?_ (v := .int .i64 17)
 refine q5 ?_
 go_wp2
 exact bodyPost_ret (u4 rfl rfl rfl k_t6 (by kernel_rfl) (by rw [y5]; kernel_rfl)) rfl ⟨rfl, off0.ext⟩
theorem j2i (hd : kn.d) (hb : kn.b) (hc : kn.c) {V P : Nat} (hV : V < 2 ^ 256) (hP : B80 P) (v : Value) (L : List UInt8) (hL : L.length ≤ 1099511627776) (hk1 : G9 V = true) (hk2 : ¬ pm (B1 V) 8 = p0) (hok : G9 (pG P) = false) (h1 : pN P < LL) :
  ∀ w, GA kn w → Sl w v L → Calls Tryd.prog 26 #[.agg (q7 .u8 32 (j0 V)), v, .agg (q7 .u8 80 (j0 P))] w fun e w' => m7 (.tuple #[.agg (q7 .u8 64 (j0 0)), .int .i64 17]) w w' e := by
 obtain ⟨kx, ky, kt, kr, kc⟩ := q9u (kn := kn) hc hV hk1 hk2
 have pc := j6k (kn := kn) hc hP hok h1
 intro w hG hsl
 have off0 : Off [] w w := Off.refl _ _
 go_enter Tryd.func26, Tryd.ntmps26
 go_upto_region 0 with fail
 refine wp_region_lit ?_
 refine Ln ?_ (z := q7 .u8 32 (j0 V)) (t := 22)
 intro r7 W1 m8 hO h_
 replace off0 := off0.o hO
 have k_t3 := h_
 clear hO h_ m8
 refine Ln ?_ (z := q7 .u8 80 (j0 P)) (t := 45)
 intro q0h W2 h9 hO h_
 replace k_t3 := k_t3.o hO
 replace off0 := off0.o hO
 have k_t5 := h_
 clear hO h_ h9
 refine Ln ?_ (z := q7 .u8 64 (j0 0)) (t := 30)
 intro I6 W3 i7 hO h_
 have K4 := l4 off0 i7
 replace k_t3 := k_t3.o hO
 replace k_t5 := k_t5.o hO
 replace off0 := off0.o hO
 have k_t6 := h_
 clear hO h_ i7
 refine Lw ?_ (v := .int .i64 0)
 refine q5 ?_
 go_upto_region 1 with fail
 refine wp_region_lit ?_
 refine B9 ?_ k_t3
 refine Lr ?_ (kc W3 (y7 hG off0.ext))
 intro W4 hO
 replace k_t5 := k_t5.o hO
 replace k_t6 := k_t6.o hO
 replace off0 := off0.o hO
 clear hO
 refine Lv ?_
 refine Lv ?_
 refine Lw ?_ (v := .int .i64 0)
 refine K8 ?_ (z := p4 0 0 0 0) (t := 60) (cells := p4 kx ky 1 kt)
 intro q3g W6 n3 hO h_
 replace k_t5 := k_t5.o hO
 replace k_t6 := k_t6.o hO
 replace off0 := off0.o hO
 clear hO h_ n3
 refine Lw ?_ (v := .int .i64 0)
 refine q5 ?_
 go_upto_region 4 with fail
 refine wp_region_lit ?_
 refine B9 ?_ k_t5
 refine Lr ?_ (pc W6 (y7 hG off0.ext))
 intro W7 hO
 replace k_t6 := k_t6.o hO
 replace off0 := off0.o hO
 clear hO
 refine Lv ?_
 refine Lv ?_
 refine Lv ?_
 refine Lw ?_ (v := .int .i64 17)
 refine Ln ?_ (z := p4 0 0 0 0) (t := 60)
 intro P1 W8 l5 hO h_
 have nq_t6_t10 := bn k_t6 l5
 have M8 := l4 off0 l5
 replace k_t6 := k_t6.o hO
 replace off0 := off0.o hO
 have k_t10 := h_
 clear hO h_ l5
 refine Ln ?_ (z := c4 0) (t := 42)
 intro q9x W9 x6 hO h_
 have n8 := bn k_t6 x6
 have nq_t10_t11 := bn k_t10 x6
 have t0 := l4 off0 x6
 replace k_t6 := k_t6.o hO
 replace k_t10 := k_t10.o hO
 replace off0 := off0.o hO
 have k_t11 := h_
 clear hO h_ x6
 refine Lp ?_ k_t10 (cells := p4 0 0 0 0)
 intro W10 hO h_
 clear h_
 replace k_t6 := k_t6.p hO nq_t6_t10
 replace k_t11 := k_t11.p hO nq_t10_t11.symm
 replace off0 := off0.p hO M8
 clear hO
 refine Lp ?_ k_t11 (cells := c4 0)
 intro W11 hO h_
 clear h_
 replace k_t6 := k_t6.p hO n8
 replace off0 := off0.p hO t0
 clear hO
 refine Lw ?_ (v := .int .i64 17)
 refine q5 ?_
 go_upto_region 6 with fail
 refine wp_region_lit ?_
 refine Lw ?_ (v := .agg (q7 .u8 64 (j0 0))) (hv := by kernel_rfl)
 refine Lw ?_ (v := .int .i64 17)
 refine LpA ?_ k_t6 (k := .u8) (n := 64) (f := j0 0)
 intro W12 hO h_
 replace k_t6 : Blk W12 I6 (q7 .u8 64 (j0 0)) 30 := h_
 clear h_
 replace off0 := off0.p hO K4
 clear hO
 refine Lw ?_ (v := .int .i64 17)
 refine q5 ?_
 go_wp2
 exact bodyPost_ret (u4 rfl rfl rfl k_t6 (by kernel_rfl) (by rw [y5]; kernel_rfl)) rfl ⟨rfl, off0.ext⟩
theorem j2j (hd : kn.d) (hb : kn.b) (hc : kn.c) {V P : Nat} (hV : V < 2 ^ 256) (hP : B80 P) (v : Value) (L : List UInt8) (hL : L.length ≤ 1099511627776) (hk1 : G9 V = true) (hk2 : ¬ pm (B1 V) 8 = p0) (hok : G9 (pG P) = true) (h1 : LL ≤ pN P) :
  ∀ w, GA kn w → Sl w v L → Calls Tryd.prog 26 #[.agg (q7 .u8 32 (j0 V)), v, .agg (q7 .u8 80 (j0 P))] w fun e w' => m7 (.tuple #[.agg (q7 .u8 64 (j0 0)), .int .i64 17]) w w' e := by
 obtain ⟨kx, ky, kt, kr, kc⟩ := q9u (kn := kn) hc hV hk1 hk2
 have pc := j6l (kn := kn) hc hP hok h1
 intro w hG hsl
 have off0 : Off [] w w := Off.refl _ _
 go_enter Tryd.func26, Tryd.ntmps26
 go_upto_region 0 with fail
 refine wp_region_lit ?_
 refine Ln ?_ (z := q7 .u8 32 (j0 V)) (t := 22)
 intro r7 W1 m8 hO h_
 replace off0 := off0.o hO
 have k_t3 := h_
 clear hO h_ m8
 refine Ln ?_ (z := q7 .u8 80 (j0 P)) (t := 45)
 intro q0h W2 h9 hO h_
 replace k_t3 := k_t3.o hO
 replace off0 := off0.o hO
 have k_t5 := h_
 clear hO h_ h9
 refine Ln ?_ (z := q7 .u8 64 (j0 0)) (t := 30)
 intro I6 W3 i7 hO h_
 have K4 := l4 off0 i7
 replace k_t3 := k_t3.o hO
 replace k_t5 := k_t5.o hO
 replace off0 := off0.o hO
 have k_t6 := h_
 clear hO h_ i7
 refine Lw ?_ (v := .int .i64 0)
 refine q5 ?_
 go_upto_region 1 with fail
 refine wp_region_lit ?_
 refine B9 ?_ k_t3
 refine Lr ?_ (kc W3 (y7 hG off0.ext))
 intro W4 hO
 replace k_t5 := k_t5.o hO
 replace k_t6 := k_t6.o hO
 replace off0 := off0.o hO
 clear hO
 refine Lv ?_
 refine Lv ?_
 refine Lw ?_ (v := .int .i64 0)
 refine K8 ?_ (z := p4 0 0 0 0) (t := 60) (cells := p4 kx ky 1 kt)
 intro q3g W6 n3 hO h_
 replace k_t5 := k_t5.o hO
 replace k_t6 := k_t6.o hO
 replace off0 := off0.o hO
 clear hO h_ n3
 refine Lw ?_ (v := .int .i64 0)
 refine q5 ?_
 go_upto_region 4 with fail
 refine wp_region_lit ?_
 refine B9 ?_ k_t5
 refine Lr ?_ (pc W6 (y7 hG off0.ext))
 intro W7 hO
 replace k_t6 := k_t6.o hO
 replace off0 := off0.o hO
 clear hO
 refine Lv ?_
 refine Lv ?_
 refine Lv ?_
 refine Lw ?_ (v := .int .i64 17)
 refine Ln ?_ (z := p4 0 0 0 0) (t := 60)
 intro P1 W8 l5 hO h_
 have nq_t6_t10 := bn k_t6 l5
 have M8 := l4 off0 l5
 replace k_t6 := k_t6.o hO
 replace off0 := off0.o hO
 have k_t10 := h_
 clear hO h_ l5
 refine Ln ?_ (z := c4 0) (t := 42)
 intro q9x W9 x6 hO h_
 have n8 := bn k_t6 x6
 have nq_t10_t11 := bn k_t10 x6
 have t0 := l4 off0 x6
 replace k_t6 := k_t6.o hO
 replace k_t10 := k_t10.o hO
 replace off0 := off0.o hO
 have k_t11 := h_
 clear hO h_ x6
 refine Lp ?_ k_t10 (cells := p4 0 0 0 0)
 intro W10 hO h_
 clear h_
 replace k_t6 := k_t6.p hO nq_t6_t10
 replace k_t11 := k_t11.p hO nq_t10_t11.symm
 replace off0 := off0.p hO M8
 clear hO
 refine Lp ?_ k_t11 (cells := c4 0)
 intro W11 hO h_
 clear h_
 replace k_t6 := k_t6.p hO n8
 replace off0 := off0.p hO t0
 clear hO
 refine Lw ?_ (v := .int .i64 17)
 refine q5 ?_
 go_upto_region 6 with fail
 refine wp_region_lit ?_
 refine Lw ?_ (v := .agg (q7 .u8 64 (j0 0))) (hv := by kernel_rfl)
 refine Lw ?_ (v := .int .i64 17)
 refine LpA ?_ k_t6 (k := .u8) (n := 64) (f := j0 0)
 intro W12 hO h_
 replace k_t6 : Blk W12 I6 (q7 .u8 64 (j0 0)) 30 := h_
 clear h_
 replace off0 := off0.p hO K4
 clear hO
 refine Lw ?_ (v := .int .i64 17)
 refine q5 ?_
 go_wp2
 exact bodyPost_ret (u4 rfl rfl rfl k_t6 (by kernel_rfl) (by rw [y5]; kernel_rfl)) rfl ⟨rfl, off0.ext⟩
theorem j6r (hd : kn.d) (hb : kn.b) (hc : kn.c) {V P : Nat} (hV : V < 2 ^ 256) (hP : B80 P) (v : Value) (L : List UInt8) (hL : L.length ≤ 1099511627776) (hk1 : G9 V = true) (hk2 : ¬ pm (B1 V) 8 = p0) (hok : G9 (pG P) = true) (h1 : pN P < LL) (hv : vpt V L = none) :
  ∀ w, GA kn w → Sl w v L → Calls Tryd.prog 26 #[.agg (q7 .u8 32 (j0 V)), v, .agg (q7 .u8 80 (j0 P))] w fun e w' => m7 (.tuple #[.agg (q7 .u8 64 (j0 0)), .int .i64 15]) w w' e := by
 obtain ⟨kx, ky, kt, kr, kc⟩ := q9u (kn := kn) hc hV hk1 hk2
 obtain ⟨gx, gy, gt, gr, pc⟩ := y4h (kn := kn) hc hP hok h1
 intro w hG hsl
 have y6 := hsl
 have off0 : Off [] w w := Off.refl _ _
 go_enter Tryd.func26, Tryd.ntmps26
 go_upto_region 0 with fail
 refine wp_region_lit ?_
 refine Ln ?_ (z := q7 .u8 32 (j0 V)) (t := 22)
 intro r7 W1 m8 hO h_
 replace y6 := Sl.off y6 hO f0
 replace off0 := off0.o hO
 have k_t3 := h_
 clear hO h_ m8
 refine Ln ?_ (z := q7 .u8 80 (j0 P)) (t := 45)
 intro q0h W2 h9 hO h_
 replace k_t3 := k_t3.o hO
 replace y6 := Sl.off y6 hO f0
 replace off0 := off0.o hO
 have k_t5 := h_
 clear hO h_ h9
 refine Ln ?_ (z := q7 .u8 64 (j0 0)) (t := 30)
 intro I6 W3 i7 hO h_
 have K4 := l4 off0 i7
 replace k_t3 := k_t3.o hO
 replace k_t5 := k_t5.o hO
 replace y6 := Sl.off y6 hO f0
 replace off0 := off0.o hO
 have k_t6 := h_
 clear hO h_ i7
 refine Lw ?_ (v := .int .i64 0)
 refine q5 ?_
 go_upto_region 1 with fail
 refine wp_region_lit ?_
 refine B9 ?_ k_t3
 refine Lr ?_ (kc W3 (y7 hG off0.ext))
 intro W4 hO
 replace k_t3 := k_t3.o hO
 replace k_t5 := k_t5.o hO
 replace k_t6 := k_t6.o hO
 replace y6 := Sl.off y6 hO f0
 replace off0 := off0.o hO
 clear hO
 refine Lv ?_
 refine Lv ?_
 refine Lw ?_ (v := .int .i64 0)
 refine K8 ?_ (z := p4 0 0 0 0) (t := 60) (cells := p4 kx ky 1 kt)
 intro q3g W6 n3 hO h_
 replace k_t3 := k_t3.o hO
 replace k_t5 := k_t5.o hO
 replace k_t6 := k_t6.o hO
 replace y6 := Sl.off y6 hO f0
 replace off0 := off0.o hO
 clear hO h_ n3
 refine Lw ?_ (v := .int .i64 0)
 refine q5 ?_
 go_upto_region 4 with fail
 refine wp_region_lit ?_
 refine B9 ?_ k_t5
 refine Lr ?_ (pc W6 (y7 hG off0.ext))
 intro W7 hO
 replace k_t3 := k_t3.o hO
 replace k_t6 := k_t6.o hO
 replace y6 := Sl.off y6 hO f0
 replace off0 := off0.o hO
 clear hO
 refine Lv ?_
 refine Lv ?_
 refine Lv ?_
 refine Lw ?_ (v := .int .i64 0)
 refine Ln ?_ (z := p4 0 0 0 0) (t := 60)
 intro P1 W8 l5 hO h_
 have q2s := bn k_t3 l5
 have nq_t6_t10 := bn k_t6 l5
 have q5f := d8 (Sl.lt y6) l5
 have M8 := l4 off0 l5
 replace k_t3 := k_t3.o hO
 replace k_t6 := k_t6.o hO
 replace y6 := Sl.off y6 hO f0
 replace off0 := off0.o hO
 have k_t10 := h_
 clear hO h_ l5
 refine Ln ?_ (z := c4 0) (t := 42)
 intro q9x W9 x6 hO h_
 have q2t := bn k_t3 x6
 have n8 := bn k_t6 x6
 have nq_t10_t11 := bn k_t10 x6
 have p8 := d8 (Sl.lt y6) x6
 have t0 := l4 off0 x6
 replace k_t3 := k_t3.o hO
 replace k_t6 := k_t6.o hO
 replace k_t10 := k_t10.o hO
 replace y6 := Sl.off y6 hO f0
 replace off0 := off0.o hO
 have k_t11 := h_
 clear hO h_ x6
 refine Lp ?_ k_t10 (cells := p4 gx gy 1 gt)
 intro W10 hO h_
 clear h_
 replace k_t3 := k_t3.p hO q2s
 replace k_t6 := k_t6.p hO nq_t6_t10
 replace k_t11 := k_t11.p hO nq_t10_t11.symm
 replace y6 := Sl.off y6 hO (f1 q5f)
 replace off0 := off0.p hO M8
 clear hO
 refine Lp ?_ k_t11 (cells := c4 (pN P))
 intro W11 hO h_
 clear h_
 replace k_t3 := k_t3.p hO q2t
 replace k_t6 := k_t6.p hO n8
 replace y6 := Sl.off y6 hO (f1 p8)
 replace off0 := off0.p hO t0
 clear hO
 refine Lw ?_ (v := .int .i64 0)
 refine q5 ?_
 go_upto_region 7 with fail
 refine wp_region_lit ?_
 refine B9 ?_ k_t3
 refine Lv ?_
 refine Lr ?_ (y4j (kn := kn) hc hL hv v W11 (y7 hG off0.ext) y6)
 intro W12 hO
 replace k_t6 := k_t6.o hO
 replace off0 := off0.o hO
 clear hO
 refine Lv ?_
 refine Lv ?_
 refine Lw ?_ (v := .int .i64 15)
 refine K8 ?_ (z := p4 0 0 0 0) (t := 60) (cells := p4 0 0 0 0)
 intro q0v W14 R8 hO h_
 replace k_t6 := k_t6.o hO
 replace off0 := off0.o hO
 clear hO h_ R8
 refine Lw ?_ (v := .int .i64 15)
 refine q5 ?_
 go_upto_region 9 with fail
 refine wp_region_lit ?_
 refine Lw ?_ (v := .agg (q7 .u8 64 (j0 0))) (hv := by kernel_rfl)
 refine Lw ?_ (v := .int .i64 15)
 refine LpA ?_ k_t6 (k := .u8) (n := 64) (f := j0 0)
 intro W15 hO h_
 replace k_t6 : Blk W15 I6 (q7 .u8 64 (j0 0)) 30 := h_
 clear h_
 replace off0 := off0.p hO K4
 clear hO
 refine Lw ?_ (v := .int .i64 15)
 refine q5 ?_
 go_wp2
 exact bodyPost_ret (u4 rfl rfl rfl k_t6 (by kernel_rfl) (by rw [y5]; kernel_rfl)) rfl ⟨rfl, off0.ext⟩
theorem y4k (hd : kn.d) (hb : kn.b) (hc : kn.c) {V P : Nat} (hV : V < 2 ^ 256) (hP : B80 P) (v : Value) (L : List UInt8) (hL : L.length ≤ 1099511627776) (hk1 : G9 V = true) (hk2 : ¬ pm (B1 V) 8 = p0) (hok : G9 (pG P) = true) (h1 : pN P < LL) {c0 : Nat} (hv : vpt V L = some c0) {h : Pr} (hh : h = a6 V L c0) {r k : Nat} (hqq : ((chk V P h = pC P → r = q8i P ∧ k = 0) ∧ (¬ chk V P h = pC P → r = 0 ∧ k = 17))) :
  ∀ w, GA kn w → Sl w v L → Calls Tryd.prog 26 #[.agg (q7 .u8 32 (j0 V)), v, .agg (q7 .u8 80 (j0 P))] w fun e w' => m7 (.tuple #[.agg (q7 .u8 64 (j0 r)), .int .i64 (k : Int)]) w w' e := by
 obtain ⟨kx, ky, kt, kr, kc⟩ := q9u (kn := kn) hc hV hk1 hk2
 obtain ⟨gx, gy, gt, gr, pc⟩ := y4h (kn := kn) hc hP hok h1
 obtain ⟨hx, hy, hz, ht, hr, hcl⟩ := y4i (kn := kn) hc hL hv hh
 obtain ⟨x1, y2, z3, t4, r5, c6⟩ := q7j hb
 obtain ⟨x7, y8, z9, t10, r11, c12⟩ := D0 hd r5.rw (N := (pN P)) (Nat.lt_trans h1 Y7)
 obtain ⟨x13, y14, z15, t16, r17, c18⟩ := y8j (kn := kn) kr.rw
 obtain ⟨x19, y20, z21, t22, r23, c24⟩ := D0 hd r17.rw (N := (pC P)) (Nat.lt_trans (y4g P) q9w)
 obtain ⟨x25, y26, z27, t28, r29, c30⟩ := y0l hd r11.rw r23.rw
 obtain ⟨x31, y32, z33, t34, r35, c36⟩ := D0 hd hr.rw (N := (pN P)) (Nat.lt_trans h1 Y7)
 obtain ⟨x37, y38, z39, t40, r41, c42⟩ := y8j (kn := kn) gr.rw
 obtain ⟨x43, y44, z45, t46, r47, c48⟩ := D0 hd r41.rw (N := (pC P)) (Nat.lt_trans (y4g P) q9w)
 obtain ⟨x49, y50, z51, t52, r53, c54⟩ := y0l hd r35.rw r47.rw
 obtain ⟨U1, hU1⟩ := z8 (chH V h (B1 (pG P)) (u5 (pm BP (pN P)) (pm (G1 (B1 V)) (pC P))) (u5 (pm h (pN P)) (pm (G1 (B1 (pG P))) (pC P))))
 have HU1 := Lib.hid hU1
 clear hU1
 obtain ⟨U2, hU2⟩ := z8 (U1 % p7)
 have qU2 : U2 < p7 := by rw [hU2]; exact Nat.mod_lt _ (by decide)
 have HU2 := Lib.hid hU2
 clear hU2
 obtain ⟨U3, hU3⟩ := z8 (q8i P)
 have HU3 := Lib.hid hU3
 clear hU3
 have HQ := Lib.hid hqq
 clear hqq
 intro w hG hsl
 have y6 := hsl
 have off0 : Off [] w w := Off.refl _ _
 go_enter Tryd.func26, Tryd.ntmps26
 go_upto_region 0 with fail
 refine wp_region_lit ?_
 refine Ln ?_ (z := q7 .u8 32 (j0 V)) (t := 22)
 intro r7 W1 m8 hO h_
 replace y6 := Sl.off y6 hO f0
 replace off0 := off0.o hO
 have k_t3 := h_
 clear hO h_ m8
 refine Ln ?_ (z := q7 .u8 80 (j0 P)) (t := 45)
 intro q0h W2 h9 hO h_
 replace k_t3 := k_t3.o hO
 replace y6 := Sl.off y6 hO f0
 replace off0 := off0.o hO
 have k_t5 := h_
 clear hO h_ h9
 refine Ln ?_ (z := q7 .u8 64 (j0 0)) (t := 30)
 intro I6 W3 i7 hO h_
 have q4f := bn k_t3 i7
 have R7 := bn k_t5 i7
 have K4 := l4 off0 i7
 replace k_t3 := k_t3.o hO
 replace k_t5 := k_t5.o hO
 replace y6 := Sl.off y6 hO f0
 replace off0 := off0.o hO
 have k_t6 := h_
 clear hO h_ i7
 refine Lw ?_ (v := .int .i64 0)
 refine q5 ?_
 go_upto_region 1 with fail
 refine wp_region_lit ?_
 refine B9 ?_ k_t3
 refine Lr ?_ (kc W3 (y7 hG off0.ext))
 intro W4 hO
 replace k_t3 := k_t3.o hO
 replace k_t5 := k_t5.o hO
 replace k_t6 := k_t6.o hO
 replace y6 := Sl.off y6 hO f0
 replace off0 := off0.o hO
 clear hO
 refine Lv ?_
 refine Lv ?_
 refine Lw ?_ (v := .int .i64 0)
 refine K8 ?_ (z := p4 0 0 0 0) (t := 60) (cells := p4 kx ky 1 kt)
 intro q3g W6 n3 hO h_
 replace k_t3 := k_t3.o hO
 replace k_t5 := k_t5.o hO
 replace k_t6 := k_t6.o hO
 replace y6 := Sl.off y6 hO f0
 replace off0 := off0.o hO
 have k_t8 := h_
 clear hO h_ n3
 refine Lw ?_ (v := .int .i64 0)
 refine q5 ?_
 go_upto_region 4 with fail
 refine wp_region_lit ?_
 refine B9 ?_ k_t5
 refine Lr ?_ (pc W6 (y7 hG off0.ext))
 intro W7 hO
 replace k_t3 := k_t3.o hO
 replace k_t5 := k_t5.o hO
 replace k_t6 := k_t6.o hO
 replace k_t8 := k_t8.o hO
 replace y6 := Sl.off y6 hO f0
 replace off0 := off0.o hO
 clear hO
 refine Lv ?_
 refine Lv ?_
 refine Lv ?_
 refine Lw ?_ (v := .int .i64 0)
 refine Ln ?_ (z := p4 0 0 0 0) (t := 60)
 intro P1 W8 l5 hO h_
 have q2s := bn k_t3 l5
 have y6o := bn k_t5 l5
 have nq_t6_t10 := bn k_t6 l5
 have y6p := bn k_t8 l5
 have q5f := d8 (Sl.lt y6) l5
 have M8 := l4 off0 l5
 replace k_t3 := k_t3.o hO
 replace k_t5 := k_t5.o hO
 replace k_t6 := k_t6.o hO
 replace k_t8 := k_t8.o hO
 replace y6 := Sl.off y6 hO f0
 replace off0 := off0.o hO
 have k_t10 := h_
 clear hO h_ l5
 refine Ln ?_ (z := c4 0) (t := 42)
 intro q9x W9 x6 hO h_
 have q2t := bn k_t3 x6
 have y6q := bn k_t5 x6
 have n8 := bn k_t6 x6
 have y6r := bn k_t8 x6
 have nq_t10_t11 := bn k_t10 x6
 have p8 := d8 (Sl.lt y6) x6
 have t0 := l4 off0 x6
 replace k_t3 := k_t3.o hO
 replace k_t5 := k_t5.o hO
 replace k_t6 := k_t6.o hO
 replace k_t8 := k_t8.o hO
 replace k_t10 := k_t10.o hO
 replace y6 := Sl.off y6 hO f0
 replace off0 := off0.o hO
 have k_t11 := h_
 clear hO h_ x6
 refine Lp ?_ k_t10 (cells := p4 gx gy 1 gt)
 intro W10 hO h_
 replace k_t10 : Blk W10 P1 (p4 gx gy 1 gt) 60 := h_
 clear h_
 replace k_t3 := k_t3.p hO q2s
 replace k_t5 := k_t5.p hO y6o
 replace k_t6 := k_t6.p hO nq_t6_t10
 replace k_t8 := k_t8.p hO y6p
 replace k_t11 := k_t11.p hO nq_t10_t11.symm
 replace y6 := Sl.off y6 hO (f1 q5f)
 replace off0 := off0.p hO M8
 clear hO
 refine Lp ?_ k_t11 (cells := c4 (pN P))
 intro W11 hO h_
 replace k_t11 : Blk W11 q9x (c4 (pN P)) 42 := h_
 clear h_
 replace k_t3 := k_t3.p hO q2t
 replace k_t5 := k_t5.p hO y6q
 replace k_t6 := k_t6.p hO n8
 replace k_t8 := k_t8.p hO y6r
 replace k_t10 := k_t10.p hO nq_t10_t11
 replace y6 := Sl.off y6 hO (f1 p8)
 replace off0 := off0.p hO t0
 clear hO
 refine Lw ?_ (v := .int .i64 0)
 refine q5 ?_
 go_upto_region 7 with fail
 refine wp_region_lit ?_
 refine B9 ?_ k_t3
 refine Lv ?_
 refine Lr ?_ (hcl v W11 (y7 hG off0.ext) y6)
 intro W12 hO
 replace k_t3 := k_t3.o hO
 replace k_t5 := k_t5.o hO
 replace k_t6 := k_t6.o hO
 replace k_t8 := k_t8.o hO
 replace k_t10 := k_t10.o hO
 replace k_t11 := k_t11.o hO
 replace off0 := off0.o hO
 clear hO
 refine Lv ?_
 refine Lv ?_
 refine Lw ?_ (v := .int .i64 0)
 refine K8 ?_ (z := p4 0 0 0 0) (t := 60) (cells := p4 hx hy hz ht)
 intro q0v W14 R8 hO h_
 have nq_t6_t12 := bn k_t6 R8
 replace k_t3 := k_t3.o hO
 replace k_t5 := k_t5.o hO
 replace k_t6 := k_t6.o hO
 replace k_t8 := k_t8.o hO
 replace k_t10 := k_t10.o hO
 replace k_t11 := k_t11.o hO
 replace off0 := off0.o hO
 have k_t12 := h_
 clear hO h_ R8
 refine Lw ?_ (v := .int .i64 0)
 refine q5 ?_
 go_upto_region 10 with fail
 refine i6 4 [⟨4, 13, q7 .u8 32 (j0 0), 22⟩, ⟨5, 14, q7 .u8 32 (j0 0), 22⟩] (by kernel_rfl) ?_ (by kernel_rfl) ?_
 ·
  intro x hx
  simp only [List.mem_cons, List.not_mem_nil, or_false] at hx
  rcases hx with rfl | rfl <;> exact ⟨_, rfl, rfl, rfl, fun _ _ => by kernel_rfl⟩
 simp only [List.take_succ_cons, List.take_zero, List.take_nil]
 (try simp only [Act.put, mA, mB, mC])
 refine Xw ?_ (v := .slice (some ⟨q0h, 32, none⟩) 16 48)
 refine Xf ?_ (fun W hW => j6o (y4g P) (.slice (some ⟨q0h, 32, none⟩) 16 48) W (b6 (V := (pC P)) (n := 16) (off := 32) (q6 k_t5 hW) g2i (by decide) (by decide)))
 refine Xl ?_ k_t11
 refine Xf ?_ (fun W hW => q1q h1 W (y7 (y7 hG off0.ext) hW).2.2.1)
 refine j7 ?_
 intro β W15 hE hN hD
 obtain ⟨q1y, h_t13⟩ := hN _ (List.mem_cons_self ..)
 obtain ⟨B7, h_t14⟩ := hN _ (List.mem_cons_of_mem _ (List.mem_cons_self ..))
 have nq_t13_t14 := (hD _ (List.mem_cons_of_mem _ (List.mem_cons_self ..)) _ (List.mem_cons_self ..) (by decide)).symm
 clear hN hD
 simp only [n7, Act.put, mA, mB, mC, List.drop_succ_cons, List.drop_zero, List.drop_nil, List.length_cons, List.length_nil, Nat.add_zero] at q1y h_t13 B7 h_t14 nq_t13_t14 ⊢
 have hO := g8 hE
 generalize β 4 = j2k at *
 have y6s := bn k_t3 q1y
 have y6t := bn k_t5 q1y
 have y6u := bn k_t6 q1y
 have y6v := bn k_t8 q1y
 have y1w := bn k_t10 q1y
 have y1x := bn k_t12 q1y
 have g2s := l4 off0 q1y
 generalize β 5 = j2l at *
 have y6w := bn k_t3 B7
 have y6x := bn k_t5 B7
 have y6y := bn k_t6 B7
 have y6z := bn k_t8 B7
 have y1y := bn k_t10 B7
 have y1z := bn k_t12 B7
 have y1s := l4 off0 B7
 replace k_t3 := k_t3.o hO
 replace k_t5 := k_t5.o hO
 replace k_t6 := k_t6.o hO
 replace k_t8 := k_t8.o hO
 replace k_t10 := k_t10.o hO
 replace k_t12 := k_t12.o hO
 replace off0 := off0.o hO
 clear hO hE β q1y B7
 have k_t13 : Blk W15 j2k (q7 .u8 32 (j0 0)) 22 := h_t13
 clear h_t13
 have k_t14 : Blk W15 j2l (q7 .u8 32 (j0 0)) 22 := h_t14
 clear h_t14
 refine LpA ?_ k_t13 (k := .u8) (n := 32) (f := j0 (pC P))
 intro W16 hO h_
 replace k_t13 : Blk W16 j2k (q7 .u8 32 (j0 (pC P))) 22 := h_
 clear h_
 replace k_t3 := k_t3.p hO y6s
 replace k_t5 := k_t5.p hO y6t
 replace k_t6 := k_t6.p hO y6u
 replace k_t8 := k_t8.p hO y6v
 replace k_t10 := k_t10.p hO y1w
 replace k_t12 := k_t12.p hO y1x
 replace k_t14 := k_t14.p hO nq_t13_t14.symm
 replace off0 := off0.p hO g2s
 clear hO
 refine LpA ?_ k_t14 (k := .u8) (n := 32) (f := j0 (pN P))
 intro W17 hO h_
 replace k_t14 : Blk W17 j2l (q7 .u8 32 (j0 (pN P))) 22 := h_
 clear h_
 replace k_t3 := k_t3.p hO y6w
 replace k_t5 := k_t5.p hO y6x
 replace k_t6 := k_t6.p hO y6y
 replace k_t8 := k_t8.p hO y6z
 replace k_t10 := k_t10.p hO y1y
 replace k_t12 := k_t12.p hO y1z
 replace k_t13 := k_t13.p hO nq_t13_t14
 replace off0 := off0.p hO y1s
 clear hO
 refine LN ?_
 go_upto_region 11 with fail
 refine Rx1 8 15 (z := p4 0 0 0 0) (t := 60) ?_
 refine Xf ?_ (fun W hW => c6 W (y7 (y7 hG off0.ext) hW).1)
 refine XlA ?_ k_t14
 refine Xf ?_ (fun W hW => c12 W (y7 (y7 hG off0.ext) hW).1)
 refine Xl ?_ k_t8
 refine Xf ?_ (fun W hW => c18 W (y7 (y7 hG off0.ext) hW).1)
 refine XlA ?_ k_t13
 refine Xf ?_ (fun W hW => c24 W (y7 (y7 hG off0.ext) hW).1)
 refine Xf ?_ (fun W hW => c30 W (y7 (y7 hG off0.ext) hW).1)
 refine XN ?_
 intro P2 W18 P0 hE h_t15
 have hO := g8 hE
 have y7a := bn k_t3 P0
 have y7b := bn k_t5 P0
 have nq_t6_t15 := bn k_t6 P0
 have y2a := bn k_t10 P0
 have y2b := bn k_t12 P0
 have y2c := bn k_t13 P0
 have y2d := bn k_t14 P0
 have g2t := l4 off0 P0
 replace k_t3 := k_t3.o hO
 replace k_t5 := k_t5.o hO
 replace k_t6 := k_t6.o hO
 replace k_t10 := k_t10.o hO
 replace k_t12 := k_t12.o hO
 replace k_t13 := k_t13.o hO
 replace k_t14 := k_t14.o hO
 replace off0 := off0.o hO
 clear hO hE P0
 have k_t15 : Blk W18 P2 (p4 0 0 0 0) 60 := h_t15
 clear h_t15
 refine Lp ?_ k_t15 (cells := p4 x25 y26 z27 t28)
 intro W19 hO h_
 replace k_t15 : Blk W19 P2 (p4 x25 y26 z27 t28) 60 := h_
 clear h_
 replace k_t3 := k_t3.p hO y7a
 replace k_t5 := k_t5.p hO y7b
 replace k_t6 := k_t6.p hO nq_t6_t15
 replace k_t10 := k_t10.p hO y2a
 replace k_t12 := k_t12.p hO y2b
 replace k_t13 := k_t13.p hO y2c
 replace k_t14 := k_t14.p hO y2d
 replace off0 := off0.p hO g2t
 clear hO
 refine LN ?_
 go_upto_region 12 with fail
 refine Rx1 8 16 (z := p4 0 0 0 0) (t := 60) ?_
 refine Xl ?_ k_t12
 refine XlA ?_ k_t14
 refine Xf ?_ (fun W hW => c36 W (y7 (y7 hG off0.ext) hW).1)
 refine Xl ?_ k_t10
 refine Xf ?_ (fun W hW => c42 W (y7 (y7 hG off0.ext) hW).1)
 refine XlA ?_ k_t13
 refine Xf ?_ (fun W hW => c48 W (y7 (y7 hG off0.ext) hW).1)
 refine Xf ?_ (fun W hW => c54 W (y7 (y7 hG off0.ext) hW).1)
 refine XN ?_
 intro P3 W20 q3e hE h_t16
 have hO := g8 hE
 have y7c := bn k_t3 q3e
 have y7d := bn k_t5 q3e
 have nq_t6_t16 := bn k_t6 q3e
 have y2e := bn k_t10 q3e
 have y2f := bn k_t12 q3e
 have y2g := bn k_t15 q3e
 have g2u := l4 off0 q3e
 replace k_t3 := k_t3.o hO
 replace k_t5 := k_t5.o hO
 replace k_t6 := k_t6.o hO
 replace k_t10 := k_t10.o hO
 replace k_t12 := k_t12.o hO
 replace k_t15 := k_t15.o hO
 replace off0 := off0.o hO
 clear hO hE q3e
 have k_t16 : Blk W20 P3 (p4 0 0 0 0) 60 := h_t16
 clear h_t16
 refine Lp ?_ k_t16 (cells := p4 x49 y50 z51 t52)
 intro W21 hO h_
 replace k_t16 : Blk W21 P3 (p4 x49 y50 z51 t52) 60 := h_
 clear h_
 replace k_t3 := k_t3.p hO y7c
 replace k_t5 := k_t5.p hO y7d
 replace k_t6 := k_t6.p hO nq_t6_t16
 replace k_t10 := k_t10.p hO y2e
 replace k_t12 := k_t12.p hO y2f
 replace k_t15 := k_t15.p hO y2g
 replace off0 := off0.p hO g2u
 clear hO
 refine LN ?_
 by_cases htk : chk V P h = pC P
 ·
  have _f := htk
  go_upto_region 13 with fail
  refine Q3 (.q 0 (.q 1 (.q 2 (.q 3 (.q 4 (.q 8 (.q 9 (.e 5 (.e 6 (.q 7 (.q 10 .z))))))))))) (fun W => (Blk W r7 (q7 .u8 32 (j0 V)) 22) ∧ (Blk W q0v (p4 hx hy hz ht) 60) ∧ (Blk W P1 (p4 gx gy 1 gt) 60) ∧ (Blk W P2 (p4 x25 y26 z27 t28) 60) ∧ (Blk W P3 (p4 x49 y50 z51 t52) 60) ∧ (Blk W q0h (q7 .u8 80 (j0 P)) 45)) (by kernel_rfl) (by kernel_rfl) ?_
  intro W22 hO
  replace k_t3 := k_t3.o hO
  replace k_t5 := k_t5.o hO
  replace k_t6 := k_t6.o hO
  replace k_t10 := k_t10.o hO
  replace k_t12 := k_t12.o hO
  replace k_t15 := k_t15.o hO
  replace k_t16 := k_t16.o hO
  replace off0 := off0.o hO
  clear hO
  refine ⟨⟨k_t3, k_t12, k_t10, k_t15, k_t16, k_t5⟩, ?_⟩
  refine a9 (v := .agg (q7 .u8 32 (j0 V))) rfl (by rfl) (fun W hS => by exact (i8 rfl rfl (hS.1) (by kernel_rfl) (by rw [y5]; kernel_rfl))) ?_
  (try simp only [Act.put, mA, mB, mC])
  refine a9 (v := .agg (p4 hx hy hz ht)) rfl (by rfl) (fun W hS => by exact (i8 rfl rfl (hS.2.1) (by kernel_rfl) (by kernel_rfl))) ?_
  (try simp only [Act.put, mA, mB, mC])
  refine a9 (v := .agg (p4 gx gy 1 gt)) rfl (by rfl) (fun W hS => by exact (i8 rfl rfl (hS.2.2.1) (by kernel_rfl) (by kernel_rfl))) ?_
  (try simp only [Act.put, mA, mB, mC])
  refine a9 (v := .agg (p4 x25 y26 z27 t28)) rfl (by rfl) (fun W hS => by exact (i8 rfl rfl (hS.2.2.2.1) (by kernel_rfl) (by kernel_rfl))) ?_
  (try simp only [Act.put, mA, mB, mC])
  refine a9 (v := .agg (p4 x49 y50 z51 t52)) rfl (by rfl) (fun W hS => by exact (i8 rfl rfl (hS.2.2.2.2.1) (by kernel_rfl) (by kernel_rfl))) ?_
  (try simp only [Act.put, mA, mB, mC])
  refine a9 (v := .slice (some ⟨q0h, 32, none⟩) 16 48) rfl (by rfl) (fun W hS => by first | rfl | (go_simp; done) | (go_simp; with_reducible rfl)) ?_
  (try simp only [Act.put, mA, mB, mC])
  refine a9 (v := str (lb 16 (pC P))) rfl (by rfl) (fun W hS => by exact (q3r (b6 (V := (pC P)) (n := 16) (off := 32) (hS.2.2.2.2.2) g2i (by decide) (by decide)) rfl rfl)) ?_
  (try simp only [Act.put, mA, mB, mC])
  refine w6 rfl ?_
  refine I4 ?_ (z := (p4 hx hy hz ht) ++ (p4 gx gy 1 gt) ++ (p4 x25 y26 z27 t28) ++ (p4 x49 y50 z51 t52)) (t := 60) (n := 4) (c := 4)
  intro y2h W23 y4l hO h_
  have nq_t6_s71 := bn k_t6 y4l
  replace k_t3 := k_t3.o hO
  replace k_t5 := k_t5.o hO
  replace k_t6 := k_t6.o hO
  replace k_t10 := k_t10.o hO
  replace k_t12 := k_t12.o hO
  replace k_t15 := k_t15.o hO
  replace k_t16 := k_t16.o hO
  replace off0 := off0.o hO
  have k_s71 := h_
  clear hO h_ y4l
  refine s6 (fun W => (Blk W r7 (q7 .u8 32 (j0 V)) 22) ∧ (Blk W q0v (p4 hx hy hz ht) 60) ∧ (Blk W P1 (p4 gx gy 1 gt) 60) ∧ (Blk W P2 (p4 x25 y26 z27 t28) 60) ∧ (Blk W P3 (p4 x49 y50 z51 t52) 60) ∧ (Blk W q0h (q7 .u8 80 (j0 P)) 45)) (fun W hS => ⟨hS.1, hS.2.1, hS.2.2.1, hS.2.2.2.1, hS.2.2.2.2.1, hS.2.2.2.2.2⟩) ⟨k_t3, k_t12, k_t10, k_t15, k_t16, k_t5⟩ ?_
  refine w6 rfl ?_
  refine q4q (R := fun v W => ∃ p, v = .slice (some ⟨p, 0, none⟩) 16 64 ∧ W23.heap.size ≤ p ∧ Off [] W23 W ∧ Blk W p (q7 .u8 64 (j0 U1)) 30) ((y1m (kn := kn) hr gr r29 r53 HU1.out y2h W23 (y7 hG off0.ext) k_s71).mono fun e W h => by obtain ⟨p, h1, h2⟩ := h; exact ⟨_, h1, p, rfl, h2⟩) (by rfl) rfl (by kernel_rfl) rfl ?_
  (try simp only [Act.put, mA, mB, mC])
  rintro _ W24 ⟨pm24, rfl, n_mk, hO, h_⟩
  (try simp only [Act.put, mA, mB, mC])
  have nq_t6_mk := bn k_t6 n_mk
  replace k_t3 := k_t3.o hO
  replace k_t5 := k_t5.o hO
  replace k_t6 := k_t6.o hO
  replace k_t10 := k_t10.o hO
  replace k_t12 := k_t12.o hO
  replace k_t15 := k_t15.o hO
  replace k_t16 := k_t16.o hO
  replace k_s71 := k_s71.o hO
  replace off0 := off0.o hO
  have k_mk := h_
  clear hO h_ n_mk
  refine s6 (fun W => (Blk W r7 (q7 .u8 32 (j0 V)) 22) ∧ (Blk W q0v (p4 hx hy hz ht) 60) ∧ (Blk W P1 (p4 gx gy 1 gt) 60) ∧ (Blk W P2 (p4 x25 y26 z27 t28) 60) ∧ (Blk W P3 (p4 x49 y50 z51 t52) 60) ∧ (Blk W q0h (q7 .u8 80 (j0 P)) 45) ∧ (Blk W pm24 (q7 .u8 64 (j0 U1)) 30)) (fun W hS => ⟨hS.1, hS.2.1, hS.2.2.1, hS.2.2.2.1, hS.2.2.2.2.1, hS.2.2.2.2.2.1⟩) ⟨k_t3, k_t12, k_t10, k_t15, k_t16, k_t5, k_mk⟩ ?_
  refine a9 (v := str (lb 16 U2)) rfl (by rfl) (fun W hS => by exact (q3r (b6 (V := U2) (n := 16) (off := 0) (hS.2.2.2.2.2.2) (h16 HU2.out) (by decide) (by decide)) rfl rfl)) ?_
  (try simp only [Act.put, mA, mB, mC])
  have hc_ : U2 = chk V P h := by rw [HU2.out, HU1.out]; rfl
  refine a9 (v := .bool false) rfl (by rfl) (fun W hS => by exact (q5e (l := (lb 16 U2)) (m := (lb 16 (pC P))) ((by rw [decide_eq_true (by rw [hc_, htk])]; rfl)) rfl rfl rfl)) ?_
  (try simp only [Act.put, mA, mB, mC])
  refine q3b ?_
  go_upto_region 15 with fail
  refine wp_region_lit ?_
  refine B9 ?_ k_t5
  refine Lr ?_ (j1w (kn := kn) hc hok HU3.out W24 (y7 hG off0.ext))
  intro W25 hO
  replace k_t3 := k_t3.o hO
  replace k_t5 := k_t5.o hO
  replace k_t6 := k_t6.o hO
  replace k_t10 := k_t10.o hO
  replace k_t12 := k_t12.o hO
  replace k_t15 := k_t15.o hO
  replace k_t16 := k_t16.o hO
  replace k_s71 := k_s71.o hO
  replace k_mk := k_mk.o hO
  replace off0 := off0.o hO
  clear hO
  refine Lv ?_
  refine Lw ?_ (v := .int .i64 0)
  refine LpA ?_ k_t6 (k := .u8) (n := 64) (f := j0 U3)
  intro W26 hO h_
  replace k_t6 : Blk W26 I6 (q7 .u8 64 (j0 U3)) 30 := h_
  clear h_
  replace k_t3 := k_t3.p hO q4f
  replace k_t5 := k_t5.p hO R7
  replace k_t10 := k_t10.p hO nq_t6_t10.symm
  replace k_t12 := k_t12.p hO nq_t6_t12.symm
  replace k_t15 := k_t15.p hO nq_t6_t15.symm
  replace k_t16 := k_t16.p hO nq_t6_t16.symm
  replace k_s71 := k_s71.p hO nq_t6_s71.symm
  replace k_mk := k_mk.p hO nq_t6_mk.symm
  replace off0 := off0.p hO K4
  clear hO
  refine Lw ?_ (v := .int .i64 0)
  refine q5 ?_
  go_wp2
  rw [HU3.out] at k_t6
  obtain ⟨er_, ek_⟩ := HQ.out.1 htk
  rw [er_, ek_]
  exact bodyPost_ret (u4 rfl rfl rfl k_t6 (by kernel_rfl) (by rw [y5]; kernel_rfl)) rfl ⟨rfl, off0.ext⟩
 ·
  have _f := htk
  go_upto_region 13 with fail
  refine Q3 (.q 0 (.q 1 (.q 2 (.q 3 (.q 4 (.q 8 (.q 9 (.e 5 (.e 6 (.q 7 (.q 10 .z))))))))))) (fun W => (Blk W r7 (q7 .u8 32 (j0 V)) 22) ∧ (Blk W q0v (p4 hx hy hz ht) 60) ∧ (Blk W P1 (p4 gx gy 1 gt) 60) ∧ (Blk W P2 (p4 x25 y26 z27 t28) 60) ∧ (Blk W P3 (p4 x49 y50 z51 t52) 60) ∧ (Blk W q0h (q7 .u8 80 (j0 P)) 45)) (by kernel_rfl) (by kernel_rfl) ?_
  intro W22 hO
  replace k_t3 := k_t3.o hO
  replace k_t5 := k_t5.o hO
  replace k_t6 := k_t6.o hO
  replace k_t10 := k_t10.o hO
  replace k_t12 := k_t12.o hO
  replace k_t15 := k_t15.o hO
  replace k_t16 := k_t16.o hO
  replace off0 := off0.o hO
  clear hO
  refine ⟨⟨k_t3, k_t12, k_t10, k_t15, k_t16, k_t5⟩, ?_⟩
  refine a9 (v := .agg (q7 .u8 32 (j0 V))) rfl (by rfl) (fun W hS => by exact (i8 rfl rfl (hS.1) (by kernel_rfl) (by rw [y5]; kernel_rfl))) ?_
  (try simp only [Act.put, mA, mB, mC])
  refine a9 (v := .agg (p4 hx hy hz ht)) rfl (by rfl) (fun W hS => by exact (i8 rfl rfl (hS.2.1) (by kernel_rfl) (by kernel_rfl))) ?_
  (try simp only [Act.put, mA, mB, mC])
  refine a9 (v := .agg (p4 gx gy 1 gt)) rfl (by rfl) (fun W hS => by exact (i8 rfl rfl (hS.2.2.1) (by kernel_rfl) (by kernel_rfl))) ?_
  (try simp only [Act.put, mA, mB, mC])
  refine a9 (v := .agg (p4 x25 y26 z27 t28)) rfl (by rfl) (fun W hS => by exact (i8 rfl rfl (hS.2.2.2.1) (by kernel_rfl) (by kernel_rfl))) ?_
  (try simp only [Act.put, mA, mB, mC])
  refine a9 (v := .agg (p4 x49 y50 z51 t52)) rfl (by rfl) (fun W hS => by exact (i8 rfl rfl (hS.2.2.2.2.1) (by kernel_rfl) (by kernel_rfl))) ?_
  (try simp only [Act.put, mA, mB, mC])
  refine a9 (v := .slice (some ⟨q0h, 32, none⟩) 16 48) rfl (by rfl) (fun W hS => by first | rfl | (go_simp; done) | (go_simp; with_reducible rfl)) ?_
  (try simp only [Act.put, mA, mB, mC])
  refine a9 (v := str (lb 16 (pC P))) rfl (by rfl) (fun W hS => by exact (q3r (b6 (V := (pC P)) (n := 16) (off := 32) (hS.2.2.2.2.2) g2i (by decide) (by decide)) rfl rfl)) ?_
  (try simp only [Act.put, mA, mB, mC])
  refine w6 rfl ?_
  refine I4 ?_ (z := (p4 hx hy hz ht) ++ (p4 gx gy 1 gt) ++ (p4 x25 y26 z27 t28) ++ (p4 x49 y50 z51 t52)) (t := 60) (n := 4) (c := 4)
  intro y2h W23 y4l hO h_
  replace k_t3 := k_t3.o hO
  replace k_t5 := k_t5.o hO
  replace k_t6 := k_t6.o hO
  replace k_t10 := k_t10.o hO
  replace k_t12 := k_t12.o hO
  replace k_t15 := k_t15.o hO
  replace k_t16 := k_t16.o hO
  replace off0 := off0.o hO
  have k_s71 := h_
  clear hO h_ y4l
  refine s6 (fun W => (Blk W r7 (q7 .u8 32 (j0 V)) 22) ∧ (Blk W q0v (p4 hx hy hz ht) 60) ∧ (Blk W P1 (p4 gx gy 1 gt) 60) ∧ (Blk W P2 (p4 x25 y26 z27 t28) 60) ∧ (Blk W P3 (p4 x49 y50 z51 t52) 60) ∧ (Blk W q0h (q7 .u8 80 (j0 P)) 45)) (fun W hS => ⟨hS.1, hS.2.1, hS.2.2.1, hS.2.2.2.1, hS.2.2.2.2.1, hS.2.2.2.2.2⟩) ⟨k_t3, k_t12, k_t10, k_t15, k_t16, k_t5⟩ ?_
  refine w6 rfl ?_
  refine q4q (R := fun v W => ∃ p, v = .slice (some ⟨p, 0, none⟩) 16 64 ∧ W23.heap.size ≤ p ∧ Off [] W23 W ∧ Blk W p (q7 .u8 64 (j0 U1)) 30) ((y1m (kn := kn) hr gr r29 r53 HU1.out y2h W23 (y7 hG off0.ext) k_s71).mono fun e W h => by obtain ⟨p, h1, h2⟩ := h; exact ⟨_, h1, p, rfl, h2⟩) (by rfl) rfl (by kernel_rfl) rfl ?_
  (try simp only [Act.put, mA, mB, mC])
  rintro _ W24 ⟨pm24, rfl, n_mk, hO, h_⟩
  (try simp only [Act.put, mA, mB, mC])
  replace k_t3 := k_t3.o hO
  replace k_t5 := k_t5.o hO
  replace k_t6 := k_t6.o hO
  replace k_t10 := k_t10.o hO
  replace k_t12 := k_t12.o hO
  replace k_t15 := k_t15.o hO
  replace k_t16 := k_t16.o hO
  replace off0 := off0.o hO
  have k_mk := h_
  clear hO h_ n_mk
  refine s6 (fun W => (Blk W r7 (q7 .u8 32 (j0 V)) 22) ∧ (Blk W q0v (p4 hx hy hz ht) 60) ∧ (Blk W P1 (p4 gx gy 1 gt) 60) ∧ (Blk W P2 (p4 x25 y26 z27 t28) 60) ∧ (Blk W P3 (p4 x49 y50 z51 t52) 60) ∧ (Blk W q0h (q7 .u8 80 (j0 P)) 45) ∧ (Blk W pm24 (q7 .u8 64 (j0 U1)) 30)) (fun W hS => ⟨hS.1, hS.2.1, hS.2.2.1, hS.2.2.2.1, hS.2.2.2.2.1, hS.2.2.2.2.2.1⟩) ⟨k_t3, k_t12, k_t10, k_t15, k_t16, k_t5, k_mk⟩ ?_
  refine a9 (v := str (lb 16 U2)) rfl (by rfl) (fun W hS => by exact (q3r (b6 (V := U2) (n := 16) (off := 0) (hS.2.2.2.2.2.2) (h16 HU2.out) (by decide) (by decide)) rfl rfl)) ?_
  (try simp only [Act.put, mA, mB, mC])
  have hc_ : U2 = chk V P h := by rw [HU2.out, HU1.out]; rfl
  refine a9 (v := .bool true) rfl (by rfl) (fun W hS => by exact (q5e (l := (lb 16 U2)) (m := (lb 16 (pC P))) ((by rw [decide_eq_false fun e => htk (hc_ ▸ j2g qU2 (y4g P) e)]; rfl)) rfl rfl rfl)) ?_
  (try simp only [Act.put, mA, mB, mC])
  refine q3b ?_
  go_upto_region 14 with fail
  refine wp_region_lit ?_
  refine Lw ?_ (v := .agg (q7 .u8 64 (j0 0))) (hv := by kernel_rfl)
  refine LpA ?_ k_t6 (k := .u8) (n := 64) (f := j0 0)
  intro W25 hO h_
  replace k_t6 : Blk W25 I6 (q7 .u8 64 (j0 0)) 30 := h_
  clear h_
  replace off0 := off0.p hO K4
  clear hO
  refine Lw ?_ (v := .int .i64 17)
  refine q5 ?_
  go_wp2
  obtain ⟨er_, ek_⟩ := HQ.out.2 htk
  rw [er_, ek_]
  exact bodyPost_ret (u4 rfl rfl rfl k_t6 (by kernel_rfl) (by rw [y5]; kernel_rfl)) rfl ⟨rfl, off0.ext⟩
def C5 (V : Nat) (L : List UInt8) (P : Nat) : Nat × Nat :=
  if G9 V = false ∨ pm (B1 V) 8 = p0 then (0, 15) else if G9 (pG P) = false ∨ LL ≤ pN P then (0, 17) else
  match vpt V L with
  | none => (0, 15)
  | some c => if chk V P (a6 V L c) = pC P then (q8i P, 0) else (0, 17)
theorem j6s (hd : kn.d) (hb : kn.b) (hc : kn.c) {V P : Nat} {X : Nat × Nat} {L : List UInt8} (hX : X = C5 V L P) (hV : V < 2 ^ 256) (hP : B80 P) (v : Value) (hL : L.length ≤ 1099511627776) (w : World) (hG : GA kn w) (hsl : Sl w v L) :
    Calls Tryd.prog 26 #[.agg (q7 .u8 32 (j0 V)), v, .agg (q7 .u8 80 (j0 P))] w fun e w' => m7 (.tuple #[.agg (q7 .u8 64 (j0 X.1)), .int .i64 (X.2 : Int)]) w w' e := by
  subst hX
  unfold C5
  cases hk1 : G9 V
  · rw [if_pos (Or.inl rfl)]; exact j6p hd hb hc hV hP v L hL hk1 w hG hsl
  by_cases hk2 : pm (B1 V) 8 = p0
  · rw [if_pos (Or.inr hk2)]; exact j6q hd hb hc hV hP v L hL hk1 hk2 w hG hsl
  rw [if_neg (by rintro (h | h); cases h; exact hk2 h)]
  cases hok : G9 (pG P)
  · rw [if_pos (Or.inl rfl)]
    by_cases h1 : LL ≤ pN P
    · exact j2h hd hb hc hV hP v L hL hk1 hk2 hok h1 w hG hsl
    · exact j2i hd hb hc hV hP v L hL hk1 hk2 hok (Nat.not_le.1 h1) w hG hsl
  by_cases h1 : LL ≤ pN P
  · rw [if_pos (Or.inr h1)]; exact j2j hd hb hc hV hP v L hL hk1 hk2 hok h1 w hG hsl
  rw [if_neg (by rintro (h | h); cases h; exact h1 h)]
  cases hv : vpt V L with
  | none => exact j6r hd hb hc hV hP v L hL hk1 hk2 hok (Nat.not_le.1 h1) hv w hG hsl
  | some c =>
    by_cases ht : chk V P (a6 V L c) = pC P
    · simp only [if_pos ht]; exact y4k hd hb hc hV hP v L hL hk1 hk2 hok (Nat.not_le.1 h1) hv rfl ⟨fun _ => ⟨rfl, rfl⟩, fun h => absurd ht h⟩ w hG hsl
    · simp only [if_neg ht]; exact y4k hd hb hc hV hP v L hL hk1 hk2 hok (Nat.not_le.1 h1) hv rfl ⟨fun h => absurd h ht, fun _ => ⟨rfl, rfl⟩⟩ w hG hsl
end Go.Proofs.YtefpoollmbmkfaaDoor
