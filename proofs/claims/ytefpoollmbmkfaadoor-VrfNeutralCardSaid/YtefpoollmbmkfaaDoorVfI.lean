/- custumallaw09: VrfChecks, VrfNeutral. Conditions: the cells of the variables hold their numbers. -/
import Derived.Test.YtefpoollmbmkfaaDoorGc
import Derived.Test.YtefpoollmbmkfaaDoorVfH
set_option linter.unusedSimpArgs false
set_option linter.unusedVariables false
namespace Go.Proofs.YtefpoollmbmkfaaDoor
set_option maxHeartbeats 2000000
set_option maxRecDepth 100000
open Go.RowKit
attribute [local irreducible] wpList
variable {kn : Kn}
open Sc (LL i6)
attribute [local irreducible] hs
theorem q0n {V P : Nat} {L : List UInt8} (h : K0 V = false ∨ pm (M6 V) 8 = p0) : J3 V L P = (0, 15) := by unfold J3; rw [if_pos h]
theorem g1e (V P : Nat) (L : List UInt8) : (J3 V L P).2 = 15 ∨ (J3 V L P).2 = 17 ∨ (J3 V L P).2 = 0 := by
  unfold J3
  split
  · exact Or.inl rfl
  split
  · exact Or.inr (Or.inl rfl)
  split
  · exact Or.inl rfl
  · split
    · exact Or.inr (Or.inr rfl)
    · exact Or.inr (Or.inl rfl)
theorem g1f : pm (M6 1) 8 = p0 := by
  have h := (N0 y1o).2
  rw [show r4 p0 = 1 by decide +kernel] at h
  rw [h, y7e]
def qix : Nat := 19681161376707505956807079304988542015446066515923890162744021073123829784752
theorem g7w : qix < PP := by decide
theorem j6u : p5 (fp qix, fp 0) := by unfold p5; decide +kernel
theorem g1g : pm (M6 0) 8 = p0 := by
  have h := (N0 j6u).2
  rw [show r4 (fp qix, fp 0) = 0 by decide +kernel] at h
  rw [h]
  exact (H8 (x := q0x) (y := q0y) rfl g7w (by decide) j6u (by decide) (by decide +kernel)).trans j6v
theorem g4s (v : Nat) : rtX 0 v = 0 := by unfold rtX; simp only [Nat.zero_mul, Nat.zero_mod]
theorem g4t (v : Nat) : rtR 0 v = 0 := by
  unfold rtR
  rw [g4s]
  simp only [Nat.zero_mul, Nat.zero_mod, ite_self]
theorem g7z : dU 1 = 0 := by decide +kernel
theorem g8a {V : Nat} (h1 : V % 2 ^ 255 = 1) (h2 : 2 ^ 255 ≤ V) : K0 V = false := by
  have e : dX 1 = 0 := by unfold dX; rw [g7z]; exact g4t _
  unfold K0 top
  rw [h1, e, decide_eq_true h2]
  simp
theorem j1e : K0 57896044618658097711785492504343953926634992332820282019728792003956564819969 = false := g8a (by decide +kernel) (by decide +kernel)
theorem y0x {A : Nat} (hA : A = 0) (w : World) : (Op.equalIn 10000 30 (.agg (q7 .u8 64 (j0 A))) (.agg (q7 .u8 64 (j0 0)))).run Tryd.prog w = .ok true w := by
  subst hA
  rw [V2 (P := Tryd.prog) w 9998 30 5 64 .u8 (q7 .u8 64 (j0 0)) (q7 .u8 64 (j0 0)) (j0 0) (j0 0) Tryd.underlying30 Tryd.underlying5 (by kernel_rfl) (fun i hi => y9 _ _ _ _ hi) (fun i hi => y9 _ _ _ _ hi)]
  rw [(S7 _ _ _).2 fun _ _ => rfl]
attribute [local irreducible] S1 J3 vsm

theorem q7a (hd : kn.d) (hb : kn.b) (hc : kn.c) {P : Nat} (eP : B80 P) (v : Value) (L M : List UInt8) (hL : L.length ≤ 9223372036854775807) (hM : List.take (min L.length 200) L = M) (hMl : M.length ≤ 200) :
  ∀ w, GA kn w → Sl w v L → Calls Tryd.prog 11 #[v, .agg (q7 .u8 80 (j0 P))] w fun e w' => h9 (.bool true) w w' e := by
 obtain ⟨U1, hU1⟩ := z8 ((J3 1 M P).1)
 have HU1 := Lib.hid hU1
 clear hU1
 obtain ⟨U2, hU2⟩ := z8 ((J3 1 M P).2)
 have HU2 := Lib.hid hU2
 clear hU2
 have hz0 : (U2 : Int) = 15 := by rw [HU2.out, q0n (Or.inr g1f)]; rfl
 obtain ⟨U3, hU3⟩ := z8 ((J3 0 M P).1)
 have HU3 := Lib.hid hU3
 clear hU3
 obtain ⟨U4, hU4⟩ := z8 ((J3 0 M P).2)
 have HU4 := Lib.hid hU4
 clear hU4
 have hz1 : (U4 : Int) = 15 := by rw [HU4.out, q0n (Or.inr g1g)]; rfl
 obtain ⟨U5, hU5⟩ := z8 ((J3 65516 M P).1)
 have HU5 := Lib.hid hU5
 clear hU5
 obtain ⟨U6, hU6⟩ := z8 ((J3 65516 M P).2)
 have HU6 := Lib.hid hU6
 clear hU6
 have h3_ : U6 = 15 ∨ U6 = 17 ∨ U6 = 0 := by rw [HU6.out]; exact g1e _ _ _
 obtain ⟨U7, hU7⟩ := z8 ((J3 57896044618658097711785492504343953926634992332820282019728792003956564819969 M P).1)
 have HU7 := Lib.hid hU7
 clear hU7
 obtain ⟨U8, hU8⟩ := z8 ((J3 57896044618658097711785492504343953926634992332820282019728792003956564819969 M P).2)
 have HU8 := Lib.hid hU8
 clear hU8
 have hz3 : (U8 : Int) = 15 := by rw [HU8.out, q0n (Or.inl j1e)]; rfl
 have hx_ : U7 = 0 := by rw [HU7.out, q0n (Or.inl j1e)]
 have HX_ := Lib.hid hx_
 clear hx_
 intro w hG hs
 have y6 := hs
 have off0 : Off [] w w := Off.refl _ _
 go_enter Tryd.func11, Tryd.ntmps11
 go_upto_region 0 with fail
 refine wp_region_lit ?_
 refine Ln ?_ (z := q7 .u8 80 (j0 P)) (t := 45)
 intro l3 W1 d7 hO h_
 have q2o := n8 (Sl.lt y6) d7
 replace y6 := Sl.off y6 hO f0
 replace off0 := off0.o hO
 have k_t3 := h_
 clear hO h_ d7
 refine Lw ?_ (v := .bool false)
 refine q5 ?_
 go_upto_region 1 with fail
 refine wp_region_lit ?_
 refine Lv ?_
 refine Lv ?_
 refine R6 (l := L) y6 (by rfl) rfl rfl ?_
 (try simp only [Act.put, mA, mB, mC])
 refine Lw ?_ (v := .int .i64 ((min L.length 200 : Nat) : Int)) (hv := by go_simp; (try omega))
 refine y8d (n := min L.length 200) y6 (by omega) (by rfl) rfl rfl rfl ?_
 (try simp only [Act.put, mA, mB, mC])
 intro q8s p3 y2y g4u
 have y5q : sb q8s (List.take (min L.length 200) L) ≠ some l3 := q9k y2y q2o
 rw [hM] at p3 y2y
 (try rw [hM] at y5q)
 refine Lv ?_
 refine q5 ?_
 go_upto_region 2 with fail
 refine wp_region_lit ?_
 refine Lw ?_ (v := .agg (q7 .u8 32 (j0 1))) (hv := by kernel_rfl)
 refine Lv ?_
 refine M0 ?_ k_t3
 refine Lr ?_ (E0 hd hb hc HU1.out HU2.out (by decide) eP q8s (by first | omega | (simp only [List.length_append, List.length_take, List.length_cons, List.length_nil, g7]; omega)) W1 (y7 hG off0.ext) p3)
 intro W2 hO
 replace k_t3 := k_t3.o hO
 replace p3 := Sl.off p3 hO f0
 replace off0 := off0.o hO
 clear hO
 refine Lv ?_
 refine Lv ?_
 refine Lv ?_
 refine LnA ?_ (z := q7 .u8 64 (j0 0)) (t := 30) (k := .u8) (n := 64) (f := j0 U1)
 intro x0b W4 d6 hO h_
 replace k_t3 := k_t3.o hO
 replace p3 := Sl.off p3 hO f0
 replace off0 := off0.o hO
 clear hO h_ d6
 refine Lv ?_
 refine q5 ?_
 go_upto_region 3 with fail
 refine wp_region_lit ?_
 refine Lw ?_ (v := .agg (q7 .u8 32 (j0 0))) (hv := by kernel_rfl)
 refine Lv ?_
 refine M0 ?_ k_t3
 refine Lr ?_ (E0 hd hb hc HU3.out HU4.out (by decide) eP q8s (by first | omega | (simp only [List.length_append, List.length_take, List.length_cons, List.length_nil, g7]; omega)) W4 (y7 hG off0.ext) p3)
 intro W5 hO
 replace k_t3 := k_t3.o hO
 replace p3 := Sl.off p3 hO f0
 replace off0 := off0.o hO
 clear hO
 refine Lv ?_
 refine Lv ?_
 refine Lv ?_
 refine LnA ?_ (z := q7 .u8 64 (j0 0)) (t := 30) (k := .u8) (n := 64) (f := j0 U3)
 intro x0c W7 u6 hO h_
 replace k_t3 := k_t3.o hO
 replace p3 := Sl.off p3 hO f0
 replace off0 := off0.o hO
 clear hO h_ u6
 refine Lv ?_
 refine q5 ?_
 go_upto_region 4 with fail
 refine wp_region_lit ?_
 refine Lw ?_ (v := .agg (q7 .u8 32 (j0 65516))) (hv := by kernel_rfl)
 refine Lv ?_
 refine M0 ?_ k_t3
 refine Lr ?_ (E0 hd hb hc HU5.out HU6.out (by decide) eP q8s (by first | omega | (simp only [List.length_append, List.length_take, List.length_cons, List.length_nil, g7]; omega)) W7 (y7 hG off0.ext) p3)
 intro W8 hO
 replace k_t3 := k_t3.o hO
 replace p3 := Sl.off p3 hO f0
 replace off0 := off0.o hO
 clear hO
 refine Lv ?_
 refine Lv ?_
 refine Lv ?_
 refine LnA ?_ (z := q7 .u8 64 (j0 0)) (t := 30) (k := .u8) (n := 64) (f := j0 U5)
 intro x0d W10 I1 hO h_
 replace k_t3 := k_t3.o hO
 replace p3 := Sl.off p3 hO f0
 replace off0 := off0.o hO
 clear hO h_ I1
 refine Lv ?_
 refine q5 ?_
 go_upto_region 5 with fail
 refine wp_region_lit ?_
 refine Lw ?_ (v := .agg (q7 .u8 32 (j0 57896044618658097711785492504343953926634992332820282019728792003956564819969))) (hv := by kernel_rfl)
 refine Lv ?_
 refine M0 ?_ k_t3
 refine Lr ?_ (E0 hd hb hc HU7.out HU8.out (by decide) eP q8s (by first | omega | (simp only [List.length_append, List.length_take, List.length_cons, List.length_nil, g7]; omega)) W10 (y7 hG off0.ext) p3)
 intro W11 hO
 replace off0 := off0.o hO
 clear hO
 refine Lv ?_
 refine Lv ?_
 refine Lv ?_
 refine LnA ?_ (z := q7 .u8 64 (j0 0)) (t := 30) (k := .u8) (n := 64) (f := j0 U7)
 intro g8b W13 x5 hO h_
 replace off0 := off0.o hO
 have k_t11 := h_
 clear hO h_ x5
 refine Lv ?_
 refine q5 ?_
 by_cases c15 : U6 = 15
 ·
  have _f := c15
  have e3_ : (U6 : Int) = 15 := by rw [c15]; rfl
  clear c15
  go_upto_region 6 with fail
  refine wp_region_lit ?_
  refine Lr ?_ (q4d hd hb hc W13 (y7 hG off0.ext))
  intro W14 hO
  replace k_t11 := k_t11.o hO
  replace off0 := off0.o hO
  clear hO
  refine Lw ?_ (v := .bool true)
  refine Lv ?_
  refine Lw ?_ (v := .bool true) (hv := by first | (go_simp; done) | (go_simp; simp only [hz0]; done) | (go_simp; simp only [hz0]; decide))
  refine Lw ?_ (v := .bool true)
  refine Lw ?_ (v := .bool true)
  refine Lv ?_
  refine Lw ?_ (v := .bool true) (hv := by first | (go_simp; done) | (go_simp; simp only [hz1]; done) | (go_simp; simp only [hz1]; decide))
  refine Lw ?_ (v := .bool true)
  refine Lw ?_ (v := .bool true)
  refine Lv ?_
  refine Lw ?_ (v := .bool true) (hv := by first | (go_simp; done) | (go_simp; simp only [e3_]; done) | (go_simp; simp only [e3_]; decide))
  refine Lw ?_ (v := .bool true)
  refine Ls ?_
  refine Ls ?_
  refine Lw ?_ (v := .bool true)
  refine Lw ?_ (v := .bool true)
  refine Ls ?_
  refine Ls ?_
  refine Lw ?_ (v := .bool true)
  refine Lw ?_ (v := .bool true)
  refine Lw ?_ (v := .bool true)
  refine Lv ?_
  refine Lw ?_ (v := .bool true) (hv := by first | (go_simp; done) | (go_simp; simp only [hz3]; done) | (go_simp; simp only [hz3]; decide))
  refine Lw ?_ (v := .bool true)
  refine Lw ?_ (v := .bool true)
  refine M0 ?_ k_t11
  refine Lw ?_ (v := .agg (q7 .u8 64 (j0 0))) (hv := by kernel_rfl)
  refine I7 (fun w => y0x HX_.out w) (by kernel_rfl) (by rfl) rfl rfl rfl ?_
  (try simp only [Act.put, mA, mB, mC])
  refine Lw ?_ (v := .bool true)
  refine Lw ?_ (v := .bool true)
  refine q5 ?_
  go_wp2
  exact bodyPost_ret (v := .bool true) (by simp only [results, Tryd.results11]; go_simp) rfl ⟨rfl, off0.ext⟩
 ·
  have _f := c15
  by_cases c17 : U6 = 17
  ·
   have _f := c17
   have e3_ : (U6 : Int) = 17 := by rw [c17]; rfl
   clear c17
   go_upto_region 6 with fail
   refine wp_region_lit ?_
   refine Lr ?_ (q4d hd hb hc W13 (y7 hG off0.ext))
   intro W14 hO
   replace k_t11 := k_t11.o hO
   replace off0 := off0.o hO
   clear hO
   refine Lw ?_ (v := .bool true)
   refine Lv ?_
   refine Lw ?_ (v := .bool true) (hv := by first | (go_simp; done) | (go_simp; simp only [hz0]; done) | (go_simp; simp only [hz0]; decide))
   refine Lw ?_ (v := .bool true)
   refine Lw ?_ (v := .bool true)
   refine Lv ?_
   refine Lw ?_ (v := .bool true) (hv := by first | (go_simp; done) | (go_simp; simp only [hz1]; done) | (go_simp; simp only [hz1]; decide))
   refine Lw ?_ (v := .bool true)
   refine Lw ?_ (v := .bool true)
   refine Lv ?_
   refine Lw ?_ (v := .bool false) (hv := by first | (go_simp; done) | (go_simp; simp only [e3_]; done) | (go_simp; simp only [e3_]; decide))
   refine Lw ?_ (v := .bool false)
   refine Lv ?_
   refine Lw ?_ (v := .bool true) (hv := by first | (go_simp; done) | (go_simp; simp only [e3_]; done) | (go_simp; simp only [e3_]; decide))
   refine Lw ?_ (v := .bool true)
   refine Lw ?_ (v := .bool true)
   refine Ls ?_
   refine Ls ?_
   refine Lw ?_ (v := .bool true)
   refine Lw ?_ (v := .bool true)
   refine Lw ?_ (v := .bool true)
   refine Lv ?_
   refine Lw ?_ (v := .bool true) (hv := by first | (go_simp; done) | (go_simp; simp only [hz3]; done) | (go_simp; simp only [hz3]; decide))
   refine Lw ?_ (v := .bool true)
   refine Lw ?_ (v := .bool true)
   refine M0 ?_ k_t11
   refine Lw ?_ (v := .agg (q7 .u8 64 (j0 0))) (hv := by kernel_rfl)
   refine I7 (fun w => y0x HX_.out w) (by kernel_rfl) (by rfl) rfl rfl rfl ?_
   (try simp only [Act.put, mA, mB, mC])
   refine Lw ?_ (v := .bool true)
   refine Lw ?_ (v := .bool true)
   refine q5 ?_
   go_wp2
   exact bodyPost_ret (v := .bool true) (by simp only [results, Tryd.results11]; go_simp) rfl ⟨rfl, off0.ext⟩
  ·
   have _f := c17
   have e3_ : (U6 : Int) = 0 := by rw [(h3_.resolve_left c15).resolve_left c17]; rfl
   go_upto_region 6 with fail
   refine wp_region_lit ?_
   refine Lr ?_ (q4d hd hb hc W13 (y7 hG off0.ext))
   intro W14 hO
   replace k_t11 := k_t11.o hO
   replace off0 := off0.o hO
   clear hO
   refine Lw ?_ (v := .bool true)
   refine Lv ?_
   refine Lw ?_ (v := .bool true) (hv := by first | (go_simp; done) | (go_simp; simp only [hz0]; done) | (go_simp; simp only [hz0]; decide))
   refine Lw ?_ (v := .bool true)
   refine Lw ?_ (v := .bool true)
   refine Lv ?_
   refine Lw ?_ (v := .bool true) (hv := by first | (go_simp; done) | (go_simp; simp only [hz1]; done) | (go_simp; simp only [hz1]; decide))
   refine Lw ?_ (v := .bool true)
   refine Lw ?_ (v := .bool true)
   refine Lv ?_
   refine Lw ?_ (v := .bool false) (hv := by first | (go_simp; done) | (go_simp; simp only [e3_]; done) | (go_simp; simp only [e3_]; decide))
   refine Lw ?_ (v := .bool false)
   refine Lv ?_
   refine Lw ?_ (v := .bool false) (hv := by first | (go_simp; done) | (go_simp; simp only [e3_]; done) | (go_simp; simp only [e3_]; decide))
   refine Lw ?_ (v := .bool false)
   refine Lw ?_ (v := .bool false)
   refine Lv ?_
   refine Lw ?_ (v := .bool true) (hv := by first | (go_simp; done) | (go_simp; simp only [e3_]; done) | (go_simp; simp only [e3_]; decide))
   refine Lw ?_ (v := .bool true)
   refine Lw ?_ (v := .bool true)
   refine Lw ?_ (v := .bool true)
   refine Lv ?_
   refine Lw ?_ (v := .bool true) (hv := by first | (go_simp; done) | (go_simp; simp only [hz3]; done) | (go_simp; simp only [hz3]; decide))
   refine Lw ?_ (v := .bool true)
   refine Lw ?_ (v := .bool true)
   refine M0 ?_ k_t11
   refine Lw ?_ (v := .agg (q7 .u8 64 (j0 0))) (hv := by kernel_rfl)
   refine I7 (fun w => y0x HX_.out w) (by kernel_rfl) (by rfl) rfl rfl rfl ?_
   (try simp only [Act.put, mA, mB, mC])
   refine Lw ?_ (v := .bool true)
   refine Lw ?_ (v := .bool true)
   refine q5 ?_
   go_wp2
   exact bodyPost_ret (v := .bool true) (by simp only [results, Tryd.results11]; go_simp) rfl ⟨rfl, off0.ext⟩
end Go.Proofs.YtefpoollmbmkfaaDoor
