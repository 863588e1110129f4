/- custumallaw09: VrfChecks, VrfNeutral. Conditions: the cells of the variables hold their numbers. -/
import Derived.Test.YtefpoollmbmkfaaDoorGc
import Derived.Test.YtefpoollmbmkfaaDoorVfH
set_option linter.unusedSimpArgs false
set_option linter.unusedVariables false
namespace Go.Proofs.YtefpoollmbmkfaaDoor
set_option maxHeartbeats 2000000
set_option maxRecDepth 100000
open Go.RowKit
attribute [local irreducible] wpList
variable {kn : Kn}
open Sc (LL J12)
attribute [local irreducible] hs
theorem J8i {V P : Nat} {L : List UInt8} (h : dOk V = false ∨ pm (dPt V) 8 = p0) : J2s V L P = (0, 15) := by unfold J2s; rw [if_pos h]
theorem Y0v (V P : Nat) (L : List UInt8) : (J2s V L P).2 = 15 ∨ (J2s V L P).2 = 17 ∨ (J2s V L P).2 = 0 := by
  unfold J2s
  split
  · exact Or.inl rfl
  split
  · exact Or.inr (Or.inl rfl)
  split
  · exact Or.inl rfl
  · split
    · exact Or.inr (Or.inr rfl)
    · exact Or.inr (Or.inl rfl)
theorem Y0w : pm (dPt 1) 8 = p0 := by
  have h := (J41 Q6e).2
  rw [show enc p0 = 1 by decide +kernel] at h
  rw [h, Z0i]
def qix : Nat := 19681161376707505956807079304988542015446066515923890162744021073123829784752
theorem Y59 : qix < PP := by decide
theorem Z7n : OnC (fp qix, fp 0) := by unfold OnC; decide +kernel
theorem Y0x : pm (dPt 0) 8 = p0 := by
  have h := (J41 Z7n).2
  rw [show enc (fp qix, fp 0) = 0 by decide +kernel] at h
  rw [h]
  exact (J4j (x := q0x) (y := q0y) rfl Y59 (by decide) Z7n (by decide) (by decide +kernel)).trans Z7o
theorem Y3f (v : Nat) : rtX 0 v = 0 := by unfold rtX; simp only [Nat.zero_mul, Nat.zero_mod]
theorem Y3g (v : Nat) : rtR 0 v = 0 := by
  unfold rtR
  rw [Y3f]
  simp only [Nat.zero_mul, Nat.zero_mod, ite_self]
theorem Y5c : dU 1 = 0 := by decide +kernel
theorem Y5d {V : Nat} (h1 : V % 2 ^ 255 = 1) (h2 : 2 ^ 255 ≤ V) : dOk V = false := by
  have e : dX 1 = 0 := by unfold dX; rw [Y5c]; exact Y3g _
  unfold dOk top
  rw [h1, e, decide_eq_true h2]
  simp
theorem Z3j : dOk 57896044618658097711785492504343953926634992332820282019728792003956564819969 = false := Y5d (by decide +kernel) (by decide +kernel)
theorem Q5x {A : Nat} (hA : A = 0) (w : World) : (Op.equalIn 10000 30 (.agg (J2 .u8 64 (Q0 A))) (.agg (J2 .u8 64 (Q0 0)))).run Tryd.prog w = .ok true w := by
  subst hA
  rw [J3u (P := Tryd.prog) w 9998 30 5 64 .u8 (J2 .u8 64 (Q0 0)) (J2 .u8 64 (Q0 0)) (Q0 0) (Q0 0) Tryd.underlying30 Tryd.underlying5 (by kernel_rfl) (fun i hi => J9 _ _ _ _ hi) (fun i hi => J9 _ _ _ _ hi)]
  rw [(J7m _ _ _).2 fun _ _ => rfl]
attribute [local irreducible] J7h J2s vsm

theorem Q31 (hd : kn.d) (hb : kn.b) (hc : kn.c) {P : Nat} (eP : B80 P) (v : Value) (L M : List UInt8) (hL : L.length ≤ 9223372036854775807) (hM : List.take (min L.length 200) L = M) (hMl : M.length ≤ 200) :
  ∀ w, GA kn w → Sl w v L → Calls Tryd.prog 11 #[v, .agg (J2 .u8 80 (Q0 P))] w fun e w' => Ret (.bool true) w w' e := by
 obtain ⟨U1, hU1⟩ := V3 ((J2s 1 M P).1)
 have HU1 := Lib.hid hU1
 clear hU1
 obtain ⟨U2, hU2⟩ := V3 ((J2s 1 M P).2)
 have HU2 := Lib.hid hU2
 clear hU2
 have hz0 : (U2 : Int) = 15 := by rw [HU2.out, J8i (Or.inr Y0w)]; rfl
 obtain ⟨U3, hU3⟩ := V3 ((J2s 0 M P).1)
 have HU3 := Lib.hid hU3
 clear hU3
 obtain ⟨U4, hU4⟩ := V3 ((J2s 0 M P).2)
 have HU4 := Lib.hid hU4
 clear hU4
 have hz1 : (U4 : Int) = 15 := by rw [HU4.out, J8i (Or.inr Y0x)]; rfl
 obtain ⟨U5, hU5⟩ := V3 ((J2s 65516 M P).1)
 have HU5 := Lib.hid hU5
 clear hU5
 obtain ⟨U6, hU6⟩ := V3 ((J2s 65516 M P).2)
 have HU6 := Lib.hid hU6
 clear hU6
 have h3_ : U6 = 15 ∨ U6 = 17 ∨ U6 = 0 := by rw [HU6.out]; exact Y0v _ _ _
 obtain ⟨U7, hU7⟩ := V3 ((J2s 57896044618658097711785492504343953926634992332820282019728792003956564819969 M P).1)
 have HU7 := Lib.hid hU7
 clear hU7
 obtain ⟨U8, hU8⟩ := V3 ((J2s 57896044618658097711785492504343953926634992332820282019728792003956564819969 M P).2)
 have HU8 := Lib.hid hU8
 clear hU8
 have hz3 : (U8 : Int) = 15 := by rw [HU8.out, J8i (Or.inl Z3j)]; rfl
 have hx_ : U7 = 0 := by rw [HU7.out, J8i (Or.inl Z3j)]
 have HX_ := Lib.hid hx_
 clear hx_
 intro w hG hs
 have J7 := hs
 have off0 : Off [] w w := Off.refl _ _
 go_enter Tryd.func11, Tryd.ntmps11
 go_upto_region 0 with fail
 refine wp_region_lit ?_
 refine Ln ?_ (z := J2 .u8 80 (Q0 P)) (t := 45)
 intro J16 W1 J03 hO h_
 have J9t := J01 (Sl.lt J7) J03
 replace J7 := Sl.off J7 hO f0
 replace off0 := off0.o hO
 have k_t3 := h_
 clear hO h_ J03
 refine Lw ?_ (v := .bool false)
 refine J0 ?_
 go_upto_region 1 with fail
 refine wp_region_lit ?_
 refine Lv ?_
 refine Lv ?_
 refine J7b (l := L) J7 (by rfl) rfl rfl ?_
 (try simp only [Act.put, mA, mB, mC])
 refine Lw ?_ (v := .int .i64 ((min L.length 200 : Nat) : Int)) (hv := by go_simp; (try omega))
 refine Z17 (n := min L.length 200) J7 (by omega) (by rfl) rfl rfl rfl ?_
 (try simp only [Act.put, mA, mB, mC])
 intro Q4c J20 Q7g Y3h
 have Q9d : sb Q4c (List.take (min L.length 200) L) ≠ some J16 := Q4v Q7g J9t
 rw [hM] at J20 Q7g
 (try rw [hM] at Q9d)
 refine Lv ?_
 refine J0 ?_
 go_upto_region 2 with fail
 refine wp_region_lit ?_
 refine Lw ?_ (v := .agg (J2 .u8 32 (Q0 1))) (hv := by kernel_rfl)
 refine Lv ?_
 refine L0A ?_ k_t3
 refine Lr ?_ (J5o hd hb hc HU1.out HU2.out (by decide) eP Q4c (by first | omega | (simp only [List.length_append, List.length_take, List.length_cons, List.length_nil, Z7]; omega)) W1 (J8 hG off0.ext) J20)
 intro W2 hO
 replace k_t3 := k_t3.o hO
 replace J20 := Sl.off J20 hO f0
 replace off0 := off0.o hO
 clear hO
 refine Lv ?_
 refine Lv ?_
 refine Lv ?_
 refine LnA ?_ (z := J2 .u8 64 (Q0 0)) (t := 30) (k := .u8) (n := 64) (f := Q0 U1)
 intro Y6i W4 J05 hO h_
 replace k_t3 := k_t3.o hO
 replace J20 := Sl.off J20 hO f0
 replace off0 := off0.o hO
 clear hO h_ J05
 refine Lv ?_
 refine J0 ?_
 go_upto_region 3 with fail
 refine wp_region_lit ?_
 refine Lw ?_ (v := .agg (J2 .u8 32 (Q0 0))) (hv := by kernel_rfl)
 refine Lv ?_
 refine L0A ?_ k_t3
 refine Lr ?_ (J5o hd hb hc HU3.out HU4.out (by decide) eP Q4c (by first | omega | (simp only [List.length_append, List.length_take, List.length_cons, List.length_nil, Z7]; omega)) W4 (J8 hG off0.ext) J20)
 intro W5 hO
 replace k_t3 := k_t3.o hO
 replace J20 := Sl.off J20 hO f0
 replace off0 := off0.o hO
 clear hO
 refine Lv ?_
 refine Lv ?_
 refine Lv ?_
 refine LnA ?_ (z := J2 .u8 64 (Q0 0)) (t := 30) (k := .u8) (n := 64) (f := Q0 U3)
 intro Y6j W7 V6 hO h_
 replace k_t3 := k_t3.o hO
 replace J20 := Sl.off J20 hO f0
 replace off0 := off0.o hO
 clear hO h_ V6
 refine Lv ?_
 refine J0 ?_
 go_upto_region 4 with fail
 refine wp_region_lit ?_
 refine Lw ?_ (v := .agg (J2 .u8 32 (Q0 65516))) (hv := by kernel_rfl)
 refine Lv ?_
 refine L0A ?_ k_t3
 refine Lr ?_ (J5o hd hb hc HU5.out HU6.out (by decide) eP Q4c (by first | omega | (simp only [List.length_append, List.length_take, List.length_cons, List.length_nil, Z7]; omega)) W7 (J8 hG off0.ext) J20)
 intro W8 hO
 replace k_t3 := k_t3.o hO
 replace J20 := Sl.off J20 hO f0
 replace off0 := off0.o hO
 clear hO
 refine Lv ?_
 refine Lv ?_
 refine Lv ?_
 refine LnA ?_ (z := J2 .u8 64 (Q0 0)) (t := 30) (k := .u8) (n := 64) (f := Q0 U5)
 intro Y6k W10 J5t hO h_
 replace k_t3 := k_t3.o hO
 replace J20 := Sl.off J20 hO f0
 replace off0 := off0.o hO
 clear hO h_ J5t
 refine Lv ?_
 refine J0 ?_
 go_upto_region 5 with fail
 refine wp_region_lit ?_
 refine Lw ?_ (v := .agg (J2 .u8 32 (Q0 57896044618658097711785492504343953926634992332820282019728792003956564819969))) (hv := by kernel_rfl)
 refine Lv ?_
 refine L0A ?_ k_t3
 refine Lr ?_ (J5o hd hb hc HU7.out HU8.out (by decide) eP Q4c (by first | omega | (simp only [List.length_append, List.length_take, List.length_cons, List.length_nil, Z7]; omega)) W10 (J8 hG off0.ext) J20)
 intro W11 hO
 replace off0 := off0.o hO
 clear hO
 refine Lv ?_
 refine Lv ?_
 refine Lv ?_
 refine LnA ?_ (z := J2 .u8 64 (Q0 0)) (t := 30) (k := .u8) (n := 64) (f := Q0 U7)
 intro Y5e W13 Y6 hO h_
 replace off0 := off0.o hO
 have k_t11 := h_
 clear hO h_ Y6
 refine Lv ?_
 refine J0 ?_
 by_cases c15 : U6 = 15
 ·
  have _f := c15
  have e3_ : (U6 : Int) = 15 := by rw [c15]; rfl
  clear c15
  go_upto_region 6 with fail
  refine wp_region_lit ?_
  refine Lr ?_ (Q0y hd hb hc W13 (J8 hG off0.ext))
  intro W14 hO
  replace k_t11 := k_t11.o hO
  replace off0 := off0.o hO
  clear hO
  refine Lw ?_ (v := .bool true)
  refine Lv ?_
  refine Lw ?_ (v := .bool true) (hv := by first | (go_simp; done) | (go_simp; simp only [hz0]; done) | (go_simp; simp only [hz0]; decide))
  refine Lw ?_ (v := .bool true)
  refine Lw ?_ (v := .bool true)
  refine Lv ?_
  refine Lw ?_ (v := .bool true) (hv := by first | (go_simp; done) | (go_simp; simp only [hz1]; done) | (go_simp; simp only [hz1]; decide))
  refine Lw ?_ (v := .bool true)
  refine Lw ?_ (v := .bool true)
  refine Lv ?_
  refine Lw ?_ (v := .bool true) (hv := by first | (go_simp; done) | (go_simp; simp only [e3_]; done) | (go_simp; simp only [e3_]; decide))
  refine Lw ?_ (v := .bool true)
  refine Ls ?_
  refine Ls ?_
  refine Lw ?_ (v := .bool true)
  refine Lw ?_ (v := .bool true)
  refine Ls ?_
  refine Ls ?_
  refine Lw ?_ (v := .bool true)
  refine Lw ?_ (v := .bool true)
  refine Lw ?_ (v := .bool true)
  refine Lv ?_
  refine Lw ?_ (v := .bool true) (hv := by first | (go_simp; done) | (go_simp; simp only [hz3]; done) | (go_simp; simp only [hz3]; decide))
  refine Lw ?_ (v := .bool true)
  refine Lw ?_ (v := .bool true)
  refine L0A ?_ k_t11
  refine Lw ?_ (v := .agg (J2 .u8 64 (Q0 0))) (hv := by kernel_rfl)
  refine J6i (fun w => Q5x HX_.out w) (by kernel_rfl) (by rfl) rfl rfl rfl ?_
  (try simp only [Act.put, mA, mB, mC])
  refine Lw ?_ (v := .bool true)
  refine Lw ?_ (v := .bool true)
  refine J0 ?_
  go_wp2
  exact bodyPost_ret (v := .bool true) (by simp only [results, Tryd.results11]; go_simp) rfl ⟨rfl, off0.ext⟩
 ·
  have _f := c15
  by_cases c17 : U6 = 17
  ·
   have _f := c17
   have e3_ : (U6 : Int) = 17 := by rw [c17]; rfl
   clear c17
   go_upto_region 6 with fail
   refine wp_region_lit ?_
   refine Lr ?_ (Q0y hd hb hc W13 (J8 hG off0.ext))
   intro W14 hO
   replace k_t11 := k_t11.o hO
   replace off0 := off0.o hO
   clear hO
   refine Lw ?_ (v := .bool true)
   refine Lv ?_
   refine Lw ?_ (v := .bool true) (hv := by first | (go_simp; done) | (go_simp; simp only [hz0]; done) | (go_simp; simp only [hz0]; decide))
   refine Lw ?_ (v := .bool true)
   refine Lw ?_ (v := .bool true)
   refine Lv ?_
   refine Lw ?_ (v := .bool true) (hv := by first | (go_simp; done) | (go_simp; simp only [hz1]; done) | (go_simp; simp only [hz1]; decide))
   refine Lw ?_ (v := .bool true)
   refine Lw ?_ (v := .bool true)
   refine Lv ?_
   refine Lw ?_ (v := .bool false) (hv := by first | (go_simp; done) | (go_simp; simp only [e3_]; done) | (go_simp; simp only [e3_]; decide))
   refine Lw ?_ (v := .bool false)
   refine Lv ?_
   refine Lw ?_ (v := .bool true) (hv := by first | (go_simp; done) | (go_simp; simp only [e3_]; done) | (go_simp; simp only [e3_]; decide))
   refine Lw ?_ (v := .bool true)
   refine Lw ?_ (v := .bool true)
   refine Ls ?_
   refine Ls ?_
   refine Lw ?_ (v := .bool true)
   refine Lw ?_ (v := .bool true)
   refine Lw ?_ (v := .bool true)
   refine Lv ?_
   refine Lw ?_ (v := .bool true) (hv := by first | (go_simp; done) | (go_simp; simp only [hz3]; done) | (go_simp; simp only [hz3]; decide))
   refine Lw ?_ (v := .bool true)
   refine Lw ?_ (v := .bool true)
   refine L0A ?_ k_t11
   refine Lw ?_ (v := .agg (J2 .u8 64 (Q0 0))) (hv := by kernel_rfl)
   refine J6i (fun w => Q5x HX_.out w) (by kernel_rfl) (by rfl) rfl rfl rfl ?_
   (try simp only [Act.put, mA, mB, mC])
   refine Lw ?_ (v := .bool true)
   refine Lw ?_ (v := .bool true)
   refine J0 ?_
   go_wp2
   exact bodyPost_ret (v := .bool true) (by simp only [results, Tryd.results11]; go_simp) rfl ⟨rfl, off0.ext⟩
  ·
   have _f := c17
   have e3_ : (U6 : Int) = 0 := by rw [(h3_.resolve_left c15).resolve_left c17]; rfl
   go_upto_region 6 with fail
   refine wp_region_lit ?_
   refine Lr ?_ (Q0y hd hb hc W13 (J8 hG off0.ext))
   intro W14 hO
   replace k_t11 := k_t11.o hO
   replace off0 := off0.o hO
   clear hO
   refine Lw ?_ (v := .bool true)
   refine Lv ?_
   refine Lw ?_ (v := .bool true) (hv := by first | (go_simp; done) | (go_simp; simp only [hz0]; done) | (go_simp; simp only [hz0]; decide))
   refine Lw ?_ (v := .bool true)
   refine Lw ?_ (v := .bool true)
   refine Lv ?_
   refine Lw ?_ (v := .bool true) (hv := by first | (go_simp; done) | (go_simp; simp only [hz1]; done) | (go_simp; simp only [hz1]; decide))
   refine Lw ?_ (v := .bool true)
   refine Lw ?_ (v := .bool true)
   refine Lv ?_
   refine Lw ?_ (v := .bool false) (hv := by first | (go_simp; done) | (go_simp; simp only [e3_]; done) | (go_simp; simp only [e3_]; decide))
   refine Lw ?_ (v := .bool false)
   refine Lv ?_
   refine Lw ?_ (v := .bool false) (hv := by first | (go_simp; done) | (go_simp; simp only [e3_]; done) | (go_simp; simp only [e3_]; decide))
   refine Lw ?_ (v := .bool false)
   refine Lw ?_ (v := .bool false)
   refine Lv ?_
   refine Lw ?_ (v := .bool true) (hv := by first | (go_simp; done) | (go_simp; simp only [e3_]; done) | (go_simp; simp only [e3_]; decide))
   refine Lw ?_ (v := .bool true)
   refine Lw ?_ (v := .bool true)
   refine Lw ?_ (v := .bool true)
   refine Lv ?_
   refine Lw ?_ (v := .bool true) (hv := by first | (go_simp; done) | (go_simp; simp only [hz3]; done) | (go_simp; simp only [hz3]; decide))
   refine Lw ?_ (v := .bool true)
   refine Lw ?_ (v := .bool true)
   refine L0A ?_ k_t11
   refine Lw ?_ (v := .agg (J2 .u8 64 (Q0 0))) (hv := by kernel_rfl)
   refine J6i (fun w => Q5x HX_.out w) (by kernel_rfl) (by rfl) rfl rfl rfl ?_
   (try simp only [Act.put, mA, mB, mC])
   refine Lw ?_ (v := .bool true)
   refine Lw ?_ (v := .bool true)
   refine J0 ?_
   go_wp2
   exact bodyPost_ret (v := .bool true) (by simp only [results, Tryd.results11]; go_simp) rfl ⟨rfl, off0.ext⟩
end Go.Proofs.YtefpoollmbmkfaaDoor
