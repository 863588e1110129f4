/- custumallaw09: VrfBack. Conditions: the cells of the variables hold their numbers. -/
import Derived.Test.YtefpoollmbmkfaaDoorGc
import Derived.Test.YtefpoollmbmkfaaDoorVq
set_option linter.unusedSimpArgs false
set_option linter.unusedVariables false
namespace Go.Proofs.YtefpoollmbmkfaaDoor
set_option maxHeartbeats 2000000
set_option maxRecDepth 100000
open Go.RowKit
attribute [local irreducible] wpList
variable {kn : Kn}
open Sc (LL e9)
attribute [local irreducible] hs H2 C5 vsm
theorem g6o {A B : Nat} (h : A = B) (w : World) : (Op.equalIn 10000 45 (.agg (q7 .u8 80 (j0 A))) (.agg (q7 .u8 80 (j0 B)))).run Tryd.prog w = .ok true w := by
  subst h
  rw [J7 (P := Tryd.prog) w 9998 45 5 80 .u8 (q7 .u8 80 (j0 A)) (q7 .u8 80 (j0 A)) (j0 A) (j0 A) Tryd.underlying45 Tryd.underlying5 (by kernel_rfl) (fun i hi => y9 _ _ _ _ hi) (fun i hi => y9 _ _ _ _ hi)]
  rw [(I7 _ _ _).2 fun _ _ => rfl]
theorem g6p {A B : Nat} (h : A = B) (w : World) : (Op.equalIn 10000 30 (.agg (q7 .u8 64 (j0 A))) (.agg (q7 .u8 64 (j0 B)))).run Tryd.prog w = .ok true w := by
  subst h
  rw [J7 (P := Tryd.prog) w 9998 30 5 64 .u8 (q7 .u8 64 (j0 A)) (q7 .u8 64 (j0 A)) (j0 A) (j0 A) Tryd.underlying30 Tryd.underlying5 (by kernel_rfl) (fun i hi => y9 _ _ _ _ hi) (fun i hi => y9 _ _ _ _ hi)]
  rw [(I7 _ _ _).2 fun _ _ => rfl]

theorem y5t (hd : kn.d) (hb : kn.b) (hc : kn.c) (S : Nat) (v : Value) (L M : List UInt8) (hL : L.length ≤ 9223372036854775807) (hM : List.take (min L.length 200) L = M) (hMl : M.length ≤ 200) :
  ∀ w, GA kn w → Sl w v L → Calls Tryd.prog 9 #[.agg (q7 .u8 32 (j0 S)), v] w fun e w' => m7 (.bool true) w w' e := by
 obtain ⟨U1, hU1⟩ := z8 ((H2 S M).1)
 have eU1 : B80 U1 := by rw [hU1]; exact y4m _ _
 have HU1 := Lib.hid hU1
 clear hU1
 obtain ⟨U2, hU2⟩ := z8 ((H2 S M).2)
 have HU2 := Lib.hid hU2
 clear hU2
 obtain ⟨U3, hU3⟩ := z8 (kN S)
 have bU3 : U3 < 2 ^ 256 := by rw [hU3]; exact y3y _
 have HU3 := Lib.hid hU3
 clear hU3
 obtain ⟨U4, hU4⟩ := z8 (kD S)
 have bU4 : U4 < 2 ^ 256 := by rw [hU4]; exact y3z _
 have HU4 := Lib.hid hU4
 clear hU4
 obtain ⟨U5, hU5⟩ := z8 (kP S)
 have bU5 : U5 < 2 ^ 256 := by rw [hU5]; exact y4a _
 have HU5 := Lib.hid hU5
 clear hU5
 obtain ⟨U6, hU6⟩ := z8 ((C5 U5 M U1).1)
 have HU6 := Lib.hid hU6
 clear hU6
 obtain ⟨U7, hU7⟩ := z8 ((C5 U5 M U1).2)
 have HU7 := Lib.hid hU7
 clear hU7
 obtain ⟨U8, hU8⟩ := z8 ((vsm U1).1)
 have HU8 := Lib.hid hU8
 clear hU8
 obtain ⟨U9, hU9⟩ := z8 ((vsm U1).2)
 have HU9 := Lib.hid hU9
 clear hU9
 intro w hG hs
 have y6 := hs
 have off0 : Off [] w w := Off.refl _ _
 go_enter Tryd.func9, Tryd.ntmps9
 go_upto_region 0 with fail
 refine wp_region_lit ?_
 refine Ln ?_ (z := q7 .u8 32 (j0 S)) (t := 22)
 intro v9 W1 z4 hO h_
 have q8b := d8 (Sl.lt y6) z4
 replace y6 := Sl.off y6 hO f0
 replace off0 := off0.o hO
 have k_t2 := h_
 clear hO h_ z4
 refine Lw ?_ (v := .bool false)
 refine q5 ?_
 go_upto_region 1 with fail
 refine wp_region_lit ?_
 refine Lv ?_
 refine Lv ?_
 refine q0b (l := L) y6 (by rfl) rfl rfl ?_
 (try simp only [Act.put, mA, mB, mC])
 refine Lw ?_ (v := .int .i64 ((min L.length 200 : Nat) : Int)) (hv := by go_simp; (try omega))
 refine y9r (n := min L.length 200) y6 (by omega) (by rfl) rfl rfl rfl ?_
 (try simp only [Act.put, mA, mB, mC])
 intro y4n H3 y4o g6q
 have y7e : sb y4n (List.take (min L.length 200) L) ≠ some v9 := y0v y4o q8b
 rw [hM] at H3 y4o
 (try rw [hM] at y7e)
 refine Lv ?_
 refine q5 ?_
 go_upto_region 2 with fail
 refine wp_region_lit ?_
 refine B9 ?_ k_t2
 refine Lv ?_
 refine Lr ?_ (q5h hd hb hc HU1.out HU2.out y4n (by first | omega | (simp only [List.length_append, List.length_take, List.length_cons, List.length_nil, g7]; omega)) W1 (y7 hG off0.ext) H3)
 intro W2 hO
 replace k_t2 := k_t2.o hO
 replace H3 := Sl.off H3 hO f0
 replace off0 := off0.o hO
 clear hO
 refine Lv ?_
 refine Lv ?_
 refine Lv ?_
 refine LnA ?_ (z := q7 .u8 80 (j0 0)) (t := 45) (k := .u8) (n := 80) (f := j0 U1)
 intro x1j W4 h9 hO h_
 replace k_t2 := k_t2.o hO
 replace H3 := Sl.off H3 hO f0
 replace off0 := off0.o hO
 have k_t5 := h_
 clear hO h_ h9
 refine Lv ?_
 refine q5 ?_
 go_upto_region 3 with fail
 refine wp_region_lit ?_
 refine B9 ?_ k_t2
 refine Lv ?_
 refine Lr ?_ (q5h hd hb hc HU1.out HU2.out y4n (by first | omega | (simp only [List.length_append, List.length_take, List.length_cons, List.length_nil, g7]; omega)) W4 (y7 hG off0.ext) H3)
 intro W5 hO
 replace k_t2 := k_t2.o hO
 replace k_t5 := k_t5.o hO
 replace H3 := Sl.off H3 hO f0
 replace off0 := off0.o hO
 clear hO
 refine Lv ?_
 refine Lv ?_
 refine Lv ?_
 refine LnA ?_ (z := q7 .u8 80 (j0 0)) (t := 45) (k := .u8) (n := 80) (f := j0 U1)
 intro x1k W7 u9 hO h_
 replace k_t2 := k_t2.o hO
 replace k_t5 := k_t5.o hO
 replace H3 := Sl.off H3 hO f0
 replace off0 := off0.o hO
 have k_t7 := h_
 clear hO h_ u9
 refine Lv ?_
 refine q5 ?_
 go_upto_region 4 with fail
 refine Rx1 9 9 (z := q7 .u8 64 (j0 0)) (t := 30) ?_
 refine XlA ?_ k_t2
 refine Xf ?_ (fun W hW => q0c hd hb HU3.out HU4.out HU5.out W (y7 (y7 hG off0.ext) hW))
 refine Xw ?_ (v := .agg (q7 .u8 32 (j0 U5))) (hv := fun _ _ => by kernel_rfl)
 refine Xv ?_
 refine XlA ?_ k_t5
 refine Xf ?_ (fun W hW => q5i hd hb hc HU6.out HU7.out bU5 eU1 y4n (by first | omega | (simp only [List.length_append, List.length_take, List.length_cons, List.length_nil, g7]; omega)) W (y7 (y7 hG off0.ext) hW) (j9y H3 hW))
 refine Xv ?_
 refine Xv ?_
 refine Xv ?_
 refine XN ?_
 intro g6r W8 C4 hE h_t9
 have hO := g8 hE
 have j2u := bn k_t5 C4
 have j2v := bn k_t7 C4
 have q4h := l4 off0 C4
 replace k_t5 := k_t5.o hO
 replace k_t7 := k_t7.o hO
 replace off0 := off0.o hO
 clear hO hE C4
 have k_t9 : Blk W8 g6r (q7 .u8 64 (j0 0)) 30 := h_t9
 clear h_t9
 refine LpA ?_ k_t9 (k := .u8) (n := 64) (f := j0 U6)
 intro W9 hO h_
 replace k_t9 : Blk W9 g6r (q7 .u8 64 (j0 U6)) 30 := h_
 clear h_
 replace k_t5 := k_t5.p hO j2u
 replace k_t7 := k_t7.p hO j2v
 replace off0 := off0.p hO q4h
 clear hO
 refine Lv ?_
 refine LN ?_
 go_upto_region 5 with fail
 refine wp_region_lit ?_
 refine B9 ?_ k_t5
 refine Lr ?_ (j6t hc HU8.out HU9.out W9 (y7 hG off0.ext))
 intro W10 hO
 replace k_t5 := k_t5.o hO
 replace k_t7 := k_t7.o hO
 replace k_t9 := k_t9.o hO
 replace off0 := off0.o hO
 clear hO
 refine Lv ?_
 refine Lv ?_
 refine Lv ?_
 refine LnA ?_ (z := q7 .u8 64 (j0 0)) (t := 30) (k := .u8) (n := 64) (f := j0 U8)
 intro g9i W12 x6 hO h_
 replace k_t5 := k_t5.o hO
 replace k_t7 := k_t7.o hO
 replace k_t9 := k_t9.o hO
 replace off0 := off0.o hO
 have k_t11 := h_
 clear hO h_ x6
 refine Lv ?_
 refine q5 ?_
 by_cases h0 : U2 = 0
 ·
  have _f := h0
  have hq_ := j2w (S := S) (L := M) (by rw [← HU2.out]; exact h0)
  rw [← HU5.out, ← HU1.out] at hq_
  rw [← HU7.out, ← HU9.out, ← HU6.out, ← HU8.out] at hq_
  have hz0 : (U2 : Int) = 0 := by rw [h0]; rfl
  have hz1 : (U7 : Int) = 0 := by rw [hq_.1]; rfl
  have hz2 : (U9 : Int) = 0 := by rw [hq_.2.1]; rfl
  have HX := Lib.hid hq_.2.2
  clear hq_ h0
  go_upto_region 6 with fail
  refine wp_region_lit ?_
  refine Lv ?_
  refine Lw ?_ (v := .bool false) (hv := by first | (go_simp; done) | (go_simp; simp only [hz0]; done) | (go_simp; simp only [hz0]; decide))
  refine q5 ?_
  go_upto_region 8 with fail
  refine wp_region_lit ?_
  refine Lr ?_ (q9z hd hb hc W12 (y7 hG off0.ext))
  intro W13 hO
  replace k_t5 := k_t5.o hO
  replace k_t7 := k_t7.o hO
  replace k_t9 := k_t9.o hO
  replace k_t11 := k_t11.o hO
  replace off0 := off0.o hO
  clear hO
  refine Lw ?_ (v := .bool true)
  refine Lv ?_
  refine Lw ?_ (v := .bool true) (hv := by first | (go_simp; done) | (go_simp; simp only [hz0]; done) | (go_simp; simp only [hz0]; decide))
  refine Lw ?_ (v := .bool true)
  refine Lw ?_ (v := .bool true)
  refine Lv ?_
  refine Lw ?_ (v := .bool true) (hv := by first | (go_simp; done) | (go_simp; simp only [hz1]; done) | (go_simp; simp only [hz1]; decide))
  refine Lw ?_ (v := .bool true)
  refine Lw ?_ (v := .bool true)
  refine Lv ?_
  refine Lw ?_ (v := .bool true) (hv := by first | (go_simp; done) | (go_simp; simp only [hz2]; done) | (go_simp; simp only [hz2]; decide))
  refine Lw ?_ (v := .bool true)
  refine Lw ?_ (v := .bool true)
  refine B9 ?_ k_t5
  refine B9 ?_ k_t7
  refine q1d (fun w => g6o rfl w) (by kernel_rfl) (by rfl) rfl rfl rfl ?_
  (try simp only [Act.put, mA, mB, mC])
  refine Lw ?_ (v := .bool true)
  refine Lw ?_ (v := .bool true)
  refine B9 ?_ k_t9
  refine B9 ?_ k_t11
  refine q1d (fun w => g6p HX.out w) (by kernel_rfl) (by rfl) rfl rfl rfl ?_
  (try simp only [Act.put, mA, mB, mC])
  refine Lw ?_ (v := .bool true)
  refine Lw ?_ (v := .bool true)
  refine q5 ?_
  go_wp2
  exact bodyPost_ret (v := .bool true) (by simp only [results, Tryd.results9]; go_simp) rfl ⟨rfl, off0.ext⟩
 ·
  have _f := h0
  have hz0 : (U2 : Int) = 15 := by rw [(show U2 = 0 ∨ U2 = 15 by rw [HU2.out]; exact g3a _ _).resolve_left h0]; rfl
  clear h0
  go_upto_region 6 with fail
  refine wp_region_lit ?_
  refine Lv ?_
  refine Lw ?_ (v := .bool true) (hv := by first | (go_simp; done) | (go_simp; simp only [hz0]; done) | (go_simp; simp only [hz0]; decide))
  refine q5 ?_
  go_upto_region 7 with fail
  refine wp_region_lit ?_
  refine Lr ?_ (q9z hd hb hc W12 (y7 hG off0.ext))
  intro W13 hO
  replace off0 := off0.o hO
  clear hO
  refine Lw ?_ (v := .bool true)
  refine Lv ?_
  refine Lw ?_ (v := .bool true) (hv := by first | (go_simp; done) | (go_simp; simp only [hz0]; done) | (go_simp; simp only [hz0]; decide))
  refine Lw ?_ (v := .bool true)
  refine Lw ?_ (v := .bool true)
  refine Lv ?_
  refine Lv ?_
  refine Lw ?_ (v := .bool true) (hv := by first | (go_simp; done) | (go_simp; simp))
  refine Lw ?_ (v := .bool true)
  refine Lw ?_ (v := .bool true)
  refine q5 ?_
  go_wp2
  exact bodyPost_ret (v := .bool true) (by simp only [results, Tryd.results9]; go_simp) rfl ⟨rfl, off0.ext⟩
end Go.Proofs.YtefpoollmbmkfaaDoor
