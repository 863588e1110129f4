/- custumallaw09: VrfBack. Conditions: the cells of the variables hold their numbers. -/
import Derived.Test.YtefpoollmbmkfaaDoorGc
import Derived.Test.YtefpoollmbmkfaaDoorVq
set_option linter.unusedSimpArgs false
set_option linter.unusedVariables false
namespace Go.Proofs.YtefpoollmbmkfaaDoor
set_option maxHeartbeats 2000000
set_option maxRecDepth 100000
open Go.RowKit
attribute [local irreducible] wpList
variable {kn : Kn}
open Sc (LL J0p)
attribute [local irreducible] hs J42 J4w vsm
theorem Y3v {A B : Nat} (h : A = B) (w : World) : (Op.equalIn 10000 45 (.agg (J2 .u8 80 (Q0 A))) (.agg (J2 .u8 80 (Q0 B)))).run Tryd.prog w = .ok true w := by
  subst h
  rw [J2p (P := Tryd.prog) w 9998 45 5 80 .u8 (J2 .u8 80 (Q0 A)) (J2 .u8 80 (Q0 A)) (Q0 A) (Q0 A) Tryd.underlying45 Tryd.underlying5 (by kernel_rfl) (fun i hi => J9 _ _ _ _ hi) (fun i hi => J9 _ _ _ _ hi)]
  rw [(J5z _ _ _).2 fun _ _ => rfl]
theorem Y3w {A B : Nat} (h : A = B) (w : World) : (Op.equalIn 10000 30 (.agg (J2 .u8 64 (Q0 A))) (.agg (J2 .u8 64 (Q0 B)))).run Tryd.prog w = .ok true w := by
  subst h
  rw [J2p (P := Tryd.prog) w 9998 30 5 64 .u8 (J2 .u8 64 (Q0 A)) (J2 .u8 64 (Q0 A)) (Q0 A) (Q0 A) Tryd.underlying30 Tryd.underlying5 (by kernel_rfl) (fun i hi => J9 _ _ _ _ hi) (fun i hi => J9 _ _ _ _ hi)]
  rw [(J5z _ _ _).2 fun _ _ => rfl]

theorem Q8u (hd : kn.d) (hb : kn.b) (hc : kn.c) (S : Nat) (v : Value) (L M : List UInt8) (hL : L.length ≤ 9223372036854775807) (hM : List.take (min L.length 200) L = M) (hMl : M.length ≤ 200) :
  ∀ w, GA kn w → Sl w v L → Calls Tryd.prog 9 #[.agg (J2 .u8 32 (Q0 S)), v] w fun e w' => Ret (.bool true) w w' e := by
 obtain ⟨U1, hU1⟩ := V3 ((J42 S M).1)
 have eU1 : B80 U1 := by rw [hU1]; exact Q7x _ _
 have HU1 := Lib.hid hU1
 clear hU1
 obtain ⟨U2, hU2⟩ := V3 ((J42 S M).2)
 have HU2 := Lib.hid hU2
 clear hU2
 obtain ⟨U3, hU3⟩ := V3 (kN S)
 have bU3 : U3 < 2 ^ 256 := by rw [hU3]; exact Q7j _
 have HU3 := Lib.hid hU3
 clear hU3
 obtain ⟨U4, hU4⟩ := V3 (kD S)
 have bU4 : U4 < 2 ^ 256 := by rw [hU4]; exact Q7k _
 have HU4 := Lib.hid hU4
 clear hU4
 obtain ⟨U5, hU5⟩ := V3 (kP S)
 have bU5 : U5 < 2 ^ 256 := by rw [hU5]; exact Q7l _
 have HU5 := Lib.hid hU5
 clear hU5
 obtain ⟨U6, hU6⟩ := V3 ((J4w U5 M U1).1)
 have HU6 := Lib.hid hU6
 clear hU6
 obtain ⟨U7, hU7⟩ := V3 ((J4w U5 M U1).2)
 have HU7 := Lib.hid hU7
 clear hU7
 obtain ⟨U8, hU8⟩ := V3 ((vsm U1).1)
 have HU8 := Lib.hid hU8
 clear hU8
 obtain ⟨U9, hU9⟩ := V3 ((vsm U1).2)
 have HU9 := Lib.hid hU9
 clear hU9
 intro w hG hs
 have J7 := hs
 have off0 : Off [] w w := Off.refl _ _
 go_enter Tryd.func9, Tryd.ntmps9
 go_upto_region 0 with fail
 refine wp_region_lit ?_
 refine Ln ?_ (z := J2 .u8 32 (Q0 S)) (t := 22)
 intro K5 W1 V0 hO h_
 have Q3a := J04 (Sl.lt J7) V0
 replace J7 := Sl.off J7 hO f0
 replace off0 := off0.o hO
 have k_t2 := h_
 clear hO h_ V0
 refine Lw ?_ (v := .bool false)
 refine J0 ?_
 go_upto_region 1 with fail
 refine wp_region_lit ?_
 refine Lv ?_
 refine Lv ?_
 refine J7k (l := L) J7 (by rfl) rfl rfl ?_
 (try simp only [Act.put, mA, mB, mC])
 refine Lw ?_ (v := .int .i64 ((min L.length 200 : Nat) : Int)) (hv := by go_simp; (try omega))
 refine Z1o (n := min L.length 200) J7 (by omega) (by rfl) rfl rfl rfl ?_
 (try simp only [Act.put, mA, mB, mC])
 intro Q7y J43 Q7z Y3x
 have Q9v : sb Q7y (List.take (min L.length 200) L) ≠ some K5 := Q5a Q7z Q3a
 rw [hM] at J43 Q7z
 (try rw [hM] at Q9v)
 refine Lv ?_
 refine J0 ?_
 go_upto_region 2 with fail
 refine wp_region_lit ?_
 refine L0A ?_ k_t2
 refine Lv ?_
 refine Lr ?_ (Q1a hd hb hc HU1.out HU2.out Q7y (by first | omega | (simp only [List.length_append, List.length_take, List.length_cons, List.length_nil, Z7]; omega)) W1 (J8 hG off0.ext) J43)
 intro W2 hO
 replace k_t2 := k_t2.o hO
 replace J43 := Sl.off J43 hO f0
 replace off0 := off0.o hO
 clear hO
 refine Lv ?_
 refine Lv ?_
 refine Lv ?_
 refine LnA ?_ (z := J2 .u8 80 (Q0 0)) (t := 45) (k := .u8) (n := 80) (f := Q0 U1)
 intro Y7c W4 J06 hO h_
 replace k_t2 := k_t2.o hO
 replace J43 := Sl.off J43 hO f0
 replace off0 := off0.o hO
 have k_t5 := h_
 clear hO h_ J06
 refine Lv ?_
 refine J0 ?_
 go_upto_region 3 with fail
 refine wp_region_lit ?_
 refine L0A ?_ k_t2
 refine Lv ?_
 refine Lr ?_ (Q1a hd hb hc HU1.out HU2.out Q7y (by first | omega | (simp only [List.length_append, List.length_take, List.length_cons, List.length_nil, Z7]; omega)) W4 (J8 hG off0.ext) J43)
 intro W5 hO
 replace k_t2 := k_t2.o hO
 replace k_t5 := k_t5.o hO
 replace J43 := Sl.off J43 hO f0
 replace off0 := off0.o hO
 clear hO
 refine Lv ?_
 refine Lv ?_
 refine Lv ?_
 refine LnA ?_ (z := J2 .u8 80 (Q0 0)) (t := 45) (k := .u8) (n := 80) (f := Q0 U1)
 intro Y7d W7 V8 hO h_
 replace k_t2 := k_t2.o hO
 replace k_t5 := k_t5.o hO
 replace J43 := Sl.off J43 hO f0
 replace off0 := off0.o hO
 have k_t7 := h_
 clear hO h_ V8
 refine Lv ?_
 refine J0 ?_
 go_upto_region 4 with fail
 refine Rx1 9 9 (z := J2 .u8 64 (Q0 0)) (t := 30) ?_
 refine XlA ?_ k_t2
 refine Xf ?_ (fun W hW => J7l hd hb HU3.out HU4.out HU5.out W (J8 (J8 hG off0.ext) hW))
 refine Xw ?_ (v := .agg (J2 .u8 32 (Q0 U5))) (hv := fun _ _ => by kernel_rfl)
 refine Xv ?_
 refine XlA ?_ k_t5
 refine Xf ?_ (fun W hW => Q1b hd hb hc HU6.out HU7.out bU5 eU1 Q7y (by first | omega | (simp only [List.length_append, List.length_take, List.length_cons, List.length_nil, Z7]; omega)) W (J8 (J8 hG off0.ext) hW) (Z93 J43 hW))
 refine Xv ?_
 refine Xv ?_
 refine Xv ?_
 refine XN ?_
 intro Y3y W8 J4v hE h_t9
 have hO := Z8 hE
 have Z3x := bn k_t5 J4v
 have Z3y := bn k_t7 J4v
 have Q0k := fbn off0 J4v
 replace k_t5 := k_t5.o hO
 replace k_t7 := k_t7.o hO
 replace off0 := off0.o hO
 clear hO hE J4v
 have k_t9 : Blk W8 Y3y (J2 .u8 64 (Q0 0)) 30 := h_t9
 clear h_t9
 refine LpA ?_ k_t9 (k := .u8) (n := 64) (f := Q0 U6)
 intro W9 hO h_
 replace k_t9 : Blk W9 Y3y (J2 .u8 64 (Q0 U6)) 30 := h_
 clear h_
 replace k_t5 := k_t5.p hO Z3x
 replace k_t7 := k_t7.p hO Z3y
 replace off0 := off0.p hO Q0k
 clear hO
 refine Lv ?_
 refine LN ?_
 go_upto_region 5 with fail
 refine wp_region_lit ?_
 refine L0A ?_ k_t5
 refine Lr ?_ (Z6s hc HU8.out HU9.out W9 (J8 hG off0.ext))
 intro W10 hO
 replace k_t5 := k_t5.o hO
 replace k_t7 := k_t7.o hO
 replace k_t9 := k_t9.o hO
 replace off0 := off0.o hO
 clear hO
 refine Lv ?_
 refine Lv ?_
 refine Lv ?_
 refine LnA ?_ (z := J2 .u8 64 (Q0 0)) (t := 30) (k := .u8) (n := 64) (f := Q0 U8)
 intro Y5v W12 Y6 hO h_
 replace k_t5 := k_t5.o hO
 replace k_t7 := k_t7.o hO
 replace k_t9 := k_t9.o hO
 replace off0 := off0.o hO
 have k_t11 := h_
 clear hO h_ Y6
 refine Lv ?_
 refine J0 ?_
 by_cases h0 : U2 = 0
 ·
  have _f := h0
  have hq_ := Z3z (S := S) (L := M) (by rw [← HU2.out]; exact h0)
  rw [← HU5.out, ← HU1.out] at hq_
  rw [← HU7.out, ← HU9.out, ← HU6.out, ← HU8.out] at hq_
  have hz0 : (U2 : Int) = 0 := by rw [h0]; rfl
  have hz1 : (U7 : Int) = 0 := by rw [hq_.1]; rfl
  have hz2 : (U9 : Int) = 0 := by rw [hq_.2.1]; rfl
  have HX := Lib.hid hq_.2.2
  clear hq_ h0
  go_upto_region 6 with fail
  refine wp_region_lit ?_
  refine Lv ?_
  refine Lw ?_ (v := .bool false) (hv := by first | (go_simp; done) | (go_simp; simp only [hz0]; done) | (go_simp; simp only [hz0]; decide))
  refine J0 ?_
  go_upto_region 8 with fail
  refine wp_region_lit ?_
  refine Lr ?_ (Q4o hd hb hc W12 (J8 hG off0.ext))
  intro W13 hO
  replace k_t5 := k_t5.o hO
  replace k_t7 := k_t7.o hO
  replace k_t9 := k_t9.o hO
  replace k_t11 := k_t11.o hO
  replace off0 := off0.o hO
  clear hO
  refine Lw ?_ (v := .bool true)
  refine Lv ?_
  refine Lw ?_ (v := .bool true) (hv := by first | (go_simp; done) | (go_simp; simp only [hz0]; done) | (go_simp; simp only [hz0]; decide))
  refine Lw ?_ (v := .bool true)
  refine Lw ?_ (v := .bool true)
  refine Lv ?_
  refine Lw ?_ (v := .bool true) (hv := by first | (go_simp; done) | (go_simp; simp only [hz1]; done) | (go_simp; simp only [hz1]; decide))
  refine Lw ?_ (v := .bool true)
  refine Lw ?_ (v := .bool true)
  refine Lv ?_
  refine Lw ?_ (v := .bool true) (hv := by first | (go_simp; done) | (go_simp; simp only [hz2]; done) | (go_simp; simp only [hz2]; decide))
  refine Lw ?_ (v := .bool true)
  refine Lw ?_ (v := .bool true)
  refine L0A ?_ k_t5
  refine L0A ?_ k_t7
  refine J8a (fun w => Y3v rfl w) (by kernel_rfl) (by rfl) rfl rfl rfl ?_
  (try simp only [Act.put, mA, mB, mC])
  refine Lw ?_ (v := .bool true)
  refine Lw ?_ (v := .bool true)
  refine L0A ?_ k_t9
  refine L0A ?_ k_t11
  refine J8a (fun w => Y3w HX.out w) (by kernel_rfl) (by rfl) rfl rfl rfl ?_
  (try simp only [Act.put, mA, mB, mC])
  refine Lw ?_ (v := .bool true)
  refine Lw ?_ (v := .bool true)
  refine J0 ?_
  go_wp2
  exact bodyPost_ret (v := .bool true) (by simp only [results, Tryd.results9]; go_simp) rfl ⟨rfl, off0.ext⟩
 ·
  have _f := h0
  have hz0 : (U2 : Int) = 15 := by rw [(show U2 = 0 ∨ U2 = 15 by rw [HU2.out]; exact Y1b _ _).resolve_left h0]; rfl
  clear h0
  go_upto_region 6 with fail
  refine wp_region_lit ?_
  refine Lv ?_
  refine Lw ?_ (v := .bool true) (hv := by first | (go_simp; done) | (go_simp; simp only [hz0]; done) | (go_simp; simp only [hz0]; decide))
  refine J0 ?_
  go_upto_region 7 with fail
  refine wp_region_lit ?_
  refine Lr ?_ (Q4o hd hb hc W12 (J8 hG off0.ext))
  intro W13 hO
  replace off0 := off0.o hO
  clear hO
  refine Lw ?_ (v := .bool true)
  refine Lv ?_
  refine Lw ?_ (v := .bool true) (hv := by first | (go_simp; done) | (go_simp; simp only [hz0]; done) | (go_simp; simp only [hz0]; decide))
  refine Lw ?_ (v := .bool true)
  refine Lw ?_ (v := .bool true)
  refine Lv ?_
  refine Lv ?_
  refine Lw ?_ (v := .bool true) (hv := by first | (go_simp; done) | (go_simp; simp))
  refine Lw ?_ (v := .bool true)
  refine Lw ?_ (v := .bool true)
  refine J0 ?_
  go_wp2
  exact bodyPost_ret (v := .bool true) (by simp only [results, Tryd.results9]; go_simp) rfl ⟨rfl, off0.ext⟩
end Go.Proofs.YtefpoollmbmkfaaDoor
