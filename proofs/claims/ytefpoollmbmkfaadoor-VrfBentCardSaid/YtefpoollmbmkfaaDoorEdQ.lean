/- The document's Encode and Decode. No conditions. -/
import Derived.Test.YtefpoollmbmkfaaDoorGc
import Derived.Test.YtefpoollmbmkfaaDoorEdR
import Derived.Test.YtefpoollmbmkfaaDoorEdE
import Derived.Test.YtefpoollmbmkfaaDoorEi
set_option linter.unusedSimpArgs false
set_option linter.unusedVariables false
namespace Go.Proofs.YtefpoollmbmkfaaDoor
set_option maxHeartbeats 1500000
set_option maxRecDepth 100000
open Go.RowKit
attribute [local irreducible] wpList
theorem J71 (X : Nat) (w : World) : Calls Tryd.prog 90 #[A16 X] w fun e w' => Ret (str (lb 32 X)) w w' e := by
  rw [← Q47]; exact rbytes_c X w
theorem Z3n (V : Nat) (w : World) : Calls Tryd.prog 97 #[str (lb 32 V)] w fun e w' => Ret (A16 (V % 2 ^ 255 % PP)) w w' e := by
  rw [← Q47]; exact Y3p V w
theorem Y87 {X Y Z i x y : Nat} {a : Pr} (r : RD X Y Z a) (ei : i = pw Z (PP - 2)) (ex : x = X * i % PP) (ey : y = Y * i % PP) (ho : x % 2 = 1) : enc a = y + 2 ^ 255 := by
  obtain ⟨h1, h2⟩ := Q8b r ei ex ey
  unfold enc
  rw [← h1, ← h2, ho]
theorem Y88 {X Y Z i x y : Nat} {a : Pr} (r : RD X Y Z a) (ei : i = pw Z (PP - 2)) (ex : x = X * i % PP) (ey : y = Y * i % PP) (ho : ¬ x % 2 = 1) : enc a = y := by
  obtain ⟨h1, h2⟩ := Q8b r ei ex ey
  have : x % 2 = 0 := by omega
  unfold enc
  rw [← h1, ← h2, this, Nat.mul_zero, Nat.add_zero]
theorem Y89 {V : Nat} (hV : V < 2 ^ 255) : (J1 .u8 32 (Q6 V)).setIfInBounds 31 (.int .u8 (bits .or .u8 (Q6 V 31) 128)) = J1 .u8 32 (Q6 (V + 2 ^ 255)) := by rw [J04]; exact Y6g hV
theorem Q8d {V : Nat} (hV : V < 2 ^ 256) : (J1 .u8 32 (Q6 V)).setIfInBounds 31 (.int .u8 (bits .and .u8 (Q6 V 31) 127)) = J1 .u8 32 (Q6 (V % 2 ^ 255)) := by rw [J04]; exact Q9r (Z8i hV)
theorem Q48 {V : Nat} (hV : V < 2 ^ 256) (b : Bool) (h : top V = b) : decide ((128 : Int) ≤ Q6 V 31) = b := by
  obtain ⟨h1, h2⟩ := Q5e hV
  rw [h1, ← h, Bool.eq_iff_iff, decide_eq_true_iff, Q8e]
  omega
theorem Y6j {A B : Nat} (hA : A < 2 ^ 256) (hB : B < 2 ^ 256) (h : ¬ A = B) : (!decide (lb 32 A = lb 32 B)) = true := by
  rw [decide_eq_false fun e => h (Z8j hA hB e)]; rfl
theorem Z3o {A B : Nat} (h : A = B) : (!decide (lb 32 A = lb 32 B)) = false := by
  rw [decide_eq_true (by rw [h])]; rfl
theorem Q9u (y : Nat) {n2 n3 : Nat} (h2 : n2 = y * y % PP) (h3 : n3 = (n2 + (PP - 1) % PP) % PP) : n3 = dU y := by
  unfold dU
  rw [h3, h2, show (PP - 1) % PP = PP - 1 % PP by decide +kernel]

theorem Y8a {X1 Y1 Z1 : Nat} {p1 : Pr} (h1 : RD X1 Y1 Z1 p1) :
  ∀ w, Calls Tryd.prog 45 #[.agg (p3 X1 Y1 Z1)] w fun e w' => Ret (str (lb 32 (enc p1))) w w' e := by
 have c_N1 := Y8b Z1 (Q9 h1.z)
 obtain ⟨N1, hN1⟩ := V2 (pw Z1 (PP - 2))
 rw [← hN1] at c_N1
 have lN1 := bpp hN1
 have bN1 := Q9 lN1
 have HN1 := Lib.hid hN1
 clear hN1
 have c_N2 := J02 X1 N1 (Q9 h1.x) bN1
 obtain ⟨N2, hN2⟩ := V2 (X1 * N1 % PP)
 rw [← hN2] at c_N2
 have lN2 := bpp hN2
 have bN2 := Q9 lN2
 have HN2 := Lib.hid hN2
 clear hN2
 have c_N3 := J02 Y1 N1 (Q9 h1.y) bN1
 obtain ⟨N3, hN3⟩ := V2 (Y1 * N1 % PP)
 rw [← hN3] at c_N3
 have lN3 := bpp hN3
 have bN3 := Q9 lN3
 have HN3 := Lib.hid hN3
 clear hN3
 intro w
 have off0 : Off [] w w := Off.refl _ _
 go_enter Tryd.func45, Tryd.ntmps45
 go_upto_region 0 with fail
 refine wp_region_lit ?_
 refine Ln ?_ (z := p3 X1 Y1 Z1) (t := 78)
 intro J1a W1 J2n hO h_
 replace off0 := off0.o hO
 have k_t1 := h_
 clear hO h_ J2n
 refine Lv ?_
 refine J0 ?_
 go_upto_region 1 with fail
 refine wp_region_lit ?_
 refine Lv ?_
 refine J05 (vs := (J1 .i64 16 (Q2 Z1)).toList) (by rfl) rfl rfl k_t1 (J3z Q1v) (by kernel_rfl) (by kernel_rfl) ?_
 (try simp only [Act.put, mA, mB, mC])
 refine Lr ?_ (c_N1 W1)
 intro W2 hO
 replace k_t1 := k_t1.o hO
 replace off0 := off0.o hO
 clear hO
 refine LnA ?_ (z := J1 .i64 16 (Q2 0)) (t := 76) (k := .i64) (n := 16) (f := Q2 N1)
 intro Q1j W4 J13 hO h_
 replace k_t1 := k_t1.o hO
 replace off0 := off0.o hO
 have k_t3 := h_
 clear hO h_ J13
 refine J0 ?_
 go_upto_region 2 with fail
 refine J06 8 [⟨8, 4, J1 .i64 16 (Q2 0), 76⟩, ⟨9, 5, J1 .i64 16 (Q2 0), 76⟩] (by kernel_rfl) ?_ (by kernel_rfl) ?_
 ·
  intro x hx
  simp only [List.mem_cons, List.not_mem_nil, or_false] at hx
  rcases hx with rfl | rfl <;> exact ⟨_, rfl, rfl, rfl, fun _ _ => by kernel_rfl⟩
 simp only [List.take_succ_cons, List.take_zero, List.take_nil]
 (try simp only [Act.put, mA, mB, mC])
 refine Xv ?_
 refine Xls ?_ (sub := J1 .i64 16 (Q2 X1)) (j := 0) k_t1 Q40
 refine XlA ?_ k_t3
 refine Xf ?_ (fun W hW => c_N2 W)
 refine Xv ?_
 refine Xls ?_ (sub := J1 .i64 16 (Q2 Y1)) (j := 16) k_t1 Q6h
 refine XlA ?_ k_t3
 refine Xf ?_ (fun W hW => c_N3 W)
 refine Q3 ?_
 intro β W5 hE hN hD
 obtain ⟨J10, h_t4⟩ := hN _ (List.mem_cons_self ..)
 obtain ⟨J0p, h_t5⟩ := hN _ (List.mem_cons_of_mem _ (List.mem_cons_self ..))
 have nq_t4_t5 := (hD _ (List.mem_cons_of_mem _ (List.mem_cons_self ..)) _ (List.mem_cons_self ..) (by decide)).symm
 clear hN hD
 simp only [J0l, Act.put, mA, mB, mC, List.drop_succ_cons, List.drop_zero, List.drop_nil, List.length_cons, List.length_nil, Nat.add_zero] at J10 h_t4 J0p h_t5 nq_t4_t5 ⊢
 have hO := Z6 hE
 generalize β 8 = Y3q at *
 have J2d := fbn off0 J10
 generalize β 9 = Q1u at *
 have J9n := fbn off0 J0p
 replace off0 := off0.o hO
 clear hO hE β J10 J0p
 have k_t4 : Blk W5 Y3q (J1 .i64 16 (Q2 0)) 76 := h_t4
 clear h_t4
 have k_t5 : Blk W5 Q1u (J1 .i64 16 (Q2 0)) 76 := h_t5
 clear h_t5
 refine LpA ?_ k_t4 (k := .i64) (n := 16) (f := Q2 N2)
 intro W6 hO h_
 replace k_t4 : Blk W6 Y3q (J1 .i64 16 (Q2 N2)) 76 := h_
 clear h_
 replace k_t5 := k_t5.p hO nq_t4_t5.symm
 replace off0 := off0.p hO J2d
 clear hO
 refine LpA ?_ k_t5 (k := .i64) (n := 16) (f := Q2 N3)
 intro W7 hO h_
 replace k_t5 : Blk W7 Q1u (J1 .i64 16 (Q2 N3)) 76 := h_
 clear h_
 replace k_t4 := k_t4.p hO nq_t4_t5
 replace off0 := off0.p hO J9n
 clear hO
 refine LN ?_
 go_upto_region 3 with fail
 refine wp_region_lit ?_
 refine L0A ?_ k_t5
 refine Lr ?_ (J71 N3 W7)
 intro W8 hO
 replace k_t4 := k_t4.o hO
 replace off0 := off0.o hO
 clear hO
 refine J6u (l := (lb 32 N3)) (by first | omega | (rw [J8]; decide)) (by rfl) rfl rfl ?_
 (try simp only [Act.put, mA, mB, mC])
 intro Z8k c_y20 cs_y20 W9 Z8l hO h_ c1_y20 c2_y20 c3_y20 c4_y20
 have Z5q := bn k_t4 Z8l
 have Y8c := fbn off0 Z8l
 replace k_t4 := k_t4.o hO
 replace off0 := off0.o hO
 have Q9v := h_
 clear hO h_ Z8l
 have Z1g : Sl W9 (.slice (some ⟨Z8k, 0, none⟩) (lb 32 N3).length c_y20) (lb 32 N3) := J7p Q9v c1_y20 c2_y20 c4_y20
 refine Lv ?_
 refine J0 ?_
 by_cases ho : N2 % 2 = 1
 ·
  have _f := ho
  have H_ho := Lib.hid ho
  clear _f ho
  go_upto_region 4 with fail
  refine wp_region_lit ?_
  refine Lw ?_ (v := .pointer (some ⟨Y3q, 0 + 0, none⟩)) (hv := Q0 (m := 16) (by decide) (by decide) Tryd.underlying76 (by kernel_rfl) rfl rfl rfl)
  refine Lg ?_ k_t4 (v := .int .i64 ((Q2 N2) 0)) (hj := by rw [Nat.zero_add]; exact J6 _ _ _ _ (by decide))
  refine Lw ?_ (v := .int .i64 1) (hv := by exact J4x H_ho.out rfl rfl rfl)
  refine Lw ?_ (v := .bool true)
  refine J0 ?_
  go_upto_region 5 with fail
  refine wp_region_lit ?_
  refine Lv ?_
  refine Lv ?_
  refine J4i (j := 31) (by rw [J8]; decide) (by rfl) rfl rfl rfl ?_
  (try simp only [Act.put, mA, mB, mC])
  have hc_ : W9.cell? ⟨Z8k, 0 + 31, none⟩ = some (.int .u8 (Q6 N3 31)) := by rw [J72 Q9v, Nat.zero_add]; exact J86 (by rw [← J8 32 N3]; exact c4_y20) (by decide)
  refine Q2t (v := .int .u8 (Q6 N3 31)) (by rfl) rfl rfl hc_ (by kernel_rfl) ?_
  (try simp only [Act.put, mA, mB, mC])
  clear hc_
  refine Lw ?_ (v := .int .u8 (bits .or .u8 (Q6 N3 31) 128)) (hv := by exact Z3h rfl rfl rfl rfl)
  refine J4i (j := 31) (by rw [J8]; decide) (by rfl) rfl rfl rfl ?_
  (try simp only [Act.put, mA, mB, mC])
  refine J9q (v := .int .u8 (bits .or .u8 (Q6 N3 31) 128)) ⟨rfl, rfl⟩ (by rfl) rfl rfl rfl Q9v (by rw [c3_y20, Nat.zero_add]; have := c1_y20; rw [J8] at this; omega) (by kernel_rfl) ?_
  (try simp only [Act.put, mA, mB, mC])
  intro W10 hO h_
  have c4n := take_set (cs := cs_y20) (by rw [← J8 32 N3]; exact c4_y20) (Y89 (Nat.lt_trans lN3 Q8c))
  rw [Nat.zero_add] at h_
  replace k_t4 := k_t4.p hO Z5q
  replace off0 := off0.p hO Y8c
  clear hO
  replace Q9v := h_
  clear h_
  have h1_ : (lb 32 (N3 + 2 ^ 255)).length = (lb 32 N3).length := by rw [J8, J8]
  replace Z1g : Sl W10 (.slice (some ⟨Z8k, 0, none⟩) (lb 32 N3).length c_y20) (lb 32 (N3 + 2 ^ 255)) := by have := J7p (l := lb 32 (N3 + 2 ^ 255)) Q9v (by rw [h1_]; exact c1_y20) c2_y20 (by rw [J8]; exact c4n); rwa [h1_] at this
  clear h1_ c4_y20
  refine J0 ?_
  go_upto_region 6 with fail
  refine wp_region_lit ?_
  refine Lv ?_
  refine J2l (l := (lb 32 (N3 + 2 ^ 255))) Z1g (by rfl) rfl rfl ?_
  (try simp only [Act.put, mA, mB, mC])
  refine Lv ?_
  refine J0 ?_
  go_wp2
  rw [Y87 h1 HN1.out HN2.out HN3.out H_ho.out]
  exact bodyPost_ret (v := str (lb 32 (N3 + 2 ^ 255))) (by simp only [results, Tryd.results45]; go_simp) rfl ⟨rfl, off0.ext⟩
 ·
  have _f := ho
  have H_ho := Lib.hid ho
  clear _f ho
  go_upto_region 4 with fail
  refine wp_region_lit ?_
  refine Lw ?_ (v := .pointer (some ⟨Y3q, 0 + 0, none⟩)) (hv := Q0 (m := 16) (by decide) (by decide) Tryd.underlying76 (by kernel_rfl) rfl rfl rfl)
  refine Lg ?_ k_t4 (v := .int .i64 ((Q2 N2) 0)) (hj := by rw [Nat.zero_add]; exact J6 _ _ _ _ (by decide))
  refine Lw ?_ (v := .int .i64 0) (hv := by exact J4x (show N2 % 2 = 0 by have := H_ho.out; omega) rfl rfl rfl)
  refine Lw ?_ (v := .bool false)
  refine J0 ?_
  go_upto_region 6 with fail
  refine wp_region_lit ?_
  refine Lv ?_
  refine J2l (l := (lb 32 N3)) Z1g (by rfl) rfl rfl ?_
  (try simp only [Act.put, mA, mB, mC])
  refine Lv ?_
  refine J0 ?_
  go_wp2
  rw [Y88 h1 HN1.out HN2.out HN3.out H_ho.out]
  exact bodyPost_ret (v := str (lb 32 N3)) (by simp only [results, Tryd.results45]; go_simp) rfl ⟨rfl, off0.ext⟩
end Go.Proofs.YtefpoollmbmkfaaDoor
