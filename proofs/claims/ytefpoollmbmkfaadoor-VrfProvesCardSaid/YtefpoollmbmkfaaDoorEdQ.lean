/- The document's Encode and Decode. No conditions. -/
import Derived.Test.YtefpoollmbmkfaaDoorGc
import Derived.Test.YtefpoollmbmkfaaDoorEdR
import Derived.Test.YtefpoollmbmkfaaDoorEdE
import Derived.Test.YtefpoollmbmkfaaDoorEi
set_option linter.unusedSimpArgs false
set_option linter.unusedVariables false
namespace Go.Proofs.YtefpoollmbmkfaaDoor
set_option maxHeartbeats 1500000
set_option maxRecDepth 100000
open Go.RowKit
attribute [local irreducible] wpList
theorem rBytes_s (X : Nat) (w : World) : Calls Tryd.prog 90 #[A16 X] w fun e w' => Ret (str (lb 32 X)) w w' e := by
  rw [← strN_lb]; exact rbytes_c X w
theorem rFrom_s (V : Nat) (w : World) : Calls Tryd.prog 97 #[str (lb 32 V)] w fun e w' => Ret (A16 (V % 2 ^ 255 % PP)) w w' e := by
  rw [← strN_lb]; exact rFrom_c V w
theorem enc_n1 {X Y Z i x y : Nat} {a : Pr} (r : RD X Y Z a) (ei : i = pw Z (PP - 2)) (ex : x = X * i % PP) (ey : y = Y * i % PP) (ho : x % 2 = 1) : enc a = y + 2 ^ 255 := by
  obtain ⟨h1, h2⟩ := inv_xy r ei ex ey
  unfold enc
  rw [← h1, ← h2, ho]
theorem enc_n0 {X Y Z i x y : Nat} {a : Pr} (r : RD X Y Z a) (ei : i = pw Z (PP - 2)) (ex : x = X * i % PP) (ey : y = Y * i % PP) (ho : ¬ x % 2 = 1) : enc a = y := by
  obtain ⟨h1, h2⟩ := inv_xy r ei ex ey
  have : x % 2 = 0 := by omega
  unfold enc
  rw [← h1, ← h2, this, Nat.mul_zero, Nat.add_zero]
theorem set31c {V : Nat} (hV : V < 2 ^ 255) : (arrK .u8 32 (byt V)).setIfInBounds 31 (.int .u8 (bits .or .u8 (byt V 31) 128)) = arrK .u8 32 (byt (V + 2 ^ 255)) := by rw [arrK_set]; exact set31 hV
theorem clr31c {V : Nat} (hV : V < 2 ^ 256) : (arrK .u8 32 (byt V)).setIfInBounds 31 (.int .u8 (bits .and .u8 (byt V 31) 127)) = arrK .u8 32 (byt (V % 2 ^ 255)) := by rw [arrK_set]; exact clr31 (clr_bit' hV)
theorem top_geq {V : Nat} (hV : V < 2 ^ 256) (b : Bool) (h : top V = b) : decide ((128 : Int) ≤ byt V 31) = b := by
  obtain ⟨h1, h2⟩ := byt31 hV
  rw [h1, ← h, Bool.eq_iff_iff, decide_eq_true_iff, top_iff]
  omega
theorem lb_ne {A B : Nat} (hA : A < 2 ^ 256) (hB : B < 2 ^ 256) (h : ¬ A = B) : (!decide (lb 32 A = lb 32 B)) = true := by
  rw [decide_eq_false fun e => h (lb_inj hA hB e)]; rfl
theorem lb_eq {A B : Nat} (h : A = B) : (!decide (lb 32 A = lb 32 B)) = false := by
  rw [decide_eq_true (by rw [h])]; rfl
theorem dU_r (y : Nat) {n2 n3 : Nat} (h2 : n2 = y * y % PP) (h3 : n3 = (n2 + (PP - 1) % PP) % PP) : n3 = dU y := by
  unfold dU
  rw [h3, h2, show (PP - 1) % PP = PP - 1 % PP by decide +kernel]

theorem rEnc_c {X1 Y1 Z1 : Nat} {p1 : Pr} (h1 : RD X1 Y1 Z1 p1) :
  ∀ w, Calls Tryd.prog 45 #[.agg (p3 X1 Y1 Z1)] w fun e w' => Ret (str (lb 32 (enc p1))) w w' e := by
 have c_N1 := rInv_c Z1 (lt_pp h1.z)
 obtain ⟨N1, hN1⟩ := exn (pw Z1 (PP - 2))
 rw [← hN1] at c_N1
 have lN1 := bpp hN1
 have bN1 := lt_pp lN1
 have HN1 := Lib.hid hN1
 clear hN1
 have c_N2 := rMul_c X1 N1 (lt_pp h1.x) bN1
 obtain ⟨N2, hN2⟩ := exn (X1 * N1 % PP)
 rw [← hN2] at c_N2
 have lN2 := bpp hN2
 have bN2 := lt_pp lN2
 have HN2 := Lib.hid hN2
 clear hN2
 have c_N3 := rMul_c Y1 N1 (lt_pp h1.y) bN1
 obtain ⟨N3, hN3⟩ := exn (Y1 * N1 % PP)
 rw [← hN3] at c_N3
 have lN3 := bpp hN3
 have bN3 := lt_pp lN3
 have HN3 := Lib.hid hN3
 clear hN3
 intro w
 have off0 : Off [] w w := Off.refl _ _
 go_enter Tryd.func45, Tryd.ntmps45
 go_upto_region 0 with fail
 refine wp_region_lit ?_
 refine Ln ?_ (z := p3 X1 Y1 Z1) (t := 78)
 intro p1_1 W1 n_t1 hO h_
 replace off0 := off0.o hO
 have k_t1 := h_
 clear hO h_ n_t1
 refine Lv ?_
 refine wpL_nil ?_
 go_upto_region 1 with fail
 refine wp_region_lit ?_
 refine Lv ?_
 refine wpL_gets (vs := (arrK .i64 16 (l16 Z1)).toList) (by rfl) rfl rfl k_t1 (subL p3c2) (by kernel_rfl) (by kernel_rfl) ?_
 (try simp only [Act.put, mA, mB, mC])
 refine Lr ?_ (c_N1 W1)
 intro W2 hO
 replace k_t1 := k_t1.o hO
 replace off0 := off0.o hO
 clear hO
 refine LnA ?_ (z := arrK .i64 16 (l16 0)) (t := 76) (k := .i64) (n := 16) (f := l16 N1)
 intro p3_3 W4 n_t3 hO h_
 replace k_t1 := k_t1.o hO
 replace off0 := off0.o hO
 have k_t3 := h_
 clear hO h_ n_t3
 refine wpL_nil ?_
 go_upto_region 2 with fail
 refine wp_region_xn 8 [⟨8, 4, arrK .i64 16 (l16 0), 76⟩, ⟨9, 5, arrK .i64 16 (l16 0), 76⟩] (by kernel_rfl) ?_ (by kernel_rfl) ?_
 ·
  intro x hx
  simp only [List.mem_cons, List.not_mem_nil, or_false] at hx
  rcases hx with rfl | rfl <;> exact ⟨_, rfl, rfl, rfl, fun _ _ => by kernel_rfl⟩
 simp only [List.take_succ_cons, List.take_zero, List.take_nil]
 (try simp only [Act.put, mA, mB, mC])
 refine Xv ?_
 refine Xls ?_ (sub := arrK .i64 16 (l16 X1)) (j := 0) k_t1 p3c0
 refine XlA ?_ k_t3
 refine Xf ?_ (fun W hW => c_N2 W)
 refine Xv ?_
 refine Xls ?_ (sub := arrK .i64 16 (l16 Y1)) (j := 16) k_t1 p3c1
 refine XlA ?_ k_t3
 refine Xf ?_ (fun W hW => c_N3 W)
 refine wpX_nil ?_
 intro β W5 hE hN hD
 obtain ⟨n_t4, h_t4⟩ := hN _ (List.mem_cons_self ..)
 obtain ⟨n_t5, h_t5⟩ := hN _ (List.mem_cons_of_mem _ (List.mem_cons_self ..))
 have nq_t4_t5 := (hD _ (List.mem_cons_of_mem _ (List.mem_cons_self ..)) _ (List.mem_cons_self ..) (by decide)).symm
 clear hN hD
 simp only [putAll, Act.put, mA, mB, mC, List.drop_succ_cons, List.drop_zero, List.drop_nil, List.length_cons, List.length_nil, Nat.add_zero] at n_t4 h_t4 n_t5 h_t5 nq_t4_t5 ⊢
 have hO := off_ext hE
 generalize β 8 = p4_5 at *
 have fb_t4 := fbn off0 n_t4
 generalize β 9 = p5_5 at *
 have fb_t5 := fbn off0 n_t5
 replace off0 := off0.o hO
 clear hO hE β n_t4 n_t5
 have k_t4 : Blk W5 p4_5 (arrK .i64 16 (l16 0)) 76 := h_t4
 clear h_t4
 have k_t5 : Blk W5 p5_5 (arrK .i64 16 (l16 0)) 76 := h_t5
 clear h_t5
 refine LpA ?_ k_t4 (k := .i64) (n := 16) (f := l16 N2)
 intro W6 hO h_
 replace k_t4 : Blk W6 p4_5 (arrK .i64 16 (l16 N2)) 76 := h_
 clear h_
 replace k_t5 := k_t5.p hO nq_t4_t5.symm
 replace off0 := off0.p hO fb_t4
 clear hO
 refine LpA ?_ k_t5 (k := .i64) (n := 16) (f := l16 N3)
 intro W7 hO h_
 replace k_t5 : Blk W7 p5_5 (arrK .i64 16 (l16 N3)) 76 := h_
 clear h_
 replace k_t4 := k_t4.p hO nq_t4_t5
 replace off0 := off0.p hO fb_t5
 clear hO
 refine LN ?_
 go_upto_region 3 with fail
 refine wp_region_lit ?_
 refine L0A ?_ k_t5
 refine Lr ?_ (rBytes_s N3 W7)
 intro W8 hO
 replace k_t4 := k_t4.o hO
 replace off0 := off0.o hO
 clear hO
 refine wpL_bytes (l := (lb 32 N3)) (by first | omega | (rw [lb_length]; decide)) (by rfl) rfl rfl ?_
 (try simp only [Act.put, mA, mB, mC])
 intro p20_9 c_y20 cs_y20 W9 n_y20 hO h_ c1_y20 c2_y20 c3_y20 c4_y20
 have nq_t4_y20 := bn k_t4 n_y20
 have fb_y20 := fbn off0 n_y20
 replace k_t4 := k_t4.o hO
 replace off0 := off0.o hO
 have k_y20 := h_
 clear hO h_ n_y20
 have ow_z20 : Sl W9 (.slice (some ⟨p20_9, 0, none⟩) (lb 32 N3).length c_y20) (lb 32 N3) := sl_blz k_y20 c1_y20 c2_y20 c4_y20
 refine Lv ?_
 refine wpL_nil ?_
 by_cases ho : N2 % 2 = 1
 ·
  have _f := ho
  have H_ho := Lib.hid ho
  clear _f ho
  go_upto_region 4 with fail
  refine wp_region_lit ?_
  refine Lw ?_ (v := .pointer (some ⟨p4_5, 0 + 0, none⟩)) (hv := run_ixarr (m := 16) (by decide) (by decide) Tryd.underlying76 (by kernel_rfl) rfl rfl rfl)
  refine Lg ?_ k_t4 (v := .int .i64 ((l16 N2) 0)) (hj := by rw [Nat.zero_add]; exact arrK_get _ _ _ _ (by decide))
  refine Lw ?_ (v := .int .i64 1) (hv := by exact run_odd16 H_ho.out rfl rfl rfl)
  refine Lw ?_ (v := .bool true)
  refine wpL_nil ?_
  go_upto_region 5 with fail
  refine wp_region_lit ?_
  refine Lv ?_
  refine Lv ?_
  refine wpL_ixa (j := 31) (by rw [lb_length]; decide) (by rfl) rfl rfl rfl ?_
  (try simp only [Act.put, mA, mB, mC])
  have hc_ : W9.cell? ⟨p20_9, 0 + 31, none⟩ = some (.int .u8 (byt N3 31)) := by rw [blz_cell k_y20, Nat.zero_add]; exact take_cell (by rw [← lb_length 32 N3]; exact c4_y20) (by decide)
  refine wpL_at (v := .int .u8 (byt N3 31)) (by rfl) rfl rfl hc_ (by kernel_rfl) ?_
  (try simp only [Act.put, mA, mB, mC])
  clear hc_
  refine Lw ?_ (v := .int .u8 (bits .or .u8 (byt N3 31) 128)) (hv := by exact run_orU rfl rfl rfl rfl)
  refine wpL_ixa (j := 31) (by rw [lb_length]; decide) (by rfl) rfl rfl rfl ?_
  (try simp only [Act.put, mA, mB, mC])
  refine wpL_putz (v := .int .u8 (bits .or .u8 (byt N3 31) 128)) ⟨rfl, rfl⟩ (by rfl) rfl rfl rfl k_y20 (by rw [c3_y20, Nat.zero_add]; have := c1_y20; rw [lb_length] at this; omega) (by kernel_rfl) ?_
  (try simp only [Act.put, mA, mB, mC])
  intro W10 hO h_
  have c4n := take_set (cs := cs_y20) (by rw [← lb_length 32 N3]; exact c4_y20) (set31c (Nat.lt_trans lN3 PP_top))
  rw [Nat.zero_add] at h_
  replace k_t4 := k_t4.p hO nq_t4_y20
  replace off0 := off0.p hO fb_y20
  clear hO
  replace k_y20 := h_
  clear h_
  have h1_ : (lb 32 (N3 + 2 ^ 255)).length = (lb 32 N3).length := by rw [lb_length, lb_length]
  replace ow_z20 : Sl W10 (.slice (some ⟨p20_9, 0, none⟩) (lb 32 N3).length c_y20) (lb 32 (N3 + 2 ^ 255)) := by have := sl_blz (l := lb 32 (N3 + 2 ^ 255)) k_y20 (by rw [h1_]; exact c1_y20) c2_y20 (by rw [lb_length]; exact c4n); rwa [h1_] at this
  clear h1_ c4_y20
  refine wpL_nil ?_
  go_upto_region 6 with fail
  refine wp_region_lit ?_
  refine Lv ?_
  refine wpL_str (l := (lb 32 (N3 + 2 ^ 255))) ow_z20 (by rfl) rfl rfl ?_
  (try simp only [Act.put, mA, mB, mC])
  refine Lv ?_
  refine wpL_nil ?_
  go_wp2
  rw [enc_n1 h1 HN1.out HN2.out HN3.out H_ho.out]
  exact bodyPost_ret (v := str (lb 32 (N3 + 2 ^ 255))) (by simp only [results, Tryd.results45]; go_simp) rfl ⟨rfl, off0.ext⟩
 ·
  have _f := ho
  have H_ho := Lib.hid ho
  clear _f ho
  go_upto_region 4 with fail
  refine wp_region_lit ?_
  refine Lw ?_ (v := .pointer (some ⟨p4_5, 0 + 0, none⟩)) (hv := run_ixarr (m := 16) (by decide) (by decide) Tryd.underlying76 (by kernel_rfl) rfl rfl rfl)
  refine Lg ?_ k_t4 (v := .int .i64 ((l16 N2) 0)) (hj := by rw [Nat.zero_add]; exact arrK_get _ _ _ _ (by decide))
  refine Lw ?_ (v := .int .i64 0) (hv := by exact run_odd16 (show N2 % 2 = 0 by have := H_ho.out; omega) rfl rfl rfl)
  refine Lw ?_ (v := .bool false)
  refine wpL_nil ?_
  go_upto_region 6 with fail
  refine wp_region_lit ?_
  refine Lv ?_
  refine wpL_str (l := (lb 32 N3)) ow_z20 (by rfl) rfl rfl ?_
  (try simp only [Act.put, mA, mB, mC])
  refine Lv ?_
  refine wpL_nil ?_
  go_wp2
  rw [enc_n0 h1 HN1.out HN2.out HN3.out H_ho.out]
  exact bodyPost_ret (v := str (lb 32 N3)) (by simp only [results, Tryd.results45]; go_simp) rfl ⟨rfl, off0.ext⟩
end Go.Proofs.YtefpoollmbmkfaaDoor
