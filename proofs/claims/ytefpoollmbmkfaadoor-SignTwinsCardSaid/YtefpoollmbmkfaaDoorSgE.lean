/- custumallaw08: seeds, SignMakes, SignChecks, SignBack. Conditions: the cells of the variables hold their numbers. -/
import Derived.Test.YtefpoollmbmkfaaDoorGc
import Derived.Test.YtefpoollmbmkfaaDoorSgD
import Derived.Test.YtefpoollmbmkfaaDoorSw
namespace Go.Proofs.YtefpoollmbmkfaaDoor
set_option maxHeartbeats 2000000
set_option maxRecDepth 100000
set_option linter.unusedSimpArgs false
set_option linter.unusedVariables false
open Go.RowKit
attribute [local irreducible] wpList
variable {kn : Kn}
open Sc (LL clampF)
theorem sig_lt (S : Nat) (L : List UInt8) : sig S L < 2 ^ (256 + 256) := by
  have h1 := sA_lt S L
  have h2 : sT S L < 2 ^ 256 := Nat.lt_trans (sT_lt S L) LL_256
  refine Nat.lt_of_lt_of_eq ?_ (Nat.pow_add 2 256 256).symm
  unfold sig
  generalize (2 : Nat) ^ 256 = T at *
  have : T * (sT S L + 1) ≤ T * T := Nat.mul_le_mul_left T h2
  rw [Nat.mul_add] at this
  omega
theorem signN_c (hd : kn.d) (hb : kn.b) {X S : Nat} {L : List UInt8} (hX : X = sig S L) (v : Value) (L' : List UInt8) (hL : L.length ≤ 1099511627776) (w : World) (hG : GA kn w) (hs : Sl w v L) :
    Calls Tryd.prog 17 #[.agg (arrK .u8 32 (byt S)), v] w fun e w' => Ret (.agg (arrK .u8 64 (byt X))) w w' e := hX ▸ sign_c hd hb S v L hL w hG hs
theorem verifyN_c (hd : kn.d) (hb : kn.b) (hc : kn.c) {X V G : Nat} {L : List UInt8} (hX : X = vfy V L G) (hV : V < 2 ^ 256) (hG2 : G < 2 ^ (256 + 256)) (v : Value) (L' : List UInt8) (hL : L.length ≤ 1099511627776) (w : World) (hG : GA kn w) (hs : Sl w v L) :
    Calls Tryd.prog 20 #[.agg (arrK .u8 32 (byt V)), v, .agg (arrK .u8 64 (byt G))] w fun e w' => Ret (.int .i64 (X : Int)) w w' e := hX ▸ verify_c hd hb hc hV hG2 v L hL w hG hs
theorem rsignN_c {X S : Nat} {L : List UInt8} (hX : X = sig S L) (L' : List UInt8) (hL : L.length ≤ 1099511627776) (w : World) (hG : GR w) :
    Calls Tryd.prog 19 #[str (lb 32 S), str L] w fun e w' => Ret (str (lb 64 X)) w w' e := hX ▸ rsign_c S L hL w hG
theorem rverifyN_c {X V G : Nat} {L : List UInt8} (hX : X = vfy V L G) (hV : V < 2 ^ 256) (hG2 : G < 2 ^ (256 + 256)) (L' : List UInt8) (hL : L.length ≤ 1099511627776) (w : World) (hG : GR w) :
    Calls Tryd.prog 21 #[str (lb 32 V), str L, str (lb 64 G)] w fun e w' => Ret (.int .i64 (X : Int)) w w' e := hX ▸ rverify_c hV hG2 L hL w hG
/-- what is signed is verified -/
theorem sign_back (S : Nat) (L : List UInt8) : vfy (kP S) L (sig S L) = 0 := by
  have hN := pm_on BP_on (kN S)
  have hd : dOk (kP S) = true ∧ dPt (kP S) = pm BP (kN S) := dec_enc hN
  have hk : vK (kP S) L (sig S L) = sK S L := by unfold vK; rw [sig_lo]; rfl
  have e1 : pm BP (sT S L) = padd (pm BP (sR S L)) (pm (pm BP (kN S)) (sK S L)) := by
    unfold sT
    rw [pm_mod, pm_add BP_on, pm_mod, Nat.mul_comm, pm_mul BP_on, pm_mod]
  have hp : vP (kP S) L (sig S L) = pm BP (sR S L) := by
    unfold vP
    rw [hk, sig_hi, hd.2, e1, pm_pneg, padd_assoc (pm_on BP_on _) (pm_on hN _) (pneg_on (pm_on hN _)), padd_neg (pm_on hN _), padd_p0]
  unfold vfy
  rw [sig_hi, if_neg (Nat.not_le.2 (sT_lt S L)), hd.1, if_neg (by decide), hp, sig_lo, if_pos (by rfl)]

theorem seeds_c (hd : kn.d) (hb : kn.b) :
  ∀ w, GA kn w → Calls Tryd.prog 18 #[] w fun e w' => Ret (.bool true) w w' e := by
 obtain ⟨U1, hU1⟩ := exn (kN SD)
 have bU1 : U1 < 2 ^ 256 := by rw [hU1]; exact kN_lt _
 have HU1 := Lib.hid hU1
 clear hU1
 obtain ⟨U2, hU2⟩ := exn (kD SD)
 have bU2 : U2 < 2 ^ 256 := by rw [hU2]; exact kD_lt _
 have HU2 := Lib.hid hU2
 clear hU2
 obtain ⟨U3, hU3⟩ := exn (kP SD)
 have bU3 : U3 < 2 ^ 256 := by rw [hU3]; exact kP_lt _
 have HU3 := Lib.hid hU3
 clear hU3
 obtain ⟨U4, hU4⟩ := exn (sig SD [])
 have gU4 : U4 < 2 ^ (256 + 256) := by rw [hU4]; exact sig_lt _ _
 have HU4 := Lib.hid hU4
 clear hU4
 have es0 : byt U3 0 = 215 := by rw [HU3.out]; exact sd_0
 have es31 : byt U3 31 = 26 := by rw [HU3.out]; exact sd_31
 have eg0 : byt U4 0 = 229 := by rw [HU4.out]; exact sd_g0
 have eg1 : byt U4 1 = 86 := by rw [HU4.out]; exact sd_g1
 have eg63 : byt U4 63 = 11 := by rw [HU4.out]; exact sd_g63
 intro w hG
 have off0 : Off [] w w := Off.refl _ _
 go_enter Tryd.func18, Tryd.ntmps18
 go_upto_region 1 with fail
 refine wp_region_lit ?_
 refine Lw ?_ (v := .agg (arrK .u8 32 (byt SD))) (hv := by kernel_rfl)
 refine Ln ?_ (z := arrK .u8 32 (byt 0)) (t := 22)
 intro p1_1 W1 n_t1 hO h_
 have fb_t1 := fbn off0 n_t1
 replace off0 := off0.step hO i0
 have k_t1 := h_
 clear hO h_ n_t1
 refine LpA ?_ k_t1 (k := .u8) (n := 32) (f := byt SD)
 intro W2 hO h_
 replace k_t1 : Blk W2 p1_1 (arrK .u8 32 (byt SD)) 22 := h_
 clear h_
 replace off0 := off0.step hO (i1 fb_t1)
 clear hO
 refine wpL_nil ?_
 go_upto_region 2 with fail
 refine wp_region_lit ?_
 refine L0A ?_ k_t1
 refine Lr ?_ (signN_c hd hb HU4.out (.slice none 0 0) [] (by first | omega | (simp only [List.length_append, List.length_take, List.length_cons, List.length_nil, lb_length]; omega)) W2 (GA_ext hG off0.ext) (sl_nil W2))
 intro W3 hO
 replace k_t1 := blk_off k_t1 hO nm0
 replace off0 := off0.step hO i0
 clear hO
 refine Ln ?_ (z := arrK .u8 64 (byt 0)) (t := 30)
 intro p2_4 W4 n_t2 hO h_
 have nq_t1_t2 := bn k_t1 n_t2
 have fb_t2 := fbn off0 n_t2
 replace k_t1 := blk_off k_t1 hO nm0
 replace off0 := off0.step hO i0
 have k_t2 := h_
 clear hO h_ n_t2
 refine LpA ?_ k_t2 (k := .u8) (n := 64) (f := byt U4)
 intro W5 hO h_
 replace k_t2 : Blk W5 p2_4 (arrK .u8 64 (byt U4)) 30 := h_
 clear h_
 replace k_t1 := blk_off k_t1 hO (nm1 nq_t1_t2)
 replace off0 := off0.step hO (i1 fb_t2)
 clear hO
 refine wpL_nil ?_
 go_upto_region 3 with fail
 refine wp_region_lit ?_
 refine L0A ?_ k_t1
 refine Lr ?_ (spreadN_c hd hb HU1.out HU2.out HU3.out W5 (GA_ext hG off0.ext))
 intro W6 hO
 replace k_t2 := blk_off k_t2 hO nm0
 replace off0 := off0.step hO i0
 clear hO
 refine Lw ?_ (v := .agg (arrK .u8 32 (byt U3))) (hv := by kernel_rfl)
 refine Ln ?_ (z := arrK .u8 32 (byt 0)) (t := 22)
 intro p3_7 W7 n_t3 hO h_
 have nq_t2_t3 := bn k_t2 n_t3
 have fb_t3 := fbn off0 n_t3
 replace k_t2 := blk_off k_t2 hO nm0
 replace off0 := off0.step hO i0
 have k_t3 := h_
 clear hO h_ n_t3
 refine LpA ?_ k_t3 (k := .u8) (n := 32) (f := byt U3)
 intro W8 hO h_
 replace k_t3 : Blk W8 p3_7 (arrK .u8 32 (byt U3)) 22 := h_
 clear h_
 replace k_t2 := blk_off k_t2 hO (nm1 nq_t2_t3)
 replace off0 := off0.step hO (i1 fb_t3)
 clear hO
 refine wpL_nil ?_
 go_upto_region 4 with fail
 refine wp_region_lit ?_
 refine Lw ?_ (v := .pointer (some ⟨p3_7, 0 + 0, none⟩)) (hv := run_ixarr (m := 32) (by decide) (by decide) Tryd.underlying22 (by kernel_rfl) rfl rfl rfl)
 refine Lg ?_ k_t3 (v := .int .u8 ((byt U3) 0)) (hj := by rw [Nat.zero_add]; exact arrK_get _ _ _ _ (by decide))
 refine Lw ?_ (v := .bool true) (hv := by (first | (go_simp; done) | (go_simp; simp only [es0, es31, eg0, eg1, eg63]; done) | (go_simp; simp only [es0, es31, eg0, eg1, eg63]; decide)))
 refine Lw ?_ (v := .bool true)
 refine Lw ?_ (v := .pointer (some ⟨p3_7, 0 + 31, none⟩)) (hv := run_ixarr (m := 32) (by decide) (by decide) Tryd.underlying22 (by kernel_rfl) rfl rfl rfl)
 refine Lg ?_ k_t3 (v := .int .u8 ((byt U3) 31)) (hj := by rw [Nat.zero_add]; exact arrK_get _ _ _ _ (by decide))
 refine Lw ?_ (v := .bool true) (hv := by (first | (go_simp; done) | (go_simp; simp only [es0, es31, eg0, eg1, eg63]; done) | (go_simp; simp only [es0, es31, eg0, eg1, eg63]; decide)))
 refine Lw ?_ (v := .bool true)
 refine Lw ?_ (v := .bool true)
 refine Lw ?_ (v := .pointer (some ⟨p2_4, 0 + 0, none⟩)) (hv := run_ixarr (m := 64) (by decide) (by decide) Tryd.underlying30 (by kernel_rfl) rfl rfl rfl)
 refine Lg ?_ k_t2 (v := .int .u8 ((byt U4) 0)) (hj := by rw [Nat.zero_add]; exact arrK_get _ _ _ _ (by decide))
 refine Lw ?_ (v := .bool true) (hv := by (first | (go_simp; done) | (go_simp; simp only [es0, es31, eg0, eg1, eg63]; done) | (go_simp; simp only [es0, es31, eg0, eg1, eg63]; decide)))
 refine Lw ?_ (v := .bool true)
 refine Lw ?_ (v := .bool true)
 refine Lw ?_ (v := .pointer (some ⟨p2_4, 0 + 1, none⟩)) (hv := run_ixarr (m := 64) (by decide) (by decide) Tryd.underlying30 (by kernel_rfl) rfl rfl rfl)
 refine Lg ?_ k_t2 (v := .int .u8 ((byt U4) 1)) (hj := by rw [Nat.zero_add]; exact arrK_get _ _ _ _ (by decide))
 refine Lw ?_ (v := .bool true) (hv := by (first | (go_simp; done) | (go_simp; simp only [es0, es31, eg0, eg1, eg63]; done) | (go_simp; simp only [es0, es31, eg0, eg1, eg63]; decide)))
 refine Lw ?_ (v := .bool true)
 refine Lw ?_ (v := .bool true)
 refine Lw ?_ (v := .pointer (some ⟨p2_4, 0 + 63, none⟩)) (hv := run_ixarr (m := 64) (by decide) (by decide) Tryd.underlying30 (by kernel_rfl) rfl rfl rfl)
 refine Lg ?_ k_t2 (v := .int .u8 ((byt U4) 63)) (hj := by rw [Nat.zero_add]; exact arrK_get _ _ _ _ (by decide))
 refine Lw ?_ (v := .bool true) (hv := by (first | (go_simp; done) | (go_simp; simp only [es0, es31, eg0, eg1, eg63]; done) | (go_simp; simp only [es0, es31, eg0, eg1, eg63]; decide)))
 refine Lw ?_ (v := .bool true)
 refine Lw ?_ (v := .bool true)
 refine wpL_nil ?_
 go_wp2
 exact bodyPost_ret (v := .bool true) (by simp only [results, Tryd.results18]; go_simp) rfl ⟨rfl, off0.ext⟩
theorem signMakes_c (hd : kn.d) (hb : kn.b) (hr : kn.r) (S : Nat) (v : Value) (L M : List UInt8) (hL : L.length ≤ 9223372036854775807) (hM : List.take (min L.length 300) L = M) (hMl : M.length ≤ 300) :
  ∀ w, GA kn w → Sl w v L → Calls Tryd.prog 3 #[.agg (arrK .u8 32 (byt S)), v] w fun e w' => Ret (.bool true) w w' e := by
 obtain ⟨U1, hU1⟩ := exn (kN S)
 have bU1 : U1 < 2 ^ 256 := by rw [hU1]; exact kN_lt _
 have HU1 := Lib.hid hU1
 clear hU1
 obtain ⟨U2, hU2⟩ := exn (kD S)
 have bU2 : U2 < 2 ^ 256 := by rw [hU2]; exact kD_lt _
 have HU2 := Lib.hid hU2
 clear hU2
 obtain ⟨U3, hU3⟩ := exn (kP S)
 have bU3 : U3 < 2 ^ 256 := by rw [hU3]; exact kP_lt _
 have HU3 := Lib.hid hU3
 clear hU3
 obtain ⟨U4, hU4⟩ := exn (sig S M)
 have gU4 : U4 < 2 ^ (256 + 256) := by rw [hU4]; exact sig_lt _ _
 have HU4 := Lib.hid hU4
 clear hU4
 intro w hG hs
 have ow_a := hs
 have off0 : Off [] w w := Off.refl _ _
 go_enter Tryd.func3, Tryd.ntmps3
 go_upto_region 0 with fail
 refine wp_region_lit ?_
 refine Ln ?_ (z := arrK .u8 32 (byt S)) (t := 22)
 intro p2_1 W1 n_t2 hO h_
 replace ow_a := Sl.off ow_a hO f0
 replace off0 := off0.step hO i0
 have k_t2 := h_
 clear hO h_ n_t2
 refine Lw ?_ (v := .bool false)
 refine wpL_nil ?_
 go_upto_region 1 with fail
 refine wp_region_lit ?_
 refine LnS ?_ (z := #[]) (t := 5) (n := 0) (c := 0)
 intro p9_2 W2 n_s9 hO h_
 have ne_s9_t2 : Value.ownBlock (.slice (some ⟨p9_2, 0, none⟩) 0 0) ≠ some p2_1 := obn k_t2 n_s9
 have fr_s9 : Fr (Value.ownBlock (.slice (some ⟨p9_2, 0, none⟩) 0 0)) w.heap.size [] := frn off0 n_s9
 replace k_t2 := blk_off k_t2 hO nm0
 replace ow_a := Sl.off ow_a hO f0
 replace off0 := off0.step hO i0
 have ow_s9 : Own W2 (.slice (some ⟨p9_2, 0, none⟩) 0 0) [] := own_blk h_ (by rfl) (by show 0 ≤ maxLen; decide)
 clear hO h_ n_s9
 refine Lv ?_
 refine Lv ?_
 refine wpL_len (l := L) ow_a (by rfl) rfl rfl ?_
 (try simp only [Act.put, mA, mB, mC])
 refine Lw ?_ (v := .int .i64 ((min L.length 300 : Nat) : Int)) (hv := by go_simp; (try omega))
 refine wpL_head (n := min L.length 300) ow_a (by omega) (by rfl) rfl rfl rfl ?_
 (try simp only [Act.put, mA, mB, mC])
 intro u14_2 ow_c14 sub_c14 some_c14
 refine wpL_append (xs := []) (ys := (List.take (min L.length 300) L)) (by rfl) rfl rfl rfl ow_s9 ow_c14 (by first | omega | (simp only [List.length_append, List.length_take, List.length_cons, List.length_nil, lb_length]; omega)) ?_
 (try simp only [Act.put, mA, mB, mC])
 intro v15_3 W3 ow_a15 hO at_a15 nil_a15
 clear nil_a15
 replace k_t2 := blk_off k_t2 hO (nmo ne_s9_t2)
 replace off0 := off0.step hO (io fr_s9)
 clear hO at_a15
 rw [List.nil_append, hM] at ow_a15
 clear ow_c14
 refine Lv ?_
 refine wpL_nil ?_
 go_upto_region 2 with fail
 refine wp_region_lit ?_
 refine Lv ?_
 refine wpL_str (l := M) (ow_a15.sl) (by rfl) rfl rfl ?_
 (try simp only [Act.put, mA, mB, mC])
 refine Lv ?_
 refine wpL_nil ?_
 go_upto_region 3 with fail
 refine wp_region_xn 5 [⟨5, 6, s3 0 0 0, 25⟩, ⟨6, 7, #[str [], str [], str []], 28⟩] (by kernel_rfl) ?_ (by kernel_rfl) ?_
 ·
  intro x hx
  simp only [List.mem_cons, List.not_mem_nil, or_false] at hx
  rcases hx with rfl | rfl <;> exact ⟨_, rfl, rfl, rfl, fun _ _ => by kernel_rfl⟩
 simp only [List.take_succ_cons, List.take_zero, List.take_nil]
 (try simp only [Act.put, mA, mB, mC])
 refine XlA ?_ k_t2
 refine Xf ?_ (fun W hW => spreadN_c hd hb HU1.out HU2.out HU3.out W (GA_ext (GA_ext hG off0.ext) hW))
 refine Xw ?_ (v := .slice (some ⟨p2_1, 0, none⟩) 32 32)
 refine wpX_str (l := (lb 32 S)) (fun W hW => (sl_part (V := S) (n := 32) (off := 0) (blk_step k_t2 hW) ap0 (by decide) (by decide))) (by rfl) rfl rfl ?_
 (try simp only [Act.put, mA, mB, mC])
 refine Xf ?_ (fun W hW => rspreadN_c HU1.out HU2.out HU3.out W ((GA_ext (GA_ext hG off0.ext) hW).2.2.2 hr))
 refine wpX_nil ?_
 intro β W4 hE hN hD
 obtain ⟨n_t6, h_t6⟩ := hN _ (List.mem_cons_self ..)
 obtain ⟨n_t7, h_t7⟩ := hN _ (List.mem_cons_of_mem _ (List.mem_cons_self ..))
 have nq_t6_t7 := (hD _ (List.mem_cons_of_mem _ (List.mem_cons_self ..)) _ (List.mem_cons_self ..) (by decide)).symm
 clear hN hD
 simp only [putAll, Act.put, mA, mB, mC, List.drop_succ_cons, List.drop_zero, List.drop_nil, List.length_cons, List.length_nil, Nat.add_zero] at n_t6 h_t6 n_t7 h_t7 nq_t6_t7 ⊢
 have hO := off_ext hE
 generalize β 5 = p6_4 at *
 have nq_t2_t6 := bn k_t2 n_t6
 have ne_a15_t6 := ne_new (Own.lt ow_a15) n_t6
 have fb_t6 := fbn off0 n_t6
 generalize β 6 = p7_4 at *
 have nq_t2_t7 := bn k_t2 n_t7
 have ne_a15_t7 := ne_new (Own.lt ow_a15) n_t7
 have fb_t7 := fbn off0 n_t7
 replace k_t2 := blk_off k_t2 hO nm0
 replace ow_a15 := Own.off ow_a15 hO f0
 replace off0 := off0.step hO i0
 clear hO hE β n_t6 n_t7
 have k_t6 : Blk W4 p6_4 (s3 0 0 0) 25 := h_t6
 clear h_t6
 have k_t7 : Blk W4 p7_4 #[str [], str [], str []] 28 := h_t7
 clear h_t7
 refine Lp ?_ k_t6 (cells := s3 U1 U2 U3) (hi := by rw [s3_size]; kernel_rfl) (hs := by first | rw [s3_size, s3_size] | rw [s3_size] | kernel_rfl) (h1 := by exact s3_one)
 intro W5 hO h_
 replace k_t6 : Blk W5 p6_4 (s3 U1 U2 U3) 25 := h_
 clear h_
 replace k_t2 := blk_off k_t2 hO (nm1 nq_t2_t6)
 replace k_t7 := blk_off k_t7 hO (nm1 nq_t6_t7.symm)
 replace ow_a15 := Own.off ow_a15 hO (f1 ne_a15_t6)
 replace off0 := off0.step hO (i1 fb_t6)
 clear hO
 refine Lp ?_ k_t7 (cells := #[str (lb 32 U1), str (lb 32 U2), str (lb 32 U3)])
 intro W6 hO h_
 replace k_t7 : Blk W6 p7_4 #[str (lb 32 U1), str (lb 32 U2), str (lb 32 U3)] 28 := h_
 clear h_
 replace k_t2 := blk_off k_t2 hO (nm1 nq_t2_t7)
 replace k_t6 := blk_off k_t6 hO (nm1 nq_t6_t7)
 replace ow_a15 := Own.off ow_a15 hO (f1 ne_a15_t7)
 replace off0 := off0.step hO (i1 fb_t7)
 clear hO
 refine LN ?_
 go_upto_region 4 with fail
 refine wp_region_lit ?_
 refine L0A ?_ k_t2
 refine Lv ?_
 refine Lr ?_ (signN_c hd hb HU4.out v15_3 M (by first | omega | (simp only [List.length_append, List.length_take, List.length_cons, List.length_nil, lb_length]; omega)) W6 (GA_ext hG off0.ext) (ow_a15.sl))
 intro W7 hO
 replace k_t2 := blk_off k_t2 hO nm0
 replace k_t6 := blk_off k_t6 hO nm0
 replace k_t7 := blk_off k_t7 hO nm0
 replace ow_a15 := Own.off ow_a15 hO f0
 replace off0 := off0.step hO i0
 clear hO
 refine Ln ?_ (z := arrK .u8 64 (byt 0)) (t := 30)
 intro p8_8 W8 n_t8 hO h_
 have nq_t2_t8 := bn k_t2 n_t8
 have nq_t6_t8 := bn k_t6 n_t8
 have nq_t7_t8 := bn k_t7 n_t8
 have ne_a15_t8 := ne_new (Own.lt ow_a15) n_t8
 have fb_t8 := fbn off0 n_t8
 replace k_t2 := blk_off k_t2 hO nm0
 replace k_t6 := blk_off k_t6 hO nm0
 replace k_t7 := blk_off k_t7 hO nm0
 replace ow_a15 := Own.off ow_a15 hO f0
 replace off0 := off0.step hO i0
 have k_t8 := h_
 clear hO h_ n_t8
 refine LpA ?_ k_t8 (k := .u8) (n := 64) (f := byt U4)
 intro W9 hO h_
 replace k_t8 : Blk W9 p8_8 (arrK .u8 64 (byt U4)) 30 := h_
 clear h_
 replace k_t2 := blk_off k_t2 hO (nm1 nq_t2_t8)
 replace k_t6 := blk_off k_t6 hO (nm1 nq_t6_t8)
 replace k_t7 := blk_off k_t7 hO (nm1 nq_t7_t8)
 replace ow_a15 := Own.off ow_a15 hO (f1 ne_a15_t8)
 replace off0 := off0.step hO (i1 fb_t8)
 clear hO
 refine wpL_nil ?_
 go_upto_region 5 with fail
 refine Rx 41 ?_
 refine Xf ?_ (fun W hW => seeds_c hd hb W (GA_ext (GA_ext hG off0.ext) hW))
 refine Xv ?_
 refine Xv ?_
 refine Xw ?_ (v := .slice (some ⟨p6_4, 0, none⟩) 32 32)
 refine wpX_str (l := (lb 32 U1)) (fun W hW => (sl_part (V := U1) (n := 32) (off := 0) (blk_step k_t6 hW) s3c0 (by decide) (by decide))) (by rfl) rfl rfl ?_
 (try simp only [Act.put, mA, mB, mC])
 refine Xv ?_
 refine Xc ?_ (v := str (lb 32 U1)) (blk_rd k_t7)
 refine wpX_streq (l := (lb 32 U1)) (m := (lb 32 U1)) (b := true) (decide_eq_true rfl) (by rfl) rfl rfl rfl ?_
 (try simp only [Act.put, mA, mB, mC])
 refine Xv ?_
 refine Xv ?_
 refine Xv ?_
 refine Xw ?_ (v := .slice (some ⟨p6_4, 32, none⟩) 32 32)
 refine wpX_str (l := (lb 32 U2)) (fun W hW => (sl_part (V := U2) (n := 32) (off := 32) (blk_step k_t6 hW) s3c1 (by decide) (by decide))) (by rfl) rfl rfl ?_
 (try simp only [Act.put, mA, mB, mC])
 refine Xv ?_
 refine Xc ?_ (v := str (lb 32 U2)) (blk_rd k_t7)
 refine wpX_streq (l := (lb 32 U2)) (m := (lb 32 U2)) (b := true) (decide_eq_true rfl) (by rfl) rfl rfl rfl ?_
 (try simp only [Act.put, mA, mB, mC])
 refine Xv ?_
 refine Xv ?_
 refine Xv ?_
 refine Xw ?_ (v := .slice (some ⟨p6_4, 64, none⟩) 32 32)
 refine wpX_str (l := (lb 32 U3)) (fun W hW => (sl_part (V := U3) (n := 32) (off := 64) (blk_step k_t6 hW) s3c2 (by decide) (by decide))) (by rfl) rfl rfl ?_
 (try simp only [Act.put, mA, mB, mC])
 refine Xv ?_
 refine Xc ?_ (v := str (lb 32 U3)) (blk_rd k_t7)
 refine wpX_streq (l := (lb 32 U3)) (m := (lb 32 U3)) (b := true) (decide_eq_true rfl) (by rfl) rfl rfl rfl ?_
 (try simp only [Act.put, mA, mB, mC])
 refine Xv ?_
 refine Xv ?_
 refine Xw ?_ (v := .slice (some ⟨p8_8, 0, none⟩) 64 64)
 refine wpX_str (l := (lb 64 U4)) (fun W hW => (sl_part (V := U4) (n := 64) (off := 0) (blk_step k_t8 hW) ap0 (by decide) (by decide))) (by rfl) rfl rfl ?_
 (try simp only [Act.put, mA, mB, mC])
 refine Xw ?_ (v := .slice (some ⟨p2_1, 0, none⟩) 32 32)
 refine wpX_str (l := (lb 32 S)) (fun W hW => (sl_part (V := S) (n := 32) (off := 0) (blk_step k_t2 hW) ap0 (by decide) (by decide))) (by rfl) rfl rfl ?_
 (try simp only [Act.put, mA, mB, mC])
 refine Xv ?_
 refine Xf ?_ (fun W hW => rsignN_c HU4.out M (by first | omega | (simp only [List.length_append, List.length_take, List.length_cons, List.length_nil, lb_length]; omega)) W ((GA_ext (GA_ext hG off0.ext) hW).2.2.2 hr))
 refine wpX_streq (l := (lb 64 U4)) (m := (lb 64 U4)) (b := true) (decide_eq_true rfl) (by rfl) rfl rfl rfl ?_
 (try simp only [Act.put, mA, mB, mC])
 refine Xv ?_
 refine Xv ?_
 refine Xv ?_
 refine wpX_str (l := M) (fun W hW => sl_ext (ow_a15.sl) hW) (by rfl) rfl rfl ?_
 (try simp only [Act.put, mA, mB, mC])
 refine Xv ?_
 refine wpX_streq (l := M) (m := M) (b := true) (decide_eq_true rfl) (by rfl) rfl rfl rfl ?_
 (try simp only [Act.put, mA, mB, mC])
 refine Xv ?_
 refine Xv ?_
 refine wpX_nil fun W10 hE => ?_
 have hO := off_ext hE
 replace off0 := off0.step hO i0
 clear hO hE
 refine LN ?_
 go_wp2
 exact bodyPost_ret (v := .bool true) (by simp only [results, Tryd.results3]; go_simp) rfl ⟨rfl, off0.ext⟩
theorem signChecks_c (hd : kn.d) (hb : kn.b) (hc : kn.c) (hr : kn.r) {V G : Nat} (bV : V < 2 ^ 256) (gG : G < 2 ^ (256 + 256)) (v : Value) (L M : List UInt8) (hL : L.length ≤ 9223372036854775807) (hM : List.take (min L.length 300) L = M) (hMl : M.length ≤ 300) :
  ∀ w, GA kn w → Sl w v L → Calls Tryd.prog 4 #[.agg (arrK .u8 32 (byt V)), v, .agg (arrK .u8 64 (byt G))] w fun e w' => Ret (.bool true) w w' e := by
 obtain ⟨U1, hU1⟩ := exn (vfy V M G)
 have HU1 := Lib.hid hU1
 clear hU1
 intro w hG hs
 have ow_a := hs
 have off0 : Off [] w w := Off.refl _ _
 go_enter Tryd.func4, Tryd.ntmps4
 go_upto_region 0 with fail
 refine wp_region_lit ?_
 refine Ln ?_ (z := arrK .u8 32 (byt V)) (t := 22)
 intro p3_1 W1 n_t3 hO h_
 have ne_a_t3 := ne_new (Sl.lt ow_a) n_t3
 replace ow_a := Sl.off ow_a hO f0
 replace off0 := off0.step hO i0
 have k_t3 := h_
 clear hO h_ n_t3
 refine Ln ?_ (z := arrK .u8 64 (byt G)) (t := 30)
 intro p5_2 W2 n_t5 hO h_
 have ne_a_t5 := ne_new (Sl.lt ow_a) n_t5
 replace k_t3 := blk_off k_t3 hO nm0
 replace ow_a := Sl.off ow_a hO f0
 replace off0 := off0.step hO i0
 have k_t5 := h_
 clear hO h_ n_t5
 refine Lw ?_ (v := .bool false)
 refine wpL_nil ?_
 go_upto_region 1 with fail
 refine wp_region_lit ?_
 refine Lv ?_
 refine Lv ?_
 refine wpL_len (l := L) ow_a (by rfl) rfl rfl ?_
 (try simp only [Act.put, mA, mB, mC])
 refine Lw ?_ (v := .int .i64 ((min L.length 300 : Nat) : Int)) (hv := by go_simp; (try omega))
 refine wpL_head (n := min L.length 300) ow_a (by omega) (by rfl) rfl rfl rfl ?_
 (try simp only [Act.put, mA, mB, mC])
 intro u11_2 ow_c11 sub_c11 some_c11
 have ne_c11_t3 : sb u11_2 (List.take (min L.length 300) L) ≠ some p3_1 := sub_ne sub_c11 ne_a_t3
 have ne_c11_t5 : sb u11_2 (List.take (min L.length 300) L) ≠ some p5_2 := sub_ne sub_c11 ne_a_t5
 rw [hM] at ow_c11 sub_c11
 (try rw [hM] at ne_c11_t3 ne_c11_t5)
 refine Lv ?_
 refine wpL_nil ?_
 go_upto_region 2 with fail
 refine Rx 16 ?_
 refine Xf ?_ (fun W hW => seeds_c hd hb W (GA_ext (GA_ext hG off0.ext) hW))
 refine Xv ?_
 refine XlA ?_ k_t3
 refine Xv ?_
 refine XlA ?_ k_t5
 refine Xf ?_ (fun W hW => verifyN_c hd hb hc HU1.out bV gG u11_2 M (by first | omega | (simp only [List.length_append, List.length_take, List.length_cons, List.length_nil, lb_length]; omega)) W (GA_ext (GA_ext hG off0.ext) hW) (sl_ext ow_c11 hW))
 refine Xw ?_ (v := .slice (some ⟨p3_1, 0, none⟩) 32 32)
 refine wpX_str (l := (lb 32 V)) (fun W hW => (sl_part (V := V) (n := 32) (off := 0) (blk_step k_t3 hW) ap0 (by decide) (by decide))) (by rfl) rfl rfl ?_
 (try simp only [Act.put, mA, mB, mC])
 refine Xv ?_
 refine wpX_str (l := M) (fun W hW => sl_ext ow_c11 hW) (by rfl) rfl rfl ?_
 (try simp only [Act.put, mA, mB, mC])
 refine Xw ?_ (v := .slice (some ⟨p5_2, 0, none⟩) 64 64)
 refine wpX_str (l := (lb 64 G)) (fun W hW => (sl_part (V := G) (n := 64) (off := 0) (blk_step k_t5 hW) ap0 (by decide) (by decide))) (by rfl) rfl rfl ?_
 (try simp only [Act.put, mA, mB, mC])
 refine Xf ?_ (fun W hW => rverifyN_c HU1.out bV gG M (by first | omega | (simp only [List.length_append, List.length_take, List.length_cons, List.length_nil, lb_length]; omega)) W ((GA_ext (GA_ext hG off0.ext) hW).2.2.2 hr))
 refine Xw ?_ (v := .bool true) (hv := fun _ _ => by first | (go_simp; done) | (go_simp; simp))
 refine Xv ?_
 refine Xv ?_
 refine wpX_nil fun W3 hE => ?_
 have hO := off_ext hE
 replace off0 := off0.step hO i0
 clear hO hE
 refine LN ?_
 go_wp2
 exact bodyPost_ret (v := .bool true) (by simp only [results, Tryd.results4]; go_simp) rfl ⟨rfl, off0.ext⟩
theorem signBack_c (hd : kn.d) (hb : kn.b) (hc : kn.c) (S : Nat) (v : Value) (L M : List UInt8) (hL : L.length ≤ 9223372036854775807) (hM : List.take (min L.length 300) L = M) (hMl : M.length ≤ 300) :
  ∀ w, GA kn w → Sl w v L → Calls Tryd.prog 5 #[.agg (arrK .u8 32 (byt S)), v] w fun e w' => Ret (.bool true) w w' e := by
 obtain ⟨U1, hU1⟩ := exn (kN S)
 have bU1 : U1 < 2 ^ 256 := by rw [hU1]; exact kN_lt _
 have HU1 := Lib.hid hU1
 clear hU1
 obtain ⟨U2, hU2⟩ := exn (kD S)
 have bU2 : U2 < 2 ^ 256 := by rw [hU2]; exact kD_lt _
 have HU2 := Lib.hid hU2
 clear hU2
 obtain ⟨U3, hU3⟩ := exn (kP S)
 have bU3 : U3 < 2 ^ 256 := by rw [hU3]; exact kP_lt _
 have HU3 := Lib.hid hU3
 clear hU3
 obtain ⟨U4, hU4⟩ := exn (sig S M)
 have gU4 : U4 < 2 ^ (256 + 256) := by rw [hU4]; exact sig_lt _ _
 have HU4 := Lib.hid hU4
 clear hU4
 obtain ⟨U5, hU5⟩ := exn (vfy U3 M U4)
 have HU5 := Lib.hid hU5
 clear hU5
 have hz_ : (U5 : Int) = 0 := by rw [HU5.out, HU3.out, HU4.out]; exact congrArg Nat.cast (sign_back S M)
 intro w hG hs
 have ow_a := hs
 have off0 : Off [] w w := Off.refl _ _
 go_enter Tryd.func5, Tryd.ntmps5
 go_upto_region 0 with fail
 refine wp_region_lit ?_
 refine Ln ?_ (z := arrK .u8 32 (byt S)) (t := 22)
 intro p2_1 W1 n_t2 hO h_
 have ne_a_t2 := ne_new (Sl.lt ow_a) n_t2
 replace ow_a := Sl.off ow_a hO f0
 replace off0 := off0.step hO i0
 have k_t2 := h_
 clear hO h_ n_t2
 refine Lw ?_ (v := .bool false)
 refine wpL_nil ?_
 go_upto_region 1 with fail
 refine wp_region_lit ?_
 refine Lv ?_
 refine Lv ?_
 refine wpL_len (l := L) ow_a (by rfl) rfl rfl ?_
 (try simp only [Act.put, mA, mB, mC])
 refine Lw ?_ (v := .int .i64 ((min L.length 300 : Nat) : Int)) (hv := by go_simp; (try omega))
 refine wpL_head (n := min L.length 300) ow_a (by omega) (by rfl) rfl rfl rfl ?_
 (try simp only [Act.put, mA, mB, mC])
 intro u9_1 ow_c9 sub_c9 some_c9
 have ne_c9_t2 : sb u9_1 (List.take (min L.length 300) L) ≠ some p2_1 := sub_ne sub_c9 ne_a_t2
 rw [hM] at ow_c9 sub_c9
 (try rw [hM] at ne_c9_t2)
 refine Lv ?_
 refine wpL_nil ?_
 go_upto_region 2 with fail
 refine Rx 13 ?_
 refine Xf ?_ (fun W hW => seeds_c hd hb W (GA_ext (GA_ext hG off0.ext) hW))
 refine Xv ?_
 refine XlA ?_ k_t2
 refine Xf ?_ (fun W hW => spreadN_c hd hb HU1.out HU2.out HU3.out W (GA_ext (GA_ext hG off0.ext) hW))
 refine Xw ?_ (v := .agg (arrK .u8 32 (byt U3))) (hv := fun _ _ => by kernel_rfl)
 refine Xv ?_
 refine XlA ?_ k_t2
 refine Xv ?_
 refine Xf ?_ (fun W hW => signN_c hd hb HU4.out u9_1 M (by first | omega | (simp only [List.length_append, List.length_take, List.length_cons, List.length_nil, lb_length]; omega)) W (GA_ext (GA_ext hG off0.ext) hW) (sl_ext ow_c9 hW))
 refine Xf ?_ (fun W hW => verifyN_c hd hb hc HU5.out bU3 gU4 u9_1 M (by first | omega | (simp only [List.length_append, List.length_take, List.length_cons, List.length_nil, lb_length]; omega)) W (GA_ext (GA_ext hG off0.ext) hW) (sl_ext ow_c9 hW))
 refine Xw ?_ (v := .bool true) (hv := fun _ _ => by first | (go_simp; done) | (go_simp; simp only [hz_]; done) | (go_simp; simp only [hz_]; decide))
 refine Xv ?_
 refine Xv ?_
 refine wpX_nil fun W2 hE => ?_
 have hO := off_ext hE
 replace off0 := off0.step hO i0
 clear hO hE
 refine LN ?_
 go_wp2
 exact bodyPost_ret (v := .bool true) (by simp only [results, Tryd.results5]; go_simp) rfl ⟨rfl, off0.ext⟩
end Go.Proofs.YtefpoollmbmkfaaDoor
