/- custumallaw09: proofs, VrfProves. Conditions: the cells of the variables hold their numbers. -/
import Derived.Test.YtefpoollmbmkfaaDoorGc
import Derived.Test.YtefpoollmbmkfaaDoorVc
import Derived.Test.YtefpoollmbmkfaaDoorSgD
import Derived.Test.YtefpoollmbmkfaaDoorVw
set_option linter.unusedSimpArgs false
set_option linter.unusedVariables false
namespace Go.Proofs.YtefpoollmbmkfaaDoor
set_option maxHeartbeats 2000000
set_option maxRecDepth 100000
open Go.RowKit
attribute [local irreducible] wpList
variable {kn : Kn}
open Sc (LL clampF)
attribute [local irreducible] hs
/-- the answers of Prove and Sum: bytes, the error -/
def vprv (S : Nat) (L : List UInt8) : Nat × Nat := match vpt (kP S) L with
  | none => (0, 15)
  | some c => (vPr S (candP (kP S) L c), 0)
theorem vprv_some {S c : Nat} {L : List UInt8} (h : vpt (kP S) L = some c) : vprv S L = (vPr S (candP (kP S) L c), 0) := by unfold vprv; rw [h]
theorem vprv_none {S : Nat} {L : List UInt8} (h : vpt (kP S) L = none) : vprv S L = (0, 15) := by unfold vprv; rw [h]
theorem candP_on {V c : Nat} {L : List UInt8} (h : candOk V L c = true) : OnC (candP V L c) := pm_on (dPt_on (candOk_iff.1 h).1) 8
theorem vprv_80 (S : Nat) (L : List UInt8) : B80 (vprv S L).1 := by
  unfold B80
  cases h : vpt (kP S) L with
  | none => rw [vprv_none h]; decide +kernel
  | some c => rw [vprv_some h]; rw [(vPr_parts (candP_on (vpt_some h).2.1)).2.2]; exact Nat.lt_trans (vN_lt _ _) LL_256
theorem proveN_c (hd : kn.d) (hb : kn.b) (hc : kn.c) {X E S : Nat} {L : List UInt8} (hX : X = (vprv S L).1) (hE : E = (vprv S L).2) (v : Value) (hL : L.length ≤ 1099511627776) (w : World) (hG : GA kn w) (hs : Sl w v L) :
    Calls Tryd.prog 23 #[.agg (arrK .u8 32 (byt S)), v] w fun e w' => Ret (.tuple #[.agg (arrK .u8 80 (byt X)), .int .i64 (E : Int)]) w w' e := by
  subst hX hE
  cases h : vpt (kP S) L with
  | none => rw [vprv_none h]; exact prove_0 hd hb hc S v L hL h w hG hs
  | some c => rw [vprv_some h]; exact prove_1 hd hb hc S c v L hL h rfl w hG hs
theorem rproveN_c {X E S : Nat} {L : List UInt8} (hX : X = (vprv S L).1) (hE : E = (vprv S L).2) (hL : L.length ≤ 1099511627776) (w : World) (hG : GR w) :
    Calls Tryd.prog 24 #[str (lb 32 S), str L] w fun e w' => Ret (.tuple #[str (lb 80 X), .int .i64 (E : Int)]) w w' e := by
  subst hX hE
  cases h : vpt (kP S) L with
  | none => rw [vprv_none h]; exact rprove_0 S L hL h w hG
  | some c => rw [vprv_some h]; exact rprove_1 S c L hL h rfl w hG
theorem checkN_c (hd : kn.d) (hb : kn.b) (hc : kn.c) {X E V P : Nat} {L : List UInt8} (hX : X = (vchk V L P).1) (hE : E = (vchk V L P).2) (hV : V < 2 ^ 256) (hP : B80 P) (v : Value) (hL : L.length ≤ 1099511627776) (w : World) (hG : GA kn w) (hs : Sl w v L) :
    Calls Tryd.prog 26 #[.agg (arrK .u8 32 (byt V)), v, .agg (arrK .u8 80 (byt P))] w fun e w' => Ret (.tuple #[.agg (arrK .u8 64 (byt X)), .int .i64 (E : Int)]) w w' e := by
  subst hX hE; exact check_c hd hb hc rfl hV hP v hL w hG hs
/-- Check by the point of the text -/
theorem vchk_pt {V P c : Nat} {L : List UInt8} (h1 : dOk V = true) (h2 : ¬ pm (dPt V) 8 = p0) (h3 : dOk (pG P) = true) (h4 : pN P < LL) (h5 : vpt V L = some c) : (vTake V P (candP V L c) → vchk V L P = (vSum P, 0)) ∧ (¬ vTake V P (candP V L c) → vchk V L P = (0, 17)) := by
  have e : vchk V L P = if chk V P (candP V L c) = pC P then (vSum P, 0) else (0, 17) := by
    unfold vchk
    rw [if_neg (by rintro (h | h); rw [h1] at h; cases h; exact h2 h), if_neg (by rintro (h | h); rw [h3] at h; cases h; exact absurd h (Nat.not_le.2 h4)), h5]
  rw [e]
  exact ⟨fun h => if_pos h, fun h => if_neg h⟩
theorem pf_0 : (vprv 1 [97]).2 = 0 := by rw [vprv_some vpa]
theorem pf_key : dOk (pG (vprv 1 [97]).1) = true ∧ pN (vprv 1 [97]).1 < LL := by
  rw [vprv_some vpa]
  have hon := candP_on (vpt_some vpa).2.1
  obtain ⟨e1, -, e3⟩ := vPr_parts (S := 1) hon
  exact ⟨by rw [e1]; exact (dec_enc (pm_on hon _)).1, by rw [e3]; exact vN_lt _ _⟩
theorem pf_a : (vchk (kP 1) [97] (vprv 1 [97]).1).2 = 0 := by
  have h := (vchk_pt key1.1 key1.2 pf_key.1 pf_key.2 vpa).1
  rw [vprv_some vpa] at h ⊢
  rw [h take_a]
theorem pf_b : (vchk (kP 1) [98] (vprv 1 [97]).1).2 = 17 := by
  have h := (vchk_pt key1.1 key1.2 pf_key.1 pf_key.2 vpb).2
  rw [vprv_some vpa] at h ⊢
  rw [h take_b]
attribute [local irreducible] vprv vchk

theorem proofs_c (hd : kn.d) (hb : kn.b) (hc : kn.c) :
  ∀ w, GA kn w → Calls Tryd.prog 25 #[] w fun e w' => Ret (.bool true) w w' e := by
 obtain ⟨U1, hU1⟩ := exn ((vprv 1 [97]).1)
 have eU1 : B80 U1 := by rw [hU1]; exact vprv_80 _ _
 have HU1 := Lib.hid hU1
 clear hU1
 obtain ⟨U2, hU2⟩ := exn ((vprv 1 [97]).2)
 have HU2 := Lib.hid hU2
 clear hU2
 have hz0 : (U2 : Int) = 0 := by rw [HU2.out]; exact congrArg Nat.cast pf_0
 obtain ⟨U3, hU3⟩ := exn (kN 1)
 have bU3 : U3 < 2 ^ 256 := by rw [hU3]; exact kN_lt _
 have HU3 := Lib.hid hU3
 clear hU3
 obtain ⟨U4, hU4⟩ := exn (kD 1)
 have bU4 : U4 < 2 ^ 256 := by rw [hU4]; exact kD_lt _
 have HU4 := Lib.hid hU4
 clear hU4
 obtain ⟨U5, hU5⟩ := exn (kP 1)
 have bU5 : U5 < 2 ^ 256 := by rw [hU5]; exact kP_lt _
 have HU5 := Lib.hid hU5
 clear hU5
 obtain ⟨U6, hU6⟩ := exn ((vchk U5 [97] U1).1)
 have HU6 := Lib.hid hU6
 clear hU6
 obtain ⟨U7, hU7⟩ := exn ((vchk U5 [97] U1).2)
 have HU7 := Lib.hid hU7
 clear hU7
 have hz1 : (U7 : Int) = 0 := by rw [HU7.out, HU5.out, HU1.out]; exact congrArg Nat.cast pf_a
 obtain ⟨U8, hU8⟩ := exn ((vchk U5 [98] U1).1)
 have HU8 := Lib.hid hU8
 clear hU8
 obtain ⟨U9, hU9⟩ := exn ((vchk U5 [98] U1).2)
 have HU9 := Lib.hid hU9
 clear hU9
 have hz2 : (U9 : Int) = 17 := by rw [HU9.out, HU5.out, HU1.out]; exact congrArg Nat.cast pf_b
 intro w hG
 have off0 : Off [] w w := Off.refl _ _
 go_enter Tryd.func25, Tryd.ntmps25
 go_upto_region 1 with fail
 refine wp_region_lit ?_
 refine Lw ?_ (v := .agg (arrK .u8 32 (byt 1))) (hv := by kernel_rfl)
 refine LnA ?_ (z := arrK .u8 32 (byt 0)) (t := 22) (k := .u8) (n := 32) (f := byt 1)
 intro p1_1 W2 n_t1 hO h_
 replace off0 := off0.o hO
 have k_t1 := h_
 clear hO h_ n_t1
 refine wpL_nil ?_
 go_upto_region 2 with fail
 refine wp_region_lit ?_
 refine L0A ?_ k_t1
 refine LnS ?_ (z := #[.int .u8 97]) (t := 5) (n := 1) (c := 1)
 intro p12_3 W3 n_s12 hO h_
 have ne_s12_t1 : Value.ownBlock (.slice (some ⟨p12_3, 0, none⟩) 1 1) ≠ some p1_1 := obn k_t1 n_s12
 have fr_s12 : Fr (Value.ownBlock (.slice (some ⟨p12_3, 0, none⟩) 1 1)) w.heap.size [] := frn off0 n_s12
 replace k_t1 := k_t1.o hO
 replace off0 := off0.o hO
 have ow_s12 : Own W3 (.slice (some ⟨p12_3, 0, none⟩) 1 1) [97] := own_blk h_ (by rfl) (by show 1 ≤ maxLen; decide)
 clear hO h_ n_s12
 refine wpL_same ow_s12 rfl (by rfl) rfl rfl ?_
 (try simp only [Act.put, mA, mB, mC])
 intro W4 hO ow_m13
 replace k_t1 := blk_off k_t1 hO (nmo ne_s12_t1)
 replace off0 := off0.step hO (io fr_s12)
 clear ow_s12 fr_s12 ne_s12_t1
 clear hO
 refine Lr ?_ (proveN_c hd hb hc HU1.out HU2.out (.slice (some ⟨p12_3, 0, none⟩) 1 1) (by first | omega | (simp only [List.length_append, List.length_take, List.length_cons, List.length_nil, lb_length]; omega)) W4 (GA_ext hG off0.ext) ow_m13)
 intro W5 hO
 replace k_t1 := k_t1.o hO
 replace off0 := off0.o hO
 clear hO
 refine Lv ?_
 refine Lv ?_
 refine Lv ?_
 refine LnA ?_ (z := arrK .u8 80 (byt 0)) (t := 45) (k := .u8) (n := 80) (f := byt U1)
 intro p2_6 W7 n_t2 hO h_
 replace k_t1 := k_t1.o hO
 replace off0 := off0.o hO
 have k_t2 := h_
 clear hO h_ n_t2
 refine Lv ?_
 refine wpL_nil ?_
 go_upto_region 3 with fail
 refine wp_region_lit ?_
 refine L0A ?_ k_t1
 refine Lr ?_ (spreadN_c hd hb HU3.out HU4.out HU5.out W7 (GA_ext hG off0.ext))
 intro W8 hO
 replace k_t2 := k_t2.o hO
 replace off0 := off0.o hO
 clear hO
 refine Lw ?_ (v := .agg (arrK .u8 32 (byt U5))) (hv := by kernel_rfl)
 refine LnA ?_ (z := arrK .u8 32 (byt 0)) (t := 22) (k := .u8) (n := 32) (f := byt U5)
 intro p4_9 W10 n_t4 hO h_
 replace k_t2 := k_t2.o hO
 replace off0 := off0.o hO
 have k_t4 := h_
 clear hO h_ n_t4
 refine wpL_nil ?_
 go_upto_region 4 with fail
 refine wp_region_lit ?_
 refine L0A ?_ k_t4
 refine LnS ?_ (z := #[.int .u8 97]) (t := 5) (n := 1) (c := 1)
 intro p22_11 W11 n_s22 hO h_
 have ne_s22_t2 : Value.ownBlock (.slice (some ⟨p22_11, 0, none⟩) 1 1) ≠ some p2_6 := obn k_t2 n_s22
 have ne_s22_t4 : Value.ownBlock (.slice (some ⟨p22_11, 0, none⟩) 1 1) ≠ some p4_9 := obn k_t4 n_s22
 have fr_s22 : Fr (Value.ownBlock (.slice (some ⟨p22_11, 0, none⟩) 1 1)) w.heap.size [] := frn off0 n_s22
 replace k_t2 := k_t2.o hO
 replace k_t4 := k_t4.o hO
 replace off0 := off0.o hO
 have ow_s22 : Own W11 (.slice (some ⟨p22_11, 0, none⟩) 1 1) [97] := own_blk h_ (by rfl) (by show 1 ≤ maxLen; decide)
 clear hO h_ n_s22
 refine wpL_same ow_s22 rfl (by rfl) rfl rfl ?_
 (try simp only [Act.put, mA, mB, mC])
 intro W12 hO ow_m23
 replace k_t2 := blk_off k_t2 hO (nmo ne_s22_t2)
 replace k_t4 := blk_off k_t4 hO (nmo ne_s22_t4)
 replace off0 := off0.step hO (io fr_s22)
 clear ow_s22 fr_s22 ne_s22_t2 ne_s22_t4
 clear hO
 refine L0A ?_ k_t2
 refine Lr ?_ (checkN_c hd hb hc HU6.out HU7.out bU5 eU1 (.slice (some ⟨p22_11, 0, none⟩) 1 1) (by first | omega | (simp only [List.length_append, List.length_take, List.length_cons, List.length_nil, lb_length]; omega)) W12 (GA_ext hG off0.ext) ow_m23)
 intro W13 hO
 replace k_t2 := k_t2.o hO
 replace k_t4 := k_t4.o hO
 replace off0 := off0.o hO
 clear hO
 refine Lv ?_
 refine Lv ?_
 refine Lv ?_
 refine LnA ?_ (z := arrK .u8 64 (byt 0)) (t := 30) (k := .u8) (n := 64) (f := byt U6)
 intro p5_14 W15 n_t5 hO h_
 replace k_t2 := k_t2.o hO
 replace k_t4 := k_t4.o hO
 replace off0 := off0.o hO
 clear hO h_ n_t5
 refine Lv ?_
 refine wpL_nil ?_
 go_upto_region 5 with fail
 refine wp_region_lit ?_
 refine L0A ?_ k_t4
 refine LnS ?_ (z := #[.int .u8 98]) (t := 5) (n := 1) (c := 1)
 intro p30_16 W16 n_s30 hO h_
 have ne_s30_t2 : Value.ownBlock (.slice (some ⟨p30_16, 0, none⟩) 1 1) ≠ some p2_6 := obn k_t2 n_s30
 have fr_s30 : Fr (Value.ownBlock (.slice (some ⟨p30_16, 0, none⟩) 1 1)) w.heap.size [] := frn off0 n_s30
 replace k_t2 := k_t2.o hO
 replace off0 := off0.o hO
 have ow_s30 : Own W16 (.slice (some ⟨p30_16, 0, none⟩) 1 1) [98] := own_blk h_ (by rfl) (by show 1 ≤ maxLen; decide)
 clear hO h_ n_s30
 refine wpL_same ow_s30 rfl (by rfl) rfl rfl ?_
 (try simp only [Act.put, mA, mB, mC])
 intro W17 hO ow_m31
 replace k_t2 := blk_off k_t2 hO (nmo ne_s30_t2)
 replace off0 := off0.step hO (io fr_s30)
 clear ow_s30 fr_s30 ne_s30_t2
 clear hO
 refine L0A ?_ k_t2
 refine Lr ?_ (checkN_c hd hb hc HU8.out HU9.out bU5 eU1 (.slice (some ⟨p30_16, 0, none⟩) 1 1) (by first | omega | (simp only [List.length_append, List.length_take, List.length_cons, List.length_nil, lb_length]; omega)) W17 (GA_ext hG off0.ext) ow_m31)
 intro W18 hO
 replace off0 := off0.o hO
 clear hO
 refine Lv ?_
 refine Lv ?_
 refine Lv ?_
 refine LnA ?_ (z := arrK .u8 64 (byt 0)) (t := 30) (k := .u8) (n := 64) (f := byt U8)
 intro p7_19 W20 n_t7 hO h_
 replace off0 := off0.o hO
 clear hO h_ n_t7
 refine Lv ?_
 refine wpL_nil ?_
 go_upto_region 6 with fail
 refine wp_region_lit ?_
 refine Lv ?_
 refine Lw ?_ (v := .bool true) (hv := by first | (go_simp; done) | (go_simp; simp only [hz0]; done) | (go_simp; simp only [hz0]; decide))
 refine Lw ?_ (v := .bool true)
 refine Lv ?_
 refine Lw ?_ (v := .bool true) (hv := by first | (go_simp; done) | (go_simp; simp only [hz1]; done) | (go_simp; simp only [hz1]; decide))
 refine Lw ?_ (v := .bool true)
 refine Lw ?_ (v := .bool true)
 refine Lv ?_
 refine Lw ?_ (v := .bool true) (hv := by first | (go_simp; done) | (go_simp; simp only [hz2]; done) | (go_simp; simp only [hz2]; decide))
 refine Lw ?_ (v := .bool true)
 refine Lw ?_ (v := .bool true)
 refine wpL_nil ?_
 go_wp2
 exact bodyPost_ret (v := .bool true) (by simp only [results, Tryd.results25]; go_simp) rfl ⟨rfl, off0.ext⟩
theorem vrfProves_c (hd : kn.d) (hb : kn.b) (hc : kn.c) (hr : kn.r) (S : Nat) (v : Value) (L M : List UInt8) (hL : L.length ≤ 9223372036854775807) (hM : List.take (min L.length 200) L = M) (hMl : M.length ≤ 200) :
  ∀ w, GA kn w → Sl w v L → Calls Tryd.prog 8 #[.agg (arrK .u8 32 (byt S)), v] w fun e w' => Ret (.bool true) w w' e := by
 obtain ⟨U1, hU1⟩ := exn ((vprv S M).1)
 have eU1 : B80 U1 := by rw [hU1]; exact vprv_80 _ _
 have HU1 := Lib.hid hU1
 clear hU1
 obtain ⟨U2, hU2⟩ := exn ((vprv S M).2)
 have HU2 := Lib.hid hU2
 clear hU2
 intro w hG hs
 have ow_a := hs
 have off0 : Off [] w w := Off.refl _ _
 go_enter Tryd.func8, Tryd.ntmps8
 go_upto_region 0 with fail
 refine wp_region_lit ?_
 refine Ln ?_ (z := arrK .u8 32 (byt S)) (t := 22)
 intro p2_1 W1 n_t2 hO h_
 replace ow_a := Sl.off ow_a hO f0
 replace off0 := off0.o hO
 have k_t2 := h_
 clear hO h_ n_t2
 refine Lw ?_ (v := .bool false)
 refine wpL_nil ?_
 go_upto_region 1 with fail
 refine wp_region_lit ?_
 refine LnS ?_ (z := #[]) (t := 5) (n := 0) (c := 0)
 intro p10_2 W2 n_s10 hO h_
 have ne_s10_t2 : Value.ownBlock (.slice (some ⟨p10_2, 0, none⟩) 0 0) ≠ some p2_1 := obn k_t2 n_s10
 have fr_s10 : Fr (Value.ownBlock (.slice (some ⟨p10_2, 0, none⟩) 0 0)) w.heap.size [] := frn off0 n_s10
 replace k_t2 := k_t2.o hO
 replace ow_a := Sl.off ow_a hO f0
 replace off0 := off0.o hO
 have ow_s10 : Own W2 (.slice (some ⟨p10_2, 0, none⟩) 0 0) [] := own_blk h_ (by rfl) (by show 0 ≤ maxLen; decide)
 clear hO h_ n_s10
 refine Lv ?_
 refine Lv ?_
 refine wpL_len (l := L) ow_a (by rfl) rfl rfl ?_
 (try simp only [Act.put, mA, mB, mC])
 refine Lw ?_ (v := .int .i64 ((min L.length 200 : Nat) : Int)) (hv := by go_simp; (try omega))
 refine wpL_head (n := min L.length 200) ow_a (by omega) (by rfl) rfl rfl rfl ?_
 (try simp only [Act.put, mA, mB, mC])
 intro u15_2 ow_c15 sub_c15 some_c15
 refine wpL_append (xs := []) (ys := (List.take (min L.length 200) L)) (by rfl) rfl rfl rfl ow_s10 ow_c15 (by first | omega | (simp only [List.length_append, List.length_take, List.length_cons, List.length_nil, lb_length]; omega)) ?_
 (try simp only [Act.put, mA, mB, mC])
 intro v16_3 W3 ow_a16 hO at_a16 nil_a16
 clear nil_a16
 replace k_t2 := blk_off k_t2 hO (nmo ne_s10_t2)
 replace off0 := off0.step hO (io fr_s10)
 clear hO at_a16
 rw [List.nil_append, hM] at ow_a16
 clear ow_c15
 refine Lv ?_
 refine wpL_nil ?_
 go_upto_region 2 with fail
 refine wp_region_lit ?_
 refine Lv ?_
 refine wpL_str (l := M) (ow_a16.sl) (by rfl) rfl rfl ?_
 (try simp only [Act.put, mA, mB, mC])
 refine Lv ?_
 refine wpL_nil ?_
 go_upto_region 3 with fail
 refine wp_region_lit ?_
 refine L0A ?_ k_t2
 refine Lv ?_
 refine Lr ?_ (proveN_c hd hb hc HU1.out HU2.out v16_3 (by first | omega | (simp only [List.length_append, List.length_take, List.length_cons, List.length_nil, lb_length]; omega)) W3 (GA_ext hG off0.ext) (ow_a16.sl))
 intro W4 hO
 replace k_t2 := k_t2.o hO
 replace ow_a16 := Own.off ow_a16 hO f0
 replace off0 := off0.o hO
 clear hO
 refine Lv ?_
 refine Lv ?_
 refine Lv ?_
 refine LnA ?_ (z := arrK .u8 80 (byt 0)) (t := 45) (k := .u8) (n := 80) (f := byt U1)
 intro p6_5 W6 n_t6 hO h_
 replace k_t2 := k_t2.o hO
 replace ow_a16 := Own.off ow_a16 hO f0
 replace off0 := off0.o hO
 have k_t6 := h_
 clear hO h_ n_t6
 refine Lv ?_
 refine wpL_nil ?_
 go_upto_region 4 with fail
 refine wp_region_lit ?_
 refine Lw ?_ (v := .slice (some ⟨p2_1, 0, none⟩) 32 32) (hv := by first | rfl | (go_simp; done) | (go_simp; with_reducible rfl))
 refine wpL_str (l := (lb 32 S)) (sl_part (V := S) (n := 32) (off := 0) k_t2 ap0 (by decide) (by decide)) (by rfl) rfl rfl ?_
 (try simp only [Act.put, mA, mB, mC])
 refine Lv ?_
 refine Lr ?_ (rproveN_c HU1.out HU2.out (by first | omega | (simp only [List.length_append, List.length_take, List.length_cons, List.length_nil, lb_length]; omega)) W6 ((GA_ext hG off0.ext).2.2.2 hr))
 intro W7 hO
 replace k_t6 := k_t6.o hO
 replace ow_a16 := Own.off ow_a16 hO f0
 replace off0 := off0.o hO
 clear hO
 refine Lv ?_
 refine Lv ?_
 refine Lv ?_
 refine Lv ?_
 refine Lv ?_
 refine wpL_nil ?_
 go_upto_region 5 with fail
 refine wp_region_lit ?_
 refine Lr ?_ (proofs_c hd hb hc W7 (GA_ext hG off0.ext))
 intro W8 hO
 replace k_t6 := k_t6.o hO
 replace ow_a16 := Own.off ow_a16 hO f0
 replace off0 := off0.o hO
 clear hO
 refine Lw ?_ (v := .bool true)
 refine Lw ?_ (v := .slice (some ⟨p6_5, 0, none⟩) 80 80) (hv := by first | rfl | (go_simp; done) | (go_simp; with_reducible rfl))
 refine wpL_str (l := (lb 80 U1)) (sl_part (V := U1) (n := 80) (off := 0) k_t6 ap0 (by decide) (by decide)) (by rfl) rfl rfl ?_
 (try simp only [Act.put, mA, mB, mC])
 refine Lv ?_
 refine wpL_streq (l := (lb 80 U1)) (m := (lb 80 U1)) (b := true) (decide_eq_true rfl) (by rfl) rfl rfl rfl ?_
 (try simp only [Act.put, mA, mB, mC])
 refine Lw ?_ (v := .bool true)
 refine Lw ?_ (v := .bool true)
 refine Lv ?_
 refine Lv ?_
 refine Lw ?_ (v := .bool true) (hv := by first | (go_simp; done) | (go_simp; simp))
 refine Lw ?_ (v := .bool true)
 refine Lw ?_ (v := .bool true)
 refine Lv ?_
 refine wpL_str (l := M) (ow_a16.sl) (by rfl) rfl rfl ?_
 (try simp only [Act.put, mA, mB, mC])
 refine Lv ?_
 refine wpL_streq (l := M) (m := M) (b := true) (decide_eq_true rfl) (by rfl) rfl rfl rfl ?_
 (try simp only [Act.put, mA, mB, mC])
 refine Lw ?_ (v := .bool true)
 refine Lw ?_ (v := .bool true)
 refine wpL_nil ?_
 go_wp2
 exact bodyPost_ret (v := .bool true) (by simp only [results, Tryd.results8]; go_simp) rfl ⟨rfl, off0.ext⟩
end Go.Proofs.YtefpoollmbmkfaaDoor
