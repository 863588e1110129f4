/- ProofChecks. Conditions: the tables hold their numbers; keys and values have 256 bits. -/
import Derived.Test.YtndnlbinnhdmbaaDoorJ24
set_option linter.unusedSimpArgs false
set_option linter.unusedVariables false
namespace Go.Proofs.YtndnlbinnhdmbaaDoor
set_option maxHeartbeats 3000000
set_option maxRecDepth 100000
open Go.RowKit
attribute [local irreducible] wpList wpTr wpX
set_option linter.unusedSimpArgs false
theorem bs8_arr (n U : Nat) : (bs8 (lb n U)).toArray = arrK .u8 n (byt U) := by rw [bs8_lb, ← arrK_list]
theorem tA_get {k : Nat} {e : List UInt8} {ss : List Nat} {i : Nat} (h : i < ss.length + 1) : ∃ T, (tA k ss 0 e)[i]? = some T := ⟨_, List.getElem?_eq_getElem (by rw [tA_len]; exact h)⟩
attribute [local irreducible] hs4 sE sL sN lb tA

theorem proofChecks_L {q : Prop} (hr : q) {ps ss : List Nat} {sv : Value} {th : Bool} {R k a x : Nat} (hE6 : ps.take 260 = ss) (hR : R < 2 ^ 256) (hk : k < 2 ^ 256) (ha : a < 2 ^ 256) (hx : x < 2 ^ 256) (w : World) (hG : GT q w) (hp : RR 32 w sv (ps.map b32l)) :
  Calls Tryd.prog 8 #[.agg (arrK .u8 32 (byt R)), .agg (arrK .u8 32 (byt k)), .agg (pfc sv th a x)] w fun e w' => Ret (.bool true) w w' e := by
 have hsl : ss.length ≤ 260 := by rw [← hE6, List.length_take]; omega
 have hlt_ : (tT k ss 0 (tE th a x)).length ≤ 67 := tT_len k (tE_len ..) _ _
 obtain ⟨Ap, cp, rfl, hlcp, HRp⟩ := RR.opf hp
 have hS := SH.nil [] w
 go_enter Tryd.func8, Tryd.ntmps8
 go_upto_region 0 with fail
 refine RL hS ?_
 clear hS
 refine MN (z := arrK .u8 32 (byt R)) (t := 22) ?_
 intro p3_1
 refine MN (z := arrK .u8 32 (byt k)) (t := 28) ?_
 intro p4_2
 refine MN (z := pfc (.slice Ap ps.length cp) th a x) (t := 66) ?_
 intro p5_3
 refine MW ?_ (v := .bool false)
 refine MZ fun W hS => ?_
 go_upto_region 1 with fail
 refine RL hS ?_
 clear hS
 refine ML 0 ?_ (hs := by rw [pf_size]; kernel_rfl)
 refine ME (V := fun v => .agg (pfc v th a x)) (fun W hS => pcall (ss := ss) hS ((by rw [← hE6]; exact tame_c W (hp.ext hS.ext))) rfl) ?_
 intro tm_5
 refine MFact (fun W hS => Row.form (ls := ss) (f := b32l) (hS.row (i := 0) rfl)) ?_
 rintro ⟨A_6, c_6, rfl⟩
 refine MR 1 ?_ (hz := by rw [pf_size]; kernel_rfl) (hs := by first | rw [pf_size, pf_size] | rw [pf_size] | kernel_rfl) (h1 := (pf_one rfl))
 refine MZ fun W hS => ?_
 go_upto_region 2 with fail
 refine RL hS ?_
 clear hS
 refine ML 1 ?_ (hs := by rw [pf_size]; kernel_rfl)
 refine ME (V := fun v => .agg (pfc v th a x)) (fun W hS => pcall (ss := ss) hS (pto_c (by omega) W (hS.row (i := 0) rfl).rr) rfl) ?_
 intro to_7
 refine MFact (fun W hS => Row.form (ls := ss) (f := b32l) (hS.row (i := 0) rfl)) ?_
 rintro ⟨A_8, c_8, rfl⟩
 refine MN (z := pfc (.slice none 0 0) false 0 0) (t := 69) ?_
 intro p7_9
 refine MR 0 ?_ (hz := by rw [pf_size]; kernel_rfl) (hs := by first | rw [pf_size, pf_size] | rw [pf_size] | kernel_rfl) (h1 := (pf_one rfl))
 refine MZ fun W hS => ?_
 go_upto_region 3 with fail
 refine RL hS ?_
 clear hS
 refine ML 4 ?_
 refine ML 3 ?_ (hs := by rw [pf_size]; kernel_rfl)
 refine ME (V := fun v => v) (fun W hS => ncall hS (rTexts_c hr (k := k) (by omega) W (GT_ext hG hS.ext) (hS.row (i := 2) rfl).rr) (fun _ => ⟨rfl, rfl⟩)) ?_
 intro rv
 refine MV ?_
 refine MZ fun W hS => ?_
 go_upto_region 4 with fail
 refine RL hS ?_
 clear hS
 refine MV ?_
 refine MV ?_
 refine MF (v := .int .i64 ((ss.length + 1 : Nat) : Int)) (fun W hS => run_lenRm (hS.row (i := 0) rfl) (by rw [List.length_map, tA_len]) rfl rfl Tryd.underlying61) ?_
 refine MW ?_ (v := .int .i64 (ss.length : Int)) (hv := by intro W; go_simp; (try simp only [IntKind.wrap_i64]); omega)
 refine MI 0 ss.length (e := (str1 (tT k ss 0 (tE th a x)))) (by rw [List.getElem?_map, tA_last]; rfl) ?_
 intro gb29_10 _ hv29_10
 refine MF (v := str (tT k ss 0 (tE th a x))) (fun W hS => run_at rfl rfl (row_cell (hS.row (i := 0) rfl) hv29_10.out (by rw [List.getElem?_map, tA_last]; rfl) 0 _ (rfl)) (by kernel_rfl)) ?_
 obtain ⟨U1, hU1⟩ := exn (hs4 (tT k ss 0 (tE th a x)))
 have HU1 := Lib.hid hU1
 clear hU1
 refine MC (v := str (lb 32 U1)) (fun W hS => rsumN4_c HU1.out (by first | omega | (simp only [List.length_append, List.length_cons, List.length_nil, lb_length, dbl]; omega)) W (GR_ext4 (hG.2 hr) hS.ext)) ?_
 refine MV ?_
 refine MZ fun W hS => ?_
 by_cases hpar : byt R 0 % 2 = 0
 ·
  have _f := hpar
  go_upto_region 5 with fail
  refine RL hS ?_
  clear hS
  refine MW ?_ (v := .pointer (some ⟨p3_1, 0 + 0, none⟩)) (hv := fun _ => run_ixarr (m := 32) (by decide) (by decide) Tryd.underlying22 (by kernel_rfl) rfl rfl rfl)
  refine MG 6 ?_ (j := 0 + 0) (v := .int .u8 ((byt R) 0)) (hj := by rw [Nat.zero_add]; exact arrK_get _ _ _ _ (by decide))
  refine MW ?_ (v := .int .u8 (byt R 0 % 2)) (hv := by intro W; have h_ := byt_ok R 0; go_simp; (try rw [Int.tmod_eq_emod_of_nonneg h_.1]); (try omega))
  refine MW ?_ (v := .bool true) (hv := by intro W; first | (go_simp; done) | (go_simp; with_reducible rfl) | (go_simp; omega))
  refine MZ fun W hS => ?_
  go_upto_region 6 with fail
  refine RL hS ?_
  clear hS
  refine MW ?_ (v := .slice (some ⟨p3_1, 0, none⟩) 32 32)
  refine MV ?_
  refine MCp 6 (l := (lb 32 U1)) (n := 32) (cs := arrK .u8 32 (byt R)) (new := arrK .u8 32 (byt U1)) (lb_length _ _) (by first | exact arrK_size _ _ _ | decide) (bs8_arr _ _) ?_
  refine MZ fun W hS => ?_
  obtain ⟨c0, c1, c2, hc⟩ : ∃ u v n, chk U1 k ss th a x = (u, v, n) := ⟨_, _, _, rfl⟩
  go_upto_region 7 with fail
  refine RL hS ?_
  clear hS
  refine ML 6 ?_
  refine ML 5 ?_
  refine ML 1 ?_ (hs := by rw [pf_size]; kernel_rfl)
  refine MC (v := .tuple #[.agg (arrK .u8 32 (byt c0)), .bool c1, .int .i64 (c2 : Int)]) (fun W hS => (by have h_ := check_c (R := U1) (k := k) (th := th) (x := x) (by rw [HU1.out]; exact hs_lt4 _) hk ha (by omega) W (GT_ext hG hS.ext) (hS.row (i := 2) rfl).rr; rw [hc] at h_; exact h_)) ?_
  refine MV ?_
  refine MV ?_
  refine MW ?_ (v := .bool c1)
  refine MV ?_
  refine MN (z := arrK .u8 32 (byt 0)) (t := 22) ?_
  intro p10_11
  refine MR 0 ?_ 
  refine MW ?_ (v := .bool c1)
  refine MV ?_
  refine MZ fun W hS => ?_
  go_upto_region 8 with fail
  refine RTh (.q 0 (.q 1 (.q 2 (.q 3 (.b 4 (.q 5 (.q 6 (.q 7 (.q 8 (.e 9 (.e 10 (.q 11 (.q 12 .z)))))))) 9 (.e 4 (.q 5 (.q 6 (.q 7 (.q 8 (.e 10 (.q 11 (.q 12 .z))))))))))))) hS ?_
  clear hS
  refine TW ?_ (v := .slice (some ⟨p3_1, 0, none⟩) 32 32)
  refine TF (v := str (lb 32 U1)) rfl (fun W hS => run_cvs (sl_part (V := U1) (n := 32) (off := 0) (c := 32) (hS.blk (i := 7) rfl) ap0 (by decide) (by decide)) rfl rfl) ?_
  refine TL 6 ?_
  refine TL 5 ?_ (hs := by rw [pf_size]; kernel_rfl)
  refine TB (fun _ h => h) ?_ ?_
  ·
   skip
   refine MC (v := .tuple #[.agg (arrK .u8 32 (byt c0)), .bool c1, .int .i64 (c2 : Int)]) (fun W hS => (by have h_ := rCheck_c hr (R := U1) (k := k) (th := th) (x := x) (by rw [HU1.out]; exact hs_lt4 _) hk ha (by omega) W (GT_ext hG hS.ext) (hS.row (i := 4) rfl).rr; rw [hc] at h_; exact h_)) ?_
   refine TNh (fun W hS => hS) ?_
   refine TV ?_
   refine TV ?_
   refine TW ?_ (v := .bool c1)
   refine TV ?_
   refine TE (fun _ h => h) ?_
   refine MN (z := arrK .u8 32 (byt 0)) (t := 22) ?_
   intro p13_12
   refine TNp [1, 2, 3, 4, 5, 6, 7, 8] [0, 1, 2, 3, 4, 5, 6, 7] ?_
   refine TE (fun _ h => h.pick [1, 2, 3, 4, 5, 6, 7, 8]) ?_
   refine MR 0 ?_ 
   refine TNp [1, 2, 3, 4, 5, 6, 7, 8] [0, 1, 2, 3, 4, 5, 6, 7] ?_
   refine TW ?_ (v := .bool c1)
   refine TV ?_
   refine TZ (fun _ h => h.pick [1, 2, 3, 4, 5, 6, 7, 8]) fun W hS => ?_
   go_upto_region 9 with fail
   refine RL hS ?_
   clear hS
   refine ML 7 ?_
   refine ML 3 ?_ (hs := by rw [pf_size]; kernel_rfl)
   refine ME (V := fun p : Value × List Value => p.1) (fun W hS => ncallL hS (texts_c (k := k) (by omega) W (GT_ext hG hS.ext) (hS.row (i := 4) rfl).rr) (fun _ => rfl)) ?_
   rintro ⟨lv, us⟩
   dsimp only
   refine MV ?_
   refine MZ fun W hS => ?_
   have hul : us.length = ss.length + 1 := by have h_ := (hS.pp (i := 1) rfl).1; rw [tA_len] at h_; exact h_
   go_upto_region 10 with fail
   refine RS hS ?_
   clear hS
   refine MC (v := .bool true) (fun W hS => proofs_c W (GT_ext hG hS.ext)) ?_
   refine MW ?_ (v := .bool false)
   refine MW ?_ (v := .bool false)
   refine ML 3 ?_
   refine ML 2 ?_
   refine MW ?_ (v := .bool false) (hv := fun _ => run_neqA ((fun w => eqS32 rfl w) _) (by kernel_rfl) rfl rfl rfl)
   refine MW ?_ (v := .bool false)
   refine MW ?_ (v := .bool false)
   refine MW ?_ (v := .bool c1)
   refine MW ?_ (v := .bool c1)
   refine MW ?_ (v := .bool false) (hv := by intro W; first | (go_simp; done) | (go_simp; with_reducible rfl) | (go_simp; omega))
   refine MW ?_ (v := .bool false)
   refine MW ?_ (v := .bool false)
   refine MV ?_
   refine MV ?_
   refine MW ?_ (v := .bool false) (hv := by intro W; first | (go_simp; done) | (go_simp; with_reducible rfl) | (go_simp; omega))
   refine MW ?_ (v := .bool false)
   refine MW ?_ (v := .bool false)
   refine MV ?_
   refine MF (v := .int .i64 ((ss.length + 1 : Nat) : Int)) (fun W hS => run_lenRm (hS.row (i := 0) rfl) (by rw [List.length_map]; exact hul) rfl rfl Tryd.underlying77) ?_
   refine MV ?_
   refine MF (v := .int .i64 ((ss.length + 1 : Nat) : Int)) (fun W hS => run_lenRm (hS.row (i := 4) rfl) (by rw [List.length_map, tA_len]) rfl rfl Tryd.underlying61) ?_
   refine MW ?_ (v := .bool false) (hv := by intro W; first | (go_simp; done) | (go_simp; with_reducible rfl) | (go_simp; omega))
   refine MW ?_ (v := .bool false)
   refine MW ?_ (v := .bool false)
   refine ML 5 ?_ (hs := by rw [pf_size]; kernel_rfl)
   refine MC (v := .agg (pfc (.slice A_8 ss.length c_8) th a x)) (fun W hS => pfrom_c th a x W) ?_
   refine ML 8 ?_ (hs := by rw [pf_size]; kernel_rfl)
   refine MC (v := .bool true) (fun W hS => psame_c (by omega) (fun _ => ⟨rfl, rfl⟩) ha hx W (hS.row (i := 6) rfl).rr (hS.row (i := 7) rfl).rr) ?_
   refine MW ?_ (v := .bool false)
   refine MW ?_ (v := .bool false)
   refine MZx fun W hS => ?_
   go_wp2_with fail
   go_loopw [17] (fun ii wr => ∃ (i : Nat), (i ≤ ss.length + 1) ∧ (ii = .int .i64 (i : Int)) ∧ SH [] w wr [.r 33 1 lv (List.map one1 us), .p (txF us (tA k ss 0 (tE th a x))) (fun W => TXS W us (tA k ss 0 (tE th a x))), .r 9 1 rv (List.map str1 (tA k ss 0 (tE th a x)))])
    (fun ii _ => ss.length + 1 - (intOf ii).toNat)
   case atStart => exact ⟨0, Nat.zero_le _, rfl, (hS.pick [0, 1, 4])⟩
   clear hS
   case round =>
    obtain ⟨i, hi, rfl, hS⟩ := hrel
    by_cases hlt : i < ss.length + 1
    ·
     have _f := hlt
     obtain ⟨T, Th⟩ := tA_get (k := k) (e := tE th a x) hlt
     obtain ⟨u, uh, _⟩ := txs_lt (hS.pp (i := 1) rfl) Th
     go_upto_region 13 with fail
     refine RL hS ?_
     clear hS
     refine MV ?_
     refine MV ?_
     refine MF (v := .int .i64 ((ss.length + 1 : Nat) : Int)) (fun W hS => run_lenRm (hS.row (i := 0) rfl) (by rw [List.length_map]; exact hul) rfl rfl Tryd.underlying77) ?_
     refine MW ?_ (v := .bool true)
     refine MZ fun W hS => ?_
     go_upto_region 15 with fail
     refine RS hS ?_
     clear hS
     refine MV ?_
     refine MV ?_
     refine MI 0 i (e := (one1 u)) (by rw [List.getElem?_map, uh]; rfl) ?_
     intro gb98_13 _ hv98_13
     refine MF (v := u) (fun W hS => run_at rfl rfl (row_cell (hS.row (i := 0) rfl) hv98_13.out (by rw [List.getElem?_map, uh]; rfl) 0 _ (rfl)) (by kernel_rfl)) ?_
     refine MF (v := str T) (fun W hS => run_cvs ((hS.pp (i := 1) rfl).2 _ u _ uh Th) rfl rfl) ?_
     refine MV ?_
     refine MV ?_
     refine MI 2 i (e := (str1 T)) (by rw [List.getElem?_map, Th]; rfl) ?_
     intro gb103_14 _ hv103_14
     refine MF (v := str T) (fun W hS => run_at rfl rfl (row_cell (hS.row (i := 2) rfl) hv103_14.out (by rw [List.getElem?_map, Th]; rfl) 0 _ (rfl)) (by kernel_rfl)) ?_
     refine MW ?_ (v := .bool false) (hv := fun _ => run_strneB (l := T) (m := T) (b := true) (decide_eq_true rfl) rfl rfl rfl)
     refine MZx fun W hS => ?_
     go_wp2
     go_roundw
     case rel => exact ⟨i + 1, by omega, by go_num, hS⟩
     case measure => simp [intOf]; omega
    ·
     have _f := hlt
     go_upto_region 13 with fail
     refine RL hS ?_
     clear hS
     refine MV ?_
     refine MV ?_
     refine MF (v := .int .i64 ((ss.length + 1 : Nat) : Int)) (fun W hS => run_lenRm (hS.row (i := 0) rfl) (by rw [List.length_map]; exact hul) rfl rfl Tryd.underlying77) ?_
     refine MW ?_ (v := .bool false)
     refine MZ fun W hS => ?_
     go_wp2
     exact bodyPost_ret (v := .bool true) (by simp only [results, Tryd.results8]; go_simp) rfl ⟨rfl, hS.ext⟩
  ·
   skip
   refine MN (z := arrK .u8 32 (byt 0)) (t := 22) ?_
   intro p13_15
   refine TNp [1, 2, 3, 4, 5, 6, 7, 8] [0, 1, 2, 3, 4, 5, 6, 7] ?_
   refine TE (fun _ h => h.pick [1, 2, 3, 4, 5, 6, 7, 8]) ?_
   refine MC (v := .tuple #[.agg (arrK .u8 32 (byt c0)), .bool c1, .int .i64 (c2 : Int)]) (fun W hS => (by have h_ := rCheck_c hr (R := U1) (k := k) (th := th) (x := x) (by rw [HU1.out]; exact hs_lt4 _) hk ha (by omega) W (GT_ext hG hS.ext) (hS.row (i := 5) rfl).rr; rw [hc] at h_; exact h_)) ?_
   refine TNp [1, 2, 3, 4, 5, 6, 7, 8] [0, 1, 2, 3, 4, 5, 6, 7] ?_
   refine TV ?_
   refine TV ?_
   refine TW ?_ (v := .bool c1)
   refine TV ?_
   refine TE (fun _ h => h.pick [1, 2, 3, 4, 5, 6, 7, 8]) ?_
   refine MR 0 ?_ 
   refine TNp [1, 2, 3, 4, 5, 6, 7, 8] [0, 1, 2, 3, 4, 5, 6, 7] ?_
   refine TW ?_ (v := .bool c1)
   refine TV ?_
   refine TZ (fun _ h => h.pick [1, 2, 3, 4, 5, 6, 7, 8]) fun W hS => ?_
   go_upto_region 9 with fail
   refine RL hS ?_
   clear hS
   refine ML 7 ?_
   refine ML 3 ?_ (hs := by rw [pf_size]; kernel_rfl)
   refine ME (V := fun p : Value × List Value => p.1) (fun W hS => ncallL hS (texts_c (k := k) (by omega) W (GT_ext hG hS.ext) (hS.row (i := 4) rfl).rr) (fun _ => rfl)) ?_
   rintro ⟨lv, us⟩
   dsimp only
   refine MV ?_
   refine MZ fun W hS => ?_
   have hul : us.length = ss.length + 1 := by have h_ := (hS.pp (i := 1) rfl).1; rw [tA_len] at h_; exact h_
   go_upto_region 10 with fail
   refine RS hS ?_
   clear hS
   refine MC (v := .bool true) (fun W hS => proofs_c W (GT_ext hG hS.ext)) ?_
   refine MW ?_ (v := .bool false)
   refine MW ?_ (v := .bool false)
   refine ML 3 ?_
   refine ML 2 ?_
   refine MW ?_ (v := .bool false) (hv := fun _ => run_neqA ((fun w => eqS32 rfl w) _) (by kernel_rfl) rfl rfl rfl)
   refine MW ?_ (v := .bool false)
   refine MW ?_ (v := .bool false)
   refine MW ?_ (v := .bool c1)
   refine MW ?_ (v := .bool c1)
   refine MW ?_ (v := .bool false) (hv := by intro W; first | (go_simp; done) | (go_simp; with_reducible rfl) | (go_simp; omega))
   refine MW ?_ (v := .bool false)
   refine MW ?_ (v := .bool false)
   refine MV ?_
   refine MV ?_
   refine MW ?_ (v := .bool false) (hv := by intro W; first | (go_simp; done) | (go_simp; with_reducible rfl) | (go_simp; omega))
   refine MW ?_ (v := .bool false)
   refine MW ?_ (v := .bool false)
   refine MV ?_
   refine MF (v := .int .i64 ((ss.length + 1 : Nat) : Int)) (fun W hS => run_lenRm (hS.row (i := 0) rfl) (by rw [List.length_map]; exact hul) rfl rfl Tryd.underlying77) ?_
   refine MV ?_
   refine MF (v := .int .i64 ((ss.length + 1 : Nat) : Int)) (fun W hS => run_lenRm (hS.row (i := 4) rfl) (by rw [List.length_map, tA_len]) rfl rfl Tryd.underlying61) ?_
   refine MW ?_ (v := .bool false) (hv := by intro W; first | (go_simp; done) | (go_simp; with_reducible rfl) | (go_simp; omega))
   refine MW ?_ (v := .bool false)
   refine MW ?_ (v := .bool false)
   refine ML 5 ?_ (hs := by rw [pf_size]; kernel_rfl)
   refine MC (v := .agg (pfc (.slice A_8 ss.length c_8) th a x)) (fun W hS => pfrom_c th a x W) ?_
   refine ML 8 ?_ (hs := by rw [pf_size]; kernel_rfl)
   refine MC (v := .bool true) (fun W hS => psame_c (by omega) (fun _ => ⟨rfl, rfl⟩) ha hx W (hS.row (i := 6) rfl).rr (hS.row (i := 7) rfl).rr) ?_
   refine MW ?_ (v := .bool false)
   refine MW ?_ (v := .bool false)
   refine MZx fun W hS => ?_
   go_wp2_with fail
   go_loopw [17] (fun ii wr => ∃ (i : Nat), (i ≤ ss.length + 1) ∧ (ii = .int .i64 (i : Int)) ∧ SH [] w wr [.r 33 1 lv (List.map one1 us), .p (txF us (tA k ss 0 (tE th a x))) (fun W => TXS W us (tA k ss 0 (tE th a x))), .r 9 1 rv (List.map str1 (tA k ss 0 (tE th a x)))])
    (fun ii _ => ss.length + 1 - (intOf ii).toNat)
   case atStart => exact ⟨0, Nat.zero_le _, rfl, (hS.pick [0, 1, 4])⟩
   clear hS
   case round =>
    obtain ⟨i, hi, rfl, hS⟩ := hrel
    by_cases hlt : i < ss.length + 1
    ·
     have _f := hlt
     obtain ⟨T, Th⟩ := tA_get (k := k) (e := tE th a x) hlt
     obtain ⟨u, uh, _⟩ := txs_lt (hS.pp (i := 1) rfl) Th
     go_upto_region 13 with fail
     refine RL hS ?_
     clear hS
     refine MV ?_
     refine MV ?_
     refine MF (v := .int .i64 ((ss.length + 1 : Nat) : Int)) (fun W hS => run_lenRm (hS.row (i := 0) rfl) (by rw [List.length_map]; exact hul) rfl rfl Tryd.underlying77) ?_
     refine MW ?_ (v := .bool true)
     refine MZ fun W hS => ?_
     go_upto_region 15 with fail
     refine RS hS ?_
     clear hS
     refine MV ?_
     refine MV ?_
     refine MI 0 i (e := (one1 u)) (by rw [List.getElem?_map, uh]; rfl) ?_
     intro gb98_16 _ hv98_16
     refine MF (v := u) (fun W hS => run_at rfl rfl (row_cell (hS.row (i := 0) rfl) hv98_16.out (by rw [List.getElem?_map, uh]; rfl) 0 _ (rfl)) (by kernel_rfl)) ?_
     refine MF (v := str T) (fun W hS => run_cvs ((hS.pp (i := 1) rfl).2 _ u _ uh Th) rfl rfl) ?_
     refine MV ?_
     refine MV ?_
     refine MI 2 i (e := (str1 T)) (by rw [List.getElem?_map, Th]; rfl) ?_
     intro gb103_17 _ hv103_17
     refine MF (v := str T) (fun W hS => run_at rfl rfl (row_cell (hS.row (i := 2) rfl) hv103_17.out (by rw [List.getElem?_map, Th]; rfl) 0 _ (rfl)) (by kernel_rfl)) ?_
     refine MW ?_ (v := .bool false) (hv := fun _ => run_strneB (l := T) (m := T) (b := true) (decide_eq_true rfl) rfl rfl rfl)
     refine MZx fun W hS => ?_
     go_wp2
     go_roundw
     case rel => exact ⟨i + 1, by omega, by go_num, hS⟩
     case measure => simp [intOf]; omega
    ·
     have _f := hlt
     go_upto_region 13 with fail
     refine RL hS ?_
     clear hS
     refine MV ?_
     refine MV ?_
     refine MF (v := .int .i64 ((ss.length + 1 : Nat) : Int)) (fun W hS => run_lenRm (hS.row (i := 0) rfl) (by rw [List.length_map]; exact hul) rfl rfl Tryd.underlying77) ?_
     refine MW ?_ (v := .bool false)
     refine MZ fun W hS => ?_
     go_wp2
     exact bodyPost_ret (v := .bool true) (by simp only [results, Tryd.results8]; go_simp) rfl ⟨rfl, hS.ext⟩
 ·
  have _f := hpar
  go_upto_region 5 with fail
  refine RL hS ?_
  clear hS
  refine MW ?_ (v := .pointer (some ⟨p3_1, 0 + 0, none⟩)) (hv := fun _ => run_ixarr (m := 32) (by decide) (by decide) Tryd.underlying22 (by kernel_rfl) rfl rfl rfl)
  refine MG 6 ?_ (j := 0 + 0) (v := .int .u8 ((byt R) 0)) (hj := by rw [Nat.zero_add]; exact arrK_get _ _ _ _ (by decide))
  refine MW ?_ (v := .int .u8 (byt R 0 % 2)) (hv := by intro W; have h_ := byt_ok R 0; go_simp; (try rw [Int.tmod_eq_emod_of_nonneg h_.1]); (try omega))
  refine MW ?_ (v := .bool false) (hv := by intro W; first | (go_simp; done) | (go_simp; with_reducible rfl) | (go_simp; omega))
  refine MZ fun W hS => ?_
  obtain ⟨c0, c1, c2, hc⟩ : ∃ u v n, chk R k ss th a x = (u, v, n) := ⟨_, _, _, rfl⟩
  go_upto_region 7 with fail
  refine RL hS ?_
  clear hS
  refine ML 6 ?_
  refine ML 5 ?_
  refine ML 1 ?_ (hs := by rw [pf_size]; kernel_rfl)
  refine MC (v := .tuple #[.agg (arrK .u8 32 (byt c0)), .bool c1, .int .i64 (c2 : Int)]) (fun W hS => (by have h_ := check_c (R := R) (k := k) (th := th) (x := x) hR hk ha (by omega) W (GT_ext hG hS.ext) (hS.row (i := 2) rfl).rr; rw [hc] at h_; exact h_)) ?_
  refine MV ?_
  refine MV ?_
  refine MW ?_ (v := .bool c1)
  refine MV ?_
  refine MN (z := arrK .u8 32 (byt 0)) (t := 22) ?_
  intro p10_18
  refine MR 0 ?_ 
  refine MW ?_ (v := .bool c1)
  refine MV ?_
  refine MZ fun W hS => ?_
  go_upto_region 8 with fail
  refine RTh (.q 0 (.q 1 (.q 2 (.q 3 (.b 4 (.q 5 (.q 6 (.q 7 (.q 8 (.e 9 (.e 10 (.q 11 (.q 12 .z)))))))) 9 (.e 4 (.q 5 (.q 6 (.q 7 (.q 8 (.e 10 (.q 11 (.q 12 .z))))))))))))) hS ?_
  clear hS
  refine TW ?_ (v := .slice (some ⟨p3_1, 0, none⟩) 32 32)
  refine TF (v := str (lb 32 R)) rfl (fun W hS => run_cvs (sl_part (V := R) (n := 32) (off := 0) (c := 32) (hS.blk (i := 7) rfl) ap0 (by decide) (by decide)) rfl rfl) ?_
  refine TL 6 ?_
  refine TL 5 ?_ (hs := by rw [pf_size]; kernel_rfl)
  refine TB (fun _ h => h) ?_ ?_
  ·
   skip
   refine MC (v := .tuple #[.agg (arrK .u8 32 (byt c0)), .bool c1, .int .i64 (c2 : Int)]) (fun W hS => (by have h_ := rCheck_c hr (R := R) (k := k) (th := th) (x := x) hR hk ha (by omega) W (GT_ext hG hS.ext) (hS.row (i := 4) rfl).rr; rw [hc] at h_; exact h_)) ?_
   refine TNh (fun W hS => hS) ?_
   refine TV ?_
   refine TV ?_
   refine TW ?_ (v := .bool c1)
   refine TV ?_
   refine TE (fun _ h => h) ?_
   refine MN (z := arrK .u8 32 (byt 0)) (t := 22) ?_
   intro p13_19
   refine TNp [1, 2, 3, 4, 5, 6, 7, 8] [0, 1, 2, 3, 4, 5, 6, 7] ?_
   refine TE (fun _ h => h.pick [1, 2, 3, 4, 5, 6, 7, 8]) ?_
   refine MR 0 ?_ 
   refine TNp [1, 2, 3, 4, 5, 6, 7, 8] [0, 1, 2, 3, 4, 5, 6, 7] ?_
   refine TW ?_ (v := .bool c1)
   refine TV ?_
   refine TZ (fun _ h => h.pick [1, 2, 3, 4, 5, 6, 7, 8]) fun W hS => ?_
   go_upto_region 9 with fail
   refine RL hS ?_
   clear hS
   refine ML 7 ?_
   refine ML 3 ?_ (hs := by rw [pf_size]; kernel_rfl)
   refine ME (V := fun p : Value × List Value => p.1) (fun W hS => ncallL hS (texts_c (k := k) (by omega) W (GT_ext hG hS.ext) (hS.row (i := 4) rfl).rr) (fun _ => rfl)) ?_
   rintro ⟨lv, us⟩
   dsimp only
   refine MV ?_
   refine MZ fun W hS => ?_
   have hul : us.length = ss.length + 1 := by have h_ := (hS.pp (i := 1) rfl).1; rw [tA_len] at h_; exact h_
   go_upto_region 10 with fail
   refine RS hS ?_
   clear hS
   refine MC (v := .bool true) (fun W hS => proofs_c W (GT_ext hG hS.ext)) ?_
   refine MW ?_ (v := .bool false)
   refine MW ?_ (v := .bool false)
   refine ML 3 ?_
   refine ML 2 ?_
   refine MW ?_ (v := .bool false) (hv := fun _ => run_neqA ((fun w => eqS32 rfl w) _) (by kernel_rfl) rfl rfl rfl)
   refine MW ?_ (v := .bool false)
   refine MW ?_ (v := .bool false)
   refine MW ?_ (v := .bool c1)
   refine MW ?_ (v := .bool c1)
   refine MW ?_ (v := .bool false) (hv := by intro W; first | (go_simp; done) | (go_simp; with_reducible rfl) | (go_simp; omega))
   refine MW ?_ (v := .bool false)
   refine MW ?_ (v := .bool false)
   refine MV ?_
   refine MV ?_
   refine MW ?_ (v := .bool false) (hv := by intro W; first | (go_simp; done) | (go_simp; with_reducible rfl) | (go_simp; omega))
   refine MW ?_ (v := .bool false)
   refine MW ?_ (v := .bool false)
   refine MV ?_
   refine MF (v := .int .i64 ((ss.length + 1 : Nat) : Int)) (fun W hS => run_lenRm (hS.row (i := 0) rfl) (by rw [List.length_map]; exact hul) rfl rfl Tryd.underlying77) ?_
   refine MV ?_
   refine MF (v := .int .i64 ((ss.length + 1 : Nat) : Int)) (fun W hS => run_lenRm (hS.row (i := 4) rfl) (by rw [List.length_map, tA_len]) rfl rfl Tryd.underlying61) ?_
   refine MW ?_ (v := .bool false) (hv := by intro W; first | (go_simp; done) | (go_simp; with_reducible rfl) | (go_simp; omega))
   refine MW ?_ (v := .bool false)
   refine MW ?_ (v := .bool false)
   refine ML 5 ?_ (hs := by rw [pf_size]; kernel_rfl)
   refine MC (v := .agg (pfc (.slice A_8 ss.length c_8) th a x)) (fun W hS => pfrom_c th a x W) ?_
   refine ML 8 ?_ (hs := by rw [pf_size]; kernel_rfl)
   refine MC (v := .bool true) (fun W hS => psame_c (by omega) (fun _ => ⟨rfl, rfl⟩) ha hx W (hS.row (i := 6) rfl).rr (hS.row (i := 7) rfl).rr) ?_
   refine MW ?_ (v := .bool false)
   refine MW ?_ (v := .bool false)
   refine MZx fun W hS => ?_
   go_wp2_with fail
   go_loopw [17] (fun ii wr => ∃ (i : Nat), (i ≤ ss.length + 1) ∧ (ii = .int .i64 (i : Int)) ∧ SH [] w wr [.r 33 1 lv (List.map one1 us), .p (txF us (tA k ss 0 (tE th a x))) (fun W => TXS W us (tA k ss 0 (tE th a x))), .r 9 1 rv (List.map str1 (tA k ss 0 (tE th a x)))])
    (fun ii _ => ss.length + 1 - (intOf ii).toNat)
   case atStart => exact ⟨0, Nat.zero_le _, rfl, (hS.pick [0, 1, 4])⟩
   clear hS
   case round =>
    obtain ⟨i, hi, rfl, hS⟩ := hrel
    by_cases hlt : i < ss.length + 1
    ·
     have _f := hlt
     obtain ⟨T, Th⟩ := tA_get (k := k) (e := tE th a x) hlt
     obtain ⟨u, uh, _⟩ := txs_lt (hS.pp (i := 1) rfl) Th
     go_upto_region 13 with fail
     refine RL hS ?_
     clear hS
     refine MV ?_
     refine MV ?_
     refine MF (v := .int .i64 ((ss.length + 1 : Nat) : Int)) (fun W hS => run_lenRm (hS.row (i := 0) rfl) (by rw [List.length_map]; exact hul) rfl rfl Tryd.underlying77) ?_
     refine MW ?_ (v := .bool true)
     refine MZ fun W hS => ?_
     go_upto_region 15 with fail
     refine RS hS ?_
     clear hS
     refine MV ?_
     refine MV ?_
     refine MI 0 i (e := (one1 u)) (by rw [List.getElem?_map, uh]; rfl) ?_
     intro gb98_20 _ hv98_20
     refine MF (v := u) (fun W hS => run_at rfl rfl (row_cell (hS.row (i := 0) rfl) hv98_20.out (by rw [List.getElem?_map, uh]; rfl) 0 _ (rfl)) (by kernel_rfl)) ?_
     refine MF (v := str T) (fun W hS => run_cvs ((hS.pp (i := 1) rfl).2 _ u _ uh Th) rfl rfl) ?_
     refine MV ?_
     refine MV ?_
     refine MI 2 i (e := (str1 T)) (by rw [List.getElem?_map, Th]; rfl) ?_
     intro gb103_21 _ hv103_21
     refine MF (v := str T) (fun W hS => run_at rfl rfl (row_cell (hS.row (i := 2) rfl) hv103_21.out (by rw [List.getElem?_map, Th]; rfl) 0 _ (rfl)) (by kernel_rfl)) ?_
     refine MW ?_ (v := .bool false) (hv := fun _ => run_strneB (l := T) (m := T) (b := true) (decide_eq_true rfl) rfl rfl rfl)
     refine MZx fun W hS => ?_
     go_wp2
     go_roundw
     case rel => exact ⟨i + 1, by omega, by go_num, hS⟩
     case measure => simp [intOf]; omega
    ·
     have _f := hlt
     go_upto_region 13 with fail
     refine RL hS ?_
     clear hS
     refine MV ?_
     refine MV ?_
     refine MF (v := .int .i64 ((ss.length + 1 : Nat) : Int)) (fun W hS => run_lenRm (hS.row (i := 0) rfl) (by rw [List.length_map]; exact hul) rfl rfl Tryd.underlying77) ?_
     refine MW ?_ (v := .bool false)
     refine MZ fun W hS => ?_
     go_wp2
     exact bodyPost_ret (v := .bool true) (by simp only [results, Tryd.results8]; go_simp) rfl ⟨rfl, hS.ext⟩
  ·
   skip
   refine MN (z := arrK .u8 32 (byt 0)) (t := 22) ?_
   intro p13_22
   refine TNp [1, 2, 3, 4, 5, 6, 7, 8] [0, 1, 2, 3, 4, 5, 6, 7] ?_
   refine TE (fun _ h => h.pick [1, 2, 3, 4, 5, 6, 7, 8]) ?_
   refine MC (v := .tuple #[.agg (arrK .u8 32 (byt c0)), .bool c1, .int .i64 (c2 : Int)]) (fun W hS => (by have h_ := rCheck_c hr (R := R) (k := k) (th := th) (x := x) hR hk ha (by omega) W (GT_ext hG hS.ext) (hS.row (i := 5) rfl).rr; rw [hc] at h_; exact h_)) ?_
   refine TNp [1, 2, 3, 4, 5, 6, 7, 8] [0, 1, 2, 3, 4, 5, 6, 7] ?_
   refine TV ?_
   refine TV ?_
   refine TW ?_ (v := .bool c1)
   refine TV ?_
   refine TE (fun _ h => h.pick [1, 2, 3, 4, 5, 6, 7, 8]) ?_
   refine MR 0 ?_ 
   refine TNp [1, 2, 3, 4, 5, 6, 7, 8] [0, 1, 2, 3, 4, 5, 6, 7] ?_
   refine TW ?_ (v := .bool c1)
   refine TV ?_
   refine TZ (fun _ h => h.pick [1, 2, 3, 4, 5, 6, 7, 8]) fun W hS => ?_
   go_upto_region 9 with fail
   refine RL hS ?_
   clear hS
   refine ML 7 ?_
   refine ML 3 ?_ (hs := by rw [pf_size]; kernel_rfl)
   refine ME (V := fun p : Value × List Value => p.1) (fun W hS => ncallL hS (texts_c (k := k) (by omega) W (GT_ext hG hS.ext) (hS.row (i := 4) rfl).rr) (fun _ => rfl)) ?_
   rintro ⟨lv, us⟩
   dsimp only
   refine MV ?_
   refine MZ fun W hS => ?_
   have hul : us.length = ss.length + 1 := by have h_ := (hS.pp (i := 1) rfl).1; rw [tA_len] at h_; exact h_
   go_upto_region 10 with fail
   refine RS hS ?_
   clear hS
   refine MC (v := .bool true) (fun W hS => proofs_c W (GT_ext hG hS.ext)) ?_
   refine MW ?_ (v := .bool false)
   refine MW ?_ (v := .bool false)
   refine ML 3 ?_
   refine ML 2 ?_
   refine MW ?_ (v := .bool false) (hv := fun _ => run_neqA ((fun w => eqS32 rfl w) _) (by kernel_rfl) rfl rfl rfl)
   refine MW ?_ (v := .bool false)
   refine MW ?_ (v := .bool false)
   refine MW ?_ (v := .bool c1)
   refine MW ?_ (v := .bool c1)
   refine MW ?_ (v := .bool false) (hv := by intro W; first | (go_simp; done) | (go_simp; with_reducible rfl) | (go_simp; omega))
   refine MW ?_ (v := .bool false)
   refine MW ?_ (v := .bool false)
   refine MV ?_
   refine MV ?_
   refine MW ?_ (v := .bool false) (hv := by intro W; first | (go_simp; done) | (go_simp; with_reducible rfl) | (go_simp; omega))
   refine MW ?_ (v := .bool false)
   refine MW ?_ (v := .bool false)
   refine MV ?_
   refine MF (v := .int .i64 ((ss.length + 1 : Nat) : Int)) (fun W hS => run_lenRm (hS.row (i := 0) rfl) (by rw [List.length_map]; exact hul) rfl rfl Tryd.underlying77) ?_
   refine MV ?_
   refine MF (v := .int .i64 ((ss.length + 1 : Nat) : Int)) (fun W hS => run_lenRm (hS.row (i := 4) rfl) (by rw [List.length_map, tA_len]) rfl rfl Tryd.underlying61) ?_
   refine MW ?_ (v := .bool false) (hv := by intro W; first | (go_simp; done) | (go_simp; with_reducible rfl) | (go_simp; omega))
   refine MW ?_ (v := .bool false)
   refine MW ?_ (v := .bool false)
   refine ML 5 ?_ (hs := by rw [pf_size]; kernel_rfl)
   refine MC (v := .agg (pfc (.slice A_8 ss.length c_8) th a x)) (fun W hS => pfrom_c th a x W) ?_
   refine ML 8 ?_ (hs := by rw [pf_size]; kernel_rfl)
   refine MC (v := .bool true) (fun W hS => psame_c (by omega) (fun _ => ⟨rfl, rfl⟩) ha hx W (hS.row (i := 6) rfl).rr (hS.row (i := 7) rfl).rr) ?_
   refine MW ?_ (v := .bool false)
   refine MW ?_ (v := .bool false)
   refine MZx fun W hS => ?_
   go_wp2_with fail
   go_loopw [17] (fun ii wr => ∃ (i : Nat), (i ≤ ss.length + 1) ∧ (ii = .int .i64 (i : Int)) ∧ SH [] w wr [.r 33 1 lv (List.map one1 us), .p (txF us (tA k ss 0 (tE th a x))) (fun W => TXS W us (tA k ss 0 (tE th a x))), .r 9 1 rv (List.map str1 (tA k ss 0 (tE th a x)))])
    (fun ii _ => ss.length + 1 - (intOf ii).toNat)
   case atStart => exact ⟨0, Nat.zero_le _, rfl, (hS.pick [0, 1, 4])⟩
   clear hS
   case round =>
    obtain ⟨i, hi, rfl, hS⟩ := hrel
    by_cases hlt : i < ss.length + 1
    ·
     have _f := hlt
     obtain ⟨T, Th⟩ := tA_get (k := k) (e := tE th a x) hlt
     obtain ⟨u, uh, _⟩ := txs_lt (hS.pp (i := 1) rfl) Th
     go_upto_region 13 with fail
     refine RL hS ?_
     clear hS
     refine MV ?_
     refine MV ?_
     refine MF (v := .int .i64 ((ss.length + 1 : Nat) : Int)) (fun W hS => run_lenRm (hS.row (i := 0) rfl) (by rw [List.length_map]; exact hul) rfl rfl Tryd.underlying77) ?_
     refine MW ?_ (v := .bool true)
     refine MZ fun W hS => ?_
     go_upto_region 15 with fail
     refine RS hS ?_
     clear hS
     refine MV ?_
     refine MV ?_
     refine MI 0 i (e := (one1 u)) (by rw [List.getElem?_map, uh]; rfl) ?_
     intro gb98_23 _ hv98_23
     refine MF (v := u) (fun W hS => run_at rfl rfl (row_cell (hS.row (i := 0) rfl) hv98_23.out (by rw [List.getElem?_map, uh]; rfl) 0 _ (rfl)) (by kernel_rfl)) ?_
     refine MF (v := str T) (fun W hS => run_cvs ((hS.pp (i := 1) rfl).2 _ u _ uh Th) rfl rfl) ?_
     refine MV ?_
     refine MV ?_
     refine MI 2 i (e := (str1 T)) (by rw [List.getElem?_map, Th]; rfl) ?_
     intro gb103_24 _ hv103_24
     refine MF (v := str T) (fun W hS => run_at rfl rfl (row_cell (hS.row (i := 2) rfl) hv103_24.out (by rw [List.getElem?_map, Th]; rfl) 0 _ (rfl)) (by kernel_rfl)) ?_
     refine MW ?_ (v := .bool false) (hv := fun _ => run_strneB (l := T) (m := T) (b := true) (decide_eq_true rfl) rfl rfl rfl)
     refine MZx fun W hS => ?_
     go_wp2
     go_roundw
     case rel => exact ⟨i + 1, by omega, by go_num, hS⟩
     case measure => simp [intOf]; omega
    ·
     have _f := hlt
     go_upto_region 13 with fail
     refine RL hS ?_
     clear hS
     refine MV ?_
     refine MV ?_
     refine MF (v := .int .i64 ((ss.length + 1 : Nat) : Int)) (fun W hS => run_lenRm (hS.row (i := 0) rfl) (by rw [List.length_map]; exact hul) rfl rfl Tryd.underlying77) ?_
     refine MW ?_ (v := .bool false)
     refine MZ fun W hS => ?_
     go_wp2
     exact bodyPost_ret (v := .bool true) (by simp only [results, Tryd.results8]; go_simp) rfl ⟨rfl, hS.ext⟩
end Go.Proofs.YtndnlbinnhdmbaaDoor
