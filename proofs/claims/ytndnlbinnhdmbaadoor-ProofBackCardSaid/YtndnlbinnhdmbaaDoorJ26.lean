/- Proofs: the document's Same, Clash; the law's proofs. Conditions: the tables hold their numbers; keys and values have 256 bits. ProofBack. Conditions: the tables hold their numbers; keys and values have 256 bits. -/
import Derived.Test.YtndnlbinnhdmbaaDoorJ25
set_option linter.unusedSimpArgs false
set_option linter.unusedVariables false
namespace Go.Proofs.YtndnlbinnhdmbaaDoor
set_option maxHeartbeats 3000000
set_option maxRecDepth 100000
open Go.RowKit
attribute [local irreducible] wpList wpTr wpX
set_option linter.unusedSimpArgs false
attribute [local irreducible] hs4 sE sL sN lb
theorem chk_e {U : Nat} (h : U = sE) : chk U 5 [] false 0 0 = (0, false, 0) := by
 subst h
 unfold chk
 rw [if_neg (by simp), if_pos (show hs4 (tT 5 [] 0 (tE false 0 0)) = sE by unfold sE; rfl), if_neg (by simp)]
theorem chk_z : chk 0 5 [] false 0 0 = (0, false, 17) := by
 unfold chk
 rw [if_neg (by simp), if_neg (show ¬ hs4 (tT 5 [] 0 (tE false 0 0)) = 0 from two_ne)]

theorem proofs_c {q : Prop} (w : World) (hG : GT q w) :
  Calls Tryd.prog 44 #[] w fun e w' => Ret (.bool true) w w' e := by
 have hS := SH.nil [] w
 go_enter Tryd.func44, Tryd.ntmps44
 go_upto_region 2 with fail
 refine RL hS ?_
 clear hS
 refine MV ?_
 refine MW ?_ (v := .agg (arrK .u8 32 (byt 5))) (hv := by intro W; kernel_rfl)
 refine ME (V := fun v => .agg (pfc v false 0 0)) (fun W hS => pcall hS (prove_c (T := .nil) (k := 5) (Nat.zero_le _) W (GT_ext hG hS.ext) rfl) rfl) ?_
 intro pv_1
 refine MFact (fun W hS => Row.form (ls := []) (f := b32l) (hS.row (i := 0) rfl)) ?_
 rintro ⟨A_2, c_2, rfl⟩
 refine MN (z := pfc (.slice none 0 0) false 0 0) (t := 69) ?_
 intro p2_3
 refine MR 0 ?_ (hz := by rw [pf_size]; kernel_rfl) (hs := by first | rw [pf_size, pf_size] | rw [pf_size] | kernel_rfl) (h1 := (pf_one rfl))
 refine MZ fun W hS => ?_
 go_upto_region 3 with fail
 refine RTh (.q 1 (.q 2 (.b 0 (.b 3 (.q 4 (.q 5 (.q 6 (.q 7 (.e 8 (.e 9 (.q 10 (.q 11 .z)))))))) 8 (.e 3 (.q 4 (.q 5 (.q 6 (.q 7 (.e 9 (.q 10 (.q 11 .z))))))))) 8 (.e 0 (.e 3 (.q 4 (.q 5 (.q 6 (.q 7 (.e 9 (.q 10 (.q 11 .z)))))))))))) hS ?_
 clear hS
 refine TW ?_ (v := .agg (arrK .u8 32 (byt 5))) (hv := by intro W; kernel_rfl)
 refine TL 0 ?_ (hs := by rw [pf_size]; kernel_rfl)
 refine TB (fun _ h => h) ?_ ?_
 ·
  skip
  obtain ⟨U1, hU1⟩ := exn (sE)
  have HU1 := Lib.hid hU1
  clear hU1
  refine MC (v := .agg (arrK .u8 32 (byt U1))) (fun W hS => (by rw [HU1.out]; exact empty_c W (GT_ext hG hS.ext))) ?_
  refine TNh (fun W hS => hS) ?_
  refine TB (fun _ h => h) ?_ ?_
  ·
   skip
   refine MC (v := .tuple #[.agg (arrK .u8 32 (byt 0)), .bool false, .int .i64 0]) (fun W hS => (by have h_ := check_c (R := U1) (k := 5) (a := 0) (x := 0) (th := false) (ss := []) (by rw [HU1.out]; unfold sE; exact hs_lt4 _) (by decide) (by decide) (Nat.zero_le _) W (GT_ext hG hS.ext) (hS.row (i := 1) rfl).rr; rw [chk_e HU1.out] at h_; exact h_)) ?_
   refine TNh (fun W hS => hS) ?_
   refine TV ?_
   refine TV ?_
   refine TW ?_ (v := .bool false)
   refine TW ?_ (v := .int .i64 0)
   refine TE (fun _ h => h) ?_
   refine MN (z := arrK .u8 32 (byt 0)) (t := 22) ?_
   intro p3_4
   refine TNp [1, 2] [0, 1] ?_
   refine TE (fun _ h => h.pick [1, 2]) ?_
   refine MR 0 ?_ 
   refine TNp [1, 2] [0, 1] ?_
   refine TW ?_ (v := .bool false)
   refine TW ?_ (v := .int .i64 0)
   refine TZ (fun _ h => h.pick [1, 2]) fun W hS => ?_
   go_upto_region 4 with fail
   refine RL hS ?_
   clear hS
   refine MW ?_ (v := .agg (arrK .u8 32 (byt 0))) (hv := by intro W; kernel_rfl)
   refine MW ?_ (v := .agg (arrK .u8 32 (byt 5))) (hv := by intro W; kernel_rfl)
   refine ML 1 ?_ (hs := by rw [pf_size]; kernel_rfl)
   refine MC (v := .tuple #[.agg (arrK .u8 32 (byt 0)), .bool false, .int .i64 17]) (fun W hS => (by have h_ := check_c (R := 0) (k := 5) (a := 0) (x := 0) (th := false) (ss := []) (by decide) (by decide) (by decide) (Nat.zero_le _) W (GT_ext hG hS.ext) (hS.row (i := 2) rfl).rr; rw [chk_z] at h_; exact h_)) ?_
   refine MV ?_
   refine MV ?_
   refine MW ?_ (v := .bool false)
   refine MW ?_ (v := .int .i64 17)
   refine MN (z := arrK .u8 32 (byt 0)) (t := 22) ?_
   intro p6_5
   refine MR 0 ?_ 
   refine MW ?_ (v := .bool false)
   refine MW ?_ (v := .int .i64 17)
   refine MZ fun W hS => ?_
   go_wp2
   exact bodyPost_ret (v := .bool true) (by simp only [results, Tryd.results44]; go_simp) rfl ⟨rfl, hS.ext⟩
  ·
   skip
   refine MN (z := arrK .u8 32 (byt 0)) (t := 22) ?_
   intro p3_6
   refine TNp [1, 2] [0, 1] ?_
   refine TE (fun _ h => h.pick [1, 2]) ?_
   refine MC (v := .tuple #[.agg (arrK .u8 32 (byt 0)), .bool false, .int .i64 0]) (fun W hS => (by have h_ := check_c (R := U1) (k := 5) (a := 0) (x := 0) (th := false) (ss := []) (by rw [HU1.out]; unfold sE; exact hs_lt4 _) (by decide) (by decide) (Nat.zero_le _) W (GT_ext hG hS.ext) (hS.row (i := 2) rfl).rr; rw [chk_e HU1.out] at h_; exact h_)) ?_
   refine TNp [1, 2] [0, 1] ?_
   refine TV ?_
   refine TV ?_
   refine TW ?_ (v := .bool false)
   refine TW ?_ (v := .int .i64 0)
   refine TE (fun _ h => h.pick [1, 2]) ?_
   refine MR 0 ?_ 
   refine TNp [1, 2] [0, 1] ?_
   refine TW ?_ (v := .bool false)
   refine TW ?_ (v := .int .i64 0)
   refine TZ (fun _ h => h.pick [1, 2]) fun W hS => ?_
   go_upto_region 4 with fail
   refine RL hS ?_
   clear hS
   refine MW ?_ (v := .agg (arrK .u8 32 (byt 0))) (hv := by intro W; kernel_rfl)
   refine MW ?_ (v := .agg (arrK .u8 32 (byt 5))) (hv := by intro W; kernel_rfl)
   refine ML 1 ?_ (hs := by rw [pf_size]; kernel_rfl)
   refine MC (v := .tuple #[.agg (arrK .u8 32 (byt 0)), .bool false, .int .i64 17]) (fun W hS => (by have h_ := check_c (R := 0) (k := 5) (a := 0) (x := 0) (th := false) (ss := []) (by decide) (by decide) (by decide) (Nat.zero_le _) W (GT_ext hG hS.ext) (hS.row (i := 2) rfl).rr; rw [chk_z] at h_; exact h_)) ?_
   refine MV ?_
   refine MV ?_
   refine MW ?_ (v := .bool false)
   refine MW ?_ (v := .int .i64 17)
   refine MN (z := arrK .u8 32 (byt 0)) (t := 22) ?_
   intro p6_7
   refine MR 0 ?_ 
   refine MW ?_ (v := .bool false)
   refine MW ?_ (v := .int .i64 17)
   refine MZ fun W hS => ?_
   go_wp2
   exact bodyPost_ret (v := .bool true) (by simp only [results, Tryd.results44]; go_simp) rfl ⟨rfl, hS.ext⟩
 ·
  skip
  refine MN (z := arrK .u8 32 (byt 0)) (t := 22) ?_
  intro p3_8
  refine TNp [1, 2] [0, 1] ?_
  refine TE (fun _ h => h.pick [1, 2]) ?_
  obtain ⟨U1, hU1⟩ := exn (sE)
  have HU1 := Lib.hid hU1
  clear hU1
  refine MC (v := .agg (arrK .u8 32 (byt U1))) (fun W hS => (by rw [HU1.out]; exact empty_c W (GT_ext hG hS.ext))) ?_
  refine TNp [1, 2] [0, 1] ?_
  refine TE (fun _ h => h.pick [1, 2]) ?_
  refine MC (v := .tuple #[.agg (arrK .u8 32 (byt 0)), .bool false, .int .i64 0]) (fun W hS => (by have h_ := check_c (R := U1) (k := 5) (a := 0) (x := 0) (th := false) (ss := []) (by rw [HU1.out]; unfold sE; exact hs_lt4 _) (by decide) (by decide) (Nat.zero_le _) W (GT_ext hG hS.ext) (hS.row (i := 2) rfl).rr; rw [chk_e HU1.out] at h_; exact h_)) ?_
  refine TNp [1, 2] [0, 1] ?_
  refine TV ?_
  refine TV ?_
  refine TW ?_ (v := .bool false)
  refine TW ?_ (v := .int .i64 0)
  refine TE (fun _ h => h.pick [1, 2]) ?_
  refine MR 0 ?_ 
  refine TNp [1, 2] [0, 1] ?_
  refine TW ?_ (v := .bool false)
  refine TW ?_ (v := .int .i64 0)
  refine TZ (fun _ h => h.pick [1, 2]) fun W hS => ?_
  go_upto_region 4 with fail
  refine RL hS ?_
  clear hS
  refine MW ?_ (v := .agg (arrK .u8 32 (byt 0))) (hv := by intro W; kernel_rfl)
  refine MW ?_ (v := .agg (arrK .u8 32 (byt 5))) (hv := by intro W; kernel_rfl)
  refine ML 1 ?_ (hs := by rw [pf_size]; kernel_rfl)
  refine MC (v := .tuple #[.agg (arrK .u8 32 (byt 0)), .bool false, .int .i64 17]) (fun W hS => (by have h_ := check_c (R := 0) (k := 5) (a := 0) (x := 0) (th := false) (ss := []) (by decide) (by decide) (by decide) (Nat.zero_le _) W (GT_ext hG hS.ext) (hS.row (i := 2) rfl).rr; rw [chk_z] at h_; exact h_)) ?_
  refine MV ?_
  refine MV ?_
  refine MW ?_ (v := .bool false)
  refine MW ?_ (v := .int .i64 17)
  refine MN (z := arrK .u8 32 (byt 0)) (t := 22) ?_
  intro p6_9
  refine MR 0 ?_ 
  refine MW ?_ (v := .bool false)
  refine MW ?_ (v := .int .i64 17)
  refine MZ fun W hS => ?_
  go_wp2
  exact bodyPost_ret (v := .bool true) (by simp only [results, Tryd.results44]; go_simp) rfl ⟨rfl, hS.ext⟩
end Go.Proofs.YtndnlbinnhdmbaaDoor

set_option linter.unusedSimpArgs false
set_option linter.unusedVariables false
namespace Go.Proofs.YtndnlbinnhdmbaaDoor
set_option maxHeartbeats 3000000
set_option maxRecDepth 100000
open Go.RowKit
attribute [local irreducible] wpList wpTr wpX
set_option linter.unusedSimpArgs false
theorem end_bd {L : List Lf} {k : Nat} (h : ok256 L) : (endR (wayE (ofT L) k 0)).1 < 2 ^ 256 ∧ (endR (wayE (ofT L) k 0)).2.1 < 2 ^ 256 := by
 rcases wayE_or (ofT L) k 0 with e | ⟨a, x, e⟩
 ·
  rw [e]; exact ⟨by decide, by decide⟩
 ·
  have e2 := e
  rw [ofT_can h] at e2
  obtain ⟨h1, h2⟩ := rlist_spec h
  rw [e]
  exact h1 _ (under_can 256 0 rfl h2 (pre_0 _) e2).1
theorem rs_lt (T : TR) : rs T < 2 ^ 256 := by
 cases T with
 | nil => exact hs_lt4 _
 | leaf a x => exact hs_lt4 _
 | node e l r => exact hs_lt4 _
attribute [local irreducible] hs4 sE sL sN lb

theorem proofBack_L {q : Prop} {ls L : List Lf} (hE8 : ls.take 8 = L) (hL : ok256 L) (hLl : L.length ≤ 8) {k : Nat} (hk : k < 2 ^ 256) {u0 : Value} (w : World) (hG : GT q w) (hl : RR 64 w u0 (ls.map lfl)) :
  Calls Tryd.prog 11 #[u0, .agg (arrK .u8 32 (byt k))] w fun e w' => Ret (.bool true) w w' e := by
 have hLm : L.length ≤ 1000 := by omega
 obtain ⟨ss, hss⟩ : ∃ ss, bsd (ofT L) k 0 = ss := ⟨_, rfl⟩
 have hsl : ss.length ≤ 256 := by rw [← hss]; exact bsd_ofT_le hL
 obtain ⟨ea, ex, et, hE⟩ : ∃ a x t, endR (wayE (ofT L) k 0) = (a, x, t) := ⟨_, _, _, rfl⟩
 obtain ⟨hea, hex⟩ : ea < 2 ^ 256 ∧ ex < 2 ^ 256 := by have h_ := end_bd (k := k) hL; rw [hE] at h_; exact h_
 obtain ⟨gv, gb, gn, hgR⟩ : ∃ v b n, getR (wayE (ofT L) k 0) (wayN (ofT L) k 0).length k = (v, b, n) := ⟨_, _, _, rfl⟩
 have hchk : chk (rs (ofT L)) k ss et ea ex = (gv, gb, 0) := by have h_ := chk_back (k := k) hL; rw [hE, hss, hgR] at h_; exact h_
 have hS := SH.nil [] w
 go_enter Tryd.func11, Tryd.ntmps11
 go_upto_region 0 with fail
 refine RL hS ?_
 clear hS
 refine MN (z := arrK .u8 32 (byt k)) (t := 28) ?_
 intro p3_1
 refine MW ?_ (v := .bool false)
 refine MZ fun W hS => ?_
 go_upto_region 1 with fail
 refine RL hS ?_
 clear hS
 refine MV ?_
 refine ME (fun W hS => rcall (ls := L) hS ((by rw [← hE8]; exact leaves8_c W (hl.ext hS.ext))) rfl) ?_
 intro u_fw2
 refine ME (fun W hS => tcall (T := (ofT L)) hS (of_r hL hLm W (GT_ext hG hS.ext) (hS.row (i := 0) rfl).rr) rfl) ?_
 intro u_tof3
 refine MV ?_
 refine MZ fun W hS => ?_
 go_upto_region 2 with fail
 refine RL hS ?_
 clear hS
 refine MV ?_
 refine ML 2 ?_
 refine ME (V := fun v => .agg (pfc v et ea ex)) (fun W hS => pcall hS ((by have h_ := prove_c (k := k) (of_tsz1 hLm) W (GT_ext hG hS.ext) (hS.tt (i := 0) rfl); rw [hE, hss] at h_; exact h_)) rfl) ?_
 intro pv_4
 refine MFact (fun W hS => Row.form (ls := ss) (f := b32l) (hS.row (i := 0) rfl)) ?_
 rintro ⟨A_5, c_5, rfl⟩
 refine MN (z := pfc (.slice none 0 0) false 0 0) (t := 69) ?_
 intro p6_6
 refine MR 0 ?_ (hz := by rw [pf_size]; kernel_rfl) (hs := by first | rw [pf_size, pf_size] | rw [pf_size] | kernel_rfl) (h1 := (pf_one rfl))
 refine MZ fun W hS => ?_
 go_upto_region 3 with fail
 refine RTh (.q 0 (.q 2 (.q 3 (.b 1 (.b 4 (.q 5 (.q 6 (.q 7 (.q 8 (.e 9 (.e 10 (.q 11 (.q 12 .z)))))))) 9 (.e 4 (.q 5 (.q 6 (.q 7 (.q 8 (.e 10 (.q 11 (.q 12 .z))))))))) 9 (.e 1 (.e 4 (.q 5 (.q 6 (.q 7 (.q 8 (.e 10 (.q 11 (.q 12 .z))))))))))))) hS ?_
 clear hS
 refine TV ?_
 refine TL 4 ?_
 refine TL 0 ?_ (hs := by rw [pf_size]; kernel_rfl)
 refine TB (fun _ h => h) ?_ ?_
 ·
  skip
  obtain ⟨U1, hU1⟩ := exn (rs (ofT L))
  have HU1 := Lib.hid hU1
  clear hU1
  refine MC (v := .agg (arrK .u8 32 (byt U1))) (fun W hS => (by rw [HU1.out]; exact root_c W (GT_ext hG hS.ext) (hS.tt (i := 2) rfl))) ?_
  refine TNh (fun W hS => hS) ?_
  refine TB (fun _ h => h) ?_ ?_
  ·
   skip
   refine MC (v := .tuple #[.agg (arrK .u8 32 (byt gv)), .bool gb, .int .i64 0]) (fun W hS => (by have h_ := check_c (R := U1) (k := k) (th := et) (x := ex) (by rw [HU1.out]; exact rs_lt _) hk hea (by omega) W (GT_ext hG hS.ext) (hS.row (i := 1) rfl).rr; rw [show chk U1 k ss et ea ex = (gv, gb, 0) from by rw [HU1.out]; exact hchk] at h_; exact h_)) ?_
   refine TNh (fun W hS => hS) ?_
   refine TV ?_
   refine TV ?_
   refine TW ?_ (v := .bool gb)
   refine TW ?_ (v := .int .i64 0)
   refine TE (fun _ h => h) ?_
   refine MN (z := arrK .u8 32 (byt 0)) (t := 22) ?_
   intro p7_7
   refine TNp [1, 2, 3, 4, 5] [0, 1, 2, 3, 4] ?_
   refine TE (fun _ h => h.pick [1, 2, 3, 4, 5]) ?_
   refine MR 0 ?_ 
   refine TNp [1, 2, 3, 4, 5] [0, 1, 2, 3, 4] ?_
   refine TW ?_ (v := .bool gb)
   refine TW ?_ (v := .int .i64 0)
   refine TZ (fun _ h => h.pick [1, 2, 3, 4, 5]) fun W hS => ?_
   go_upto_region 4 with fail
   refine RL hS ?_
   clear hS
   refine MV ?_
   refine ML 5 ?_
   refine MC (v := .tuple #[.agg (arrK .u8 32 (byt gv)), .bool gb, .int .i64 (gn : Int)]) (fun W hS => (by have h_ := get_c (k := k) hk (of_tsz1 hLm) W (hS.tt (i := 3) rfl); rw [hgR] at h_; exact h_)) ?_
   refine MV ?_
   refine MV ?_
   refine MW ?_ (v := .bool gb)
   refine MV ?_
   refine MN (z := arrK .u8 32 (byt 0)) (t := 22) ?_
   intro p10_8
   refine MR 0 ?_ 
   refine MW ?_ (v := .bool gb)
   refine MV ?_
   refine MZ fun W hS => ?_
   go_upto_region 5 with fail
   refine RL hS ?_
   clear hS
   refine MC (v := .bool true) (fun W hS => proofs_c W (GT_ext hG hS.ext)) ?_
   refine MW ?_ (v := .bool true)
   refine MW ?_ (v := .int .i64 0)
   refine MW ?_ (v := .bool true)
   refine MW ?_ (v := .bool true)
   refine MW ?_ (v := .bool true)
   refine MW ?_ (v := .bool gb)
   refine MW ?_ (v := .bool gb)
   refine MW ?_ (v := .bool true) (hv := by intro W; first | (go_simp; done) | (go_simp; with_reducible rfl) | (go_simp; omega))
   refine MW ?_ (v := .bool true)
   refine MW ?_ (v := .bool true)
   refine ML 1 ?_
   refine ML 0 ?_
   refine MW ?_ (v := .bool true) (hv := fun _ => run_eqlA ((fun w => eqS32 rfl w) _) (by kernel_rfl) rfl rfl rfl)
   refine MW ?_ (v := .bool true)
   refine MW ?_ (v := .bool true)
   refine MZ fun W hS => ?_
   go_wp2
   exact bodyPost_ret (v := .bool true) (by simp only [results, Tryd.results11]; go_simp) rfl ⟨rfl, hS.ext⟩
  ·
   skip
   refine MN (z := arrK .u8 32 (byt 0)) (t := 22) ?_
   intro p7_9
   refine TNp [1, 2, 3, 4, 5] [0, 1, 2, 3, 4] ?_
   refine TE (fun _ h => h.pick [1, 2, 3, 4, 5]) ?_
   refine MC (v := .tuple #[.agg (arrK .u8 32 (byt gv)), .bool gb, .int .i64 0]) (fun W hS => (by have h_ := check_c (R := U1) (k := k) (th := et) (x := ex) (by rw [HU1.out]; exact rs_lt _) hk hea (by omega) W (GT_ext hG hS.ext) (hS.row (i := 2) rfl).rr; rw [show chk U1 k ss et ea ex = (gv, gb, 0) from by rw [HU1.out]; exact hchk] at h_; exact h_)) ?_
   refine TNp [1, 2, 3, 4, 5] [0, 1, 2, 3, 4] ?_
   refine TV ?_
   refine TV ?_
   refine TW ?_ (v := .bool gb)
   refine TW ?_ (v := .int .i64 0)
   refine TE (fun _ h => h.pick [1, 2, 3, 4, 5]) ?_
   refine MR 0 ?_ 
   refine TNp [1, 2, 3, 4, 5] [0, 1, 2, 3, 4] ?_
   refine TW ?_ (v := .bool gb)
   refine TW ?_ (v := .int .i64 0)
   refine TZ (fun _ h => h.pick [1, 2, 3, 4, 5]) fun W hS => ?_
   go_upto_region 4 with fail
   refine RL hS ?_
   clear hS
   refine MV ?_
   refine ML 5 ?_
   refine MC (v := .tuple #[.agg (arrK .u8 32 (byt gv)), .bool gb, .int .i64 (gn : Int)]) (fun W hS => (by have h_ := get_c (k := k) hk (of_tsz1 hLm) W (hS.tt (i := 3) rfl); rw [hgR] at h_; exact h_)) ?_
   refine MV ?_
   refine MV ?_
   refine MW ?_ (v := .bool gb)
   refine MV ?_
   refine MN (z := arrK .u8 32 (byt 0)) (t := 22) ?_
   intro p10_10
   refine MR 0 ?_ 
   refine MW ?_ (v := .bool gb)
   refine MV ?_
   refine MZ fun W hS => ?_
   go_upto_region 5 with fail
   refine RL hS ?_
   clear hS
   refine MC (v := .bool true) (fun W hS => proofs_c W (GT_ext hG hS.ext)) ?_
   refine MW ?_ (v := .bool true)
   refine MW ?_ (v := .int .i64 0)
   refine MW ?_ (v := .bool true)
   refine MW ?_ (v := .bool true)
   refine MW ?_ (v := .bool true)
   refine MW ?_ (v := .bool gb)
   refine MW ?_ (v := .bool gb)
   refine MW ?_ (v := .bool true) (hv := by intro W; first | (go_simp; done) | (go_simp; with_reducible rfl) | (go_simp; omega))
   refine MW ?_ (v := .bool true)
   refine MW ?_ (v := .bool true)
   refine ML 1 ?_
   refine ML 0 ?_
   refine MW ?_ (v := .bool true) (hv := fun _ => run_eqlA ((fun w => eqS32 rfl w) _) (by kernel_rfl) rfl rfl rfl)
   refine MW ?_ (v := .bool true)
   refine MW ?_ (v := .bool true)
   refine MZ fun W hS => ?_
   go_wp2
   exact bodyPost_ret (v := .bool true) (by simp only [results, Tryd.results11]; go_simp) rfl ⟨rfl, hS.ext⟩
 ·
  skip
  refine MN (z := arrK .u8 32 (byt 0)) (t := 22) ?_
  intro p7_11
  refine TNp [1, 2, 3, 4, 5] [0, 1, 2, 3, 4] ?_
  refine TE (fun _ h => h.pick [1, 2, 3, 4, 5]) ?_
  obtain ⟨U1, hU1⟩ := exn (rs (ofT L))
  have HU1 := Lib.hid hU1
  clear hU1
  refine MC (v := .agg (arrK .u8 32 (byt U1))) (fun W hS => (by rw [HU1.out]; exact root_c W (GT_ext hG hS.ext) (hS.tt (i := 3) rfl))) ?_
  refine TNp [1, 2, 3, 4, 5] [0, 1, 2, 3, 4] ?_
  refine TE (fun _ h => h.pick [1, 2, 3, 4, 5]) ?_
  refine MC (v := .tuple #[.agg (arrK .u8 32 (byt gv)), .bool gb, .int .i64 0]) (fun W hS => (by have h_ := check_c (R := U1) (k := k) (th := et) (x := ex) (by rw [HU1.out]; exact rs_lt _) hk hea (by omega) W (GT_ext hG hS.ext) (hS.row (i := 2) rfl).rr; rw [show chk U1 k ss et ea ex = (gv, gb, 0) from by rw [HU1.out]; exact hchk] at h_; exact h_)) ?_
  refine TNp [1, 2, 3, 4, 5] [0, 1, 2, 3, 4] ?_
  refine TV ?_
  refine TV ?_
  refine TW ?_ (v := .bool gb)
  refine TW ?_ (v := .int .i64 0)
  refine TE (fun _ h => h.pick [1, 2, 3, 4, 5]) ?_
  refine MR 0 ?_ 
  refine TNp [1, 2, 3, 4, 5] [0, 1, 2, 3, 4] ?_
  refine TW ?_ (v := .bool gb)
  refine TW ?_ (v := .int .i64 0)
  refine TZ (fun _ h => h.pick [1, 2, 3, 4, 5]) fun W hS => ?_
  go_upto_region 4 with fail
  refine RL hS ?_
  clear hS
  refine MV ?_
  refine ML 5 ?_
  refine MC (v := .tuple #[.agg (arrK .u8 32 (byt gv)), .bool gb, .int .i64 (gn : Int)]) (fun W hS => (by have h_ := get_c (k := k) hk (of_tsz1 hLm) W (hS.tt (i := 3) rfl); rw [hgR] at h_; exact h_)) ?_
  refine MV ?_
  refine MV ?_
  refine MW ?_ (v := .bool gb)
  refine MV ?_
  refine MN (z := arrK .u8 32 (byt 0)) (t := 22) ?_
  intro p10_12
  refine MR 0 ?_ 
  refine MW ?_ (v := .bool gb)
  refine MV ?_
  refine MZ fun W hS => ?_
  go_upto_region 5 with fail
  refine RL hS ?_
  clear hS
  refine MC (v := .bool true) (fun W hS => proofs_c W (GT_ext hG hS.ext)) ?_
  refine MW ?_ (v := .bool true)
  refine MW ?_ (v := .int .i64 0)
  refine MW ?_ (v := .bool true)
  refine MW ?_ (v := .bool true)
  refine MW ?_ (v := .bool true)
  refine MW ?_ (v := .bool gb)
  refine MW ?_ (v := .bool gb)
  refine MW ?_ (v := .bool true) (hv := by intro W; first | (go_simp; done) | (go_simp; with_reducible rfl) | (go_simp; omega))
  refine MW ?_ (v := .bool true)
  refine MW ?_ (v := .bool true)
  refine ML 1 ?_
  refine ML 0 ?_
  refine MW ?_ (v := .bool true) (hv := fun _ => run_eqlA ((fun w => eqS32 rfl w) _) (by kernel_rfl) rfl rfl rfl)
  refine MW ?_ (v := .bool true)
  refine MW ?_ (v := .bool true)
  refine MZ fun W hS => ?_
  go_wp2
  exact bodyPost_ret (v := .bool true) (by simp only [results, Tryd.results11]; go_simp) rfl ⟨rfl, hS.ext⟩
end Go.Proofs.YtndnlbinnhdmbaaDoor
