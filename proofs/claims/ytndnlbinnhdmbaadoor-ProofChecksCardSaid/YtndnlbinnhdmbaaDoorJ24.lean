/- Proofs: the document's Same, Clash; the law's proofs. Conditions: the tables hold their numbers; keys and values have 256 bits. A text copied over an array; a cell stored in an element of a row. No conditions. ProofBack. Conditions: the tables hold their numbers; keys and values have 256 bits. -/
import Derived.Test.YtndnlbinnhdmbaaDoorJ23
import Derived.Test.YtndnlbinnhdmbaaDoorJ8
import Derived.Laws.CopyRow
set_option linter.unusedSimpArgs false
set_option linter.unusedVariables false
namespace Go.Proofs.YtndnlbinnhdmbaaDoor
set_option maxHeartbeats 3000000
set_option maxRecDepth 100000
open Go.RowKit
attribute [local irreducible] wpList wpTr wpX
set_option linter.unusedSimpArgs false
attribute [local irreducible] hs4 sE sL sN lb
theorem chk_e {U : Nat} (h : U = sE) : chk U 5 [] false 0 0 = (0, false, 0) := by
 subst h
 unfold chk
 rw [if_neg (by simp), if_pos (show hs4 (tT 5 [] 0 (tE false 0 0)) = sE by unfold sE; rfl), if_neg (by simp)]
theorem chk_z : chk 0 5 [] false 0 0 = (0, false, 17) := by
 unfold chk
 rw [if_neg (by simp), if_neg (show ¬ hs4 (tT 5 [] 0 (tE false 0 0)) = 0 from two_ne)]

theorem psame_c {ss : List Nat} {sv tv : Value} {th : Bool} {a x b z : Nat} (hn : ss.length ≤ 1000000) (hend : th = true → a = b ∧ x = z) (ha : a < 2 ^ 256) (hx : x < 2 ^ 256) (w : World) (hp : RR 32 w sv (ss.map b32l)) (hr : RR 32 w tv (ss.map b32l)) :
  Calls Tryd.prog 45 #[.agg (pfc sv th a x), .agg (pfc tv th b z)] w fun e w' => Ret (.bool true) w w' e := by
 obtain ⟨Ap, cp, rfl, hlcp, HRp⟩ := RR.opf hp
 obtain ⟨Ar, cr, rfl, hlcr, HRr⟩ := RR.opf hr
 have hS := SH.nil [] w
 go_enter Tryd.func45, Tryd.ntmps45
 go_upto_region 0 with fail
 refine RL hS ?_
 clear hS
 refine MN (z := pfc (.slice Ap ss.length cp) th a x) (t := 66) ?_
 intro p2_1
 refine MN (z := pfc (.slice Ar ss.length cr) th b z) (t := 66) ?_
 intro p3_2
 refine MW ?_ (v := .bool false)
 refine MZ fun W hS => ?_
 rcases th with _ | _
 ·
  have _f := True.intro
  go_upto_region 1 with fail
  refine RL hS ?_
  clear hS
  refine MV ?_
  refine MG 1 ?_ (v := .slice Ap ss.length cp) (hj := pf_s)
  refine MV ?_
  refine MV ?_
  refine MG 0 ?_ (v := .slice Ar ss.length cr) (hj := pf_s)
  refine MV ?_
  refine MW ?_ (v := .bool false)
  refine MW ?_ (v := .bool false)
  refine MV ?_
  refine MG 1 ?_ (v := .bool false) (hj := pf_t)
  refine MV ?_
  refine MG 0 ?_ (v := .bool false) (hj := pf_t)
  refine MW ?_ (v := .bool false)
  refine MW ?_ (v := .bool false)
  refine MW ?_ (v := .bool false)
  refine MV ?_
  refine MG 1 ?_ (v := .bool false) (hj := pf_t)
  refine MW ?_ (v := .bool false)
  refine MS ?_
  refine MS ?_
  refine MS ?_
  refine MS ?_
  refine MS ?_
  refine MW ?_ (v := .bool false)
  refine MW ?_ (v := .bool false)
  refine MZ fun W hS => ?_
  go_wp2_with fail
  go_loopw [5] (fun ii wr => ∃ (i : Nat), (i ≤ ss.length) ∧ (ii = .int .i64 (i : Int)) ∧ SH [] w wr [.b p2_1 (pfc (.slice Ap ss.length cp) false a x) 66, .b p3_2 (pfc (.slice Ar ss.length cr) false b z) 66])
   (fun ii _ => ss.length - (intOf ii).toNat)
  case atStart => exact ⟨0, Nat.zero_le _, rfl, (hS.pick [1, 0])⟩
  clear hS
  case round =>
   obtain ⟨i, hi, rfl, hS⟩ := hrel
   by_cases hlt : i < ss.length
   ·
    have _f := hlt
    obtain ⟨y, yh⟩ : ∃ x, ss[i]? = some x := ⟨_, List.getElem?_eq_getElem hlt⟩
    obtain ⟨gp, op, A0p, c0p⟩ := HRp.out i y yh
    have HAp := Lib.hid A0p
    clear A0p
    obtain ⟨gr, or, A0r, c0r⟩ := HRr.out i y yh
    have HAr := Lib.hid A0r
    clear A0r
    go_upto_region 4 with fail
    refine RL hS ?_
    clear hS
    refine MV ?_
    refine MV ?_
    refine MG 0 ?_ (v := .slice Ap ss.length cp) (hj := pf_s)
    refine MV ?_
    refine MW ?_ (v := .bool true)
    refine MZ fun W hS => ?_
    go_upto_region 6 with fail
    refine RTh (.q 0 (.q 1 (.q 2 (.q 3 (.q 4 (.q 5 (.q 6 (.q 7 (.q 8 (.q 9 (.q 10 .z))))))))))) hS ?_
    clear hS
    refine TV ?_
    refine TG 0 ?_ (v := .slice Ap ss.length cp) (hj := pf_s)
    refine TV ?_
    refine TW ?_ (v := .pointer (some ⟨gp, op + i * 32, none⟩)) (hv := fun _ => run_ixRA HAp.out hlt rfl rfl rfl Tryd.underlying58 (by kernel_rfl))
    refine TF (v := .agg (arrK .u8 32 (byt y))) rfl (fun W hS => run_atsub rfl rfl (fun i_ v hv => cell_ext (c0p i_ v (by simpa using hv)) hS.ext) (by kernel_rfl) (by rw [arrK_size]; kernel_rfl)) ?_
    refine TV ?_
    refine TG 1 ?_ (v := .slice Ar ss.length cr) (hj := pf_s)
    refine TV ?_
    refine TW ?_ (v := .pointer (some ⟨gr, or + i * 32, none⟩)) (hv := fun _ => run_ixRA HAr.out hlt rfl rfl rfl Tryd.underlying58 (by kernel_rfl))
    refine TF (v := .agg (arrK .u8 32 (byt y))) rfl (fun W hS => run_atsub rfl rfl (fun i_ v hv => cell_ext (c0r i_ v (by simpa using hv)) hS.ext) (by kernel_rfl) (by rw [arrK_size]; kernel_rfl)) ?_
    refine TW ?_ (v := .bool false) (hv := fun _ => run_neqA ((fun w => eqS32 rfl w) _) (by kernel_rfl) rfl rfl rfl)
    refine TZ (fun _ h => h) fun W hS => ?_
    go_wp2
    go_roundw
    case rel => exact ⟨i + 1, by omega, by go_num, hS⟩
    case measure => simp [intOf]; omega
   ·
    have _f := hlt
    go_upto_region 4 with fail
    refine RL hS ?_
    clear hS
    refine MV ?_
    refine MV ?_
    refine MG 0 ?_ (v := .slice Ap ss.length cp) (hj := pf_s)
    refine MV ?_
    refine MW ?_ (v := .bool false)
    refine MZ fun W hS => ?_
    go_wp2
    exact bodyPost_ret (v := .bool true) (by simp only [results, Tryd.results45]; go_simp) rfl ⟨rfl, hS.ext⟩
 ·
  have _f := True.intro
  obtain ⟨rfl, rfl⟩ := hend rfl
  go_upto_region 1 with fail
  refine RL hS ?_
  clear hS
  refine MV ?_
  refine MG 1 ?_ (v := .slice Ap ss.length cp) (hj := pf_s)
  refine MV ?_
  refine MV ?_
  refine MG 0 ?_ (v := .slice Ar ss.length cr) (hj := pf_s)
  refine MV ?_
  refine MW ?_ (v := .bool false)
  refine MW ?_ (v := .bool false)
  refine MV ?_
  refine MG 1 ?_ (v := .bool true) (hj := pf_t)
  refine MV ?_
  refine MG 0 ?_ (v := .bool true) (hj := pf_t)
  refine MW ?_ (v := .bool false)
  refine MW ?_ (v := .bool false)
  refine MW ?_ (v := .bool false)
  refine MV ?_
  refine MG 1 ?_ (v := .bool true) (hj := pf_t)
  refine MW ?_ (v := .bool true)
  refine MV ?_
  refine Ml 1 pf_e ?_ (hz := by first | kernel_rfl | (rw [lf_size]; kernel_rfl))
  refine MV ?_
  refine Ml 0 pf_e ?_ (hz := by first | kernel_rfl | (rw [lf_size]; kernel_rfl))
  refine MW ?_ (v := .bool false) (hv := fun _ => run_neqA ((fun w => (eqRL (a, x) (a, x) ⟨ha, hx⟩ ⟨ha, hx⟩ w).trans (by rw [decide_eq_true rfl])) _) (by kernel_rfl) rfl rfl rfl)
  refine MW ?_ (v := .bool false)
  refine MW ?_ (v := .bool false)
  refine MZ fun W hS => ?_
  go_wp2_with fail
  go_loopw [5] (fun ii wr => ∃ (i : Nat), (i ≤ ss.length) ∧ (ii = .int .i64 (i : Int)) ∧ SH [] w wr [.b p2_1 (pfc (.slice Ap ss.length cp) true a x) 66, .b p3_2 (pfc (.slice Ar ss.length cr) true a x) 66])
   (fun ii _ => ss.length - (intOf ii).toNat)
  case atStart => exact ⟨0, Nat.zero_le _, rfl, (hS.pick [1, 0])⟩
  clear hS
  case round =>
   obtain ⟨i, hi, rfl, hS⟩ := hrel
   by_cases hlt : i < ss.length
   ·
    have _f := hlt
    obtain ⟨y, yh⟩ : ∃ x, ss[i]? = some x := ⟨_, List.getElem?_eq_getElem hlt⟩
    obtain ⟨gp, op, A0p, c0p⟩ := HRp.out i y yh
    have HAp := Lib.hid A0p
    clear A0p
    obtain ⟨gr, or, A0r, c0r⟩ := HRr.out i y yh
    have HAr := Lib.hid A0r
    clear A0r
    go_upto_region 4 with fail
    refine RL hS ?_
    clear hS
    refine MV ?_
    refine MV ?_
    refine MG 0 ?_ (v := .slice Ap ss.length cp) (hj := pf_s)
    refine MV ?_
    refine MW ?_ (v := .bool true)
    refine MZ fun W hS => ?_
    go_upto_region 6 with fail
    refine RTh (.q 0 (.q 1 (.q 2 (.q 3 (.q 4 (.q 5 (.q 6 (.q 7 (.q 8 (.q 9 (.q 10 .z))))))))))) hS ?_
    clear hS
    refine TV ?_
    refine TG 0 ?_ (v := .slice Ap ss.length cp) (hj := pf_s)
    refine TV ?_
    refine TW ?_ (v := .pointer (some ⟨gp, op + i * 32, none⟩)) (hv := fun _ => run_ixRA HAp.out hlt rfl rfl rfl Tryd.underlying58 (by kernel_rfl))
    refine TF (v := .agg (arrK .u8 32 (byt y))) rfl (fun W hS => run_atsub rfl rfl (fun i_ v hv => cell_ext (c0p i_ v (by simpa using hv)) hS.ext) (by kernel_rfl) (by rw [arrK_size]; kernel_rfl)) ?_
    refine TV ?_
    refine TG 1 ?_ (v := .slice Ar ss.length cr) (hj := pf_s)
    refine TV ?_
    refine TW ?_ (v := .pointer (some ⟨gr, or + i * 32, none⟩)) (hv := fun _ => run_ixRA HAr.out hlt rfl rfl rfl Tryd.underlying58 (by kernel_rfl))
    refine TF (v := .agg (arrK .u8 32 (byt y))) rfl (fun W hS => run_atsub rfl rfl (fun i_ v hv => cell_ext (c0r i_ v (by simpa using hv)) hS.ext) (by kernel_rfl) (by rw [arrK_size]; kernel_rfl)) ?_
    refine TW ?_ (v := .bool false) (hv := fun _ => run_neqA ((fun w => eqS32 rfl w) _) (by kernel_rfl) rfl rfl rfl)
    refine TZ (fun _ h => h) fun W hS => ?_
    go_wp2
    go_roundw
    case rel => exact ⟨i + 1, by omega, by go_num, hS⟩
    case measure => simp [intOf]; omega
   ·
    have _f := hlt
    go_upto_region 4 with fail
    refine RL hS ?_
    clear hS
    refine MV ?_
    refine MV ?_
    refine MG 0 ?_ (v := .slice Ap ss.length cp) (hj := pf_s)
    refine MV ?_
    refine MW ?_ (v := .bool false)
    refine MZ fun W hS => ?_
    go_wp2
    exact bodyPost_ret (v := .bool true) (by simp only [results, Tryd.results45]; go_simp) rfl ⟨rfl, hS.ext⟩
theorem proofs_c {q : Prop} (w : World) (hG : GT q w) :
  Calls Tryd.prog 44 #[] w fun e w' => Ret (.bool true) w w' e := by
 have hS := SH.nil [] w
 go_enter Tryd.func44, Tryd.ntmps44
 go_upto_region 2 with fail
 refine RL hS ?_
 clear hS
 refine MV ?_
 refine MW ?_ (v := .agg (arrK .u8 32 (byt 5))) (hv := by intro W; kernel_rfl)
 refine ME (V := fun v => .agg (pfc v false 0 0)) (fun W hS => pcall (ss := []) hS (prove_c (T := .nil) (k := 5) (Nat.zero_le _) W (GT_ext hG hS.ext) rfl) rfl) ?_
 intro pv_1
 refine MFact (fun W hS => Row.form (ls := []) (f := b32l) (hS.row (i := 0) rfl)) ?_
 rintro ⟨A_2, c_2, rfl⟩
 refine MN (z := pfc (.slice none 0 0) false 0 0) (t := 69) ?_
 intro p2_3
 refine MR 0 ?_ (hz := by rw [pf_size]; kernel_rfl) (hs := by first | rw [pf_size, pf_size] | rw [pf_size] | kernel_rfl) (h1 := (pf_one rfl))
 refine MZ fun W hS => ?_
 go_upto_region 3 with fail
 refine RTh (.q 1 (.q 2 (.b 0 (.b 3 (.q 4 (.q 5 (.q 6 (.q 7 (.e 8 (.e 9 (.q 10 (.q 11 .z)))))))) 8 (.e 3 (.q 4 (.q 5 (.q 6 (.q 7 (.e 9 (.q 10 (.q 11 .z))))))))) 8 (.e 0 (.e 3 (.q 4 (.q 5 (.q 6 (.q 7 (.e 9 (.q 10 (.q 11 .z)))))))))))) hS ?_
 clear hS
 refine TW ?_ (v := .agg (arrK .u8 32 (byt 5))) (hv := by intro W; kernel_rfl)
 refine TL 0 ?_ (hs := by rw [pf_size]; kernel_rfl)
 refine TB (fun _ h => h) ?_ ?_
 ·
  skip
  obtain ⟨U1, hU1⟩ := exn (sE)
  have HU1 := Lib.hid hU1
  clear hU1
  refine MC (v := .agg (arrK .u8 32 (byt U1))) (fun W hS => (by rw [HU1.out]; exact empty_c W (GT_ext hG hS.ext))) ?_
  refine TNh (fun W hS => hS) ?_
  refine TB (fun _ h => h) ?_ ?_
  ·
   skip
   refine MC (v := .tuple #[.agg (arrK .u8 32 (byt 0)), .bool false, .int .i64 0]) (fun W hS => (by have h_ := check_c (R := U1) (k := 5) (a := 0) (x := 0) (th := false) (ss := []) (by rw [HU1.out]; unfold sE; exact hs_lt4 _) (by decide) (by decide) (Nat.zero_le _) W (GT_ext hG hS.ext) (hS.row (i := 1) rfl).rr; rw [chk_e HU1.out] at h_; exact h_)) ?_
   refine TNh (fun W hS => hS) ?_
   refine TV ?_
   refine TV ?_
   refine TW ?_ (v := .bool false)
   refine TW ?_ (v := .int .i64 0)
   refine TE (fun _ h => h) ?_
   refine MN (z := arrK .u8 32 (byt 0)) (t := 22) ?_
   intro p3_4
   refine TNp [1, 2] [0, 1] ?_
   refine TE (fun _ h => h.pick [1, 2]) ?_
   refine MR 0 ?_ 
   refine TNp [1, 2] [0, 1] ?_
   refine TW ?_ (v := .bool false)
   refine TW ?_ (v := .int .i64 0)
   refine TZ (fun _ h => h.pick [1, 2]) fun W hS => ?_
   go_upto_region 4 with fail
   refine RL hS ?_
   clear hS
   refine MW ?_ (v := .agg (arrK .u8 32 (byt 0))) (hv := by intro W; kernel_rfl)
   refine MW ?_ (v := .agg (arrK .u8 32 (byt 5))) (hv := by intro W; kernel_rfl)
   refine ML 1 ?_ (hs := by rw [pf_size]; kernel_rfl)
   refine MC (v := .tuple #[.agg (arrK .u8 32 (byt 0)), .bool false, .int .i64 17]) (fun W hS => (by have h_ := check_c (R := 0) (k := 5) (a := 0) (x := 0) (th := false) (ss := []) (by decide) (by decide) (by decide) (Nat.zero_le _) W (GT_ext hG hS.ext) (hS.row (i := 2) rfl).rr; rw [chk_z] at h_; exact h_)) ?_
   refine MV ?_
   refine MV ?_
   refine MW ?_ (v := .bool false)
   refine MW ?_ (v := .int .i64 17)
   refine MN (z := arrK .u8 32 (byt 0)) (t := 22) ?_
   intro p6_5
   refine MR 0 ?_ 
   refine MW ?_ (v := .bool false)
   refine MW ?_ (v := .int .i64 17)
   refine MZ fun W hS => ?_
   go_wp2
   exact bodyPost_ret (v := .bool true) (by simp only [results, Tryd.results44]; go_simp) rfl ⟨rfl, hS.ext⟩
  ·
   skip
   refine MN (z := arrK .u8 32 (byt 0)) (t := 22) ?_
   intro p3_6
   refine TNp [1, 2] [0, 1] ?_
   refine TE (fun _ h => h.pick [1, 2]) ?_
   refine MC (v := .tuple #[.agg (arrK .u8 32 (byt 0)), .bool false, .int .i64 0]) (fun W hS => (by have h_ := check_c (R := U1) (k := 5) (a := 0) (x := 0) (th := false) (ss := []) (by rw [HU1.out]; unfold sE; exact hs_lt4 _) (by decide) (by decide) (Nat.zero_le _) W (GT_ext hG hS.ext) (hS.row (i := 2) rfl).rr; rw [chk_e HU1.out] at h_; exact h_)) ?_
   refine TNp [1, 2] [0, 1] ?_
   refine TV ?_
   refine TV ?_
   refine TW ?_ (v := .bool false)
   refine TW ?_ (v := .int .i64 0)
   refine TE (fun _ h => h.pick [1, 2]) ?_
   refine MR 0 ?_ 
   refine TNp [1, 2] [0, 1] ?_
   refine TW ?_ (v := .bool false)
   refine TW ?_ (v := .int .i64 0)
   refine TZ (fun _ h => h.pick [1, 2]) fun W hS => ?_
   go_upto_region 4 with fail
   refine RL hS ?_
   clear hS
   refine MW ?_ (v := .agg (arrK .u8 32 (byt 0))) (hv := by intro W; kernel_rfl)
   refine MW ?_ (v := .agg (arrK .u8 32 (byt 5))) (hv := by intro W; kernel_rfl)
   refine ML 1 ?_ (hs := by rw [pf_size]; kernel_rfl)
   refine MC (v := .tuple #[.agg (arrK .u8 32 (byt 0)), .bool false, .int .i64 17]) (fun W hS => (by have h_ := check_c (R := 0) (k := 5) (a := 0) (x := 0) (th := false) (ss := []) (by decide) (by decide) (by decide) (Nat.zero_le _) W (GT_ext hG hS.ext) (hS.row (i := 2) rfl).rr; rw [chk_z] at h_; exact h_)) ?_
   refine MV ?_
   refine MV ?_
   refine MW ?_ (v := .bool false)
   refine MW ?_ (v := .int .i64 17)
   refine MN (z := arrK .u8 32 (byt 0)) (t := 22) ?_
   intro p6_7
   refine MR 0 ?_ 
   refine MW ?_ (v := .bool false)
   refine MW ?_ (v := .int .i64 17)
   refine MZ fun W hS => ?_
   go_wp2
   exact bodyPost_ret (v := .bool true) (by simp only [results, Tryd.results44]; go_simp) rfl ⟨rfl, hS.ext⟩
 ·
  skip
  refine MN (z := arrK .u8 32 (byt 0)) (t := 22) ?_
  intro p3_8
  refine TNp [1, 2] [0, 1] ?_
  refine TE (fun _ h => h.pick [1, 2]) ?_
  obtain ⟨U1, hU1⟩ := exn (sE)
  have HU1 := Lib.hid hU1
  clear hU1
  refine MC (v := .agg (arrK .u8 32 (byt U1))) (fun W hS => (by rw [HU1.out]; exact empty_c W (GT_ext hG hS.ext))) ?_
  refine TNp [1, 2] [0, 1] ?_
  refine TE (fun _ h => h.pick [1, 2]) ?_
  refine MC (v := .tuple #[.agg (arrK .u8 32 (byt 0)), .bool false, .int .i64 0]) (fun W hS => (by have h_ := check_c (R := U1) (k := 5) (a := 0) (x := 0) (th := false) (ss := []) (by rw [HU1.out]; unfold sE; exact hs_lt4 _) (by decide) (by decide) (Nat.zero_le _) W (GT_ext hG hS.ext) (hS.row (i := 2) rfl).rr; rw [chk_e HU1.out] at h_; exact h_)) ?_
  refine TNp [1, 2] [0, 1] ?_
  refine TV ?_
  refine TV ?_
  refine TW ?_ (v := .bool false)
  refine TW ?_ (v := .int .i64 0)
  refine TE (fun _ h => h.pick [1, 2]) ?_
  refine MR 0 ?_ 
  refine TNp [1, 2] [0, 1] ?_
  refine TW ?_ (v := .bool false)
  refine TW ?_ (v := .int .i64 0)
  refine TZ (fun _ h => h.pick [1, 2]) fun W hS => ?_
  go_upto_region 4 with fail
  refine RL hS ?_
  clear hS
  refine MW ?_ (v := .agg (arrK .u8 32 (byt 0))) (hv := by intro W; kernel_rfl)
  refine MW ?_ (v := .agg (arrK .u8 32 (byt 5))) (hv := by intro W; kernel_rfl)
  refine ML 1 ?_ (hs := by rw [pf_size]; kernel_rfl)
  refine MC (v := .tuple #[.agg (arrK .u8 32 (byt 0)), .bool false, .int .i64 17]) (fun W hS => (by have h_ := check_c (R := 0) (k := 5) (a := 0) (x := 0) (th := false) (ss := []) (by decide) (by decide) (by decide) (Nat.zero_le _) W (GT_ext hG hS.ext) (hS.row (i := 2) rfl).rr; rw [chk_z] at h_; exact h_)) ?_
  refine MV ?_
  refine MV ?_
  refine MW ?_ (v := .bool false)
  refine MW ?_ (v := .int .i64 17)
  refine MN (z := arrK .u8 32 (byt 0)) (t := 22) ?_
  intro p6_9
  refine MR 0 ?_ 
  refine MW ?_ (v := .bool false)
  refine MW ?_ (v := .int .i64 17)
  refine MZ fun W hS => ?_
  go_wp2
  exact bodyPost_ret (v := .bool true) (by simp only [results, Tryd.results44]; go_simp) rfl ⟨rfl, hS.ext⟩
end Go.Proofs.YtndnlbinnhdmbaaDoor

set_option linter.unusedSimpArgs false
set_option linter.unusedVariables false
namespace Go.Proofs.YtndnlbinnhdmbaaDoor
open Go.RowKit
attribute [local irreducible] wpList wpTr wpX
section
variable {ops : Array Oper} {Q : Exit → Act → World → Prop} {F : List Nat} {w : World} {H H' : List As} {r : List Oper} {o : Oper} {a a' : Act}
/-- a text copied over a whole array -/
theorem wpL_copyS {x y : Operand} {l : List UInt8} {g : Nat} {cur : Array Value} {t : TypeId} {n c : Nat} (hB : Blk w g cur t) (hcur : cur.size = l.length) (hn : n = l.length) (hw : Region.wanted o (yielded ops a.tmps) = true)
    (ho : o.op = .call { callee := .builtin .copy, args := #[x, y], argTypes := #[33, 9] }) (hx : a.eval x = .slice (some ⟨g, 0, none⟩) n c) (hy : a.eval y = str l)
    (h : ∀ W, Off [g] w W → Blk W g (bs8 l).toArray t → wpList Tryd.prog ops Q r (a.put o.dst (goInt l.length)) W) : wpList Tryd.prog ops Q (o :: r) a w := by
  subst hn
  have hst := run_storeCells_at Tryd.prog g 0 t (bs8 l) 0 cur w hB (by rw [bs8_length, hcur]; omega) (bs8_one l)
  have e : (cur.toList.take (0 + 0) ++ bs8 l ++ cur.toList.drop (0 + 0 + (bs8 l).length)) = bs8 l := by
    rw [List.drop_eq_nil_of_le (by rw [bs8_length, Array.length_toList]; omega)]; simp
  rw [e] at hst
  have h4 : Blk (w.setRow g (bs8 l).toArray) g (bs8 l).toArray t := blk_setRow hB _
  have hsz := ba_size l
  have hex := ba_extract l 0 l.length
  rw [List.take_of_length_le (Nat.le_refl _), List.drop_zero] at hex
  refine wpL_run hw (v := goInt l.length) (W := w.setRow g (bs8 l).toArray) ?_ (h _ ⟨rfl, rfl, rfl, by simp, fun k _ hk => setRow_other w g k _ (by simpa using hk)⟩ h4)
  unfold execOp
  simp only [ho, resolve, invoke, builtin, Sem.run_bind, Sem.run_pure, Result.andThen_ok, List.map_toArray, List.map_cons, List.map_nil, hx, hy]
  cases hq : Tryd.prog.info? 5 with
  | none => have h0 := u8_size; rw [hq] at h0; cases h0
  | some i =>
    have hi : i.size = 1 := by have h0 := u8_size; rw [hq] at h0; simpa using h0
    have hmin : Nat.min l.length l.length = l.length := Nat.min_self _
    have hst' : (storeCells ⟨g, 0, none⟩ (l.map fun b => Value.int .u8 (b.toNat : Int))).run Tryd.prog w = .ok () (w.setRow g (l.map fun b => Value.int .u8 (b.toNat : Int)).toArray) := hst
    simp [Builtin.copy_, run_underlying Tryd.underlying33, Builtin.lenOf, Builtin.firstCells, sizeOf, typeInfo, hq, hi, str, hsz, hex, hmin, Sem.run_bind, bs8]
    rw [List.take_of_length_le (by simp), hst']
    rfl
/-- a text copied over thing i -/
theorem MCp (i : Nat) {x y : Operand} {l : List UInt8} {b n c : Nat} {cs new : Array Value} {t : TypeId} (hl : l.length = n) (hcs : cs.size = n) (hnew : (bs8 l).toArray = new) (h : wpM Tryd.prog ops (.L Q) F w H' r a') (hi : H[i]? = some (.b b cs t) := by exact rfl) (hw : Region.wanted o (yielded ops a.tmps) = true := by exact rfl)
    (ho : o.op = .call { callee := .builtin .copy, args := #[x, y], argTypes := #[33, 9] } := by exact rfl) (hx : a.eval x = .slice (some ⟨b, 0, none⟩) n c := by exact rfl) (hy : a.eval y = str l := by exact rfl)
    (hH : H.set i (.b b new t) = H' := by dsimp only [sB, sC]; first | done | exact rfl) (hp : a.put o.dst (goInt n) = a' := by first | exact pl (by dsimp only [mB, mC]; first | done | exact rfl) | exact pn | exact rfl) : wpM Tryd.prog ops (.L Q) F w H (o :: r) a := by
  subst hp hH hnew hl
  intro W hS
  exact wpL_copyS (hS.blk hi) hcs rfl hw ho hx hy fun W' hO hB => h W' (hS.setb hi hO hB)
end
end Go.Proofs.YtndnlbinnhdmbaaDoor

set_option linter.unusedSimpArgs false
set_option linter.unusedVariables false
namespace Go.Proofs.YtndnlbinnhdmbaaDoor
set_option maxHeartbeats 3000000
set_option maxRecDepth 100000
open Go.RowKit
attribute [local irreducible] wpList wpTr wpX
set_option linter.unusedSimpArgs false
attribute [local irreducible] hs4 sE sL sN lb

end Go.Proofs.YtndnlbinnhdmbaaDoor
