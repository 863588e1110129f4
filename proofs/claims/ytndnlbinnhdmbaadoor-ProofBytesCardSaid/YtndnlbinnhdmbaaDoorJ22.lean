/- Proofs: the document's Same, Clash; the law's proofs. Conditions: the tables hold their numbers; keys and values have 256 bits. A text copied over an array; a cell stored in an element of a row. No conditions. ProofBack. Conditions: the tables hold their numbers; keys and values have 256 bits. -/
import Derived.Test.YtndnlbinnhdmbaaDoorJ21
import Derived.Test.YtndnlbinnhdmbaaDoorJ7
import Derived.Laws.CopyRow
set_option linter.unusedSimpArgs false
set_option linter.unusedVariables false
namespace Go.Proofs.YtndnlbinnhdmbaaDoor
set_option maxHeartbeats 3000000
set_option maxRecDepth 100000
open Go.RowKit
attribute [local irreducible] wpList wpTr wpX
set_option linter.unusedSimpArgs false
attribute [local irreducible] hs4 sE sL sN lb
theorem chk_e {U : Nat} (h : U = sE) : chk U 5 [] false 0 0 = (0, false, 0) := by
 subst h
 unfold chk
 rw [if_neg (by simp), if_pos (show hs4 (tT 5 [] 0 (tE false 0 0)) = sE by unfold sE; rfl), if_neg (by simp)]
theorem chk_z : chk 0 5 [] false 0 0 = (0, false, 17) := by
 unfold chk
 rw [if_neg (by simp), if_neg (show ¬ hs4 (tT 5 [] 0 (tE false 0 0)) = 0 from two_ne)]

theorem psame_c {ss : List Nat} {sv tv : Value} {th : Bool} {a x b z : Nat} (hn : ss.length ≤ 1000000) (hend : th = true → a = b ∧ x = z) (ha : a < 2 ^ 256) (hx : x < 2 ^ 256) (w : World) (hp : RR 32 w sv (ss.map b32l)) (hr : RR 32 w tv (ss.map b32l)) :
  Calls Tryd.prog 45 #[.agg (pfc sv th a x), .agg (pfc tv th b z)] w fun e w' => Ret (.bool true) w w' e := by
 obtain ⟨Ap, cp, rfl, hlcp, HRp⟩ := RR.opf hp
 obtain ⟨Ar, cr, rfl, hlcr, HRr⟩ := RR.opf hr
 have hS := SH.nil [] w
 go_enter Tryd.func45, Tryd.ntmps45
 go_upto_region 0 with fail
 refine RL hS ?_
 clear hS
 refine MN (z := pfc (.slice Ap ss.length cp) th a x) (t := 66) ?_
 intro p2_1
 refine MN (z := pfc (.slice Ar ss.length cr) th b z) (t := 66) ?_
 intro p3_2
 refine MW ?_ (v := .bool false)
 refine MZ fun W hS => ?_
 rcases th with _ | _
 ·
  have _f := True.intro
  go_upto_region 1 with fail
  refine RL hS ?_
  clear hS
  refine MV ?_
  refine MG 1 ?_ (v := .slice Ap ss.length cp) (hj := pf_s)
  refine MV ?_
  refine MV ?_
  refine MG 0 ?_ (v := .slice Ar ss.length cr) (hj := pf_s)
  refine MV ?_
  refine MW ?_ (v := .bool false)
  refine MW ?_ (v := .bool false)
  refine MV ?_
  refine MG 1 ?_ (v := .bool false) (hj := pf_t)
  refine MV ?_
  refine MG 0 ?_ (v := .bool false) (hj := pf_t)
  refine MW ?_ (v := .bool false)
  refine MW ?_ (v := .bool false)
  refine MW ?_ (v := .bool false)
  refine MV ?_
  refine MG 1 ?_ (v := .bool false) (hj := pf_t)
  refine MW ?_ (v := .bool false)
  refine MS ?_
  refine MS ?_
  refine MS ?_
  refine MS ?_
  refine MS ?_
  refine MW ?_ (v := .bool false)
  refine MW ?_ (v := .bool false)
  refine MZ fun W hS => ?_
  go_wp2_with fail
  go_loopw [5] (fun ii wr => ∃ (i : Nat), (i ≤ ss.length) ∧ (ii = .int .i64 (i : Int)) ∧ SH [] w wr [.b p2_1 (pfc (.slice Ap ss.length cp) false a x) 66, .b p3_2 (pfc (.slice Ar ss.length cr) false b z) 66])
   (fun ii _ => ss.length - (intOf ii).toNat)
  case atStart => exact ⟨0, Nat.zero_le _, rfl, (hS.pick [1, 0])⟩
  clear hS
  case round =>
   obtain ⟨i, hi, rfl, hS⟩ := hrel
   by_cases hlt : i < ss.length
   ·
    have _f := hlt
    obtain ⟨y, yh⟩ : ∃ x, ss[i]? = some x := ⟨_, List.getElem?_eq_getElem hlt⟩
    obtain ⟨gp, op, A0p, c0p⟩ := HRp.out i y yh
    have HAp := Lib.hid A0p
    clear A0p
    obtain ⟨gr, or, A0r, c0r⟩ := HRr.out i y yh
    have HAr := Lib.hid A0r
    clear A0r
    go_upto_region 4 with fail
    refine RL hS ?_
    clear hS
    refine MV ?_
    refine MV ?_
    refine MG 0 ?_ (v := .slice Ap ss.length cp) (hj := pf_s)
    refine MV ?_
    refine MW ?_ (v := .bool true)
    refine MZ fun W hS => ?_
    go_upto_region 6 with fail
    refine RTh (.q 0 (.q 1 (.q 2 (.q 3 (.q 4 (.q 5 (.q 6 (.q 7 (.q 8 (.q 9 (.q 10 .z))))))))))) hS ?_
    clear hS
    refine TV ?_
    refine TG 0 ?_ (v := .slice Ap ss.length cp) (hj := pf_s)
    refine TV ?_
    refine TW ?_ (v := .pointer (some ⟨gp, op + i * 32, none⟩)) (hv := fun _ => run_ixRA HAp.out hlt rfl rfl rfl Tryd.underlying58 (by kernel_rfl))
    refine TF (v := .agg (arrK .u8 32 (byt y))) rfl (fun W hS => run_atsub rfl rfl (fun i_ v hv => cell_ext (c0p i_ v (by simpa using hv)) hS.ext) (by kernel_rfl) (by rw [arrK_size]; kernel_rfl)) ?_
    refine TV ?_
    refine TG 1 ?_ (v := .slice Ar ss.length cr) (hj := pf_s)
    refine TV ?_
    refine TW ?_ (v := .pointer (some ⟨gr, or + i * 32, none⟩)) (hv := fun _ => run_ixRA HAr.out hlt rfl rfl rfl Tryd.underlying58 (by kernel_rfl))
    refine TF (v := .agg (arrK .u8 32 (byt y))) rfl (fun W hS => run_atsub rfl rfl (fun i_ v hv => cell_ext (c0r i_ v (by simpa using hv)) hS.ext) (by kernel_rfl) (by rw [arrK_size]; kernel_rfl)) ?_
    refine TW ?_ (v := .bool false) (hv := fun _ => run_neqA ((fun w => eqS32 rfl w) _) (by kernel_rfl) rfl rfl rfl)
    refine TZ (fun _ h => h) fun W hS => ?_
    go_wp2
    go_roundw
    case rel => exact ⟨i + 1, by omega, by go_num, hS⟩
    case measure => simp [intOf]; omega
   ·
    have _f := hlt
    go_upto_region 4 with fail
    refine RL hS ?_
    clear hS
    refine MV ?_
    refine MV ?_
    refine MG 0 ?_ (v := .slice Ap ss.length cp) (hj := pf_s)
    refine MV ?_
    refine MW ?_ (v := .bool false)
    refine MZ fun W hS => ?_
    go_wp2
    exact bodyPost_ret (v := .bool true) (by simp only [results, Tryd.results45]; go_simp) rfl ⟨rfl, hS.ext⟩
 ·
  have _f := True.intro
  obtain ⟨rfl, rfl⟩ := hend rfl
  go_upto_region 1 with fail
  refine RL hS ?_
  clear hS
  refine MV ?_
  refine MG 1 ?_ (v := .slice Ap ss.length cp) (hj := pf_s)
  refine MV ?_
  refine MV ?_
  refine MG 0 ?_ (v := .slice Ar ss.length cr) (hj := pf_s)
  refine MV ?_
  refine MW ?_ (v := .bool false)
  refine MW ?_ (v := .bool false)
  refine MV ?_
  refine MG 1 ?_ (v := .bool true) (hj := pf_t)
  refine MV ?_
  refine MG 0 ?_ (v := .bool true) (hj := pf_t)
  refine MW ?_ (v := .bool false)
  refine MW ?_ (v := .bool false)
  refine MW ?_ (v := .bool false)
  refine MV ?_
  refine MG 1 ?_ (v := .bool true) (hj := pf_t)
  refine MW ?_ (v := .bool true)
  refine MV ?_
  refine Ml 1 pf_e ?_ (hz := by first | kernel_rfl | (rw [lf_size]; kernel_rfl))
  refine MV ?_
  refine Ml 0 pf_e ?_ (hz := by first | kernel_rfl | (rw [lf_size]; kernel_rfl))
  refine MW ?_ (v := .bool false) (hv := fun _ => run_neqA ((fun w => (eqRL (a, x) (a, x) ⟨ha, hx⟩ ⟨ha, hx⟩ w).trans (by rw [decide_eq_true rfl])) _) (by kernel_rfl) rfl rfl rfl)
  refine MW ?_ (v := .bool false)
  refine MW ?_ (v := .bool false)
  refine MZ fun W hS => ?_
  go_wp2_with fail
  go_loopw [5] (fun ii wr => ∃ (i : Nat), (i ≤ ss.length) ∧ (ii = .int .i64 (i : Int)) ∧ SH [] w wr [.b p2_1 (pfc (.slice Ap ss.length cp) true a x) 66, .b p3_2 (pfc (.slice Ar ss.length cr) true a x) 66])
   (fun ii _ => ss.length - (intOf ii).toNat)
  case atStart => exact ⟨0, Nat.zero_le _, rfl, (hS.pick [1, 0])⟩
  clear hS
  case round =>
   obtain ⟨i, hi, rfl, hS⟩ := hrel
   by_cases hlt : i < ss.length
   ·
    have _f := hlt
    obtain ⟨y, yh⟩ : ∃ x, ss[i]? = some x := ⟨_, List.getElem?_eq_getElem hlt⟩
    obtain ⟨gp, op, A0p, c0p⟩ := HRp.out i y yh
    have HAp := Lib.hid A0p
    clear A0p
    obtain ⟨gr, or, A0r, c0r⟩ := HRr.out i y yh
    have HAr := Lib.hid A0r
    clear A0r
    go_upto_region 4 with fail
    refine RL hS ?_
    clear hS
    refine MV ?_
    refine MV ?_
    refine MG 0 ?_ (v := .slice Ap ss.length cp) (hj := pf_s)
    refine MV ?_
    refine MW ?_ (v := .bool true)
    refine MZ fun W hS => ?_
    go_upto_region 6 with fail
    refine RTh (.q 0 (.q 1 (.q 2 (.q 3 (.q 4 (.q 5 (.q 6 (.q 7 (.q 8 (.q 9 (.q 10 .z))))))))))) hS ?_
    clear hS
    refine TV ?_
    refine TG 0 ?_ (v := .slice Ap ss.length cp) (hj := pf_s)
    refine TV ?_
    refine TW ?_ (v := .pointer (some ⟨gp, op + i * 32, none⟩)) (hv := fun _ => run_ixRA HAp.out hlt rfl rfl rfl Tryd.underlying58 (by kernel_rfl))
    refine TF (v := .agg (arrK .u8 32 (byt y))) rfl (fun W hS => run_atsub rfl rfl (fun i_ v hv => cell_ext (c0p i_ v (by simpa using hv)) hS.ext) (by kernel_rfl) (by rw [arrK_size]; kernel_rfl)) ?_
    refine TV ?_
    refine TG 1 ?_ (v := .slice Ar ss.length cr) (hj := pf_s)
    refine TV ?_
    refine TW ?_ (v := .pointer (some ⟨gr, or + i * 32, none⟩)) (hv := fun _ => run_ixRA HAr.out hlt rfl rfl rfl Tryd.underlying58 (by kernel_rfl))
    refine TF (v := .agg (arrK .u8 32 (byt y))) rfl (fun W hS => run_atsub rfl rfl (fun i_ v hv => cell_ext (c0r i_ v (by simpa using hv)) hS.ext) (by kernel_rfl) (by rw [arrK_size]; kernel_rfl)) ?_
    refine TW ?_ (v := .bool false) (hv := fun _ => run_neqA ((fun w => eqS32 rfl w) _) (by kernel_rfl) rfl rfl rfl)
    refine TZ (fun _ h => h) fun W hS => ?_
    go_wp2
    go_roundw
    case rel => exact ⟨i + 1, by omega, by go_num, hS⟩
    case measure => simp [intOf]; omega
   ·
    have _f := hlt
    go_upto_region 4 with fail
    refine RL hS ?_
    clear hS
    refine MV ?_
    refine MV ?_
    refine MG 0 ?_ (v := .slice Ap ss.length cp) (hj := pf_s)
    refine MV ?_
    refine MW ?_ (v := .bool false)
    refine MZ fun W hS => ?_
    go_wp2
    exact bodyPost_ret (v := .bool true) (by simp only [results, Tryd.results45]; go_simp) rfl ⟨rfl, hS.ext⟩
theorem proofs_c {q : Prop} (w : World) (hG : GT q w) :
  Calls Tryd.prog 44 #[] w fun e w' => Ret (.bool true) w w' e := by
 have hS := SH.nil [] w
 go_enter Tryd.func44, Tryd.ntmps44
 go_upto_region 2 with fail
 refine RL hS ?_
 clear hS
 refine MV ?_
 refine MW ?_ (v := .agg (arrK .u8 32 (byt 5))) (hv := by intro W; kernel_rfl)
 refine ME (V := fun v => .agg (pfc v false 0 0)) (fun W hS => pcall (ss := []) hS (prove_c (T := .nil) (k := 5) (Nat.zero_le _) W (GT_ext hG hS.ext) rfl) rfl) ?_
 intro pv_1
 refine MFact (fun W hS => Row.form (ls := []) (f := b32l) (hS.row (i := 0) rfl)) ?_
 rintro ⟨A_2, c_2, rfl⟩
 refine MN (z := pfc (.slice none 0 0) false 0 0) (t := 69) ?_
 intro p2_3
 refine MR 0 ?_ (hz := by rw [pf_size]; kernel_rfl) (hs := by first | rw [pf_size, pf_size] | rw [pf_size] | kernel_rfl) (h1 := (pf_one rfl))
 refine MZ fun W hS => ?_
 go_upto_region 3 with fail
 refine RTh (.q 1 (.q 2 (.b 0 (.b 3 (.q 4 (.q 5 (.q 6 (.q 7 (.e 8 (.e 9 (.q 10 (.q 11 .z)))))))) 8 (.e 3 (.q 4 (.q 5 (.q 6 (.q 7 (.e 9 (.q 10 (.q 11 .z))))))))) 8 (.e 0 (.e 3 (.q 4 (.q 5 (.q 6 (.q 7 (.e 9 (.q 10 (.q 11 .z)))))))))))) hS ?_
 clear hS
 refine TW ?_ (v := .agg (arrK .u8 32 (byt 5))) (hv := by intro W; kernel_rfl)
 refine TL 0 ?_ (hs := by rw [pf_size]; kernel_rfl)
 refine TB (fun _ h => h) ?_ ?_
 ·
  skip
  obtain ⟨U1, hU1⟩ := exn (sE)
  have HU1 := Lib.hid hU1
  clear hU1
  refine MC (v := .agg (arrK .u8 32 (byt U1))) (fun W hS => (by rw [HU1.out]; exact empty_c W (GT_ext hG hS.ext))) ?_
  refine TNh (fun W hS => hS) ?_
  refine TB (fun _ h => h) ?_ ?_
  ·
   skip
   refine MC (v := .tuple #[.agg (arrK .u8 32 (byt 0)), .bool false, .int .i64 0]) (fun W hS => (by have h_ := check_c (R := U1) (k := 5) (a := 0) (x := 0) (th := false) (ss := []) (by rw [HU1.out]; unfold sE; exact hs_lt4 _) (by decide) (by decide) (Nat.zero_le _) W (GT_ext hG hS.ext) (hS.row (i := 1) rfl).rr; rw [chk_e HU1.out] at h_; exact h_)) ?_
   refine TNh (fun W hS => hS) ?_
   refine TV ?_
   refine TV ?_
   refine TW ?_ (v := .bool false)
   refine TW ?_ (v := .int .i64 0)
   refine TE (fun _ h => h) ?_
   refine MN (z := arrK .u8 32 (byt 0)) (t := 22) ?_
   intro p3_4
   refine TNp [1, 2] [0, 1] ?_
   refine TE (fun _ h => h.pick [1, 2]) ?_
   refine MR 0 ?_ 
   refine TNp [1, 2] [0, 1] ?_
   refine TW ?_ (v := .bool false)
   refine TW ?_ (v := .int .i64 0)
   refine TZ (fun _ h => h.pick [1, 2]) fun W hS => ?_
   go_upto_region 4 with fail
   refine RL hS ?_
   clear hS
   refine MW ?_ (v := .agg (arrK .u8 32 (byt 0))) (hv := by intro W; kernel_rfl)
   refine MW ?_ (v := .agg (arrK .u8 32 (byt 5))) (hv := by intro W; kernel_rfl)
   refine ML 1 ?_ (hs := by rw [pf_size]; kernel_rfl)
   refine MC (v := .tuple #[.agg (arrK .u8 32 (byt 0)), .bool false, .int .i64 17]) (fun W hS => (by have h_ := check_c (R := 0) (k := 5) (a := 0) (x := 0) (th := false) (ss := []) (by decide) (by decide) (by decide) (Nat.zero_le _) W (GT_ext hG hS.ext) (hS.row (i := 2) rfl).rr; rw [chk_z] at h_; exact h_)) ?_
   refine MV ?_
   refine MV ?_
   refine MW ?_ (v := .bool false)
   refine MW ?_ (v := .int .i64 17)
   refine MN (z := arrK .u8 32 (byt 0)) (t := 22) ?_
   intro p6_5
   refine MR 0 ?_ 
   refine MW ?_ (v := .bool false)
   refine MW ?_ (v := .int .i64 17)
   refine MZ fun W hS => ?_
   go_wp2
   exact bodyPost_ret (v := .bool true) (by simp only [results, Tryd.results44]; go_simp) rfl ⟨rfl, hS.ext⟩
  ·
   skip
   refine MN (z := arrK .u8 32 (byt 0)) (t := 22) ?_
   intro p3_6
   refine TNp [1, 2] [0, 1] ?_
   refine TE (fun _ h => h.pick [1, 2]) ?_
   refine MC (v := .tuple #[.agg (arrK .u8 32 (byt 0)), .bool false, .int .i64 0]) (fun W hS => (by have h_ := check_c (R := U1) (k := 5) (a := 0) (x := 0) (th := false) (ss := []) (by rw [HU1.out]; unfold sE; exact hs_lt4 _) (by decide) (by decide) (Nat.zero_le _) W (GT_ext hG hS.ext) (hS.row (i := 2) rfl).rr; rw [chk_e HU1.out] at h_; exact h_)) ?_
   refine TNp [1, 2] [0, 1] ?_
   refine TV ?_
   refine TV ?_
   refine TW ?_ (v := .bool false)
   refine TW ?_ (v := .int .i64 0)
   refine TE (fun _ h => h.pick [1, 2]) ?_
   refine MR 0 ?_ 
   refine TNp [1, 2] [0, 1] ?_
   refine TW ?_ (v := .bool false)
   refine TW ?_ (v := .int .i64 0)
   refine TZ (fun _ h => h.pick [1, 2]) fun W hS => ?_
   go_upto_region 4 with fail
   refine RL hS ?_
   clear hS
   refine MW ?_ (v := .agg (arrK .u8 32 (byt 0))) (hv := by intro W; kernel_rfl)
   refine MW ?_ (v := .agg (arrK .u8 32 (byt 5))) (hv := by intro W; kernel_rfl)
   refine ML 1 ?_ (hs := by rw [pf_size]; kernel_rfl)
   refine MC (v := .tuple #[.agg (arrK .u8 32 (byt 0)), .bool false, .int .i64 17]) (fun W hS => (by have h_ := check_c (R := 0) (k := 5) (a := 0) (x := 0) (th := false) (ss := []) (by decide) (by decide) (by decide) (Nat.zero_le _) W (GT_ext hG hS.ext) (hS.row (i := 2) rfl).rr; rw [chk_z] at h_; exact h_)) ?_
   refine MV ?_
   refine MV ?_
   refine MW ?_ (v := .bool false)
   refine MW ?_ (v := .int .i64 17)
   refine MN (z := arrK .u8 32 (byt 0)) (t := 22) ?_
   intro p6_7
   refine MR 0 ?_ 
   refine MW ?_ (v := .bool false)
   refine MW ?_ (v := .int .i64 17)
   refine MZ fun W hS => ?_
   go_wp2
   exact bodyPost_ret (v := .bool true) (by simp only [results, Tryd.results44]; go_simp) rfl ⟨rfl, hS.ext⟩
 ·
  skip
  refine MN (z := arrK .u8 32 (byt 0)) (t := 22) ?_
  intro p3_8
  refine TNp [1, 2] [0, 1] ?_
  refine TE (fun _ h => h.pick [1, 2]) ?_
  obtain ⟨U1, hU1⟩ := exn (sE)
  have HU1 := Lib.hid hU1
  clear hU1
  refine MC (v := .agg (arrK .u8 32 (byt U1))) (fun W hS => (by rw [HU1.out]; exact empty_c W (GT_ext hG hS.ext))) ?_
  refine TNp [1, 2] [0, 1] ?_
  refine TE (fun _ h => h.pick [1, 2]) ?_
  refine MC (v := .tuple #[.agg (arrK .u8 32 (byt 0)), .bool false, .int .i64 0]) (fun W hS => (by have h_ := check_c (R := U1) (k := 5) (a := 0) (x := 0) (th := false) (ss := []) (by rw [HU1.out]; unfold sE; exact hs_lt4 _) (by decide) (by decide) (Nat.zero_le _) W (GT_ext hG hS.ext) (hS.row (i := 2) rfl).rr; rw [chk_e HU1.out] at h_; exact h_)) ?_
  refine TNp [1, 2] [0, 1] ?_
  refine TV ?_
  refine TV ?_
  refine TW ?_ (v := .bool false)
  refine TW ?_ (v := .int .i64 0)
  refine TE (fun _ h => h.pick [1, 2]) ?_
  refine MR 0 ?_ 
  refine TNp [1, 2] [0, 1] ?_
  refine TW ?_ (v := .bool false)
  refine TW ?_ (v := .int .i64 0)
  refine TZ (fun _ h => h.pick [1, 2]) fun W hS => ?_
  go_upto_region 4 with fail
  refine RL hS ?_
  clear hS
  refine MW ?_ (v := .agg (arrK .u8 32 (byt 0))) (hv := by intro W; kernel_rfl)
  refine MW ?_ (v := .agg (arrK .u8 32 (byt 5))) (hv := by intro W; kernel_rfl)
  refine ML 1 ?_ (hs := by rw [pf_size]; kernel_rfl)
  refine MC (v := .tuple #[.agg (arrK .u8 32 (byt 0)), .bool false, .int .i64 17]) (fun W hS => (by have h_ := check_c (R := 0) (k := 5) (a := 0) (x := 0) (th := false) (ss := []) (by decide) (by decide) (by decide) (Nat.zero_le _) W (GT_ext hG hS.ext) (hS.row (i := 2) rfl).rr; rw [chk_z] at h_; exact h_)) ?_
  refine MV ?_
  refine MV ?_
  refine MW ?_ (v := .bool false)
  refine MW ?_ (v := .int .i64 17)
  refine MN (z := arrK .u8 32 (byt 0)) (t := 22) ?_
  intro p6_9
  refine MR 0 ?_ 
  refine MW ?_ (v := .bool false)
  refine MW ?_ (v := .int .i64 17)
  refine MZ fun W hS => ?_
  go_wp2
  exact bodyPost_ret (v := .bool true) (by simp only [results, Tryd.results44]; go_simp) rfl ⟨rfl, hS.ext⟩
end Go.Proofs.YtndnlbinnhdmbaaDoor

set_option linter.unusedSimpArgs false
set_option linter.unusedVariables false
namespace Go.Proofs.YtndnlbinnhdmbaaDoor
open Go.RowKit
attribute [local irreducible] wpList wpTr wpX
section
variable {ops : Array Oper} {Q : Exit → Act → World → Prop} {F : List Nat} {w : World} {H H' : List As} {r : List Oper} {o : Oper} {a a' : Act}
end
end Go.Proofs.YtndnlbinnhdmbaaDoor

set_option linter.unusedSimpArgs false
set_option linter.unusedVariables false
namespace Go.Proofs.YtndnlbinnhdmbaaDoor
set_option maxHeartbeats 3000000
set_option maxRecDepth 100000
open Go.RowKit
attribute [local irreducible] wpList wpTr wpX
set_option linter.unusedSimpArgs false
attribute [local irreducible] hs4 sE sL sN lb

end Go.Proofs.YtndnlbinnhdmbaaDoor
