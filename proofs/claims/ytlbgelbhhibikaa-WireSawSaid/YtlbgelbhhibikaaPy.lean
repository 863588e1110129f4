/- The document's Same. Conditions: the sums are not too many. -/
import Derived.Test.YtlbgelbhhibikaaJ19
set_option linter.unusedSimpArgs false
set_option linter.unusedVariables false
namespace Go.Proofs.Ytlbgelbhhibikaa
set_option maxHeartbeats 3000000
set_option maxRecDepth 100000
open Go.RowKit
attribute [local irreducible] wpList wpTr wpX
set_option linter.unusedSimpArgs false
attribute [local irreducible] lb
theorem psame_c {ss : List Nat} {sv tv : Value} {th : Bool} {a x b z : Nat} (hn : ss.length ≤ 1000000) (hend : th = true → a = b ∧ x = z) (ha : a < 2 ^ 256) (hx : x < 2 ^ 256) (w : World) (hp : RR 32 w sv (ss.map b32l)) (hr : RR 32 w tv (ss.map b32l)) :
  Calls Try.prog 46 #[.agg (pfc sv th a x), .agg (pfc tv th b z)] w fun e w' => Ret (.bool true) w w' e := by
 obtain ⟨Ap, cp, rfl, hlcp, HRp⟩ := RR.opf hp
 obtain ⟨Ar, cr, rfl, hlcr, HRr⟩ := RR.opf hr
 have hS := SH.nil [] w
 go_enter Try.func46, Try.ntmps46
 go_upto_region 0 with fail
 refine RL hS ?_
 clear hS
 refine MN (z := pfc (.slice Ap ss.length cp) th a x) (t := 52) ?_
 intro p2_1
 refine MN (z := pfc (.slice Ar ss.length cr) th b z) (t := 52) ?_
 intro p3_2
 refine MW ?_ (v := .bool false)
 refine MZ fun W hS => ?_
 rcases th with _ | _
 ·
  have _f := True.intro
  go_upto_region 1 with fail
  refine RL hS ?_
  clear hS
  refine MV ?_
  refine MG 1 ?_ (v := .slice Ap ss.length cp) (hj := pf_s)
  refine MV ?_
  refine MV ?_
  refine MG 0 ?_ (v := .slice Ar ss.length cr) (hj := pf_s)
  refine MV ?_
  refine MW ?_ (v := .bool false)
  refine MW ?_ (v := .bool false)
  refine MV ?_
  refine MG 1 ?_ (v := .bool false) (hj := pf_t)
  refine MV ?_
  refine MG 0 ?_ (v := .bool false) (hj := pf_t)
  refine MW ?_ (v := .bool false)
  refine MW ?_ (v := .bool false)
  refine MW ?_ (v := .bool false)
  refine MV ?_
  refine MG 1 ?_ (v := .bool false) (hj := pf_t)
  refine MW ?_ (v := .bool false)
  refine MS ?_
  refine MS ?_
  refine MS ?_
  refine MS ?_
  refine MS ?_
  refine MW ?_ (v := .bool false)
  refine MW ?_ (v := .bool false)
  refine MZ fun W hS => ?_
  go_wp2_with fail
  go_loopw [5] (fun ii wr => ∃ (i : Nat), (i ≤ ss.length) ∧ (ii = .int .i64 (i : Int)) ∧ SH [] w wr [.b p2_1 (pfc (.slice Ap ss.length cp) false a x) 52, .b p3_2 (pfc (.slice Ar ss.length cr) false b z) 52])
   (fun ii _ => ss.length - (intOf ii).toNat)
  case atStart => exact ⟨0, Nat.zero_le _, rfl, (hS.pick [1, 0])⟩
  clear hS
  case round =>
   obtain ⟨i, hi, rfl, hS⟩ := hrel
   by_cases hlt : i < ss.length
   ·
    have _f := hlt
    obtain ⟨y, yh⟩ : ∃ x, ss[i]? = some x := ⟨_, List.getElem?_eq_getElem hlt⟩
    obtain ⟨gp, op, A0p, c0p⟩ := HRp.out i y yh
    have HAp := Lib.hid A0p
    clear A0p
    obtain ⟨gr, or, A0r, c0r⟩ := HRr.out i y yh
    have HAr := Lib.hid A0r
    clear A0r
    go_upto_region 4 with fail
    refine RL hS ?_
    clear hS
    refine MV ?_
    refine MV ?_
    refine MG 0 ?_ (v := .slice Ap ss.length cp) (hj := pf_s)
    refine MV ?_
    refine MW ?_ (v := .bool true)
    refine MZ fun W hS => ?_
    go_upto_region 6 with fail
    refine RTh (.q 0 (.q 1 (.q 2 (.q 3 (.q 4 (.q 5 (.q 6 (.q 7 (.q 8 (.q 9 (.q 10 .z))))))))))) hS ?_
    clear hS
    refine TV ?_
    refine TG 0 ?_ (v := .slice Ap ss.length cp) (hj := pf_s)
    refine TV ?_
    refine TW ?_ (v := .pointer (some ⟨gp, op + i * 32, none⟩)) (hv := fun _ => run_ixRA HAp.out hlt rfl rfl rfl Try.underlying48 (by kernel_rfl))
    refine TF (v := .agg (arrK .u8 32 (byt y))) rfl (fun W hS => run_atsub rfl rfl (fun i_ v hv => cell_ext (c0p i_ v (by simpa using hv)) hS.ext) (by kernel_rfl) (by rw [arrK_size]; kernel_rfl)) ?_
    refine TV ?_
    refine TG 1 ?_ (v := .slice Ar ss.length cr) (hj := pf_s)
    refine TV ?_
    refine TW ?_ (v := .pointer (some ⟨gr, or + i * 32, none⟩)) (hv := fun _ => run_ixRA HAr.out hlt rfl rfl rfl Try.underlying48 (by kernel_rfl))
    refine TF (v := .agg (arrK .u8 32 (byt y))) rfl (fun W hS => run_atsub rfl rfl (fun i_ v hv => cell_ext (c0r i_ v (by simpa using hv)) hS.ext) (by kernel_rfl) (by rw [arrK_size]; kernel_rfl)) ?_
    refine TW ?_ (v := .bool false) (hv := fun _ => run_neqA ((fun w => eqS32 rfl w) _) (by kernel_rfl) rfl rfl rfl)
    refine TZ (fun _ h => h) fun W hS => ?_
    go_wp2
    go_roundw
    case rel => exact ⟨i + 1, by omega, by go_num, hS⟩
    case measure => simp [intOf]; omega
   ·
    have _f := hlt
    go_upto_region 4 with fail
    refine RL hS ?_
    clear hS
    refine MV ?_
    refine MV ?_
    refine MG 0 ?_ (v := .slice Ap ss.length cp) (hj := pf_s)
    refine MV ?_
    refine MW ?_ (v := .bool false)
    refine MZ fun W hS => ?_
    go_wp2
    exact bodyPost_ret (v := .bool true) (by simp only [results, Try.results46]; go_simp) rfl ⟨rfl, hS.ext⟩
 ·
  have _f := True.intro
  obtain ⟨rfl, rfl⟩ := hend rfl
  go_upto_region 1 with fail
  refine RL hS ?_
  clear hS
  refine MV ?_
  refine MG 1 ?_ (v := .slice Ap ss.length cp) (hj := pf_s)
  refine MV ?_
  refine MV ?_
  refine MG 0 ?_ (v := .slice Ar ss.length cr) (hj := pf_s)
  refine MV ?_
  refine MW ?_ (v := .bool false)
  refine MW ?_ (v := .bool false)
  refine MV ?_
  refine MG 1 ?_ (v := .bool true) (hj := pf_t)
  refine MV ?_
  refine MG 0 ?_ (v := .bool true) (hj := pf_t)
  refine MW ?_ (v := .bool false)
  refine MW ?_ (v := .bool false)
  refine MW ?_ (v := .bool false)
  refine MV ?_
  refine MG 1 ?_ (v := .bool true) (hj := pf_t)
  refine MW ?_ (v := .bool true)
  refine MV ?_
  refine Ml 1 pf_e ?_ (hz := by first | kernel_rfl | (rw [lf_size]; kernel_rfl))
  refine MV ?_
  refine Ml 0 pf_e ?_ (hz := by first | kernel_rfl | (rw [lf_size]; kernel_rfl))
  refine MW ?_ (v := .bool false) (hv := fun _ => run_neqA ((fun w => (eqRL (a, x) (a, x) ⟨ha, hx⟩ ⟨ha, hx⟩ w).trans (by rw [decide_eq_true rfl])) _) (by kernel_rfl) rfl rfl rfl)
  refine MW ?_ (v := .bool false)
  refine MW ?_ (v := .bool false)
  refine MZ fun W hS => ?_
  go_wp2_with fail
  go_loopw [5] (fun ii wr => ∃ (i : Nat), (i ≤ ss.length) ∧ (ii = .int .i64 (i : Int)) ∧ SH [] w wr [.b p2_1 (pfc (.slice Ap ss.length cp) true a x) 52, .b p3_2 (pfc (.slice Ar ss.length cr) true a x) 52])
   (fun ii _ => ss.length - (intOf ii).toNat)
  case atStart => exact ⟨0, Nat.zero_le _, rfl, (hS.pick [1, 0])⟩
  clear hS
  case round =>
   obtain ⟨i, hi, rfl, hS⟩ := hrel
   by_cases hlt : i < ss.length
   ·
    have _f := hlt
    obtain ⟨y, yh⟩ : ∃ x, ss[i]? = some x := ⟨_, List.getElem?_eq_getElem hlt⟩
    obtain ⟨gp, op, A0p, c0p⟩ := HRp.out i y yh
    have HAp := Lib.hid A0p
    clear A0p
    obtain ⟨gr, or, A0r, c0r⟩ := HRr.out i y yh
    have HAr := Lib.hid A0r
    clear A0r
    go_upto_region 4 with fail
    refine RL hS ?_
    clear hS
    refine MV ?_
    refine MV ?_
    refine MG 0 ?_ (v := .slice Ap ss.length cp) (hj := pf_s)
    refine MV ?_
    refine MW ?_ (v := .bool true)
    refine MZ fun W hS => ?_
    go_upto_region 6 with fail
    refine RTh (.q 0 (.q 1 (.q 2 (.q 3 (.q 4 (.q 5 (.q 6 (.q 7 (.q 8 (.q 9 (.q 10 .z))))))))))) hS ?_
    clear hS
    refine TV ?_
    refine TG 0 ?_ (v := .slice Ap ss.length cp) (hj := pf_s)
    refine TV ?_
    refine TW ?_ (v := .pointer (some ⟨gp, op + i * 32, none⟩)) (hv := fun _ => run_ixRA HAp.out hlt rfl rfl rfl Try.underlying48 (by kernel_rfl))
    refine TF (v := .agg (arrK .u8 32 (byt y))) rfl (fun W hS => run_atsub rfl rfl (fun i_ v hv => cell_ext (c0p i_ v (by simpa using hv)) hS.ext) (by kernel_rfl) (by rw [arrK_size]; kernel_rfl)) ?_
    refine TV ?_
    refine TG 1 ?_ (v := .slice Ar ss.length cr) (hj := pf_s)
    refine TV ?_
    refine TW ?_ (v := .pointer (some ⟨gr, or + i * 32, none⟩)) (hv := fun _ => run_ixRA HAr.out hlt rfl rfl rfl Try.underlying48 (by kernel_rfl))
    refine TF (v := .agg (arrK .u8 32 (byt y))) rfl (fun W hS => run_atsub rfl rfl (fun i_ v hv => cell_ext (c0r i_ v (by simpa using hv)) hS.ext) (by kernel_rfl) (by rw [arrK_size]; kernel_rfl)) ?_
    refine TW ?_ (v := .bool false) (hv := fun _ => run_neqA ((fun w => eqS32 rfl w) _) (by kernel_rfl) rfl rfl rfl)
    refine TZ (fun _ h => h) fun W hS => ?_
    go_wp2
    go_roundw
    case rel => exact ⟨i + 1, by omega, by go_num, hS⟩
    case measure => simp [intOf]; omega
   ·
    have _f := hlt
    go_upto_region 4 with fail
    refine RL hS ?_
    clear hS
    refine MV ?_
    refine MV ?_
    refine MG 0 ?_ (v := .slice Ap ss.length cp) (hj := pf_s)
    refine MV ?_
    refine MW ?_ (v := .bool false)
    refine MZ fun W hS => ?_
    go_wp2
    exact bodyPost_ret (v := .bool true) (by simp only [results, Try.results46]; go_simp) rfl ⟨rfl, hS.ext⟩
end Go.Proofs.Ytlbgelbhhibikaa
