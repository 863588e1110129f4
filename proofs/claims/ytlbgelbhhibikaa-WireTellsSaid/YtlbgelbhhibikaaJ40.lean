/- The document's Sums. Conditions: memory holds what is written. The document's Same. Conditions: the sums are not too many. -/
import Derived.Test.YtlbgelbhhibikaaWr
import Derived.Test.YtlbgelbhhibikaaJ18
set_option linter.unusedSimpArgs false
set_option linter.unusedVariables false
namespace Go.Proofs.Ytlbgelbhhibikaa.Ww
set_option maxHeartbeats 1500000
set_option maxRecDepth 100000
open Go.RowKit
attribute [local irreducible] wpList wpTr wpX
set_option linter.unusedSimpArgs false
attribute [local irreducible] lb be8 eI tB txL txB dtx dok pB

theorem dsums_c {ss : List Nat} {sv : Value} (hn : ss.length ≤ 1000000) (w : World) (hsm : RR 32 w sv (ss.map b32l)) :
  Calls Try.prog 47 #[sv] w fun e w' => Ret (str (sB ss)) w w' e := by
 obtain ⟨Ap, cp, rfl, hlc_sm, HR_sm⟩ := RR.opf hsm
 have hS := SH.nil [] w
 go_enter Try.func47, Try.ntmps47
 go_upto_region 1 with fail
 refine RL hS ?_
 clear hS
 refine MV ?_
 refine MV ?_
 refine MC (v := str (be8 ss.length)) (fun W hS => eight_c (ss.length : Int) ss.length (by omega) W) ?_
 refine MV ?_
 refine MZ fun W hS => ?_
 go_wp2_with fail
 go_loopw [3, 4] (fun tt ii wr => ∃ (i : Nat), (i ≤ ss.length) ∧ (tt = str (be8 ss.length ++ ((ss.map (lb 32)).take i).flatten)) ∧ (ii = .int .i64 (i : Int)) ∧ SH [] w wr [])
  (fun tt ii _ => ss.length - (intOf ii).toNat)
 case atStart => exact ⟨0, Nat.zero_le _, by rw [List.take_zero, List.flatten_nil, List.append_nil], rfl, hS⟩
 clear hS
 case round =>
  obtain ⟨i, hi, rfl, rfl, hS⟩ := hrel
  by_cases hlt : i < ss.length
  ·
   have _f := hlt
   obtain ⟨y, yh⟩ : ∃ x, ss[i]? = some x := ⟨_, List.getElem?_eq_getElem hlt⟩
   obtain ⟨gp, op, A0p, _⟩ := HR_sm.out i y yh
   have HAp := Lib.hid A0p
   clear A0p
   go_upto_region 3 with fail
   refine RL hS ?_
   clear hS
   refine MV ?_
   refine MV ?_
   refine MV ?_
   refine MW ?_ (v := .bool true)
   refine MZ fun W hS => ?_
   go_upto_region 5 with fail
   refine RL hS ?_
   clear hS
   refine MV ?_
   refine MV ?_
   refine MV ?_
   refine MW ?_ (v := .pointer (some ⟨gp, op + i * 32, none⟩)) (hv := fun _ => run_ixRA HAp.out hlt rfl rfl rfl Try.underlying48 (by kernel_rfl))
   refine MW ?_ (v := .slice (some ⟨gp, op + i * 32, none⟩) 32 32)
   refine MF (v := str (lb 32 y)) (fun W hS => run_cvs (sl_c32 (fun i_ v_ h_ => (RR.cellat (hsm.ext hS.ext) (by rw [List.getElem?_map, yh]; rfl) HAp.out) i_ v_ h_)) rfl rfl) ?_
   refine MW ?_ (v := str ((be8 ss.length ++ ((ss.map (lb 32)).take i).flatten) ++ (lb 32 y))) (hv := fun _ => run_cat (l := (be8 ss.length ++ ((ss.map (lb 32)).take i).flatten)) (m := (lb 32 y)) rfl rfl rfl (by first | omega | (simp only [List.length_append, List.length_cons, List.length_nil, lb_length, be8_len, eI_len, flat32, flatt]; omega)))
   refine MV ?_
   refine MZ fun W hS => ?_
   go_wp2
   go_roundw
   case rel => exact ⟨i + 1, by omega, by rw [flat_snoc yh, ← List.append_assoc], by go_num, hS⟩
   case measure => simp [intOf]; omega
  ·
   have _f := hlt
   obtain rfl : i = ss.length := by omega
   rw [take_all]
   go_upto_region 3 with fail
   refine RL hS ?_
   clear hS
   refine MV ?_
   refine MV ?_
   refine MV ?_
   refine MW ?_ (v := .bool false)
   refine MZ fun W hS => ?_
   go_wp2
   exact bodyPost_ret (v := str (sB ss)) (by simp only [results, Try.results47]; unfold sB; go_simp) rfl ⟨rfl, hS.ext⟩
end Go.Proofs.Ytlbgelbhhibikaa.Ww

set_option linter.unusedSimpArgs false
set_option linter.unusedVariables false
namespace Go.Proofs.Ytlbgelbhhibikaa
set_option maxHeartbeats 3000000
set_option maxRecDepth 100000
open Go.RowKit
attribute [local irreducible] wpList wpTr wpX
set_option linter.unusedSimpArgs false
attribute [local irreducible] lb
end Go.Proofs.Ytlbgelbhhibikaa
