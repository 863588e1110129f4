/- A proof's bytes; the document's Bytes. Conditions: the sums are not too many. -/
import Derived.Test.YtlbgelbhhibikaaJ18
import Derived.Test.YtlbgelbhhibikaaKa
set_option linter.unusedSimpArgs false
set_option linter.unusedVariables false
namespace Go.Proofs.Ytlbgelbhhibikaa
set_option maxHeartbeats 3000000
set_option maxRecDepth 100000
open Go.RowKit
attribute [local irreducible] wpList wpTr wpX
set_option linter.unusedSimpArgs false
/-- a proof's bytes -/
def pB (ss : List Nat) (th : Bool) (a x : Nat) : List UInt8 := be8 ss.length ++ (ss.map (lb 32)).flatten ++ (if th then [1] ++ lb 32 a ++ lb 32 x else [0])
theorem flat32 (ss : List Nat) : (ss.map (lb 32)).flatten.length = 32 * ss.length := by
 induction ss with
 | nil => rfl
 | cons s r ih => rw [List.map_cons, List.flatten_cons, List.length_append, ih, lb_length, List.length_cons]; omega
theorem flatt (ss : List Nat) (i : Nat) : ((ss.map (lb 32)).take i).flatten.length = 32 * min i ss.length := by rw [← List.map_take, flat32, List.length_take]
theorem flat_snoc {ss : List Nat} {i y : Nat} (h : ss[i]? = some y) : ((ss.map (lb 32)).take (i + 1)).flatten = ((ss.map (lb 32)).take i).flatten ++ lb 32 y := by
 rw [List.take_add_one, List.getElem?_map, h, List.flatten_append]; simp
theorem take_all (ss : List Nat) : (ss.map (lb 32)).take ss.length = ss.map (lb 32) := List.take_of_length_le (by simp)
theorem be8_len (n : Nat) : (be8 n).length = 8 := rfl
attribute [local irreducible] lb be8
theorem rpbytes_c {ss : List Nat} {sv : Value} {th : Bool} {a x : Nat} (hn : ss.length ≤ 1000000) (w : World) (hp : RR 32 w sv (ss.map b32l)) :
  Calls Try.prog 44 #[.agg (pfc sv th a x)] w fun e w' => Ret (str (pB ss th a x)) w w' e := by
 obtain ⟨Ap, cp, rfl, hlcp, HRp⟩ := RR.opf hp
 have hS := SH.nil [] w
 go_enter Try.func44, Try.ntmps44
 go_upto_region 0 with fail
 refine RL hS ?_
 clear hS
 refine MN (z := pfc (.slice Ap ss.length cp) th a x) (t := 52) ?_
 intro p1_1
 refine MV ?_
 refine MZ fun W hS => ?_
 go_upto_region 1 with fail
 refine RL hS ?_
 clear hS
 refine MV ?_
 refine MG 0 ?_ (v := .slice Ap ss.length cp) (hj := pf_s)
 refine MV ?_
 refine MC (v := str (be8 ss.length)) (fun W hS => eight_c (ss.length : Int) ss.length (by omega) W) ?_
 refine MV ?_
 refine MZ fun W hS => ?_
 go_wp2_with fail
 go_loopw [3, 4] (fun tt ii wr => ∃ (i : Nat), (i ≤ ss.length) ∧ (tt = str (be8 ss.length ++ ((ss.map (lb 32)).take i).flatten)) ∧ (ii = .int .i64 (i : Int)) ∧ SH [] w wr [.b p1_1 (pfc (.slice Ap ss.length cp) th a x) 52])
  (fun tt ii _ => ss.length - (intOf ii).toNat)
 case atStart => exact ⟨0, Nat.zero_le _, by rw [List.take_zero, List.flatten_nil, List.append_nil], rfl, hS⟩
 clear hS
 case round =>
  obtain ⟨i, hi, rfl, rfl, hS⟩ := hrel
  by_cases hlt : i < ss.length
  ·
   have _f := hlt
   obtain ⟨y, yh⟩ : ∃ x, ss[i]? = some x := ⟨_, List.getElem?_eq_getElem hlt⟩
   obtain ⟨gp, op, A0p, c0p⟩ := HRp.out i y yh
   have HAp := Lib.hid A0p
   clear A0p
   go_upto_region 3 with fail
   refine RL hS ?_
   clear hS
   refine MV ?_
   refine MV ?_
   refine MG 0 ?_ (v := .slice Ap ss.length cp) (hj := pf_s)
   refine MV ?_
   refine MW ?_ (v := .bool true)
   refine MZ fun W hS => ?_
   go_upto_region 5 with fail
   refine RL hS ?_
   clear hS
   refine MV ?_
   refine MV ?_
   refine MG 0 ?_ (v := .slice Ap ss.length cp) (hj := pf_s)
   refine MV ?_
   refine MW ?_ (v := .pointer (some ⟨gp, op + i * 32, none⟩)) (hv := fun _ => run_ixRA HAp.out hlt rfl rfl rfl Try.underlying48 (by kernel_rfl))
   refine MW ?_ (v := .slice (some ⟨gp, op + i * 32, none⟩) 32 32)
   refine MF (v := str (lb 32 y)) (fun W hS => run_cvs (sl_c32 (fun i_ v_ h_ => cell_ext (c0p i_ v_ h_) hS.ext)) rfl rfl) ?_
   refine MW ?_ (v := str ((be8 ss.length ++ ((ss.map (lb 32)).take i).flatten) ++ (lb 32 y))) (hv := fun _ => run_cat (l := (be8 ss.length ++ ((ss.map (lb 32)).take i).flatten)) (m := (lb 32 y)) rfl rfl rfl (by first | omega | (simp only [List.length_append, List.length_cons, List.length_nil, lb_length, be8_len, flat32, flatt]; omega)))
   refine MV ?_
   refine MZ fun W hS => ?_
   go_wp2
   go_roundw
   case rel => exact ⟨i + 1, by omega, by rw [flat_snoc yh, ← List.append_assoc], by go_num, hS⟩
   case measure => simp [intOf]; omega
  ·
   have _f := hlt
   obtain rfl : i = ss.length := by omega
   rw [take_all]
   go_upto_region 3 with fail
   refine RL hS ?_
   clear hS
   refine MV ?_
   refine MV ?_
   refine MG 0 ?_ (v := .slice Ap ss.length cp) (hj := pf_s)
   refine MV ?_
   refine MW ?_ (v := .bool false)
   refine MZ fun W hS => ?_
   rcases th with _ | _
   ·
    have _f := True.intro
    go_upto_region 6 with fail
    refine RL hS ?_
    clear hS
    refine MV ?_
    refine MG 0 ?_ (v := .bool false) (hj := pf_t)
    refine MW ?_ (v := .bool true)
    refine MZ fun W hS => ?_
    go_upto_region 7 with fail
    refine RL hS ?_
    clear hS
    refine MV ?_
    refine MW ?_ (v := str ((be8 ss.length ++ (ss.map (lb 32)).flatten) ++ [0])) (hv := fun _ => run_cat (l := (be8 ss.length ++ (ss.map (lb 32)).flatten)) (m := [0]) rfl rfl rfl (by first | omega | (simp only [List.length_append, List.length_cons, List.length_nil, lb_length, be8_len, flat32, flatt]; omega)))
    refine MV ?_
    refine MZ fun W hS => ?_
    go_wp2
    exact bodyPost_ret (v := str ((be8 ss.length ++ (ss.map (lb 32)).flatten) ++ [0])) (by simp only [results, Try.results44]; go_simp) rfl ⟨by rw [show (be8 ss.length ++ (ss.map (lb 32)).flatten) ++ [0] = pB ss false a x from by unfold pB; simp only [List.append_assoc]; rfl], hS.ext⟩
   ·
    have _f := True.intro
    go_upto_region 6 with fail
    refine RL hS ?_
    clear hS
    refine MV ?_
    refine MG 0 ?_ (v := .bool true) (hj := pf_t)
    refine MW ?_ (v := .bool false)
    refine MZ fun W hS => ?_
    go_upto_region 8 with fail
    refine RTh (.q 0 (.q 1 (.q 2 (.q 3 (.q 4 (.q 5 (.q 6 (.q 7 (.q 8 (.q 9 (.q 10 (.q 11 (.q 12 .z))))))))))))) hS ?_
    clear hS
    refine TV ?_
    refine TW ?_ (v := str ((be8 ss.length ++ (ss.map (lb 32)).flatten) ++ [1])) (hv := fun _ => run_cat (l := (be8 ss.length ++ (ss.map (lb 32)).flatten)) (m := [1]) rfl rfl rfl (by first | omega | (simp only [List.length_append, List.length_cons, List.length_nil, lb_length, be8_len, flat32, flatt]; omega)))
    refine TV ?_
    refine TV ?_
    refine TW ?_ (v := .slice (some ⟨p1_1, 2, none⟩) 32 32)
    refine TF (v := str (lb 32 a)) rfl (fun W hS => run_cvs (sl_part (V := a) (n := 32) (off := 2) (c := 32) (hS.blk (i := 0) rfl) pf_k (by decide) (by decide)) rfl rfl) ?_
    refine TW ?_ (v := str (((be8 ss.length ++ (ss.map (lb 32)).flatten) ++ [1]) ++ (lb 32 a))) (hv := fun _ => run_cat (l := ((be8 ss.length ++ (ss.map (lb 32)).flatten) ++ [1])) (m := (lb 32 a)) rfl rfl rfl (by first | omega | (simp only [List.length_append, List.length_cons, List.length_nil, lb_length, be8_len, flat32, flatt]; omega)))
    refine TV ?_
    refine TV ?_
    refine TW ?_ (v := .slice (some ⟨p1_1, 34, none⟩) 32 32)
    refine TF (v := str (lb 32 x)) rfl (fun W hS => run_cvs (sl_part (V := x) (n := 32) (off := 34) (c := 32) (hS.blk (i := 0) rfl) pf_v (by decide) (by decide)) rfl rfl) ?_
    refine TW ?_ (v := str ((((be8 ss.length ++ (ss.map (lb 32)).flatten) ++ [1]) ++ (lb 32 a)) ++ (lb 32 x))) (hv := fun _ => run_cat (l := (((be8 ss.length ++ (ss.map (lb 32)).flatten) ++ [1]) ++ (lb 32 a))) (m := (lb 32 x)) rfl rfl rfl (by first | omega | (simp only [List.length_append, List.length_cons, List.length_nil, lb_length, be8_len, flat32, flatt]; omega)))
    refine TV ?_
    refine TZ (fun _ h => h) fun W hS => ?_
    go_wp2
    exact bodyPost_ret (v := str ((((be8 ss.length ++ (ss.map (lb 32)).flatten) ++ [1]) ++ (lb 32 a)) ++ (lb 32 x))) (by simp only [results, Try.results44]; go_simp) rfl ⟨by rw [show (((be8 ss.length ++ (ss.map (lb 32)).flatten) ++ [1]) ++ (lb 32 a)) ++ (lb 32 x) = pB ss true a x from by unfold pB; simp only [List.append_assoc]; rfl], hS.ext⟩
end Go.Proofs.Ytlbgelbhhibikaa
