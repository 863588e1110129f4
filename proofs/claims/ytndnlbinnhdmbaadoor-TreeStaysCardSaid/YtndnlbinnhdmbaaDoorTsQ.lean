/- Lists of leaves: the document's Same; the law's few and list. Conditions: keys and values have 256 bits. -/
import Derived.Test.YtndnlbinnhdmbaaDoorTsP
set_option linter.unusedSimpArgs false
set_option linter.unusedVariables false
namespace Go.Proofs.YtndnlbinnhdmbaaDoor
set_option maxHeartbeats 3000000
set_option maxRecDepth 100000
open Go.RowKit
attribute [local irreducible] wpList wpTr wpX
set_option linter.unusedSimpArgs false

theorem Same_c {la lb : List Lf} {u v : Value} (hla : ok256 la) (hlb : ok256 lb) (hn : la.length ≤ 274877906944) (w : World) (ha : RR 64 w u (la.map lfl)) (hb : RR 64 w v (lb.map lfl)) :
  Calls Tryd.prog 29 #[u, v] w fun e w' => Ret (.bool (decide (la = lb))) w w' e := by
 obtain ⟨Aa, ca, rfl, hlca, HRa⟩ := ha.op
 obtain ⟨Ab, cb, rfl, hlcb, HRb⟩ := hb.op
 have hS := SH.nil [] w
 go_enter Tryd.func29, Tryd.ntmps29
 by_cases hlen : la.length = lb.length
 ·
  have _f := hlen
  go_upto_region 1 with fail
  refine RL hS ?_
  clear hS
  refine MV ?_
  refine MV ?_
  refine MV ?_
  refine MV ?_
  refine MW ?_ (v := .bool false)
  refine MZ fun W hS => ?_
  have HL := Lib.hid hlen
  clear _f
  clear hlen
  go_wp2_with fail
  go_loopw [5] (fun ii wr => ∃ (i : Nat), (i ≤ la.length) ∧ (la.take i = lb.take i) ∧ (ii = .int .i64 (i : Int)) ∧ SH [] w wr [])
   (fun ii _ => la.length - (intOf ii).toNat)
  case atStart => exact ⟨0, Nat.zero_le _, rfl, rfl, hS⟩
  clear hS
  case round =>
   obtain ⟨i, hi, hE, rfl, hS⟩ := hrel
   by_cases hlt : i < la.length
   ·
    have _f := hlt
    have hltb : i < lb.length := by have h_ := HL.out; omega
    obtain ⟨x, xh⟩ : ∃ x, la[i]? = some x := ⟨_, List.getElem?_eq_getElem hlt⟩
    obtain ⟨ga, oa, A0a, c0a⟩ := HRa.out i x xh
    have HAa := Lib.hid A0a
    clear A0a
    obtain ⟨y, yh⟩ : ∃ x, lb[i]? = some x := ⟨_, List.getElem?_eq_getElem hltb⟩
    obtain ⟨gb, ob, A0b, c0b⟩ := HRb.out i y yh
    have HAb := Lib.hid A0b
    clear A0b
    go_upto_region 4 with fail
    refine RL hS ?_
    clear hS
    refine MV ?_
    refine MV ?_
    refine MV ?_
    refine MW ?_ (v := .bool true)
    refine MZ fun W hS => ?_
    by_cases hxy : x = y
    ·
     have _f := hxy
     go_upto_region 6 with fail
     refine RTh (.q 0 (.q 1 (.q 2 (.q 3 (.q 4 (.q 5 (.q 6 (.q 7 (.q 8 .z))))))))) hS ?_
     clear hS
     refine TV ?_
     refine TV ?_
     refine TW ?_ (v := .pointer (some ⟨ga, oa + i * 64, none⟩)) (hv := fun _ => run_ixRA HAa.out hlt rfl rfl rfl Tryd.underlying38 (by kernel_rfl))
     refine TF (v := .agg (lf x.1 x.2)) rfl (fun W hS => run_atsub rfl rfl (fun i_ v hv => cell_ext (c0a i_ v (by simpa using hv)) hS.ext) (by kernel_rfl) (by rw [lf_size]; kernel_rfl)) ?_
     refine TV ?_
     refine TV ?_
     refine TW ?_ (v := .pointer (some ⟨gb, ob + i * 64, none⟩)) (hv := fun _ => run_ixRA HAb.out hltb rfl rfl rfl Tryd.underlying38 (by kernel_rfl))
     refine TF (v := .agg (lf y.1 y.2)) rfl (fun W hS => run_atsub rfl rfl (fun i_ v hv => cell_ext (c0b i_ v (by simpa using hv)) hS.ext) (by kernel_rfl) (by rw [lf_size]; kernel_rfl)) ?_
     refine TW ?_ (v := .bool false) (hv := fun _ => run_neqA ((fun w => (eqRL x y (hla _ (List.mem_of_getElem? xh)) (hlb _ (List.mem_of_getElem? yh)) w).trans (by rw [decide_eq_true hxy])) _) (by kernel_rfl) rfl rfl rfl)
     refine TZ (fun _ h => h) fun W hS => ?_
     go_wp2
     go_roundw
     case rel => exact ⟨i + 1, by omega, take_eq_succ hE xh yh hxy, by go_num, hS⟩
     case measure => simp [intOf]; omega
    ·
     have _f := hxy
     go_upto_region 6 with fail
     refine RTh (.q 0 (.q 1 (.q 2 (.q 3 (.q 4 (.q 5 (.q 6 (.q 7 (.q 8 .z))))))))) hS ?_
     clear hS
     refine TV ?_
     refine TV ?_
     refine TW ?_ (v := .pointer (some ⟨ga, oa + i * 64, none⟩)) (hv := fun _ => run_ixRA HAa.out hlt rfl rfl rfl Tryd.underlying38 (by kernel_rfl))
     refine TF (v := .agg (lf x.1 x.2)) rfl (fun W hS => run_atsub rfl rfl (fun i_ v hv => cell_ext (c0a i_ v (by simpa using hv)) hS.ext) (by kernel_rfl) (by rw [lf_size]; kernel_rfl)) ?_
     refine TV ?_
     refine TV ?_
     refine TW ?_ (v := .pointer (some ⟨gb, ob + i * 64, none⟩)) (hv := fun _ => run_ixRA HAb.out hltb rfl rfl rfl Tryd.underlying38 (by kernel_rfl))
     refine TF (v := .agg (lf y.1 y.2)) rfl (fun W hS => run_atsub rfl rfl (fun i_ v hv => cell_ext (c0b i_ v (by simpa using hv)) hS.ext) (by kernel_rfl) (by rw [lf_size]; kernel_rfl)) ?_
     refine TW ?_ (v := .bool true) (hv := fun _ => run_neqA ((fun w => (eqRL x y (hla _ (List.mem_of_getElem? xh)) (hlb _ (List.mem_of_getElem? yh)) w).trans (by rw [decide_eq_false hxy])) _) (by kernel_rfl) rfl rfl rfl)
     refine TZ (fun _ h => h) fun W hS => ?_
     go_wp2
     exact bodyPost_ret (v := .bool false) (by simp only [results, Tryd.results29]; go_simp) rfl ⟨by rw [decide_eq_false (take_ne xh yh hxy)], hS.ext⟩
   ·
    have _f := hlt
    obtain rfl : i = la.length := by omega
    have hab : la = lb := by rw [List.take_length, HL.out, List.take_length] at hE; exact hE
    go_upto_region 4 with fail
    refine RL hS ?_
    clear hS
    refine MV ?_
    refine MV ?_
    refine MV ?_
    refine MW ?_ (v := .bool false)
    refine MZ fun W hS => ?_
    go_wp2
    exact bodyPost_ret (v := .bool true) (by simp only [results, Tryd.results29]; go_simp) rfl ⟨by rw [decide_eq_true hab], hS.ext⟩
 ·
  have _f := hlen
  go_upto_region 1 with fail
  refine RL hS ?_
  clear hS
  refine MV ?_
  refine MV ?_
  refine MV ?_
  refine MV ?_
  refine MW ?_ (v := .bool true)
  refine MZ fun W hS => ?_
  go_wp2
  exact bodyPost_ret (v := .bool false) (by simp only [results, Tryd.results29]; go_simp) rfl ⟨by rw [decide_eq_false fun e => hlen (by rw [e])], hS.ext⟩
theorem few_c {ls : List Lf} {u : Value} (n : Nat) (hn : n ≤ 1000) (w : World) (hl : RR 64 w u (ls.map lfl)) :
  Calls Tryd.prog 21 #[u, .int .i64 (n : Int)] w fun e w' => RRet 24 (ls.take n) w w' e := by
 obtain ⟨Al, cl, rfl, hlcl, HRl⟩ := hl.op
 have hS := SH.nil [] w
 go_enter Tryd.func21, Tryd.ntmps21
 obtain ⟨u11, hu11, hR11⟩ := rr_head (m := min ls.length n) hl (by rw [List.length_map]; omega) Tryd.underlying38 (by kernel_rfl)
 go_upto_region 1 with fail
 refine RL hS ?_
 clear hS
 refine MB0 (t := 24) (n := 64) ?_
 intro v5_1
 refine MV ?_
 refine MV ?_
 refine MV ?_
 refine MV ?_
 refine MW ?_ (v := .int .i64 ((min ls.length n : Nat) : Int))
 refine MW ?_ (v := u11) (hv := fun _ => run_headV hu11 rfl rfl rfl)
 refine MAR 0 (tS := 38) (bytes := 64) (es := []) (fs := (List.map lfl (List.take (min ls.length n) ls))) (fun W hS => (by rw [List.map_take]; exact hR11 W (hl.ext hS.ext))) lfl_all (by first | omega | (simp only [List.length_append, List.length_map, List.length_take, List.length_cons, List.length_nil]; omega)) ?_
 intro v12_2
 refine MV ?_
 refine MZ fun W hS => ?_
 rw [List.nil_append, take_min'] at hS
 go_wp2
 exact bodyPost_ret (v := v12_2) (by simp only [results, Tryd.results21]; go_simp) rfl ⟨_, rfl, hS.pick [0]⟩
end Go.Proofs.YtndnlbinnhdmbaaDoor
