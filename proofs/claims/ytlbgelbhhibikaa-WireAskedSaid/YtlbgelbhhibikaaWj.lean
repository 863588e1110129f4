/- The document's reader: Next, of a kind. Conditions: the texts are not too long. -/
import Derived.Test.YtlbgelbhhibikaaWi
set_option linter.unusedSimpArgs false
set_option linter.unusedVariables false
namespace Go.Proofs.Ytlbgelbhhibikaa
set_option maxHeartbeats 1500000
set_option maxRecDepth 100000
open Go.RowKit
attribute [local irreducible] wpList wpTr wpX
set_option linter.unusedSimpArgs false
/-- a part -/
abbrev ptF (k n : Int) (X : Nat) (t : List UInt8) : Array Value := agF [.c (.int .i64 k), .c (.int .i64 n), .a 32 X, .c (str t)]
abbrev NV (S : List UInt8) (i : Nat) : Int := IntKind.wrap .i64 ((beN (S.take i) : Nat) : Int)
theorem NV_0 (S : List UInt8) : NV S 0 = 0 := by unfold NV; rw [List.take_zero]; rfl
theorem beN_snoc {S : List UInt8} {i : Nat} {c : UInt8} (h : S[i]? = some c) : beN (S.take (i + 1)) = beN (S.take i) * 256 + c.toNat := by
 rw [List.take_add_one, h]; unfold beN; rw [List.foldl_append]; rfl
theorem nuV_eq {s : RSt} {i : Nat} (hi : (tkT 8 s).length ≤ i) : NV (tkT 8 s) i = nuV s := by
 unfold NV nuV
 rw [List.take_of_length_le hi]
 by_cases h : okS 8 s
 ·
  rw [tkT_ok h, if_pos h]
 ·
  rw [tkT_no h, if_neg h]; rfl
theorem suV_eq (s : RSt) : le (List.take 32 (tkT 32 s)) = suV s := by
 unfold suV
 by_cases h : okS 32 s
 ·
  rw [tkT_ok h, if_pos h, List.take_take, Nat.min_self]
 ·
  rw [tkT_no h, if_neg h]; rfl
theorem by_ok {s : RSt} (h : okS 1 s) : byV s = (s.1.headD 0).toNat ∧ tkT 1 s ≠ [] ∧ (tkT 1 s)[0]? = some (s.1.headD 0) := by
 refine ⟨if_pos h, fun e => ?_, ?_⟩
 ·
  have := tkT_len h; rw [e] at this; cases this
 ·
  rw [tkT_ok h]
  match hs : s.1, h.2 with
  | c :: r, _ => rfl
theorem by_no {s : RSt} (h : ¬ okS 1 s) : byV s = 0 := if_neg h
theorem wrap_sm {m : Nat} (h : m ≤ 65535) : IntKind.wrap .i64 ((m : Nat) : Int) = (m : Int) := by rw [IntKind.wrap_i64]; omega

theorem zer_custumalref04_Part : zer Try.prog 107 = some (some (agF [.c (.int .i64 0), .c (.int .i64 0), .a 32 0, .c (str [])])) := by kernel_rfl
theorem plc_custumalref04_Part : plc Try.prog 107 = some [(0, 1), (1, 1), (2, 32), (34, 1)] := by kernel_rfl
theorem dnext_1 {p : Nat} {s : RSt} (most : Int) (w : World) (h_ : SH (SH.feet (dR p s)) w w (dR p s)) :
  Calls Try.prog 34 #[.pointer (some ⟨p, 0, none⟩), .int .i64 1, .int .i64 most] w fun e w' => e = .returned (.agg (ptF 1 (byV s : Int) 0 [])) ∧ SH (SH.feet (dR p s)) w w' (dR p (tkS 1 s)) := by
 have hS := h_
 go_enter Try.func34, Try.ntmps34
 go_upto_region 0 with fail
 refine RL hS ?_
 clear hS
 refine MN (z := agF [.c (.int .i64 0), .c (.int .i64 0), .a 32 0, .c (str [])]) (t := 107) ?_
 intro p6_1
 refine MZ fun W hS => ?_
 go_upto_region 1 with fail
 refine RL hS ?_
 clear hS
 refine MW ?_ (v := .int .i64 1)
 refine MF (v := .agg (agF [.c (.int .i64 1), .c (.int .i64 0), .a 32 0, .c (str [])])) (fun W hS => run_bld rfl rfl zer_custumalref04_Part plc_custumalref04_Part (fill_c fill_n (l' := [.c (.int .i64 1), .c (.int .i64 0), .a 32 0, .c (str [])]) (m := [.c (.int .i64 1)]) (hv := rfl) (hs := agF_setp 0 1) (hp := rfl) (hn := rfl) (hb := by show 0 + 1 ≤ 35; decide))) ?_
 refine MN (z := agF [.c (.int .i64 0), .c (.int .i64 0), .a 32 0, .c (str [])]) (t := 107) ?_
 intro p7_2
 refine MR 0 ?_ (hz := by rw [agF_size]; kernel_rfl) (hs := by rw [agF_size, agF_size]; rfl) (h1 := by exact (agF_one ⟨rfl, rfl, rfl, trivial⟩))
 refine MZ fun W hS => ?_
 go_upto_region 3 with fail
 refine RL hS ?_
 clear hS
 refine MW ?_ (v := .bool true) (hv := by intro W; go_simp; first | done | omega | assumption)
 refine MW ?_ (v := .bool true)
 refine MZ fun W hS => ?_
 go_upto_region 5 with fail
 refine RL hS ?_
 clear hS
 refine MV ?_
 refine Me (v := str (tkT 1 s)) (H' := [.b p #[str (tkS 1 s).1, .int .i64 (tkS 1 s).2] 105, .b p7_2 (agF [.c (.int .i64 1), .c (.int .i64 0), .a 32 0, .c (str [])]) 107, .b p6_1 (agF [.c (.int .i64 0), .c (.int .i64 0), .a 32 0, .c (str [])]) 107]) (fun W hS => callF [2] [0, 1] hS (fun hT => dtake_c (s := s) W hT) ⟨.inr ⟨rfl, rfl⟩, trivial⟩) ?_
 refine MV ?_
 refine MZ fun W hS => ?_
 by_cases hok : okS 1 s
 ·
  have _f := hok
  go_upto_region 6 with fail
  refine RL hS ?_
  clear hS
  refine MV ?_
  refine MW ?_ (v := .bool false) (hv := fun _ => run_streqb (l := (tkT 1 s)) (m := []) (b := false) (decide_eq_false (by_ok hok).2.1) rfl rfl rfl)
  refine MZ fun W hS => ?_
  go_upto_region 8 with fail
  refine RL hS ?_
  clear hS
  refine MV ?_
  refine MW ?_ (v := .int .u8 ((s.1.headD 0).toNat : Int)) (hv := fun _ => run_sby (i := 0) (c := (s.1.headD 0)) ((by_ok hok).2.2) rfl rfl rfl)
  refine MW ?_ (v := .int .i64 (byV s : Int)) (hv := by intro W; rw [(by_ok hok).1]; generalize s.1.headD 0 = c_; have := c_.toNat_lt; go_simp; (try simp only [IntKind.wrap_i64]); (try omega))
  refine MV ?_
  refine MP 1 (v := .int .i64 (byV s : Int)) (cs' := agF [.c (.int .i64 1), .c (.int .i64 (byV s : Int)), .a 32 0, .c (str [])]) ?_ (hs := by rw [agF_size]; show 1 < 35; decide) (hc := agF_setc 1)
  refine MZ fun W hS => ?_
  go_upto_region 9 with fail
  refine RL hS ?_
  clear hS
  refine MW ?_ (v := .int .i64 1)
  refine MW ?_ (v := .bool false) (hv := by intro W; go_simp; first | done | omega | assumption)
  refine MW ?_ (v := .bool false)
  refine MS ?_
  refine MS ?_
  refine MS ?_
  refine MW ?_ (v := .bool false)
  refine MZ fun W hS => ?_
  go_upto_region 33 with fail
  refine RL hS ?_
  clear hS
  refine ML 1 ?_ (hs := by rw [agF_size]; kernel_rfl)
  refine MR 2 ?_ (hz := by rw [agF_size]; kernel_rfl) (hs := by rw [agF_size, agF_size]; rfl) (h1 := by exact (agF_one ⟨rfl, rfl, rfl, trivial⟩))
  refine MZ fun W hS => ?_
  go_wp2
  exact bodyPost_ret (res_row rfl rfl (hS.blk (i := 2) rfl) (by kernel_rfl) (by rw [agF_size]; kernel_rfl)) rfl ⟨rfl, hS.pick [0]⟩
 ·
  have _f := hok
  go_upto_region 6 with fail
  refine RL hS ?_
  clear hS
  refine MV ?_
  refine MW ?_ (v := .bool true) (hv := fun _ => run_streqb (l := (tkT 1 s)) (m := []) (b := true) (decide_eq_true (tkT_no hok)) rfl rfl rfl)
  refine MZ fun W hS => ?_
  go_upto_region 7 with fail
  refine RL hS ?_
  clear hS
  refine ML 1 ?_ (hs := by rw [agF_size]; kernel_rfl)
  refine MR 2 ?_ (hz := by rw [agF_size]; kernel_rfl) (hs := by rw [agF_size, agF_size]; rfl) (h1 := by exact (agF_one ⟨rfl, rfl, rfl, trivial⟩))
  refine MZ fun W hS => ?_
  go_wp2
  exact bodyPost_ret (res_row rfl rfl (hS.blk (i := 2) rfl) (by kernel_rfl) (by rw [agF_size]; kernel_rfl)) rfl ⟨by rw [by_no hok]; rfl, hS.pick [0]⟩
theorem dnext_3 {p : Nat} {s : RSt} (most : Int) (w : World) (h_ : SH (SH.feet (dR p s)) w w (dR p s)) :
  Calls Try.prog 34 #[.pointer (some ⟨p, 0, none⟩), .int .i64 3, .int .i64 most] w fun e w' => e = .returned (.agg (ptF 3 (nuV s) 0 [])) ∧ SH (SH.feet (dR p s)) w w' (dR p (tkS 8 s)) := by
 have hS := h_
 go_enter Try.func34, Try.ntmps34
 go_upto_region 0 with fail
 refine RL hS ?_
 clear hS
 refine MN (z := agF [.c (.int .i64 0), .c (.int .i64 0), .a 32 0, .c (str [])]) (t := 107) ?_
 intro p6_1
 refine MZ fun W hS => ?_
 go_upto_region 1 with fail
 refine RL hS ?_
 clear hS
 refine MW ?_ (v := .int .i64 3)
 refine MF (v := .agg (agF [.c (.int .i64 3), .c (.int .i64 0), .a 32 0, .c (str [])])) (fun W hS => run_bld rfl rfl zer_custumalref04_Part plc_custumalref04_Part (fill_c fill_n (l' := [.c (.int .i64 3), .c (.int .i64 0), .a 32 0, .c (str [])]) (m := [.c (.int .i64 3)]) (hv := rfl) (hs := agF_setp 0 1) (hp := rfl) (hn := rfl) (hb := by show 0 + 1 ≤ 35; decide))) ?_
 refine MN (z := agF [.c (.int .i64 0), .c (.int .i64 0), .a 32 0, .c (str [])]) (t := 107) ?_
 intro p7_2
 refine MR 0 ?_ (hz := by rw [agF_size]; kernel_rfl) (hs := by rw [agF_size, agF_size]; rfl) (h1 := by exact (agF_one ⟨rfl, rfl, rfl, trivial⟩))
 refine MZ fun W hS => ?_
 go_upto_region 3 with fail
 refine RL hS ?_
 clear hS
 refine MW ?_ (v := .bool false) (hv := by intro W; go_simp; first | done | omega | assumption)
 refine MW ?_ (v := .bool false)
 refine MZ fun W hS => ?_
 go_upto_region 4 with fail
 refine RL hS ?_
 clear hS
 refine MW ?_ (v := .bool false) (hv := by intro W; go_simp; first | done | omega | assumption)
 refine MW ?_ (v := .bool false)
 refine MZ fun W hS => ?_
 go_upto_region 11 with fail
 refine RL hS ?_
 clear hS
 refine MW ?_ (v := .bool true) (hv := by intro W; go_simp; first | done | omega | assumption)
 refine MW ?_ (v := .bool true)
 refine MZ fun W hS => ?_
 go_upto_region 12 with fail
 refine RL hS ?_
 clear hS
 refine MV ?_
 refine Me (v := str (tkT 8 s)) (H' := [.b p #[str (tkS 8 s).1, .int .i64 (tkS 8 s).2] 105, .b p7_2 (agF [.c (.int .i64 3), .c (.int .i64 0), .a 32 0, .c (str [])]) 107, .b p6_1 (agF [.c (.int .i64 0), .c (.int .i64 0), .a 32 0, .c (str [])]) 107]) (fun W hS => callF [2] [0, 1] hS (fun hT => dtake_c (s := s) W hT) ⟨.inr ⟨rfl, rfl⟩, trivial⟩) ?_
 refine MV ?_
 refine MZ fun W hS => ?_
 go_wp2_with fail
 go_loopw [10] (fun ii wr => ∃ (i : Nat), (i ≤ 8) ∧ (ii = .int .i64 (i : Int)) ∧ SH (SH.feet (dR p s)) w wr [.b p7_2 (agF [.c (.int .i64 3), .c (.int .i64 (NV (tkT 8 s) i)), .a 32 0, .c (str [])]) 107, .b p6_1 (agF [.c (.int .i64 0), .c (.int .i64 0), .a 32 0, .c (str [])]) 107, .b p #[str (tkS 8 s).1, .int .i64 (tkS 8 s).2] 105])
  (fun ii _ => 8 - (intOf ii).toNat)
 case atStart => exact ⟨0, by omega, rfl, (by rw [NV_0]; exact (hS.pick [1, 2, 0]))⟩
 clear hS
 case round =>
  obtain ⟨i, hi, rfl, hS⟩ := hrel
  by_cases hlt : i < (tkT 8 s).length
  ·
   have _f := hlt
   obtain ⟨c, hc⟩ : ∃ c, (tkT 8 s)[i]? = some c := ⟨_, List.getElem?_eq_getElem hlt⟩
   go_upto_region 14 with fail
   refine RL hS ?_
   clear hS
   refine MV ?_
   refine MV ?_
   refine MW ?_ (v := .int .i64 ((tkT 8 s).length : Int)) (hv := fun _ => run_slen (l := (tkT 8 s)) rfl rfl)
   refine MW ?_ (v := .bool true) (hv := by intro W; go_simp; first | done | omega | assumption)
   refine MZ fun W hS => ?_
   go_upto_region 16 with fail
   refine RTp [1, 2] (.q 0 (.q 3 (.q 4 (.q 5 (.q 6 (.e 1 (.q 2 (.q 7 (.q 8 (.e 9 .z)))))))))) hS ?_
   clear hS
   refine TV ?_
   refine TV ?_
   refine TV ?_
   refine TW ?_ (v := .int .u8 (c.toNat : Int)) (hv := fun _ => run_sby (i := i) (c := c) (hc) rfl rfl rfl)
   refine TW ?_ (v := .int .i64 (c.toNat : Int)) (hv := by intro W; have := c.toNat_lt; go_simp; (try simp only [IntKind.wrap_i64]); (try omega))
   refine TE (fun _ h => h.pick [1, 2]) ?_
   refine MG 0 ?_ (v := .int .i64 (NV (tkT 8 s) i)) (hj := (agF_cel 1))
   refine TNp [1, 2] [0, 1] ?_
   refine TW ?_ (v := .int .i64 (IntKind.wrap .i64 ((beN (List.take i (tkT 8 s)) * 256 : Nat) : Int))) (hv := by intro W; exact run_shl8 (Y := beN (List.take i (tkT 8 s))) rfl rfl)
   refine TW ?_ (v := .int .i64 (NV (tkT 8 s) (i + 1))) (hv := by intro W; exact run_or8 (Y := beN (List.take i (tkT 8 s))) (z := c.toNat) (Y' := beN (List.take (i + 1) (tkT 8 s))) c.toNat_lt (beN_snoc hc) rfl rfl rfl)
   refine TV ?_
   refine TE (fun _ h => h.pick [1, 2]) ?_
   refine MP 0 (v := .int .i64 (NV (tkT 8 s) (i + 1))) (cs' := agF [.c (.int .i64 3), .c (.int .i64 (NV (tkT 8 s) (i + 1))), .a 32 0, .c (str [])]) ?_ (hs := by rw [agF_size]; show 1 < 35; decide) (hc := agF_setc 1)
   refine TNp [1, 2] [0, 1] ?_
   refine TZ (fun _ h => h.pick [1, 2]) fun W hS => ?_
   go_wp2
   go_roundw
   case rel => exact ⟨i + 1, by have := tkT_le 8 s; omega, by go_num, hS⟩
   case measure => have := tkT_le 8 s; simp [intOf]; omega
  ·
   have _f := hlt
   go_upto_region 14 with fail
   refine RL hS ?_
   clear hS
   refine MV ?_
   refine MV ?_
   refine MW ?_ (v := .int .i64 ((tkT 8 s).length : Int)) (hv := fun _ => run_slen (l := (tkT 8 s)) rfl rfl)
   refine MW ?_ (v := .bool false) (hv := by intro W; go_simp; first | done | omega | assumption)
   refine MZ fun W hS => ?_
   go_upto_region 33 with fail
   refine RL hS ?_
   clear hS
   refine ML 0 ?_ (hs := by rw [agF_size]; kernel_rfl)
   refine MR 1 ?_ (hz := by rw [agF_size]; kernel_rfl) (hs := by rw [agF_size, agF_size]; rfl) (h1 := by exact (agF_one ⟨rfl, rfl, rfl, trivial⟩))
   refine MZ fun W hS => ?_
   go_wp2
   exact bodyPost_ret (res_row rfl rfl (hS.blk (i := 1) rfl) (by kernel_rfl) (by rw [agF_size]; kernel_rfl)) rfl ⟨by rw [nuV_eq (by omega)], hS.pick [2]⟩
theorem dnext_4 {p : Nat} {s : RSt} (most : Int) (w : World) (h_ : SH (SH.feet (dR p s)) w w (dR p s)) :
  Calls Try.prog 34 #[.pointer (some ⟨p, 0, none⟩), .int .i64 4, .int .i64 most] w fun e w' => e = .returned (.agg (ptF 4 0 (suV s) [])) ∧ SH (SH.feet (dR p s)) w w' (dR p (tkS 32 s)) := by
 have hS := h_
 go_enter Try.func34, Try.ntmps34
 go_upto_region 0 with fail
 refine RL hS ?_
 clear hS
 refine MN (z := agF [.c (.int .i64 0), .c (.int .i64 0), .a 32 0, .c (str [])]) (t := 107) ?_
 intro p6_1
 refine MZ fun W hS => ?_
 go_upto_region 1 with fail
 refine RL hS ?_
 clear hS
 refine MW ?_ (v := .int .i64 4)
 refine MF (v := .agg (agF [.c (.int .i64 4), .c (.int .i64 0), .a 32 0, .c (str [])])) (fun W hS => run_bld rfl rfl zer_custumalref04_Part plc_custumalref04_Part (fill_c fill_n (l' := [.c (.int .i64 4), .c (.int .i64 0), .a 32 0, .c (str [])]) (m := [.c (.int .i64 4)]) (hv := rfl) (hs := agF_setp 0 1) (hp := rfl) (hn := rfl) (hb := by show 0 + 1 ≤ 35; decide))) ?_
 refine MN (z := agF [.c (.int .i64 0), .c (.int .i64 0), .a 32 0, .c (str [])]) (t := 107) ?_
 intro p7_2
 refine MR 0 ?_ (hz := by rw [agF_size]; kernel_rfl) (hs := by rw [agF_size, agF_size]; rfl) (h1 := by exact (agF_one ⟨rfl, rfl, rfl, trivial⟩))
 refine MZ fun W hS => ?_
 go_upto_region 3 with fail
 refine RL hS ?_
 clear hS
 refine MW ?_ (v := .bool false) (hv := by intro W; go_simp; first | done | omega | assumption)
 refine MW ?_ (v := .bool false)
 refine MZ fun W hS => ?_
 go_upto_region 4 with fail
 refine RL hS ?_
 clear hS
 refine MW ?_ (v := .bool false) (hv := by intro W; go_simp; first | done | omega | assumption)
 refine MW ?_ (v := .bool false)
 refine MZ fun W hS => ?_
 go_upto_region 11 with fail
 refine RL hS ?_
 clear hS
 refine MW ?_ (v := .bool false) (hv := by intro W; go_simp; first | done | omega | assumption)
 refine MW ?_ (v := .bool false)
 refine MZ fun W hS => ?_
 go_upto_region 17 with fail
 refine RL hS ?_
 clear hS
 refine MW ?_ (v := .bool true) (hv := by intro W; go_simp; first | done | omega | assumption)
 refine MW ?_ (v := .bool true)
 refine MZ fun W hS => ?_
 go_upto_region 18 with fail
 refine RTp [1] (.q 0 (.q 1 (.q 2 (.e 3 (.e 4 .z))))) hS ?_
 clear hS
 refine TV ?_
 refine TW ?_ (v := .slice (some ⟨p7_2, 2, none⟩) 32 32)
 refine TV ?_
 refine TE (fun _ h => h.pick [1]) ?_
 refine Me (v := str (tkT 32 s)) (H' := [.b p #[str (tkS 32 s).1, .int .i64 (tkS 32 s).2] 105, .b p7_2 (agF [.c (.int .i64 4), .c (.int .i64 0), .a 32 0, .c (str [])]) 107, .b p6_1 (agF [.c (.int .i64 0), .c (.int .i64 0), .a 32 0, .c (str [])]) 107]) (fun W hS => callF [2] [0, 1] hS (fun hT => dtake_c (s := s) W hT) ⟨.inr ⟨rfl, rfl⟩, trivial⟩) ?_
 refine TNp [2] [0] ?_
 refine TE (fun _ h => h.pick [2]) ?_
 refine MCq 1 (l := (tkT 32 s)) (N := 32) (cs := agF [.c (.int .i64 4), .c (.int .i64 0), .a 32 0, .c (str [])]) (new := agF [.c (.int .i64 4), .c (.int .i64 0), .a 32 (le (List.take 32 (tkT 32 s))), .c (str [])]) (off := 2) (cpF 2 rfl rfl rfl) ?_
 refine TNp [2] [0] ?_
 refine TZ (fun _ h => h.pick [2]) fun W hS => ?_
 go_upto_region 33 with fail
 refine RL hS ?_
 clear hS
 refine ML 1 ?_ (hs := by rw [agF_size]; kernel_rfl)
 refine MR 2 ?_ (hz := by rw [agF_size]; kernel_rfl) (hs := by rw [agF_size, agF_size]; rfl) (h1 := by exact (agF_one ⟨rfl, rfl, rfl, trivial⟩))
 refine MZ fun W hS => ?_
 go_wp2
 exact bodyPost_ret (res_row rfl rfl (hS.blk (i := 2) rfl) (by kernel_rfl) (by rw [agF_size]; kernel_rfl)) rfl ⟨by rw [suV_eq], hS.pick [0]⟩
theorem dnext_5e {p : Nat} {l : List UInt8} {e0 : Int} (he : e0 ≠ 0) (most : Int) (w : World) (h_ : SH (SH.feet (dR p (l, e0))) w w (dR p (l, e0))) :
  Calls Try.prog 34 #[.pointer (some ⟨p, 0, none⟩), .int .i64 5, .int .i64 most] w fun e w' => e = .returned (.agg (ptF 5 0 0 [])) ∧ SH (SH.feet (dR p (l, e0))) w w' (dR p (l, e0)) := by
 have hS := h_
 go_enter Try.func34, Try.ntmps34
 go_upto_region 0 with fail
 refine RL hS ?_
 clear hS
 refine MN (z := agF [.c (.int .i64 0), .c (.int .i64 0), .a 32 0, .c (str [])]) (t := 107) ?_
 intro p6_1
 refine MZ fun W hS => ?_
 go_upto_region 1 with fail
 refine RL hS ?_
 clear hS
 refine MW ?_ (v := .int .i64 5)
 refine MF (v := .agg (agF [.c (.int .i64 5), .c (.int .i64 0), .a 32 0, .c (str [])])) (fun W hS => run_bld rfl rfl zer_custumalref04_Part plc_custumalref04_Part (fill_c fill_n (l' := [.c (.int .i64 5), .c (.int .i64 0), .a 32 0, .c (str [])]) (m := [.c (.int .i64 5)]) (hv := rfl) (hs := agF_setp 0 1) (hp := rfl) (hn := rfl) (hb := by show 0 + 1 ≤ 35; decide))) ?_
 refine MN (z := agF [.c (.int .i64 0), .c (.int .i64 0), .a 32 0, .c (str [])]) (t := 107) ?_
 intro p7_2
 refine MR 0 ?_ (hz := by rw [agF_size]; kernel_rfl) (hs := by rw [agF_size, agF_size]; rfl) (h1 := by exact (agF_one ⟨rfl, rfl, rfl, trivial⟩))
 refine MZ fun W hS => ?_
 go_upto_region 3 with fail
 refine RL hS ?_
 clear hS
 refine MW ?_ (v := .bool false) (hv := by intro W; go_simp; first | done | omega | assumption)
 refine MW ?_ (v := .bool false)
 refine MZ fun W hS => ?_
 go_upto_region 4 with fail
 refine RL hS ?_
 clear hS
 refine MW ?_ (v := .bool false) (hv := by intro W; go_simp; first | done | omega | assumption)
 refine MW ?_ (v := .bool false)
 refine MZ fun W hS => ?_
 go_upto_region 11 with fail
 refine RL hS ?_
 clear hS
 refine MW ?_ (v := .bool false) (hv := by intro W; go_simp; first | done | omega | assumption)
 refine MW ?_ (v := .bool false)
 refine MZ fun W hS => ?_
 go_upto_region 17 with fail
 refine RL hS ?_
 clear hS
 refine MW ?_ (v := .bool false) (hv := by intro W; go_simp; first | done | omega | assumption)
 refine MW ?_ (v := .bool false)
 refine MZ fun W hS => ?_
 go_upto_region 19 with fail
 refine RL hS ?_
 clear hS
 refine MW ?_ (v := .bool true) (hv := by intro W; go_simp; first | done | omega | assumption)
 refine MW ?_ (v := .bool true)
 refine MZ fun W hS => ?_
 go_upto_region 20 with fail
 refine RL hS ?_
 clear hS
 refine MV ?_
 refine MV ?_
 refine MV ?_
 refine MG 2 ?_ (v := .int .i64 e0)
 refine MW ?_ (v := .bool false) (hv := by intro W; go_simp; first | done | omega | assumption)
 refine MW ?_ (v := .bool false)
 refine MS ?_
 refine MS ?_
 refine MS ?_
 refine MS ?_
 refine MS ?_
 refine MS ?_
 refine MW ?_ (v := .bool false) (hv := by intro W; go_simp; first | done | omega | assumption)
 refine MZ fun W hS => ?_
 go_upto_region 22 with fail
 refine RL hS ?_
 clear hS
 refine MV ?_
 refine MV ?_
 refine MV ?_
 refine MG 2 ?_ (v := .int .i64 e0)
 refine MW ?_ (v := .bool true) (hv := by intro W; go_simp; first | done | exact he | omega)
 refine MZ fun W hS => ?_
 go_upto_region 23 with fail
 refine RL hS ?_
 clear hS
 refine ML 0 ?_ (hs := by rw [agF_size]; kernel_rfl)
 refine MR 1 ?_ (hz := by rw [agF_size]; kernel_rfl) (hs := by rw [agF_size, agF_size]; rfl) (h1 := by exact (agF_one ⟨rfl, rfl, rfl, trivial⟩))
 refine MZ fun W hS => ?_
 go_wp2
 exact bodyPost_ret (res_row rfl rfl (hS.blk (i := 1) rfl) (by kernel_rfl) (by rw [agF_size]; kernel_rfl)) rfl ⟨rfl, hS.pick [2]⟩
theorem dnext_5s {p : Nat} {l : List UInt8} (hl : l.length < 2) (most : Int) (w : World) (h_ : SH (SH.feet (dR p (l, 0))) w w (dR p (l, 0))) :
  Calls Try.prog 34 #[.pointer (some ⟨p, 0, none⟩), .int .i64 5, .int .i64 most] w fun e w' => e = .returned (.agg (ptF 5 0 0 [])) ∧ SH (SH.feet (dR p (l, 0))) w w' (dR p (l, 3)) := by
 have hS := h_
 go_enter Try.func34, Try.ntmps34
 go_upto_region 0 with fail
 refine RL hS ?_
 clear hS
 refine MN (z := agF [.c (.int .i64 0), .c (.int .i64 0), .a 32 0, .c (str [])]) (t := 107) ?_
 intro p6_1
 refine MZ fun W hS => ?_
 go_upto_region 1 with fail
 refine RL hS ?_
 clear hS
 refine MW ?_ (v := .int .i64 5)
 refine MF (v := .agg (agF [.c (.int .i64 5), .c (.int .i64 0), .a 32 0, .c (str [])])) (fun W hS => run_bld rfl rfl zer_custumalref04_Part plc_custumalref04_Part (fill_c fill_n (l' := [.c (.int .i64 5), .c (.int .i64 0), .a 32 0, .c (str [])]) (m := [.c (.int .i64 5)]) (hv := rfl) (hs := agF_setp 0 1) (hp := rfl) (hn := rfl) (hb := by show 0 + 1 ≤ 35; decide))) ?_
 refine MN (z := agF [.c (.int .i64 0), .c (.int .i64 0), .a 32 0, .c (str [])]) (t := 107) ?_
 intro p7_2
 refine MR 0 ?_ (hz := by rw [agF_size]; kernel_rfl) (hs := by rw [agF_size, agF_size]; rfl) (h1 := by exact (agF_one ⟨rfl, rfl, rfl, trivial⟩))
 refine MZ fun W hS => ?_
 go_upto_region 3 with fail
 refine RL hS ?_
 clear hS
 refine MW ?_ (v := .bool false) (hv := by intro W; go_simp; first | done | omega | assumption)
 refine MW ?_ (v := .bool false)
 refine MZ fun W hS => ?_
 go_upto_region 4 with fail
 refine RL hS ?_
 clear hS
 refine MW ?_ (v := .bool false) (hv := by intro W; go_simp; first | done | omega | assumption)
 refine MW ?_ (v := .bool false)
 refine MZ fun W hS => ?_
 go_upto_region 11 with fail
 refine RL hS ?_
 clear hS
 refine MW ?_ (v := .bool false) (hv := by intro W; go_simp; first | done | omega | assumption)
 refine MW ?_ (v := .bool false)
 refine MZ fun W hS => ?_
 go_upto_region 17 with fail
 refine RL hS ?_
 clear hS
 refine MW ?_ (v := .bool false) (hv := by intro W; go_simp; first | done | omega | assumption)
 refine MW ?_ (v := .bool false)
 refine MZ fun W hS => ?_
 go_upto_region 19 with fail
 refine RL hS ?_
 clear hS
 refine MW ?_ (v := .bool true) (hv := by intro W; go_simp; first | done | omega | assumption)
 refine MW ?_ (v := .bool true)
 refine MZ fun W hS => ?_
 go_upto_region 20 with fail
 refine RL hS ?_
 clear hS
 refine MV ?_
 refine MV ?_
 refine MV ?_
 refine MG 2 ?_ (v := .int .i64 0)
 refine MW ?_ (v := .bool true) (hv := by intro W; go_simp; first | done | omega | assumption)
 refine MW ?_ (v := .bool true)
 refine MV ?_
 refine MV ?_
 refine MV ?_
 refine MG 2 ?_ (v := str l)
 refine MW ?_ (v := .int .i64 (l.length : Int)) (hv := fun _ => run_slen (l := l) rfl rfl)
 refine MW ?_ (v := .bool true) (hv := by intro W; go_simp; first | done | omega | assumption)
 refine MW ?_ (v := .bool true) (hv := by intro W; go_simp; first | done | omega | assumption)
 refine MZ fun W hS => ?_
 go_upto_region 21 with fail
 refine RL hS ?_
 clear hS
 refine MV ?_
 refine MV ?_
 refine MV ?_
 refine MP 2 (v := .int .i64 3) ?_
 refine MZ fun W hS => ?_
 go_upto_region 22 with fail
 refine RL hS ?_
 clear hS
 refine MV ?_
 refine MV ?_
 refine MV ?_
 refine MG 2 ?_ (v := .int .i64 3)
 refine MW ?_ (v := .bool true)
 refine MZ fun W hS => ?_
 go_upto_region 23 with fail
 refine RL hS ?_
 clear hS
 refine ML 0 ?_ (hs := by rw [agF_size]; kernel_rfl)
 refine MR 1 ?_ (hz := by rw [agF_size]; kernel_rfl) (hs := by rw [agF_size, agF_size]; rfl) (h1 := by exact (agF_one ⟨rfl, rfl, rfl, trivial⟩))
 refine MZ fun W hS => ?_
 go_wp2
 exact bodyPost_ret (res_row rfl rfl (hS.blk (i := 1) rfl) (by kernel_rfl) (by rw [agF_size]; kernel_rfl)) rfl ⟨rfl, hS.pick [2]⟩
theorem dnext_5b {p : Nat} {a b : UInt8} {X : List UInt8} {m : Nat} (hm : a.toNat * 256 + b.toNat = m)  (most : Int) (hb : most < (m : Int)) (w : World) (h_ : SH (SH.feet (dR p (a :: b :: X, 0))) w w (dR p (a :: b :: X, 0))) :
  Calls Try.prog 34 #[.pointer (some ⟨p, 0, none⟩), .int .i64 5, .int .i64 most] w fun e w' => e = .returned (.agg (ptF 5 0 0 [])) ∧ SH (SH.feet (dR p (a :: b :: X, 0))) w w' (dR p (a :: b :: X, 5)) := by
 have Hm := Lib.hid hm
 have hm2 : m ≤ 65535 := by have := a.toNat_lt; have := b.toNat_lt; omega
 clear hm
 have hS := h_
 go_enter Try.func34, Try.ntmps34
 go_upto_region 0 with fail
 refine RL hS ?_
 clear hS
 refine MN (z := agF [.c (.int .i64 0), .c (.int .i64 0), .a 32 0, .c (str [])]) (t := 107) ?_
 intro p6_1
 refine MZ fun W hS => ?_
 go_upto_region 1 with fail
 refine RL hS ?_
 clear hS
 refine MW ?_ (v := .int .i64 5)
 refine MF (v := .agg (agF [.c (.int .i64 5), .c (.int .i64 0), .a 32 0, .c (str [])])) (fun W hS => run_bld rfl rfl zer_custumalref04_Part plc_custumalref04_Part (fill_c fill_n (l' := [.c (.int .i64 5), .c (.int .i64 0), .a 32 0, .c (str [])]) (m := [.c (.int .i64 5)]) (hv := rfl) (hs := agF_setp 0 1) (hp := rfl) (hn := rfl) (hb := by show 0 + 1 ≤ 35; decide))) ?_
 refine MN (z := agF [.c (.int .i64 0), .c (.int .i64 0), .a 32 0, .c (str [])]) (t := 107) ?_
 intro p7_2
 refine MR 0 ?_ (hz := by rw [agF_size]; kernel_rfl) (hs := by rw [agF_size, agF_size]; rfl) (h1 := by exact (agF_one ⟨rfl, rfl, rfl, trivial⟩))
 refine MZ fun W hS => ?_
 go_upto_region 3 with fail
 refine RL hS ?_
 clear hS
 refine MW ?_ (v := .bool false) (hv := by intro W; go_simp; first | done | omega | assumption)
 refine MW ?_ (v := .bool false)
 refine MZ fun W hS => ?_
 go_upto_region 4 with fail
 refine RL hS ?_
 clear hS
 refine MW ?_ (v := .bool false) (hv := by intro W; go_simp; first | done | omega | assumption)
 refine MW ?_ (v := .bool false)
 refine MZ fun W hS => ?_
 go_upto_region 11 with fail
 refine RL hS ?_
 clear hS
 refine MW ?_ (v := .bool false) (hv := by intro W; go_simp; first | done | omega | assumption)
 refine MW ?_ (v := .bool false)
 refine MZ fun W hS => ?_
 go_upto_region 17 with fail
 refine RL hS ?_
 clear hS
 refine MW ?_ (v := .bool false) (hv := by intro W; go_simp; first | done | omega | assumption)
 refine MW ?_ (v := .bool false)
 refine MZ fun W hS => ?_
 go_upto_region 19 with fail
 refine RL hS ?_
 clear hS
 refine MW ?_ (v := .bool true) (hv := by intro W; go_simp; first | done | omega | assumption)
 refine MW ?_ (v := .bool true)
 refine MZ fun W hS => ?_
 go_upto_region 20 with fail
 refine RL hS ?_
 clear hS
 refine MV ?_
 refine MV ?_
 refine MV ?_
 refine MG 2 ?_ (v := .int .i64 0)
 refine MW ?_ (v := .bool true) (hv := by intro W; go_simp; first | done | omega | assumption)
 refine MW ?_ (v := .bool true)
 refine MV ?_
 refine MV ?_
 refine MV ?_
 refine MG 2 ?_ (v := str (a :: b :: X))
 refine MW ?_ (v := .int .i64 ((a :: b :: X).length : Int)) (hv := fun _ => run_slen (l := (a :: b :: X)) rfl rfl)
 refine MW ?_ (v := .bool false) (hv := by intro W; go_simp; first | done | omega | assumption)
 refine MW ?_ (v := .bool false) (hv := by intro W; go_simp; first | done | omega | assumption)
 refine MZ fun W hS => ?_
 go_upto_region 22 with fail
 refine RL hS ?_
 clear hS
 refine MV ?_
 refine MV ?_
 refine MV ?_
 refine MG 2 ?_ (v := .int .i64 0)
 refine MW ?_ (v := .bool false) (hv := by intro W; go_simp; first | done | omega | assumption)
 refine MZ fun W hS => ?_
 go_upto_region 24 with fail
 refine RTh (.q 0 (.q 1 (.q 2 (.q 3 (.q 4 (.q 5 (.q 6 (.q 7 (.q 8 (.q 9 (.q 10 (.q 11 (.q 12 (.q 13 (.q 14 .z))))))))))))))) hS ?_
 clear hS
 refine TV ?_
 refine TV ?_
 refine TV ?_
 refine TG 2 ?_ (v := str (a :: b :: X))
 refine TW ?_ (v := .int .u8 (a.toNat : Int)) (hv := fun _ => run_sby (i := 0) (c := a) (rfl) rfl rfl rfl)
 refine TW ?_ (v := .int .i64 (IntKind.wrap .i64 ((a.toNat : Nat) : Int))) (hv := by intro W; have := a.toNat_lt; go_simp; (try simp only [IntKind.wrap_i64]); (try omega))
 refine TW ?_ (v := .int .i64 (IntKind.wrap .i64 ((a.toNat * 256 : Nat) : Int))) (hv := by intro W; exact run_shl8 (Y := a.toNat) rfl rfl)
 refine TV ?_
 refine TV ?_
 refine TV ?_
 refine TG 2 ?_ (v := str (a :: b :: X))
 refine TW ?_ (v := .int .u8 (b.toNat : Int)) (hv := fun _ => run_sby (i := 1) (c := b) (rfl) rfl rfl rfl)
 refine TW ?_ (v := .int .i64 (b.toNat : Int)) (hv := by intro W; have := b.toNat_lt; go_simp; (try simp only [IntKind.wrap_i64]); (try omega))
 refine TW ?_ (v := .int .i64 (m : Int)) (hv := by intro W; rw [← wrap_sm (m := m) (by omega)]; exact run_or8 (Y := a.toNat) (z := b.toNat) (Y' := m) b.toNat_lt Hm.out.symm rfl rfl rfl)
 refine TV ?_
 refine TZ (fun _ h => h) fun W hS => ?_
 go_upto_region 25 with fail
 refine RL hS ?_
 clear hS
 refine MV ?_
 refine MV ?_
 refine MW ?_ (v := .bool true) (hv := by intro W; go_simp; first | done | omega | assumption)
 refine MZ fun W hS => ?_
 go_upto_region 26 with fail
 refine RL hS ?_
 clear hS
 refine MV ?_
 refine MV ?_
 refine MV ?_
 refine MP 2 (v := .int .i64 5) ?_
 refine MZ fun W hS => ?_
 go_upto_region 27 with fail
 refine RL hS ?_
 clear hS
 refine ML 0 ?_ (hs := by rw [agF_size]; kernel_rfl)
 refine MR 1 ?_ (hz := by rw [agF_size]; kernel_rfl) (hs := by rw [agF_size, agF_size]; rfl) (h1 := by exact (agF_one ⟨rfl, rfl, rfl, trivial⟩))
 refine MZ fun W hS => ?_
 go_wp2
 exact bodyPost_ret (res_row rfl rfl (hS.blk (i := 1) rfl) (by kernel_rfl) (by rw [agF_size]; kernel_rfl)) rfl ⟨rfl, hS.pick [2]⟩
theorem dnext_5t {p : Nat} {a b : UInt8} {X : List UInt8} {m : Nat} (hm : a.toNat * 256 + b.toNat = m) (hX : X.length < m) (most : Int) (hb : ¬ most < (m : Int)) (w : World) (h_ : SH (SH.feet (dR p (a :: b :: X, 0))) w w (dR p (a :: b :: X, 0))) :
  Calls Try.prog 34 #[.pointer (some ⟨p, 0, none⟩), .int .i64 5, .int .i64 most] w fun e w' => e = .returned (.agg (ptF 5 0 0 [])) ∧ SH (SH.feet (dR p (a :: b :: X, 0))) w w' (dR p (a :: b :: X, 3)) := by
 have Hm := Lib.hid hm
 have hm2 : m ≤ 65535 := by have := a.toNat_lt; have := b.toNat_lt; omega
 clear hm
 have hS := h_
 go_enter Try.func34, Try.ntmps34
 go_upto_region 0 with fail
 refine RL hS ?_
 clear hS
 refine MN (z := agF [.c (.int .i64 0), .c (.int .i64 0), .a 32 0, .c (str [])]) (t := 107) ?_
 intro p6_1
 refine MZ fun W hS => ?_
 go_upto_region 1 with fail
 refine RL hS ?_
 clear hS
 refine MW ?_ (v := .int .i64 5)
 refine MF (v := .agg (agF [.c (.int .i64 5), .c (.int .i64 0), .a 32 0, .c (str [])])) (fun W hS => run_bld rfl rfl zer_custumalref04_Part plc_custumalref04_Part (fill_c fill_n (l' := [.c (.int .i64 5), .c (.int .i64 0), .a 32 0, .c (str [])]) (m := [.c (.int .i64 5)]) (hv := rfl) (hs := agF_setp 0 1) (hp := rfl) (hn := rfl) (hb := by show 0 + 1 ≤ 35; decide))) ?_
 refine MN (z := agF [.c (.int .i64 0), .c (.int .i64 0), .a 32 0, .c (str [])]) (t := 107) ?_
 intro p7_2
 refine MR 0 ?_ (hz := by rw [agF_size]; kernel_rfl) (hs := by rw [agF_size, agF_size]; rfl) (h1 := by exact (agF_one ⟨rfl, rfl, rfl, trivial⟩))
 refine MZ fun W hS => ?_
 go_upto_region 3 with fail
 refine RL hS ?_
 clear hS
 refine MW ?_ (v := .bool false) (hv := by intro W; go_simp; first | done | omega | assumption)
 refine MW ?_ (v := .bool false)
 refine MZ fun W hS => ?_
 go_upto_region 4 with fail
 refine RL hS ?_
 clear hS
 refine MW ?_ (v := .bool false) (hv := by intro W; go_simp; first | done | omega | assumption)
 refine MW ?_ (v := .bool false)
 refine MZ fun W hS => ?_
 go_upto_region 11 with fail
 refine RL hS ?_
 clear hS
 refine MW ?_ (v := .bool false) (hv := by intro W; go_simp; first | done | omega | assumption)
 refine MW ?_ (v := .bool false)
 refine MZ fun W hS => ?_
 go_upto_region 17 with fail
 refine RL hS ?_
 clear hS
 refine MW ?_ (v := .bool false) (hv := by intro W; go_simp; first | done | omega | assumption)
 refine MW ?_ (v := .bool false)
 refine MZ fun W hS => ?_
 go_upto_region 19 with fail
 refine RL hS ?_
 clear hS
 refine MW ?_ (v := .bool true) (hv := by intro W; go_simp; first | done | omega | assumption)
 refine MW ?_ (v := .bool true)
 refine MZ fun W hS => ?_
 go_upto_region 20 with fail
 refine RL hS ?_
 clear hS
 refine MV ?_
 refine MV ?_
 refine MV ?_
 refine MG 2 ?_ (v := .int .i64 0)
 refine MW ?_ (v := .bool true) (hv := by intro W; go_simp; first | done | omega | assumption)
 refine MW ?_ (v := .bool true)
 refine MV ?_
 refine MV ?_
 refine MV ?_
 refine MG 2 ?_ (v := str (a :: b :: X))
 refine MW ?_ (v := .int .i64 ((a :: b :: X).length : Int)) (hv := fun _ => run_slen (l := (a :: b :: X)) rfl rfl)
 refine MW ?_ (v := .bool false) (hv := by intro W; go_simp; first | done | omega | assumption)
 refine MW ?_ (v := .bool false) (hv := by intro W; go_simp; first | done | omega | assumption)
 refine MZ fun W hS => ?_
 go_upto_region 22 with fail
 refine RL hS ?_
 clear hS
 refine MV ?_
 refine MV ?_
 refine MV ?_
 refine MG 2 ?_ (v := .int .i64 0)
 refine MW ?_ (v := .bool false) (hv := by intro W; go_simp; first | done | omega | assumption)
 refine MZ fun W hS => ?_
 go_upto_region 24 with fail
 refine RTh (.q 0 (.q 1 (.q 2 (.q 3 (.q 4 (.q 5 (.q 6 (.q 7 (.q 8 (.q 9 (.q 10 (.q 11 (.q 12 (.q 13 (.q 14 .z))))))))))))))) hS ?_
 clear hS
 refine TV ?_
 refine TV ?_
 refine TV ?_
 refine TG 2 ?_ (v := str (a :: b :: X))
 refine TW ?_ (v := .int .u8 (a.toNat : Int)) (hv := fun _ => run_sby (i := 0) (c := a) (rfl) rfl rfl rfl)
 refine TW ?_ (v := .int .i64 (IntKind.wrap .i64 ((a.toNat : Nat) : Int))) (hv := by intro W; have := a.toNat_lt; go_simp; (try simp only [IntKind.wrap_i64]); (try omega))
 refine TW ?_ (v := .int .i64 (IntKind.wrap .i64 ((a.toNat * 256 : Nat) : Int))) (hv := by intro W; exact run_shl8 (Y := a.toNat) rfl rfl)
 refine TV ?_
 refine TV ?_
 refine TV ?_
 refine TG 2 ?_ (v := str (a :: b :: X))
 refine TW ?_ (v := .int .u8 (b.toNat : Int)) (hv := fun _ => run_sby (i := 1) (c := b) (rfl) rfl rfl rfl)
 refine TW ?_ (v := .int .i64 (b.toNat : Int)) (hv := by intro W; have := b.toNat_lt; go_simp; (try simp only [IntKind.wrap_i64]); (try omega))
 refine TW ?_ (v := .int .i64 (m : Int)) (hv := by intro W; rw [← wrap_sm (m := m) (by omega)]; exact run_or8 (Y := a.toNat) (z := b.toNat) (Y' := m) b.toNat_lt Hm.out.symm rfl rfl rfl)
 refine TV ?_
 refine TZ (fun _ h => h) fun W hS => ?_
 go_upto_region 25 with fail
 refine RL hS ?_
 clear hS
 refine MV ?_
 refine MV ?_
 refine MW ?_ (v := .bool false) (hv := by intro W; go_simp; first | done | omega | assumption)
 refine MZ fun W hS => ?_
 go_upto_region 28 with fail
 refine RL hS ?_
 clear hS
 refine MV ?_
 refine MV ?_
 refine MV ?_
 refine MG 2 ?_ (v := str (a :: b :: X))
 refine MW ?_ (v := .int .i64 ((a :: b :: X).length : Int)) (hv := fun _ => run_slen (l := (a :: b :: X)) rfl rfl)
 refine MV ?_
 refine MW ?_ (v := .int .i64 ((2 + m : Nat) : Int)) (hv := by intro W; go_simp; (try simp only [IntKind.wrap_i64]); (try omega))
 refine MW ?_ (v := .bool true) (hv := by intro W; go_simp; first | done | omega | assumption)
 refine MZ fun W hS => ?_
 go_upto_region 29 with fail
 refine RL hS ?_
 clear hS
 refine MV ?_
 refine MV ?_
 refine MV ?_
 refine MP 2 (v := .int .i64 3) ?_
 refine MZ fun W hS => ?_
 go_upto_region 30 with fail
 refine RL hS ?_
 clear hS
 refine ML 0 ?_ (hs := by rw [agF_size]; kernel_rfl)
 refine MR 1 ?_ (hz := by rw [agF_size]; kernel_rfl) (hs := by rw [agF_size, agF_size]; rfl) (h1 := by exact (agF_one ⟨rfl, rfl, rfl, trivial⟩))
 refine MZ fun W hS => ?_
 go_wp2
 exact bodyPost_ret (res_row rfl rfl (hS.blk (i := 1) rfl) (by kernel_rfl) (by rw [agF_size]; kernel_rfl)) rfl ⟨rfl, hS.pick [2]⟩
theorem dnext_5o {p : Nat} {a b : UInt8} {X : List UInt8} {m : Nat} (hm : a.toNat * 256 + b.toNat = m) (hX : m ≤ X.length) (most : Int) (hb : ¬ most < (m : Int)) (w : World) (h_ : SH (SH.feet (dR p (a :: b :: X, 0))) w w (dR p (a :: b :: X, 0))) :
  Calls Try.prog 34 #[.pointer (some ⟨p, 0, none⟩), .int .i64 5, .int .i64 most] w fun e w' => e = .returned (.agg (ptF 5 0 0 (List.drop 2 (List.take (2 + m) (a :: b :: X))))) ∧ SH (SH.feet (dR p (a :: b :: X, 0))) w w' (dR p (List.drop (2 + m) (a :: b :: X), 0)) := by
 have Hm := Lib.hid hm
 have hm2 : m ≤ 65535 := by have := a.toNat_lt; have := b.toNat_lt; omega
 clear hm
 have hS := h_
 go_enter Try.func34, Try.ntmps34
 go_upto_region 0 with fail
 refine RL hS ?_
 clear hS
 refine MN (z := agF [.c (.int .i64 0), .c (.int .i64 0), .a 32 0, .c (str [])]) (t := 107) ?_
 intro p6_1
 refine MZ fun W hS => ?_
 go_upto_region 1 with fail
 refine RL hS ?_
 clear hS
 refine MW ?_ (v := .int .i64 5)
 refine MF (v := .agg (agF [.c (.int .i64 5), .c (.int .i64 0), .a 32 0, .c (str [])])) (fun W hS => run_bld rfl rfl zer_custumalref04_Part plc_custumalref04_Part (fill_c fill_n (l' := [.c (.int .i64 5), .c (.int .i64 0), .a 32 0, .c (str [])]) (m := [.c (.int .i64 5)]) (hv := rfl) (hs := agF_setp 0 1) (hp := rfl) (hn := rfl) (hb := by show 0 + 1 ≤ 35; decide))) ?_
 refine MN (z := agF [.c (.int .i64 0), .c (.int .i64 0), .a 32 0, .c (str [])]) (t := 107) ?_
 intro p7_2
 refine MR 0 ?_ (hz := by rw [agF_size]; kernel_rfl) (hs := by rw [agF_size, agF_size]; rfl) (h1 := by exact (agF_one ⟨rfl, rfl, rfl, trivial⟩))
 refine MZ fun W hS => ?_
 go_upto_region 3 with fail
 refine RL hS ?_
 clear hS
 refine MW ?_ (v := .bool false) (hv := by intro W; go_simp; first | done | omega | assumption)
 refine MW ?_ (v := .bool false)
 refine MZ fun W hS => ?_
 go_upto_region 4 with fail
 refine RL hS ?_
 clear hS
 refine MW ?_ (v := .bool false) (hv := by intro W; go_simp; first | done | omega | assumption)
 refine MW ?_ (v := .bool false)
 refine MZ fun W hS => ?_
 go_upto_region 11 with fail
 refine RL hS ?_
 clear hS
 refine MW ?_ (v := .bool false) (hv := by intro W; go_simp; first | done | omega | assumption)
 refine MW ?_ (v := .bool false)
 refine MZ fun W hS => ?_
 go_upto_region 17 with fail
 refine RL hS ?_
 clear hS
 refine MW ?_ (v := .bool false) (hv := by intro W; go_simp; first | done | omega | assumption)
 refine MW ?_ (v := .bool false)
 refine MZ fun W hS => ?_
 go_upto_region 19 with fail
 refine RL hS ?_
 clear hS
 refine MW ?_ (v := .bool true) (hv := by intro W; go_simp; first | done | omega | assumption)
 refine MW ?_ (v := .bool true)
 refine MZ fun W hS => ?_
 go_upto_region 20 with fail
 refine RL hS ?_
 clear hS
 refine MV ?_
 refine MV ?_
 refine MV ?_
 refine MG 2 ?_ (v := .int .i64 0)
 refine MW ?_ (v := .bool true) (hv := by intro W; go_simp; first | done | omega | assumption)
 refine MW ?_ (v := .bool true)
 refine MV ?_
 refine MV ?_
 refine MV ?_
 refine MG 2 ?_ (v := str (a :: b :: X))
 refine MW ?_ (v := .int .i64 ((a :: b :: X).length : Int)) (hv := fun _ => run_slen (l := (a :: b :: X)) rfl rfl)
 refine MW ?_ (v := .bool false) (hv := by intro W; go_simp; first | done | omega | assumption)
 refine MW ?_ (v := .bool false) (hv := by intro W; go_simp; first | done | omega | assumption)
 refine MZ fun W hS => ?_
 go_upto_region 22 with fail
 refine RL hS ?_
 clear hS
 refine MV ?_
 refine MV ?_
 refine MV ?_
 refine MG 2 ?_ (v := .int .i64 0)
 refine MW ?_ (v := .bool false) (hv := by intro W; go_simp; first | done | omega | assumption)
 refine MZ fun W hS => ?_
 go_upto_region 24 with fail
 refine RTh (.q 0 (.q 1 (.q 2 (.q 3 (.q 4 (.q 5 (.q 6 (.q 7 (.q 8 (.q 9 (.q 10 (.q 11 (.q 12 (.q 13 (.q 14 .z))))))))))))))) hS ?_
 clear hS
 refine TV ?_
 refine TV ?_
 refine TV ?_
 refine TG 2 ?_ (v := str (a :: b :: X))
 refine TW ?_ (v := .int .u8 (a.toNat : Int)) (hv := fun _ => run_sby (i := 0) (c := a) (rfl) rfl rfl rfl)
 refine TW ?_ (v := .int .i64 (IntKind.wrap .i64 ((a.toNat : Nat) : Int))) (hv := by intro W; have := a.toNat_lt; go_simp; (try simp only [IntKind.wrap_i64]); (try omega))
 refine TW ?_ (v := .int .i64 (IntKind.wrap .i64 ((a.toNat * 256 : Nat) : Int))) (hv := by intro W; exact run_shl8 (Y := a.toNat) rfl rfl)
 refine TV ?_
 refine TV ?_
 refine TV ?_
 refine TG 2 ?_ (v := str (a :: b :: X))
 refine TW ?_ (v := .int .u8 (b.toNat : Int)) (hv := fun _ => run_sby (i := 1) (c := b) (rfl) rfl rfl rfl)
 refine TW ?_ (v := .int .i64 (b.toNat : Int)) (hv := by intro W; have := b.toNat_lt; go_simp; (try simp only [IntKind.wrap_i64]); (try omega))
 refine TW ?_ (v := .int .i64 (m : Int)) (hv := by intro W; rw [← wrap_sm (m := m) (by omega)]; exact run_or8 (Y := a.toNat) (z := b.toNat) (Y' := m) b.toNat_lt Hm.out.symm rfl rfl rfl)
 refine TV ?_
 refine TZ (fun _ h => h) fun W hS => ?_
 go_upto_region 25 with fail
 refine RL hS ?_
 clear hS
 refine MV ?_
 refine MV ?_
 refine MW ?_ (v := .bool false) (hv := by intro W; go_simp; first | done | omega | assumption)
 refine MZ fun W hS => ?_
 go_upto_region 28 with fail
 refine RL hS ?_
 clear hS
 refine MV ?_
 refine MV ?_
 refine MV ?_
 refine MG 2 ?_ (v := str (a :: b :: X))
 refine MW ?_ (v := .int .i64 ((a :: b :: X).length : Int)) (hv := fun _ => run_slen (l := (a :: b :: X)) rfl rfl)
 refine MV ?_
 refine MW ?_ (v := .int .i64 ((2 + m : Nat) : Int)) (hv := by intro W; go_simp; (try simp only [IntKind.wrap_i64]); (try omega))
 refine MW ?_ (v := .bool false) (hv := by intro W; go_simp; first | done | omega | assumption)
 refine MZ fun W hS => ?_
 go_upto_region 31 with fail
 refine RL hS ?_
 clear hS
 refine MV ?_
 refine MV ?_
 refine MV ?_
 refine MG 2 ?_ (v := str (a :: b :: X))
 refine MV ?_
 refine MW ?_ (v := .int .i64 ((2 + m : Nat) : Int)) (hv := by intro W; go_simp; (try simp only [IntKind.wrap_i64]); (try omega))
 refine MW ?_ (v := str (List.drop 2 (List.take (2 + m) (a :: b :: X)))) (hv := fun _ => run_smid (n := 2) (m := (2 + m)) (by first | omega | (simp only [List.length_cons, List.length_take, List.length_drop]; omega)) (by first | omega | (simp only [List.length_cons, List.length_take, List.length_drop]; omega)) rfl Try.underlying9 rfl rfl rfl)
 refine MV ?_
 refine MP 0 (v := str (List.drop 2 (List.take (2 + m) (a :: b :: X)))) (cs' := agF [.c (.int .i64 5), .c (.int .i64 0), .a 32 0, .c (str (List.drop 2 (List.take (2 + m) (a :: b :: X))))]) ?_ (hs := by rw [agF_size]; show 34 < 35; decide) (hc := agF_setc 3)
 refine MZ fun W hS => ?_
 go_upto_region 32 with fail
 refine RL hS ?_
 clear hS
 refine MV ?_
 refine MV ?_
 refine MV ?_
 refine MV ?_
 refine MG 2 ?_ (v := str (a :: b :: X))
 refine MV ?_
 refine MW ?_ (v := .int .i64 ((2 + m : Nat) : Int)) (hv := by intro W; go_simp; (try simp only [IntKind.wrap_i64]); (try omega))
 refine MW ?_ (v := str (List.drop (2 + m) (a :: b :: X))) (hv := fun _ => run_stl (n := (2 + m)) (by first | omega | (simp only [List.length_cons, List.length_take, List.length_drop]; omega)) rfl Try.underlying9 rfl rfl)
 refine MV ?_
 refine MV ?_
 refine MP 2 (v := str (List.drop (2 + m) (a :: b :: X))) ?_
 refine MZ fun W hS => ?_
 go_upto_region 33 with fail
 refine RL hS ?_
 clear hS
 refine ML 0 ?_ (hs := by rw [agF_size]; kernel_rfl)
 refine MR 1 ?_ (hz := by rw [agF_size]; kernel_rfl) (hs := by rw [agF_size, agF_size]; rfl) (h1 := by exact (agF_one ⟨rfl, rfl, rfl, trivial⟩))
 refine MZ fun W hS => ?_
 go_wp2
 exact bodyPost_ret (res_row rfl rfl (hS.blk (i := 1) rfl) (by kernel_rfl) (by rw [agF_size]; kernel_rfl)) rfl ⟨rfl, hS.pick [2]⟩
theorem dnext_5 {p : Nat} {s : RSt} (most : Int) (w : World) (h_ : SH (SH.feet (dR p s)) w w (dR p s)) :
 Calls Try.prog 34 #[.pointer (some ⟨p, 0, none⟩), .int .i64 5, .int .i64 most] w fun e w' => e = .returned (.agg (ptF 5 0 0 (txV most s))) ∧ SH (SH.feet (dR p s)) w w' (dR p (txS most s)) := by
 obtain ⟨l, e0⟩ := s
 have no : ∀ x : Int, ¬ okT most (l, e0) → txE most (l, e0) = x → txV most (l, e0) = [] ∧ txS most (l, e0) = (l, x) := fun x hn hx => by
  unfold txV txS
  rw [if_neg hn, if_neg hn, hx]
  exact ⟨rfl, rfl⟩
 by_cases h0 : e0 = 0
 ·
  subst h0
  match l, h_, no with
  | [], h_, no => obtain ⟨h1, h2⟩ := no 3 (fun h => by have := h.2.1; simp at this) (by simp [txE]); rw [h1, h2]; exact dnext_5s (by simp) most w h_
  | [a], h_, no => obtain ⟨h1, h2⟩ := no 3 (fun h => by have := h.2.1; simp at this) (by simp [txE]); rw [h1, h2]; exact dnext_5s (by simp) most w h_
  | a :: b :: X, h_, no =>
   obtain ⟨m, hm⟩ : ∃ m, a.toNat * 256 + b.toNat = m := ⟨_, rfl⟩
   have eN : txN (a :: b :: X) = m := hm
   by_cases hb1 : most < (m : Int)
   ·
    obtain ⟨h1, h2⟩ := no 5 (fun h => by have := h.2.2.1; rw [eN] at this; omega) (by unfold txE; rw [if_neg (by simp), if_neg (by simp), eN, if_pos hb1])
    rw [h1, h2]; exact dnext_5b hm most hb1 w h_
   ·
    by_cases hX : X.length < m
    ·
     obtain ⟨h1, h2⟩ := no 3 (fun h => by have := h.2.2.2; rw [eN] at this; simp at this; omega) (by unfold txE; rw [if_neg (by simp), if_neg (by simp), eN, if_neg hb1])
     rw [h1, h2]; exact dnext_5t hm hX most hb1 w h_
    ·
     have hok : okT most (a :: b :: X, 0) := ⟨rfl, by simp, by rw [eN]; omega, by rw [eN]; simp; omega⟩
     unfold txV txS
     rw [if_pos hok, if_pos hok, eN]
     have := dnext_5o (a := a) (b := b) (X := X) hm (by omega) most hb1 w h_
     rw [List.drop_take, Nat.add_sub_cancel_left] at this
     exact this
 ·
  obtain ⟨h1, h2⟩ := no e0 (fun h => h0 h.1) (by unfold txE; rw [if_pos h0])
  rw [h1, h2]; exact dnext_5e h0 most w h_
end Go.Proofs.Ytlbgelbhhibikaa
