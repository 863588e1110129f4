/- TreeRoots. Conditions: keys and values have 256 bits; the tables hold their numbers. -/
import Derived.Test.YtndnlbinnhdmbaaDoorTsS
set_option linter.unusedSimpArgs false
set_option linter.unusedVariables false
namespace Go.Proofs.YtndnlbinnhdmbaaDoor
set_option maxHeartbeats 3000000
set_option maxRecDepth 100000
open Go.RowKit
attribute [local irreducible] wpList wpTr wpX
set_option linter.unusedSimpArgs false
theorem ok_L256 {ls : List Lf} (h : ok256 ls) : okL256 ls := fun i x hx => h x (List.mem_of_getElem? hx)
theorem rl_le {ls : List Lf} (h : ls.length ≤ 1000) : (rlist ls).length ≤ 274877906944 := by have := rlist_len ls; omega
theorem rl_le2 {ls : List Lf} (h : ls.length ≤ 1000) : (rlist ls).length ≤ 1099511627776 := by have := rlist_len ls; omega
theorem lvs_ofT {ls : List Lf} (h : ok256 ls) : lvs (ofT ls) = rlist ls := by rw [ofT_can h]; exact lvs_can 256 0 _ rfl (rlist_spec h).2 (pre_0 _)
theorem cnt_ofT {ls : List Lf} (h : ok256 ls) : cnt (ofT ls) = (rlist ls).length := by rw [lvs_cnt, lvs_ofT h]
theorem of_tsz {ls : List Lf} (h : ls.length ≤ 1000) : tsz (ofT ls) < 4611686018427387904 := by have := (ofT_le ls.length ls).1; rw [List.take_length] at this; omega
theorem of_cnt {ls : List Lf} (h : ls.length ≤ 1000) : cnt (ofT ls) < 2305843009213693952 := by have := (ofT_le ls.length ls).2; rw [List.take_length] at this; omega
theorem ok_take {ls : List Lf} (n : Nat) (h : ok256 ls) : ok256 (ls.take n) := fun y hy => h y (List.mem_of_mem_take hy)
theorem le_take {ls : List Lf} (n : Nat) (h : ls.length ≤ 1000) : (ls.take n).length ≤ 1000 := by rw [List.length_take]; omega
theorem of_r {q : Prop} {ls : List Lf} {u : Value} (h : ok256 ls) (hn : ls.length ≤ 1000) (w : World) (hG : GT q w) (hR : RR 64 w u (ls.map lfl)) : Calls Tryd.prog 23 #[u] w fun e w' => TRet (ofT ls) w w' e := by
 obtain ⟨A, c, rfl, _, _, h3⟩ := hR
 rw [List.length_map]
 exact of_c (ok_L256 h) (by omega) w hG h3
attribute [local irreducible] hs4 sE sL sN

theorem none_c (w : World) :
  Calls Tryd.prog 32 #[] w fun e w' => Ret nlp w w' e := by
 have hS := SH.nil [] w
 go_enter Tryd.func32, Tryd.ntmps32
 go_wp2
 exact bodyPost_ret (v := nlp) (by simp only [results, Tryd.results32]; go_simp) rfl ⟨rfl, hS.ext⟩
theorem treeRoots_L {q : Prop} (hr : q) {ls L : List Lf} (hE : ls.take 8 = L) (hL : ok256 L) (hLl : L.length ≤ 1000) {u0 : Value} (w : World) (hG : GT q w) (hl : RR 64 w u0 (ls.map lfl)) :
  Calls Tryd.prog 4 #[u0] w fun e w' => Ret (.bool true) w w' e := by
 have hS := SH.nil [] w
 go_enter Tryd.func4, Tryd.ntmps4
 go_upto_region 1 with fail
 refine RL hS ?_
 clear hS
 refine MV ?_
 refine ME (fun W hS => rcall (ls := L) hS ((by rw [← hE]; exact few_c 8 (by decide) W (hl.ext hS.ext))) rfl) ?_
 intro u_fw1
 refine MV ?_
 refine MZ fun W hS => ?_
 go_upto_region 2 with fail
 refine RL hS ?_
 clear hS
 refine MV ?_
 refine ME (fun W hS => rcall (ls := L) hS (to_c (by have h_ := hLl; omega) W (hS.row (i := 0) rfl).rr) rfl) ?_
 intro u_to2
 refine MV ?_
 refine MZ fun W hS => ?_
 go_upto_region 3 with fail
 refine RL hS ?_
 clear hS
 refine MV ?_
 refine ME (fun W hS => tcall (T := (ofT L)) hS (of_r hL hLl W (GT_ext hG hS.ext) (hS.row (i := 0) rfl).rr) rfl) ?_
 intro u_tof3
 refine MV ?_
 refine MZ fun W hS => ?_
 go_upto_region 5 with fail
 refine RL hS ?_
 clear hS
 refine MB0 (t := 24) (n := 64) ?_
 intro v16_4
 refine MV ?_
 refine MZ fun W hS => ?_
 have hS := hS.fact (TA.holds (show TA _ (ofT (List.take 0 L)) nlp from rfl)) rfl
 go_wp2_with fail
 go_loopw [5, 6, 7, 8] (fun uu ww ii ss wr => ∃ (i : Nat) (u : Value) (wv : Value), (i ≤ L.length) ∧ (u = uu) ∧ (wv = ww) ∧ (ii = .int .i64 (i : Int)) ∧ SH [] w wr [.t 105 (fun W => TA W (ofT (List.take i L)) u), .t 105 (fun W => TA W (ofT L) u_tof3), .r 24 64 u_fw1 (List.map lfl L), .r 30 64 u_to2 (List.map lfl L), .r 24 64 wv (List.map lfl (rlist (List.take i L)))])
  (fun uu ww ii ss _ => L.length - (intOf ii).toNat)
 case atStart => exact ⟨0, nlp, _, Nat.zero_le _, rfl, rfl, rfl, (hS.pick [0, 2, 4, 3, 1])⟩
 clear hS
 case round =>
  obtain ⟨i, u, wv, hi, rfl, rfl, rfl, hS⟩ := hrel
  by_cases hlt : i < L.length
  ·
   have _f := hlt
   obtain ⟨x, xh⟩ : ∃ x, L[i]? = some x := ⟨_, List.getElem?_eq_getElem hlt⟩
   go_upto_region 7 with fail
   refine RL hS ?_
   clear hS
   refine MV ?_
   refine MV ?_
   refine MF (v := .int .i64 ((List.map lfl L).length : Int)) (fun W hS => run_lenR (hS.row (i := 2) rfl) rfl rfl Tryd.underlying38) ?_
   refine MW ?_ (v := .bool true)
   refine MZ fun W hS => ?_
   go_upto_region 9 with fail
   refine RL hS ?_
   clear hS
   refine MV ?_
   refine MV ?_
   refine MV ?_
   refine MI 3 i (e := (lfl x)) (by rw [List.getElem?_map, xh]; rfl) ?_
   intro gb26_5 _ hv26_5
   refine MF (v := .agg (lf x.1 x.2)) (fun W hS => run_atsub rfl rfl (fun i_ v hv => row_cell (hS.row (i := 3) rfl) hv26_5.out (by rw [List.getElem?_map, xh]; rfl) i_ v ((fun i_ v hv => by simpa using hv) i_ v hv)) (by kernel_rfl) (by rw [lf_size]; kernel_rfl)) ?_
   refine ME (fun W hS => tcall (T := (ofT (List.take (i + 1) L))) hS ((by rw [ofT_take xh]; exact Put_c (hL _ (List.mem_of_getElem? xh)).1 (hL _ (List.mem_of_getElem? xh)).2 (of_tsz ((le_take _ hLl))) (of_cnt ((le_take _ hLl))) W (GT_ext hG hS.ext) (hS.tt (i := 0) rfl))) rfl) ?_
   intro u_tq6
   refine MV ?_
   refine MZ fun W hS => ?_
   go_upto_region 10 with fail
   refine RL hS ?_
   clear hS
   refine MV ?_
   refine MV ?_
   refine MV ?_
   refine MI 3 i (e := (lfl x)) (by rw [List.getElem?_map, xh]; rfl) ?_
   intro gb32_7 _ hv32_7
   refine MF (v := .agg (lf x.1 x.2)) (fun W hS => run_atsub rfl rfl (fun i_ v hv => row_cell (hS.row (i := 3) rfl) hv32_7.out (by rw [List.getElem?_map, xh]; rfl) i_ v ((fun i_ v hv => by simpa using hv) i_ v hv)) (by kernel_rfl) (by rw [lf_size]; kernel_rfl)) ?_
   refine ME (fun W hS => rcall (ls := rlist (List.take (i + 1) L)) hS ((by rw [rlist_take xh]; exact rPut_c (hL _ (List.mem_of_getElem? xh)).1 (rlist_spec (ok_take _ hL)).1 (rl_le (le_take _ hLl)) W (hS.row (i := 5) rfl).rr)) rfl) ?_
   intro u_rp8
   refine MV ?_
   refine MZ fun W hS => ?_
   go_upto_region 11 with fail
   refine RL hS ?_
   clear hS
   refine MV ?_
   obtain ⟨U1, hU1⟩ := exn (rs (ofT (List.take (i + 1) L)))
   have HU1 := Lib.hid hU1
   clear hU1
   refine MC (v := .agg (arrK .u8 32 (byt U1))) (fun W hS => (by rw [HU1.out]; exact root_c W (GT_ext hG hS.ext) (hS.tt (i := 1) rfl))) ?_
   refine MN (z := arrK .u8 32 (byt 0)) (t := 22) ?_
   intro p8_9
   refine MR 0 ?_ 
   refine MZ fun W hS => ?_
   go_upto_region 12 with fail
   refine RTh (.q 0 (.q 1 (.q 2 (.e 3 (.q 4 (.q 5 (.q 6 (.q 8 (.q 9 (.e 7 (.q 10 (.q 11 (.q 12 (.q 13 (.q 16 (.e 14 (.e 15 (.e 17 (.q 18 (.q 19 .z)))))))))))))))))))) hS ?_
   clear hS
   refine TW ?_ (v := .slice (some ⟨p8_9, 0, none⟩) 32 32)
   refine TF (v := str (lb 32 U1)) rfl (fun W hS => run_cvs (sl_part (V := U1) (n := 32) (off := 0) (hS.blk (i := 0) rfl) ap0 (by decide) (by decide)) rfl rfl) ?_
   refine TV ?_
   refine TE (fun _ h => h) ?_
   refine MC (v := str (lb 32 U1)) (fun W hS => (by rw [HU1.out, ofT_can (ok_take _ hL)]; exact rSum_c hr 256 0 rfl (rlist_spec (ok_take _ hL)).2 (pre_0 _) (rl_le (le_take _ hLl)) W (GT_ext hG hS.ext) (hS.row (i := 1) rfl).rr)) ?_
   refine TNh (fun W hS => hS) ?_
   refine TW ?_ (v := .bool false) (hv := fun _ => run_strneB (l := (lb 32 U1)) (m := (lb 32 U1)) (b := true) (decide_eq_true rfl) rfl rfl rfl)
   refine TW ?_ (v := .bool false)
   refine TV ?_
   refine TV ?_
   refine TF (v := .int .i64 ((List.map lfl (rlist (List.take (i + 1) L))).length : Int)) rfl (fun W hS => run_lenR (hS.row (i := 1) rfl) rfl rfl Tryd.underlying38) ?_
   refine TE (fun _ h => h) ?_
   refine MC (v := .int .i64 ((rlist (List.take (i + 1) L)).length : Int)) (fun W hS => (by have h_ := len_c W (hS.tt (i := 2) rfl); rw [cnt_ofT (ok_take _ hL)] at h_; exact h_)) ?_
   refine TNh (fun W hS => hS) ?_
   refine TW ?_ (v := .bool false)
   refine TW ?_ (v := .bool false)
   refine TW ?_ (v := .bool false)
   refine TV ?_
   refine TV ?_
   refine TE (fun _ h => h) ?_
   refine ME (fun W hS => rcall (ls := rlist (List.take (i + 1) L)) hS ((by rw [← lvs_ofT (ok_take _ hL)]; exact leaves_c (by rw [lvs_ofT (ok_take _ hL)]; exact rl_le (le_take _ hLl)) W (hS.tt (i := 2) rfl))) rfl) ?_
   intro u_lv10
   refine TNh (fun W hS => hS.pick [1, 2, 3, 4, 5, 6, 7, 8]) ?_
   refine TE (fun _ h => h) ?_
   refine ME (fun W hS => rcall (ls := rlist (List.take (i + 1) L)) hS (from_c (rl_le2 (le_take _ hLl)) W (hS.row (i := 0) rfl).rr) rfl) ?_
   intro u_fr11
   refine TNh (fun W hS => hS.pick [1, 2, 3, 4, 5, 6, 7, 8, 9]) ?_
   refine TE (fun _ h => h) ?_
   refine MC (v := .bool true) (fun W hS => (by have h_ := Same_c (rlist_spec (ok_take _ hL)).1 (rlist_spec (ok_take _ hL)).1 (rl_le (le_take _ hLl)) W (hS.row (i := 0) rfl).rr (hS.row (i := 3) rfl).rr; rw [decide_eq_true rfl] at h_; exact h_)) ?_
   refine TNh (fun W hS => hS) ?_
   refine TW ?_ (v := .bool false)
   refine TW ?_ (v := .bool false)
   refine TZ (fun _ h => h) fun W hS => ?_
   go_wp2
   go_roundw
   case rel => exact ⟨i + 1, u_tq6, u_rp8, by omega, rfl, rfl, by go_num, (hS.pick [4, 6, 7, 8, 3])⟩
   case measure => simp [intOf]; omega
  ·
   have _f := hlt
   obtain rfl : i = L.length := by omega
   rw [List.take_length] at hS
   go_upto_region 7 with fail
   refine RL hS ?_
   clear hS
   refine MV ?_
   refine MV ?_
   refine MF (v := .int .i64 ((List.map lfl L).length : Int)) (fun W hS => run_lenR (hS.row (i := 2) rfl) rfl rfl Tryd.underlying38) ?_
   refine MW ?_ (v := .bool false)
   refine MZ fun W hS => ?_
   go_upto_region 14 with fail
   refine RL hS ?_
   clear hS
   refine MC (v := .pointer none) (fun W hS => none_c W) ?_
   obtain ⟨U1, hU1⟩ := exn (sE)
   have HU1 := Lib.hid hU1
   clear hU1
   refine MC (v := .agg (arrK .u8 32 (byt U1))) (fun W hS => (by rw [HU1.out]; exact root_c W (GT_ext hG hS.ext) (show TA W .nil nlp from rfl))) ?_
   refine MN (z := arrK .u8 32 (byt 0)) (t := 22) ?_
   intro p9_12
   refine MR 0 ?_ 
   refine MZ fun W hS => ?_
   go_upto_region 15 with fail
   refine RTh (.e 0 (.q 1 (.q 2 (.q 4 (.e 3 (.e 5 (.q 6 (.q 7 (.q 8 (.q 9 (.q 12 (.e 10 (.e 11 (.e 13 (.q 14 (.q 15 (.q 16 (.q 18 (.e 17 (.e 19 (.q 20 (.q 21 (.q 22 (.q 23 (.e 24 (.q 25 (.q 26 (.q 27 (.e 28 (.e 29 (.q 30 (.q 31 (.q 32 (.e 33 (.e 34 (.q 35 (.q 36 (.q 37 (.q 38 .z))))))))))))))))))))))))))))))))))))))) hS ?_
   clear hS
   refine TE (fun _ h => h) ?_
   refine MC (v := .bool true) (fun W hS => trees_c hr W (GT_ext hG hS.ext)) ?_
   refine TNh (fun W hS => hS) ?_
   refine TW ?_ (v := .bool true)
   refine TV ?_
   refine TV ?_
   refine TE (fun _ h => h) ?_
   obtain ⟨U2, hU2⟩ := exn (rs (ofT L))
   have HU2 := Lib.hid hU2
   clear hU2
   refine MC (v := .agg (arrK .u8 32 (byt U2))) (fun W hS => (by rw [HU2.out]; exact root_c W (GT_ext hG hS.ext) (hS.tt (i := 2) rfl))) ?_
   refine TNh (fun W hS => hS) ?_
   refine TE (fun _ h => h) ?_
   refine MC (v := .agg (arrK .u8 32 (byt U2))) (fun W hS => (by rw [HU2.out]; exact root_c W (GT_ext hG hS.ext) (hS.tt (i := 1) rfl))) ?_
   refine TNh (fun W hS => hS) ?_
   refine TW ?_ (v := .bool true) (hv := fun _ => run_eqlA ((fun w => eqS32 rfl w) _) (by kernel_rfl) rfl rfl rfl)
   refine TW ?_ (v := .bool true)
   refine TW ?_ (v := .bool true)
   refine TV ?_
   refine TV ?_
   refine TE (fun _ h => h) ?_
   refine ME (fun W hS => rcall (ls := rlist L) hS ((by rw [← lvs_ofT hL]; exact leaves_c (by rw [lvs_ofT hL]; exact rl_le hLl) W (hS.tt (i := 2) rfl))) rfl) ?_
   intro u_lv13
   refine TNh (fun W hS => hS.pick [1, 2, 3, 4, 5, 6]) ?_
   refine TE (fun _ h => h) ?_
   refine ME (fun W hS => rcall (ls := rlist L) hS (from_c (rl_le2 hLl) W (hS.row (i := 0) rfl).rr) rfl) ?_
   intro u_fr14
   refine TNh (fun W hS => hS.pick [1, 2, 3, 4, 5, 6, 7]) ?_
   refine TE (fun _ h => h) ?_
   refine MC (v := .bool true) (fun W hS => (by have h_ := Same_c (rlist_spec hL).1 (rlist_spec hL).1 (rl_le hLl) W (hS.row (i := 0) rfl).rr (hS.row (i := 7) rfl).rr; rw [decide_eq_true rfl] at h_; exact h_)) ?_
   refine TNh (fun W hS => hS) ?_
   refine TW ?_ (v := .bool true)
   refine TW ?_ (v := .bool true)
   refine TV ?_
   refine TV ?_
   refine TE (fun _ h => h) ?_
   refine ME (fun W hS => rcall (ls := L) hS (from_c (by have h_ := hLl; omega) W (hS.row (i := 6) rfl).rr) rfl) ?_
   intro u_fr15
   refine TNh (fun W hS => hS.pick [1, 2, 3, 4, 5, 6, 7, 8]) ?_
   refine TE (fun _ h => h) ?_
   refine MC (v := .bool true) (fun W hS => (by have h_ := Same_c hL hL (by have h_ := hLl; omega) W (hS.row (i := 0) rfl).rr (hS.row (i := 6) rfl).rr; rw [decide_eq_true rfl] at h_; exact h_)) ?_
   refine TNh (fun W hS => hS) ?_
   refine TW ?_ (v := .bool true)
   refine TW ?_ (v := .bool true)
   refine TW ?_ (v := .slice (some ⟨p9_12, 0, none⟩) 32 32)
   refine TF (v := str (lb 32 U1)) rfl (fun W hS => run_cvs (sl_part (V := U1) (n := 32) (off := 0) (hS.blk (i := 3) rfl) ap0 (by decide) (by decide)) rfl rfl) ?_
   refine TE (fun _ h => h) ?_
   refine MC (v := str (lb 32 U1)) (fun W hS => (by rw [HU1.out]; exact rSum_c hr 256 0 (ls := []) rfl .nil (pre_0 []) (Nat.zero_le _) W (GT_ext hG hS.ext) (rr_nil 64 W))) ?_
   refine TNh (fun W hS => hS) ?_
   refine TW ?_ (v := .bool true) (hv := fun _ => run_streqb (l := (lb 32 U1)) (m := (lb 32 U1)) (b := true) (decide_eq_true rfl) rfl rfl rfl)
   refine TW ?_ (v := .bool true)
   refine TW ?_ (v := .bool true)
   refine TE (fun _ h => h) ?_
   refine MC (v := .pointer none) (fun W hS => none_c W) ?_
   refine TNh (fun W hS => hS) ?_
   refine TE (fun _ h => h) ?_
   refine MC (v := .int .i64 0) (fun W hS => len_c W (show TA W .nil nlp from rfl)) ?_
   refine TNh (fun W hS => hS) ?_
   refine TW ?_ (v := .bool true)
   refine TW ?_ (v := .bool true)
   refine TW ?_ (v := .bool true)
   refine TE (fun _ h => h) ?_
   refine MC (v := .pointer none) (fun W hS => none_c W) ?_
   refine TNh (fun W hS => hS) ?_
   refine TE (fun _ h => h) ?_
   refine ME (fun W hS => rcall (ls := []) hS (leaves_c (T := .nil) (Nat.zero_le _) W (show TA W .nil nlp from rfl)) rfl) ?_
   intro u_lv16
   refine TNh (fun W hS => hS.pick [1, 2, 3, 4, 5, 6, 7, 8, 9]) ?_
   refine TF (v := .int .i64 ((List.map lfl []).length : Int)) rfl (fun W hS => run_lenR (hS.row (i := 0) rfl) rfl rfl Tryd.underlying40) ?_
   refine TW ?_ (v := .bool true)
   refine TW ?_ (v := .bool true)
   refine TW ?_ (v := .bool true)
   refine TZ (fun _ h => h) fun W hS => ?_
   go_wp2
   exact bodyPost_ret (v := .bool true) (by simp only [results, Tryd.results4]; go_simp) rfl ⟨rfl, hS.ext⟩
end Go.Proofs.YtndnlbinnhdmbaaDoor
