/- TreeStays. Conditions: keys and values have 256 bits; the tables hold their numbers. -/
import Derived.Test.YtndnlbinnhdmbaaDoorTsX
set_option linter.unusedSimpArgs false
set_option linter.unusedVariables false
namespace Go.Proofs.YtndnlbinnhdmbaaDoor
set_option maxHeartbeats 3000000
set_option maxRecDepth 100000
open Go.RowKit
attribute [local irreducible] wpList wpTr wpX
set_option linter.unusedSimpArgs false
theorem ok_app {a b : List Lf} (ha : ok256 a) (hb : ok256 b) : ok256 (a ++ b) := fun y hy => by
 rcases List.mem_append.1 hy with h | h
 ·
  exact ha y h
 ·
  exact hb y h
theorem ok_one {M : List Lf} {i : Nat} {x : Lf} (h : ok256 M) (hx : M[i]? = some x) : ok256 [x] := fun y hy => by rw [List.mem_singleton.1 hy]; exact h x (List.mem_of_getElem? hx)
theorem tk_snoc {L M : List Lf} {i : Nat} {x : Lf} (h : M[i]? = some x) : L ++ M.take i ++ [x] = L ++ M.take (i + 1) := by rw [List.take_add_one, h, List.append_assoc]; rfl
theorem of_tsz1 {X : List Lf} (h : X.length ≤ 1000) : tsz (ofT X) ≤ 1099511627775 := by have := (ofT_le X.length X).1; rw [List.take_length] at this; omega
theorem get_snoc {X : List Lf} {x : Lf} (ho : ok256 (X ++ [x])) (hn : (X ++ [x]).length ≤ 1000) {N : Nat} (hN : (wayN (ofT (X ++ [x])) x.1 0).length + 1 = N) {u : Value} (w : World) (h : TA w (ofT (X ++ [x])) u) :
  Calls Tryd.prog 34 #[u, .agg (arrK .u8 32 (byt x.1))] w fun e w' => Ret (.tuple #[.agg (arrK .u8 32 (byt x.2)), .bool true, .int .i64 (N : Int)]) w w' e := by
 have h_ := get_c (k := x.1) (ho x (by simp)).1 (of_tsz1 hn) w h
 have e : getR (wayE (ofT (X ++ [x])) x.1 0) (wayN (ofT (X ++ [x])) x.1 0).length x.1 = (x.2, true, N) := by rw [way_put ho, ← hN]; exact if_pos rfl
 rw [e] at h_
 exact h_
attribute [local irreducible] hs4 sE sL sN

theorem treeStays_L {q : Prop} (hr : q) {ls ms L M : List Lf} (hL0 : ls.take 6 = L) (hM0 : ms.take 5 = M) (hL : ok256 L) (hM : ok256 M) (hLl : L.length ≤ 6) (hMl : M.length ≤ 5) {u0 u1 : Value} (w : World) (hG : GT q w) (hl : RR 64 w u0 (ls.map lfl)) (hm : RR 64 w u1 (ms.map lfl)) :
  Calls Tryd.prog 6 #[u0, u1] w fun e w' => Ret (.bool true) w w' e := by
 have hS := SH.nil [] w
 go_enter Tryd.func6, Tryd.ntmps6
 go_upto_region 1 with fail
 refine RL hS ?_
 clear hS
 refine MV ?_
 refine ME (fun W hS => rcall (ls := L) hS ((by rw [← hL0]; exact few_c 6 (by decide) W (hl.ext hS.ext))) rfl) ?_
 intro u_fw1
 refine MV ?_
 refine ME (fun W hS => rcall (ls := M) hS ((by rw [← hM0]; exact few_c 5 (by decide) W (hm.ext hS.ext))) rfl) ?_
 intro u_fw2
 refine MV ?_
 refine MV ?_
 refine MZ fun W hS => ?_
 go_upto_region 2 with fail
 refine RL hS ?_
 clear hS
 refine MV ?_
 refine ME (fun W hS => rcall (ls := L) hS (to_c (Nat.le_trans (Nat.le_trans hLl (show 6 ≤ 1000 by decide)) (by decide)) W (hS.row (i := 1) rfl).rr) rfl) ?_
 intro u_to3
 refine ME (fun W hS => tcall (T := (ofT L)) hS (of_r hL (Nat.le_trans hLl (show 6 ≤ 1000 by decide)) W (GT_ext hG hS.ext) (hS.row (i := 0) rfl).rr) rfl) ?_
 intro u_tof4
 refine MV ?_
 refine MZ fun W hS => ?_
 go_upto_region 3 with fail
 refine RL hS ?_
 clear hS
 refine MV ?_
 refine ME (fun W hS => rcall (ls := rlist L) hS ((by rw [← lvs_ofT hL]; exact leaves_c (by rw [lvs_ofT hL]; exact rl_le (Nat.le_trans hLl (show 6 ≤ 1000 by decide))) W (hS.tt (i := 0) rfl))) rfl) ?_
 intro u_lv5
 refine MV ?_
 obtain ⟨U1, hU1⟩ := exn (rs (ofT L))
 have HU1 := Lib.hid hU1
 clear hU1
 refine MC (v := .agg (arrK .u8 32 (byt U1))) (fun W hS => (by rw [HU1.out]; exact root_c W (GT_ext hG hS.ext) (hS.tt (i := 1) rfl))) ?_
 refine MN (z := arrK .u8 32 (byt 0)) (t := 22) ?_
 intro p7_6
 refine MV ?_
 refine MR 0 ?_ 
 refine MZ fun W hS => ?_
 have hS := hS.fact (TA.holds (T := ofT (L ++ List.take 0 M)) (by rw [List.take_zero, List.append_nil]; exact hS.tt (i := 2) rfl)) rfl
 go_wp2_with fail
 go_loopw [8, 9, 10, 11, 12, 13] (fun uu ii x1 x2 x3 x4 wr => ∃ (i : Nat) (u : Value), (i ≤ M.length) ∧ (u = uu) ∧ (ii = .int .i64 (i : Int)) ∧ SH [] w wr [.t 105 (fun W => TA W (ofT (L ++ List.take i M)) u), .t 105 (fun W => TA W (ofT L) u_tof4), .r 24 64 u_fw1 (List.map lfl L), .r 24 64 u_fw2 (List.map lfl M), .r 30 64 u_lv5 (List.map lfl (rlist L)), .b p7_6 (arrK .u8 32 (byt U1)) 22])
  (fun uu ii x1 x2 x3 x4 _ => M.length - (intOf ii).toNat)
 case atStart => exact ⟨0, u_tof4, Nat.zero_le _, rfl, rfl, (hS.pick [0, 3, 6, 5, 2, 1])⟩
 clear hS
 case round =>
  obtain ⟨i, u, hi, rfl, rfl, hS⟩ := hrel
  by_cases hlt : i < M.length
  ·
   have _f := hlt
   obtain ⟨x, xh⟩ : ∃ x, M[i]? = some x := ⟨_, List.getElem?_eq_getElem hlt⟩
   obtain ⟨A1, c1, hv1, hlc1, HR1⟩ := RR.op (hS.row (i := 3) rfl).rr
   subst hv1
   obtain ⟨g1, o1, A10, _⟩ := HR1.out i x xh
   have HA1 := Lib.hid A10
   clear A10 HR1
   go_upto_region 6 with fail
   refine RL hS ?_
   clear hS
   refine MV ?_
   refine MV ?_
   refine MF (v := .int .i64 ((List.map lfl M).length : Int)) (fun W hS => run_lenR (hS.row (i := 3) rfl) rfl rfl Tryd.underlying38) ?_
   refine MW ?_ (v := .bool true)
   refine MZ fun W hS => ?_
   go_upto_region 8 with fail
   refine RTh (.q 0 (.q 1 (.q 2 (.q 3 (.q 4 (.q 5 (.q 6 (.q 7 (.q 8 (.q 9 (.q 10 (.e 11 (.e 12 .z))))))))))))) hS ?_
   clear hS
   refine TV ?_
   refine TV ?_
   refine TW ?_ (v := .pointer (some ⟨g1, o1 + i * 64, none⟩)) (hv := fun _ => run_ixRA HA1.out hlt rfl rfl rfl Tryd.underlying38 (by kernel_rfl))
   refine TW ?_ (v := .pointer (some ⟨g1, o1 + i * 64, none⟩))
   refine TF (v := .agg (arrK .u8 32 (byt x.1))) rfl (fun W hS => run_atsub rfl rfl (fun i_ v hv => (RR.cellat (hS.row (i := 3) rfl).rr (by rw [List.getElem?_map, xh]; rfl) HA1.out) i_ v (by rw [Array.getElem?_toList]; have h_ := lf_k (k := x.1) (v := x.2) i_ v hv; rw [Nat.zero_add] at h_; exact h_)) (by kernel_rfl) (by rw [arrK_size]; kernel_rfl)) ?_
   refine TV ?_
   refine TV ?_
   refine TW ?_ (v := .pointer (some ⟨g1, o1 + i * 64, none⟩)) (hv := fun _ => run_ixRA HA1.out hlt rfl rfl rfl Tryd.underlying38 (by kernel_rfl))
   refine TW ?_ (v := .pointer (some ⟨g1, o1 + i * 64 + 32, none⟩))
   refine TF (v := .agg (arrK .u8 32 (byt x.2))) rfl (fun W hS => run_atsub rfl rfl (fun i_ v hv => (by rw [Nat.add_assoc]; exact (RR.cellat (hS.row (i := 3) rfl).rr (by rw [List.getElem?_map, xh]; rfl) HA1.out) _ v (by rw [Array.getElem?_toList]; exact lf_v (k := x.1) (v := x.2) i_ v hv))) (by kernel_rfl) (by rw [arrK_size]; kernel_rfl)) ?_
   refine TW ?_ (v := .agg (lf x.1 x.2)) (hv := by intro W; first | rfl | kernel_rfl)
   refine TE (fun _ h => h) ?_
   refine MN (z := lf 0 0) (t := 30) ?_
   intro p10_7
   refine TNp [1, 2, 3, 4, 5, 6] [0, 1, 2, 3, 4, 5] ?_
   refine TE (fun _ h => h.pick [1, 2, 3, 4, 5, 6]) ?_
   refine MR 0 ?_ (hz := by rw [lf_size]; kernel_rfl) (hs := by first | rw [lf_size, lf_size] | rw [lf_size] | kernel_rfl) (h1 := lf_one)
   refine TNp [1, 2, 3, 4, 5, 6] [0, 1, 2, 3, 4, 5] ?_
   refine TZ (fun _ h => h.pick [1, 2, 3, 4, 5, 6]) fun W hS => ?_
   go_upto_region 9 with fail
   refine RL hS ?_
   clear hS
   refine MV ?_
   refine ML 0 ?_ (hs := by rw [lf_size]; kernel_rfl)
   refine ME (fun W hS => tcall (T := (putT x.1 x.2 (ofT L) 0)) hS (Put_c (hM _ (List.mem_of_getElem? xh)).1 (hM _ (List.mem_of_getElem? xh)).2 (of_tsz (Nat.le_trans hLl (by decide))) (of_cnt (Nat.le_trans hLl (by decide))) W (GT_ext hG hS.ext) (hS.tt (i := 2) rfl)) rfl) ?_
   intro u_tz8
   refine MZ fun W hS => ?_
   go_upto_region 10 with fail
   refine RL hS ?_
   clear hS
   refine MV ?_
   refine ML 1 ?_ (hs := by rw [lf_size]; kernel_rfl)
   refine ME (fun W hS => tcall (T := (ofT (L ++ List.take i M ++ [x]))) hS ((by rw [ofT_snoc]; exact Put_c (hM _ (List.mem_of_getElem? xh)).1 (hM _ (List.mem_of_getElem? xh)).2 (of_tsz (by simp only [List.length_append, List.length_take, List.length_cons, List.length_nil]; omega)) (of_cnt (by simp only [List.length_append, List.length_take, List.length_cons, List.length_nil]; omega)) W (GT_ext hG hS.ext) (hS.tt (i := 2) rfl))) rfl) ?_
   intro u_tq9
   refine MV ?_
   refine MZ fun W hS => ?_
   go_upto_region 11 with fail
   refine RL hS ?_
   clear hS
   refine MV ?_
   refine MV ?_
   refine Ml 2 lf_k ?_
   obtain ⟨U2, hU2⟩ := exn ((wayN (ofT (L ++ List.take i M ++ [x])) x.1 0).length + 1)
   have HU2 := Lib.hid hU2
   clear hU2
   refine MC (v := .tuple #[.agg (arrK .u8 32 (byt x.2)), .bool true, .int .i64 (U2 : Int)]) (fun W hS => get_snoc (ok_app (ok_app hL (ok_take i hM)) (ok_one hM xh)) (by simp only [List.length_append, List.length_take, List.length_cons, List.length_nil]; omega) HU2.out.symm W (hS.tt (i := 0) rfl)) ?_
   refine MV ?_
   refine MV ?_
   refine MW ?_ (v := .bool true)
   refine MV ?_
   refine MN (z := arrK .u8 32 (byt 0)) (t := 22) ?_
   intro p11_10
   refine MR 0 ?_ 
   refine MW ?_ (v := .bool true)
   refine MV ?_
   refine MZ fun W hS => ?_
   go_upto_region 12 with fail
   refine RL hS ?_
   clear hS
   refine MW ?_ (v := .bool true)
   refine MW ?_ (v := .bool false)
   refine MW ?_ (v := .bool false)
   refine ML 0 ?_
   refine MV ?_
   refine Ml 3 lf_v ?_
   refine MW ?_ (v := .bool false) (hv := fun _ => run_neqA ((fun w => eqS32 rfl w) _) (by kernel_rfl) rfl rfl rfl)
   refine MW ?_ (v := .bool false)
   refine MZ fun W hS => ?_
   go_wp2
   go_roundw
   case rel => exact ⟨i + 1, u_tq9, by omega, rfl, by go_num, (by rw [← tk_snoc xh]; exact (hS.pick [1, 5, 6, 7, 8, 9]))⟩
   case measure => simp [intOf]; omega
  ·
   have _f := hlt
   obtain rfl : i = M.length := by omega
   rw [List.take_length] at hS
   go_upto_region 6 with fail
   refine RL hS ?_
   clear hS
   refine MV ?_
   refine MV ?_
   refine MF (v := .int .i64 ((List.map lfl M).length : Int)) (fun W hS => run_lenR (hS.row (i := 3) rfl) rfl rfl Tryd.underlying38) ?_
   refine MW ?_ (v := .bool false)
   refine MZ fun W hS => ?_
   go_upto_region 14 with fail
   refine RTh (.e 0 (.q 1 (.q 2 (.q 4 (.e 3 (.q 5 (.q 6 (.q 7 (.q 8 (.q 11 (.e 9 (.e 10 (.e 12 (.e 13 (.q 14 (.q 15 (.q 16 (.q 19 (.q 21 (.b 17 (.e 18 (.e 20 (.e 22 (.e 23 (.e 24 (.e 25 (.q 26 (.q 27 (.q 28 .z))))))))) 18 (.e 17 (.e 20 (.e 22 (.e 23 (.e 24 (.e 25 (.q 26 (.q 27 (.q 28 .z))))))))))))))))))))))))))))) hS ?_
   clear hS
   refine TE (fun _ h => h) ?_
   refine MC (v := .bool true) (fun W hS => trees_c hr W (GT_ext hG hS.ext)) ?_
   refine TNh (fun W hS => hS) ?_
   refine TW ?_ (v := .bool true)
   refine TV ?_
   refine TL 5 ?_
   refine TE (fun _ h => h) ?_
   refine MC (v := .agg (arrK .u8 32 (byt U1))) (fun W hS => (by rw [HU1.out]; exact root_c W (GT_ext hG hS.ext) (hS.tt (i := 1) rfl))) ?_
   refine TNh (fun W hS => hS) ?_
   refine TW ?_ (v := .bool true) (hv := fun _ => run_eqlA ((fun w => eqS32 rfl w) _) (by kernel_rfl) rfl rfl rfl)
   refine TW ?_ (v := .bool true)
   refine TW ?_ (v := .bool true)
   refine TV ?_
   refine TV ?_
   refine TE (fun _ h => h) ?_
   refine ME (fun W hS => rcall (ls := rlist L) hS ((by rw [← lvs_ofT hL]; exact leaves_c (by rw [lvs_ofT hL]; exact rl_le (Nat.le_trans hLl (show 6 ≤ 1000 by decide))) W (hS.tt (i := 1) rfl))) rfl) ?_
   intro u_lv11
   refine TNh (fun W hS => hS.pick [1, 2, 3, 4, 5, 6]) ?_
   refine TE (fun _ h => h) ?_
   refine ME (fun W hS => rcall (ls := rlist L) hS (from_c (rl_le2 (Nat.le_trans hLl (show 6 ≤ 1000 by decide))) W (hS.row (i := 0) rfl).rr) rfl) ?_
   intro u_fr12
   refine TNh (fun W hS => hS.pick [1, 2, 3, 4, 5, 6, 7]) ?_
   refine TE (fun _ h => h) ?_
   refine ME (fun W hS => rcall (ls := rlist L) hS (from_c (rl_le2 (Nat.le_trans hLl (show 6 ≤ 1000 by decide))) W (hS.row (i := 6) rfl).rr) rfl) ?_
   intro u_fr13
   refine TNh (fun W hS => hS.pick [1, 2, 3, 4, 5, 6, 7, 8]) ?_
   refine TE (fun _ h => h) ?_
   refine MC (v := .bool true) (fun W hS => (by have h_ := Same_c (rlist_spec hL).1 (rlist_spec hL).1 (rl_le (Nat.le_trans hLl (show 6 ≤ 1000 by decide))) W (hS.row (i := 1) rfl).rr (hS.row (i := 0) rfl).rr; rw [decide_eq_true rfl] at h_; exact h_)) ?_
   refine TNh (fun W hS => hS) ?_
   refine TW ?_ (v := .bool true)
   refine TW ?_ (v := .bool true)
   refine TV ?_
   refine TV ?_
   refine TV ?_
   refine TB (fun _ h => h) ?_ ?_
   ·
    skip
    obtain ⟨U2, hU2⟩ := exn (rs (ofT (L ++ M)))
    have HU2 := Lib.hid hU2
    clear hU2
    refine MC (v := .agg (arrK .u8 32 (byt U2))) (fun W hS => (by rw [HU2.out]; exact root_c W (GT_ext hG hS.ext) (hS.tt (i := 3) rfl))) ?_
    refine TNh (fun W hS => hS) ?_
    refine TE (fun _ h => h) ?_
    refine MB0 (t := 24) (n := 64) ?_
    intro v83_14
    refine TNp [1, 2, 3, 4, 5, 6, 7, 8, 9] [0, 1, 2, 3, 4, 5, 6, 7, 8] ?_
    refine TE (fun _ h => h.pick [1, 2, 3, 4, 5, 6, 7, 8, 9]) ?_
    refine MAR 0 (tS := 38) (bytes := 64) (es := []) (fs := (List.map lfl L)) (fun W hS => (hS.row (i := 6) rfl).rr) lfl_all (by first | omega | (simp only [List.length_append, List.length_map, List.length_take, List.length_drop, List.length_reverse, List.length_cons, List.length_nil]; omega)) ?_
    intro v85_15
    refine TNp [1, 2, 3, 4, 5, 6, 7, 8, 9] [0, 1, 2, 3, 4, 5, 6, 7, 8] ?_
    refine TE (fun _ h => h.pick [1, 2, 3, 4, 5, 6, 7, 8, 9]) ?_
    refine MAR 0 (tS := 38) (bytes := 64) (es := ([] ++ (List.map lfl L))) (fs := (List.map lfl M)) (fun W hS => (hS.row (i := 7) rfl).rr) lfl_all (by first | omega | (simp only [List.length_append, List.length_map, List.length_take, List.length_drop, List.length_reverse, List.length_cons, List.length_nil]; omega)) ?_
    intro v87_16
    refine MT (fun W hS => by rw [List.nil_append, ← List.map_append] at hS; exact hS) ?_
    refine TNp [0, 1, 2, 3, 4, 5, 6, 7, 8, 9] [1, 2, 3, 4, 5, 6, 7, 8, 9] ?_
    refine TE (fun _ h => h) ?_
    refine ME (fun W hS => rcall (ls := L ++ M) hS (to_c (Nat.le_trans (show List.length (L ++ M) ≤ 1000 by simp only [List.length_append, List.length_take, List.length_cons, List.length_nil]; omega) (by decide)) W (hS.row (i := 0) rfl).rr) rfl) ?_
    intro u_to17
    refine TNp [0, 1, 2, 3, 4, 5, 6, 7, 8, 9, 10] [1, 2, 3, 4, 5, 6, 7, 8, 9, 10] ?_
    refine TE (fun _ h => h) ?_
    refine ME (fun W hS => tcall (T := (ofT (L ++ M))) hS (of_r (ok_app hL hM) (show List.length (L ++ M) ≤ 1000 by simp only [List.length_append, List.length_take, List.length_cons, List.length_nil]; omega) W (GT_ext hG hS.ext) (hS.row (i := 0) rfl).rr) rfl) ?_
    intro u_tof18
    refine TNp [0, 1, 2, 3, 4, 5, 6, 7, 8, 9, 10, 11] [1, 2, 3, 4, 5, 6, 7, 8, 9, 10, 11] ?_
    refine TE (fun _ h => h) ?_
    refine MC (v := .agg (arrK .u8 32 (byt U2))) (fun W hS => (by rw [HU2.out]; exact root_c W (GT_ext hG hS.ext) (hS.tt (i := 0) rfl))) ?_
    refine TNp [0, 1, 2, 3, 4, 5, 6, 7, 8, 9, 10, 11] [0, 1, 2, 3, 4, 5, 6, 7, 8, 9, 10, 11] ?_
    refine TW ?_ (v := .bool true) (hv := fun _ => run_eqlA ((fun w => eqS32 rfl w) _) (by kernel_rfl) rfl rfl rfl)
    refine TW ?_ (v := .bool true)
    refine TW ?_ (v := .bool true)
    refine TZ (fun _ h => h) fun W hS => ?_
    go_wp2
    exact bodyPost_ret (v := .bool true) (by simp only [results, Tryd.results6]; go_simp) rfl ⟨rfl, hS.ext⟩
   ·
    skip
    refine MB0 (t := 24) (n := 64) ?_
    intro v83_19
    refine TNp [1, 2, 3, 4, 5, 6, 7, 8, 9] [0, 1, 2, 3, 4, 5, 6, 7, 8] ?_
    refine TE (fun _ h => h.pick [1, 2, 3, 4, 5, 6, 7, 8, 9]) ?_
    obtain ⟨U2, hU2⟩ := exn (rs (ofT (L ++ M)))
    have HU2 := Lib.hid hU2
    clear hU2
    refine MC (v := .agg (arrK .u8 32 (byt U2))) (fun W hS => (by rw [HU2.out]; exact root_c W (GT_ext hG hS.ext) (hS.tt (i := 4) rfl))) ?_
    refine TNp [1, 2, 3, 4, 5, 6, 7, 8, 9] [0, 1, 2, 3, 4, 5, 6, 7, 8] ?_
    refine TE (fun _ h => h.pick [1, 2, 3, 4, 5, 6, 7, 8, 9]) ?_
    refine MAR 0 (tS := 38) (bytes := 64) (es := []) (fs := (List.map lfl L)) (fun W hS => (hS.row (i := 6) rfl).rr) lfl_all (by first | omega | (simp only [List.length_append, List.length_map, List.length_take, List.length_drop, List.length_reverse, List.length_cons, List.length_nil]; omega)) ?_
    intro v85_20
    refine TNp [1, 2, 3, 4, 5, 6, 7, 8, 9] [0, 1, 2, 3, 4, 5, 6, 7, 8] ?_
    refine TE (fun _ h => h.pick [1, 2, 3, 4, 5, 6, 7, 8, 9]) ?_
    refine MAR 0 (tS := 38) (bytes := 64) (es := ([] ++ (List.map lfl L))) (fs := (List.map lfl M)) (fun W hS => (hS.row (i := 7) rfl).rr) lfl_all (by first | omega | (simp only [List.length_append, List.length_map, List.length_take, List.length_drop, List.length_reverse, List.length_cons, List.length_nil]; omega)) ?_
    intro v87_21
    refine MT (fun W hS => by rw [List.nil_append, ← List.map_append] at hS; exact hS) ?_
    refine TNp [0, 1, 2, 3, 4, 5, 6, 7, 8, 9] [1, 2, 3, 4, 5, 6, 7, 8, 9] ?_
    refine TE (fun _ h => h) ?_
    refine ME (fun W hS => rcall (ls := L ++ M) hS (to_c (Nat.le_trans (show List.length (L ++ M) ≤ 1000 by simp only [List.length_append, List.length_take, List.length_cons, List.length_nil]; omega) (by decide)) W (hS.row (i := 0) rfl).rr) rfl) ?_
    intro u_to22
    refine TNp [0, 1, 2, 3, 4, 5, 6, 7, 8, 9, 10] [1, 2, 3, 4, 5, 6, 7, 8, 9, 10] ?_
    refine TE (fun _ h => h) ?_
    refine ME (fun W hS => tcall (T := (ofT (L ++ M))) hS (of_r (ok_app hL hM) (show List.length (L ++ M) ≤ 1000 by simp only [List.length_append, List.length_take, List.length_cons, List.length_nil]; omega) W (GT_ext hG hS.ext) (hS.row (i := 0) rfl).rr) rfl) ?_
    intro u_tof23
    refine TNp [0, 1, 2, 3, 4, 5, 6, 7, 8, 9, 10, 11] [1, 2, 3, 4, 5, 6, 7, 8, 9, 10, 11] ?_
    refine TE (fun _ h => h) ?_
    refine MC (v := .agg (arrK .u8 32 (byt U2))) (fun W hS => (by rw [HU2.out]; exact root_c W (GT_ext hG hS.ext) (hS.tt (i := 0) rfl))) ?_
    refine TNp [0, 1, 2, 3, 4, 5, 6, 7, 8, 9, 10, 11] [0, 1, 2, 3, 4, 5, 6, 7, 8, 9, 10, 11] ?_
    refine TW ?_ (v := .bool true) (hv := fun _ => run_eqlA ((fun w => eqS32 rfl w) _) (by kernel_rfl) rfl rfl rfl)
    refine TW ?_ (v := .bool true)
    refine TW ?_ (v := .bool true)
    refine TZ (fun _ h => h) fun W hS => ?_
    go_wp2
    exact bodyPost_ret (v := .bool true) (by simp only [results, Tryd.results6]; go_simp) rfl ⟨rfl, hS.ext⟩
end Go.Proofs.YtndnlbinnhdmbaaDoor
