/- TreeOrders. Conditions: keys and values have 256 bits; the tables hold their numbers. -/
import Derived.Test.YtndnlbinnhdmbaaDoorTsU
import Derived.Test.YtndnlbinnhdmbaaDoorTsV
set_option linter.unusedSimpArgs false
set_option linter.unusedVariables false
namespace Go.Proofs.YtndnlbinnhdmbaaDoor
set_option maxHeartbeats 3000000
set_option maxRecDepth 100000
open Go.RowKit
attribute [local irreducible] wpList wpTr wpX
set_option linter.unusedSimpArgs false
theorem ofT_perm {p Z : List Lf} (hp : p.Perm Z) (ho : ok256 Z) (hs : Srt Z) : ofT p = ofT Z := by
 rw [ofT_can (rlist_perm hp ho hs).1, ofT_can ho, (rlist_perm hp ho hs).2, rlist_self ho hs]
theorem lvs_ofW {Z : List Lf} (ho : ok256 Z) (hs : Srt Z) : lvs (ofT Z) = Z := by rw [lvs_ofT ho, rlist_self ho hs]
theorem kk_of (n : Int) (L : Nat) (h : 0 < L) : ∃ kk : Nat, (n % 18446744073709551616) % (L : Int) = (kk : Int) ∧ kk < L := by
 have h1 := Int.emod_nonneg (n % 18446744073709551616) (b := (L : Int)) (by omega)
 have h2 := Int.emod_lt_of_pos (n % 18446744073709551616) (b := (L : Int)) (by omega)
 exact ⟨((n % 18446744073709551616) % (L : Int)).toNat, (Int.toNat_of_nonneg h1).symm, by omega⟩
theorem rot_perm (k : Nat) (Z : List Lf) : (Z.drop k ++ Z.take k).Perm Z := by
 have h := List.perm_append_comm (l₁ := Z.drop k) (l₂ := Z.take k)
 rwa [List.take_append_drop] at h
theorem rev_take {Z : List Lf} {i : Nat} {x : Lf} (h : Z[i]? = some x) : (Z.drop i).reverse = (Z.drop (i + 1)).reverse ++ [x] := by
 obtain ⟨hi, e⟩ := List.getElem?_eq_some_iff.1 h
 rw [List.drop_eq_getElem_cons hi, e, List.reverse_cons]
attribute [local irreducible] hs4 sE sL sN

theorem treeOrders_W {q : Prop} (hr : q) (n : Int) {ls Z : List Lf} (hW : rlist (ls.take 7) = Z) (hls : ok256 ls) (hWo : ok256 Z) (hWs : Srt Z) (hWl : Z.length ≤ 1000) {u0 : Value} (w : World) (hG : GT q w) (hl : RR 64 w u0 (ls.map lfl)) :
  Calls Tryd.prog 5 #[u0, .int .i64 n] w fun e w' => Ret (.bool true) w w' e := by
 have hS := SH.nil [] w
 go_enter Tryd.func5, Tryd.ntmps5
 go_upto_region 1 with fail
 refine RL hS ?_
 clear hS
 refine MV ?_
 refine ME (fun W hS => rcall (ls := ls.take 7) hS (few_c 7 (by decide) W (hl.ext hS.ext)) rfl) ?_
 intro u_fw1
 refine ME (fun W hS => rcall (ls := Z) hS ((by rw [← hW]; exact list_c (ok_take 7 hls) (by rw [List.length_take]; omega) W (hS.row (i := 0) rfl).rr)) rfl) ?_
 intro u_w2
 refine MV ?_
 refine MZ fun W hS => ?_
 by_cases hz : Z = []
 ·
  have _f := hz
  go_upto_region 2 with fail
  refine RL hS ?_
  clear hS
  refine MC (v := .bool true) (fun W hS => trees_c hr W (GT_ext hG hS.ext)) ?_
  refine MW ?_ (v := .bool false)
  refine MW ?_ (v := .bool false)
  refine MV ?_
  refine MF (v := .int .i64 ((List.map lfl Z).length : Int)) (fun W hS => run_lenR (hS.row (i := 0) rfl) rfl rfl Tryd.underlying38) ?_
  refine MW ?_ (v := .bool true) (hv := by intro W; first | (go_simp; done) | (subst hz; go_simp))
  refine MW ?_ (v := .bool true)
  refine MZ fun W hS => ?_
  go_upto_region 3 with fail
  refine RL hS ?_
  clear hS
  refine MC (v := .bool true) (fun W hS => trees_c hr W (GT_ext hG hS.ext)) ?_
  refine MW ?_ (v := .bool true)
  refine MZ fun W hS => ?_
  go_wp2
  exact bodyPost_ret (v := .bool true) (by simp only [results, Tryd.results5]; go_simp) rfl ⟨rfl, hS.ext⟩
 ·
  have _f := hz
  have hzl : 0 < Z.length := List.length_pos_iff.2 hz
  obtain ⟨kk, hkk, hkl⟩ := kk_of n Z.length hzl
  have HK := Lib.hid hkk
  clear hkk
  go_upto_region 2 with fail
  refine RL hS ?_
  clear hS
  refine MC (v := .bool true) (fun W hS => trees_c hr W (GT_ext hG hS.ext)) ?_
  refine MW ?_ (v := .bool false)
  refine MW ?_ (v := .bool false)
  refine MV ?_
  refine MF (v := .int .i64 ((List.map lfl Z).length : Int)) (fun W hS => run_lenR (hS.row (i := 0) rfl) rfl rfl Tryd.underlying38) ?_
  refine MW ?_ (v := .bool false) (hv := by intro W; first | (go_simp; done) | (go_simp; exact hz))
  refine MW ?_ (v := .bool false)
  refine MZ fun W hS => ?_
  go_upto_region 4 with fail
  refine RL hS ?_
  clear hS
  refine MV ?_
  refine MW ?_ (v := .int .u64 (n % 18446744073709551616)) (hv := by intro W; go_simp; (try simp only [IntKind.wrap_u64]))
  refine MV ?_
  refine MF (v := .int .i64 ((List.map lfl Z).length : Int)) (fun W hS => run_lenR (hS.row (i := 0) rfl) rfl rfl Tryd.underlying38) ?_
  refine MW ?_ (v := .int .u64 (Z.length : Int)) (hv := by intro W; go_simp; (try simp only [IntKind.wrap_u64]); omega)
  refine MW ?_ (v := .int .u64 (kk : Int)) (hv := by intro W; rw [← HK.out]; go_simp; exact Int.tmod_eq_emod_of_nonneg (by omega))
  refine MW ?_ (v := .int .i64 (kk : Int)) (hv := by intro W; go_simp; (try simp only [IntKind.wrap_i64]); omega)
  refine MV ?_
  refine MZ fun W hS => ?_
  go_upto_region 5 with fail
  refine RL hS ?_
  clear hS
  refine MV ?_
  refine ME (fun W hS => rcall (ls := Z) hS (to_c (by have h_ := hWl; omega) W (hS.row (i := 0) rfl).rr) rfl) ?_
  intro u_to3
  refine ME (fun W hS => tcall (T := (ofT Z)) hS (of_r hWo hWl W (GT_ext hG hS.ext) (hS.row (i := 0) rfl).rr) rfl) ?_
  intro u_tof4
  refine MV ?_
  refine MZ fun W hS => ?_
  obtain ⟨u36, hu36, hR36⟩ := rr_tail (m := kk) (hS.row (i := 2) rfl).rr (by rw [List.length_map]; omega) Tryd.underlying38 (by kernel_rfl)
  obtain ⟨u40, hu40, hR40⟩ := rr_head (m := kk) (hS.row (i := 2) rfl).rr (by rw [List.length_map]; omega) Tryd.underlying38 (by kernel_rfl)
  go_upto_region 6 with fail
  refine RTh (.q 1 (.q 2 (.q 3 (.q 5 (.q 6 (.q 7 (.e 0 (.e 4 (.e 8 (.e 9 (.e 10 (.q 11 .z)))))))))))) hS ?_
  clear hS
  refine TV ?_
  refine TV ?_
  refine TW ?_ (v := u36) (hv := fun _ => run_tailV hu36 rfl rfl rfl)
  refine TV ?_
  refine TV ?_
  refine TW ?_ (v := u40) (hv := fun _ => run_headV hu40 rfl rfl rfl)
  refine TE (fun _ h => h) ?_
  refine MB0 (t := 24) (n := 64) ?_
  intro v33_5
  refine TNp [1, 2, 3, 4] [0, 1, 2, 3] ?_
  refine TE (fun _ h => h.pick [1, 2, 3, 4]) ?_
  refine MAR 0 (tS := 38) (bytes := 64) (es := []) (fs := (List.map lfl (List.drop kk Z))) (fun W hS => (by rw [List.map_drop]; exact hR36 W (hS.row (i := 3) rfl).rr)) lfl_all (by first | omega | (simp only [List.length_append, List.length_map, List.length_take, List.length_drop, List.length_reverse, List.length_cons, List.length_nil]; omega)) ?_
  intro v37_6
  refine TNp [1, 2, 3, 4] [0, 1, 2, 3] ?_
  refine TE (fun _ h => h.pick [1, 2, 3, 4]) ?_
  refine MAR 0 (tS := 38) (bytes := 64) (es := ([] ++ (List.map lfl (List.drop kk Z)))) (fs := (List.map lfl (List.take kk Z))) (fun W hS => (by rw [List.map_take]; exact hR40 W (hS.row (i := 3) rfl).rr)) lfl_all (by first | omega | (simp only [List.length_append, List.length_map, List.length_take, List.length_drop, List.length_reverse, List.length_cons, List.length_nil]; omega)) ?_
  intro v41_7
  refine MT (fun W hS => by rw [List.nil_append, ← List.map_append] at hS; exact hS) ?_
  refine TNp [0, 1, 2, 3, 4] [1, 2, 3, 4] ?_
  refine TE (fun _ h => h) ?_
  refine ME (fun W hS => rcall (ls := List.drop kk Z ++ List.take kk Z) hS (to_c (by rw [(rot_perm kk Z).length_eq]; have h_ := hWl; omega) W (hS.row (i := 0) rfl).rr) rfl) ?_
  intro u_to8
  refine TNp [0, 1, 2, 3, 4, 5] [1, 2, 3, 4, 5] ?_
  refine TE (fun _ h => h) ?_
  refine ME (fun W hS => tcall (T := (ofT Z)) hS ((by rw [← ofT_perm (rot_perm kk Z) hWo hWs]; exact of_r (rlist_perm (rot_perm kk Z) hWo hWs).1 (by rw [(rot_perm kk Z).length_eq]; exact hWl) W (GT_ext hG hS.ext) (hS.row (i := 0) rfl).rr)) rfl) ?_
  intro u_tof9
  refine TNp [0, 1, 2, 3, 4, 5, 6] [1, 2, 3, 4, 5, 6] ?_
  refine TV ?_
  refine TZ (fun _ h => h) fun W hS => ?_
  go_upto_region 8 with fail
  refine RL hS ?_
  clear hS
  refine MV ?_
  refine MF (v := .int .i64 ((List.map lfl Z).length : Int)) (fun W hS => run_lenR (hS.row (i := 5) rfl) rfl rfl Tryd.underlying38) ?_
  refine MW ?_ (v := .int .i64 ((Z.length : Int) - 1)) (hv := by intro W; go_simp; (try simp only [IntKind.wrap_i64]); omega)
  refine MV ?_
  refine MZ fun W hS => ?_
  have hS := hS.rnil 24 64 rfl
  go_wp2_with fail
  go_loopw [9, 10] (fun uu ii wr => ∃ (j : Nat) (v : Int) (nv : Value), (j ≤ Z.length) ∧ (v = (j : Int) - 1) ∧ (nv = uu) ∧ (ii = .int .i64 v) ∧ SH [] w wr [.r 24 64 nv (List.map lfl (List.reverse (List.drop j Z))), .r 24 64 u_w2 (List.map lfl Z), .t 105 (fun W => TA W (ofT Z) u_tof4), .t 105 (fun W => TA W (ofT Z) u_tof9)])
   (fun uu ii _ => ((intOf ii) + 1).toNat)
  case atStart => exact ⟨Z.length, _, _, Nat.le_refl _, rfl, rfl, rfl, (by rw [List.drop_length]; exact (hS.pick [0, 6, 4, 1]))⟩
  clear hS
  case round =>
   obtain ⟨j, v, nv, hj, hv, rfl, rfl, hS⟩ := hrel
   by_cases hlt : 0 < j
   ·
    have _f := hlt
    obtain ⟨i, rfl⟩ : ∃ i : Nat, v = (i : Int) := ⟨j - 1, by omega⟩
    obtain rfl : j = i + 1 := by omega
    clear hv
    obtain ⟨x, xh⟩ : ∃ x, Z[i]? = some x := ⟨_, List.getElem?_eq_getElem (by omega)⟩
    go_upto_region 9 with fail
    refine RL hS ?_
    clear hS
    refine MV ?_
    refine MW ?_ (v := .bool true)
    refine MZ fun W hS => ?_
    go_upto_region 11 with fail
    refine RL hS ?_
    clear hS
    refine MV ?_
    refine MV ?_
    refine MV ?_
    refine MI 1 i (e := (lfl x)) (by rw [List.getElem?_map, xh]; rfl) ?_
    intro gb54_10 _ hv54_10
    refine MF (v := .agg (lf x.1 x.2)) (fun W hS => run_atsub rfl rfl (fun i_ v hv => row_cell (hS.row (i := 1) rfl) hv54_10.out (by rw [List.getElem?_map, xh]; rfl) i_ v ((fun i_ v hv => by simpa using hv) i_ v hv)) (by kernel_rfl) (by rw [lf_size]; kernel_rfl)) ?_
    refine MB (z := (lf x.1 x.2)) (t := 24) (n := 1) (c := 1) ?_ (hr := fun W _ => run_bsA rfl rfl rfl Tryd.underlying38 (by rw [lf_size]; kernel_rfl) (by rw [lf_size]; kernel_rfl) (by rw [lf_size]; decide) (by rw [lf_size]; decide))
    intro p56_11
    refine MAr 1 0 (tS := 38) (bytes := 64) (es := (List.map lfl (List.reverse (List.drop (i + 1) Z)))) (by first | omega | (simp only [List.length_append, List.length_map, List.length_take, List.length_drop, List.length_reverse, List.length_cons, List.length_nil]; omega)) (e := lfl x) (hk := lf_size) (h1 := lf_one) ?_
    intro v57_12
    refine MV ?_
    refine MZ fun W hS => ?_
    go_upto_region 10 with fail
    refine RL hS ?_
    clear hS
    refine MV ?_
    refine MW ?_ (v := .int .i64 ((i : Int) - 1)) (hv := by intro W; go_simp; (try simp only [IntKind.wrap_i64]); omega)
    refine MV ?_
    refine MZ fun W hS => ?_
    go_wp2
    go_roundw
    case rel => exact ⟨i, ((i : Int) - 1), v57_12, by omega, rfl, rfl, rfl, (by rw [rev_take xh, List.map_append]; exact (hS.pick [1, 2, 3, 4]))⟩
    case measure => (simp [intOf]; try omega)
   ·
    have _f := hlt
    obtain rfl : j = 0 := by omega
    rw [List.drop_zero] at hS
    go_upto_region 9 with fail
    refine RL hS ?_
    clear hS
    refine MV ?_
    refine MW ?_ (v := .bool false)
    refine MZ fun W hS => ?_
    go_upto_region 12 with fail
    refine RL hS ?_
    clear hS
    refine MV ?_
    refine ME (fun W hS => rcall (ls := List.reverse Z) hS (to_c (by rw [(List.reverse_perm Z).length_eq]; have h_ := hWl; omega) W (hS.row (i := 0) rfl).rr) rfl) ?_
    intro u_to13
    refine ME (fun W hS => tcall (T := (ofT Z)) hS ((by rw [← ofT_perm (List.reverse_perm Z) hWo hWs]; exact of_r (rlist_perm (List.reverse_perm Z) hWo hWs).1 (by rw [(List.reverse_perm Z).length_eq]; exact hWl) W (GT_ext hG hS.ext) (hS.row (i := 0) rfl).rr)) rfl) ?_
    intro u_tof14
    refine MV ?_
    refine MZ fun W hS => ?_
    go_upto_region 13 with fail
    refine RL hS ?_
    clear hS
    refine MV ?_
    obtain ⟨U1, hU1⟩ := exn (rs (ofT Z))
    have HU1 := Lib.hid hU1
    clear hU1
    refine MC (v := .agg (arrK .u8 32 (byt U1))) (fun W hS => (by rw [HU1.out]; exact root_c W (GT_ext hG hS.ext) (hS.tt (i := 4) rfl))) ?_
    refine MV ?_
    refine MC (v := .agg (arrK .u8 32 (byt U1))) (fun W hS => (by rw [HU1.out]; exact root_c W (GT_ext hG hS.ext) (hS.tt (i := 5) rfl))) ?_
    refine MW ?_ (v := .bool true) (hv := fun _ => run_eqlA ((fun w => eqS32 rfl w) _) (by kernel_rfl) rfl rfl rfl)
    refine MW ?_ (v := .bool true)
    refine MV ?_
    refine MC (v := .agg (arrK .u8 32 (byt U1))) (fun W hS => (by rw [HU1.out]; exact root_c W (GT_ext hG hS.ext) (hS.tt (i := 4) rfl))) ?_
    refine MV ?_
    refine MC (v := .agg (arrK .u8 32 (byt U1))) (fun W hS => (by rw [HU1.out]; exact root_c W (GT_ext hG hS.ext) (hS.tt (i := 0) rfl))) ?_
    refine MW ?_ (v := .bool true) (hv := fun _ => run_eqlA ((fun w => eqS32 rfl w) _) (by kernel_rfl) rfl rfl rfl)
    refine MW ?_ (v := .bool true)
    refine MW ?_ (v := .bool true)
    refine MV ?_
    refine ME (fun W hS => rcall (ls := Z) hS ((by rw [← lvs_ofW hWo hWs]; exact leaves_c (by rw [lvs_ofW hWo hWs]; have h_ := hWl; omega) W (hS.tt (i := 5) rfl))) rfl) ?_
    intro u_lv15
    refine ME (fun W hS => rcall (ls := Z) hS (from_c (by have h_ := hWl; omega) W (hS.row (i := 0) rfl).rr) rfl) ?_
    intro u_fr16
    refine MV ?_
    refine MC (v := .bool true) (fun W hS => (by have h_ := Same_c hWo hWo (by have h_ := hWl; omega) W (hS.row (i := 0) rfl).rr (hS.row (i := 5) rfl).rr; rw [decide_eq_true rfl] at h_; exact h_)) ?_
    refine MW ?_ (v := .bool true)
    refine MW ?_ (v := .bool true)
    refine MV ?_
    refine ME (fun W hS => rcall (ls := Z) hS ((by rw [← lvs_ofW hWo hWs]; exact leaves_c (by rw [lvs_ofW hWo hWs]; have h_ := hWl; omega) W (hS.tt (i := 2) rfl))) rfl) ?_
    intro u_lv17
    refine ME (fun W hS => rcall (ls := Z) hS (from_c (by have h_ := hWl; omega) W (hS.row (i := 0) rfl).rr) rfl) ?_
    intro u_fr18
    refine MV ?_
    refine MC (v := .bool true) (fun W hS => (by have h_ := Same_c hWo hWo (by have h_ := hWl; omega) W (hS.row (i := 0) rfl).rr (hS.row (i := 7) rfl).rr; rw [decide_eq_true rfl] at h_; exact h_)) ?_
    refine MW ?_ (v := .bool true)
    refine MW ?_ (v := .bool true)
    refine MZ fun W hS => ?_
    go_wp2
    exact bodyPost_ret (v := .bool true) (by simp only [results, Tryd.results5]; go_simp) rfl ⟨rfl, hS.ext⟩
end Go.Proofs.YtndnlbinnhdmbaaDoor
