/- Proofs: the document's texts; what Check tells, the program's and the document's. Conditions: the tables hold their numbers; keys and values have 256 bits. -/
import Derived.Test.YtndnlbinnhdmbaaDoorPrA
set_option linter.unusedSimpArgs false
set_option linter.unusedVariables false
namespace Go.Proofs.YtndnlbinnhdmbaaDoor
set_option maxHeartbeats 3000000
set_option maxRecDepth 100000
open Go.RowKit
attribute [local irreducible] wpList wpTr wpX
set_option linter.unusedSimpArgs false
abbrev str1 (t : List UInt8) : List Value := [str t]
theorem chk_or (n c : Nat) (th : Bool) : 256 < n ∨ (n ≤ 256 ∧ th = false) ∨ (n ≤ 256 ∧ th = true ∧ c < n) ∨ (n ≤ 256 ∧ th = true ∧ n ≤ c) := by
 cases th
 ·
  by_cases h : 256 < n
  ·
   exact .inl h
  ·
   exact .inr (.inl ⟨by omega, rfl⟩)
 ·
  by_cases h : 256 < n
  ·
   exact .inl h
  ·
   by_cases h2 : c < n
   ·
    exact .inr (.inr (.inl ⟨by omega, rfl, h2⟩))
   ·
    exact .inr (.inr (.inr ⟨by omega, rfl, by omega⟩))
attribute [local irreducible] hs4 sE sL sN lb
theorem strs_b {U R : Nat} {T : List UInt8} (hU : U = hs4 T) (hR : R < 2 ^ 256) : (lb 32 U = lb 32 R) = (hs4 T = R) := by
 subst hU
 exact propext ⟨fun h => lb_inj (hs_lt4 _) hR h, fun h => by rw [h]⟩

theorem rbit_hi (k i : Nat) (h : 256 ≤ i) (hi : i < 4611686018427387904) (w : World) :
  Calls Tryd.prog 62 #[.agg (arrK .u8 32 (byt k)), .int .i64 (i : Int)] w fun e w' => Ret (.int .i64 0) w w' e := by
 have hS := SH.nil [] w
 go_enter Tryd.func62, Tryd.ntmps62
 go_upto_region 0 with fail
 refine RL hS ?_
 clear hS
 refine MN (z := arrK .u8 32 (byt k)) (t := 22) ?_
 intro p2_1
 refine MW ?_ (v := .int .i64 0)
 refine MZ fun W hS => ?_
 go_upto_region 1 with fail
 refine RL hS ?_
 clear hS
 refine MV ?_
 refine MW ?_ (v := .bool false) (hv := by intro W; go_simp; (try omega))
 refine MW ?_ (v := .bool false)
 refine MV ?_
 refine MW ?_ (v := .bool true) (hv := by intro W; go_simp; (try omega))
 refine MW ?_ (v := .bool true)
 refine MZ fun W hS => ?_
 go_wp2
 exact bodyPost_ret (v := .int .i64 0) (by simp only [results, Tryd.results62]; go_simp) rfl ⟨rfl, hS.ext⟩
theorem rbitA (k i : Nat) (hi : i < 4611686018427387904) (w : World) : Calls Tryd.prog 62 #[.agg (arrK .u8 32 (byt k)), .int .i64 (i : Int)] w fun e w' => Ret (.int .i64 (kb k i : Int)) w w' e := by
 rcases Nat.lt_or_ge i 256 with h | h
 ·
  exact rbitk k i h w
 ·
  rw [kb_hi h]; exact rbit_hi k i h hi w
theorem rTexts_c {q : Prop} (hr : q) {ss : List Nat} {sv : Value} {th : Bool} {k a x : Nat} (hn : ss.length ≤ 1000) (w : World) (hG : GT q w) (hp : RR 32 w sv (ss.map b32l)) :
  Calls Tryd.prog 39 #[.agg (arrK .u8 32 (byt k)), .agg (pfc sv th a x)] w fun e w' => ∃ v, e = .returned v ∧ SH [] w w' [.r 9 1 v ((tA k ss 0 (tE th a x)).map str1)] := by
 obtain ⟨Ap, cp, rfl, hlcp, HRp⟩ := RR.opf hp
 have hS := SH.nil [] w
 go_enter Tryd.func39, Tryd.ntmps39
 go_upto_region 0 with fail
 refine RL hS ?_
 clear hS
 refine MN (z := arrK .u8 32 (byt k)) (t := 22) ?_
 intro p2_1
 refine MN (z := pfc (.slice Ap ss.length cp) th a x) (t := 66) ?_
 intro p3_2
 refine MV ?_
 refine MZ fun W hS => ?_
 rcases th with _ | _
 ·
  have _f := True.intro
  go_upto_region 2 with fail
  refine RL hS ?_
  clear hS
  refine MV ?_
  refine MG 0 ?_ (v := .bool false) (hj := pf_t)
  refine MZ fun W hS => ?_
  go_upto_region 4 with fail
  refine RL hS ?_
  clear hS
  refine MV ?_
  refine MB (z := #[str [2]]) (t := 9) (n := 1) (c := 1) ?_ (hr := fun W hS => run_bsv [str [2]] rfl rfl (vsc rfl vs0) Tryd.underlying61 (by kernel_rfl) (by kernel_rfl) rfl (by decide) (by decide))
  intro p23_3
  refine MV ?_
  refine MZ fun W hS => ?_
  go_upto_region 5 with fail
  refine RL hS ?_
  clear hS
  refine MV ?_
  refine MG 1 ?_ (v := .slice Ap ss.length cp) (hj := pf_s)
  refine MV ?_
  refine MW ?_ (v := .int .i64 ((ss.length : Int) - 1)) (hv := by intro W; go_simp; (try simp only [IntKind.wrap_i64]); omega)
  refine MV ?_
  refine MZ fun W hS => ?_
  have hS := hS.b2r (k := 1) (es := List.map str1 [[2]]) (n := 1) (by rfl) (by intro e he; simp at he; subst he; rfl) rfl (by decide)
  go_wp2_with fail
  go_loopw [5, 6, 7, 8, 9] (fun tt uu ii y1 y2 wr => ∃ (j : Nat) (sl : Value) (iv : Int), (j ≤ ss.length) ∧ (sl = uu) ∧ (tt = str (tT k (List.drop j ss) j (tE false a x))) ∧ (iv = (j : Int) - 1) ∧ (ii = .int .i64 iv) ∧ SH [] w wr [.r 9 1 sl (List.map str1 (tA k (List.drop j ss) j (tE false a x))), .b p2_1 (arrK .u8 32 (byt k)) 22, .b p3_2 (pfc (.slice Ap ss.length cp) false a x) 66])
   (fun tt uu ii y1 y2 _ => ((intOf ii) + 1).toNat)
  case atStart => exact ⟨ss.length, _, _, Nat.le_refl _, rfl, by rw [List.drop_length]; rfl, rfl, rfl, (by rw [List.drop_length]; exact (hS.pick [0, 2, 1]))⟩
  clear hS
  case round =>
   obtain ⟨j, sl, iv, hj, rfl, rfl, hiv, rfl, hS⟩ := hrel
   rcases j with _ | d
   ·
    have _f := True.intro
    obtain rfl : iv = -1 := by omega
    clear hiv
    rw [List.drop_zero] at hS
    go_upto_region 6 with fail
    refine RL hS ?_
    clear hS
    refine MW ?_ (v := .int .i64 (-1))
    refine MW ?_ (v := .bool false)
    refine MZ fun W hS => ?_
    go_wp2
    exact bodyPost_ret (v := sl) (by simp only [results, Tryd.results39]; go_simp) rfl ⟨_, rfl, hS.pick [0]⟩
   ·
    have _f := True.intro
    obtain rfl : iv = (d : Int) := by omega
    clear hiv
    have hdlt : d < ss.length := by omega
    obtain ⟨o, oh⟩ : ∃ o, ss[d]? = some o := ⟨_, List.getElem?_eq_getElem hdlt⟩
    obtain ⟨gp, op, A0p, c0p⟩ := HRp.out d o oh
    have HAp := Lib.hid A0p
    clear A0p
    have hlt_ : (tT k (List.drop (d + 1) ss) (d + 1) (tE false a x)).length ≤ 67 := tT_len k (tE_len ..) _ _
    have hla_ : (tA k (List.drop (d + 1) ss) (d + 1) (tE false a x)).length ≤ 1001 := by rw [tA_len, List.length_drop]; omega
    go_upto_region 6 with fail
    refine RL hS ?_
    clear hS
    refine MV ?_
    refine MW ?_ (v := .bool true)
    refine MZ fun W hS => ?_
    go_upto_region 8 with fail
    refine RL hS ?_
    clear hS
    refine MV ?_
    obtain ⟨U1, hU1⟩ := exn (hs4 (tT k (List.drop (d + 1) ss) (d + 1) (tE false a x)))
    have HU1 := Lib.hid hU1
    clear hU1
    refine MC (v := str (lb 32 U1)) (fun W hS => rsumN4_c HU1.out (by first | omega | (simp only [List.length_append, List.length_cons, List.length_nil, lb_length, dbl]; omega)) W (GR_ext4 (hG.2 hr) hS.ext)) ?_
    refine MV ?_
    refine MZ fun W hS => ?_
    go_upto_region 9 with fail
    refine RL hS ?_
    clear hS
    refine MV ?_
    refine MG 2 ?_ (v := .slice Ap ss.length cp) (hj := pf_s)
    refine MV ?_
    refine MW ?_ (v := .pointer (some ⟨gp, op + d * 32, none⟩)) (hv := fun _ => run_ixRA HAp.out hdlt rfl rfl rfl Tryd.underlying58 (by kernel_rfl))
    refine MW ?_ (v := .slice (some ⟨gp, op + d * 32, none⟩) 32 32)
    refine MF (v := str (lb 32 o)) (fun W hS => run_cvs (sl_c32 (fun i_ v_ h_ => cell_ext (c0p i_ v_ h_) hS.ext)) rfl rfl) ?_
    refine MV ?_
    refine MZ fun W hS => ?_
    go_upto_region 10 with fail
    refine RL hS ?_
    clear hS
    refine MV ?_
    refine MW ?_ (v := .int .i64 ((d : Int) / 256)) (hv := by intro W; exact run_shr_i (n := 8) (by decide) rfl rfl rfl)
    refine MW ?_ (v := .int .u8 ((UInt8.ofNat ((d : Int) / 256 % 256).toNat).toNat : Int)) (hv := by intro W; rw [← db_hi (d : Int)]; exact run_c8i rfl rfl)
    refine MV ?_
    refine MW ?_ (v := .int .u8 ((UInt8.ofNat ((d : Int) % 256).toNat).toNat : Int)) (hv := by intro W; rw [← db_lo (d : Int)]; exact run_c8i rfl rfl)
    refine MO (m := [UInt8.ofNat ((d : Int) / 256 % 256).toNat, UInt8.ofNat ((d : Int) % 256).toNat]) (n := 2) (z := #[.int .u8 ((UInt8.ofNat ((d : Int) / 256 % 256).toNat).toNat : Int), .int .u8 ((UInt8.ofNat ((d : Int) % 256).toNat).toNat : Int)]) ?_
    intro v45_4
    refine MF (v := str [UInt8.ofNat ((d : Int) / 256 % 256).toNat, UInt8.ofNat ((d : Int) % 256).toNat]) (fun W hS => run_cvs (hS.osl (i := 0) rfl) rfl rfl) ?_
    refine MW ?_ (v := str ([1] ++ [UInt8.ofNat ((d : Int) / 256 % 256).toNat, UInt8.ofNat ((d : Int) % 256).toNat])) (hv := fun _ => run_cat (l := [1]) (m := [UInt8.ofNat ((d : Int) / 256 % 256).toNat, UInt8.ofNat ((d : Int) % 256).toNat]) rfl rfl rfl (by first | omega | (simp only [List.length_append, List.length_map, List.length_take, List.length_drop, List.length_reverse, List.length_cons, List.length_nil, lb_length, dbl]; omega)))
    refine MV ?_
    refine MZ fun W hS => ?_
    rcases kb_01 k d with hb | hb
    ·
     have _f := True.intro
     go_upto_region 11 with fail
     refine RL hS ?_
     clear hS
     refine ML 2 ?_
     refine MV ?_
     refine MC (v := .int .i64 0) (fun W hS => (by have h_ := rbitA k d (by omega) W; rw [hb] at h_; exact h_)) ?_
     refine MW ?_ (v := .bool true)
     refine MZ fun W hS => ?_
     go_upto_region 12 with fail
     refine RL hS ?_
     clear hS
     refine MV ?_
     refine MV ?_
     refine MW ?_ (v := str (([1] ++ [UInt8.ofNat ((d : Int) / 256 % 256).toNat, UInt8.ofNat ((d : Int) % 256).toNat]) ++ (lb 32 U1))) (hv := fun _ => run_cat (l := ([1] ++ [UInt8.ofNat ((d : Int) / 256 % 256).toNat, UInt8.ofNat ((d : Int) % 256).toNat])) (m := (lb 32 U1)) rfl rfl rfl (by first | omega | (simp only [List.length_append, List.length_map, List.length_take, List.length_drop, List.length_reverse, List.length_cons, List.length_nil, lb_length, dbl]; omega)))
     refine MV ?_
     refine MW ?_ (v := str ((([1] ++ [UInt8.ofNat ((d : Int) / 256 % 256).toNat, UInt8.ofNat ((d : Int) % 256).toNat]) ++ (lb 32 U1)) ++ (lb 32 o))) (hv := fun _ => run_cat (l := (([1] ++ [UInt8.ofNat ((d : Int) / 256 % 256).toNat, UInt8.ofNat ((d : Int) % 256).toNat]) ++ (lb 32 U1))) (m := (lb 32 o)) rfl rfl rfl (by first | omega | (simp only [List.length_append, List.length_map, List.length_take, List.length_drop, List.length_reverse, List.length_cons, List.length_nil, lb_length, dbl]; omega)))
     refine MV ?_
     refine MZ fun W hS => ?_
     go_upto_region 14 with fail
     refine RL hS ?_
     clear hS
     refine MV ?_
     refine MV ?_
     refine MB (z := #[str ((([1] ++ [UInt8.ofNat ((d : Int) / 256 % 256).toNat, UInt8.ofNat ((d : Int) % 256).toNat]) ++ (lb 32 U1)) ++ (lb 32 o))]) (t := 9) (n := 1) (c := 1) ?_ (hr := fun W hS => run_bsv [str ((([1] ++ [UInt8.ofNat ((d : Int) / 256 % 256).toNat, UInt8.ofNat ((d : Int) % 256).toNat]) ++ (lb 32 U1)) ++ (lb 32 o))] rfl rfl (vsc rfl vs0) Tryd.underlying61 (by kernel_rfl) (by kernel_rfl) rfl (by decide) (by decide))
     intro p64_5
     refine MAr 2 0 (tS := 61) (bytes := 16) (es := (List.map str1 (tA k (List.drop (d + 1) ss) (d + 1) (tE false a x)))) (by first | omega | (simp only [List.length_append, List.length_map, List.length_take, List.length_drop, List.length_reverse, List.length_cons, List.length_nil, lb_length, dbl]; omega)) (e := ([str ((([1] ++ [UInt8.ofNat ((d : Int) / 256 % 256).toNat, UInt8.ofNat ((d : Int) % 256).toNat]) ++ (lb 32 U1)) ++ (lb 32 o))] : List Value)) ?_
     intro v65_6
     refine MV ?_
     refine MZ fun W hS => ?_
     go_upto_region 7 with fail
     refine RL hS ?_
     clear hS
     refine MV ?_
     refine MW ?_ (v := .int .i64 ((d : Int) - 1)) (hv := by intro W; go_simp; (try simp only [IntKind.wrap_i64]); omega)
     refine MV ?_
     refine MZ fun W hS => ?_
     go_wp2
     go_roundw
     case rel => exact ⟨d, v65_6, ((d : Int) - 1), by omega, rfl, by rw [tT_step oh, ← HU1.out]; unfold tN; rw [if_pos hb]; rfl, rfl, rfl, (by rw [← tA_step oh, tT_step oh, ← HU1.out, List.map_append]; unfold tN; rw [if_pos hb]; exact (hS.pick [2, 3, 4]))⟩
     case measure => (simp [intOf]; try omega)
    ·
     have _f := True.intro
     go_upto_region 11 with fail
     refine RL hS ?_
     clear hS
     refine ML 2 ?_
     refine MV ?_
     refine MC (v := .int .i64 1) (fun W hS => (by have h_ := rbitA k d (by omega) W; rw [hb] at h_; exact h_)) ?_
     refine MW ?_ (v := .bool false)
     refine MZ fun W hS => ?_
     go_upto_region 13 with fail
     refine RL hS ?_
     clear hS
     refine MV ?_
     refine MV ?_
     refine MW ?_ (v := str (([1] ++ [UInt8.ofNat ((d : Int) / 256 % 256).toNat, UInt8.ofNat ((d : Int) % 256).toNat]) ++ (lb 32 o))) (hv := fun _ => run_cat (l := ([1] ++ [UInt8.ofNat ((d : Int) / 256 % 256).toNat, UInt8.ofNat ((d : Int) % 256).toNat])) (m := (lb 32 o)) rfl rfl rfl (by first | omega | (simp only [List.length_append, List.length_map, List.length_take, List.length_drop, List.length_reverse, List.length_cons, List.length_nil, lb_length, dbl]; omega)))
     refine MV ?_
     refine MW ?_ (v := str ((([1] ++ [UInt8.ofNat ((d : Int) / 256 % 256).toNat, UInt8.ofNat ((d : Int) % 256).toNat]) ++ (lb 32 o)) ++ (lb 32 U1))) (hv := fun _ => run_cat (l := (([1] ++ [UInt8.ofNat ((d : Int) / 256 % 256).toNat, UInt8.ofNat ((d : Int) % 256).toNat]) ++ (lb 32 o))) (m := (lb 32 U1)) rfl rfl rfl (by first | omega | (simp only [List.length_append, List.length_map, List.length_take, List.length_drop, List.length_reverse, List.length_cons, List.length_nil, lb_length, dbl]; omega)))
     refine MV ?_
     refine MZ fun W hS => ?_
     go_upto_region 14 with fail
     refine RL hS ?_
     clear hS
     refine MV ?_
     refine MV ?_
     refine MB (z := #[str ((([1] ++ [UInt8.ofNat ((d : Int) / 256 % 256).toNat, UInt8.ofNat ((d : Int) % 256).toNat]) ++ (lb 32 o)) ++ (lb 32 U1))]) (t := 9) (n := 1) (c := 1) ?_ (hr := fun W hS => run_bsv [str ((([1] ++ [UInt8.ofNat ((d : Int) / 256 % 256).toNat, UInt8.ofNat ((d : Int) % 256).toNat]) ++ (lb 32 o)) ++ (lb 32 U1))] rfl rfl (vsc rfl vs0) Tryd.underlying61 (by kernel_rfl) (by kernel_rfl) rfl (by decide) (by decide))
     intro p64_7
     refine MAr 2 0 (tS := 61) (bytes := 16) (es := (List.map str1 (tA k (List.drop (d + 1) ss) (d + 1) (tE false a x)))) (by first | omega | (simp only [List.length_append, List.length_map, List.length_take, List.length_drop, List.length_reverse, List.length_cons, List.length_nil, lb_length, dbl]; omega)) (e := ([str ((([1] ++ [UInt8.ofNat ((d : Int) / 256 % 256).toNat, UInt8.ofNat ((d : Int) % 256).toNat]) ++ (lb 32 o)) ++ (lb 32 U1))] : List Value)) ?_
     intro v65_8
     refine MV ?_
     refine MZ fun W hS => ?_
     go_upto_region 7 with fail
     refine RL hS ?_
     clear hS
     refine MV ?_
     refine MW ?_ (v := .int .i64 ((d : Int) - 1)) (hv := by intro W; go_simp; (try simp only [IntKind.wrap_i64]); omega)
     refine MV ?_
     refine MZ fun W hS => ?_
     go_wp2
     go_roundw
     case rel => exact ⟨d, v65_8, ((d : Int) - 1), by omega, rfl, by rw [tT_step oh, ← HU1.out]; unfold tN; rw [if_neg (by rw [hb]; decide)]; rfl, rfl, rfl, (by rw [← tA_step oh, tT_step oh, ← HU1.out, List.map_append]; unfold tN; rw [if_neg (by rw [hb]; decide)]; exact (hS.pick [2, 3, 4]))⟩
     case measure => (simp [intOf]; try omega)
 ·
  have _f := True.intro
  go_upto_region 2 with fail
  refine RL hS ?_
  clear hS
  refine MV ?_
  refine MG 0 ?_ (v := .bool true) (hj := pf_t)
  refine MZ fun W hS => ?_
  go_upto_region 3 with fail
  refine RTh (.q 0 (.q 1 (.q 2 (.q 3 (.q 4 (.q 5 (.q 6 (.q 7 (.q 8 (.q 9 (.q 10 .z))))))))))) hS ?_
  clear hS
  refine TV ?_
  refine TV ?_
  refine TW ?_ (v := .slice (some ⟨p3_2, 2, none⟩) 32 32)
  refine TF (v := str (lb 32 a)) rfl (fun W hS => run_cvs (sl_part (V := a) (n := 32) (off := 2) (c := 32) (hS.blk (i := 0) rfl) pf_k (by decide) (by decide)) rfl rfl) ?_
  refine TW ?_ (v := str ([0] ++ (lb 32 a))) (hv := fun _ => run_cat (l := [0]) (m := (lb 32 a)) rfl rfl rfl (by first | omega | (simp only [List.length_append, List.length_map, List.length_take, List.length_drop, List.length_reverse, List.length_cons, List.length_nil, lb_length, dbl]; omega)))
  refine TV ?_
  refine TV ?_
  refine TW ?_ (v := .slice (some ⟨p3_2, 34, none⟩) 32 32)
  refine TF (v := str (lb 32 x)) rfl (fun W hS => run_cvs (sl_part (V := x) (n := 32) (off := 34) (c := 32) (hS.blk (i := 0) rfl) pf_v (by decide) (by decide)) rfl rfl) ?_
  refine TW ?_ (v := str (([0] ++ (lb 32 a)) ++ (lb 32 x))) (hv := fun _ => run_cat (l := ([0] ++ (lb 32 a))) (m := (lb 32 x)) rfl rfl rfl (by first | omega | (simp only [List.length_append, List.length_map, List.length_take, List.length_drop, List.length_reverse, List.length_cons, List.length_nil, lb_length, dbl]; omega)))
  refine TV ?_
  refine TZ (fun _ h => h) fun W hS => ?_
  go_upto_region 4 with fail
  refine RL hS ?_
  clear hS
  refine MV ?_
  refine MB (z := #[str (([0] ++ (lb 32 a)) ++ (lb 32 x))]) (t := 9) (n := 1) (c := 1) ?_ (hr := fun W hS => run_bsv [str (([0] ++ (lb 32 a)) ++ (lb 32 x))] rfl rfl (vsc rfl vs0) Tryd.underlying61 (by kernel_rfl) (by kernel_rfl) rfl (by decide) (by decide))
  intro p23_9
  refine MV ?_
  refine MZ fun W hS => ?_
  go_upto_region 5 with fail
  refine RL hS ?_
  clear hS
  refine MV ?_
  refine MG 1 ?_ (v := .slice Ap ss.length cp) (hj := pf_s)
  refine MV ?_
  refine MW ?_ (v := .int .i64 ((ss.length : Int) - 1)) (hv := by intro W; go_simp; (try simp only [IntKind.wrap_i64]); omega)
  refine MV ?_
  refine MZ fun W hS => ?_
  have hS := hS.b2r (k := 1) (es := List.map str1 [([0] ++ (lb 32 a)) ++ (lb 32 x)]) (n := 1) (by rfl) (by intro e he; simp at he; subst he; rfl) rfl (by decide)
  go_wp2_with fail
  go_loopw [5, 6, 7, 8, 9] (fun tt uu ii y1 y2 wr => ∃ (j : Nat) (sl : Value) (iv : Int), (j ≤ ss.length) ∧ (sl = uu) ∧ (tt = str (tT k (List.drop j ss) j (tE true a x))) ∧ (iv = (j : Int) - 1) ∧ (ii = .int .i64 iv) ∧ SH [] w wr [.r 9 1 sl (List.map str1 (tA k (List.drop j ss) j (tE true a x))), .b p2_1 (arrK .u8 32 (byt k)) 22, .b p3_2 (pfc (.slice Ap ss.length cp) true a x) 66])
   (fun tt uu ii y1 y2 _ => ((intOf ii) + 1).toNat)
  case atStart => exact ⟨ss.length, _, _, Nat.le_refl _, rfl, by rw [List.drop_length]; rfl, rfl, rfl, (by rw [List.drop_length]; exact (hS.pick [0, 2, 1]))⟩
  clear hS
  case round =>
   obtain ⟨j, sl, iv, hj, rfl, rfl, hiv, rfl, hS⟩ := hrel
   rcases j with _ | d
   ·
    have _f := True.intro
    obtain rfl : iv = -1 := by omega
    clear hiv
    rw [List.drop_zero] at hS
    go_upto_region 6 with fail
    refine RL hS ?_
    clear hS
    refine MW ?_ (v := .int .i64 (-1))
    refine MW ?_ (v := .bool false)
    refine MZ fun W hS => ?_
    go_wp2
    exact bodyPost_ret (v := sl) (by simp only [results, Tryd.results39]; go_simp) rfl ⟨_, rfl, hS.pick [0]⟩
   ·
    have _f := True.intro
    obtain rfl : iv = (d : Int) := by omega
    clear hiv
    have hdlt : d < ss.length := by omega
    obtain ⟨o, oh⟩ : ∃ o, ss[d]? = some o := ⟨_, List.getElem?_eq_getElem hdlt⟩
    obtain ⟨gp, op, A0p, c0p⟩ := HRp.out d o oh
    have HAp := Lib.hid A0p
    clear A0p
    have hlt_ : (tT k (List.drop (d + 1) ss) (d + 1) (tE true a x)).length ≤ 67 := tT_len k (tE_len ..) _ _
    have hla_ : (tA k (List.drop (d + 1) ss) (d + 1) (tE true a x)).length ≤ 1001 := by rw [tA_len, List.length_drop]; omega
    go_upto_region 6 with fail
    refine RL hS ?_
    clear hS
    refine MV ?_
    refine MW ?_ (v := .bool true)
    refine MZ fun W hS => ?_
    go_upto_region 8 with fail
    refine RL hS ?_
    clear hS
    refine MV ?_
    obtain ⟨U1, hU1⟩ := exn (hs4 (tT k (List.drop (d + 1) ss) (d + 1) (tE true a x)))
    have HU1 := Lib.hid hU1
    clear hU1
    refine MC (v := str (lb 32 U1)) (fun W hS => rsumN4_c HU1.out (by first | omega | (simp only [List.length_append, List.length_cons, List.length_nil, lb_length, dbl]; omega)) W (GR_ext4 (hG.2 hr) hS.ext)) ?_
    refine MV ?_
    refine MZ fun W hS => ?_
    go_upto_region 9 with fail
    refine RL hS ?_
    clear hS
    refine MV ?_
    refine MG 2 ?_ (v := .slice Ap ss.length cp) (hj := pf_s)
    refine MV ?_
    refine MW ?_ (v := .pointer (some ⟨gp, op + d * 32, none⟩)) (hv := fun _ => run_ixRA HAp.out hdlt rfl rfl rfl Tryd.underlying58 (by kernel_rfl))
    refine MW ?_ (v := .slice (some ⟨gp, op + d * 32, none⟩) 32 32)
    refine MF (v := str (lb 32 o)) (fun W hS => run_cvs (sl_c32 (fun i_ v_ h_ => cell_ext (c0p i_ v_ h_) hS.ext)) rfl rfl) ?_
    refine MV ?_
    refine MZ fun W hS => ?_
    go_upto_region 10 with fail
    refine RL hS ?_
    clear hS
    refine MV ?_
    refine MW ?_ (v := .int .i64 ((d : Int) / 256)) (hv := by intro W; exact run_shr_i (n := 8) (by decide) rfl rfl rfl)
    refine MW ?_ (v := .int .u8 ((UInt8.ofNat ((d : Int) / 256 % 256).toNat).toNat : Int)) (hv := by intro W; rw [← db_hi (d : Int)]; exact run_c8i rfl rfl)
    refine MV ?_
    refine MW ?_ (v := .int .u8 ((UInt8.ofNat ((d : Int) % 256).toNat).toNat : Int)) (hv := by intro W; rw [← db_lo (d : Int)]; exact run_c8i rfl rfl)
    refine MO (m := [UInt8.ofNat ((d : Int) / 256 % 256).toNat, UInt8.ofNat ((d : Int) % 256).toNat]) (n := 2) (z := #[.int .u8 ((UInt8.ofNat ((d : Int) / 256 % 256).toNat).toNat : Int), .int .u8 ((UInt8.ofNat ((d : Int) % 256).toNat).toNat : Int)]) ?_
    intro v45_10
    refine MF (v := str [UInt8.ofNat ((d : Int) / 256 % 256).toNat, UInt8.ofNat ((d : Int) % 256).toNat]) (fun W hS => run_cvs (hS.osl (i := 0) rfl) rfl rfl) ?_
    refine MW ?_ (v := str ([1] ++ [UInt8.ofNat ((d : Int) / 256 % 256).toNat, UInt8.ofNat ((d : Int) % 256).toNat])) (hv := fun _ => run_cat (l := [1]) (m := [UInt8.ofNat ((d : Int) / 256 % 256).toNat, UInt8.ofNat ((d : Int) % 256).toNat]) rfl rfl rfl (by first | omega | (simp only [List.length_append, List.length_map, List.length_take, List.length_drop, List.length_reverse, List.length_cons, List.length_nil, lb_length, dbl]; omega)))
    refine MV ?_
    refine MZ fun W hS => ?_
    rcases kb_01 k d with hb | hb
    ·
     have _f := True.intro
     go_upto_region 11 with fail
     refine RL hS ?_
     clear hS
     refine ML 2 ?_
     refine MV ?_
     refine MC (v := .int .i64 0) (fun W hS => (by have h_ := rbitA k d (by omega) W; rw [hb] at h_; exact h_)) ?_
     refine MW ?_ (v := .bool true)
     refine MZ fun W hS => ?_
     go_upto_region 12 with fail
     refine RL hS ?_
     clear hS
     refine MV ?_
     refine MV ?_
     refine MW ?_ (v := str (([1] ++ [UInt8.ofNat ((d : Int) / 256 % 256).toNat, UInt8.ofNat ((d : Int) % 256).toNat]) ++ (lb 32 U1))) (hv := fun _ => run_cat (l := ([1] ++ [UInt8.ofNat ((d : Int) / 256 % 256).toNat, UInt8.ofNat ((d : Int) % 256).toNat])) (m := (lb 32 U1)) rfl rfl rfl (by first | omega | (simp only [List.length_append, List.length_map, List.length_take, List.length_drop, List.length_reverse, List.length_cons, List.length_nil, lb_length, dbl]; omega)))
     refine MV ?_
     refine MW ?_ (v := str ((([1] ++ [UInt8.ofNat ((d : Int) / 256 % 256).toNat, UInt8.ofNat ((d : Int) % 256).toNat]) ++ (lb 32 U1)) ++ (lb 32 o))) (hv := fun _ => run_cat (l := (([1] ++ [UInt8.ofNat ((d : Int) / 256 % 256).toNat, UInt8.ofNat ((d : Int) % 256).toNat]) ++ (lb 32 U1))) (m := (lb 32 o)) rfl rfl rfl (by first | omega | (simp only [List.length_append, List.length_map, List.length_take, List.length_drop, List.length_reverse, List.length_cons, List.length_nil, lb_length, dbl]; omega)))
     refine MV ?_
     refine MZ fun W hS => ?_
     go_upto_region 14 with fail
     refine RL hS ?_
     clear hS
     refine MV ?_
     refine MV ?_
     refine MB (z := #[str ((([1] ++ [UInt8.ofNat ((d : Int) / 256 % 256).toNat, UInt8.ofNat ((d : Int) % 256).toNat]) ++ (lb 32 U1)) ++ (lb 32 o))]) (t := 9) (n := 1) (c := 1) ?_ (hr := fun W hS => run_bsv [str ((([1] ++ [UInt8.ofNat ((d : Int) / 256 % 256).toNat, UInt8.ofNat ((d : Int) % 256).toNat]) ++ (lb 32 U1)) ++ (lb 32 o))] rfl rfl (vsc rfl vs0) Tryd.underlying61 (by kernel_rfl) (by kernel_rfl) rfl (by decide) (by decide))
     intro p64_11
     refine MAr 2 0 (tS := 61) (bytes := 16) (es := (List.map str1 (tA k (List.drop (d + 1) ss) (d + 1) (tE true a x)))) (by first | omega | (simp only [List.length_append, List.length_map, List.length_take, List.length_drop, List.length_reverse, List.length_cons, List.length_nil, lb_length, dbl]; omega)) (e := ([str ((([1] ++ [UInt8.ofNat ((d : Int) / 256 % 256).toNat, UInt8.ofNat ((d : Int) % 256).toNat]) ++ (lb 32 U1)) ++ (lb 32 o))] : List Value)) ?_
     intro v65_12
     refine MV ?_
     refine MZ fun W hS => ?_
     go_upto_region 7 with fail
     refine RL hS ?_
     clear hS
     refine MV ?_
     refine MW ?_ (v := .int .i64 ((d : Int) - 1)) (hv := by intro W; go_simp; (try simp only [IntKind.wrap_i64]); omega)
     refine MV ?_
     refine MZ fun W hS => ?_
     go_wp2
     go_roundw
     case rel => exact ⟨d, v65_12, ((d : Int) - 1), by omega, rfl, by rw [tT_step oh, ← HU1.out]; unfold tN; rw [if_pos hb]; rfl, rfl, rfl, (by rw [← tA_step oh, tT_step oh, ← HU1.out, List.map_append]; unfold tN; rw [if_pos hb]; exact (hS.pick [2, 3, 4]))⟩
     case measure => (simp [intOf]; try omega)
    ·
     have _f := True.intro
     go_upto_region 11 with fail
     refine RL hS ?_
     clear hS
     refine ML 2 ?_
     refine MV ?_
     refine MC (v := .int .i64 1) (fun W hS => (by have h_ := rbitA k d (by omega) W; rw [hb] at h_; exact h_)) ?_
     refine MW ?_ (v := .bool false)
     refine MZ fun W hS => ?_
     go_upto_region 13 with fail
     refine RL hS ?_
     clear hS
     refine MV ?_
     refine MV ?_
     refine MW ?_ (v := str (([1] ++ [UInt8.ofNat ((d : Int) / 256 % 256).toNat, UInt8.ofNat ((d : Int) % 256).toNat]) ++ (lb 32 o))) (hv := fun _ => run_cat (l := ([1] ++ [UInt8.ofNat ((d : Int) / 256 % 256).toNat, UInt8.ofNat ((d : Int) % 256).toNat])) (m := (lb 32 o)) rfl rfl rfl (by first | omega | (simp only [List.length_append, List.length_map, List.length_take, List.length_drop, List.length_reverse, List.length_cons, List.length_nil, lb_length, dbl]; omega)))
     refine MV ?_
     refine MW ?_ (v := str ((([1] ++ [UInt8.ofNat ((d : Int) / 256 % 256).toNat, UInt8.ofNat ((d : Int) % 256).toNat]) ++ (lb 32 o)) ++ (lb 32 U1))) (hv := fun _ => run_cat (l := (([1] ++ [UInt8.ofNat ((d : Int) / 256 % 256).toNat, UInt8.ofNat ((d : Int) % 256).toNat]) ++ (lb 32 o))) (m := (lb 32 U1)) rfl rfl rfl (by first | omega | (simp only [List.length_append, List.length_map, List.length_take, List.length_drop, List.length_reverse, List.length_cons, List.length_nil, lb_length, dbl]; omega)))
     refine MV ?_
     refine MZ fun W hS => ?_
     go_upto_region 14 with fail
     refine RL hS ?_
     clear hS
     refine MV ?_
     refine MV ?_
     refine MB (z := #[str ((([1] ++ [UInt8.ofNat ((d : Int) / 256 % 256).toNat, UInt8.ofNat ((d : Int) % 256).toNat]) ++ (lb 32 o)) ++ (lb 32 U1))]) (t := 9) (n := 1) (c := 1) ?_ (hr := fun W hS => run_bsv [str ((([1] ++ [UInt8.ofNat ((d : Int) / 256 % 256).toNat, UInt8.ofNat ((d : Int) % 256).toNat]) ++ (lb 32 o)) ++ (lb 32 U1))] rfl rfl (vsc rfl vs0) Tryd.underlying61 (by kernel_rfl) (by kernel_rfl) rfl (by decide) (by decide))
     intro p64_13
     refine MAr 2 0 (tS := 61) (bytes := 16) (es := (List.map str1 (tA k (List.drop (d + 1) ss) (d + 1) (tE true a x)))) (by first | omega | (simp only [List.length_append, List.length_map, List.length_take, List.length_drop, List.length_reverse, List.length_cons, List.length_nil, lb_length, dbl]; omega)) (e := ([str ((([1] ++ [UInt8.ofNat ((d : Int) / 256 % 256).toNat, UInt8.ofNat ((d : Int) % 256).toNat]) ++ (lb 32 o)) ++ (lb 32 U1))] : List Value)) ?_
     intro v65_14
     refine MV ?_
     refine MZ fun W hS => ?_
     go_upto_region 7 with fail
     refine RL hS ?_
     clear hS
     refine MV ?_
     refine MW ?_ (v := .int .i64 ((d : Int) - 1)) (hv := by intro W; go_simp; (try simp only [IntKind.wrap_i64]); omega)
     refine MV ?_
     refine MZ fun W hS => ?_
     go_wp2
     go_roundw
     case rel => exact ⟨d, v65_14, ((d : Int) - 1), by omega, rfl, by rw [tT_step oh, ← HU1.out]; unfold tN; rw [if_neg (by rw [hb]; decide)]; rfl, rfl, rfl, (by rw [← tA_step oh, tT_step oh, ← HU1.out, List.map_append]; unfold tN; rw [if_neg (by rw [hb]; decide)]; exact (hS.pick [2, 3, 4]))⟩
     case measure => (simp [intOf]; try omega)
end Go.Proofs.YtndnlbinnhdmbaaDoor
