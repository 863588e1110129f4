/- Proofs: the document's Same, Clash; the law's proofs. Conditions: the tables hold their numbers; keys and values have 256 bits. -/
import Derived.Test.YtndnlbinnhdmbaaDoorJ23
set_option linter.unusedSimpArgs false
set_option linter.unusedVariables false
namespace Go.Proofs.YtndnlbinnhdmbaaDoor
set_option maxHeartbeats 3000000
set_option maxRecDepth 100000
open Go.RowKit
attribute [local irreducible] wpList wpTr wpX
set_option linter.unusedSimpArgs false
attribute [local irreducible] hs4 sE sL sN lb
theorem clash_end {xs ys : List (List UInt8)} (h : ∀ (i : Nat) (s : List UInt8), i < xs.length → xs[i]? = some s → ∀ t ∈ ys, ¬ (s ≠ t ∧ hs4 s = hs4 t)) : ¬ Clash xs ys := fun ⟨s, hs, t, ht, h1⟩ => by
 obtain ⟨i, hi, e⟩ := List.mem_iff_getElem.1 hs
 exact h i s hi (by rw [List.getElem?_eq_getElem hi, e]) t ht h1
theorem clash_in {ys : List (List UInt8)} {x : List UInt8} (h : ∀ (k : Nat) (t : List UInt8), k < ys.length → ys[k]? = some t → ¬ (x ≠ t ∧ hs4 x = hs4 t)) : ∀ t ∈ ys, ¬ (x ≠ t ∧ hs4 x = hs4 t) := fun t ht => by
 obtain ⟨i, hi, e⟩ := List.mem_iff_getElem.1 ht
 exact h i t hi (by rw [List.getElem?_eq_getElem hi, e])
theorem sums_b {U V : Nat} {x y : List UInt8} (hU : U = hs4 x) (hV : V = hs4 y) : (lb 32 U = lb 32 V) = (hs4 x = hs4 y) := by
 subst hU; subst hV
 exact propext ⟨fun h => lb_inj (hs_lt4 _) (hs_lt4 _) h, fun h => by rw [h]⟩
theorem chk_e {U : Nat} (h : U = sE) : chk U 5 [] false 0 0 = (0, false, 0) := by
 subst h
 unfold chk
 rw [if_neg (by simp), if_pos (show hs4 (tT 5 [] 0 (tE false 0 0)) = sE by unfold sE; rfl), if_neg (by simp)]
theorem chk_z : chk 0 5 [] false 0 0 = (0, false, 17) := by
 unfold chk
 rw [if_neg (by simp), if_neg (show ¬ hs4 (tT 5 [] 0 (tE false 0 0)) = 0 from two_ne)]

theorem clash_c {q : Prop} (hq : q) {xs ys : List (List UInt8)} {u v : Value} (h : Clash xs ys) (hla : ∀ s ∈ xs, s.length ≤ 67) (hlb : ∀ s ∈ ys, s.length ≤ 67) (hxn : xs.length ≤ 1000000) (hyn : ys.length ≤ 1000000) (w : World) (hG : GT q w) (ha : RR 1 w u (xs.map str1)) (hb : RR 1 w v (ys.map str1)) :
  Calls Tryd.prog 47 #[u, v] w fun e w' => Ret (.bool true) w w' e := by
 have hr := hq
 obtain ⟨Aa, ca, rfl, hlca, HRa⟩ := RR.opf ha
 obtain ⟨Ab, cb, rfl, hlcb, HRb⟩ := RR.opf hb
 have hS := SH.nil [] w
 go_enter Tryd.func47, Tryd.ntmps47
 go_wp2_with fail
 go_loopw [5, 6] (fun ii kk wr => ∃ (i : Nat) (kv : Value), (i ≤ xs.length) ∧ (∀ (j : Nat) (s : List UInt8), j < i → xs[j]? = some s → ∀ t ∈ ys, ¬ (s ≠ t ∧ hs4 s = hs4 t)) ∧ (ii = .int .i64 (i : Int)) ∧ (kv = kk) ∧ SH [] w wr [])
  (fun ii kk _ => xs.length - (intOf ii).toNat)
 case atStart => exact ⟨0, _, Nat.zero_le _, fun j s h_ => by omega, rfl, rfl, hS⟩
 clear hS
 case round =>
  obtain ⟨i, kv, hi, hO, rfl, rfl, hS⟩ := hrel
  by_cases hlt : i < xs.length
  ·
   have _f := hlt
   obtain ⟨x, xh⟩ : ∃ x, xs[i]? = some x := ⟨_, List.getElem?_eq_getElem hlt⟩
   obtain ⟨ga, oa, A0a, c0a⟩ := HRa.out i x xh
   have HAa := Lib.hid A0a
   clear A0a
   have xl : x.length ≤ 67 := hla x (List.mem_of_getElem? xh)
   go_upto_region 2 with fail
   refine RL hS ?_
   clear hS
   refine MV ?_
   refine MV ?_
   refine MV ?_
   refine MW ?_ (v := .bool true)
   refine MZ fun W hS => ?_
   go_wp2_with fail
   go_loopw [6] (fun kk wr => ∃ (k : Nat), (k ≤ ys.length) ∧ (∀ (j : Nat) (t : List UInt8), j < k → ys[j]? = some t → ¬ (x ≠ t ∧ hs4 x = hs4 t)) ∧ (kk = .int .i64 (k : Int)) ∧ SH [] w wr [])
    (fun kk _ => ys.length - (intOf kk).toNat)
   case atStart => exact ⟨0, Nat.zero_le _, fun j s h_ => by omega, rfl, hS⟩
   clear hS
   case round =>
    obtain ⟨k, hk, hI, rfl, hS⟩ := hrel
    by_cases hltb : k < ys.length
    ·
     have _f := hltb
     obtain ⟨y, yh⟩ : ∃ x, ys[k]? = some x := ⟨_, List.getElem?_eq_getElem hltb⟩
     obtain ⟨gb, ob, A0b, c0b⟩ := HRb.out k y yh
     have HAb := Lib.hid A0b
     clear A0b
     have yl : y.length ≤ 67 := hlb y (List.mem_of_getElem? yh)
     go_upto_region 5 with fail
     refine RL hS ?_
     clear hS
     refine MV ?_
     refine MV ?_
     refine MV ?_
     refine MW ?_ (v := .bool true)
     refine MZ fun W hS => ?_
     by_cases he : x = y
     ·
      have _f := he
      go_upto_region 7 with fail
      refine RTh (.q 0 (.q 1 (.q 2 (.q 3 (.q 4 (.q 5 (.q 6 (.q 7 (.q 8 (.q 9 (.q 10 (.q 11 (.q 12 (.q 13 (.q 15 (.q 16 (.q 17 (.q 18 (.e 14 (.e 19 (.q 20 (.q 21 .z)))))))))))))))))))))) hS ?_
      clear hS
      refine TV ?_
      refine TV ?_
      refine TW ?_ (v := .pointer (some ⟨ga, oa + i * 1, none⟩)) (hv := fun _ => run_ixRA HAa.out hlt rfl rfl rfl Tryd.underlying61 (by kernel_rfl))
      refine TF (v := str x) rfl (fun W hS => run_at rfl rfl (cell_ext (c0a 0 _ rfl) hS.ext) (by kernel_rfl)) ?_
      refine TV ?_
      refine TV ?_
      refine TW ?_ (v := .pointer (some ⟨gb, ob + k * 1, none⟩)) (hv := fun _ => run_ixRA HAb.out hltb rfl rfl rfl Tryd.underlying61 (by kernel_rfl))
      refine TF (v := str y) rfl (fun W hS => run_at rfl rfl (cell_ext (c0b 0 _ rfl) hS.ext) (by kernel_rfl)) ?_
      refine TW ?_ (v := .bool false) (hv := fun _ => run_strneB (l := x) (m := y) (b := true) (decide_eq_true he) rfl rfl rfl)
      refine TW ?_ (v := .bool false)
      refine TS ?_
      refine TS ?_
      refine TS ?_
      refine TS ?_
      refine TS ?_
      refine TS ?_
      refine TS ?_
      refine TS ?_
      refine TE (fun _ h => h) ?_
      refine MS ?_
      refine TNh (fun W hS => hS) ?_
      refine TE (fun _ h => h) ?_
      refine MS ?_
      refine TNh (fun W hS => hS) ?_
      refine TS ?_
      refine TW ?_ (v := .bool false)
      refine TZ (fun _ h => h) fun W hS => ?_
      go_wp2
      go_roundw
      case rel => exact ⟨k + 1, by omega, fun j s h_ h2_ => by
    rcases Nat.lt_or_ge j k with h3_ | h3_
    ·
     exact hI j s h3_ h2_
    ·
     obtain rfl : j = k := by omega
     rw [yh] at h2_; obtain rfl := Option.some.inj h2_
     exact fun q_ => q_.1 he, by go_num, hS⟩
      case measure => simp [intOf]; omega
     ·
      have _f := he
      by_cases hs : hs4 x = hs4 y
      ·
       have _f := hs
       go_upto_region 7 with fail
       refine RTh (.q 0 (.q 1 (.q 2 (.q 3 (.q 4 (.q 5 (.q 6 (.q 7 (.q 8 (.q 9 (.q 10 (.q 11 (.q 12 (.q 13 (.q 15 (.q 16 (.q 17 (.q 18 (.e 14 (.e 19 (.q 20 (.q 21 .z)))))))))))))))))))))) hS ?_
       clear hS
       refine TV ?_
       refine TV ?_
       refine TW ?_ (v := .pointer (some ⟨ga, oa + i * 1, none⟩)) (hv := fun _ => run_ixRA HAa.out hlt rfl rfl rfl Tryd.underlying61 (by kernel_rfl))
       refine TF (v := str x) rfl (fun W hS => run_at rfl rfl (cell_ext (c0a 0 _ rfl) hS.ext) (by kernel_rfl)) ?_
       refine TV ?_
       refine TV ?_
       refine TW ?_ (v := .pointer (some ⟨gb, ob + k * 1, none⟩)) (hv := fun _ => run_ixRA HAb.out hltb rfl rfl rfl Tryd.underlying61 (by kernel_rfl))
       refine TF (v := str y) rfl (fun W hS => run_at rfl rfl (cell_ext (c0b 0 _ rfl) hS.ext) (by kernel_rfl)) ?_
       refine TW ?_ (v := .bool true) (hv := fun _ => run_strneB (l := x) (m := y) (b := false) (decide_eq_false he) rfl rfl rfl)
       refine TW ?_ (v := .bool true)
       refine TV ?_
       refine TV ?_
       refine TW ?_ (v := .pointer (some ⟨ga, oa + i * 1, none⟩)) (hv := fun _ => run_ixRA HAa.out hlt rfl rfl rfl Tryd.underlying61 (by kernel_rfl))
       refine TF (v := str x) rfl (fun W hS => run_at rfl rfl (cell_ext (c0a 0 _ rfl) hS.ext) (by kernel_rfl)) ?_
       refine TV ?_
       refine TV ?_
       refine TW ?_ (v := .pointer (some ⟨gb, ob + k * 1, none⟩)) (hv := fun _ => run_ixRA HAb.out hltb rfl rfl rfl Tryd.underlying61 (by kernel_rfl))
       refine TF (v := str y) rfl (fun W hS => run_at rfl rfl (cell_ext (c0b 0 _ rfl) hS.ext) (by kernel_rfl)) ?_
       refine TE (fun _ h => h) ?_
       obtain ⟨U1, hU1⟩ := exn (hs4 (x))
       have HU1 := Lib.hid hU1
       clear hU1
       refine MC (v := str (lb 32 U1)) (fun W hS => rsumN4_c HU1.out (by first | omega | (simp only [List.length_append, List.length_cons, List.length_nil, lb_length, dbl]; omega)) W (GR_ext4 (hG.2 hr) hS.ext)) ?_
       refine TNh (fun W hS => hS) ?_
       refine TE (fun _ h => h) ?_
       obtain ⟨U2, hU2⟩ := exn (hs4 (y))
       have HU2 := Lib.hid hU2
       clear hU2
       refine MC (v := str (lb 32 U2)) (fun W hS => rsumN4_c HU2.out (by first | omega | (simp only [List.length_append, List.length_cons, List.length_nil, lb_length, dbl]; omega)) W (GR_ext4 (hG.2 hr) hS.ext)) ?_
       refine TNh (fun W hS => hS) ?_
       refine TW ?_ (v := .bool true) (hv := fun _ => run_streqb (l := (lb 32 U1)) (m := (lb 32 U2)) (b := true) (decide_eq_true (by rw [sums_b HU1.out HU2.out]; exact hs)) rfl rfl rfl)
       refine TW ?_ (v := .bool true)
       refine TZ (fun _ h => h) fun W hS => ?_
       go_wp2
       exact bodyPost_ret (v := .bool true) (by simp only [results, Tryd.results47]; go_simp) rfl ⟨rfl, hS.ext⟩
      ·
       have _f := hs
       go_upto_region 7 with fail
       refine RTh (.q 0 (.q 1 (.q 2 (.q 3 (.q 4 (.q 5 (.q 6 (.q 7 (.q 8 (.q 9 (.q 10 (.q 11 (.q 12 (.q 13 (.q 15 (.q 16 (.q 17 (.q 18 (.e 14 (.e 19 (.q 20 (.q 21 .z)))))))))))))))))))))) hS ?_
       clear hS
       refine TV ?_
       refine TV ?_
       refine TW ?_ (v := .pointer (some ⟨ga, oa + i * 1, none⟩)) (hv := fun _ => run_ixRA HAa.out hlt rfl rfl rfl Tryd.underlying61 (by kernel_rfl))
       refine TF (v := str x) rfl (fun W hS => run_at rfl rfl (cell_ext (c0a 0 _ rfl) hS.ext) (by kernel_rfl)) ?_
       refine TV ?_
       refine TV ?_
       refine TW ?_ (v := .pointer (some ⟨gb, ob + k * 1, none⟩)) (hv := fun _ => run_ixRA HAb.out hltb rfl rfl rfl Tryd.underlying61 (by kernel_rfl))
       refine TF (v := str y) rfl (fun W hS => run_at rfl rfl (cell_ext (c0b 0 _ rfl) hS.ext) (by kernel_rfl)) ?_
       refine TW ?_ (v := .bool true) (hv := fun _ => run_strneB (l := x) (m := y) (b := false) (decide_eq_false he) rfl rfl rfl)
       refine TW ?_ (v := .bool true)
       refine TV ?_
       refine TV ?_
       refine TW ?_ (v := .pointer (some ⟨ga, oa + i * 1, none⟩)) (hv := fun _ => run_ixRA HAa.out hlt rfl rfl rfl Tryd.underlying61 (by kernel_rfl))
       refine TF (v := str x) rfl (fun W hS => run_at rfl rfl (cell_ext (c0a 0 _ rfl) hS.ext) (by kernel_rfl)) ?_
       refine TV ?_
       refine TV ?_
       refine TW ?_ (v := .pointer (some ⟨gb, ob + k * 1, none⟩)) (hv := fun _ => run_ixRA HAb.out hltb rfl rfl rfl Tryd.underlying61 (by kernel_rfl))
       refine TF (v := str y) rfl (fun W hS => run_at rfl rfl (cell_ext (c0b 0 _ rfl) hS.ext) (by kernel_rfl)) ?_
       refine TE (fun _ h => h) ?_
       obtain ⟨U1, hU1⟩ := exn (hs4 (x))
       have HU1 := Lib.hid hU1
       clear hU1
       refine MC (v := str (lb 32 U1)) (fun W hS => rsumN4_c HU1.out (by first | omega | (simp only [List.length_append, List.length_cons, List.length_nil, lb_length, dbl]; omega)) W (GR_ext4 (hG.2 hr) hS.ext)) ?_
       refine TNh (fun W hS => hS) ?_
       refine TE (fun _ h => h) ?_
       obtain ⟨U2, hU2⟩ := exn (hs4 (y))
       have HU2 := Lib.hid hU2
       clear hU2
       refine MC (v := str (lb 32 U2)) (fun W hS => rsumN4_c HU2.out (by first | omega | (simp only [List.length_append, List.length_cons, List.length_nil, lb_length, dbl]; omega)) W (GR_ext4 (hG.2 hr) hS.ext)) ?_
       refine TNh (fun W hS => hS) ?_
       refine TW ?_ (v := .bool false) (hv := fun _ => run_streqb (l := (lb 32 U1)) (m := (lb 32 U2)) (b := false) (decide_eq_false (by rw [sums_b HU1.out HU2.out]; exact hs)) rfl rfl rfl)
       refine TW ?_ (v := .bool false)
       refine TZ (fun _ h => h) fun W hS => ?_
       go_wp2
       go_roundw
       case rel => exact ⟨k + 1, by omega, fun j s h_ h2_ => by
    rcases Nat.lt_or_ge j k with h3_ | h3_
    ·
     exact hI j s h3_ h2_
    ·
     obtain rfl : j = k := by omega
     rw [yh] at h2_; obtain rfl := Option.some.inj h2_
     exact fun q_ => hs q_.2, by go_num, hS⟩
       case measure => simp [intOf]; omega
    ·
     have _f := hltb
     obtain rfl : k = ys.length := by omega
     go_upto_region 5 with fail
     refine RL hS ?_
     clear hS
     refine MV ?_
     refine MV ?_
     refine MV ?_
     refine MW ?_ (v := .bool false)
     refine MZ fun W hS => ?_
     go_wp2
     go_roundw
     case rel => exact ⟨i + 1, _, by omega, fun j s h_ h2_ => by
   rcases Nat.lt_or_ge j i with h3_ | h3_
   ·
    exact hO j s h3_ h2_
   ·
    obtain rfl : j = i := by omega
    rw [xh] at h2_; obtain rfl := Option.some.inj h2_
    exact clash_in hI, by go_num, rfl, hS⟩
     case measure => simp [intOf]; omega
  ·
   have _f := hlt
   exact absurd h (clash_end (by (obtain rfl : i = xs.length := (by omega)); exact hO))
theorem proofs_c {q : Prop} (w : World) (hG : GT q w) :
  Calls Tryd.prog 44 #[] w fun e w' => Ret (.bool true) w w' e := by
 have hS := SH.nil [] w
 go_enter Tryd.func44, Tryd.ntmps44
 go_upto_region 2 with fail
 refine RL hS ?_
 clear hS
 refine MV ?_
 refine MW ?_ (v := .agg (arrK .u8 32 (byt 5))) (hv := by intro W; kernel_rfl)
 refine ME (V := fun v => .agg (pfc v false 0 0)) (fun W hS => pcall (ss := []) hS (prove_c (T := .nil) (k := 5) (Nat.zero_le _) W (GT_ext hG hS.ext) rfl) rfl) ?_
 intro pv_1
 refine MFact (fun W hS => Row.form (ls := []) (f := b32l) (hS.row (i := 0) rfl)) ?_
 rintro ⟨A_2, c_2, rfl⟩
 refine MN (z := pfc (.slice none 0 0) false 0 0) (t := 69) ?_
 intro p2_3
 refine MR 0 ?_ (hz := by rw [pf_size]; kernel_rfl) (hs := by first | rw [pf_size, pf_size] | rw [pf_size] | kernel_rfl) (h1 := (pf_one rfl))
 refine MZ fun W hS => ?_
 go_upto_region 3 with fail
 refine RTh (.q 1 (.q 2 (.b 0 (.b 3 (.q 4 (.q 5 (.q 6 (.q 7 (.e 8 (.e 9 (.q 10 (.q 11 .z)))))))) 8 (.e 3 (.q 4 (.q 5 (.q 6 (.q 7 (.e 9 (.q 10 (.q 11 .z))))))))) 8 (.e 0 (.e 3 (.q 4 (.q 5 (.q 6 (.q 7 (.e 9 (.q 10 (.q 11 .z)))))))))))) hS ?_
 clear hS
 refine TW ?_ (v := .agg (arrK .u8 32 (byt 5))) (hv := by intro W; kernel_rfl)
 refine TL 0 ?_ (hs := by rw [pf_size]; kernel_rfl)
 refine TB (fun _ h => h) ?_ ?_
 ·
  skip
  obtain ⟨U1, hU1⟩ := exn (sE)
  have HU1 := Lib.hid hU1
  clear hU1
  refine MC (v := .agg (arrK .u8 32 (byt U1))) (fun W hS => (by rw [HU1.out]; exact empty_c W (GT_ext hG hS.ext))) ?_
  refine TNh (fun W hS => hS) ?_
  refine TB (fun _ h => h) ?_ ?_
  ·
   skip
   refine MC (v := .tuple #[.agg (arrK .u8 32 (byt 0)), .bool false, .int .i64 0]) (fun W hS => (by have h_ := check_c (R := U1) (k := 5) (a := 0) (x := 0) (th := false) (ss := []) (by rw [HU1.out]; unfold sE; exact hs_lt4 _) (by decide) (by decide) (Nat.zero_le _) W (GT_ext hG hS.ext) (hS.row (i := 1) rfl).rr; rw [chk_e HU1.out] at h_; exact h_)) ?_
   refine TNh (fun W hS => hS) ?_
   refine TV ?_
   refine TV ?_
   refine TW ?_ (v := .bool false)
   refine TW ?_ (v := .int .i64 0)
   refine TE (fun _ h => h) ?_
   refine MN (z := arrK .u8 32 (byt 0)) (t := 22) ?_
   intro p3_4
   refine TNp [1, 2] [0, 1] ?_
   refine TE (fun _ h => h.pick [1, 2]) ?_
   refine MR 0 ?_ 
   refine TNp [1, 2] [0, 1] ?_
   refine TW ?_ (v := .bool false)
   refine TW ?_ (v := .int .i64 0)
   refine TZ (fun _ h => h.pick [1, 2]) fun W hS => ?_
   go_upto_region 4 with fail
   refine RL hS ?_
   clear hS
   refine MW ?_ (v := .agg (arrK .u8 32 (byt 0))) (hv := by intro W; kernel_rfl)
   refine MW ?_ (v := .agg (arrK .u8 32 (byt 5))) (hv := by intro W; kernel_rfl)
   refine ML 1 ?_ (hs := by rw [pf_size]; kernel_rfl)
   refine MC (v := .tuple #[.agg (arrK .u8 32 (byt 0)), .bool false, .int .i64 17]) (fun W hS => (by have h_ := check_c (R := 0) (k := 5) (a := 0) (x := 0) (th := false) (ss := []) (by decide) (by decide) (by decide) (Nat.zero_le _) W (GT_ext hG hS.ext) (hS.row (i := 2) rfl).rr; rw [chk_z] at h_; exact h_)) ?_
   refine MV ?_
   refine MV ?_
   refine MW ?_ (v := .bool false)
   refine MW ?_ (v := .int .i64 17)
   refine MN (z := arrK .u8 32 (byt 0)) (t := 22) ?_
   intro p6_5
   refine MR 0 ?_ 
   refine MW ?_ (v := .bool false)
   refine MW ?_ (v := .int .i64 17)
   refine MZ fun W hS => ?_
   go_wp2
   exact bodyPost_ret (v := .bool true) (by simp only [results, Tryd.results44]; go_simp) rfl ⟨rfl, hS.ext⟩
  ·
   skip
   refine MN (z := arrK .u8 32 (byt 0)) (t := 22) ?_
   intro p3_6
   refine TNp [1, 2] [0, 1] ?_
   refine TE (fun _ h => h.pick [1, 2]) ?_
   refine MC (v := .tuple #[.agg (arrK .u8 32 (byt 0)), .bool false, .int .i64 0]) (fun W hS => (by have h_ := check_c (R := U1) (k := 5) (a := 0) (x := 0) (th := false) (ss := []) (by rw [HU1.out]; unfold sE; exact hs_lt4 _) (by decide) (by decide) (Nat.zero_le _) W (GT_ext hG hS.ext) (hS.row (i := 2) rfl).rr; rw [chk_e HU1.out] at h_; exact h_)) ?_
   refine TNp [1, 2] [0, 1] ?_
   refine TV ?_
   refine TV ?_
   refine TW ?_ (v := .bool false)
   refine TW ?_ (v := .int .i64 0)
   refine TE (fun _ h => h.pick [1, 2]) ?_
   refine MR 0 ?_ 
   refine TNp [1, 2] [0, 1] ?_
   refine TW ?_ (v := .bool false)
   refine TW ?_ (v := .int .i64 0)
   refine TZ (fun _ h => h.pick [1, 2]) fun W hS => ?_
   go_upto_region 4 with fail
   refine RL hS ?_
   clear hS
   refine MW ?_ (v := .agg (arrK .u8 32 (byt 0))) (hv := by intro W; kernel_rfl)
   refine MW ?_ (v := .agg (arrK .u8 32 (byt 5))) (hv := by intro W; kernel_rfl)
   refine ML 1 ?_ (hs := by rw [pf_size]; kernel_rfl)
   refine MC (v := .tuple #[.agg (arrK .u8 32 (byt 0)), .bool false, .int .i64 17]) (fun W hS => (by have h_ := check_c (R := 0) (k := 5) (a := 0) (x := 0) (th := false) (ss := []) (by decide) (by decide) (by decide) (Nat.zero_le _) W (GT_ext hG hS.ext) (hS.row (i := 2) rfl).rr; rw [chk_z] at h_; exact h_)) ?_
   refine MV ?_
   refine MV ?_
   refine MW ?_ (v := .bool false)
   refine MW ?_ (v := .int .i64 17)
   refine MN (z := arrK .u8 32 (byt 0)) (t := 22) ?_
   intro p6_7
   refine MR 0 ?_ 
   refine MW ?_ (v := .bool false)
   refine MW ?_ (v := .int .i64 17)
   refine MZ fun W hS => ?_
   go_wp2
   exact bodyPost_ret (v := .bool true) (by simp only [results, Tryd.results44]; go_simp) rfl ⟨rfl, hS.ext⟩
 ·
  skip
  refine MN (z := arrK .u8 32 (byt 0)) (t := 22) ?_
  intro p3_8
  refine TNp [1, 2] [0, 1] ?_
  refine TE (fun _ h => h.pick [1, 2]) ?_
  obtain ⟨U1, hU1⟩ := exn (sE)
  have HU1 := Lib.hid hU1
  clear hU1
  refine MC (v := .agg (arrK .u8 32 (byt U1))) (fun W hS => (by rw [HU1.out]; exact empty_c W (GT_ext hG hS.ext))) ?_
  refine TNp [1, 2] [0, 1] ?_
  refine TE (fun _ h => h.pick [1, 2]) ?_
  refine MC (v := .tuple #[.agg (arrK .u8 32 (byt 0)), .bool false, .int .i64 0]) (fun W hS => (by have h_ := check_c (R := U1) (k := 5) (a := 0) (x := 0) (th := false) (ss := []) (by rw [HU1.out]; unfold sE; exact hs_lt4 _) (by decide) (by decide) (Nat.zero_le _) W (GT_ext hG hS.ext) (hS.row (i := 2) rfl).rr; rw [chk_e HU1.out] at h_; exact h_)) ?_
  refine TNp [1, 2] [0, 1] ?_
  refine TV ?_
  refine TV ?_
  refine TW ?_ (v := .bool false)
  refine TW ?_ (v := .int .i64 0)
  refine TE (fun _ h => h.pick [1, 2]) ?_
  refine MR 0 ?_ 
  refine TNp [1, 2] [0, 1] ?_
  refine TW ?_ (v := .bool false)
  refine TW ?_ (v := .int .i64 0)
  refine TZ (fun _ h => h.pick [1, 2]) fun W hS => ?_
  go_upto_region 4 with fail
  refine RL hS ?_
  clear hS
  refine MW ?_ (v := .agg (arrK .u8 32 (byt 0))) (hv := by intro W; kernel_rfl)
  refine MW ?_ (v := .agg (arrK .u8 32 (byt 5))) (hv := by intro W; kernel_rfl)
  refine ML 1 ?_ (hs := by rw [pf_size]; kernel_rfl)
  refine MC (v := .tuple #[.agg (arrK .u8 32 (byt 0)), .bool false, .int .i64 17]) (fun W hS => (by have h_ := check_c (R := 0) (k := 5) (a := 0) (x := 0) (th := false) (ss := []) (by decide) (by decide) (by decide) (Nat.zero_le _) W (GT_ext hG hS.ext) (hS.row (i := 2) rfl).rr; rw [chk_z] at h_; exact h_)) ?_
  refine MV ?_
  refine MV ?_
  refine MW ?_ (v := .bool false)
  refine MW ?_ (v := .int .i64 17)
  refine MN (z := arrK .u8 32 (byt 0)) (t := 22) ?_
  intro p6_9
  refine MR 0 ?_ 
  refine MW ?_ (v := .bool false)
  refine MW ?_ (v := .int .i64 17)
  refine MZ fun W hS => ?_
  go_wp2
  exact bodyPost_ret (v := .bool true) (by simp only [results, Tryd.results44]; go_simp) rfl ⟨rfl, hS.ext⟩
end Go.Proofs.YtndnlbinnhdmbaaDoor
