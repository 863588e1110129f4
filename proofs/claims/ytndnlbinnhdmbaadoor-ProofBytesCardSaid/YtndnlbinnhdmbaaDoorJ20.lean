/- Proofs: the document's texts; what Check tells, the program's and the document's. Conditions: the tables hold their numbers; keys and values have 256 bits. Proofs: what Check tells, the program's and the document's. Conditions: the tables hold their numbers; keys and values have 256 bits. -/
import Derived.Test.YtndnlbinnhdmbaaDoorPrA
set_option linter.unusedSimpArgs false
set_option linter.unusedVariables false
namespace Go.Proofs.YtndnlbinnhdmbaaDoor
set_option maxHeartbeats 3000000
set_option maxRecDepth 100000
open Go.RowKit
attribute [local irreducible] wpList wpTr wpX
set_option linter.unusedSimpArgs false
theorem chk_or (n c : Nat) (th : Bool) : 256 < n ∨ (n ≤ 256 ∧ th = false) ∨ (n ≤ 256 ∧ th = true ∧ c < n) ∨ (n ≤ 256 ∧ th = true ∧ n ≤ c) := by
 cases th
 ·
  by_cases h : 256 < n
  ·
   exact .inl h
  ·
   exact .inr (.inl ⟨by omega, rfl⟩)
 ·
  by_cases h : 256 < n
  ·
   exact .inl h
  ·
   by_cases h2 : c < n
   ·
    exact .inr (.inr (.inl ⟨by omega, rfl, h2⟩))
   ·
    exact .inr (.inr (.inr ⟨by omega, rfl, by omega⟩))
attribute [local irreducible] hs4 sE sL sN lb
end Go.Proofs.YtndnlbinnhdmbaaDoor

set_option linter.unusedSimpArgs false
set_option linter.unusedVariables false
namespace Go.Proofs.YtndnlbinnhdmbaaDoor
set_option maxHeartbeats 3000000
set_option maxRecDepth 100000
open Go.RowKit
attribute [local irreducible] wpList wpTr wpX
set_option linter.unusedSimpArgs false
attribute [local irreducible] hs4 sE sL sN lb
/-- Check's answer as values -/
abbrev chv (r : Nat × Bool × Nat) : Value := .tuple #[.agg (arrK .u8 32 (byt r.1)), .bool r.2.1, .int .i64 (r.2.2 : Int)]

theorem under_c (a k n : Nat) (hn : n ≤ 256) (w : World) :
  Calls Tryd.prog 64 #[.agg (arrK .u8 32 (byt a)), .agg (arrK .u8 32 (byt k)), .int .i64 (n : Int)] w fun e w' => Ret (.bool (decide (n ≤ kcom (byt a) (byt k)))) w w' e := by
 have hS := SH.nil [] w
 go_enter Tryd.func64, Tryd.ntmps64
 go_upto_region 0 with fail
 refine RL hS ?_
 clear hS
 refine MN (z := arrK .u8 32 (byt a)) (t := 28) ?_
 intro p3_1
 refine MN (z := arrK .u8 32 (byt k)) (t := 28) ?_
 intro p4_2
 refine MW ?_ (v := .bool false)
 refine MZ fun W hS => ?_
 go_upto_region 1 with fail
 refine RL hS ?_
 clear hS
 refine ML 1 ?_
 refine ML 0 ?_
 refine MC (v := .int .i64 ((kcom (byt a) (byt k) : Nat) : Int)) (fun W hS => kcommon_c a k W) ?_
 refine MV ?_
 refine MW ?_ (v := .int .i64 (n : Int)) (hv := by intro W; go_simp; (try omega))
 refine MW ?_ (v := .bool (decide (n ≤ kcom (byt a) (byt k)))) (hv := by intro W; go_simp; (try simp only [decide_eq_decide]); (try omega))
 refine MW ?_ (v := .bool (decide (n ≤ kcom (byt a) (byt k))))
 refine MZ fun W hS => ?_
 go_wp2
 exact bodyPost_ret (v := .bool (decide (n ≤ kcom (byt a) (byt k)))) (by simp only [results, Tryd.results64]; go_simp) rfl ⟨rfl, hS.ext⟩
theorem check_c {q : Prop} {ss : List Nat} {sv : Value} {th : Bool} {R k a x : Nat} (hR : R < 2 ^ 256) (hk : k < 2 ^ 256) (ha : a < 2 ^ 256) (hn : ss.length ≤ 1000) (w : World) (hG : GT q w) (hp : RR 32 w sv (ss.map b32l)) :
  Calls Tryd.prog 41 #[.agg (arrK .u8 32 (byt R)), .agg (arrK .u8 32 (byt k)), .agg (pfc sv th a x)] w fun e w' => Ret (chv (chk R k ss th a x)) w w' e := by
 obtain ⟨Ap, cp, rfl, hlcp, HRp⟩ := RR.opf hp
 have hS := SH.nil [] w
 go_enter Tryd.func41, Tryd.ntmps41
 go_upto_region 0 with fail
 refine RL hS ?_
 clear hS
 refine MN (z := arrK .u8 32 (byt R)) (t := 22) ?_
 intro p3_1
 refine MN (z := arrK .u8 32 (byt k)) (t := 28) ?_
 intro p4_2
 refine MN (z := pfc (.slice Ap ss.length cp) th a x) (t := 69) ?_
 intro p5_3
 refine MN (z := arrK .u8 32 (byt 0)) (t := 22) ?_
 intro p6_4
 refine MW ?_ (v := .bool false)
 refine MW ?_ (v := .int .i64 0)
 refine MZ fun W hS => ?_
 rcases chk_or ss.length (kcom (byt a) (byt k)) th with hb | ⟨hb, rfl⟩ | ⟨hb, rfl, hc⟩ | ⟨hb, rfl, hc⟩
 ·
  have _f := True.intro
  go_upto_region 1 with fail
  refine RL hS ?_
  clear hS
  refine MV ?_
  refine MG 1 ?_ (v := .slice Ap ss.length cp) (hj := pf_s)
  refine MV ?_
  refine MW ?_ (v := .bool true)
  refine MW ?_ (v := .bool true)
  refine MS ?_
  refine MS ?_
  refine MS ?_
  refine MS ?_
  refine MS ?_
  refine MS ?_
  refine MS ?_
  refine MS ?_
  refine MS ?_
  refine MS ?_
  refine MS ?_
  refine MS ?_
  refine MS ?_
  refine MW ?_ (v := .bool true)
  refine MZ fun W hS => ?_
  go_upto_region 2 with fail
  refine RL hS ?_
  clear hS
  refine MW ?_ (v := .agg (arrK .u8 32 (byt 0))) (hv := by intro W; kernel_rfl)
  refine MR 0 ?_ 
  refine MW ?_ (v := .bool false)
  refine MW ?_ (v := .int .i64 17)
  refine MZ fun W hS => ?_
  go_wp2
  exact bodyPost_ret (res_c3 rfl rfl rfl rfl (hS.blk (i := 0) rfl) (by kernel_rfl) (by rw [arrK_size]; kernel_rfl)) rfl ⟨by unfold chk; rw [if_pos (.inl hb)]; rfl, hS.ext⟩
 ·
  have _f := True.intro
  go_upto_region 1 with fail
  refine RL hS ?_
  clear hS
  refine MV ?_
  refine MG 1 ?_ (v := .slice Ap ss.length cp) (hj := pf_s)
  refine MV ?_
  refine MW ?_ (v := .bool false)
  refine MW ?_ (v := .bool false)
  refine MV ?_
  refine MG 1 ?_ (v := .bool false) (hj := pf_t)
  refine MW ?_ (v := .bool false)
  refine MS ?_
  refine MS ?_
  refine MS ?_
  refine MS ?_
  refine MS ?_
  refine MS ?_
  refine MS ?_
  refine MS ?_
  refine MS ?_
  refine MW ?_ (v := .bool false)
  refine MW ?_ (v := .bool false)
  refine MZ fun W hS => ?_
  go_upto_region 3 with fail
  refine RL hS ?_
  clear hS
  refine ML 2 ?_
  refine ML 1 ?_ (hs := by rw [pf_size]; kernel_rfl)
  refine ME (V := fun p : Value × List Value => p.1) (fun W hS => ncallL hS (texts_c (k := k) (by omega) W (GT_ext hG hS.ext) (hp.ext hS.ext)) (fun _ => rfl)) ?_
  rintro ⟨lv, us⟩
  dsimp only
  refine MV ?_
  refine MZ fun W hS => ?_
  by_cases hs : hs4 (tT k ss 0 (tE false a x)) = R
  ·
   have _f := hs
   have hlt_ : (tT k ss 0 (tE false a x)).length ≤ 67 := tT_len k (tE_len ..) _ _
   obtain ⟨u, uh, ush⟩ := txs_lt (hS.pp (i := 1) rfl) (tA_last k (tE false a x) ss 0)
   obtain ⟨A1, c1, hv1, _, HR1⟩ := RR.opf (hS.row (i := 0) rfl).rr
   subst hv1
   obtain ⟨g1, o1, A10, _⟩ := HR1.out _ u uh
   have HA1 := Lib.hid A10
   clear A10 HR1
   have hul : us.length = ss.length + 1 := by have h_ := (hS.pp (i := 1) rfl).1; rw [tA_len] at h_; exact h_
   have Hul := Lib.hid hul
   clear hul
   go_upto_region 4 with fail
   refine RTh (.q 0 (.q 1 (.q 2 (.q 3 (.q 4 (.q 5 (.q 8 (.e 6 (.e 7 (.q 9 (.q 10 .z))))))))))) hS ?_
   clear hS
   refine TV ?_
   refine TV ?_
   refine TW ?_ (v := .int .i64 (us.length : Int)) (hv := by intro W; exact run_lenV rfl rfl Tryd.underlying77)
   refine TW ?_ (v := .int .i64 (ss.length : Int)) (hv := by intro W; have hul := Hul.out; go_simp; (try simp only [IntKind.wrap_i64]); omega)
   refine TW ?_ (v := .pointer (some ⟨g1, o1 + ss.length * 1, none⟩)) (hv := fun _ => run_ixRA HA1.out (show ss.length < us.length by have h_ := Hul.out; omega) rfl rfl rfl Tryd.underlying77 (by kernel_rfl))
   refine TF (v := u) rfl (fun W hS => run_at rfl rfl ((RR.cellat (hS.row (i := 0) rfl).rr (by rw [List.getElem?_map, uh]; rfl) HA1.out) 0 _ rfl) (by kernel_rfl)) ?_
   refine TL 5 ?_
   refine TE (fun _ h => h) ?_
   refine MB (z := #[u]) (t := 33) (n := 1) (c := 1) ?_ (hr := fun W hS => run_bsv [u] rfl rfl (vsc (sl_cells ((hS.pp (i := 1) rfl).2 _ u _ uh (tA_last k (tE false a x) ss 0))).1 vs0) Tryd.underlying77 (by kernel_rfl) (by kernel_rfl) rfl (by decide) (by decide))
   intro p40_5
   refine TNh (fun W hS => hS.pick [1, 2, 3, 4, 5, 6]) ?_
   refine TE (fun _ h => h) ?_
   obtain ⟨U1, hU1⟩ := exn (hs4 ((tT k ss 0 (tE false a x))))
   have HU1 := Lib.hid hU1
   clear hU1
   refine MC (v := .agg (arrK .u8 32 (byt U1))) (fun W hS => sumN4_c HU1.out [tT k ss 0 (tE false a x)] (some ⟨p40_5, 0, none⟩) 1 (by simp only [List.flatten_cons, List.flatten_nil, List.append_nil, List.nil_append, List.append_assoc, List.cons_append]) (by first | omega | (simp only [List.length_append, List.length_cons, List.length_nil, lb_length, dbl]; omega)) (by simp) W (pss_blk (hS.blk (i := 0) rfl) (pvc ((hS.pp (i := 2) rfl).2 _ u _ uh (tA_last k (tE false a x) ss 0)) pv0)) (GS_ext4 hG.1 hS.ext)) ?_
   refine TNh (fun W hS => hS) ?_
   refine TW ?_ (v := .bool false) (hv := fun _ => run_neqA ((fun w => (eqV32 U1 R (by rw [HU1.out]; exact hs_lt4 _) hR w).trans (by rw [decide_eq_true (HU1.out.trans hs)])) _) (by kernel_rfl) rfl rfl rfl)
   refine TW ?_ (v := .bool false)
   refine TZ (fun _ h => h) fun W hS => ?_
   go_upto_region 6 with fail
   refine RL hS ?_
   clear hS
   refine MV ?_
   refine MG 4 ?_ (v := .bool false) (hj := pf_t)
   refine MW ?_ (v := .bool false)
   refine MS ?_
   refine MS ?_
   refine MS ?_
   refine MS ?_
   refine MS ?_
   refine MW ?_ (v := .bool false)
   refine MW ?_ (v := .bool false)
   refine MZ fun W hS => ?_
   go_upto_region 8 with fail
   refine RL hS ?_
   clear hS
   refine MW ?_ (v := .agg (arrK .u8 32 (byt 0))) (hv := by intro W; kernel_rfl)
   refine MR 3 ?_ 
   refine MW ?_ (v := .bool false)
   refine MW ?_ (v := .int .i64 0)
   refine MZ fun W hS => ?_
   go_wp2
   exact bodyPost_ret (res_c3 rfl rfl rfl rfl (hS.blk (i := 3) rfl) (by kernel_rfl) (by rw [arrK_size]; kernel_rfl)) rfl ⟨by unfold chk; rw [if_neg (by rintro (h_ | ⟨h_, h2_⟩) <;> first | omega | cases h_), if_pos hs, if_neg (by rintro ⟨h_, _⟩; cases h_)]; rfl, hS.ext⟩
  ·
   have _f := hs
   have hlt_ : (tT k ss 0 (tE false a x)).length ≤ 67 := tT_len k (tE_len ..) _ _
   obtain ⟨u, uh, ush⟩ := txs_lt (hS.pp (i := 1) rfl) (tA_last k (tE false a x) ss 0)
   obtain ⟨A1, c1, hv1, _, HR1⟩ := RR.opf (hS.row (i := 0) rfl).rr
   subst hv1
   obtain ⟨g1, o1, A10, _⟩ := HR1.out _ u uh
   have HA1 := Lib.hid A10
   clear A10 HR1
   have hul : us.length = ss.length + 1 := by have h_ := (hS.pp (i := 1) rfl).1; rw [tA_len] at h_; exact h_
   have Hul := Lib.hid hul
   clear hul
   go_upto_region 4 with fail
   refine RTh (.q 0 (.q 1 (.q 2 (.q 3 (.q 4 (.q 5 (.q 8 (.e 6 (.e 7 (.q 9 (.q 10 .z))))))))))) hS ?_
   clear hS
   refine TV ?_
   refine TV ?_
   refine TW ?_ (v := .int .i64 (us.length : Int)) (hv := by intro W; exact run_lenV rfl rfl Tryd.underlying77)
   refine TW ?_ (v := .int .i64 (ss.length : Int)) (hv := by intro W; have hul := Hul.out; go_simp; (try simp only [IntKind.wrap_i64]); omega)
   refine TW ?_ (v := .pointer (some ⟨g1, o1 + ss.length * 1, none⟩)) (hv := fun _ => run_ixRA HA1.out (show ss.length < us.length by have h_ := Hul.out; omega) rfl rfl rfl Tryd.underlying77 (by kernel_rfl))
   refine TF (v := u) rfl (fun W hS => run_at rfl rfl ((RR.cellat (hS.row (i := 0) rfl).rr (by rw [List.getElem?_map, uh]; rfl) HA1.out) 0 _ rfl) (by kernel_rfl)) ?_
   refine TL 5 ?_
   refine TE (fun _ h => h) ?_
   refine MB (z := #[u]) (t := 33) (n := 1) (c := 1) ?_ (hr := fun W hS => run_bsv [u] rfl rfl (vsc (sl_cells ((hS.pp (i := 1) rfl).2 _ u _ uh (tA_last k (tE false a x) ss 0))).1 vs0) Tryd.underlying77 (by kernel_rfl) (by kernel_rfl) rfl (by decide) (by decide))
   intro p40_6
   refine TNh (fun W hS => hS.pick [1, 2, 3, 4, 5, 6]) ?_
   refine TE (fun _ h => h) ?_
   obtain ⟨U1, hU1⟩ := exn (hs4 ((tT k ss 0 (tE false a x))))
   have HU1 := Lib.hid hU1
   clear hU1
   refine MC (v := .agg (arrK .u8 32 (byt U1))) (fun W hS => sumN4_c HU1.out [tT k ss 0 (tE false a x)] (some ⟨p40_6, 0, none⟩) 1 (by simp only [List.flatten_cons, List.flatten_nil, List.append_nil, List.nil_append, List.append_assoc, List.cons_append]) (by first | omega | (simp only [List.length_append, List.length_cons, List.length_nil, lb_length, dbl]; omega)) (by simp) W (pss_blk (hS.blk (i := 0) rfl) (pvc ((hS.pp (i := 2) rfl).2 _ u _ uh (tA_last k (tE false a x) ss 0)) pv0)) (GS_ext4 hG.1 hS.ext)) ?_
   refine TNh (fun W hS => hS) ?_
   refine TW ?_ (v := .bool true) (hv := fun _ => run_neqA ((fun w => (eqV32 U1 R (by rw [HU1.out]; exact hs_lt4 _) hR w).trans (by rw [decide_eq_false (fun h_ => hs (HU1.out.symm.trans h_))])) _) (by kernel_rfl) rfl rfl rfl)
   refine TW ?_ (v := .bool true)
   refine TZ (fun _ h => h) fun W hS => ?_
   go_upto_region 5 with fail
   refine RL hS ?_
   clear hS
   refine MW ?_ (v := .agg (arrK .u8 32 (byt 0))) (hv := by intro W; kernel_rfl)
   refine MR 3 ?_ 
   refine MW ?_ (v := .bool false)
   refine MW ?_ (v := .int .i64 17)
   refine MZ fun W hS => ?_
   go_wp2
   exact bodyPost_ret (res_c3 rfl rfl rfl rfl (hS.blk (i := 3) rfl) (by kernel_rfl) (by rw [arrK_size]; kernel_rfl)) rfl ⟨by unfold chk; rw [if_neg (by rintro (h_ | ⟨h_, h2_⟩) <;> first | omega | cases h_), if_neg hs]; rfl, hS.ext⟩
 ·
  have _f := True.intro
  go_upto_region 1 with fail
  refine RL hS ?_
  clear hS
  refine MV ?_
  refine MG 1 ?_ (v := .slice Ap ss.length cp) (hj := pf_s)
  refine MV ?_
  refine MW ?_ (v := .bool false)
  refine MW ?_ (v := .bool false)
  refine MV ?_
  refine MG 1 ?_ (v := .bool true) (hj := pf_t)
  refine MW ?_ (v := .bool true)
  refine MV ?_
  refine MV ?_
  refine Ml 1 pf_k ?_
  refine ML 2 ?_
  refine MV ?_
  refine MG 1 ?_ (v := .slice Ap ss.length cp) (hj := pf_s)
  refine MV ?_
  refine MC (v := .bool false) (fun W hS => (by have h_ := under_c a k ss.length hb W; rw [decide_eq_false (by omega)] at h_; exact h_)) ?_
  refine MW ?_ (v := .bool true)
  refine MW ?_ (v := .bool true)
  refine MW ?_ (v := .bool true)
  refine MZ fun W hS => ?_
  go_upto_region 2 with fail
  refine RL hS ?_
  clear hS
  refine MW ?_ (v := .agg (arrK .u8 32 (byt 0))) (hv := by intro W; kernel_rfl)
  refine MR 0 ?_ 
  refine MW ?_ (v := .bool false)
  refine MW ?_ (v := .int .i64 17)
  refine MZ fun W hS => ?_
  go_wp2
  exact bodyPost_ret (res_c3 rfl rfl rfl rfl (hS.blk (i := 0) rfl) (by kernel_rfl) (by rw [arrK_size]; kernel_rfl)) rfl ⟨by unfold chk; rw [if_pos (.inr ⟨rfl, hc⟩)]; rfl, hS.ext⟩
 ·
  have _f := True.intro
  go_upto_region 1 with fail
  refine RL hS ?_
  clear hS
  refine MV ?_
  refine MG 1 ?_ (v := .slice Ap ss.length cp) (hj := pf_s)
  refine MV ?_
  refine MW ?_ (v := .bool false)
  refine MW ?_ (v := .bool false)
  refine MV ?_
  refine MG 1 ?_ (v := .bool true) (hj := pf_t)
  refine MW ?_ (v := .bool true)
  refine MV ?_
  refine MV ?_
  refine Ml 1 pf_k ?_
  refine ML 2 ?_
  refine MV ?_
  refine MG 1 ?_ (v := .slice Ap ss.length cp) (hj := pf_s)
  refine MV ?_
  refine MC (v := .bool true) (fun W hS => (by have h_ := under_c a k ss.length hb W; rw [decide_eq_true hc] at h_; exact h_)) ?_
  refine MW ?_ (v := .bool false)
  refine MW ?_ (v := .bool false)
  refine MW ?_ (v := .bool false)
  refine MZ fun W hS => ?_
  go_upto_region 3 with fail
  refine RL hS ?_
  clear hS
  refine ML 2 ?_
  refine ML 1 ?_ (hs := by rw [pf_size]; kernel_rfl)
  refine ME (V := fun p : Value × List Value => p.1) (fun W hS => ncallL hS (texts_c (k := k) (by omega) W (GT_ext hG hS.ext) (hp.ext hS.ext)) (fun _ => rfl)) ?_
  rintro ⟨lv, us⟩
  dsimp only
  refine MV ?_
  refine MZ fun W hS => ?_
  by_cases hs : hs4 (tT k ss 0 (tE true a x)) = R
  ·
   have _f := hs
   have hlt_ : (tT k ss 0 (tE true a x)).length ≤ 67 := tT_len k (tE_len ..) _ _
   obtain ⟨u, uh, ush⟩ := txs_lt (hS.pp (i := 1) rfl) (tA_last k (tE true a x) ss 0)
   obtain ⟨A1, c1, hv1, _, HR1⟩ := RR.opf (hS.row (i := 0) rfl).rr
   subst hv1
   obtain ⟨g1, o1, A10, _⟩ := HR1.out _ u uh
   have HA1 := Lib.hid A10
   clear A10 HR1
   have hul : us.length = ss.length + 1 := by have h_ := (hS.pp (i := 1) rfl).1; rw [tA_len] at h_; exact h_
   have Hul := Lib.hid hul
   clear hul
   go_upto_region 4 with fail
   refine RTh (.q 0 (.q 1 (.q 2 (.q 3 (.q 4 (.q 5 (.q 8 (.e 6 (.e 7 (.q 9 (.q 10 .z))))))))))) hS ?_
   clear hS
   refine TV ?_
   refine TV ?_
   refine TW ?_ (v := .int .i64 (us.length : Int)) (hv := by intro W; exact run_lenV rfl rfl Tryd.underlying77)
   refine TW ?_ (v := .int .i64 (ss.length : Int)) (hv := by intro W; have hul := Hul.out; go_simp; (try simp only [IntKind.wrap_i64]); omega)
   refine TW ?_ (v := .pointer (some ⟨g1, o1 + ss.length * 1, none⟩)) (hv := fun _ => run_ixRA HA1.out (show ss.length < us.length by have h_ := Hul.out; omega) rfl rfl rfl Tryd.underlying77 (by kernel_rfl))
   refine TF (v := u) rfl (fun W hS => run_at rfl rfl ((RR.cellat (hS.row (i := 0) rfl).rr (by rw [List.getElem?_map, uh]; rfl) HA1.out) 0 _ rfl) (by kernel_rfl)) ?_
   refine TL 5 ?_
   refine TE (fun _ h => h) ?_
   refine MB (z := #[u]) (t := 33) (n := 1) (c := 1) ?_ (hr := fun W hS => run_bsv [u] rfl rfl (vsc (sl_cells ((hS.pp (i := 1) rfl).2 _ u _ uh (tA_last k (tE true a x) ss 0))).1 vs0) Tryd.underlying77 (by kernel_rfl) (by kernel_rfl) rfl (by decide) (by decide))
   intro p40_7
   refine TNh (fun W hS => hS.pick [1, 2, 3, 4, 5, 6]) ?_
   refine TE (fun _ h => h) ?_
   obtain ⟨U1, hU1⟩ := exn (hs4 ((tT k ss 0 (tE true a x))))
   have HU1 := Lib.hid hU1
   clear hU1
   refine MC (v := .agg (arrK .u8 32 (byt U1))) (fun W hS => sumN4_c HU1.out [tT k ss 0 (tE true a x)] (some ⟨p40_7, 0, none⟩) 1 (by simp only [List.flatten_cons, List.flatten_nil, List.append_nil, List.nil_append, List.append_assoc, List.cons_append]) (by first | omega | (simp only [List.length_append, List.length_cons, List.length_nil, lb_length, dbl]; omega)) (by simp) W (pss_blk (hS.blk (i := 0) rfl) (pvc ((hS.pp (i := 2) rfl).2 _ u _ uh (tA_last k (tE true a x) ss 0)) pv0)) (GS_ext4 hG.1 hS.ext)) ?_
   refine TNh (fun W hS => hS) ?_
   refine TW ?_ (v := .bool false) (hv := fun _ => run_neqA ((fun w => (eqV32 U1 R (by rw [HU1.out]; exact hs_lt4 _) hR w).trans (by rw [decide_eq_true (HU1.out.trans hs)])) _) (by kernel_rfl) rfl rfl rfl)
   refine TW ?_ (v := .bool false)
   refine TZ (fun _ h => h) fun W hS => ?_
   by_cases hak : a = k
   ·
    have _f := hak
    go_upto_region 6 with fail
    refine RL hS ?_
    clear hS
    refine MV ?_
    refine MG 4 ?_ (v := .bool true) (hj := pf_t)
    refine MW ?_ (v := .bool true)
    refine MV ?_
    refine MV ?_
    refine Ml 4 pf_k ?_
    refine ML 5 ?_
    refine MW ?_ (v := .bool true) (hv := fun _ => run_eqlA ((fun w => (eqKey a k ha hk w).trans (by rw [decide_eq_true hak])) _) (by kernel_rfl) rfl rfl rfl)
    refine MW ?_ (v := .bool true)
    refine MW ?_ (v := .bool true)
    refine MZ fun W hS => ?_
    go_upto_region 7 with fail
    refine RL hS ?_
    clear hS
    refine MV ?_
    refine MV ?_
    refine Ml 4 pf_v ?_
    refine MR 3 ?_ 
    refine MW ?_ (v := .bool true)
    refine MW ?_ (v := .int .i64 0)
    refine MZ fun W hS => ?_
    go_wp2
    exact bodyPost_ret (res_c3 rfl rfl rfl rfl (hS.blk (i := 3) rfl) (by kernel_rfl) (by rw [arrK_size]; kernel_rfl)) rfl ⟨by unfold chk; rw [if_neg (by rintro (h_ | ⟨h_, h2_⟩) <;> first | omega | cases h_), if_pos hs, if_pos ⟨rfl, hak⟩]; rfl, hS.ext⟩
   ·
    have _f := hak
    go_upto_region 6 with fail
    refine RL hS ?_
    clear hS
    refine MV ?_
    refine MG 4 ?_ (v := .bool true) (hj := pf_t)
    refine MW ?_ (v := .bool true)
    refine MV ?_
    refine MV ?_
    refine Ml 4 pf_k ?_
    refine ML 5 ?_
    refine MW ?_ (v := .bool false) (hv := fun _ => run_eqlA ((fun w => (eqKey a k ha hk w).trans (by rw [decide_eq_false hak])) _) (by kernel_rfl) rfl rfl rfl)
    refine MW ?_ (v := .bool false)
    refine MW ?_ (v := .bool false)
    refine MZ fun W hS => ?_
    go_upto_region 8 with fail
    refine RL hS ?_
    clear hS
    refine MW ?_ (v := .agg (arrK .u8 32 (byt 0))) (hv := by intro W; kernel_rfl)
    refine MR 3 ?_ 
    refine MW ?_ (v := .bool false)
    refine MW ?_ (v := .int .i64 0)
    refine MZ fun W hS => ?_
    go_wp2
    exact bodyPost_ret (res_c3 rfl rfl rfl rfl (hS.blk (i := 3) rfl) (by kernel_rfl) (by rw [arrK_size]; kernel_rfl)) rfl ⟨by unfold chk; rw [if_neg (by rintro (h_ | ⟨h_, h2_⟩) <;> first | omega | cases h_), if_pos hs, if_neg (fun h_ => hak h_.2)]; rfl, hS.ext⟩
  ·
   have _f := hs
   have hlt_ : (tT k ss 0 (tE true a x)).length ≤ 67 := tT_len k (tE_len ..) _ _
   obtain ⟨u, uh, ush⟩ := txs_lt (hS.pp (i := 1) rfl) (tA_last k (tE true a x) ss 0)
   obtain ⟨A1, c1, hv1, _, HR1⟩ := RR.opf (hS.row (i := 0) rfl).rr
   subst hv1
   obtain ⟨g1, o1, A10, _⟩ := HR1.out _ u uh
   have HA1 := Lib.hid A10
   clear A10 HR1
   have hul : us.length = ss.length + 1 := by have h_ := (hS.pp (i := 1) rfl).1; rw [tA_len] at h_; exact h_
   have Hul := Lib.hid hul
   clear hul
   go_upto_region 4 with fail
   refine RTh (.q 0 (.q 1 (.q 2 (.q 3 (.q 4 (.q 5 (.q 8 (.e 6 (.e 7 (.q 9 (.q 10 .z))))))))))) hS ?_
   clear hS
   refine TV ?_
   refine TV ?_
   refine TW ?_ (v := .int .i64 (us.length : Int)) (hv := by intro W; exact run_lenV rfl rfl Tryd.underlying77)
   refine TW ?_ (v := .int .i64 (ss.length : Int)) (hv := by intro W; have hul := Hul.out; go_simp; (try simp only [IntKind.wrap_i64]); omega)
   refine TW ?_ (v := .pointer (some ⟨g1, o1 + ss.length * 1, none⟩)) (hv := fun _ => run_ixRA HA1.out (show ss.length < us.length by have h_ := Hul.out; omega) rfl rfl rfl Tryd.underlying77 (by kernel_rfl))
   refine TF (v := u) rfl (fun W hS => run_at rfl rfl ((RR.cellat (hS.row (i := 0) rfl).rr (by rw [List.getElem?_map, uh]; rfl) HA1.out) 0 _ rfl) (by kernel_rfl)) ?_
   refine TL 5 ?_
   refine TE (fun _ h => h) ?_
   refine MB (z := #[u]) (t := 33) (n := 1) (c := 1) ?_ (hr := fun W hS => run_bsv [u] rfl rfl (vsc (sl_cells ((hS.pp (i := 1) rfl).2 _ u _ uh (tA_last k (tE true a x) ss 0))).1 vs0) Tryd.underlying77 (by kernel_rfl) (by kernel_rfl) rfl (by decide) (by decide))
   intro p40_8
   refine TNh (fun W hS => hS.pick [1, 2, 3, 4, 5, 6]) ?_
   refine TE (fun _ h => h) ?_
   obtain ⟨U1, hU1⟩ := exn (hs4 ((tT k ss 0 (tE true a x))))
   have HU1 := Lib.hid hU1
   clear hU1
   refine MC (v := .agg (arrK .u8 32 (byt U1))) (fun W hS => sumN4_c HU1.out [tT k ss 0 (tE true a x)] (some ⟨p40_8, 0, none⟩) 1 (by simp only [List.flatten_cons, List.flatten_nil, List.append_nil, List.nil_append, List.append_assoc, List.cons_append]) (by first | omega | (simp only [List.length_append, List.length_cons, List.length_nil, lb_length, dbl]; omega)) (by simp) W (pss_blk (hS.blk (i := 0) rfl) (pvc ((hS.pp (i := 2) rfl).2 _ u _ uh (tA_last k (tE true a x) ss 0)) pv0)) (GS_ext4 hG.1 hS.ext)) ?_
   refine TNh (fun W hS => hS) ?_
   refine TW ?_ (v := .bool true) (hv := fun _ => run_neqA ((fun w => (eqV32 U1 R (by rw [HU1.out]; exact hs_lt4 _) hR w).trans (by rw [decide_eq_false (fun h_ => hs (HU1.out.symm.trans h_))])) _) (by kernel_rfl) rfl rfl rfl)
   refine TW ?_ (v := .bool true)
   refine TZ (fun _ h => h) fun W hS => ?_
   go_upto_region 5 with fail
   refine RL hS ?_
   clear hS
   refine MW ?_ (v := .agg (arrK .u8 32 (byt 0))) (hv := by intro W; kernel_rfl)
   refine MR 3 ?_ 
   refine MW ?_ (v := .bool false)
   refine MW ?_ (v := .int .i64 17)
   refine MZ fun W hS => ?_
   go_wp2
   exact bodyPost_ret (res_c3 rfl rfl rfl rfl (hS.blk (i := 3) rfl) (by kernel_rfl) (by rw [arrK_size]; kernel_rfl)) rfl ⟨by unfold chk; rw [if_neg (by rintro (h_ | ⟨h_, h2_⟩) <;> first | omega | cases h_), if_neg hs]; rfl, hS.ext⟩
end Go.Proofs.YtndnlbinnhdmbaaDoor
