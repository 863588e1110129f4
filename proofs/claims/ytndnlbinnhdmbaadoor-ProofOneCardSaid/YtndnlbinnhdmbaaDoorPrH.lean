/- ProofOne. Conditions: the tables hold their numbers; keys and values have 256 bits. -/
import Derived.Test.YtndnlbinnhdmbaaDoorJ25
set_option linter.unusedSimpArgs false
set_option linter.unusedVariables false
namespace Go.Proofs.YtndnlbinnhdmbaaDoor
set_option maxHeartbeats 3000000
set_option maxRecDepth 100000
open Go.RowKit
attribute [local irreducible] wpList wpTr wpX
set_option linter.unusedSimpArgs false
theorem one_or (c d : Nat) (p q : Prop) : c ≠ 0 ∨ (c = 0 ∧ d ≠ 0) ∨ (c = 0 ∧ d = 0 ∧ p ∧ q) ∨ (c = 0 ∧ d = 0 ∧ p ∧ ¬ q) ∨ (c = 0 ∧ d = 0 ∧ ¬ p) := by
 by_cases h1 : c = 0 <;> by_cases h2 : d = 0 <;> by_cases h3 : p <;> by_cases h4 : q <;> simp [h1, h2, h3, h4]
theorem chk_lt {R k a x : Nat} {ss : List Nat} {th : Bool} (hx : x < 2 ^ 256) : (chk R k ss th a x).1 < 2 ^ 256 := by
 unfold chk
 split
 ·
  exact Nat.two_pow_pos _
 ·
  split
  ·
   split
   ·
    exact hx
   ·
    exact Nat.two_pow_pos _
  ·
   exact Nat.two_pow_pos _
attribute [local irreducible] hs4 sE sL sN lb tA chk

theorem proofOne_L {q : Prop} (hr : q) {ps ss qs tt : List Nat} {sv tv : Value} {th th2 : Bool} {k a x b y : Nat} (hE6 : ps.take 260 = ss) (hE7 : qs.take 260 = tt) (hk : k < 2 ^ 256) (ha : a < 2 ^ 256) (hx : x < 2 ^ 256) (hb : b < 2 ^ 256) (hy : y < 2 ^ 256) (w : World) (hG : GT q w) (hp : RR 32 w sv (ps.map b32l)) (hq : RR 32 w tv (qs.map b32l)) :
  Calls Tryd.prog 9 #[.agg (arrK .u8 32 (byt k)), .agg (pfc sv th a x), .agg (pfc tv th2 b y)] w fun e w' => Ret (.bool true) w w' e := by
 have hsl : ss.length ≤ 260 := by rw [← hE6, List.length_take]; omega
 have htl : tt.length ≤ 260 := by rw [← hE7, List.length_take]; omega
 have hlt_ : (tT k ss 0 (tE th a x)).length ≤ 67 := tT_len k (tE_len ..) _ _
 obtain ⟨Ap, cp, rfl, hlcp, HRp⟩ := RR.opf hp
 obtain ⟨Aq, cq, rfl, hlcq, HRq⟩ := RR.opf hq
 have hS := SH.nil [] w
 go_enter Tryd.func9, Tryd.ntmps9
 go_upto_region 0 with fail
 refine RL hS ?_
 clear hS
 refine MN (z := arrK .u8 32 (byt k)) (t := 28) ?_
 intro p3_1
 refine MN (z := pfc (.slice Ap ps.length cp) th a x) (t := 66) ?_
 intro p4_2
 refine MN (z := pfc (.slice Aq qs.length cq) th2 b y) (t := 66) ?_
 intro p5_3
 refine MW ?_ (v := .bool false)
 refine MZ fun W hS => ?_
 go_upto_region 1 with fail
 refine RJ (R := fun a_ w_ => ∃ (j1_0 : Option Addr), ∃ (j1_1 : Nat), ∃ (j1_2 : Option Addr), ∃ (j1_3 : Nat), a_ = { tmps := #[.agg (arrK .u8 32 (byt k)), .agg (pfc (.slice Ap ps.length cp) th a x), .agg (pfc (.slice Aq qs.length cq) th2 b y), .pointer (some ⟨p3_1, 0, none⟩), .pointer (some ⟨p4_2, 0, none⟩), .pointer (some ⟨p5_3, 0, none⟩), .bool false, undef, undef, undef, undef, undef, undef, undef, undef, undef, .agg (pfc (.slice Ap ps.length cp) th a x), .agg (pfc (.slice j1_0 ss.length j1_1) th a x), .agg (pfc (.slice Aq qs.length cq) th2 b y), .agg (pfc (.slice j1_2 tt.length j1_3) th2 b y), undef, undef, undef, undef, undef, undef, undef, undef, undef, undef, undef, undef, undef, undef, undef, undef, undef, undef, undef, undef, undef, undef, undef, undef, undef, undef, undef, undef, undef, undef, undef, undef, undef, undef, undef, undef, undef, undef, undef, undef, undef, undef, undef, undef, undef, undef, undef, undef, undef, undef, undef, undef, undef, undef, undef, undef, undef, undef], defers := [] } ∧ SH [] w w_ [.r 22 32 (.slice j1_0 ss.length j1_1) (List.map b32l ss), .r 22 32 (.slice j1_2 tt.length j1_3) (List.map b32l tt), .b p3_1 (arrK .u8 32 (byt k)) 28, .b p4_2 (pfc (.slice j1_0 ss.length j1_1) th a x) 66, .b p5_3 (pfc (.slice j1_2 tt.length j1_3) th2 b y) 66]) ?_ ?_
 ·
  skip
  refine RTp [2] (.b 0 (.b 1 (.e 2 (.e 3 (.e 4 (.e 5 .z)))) 2 (.e 1 (.e 3 (.e 4 (.e 5 .z))))) 2 (.e 0 (.e 1 (.e 3 (.e 4 (.e 5 .z)))))) hS ?_
  clear hS
  refine TB (fun _ h => h.pick [2]) ?_ ?_
  ·
   skip
   refine ML 1 ?_ (hs := by rw [pf_size]; kernel_rfl)
   refine TNp [2] [0] ?_
   refine TB (fun _ h => h.pick [2]) ?_ ?_
   ·
    skip
    refine ME (V := fun v => .agg (pfc v th a x)) (fun W hS => pcall (ss := ss) hS ((by rw [← hE6]; exact tame_c W (hp.ext hS.ext))) rfl) ?_
    intro tm_5
    refine MFact (fun W hS => Row.form (ls := ss) (f := b32l) (hS.row (i := 0) rfl)) ?_
    rintro ⟨A_6, c_6, rfl⟩
    refine TNp [0, 3] [1] ?_
    refine TE (fun _ h => h.pick [0, 3]) ?_
    refine ML 1 ?_ (hs := by rw [pf_size]; kernel_rfl)
    refine TNp [0, 3] [0, 1] ?_
    refine TE (fun _ h => h.pick [0, 3]) ?_
    refine ME (V := fun v => .agg (pfc v th2 b y)) (fun W hS => pcall (ss := tt) hS ((by rw [← hE7]; exact tame_c W (hq.ext hS.ext))) rfl) ?_
    intro tm_8
    refine MFact (fun W hS => Row.form (ls := tt) (f := b32l) (hS.row (i := 0) rfl)) ?_
    rintro ⟨A_9, c_9, rfl⟩
    refine TNp [0, 1, 4] [1, 2] ?_
    refine TE (fun _ h => h.pick [0, 1, 4]) ?_
    refine MR 3 ?_ (hz := by rw [pf_size]; kernel_rfl) (hs := by first | rw [pf_size, pf_size] | rw [pf_size] | kernel_rfl) (h1 := (pf_one rfl))
    refine TNp [0, 1, 4] [0, 1, 2] ?_
    refine TE (fun _ h => h.pick [0, 1, 4]) ?_
    refine MR 2 ?_ (hz := by rw [pf_size]; kernel_rfl) (hs := by first | rw [pf_size, pf_size] | rw [pf_size] | kernel_rfl) (h1 := (pf_one rfl))
    refine TNp [0, 1, 4] [0, 1, 2] ?_
    refine TZ (fun _ h => h.pick [0, 1, 4]) fun W hS => ?_
    exact ⟨A_6, c_6, A_9, c_9, rfl, hS.pick [1, 0, 4, 3, 2]⟩
   ·
    skip
    refine ML 0 ?_ (hs := by rw [pf_size]; kernel_rfl)
    refine TNp [2] [0] ?_
    refine TE (fun _ h => h.pick [2]) ?_
    refine ME (V := fun v => .agg (pfc v th a x)) (fun W hS => pcall (ss := ss) hS ((by rw [← hE6]; exact tame_c W (hp.ext hS.ext))) rfl) ?_
    intro tm_11
    refine MFact (fun W hS => Row.form (ls := ss) (f := b32l) (hS.row (i := 0) rfl)) ?_
    rintro ⟨A_12, c_12, rfl⟩
    refine TNp [0, 3] [1] ?_
    refine TE (fun _ h => h.pick [0, 3]) ?_
    refine ME (V := fun v => .agg (pfc v th2 b y)) (fun W hS => pcall (ss := tt) hS ((by rw [← hE7]; exact tame_c W (hq.ext hS.ext))) rfl) ?_
    intro tm_14
    refine MFact (fun W hS => Row.form (ls := tt) (f := b32l) (hS.row (i := 0) rfl)) ?_
    rintro ⟨A_15, c_15, rfl⟩
    refine TNp [0, 1, 4] [1, 2] ?_
    refine TE (fun _ h => h.pick [0, 1, 4]) ?_
    refine MR 3 ?_ (hz := by rw [pf_size]; kernel_rfl) (hs := by first | rw [pf_size, pf_size] | rw [pf_size] | kernel_rfl) (h1 := (pf_one rfl))
    refine TNp [0, 1, 4] [0, 1, 2] ?_
    refine TE (fun _ h => h.pick [0, 1, 4]) ?_
    refine MR 2 ?_ (hz := by rw [pf_size]; kernel_rfl) (hs := by first | rw [pf_size, pf_size] | rw [pf_size] | kernel_rfl) (h1 := (pf_one rfl))
    refine TNp [0, 1, 4] [0, 1, 2] ?_
    refine TZ (fun _ h => h.pick [0, 1, 4]) fun W hS => ?_
    exact ⟨A_12, c_12, A_15, c_15, rfl, hS.pick [1, 0, 4, 3, 2]⟩
  ·
   skip
   refine ML 0 ?_ (hs := by rw [pf_size]; kernel_rfl)
   refine TNp [2] [0] ?_
   refine TE (fun _ h => h.pick [2]) ?_
   refine ML 1 ?_ (hs := by rw [pf_size]; kernel_rfl)
   refine TNp [2] [0] ?_
   refine TE (fun _ h => h.pick [2]) ?_
   refine ME (V := fun v => .agg (pfc v th a x)) (fun W hS => pcall (ss := ss) hS ((by rw [← hE6]; exact tame_c W (hp.ext hS.ext))) rfl) ?_
   intro tm_17
   refine MFact (fun W hS => Row.form (ls := ss) (f := b32l) (hS.row (i := 0) rfl)) ?_
   rintro ⟨A_18, c_18, rfl⟩
   refine TNp [0, 3] [1] ?_
   refine TE (fun _ h => h.pick [0, 3]) ?_
   refine ME (V := fun v => .agg (pfc v th2 b y)) (fun W hS => pcall (ss := tt) hS ((by rw [← hE7]; exact tame_c W (hq.ext hS.ext))) rfl) ?_
   intro tm_20
   refine MFact (fun W hS => Row.form (ls := tt) (f := b32l) (hS.row (i := 0) rfl)) ?_
   rintro ⟨A_21, c_21, rfl⟩
   refine TNp [0, 1, 4] [1, 2] ?_
   refine TE (fun _ h => h.pick [0, 1, 4]) ?_
   refine MR 3 ?_ (hz := by rw [pf_size]; kernel_rfl) (hs := by first | rw [pf_size, pf_size] | rw [pf_size] | kernel_rfl) (h1 := (pf_one rfl))
   refine TNp [0, 1, 4] [0, 1, 2] ?_
   refine TE (fun _ h => h.pick [0, 1, 4]) ?_
   refine MR 2 ?_ (hz := by rw [pf_size]; kernel_rfl) (hs := by first | rw [pf_size, pf_size] | rw [pf_size] | kernel_rfl) (h1 := (pf_one rfl))
   refine TNp [0, 1, 4] [0, 1, 2] ?_
   refine TZ (fun _ h => h.pick [0, 1, 4]) fun W hS => ?_
   exact ⟨A_18, c_18, A_21, c_21, rfl, hS.pick [1, 0, 4, 3, 2]⟩
 rintro _ W ⟨j1_0, j1_1, j1_2, j1_3, rfl, hS⟩
 go_upto_region 2 with fail
 refine RTh (.q 0 (.q 1 (.e 2 (.e 3 (.q 4 .z))))) hS ?_
 clear hS
 refine TL 2 ?_
 refine TL 3 ?_ (hs := by rw [pf_size]; kernel_rfl)
 refine TE (fun _ h => h) ?_
 refine ME (V := fun v => .agg (pfc v th a x)) (fun W hS => pcall (ss := ss) hS (pto_c (by omega) W (hS.row (i := 0) rfl).rr) rfl) ?_
 intro to_22
 refine MFact (fun W hS => Row.form (ls := ss) (f := b32l) (hS.row (i := 0) rfl)) ?_
 rintro ⟨A_23, c_23, rfl⟩
 refine TNh (fun W hS => hS.pick [1, 2, 3, 4, 5]) ?_
 refine TE (fun _ h => h) ?_
 refine ME (V := fun p : Value × List Value => p.1) (fun W hS => ncallL hS (texts_c (k := k) (by omega) W (GT_ext hG hS.ext) (hS.row (i := 0) rfl).rr) (fun _ => rfl)) ?_
 rintro ⟨lv, us⟩
 dsimp only
 refine TNh (fun W hS => hS.pick [2, 3, 4, 5, 6, 7]) ?_
 refine TV ?_
 refine TZ (fun _ h => h) fun W hS => ?_
 go_upto_region 3 with fail
 refine RL hS ?_
 clear hS
 refine MC (v := .bool true) (fun W hS => proofs_c W (GT_ext hG hS.ext)) ?_
 refine MW ?_ (v := .bool false)
 refine MZ fun W hS => ?_
 have hul : us.length = ss.length + 1 := by have h_ := (hS.pp (i := 1) rfl).1; rw [tA_len] at h_; exact h_
 obtain ⟨u, uh, _⟩ := txs_lt (hS.pp (i := 1) rfl) (tA_last k (tE th a x) ss 0)
 go_upto_region 5 with fail
 refine RL hS ?_
 clear hS
 refine MV ?_
 refine MV ?_
 refine MF (v := .int .i64 ((ss.length + 1 : Nat) : Int)) (fun W hS => run_lenRm (hS.row (i := 0) rfl) (by rw [List.length_map]; exact hul) rfl rfl Tryd.underlying77) ?_
 refine MW ?_ (v := .int .i64 (ss.length : Int)) (hv := by intro W; go_simp; (try simp only [IntKind.wrap_i64]); omega)
 refine MI 0 ss.length (e := (one1 u)) (by rw [List.getElem?_map, uh]; rfl) ?_
 intro gb30_24 _ hv30_24
 refine MF (v := u) (fun W hS => run_at rfl rfl (row_cell (hS.row (i := 0) rfl) hv30_24.out (by rw [List.getElem?_map, uh]; rfl) 0 _ (rfl)) (by kernel_rfl)) ?_
 refine MF (v := str (tT k ss 0 (tE th a x))) (fun W hS => run_cvs ((hS.pp (i := 1) rfl).2 _ u _ uh (tA_last k (tE th a x) ss 0)) rfl rfl) ?_
 obtain ⟨U1, hU1⟩ := exn (hs4 (tT k ss 0 (tE th a x)))
 have HU1 := Lib.hid hU1
 clear hU1
 refine MC (v := str (lb 32 U1)) (fun W hS => rsumN4_c HU1.out (by first | omega | (simp only [List.length_append, List.length_cons, List.length_nil, lb_length, dbl]; omega)) W (GR_ext4 (hG.2 hr) hS.ext)) ?_
 refine MV ?_
 refine MZ fun W hS => ?_
 go_upto_region 6 with fail
 refine RL hS ?_
 clear hS
 refine MN (z := arrK .u8 32 (byt 0)) (t := 22) ?_
 intro p9_25
 refine MZ fun W hS => ?_
 go_upto_region 7 with fail
 refine RL hS ?_
 clear hS
 refine MW ?_ (v := .slice (some ⟨p9_25, 0, none⟩) 32 32)
 refine MV ?_
 refine MCp 0 (l := (lb 32 U1)) (n := 32) (cs := arrK .u8 32 (byt 0)) (new := arrK .u8 32 (byt U1)) (lb_length _ _) (by first | exact arrK_size _ _ _ | decide) (bs8_arr _ _) ?_
 refine MZ fun W hS => ?_
 ·
  have _f := True.intro
  obtain ⟨c0, c1, c2, hc⟩ : ∃ u v n, chk U1 k ss th a x = (u, v, n) := ⟨_, _, _, rfl⟩
  obtain ⟨d0, d1, d2, hd⟩ : ∃ u v n, chk U1 k tt th2 b y = (u, v, n) := ⟨_, _, _, rfl⟩
  have hc0 : c0 < 2 ^ 256 := by have h_ := chk_lt (R := U1) (k := k) (ss := ss) (th := th) (a := a) hx; rw [hc] at h_; exact h_
  have hd0 : d0 < 2 ^ 256 := by have h_ := chk_lt (R := U1) (k := k) (ss := tt) (th := th2) (a := b) hy; rw [hd] at h_; exact h_
  have HC := Lib.hid hc
  have HD := Lib.hid hd
  clear hc hd
  go_upto_region 8 with fail
  refine RJ (R := fun a_ w_ => ∃ (j8_0 : Nat), ∃ (j8_1 : Option Addr), ∃ (j8_2 : Nat), a_ = { tmps := #[.agg (arrK .u8 32 (byt k)), .agg (pfc (.slice Ap ps.length cp) th a x), .agg (pfc (.slice Aq qs.length cq) th2 b y), .pointer (some ⟨p3_1, 0, none⟩), .pointer (some ⟨p4_2, 0, none⟩), .pointer (some ⟨p5_3, 0, none⟩), .bool false, lv, str (lb 32 U1), .pointer (some ⟨p9_25, 0, none⟩), .pointer (some ⟨j8_0, 0, none⟩), .bool c1, .int .i64 (c2 : Int), undef, undef, undef, .agg (pfc (.slice Ap ps.length cp) th a x), .agg (pfc (.slice j1_0 ss.length j1_1) th a x), .agg (pfc (.slice Aq qs.length cq) th2 b y), .agg (pfc (.slice j1_2 tt.length j1_3) th2 b y), .agg (arrK .u8 32 (byt k)), .agg (pfc (.slice j1_0 ss.length j1_1) th a x), .agg (pfc (.slice A_23 ss.length c_23) th a x), lv, .bool true, .bool false, lv, lv, .int .i64 ((ss.length + 1 : Nat) : Int), .int .i64 (ss.length : Int), .pointer (some ⟨gb30_24, ss.length * 1, none⟩), u, str (tT k ss 0 (tE th a x)), str (lb 32 U1), .slice (some ⟨p9_25, 0, none⟩) 32 32, str (lb 32 U1), .int .i64 32, .tuple #[.agg (arrK .u8 32 (byt c0)), .bool c1, .int .i64 (c2 : Int)], .agg (arrK .u8 32 (byt U1)), .agg (arrK .u8 32 (byt k)), .agg (pfc (.slice j1_0 ss.length j1_1) th a x), .agg (pfc (.slice j8_1 ss.length j8_2) th a x), .tuple #[.agg (arrK .u8 32 (byt c0)), .bool c1, .int .i64 (c2 : Int)], .agg (arrK .u8 32 (byt c0)), .bool c1, .int .i64 (c2 : Int), undef, undef, undef, undef, undef, undef, undef, undef, undef, undef, undef, undef, undef, undef, undef, undef, undef, undef, undef, undef, undef, undef, undef, undef, undef, undef, undef, undef, undef, undef, undef, undef], defers := [] } ∧ SH [] w w_ [.b j8_0 (arrK .u8 32 (byt c0)) 22, .r 22 32 (.slice j8_1 ss.length j8_2) (List.map b32l ss), .r 33 1 lv (List.map one1 us), .b p3_1 (arrK .u8 32 (byt k)) 28, .b p4_2 (pfc (.slice j1_0 ss.length j1_1) th a x) 66, .b p5_3 (pfc (.slice j1_2 tt.length j1_3) th2 b y) 66, .b p9_25 (arrK .u8 32 (byt U1)) 22, .r 22 32 (.slice j1_0 ss.length j1_1) (List.map b32l ss), .r 22 32 (.slice j1_2 tt.length j1_3) (List.map b32l tt), .r 22 32 (.slice A_23 ss.length c_23) (List.map b32l ss), .p (txF us (tA k ss 0 (tE th a x))) (fun W => TXS W us (tA k ss 0 (tE th a x)))]) ?_ ?_
  ·
   skip
   refine RTh (.q 0 (.q 1 (.q 2 (.b 3 (.b 4 (.q 5 (.q 6 (.q 7 (.q 8 (.e 9 (.e 10 (.q 11 (.q 12 .z)))))))) 9 (.e 4 (.q 5 (.q 6 (.q 7 (.q 8 (.e 10 (.q 11 (.q 12 .z))))))))) 9 (.e 3 (.e 4 (.q 5 (.q 6 (.q 7 (.q 8 (.e 10 (.q 11 (.q 12 .z))))))))))))) hS ?_
   clear hS
   refine TL 0 ?_
   refine TL 6 ?_
   refine TL 7 ?_ (hs := by rw [pf_size]; kernel_rfl)
   refine TB (fun _ h => h) ?_ ?_
   ·
    skip
    refine ME (V := fun v => .agg (pfc v th a x)) (fun W hS => pcall (ss := ss) hS (pto_c (by omega) W (hS.row (i := 4) rfl).rr) rfl) ?_
    intro to_26
    refine MFact (fun W hS => Row.form (ls := ss) (f := b32l) (hS.row (i := 0) rfl)) ?_
    rintro ⟨A_27, c_27, rfl⟩
    refine TNh (fun W hS => hS.pick [1, 2, 3, 4, 5, 6, 7, 8, 9]) ?_
    refine TB (fun _ h => h) ?_ ?_
    ·
     skip
     refine MC (v := .tuple #[.agg (arrK .u8 32 (byt c0)), .bool c1, .int .i64 (c2 : Int)]) (fun W hS => (by have h_ := check_c (R := U1) (k := k) (th := th) (x := x) (by rw [HU1.out]; exact hs_lt4 _) hk ha (by omega) W (GT_ext hG hS.ext) (hS.row (i := 0) rfl).rr; rw [HC.out] at h_; exact h_)) ?_
     refine TNh (fun W hS => hS) ?_
     refine TV ?_
     refine TV ?_
     refine TW ?_ (v := .bool c1)
     refine TV ?_
     refine TE (fun _ h => h) ?_
     refine MN (z := arrK .u8 32 (byt 0)) (t := 22) ?_
     intro p10_28
     refine TNp [1, 2, 3, 4, 5, 6, 7, 8, 9, 10] [0, 1, 2, 3, 4, 5, 6, 7, 8, 9] ?_
     refine TE (fun _ h => h.pick [1, 2, 3, 4, 5, 6, 7, 8, 9, 10]) ?_
     refine MR 0 ?_ 
     refine TNp [1, 2, 3, 4, 5, 6, 7, 8, 9, 10] [0, 1, 2, 3, 4, 5, 6, 7, 8, 9] ?_
     refine TW ?_ (v := .bool c1)
     refine TV ?_
     refine TZ (fun _ h => h.pick [1, 2, 3, 4, 5, 6, 7, 8, 9, 10]) fun W hS => ?_
     exact ⟨p10_28, A_27, c_27, rfl, hS.pick [0, 1, 3, 8, 9, 10, 2, 6, 7, 5, 4]⟩
    ·
     skip
     refine MN (z := arrK .u8 32 (byt 0)) (t := 22) ?_
     intro p10_29
     refine TNp [1, 2, 3, 4, 5, 6, 7, 8, 9, 10] [0, 1, 2, 3, 4, 5, 6, 7, 8, 9] ?_
     refine TE (fun _ h => h.pick [1, 2, 3, 4, 5, 6, 7, 8, 9, 10]) ?_
     refine MC (v := .tuple #[.agg (arrK .u8 32 (byt c0)), .bool c1, .int .i64 (c2 : Int)]) (fun W hS => (by have h_ := check_c (R := U1) (k := k) (th := th) (x := x) (by rw [HU1.out]; exact hs_lt4 _) hk ha (by omega) W (GT_ext hG hS.ext) (hS.row (i := 1) rfl).rr; rw [HC.out] at h_; exact h_)) ?_
     refine TNp [1, 2, 3, 4, 5, 6, 7, 8, 9, 10] [0, 1, 2, 3, 4, 5, 6, 7, 8, 9] ?_
     refine TV ?_
     refine TV ?_
     refine TW ?_ (v := .bool c1)
     refine TV ?_
     refine TE (fun _ h => h.pick [1, 2, 3, 4, 5, 6, 7, 8, 9, 10]) ?_
     refine MR 0 ?_ 
     refine TNp [1, 2, 3, 4, 5, 6, 7, 8, 9, 10] [0, 1, 2, 3, 4, 5, 6, 7, 8, 9] ?_
     refine TW ?_ (v := .bool c1)
     refine TV ?_
     refine TZ (fun _ h => h.pick [1, 2, 3, 4, 5, 6, 7, 8, 9, 10]) fun W hS => ?_
     exact ⟨p10_29, A_27, c_27, rfl, hS.pick [0, 1, 3, 8, 9, 10, 2, 6, 7, 5, 4]⟩
   ·
    skip
    refine MN (z := arrK .u8 32 (byt 0)) (t := 22) ?_
    intro p10_30
    refine TNp [1, 2, 3, 4, 5, 6, 7, 8, 9] [0, 1, 2, 3, 4, 5, 6, 7, 8] ?_
    refine TE (fun _ h => h.pick [1, 2, 3, 4, 5, 6, 7, 8, 9]) ?_
    refine ME (V := fun v => .agg (pfc v th a x)) (fun W hS => pcall (ss := ss) hS (pto_c (by omega) W (hS.row (i := 5) rfl).rr) rfl) ?_
    intro to_31
    refine MFact (fun W hS => Row.form (ls := ss) (f := b32l) (hS.row (i := 0) rfl)) ?_
    rintro ⟨A_32, c_32, rfl⟩
    refine TNp [0, 2, 3, 4, 5, 6, 7, 8, 9, 10] [1, 2, 3, 4, 5, 6, 7, 8, 9] ?_
    refine TE (fun _ h => h.pick [0, 2, 3, 4, 5, 6, 7, 8, 9, 10]) ?_
    refine MC (v := .tuple #[.agg (arrK .u8 32 (byt c0)), .bool c1, .int .i64 (c2 : Int)]) (fun W hS => (by have h_ := check_c (R := U1) (k := k) (th := th) (x := x) (by rw [HU1.out]; exact hs_lt4 _) hk ha (by omega) W (GT_ext hG hS.ext) (hS.row (i := 0) rfl).rr; rw [HC.out] at h_; exact h_)) ?_
    refine TNp [0, 2, 3, 4, 5, 6, 7, 8, 9, 10] [0, 1, 2, 3, 4, 5, 6, 7, 8, 9] ?_
    refine TV ?_
    refine TV ?_
    refine TW ?_ (v := .bool c1)
    refine TV ?_
    refine TE (fun _ h => h.pick [0, 2, 3, 4, 5, 6, 7, 8, 9, 10]) ?_
    refine MR 1 ?_ 
    refine TNp [0, 2, 3, 4, 5, 6, 7, 8, 9, 10] [0, 1, 2, 3, 4, 5, 6, 7, 8, 9] ?_
    refine TW ?_ (v := .bool c1)
    refine TV ?_
    refine TZ (fun _ h => h.pick [0, 2, 3, 4, 5, 6, 7, 8, 9, 10]) fun W hS => ?_
    exact ⟨p10_30, A_32, c_32, rfl, hS.pick [1, 0, 3, 8, 9, 10, 2, 6, 7, 5, 4]⟩
  rintro _ W ⟨j8_0, j8_1, j8_2, rfl, hS⟩
  go_upto_region 9 with fail
  refine RJ (R := fun a_ w_ => ∃ (j9_0 : Nat), ∃ (j9_1 : Option Addr), ∃ (j9_2 : Nat), a_ = { tmps := #[.agg (arrK .u8 32 (byt k)), .agg (pfc (.slice Ap ps.length cp) th a x), .agg (pfc (.slice Aq qs.length cq) th2 b y), .pointer (some ⟨p3_1, 0, none⟩), .pointer (some ⟨p4_2, 0, none⟩), .pointer (some ⟨p5_3, 0, none⟩), .bool false, lv, str (lb 32 U1), .pointer (some ⟨p9_25, 0, none⟩), .pointer (some ⟨j8_0, 0, none⟩), .bool c1, .int .i64 (c2 : Int), .pointer (some ⟨j9_0, 0, none⟩), .bool d1, .int .i64 (d2 : Int), .agg (pfc (.slice Ap ps.length cp) th a x), .agg (pfc (.slice j1_0 ss.length j1_1) th a x), .agg (pfc (.slice Aq qs.length cq) th2 b y), .agg (pfc (.slice j1_2 tt.length j1_3) th2 b y), .agg (arrK .u8 32 (byt k)), .agg (pfc (.slice j1_0 ss.length j1_1) th a x), .agg (pfc (.slice A_23 ss.length c_23) th a x), lv, .bool true, .bool false, lv, lv, .int .i64 ((ss.length + 1 : Nat) : Int), .int .i64 (ss.length : Int), .pointer (some ⟨gb30_24, ss.length * 1, none⟩), u, str (tT k ss 0 (tE th a x)), str (lb 32 U1), .slice (some ⟨p9_25, 0, none⟩) 32 32, str (lb 32 U1), .int .i64 32, .tuple #[.agg (arrK .u8 32 (byt c0)), .bool c1, .int .i64 (c2 : Int)], .agg (arrK .u8 32 (byt U1)), .agg (arrK .u8 32 (byt k)), .agg (pfc (.slice j1_0 ss.length j1_1) th a x), .agg (pfc (.slice j8_1 ss.length j8_2) th a x), .tuple #[.agg (arrK .u8 32 (byt c0)), .bool c1, .int .i64 (c2 : Int)], .agg (arrK .u8 32 (byt c0)), .bool c1, .int .i64 (c2 : Int), .tuple #[.agg (arrK .u8 32 (byt d0)), .bool d1, .int .i64 (d2 : Int)], .agg (arrK .u8 32 (byt U1)), .agg (arrK .u8 32 (byt k)), .agg (pfc (.slice j1_2 tt.length j1_3) th2 b y), .agg (pfc (.slice j9_1 tt.length j9_2) th2 b y), .tuple #[.agg (arrK .u8 32 (byt d0)), .bool d1, .int .i64 (d2 : Int)], .agg (arrK .u8 32 (byt d0)), .bool d1, .int .i64 (d2 : Int), undef, undef, undef, undef, undef, undef, undef, undef, undef, undef, undef, undef, undef, undef, undef, undef, undef, undef, undef, undef, undef, undef, undef], defers := [] } ∧ SH [] w w_ [.b j9_0 (arrK .u8 32 (byt d0)) 22, .r 22 32 (.slice j9_1 tt.length j9_2) (List.map b32l tt), .r 33 1 lv (List.map one1 us), .b j8_0 (arrK .u8 32 (byt c0)) 22, .b p3_1 (arrK .u8 32 (byt k)) 28, .b p4_2 (pfc (.slice j1_0 ss.length j1_1) th a x) 66, .b p5_3 (pfc (.slice j1_2 tt.length j1_3) th2 b y) 66, .b p9_25 (arrK .u8 32 (byt U1)) 22, .r 22 32 (.slice j1_0 ss.length j1_1) (List.map b32l ss), .r 22 32 (.slice j1_2 tt.length j1_3) (List.map b32l tt), .r 22 32 (.slice A_23 ss.length c_23) (List.map b32l ss), .r 22 32 (.slice j8_1 ss.length j8_2) (List.map b32l ss), .p (txF us (tA k ss 0 (tE th a x))) (fun W => TXS W us (tA k ss 0 (tE th a x)))]) ?_ ?_
  ·
   skip
   refine RTh (.q 0 (.q 1 (.q 2 (.b 3 (.b 4 (.q 5 (.q 6 (.q 7 (.q 8 (.e 9 (.e 10 (.q 11 (.q 12 .z)))))))) 9 (.e 4 (.q 5 (.q 6 (.q 7 (.q 8 (.e 10 (.q 11 (.q 12 .z))))))))) 9 (.e 3 (.e 4 (.q 5 (.q 6 (.q 7 (.q 8 (.e 10 (.q 11 (.q 12 .z))))))))))))) hS ?_
   clear hS
   refine TL 6 ?_
   refine TL 3 ?_
   refine TL 5 ?_ (hs := by rw [pf_size]; kernel_rfl)
   refine TB (fun _ h => h) ?_ ?_
   ·
    skip
    refine ME (V := fun v => .agg (pfc v th2 b y)) (fun W hS => pcall (ss := tt) hS (pto_c (by omega) W (hS.row (i := 8) rfl).rr) rfl) ?_
    intro to_33
    refine MFact (fun W hS => Row.form (ls := tt) (f := b32l) (hS.row (i := 0) rfl)) ?_
    rintro ⟨A_34, c_34, rfl⟩
    refine TNh (fun W hS => hS.pick [1, 2, 3, 4, 5, 6, 7, 8, 9, 10, 11]) ?_
    refine TB (fun _ h => h) ?_ ?_
    ·
     skip
     refine MC (v := .tuple #[.agg (arrK .u8 32 (byt d0)), .bool d1, .int .i64 (d2 : Int)]) (fun W hS => (by have h_ := check_c (R := U1) (k := k) (th := th2) (x := y) (by rw [HU1.out]; exact hs_lt4 _) hk hb (by omega) W (GT_ext hG hS.ext) (hS.row (i := 0) rfl).rr; rw [HD.out] at h_; exact h_)) ?_
     refine TNh (fun W hS => hS) ?_
     refine TV ?_
     refine TV ?_
     refine TW ?_ (v := .bool d1)
     refine TV ?_
     refine TE (fun _ h => h) ?_
     refine MN (z := arrK .u8 32 (byt 0)) (t := 22) ?_
     intro p13_35
     refine TNp [1, 2, 3, 4, 5, 6, 7, 8, 9, 10, 11, 12] [0, 1, 2, 3, 4, 5, 6, 7, 8, 9, 10, 11] ?_
     refine TE (fun _ h => h.pick [1, 2, 3, 4, 5, 6, 7, 8, 9, 10, 11, 12]) ?_
     refine MR 0 ?_ 
     refine TNp [1, 2, 3, 4, 5, 6, 7, 8, 9, 10, 11, 12] [0, 1, 2, 3, 4, 5, 6, 7, 8, 9, 10, 11] ?_
     refine TW ?_ (v := .bool d1)
     refine TV ?_
     refine TZ (fun _ h => h.pick [1, 2, 3, 4, 5, 6, 7, 8, 9, 10, 11, 12]) fun W hS => ?_
     exact ⟨p13_35, A_34, c_34, rfl, hS.pick [0, 1, 4, 2, 5, 6, 7, 8, 9, 10, 11, 3, 12]⟩
    ·
     skip
     refine MN (z := arrK .u8 32 (byt 0)) (t := 22) ?_
     intro p13_36
     refine TNp [1, 2, 3, 4, 5, 6, 7, 8, 9, 10, 11, 12] [0, 1, 2, 3, 4, 5, 6, 7, 8, 9, 10, 11] ?_
     refine TE (fun _ h => h.pick [1, 2, 3, 4, 5, 6, 7, 8, 9, 10, 11, 12]) ?_
     refine MC (v := .tuple #[.agg (arrK .u8 32 (byt d0)), .bool d1, .int .i64 (d2 : Int)]) (fun W hS => (by have h_ := check_c (R := U1) (k := k) (th := th2) (x := y) (by rw [HU1.out]; exact hs_lt4 _) hk hb (by omega) W (GT_ext hG hS.ext) (hS.row (i := 1) rfl).rr; rw [HD.out] at h_; exact h_)) ?_
     refine TNp [1, 2, 3, 4, 5, 6, 7, 8, 9, 10, 11, 12] [0, 1, 2, 3, 4, 5, 6, 7, 8, 9, 10, 11] ?_
     refine TV ?_
     refine TV ?_
     refine TW ?_ (v := .bool d1)
     refine TV ?_
     refine TE (fun _ h => h.pick [1, 2, 3, 4, 5, 6, 7, 8, 9, 10, 11, 12]) ?_
     refine MR 0 ?_ 
     refine TNp [1, 2, 3, 4, 5, 6, 7, 8, 9, 10, 11, 12] [0, 1, 2, 3, 4, 5, 6, 7, 8, 9, 10, 11] ?_
     refine TW ?_ (v := .bool d1)
     refine TV ?_
     refine TZ (fun _ h => h.pick [1, 2, 3, 4, 5, 6, 7, 8, 9, 10, 11, 12]) fun W hS => ?_
     exact ⟨p13_36, A_34, c_34, rfl, hS.pick [0, 1, 4, 2, 5, 6, 7, 8, 9, 10, 11, 3, 12]⟩
   ·
    skip
    refine MN (z := arrK .u8 32 (byt 0)) (t := 22) ?_
    intro p13_37
    refine TNp [1, 2, 3, 4, 5, 6, 7, 8, 9, 10, 11] [0, 1, 2, 3, 4, 5, 6, 7, 8, 9, 10] ?_
    refine TE (fun _ h => h.pick [1, 2, 3, 4, 5, 6, 7, 8, 9, 10, 11]) ?_
    refine ME (V := fun v => .agg (pfc v th2 b y)) (fun W hS => pcall (ss := tt) hS (pto_c (by omega) W (hS.row (i := 9) rfl).rr) rfl) ?_
    intro to_38
    refine MFact (fun W hS => Row.form (ls := tt) (f := b32l) (hS.row (i := 0) rfl)) ?_
    rintro ⟨A_39, c_39, rfl⟩
    refine TNp [0, 2, 3, 4, 5, 6, 7, 8, 9, 10, 11, 12] [1, 2, 3, 4, 5, 6, 7, 8, 9, 10, 11] ?_
    refine TE (fun _ h => h.pick [0, 2, 3, 4, 5, 6, 7, 8, 9, 10, 11, 12]) ?_
    refine MC (v := .tuple #[.agg (arrK .u8 32 (byt d0)), .bool d1, .int .i64 (d2 : Int)]) (fun W hS => (by have h_ := check_c (R := U1) (k := k) (th := th2) (x := y) (by rw [HU1.out]; exact hs_lt4 _) hk hb (by omega) W (GT_ext hG hS.ext) (hS.row (i := 0) rfl).rr; rw [HD.out] at h_; exact h_)) ?_
    refine TNp [0, 2, 3, 4, 5, 6, 7, 8, 9, 10, 11, 12] [0, 1, 2, 3, 4, 5, 6, 7, 8, 9, 10, 11] ?_
    refine TV ?_
    refine TV ?_
    refine TW ?_ (v := .bool d1)
    refine TV ?_
    refine TE (fun _ h => h.pick [0, 2, 3, 4, 5, 6, 7, 8, 9, 10, 11, 12]) ?_
    refine MR 1 ?_ 
    refine TNp [0, 2, 3, 4, 5, 6, 7, 8, 9, 10, 11, 12] [0, 1, 2, 3, 4, 5, 6, 7, 8, 9, 10, 11] ?_
    refine TW ?_ (v := .bool d1)
    refine TV ?_
    refine TZ (fun _ h => h.pick [0, 2, 3, 4, 5, 6, 7, 8, 9, 10, 11, 12]) fun W hS => ?_
    exact ⟨p13_37, A_39, c_39, rfl, hS.pick [1, 0, 4, 2, 5, 6, 7, 8, 9, 10, 11, 3, 12]⟩
  rintro _ W ⟨j9_0, j9_1, j9_2, rfl, hS⟩
  rcases one_or c2 d2 (c0 = d0) (c1 = d1) with h1 | ⟨h1, h2⟩ | ⟨h1, h2, h3, h4⟩ | ⟨h1, h2, h3, h4⟩ | ⟨h1, h2, h3⟩
  ·
   have _f := True.intro
   go_upto_region 10 with fail
   refine RL hS ?_
   clear hS
   refine MV ?_
   refine MW ?_ (v := .bool true) (hv := by intro W; go_simp; (try omega))
   refine MW ?_ (v := .bool true)
   refine MS ?_
   refine MS ?_
   refine MW ?_ (v := .bool true)
   refine MW ?_ (v := .bool true)
   refine MS ?_
   refine MS ?_
   refine MS ?_
   refine MS ?_
   refine MS ?_
   refine MS ?_
   refine MS ?_
   refine MS ?_
   refine MW ?_ (v := .bool true)
   refine MZ fun W hS => ?_
   go_wp2
   exact bodyPost_ret (v := .bool true) (by simp only [results, Tryd.results9]; go_simp) rfl ⟨rfl, hS.ext⟩
  ·
   have _f := True.intro
   go_upto_region 10 with fail
   refine RL hS ?_
   clear hS
   refine MV ?_
   refine MW ?_ (v := .bool false) (hv := by intro W; go_simp; (try omega))
   refine MW ?_ (v := .bool false)
   refine MV ?_
   refine MW ?_ (v := .bool true) (hv := by intro W; go_simp; (try omega))
   refine MW ?_ (v := .bool true)
   refine MW ?_ (v := .bool true)
   refine MS ?_
   refine MS ?_
   refine MS ?_
   refine MS ?_
   refine MS ?_
   refine MS ?_
   refine MS ?_
   refine MS ?_
   refine MW ?_ (v := .bool true)
   refine MZ fun W hS => ?_
   go_wp2
   exact bodyPost_ret (v := .bool true) (by simp only [results, Tryd.results9]; go_simp) rfl ⟨rfl, hS.ext⟩
  ·
   have _f := True.intro
   go_upto_region 10 with fail
   refine RL hS ?_
   clear hS
   refine MV ?_
   refine MW ?_ (v := .bool false) (hv := by intro W; go_simp; (try omega))
   refine MW ?_ (v := .bool false)
   refine MV ?_
   refine MW ?_ (v := .bool false) (hv := by intro W; go_simp; (try omega))
   refine MW ?_ (v := .bool false)
   refine MW ?_ (v := .bool false)
   refine ML 3 ?_
   refine ML 0 ?_
   refine MW ?_ (v := .bool true) (hv := fun _ => run_eqlA ((fun w => (eqV32 c0 d0 hc0 hd0 w).trans (by rw [decide_eq_true h3])) _) (by kernel_rfl) rfl rfl rfl)
   refine MW ?_ (v := .bool true)
   refine MW ?_ (v := .bool c1)
   refine MW ?_ (v := .bool d1)
   refine MW ?_ (v := .bool true) (hv := by intro W; go_simp; (try simp only [h4]); (try simp))
   refine MW ?_ (v := .bool true)
   refine MW ?_ (v := .bool true)
   refine MZ fun W hS => ?_
   go_wp2
   exact bodyPost_ret (v := .bool true) (by simp only [results, Tryd.results9]; go_simp) rfl ⟨rfl, hS.ext⟩
  ·
   have _f := True.intro
   have hcl : Clash (tA k ss 0 (tE th a x)) (tA k tt 0 (tE th2 b y)) := (chk_one ha hx hb hy (by rw [HC.out]; exact h1) (by rw [HD.out]; exact h2)).resolve_right (fun h_ => by rw [HC.out, HD.out] at h_; exact absurd (Prod.mk.inj (Prod.mk.inj h_).2).1 h4)
   go_upto_region 10 with fail
   refine RL hS ?_
   clear hS
   refine MV ?_
   refine MW ?_ (v := .bool false) (hv := by intro W; go_simp; (try omega))
   refine MW ?_ (v := .bool false)
   refine MV ?_
   refine MW ?_ (v := .bool false) (hv := by intro W; go_simp; (try omega))
   refine MW ?_ (v := .bool false)
   refine MW ?_ (v := .bool false)
   refine ML 3 ?_
   refine ML 0 ?_
   refine MW ?_ (v := .bool true) (hv := fun _ => run_eqlA ((fun w => (eqV32 c0 d0 hc0 hd0 w).trans (by rw [decide_eq_true h3])) _) (by kernel_rfl) rfl rfl rfl)
   refine MW ?_ (v := .bool true)
   refine MW ?_ (v := .bool c1)
   refine MW ?_ (v := .bool d1)
   refine MW ?_ (v := .bool false) (hv := by intro W; go_simp; (try simp only [h4]); (try simp))
   refine MW ?_ (v := .bool false)
   refine MW ?_ (v := .bool false)
   refine MZ fun W hS => ?_
   go_upto_region 12 with fail
   refine RTh (.q 0 (.q 1 (.q 3 (.q 4 (.e 2 (.e 5 (.e 6 (.q 7 .z)))))))) hS ?_
   clear hS
   refine TL 4 ?_
   refine TL 5 ?_ (hs := by rw [pf_size]; kernel_rfl)
   refine TL 4 ?_
   refine TL 6 ?_ (hs := by rw [pf_size]; kernel_rfl)
   refine TE (fun _ h => h) ?_
   refine ME (V := fun v => v) (fun W hS => ncall hS (rTexts_c hr (k := k) (by omega) W (GT_ext hG hS.ext) (hS.row (i := 8) rfl).rr) (fun _ => ⟨rfl, rfl⟩)) ?_
   intro rv
   refine TNh (fun W hS => hS.pick [1, 2, 3, 4, 5, 6, 7, 8, 9, 10, 11, 12, 13]) ?_
   refine TE (fun _ h => h) ?_
   refine ME (V := fun v => v) (fun W hS => ncall hS (rTexts_c hr (k := k) (by omega) W (GT_ext hG hS.ext) (hS.row (i := 10) rfl).rr) (fun _ => ⟨rfl, rfl⟩)) ?_
   intro rw
   refine TNh (fun W hS => hS.pick [1, 2, 3, 4, 5, 6, 7, 8, 9, 10, 11, 12, 13, 14]) ?_
   refine TE (fun _ h => h) ?_
   refine MC (v := .bool true) (fun W hS => clash_c hr hcl (tA_text (tE_len ..)) (tA_text (tE_len ..)) (by rw [tA_len]; omega) (by rw [tA_len]; omega) W (GT_ext hG hS.ext) (hS.row (i := 1) rfl).rr (hS.row (i := 0) rfl).rr) ?_
   refine TNh (fun W hS => hS) ?_
   refine TW ?_ (v := .bool true)
   refine TZ (fun _ h => h) fun W hS => ?_
   go_wp2
   exact bodyPost_ret (v := .bool true) (by simp only [results, Tryd.results9]; go_simp) rfl ⟨rfl, hS.ext⟩
  ·
   have _f := True.intro
   have hcl : Clash (tA k ss 0 (tE th a x)) (tA k tt 0 (tE th2 b y)) := (chk_one ha hx hb hy (by rw [HC.out]; exact h1) (by rw [HD.out]; exact h2)).resolve_right (fun h_ => by rw [HC.out, HD.out] at h_; exact absurd (Prod.mk.inj h_).1 h3)
   go_upto_region 10 with fail
   refine RL hS ?_
   clear hS
   refine MV ?_
   refine MW ?_ (v := .bool false) (hv := by intro W; go_simp; (try omega))
   refine MW ?_ (v := .bool false)
   refine MV ?_
   refine MW ?_ (v := .bool false) (hv := by intro W; go_simp; (try omega))
   refine MW ?_ (v := .bool false)
   refine MW ?_ (v := .bool false)
   refine ML 3 ?_
   refine ML 0 ?_
   refine MW ?_ (v := .bool false) (hv := fun _ => run_eqlA ((fun w => (eqV32 c0 d0 hc0 hd0 w).trans (by rw [decide_eq_false h3])) _) (by kernel_rfl) rfl rfl rfl)
   refine MW ?_ (v := .bool false)
   refine MS ?_
   refine MS ?_
   refine MS ?_
   refine MW ?_ (v := .bool false)
   refine MW ?_ (v := .bool false)
   refine MZ fun W hS => ?_
   go_upto_region 12 with fail
   refine RTh (.q 0 (.q 1 (.q 3 (.q 4 (.e 2 (.e 5 (.e 6 (.q 7 .z)))))))) hS ?_
   clear hS
   refine TL 4 ?_
   refine TL 5 ?_ (hs := by rw [pf_size]; kernel_rfl)
   refine TL 4 ?_
   refine TL 6 ?_ (hs := by rw [pf_size]; kernel_rfl)
   refine TE (fun _ h => h) ?_
   refine ME (V := fun v => v) (fun W hS => ncall hS (rTexts_c hr (k := k) (by omega) W (GT_ext hG hS.ext) (hS.row (i := 8) rfl).rr) (fun _ => ⟨rfl, rfl⟩)) ?_
   intro rv
   refine TNh (fun W hS => hS.pick [1, 2, 3, 4, 5, 6, 7, 8, 9, 10, 11, 12, 13]) ?_
   refine TE (fun _ h => h) ?_
   refine ME (V := fun v => v) (fun W hS => ncall hS (rTexts_c hr (k := k) (by omega) W (GT_ext hG hS.ext) (hS.row (i := 10) rfl).rr) (fun _ => ⟨rfl, rfl⟩)) ?_
   intro rw
   refine TNh (fun W hS => hS.pick [1, 2, 3, 4, 5, 6, 7, 8, 9, 10, 11, 12, 13, 14]) ?_
   refine TE (fun _ h => h) ?_
   refine MC (v := .bool true) (fun W hS => clash_c hr hcl (tA_text (tE_len ..)) (tA_text (tE_len ..)) (by rw [tA_len]; omega) (by rw [tA_len]; omega) W (GT_ext hG hS.ext) (hS.row (i := 1) rfl).rr (hS.row (i := 0) rfl).rr) ?_
   refine TNh (fun W hS => hS) ?_
   refine TW ?_ (v := .bool true)
   refine TZ (fun _ h => h) fun W hS => ?_
   go_wp2
   exact bodyPost_ret (v := .bool true) (by simp only [results, Tryd.results9]; go_simp) rfl ⟨rfl, hS.ext⟩
end Go.Proofs.YtndnlbinnhdmbaaDoor
