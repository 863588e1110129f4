/- ProofBytes. Conditions: the tables hold their numbers; keys and values have 256 bits. -/
import Derived.Test.YtndnlbinnhdmbaaDoorJ27
set_option linter.unusedSimpArgs false
set_option linter.unusedVariables false
namespace Go.Proofs.YtndnlbinnhdmbaaDoor
set_option maxHeartbeats 3000000
set_option maxRecDepth 100000
open Go.RowKit
attribute [local irreducible] wpList wpTr wpX
set_option linter.unusedSimpArgs false
theorem takeE_or (ss : List Nat) (th : Bool) (a x : Nat) (s : RSt) : (takeE ss th a x s = (([], false, 0, 0, enV s), s) ∧ enV s ≠ 0) ∨ takeE ss th a x s = ((ss, th, a, x, 0), s) := by
 unfold takeE
 split
 ·
  rename_i h; exact .inl ⟨rfl, h.1⟩
 ·
  exact .inr rfl
theorem takeM_or (s : RSt) : (∃ e s', takeM s = (([], false, 0, 0, e), s') ∧ e ≠ 0) ∨ ∃ ss th a x s', takeM s = ((ss, th, a, x, 0), s') := by
 unfold takeM
 split
 ·
  exact .inl ⟨5, _, rfl, by decide⟩
 ·
  unfold takeB
  split
  ·
   rcases takeE_or (sumsV (nuV s).toNat (tkS 8 s)) true (suV (flS (sumsS (nuV s).toNat (tkS 8 s)))) (suV (tkS 32 (flS (sumsS (nuV s).toNat (tkS 8 s))))) (tkS 32 (tkS 32 (flS (sumsS (nuV s).toNat (tkS 8 s))))) with ⟨h1, h2⟩ | h1
   ·
    exact .inl ⟨_, _, h1, h2⟩
   ·
    exact .inr ⟨_, _, _, _, _, h1⟩
  ·
   rcases takeE_or (sumsV (nuV s).toNat (tkS 8 s)) false 0 0 (flS (sumsS (nuV s).toNat (tkS 8 s))) with ⟨h1, h2⟩ | h1
   ·
    exact .inl ⟨_, _, h1, h2⟩
   ·
    exact .inr ⟨_, _, _, _, _, h1⟩
/-- of any bytes -/
theorem take_or (l : List UInt8) : (∃ e s', takeM (l, 0) = (([], false, 0, 0, e), s') ∧ e ≠ 0) ∨ ∃ ss th a x s', takeM (l, 0) = ((ss, th, a, x, 0), s') ∧ l.take (pB ss th a x).length = pB ss th a x ∧ (pB ss th a x).length ≤ l.length ∧ ss.length ≤ 256 := by
 rcases takeM_or (l, 0) with h | ⟨ss, th, a, x, s', h⟩
 ·
  exact .inl h
 ·
  refine .inr ⟨ss, th, a, x, s', h, ?_⟩
  obtain ⟨⟨r, hr⟩, hn⟩ := take_any (congrArg Prod.fst h)
  refine ⟨?_, ?_, hn⟩
  ·
   rw [hr, List.take_append_of_le_length (Nat.le_refl _), List.take_of_length_le (Nat.le_refl _)]
  ·
   rw [hr, List.length_append]; omega
theorem cut_two {bs : List UInt8} {m n : Nat} {t : List UInt8} (h : (bs.take (min bs.length m)).take n = t) (hn : n ≤ (bs.take (min bs.length m)).length) : bs.take n = t ∧ n ≤ bs.length := by
 rw [List.length_take] at hn
 rw [List.take_take] at h
 exact ⟨by rw [← h]; congr 1; omega, by omega⟩
attribute [local irreducible] hs4 sE sL sN lb be8 takeM pB

theorem proofBytes_L {q : Prop} {ps ss : List Nat} {sv : Value} {th : Bool} {a x : Nat} {u : Value} {bs : List UInt8} (hE6 : ps.take 260 = ss) (hbd : ∀ y ∈ ss, y < 2 ^ 256) (ha : a < 2 ^ 256) (hx : x < 2 ^ 256) (w : World) (hG : GT q w) (hp : RR 32 w sv (ps.map b32l)) (hb0 : Sl w u bs) :
  Calls Tryd.prog 13 #[.agg (pfc sv th a x), u] w fun e w' => Ret (.bool true) w w' e := by
 have hsl : ss.length ≤ 260 := by rw [← hE6, List.length_take]; omega
 have hpl_ : (pB ss th a x).length ≤ 100000 := by rw [pB_len]; split <;> omega
 obtain ⟨a9, hA⟩ : ∃ z, (if th = true then a else 0) = z := ⟨_, rfl⟩
 obtain ⟨x9, hX⟩ : ∃ z, (if th = true then x else 0) = z := ⟨_, rfl⟩
 have ha9 : a9 < 2 ^ 256 := by rw [← hA]; split; exact ha; exact Nat.two_pow_pos _
 have hx9 : x9 < 2 ^ 256 := by rw [← hX]; split; exact hx; exact Nat.two_pow_pos _
 have HA := Lib.hid hA
 have HX := Lib.hid hX
 clear hA hX
 obtain ⟨Ap, cp, rfl, hlcp, HRp⟩ := RR.opf hp
 have hS := SH.nil [] w
 obtain ⟨u48, hr48, hu48, _⟩ := run_head (n := min bs.length 100) hb0 (by omega)
 obtain ⟨u89, hr89, hu89, _⟩ := run_head (n := min bs.length 1000) hb0 (by omega)
 have hm1_ : (List.take (min bs.length 100) bs).length ≤ 100 := by rw [List.length_take]; omega
 have hm2_ : (List.take (min bs.length 1000) bs).length ≤ 1000 := by rw [List.length_take]; omega
 go_enter Tryd.func13, Tryd.ntmps13
 go_upto_region 0 with fail
 refine RL hS ?_
 clear hS
 refine MN (z := pfc (.slice Ap ps.length cp) th a x) (t := 66) ?_
 intro p2_1
 refine MW ?_ (v := .bool false)
 refine MZ fun W hS => ?_
 go_upto_region 1 with fail
 refine RL hS ?_
 clear hS
 refine ML 0 ?_ (hs := by rw [pf_size]; kernel_rfl)
 refine ME (V := fun v => .agg (pfc v th a x)) (fun W hS => pcall (ss := ss) hS ((by rw [← hE6]; exact tame_c W (hp.ext hS.ext))) rfl) ?_
 intro tm_3
 refine MFact (fun W hS => Row.form (ls := ss) (f := b32l) (hS.row (i := 0) rfl)) ?_
 rintro ⟨A_4, c_4, rfl⟩
 refine MR 1 ?_ (hz := by rw [pf_size]; kernel_rfl) (hs := by first | rw [pf_size, pf_size] | rw [pf_size] | kernel_rfl) (h1 := (pf_one rfl))
 refine MZ fun W hS => ?_
 go_upto_region 2 with fail
 refine RL hS ?_
 clear hS
 refine MW ?_ (v := .agg #[.slice none 0 0, .bool false]) (hv := by intro W; first | rfl | kernel_rfl)
 refine MN (z := #[.slice none 0 0, .bool false]) (t := 94) ?_
 intro p18_5
 refine MT (fun W hS => hS.onil rfl) ?_
 refine MV ?_
 refine MZ fun W hS => ?_
 go_upto_region 3 with fail
 refine RL hS ?_
 clear hS
 refine MV ?_
 refine ML 3 ?_ (hs := by rw [pf_size]; kernel_rfl)
 refine ME (V := fun v => .agg (pfc v th a x)) (fun W hS => pcall (ss := ss) hS (pto_c (by omega) W (hS.row (i := 2) rfl).rr) rfl) ?_
 intro to_6
 refine MFact (fun W hS => Row.form (ls := ss) (f := b32l) (hS.row (i := 0) rfl)) ?_
 rintro ⟨A_7, c_7, rfl⟩
 refine MT (fun W hS => hS.r2p (i := 0) rfl (by decide)) ?_
 refine ME (V := fun _ => .tuple #[]) (fun W hS => callX [2, 1, 0] [3, 4] hS (fun hS => (pput_c (ss := ss) (sv := (.slice A_7 ss.length c_7)) (th := th) (a := a) (x := x) p18_5 (.slice none 0 0) [] false (by omega) (by decide) W hS).mono fun _ _ ⟨h1_, v_, h2_⟩ => ⟨v_, h1_, h2_⟩) (fun _ => ⟨.inr ⟨rfl, rfl⟩, .inr ⟨rfl, rfl⟩, .inl (by simp), trivial⟩)) ?_
 intro w8
 refine MZ fun W hS => ?_
 go_upto_region 4 with fail
 refine RL hS ?_
 clear hS
 refine MV ?_
 refine ME (V := fun u => .tuple #[u, .int .i64 0]) (fun W hS => ncall hS (wbytes_n (l := (pB ss th a x)) hS (i := 0) (j := 1) rfl rfl (by omega)) (fun _ => ⟨rfl, rfl⟩)) ?_
 intro so
 refine MV ?_
 refine MV ?_
 refine MW ?_ (v := .int .i64 0)
 refine MV ?_
 refine MW ?_ (v := .int .i64 0)
 refine MZ fun W hS => ?_
 go_upto_region 5 with fail
 refine RTh (.e 0 (.q 1 (.q 2 (.q 3 (.q 4 (.q 5 (.q 6 (.q 7 (.q 8 (.q 9 (.e 10 (.q 11 (.q 12 .z))))))))))))) hS ?_
 clear hS
 refine TE (fun _ h => h) ?_
 refine MC (v := .bool true) (fun W hS => proofs_c W (GT_ext hG hS.ext)) ?_
 refine TNh (fun W hS => hS) ?_
 refine TW ?_ (v := .bool false)
 refine TW ?_ (v := .bool false)
 refine TW ?_ (v := .int .i64 0)
 refine TW ?_ (v := .bool false)
 refine TW ?_ (v := .bool false)
 refine TW ?_ (v := .bool false)
 refine TV ?_
 refine TF (v := str (pB ss th a x)) rfl (fun W hS => run_cvs (hS.osl (i := 0) rfl) rfl rfl) ?_
 refine TL 5 ?_ (hs := by rw [pf_size]; kernel_rfl)
 refine TE (fun _ h => h) ?_
 refine MC (v := str (pB ss th a x)) (fun W hS => rpbytes_c (by omega) W (hS.row (i := 4) rfl).rr) ?_
 refine TNh (fun W hS => hS) ?_
 refine TW ?_ (v := .bool false) (hv := fun _ => run_strneB (l := (pB ss th a x)) (m := (pB ss th a x)) (b := true) (decide_eq_true rfl) rfl rfl rfl)
 refine TW ?_ (v := .bool false)
 refine TZ (fun _ h => h) fun W hS => ?_
 go_upto_region 7 with fail
 refine RTh (.q 1 (.q 3 (.q 4 (.q 5 (.q 6 (.q 7 (.e 0 (.e 2 (.e 8 (.e 9 (.q 10 .z))))))))))) hS ?_
 clear hS
 refine TV ?_
 refine TV ?_
 refine TV ?_
 refine TF (v := .int .i64 (bs.length : Int)) rfl (fun W hS => run_lenA (sl_e hb0 hS.ext) rfl rfl) ?_
 refine TW ?_ (v := .int .i64 ((min bs.length 100 : Nat) : Int))
 refine TW ?_ (v := u48) (hv := fun _ => run_headV hr48 rfl rfl rfl)
 refine TE (fun _ h => h) ?_
 refine MO (m := []) (n := 0) (z := #[]) ?_
 intro v41_9
 refine TNp [1, 2, 3, 4, 5, 6] [0, 1, 2, 3, 4, 5] ?_
 refine TE (fun _ h => h.pick [1, 2, 3, 4, 5, 6]) ?_
 refine MA 0 (xs := []) (ys := (pB ss th a x)) (fun W hS => (hS.osl (i := 1) rfl)) (by first | omega | (simp only [List.length_append, List.length_map, List.length_take, List.length_drop, List.length_reverse, List.length_cons, List.length_nil, lb_length, dbl]; omega)) ?_
 intro v43_10
 refine TNp [1, 2, 3, 4, 5, 6] [0, 1, 2, 3, 4, 5] ?_
 refine TE (fun _ h => h.pick [1, 2, 3, 4, 5, 6]) ?_
 refine MA 0 (xs := ([] ++ (pB ss th a x))) (ys := (List.take (min bs.length 100) bs)) (fun W hS => (sl_e hu48 hS.ext)) (by first | omega | (simp only [List.length_append, List.length_map, List.length_take, List.length_drop, List.length_reverse, List.length_cons, List.length_nil, lb_length, dbl]; omega)) ?_
 intro v49_11
 refine TNp [0, 1, 2, 3, 4, 5, 6] [1, 2, 3, 4, 5, 6] ?_
 refine TE (fun _ h => h) ?_
 refine ME (V := fun x : Nat × Value => .pointer (some ⟨x.1, 0, none⟩)) (fun W hS => ncallL hS (read_n (l := ((pB ss th a x)) ++ (List.take (min bs.length 100) bs)) (hS.osl (i := 0) rfl) (by first | omega | (simp only [List.length_append, List.length_map, List.length_take, List.length_drop, List.length_reverse, List.length_cons, List.length_nil, lb_length, dbl]; omega))) (fun _ => rfl)) ?_
 rintro ⟨p_rd50, v_rd50⟩
 dsimp only
 refine TNp [0, 1, 2, 3, 4, 5, 6, 7, 8] [2, 3, 4, 5, 6, 7, 8] ?_
 refine TV ?_
 refine TZ (fun _ h => h) fun W hS => ?_
 by_cases hb : ss.length ≤ 256
 ·
  have _f := hb
  go_upto_region 8 with fail
  refine RL hS ?_
  clear hS
  refine MV ?_
  refine ME (V := fun z_ : { y_ : Value × Value // Sub y_.2 (List.take (min bs.length 100) bs) (sb v_rd50 (((pB ss th a x)) ++ (List.take (min bs.length 100) bs))) } => .tuple #[.agg (pfc z_.1.1 th a9 x9), .int .i64 0]) (fun W hS => tkcall (r := ((ss, th, a9, x9, 0), ((List.take (min bs.length 100) bs), 0))) (hS.pick [0, 1, 2, 3, 4, 5, 6, 7, 8]) (j := 0) rfl rfl rfl (fun hr => by have h_ := ptake_c p_rd50 v_rd50 (((pB ss th a x)) ++ (List.take (min bs.length 100) bs), 0) (show List.length (((pB ss th a x)) ++ (List.take (min bs.length 100) bs)) < _ by first | omega | (simp only [List.length_append, List.length_map, List.length_take, List.length_drop, List.length_reverse, List.length_cons, List.length_nil, lb_length, dbl]; omega)) W hr; rw [(show takeM (((pB ss th a x)) ++ (List.take (min bs.length 100) bs), 0) = ((ss, th, a9, x9, 0), (List.take (min bs.length 100) bs, 0)) from by have h2_ := take_back (a := a) (x := x) (th := th) hb hbd ha hx (List.take (min bs.length 100) bs); rw [HA.out, HX.out] at h2_; exact h2_)] at h_; exact h_)) ?_
  rintro ⟨⟨u_12, v_12⟩, hs_12⟩
  dsimp only
  refine MFact (fun W hS => Row.form (ls := ss) (f := b32l) (hS.row (i := 2) rfl)) ?_
  rintro ⟨A_13, c_13, rfl⟩
  refine MV ?_
  refine MV ?_
  refine MW ?_ (v := .int .i64 0)
  refine MN (z := pfc (.slice none 0 0) false 0 0) (t := 69) ?_
  intro p9_14
  refine MR 0 ?_ (hz := by rw [pf_size]; kernel_rfl) (hs := by first | rw [pf_size, pf_size] | rw [pf_size] | kernel_rfl) (h1 := (pf_one rfl))
  refine MW ?_ (v := .int .i64 0)
  refine MZ fun W hS => ?_
  go_upto_region 9 with fail
  refine RL hS ?_
  clear hS
  refine MV ?_
  refine MG 11 ?_ (v := (.slice A_4 ss.length c_4)) (hj := pf_s)
  refine MF (v := .int .i64 ((List.map b32l ss).length : Int)) (fun W hS => run_lenR (hS.row (i := 10) rfl) rfl rfl Tryd.underlying58) ?_
  refine MW ?_ (v := .bool false) (hv := by intro W; go_simp; (try omega))
  refine MZ fun W hS => ?_
  go_upto_region 11 with fail
  refine RTh (.q 0 (.q 1 (.q 2 (.q 3 (.q 5 (.e 4 (.e 6 (.q 7 (.q 8 (.q 9 (.q 10 (.q 12 (.q 13 (.q 14 (.e 11 (.q 15 (.q 16 .z))))))))))))))))) hS ?_
  clear hS
  refine TW ?_ (v := .int .i64 0)
  refine TW ?_ (v := .bool false)
  refine TW ?_ (v := .bool false)
  refine TL 0 ?_ (hs := by rw [pf_size]; kernel_rfl)
  refine TL 11 ?_ (hs := by rw [pf_size]; kernel_rfl)
  refine TE (fun _ h => h) ?_
  refine MC (v := .agg (pfc (.slice A_13 ss.length c_13) th a9 x9)) (fun W hS => pfrom_c th a9 x9 W) ?_
  refine TNh (fun W hS => hS) ?_
  refine TE (fun _ h => h) ?_
  refine MC (v := .bool true) (fun W hS => psame_c (th := th) (a := a9) (x := x9) (b := a) (z := x) (by omega) (fun h_ => by rw [← HA.out, ← HX.out, h_]; exact ⟨rfl, rfl⟩) ha9 hx9 W (hS.row (i := 3) rfl).rr (hS.row (i := 10) rfl).rr) ?_
  refine TNh (fun W hS => hS) ?_
  refine TW ?_ (v := .bool false)
  refine TW ?_ (v := .bool false)
  refine TW ?_ (v := .bool false)
  refine TV ?_
  refine TV ?_
  refine TF (v := .int .i64 (bs.length : Int)) rfl (fun W hS => run_lenA (sl_e hb0 hS.ext) rfl rfl) ?_
  refine TW ?_ (v := .int .i64 ((min bs.length 100 : Nat) : Int))
  refine TE (fun _ h => h) ?_
  refine MC (v := .int .i64 ((min bs.length 100 : Nat) : Int)) (fun W hS => (by have h_ := rleft_c p_rd50 v_12 _ _ W (rdr_at hS (i := 2) rfl (j := 1) rfl); rw [show (List.take (min bs.length 100) bs).length = min bs.length 100 from by rw [List.length_take]; omega] at h_; exact h_)) ?_
  refine TNh (fun W hS => hS) ?_
  refine TW ?_ (v := .bool false) (hv := by intro W; first | (go_simp; done) | (go_simp; with_reducible rfl) | (go_simp; omega))
  refine TW ?_ (v := .bool false)
  refine TZ (fun _ h => h) fun W hS => ?_
  go_upto_region 13 with fail
  refine RL hS ?_
  clear hS
  refine MV ?_
  refine MV ?_
  refine MF (v := .int .i64 (bs.length : Int)) (fun W hS => run_lenA (sl_e hb0 hS.ext) rfl rfl) ?_
  refine MW ?_ (v := .int .i64 ((min bs.length 1000 : Nat) : Int))
  refine MW ?_ (v := u89) (hv := fun _ => run_headV hr89 rfl rfl rfl)
  refine ME (V := fun x : Nat × Value => .pointer (some ⟨x.1, 0, none⟩)) (fun W hS => ncallL hS (read_n (l := List.take (min bs.length 1000) bs) (sl_e hu89 hS.ext) (by first | omega | (simp only [List.length_append, List.length_map, List.length_take, List.length_drop, List.length_reverse, List.length_cons, List.length_nil, lb_length, dbl]; omega))) (fun _ => rfl)) ?_
  rintro ⟨p_rd90, v_rd90⟩
  dsimp only
  refine MV ?_
  refine MZ fun W hS => ?_
  rcases take_or (List.take (min bs.length 1000) bs) with ⟨e0, s2, hq, he⟩ | ⟨ss2, th2, a2, x2, s2, hq, hy1, hy2, hn2⟩
  ·
   have _f := True.intro
   go_upto_region 14 with fail
   refine RL hS ?_
   clear hS
   refine MV ?_
   refine ME (V := fun z_ : { y_ : Value × Value // Sub y_.2 s2.1 (sb v_rd90 (List.take (min bs.length 1000) bs)) } => .tuple #[.agg (pfc z_.1.1 false 0 0), .int .i64 e0]) (fun W hS => tkcall (r := ((([] : List Nat), false, 0, 0, e0), (s2.1, s2.2))) (hS.pick [0, 1, 2, 3, 4, 5, 6, 7, 8, 9, 10, 11, 12, 13]) (j := 0) rfl rfl rfl (fun hr => by have h_ := ptake_c p_rd90 v_rd90 (List.take (min bs.length 1000) bs, 0) (show List.length (List.take (min bs.length 1000) bs) < _ by first | omega | (simp only [List.length_append, List.length_map, List.length_take, List.length_drop, List.length_reverse, List.length_cons, List.length_nil, lb_length, dbl]; omega)) W hr; rw [hq] at h_; exact h_)) ?_
   rintro ⟨⟨u_15, v_15⟩, hs_15⟩
   dsimp only
   refine MFact (fun W hS => Row.form (ls := ([] : List Nat)) (f := b32l) (hS.row (i := 2) rfl)) ?_
   rintro ⟨A_16, c_16, rfl⟩
   refine MV ?_
   refine MV ?_
   refine MV ?_
   refine MN (z := pfc (.slice none 0 0) false 0 0) (t := 69) ?_
   intro p12_17
   refine MR 0 ?_ (hz := by rw [pf_size]; kernel_rfl) (hs := by first | rw [pf_size, pf_size] | rw [pf_size] | kernel_rfl) (h1 := (pf_one rfl))
   refine MV ?_
   refine MZ fun W hS => ?_
   go_upto_region 15 with fail
   refine RL hS ?_
   clear hS
   refine MV ?_
   refine MW ?_ (v := .bool true) (hv := by intro W; go_simp; first | done | exact he | (simp [he]))
   refine MZ fun W hS => ?_
   go_upto_region 16 with fail
   refine RL hS ?_
   clear hS
   refine MV ?_
   refine MG 0 ?_ (v := (.slice A_16 ([] : List Nat).length c_16)) (hj := pf_s)
   refine MF (v := .int .i64 ((List.map b32l ([] : List Nat)).length : Int)) (fun W hS => run_lenR (hS.row (i := 3) rfl) rfl rfl Tryd.underlying58) ?_
   refine MW ?_ (v := .bool true) (hv := by intro W; first | (go_simp; done) | (go_simp; with_reducible rfl) | (go_simp; omega))
   refine MW ?_ (v := .bool true)
   refine MV ?_
   refine MG 0 ?_ (v := .bool false) (hj := pf_t)
   refine MW ?_ (v := .bool true)
   refine MW ?_ (v := .bool true)
   refine MW ?_ (v := .bool true)
   refine MZ fun W hS => ?_
   go_wp2
   exact bodyPost_ret (v := .bool true) (by simp only [results, Tryd.results13]; go_simp) rfl ⟨rfl, hS.ext⟩
  ·
   have _f := True.intro
   go_upto_region 14 with fail
   refine RL hS ?_
   clear hS
   refine MV ?_
   refine ME (V := fun z_ : { y_ : Value × Value // Sub y_.2 s2.1 (sb v_rd90 (List.take (min bs.length 1000) bs)) } => .tuple #[.agg (pfc z_.1.1 th2 a2 x2), .int .i64 0]) (fun W hS => tkcall (r := ((ss2, th2, a2, x2, 0), (s2.1, s2.2))) (hS.pick [0, 1, 2, 3, 4, 5, 6, 7, 8, 9, 10, 11, 12, 13]) (j := 0) rfl rfl rfl (fun hr => by have h_ := ptake_c p_rd90 v_rd90 (List.take (min bs.length 1000) bs, 0) (show List.length (List.take (min bs.length 1000) bs) < _ by first | omega | (simp only [List.length_append, List.length_map, List.length_take, List.length_drop, List.length_reverse, List.length_cons, List.length_nil, lb_length, dbl]; omega)) W hr; rw [hq] at h_; exact h_)) ?_
   rintro ⟨⟨u_18, v_18⟩, hs_18⟩
   dsimp only
   refine MFact (fun W hS => Row.form (ls := ss2) (f := b32l) (hS.row (i := 2) rfl)) ?_
   rintro ⟨A_19, c_19, rfl⟩
   refine MV ?_
   refine MV ?_
   refine MW ?_ (v := .int .i64 0)
   refine MN (z := pfc (.slice none 0 0) false 0 0) (t := 69) ?_
   intro p12_20
   refine MR 0 ?_ (hz := by rw [pf_size]; kernel_rfl) (hs := by first | rw [pf_size, pf_size] | rw [pf_size] | kernel_rfl) (h1 := (pf_one rfl))
   refine MW ?_ (v := .int .i64 0)
   refine MZ fun W hS => ?_
   go_upto_region 15 with fail
   refine RL hS ?_
   clear hS
   refine MW ?_ (v := .int .i64 0)
   refine MW ?_ (v := .bool false) (hv := by intro W; first | (go_simp; done) | (go_simp; with_reducible rfl) | (go_simp; omega))
   refine MZ fun W hS => ?_
   go_upto_region 17 with fail
   refine RL hS ?_
   clear hS
   refine ML 0 ?_ (hs := by rw [pf_size]; kernel_rfl)
   refine MC (v := .agg (pfc (.slice A_19 ss2.length c_19) th2 a2 x2)) (fun W hS => pfrom_c th2 a2 x2 W) ?_
   refine MC (v := str (pB ss2 th2 a2 x2)) (fun W hS => rpbytes_c (by omega) W (hS.row (i := 3) rfl).rr) ?_
   refine MV ?_
   refine MZ fun W hS => ?_
   ·
    have _f := True.intro
    have hyb := cut_two hy1 hy2
    obtain ⟨u119, hr119, hu119, _⟩ := run_head hb0 hyb.2
    go_upto_region 18 with fail
    refine RL hS ?_
    clear hS
    refine MV ?_
    refine MW ?_ (v := .int .i64 ((pB ss2 th2 a2 x2).length : Int)) (hv := fun _ => run_slen (l := (pB ss2 th2 a2 x2)) rfl rfl)
    refine MV ?_
    refine MF (v := .int .i64 (bs.length : Int)) (fun W hS => run_lenA (sl_e hb0 hS.ext) rfl rfl) ?_
    refine MW ?_ (v := .bool true) (hv := by intro W; have h_ := hyb.2; go_simp; (try omega))
    refine MW ?_ (v := .bool true)
    refine MV ?_
    refine MV ?_
    refine MW ?_ (v := .int .i64 ((pB ss2 th2 a2 x2).length : Int)) (hv := fun _ => run_slen (l := (pB ss2 th2 a2 x2)) rfl rfl)
    refine MW ?_ (v := u119) (hv := fun _ => run_headV hr119 rfl rfl rfl)
    refine MF (v := str (List.take (pB ss2 th2 a2 x2).length bs)) (fun W hS => run_cvs (sl_e hu119 hS.ext) rfl rfl) ?_
    refine MV ?_
    refine MW ?_ (v := .bool true) (hv := fun _ => run_streqb (l := (List.take (pB ss2 th2 a2 x2).length bs)) (m := (pB ss2 th2 a2 x2)) (b := true) (decide_eq_true hyb.1) rfl rfl rfl)
    refine MW ?_ (v := .bool true)
    refine MW ?_ (v := .bool true)
    refine MZ fun W hS => ?_
    go_wp2
    exact bodyPost_ret (v := .bool true) (by simp only [results, Tryd.results13]; go_simp) rfl ⟨rfl, hS.ext⟩
 ·
  have _f := hb
  go_upto_region 8 with fail
  refine RL hS ?_
  clear hS
  refine MV ?_
  obtain ⟨s2, hs2⟩ : ∃ s2 : RSt, takeM (((pB ss th a x)) ++ (List.take (min bs.length 100) bs), 0) = ((([] : List Nat), false, 0, 0, 5), s2) := ⟨_, Prod.ext (take_big (by omega) (by omega) _) rfl⟩
  obtain ⟨l2, e2⟩ := s2
  refine ME (V := fun z_ : { y_ : Value × Value // Sub y_.2 l2 (sb v_rd50 (((pB ss th a x)) ++ (List.take (min bs.length 100) bs))) } => .tuple #[.agg (pfc z_.1.1 false 0 0), .int .i64 5]) (fun W hS => tkcall (r := ((([] : List Nat), false, 0, 0, 5), (l2, e2))) (hS.pick [0, 1, 2, 3, 4, 5, 6, 7, 8]) (j := 0) rfl rfl rfl (fun hr => by have h_ := ptake_c p_rd50 v_rd50 (((pB ss th a x)) ++ (List.take (min bs.length 100) bs), 0) (show List.length (((pB ss th a x)) ++ (List.take (min bs.length 100) bs)) < _ by first | omega | (simp only [List.length_append, List.length_map, List.length_take, List.length_drop, List.length_reverse, List.length_cons, List.length_nil, lb_length, dbl]; omega)) W hr; rw [hs2] at h_; exact h_)) ?_
  rintro ⟨⟨u_21, v_21⟩, hs_21⟩
  dsimp only
  refine MFact (fun W hS => Row.form (ls := ([] : List Nat)) (f := b32l) (hS.row (i := 2) rfl)) ?_
  rintro ⟨A_22, c_22, rfl⟩
  refine MV ?_
  refine MV ?_
  refine MW ?_ (v := .int .i64 5)
  refine MN (z := pfc (.slice none 0 0) false 0 0) (t := 69) ?_
  intro p9_23
  refine MR 0 ?_ (hz := by rw [pf_size]; kernel_rfl) (hs := by first | rw [pf_size, pf_size] | rw [pf_size] | kernel_rfl) (h1 := (pf_one rfl))
  refine MW ?_ (v := .int .i64 5)
  refine MZ fun W hS => ?_
  go_upto_region 9 with fail
  refine RL hS ?_
  clear hS
  refine MV ?_
  refine MG 11 ?_ (v := (.slice A_4 ss.length c_4)) (hj := pf_s)
  refine MF (v := .int .i64 ((List.map b32l ss).length : Int)) (fun W hS => run_lenR (hS.row (i := 10) rfl) rfl rfl Tryd.underlying58) ?_
  refine MW ?_ (v := .bool true) (hv := by intro W; go_simp; (try omega))
  refine MZ fun W hS => ?_
  go_upto_region 10 with fail
  refine RL hS ?_
  clear hS
  refine MW ?_ (v := .int .i64 5)
  refine MW ?_ (v := .bool true)
  refine MW ?_ (v := .bool true)
  refine MV ?_
  refine MG 0 ?_ (v := (.slice A_22 ([] : List Nat).length c_22)) (hj := pf_s)
  refine MF (v := .int .i64 ((List.map b32l ([] : List Nat)).length : Int)) (fun W hS => run_lenR (hS.row (i := 3) rfl) rfl rfl Tryd.underlying58) ?_
  refine MW ?_ (v := .bool true) (hv := by intro W; first | (go_simp; done) | (go_simp; with_reducible rfl) | (go_simp; omega))
  refine MW ?_ (v := .bool true)
  refine MW ?_ (v := .bool true)
  refine MZ fun W hS => ?_
  go_wp2
  exact bodyPost_ret (v := .bool true) (by simp only [results, Tryd.results13]; go_simp) rfl ⟨rfl, hS.ext⟩
end Go.Proofs.YtndnlbinnhdmbaaDoor
