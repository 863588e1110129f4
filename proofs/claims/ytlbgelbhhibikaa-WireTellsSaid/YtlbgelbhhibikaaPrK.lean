/- Proofs as bytes: Take, whatever the bytes are. Conditions: memory holds what is written. -/
import Derived.Test.YtlbgelbhhibikaaPx
import Derived.Test.YtlbgelbhhibikaaJ13
set_option linter.unusedSimpArgs false
set_option linter.unusedVariables false
namespace Go.Proofs.Ytlbgelbhhibikaa
set_option maxHeartbeats 3000000
set_option maxRecDepth 100000
open Go.RowKit
attribute [local irreducible] wpList wpTr wpX
set_option linter.unusedSimpArgs false
/-- so many sums, and what is left behind them -/
def sumsS : Nat → RSt → RSt
 | 0, s => s
 | n + 1, s => tkS 32 (sumsS n s)
def sumsV : Nat → RSt → List Nat
 | 0, _ => []
 | n + 1, s => sumsV n s ++ [suV (sumsS n s)]
theorem sumsV_len (n : Nat) (s : RSt) : (sumsV n s).length = n := by
 induction n with
 | zero => rfl
 | succ n ih => show (sumsV n s ++ [_]).length = _; rw [List.length_append, ih]; rfl
theorem sumsS_len (n : Nat) (s : RSt) : (sumsS n s).1.length ≤ s.1.length := by
 induction n with
 | zero => exact Nat.le_refl _
 | succ n ih => exact Nat.le_trans (tkS_len 32 _) ih
/-- what Take tells, and what it leaves -/
def takeE (ss : List Nat) (th : Bool) (a x : Nat) (s : RSt) : (List Nat × Bool × Nat × Nat × Int) × RSt := if enV s ≠ 0 ∧ enV s ≠ 4 then (([], false, 0, 0, enV s), s) else ((ss, th, a, x, 0), s)
def takeB (ss : List Nat) (s : RSt) : (List Nat × Bool × Nat × Nat × Int) × RSt := if flV s = true then takeE ss true (suV (flS s)) (suV (tkS 32 (flS s))) (tkS 32 (tkS 32 (flS s))) else takeE ss false 0 0 (flS s)
def takeM (s : RSt) : (List Nat × Bool × Nat × Nat × Int) × RSt := if nuV s < 0 ∨ 256 < nuV s then (([], false, 0, 0, 5), tkS 8 s) else takeB (sumsV (nuV s).toNat (tkS 8 s)) (sumsS (nuV s).toNat (tkS 8 s))
theorem nu_or (N : Int) : N < 0 ∨ 256 < N ∨ ∃ n : Nat, N = n ∧ n ≤ 256 := by
 by_cases h : N < 0
 ·
  exact .inl h
 ·
  by_cases h2 : 256 < N
  ·
   exact .inr (.inl h2)
  ·
   exact .inr (.inr ⟨N.toNat, by omega, by omega⟩)
theorem en_or (E : Int) : E = 0 ∨ E = 4 ∨ (E ≠ 0 ∧ E ≠ 4) := by omega
attribute [local irreducible] lb be8 tkS suV nuV flV flS enV

theorem sums_map (i : Nat) (s : RSt) : List.map b32l (sumsV (i + 1) s) = List.map b32l (sumsV i s) ++ [b32l (suV (sumsS i s))] := by show List.map b32l (sumsV i s ++ [_]) = _; rw [List.map_append]; rfl
/-- Take's answer, by what it tells -/
def TKR (p : Nat) (v : Value) (l : List UInt8) (r : (List Nat × Bool × Nat × Nat × Int) × RSt) (w w' : World) (e : Ending) : Prop :=
 ∃ u, e = .returned (.tuple #[.agg (pfc u r.1.2.1 r.1.2.2.1 r.1.2.2.2.1), .int .i64 r.1.2.2.2.2]) ∧ ∃ v', SH [p] w w' [.b p #[v', .int .i64 r.2.2] 141, .s v' r.2.1, .r 27 32 u (r.1.1.map b32l)] ∧ Sub v' r.2.1 (sb v l)
theorem ptake_c (p : Nat) (v : Value) (s : RSt) (hlen : s.1.length < 140737488000000) (w : World) (hrd : Rdr w p v s.1 s.2) :
  Calls Try.prog 74 #[.pointer (some ⟨p, 0, none⟩)] w fun e w' => TKR p v s.1 (takeM s) w w' e := by
 obtain ⟨N, hN⟩ : ∃ N, nuV s = N := ⟨_, rfl⟩
 have HN := Lib.hid hN
 clear hN
 have hS := rdr_sh hrd
 go_enter Try.func74, Try.ntmps74
 go_upto_region 0 with fail
 refine RL hS ?_
 clear hS
 refine MN (z := pfc (.slice none 0 0) false 0 0) (t := 62) ?_
 intro p2_1
 refine MW ?_ (v := .int .i64 0)
 refine MZ fun W hS => ?_
 go_upto_region 1 with fail
 refine RL hS ?_
 clear hS
 refine MN (z := pfc (.slice none 0 0) false 0 0) (t := 62) ?_
 intro p4_2
 refine MZ fun W hS => ?_
 go_upto_region 2 with fail
 refine RL hS ?_
 clear hS
 refine MV ?_
 refine ME (V := fun _ => .int .i64 N) (fun W hS => rdcall (i := 2) (j := 3) hS rfl rfl (fun hr => (by have h_ := rnum_t (s := s) hr hlen; rw [HN.out] at h_; exact h_))) ?_
 rintro ⟨w3, hs_w3⟩
 dsimp only
 refine MD 4 ?_
 refine MV ?_
 refine MZ fun W hS => ?_
 rcases nu_or N with h1 | h1 | ⟨n, rfl, hn⟩
 ·
  have _f := True.intro
  go_upto_region 3 with fail
  refine RL hS ?_
  clear hS
  refine MV ?_
  refine MW ?_ (v := .bool true) (hv := by intro W; go_simp; (try omega))
  refine MW ?_ (v := .bool true)
  refine MS ?_
  refine MS ?_
  refine MW ?_ (v := .bool true)
  refine MZ fun W hS => ?_
  go_upto_region 4 with fail
  refine RL hS ?_
  clear hS
  refine MW ?_ (v := .agg (pfc (.slice none 0 0) false 0 0)) (hv := by intro W; first | rfl | kernel_rfl)
  refine MR 2 ?_ (hz := by rw [pf_size]; kernel_rfl) (hs := by first | rw [pf_size, pf_size] | rw [pf_size] | kernel_rfl) (h1 := (pf_one rfl))
  refine MW ?_ (v := .int .i64 5)
  refine MZ fun W hS => ?_
  have hS := hS.rnil 27 32 rfl
  go_wp2
  exact bodyPost_ret (res_c2 rfl rfl rfl (hS.blk (i := 3) rfl) (by kernel_rfl) (by rw [pf_size]; kernel_rfl)) rfl (by rw [show takeM s = (([], false, 0, 0, 5), (tkS 8 s)) from by unfold takeM; rw [if_pos (by rw [HN.out]; omega)]]; exact ⟨_, rfl, _, hS.pick [4, 1, 0], hs_w3⟩)
 ·
  have _f := True.intro
  go_upto_region 3 with fail
  refine RL hS ?_
  clear hS
  refine MV ?_
  refine MW ?_ (v := .bool false) (hv := by intro W; go_simp; (try omega))
  refine MW ?_ (v := .bool false)
  refine MV ?_
  refine MW ?_ (v := .bool true) (hv := by intro W; go_simp; (try omega))
  refine MW ?_ (v := .bool true)
  refine MZ fun W hS => ?_
  go_upto_region 4 with fail
  refine RL hS ?_
  clear hS
  refine MW ?_ (v := .agg (pfc (.slice none 0 0) false 0 0)) (hv := by intro W; first | rfl | kernel_rfl)
  refine MR 2 ?_ (hz := by rw [pf_size]; kernel_rfl) (hs := by first | rw [pf_size, pf_size] | rw [pf_size] | kernel_rfl) (h1 := (pf_one rfl))
  refine MW ?_ (v := .int .i64 5)
  refine MZ fun W hS => ?_
  have hS := hS.rnil 27 32 rfl
  go_wp2
  exact bodyPost_ret (res_c2 rfl rfl rfl (hS.blk (i := 3) rfl) (by kernel_rfl) (by rw [pf_size]; kernel_rfl)) rfl (by rw [show takeM s = (([], false, 0, 0, 5), (tkS 8 s)) from by unfold takeM; rw [if_pos (by rw [HN.out]; omega)]]; exact ⟨_, rfl, _, hS.pick [4, 1, 0], hs_w3⟩)
 ·
  have _f := True.intro
  go_upto_region 3 with fail
  refine RL hS ?_
  clear hS
  refine MV ?_
  refine MW ?_ (v := .bool false) (hv := by intro W; go_simp; (try omega))
  refine MW ?_ (v := .bool false)
  refine MV ?_
  refine MW ?_ (v := .bool false) (hv := by intro W; go_simp; (try omega))
  refine MW ?_ (v := .bool false)
  refine MZ fun W hS => ?_
  have hS := hS.rnil 27 32 rfl
  go_wp2_with fail
  go_loopw [17] (fun ii wr => ∃ (i : Nat) (sv : Value) (rv : Value), (i ≤ n) ∧ (Sub rv (sumsS i (tkS 8 s)).1 (sb v s.1)) ∧ (ii = .int .i64 (i : Int)) ∧ SH [p] w wr [.r 27 32 sv (List.map b32l (sumsV i (tkS 8 s))), .s rv ((sumsS i (tkS 8 s)).1), .b p #[rv, .int .i64 (sumsS i (tkS 8 s)).2] 141, .b p4_2 (pfc sv false 0 0) 62, .b p2_1 (pfc (.slice none 0 0) false 0 0) 62])
   (fun ii _ => n - (intOf ii).toNat)
  case atStart => exact ⟨0, _, w3, Nat.zero_le _, hs_w3, rfl, (hS.pick [0, 1, 4, 2, 3])⟩
  clear hS
  case round =>
   obtain ⟨i, sv, rv, hi, hsub, rfl, hS⟩ := hrel
   by_cases hlt : i < n
   ·
    have _f := hlt
    have hsl_ : (sumsV i (tkS 8 s)).length ≤ 256 := by rw [sumsV_len]; omega
    go_upto_region 6 with fail
    refine RL hS ?_
    clear hS
    refine MW ?_ (v := .bool true) (hv := by intro W; go_simp; (try omega))
    refine MZ fun W hS => ?_
    go_upto_region 7 with fail
    refine RTp [4] (.q 0 (.q 2 (.b 1 (.e 3 (.e 4 (.e 5 (.q 6 (.e 7 .z))))) 3 (.b 1 (.e 4 (.e 5 (.q 6 (.e 7 .z)))) 4 (.e 1 (.e 5 (.q 6 (.e 7 .z)))))))) hS ?_
    clear hS
    refine TV ?_
    refine TV ?_
    refine TB (fun _ h => h.pick [4]) ?_ ?_
    ·
     skip
     refine MG 3 ?_ (v := sv) (hj := pf_s)
     refine TNp [4] [0] ?_
     refine TE (fun _ h => h.pick [4]) ?_
     refine ME (V := fun _ => .agg (arrK .u8 32 (byt (suV (sumsS i (tkS 8 s)))))) (fun W hS => rdcall (i := 2) (j := 1) hS rfl rfl (fun hr => rsum_t (s := (sumsS i (tkS 8 s))) hr (Nat.lt_of_le_of_lt (Nat.le_trans (sumsS_len _ _) (Nat.le_trans (tkS_len 8 _) (Nat.le_refl _))) hlen))) ?_
     rintro ⟨w4, hs_w4⟩
     dsimp only
     refine MD 2 ?_
     refine TNp [0, 4] [1] ?_
     refine TE (fun _ h => h.pick [0, 4]) ?_
     refine MB (z := (arrK .u8 32 (byt (suV (sumsS i (tkS 8 s)))))) (t := 27) (n := 1) (c := 1) ?_ (hr := fun W _ => run_bsA rfl rfl rfl Try.underlying48 (by rw [arrK_size]; kernel_rfl) (by rw [arrK_size]; kernel_rfl) (by rw [arrK_size]; decide) (by rw [arrK_size]; decide))
     intro p23_5
     refine TNp [0, 1, 5] [1, 2] ?_
     refine TE (fun _ h => h.pick [0, 1, 5]) ?_
     refine MAr 2 0 (tS := 48) (bytes := 32) (es := (List.map b32l (sumsV i (tkS 8 s)))) (by first | omega | (simp only [List.length_append, List.length_map, List.length_take, List.length_drop, List.length_reverse, List.length_cons, List.length_nil, lb_length]; omega)) (e := b32l (suV (sumsS i (tkS 8 s)))) (hk := arrK_size _ _ _) (h1 := arrK_one _ _ _) ?_
     intro v24_6
     refine TNp [0, 1, 2, 5] [0, 1, 3] ?_
     refine TV ?_
     refine TE (fun _ h => h.pick [0, 1, 2, 5]) ?_
     refine MP 4 (v := v24_6) (cs' := pfc v24_6 false 0 0) ?_ (hv := fun W hS => Row.cells (hS.row (i := 2) rfl)) (hs := by rw [pf_size]; decide) (hc := pf_puts)
     refine TNp [0, 1, 2, 5] [0, 1, 2, 3] ?_
     refine TZ (fun _ h => h.pick [0, 1, 2, 5]) fun W hS => ?_
     go_wp2
     go_roundw
     case rel => exact ⟨i + 1, v24_6, w4, by omega, (sub_tr hs_w4 hsub), by go_num, (by rw [sums_map]; exact (hS.pick [2, 1, 3, 4, 5]))⟩
     case measure => simp [intOf]; omega
    ·
     skip
     refine ME (V := fun _ => .agg (arrK .u8 32 (byt (suV (sumsS i (tkS 8 s)))))) (fun W hS => rdcall (i := 2) (j := 1) hS rfl rfl (fun hr => rsum_t (s := (sumsS i (tkS 8 s))) hr (Nat.lt_of_le_of_lt (Nat.le_trans (sumsS_len _ _) (Nat.le_trans (tkS_len 8 _) (Nat.le_refl _))) hlen))) ?_
     rintro ⟨w7, hs_w7⟩
     dsimp only
     refine MD 2 ?_
     refine TNp [0, 4] [1] ?_
     refine TB (fun _ h => h.pick [0, 4]) ?_ ?_
     ·
      skip
      refine MG 3 ?_ (v := sv) (hj := pf_s)
      refine TNp [0, 4] [0, 1] ?_
      refine TE (fun _ h => h.pick [0, 4]) ?_
      refine MB (z := (arrK .u8 32 (byt (suV (sumsS i (tkS 8 s)))))) (t := 27) (n := 1) (c := 1) ?_ (hr := fun W _ => run_bsA rfl rfl rfl Try.underlying48 (by rw [arrK_size]; kernel_rfl) (by rw [arrK_size]; kernel_rfl) (by rw [arrK_size]; decide) (by rw [arrK_size]; decide))
      intro p23_8
      refine TNp [0, 1, 5] [1, 2] ?_
      refine TE (fun _ h => h.pick [0, 1, 5]) ?_
      refine MAr 2 0 (tS := 48) (bytes := 32) (es := (List.map b32l (sumsV i (tkS 8 s)))) (by first | omega | (simp only [List.length_append, List.length_map, List.length_take, List.length_drop, List.length_reverse, List.length_cons, List.length_nil, lb_length]; omega)) (e := b32l (suV (sumsS i (tkS 8 s)))) (hk := arrK_size _ _ _) (h1 := arrK_one _ _ _) ?_
      intro v24_9
      refine TNp [0, 1, 2, 5] [0, 1, 3] ?_
      refine TV ?_
      refine TE (fun _ h => h.pick [0, 1, 2, 5]) ?_
      refine MP 4 (v := v24_9) (cs' := pfc v24_9 false 0 0) ?_ (hv := fun W hS => Row.cells (hS.row (i := 2) rfl)) (hs := by rw [pf_size]; decide) (hc := pf_puts)
      refine TNp [0, 1, 2, 5] [0, 1, 2, 3] ?_
      refine TZ (fun _ h => h.pick [0, 1, 2, 5]) fun W hS => ?_
      go_wp2
      go_roundw
      case rel => exact ⟨i + 1, v24_9, w7, by omega, (sub_tr hs_w7 hsub), by go_num, (by rw [sums_map]; exact (hS.pick [2, 1, 3, 4, 5]))⟩
      case measure => simp [intOf]; omega
     ·
      skip
      refine MB (z := (arrK .u8 32 (byt (suV (sumsS i (tkS 8 s)))))) (t := 27) (n := 1) (c := 1) ?_ (hr := fun W _ => run_bsA rfl rfl rfl Try.underlying48 (by rw [arrK_size]; kernel_rfl) (by rw [arrK_size]; kernel_rfl) (by rw [arrK_size]; decide) (by rw [arrK_size]; decide))
      intro p23_10
      refine TNp [0, 1, 5] [1, 2] ?_
      refine TE (fun _ h => h.pick [0, 1, 5]) ?_
      refine MG 4 ?_ (v := sv) (hj := pf_s)
      refine TNp [0, 1, 5] [0, 1, 2] ?_
      refine TE (fun _ h => h.pick [0, 1, 5]) ?_
      refine MAr 2 0 (tS := 48) (bytes := 32) (es := (List.map b32l (sumsV i (tkS 8 s)))) (by first | omega | (simp only [List.length_append, List.length_map, List.length_take, List.length_drop, List.length_reverse, List.length_cons, List.length_nil, lb_length]; omega)) (e := b32l (suV (sumsS i (tkS 8 s)))) (hk := arrK_size _ _ _) (h1 := arrK_one _ _ _) ?_
      intro v24_11
      refine TNp [0, 1, 2, 5] [0, 1, 3] ?_
      refine TV ?_
      refine TE (fun _ h => h.pick [0, 1, 2, 5]) ?_
      refine MP 4 (v := v24_11) (cs' := pfc v24_11 false 0 0) ?_ (hv := fun W hS => Row.cells (hS.row (i := 2) rfl)) (hs := by rw [pf_size]; decide) (hc := pf_puts)
      refine TNp [0, 1, 2, 5] [0, 1, 2, 3] ?_
      refine TZ (fun _ h => h.pick [0, 1, 2, 5]) fun W hS => ?_
      go_wp2
      go_roundw
      case rel => exact ⟨i + 1, v24_11, w7, by omega, (sub_tr hs_w7 hsub), by go_num, (by rw [sums_map]; exact (hS.pick [2, 1, 3, 4, 5]))⟩
      case measure => simp [intOf]; omega
   ·
    have _f := hlt
    obtain rfl : n = i := by omega
    go_upto_region 6 with fail
    refine RL hS ?_
    clear hS
    refine MW ?_ (v := .bool false) (hv := by intro W; go_simp; (try omega))
    refine MZ fun W hS => ?_
    rcases hf : flV (sumsS n (tkS 8 s)) with _ | _
    ·
     have _f := True.intro
     go_upto_region 9 with fail
     refine RL hS ?_
     clear hS
     refine MV ?_
     refine ME (V := fun _ => .bool false) (fun W hS => rdcall (i := 2) (j := 1) hS rfl rfl (fun hr => (by have h_ := rflag_t (s := (sumsS n (tkS 8 s))) hr (Nat.lt_of_le_of_lt (Nat.le_trans (sumsS_len _ _) (Nat.le_trans (tkS_len 8 _) (Nat.le_refl _))) hlen); rw [hf] at h_; exact h_))) ?_
     rintro ⟨w12, hs_w12⟩
     dsimp only
     refine MD 2 ?_
     refine MV ?_
     refine MP 3 (v := .bool false) (cs' := pfc sv false 0 0) ?_ (hs := by rw [pf_size]; decide) (hc := pf_putb)
     refine MZ fun W hS => ?_
     go_upto_region 10 with fail
     refine RL hS ?_
     clear hS
     refine MV ?_
     refine MG 3 ?_ (v := .bool false) (hj := pf_t)
     refine MZ fun W hS => ?_
     ·
      have _f := True.intro
      obtain ⟨E, hE⟩ : ∃ E, enV (flS (sumsS n (tkS 8 s))) = E := ⟨_, rfl⟩
      have HE := Lib.hid hE
      clear hE
      go_upto_region 12 with fail
      refine RL hS ?_
      clear hS
      refine MV ?_
      refine MC (v := .int .i64 E) (fun W hS => (by have h_ := rend_t (s := (flS (sumsS n (tkS 8 s)))) (rdr_at hS (i := 2) rfl (j := 0) rfl); rw [HE.out] at h_; exact h_)) ?_
      refine MV ?_
      refine MZ fun W hS => ?_
      rcases en_or E with h1 | h1 | h1
      ·
       have _f := True.intro
       subst h1
       obtain ⟨Ao, co, hvo⟩ := Row.form (ls := sumsV n (tkS 8 s)) (f := b32l) (hS.row (i := 1) rfl)
       subst hvo
       go_upto_region 13 with fail
       refine RL hS ?_
       clear hS
       refine MV ?_
       refine MW ?_ (v := .bool false) (hv := by intro W; go_simp; (try omega))
       refine MW ?_ (v := .bool false)
       refine MS ?_
       refine MS ?_
       refine MW ?_ (v := .bool false)
       refine MZ fun W hS => ?_
       go_upto_region 15 with fail
       refine RL hS ?_
       clear hS
       refine ML 3 ?_ (hs := by rw [pf_size]; kernel_rfl)
       refine MR 4 ?_ (hz := by rw [pf_size]; kernel_rfl) (hs := by first | rw [pf_size, pf_size] | rw [pf_size] | kernel_rfl) (h1 := (pf_one rfl))
       refine MW ?_ (v := .int .i64 0)
       refine MZ fun W hS => ?_
       go_wp2
       exact bodyPost_ret (res_c2 rfl rfl rfl (hS.blk (i := 4) rfl) (by kernel_rfl) (by rw [pf_size]; kernel_rfl)) rfl (by rw [show takeM s = ((sumsV n (tkS 8 s), false, 0, 0, 0), (flS (sumsS n (tkS 8 s)))) from by unfold takeM; rw [HN.out, if_neg (by omega), Int.toNat_natCast]; unfold takeB; rw [if_neg (by rw [hf]; decide)]; unfold takeE; rw [HE.out, if_neg (by omega)]]; exact ⟨_, rfl, _, hS.pick [2, 0, 1], (sub_tr hs_w12 hsub)⟩)
      ·
       have _f := True.intro
       subst h1
       obtain ⟨Ao, co, hvo⟩ := Row.form (ls := sumsV n (tkS 8 s)) (f := b32l) (hS.row (i := 1) rfl)
       subst hvo
       go_upto_region 13 with fail
       refine RL hS ?_
       clear hS
       refine MV ?_
       refine MW ?_ (v := .bool true) (hv := by intro W; go_simp; (try omega))
       refine MW ?_ (v := .bool true)
       refine MV ?_
       refine MW ?_ (v := .bool false) (hv := by intro W; go_simp; (try omega))
       refine MW ?_ (v := .bool false)
       refine MZ fun W hS => ?_
       go_upto_region 15 with fail
       refine RL hS ?_
       clear hS
       refine ML 3 ?_ (hs := by rw [pf_size]; kernel_rfl)
       refine MR 4 ?_ (hz := by rw [pf_size]; kernel_rfl) (hs := by first | rw [pf_size, pf_size] | rw [pf_size] | kernel_rfl) (h1 := (pf_one rfl))
       refine MW ?_ (v := .int .i64 0)
       refine MZ fun W hS => ?_
       go_wp2
       exact bodyPost_ret (res_c2 rfl rfl rfl (hS.blk (i := 4) rfl) (by kernel_rfl) (by rw [pf_size]; kernel_rfl)) rfl (by rw [show takeM s = ((sumsV n (tkS 8 s), false, 0, 0, 0), (flS (sumsS n (tkS 8 s)))) from by unfold takeM; rw [HN.out, if_neg (by omega), Int.toNat_natCast]; unfold takeB; rw [if_neg (by rw [hf]; decide)]; unfold takeE; rw [HE.out, if_neg (by omega)]]; exact ⟨_, rfl, _, hS.pick [2, 0, 1], (sub_tr hs_w12 hsub)⟩)
      ·
       have _f := True.intro
       go_upto_region 13 with fail
       refine RL hS ?_
       clear hS
       refine MV ?_
       refine MW ?_ (v := .bool true) (hv := by intro W; go_simp; (try omega))
       refine MW ?_ (v := .bool true)
       refine MV ?_
       refine MW ?_ (v := .bool true) (hv := by intro W; go_simp; (try omega))
       refine MW ?_ (v := .bool true)
       refine MZ fun W hS => ?_
       go_upto_region 14 with fail
       refine RL hS ?_
       clear hS
       refine MW ?_ (v := .agg (pfc (.slice none 0 0) false 0 0)) (hv := by intro W; first | rfl | kernel_rfl)
       refine MV ?_
       refine MR 4 ?_ (hz := by rw [pf_size]; kernel_rfl) (hs := by first | rw [pf_size, pf_size] | rw [pf_size] | kernel_rfl) (h1 := (pf_one rfl))
       refine MV ?_
       refine MZ fun W hS => ?_
       have hS := hS.rnil 27 32 rfl
       go_wp2
       exact bodyPost_ret (res_c2 rfl rfl rfl (hS.blk (i := 5) rfl) (by kernel_rfl) (by rw [pf_size]; kernel_rfl)) rfl (by rw [show takeM s = (([], false, 0, 0, E), (flS (sumsS n (tkS 8 s)))) from by unfold takeM; rw [HN.out, if_neg (by omega), Int.toNat_natCast]; unfold takeB; rw [if_neg (by rw [hf]; decide)]; unfold takeE; rw [HE.out, if_pos h1]]; exact ⟨_, rfl, _, hS.pick [3, 1, 0], (sub_tr hs_w12 hsub)⟩)
    ·
     have _f := True.intro
     go_upto_region 9 with fail
     refine RL hS ?_
     clear hS
     refine MV ?_
     refine ME (V := fun _ => .bool true) (fun W hS => rdcall (i := 2) (j := 1) hS rfl rfl (fun hr => (by have h_ := rflag_t (s := (sumsS n (tkS 8 s))) hr (Nat.lt_of_le_of_lt (Nat.le_trans (sumsS_len _ _) (Nat.le_trans (tkS_len 8 _) (Nat.le_refl _))) hlen); rw [hf] at h_; exact h_))) ?_
     rintro ⟨w13, hs_w13⟩
     dsimp only
     refine MD 2 ?_
     refine MV ?_
     refine MP 3 (v := .bool true) (cs' := pfc sv true 0 0) ?_ (hs := by rw [pf_size]; decide) (hc := pf_putb)
     refine MZ fun W hS => ?_
     go_upto_region 10 with fail
     refine RL hS ?_
     clear hS
     refine MV ?_
     refine MG 3 ?_ (v := .bool true) (hj := pf_t)
     refine MZ fun W hS => ?_
     go_upto_region 11 with fail
     refine RL hS ?_
     clear hS
     refine MV ?_
     refine ME (V := fun _ => .agg (arrK .u8 32 (byt (suV (flS (sumsS n (tkS 8 s))))))) (fun W hS => rdcall (i := 2) (j := 0) hS rfl rfl (fun hr => rsum_t (s := (flS (sumsS n (tkS 8 s)))) hr (Nat.lt_of_le_of_lt (Nat.le_trans (flS_len _) (Nat.le_trans (sumsS_len _ _) (Nat.le_trans (tkS_len 8 _) (Nat.le_refl _)))) hlen))) ?_
     rintro ⟨w14, hs_w14⟩
     dsimp only
     refine MD 1 ?_
     refine MV ?_
     refine ME (V := fun _ => .agg (arrK .u8 32 (byt (suV (tkS 32 (flS (sumsS n (tkS 8 s)))))))) (fun W hS => rdcall (i := 2) (j := 0) hS rfl rfl (fun hr => rsum_t (s := (tkS 32 (flS (sumsS n (tkS 8 s))))) hr (Nat.lt_of_le_of_lt (Nat.le_trans (tkS_len 32 _) (Nat.le_trans (flS_len _) (Nat.le_trans (sumsS_len _ _) (Nat.le_trans (tkS_len 8 _) (Nat.le_refl _))))) hlen))) ?_
     rintro ⟨w15, hs_w15⟩
     dsimp only
     refine MD 1 ?_
     refine MW ?_ (v := .agg (lf (suV (flS (sumsS n (tkS 8 s)))) (suV (tkS 32 (flS (sumsS n (tkS 8 s))))))) (hv := by intro W; first | rfl | kernel_rfl)
     refine MV ?_
     refine Mr 3 (new := pfc sv true (suV (flS (sumsS n (tkS 8 s)))) (suV (tkS 32 (flS (sumsS n (tkS 8 s)))))) pf_pute ?_ (hz := by rw [lf_size]; kernel_rfl) (hs := by rw [pf_size, lf_size]; decide) (h1 := lf_one)
     refine MZ fun W hS => ?_
     ·
      have _f := True.intro
      obtain ⟨E, hE⟩ : ∃ E, enV (tkS 32 (tkS 32 (flS (sumsS n (tkS 8 s))))) = E := ⟨_, rfl⟩
      have HE := Lib.hid hE
      clear hE
      go_upto_region 12 with fail
      refine RL hS ?_
      clear hS
      refine MV ?_
      refine MC (v := .int .i64 E) (fun W hS => (by have h_ := rend_t (s := (tkS 32 (tkS 32 (flS (sumsS n (tkS 8 s)))))) (rdr_at hS (i := 2) rfl (j := 0) rfl); rw [HE.out] at h_; exact h_)) ?_
      refine MV ?_
      refine MZ fun W hS => ?_
      rcases en_or E with h1 | h1 | h1
      ·
       have _f := True.intro
       subst h1
       obtain ⟨Ao, co, hvo⟩ := Row.form (ls := sumsV n (tkS 8 s)) (f := b32l) (hS.row (i := 1) rfl)
       subst hvo
       go_upto_region 13 with fail
       refine RL hS ?_
       clear hS
       refine MV ?_
       refine MW ?_ (v := .bool false) (hv := by intro W; go_simp; (try omega))
       refine MW ?_ (v := .bool false)
       refine MS ?_
       refine MS ?_
       refine MW ?_ (v := .bool false)
       refine MZ fun W hS => ?_
       go_upto_region 15 with fail
       refine RL hS ?_
       clear hS
       refine ML 3 ?_ (hs := by rw [pf_size]; kernel_rfl)
       refine MR 4 ?_ (hz := by rw [pf_size]; kernel_rfl) (hs := by first | rw [pf_size, pf_size] | rw [pf_size] | kernel_rfl) (h1 := (pf_one rfl))
       refine MW ?_ (v := .int .i64 0)
       refine MZ fun W hS => ?_
       go_wp2
       exact bodyPost_ret (res_c2 rfl rfl rfl (hS.blk (i := 4) rfl) (by kernel_rfl) (by rw [pf_size]; kernel_rfl)) rfl (by rw [show takeM s = ((sumsV n (tkS 8 s), true, (suV (flS (sumsS n (tkS 8 s)))), (suV (tkS 32 (flS (sumsS n (tkS 8 s))))), 0), (tkS 32 (tkS 32 (flS (sumsS n (tkS 8 s)))))) from by unfold takeM; rw [HN.out, if_neg (by omega), Int.toNat_natCast]; unfold takeB; rw [if_pos hf]; unfold takeE; rw [HE.out, if_neg (by omega)]]; exact ⟨_, rfl, _, hS.pick [2, 0, 1], (sub_tr hs_w15 (sub_tr hs_w14 (sub_tr hs_w13 hsub)))⟩)
      ·
       have _f := True.intro
       subst h1
       obtain ⟨Ao, co, hvo⟩ := Row.form (ls := sumsV n (tkS 8 s)) (f := b32l) (hS.row (i := 1) rfl)
       subst hvo
       go_upto_region 13 with fail
       refine RL hS ?_
       clear hS
       refine MV ?_
       refine MW ?_ (v := .bool true) (hv := by intro W; go_simp; (try omega))
       refine MW ?_ (v := .bool true)
       refine MV ?_
       refine MW ?_ (v := .bool false) (hv := by intro W; go_simp; (try omega))
       refine MW ?_ (v := .bool false)
       refine MZ fun W hS => ?_
       go_upto_region 15 with fail
       refine RL hS ?_
       clear hS
       refine ML 3 ?_ (hs := by rw [pf_size]; kernel_rfl)
       refine MR 4 ?_ (hz := by rw [pf_size]; kernel_rfl) (hs := by first | rw [pf_size, pf_size] | rw [pf_size] | kernel_rfl) (h1 := (pf_one rfl))
       refine MW ?_ (v := .int .i64 0)
       refine MZ fun W hS => ?_
       go_wp2
       exact bodyPost_ret (res_c2 rfl rfl rfl (hS.blk (i := 4) rfl) (by kernel_rfl) (by rw [pf_size]; kernel_rfl)) rfl (by rw [show takeM s = ((sumsV n (tkS 8 s), true, (suV (flS (sumsS n (tkS 8 s)))), (suV (tkS 32 (flS (sumsS n (tkS 8 s))))), 0), (tkS 32 (tkS 32 (flS (sumsS n (tkS 8 s)))))) from by unfold takeM; rw [HN.out, if_neg (by omega), Int.toNat_natCast]; unfold takeB; rw [if_pos hf]; unfold takeE; rw [HE.out, if_neg (by omega)]]; exact ⟨_, rfl, _, hS.pick [2, 0, 1], (sub_tr hs_w15 (sub_tr hs_w14 (sub_tr hs_w13 hsub)))⟩)
      ·
       have _f := True.intro
       go_upto_region 13 with fail
       refine RL hS ?_
       clear hS
       refine MV ?_
       refine MW ?_ (v := .bool true) (hv := by intro W; go_simp; (try omega))
       refine MW ?_ (v := .bool true)
       refine MV ?_
       refine MW ?_ (v := .bool true) (hv := by intro W; go_simp; (try omega))
       refine MW ?_ (v := .bool true)
       refine MZ fun W hS => ?_
       go_upto_region 14 with fail
       refine RL hS ?_
       clear hS
       refine MW ?_ (v := .agg (pfc (.slice none 0 0) false 0 0)) (hv := by intro W; first | rfl | kernel_rfl)
       refine MV ?_
       refine MR 4 ?_ (hz := by rw [pf_size]; kernel_rfl) (hs := by first | rw [pf_size, pf_size] | rw [pf_size] | kernel_rfl) (h1 := (pf_one rfl))
       refine MV ?_
       refine MZ fun W hS => ?_
       have hS := hS.rnil 27 32 rfl
       go_wp2
       exact bodyPost_ret (res_c2 rfl rfl rfl (hS.blk (i := 5) rfl) (by kernel_rfl) (by rw [pf_size]; kernel_rfl)) rfl (by rw [show takeM s = (([], false, 0, 0, E), (tkS 32 (tkS 32 (flS (sumsS n (tkS 8 s)))))) from by unfold takeM; rw [HN.out, if_neg (by omega), Int.toNat_natCast]; unfold takeB; rw [if_pos hf]; unfold takeE; rw [HE.out, if_pos h1]]; exact ⟨_, rfl, _, hS.pick [3, 1, 0], (sub_tr hs_w15 (sub_tr hs_w14 (sub_tr hs_w13 hsub)))⟩)
/-- Take, of a reader that is known -/
theorem tkcall {args : Array Value} {f : FuncId} {F : List Nat} {w W : World} {R : List As} {j p : Nat} {v : Value} {l : List UInt8} {e : Int} {r : (List Nat × Bool × Nat × Nat × Int) × RSt} (hS : SH F w W (.b p #[v, .int .i64 e] 141 :: R)) (hj : R[j]? = some (.s v l)) (ht : R.all (SH.tyOk (.r 27 32 undef [])) = true) (ht2 : R.all (SH.tyOk (.b 0 #[] 141)) = true)
  (hc : Rdr W p v l e → Calls Try.prog f args W fun en W' => TKR p v l r W W' en) :
  Calls Try.prog f args W fun en W' => ∃ x : { y : Value × Value // Sub y.2 r.2.1 (sb v l) }, en = .returned (.tuple #[.agg (pfc x.1.1 r.1.2.1 r.1.2.2.1 r.1.2.2.2.1), .int .i64 r.1.2.2.2.2]) ∧ SH F w W' (.s x.1.2 r.2.1 :: .b p #[x.1.2, .int .i64 r.2.2] 141 :: .r 27 32 x.1.1 (r.1.1.map b32l) :: R) := by
 refine (hc (rdr_at (i := 0) (j := j + 1) hS rfl (by simpa using hj))).mono fun en W' ⟨u, h1, v', h2, h3⟩ => ⟨⟨(u, v'), h3⟩, h1, ?_⟩
 have h4 : SH (SH.feet [.b p #[v, .int .i64 e] 141]) W W' [.b p #[v', .int .i64 r.2.2] 141, .r 27 32 u (r.1.1.map b32l)] := h2.pick [0, 2]
 have h5 := SH.frame (L := [.b p #[v, .int .i64 e] 141]) (R := R) hS h4 ⟨.inr ⟨rfl, ht2⟩, .inr ⟨rfl, ht⟩, trivial⟩
 exact h5.sub (i := j + 2) (by simpa using hj) (h2.sl (i := 1) rfl) h3
end Go.Proofs.Ytlbgelbhhibikaa
