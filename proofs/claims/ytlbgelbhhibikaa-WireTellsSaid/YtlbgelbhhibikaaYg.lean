/- wire's reader: rows of versions and of marks. Conditions: memory holds what is written. -/
import Derived.Test.YtlbgelbhhibikaaYf
import Derived.Test.YtlbgelbhhibikaaYc
set_option linter.unusedSimpArgs false
set_option linter.unusedVariables false
namespace Go.Proofs.Ytlbgelbhhibikaa.Ww
set_option maxHeartbeats 6000000
set_option maxRecDepth 100000
open Go.RowKit
attribute [local irreducible] wpList wpTr wpX
set_option linter.unusedSimpArgs false
attribute [local irreducible] lb be8 eI tB txL txB txV txS tkS byV nuV suV enV takeM flV flS rawV rawB pB2 sumsV sumsS cV cB

theorem wrmarks_c {r p : Nat} {v : Value} {s : RSt} {bad : Bool} (hb0 : s.1.length ≤ 1000000) (w : World) (h_ : SH [r, p] w w (wrdL r p v s bad)) :
  Calls Try.prog 71 #[.pointer (some ⟨r, 0, none⟩)] w fun e w' => WRet r p v s bad (mksS (cV 1024 s) (tkS 8 s)) (cB 1024 s bad) (α := Value) (fun y : Value => y) (fun y : Value => [.r 127 65 y (List.map mkC (mksV (cV 1024 s) (tkS 8 s)))]) w w' e := by
 have hS := h_
 go_enter Try.func71, Try.ntmps71
 go_upto_region 2 with fail
 refine RL hS ?_
 clear hS
 refine MV ?_
 refine ME (V := fun x : { y : (Unit) × Value // Sub y.2 (tkS 8 s).1 (sb v (s).1) } => .int .i64 (cV 1024 s : Int)) (fun W hS => wrcall (V := fun y : Unit => .int .i64 (cV 1024 s : Int)) (X := fun y : Unit => []) [0, 1, 2] [] hS (fun hT => wcount_c 1024 hb0 W hT) (fun _ _ => ⟨.inr ⟨rfl, rfl⟩, .inr ⟨rfl, rfl⟩, trivial⟩)) ?_
 rintro ⟨⟨_, rv1⟩, hs_1⟩
 dsimp only
 have hb_2 : (tkS 8 s).1.length ≤ 1000000 := Nat.le_trans (tkS_len _ _) hb0
 refine MT (H' := [.s rv1 ((tkS 8 s).1), .b r #[.pointer (some ⟨p, 0, none⟩), .bool (cB 1024 s bad)] 115, .b p #[rv1, .int .i64 (tkS 8 s).2] 141]) (fun W hS => hS) ?_
 refine MW ?_ (v := .int .i64 0)
 refine MZ fun W hS => ?_
 have hS := hS.rnil 127 65 rfl
 have hst0 := tkS_len 8 s
 go_wp2_with fail
 go_loopw [3, 7] (fun uv ii wr => ∃ (i : Nat) (sv : Value) (rv : Value), (i ≤ cV 1024 s) ∧ (Sub rv (mksS i (tkS 8 s)).1 (sb v s.1)) ∧ (sv = uv) ∧ (ii = .int .i64 (i : Int)) ∧ SH [r, p] w wr [.r 127 65 sv (List.map mkC (mksV i (tkS 8 s))), .s rv ((mksS i (tkS 8 s)).1), .b r #[.pointer (some ⟨p, 0, none⟩), .bool (cB 1024 s bad)] 115, .b p #[rv, .int .i64 (mksS i (tkS 8 s)).2] 141])
  (fun uv ii _ => cV 1024 s - (intOf ii).toNat)
 case atStart => exact ⟨0, _, rv1, Nat.zero_le _, (sub_tr hs_1 sub_refl), rfl, rfl, hS⟩
 clear hS
 case round =>
  obtain ⟨i, sv, rv, hi, hsub, rfl, rfl, hS⟩ := hrel
  by_cases hlt : i < cV 1024 s
  ·
   have _f := hlt
   have hcv := cV_le (m := 1024) (s := s)
   have hsl_ : (mksV i (tkS 8 s)).length ≤ 1024 := by rw [mksV_len]; omega
   go_upto_region 3 with fail
   refine RL hS ?_
   clear hS
   refine MW ?_ (v := .bool true) (hv := by intro W; go_simp; first | done | omega)
   refine MZ fun W hS => ?_
   go_upto_region 4 with fail
   refine RTp [0, 2] (.q 0 (.q 1 (.q 2 (.q 3 (.q 5 (.q 6 (.q 7 (.q 8 (.b 4 (.b 9 (.q 10 (.e 11 (.e 12 .z))) 11 (.e 9 (.q 10 (.e 12 .z)))) 11 (.e 4 (.e 9 (.q 10 (.e 12 .z))))))))))))) hS ?_
   clear hS
   refine TV ?_
   refine TV ?_
   refine TV ?_
   refine TG 1 ?_ (v := .pointer (some ⟨p, 0, none⟩))
   refine TV ?_
   refine TV ?_
   refine TV ?_
   refine TG 1 ?_ (v := .pointer (some ⟨p, 0, none⟩))
   refine TB (fun _ h => h.pick [0, 2]) ?_ ?_
   ·
    skip
    refine ME (V := fun _ => .int .i64 (nuV (mksS i (tkS 8 s)))) (fun W hS => rdcall (i := 3) (j := 1) hS rfl rfl (fun hr => rnum_t (s := mksS i (tkS 8 s)) hr (by have := (Nat.le_trans (mksS_len i _) (Nat.le_trans (tkS_len 8 s) hb0)); omega))) ?_
    rintro ⟨rv3, hs_3⟩
    dsimp only
    refine MD 2 ?_
    have hb_4 : (tkS 8 (mksS i (tkS 8 s))).1.length ≤ 1000000 := Nat.le_trans (tkS_len _ _) (Nat.le_trans (mksS_len i _) (Nat.le_trans (tkS_len 8 s) hb0))
    refine TNp [1, 2] [0, 1] ?_
    refine TB (fun _ h => h.pick [1, 2]) ?_ ?_
    ·
     skip
     refine ME (V := fun _ => .agg (arrK .u8 32 (byt (suV (tkS 8 (mksS i (tkS 8 s))))))) (fun W hS => rdcall (i := 3) (j := 0) hS rfl rfl (fun hr => rsum_t (s := tkS 8 (mksS i (tkS 8 s))) hr (by have := hb_4; omega))) ?_
     rintro ⟨rv5, hs_5⟩
     dsimp only
     refine MD 1 ?_
     have hb_6 : (tkS 32 (tkS 8 (mksS i (tkS 8 s)))).1.length ≤ 1000000 := Nat.le_trans (tkS_len _ _) hb_4
     refine TNp [1, 2] [0, 1] ?_
     refine TF (v := .agg (agF [.c (.int .i64 (nuV (mksS i (tkS 8 s)))), .a 32 (suV (tkS 8 (mksS i (tkS 8 s)))), .a 32 0])) rfl (fun W hS => run_bld rfl rfl zer_direct_Mark plc_direct_Mark (fill_c (fill_c fill_n (l' := [.c (.int .i64 (nuV (mksS i (tkS 8 s)))), .a 32 (suV (tkS 8 (mksS i (tkS 8 s)))), .a 32 0]) (m := [.a 32 (suV (tkS 8 (mksS i (tkS 8 s))))]) (hv := (agF_a _ _).symm) (hs := agF_setp (off := 1) 1 1) (hp := rfl) (hn := rfl) (hb := by show 1 + 32 ≤ 65; decide)) (l' := [.c (.int .i64 (nuV (mksS i (tkS 8 s)))), .a 32 0, .a 32 0]) (m := [.c (.int .i64 (nuV (mksS i (tkS 8 s))))]) (hv := rfl) (hs := agF_setp (off := 0) 0 1) (hp := rfl) (hn := rfl) (hb := by show 0 + 1 ≤ 65; decide))) ?_
     refine TE (fun _ h => h.pick [1, 2]) ?_
     refine MN (z := agF [.c (.int .i64 0), .a 32 0, .a 32 0]) (t := 127) ?_
     intro p4_7
     refine TNp [2, 3] [0, 1] ?_
     refine TE (fun _ h => h.pick [2, 3]) ?_
     refine MR 0 ?_ (hz := by rw [agF_size]; kernel_rfl) (hs := by first | (rw [agF_size, agF_size]; rfl) | rfl) (h1 := by exact (agF_one ⟨rfl, trivial⟩))
     refine TNp [2, 3] [0, 1] ?_
     refine TZ (fun _ h => h.pick [2, 3]) fun W hS => ?_
     go_upto_region 5 with fail
     refine RL hS ?_
     clear hS
     refine MV ?_
     refine MV ?_
     refine MV ?_
     refine MG 3 ?_ (v := .pointer (some ⟨p, 0, none⟩))
     refine ME (V := fun _ => .agg (arrK .u8 32 (byt (suV (tkS 32 (tkS 8 (mksS i (tkS 8 s)))))))) (fun W hS => rdcall (i := 4) (j := 1) hS rfl rfl (fun hr => rsum_t (s := tkS 32 (tkS 8 (mksS i (tkS 8 s)))) hr (by have := hb_6; omega))) ?_
     rintro ⟨rv8, hs_8⟩
     dsimp only
     refine MD 2 ?_
     have hb_9 : (tkS 32 (tkS 32 (tkS 8 (mksS i (tkS 8 s))))).1.length ≤ 1000000 := Nat.le_trans (tkS_len _ _) hb_6
     refine MV ?_
     refine Mq 1 (new := agF [.c (.int .i64 (nuV (mksS i (tkS 8 s)))), .a 32 (suV (tkS 8 (mksS i (tkS 8 s)))), .a 32 (suV (tkS 32 (tkS 8 (mksS i (tkS 8 s)))))]) ?_ (hc := agF_seta (off := 33) 2) (hs := by rw [arrK_size, agF_size]; exact Nat.le_of_ble_eq_true (by kernel_rfl))
     refine MZ fun W hS => ?_
     go_upto_region 6 with fail
     refine RL hS ?_
     clear hS
     refine MV ?_
     refine ML 1 ?_ (hs := by rw [agF_size]; kernel_rfl)
     refine MB (z := (agF [.c (.int .i64 (nuV (mksS i (tkS 8 s)))), .a 32 (suV (tkS 8 (mksS i (tkS 8 s)))), .a 32 (suV (tkS 32 (tkS 8 (mksS i (tkS 8 s)))))])) (t := 127) (n := 1) (c := 1) ?_ (hr := fun W _ => run_bsA rfl rfl rfl Try.underlying81 (by rw [agF_size]; kernel_rfl) (by rw [agF_size]; kernel_rfl) (by rw [agF_size]; exact Nat.le_of_ble_eq_true (by kernel_rfl)) (by rw [agF_size]; exact Nat.le_of_ble_eq_true (by kernel_rfl)))
     intro p28_10
     refine MAr 3 0 (tS := 81) (bytes := 72) (es := (List.map mkC (mksV i (tkS 8 s)))) (by first | omega | (rw [List.length_map]; omega) | assumption) (e := (agF [.c (.int .i64 (nuV (mksS i (tkS 8 s)))), .a 32 (suV (tkS 8 (mksS i (tkS 8 s)))), .a 32 (suV (tkS 32 (tkS 8 (mksS i (tkS 8 s)))))]).toList) (hk := by rw [agF_size]; kernel_rfl) (h1 := by exact (agF_one ⟨rfl, trivial⟩)) ?_
     intro v29_11
     refine MV ?_
     refine MZ fun W hS => ?_
     go_wp2
     go_roundw
     case rel => exact ⟨i + 1, v29_11, rv8, by omega, (sub_tr hs_8 (sub_tr hs_5 (sub_tr hs_3 hsub))), rfl, by go_num, (by rw [mks_map]; exact (hS.pick [3, 1, 4, 5]))⟩
     case measure => simp [intOf]; omega
    ·
     skip
     refine MN (z := agF [.c (.int .i64 0), .a 32 0, .a 32 0]) (t := 127) ?_
     intro p4_12
     refine TNp [2, 3] [0, 1] ?_
     refine TE (fun _ h => h.pick [2, 3]) ?_
     refine ME (V := fun _ => .agg (arrK .u8 32 (byt (suV (tkS 8 (mksS i (tkS 8 s))))))) (fun W hS => rdcall (i := 4) (j := 1) hS rfl rfl (fun hr => rsum_t (s := tkS 8 (mksS i (tkS 8 s))) hr (by have := hb_4; omega))) ?_
     rintro ⟨rv13, hs_13⟩
     dsimp only
     refine MD 2 ?_
     have hb_14 : (tkS 32 (tkS 8 (mksS i (tkS 8 s)))).1.length ≤ 1000000 := Nat.le_trans (tkS_len _ _) hb_4
     refine TNp [2, 3] [0, 1] ?_
     refine TF (v := .agg (agF [.c (.int .i64 (nuV (mksS i (tkS 8 s)))), .a 32 (suV (tkS 8 (mksS i (tkS 8 s)))), .a 32 0])) rfl (fun W hS => run_bld rfl rfl zer_direct_Mark plc_direct_Mark (fill_c (fill_c fill_n (l' := [.c (.int .i64 (nuV (mksS i (tkS 8 s)))), .a 32 (suV (tkS 8 (mksS i (tkS 8 s)))), .a 32 0]) (m := [.a 32 (suV (tkS 8 (mksS i (tkS 8 s))))]) (hv := (agF_a _ _).symm) (hs := agF_setp (off := 1) 1 1) (hp := rfl) (hn := rfl) (hb := by show 1 + 32 ≤ 65; decide)) (l' := [.c (.int .i64 (nuV (mksS i (tkS 8 s)))), .a 32 0, .a 32 0]) (m := [.c (.int .i64 (nuV (mksS i (tkS 8 s))))]) (hv := rfl) (hs := agF_setp (off := 0) 0 1) (hp := rfl) (hn := rfl) (hb := by show 0 + 1 ≤ 65; decide))) ?_
     refine TE (fun _ h => h.pick [2, 3]) ?_
     refine MR 1 ?_ (hz := by rw [agF_size]; kernel_rfl) (hs := by first | (rw [agF_size, agF_size]; rfl) | rfl) (h1 := by exact (agF_one ⟨rfl, trivial⟩))
     refine TNp [2, 3] [0, 1] ?_
     refine TZ (fun _ h => h.pick [2, 3]) fun W hS => ?_
     go_upto_region 5 with fail
     refine RL hS ?_
     clear hS
     refine MV ?_
     refine MV ?_
     refine MV ?_
     refine MG 3 ?_ (v := .pointer (some ⟨p, 0, none⟩))
     refine ME (V := fun _ => .agg (arrK .u8 32 (byt (suV (tkS 32 (tkS 8 (mksS i (tkS 8 s)))))))) (fun W hS => rdcall (i := 4) (j := 0) hS rfl rfl (fun hr => rsum_t (s := tkS 32 (tkS 8 (mksS i (tkS 8 s)))) hr (by have := hb_14; omega))) ?_
     rintro ⟨rv15, hs_15⟩
     dsimp only
     refine MD 1 ?_
     have hb_16 : (tkS 32 (tkS 32 (tkS 8 (mksS i (tkS 8 s))))).1.length ≤ 1000000 := Nat.le_trans (tkS_len _ _) hb_14
     refine MV ?_
     refine Mq 1 (new := agF [.c (.int .i64 (nuV (mksS i (tkS 8 s)))), .a 32 (suV (tkS 8 (mksS i (tkS 8 s)))), .a 32 (suV (tkS 32 (tkS 8 (mksS i (tkS 8 s)))))]) ?_ (hc := agF_seta (off := 33) 2) (hs := by rw [arrK_size, agF_size]; exact Nat.le_of_ble_eq_true (by kernel_rfl))
     refine MZ fun W hS => ?_
     go_upto_region 6 with fail
     refine RL hS ?_
     clear hS
     refine MV ?_
     refine ML 1 ?_ (hs := by rw [agF_size]; kernel_rfl)
     refine MB (z := (agF [.c (.int .i64 (nuV (mksS i (tkS 8 s)))), .a 32 (suV (tkS 8 (mksS i (tkS 8 s)))), .a 32 (suV (tkS 32 (tkS 8 (mksS i (tkS 8 s)))))])) (t := 127) (n := 1) (c := 1) ?_ (hr := fun W _ => run_bsA rfl rfl rfl Try.underlying81 (by rw [agF_size]; kernel_rfl) (by rw [agF_size]; kernel_rfl) (by rw [agF_size]; exact Nat.le_of_ble_eq_true (by kernel_rfl)) (by rw [agF_size]; exact Nat.le_of_ble_eq_true (by kernel_rfl)))
     intro p28_17
     refine MAr 3 0 (tS := 81) (bytes := 72) (es := (List.map mkC (mksV i (tkS 8 s)))) (by first | omega | (rw [List.length_map]; omega) | assumption) (e := (agF [.c (.int .i64 (nuV (mksS i (tkS 8 s)))), .a 32 (suV (tkS 8 (mksS i (tkS 8 s)))), .a 32 (suV (tkS 32 (tkS 8 (mksS i (tkS 8 s)))))]).toList) (hk := by rw [agF_size]; kernel_rfl) (h1 := by exact (agF_one ⟨rfl, trivial⟩)) ?_
     intro v29_18
     refine MV ?_
     refine MZ fun W hS => ?_
     go_wp2
     go_roundw
     case rel => exact ⟨i + 1, v29_18, rv15, by omega, (sub_tr hs_15 (sub_tr hs_13 (sub_tr hs_3 hsub))), rfl, by go_num, (by rw [mks_map]; exact (hS.pick [3, 1, 4, 5]))⟩
     case measure => simp [intOf]; omega
   ·
    skip
    refine MN (z := agF [.c (.int .i64 0), .a 32 0, .a 32 0]) (t := 127) ?_
    intro p4_19
    refine TNp [1, 3] [0, 1] ?_
    refine TE (fun _ h => h.pick [1, 3]) ?_
    refine ME (V := fun _ => .int .i64 (nuV (mksS i (tkS 8 s)))) (fun W hS => rdcall (i := 4) (j := 2) hS rfl rfl (fun hr => rnum_t (s := mksS i (tkS 8 s)) hr (by have := (Nat.le_trans (mksS_len i _) (Nat.le_trans (tkS_len 8 s) hb0)); omega))) ?_
    rintro ⟨rv20, hs_20⟩
    dsimp only
    refine MD 3 ?_
    have hb_21 : (tkS 8 (mksS i (tkS 8 s))).1.length ≤ 1000000 := Nat.le_trans (tkS_len _ _) (Nat.le_trans (mksS_len i _) (Nat.le_trans (tkS_len 8 s) hb0))
    refine TNp [2, 3] [0, 1] ?_
    refine TE (fun _ h => h.pick [2, 3]) ?_
    refine ME (V := fun _ => .agg (arrK .u8 32 (byt (suV (tkS 8 (mksS i (tkS 8 s))))))) (fun W hS => rdcall (i := 4) (j := 0) hS rfl rfl (fun hr => rsum_t (s := tkS 8 (mksS i (tkS 8 s))) hr (by have := hb_21; omega))) ?_
    rintro ⟨rv22, hs_22⟩
    dsimp only
    refine MD 1 ?_
    have hb_23 : (tkS 32 (tkS 8 (mksS i (tkS 8 s)))).1.length ≤ 1000000 := Nat.le_trans (tkS_len _ _) hb_21
    refine TNp [2, 3] [0, 1] ?_
    refine TF (v := .agg (agF [.c (.int .i64 (nuV (mksS i (tkS 8 s)))), .a 32 (suV (tkS 8 (mksS i (tkS 8 s)))), .a 32 0])) rfl (fun W hS => run_bld rfl rfl zer_direct_Mark plc_direct_Mark (fill_c (fill_c fill_n (l' := [.c (.int .i64 (nuV (mksS i (tkS 8 s)))), .a 32 (suV (tkS 8 (mksS i (tkS 8 s)))), .a 32 0]) (m := [.a 32 (suV (tkS 8 (mksS i (tkS 8 s))))]) (hv := (agF_a _ _).symm) (hs := agF_setp (off := 1) 1 1) (hp := rfl) (hn := rfl) (hb := by show 1 + 32 ≤ 65; decide)) (l' := [.c (.int .i64 (nuV (mksS i (tkS 8 s)))), .a 32 0, .a 32 0]) (m := [.c (.int .i64 (nuV (mksS i (tkS 8 s))))]) (hv := rfl) (hs := agF_setp (off := 0) 0 1) (hp := rfl) (hn := rfl) (hb := by show 0 + 1 ≤ 65; decide))) ?_
    refine TE (fun _ h => h.pick [2, 3]) ?_
    refine MR 1 ?_ (hz := by rw [agF_size]; kernel_rfl) (hs := by first | (rw [agF_size, agF_size]; rfl) | rfl) (h1 := by exact (agF_one ⟨rfl, trivial⟩))
    refine TNp [2, 3] [0, 1] ?_
    refine TZ (fun _ h => h.pick [2, 3]) fun W hS => ?_
    go_upto_region 5 with fail
    refine RL hS ?_
    clear hS
    refine MV ?_
    refine MV ?_
    refine MV ?_
    refine MG 3 ?_ (v := .pointer (some ⟨p, 0, none⟩))
    refine ME (V := fun _ => .agg (arrK .u8 32 (byt (suV (tkS 32 (tkS 8 (mksS i (tkS 8 s)))))))) (fun W hS => rdcall (i := 4) (j := 0) hS rfl rfl (fun hr => rsum_t (s := tkS 32 (tkS 8 (mksS i (tkS 8 s)))) hr (by have := hb_23; omega))) ?_
    rintro ⟨rv24, hs_24⟩
    dsimp only
    refine MD 1 ?_
    have hb_25 : (tkS 32 (tkS 32 (tkS 8 (mksS i (tkS 8 s))))).1.length ≤ 1000000 := Nat.le_trans (tkS_len _ _) hb_23
    refine MV ?_
    refine Mq 1 (new := agF [.c (.int .i64 (nuV (mksS i (tkS 8 s)))), .a 32 (suV (tkS 8 (mksS i (tkS 8 s)))), .a 32 (suV (tkS 32 (tkS 8 (mksS i (tkS 8 s)))))]) ?_ (hc := agF_seta (off := 33) 2) (hs := by rw [arrK_size, agF_size]; exact Nat.le_of_ble_eq_true (by kernel_rfl))
    refine MZ fun W hS => ?_
    go_upto_region 6 with fail
    refine RL hS ?_
    clear hS
    refine MV ?_
    refine ML 1 ?_ (hs := by rw [agF_size]; kernel_rfl)
    refine MB (z := (agF [.c (.int .i64 (nuV (mksS i (tkS 8 s)))), .a 32 (suV (tkS 8 (mksS i (tkS 8 s)))), .a 32 (suV (tkS 32 (tkS 8 (mksS i (tkS 8 s)))))])) (t := 127) (n := 1) (c := 1) ?_ (hr := fun W _ => run_bsA rfl rfl rfl Try.underlying81 (by rw [agF_size]; kernel_rfl) (by rw [agF_size]; kernel_rfl) (by rw [agF_size]; exact Nat.le_of_ble_eq_true (by kernel_rfl)) (by rw [agF_size]; exact Nat.le_of_ble_eq_true (by kernel_rfl)))
    intro p28_26
    refine MAr 3 0 (tS := 81) (bytes := 72) (es := (List.map mkC (mksV i (tkS 8 s)))) (by first | omega | (rw [List.length_map]; omega) | assumption) (e := (agF [.c (.int .i64 (nuV (mksS i (tkS 8 s)))), .a 32 (suV (tkS 8 (mksS i (tkS 8 s)))), .a 32 (suV (tkS 32 (tkS 8 (mksS i (tkS 8 s)))))]).toList) (hk := by rw [agF_size]; kernel_rfl) (h1 := by exact (agF_one ⟨rfl, trivial⟩)) ?_
    intro v29_27
    refine MV ?_
    refine MZ fun W hS => ?_
    go_wp2
    go_roundw
    case rel => exact ⟨i + 1, v29_27, rv24, by omega, (sub_tr hs_24 (sub_tr hs_22 (sub_tr hs_20 hsub))), rfl, by go_num, (by rw [mks_map]; exact (hS.pick [3, 1, 4, 5]))⟩
    case measure => simp [intOf]; omega
  ·
   have _f := hlt
   obtain rfl : cV 1024 s = i := by omega
   go_upto_region 3 with fail
   refine RL hS ?_
   clear hS
   refine MW ?_ (v := .bool false) (hv := by intro W; go_simp; first | done | omega)
   refine MZ fun W hS => ?_
   go_wp2
   first | exact bodyPost_ret (v := sv) (by simp only [results, Try.results71]; first | (go_simp; done) | (go_simp; rfl)) rfl ⟨sv, rv, rfl, hS.pick [1, 2, 3, 0], hsub⟩ | exact bodyPost_end (v := sv) (by simp only [results, Try.results71]; first | (go_simp; done) | (go_simp; rfl)) rfl ⟨sv, rv, rfl, hS.pick [1, 2, 3, 0], hsub⟩
theorem wrentries_c {r p : Nat} {v : Value} {s : RSt} {bad : Bool} (hb0 : s.1.length ≤ 1000000) (w : World) (h_ : SH [r, p] w w (wrdL r p v s bad)) :
  Calls Try.prog 70 #[.pointer (some ⟨r, 0, none⟩)] w fun e w' => WRetP r p v s bad (ensS (cV 1024 s) (tkS 8 s)) (cB 1024 s bad) (α := { y : Value × List Value // cV 1024 s = y.2.length }) (fun y => y.1.1) (fun y => [.r 125 3 y.1.1 (List.map enC (ensV y.1.2 (tkS 8 s)))]) (fun y => enFt (ensV y.1.2 (tkS 8 s))) (fun y => enK (ensV y.1.2 (tkS 8 s))) w w' e := by
 have hS := h_
 go_enter Try.func70, Try.ntmps70
 go_upto_region 2 with fail
 refine RL hS ?_
 clear hS
 refine MV ?_
 refine ME (V := fun x : { y : (Unit) × Value // Sub y.2 (tkS 8 s).1 (sb v (s).1) } => .int .i64 (cV 1024 s : Int)) (fun W hS => wrcall (V := fun y : Unit => .int .i64 (cV 1024 s : Int)) (X := fun y : Unit => []) [0, 1, 2] [] hS (fun hT => wcount_c 1024 hb0 W hT) (fun _ _ => ⟨.inr ⟨rfl, rfl⟩, .inr ⟨rfl, rfl⟩, trivial⟩)) ?_
 rintro ⟨⟨_, rv1⟩, hs_1⟩
 dsimp only
 have hb_2 : (tkS 8 s).1.length ≤ 1000000 := Nat.le_trans (tkS_len _ _) hb0
 refine MT (H' := [.s rv1 ((tkS 8 s).1), .b r #[.pointer (some ⟨p, 0, none⟩), .bool (cB 1024 s bad)] 115, .b p #[rv1, .int .i64 (tkS 8 s).2] 141]) (fun W hS => hS) ?_
 refine MW ?_ (v := .int .i64 0)
 refine MZ fun W hS => ?_
 have hS := SH.enil hS
 have hS := hS.rnil 125 3 rfl
 have hst0 := tkS_len 8 s
 go_wp2_with fail
 go_loopw [3, 7] (fun uv ii wr => ∃ (us : List Value) (sv : Value) (rv : Value), (us.length ≤ cV 1024 s) ∧ (Sub rv (ensS us.length (tkS 8 s)).1 (sb v s.1)) ∧ (∀ k ∈ enFt (ensV us (tkS 8 s)), w.heap.size ≤ k) ∧ (sv = uv) ∧ (ii = .int .i64 (us.length : Int)) ∧ SH [r, p] w wr [.r 125 3 sv (List.map enC (ensV us (tkS 8 s))), .p (enFt (ensV us (tkS 8 s))) (enK (ensV us (tkS 8 s))), .s rv ((ensS us.length (tkS 8 s)).1), .b r #[.pointer (some ⟨p, 0, none⟩), .bool (cB 1024 s bad)] 115, .b p #[rv, .int .i64 (ensS us.length (tkS 8 s)).2] 141])
  (fun uv ii _ => cV 1024 s - (intOf ii).toNat)
 case atStart => exact ⟨[], _, rv1, Nat.zero_le _, (sub_tr hs_1 sub_refl), (fun k hk => by cases hk), rfl, rfl, hS⟩
 clear hS
 case round =>
  obtain ⟨us, sv, rv, hi, hsub, hfr, rfl, rfl, hS⟩ := hrel
  by_cases hlt : us.length < cV 1024 s
  ·
   have _f := hlt
   have hcv := cV_le (m := 1024) (s := s)
   have hsl_ : (ensV us (tkS 8 s)).length ≤ 1024 := by rw [ensV_len]; omega
   go_upto_region 3 with fail
   refine RL hS ?_
   clear hS
   refine MW ?_ (v := .bool true) (hv := by intro W; go_simp; first | done | omega)
   refine MZ fun W hS => ?_
   go_upto_region 4 with fail
   refine RTp [0, 1, 3] (.q 0 (.q 1 (.q 2 (.q 3 (.q 5 (.q 6 (.q 7 (.q 8 (.b 4 (.b 9 (.q 10 (.e 11 (.e 12 .z))) 11 (.e 9 (.q 10 (.e 12 .z)))) 11 (.e 4 (.e 9 (.q 10 (.e 12 .z))))))))))))) hS ?_
   clear hS
   refine TV ?_
   refine TV ?_
   refine TV ?_
   refine TG 2 ?_ (v := .pointer (some ⟨p, 0, none⟩))
   refine TV ?_
   refine TV ?_
   refine TV ?_
   refine TG 2 ?_ (v := .pointer (some ⟨p, 0, none⟩))
   refine TB (fun _ h => h.pick [0, 1, 3]) ?_ ?_
   ·
    skip
    refine ME (V := fun _ => .int .i64 (nuV (ensS us.length (tkS 8 s)))) (fun W hS => rdcall (i := 4) (j := 2) hS rfl rfl (fun hr => rnum_t (s := ensS us.length (tkS 8 s)) hr (by have := (Nat.le_trans (ensS_len us.length _) (Nat.le_trans (tkS_len 8 s) hb0)); omega))) ?_
    rintro ⟨rv3, hs_3⟩
    dsimp only
    refine MD 3 ?_
    have hb_4 : (tkS 8 (ensS us.length (tkS 8 s))).1.length ≤ 1000000 := Nat.le_trans (tkS_len _ _) (Nat.le_trans (ensS_len us.length _) (Nat.le_trans (tkS_len 8 s) hb0))
    refine TNp [1, 2, 3] [0, 1, 2] ?_
    refine TB (fun _ h => h.pick [1, 2, 3]) ?_ ?_
    ·
     skip
     refine ME (V := fun _ => .int .i64 (nuV (tkS 8 (ensS us.length (tkS 8 s))))) (fun W hS => rdcall (i := 4) (j := 0) hS rfl rfl (fun hr => rnum_t (s := tkS 8 (ensS us.length (tkS 8 s))) hr (by have := hb_4; omega))) ?_
     rintro ⟨rv5, hs_5⟩
     dsimp only
     refine MD 1 ?_
     have hb_6 : (tkS 8 (tkS 8 (ensS us.length (tkS 8 s)))).1.length ≤ 1000000 := Nat.le_trans (tkS_len _ _) hb_4
     refine TNp [1, 2, 3] [0, 1, 2] ?_
     refine TF (v := .agg (agF [.c (.int .i64 (nuV (ensS us.length (tkS 8 s)))), .c (.int .i64 (nuV (tkS 8 (ensS us.length (tkS 8 s))))), .c (.slice none 0 0)])) rfl (fun W hS => run_bld rfl rfl zer_direct_Entry plc_direct_Entry (fill_c (fill_c fill_n (l' := [.c (.int .i64 (nuV (ensS us.length (tkS 8 s)))), .c (.int .i64 (nuV (tkS 8 (ensS us.length (tkS 8 s))))), .c (.slice none 0 0)]) (m := [.c (.int .i64 (nuV (tkS 8 (ensS us.length (tkS 8 s)))))]) (hv := rfl) (hs := agF_setp (off := 1) 1 1) (hp := rfl) (hn := rfl) (hb := by show 1 + 1 ≤ 3; decide)) (l' := [.c (.int .i64 (nuV (ensS us.length (tkS 8 s)))), .c (.int .i64 0), .c (.slice none 0 0)]) (m := [.c (.int .i64 (nuV (ensS us.length (tkS 8 s))))]) (hv := rfl) (hs := agF_setp (off := 0) 0 1) (hp := rfl) (hn := rfl) (hb := by show 0 + 1 ≤ 3; decide))) ?_
     refine TE (fun _ h => h.pick [1, 2, 3]) ?_
     refine MN (z := agF [.c (.int .i64 0), .c (.int .i64 0), .c (.slice none 0 0)]) (t := 125) ?_
     intro p4_7
     refine TNp [2, 3, 4] [0, 1, 2] ?_
     refine TE (fun _ h => h.pick [2, 3, 4]) ?_
     refine MR 0 ?_ (hz := by rw [agF_size]; kernel_rfl) (hs := by first | (rw [agF_size, agF_size]; rfl) | rfl) (h1 := by exact (agF_one ⟨rfl, rfl, rfl, trivial⟩))
     refine TNp [2, 3, 4] [0, 1, 2] ?_
     refine TZ (fun _ h => h.pick [2, 3, 4]) fun W hS => ?_
     go_upto_region 5 with fail
     refine RL hS ?_
     clear hS
     refine MV ?_
     refine MV ?_
     refine MV ?_
     refine MG 4 ?_ (v := .pointer (some ⟨p, 0, none⟩))
     refine ME (V := fun x : Value × { u : Value // Sub u (txS 64 (tkS 8 (tkS 8 (ensS us.length (tkS 8 s))))).1 (sb rv5 (tkS 8 (tkS 8 (ensS us.length (tkS 8 s)))).1) } => x.1) (fun W hS => rdcallT (i := 5) (j := 1) (t := txV 64 (tkS 8 (tkS 8 (ensS us.length (tkS 8 s))))) hS rfl rfl (fun hr => rtext_t (s := tkS 8 (tkS 8 (ensS us.length (tkS 8 s)))) 64 hr (by have := hb_6; omega)) (fun _ _ => rfl)) ?_
     rintro ⟨ut8, rv8, hs_8⟩
     dsimp only
     refine MD 3 ?_
     have hb_9 : (txS 64 (tkS 8 (tkS 8 (ensS us.length (tkS 8 s))))).1.length ≤ 1000000 := Nat.le_trans (txS_len _ _) hb_6
     refine MV ?_
     refine MFact (fun W hS => (sl_cells (hS.osl (i := 0) rfl)).2) ?_
     intro oc_tx810
     refine MP 2 (v := ut8) (cs' := agF [.c (.int .i64 (nuV (ensS us.length (tkS 8 s)))), .c (.int .i64 (nuV (tkS 8 (ensS us.length (tkS 8 s))))), .c ut8]) ?_ (hs := by rw [agF_size]; exact Nat.le_of_ble_eq_true (by kernel_rfl)) (hc := agF_setc (off := 2) 2) (hv := fun W hS => sl_cells (hS.osl (i := 0) rfl))
     refine MZ fun W hS => ?_
     go_upto_region 6 with fail
     refine RL hS ?_
     clear hS
     refine MV ?_
     refine ML 2 ?_ (hs := by rw [agF_size]; kernel_rfl)
     refine MB (z := (agF [.c (.int .i64 (nuV (ensS us.length (tkS 8 s)))), .c (.int .i64 (nuV (tkS 8 (ensS us.length (tkS 8 s))))), .c ut8])) (t := 125) (n := 1) (c := 1) ?_ (hr := fun W _ => run_bsA rfl rfl rfl Try.underlying80 (by rw [agF_size]; kernel_rfl) (by rw [agF_size]; kernel_rfl) (by rw [agF_size]; exact Nat.le_of_ble_eq_true (by kernel_rfl)) (by rw [agF_size]; exact Nat.le_of_ble_eq_true (by kernel_rfl)))
     intro p28_11
     refine MAr 4 0 (tS := 80) (bytes := 40) (es := (List.map enC (ensV us (tkS 8 s)))) (by first | omega | (rw [List.length_map]; omega) | assumption) (e := (agF [.c (.int .i64 (nuV (ensS us.length (tkS 8 s)))), .c (.int .i64 (nuV (tkS 8 (ensS us.length (tkS 8 s))))), .c ut8]).toList) (hk := by rw [agF_size]; kernel_rfl) (h1 := by exact (agF_one ⟨rfl, rfl, oc_tx810, trivial⟩)) ?_
     intro v29_12
     refine MV ?_
     refine MZ fun W hS => ?_
     obtain ⟨hS, hfr⟩ := SH.enadd (us := us) (u := ut8) (s := (tkS 8 s)) (R := [.b p28_11 (agF [.c (.int .i64 (nuV (ensS us.length (tkS 8 s)))), .c (.int .i64 (nuV (tkS 8 (ensS us.length (tkS 8 s))))), .c ut8]) 125, .s rv8 ((txS 64 (tkS 8 (tkS 8 (ensS us.length (tkS 8 s))))).1), .b p4_7 (agF [.c (.int .i64 (nuV (ensS us.length (tkS 8 s)))), .c (.int .i64 (nuV (tkS 8 (ensS us.length (tkS 8 s))))), .c ut8]) 125, .r 125 3 v29_12 ((List.map enC (ensV us (tkS 8 s))) ++ [(agF [.c (.int .i64 (nuV (ensS us.length (tkS 8 s)))), .c (.int .i64 (nuV (tkS 8 (ensS us.length (tkS 8 s))))), .c ut8]).toList]), .b r #[.pointer (some ⟨p, 0, none⟩), .bool (cB 1024 s bad)] 115, .b p #[rv8, .int .i64 (txS 64 (tkS 8 (tkS 8 (ensS us.length (tkS 8 s))))).2] 141]) (i := 1) (j := 5) (a := 6) (b := 7) [0, 2, 3, 4, 6, 7] hS rfl rfl rfl rfl hfr (by dsimp only [pk, List.set, List.getElem?_cons_zero, List.getElem?_cons_succ]; first | done | exact rfl) (by decide)
     go_wp2
     go_roundw
     case rel => exact ⟨us ++ [ut8], v29_12, rv8, by rw [List.length_append]; simp only [List.length_cons, List.length_nil]; omega, by rw [List.length_append]; exact (sub_tr hs_8 (sub_tr hs_5 (sub_tr hs_3 hsub))), hfr, rfl, by rw [List.length_append]; go_num, (by rw [ens_map, List.length_append]; exact (hS.pick [4, 0, 2, 5, 6]))⟩
     case measure => (try rw [List.length_append]); simp [intOf]; omega
    ·
     skip
     refine MN (z := agF [.c (.int .i64 0), .c (.int .i64 0), .c (.slice none 0 0)]) (t := 125) ?_
     intro p4_13
     refine TNp [2, 3, 4] [0, 1, 2] ?_
     refine TE (fun _ h => h.pick [2, 3, 4]) ?_
     refine ME (V := fun _ => .int .i64 (nuV (tkS 8 (ensS us.length (tkS 8 s))))) (fun W hS => rdcall (i := 5) (j := 1) hS rfl rfl (fun hr => rnum_t (s := tkS 8 (ensS us.length (tkS 8 s))) hr (by have := hb_4; omega))) ?_
     rintro ⟨rv14, hs_14⟩
     dsimp only
     refine MD 2 ?_
     have hb_15 : (tkS 8 (tkS 8 (ensS us.length (tkS 8 s)))).1.length ≤ 1000000 := Nat.le_trans (tkS_len _ _) hb_4
     refine TNp [2, 3, 4] [0, 1, 2] ?_
     refine TF (v := .agg (agF [.c (.int .i64 (nuV (ensS us.length (tkS 8 s)))), .c (.int .i64 (nuV (tkS 8 (ensS us.length (tkS 8 s))))), .c (.slice none 0 0)])) rfl (fun W hS => run_bld rfl rfl zer_direct_Entry plc_direct_Entry (fill_c (fill_c fill_n (l' := [.c (.int .i64 (nuV (ensS us.length (tkS 8 s)))), .c (.int .i64 (nuV (tkS 8 (ensS us.length (tkS 8 s))))), .c (.slice none 0 0)]) (m := [.c (.int .i64 (nuV (tkS 8 (ensS us.length (tkS 8 s)))))]) (hv := rfl) (hs := agF_setp (off := 1) 1 1) (hp := rfl) (hn := rfl) (hb := by show 1 + 1 ≤ 3; decide)) (l' := [.c (.int .i64 (nuV (ensS us.length (tkS 8 s)))), .c (.int .i64 0), .c (.slice none 0 0)]) (m := [.c (.int .i64 (nuV (ensS us.length (tkS 8 s))))]) (hv := rfl) (hs := agF_setp (off := 0) 0 1) (hp := rfl) (hn := rfl) (hb := by show 0 + 1 ≤ 3; decide))) ?_
     refine TE (fun _ h => h.pick [2, 3, 4]) ?_
     refine MR 1 ?_ (hz := by rw [agF_size]; kernel_rfl) (hs := by first | (rw [agF_size, agF_size]; rfl) | rfl) (h1 := by exact (agF_one ⟨rfl, rfl, rfl, trivial⟩))
     refine TNp [2, 3, 4] [0, 1, 2] ?_
     refine TZ (fun _ h => h.pick [2, 3, 4]) fun W hS => ?_
     go_upto_region 5 with fail
     refine RL hS ?_
     clear hS
     refine MV ?_
     refine MV ?_
     refine MV ?_
     refine MG 4 ?_ (v := .pointer (some ⟨p, 0, none⟩))
     refine ME (V := fun x : Value × { u : Value // Sub u (txS 64 (tkS 8 (tkS 8 (ensS us.length (tkS 8 s))))).1 (sb rv14 (tkS 8 (tkS 8 (ensS us.length (tkS 8 s)))).1) } => x.1) (fun W hS => rdcallT (i := 5) (j := 0) (t := txV 64 (tkS 8 (tkS 8 (ensS us.length (tkS 8 s))))) hS rfl rfl (fun hr => rtext_t (s := tkS 8 (tkS 8 (ensS us.length (tkS 8 s)))) 64 hr (by have := hb_15; omega)) (fun _ _ => rfl)) ?_
     rintro ⟨ut16, rv16, hs_16⟩
     dsimp only
     refine MD 2 ?_
     have hb_17 : (txS 64 (tkS 8 (tkS 8 (ensS us.length (tkS 8 s))))).1.length ≤ 1000000 := Nat.le_trans (txS_len _ _) hb_15
     refine MV ?_
     refine MFact (fun W hS => (sl_cells (hS.osl (i := 0) rfl)).2) ?_
     intro oc_tx1618
     refine MP 2 (v := ut16) (cs' := agF [.c (.int .i64 (nuV (ensS us.length (tkS 8 s)))), .c (.int .i64 (nuV (tkS 8 (ensS us.length (tkS 8 s))))), .c ut16]) ?_ (hs := by rw [agF_size]; exact Nat.le_of_ble_eq_true (by kernel_rfl)) (hc := agF_setc (off := 2) 2) (hv := fun W hS => sl_cells (hS.osl (i := 0) rfl))
     refine MZ fun W hS => ?_
     go_upto_region 6 with fail
     refine RL hS ?_
     clear hS
     refine MV ?_
     refine ML 2 ?_ (hs := by rw [agF_size]; kernel_rfl)
     refine MB (z := (agF [.c (.int .i64 (nuV (ensS us.length (tkS 8 s)))), .c (.int .i64 (nuV (tkS 8 (ensS us.length (tkS 8 s))))), .c ut16])) (t := 125) (n := 1) (c := 1) ?_ (hr := fun W _ => run_bsA rfl rfl rfl Try.underlying80 (by rw [agF_size]; kernel_rfl) (by rw [agF_size]; kernel_rfl) (by rw [agF_size]; exact Nat.le_of_ble_eq_true (by kernel_rfl)) (by rw [agF_size]; exact Nat.le_of_ble_eq_true (by kernel_rfl)))
     intro p28_19
     refine MAr 4 0 (tS := 80) (bytes := 40) (es := (List.map enC (ensV us (tkS 8 s)))) (by first | omega | (rw [List.length_map]; omega) | assumption) (e := (agF [.c (.int .i64 (nuV (ensS us.length (tkS 8 s)))), .c (.int .i64 (nuV (tkS 8 (ensS us.length (tkS 8 s))))), .c ut16]).toList) (hk := by rw [agF_size]; kernel_rfl) (h1 := by exact (agF_one ⟨rfl, rfl, oc_tx1618, trivial⟩)) ?_
     intro v29_20
     refine MV ?_
     refine MZ fun W hS => ?_
     obtain ⟨hS, hfr⟩ := SH.enadd (us := us) (u := ut16) (s := (tkS 8 s)) (R := [.b p28_19 (agF [.c (.int .i64 (nuV (ensS us.length (tkS 8 s)))), .c (.int .i64 (nuV (tkS 8 (ensS us.length (tkS 8 s))))), .c ut16]) 125, .s rv16 ((txS 64 (tkS 8 (tkS 8 (ensS us.length (tkS 8 s))))).1), .b p4_13 (agF [.c (.int .i64 (nuV (ensS us.length (tkS 8 s)))), .c (.int .i64 (nuV (tkS 8 (ensS us.length (tkS 8 s))))), .c ut16]) 125, .r 125 3 v29_20 ((List.map enC (ensV us (tkS 8 s))) ++ [(agF [.c (.int .i64 (nuV (ensS us.length (tkS 8 s)))), .c (.int .i64 (nuV (tkS 8 (ensS us.length (tkS 8 s))))), .c ut16]).toList]), .b r #[.pointer (some ⟨p, 0, none⟩), .bool (cB 1024 s bad)] 115, .b p #[rv16, .int .i64 (txS 64 (tkS 8 (tkS 8 (ensS us.length (tkS 8 s))))).2] 141]) (i := 1) (j := 5) (a := 6) (b := 7) [0, 2, 3, 4, 6, 7] hS rfl rfl rfl rfl hfr (by dsimp only [pk, List.set, List.getElem?_cons_zero, List.getElem?_cons_succ]; first | done | exact rfl) (by decide)
     go_wp2
     go_roundw
     case rel => exact ⟨us ++ [ut16], v29_20, rv16, by rw [List.length_append]; simp only [List.length_cons, List.length_nil]; omega, by rw [List.length_append]; exact (sub_tr hs_16 (sub_tr hs_14 (sub_tr hs_3 hsub))), hfr, rfl, by rw [List.length_append]; go_num, (by rw [ens_map, List.length_append]; exact (hS.pick [4, 0, 2, 5, 6]))⟩
     case measure => (try rw [List.length_append]); simp [intOf]; omega
   ·
    skip
    refine MN (z := agF [.c (.int .i64 0), .c (.int .i64 0), .c (.slice none 0 0)]) (t := 125) ?_
    intro p4_21
    refine TNp [1, 2, 4] [0, 1, 2] ?_
    refine TE (fun _ h => h.pick [1, 2, 4]) ?_
    refine ME (V := fun _ => .int .i64 (nuV (ensS us.length (tkS 8 s)))) (fun W hS => rdcall (i := 5) (j := 3) hS rfl rfl (fun hr => rnum_t (s := ensS us.length (tkS 8 s)) hr (by have := (Nat.le_trans (ensS_len us.length _) (Nat.le_trans (tkS_len 8 s) hb0)); omega))) ?_
    rintro ⟨rv22, hs_22⟩
    dsimp only
    refine MD 4 ?_
    have hb_23 : (tkS 8 (ensS us.length (tkS 8 s))).1.length ≤ 1000000 := Nat.le_trans (tkS_len _ _) (Nat.le_trans (ensS_len us.length _) (Nat.le_trans (tkS_len 8 s) hb0))
    refine TNp [2, 3, 4] [0, 1, 2] ?_
    refine TE (fun _ h => h.pick [2, 3, 4]) ?_
    refine ME (V := fun _ => .int .i64 (nuV (tkS 8 (ensS us.length (tkS 8 s))))) (fun W hS => rdcall (i := 5) (j := 0) hS rfl rfl (fun hr => rnum_t (s := tkS 8 (ensS us.length (tkS 8 s))) hr (by have := hb_23; omega))) ?_
    rintro ⟨rv24, hs_24⟩
    dsimp only
    refine MD 1 ?_
    have hb_25 : (tkS 8 (tkS 8 (ensS us.length (tkS 8 s)))).1.length ≤ 1000000 := Nat.le_trans (tkS_len _ _) hb_23
    refine TNp [2, 3, 4] [0, 1, 2] ?_
    refine TF (v := .agg (agF [.c (.int .i64 (nuV (ensS us.length (tkS 8 s)))), .c (.int .i64 (nuV (tkS 8 (ensS us.length (tkS 8 s))))), .c (.slice none 0 0)])) rfl (fun W hS => run_bld rfl rfl zer_direct_Entry plc_direct_Entry (fill_c (fill_c fill_n (l' := [.c (.int .i64 (nuV (ensS us.length (tkS 8 s)))), .c (.int .i64 (nuV (tkS 8 (ensS us.length (tkS 8 s))))), .c (.slice none 0 0)]) (m := [.c (.int .i64 (nuV (tkS 8 (ensS us.length (tkS 8 s)))))]) (hv := rfl) (hs := agF_setp (off := 1) 1 1) (hp := rfl) (hn := rfl) (hb := by show 1 + 1 ≤ 3; decide)) (l' := [.c (.int .i64 (nuV (ensS us.length (tkS 8 s)))), .c (.int .i64 0), .c (.slice none 0 0)]) (m := [.c (.int .i64 (nuV (ensS us.length (tkS 8 s))))]) (hv := rfl) (hs := agF_setp (off := 0) 0 1) (hp := rfl) (hn := rfl) (hb := by show 0 + 1 ≤ 3; decide))) ?_
    refine TE (fun _ h => h.pick [2, 3, 4]) ?_
    refine MR 1 ?_ (hz := by rw [agF_size]; kernel_rfl) (hs := by first | (rw [agF_size, agF_size]; rfl) | rfl) (h1 := by exact (agF_one ⟨rfl, rfl, rfl, trivial⟩))
    refine TNp [2, 3, 4] [0, 1, 2] ?_
    refine TZ (fun _ h => h.pick [2, 3, 4]) fun W hS => ?_
    go_upto_region 5 with fail
    refine RL hS ?_
    clear hS
    refine MV ?_
    refine MV ?_
    refine MV ?_
    refine MG 4 ?_ (v := .pointer (some ⟨p, 0, none⟩))
    refine ME (V := fun x : Value × { u : Value // Sub u (txS 64 (tkS 8 (tkS 8 (ensS us.length (tkS 8 s))))).1 (sb rv24 (tkS 8 (tkS 8 (ensS us.length (tkS 8 s)))).1) } => x.1) (fun W hS => rdcallT (i := 5) (j := 0) (t := txV 64 (tkS 8 (tkS 8 (ensS us.length (tkS 8 s))))) hS rfl rfl (fun hr => rtext_t (s := tkS 8 (tkS 8 (ensS us.length (tkS 8 s)))) 64 hr (by have := hb_25; omega)) (fun _ _ => rfl)) ?_
    rintro ⟨ut26, rv26, hs_26⟩
    dsimp only
    refine MD 2 ?_
    have hb_27 : (txS 64 (tkS 8 (tkS 8 (ensS us.length (tkS 8 s))))).1.length ≤ 1000000 := Nat.le_trans (txS_len _ _) hb_25
    refine MV ?_
    refine MFact (fun W hS => (sl_cells (hS.osl (i := 0) rfl)).2) ?_
    intro oc_tx2628
    refine MP 2 (v := ut26) (cs' := agF [.c (.int .i64 (nuV (ensS us.length (tkS 8 s)))), .c (.int .i64 (nuV (tkS 8 (ensS us.length (tkS 8 s))))), .c ut26]) ?_ (hs := by rw [agF_size]; exact Nat.le_of_ble_eq_true (by kernel_rfl)) (hc := agF_setc (off := 2) 2) (hv := fun W hS => sl_cells (hS.osl (i := 0) rfl))
    refine MZ fun W hS => ?_
    go_upto_region 6 with fail
    refine RL hS ?_
    clear hS
    refine MV ?_
    refine ML 2 ?_ (hs := by rw [agF_size]; kernel_rfl)
    refine MB (z := (agF [.c (.int .i64 (nuV (ensS us.length (tkS 8 s)))), .c (.int .i64 (nuV (tkS 8 (ensS us.length (tkS 8 s))))), .c ut26])) (t := 125) (n := 1) (c := 1) ?_ (hr := fun W _ => run_bsA rfl rfl rfl Try.underlying80 (by rw [agF_size]; kernel_rfl) (by rw [agF_size]; kernel_rfl) (by rw [agF_size]; exact Nat.le_of_ble_eq_true (by kernel_rfl)) (by rw [agF_size]; exact Nat.le_of_ble_eq_true (by kernel_rfl)))
    intro p28_29
    refine MAr 4 0 (tS := 80) (bytes := 40) (es := (List.map enC (ensV us (tkS 8 s)))) (by first | omega | (rw [List.length_map]; omega) | assumption) (e := (agF [.c (.int .i64 (nuV (ensS us.length (tkS 8 s)))), .c (.int .i64 (nuV (tkS 8 (ensS us.length (tkS 8 s))))), .c ut26]).toList) (hk := by rw [agF_size]; kernel_rfl) (h1 := by exact (agF_one ⟨rfl, rfl, oc_tx2628, trivial⟩)) ?_
    intro v29_30
    refine MV ?_
    refine MZ fun W hS => ?_
    obtain ⟨hS, hfr⟩ := SH.enadd (us := us) (u := ut26) (s := (tkS 8 s)) (R := [.b p28_29 (agF [.c (.int .i64 (nuV (ensS us.length (tkS 8 s)))), .c (.int .i64 (nuV (tkS 8 (ensS us.length (tkS 8 s))))), .c ut26]) 125, .s rv26 ((txS 64 (tkS 8 (tkS 8 (ensS us.length (tkS 8 s))))).1), .b p4_21 (agF [.c (.int .i64 (nuV (ensS us.length (tkS 8 s)))), .c (.int .i64 (nuV (tkS 8 (ensS us.length (tkS 8 s))))), .c ut26]) 125, .r 125 3 v29_30 ((List.map enC (ensV us (tkS 8 s))) ++ [(agF [.c (.int .i64 (nuV (ensS us.length (tkS 8 s)))), .c (.int .i64 (nuV (tkS 8 (ensS us.length (tkS 8 s))))), .c ut26]).toList]), .b r #[.pointer (some ⟨p, 0, none⟩), .bool (cB 1024 s bad)] 115, .b p #[rv26, .int .i64 (txS 64 (tkS 8 (tkS 8 (ensS us.length (tkS 8 s))))).2] 141]) (i := 1) (j := 5) (a := 6) (b := 7) [0, 2, 3, 4, 6, 7] hS rfl rfl rfl rfl hfr (by dsimp only [pk, List.set, List.getElem?_cons_zero, List.getElem?_cons_succ]; first | done | exact rfl) (by decide)
    go_wp2
    go_roundw
    case rel => exact ⟨us ++ [ut26], v29_30, rv26, by rw [List.length_append]; simp only [List.length_cons, List.length_nil]; omega, by rw [List.length_append]; exact (sub_tr hs_26 (sub_tr hs_24 (sub_tr hs_22 hsub))), hfr, rfl, by rw [List.length_append]; go_num, (by rw [ens_map, List.length_append]; exact (hS.pick [4, 0, 2, 5, 6]))⟩
    case measure => (try rw [List.length_append]); simp [intOf]; omega
  ·
   have _f := hlt
   go_upto_region 3 with fail
   refine RL hS ?_
   clear hS
   refine MW ?_ (v := .bool false) (hv := by intro W; go_simp; first | done | omega)
   refine MZ fun W hS => ?_
   have hcu : cV 1024 s = us.length := by omega
   have hS2 := hS.pick [1, 2, 3, 4, 0]
   have hsub2 := hsub
   rw [← hcu] at hS2 hsub2
   go_wp2
   exact bodyPost_ret (v := sv) (by simp only [results, Try.results70]; first | (go_simp; done) | (go_simp; rfl)) rfl (show WRetP r p v s bad (ensS (cV 1024 s) (tkS 8 s)) (cB 1024 s bad) (α := { y : Value × List Value // cV 1024 s = y.2.length }) (fun y => y.1.1) (fun y => [.r 125 3 y.1.1 (List.map enC (ensV y.1.2 (tkS 8 s)))]) (fun y => enFt (ensV y.1.2 (tkS 8 s))) (fun y => enK (ensV y.1.2 (tkS 8 s))) w _ _ from ⟨⟨(sv, us), hcu⟩, rv, rfl, hS2, hsub2, hfr⟩)
end Go.Proofs.Ytlbgelbhhibikaa.Ww
