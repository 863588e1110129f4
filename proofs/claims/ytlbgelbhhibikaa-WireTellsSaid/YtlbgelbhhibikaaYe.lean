/- wire's reader: what stands under a root, members. Conditions: memory holds what is written. -/
import Derived.Test.YtlbgelbhhibikaaWs
import Derived.Test.YtlbgelbhhibikaaYb
set_option linter.unusedSimpArgs false
set_option linter.unusedVariables false
namespace Go.Proofs.Ytlbgelbhhibikaa.Ww
set_option maxHeartbeats 6000000
set_option maxRecDepth 100000
open Go.RowKit
attribute [local irreducible] wpList wpTr wpX
set_option linter.unusedSimpArgs false
def rU1 (s : RSt) : RSt := (takeM s).2
def rU2 (s : RSt) : RSt := tkS 8 (rU1 s)
def rU3 (s : RSt) : RSt := tkS 32 (rU2 s)
def rU4 (s : RSt) : RSt := txS (64 : Nat) (rU3 s)
def rU5 (s : RSt) : RSt := tkS 32 (rU4 s)
def rUS (s : RSt) : RSt := sumsS (cV 256 (rU5 s)) (tkS 8 (rU5 s))
def rUn (s : RSt) : Un := ⟨(takeM s).1.1, (takeM s).1.2.1, (takeM s).1.2.2.1, (takeM s).1.2.2.2.1, nuV (rU1 s), suV (rU2 s), le (rawV 64 (rU3 s)), suV (rU4 s), sumsV (cV 256 (rU5 s)) (tkS 8 (rU5 s))⟩
def rUB (s : RSt) (bad : Bool) : Bool := cB 256 (rU5 s) (rawB 64 (rU3 s) (pB2 s bad))
theorem rUS_len (s : RSt) : (rUS s).1.length ≤ s.1.length := by
 have h1 := takeM_len s
 have h2 := tkS_len 8 (rU1 s)
 have h3 := tkS_len 32 (rU2 s)
 have h4 := txS_len (64 : Nat) (rU3 s)
 have h5 := tkS_len 32 (rU4 s)
 have h6 := tkS_len 8 (rU5 s)
 have h7 := sumsS_len (cV 256 (rU5 s)) (tkS 8 (rU5 s))
 exact Nat.le_trans h7 (Nat.le_trans h6 (Nat.le_trans h5 (Nat.le_trans h4 (Nat.le_trans h3 (Nat.le_trans h2 h1)))))
def rM1 (s : RSt) : RSt := txS 16 s
def rM2 (s : RSt) : RSt := flS (rM1 s)
def rM3 (s : RSt) : RSt := tkS 8 (rM2 s)
def rMS (s : RSt) : RSt := tkS 32 (rM3 s)
def rMb (s : RSt) : Mbr := ⟨txV 16 s, flV (rM1 s), nuV (rM2 s), suV (rM3 s)⟩
theorem rMS_len (s : RSt) : (rMS s).1.length ≤ s.1.length := by
 have h1 := txS_len 16 s
 have h2 := flS_len (rM1 s)
 have h3 := tkS_len 8 (rM2 s)
 have h4 := tkS_len 32 (rM3 s)
 exact Nat.le_trans h4 (Nat.le_trans h3 (Nat.le_trans h2 h1))
attribute [local irreducible] lb be8 eI tB txL txB txV txS tkS byV nuV suV enV takeM flV flS rawV rawB pB2 sumsV sumsS cV cB

theorem zer_super_Member : zer Try.prog 83 = some (some (agF [.c (.slice none 0 0), .c (.bool false), .c (.int .i64 0), .a 32 0])) := by kernel_rfl
theorem plc_super_Member : plc Try.prog 83 = some [(0, 1), (1, 1), (2, 1), (3, 32)] := by kernel_rfl
theorem wrunder_c {r p : Nat} {v : Value} {s : RSt} {bad : Bool} (hb0 : s.1.length ≤ 1000000) (w : World) (h_ : SH [r, p] w w (wrdL r p v s bad)) :
  Calls Try.prog 69 #[.pointer (some ⟨r, 0, none⟩)] w fun e w' => WRet r p v s bad (rUS s) (rUB s bad) (α := Value × Value) (fun y : Value × Value => .agg (unF (rUn s) y.1 y.2)) (fun y : Value × Value => [.r 27 32 y.1 (List.map b32l (takeM s).1.1), .r 27 32 y.2 (List.map b32l (sumsV (cV 256 (rU5 s)) (tkS 8 (rU5 s))))]) w w' e := by
 have hS := h_
 go_enter Try.func69, Try.ntmps69
 go_upto_region 0 with fail
 refine RL hS ?_
 clear hS
 refine MN (z := agF [.c (.slice none 0 0), .c (.bool false), .a 32 0, .a 32 0, .c (.int .i64 0), .a 32 0, .a 64 0, .a 32 0, .c (.slice none 0 0)]) (t := 79) ?_
 intro p2_1
 refine MZ fun W hS => ?_
 go_upto_region 1 with fail
 refine RL hS ?_
 clear hS
 refine MN (z := agF [.c (.slice none 0 0), .c (.bool false), .a 32 0, .a 32 0, .c (.int .i64 0), .a 32 0, .a 64 0, .a 32 0, .c (.slice none 0 0)]) (t := 79) ?_
 intro p3_2
 refine MZ fun W hS => ?_
 go_upto_region 2 with fail
 refine RL hS ?_
 clear hS
 refine MV ?_
 refine ME (V := fun x : { y : (Value) × Value // Sub y.2 ((takeM s).2).1 (sb v (s).1) } => .agg (pfA x.1.1 (takeM s).1.2.1 (takeM s).1.2.2.1 (takeM s).1.2.2.2.1)) (fun W hS => wrcall (V := fun y : Value => .agg (pfA y (takeM s).1.2.1 (takeM s).1.2.2.1 (takeM s).1.2.2.2.1)) (X := fun y : Value => [.r 27 32 y (List.map b32l (takeM s).1.1)]) [2, 3, 4] [0, 1] hS (fun hT => wrproof_c hb0 W hT) (fun _ _ => ⟨.inr ⟨rfl, rfl⟩, .inr ⟨rfl, rfl⟩, ⟨.inr ⟨rfl, rfl⟩, trivial⟩⟩)) ?_
 rintro ⟨⟨u_3, rv3⟩, hs_3⟩
 dsimp only
 have hb_4 : (rU1 s).1.length ≤ 1000000 := Nat.le_trans (takeM_len _) hb0
 refine MT (H' := [.s rv3 ((rU1 s).1), .b r #[.pointer (some ⟨p, 0, none⟩), .bool (pB2 s bad)] 115, .b p #[rv3, .int .i64 (rU1 s).2] 141, .r 27 32 u_3 (List.map b32l (takeM s).1.1), .b p3_2 (agF [.c (.slice none 0 0), .c (.bool false), .a 32 0, .a 32 0, .c (.int .i64 0), .a 32 0, .a 64 0, .a 32 0, .c (.slice none 0 0)]) 79, .b p2_1 (agF [.c (.slice none 0 0), .c (.bool false), .a 32 0, .a 32 0, .c (.int .i64 0), .a 32 0, .a 64 0, .a 32 0, .c (.slice none 0 0)]) 79]) (fun W hS => hS) ?_
 refine MFact (fun W hS => (hS.row (i := 3) rfl).cells) ?_
 intro hsc3
 refine MV ?_
 refine Mq 4 (new := agF [.c u_3, .c (.bool (takeM s).1.2.1), .a 32 ((takeM s).1.2.2.1), .a 32 ((takeM s).1.2.2.2.1), .c (.int .i64 0), .a 32 0, .a 64 0, .a 32 0, .c (.slice none 0 0)]) ?_ (hc := agF_setp (off := 0) 0 4) (hs := by rw [agF_size, agF_size]; exact Nat.le_of_ble_eq_true (by kernel_rfl)) (h1 := by exact (agF_one ⟨hsc3.2, rfl, trivial⟩))
 refine MZ fun W hS => ?_
 go_upto_region 3 with fail
 refine RL hS ?_
 clear hS
 refine MV ?_
 refine MV ?_
 refine MV ?_
 refine MG 1 ?_ (v := .pointer (some ⟨p, 0, none⟩))
 refine ME (V := fun _ => .int .i64 (nuV (rU1 s))) (fun W hS => rdcall (i := 2) (j := 0) hS rfl rfl (fun hr => rnum_t (s := rU1 s) hr (by have := hb_4; omega))) ?_
 rintro ⟨rv5, hs_5⟩
 dsimp only
 refine MD 1 ?_
 have hb_6 : (rU2 s).1.length ≤ 1000000 := Nat.le_trans (tkS_len _ _) hb_4
 refine MT (H' := [.s rv5 ((rU2 s).1), .b r #[.pointer (some ⟨p, 0, none⟩), .bool (pB2 s bad)] 115, .b p #[rv5, .int .i64 (rU2 s).2] 141, .r 27 32 u_3 (List.map b32l (takeM s).1.1), .b p3_2 (agF [.c u_3, .c (.bool (takeM s).1.2.1), .a 32 ((takeM s).1.2.2.1), .a 32 ((takeM s).1.2.2.2.1), .c (.int .i64 0), .a 32 0, .a 64 0, .a 32 0, .c (.slice none 0 0)]) 79, .b p2_1 (agF [.c (.slice none 0 0), .c (.bool false), .a 32 0, .a 32 0, .c (.int .i64 0), .a 32 0, .a 64 0, .a 32 0, .c (.slice none 0 0)]) 79]) (fun W hS => hS) ?_
 refine MV ?_
 refine MV ?_
 refine MP 4 (v := .int .i64 (nuV (rU1 s))) (cs' := agF [.c u_3, .c (.bool (takeM s).1.2.1), .a 32 ((takeM s).1.2.2.1), .a 32 ((takeM s).1.2.2.2.1), .c (.int .i64 (nuV (rU1 s))), .a 32 0, .a 64 0, .a 32 0, .c (.slice none 0 0)]) ?_ (hs := by rw [agF_size]; exact Nat.le_of_ble_eq_true (by kernel_rfl)) (hc := agF_setc (off := 66) 4)
 refine MZ fun W hS => ?_
 go_upto_region 4 with fail
 refine RL hS ?_
 clear hS
 refine MV ?_
 refine MV ?_
 refine MV ?_
 refine MG 1 ?_ (v := .pointer (some ⟨p, 0, none⟩))
 refine ME (V := fun _ => .agg (arrK .u8 32 (byt (suV (rU2 s))))) (fun W hS => rdcall (i := 2) (j := 0) hS rfl rfl (fun hr => rsum_t (s := rU2 s) hr (by have := hb_6; omega))) ?_
 rintro ⟨rv7, hs_7⟩
 dsimp only
 refine MD 1 ?_
 have hb_8 : (rU3 s).1.length ≤ 1000000 := Nat.le_trans (tkS_len _ _) hb_6
 refine MT (H' := [.s rv7 ((rU3 s).1), .b r #[.pointer (some ⟨p, 0, none⟩), .bool (pB2 s bad)] 115, .b p #[rv7, .int .i64 (rU3 s).2] 141, .r 27 32 u_3 (List.map b32l (takeM s).1.1), .b p3_2 (agF [.c u_3, .c (.bool (takeM s).1.2.1), .a 32 ((takeM s).1.2.2.1), .a 32 ((takeM s).1.2.2.2.1), .c (.int .i64 (nuV (rU1 s))), .a 32 0, .a 64 0, .a 32 0, .c (.slice none 0 0)]) 79, .b p2_1 (agF [.c (.slice none 0 0), .c (.bool false), .a 32 0, .a 32 0, .c (.int .i64 0), .a 32 0, .a 64 0, .a 32 0, .c (.slice none 0 0)]) 79]) (fun W hS => hS) ?_
 refine MV ?_
 refine MV ?_
 refine Mq 4 (new := agF [.c u_3, .c (.bool (takeM s).1.2.1), .a 32 ((takeM s).1.2.2.1), .a 32 ((takeM s).1.2.2.2.1), .c (.int .i64 (nuV (rU1 s))), .a 32 (suV (rU2 s)), .a 64 0, .a 32 0, .c (.slice none 0 0)]) ?_ (hc := agF_seta (off := 67) 5) (hs := by rw [arrK_size, agF_size]; exact Nat.le_of_ble_eq_true (by kernel_rfl))
 refine MZ fun W hS => ?_
 go_upto_region 5 with fail
 refine RL hS ?_
 clear hS
 refine MV ?_
 refine ME (V := fun x : { y : (Nat × Nat) × Value // Sub y.2 (txS (64 : Nat) (rU3 s)).1 (sb rv7 (rU3 s).1) } => .slice (some ⟨x.1.1.1, 0, none⟩) 64 x.1.1.2) (fun W hS => wrcall (V := fun y : Nat × Nat => .slice (some ⟨y.1, 0, none⟩) 64 y.2) (X := fun y : Nat × Nat => [.o (.slice (some ⟨y.1, 0, none⟩) 64 y.2) (rawV 64 (rU3 s))]) [1, 2, 0] [3, 4, 5] hS (fun hT => wraw_c (n := 64) (by decide) (by decide) hb_8 W hT) (fun _ _ => ⟨.inr ⟨rfl, rfl⟩, .inr ⟨rfl, rfl⟩, ⟨.inr ⟨rfl, rfl⟩, trivial⟩⟩)) ?_
 rintro ⟨⟨⟨g9, c9⟩, rv9⟩, hs_9⟩
 dsimp only
 have hb_10 : (rU4 s).1.length ≤ 1000000 := Nat.le_trans (txS_len _ _) hb_8
 refine MT (H' := [.s rv9 ((rU4 s).1), .b r #[.pointer (some ⟨p, 0, none⟩), .bool (rawB 64 (rU3 s) (pB2 s bad))] 115, .b p #[rv9, .int .i64 (rU4 s).2] 141, .o (.slice (some ⟨g9, 0, none⟩) 64 c9) (rawV 64 (rU3 s)), .r 27 32 u_3 (List.map b32l (takeM s).1.1), .b p3_2 (agF [.c u_3, .c (.bool (takeM s).1.2.1), .a 32 ((takeM s).1.2.2.1), .a 32 ((takeM s).1.2.2.2.1), .c (.int .i64 (nuV (rU1 s))), .a 32 (suV (rU2 s)), .a 64 0, .a 32 0, .c (.slice none 0 0)]) 79, .b p2_1 (agF [.c (.slice none 0 0), .c (.bool false), .a 32 0, .a 32 0, .c (.int .i64 0), .a 32 0, .a 64 0, .a 32 0, .c (.slice none 0 0)]) 79]) (fun W hS => hS) ?_
 refine MW ?_ (v := .pointer (some ⟨g9, 0, none⟩)) (hv := fun _ => run_s2a rfl rfl Try.underlying75)
 refine MF (v := .agg (arrK .u8 64 (byt (le (rawV 64 (rU3 s)))))) (fun W hS => run_atsub rfl rfl (own_cells (hS.own (i := 3) rfl) rawV_len (by decide)) (by kernel_rfl) (by rw [arrK_size]; kernel_rfl)) ?_
 refine MV ?_
 refine MV ?_
 refine Mq 5 (new := agF [.c u_3, .c (.bool (takeM s).1.2.1), .a 32 ((takeM s).1.2.2.1), .a 32 ((takeM s).1.2.2.2.1), .c (.int .i64 (nuV (rU1 s))), .a 32 (suV (rU2 s)), .a 64 (le (rawV 64 (rU3 s))), .a 32 0, .c (.slice none 0 0)]) ?_ (hc := agF_seta (off := 99) 6) (hs := by rw [arrK_size, agF_size]; exact Nat.le_of_ble_eq_true (by kernel_rfl))
 refine MZ fun W hS => ?_
 go_upto_region 6 with fail
 refine RL hS ?_
 clear hS
 refine MV ?_
 refine MV ?_
 refine MV ?_
 refine MG 1 ?_ (v := .pointer (some ⟨p, 0, none⟩))
 refine ME (V := fun _ => .agg (arrK .u8 32 (byt (suV (rU4 s))))) (fun W hS => rdcall (i := 2) (j := 0) hS rfl rfl (fun hr => rsum_t (s := rU4 s) hr (by have := hb_10; omega))) ?_
 rintro ⟨rv11, hs_11⟩
 dsimp only
 refine MD 1 ?_
 have hb_12 : (rU5 s).1.length ≤ 1000000 := Nat.le_trans (tkS_len _ _) hb_10
 refine MT (H' := [.s rv11 ((rU5 s).1), .b r #[.pointer (some ⟨p, 0, none⟩), .bool (rawB 64 (rU3 s) (pB2 s bad))] 115, .b p #[rv11, .int .i64 (rU5 s).2] 141, .o (.slice (some ⟨g9, 0, none⟩) 64 c9) (rawV 64 (rU3 s)), .r 27 32 u_3 (List.map b32l (takeM s).1.1), .b p3_2 (agF [.c u_3, .c (.bool (takeM s).1.2.1), .a 32 ((takeM s).1.2.2.1), .a 32 ((takeM s).1.2.2.2.1), .c (.int .i64 (nuV (rU1 s))), .a 32 (suV (rU2 s)), .a 64 (le (rawV 64 (rU3 s))), .a 32 0, .c (.slice none 0 0)]) 79, .b p2_1 (agF [.c (.slice none 0 0), .c (.bool false), .a 32 0, .a 32 0, .c (.int .i64 0), .a 32 0, .a 64 0, .a 32 0, .c (.slice none 0 0)]) 79]) (fun W hS => hS) ?_
 refine MV ?_
 refine Mq 5 (new := agF [.c u_3, .c (.bool (takeM s).1.2.1), .a 32 ((takeM s).1.2.2.1), .a 32 ((takeM s).1.2.2.2.1), .c (.int .i64 (nuV (rU1 s))), .a 32 (suV (rU2 s)), .a 64 (le (rawV 64 (rU3 s))), .a 32 (suV (rU4 s)), .c (.slice none 0 0)]) ?_ (hc := agF_seta (off := 163) 7) (hs := by rw [arrK_size, agF_size]; exact Nat.le_of_ble_eq_true (by kernel_rfl))
 refine MZ fun W hS => ?_
 go_upto_region 7 with fail
 refine RL hS ?_
 clear hS
 refine MV ?_
 refine ME (V := fun x : { y : (Value) × Value // Sub y.2 (sumsS (cV 256 (rU5 s)) (tkS 8 (rU5 s))).1 (sb rv11 (rU5 s).1) } => x.1.1) (fun W hS => wrcall (V := fun y : Value => y) (X := fun y : Value => [.r 27 32 y (List.map b32l (sumsV (cV 256 (rU5 s)) (tkS 8 (rU5 s))))]) [1, 2, 0] [3, 4, 5, 6] hS (fun hT => wrsums_c hb_12 W hT) (fun _ _ => ⟨.inr ⟨rfl, rfl⟩, .inr ⟨rfl, rfl⟩, ⟨.inr ⟨rfl, rfl⟩, trivial⟩⟩)) ?_
 rintro ⟨⟨u_13, rv13⟩, hs_13⟩
 dsimp only
 have hb_14 : (rUS s).1.length ≤ 1000000 := Nat.le_trans (Nat.le_trans (sumsS_len _ _) (tkS_len _ _)) hb_12
 refine MT (H' := [.s rv13 ((rUS s).1), .b r #[.pointer (some ⟨p, 0, none⟩), .bool (cB 256 (rU5 s) (rawB 64 (rU3 s) (pB2 s bad)))] 115, .b p #[rv13, .int .i64 (rUS s).2] 141, .r 27 32 u_13 (List.map b32l (sumsV (cV 256 (rU5 s)) (tkS 8 (rU5 s)))), .o (.slice (some ⟨g9, 0, none⟩) 64 c9) (rawV 64 (rU3 s)), .r 27 32 u_3 (List.map b32l (takeM s).1.1), .b p3_2 (agF [.c u_3, .c (.bool (takeM s).1.2.1), .a 32 ((takeM s).1.2.2.1), .a 32 ((takeM s).1.2.2.2.1), .c (.int .i64 (nuV (rU1 s))), .a 32 (suV (rU2 s)), .a 64 (le (rawV 64 (rU3 s))), .a 32 (suV (rU4 s)), .c (.slice none 0 0)]) 79, .b p2_1 (agF [.c (.slice none 0 0), .c (.bool false), .a 32 0, .a 32 0, .c (.int .i64 0), .a 32 0, .a 64 0, .a 32 0, .c (.slice none 0 0)]) 79]) (fun W hS => hS) ?_
 refine MFact (fun W hS => (hS.row (i := 3) rfl).cells) ?_
 intro hsc13
 refine MV ?_
 refine MP 6 (v := u_13) (cs' := agF [.c u_3, .c (.bool (takeM s).1.2.1), .a 32 ((takeM s).1.2.2.1), .a 32 ((takeM s).1.2.2.2.1), .c (.int .i64 (nuV (rU1 s))), .a 32 (suV (rU2 s)), .a 64 (le (rawV 64 (rU3 s))), .a 32 (suV (rU4 s)), .c u_13]) ?_ (hs := by rw [agF_size]; exact Nat.le_of_ble_eq_true (by kernel_rfl)) (hc := agF_setc (off := 195) 8) (hv := fun W hS => Row.cells (hS.row (i := 3) rfl))
 refine MZ fun W hS => ?_
 go_upto_region 8 with fail
 refine RL hS ?_
 clear hS
 refine ML 6 ?_ (hs := by rw [agF_size]; kernel_rfl)
 refine MR 7 ?_ (hz := by rw [agF_size]; kernel_rfl) (hs := by first | (rw [agF_size, agF_size]; rfl) | rfl) (h1 := by exact (agF_one ⟨hsc3.2, rfl, rfl, hsc13.2, trivial⟩))
 refine MZ fun W hS => ?_
 go_wp2
 first | exact bodyPost_ret (res_cell1 rfl rfl (hS.blk (i := 7) rfl) (by kernel_rfl) (by rw [agF_size]; kernel_rfl)) rfl ⟨(u_3, u_13), _, rfl, hS.pick [0, 1, 2, 5, 3], (sub_tr hs_13 (sub_tr hs_11 (sub_tr hs_9 (sub_tr hs_7 (sub_tr hs_5 (sub_tr hs_3 sub_refl))))))⟩ | exact bodyPost_end (res_cell1 rfl rfl (hS.blk (i := 7) rfl) (by kernel_rfl) (by rw [agF_size]; kernel_rfl)) rfl ⟨(u_3, u_13), _, rfl, hS.pick [0, 1, 2, 5, 3], (sub_tr hs_13 (sub_tr hs_11 (sub_tr hs_9 (sub_tr hs_7 (sub_tr hs_5 (sub_tr hs_3 sub_refl))))))⟩
theorem wrmember_c {r p : Nat} {v : Value} {s : RSt} {bad : Bool} (hb0 : s.1.length ≤ 1000000) (w : World) (h_ : SH [r, p] w w (wrdL r p v s bad)) :
  Calls Try.prog 72 #[.pointer (some ⟨r, 0, none⟩)] w fun e w' => WRet r p v s bad (rMS s) bad (α := Value) (fun y : Value => .agg (mbF (rMb s) y)) (fun y : Value => [.o y (txV 16 s)]) w w' e := by
 have hS := h_
 go_enter Try.func72, Try.ntmps72
 go_upto_region 0 with fail
 refine RL hS ?_
 clear hS
 refine MN (z := agF [.c (.slice none 0 0), .c (.bool false), .c (.int .i64 0), .a 32 0]) (t := 83) ?_
 intro p2_1
 refine MZ fun W hS => ?_
 go_upto_region 1 with fail
 refine RL hS ?_
 clear hS
 refine MN (z := agF [.c (.slice none 0 0), .c (.bool false), .c (.int .i64 0), .a 32 0]) (t := 83) ?_
 intro p3_2
 refine MZ fun W hS => ?_
 go_upto_region 2 with fail
 refine RL hS ?_
 clear hS
 refine MV ?_
 refine MV ?_
 refine MV ?_
 refine MG 2 ?_ (v := .pointer (some ⟨p, 0, none⟩))
 refine ME (V := fun x : Value × { u : Value // Sub u (txS 16 s).1 (sb v (s).1) } => x.1) (fun W hS => rdcallT (i := 3) (j := 4) (t := txV 16 s) hS rfl rfl (fun hr => rtext_t (s := s) 16 hr (by have := hb0; omega)) (fun _ _ => rfl)) ?_
 rintro ⟨ut3, rv3, hs_3⟩
 dsimp only
 refine MD 6 ?_
 have hb_4 : (rM1 s).1.length ≤ 1000000 := Nat.le_trans (txS_len _ _) hb0
 refine MT (H' := [.o ut3 (txV 16 s), .s rv3 ((rM1 s).1), .b p3_2 (agF [.c (.slice none 0 0), .c (.bool false), .c (.int .i64 0), .a 32 0]) 83, .b p2_1 (agF [.c (.slice none 0 0), .c (.bool false), .c (.int .i64 0), .a 32 0]) 83, .b r #[.pointer (some ⟨p, 0, none⟩), .bool bad] 115, .b p #[rv3, .int .i64 (rM1 s).2] 141]) (fun W hS => hS) ?_
 refine MV ?_
 refine MFact (fun W hS => (sl_cells (hS.osl (i := 0) rfl)).2) ?_
 intro oc_tx35
 refine MP 2 (v := ut3) (cs' := agF [.c ut3, .c (.bool false), .c (.int .i64 0), .a 32 0]) ?_ (hs := by rw [agF_size]; exact Nat.le_of_ble_eq_true (by kernel_rfl)) (hc := agF_setc (off := 0) 0) (hv := fun W hS => sl_cells (hS.osl (i := 0) rfl))
 refine MZ fun W hS => ?_
 go_upto_region 3 with fail
 refine RL hS ?_
 clear hS
 refine MV ?_
 refine MV ?_
 refine MV ?_
 refine MG 4 ?_ (v := .pointer (some ⟨p, 0, none⟩))
 refine ME (V := fun _ => .bool (flV (rM1 s))) (fun W hS => rdcall (i := 5) (j := 1) hS rfl rfl (fun hr => rflag_t (s := rM1 s) hr (by have := hb_4; omega))) ?_
 rintro ⟨rv6, hs_6⟩
 dsimp only
 refine MD 2 ?_
 have hb_7 : (rM2 s).1.length ≤ 1000000 := Nat.le_trans (flS_len _) hb_4
 refine MT (H' := [.s rv6 ((rM2 s).1), .o ut3 (txV 16 s), .b p3_2 (agF [.c ut3, .c (.bool false), .c (.int .i64 0), .a 32 0]) 83, .b p2_1 (agF [.c (.slice none 0 0), .c (.bool false), .c (.int .i64 0), .a 32 0]) 83, .b r #[.pointer (some ⟨p, 0, none⟩), .bool bad] 115, .b p #[rv6, .int .i64 (rM2 s).2] 141]) (fun W hS => hS) ?_
 refine MV ?_
 refine MP 2 (v := .bool (flV (rM1 s))) (cs' := agF [.c ut3, .c (.bool (flV (rM1 s))), .c (.int .i64 0), .a 32 0]) ?_ (hs := by rw [agF_size]; exact Nat.le_of_ble_eq_true (by kernel_rfl)) (hc := agF_setc (off := 1) 1)
 refine MZ fun W hS => ?_
 go_upto_region 4 with fail
 refine RL hS ?_
 clear hS
 refine MV ?_
 refine MV ?_
 refine MV ?_
 refine MG 4 ?_ (v := .pointer (some ⟨p, 0, none⟩))
 refine ME (V := fun _ => .int .i64 (nuV (rM2 s))) (fun W hS => rdcall (i := 5) (j := 0) hS rfl rfl (fun hr => rnum_t (s := rM2 s) hr (by have := hb_7; omega))) ?_
 rintro ⟨rv8, hs_8⟩
 dsimp only
 refine MD 1 ?_
 have hb_9 : (rM3 s).1.length ≤ 1000000 := Nat.le_trans (tkS_len _ _) hb_7
 refine MT (H' := [.s rv8 ((rM3 s).1), .o ut3 (txV 16 s), .b p3_2 (agF [.c ut3, .c (.bool (flV (rM1 s))), .c (.int .i64 0), .a 32 0]) 83, .b p2_1 (agF [.c (.slice none 0 0), .c (.bool false), .c (.int .i64 0), .a 32 0]) 83, .b r #[.pointer (some ⟨p, 0, none⟩), .bool bad] 115, .b p #[rv8, .int .i64 (rM3 s).2] 141]) (fun W hS => hS) ?_
 refine MV ?_
 refine MP 2 (v := .int .i64 (nuV (rM2 s))) (cs' := agF [.c ut3, .c (.bool (flV (rM1 s))), .c (.int .i64 (nuV (rM2 s))), .a 32 0]) ?_ (hs := by rw [agF_size]; exact Nat.le_of_ble_eq_true (by kernel_rfl)) (hc := agF_setc (off := 2) 2)
 refine MZ fun W hS => ?_
 go_upto_region 5 with fail
 refine RL hS ?_
 clear hS
 refine MV ?_
 refine MV ?_
 refine MV ?_
 refine MG 4 ?_ (v := .pointer (some ⟨p, 0, none⟩))
 refine ME (V := fun _ => .agg (arrK .u8 32 (byt (suV (rM3 s))))) (fun W hS => rdcall (i := 5) (j := 0) hS rfl rfl (fun hr => rsum_t (s := rM3 s) hr (by have := hb_9; omega))) ?_
 rintro ⟨rv10, hs_10⟩
 dsimp only
 refine MD 1 ?_
 have hb_11 : (rMS s).1.length ≤ 1000000 := Nat.le_trans (tkS_len _ _) hb_9
 refine MT (H' := [.s rv10 ((rMS s).1), .o ut3 (txV 16 s), .b p3_2 (agF [.c ut3, .c (.bool (flV (rM1 s))), .c (.int .i64 (nuV (rM2 s))), .a 32 0]) 83, .b p2_1 (agF [.c (.slice none 0 0), .c (.bool false), .c (.int .i64 0), .a 32 0]) 83, .b r #[.pointer (some ⟨p, 0, none⟩), .bool bad] 115, .b p #[rv10, .int .i64 (rMS s).2] 141]) (fun W hS => hS) ?_
 refine MV ?_
 refine Mq 2 (new := agF [.c ut3, .c (.bool (flV (rM1 s))), .c (.int .i64 (nuV (rM2 s))), .a 32 (suV (rM3 s))]) ?_ (hc := agF_seta (off := 3) 3) (hs := by rw [arrK_size, agF_size]; exact Nat.le_of_ble_eq_true (by kernel_rfl))
 refine MZ fun W hS => ?_
 go_upto_region 6 with fail
 refine RL hS ?_
 clear hS
 refine ML 2 ?_ (hs := by rw [agF_size]; kernel_rfl)
 refine MR 3 ?_ (hz := by rw [agF_size]; kernel_rfl) (hs := by first | (rw [agF_size, agF_size]; rfl) | rfl) (h1 := by exact (agF_one ⟨oc_tx35, rfl, rfl, trivial⟩))
 refine MZ fun W hS => ?_
 go_wp2
 first | exact bodyPost_ret (res_cell1 rfl rfl (hS.blk (i := 3) rfl) (by kernel_rfl) (by rw [agF_size]; kernel_rfl)) rfl ⟨ut3, _, rfl, hS.pick [0, 4, 5, 1], (sub_tr hs_10 (sub_tr hs_8 (sub_tr hs_6 (sub_tr hs_3 sub_refl))))⟩ | exact bodyPost_end (res_cell1 rfl rfl (hS.blk (i := 3) rfl) (by kernel_rfl) (by rw [agF_size]; kernel_rfl)) rfl ⟨ut3, _, rfl, hS.pick [0, 4, 5, 1], (sub_tr hs_10 (sub_tr hs_8 (sub_tr hs_6 (sub_tr hs_3 sub_refl))))⟩
end Go.Proofs.Ytlbgelbhhibikaa.Ww
