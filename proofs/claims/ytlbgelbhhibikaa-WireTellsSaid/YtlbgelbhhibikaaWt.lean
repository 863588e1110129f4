/- wire's reader: what a look told; Seen. Conditions: memory holds what is written. -/
import Derived.Test.YtlbgelbhhibikaaWs
import Derived.Test.YtlbgelbhhibikaaWr
set_option linter.unusedSimpArgs false
set_option linter.unusedVariables false
namespace Go.Proofs.Ytlbgelbhhibikaa.Ww
set_option maxHeartbeats 6000000
set_option maxRecDepth 100000
open Go.RowKit
attribute [local irreducible] wpList wpTr wpX
set_option linter.unusedSimpArgs false
/-- what is left behind each part -/
def rF1 (s : RSt) : RSt := tkS 8 s
def rF2 (s : RSt) : RSt := tkS 32 (rF1 s)
def rF3 (s : RSt) : RSt := txS (80 : Nat) (rF2 s)
def rF4 (s : RSt) : RSt := flS (rF3 s)
def rF5 (s : RSt) : RSt := tkS 8 (rF4 s)
def rF6 (s : RSt) : RSt := txS 64 (rF5 s)
def rF7 (s : RSt) : RSt := tkS 32 (rF6 s)
def rF8 (s : RSt) : RSt := tkS 32 (rF7 s)
def rF9 (s : RSt) : RSt := (takeM (rF8 s)).2
def rF10 (s : RSt) : RSt := tkS 32 (rF9 s)
def rF11 (s : RSt) : RSt := tkS 32 (rF10 s)
def rF12 (s : RSt) : RSt := tkS 32 (rF11 s)
def rFS (s : RSt) : RSt := tkS 8 (rF12 s)
/-- what is read -/
def rFo (s : RSt) : Fo := ⟨nuV s, suV (rF1 s), le (rawV 80 (rF2 s)), flV (rF3 s), nuV (rF4 s), txV 64 (rF5 s), suV (rF6 s), suV (rF7 s), (takeM (rF8 s)).1.1, (takeM (rF8 s)).1.2.1, (takeM (rF8 s)).1.2.2.1, (takeM (rF8 s)).1.2.2.2.1, suV (rF9 s), suV (rF10 s), suV (rF11 s), nuV (rF12 s)⟩
def rFB (s : RSt) (bad : Bool) : Bool := pB2 (rF8 s) (rawB 80 (rF2 s) bad)
theorem rFS_len (s : RSt) : (rFS s).1.length ≤ s.1.length := by
 have h1 := tkS_len 8 s
 have h2 := tkS_len 32 (rF1 s)
 have h3 := txS_len (80 : Nat) (rF2 s)
 have h4 := flS_len (rF3 s)
 have h5 := tkS_len 8 (rF4 s)
 have h6 := txS_len 64 (rF5 s)
 have h7 := tkS_len 32 (rF6 s)
 have h8 := tkS_len 32 (rF7 s)
 have h9 := takeM_len (rF8 s)
 have h10 := tkS_len 32 (rF9 s)
 have h11 := tkS_len 32 (rF10 s)
 have h12 := tkS_len 32 (rF11 s)
 have h13 := tkS_len 8 (rF12 s)
 exact Nat.le_trans h13 (Nat.le_trans h12 (Nat.le_trans h11 (Nat.le_trans h10 (Nat.le_trans h9 (Nat.le_trans h8 (Nat.le_trans h7 (Nat.le_trans h6 (Nat.le_trans h5 (Nat.le_trans h4 (Nat.le_trans h3 (Nat.le_trans h2 h1)))))))))))
attribute [local irreducible] lb be8 eI tB txL txB txV txS tkS byV nuV suV enV takeM flV flS rawV rawB pB2

theorem wrfound_c {r p : Nat} {v : Value} {s : RSt} {bad : Bool} (hb0 : s.1.length ≤ 1000000) (w : World) (h_ : SH [r, p] w w (wrdL r p v s bad)) :
  Calls Try.prog 45 #[.pointer (some ⟨r, 0, none⟩)] w fun e w' => WRet r p v s bad (rFS s) (rFB s bad) (α := Value × Value) (fun y : Value × Value => .agg (foF (rFo s) y.1 y.2)) (fun y : Value × Value => [.o y.1 (txV 64 (rF5 s)), .r 27 32 y.2 (List.map b32l (takeM (rF8 s)).1.1)]) w w' e := by
 have hS := h_
 go_enter Try.func45, Try.ntmps45
 go_upto_region 0 with fail
 refine RL hS ?_
 clear hS
 refine MN (z := agF [.c (.int .i64 0), .a 32 0, .a 80 0, .c (.bool false), .c (.int .i64 0), .c (.slice none 0 0), .a 32 0, .a 32 0, .c (.slice none 0 0), .c (.bool false), .a 32 0, .a 32 0, .a 32 0, .a 32 0, .a 32 0, .c (.int .i64 0)]) (t := 64) ?_
 intro p2_1
 refine MZ fun W hS => ?_
 go_upto_region 1 with fail
 refine RL hS ?_
 clear hS
 refine MN (z := agF [.c (.int .i64 0), .a 32 0, .a 80 0, .c (.bool false), .c (.int .i64 0), .c (.slice none 0 0), .a 32 0, .a 32 0, .c (.slice none 0 0), .c (.bool false), .a 32 0, .a 32 0, .a 32 0, .a 32 0, .a 32 0, .c (.int .i64 0)]) (t := 64) ?_
 intro p3_2
 refine MZ fun W hS => ?_
 go_upto_region 2 with fail
 refine RL hS ?_
 clear hS
 refine MV ?_
 refine MV ?_
 refine MV ?_
 refine MG 2 ?_ (v := .pointer (some ⟨p, 0, none⟩))
 refine ME (V := fun _ => .int .i64 (nuV s)) (fun W hS => rdcall (i := 3) (j := 4) hS rfl rfl (fun hr => rnum_t (s := s) hr (by have := hb0; omega))) ?_
 rintro ⟨rv3, hs_3⟩
 dsimp only
 refine MD 5 ?_
 have hb_4 : (rF1 s).1.length ≤ 1000000 := Nat.le_trans (tkS_len _ _) hb0
 refine MT (H' := [.s rv3 ((rF1 s).1), .b p3_2 (agF [.c (.int .i64 0), .a 32 0, .a 80 0, .c (.bool false), .c (.int .i64 0), .c (.slice none 0 0), .a 32 0, .a 32 0, .c (.slice none 0 0), .c (.bool false), .a 32 0, .a 32 0, .a 32 0, .a 32 0, .a 32 0, .c (.int .i64 0)]) 64, .b p2_1 (agF [.c (.int .i64 0), .a 32 0, .a 80 0, .c (.bool false), .c (.int .i64 0), .c (.slice none 0 0), .a 32 0, .a 32 0, .c (.slice none 0 0), .c (.bool false), .a 32 0, .a 32 0, .a 32 0, .a 32 0, .a 32 0, .c (.int .i64 0)]) 64, .b r #[.pointer (some ⟨p, 0, none⟩), .bool bad] 115, .b p #[rv3, .int .i64 (rF1 s).2] 141]) (fun W hS => hS) ?_
 refine MV ?_
 refine MP 1 (v := .int .i64 (nuV s)) (cs' := agF [.c (.int .i64 (nuV s)), .a 32 0, .a 80 0, .c (.bool false), .c (.int .i64 0), .c (.slice none 0 0), .a 32 0, .a 32 0, .c (.slice none 0 0), .c (.bool false), .a 32 0, .a 32 0, .a 32 0, .a 32 0, .a 32 0, .c (.int .i64 0)]) ?_ (hs := by rw [agF_size]; show 0 < 343; decide) (hc := agF_setc (off := 0) 0)
 refine MZ fun W hS => ?_
 go_upto_region 3 with fail
 refine RL hS ?_
 clear hS
 refine MV ?_
 refine MV ?_
 refine MV ?_
 refine MG 3 ?_ (v := .pointer (some ⟨p, 0, none⟩))
 refine ME (V := fun _ => .agg (arrK .u8 32 (byt (suV (rF1 s))))) (fun W hS => rdcall (i := 4) (j := 0) hS rfl rfl (fun hr => rsum_t (s := rF1 s) hr (by have := hb_4; omega))) ?_
 rintro ⟨rv5, hs_5⟩
 dsimp only
 refine MD 1 ?_
 have hb_6 : (rF2 s).1.length ≤ 1000000 := Nat.le_trans (tkS_len _ _) hb_4
 refine MT (H' := [.s rv5 ((rF2 s).1), .b p3_2 (agF [.c (.int .i64 (nuV s)), .a 32 0, .a 80 0, .c (.bool false), .c (.int .i64 0), .c (.slice none 0 0), .a 32 0, .a 32 0, .c (.slice none 0 0), .c (.bool false), .a 32 0, .a 32 0, .a 32 0, .a 32 0, .a 32 0, .c (.int .i64 0)]) 64, .b p2_1 (agF [.c (.int .i64 0), .a 32 0, .a 80 0, .c (.bool false), .c (.int .i64 0), .c (.slice none 0 0), .a 32 0, .a 32 0, .c (.slice none 0 0), .c (.bool false), .a 32 0, .a 32 0, .a 32 0, .a 32 0, .a 32 0, .c (.int .i64 0)]) 64, .b r #[.pointer (some ⟨p, 0, none⟩), .bool bad] 115, .b p #[rv5, .int .i64 (rF2 s).2] 141]) (fun W hS => hS) ?_
 refine MV ?_
 refine Mq 1 (new := agF [.c (.int .i64 (nuV s)), .a 32 (suV (rF1 s)), .a 80 0, .c (.bool false), .c (.int .i64 0), .c (.slice none 0 0), .a 32 0, .a 32 0, .c (.slice none 0 0), .c (.bool false), .a 32 0, .a 32 0, .a 32 0, .a 32 0, .a 32 0, .c (.int .i64 0)]) ?_ (hc := agF_seta (off := 1) 1) (hs := by rw [arrK_size, agF_size]; show 1 + 32 ≤ 343; decide)
 refine MZ fun W hS => ?_
 go_upto_region 4 with fail
 refine RL hS ?_
 clear hS
 refine MV ?_
 refine ME (V := fun x : { y : (Nat × Nat) × Value // Sub y.2 (txS (80 : Nat) (rF2 s)).1 (sb rv5 (rF2 s).1) } => .slice (some ⟨x.1.1.1, 0, none⟩) 80 x.1.1.2) (fun W hS => wrcall (V := fun y : Nat × Nat => .slice (some ⟨y.1, 0, none⟩) 80 y.2) (X := fun y : Nat × Nat => [.o (.slice (some ⟨y.1, 0, none⟩) 80 y.2) (rawV 80 (rF2 s))]) [3, 4, 0] [1, 2] hS (fun hT => wraw_c (n := 80) (by decide) (by decide) hb_6 W hT) (fun _ _ => ⟨.inr ⟨rfl, rfl⟩, .inr ⟨rfl, rfl⟩, ⟨.inr ⟨rfl, rfl⟩, trivial⟩⟩)) ?_
 rintro ⟨⟨⟨g7, c7⟩, rv7⟩, hs_7⟩
 dsimp only
 have hb_8 : (rF3 s).1.length ≤ 1000000 := Nat.le_trans (txS_len _ _) hb_6
 refine MT (H' := [.s rv7 ((rF3 s).1), .b r #[.pointer (some ⟨p, 0, none⟩), .bool (rawB 80 (rF2 s) bad)] 115, .b p #[rv7, .int .i64 (rF3 s).2] 141, .o (.slice (some ⟨g7, 0, none⟩) 80 c7) (rawV 80 (rF2 s)), .b p3_2 (agF [.c (.int .i64 (nuV s)), .a 32 (suV (rF1 s)), .a 80 0, .c (.bool false), .c (.int .i64 0), .c (.slice none 0 0), .a 32 0, .a 32 0, .c (.slice none 0 0), .c (.bool false), .a 32 0, .a 32 0, .a 32 0, .a 32 0, .a 32 0, .c (.int .i64 0)]) 64, .b p2_1 (agF [.c (.int .i64 0), .a 32 0, .a 80 0, .c (.bool false), .c (.int .i64 0), .c (.slice none 0 0), .a 32 0, .a 32 0, .c (.slice none 0 0), .c (.bool false), .a 32 0, .a 32 0, .a 32 0, .a 32 0, .a 32 0, .c (.int .i64 0)]) 64]) (fun W hS => hS) ?_
 refine MW ?_ (v := .pointer (some ⟨g7, 0, none⟩)) (hv := fun _ => run_s2a rfl rfl Try.underlying57)
 refine MF (v := .agg (arrK .u8 80 (byt (le (rawV 80 (rF2 s)))))) (fun W hS => run_atsub rfl rfl (own_cells (hS.own (i := 3) rfl) rawV_len (by decide)) (by kernel_rfl) (by rw [arrK_size]; kernel_rfl)) ?_
 refine MV ?_
 refine Mq 4 (new := agF [.c (.int .i64 (nuV s)), .a 32 (suV (rF1 s)), .a 80 (le (rawV 80 (rF2 s))), .c (.bool false), .c (.int .i64 0), .c (.slice none 0 0), .a 32 0, .a 32 0, .c (.slice none 0 0), .c (.bool false), .a 32 0, .a 32 0, .a 32 0, .a 32 0, .a 32 0, .c (.int .i64 0)]) ?_ (hc := agF_seta (off := 33) 2) (hs := by rw [arrK_size, agF_size]; show 33 + 80 ≤ 343; decide)
 refine MZ fun W hS => ?_
 go_upto_region 5 with fail
 refine RL hS ?_
 clear hS
 refine MV ?_
 refine MV ?_
 refine MV ?_
 refine MG 1 ?_ (v := .pointer (some ⟨p, 0, none⟩))
 refine ME (V := fun _ => .bool (flV (rF3 s))) (fun W hS => rdcall (i := 2) (j := 0) hS rfl rfl (fun hr => rflag_t (s := rF3 s) hr (by have := hb_8; omega))) ?_
 rintro ⟨rv9, hs_9⟩
 dsimp only
 refine MD 1 ?_
 have hb_10 : (rF4 s).1.length ≤ 1000000 := Nat.le_trans (flS_len _) hb_8
 refine MT (H' := [.s rv9 ((rF4 s).1), .b r #[.pointer (some ⟨p, 0, none⟩), .bool (rawB 80 (rF2 s) bad)] 115, .b p #[rv9, .int .i64 (rF4 s).2] 141, .o (.slice (some ⟨g7, 0, none⟩) 80 c7) (rawV 80 (rF2 s)), .b p3_2 (agF [.c (.int .i64 (nuV s)), .a 32 (suV (rF1 s)), .a 80 (le (rawV 80 (rF2 s))), .c (.bool false), .c (.int .i64 0), .c (.slice none 0 0), .a 32 0, .a 32 0, .c (.slice none 0 0), .c (.bool false), .a 32 0, .a 32 0, .a 32 0, .a 32 0, .a 32 0, .c (.int .i64 0)]) 64, .b p2_1 (agF [.c (.int .i64 0), .a 32 0, .a 80 0, .c (.bool false), .c (.int .i64 0), .c (.slice none 0 0), .a 32 0, .a 32 0, .c (.slice none 0 0), .c (.bool false), .a 32 0, .a 32 0, .a 32 0, .a 32 0, .a 32 0, .c (.int .i64 0)]) 64]) (fun W hS => hS) ?_
 refine MV ?_
 refine MP 4 (v := .bool (flV (rF3 s))) (cs' := agF [.c (.int .i64 (nuV s)), .a 32 (suV (rF1 s)), .a 80 (le (rawV 80 (rF2 s))), .c (.bool (flV (rF3 s))), .c (.int .i64 0), .c (.slice none 0 0), .a 32 0, .a 32 0, .c (.slice none 0 0), .c (.bool false), .a 32 0, .a 32 0, .a 32 0, .a 32 0, .a 32 0, .c (.int .i64 0)]) ?_ (hs := by rw [agF_size]; show 113 < 343; decide) (hc := agF_setc (off := 113) 3)
 refine MZ fun W hS => ?_
 go_upto_region 6 with fail
 refine RL hS ?_
 clear hS
 refine MV ?_
 refine MV ?_
 refine MV ?_
 refine MG 1 ?_ (v := .pointer (some ⟨p, 0, none⟩))
 refine ME (V := fun _ => .int .i64 (nuV (rF4 s))) (fun W hS => rdcall (i := 2) (j := 0) hS rfl rfl (fun hr => rnum_t (s := rF4 s) hr (by have := hb_10; omega))) ?_
 rintro ⟨rv11, hs_11⟩
 dsimp only
 refine MD 1 ?_
 have hb_12 : (rF5 s).1.length ≤ 1000000 := Nat.le_trans (tkS_len _ _) hb_10
 refine MT (H' := [.s rv11 ((rF5 s).1), .b r #[.pointer (some ⟨p, 0, none⟩), .bool (rawB 80 (rF2 s) bad)] 115, .b p #[rv11, .int .i64 (rF5 s).2] 141, .o (.slice (some ⟨g7, 0, none⟩) 80 c7) (rawV 80 (rF2 s)), .b p3_2 (agF [.c (.int .i64 (nuV s)), .a 32 (suV (rF1 s)), .a 80 (le (rawV 80 (rF2 s))), .c (.bool (flV (rF3 s))), .c (.int .i64 0), .c (.slice none 0 0), .a 32 0, .a 32 0, .c (.slice none 0 0), .c (.bool false), .a 32 0, .a 32 0, .a 32 0, .a 32 0, .a 32 0, .c (.int .i64 0)]) 64, .b p2_1 (agF [.c (.int .i64 0), .a 32 0, .a 80 0, .c (.bool false), .c (.int .i64 0), .c (.slice none 0 0), .a 32 0, .a 32 0, .c (.slice none 0 0), .c (.bool false), .a 32 0, .a 32 0, .a 32 0, .a 32 0, .a 32 0, .c (.int .i64 0)]) 64]) (fun W hS => hS) ?_
 refine MV ?_
 refine MP 4 (v := .int .i64 (nuV (rF4 s))) (cs' := agF [.c (.int .i64 (nuV s)), .a 32 (suV (rF1 s)), .a 80 (le (rawV 80 (rF2 s))), .c (.bool (flV (rF3 s))), .c (.int .i64 (nuV (rF4 s))), .c (.slice none 0 0), .a 32 0, .a 32 0, .c (.slice none 0 0), .c (.bool false), .a 32 0, .a 32 0, .a 32 0, .a 32 0, .a 32 0, .c (.int .i64 0)]) ?_ (hs := by rw [agF_size]; show 114 < 343; decide) (hc := agF_setc (off := 114) 4)
 refine MZ fun W hS => ?_
 go_upto_region 7 with fail
 refine RL hS ?_
 clear hS
 refine MV ?_
 refine MV ?_
 refine MV ?_
 refine MG 1 ?_ (v := .pointer (some ⟨p, 0, none⟩))
 refine ME (V := fun x : Value × { u : Value // Sub u (txS 64 (rF5 s)).1 (sb rv11 (rF5 s).1) } => x.1) (fun W hS => rdcallT (i := 2) (j := 0) (t := txV 64 (rF5 s)) hS rfl rfl (fun hr => rtext_t (s := rF5 s) 64 hr (by have := hb_12; omega)) (fun _ _ => rfl)) ?_
 rintro ⟨ut13, rv13, hs_13⟩
 dsimp only
 refine MD 2 ?_
 have hb_14 : (rF6 s).1.length ≤ 1000000 := Nat.le_trans (txS_len _ _) hb_12
 refine MT (H' := [.o ut13 (txV 64 (rF5 s)), .s rv13 ((rF6 s).1), .b r #[.pointer (some ⟨p, 0, none⟩), .bool (rawB 80 (rF2 s) bad)] 115, .b p #[rv13, .int .i64 (rF6 s).2] 141, .o (.slice (some ⟨g7, 0, none⟩) 80 c7) (rawV 80 (rF2 s)), .b p3_2 (agF [.c (.int .i64 (nuV s)), .a 32 (suV (rF1 s)), .a 80 (le (rawV 80 (rF2 s))), .c (.bool (flV (rF3 s))), .c (.int .i64 (nuV (rF4 s))), .c (.slice none 0 0), .a 32 0, .a 32 0, .c (.slice none 0 0), .c (.bool false), .a 32 0, .a 32 0, .a 32 0, .a 32 0, .a 32 0, .c (.int .i64 0)]) 64, .b p2_1 (agF [.c (.int .i64 0), .a 32 0, .a 80 0, .c (.bool false), .c (.int .i64 0), .c (.slice none 0 0), .a 32 0, .a 32 0, .c (.slice none 0 0), .c (.bool false), .a 32 0, .a 32 0, .a 32 0, .a 32 0, .a 32 0, .c (.int .i64 0)]) 64]) (fun W hS => hS) ?_
 refine MV ?_
 refine MFact (fun W hS => (sl_cells (hS.osl (i := 0) rfl)).2) ?_
 intro oc_tx1315
 refine MP 5 (v := ut13) (cs' := agF [.c (.int .i64 (nuV s)), .a 32 (suV (rF1 s)), .a 80 (le (rawV 80 (rF2 s))), .c (.bool (flV (rF3 s))), .c (.int .i64 (nuV (rF4 s))), .c ut13, .a 32 0, .a 32 0, .c (.slice none 0 0), .c (.bool false), .a 32 0, .a 32 0, .a 32 0, .a 32 0, .a 32 0, .c (.int .i64 0)]) ?_ (hs := by rw [agF_size]; show 115 < 343; decide) (hc := agF_setc (off := 115) 5) (hv := fun W hS => sl_cells (hS.osl (i := 0) rfl))
 refine MZ fun W hS => ?_
 go_upto_region 8 with fail
 refine RL hS ?_
 clear hS
 refine MV ?_
 refine MV ?_
 refine MV ?_
 refine MG 2 ?_ (v := .pointer (some ⟨p, 0, none⟩))
 refine ME (V := fun _ => .agg (arrK .u8 32 (byt (suV (rF6 s))))) (fun W hS => rdcall (i := 3) (j := 1) hS rfl rfl (fun hr => rsum_t (s := rF6 s) hr (by have := hb_14; omega))) ?_
 rintro ⟨rv16, hs_16⟩
 dsimp only
 refine MD 2 ?_
 have hb_17 : (rF7 s).1.length ≤ 1000000 := Nat.le_trans (tkS_len _ _) hb_14
 refine MT (H' := [.s rv16 ((rF7 s).1), .o ut13 (txV 64 (rF5 s)), .b r #[.pointer (some ⟨p, 0, none⟩), .bool (rawB 80 (rF2 s) bad)] 115, .b p #[rv16, .int .i64 (rF7 s).2] 141, .o (.slice (some ⟨g7, 0, none⟩) 80 c7) (rawV 80 (rF2 s)), .b p3_2 (agF [.c (.int .i64 (nuV s)), .a 32 (suV (rF1 s)), .a 80 (le (rawV 80 (rF2 s))), .c (.bool (flV (rF3 s))), .c (.int .i64 (nuV (rF4 s))), .c ut13, .a 32 0, .a 32 0, .c (.slice none 0 0), .c (.bool false), .a 32 0, .a 32 0, .a 32 0, .a 32 0, .a 32 0, .c (.int .i64 0)]) 64, .b p2_1 (agF [.c (.int .i64 0), .a 32 0, .a 80 0, .c (.bool false), .c (.int .i64 0), .c (.slice none 0 0), .a 32 0, .a 32 0, .c (.slice none 0 0), .c (.bool false), .a 32 0, .a 32 0, .a 32 0, .a 32 0, .a 32 0, .c (.int .i64 0)]) 64]) (fun W hS => hS) ?_
 refine MV ?_
 refine Mq 5 (new := agF [.c (.int .i64 (nuV s)), .a 32 (suV (rF1 s)), .a 80 (le (rawV 80 (rF2 s))), .c (.bool (flV (rF3 s))), .c (.int .i64 (nuV (rF4 s))), .c ut13, .a 32 (suV (rF6 s)), .a 32 0, .c (.slice none 0 0), .c (.bool false), .a 32 0, .a 32 0, .a 32 0, .a 32 0, .a 32 0, .c (.int .i64 0)]) ?_ (hc := agF_seta (off := 116) 6) (hs := by rw [arrK_size, agF_size]; show 116 + 32 ≤ 343; decide)
 refine MZ fun W hS => ?_
 go_upto_region 9 with fail
 refine RL hS ?_
 clear hS
 refine MV ?_
 refine MV ?_
 refine MV ?_
 refine MG 2 ?_ (v := .pointer (some ⟨p, 0, none⟩))
 refine ME (V := fun _ => .agg (arrK .u8 32 (byt (suV (rF7 s))))) (fun W hS => rdcall (i := 3) (j := 0) hS rfl rfl (fun hr => rsum_t (s := rF7 s) hr (by have := hb_17; omega))) ?_
 rintro ⟨rv18, hs_18⟩
 dsimp only
 refine MD 1 ?_
 have hb_19 : (rF8 s).1.length ≤ 1000000 := Nat.le_trans (tkS_len _ _) hb_17
 refine MT (H' := [.s rv18 ((rF8 s).1), .o ut13 (txV 64 (rF5 s)), .b r #[.pointer (some ⟨p, 0, none⟩), .bool (rawB 80 (rF2 s) bad)] 115, .b p #[rv18, .int .i64 (rF8 s).2] 141, .o (.slice (some ⟨g7, 0, none⟩) 80 c7) (rawV 80 (rF2 s)), .b p3_2 (agF [.c (.int .i64 (nuV s)), .a 32 (suV (rF1 s)), .a 80 (le (rawV 80 (rF2 s))), .c (.bool (flV (rF3 s))), .c (.int .i64 (nuV (rF4 s))), .c ut13, .a 32 (suV (rF6 s)), .a 32 0, .c (.slice none 0 0), .c (.bool false), .a 32 0, .a 32 0, .a 32 0, .a 32 0, .a 32 0, .c (.int .i64 0)]) 64, .b p2_1 (agF [.c (.int .i64 0), .a 32 0, .a 80 0, .c (.bool false), .c (.int .i64 0), .c (.slice none 0 0), .a 32 0, .a 32 0, .c (.slice none 0 0), .c (.bool false), .a 32 0, .a 32 0, .a 32 0, .a 32 0, .a 32 0, .c (.int .i64 0)]) 64]) (fun W hS => hS) ?_
 refine MV ?_
 refine Mq 5 (new := agF [.c (.int .i64 (nuV s)), .a 32 (suV (rF1 s)), .a 80 (le (rawV 80 (rF2 s))), .c (.bool (flV (rF3 s))), .c (.int .i64 (nuV (rF4 s))), .c ut13, .a 32 (suV (rF6 s)), .a 32 (suV (rF7 s)), .c (.slice none 0 0), .c (.bool false), .a 32 0, .a 32 0, .a 32 0, .a 32 0, .a 32 0, .c (.int .i64 0)]) ?_ (hc := agF_seta (off := 148) 7) (hs := by rw [arrK_size, agF_size]; show 148 + 32 ≤ 343; decide)
 refine MZ fun W hS => ?_
 go_upto_region 10 with fail
 refine RL hS ?_
 clear hS
 refine MV ?_
 refine ME (V := fun x : { y : (Value) × Value // Sub y.2 ((takeM (rF8 s)).2).1 (sb rv18 (rF8 s).1) } => .agg (pfA x.1.1 (takeM (rF8 s)).1.2.1 (takeM (rF8 s)).1.2.2.1 (takeM (rF8 s)).1.2.2.2.1)) (fun W hS => wrcall (V := fun y : Value => .agg (pfA y (takeM (rF8 s)).1.2.1 (takeM (rF8 s)).1.2.2.1 (takeM (rF8 s)).1.2.2.2.1)) (X := fun y : Value => [.r 27 32 y (List.map b32l (takeM (rF8 s)).1.1)]) [2, 3, 0] [1, 4, 5, 6] hS (fun hT => wrproof_c hb_19 W hT) (fun _ _ => ⟨.inr ⟨rfl, rfl⟩, .inr ⟨rfl, rfl⟩, ⟨.inr ⟨rfl, rfl⟩, trivial⟩⟩)) ?_
 rintro ⟨⟨u_20, rv20⟩, hs_20⟩
 dsimp only
 have hb_21 : (rF9 s).1.length ≤ 1000000 := Nat.le_trans (takeM_len _) hb_19
 refine MT (H' := [.s rv20 ((rF9 s).1), .b r #[.pointer (some ⟨p, 0, none⟩), .bool (pB2 (rF8 s) (rawB 80 (rF2 s) bad))] 115, .b p #[rv20, .int .i64 (rF9 s).2] 141, .r 27 32 u_20 (List.map b32l (takeM (rF8 s)).1.1), .o ut13 (txV 64 (rF5 s)), .o (.slice (some ⟨g7, 0, none⟩) 80 c7) (rawV 80 (rF2 s)), .b p3_2 (agF [.c (.int .i64 (nuV s)), .a 32 (suV (rF1 s)), .a 80 (le (rawV 80 (rF2 s))), .c (.bool (flV (rF3 s))), .c (.int .i64 (nuV (rF4 s))), .c ut13, .a 32 (suV (rF6 s)), .a 32 (suV (rF7 s)), .c (.slice none 0 0), .c (.bool false), .a 32 0, .a 32 0, .a 32 0, .a 32 0, .a 32 0, .c (.int .i64 0)]) 64, .b p2_1 (agF [.c (.int .i64 0), .a 32 0, .a 80 0, .c (.bool false), .c (.int .i64 0), .c (.slice none 0 0), .a 32 0, .a 32 0, .c (.slice none 0 0), .c (.bool false), .a 32 0, .a 32 0, .a 32 0, .a 32 0, .a 32 0, .c (.int .i64 0)]) 64]) (fun W hS => hS) ?_
 refine MFact (fun W hS => (hS.row (i := 3) rfl).cells) ?_
 intro hsc20
 refine MV ?_
 refine Mq 6 (new := agF [.c (.int .i64 (nuV s)), .a 32 (suV (rF1 s)), .a 80 (le (rawV 80 (rF2 s))), .c (.bool (flV (rF3 s))), .c (.int .i64 (nuV (rF4 s))), .c ut13, .a 32 (suV (rF6 s)), .a 32 (suV (rF7 s)), .c u_20, .c (.bool (takeM (rF8 s)).1.2.1), .a 32 ((takeM (rF8 s)).1.2.2.1), .a 32 ((takeM (rF8 s)).1.2.2.2.1), .a 32 0, .a 32 0, .a 32 0, .c (.int .i64 0)]) ?_ (hc := agF_setp (off := 180) 8 4) (hs := by rw [agF_size, agF_size]; show 180 + 66 ≤ 343; decide) (h1 := by exact (agF_one ⟨hsc20.2, rfl, trivial⟩))
 refine MZ fun W hS => ?_
 go_upto_region 11 with fail
 refine RL hS ?_
 clear hS
 refine MV ?_
 refine MV ?_
 refine MV ?_
 refine MG 1 ?_ (v := .pointer (some ⟨p, 0, none⟩))
 refine ME (V := fun _ => .agg (arrK .u8 32 (byt (suV (rF9 s))))) (fun W hS => rdcall (i := 2) (j := 0) hS rfl rfl (fun hr => rsum_t (s := rF9 s) hr (by have := hb_21; omega))) ?_
 rintro ⟨rv22, hs_22⟩
 dsimp only
 refine MD 1 ?_
 have hb_23 : (rF10 s).1.length ≤ 1000000 := Nat.le_trans (tkS_len _ _) hb_21
 refine MT (H' := [.s rv22 ((rF10 s).1), .b r #[.pointer (some ⟨p, 0, none⟩), .bool (pB2 (rF8 s) (rawB 80 (rF2 s) bad))] 115, .b p #[rv22, .int .i64 (rF10 s).2] 141, .r 27 32 u_20 (List.map b32l (takeM (rF8 s)).1.1), .o ut13 (txV 64 (rF5 s)), .o (.slice (some ⟨g7, 0, none⟩) 80 c7) (rawV 80 (rF2 s)), .b p3_2 (agF [.c (.int .i64 (nuV s)), .a 32 (suV (rF1 s)), .a 80 (le (rawV 80 (rF2 s))), .c (.bool (flV (rF3 s))), .c (.int .i64 (nuV (rF4 s))), .c ut13, .a 32 (suV (rF6 s)), .a 32 (suV (rF7 s)), .c u_20, .c (.bool (takeM (rF8 s)).1.2.1), .a 32 ((takeM (rF8 s)).1.2.2.1), .a 32 ((takeM (rF8 s)).1.2.2.2.1), .a 32 0, .a 32 0, .a 32 0, .c (.int .i64 0)]) 64, .b p2_1 (agF [.c (.int .i64 0), .a 32 0, .a 80 0, .c (.bool false), .c (.int .i64 0), .c (.slice none 0 0), .a 32 0, .a 32 0, .c (.slice none 0 0), .c (.bool false), .a 32 0, .a 32 0, .a 32 0, .a 32 0, .a 32 0, .c (.int .i64 0)]) 64]) (fun W hS => hS) ?_
 refine MV ?_
 refine Mq 6 (new := agF [.c (.int .i64 (nuV s)), .a 32 (suV (rF1 s)), .a 80 (le (rawV 80 (rF2 s))), .c (.bool (flV (rF3 s))), .c (.int .i64 (nuV (rF4 s))), .c ut13, .a 32 (suV (rF6 s)), .a 32 (suV (rF7 s)), .c u_20, .c (.bool (takeM (rF8 s)).1.2.1), .a 32 ((takeM (rF8 s)).1.2.2.1), .a 32 ((takeM (rF8 s)).1.2.2.2.1), .a 32 (suV (rF9 s)), .a 32 0, .a 32 0, .c (.int .i64 0)]) ?_ (hc := agF_seta (off := 246) 12) (hs := by rw [arrK_size, agF_size]; show 246 + 32 ≤ 343; decide)
 refine MZ fun W hS => ?_
 go_upto_region 12 with fail
 refine RL hS ?_
 clear hS
 refine MV ?_
 refine MV ?_
 refine MV ?_
 refine MG 1 ?_ (v := .pointer (some ⟨p, 0, none⟩))
 refine ME (V := fun _ => .agg (arrK .u8 32 (byt (suV (rF10 s))))) (fun W hS => rdcall (i := 2) (j := 0) hS rfl rfl (fun hr => rsum_t (s := rF10 s) hr (by have := hb_23; omega))) ?_
 rintro ⟨rv24, hs_24⟩
 dsimp only
 refine MD 1 ?_
 have hb_25 : (rF11 s).1.length ≤ 1000000 := Nat.le_trans (tkS_len _ _) hb_23
 refine MT (H' := [.s rv24 ((rF11 s).1), .b r #[.pointer (some ⟨p, 0, none⟩), .bool (pB2 (rF8 s) (rawB 80 (rF2 s) bad))] 115, .b p #[rv24, .int .i64 (rF11 s).2] 141, .r 27 32 u_20 (List.map b32l (takeM (rF8 s)).1.1), .o ut13 (txV 64 (rF5 s)), .o (.slice (some ⟨g7, 0, none⟩) 80 c7) (rawV 80 (rF2 s)), .b p3_2 (agF [.c (.int .i64 (nuV s)), .a 32 (suV (rF1 s)), .a 80 (le (rawV 80 (rF2 s))), .c (.bool (flV (rF3 s))), .c (.int .i64 (nuV (rF4 s))), .c ut13, .a 32 (suV (rF6 s)), .a 32 (suV (rF7 s)), .c u_20, .c (.bool (takeM (rF8 s)).1.2.1), .a 32 ((takeM (rF8 s)).1.2.2.1), .a 32 ((takeM (rF8 s)).1.2.2.2.1), .a 32 (suV (rF9 s)), .a 32 0, .a 32 0, .c (.int .i64 0)]) 64, .b p2_1 (agF [.c (.int .i64 0), .a 32 0, .a 80 0, .c (.bool false), .c (.int .i64 0), .c (.slice none 0 0), .a 32 0, .a 32 0, .c (.slice none 0 0), .c (.bool false), .a 32 0, .a 32 0, .a 32 0, .a 32 0, .a 32 0, .c (.int .i64 0)]) 64]) (fun W hS => hS) ?_
 refine MV ?_
 refine Mq 6 (new := agF [.c (.int .i64 (nuV s)), .a 32 (suV (rF1 s)), .a 80 (le (rawV 80 (rF2 s))), .c (.bool (flV (rF3 s))), .c (.int .i64 (nuV (rF4 s))), .c ut13, .a 32 (suV (rF6 s)), .a 32 (suV (rF7 s)), .c u_20, .c (.bool (takeM (rF8 s)).1.2.1), .a 32 ((takeM (rF8 s)).1.2.2.1), .a 32 ((takeM (rF8 s)).1.2.2.2.1), .a 32 (suV (rF9 s)), .a 32 (suV (rF10 s)), .a 32 0, .c (.int .i64 0)]) ?_ (hc := agF_seta (off := 278) 13) (hs := by rw [arrK_size, agF_size]; show 278 + 32 ≤ 343; decide)
 refine MZ fun W hS => ?_
 go_upto_region 13 with fail
 refine RL hS ?_
 clear hS
 refine MV ?_
 refine MV ?_
 refine MV ?_
 refine MG 1 ?_ (v := .pointer (some ⟨p, 0, none⟩))
 refine ME (V := fun _ => .agg (arrK .u8 32 (byt (suV (rF11 s))))) (fun W hS => rdcall (i := 2) (j := 0) hS rfl rfl (fun hr => rsum_t (s := rF11 s) hr (by have := hb_25; omega))) ?_
 rintro ⟨rv26, hs_26⟩
 dsimp only
 refine MD 1 ?_
 have hb_27 : (rF12 s).1.length ≤ 1000000 := Nat.le_trans (tkS_len _ _) hb_25
 refine MT (H' := [.s rv26 ((rF12 s).1), .b r #[.pointer (some ⟨p, 0, none⟩), .bool (pB2 (rF8 s) (rawB 80 (rF2 s) bad))] 115, .b p #[rv26, .int .i64 (rF12 s).2] 141, .r 27 32 u_20 (List.map b32l (takeM (rF8 s)).1.1), .o ut13 (txV 64 (rF5 s)), .o (.slice (some ⟨g7, 0, none⟩) 80 c7) (rawV 80 (rF2 s)), .b p3_2 (agF [.c (.int .i64 (nuV s)), .a 32 (suV (rF1 s)), .a 80 (le (rawV 80 (rF2 s))), .c (.bool (flV (rF3 s))), .c (.int .i64 (nuV (rF4 s))), .c ut13, .a 32 (suV (rF6 s)), .a 32 (suV (rF7 s)), .c u_20, .c (.bool (takeM (rF8 s)).1.2.1), .a 32 ((takeM (rF8 s)).1.2.2.1), .a 32 ((takeM (rF8 s)).1.2.2.2.1), .a 32 (suV (rF9 s)), .a 32 (suV (rF10 s)), .a 32 0, .c (.int .i64 0)]) 64, .b p2_1 (agF [.c (.int .i64 0), .a 32 0, .a 80 0, .c (.bool false), .c (.int .i64 0), .c (.slice none 0 0), .a 32 0, .a 32 0, .c (.slice none 0 0), .c (.bool false), .a 32 0, .a 32 0, .a 32 0, .a 32 0, .a 32 0, .c (.int .i64 0)]) 64]) (fun W hS => hS) ?_
 refine MV ?_
 refine Mq 6 (new := agF [.c (.int .i64 (nuV s)), .a 32 (suV (rF1 s)), .a 80 (le (rawV 80 (rF2 s))), .c (.bool (flV (rF3 s))), .c (.int .i64 (nuV (rF4 s))), .c ut13, .a 32 (suV (rF6 s)), .a 32 (suV (rF7 s)), .c u_20, .c (.bool (takeM (rF8 s)).1.2.1), .a 32 ((takeM (rF8 s)).1.2.2.1), .a 32 ((takeM (rF8 s)).1.2.2.2.1), .a 32 (suV (rF9 s)), .a 32 (suV (rF10 s)), .a 32 (suV (rF11 s)), .c (.int .i64 0)]) ?_ (hc := agF_seta (off := 310) 14) (hs := by rw [arrK_size, agF_size]; show 310 + 32 ≤ 343; decide)
 refine MZ fun W hS => ?_
 go_upto_region 14 with fail
 refine RL hS ?_
 clear hS
 refine MV ?_
 refine MV ?_
 refine MV ?_
 refine MG 1 ?_ (v := .pointer (some ⟨p, 0, none⟩))
 refine ME (V := fun _ => .int .i64 (nuV (rF12 s))) (fun W hS => rdcall (i := 2) (j := 0) hS rfl rfl (fun hr => rnum_t (s := rF12 s) hr (by have := hb_27; omega))) ?_
 rintro ⟨rv28, hs_28⟩
 dsimp only
 refine MD 1 ?_
 have hb_29 : (rFS s).1.length ≤ 1000000 := Nat.le_trans (tkS_len _ _) hb_27
 refine MT (H' := [.s rv28 ((rFS s).1), .b r #[.pointer (some ⟨p, 0, none⟩), .bool (pB2 (rF8 s) (rawB 80 (rF2 s) bad))] 115, .b p #[rv28, .int .i64 (rFS s).2] 141, .r 27 32 u_20 (List.map b32l (takeM (rF8 s)).1.1), .o ut13 (txV 64 (rF5 s)), .o (.slice (some ⟨g7, 0, none⟩) 80 c7) (rawV 80 (rF2 s)), .b p3_2 (agF [.c (.int .i64 (nuV s)), .a 32 (suV (rF1 s)), .a 80 (le (rawV 80 (rF2 s))), .c (.bool (flV (rF3 s))), .c (.int .i64 (nuV (rF4 s))), .c ut13, .a 32 (suV (rF6 s)), .a 32 (suV (rF7 s)), .c u_20, .c (.bool (takeM (rF8 s)).1.2.1), .a 32 ((takeM (rF8 s)).1.2.2.1), .a 32 ((takeM (rF8 s)).1.2.2.2.1), .a 32 (suV (rF9 s)), .a 32 (suV (rF10 s)), .a 32 (suV (rF11 s)), .c (.int .i64 0)]) 64, .b p2_1 (agF [.c (.int .i64 0), .a 32 0, .a 80 0, .c (.bool false), .c (.int .i64 0), .c (.slice none 0 0), .a 32 0, .a 32 0, .c (.slice none 0 0), .c (.bool false), .a 32 0, .a 32 0, .a 32 0, .a 32 0, .a 32 0, .c (.int .i64 0)]) 64]) (fun W hS => hS) ?_
 refine MV ?_
 refine MP 6 (v := .int .i64 (nuV (rF12 s))) (cs' := agF [.c (.int .i64 (nuV s)), .a 32 (suV (rF1 s)), .a 80 (le (rawV 80 (rF2 s))), .c (.bool (flV (rF3 s))), .c (.int .i64 (nuV (rF4 s))), .c ut13, .a 32 (suV (rF6 s)), .a 32 (suV (rF7 s)), .c u_20, .c (.bool (takeM (rF8 s)).1.2.1), .a 32 ((takeM (rF8 s)).1.2.2.1), .a 32 ((takeM (rF8 s)).1.2.2.2.1), .a 32 (suV (rF9 s)), .a 32 (suV (rF10 s)), .a 32 (suV (rF11 s)), .c (.int .i64 (nuV (rF12 s)))]) ?_ (hs := by rw [agF_size]; show 342 < 343; decide) (hc := agF_setc (off := 342) 15)
 refine MZ fun W hS => ?_
 go_upto_region 15 with fail
 refine RL hS ?_
 clear hS
 refine ML 6 ?_ (hs := by rw [agF_size]; kernel_rfl)
 refine MR 7 ?_ (hz := by rw [agF_size]; kernel_rfl) (hs := by first | (rw [agF_size, agF_size]; rfl) | rfl) (h1 := by exact (agF_one ⟨rfl, rfl, rfl, oc_tx1315, hsc20.2, rfl, rfl, trivial⟩))
 refine MZ fun W hS => ?_
 go_wp2
 first | exact bodyPost_ret (res_cell1 rfl rfl (hS.blk (i := 7) rfl) (by kernel_rfl) (by rw [agF_size]; kernel_rfl)) rfl ⟨(ut13, u_20), _, rfl, hS.pick [0, 1, 2, 4, 3], (sub_tr hs_28 (sub_tr hs_26 (sub_tr hs_24 (sub_tr hs_22 (sub_tr hs_20 (sub_tr hs_18 (sub_tr hs_16 (sub_tr hs_13 (sub_tr hs_11 (sub_tr hs_9 (sub_tr hs_7 (sub_tr hs_5 (sub_tr hs_3 sub_refl)))))))))))))⟩ | exact bodyPost_end (res_cell1 rfl rfl (hS.blk (i := 7) rfl) (by kernel_rfl) (by rw [agF_size]; kernel_rfl)) rfl ⟨(ut13, u_20), _, rfl, hS.pick [0, 1, 2, 4, 3], (sub_tr hs_28 (sub_tr hs_26 (sub_tr hs_24 (sub_tr hs_22 (sub_tr hs_20 (sub_tr hs_18 (sub_tr hs_16 (sub_tr hs_13 (sub_tr hs_11 (sub_tr hs_9 (sub_tr hs_7 (sub_tr hs_5 (sub_tr hs_3 sub_refl)))))))))))))⟩
end Go.Proofs.Ytlbgelbhhibikaa.Ww
