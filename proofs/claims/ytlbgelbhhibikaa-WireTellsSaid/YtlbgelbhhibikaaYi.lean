/- wire's reader: the rest of an answer. Conditions: memory holds what is written. -/
import Derived.Test.YtlbgelbhhibikaaJ32
set_option linter.unusedSimpArgs false
set_option linter.unusedVariables false
namespace Go.Proofs.Ytlbgelbhhibikaa.Ww
set_option maxHeartbeats 6000000
set_option maxRecDepth 100000
open Go.RowKit
attribute [local irreducible] wpList wpTr wpX
set_option linter.unusedSimpArgs false

theorem r_1 {k er : Int} {us : List Value} {s : RSt} (h : k = 1) : rA k er us s = { zA k er with ep := nuV s } ∧ rS k s = tkS 8 s ∧ rB k s = false := by
 subst h; exact ⟨rfl, rfl, rfl⟩
theorem r_10 {k er : Int} {us : List Value} {s : RSt} (h : k = 10) : rA k er us s = { zA k er with ep := nuV s } ∧ rS k s = tkS 8 s ∧ rB k s = false := by
 subst h; exact ⟨rfl, rfl, rfl⟩
theorem r_6 {k er : Int} {us : List Value} {s : RSt} (h : k = 6) : rA k er us s = { zA k er with f := rFo s, pub := suV (rFS s), lat := sumsV (cV 256 (rL1 s)) (tkS 8 (rL1 s)), u := rUn (rL2 s) } ∧ rS k s = rUS (rL2 s) ∧ rB k s = rUB (rL2 s) (cB 256 (rL1 s) (rFB s false)) := by
 subst h; exact ⟨rfl, rfl, rfl⟩
theorem r_7 {k er : Int} {us : List Value} {s : RSt} (h : k = 7) : rA k er us s = { zA k er with en := ensV us (tkS 8 s) } ∧ rS k s = ensS (cV 1024 s) (tkS 8 s) ∧ rB k s = cB 1024 s false := by
 subst h; exact ⟨rfl, rfl, rfl⟩
theorem r_8 {k er : Int} {us : List Value} {s : RSt} (h : k = 8) : rA k er us s = { zA k er with mks := mksV (cV 1024 s) (tkS 8 s) } ∧ rS k s = mksS (cV 1024 s) (tkS 8 s) ∧ rB k s = cB 1024 s false := by
 subst h; exact ⟨rfl, rfl, rfl⟩
theorem r_9 {k er : Int} {us : List Value} {s : RSt} (h : k = 9) : rA k er us s = { zA k er with bun := txV 65535 s } ∧ rS k s = txS 65535 s ∧ rB k s = false := by
 subst h; exact ⟨rfl, rfl, rfl⟩
theorem r_11 {k er : Int} {us : List Value} {s : RSt} (h : k = 11) : rA k er us s = { zA k er with m := rMb s, u := rUn (rMS s) } ∧ rS k s = rUS (rMS s) ∧ rB k s = rUB (rMS s) false := by
 subst h; exact ⟨rfl, rfl, rfl⟩
theorem r_12 {k er : Int} {us : List Value} {s : RSt} (h : k = 12) : rA k er us s = { zA k er with lo := suV s, su := sumsV (cV 256 (tkS 32 s)) (tkS 8 (tkS 32 s)) } ∧ rS k s = sumsS (cV 256 (tkS 32 s)) (tkS 8 (tkS 32 s)) ∧ rB k s = cB 256 (tkS 32 s) false := by
 subst h; exact ⟨rfl, rfl, rfl⟩
attribute [local irreducible] lb be8 eI tB txL txB txV txS tkS byV nuV suV enV takeM flV flS rawV rawB pB2 sumsV sumsS cV cB rFS rFB rUS rUB rMS mksV mksS ensV ensS

theorem rest_1 {r p q : Nat} {v : Value} {k er : Int} {s : RSt} (hk : k = 1) (hb0 : s.1.length ≤ 1000000) (w : World) (h_ : SH [r, p, q] w w (.b q (anF (zA k er) zV) 85 :: wrdL r p v s false)) :
  Calls Try.prog 54 #[.pointer (some ⟨r, 0, none⟩), .pointer (some ⟨q, 0, none⟩)] w fun e w' => RestR r p q v k er s w w' e := by
 have hS := h_
 go_enter Try.func54, Try.ntmps54
 go_upto_region 0 with fail
 refine RL hS ?_
 clear hS
 refine MV ?_
 refine MV ?_
 refine MV ?_
 refine MG 0 ?_ (v := .int .i64 k) (hj := (agF_cel (off := 0) 0))
 refine MZ fun W hS => ?_
 go_upto_region 1 with fail
 refine RL hS ?_
 clear hS
 refine MW ?_ (v := .bool true) (hv := by intro W; go_simp; first | done | omega | decide)
 refine MW ?_ (v := .bool true)
 refine MZ fun W hS => ?_
 go_upto_region 3 with fail
 refine RL hS ?_
 clear hS
 refine MV ?_
 refine MV ?_
 refine MV ?_
 refine MV ?_
 refine MG 1 ?_ (v := .pointer (some ⟨p, 0, none⟩))
 refine ME (V := fun _ => .int .i64 (nuV s)) (fun W hS => rdcall (i := 2) (j := 3) hS rfl rfl (fun hr => rnum_t (s := s) hr (by have := hb0; omega))) ?_
 rintro ⟨rv1, hs_1⟩
 dsimp only
 refine MD 4 ?_
 have hb_2 : (tkS 8 s).1.length ≤ 1000000 := Nat.le_trans (tkS_len _ _) hb0
 refine MV ?_
 refine MV ?_
 refine MP 1 (v := .int .i64 (nuV s)) (cs' := agF (.c (.int .i64 k) :: .c (.int .i64 er) :: .c (.int .i64 (nuV s)) :: .c (.int .i64 0) :: .a 32 0 :: .a 80 0 :: .c (.bool false) :: .c (.int .i64 0) :: .c (.slice none 0 0) :: .a 32 0 :: .a 32 0 :: .c (.slice none 0 0) :: .c (.bool false) :: .a 32 0 :: .a 32 0 :: .a 32 0 :: .a 32 0 :: .a 32 0 :: .c (.int .i64 0) :: .a 32 0 :: .c (.slice none 0 0) :: .c (.slice none 0 0) :: .c (.bool false) :: .a 32 0 :: .a 32 0 :: .c (.int .i64 0) :: .a 32 0 :: .a 64 0 :: .a 32 0 :: .c (.slice none 0 0) :: .c (.slice none 0 0) :: .c (.slice none 0 0) :: .c (.slice none 0 0) :: .c (.bool false) :: .c (.int .i64 0) :: .a 32 0 :: .c (.slice none 0 0) :: .a 32 0 :: .c (.slice none 0 0) :: [])) ?_ (hs := by rw [agF_size]; exact Nat.le_of_ble_eq_true (by kernel_rfl)) (hc := agF_setc (off := 2) 2)
 refine MZ fun W hS => ?_
 have hT : SH [r, p, q] w W ([] ++ [.s rv1 ((tkS 8 s).1), .b r #[.pointer (some ⟨p, 0, none⟩), .bool false] 115, .b p #[rv1, .int .i64 (tkS 8 s).2] 141, .b q (agF (.c (.int .i64 k) :: .c (.int .i64 er) :: .c (.int .i64 (nuV s)) :: .c (.int .i64 0) :: .a 32 0 :: .a 80 0 :: .c (.bool false) :: .c (.int .i64 0) :: .c (.slice none 0 0) :: .a 32 0 :: .a 32 0 :: .c (.slice none 0 0) :: .c (.bool false) :: .a 32 0 :: .a 32 0 :: .a 32 0 :: .a 32 0 :: .a 32 0 :: .c (.int .i64 0) :: .a 32 0 :: .c (.slice none 0 0) :: .c (.slice none 0 0) :: .c (.bool false) :: .a 32 0 :: .a 32 0 :: .c (.int .i64 0) :: .a 32 0 :: .a 64 0 :: .a 32 0 :: .c (.slice none 0 0) :: .c (.slice none 0 0) :: .c (.slice none 0 0) :: .c (.slice none 0 0) :: .c (.bool false) :: .c (.int .i64 0) :: .a 32 0 :: .c (.slice none 0 0) :: .a 32 0 :: .c (.slice none 0 0) :: [])) 85]) := hS.pick [0, 2, 3, 1]
 obtain ⟨ea, es, eb⟩ := r_1 (er := er) (us := []) (s := s) hk
 have hA : AnR (rA k er [] s) ⟨nS, nS, nS, nS, nS, nS, nS, nS, nS, nS⟩ W := by rw [ea]; exact ⟨sl_nil W, rr_nil 32 W, rr_nil 32 W, rr_nil 32 W, rr_nil 32 W, enR_nil W, rr_nil 65 W, sl_nil W, sl_nil W, rr_nil 32 W⟩
 have hI : InN [] (anFt (rA k er [] s) ⟨nS, nS, nS, nS, nS, nS, nS, nS, nS, nS⟩) := by rw [ea]; exact inN_an inN_nil inN_nil inN_nil inN_nil inN_nil inN_nil inN_nil inN_nil inN_nil inN_nil
 have hZ := SH.fold hT (anT_holds hA) hI
 have hW := SH.foldn hT hI (frN rfl) hF3
 go_wp2
 subst hk
 refine bodyPost_end (v := .tuple #[]) (by simp only [results, Try.results54]; go_simp) rfl (show RestR r p q v 1 er s w _ _ from ⟨(⟨nS, nS, nS, nS, nS, nS, nS, nS, nS, nS⟩, []), rv1, rfl, ?_, ?_, hW, ?_⟩)
 ·
  dsimp only; rw [es, eb]; rw [ea] at hZ ⊢; exact hZ
 ·
  rw [es]; exact (sub_tr hs_1 sub_refl)
 ·
  intro h7; omega
theorem rest_10 {r p q : Nat} {v : Value} {k er : Int} {s : RSt} (hk : k = 10) (hb0 : s.1.length ≤ 1000000) (w : World) (h_ : SH [r, p, q] w w (.b q (anF (zA k er) zV) 85 :: wrdL r p v s false)) :
  Calls Try.prog 54 #[.pointer (some ⟨r, 0, none⟩), .pointer (some ⟨q, 0, none⟩)] w fun e w' => RestR r p q v k er s w w' e := by
 have hS := h_
 go_enter Try.func54, Try.ntmps54
 go_upto_region 0 with fail
 refine RL hS ?_
 clear hS
 refine MV ?_
 refine MV ?_
 refine MV ?_
 refine MG 0 ?_ (v := .int .i64 k) (hj := (agF_cel (off := 0) 0))
 refine MZ fun W hS => ?_
 go_upto_region 1 with fail
 refine RL hS ?_
 clear hS
 refine MW ?_ (v := .bool false) (hv := by intro W; go_simp; first | done | omega | decide)
 refine MW ?_ (v := .bool false)
 refine MZ fun W hS => ?_
 go_upto_region 2 with fail
 refine RL hS ?_
 clear hS
 refine MW ?_ (v := .bool true) (hv := by intro W; go_simp; first | done | omega | decide)
 refine MW ?_ (v := .bool true)
 refine MZ fun W hS => ?_
 go_upto_region 3 with fail
 refine RL hS ?_
 clear hS
 refine MV ?_
 refine MV ?_
 refine MV ?_
 refine MV ?_
 refine MG 1 ?_ (v := .pointer (some ⟨p, 0, none⟩))
 refine ME (V := fun _ => .int .i64 (nuV s)) (fun W hS => rdcall (i := 2) (j := 3) hS rfl rfl (fun hr => rnum_t (s := s) hr (by have := hb0; omega))) ?_
 rintro ⟨rv1, hs_1⟩
 dsimp only
 refine MD 4 ?_
 have hb_2 : (tkS 8 s).1.length ≤ 1000000 := Nat.le_trans (tkS_len _ _) hb0
 refine MV ?_
 refine MV ?_
 refine MP 1 (v := .int .i64 (nuV s)) (cs' := agF (.c (.int .i64 k) :: .c (.int .i64 er) :: .c (.int .i64 (nuV s)) :: .c (.int .i64 0) :: .a 32 0 :: .a 80 0 :: .c (.bool false) :: .c (.int .i64 0) :: .c (.slice none 0 0) :: .a 32 0 :: .a 32 0 :: .c (.slice none 0 0) :: .c (.bool false) :: .a 32 0 :: .a 32 0 :: .a 32 0 :: .a 32 0 :: .a 32 0 :: .c (.int .i64 0) :: .a 32 0 :: .c (.slice none 0 0) :: .c (.slice none 0 0) :: .c (.bool false) :: .a 32 0 :: .a 32 0 :: .c (.int .i64 0) :: .a 32 0 :: .a 64 0 :: .a 32 0 :: .c (.slice none 0 0) :: .c (.slice none 0 0) :: .c (.slice none 0 0) :: .c (.slice none 0 0) :: .c (.bool false) :: .c (.int .i64 0) :: .a 32 0 :: .c (.slice none 0 0) :: .a 32 0 :: .c (.slice none 0 0) :: [])) ?_ (hs := by rw [agF_size]; exact Nat.le_of_ble_eq_true (by kernel_rfl)) (hc := agF_setc (off := 2) 2)
 refine MZ fun W hS => ?_
 have hT : SH [r, p, q] w W ([] ++ [.s rv1 ((tkS 8 s).1), .b r #[.pointer (some ⟨p, 0, none⟩), .bool false] 115, .b p #[rv1, .int .i64 (tkS 8 s).2] 141, .b q (agF (.c (.int .i64 k) :: .c (.int .i64 er) :: .c (.int .i64 (nuV s)) :: .c (.int .i64 0) :: .a 32 0 :: .a 80 0 :: .c (.bool false) :: .c (.int .i64 0) :: .c (.slice none 0 0) :: .a 32 0 :: .a 32 0 :: .c (.slice none 0 0) :: .c (.bool false) :: .a 32 0 :: .a 32 0 :: .a 32 0 :: .a 32 0 :: .a 32 0 :: .c (.int .i64 0) :: .a 32 0 :: .c (.slice none 0 0) :: .c (.slice none 0 0) :: .c (.bool false) :: .a 32 0 :: .a 32 0 :: .c (.int .i64 0) :: .a 32 0 :: .a 64 0 :: .a 32 0 :: .c (.slice none 0 0) :: .c (.slice none 0 0) :: .c (.slice none 0 0) :: .c (.slice none 0 0) :: .c (.bool false) :: .c (.int .i64 0) :: .a 32 0 :: .c (.slice none 0 0) :: .a 32 0 :: .c (.slice none 0 0) :: [])) 85]) := hS.pick [0, 2, 3, 1]
 obtain ⟨ea, es, eb⟩ := r_10 (er := er) (us := []) (s := s) hk
 have hA : AnR (rA k er [] s) ⟨nS, nS, nS, nS, nS, nS, nS, nS, nS, nS⟩ W := by rw [ea]; exact ⟨sl_nil W, rr_nil 32 W, rr_nil 32 W, rr_nil 32 W, rr_nil 32 W, enR_nil W, rr_nil 65 W, sl_nil W, sl_nil W, rr_nil 32 W⟩
 have hI : InN [] (anFt (rA k er [] s) ⟨nS, nS, nS, nS, nS, nS, nS, nS, nS, nS⟩) := by rw [ea]; exact inN_an inN_nil inN_nil inN_nil inN_nil inN_nil inN_nil inN_nil inN_nil inN_nil inN_nil
 have hZ := SH.fold hT (anT_holds hA) hI
 have hW := SH.foldn hT hI (frN rfl) hF3
 go_wp2
 subst hk
 refine bodyPost_end (v := .tuple #[]) (by simp only [results, Try.results54]; go_simp) rfl (show RestR r p q v 10 er s w _ _ from ⟨(⟨nS, nS, nS, nS, nS, nS, nS, nS, nS, nS⟩, []), rv1, rfl, ?_, ?_, hW, ?_⟩)
 ·
  dsimp only; rw [es, eb]; rw [ea] at hZ ⊢; exact hZ
 ·
  rw [es]; exact (sub_tr hs_1 sub_refl)
 ·
  intro h7; omega
theorem rest_6 {r p q : Nat} {v : Value} {k er : Int} {s : RSt} (hk : k = 6) (hb0 : s.1.length ≤ 1000000) (w : World) (h_ : SH [r, p, q] w w (.b q (anF (zA k er) zV) 85 :: wrdL r p v s false)) :
  Calls Try.prog 54 #[.pointer (some ⟨r, 0, none⟩), .pointer (some ⟨q, 0, none⟩)] w fun e w' => RestR r p q v k er s w w' e := by
 have hS := h_
 go_enter Try.func54, Try.ntmps54
 go_upto_region 0 with fail
 refine RL hS ?_
 clear hS
 refine MV ?_
 refine MV ?_
 refine MV ?_
 refine MG 0 ?_ (v := .int .i64 k) (hj := (agF_cel (off := 0) 0))
 refine MZ fun W hS => ?_
 go_upto_region 1 with fail
 refine RL hS ?_
 clear hS
 refine MW ?_ (v := .bool false) (hv := by intro W; go_simp; first | done | omega | decide)
 refine MW ?_ (v := .bool false)
 refine MZ fun W hS => ?_
 go_upto_region 2 with fail
 refine RL hS ?_
 clear hS
 refine MW ?_ (v := .bool false) (hv := by intro W; go_simp; first | done | omega | decide)
 refine MW ?_ (v := .bool false)
 refine MZ fun W hS => ?_
 go_upto_region 4 with fail
 refine RL hS ?_
 clear hS
 refine MW ?_ (v := .bool true) (hv := by intro W; go_simp; first | done | omega | decide)
 refine MW ?_ (v := .bool true)
 refine MZ fun W hS => ?_
 go_upto_region 5 with fail
 refine RL hS ?_
 clear hS
 refine MV ?_
 refine MV ?_
 refine ME (V := fun x : { y : (Value × Value) × Value // Sub y.2 (rFS s).1 (sb v (s).1) } => .agg (foF (rFo s) x.1.1.1 x.1.1.2)) (fun W hS => wrcall (V := fun y : Value × Value => .agg (foF (rFo s) y.1 y.2)) (X := fun y : Value × Value => [.o y.1 (txV 64 (rF5 s)), .r 27 32 y.2 (List.map b32l (takeM (rF8 s)).1.1)]) [1, 2, 3] [0] hS (fun hT => wrfound_c hb0 W hT) (fun _ _ => ⟨.inr ⟨rfl, rfl⟩, .inr ⟨rfl, rfl⟩, ⟨.inr ⟨rfl, rfl⟩, ⟨.inr ⟨rfl, rfl⟩, trivial⟩⟩⟩)) ?_
 rintro ⟨⟨⟨fv, fs⟩, rv1⟩, hs_1⟩
 dsimp only
 have hb_2 : (rFS s).1.length ≤ 1000000 := Nat.le_trans (rFS_len _) hb0
 refine MT (H' := [.s rv1 ((rFS s).1), .b r #[.pointer (some ⟨p, 0, none⟩), .bool (rFB s false)] 115, .b p #[rv1, .int .i64 (rFS s).2] 141, .o fv (txV 64 (rF5 s)), .r 27 32 fs (List.map b32l (takeM (rF8 s)).1.1), .b q (anF (zA k er) zV) 85]) (fun W hS => hS) ?_
 refine MFact (fun W hS => sl_cells (hS.osl (i := 3) rfl)) ?_
 intro hq_fv1
 refine MFact (fun W hS => (hS.row (i := 4) rfl).cells) ?_
 intro hq_fs1
 refine MV ?_
 refine MV ?_
 refine Mq 5 (new := agF (.c (.int .i64 k) :: .c (.int .i64 er) :: .c (.int .i64 0) :: .c (.int .i64 (rFo s).ep) :: .a 32 ((rFo s).ix) :: .a 80 ((rFo s).vr) :: .c (.bool (rFo s).pre) :: .c (.int .i64 (rFo s).ver) :: .c fv :: .a 32 ((rFo s).bo) :: .a 32 ((rFo s).op) :: .c fs :: .c (.bool (rFo s).th) :: .a 32 ((rFo s).a) :: .a 32 ((rFo s).x) :: .a 32 ((rFo s).ro) :: .a 32 ((rFo s).li) :: .a 32 ((rFo s).ah) :: .c (.int .i64 (rFo s).rd) :: .a 32 0 :: .c (.slice none 0 0) :: .c (.slice none 0 0) :: .c (.bool false) :: .a 32 0 :: .a 32 0 :: .c (.int .i64 0) :: .a 32 0 :: .a 64 0 :: .a 32 0 :: .c (.slice none 0 0) :: .c (.slice none 0 0) :: .c (.slice none 0 0) :: .c (.slice none 0 0) :: .c (.bool false) :: .c (.int .i64 0) :: .a 32 0 :: .c (.slice none 0 0) :: .a 32 0 :: .c (.slice none 0 0) :: [])) ?_ (hc := agF_setp (off := 3) 3 16) (hs := by rw [agF_size, agF_size]; exact Nat.le_of_ble_eq_true (by kernel_rfl)) (h1 := by exact (agF_one ⟨rfl, rfl, rfl, hq_fv1.2, hq_fs1.2, rfl, rfl, trivial⟩))
 refine MZ fun W hS => ?_
 go_upto_region 6 with fail
 refine RL hS ?_
 clear hS
 refine MV ?_
 refine MV ?_
 refine MV ?_
 refine MV ?_
 refine MG 1 ?_ (v := .pointer (some ⟨p, 0, none⟩))
 refine ME (V := fun _ => .agg (arrK .u8 32 (byt (suV (rFS s))))) (fun W hS => rdcall (i := 2) (j := 0) hS rfl rfl (fun hr => rsum_t (s := rFS s) hr (by have := hb_2; omega))) ?_
 rintro ⟨rv3, hs_3⟩
 dsimp only
 refine MD 1 ?_
 have hb_4 : (rL1 s).1.length ≤ 1000000 := Nat.le_trans (tkS_len _ _) hb_2
 refine MT (H' := [.s rv3 ((rL1 s).1), .b r #[.pointer (some ⟨p, 0, none⟩), .bool (rFB s false)] 115, .b p #[rv3, .int .i64 (rL1 s).2] 141, .o fv (txV 64 (rF5 s)), .r 27 32 fs (List.map b32l (takeM (rF8 s)).1.1), .b q (agF (.c (.int .i64 k) :: .c (.int .i64 er) :: .c (.int .i64 0) :: .c (.int .i64 (rFo s).ep) :: .a 32 ((rFo s).ix) :: .a 80 ((rFo s).vr) :: .c (.bool (rFo s).pre) :: .c (.int .i64 (rFo s).ver) :: .c fv :: .a 32 ((rFo s).bo) :: .a 32 ((rFo s).op) :: .c fs :: .c (.bool (rFo s).th) :: .a 32 ((rFo s).a) :: .a 32 ((rFo s).x) :: .a 32 ((rFo s).ro) :: .a 32 ((rFo s).li) :: .a 32 ((rFo s).ah) :: .c (.int .i64 (rFo s).rd) :: .a 32 0 :: .c (.slice none 0 0) :: .c (.slice none 0 0) :: .c (.bool false) :: .a 32 0 :: .a 32 0 :: .c (.int .i64 0) :: .a 32 0 :: .a 64 0 :: .a 32 0 :: .c (.slice none 0 0) :: .c (.slice none 0 0) :: .c (.slice none 0 0) :: .c (.slice none 0 0) :: .c (.bool false) :: .c (.int .i64 0) :: .a 32 0 :: .c (.slice none 0 0) :: .a 32 0 :: .c (.slice none 0 0) :: [])) 85]) (fun W hS => hS) ?_
 refine MV ?_
 refine MV ?_
 refine Mq 5 (new := agF (.c (.int .i64 k) :: .c (.int .i64 er) :: .c (.int .i64 0) :: .c (.int .i64 (rFo s).ep) :: .a 32 ((rFo s).ix) :: .a 80 ((rFo s).vr) :: .c (.bool (rFo s).pre) :: .c (.int .i64 (rFo s).ver) :: .c fv :: .a 32 ((rFo s).bo) :: .a 32 ((rFo s).op) :: .c fs :: .c (.bool (rFo s).th) :: .a 32 ((rFo s).a) :: .a 32 ((rFo s).x) :: .a 32 ((rFo s).ro) :: .a 32 ((rFo s).li) :: .a 32 ((rFo s).ah) :: .c (.int .i64 (rFo s).rd) :: .a 32 (suV (rFS s)) :: .c (.slice none 0 0) :: .c (.slice none 0 0) :: .c (.bool false) :: .a 32 0 :: .a 32 0 :: .c (.int .i64 0) :: .a 32 0 :: .a 64 0 :: .a 32 0 :: .c (.slice none 0 0) :: .c (.slice none 0 0) :: .c (.slice none 0 0) :: .c (.slice none 0 0) :: .c (.bool false) :: .c (.int .i64 0) :: .a 32 0 :: .c (.slice none 0 0) :: .a 32 0 :: .c (.slice none 0 0) :: [])) ?_ (hc := agF_seta (off := 346) 19) (hs := by rw [arrK_size, agF_size]; exact Nat.le_of_ble_eq_true (by kernel_rfl))
 refine MZ fun W hS => ?_
 go_upto_region 7 with fail
 refine RL hS ?_
 clear hS
 refine MV ?_
 refine MV ?_
 refine ME (V := fun x : { y : (Value) × Value // Sub y.2 (sumsS (cV 256 (rL1 s)) (tkS 8 (rL1 s))).1 (sb rv3 (rL1 s).1) } => x.1.1) (fun W hS => wrcall (V := fun y : Value => y) (X := fun y : Value => [.r 27 32 y (List.map b32l (sumsV (cV 256 (rL1 s)) (tkS 8 (rL1 s))))]) [1, 2, 0] [3, 4, 5] hS (fun hT => wrsums_c hb_4 W hT) (fun _ _ => ⟨.inr ⟨rfl, rfl⟩, .inr ⟨rfl, rfl⟩, ⟨.inr ⟨rfl, rfl⟩, trivial⟩⟩)) ?_
 rintro ⟨⟨u_5, rv5⟩, hs_5⟩
 dsimp only
 have hb_6 : (rL2 s).1.length ≤ 1000000 := Nat.le_trans (Nat.le_trans (sumsS_len _ _) (tkS_len _ _)) hb_4
 refine MT (H' := [.s rv5 ((rL2 s).1), .b r #[.pointer (some ⟨p, 0, none⟩), .bool (cB 256 (rL1 s) (rFB s false))] 115, .b p #[rv5, .int .i64 (rL2 s).2] 141, .r 27 32 u_5 (List.map b32l (sumsV (cV 256 (rL1 s)) (tkS 8 (rL1 s)))), .o fv (txV 64 (rF5 s)), .r 27 32 fs (List.map b32l (takeM (rF8 s)).1.1), .b q (agF (.c (.int .i64 k) :: .c (.int .i64 er) :: .c (.int .i64 0) :: .c (.int .i64 (rFo s).ep) :: .a 32 ((rFo s).ix) :: .a 80 ((rFo s).vr) :: .c (.bool (rFo s).pre) :: .c (.int .i64 (rFo s).ver) :: .c fv :: .a 32 ((rFo s).bo) :: .a 32 ((rFo s).op) :: .c fs :: .c (.bool (rFo s).th) :: .a 32 ((rFo s).a) :: .a 32 ((rFo s).x) :: .a 32 ((rFo s).ro) :: .a 32 ((rFo s).li) :: .a 32 ((rFo s).ah) :: .c (.int .i64 (rFo s).rd) :: .a 32 (suV (rFS s)) :: .c (.slice none 0 0) :: .c (.slice none 0 0) :: .c (.bool false) :: .a 32 0 :: .a 32 0 :: .c (.int .i64 0) :: .a 32 0 :: .a 64 0 :: .a 32 0 :: .c (.slice none 0 0) :: .c (.slice none 0 0) :: .c (.slice none 0 0) :: .c (.slice none 0 0) :: .c (.bool false) :: .c (.int .i64 0) :: .a 32 0 :: .c (.slice none 0 0) :: .a 32 0 :: .c (.slice none 0 0) :: [])) 85]) (fun W hS => hS) ?_
 refine MFact (fun W hS => (hS.row (i := 3) rfl).cells) ?_
 intro hsc5
 refine MV ?_
 refine MV ?_
 refine MP 6 (v := u_5) (cs' := agF (.c (.int .i64 k) :: .c (.int .i64 er) :: .c (.int .i64 0) :: .c (.int .i64 (rFo s).ep) :: .a 32 ((rFo s).ix) :: .a 80 ((rFo s).vr) :: .c (.bool (rFo s).pre) :: .c (.int .i64 (rFo s).ver) :: .c fv :: .a 32 ((rFo s).bo) :: .a 32 ((rFo s).op) :: .c fs :: .c (.bool (rFo s).th) :: .a 32 ((rFo s).a) :: .a 32 ((rFo s).x) :: .a 32 ((rFo s).ro) :: .a 32 ((rFo s).li) :: .a 32 ((rFo s).ah) :: .c (.int .i64 (rFo s).rd) :: .a 32 (suV (rFS s)) :: .c u_5 :: .c (.slice none 0 0) :: .c (.bool false) :: .a 32 0 :: .a 32 0 :: .c (.int .i64 0) :: .a 32 0 :: .a 64 0 :: .a 32 0 :: .c (.slice none 0 0) :: .c (.slice none 0 0) :: .c (.slice none 0 0) :: .c (.slice none 0 0) :: .c (.bool false) :: .c (.int .i64 0) :: .a 32 0 :: .c (.slice none 0 0) :: .a 32 0 :: .c (.slice none 0 0) :: [])) ?_ (hs := by rw [agF_size]; exact Nat.le_of_ble_eq_true (by kernel_rfl)) (hc := agF_setc (off := 378) 20) (hv := fun W hS => Row.cells (hS.row (i := 3) rfl))
 refine MZ fun W hS => ?_
 go_upto_region 8 with fail
 refine RL hS ?_
 clear hS
 refine MV ?_
 refine MV ?_
 refine ME (V := fun x : { y : (Value × Value) × Value // Sub y.2 (rUS (rL2 s)).1 (sb rv5 (rL2 s).1) } => .agg (unF (rUn (rL2 s)) x.1.1.1 x.1.1.2)) (fun W hS => wrcall (V := fun y : Value × Value => .agg (unF (rUn (rL2 s)) y.1 y.2)) (X := fun y : Value × Value => [.r 27 32 y.1 (List.map b32l (takeM (rL2 s)).1.1), .r 27 32 y.2 (List.map b32l (sumsV (cV 256 (rU5 (rL2 s))) (tkS 8 (rU5 (rL2 s)))))]) [1, 2, 0] [3, 4, 5, 6] hS (fun hT => wrunder_c hb_6 W hT) (fun _ _ => ⟨.inr ⟨rfl, rfl⟩, .inr ⟨rfl, rfl⟩, ⟨.inr ⟨rfl, rfl⟩, ⟨.inr ⟨rfl, rfl⟩, trivial⟩⟩⟩)) ?_
 rintro ⟨⟨⟨usv, uuv⟩, rv7⟩, hs_7⟩
 dsimp only
 have hb_8 : (rUS (rL2 s)).1.length ≤ 1000000 := Nat.le_trans (rUS_len _) hb_6
 refine MT (H' := [.s rv7 ((rUS (rL2 s)).1), .b r #[.pointer (some ⟨p, 0, none⟩), .bool (rUB (rL2 s) (cB 256 (rL1 s) (rFB s false)))] 115, .b p #[rv7, .int .i64 (rUS (rL2 s)).2] 141, .r 27 32 usv (List.map b32l (takeM (rL2 s)).1.1), .r 27 32 uuv (List.map b32l (sumsV (cV 256 (rU5 (rL2 s))) (tkS 8 (rU5 (rL2 s))))), .r 27 32 u_5 (List.map b32l (sumsV (cV 256 (rL1 s)) (tkS 8 (rL1 s)))), .o fv (txV 64 (rF5 s)), .r 27 32 fs (List.map b32l (takeM (rF8 s)).1.1), .b q (agF (.c (.int .i64 k) :: .c (.int .i64 er) :: .c (.int .i64 0) :: .c (.int .i64 (rFo s).ep) :: .a 32 ((rFo s).ix) :: .a 80 ((rFo s).vr) :: .c (.bool (rFo s).pre) :: .c (.int .i64 (rFo s).ver) :: .c fv :: .a 32 ((rFo s).bo) :: .a 32 ((rFo s).op) :: .c fs :: .c (.bool (rFo s).th) :: .a 32 ((rFo s).a) :: .a 32 ((rFo s).x) :: .a 32 ((rFo s).ro) :: .a 32 ((rFo s).li) :: .a 32 ((rFo s).ah) :: .c (.int .i64 (rFo s).rd) :: .a 32 (suV (rFS s)) :: .c u_5 :: .c (.slice none 0 0) :: .c (.bool false) :: .a 32 0 :: .a 32 0 :: .c (.int .i64 0) :: .a 32 0 :: .a 64 0 :: .a 32 0 :: .c (.slice none 0 0) :: .c (.slice none 0 0) :: .c (.slice none 0 0) :: .c (.slice none 0 0) :: .c (.bool false) :: .c (.int .i64 0) :: .a 32 0 :: .c (.slice none 0 0) :: .a 32 0 :: .c (.slice none 0 0) :: [])) 85]) (fun W hS => hS) ?_
 refine MFact (fun W hS => (hS.row (i := 3) rfl).cells) ?_
 intro hq_us7
 refine MFact (fun W hS => (hS.row (i := 4) rfl).cells) ?_
 intro hq_uu7
 refine MV ?_
 refine MV ?_
 refine Mq 8 (new := agF (.c (.int .i64 k) :: .c (.int .i64 er) :: .c (.int .i64 0) :: .c (.int .i64 (rFo s).ep) :: .a 32 ((rFo s).ix) :: .a 80 ((rFo s).vr) :: .c (.bool (rFo s).pre) :: .c (.int .i64 (rFo s).ver) :: .c fv :: .a 32 ((rFo s).bo) :: .a 32 ((rFo s).op) :: .c fs :: .c (.bool (rFo s).th) :: .a 32 ((rFo s).a) :: .a 32 ((rFo s).x) :: .a 32 ((rFo s).ro) :: .a 32 ((rFo s).li) :: .a 32 ((rFo s).ah) :: .c (.int .i64 (rFo s).rd) :: .a 32 (suV (rFS s)) :: .c u_5 :: .c usv :: .c (.bool (rUn (rL2 s)).th) :: .a 32 ((rUn (rL2 s)).a) :: .a 32 ((rUn (rL2 s)).x) :: .c (.int .i64 ((rUn (rL2 s)).ep)) :: .a 32 ((rUn (rL2 s)).ro) :: .a 64 ((rUn (rL2 s)).sig) :: .a 32 ((rUn (rL2 s)).lo) :: .c uuv :: .c (.slice none 0 0) :: .c (.slice none 0 0) :: .c (.slice none 0 0) :: .c (.bool false) :: .c (.int .i64 0) :: .a 32 0 :: .c (.slice none 0 0) :: .a 32 0 :: .c (.slice none 0 0) :: [])) ?_ (hc := agF_setp (off := 379) 21 9) (hs := by rw [agF_size, agF_size]; exact Nat.le_of_ble_eq_true (by kernel_rfl)) (h1 := by exact (agF_one ⟨hq_us7.2, rfl, rfl, hq_uu7.2, trivial⟩))
 refine MZ fun W hS => ?_
 have hT : SH [r, p, q] w W ([.o fv (txV 64 (rF5 s)), .r 27 32 fs (List.map b32l (takeM (rF8 s)).1.1), .r 27 32 u_5 (List.map b32l (sumsV (cV 256 (rL1 s)) (tkS 8 (rL1 s)))), .r 27 32 usv (List.map b32l (takeM (rL2 s)).1.1), .r 27 32 uuv (List.map b32l (sumsV (cV 256 (rU5 (rL2 s))) (tkS 8 (rU5 (rL2 s)))))] ++ [.s rv7 ((rUS (rL2 s)).1), .b r #[.pointer (some ⟨p, 0, none⟩), .bool (rUB (rL2 s) (cB 256 (rL1 s) (rFB s false)))] 115, .b p #[rv7, .int .i64 (rUS (rL2 s)).2] 141, .b q (agF (.c (.int .i64 k) :: .c (.int .i64 er) :: .c (.int .i64 0) :: .c (.int .i64 (rFo s).ep) :: .a 32 ((rFo s).ix) :: .a 80 ((rFo s).vr) :: .c (.bool (rFo s).pre) :: .c (.int .i64 (rFo s).ver) :: .c fv :: .a 32 ((rFo s).bo) :: .a 32 ((rFo s).op) :: .c fs :: .c (.bool (rFo s).th) :: .a 32 ((rFo s).a) :: .a 32 ((rFo s).x) :: .a 32 ((rFo s).ro) :: .a 32 ((rFo s).li) :: .a 32 ((rFo s).ah) :: .c (.int .i64 (rFo s).rd) :: .a 32 (suV (rFS s)) :: .c u_5 :: .c usv :: .c (.bool (rUn (rL2 s)).th) :: .a 32 ((rUn (rL2 s)).a) :: .a 32 ((rUn (rL2 s)).x) :: .c (.int .i64 ((rUn (rL2 s)).ep)) :: .a 32 ((rUn (rL2 s)).ro) :: .a 64 ((rUn (rL2 s)).sig) :: .a 32 ((rUn (rL2 s)).lo) :: .c uuv :: .c (.slice none 0 0) :: .c (.slice none 0 0) :: .c (.slice none 0 0) :: .c (.bool false) :: .c (.int .i64 0) :: .a 32 0 :: .c (.slice none 0 0) :: .a 32 0 :: .c (.slice none 0 0) :: [])) 85]) := hS.pick [6, 7, 5, 3, 4, 0, 1, 2, 8]
 obtain ⟨ea, es, eb⟩ := r_6 (er := er) (us := []) (s := s) hk
 have hA : AnR (rA k er [] s) ⟨fv, fs, u_5, usv, uuv, nS, nS, nS, nS, nS⟩ W := by rw [ea]; exact ⟨hT.osl (i := 0) rfl, (hT.row (i := 1) rfl).rr, (hT.row (i := 2) rfl).rr, (hT.row (i := 3) rfl).rr, (hT.row (i := 4) rfl).rr, enR_nil W, rr_nil 65 W, sl_nil W, sl_nil W, rr_nil 32 W⟩
 have hI : InN [.o fv (txV 64 (rF5 s)), .r 27 32 fs (List.map b32l (takeM (rF8 s)).1.1), .r 27 32 u_5 (List.map b32l (sumsV (cV 256 (rL1 s)) (tkS 8 (rL1 s)))), .r 27 32 usv (List.map b32l (takeM (rL2 s)).1.1), .r 27 32 uuv (List.map b32l (sumsV (cV 256 (rU5 (rL2 s))) (tkS 8 (rU5 (rL2 s)))))] (anFt (rA k er [] s) ⟨fv, fs, u_5, usv, uuv, nS, nS, nS, nS, nS⟩) := by rw [ea]; exact inN_an (inN_o 0 rfl) (inN_r 1 rfl (row_fb (hT.row (i := 1) rfl))) (inN_r 2 rfl (row_fb (hT.row (i := 2) rfl))) (inN_r 3 rfl (row_fb (hT.row (i := 3) rfl))) (inN_r 4 rfl (row_fb (hT.row (i := 4) rfl))) inN_nil inN_nil inN_nil inN_nil inN_nil
 have hZ := SH.fold hT (anT_holds hA) hI
 have hW := SH.foldn hT hI (frN rfl) hF3
 go_wp2
 subst hk
 refine bodyPost_end (v := .tuple #[]) (by simp only [results, Try.results54]; go_simp) rfl (show RestR r p q v 6 er s w _ _ from ⟨(⟨fv, fs, u_5, usv, uuv, nS, nS, nS, nS, nS⟩, []), rv7, rfl, ?_, ?_, hW, ?_⟩)
 ·
  dsimp only; rw [es, eb]; rw [ea] at hZ ⊢; exact hZ
 ·
  rw [es]; exact (sub_tr hs_7 (sub_tr hs_5 (sub_tr hs_3 (sub_tr hs_1 sub_refl))))
 ·
  intro h7; omega
theorem rest_7 {r p q : Nat} {v : Value} {k er : Int} {s : RSt} (hk : k = 7) (hb0 : s.1.length ≤ 1000000) (w : World) (h_ : SH [r, p, q] w w (.b q (anF (zA k er) zV) 85 :: wrdL r p v s false)) :
  Calls Try.prog 54 #[.pointer (some ⟨r, 0, none⟩), .pointer (some ⟨q, 0, none⟩)] w fun e w' => RestR r p q v k er s w w' e := by
 have hS := h_
 go_enter Try.func54, Try.ntmps54
 go_upto_region 0 with fail
 refine RL hS ?_
 clear hS
 refine MV ?_
 refine MV ?_
 refine MV ?_
 refine MG 0 ?_ (v := .int .i64 k) (hj := (agF_cel (off := 0) 0))
 refine MZ fun W hS => ?_
 go_upto_region 1 with fail
 refine RL hS ?_
 clear hS
 refine MW ?_ (v := .bool false) (hv := by intro W; go_simp; first | done | omega | decide)
 refine MW ?_ (v := .bool false)
 refine MZ fun W hS => ?_
 go_upto_region 2 with fail
 refine RL hS ?_
 clear hS
 refine MW ?_ (v := .bool false) (hv := by intro W; go_simp; first | done | omega | decide)
 refine MW ?_ (v := .bool false)
 refine MZ fun W hS => ?_
 go_upto_region 4 with fail
 refine RL hS ?_
 clear hS
 refine MW ?_ (v := .bool false) (hv := by intro W; go_simp; first | done | omega | decide)
 refine MW ?_ (v := .bool false)
 refine MZ fun W hS => ?_
 go_upto_region 9 with fail
 refine RL hS ?_
 clear hS
 refine MW ?_ (v := .bool true) (hv := by intro W; go_simp; first | done | omega | decide)
 refine MW ?_ (v := .bool true)
 refine MZ fun W hS => ?_
 go_upto_region 10 with fail
 refine RL hS ?_
 clear hS
 refine MV ?_
 refine MV ?_
 refine ME (V := fun x : { y : ({ y : Value × List Value // cV 1024 s = y.2.length }) × Value // Sub y.2 (ensS (cV 1024 s) (tkS 8 s)).1 (sb v (s).1) ∧ ∀ k ∈ enFt (ensV y.1.1.2 (tkS 8 s)), w.heap.size ≤ k } => x.1.1.1.1) (fun W hS => wrcallP (V := fun y : { y : Value × List Value // cV 1024 s = y.2.length } => y.1.1) (X := fun y : { y : Value × List Value // cV 1024 s = y.2.length } => [.r 125 3 y.1.1 (List.map enC (ensV y.1.2 (tkS 8 s)))]) (f := fun y : { y : Value × List Value // cV 1024 s = y.2.length } => enFt (ensV y.1.2 (tkS 8 s))) (K := fun y : { y : Value × List Value // cV 1024 s = y.2.length } => enK (ensV y.1.2 (tkS 8 s))) [1, 2, 3] [0] hS (fun hT => wrentries_c hb0 W hT) (fun _ _ => ⟨.inr ⟨rfl, rfl⟩, .inr ⟨rfl, rfl⟩, .inr ⟨rfl, rfl⟩, trivial⟩)) ?_
 rintro ⟨⟨⟨⟨env, us⟩, hcu⟩, rv1⟩, hs_1, hfr⟩
 dsimp only
 have hb_2 : (ensS (cV 1024 s) (tkS 8 s)).1.length ≤ 1000000 := Nat.le_trans (Nat.le_trans (ensS_len _ _) (tkS_len _ _)) hb0
 refine MT (H' := [.p (enFt (ensV us (tkS 8 s))) (enK (ensV us (tkS 8 s))), .s rv1 ((ensS (cV 1024 s) (tkS 8 s)).1), .b r #[.pointer (some ⟨p, 0, none⟩), .bool (cB 1024 s false)] 115, .b p #[rv1, .int .i64 (ensS (cV 1024 s) (tkS 8 s)).2] 141, .r 125 3 env (List.map enC (ensV us (tkS 8 s))), .b q (anF (zA k er) zV) 85]) (fun W hS => hS) ?_
 refine MFact (fun W hS => (hS.row (i := 4) rfl).cells) ?_
 intro hq_en1
 refine MV ?_
 refine MV ?_
 refine MP 5 (v := env) (cs' := agF (.c (.int .i64 k) :: .c (.int .i64 er) :: .c (.int .i64 0) :: .c (.int .i64 0) :: .a 32 0 :: .a 80 0 :: .c (.bool false) :: .c (.int .i64 0) :: .c (.slice none 0 0) :: .a 32 0 :: .a 32 0 :: .c (.slice none 0 0) :: .c (.bool false) :: .a 32 0 :: .a 32 0 :: .a 32 0 :: .a 32 0 :: .a 32 0 :: .c (.int .i64 0) :: .a 32 0 :: .c (.slice none 0 0) :: .c (.slice none 0 0) :: .c (.bool false) :: .a 32 0 :: .a 32 0 :: .c (.int .i64 0) :: .a 32 0 :: .a 64 0 :: .a 32 0 :: .c (.slice none 0 0) :: .c env :: .c (.slice none 0 0) :: .c (.slice none 0 0) :: .c (.bool false) :: .c (.int .i64 0) :: .a 32 0 :: .c (.slice none 0 0) :: .a 32 0 :: .c (.slice none 0 0) :: [])) ?_ (hs := by rw [agF_size]; exact Nat.le_of_ble_eq_true (by kernel_rfl)) (hc := agF_setc (off := 575) 30) (hv := fun W hS => Row.cells (hS.row (i := 4) rfl))
 refine MZ fun W hS => ?_
 have hT : SH [r, p, q] w W ([.p (enFt (ensV us (tkS 8 s))) (enK (ensV us (tkS 8 s))), .r 125 3 env (List.map enC (ensV us (tkS 8 s)))] ++ [.s rv1 ((ensS (cV 1024 s) (tkS 8 s)).1), .b r #[.pointer (some ⟨p, 0, none⟩), .bool (cB 1024 s false)] 115, .b p #[rv1, .int .i64 (ensS (cV 1024 s) (tkS 8 s)).2] 141, .b q (agF (.c (.int .i64 k) :: .c (.int .i64 er) :: .c (.int .i64 0) :: .c (.int .i64 0) :: .a 32 0 :: .a 80 0 :: .c (.bool false) :: .c (.int .i64 0) :: .c (.slice none 0 0) :: .a 32 0 :: .a 32 0 :: .c (.slice none 0 0) :: .c (.bool false) :: .a 32 0 :: .a 32 0 :: .a 32 0 :: .a 32 0 :: .a 32 0 :: .c (.int .i64 0) :: .a 32 0 :: .c (.slice none 0 0) :: .c (.slice none 0 0) :: .c (.bool false) :: .a 32 0 :: .a 32 0 :: .c (.int .i64 0) :: .a 32 0 :: .a 64 0 :: .a 32 0 :: .c (.slice none 0 0) :: .c env :: .c (.slice none 0 0) :: .c (.slice none 0 0) :: .c (.bool false) :: .c (.int .i64 0) :: .a 32 0 :: .c (.slice none 0 0) :: .a 32 0 :: .c (.slice none 0 0) :: [])) 85]) := hS.pick [0, 4, 1, 2, 3, 5]
 obtain ⟨ea, es, eb⟩ := r_7 (er := er) (us := us) (s := s) hk
 have hA : AnR (rA k er us s) ⟨nS, nS, nS, nS, nS, env, nS, nS, nS, nS⟩ W := by rw [ea]; exact ⟨sl_nil W, rr_nil 32 W, rr_nil 32 W, rr_nil 32 W, rr_nil 32 W, ⟨(hT.row (i := 1) rfl).rr, hT.pp (i := 0) rfl⟩, rr_nil 65 W, sl_nil W, sl_nil W, rr_nil 32 W⟩
 have hI : InN [.p (enFt (ensV us (tkS 8 s))) (enK (ensV us (tkS 8 s))), .r 125 3 env (List.map enC (ensV us (tkS 8 s)))] (anFt (rA k er us s) ⟨nS, nS, nS, nS, nS, env, nS, nS, nS, nS⟩) := by rw [ea]; exact inN_an inN_nil inN_nil inN_nil inN_nil inN_nil (inN_app (inN_r 1 rfl (row_fb (hT.row (i := 1) rfl))) (inN_p 0 rfl)) inN_nil inN_nil inN_nil inN_nil
 have hZ := SH.fold hT (anT_holds hA) hI
 have hW := SH.foldn hT hI (fun x hx hm => (List.mem_cons.1 hx).elim (fun e => by subst e; exact hfr) (fun h2 => by rw [List.mem_singleton.1 h2] at hm; cases hm)) hF3
 go_wp2
 subst hk
 refine bodyPost_end (v := .tuple #[]) (by simp only [results, Try.results54]; go_simp) rfl (show RestR r p q v 7 er s w _ _ from ⟨(⟨nS, nS, nS, nS, nS, env, nS, nS, nS, nS⟩, us), rv1, rfl, ?_, ?_, hW, ?_⟩)
 ·
  dsimp only; rw [es, eb]; rw [ea] at hZ ⊢; exact hZ
 ·
  rw [es]; exact (sub_tr hs_1 sub_refl)
 ·
  intro h7; exact hcu
theorem rest_8 {r p q : Nat} {v : Value} {k er : Int} {s : RSt} (hk : k = 8) (hb0 : s.1.length ≤ 1000000) (w : World) (h_ : SH [r, p, q] w w (.b q (anF (zA k er) zV) 85 :: wrdL r p v s false)) :
  Calls Try.prog 54 #[.pointer (some ⟨r, 0, none⟩), .pointer (some ⟨q, 0, none⟩)] w fun e w' => RestR r p q v k er s w w' e := by
 have hS := h_
 go_enter Try.func54, Try.ntmps54
 go_upto_region 0 with fail
 refine RL hS ?_
 clear hS
 refine MV ?_
 refine MV ?_
 refine MV ?_
 refine MG 0 ?_ (v := .int .i64 k) (hj := (agF_cel (off := 0) 0))
 refine MZ fun W hS => ?_
 go_upto_region 1 with fail
 refine RL hS ?_
 clear hS
 refine MW ?_ (v := .bool false) (hv := by intro W; go_simp; first | done | omega | decide)
 refine MW ?_ (v := .bool false)
 refine MZ fun W hS => ?_
 go_upto_region 2 with fail
 refine RL hS ?_
 clear hS
 refine MW ?_ (v := .bool false) (hv := by intro W; go_simp; first | done | omega | decide)
 refine MW ?_ (v := .bool false)
 refine MZ fun W hS => ?_
 go_upto_region 4 with fail
 refine RL hS ?_
 clear hS
 refine MW ?_ (v := .bool false) (hv := by intro W; go_simp; first | done | omega | decide)
 refine MW ?_ (v := .bool false)
 refine MZ fun W hS => ?_
 go_upto_region 9 with fail
 refine RL hS ?_
 clear hS
 refine MW ?_ (v := .bool false) (hv := by intro W; go_simp; first | done | omega | decide)
 refine MW ?_ (v := .bool false)
 refine MZ fun W hS => ?_
 go_upto_region 11 with fail
 refine RL hS ?_
 clear hS
 refine MW ?_ (v := .bool true) (hv := by intro W; go_simp; first | done | omega | decide)
 refine MW ?_ (v := .bool true)
 refine MZ fun W hS => ?_
 go_upto_region 12 with fail
 refine RL hS ?_
 clear hS
 refine MV ?_
 refine MV ?_
 refine ME (V := fun x : { y : (Value) × Value // Sub y.2 (mksS (cV 1024 s) (tkS 8 s)).1 (sb v (s).1) } => x.1.1) (fun W hS => wrcall (V := fun y : Value => y) (X := fun y : Value => [.r 127 65 y (List.map mkC (mksV (cV 1024 s) (tkS 8 s)))]) [1, 2, 3] [0] hS (fun hT => wrmarks_c hb0 W hT) (fun _ _ => ⟨.inr ⟨rfl, rfl⟩, .inr ⟨rfl, rfl⟩, ⟨.inr ⟨rfl, rfl⟩, trivial⟩⟩)) ?_
 rintro ⟨⟨mks, rv1⟩, hs_1⟩
 dsimp only
 have hb_2 : (mksS (cV 1024 s) (tkS 8 s)).1.length ≤ 1000000 := Nat.le_trans (Nat.le_trans (mksS_len _ _) (tkS_len _ _)) hb0
 refine MT (H' := [.s rv1 ((mksS (cV 1024 s) (tkS 8 s)).1), .b r #[.pointer (some ⟨p, 0, none⟩), .bool (cB 1024 s false)] 115, .b p #[rv1, .int .i64 (mksS (cV 1024 s) (tkS 8 s)).2] 141, .r 127 65 mks (List.map mkC (mksV (cV 1024 s) (tkS 8 s))), .b q (anF (zA k er) zV) 85]) (fun W hS => hS) ?_
 refine MFact (fun W hS => (hS.row (i := 3) rfl).cells) ?_
 intro hq_mks1
 refine MV ?_
 refine MV ?_
 refine MP 4 (v := mks) (cs' := agF (.c (.int .i64 k) :: .c (.int .i64 er) :: .c (.int .i64 0) :: .c (.int .i64 0) :: .a 32 0 :: .a 80 0 :: .c (.bool false) :: .c (.int .i64 0) :: .c (.slice none 0 0) :: .a 32 0 :: .a 32 0 :: .c (.slice none 0 0) :: .c (.bool false) :: .a 32 0 :: .a 32 0 :: .a 32 0 :: .a 32 0 :: .a 32 0 :: .c (.int .i64 0) :: .a 32 0 :: .c (.slice none 0 0) :: .c (.slice none 0 0) :: .c (.bool false) :: .a 32 0 :: .a 32 0 :: .c (.int .i64 0) :: .a 32 0 :: .a 64 0 :: .a 32 0 :: .c (.slice none 0 0) :: .c (.slice none 0 0) :: .c mks :: .c (.slice none 0 0) :: .c (.bool false) :: .c (.int .i64 0) :: .a 32 0 :: .c (.slice none 0 0) :: .a 32 0 :: .c (.slice none 0 0) :: [])) ?_ (hs := by rw [agF_size]; exact Nat.le_of_ble_eq_true (by kernel_rfl)) (hc := agF_setc (off := 576) 31) (hv := fun W hS => Row.cells (hS.row (i := 3) rfl))
 refine MZ fun W hS => ?_
 have hT : SH [r, p, q] w W ([.r 127 65 mks (List.map mkC (mksV (cV 1024 s) (tkS 8 s)))] ++ [.s rv1 ((mksS (cV 1024 s) (tkS 8 s)).1), .b r #[.pointer (some ⟨p, 0, none⟩), .bool (cB 1024 s false)] 115, .b p #[rv1, .int .i64 (mksS (cV 1024 s) (tkS 8 s)).2] 141, .b q (agF (.c (.int .i64 k) :: .c (.int .i64 er) :: .c (.int .i64 0) :: .c (.int .i64 0) :: .a 32 0 :: .a 80 0 :: .c (.bool false) :: .c (.int .i64 0) :: .c (.slice none 0 0) :: .a 32 0 :: .a 32 0 :: .c (.slice none 0 0) :: .c (.bool false) :: .a 32 0 :: .a 32 0 :: .a 32 0 :: .a 32 0 :: .a 32 0 :: .c (.int .i64 0) :: .a 32 0 :: .c (.slice none 0 0) :: .c (.slice none 0 0) :: .c (.bool false) :: .a 32 0 :: .a 32 0 :: .c (.int .i64 0) :: .a 32 0 :: .a 64 0 :: .a 32 0 :: .c (.slice none 0 0) :: .c (.slice none 0 0) :: .c mks :: .c (.slice none 0 0) :: .c (.bool false) :: .c (.int .i64 0) :: .a 32 0 :: .c (.slice none 0 0) :: .a 32 0 :: .c (.slice none 0 0) :: [])) 85]) := hS.pick [3, 0, 1, 2, 4]
 obtain ⟨ea, es, eb⟩ := r_8 (er := er) (us := []) (s := s) hk
 have hA : AnR (rA k er [] s) ⟨nS, nS, nS, nS, nS, nS, mks, nS, nS, nS⟩ W := by rw [ea]; exact ⟨sl_nil W, rr_nil 32 W, rr_nil 32 W, rr_nil 32 W, rr_nil 32 W, enR_nil W, (hT.row (i := 0) rfl).rr, sl_nil W, sl_nil W, rr_nil 32 W⟩
 have hI : InN [.r 127 65 mks (List.map mkC (mksV (cV 1024 s) (tkS 8 s)))] (anFt (rA k er [] s) ⟨nS, nS, nS, nS, nS, nS, mks, nS, nS, nS⟩) := by rw [ea]; exact inN_an inN_nil inN_nil inN_nil inN_nil inN_nil inN_nil (inN_r 0 rfl (row_fb (hT.row (i := 0) rfl))) inN_nil inN_nil inN_nil
 have hZ := SH.fold hT (anT_holds hA) hI
 have hW := SH.foldn hT hI (frN rfl) hF3
 go_wp2
 subst hk
 refine bodyPost_end (v := .tuple #[]) (by simp only [results, Try.results54]; go_simp) rfl (show RestR r p q v 8 er s w _ _ from ⟨(⟨nS, nS, nS, nS, nS, nS, mks, nS, nS, nS⟩, []), rv1, rfl, ?_, ?_, hW, ?_⟩)
 ·
  dsimp only; rw [es, eb]; rw [ea] at hZ ⊢; exact hZ
 ·
  rw [es]; exact (sub_tr hs_1 sub_refl)
 ·
  intro h7; omega
theorem rest_9 {r p q : Nat} {v : Value} {k er : Int} {s : RSt} (hk : k = 9) (hb0 : s.1.length ≤ 1000000) (w : World) (h_ : SH [r, p, q] w w (.b q (anF (zA k er) zV) 85 :: wrdL r p v s false)) :
  Calls Try.prog 54 #[.pointer (some ⟨r, 0, none⟩), .pointer (some ⟨q, 0, none⟩)] w fun e w' => RestR r p q v k er s w w' e := by
 have hS := h_
 go_enter Try.func54, Try.ntmps54
 go_upto_region 0 with fail
 refine RL hS ?_
 clear hS
 refine MV ?_
 refine MV ?_
 refine MV ?_
 refine MG 0 ?_ (v := .int .i64 k) (hj := (agF_cel (off := 0) 0))
 refine MZ fun W hS => ?_
 go_upto_region 1 with fail
 refine RL hS ?_
 clear hS
 refine MW ?_ (v := .bool false) (hv := by intro W; go_simp; first | done | omega | decide)
 refine MW ?_ (v := .bool false)
 refine MZ fun W hS => ?_
 go_upto_region 2 with fail
 refine RL hS ?_
 clear hS
 refine MW ?_ (v := .bool false) (hv := by intro W; go_simp; first | done | omega | decide)
 refine MW ?_ (v := .bool false)
 refine MZ fun W hS => ?_
 go_upto_region 4 with fail
 refine RL hS ?_
 clear hS
 refine MW ?_ (v := .bool false) (hv := by intro W; go_simp; first | done | omega | decide)
 refine MW ?_ (v := .bool false)
 refine MZ fun W hS => ?_
 go_upto_region 9 with fail
 refine RL hS ?_
 clear hS
 refine MW ?_ (v := .bool false) (hv := by intro W; go_simp; first | done | omega | decide)
 refine MW ?_ (v := .bool false)
 refine MZ fun W hS => ?_
 go_upto_region 11 with fail
 refine RL hS ?_
 clear hS
 refine MW ?_ (v := .bool false) (hv := by intro W; go_simp; first | done | omega | decide)
 refine MW ?_ (v := .bool false)
 refine MZ fun W hS => ?_
 go_upto_region 13 with fail
 refine RL hS ?_
 clear hS
 refine MW ?_ (v := .bool true) (hv := by intro W; go_simp; first | done | omega | decide)
 refine MW ?_ (v := .bool true)
 refine MZ fun W hS => ?_
 go_upto_region 14 with fail
 refine RL hS ?_
 clear hS
 refine MV ?_
 refine MV ?_
 refine MV ?_
 refine MV ?_
 refine MG 1 ?_ (v := .pointer (some ⟨p, 0, none⟩))
 refine ME (V := fun x : Value × { u : Value // Sub u (txS 65535 s).1 (sb v (s).1) } => x.1) (fun W hS => rdcallT (i := 2) (j := 3) (t := txV 65535 s) hS rfl rfl (fun hr => rtext_t (s := s) 65535 hr (by have := hb0; omega)) (fun _ _ => rfl)) ?_
 rintro ⟨ut1, rv1, hs_1⟩
 dsimp only
 refine MD 5 ?_
 have hb_2 : (txS 65535 s).1.length ≤ 1000000 := Nat.le_trans (txS_len _ _) hb0
 refine MV ?_
 refine MV ?_
 refine MFact (fun W hS => (sl_cells (hS.osl (i := 0) rfl)).2) ?_
 intro oc_tx13
 refine MP 2 (v := ut1) (cs' := agF (.c (.int .i64 k) :: .c (.int .i64 er) :: .c (.int .i64 0) :: .c (.int .i64 0) :: .a 32 0 :: .a 80 0 :: .c (.bool false) :: .c (.int .i64 0) :: .c (.slice none 0 0) :: .a 32 0 :: .a 32 0 :: .c (.slice none 0 0) :: .c (.bool false) :: .a 32 0 :: .a 32 0 :: .a 32 0 :: .a 32 0 :: .a 32 0 :: .c (.int .i64 0) :: .a 32 0 :: .c (.slice none 0 0) :: .c (.slice none 0 0) :: .c (.bool false) :: .a 32 0 :: .a 32 0 :: .c (.int .i64 0) :: .a 32 0 :: .a 64 0 :: .a 32 0 :: .c (.slice none 0 0) :: .c (.slice none 0 0) :: .c (.slice none 0 0) :: .c (.slice none 0 0) :: .c (.bool false) :: .c (.int .i64 0) :: .a 32 0 :: .c ut1 :: .a 32 0 :: .c (.slice none 0 0) :: [])) ?_ (hs := by rw [agF_size]; exact Nat.le_of_ble_eq_true (by kernel_rfl)) (hc := agF_setc (off := 612) 36) (hv := fun W hS => sl_cells (hS.osl (i := 0) rfl))
 refine MZ fun W hS => ?_
 have hT : SH [r, p, q] w W ([.o ut1 (txV 65535 s)] ++ [.s rv1 ((txS 65535 s).1), .b r #[.pointer (some ⟨p, 0, none⟩), .bool false] 115, .b p #[rv1, .int .i64 (txS 65535 s).2] 141, .b q (agF (.c (.int .i64 k) :: .c (.int .i64 er) :: .c (.int .i64 0) :: .c (.int .i64 0) :: .a 32 0 :: .a 80 0 :: .c (.bool false) :: .c (.int .i64 0) :: .c (.slice none 0 0) :: .a 32 0 :: .a 32 0 :: .c (.slice none 0 0) :: .c (.bool false) :: .a 32 0 :: .a 32 0 :: .a 32 0 :: .a 32 0 :: .a 32 0 :: .c (.int .i64 0) :: .a 32 0 :: .c (.slice none 0 0) :: .c (.slice none 0 0) :: .c (.bool false) :: .a 32 0 :: .a 32 0 :: .c (.int .i64 0) :: .a 32 0 :: .a 64 0 :: .a 32 0 :: .c (.slice none 0 0) :: .c (.slice none 0 0) :: .c (.slice none 0 0) :: .c (.slice none 0 0) :: .c (.bool false) :: .c (.int .i64 0) :: .a 32 0 :: .c ut1 :: .a 32 0 :: .c (.slice none 0 0) :: [])) 85]) := hS.pick [0, 1, 3, 4, 2]
 obtain ⟨ea, es, eb⟩ := r_9 (er := er) (us := []) (s := s) hk
 have hA : AnR (rA k er [] s) ⟨nS, nS, nS, nS, nS, nS, nS, nS, ut1, nS⟩ W := by rw [ea]; exact ⟨sl_nil W, rr_nil 32 W, rr_nil 32 W, rr_nil 32 W, rr_nil 32 W, enR_nil W, rr_nil 65 W, sl_nil W, hT.osl (i := 0) rfl, rr_nil 32 W⟩
 have hI : InN [.o ut1 (txV 65535 s)] (anFt (rA k er [] s) ⟨nS, nS, nS, nS, nS, nS, nS, nS, ut1, nS⟩) := by rw [ea]; exact inN_an inN_nil inN_nil inN_nil inN_nil inN_nil inN_nil inN_nil inN_nil (inN_o 0 rfl) inN_nil
 have hZ := SH.fold hT (anT_holds hA) hI
 have hW := SH.foldn hT hI (frN rfl) hF3
 go_wp2
 subst hk
 refine bodyPost_end (v := .tuple #[]) (by simp only [results, Try.results54]; go_simp) rfl (show RestR r p q v 9 er s w _ _ from ⟨(⟨nS, nS, nS, nS, nS, nS, nS, nS, ut1, nS⟩, []), rv1, rfl, ?_, ?_, hW, ?_⟩)
 ·
  dsimp only; rw [es, eb]; rw [ea] at hZ ⊢; exact hZ
 ·
  rw [es]; exact (sub_tr hs_1 sub_refl)
 ·
  intro h7; omega
theorem rest_11 {r p q : Nat} {v : Value} {k er : Int} {s : RSt} (hk : k = 11) (hb0 : s.1.length ≤ 1000000) (w : World) (h_ : SH [r, p, q] w w (.b q (anF (zA k er) zV) 85 :: wrdL r p v s false)) :
  Calls Try.prog 54 #[.pointer (some ⟨r, 0, none⟩), .pointer (some ⟨q, 0, none⟩)] w fun e w' => RestR r p q v k er s w w' e := by
 have hS := h_
 go_enter Try.func54, Try.ntmps54
 go_upto_region 0 with fail
 refine RL hS ?_
 clear hS
 refine MV ?_
 refine MV ?_
 refine MV ?_
 refine MG 0 ?_ (v := .int .i64 k) (hj := (agF_cel (off := 0) 0))
 refine MZ fun W hS => ?_
 go_upto_region 1 with fail
 refine RL hS ?_
 clear hS
 refine MW ?_ (v := .bool false) (hv := by intro W; go_simp; first | done | omega | decide)
 refine MW ?_ (v := .bool false)
 refine MZ fun W hS => ?_
 go_upto_region 2 with fail
 refine RL hS ?_
 clear hS
 refine MW ?_ (v := .bool false) (hv := by intro W; go_simp; first | done | omega | decide)
 refine MW ?_ (v := .bool false)
 refine MZ fun W hS => ?_
 go_upto_region 4 with fail
 refine RL hS ?_
 clear hS
 refine MW ?_ (v := .bool false) (hv := by intro W; go_simp; first | done | omega | decide)
 refine MW ?_ (v := .bool false)
 refine MZ fun W hS => ?_
 go_upto_region 9 with fail
 refine RL hS ?_
 clear hS
 refine MW ?_ (v := .bool false) (hv := by intro W; go_simp; first | done | omega | decide)
 refine MW ?_ (v := .bool false)
 refine MZ fun W hS => ?_
 go_upto_region 11 with fail
 refine RL hS ?_
 clear hS
 refine MW ?_ (v := .bool false) (hv := by intro W; go_simp; first | done | omega | decide)
 refine MW ?_ (v := .bool false)
 refine MZ fun W hS => ?_
 go_upto_region 13 with fail
 refine RL hS ?_
 clear hS
 refine MW ?_ (v := .bool false) (hv := by intro W; go_simp; first | done | omega | decide)
 refine MW ?_ (v := .bool false)
 refine MZ fun W hS => ?_
 go_upto_region 15 with fail
 refine RL hS ?_
 clear hS
 refine MW ?_ (v := .bool true) (hv := by intro W; go_simp; first | done | omega | decide)
 refine MW ?_ (v := .bool true)
 refine MZ fun W hS => ?_
 go_upto_region 16 with fail
 refine RL hS ?_
 clear hS
 refine MV ?_
 refine MV ?_
 refine ME (V := fun x : { y : (Value) × Value // Sub y.2 (rMS s).1 (sb v (s).1) } => .agg (mbF (rMb s) x.1.1)) (fun W hS => wrcall (V := fun y : Value => .agg (mbF (rMb s) y)) (X := fun y : Value => [.o y (txV 16 s)]) [1, 2, 3] [0] hS (fun hT => wrmember_c hb0 W hT) (fun _ _ => ⟨.inr ⟨rfl, rfl⟩, .inr ⟨rfl, rfl⟩, ⟨.inr ⟨rfl, rfl⟩, trivial⟩⟩)) ?_
 rintro ⟨⟨mi, rv1⟩, hs_1⟩
 dsimp only
 have hb_2 : (rMS s).1.length ≤ 1000000 := Nat.le_trans (rMS_len _) hb0
 refine MT (H' := [.s rv1 ((rMS s).1), .b r #[.pointer (some ⟨p, 0, none⟩), .bool false] 115, .b p #[rv1, .int .i64 (rMS s).2] 141, .o mi (txV 16 s), .b q (anF (zA k er) zV) 85]) (fun W hS => hS) ?_
 refine MFact (fun W hS => sl_cells (hS.osl (i := 3) rfl)) ?_
 intro hq_mi1
 refine MV ?_
 refine MV ?_
 refine Mq 4 (new := agF (.c (.int .i64 k) :: .c (.int .i64 er) :: .c (.int .i64 0) :: .c (.int .i64 0) :: .a 32 0 :: .a 80 0 :: .c (.bool false) :: .c (.int .i64 0) :: .c (.slice none 0 0) :: .a 32 0 :: .a 32 0 :: .c (.slice none 0 0) :: .c (.bool false) :: .a 32 0 :: .a 32 0 :: .a 32 0 :: .a 32 0 :: .a 32 0 :: .c (.int .i64 0) :: .a 32 0 :: .c (.slice none 0 0) :: .c (.slice none 0 0) :: .c (.bool false) :: .a 32 0 :: .a 32 0 :: .c (.int .i64 0) :: .a 32 0 :: .a 64 0 :: .a 32 0 :: .c (.slice none 0 0) :: .c (.slice none 0 0) :: .c (.slice none 0 0) :: .c mi :: .c (.bool (rMb s).gone) :: .c (.int .i64 ((rMb s).ep)) :: .a 32 ((rMb s).li) :: .c (.slice none 0 0) :: .a 32 0 :: .c (.slice none 0 0) :: [])) ?_ (hc := agF_setp (off := 577) 32 4) (hs := by rw [agF_size, agF_size]; exact Nat.le_of_ble_eq_true (by kernel_rfl)) (h1 := by exact (agF_one ⟨hq_mi1.2, rfl, rfl, trivial⟩))
 refine MZ fun W hS => ?_
 go_upto_region 17 with fail
 refine RL hS ?_
 clear hS
 refine MV ?_
 refine MV ?_
 refine ME (V := fun x : { y : (Value × Value) × Value // Sub y.2 (rUS (rMS s)).1 (sb rv1 (rMS s).1) } => .agg (unF (rUn (rMS s)) x.1.1.1 x.1.1.2)) (fun W hS => wrcall (V := fun y : Value × Value => .agg (unF (rUn (rMS s)) y.1 y.2)) (X := fun y : Value × Value => [.r 27 32 y.1 (List.map b32l (takeM (rMS s)).1.1), .r 27 32 y.2 (List.map b32l (sumsV (cV 256 (rU5 (rMS s))) (tkS 8 (rU5 (rMS s)))))]) [1, 2, 0] [3, 4] hS (fun hT => wrunder_c hb_2 W hT) (fun _ _ => ⟨.inr ⟨rfl, rfl⟩, .inr ⟨rfl, rfl⟩, ⟨.inr ⟨rfl, rfl⟩, ⟨.inr ⟨rfl, rfl⟩, trivial⟩⟩⟩)) ?_
 rintro ⟨⟨⟨usv, uuv⟩, rv3⟩, hs_3⟩
 dsimp only
 have hb_4 : (rUS (rMS s)).1.length ≤ 1000000 := Nat.le_trans (rUS_len _) hb_2
 refine MT (H' := [.s rv3 ((rUS (rMS s)).1), .b r #[.pointer (some ⟨p, 0, none⟩), .bool (rUB (rMS s) false)] 115, .b p #[rv3, .int .i64 (rUS (rMS s)).2] 141, .r 27 32 usv (List.map b32l (takeM (rMS s)).1.1), .r 27 32 uuv (List.map b32l (sumsV (cV 256 (rU5 (rMS s))) (tkS 8 (rU5 (rMS s))))), .o mi (txV 16 s), .b q (agF (.c (.int .i64 k) :: .c (.int .i64 er) :: .c (.int .i64 0) :: .c (.int .i64 0) :: .a 32 0 :: .a 80 0 :: .c (.bool false) :: .c (.int .i64 0) :: .c (.slice none 0 0) :: .a 32 0 :: .a 32 0 :: .c (.slice none 0 0) :: .c (.bool false) :: .a 32 0 :: .a 32 0 :: .a 32 0 :: .a 32 0 :: .a 32 0 :: .c (.int .i64 0) :: .a 32 0 :: .c (.slice none 0 0) :: .c (.slice none 0 0) :: .c (.bool false) :: .a 32 0 :: .a 32 0 :: .c (.int .i64 0) :: .a 32 0 :: .a 64 0 :: .a 32 0 :: .c (.slice none 0 0) :: .c (.slice none 0 0) :: .c (.slice none 0 0) :: .c mi :: .c (.bool (rMb s).gone) :: .c (.int .i64 ((rMb s).ep)) :: .a 32 ((rMb s).li) :: .c (.slice none 0 0) :: .a 32 0 :: .c (.slice none 0 0) :: [])) 85]) (fun W hS => hS) ?_
 refine MFact (fun W hS => (hS.row (i := 3) rfl).cells) ?_
 intro hq_us3
 refine MFact (fun W hS => (hS.row (i := 4) rfl).cells) ?_
 intro hq_uu3
 refine MV ?_
 refine MV ?_
 refine Mq 6 (new := agF (.c (.int .i64 k) :: .c (.int .i64 er) :: .c (.int .i64 0) :: .c (.int .i64 0) :: .a 32 0 :: .a 80 0 :: .c (.bool false) :: .c (.int .i64 0) :: .c (.slice none 0 0) :: .a 32 0 :: .a 32 0 :: .c (.slice none 0 0) :: .c (.bool false) :: .a 32 0 :: .a 32 0 :: .a 32 0 :: .a 32 0 :: .a 32 0 :: .c (.int .i64 0) :: .a 32 0 :: .c (.slice none 0 0) :: .c usv :: .c (.bool (rUn (rMS s)).th) :: .a 32 ((rUn (rMS s)).a) :: .a 32 ((rUn (rMS s)).x) :: .c (.int .i64 ((rUn (rMS s)).ep)) :: .a 32 ((rUn (rMS s)).ro) :: .a 64 ((rUn (rMS s)).sig) :: .a 32 ((rUn (rMS s)).lo) :: .c uuv :: .c (.slice none 0 0) :: .c (.slice none 0 0) :: .c mi :: .c (.bool (rMb s).gone) :: .c (.int .i64 ((rMb s).ep)) :: .a 32 ((rMb s).li) :: .c (.slice none 0 0) :: .a 32 0 :: .c (.slice none 0 0) :: [])) ?_ (hc := agF_setp (off := 379) 21 9) (hs := by rw [agF_size, agF_size]; exact Nat.le_of_ble_eq_true (by kernel_rfl)) (h1 := by exact (agF_one ⟨hq_us3.2, rfl, rfl, hq_uu3.2, trivial⟩))
 refine MZ fun W hS => ?_
 have hT : SH [r, p, q] w W ([.o mi (txV 16 s), .r 27 32 usv (List.map b32l (takeM (rMS s)).1.1), .r 27 32 uuv (List.map b32l (sumsV (cV 256 (rU5 (rMS s))) (tkS 8 (rU5 (rMS s)))))] ++ [.s rv3 ((rUS (rMS s)).1), .b r #[.pointer (some ⟨p, 0, none⟩), .bool (rUB (rMS s) false)] 115, .b p #[rv3, .int .i64 (rUS (rMS s)).2] 141, .b q (agF (.c (.int .i64 k) :: .c (.int .i64 er) :: .c (.int .i64 0) :: .c (.int .i64 0) :: .a 32 0 :: .a 80 0 :: .c (.bool false) :: .c (.int .i64 0) :: .c (.slice none 0 0) :: .a 32 0 :: .a 32 0 :: .c (.slice none 0 0) :: .c (.bool false) :: .a 32 0 :: .a 32 0 :: .a 32 0 :: .a 32 0 :: .a 32 0 :: .c (.int .i64 0) :: .a 32 0 :: .c (.slice none 0 0) :: .c usv :: .c (.bool (rUn (rMS s)).th) :: .a 32 ((rUn (rMS s)).a) :: .a 32 ((rUn (rMS s)).x) :: .c (.int .i64 ((rUn (rMS s)).ep)) :: .a 32 ((rUn (rMS s)).ro) :: .a 64 ((rUn (rMS s)).sig) :: .a 32 ((rUn (rMS s)).lo) :: .c uuv :: .c (.slice none 0 0) :: .c (.slice none 0 0) :: .c mi :: .c (.bool (rMb s).gone) :: .c (.int .i64 ((rMb s).ep)) :: .a 32 ((rMb s).li) :: .c (.slice none 0 0) :: .a 32 0 :: .c (.slice none 0 0) :: [])) 85]) := hS.pick [5, 3, 4, 0, 1, 2, 6]
 obtain ⟨ea, es, eb⟩ := r_11 (er := er) (us := []) (s := s) hk
 have hA : AnR (rA k er [] s) ⟨nS, nS, nS, usv, uuv, nS, nS, mi, nS, nS⟩ W := by rw [ea]; exact ⟨sl_nil W, rr_nil 32 W, rr_nil 32 W, (hT.row (i := 1) rfl).rr, (hT.row (i := 2) rfl).rr, enR_nil W, rr_nil 65 W, hT.osl (i := 0) rfl, sl_nil W, rr_nil 32 W⟩
 have hI : InN [.o mi (txV 16 s), .r 27 32 usv (List.map b32l (takeM (rMS s)).1.1), .r 27 32 uuv (List.map b32l (sumsV (cV 256 (rU5 (rMS s))) (tkS 8 (rU5 (rMS s)))))] (anFt (rA k er [] s) ⟨nS, nS, nS, usv, uuv, nS, nS, mi, nS, nS⟩) := by rw [ea]; exact inN_an inN_nil inN_nil inN_nil (inN_r 1 rfl (row_fb (hT.row (i := 1) rfl))) (inN_r 2 rfl (row_fb (hT.row (i := 2) rfl))) inN_nil inN_nil (inN_o 0 rfl) inN_nil inN_nil
 have hZ := SH.fold hT (anT_holds hA) hI
 have hW := SH.foldn hT hI (frN rfl) hF3
 go_wp2
 subst hk
 refine bodyPost_end (v := .tuple #[]) (by simp only [results, Try.results54]; go_simp) rfl (show RestR r p q v 11 er s w _ _ from ⟨(⟨nS, nS, nS, usv, uuv, nS, nS, mi, nS, nS⟩, []), rv3, rfl, ?_, ?_, hW, ?_⟩)
 ·
  dsimp only; rw [es, eb]; rw [ea] at hZ ⊢; exact hZ
 ·
  rw [es]; exact (sub_tr hs_3 (sub_tr hs_1 sub_refl))
 ·
  intro h7; omega
theorem rest_12 {r p q : Nat} {v : Value} {k er : Int} {s : RSt} (hk : k = 12) (hb0 : s.1.length ≤ 1000000) (w : World) (h_ : SH [r, p, q] w w (.b q (anF (zA k er) zV) 85 :: wrdL r p v s false)) :
  Calls Try.prog 54 #[.pointer (some ⟨r, 0, none⟩), .pointer (some ⟨q, 0, none⟩)] w fun e w' => RestR r p q v k er s w w' e := by
 have hS := h_
 go_enter Try.func54, Try.ntmps54
 go_upto_region 0 with fail
 refine RL hS ?_
 clear hS
 refine MV ?_
 refine MV ?_
 refine MV ?_
 refine MG 0 ?_ (v := .int .i64 k) (hj := (agF_cel (off := 0) 0))
 refine MZ fun W hS => ?_
 go_upto_region 1 with fail
 refine RL hS ?_
 clear hS
 refine MW ?_ (v := .bool false) (hv := by intro W; go_simp; first | done | omega | decide)
 refine MW ?_ (v := .bool false)
 refine MZ fun W hS => ?_
 go_upto_region 2 with fail
 refine RL hS ?_
 clear hS
 refine MW ?_ (v := .bool false) (hv := by intro W; go_simp; first | done | omega | decide)
 refine MW ?_ (v := .bool false)
 refine MZ fun W hS => ?_
 go_upto_region 4 with fail
 refine RL hS ?_
 clear hS
 refine MW ?_ (v := .bool false) (hv := by intro W; go_simp; first | done | omega | decide)
 refine MW ?_ (v := .bool false)
 refine MZ fun W hS => ?_
 go_upto_region 9 with fail
 refine RL hS ?_
 clear hS
 refine MW ?_ (v := .bool false) (hv := by intro W; go_simp; first | done | omega | decide)
 refine MW ?_ (v := .bool false)
 refine MZ fun W hS => ?_
 go_upto_region 11 with fail
 refine RL hS ?_
 clear hS
 refine MW ?_ (v := .bool false) (hv := by intro W; go_simp; first | done | omega | decide)
 refine MW ?_ (v := .bool false)
 refine MZ fun W hS => ?_
 go_upto_region 13 with fail
 refine RL hS ?_
 clear hS
 refine MW ?_ (v := .bool false) (hv := by intro W; go_simp; first | done | omega | decide)
 refine MW ?_ (v := .bool false)
 refine MZ fun W hS => ?_
 go_upto_region 15 with fail
 refine RL hS ?_
 clear hS
 refine MW ?_ (v := .bool false) (hv := by intro W; go_simp; first | done | omega | decide)
 refine MW ?_ (v := .bool false)
 refine MZ fun W hS => ?_
 go_upto_region 18 with fail
 refine RL hS ?_
 clear hS
 refine MW ?_ (v := .bool true) (hv := by intro W; go_simp; first | done | omega | decide)
 refine MW ?_ (v := .bool true)
 refine MZ fun W hS => ?_
 go_upto_region 19 with fail
 refine RL hS ?_
 clear hS
 refine MV ?_
 refine MV ?_
 refine MV ?_
 refine MV ?_
 refine MG 1 ?_ (v := .pointer (some ⟨p, 0, none⟩))
 refine ME (V := fun _ => .agg (arrK .u8 32 (byt (suV s)))) (fun W hS => rdcall (i := 2) (j := 3) hS rfl rfl (fun hr => rsum_t (s := s) hr (by have := hb0; omega))) ?_
 rintro ⟨rv1, hs_1⟩
 dsimp only
 refine MD 4 ?_
 have hb_2 : (tkS 32 s).1.length ≤ 1000000 := Nat.le_trans (tkS_len _ _) hb0
 refine MV ?_
 refine MV ?_
 refine Mq 1 (new := agF (.c (.int .i64 k) :: .c (.int .i64 er) :: .c (.int .i64 0) :: .c (.int .i64 0) :: .a 32 0 :: .a 80 0 :: .c (.bool false) :: .c (.int .i64 0) :: .c (.slice none 0 0) :: .a 32 0 :: .a 32 0 :: .c (.slice none 0 0) :: .c (.bool false) :: .a 32 0 :: .a 32 0 :: .a 32 0 :: .a 32 0 :: .a 32 0 :: .c (.int .i64 0) :: .a 32 0 :: .c (.slice none 0 0) :: .c (.slice none 0 0) :: .c (.bool false) :: .a 32 0 :: .a 32 0 :: .c (.int .i64 0) :: .a 32 0 :: .a 64 0 :: .a 32 0 :: .c (.slice none 0 0) :: .c (.slice none 0 0) :: .c (.slice none 0 0) :: .c (.slice none 0 0) :: .c (.bool false) :: .c (.int .i64 0) :: .a 32 0 :: .c (.slice none 0 0) :: .a 32 (suV s) :: .c (.slice none 0 0) :: [])) ?_ (hc := agF_seta (off := 613) 37) (hs := by rw [arrK_size, agF_size]; exact Nat.le_of_ble_eq_true (by kernel_rfl))
 refine MZ fun W hS => ?_
 go_upto_region 20 with fail
 refine RL hS ?_
 clear hS
 refine MV ?_
 refine MV ?_
 refine ME (V := fun x : { y : (Value) × Value // Sub y.2 (sumsS (cV 256 (tkS 32 s)) (tkS 8 (tkS 32 s))).1 (sb rv1 (tkS 32 s).1) } => x.1.1) (fun W hS => wrcall (V := fun y : Value => y) (X := fun y : Value => [.r 27 32 y (List.map b32l (sumsV (cV 256 (tkS 32 s)) (tkS 8 (tkS 32 s))))]) [2, 3, 0] [1] hS (fun hT => wrsums_c hb_2 W hT) (fun _ _ => ⟨.inr ⟨rfl, rfl⟩, .inr ⟨rfl, rfl⟩, ⟨.inr ⟨rfl, rfl⟩, trivial⟩⟩)) ?_
 rintro ⟨⟨u_3, rv3⟩, hs_3⟩
 dsimp only
 have hb_4 : (sumsS (cV 256 (tkS 32 s)) (tkS 8 (tkS 32 s))).1.length ≤ 1000000 := Nat.le_trans (Nat.le_trans (sumsS_len _ _) (tkS_len _ _)) hb_2
 refine MT (H' := [.s rv3 ((sumsS (cV 256 (tkS 32 s)) (tkS 8 (tkS 32 s))).1), .b r #[.pointer (some ⟨p, 0, none⟩), .bool (cB 256 (tkS 32 s) false)] 115, .b p #[rv3, .int .i64 (sumsS (cV 256 (tkS 32 s)) (tkS 8 (tkS 32 s))).2] 141, .r 27 32 u_3 (List.map b32l (sumsV (cV 256 (tkS 32 s)) (tkS 8 (tkS 32 s)))), .b q (agF (.c (.int .i64 k) :: .c (.int .i64 er) :: .c (.int .i64 0) :: .c (.int .i64 0) :: .a 32 0 :: .a 80 0 :: .c (.bool false) :: .c (.int .i64 0) :: .c (.slice none 0 0) :: .a 32 0 :: .a 32 0 :: .c (.slice none 0 0) :: .c (.bool false) :: .a 32 0 :: .a 32 0 :: .a 32 0 :: .a 32 0 :: .a 32 0 :: .c (.int .i64 0) :: .a 32 0 :: .c (.slice none 0 0) :: .c (.slice none 0 0) :: .c (.bool false) :: .a 32 0 :: .a 32 0 :: .c (.int .i64 0) :: .a 32 0 :: .a 64 0 :: .a 32 0 :: .c (.slice none 0 0) :: .c (.slice none 0 0) :: .c (.slice none 0 0) :: .c (.slice none 0 0) :: .c (.bool false) :: .c (.int .i64 0) :: .a 32 0 :: .c (.slice none 0 0) :: .a 32 (suV s) :: .c (.slice none 0 0) :: [])) 85]) (fun W hS => hS) ?_
 refine MFact (fun W hS => (hS.row (i := 3) rfl).cells) ?_
 intro hsc3
 refine MV ?_
 refine MV ?_
 refine MP 4 (v := u_3) (cs' := agF (.c (.int .i64 k) :: .c (.int .i64 er) :: .c (.int .i64 0) :: .c (.int .i64 0) :: .a 32 0 :: .a 80 0 :: .c (.bool false) :: .c (.int .i64 0) :: .c (.slice none 0 0) :: .a 32 0 :: .a 32 0 :: .c (.slice none 0 0) :: .c (.bool false) :: .a 32 0 :: .a 32 0 :: .a 32 0 :: .a 32 0 :: .a 32 0 :: .c (.int .i64 0) :: .a 32 0 :: .c (.slice none 0 0) :: .c (.slice none 0 0) :: .c (.bool false) :: .a 32 0 :: .a 32 0 :: .c (.int .i64 0) :: .a 32 0 :: .a 64 0 :: .a 32 0 :: .c (.slice none 0 0) :: .c (.slice none 0 0) :: .c (.slice none 0 0) :: .c (.slice none 0 0) :: .c (.bool false) :: .c (.int .i64 0) :: .a 32 0 :: .c (.slice none 0 0) :: .a 32 (suV s) :: .c u_3 :: [])) ?_ (hs := by rw [agF_size]; exact Nat.le_of_ble_eq_true (by kernel_rfl)) (hc := agF_setc (off := 645) 38) (hv := fun W hS => Row.cells (hS.row (i := 3) rfl))
 refine MZ fun W hS => ?_
 have hT : SH [r, p, q] w W ([.r 27 32 u_3 (List.map b32l (sumsV (cV 256 (tkS 32 s)) (tkS 8 (tkS 32 s))))] ++ [.s rv3 ((sumsS (cV 256 (tkS 32 s)) (tkS 8 (tkS 32 s))).1), .b r #[.pointer (some ⟨p, 0, none⟩), .bool (cB 256 (tkS 32 s) false)] 115, .b p #[rv3, .int .i64 (sumsS (cV 256 (tkS 32 s)) (tkS 8 (tkS 32 s))).2] 141, .b q (agF (.c (.int .i64 k) :: .c (.int .i64 er) :: .c (.int .i64 0) :: .c (.int .i64 0) :: .a 32 0 :: .a 80 0 :: .c (.bool false) :: .c (.int .i64 0) :: .c (.slice none 0 0) :: .a 32 0 :: .a 32 0 :: .c (.slice none 0 0) :: .c (.bool false) :: .a 32 0 :: .a 32 0 :: .a 32 0 :: .a 32 0 :: .a 32 0 :: .c (.int .i64 0) :: .a 32 0 :: .c (.slice none 0 0) :: .c (.slice none 0 0) :: .c (.bool false) :: .a 32 0 :: .a 32 0 :: .c (.int .i64 0) :: .a 32 0 :: .a 64 0 :: .a 32 0 :: .c (.slice none 0 0) :: .c (.slice none 0 0) :: .c (.slice none 0 0) :: .c (.slice none 0 0) :: .c (.bool false) :: .c (.int .i64 0) :: .a 32 0 :: .c (.slice none 0 0) :: .a 32 (suV s) :: .c u_3 :: [])) 85]) := hS.pick [3, 0, 1, 2, 4]
 obtain ⟨ea, es, eb⟩ := r_12 (er := er) (us := []) (s := s) hk
 have hA : AnR (rA k er [] s) ⟨nS, nS, nS, nS, nS, nS, nS, nS, nS, u_3⟩ W := by rw [ea]; exact ⟨sl_nil W, rr_nil 32 W, rr_nil 32 W, rr_nil 32 W, rr_nil 32 W, enR_nil W, rr_nil 65 W, sl_nil W, sl_nil W, (hT.row (i := 0) rfl).rr⟩
 have hI : InN [.r 27 32 u_3 (List.map b32l (sumsV (cV 256 (tkS 32 s)) (tkS 8 (tkS 32 s))))] (anFt (rA k er [] s) ⟨nS, nS, nS, nS, nS, nS, nS, nS, nS, u_3⟩) := by rw [ea]; exact inN_an inN_nil inN_nil inN_nil inN_nil inN_nil inN_nil inN_nil inN_nil inN_nil (inN_r 0 rfl (row_fb (hT.row (i := 0) rfl)))
 have hZ := SH.fold hT (anT_holds hA) hI
 have hW := SH.foldn hT hI (frN rfl) hF3
 go_wp2
 subst hk
 refine bodyPost_end (v := .tuple #[]) (by simp only [results, Try.results54]; go_simp) rfl (show RestR r p q v 12 er s w _ _ from ⟨(⟨nS, nS, nS, nS, nS, nS, nS, nS, nS, u_3⟩, []), rv3, rfl, ?_, ?_, hW, ?_⟩)
 ·
  dsimp only; rw [es, eb]; rw [ea] at hZ ⊢; exact hZ
 ·
  rw [es]; exact (sub_tr hs_3 (sub_tr hs_1 sub_refl))
 ·
  intro h7; omega
theorem rest_o {r p q : Nat} {v : Value} {k er : Int} {s : RSt} (hk : noK k) (hb0 : s.1.length ≤ 1000000) (w : World) (h_ : SH [r, p, q] w w (.b q (anF (zA k er) zV) 85 :: wrdL r p v s false)) :
  Calls Try.prog 54 #[.pointer (some ⟨r, 0, none⟩), .pointer (some ⟨q, 0, none⟩)] w fun e w' => RestR r p q v k er s w w' e := by
 have hS := h_
 go_enter Try.func54, Try.ntmps54
 go_upto_region 0 with fail
 refine RL hS ?_
 clear hS
 refine MV ?_
 refine MV ?_
 refine MV ?_
 refine MG 0 ?_ (v := .int .i64 k) (hj := (agF_cel (off := 0) 0))
 refine MZ fun W hS => ?_
 go_upto_region 1 with fail
 refine RL hS ?_
 clear hS
 refine MW ?_ (v := .bool false) (hv := by intro W; go_simp; first | done | omega | decide)
 refine MW ?_ (v := .bool false)
 refine MZ fun W hS => ?_
 go_upto_region 2 with fail
 refine RL hS ?_
 clear hS
 refine MW ?_ (v := .bool false) (hv := by intro W; go_simp; first | done | omega | decide)
 refine MW ?_ (v := .bool false)
 refine MZ fun W hS => ?_
 go_upto_region 4 with fail
 refine RL hS ?_
 clear hS
 refine MW ?_ (v := .bool false) (hv := by intro W; go_simp; first | done | omega | decide)
 refine MW ?_ (v := .bool false)
 refine MZ fun W hS => ?_
 go_upto_region 9 with fail
 refine RL hS ?_
 clear hS
 refine MW ?_ (v := .bool false) (hv := by intro W; go_simp; first | done | omega | decide)
 refine MW ?_ (v := .bool false)
 refine MZ fun W hS => ?_
 go_upto_region 11 with fail
 refine RL hS ?_
 clear hS
 refine MW ?_ (v := .bool false) (hv := by intro W; go_simp; first | done | omega | decide)
 refine MW ?_ (v := .bool false)
 refine MZ fun W hS => ?_
 go_upto_region 13 with fail
 refine RL hS ?_
 clear hS
 refine MW ?_ (v := .bool false) (hv := by intro W; go_simp; first | done | omega | decide)
 refine MW ?_ (v := .bool false)
 refine MZ fun W hS => ?_
 go_upto_region 15 with fail
 refine RL hS ?_
 clear hS
 refine MW ?_ (v := .bool false) (hv := by intro W; go_simp; first | done | omega | decide)
 refine MW ?_ (v := .bool false)
 refine MZ fun W hS => ?_
 go_upto_region 18 with fail
 refine RL hS ?_
 clear hS
 refine MW ?_ (v := .bool false) (hv := by intro W; go_simp; first | done | omega | decide)
 refine MW ?_ (v := .bool false)
 refine MZ fun W hS => ?_
 have hT : SH [r, p, q] w W ([] ++ [.s v ((s).1), .b r #[.pointer (some ⟨p, 0, none⟩), .bool false] 115, .b p #[v, .int .i64 (s).2] 141, .b q (anF (zA k er) zV) 85]) := hS.pick [3, 1, 2, 0]
 obtain ⟨ea, es, eb⟩ := r_o (er := er) (us := []) (s := s) hk
 have hA : AnR (rA k er [] s) ⟨nS, nS, nS, nS, nS, nS, nS, nS, nS, nS⟩ W := by rw [ea]; exact ⟨sl_nil W, rr_nil 32 W, rr_nil 32 W, rr_nil 32 W, rr_nil 32 W, enR_nil W, rr_nil 65 W, sl_nil W, sl_nil W, rr_nil 32 W⟩
 have hI : InN [] (anFt (rA k er [] s) ⟨nS, nS, nS, nS, nS, nS, nS, nS, nS, nS⟩) := by rw [ea]; exact inN_an inN_nil inN_nil inN_nil inN_nil inN_nil inN_nil inN_nil inN_nil inN_nil inN_nil
 have hZ := SH.fold hT (anT_holds hA) hI
 have hW := SH.foldn hT hI (frN rfl) hF3
 go_wp2
 skip
 refine bodyPost_end (v := .tuple #[]) (by simp only [results, Try.results54]; go_simp) rfl (show RestR r p q v k er s w _ _ from ⟨(⟨nS, nS, nS, nS, nS, nS, nS, nS, nS, nS⟩, []), v, rfl, ?_, ?_, hW, ?_⟩)
 ·
  dsimp only; rw [es, eb]; rw [ea] at hZ ⊢; exact hZ
 ·
  rw [es]; exact sub_refl
 ·
  intro h7; exact absurd h7 hk.2.2.2.1
end Go.Proofs.Ytlbgelbhhibikaa.Ww
