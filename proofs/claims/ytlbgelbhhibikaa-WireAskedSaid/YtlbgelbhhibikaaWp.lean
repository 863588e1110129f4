/- WireAsks. Conditions: numbers have 64 bits. -/
import Derived.Test.YtlbgelbhhibikaaWn
set_option linter.unusedSimpArgs false
set_option linter.unusedVariables false
namespace Go.Proofs.Ytlbgelbhhibikaa.Ww
set_option maxHeartbeats 1500000
set_option maxRecDepth 100000
open Go.RowKit
attribute [local irreducible] wpList wpTr wpX
set_option linter.unusedSimpArgs false
theorem fr4 {n : Nat} {X : List As} (h : X.all (·.mv) = true) : ∀ y ∈ X, y.mv = false → ∀ k ∈ y.foot, n ≤ k := fun y hy hm => by
 have := List.all_eq_true.1 h y hy; rw [hm] at this; cases this
theorem asked_n {u : Value} {l : List UInt8} {q : Rq} (hq : askedM l = some q) (hl : l.length ≤ 1000000) (w : World) (hs : Sl w u l) :
 Calls Try.prog 14 #[u] w fun e w' => ∃ x : Value × Value × Value × Value, e = .returned (.tuple #[.agg (rqF q x.1 x.2.1 x.2.2.1 x.2.2.2), .int .i64 0]) ∧ SH [] w w' [.o x.1 q.id, .o x.2.1 q.lab, .o x.2.2.1 q.val, .o x.2.2.2 q.bun] ∧ ∀ y ∈ [As.o x.1 q.id, .o x.2.1 q.lab, .o x.2.2.1 q.val, .o x.2.2.2 q.bun], y.mv = false → ∀ k ∈ y.foot, w.heap.size ≤ k :=
 (asked_yes hq hl w hs).mono fun e w' ⟨x, h1, h2⟩ => ⟨x, h1, h2, fr4 rfl⟩
abbrev lenQ (q : Rq) : Prop := q.id.length ≤ 1000000 ∧ q.lab.length ≤ 1000000 ∧ q.val.length ≤ 1000000 ∧ q.bun.length ≤ 1000000
theorem txV_len (m : Int) (s : RSt) : (txV m s).length ≤ s.1.length := by
 unfold txV
 split
 ·
  rw [List.length_take, List.length_drop]; omega
 ·
  exact Nat.zero_le _
theorem asked_len {l : List UInt8} {q : Rq} (h : askedM l = some q) (hl : l.length ≤ 1000000) : lenQ q := by
 unfold askedM at h
 split at h
 ·
  obtain rfl := Option.some.inj h
  unfold lenQ aQ
  obtain ⟨s, hs⟩ : ∃ s, tkS 1 (l, 0) = s := ⟨_, rfl⟩
  have h0 : s.1.length ≤ 1000000 := by rw [← hs]; exact Nat.le_trans (tkS_len 1 (l, 0)) hl
  rw [hs]
  have h1 := txV_len 16 s
  have h2 := txV_len 32 (txS 16 s)
  have h3 := txV_len 64 (txS 32 (txS 16 s))
  have h4 := txV_len 65535 s
  have h5 := txS_len 16 s
  have h6 := txS_len 32 (txS 16 s)
  unfold rdQ
  repeat' split
  all_goals (simp only [zQ, List.length_nil]; omega)
 ·
  cases h
theorem opt_or {α : Type} (x : Option α) : x = none ∨ ∃ q, x = some q := by cases x <;> simp
attribute [local irreducible] lb be8 eI tB txL txB dtx dok txV txS tkS byV nuV suV enV askL askB daskL cutQ

theorem wireAsked_L {u : Value} {bs : List UInt8} (w : World) (hs : Sl w u bs) :
  Calls Try.prog 4 #[u] w fun e w' => Ret (.bool true) w w' e := by
 obtain ⟨l, hl⟩ : ∃ l, List.take (min bs.length 2000) bs = l := ⟨_, rfl⟩
 have hll : l.length ≤ 2000 := by rw [← hl, List.length_take]; omega
 have HL := Lib.hid hl
 clear hl
 have hS := SH.nil [] w
 go_enter Try.func4, Try.ntmps4
 go_upto_region 1 with fail
 refine RL hS ?_
 clear hS
 refine MO (m := []) (n := 0) (z := #[]) ?_
 intro v10_1
 refine MV ?_
 refine MV ?_
 refine MF (v := .int .i64 (bs.length : Int)) (fun W hS => run_lenA (sl_e hs hS.ext) rfl rfl) ?_
 refine MW ?_ (v := .int .i64 ((min bs.length 2000 : Nat) : Int))
 refine MT (fun W hS => hS.ent hs) ?_
 refine MH 0 (min bs.length 2000) (m := bs) (m' := (List.take (min bs.length 2000) bs)) (by omega) ?_
 intro u15_2
 refine MA 2 (xs := []) (ys := (List.take (min bs.length 2000) bs)) (fun W hS => (hS.sl (i := 0) rfl)) (by first | omega | (simp only [List.length_nil, List.length_take]; omega)) ?_
 intro v16_3
 refine MT (fun W hS => by rw [List.nil_append, HL.out] at hS; exact hS) ?_
 refine MV ?_
 refine MZ fun W hS => ?_
 go_upto_region 2 with fail
 refine RL hS ?_
 clear hS
 refine MV ?_
 refine MF (v := str l) (fun W hS => run_cvs (hS.osl (i := 2) rfl) rfl rfl) ?_
 refine MV ?_
 refine MZ fun W hS => ?_
 rcases opt_or (askedM l) with hQ | ⟨q, hQ⟩
 ·
  have _f := True.intro
  have HQ := Lib.hid hQ
  clear hQ
  go_upto_region 3 with fail
  refine RL hS ?_
  clear hS
  refine MV ?_
  refine MC (v := .tuple #[.agg (agF [.c (.int .i64 0), .c (.slice none 0 0), .a 32 0, .a 32 0, .c (.int .i64 0), .c (.int .i64 0), .c (.int .i64 0), .c (.int .i64 0), .c (.slice none 0 0), .c (.slice none 0 0), .c (.int .i64 0), .c (.int .i64 0), .c (.slice none 0 0)]), .int .i64 2]) (fun W hS => asked_not HQ.out (by omega) W (hS.osl (i := 2) rfl)) ?_
  refine MV ?_
  refine MV ?_
  refine MW ?_ (v := .int .i64 2)
  refine MN (z := agF [.c (.int .i64 0), .c (.slice none 0 0), .a 32 0, .a 32 0, .c (.int .i64 0), .c (.int .i64 0), .c (.int .i64 0), .c (.int .i64 0), .c (.slice none 0 0), .c (.slice none 0 0), .c (.int .i64 0), .c (.int .i64 0), .c (.slice none 0 0)]) (t := 33) ?_
  intro p4_4
  refine MR 0 ?_ (hz := by rw [agF_size]; kernel_rfl) (hs := by first | (rw [agF_size, agF_size]; rfl) | rfl) (h1 := by exact (agF_one ⟨rfl, rfl, rfl, rfl, rfl, rfl, rfl, rfl, rfl, rfl, rfl, trivial⟩))
  refine MW ?_ (v := .int .i64 2)
  refine MZ fun W hS => ?_
  go_upto_region 4 with fail
  refine RL hS ?_
  clear hS
  refine MV ?_
  refine MC (v := .tuple #[.agg (agF [.c (.int .i64 0), .c (str []), .c (str []), .c (str []), .c (.int .i64 0), .c (.int .i64 0), .c (.int .i64 0), .c (.int .i64 0), .c (str []), .c (str []), .c (.int .i64 0), .c (.int .i64 0), .c (str [])]), .bool false]) (fun W hS => dasked_not HQ.out W) ?_
  refine MV ?_
  refine MV ?_
  refine MW ?_ (v := .bool false)
  refine MN (z := agF [.c (.int .i64 0), .c (str []), .c (str []), .c (str []), .c (.int .i64 0), .c (.int .i64 0), .c (.int .i64 0), .c (.int .i64 0), .c (str []), .c (str []), .c (.int .i64 0), .c (.int .i64 0), .c (str [])]) (t := 24) ?_
  intro p6_5
  refine MR 0 ?_ (hz := by rw [agF_size]; kernel_rfl) (hs := by first | (rw [agF_size, agF_size]; rfl) | rfl) (h1 := by exact (agF_one ⟨rfl, rfl, rfl, rfl, rfl, rfl, rfl, rfl, rfl, rfl, rfl, rfl, rfl, trivial⟩))
  refine MW ?_ (v := .bool false)
  refine MZ fun W hS => ?_
  go_upto_region 5 with fail
  refine RTh (.e 0 (.q 1 (.q 2 (.q 3 (.q 4 (.q 5 (.q 6 (.q 7 (.q 8 (.q 9 (.q 10 (.q 11 (.q 12 (.q 13 (.q 14 (.q 15 (.q 16 (.q 17 (.q 19 (.e 18 (.q 20 (.q 21 (.q 22 (.q 23 (.q 24 (.q 25 (.q 26 (.q 27 .z)))))))))))))))))))))))))))) hS ?_
  clear hS
  refine TE (fun _ h => h) ?_
  refine MC (v := .bool true) (fun W hS => wires_c W) ?_
  refine TNh (fun W hS => hS) ?_
  refine TW ?_ (v := .bool false)
  refine TW ?_ (v := .bool false)
  refine TW ?_ (v := .int .i64 2)
  refine TW ?_ (v := .bool false)
  refine TW ?_ (v := .bool false)
  refine TW ?_ (v := .bool false)
  refine TW ?_ (v := .bool false)
  refine TW ?_ (v := .bool false)
  refine TW ?_ (v := .int .i64 2)
  refine TW ?_ (v := .bool true)
  refine TW ?_ (v := .bool true)
  refine TW ?_ (v := .int .i64 2)
  refine TW ?_ (v := .bool false)
  refine TW ?_ (v := .bool false)
  refine TW ?_ (v := .bool false)
  refine TW ?_ (v := .bool false)
  refine TL 1 ?_ (hs := by rw [agF_size]; kernel_rfl)
  refine TL 0 ?_ (hs := by rw [agF_size]; kernel_rfl)
  refine TE (fun _ h => h) ?_
  refine MC (v := .agg (agF [.c (.int .i64 0), .c (str []), .c (str []), .c (str []), .c (.int .i64 0), .c (.int .i64 0), .c (.int .i64 0), .c (.int .i64 0), .c (str []), .c (str []), .c (.int .i64 0), .c (.int .i64 0), .c (str [])])) (fun W hS => (by have h_ := from_c (q := zQ 0) (.inr ⟨rfl, rfl⟩) (by decide) W (sl_nil W) (sl_nil W) (sl_nil W) (sl_nil W); rw [drF_n (by decide)] at h_; exact h_)) ?_
  refine TNh (fun W hS => hS) ?_
  refine TW ?_ (v := .bool false) (hv := fun _ => run_neqA ((fun w => eqReq 0 0 0 0 0 0 0 [] [] [] [] [] [] w) _) (by kernel_rfl) rfl rfl rfl)
  refine TW ?_ (v := .bool false)
  refine TW ?_ (v := .bool false)
  refine TV ?_
  refine TF (v := str l) rfl (fun W hS => run_cvs (hS.osl (i := 4) rfl) rfl rfl) ?_
  refine TV ?_
  refine TW ?_ (v := .bool false) (hv := fun _ => run_strneB (l := l) (m := l) (b := true) (decide_eq_true rfl) rfl rfl rfl)
  refine TW ?_ (v := .bool false)
  refine TZ (fun _ h => h) fun W hS => ?_
  go_wp2
  first | exact bodyPost_ret (v := .bool true) (by simp only [results, Try.results4]; go_simp) rfl ⟨rfl, hS.ext⟩ | exact bodyPost_end (v := .bool true) (by simp only [results, Try.results4]; go_simp) rfl ⟨rfl, hS.ext⟩
 ·
  have _f := True.intro
  obtain ⟨hqA, hqB, hqL_, hqK⟩ := asked_back hQ
  have hqL := asked_len hQ (by omega)
  have HqL := Lib.hid hqL_
  have HQ := Lib.hid hQ
  clear hQ hqL_
  go_upto_region 3 with fail
  refine RL hS ?_
  clear hS
  refine MV ?_
  refine ME (V := fun x : Value × Value × Value × Value => .tuple #[.agg (rqF q x.1 x.2.1 x.2.2.1 x.2.2.2), .int .i64 0]) (fun W hS => ncallL hS (asked_n HQ.out (by omega) W (hS.osl (i := 2) rfl)) (fun _ => rfl)) ?_
  rintro ⟨xi, xl, xv, xb⟩
  dsimp only
  refine MV ?_
  refine MV ?_
  refine MW ?_ (v := .int .i64 0)
  refine MN (z := agF [.c (.int .i64 0), .c (.slice none 0 0), .a 32 0, .a 32 0, .c (.int .i64 0), .c (.int .i64 0), .c (.int .i64 0), .c (.int .i64 0), .c (.slice none 0 0), .c (.slice none 0 0), .c (.int .i64 0), .c (.int .i64 0), .c (.slice none 0 0)]) (t := 33) ?_
  intro p4_6
  refine MFact (fun W hS => (sl_cells (hS.osl (i := 1) rfl)).2) ?_
  intro oc_ni7
  refine MFact (fun W hS => (sl_cells (hS.osl (i := 2) rfl)).2) ?_
  intro oc_nl8
  refine MFact (fun W hS => (sl_cells (hS.osl (i := 3) rfl)).2) ?_
  intro oc_nv9
  refine MFact (fun W hS => (sl_cells (hS.osl (i := 4) rfl)).2) ?_
  intro oc_nb10
  refine MR 0 ?_ (hz := by rw [agF_size]; kernel_rfl) (hs := by first | (rw [agF_size, agF_size]; rfl) | rfl) (h1 := by exact (agF_one ⟨rfl, oc_ni7, rfl, rfl, rfl, rfl, oc_nl8, oc_nv9, rfl, rfl, oc_nb10, trivial⟩))
  refine MW ?_ (v := .int .i64 0)
  refine MZ fun W hS => ?_
  go_upto_region 4 with fail
  refine RL hS ?_
  clear hS
  refine MV ?_
  refine MC (v := .tuple #[.agg (drF q), .bool true]) (fun W hS => dasked_yes HQ.out W) ?_
  refine MV ?_
  refine MV ?_
  refine MW ?_ (v := .bool true)
  refine MN (z := agF [.c (.int .i64 0), .c (str []), .c (str []), .c (str []), .c (.int .i64 0), .c (.int .i64 0), .c (.int .i64 0), .c (.int .i64 0), .c (str []), .c (str []), .c (.int .i64 0), .c (.int .i64 0), .c (str [])]) (t := 24) ?_
  intro p6_11
  refine MR 0 ?_ (hz := by rw [drF_size]; kernel_rfl) (hs := by rw [agF_size, drF_size]; rfl) (h1 := by exact (drF_one q))
  refine MW ?_ (v := .bool true)
  refine MZ fun W hS => ?_
  go_upto_region 5 with fail
  refine RTh (.e 0 (.q 1 (.q 2 (.q 3 (.q 4 (.q 5 (.q 6 (.q 7 (.q 8 (.q 9 (.q 10 (.q 11 (.q 12 (.q 13 (.q 14 (.q 15 (.q 16 (.q 17 (.q 19 (.e 18 (.q 20 (.q 21 (.q 22 (.q 23 (.q 24 (.q 25 (.q 26 (.q 27 .z)))))))))))))))))))))))))))) hS ?_
  clear hS
  refine TE (fun _ h => h) ?_
  refine MC (v := .bool true) (fun W hS => wires_c W) ?_
  refine TNh (fun W hS => hS) ?_
  refine TW ?_ (v := .bool false)
  refine TW ?_ (v := .bool false)
  refine TW ?_ (v := .int .i64 0)
  refine TW ?_ (v := .bool true)
  refine TW ?_ (v := .bool true)
  refine TW ?_ (v := .bool false)
  refine TW ?_ (v := .bool false)
  refine TW ?_ (v := .bool false)
  refine TW ?_ (v := .int .i64 0)
  refine TW ?_ (v := .bool false)
  refine TW ?_ (v := .bool false)
  refine TS ?_
  refine TS ?_
  refine TW ?_ (v := .bool false)
  refine TW ?_ (v := .bool false)
  refine TW ?_ (v := .bool false)
  refine TL 1 ?_ (hs := by rw [agF_size]; kernel_rfl)
  refine TL 0 ?_ (hs := by rw [drF_size]; kernel_rfl)
  refine TE (fun _ h => h) ?_
  refine MC (v := .agg (drF q)) (fun W hS => from_c (q := q) hqK hqL W (hS.osl (i := 2) rfl) (hS.osl (i := 3) rfl) (hS.osl (i := 4) rfl) (hS.osl (i := 5) rfl)) ?_
  refine TNh (fun W hS => hS) ?_
  refine TW ?_ (v := .bool false) (hv := fun _ => run_neqA ((fun w => eqDr q w) _) (by kernel_rfl) rfl rfl rfl)
  refine TW ?_ (v := .bool false)
  refine TW ?_ (v := .bool false)
  refine TV ?_
  refine TF (v := str l) rfl (fun W hS => run_cvs (hS.osl (i := 8) rfl) rfl rfl) ?_
  refine TV ?_
  refine TW ?_ (v := .bool false) (hv := fun _ => run_strneB (l := l) (m := l) (b := true) (decide_eq_true rfl) rfl rfl rfl)
  refine TW ?_ (v := .bool false)
  refine TZ (fun _ h => h) fun W hS => ?_
  go_upto_region 9 with fail
  refine RL hS ?_
  clear hS
  refine ML 1 ?_ (hs := by rw [agF_size]; kernel_rfl)
  refine ME (V := fun u => .tuple #[u, .int .i64 0]) (fun W hS => ncallW (l := l) hS (by have h_ := ask_yes (q := q) ⟨hqA, hqB⟩ W (hS.osl (i := 2) rfl) (hS.osl (i := 3) rfl) (hS.osl (i := 4) rfl) (hS.osl (i := 5) rfl); rw [HqL.out] at h_; exact h_)) ?_
  intro ua12
  refine MV ?_
  refine MV ?_
  refine MW ?_ (v := .int .i64 0)
  refine MV ?_
  refine MW ?_ (v := .int .i64 0)
  refine MZ fun W hS => ?_
  go_upto_region 10 with fail
  refine RL hS ?_
  clear hS
  refine MW ?_ (v := .int .i64 0)
  refine MW ?_ (v := .bool true)
  refine MW ?_ (v := .bool true)
  refine MV ?_
  refine MF (v := str l) (fun W hS => run_cvs (hS.osl (i := 0) rfl) rfl rfl) ?_
  refine MV ?_
  refine MW ?_ (v := .bool true) (hv := fun _ => run_streqb (l := l) (m := l) (b := true) (decide_eq_true rfl) rfl rfl rfl)
  refine MW ?_ (v := .bool true)
  refine MW ?_ (v := .bool true)
  refine MZ fun W hS => ?_
  go_wp2
  first | exact bodyPost_ret (v := .bool true) (by simp only [results, Try.results4]; go_simp) rfl ⟨rfl, hS.ext⟩ | exact bodyPost_end (v := .bool true) (by simp only [results, Try.results4]; go_simp) rfl ⟨rfl, hS.ext⟩
end Go.Proofs.Ytlbgelbhhibikaa.Ww
