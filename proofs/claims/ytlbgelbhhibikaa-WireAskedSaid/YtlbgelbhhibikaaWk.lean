/- wire: what bytes are a request; the document's Asked. Conditions: the texts are not too long. -/
import Derived.Test.YtlbgelbhhibikaaWj
import Derived.Test.YtlbgelbhhibikaaJ17
set_option linter.unusedSimpArgs false
set_option linter.unusedVariables false
namespace Go.Proofs.Ytlbgelbhhibikaa.Ww
set_option maxHeartbeats 1500000
set_option maxRecDepth 100000
open Go.RowKit
attribute [local irreducible] wpList wpTr wpX
set_option linter.unusedSimpArgs false
def zQ (k : Nat) : Rq := ⟨(k : Int), [], 0, 0, 0, 0, 0, 0, [], [], 0, 0, []⟩
/-- what is read of a request of a kind; what is left then -/
def rdQ (k : Nat) (s : RSt) : Rq × RSt :=
 if k = 1 then ({ zQ k with id := txV 16 s, vrf := suV (txS 16 s), bind := suV (tkS 32 (txS 16 s)), l0 := nuV (tkS 32 (tkS 32 (txS 16 s))), l1 := nuV (tkS 8 (tkS 32 (tkS 32 (txS 16 s)))), l2 := nuV (tkS 8 (tkS 8 (tkS 32 (tkS 32 (txS 16 s))))), per := nuV (tkS 8 (tkS 8 (tkS 8 (tkS 32 (tkS 32 (txS 16 s)))))) }, tkS 8 (tkS 8 (tkS 8 (tkS 8 (tkS 32 (tkS 32 (txS 16 s)))))))
 else if k = 5 then ({ zQ k with id := txV 16 s, lab := txV 32 (txS 16 s), val := txV 64 (txS 32 (txS 16 s)) }, txS 64 (txS 32 (txS 16 s)))
 else if k = 6 then ({ zQ k with id := txV 16 s, lab := txV 32 (txS 16 s), fr := nuV (txS 32 (txS 16 s)) }, tkS 8 (txS 32 (txS 16 s)))
 else if k = 7 then ({ zQ k with id := txV 16 s, lab := txV 32 (txS 16 s) }, txS 32 (txS 16 s))
 else if k = 8 then ({ zQ k with id := txV 16 s, fr := nuV (txS 16 s), ti := nuV (tkS 8 (txS 16 s)) }, tkS 8 (tkS 8 (txS 16 s)))
 else if k = 10 then ({ zQ k with bun := txV 65535 s }, txS 65535 s)
 else if k = 12 then ({ zQ k with fr := nuV s, ti := nuV (tkS 8 s) }, tkS 8 (tkS 8 s))
 else ({ zQ k with id := txV 16 s }, txS 16 s)
/-- of the bytes l -/
abbrev aQ (l : List UInt8) : Rq × RSt := rdQ (byV (l, 0)) (tkS 1 (l, 0))
/-- the document's request: its sums are there in a Create alone -/
def drF (q : Rq) : Array Value := if q.k = 1 then rrF q (lb 32 q.vrf) (lb 32 q.bind) else rrF q [] []
abbrev zRR : Array Value := rrF (zQ 0) [] []
theorem drF_1 {q : Rq} (h : q.k = 1) : drF q = rrF q (lb 32 q.vrf) (lb 32 q.bind) := if_pos h
theorem drF_n {q : Rq} (h : ¬ q.k = 1) : drF q = rrF q [] [] := if_neg h

theorem zer_custumalref04_Reader : zer Try.prog 105 = some (some (agF [.c (str []), .c (.int .i64 0)])) := by kernel_rfl
theorem plc_custumalref04_Reader : plc Try.prog 105 = some [(0, 1), (1, 1)] := by kernel_rfl
attribute [local irreducible] lb be8 eI tB txL txB dtx dok txV txS tkS byV nuV suV enV
theorem rdQ_1 {k : Nat} {s : RSt} (hk : k = 1) : rdQ k s = ({ zQ k with id := txV 16 s, vrf := suV (txS 16 s), bind := suV (tkS 32 (txS 16 s)), l0 := nuV (tkS 32 (tkS 32 (txS 16 s))), l1 := nuV (tkS 8 (tkS 32 (tkS 32 (txS 16 s)))), l2 := nuV (tkS 8 (tkS 8 (tkS 32 (tkS 32 (txS 16 s))))), per := nuV (tkS 8 (tkS 8 (tkS 8 (tkS 32 (tkS 32 (txS 16 s)))))) }, tkS 8 (tkS 8 (tkS 8 (tkS 8 (tkS 32 (tkS 32 (txS 16 s))))))) := by subst hk; rfl
theorem rdQ_5 {k : Nat} {s : RSt} (hk : k = 5) : rdQ k s = ({ zQ k with id := txV 16 s, lab := txV 32 (txS 16 s), val := txV 64 (txS 32 (txS 16 s)) }, txS 64 (txS 32 (txS 16 s))) := by subst hk; rfl
theorem rdQ_6 {k : Nat} {s : RSt} (hk : k = 6) : rdQ k s = ({ zQ k with id := txV 16 s, lab := txV 32 (txS 16 s), fr := nuV (txS 32 (txS 16 s)) }, tkS 8 (txS 32 (txS 16 s))) := by subst hk; rfl
theorem rdQ_7 {k : Nat} {s : RSt} (hk : k = 7) : rdQ k s = ({ zQ k with id := txV 16 s, lab := txV 32 (txS 16 s) }, txS 32 (txS 16 s)) := by subst hk; rfl
theorem rdQ_8 {k : Nat} {s : RSt} (hk : k = 8) : rdQ k s = ({ zQ k with id := txV 16 s, fr := nuV (txS 16 s), ti := nuV (tkS 8 (txS 16 s)) }, tkS 8 (tkS 8 (txS 16 s))) := by subst hk; rfl
theorem rdQ_10 {k : Nat} {s : RSt} (hk : k = 10) : rdQ k s = ({ zQ k with bun := txV 65535 s }, txS 65535 s) := by subst hk; rfl
theorem rdQ_12 {k : Nat} {s : RSt} (hk : k = 12) : rdQ k s = ({ zQ k with fr := nuV s, ti := nuV (tkS 8 s) }, tkS 8 (tkS 8 s)) := by subst hk; rfl
theorem rdQ_0 {k : Nat} {s : RSt} (hk : k ≠ 1 ∧ k ≠ 5 ∧ k ≠ 6 ∧ k ≠ 7 ∧ k ≠ 8 ∧ k ≠ 10 ∧ k ≠ 12) : rdQ k s = ({ zQ k with id := txV 16 s }, txS 16 s) := by unfold rdQ; simp only [hk.1, hk.2.1, hk.2.2.1, hk.2.2.2.1, hk.2.2.2.2.1, hk.2.2.2.2.2.1, hk.2.2.2.2.2.2, if_false]
theorem dasked_1 {l : List UInt8} (hk : byV (l, 0) = 1) (w : World) :
  Calls Try.prog 13 #[str l] w fun e w' => (enV (aQ l).2 ≠ 0 ∧ Ret (.tuple #[.agg zRR, .bool false]) w w' e) ∨ (enV (aQ l).2 = 0 ∧ Ret (.tuple #[.agg (drF (aQ l).1), .bool true]) w w' e) := by
 have Hk := Lib.hid hk
 have hk1 : byV (l, 0) ≤ 1 := by omega
 have hk2 : 1 ≤ byV (l, 0) := by omega
 clear hk
 have hS := SH.nil [] w
 go_enter Try.func13, Try.ntmps13
 go_upto_region 0 with fail
 refine RL hS ?_
 clear hS
 refine MN (z := agF [.c (.int .i64 0), .c (str []), .c (str []), .c (str []), .c (.int .i64 0), .c (.int .i64 0), .c (.int .i64 0), .c (.int .i64 0), .c (str []), .c (str []), .c (.int .i64 0), .c (.int .i64 0), .c (str [])]) (t := 24) ?_
 intro p2_1
 refine MW ?_ (v := .bool false)
 refine MZ fun W hS => ?_
 go_upto_region 1 with fail
 refine RL hS ?_
 clear hS
 refine MV ?_
 refine MF (v := .agg (agF [.c (str l), .c (.int .i64 0)])) (fun W hS => run_bld rfl rfl zer_custumalref04_Reader plc_custumalref04_Reader (fill_c fill_n (l' := [.c (str l), .c (.int .i64 0)]) (m := [.c (str l)]) (hv := rfl) (hs := agF_setp 0 1) (hp := rfl) (hn := rfl) (hb := by show 0 + 1 ≤ 2; decide))) ?_
 refine MN (z := agF [.c (str l), .c (.int .i64 0)]) (t := 105) ?_
 intro p11_2
 refine MT (H' := [.b p11_2 #[str (l, 0).1, .int .i64 (l, 0).2] 105, .b p2_1 (agF [.c (.int .i64 0), .c (str []), .c (str []), .c (str []), .c (.int .i64 0), .c (.int .i64 0), .c (.int .i64 0), .c (.int .i64 0), .c (str []), .c (str []), .c (.int .i64 0), .c (.int .i64 0), .c (str [])]) 24]) (fun W hS => hS) ?_
 refine MV ?_
 refine MZ fun W hS => ?_
 go_upto_region 2 with fail
 refine RL hS ?_
 clear hS
 refine MV ?_
 refine Me (v := .agg (agF [.c (.int .i64 1), .c (.int .i64 (byV (l, 0) : Int)), .a 32 0, .c (str [])])) (H' := [.b p11_2 #[str (tkS 1 (l, 0)).1, .int .i64 (tkS 1 (l, 0)).2] 105, .b p2_1 (agF [.c (.int .i64 0), .c (str []), .c (str []), .c (str []), .c (.int .i64 0), .c (.int .i64 0), .c (.int .i64 0), .c (.int .i64 0), .c (str []), .c (str []), .c (.int .i64 0), .c (.int .i64 0), .c (str [])]) 24]) (fun W hS => callF [0] [1] hS (fun hT => dnext_1 (s := (l, 0)) 0 W hT) ⟨.inr ⟨rfl, rfl⟩, trivial⟩) ?_
 refine MW ?_ (v := .int .i64 (byV (l, 0) : Int)) (hv := by intro W; kernel_rfl)
 refine MF (v := .agg (agF [.c (.int .i64 (byV (l, 0) : Int)), .c (str []), .c (str []), .c (str []), .c (.int .i64 0), .c (.int .i64 0), .c (.int .i64 0), .c (.int .i64 0), .c (str []), .c (str []), .c (.int .i64 0), .c (.int .i64 0), .c (str [])])) (fun W hS => run_bld rfl rfl zer_custumalref24_Request plc_custumalref24_Request (fill_c fill_n (l' := [.c (.int .i64 (byV (l, 0) : Int)), .c (str []), .c (str []), .c (str []), .c (.int .i64 0), .c (.int .i64 0), .c (.int .i64 0), .c (.int .i64 0), .c (str []), .c (str []), .c (.int .i64 0), .c (.int .i64 0), .c (str [])]) (m := [.c (.int .i64 (byV (l, 0) : Int))]) (hv := rfl) (hs := agF_setp 0 1) (hp := rfl) (hn := rfl) (hb := by show 0 + 1 ≤ 13; decide))) ?_
 refine MN (z := agF [.c (.int .i64 0), .c (str []), .c (str []), .c (str []), .c (.int .i64 0), .c (.int .i64 0), .c (.int .i64 0), .c (.int .i64 0), .c (str []), .c (str []), .c (.int .i64 0), .c (.int .i64 0), .c (str [])]) (t := 24) ?_
 intro p5_3
 refine MR 0 ?_ (hz := by rw [agF_size]; kernel_rfl) (hs := by first | (rw [agF_size, agF_size]; rfl) | rfl) (h1 := by exact (agF_one ⟨rfl, rfl, rfl, rfl, rfl, rfl, rfl, rfl, rfl, rfl, rfl, rfl, rfl, trivial⟩))
 refine MZ fun W hS => ?_
 go_upto_region 3 with fail
 refine RL hS ?_
 clear hS
 refine MV ?_
 refine MG 0 ?_ (v := .int .i64 (byV (l, 0) : Int)) (hj := (agF_cel 0))
 refine MZ fun W hS => ?_
 go_upto_region 5 with fail
 refine RL hS ?_
 clear hS
 refine MW ?_ (v := .bool true) (hv := by intro W; go_simp; first | done | omega | assumption)
 refine MW ?_ (v := .bool true)
 refine MZ fun W hS => ?_
 go_upto_region 6 with fail
 refine RL hS ?_
 clear hS
 refine MV ?_
 refine Me (v := .agg (agF [.c (.int .i64 5), .c (.int .i64 0), .a 32 0, .c (str (txV 16 (tkS 1 (l, 0))))])) (H' := [.b p11_2 #[str (txS 16 (tkS 1 (l, 0))).1, .int .i64 (txS 16 (tkS 1 (l, 0))).2] 105, .b p5_3 (agF [.c (.int .i64 (byV (l, 0) : Int)), .c (str []), .c (str []), .c (str []), .c (.int .i64 0), .c (.int .i64 0), .c (.int .i64 0), .c (.int .i64 0), .c (str []), .c (str []), .c (.int .i64 0), .c (.int .i64 0), .c (str [])]) 24, .b p2_1 (agF [.c (.int .i64 0), .c (str []), .c (str []), .c (str []), .c (.int .i64 0), .c (.int .i64 0), .c (.int .i64 0), .c (.int .i64 0), .c (str []), .c (str []), .c (.int .i64 0), .c (.int .i64 0), .c (str [])]) 24]) (fun W hS => callF [1] [0, 2] hS (fun hT => dnext_5 (s := tkS 1 (l, 0)) 16 W hT) ⟨.inr ⟨rfl, rfl⟩, trivial⟩) ?_
 refine MW ?_ (v := str (txV 16 (tkS 1 (l, 0)))) (hv := by intro W; kernel_rfl)
 refine MV ?_
 refine MP 1 (v := str (txV 16 (tkS 1 (l, 0)))) (cs' := agF [.c (.int .i64 (byV (l, 0) : Int)), .c (str (txV 16 (tkS 1 (l, 0)))), .c (str []), .c (str []), .c (.int .i64 0), .c (.int .i64 0), .c (.int .i64 0), .c (.int .i64 0), .c (str []), .c (str []), .c (.int .i64 0), .c (.int .i64 0), .c (str [])]) ?_ (hs := by rw [agF_size]; show 1 < 13; decide) (hc := agF_setc 1)
 refine MZ fun W hS => ?_
 go_upto_region 7 with fail
 refine RL hS ?_
 clear hS
 refine MV ?_
 refine Me (v := .agg (agF [.c (.int .i64 4), .c (.int .i64 0), .a 32 (suV (txS 16 (tkS 1 (l, 0)))), .c (str [])])) (H' := [.b p11_2 #[str (tkS 32 (txS 16 (tkS 1 (l, 0)))).1, .int .i64 (tkS 32 (txS 16 (tkS 1 (l, 0)))).2] 105, .b p5_3 (agF [.c (.int .i64 (byV (l, 0) : Int)), .c (str (txV 16 (tkS 1 (l, 0)))), .c (str []), .c (str []), .c (.int .i64 0), .c (.int .i64 0), .c (.int .i64 0), .c (.int .i64 0), .c (str []), .c (str []), .c (.int .i64 0), .c (.int .i64 0), .c (str [])]) 24, .b p2_1 (agF [.c (.int .i64 0), .c (str []), .c (str []), .c (str []), .c (.int .i64 0), .c (.int .i64 0), .c (.int .i64 0), .c (.int .i64 0), .c (str []), .c (str []), .c (.int .i64 0), .c (.int .i64 0), .c (str [])]) 24]) (fun W hS => callF [0] [1, 2] hS (fun hT => dnext_4 (s := txS 16 (tkS 1 (l, 0))) 0 W hT) ⟨.inr ⟨rfl, rfl⟩, trivial⟩) ?_
 refine MV ?_
 refine Me (v := .agg (agF [.c (.int .i64 4), .c (.int .i64 0), .a 32 (suV (tkS 32 (txS 16 (tkS 1 (l, 0))))), .c (str [])])) (H' := [.b p11_2 #[str (tkS 32 (tkS 32 (txS 16 (tkS 1 (l, 0))))).1, .int .i64 (tkS 32 (tkS 32 (txS 16 (tkS 1 (l, 0))))).2] 105, .b p5_3 (agF [.c (.int .i64 (byV (l, 0) : Int)), .c (str (txV 16 (tkS 1 (l, 0)))), .c (str []), .c (str []), .c (.int .i64 0), .c (.int .i64 0), .c (.int .i64 0), .c (.int .i64 0), .c (str []), .c (str []), .c (.int .i64 0), .c (.int .i64 0), .c (str [])]) 24, .b p2_1 (agF [.c (.int .i64 0), .c (str []), .c (str []), .c (str []), .c (.int .i64 0), .c (.int .i64 0), .c (.int .i64 0), .c (.int .i64 0), .c (str []), .c (str []), .c (.int .i64 0), .c (.int .i64 0), .c (str [])]) 24]) (fun W hS => callF [0] [1, 2] hS (fun hT => dnext_4 (s := tkS 32 (txS 16 (tkS 1 (l, 0)))) 0 W hT) ⟨.inr ⟨rfl, rfl⟩, trivial⟩) ?_
 refine MN (z := agF [.c (.int .i64 0), .c (.int .i64 0), .a 32 0, .c (str [])]) (t := 107) ?_
 intro p6_4
 refine MN (z := agF [.c (.int .i64 0), .c (.int .i64 0), .a 32 0, .c (str [])]) (t := 107) ?_
 intro p7_5
 refine MR 1 ?_ (hz := by rw [agF_size]; kernel_rfl) (hs := by first | (rw [agF_size, agF_size]; rfl) | rfl) (h1 := by exact (agF_one ⟨rfl, rfl, rfl, trivial⟩))
 refine MR 0 ?_ (hz := by rw [agF_size]; kernel_rfl) (hs := by first | (rw [agF_size, agF_size]; rfl) | rfl) (h1 := by exact (agF_one ⟨rfl, rfl, rfl, trivial⟩))
 refine MZ fun W hS => ?_
 go_upto_region 8 with fail
 refine RTp [0, 1, 2, 4] (.q 0 (.q 1 (.q 2 (.q 3 (.q 4 (.q 5 (.q 6 (.e 7 (.q 8 (.e 9 .z)))))))))) hS ?_
 clear hS
 refine TV ?_
 refine TW ?_ (v := .slice (some ⟨p6_4, 2, none⟩) 32 32)
 refine TF (v := str (lb 32 (suV (txS 16 (tkS 1 (l, 0)))))) rfl (fun W hS => run_cvs (sl_part (V := (suV (txS 16 (tkS 1 (l, 0))))) (n := 32) (off := 2) (c := 32) (hS.blk (i := 1) rfl) (agF_arr 2) (by decide) (by decide)) rfl rfl) ?_
 refine TV ?_
 refine TW ?_ (v := .slice (some ⟨p7_5, 2, none⟩) 32 32)
 refine TF (v := str (lb 32 (suV (tkS 32 (txS 16 (tkS 1 (l, 0))))))) rfl (fun W hS => run_cvs (sl_part (V := (suV (tkS 32 (txS 16 (tkS 1 (l, 0)))))) (n := 32) (off := 2) (c := 32) (hS.blk (i := 0) rfl) (agF_arr 2) (by decide) (by decide)) rfl rfl) ?_
 refine TV ?_
 refine TE (fun _ h => h.pick [0, 1, 2, 4]) ?_
 refine MP 3 (v := str (lb 32 (suV (txS 16 (tkS 1 (l, 0)))))) (cs' := agF [.c (.int .i64 (byV (l, 0) : Int)), .c (str (txV 16 (tkS 1 (l, 0)))), .c (str (lb 32 (suV (txS 16 (tkS 1 (l, 0)))))), .c (str []), .c (.int .i64 0), .c (.int .i64 0), .c (.int .i64 0), .c (.int .i64 0), .c (str []), .c (str []), .c (.int .i64 0), .c (.int .i64 0), .c (str [])]) ?_ (hs := by rw [agF_size]; show 2 < 13; decide) (hc := agF_setc 2)
 refine TNp [0, 1, 2, 4] [0, 1, 2, 3] ?_
 refine TV ?_
 refine TE (fun _ h => h.pick [0, 1, 2, 4]) ?_
 refine MP 3 (v := str (lb 32 (suV (tkS 32 (txS 16 (tkS 1 (l, 0))))))) (cs' := agF [.c (.int .i64 (byV (l, 0) : Int)), .c (str (txV 16 (tkS 1 (l, 0)))), .c (str (lb 32 (suV (txS 16 (tkS 1 (l, 0)))))), .c (str (lb 32 (suV (tkS 32 (txS 16 (tkS 1 (l, 0))))))), .c (.int .i64 0), .c (.int .i64 0), .c (.int .i64 0), .c (.int .i64 0), .c (str []), .c (str []), .c (.int .i64 0), .c (.int .i64 0), .c (str [])]) ?_ (hs := by rw [agF_size]; show 3 < 13; decide) (hc := agF_setc 3)
 refine TNp [0, 1, 2, 4] [0, 1, 2, 3] ?_
 refine TZ (fun _ h => h.pick [0, 1, 2, 4]) fun W hS => ?_
 go_wp2_with fail
 refine wp_loop_rounds 4 ?_
 rw [rounds_succ]
 go_upto_region 12 with fail
 refine RL hS ?_
 clear hS
 refine MW ?_ (v := .int .i64 0)
 refine MV ?_
 refine Me (v := .agg (agF [.c (.int .i64 3), .c (.int .i64 (nuV (tkS 32 (tkS 32 (txS 16 (tkS 1 (l, 0))))))), .a 32 0, .c (str [])])) (H' := [.b p11_2 #[str (tkS 8 (tkS 32 (tkS 32 (txS 16 (tkS 1 (l, 0)))))).1, .int .i64 (tkS 8 (tkS 32 (tkS 32 (txS 16 (tkS 1 (l, 0)))))).2] 105, .b p7_5 (agF [.c (.int .i64 4), .c (.int .i64 0), .a 32 (suV (tkS 32 (txS 16 (tkS 1 (l, 0))))), .c (str [])]) 107, .b p6_4 (agF [.c (.int .i64 4), .c (.int .i64 0), .a 32 (suV (txS 16 (tkS 1 (l, 0)))), .c (str [])]) 107, .b p5_3 (agF [.c (.int .i64 (byV (l, 0) : Int)), .c (str (txV 16 (tkS 1 (l, 0)))), .c (str (lb 32 (suV (txS 16 (tkS 1 (l, 0)))))), .c (str (lb 32 (suV (tkS 32 (txS 16 (tkS 1 (l, 0))))))), .c (.int .i64 0), .c (.int .i64 0), .c (.int .i64 0), .c (.int .i64 0), .c (str []), .c (str []), .c (.int .i64 0), .c (.int .i64 0), .c (str [])]) 24, .b p2_1 (agF [.c (.int .i64 0), .c (str []), .c (str []), .c (str []), .c (.int .i64 0), .c (.int .i64 0), .c (.int .i64 0), .c (.int .i64 0), .c (str []), .c (str []), .c (.int .i64 0), .c (.int .i64 0), .c (str [])]) 24]) (fun W hS => callF [2] [0, 1, 3, 4] hS (fun hT => dnext_3 (s := tkS 32 (tkS 32 (txS 16 (tkS 1 (l, 0))))) 0 W hT) ⟨.inr ⟨rfl, rfl⟩, trivial⟩) ?_
 refine MW ?_ (v := .int .i64 (nuV (tkS 32 (tkS 32 (txS 16 (tkS 1 (l, 0))))))) (hv := by intro W; kernel_rfl)
 refine MV ?_
 refine MW ?_ (v := .pointer (some ⟨p5_3, 4, none⟩)) (hv := fun _ => run_ixarrn (m := 3) (k := 1) (j := 0) (off := 4) (by decide) Try.underlying22 (by kernel_rfl) rfl rfl rfl)
 refine MP 3 (v := .int .i64 (nuV (tkS 32 (tkS 32 (txS 16 (tkS 1 (l, 0))))))) (cs' := agF [.c (.int .i64 (byV (l, 0) : Int)), .c (str (txV 16 (tkS 1 (l, 0)))), .c (str (lb 32 (suV (txS 16 (tkS 1 (l, 0)))))), .c (str (lb 32 (suV (tkS 32 (txS 16 (tkS 1 (l, 0))))))), .c (.int .i64 (nuV (tkS 32 (tkS 32 (txS 16 (tkS 1 (l, 0))))))), .c (.int .i64 0), .c (.int .i64 0), .c (.int .i64 0), .c (str []), .c (str []), .c (.int .i64 0), .c (.int .i64 0), .c (str [])]) ?_ (hs := by rw [agF_size]; show 4 < 13; decide) (hc := agF_setc 4)
 refine MZ fun W hS => ?_
 go_wp2_with fail
 rw [rounds_succ]
 go_upto_region 12 with fail
 refine RL hS ?_
 clear hS
 refine MW ?_ (v := .int .i64 1)
 refine MV ?_
 refine Me (v := .agg (agF [.c (.int .i64 3), .c (.int .i64 (nuV (tkS 8 (tkS 32 (tkS 32 (txS 16 (tkS 1 (l, 0)))))))), .a 32 0, .c (str [])])) (H' := [.b p11_2 #[str (tkS 8 (tkS 8 (tkS 32 (tkS 32 (txS 16 (tkS 1 (l, 0))))))).1, .int .i64 (tkS 8 (tkS 8 (tkS 32 (tkS 32 (txS 16 (tkS 1 (l, 0))))))).2] 105, .b p7_5 (agF [.c (.int .i64 4), .c (.int .i64 0), .a 32 (suV (tkS 32 (txS 16 (tkS 1 (l, 0))))), .c (str [])]) 107, .b p6_4 (agF [.c (.int .i64 4), .c (.int .i64 0), .a 32 (suV (txS 16 (tkS 1 (l, 0)))), .c (str [])]) 107, .b p5_3 (agF [.c (.int .i64 (byV (l, 0) : Int)), .c (str (txV 16 (tkS 1 (l, 0)))), .c (str (lb 32 (suV (txS 16 (tkS 1 (l, 0)))))), .c (str (lb 32 (suV (tkS 32 (txS 16 (tkS 1 (l, 0))))))), .c (.int .i64 (nuV (tkS 32 (tkS 32 (txS 16 (tkS 1 (l, 0))))))), .c (.int .i64 0), .c (.int .i64 0), .c (.int .i64 0), .c (str []), .c (str []), .c (.int .i64 0), .c (.int .i64 0), .c (str [])]) 24, .b p2_1 (agF [.c (.int .i64 0), .c (str []), .c (str []), .c (str []), .c (.int .i64 0), .c (.int .i64 0), .c (.int .i64 0), .c (.int .i64 0), .c (str []), .c (str []), .c (.int .i64 0), .c (.int .i64 0), .c (str [])]) 24]) (fun W hS => callF [0] [1, 2, 3, 4] hS (fun hT => dnext_3 (s := tkS 8 (tkS 32 (tkS 32 (txS 16 (tkS 1 (l, 0)))))) 0 W hT) ⟨.inr ⟨rfl, rfl⟩, trivial⟩) ?_
 refine MW ?_ (v := .int .i64 (nuV (tkS 8 (tkS 32 (tkS 32 (txS 16 (tkS 1 (l, 0)))))))) (hv := by intro W; kernel_rfl)
 refine MV ?_
 refine MW ?_ (v := .pointer (some ⟨p5_3, 5, none⟩)) (hv := fun _ => run_ixarrn (m := 3) (k := 1) (j := 1) (off := 4) (by decide) Try.underlying22 (by kernel_rfl) rfl rfl rfl)
 refine MP 3 (v := .int .i64 (nuV (tkS 8 (tkS 32 (tkS 32 (txS 16 (tkS 1 (l, 0)))))))) (cs' := agF [.c (.int .i64 (byV (l, 0) : Int)), .c (str (txV 16 (tkS 1 (l, 0)))), .c (str (lb 32 (suV (txS 16 (tkS 1 (l, 0)))))), .c (str (lb 32 (suV (tkS 32 (txS 16 (tkS 1 (l, 0))))))), .c (.int .i64 (nuV (tkS 32 (tkS 32 (txS 16 (tkS 1 (l, 0))))))), .c (.int .i64 (nuV (tkS 8 (tkS 32 (tkS 32 (txS 16 (tkS 1 (l, 0)))))))), .c (.int .i64 0), .c (.int .i64 0), .c (str []), .c (str []), .c (.int .i64 0), .c (.int .i64 0), .c (str [])]) ?_ (hs := by rw [agF_size]; show 5 < 13; decide) (hc := agF_setc 5)
 refine MZ fun W hS => ?_
 go_wp2_with fail
 rw [rounds_succ]
 go_upto_region 12 with fail
 refine RL hS ?_
 clear hS
 refine MW ?_ (v := .int .i64 2)
 refine MV ?_
 refine Me (v := .agg (agF [.c (.int .i64 3), .c (.int .i64 (nuV (tkS 8 (tkS 8 (tkS 32 (tkS 32 (txS 16 (tkS 1 (l, 0))))))))), .a 32 0, .c (str [])])) (H' := [.b p11_2 #[str (tkS 8 (tkS 8 (tkS 8 (tkS 32 (tkS 32 (txS 16 (tkS 1 (l, 0)))))))).1, .int .i64 (tkS 8 (tkS 8 (tkS 8 (tkS 32 (tkS 32 (txS 16 (tkS 1 (l, 0)))))))).2] 105, .b p7_5 (agF [.c (.int .i64 4), .c (.int .i64 0), .a 32 (suV (tkS 32 (txS 16 (tkS 1 (l, 0))))), .c (str [])]) 107, .b p6_4 (agF [.c (.int .i64 4), .c (.int .i64 0), .a 32 (suV (txS 16 (tkS 1 (l, 0)))), .c (str [])]) 107, .b p5_3 (agF [.c (.int .i64 (byV (l, 0) : Int)), .c (str (txV 16 (tkS 1 (l, 0)))), .c (str (lb 32 (suV (txS 16 (tkS 1 (l, 0)))))), .c (str (lb 32 (suV (tkS 32 (txS 16 (tkS 1 (l, 0))))))), .c (.int .i64 (nuV (tkS 32 (tkS 32 (txS 16 (tkS 1 (l, 0))))))), .c (.int .i64 (nuV (tkS 8 (tkS 32 (tkS 32 (txS 16 (tkS 1 (l, 0)))))))), .c (.int .i64 0), .c (.int .i64 0), .c (str []), .c (str []), .c (.int .i64 0), .c (.int .i64 0), .c (str [])]) 24, .b p2_1 (agF [.c (.int .i64 0), .c (str []), .c (str []), .c (str []), .c (.int .i64 0), .c (.int .i64 0), .c (.int .i64 0), .c (.int .i64 0), .c (str []), .c (str []), .c (.int .i64 0), .c (.int .i64 0), .c (str [])]) 24]) (fun W hS => callF [0] [1, 2, 3, 4] hS (fun hT => dnext_3 (s := tkS 8 (tkS 8 (tkS 32 (tkS 32 (txS 16 (tkS 1 (l, 0))))))) 0 W hT) ⟨.inr ⟨rfl, rfl⟩, trivial⟩) ?_
 refine MW ?_ (v := .int .i64 (nuV (tkS 8 (tkS 8 (tkS 32 (tkS 32 (txS 16 (tkS 1 (l, 0))))))))) (hv := by intro W; kernel_rfl)
 refine MV ?_
 refine MW ?_ (v := .pointer (some ⟨p5_3, 6, none⟩)) (hv := fun _ => run_ixarrn (m := 3) (k := 1) (j := 2) (off := 4) (by decide) Try.underlying22 (by kernel_rfl) rfl rfl rfl)
 refine MP 3 (v := .int .i64 (nuV (tkS 8 (tkS 8 (tkS 32 (tkS 32 (txS 16 (tkS 1 (l, 0))))))))) (cs' := agF [.c (.int .i64 (byV (l, 0) : Int)), .c (str (txV 16 (tkS 1 (l, 0)))), .c (str (lb 32 (suV (txS 16 (tkS 1 (l, 0)))))), .c (str (lb 32 (suV (tkS 32 (txS 16 (tkS 1 (l, 0))))))), .c (.int .i64 (nuV (tkS 32 (tkS 32 (txS 16 (tkS 1 (l, 0))))))), .c (.int .i64 (nuV (tkS 8 (tkS 32 (tkS 32 (txS 16 (tkS 1 (l, 0)))))))), .c (.int .i64 (nuV (tkS 8 (tkS 8 (tkS 32 (tkS 32 (txS 16 (tkS 1 (l, 0))))))))), .c (.int .i64 0), .c (str []), .c (str []), .c (.int .i64 0), .c (.int .i64 0), .c (str [])]) ?_ (hs := by rw [agF_size]; show 6 < 13; decide) (hc := agF_setc 6)
 refine MZ fun W hS => ?_
 go_wp2_with fail
 rw [rounds_succ]
 go_upto_region 13 with fail
 refine RL hS ?_
 clear hS
 refine MV ?_
 refine Me (v := .agg (agF [.c (.int .i64 3), .c (.int .i64 (nuV (tkS 8 (tkS 8 (tkS 8 (tkS 32 (tkS 32 (txS 16 (tkS 1 (l, 0)))))))))), .a 32 0, .c (str [])])) (H' := [.b p11_2 #[str (tkS 8 (tkS 8 (tkS 8 (tkS 8 (tkS 32 (tkS 32 (txS 16 (tkS 1 (l, 0))))))))).1, .int .i64 (tkS 8 (tkS 8 (tkS 8 (tkS 8 (tkS 32 (tkS 32 (txS 16 (tkS 1 (l, 0))))))))).2] 105, .b p7_5 (agF [.c (.int .i64 4), .c (.int .i64 0), .a 32 (suV (tkS 32 (txS 16 (tkS 1 (l, 0))))), .c (str [])]) 107, .b p6_4 (agF [.c (.int .i64 4), .c (.int .i64 0), .a 32 (suV (txS 16 (tkS 1 (l, 0)))), .c (str [])]) 107, .b p5_3 (agF [.c (.int .i64 (byV (l, 0) : Int)), .c (str (txV 16 (tkS 1 (l, 0)))), .c (str (lb 32 (suV (txS 16 (tkS 1 (l, 0)))))), .c (str (lb 32 (suV (tkS 32 (txS 16 (tkS 1 (l, 0))))))), .c (.int .i64 (nuV (tkS 32 (tkS 32 (txS 16 (tkS 1 (l, 0))))))), .c (.int .i64 (nuV (tkS 8 (tkS 32 (tkS 32 (txS 16 (tkS 1 (l, 0)))))))), .c (.int .i64 (nuV (tkS 8 (tkS 8 (tkS 32 (tkS 32 (txS 16 (tkS 1 (l, 0))))))))), .c (.int .i64 0), .c (str []), .c (str []), .c (.int .i64 0), .c (.int .i64 0), .c (str [])]) 24, .b p2_1 (agF [.c (.int .i64 0), .c (str []), .c (str []), .c (str []), .c (.int .i64 0), .c (.int .i64 0), .c (.int .i64 0), .c (.int .i64 0), .c (str []), .c (str []), .c (.int .i64 0), .c (.int .i64 0), .c (str [])]) 24]) (fun W hS => callF [0] [1, 2, 3, 4] hS (fun hT => dnext_3 (s := tkS 8 (tkS 8 (tkS 8 (tkS 32 (tkS 32 (txS 16 (tkS 1 (l, 0)))))))) 0 W hT) ⟨.inr ⟨rfl, rfl⟩, trivial⟩) ?_
 refine MW ?_ (v := .int .i64 (nuV (tkS 8 (tkS 8 (tkS 8 (tkS 32 (tkS 32 (txS 16 (tkS 1 (l, 0)))))))))) (hv := by intro W; kernel_rfl)
 refine MV ?_
 refine MP 3 (v := .int .i64 (nuV (tkS 8 (tkS 8 (tkS 8 (tkS 32 (tkS 32 (txS 16 (tkS 1 (l, 0)))))))))) (cs' := agF [.c (.int .i64 (byV (l, 0) : Int)), .c (str (txV 16 (tkS 1 (l, 0)))), .c (str (lb 32 (suV (txS 16 (tkS 1 (l, 0)))))), .c (str (lb 32 (suV (tkS 32 (txS 16 (tkS 1 (l, 0))))))), .c (.int .i64 (nuV (tkS 32 (tkS 32 (txS 16 (tkS 1 (l, 0))))))), .c (.int .i64 (nuV (tkS 8 (tkS 32 (tkS 32 (txS 16 (tkS 1 (l, 0)))))))), .c (.int .i64 (nuV (tkS 8 (tkS 8 (tkS 32 (tkS 32 (txS 16 (tkS 1 (l, 0))))))))), .c (.int .i64 (nuV (tkS 8 (tkS 8 (tkS 8 (tkS 32 (tkS 32 (txS 16 (tkS 1 (l, 0)))))))))), .c (str []), .c (str []), .c (.int .i64 0), .c (.int .i64 0), .c (str [])]) ?_ (hs := by rw [agF_size]; show 7 < 13; decide) (hc := agF_setc 7)
 refine MZ fun W hS => ?_
 by_cases h0 : enV (tkS 8 (tkS 8 (tkS 8 (tkS 8 (tkS 32 (tkS 32 (txS 16 (tkS 1 (l, 0))))))))) = 0
 ·
  have _f := h0
  go_upto_region 38 with fail
  refine RL hS ?_
  clear hS
  refine MV ?_
  refine Me (v := .int .i64 (enV (tkS 8 (tkS 8 (tkS 8 (tkS 8 (tkS 32 (tkS 32 (txS 16 (tkS 1 (l, 0))))))))))) (H' := [.b p11_2 #[str (tkS 8 (tkS 8 (tkS 8 (tkS 8 (tkS 32 (tkS 32 (txS 16 (tkS 1 (l, 0))))))))).1, .int .i64 (tkS 8 (tkS 8 (tkS 8 (tkS 8 (tkS 32 (tkS 32 (txS 16 (tkS 1 (l, 0))))))))).2] 105, .b p7_5 (agF [.c (.int .i64 4), .c (.int .i64 0), .a 32 (suV (tkS 32 (txS 16 (tkS 1 (l, 0))))), .c (str [])]) 107, .b p6_4 (agF [.c (.int .i64 4), .c (.int .i64 0), .a 32 (suV (txS 16 (tkS 1 (l, 0)))), .c (str [])]) 107, .b p5_3 (agF [.c (.int .i64 (byV (l, 0) : Int)), .c (str (txV 16 (tkS 1 (l, 0)))), .c (str (lb 32 (suV (txS 16 (tkS 1 (l, 0)))))), .c (str (lb 32 (suV (tkS 32 (txS 16 (tkS 1 (l, 0))))))), .c (.int .i64 (nuV (tkS 32 (tkS 32 (txS 16 (tkS 1 (l, 0))))))), .c (.int .i64 (nuV (tkS 8 (tkS 32 (tkS 32 (txS 16 (tkS 1 (l, 0)))))))), .c (.int .i64 (nuV (tkS 8 (tkS 8 (tkS 32 (tkS 32 (txS 16 (tkS 1 (l, 0))))))))), .c (.int .i64 (nuV (tkS 8 (tkS 8 (tkS 8 (tkS 32 (tkS 32 (txS 16 (tkS 1 (l, 0)))))))))), .c (str []), .c (str []), .c (.int .i64 0), .c (.int .i64 0), .c (str [])]) 24, .b p2_1 (agF [.c (.int .i64 0), .c (str []), .c (str []), .c (str []), .c (.int .i64 0), .c (.int .i64 0), .c (.int .i64 0), .c (.int .i64 0), .c (str []), .c (str []), .c (.int .i64 0), .c (.int .i64 0), .c (str [])]) 24]) (fun W hS => callF [0] [1, 2, 3, 4] hS (fun hT => dend_l (l := (tkS 8 (tkS 8 (tkS 8 (tkS 8 (tkS 32 (tkS 32 (txS 16 (tkS 1 (l, 0))))))))).1) (e0 := (tkS 8 (tkS 8 (tkS 8 (tkS 8 (tkS 32 (tkS 32 (txS 16 (tkS 1 (l, 0))))))))).2) W hT) ⟨.inr ⟨rfl, rfl⟩, trivial⟩) ?_
  refine MW ?_ (v := .bool false) (hv := by intro W; go_simp; first | done | exact h0)
  refine MZ fun W hS => ?_
  go_upto_region 40 with fail
  refine RL hS ?_
  clear hS
  refine ML 3 ?_ (hs := by rw [agF_size]; kernel_rfl)
  refine MR 4 ?_ (hz := by rw [agF_size]; kernel_rfl) (hs := by first | (rw [agF_size, agF_size]; rfl) | rfl) (h1 := by exact (agF_one ⟨rfl, rfl, rfl, rfl, rfl, rfl, rfl, rfl, rfl, rfl, rfl, rfl, rfl, trivial⟩))
  refine MW ?_ (v := .bool true)
  refine MZ fun W hS => ?_
  have hk := Hk.out
  go_wp2
  clear hk
  exact bodyPost_ret (res_c2 rfl rfl rfl (hS.blk (i := 4) rfl) (by kernel_rfl) (by rw [agF_size]; kernel_rfl)) rfl (have hk := Hk.out; .inr ⟨by unfold aQ; rw [rdQ_1 hk]; exact h0, by unfold aQ; rw [rdQ_1 hk, drF_1]; rfl; exact (show ((byV (l, 0) : Nat) : Int) = 1 by omega), hS.ext⟩)
 ·
  have _f := h0
  go_upto_region 38 with fail
  refine RL hS ?_
  clear hS
  refine MV ?_
  refine Me (v := .int .i64 (enV (tkS 8 (tkS 8 (tkS 8 (tkS 8 (tkS 32 (tkS 32 (txS 16 (tkS 1 (l, 0))))))))))) (H' := [.b p11_2 #[str (tkS 8 (tkS 8 (tkS 8 (tkS 8 (tkS 32 (tkS 32 (txS 16 (tkS 1 (l, 0))))))))).1, .int .i64 (tkS 8 (tkS 8 (tkS 8 (tkS 8 (tkS 32 (tkS 32 (txS 16 (tkS 1 (l, 0))))))))).2] 105, .b p7_5 (agF [.c (.int .i64 4), .c (.int .i64 0), .a 32 (suV (tkS 32 (txS 16 (tkS 1 (l, 0))))), .c (str [])]) 107, .b p6_4 (agF [.c (.int .i64 4), .c (.int .i64 0), .a 32 (suV (txS 16 (tkS 1 (l, 0)))), .c (str [])]) 107, .b p5_3 (agF [.c (.int .i64 (byV (l, 0) : Int)), .c (str (txV 16 (tkS 1 (l, 0)))), .c (str (lb 32 (suV (txS 16 (tkS 1 (l, 0)))))), .c (str (lb 32 (suV (tkS 32 (txS 16 (tkS 1 (l, 0))))))), .c (.int .i64 (nuV (tkS 32 (tkS 32 (txS 16 (tkS 1 (l, 0))))))), .c (.int .i64 (nuV (tkS 8 (tkS 32 (tkS 32 (txS 16 (tkS 1 (l, 0)))))))), .c (.int .i64 (nuV (tkS 8 (tkS 8 (tkS 32 (tkS 32 (txS 16 (tkS 1 (l, 0))))))))), .c (.int .i64 (nuV (tkS 8 (tkS 8 (tkS 8 (tkS 32 (tkS 32 (txS 16 (tkS 1 (l, 0)))))))))), .c (str []), .c (str []), .c (.int .i64 0), .c (.int .i64 0), .c (str [])]) 24, .b p2_1 (agF [.c (.int .i64 0), .c (str []), .c (str []), .c (str []), .c (.int .i64 0), .c (.int .i64 0), .c (.int .i64 0), .c (.int .i64 0), .c (str []), .c (str []), .c (.int .i64 0), .c (.int .i64 0), .c (str [])]) 24]) (fun W hS => callF [0] [1, 2, 3, 4] hS (fun hT => dend_l (l := (tkS 8 (tkS 8 (tkS 8 (tkS 8 (tkS 32 (tkS 32 (txS 16 (tkS 1 (l, 0))))))))).1) (e0 := (tkS 8 (tkS 8 (tkS 8 (tkS 8 (tkS 32 (tkS 32 (txS 16 (tkS 1 (l, 0))))))))).2) W hT) ⟨.inr ⟨rfl, rfl⟩, trivial⟩) ?_
  refine MW ?_ (v := .bool true) (hv := by intro W; go_simp; first | done | exact h0)
  refine MZ fun W hS => ?_
  go_upto_region 39 with fail
  refine RL hS ?_
  clear hS
  refine MF (v := .agg (agF [.c (.int .i64 0), .c (str []), .c (str []), .c (str []), .c (.int .i64 0), .c (.int .i64 0), .c (.int .i64 0), .c (.int .i64 0), .c (str []), .c (str []), .c (.int .i64 0), .c (.int .i64 0), .c (str [])])) (fun W hS => run_bld rfl rfl zer_custumalref24_Request plc_custumalref24_Request fill_n) ?_
  refine MR 4 ?_ (hz := by rw [agF_size]; kernel_rfl) (hs := by first | (rw [agF_size, agF_size]; rfl) | rfl) (h1 := by exact (agF_one ⟨rfl, rfl, rfl, rfl, rfl, rfl, rfl, rfl, rfl, rfl, rfl, rfl, rfl, trivial⟩))
  refine MW ?_ (v := .bool false)
  refine MZ fun W hS => ?_
  have hk := Hk.out
  go_wp2
  clear hk
  exact bodyPost_ret (res_c2 rfl rfl rfl (hS.blk (i := 4) rfl) (by kernel_rfl) (by rw [agF_size]; kernel_rfl)) rfl (have hk := Hk.out; .inl ⟨by unfold aQ; rw [rdQ_1 hk]; exact h0, rfl, hS.ext⟩)
theorem dasked_2 {l : List UInt8} (hk : byV (l, 0) = 2) (w : World) :
  Calls Try.prog 13 #[str l] w fun e w' => (enV (aQ l).2 ≠ 0 ∧ Ret (.tuple #[.agg zRR, .bool false]) w w' e) ∨ (enV (aQ l).2 = 0 ∧ Ret (.tuple #[.agg (drF (aQ l).1), .bool true]) w w' e) := by
 have Hk := Lib.hid hk
 have hk1 : byV (l, 0) ≤ 2 := by omega
 have hk2 : 2 ≤ byV (l, 0) := by omega
 clear hk
 have hS := SH.nil [] w
 go_enter Try.func13, Try.ntmps13
 go_upto_region 0 with fail
 refine RL hS ?_
 clear hS
 refine MN (z := agF [.c (.int .i64 0), .c (str []), .c (str []), .c (str []), .c (.int .i64 0), .c (.int .i64 0), .c (.int .i64 0), .c (.int .i64 0), .c (str []), .c (str []), .c (.int .i64 0), .c (.int .i64 0), .c (str [])]) (t := 24) ?_
 intro p2_1
 refine MW ?_ (v := .bool false)
 refine MZ fun W hS => ?_
 go_upto_region 1 with fail
 refine RL hS ?_
 clear hS
 refine MV ?_
 refine MF (v := .agg (agF [.c (str l), .c (.int .i64 0)])) (fun W hS => run_bld rfl rfl zer_custumalref04_Reader plc_custumalref04_Reader (fill_c fill_n (l' := [.c (str l), .c (.int .i64 0)]) (m := [.c (str l)]) (hv := rfl) (hs := agF_setp 0 1) (hp := rfl) (hn := rfl) (hb := by show 0 + 1 ≤ 2; decide))) ?_
 refine MN (z := agF [.c (str l), .c (.int .i64 0)]) (t := 105) ?_
 intro p11_2
 refine MT (H' := [.b p11_2 #[str (l, 0).1, .int .i64 (l, 0).2] 105, .b p2_1 (agF [.c (.int .i64 0), .c (str []), .c (str []), .c (str []), .c (.int .i64 0), .c (.int .i64 0), .c (.int .i64 0), .c (.int .i64 0), .c (str []), .c (str []), .c (.int .i64 0), .c (.int .i64 0), .c (str [])]) 24]) (fun W hS => hS) ?_
 refine MV ?_
 refine MZ fun W hS => ?_
 go_upto_region 2 with fail
 refine RL hS ?_
 clear hS
 refine MV ?_
 refine Me (v := .agg (agF [.c (.int .i64 1), .c (.int .i64 (byV (l, 0) : Int)), .a 32 0, .c (str [])])) (H' := [.b p11_2 #[str (tkS 1 (l, 0)).1, .int .i64 (tkS 1 (l, 0)).2] 105, .b p2_1 (agF [.c (.int .i64 0), .c (str []), .c (str []), .c (str []), .c (.int .i64 0), .c (.int .i64 0), .c (.int .i64 0), .c (.int .i64 0), .c (str []), .c (str []), .c (.int .i64 0), .c (.int .i64 0), .c (str [])]) 24]) (fun W hS => callF [0] [1] hS (fun hT => dnext_1 (s := (l, 0)) 0 W hT) ⟨.inr ⟨rfl, rfl⟩, trivial⟩) ?_
 refine MW ?_ (v := .int .i64 (byV (l, 0) : Int)) (hv := by intro W; kernel_rfl)
 refine MF (v := .agg (agF [.c (.int .i64 (byV (l, 0) : Int)), .c (str []), .c (str []), .c (str []), .c (.int .i64 0), .c (.int .i64 0), .c (.int .i64 0), .c (.int .i64 0), .c (str []), .c (str []), .c (.int .i64 0), .c (.int .i64 0), .c (str [])])) (fun W hS => run_bld rfl rfl zer_custumalref24_Request plc_custumalref24_Request (fill_c fill_n (l' := [.c (.int .i64 (byV (l, 0) : Int)), .c (str []), .c (str []), .c (str []), .c (.int .i64 0), .c (.int .i64 0), .c (.int .i64 0), .c (.int .i64 0), .c (str []), .c (str []), .c (.int .i64 0), .c (.int .i64 0), .c (str [])]) (m := [.c (.int .i64 (byV (l, 0) : Int))]) (hv := rfl) (hs := agF_setp 0 1) (hp := rfl) (hn := rfl) (hb := by show 0 + 1 ≤ 13; decide))) ?_
 refine MN (z := agF [.c (.int .i64 0), .c (str []), .c (str []), .c (str []), .c (.int .i64 0), .c (.int .i64 0), .c (.int .i64 0), .c (.int .i64 0), .c (str []), .c (str []), .c (.int .i64 0), .c (.int .i64 0), .c (str [])]) (t := 24) ?_
 intro p5_3
 refine MR 0 ?_ (hz := by rw [agF_size]; kernel_rfl) (hs := by first | (rw [agF_size, agF_size]; rfl) | rfl) (h1 := by exact (agF_one ⟨rfl, rfl, rfl, rfl, rfl, rfl, rfl, rfl, rfl, rfl, rfl, rfl, rfl, trivial⟩))
 refine MZ fun W hS => ?_
 go_upto_region 3 with fail
 refine RL hS ?_
 clear hS
 refine MV ?_
 refine MG 0 ?_ (v := .int .i64 (byV (l, 0) : Int)) (hj := (agF_cel 0))
 refine MZ fun W hS => ?_
 go_upto_region 5 with fail
 refine RL hS ?_
 clear hS
 refine MW ?_ (v := .bool false) (hv := by intro W; go_simp; first | done | omega | assumption)
 refine MW ?_ (v := .bool false)
 refine MZ fun W hS => ?_
 go_upto_region 14 with fail
 refine RL hS ?_
 clear hS
 refine MW ?_ (v := .bool false) (hv := by intro W; go_simp; first | done | omega | assumption)
 refine MW ?_ (v := .bool false)
 refine MZ fun W hS => ?_
 go_upto_region 18 with fail
 refine RL hS ?_
 clear hS
 refine MW ?_ (v := .bool false) (hv := by intro W; go_simp; first | done | omega | assumption)
 refine MW ?_ (v := .bool false)
 refine MZ fun W hS => ?_
 go_upto_region 19 with fail
 refine RL hS ?_
 clear hS
 refine MW ?_ (v := .bool false) (hv := by intro W; go_simp; first | done | omega | assumption)
 refine MW ?_ (v := .bool false)
 refine MZ fun W hS => ?_
 go_upto_region 24 with fail
 refine RL hS ?_
 clear hS
 refine MW ?_ (v := .bool false) (hv := by intro W; go_simp; first | done | omega | assumption)
 refine MW ?_ (v := .bool false)
 refine MZ fun W hS => ?_
 go_upto_region 25 with fail
 refine RL hS ?_
 clear hS
 refine MW ?_ (v := .bool false) (hv := by intro W; go_simp; first | done | omega | assumption)
 refine MW ?_ (v := .bool false)
 refine MZ fun W hS => ?_
 go_upto_region 30 with fail
 refine RL hS ?_
 clear hS
 refine MW ?_ (v := .bool false) (hv := by intro W; go_simp; first | done | omega | assumption)
 refine MW ?_ (v := .bool false)
 refine MZ fun W hS => ?_
 go_upto_region 32 with fail
 refine RL hS ?_
 clear hS
 refine MW ?_ (v := .bool true) (hv := by intro W; go_simp; first | done | omega | assumption)
 refine MW ?_ (v := .bool true)
 refine MZ fun W hS => ?_
 go_upto_region 37 with fail
 refine RL hS ?_
 clear hS
 refine MV ?_
 refine Me (v := .agg (agF [.c (.int .i64 5), .c (.int .i64 0), .a 32 0, .c (str (txV 16 (tkS 1 (l, 0))))])) (H' := [.b p11_2 #[str (txS 16 (tkS 1 (l, 0))).1, .int .i64 (txS 16 (tkS 1 (l, 0))).2] 105, .b p5_3 (agF [.c (.int .i64 (byV (l, 0) : Int)), .c (str []), .c (str []), .c (str []), .c (.int .i64 0), .c (.int .i64 0), .c (.int .i64 0), .c (.int .i64 0), .c (str []), .c (str []), .c (.int .i64 0), .c (.int .i64 0), .c (str [])]) 24, .b p2_1 (agF [.c (.int .i64 0), .c (str []), .c (str []), .c (str []), .c (.int .i64 0), .c (.int .i64 0), .c (.int .i64 0), .c (.int .i64 0), .c (str []), .c (str []), .c (.int .i64 0), .c (.int .i64 0), .c (str [])]) 24]) (fun W hS => callF [1] [0, 2] hS (fun hT => dnext_5 (s := tkS 1 (l, 0)) 16 W hT) ⟨.inr ⟨rfl, rfl⟩, trivial⟩) ?_
 refine MW ?_ (v := str (txV 16 (tkS 1 (l, 0)))) (hv := by intro W; kernel_rfl)
 refine MV ?_
 refine MP 1 (v := str (txV 16 (tkS 1 (l, 0)))) (cs' := agF [.c (.int .i64 (byV (l, 0) : Int)), .c (str (txV 16 (tkS 1 (l, 0)))), .c (str []), .c (str []), .c (.int .i64 0), .c (.int .i64 0), .c (.int .i64 0), .c (.int .i64 0), .c (str []), .c (str []), .c (.int .i64 0), .c (.int .i64 0), .c (str [])]) ?_ (hs := by rw [agF_size]; show 1 < 13; decide) (hc := agF_setc 1)
 refine MZ fun W hS => ?_
 by_cases h0 : enV (txS 16 (tkS 1 (l, 0))) = 0
 ·
  have _f := h0
  go_upto_region 38 with fail
  refine RL hS ?_
  clear hS
  refine MV ?_
  refine Me (v := .int .i64 (enV (txS 16 (tkS 1 (l, 0))))) (H' := [.b p11_2 #[str (txS 16 (tkS 1 (l, 0))).1, .int .i64 (txS 16 (tkS 1 (l, 0))).2] 105, .b p5_3 (agF [.c (.int .i64 (byV (l, 0) : Int)), .c (str (txV 16 (tkS 1 (l, 0)))), .c (str []), .c (str []), .c (.int .i64 0), .c (.int .i64 0), .c (.int .i64 0), .c (.int .i64 0), .c (str []), .c (str []), .c (.int .i64 0), .c (.int .i64 0), .c (str [])]) 24, .b p2_1 (agF [.c (.int .i64 0), .c (str []), .c (str []), .c (str []), .c (.int .i64 0), .c (.int .i64 0), .c (.int .i64 0), .c (.int .i64 0), .c (str []), .c (str []), .c (.int .i64 0), .c (.int .i64 0), .c (str [])]) 24]) (fun W hS => callF [0] [1, 2] hS (fun hT => dend_l (l := (txS 16 (tkS 1 (l, 0))).1) (e0 := (txS 16 (tkS 1 (l, 0))).2) W hT) ⟨.inr ⟨rfl, rfl⟩, trivial⟩) ?_
  refine MW ?_ (v := .bool false) (hv := by intro W; go_simp; first | done | exact h0)
  refine MZ fun W hS => ?_
  go_upto_region 40 with fail
  refine RL hS ?_
  clear hS
  refine ML 1 ?_ (hs := by rw [agF_size]; kernel_rfl)
  refine MR 2 ?_ (hz := by rw [agF_size]; kernel_rfl) (hs := by first | (rw [agF_size, agF_size]; rfl) | rfl) (h1 := by exact (agF_one ⟨rfl, rfl, rfl, rfl, rfl, rfl, rfl, rfl, rfl, rfl, rfl, rfl, rfl, trivial⟩))
  refine MW ?_ (v := .bool true)
  refine MZ fun W hS => ?_
  have hk := Hk.out
  go_wp2
  clear hk
  exact bodyPost_ret (res_c2 rfl rfl rfl (hS.blk (i := 2) rfl) (by kernel_rfl) (by rw [agF_size]; kernel_rfl)) rfl (have hk := Hk.out; .inr ⟨by unfold aQ; rw [rdQ_0 (by omega)]; exact h0, by unfold aQ; rw [rdQ_0 (by omega), drF_n]; rfl; exact (show ¬ ((byV (l, 0) : Nat) : Int) = 1 by omega), hS.ext⟩)
 ·
  have _f := h0
  go_upto_region 38 with fail
  refine RL hS ?_
  clear hS
  refine MV ?_
  refine Me (v := .int .i64 (enV (txS 16 (tkS 1 (l, 0))))) (H' := [.b p11_2 #[str (txS 16 (tkS 1 (l, 0))).1, .int .i64 (txS 16 (tkS 1 (l, 0))).2] 105, .b p5_3 (agF [.c (.int .i64 (byV (l, 0) : Int)), .c (str (txV 16 (tkS 1 (l, 0)))), .c (str []), .c (str []), .c (.int .i64 0), .c (.int .i64 0), .c (.int .i64 0), .c (.int .i64 0), .c (str []), .c (str []), .c (.int .i64 0), .c (.int .i64 0), .c (str [])]) 24, .b p2_1 (agF [.c (.int .i64 0), .c (str []), .c (str []), .c (str []), .c (.int .i64 0), .c (.int .i64 0), .c (.int .i64 0), .c (.int .i64 0), .c (str []), .c (str []), .c (.int .i64 0), .c (.int .i64 0), .c (str [])]) 24]) (fun W hS => callF [0] [1, 2] hS (fun hT => dend_l (l := (txS 16 (tkS 1 (l, 0))).1) (e0 := (txS 16 (tkS 1 (l, 0))).2) W hT) ⟨.inr ⟨rfl, rfl⟩, trivial⟩) ?_
  refine MW ?_ (v := .bool true) (hv := by intro W; go_simp; first | done | exact h0)
  refine MZ fun W hS => ?_
  go_upto_region 39 with fail
  refine RL hS ?_
  clear hS
  refine MF (v := .agg (agF [.c (.int .i64 0), .c (str []), .c (str []), .c (str []), .c (.int .i64 0), .c (.int .i64 0), .c (.int .i64 0), .c (.int .i64 0), .c (str []), .c (str []), .c (.int .i64 0), .c (.int .i64 0), .c (str [])])) (fun W hS => run_bld rfl rfl zer_custumalref24_Request plc_custumalref24_Request fill_n) ?_
  refine MR 2 ?_ (hz := by rw [agF_size]; kernel_rfl) (hs := by first | (rw [agF_size, agF_size]; rfl) | rfl) (h1 := by exact (agF_one ⟨rfl, rfl, rfl, rfl, rfl, rfl, rfl, rfl, rfl, rfl, rfl, rfl, rfl, trivial⟩))
  refine MW ?_ (v := .bool false)
  refine MZ fun W hS => ?_
  have hk := Hk.out
  go_wp2
  clear hk
  exact bodyPost_ret (res_c2 rfl rfl rfl (hS.blk (i := 2) rfl) (by kernel_rfl) (by rw [agF_size]; kernel_rfl)) rfl (have hk := Hk.out; .inl ⟨by unfold aQ; rw [rdQ_0 (by omega)]; exact h0, rfl, hS.ext⟩)
theorem dasked_3 {l : List UInt8} (hk : byV (l, 0) = 3) (w : World) :
  Calls Try.prog 13 #[str l] w fun e w' => (enV (aQ l).2 ≠ 0 ∧ Ret (.tuple #[.agg zRR, .bool false]) w w' e) ∨ (enV (aQ l).2 = 0 ∧ Ret (.tuple #[.agg (drF (aQ l).1), .bool true]) w w' e) := by
 have Hk := Lib.hid hk
 have hk1 : byV (l, 0) ≤ 3 := by omega
 have hk2 : 3 ≤ byV (l, 0) := by omega
 clear hk
 have hS := SH.nil [] w
 go_enter Try.func13, Try.ntmps13
 go_upto_region 0 with fail
 refine RL hS ?_
 clear hS
 refine MN (z := agF [.c (.int .i64 0), .c (str []), .c (str []), .c (str []), .c (.int .i64 0), .c (.int .i64 0), .c (.int .i64 0), .c (.int .i64 0), .c (str []), .c (str []), .c (.int .i64 0), .c (.int .i64 0), .c (str [])]) (t := 24) ?_
 intro p2_1
 refine MW ?_ (v := .bool false)
 refine MZ fun W hS => ?_
 go_upto_region 1 with fail
 refine RL hS ?_
 clear hS
 refine MV ?_
 refine MF (v := .agg (agF [.c (str l), .c (.int .i64 0)])) (fun W hS => run_bld rfl rfl zer_custumalref04_Reader plc_custumalref04_Reader (fill_c fill_n (l' := [.c (str l), .c (.int .i64 0)]) (m := [.c (str l)]) (hv := rfl) (hs := agF_setp 0 1) (hp := rfl) (hn := rfl) (hb := by show 0 + 1 ≤ 2; decide))) ?_
 refine MN (z := agF [.c (str l), .c (.int .i64 0)]) (t := 105) ?_
 intro p11_2
 refine MT (H' := [.b p11_2 #[str (l, 0).1, .int .i64 (l, 0).2] 105, .b p2_1 (agF [.c (.int .i64 0), .c (str []), .c (str []), .c (str []), .c (.int .i64 0), .c (.int .i64 0), .c (.int .i64 0), .c (.int .i64 0), .c (str []), .c (str []), .c (.int .i64 0), .c (.int .i64 0), .c (str [])]) 24]) (fun W hS => hS) ?_
 refine MV ?_
 refine MZ fun W hS => ?_
 go_upto_region 2 with fail
 refine RL hS ?_
 clear hS
 refine MV ?_
 refine Me (v := .agg (agF [.c (.int .i64 1), .c (.int .i64 (byV (l, 0) : Int)), .a 32 0, .c (str [])])) (H' := [.b p11_2 #[str (tkS 1 (l, 0)).1, .int .i64 (tkS 1 (l, 0)).2] 105, .b p2_1 (agF [.c (.int .i64 0), .c (str []), .c (str []), .c (str []), .c (.int .i64 0), .c (.int .i64 0), .c (.int .i64 0), .c (.int .i64 0), .c (str []), .c (str []), .c (.int .i64 0), .c (.int .i64 0), .c (str [])]) 24]) (fun W hS => callF [0] [1] hS (fun hT => dnext_1 (s := (l, 0)) 0 W hT) ⟨.inr ⟨rfl, rfl⟩, trivial⟩) ?_
 refine MW ?_ (v := .int .i64 (byV (l, 0) : Int)) (hv := by intro W; kernel_rfl)
 refine MF (v := .agg (agF [.c (.int .i64 (byV (l, 0) : Int)), .c (str []), .c (str []), .c (str []), .c (.int .i64 0), .c (.int .i64 0), .c (.int .i64 0), .c (.int .i64 0), .c (str []), .c (str []), .c (.int .i64 0), .c (.int .i64 0), .c (str [])])) (fun W hS => run_bld rfl rfl zer_custumalref24_Request plc_custumalref24_Request (fill_c fill_n (l' := [.c (.int .i64 (byV (l, 0) : Int)), .c (str []), .c (str []), .c (str []), .c (.int .i64 0), .c (.int .i64 0), .c (.int .i64 0), .c (.int .i64 0), .c (str []), .c (str []), .c (.int .i64 0), .c (.int .i64 0), .c (str [])]) (m := [.c (.int .i64 (byV (l, 0) : Int))]) (hv := rfl) (hs := agF_setp 0 1) (hp := rfl) (hn := rfl) (hb := by show 0 + 1 ≤ 13; decide))) ?_
 refine MN (z := agF [.c (.int .i64 0), .c (str []), .c (str []), .c (str []), .c (.int .i64 0), .c (.int .i64 0), .c (.int .i64 0), .c (.int .i64 0), .c (str []), .c (str []), .c (.int .i64 0), .c (.int .i64 0), .c (str [])]) (t := 24) ?_
 intro p5_3
 refine MR 0 ?_ (hz := by rw [agF_size]; kernel_rfl) (hs := by first | (rw [agF_size, agF_size]; rfl) | rfl) (h1 := by exact (agF_one ⟨rfl, rfl, rfl, rfl, rfl, rfl, rfl, rfl, rfl, rfl, rfl, rfl, rfl, trivial⟩))
 refine MZ fun W hS => ?_
 go_upto_region 3 with fail
 refine RL hS ?_
 clear hS
 refine MV ?_
 refine MG 0 ?_ (v := .int .i64 (byV (l, 0) : Int)) (hj := (agF_cel 0))
 refine MZ fun W hS => ?_
 go_upto_region 5 with fail
 refine RL hS ?_
 clear hS
 refine MW ?_ (v := .bool false) (hv := by intro W; go_simp; first | done | omega | assumption)
 refine MW ?_ (v := .bool false)
 refine MZ fun W hS => ?_
 go_upto_region 14 with fail
 refine RL hS ?_
 clear hS
 refine MW ?_ (v := .bool false) (hv := by intro W; go_simp; first | done | omega | assumption)
 refine MW ?_ (v := .bool false)
 refine MZ fun W hS => ?_
 go_upto_region 18 with fail
 refine RL hS ?_
 clear hS
 refine MW ?_ (v := .bool false) (hv := by intro W; go_simp; first | done | omega | assumption)
 refine MW ?_ (v := .bool false)
 refine MZ fun W hS => ?_
 go_upto_region 19 with fail
 refine RL hS ?_
 clear hS
 refine MW ?_ (v := .bool false) (hv := by intro W; go_simp; first | done | omega | assumption)
 refine MW ?_ (v := .bool false)
 refine MZ fun W hS => ?_
 go_upto_region 24 with fail
 refine RL hS ?_
 clear hS
 refine MW ?_ (v := .bool false) (hv := by intro W; go_simp; first | done | omega | assumption)
 refine MW ?_ (v := .bool false)
 refine MZ fun W hS => ?_
 go_upto_region 25 with fail
 refine RL hS ?_
 clear hS
 refine MW ?_ (v := .bool false) (hv := by intro W; go_simp; first | done | omega | assumption)
 refine MW ?_ (v := .bool false)
 refine MZ fun W hS => ?_
 go_upto_region 30 with fail
 refine RL hS ?_
 clear hS
 refine MW ?_ (v := .bool false) (hv := by intro W; go_simp; first | done | omega | assumption)
 refine MW ?_ (v := .bool false)
 refine MZ fun W hS => ?_
 go_upto_region 32 with fail
 refine RL hS ?_
 clear hS
 refine MW ?_ (v := .bool false) (hv := by intro W; go_simp; first | done | omega | assumption)
 refine MW ?_ (v := .bool false)
 refine MZ fun W hS => ?_
 go_upto_region 33 with fail
 refine RL hS ?_
 clear hS
 refine MW ?_ (v := .bool true) (hv := by intro W; go_simp; first | done | omega | assumption)
 refine MW ?_ (v := .bool true)
 refine MZ fun W hS => ?_
 go_upto_region 37 with fail
 refine RL hS ?_
 clear hS
 refine MV ?_
 refine Me (v := .agg (agF [.c (.int .i64 5), .c (.int .i64 0), .a 32 0, .c (str (txV 16 (tkS 1 (l, 0))))])) (H' := [.b p11_2 #[str (txS 16 (tkS 1 (l, 0))).1, .int .i64 (txS 16 (tkS 1 (l, 0))).2] 105, .b p5_3 (agF [.c (.int .i64 (byV (l, 0) : Int)), .c (str []), .c (str []), .c (str []), .c (.int .i64 0), .c (.int .i64 0), .c (.int .i64 0), .c (.int .i64 0), .c (str []), .c (str []), .c (.int .i64 0), .c (.int .i64 0), .c (str [])]) 24, .b p2_1 (agF [.c (.int .i64 0), .c (str []), .c (str []), .c (str []), .c (.int .i64 0), .c (.int .i64 0), .c (.int .i64 0), .c (.int .i64 0), .c (str []), .c (str []), .c (.int .i64 0), .c (.int .i64 0), .c (str [])]) 24]) (fun W hS => callF [1] [0, 2] hS (fun hT => dnext_5 (s := tkS 1 (l, 0)) 16 W hT) ⟨.inr ⟨rfl, rfl⟩, trivial⟩) ?_
 refine MW ?_ (v := str (txV 16 (tkS 1 (l, 0)))) (hv := by intro W; kernel_rfl)
 refine MV ?_
 refine MP 1 (v := str (txV 16 (tkS 1 (l, 0)))) (cs' := agF [.c (.int .i64 (byV (l, 0) : Int)), .c (str (txV 16 (tkS 1 (l, 0)))), .c (str []), .c (str []), .c (.int .i64 0), .c (.int .i64 0), .c (.int .i64 0), .c (.int .i64 0), .c (str []), .c (str []), .c (.int .i64 0), .c (.int .i64 0), .c (str [])]) ?_ (hs := by rw [agF_size]; show 1 < 13; decide) (hc := agF_setc 1)
 refine MZ fun W hS => ?_
 by_cases h0 : enV (txS 16 (tkS 1 (l, 0))) = 0
 ·
  have _f := h0
  go_upto_region 38 with fail
  refine RL hS ?_
  clear hS
  refine MV ?_
  refine Me (v := .int .i64 (enV (txS 16 (tkS 1 (l, 0))))) (H' := [.b p11_2 #[str (txS 16 (tkS 1 (l, 0))).1, .int .i64 (txS 16 (tkS 1 (l, 0))).2] 105, .b p5_3 (agF [.c (.int .i64 (byV (l, 0) : Int)), .c (str (txV 16 (tkS 1 (l, 0)))), .c (str []), .c (str []), .c (.int .i64 0), .c (.int .i64 0), .c (.int .i64 0), .c (.int .i64 0), .c (str []), .c (str []), .c (.int .i64 0), .c (.int .i64 0), .c (str [])]) 24, .b p2_1 (agF [.c (.int .i64 0), .c (str []), .c (str []), .c (str []), .c (.int .i64 0), .c (.int .i64 0), .c (.int .i64 0), .c (.int .i64 0), .c (str []), .c (str []), .c (.int .i64 0), .c (.int .i64 0), .c (str [])]) 24]) (fun W hS => callF [0] [1, 2] hS (fun hT => dend_l (l := (txS 16 (tkS 1 (l, 0))).1) (e0 := (txS 16 (tkS 1 (l, 0))).2) W hT) ⟨.inr ⟨rfl, rfl⟩, trivial⟩) ?_
  refine MW ?_ (v := .bool false) (hv := by intro W; go_simp; first | done | exact h0)
  refine MZ fun W hS => ?_
  go_upto_region 40 with fail
  refine RL hS ?_
  clear hS
  refine ML 1 ?_ (hs := by rw [agF_size]; kernel_rfl)
  refine MR 2 ?_ (hz := by rw [agF_size]; kernel_rfl) (hs := by first | (rw [agF_size, agF_size]; rfl) | rfl) (h1 := by exact (agF_one ⟨rfl, rfl, rfl, rfl, rfl, rfl, rfl, rfl, rfl, rfl, rfl, rfl, rfl, trivial⟩))
  refine MW ?_ (v := .bool true)
  refine MZ fun W hS => ?_
  have hk := Hk.out
  go_wp2
  clear hk
  exact bodyPost_ret (res_c2 rfl rfl rfl (hS.blk (i := 2) rfl) (by kernel_rfl) (by rw [agF_size]; kernel_rfl)) rfl (have hk := Hk.out; .inr ⟨by unfold aQ; rw [rdQ_0 (by omega)]; exact h0, by unfold aQ; rw [rdQ_0 (by omega), drF_n]; rfl; exact (show ¬ ((byV (l, 0) : Nat) : Int) = 1 by omega), hS.ext⟩)
 ·
  have _f := h0
  go_upto_region 38 with fail
  refine RL hS ?_
  clear hS
  refine MV ?_
  refine Me (v := .int .i64 (enV (txS 16 (tkS 1 (l, 0))))) (H' := [.b p11_2 #[str (txS 16 (tkS 1 (l, 0))).1, .int .i64 (txS 16 (tkS 1 (l, 0))).2] 105, .b p5_3 (agF [.c (.int .i64 (byV (l, 0) : Int)), .c (str (txV 16 (tkS 1 (l, 0)))), .c (str []), .c (str []), .c (.int .i64 0), .c (.int .i64 0), .c (.int .i64 0), .c (.int .i64 0), .c (str []), .c (str []), .c (.int .i64 0), .c (.int .i64 0), .c (str [])]) 24, .b p2_1 (agF [.c (.int .i64 0), .c (str []), .c (str []), .c (str []), .c (.int .i64 0), .c (.int .i64 0), .c (.int .i64 0), .c (.int .i64 0), .c (str []), .c (str []), .c (.int .i64 0), .c (.int .i64 0), .c (str [])]) 24]) (fun W hS => callF [0] [1, 2] hS (fun hT => dend_l (l := (txS 16 (tkS 1 (l, 0))).1) (e0 := (txS 16 (tkS 1 (l, 0))).2) W hT) ⟨.inr ⟨rfl, rfl⟩, trivial⟩) ?_
  refine MW ?_ (v := .bool true) (hv := by intro W; go_simp; first | done | exact h0)
  refine MZ fun W hS => ?_
  go_upto_region 39 with fail
  refine RL hS ?_
  clear hS
  refine MF (v := .agg (agF [.c (.int .i64 0), .c (str []), .c (str []), .c (str []), .c (.int .i64 0), .c (.int .i64 0), .c (.int .i64 0), .c (.int .i64 0), .c (str []), .c (str []), .c (.int .i64 0), .c (.int .i64 0), .c (str [])])) (fun W hS => run_bld rfl rfl zer_custumalref24_Request plc_custumalref24_Request fill_n) ?_
  refine MR 2 ?_ (hz := by rw [agF_size]; kernel_rfl) (hs := by first | (rw [agF_size, agF_size]; rfl) | rfl) (h1 := by exact (agF_one ⟨rfl, rfl, rfl, rfl, rfl, rfl, rfl, rfl, rfl, rfl, rfl, rfl, rfl, trivial⟩))
  refine MW ?_ (v := .bool false)
  refine MZ fun W hS => ?_
  have hk := Hk.out
  go_wp2
  clear hk
  exact bodyPost_ret (res_c2 rfl rfl rfl (hS.blk (i := 2) rfl) (by kernel_rfl) (by rw [agF_size]; kernel_rfl)) rfl (have hk := Hk.out; .inl ⟨by unfold aQ; rw [rdQ_0 (by omega)]; exact h0, rfl, hS.ext⟩)
theorem dasked_4 {l : List UInt8} (hk : byV (l, 0) = 4) (w : World) :
  Calls Try.prog 13 #[str l] w fun e w' => (enV (aQ l).2 ≠ 0 ∧ Ret (.tuple #[.agg zRR, .bool false]) w w' e) ∨ (enV (aQ l).2 = 0 ∧ Ret (.tuple #[.agg (drF (aQ l).1), .bool true]) w w' e) := by
 have Hk := Lib.hid hk
 have hk1 : byV (l, 0) ≤ 4 := by omega
 have hk2 : 4 ≤ byV (l, 0) := by omega
 clear hk
 have hS := SH.nil [] w
 go_enter Try.func13, Try.ntmps13
 go_upto_region 0 with fail
 refine RL hS ?_
 clear hS
 refine MN (z := agF [.c (.int .i64 0), .c (str []), .c (str []), .c (str []), .c (.int .i64 0), .c (.int .i64 0), .c (.int .i64 0), .c (.int .i64 0), .c (str []), .c (str []), .c (.int .i64 0), .c (.int .i64 0), .c (str [])]) (t := 24) ?_
 intro p2_1
 refine MW ?_ (v := .bool false)
 refine MZ fun W hS => ?_
 go_upto_region 1 with fail
 refine RL hS ?_
 clear hS
 refine MV ?_
 refine MF (v := .agg (agF [.c (str l), .c (.int .i64 0)])) (fun W hS => run_bld rfl rfl zer_custumalref04_Reader plc_custumalref04_Reader (fill_c fill_n (l' := [.c (str l), .c (.int .i64 0)]) (m := [.c (str l)]) (hv := rfl) (hs := agF_setp 0 1) (hp := rfl) (hn := rfl) (hb := by show 0 + 1 ≤ 2; decide))) ?_
 refine MN (z := agF [.c (str l), .c (.int .i64 0)]) (t := 105) ?_
 intro p11_2
 refine MT (H' := [.b p11_2 #[str (l, 0).1, .int .i64 (l, 0).2] 105, .b p2_1 (agF [.c (.int .i64 0), .c (str []), .c (str []), .c (str []), .c (.int .i64 0), .c (.int .i64 0), .c (.int .i64 0), .c (.int .i64 0), .c (str []), .c (str []), .c (.int .i64 0), .c (.int .i64 0), .c (str [])]) 24]) (fun W hS => hS) ?_
 refine MV ?_
 refine MZ fun W hS => ?_
 go_upto_region 2 with fail
 refine RL hS ?_
 clear hS
 refine MV ?_
 refine Me (v := .agg (agF [.c (.int .i64 1), .c (.int .i64 (byV (l, 0) : Int)), .a 32 0, .c (str [])])) (H' := [.b p11_2 #[str (tkS 1 (l, 0)).1, .int .i64 (tkS 1 (l, 0)).2] 105, .b p2_1 (agF [.c (.int .i64 0), .c (str []), .c (str []), .c (str []), .c (.int .i64 0), .c (.int .i64 0), .c (.int .i64 0), .c (.int .i64 0), .c (str []), .c (str []), .c (.int .i64 0), .c (.int .i64 0), .c (str [])]) 24]) (fun W hS => callF [0] [1] hS (fun hT => dnext_1 (s := (l, 0)) 0 W hT) ⟨.inr ⟨rfl, rfl⟩, trivial⟩) ?_
 refine MW ?_ (v := .int .i64 (byV (l, 0) : Int)) (hv := by intro W; kernel_rfl)
 refine MF (v := .agg (agF [.c (.int .i64 (byV (l, 0) : Int)), .c (str []), .c (str []), .c (str []), .c (.int .i64 0), .c (.int .i64 0), .c (.int .i64 0), .c (.int .i64 0), .c (str []), .c (str []), .c (.int .i64 0), .c (.int .i64 0), .c (str [])])) (fun W hS => run_bld rfl rfl zer_custumalref24_Request plc_custumalref24_Request (fill_c fill_n (l' := [.c (.int .i64 (byV (l, 0) : Int)), .c (str []), .c (str []), .c (str []), .c (.int .i64 0), .c (.int .i64 0), .c (.int .i64 0), .c (.int .i64 0), .c (str []), .c (str []), .c (.int .i64 0), .c (.int .i64 0), .c (str [])]) (m := [.c (.int .i64 (byV (l, 0) : Int))]) (hv := rfl) (hs := agF_setp 0 1) (hp := rfl) (hn := rfl) (hb := by show 0 + 1 ≤ 13; decide))) ?_
 refine MN (z := agF [.c (.int .i64 0), .c (str []), .c (str []), .c (str []), .c (.int .i64 0), .c (.int .i64 0), .c (.int .i64 0), .c (.int .i64 0), .c (str []), .c (str []), .c (.int .i64 0), .c (.int .i64 0), .c (str [])]) (t := 24) ?_
 intro p5_3
 refine MR 0 ?_ (hz := by rw [agF_size]; kernel_rfl) (hs := by first | (rw [agF_size, agF_size]; rfl) | rfl) (h1 := by exact (agF_one ⟨rfl, rfl, rfl, rfl, rfl, rfl, rfl, rfl, rfl, rfl, rfl, rfl, rfl, trivial⟩))
 refine MZ fun W hS => ?_
 go_upto_region 3 with fail
 refine RL hS ?_
 clear hS
 refine MV ?_
 refine MG 0 ?_ (v := .int .i64 (byV (l, 0) : Int)) (hj := (agF_cel 0))
 refine MZ fun W hS => ?_
 go_upto_region 5 with fail
 refine RL hS ?_
 clear hS
 refine MW ?_ (v := .bool false) (hv := by intro W; go_simp; first | done | omega | assumption)
 refine MW ?_ (v := .bool false)
 refine MZ fun W hS => ?_
 go_upto_region 14 with fail
 refine RL hS ?_
 clear hS
 refine MW ?_ (v := .bool false) (hv := by intro W; go_simp; first | done | omega | assumption)
 refine MW ?_ (v := .bool false)
 refine MZ fun W hS => ?_
 go_upto_region 18 with fail
 refine RL hS ?_
 clear hS
 refine MW ?_ (v := .bool false) (hv := by intro W; go_simp; first | done | omega | assumption)
 refine MW ?_ (v := .bool false)
 refine MZ fun W hS => ?_
 go_upto_region 19 with fail
 refine RL hS ?_
 clear hS
 refine MW ?_ (v := .bool false) (hv := by intro W; go_simp; first | done | omega | assumption)
 refine MW ?_ (v := .bool false)
 refine MZ fun W hS => ?_
 go_upto_region 24 with fail
 refine RL hS ?_
 clear hS
 refine MW ?_ (v := .bool false) (hv := by intro W; go_simp; first | done | omega | assumption)
 refine MW ?_ (v := .bool false)
 refine MZ fun W hS => ?_
 go_upto_region 25 with fail
 refine RL hS ?_
 clear hS
 refine MW ?_ (v := .bool false) (hv := by intro W; go_simp; first | done | omega | assumption)
 refine MW ?_ (v := .bool false)
 refine MZ fun W hS => ?_
 go_upto_region 30 with fail
 refine RL hS ?_
 clear hS
 refine MW ?_ (v := .bool false) (hv := by intro W; go_simp; first | done | omega | assumption)
 refine MW ?_ (v := .bool false)
 refine MZ fun W hS => ?_
 go_upto_region 32 with fail
 refine RL hS ?_
 clear hS
 refine MW ?_ (v := .bool false) (hv := by intro W; go_simp; first | done | omega | assumption)
 refine MW ?_ (v := .bool false)
 refine MZ fun W hS => ?_
 go_upto_region 33 with fail
 refine RL hS ?_
 clear hS
 refine MW ?_ (v := .bool false) (hv := by intro W; go_simp; first | done | omega | assumption)
 refine MW ?_ (v := .bool false)
 refine MZ fun W hS => ?_
 go_upto_region 34 with fail
 refine RL hS ?_
 clear hS
 refine MW ?_ (v := .bool true) (hv := by intro W; go_simp; first | done | omega | assumption)
 refine MW ?_ (v := .bool true)
 refine MZ fun W hS => ?_
 go_upto_region 37 with fail
 refine RL hS ?_
 clear hS
 refine MV ?_
 refine Me (v := .agg (agF [.c (.int .i64 5), .c (.int .i64 0), .a 32 0, .c (str (txV 16 (tkS 1 (l, 0))))])) (H' := [.b p11_2 #[str (txS 16 (tkS 1 (l, 0))).1, .int .i64 (txS 16 (tkS 1 (l, 0))).2] 105, .b p5_3 (agF [.c (.int .i64 (byV (l, 0) : Int)), .c (str []), .c (str []), .c (str []), .c (.int .i64 0), .c (.int .i64 0), .c (.int .i64 0), .c (.int .i64 0), .c (str []), .c (str []), .c (.int .i64 0), .c (.int .i64 0), .c (str [])]) 24, .b p2_1 (agF [.c (.int .i64 0), .c (str []), .c (str []), .c (str []), .c (.int .i64 0), .c (.int .i64 0), .c (.int .i64 0), .c (.int .i64 0), .c (str []), .c (str []), .c (.int .i64 0), .c (.int .i64 0), .c (str [])]) 24]) (fun W hS => callF [1] [0, 2] hS (fun hT => dnext_5 (s := tkS 1 (l, 0)) 16 W hT) ⟨.inr ⟨rfl, rfl⟩, trivial⟩) ?_
 refine MW ?_ (v := str (txV 16 (tkS 1 (l, 0)))) (hv := by intro W; kernel_rfl)
 refine MV ?_
 refine MP 1 (v := str (txV 16 (tkS 1 (l, 0)))) (cs' := agF [.c (.int .i64 (byV (l, 0) : Int)), .c (str (txV 16 (tkS 1 (l, 0)))), .c (str []), .c (str []), .c (.int .i64 0), .c (.int .i64 0), .c (.int .i64 0), .c (.int .i64 0), .c (str []), .c (str []), .c (.int .i64 0), .c (.int .i64 0), .c (str [])]) ?_ (hs := by rw [agF_size]; show 1 < 13; decide) (hc := agF_setc 1)
 refine MZ fun W hS => ?_
 by_cases h0 : enV (txS 16 (tkS 1 (l, 0))) = 0
 ·
  have _f := h0
  go_upto_region 38 with fail
  refine RL hS ?_
  clear hS
  refine MV ?_
  refine Me (v := .int .i64 (enV (txS 16 (tkS 1 (l, 0))))) (H' := [.b p11_2 #[str (txS 16 (tkS 1 (l, 0))).1, .int .i64 (txS 16 (tkS 1 (l, 0))).2] 105, .b p5_3 (agF [.c (.int .i64 (byV (l, 0) : Int)), .c (str (txV 16 (tkS 1 (l, 0)))), .c (str []), .c (str []), .c (.int .i64 0), .c (.int .i64 0), .c (.int .i64 0), .c (.int .i64 0), .c (str []), .c (str []), .c (.int .i64 0), .c (.int .i64 0), .c (str [])]) 24, .b p2_1 (agF [.c (.int .i64 0), .c (str []), .c (str []), .c (str []), .c (.int .i64 0), .c (.int .i64 0), .c (.int .i64 0), .c (.int .i64 0), .c (str []), .c (str []), .c (.int .i64 0), .c (.int .i64 0), .c (str [])]) 24]) (fun W hS => callF [0] [1, 2] hS (fun hT => dend_l (l := (txS 16 (tkS 1 (l, 0))).1) (e0 := (txS 16 (tkS 1 (l, 0))).2) W hT) ⟨.inr ⟨rfl, rfl⟩, trivial⟩) ?_
  refine MW ?_ (v := .bool false) (hv := by intro W; go_simp; first | done | exact h0)
  refine MZ fun W hS => ?_
  go_upto_region 40 with fail
  refine RL hS ?_
  clear hS
  refine ML 1 ?_ (hs := by rw [agF_size]; kernel_rfl)
  refine MR 2 ?_ (hz := by rw [agF_size]; kernel_rfl) (hs := by first | (rw [agF_size, agF_size]; rfl) | rfl) (h1 := by exact (agF_one ⟨rfl, rfl, rfl, rfl, rfl, rfl, rfl, rfl, rfl, rfl, rfl, rfl, rfl, trivial⟩))
  refine MW ?_ (v := .bool true)
  refine MZ fun W hS => ?_
  have hk := Hk.out
  go_wp2
  clear hk
  exact bodyPost_ret (res_c2 rfl rfl rfl (hS.blk (i := 2) rfl) (by kernel_rfl) (by rw [agF_size]; kernel_rfl)) rfl (have hk := Hk.out; .inr ⟨by unfold aQ; rw [rdQ_0 (by omega)]; exact h0, by unfold aQ; rw [rdQ_0 (by omega), drF_n]; rfl; exact (show ¬ ((byV (l, 0) : Nat) : Int) = 1 by omega), hS.ext⟩)
 ·
  have _f := h0
  go_upto_region 38 with fail
  refine RL hS ?_
  clear hS
  refine MV ?_
  refine Me (v := .int .i64 (enV (txS 16 (tkS 1 (l, 0))))) (H' := [.b p11_2 #[str (txS 16 (tkS 1 (l, 0))).1, .int .i64 (txS 16 (tkS 1 (l, 0))).2] 105, .b p5_3 (agF [.c (.int .i64 (byV (l, 0) : Int)), .c (str (txV 16 (tkS 1 (l, 0)))), .c (str []), .c (str []), .c (.int .i64 0), .c (.int .i64 0), .c (.int .i64 0), .c (.int .i64 0), .c (str []), .c (str []), .c (.int .i64 0), .c (.int .i64 0), .c (str [])]) 24, .b p2_1 (agF [.c (.int .i64 0), .c (str []), .c (str []), .c (str []), .c (.int .i64 0), .c (.int .i64 0), .c (.int .i64 0), .c (.int .i64 0), .c (str []), .c (str []), .c (.int .i64 0), .c (.int .i64 0), .c (str [])]) 24]) (fun W hS => callF [0] [1, 2] hS (fun hT => dend_l (l := (txS 16 (tkS 1 (l, 0))).1) (e0 := (txS 16 (tkS 1 (l, 0))).2) W hT) ⟨.inr ⟨rfl, rfl⟩, trivial⟩) ?_
  refine MW ?_ (v := .bool true) (hv := by intro W; go_simp; first | done | exact h0)
  refine MZ fun W hS => ?_
  go_upto_region 39 with fail
  refine RL hS ?_
  clear hS
  refine MF (v := .agg (agF [.c (.int .i64 0), .c (str []), .c (str []), .c (str []), .c (.int .i64 0), .c (.int .i64 0), .c (.int .i64 0), .c (.int .i64 0), .c (str []), .c (str []), .c (.int .i64 0), .c (.int .i64 0), .c (str [])])) (fun W hS => run_bld rfl rfl zer_custumalref24_Request plc_custumalref24_Request fill_n) ?_
  refine MR 2 ?_ (hz := by rw [agF_size]; kernel_rfl) (hs := by first | (rw [agF_size, agF_size]; rfl) | rfl) (h1 := by exact (agF_one ⟨rfl, rfl, rfl, rfl, rfl, rfl, rfl, rfl, rfl, rfl, rfl, rfl, rfl, trivial⟩))
  refine MW ?_ (v := .bool false)
  refine MZ fun W hS => ?_
  have hk := Hk.out
  go_wp2
  clear hk
  exact bodyPost_ret (res_c2 rfl rfl rfl (hS.blk (i := 2) rfl) (by kernel_rfl) (by rw [agF_size]; kernel_rfl)) rfl (have hk := Hk.out; .inl ⟨by unfold aQ; rw [rdQ_0 (by omega)]; exact h0, rfl, hS.ext⟩)
theorem dasked_5 {l : List UInt8} (hk : byV (l, 0) = 5) (w : World) :
  Calls Try.prog 13 #[str l] w fun e w' => (enV (aQ l).2 ≠ 0 ∧ Ret (.tuple #[.agg zRR, .bool false]) w w' e) ∨ (enV (aQ l).2 = 0 ∧ Ret (.tuple #[.agg (drF (aQ l).1), .bool true]) w w' e) := by
 have Hk := Lib.hid hk
 have hk1 : byV (l, 0) ≤ 5 := by omega
 have hk2 : 5 ≤ byV (l, 0) := by omega
 clear hk
 have hS := SH.nil [] w
 go_enter Try.func13, Try.ntmps13
 go_upto_region 0 with fail
 refine RL hS ?_
 clear hS
 refine MN (z := agF [.c (.int .i64 0), .c (str []), .c (str []), .c (str []), .c (.int .i64 0), .c (.int .i64 0), .c (.int .i64 0), .c (.int .i64 0), .c (str []), .c (str []), .c (.int .i64 0), .c (.int .i64 0), .c (str [])]) (t := 24) ?_
 intro p2_1
 refine MW ?_ (v := .bool false)
 refine MZ fun W hS => ?_
 go_upto_region 1 with fail
 refine RL hS ?_
 clear hS
 refine MV ?_
 refine MF (v := .agg (agF [.c (str l), .c (.int .i64 0)])) (fun W hS => run_bld rfl rfl zer_custumalref04_Reader plc_custumalref04_Reader (fill_c fill_n (l' := [.c (str l), .c (.int .i64 0)]) (m := [.c (str l)]) (hv := rfl) (hs := agF_setp 0 1) (hp := rfl) (hn := rfl) (hb := by show 0 + 1 ≤ 2; decide))) ?_
 refine MN (z := agF [.c (str l), .c (.int .i64 0)]) (t := 105) ?_
 intro p11_2
 refine MT (H' := [.b p11_2 #[str (l, 0).1, .int .i64 (l, 0).2] 105, .b p2_1 (agF [.c (.int .i64 0), .c (str []), .c (str []), .c (str []), .c (.int .i64 0), .c (.int .i64 0), .c (.int .i64 0), .c (.int .i64 0), .c (str []), .c (str []), .c (.int .i64 0), .c (.int .i64 0), .c (str [])]) 24]) (fun W hS => hS) ?_
 refine MV ?_
 refine MZ fun W hS => ?_
 go_upto_region 2 with fail
 refine RL hS ?_
 clear hS
 refine MV ?_
 refine Me (v := .agg (agF [.c (.int .i64 1), .c (.int .i64 (byV (l, 0) : Int)), .a 32 0, .c (str [])])) (H' := [.b p11_2 #[str (tkS 1 (l, 0)).1, .int .i64 (tkS 1 (l, 0)).2] 105, .b p2_1 (agF [.c (.int .i64 0), .c (str []), .c (str []), .c (str []), .c (.int .i64 0), .c (.int .i64 0), .c (.int .i64 0), .c (.int .i64 0), .c (str []), .c (str []), .c (.int .i64 0), .c (.int .i64 0), .c (str [])]) 24]) (fun W hS => callF [0] [1] hS (fun hT => dnext_1 (s := (l, 0)) 0 W hT) ⟨.inr ⟨rfl, rfl⟩, trivial⟩) ?_
 refine MW ?_ (v := .int .i64 (byV (l, 0) : Int)) (hv := by intro W; kernel_rfl)
 refine MF (v := .agg (agF [.c (.int .i64 (byV (l, 0) : Int)), .c (str []), .c (str []), .c (str []), .c (.int .i64 0), .c (.int .i64 0), .c (.int .i64 0), .c (.int .i64 0), .c (str []), .c (str []), .c (.int .i64 0), .c (.int .i64 0), .c (str [])])) (fun W hS => run_bld rfl rfl zer_custumalref24_Request plc_custumalref24_Request (fill_c fill_n (l' := [.c (.int .i64 (byV (l, 0) : Int)), .c (str []), .c (str []), .c (str []), .c (.int .i64 0), .c (.int .i64 0), .c (.int .i64 0), .c (.int .i64 0), .c (str []), .c (str []), .c (.int .i64 0), .c (.int .i64 0), .c (str [])]) (m := [.c (.int .i64 (byV (l, 0) : Int))]) (hv := rfl) (hs := agF_setp 0 1) (hp := rfl) (hn := rfl) (hb := by show 0 + 1 ≤ 13; decide))) ?_
 refine MN (z := agF [.c (.int .i64 0), .c (str []), .c (str []), .c (str []), .c (.int .i64 0), .c (.int .i64 0), .c (.int .i64 0), .c (.int .i64 0), .c (str []), .c (str []), .c (.int .i64 0), .c (.int .i64 0), .c (str [])]) (t := 24) ?_
 intro p5_3
 refine MR 0 ?_ (hz := by rw [agF_size]; kernel_rfl) (hs := by first | (rw [agF_size, agF_size]; rfl) | rfl) (h1 := by exact (agF_one ⟨rfl, rfl, rfl, rfl, rfl, rfl, rfl, rfl, rfl, rfl, rfl, rfl, rfl, trivial⟩))
 refine MZ fun W hS => ?_
 go_upto_region 3 with fail
 refine RL hS ?_
 clear hS
 refine MV ?_
 refine MG 0 ?_ (v := .int .i64 (byV (l, 0) : Int)) (hj := (agF_cel 0))
 refine MZ fun W hS => ?_
 go_upto_region 5 with fail
 refine RL hS ?_
 clear hS
 refine MW ?_ (v := .bool false) (hv := by intro W; go_simp; first | done | omega | assumption)
 refine MW ?_ (v := .bool false)
 refine MZ fun W hS => ?_
 go_upto_region 14 with fail
 refine RL hS ?_
 clear hS
 refine MW ?_ (v := .bool true) (hv := by intro W; go_simp; first | done | omega | assumption)
 refine MW ?_ (v := .bool true)
 refine MZ fun W hS => ?_
 go_upto_region 15 with fail
 refine RL hS ?_
 clear hS
 refine MV ?_
 refine Me (v := .agg (agF [.c (.int .i64 5), .c (.int .i64 0), .a 32 0, .c (str (txV 16 (tkS 1 (l, 0))))])) (H' := [.b p11_2 #[str (txS 16 (tkS 1 (l, 0))).1, .int .i64 (txS 16 (tkS 1 (l, 0))).2] 105, .b p5_3 (agF [.c (.int .i64 (byV (l, 0) : Int)), .c (str []), .c (str []), .c (str []), .c (.int .i64 0), .c (.int .i64 0), .c (.int .i64 0), .c (.int .i64 0), .c (str []), .c (str []), .c (.int .i64 0), .c (.int .i64 0), .c (str [])]) 24, .b p2_1 (agF [.c (.int .i64 0), .c (str []), .c (str []), .c (str []), .c (.int .i64 0), .c (.int .i64 0), .c (.int .i64 0), .c (.int .i64 0), .c (str []), .c (str []), .c (.int .i64 0), .c (.int .i64 0), .c (str [])]) 24]) (fun W hS => callF [1] [0, 2] hS (fun hT => dnext_5 (s := tkS 1 (l, 0)) 16 W hT) ⟨.inr ⟨rfl, rfl⟩, trivial⟩) ?_
 refine MW ?_ (v := str (txV 16 (tkS 1 (l, 0)))) (hv := by intro W; kernel_rfl)
 refine MV ?_
 refine MP 1 (v := str (txV 16 (tkS 1 (l, 0)))) (cs' := agF [.c (.int .i64 (byV (l, 0) : Int)), .c (str (txV 16 (tkS 1 (l, 0)))), .c (str []), .c (str []), .c (.int .i64 0), .c (.int .i64 0), .c (.int .i64 0), .c (.int .i64 0), .c (str []), .c (str []), .c (.int .i64 0), .c (.int .i64 0), .c (str [])]) ?_ (hs := by rw [agF_size]; show 1 < 13; decide) (hc := agF_setc 1)
 refine MV ?_
 refine MP 1 (v := str []) (cs' := agF [.c (.int .i64 (byV (l, 0) : Int)), .c (str (txV 16 (tkS 1 (l, 0)))), .c (str []), .c (str []), .c (.int .i64 0), .c (.int .i64 0), .c (.int .i64 0), .c (.int .i64 0), .c (str []), .c (str []), .c (.int .i64 0), .c (.int .i64 0), .c (str [])]) ?_ (hs := by rw [agF_size]; show 8 < 13; decide) (hc := agF_setc 8)
 refine MV ?_
 refine MP 1 (v := str []) (cs' := agF [.c (.int .i64 (byV (l, 0) : Int)), .c (str (txV 16 (tkS 1 (l, 0)))), .c (str []), .c (str []), .c (.int .i64 0), .c (.int .i64 0), .c (.int .i64 0), .c (.int .i64 0), .c (str []), .c (str []), .c (.int .i64 0), .c (.int .i64 0), .c (str [])]) ?_ (hs := by rw [agF_size]; show 9 < 13; decide) (hc := agF_setc 9)
 refine MZ fun W hS => ?_
 go_upto_region 16 with fail
 refine RL hS ?_
 clear hS
 refine MV ?_
 refine Me (v := .agg (agF [.c (.int .i64 5), .c (.int .i64 0), .a 32 0, .c (str (txV 32 (txS 16 (tkS 1 (l, 0)))))])) (H' := [.b p11_2 #[str (txS 32 (txS 16 (tkS 1 (l, 0)))).1, .int .i64 (txS 32 (txS 16 (tkS 1 (l, 0)))).2] 105, .b p5_3 (agF [.c (.int .i64 (byV (l, 0) : Int)), .c (str (txV 16 (tkS 1 (l, 0)))), .c (str []), .c (str []), .c (.int .i64 0), .c (.int .i64 0), .c (.int .i64 0), .c (.int .i64 0), .c (str []), .c (str []), .c (.int .i64 0), .c (.int .i64 0), .c (str [])]) 24, .b p2_1 (agF [.c (.int .i64 0), .c (str []), .c (str []), .c (str []), .c (.int .i64 0), .c (.int .i64 0), .c (.int .i64 0), .c (.int .i64 0), .c (str []), .c (str []), .c (.int .i64 0), .c (.int .i64 0), .c (str [])]) 24]) (fun W hS => callF [0] [1, 2] hS (fun hT => dnext_5 (s := txS 16 (tkS 1 (l, 0))) 32 W hT) ⟨.inr ⟨rfl, rfl⟩, trivial⟩) ?_
 refine MW ?_ (v := str (txV 32 (txS 16 (tkS 1 (l, 0))))) (hv := by intro W; kernel_rfl)
 refine MV ?_
 refine MP 1 (v := str (txV 32 (txS 16 (tkS 1 (l, 0))))) (cs' := agF [.c (.int .i64 (byV (l, 0) : Int)), .c (str (txV 16 (tkS 1 (l, 0)))), .c (str []), .c (str []), .c (.int .i64 0), .c (.int .i64 0), .c (.int .i64 0), .c (.int .i64 0), .c (str (txV 32 (txS 16 (tkS 1 (l, 0))))), .c (str []), .c (.int .i64 0), .c (.int .i64 0), .c (str [])]) ?_ (hs := by rw [agF_size]; show 8 < 13; decide) (hc := agF_setc 8)
 refine MZ fun W hS => ?_
 go_upto_region 17 with fail
 refine RL hS ?_
 clear hS
 refine MV ?_
 refine Me (v := .agg (agF [.c (.int .i64 5), .c (.int .i64 0), .a 32 0, .c (str (txV 64 (txS 32 (txS 16 (tkS 1 (l, 0))))))])) (H' := [.b p11_2 #[str (txS 64 (txS 32 (txS 16 (tkS 1 (l, 0))))).1, .int .i64 (txS 64 (txS 32 (txS 16 (tkS 1 (l, 0))))).2] 105, .b p5_3 (agF [.c (.int .i64 (byV (l, 0) : Int)), .c (str (txV 16 (tkS 1 (l, 0)))), .c (str []), .c (str []), .c (.int .i64 0), .c (.int .i64 0), .c (.int .i64 0), .c (.int .i64 0), .c (str (txV 32 (txS 16 (tkS 1 (l, 0))))), .c (str []), .c (.int .i64 0), .c (.int .i64 0), .c (str [])]) 24, .b p2_1 (agF [.c (.int .i64 0), .c (str []), .c (str []), .c (str []), .c (.int .i64 0), .c (.int .i64 0), .c (.int .i64 0), .c (.int .i64 0), .c (str []), .c (str []), .c (.int .i64 0), .c (.int .i64 0), .c (str [])]) 24]) (fun W hS => callF [0] [1, 2] hS (fun hT => dnext_5 (s := txS 32 (txS 16 (tkS 1 (l, 0)))) 64 W hT) ⟨.inr ⟨rfl, rfl⟩, trivial⟩) ?_
 refine MW ?_ (v := str (txV 64 (txS 32 (txS 16 (tkS 1 (l, 0)))))) (hv := by intro W; kernel_rfl)
 refine MV ?_
 refine MP 1 (v := str (txV 64 (txS 32 (txS 16 (tkS 1 (l, 0)))))) (cs' := agF [.c (.int .i64 (byV (l, 0) : Int)), .c (str (txV 16 (tkS 1 (l, 0)))), .c (str []), .c (str []), .c (.int .i64 0), .c (.int .i64 0), .c (.int .i64 0), .c (.int .i64 0), .c (str (txV 32 (txS 16 (tkS 1 (l, 0))))), .c (str (txV 64 (txS 32 (txS 16 (tkS 1 (l, 0)))))), .c (.int .i64 0), .c (.int .i64 0), .c (str [])]) ?_ (hs := by rw [agF_size]; show 9 < 13; decide) (hc := agF_setc 9)
 refine MZ fun W hS => ?_
 by_cases h0 : enV (txS 64 (txS 32 (txS 16 (tkS 1 (l, 0))))) = 0
 ·
  have _f := h0
  go_upto_region 38 with fail
  refine RL hS ?_
  clear hS
  refine MV ?_
  refine Me (v := .int .i64 (enV (txS 64 (txS 32 (txS 16 (tkS 1 (l, 0))))))) (H' := [.b p11_2 #[str (txS 64 (txS 32 (txS 16 (tkS 1 (l, 0))))).1, .int .i64 (txS 64 (txS 32 (txS 16 (tkS 1 (l, 0))))).2] 105, .b p5_3 (agF [.c (.int .i64 (byV (l, 0) : Int)), .c (str (txV 16 (tkS 1 (l, 0)))), .c (str []), .c (str []), .c (.int .i64 0), .c (.int .i64 0), .c (.int .i64 0), .c (.int .i64 0), .c (str (txV 32 (txS 16 (tkS 1 (l, 0))))), .c (str (txV 64 (txS 32 (txS 16 (tkS 1 (l, 0)))))), .c (.int .i64 0), .c (.int .i64 0), .c (str [])]) 24, .b p2_1 (agF [.c (.int .i64 0), .c (str []), .c (str []), .c (str []), .c (.int .i64 0), .c (.int .i64 0), .c (.int .i64 0), .c (.int .i64 0), .c (str []), .c (str []), .c (.int .i64 0), .c (.int .i64 0), .c (str [])]) 24]) (fun W hS => callF [0] [1, 2] hS (fun hT => dend_l (l := (txS 64 (txS 32 (txS 16 (tkS 1 (l, 0))))).1) (e0 := (txS 64 (txS 32 (txS 16 (tkS 1 (l, 0))))).2) W hT) ⟨.inr ⟨rfl, rfl⟩, trivial⟩) ?_
  refine MW ?_ (v := .bool false) (hv := by intro W; go_simp; first | done | exact h0)
  refine MZ fun W hS => ?_
  go_upto_region 40 with fail
  refine RL hS ?_
  clear hS
  refine ML 1 ?_ (hs := by rw [agF_size]; kernel_rfl)
  refine MR 2 ?_ (hz := by rw [agF_size]; kernel_rfl) (hs := by first | (rw [agF_size, agF_size]; rfl) | rfl) (h1 := by exact (agF_one ⟨rfl, rfl, rfl, rfl, rfl, rfl, rfl, rfl, rfl, rfl, rfl, rfl, rfl, trivial⟩))
  refine MW ?_ (v := .bool true)
  refine MZ fun W hS => ?_
  have hk := Hk.out
  go_wp2
  clear hk
  exact bodyPost_ret (res_c2 rfl rfl rfl (hS.blk (i := 2) rfl) (by kernel_rfl) (by rw [agF_size]; kernel_rfl)) rfl (have hk := Hk.out; .inr ⟨by unfold aQ; rw [rdQ_5 hk]; exact h0, by unfold aQ; rw [rdQ_5 hk, drF_n]; rfl; exact (show ¬ ((byV (l, 0) : Nat) : Int) = 1 by omega), hS.ext⟩)
 ·
  have _f := h0
  go_upto_region 38 with fail
  refine RL hS ?_
  clear hS
  refine MV ?_
  refine Me (v := .int .i64 (enV (txS 64 (txS 32 (txS 16 (tkS 1 (l, 0))))))) (H' := [.b p11_2 #[str (txS 64 (txS 32 (txS 16 (tkS 1 (l, 0))))).1, .int .i64 (txS 64 (txS 32 (txS 16 (tkS 1 (l, 0))))).2] 105, .b p5_3 (agF [.c (.int .i64 (byV (l, 0) : Int)), .c (str (txV 16 (tkS 1 (l, 0)))), .c (str []), .c (str []), .c (.int .i64 0), .c (.int .i64 0), .c (.int .i64 0), .c (.int .i64 0), .c (str (txV 32 (txS 16 (tkS 1 (l, 0))))), .c (str (txV 64 (txS 32 (txS 16 (tkS 1 (l, 0)))))), .c (.int .i64 0), .c (.int .i64 0), .c (str [])]) 24, .b p2_1 (agF [.c (.int .i64 0), .c (str []), .c (str []), .c (str []), .c (.int .i64 0), .c (.int .i64 0), .c (.int .i64 0), .c (.int .i64 0), .c (str []), .c (str []), .c (.int .i64 0), .c (.int .i64 0), .c (str [])]) 24]) (fun W hS => callF [0] [1, 2] hS (fun hT => dend_l (l := (txS 64 (txS 32 (txS 16 (tkS 1 (l, 0))))).1) (e0 := (txS 64 (txS 32 (txS 16 (tkS 1 (l, 0))))).2) W hT) ⟨.inr ⟨rfl, rfl⟩, trivial⟩) ?_
  refine MW ?_ (v := .bool true) (hv := by intro W; go_simp; first | done | exact h0)
  refine MZ fun W hS => ?_
  go_upto_region 39 with fail
  refine RL hS ?_
  clear hS
  refine MF (v := .agg (agF [.c (.int .i64 0), .c (str []), .c (str []), .c (str []), .c (.int .i64 0), .c (.int .i64 0), .c (.int .i64 0), .c (.int .i64 0), .c (str []), .c (str []), .c (.int .i64 0), .c (.int .i64 0), .c (str [])])) (fun W hS => run_bld rfl rfl zer_custumalref24_Request plc_custumalref24_Request fill_n) ?_
  refine MR 2 ?_ (hz := by rw [agF_size]; kernel_rfl) (hs := by first | (rw [agF_size, agF_size]; rfl) | rfl) (h1 := by exact (agF_one ⟨rfl, rfl, rfl, rfl, rfl, rfl, rfl, rfl, rfl, rfl, rfl, rfl, rfl, trivial⟩))
  refine MW ?_ (v := .bool false)
  refine MZ fun W hS => ?_
  have hk := Hk.out
  go_wp2
  clear hk
  exact bodyPost_ret (res_c2 rfl rfl rfl (hS.blk (i := 2) rfl) (by kernel_rfl) (by rw [agF_size]; kernel_rfl)) rfl (have hk := Hk.out; .inl ⟨by unfold aQ; rw [rdQ_5 hk]; exact h0, rfl, hS.ext⟩)
theorem dasked_6 {l : List UInt8} (hk : byV (l, 0) = 6) (w : World) :
  Calls Try.prog 13 #[str l] w fun e w' => (enV (aQ l).2 ≠ 0 ∧ Ret (.tuple #[.agg zRR, .bool false]) w w' e) ∨ (enV (aQ l).2 = 0 ∧ Ret (.tuple #[.agg (drF (aQ l).1), .bool true]) w w' e) := by
 have Hk := Lib.hid hk
 have hk1 : byV (l, 0) ≤ 6 := by omega
 have hk2 : 6 ≤ byV (l, 0) := by omega
 clear hk
 have hS := SH.nil [] w
 go_enter Try.func13, Try.ntmps13
 go_upto_region 0 with fail
 refine RL hS ?_
 clear hS
 refine MN (z := agF [.c (.int .i64 0), .c (str []), .c (str []), .c (str []), .c (.int .i64 0), .c (.int .i64 0), .c (.int .i64 0), .c (.int .i64 0), .c (str []), .c (str []), .c (.int .i64 0), .c (.int .i64 0), .c (str [])]) (t := 24) ?_
 intro p2_1
 refine MW ?_ (v := .bool false)
 refine MZ fun W hS => ?_
 go_upto_region 1 with fail
 refine RL hS ?_
 clear hS
 refine MV ?_
 refine MF (v := .agg (agF [.c (str l), .c (.int .i64 0)])) (fun W hS => run_bld rfl rfl zer_custumalref04_Reader plc_custumalref04_Reader (fill_c fill_n (l' := [.c (str l), .c (.int .i64 0)]) (m := [.c (str l)]) (hv := rfl) (hs := agF_setp 0 1) (hp := rfl) (hn := rfl) (hb := by show 0 + 1 ≤ 2; decide))) ?_
 refine MN (z := agF [.c (str l), .c (.int .i64 0)]) (t := 105) ?_
 intro p11_2
 refine MT (H' := [.b p11_2 #[str (l, 0).1, .int .i64 (l, 0).2] 105, .b p2_1 (agF [.c (.int .i64 0), .c (str []), .c (str []), .c (str []), .c (.int .i64 0), .c (.int .i64 0), .c (.int .i64 0), .c (.int .i64 0), .c (str []), .c (str []), .c (.int .i64 0), .c (.int .i64 0), .c (str [])]) 24]) (fun W hS => hS) ?_
 refine MV ?_
 refine MZ fun W hS => ?_
 go_upto_region 2 with fail
 refine RL hS ?_
 clear hS
 refine MV ?_
 refine Me (v := .agg (agF [.c (.int .i64 1), .c (.int .i64 (byV (l, 0) : Int)), .a 32 0, .c (str [])])) (H' := [.b p11_2 #[str (tkS 1 (l, 0)).1, .int .i64 (tkS 1 (l, 0)).2] 105, .b p2_1 (agF [.c (.int .i64 0), .c (str []), .c (str []), .c (str []), .c (.int .i64 0), .c (.int .i64 0), .c (.int .i64 0), .c (.int .i64 0), .c (str []), .c (str []), .c (.int .i64 0), .c (.int .i64 0), .c (str [])]) 24]) (fun W hS => callF [0] [1] hS (fun hT => dnext_1 (s := (l, 0)) 0 W hT) ⟨.inr ⟨rfl, rfl⟩, trivial⟩) ?_
 refine MW ?_ (v := .int .i64 (byV (l, 0) : Int)) (hv := by intro W; kernel_rfl)
 refine MF (v := .agg (agF [.c (.int .i64 (byV (l, 0) : Int)), .c (str []), .c (str []), .c (str []), .c (.int .i64 0), .c (.int .i64 0), .c (.int .i64 0), .c (.int .i64 0), .c (str []), .c (str []), .c (.int .i64 0), .c (.int .i64 0), .c (str [])])) (fun W hS => run_bld rfl rfl zer_custumalref24_Request plc_custumalref24_Request (fill_c fill_n (l' := [.c (.int .i64 (byV (l, 0) : Int)), .c (str []), .c (str []), .c (str []), .c (.int .i64 0), .c (.int .i64 0), .c (.int .i64 0), .c (.int .i64 0), .c (str []), .c (str []), .c (.int .i64 0), .c (.int .i64 0), .c (str [])]) (m := [.c (.int .i64 (byV (l, 0) : Int))]) (hv := rfl) (hs := agF_setp 0 1) (hp := rfl) (hn := rfl) (hb := by show 0 + 1 ≤ 13; decide))) ?_
 refine MN (z := agF [.c (.int .i64 0), .c (str []), .c (str []), .c (str []), .c (.int .i64 0), .c (.int .i64 0), .c (.int .i64 0), .c (.int .i64 0), .c (str []), .c (str []), .c (.int .i64 0), .c (.int .i64 0), .c (str [])]) (t := 24) ?_
 intro p5_3
 refine MR 0 ?_ (hz := by rw [agF_size]; kernel_rfl) (hs := by first | (rw [agF_size, agF_size]; rfl) | rfl) (h1 := by exact (agF_one ⟨rfl, rfl, rfl, rfl, rfl, rfl, rfl, rfl, rfl, rfl, rfl, rfl, rfl, trivial⟩))
 refine MZ fun W hS => ?_
 go_upto_region 3 with fail
 refine RL hS ?_
 clear hS
 refine MV ?_
 refine MG 0 ?_ (v := .int .i64 (byV (l, 0) : Int)) (hj := (agF_cel 0))
 refine MZ fun W hS => ?_
 go_upto_region 5 with fail
 refine RL hS ?_
 clear hS
 refine MW ?_ (v := .bool false) (hv := by intro W; go_simp; first | done | omega | assumption)
 refine MW ?_ (v := .bool false)
 refine MZ fun W hS => ?_
 go_upto_region 14 with fail
 refine RL hS ?_
 clear hS
 refine MW ?_ (v := .bool false) (hv := by intro W; go_simp; first | done | omega | assumption)
 refine MW ?_ (v := .bool false)
 refine MZ fun W hS => ?_
 go_upto_region 18 with fail
 refine RL hS ?_
 clear hS
 refine MW ?_ (v := .bool true) (hv := by intro W; go_simp; first | done | omega | assumption)
 refine MW ?_ (v := .bool true)
 refine MZ fun W hS => ?_
 go_upto_region 20 with fail
 refine RL hS ?_
 clear hS
 refine MV ?_
 refine Me (v := .agg (agF [.c (.int .i64 5), .c (.int .i64 0), .a 32 0, .c (str (txV 16 (tkS 1 (l, 0))))])) (H' := [.b p11_2 #[str (txS 16 (tkS 1 (l, 0))).1, .int .i64 (txS 16 (tkS 1 (l, 0))).2] 105, .b p5_3 (agF [.c (.int .i64 (byV (l, 0) : Int)), .c (str []), .c (str []), .c (str []), .c (.int .i64 0), .c (.int .i64 0), .c (.int .i64 0), .c (.int .i64 0), .c (str []), .c (str []), .c (.int .i64 0), .c (.int .i64 0), .c (str [])]) 24, .b p2_1 (agF [.c (.int .i64 0), .c (str []), .c (str []), .c (str []), .c (.int .i64 0), .c (.int .i64 0), .c (.int .i64 0), .c (.int .i64 0), .c (str []), .c (str []), .c (.int .i64 0), .c (.int .i64 0), .c (str [])]) 24]) (fun W hS => callF [1] [0, 2] hS (fun hT => dnext_5 (s := tkS 1 (l, 0)) 16 W hT) ⟨.inr ⟨rfl, rfl⟩, trivial⟩) ?_
 refine MW ?_ (v := str (txV 16 (tkS 1 (l, 0)))) (hv := by intro W; kernel_rfl)
 refine MV ?_
 refine MP 1 (v := str (txV 16 (tkS 1 (l, 0)))) (cs' := agF [.c (.int .i64 (byV (l, 0) : Int)), .c (str (txV 16 (tkS 1 (l, 0)))), .c (str []), .c (str []), .c (.int .i64 0), .c (.int .i64 0), .c (.int .i64 0), .c (.int .i64 0), .c (str []), .c (str []), .c (.int .i64 0), .c (.int .i64 0), .c (str [])]) ?_ (hs := by rw [agF_size]; show 1 < 13; decide) (hc := agF_setc 1)
 refine MZ fun W hS => ?_
 go_upto_region 21 with fail
 refine RL hS ?_
 clear hS
 refine MV ?_
 refine Me (v := .agg (agF [.c (.int .i64 5), .c (.int .i64 0), .a 32 0, .c (str (txV 32 (txS 16 (tkS 1 (l, 0)))))])) (H' := [.b p11_2 #[str (txS 32 (txS 16 (tkS 1 (l, 0)))).1, .int .i64 (txS 32 (txS 16 (tkS 1 (l, 0)))).2] 105, .b p5_3 (agF [.c (.int .i64 (byV (l, 0) : Int)), .c (str (txV 16 (tkS 1 (l, 0)))), .c (str []), .c (str []), .c (.int .i64 0), .c (.int .i64 0), .c (.int .i64 0), .c (.int .i64 0), .c (str []), .c (str []), .c (.int .i64 0), .c (.int .i64 0), .c (str [])]) 24, .b p2_1 (agF [.c (.int .i64 0), .c (str []), .c (str []), .c (str []), .c (.int .i64 0), .c (.int .i64 0), .c (.int .i64 0), .c (.int .i64 0), .c (str []), .c (str []), .c (.int .i64 0), .c (.int .i64 0), .c (str [])]) 24]) (fun W hS => callF [0] [1, 2] hS (fun hT => dnext_5 (s := txS 16 (tkS 1 (l, 0))) 32 W hT) ⟨.inr ⟨rfl, rfl⟩, trivial⟩) ?_
 refine MW ?_ (v := str (txV 32 (txS 16 (tkS 1 (l, 0))))) (hv := by intro W; kernel_rfl)
 refine MV ?_
 refine MP 1 (v := str (txV 32 (txS 16 (tkS 1 (l, 0))))) (cs' := agF [.c (.int .i64 (byV (l, 0) : Int)), .c (str (txV 16 (tkS 1 (l, 0)))), .c (str []), .c (str []), .c (.int .i64 0), .c (.int .i64 0), .c (.int .i64 0), .c (.int .i64 0), .c (str (txV 32 (txS 16 (tkS 1 (l, 0))))), .c (str []), .c (.int .i64 0), .c (.int .i64 0), .c (str [])]) ?_ (hs := by rw [agF_size]; show 8 < 13; decide) (hc := agF_setc 8)
 refine MZ fun W hS => ?_
 go_upto_region 22 with fail
 refine RL hS ?_
 clear hS
 refine MV ?_
 refine MG 1 ?_ (v := .int .i64 (byV (l, 0) : Int)) (hj := (agF_cel 0))
 refine MW ?_ (v := .bool true) (hv := by intro W; go_simp; first | done | omega | assumption)
 refine MZ fun W hS => ?_
 go_upto_region 23 with fail
 refine RL hS ?_
 clear hS
 refine MV ?_
 refine Me (v := .agg (agF [.c (.int .i64 3), .c (.int .i64 (nuV (txS 32 (txS 16 (tkS 1 (l, 0)))))), .a 32 0, .c (str [])])) (H' := [.b p11_2 #[str (tkS 8 (txS 32 (txS 16 (tkS 1 (l, 0))))).1, .int .i64 (tkS 8 (txS 32 (txS 16 (tkS 1 (l, 0))))).2] 105, .b p5_3 (agF [.c (.int .i64 (byV (l, 0) : Int)), .c (str (txV 16 (tkS 1 (l, 0)))), .c (str []), .c (str []), .c (.int .i64 0), .c (.int .i64 0), .c (.int .i64 0), .c (.int .i64 0), .c (str (txV 32 (txS 16 (tkS 1 (l, 0))))), .c (str []), .c (.int .i64 0), .c (.int .i64 0), .c (str [])]) 24, .b p2_1 (agF [.c (.int .i64 0), .c (str []), .c (str []), .c (str []), .c (.int .i64 0), .c (.int .i64 0), .c (.int .i64 0), .c (.int .i64 0), .c (str []), .c (str []), .c (.int .i64 0), .c (.int .i64 0), .c (str [])]) 24]) (fun W hS => callF [0] [1, 2] hS (fun hT => dnext_3 (s := txS 32 (txS 16 (tkS 1 (l, 0)))) 0 W hT) ⟨.inr ⟨rfl, rfl⟩, trivial⟩) ?_
 refine MW ?_ (v := .int .i64 (nuV (txS 32 (txS 16 (tkS 1 (l, 0)))))) (hv := by intro W; kernel_rfl)
 refine MV ?_
 refine MP 1 (v := .int .i64 (nuV (txS 32 (txS 16 (tkS 1 (l, 0)))))) (cs' := agF [.c (.int .i64 (byV (l, 0) : Int)), .c (str (txV 16 (tkS 1 (l, 0)))), .c (str []), .c (str []), .c (.int .i64 0), .c (.int .i64 0), .c (.int .i64 0), .c (.int .i64 0), .c (str (txV 32 (txS 16 (tkS 1 (l, 0))))), .c (str []), .c (.int .i64 (nuV (txS 32 (txS 16 (tkS 1 (l, 0)))))), .c (.int .i64 0), .c (str [])]) ?_ (hs := by rw [agF_size]; show 10 < 13; decide) (hc := agF_setc 10)
 refine MZ fun W hS => ?_
 by_cases h0 : enV (tkS 8 (txS 32 (txS 16 (tkS 1 (l, 0))))) = 0
 ·
  have _f := h0
  go_upto_region 38 with fail
  refine RL hS ?_
  clear hS
  refine MV ?_
  refine Me (v := .int .i64 (enV (tkS 8 (txS 32 (txS 16 (tkS 1 (l, 0))))))) (H' := [.b p11_2 #[str (tkS 8 (txS 32 (txS 16 (tkS 1 (l, 0))))).1, .int .i64 (tkS 8 (txS 32 (txS 16 (tkS 1 (l, 0))))).2] 105, .b p5_3 (agF [.c (.int .i64 (byV (l, 0) : Int)), .c (str (txV 16 (tkS 1 (l, 0)))), .c (str []), .c (str []), .c (.int .i64 0), .c (.int .i64 0), .c (.int .i64 0), .c (.int .i64 0), .c (str (txV 32 (txS 16 (tkS 1 (l, 0))))), .c (str []), .c (.int .i64 (nuV (txS 32 (txS 16 (tkS 1 (l, 0)))))), .c (.int .i64 0), .c (str [])]) 24, .b p2_1 (agF [.c (.int .i64 0), .c (str []), .c (str []), .c (str []), .c (.int .i64 0), .c (.int .i64 0), .c (.int .i64 0), .c (.int .i64 0), .c (str []), .c (str []), .c (.int .i64 0), .c (.int .i64 0), .c (str [])]) 24]) (fun W hS => callF [0] [1, 2] hS (fun hT => dend_l (l := (tkS 8 (txS 32 (txS 16 (tkS 1 (l, 0))))).1) (e0 := (tkS 8 (txS 32 (txS 16 (tkS 1 (l, 0))))).2) W hT) ⟨.inr ⟨rfl, rfl⟩, trivial⟩) ?_
  refine MW ?_ (v := .bool false) (hv := by intro W; go_simp; first | done | exact h0)
  refine MZ fun W hS => ?_
  go_upto_region 40 with fail
  refine RL hS ?_
  clear hS
  refine ML 1 ?_ (hs := by rw [agF_size]; kernel_rfl)
  refine MR 2 ?_ (hz := by rw [agF_size]; kernel_rfl) (hs := by first | (rw [agF_size, agF_size]; rfl) | rfl) (h1 := by exact (agF_one ⟨rfl, rfl, rfl, rfl, rfl, rfl, rfl, rfl, rfl, rfl, rfl, rfl, rfl, trivial⟩))
  refine MW ?_ (v := .bool true)
  refine MZ fun W hS => ?_
  have hk := Hk.out
  go_wp2
  clear hk
  exact bodyPost_ret (res_c2 rfl rfl rfl (hS.blk (i := 2) rfl) (by kernel_rfl) (by rw [agF_size]; kernel_rfl)) rfl (have hk := Hk.out; .inr ⟨by unfold aQ; rw [rdQ_6 hk]; exact h0, by unfold aQ; rw [rdQ_6 hk, drF_n]; rfl; exact (show ¬ ((byV (l, 0) : Nat) : Int) = 1 by omega), hS.ext⟩)
 ·
  have _f := h0
  go_upto_region 38 with fail
  refine RL hS ?_
  clear hS
  refine MV ?_
  refine Me (v := .int .i64 (enV (tkS 8 (txS 32 (txS 16 (tkS 1 (l, 0))))))) (H' := [.b p11_2 #[str (tkS 8 (txS 32 (txS 16 (tkS 1 (l, 0))))).1, .int .i64 (tkS 8 (txS 32 (txS 16 (tkS 1 (l, 0))))).2] 105, .b p5_3 (agF [.c (.int .i64 (byV (l, 0) : Int)), .c (str (txV 16 (tkS 1 (l, 0)))), .c (str []), .c (str []), .c (.int .i64 0), .c (.int .i64 0), .c (.int .i64 0), .c (.int .i64 0), .c (str (txV 32 (txS 16 (tkS 1 (l, 0))))), .c (str []), .c (.int .i64 (nuV (txS 32 (txS 16 (tkS 1 (l, 0)))))), .c (.int .i64 0), .c (str [])]) 24, .b p2_1 (agF [.c (.int .i64 0), .c (str []), .c (str []), .c (str []), .c (.int .i64 0), .c (.int .i64 0), .c (.int .i64 0), .c (.int .i64 0), .c (str []), .c (str []), .c (.int .i64 0), .c (.int .i64 0), .c (str [])]) 24]) (fun W hS => callF [0] [1, 2] hS (fun hT => dend_l (l := (tkS 8 (txS 32 (txS 16 (tkS 1 (l, 0))))).1) (e0 := (tkS 8 (txS 32 (txS 16 (tkS 1 (l, 0))))).2) W hT) ⟨.inr ⟨rfl, rfl⟩, trivial⟩) ?_
  refine MW ?_ (v := .bool true) (hv := by intro W; go_simp; first | done | exact h0)
  refine MZ fun W hS => ?_
  go_upto_region 39 with fail
  refine RL hS ?_
  clear hS
  refine MF (v := .agg (agF [.c (.int .i64 0), .c (str []), .c (str []), .c (str []), .c (.int .i64 0), .c (.int .i64 0), .c (.int .i64 0), .c (.int .i64 0), .c (str []), .c (str []), .c (.int .i64 0), .c (.int .i64 0), .c (str [])])) (fun W hS => run_bld rfl rfl zer_custumalref24_Request plc_custumalref24_Request fill_n) ?_
  refine MR 2 ?_ (hz := by rw [agF_size]; kernel_rfl) (hs := by first | (rw [agF_size, agF_size]; rfl) | rfl) (h1 := by exact (agF_one ⟨rfl, rfl, rfl, rfl, rfl, rfl, rfl, rfl, rfl, rfl, rfl, rfl, rfl, trivial⟩))
  refine MW ?_ (v := .bool false)
  refine MZ fun W hS => ?_
  have hk := Hk.out
  go_wp2
  clear hk
  exact bodyPost_ret (res_c2 rfl rfl rfl (hS.blk (i := 2) rfl) (by kernel_rfl) (by rw [agF_size]; kernel_rfl)) rfl (have hk := Hk.out; .inl ⟨by unfold aQ; rw [rdQ_6 hk]; exact h0, rfl, hS.ext⟩)
theorem dasked_7 {l : List UInt8} (hk : byV (l, 0) = 7) (w : World) :
  Calls Try.prog 13 #[str l] w fun e w' => (enV (aQ l).2 ≠ 0 ∧ Ret (.tuple #[.agg zRR, .bool false]) w w' e) ∨ (enV (aQ l).2 = 0 ∧ Ret (.tuple #[.agg (drF (aQ l).1), .bool true]) w w' e) := by
 have Hk := Lib.hid hk
 have hk1 : byV (l, 0) ≤ 7 := by omega
 have hk2 : 7 ≤ byV (l, 0) := by omega
 clear hk
 have hS := SH.nil [] w
 go_enter Try.func13, Try.ntmps13
 go_upto_region 0 with fail
 refine RL hS ?_
 clear hS
 refine MN (z := agF [.c (.int .i64 0), .c (str []), .c (str []), .c (str []), .c (.int .i64 0), .c (.int .i64 0), .c (.int .i64 0), .c (.int .i64 0), .c (str []), .c (str []), .c (.int .i64 0), .c (.int .i64 0), .c (str [])]) (t := 24) ?_
 intro p2_1
 refine MW ?_ (v := .bool false)
 refine MZ fun W hS => ?_
 go_upto_region 1 with fail
 refine RL hS ?_
 clear hS
 refine MV ?_
 refine MF (v := .agg (agF [.c (str l), .c (.int .i64 0)])) (fun W hS => run_bld rfl rfl zer_custumalref04_Reader plc_custumalref04_Reader (fill_c fill_n (l' := [.c (str l), .c (.int .i64 0)]) (m := [.c (str l)]) (hv := rfl) (hs := agF_setp 0 1) (hp := rfl) (hn := rfl) (hb := by show 0 + 1 ≤ 2; decide))) ?_
 refine MN (z := agF [.c (str l), .c (.int .i64 0)]) (t := 105) ?_
 intro p11_2
 refine MT (H' := [.b p11_2 #[str (l, 0).1, .int .i64 (l, 0).2] 105, .b p2_1 (agF [.c (.int .i64 0), .c (str []), .c (str []), .c (str []), .c (.int .i64 0), .c (.int .i64 0), .c (.int .i64 0), .c (.int .i64 0), .c (str []), .c (str []), .c (.int .i64 0), .c (.int .i64 0), .c (str [])]) 24]) (fun W hS => hS) ?_
 refine MV ?_
 refine MZ fun W hS => ?_
 go_upto_region 2 with fail
 refine RL hS ?_
 clear hS
 refine MV ?_
 refine Me (v := .agg (agF [.c (.int .i64 1), .c (.int .i64 (byV (l, 0) : Int)), .a 32 0, .c (str [])])) (H' := [.b p11_2 #[str (tkS 1 (l, 0)).1, .int .i64 (tkS 1 (l, 0)).2] 105, .b p2_1 (agF [.c (.int .i64 0), .c (str []), .c (str []), .c (str []), .c (.int .i64 0), .c (.int .i64 0), .c (.int .i64 0), .c (.int .i64 0), .c (str []), .c (str []), .c (.int .i64 0), .c (.int .i64 0), .c (str [])]) 24]) (fun W hS => callF [0] [1] hS (fun hT => dnext_1 (s := (l, 0)) 0 W hT) ⟨.inr ⟨rfl, rfl⟩, trivial⟩) ?_
 refine MW ?_ (v := .int .i64 (byV (l, 0) : Int)) (hv := by intro W; kernel_rfl)
 refine MF (v := .agg (agF [.c (.int .i64 (byV (l, 0) : Int)), .c (str []), .c (str []), .c (str []), .c (.int .i64 0), .c (.int .i64 0), .c (.int .i64 0), .c (.int .i64 0), .c (str []), .c (str []), .c (.int .i64 0), .c (.int .i64 0), .c (str [])])) (fun W hS => run_bld rfl rfl zer_custumalref24_Request plc_custumalref24_Request (fill_c fill_n (l' := [.c (.int .i64 (byV (l, 0) : Int)), .c (str []), .c (str []), .c (str []), .c (.int .i64 0), .c (.int .i64 0), .c (.int .i64 0), .c (.int .i64 0), .c (str []), .c (str []), .c (.int .i64 0), .c (.int .i64 0), .c (str [])]) (m := [.c (.int .i64 (byV (l, 0) : Int))]) (hv := rfl) (hs := agF_setp 0 1) (hp := rfl) (hn := rfl) (hb := by show 0 + 1 ≤ 13; decide))) ?_
 refine MN (z := agF [.c (.int .i64 0), .c (str []), .c (str []), .c (str []), .c (.int .i64 0), .c (.int .i64 0), .c (.int .i64 0), .c (.int .i64 0), .c (str []), .c (str []), .c (.int .i64 0), .c (.int .i64 0), .c (str [])]) (t := 24) ?_
 intro p5_3
 refine MR 0 ?_ (hz := by rw [agF_size]; kernel_rfl) (hs := by first | (rw [agF_size, agF_size]; rfl) | rfl) (h1 := by exact (agF_one ⟨rfl, rfl, rfl, rfl, rfl, rfl, rfl, rfl, rfl, rfl, rfl, rfl, rfl, trivial⟩))
 refine MZ fun W hS => ?_
 go_upto_region 3 with fail
 refine RL hS ?_
 clear hS
 refine MV ?_
 refine MG 0 ?_ (v := .int .i64 (byV (l, 0) : Int)) (hj := (agF_cel 0))
 refine MZ fun W hS => ?_
 go_upto_region 5 with fail
 refine RL hS ?_
 clear hS
 refine MW ?_ (v := .bool false) (hv := by intro W; go_simp; first | done | omega | assumption)
 refine MW ?_ (v := .bool false)
 refine MZ fun W hS => ?_
 go_upto_region 14 with fail
 refine RL hS ?_
 clear hS
 refine MW ?_ (v := .bool false) (hv := by intro W; go_simp; first | done | omega | assumption)
 refine MW ?_ (v := .bool false)
 refine MZ fun W hS => ?_
 go_upto_region 18 with fail
 refine RL hS ?_
 clear hS
 refine MW ?_ (v := .bool false) (hv := by intro W; go_simp; first | done | omega | assumption)
 refine MW ?_ (v := .bool false)
 refine MZ fun W hS => ?_
 go_upto_region 19 with fail
 refine RL hS ?_
 clear hS
 refine MW ?_ (v := .bool true) (hv := by intro W; go_simp; first | done | omega | assumption)
 refine MW ?_ (v := .bool true)
 refine MZ fun W hS => ?_
 go_upto_region 20 with fail
 refine RL hS ?_
 clear hS
 refine MV ?_
 refine Me (v := .agg (agF [.c (.int .i64 5), .c (.int .i64 0), .a 32 0, .c (str (txV 16 (tkS 1 (l, 0))))])) (H' := [.b p11_2 #[str (txS 16 (tkS 1 (l, 0))).1, .int .i64 (txS 16 (tkS 1 (l, 0))).2] 105, .b p5_3 (agF [.c (.int .i64 (byV (l, 0) : Int)), .c (str []), .c (str []), .c (str []), .c (.int .i64 0), .c (.int .i64 0), .c (.int .i64 0), .c (.int .i64 0), .c (str []), .c (str []), .c (.int .i64 0), .c (.int .i64 0), .c (str [])]) 24, .b p2_1 (agF [.c (.int .i64 0), .c (str []), .c (str []), .c (str []), .c (.int .i64 0), .c (.int .i64 0), .c (.int .i64 0), .c (.int .i64 0), .c (str []), .c (str []), .c (.int .i64 0), .c (.int .i64 0), .c (str [])]) 24]) (fun W hS => callF [1] [0, 2] hS (fun hT => dnext_5 (s := tkS 1 (l, 0)) 16 W hT) ⟨.inr ⟨rfl, rfl⟩, trivial⟩) ?_
 refine MW ?_ (v := str (txV 16 (tkS 1 (l, 0)))) (hv := by intro W; kernel_rfl)
 refine MV ?_
 refine MP 1 (v := str (txV 16 (tkS 1 (l, 0)))) (cs' := agF [.c (.int .i64 (byV (l, 0) : Int)), .c (str (txV 16 (tkS 1 (l, 0)))), .c (str []), .c (str []), .c (.int .i64 0), .c (.int .i64 0), .c (.int .i64 0), .c (.int .i64 0), .c (str []), .c (str []), .c (.int .i64 0), .c (.int .i64 0), .c (str [])]) ?_ (hs := by rw [agF_size]; show 1 < 13; decide) (hc := agF_setc 1)
 refine MZ fun W hS => ?_
 go_upto_region 21 with fail
 refine RL hS ?_
 clear hS
 refine MV ?_
 refine Me (v := .agg (agF [.c (.int .i64 5), .c (.int .i64 0), .a 32 0, .c (str (txV 32 (txS 16 (tkS 1 (l, 0)))))])) (H' := [.b p11_2 #[str (txS 32 (txS 16 (tkS 1 (l, 0)))).1, .int .i64 (txS 32 (txS 16 (tkS 1 (l, 0)))).2] 105, .b p5_3 (agF [.c (.int .i64 (byV (l, 0) : Int)), .c (str (txV 16 (tkS 1 (l, 0)))), .c (str []), .c (str []), .c (.int .i64 0), .c (.int .i64 0), .c (.int .i64 0), .c (.int .i64 0), .c (str []), .c (str []), .c (.int .i64 0), .c (.int .i64 0), .c (str [])]) 24, .b p2_1 (agF [.c (.int .i64 0), .c (str []), .c (str []), .c (str []), .c (.int .i64 0), .c (.int .i64 0), .c (.int .i64 0), .c (.int .i64 0), .c (str []), .c (str []), .c (.int .i64 0), .c (.int .i64 0), .c (str [])]) 24]) (fun W hS => callF [0] [1, 2] hS (fun hT => dnext_5 (s := txS 16 (tkS 1 (l, 0))) 32 W hT) ⟨.inr ⟨rfl, rfl⟩, trivial⟩) ?_
 refine MW ?_ (v := str (txV 32 (txS 16 (tkS 1 (l, 0))))) (hv := by intro W; kernel_rfl)
 refine MV ?_
 refine MP 1 (v := str (txV 32 (txS 16 (tkS 1 (l, 0))))) (cs' := agF [.c (.int .i64 (byV (l, 0) : Int)), .c (str (txV 16 (tkS 1 (l, 0)))), .c (str []), .c (str []), .c (.int .i64 0), .c (.int .i64 0), .c (.int .i64 0), .c (.int .i64 0), .c (str (txV 32 (txS 16 (tkS 1 (l, 0))))), .c (str []), .c (.int .i64 0), .c (.int .i64 0), .c (str [])]) ?_ (hs := by rw [agF_size]; show 8 < 13; decide) (hc := agF_setc 8)
 refine MZ fun W hS => ?_
 go_upto_region 22 with fail
 refine RL hS ?_
 clear hS
 refine MV ?_
 refine MG 1 ?_ (v := .int .i64 (byV (l, 0) : Int)) (hj := (agF_cel 0))
 refine MW ?_ (v := .bool false) (hv := by intro W; go_simp; first | done | omega | assumption)
 refine MZ fun W hS => ?_
 by_cases h0 : enV (txS 32 (txS 16 (tkS 1 (l, 0)))) = 0
 ·
  have _f := h0
  go_upto_region 38 with fail
  refine RL hS ?_
  clear hS
  refine MV ?_
  refine Me (v := .int .i64 (enV (txS 32 (txS 16 (tkS 1 (l, 0)))))) (H' := [.b p11_2 #[str (txS 32 (txS 16 (tkS 1 (l, 0)))).1, .int .i64 (txS 32 (txS 16 (tkS 1 (l, 0)))).2] 105, .b p5_3 (agF [.c (.int .i64 (byV (l, 0) : Int)), .c (str (txV 16 (tkS 1 (l, 0)))), .c (str []), .c (str []), .c (.int .i64 0), .c (.int .i64 0), .c (.int .i64 0), .c (.int .i64 0), .c (str (txV 32 (txS 16 (tkS 1 (l, 0))))), .c (str []), .c (.int .i64 0), .c (.int .i64 0), .c (str [])]) 24, .b p2_1 (agF [.c (.int .i64 0), .c (str []), .c (str []), .c (str []), .c (.int .i64 0), .c (.int .i64 0), .c (.int .i64 0), .c (.int .i64 0), .c (str []), .c (str []), .c (.int .i64 0), .c (.int .i64 0), .c (str [])]) 24]) (fun W hS => callF [0] [1, 2] hS (fun hT => dend_l (l := (txS 32 (txS 16 (tkS 1 (l, 0)))).1) (e0 := (txS 32 (txS 16 (tkS 1 (l, 0)))).2) W hT) ⟨.inr ⟨rfl, rfl⟩, trivial⟩) ?_
  refine MW ?_ (v := .bool false) (hv := by intro W; go_simp; first | done | exact h0)
  refine MZ fun W hS => ?_
  go_upto_region 40 with fail
  refine RL hS ?_
  clear hS
  refine ML 1 ?_ (hs := by rw [agF_size]; kernel_rfl)
  refine MR 2 ?_ (hz := by rw [agF_size]; kernel_rfl) (hs := by first | (rw [agF_size, agF_size]; rfl) | rfl) (h1 := by exact (agF_one ⟨rfl, rfl, rfl, rfl, rfl, rfl, rfl, rfl, rfl, rfl, rfl, rfl, rfl, trivial⟩))
  refine MW ?_ (v := .bool true)
  refine MZ fun W hS => ?_
  have hk := Hk.out
  go_wp2
  clear hk
  exact bodyPost_ret (res_c2 rfl rfl rfl (hS.blk (i := 2) rfl) (by kernel_rfl) (by rw [agF_size]; kernel_rfl)) rfl (have hk := Hk.out; .inr ⟨by unfold aQ; rw [rdQ_7 hk]; exact h0, by unfold aQ; rw [rdQ_7 hk, drF_n]; rfl; exact (show ¬ ((byV (l, 0) : Nat) : Int) = 1 by omega), hS.ext⟩)
 ·
  have _f := h0
  go_upto_region 38 with fail
  refine RL hS ?_
  clear hS
  refine MV ?_
  refine Me (v := .int .i64 (enV (txS 32 (txS 16 (tkS 1 (l, 0)))))) (H' := [.b p11_2 #[str (txS 32 (txS 16 (tkS 1 (l, 0)))).1, .int .i64 (txS 32 (txS 16 (tkS 1 (l, 0)))).2] 105, .b p5_3 (agF [.c (.int .i64 (byV (l, 0) : Int)), .c (str (txV 16 (tkS 1 (l, 0)))), .c (str []), .c (str []), .c (.int .i64 0), .c (.int .i64 0), .c (.int .i64 0), .c (.int .i64 0), .c (str (txV 32 (txS 16 (tkS 1 (l, 0))))), .c (str []), .c (.int .i64 0), .c (.int .i64 0), .c (str [])]) 24, .b p2_1 (agF [.c (.int .i64 0), .c (str []), .c (str []), .c (str []), .c (.int .i64 0), .c (.int .i64 0), .c (.int .i64 0), .c (.int .i64 0), .c (str []), .c (str []), .c (.int .i64 0), .c (.int .i64 0), .c (str [])]) 24]) (fun W hS => callF [0] [1, 2] hS (fun hT => dend_l (l := (txS 32 (txS 16 (tkS 1 (l, 0)))).1) (e0 := (txS 32 (txS 16 (tkS 1 (l, 0)))).2) W hT) ⟨.inr ⟨rfl, rfl⟩, trivial⟩) ?_
  refine MW ?_ (v := .bool true) (hv := by intro W; go_simp; first | done | exact h0)
  refine MZ fun W hS => ?_
  go_upto_region 39 with fail
  refine RL hS ?_
  clear hS
  refine MF (v := .agg (agF [.c (.int .i64 0), .c (str []), .c (str []), .c (str []), .c (.int .i64 0), .c (.int .i64 0), .c (.int .i64 0), .c (.int .i64 0), .c (str []), .c (str []), .c (.int .i64 0), .c (.int .i64 0), .c (str [])])) (fun W hS => run_bld rfl rfl zer_custumalref24_Request plc_custumalref24_Request fill_n) ?_
  refine MR 2 ?_ (hz := by rw [agF_size]; kernel_rfl) (hs := by first | (rw [agF_size, agF_size]; rfl) | rfl) (h1 := by exact (agF_one ⟨rfl, rfl, rfl, rfl, rfl, rfl, rfl, rfl, rfl, rfl, rfl, rfl, rfl, trivial⟩))
  refine MW ?_ (v := .bool false)
  refine MZ fun W hS => ?_
  have hk := Hk.out
  go_wp2
  clear hk
  exact bodyPost_ret (res_c2 rfl rfl rfl (hS.blk (i := 2) rfl) (by kernel_rfl) (by rw [agF_size]; kernel_rfl)) rfl (have hk := Hk.out; .inl ⟨by unfold aQ; rw [rdQ_7 hk]; exact h0, rfl, hS.ext⟩)
theorem dasked_8 {l : List UInt8} (hk : byV (l, 0) = 8) (w : World) :
  Calls Try.prog 13 #[str l] w fun e w' => (enV (aQ l).2 ≠ 0 ∧ Ret (.tuple #[.agg zRR, .bool false]) w w' e) ∨ (enV (aQ l).2 = 0 ∧ Ret (.tuple #[.agg (drF (aQ l).1), .bool true]) w w' e) := by
 have Hk := Lib.hid hk
 have hk1 : byV (l, 0) ≤ 8 := by omega
 have hk2 : 8 ≤ byV (l, 0) := by omega
 clear hk
 have hS := SH.nil [] w
 go_enter Try.func13, Try.ntmps13
 go_upto_region 0 with fail
 refine RL hS ?_
 clear hS
 refine MN (z := agF [.c (.int .i64 0), .c (str []), .c (str []), .c (str []), .c (.int .i64 0), .c (.int .i64 0), .c (.int .i64 0), .c (.int .i64 0), .c (str []), .c (str []), .c (.int .i64 0), .c (.int .i64 0), .c (str [])]) (t := 24) ?_
 intro p2_1
 refine MW ?_ (v := .bool false)
 refine MZ fun W hS => ?_
 go_upto_region 1 with fail
 refine RL hS ?_
 clear hS
 refine MV ?_
 refine MF (v := .agg (agF [.c (str l), .c (.int .i64 0)])) (fun W hS => run_bld rfl rfl zer_custumalref04_Reader plc_custumalref04_Reader (fill_c fill_n (l' := [.c (str l), .c (.int .i64 0)]) (m := [.c (str l)]) (hv := rfl) (hs := agF_setp 0 1) (hp := rfl) (hn := rfl) (hb := by show 0 + 1 ≤ 2; decide))) ?_
 refine MN (z := agF [.c (str l), .c (.int .i64 0)]) (t := 105) ?_
 intro p11_2
 refine MT (H' := [.b p11_2 #[str (l, 0).1, .int .i64 (l, 0).2] 105, .b p2_1 (agF [.c (.int .i64 0), .c (str []), .c (str []), .c (str []), .c (.int .i64 0), .c (.int .i64 0), .c (.int .i64 0), .c (.int .i64 0), .c (str []), .c (str []), .c (.int .i64 0), .c (.int .i64 0), .c (str [])]) 24]) (fun W hS => hS) ?_
 refine MV ?_
 refine MZ fun W hS => ?_
 go_upto_region 2 with fail
 refine RL hS ?_
 clear hS
 refine MV ?_
 refine Me (v := .agg (agF [.c (.int .i64 1), .c (.int .i64 (byV (l, 0) : Int)), .a 32 0, .c (str [])])) (H' := [.b p11_2 #[str (tkS 1 (l, 0)).1, .int .i64 (tkS 1 (l, 0)).2] 105, .b p2_1 (agF [.c (.int .i64 0), .c (str []), .c (str []), .c (str []), .c (.int .i64 0), .c (.int .i64 0), .c (.int .i64 0), .c (.int .i64 0), .c (str []), .c (str []), .c (.int .i64 0), .c (.int .i64 0), .c (str [])]) 24]) (fun W hS => callF [0] [1] hS (fun hT => dnext_1 (s := (l, 0)) 0 W hT) ⟨.inr ⟨rfl, rfl⟩, trivial⟩) ?_
 refine MW ?_ (v := .int .i64 (byV (l, 0) : Int)) (hv := by intro W; kernel_rfl)
 refine MF (v := .agg (agF [.c (.int .i64 (byV (l, 0) : Int)), .c (str []), .c (str []), .c (str []), .c (.int .i64 0), .c (.int .i64 0), .c (.int .i64 0), .c (.int .i64 0), .c (str []), .c (str []), .c (.int .i64 0), .c (.int .i64 0), .c (str [])])) (fun W hS => run_bld rfl rfl zer_custumalref24_Request plc_custumalref24_Request (fill_c fill_n (l' := [.c (.int .i64 (byV (l, 0) : Int)), .c (str []), .c (str []), .c (str []), .c (.int .i64 0), .c (.int .i64 0), .c (.int .i64 0), .c (.int .i64 0), .c (str []), .c (str []), .c (.int .i64 0), .c (.int .i64 0), .c (str [])]) (m := [.c (.int .i64 (byV (l, 0) : Int))]) (hv := rfl) (hs := agF_setp 0 1) (hp := rfl) (hn := rfl) (hb := by show 0 + 1 ≤ 13; decide))) ?_
 refine MN (z := agF [.c (.int .i64 0), .c (str []), .c (str []), .c (str []), .c (.int .i64 0), .c (.int .i64 0), .c (.int .i64 0), .c (.int .i64 0), .c (str []), .c (str []), .c (.int .i64 0), .c (.int .i64 0), .c (str [])]) (t := 24) ?_
 intro p5_3
 refine MR 0 ?_ (hz := by rw [agF_size]; kernel_rfl) (hs := by first | (rw [agF_size, agF_size]; rfl) | rfl) (h1 := by exact (agF_one ⟨rfl, rfl, rfl, rfl, rfl, rfl, rfl, rfl, rfl, rfl, rfl, rfl, rfl, trivial⟩))
 refine MZ fun W hS => ?_
 go_upto_region 3 with fail
 refine RL hS ?_
 clear hS
 refine MV ?_
 refine MG 0 ?_ (v := .int .i64 (byV (l, 0) : Int)) (hj := (agF_cel 0))
 refine MZ fun W hS => ?_
 go_upto_region 5 with fail
 refine RL hS ?_
 clear hS
 refine MW ?_ (v := .bool false) (hv := by intro W; go_simp; first | done | omega | assumption)
 refine MW ?_ (v := .bool false)
 refine MZ fun W hS => ?_
 go_upto_region 14 with fail
 refine RL hS ?_
 clear hS
 refine MW ?_ (v := .bool false) (hv := by intro W; go_simp; first | done | omega | assumption)
 refine MW ?_ (v := .bool false)
 refine MZ fun W hS => ?_
 go_upto_region 18 with fail
 refine RL hS ?_
 clear hS
 refine MW ?_ (v := .bool false) (hv := by intro W; go_simp; first | done | omega | assumption)
 refine MW ?_ (v := .bool false)
 refine MZ fun W hS => ?_
 go_upto_region 19 with fail
 refine RL hS ?_
 clear hS
 refine MW ?_ (v := .bool false) (hv := by intro W; go_simp; first | done | omega | assumption)
 refine MW ?_ (v := .bool false)
 refine MZ fun W hS => ?_
 go_upto_region 24 with fail
 refine RL hS ?_
 clear hS
 refine MW ?_ (v := .bool true) (hv := by intro W; go_simp; first | done | omega | assumption)
 refine MW ?_ (v := .bool true)
 refine MZ fun W hS => ?_
 go_upto_region 26 with fail
 refine RL hS ?_
 clear hS
 refine MV ?_
 refine MG 0 ?_ (v := .int .i64 (byV (l, 0) : Int)) (hj := (agF_cel 0))
 refine MW ?_ (v := .bool true) (hv := by intro W; go_simp; first | done | omega | assumption)
 refine MZ fun W hS => ?_
 go_upto_region 27 with fail
 refine RL hS ?_
 clear hS
 refine MV ?_
 refine Me (v := .agg (agF [.c (.int .i64 5), .c (.int .i64 0), .a 32 0, .c (str (txV 16 (tkS 1 (l, 0))))])) (H' := [.b p11_2 #[str (txS 16 (tkS 1 (l, 0))).1, .int .i64 (txS 16 (tkS 1 (l, 0))).2] 105, .b p5_3 (agF [.c (.int .i64 (byV (l, 0) : Int)), .c (str []), .c (str []), .c (str []), .c (.int .i64 0), .c (.int .i64 0), .c (.int .i64 0), .c (.int .i64 0), .c (str []), .c (str []), .c (.int .i64 0), .c (.int .i64 0), .c (str [])]) 24, .b p2_1 (agF [.c (.int .i64 0), .c (str []), .c (str []), .c (str []), .c (.int .i64 0), .c (.int .i64 0), .c (.int .i64 0), .c (.int .i64 0), .c (str []), .c (str []), .c (.int .i64 0), .c (.int .i64 0), .c (str [])]) 24]) (fun W hS => callF [1] [0, 2] hS (fun hT => dnext_5 (s := tkS 1 (l, 0)) 16 W hT) ⟨.inr ⟨rfl, rfl⟩, trivial⟩) ?_
 refine MW ?_ (v := str (txV 16 (tkS 1 (l, 0)))) (hv := by intro W; kernel_rfl)
 refine MV ?_
 refine MP 1 (v := str (txV 16 (tkS 1 (l, 0)))) (cs' := agF [.c (.int .i64 (byV (l, 0) : Int)), .c (str (txV 16 (tkS 1 (l, 0)))), .c (str []), .c (str []), .c (.int .i64 0), .c (.int .i64 0), .c (.int .i64 0), .c (.int .i64 0), .c (str []), .c (str []), .c (.int .i64 0), .c (.int .i64 0), .c (str [])]) ?_ (hs := by rw [agF_size]; show 1 < 13; decide) (hc := agF_setc 1)
 refine MZ fun W hS => ?_
 go_upto_region 28 with fail
 refine RL hS ?_
 clear hS
 refine MV ?_
 refine Me (v := .agg (agF [.c (.int .i64 3), .c (.int .i64 (nuV (txS 16 (tkS 1 (l, 0))))), .a 32 0, .c (str [])])) (H' := [.b p11_2 #[str (tkS 8 (txS 16 (tkS 1 (l, 0)))).1, .int .i64 (tkS 8 (txS 16 (tkS 1 (l, 0)))).2] 105, .b p5_3 (agF [.c (.int .i64 (byV (l, 0) : Int)), .c (str (txV 16 (tkS 1 (l, 0)))), .c (str []), .c (str []), .c (.int .i64 0), .c (.int .i64 0), .c (.int .i64 0), .c (.int .i64 0), .c (str []), .c (str []), .c (.int .i64 0), .c (.int .i64 0), .c (str [])]) 24, .b p2_1 (agF [.c (.int .i64 0), .c (str []), .c (str []), .c (str []), .c (.int .i64 0), .c (.int .i64 0), .c (.int .i64 0), .c (.int .i64 0), .c (str []), .c (str []), .c (.int .i64 0), .c (.int .i64 0), .c (str [])]) 24]) (fun W hS => callF [0] [1, 2] hS (fun hT => dnext_3 (s := txS 16 (tkS 1 (l, 0))) 0 W hT) ⟨.inr ⟨rfl, rfl⟩, trivial⟩) ?_
 refine MW ?_ (v := .int .i64 (nuV (txS 16 (tkS 1 (l, 0))))) (hv := by intro W; kernel_rfl)
 refine MV ?_
 refine MP 1 (v := .int .i64 (nuV (txS 16 (tkS 1 (l, 0))))) (cs' := agF [.c (.int .i64 (byV (l, 0) : Int)), .c (str (txV 16 (tkS 1 (l, 0)))), .c (str []), .c (str []), .c (.int .i64 0), .c (.int .i64 0), .c (.int .i64 0), .c (.int .i64 0), .c (str []), .c (str []), .c (.int .i64 (nuV (txS 16 (tkS 1 (l, 0))))), .c (.int .i64 0), .c (str [])]) ?_ (hs := by rw [agF_size]; show 10 < 13; decide) (hc := agF_setc 10)
 refine MZ fun W hS => ?_
 go_upto_region 29 with fail
 refine RL hS ?_
 clear hS
 refine MV ?_
 refine Me (v := .agg (agF [.c (.int .i64 3), .c (.int .i64 (nuV (tkS 8 (txS 16 (tkS 1 (l, 0)))))), .a 32 0, .c (str [])])) (H' := [.b p11_2 #[str (tkS 8 (tkS 8 (txS 16 (tkS 1 (l, 0))))).1, .int .i64 (tkS 8 (tkS 8 (txS 16 (tkS 1 (l, 0))))).2] 105, .b p5_3 (agF [.c (.int .i64 (byV (l, 0) : Int)), .c (str (txV 16 (tkS 1 (l, 0)))), .c (str []), .c (str []), .c (.int .i64 0), .c (.int .i64 0), .c (.int .i64 0), .c (.int .i64 0), .c (str []), .c (str []), .c (.int .i64 (nuV (txS 16 (tkS 1 (l, 0))))), .c (.int .i64 0), .c (str [])]) 24, .b p2_1 (agF [.c (.int .i64 0), .c (str []), .c (str []), .c (str []), .c (.int .i64 0), .c (.int .i64 0), .c (.int .i64 0), .c (.int .i64 0), .c (str []), .c (str []), .c (.int .i64 0), .c (.int .i64 0), .c (str [])]) 24]) (fun W hS => callF [0] [1, 2] hS (fun hT => dnext_3 (s := tkS 8 (txS 16 (tkS 1 (l, 0)))) 0 W hT) ⟨.inr ⟨rfl, rfl⟩, trivial⟩) ?_
 refine MW ?_ (v := .int .i64 (nuV (tkS 8 (txS 16 (tkS 1 (l, 0)))))) (hv := by intro W; kernel_rfl)
 refine MV ?_
 refine MP 1 (v := .int .i64 (nuV (tkS 8 (txS 16 (tkS 1 (l, 0)))))) (cs' := agF [.c (.int .i64 (byV (l, 0) : Int)), .c (str (txV 16 (tkS 1 (l, 0)))), .c (str []), .c (str []), .c (.int .i64 0), .c (.int .i64 0), .c (.int .i64 0), .c (.int .i64 0), .c (str []), .c (str []), .c (.int .i64 (nuV (txS 16 (tkS 1 (l, 0))))), .c (.int .i64 (nuV (tkS 8 (txS 16 (tkS 1 (l, 0)))))), .c (str [])]) ?_ (hs := by rw [agF_size]; show 11 < 13; decide) (hc := agF_setc 11)
 refine MZ fun W hS => ?_
 by_cases h0 : enV (tkS 8 (tkS 8 (txS 16 (tkS 1 (l, 0))))) = 0
 ·
  have _f := h0
  go_upto_region 38 with fail
  refine RL hS ?_
  clear hS
  refine MV ?_
  refine Me (v := .int .i64 (enV (tkS 8 (tkS 8 (txS 16 (tkS 1 (l, 0))))))) (H' := [.b p11_2 #[str (tkS 8 (tkS 8 (txS 16 (tkS 1 (l, 0))))).1, .int .i64 (tkS 8 (tkS 8 (txS 16 (tkS 1 (l, 0))))).2] 105, .b p5_3 (agF [.c (.int .i64 (byV (l, 0) : Int)), .c (str (txV 16 (tkS 1 (l, 0)))), .c (str []), .c (str []), .c (.int .i64 0), .c (.int .i64 0), .c (.int .i64 0), .c (.int .i64 0), .c (str []), .c (str []), .c (.int .i64 (nuV (txS 16 (tkS 1 (l, 0))))), .c (.int .i64 (nuV (tkS 8 (txS 16 (tkS 1 (l, 0)))))), .c (str [])]) 24, .b p2_1 (agF [.c (.int .i64 0), .c (str []), .c (str []), .c (str []), .c (.int .i64 0), .c (.int .i64 0), .c (.int .i64 0), .c (.int .i64 0), .c (str []), .c (str []), .c (.int .i64 0), .c (.int .i64 0), .c (str [])]) 24]) (fun W hS => callF [0] [1, 2] hS (fun hT => dend_l (l := (tkS 8 (tkS 8 (txS 16 (tkS 1 (l, 0))))).1) (e0 := (tkS 8 (tkS 8 (txS 16 (tkS 1 (l, 0))))).2) W hT) ⟨.inr ⟨rfl, rfl⟩, trivial⟩) ?_
  refine MW ?_ (v := .bool false) (hv := by intro W; go_simp; first | done | exact h0)
  refine MZ fun W hS => ?_
  go_upto_region 40 with fail
  refine RL hS ?_
  clear hS
  refine ML 1 ?_ (hs := by rw [agF_size]; kernel_rfl)
  refine MR 2 ?_ (hz := by rw [agF_size]; kernel_rfl) (hs := by first | (rw [agF_size, agF_size]; rfl) | rfl) (h1 := by exact (agF_one ⟨rfl, rfl, rfl, rfl, rfl, rfl, rfl, rfl, rfl, rfl, rfl, rfl, rfl, trivial⟩))
  refine MW ?_ (v := .bool true)
  refine MZ fun W hS => ?_
  have hk := Hk.out
  go_wp2
  clear hk
  exact bodyPost_ret (res_c2 rfl rfl rfl (hS.blk (i := 2) rfl) (by kernel_rfl) (by rw [agF_size]; kernel_rfl)) rfl (have hk := Hk.out; .inr ⟨by unfold aQ; rw [rdQ_8 hk]; exact h0, by unfold aQ; rw [rdQ_8 hk, drF_n]; rfl; exact (show ¬ ((byV (l, 0) : Nat) : Int) = 1 by omega), hS.ext⟩)
 ·
  have _f := h0
  go_upto_region 38 with fail
  refine RL hS ?_
  clear hS
  refine MV ?_
  refine Me (v := .int .i64 (enV (tkS 8 (tkS 8 (txS 16 (tkS 1 (l, 0))))))) (H' := [.b p11_2 #[str (tkS 8 (tkS 8 (txS 16 (tkS 1 (l, 0))))).1, .int .i64 (tkS 8 (tkS 8 (txS 16 (tkS 1 (l, 0))))).2] 105, .b p5_3 (agF [.c (.int .i64 (byV (l, 0) : Int)), .c (str (txV 16 (tkS 1 (l, 0)))), .c (str []), .c (str []), .c (.int .i64 0), .c (.int .i64 0), .c (.int .i64 0), .c (.int .i64 0), .c (str []), .c (str []), .c (.int .i64 (nuV (txS 16 (tkS 1 (l, 0))))), .c (.int .i64 (nuV (tkS 8 (txS 16 (tkS 1 (l, 0)))))), .c (str [])]) 24, .b p2_1 (agF [.c (.int .i64 0), .c (str []), .c (str []), .c (str []), .c (.int .i64 0), .c (.int .i64 0), .c (.int .i64 0), .c (.int .i64 0), .c (str []), .c (str []), .c (.int .i64 0), .c (.int .i64 0), .c (str [])]) 24]) (fun W hS => callF [0] [1, 2] hS (fun hT => dend_l (l := (tkS 8 (tkS 8 (txS 16 (tkS 1 (l, 0))))).1) (e0 := (tkS 8 (tkS 8 (txS 16 (tkS 1 (l, 0))))).2) W hT) ⟨.inr ⟨rfl, rfl⟩, trivial⟩) ?_
  refine MW ?_ (v := .bool true) (hv := by intro W; go_simp; first | done | exact h0)
  refine MZ fun W hS => ?_
  go_upto_region 39 with fail
  refine RL hS ?_
  clear hS
  refine MF (v := .agg (agF [.c (.int .i64 0), .c (str []), .c (str []), .c (str []), .c (.int .i64 0), .c (.int .i64 0), .c (.int .i64 0), .c (.int .i64 0), .c (str []), .c (str []), .c (.int .i64 0), .c (.int .i64 0), .c (str [])])) (fun W hS => run_bld rfl rfl zer_custumalref24_Request plc_custumalref24_Request fill_n) ?_
  refine MR 2 ?_ (hz := by rw [agF_size]; kernel_rfl) (hs := by first | (rw [agF_size, agF_size]; rfl) | rfl) (h1 := by exact (agF_one ⟨rfl, rfl, rfl, rfl, rfl, rfl, rfl, rfl, rfl, rfl, rfl, rfl, rfl, trivial⟩))
  refine MW ?_ (v := .bool false)
  refine MZ fun W hS => ?_
  have hk := Hk.out
  go_wp2
  clear hk
  exact bodyPost_ret (res_c2 rfl rfl rfl (hS.blk (i := 2) rfl) (by kernel_rfl) (by rw [agF_size]; kernel_rfl)) rfl (have hk := Hk.out; .inl ⟨by unfold aQ; rw [rdQ_8 hk]; exact h0, rfl, hS.ext⟩)
theorem dasked_9 {l : List UInt8} (hk : byV (l, 0) = 9) (w : World) :
  Calls Try.prog 13 #[str l] w fun e w' => (enV (aQ l).2 ≠ 0 ∧ Ret (.tuple #[.agg zRR, .bool false]) w w' e) ∨ (enV (aQ l).2 = 0 ∧ Ret (.tuple #[.agg (drF (aQ l).1), .bool true]) w w' e) := by
 have Hk := Lib.hid hk
 have hk1 : byV (l, 0) ≤ 9 := by omega
 have hk2 : 9 ≤ byV (l, 0) := by omega
 clear hk
 have hS := SH.nil [] w
 go_enter Try.func13, Try.ntmps13
 go_upto_region 0 with fail
 refine RL hS ?_
 clear hS
 refine MN (z := agF [.c (.int .i64 0), .c (str []), .c (str []), .c (str []), .c (.int .i64 0), .c (.int .i64 0), .c (.int .i64 0), .c (.int .i64 0), .c (str []), .c (str []), .c (.int .i64 0), .c (.int .i64 0), .c (str [])]) (t := 24) ?_
 intro p2_1
 refine MW ?_ (v := .bool false)
 refine MZ fun W hS => ?_
 go_upto_region 1 with fail
 refine RL hS ?_
 clear hS
 refine MV ?_
 refine MF (v := .agg (agF [.c (str l), .c (.int .i64 0)])) (fun W hS => run_bld rfl rfl zer_custumalref04_Reader plc_custumalref04_Reader (fill_c fill_n (l' := [.c (str l), .c (.int .i64 0)]) (m := [.c (str l)]) (hv := rfl) (hs := agF_setp 0 1) (hp := rfl) (hn := rfl) (hb := by show 0 + 1 ≤ 2; decide))) ?_
 refine MN (z := agF [.c (str l), .c (.int .i64 0)]) (t := 105) ?_
 intro p11_2
 refine MT (H' := [.b p11_2 #[str (l, 0).1, .int .i64 (l, 0).2] 105, .b p2_1 (agF [.c (.int .i64 0), .c (str []), .c (str []), .c (str []), .c (.int .i64 0), .c (.int .i64 0), .c (.int .i64 0), .c (.int .i64 0), .c (str []), .c (str []), .c (.int .i64 0), .c (.int .i64 0), .c (str [])]) 24]) (fun W hS => hS) ?_
 refine MV ?_
 refine MZ fun W hS => ?_
 go_upto_region 2 with fail
 refine RL hS ?_
 clear hS
 refine MV ?_
 refine Me (v := .agg (agF [.c (.int .i64 1), .c (.int .i64 (byV (l, 0) : Int)), .a 32 0, .c (str [])])) (H' := [.b p11_2 #[str (tkS 1 (l, 0)).1, .int .i64 (tkS 1 (l, 0)).2] 105, .b p2_1 (agF [.c (.int .i64 0), .c (str []), .c (str []), .c (str []), .c (.int .i64 0), .c (.int .i64 0), .c (.int .i64 0), .c (.int .i64 0), .c (str []), .c (str []), .c (.int .i64 0), .c (.int .i64 0), .c (str [])]) 24]) (fun W hS => callF [0] [1] hS (fun hT => dnext_1 (s := (l, 0)) 0 W hT) ⟨.inr ⟨rfl, rfl⟩, trivial⟩) ?_
 refine MW ?_ (v := .int .i64 (byV (l, 0) : Int)) (hv := by intro W; kernel_rfl)
 refine MF (v := .agg (agF [.c (.int .i64 (byV (l, 0) : Int)), .c (str []), .c (str []), .c (str []), .c (.int .i64 0), .c (.int .i64 0), .c (.int .i64 0), .c (.int .i64 0), .c (str []), .c (str []), .c (.int .i64 0), .c (.int .i64 0), .c (str [])])) (fun W hS => run_bld rfl rfl zer_custumalref24_Request plc_custumalref24_Request (fill_c fill_n (l' := [.c (.int .i64 (byV (l, 0) : Int)), .c (str []), .c (str []), .c (str []), .c (.int .i64 0), .c (.int .i64 0), .c (.int .i64 0), .c (.int .i64 0), .c (str []), .c (str []), .c (.int .i64 0), .c (.int .i64 0), .c (str [])]) (m := [.c (.int .i64 (byV (l, 0) : Int))]) (hv := rfl) (hs := agF_setp 0 1) (hp := rfl) (hn := rfl) (hb := by show 0 + 1 ≤ 13; decide))) ?_
 refine MN (z := agF [.c (.int .i64 0), .c (str []), .c (str []), .c (str []), .c (.int .i64 0), .c (.int .i64 0), .c (.int .i64 0), .c (.int .i64 0), .c (str []), .c (str []), .c (.int .i64 0), .c (.int .i64 0), .c (str [])]) (t := 24) ?_
 intro p5_3
 refine MR 0 ?_ (hz := by rw [agF_size]; kernel_rfl) (hs := by first | (rw [agF_size, agF_size]; rfl) | rfl) (h1 := by exact (agF_one ⟨rfl, rfl, rfl, rfl, rfl, rfl, rfl, rfl, rfl, rfl, rfl, rfl, rfl, trivial⟩))
 refine MZ fun W hS => ?_
 go_upto_region 3 with fail
 refine RL hS ?_
 clear hS
 refine MV ?_
 refine MG 0 ?_ (v := .int .i64 (byV (l, 0) : Int)) (hj := (agF_cel 0))
 refine MZ fun W hS => ?_
 go_upto_region 5 with fail
 refine RL hS ?_
 clear hS
 refine MW ?_ (v := .bool false) (hv := by intro W; go_simp; first | done | omega | assumption)
 refine MW ?_ (v := .bool false)
 refine MZ fun W hS => ?_
 go_upto_region 14 with fail
 refine RL hS ?_
 clear hS
 refine MW ?_ (v := .bool false) (hv := by intro W; go_simp; first | done | omega | assumption)
 refine MW ?_ (v := .bool false)
 refine MZ fun W hS => ?_
 go_upto_region 18 with fail
 refine RL hS ?_
 clear hS
 refine MW ?_ (v := .bool false) (hv := by intro W; go_simp; first | done | omega | assumption)
 refine MW ?_ (v := .bool false)
 refine MZ fun W hS => ?_
 go_upto_region 19 with fail
 refine RL hS ?_
 clear hS
 refine MW ?_ (v := .bool false) (hv := by intro W; go_simp; first | done | omega | assumption)
 refine MW ?_ (v := .bool false)
 refine MZ fun W hS => ?_
 go_upto_region 24 with fail
 refine RL hS ?_
 clear hS
 refine MW ?_ (v := .bool false) (hv := by intro W; go_simp; first | done | omega | assumption)
 refine MW ?_ (v := .bool false)
 refine MZ fun W hS => ?_
 go_upto_region 25 with fail
 refine RL hS ?_
 clear hS
 refine MW ?_ (v := .bool false) (hv := by intro W; go_simp; first | done | omega | assumption)
 refine MW ?_ (v := .bool false)
 refine MZ fun W hS => ?_
 go_upto_region 30 with fail
 refine RL hS ?_
 clear hS
 refine MW ?_ (v := .bool false) (hv := by intro W; go_simp; first | done | omega | assumption)
 refine MW ?_ (v := .bool false)
 refine MZ fun W hS => ?_
 go_upto_region 32 with fail
 refine RL hS ?_
 clear hS
 refine MW ?_ (v := .bool false) (hv := by intro W; go_simp; first | done | omega | assumption)
 refine MW ?_ (v := .bool false)
 refine MZ fun W hS => ?_
 go_upto_region 33 with fail
 refine RL hS ?_
 clear hS
 refine MW ?_ (v := .bool false) (hv := by intro W; go_simp; first | done | omega | assumption)
 refine MW ?_ (v := .bool false)
 refine MZ fun W hS => ?_
 go_upto_region 34 with fail
 refine RL hS ?_
 clear hS
 refine MW ?_ (v := .bool false) (hv := by intro W; go_simp; first | done | omega | assumption)
 refine MW ?_ (v := .bool false)
 refine MZ fun W hS => ?_
 go_upto_region 35 with fail
 refine RL hS ?_
 clear hS
 refine MW ?_ (v := .bool true) (hv := by intro W; go_simp; first | done | omega | assumption)
 refine MW ?_ (v := .bool true)
 refine MZ fun W hS => ?_
 go_upto_region 37 with fail
 refine RL hS ?_
 clear hS
 refine MV ?_
 refine Me (v := .agg (agF [.c (.int .i64 5), .c (.int .i64 0), .a 32 0, .c (str (txV 16 (tkS 1 (l, 0))))])) (H' := [.b p11_2 #[str (txS 16 (tkS 1 (l, 0))).1, .int .i64 (txS 16 (tkS 1 (l, 0))).2] 105, .b p5_3 (agF [.c (.int .i64 (byV (l, 0) : Int)), .c (str []), .c (str []), .c (str []), .c (.int .i64 0), .c (.int .i64 0), .c (.int .i64 0), .c (.int .i64 0), .c (str []), .c (str []), .c (.int .i64 0), .c (.int .i64 0), .c (str [])]) 24, .b p2_1 (agF [.c (.int .i64 0), .c (str []), .c (str []), .c (str []), .c (.int .i64 0), .c (.int .i64 0), .c (.int .i64 0), .c (.int .i64 0), .c (str []), .c (str []), .c (.int .i64 0), .c (.int .i64 0), .c (str [])]) 24]) (fun W hS => callF [1] [0, 2] hS (fun hT => dnext_5 (s := tkS 1 (l, 0)) 16 W hT) ⟨.inr ⟨rfl, rfl⟩, trivial⟩) ?_
 refine MW ?_ (v := str (txV 16 (tkS 1 (l, 0)))) (hv := by intro W; kernel_rfl)
 refine MV ?_
 refine MP 1 (v := str (txV 16 (tkS 1 (l, 0)))) (cs' := agF [.c (.int .i64 (byV (l, 0) : Int)), .c (str (txV 16 (tkS 1 (l, 0)))), .c (str []), .c (str []), .c (.int .i64 0), .c (.int .i64 0), .c (.int .i64 0), .c (.int .i64 0), .c (str []), .c (str []), .c (.int .i64 0), .c (.int .i64 0), .c (str [])]) ?_ (hs := by rw [agF_size]; show 1 < 13; decide) (hc := agF_setc 1)
 refine MZ fun W hS => ?_
 by_cases h0 : enV (txS 16 (tkS 1 (l, 0))) = 0
 ·
  have _f := h0
  go_upto_region 38 with fail
  refine RL hS ?_
  clear hS
  refine MV ?_
  refine Me (v := .int .i64 (enV (txS 16 (tkS 1 (l, 0))))) (H' := [.b p11_2 #[str (txS 16 (tkS 1 (l, 0))).1, .int .i64 (txS 16 (tkS 1 (l, 0))).2] 105, .b p5_3 (agF [.c (.int .i64 (byV (l, 0) : Int)), .c (str (txV 16 (tkS 1 (l, 0)))), .c (str []), .c (str []), .c (.int .i64 0), .c (.int .i64 0), .c (.int .i64 0), .c (.int .i64 0), .c (str []), .c (str []), .c (.int .i64 0), .c (.int .i64 0), .c (str [])]) 24, .b p2_1 (agF [.c (.int .i64 0), .c (str []), .c (str []), .c (str []), .c (.int .i64 0), .c (.int .i64 0), .c (.int .i64 0), .c (.int .i64 0), .c (str []), .c (str []), .c (.int .i64 0), .c (.int .i64 0), .c (str [])]) 24]) (fun W hS => callF [0] [1, 2] hS (fun hT => dend_l (l := (txS 16 (tkS 1 (l, 0))).1) (e0 := (txS 16 (tkS 1 (l, 0))).2) W hT) ⟨.inr ⟨rfl, rfl⟩, trivial⟩) ?_
  refine MW ?_ (v := .bool false) (hv := by intro W; go_simp; first | done | exact h0)
  refine MZ fun W hS => ?_
  go_upto_region 40 with fail
  refine RL hS ?_
  clear hS
  refine ML 1 ?_ (hs := by rw [agF_size]; kernel_rfl)
  refine MR 2 ?_ (hz := by rw [agF_size]; kernel_rfl) (hs := by first | (rw [agF_size, agF_size]; rfl) | rfl) (h1 := by exact (agF_one ⟨rfl, rfl, rfl, rfl, rfl, rfl, rfl, rfl, rfl, rfl, rfl, rfl, rfl, trivial⟩))
  refine MW ?_ (v := .bool true)
  refine MZ fun W hS => ?_
  have hk := Hk.out
  go_wp2
  clear hk
  exact bodyPost_ret (res_c2 rfl rfl rfl (hS.blk (i := 2) rfl) (by kernel_rfl) (by rw [agF_size]; kernel_rfl)) rfl (have hk := Hk.out; .inr ⟨by unfold aQ; rw [rdQ_0 (by omega)]; exact h0, by unfold aQ; rw [rdQ_0 (by omega), drF_n]; rfl; exact (show ¬ ((byV (l, 0) : Nat) : Int) = 1 by omega), hS.ext⟩)
 ·
  have _f := h0
  go_upto_region 38 with fail
  refine RL hS ?_
  clear hS
  refine MV ?_
  refine Me (v := .int .i64 (enV (txS 16 (tkS 1 (l, 0))))) (H' := [.b p11_2 #[str (txS 16 (tkS 1 (l, 0))).1, .int .i64 (txS 16 (tkS 1 (l, 0))).2] 105, .b p5_3 (agF [.c (.int .i64 (byV (l, 0) : Int)), .c (str (txV 16 (tkS 1 (l, 0)))), .c (str []), .c (str []), .c (.int .i64 0), .c (.int .i64 0), .c (.int .i64 0), .c (.int .i64 0), .c (str []), .c (str []), .c (.int .i64 0), .c (.int .i64 0), .c (str [])]) 24, .b p2_1 (agF [.c (.int .i64 0), .c (str []), .c (str []), .c (str []), .c (.int .i64 0), .c (.int .i64 0), .c (.int .i64 0), .c (.int .i64 0), .c (str []), .c (str []), .c (.int .i64 0), .c (.int .i64 0), .c (str [])]) 24]) (fun W hS => callF [0] [1, 2] hS (fun hT => dend_l (l := (txS 16 (tkS 1 (l, 0))).1) (e0 := (txS 16 (tkS 1 (l, 0))).2) W hT) ⟨.inr ⟨rfl, rfl⟩, trivial⟩) ?_
  refine MW ?_ (v := .bool true) (hv := by intro W; go_simp; first | done | exact h0)
  refine MZ fun W hS => ?_
  go_upto_region 39 with fail
  refine RL hS ?_
  clear hS
  refine MF (v := .agg (agF [.c (.int .i64 0), .c (str []), .c (str []), .c (str []), .c (.int .i64 0), .c (.int .i64 0), .c (.int .i64 0), .c (.int .i64 0), .c (str []), .c (str []), .c (.int .i64 0), .c (.int .i64 0), .c (str [])])) (fun W hS => run_bld rfl rfl zer_custumalref24_Request plc_custumalref24_Request fill_n) ?_
  refine MR 2 ?_ (hz := by rw [agF_size]; kernel_rfl) (hs := by first | (rw [agF_size, agF_size]; rfl) | rfl) (h1 := by exact (agF_one ⟨rfl, rfl, rfl, rfl, rfl, rfl, rfl, rfl, rfl, rfl, rfl, rfl, rfl, trivial⟩))
  refine MW ?_ (v := .bool false)
  refine MZ fun W hS => ?_
  have hk := Hk.out
  go_wp2
  clear hk
  exact bodyPost_ret (res_c2 rfl rfl rfl (hS.blk (i := 2) rfl) (by kernel_rfl) (by rw [agF_size]; kernel_rfl)) rfl (have hk := Hk.out; .inl ⟨by unfold aQ; rw [rdQ_0 (by omega)]; exact h0, rfl, hS.ext⟩)
theorem dasked_10 {l : List UInt8} (hk : byV (l, 0) = 10) (w : World) :
  Calls Try.prog 13 #[str l] w fun e w' => (enV (aQ l).2 ≠ 0 ∧ Ret (.tuple #[.agg zRR, .bool false]) w w' e) ∨ (enV (aQ l).2 = 0 ∧ Ret (.tuple #[.agg (drF (aQ l).1), .bool true]) w w' e) := by
 have Hk := Lib.hid hk
 have hk1 : byV (l, 0) ≤ 10 := by omega
 have hk2 : 10 ≤ byV (l, 0) := by omega
 clear hk
 have hS := SH.nil [] w
 go_enter Try.func13, Try.ntmps13
 go_upto_region 0 with fail
 refine RL hS ?_
 clear hS
 refine MN (z := agF [.c (.int .i64 0), .c (str []), .c (str []), .c (str []), .c (.int .i64 0), .c (.int .i64 0), .c (.int .i64 0), .c (.int .i64 0), .c (str []), .c (str []), .c (.int .i64 0), .c (.int .i64 0), .c (str [])]) (t := 24) ?_
 intro p2_1
 refine MW ?_ (v := .bool false)
 refine MZ fun W hS => ?_
 go_upto_region 1 with fail
 refine RL hS ?_
 clear hS
 refine MV ?_
 refine MF (v := .agg (agF [.c (str l), .c (.int .i64 0)])) (fun W hS => run_bld rfl rfl zer_custumalref04_Reader plc_custumalref04_Reader (fill_c fill_n (l' := [.c (str l), .c (.int .i64 0)]) (m := [.c (str l)]) (hv := rfl) (hs := agF_setp 0 1) (hp := rfl) (hn := rfl) (hb := by show 0 + 1 ≤ 2; decide))) ?_
 refine MN (z := agF [.c (str l), .c (.int .i64 0)]) (t := 105) ?_
 intro p11_2
 refine MT (H' := [.b p11_2 #[str (l, 0).1, .int .i64 (l, 0).2] 105, .b p2_1 (agF [.c (.int .i64 0), .c (str []), .c (str []), .c (str []), .c (.int .i64 0), .c (.int .i64 0), .c (.int .i64 0), .c (.int .i64 0), .c (str []), .c (str []), .c (.int .i64 0), .c (.int .i64 0), .c (str [])]) 24]) (fun W hS => hS) ?_
 refine MV ?_
 refine MZ fun W hS => ?_
 go_upto_region 2 with fail
 refine RL hS ?_
 clear hS
 refine MV ?_
 refine Me (v := .agg (agF [.c (.int .i64 1), .c (.int .i64 (byV (l, 0) : Int)), .a 32 0, .c (str [])])) (H' := [.b p11_2 #[str (tkS 1 (l, 0)).1, .int .i64 (tkS 1 (l, 0)).2] 105, .b p2_1 (agF [.c (.int .i64 0), .c (str []), .c (str []), .c (str []), .c (.int .i64 0), .c (.int .i64 0), .c (.int .i64 0), .c (.int .i64 0), .c (str []), .c (str []), .c (.int .i64 0), .c (.int .i64 0), .c (str [])]) 24]) (fun W hS => callF [0] [1] hS (fun hT => dnext_1 (s := (l, 0)) 0 W hT) ⟨.inr ⟨rfl, rfl⟩, trivial⟩) ?_
 refine MW ?_ (v := .int .i64 (byV (l, 0) : Int)) (hv := by intro W; kernel_rfl)
 refine MF (v := .agg (agF [.c (.int .i64 (byV (l, 0) : Int)), .c (str []), .c (str []), .c (str []), .c (.int .i64 0), .c (.int .i64 0), .c (.int .i64 0), .c (.int .i64 0), .c (str []), .c (str []), .c (.int .i64 0), .c (.int .i64 0), .c (str [])])) (fun W hS => run_bld rfl rfl zer_custumalref24_Request plc_custumalref24_Request (fill_c fill_n (l' := [.c (.int .i64 (byV (l, 0) : Int)), .c (str []), .c (str []), .c (str []), .c (.int .i64 0), .c (.int .i64 0), .c (.int .i64 0), .c (.int .i64 0), .c (str []), .c (str []), .c (.int .i64 0), .c (.int .i64 0), .c (str [])]) (m := [.c (.int .i64 (byV (l, 0) : Int))]) (hv := rfl) (hs := agF_setp 0 1) (hp := rfl) (hn := rfl) (hb := by show 0 + 1 ≤ 13; decide))) ?_
 refine MN (z := agF [.c (.int .i64 0), .c (str []), .c (str []), .c (str []), .c (.int .i64 0), .c (.int .i64 0), .c (.int .i64 0), .c (.int .i64 0), .c (str []), .c (str []), .c (.int .i64 0), .c (.int .i64 0), .c (str [])]) (t := 24) ?_
 intro p5_3
 refine MR 0 ?_ (hz := by rw [agF_size]; kernel_rfl) (hs := by first | (rw [agF_size, agF_size]; rfl) | rfl) (h1 := by exact (agF_one ⟨rfl, rfl, rfl, rfl, rfl, rfl, rfl, rfl, rfl, rfl, rfl, rfl, rfl, trivial⟩))
 refine MZ fun W hS => ?_
 go_upto_region 3 with fail
 refine RL hS ?_
 clear hS
 refine MV ?_
 refine MG 0 ?_ (v := .int .i64 (byV (l, 0) : Int)) (hj := (agF_cel 0))
 refine MZ fun W hS => ?_
 go_upto_region 5 with fail
 refine RL hS ?_
 clear hS
 refine MW ?_ (v := .bool false) (hv := by intro W; go_simp; first | done | omega | assumption)
 refine MW ?_ (v := .bool false)
 refine MZ fun W hS => ?_
 go_upto_region 14 with fail
 refine RL hS ?_
 clear hS
 refine MW ?_ (v := .bool false) (hv := by intro W; go_simp; first | done | omega | assumption)
 refine MW ?_ (v := .bool false)
 refine MZ fun W hS => ?_
 go_upto_region 18 with fail
 refine RL hS ?_
 clear hS
 refine MW ?_ (v := .bool false) (hv := by intro W; go_simp; first | done | omega | assumption)
 refine MW ?_ (v := .bool false)
 refine MZ fun W hS => ?_
 go_upto_region 19 with fail
 refine RL hS ?_
 clear hS
 refine MW ?_ (v := .bool false) (hv := by intro W; go_simp; first | done | omega | assumption)
 refine MW ?_ (v := .bool false)
 refine MZ fun W hS => ?_
 go_upto_region 24 with fail
 refine RL hS ?_
 clear hS
 refine MW ?_ (v := .bool false) (hv := by intro W; go_simp; first | done | omega | assumption)
 refine MW ?_ (v := .bool false)
 refine MZ fun W hS => ?_
 go_upto_region 25 with fail
 refine RL hS ?_
 clear hS
 refine MW ?_ (v := .bool false) (hv := by intro W; go_simp; first | done | omega | assumption)
 refine MW ?_ (v := .bool false)
 refine MZ fun W hS => ?_
 go_upto_region 30 with fail
 refine RL hS ?_
 clear hS
 refine MW ?_ (v := .bool true) (hv := by intro W; go_simp; first | done | omega | assumption)
 refine MW ?_ (v := .bool true)
 refine MZ fun W hS => ?_
 go_upto_region 31 with fail
 refine RL hS ?_
 clear hS
 refine MV ?_
 refine Me (v := .agg (agF [.c (.int .i64 5), .c (.int .i64 0), .a 32 0, .c (str (txV 65535 (tkS 1 (l, 0))))])) (H' := [.b p11_2 #[str (txS 65535 (tkS 1 (l, 0))).1, .int .i64 (txS 65535 (tkS 1 (l, 0))).2] 105, .b p5_3 (agF [.c (.int .i64 (byV (l, 0) : Int)), .c (str []), .c (str []), .c (str []), .c (.int .i64 0), .c (.int .i64 0), .c (.int .i64 0), .c (.int .i64 0), .c (str []), .c (str []), .c (.int .i64 0), .c (.int .i64 0), .c (str [])]) 24, .b p2_1 (agF [.c (.int .i64 0), .c (str []), .c (str []), .c (str []), .c (.int .i64 0), .c (.int .i64 0), .c (.int .i64 0), .c (.int .i64 0), .c (str []), .c (str []), .c (.int .i64 0), .c (.int .i64 0), .c (str [])]) 24]) (fun W hS => callF [1] [0, 2] hS (fun hT => dnext_5 (s := tkS 1 (l, 0)) 65535 W hT) ⟨.inr ⟨rfl, rfl⟩, trivial⟩) ?_
 refine MW ?_ (v := str (txV 65535 (tkS 1 (l, 0)))) (hv := by intro W; kernel_rfl)
 refine MV ?_
 refine MP 1 (v := str (txV 65535 (tkS 1 (l, 0)))) (cs' := agF [.c (.int .i64 (byV (l, 0) : Int)), .c (str []), .c (str []), .c (str []), .c (.int .i64 0), .c (.int .i64 0), .c (.int .i64 0), .c (.int .i64 0), .c (str []), .c (str []), .c (.int .i64 0), .c (.int .i64 0), .c (str (txV 65535 (tkS 1 (l, 0))))]) ?_ (hs := by rw [agF_size]; show 12 < 13; decide) (hc := agF_setc 12)
 refine MZ fun W hS => ?_
 by_cases h0 : enV (txS 65535 (tkS 1 (l, 0))) = 0
 ·
  have _f := h0
  go_upto_region 38 with fail
  refine RL hS ?_
  clear hS
  refine MV ?_
  refine Me (v := .int .i64 (enV (txS 65535 (tkS 1 (l, 0))))) (H' := [.b p11_2 #[str (txS 65535 (tkS 1 (l, 0))).1, .int .i64 (txS 65535 (tkS 1 (l, 0))).2] 105, .b p5_3 (agF [.c (.int .i64 (byV (l, 0) : Int)), .c (str []), .c (str []), .c (str []), .c (.int .i64 0), .c (.int .i64 0), .c (.int .i64 0), .c (.int .i64 0), .c (str []), .c (str []), .c (.int .i64 0), .c (.int .i64 0), .c (str (txV 65535 (tkS 1 (l, 0))))]) 24, .b p2_1 (agF [.c (.int .i64 0), .c (str []), .c (str []), .c (str []), .c (.int .i64 0), .c (.int .i64 0), .c (.int .i64 0), .c (.int .i64 0), .c (str []), .c (str []), .c (.int .i64 0), .c (.int .i64 0), .c (str [])]) 24]) (fun W hS => callF [0] [1, 2] hS (fun hT => dend_l (l := (txS 65535 (tkS 1 (l, 0))).1) (e0 := (txS 65535 (tkS 1 (l, 0))).2) W hT) ⟨.inr ⟨rfl, rfl⟩, trivial⟩) ?_
  refine MW ?_ (v := .bool false) (hv := by intro W; go_simp; first | done | exact h0)
  refine MZ fun W hS => ?_
  go_upto_region 40 with fail
  refine RL hS ?_
  clear hS
  refine ML 1 ?_ (hs := by rw [agF_size]; kernel_rfl)
  refine MR 2 ?_ (hz := by rw [agF_size]; kernel_rfl) (hs := by first | (rw [agF_size, agF_size]; rfl) | rfl) (h1 := by exact (agF_one ⟨rfl, rfl, rfl, rfl, rfl, rfl, rfl, rfl, rfl, rfl, rfl, rfl, rfl, trivial⟩))
  refine MW ?_ (v := .bool true)
  refine MZ fun W hS => ?_
  have hk := Hk.out
  go_wp2
  clear hk
  exact bodyPost_ret (res_c2 rfl rfl rfl (hS.blk (i := 2) rfl) (by kernel_rfl) (by rw [agF_size]; kernel_rfl)) rfl (have hk := Hk.out; .inr ⟨by unfold aQ; rw [rdQ_10 hk]; exact h0, by unfold aQ; rw [rdQ_10 hk, drF_n]; rfl; exact (show ¬ ((byV (l, 0) : Nat) : Int) = 1 by omega), hS.ext⟩)
 ·
  have _f := h0
  go_upto_region 38 with fail
  refine RL hS ?_
  clear hS
  refine MV ?_
  refine Me (v := .int .i64 (enV (txS 65535 (tkS 1 (l, 0))))) (H' := [.b p11_2 #[str (txS 65535 (tkS 1 (l, 0))).1, .int .i64 (txS 65535 (tkS 1 (l, 0))).2] 105, .b p5_3 (agF [.c (.int .i64 (byV (l, 0) : Int)), .c (str []), .c (str []), .c (str []), .c (.int .i64 0), .c (.int .i64 0), .c (.int .i64 0), .c (.int .i64 0), .c (str []), .c (str []), .c (.int .i64 0), .c (.int .i64 0), .c (str (txV 65535 (tkS 1 (l, 0))))]) 24, .b p2_1 (agF [.c (.int .i64 0), .c (str []), .c (str []), .c (str []), .c (.int .i64 0), .c (.int .i64 0), .c (.int .i64 0), .c (.int .i64 0), .c (str []), .c (str []), .c (.int .i64 0), .c (.int .i64 0), .c (str [])]) 24]) (fun W hS => callF [0] [1, 2] hS (fun hT => dend_l (l := (txS 65535 (tkS 1 (l, 0))).1) (e0 := (txS 65535 (tkS 1 (l, 0))).2) W hT) ⟨.inr ⟨rfl, rfl⟩, trivial⟩) ?_
  refine MW ?_ (v := .bool true) (hv := by intro W; go_simp; first | done | exact h0)
  refine MZ fun W hS => ?_
  go_upto_region 39 with fail
  refine RL hS ?_
  clear hS
  refine MF (v := .agg (agF [.c (.int .i64 0), .c (str []), .c (str []), .c (str []), .c (.int .i64 0), .c (.int .i64 0), .c (.int .i64 0), .c (.int .i64 0), .c (str []), .c (str []), .c (.int .i64 0), .c (.int .i64 0), .c (str [])])) (fun W hS => run_bld rfl rfl zer_custumalref24_Request plc_custumalref24_Request fill_n) ?_
  refine MR 2 ?_ (hz := by rw [agF_size]; kernel_rfl) (hs := by first | (rw [agF_size, agF_size]; rfl) | rfl) (h1 := by exact (agF_one ⟨rfl, rfl, rfl, rfl, rfl, rfl, rfl, rfl, rfl, rfl, rfl, rfl, rfl, trivial⟩))
  refine MW ?_ (v := .bool false)
  refine MZ fun W hS => ?_
  have hk := Hk.out
  go_wp2
  clear hk
  exact bodyPost_ret (res_c2 rfl rfl rfl (hS.blk (i := 2) rfl) (by kernel_rfl) (by rw [agF_size]; kernel_rfl)) rfl (have hk := Hk.out; .inl ⟨by unfold aQ; rw [rdQ_10 hk]; exact h0, rfl, hS.ext⟩)
theorem dasked_11 {l : List UInt8} (hk : byV (l, 0) = 11) (w : World) :
  Calls Try.prog 13 #[str l] w fun e w' => (enV (aQ l).2 ≠ 0 ∧ Ret (.tuple #[.agg zRR, .bool false]) w w' e) ∨ (enV (aQ l).2 = 0 ∧ Ret (.tuple #[.agg (drF (aQ l).1), .bool true]) w w' e) := by
 have Hk := Lib.hid hk
 have hk1 : byV (l, 0) ≤ 11 := by omega
 have hk2 : 11 ≤ byV (l, 0) := by omega
 clear hk
 have hS := SH.nil [] w
 go_enter Try.func13, Try.ntmps13
 go_upto_region 0 with fail
 refine RL hS ?_
 clear hS
 refine MN (z := agF [.c (.int .i64 0), .c (str []), .c (str []), .c (str []), .c (.int .i64 0), .c (.int .i64 0), .c (.int .i64 0), .c (.int .i64 0), .c (str []), .c (str []), .c (.int .i64 0), .c (.int .i64 0), .c (str [])]) (t := 24) ?_
 intro p2_1
 refine MW ?_ (v := .bool false)
 refine MZ fun W hS => ?_
 go_upto_region 1 with fail
 refine RL hS ?_
 clear hS
 refine MV ?_
 refine MF (v := .agg (agF [.c (str l), .c (.int .i64 0)])) (fun W hS => run_bld rfl rfl zer_custumalref04_Reader plc_custumalref04_Reader (fill_c fill_n (l' := [.c (str l), .c (.int .i64 0)]) (m := [.c (str l)]) (hv := rfl) (hs := agF_setp 0 1) (hp := rfl) (hn := rfl) (hb := by show 0 + 1 ≤ 2; decide))) ?_
 refine MN (z := agF [.c (str l), .c (.int .i64 0)]) (t := 105) ?_
 intro p11_2
 refine MT (H' := [.b p11_2 #[str (l, 0).1, .int .i64 (l, 0).2] 105, .b p2_1 (agF [.c (.int .i64 0), .c (str []), .c (str []), .c (str []), .c (.int .i64 0), .c (.int .i64 0), .c (.int .i64 0), .c (.int .i64 0), .c (str []), .c (str []), .c (.int .i64 0), .c (.int .i64 0), .c (str [])]) 24]) (fun W hS => hS) ?_
 refine MV ?_
 refine MZ fun W hS => ?_
 go_upto_region 2 with fail
 refine RL hS ?_
 clear hS
 refine MV ?_
 refine Me (v := .agg (agF [.c (.int .i64 1), .c (.int .i64 (byV (l, 0) : Int)), .a 32 0, .c (str [])])) (H' := [.b p11_2 #[str (tkS 1 (l, 0)).1, .int .i64 (tkS 1 (l, 0)).2] 105, .b p2_1 (agF [.c (.int .i64 0), .c (str []), .c (str []), .c (str []), .c (.int .i64 0), .c (.int .i64 0), .c (.int .i64 0), .c (.int .i64 0), .c (str []), .c (str []), .c (.int .i64 0), .c (.int .i64 0), .c (str [])]) 24]) (fun W hS => callF [0] [1] hS (fun hT => dnext_1 (s := (l, 0)) 0 W hT) ⟨.inr ⟨rfl, rfl⟩, trivial⟩) ?_
 refine MW ?_ (v := .int .i64 (byV (l, 0) : Int)) (hv := by intro W; kernel_rfl)
 refine MF (v := .agg (agF [.c (.int .i64 (byV (l, 0) : Int)), .c (str []), .c (str []), .c (str []), .c (.int .i64 0), .c (.int .i64 0), .c (.int .i64 0), .c (.int .i64 0), .c (str []), .c (str []), .c (.int .i64 0), .c (.int .i64 0), .c (str [])])) (fun W hS => run_bld rfl rfl zer_custumalref24_Request plc_custumalref24_Request (fill_c fill_n (l' := [.c (.int .i64 (byV (l, 0) : Int)), .c (str []), .c (str []), .c (str []), .c (.int .i64 0), .c (.int .i64 0), .c (.int .i64 0), .c (.int .i64 0), .c (str []), .c (str []), .c (.int .i64 0), .c (.int .i64 0), .c (str [])]) (m := [.c (.int .i64 (byV (l, 0) : Int))]) (hv := rfl) (hs := agF_setp 0 1) (hp := rfl) (hn := rfl) (hb := by show 0 + 1 ≤ 13; decide))) ?_
 refine MN (z := agF [.c (.int .i64 0), .c (str []), .c (str []), .c (str []), .c (.int .i64 0), .c (.int .i64 0), .c (.int .i64 0), .c (.int .i64 0), .c (str []), .c (str []), .c (.int .i64 0), .c (.int .i64 0), .c (str [])]) (t := 24) ?_
 intro p5_3
 refine MR 0 ?_ (hz := by rw [agF_size]; kernel_rfl) (hs := by first | (rw [agF_size, agF_size]; rfl) | rfl) (h1 := by exact (agF_one ⟨rfl, rfl, rfl, rfl, rfl, rfl, rfl, rfl, rfl, rfl, rfl, rfl, rfl, trivial⟩))
 refine MZ fun W hS => ?_
 go_upto_region 3 with fail
 refine RL hS ?_
 clear hS
 refine MV ?_
 refine MG 0 ?_ (v := .int .i64 (byV (l, 0) : Int)) (hj := (agF_cel 0))
 refine MZ fun W hS => ?_
 go_upto_region 5 with fail
 refine RL hS ?_
 clear hS
 refine MW ?_ (v := .bool false) (hv := by intro W; go_simp; first | done | omega | assumption)
 refine MW ?_ (v := .bool false)
 refine MZ fun W hS => ?_
 go_upto_region 14 with fail
 refine RL hS ?_
 clear hS
 refine MW ?_ (v := .bool false) (hv := by intro W; go_simp; first | done | omega | assumption)
 refine MW ?_ (v := .bool false)
 refine MZ fun W hS => ?_
 go_upto_region 18 with fail
 refine RL hS ?_
 clear hS
 refine MW ?_ (v := .bool false) (hv := by intro W; go_simp; first | done | omega | assumption)
 refine MW ?_ (v := .bool false)
 refine MZ fun W hS => ?_
 go_upto_region 19 with fail
 refine RL hS ?_
 clear hS
 refine MW ?_ (v := .bool false) (hv := by intro W; go_simp; first | done | omega | assumption)
 refine MW ?_ (v := .bool false)
 refine MZ fun W hS => ?_
 go_upto_region 24 with fail
 refine RL hS ?_
 clear hS
 refine MW ?_ (v := .bool false) (hv := by intro W; go_simp; first | done | omega | assumption)
 refine MW ?_ (v := .bool false)
 refine MZ fun W hS => ?_
 go_upto_region 25 with fail
 refine RL hS ?_
 clear hS
 refine MW ?_ (v := .bool false) (hv := by intro W; go_simp; first | done | omega | assumption)
 refine MW ?_ (v := .bool false)
 refine MZ fun W hS => ?_
 go_upto_region 30 with fail
 refine RL hS ?_
 clear hS
 refine MW ?_ (v := .bool false) (hv := by intro W; go_simp; first | done | omega | assumption)
 refine MW ?_ (v := .bool false)
 refine MZ fun W hS => ?_
 go_upto_region 32 with fail
 refine RL hS ?_
 clear hS
 refine MW ?_ (v := .bool false) (hv := by intro W; go_simp; first | done | omega | assumption)
 refine MW ?_ (v := .bool false)
 refine MZ fun W hS => ?_
 go_upto_region 33 with fail
 refine RL hS ?_
 clear hS
 refine MW ?_ (v := .bool false) (hv := by intro W; go_simp; first | done | omega | assumption)
 refine MW ?_ (v := .bool false)
 refine MZ fun W hS => ?_
 go_upto_region 34 with fail
 refine RL hS ?_
 clear hS
 refine MW ?_ (v := .bool false) (hv := by intro W; go_simp; first | done | omega | assumption)
 refine MW ?_ (v := .bool false)
 refine MZ fun W hS => ?_
 go_upto_region 35 with fail
 refine RL hS ?_
 clear hS
 refine MW ?_ (v := .bool false) (hv := by intro W; go_simp; first | done | omega | assumption)
 refine MW ?_ (v := .bool false)
 refine MZ fun W hS => ?_
 go_upto_region 36 with fail
 refine RL hS ?_
 clear hS
 refine MW ?_ (v := .bool true) (hv := by intro W; go_simp; first | done | omega | assumption)
 refine MW ?_ (v := .bool true)
 refine MZ fun W hS => ?_
 go_upto_region 37 with fail
 refine RL hS ?_
 clear hS
 refine MV ?_
 refine Me (v := .agg (agF [.c (.int .i64 5), .c (.int .i64 0), .a 32 0, .c (str (txV 16 (tkS 1 (l, 0))))])) (H' := [.b p11_2 #[str (txS 16 (tkS 1 (l, 0))).1, .int .i64 (txS 16 (tkS 1 (l, 0))).2] 105, .b p5_3 (agF [.c (.int .i64 (byV (l, 0) : Int)), .c (str []), .c (str []), .c (str []), .c (.int .i64 0), .c (.int .i64 0), .c (.int .i64 0), .c (.int .i64 0), .c (str []), .c (str []), .c (.int .i64 0), .c (.int .i64 0), .c (str [])]) 24, .b p2_1 (agF [.c (.int .i64 0), .c (str []), .c (str []), .c (str []), .c (.int .i64 0), .c (.int .i64 0), .c (.int .i64 0), .c (.int .i64 0), .c (str []), .c (str []), .c (.int .i64 0), .c (.int .i64 0), .c (str [])]) 24]) (fun W hS => callF [1] [0, 2] hS (fun hT => dnext_5 (s := tkS 1 (l, 0)) 16 W hT) ⟨.inr ⟨rfl, rfl⟩, trivial⟩) ?_
 refine MW ?_ (v := str (txV 16 (tkS 1 (l, 0)))) (hv := by intro W; kernel_rfl)
 refine MV ?_
 refine MP 1 (v := str (txV 16 (tkS 1 (l, 0)))) (cs' := agF [.c (.int .i64 (byV (l, 0) : Int)), .c (str (txV 16 (tkS 1 (l, 0)))), .c (str []), .c (str []), .c (.int .i64 0), .c (.int .i64 0), .c (.int .i64 0), .c (.int .i64 0), .c (str []), .c (str []), .c (.int .i64 0), .c (.int .i64 0), .c (str [])]) ?_ (hs := by rw [agF_size]; show 1 < 13; decide) (hc := agF_setc 1)
 refine MZ fun W hS => ?_
 by_cases h0 : enV (txS 16 (tkS 1 (l, 0))) = 0
 ·
  have _f := h0
  go_upto_region 38 with fail
  refine RL hS ?_
  clear hS
  refine MV ?_
  refine Me (v := .int .i64 (enV (txS 16 (tkS 1 (l, 0))))) (H' := [.b p11_2 #[str (txS 16 (tkS 1 (l, 0))).1, .int .i64 (txS 16 (tkS 1 (l, 0))).2] 105, .b p5_3 (agF [.c (.int .i64 (byV (l, 0) : Int)), .c (str (txV 16 (tkS 1 (l, 0)))), .c (str []), .c (str []), .c (.int .i64 0), .c (.int .i64 0), .c (.int .i64 0), .c (.int .i64 0), .c (str []), .c (str []), .c (.int .i64 0), .c (.int .i64 0), .c (str [])]) 24, .b p2_1 (agF [.c (.int .i64 0), .c (str []), .c (str []), .c (str []), .c (.int .i64 0), .c (.int .i64 0), .c (.int .i64 0), .c (.int .i64 0), .c (str []), .c (str []), .c (.int .i64 0), .c (.int .i64 0), .c (str [])]) 24]) (fun W hS => callF [0] [1, 2] hS (fun hT => dend_l (l := (txS 16 (tkS 1 (l, 0))).1) (e0 := (txS 16 (tkS 1 (l, 0))).2) W hT) ⟨.inr ⟨rfl, rfl⟩, trivial⟩) ?_
  refine MW ?_ (v := .bool false) (hv := by intro W; go_simp; first | done | exact h0)
  refine MZ fun W hS => ?_
  go_upto_region 40 with fail
  refine RL hS ?_
  clear hS
  refine ML 1 ?_ (hs := by rw [agF_size]; kernel_rfl)
  refine MR 2 ?_ (hz := by rw [agF_size]; kernel_rfl) (hs := by first | (rw [agF_size, agF_size]; rfl) | rfl) (h1 := by exact (agF_one ⟨rfl, rfl, rfl, rfl, rfl, rfl, rfl, rfl, rfl, rfl, rfl, rfl, rfl, trivial⟩))
  refine MW ?_ (v := .bool true)
  refine MZ fun W hS => ?_
  have hk := Hk.out
  go_wp2
  clear hk
  exact bodyPost_ret (res_c2 rfl rfl rfl (hS.blk (i := 2) rfl) (by kernel_rfl) (by rw [agF_size]; kernel_rfl)) rfl (have hk := Hk.out; .inr ⟨by unfold aQ; rw [rdQ_0 (by omega)]; exact h0, by unfold aQ; rw [rdQ_0 (by omega), drF_n]; rfl; exact (show ¬ ((byV (l, 0) : Nat) : Int) = 1 by omega), hS.ext⟩)
 ·
  have _f := h0
  go_upto_region 38 with fail
  refine RL hS ?_
  clear hS
  refine MV ?_
  refine Me (v := .int .i64 (enV (txS 16 (tkS 1 (l, 0))))) (H' := [.b p11_2 #[str (txS 16 (tkS 1 (l, 0))).1, .int .i64 (txS 16 (tkS 1 (l, 0))).2] 105, .b p5_3 (agF [.c (.int .i64 (byV (l, 0) : Int)), .c (str (txV 16 (tkS 1 (l, 0)))), .c (str []), .c (str []), .c (.int .i64 0), .c (.int .i64 0), .c (.int .i64 0), .c (.int .i64 0), .c (str []), .c (str []), .c (.int .i64 0), .c (.int .i64 0), .c (str [])]) 24, .b p2_1 (agF [.c (.int .i64 0), .c (str []), .c (str []), .c (str []), .c (.int .i64 0), .c (.int .i64 0), .c (.int .i64 0), .c (.int .i64 0), .c (str []), .c (str []), .c (.int .i64 0), .c (.int .i64 0), .c (str [])]) 24]) (fun W hS => callF [0] [1, 2] hS (fun hT => dend_l (l := (txS 16 (tkS 1 (l, 0))).1) (e0 := (txS 16 (tkS 1 (l, 0))).2) W hT) ⟨.inr ⟨rfl, rfl⟩, trivial⟩) ?_
  refine MW ?_ (v := .bool true) (hv := by intro W; go_simp; first | done | exact h0)
  refine MZ fun W hS => ?_
  go_upto_region 39 with fail
  refine RL hS ?_
  clear hS
  refine MF (v := .agg (agF [.c (.int .i64 0), .c (str []), .c (str []), .c (str []), .c (.int .i64 0), .c (.int .i64 0), .c (.int .i64 0), .c (.int .i64 0), .c (str []), .c (str []), .c (.int .i64 0), .c (.int .i64 0), .c (str [])])) (fun W hS => run_bld rfl rfl zer_custumalref24_Request plc_custumalref24_Request fill_n) ?_
  refine MR 2 ?_ (hz := by rw [agF_size]; kernel_rfl) (hs := by first | (rw [agF_size, agF_size]; rfl) | rfl) (h1 := by exact (agF_one ⟨rfl, rfl, rfl, rfl, rfl, rfl, rfl, rfl, rfl, rfl, rfl, rfl, rfl, trivial⟩))
  refine MW ?_ (v := .bool false)
  refine MZ fun W hS => ?_
  have hk := Hk.out
  go_wp2
  clear hk
  exact bodyPost_ret (res_c2 rfl rfl rfl (hS.blk (i := 2) rfl) (by kernel_rfl) (by rw [agF_size]; kernel_rfl)) rfl (have hk := Hk.out; .inl ⟨by unfold aQ; rw [rdQ_0 (by omega)]; exact h0, rfl, hS.ext⟩)
theorem dasked_12 {l : List UInt8} (hk : byV (l, 0) = 12) (w : World) :
  Calls Try.prog 13 #[str l] w fun e w' => (enV (aQ l).2 ≠ 0 ∧ Ret (.tuple #[.agg zRR, .bool false]) w w' e) ∨ (enV (aQ l).2 = 0 ∧ Ret (.tuple #[.agg (drF (aQ l).1), .bool true]) w w' e) := by
 have Hk := Lib.hid hk
 have hk1 : byV (l, 0) ≤ 12 := by omega
 have hk2 : 12 ≤ byV (l, 0) := by omega
 clear hk
 have hS := SH.nil [] w
 go_enter Try.func13, Try.ntmps13
 go_upto_region 0 with fail
 refine RL hS ?_
 clear hS
 refine MN (z := agF [.c (.int .i64 0), .c (str []), .c (str []), .c (str []), .c (.int .i64 0), .c (.int .i64 0), .c (.int .i64 0), .c (.int .i64 0), .c (str []), .c (str []), .c (.int .i64 0), .c (.int .i64 0), .c (str [])]) (t := 24) ?_
 intro p2_1
 refine MW ?_ (v := .bool false)
 refine MZ fun W hS => ?_
 go_upto_region 1 with fail
 refine RL hS ?_
 clear hS
 refine MV ?_
 refine MF (v := .agg (agF [.c (str l), .c (.int .i64 0)])) (fun W hS => run_bld rfl rfl zer_custumalref04_Reader plc_custumalref04_Reader (fill_c fill_n (l' := [.c (str l), .c (.int .i64 0)]) (m := [.c (str l)]) (hv := rfl) (hs := agF_setp 0 1) (hp := rfl) (hn := rfl) (hb := by show 0 + 1 ≤ 2; decide))) ?_
 refine MN (z := agF [.c (str l), .c (.int .i64 0)]) (t := 105) ?_
 intro p11_2
 refine MT (H' := [.b p11_2 #[str (l, 0).1, .int .i64 (l, 0).2] 105, .b p2_1 (agF [.c (.int .i64 0), .c (str []), .c (str []), .c (str []), .c (.int .i64 0), .c (.int .i64 0), .c (.int .i64 0), .c (.int .i64 0), .c (str []), .c (str []), .c (.int .i64 0), .c (.int .i64 0), .c (str [])]) 24]) (fun W hS => hS) ?_
 refine MV ?_
 refine MZ fun W hS => ?_
 go_upto_region 2 with fail
 refine RL hS ?_
 clear hS
 refine MV ?_
 refine Me (v := .agg (agF [.c (.int .i64 1), .c (.int .i64 (byV (l, 0) : Int)), .a 32 0, .c (str [])])) (H' := [.b p11_2 #[str (tkS 1 (l, 0)).1, .int .i64 (tkS 1 (l, 0)).2] 105, .b p2_1 (agF [.c (.int .i64 0), .c (str []), .c (str []), .c (str []), .c (.int .i64 0), .c (.int .i64 0), .c (.int .i64 0), .c (.int .i64 0), .c (str []), .c (str []), .c (.int .i64 0), .c (.int .i64 0), .c (str [])]) 24]) (fun W hS => callF [0] [1] hS (fun hT => dnext_1 (s := (l, 0)) 0 W hT) ⟨.inr ⟨rfl, rfl⟩, trivial⟩) ?_
 refine MW ?_ (v := .int .i64 (byV (l, 0) : Int)) (hv := by intro W; kernel_rfl)
 refine MF (v := .agg (agF [.c (.int .i64 (byV (l, 0) : Int)), .c (str []), .c (str []), .c (str []), .c (.int .i64 0), .c (.int .i64 0), .c (.int .i64 0), .c (.int .i64 0), .c (str []), .c (str []), .c (.int .i64 0), .c (.int .i64 0), .c (str [])])) (fun W hS => run_bld rfl rfl zer_custumalref24_Request plc_custumalref24_Request (fill_c fill_n (l' := [.c (.int .i64 (byV (l, 0) : Int)), .c (str []), .c (str []), .c (str []), .c (.int .i64 0), .c (.int .i64 0), .c (.int .i64 0), .c (.int .i64 0), .c (str []), .c (str []), .c (.int .i64 0), .c (.int .i64 0), .c (str [])]) (m := [.c (.int .i64 (byV (l, 0) : Int))]) (hv := rfl) (hs := agF_setp 0 1) (hp := rfl) (hn := rfl) (hb := by show 0 + 1 ≤ 13; decide))) ?_
 refine MN (z := agF [.c (.int .i64 0), .c (str []), .c (str []), .c (str []), .c (.int .i64 0), .c (.int .i64 0), .c (.int .i64 0), .c (.int .i64 0), .c (str []), .c (str []), .c (.int .i64 0), .c (.int .i64 0), .c (str [])]) (t := 24) ?_
 intro p5_3
 refine MR 0 ?_ (hz := by rw [agF_size]; kernel_rfl) (hs := by first | (rw [agF_size, agF_size]; rfl) | rfl) (h1 := by exact (agF_one ⟨rfl, rfl, rfl, rfl, rfl, rfl, rfl, rfl, rfl, rfl, rfl, rfl, rfl, trivial⟩))
 refine MZ fun W hS => ?_
 go_upto_region 3 with fail
 refine RL hS ?_
 clear hS
 refine MV ?_
 refine MG 0 ?_ (v := .int .i64 (byV (l, 0) : Int)) (hj := (agF_cel 0))
 refine MZ fun W hS => ?_
 go_upto_region 5 with fail
 refine RL hS ?_
 clear hS
 refine MW ?_ (v := .bool false) (hv := by intro W; go_simp; first | done | omega | assumption)
 refine MW ?_ (v := .bool false)
 refine MZ fun W hS => ?_
 go_upto_region 14 with fail
 refine RL hS ?_
 clear hS
 refine MW ?_ (v := .bool false) (hv := by intro W; go_simp; first | done | omega | assumption)
 refine MW ?_ (v := .bool false)
 refine MZ fun W hS => ?_
 go_upto_region 18 with fail
 refine RL hS ?_
 clear hS
 refine MW ?_ (v := .bool false) (hv := by intro W; go_simp; first | done | omega | assumption)
 refine MW ?_ (v := .bool false)
 refine MZ fun W hS => ?_
 go_upto_region 19 with fail
 refine RL hS ?_
 clear hS
 refine MW ?_ (v := .bool false) (hv := by intro W; go_simp; first | done | omega | assumption)
 refine MW ?_ (v := .bool false)
 refine MZ fun W hS => ?_
 go_upto_region 24 with fail
 refine RL hS ?_
 clear hS
 refine MW ?_ (v := .bool false) (hv := by intro W; go_simp; first | done | omega | assumption)
 refine MW ?_ (v := .bool false)
 refine MZ fun W hS => ?_
 go_upto_region 25 with fail
 refine RL hS ?_
 clear hS
 refine MW ?_ (v := .bool true) (hv := by intro W; go_simp; first | done | omega | assumption)
 refine MW ?_ (v := .bool true)
 refine MZ fun W hS => ?_
 go_upto_region 26 with fail
 refine RL hS ?_
 clear hS
 refine MV ?_
 refine MG 0 ?_ (v := .int .i64 (byV (l, 0) : Int)) (hj := (agF_cel 0))
 refine MW ?_ (v := .bool false) (hv := by intro W; go_simp; first | done | omega | assumption)
 refine MZ fun W hS => ?_
 go_upto_region 28 with fail
 refine RL hS ?_
 clear hS
 refine MV ?_
 refine Me (v := .agg (agF [.c (.int .i64 3), .c (.int .i64 (nuV (tkS 1 (l, 0)))), .a 32 0, .c (str [])])) (H' := [.b p11_2 #[str (tkS 8 (tkS 1 (l, 0))).1, .int .i64 (tkS 8 (tkS 1 (l, 0))).2] 105, .b p5_3 (agF [.c (.int .i64 (byV (l, 0) : Int)), .c (str []), .c (str []), .c (str []), .c (.int .i64 0), .c (.int .i64 0), .c (.int .i64 0), .c (.int .i64 0), .c (str []), .c (str []), .c (.int .i64 0), .c (.int .i64 0), .c (str [])]) 24, .b p2_1 (agF [.c (.int .i64 0), .c (str []), .c (str []), .c (str []), .c (.int .i64 0), .c (.int .i64 0), .c (.int .i64 0), .c (.int .i64 0), .c (str []), .c (str []), .c (.int .i64 0), .c (.int .i64 0), .c (str [])]) 24]) (fun W hS => callF [1] [0, 2] hS (fun hT => dnext_3 (s := tkS 1 (l, 0)) 0 W hT) ⟨.inr ⟨rfl, rfl⟩, trivial⟩) ?_
 refine MW ?_ (v := .int .i64 (nuV (tkS 1 (l, 0)))) (hv := by intro W; kernel_rfl)
 refine MV ?_
 refine MP 1 (v := .int .i64 (nuV (tkS 1 (l, 0)))) (cs' := agF [.c (.int .i64 (byV (l, 0) : Int)), .c (str []), .c (str []), .c (str []), .c (.int .i64 0), .c (.int .i64 0), .c (.int .i64 0), .c (.int .i64 0), .c (str []), .c (str []), .c (.int .i64 (nuV (tkS 1 (l, 0)))), .c (.int .i64 0), .c (str [])]) ?_ (hs := by rw [agF_size]; show 10 < 13; decide) (hc := agF_setc 10)
 refine MZ fun W hS => ?_
 go_upto_region 29 with fail
 refine RL hS ?_
 clear hS
 refine MV ?_
 refine Me (v := .agg (agF [.c (.int .i64 3), .c (.int .i64 (nuV (tkS 8 (tkS 1 (l, 0))))), .a 32 0, .c (str [])])) (H' := [.b p11_2 #[str (tkS 8 (tkS 8 (tkS 1 (l, 0)))).1, .int .i64 (tkS 8 (tkS 8 (tkS 1 (l, 0)))).2] 105, .b p5_3 (agF [.c (.int .i64 (byV (l, 0) : Int)), .c (str []), .c (str []), .c (str []), .c (.int .i64 0), .c (.int .i64 0), .c (.int .i64 0), .c (.int .i64 0), .c (str []), .c (str []), .c (.int .i64 (nuV (tkS 1 (l, 0)))), .c (.int .i64 0), .c (str [])]) 24, .b p2_1 (agF [.c (.int .i64 0), .c (str []), .c (str []), .c (str []), .c (.int .i64 0), .c (.int .i64 0), .c (.int .i64 0), .c (.int .i64 0), .c (str []), .c (str []), .c (.int .i64 0), .c (.int .i64 0), .c (str [])]) 24]) (fun W hS => callF [0] [1, 2] hS (fun hT => dnext_3 (s := tkS 8 (tkS 1 (l, 0))) 0 W hT) ⟨.inr ⟨rfl, rfl⟩, trivial⟩) ?_
 refine MW ?_ (v := .int .i64 (nuV (tkS 8 (tkS 1 (l, 0))))) (hv := by intro W; kernel_rfl)
 refine MV ?_
 refine MP 1 (v := .int .i64 (nuV (tkS 8 (tkS 1 (l, 0))))) (cs' := agF [.c (.int .i64 (byV (l, 0) : Int)), .c (str []), .c (str []), .c (str []), .c (.int .i64 0), .c (.int .i64 0), .c (.int .i64 0), .c (.int .i64 0), .c (str []), .c (str []), .c (.int .i64 (nuV (tkS 1 (l, 0)))), .c (.int .i64 (nuV (tkS 8 (tkS 1 (l, 0))))), .c (str [])]) ?_ (hs := by rw [agF_size]; show 11 < 13; decide) (hc := agF_setc 11)
 refine MZ fun W hS => ?_
 by_cases h0 : enV (tkS 8 (tkS 8 (tkS 1 (l, 0)))) = 0
 ·
  have _f := h0
  go_upto_region 38 with fail
  refine RL hS ?_
  clear hS
  refine MV ?_
  refine Me (v := .int .i64 (enV (tkS 8 (tkS 8 (tkS 1 (l, 0)))))) (H' := [.b p11_2 #[str (tkS 8 (tkS 8 (tkS 1 (l, 0)))).1, .int .i64 (tkS 8 (tkS 8 (tkS 1 (l, 0)))).2] 105, .b p5_3 (agF [.c (.int .i64 (byV (l, 0) : Int)), .c (str []), .c (str []), .c (str []), .c (.int .i64 0), .c (.int .i64 0), .c (.int .i64 0), .c (.int .i64 0), .c (str []), .c (str []), .c (.int .i64 (nuV (tkS 1 (l, 0)))), .c (.int .i64 (nuV (tkS 8 (tkS 1 (l, 0))))), .c (str [])]) 24, .b p2_1 (agF [.c (.int .i64 0), .c (str []), .c (str []), .c (str []), .c (.int .i64 0), .c (.int .i64 0), .c (.int .i64 0), .c (.int .i64 0), .c (str []), .c (str []), .c (.int .i64 0), .c (.int .i64 0), .c (str [])]) 24]) (fun W hS => callF [0] [1, 2] hS (fun hT => dend_l (l := (tkS 8 (tkS 8 (tkS 1 (l, 0)))).1) (e0 := (tkS 8 (tkS 8 (tkS 1 (l, 0)))).2) W hT) ⟨.inr ⟨rfl, rfl⟩, trivial⟩) ?_
  refine MW ?_ (v := .bool false) (hv := by intro W; go_simp; first | done | exact h0)
  refine MZ fun W hS => ?_
  go_upto_region 40 with fail
  refine RL hS ?_
  clear hS
  refine ML 1 ?_ (hs := by rw [agF_size]; kernel_rfl)
  refine MR 2 ?_ (hz := by rw [agF_size]; kernel_rfl) (hs := by first | (rw [agF_size, agF_size]; rfl) | rfl) (h1 := by exact (agF_one ⟨rfl, rfl, rfl, rfl, rfl, rfl, rfl, rfl, rfl, rfl, rfl, rfl, rfl, trivial⟩))
  refine MW ?_ (v := .bool true)
  refine MZ fun W hS => ?_
  have hk := Hk.out
  go_wp2
  clear hk
  exact bodyPost_ret (res_c2 rfl rfl rfl (hS.blk (i := 2) rfl) (by kernel_rfl) (by rw [agF_size]; kernel_rfl)) rfl (have hk := Hk.out; .inr ⟨by unfold aQ; rw [rdQ_12 hk]; exact h0, by unfold aQ; rw [rdQ_12 hk, drF_n]; rfl; exact (show ¬ ((byV (l, 0) : Nat) : Int) = 1 by omega), hS.ext⟩)
 ·
  have _f := h0
  go_upto_region 38 with fail
  refine RL hS ?_
  clear hS
  refine MV ?_
  refine Me (v := .int .i64 (enV (tkS 8 (tkS 8 (tkS 1 (l, 0)))))) (H' := [.b p11_2 #[str (tkS 8 (tkS 8 (tkS 1 (l, 0)))).1, .int .i64 (tkS 8 (tkS 8 (tkS 1 (l, 0)))).2] 105, .b p5_3 (agF [.c (.int .i64 (byV (l, 0) : Int)), .c (str []), .c (str []), .c (str []), .c (.int .i64 0), .c (.int .i64 0), .c (.int .i64 0), .c (.int .i64 0), .c (str []), .c (str []), .c (.int .i64 (nuV (tkS 1 (l, 0)))), .c (.int .i64 (nuV (tkS 8 (tkS 1 (l, 0))))), .c (str [])]) 24, .b p2_1 (agF [.c (.int .i64 0), .c (str []), .c (str []), .c (str []), .c (.int .i64 0), .c (.int .i64 0), .c (.int .i64 0), .c (.int .i64 0), .c (str []), .c (str []), .c (.int .i64 0), .c (.int .i64 0), .c (str [])]) 24]) (fun W hS => callF [0] [1, 2] hS (fun hT => dend_l (l := (tkS 8 (tkS 8 (tkS 1 (l, 0)))).1) (e0 := (tkS 8 (tkS 8 (tkS 1 (l, 0)))).2) W hT) ⟨.inr ⟨rfl, rfl⟩, trivial⟩) ?_
  refine MW ?_ (v := .bool true) (hv := by intro W; go_simp; first | done | exact h0)
  refine MZ fun W hS => ?_
  go_upto_region 39 with fail
  refine RL hS ?_
  clear hS
  refine MF (v := .agg (agF [.c (.int .i64 0), .c (str []), .c (str []), .c (str []), .c (.int .i64 0), .c (.int .i64 0), .c (.int .i64 0), .c (.int .i64 0), .c (str []), .c (str []), .c (.int .i64 0), .c (.int .i64 0), .c (str [])])) (fun W hS => run_bld rfl rfl zer_custumalref24_Request plc_custumalref24_Request fill_n) ?_
  refine MR 2 ?_ (hz := by rw [agF_size]; kernel_rfl) (hs := by first | (rw [agF_size, agF_size]; rfl) | rfl) (h1 := by exact (agF_one ⟨rfl, rfl, rfl, rfl, rfl, rfl, rfl, rfl, rfl, rfl, rfl, rfl, rfl, trivial⟩))
  refine MW ?_ (v := .bool false)
  refine MZ fun W hS => ?_
  have hk := Hk.out
  go_wp2
  clear hk
  exact bodyPost_ret (res_c2 rfl rfl rfl (hS.blk (i := 2) rfl) (by kernel_rfl) (by rw [agF_size]; kernel_rfl)) rfl (have hk := Hk.out; .inl ⟨by unfold aQ; rw [rdQ_12 hk]; exact h0, rfl, hS.ext⟩)
theorem dasked_none {l : List UInt8} (hk : byV (l, 0) < 1 ∨ 12 < byV (l, 0)) (w : World) :
  Calls Try.prog 13 #[str l] w fun e w' => Ret (.tuple #[.agg zRR, .bool false]) w w' e := by
 have hS := SH.nil [] w
 go_enter Try.func13, Try.ntmps13
 go_upto_region 0 with fail
 refine RL hS ?_
 clear hS
 refine MN (z := agF [.c (.int .i64 0), .c (str []), .c (str []), .c (str []), .c (.int .i64 0), .c (.int .i64 0), .c (.int .i64 0), .c (.int .i64 0), .c (str []), .c (str []), .c (.int .i64 0), .c (.int .i64 0), .c (str [])]) (t := 24) ?_
 intro p2_1
 refine MW ?_ (v := .bool false)
 refine MZ fun W hS => ?_
 go_upto_region 1 with fail
 refine RL hS ?_
 clear hS
 refine MV ?_
 refine MF (v := .agg (agF [.c (str l), .c (.int .i64 0)])) (fun W hS => run_bld rfl rfl zer_custumalref04_Reader plc_custumalref04_Reader (fill_c fill_n (l' := [.c (str l), .c (.int .i64 0)]) (m := [.c (str l)]) (hv := rfl) (hs := agF_setp 0 1) (hp := rfl) (hn := rfl) (hb := by show 0 + 1 ≤ 2; decide))) ?_
 refine MN (z := agF [.c (str l), .c (.int .i64 0)]) (t := 105) ?_
 intro p11_2
 refine MT (H' := [.b p11_2 #[str (l, 0).1, .int .i64 (l, 0).2] 105, .b p2_1 (agF [.c (.int .i64 0), .c (str []), .c (str []), .c (str []), .c (.int .i64 0), .c (.int .i64 0), .c (.int .i64 0), .c (.int .i64 0), .c (str []), .c (str []), .c (.int .i64 0), .c (.int .i64 0), .c (str [])]) 24]) (fun W hS => hS) ?_
 refine MV ?_
 refine MZ fun W hS => ?_
 go_upto_region 2 with fail
 refine RL hS ?_
 clear hS
 refine MV ?_
 refine Me (v := .agg (agF [.c (.int .i64 1), .c (.int .i64 (byV (l, 0) : Int)), .a 32 0, .c (str [])])) (H' := [.b p11_2 #[str (tkS 1 (l, 0)).1, .int .i64 (tkS 1 (l, 0)).2] 105, .b p2_1 (agF [.c (.int .i64 0), .c (str []), .c (str []), .c (str []), .c (.int .i64 0), .c (.int .i64 0), .c (.int .i64 0), .c (.int .i64 0), .c (str []), .c (str []), .c (.int .i64 0), .c (.int .i64 0), .c (str [])]) 24]) (fun W hS => callF [0] [1] hS (fun hT => dnext_1 (s := (l, 0)) 0 W hT) ⟨.inr ⟨rfl, rfl⟩, trivial⟩) ?_
 refine MW ?_ (v := .int .i64 (byV (l, 0) : Int)) (hv := by intro W; kernel_rfl)
 refine MF (v := .agg (agF [.c (.int .i64 (byV (l, 0) : Int)), .c (str []), .c (str []), .c (str []), .c (.int .i64 0), .c (.int .i64 0), .c (.int .i64 0), .c (.int .i64 0), .c (str []), .c (str []), .c (.int .i64 0), .c (.int .i64 0), .c (str [])])) (fun W hS => run_bld rfl rfl zer_custumalref24_Request plc_custumalref24_Request (fill_c fill_n (l' := [.c (.int .i64 (byV (l, 0) : Int)), .c (str []), .c (str []), .c (str []), .c (.int .i64 0), .c (.int .i64 0), .c (.int .i64 0), .c (.int .i64 0), .c (str []), .c (str []), .c (.int .i64 0), .c (.int .i64 0), .c (str [])]) (m := [.c (.int .i64 (byV (l, 0) : Int))]) (hv := rfl) (hs := agF_setp 0 1) (hp := rfl) (hn := rfl) (hb := by show 0 + 1 ≤ 13; decide))) ?_
 refine MN (z := agF [.c (.int .i64 0), .c (str []), .c (str []), .c (str []), .c (.int .i64 0), .c (.int .i64 0), .c (.int .i64 0), .c (.int .i64 0), .c (str []), .c (str []), .c (.int .i64 0), .c (.int .i64 0), .c (str [])]) (t := 24) ?_
 intro p5_3
 refine MR 0 ?_ (hz := by rw [agF_size]; kernel_rfl) (hs := by first | (rw [agF_size, agF_size]; rfl) | rfl) (h1 := by exact (agF_one ⟨rfl, rfl, rfl, rfl, rfl, rfl, rfl, rfl, rfl, rfl, rfl, rfl, rfl, trivial⟩))
 refine MZ fun W hS => ?_
 go_upto_region 3 with fail
 refine RL hS ?_
 clear hS
 refine MV ?_
 refine MG 0 ?_ (v := .int .i64 (byV (l, 0) : Int)) (hj := (agF_cel 0))
 refine MZ fun W hS => ?_
 go_upto_region 5 with fail
 refine RL hS ?_
 clear hS
 refine MW ?_ (v := .bool false) (hv := by intro W; go_simp; first | done | omega | assumption)
 refine MW ?_ (v := .bool false)
 refine MZ fun W hS => ?_
 go_upto_region 14 with fail
 refine RL hS ?_
 clear hS
 refine MW ?_ (v := .bool false) (hv := by intro W; go_simp; first | done | omega | assumption)
 refine MW ?_ (v := .bool false)
 refine MZ fun W hS => ?_
 go_upto_region 18 with fail
 refine RL hS ?_
 clear hS
 refine MW ?_ (v := .bool false) (hv := by intro W; go_simp; first | done | omega | assumption)
 refine MW ?_ (v := .bool false)
 refine MZ fun W hS => ?_
 go_upto_region 19 with fail
 refine RL hS ?_
 clear hS
 refine MW ?_ (v := .bool false) (hv := by intro W; go_simp; first | done | omega | assumption)
 refine MW ?_ (v := .bool false)
 refine MZ fun W hS => ?_
 go_upto_region 24 with fail
 refine RL hS ?_
 clear hS
 refine MW ?_ (v := .bool false) (hv := by intro W; go_simp; first | done | omega | assumption)
 refine MW ?_ (v := .bool false)
 refine MZ fun W hS => ?_
 go_upto_region 25 with fail
 refine RL hS ?_
 clear hS
 refine MW ?_ (v := .bool false) (hv := by intro W; go_simp; first | done | omega | assumption)
 refine MW ?_ (v := .bool false)
 refine MZ fun W hS => ?_
 go_upto_region 30 with fail
 refine RL hS ?_
 clear hS
 refine MW ?_ (v := .bool false) (hv := by intro W; go_simp; first | done | omega | assumption)
 refine MW ?_ (v := .bool false)
 refine MZ fun W hS => ?_
 go_upto_region 32 with fail
 refine RL hS ?_
 clear hS
 refine MW ?_ (v := .bool false) (hv := by intro W; go_simp; first | done | omega | assumption)
 refine MW ?_ (v := .bool false)
 refine MZ fun W hS => ?_
 go_upto_region 33 with fail
 refine RL hS ?_
 clear hS
 refine MW ?_ (v := .bool false) (hv := by intro W; go_simp; first | done | omega | assumption)
 refine MW ?_ (v := .bool false)
 refine MZ fun W hS => ?_
 go_upto_region 34 with fail
 refine RL hS ?_
 clear hS
 refine MW ?_ (v := .bool false) (hv := by intro W; go_simp; first | done | omega | assumption)
 refine MW ?_ (v := .bool false)
 refine MZ fun W hS => ?_
 go_upto_region 35 with fail
 refine RL hS ?_
 clear hS
 refine MW ?_ (v := .bool false) (hv := by intro W; go_simp; first | done | omega | assumption)
 refine MW ?_ (v := .bool false)
 refine MZ fun W hS => ?_
 go_upto_region 36 with fail
 refine RL hS ?_
 clear hS
 refine MW ?_ (v := .bool false) (hv := by intro W; go_simp; first | done | omega | assumption)
 refine MW ?_ (v := .bool false)
 refine MZ fun W hS => ?_
 go_upto_region 4 with fail
 refine RL hS ?_
 clear hS
 refine MF (v := .agg (agF [.c (.int .i64 0), .c (str []), .c (str []), .c (str []), .c (.int .i64 0), .c (.int .i64 0), .c (.int .i64 0), .c (.int .i64 0), .c (str []), .c (str []), .c (.int .i64 0), .c (.int .i64 0), .c (str [])])) (fun W hS => run_bld rfl rfl zer_custumalref24_Request plc_custumalref24_Request fill_n) ?_
 refine MR 2 ?_ (hz := by rw [agF_size]; kernel_rfl) (hs := by first | (rw [agF_size, agF_size]; rfl) | rfl) (h1 := by exact (agF_one ⟨rfl, rfl, rfl, rfl, rfl, rfl, rfl, rfl, rfl, rfl, rfl, rfl, rfl, trivial⟩))
 refine MW ?_ (v := .bool false)
 refine MZ fun W hS => ?_
 go_wp2
 exact bodyPost_ret (res_c2 rfl rfl rfl (hS.blk (i := 2) rfl) (by kernel_rfl) (by rw [agF_size]; kernel_rfl)) rfl ⟨rfl, hS.ext⟩
/-- what the bytes l ask -/
def askedM (l : List UInt8) : Option Rq := if (1 ≤ byV (l, 0) ∧ byV (l, 0) ≤ 12) ∧ enV (aQ l).2 = 0 then some (aQ l).1 else none
theorem dasked_c {l : List UInt8} (w : World) : Calls Try.prog 13 #[str l] w fun e w' => (askedM l = none ∧ Ret (.tuple #[.agg zRR, .bool false]) w w' e) ∨ (∃ q, askedM l = some q ∧ Ret (.tuple #[.agg (drF q), .bool true]) w w' e) := by
 have lift : 1 ≤ byV (l, 0) → byV (l, 0) ≤ 12 → ∀ {e w'}, (enV (aQ l).2 ≠ 0 ∧ Ret (.tuple #[.agg zRR, .bool false]) w w' e) ∨ (enV (aQ l).2 = 0 ∧ Ret (.tuple #[.agg (drF (aQ l).1), .bool true]) w w' e) → (askedM l = none ∧ Ret (.tuple #[.agg zRR, .bool false]) w w' e) ∨ (∃ q, askedM l = some q ∧ Ret (.tuple #[.agg (drF q), .bool true]) w w' e) := by
  rintro h1 h2 e w' (⟨h3, h4⟩ | ⟨h3, h4⟩)
  ·
   exact .inl ⟨if_neg fun h => h3 h.2, h4⟩
  ·
   exact .inr ⟨_, if_pos ⟨⟨h1, h2⟩, h3⟩, h4⟩
 by_cases hK : 1 ≤ byV (l, 0) ∧ byV (l, 0) ≤ 12
 ·
  have h12 : byV (l, 0) = 1 ∨ byV (l, 0) = 2 ∨ byV (l, 0) = 3 ∨ byV (l, 0) = 4 ∨ byV (l, 0) = 5 ∨ byV (l, 0) = 6 ∨ byV (l, 0) = 7 ∨ byV (l, 0) = 8 ∨ byV (l, 0) = 9 ∨ byV (l, 0) = 10 ∨ byV (l, 0) = 11 ∨ byV (l, 0) = 12 := by omega
  rcases h12 with h | h | h | h | h | h | h | h | h | h | h | h
  ·
   exact (dasked_1 h w).mono fun _ _ => lift hK.1 hK.2
  ·
   exact (dasked_2 h w).mono fun _ _ => lift hK.1 hK.2
  ·
   exact (dasked_3 h w).mono fun _ _ => lift hK.1 hK.2
  ·
   exact (dasked_4 h w).mono fun _ _ => lift hK.1 hK.2
  ·
   exact (dasked_5 h w).mono fun _ _ => lift hK.1 hK.2
  ·
   exact (dasked_6 h w).mono fun _ _ => lift hK.1 hK.2
  ·
   exact (dasked_7 h w).mono fun _ _ => lift hK.1 hK.2
  ·
   exact (dasked_8 h w).mono fun _ _ => lift hK.1 hK.2
  ·
   exact (dasked_9 h w).mono fun _ _ => lift hK.1 hK.2
  ·
   exact (dasked_10 h w).mono fun _ _ => lift hK.1 hK.2
  ·
   exact (dasked_11 h w).mono fun _ _ => lift hK.1 hK.2
  ·
   exact (dasked_12 h w).mono fun _ _ => lift hK.1 hK.2
 ·
  exact (dasked_none (by omega) w).mono fun _ _ h => .inl ⟨if_neg fun h => hK h.1, h⟩
end Go.Proofs.Ytlbgelbhhibikaa.Ww
