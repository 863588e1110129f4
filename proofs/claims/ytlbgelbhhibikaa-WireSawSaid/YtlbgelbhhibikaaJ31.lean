/- The laws of layer 24: requests are compared; from; wires. Conditions: memory holds what is written. WireAsks. Conditions: numbers have 64 bits. -/
import Derived.Test.YtlbgelbhhibikaaJ27
import Derived.Laws.StructEq
set_option linter.unusedSimpArgs false
set_option linter.unusedVariables false
namespace Go.Proofs.Ytlbgelbhhibikaa.Ww
set_option maxHeartbeats 1500000
set_option maxRecDepth 100000
open Go.RowKit
attribute [local irreducible] wpList wpTr wpX
set_option linter.unusedSimpArgs false
attribute [local irreducible] lb be8 eI tB txL txB dtx dok txV txS tkS byV nuV suV enV

theorem w_ask : isK (4 : Int) ∧ askB ⟨4, [97], 0, 0, 0, 0, 0, 0, [], [], 0, 0, []⟩ = false ∧ askL ⟨4, [97], 0, 0, 0, 0, 0, 0, [], [], 0, 0, []⟩ = [4, 0, 1, 97] := ⟨by decide, by decide +kernel, by decide +kernel⟩
theorem w_asked : askedM [4, 0, 2, 97] = none := by decide +kernel
theorem ask_yes {q : Rq} {iv lv vv bv : Value} (h : isK q.k ∧ askB q = false) (w : World) (hid : Sl w iv q.id) (hlab : Sl w lv q.lab) (hval : Sl w vv q.val) (hbun : Sl w bv q.bun) :
 Calls Try.prog 10 #[.agg (rqF q iv lv vv bv)] w fun e w' => ∃ u, e = .returned (.tuple #[u, .int .i64 0]) ∧ SH [] w w' [.o u (askL q)] :=
 (ask_c w hid hlab hval hbun).mono fun e w' hc => hc.elim (fun ⟨h1, _⟩ => (h1.elim (fun h2 => absurd h.1 h2) (fun h2 => by rw [h.2] at h2; cases h2))) (fun ⟨_, h2⟩ => h2)
theorem asked_not {u : Value} {l : List UInt8} (hq : askedM l = none) (hl : l.length ≤ 1000000) (w : World) (hs : Sl w u l) :
 Calls Try.prog 14 #[u] w fun e w' => Ret (.tuple #[.agg zRQ, .int .i64 2]) w w' e :=
 (asked_c hl w hs).mono fun e w' hc => hc.elim (fun ⟨_, h2⟩ => h2) (fun ⟨q', h1, _⟩ => by rw [hq] at h1; cases h1)
theorem wires_c (w : World) :
  Calls Try.prog 12 #[] w fun e w' => Ret (.bool true) w w' e := by
 have hS := SH.nil [] w
 go_enter Try.func12, Try.ntmps12
 go_upto_region 1 with fail
 refine RL hS ?_
 clear hS
 refine MO (m := [97]) (n := 1) (z := #[.int .u8 97]) ?_
 intro v6_1
 refine MSm 0 (l := [97]) (by first | decide | (simp only [List.length_append, List.length_cons, List.length_nil]; omega)) ?_
 refine MFact (fun W hS => (sl_cells (hS.sl (i := 0) rfl)).2) ?_
 intro oc_s62
 refine MF (v := .agg (agF [.c (.int .i64 4), .c v6_1, .a 32 0, .a 32 0, .c (.int .i64 0), .c (.int .i64 0), .c (.int .i64 0), .c (.int .i64 0), .c (.slice none 0 0), .c (.slice none 0 0), .c (.int .i64 0), .c (.int .i64 0), .c (.slice none 0 0)])) (fun W hS => run_bld rfl rfl zer_wire_Request plc_wire_Request (fill_c (fill_c fill_n (l' := [.c (.int .i64 4), .c v6_1, .a 32 0, .a 32 0, .c (.int .i64 0), .c (.int .i64 0), .c (.int .i64 0), .c (.int .i64 0), .c (.slice none 0 0), .c (.slice none 0 0), .c (.int .i64 0), .c (.int .i64 0), .c (.slice none 0 0)]) (m := [.c v6_1]) (hv := (sl_cells (hS.sl (i := 0) rfl)).1) (hs := agF_setp 1 1) (hp := rfl) (hn := rfl) (hb := by show 1 + 1 ≤ 75; decide)) (l' := [.c (.int .i64 4), .c (.slice none 0 0), .a 32 0, .a 32 0, .c (.int .i64 0), .c (.int .i64 0), .c (.int .i64 0), .c (.int .i64 0), .c (.slice none 0 0), .c (.slice none 0 0), .c (.int .i64 0), .c (.int .i64 0), .c (.slice none 0 0)]) (m := [.c (.int .i64 4)]) (hv := rfl) (hs := agF_setp 0 1) (hp := rfl) (hn := rfl) (hb := by show 0 + 1 ≤ 75; decide))) ?_
 refine ME (V := fun u => .tuple #[u, .int .i64 0]) (fun W hS => ncallW (l := [4, 0, 1, 97]) hS (by have h_ := ask_yes (q := ⟨4, [97], 0, 0, 0, 0, 0, 0, [], [], 0, 0, []⟩) ⟨w_ask.1, w_ask.2.1⟩ W (hS.sl (i := 0) rfl) (sl_nil W) (sl_nil W) (sl_nil W); rw [w_ask.2.2] at h_; exact h_)) ?_
 intro ua3
 refine MV ?_
 refine MV ?_
 refine MW ?_ (v := .int .i64 0)
 refine MV ?_
 refine MW ?_ (v := .int .i64 0)
 refine MZ fun W hS => ?_
 go_upto_region 2 with fail
 refine RL hS ?_
 clear hS
 refine MO (m := [4, 0, 2, 97]) (n := 4) (z := #[.int .u8 4, .int .u8 0, .int .u8 2, .int .u8 97]) ?_
 intro v13_4
 refine MC (v := .tuple #[.agg (agF [.c (.int .i64 0), .c (.slice none 0 0), .a 32 0, .a 32 0, .c (.int .i64 0), .c (.int .i64 0), .c (.int .i64 0), .c (.int .i64 0), .c (.slice none 0 0), .c (.slice none 0 0), .c (.int .i64 0), .c (.int .i64 0), .c (.slice none 0 0)]), .int .i64 2]) (fun W hS => asked_not w_asked (by decide) W (hS.osl (i := 0) rfl)) ?_
 refine MV ?_
 refine MV ?_
 refine MW ?_ (v := .int .i64 2)
 refine MN (z := agF [.c (.int .i64 0), .c (.slice none 0 0), .a 32 0, .a 32 0, .c (.int .i64 0), .c (.int .i64 0), .c (.int .i64 0), .c (.int .i64 0), .c (.slice none 0 0), .c (.slice none 0 0), .c (.int .i64 0), .c (.int .i64 0), .c (.slice none 0 0)]) (t := 33) ?_
 intro p3_5
 refine MR 0 ?_ (hz := by rw [agF_size]; kernel_rfl) (hs := by first | (rw [agF_size, agF_size]; rfl) | rfl) (h1 := by exact (agF_one ⟨rfl, rfl, rfl, rfl, rfl, rfl, rfl, rfl, rfl, rfl, rfl, trivial⟩))
 refine MW ?_ (v := .int .i64 2)
 refine MZ fun W hS => ?_
 go_upto_region 3 with fail
 refine RL hS ?_
 clear hS
 refine MW ?_ (v := .int .i64 0)
 refine MW ?_ (v := .bool true)
 refine MW ?_ (v := .bool true)
 refine MV ?_
 refine MF (v := str [4, 0, 1, 97]) (fun W hS => run_cvs (hS.osl (i := 2) rfl) rfl rfl) ?_
 refine MW ?_ (v := .bool true) (hv := fun _ => run_streqb (l := [4, 0, 1, 97]) (m := [4, 0, 1, 97]) (b := true) (decide_eq_true rfl) rfl rfl rfl)
 refine MW ?_ (v := .bool true)
 refine MW ?_ (v := .bool true)
 refine MW ?_ (v := .int .i64 2)
 refine MW ?_ (v := .bool true)
 refine MW ?_ (v := .bool true)
 refine MW ?_ (v := .bool true)
 refine MZ fun W hS => ?_
 go_wp2
 first | exact bodyPost_ret (v := .bool true) (by simp only [results, Try.results12]; go_simp) rfl ⟨rfl, hS.ext⟩ | exact bodyPost_end (v := .bool true) (by simp only [results, Try.results12]; go_simp) rfl ⟨rfl, hS.ext⟩
end Go.Proofs.Ytlbgelbhhibikaa.Ww

set_option linter.unusedSimpArgs false
set_option linter.unusedVariables false
namespace Go.Proofs.Ytlbgelbhhibikaa.Ww
set_option maxHeartbeats 1500000
set_option maxRecDepth 100000
open Go.RowKit
attribute [local irreducible] wpList wpTr wpX
set_option linter.unusedSimpArgs false
theorem fr4 {n : Nat} {X : List As} (h : X.all (·.mv) = true) : ∀ y ∈ X, y.mv = false → ∀ k ∈ y.foot, n ≤ k := fun y hy hm => by
 have := List.all_eq_true.1 h y hy; rw [hm] at this; cases this
attribute [local irreducible] lb be8 eI tB txL txB dtx dok txV txS tkS byV nuV suV enV askL askB daskL cutQ

end Go.Proofs.Ytlbgelbhhibikaa.Ww
