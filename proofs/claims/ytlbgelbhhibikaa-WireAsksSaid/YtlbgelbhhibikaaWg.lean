/- The laws of layer 24: tame, to. Conditions: memory holds what is written. -/
import Derived.Test.YtlbgelbhhibikaaWc
set_option linter.unusedSimpArgs false
set_option linter.unusedVariables false
namespace Go.Proofs.Ytlbgelbhhibikaa.Ww
set_option maxHeartbeats 1500000
set_option maxRecDepth 100000
open Go.RowKit
attribute [local irreducible] wpList wpTr wpX
set_option linter.unusedSimpArgs false
attribute [local irreducible] lb be8 eI tB txL txB dtx dok

theorem zer_wire_Request : zer Try.prog 33 = some (some (agF [.c (.int .i64 0), .c (.slice none 0 0), .a 32 0, .a 32 0, .c (.int .i64 0), .c (.int .i64 0), .c (.int .i64 0), .c (.int .i64 0), .c (.slice none 0 0), .c (.slice none 0 0), .c (.int .i64 0), .c (.int .i64 0), .c (.slice none 0 0)])) := by kernel_rfl
theorem plc_wire_Request : plc Try.prog 33 = some [(0, 1), (1, 1), (2, 64), (66, 3), (69, 1), (70, 1), (71, 1), (72, 1), (73, 1), (74, 1)] := by kernel_rfl
theorem zer_custumalref24_Request : zer Try.prog 24 = some (some (agF [.c (.int .i64 0), .c (str []), .c (str []), .c (str []), .c (.int .i64 0), .c (.int .i64 0), .c (.int .i64 0), .c (.int .i64 0), .c (str []), .c (str []), .c (.int .i64 0), .c (.int .i64 0), .c (str [])])) := by kernel_rfl
theorem plc_custumalref24_Request : plc Try.prog 24 = some [(0, 1), (1, 1), (2, 1), (3, 1), (4, 3), (7, 1), (8, 1), (9, 1), (10, 1), (11, 1), (12, 1)] := by kernel_rfl
theorem zer_direct_Limits : zer Try.prog 31 = some (some (agF [.c (.int .i64 0), .c (.int .i64 0), .c (.int .i64 0)])) := by kernel_rfl
theorem plc_direct_Limits : plc Try.prog 31 = some [(0, 1), (1, 1), (2, 1)] := by kernel_rfl
theorem zer_direct_Keys : zer Try.prog 29 = some (some (agF [.a 32 0, .a 32 0])) := by kernel_rfl
theorem plc_direct_Keys : plc Try.prog 29 = some [(0, 32), (32, 32)] := by kernel_rfl
/-- what tame leaves of a request -/
def tameQ (k : Int) (id vr bi : List UInt8) (l0 l1 l2 per : Int) (lab val : List UInt8) (fr ti : Int) (bun : List UInt8) : Rq := ⟨k, id.take (min id.length 40), le (vr.take 32), le (bi.take 32), l0, l1, l2, per, lab.take (min lab.length 40), val.take (min val.length 80), fr, ti, bun.take (min bun.length 300)⟩
theorem tame_c {k l0 l1 l2 per fr ti : Int} {id vr bi lab val bun : List UInt8} (w : World) :
  Calls Try.prog 8 #[.agg (agF [.c (.int .i64 k), .c (str id), .c (str vr), .c (str bi), .c (.int .i64 l0), .c (.int .i64 l1), .c (.int .i64 l2), .c (.int .i64 per), .c (str lab), .c (str val), .c (.int .i64 fr), .c (.int .i64 ti), .c (str bun)])] w fun e w' => Ret (.agg (rrF (tameQ k id vr bi l0 l1 l2 per lab val fr ti bun) (lb 32 (le (vr.take 32))) (lb 32 (le (bi.take 32))))) w w' e := by
 have hS := SH.nil [] w
 go_enter Try.func8, Try.ntmps8
 go_upto_region 0 with fail
 refine RL hS ?_
 clear hS
 refine MN (z := agF [.c (.int .i64 k), .c (str id), .c (str vr), .c (str bi), .c (.int .i64 l0), .c (.int .i64 l1), .c (.int .i64 l2), .c (.int .i64 per), .c (str lab), .c (str val), .c (.int .i64 fr), .c (.int .i64 ti), .c (str bun)]) (t := 24) ?_
 intro p1_1
 refine MN (z := agF [.c (.int .i64 0), .c (str []), .c (str []), .c (str []), .c (.int .i64 0), .c (.int .i64 0), .c (.int .i64 0), .c (.int .i64 0), .c (str []), .c (str []), .c (.int .i64 0), .c (.int .i64 0), .c (str [])]) (t := 24) ?_
 intro p2_2
 refine MZ fun W hS => ?_
 go_upto_region 1 with fail
 refine RY [true, false, true, false, true, true, true, true, false, true, false, true, true, true, true, false, true, false, true, true, true, true] hS ?_
 clear hS
 refine YV ?_
 refine YG 1 ?_ (v := str id) (hj := (agF_cel 1))
 refine YV ?_
 refine YG 1 ?_ (v := str id) (hj := (agF_cel 1))
 refine YW ?_ (v := .int .i64 (id.length : Int)) (hv := fun _ => run_slen (l := id) rfl rfl)
 refine YW ?_ (v := .int .i64 ((min id.length 40 : Nat) : Int))
 refine YW ?_ (v := str (List.take (min id.length 40) id)) (hv := fun _ => run_shead (n := (min id.length 40)) (by first | omega | decide | (simp only [List.length_append, List.length_cons, List.length_nil, List.length_take, lb_length, eI_len]; omega)) rfl Try.underlying9 rfl rfl)
 refine YV ?_
 refine YG 1 ?_ (v := str lab) (hj := (agF_cel 8))
 refine YV ?_
 refine YG 1 ?_ (v := str lab) (hj := (agF_cel 8))
 refine YW ?_ (v := .int .i64 (lab.length : Int)) (hv := fun _ => run_slen (l := lab) rfl rfl)
 refine YW ?_ (v := .int .i64 ((min lab.length 40 : Nat) : Int))
 refine YW ?_ (v := str (List.take (min lab.length 40) lab)) (hv := fun _ => run_shead (n := (min lab.length 40)) (by first | omega | decide | (simp only [List.length_append, List.length_cons, List.length_nil, List.length_take, lb_length, eI_len]; omega)) rfl Try.underlying9 rfl rfl)
 refine YV ?_
 refine YG 1 ?_ (v := str val) (hj := (agF_cel 9))
 refine YV ?_
 refine YG 1 ?_ (v := str val) (hj := (agF_cel 9))
 refine YW ?_ (v := .int .i64 (val.length : Int)) (hv := fun _ => run_slen (l := val) rfl rfl)
 refine YW ?_ (v := .int .i64 ((min val.length 80 : Nat) : Int))
 refine YW ?_ (v := str (List.take (min val.length 80) val)) (hv := fun _ => run_shead (n := (min val.length 80)) (by first | omega | decide | (simp only [List.length_append, List.length_cons, List.length_nil, List.length_take, lb_length, eI_len]; omega)) rfl Try.underlying9 rfl rfl)
 refine YV ?_
 refine YZt ?_
 refine MP 1 (v := str (List.take (min id.length 40) id)) (cs' := agF [.c (.int .i64 k), .c (str (List.take (min id.length 40) id)), .c (str vr), .c (str bi), .c (.int .i64 l0), .c (.int .i64 l1), .c (.int .i64 l2), .c (.int .i64 per), .c (str lab), .c (str val), .c (.int .i64 fr), .c (.int .i64 ti), .c (str bun)]) ?_ (hs := by rw [agF_size]; show 1 < 13; decide) (hc := agF_setc 1)
 refine MV ?_
 refine MP 1 (v := str (List.take (min lab.length 40) lab)) (cs' := agF [.c (.int .i64 k), .c (str (List.take (min id.length 40) id)), .c (str vr), .c (str bi), .c (.int .i64 l0), .c (.int .i64 l1), .c (.int .i64 l2), .c (.int .i64 per), .c (str (List.take (min lab.length 40) lab)), .c (str val), .c (.int .i64 fr), .c (.int .i64 ti), .c (str bun)]) ?_ (hs := by rw [agF_size]; show 8 < 13; decide) (hc := agF_setc 8)
 refine MV ?_
 refine MP 1 (v := str (List.take (min val.length 80) val)) (cs' := agF [.c (.int .i64 k), .c (str (List.take (min id.length 40) id)), .c (str vr), .c (str bi), .c (.int .i64 l0), .c (.int .i64 l1), .c (.int .i64 l2), .c (.int .i64 per), .c (str (List.take (min lab.length 40) lab)), .c (str (List.take (min val.length 80) val)), .c (.int .i64 fr), .c (.int .i64 ti), .c (str bun)]) ?_ (hs := by rw [agF_size]; show 9 < 13; decide) (hc := agF_setc 9)
 refine MZn fun W hS => ?_
 go_upto_region 2 with fail
 refine RL hS ?_
 clear hS
 refine MV ?_
 refine MG 1 ?_ (v := str bun) (hj := (agF_cel 12))
 refine MV ?_
 refine MG 1 ?_ (v := str bun) (hj := (agF_cel 12))
 refine MW ?_ (v := .int .i64 (bun.length : Int)) (hv := fun _ => run_slen (l := bun) rfl rfl)
 refine MW ?_ (v := .int .i64 ((min bun.length 300 : Nat) : Int))
 refine MW ?_ (v := str (List.take (min bun.length 300) bun)) (hv := fun _ => run_shead (n := (min bun.length 300)) (by first | omega | decide | (simp only [List.length_append, List.length_cons, List.length_nil, List.length_take, lb_length, eI_len]; omega)) rfl Try.underlying9 rfl rfl)
 refine MV ?_
 refine MP 1 (v := str (List.take (min bun.length 300) bun)) (cs' := agF [.c (.int .i64 k), .c (str (List.take (min id.length 40) id)), .c (str vr), .c (str bi), .c (.int .i64 l0), .c (.int .i64 l1), .c (.int .i64 l2), .c (.int .i64 per), .c (str (List.take (min lab.length 40) lab)), .c (str (List.take (min val.length 80) val)), .c (.int .i64 fr), .c (.int .i64 ti), .c (str (List.take (min bun.length 300) bun))]) ?_ (hs := by rw [agF_size]; show 12 < 13; decide) (hc := agF_setc 12)
 refine MZ fun W hS => ?_
 go_upto_region 3 with fail
 refine RL hS ?_
 clear hS
 refine MN (z := arrK .u8 32 (byt 0)) (t := 27) ?_
 intro p3_3
 refine MN (z := arrK .u8 32 (byt 0)) (t := 27) ?_
 intro p4_4
 refine MZ fun W hS => ?_
 go_upto_region 4 with fail
 refine RTp [0, 2, 3] (.q 0 (.q 1 (.q 2 (.e 3 .z)))) hS ?_
 clear hS
 refine TW ?_ (v := .slice (some ⟨p3_3, 0, none⟩) 32 32)
 refine TV ?_
 refine TG 2 ?_ (v := str vr) (hj := (agF_cel 2))
 refine TE (fun _ h => h.pick [0, 2, 3]) ?_
 refine MCq 1 (l := vr) (N := 32) (cs := arrK .u8 32 (byt 0)) (new := arrK .u8 32 (byt (le (List.take 32 vr)))) cpz ?_
 refine TNp [0, 2, 3] [0, 1, 2] ?_
 refine TZ (fun _ h => h.pick [0, 2, 3]) fun W hS => ?_
 go_upto_region 5 with fail
 refine RTp [1, 2, 3] (.q 0 (.q 1 (.q 2 (.e 3 .z)))) hS ?_
 clear hS
 refine TW ?_ (v := .slice (some ⟨p4_4, 0, none⟩) 32 32)
 refine TV ?_
 refine TG 2 ?_ (v := str bi) (hj := (agF_cel 3))
 refine TE (fun _ h => h.pick [1, 2, 3]) ?_
 refine MCq 0 (l := bi) (N := 32) (cs := arrK .u8 32 (byt 0)) (new := arrK .u8 32 (byt (le (List.take 32 bi)))) cpz ?_
 refine TNp [1, 2, 3] [0, 1, 2] ?_
 refine TZ (fun _ h => h.pick [1, 2, 3]) fun W hS => ?_
 go_upto_region 6 with fail
 refine RTp [0, 1, 2] (.q 0 (.q 1 (.q 2 (.q 3 (.q 4 (.e 5 (.q 6 (.e 7 .z)))))))) hS ?_
 clear hS
 refine TW ?_ (v := .slice (some ⟨p3_3, 0, none⟩) 32 32)
 refine TF (v := str (lb 32 (le (List.take 32 vr)))) rfl (fun W hS => run_cvs (sl_part (V := (le (List.take 32 vr))) (n := 32) (off := 0) (c := 32) (hS.blk (i := 1) rfl) ap0 (by decide) (by decide)) rfl rfl) ?_
 refine TW ?_ (v := .slice (some ⟨p4_4, 0, none⟩) 32 32)
 refine TF (v := str (lb 32 (le (List.take 32 bi)))) rfl (fun W hS => run_cvs (sl_part (V := (le (List.take 32 bi))) (n := 32) (off := 0) (c := 32) (hS.blk (i := 0) rfl) ap0 (by decide) (by decide)) rfl rfl) ?_
 refine TV ?_
 refine TE (fun _ h => h.pick [0, 1, 2]) ?_
 refine MP 3 (v := str (lb 32 (le (List.take 32 vr)))) (cs' := agF [.c (.int .i64 k), .c (str (List.take (min id.length 40) id)), .c (str (lb 32 (le (List.take 32 vr)))), .c (str bi), .c (.int .i64 l0), .c (.int .i64 l1), .c (.int .i64 l2), .c (.int .i64 per), .c (str (List.take (min lab.length 40) lab)), .c (str (List.take (min val.length 80) val)), .c (.int .i64 fr), .c (.int .i64 ti), .c (str (List.take (min bun.length 300) bun))]) ?_ (hs := by rw [agF_size]; show 2 < 13; decide) (hc := agF_setc 2)
 refine TNp [0, 1, 2] [0, 1, 2] ?_
 refine TV ?_
 refine TE (fun _ h => h.pick [0, 1, 2]) ?_
 refine MP 3 (v := str (lb 32 (le (List.take 32 bi)))) (cs' := agF [.c (.int .i64 k), .c (str (List.take (min id.length 40) id)), .c (str (lb 32 (le (List.take 32 vr)))), .c (str (lb 32 (le (List.take 32 bi)))), .c (.int .i64 l0), .c (.int .i64 l1), .c (.int .i64 l2), .c (.int .i64 per), .c (str (List.take (min lab.length 40) lab)), .c (str (List.take (min val.length 80) val)), .c (.int .i64 fr), .c (.int .i64 ti), .c (str (List.take (min bun.length 300) bun))]) ?_ (hs := by rw [agF_size]; show 3 < 13; decide) (hc := agF_setc 3)
 refine TNp [0, 1, 2] [0, 1, 2] ?_
 refine TZ (fun _ h => h.pick [0, 1, 2]) fun W hS => ?_
 go_upto_region 7 with fail
 refine RL hS ?_
 clear hS
 refine ML 3 ?_ (hs := by rw [agF_size]; kernel_rfl)
 refine MR 2 ?_ (hz := by rw [agF_size]; kernel_rfl) (hs := by rw [agF_size, agF_size]; rfl) (h1 := by exact (agF_one ⟨rfl, rfl, rfl, rfl, rfl, rfl, rfl, rfl, rfl, rfl, rfl, rfl, rfl, trivial⟩))
 refine MZ fun W hS => ?_
 go_wp2
 exact bodyPost_ret (res_row rfl rfl (hS.blk (i := 2) rfl) (by kernel_rfl) (by rw [agF_size]; kernel_rfl)) rfl ⟨rfl, hS.ext⟩
theorem to_c {q : Rq} (hq : q.id.length ≤ 1000000 ∧ q.lab.length ≤ 1000000 ∧ q.val.length ≤ 1000000 ∧ q.bun.length ≤ 1000000) (w : World) :
  Calls Try.prog 9 #[.agg (rrF q (lb 32 q.vrf) (lb 32 q.bind))] w fun e w' => ∃ x : Value × Value × Value × Value, e = .returned (.agg (rqF q x.1 x.2.1 x.2.2.1 x.2.2.2)) ∧ SH [] w w' [.w x.1 q.id, .w x.2.1 q.lab, .w x.2.2.1 q.val, .w x.2.2.2 q.bun] := by
 have hS := SH.nil [] w
 go_enter Try.func9, Try.ntmps9
 go_upto_region 0 with fail
 refine RL hS ?_
 clear hS
 refine MN (z := agF [.c (.int .i64 q.k), .c (str q.id), .c (str (lb 32 q.vrf)), .c (str (lb 32 q.bind)), .c (.int .i64 q.l0), .c (.int .i64 q.l1), .c (.int .i64 q.l2), .c (.int .i64 q.per), .c (str q.lab), .c (str q.val), .c (.int .i64 q.fr), .c (.int .i64 q.ti), .c (str q.bun)]) (t := 24) ?_
 intro p1_1
 refine MN (z := agF [.c (.int .i64 0), .c (.slice none 0 0), .a 32 0, .a 32 0, .c (.int .i64 0), .c (.int .i64 0), .c (.int .i64 0), .c (.int .i64 0), .c (.slice none 0 0), .c (.slice none 0 0), .c (.int .i64 0), .c (.int .i64 0), .c (.slice none 0 0)]) (t := 33) ?_
 intro p2_2
 refine MZ fun W hS => ?_
 go_upto_region 1 with fail
 refine RL hS ?_
 clear hS
 refine MV ?_
 refine MG 1 ?_ (v := .int .i64 q.k) (hj := (agF_cel 0))
 refine MV ?_
 refine MG 1 ?_ (v := str q.id) (hj := (agF_cel 1))
 refine MY (m := q.id) (by first | omega | decide | (simp only [List.length_append, List.length_cons, List.length_nil, List.length_take, lb_length, eI_len]; omega)) ?_
 intro v8_3
 refine MV ?_
 refine MG 2 ?_ (v := .int .i64 q.per) (hj := (agF_cel 7))
 refine MV ?_
 refine MG 2 ?_ (v := str q.lab) (hj := (agF_cel 8))
 refine MY (m := q.lab) (by first | omega | decide | (simp only [List.length_append, List.length_cons, List.length_nil, List.length_take, lb_length, eI_len]; omega)) ?_
 intro v13_4
 refine MV ?_
 refine MG 3 ?_ (v := str q.val) (hj := (agF_cel 9))
 refine MY (m := q.val) (by first | omega | decide | (simp only [List.length_append, List.length_cons, List.length_nil, List.length_take, lb_length, eI_len]; omega)) ?_
 intro v16_5
 refine MV ?_
 refine MG 4 ?_ (v := .int .i64 q.fr) (hj := (agF_cel 10))
 refine MV ?_
 refine MG 4 ?_ (v := .int .i64 q.ti) (hj := (agF_cel 11))
 refine MV ?_
 refine MG 4 ?_ (v := str q.bun) (hj := (agF_cel 12))
 refine MY (m := q.bun) (by first | omega | decide | (simp only [List.length_append, List.length_cons, List.length_nil, List.length_take, lb_length, eI_len]; omega)) ?_
 intro v23_6
 refine MFact (fun W hS => (sl_cells (hS.ozl (i := 3) rfl)).2) ?_
 intro oc_q87
 refine MFact (fun W hS => (sl_cells (hS.ozl (i := 2) rfl)).2) ?_
 intro oc_q138
 refine MFact (fun W hS => (sl_cells (hS.ozl (i := 1) rfl)).2) ?_
 intro oc_q169
 refine MFact (fun W hS => (sl_cells (hS.ozl (i := 0) rfl)).2) ?_
 intro oc_q2310
 refine MF (v := .agg (agF [.c (.int .i64 q.k), .c v8_3, .a 32 0, .a 32 0, .c (.int .i64 0), .c (.int .i64 0), .c (.int .i64 0), .c (.int .i64 q.per), .c v13_4, .c v16_5, .c (.int .i64 q.fr), .c (.int .i64 q.ti), .c v23_6])) (fun W hS => run_bld rfl rfl zer_wire_Request plc_wire_Request (fill_c (fill_c (fill_c (fill_c (fill_c (fill_c (fill_c (fill_c fill_n (l' := [.c (.int .i64 q.k), .c v8_3, .a 32 0, .a 32 0, .c (.int .i64 0), .c (.int .i64 0), .c (.int .i64 0), .c (.int .i64 q.per), .c v13_4, .c v16_5, .c (.int .i64 q.fr), .c (.int .i64 q.ti), .c v23_6]) (m := [.c v23_6]) (hv := (sl_cells (hS.ozl (i := 0) rfl)).1) (hs := agF_setp 12 1) (hp := rfl) (hn := rfl) (hb := by show 74 + 1 ≤ 75; decide)) (l' := [.c (.int .i64 q.k), .c v8_3, .a 32 0, .a 32 0, .c (.int .i64 0), .c (.int .i64 0), .c (.int .i64 0), .c (.int .i64 q.per), .c v13_4, .c v16_5, .c (.int .i64 q.fr), .c (.int .i64 q.ti), .c (.slice none 0 0)]) (m := [.c (.int .i64 q.ti)]) (hv := rfl) (hs := agF_setp 11 1) (hp := rfl) (hn := rfl) (hb := by show 73 + 1 ≤ 75; decide)) (l' := [.c (.int .i64 q.k), .c v8_3, .a 32 0, .a 32 0, .c (.int .i64 0), .c (.int .i64 0), .c (.int .i64 0), .c (.int .i64 q.per), .c v13_4, .c v16_5, .c (.int .i64 q.fr), .c (.int .i64 0), .c (.slice none 0 0)]) (m := [.c (.int .i64 q.fr)]) (hv := rfl) (hs := agF_setp 10 1) (hp := rfl) (hn := rfl) (hb := by show 72 + 1 ≤ 75; decide)) (l' := [.c (.int .i64 q.k), .c v8_3, .a 32 0, .a 32 0, .c (.int .i64 0), .c (.int .i64 0), .c (.int .i64 0), .c (.int .i64 q.per), .c v13_4, .c v16_5, .c (.int .i64 0), .c (.int .i64 0), .c (.slice none 0 0)]) (m := [.c v16_5]) (hv := (sl_cells (hS.ozl (i := 1) rfl)).1) (hs := agF_setp 9 1) (hp := rfl) (hn := rfl) (hb := by show 71 + 1 ≤ 75; decide)) (l' := [.c (.int .i64 q.k), .c v8_3, .a 32 0, .a 32 0, .c (.int .i64 0), .c (.int .i64 0), .c (.int .i64 0), .c (.int .i64 q.per), .c v13_4, .c (.slice none 0 0), .c (.int .i64 0), .c (.int .i64 0), .c (.slice none 0 0)]) (m := [.c v13_4]) (hv := (sl_cells (hS.ozl (i := 2) rfl)).1) (hs := agF_setp 8 1) (hp := rfl) (hn := rfl) (hb := by show 70 + 1 ≤ 75; decide)) (l' := [.c (.int .i64 q.k), .c v8_3, .a 32 0, .a 32 0, .c (.int .i64 0), .c (.int .i64 0), .c (.int .i64 0), .c (.int .i64 q.per), .c (.slice none 0 0), .c (.slice none 0 0), .c (.int .i64 0), .c (.int .i64 0), .c (.slice none 0 0)]) (m := [.c (.int .i64 q.per)]) (hv := rfl) (hs := agF_setp 7 1) (hp := rfl) (hn := rfl) (hb := by show 69 + 1 ≤ 75; decide)) (l' := [.c (.int .i64 q.k), .c v8_3, .a 32 0, .a 32 0, .c (.int .i64 0), .c (.int .i64 0), .c (.int .i64 0), .c (.int .i64 0), .c (.slice none 0 0), .c (.slice none 0 0), .c (.int .i64 0), .c (.int .i64 0), .c (.slice none 0 0)]) (m := [.c v8_3]) (hv := (sl_cells (hS.ozl (i := 3) rfl)).1) (hs := agF_setp 1 1) (hp := rfl) (hn := rfl) (hb := by show 1 + 1 ≤ 75; decide)) (l' := [.c (.int .i64 q.k), .c (.slice none 0 0), .a 32 0, .a 32 0, .c (.int .i64 0), .c (.int .i64 0), .c (.int .i64 0), .c (.int .i64 0), .c (.slice none 0 0), .c (.slice none 0 0), .c (.int .i64 0), .c (.int .i64 0), .c (.slice none 0 0)]) (m := [.c (.int .i64 q.k)]) (hv := rfl) (hs := agF_setp 0 1) (hp := rfl) (hn := rfl) (hb := by show 0 + 1 ≤ 75; decide))) ?_
 refine MN (z := agF [.c (.int .i64 0), .c (.slice none 0 0), .a 32 0, .a 32 0, .c (.int .i64 0), .c (.int .i64 0), .c (.int .i64 0), .c (.int .i64 0), .c (.slice none 0 0), .c (.slice none 0 0), .c (.int .i64 0), .c (.int .i64 0), .c (.slice none 0 0)]) (t := 33) ?_
 intro p3_11
 refine MR 0 ?_ (hz := by rw [agF_size]; kernel_rfl) (hs := by rw [agF_size, agF_size]; rfl) (h1 := by exact (agF_one ⟨rfl, oc_q87, rfl, rfl, rfl, rfl, oc_q138, oc_q169, rfl, rfl, oc_q2310, trivial⟩))
 refine MZ fun W hS => ?_
 go_upto_region 2 with fail
 refine RTp [1, 2, 3, 4, 5, 6] (.q 0 (.q 1 (.q 2 (.q 3 (.q 4 (.e 5 .z)))))) hS ?_
 clear hS
 refine TV ?_
 refine TV ?_
 refine TW ?_ (v := .slice (some ⟨p3_11, 2, none⟩) 32 32)
 refine TV ?_
 refine TG 5 ?_ (v := str (lb 32 q.vrf)) (hj := (agF_cel 2))
 refine TE (fun _ h => h.pick [1, 2, 3, 4, 5, 6]) ?_
 refine MCq 0 (l := (lb 32 q.vrf)) (N := 32) (cs := agF [.c (.int .i64 q.k), .c v8_3, .a 32 0, .a 32 0, .c (.int .i64 0), .c (.int .i64 0), .c (.int .i64 0), .c (.int .i64 q.per), .c v13_4, .c v16_5, .c (.int .i64 q.fr), .c (.int .i64 q.ti), .c v23_6]) (new := agF [.c (.int .i64 q.k), .c v8_3, .a 32 q.vrf, .a 32 0, .c (.int .i64 0), .c (.int .i64 0), .c (.int .i64 0), .c (.int .i64 q.per), .c v13_4, .c v16_5, .c (.int .i64 q.fr), .c (.int .i64 q.ti), .c v23_6]) (off := 2) (cpFb 2 rfl rfl rfl) ?_
 refine TNp [1, 2, 3, 4, 5, 6] [0, 1, 2, 3, 4, 5] ?_
 refine TZ (fun _ h => h.pick [1, 2, 3, 4, 5, 6]) fun W hS => ?_
 go_upto_region 3 with fail
 refine RTp [1, 2, 3, 4, 5, 6] (.q 0 (.q 1 (.q 2 (.q 3 (.q 4 (.e 5 .z)))))) hS ?_
 clear hS
 refine TV ?_
 refine TV ?_
 refine TW ?_ (v := .slice (some ⟨p3_11, 34, none⟩) 32 32)
 refine TV ?_
 refine TG 5 ?_ (v := str (lb 32 q.bind)) (hj := (agF_cel 3))
 refine TE (fun _ h => h.pick [1, 2, 3, 4, 5, 6]) ?_
 refine MCq 0 (l := (lb 32 q.bind)) (N := 32) (cs := agF [.c (.int .i64 q.k), .c v8_3, .a 32 q.vrf, .a 32 0, .c (.int .i64 0), .c (.int .i64 0), .c (.int .i64 0), .c (.int .i64 q.per), .c v13_4, .c v16_5, .c (.int .i64 q.fr), .c (.int .i64 q.ti), .c v23_6]) (new := agF [.c (.int .i64 q.k), .c v8_3, .a 32 q.vrf, .a 32 q.bind, .c (.int .i64 0), .c (.int .i64 0), .c (.int .i64 0), .c (.int .i64 q.per), .c v13_4, .c v16_5, .c (.int .i64 q.fr), .c (.int .i64 q.ti), .c v23_6]) (off := 34) (cpFb 3 rfl rfl rfl) ?_
 refine TNp [1, 2, 3, 4, 5, 6] [0, 1, 2, 3, 4, 5] ?_
 refine TZ (fun _ h => h.pick [1, 2, 3, 4, 5, 6]) fun W hS => ?_
 go_upto_region 4 with fail
 refine RL hS ?_
 clear hS
 refine MV ?_
 refine MW ?_ (v := .pointer (some ⟨p1_1, 4, none⟩)) (hv := fun _ => run_ixarrn (m := 3) (k := 1) (j := 0) (off := 4) (by decide) Try.underlying22 (by kernel_rfl) rfl rfl rfl)
 refine MG 6 ?_ (v := .int .i64 q.l0) (hj := (agF_cel 4))
 refine MV ?_
 refine MW ?_ (v := .pointer (some ⟨p1_1, 5, none⟩)) (hv := fun _ => run_ixarrn (m := 3) (k := 1) (j := 1) (off := 4) (by decide) Try.underlying22 (by kernel_rfl) rfl rfl rfl)
 refine MG 6 ?_ (v := .int .i64 q.l1) (hj := (agF_cel 5))
 refine MV ?_
 refine MW ?_ (v := .pointer (some ⟨p1_1, 6, none⟩)) (hv := fun _ => run_ixarrn (m := 3) (k := 1) (j := 2) (off := 4) (by decide) Try.underlying22 (by kernel_rfl) rfl rfl rfl)
 refine MG 6 ?_ (v := .int .i64 q.l2) (hj := (agF_cel 6))
 refine MF (v := .agg (agF [.c (.int .i64 q.l0), .c (.int .i64 q.l1), .c (.int .i64 q.l2)])) (fun W hS => run_bld rfl rfl zer_direct_Limits plc_direct_Limits (fill_c (fill_c (fill_c fill_n (l' := [.c (.int .i64 q.l0), .c (.int .i64 q.l1), .c (.int .i64 q.l2)]) (m := [.c (.int .i64 q.l2)]) (hv := rfl) (hs := agF_setp 2 1) (hp := rfl) (hn := rfl) (hb := by show 2 + 1 ≤ 3; decide)) (l' := [.c (.int .i64 q.l0), .c (.int .i64 q.l1), .c (.int .i64 0)]) (m := [.c (.int .i64 q.l1)]) (hv := rfl) (hs := agF_setp 1 1) (hp := rfl) (hn := rfl) (hb := by show 1 + 1 ≤ 3; decide)) (l' := [.c (.int .i64 q.l0), .c (.int .i64 0), .c (.int .i64 0)]) (m := [.c (.int .i64 q.l0)]) (hv := rfl) (hs := agF_setp 0 1) (hp := rfl) (hn := rfl) (hb := by show 0 + 1 ≤ 3; decide))) ?_
 refine MV ?_
 refine Mq 0 (new := agF [.c (.int .i64 q.k), .c v8_3, .a 32 q.vrf, .a 32 q.bind, .c (.int .i64 q.l0), .c (.int .i64 q.l1), .c (.int .i64 q.l2), .c (.int .i64 q.per), .c v13_4, .c v16_5, .c (.int .i64 q.fr), .c (.int .i64 q.ti), .c v23_6]) ?_ (hc := agF_setp 4 3) (hs := by rw [agF_size, agF_size]; show 66 + 3 ≤ 75; decide) (h1 := by exact (agF_one ⟨rfl, rfl, rfl, trivial⟩))
 refine MZ fun W hS => ?_
 go_upto_region 5 with fail
 refine RL hS ?_
 clear hS
 refine ML 0 ?_ (hs := by rw [agF_size]; kernel_rfl)
 refine MR 5 ?_ (hz := by rw [agF_size]; kernel_rfl) (hs := by rw [agF_size, agF_size]; rfl) (h1 := by exact (agF_one ⟨rfl, oc_q87, rfl, rfl, rfl, rfl, oc_q138, oc_q169, rfl, rfl, oc_q2310, trivial⟩))
 refine MZ fun W hS => ?_
 go_wp2
 exact bodyPost_ret (res_row rfl rfl (hS.blk (i := 5) rfl) (by kernel_rfl) (by rw [agF_size]; kernel_rfl)) rfl ⟨(v8_3, v13_4, v16_5, v23_6), rfl, hS.pick [4, 3, 2, 1]⟩
end Go.Proofs.Ytlbgelbhhibikaa.Ww
