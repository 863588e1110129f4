/- The laws of layer 24: requests are compared; from; wires. Conditions: memory holds what is written. -/
import Derived.Test.YtlbgelbhhibikaaWo
import Derived.Laws.StructEq
set_option linter.unusedSimpArgs false
set_option linter.unusedVariables false
namespace Go.Proofs.Ytlbgelbhhibikaa.Ww
set_option maxHeartbeats 1500000
set_option maxRecDepth 100000
open Go.RowKit
attribute [local irreducible] wpList wpTr wpX
set_option linter.unusedSimpArgs false
theorem eqStr (d : Nat) (a : List UInt8) (w : World) : (Op.equalIn (d + 1) 9 (str a) (str a)).run Try.prog w = .ok true w := by
 unfold str
 rw [run_equalIn_string w d _ _ _ Try.underlying9]
 simp
theorem eqThree (d : Nat) (a b c : Int) (w : World) : (Op.equalIn (d + 2) 22 (.agg #[.int .i64 a, .int .i64 b, .int .i64 c]) (.agg #[.int .i64 a, .int .i64 b, .int .i64 c])).run Try.prog w = .ok true w := by
 have h := run_equalIn_arr (P := Try.prog) w d 22 3 3 .i64 #[.int .i64 a, .int .i64 b, .int .i64 c] #[.int .i64 a, .int .i64 b, .int .i64 c] (fun i => if i = 0 then a else if i = 1 then b else c) (fun i => if i = 0 then a else if i = 1 then b else c) (by kernel_rfl) (by kernel_rfl) (by kernel_rfl)
  (fun i hi => by match i, hi with | 0, _ => rfl | 1, _ => rfl | 2, _ => rfl) (fun i hi => by match i, hi with | 0, _ => rfl | 1, _ => rfl | 2, _ => rfl)
 rw [h, (eqArr_true 3 _ _).2 fun _ _ => rfl]
theorem eqReq (k l0 l1 l2 per fr ti : Int) (id vr bi lab val bun : List UInt8) (w : World) : (Op.equalIn 10000 24 (.agg #[.int .i64 k, str id, str vr, str bi, .int .i64 l0, .int .i64 l1, .int .i64 l2, .int .i64 per, str lab, str val, .int .i64 fr, .int .i64 ti, str bun]) (.agg #[.int .i64 k, str id, str vr, str bi, .int .i64 l0, .int .i64 l1, .int .i64 l2, .int .i64 per, str lab, str val, .int .i64 fr, .int .i64 ti, str bun])).run Try.prog w = .ok true w := by
 rw [show (10000 : Nat) = 9999 + 1 from rfl, run_equalIn_struct w 9999 _ _ _ (by kernel_rfl) (by kernel_rfl)]
 go_simp
 simp only [eqStr 9998, eqThree 9997, Result.andThen_ok, Bool.true_eq_false, if_false]
theorem eqDr (q : Rq) (w : World) : (Op.equalIn 10000 24 (.agg (drF q)) (.agg (drF q))).run Try.prog w = .ok true w := by
 unfold drF
 split
 ·
  exact eqReq ..
 ·
  exact eqReq ..
theorem drF_size (q : Rq) : (drF q).size = 13 := by unfold drF; split <;> rw [agF_size] <;> rfl
theorem drF_one (q : Rq) : (drF q).all (·.oneCell') = true := by
 unfold drF
 split
 ·
  exact agF_one ⟨rfl, rfl, rfl, rfl, rfl, rfl, rfl, rfl, rfl, rfl, rfl, rfl, rfl, trivial⟩
 ·
  exact agF_one ⟨rfl, rfl, rfl, rfl, rfl, rfl, rfl, rfl, rfl, rfl, rfl, rfl, rfl, trivial⟩
theorem eqKeys0 (w : World) : (Op.equalIn 10000 29 (.agg (agF [.a 32 0, .a 32 0])) (.agg (agF [.a 32 0, .a 32 0]))).run Try.prog w = .ok true w := by kernel_rfl
attribute [local irreducible] lb be8 eI tB txL txB dtx dok txV txS tkS byV nuV suV enV

theorem w_ask : isK (4 : Int) ∧ askB ⟨4, [97], 0, 0, 0, 0, 0, 0, [], [], 0, 0, []⟩ = false ∧ askL ⟨4, [97], 0, 0, 0, 0, 0, 0, [], [], 0, 0, []⟩ = [4, 0, 1, 97] := ⟨by decide, by decide +kernel, by decide +kernel⟩
theorem w_asked : askedM [4, 0, 2, 97] = none := by decide +kernel
theorem ask_yes {q : Rq} {iv lv vv bv : Value} (h : isK q.k ∧ askB q = false) (w : World) (hid : Sl w iv q.id) (hlab : Sl w lv q.lab) (hval : Sl w vv q.val) (hbun : Sl w bv q.bun) :
 Calls Try.prog 10 #[.agg (rqF q iv lv vv bv)] w fun e w' => ∃ u, e = .returned (.tuple #[u, .int .i64 0]) ∧ SH [] w w' [.o u (askL q)] :=
 (ask_c w hid hlab hval hbun).mono fun e w' hc => hc.elim (fun ⟨h1, _⟩ => (h1.elim (fun h2 => absurd h.1 h2) (fun h2 => by rw [h.2] at h2; cases h2))) (fun ⟨_, h2⟩ => h2)
theorem asked_yes {u : Value} {l : List UInt8} {q : Rq} (hq : askedM l = some q) (hl : l.length ≤ 1000000) (w : World) (hs : Sl w u l) :
 Calls Try.prog 14 #[u] w fun e w' => ∃ x : Value × Value × Value × Value, e = .returned (.tuple #[.agg (rqF q x.1 x.2.1 x.2.2.1 x.2.2.2), .int .i64 0]) ∧ SH [] w w' [.o x.1 q.id, .o x.2.1 q.lab, .o x.2.2.1 q.val, .o x.2.2.2 q.bun] :=
 (asked_c hl w hs).mono fun e w' hc => hc.elim (fun ⟨h1, _⟩ => by rw [hq] at h1; cases h1) (fun ⟨q', h1, h2⟩ => by rw [hq] at h1; obtain rfl := Option.some.inj h1; exact h2)
theorem asked_not {u : Value} {l : List UInt8} (hq : askedM l = none) (hl : l.length ≤ 1000000) (w : World) (hs : Sl w u l) :
 Calls Try.prog 14 #[u] w fun e w' => Ret (.tuple #[.agg zRQ, .int .i64 2]) w w' e :=
 (asked_c hl w hs).mono fun e w' hc => hc.elim (fun ⟨_, h2⟩ => h2) (fun ⟨q', h1, _⟩ => by rw [hq] at h1; cases h1)
theorem dasked_yes {l : List UInt8} {q : Rq} (hq : askedM l = some q) (w : World) : Calls Try.prog 13 #[str l] w fun e w' => Ret (.tuple #[.agg (drF q), .bool true]) w w' e :=
 (dasked_c w).mono fun e w' hc => hc.elim (fun ⟨h1, _⟩ => by rw [hq] at h1; cases h1) (fun ⟨q', h1, h2⟩ => by rw [hq] at h1; obtain rfl := Option.some.inj h1; exact h2)
theorem dasked_not {l : List UInt8} (hq : askedM l = none) (w : World) : Calls Try.prog 13 #[str l] w fun e w' => Ret (.tuple #[.agg zRR, .bool false]) w w' e :=
 (dasked_c w).mono fun e w' hc => hc.elim (fun ⟨_, h2⟩ => h2) (fun ⟨q', h1, _⟩ => by rw [hq] at h1; cases h1)
theorem from_1 {q : Rq} {iv lv vv bv : Value} (hk1 : 1 ≤ q.k) (hk2 : q.k ≤ 1) (hq : q.id.length ≤ 1000000 ∧ q.lab.length ≤ 1000000 ∧ q.val.length ≤ 1000000 ∧ q.bun.length ≤ 1000000) (w : World) (hid : Sl w iv q.id) (hlab : Sl w lv q.lab) (hval : Sl w vv q.val) (hbun : Sl w bv q.bun) :
  Calls Try.prog 15 #[.agg (rqF q iv lv vv bv)] w fun e w' => Ret (.agg (rrF q (lb 32 q.vrf) (lb 32 q.bind))) w w' e := by
 have hS := SH.nil [] w
 go_enter Try.func15, Try.ntmps15
 go_upto_region 0 with fail
 refine RL hS ?_
 clear hS
 refine MN (z := agF [.c (.int .i64 q.k), .c iv, .a 32 q.vrf, .a 32 q.bind, .c (.int .i64 q.l0), .c (.int .i64 q.l1), .c (.int .i64 q.l2), .c (.int .i64 q.per), .c lv, .c vv, .c (.int .i64 q.fr), .c (.int .i64 q.ti), .c bv]) (t := 33) ?_
 intro p1_1
 refine MN (z := agF [.c (.int .i64 0), .c (str []), .c (str []), .c (str []), .c (.int .i64 0), .c (.int .i64 0), .c (.int .i64 0), .c (.int .i64 0), .c (str []), .c (str []), .c (.int .i64 0), .c (.int .i64 0), .c (str [])]) (t := 24) ?_
 intro p2_2
 refine MZ fun W hS => ?_
 go_upto_region 1 with fail
 refine RL hS ?_
 clear hS
 refine MV ?_
 refine MG 1 ?_ (v := .int .i64 q.k) (hj := (agF_cel 0))
 refine MV ?_
 refine MG 1 ?_ (v := iv) (hj := (agF_cel 1))
 refine MF (v := str q.id) (fun W hS => run_cvs (sl_e hid hS.ext) rfl rfl) ?_
 refine MV ?_
 refine MG 1 ?_ (v := .int .i64 q.per) (hj := (agF_cel 7))
 refine MV ?_
 refine MG 1 ?_ (v := lv) (hj := (agF_cel 8))
 refine MF (v := str q.lab) (fun W hS => run_cvs (sl_e hlab hS.ext) rfl rfl) ?_
 refine MV ?_
 refine MG 1 ?_ (v := vv) (hj := (agF_cel 9))
 refine MF (v := str q.val) (fun W hS => run_cvs (sl_e hval hS.ext) rfl rfl) ?_
 refine MV ?_
 refine MG 1 ?_ (v := .int .i64 q.fr) (hj := (agF_cel 10))
 refine MV ?_
 refine MG 1 ?_ (v := .int .i64 q.ti) (hj := (agF_cel 11))
 refine MV ?_
 refine MG 1 ?_ (v := bv) (hj := (agF_cel 12))
 refine MF (v := str q.bun) (fun W hS => run_cvs (sl_e hbun hS.ext) rfl rfl) ?_
 refine MF (v := .agg (agF [.c (.int .i64 q.k), .c (str q.id), .c (str []), .c (str []), .c (.int .i64 0), .c (.int .i64 0), .c (.int .i64 0), .c (.int .i64 q.per), .c (str q.lab), .c (str q.val), .c (.int .i64 q.fr), .c (.int .i64 q.ti), .c (str q.bun)])) (fun W hS => run_bld rfl rfl zer_custumalref24_Request plc_custumalref24_Request (fill_c (fill_c (fill_c (fill_c (fill_c (fill_c (fill_c (fill_c fill_n (l' := [.c (.int .i64 q.k), .c (str q.id), .c (str []), .c (str []), .c (.int .i64 0), .c (.int .i64 0), .c (.int .i64 0), .c (.int .i64 q.per), .c (str q.lab), .c (str q.val), .c (.int .i64 q.fr), .c (.int .i64 q.ti), .c (str q.bun)]) (m := [.c (str q.bun)]) (hv := rfl) (hs := agF_setp 12 1) (hp := rfl) (hn := rfl) (hb := by show 12 + 1 ≤ 13; decide)) (l' := [.c (.int .i64 q.k), .c (str q.id), .c (str []), .c (str []), .c (.int .i64 0), .c (.int .i64 0), .c (.int .i64 0), .c (.int .i64 q.per), .c (str q.lab), .c (str q.val), .c (.int .i64 q.fr), .c (.int .i64 q.ti), .c (str [])]) (m := [.c (.int .i64 q.ti)]) (hv := rfl) (hs := agF_setp 11 1) (hp := rfl) (hn := rfl) (hb := by show 11 + 1 ≤ 13; decide)) (l' := [.c (.int .i64 q.k), .c (str q.id), .c (str []), .c (str []), .c (.int .i64 0), .c (.int .i64 0), .c (.int .i64 0), .c (.int .i64 q.per), .c (str q.lab), .c (str q.val), .c (.int .i64 q.fr), .c (.int .i64 0), .c (str [])]) (m := [.c (.int .i64 q.fr)]) (hv := rfl) (hs := agF_setp 10 1) (hp := rfl) (hn := rfl) (hb := by show 10 + 1 ≤ 13; decide)) (l' := [.c (.int .i64 q.k), .c (str q.id), .c (str []), .c (str []), .c (.int .i64 0), .c (.int .i64 0), .c (.int .i64 0), .c (.int .i64 q.per), .c (str q.lab), .c (str q.val), .c (.int .i64 0), .c (.int .i64 0), .c (str [])]) (m := [.c (str q.val)]) (hv := rfl) (hs := agF_setp 9 1) (hp := rfl) (hn := rfl) (hb := by show 9 + 1 ≤ 13; decide)) (l' := [.c (.int .i64 q.k), .c (str q.id), .c (str []), .c (str []), .c (.int .i64 0), .c (.int .i64 0), .c (.int .i64 0), .c (.int .i64 q.per), .c (str q.lab), .c (str []), .c (.int .i64 0), .c (.int .i64 0), .c (str [])]) (m := [.c (str q.lab)]) (hv := rfl) (hs := agF_setp 8 1) (hp := rfl) (hn := rfl) (hb := by show 8 + 1 ≤ 13; decide)) (l' := [.c (.int .i64 q.k), .c (str q.id), .c (str []), .c (str []), .c (.int .i64 0), .c (.int .i64 0), .c (.int .i64 0), .c (.int .i64 q.per), .c (str []), .c (str []), .c (.int .i64 0), .c (.int .i64 0), .c (str [])]) (m := [.c (.int .i64 q.per)]) (hv := rfl) (hs := agF_setp 7 1) (hp := rfl) (hn := rfl) (hb := by show 7 + 1 ≤ 13; decide)) (l' := [.c (.int .i64 q.k), .c (str q.id), .c (str []), .c (str []), .c (.int .i64 0), .c (.int .i64 0), .c (.int .i64 0), .c (.int .i64 0), .c (str []), .c (str []), .c (.int .i64 0), .c (.int .i64 0), .c (str [])]) (m := [.c (str q.id)]) (hv := rfl) (hs := agF_setp 1 1) (hp := rfl) (hn := rfl) (hb := by show 1 + 1 ≤ 13; decide)) (l' := [.c (.int .i64 q.k), .c (str []), .c (str []), .c (str []), .c (.int .i64 0), .c (.int .i64 0), .c (.int .i64 0), .c (.int .i64 0), .c (str []), .c (str []), .c (.int .i64 0), .c (.int .i64 0), .c (str [])]) (m := [.c (.int .i64 q.k)]) (hv := rfl) (hs := agF_setp 0 1) (hp := rfl) (hn := rfl) (hb := by show 0 + 1 ≤ 13; decide))) ?_
 refine MN (z := agF [.c (.int .i64 0), .c (str []), .c (str []), .c (str []), .c (.int .i64 0), .c (.int .i64 0), .c (.int .i64 0), .c (.int .i64 0), .c (str []), .c (str []), .c (.int .i64 0), .c (.int .i64 0), .c (str [])]) (t := 24) ?_
 intro p3_3
 refine MR 0 ?_ (hz := by rw [agF_size]; kernel_rfl) (hs := by first | (rw [agF_size, agF_size]; rfl) | rfl) (h1 := by exact (agF_one ⟨rfl, rfl, rfl, rfl, rfl, rfl, rfl, rfl, rfl, rfl, rfl, rfl, rfl, trivial⟩))
 refine MZ fun W hS => ?_
 go_upto_region 2 with fail
 refine RL hS ?_
 clear hS
 refine MV ?_
 refine MV ?_
 refine MG 2 ?_ (v := .int .i64 q.l0) (hj := (agF_cel 4))
 refine MV ?_
 refine MV ?_
 refine MG 2 ?_ (v := .int .i64 q.l1) (hj := (agF_cel 5))
 refine MV ?_
 refine MV ?_
 refine MG 2 ?_ (v := .int .i64 q.l2) (hj := (agF_cel 6))
 refine MW ?_ (v := .agg (agF [.c (.int .i64 q.l0), .c (.int .i64 q.l1), .c (.int .i64 q.l2)])) (hv := by intro W; kernel_rfl)
 refine MV ?_
 refine Mq 0 (new := agF [.c (.int .i64 q.k), .c (str q.id), .c (str []), .c (str []), .c (.int .i64 q.l0), .c (.int .i64 q.l1), .c (.int .i64 q.l2), .c (.int .i64 q.per), .c (str q.lab), .c (str q.val), .c (.int .i64 q.fr), .c (.int .i64 q.ti), .c (str q.bun)]) ?_ (hc := agF_setp 4 3) (hs := by rw [agF_size, agF_size]; show 4 + 3 ≤ 13; decide) (h1 := by exact (agF_one ⟨rfl, rfl, rfl, trivial⟩))
 refine MZ fun W hS => ?_
 go_upto_region 3 with fail
 refine RL hS ?_
 clear hS
 refine MV ?_
 refine MG 2 ?_ (v := .int .i64 q.k) (hj := (agF_cel 0))
 refine MW ?_ (v := .bool true) (hv := by intro W; go_simp; first | done | omega | assumption)
 refine MZ fun W hS => ?_
 go_upto_region 4 with fail
 refine RTp [1, 2] (.q 0 (.q 1 (.q 2 (.q 3 (.q 4 (.q 5 (.q 6 (.q 7 (.q 8 (.e 9 (.q 10 (.e 11 .z)))))))))))) hS ?_
 clear hS
 refine TV ?_
 refine TV ?_
 refine TW ?_ (v := .slice (some ⟨p1_1, 2, none⟩) 32 32)
 refine TF (v := str (lb 32 q.vrf)) rfl (fun W hS => run_cvs (sl_part (V := q.vrf) (n := 32) (off := 2) (c := 32) (hS.blk (i := 1) rfl) (agF_arr 2) (by decide) (by decide)) rfl rfl) ?_
 refine TV ?_
 refine TV ?_
 refine TW ?_ (v := .slice (some ⟨p1_1, 34, none⟩) 32 32)
 refine TF (v := str (lb 32 q.bind)) rfl (fun W hS => run_cvs (sl_part (V := q.bind) (n := 32) (off := 34) (c := 32) (hS.blk (i := 1) rfl) (agF_arr 3) (by decide) (by decide)) rfl rfl) ?_
 refine TV ?_
 refine TE (fun _ h => h.pick [1, 2]) ?_
 refine MP 0 (v := str (lb 32 q.vrf)) (cs' := agF [.c (.int .i64 q.k), .c (str q.id), .c (str (lb 32 q.vrf)), .c (str []), .c (.int .i64 q.l0), .c (.int .i64 q.l1), .c (.int .i64 q.l2), .c (.int .i64 q.per), .c (str q.lab), .c (str q.val), .c (.int .i64 q.fr), .c (.int .i64 q.ti), .c (str q.bun)]) ?_ (hs := by rw [agF_size]; show 2 < 13; decide) (hc := agF_setc 2)
 refine TNp [1, 2] [0, 1] ?_
 refine TV ?_
 refine TE (fun _ h => h.pick [1, 2]) ?_
 refine MP 0 (v := str (lb 32 q.bind)) (cs' := agF [.c (.int .i64 q.k), .c (str q.id), .c (str (lb 32 q.vrf)), .c (str (lb 32 q.bind)), .c (.int .i64 q.l0), .c (.int .i64 q.l1), .c (.int .i64 q.l2), .c (.int .i64 q.per), .c (str q.lab), .c (str q.val), .c (.int .i64 q.fr), .c (.int .i64 q.ti), .c (str q.bun)]) ?_ (hs := by rw [agF_size]; show 3 < 13; decide) (hc := agF_setc 3)
 refine TNp [1, 2] [0, 1] ?_
 refine TZ (fun _ h => h.pick [1, 2]) fun W hS => ?_
 go_upto_region 7 with fail
 refine RL hS ?_
 clear hS
 refine ML 0 ?_ (hs := by rw [agF_size]; kernel_rfl)
 refine MR 1 ?_ (hz := by rw [agF_size]; kernel_rfl) (hs := by first | (rw [agF_size, agF_size]; rfl) | rfl) (h1 := by exact (agF_one ⟨rfl, rfl, rfl, rfl, rfl, rfl, rfl, rfl, rfl, rfl, rfl, rfl, rfl, trivial⟩))
 refine MZ fun W hS => ?_
 go_wp2
 exact bodyPost_ret (res_row rfl rfl (hS.blk (i := 1) rfl) (by kernel_rfl) (by rw [agF_size]; kernel_rfl)) rfl ⟨rfl, hS.ext⟩
theorem from_n {q : Rq} {iv lv vv bv : Value} (hk : q.k < 1 ∨ 1 < q.k) (hq : q.id.length ≤ 1000000 ∧ q.lab.length ≤ 1000000 ∧ q.val.length ≤ 1000000 ∧ q.bun.length ≤ 1000000) (w : World) (hid : Sl w iv q.id) (hlab : Sl w lv q.lab) (hval : Sl w vv q.val) (hbun : Sl w bv q.bun) :
  Calls Try.prog 15 #[.agg (agF [.c (.int .i64 q.k), .c iv, .a 32 0, .a 32 0, .c (.int .i64 q.l0), .c (.int .i64 q.l1), .c (.int .i64 q.l2), .c (.int .i64 q.per), .c lv, .c vv, .c (.int .i64 q.fr), .c (.int .i64 q.ti), .c bv])] w fun e w' => Ret (.agg (rrF q [] [])) w w' e := by
 have hS := SH.nil [] w
 go_enter Try.func15, Try.ntmps15
 go_upto_region 0 with fail
 refine RL hS ?_
 clear hS
 refine MN (z := agF [.c (.int .i64 q.k), .c iv, .a 32 0, .a 32 0, .c (.int .i64 q.l0), .c (.int .i64 q.l1), .c (.int .i64 q.l2), .c (.int .i64 q.per), .c lv, .c vv, .c (.int .i64 q.fr), .c (.int .i64 q.ti), .c bv]) (t := 33) ?_
 intro p1_1
 refine MN (z := agF [.c (.int .i64 0), .c (str []), .c (str []), .c (str []), .c (.int .i64 0), .c (.int .i64 0), .c (.int .i64 0), .c (.int .i64 0), .c (str []), .c (str []), .c (.int .i64 0), .c (.int .i64 0), .c (str [])]) (t := 24) ?_
 intro p2_2
 refine MZ fun W hS => ?_
 go_upto_region 1 with fail
 refine RL hS ?_
 clear hS
 refine MV ?_
 refine MG 1 ?_ (v := .int .i64 q.k) (hj := (agF_cel 0))
 refine MV ?_
 refine MG 1 ?_ (v := iv) (hj := (agF_cel 1))
 refine MF (v := str q.id) (fun W hS => run_cvs (sl_e hid hS.ext) rfl rfl) ?_
 refine MV ?_
 refine MG 1 ?_ (v := .int .i64 q.per) (hj := (agF_cel 7))
 refine MV ?_
 refine MG 1 ?_ (v := lv) (hj := (agF_cel 8))
 refine MF (v := str q.lab) (fun W hS => run_cvs (sl_e hlab hS.ext) rfl rfl) ?_
 refine MV ?_
 refine MG 1 ?_ (v := vv) (hj := (agF_cel 9))
 refine MF (v := str q.val) (fun W hS => run_cvs (sl_e hval hS.ext) rfl rfl) ?_
 refine MV ?_
 refine MG 1 ?_ (v := .int .i64 q.fr) (hj := (agF_cel 10))
 refine MV ?_
 refine MG 1 ?_ (v := .int .i64 q.ti) (hj := (agF_cel 11))
 refine MV ?_
 refine MG 1 ?_ (v := bv) (hj := (agF_cel 12))
 refine MF (v := str q.bun) (fun W hS => run_cvs (sl_e hbun hS.ext) rfl rfl) ?_
 refine MF (v := .agg (agF [.c (.int .i64 q.k), .c (str q.id), .c (str []), .c (str []), .c (.int .i64 0), .c (.int .i64 0), .c (.int .i64 0), .c (.int .i64 q.per), .c (str q.lab), .c (str q.val), .c (.int .i64 q.fr), .c (.int .i64 q.ti), .c (str q.bun)])) (fun W hS => run_bld rfl rfl zer_custumalref24_Request plc_custumalref24_Request (fill_c (fill_c (fill_c (fill_c (fill_c (fill_c (fill_c (fill_c fill_n (l' := [.c (.int .i64 q.k), .c (str q.id), .c (str []), .c (str []), .c (.int .i64 0), .c (.int .i64 0), .c (.int .i64 0), .c (.int .i64 q.per), .c (str q.lab), .c (str q.val), .c (.int .i64 q.fr), .c (.int .i64 q.ti), .c (str q.bun)]) (m := [.c (str q.bun)]) (hv := rfl) (hs := agF_setp 12 1) (hp := rfl) (hn := rfl) (hb := by show 12 + 1 ≤ 13; decide)) (l' := [.c (.int .i64 q.k), .c (str q.id), .c (str []), .c (str []), .c (.int .i64 0), .c (.int .i64 0), .c (.int .i64 0), .c (.int .i64 q.per), .c (str q.lab), .c (str q.val), .c (.int .i64 q.fr), .c (.int .i64 q.ti), .c (str [])]) (m := [.c (.int .i64 q.ti)]) (hv := rfl) (hs := agF_setp 11 1) (hp := rfl) (hn := rfl) (hb := by show 11 + 1 ≤ 13; decide)) (l' := [.c (.int .i64 q.k), .c (str q.id), .c (str []), .c (str []), .c (.int .i64 0), .c (.int .i64 0), .c (.int .i64 0), .c (.int .i64 q.per), .c (str q.lab), .c (str q.val), .c (.int .i64 q.fr), .c (.int .i64 0), .c (str [])]) (m := [.c (.int .i64 q.fr)]) (hv := rfl) (hs := agF_setp 10 1) (hp := rfl) (hn := rfl) (hb := by show 10 + 1 ≤ 13; decide)) (l' := [.c (.int .i64 q.k), .c (str q.id), .c (str []), .c (str []), .c (.int .i64 0), .c (.int .i64 0), .c (.int .i64 0), .c (.int .i64 q.per), .c (str q.lab), .c (str q.val), .c (.int .i64 0), .c (.int .i64 0), .c (str [])]) (m := [.c (str q.val)]) (hv := rfl) (hs := agF_setp 9 1) (hp := rfl) (hn := rfl) (hb := by show 9 + 1 ≤ 13; decide)) (l' := [.c (.int .i64 q.k), .c (str q.id), .c (str []), .c (str []), .c (.int .i64 0), .c (.int .i64 0), .c (.int .i64 0), .c (.int .i64 q.per), .c (str q.lab), .c (str []), .c (.int .i64 0), .c (.int .i64 0), .c (str [])]) (m := [.c (str q.lab)]) (hv := rfl) (hs := agF_setp 8 1) (hp := rfl) (hn := rfl) (hb := by show 8 + 1 ≤ 13; decide)) (l' := [.c (.int .i64 q.k), .c (str q.id), .c (str []), .c (str []), .c (.int .i64 0), .c (.int .i64 0), .c (.int .i64 0), .c (.int .i64 q.per), .c (str []), .c (str []), .c (.int .i64 0), .c (.int .i64 0), .c (str [])]) (m := [.c (.int .i64 q.per)]) (hv := rfl) (hs := agF_setp 7 1) (hp := rfl) (hn := rfl) (hb := by show 7 + 1 ≤ 13; decide)) (l' := [.c (.int .i64 q.k), .c (str q.id), .c (str []), .c (str []), .c (.int .i64 0), .c (.int .i64 0), .c (.int .i64 0), .c (.int .i64 0), .c (str []), .c (str []), .c (.int .i64 0), .c (.int .i64 0), .c (str [])]) (m := [.c (str q.id)]) (hv := rfl) (hs := agF_setp 1 1) (hp := rfl) (hn := rfl) (hb := by show 1 + 1 ≤ 13; decide)) (l' := [.c (.int .i64 q.k), .c (str []), .c (str []), .c (str []), .c (.int .i64 0), .c (.int .i64 0), .c (.int .i64 0), .c (.int .i64 0), .c (str []), .c (str []), .c (.int .i64 0), .c (.int .i64 0), .c (str [])]) (m := [.c (.int .i64 q.k)]) (hv := rfl) (hs := agF_setp 0 1) (hp := rfl) (hn := rfl) (hb := by show 0 + 1 ≤ 13; decide))) ?_
 refine MN (z := agF [.c (.int .i64 0), .c (str []), .c (str []), .c (str []), .c (.int .i64 0), .c (.int .i64 0), .c (.int .i64 0), .c (.int .i64 0), .c (str []), .c (str []), .c (.int .i64 0), .c (.int .i64 0), .c (str [])]) (t := 24) ?_
 intro p3_3
 refine MR 0 ?_ (hz := by rw [agF_size]; kernel_rfl) (hs := by first | (rw [agF_size, agF_size]; rfl) | rfl) (h1 := by exact (agF_one ⟨rfl, rfl, rfl, rfl, rfl, rfl, rfl, rfl, rfl, rfl, rfl, rfl, rfl, trivial⟩))
 refine MZ fun W hS => ?_
 go_upto_region 2 with fail
 refine RL hS ?_
 clear hS
 refine MV ?_
 refine MV ?_
 refine MG 2 ?_ (v := .int .i64 q.l0) (hj := (agF_cel 4))
 refine MV ?_
 refine MV ?_
 refine MG 2 ?_ (v := .int .i64 q.l1) (hj := (agF_cel 5))
 refine MV ?_
 refine MV ?_
 refine MG 2 ?_ (v := .int .i64 q.l2) (hj := (agF_cel 6))
 refine MW ?_ (v := .agg (agF [.c (.int .i64 q.l0), .c (.int .i64 q.l1), .c (.int .i64 q.l2)])) (hv := by intro W; kernel_rfl)
 refine MV ?_
 refine Mq 0 (new := agF [.c (.int .i64 q.k), .c (str q.id), .c (str []), .c (str []), .c (.int .i64 q.l0), .c (.int .i64 q.l1), .c (.int .i64 q.l2), .c (.int .i64 q.per), .c (str q.lab), .c (str q.val), .c (.int .i64 q.fr), .c (.int .i64 q.ti), .c (str q.bun)]) ?_ (hc := agF_setp 4 3) (hs := by rw [agF_size, agF_size]; show 4 + 3 ≤ 13; decide) (h1 := by exact (agF_one ⟨rfl, rfl, rfl, trivial⟩))
 refine MZ fun W hS => ?_
 go_upto_region 3 with fail
 refine RL hS ?_
 clear hS
 refine MV ?_
 refine MG 2 ?_ (v := .int .i64 q.k) (hj := (agF_cel 0))
 refine MW ?_ (v := .bool false) (hv := by intro W; go_simp; first | done | omega | assumption)
 refine MZ fun W hS => ?_
 go_upto_region 5 with fail
 refine RL hS ?_
 clear hS
 refine MV ?_
 refine Mk 2 ?_ (sub := agF [.a 32 0, .a 32 0]) (hs := (agF_part 2 2))
 refine MF (v := .agg (agF [.a 32 0, .a 32 0])) (fun W hS => run_bld rfl rfl zer_direct_Keys plc_direct_Keys fill_n) ?_
 refine MW ?_ (v := .bool false) (hv := fun _ => run_neqA ((fun w => eqKeys0 w) _) (by kernel_rfl) rfl rfl rfl)
 refine MZ fun W hS => ?_
 go_upto_region 7 with fail
 refine RL hS ?_
 clear hS
 refine ML 0 ?_ (hs := by rw [agF_size]; kernel_rfl)
 refine MR 1 ?_ (hz := by rw [agF_size]; kernel_rfl) (hs := by first | (rw [agF_size, agF_size]; rfl) | rfl) (h1 := by exact (agF_one ⟨rfl, rfl, rfl, rfl, rfl, rfl, rfl, rfl, rfl, rfl, rfl, rfl, rfl, trivial⟩))
 refine MZ fun W hS => ?_
 go_wp2
 exact bodyPost_ret (res_row rfl rfl (hS.blk (i := 1) rfl) (by kernel_rfl) (by rw [agF_size]; kernel_rfl)) rfl ⟨rfl, hS.ext⟩
theorem from_c {q : Rq} {iv lv vv bv : Value} (hk : q.k = 1 ∨ (q.vrf = 0 ∧ q.bind = 0)) (hq : q.id.length ≤ 1000000 ∧ q.lab.length ≤ 1000000 ∧ q.val.length ≤ 1000000 ∧ q.bun.length ≤ 1000000) (w : World) (hid : Sl w iv q.id) (hlab : Sl w lv q.lab) (hval : Sl w vv q.val) (hbun : Sl w bv q.bun) :
 Calls Try.prog 15 #[.agg (rqF q iv lv vv bv)] w fun e w' => Ret (.agg (drF q)) w w' e := by
 by_cases h1 : q.k = 1
 ·
  rw [drF_1 h1]; exact from_1 (by omega) (by omega) hq w hid hlab hval hbun
 ·
  rw [drF_n h1]
  obtain ⟨h2, h3⟩ := hk.resolve_left h1
  unfold rqF
  rw [h2, h3]
  exact from_n (by omega) hq w hid hlab hval hbun

theorem wires_c (w : World) :
  Calls Try.prog 12 #[] w fun e w' => Ret (.bool true) w w' e := by
 have hS := SH.nil [] w
 go_enter Try.func12, Try.ntmps12
 go_upto_region 1 with fail
 refine RL hS ?_
 clear hS
 refine MO (m := [97]) (n := 1) (z := #[.int .u8 97]) ?_
 intro v6_1
 refine MSm 0 (l := [97]) (by first | decide | (simp only [List.length_append, List.length_cons, List.length_nil]; omega)) ?_
 refine MFact (fun W hS => (sl_cells (hS.sl (i := 0) rfl)).2) ?_
 intro oc_s62
 refine MF (v := .agg (agF [.c (.int .i64 4), .c v6_1, .a 32 0, .a 32 0, .c (.int .i64 0), .c (.int .i64 0), .c (.int .i64 0), .c (.int .i64 0), .c (.slice none 0 0), .c (.slice none 0 0), .c (.int .i64 0), .c (.int .i64 0), .c (.slice none 0 0)])) (fun W hS => run_bld rfl rfl zer_wire_Request plc_wire_Request (fill_c (fill_c fill_n (l' := [.c (.int .i64 4), .c v6_1, .a 32 0, .a 32 0, .c (.int .i64 0), .c (.int .i64 0), .c (.int .i64 0), .c (.int .i64 0), .c (.slice none 0 0), .c (.slice none 0 0), .c (.int .i64 0), .c (.int .i64 0), .c (.slice none 0 0)]) (m := [.c v6_1]) (hv := (sl_cells (hS.sl (i := 0) rfl)).1) (hs := agF_setp 1 1) (hp := rfl) (hn := rfl) (hb := by show 1 + 1 ≤ 75; decide)) (l' := [.c (.int .i64 4), .c (.slice none 0 0), .a 32 0, .a 32 0, .c (.int .i64 0), .c (.int .i64 0), .c (.int .i64 0), .c (.int .i64 0), .c (.slice none 0 0), .c (.slice none 0 0), .c (.int .i64 0), .c (.int .i64 0), .c (.slice none 0 0)]) (m := [.c (.int .i64 4)]) (hv := rfl) (hs := agF_setp 0 1) (hp := rfl) (hn := rfl) (hb := by show 0 + 1 ≤ 75; decide))) ?_
 refine ME (V := fun u => .tuple #[u, .int .i64 0]) (fun W hS => ncallW (l := [4, 0, 1, 97]) hS (by have h_ := ask_yes (q := ⟨4, [97], 0, 0, 0, 0, 0, 0, [], [], 0, 0, []⟩) ⟨w_ask.1, w_ask.2.1⟩ W (hS.sl (i := 0) rfl) (sl_nil W) (sl_nil W) (sl_nil W); rw [w_ask.2.2] at h_; exact h_)) ?_
 intro ua3
 refine MV ?_
 refine MV ?_
 refine MW ?_ (v := .int .i64 0)
 refine MV ?_
 refine MW ?_ (v := .int .i64 0)
 refine MZ fun W hS => ?_
 go_upto_region 2 with fail
 refine RL hS ?_
 clear hS
 refine MO (m := [4, 0, 2, 97]) (n := 4) (z := #[.int .u8 4, .int .u8 0, .int .u8 2, .int .u8 97]) ?_
 intro v13_4
 refine MC (v := .tuple #[.agg (agF [.c (.int .i64 0), .c (.slice none 0 0), .a 32 0, .a 32 0, .c (.int .i64 0), .c (.int .i64 0), .c (.int .i64 0), .c (.int .i64 0), .c (.slice none 0 0), .c (.slice none 0 0), .c (.int .i64 0), .c (.int .i64 0), .c (.slice none 0 0)]), .int .i64 2]) (fun W hS => asked_not w_asked (by decide) W (hS.osl (i := 0) rfl)) ?_
 refine MV ?_
 refine MV ?_
 refine MW ?_ (v := .int .i64 2)
 refine MN (z := agF [.c (.int .i64 0), .c (.slice none 0 0), .a 32 0, .a 32 0, .c (.int .i64 0), .c (.int .i64 0), .c (.int .i64 0), .c (.int .i64 0), .c (.slice none 0 0), .c (.slice none 0 0), .c (.int .i64 0), .c (.int .i64 0), .c (.slice none 0 0)]) (t := 33) ?_
 intro p3_5
 refine MR 0 ?_ (hz := by rw [agF_size]; kernel_rfl) (hs := by first | (rw [agF_size, agF_size]; rfl) | rfl) (h1 := by exact (agF_one ⟨rfl, rfl, rfl, rfl, rfl, rfl, rfl, rfl, rfl, rfl, rfl, trivial⟩))
 refine MW ?_ (v := .int .i64 2)
 refine MZ fun W hS => ?_
 go_upto_region 3 with fail
 refine RL hS ?_
 clear hS
 refine MW ?_ (v := .int .i64 0)
 refine MW ?_ (v := .bool true)
 refine MW ?_ (v := .bool true)
 refine MV ?_
 refine MF (v := str [4, 0, 1, 97]) (fun W hS => run_cvs (hS.osl (i := 2) rfl) rfl rfl) ?_
 refine MW ?_ (v := .bool true) (hv := fun _ => run_streqb (l := [4, 0, 1, 97]) (m := [4, 0, 1, 97]) (b := true) (decide_eq_true rfl) rfl rfl rfl)
 refine MW ?_ (v := .bool true)
 refine MW ?_ (v := .bool true)
 refine MW ?_ (v := .int .i64 2)
 refine MW ?_ (v := .bool true)
 refine MW ?_ (v := .bool true)
 refine MW ?_ (v := .bool true)
 refine MZ fun W hS => ?_
 go_wp2
 first | exact bodyPost_ret (v := .bool true) (by simp only [results, Try.results12]; go_simp) rfl ⟨rfl, hS.ext⟩ | exact bodyPost_end (v := .bool true) (by simp only [results, Try.results12]; go_simp) rfl ⟨rfl, hS.ext⟩
end Go.Proofs.Ytlbgelbhhibikaa.Ww
