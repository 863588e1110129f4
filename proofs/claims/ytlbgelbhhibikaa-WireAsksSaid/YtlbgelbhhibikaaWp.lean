/- WireAsks. Conditions: numbers have 64 bits. -/
import Derived.Test.YtlbgelbhhibikaaWn
set_option linter.unusedSimpArgs false
set_option linter.unusedVariables false
namespace Go.Proofs.Ytlbgelbhhibikaa.Ww
set_option maxHeartbeats 1500000
set_option maxRecDepth 100000
open Go.RowKit
attribute [local irreducible] wpList wpTr wpX
set_option linter.unusedSimpArgs false
theorem tame_q {k l0 l1 l2 per fr ti : Int} {id vr bi lab val bun : List UInt8} {q : Rq} (hq : tameQ k id vr bi l0 l1 l2 per lab val fr ti bun = q) (w : World) :
 Calls Try.prog 8 #[.agg (agF [.c (.int .i64 k), .c (str id), .c (str vr), .c (str bi), .c (.int .i64 l0), .c (.int .i64 l1), .c (.int .i64 l2), .c (.int .i64 per), .c (str lab), .c (str val), .c (.int .i64 fr), .c (.int .i64 ti), .c (str bun)])] w fun e w' => Ret (.agg (rrF q (lb 32 q.vrf) (lb 32 q.bind))) w w' e := by
 subst hq; exact tame_c w
theorem fr4 {n : Nat} {X : List As} (h : X.all (·.mv) = true) : ∀ y ∈ X, y.mv = false → ∀ k ∈ y.foot, n ≤ k := fun y hy hm => by
 have := List.all_eq_true.1 h y hy; rw [hm] at this; cases this
theorem to_n {q : Rq} (hq : q.id.length ≤ 1000000 ∧ q.lab.length ≤ 1000000 ∧ q.val.length ≤ 1000000 ∧ q.bun.length ≤ 1000000) (w : World) :
 Calls Try.prog 9 #[.agg (rrF q (lb 32 q.vrf) (lb 32 q.bind))] w fun e w' => ∃ x : Value × Value × Value × Value, e = .returned (.agg (rqF q x.1 x.2.1 x.2.2.1 x.2.2.2)) ∧ SH [] w w' [.w x.1 q.id, .w x.2.1 q.lab, .w x.2.2.1 q.val, .w x.2.2.2 q.bun] ∧ ∀ y ∈ [As.w x.1 q.id, .w x.2.1 q.lab, .w x.2.2.1 q.val, .w x.2.2.2 q.bun], y.mv = false → ∀ k ∈ y.foot, w.heap.size ≤ k :=
 (to_c hq w).mono fun e w' ⟨x, h1, h2⟩ => ⟨x, h1, h2, fr4 rfl⟩
theorem asked_n {u : Value} {l : List UInt8} {q : Rq} (hq : askedM l = some q) (hl : l.length ≤ 1000000) (w : World) (hs : Sl w u l) :
 Calls Try.prog 14 #[u] w fun e w' => ∃ x : Value × Value × Value × Value, e = .returned (.tuple #[.agg (rqF q x.1 x.2.1 x.2.2.1 x.2.2.2), .int .i64 0]) ∧ SH [] w w' [.o x.1 q.id, .o x.2.1 q.lab, .o x.2.2.1 q.val, .o x.2.2.2 q.bun] ∧ ∀ y ∈ [As.o x.1 q.id, .o x.2.1 q.lab, .o x.2.2.1 q.val, .o x.2.2.2 q.bun], y.mv = false → ∀ k ∈ y.foot, w.heap.size ≤ k :=
 (asked_yes hq hl w hs).mono fun e w' ⟨x, h1, h2⟩ => ⟨x, h1, h2, fr4 rfl⟩
abbrev lenQ (q : Rq) : Prop := q.id.length ≤ 1000000 ∧ q.lab.length ≤ 1000000 ∧ q.val.length ≤ 1000000 ∧ q.bun.length ≤ 1000000
theorem cut_len {q : Rq} (h : lenQ q) : lenQ (cutQ q) := by
 unfold lenQ at h ⊢
 unfold cutQ
 repeat' split
 all_goals simp [zQ, h]
theorem askL_le (q : Rq) : (askL q).length ≤ 1000000 := by
 have a1 : ∀ l, (txL 16 q.id l).length ≤ l.length + 18 := fun l => txL_le (m := 16) rfl
 have a2 : ∀ l, (txL 32 q.lab l).length ≤ l.length + 34 := fun l => txL_le (m := 32) rfl
 have a3 : ∀ l, (txL 64 q.val l).length ≤ l.length + 66 := fun l => txL_le (m := 64) rfl
 have a4 : ∀ l, (txL 65535 q.bun l).length ≤ l.length + 65537 := fun l => txL_le (m := 65535) rfl
 have b1 := a1 [u8 q.k.toNat]
 have b2 := a2 (txL 16 q.id [u8 q.k.toNat])
 have b3 := a3 (txL 32 q.lab (txL 16 q.id [u8 q.k.toNat]))
 have b4 := a4 [u8 q.k.toNat]
 unfold askL tnL
 simp only [List.length_cons, List.length_nil] at b1 b4
 repeat' split
 all_goals (simp only [List.length_append, List.length_cons, List.length_nil, lb_length, eI_len]; omega)
attribute [local irreducible] lb be8 eI tB txL txB dtx dok txV txS tkS byV nuV suV enV askL askB daskL cutQ

theorem wireAsks_L {k l0 l1 l2 per fr ti : Int} {id vr bi lab val bun : List UInt8} {q : Rq} (hq : tameQ k id vr bi l0 l1 l2 per lab val fr ti bun = q) (hl : lenQ q) (hw : wfQ q) (w : World) :
  Calls Try.prog 3 #[.agg (agF [.c (.int .i64 k), .c (str id), .c (str vr), .c (str bi), .c (.int .i64 l0), .c (.int .i64 l1), .c (.int .i64 l2), .c (.int .i64 per), .c (str lab), .c (str val), .c (.int .i64 fr), .c (.int .i64 ti), .c (str bun)])] w fun e w' => Ret (.bool true) w w' e := by
 have HQ := Lib.hid hq
 clear hq
 have hS := SH.nil [] w
 go_enter Try.func3, Try.ntmps3
 go_upto_region 0 with fail
 refine RL hS ?_
 clear hS
 refine MN (z := agF [.c (.int .i64 k), .c (str id), .c (str vr), .c (str bi), .c (.int .i64 l0), .c (.int .i64 l1), .c (.int .i64 l2), .c (.int .i64 per), .c (str lab), .c (str val), .c (.int .i64 fr), .c (.int .i64 ti), .c (str bun)]) (t := 24) ?_
 intro p1_1
 refine MW ?_ (v := .bool false)
 refine MZ fun W hS => ?_
 go_upto_region 1 with fail
 refine RL hS ?_
 clear hS
 refine ML 0 ?_ (hs := by rw [agF_size]; kernel_rfl)
 refine MC (v := .agg (agF [.c (.int .i64 q.k), .c (str q.id), .c (str (lb 32 q.vrf)), .c (str (lb 32 q.bind)), .c (.int .i64 q.l0), .c (.int .i64 q.l1), .c (.int .i64 q.l2), .c (.int .i64 q.per), .c (str q.lab), .c (str q.val), .c (.int .i64 q.fr), .c (.int .i64 q.ti), .c (str q.bun)])) (fun W hS => tame_q HQ.out W) ?_
 refine MR 0 ?_ (hz := by rw [agF_size]; kernel_rfl) (hs := by first | (rw [agF_size, agF_size]; rfl) | rfl) (h1 := by exact (agF_one ⟨rfl, rfl, rfl, rfl, rfl, rfl, rfl, rfl, rfl, rfl, rfl, rfl, rfl, trivial⟩))
 refine MZ fun W hS => ?_
 go_upto_region 2 with fail
 refine RL hS ?_
 clear hS
 refine ML 0 ?_ (hs := by rw [agF_size]; kernel_rfl)
 refine ME (V := fun x : Value × Value × Value × Value => .agg (rqF q x.1 x.2.1 x.2.2.1 x.2.2.2)) (fun W hS => ncallL hS (to_n hl W) (fun _ => rfl)) ?_
 rintro ⟨iv, lv, vv, bv⟩
 dsimp only
 refine MN (z := agF [.c (.int .i64 0), .c (.slice none 0 0), .a 32 0, .a 32 0, .c (.int .i64 0), .c (.int .i64 0), .c (.int .i64 0), .c (.int .i64 0), .c (.slice none 0 0), .c (.slice none 0 0), .c (.int .i64 0), .c (.int .i64 0), .c (.slice none 0 0)]) (t := 33) ?_
 intro p3_2
 refine MFact (fun W hS => (sl_cells (hS.ozl (i := 1) rfl)).2) ?_
 intro oc_qi3
 refine MFact (fun W hS => (sl_cells (hS.ozl (i := 2) rfl)).2) ?_
 intro oc_ql4
 refine MFact (fun W hS => (sl_cells (hS.ozl (i := 3) rfl)).2) ?_
 intro oc_qv5
 refine MFact (fun W hS => (sl_cells (hS.ozl (i := 4) rfl)).2) ?_
 intro oc_qb6
 refine MR 0 ?_ (hz := by rw [agF_size]; kernel_rfl) (hs := by first | (rw [agF_size, agF_size]; rfl) | rfl) (h1 := by exact (agF_one ⟨rfl, oc_qi3, rfl, rfl, rfl, rfl, oc_ql4, oc_qv5, rfl, rfl, oc_qb6, trivial⟩))
 refine MZ fun W hS => ?_
 by_cases hA : isK q.k ∧ askB q = false
 ·
  have _f := hA
  obtain ⟨c, hc⟩ : ∃ c, cutQ q = c := ⟨_, rfl⟩
  have hcK : c.k = 1 ∨ (c.vrf = 0 ∧ c.bind = 0) := by rw [← hc]; exact cut_keys q
  have hcl : lenQ c := by rw [← hc]; exact cut_len hl
  have HAB : RowKit.Hid (askedM (askL q) = some c) := Lib.hid (by rw [← hc]; exact ask_back hA.1 hA.2 hw)
  clear hc
  go_upto_region 3 with fail
  refine RL hS ?_
  clear hS
  refine ML 0 ?_ (hs := by rw [agF_size]; kernel_rfl)
  refine ME (V := fun u => .tuple #[u, .int .i64 0]) (fun W hS => ncallW (l := askL q) hS (by have h_ := ask_yes (q := q) hA W (hS.ozl (i := 1) rfl) (hS.ozl (i := 2) rfl) (hS.ozl (i := 3) rfl) (hS.ozl (i := 4) rfl); exact h_)) ?_
  intro ua7
  refine MV ?_
  refine MV ?_
  refine MW ?_ (v := .int .i64 0)
  refine MV ?_
  refine MW ?_ (v := .int .i64 0)
  refine MZ fun W hS => ?_
  go_upto_region 4 with fail
  refine RL hS ?_
  clear hS
  refine ML 6 ?_ (hs := by rw [agF_size]; kernel_rfl)
  refine MC (v := .tuple #[str (askL q), .bool true]) (fun W hS => dask_yes hA hl W) ?_
  refine MV ?_
  refine MV ?_
  refine MW ?_ (v := .bool true)
  refine MV ?_
  refine MW ?_ (v := .bool true)
  refine MZ fun W hS => ?_
  go_upto_region 5 with fail
  refine RL hS ?_
  clear hS
  refine MC (v := .bool true) (fun W hS => wires_c W) ?_
  refine MW ?_ (v := .bool false)
  refine MW ?_ (v := .bool false)
  refine MW ?_ (v := .int .i64 0)
  refine MW ?_ (v := .bool true)
  refine MW ?_ (v := .bool true)
  refine MW ?_ (v := .bool false)
  refine MW ?_ (v := .bool false)
  refine MW ?_ (v := .bool false)
  refine MW ?_ (v := .int .i64 0)
  refine MW ?_ (v := .bool false)
  refine MW ?_ (v := .bool false)
  refine MS ?_
  refine MS ?_
  refine MS ?_
  refine MS ?_
  refine MS ?_
  refine MS ?_
  refine MS ?_
  refine MW ?_ (v := .bool false)
  refine MW ?_ (v := .bool false)
  refine MZ fun W hS => ?_
  go_upto_region 9 with fail
  refine RL hS ?_
  clear hS
  refine MV ?_
  refine MC (v := .tuple #[.agg (drF c), .bool true]) (fun W hS => dasked_yes HAB.out W) ?_
  refine MV ?_
  refine MV ?_
  refine MW ?_ (v := .bool true)
  refine MN (z := agF [.c (.int .i64 0), .c (str []), .c (str []), .c (str []), .c (.int .i64 0), .c (.int .i64 0), .c (.int .i64 0), .c (.int .i64 0), .c (str []), .c (str []), .c (.int .i64 0), .c (.int .i64 0), .c (str [])]) (t := 24) ?_
  intro p8_8
  refine MR 0 ?_ (hz := by rw [drF_size]; kernel_rfl) (hs := by rw [agF_size, drF_size]; rfl) (h1 := by exact (drF_one c))
  refine MW ?_ (v := .bool true)
  refine MZ fun W hS => ?_
  go_upto_region 10 with fail
  refine RL hS ?_
  clear hS
  refine MV ?_
  refine ME (V := fun x : Value × Value × Value × Value => .tuple #[.agg (rqF c x.1 x.2.1 x.2.2.1 x.2.2.2), .int .i64 0]) (fun W hS => ncallL hS (asked_n HAB.out (askL_le q) W (hS.osl (i := 1) rfl)) (fun _ => rfl)) ?_
  rintro ⟨xi, xl, xv, xb⟩
  dsimp only
  refine MV ?_
  refine MV ?_
  refine MW ?_ (v := .int .i64 0)
  refine MN (z := agF [.c (.int .i64 0), .c (.slice none 0 0), .a 32 0, .a 32 0, .c (.int .i64 0), .c (.int .i64 0), .c (.int .i64 0), .c (.int .i64 0), .c (.slice none 0 0), .c (.slice none 0 0), .c (.int .i64 0), .c (.int .i64 0), .c (.slice none 0 0)]) (t := 33) ?_
  intro p10_9
  refine MFact (fun W hS => (sl_cells (hS.osl (i := 1) rfl)).2) ?_
  intro oc_ni10
  refine MFact (fun W hS => (sl_cells (hS.osl (i := 2) rfl)).2) ?_
  intro oc_nl11
  refine MFact (fun W hS => (sl_cells (hS.osl (i := 3) rfl)).2) ?_
  intro oc_nv12
  refine MFact (fun W hS => (sl_cells (hS.osl (i := 4) rfl)).2) ?_
  intro oc_nb13
  refine MR 0 ?_ (hz := by rw [agF_size]; kernel_rfl) (hs := by first | (rw [agF_size, agF_size]; rfl) | rfl) (h1 := by exact (agF_one ⟨rfl, oc_ni10, rfl, rfl, rfl, rfl, oc_nl11, oc_nv12, rfl, rfl, oc_nb13, trivial⟩))
  refine MW ?_ (v := .int .i64 0)
  refine MZ fun W hS => ?_
  go_upto_region 11 with fail
  refine RTh (.q 0 (.q 1 (.q 2 (.q 3 (.q 4 (.q 5 (.q 6 (.q 7 (.q 8 (.q 9 (.q 10 (.q 11 (.q 12 (.q 14 (.e 13 (.q 15 (.q 16 (.q 17 (.q 18 (.q 19 (.q 20 (.q 21 (.q 22 (.q 23 (.q 24 (.q 25 .z)))))))))))))))))))))))))) hS ?_
  clear hS
  refine TV ?_
  refine TF (v := str (askL q)) rfl (fun W hS => run_cvs (hS.osl (i := 6) rfl) rfl rfl) ?_
  refine TV ?_
  refine TW ?_ (v := .bool true) (hv := fun _ => run_streqb (l := (askL q)) (m := (askL q)) (b := true) (decide_eq_true rfl) rfl rfl rfl)
  refine TW ?_ (v := .bool true)
  refine TW ?_ (v := .int .i64 0)
  refine TW ?_ (v := .bool true)
  refine TW ?_ (v := .bool true)
  refine TW ?_ (v := .bool true)
  refine TW ?_ (v := .bool true)
  refine TW ?_ (v := .bool true)
  refine TW ?_ (v := .bool true)
  refine TL 0 ?_ (hs := by rw [agF_size]; kernel_rfl)
  refine TL 5 ?_ (hs := by rw [drF_size]; kernel_rfl)
  refine TE (fun _ h => h) ?_
  refine MC (v := .agg (drF c)) (fun W hS => from_c (q := c) hcK hcl W (hS.osl (i := 1) rfl) (hS.osl (i := 2) rfl) (hS.osl (i := 3) rfl) (hS.osl (i := 4) rfl)) ?_
  refine TNh (fun W hS => hS) ?_
  refine TW ?_ (v := .bool true) (hv := fun _ => run_eqlA ((fun w => eqDr c w) _) (by kernel_rfl) rfl rfl rfl)
  refine TW ?_ (v := .bool true)
  refine TW ?_ (v := .bool true)
  refine TV ?_
  refine TG 7 ?_ (v := iv) (hj := (agF_cel 1))
  refine TF (v := str q.id) rfl (fun W hS => run_cvs (hS.ozl (i := 8) rfl) rfl rfl) ?_
  refine TV ?_
  refine TG 12 ?_ (v := str q.id) (hj := (agF_cel 1))
  refine TW ?_ (v := .bool true) (hv := fun _ => run_streqb (l := q.id) (m := q.id) (b := true) (decide_eq_true rfl) rfl rfl rfl)
  refine TW ?_ (v := .bool true)
  refine TW ?_ (v := .bool true)
  refine TZ (fun _ h => h) fun W hS => ?_
  go_wp2
  first | exact bodyPost_ret (v := .bool true) (by simp only [results, Try.results3]; go_simp) rfl ⟨rfl, hS.ext⟩ | exact bodyPost_end (v := .bool true) (by simp only [results, Try.results3]; go_simp) rfl ⟨rfl, hS.ext⟩
 ·
  have _f := hA
  obtain ⟨dl, hdl⟩ : ∃ dl, (if isK q.k then daskL q else []) = dl := ⟨_, rfl⟩
  have HDL := Lib.hid hdl
  clear hdl
  go_upto_region 3 with fail
  refine RL hS ?_
  clear hS
  refine ML 0 ?_ (hs := by rw [agF_size]; kernel_rfl)
  refine MC (v := .tuple #[.slice none 0 0, .int .i64 2]) (fun W hS => ask_not (q := q) hA W (hS.ozl (i := 1) rfl) (hS.ozl (i := 2) rfl) (hS.ozl (i := 3) rfl) (hS.ozl (i := 4) rfl)) ?_
  refine MV ?_
  refine MV ?_
  refine MW ?_ (v := .int .i64 2)
  refine MV ?_
  refine MW ?_ (v := .int .i64 2)
  refine MZ fun W hS => ?_
  go_upto_region 4 with fail
  refine RL hS ?_
  clear hS
  refine ML 5 ?_ (hs := by rw [agF_size]; kernel_rfl)
  refine MC (v := .tuple #[str dl, .bool false]) (fun W hS => (by have h_ := dask_not hA hl W; rw [HDL.out] at h_; exact h_)) ?_
  refine MV ?_
  refine MV ?_
  refine MW ?_ (v := .bool false)
  refine MV ?_
  refine MW ?_ (v := .bool false)
  refine MZ fun W hS => ?_
  go_upto_region 5 with fail
  refine RL hS ?_
  clear hS
  refine MC (v := .bool true) (fun W hS => wires_c W) ?_
  refine MW ?_ (v := .bool false)
  refine MW ?_ (v := .bool false)
  refine MW ?_ (v := .int .i64 2)
  refine MW ?_ (v := .bool false)
  refine MW ?_ (v := .bool false)
  refine MW ?_ (v := .bool false)
  refine MW ?_ (v := .bool false)
  refine MW ?_ (v := .bool false)
  refine MW ?_ (v := .int .i64 2)
  refine MW ?_ (v := .bool true)
  refine MW ?_ (v := .bool true)
  refine MW ?_ (v := .int .i64 2)
  refine MW ?_ (v := .bool false)
  refine MW ?_ (v := .bool false)
  refine MV ?_
  refine MW ?_ (v := .int .i64 0)
  refine MW ?_ (v := .bool false)
  refine MW ?_ (v := .bool false)
  refine MW ?_ (v := .bool false)
  refine MW ?_ (v := .bool false)
  refine MZ fun W hS => ?_
  go_wp2
  first | exact bodyPost_ret (v := .bool true) (by simp only [results, Try.results3]; go_simp) rfl ⟨rfl, hS.ext⟩ | exact bodyPost_end (v := .bool true) (by simp only [results, Try.results3]; go_simp) rfl ⟨rfl, hS.ext⟩
theorem tame_len (k : Int) (id vr bi : List UInt8) (l0 l1 l2 per : Int) (lab val : List UInt8) (fr ti : Int) (bun : List UInt8) : lenQ (tameQ k id vr bi l0 l1 l2 per lab val fr ti bun) := by
 unfold lenQ tameQ
 simp only [List.length_take]
 omega
theorem tame_wf {k l0 l1 l2 per fr ti : Int} {id vr bi lab val bun : List UInt8} (hk : i64 k) (h0 : i64 l0) (h1 : i64 l1) (h2 : i64 l2) (h3 : i64 per) (h4 : i64 fr) (h5 : i64 ti) : wfQ (tameQ k id vr bi l0 l1 l2 per lab val fr ti bun) := by
 have hl : ∀ x : List UInt8, le (x.take 32) < 2 ^ 256 := fun x => Nat.lt_of_lt_of_le (le_lt _) (Nat.pow_le_pow_right (by decide) (by rw [List.length_take]; omega))
 exact ⟨hl vr, hl bi, h0, h1, h2, h3, h4, h5⟩
end Go.Proofs.Ytlbgelbhhibikaa.Ww
