/- The law's answers (kinds all). Conditions: numbers have 64 bits. -/
import Derived.Test.YtlbgelbhhibikaaJ42
set_option linter.unusedSimpArgs false
set_option linter.unusedVariables false
namespace Go.Proofs.Ytlbgelbhhibikaa.Ww
set_option maxHeartbeats 80000000
set_option maxRecDepth 100000
open Go.RowKit
attribute [local irreducible] wpList wpTr wpX
set_option linter.unusedSimpArgs false
attribute [local irreducible] lb be8 eI tB txL txB dtx dok pB sB dfL dfB enS enA mkS mkA szD Tp.A Tp.S Tp.O Tp.few Tp.A2 Tp.S2 Tp.O2

theorem zer_super_Signed : zer Try.prog 77 = some (some (agF [.c (.int .i64 0), .a 32 0, .a 64 0])) := by kernel_rfl
theorem plc_super_Signed : plc Try.prog 77 = some [(0, 1), (1, 32), (33, 64)] := by kernel_rfl
abbrev toF (k er nu : Int) (d : Do) (sm : Nat) (gone : Bool) (sv uv tv : Value) : Array Value := agF [.c (.int .i64 k), .c (.int .i64 er), .c (.int .i64 nu), .c (.int .i64 d.ep), .c (str d.ix), .c (str d.vr), .c (.bool d.pre), .c (.int .i64 d.ver), .c (str d.val), .c (str d.bo), .c (str d.op), .c sv, .c (.bool d.th), .a 32 d.a, .a 32 d.x, .c (str d.ro), .c (str d.li), .c (str d.ah), .c (.int .i64 d.rd), .a 32 sm, .c uv, .c tv, .c (.bool gone)]
theorem ans_c {k er nu : Int} {d : Do} {f : Fo} {sm : Nat} {gone : Bool} {us ss : List Nat} {tb tx sg : List UInt8} {sv uv tv u10 : Value}  (hf : szD d = f) (hss : us.take 258 = ss) (htx : List.take (min tb.length 100) tb = tx) (hsg : lb 32 sm ++ lb 32 sm = sg) (hw : wfF f) (hn : f.ss.length ≤ 258) (hv : f.val.length ≤ 80) (w : World) (hsm : RR 32 w sv (d.ss.map b32l)) (hum : RR 32 w uv (us.map b32l)) (htv : Sl w tv tb) (hu10 : ∀ W, (Instr.sliceAt 48 sv none (some (.int .i64 ((min d.ss.length 258 : Nat) : Int))) none).run Try.prog W = .ok u10 W) (hR : RR 32 w u10 (f.ss.map b32l)) :
  Calls Try.prog 23 #[.agg (toF k er nu d sm gone sv uv tv)] w fun e w' => ∃ x : Value, AnsR (fbR u10 (f.ss.map b32l)) ((⟨k, er, nu, f, sm, ss, sg, tx, gone⟩ : Tp).A2 x) ((⟨k, er, nu, f, sm, ss, sg, tx, gone⟩ : Tp).S2) ((⟨k, er, nu, f, sm, ss, sg, tx, gone⟩ : Tp).O2) w w' e := by
 obtain ⟨Ap, cp, rfl, _, _⟩ := RR.opf hR
 obtain ⟨u2, hu2, hR2⟩ := rr_head (m := min us.length 258) hum (by rw [List.length_map]; exact Nat.min_le_left _ _) Try.underlying48 (by kernel_rfl)
 replace hR2 : RR 32 w u2 (ss.map b32l) := by have h_ := hR2 w hum; rw [head_258, hss] at h_; exact h_
 obtain ⟨Aq, cq, rfl, _, _⟩ := RR.opf hum
 have hssl : ss.length ≤ 258 := by rw [← hss, List.length_take]; omega
 have htxl : tx.length ≤ 100 := by rw [← htx, List.length_take]; omega
 have hsgl : sg.length = 64 := by rw [← hsg, List.length_append, lb_length]
 have hpb := pB_ln (ss := f.ss) (th := f.th) (a := f.a) (x := f.x)
 have hdl := dfL_le hn
 have hsbl := sB_len ss
 have hn1 : f.ss.length ≤ 1000000 := by omega
 have hv1 : f.val.length ≤ 1000000 := by omega
 have HF := Lib.hid hf
 have HW := Lib.hid hw
 have HTX := Lib.hid htx
 have HSG := Lib.hid hsg
 clear hf hw htx hsg hss
 have hS := SH.nil [] w
 go_enter Try.func23, Try.ntmps23
 go_upto_region 0 with fail
 refine RL hS ?_
 clear hS
 refine MN (z := agF [.c (.int .i64 k), .c (.int .i64 er), .c (.int .i64 nu), .c (.int .i64 d.ep), .c (str d.ix), .c (str d.vr), .c (.bool d.pre), .c (.int .i64 d.ver), .c (str d.val), .c (str d.bo), .c (str d.op), .c sv, .c (.bool d.th), .a 32 d.a, .a 32 d.x, .c (str d.ro), .c (str d.li), .c (str d.ah), .c (.int .i64 d.rd), .a 32 sm, .c (.slice Aq us.length cq), .c tv, .c (.bool gone)]) (t := 74) ?_
 intro p1_1
 refine MN (z := agF (.c (.int .i64 0) :: .c (.int .i64 0) :: .c (.int .i64 0) :: .c (.int .i64 0) :: .a 32 0 :: .a 80 0 :: .c (.bool false) :: .c (.int .i64 0) :: .c (.slice none 0 0) :: .a 32 0 :: .a 32 0 :: .c (.slice none 0 0) :: .c (.bool false) :: .a 32 0 :: .a 32 0 :: .a 32 0 :: .a 32 0 :: .a 32 0 :: .c (.int .i64 0) :: .a 32 0 :: .c (.slice none 0 0) :: .c (.slice none 0 0) :: .c (.bool false) :: .a 32 0 :: .a 32 0 :: .c (.int .i64 0) :: .a 32 0 :: .a 64 0 :: .a 32 0 :: .c (.slice none 0 0) :: .c (.slice none 0 0) :: .c (.slice none 0 0) :: .c (.slice none 0 0) :: .c (.bool false) :: .c (.int .i64 0) :: .a 32 0 :: .c (.slice none 0 0) :: .a 32 0 :: .c (.slice none 0 0) :: [])) (t := 85) ?_
 intro p2_2
 refine MV ?_
 refine MW ?_ (v := .bool false)
 refine MZ fun W hS => ?_
 go_upto_region 1 with fail
 refine RL hS ?_
 clear hS
 refine MV ?_
 refine Mk 1 ?_ (sub := agF [.c (.int .i64 d.ep), .c (str d.ix), .c (str d.vr), .c (.bool d.pre), .c (.int .i64 d.ver), .c (str d.val), .c (str d.bo), .c (str d.op), .c sv, .c (.bool d.th), .a 32 d.a, .a 32 d.x, .c (str d.ro), .c (str d.li), .c (str d.ah), .c (.int .i64 d.rd)]) (hs := (agF_part (off := 3) 3 16))
 refine MC (v := .agg (agF [.c (.int .i64 f.ep), .c (str (lb 32 f.ix)), .c (str (lb 80 f.vr)), .c (.bool f.pre), .c (.int .i64 f.ver), .c (str f.val), .c (str (lb 32 f.bo)), .c (str (lb 32 f.op)), .c (.slice Ap f.ss.length cp), .c (.bool f.th), .a 32 f.a, .a 32 f.x, .c (str (lb 32 f.ro)), .c (str (lb 32 f.li)), .c (str (lb 32 f.ah)), .c (.int .i64 f.rd)])) (fun W hS => sized_n HF.out W (hsm.ext hS.ext) hu10 (hR.ext hS.ext)) ?_
 refine MN (z := agF [.c (.int .i64 0), .c (str []), .c (str []), .c (.bool false), .c (.int .i64 0), .c (str []), .c (str []), .c (str []), .c (.slice none 0 0), .c (.bool false), .a 32 0, .a 32 0, .c (str []), .c (str []), .c (str []), .c (.int .i64 0)]) (t := 54) ?_
 intro p5_3
 refine MR 0 ?_ (hz := by rw [agF_size]; kernel_rfl) (hs := by first | (rw [agF_size, agF_size]; rfl) | rfl) (h1 := by exact (agF_one ⟨rfl, rfl, rfl, rfl, rfl, rfl, rfl, rfl, rfl, rfl, rfl, rfl, rfl, rfl, trivial⟩))
 refine MZ fun W hS => ?_
 go_upto_region 2 with fail
 refine RL hS ?_
 clear hS
 refine MB0 (t := 27) (n := 32) ?_
 intro v22_4
 refine MV ?_
 refine MG 3 ?_ (v := .slice Aq us.length cq) (hj := (agF_cel (off := 113) 20))
 refine MV ?_
 refine MG 3 ?_ (v := .slice Aq us.length cq) (hj := (agF_cel (off := 113) 20))
 refine MV ?_
 refine MW ?_ (v := .int .i64 ((min us.length 258 : Nat) : Int))
 refine MW ?_ (v := u2) (hv := fun _ => run_headV hu2 rfl rfl rfl)
 refine MAR 0 (tS := 48) (bytes := 32) (es := []) (fs := (List.map b32l ss)) (fun W hS => (hR2.ext hS.ext)) b32l_all (by first | omega | decide | (rw [List.length_map]; omega) | (simp only [List.length_nil, List.length_map]; omega) | (simp only [List.length_append, List.length_cons, List.length_nil, lb_length, eI_len, tB_len, sB_len]; omega)) ?_
 intro v30_5
 refine MT (fun W hS => by rw [List.nil_append] at hS; exact hS) ?_
 refine MFact (fun W hS => rr_pure (hS.row (i := 0) rfl).rr) ?_
 rintro ⟨Au, cu, rfl, hAu⟩
 have HAu := Lib.hid hAu
 clear hAu
 refine MV ?_
 refine MZ fun W hS => ?_
 go_upto_region 3 with fail
 refine RL hS ?_
 clear hS
 refine MO (m := []) (n := 0) (z := #[]) ?_
 intro v31_6
 refine MV ?_
 refine MG 4 ?_ (v := tv) (hj := (agF_cel (off := 114) 21))
 refine MV ?_
 refine MG 4 ?_ (v := tv) (hj := (agF_cel (off := 114) 21))
 refine MF (v := .int .i64 (tb.length : Int)) (fun W hS => run_lenA (sl_e htv hS.ext) rfl rfl) ?_
 refine MW ?_ (v := .int .i64 ((min tb.length 100 : Nat) : Int))
 refine MT (fun W hS => hS.ent htv) ?_
 refine MH 0 (min tb.length 100) (m := tb) (m' := tx) (by omega) ?_ (hm := HTX.out)
 intro u38_7
 refine MA 2 (xs := []) (ys := tx) (fun W hS => (hS.sl (i := 0) rfl)) (by first | omega | decide | (rw [List.length_map]; omega) | (simp only [List.length_nil, List.length_map]; omega) | (simp only [List.length_append, List.length_cons, List.length_nil, lb_length, eI_len, tB_len, sB_len]; omega)) ?_
 intro v39_8
 refine MT (fun W hS => by rw [List.nil_append] at hS; exact hS) ?_
 refine MFact (fun W hS => sl_cells (hS.osl (i := 2) rfl)) ?_
 intro htc
 refine MV ?_
 refine MZ fun W hS => ?_
 go_upto_region 4 with fail
 refine RL hS ?_
 clear hS
 refine MV ?_
 refine MG 6 ?_ (v := .int .i64 k) (hj := (agF_cel (off := 0) 0))
 refine MV ?_
 refine MG 6 ?_ (v := .int .i64 er) (hj := (agF_cel (off := 1) 1))
 refine MF (v := .agg (agF (.c (.int .i64 k) :: .c (.int .i64 er) :: .c (.int .i64 0) :: .c (.int .i64 0) :: .a 32 0 :: .a 80 0 :: .c (.bool false) :: .c (.int .i64 0) :: .c (.slice none 0 0) :: .a 32 0 :: .a 32 0 :: .c (.slice none 0 0) :: .c (.bool false) :: .a 32 0 :: .a 32 0 :: .a 32 0 :: .a 32 0 :: .a 32 0 :: .c (.int .i64 0) :: .a 32 0 :: .c (.slice none 0 0) :: .c (.slice none 0 0) :: .c (.bool false) :: .a 32 0 :: .a 32 0 :: .c (.int .i64 0) :: .a 32 0 :: .a 64 0 :: .a 32 0 :: .c (.slice none 0 0) :: .c (.slice none 0 0) :: .c (.slice none 0 0) :: .c (.slice none 0 0) :: .c (.bool false) :: .c (.int .i64 0) :: .a 32 0 :: .c (.slice none 0 0) :: .a 32 0 :: .c (.slice none 0 0) :: []))) (fun W hS => run_bld rfl rfl zer_wire_Answer plc_wire_Answer (fill_c (fill_c fill_n (l' := [.c (.int .i64 k), .c (.int .i64 er), .c (.int .i64 0), .c (.int .i64 0), .a 32 0, .a 80 0, .c (.bool false), .c (.int .i64 0), .c (.slice none 0 0), .a 32 0, .a 32 0, .c (.slice none 0 0), .c (.bool false), .a 32 0, .a 32 0, .a 32 0, .a 32 0, .a 32 0, .c (.int .i64 0), .a 32 0, .c (.slice none 0 0), .c (.slice none 0 0), .c (.bool false), .a 32 0, .a 32 0, .c (.int .i64 0), .a 32 0, .a 64 0, .a 32 0, .c (.slice none 0 0), .c (.slice none 0 0), .c (.slice none 0 0), .c (.slice none 0 0), .c (.bool false), .c (.int .i64 0), .a 32 0, .c (.slice none 0 0), .a 32 0, .c (.slice none 0 0)]) (m := [.c (.int .i64 er)]) (hv := rfl) (hs := agF_setp (off := 1) 1 1) (hp := rfl) (hn := rfl) (hb := by show 1 + 1 ≤ 646; decide)) (l' := [.c (.int .i64 k), .c (.int .i64 0), .c (.int .i64 0), .c (.int .i64 0), .a 32 0, .a 80 0, .c (.bool false), .c (.int .i64 0), .c (.slice none 0 0), .a 32 0, .a 32 0, .c (.slice none 0 0), .c (.bool false), .a 32 0, .a 32 0, .a 32 0, .a 32 0, .a 32 0, .c (.int .i64 0), .a 32 0, .c (.slice none 0 0), .c (.slice none 0 0), .c (.bool false), .a 32 0, .a 32 0, .c (.int .i64 0), .a 32 0, .a 64 0, .a 32 0, .c (.slice none 0 0), .c (.slice none 0 0), .c (.slice none 0 0), .c (.slice none 0 0), .c (.bool false), .c (.int .i64 0), .a 32 0, .c (.slice none 0 0), .a 32 0, .c (.slice none 0 0)]) (m := [.c (.int .i64 k)]) (hv := rfl) (hs := agF_setp (off := 0) 0 1) (hp := rfl) (hn := rfl) (hb := by show 0 + 1 ≤ 646; decide))) ?_
 refine MN (z := agF (.c (.int .i64 0) :: .c (.int .i64 0) :: .c (.int .i64 0) :: .c (.int .i64 0) :: .a 32 0 :: .a 80 0 :: .c (.bool false) :: .c (.int .i64 0) :: .c (.slice none 0 0) :: .a 32 0 :: .a 32 0 :: .c (.slice none 0 0) :: .c (.bool false) :: .a 32 0 :: .a 32 0 :: .a 32 0 :: .a 32 0 :: .a 32 0 :: .c (.int .i64 0) :: .a 32 0 :: .c (.slice none 0 0) :: .c (.slice none 0 0) :: .c (.bool false) :: .a 32 0 :: .a 32 0 :: .c (.int .i64 0) :: .a 32 0 :: .a 64 0 :: .a 32 0 :: .c (.slice none 0 0) :: .c (.slice none 0 0) :: .c (.slice none 0 0) :: .c (.slice none 0 0) :: .c (.bool false) :: .c (.int .i64 0) :: .a 32 0 :: .c (.slice none 0 0) :: .a 32 0 :: .c (.slice none 0 0) :: [])) (t := 85) ?_
 intro p8_9
 refine MR 0 ?_ (hz := by rw [agF_size]; kernel_rfl) (hs := by first | (rw [agF_size, agF_size]; rfl) | rfl) (h1 := by exact (agF_one ⟨rfl, rfl, rfl, rfl, rfl, rfl, rfl, rfl, rfl, rfl, rfl, rfl, rfl, rfl, rfl, rfl, rfl, rfl, rfl, rfl, rfl, rfl, trivial⟩))
 refine MZ fun W hS => ?_
 rcases ok_or k er with hok | hno | hno | hno | hno
 ·
  have _f := True.intro
  obtain ⟨⟨hk0, hk9⟩, he0, he9⟩ := id hok
  go_upto_region 5 with fail
  refine RL hS ?_
  clear hS
  refine MV ?_
  refine MG 7 ?_ (v := .int .i64 k) (hj := (agF_cel (off := 0) 0))
  refine MW ?_ (v := .bool false) (hv := by intro W; go_simp; first | done | omega)
  refine MW ?_ (v := .bool false)
  refine MV ?_
  refine MG 7 ?_ (v := .int .i64 k) (hj := (agF_cel (off := 0) 0))
  refine MW ?_ (v := .bool false) (hv := by intro W; go_simp; first | done | omega)
  refine MW ?_ (v := .bool false)
  refine MW ?_ (v := .bool false)
  refine MV ?_
  refine MG 7 ?_ (v := .int .i64 er) (hj := (agF_cel (off := 1) 1))
  refine MW ?_ (v := .bool false) (hv := by intro W; go_simp; first | done | omega)
  refine MW ?_ (v := .bool false)
  refine MW ?_ (v := .bool false)
  refine MV ?_
  refine MG 7 ?_ (v := .int .i64 er) (hj := (agF_cel (off := 1) 1))
  refine MW ?_ (v := .bool false) (hv := by intro W; go_simp; first | done | omega)
  refine MW ?_ (v := .bool false)
  refine MZ fun W hS => ?_
  go_upto_region 7 with fail
  refine RTh (.q 0 (.q 1 (.q 3 (.q 4 (.e 2 (.e 5 (.q 6 (.q 7 .z)))))))) hS ?_
  clear hS
  refine TV ?_
  refine TG 7 ?_ (v := .int .i64 k) (hj := (agF_cel (off := 0) 0))
  refine TV ?_
  refine TG 7 ?_ (v := .int .i64 er) (hj := (agF_cel (off := 1) 1))
  refine TE (fun _ h => h) ?_
  refine MC (v := str [u8 k.toNat]) (fun W hS => one_i k (by omega) W) ?_
  refine TNh (fun W hS => hS) ?_
  refine TE (fun _ h => h) ?_
  refine MC (v := str [u8 er.toNat]) (fun W hS => one_i er (by omega) W) ?_
  refine TNh (fun W hS => hS) ?_
  refine TW ?_ (v := str ([u8 k.toNat] ++ [u8 er.toNat])) (hv := fun _ => run_cat (l := [u8 k.toNat]) (m := [u8 er.toNat]) rfl rfl rfl (by first | omega | decide | (rw [List.length_map]; omega) | (simp only [List.length_nil, List.length_map]; omega) | (simp only [List.length_append, List.length_cons, List.length_nil, lb_length, eI_len, tB_len, sB_len]; omega)))
  refine TV ?_
  refine TZ (fun _ h => h) fun W hS => ?_
  by_cases he : er = 0
  ·
   have _f := he
   have He : RowKit.Hid (er = 0) := Lib.hid he
   have Hok := Lib.hid hok
   clear he hok he0 he9 _f
   go_upto_region 8 with fail
   refine RL hS ?_
   clear hS
   refine MV ?_
   refine MG 7 ?_ (v := .int .i64 er) (hj := (agF_cel (off := 1) 1))
   refine MW ?_ (v := .bool false) (hv := by intro W; have he_ := He.out; go_simp; first | done | omega)
   refine MZ fun W hS => ?_
   go_upto_region 10 with fail
   refine RTh (.q 1 (.q 2 (.q 4 (.q 5 (.e 0 (.e 3 (.e 6 (.q 7 (.q 8 .z))))))))) hS ?_
   clear hS
   refine TV ?_
   refine TW ?_ (v := .slice (some ⟨p1_1, 81, none⟩) 32 32)
   refine TV ?_
   refine TW ?_ (v := .slice (some ⟨p1_1, 81, none⟩) 32 32)
   refine TE (fun _ h => h) ?_
   refine MO (m := []) (n := 0) (z := #[]) ?_
   intro v76_10
   refine TNp [1, 2, 3, 4, 5, 6, 7, 8] [0, 1, 2, 3, 4, 5, 6, 7] ?_
   refine TE (fun _ h => h.pick [1, 2, 3, 4, 5, 6, 7, 8]) ?_
   refine MA 0 (xs := []) (ys := (lb 32 sm)) (fun W hS => (sl_part (V := sm) (n := 32) (off := 81) (c := 32) (hS.blk (i := 8) rfl) (agF_arr (off := 81) 19) (by decide) (by decide))) (by first | omega | decide | (rw [List.length_map]; omega) | (simp only [List.length_nil, List.length_map]; omega) | (simp only [List.length_append, List.length_cons, List.length_nil, lb_length, eI_len, tB_len, sB_len]; omega)) ?_
   intro v79_11
   refine TNp [1, 2, 3, 4, 5, 6, 7, 8] [0, 1, 2, 3, 4, 5, 6, 7] ?_
   refine TE (fun _ h => h.pick [1, 2, 3, 4, 5, 6, 7, 8]) ?_
   refine MA 0 (xs := ([] ++ (lb 32 sm))) (ys := (lb 32 sm)) (fun W hS => (sl_part (V := sm) (n := 32) (off := 81) (c := 32) (hS.blk (i := 8) rfl) (agF_arr (off := 81) 19) (by decide) (by decide))) (by first | omega | decide | (rw [List.length_map]; omega) | (simp only [List.length_nil, List.length_map]; omega) | (simp only [List.length_append, List.length_cons, List.length_nil, lb_length, eI_len, tB_len, sB_len]; omega)) ?_
   intro v82_12
   refine MT (fun W hS => by rw [List.nil_append, HSG.out] at hS; exact hS) ?_
   refine TNp [0, 1, 2, 3, 4, 5, 6, 7, 8] [1, 2, 3, 4, 5, 6, 7, 8] ?_
   refine TF (v := str sg) rfl (fun W hS => run_cvs (hS.osl (i := 0) rfl) rfl rfl) ?_
   refine TV ?_
   refine TZ (fun _ h => h) fun W hS => ?_
   go_upto_region 11 with fail
   refine RJ (R := fun a_ w_ => ∃ (j11_0 : Nat), ∃ (j11_1 : Value), a_ = { tmps := List.toArray ((.agg (agF [.c (.int .i64 k), .c (.int .i64 er), .c (.int .i64 nu), .c (.int .i64 d.ep), .c (str d.ix), .c (str d.vr), .c (.bool d.pre), .c (.int .i64 d.ver), .c (str d.val), .c (str d.bo), .c (str d.op), .c sv, .c (.bool d.th), .a 32 d.a, .a 32 d.x, .c (str d.ro), .c (str d.li), .c (str d.ah), .c (.int .i64 d.rd), .a 32 sm, .c (.slice Aq us.length cq), .c tv, .c (.bool gone)])) :: (.pointer (some ⟨p1_1, 0, none⟩)) :: (.pointer (some ⟨p2_2, 0, none⟩)) :: (str []) :: (.bool false) :: (.pointer (some ⟨p5_3, 0, none⟩)) :: (.slice Au ss.length cu) :: v39_8 :: (.pointer (some ⟨p8_9, 0, none⟩)) :: (str ([u8 k.toNat] ++ [u8 er.toNat])) :: (str sg) :: (.pointer (some ⟨j11_0, 0, none⟩)) :: undef :: undef :: undef :: undef :: undef :: undef :: undef :: (.pointer (some ⟨p1_1, 3, none⟩)) :: (.agg (agF [.c (.int .i64 d.ep), .c (str d.ix), .c (str d.vr), .c (.bool d.pre), .c (.int .i64 d.ver), .c (str d.val), .c (str d.bo), .c (str d.op), .c sv, .c (.bool d.th), .a 32 d.a, .a 32 d.x, .c (str d.ro), .c (str d.li), .c (str d.ah), .c (.int .i64 d.rd)])) :: (.agg (agF [.c (.int .i64 f.ep), .c (str (lb 32 f.ix)), .c (str (lb 80 f.vr)), .c (.bool f.pre), .c (.int .i64 f.ver), .c (str f.val), .c (str (lb 32 f.bo)), .c (str (lb 32 f.op)), .c (.slice Ap f.ss.length cp), .c (.bool f.th), .a 32 f.a, .a 32 f.x, .c (str (lb 32 f.ro)), .c (str (lb 32 f.li)), .c (str (lb 32 f.ah)), .c (.int .i64 f.rd)])) :: v22_4 :: (.pointer (some ⟨p1_1, 113, none⟩)) :: (.slice Aq us.length cq) :: (.pointer (some ⟨p1_1, 113, none⟩)) :: (.slice Aq us.length cq) :: (.int .i64 (us.length : Int)) :: (.int .i64 ((min us.length 258 : Nat) : Int)) :: u2 :: (.slice Au ss.length cu) :: v31_6 :: (.pointer (some ⟨p1_1, 114, none⟩)) :: tv :: (.pointer (some ⟨p1_1, 114, none⟩)) :: tv :: (.int .i64 (tb.length : Int)) :: (.int .i64 ((min tb.length 100 : Nat) : Int)) :: u38_7 :: v39_8 :: (.pointer (some ⟨p1_1, 0, none⟩)) :: (.int .i64 k) :: (.pointer (some ⟨p1_1, 1, none⟩)) :: (.int .i64 er) :: (.agg (agF (.c (.int .i64 k) :: .c (.int .i64 er) :: .c (.int .i64 0) :: .c (.int .i64 0) :: .a 32 0 :: .a 80 0 :: .c (.bool false) :: .c (.int .i64 0) :: .c (.slice none 0 0) :: .a 32 0 :: .a 32 0 :: .c (.slice none 0 0) :: .c (.bool false) :: .a 32 0 :: .a 32 0 :: .a 32 0 :: .a 32 0 :: .a 32 0 :: .c (.int .i64 0) :: .a 32 0 :: .c (.slice none 0 0) :: .c (.slice none 0 0) :: .c (.bool false) :: .a 32 0 :: .a 32 0 :: .c (.int .i64 0) :: .a 32 0 :: .a 64 0 :: .a 32 0 :: .c (.slice none 0 0) :: .c (.slice none 0 0) :: .c (.slice none 0 0) :: .c (.slice none 0 0) :: .c (.bool false) :: .c (.int .i64 0) :: .a 32 0 :: .c (.slice none 0 0) :: .a 32 0 :: .c (.slice none 0 0) :: []))) :: (.pointer (some ⟨p1_1, 0, none⟩)) :: (.int .i64 k) :: (.bool false) :: (.bool false) :: (.pointer (some ⟨p1_1, 0, none⟩)) :: (.int .i64 k) :: (.bool false) :: (.bool false) :: (.bool false) :: (.pointer (some ⟨p1_1, 1, none⟩)) :: (.int .i64 er) :: (.bool false) :: (.bool false) :: (.bool false) :: (.pointer (some ⟨p1_1, 1, none⟩)) :: (.int .i64 er) :: (.bool false) :: (.bool false) :: undef :: (.pointer (some ⟨p1_1, 0, none⟩)) :: (.int .i64 k) :: (str [u8 k.toNat]) :: (.pointer (some ⟨p1_1, 1, none⟩)) :: (.int .i64 er) :: (str [u8 er.toNat]) :: (str ([u8 k.toNat] ++ [u8 er.toNat])) :: (.pointer (some ⟨p1_1, 1, none⟩)) :: (.int .i64 er) :: (.bool false) :: undef :: undef :: v76_10 :: (.pointer (some ⟨p1_1, 81, none⟩)) :: (.slice (some ⟨p1_1, 81, none⟩) 32 32) :: v79_11 :: (.pointer (some ⟨p1_1, 81, none⟩)) :: (.slice (some ⟨p1_1, 81, none⟩) 32 32) :: v82_12 :: (str sg) :: (.agg (agF [.c (.int .i64 f.ep), .c (str (lb 32 f.ix)), .c (str (lb 80 f.vr)), .c (.bool f.pre), .c (.int .i64 f.ver), .c (str f.val), .c (str (lb 32 f.bo)), .c (str (lb 32 f.op)), .c (.slice Ap f.ss.length cp), .c (.bool f.th), .a 32 f.a, .a 32 f.x, .c (str (lb 32 f.ro)), .c (str (lb 32 f.li)), .c (str (lb 32 f.ah)), .c (.int .i64 f.rd)])) :: (.agg (agF [.c (.int .i64 f.ep), .a 32 f.ix, .a 80 f.vr, .c (.bool f.pre), .c (.int .i64 f.ver), .c j11_1, .a 32 f.bo, .a 32 f.op, .c (.slice Ap f.ss.length cp), .c (.bool f.th), .a 32 f.a, .a 32 f.x, .a 32 f.ro, .a 32 f.li, .a 32 f.ah, .c (.int .i64 f.rd)])) :: (.agg (agF [.c (.slice Ap f.ss.length cp), .c (.bool f.th), .a 32 f.a, .a 32 f.x])) :: (.pointer (some ⟨p1_1, 2, none⟩)) :: (.int .i64 nu) :: (.pointer (some ⟨p1_1, 81, none⟩)) :: (.agg (arrK .u8 32 (byt sm))) :: (.agg (agF [.c (.int .i64 nu), .a 32 sm, .a 64 0])) :: (.pointer (some ⟨p1_1, 81, none⟩)) :: (.agg (arrK .u8 32 (byt sm))) :: (.slice Au ss.length cu) :: (.agg (agF [.c (.slice Ap f.ss.length cp), .c (.bool f.th), .a 32 f.a, .a 32 f.x, .c (.int .i64 nu), .a 32 sm, .a 64 0, .a 32 sm, .c (.slice Au ss.length cu)])) :: undef :: undef :: undef :: undef :: undef :: undef :: undef :: undef :: undef :: undef :: undef :: undef :: undef :: undef :: undef :: undef :: undef :: undef :: undef :: undef :: undef :: undef :: undef :: undef :: undef :: undef :: undef :: undef :: undef :: undef :: undef :: undef :: undef :: undef :: undef :: undef :: undef :: undef :: undef :: undef :: undef :: undef :: undef :: undef :: undef :: undef :: undef :: undef :: undef :: undef :: undef :: undef :: undef :: undef :: undef :: undef :: undef :: undef :: undef :: undef :: undef :: undef :: undef :: undef :: undef :: undef :: undef :: undef :: undef :: undef :: undef :: undef :: undef :: undef :: undef :: undef :: undef :: undef :: undef :: undef :: undef :: undef :: undef :: undef :: undef :: undef :: undef :: undef :: undef :: undef :: undef :: undef :: undef :: undef :: undef :: undef :: undef :: undef :: undef :: undef :: undef :: undef :: undef :: undef :: undef :: undef :: undef :: undef :: undef :: undef :: undef :: undef :: undef :: undef :: undef :: undef :: undef :: undef :: undef :: undef :: undef :: undef :: undef :: undef :: undef :: undef :: undef :: undef :: undef :: undef :: undef :: undef :: undef :: undef :: undef :: undef :: undef :: undef :: undef :: undef :: undef :: undef :: undef :: undef :: undef :: undef :: undef :: undef :: undef :: undef :: undef :: undef :: undef :: undef :: undef :: undef :: undef :: undef :: undef :: undef :: undef :: undef :: undef :: undef :: undef :: undef :: undef :: undef :: undef :: undef :: undef :: undef :: undef :: undef :: undef :: undef :: undef :: undef :: undef :: undef :: undef :: undef :: undef :: undef :: undef :: undef :: undef :: undef :: undef :: undef :: undef :: undef :: undef :: undef :: undef :: undef :: undef :: undef :: undef :: undef :: undef :: undef :: undef :: undef :: undef :: undef :: undef :: undef :: undef :: undef :: undef :: undef :: undef :: undef :: undef :: undef :: undef :: undef :: undef :: undef :: undef :: undef :: undef :: undef :: undef :: undef :: undef :: undef :: undef :: undef :: undef :: undef :: undef :: undef :: undef :: undef :: undef :: undef :: undef :: undef :: undef :: undef :: undef :: undef :: []), defers := [] } ∧ SH [] w w_ [.b j11_0 (agF [.c (.slice Ap f.ss.length cp), .c (.bool f.th), .a 32 f.a, .a 32 f.x, .c (.int .i64 nu), .a 32 sm, .a 64 0, .a 32 sm, .c (.slice Au ss.length cu)]) 79, .w j11_1 f.val, .o v82_12 sg, .s u38_7 tx, .b p1_1 (agF [.c (.int .i64 k), .c (.int .i64 er), .c (.int .i64 nu), .c (.int .i64 d.ep), .c (str d.ix), .c (str d.vr), .c (.bool d.pre), .c (.int .i64 d.ver), .c (str d.val), .c (str d.bo), .c (str d.op), .c sv, .c (.bool d.th), .a 32 d.a, .a 32 d.x, .c (str d.ro), .c (str d.li), .c (str d.ah), .c (.int .i64 d.rd), .a 32 sm, .c (.slice Aq us.length cq), .c tv, .c (.bool gone)]) 74, .b p2_2 (agF (.c (.int .i64 0) :: .c (.int .i64 0) :: .c (.int .i64 0) :: .c (.int .i64 0) :: .a 32 0 :: .a 80 0 :: .c (.bool false) :: .c (.int .i64 0) :: .c (.slice none 0 0) :: .a 32 0 :: .a 32 0 :: .c (.slice none 0 0) :: .c (.bool false) :: .a 32 0 :: .a 32 0 :: .a 32 0 :: .a 32 0 :: .a 32 0 :: .c (.int .i64 0) :: .a 32 0 :: .c (.slice none 0 0) :: .c (.slice none 0 0) :: .c (.bool false) :: .a 32 0 :: .a 32 0 :: .c (.int .i64 0) :: .a 32 0 :: .a 64 0 :: .a 32 0 :: .c (.slice none 0 0) :: .c (.slice none 0 0) :: .c (.slice none 0 0) :: .c (.slice none 0 0) :: .c (.bool false) :: .c (.int .i64 0) :: .a 32 0 :: .c (.slice none 0 0) :: .a 32 0 :: .c (.slice none 0 0) :: [])) 85, .b p5_3 (agF [.c (.int .i64 f.ep), .c (str (lb 32 f.ix)), .c (str (lb 80 f.vr)), .c (.bool f.pre), .c (.int .i64 f.ver), .c (str f.val), .c (str (lb 32 f.bo)), .c (str (lb 32 f.op)), .c (.slice Ap f.ss.length cp), .c (.bool f.th), .a 32 f.a, .a 32 f.x, .c (str (lb 32 f.ro)), .c (str (lb 32 f.li)), .c (str (lb 32 f.ah)), .c (.int .i64 f.rd)]) 54, .b p8_9 (agF (.c (.int .i64 k) :: .c (.int .i64 er) :: .c (.int .i64 0) :: .c (.int .i64 0) :: .a 32 0 :: .a 80 0 :: .c (.bool false) :: .c (.int .i64 0) :: .c (.slice none 0 0) :: .a 32 0 :: .a 32 0 :: .c (.slice none 0 0) :: .c (.bool false) :: .a 32 0 :: .a 32 0 :: .a 32 0 :: .a 32 0 :: .a 32 0 :: .c (.int .i64 0) :: .a 32 0 :: .c (.slice none 0 0) :: .c (.slice none 0 0) :: .c (.bool false) :: .a 32 0 :: .a 32 0 :: .c (.int .i64 0) :: .a 32 0 :: .a 64 0 :: .a 32 0 :: .c (.slice none 0 0) :: .c (.slice none 0 0) :: .c (.slice none 0 0) :: .c (.slice none 0 0) :: .c (.bool false) :: .c (.int .i64 0) :: .a 32 0 :: .c (.slice none 0 0) :: .a 32 0 :: .c (.slice none 0 0) :: [])) 85, .s tv tb, .o v39_8 tx, .r 27 32 (.slice Au ss.length cu) (List.map b32l ss)]) ?_ ?_
   ·
    skip
    refine RTh (.q 0 (.q 3 (.q 4 (.q 5 (.q 6 (.q 7 (.q 8 (.q 9 (.q 10 (.b 1 (.q 2 (.q 11 (.e 12 (.e 13 .z)))) 12 (.e 1 (.q 2 (.q 11 (.e 13 .z)))))))))))))) hS ?_
    clear hS
    refine TL 6 ?_ (hs := by rw [agF_size]; kernel_rfl)
    refine TV ?_
    refine TG 8 ?_ (v := .int .i64 nu) (hj := (agF_cel (off := 2) 2))
    refine TV ?_
    refine Tk 8 ?_ (sub := arrK .u8 32 (byt sm)) (hs := (agF_arr (off := 81) 19))
    refine TF (v := .agg (agF [.c (.int .i64 nu), .a 32 sm, .a 64 0])) rfl (fun W hS => run_bld rfl rfl zer_super_Signed plc_super_Signed (fill_c (fill_c fill_n (l' := [.c (.int .i64 nu), .a 32 sm, .a 64 0]) (m := [.a 32 sm]) (hv := (agF_a _ _).symm) (hs := agF_setp (off := 1) 1 1) (hp := rfl) (hn := rfl) (hb := by show 1 + 32 ≤ 97; decide)) (l' := [.c (.int .i64 nu), .a 32 0, .a 64 0]) (m := [.c (.int .i64 nu)]) (hv := rfl) (hs := agF_setp (off := 0) 0 1) (hp := rfl) (hn := rfl) (hb := by show 0 + 1 ≤ 97; decide))) ?_
    refine TV ?_
    refine Tk 8 ?_ (sub := arrK .u8 32 (byt sm)) (hs := (agF_arr (off := 81) 19))
    refine TV ?_
    refine TB (fun _ h => h) ?_ ?_
    ·
     skip
     refine ME (V := fun vv => .agg (foF f vv (.slice Ap f.ss.length cp))) (fun W hS => ncall hS (found_n HW.out hv1 W (hR.ext hS.ext)) (fun _ => ⟨rfl, rfl⟩)) ?_
     intro vv13
     refine MFact (fun W hS => sl_cells (hS.ozl (i := 0) rfl)) ?_
     intro hvc13
     refine TNh (fun W hS => hS.pick [1, 2, 3, 4, 5, 6, 7, 8, 9]) ?_
     refine TW ?_ (v := .agg (agF [.c (.slice Ap f.ss.length cp), .c (.bool f.th), .a 32 f.a, .a 32 f.x])) (hv := by intro W; kernel_rfl)
     refine TF (v := .agg (agF [.c (.slice Ap f.ss.length cp), .c (.bool f.th), .a 32 f.a, .a 32 f.x, .c (.int .i64 nu), .a 32 sm, .a 64 0, .a 32 sm, .c (.slice Au ss.length cu)])) rfl (fun W hS => run_bld rfl rfl zer_wire_Under plc_wire_Under (fill_c (fill_c (fill_c (fill_c fill_n (l' := [.c (.slice Ap f.ss.length cp), .c (.bool f.th), .a 32 f.a, .a 32 f.x, .c (.int .i64 nu), .a 32 sm, .a 64 0, .a 32 sm, .c (.slice Au ss.length cu)]) (m := [.c (.slice Au ss.length cu)]) (hv := rfl) (hs := agF_setp (off := 195) 8 1) (hp := rfl) (hn := rfl) (hb := by show 195 + 1 ≤ 196; decide)) (l' := [.c (.slice Ap f.ss.length cp), .c (.bool f.th), .a 32 f.a, .a 32 f.x, .c (.int .i64 nu), .a 32 sm, .a 64 0, .a 32 sm, .c (.slice none 0 0)]) (m := [.a 32 sm]) (hv := (agF_a _ _).symm) (hs := agF_setp (off := 163) 7 1) (hp := rfl) (hn := rfl) (hb := by show 163 + 32 ≤ 196; decide)) (l' := [.c (.slice Ap f.ss.length cp), .c (.bool f.th), .a 32 f.a, .a 32 f.x, .c (.int .i64 nu), .a 32 sm, .a 64 0, .a 32 0, .c (.slice none 0 0)]) (m := [.c (.int .i64 nu), .a 32 sm, .a 64 0]) (hv := rfl) (hs := agF_setp (off := 66) 4 3) (hp := rfl) (hn := rfl) (hb := by show 66 + 97 ≤ 196; decide)) (l' := [.c (.slice Ap f.ss.length cp), .c (.bool f.th), .a 32 f.a, .a 32 f.x, .c (.int .i64 0), .a 32 0, .a 64 0, .a 32 0, .c (.slice none 0 0)]) (m := [.c (.slice Ap f.ss.length cp), .c (.bool f.th), .a 32 f.a, .a 32 f.x]) (hv := rfl) (hs := agF_setp (off := 0) 0 4) (hp := rfl) (hn := rfl) (hb := by show 0 + 66 ≤ 196; decide))) ?_
     refine TE (fun _ h => h) ?_
     refine MN (z := agF [.c (.slice none 0 0), .c (.bool false), .a 32 0, .a 32 0, .c (.int .i64 0), .a 32 0, .a 64 0, .a 32 0, .c (.slice none 0 0)]) (t := 79) ?_
     intro p11_14
     refine TNp [1, 2, 3, 4, 5, 6, 7, 8, 9, 10] [0, 1, 2, 3, 4, 5, 6, 7, 8, 9] ?_
     refine TE (fun _ h => h.pick [1, 2, 3, 4, 5, 6, 7, 8, 9, 10]) ?_
     refine MR 0 ?_ (hz := by rw [agF_size]; kernel_rfl) (hs := by first | (rw [agF_size, agF_size]; rfl) | rfl) (h1 := by exact (agF_one ⟨rfl, rfl, rfl, rfl, trivial⟩))
     refine TNp [1, 2, 3, 4, 5, 6, 7, 8, 9, 10] [0, 1, 2, 3, 4, 5, 6, 7, 8, 9] ?_
     refine TZ (fun _ h => h.pick [1, 2, 3, 4, 5, 6, 7, 8, 9, 10]) fun W hS => ?_
     exact ⟨p11_14, vv13, rfl, hS.pick [0, 1, 2, 4, 10, 9, 8, 3, 5, 6, 7]⟩
    ·
     skip
     refine MN (z := agF [.c (.slice none 0 0), .c (.bool false), .a 32 0, .a 32 0, .c (.int .i64 0), .a 32 0, .a 64 0, .a 32 0, .c (.slice none 0 0)]) (t := 79) ?_
     intro p11_15
     refine TNp [1, 2, 3, 4, 5, 6, 7, 8, 9] [0, 1, 2, 3, 4, 5, 6, 7, 8] ?_
     refine TE (fun _ h => h.pick [1, 2, 3, 4, 5, 6, 7, 8, 9]) ?_
     refine ME (V := fun vv => .agg (foF f vv (.slice Ap f.ss.length cp))) (fun W hS => ncall hS (found_n HW.out hv1 W (hR.ext hS.ext)) (fun _ => ⟨rfl, rfl⟩)) ?_
     intro vv16
     refine MFact (fun W hS => sl_cells (hS.ozl (i := 0) rfl)) ?_
     intro hvc16
     refine TNp [0, 2, 3, 4, 5, 6, 7, 8, 9, 10] [1, 2, 3, 4, 5, 6, 7, 8, 9] ?_
     refine TW ?_ (v := .agg (agF [.c (.slice Ap f.ss.length cp), .c (.bool f.th), .a 32 f.a, .a 32 f.x])) (hv := by intro W; kernel_rfl)
     refine TF (v := .agg (agF [.c (.slice Ap f.ss.length cp), .c (.bool f.th), .a 32 f.a, .a 32 f.x, .c (.int .i64 nu), .a 32 sm, .a 64 0, .a 32 sm, .c (.slice Au ss.length cu)])) rfl (fun W hS => run_bld rfl rfl zer_wire_Under plc_wire_Under (fill_c (fill_c (fill_c (fill_c fill_n (l' := [.c (.slice Ap f.ss.length cp), .c (.bool f.th), .a 32 f.a, .a 32 f.x, .c (.int .i64 nu), .a 32 sm, .a 64 0, .a 32 sm, .c (.slice Au ss.length cu)]) (m := [.c (.slice Au ss.length cu)]) (hv := rfl) (hs := agF_setp (off := 195) 8 1) (hp := rfl) (hn := rfl) (hb := by show 195 + 1 ≤ 196; decide)) (l' := [.c (.slice Ap f.ss.length cp), .c (.bool f.th), .a 32 f.a, .a 32 f.x, .c (.int .i64 nu), .a 32 sm, .a 64 0, .a 32 sm, .c (.slice none 0 0)]) (m := [.a 32 sm]) (hv := (agF_a _ _).symm) (hs := agF_setp (off := 163) 7 1) (hp := rfl) (hn := rfl) (hb := by show 163 + 32 ≤ 196; decide)) (l' := [.c (.slice Ap f.ss.length cp), .c (.bool f.th), .a 32 f.a, .a 32 f.x, .c (.int .i64 nu), .a 32 sm, .a 64 0, .a 32 0, .c (.slice none 0 0)]) (m := [.c (.int .i64 nu), .a 32 sm, .a 64 0]) (hv := rfl) (hs := agF_setp (off := 66) 4 3) (hp := rfl) (hn := rfl) (hb := by show 66 + 97 ≤ 196; decide)) (l' := [.c (.slice Ap f.ss.length cp), .c (.bool f.th), .a 32 f.a, .a 32 f.x, .c (.int .i64 0), .a 32 0, .a 64 0, .a 32 0, .c (.slice none 0 0)]) (m := [.c (.slice Ap f.ss.length cp), .c (.bool f.th), .a 32 f.a, .a 32 f.x]) (hv := rfl) (hs := agF_setp (off := 0) 0 4) (hp := rfl) (hn := rfl) (hb := by show 0 + 66 ≤ 196; decide))) ?_
     refine TE (fun _ h => h.pick [0, 2, 3, 4, 5, 6, 7, 8, 9, 10]) ?_
     refine MR 1 ?_ (hz := by rw [agF_size]; kernel_rfl) (hs := by first | (rw [agF_size, agF_size]; rfl) | rfl) (h1 := by exact (agF_one ⟨rfl, rfl, rfl, rfl, trivial⟩))
     refine TNp [0, 2, 3, 4, 5, 6, 7, 8, 9, 10] [0, 1, 2, 3, 4, 5, 6, 7, 8, 9] ?_
     refine TZ (fun _ h => h.pick [0, 2, 3, 4, 5, 6, 7, 8, 9, 10]) fun W hS => ?_
     exact ⟨p11_15, vv16, rfl, hS.pick [1, 0, 2, 4, 10, 9, 8, 3, 5, 6, 7]⟩
   rintro _ W ⟨j11_0, j11_1, rfl, hS⟩
   go_upto_region 12 with fail
   refine RL hS ?_
   clear hS
   refine MV ?_
   refine MV ?_
   refine MW ?_ (v := .slice (some ⟨j11_0, 99, none⟩) 64 64)
   refine MV ?_
   refine MCq 0 (l := sg) (N := 64) (cs := agF [.c (.slice Ap f.ss.length cp), .c (.bool f.th), .a 32 f.a, .a 32 f.x, .c (.int .i64 nu), .a 32 sm, .a 64 0, .a 32 sm, .c (.slice Au ss.length cu)]) (new := agF [.c (.slice Ap f.ss.length cp), .c (.bool f.th), .a 32 f.a, .a 32 f.x, .c (.int .i64 nu), .a 32 sm, .a 64 (le (List.take 64 sg)), .a 32 sm, .c (.slice Au ss.length cu)]) (off := 99) (cpF 6 rfl rfl (by kernel_rfl)) ?_
   refine MZ fun W hS => ?_
   obtain ⟨fw, hfw⟩ : ∃ fw, ((⟨k, er, nu, f, sm, ss, sg, tx, gone⟩ : Tp)).few = fw := ⟨_, rfl⟩
   have HFW := Lib.hid hfw
   clear hfw
   obtain ⟨uS, huS⟩ : ∃ uS, ((⟨k, er, nu, f, sm, ss, sg, tx, gone⟩ : Tp)).unS = uS := ⟨_, rfl⟩
   have huSl : uS.length ≤ 20000 := by rw [← huS]; show (pB f.ss f.th f.a f.x ++ eI nu ++ lb 32 sm ++ tB sg ++ lb 32 sm ++ sB ss).length ≤ _; simp only [List.length_append, eI_len, lb_length, tB_len]; omega
   have HUS := Lib.hid huS
   clear huS
   go_upto_region 13 with fail
   refine RJF (R := fun a_ w_ => ∃ (k13_101_ : Value), ∃ (k13_102_ : Value), ∃ (k13_103_ : Value), ∃ (k13_104_ : Value), ∃ (k13_105_ : Value), ∃ (k13_106_ : Value), ∃ (k13_107_ : Value), ∃ (k13_108_ : Value), ∃ (k13_109_ : Value), ∃ (k13_110_ : Value), ∃ (k13_100_ : Value), a_ = { tmps := List.toArray ((.agg (agF [.c (.int .i64 k), .c (.int .i64 er), .c (.int .i64 nu), .c (.int .i64 d.ep), .c (str d.ix), .c (str d.vr), .c (.bool d.pre), .c (.int .i64 d.ver), .c (str d.val), .c (str d.bo), .c (str d.op), .c sv, .c (.bool d.th), .a 32 d.a, .a 32 d.x, .c (str d.ro), .c (str d.li), .c (str d.ah), .c (.int .i64 d.rd), .a 32 sm, .c (.slice Aq us.length cq), .c tv, .c (.bool gone)])) :: (.pointer (some ⟨p1_1, 0, none⟩)) :: (.pointer (some ⟨p2_2, 0, none⟩)) :: (str []) :: (.bool false) :: (.pointer (some ⟨p5_3, 0, none⟩)) :: (.slice Au ss.length cu) :: v39_8 :: (.pointer (some ⟨p8_9, 0, none⟩)) :: (str ([u8 k.toNat] ++ [u8 er.toNat])) :: (str sg) :: (.pointer (some ⟨j11_0, 0, none⟩)) :: (.bool fw) :: undef :: undef :: undef :: undef :: undef :: undef :: (.pointer (some ⟨p1_1, 3, none⟩)) :: (.agg (agF [.c (.int .i64 d.ep), .c (str d.ix), .c (str d.vr), .c (.bool d.pre), .c (.int .i64 d.ver), .c (str d.val), .c (str d.bo), .c (str d.op), .c sv, .c (.bool d.th), .a 32 d.a, .a 32 d.x, .c (str d.ro), .c (str d.li), .c (str d.ah), .c (.int .i64 d.rd)])) :: (.agg (agF [.c (.int .i64 f.ep), .c (str (lb 32 f.ix)), .c (str (lb 80 f.vr)), .c (.bool f.pre), .c (.int .i64 f.ver), .c (str f.val), .c (str (lb 32 f.bo)), .c (str (lb 32 f.op)), .c (.slice Ap f.ss.length cp), .c (.bool f.th), .a 32 f.a, .a 32 f.x, .c (str (lb 32 f.ro)), .c (str (lb 32 f.li)), .c (str (lb 32 f.ah)), .c (.int .i64 f.rd)])) :: v22_4 :: (.pointer (some ⟨p1_1, 113, none⟩)) :: (.slice Aq us.length cq) :: (.pointer (some ⟨p1_1, 113, none⟩)) :: (.slice Aq us.length cq) :: (.int .i64 (us.length : Int)) :: (.int .i64 ((min us.length 258 : Nat) : Int)) :: u2 :: (.slice Au ss.length cu) :: v31_6 :: (.pointer (some ⟨p1_1, 114, none⟩)) :: tv :: (.pointer (some ⟨p1_1, 114, none⟩)) :: tv :: (.int .i64 (tb.length : Int)) :: (.int .i64 ((min tb.length 100 : Nat) : Int)) :: u38_7 :: v39_8 :: (.pointer (some ⟨p1_1, 0, none⟩)) :: (.int .i64 k) :: (.pointer (some ⟨p1_1, 1, none⟩)) :: (.int .i64 er) :: (.agg (agF (.c (.int .i64 k) :: .c (.int .i64 er) :: .c (.int .i64 0) :: .c (.int .i64 0) :: .a 32 0 :: .a 80 0 :: .c (.bool false) :: .c (.int .i64 0) :: .c (.slice none 0 0) :: .a 32 0 :: .a 32 0 :: .c (.slice none 0 0) :: .c (.bool false) :: .a 32 0 :: .a 32 0 :: .a 32 0 :: .a 32 0 :: .a 32 0 :: .c (.int .i64 0) :: .a 32 0 :: .c (.slice none 0 0) :: .c (.slice none 0 0) :: .c (.bool false) :: .a 32 0 :: .a 32 0 :: .c (.int .i64 0) :: .a 32 0 :: .a 64 0 :: .a 32 0 :: .c (.slice none 0 0) :: .c (.slice none 0 0) :: .c (.slice none 0 0) :: .c (.slice none 0 0) :: .c (.bool false) :: .c (.int .i64 0) :: .a 32 0 :: .c (.slice none 0 0) :: .a 32 0 :: .c (.slice none 0 0) :: []))) :: (.pointer (some ⟨p1_1, 0, none⟩)) :: (.int .i64 k) :: (.bool false) :: (.bool false) :: (.pointer (some ⟨p1_1, 0, none⟩)) :: (.int .i64 k) :: (.bool false) :: (.bool false) :: (.bool false) :: (.pointer (some ⟨p1_1, 1, none⟩)) :: (.int .i64 er) :: (.bool false) :: (.bool false) :: (.bool false) :: (.pointer (some ⟨p1_1, 1, none⟩)) :: (.int .i64 er) :: (.bool false) :: (.bool false) :: undef :: (.pointer (some ⟨p1_1, 0, none⟩)) :: (.int .i64 k) :: (str [u8 k.toNat]) :: (.pointer (some ⟨p1_1, 1, none⟩)) :: (.int .i64 er) :: (str [u8 er.toNat]) :: (str ([u8 k.toNat] ++ [u8 er.toNat])) :: (.pointer (some ⟨p1_1, 1, none⟩)) :: (.int .i64 er) :: (.bool false) :: undef :: undef :: v76_10 :: (.pointer (some ⟨p1_1, 81, none⟩)) :: (.slice (some ⟨p1_1, 81, none⟩) 32 32) :: v79_11 :: (.pointer (some ⟨p1_1, 81, none⟩)) :: (.slice (some ⟨p1_1, 81, none⟩) 32 32) :: v82_12 :: (str sg) :: (.agg (agF [.c (.int .i64 f.ep), .c (str (lb 32 f.ix)), .c (str (lb 80 f.vr)), .c (.bool f.pre), .c (.int .i64 f.ver), .c (str f.val), .c (str (lb 32 f.bo)), .c (str (lb 32 f.op)), .c (.slice Ap f.ss.length cp), .c (.bool f.th), .a 32 f.a, .a 32 f.x, .c (str (lb 32 f.ro)), .c (str (lb 32 f.li)), .c (str (lb 32 f.ah)), .c (.int .i64 f.rd)])) :: (.agg (agF [.c (.int .i64 f.ep), .a 32 f.ix, .a 80 f.vr, .c (.bool f.pre), .c (.int .i64 f.ver), .c j11_1, .a 32 f.bo, .a 32 f.op, .c (.slice Ap f.ss.length cp), .c (.bool f.th), .a 32 f.a, .a 32 f.x, .a 32 f.ro, .a 32 f.li, .a 32 f.ah, .c (.int .i64 f.rd)])) :: (.agg (agF [.c (.slice Ap f.ss.length cp), .c (.bool f.th), .a 32 f.a, .a 32 f.x])) :: (.pointer (some ⟨p1_1, 2, none⟩)) :: (.int .i64 nu) :: (.pointer (some ⟨p1_1, 81, none⟩)) :: (.agg (arrK .u8 32 (byt sm))) :: (.agg (agF [.c (.int .i64 nu), .a 32 sm, .a 64 0])) :: (.pointer (some ⟨p1_1, 81, none⟩)) :: (.agg (arrK .u8 32 (byt sm))) :: (.slice Au ss.length cu) :: (.agg (agF [.c (.slice Ap f.ss.length cp), .c (.bool f.th), .a 32 f.a, .a 32 f.x, .c (.int .i64 nu), .a 32 sm, .a 64 0, .a 32 sm, .c (.slice Au ss.length cu)])) :: (.pointer (some ⟨j11_0, 66, none⟩)) :: (.pointer (some ⟨j11_0, 99, none⟩)) :: (.slice (some ⟨j11_0, 99, none⟩) 64 64) :: (str sg) :: k13_100_ :: k13_101_ :: k13_102_ :: k13_103_ :: k13_104_ :: k13_105_ :: k13_106_ :: k13_107_ :: k13_108_ :: k13_109_ :: k13_110_ :: undef :: undef :: undef :: undef :: undef :: undef :: undef :: undef :: undef :: undef :: undef :: undef :: undef :: undef :: undef :: undef :: undef :: undef :: undef :: undef :: undef :: undef :: undef :: undef :: undef :: undef :: undef :: undef :: undef :: undef :: undef :: undef :: undef :: undef :: undef :: undef :: undef :: undef :: undef :: undef :: undef :: undef :: undef :: undef :: undef :: undef :: undef :: undef :: undef :: undef :: undef :: undef :: undef :: undef :: undef :: undef :: undef :: undef :: undef :: undef :: undef :: undef :: undef :: undef :: undef :: undef :: undef :: undef :: undef :: undef :: undef :: undef :: undef :: undef :: undef :: undef :: undef :: undef :: undef :: undef :: undef :: undef :: undef :: undef :: undef :: undef :: undef :: undef :: undef :: undef :: undef :: undef :: undef :: undef :: undef :: undef :: undef :: undef :: undef :: undef :: undef :: undef :: undef :: undef :: undef :: undef :: undef :: undef :: undef :: undef :: undef :: undef :: undef :: undef :: undef :: undef :: undef :: undef :: undef :: undef :: undef :: undef :: undef :: undef :: undef :: undef :: undef :: undef :: undef :: undef :: undef :: undef :: undef :: undef :: undef :: undef :: undef :: undef :: undef :: undef :: undef :: undef :: undef :: undef :: undef :: undef :: undef :: undef :: undef :: undef :: undef :: undef :: undef :: undef :: undef :: undef :: undef :: undef :: undef :: undef :: undef :: undef :: undef :: undef :: undef :: undef :: undef :: undef :: undef :: undef :: undef :: undef :: undef :: undef :: undef :: undef :: undef :: undef :: undef :: undef :: undef :: undef :: undef :: undef :: undef :: undef :: undef :: undef :: undef :: undef :: undef :: undef :: undef :: undef :: undef :: undef :: undef :: undef :: undef :: undef :: undef :: undef :: undef :: undef :: undef :: undef :: undef :: undef :: undef :: undef :: undef :: undef :: undef :: undef :: undef :: undef :: undef :: undef :: undef :: undef :: undef :: undef :: undef :: undef :: undef :: undef :: undef :: undef :: undef :: []), defers := [] } ∧ SH [] w w_ [.b j11_0 (agF [.c (.slice Ap f.ss.length cp), .c (.bool f.th), .a 32 f.a, .a 32 f.x, .c (.int .i64 nu), .a 32 sm, .a 64 (le (List.take 64 sg)), .a 32 sm, .c (.slice Au ss.length cu)]) 79, .w j11_1 f.val, .o v82_12 sg, .s u38_7 tx, .b p1_1 (agF [.c (.int .i64 k), .c (.int .i64 er), .c (.int .i64 nu), .c (.int .i64 d.ep), .c (str d.ix), .c (str d.vr), .c (.bool d.pre), .c (.int .i64 d.ver), .c (str d.val), .c (str d.bo), .c (str d.op), .c sv, .c (.bool d.th), .a 32 d.a, .a 32 d.x, .c (str d.ro), .c (str d.li), .c (str d.ah), .c (.int .i64 d.rd), .a 32 sm, .c (.slice Aq us.length cq), .c tv, .c (.bool gone)]) 74, .b p2_2 (agF (.c (.int .i64 0) :: .c (.int .i64 0) :: .c (.int .i64 0) :: .c (.int .i64 0) :: .a 32 0 :: .a 80 0 :: .c (.bool false) :: .c (.int .i64 0) :: .c (.slice none 0 0) :: .a 32 0 :: .a 32 0 :: .c (.slice none 0 0) :: .c (.bool false) :: .a 32 0 :: .a 32 0 :: .a 32 0 :: .a 32 0 :: .a 32 0 :: .c (.int .i64 0) :: .a 32 0 :: .c (.slice none 0 0) :: .c (.slice none 0 0) :: .c (.bool false) :: .a 32 0 :: .a 32 0 :: .c (.int .i64 0) :: .a 32 0 :: .a 64 0 :: .a 32 0 :: .c (.slice none 0 0) :: .c (.slice none 0 0) :: .c (.slice none 0 0) :: .c (.slice none 0 0) :: .c (.bool false) :: .c (.int .i64 0) :: .a 32 0 :: .c (.slice none 0 0) :: .a 32 0 :: .c (.slice none 0 0) :: [])) 85, .b p5_3 (agF [.c (.int .i64 f.ep), .c (str (lb 32 f.ix)), .c (str (lb 80 f.vr)), .c (.bool f.pre), .c (.int .i64 f.ver), .c (str f.val), .c (str (lb 32 f.bo)), .c (str (lb 32 f.op)), .c (.slice Ap f.ss.length cp), .c (.bool f.th), .a 32 f.a, .a 32 f.x, .c (str (lb 32 f.ro)), .c (str (lb 32 f.li)), .c (str (lb 32 f.ah)), .c (.int .i64 f.rd)]) 54, .b p8_9 (agF (.c (.int .i64 k) :: .c (.int .i64 er) :: .c (.int .i64 0) :: .c (.int .i64 0) :: .a 32 0 :: .a 80 0 :: .c (.bool false) :: .c (.int .i64 0) :: .c (.slice none 0 0) :: .a 32 0 :: .a 32 0 :: .c (.slice none 0 0) :: .c (.bool false) :: .a 32 0 :: .a 32 0 :: .a 32 0 :: .a 32 0 :: .a 32 0 :: .c (.int .i64 0) :: .a 32 0 :: .c (.slice none 0 0) :: .c (.slice none 0 0) :: .c (.bool false) :: .a 32 0 :: .a 32 0 :: .c (.int .i64 0) :: .a 32 0 :: .a 64 0 :: .a 32 0 :: .c (.slice none 0 0) :: .c (.slice none 0 0) :: .c (.slice none 0 0) :: .c (.slice none 0 0) :: .c (.bool false) :: .c (.int .i64 0) :: .a 32 0 :: .c (.slice none 0 0) :: .a 32 0 :: .c (.slice none 0 0) :: [])) 85, .s tv tb, .o v39_8 tx, .r 27 32 (.slice Au ss.length cu) (List.map b32l ss)]) ?_ ?_
   ·
    skip
    rcases few_or ss.length f.ss.length with few | few | few
    ·
     skip
     obtain rfl : fw = true := by rw [← HFW.out]; unfold Tp.few; dsimp only; simp [few]
     refine RL hS ?_
     clear hS
     refine MV ?_
     refine MV ?_
     refine MW ?_ (v := .bool true) (hv := by intro W; go_simp; first | done | omega)
     refine MW ?_ (v := .bool true)
     refine MV ?_
     refine MV ?_
     refine MG 6 ?_ (v := .slice Ap f.ss.length cp) (hj := (agF_cel (off := 8) 8))
     refine MV ?_
     refine MW ?_ (v := .bool true) (hv := by intro W; go_simp; first | done | omega)
     refine MW ?_ (v := .bool true)
     refine MW ?_ (v := .bool true)
     refine MZ fun W hS => ?_
     exact ⟨_, _, _, _, _, _, _, _, _, _, _, rfl, hS⟩
    ·
     skip
     obtain rfl : fw = false := by rw [← HFW.out]; unfold Tp.few; dsimp only; simp [few]
     refine RL hS ?_
     clear hS
     refine MV ?_
     refine MV ?_
     refine MW ?_ (v := .bool true) (hv := by intro W; go_simp; first | done | omega)
     refine MW ?_ (v := .bool true)
     refine MV ?_
     refine MV ?_
     refine MG 6 ?_ (v := .slice Ap f.ss.length cp) (hj := (agF_cel (off := 8) 8))
     refine MV ?_
     refine MW ?_ (v := .bool false) (hv := by intro W; go_simp; first | done | omega)
     refine MW ?_ (v := .bool false)
     refine MW ?_ (v := .bool false)
     refine MZ fun W hS => ?_
     exact ⟨_, _, _, _, _, _, _, _, _, _, _, rfl, hS⟩
    ·
     skip
     obtain rfl : fw = false := by rw [← HFW.out]; unfold Tp.few; dsimp only; simp [few]
     refine RL hS ?_
     clear hS
     refine MV ?_
     refine MV ?_
     refine MW ?_ (v := .bool false) (hv := by intro W; go_simp; first | done | omega)
     refine MW ?_ (v := .bool false)
     refine MS ?_
     refine MS ?_
     refine MS ?_
     refine MS ?_
     refine MS ?_
     refine MW ?_ (v := .bool false)
     refine MW ?_ (v := .bool false)
     refine MZ fun W hS => ?_
     exact ⟨_, _, _, _, _, _, _, _, _, _, _, rfl, hS⟩
   rintro _ W ⟨k13_101_, k13_102_, k13_103_, k13_104_, k13_105_, k13_106_, k13_107_, k13_108_, k13_109_, k13_110_, k13_100_, rfl, hS⟩
   go_upto_region 14 with fail
   refine RTh (.q 0 (.q 1 (.q 3 (.q 4 (.q 7 (.q 8 (.q 9 (.q 11 (.q 14 (.q 15 (.q 16 (.q 18 (.e 2 (.e 5 (.q 6 (.q 10 (.e 12 (.q 13 (.q 17 (.e 19 (.q 20 (.q 21 .z)))))))))))))))))))))) hS ?_
   clear hS
   refine TV ?_
   refine Tk 6 ?_ (sub := agF [.c (.slice Ap f.ss.length cp), .c (.bool f.th), .a 32 f.a, .a 32 f.x]) (hs := (agF_part (off := 8) 8 4))
   refine TV ?_
   refine TG 4 ?_ (v := .int .i64 nu) (hj := (agF_cel (off := 2) 2))
   refine TV ?_
   refine TW ?_ (v := .slice (some ⟨p1_1, 81, none⟩) 32 32)
   refine TF (v := str (lb 32 sm)) rfl (fun W hS => run_cvs (sl_part (V := sm) (n := 32) (off := 81) (c := 32) (hS.blk (i := 4) rfl) (agF_arr (off := 81) 19) (by decide) (by decide)) rfl rfl) ?_
   refine TV ?_
   refine TV ?_
   refine TW ?_ (v := .slice (some ⟨p1_1, 81, none⟩) 32 32)
   refine TF (v := str (lb 32 sm)) rfl (fun W hS => run_cvs (sl_part (V := sm) (n := 32) (off := 81) (c := 32) (hS.blk (i := 4) rfl) (agF_arr (off := 81) 19) (by decide) (by decide)) rfl rfl) ?_
   refine TV ?_
   refine TE (fun _ h => h) ?_
   refine MC (v := str (pB f.ss f.th f.a f.x)) (fun W hS => rpbytes_A (ss := f.ss) (th := f.th) (a := f.a) (x := f.x) (by omega) W (hR.ext hS.ext)) ?_
   refine TNh (fun W hS => hS) ?_
   refine TE (fun _ h => h) ?_
   refine MC (v := str (eI nu)) (fun W hS => eight_i nu W) ?_
   refine TNh (fun W hS => hS) ?_
   refine TW ?_ (v := str ((pB f.ss f.th f.a f.x) ++ (eI nu))) (hv := fun _ => run_cat (l := (pB f.ss f.th f.a f.x)) (m := (eI nu)) rfl rfl rfl (by first | omega | decide | (rw [List.length_map]; omega) | (simp only [List.length_nil, List.length_map]; omega) | (simp only [List.length_append, List.length_cons, List.length_nil, lb_length, eI_len, tB_len, sB_len]; omega)))
   refine TW ?_ (v := str (((pB f.ss f.th f.a f.x) ++ (eI nu)) ++ (lb 32 sm))) (hv := fun _ => run_cat (l := ((pB f.ss f.th f.a f.x) ++ (eI nu))) (m := (lb 32 sm)) rfl rfl rfl (by first | omega | decide | (rw [List.length_map]; omega) | (simp only [List.length_nil, List.length_map]; omega) | (simp only [List.length_append, List.length_cons, List.length_nil, lb_length, eI_len, tB_len, sB_len]; omega)))
   refine TE (fun _ h => h) ?_
   refine MC (v := str (tB sg)) (fun W hS => tx_i sg (by omega) W) ?_
   refine TNh (fun W hS => hS) ?_
   refine TW ?_ (v := str ((((pB f.ss f.th f.a f.x) ++ (eI nu)) ++ (lb 32 sm)) ++ (tB sg))) (hv := fun _ => run_cat (l := (((pB f.ss f.th f.a f.x) ++ (eI nu)) ++ (lb 32 sm))) (m := (tB sg)) rfl rfl rfl (by first | omega | decide | (rw [List.length_map]; omega) | (simp only [List.length_nil, List.length_map]; omega) | (simp only [List.length_append, List.length_cons, List.length_nil, lb_length, eI_len, tB_len, sB_len]; omega)))
   refine TW ?_ (v := str (((((pB f.ss f.th f.a f.x) ++ (eI nu)) ++ (lb 32 sm)) ++ (tB sg)) ++ (lb 32 sm))) (hv := fun _ => run_cat (l := ((((pB f.ss f.th f.a f.x) ++ (eI nu)) ++ (lb 32 sm)) ++ (tB sg))) (m := (lb 32 sm)) rfl rfl rfl (by first | omega | decide | (rw [List.length_map]; omega) | (simp only [List.length_nil, List.length_map]; omega) | (simp only [List.length_append, List.length_cons, List.length_nil, lb_length, eI_len, tB_len, sB_len]; omega)))
   refine TE (fun _ h => h) ?_
   refine MC (v := str (sB ss)) (fun W hS => dsums_c (ss := ss) (by omega) W (hS.row (i := 10) rfl).rr) ?_
   refine TNh (fun W hS => hS) ?_
   refine TW ?_ (v := str uS) (hv := by intro W; rw [← HUS.out]; exact run_cat (l := pB f.ss f.th f.a f.x ++ eI nu ++ lb 32 sm ++ tB sg ++ lb 32 sm) (m := sB ss) rfl rfl rfl (by first | omega | decide | (rw [List.length_map]; omega) | (simp only [List.length_nil, List.length_map]; omega) | (simp only [List.length_append, List.length_cons, List.length_nil, lb_length, eI_len, tB_len, sB_len]; omega)))
   refine TV ?_
   refine TZ (fun _ h => h) fun W hS => ?_
   go_upto_region 15 with fail
   refine RL hS ?_
   clear hS
   refine MV ?_
   refine MG 4 ?_ (v := .int .i64 k) (hj := (agF_cel (off := 0) 0))
   refine MZ fun W hS => ?_
   rcases kind_or k with hk | hk | hk | hk | hk | hk | hk | hk | hk
   ·
    have _f := True.intro
    have Hk : RowKit.Hid (noK k) := Lib.hid hk
    obtain ⟨k1, k2, k3, k4, k5, k6, k7, k8⟩ := hk
    go_upto_region 16 with fail
    refine RL hS ?_
    clear hS
    refine MW ?_ (v := .bool false) (hv := by intro W; go_simp; first | done | omega | decide)
    refine MW ?_ (v := .bool false)
    refine MZ fun W hS => ?_
    go_upto_region 17 with fail
    refine RL hS ?_
    clear hS
    refine MW ?_ (v := .bool false) (hv := by intro W; go_simp; first | done | omega | decide)
    refine MW ?_ (v := .bool false)
    refine MZ fun W hS => ?_
    go_upto_region 20 with fail
    refine RL hS ?_
    clear hS
    refine MW ?_ (v := .bool false) (hv := by intro W; go_simp; first | done | omega | decide)
    refine MW ?_ (v := .bool false)
    refine MZ fun W hS => ?_
    go_upto_region 24 with fail
    refine RL hS ?_
    clear hS
    refine MW ?_ (v := .bool false) (hv := by intro W; go_simp; first | done | omega | decide)
    refine MW ?_ (v := .bool false)
    refine MZ fun W hS => ?_
    go_upto_region 32 with fail
    refine RL hS ?_
    clear hS
    refine MW ?_ (v := .bool false) (hv := by intro W; go_simp; first | done | omega | decide)
    refine MW ?_ (v := .bool false)
    refine MZ fun W hS => ?_
    go_upto_region 40 with fail
    refine RL hS ?_
    clear hS
    refine MW ?_ (v := .bool false) (hv := by intro W; go_simp; first | done | omega | decide)
    refine MW ?_ (v := .bool false)
    refine MZ fun W hS => ?_
    go_upto_region 43 with fail
    refine RL hS ?_
    clear hS
    refine MW ?_ (v := .bool false) (hv := by intro W; go_simp; first | done | omega | decide)
    refine MW ?_ (v := .bool false)
    refine MZ fun W hS => ?_
    go_upto_region 50 with fail
    refine RL hS ?_
    clear hS
    refine MW ?_ (v := .bool false) (hv := by intro W; go_simp; first | done | omega | decide)
    refine MW ?_ (v := .bool false)
    refine MZ fun W hS => ?_
    go_upto_region 53 with fail
    refine RL hS ?_
    clear hS
    refine ML 7 ?_ (hs := by rw [agF_size]; kernel_rfl)
    refine MV ?_
    refine MR 5 ?_ (hz := by rw [agF_size]; kernel_rfl) (hs := by first | (rw [agF_size, agF_size]; rfl) | rfl) (h1 := by exact (agF_one ⟨rfl, rfl, rfl, rfl, rfl, rfl, rfl, rfl, rfl, rfl, rfl, rfl, rfl, rfl, rfl, rfl, rfl, rfl, rfl, rfl, rfl, rfl, trivial⟩))
    refine MV ?_
    refine MW ?_ (v := .bool true)
    refine MZ fun W hS => ?_
    have hE := hS
    obtain ⟨ea, es, eo⟩ := tq (t2_ok (t := (⟨k, er, nu, f, sm, ss, sg, tx, gone⟩ : Tp)) (x := v39_8) Hok.out He.out) (tp_o Hk.out)
    dsimp only at ea es eo
    have hT : SH [] w W ([] ++ []) := hE.pick []
    have hA : AnR (((⟨k, er, nu, f, sm, ss, sg, tx, gone⟩ : Tp)).A2 v39_8) ⟨nS, nS, nS, nS, nS, nS, nS, nS, nS, nS⟩ W := by rw [ea]; exact ⟨sl_nil W, rr_nil 32 W, rr_nil 32 W, rr_nil 32 W, rr_nil 32 W, enR_nil W, rr_nil 65 W, sl_nil W, sl_nil W, rr_nil 32 W⟩
    have hI : InN [] (anFt (((⟨k, er, nu, f, sm, ss, sg, tx, gone⟩ : Tp)).A2 v39_8) ⟨nS, nS, nS, nS, nS, nS, nS, nS, nS, nS⟩) := by rw [ea]; exact inN_an (inN_nil) (inN_nil) (inN_nil) (inN_nil) (inN_nil) (inN_nil) (inN_nil) (inN_nil) (inN_nil) (inN_nil)
    have hZ := SH.fold hT (anT_holds hA) hI
    have hQ := SH.foldo (G := (fbR (.slice Ap f.ss.length cp) (f.ss.map b32l))) hT hI (fr0 rfl)
    have Ea := Lib.hid ea
    have Es := Lib.hid es
    have Eo := Lib.hid eo
    clear ea es eo
    go_wp2
    refine bodyPost_ret (res_c3 rfl rfl rfl rfl (hS.blk (i := 5) rfl) (by kernel_rfl) (by rw [agF_size]; kernel_rfl)) rfl ?_
    have ea := Ea.out
    have es := Es.out
    have eo := Eo.out
    refine ⟨v39_8, ⟨nS, nS, nS, nS, nS, nS, nS, nS, nS, nS⟩, ?_, hZ, hQ⟩
    rw [ea, es, eo]
    refine tup3 rfl ?_ ?_
    ·
     first | rfl | (go_simp; done) | (simp only [List.append_assoc, List.cons_append, List.nil_append]; rfl) | (go_simp; simp only [List.append_assoc, List.cons_append, List.nil_append])
    ·
     first | rfl | (go_simp; done) | (simp []; done)
   ·
    have _f := True.intro
    have Hk := Lib.hid hk
    have hk1 : k ≤ 1 := by omega
    have hk2 : 1 ≤ k := by omega
    clear hk
    go_upto_region 16 with fail
    refine RL hS ?_
    clear hS
    refine MW ?_ (v := .bool true) (hv := by intro W; go_simp; first | done | omega | decide)
    refine MW ?_ (v := .bool true)
    refine MZ fun W hS => ?_
    go_upto_region 18 with fail
    refine RL hS ?_
    clear hS
    refine MV ?_
    refine MG 4 ?_ (v := .int .i64 nu) (hj := (agF_cel (off := 2) 2))
    refine MV ?_
    refine MP 7 (v := .int .i64 nu) (cs' := agF (.c (.int .i64 k) :: .c (.int .i64 er) :: .c (.int .i64 nu) :: .c (.int .i64 0) :: .a 32 0 :: .a 80 0 :: .c (.bool false) :: .c (.int .i64 0) :: .c (.slice none 0 0) :: .a 32 0 :: .a 32 0 :: .c (.slice none 0 0) :: .c (.bool false) :: .a 32 0 :: .a 32 0 :: .a 32 0 :: .a 32 0 :: .a 32 0 :: .c (.int .i64 0) :: .a 32 0 :: .c (.slice none 0 0) :: .c (.slice none 0 0) :: .c (.bool false) :: .a 32 0 :: .a 32 0 :: .c (.int .i64 0) :: .a 32 0 :: .a 64 0 :: .a 32 0 :: .c (.slice none 0 0) :: .c (.slice none 0 0) :: .c (.slice none 0 0) :: .c (.slice none 0 0) :: .c (.bool false) :: .c (.int .i64 0) :: .a 32 0 :: .c (.slice none 0 0) :: .a 32 0 :: .c (.slice none 0 0) :: [])) ?_ (hs := by rw [agF_size]; exact Nat.le_of_ble_eq_true (by kernel_rfl)) (hc := agF_setc (off := 2) 2)
    refine MZ fun W hS => ?_
    go_upto_region 19 with fail
    refine RTp [0, 1, 2, 3, 4, 6, 7, 8, 9, 10] (.q 0 (.q 1 (.q 2 (.q 3 (.e 4 (.q 5 (.e 6 (.q 7 (.q 8 .z))))))))) hS ?_
    clear hS
    refine TL 6 ?_ (hs := by rw [agF_size]; kernel_rfl)
    refine TV ?_
    refine TV ?_
    refine TG 4 ?_ (v := .int .i64 nu) (hj := (agF_cel (off := 2) 2))
    refine TE (fun _ h => h.pick [0, 1, 2, 3, 4, 6, 7, 8, 9, 10]) ?_
    refine MC (v := str (eI nu)) (fun W hS => eight_i nu W) ?_
    refine TNp [0, 1, 2, 3, 4, 6, 7, 8, 9, 10] [0, 1, 2, 3, 4, 5, 6, 7, 8, 9] ?_
    refine TW ?_ (v := str (([u8 k.toNat] ++ [u8 er.toNat]) ++ (eI nu))) (hv := fun _ => run_cat (l := ([u8 k.toNat] ++ [u8 er.toNat])) (m := (eI nu)) rfl rfl rfl (by first | omega | decide | (rw [List.length_map]; omega) | (simp only [List.length_nil, List.length_map]; omega) | (simp only [List.length_append, List.length_cons, List.length_nil, lb_length, eI_len, tB_len, sB_len]; omega)))
    refine TE (fun _ h => h.pick [0, 1, 2, 3, 4, 6, 7, 8, 9, 10]) ?_
    refine MR 5 ?_ (hz := by rw [agF_size]; kernel_rfl) (hs := by first | (rw [agF_size, agF_size]; rfl) | rfl) (h1 := by exact (agF_one ⟨rfl, rfl, rfl, rfl, rfl, rfl, rfl, rfl, rfl, rfl, rfl, rfl, rfl, rfl, rfl, rfl, rfl, rfl, rfl, rfl, rfl, rfl, trivial⟩))
    refine TNp [0, 1, 2, 3, 4, 6, 7, 8, 9, 10] [0, 1, 2, 3, 4, 5, 6, 7, 8, 9] ?_
    refine TV ?_
    refine TW ?_ (v := .bool true)
    refine TZ (fun _ h => h.pick [0, 1, 2, 3, 4, 6, 7, 8, 9, 10]) fun W hS => ?_
    have hE := hS
    obtain ⟨ea, es, eo⟩ := tq (t2_ok (t := (⟨k, er, nu, f, sm, ss, sg, tx, gone⟩ : Tp)) (x := v39_8) Hok.out He.out) (tp_1 Hk.out)
    dsimp only at ea es eo
    have hT : SH [] w W ([] ++ []) := hE.pick []
    have hA : AnR (((⟨k, er, nu, f, sm, ss, sg, tx, gone⟩ : Tp)).A2 v39_8) ⟨nS, nS, nS, nS, nS, nS, nS, nS, nS, nS⟩ W := by rw [ea]; exact ⟨sl_nil W, rr_nil 32 W, rr_nil 32 W, rr_nil 32 W, rr_nil 32 W, enR_nil W, rr_nil 65 W, sl_nil W, sl_nil W, rr_nil 32 W⟩
    have hI : InN [] (anFt (((⟨k, er, nu, f, sm, ss, sg, tx, gone⟩ : Tp)).A2 v39_8) ⟨nS, nS, nS, nS, nS, nS, nS, nS, nS, nS⟩) := by rw [ea]; exact inN_an (inN_nil) (inN_nil) (inN_nil) (inN_nil) (inN_nil) (inN_nil) (inN_nil) (inN_nil) (inN_nil) (inN_nil)
    have hZ := SH.fold hT (anT_holds hA) hI
    have hQ := SH.foldo (G := (fbR (.slice Ap f.ss.length cp) (f.ss.map b32l))) hT hI (fr0 rfl)
    have Ea := Lib.hid ea
    have Es := Lib.hid es
    have Eo := Lib.hid eo
    clear ea es eo
    go_wp2
    refine bodyPost_ret (res_c3 rfl rfl rfl rfl (hS.blk (i := 5) rfl) (by kernel_rfl) (by rw [agF_size]; kernel_rfl)) rfl ?_
    have ea := Ea.out
    have es := Es.out
    have eo := Eo.out
    refine ⟨v39_8, ⟨nS, nS, nS, nS, nS, nS, nS, nS, nS, nS⟩, ?_, hZ, hQ⟩
    rw [ea, es, eo]
    refine tup3 rfl ?_ ?_
    ·
     first | rfl | (go_simp; done) | (simp only [List.append_assoc, List.cons_append, List.nil_append]; rfl) | (go_simp; simp only [List.append_assoc, List.cons_append, List.nil_append])
    ·
     first | rfl | (go_simp; done) | (simp []; done)
   ·
    have _f := True.intro
    have Hk := Lib.hid hk
    have hk1 : k ≤ 10 := by omega
    have hk2 : 10 ≤ k := by omega
    clear hk
    go_upto_region 16 with fail
    refine RL hS ?_
    clear hS
    refine MW ?_ (v := .bool false) (hv := by intro W; go_simp; first | done | omega | decide)
    refine MW ?_ (v := .bool false)
    refine MZ fun W hS => ?_
    go_upto_region 17 with fail
    refine RL hS ?_
    clear hS
    refine MW ?_ (v := .bool true) (hv := by intro W; go_simp; first | done | omega | decide)
    refine MW ?_ (v := .bool true)
    refine MZ fun W hS => ?_
    go_upto_region 18 with fail
    refine RL hS ?_
    clear hS
    refine MV ?_
    refine MG 4 ?_ (v := .int .i64 nu) (hj := (agF_cel (off := 2) 2))
    refine MV ?_
    refine MP 7 (v := .int .i64 nu) (cs' := agF (.c (.int .i64 k) :: .c (.int .i64 er) :: .c (.int .i64 nu) :: .c (.int .i64 0) :: .a 32 0 :: .a 80 0 :: .c (.bool false) :: .c (.int .i64 0) :: .c (.slice none 0 0) :: .a 32 0 :: .a 32 0 :: .c (.slice none 0 0) :: .c (.bool false) :: .a 32 0 :: .a 32 0 :: .a 32 0 :: .a 32 0 :: .a 32 0 :: .c (.int .i64 0) :: .a 32 0 :: .c (.slice none 0 0) :: .c (.slice none 0 0) :: .c (.bool false) :: .a 32 0 :: .a 32 0 :: .c (.int .i64 0) :: .a 32 0 :: .a 64 0 :: .a 32 0 :: .c (.slice none 0 0) :: .c (.slice none 0 0) :: .c (.slice none 0 0) :: .c (.slice none 0 0) :: .c (.bool false) :: .c (.int .i64 0) :: .a 32 0 :: .c (.slice none 0 0) :: .a 32 0 :: .c (.slice none 0 0) :: [])) ?_ (hs := by rw [agF_size]; exact Nat.le_of_ble_eq_true (by kernel_rfl)) (hc := agF_setc (off := 2) 2)
    refine MZ fun W hS => ?_
    go_upto_region 19 with fail
    refine RTp [0, 1, 2, 3, 4, 6, 7, 8, 9, 10] (.q 0 (.q 1 (.q 2 (.q 3 (.e 4 (.q 5 (.e 6 (.q 7 (.q 8 .z))))))))) hS ?_
    clear hS
    refine TL 6 ?_ (hs := by rw [agF_size]; kernel_rfl)
    refine TV ?_
    refine TV ?_
    refine TG 4 ?_ (v := .int .i64 nu) (hj := (agF_cel (off := 2) 2))
    refine TE (fun _ h => h.pick [0, 1, 2, 3, 4, 6, 7, 8, 9, 10]) ?_
    refine MC (v := str (eI nu)) (fun W hS => eight_i nu W) ?_
    refine TNp [0, 1, 2, 3, 4, 6, 7, 8, 9, 10] [0, 1, 2, 3, 4, 5, 6, 7, 8, 9] ?_
    refine TW ?_ (v := str (([u8 k.toNat] ++ [u8 er.toNat]) ++ (eI nu))) (hv := fun _ => run_cat (l := ([u8 k.toNat] ++ [u8 er.toNat])) (m := (eI nu)) rfl rfl rfl (by first | omega | decide | (rw [List.length_map]; omega) | (simp only [List.length_nil, List.length_map]; omega) | (simp only [List.length_append, List.length_cons, List.length_nil, lb_length, eI_len, tB_len, sB_len]; omega)))
    refine TE (fun _ h => h.pick [0, 1, 2, 3, 4, 6, 7, 8, 9, 10]) ?_
    refine MR 5 ?_ (hz := by rw [agF_size]; kernel_rfl) (hs := by first | (rw [agF_size, agF_size]; rfl) | rfl) (h1 := by exact (agF_one ⟨rfl, rfl, rfl, rfl, rfl, rfl, rfl, rfl, rfl, rfl, rfl, rfl, rfl, rfl, rfl, rfl, rfl, rfl, rfl, rfl, rfl, rfl, trivial⟩))
    refine TNp [0, 1, 2, 3, 4, 6, 7, 8, 9, 10] [0, 1, 2, 3, 4, 5, 6, 7, 8, 9] ?_
    refine TV ?_
    refine TW ?_ (v := .bool true)
    refine TZ (fun _ h => h.pick [0, 1, 2, 3, 4, 6, 7, 8, 9, 10]) fun W hS => ?_
    have hE := hS
    obtain ⟨ea, es, eo⟩ := tq (t2_ok (t := (⟨k, er, nu, f, sm, ss, sg, tx, gone⟩ : Tp)) (x := v39_8) Hok.out He.out) (tp_10 Hk.out)
    dsimp only at ea es eo
    have hT : SH [] w W ([] ++ []) := hE.pick []
    have hA : AnR (((⟨k, er, nu, f, sm, ss, sg, tx, gone⟩ : Tp)).A2 v39_8) ⟨nS, nS, nS, nS, nS, nS, nS, nS, nS, nS⟩ W := by rw [ea]; exact ⟨sl_nil W, rr_nil 32 W, rr_nil 32 W, rr_nil 32 W, rr_nil 32 W, enR_nil W, rr_nil 65 W, sl_nil W, sl_nil W, rr_nil 32 W⟩
    have hI : InN [] (anFt (((⟨k, er, nu, f, sm, ss, sg, tx, gone⟩ : Tp)).A2 v39_8) ⟨nS, nS, nS, nS, nS, nS, nS, nS, nS, nS⟩) := by rw [ea]; exact inN_an (inN_nil) (inN_nil) (inN_nil) (inN_nil) (inN_nil) (inN_nil) (inN_nil) (inN_nil) (inN_nil) (inN_nil)
    have hZ := SH.fold hT (anT_holds hA) hI
    have hQ := SH.foldo (G := (fbR (.slice Ap f.ss.length cp) (f.ss.map b32l))) hT hI (fr0 rfl)
    have Ea := Lib.hid ea
    have Es := Lib.hid es
    have Eo := Lib.hid eo
    clear ea es eo
    go_wp2
    refine bodyPost_ret (res_c3 rfl rfl rfl rfl (hS.blk (i := 5) rfl) (by kernel_rfl) (by rw [agF_size]; kernel_rfl)) rfl ?_
    have ea := Ea.out
    have es := Es.out
    have eo := Eo.out
    refine ⟨v39_8, ⟨nS, nS, nS, nS, nS, nS, nS, nS, nS, nS⟩, ?_, hZ, hQ⟩
    rw [ea, es, eo]
    refine tup3 rfl ?_ ?_
    ·
     first | rfl | (go_simp; done) | (simp only [List.append_assoc, List.cons_append, List.nil_append]; rfl) | (go_simp; simp only [List.append_assoc, List.cons_append, List.nil_append])
    ·
     first | rfl | (go_simp; done) | (simp []; done)
   ·
    have _f := True.intro
    have Hk := Lib.hid hk
    have hk1 : k ≤ 9 := by omega
    have hk2 : 9 ≤ k := by omega
    clear hk
    go_upto_region 16 with fail
    refine RL hS ?_
    clear hS
    refine MW ?_ (v := .bool false) (hv := by intro W; go_simp; first | done | omega | decide)
    refine MW ?_ (v := .bool false)
    refine MZ fun W hS => ?_
    go_upto_region 17 with fail
    refine RL hS ?_
    clear hS
    refine MW ?_ (v := .bool false) (hv := by intro W; go_simp; first | done | omega | decide)
    refine MW ?_ (v := .bool false)
    refine MZ fun W hS => ?_
    go_upto_region 20 with fail
    refine RL hS ?_
    clear hS
    refine MW ?_ (v := .bool false) (hv := by intro W; go_simp; first | done | omega | decide)
    refine MW ?_ (v := .bool false)
    refine MZ fun W hS => ?_
    go_upto_region 24 with fail
    refine RL hS ?_
    clear hS
    refine MW ?_ (v := .bool false) (hv := by intro W; go_simp; first | done | omega | decide)
    refine MW ?_ (v := .bool false)
    refine MZ fun W hS => ?_
    go_upto_region 32 with fail
    refine RL hS ?_
    clear hS
    refine MW ?_ (v := .bool false) (hv := by intro W; go_simp; first | done | omega | decide)
    refine MW ?_ (v := .bool false)
    refine MZ fun W hS => ?_
    go_upto_region 40 with fail
    refine RL hS ?_
    clear hS
    refine MW ?_ (v := .bool true) (hv := by intro W; go_simp; first | done | omega | decide)
    refine MW ?_ (v := .bool true)
    refine MZ fun W hS => ?_
    go_upto_region 41 with fail
    refine RL hS ?_
    clear hS
    refine MV ?_
    refine MV ?_
    refine MP 7 (v := v39_8) (cs' := agF (.c (.int .i64 k) :: .c (.int .i64 er) :: .c (.int .i64 0) :: .c (.int .i64 0) :: .a 32 0 :: .a 80 0 :: .c (.bool false) :: .c (.int .i64 0) :: .c (.slice none 0 0) :: .a 32 0 :: .a 32 0 :: .c (.slice none 0 0) :: .c (.bool false) :: .a 32 0 :: .a 32 0 :: .a 32 0 :: .a 32 0 :: .a 32 0 :: .c (.int .i64 0) :: .a 32 0 :: .c (.slice none 0 0) :: .c (.slice none 0 0) :: .c (.bool false) :: .a 32 0 :: .a 32 0 :: .c (.int .i64 0) :: .a 32 0 :: .a 64 0 :: .a 32 0 :: .c (.slice none 0 0) :: .c (.slice none 0 0) :: .c (.slice none 0 0) :: .c (.slice none 0 0) :: .c (.bool false) :: .c (.int .i64 0) :: .a 32 0 :: .c v39_8 :: .a 32 0 :: .c (.slice none 0 0) :: [])) ?_ (hs := by rw [agF_size]; exact Nat.le_of_ble_eq_true (by kernel_rfl)) (hc := agF_setc (off := 612) 36) (hv := fun W hS => sl_cells (hS.osl (i := 9) rfl))
    refine MZ fun W hS => ?_
    go_upto_region 42 with fail
    refine RTp [0, 1, 2, 3, 4, 6, 7, 8, 9, 10] (.q 0 (.q 1 (.q 2 (.q 3 (.e 4 (.q 5 (.e 6 (.q 7 (.q 8 .z))))))))) hS ?_
    clear hS
    refine TL 6 ?_ (hs := by rw [agF_size]; kernel_rfl)
    refine TV ?_
    refine TV ?_
    refine TF (v := str tx) rfl (fun W hS => run_cvs (hS.osl (i := 8) rfl) rfl rfl) ?_
    refine TE (fun _ h => h.pick [0, 1, 2, 3, 4, 6, 7, 8, 9, 10]) ?_
    refine MC (v := str (tB tx)) (fun W hS => tx_i tx (by omega) W) ?_
    refine TNp [0, 1, 2, 3, 4, 6, 7, 8, 9, 10] [0, 1, 2, 3, 4, 5, 6, 7, 8, 9] ?_
    refine TW ?_ (v := str (([u8 k.toNat] ++ [u8 er.toNat]) ++ (tB tx))) (hv := fun _ => run_cat (l := ([u8 k.toNat] ++ [u8 er.toNat])) (m := (tB tx)) rfl rfl rfl (by first | omega | decide | (rw [List.length_map]; omega) | (simp only [List.length_nil, List.length_map]; omega) | (simp only [List.length_append, List.length_cons, List.length_nil, lb_length, eI_len, tB_len, sB_len]; omega)))
    refine TE (fun _ h => h.pick [0, 1, 2, 3, 4, 6, 7, 8, 9, 10]) ?_
    refine MR 5 ?_ (hz := by rw [agF_size]; kernel_rfl) (hs := by first | (rw [agF_size, agF_size]; rfl) | rfl) (h1 := by exact (agF_one ⟨rfl, rfl, rfl, rfl, rfl, rfl, rfl, rfl, rfl, rfl, rfl, rfl, rfl, rfl, rfl, rfl, rfl, rfl, rfl, rfl, htc.2, rfl, trivial⟩))
    refine TNp [0, 1, 2, 3, 4, 6, 7, 8, 9, 10] [0, 1, 2, 3, 4, 5, 6, 7, 8, 9] ?_
    refine TV ?_
    refine TW ?_ (v := .bool true)
    refine TZ (fun _ h => h.pick [0, 1, 2, 3, 4, 6, 7, 8, 9, 10]) fun W hS => ?_
    have hE := hS
    obtain ⟨ea, es, eo⟩ := tq (t2_ok (t := (⟨k, er, nu, f, sm, ss, sg, tx, gone⟩ : Tp)) (x := v39_8) Hok.out He.out) (tp_9 Hk.out)
    dsimp only at ea es eo
    have hT : SH [] w W ([.o v39_8 tx] ++ []) := hE.pick [9]
    have hA : AnR (((⟨k, er, nu, f, sm, ss, sg, tx, gone⟩ : Tp)).A2 v39_8) ⟨nS, nS, nS, nS, nS, nS, nS, nS, v39_8, nS⟩ W := by rw [ea]; exact ⟨sl_nil W, rr_nil 32 W, rr_nil 32 W, rr_nil 32 W, rr_nil 32 W, enR_nil W, rr_nil 65 W, sl_nil W, hT.osl (i := 0) rfl, rr_nil 32 W⟩
    have hI : InN [.o v39_8 tx] (anFt (((⟨k, er, nu, f, sm, ss, sg, tx, gone⟩ : Tp)).A2 v39_8) ⟨nS, nS, nS, nS, nS, nS, nS, nS, v39_8, nS⟩) := by rw [ea]; exact inN_an (inN_nil) (inN_nil) (inN_nil) (inN_nil) (inN_nil) (inN_nil) (inN_nil) (inN_nil) (inN_o 0 rfl) (inN_nil)
    have hZ := SH.fold hT (anT_holds hA) hI
    have hQ := SH.foldo (G := (fbR (.slice Ap f.ss.length cp) (f.ss.map b32l))) hT hI (fr0 rfl)
    have Ea := Lib.hid ea
    have Es := Lib.hid es
    have Eo := Lib.hid eo
    clear ea es eo
    go_wp2
    refine bodyPost_ret (res_c3 rfl rfl rfl rfl (hS.blk (i := 5) rfl) (by kernel_rfl) (by rw [agF_size]; kernel_rfl)) rfl ?_
    have ea := Ea.out
    have es := Es.out
    have eo := Eo.out
    refine ⟨v39_8, ⟨nS, nS, nS, nS, nS, nS, nS, nS, v39_8, nS⟩, ?_, hZ, hQ⟩
    rw [ea, es, eo]
    refine tup3 rfl ?_ ?_
    ·
     first | rfl | (go_simp; done) | (simp only [List.append_assoc, List.cons_append, List.nil_append]; rfl) | (go_simp; simp only [List.append_assoc, List.cons_append, List.nil_append])
    ·
     first | rfl | (go_simp; done) | (simp []; done)
   ·
    have _f := True.intro
    have Hk := Lib.hid hk
    have hk1 : k ≤ 12 := by omega
    have hk2 : 12 ≤ k := by omega
    clear hk
    go_upto_region 16 with fail
    refine RL hS ?_
    clear hS
    refine MW ?_ (v := .bool false) (hv := by intro W; go_simp; first | done | omega | decide)
    refine MW ?_ (v := .bool false)
    refine MZ fun W hS => ?_
    go_upto_region 17 with fail
    refine RL hS ?_
    clear hS
    refine MW ?_ (v := .bool false) (hv := by intro W; go_simp; first | done | omega | decide)
    refine MW ?_ (v := .bool false)
    refine MZ fun W hS => ?_
    go_upto_region 20 with fail
    refine RL hS ?_
    clear hS
    refine MW ?_ (v := .bool false) (hv := by intro W; go_simp; first | done | omega | decide)
    refine MW ?_ (v := .bool false)
    refine MZ fun W hS => ?_
    go_upto_region 24 with fail
    refine RL hS ?_
    clear hS
    refine MW ?_ (v := .bool false) (hv := by intro W; go_simp; first | done | omega | decide)
    refine MW ?_ (v := .bool false)
    refine MZ fun W hS => ?_
    go_upto_region 32 with fail
    refine RL hS ?_
    clear hS
    refine MW ?_ (v := .bool false) (hv := by intro W; go_simp; first | done | omega | decide)
    refine MW ?_ (v := .bool false)
    refine MZ fun W hS => ?_
    go_upto_region 40 with fail
    refine RL hS ?_
    clear hS
    refine MW ?_ (v := .bool false) (hv := by intro W; go_simp; first | done | omega | decide)
    refine MW ?_ (v := .bool false)
    refine MZ fun W hS => ?_
    go_upto_region 43 with fail
    refine RL hS ?_
    clear hS
    refine MW ?_ (v := .bool false) (hv := by intro W; go_simp; first | done | omega | decide)
    refine MW ?_ (v := .bool false)
    refine MZ fun W hS => ?_
    go_upto_region 50 with fail
    refine RL hS ?_
    clear hS
    refine MW ?_ (v := .bool true) (hv := by intro W; go_simp; first | done | omega | decide)
    refine MW ?_ (v := .bool true)
    refine MZ fun W hS => ?_
    go_upto_region 51 with fail
    refine RL hS ?_
    clear hS
    refine MV ?_
    refine Mk 4 ?_ (sub := arrK .u8 32 (byt sm)) (hs := (agF_arr (off := 81) 19))
    refine MV ?_
    refine MV ?_
    refine Mq 7 (new := agF (.c (.int .i64 k) :: .c (.int .i64 er) :: .c (.int .i64 0) :: .c (.int .i64 0) :: .a 32 0 :: .a 80 0 :: .c (.bool false) :: .c (.int .i64 0) :: .c (.slice none 0 0) :: .a 32 0 :: .a 32 0 :: .c (.slice none 0 0) :: .c (.bool false) :: .a 32 0 :: .a 32 0 :: .a 32 0 :: .a 32 0 :: .a 32 0 :: .c (.int .i64 0) :: .a 32 0 :: .c (.slice none 0 0) :: .c (.slice none 0 0) :: .c (.bool false) :: .a 32 0 :: .a 32 0 :: .c (.int .i64 0) :: .a 32 0 :: .a 64 0 :: .a 32 0 :: .c (.slice none 0 0) :: .c (.slice none 0 0) :: .c (.slice none 0 0) :: .c (.slice none 0 0) :: .c (.bool false) :: .c (.int .i64 0) :: .a 32 0 :: .c (.slice none 0 0) :: .a 32 sm :: .c (.slice none 0 0) :: [])) ?_ (hc := agF_seta (off := 613) 37) (hs := by rw [arrK_size, agF_size]; exact Nat.le_of_ble_eq_true (by kernel_rfl))
    refine MV ?_
    refine MP 7 (v := .slice Au ss.length cu) (cs' := agF (.c (.int .i64 k) :: .c (.int .i64 er) :: .c (.int .i64 0) :: .c (.int .i64 0) :: .a 32 0 :: .a 80 0 :: .c (.bool false) :: .c (.int .i64 0) :: .c (.slice none 0 0) :: .a 32 0 :: .a 32 0 :: .c (.slice none 0 0) :: .c (.bool false) :: .a 32 0 :: .a 32 0 :: .a 32 0 :: .a 32 0 :: .a 32 0 :: .c (.int .i64 0) :: .a 32 0 :: .c (.slice none 0 0) :: .c (.slice none 0 0) :: .c (.bool false) :: .a 32 0 :: .a 32 0 :: .c (.int .i64 0) :: .a 32 0 :: .a 64 0 :: .a 32 0 :: .c (.slice none 0 0) :: .c (.slice none 0 0) :: .c (.slice none 0 0) :: .c (.slice none 0 0) :: .c (.bool false) :: .c (.int .i64 0) :: .a 32 0 :: .c (.slice none 0 0) :: .a 32 sm :: .c (.slice Au ss.length cu) :: [])) ?_ (hs := by rw [agF_size]; exact Nat.le_of_ble_eq_true (by kernel_rfl)) (hc := agF_setc (off := 645) 38)
    refine MZ fun W hS => ?_
    by_cases hs12 : ss.length ≤ 256
    ·
     have _f := hs12
     go_upto_region 52 with fail
     refine RTp [0, 1, 2, 3, 4, 6, 7, 8, 9, 10] (.q 0 (.q 1 (.q 2 (.q 3 (.q 4 (.q 5 (.q 6 (.q 9 (.q 10 (.q 11 (.e 7 (.q 8 (.e 12 (.q 13 (.q 14 .z))))))))))))))) hS ?_
     clear hS
     refine TL 6 ?_ (hs := by rw [agF_size]; kernel_rfl)
     refine TV ?_
     refine TV ?_
     refine TW ?_ (v := .slice (some ⟨p1_1, 81, none⟩) 32 32)
     refine TF (v := str (lb 32 sm)) rfl (fun W hS => run_cvs (sl_part (V := sm) (n := 32) (off := 81) (c := 32) (hS.blk (i := 4) rfl) (agF_arr (off := 81) 19) (by decide) (by decide)) rfl rfl) ?_
     refine TW ?_ (v := str (([u8 k.toNat] ++ [u8 er.toNat]) ++ (lb 32 sm))) (hv := fun _ => run_cat (l := ([u8 k.toNat] ++ [u8 er.toNat])) (m := (lb 32 sm)) rfl rfl rfl (by first | omega | decide | (rw [List.length_map]; omega) | (simp only [List.length_nil, List.length_map]; omega) | (simp only [List.length_append, List.length_cons, List.length_nil, lb_length, eI_len, tB_len, sB_len]; omega)))
     refine TV ?_
     refine TV ?_
     refine TV ?_
     refine TW ?_ (v := .bool true) (hv := by intro W; go_simp; first | done | omega)
     refine TE (fun _ h => h.pick [0, 1, 2, 3, 4, 6, 7, 8, 9, 10]) ?_
     refine MC (v := str (sB ss)) (fun W hS => dsums_c (ss := ss) (by omega) W (hS.row (i := 10) rfl).rr) ?_
     refine TNp [0, 1, 2, 3, 4, 6, 7, 8, 9, 10] [0, 1, 2, 3, 4, 5, 6, 7, 8, 9] ?_
     refine TW ?_ (v := str ((([u8 k.toNat] ++ [u8 er.toNat]) ++ (lb 32 sm)) ++ (sB ss))) (hv := fun _ => run_cat (l := (([u8 k.toNat] ++ [u8 er.toNat]) ++ (lb 32 sm))) (m := (sB ss)) rfl rfl rfl (by first | omega | decide | (rw [List.length_map]; omega) | (simp only [List.length_nil, List.length_map]; omega) | (simp only [List.length_append, List.length_cons, List.length_nil, lb_length, eI_len, tB_len, sB_len]; omega)))
     refine TE (fun _ h => h.pick [0, 1, 2, 3, 4, 6, 7, 8, 9, 10]) ?_
     refine MR 5 ?_ (hz := by rw [agF_size]; kernel_rfl) (hs := by first | (rw [agF_size, agF_size]; rfl) | rfl) (h1 := by exact (agF_one ⟨rfl, rfl, rfl, rfl, rfl, rfl, rfl, rfl, rfl, rfl, rfl, rfl, rfl, rfl, rfl, rfl, rfl, rfl, rfl, rfl, rfl, rfl, trivial⟩))
     refine TNp [0, 1, 2, 3, 4, 6, 7, 8, 9, 10] [0, 1, 2, 3, 4, 5, 6, 7, 8, 9] ?_
     refine TV ?_
     refine TW ?_ (v := .bool true)
     refine TZ (fun _ h => h.pick [0, 1, 2, 3, 4, 6, 7, 8, 9, 10]) fun W hS => ?_
     have hE := hS
     obtain ⟨ea, es, eo⟩ := tq (t2_ok (t := (⟨k, er, nu, f, sm, ss, sg, tx, gone⟩ : Tp)) (x := v39_8) Hok.out He.out) (tp_12 Hk.out)
     dsimp only at ea es eo
     have hT : SH [] w W ([.r 27 32 (.slice Au ss.length cu) (List.map b32l ss)] ++ []) := hE.pick [10]
     have hA : AnR (((⟨k, er, nu, f, sm, ss, sg, tx, gone⟩ : Tp)).A2 v39_8) ⟨nS, nS, nS, nS, nS, nS, nS, nS, nS, (.slice Au ss.length cu)⟩ W := by rw [ea]; exact ⟨sl_nil W, rr_nil 32 W, rr_nil 32 W, rr_nil 32 W, rr_nil 32 W, enR_nil W, rr_nil 65 W, sl_nil W, sl_nil W, (hT.row (i := 0) rfl).rr⟩
     have hI : InN [.r 27 32 (.slice Au ss.length cu) (List.map b32l ss)] (anFt (((⟨k, er, nu, f, sm, ss, sg, tx, gone⟩ : Tp)).A2 v39_8) ⟨nS, nS, nS, nS, nS, nS, nS, nS, nS, (.slice Au ss.length cu)⟩) := by rw [ea]; exact inN_an (inN_nil) (inN_nil) (inN_nil) (inN_nil) (inN_nil) (inN_nil) (inN_nil) (inN_nil) (inN_nil) (inN_r 0 rfl (row_fb (hT.row (i := 0) rfl)))
     have hZ := SH.fold hT (anT_holds hA) hI
     have hQ := SH.foldo (G := (fbR (.slice Ap f.ss.length cp) (f.ss.map b32l))) hT hI (fr0 rfl)
     have Ea := Lib.hid ea
     have Es := Lib.hid es
     have Eo := Lib.hid eo
     clear ea es eo
     go_wp2
     refine bodyPost_ret (res_c3 rfl rfl rfl rfl (hS.blk (i := 5) rfl) (by kernel_rfl) (by rw [agF_size]; kernel_rfl)) rfl ?_
     have ea := Ea.out
     have es := Es.out
     have eo := Eo.out
     refine ⟨v39_8, ⟨nS, nS, nS, nS, nS, nS, nS, nS, nS, (.slice Au ss.length cu)⟩, ?_, hZ, hQ⟩
     rw [ea, es, eo]
     refine tup3 rfl ?_ ?_
     ·
      first | rfl | (go_simp; done) | (simp only [List.append_assoc, List.cons_append, List.nil_append]; rfl) | (go_simp; simp only [List.append_assoc, List.cons_append, List.nil_append])
     ·
      first | rfl | (go_simp; done) | (simp [hs12]; done)
    ·
     have _f := hs12
     go_upto_region 52 with fail
     refine RTp [0, 1, 2, 3, 4, 6, 7, 8, 9, 10] (.q 0 (.q 1 (.q 2 (.q 3 (.q 4 (.q 5 (.q 6 (.q 9 (.q 10 (.q 11 (.e 7 (.q 8 (.e 12 (.q 13 (.q 14 .z))))))))))))))) hS ?_
     clear hS
     refine TL 6 ?_ (hs := by rw [agF_size]; kernel_rfl)
     refine TV ?_
     refine TV ?_
     refine TW ?_ (v := .slice (some ⟨p1_1, 81, none⟩) 32 32)
     refine TF (v := str (lb 32 sm)) rfl (fun W hS => run_cvs (sl_part (V := sm) (n := 32) (off := 81) (c := 32) (hS.blk (i := 4) rfl) (agF_arr (off := 81) 19) (by decide) (by decide)) rfl rfl) ?_
     refine TW ?_ (v := str (([u8 k.toNat] ++ [u8 er.toNat]) ++ (lb 32 sm))) (hv := fun _ => run_cat (l := ([u8 k.toNat] ++ [u8 er.toNat])) (m := (lb 32 sm)) rfl rfl rfl (by first | omega | decide | (rw [List.length_map]; omega) | (simp only [List.length_nil, List.length_map]; omega) | (simp only [List.length_append, List.length_cons, List.length_nil, lb_length, eI_len, tB_len, sB_len]; omega)))
     refine TV ?_
     refine TV ?_
     refine TV ?_
     refine TW ?_ (v := .bool false) (hv := by intro W; go_simp; first | done | omega)
     refine TE (fun _ h => h.pick [0, 1, 2, 3, 4, 6, 7, 8, 9, 10]) ?_
     refine MC (v := str (sB ss)) (fun W hS => dsums_c (ss := ss) (by omega) W (hS.row (i := 10) rfl).rr) ?_
     refine TNp [0, 1, 2, 3, 4, 6, 7, 8, 9, 10] [0, 1, 2, 3, 4, 5, 6, 7, 8, 9] ?_
     refine TW ?_ (v := str ((([u8 k.toNat] ++ [u8 er.toNat]) ++ (lb 32 sm)) ++ (sB ss))) (hv := fun _ => run_cat (l := (([u8 k.toNat] ++ [u8 er.toNat]) ++ (lb 32 sm))) (m := (sB ss)) rfl rfl rfl (by first | omega | decide | (rw [List.length_map]; omega) | (simp only [List.length_nil, List.length_map]; omega) | (simp only [List.length_append, List.length_cons, List.length_nil, lb_length, eI_len, tB_len, sB_len]; omega)))
     refine TE (fun _ h => h.pick [0, 1, 2, 3, 4, 6, 7, 8, 9, 10]) ?_
     refine MR 5 ?_ (hz := by rw [agF_size]; kernel_rfl) (hs := by first | (rw [agF_size, agF_size]; rfl) | rfl) (h1 := by exact (agF_one ⟨rfl, rfl, rfl, rfl, rfl, rfl, rfl, rfl, rfl, rfl, rfl, rfl, rfl, rfl, rfl, rfl, rfl, rfl, rfl, rfl, rfl, rfl, trivial⟩))
     refine TNp [0, 1, 2, 3, 4, 6, 7, 8, 9, 10] [0, 1, 2, 3, 4, 5, 6, 7, 8, 9] ?_
     refine TV ?_
     refine TW ?_ (v := .bool false)
     refine TZ (fun _ h => h.pick [0, 1, 2, 3, 4, 6, 7, 8, 9, 10]) fun W hS => ?_
     have hE := hS
     obtain ⟨ea, es, eo⟩ := tq (t2_ok (t := (⟨k, er, nu, f, sm, ss, sg, tx, gone⟩ : Tp)) (x := v39_8) Hok.out He.out) (tp_12 Hk.out)
     dsimp only at ea es eo
     have hT : SH [] w W ([.r 27 32 (.slice Au ss.length cu) (List.map b32l ss)] ++ []) := hE.pick [10]
     have hA : AnR (((⟨k, er, nu, f, sm, ss, sg, tx, gone⟩ : Tp)).A2 v39_8) ⟨nS, nS, nS, nS, nS, nS, nS, nS, nS, (.slice Au ss.length cu)⟩ W := by rw [ea]; exact ⟨sl_nil W, rr_nil 32 W, rr_nil 32 W, rr_nil 32 W, rr_nil 32 W, enR_nil W, rr_nil 65 W, sl_nil W, sl_nil W, (hT.row (i := 0) rfl).rr⟩
     have hI : InN [.r 27 32 (.slice Au ss.length cu) (List.map b32l ss)] (anFt (((⟨k, er, nu, f, sm, ss, sg, tx, gone⟩ : Tp)).A2 v39_8) ⟨nS, nS, nS, nS, nS, nS, nS, nS, nS, (.slice Au ss.length cu)⟩) := by rw [ea]; exact inN_an (inN_nil) (inN_nil) (inN_nil) (inN_nil) (inN_nil) (inN_nil) (inN_nil) (inN_nil) (inN_nil) (inN_r 0 rfl (row_fb (hT.row (i := 0) rfl)))
     have hZ := SH.fold hT (anT_holds hA) hI
     have hQ := SH.foldo (G := (fbR (.slice Ap f.ss.length cp) (f.ss.map b32l))) hT hI (fr0 rfl)
     have Ea := Lib.hid ea
     have Es := Lib.hid es
     have Eo := Lib.hid eo
     clear ea es eo
     go_wp2
     refine bodyPost_ret (res_c3 rfl rfl rfl rfl (hS.blk (i := 5) rfl) (by kernel_rfl) (by rw [agF_size]; kernel_rfl)) rfl ?_
     have ea := Ea.out
     have es := Es.out
     have eo := Eo.out
     refine ⟨v39_8, ⟨nS, nS, nS, nS, nS, nS, nS, nS, nS, (.slice Au ss.length cu)⟩, ?_, hZ, hQ⟩
     rw [ea, es, eo]
     refine tup3 rfl ?_ ?_
     ·
      first | rfl | (go_simp; done) | (simp only [List.append_assoc, List.cons_append, List.nil_append]; rfl) | (go_simp; simp only [List.append_assoc, List.cons_append, List.nil_append])
     ·
      first | rfl | (go_simp; done) | (simp [hs12]; done)
   ·
    have _f := True.intro
    have Hk := Lib.hid hk
    have hk1 : k ≤ 6 := by omega
    have hk2 : 6 ≤ k := by omega
    clear hk
    go_upto_region 16 with fail
    refine RL hS ?_
    clear hS
    refine MW ?_ (v := .bool false) (hv := by intro W; go_simp; first | done | omega | decide)
    refine MW ?_ (v := .bool false)
    refine MZ fun W hS => ?_
    go_upto_region 17 with fail
    refine RL hS ?_
    clear hS
    refine MW ?_ (v := .bool false) (hv := by intro W; go_simp; first | done | omega | decide)
    refine MW ?_ (v := .bool false)
    refine MZ fun W hS => ?_
    go_upto_region 20 with fail
    refine RL hS ?_
    clear hS
    refine MW ?_ (v := .bool true) (hv := by intro W; go_simp; first | done | omega | decide)
    refine MW ?_ (v := .bool true)
    refine MZ fun W hS => ?_
    go_upto_region 21 with fail
    refine RTp [0, 1, 2, 3, 4, 5, 6, 8, 9, 10] (.q 0 (.q 2 (.q 3 (.q 4 (.q 5 (.e 1 (.q 6 (.e 7 (.q 8 (.e 9 (.q 10 (.e 11 (.q 12 (.e 13 .z)))))))))))))) hS ?_
    clear hS
    refine TL 6 ?_ (hs := by rw [agF_size]; kernel_rfl)
    refine TV ?_
    refine Tk 4 ?_ (sub := arrK .u8 32 (byt sm)) (hs := (agF_arr (off := 81) 19))
    refine TV ?_
    refine TL 0 ?_ (hs := by rw [agF_size]; kernel_rfl)
    refine TE (fun _ h => h.pick [0, 1, 2, 3, 4, 5, 6, 8, 9, 10]) ?_
    refine ME (V := fun vv => .agg (foF f vv (.slice Ap f.ss.length cp))) (fun W hS => ncall hS (found_n HW.out hv1 W (hR.ext hS.ext)) (fun _ => ⟨rfl, rfl⟩)) ?_
    intro vv17
    refine MFact (fun W hS => sl_cells (hS.ozl (i := 0) rfl)) ?_
    intro hvc17
    refine TNp [0, 1, 2, 3, 4, 5, 6, 7, 9, 10, 11] [1, 2, 3, 4, 5, 6, 7, 8, 9, 10] ?_
    refine TV ?_
    refine TE (fun _ h => h.pick [0, 1, 2, 3, 4, 5, 6, 7, 9, 10, 11]) ?_
    refine Mq 8 (new := agF (.c (.int .i64 k) :: .c (.int .i64 er) :: .c (.int .i64 0) :: .c (.int .i64 f.ep) :: .a 32 f.ix :: .a 80 f.vr :: .c (.bool f.pre) :: .c (.int .i64 f.ver) :: .c vv17 :: .a 32 f.bo :: .a 32 f.op :: .c (.slice Ap f.ss.length cp) :: .c (.bool f.th) :: .a 32 f.a :: .a 32 f.x :: .a 32 f.ro :: .a 32 f.li :: .a 32 f.ah :: .c (.int .i64 f.rd) :: .a 32 0 :: .c (.slice none 0 0) :: .c (.slice none 0 0) :: .c (.bool false) :: .a 32 0 :: .a 32 0 :: .c (.int .i64 0) :: .a 32 0 :: .a 64 0 :: .a 32 0 :: .c (.slice none 0 0) :: .c (.slice none 0 0) :: .c (.slice none 0 0) :: .c (.slice none 0 0) :: .c (.bool false) :: .c (.int .i64 0) :: .a 32 0 :: .c (.slice none 0 0) :: .a 32 0 :: .c (.slice none 0 0) :: [])) ?_ (hc := agF_setp (off := 3) 3 16) (hs := by rw [agF_size, agF_size]; exact Nat.le_of_ble_eq_true (by kernel_rfl)) (h1 := by exact (agF_one ⟨rfl, rfl, rfl, hvc17.2, rfl, rfl, rfl, trivial⟩))
    refine TNp [0, 1, 2, 3, 4, 5, 6, 7, 9, 10, 11] [0, 1, 2, 3, 4, 5, 6, 7, 8, 9, 10] ?_
    refine TV ?_
    refine TE (fun _ h => h.pick [0, 1, 2, 3, 4, 5, 6, 7, 9, 10, 11]) ?_
    refine Mq 8 (new := agF (.c (.int .i64 k) :: .c (.int .i64 er) :: .c (.int .i64 0) :: .c (.int .i64 f.ep) :: .a 32 f.ix :: .a 80 f.vr :: .c (.bool f.pre) :: .c (.int .i64 f.ver) :: .c vv17 :: .a 32 f.bo :: .a 32 f.op :: .c (.slice Ap f.ss.length cp) :: .c (.bool f.th) :: .a 32 f.a :: .a 32 f.x :: .a 32 f.ro :: .a 32 f.li :: .a 32 f.ah :: .c (.int .i64 f.rd) :: .a 32 sm :: .c (.slice none 0 0) :: .c (.slice none 0 0) :: .c (.bool false) :: .a 32 0 :: .a 32 0 :: .c (.int .i64 0) :: .a 32 0 :: .a 64 0 :: .a 32 0 :: .c (.slice none 0 0) :: .c (.slice none 0 0) :: .c (.slice none 0 0) :: .c (.slice none 0 0) :: .c (.bool false) :: .c (.int .i64 0) :: .a 32 0 :: .c (.slice none 0 0) :: .a 32 0 :: .c (.slice none 0 0) :: [])) ?_ (hc := agF_seta (off := 346) 19) (hs := by rw [arrK_size, agF_size]; exact Nat.le_of_ble_eq_true (by kernel_rfl))
    refine TNp [0, 1, 2, 3, 4, 5, 6, 7, 9, 10, 11] [0, 1, 2, 3, 4, 5, 6, 7, 8, 9, 10] ?_
    refine TV ?_
    refine TE (fun _ h => h.pick [0, 1, 2, 3, 4, 5, 6, 7, 9, 10, 11]) ?_
    refine MP 8 (v := .slice Au ss.length cu) (cs' := agF (.c (.int .i64 k) :: .c (.int .i64 er) :: .c (.int .i64 0) :: .c (.int .i64 f.ep) :: .a 32 f.ix :: .a 80 f.vr :: .c (.bool f.pre) :: .c (.int .i64 f.ver) :: .c vv17 :: .a 32 f.bo :: .a 32 f.op :: .c (.slice Ap f.ss.length cp) :: .c (.bool f.th) :: .a 32 f.a :: .a 32 f.x :: .a 32 f.ro :: .a 32 f.li :: .a 32 f.ah :: .c (.int .i64 f.rd) :: .a 32 sm :: .c (.slice Au ss.length cu) :: .c (.slice none 0 0) :: .c (.bool false) :: .a 32 0 :: .a 32 0 :: .c (.int .i64 0) :: .a 32 0 :: .a 64 0 :: .a 32 0 :: .c (.slice none 0 0) :: .c (.slice none 0 0) :: .c (.slice none 0 0) :: .c (.slice none 0 0) :: .c (.bool false) :: .c (.int .i64 0) :: .a 32 0 :: .c (.slice none 0 0) :: .a 32 0 :: .c (.slice none 0 0) :: [])) ?_ (hs := by rw [agF_size]; exact Nat.le_of_ble_eq_true (by kernel_rfl)) (hc := agF_setc (off := 378) 20)
    refine TNp [0, 1, 2, 3, 4, 5, 6, 7, 9, 10, 11] [0, 1, 2, 3, 4, 5, 6, 7, 8, 9, 10] ?_
    refine TV ?_
    refine TE (fun _ h => h.pick [0, 1, 2, 3, 4, 5, 6, 7, 9, 10, 11]) ?_
    refine Mq 8 (new := agF (.c (.int .i64 k) :: .c (.int .i64 er) :: .c (.int .i64 0) :: .c (.int .i64 f.ep) :: .a 32 f.ix :: .a 80 f.vr :: .c (.bool f.pre) :: .c (.int .i64 f.ver) :: .c vv17 :: .a 32 f.bo :: .a 32 f.op :: .c (.slice Ap f.ss.length cp) :: .c (.bool f.th) :: .a 32 f.a :: .a 32 f.x :: .a 32 f.ro :: .a 32 f.li :: .a 32 f.ah :: .c (.int .i64 f.rd) :: .a 32 sm :: .c (.slice Au ss.length cu) :: .c (.slice Ap f.ss.length cp) :: .c (.bool f.th) :: .a 32 f.a :: .a 32 f.x :: .c (.int .i64 nu) :: .a 32 sm :: .a 64 (le (List.take 64 sg)) :: .a 32 sm :: .c (.slice Au ss.length cu) :: .c (.slice none 0 0) :: .c (.slice none 0 0) :: .c (.slice none 0 0) :: .c (.bool false) :: .c (.int .i64 0) :: .a 32 0 :: .c (.slice none 0 0) :: .a 32 0 :: .c (.slice none 0 0) :: [])) ?_ (hc := agF_setp (off := 379) 21 9) (hs := by rw [agF_size, agF_size]; exact Nat.le_of_ble_eq_true (by kernel_rfl)) (h1 := by exact (agF_one ⟨rfl, rfl, rfl, rfl, trivial⟩))
    refine TNp [0, 1, 2, 3, 4, 5, 6, 7, 9, 10, 11] [0, 1, 2, 3, 4, 5, 6, 7, 8, 9, 10] ?_
    refine TZ (fun _ h => h.pick [0, 1, 2, 3, 4, 5, 6, 7, 9, 10, 11]) fun W hS => ?_
    rcases bool_or (dfB f) with hdf | hdf
    ·
     have _f := True.intro
     have Hdf := Lib.hid hdf
     go_upto_region 22 with fail
     refine RL hS ?_
     clear hS
     refine ML 7 ?_ (hs := by rw [agF_size]; kernel_rfl)
     refine MC (v := .tuple #[str (dfL f), .bool true]) (fun W hS => dsaw_b Hdf.out hn1 hv1 W (hR.ext hS.ext)) ?_
     refine MV ?_
     refine MV ?_
     refine MW ?_ (v := .bool true)
     refine MV ?_
     refine MW ?_ (v := .bool true)
     refine MZ fun W hS => ?_
     go_upto_region 23 with fail
     refine RTp [0, 1, 2, 3, 4, 5, 7, 8, 9, 10, 11] (.q 0 (.q 1 (.q 2 (.q 3 (.q 4 (.q 5 (.q 6 (.q 7 (.q 8 (.q 11 (.q 13 (.e 9 (.q 10 (.q 12 (.q 14 (.q 15 (.q 16 (.e 17 (.q 18 (.q 19 .z)))))))))))))))))))) hS ?_
     clear hS
     refine TL 7 ?_ (hs := by rw [agF_size]; kernel_rfl)
     refine TV ?_
     refine TV ?_
     refine TW ?_ (v := str (([u8 k.toNat] ++ [u8 er.toNat]) ++ (dfL f))) (hv := fun _ => run_cat (l := ([u8 k.toNat] ++ [u8 er.toNat])) (m := (dfL f)) rfl rfl rfl (by first | omega | decide | (rw [List.length_map]; omega) | (simp only [List.length_nil, List.length_map]; omega) | (simp only [List.length_append, List.length_cons, List.length_nil, lb_length, eI_len, tB_len, sB_len]; omega)))
     refine TV ?_
     refine TW ?_ (v := .slice (some ⟨p1_1, 81, none⟩) 32 32)
     refine TF (v := str (lb 32 sm)) rfl (fun W hS => run_cvs (sl_part (V := sm) (n := 32) (off := 81) (c := 32) (hS.blk (i := 5) rfl) (agF_arr (off := 81) 19) (by decide) (by decide)) rfl rfl) ?_
     refine TW ?_ (v := str ((([u8 k.toNat] ++ [u8 er.toNat]) ++ (dfL f)) ++ (lb 32 sm))) (hv := fun _ => run_cat (l := (([u8 k.toNat] ++ [u8 er.toNat]) ++ (dfL f))) (m := (lb 32 sm)) rfl rfl rfl (by first | omega | decide | (rw [List.length_map]; omega) | (simp only [List.length_nil, List.length_map]; omega) | (simp only [List.length_append, List.length_cons, List.length_nil, lb_length, eI_len, tB_len, sB_len]; omega)))
     refine TV ?_
     refine TV ?_
     refine TW ?_ (v := .bool true)
     refine TE (fun _ h => h.pick [0, 1, 2, 3, 4, 5, 7, 8, 9, 10, 11]) ?_
     refine MC (v := str (sB ss)) (fun W hS => dsums_c (ss := ss) (by omega) W (hS.row (i := 11) rfl).rr) ?_
     refine TNp [0, 1, 2, 3, 4, 5, 7, 8, 9, 10, 11] [0, 1, 2, 3, 4, 5, 6, 7, 8, 9, 10] ?_
     refine TW ?_ (v := str (((([u8 k.toNat] ++ [u8 er.toNat]) ++ (dfL f)) ++ (lb 32 sm)) ++ (sB ss))) (hv := fun _ => run_cat (l := ((([u8 k.toNat] ++ [u8 er.toNat]) ++ (dfL f)) ++ (lb 32 sm))) (m := (sB ss)) rfl rfl rfl (by first | omega | decide | (rw [List.length_map]; omega) | (simp only [List.length_nil, List.length_map]; omega) | (simp only [List.length_append, List.length_cons, List.length_nil, lb_length, eI_len, tB_len, sB_len]; omega)))
     refine TW ?_ (v := str ((((([u8 k.toNat] ++ [u8 er.toNat]) ++ (dfL f)) ++ (lb 32 sm)) ++ (sB ss)) ++ uS)) (hv := fun _ => run_cat (l := (((([u8 k.toNat] ++ [u8 er.toNat]) ++ (dfL f)) ++ (lb 32 sm)) ++ (sB ss))) (m := uS) rfl rfl rfl (by first | omega | decide | (rw [List.length_map]; omega) | (simp only [List.length_nil, List.length_map]; omega) | (simp only [List.length_append, List.length_cons, List.length_nil, lb_length, eI_len, tB_len, sB_len]; omega)))
     refine TW ?_ (v := .bool true)
     refine TW ?_ (v := .bool fw)
     refine TW ?_ (v := .bool fw)
     refine TE (fun _ h => h.pick [0, 1, 2, 3, 4, 5, 7, 8, 9, 10, 11]) ?_
     refine MR 6 ?_ (hz := by rw [agF_size]; kernel_rfl) (hs := by first | (rw [agF_size, agF_size]; rfl) | rfl) (h1 := by exact (agF_one ⟨rfl, rfl, rfl, rfl, rfl, rfl, hvc17.2, rfl, rfl, rfl, rfl, rfl, rfl, rfl, rfl, rfl, rfl, rfl, rfl, rfl, rfl, rfl, trivial⟩))
     refine TNp [0, 1, 2, 3, 4, 5, 7, 8, 9, 10, 11] [0, 1, 2, 3, 4, 5, 6, 7, 8, 9, 10] ?_
     refine TV ?_
     refine TW ?_ (v := .bool fw)
     refine TZ (fun _ h => h.pick [0, 1, 2, 3, 4, 5, 7, 8, 9, 10, 11]) fun W hS => ?_
     have hE := hS.entp (RR.pholds (by decide) b32l_len hR)
     obtain ⟨ea, es, eo⟩ := tq (t2_ok (t := (⟨k, er, nu, f, sm, ss, sg, tx, gone⟩ : Tp)) (x := v39_8) Hok.out He.out) (tp_6 Hk.out)
     dsimp only at ea es eo
     have hT : SH [] w W ([.p (fbR (.slice Ap f.ss.length cp) (f.ss.map b32l)) (fun W => RR 32 W (.slice Ap f.ss.length cp) (f.ss.map b32l)), .w vv17 f.val, .r 27 32 (.slice Au ss.length cu) (List.map b32l ss)] ++ []) := hE.pick [0, 1, 12]
     have hA : AnR (((⟨k, er, nu, f, sm, ss, sg, tx, gone⟩ : Tp)).A2 v39_8) ⟨vv17, (.slice Ap f.ss.length cp), (.slice Au ss.length cu), (.slice Ap f.ss.length cp), (.slice Au ss.length cu), nS, nS, nS, nS, nS⟩ W := by rw [ea]; exact ⟨hT.ozl (i := 1) rfl, hT.pp (i := 0) rfl, (hT.row (i := 2) rfl).rr, hT.pp (i := 0) rfl, (hT.row (i := 2) rfl).rr, enR_nil W, rr_nil 65 W, sl_nil W, sl_nil W, rr_nil 32 W⟩
     have hI : InN [.p (fbR (.slice Ap f.ss.length cp) (f.ss.map b32l)) (fun W => RR 32 W (.slice Ap f.ss.length cp) (f.ss.map b32l)), .w vv17 f.val, .r 27 32 (.slice Au ss.length cu) (List.map b32l ss)] (anFt (((⟨k, er, nu, f, sm, ss, sg, tx, gone⟩ : Tp)).A2 v39_8) ⟨vv17, (.slice Ap f.ss.length cp), (.slice Au ss.length cu), (.slice Ap f.ss.length cp), (.slice Au ss.length cu), nS, nS, nS, nS, nS⟩) := by rw [ea]; exact inN_an (inN_w 1 rfl) (inN_p 0 rfl) (inN_r 2 rfl (row_fb (hT.row (i := 2) rfl))) (inN_p 0 rfl) (inN_r 2 rfl (row_fb (hT.row (i := 2) rfl))) (inN_nil) (inN_nil) (inN_nil) (inN_nil) (inN_nil)
     have hZ := SH.fold hT (anT_holds hA) hI
     have hQ := SH.foldo (G := (fbR (.slice Ap f.ss.length cp) (f.ss.map b32l))) hT hI (frG rfl)
     have Ea := Lib.hid ea
     have Es := Lib.hid es
     have Eo := Lib.hid eo
     clear ea es eo
     go_wp2
     refine bodyPost_ret (res_c3 rfl rfl rfl rfl (hS.blk (i := 6) rfl) (by kernel_rfl) (by rw [agF_size]; kernel_rfl)) rfl ?_
     have ea := Ea.out
     have es := Es.out
     have eo := Eo.out
     refine ⟨v39_8, ⟨vv17, (.slice Ap f.ss.length cp), (.slice Au ss.length cu), (.slice Ap f.ss.length cp), (.slice Au ss.length cu), nS, nS, nS, nS, nS⟩, ?_, hZ, hQ⟩
     rw [ea, es, eo, HUS.out]
     refine tup3 rfl ?_ ?_
     ·
      first | rfl | (go_simp; done) | (simp only [List.append_assoc, List.cons_append, List.nil_append]; rfl) | (go_simp; simp only [List.append_assoc, List.cons_append, List.nil_append])
     ·
      rw [HFW.out]; first | rfl | (go_simp; done) | (simp [hdf]; done)
    ·
     have _f := True.intro
     have Hdf := Lib.hid hdf
     go_upto_region 22 with fail
     refine RL hS ?_
     clear hS
     refine ML 7 ?_ (hs := by rw [agF_size]; kernel_rfl)
     refine MC (v := .tuple #[str (dfL f), .bool false]) (fun W hS => dsaw_b Hdf.out hn1 hv1 W (hR.ext hS.ext)) ?_
     refine MV ?_
     refine MV ?_
     refine MW ?_ (v := .bool false)
     refine MV ?_
     refine MW ?_ (v := .bool false)
     refine MZ fun W hS => ?_
     go_upto_region 23 with fail
     refine RTp [0, 1, 2, 3, 4, 5, 7, 8, 9, 10, 11] (.q 0 (.q 1 (.q 2 (.q 3 (.q 4 (.q 5 (.q 6 (.q 7 (.q 8 (.q 11 (.q 13 (.e 9 (.q 10 (.q 12 (.q 14 (.q 15 (.q 16 (.e 17 (.q 18 (.q 19 .z)))))))))))))))))))) hS ?_
     clear hS
     refine TL 7 ?_ (hs := by rw [agF_size]; kernel_rfl)
     refine TV ?_
     refine TV ?_
     refine TW ?_ (v := str (([u8 k.toNat] ++ [u8 er.toNat]) ++ (dfL f))) (hv := fun _ => run_cat (l := ([u8 k.toNat] ++ [u8 er.toNat])) (m := (dfL f)) rfl rfl rfl (by first | omega | decide | (rw [List.length_map]; omega) | (simp only [List.length_nil, List.length_map]; omega) | (simp only [List.length_append, List.length_cons, List.length_nil, lb_length, eI_len, tB_len, sB_len]; omega)))
     refine TV ?_
     refine TW ?_ (v := .slice (some ⟨p1_1, 81, none⟩) 32 32)
     refine TF (v := str (lb 32 sm)) rfl (fun W hS => run_cvs (sl_part (V := sm) (n := 32) (off := 81) (c := 32) (hS.blk (i := 5) rfl) (agF_arr (off := 81) 19) (by decide) (by decide)) rfl rfl) ?_
     refine TW ?_ (v := str ((([u8 k.toNat] ++ [u8 er.toNat]) ++ (dfL f)) ++ (lb 32 sm))) (hv := fun _ => run_cat (l := (([u8 k.toNat] ++ [u8 er.toNat]) ++ (dfL f))) (m := (lb 32 sm)) rfl rfl rfl (by first | omega | decide | (rw [List.length_map]; omega) | (simp only [List.length_nil, List.length_map]; omega) | (simp only [List.length_append, List.length_cons, List.length_nil, lb_length, eI_len, tB_len, sB_len]; omega)))
     refine TV ?_
     refine TV ?_
     refine TW ?_ (v := .bool false)
     refine TE (fun _ h => h.pick [0, 1, 2, 3, 4, 5, 7, 8, 9, 10, 11]) ?_
     refine MC (v := str (sB ss)) (fun W hS => dsums_c (ss := ss) (by omega) W (hS.row (i := 11) rfl).rr) ?_
     refine TNp [0, 1, 2, 3, 4, 5, 7, 8, 9, 10, 11] [0, 1, 2, 3, 4, 5, 6, 7, 8, 9, 10] ?_
     refine TW ?_ (v := str (((([u8 k.toNat] ++ [u8 er.toNat]) ++ (dfL f)) ++ (lb 32 sm)) ++ (sB ss))) (hv := fun _ => run_cat (l := ((([u8 k.toNat] ++ [u8 er.toNat]) ++ (dfL f)) ++ (lb 32 sm))) (m := (sB ss)) rfl rfl rfl (by first | omega | decide | (rw [List.length_map]; omega) | (simp only [List.length_nil, List.length_map]; omega) | (simp only [List.length_append, List.length_cons, List.length_nil, lb_length, eI_len, tB_len, sB_len]; omega)))
     refine TW ?_ (v := str ((((([u8 k.toNat] ++ [u8 er.toNat]) ++ (dfL f)) ++ (lb 32 sm)) ++ (sB ss)) ++ uS)) (hv := fun _ => run_cat (l := (((([u8 k.toNat] ++ [u8 er.toNat]) ++ (dfL f)) ++ (lb 32 sm)) ++ (sB ss))) (m := uS) rfl rfl rfl (by first | omega | decide | (rw [List.length_map]; omega) | (simp only [List.length_nil, List.length_map]; omega) | (simp only [List.length_append, List.length_cons, List.length_nil, lb_length, eI_len, tB_len, sB_len]; omega)))
     refine TW ?_ (v := .bool false)
     refine TS ?_
     refine TW ?_ (v := .bool false)
     refine TE (fun _ h => h.pick [0, 1, 2, 3, 4, 5, 7, 8, 9, 10, 11]) ?_
     refine MR 6 ?_ (hz := by rw [agF_size]; kernel_rfl) (hs := by first | (rw [agF_size, agF_size]; rfl) | rfl) (h1 := by exact (agF_one ⟨rfl, rfl, rfl, rfl, rfl, rfl, hvc17.2, rfl, rfl, rfl, rfl, rfl, rfl, rfl, rfl, rfl, rfl, rfl, rfl, rfl, rfl, rfl, trivial⟩))
     refine TNp [0, 1, 2, 3, 4, 5, 7, 8, 9, 10, 11] [0, 1, 2, 3, 4, 5, 6, 7, 8, 9, 10] ?_
     refine TV ?_
     refine TW ?_ (v := .bool false)
     refine TZ (fun _ h => h.pick [0, 1, 2, 3, 4, 5, 7, 8, 9, 10, 11]) fun W hS => ?_
     have hE := hS.entp (RR.pholds (by decide) b32l_len hR)
     obtain ⟨ea, es, eo⟩ := tq (t2_ok (t := (⟨k, er, nu, f, sm, ss, sg, tx, gone⟩ : Tp)) (x := v39_8) Hok.out He.out) (tp_6 Hk.out)
     dsimp only at ea es eo
     have hT : SH [] w W ([.p (fbR (.slice Ap f.ss.length cp) (f.ss.map b32l)) (fun W => RR 32 W (.slice Ap f.ss.length cp) (f.ss.map b32l)), .w vv17 f.val, .r 27 32 (.slice Au ss.length cu) (List.map b32l ss)] ++ []) := hE.pick [0, 1, 12]
     have hA : AnR (((⟨k, er, nu, f, sm, ss, sg, tx, gone⟩ : Tp)).A2 v39_8) ⟨vv17, (.slice Ap f.ss.length cp), (.slice Au ss.length cu), (.slice Ap f.ss.length cp), (.slice Au ss.length cu), nS, nS, nS, nS, nS⟩ W := by rw [ea]; exact ⟨hT.ozl (i := 1) rfl, hT.pp (i := 0) rfl, (hT.row (i := 2) rfl).rr, hT.pp (i := 0) rfl, (hT.row (i := 2) rfl).rr, enR_nil W, rr_nil 65 W, sl_nil W, sl_nil W, rr_nil 32 W⟩
     have hI : InN [.p (fbR (.slice Ap f.ss.length cp) (f.ss.map b32l)) (fun W => RR 32 W (.slice Ap f.ss.length cp) (f.ss.map b32l)), .w vv17 f.val, .r 27 32 (.slice Au ss.length cu) (List.map b32l ss)] (anFt (((⟨k, er, nu, f, sm, ss, sg, tx, gone⟩ : Tp)).A2 v39_8) ⟨vv17, (.slice Ap f.ss.length cp), (.slice Au ss.length cu), (.slice Ap f.ss.length cp), (.slice Au ss.length cu), nS, nS, nS, nS, nS⟩) := by rw [ea]; exact inN_an (inN_w 1 rfl) (inN_p 0 rfl) (inN_r 2 rfl (row_fb (hT.row (i := 2) rfl))) (inN_p 0 rfl) (inN_r 2 rfl (row_fb (hT.row (i := 2) rfl))) (inN_nil) (inN_nil) (inN_nil) (inN_nil) (inN_nil)
     have hZ := SH.fold hT (anT_holds hA) hI
     have hQ := SH.foldo (G := (fbR (.slice Ap f.ss.length cp) (f.ss.map b32l))) hT hI (frG rfl)
     have Ea := Lib.hid ea
     have Es := Lib.hid es
     have Eo := Lib.hid eo
     clear ea es eo
     go_wp2
     refine bodyPost_ret (res_c3 rfl rfl rfl rfl (hS.blk (i := 6) rfl) (by kernel_rfl) (by rw [agF_size]; kernel_rfl)) rfl ?_
     have ea := Ea.out
     have es := Es.out
     have eo := Eo.out
     refine ⟨v39_8, ⟨vv17, (.slice Ap f.ss.length cp), (.slice Au ss.length cu), (.slice Ap f.ss.length cp), (.slice Au ss.length cu), nS, nS, nS, nS, nS⟩, ?_, hZ, hQ⟩
     rw [ea, es, eo, HUS.out]
     refine tup3 rfl ?_ ?_
     ·
      first | rfl | (go_simp; done) | (simp only [List.append_assoc, List.cons_append, List.nil_append]; rfl) | (go_simp; simp only [List.append_assoc, List.cons_append, List.nil_append])
     ·
      rw [HFW.out]; first | rfl | (go_simp; done) | (simp [hdf]; done)
   ·
    have _f := True.intro
    have Hk := Lib.hid hk
    have hk1 : k ≤ 11 := by omega
    have hk2 : 11 ≤ k := by omega
    clear hk
    go_upto_region 16 with fail
    refine RL hS ?_
    clear hS
    refine MW ?_ (v := .bool false) (hv := by intro W; go_simp; first | done | omega | decide)
    refine MW ?_ (v := .bool false)
    refine MZ fun W hS => ?_
    go_upto_region 17 with fail
    refine RL hS ?_
    clear hS
    refine MW ?_ (v := .bool false) (hv := by intro W; go_simp; first | done | omega | decide)
    refine MW ?_ (v := .bool false)
    refine MZ fun W hS => ?_
    go_upto_region 20 with fail
    refine RL hS ?_
    clear hS
    refine MW ?_ (v := .bool false) (hv := by intro W; go_simp; first | done | omega | decide)
    refine MW ?_ (v := .bool false)
    refine MZ fun W hS => ?_
    go_upto_region 24 with fail
    refine RL hS ?_
    clear hS
    refine MW ?_ (v := .bool false) (hv := by intro W; go_simp; first | done | omega | decide)
    refine MW ?_ (v := .bool false)
    refine MZ fun W hS => ?_
    go_upto_region 32 with fail
    refine RL hS ?_
    clear hS
    refine MW ?_ (v := .bool false) (hv := by intro W; go_simp; first | done | omega | decide)
    refine MW ?_ (v := .bool false)
    refine MZ fun W hS => ?_
    go_upto_region 40 with fail
    refine RL hS ?_
    clear hS
    refine MW ?_ (v := .bool false) (hv := by intro W; go_simp; first | done | omega | decide)
    refine MW ?_ (v := .bool false)
    refine MZ fun W hS => ?_
    go_upto_region 43 with fail
    refine RL hS ?_
    clear hS
    refine MW ?_ (v := .bool true) (hv := by intro W; go_simp; first | done | omega | decide)
    refine MW ?_ (v := .bool true)
    refine MZ fun W hS => ?_
    go_upto_region 44 with fail
    refine RL hS ?_
    clear hS
    refine MV ?_
    refine MV ?_
    refine MG 4 ?_ (v := .bool gone) (hj := (agF_cel (off := 115) 22))
    refine MV ?_
    refine MG 4 ?_ (v := .int .i64 nu) (hj := (agF_cel (off := 2) 2))
    refine MV ?_
    refine Mk 4 ?_ (sub := arrK .u8 32 (byt sm)) (hs := (agF_arr (off := 81) 19))
    refine MF (v := .agg (agF [.c v39_8, .c (.bool gone), .c (.int .i64 nu), .a 32 sm])) (fun W hS => run_bld rfl rfl zer_super_Member plc_super_Member (fill_c (fill_c (fill_c (fill_c fill_n (l' := [.c v39_8, .c (.bool gone), .c (.int .i64 nu), .a 32 sm]) (m := [.a 32 sm]) (hv := (agF_a _ _).symm) (hs := agF_setp (off := 3) 3 1) (hp := rfl) (hn := rfl) (hb := by show 3 + 32 ≤ 35; decide)) (l' := [.c v39_8, .c (.bool gone), .c (.int .i64 nu), .a 32 0]) (m := [.c (.int .i64 nu)]) (hv := rfl) (hs := agF_setp (off := 2) 2 1) (hp := rfl) (hn := rfl) (hb := by show 2 + 1 ≤ 35; decide)) (l' := [.c v39_8, .c (.bool gone), .c (.int .i64 0), .a 32 0]) (m := [.c (.bool gone)]) (hv := rfl) (hs := agF_setp (off := 1) 1 1) (hp := rfl) (hn := rfl) (hb := by show 1 + 1 ≤ 35; decide)) (l' := [.c v39_8, .c (.bool false), .c (.int .i64 0), .a 32 0]) (m := [.c v39_8]) (hv := (htc).1) (hs := agF_setp (off := 0) 0 1) (hp := rfl) (hn := rfl) (hb := by show 0 + 1 ≤ 35; decide))) ?_
    refine MV ?_
    refine Mq 7 (new := agF (.c (.int .i64 k) :: .c (.int .i64 er) :: .c (.int .i64 0) :: .c (.int .i64 0) :: .a 32 0 :: .a 80 0 :: .c (.bool false) :: .c (.int .i64 0) :: .c (.slice none 0 0) :: .a 32 0 :: .a 32 0 :: .c (.slice none 0 0) :: .c (.bool false) :: .a 32 0 :: .a 32 0 :: .a 32 0 :: .a 32 0 :: .a 32 0 :: .c (.int .i64 0) :: .a 32 0 :: .c (.slice none 0 0) :: .c (.slice none 0 0) :: .c (.bool false) :: .a 32 0 :: .a 32 0 :: .c (.int .i64 0) :: .a 32 0 :: .a 64 0 :: .a 32 0 :: .c (.slice none 0 0) :: .c (.slice none 0 0) :: .c (.slice none 0 0) :: .c v39_8 :: .c (.bool gone) :: .c (.int .i64 nu) :: .a 32 sm :: .c (.slice none 0 0) :: .a 32 0 :: .c (.slice none 0 0) :: [])) ?_ (hc := agF_setp (off := 577) 32 4) (hs := by rw [agF_size, agF_size]; exact Nat.le_of_ble_eq_true (by kernel_rfl)) (h1 := by exact (agF_one ⟨htc.2, rfl, rfl, trivial⟩))
    refine MZ fun W hS => ?_
    go_upto_region 45 with fail
    refine RL hS ?_
    clear hS
    refine ML 0 ?_ (hs := by rw [agF_size]; kernel_rfl)
    refine MV ?_
    refine Mq 7 (new := agF (.c (.int .i64 k) :: .c (.int .i64 er) :: .c (.int .i64 0) :: .c (.int .i64 0) :: .a 32 0 :: .a 80 0 :: .c (.bool false) :: .c (.int .i64 0) :: .c (.slice none 0 0) :: .a 32 0 :: .a 32 0 :: .c (.slice none 0 0) :: .c (.bool false) :: .a 32 0 :: .a 32 0 :: .a 32 0 :: .a 32 0 :: .a 32 0 :: .c (.int .i64 0) :: .a 32 0 :: .c (.slice none 0 0) :: .c (.slice Ap f.ss.length cp) :: .c (.bool f.th) :: .a 32 f.a :: .a 32 f.x :: .c (.int .i64 nu) :: .a 32 sm :: .a 64 (le (List.take 64 sg)) :: .a 32 sm :: .c (.slice Au ss.length cu) :: .c (.slice none 0 0) :: .c (.slice none 0 0) :: .c v39_8 :: .c (.bool gone) :: .c (.int .i64 nu) :: .a 32 sm :: .c (.slice none 0 0) :: .a 32 0 :: .c (.slice none 0 0) :: [])) ?_ (hc := agF_setp (off := 379) 21 9) (hs := by rw [agF_size, agF_size]; exact Nat.le_of_ble_eq_true (by kernel_rfl)) (h1 := by exact (agF_one ⟨rfl, rfl, rfl, rfl, trivial⟩))
    refine MZ fun W hS => ?_
    rcases bool_or gone with hgone | hgone
    ·
     have _f := True.intro
     go_upto_region 47 with fail
     refine RL hS ?_
     clear hS
     refine MV ?_
     refine MG 4 ?_ (v := .bool true) (hj := ((agF_cel (off := 115) 22).trans (by rw [hgone])))
     refine MZ fun W hS => ?_
     by_cases h16 : tx.length ≤ 16
     ·
      have _f := h16
      go_upto_region 49 with fail
      refine RTp [0, 1, 2, 3, 4, 6, 7, 8, 9, 10] (.q 0 (.q 1 (.q 2 (.q 3 (.q 6 (.q 9 (.q 10 (.q 13 (.q 14 (.q 15 (.q 17 (.q 19 (.q 20 (.q 21 (.e 4 (.q 5 (.e 7 (.q 8 (.e 11 (.q 12 (.q 16 (.q 18 (.q 22 (.q 23 (.q 24 (.e 25 (.q 26 (.q 27 .z)))))))))))))))))))))))))))) hS ?_
      clear hS
      refine TL 6 ?_ (hs := by rw [agF_size]; kernel_rfl)
      refine TV ?_
      refine TV ?_
      refine TF (v := str tx) rfl (fun W hS => run_cvs (hS.osl (i := 8) rfl) rfl rfl) ?_
      refine TW ?_ (v := .int .i64 1)
      refine TV ?_
      refine TG 4 ?_ (v := .int .i64 nu) (hj := (agF_cel (off := 2) 2))
      refine TV ?_
      refine TW ?_ (v := .slice (some ⟨p1_1, 81, none⟩) 32 32)
      refine TF (v := str (lb 32 sm)) rfl (fun W hS => run_cvs (sl_part (V := sm) (n := 32) (off := 81) (c := 32) (hS.blk (i := 4) rfl) (agF_arr (off := 81) 19) (by decide) (by decide)) rfl rfl) ?_
      refine TV ?_
      refine TV ?_
      refine TF (v := .int .i64 (tx.length : Int)) rfl (fun W hS => run_lenA (hS.osl (i := 8) rfl) rfl rfl) ?_
      refine TW ?_ (v := .bool true) (hv := by intro W; go_simp; first | done | omega)
      refine TE (fun _ h => h.pick [0, 1, 2, 3, 4, 6, 7, 8, 9, 10]) ?_
      refine MC (v := str (tB tx)) (fun W hS => tx_i tx (by omega) W) ?_
      refine TNp [0, 1, 2, 3, 4, 6, 7, 8, 9, 10] [0, 1, 2, 3, 4, 5, 6, 7, 8, 9] ?_
      refine TW ?_ (v := str (([u8 k.toNat] ++ [u8 er.toNat]) ++ (tB tx))) (hv := fun _ => run_cat (l := ([u8 k.toNat] ++ [u8 er.toNat])) (m := (tB tx)) rfl rfl rfl (by first | omega | decide | (rw [List.length_map]; omega) | (simp only [List.length_nil, List.length_map]; omega) | (simp only [List.length_append, List.length_cons, List.length_nil, lb_length, eI_len, tB_len, sB_len]; omega)))
      refine TE (fun _ h => h.pick [0, 1, 2, 3, 4, 6, 7, 8, 9, 10]) ?_
      refine MC (v := str [u8 1]) (fun W hS => one_c 1 W) ?_
      refine TNp [0, 1, 2, 3, 4, 6, 7, 8, 9, 10] [0, 1, 2, 3, 4, 5, 6, 7, 8, 9] ?_
      refine TW ?_ (v := str ((([u8 k.toNat] ++ [u8 er.toNat]) ++ (tB tx)) ++ [u8 1])) (hv := fun _ => run_cat (l := (([u8 k.toNat] ++ [u8 er.toNat]) ++ (tB tx))) (m := [u8 1]) rfl rfl rfl (by first | omega | decide | (rw [List.length_map]; omega) | (simp only [List.length_nil, List.length_map]; omega) | (simp only [List.length_append, List.length_cons, List.length_nil, lb_length, eI_len, tB_len, sB_len]; omega)))
      refine TE (fun _ h => h.pick [0, 1, 2, 3, 4, 6, 7, 8, 9, 10]) ?_
      refine MC (v := str (eI nu)) (fun W hS => eight_i nu W) ?_
      refine TNp [0, 1, 2, 3, 4, 6, 7, 8, 9, 10] [0, 1, 2, 3, 4, 5, 6, 7, 8, 9] ?_
      refine TW ?_ (v := str (((([u8 k.toNat] ++ [u8 er.toNat]) ++ (tB tx)) ++ [u8 1]) ++ (eI nu))) (hv := fun _ => run_cat (l := ((([u8 k.toNat] ++ [u8 er.toNat]) ++ (tB tx)) ++ [u8 1])) (m := (eI nu)) rfl rfl rfl (by first | omega | decide | (rw [List.length_map]; omega) | (simp only [List.length_nil, List.length_map]; omega) | (simp only [List.length_append, List.length_cons, List.length_nil, lb_length, eI_len, tB_len, sB_len]; omega)))
      refine TW ?_ (v := str ((((([u8 k.toNat] ++ [u8 er.toNat]) ++ (tB tx)) ++ [u8 1]) ++ (eI nu)) ++ (lb 32 sm))) (hv := fun _ => run_cat (l := (((([u8 k.toNat] ++ [u8 er.toNat]) ++ (tB tx)) ++ [u8 1]) ++ (eI nu))) (m := (lb 32 sm)) rfl rfl rfl (by first | omega | decide | (rw [List.length_map]; omega) | (simp only [List.length_nil, List.length_map]; omega) | (simp only [List.length_append, List.length_cons, List.length_nil, lb_length, eI_len, tB_len, sB_len]; omega)))
      refine TW ?_ (v := str (((((([u8 k.toNat] ++ [u8 er.toNat]) ++ (tB tx)) ++ [u8 1]) ++ (eI nu)) ++ (lb 32 sm)) ++ uS)) (hv := fun _ => run_cat (l := ((((([u8 k.toNat] ++ [u8 er.toNat]) ++ (tB tx)) ++ [u8 1]) ++ (eI nu)) ++ (lb 32 sm))) (m := uS) rfl rfl rfl (by first | omega | decide | (rw [List.length_map]; omega) | (simp only [List.length_nil, List.length_map]; omega) | (simp only [List.length_append, List.length_cons, List.length_nil, lb_length, eI_len, tB_len, sB_len]; omega)))
      refine TW ?_ (v := .bool true)
      refine TW ?_ (v := .bool fw)
      refine TW ?_ (v := .bool fw)
      refine TE (fun _ h => h.pick [0, 1, 2, 3, 4, 6, 7, 8, 9, 10]) ?_
      refine MR 5 ?_ (hz := by rw [agF_size]; kernel_rfl) (hs := by first | (rw [agF_size, agF_size]; rfl) | rfl) (h1 := by exact (agF_one ⟨rfl, rfl, rfl, rfl, rfl, rfl, rfl, rfl, rfl, rfl, rfl, rfl, rfl, rfl, rfl, rfl, rfl, htc.2, rfl, rfl, rfl, rfl, trivial⟩))
      refine TNp [0, 1, 2, 3, 4, 6, 7, 8, 9, 10] [0, 1, 2, 3, 4, 5, 6, 7, 8, 9] ?_
      refine TV ?_
      refine TW ?_ (v := .bool fw)
      refine TZ (fun _ h => h.pick [0, 1, 2, 3, 4, 6, 7, 8, 9, 10]) fun W hS => ?_
      have hE := hS.entp (RR.pholds (by decide) b32l_len hR)
      obtain ⟨ea, es, eo⟩ := tq (t2_ok (t := (⟨k, er, nu, f, sm, ss, sg, tx, gone⟩ : Tp)) (x := v39_8) Hok.out He.out) (tp_11 Hk.out)
      dsimp only at ea es eo
      have hT : SH [] w W ([.p (fbR (.slice Ap f.ss.length cp) (f.ss.map b32l)) (fun W => RR 32 W (.slice Ap f.ss.length cp) (f.ss.map b32l)), .o v39_8 tx, .r 27 32 (.slice Au ss.length cu) (List.map b32l ss)] ++ []) := hE.pick [0, 10, 11]
      have hA : AnR (((⟨k, er, nu, f, sm, ss, sg, tx, gone⟩ : Tp)).A2 v39_8) ⟨nS, nS, nS, (.slice Ap f.ss.length cp), (.slice Au ss.length cu), nS, nS, v39_8, nS, nS⟩ W := by rw [ea]; exact ⟨sl_nil W, rr_nil 32 W, rr_nil 32 W, hT.pp (i := 0) rfl, (hT.row (i := 2) rfl).rr, enR_nil W, rr_nil 65 W, hT.osl (i := 1) rfl, sl_nil W, rr_nil 32 W⟩
      have hI : InN [.p (fbR (.slice Ap f.ss.length cp) (f.ss.map b32l)) (fun W => RR 32 W (.slice Ap f.ss.length cp) (f.ss.map b32l)), .o v39_8 tx, .r 27 32 (.slice Au ss.length cu) (List.map b32l ss)] (anFt (((⟨k, er, nu, f, sm, ss, sg, tx, gone⟩ : Tp)).A2 v39_8) ⟨nS, nS, nS, (.slice Ap f.ss.length cp), (.slice Au ss.length cu), nS, nS, v39_8, nS, nS⟩) := by rw [ea]; exact inN_an (inN_nil) (inN_nil) (inN_nil) (inN_p 0 rfl) (inN_r 2 rfl (row_fb (hT.row (i := 2) rfl))) (inN_nil) (inN_nil) (inN_o 1 rfl) (inN_nil) (inN_nil)
      have hZ := SH.fold hT (anT_holds hA) hI
      have hQ := SH.foldo (G := (fbR (.slice Ap f.ss.length cp) (f.ss.map b32l))) hT hI (frG rfl)
      have Ea := Lib.hid ea
      have Es := Lib.hid es
      have Eo := Lib.hid eo
      clear ea es eo
      go_wp2
      refine bodyPost_ret (res_c3 rfl rfl rfl rfl (hS.blk (i := 5) rfl) (by kernel_rfl) (by rw [agF_size]; kernel_rfl)) rfl ?_
      have ea := Ea.out
      have es := Es.out
      have eo := Eo.out
      refine ⟨v39_8, ⟨nS, nS, nS, (.slice Ap f.ss.length cp), (.slice Au ss.length cu), nS, nS, v39_8, nS, nS⟩, ?_, hZ, hQ⟩
      rw [ea, es, eo, HUS.out]
      refine tup3 rfl ?_ ?_
      ·
       first | rfl | (go_simp; done) | (simp only [List.append_assoc, List.cons_append, List.nil_append]; rfl) | (go_simp; simp only [List.append_assoc, List.cons_append, List.nil_append])
      ·
       rw [HFW.out]; first | rfl | (go_simp; done) | (simp [h16, hgone]; done)
     ·
      have _f := h16
      go_upto_region 49 with fail
      refine RTp [0, 1, 2, 3, 4, 6, 7, 8, 9, 10] (.q 0 (.q 1 (.q 2 (.q 3 (.q 6 (.q 9 (.q 10 (.q 13 (.q 14 (.q 15 (.q 17 (.q 19 (.q 20 (.q 21 (.e 4 (.q 5 (.e 7 (.q 8 (.e 11 (.q 12 (.q 16 (.q 18 (.q 22 (.q 23 (.q 24 (.e 25 (.q 26 (.q 27 .z)))))))))))))))))))))))))))) hS ?_
      clear hS
      refine TL 6 ?_ (hs := by rw [agF_size]; kernel_rfl)
      refine TV ?_
      refine TV ?_
      refine TF (v := str tx) rfl (fun W hS => run_cvs (hS.osl (i := 8) rfl) rfl rfl) ?_
      refine TW ?_ (v := .int .i64 1)
      refine TV ?_
      refine TG 4 ?_ (v := .int .i64 nu) (hj := (agF_cel (off := 2) 2))
      refine TV ?_
      refine TW ?_ (v := .slice (some ⟨p1_1, 81, none⟩) 32 32)
      refine TF (v := str (lb 32 sm)) rfl (fun W hS => run_cvs (sl_part (V := sm) (n := 32) (off := 81) (c := 32) (hS.blk (i := 4) rfl) (agF_arr (off := 81) 19) (by decide) (by decide)) rfl rfl) ?_
      refine TV ?_
      refine TV ?_
      refine TF (v := .int .i64 (tx.length : Int)) rfl (fun W hS => run_lenA (hS.osl (i := 8) rfl) rfl rfl) ?_
      refine TW ?_ (v := .bool false) (hv := by intro W; go_simp; first | done | omega)
      refine TE (fun _ h => h.pick [0, 1, 2, 3, 4, 6, 7, 8, 9, 10]) ?_
      refine MC (v := str (tB tx)) (fun W hS => tx_i tx (by omega) W) ?_
      refine TNp [0, 1, 2, 3, 4, 6, 7, 8, 9, 10] [0, 1, 2, 3, 4, 5, 6, 7, 8, 9] ?_
      refine TW ?_ (v := str (([u8 k.toNat] ++ [u8 er.toNat]) ++ (tB tx))) (hv := fun _ => run_cat (l := ([u8 k.toNat] ++ [u8 er.toNat])) (m := (tB tx)) rfl rfl rfl (by first | omega | decide | (rw [List.length_map]; omega) | (simp only [List.length_nil, List.length_map]; omega) | (simp only [List.length_append, List.length_cons, List.length_nil, lb_length, eI_len, tB_len, sB_len]; omega)))
      refine TE (fun _ h => h.pick [0, 1, 2, 3, 4, 6, 7, 8, 9, 10]) ?_
      refine MC (v := str [u8 1]) (fun W hS => one_c 1 W) ?_
      refine TNp [0, 1, 2, 3, 4, 6, 7, 8, 9, 10] [0, 1, 2, 3, 4, 5, 6, 7, 8, 9] ?_
      refine TW ?_ (v := str ((([u8 k.toNat] ++ [u8 er.toNat]) ++ (tB tx)) ++ [u8 1])) (hv := fun _ => run_cat (l := (([u8 k.toNat] ++ [u8 er.toNat]) ++ (tB tx))) (m := [u8 1]) rfl rfl rfl (by first | omega | decide | (rw [List.length_map]; omega) | (simp only [List.length_nil, List.length_map]; omega) | (simp only [List.length_append, List.length_cons, List.length_nil, lb_length, eI_len, tB_len, sB_len]; omega)))
      refine TE (fun _ h => h.pick [0, 1, 2, 3, 4, 6, 7, 8, 9, 10]) ?_
      refine MC (v := str (eI nu)) (fun W hS => eight_i nu W) ?_
      refine TNp [0, 1, 2, 3, 4, 6, 7, 8, 9, 10] [0, 1, 2, 3, 4, 5, 6, 7, 8, 9] ?_
      refine TW ?_ (v := str (((([u8 k.toNat] ++ [u8 er.toNat]) ++ (tB tx)) ++ [u8 1]) ++ (eI nu))) (hv := fun _ => run_cat (l := ((([u8 k.toNat] ++ [u8 er.toNat]) ++ (tB tx)) ++ [u8 1])) (m := (eI nu)) rfl rfl rfl (by first | omega | decide | (rw [List.length_map]; omega) | (simp only [List.length_nil, List.length_map]; omega) | (simp only [List.length_append, List.length_cons, List.length_nil, lb_length, eI_len, tB_len, sB_len]; omega)))
      refine TW ?_ (v := str ((((([u8 k.toNat] ++ [u8 er.toNat]) ++ (tB tx)) ++ [u8 1]) ++ (eI nu)) ++ (lb 32 sm))) (hv := fun _ => run_cat (l := (((([u8 k.toNat] ++ [u8 er.toNat]) ++ (tB tx)) ++ [u8 1]) ++ (eI nu))) (m := (lb 32 sm)) rfl rfl rfl (by first | omega | decide | (rw [List.length_map]; omega) | (simp only [List.length_nil, List.length_map]; omega) | (simp only [List.length_append, List.length_cons, List.length_nil, lb_length, eI_len, tB_len, sB_len]; omega)))
      refine TW ?_ (v := str (((((([u8 k.toNat] ++ [u8 er.toNat]) ++ (tB tx)) ++ [u8 1]) ++ (eI nu)) ++ (lb 32 sm)) ++ uS)) (hv := fun _ => run_cat (l := ((((([u8 k.toNat] ++ [u8 er.toNat]) ++ (tB tx)) ++ [u8 1]) ++ (eI nu)) ++ (lb 32 sm))) (m := uS) rfl rfl rfl (by first | omega | decide | (rw [List.length_map]; omega) | (simp only [List.length_nil, List.length_map]; omega) | (simp only [List.length_append, List.length_cons, List.length_nil, lb_length, eI_len, tB_len, sB_len]; omega)))
      refine TW ?_ (v := .bool false)
      refine TS ?_
      refine TW ?_ (v := .bool false)
      refine TE (fun _ h => h.pick [0, 1, 2, 3, 4, 6, 7, 8, 9, 10]) ?_
      refine MR 5 ?_ (hz := by rw [agF_size]; kernel_rfl) (hs := by first | (rw [agF_size, agF_size]; rfl) | rfl) (h1 := by exact (agF_one ⟨rfl, rfl, rfl, rfl, rfl, rfl, rfl, rfl, rfl, rfl, rfl, rfl, rfl, rfl, rfl, rfl, rfl, htc.2, rfl, rfl, rfl, rfl, trivial⟩))
      refine TNp [0, 1, 2, 3, 4, 6, 7, 8, 9, 10] [0, 1, 2, 3, 4, 5, 6, 7, 8, 9] ?_
      refine TV ?_
      refine TW ?_ (v := .bool false)
      refine TZ (fun _ h => h.pick [0, 1, 2, 3, 4, 6, 7, 8, 9, 10]) fun W hS => ?_
      have hE := hS.entp (RR.pholds (by decide) b32l_len hR)
      obtain ⟨ea, es, eo⟩ := tq (t2_ok (t := (⟨k, er, nu, f, sm, ss, sg, tx, gone⟩ : Tp)) (x := v39_8) Hok.out He.out) (tp_11 Hk.out)
      dsimp only at ea es eo
      have hT : SH [] w W ([.p (fbR (.slice Ap f.ss.length cp) (f.ss.map b32l)) (fun W => RR 32 W (.slice Ap f.ss.length cp) (f.ss.map b32l)), .o v39_8 tx, .r 27 32 (.slice Au ss.length cu) (List.map b32l ss)] ++ []) := hE.pick [0, 10, 11]
      have hA : AnR (((⟨k, er, nu, f, sm, ss, sg, tx, gone⟩ : Tp)).A2 v39_8) ⟨nS, nS, nS, (.slice Ap f.ss.length cp), (.slice Au ss.length cu), nS, nS, v39_8, nS, nS⟩ W := by rw [ea]; exact ⟨sl_nil W, rr_nil 32 W, rr_nil 32 W, hT.pp (i := 0) rfl, (hT.row (i := 2) rfl).rr, enR_nil W, rr_nil 65 W, hT.osl (i := 1) rfl, sl_nil W, rr_nil 32 W⟩
      have hI : InN [.p (fbR (.slice Ap f.ss.length cp) (f.ss.map b32l)) (fun W => RR 32 W (.slice Ap f.ss.length cp) (f.ss.map b32l)), .o v39_8 tx, .r 27 32 (.slice Au ss.length cu) (List.map b32l ss)] (anFt (((⟨k, er, nu, f, sm, ss, sg, tx, gone⟩ : Tp)).A2 v39_8) ⟨nS, nS, nS, (.slice Ap f.ss.length cp), (.slice Au ss.length cu), nS, nS, v39_8, nS, nS⟩) := by rw [ea]; exact inN_an (inN_nil) (inN_nil) (inN_nil) (inN_p 0 rfl) (inN_r 2 rfl (row_fb (hT.row (i := 2) rfl))) (inN_nil) (inN_nil) (inN_o 1 rfl) (inN_nil) (inN_nil)
      have hZ := SH.fold hT (anT_holds hA) hI
      have hQ := SH.foldo (G := (fbR (.slice Ap f.ss.length cp) (f.ss.map b32l))) hT hI (frG rfl)
      have Ea := Lib.hid ea
      have Es := Lib.hid es
      have Eo := Lib.hid eo
      clear ea es eo
      go_wp2
      refine bodyPost_ret (res_c3 rfl rfl rfl rfl (hS.blk (i := 5) rfl) (by kernel_rfl) (by rw [agF_size]; kernel_rfl)) rfl ?_
      have ea := Ea.out
      have es := Es.out
      have eo := Eo.out
      refine ⟨v39_8, ⟨nS, nS, nS, (.slice Ap f.ss.length cp), (.slice Au ss.length cu), nS, nS, v39_8, nS, nS⟩, ?_, hZ, hQ⟩
      rw [ea, es, eo, HUS.out]
      refine tup3 rfl ?_ ?_
      ·
       first | rfl | (go_simp; done) | (simp only [List.append_assoc, List.cons_append, List.nil_append]; rfl) | (go_simp; simp only [List.append_assoc, List.cons_append, List.nil_append])
      ·
       rw [HFW.out]; first | rfl | (go_simp; done) | (simp [h16, hgone]; done)
    ·
     have _f := True.intro
     go_upto_region 47 with fail
     refine RL hS ?_
     clear hS
     refine MV ?_
     refine MG 4 ?_ (v := .bool false) (hj := ((agF_cel (off := 115) 22).trans (by rw [hgone])))
     refine MZ fun W hS => ?_
     by_cases h16 : tx.length ≤ 16
     ·
      have _f := h16
      go_upto_region 49 with fail
      refine RTp [0, 1, 2, 3, 4, 6, 7, 8, 9, 10] (.q 0 (.q 1 (.q 2 (.q 3 (.q 6 (.q 9 (.q 10 (.q 13 (.q 14 (.q 15 (.q 17 (.q 19 (.q 20 (.q 21 (.e 4 (.q 5 (.e 7 (.q 8 (.e 11 (.q 12 (.q 16 (.q 18 (.q 22 (.q 23 (.q 24 (.e 25 (.q 26 (.q 27 .z)))))))))))))))))))))))))))) hS ?_
      clear hS
      refine TL 6 ?_ (hs := by rw [agF_size]; kernel_rfl)
      refine TV ?_
      refine TV ?_
      refine TF (v := str tx) rfl (fun W hS => run_cvs (hS.osl (i := 8) rfl) rfl rfl) ?_
      refine TW ?_ (v := .int .i64 0)
      refine TV ?_
      refine TG 4 ?_ (v := .int .i64 nu) (hj := (agF_cel (off := 2) 2))
      refine TV ?_
      refine TW ?_ (v := .slice (some ⟨p1_1, 81, none⟩) 32 32)
      refine TF (v := str (lb 32 sm)) rfl (fun W hS => run_cvs (sl_part (V := sm) (n := 32) (off := 81) (c := 32) (hS.blk (i := 4) rfl) (agF_arr (off := 81) 19) (by decide) (by decide)) rfl rfl) ?_
      refine TV ?_
      refine TV ?_
      refine TF (v := .int .i64 (tx.length : Int)) rfl (fun W hS => run_lenA (hS.osl (i := 8) rfl) rfl rfl) ?_
      refine TW ?_ (v := .bool true) (hv := by intro W; go_simp; first | done | omega)
      refine TE (fun _ h => h.pick [0, 1, 2, 3, 4, 6, 7, 8, 9, 10]) ?_
      refine MC (v := str (tB tx)) (fun W hS => tx_i tx (by omega) W) ?_
      refine TNp [0, 1, 2, 3, 4, 6, 7, 8, 9, 10] [0, 1, 2, 3, 4, 5, 6, 7, 8, 9] ?_
      refine TW ?_ (v := str (([u8 k.toNat] ++ [u8 er.toNat]) ++ (tB tx))) (hv := fun _ => run_cat (l := ([u8 k.toNat] ++ [u8 er.toNat])) (m := (tB tx)) rfl rfl rfl (by first | omega | decide | (rw [List.length_map]; omega) | (simp only [List.length_nil, List.length_map]; omega) | (simp only [List.length_append, List.length_cons, List.length_nil, lb_length, eI_len, tB_len, sB_len]; omega)))
      refine TE (fun _ h => h.pick [0, 1, 2, 3, 4, 6, 7, 8, 9, 10]) ?_
      refine MC (v := str [u8 0]) (fun W hS => one_c 0 W) ?_
      refine TNp [0, 1, 2, 3, 4, 6, 7, 8, 9, 10] [0, 1, 2, 3, 4, 5, 6, 7, 8, 9] ?_
      refine TW ?_ (v := str ((([u8 k.toNat] ++ [u8 er.toNat]) ++ (tB tx)) ++ [u8 0])) (hv := fun _ => run_cat (l := (([u8 k.toNat] ++ [u8 er.toNat]) ++ (tB tx))) (m := [u8 0]) rfl rfl rfl (by first | omega | decide | (rw [List.length_map]; omega) | (simp only [List.length_nil, List.length_map]; omega) | (simp only [List.length_append, List.length_cons, List.length_nil, lb_length, eI_len, tB_len, sB_len]; omega)))
      refine TE (fun _ h => h.pick [0, 1, 2, 3, 4, 6, 7, 8, 9, 10]) ?_
      refine MC (v := str (eI nu)) (fun W hS => eight_i nu W) ?_
      refine TNp [0, 1, 2, 3, 4, 6, 7, 8, 9, 10] [0, 1, 2, 3, 4, 5, 6, 7, 8, 9] ?_
      refine TW ?_ (v := str (((([u8 k.toNat] ++ [u8 er.toNat]) ++ (tB tx)) ++ [u8 0]) ++ (eI nu))) (hv := fun _ => run_cat (l := ((([u8 k.toNat] ++ [u8 er.toNat]) ++ (tB tx)) ++ [u8 0])) (m := (eI nu)) rfl rfl rfl (by first | omega | decide | (rw [List.length_map]; omega) | (simp only [List.length_nil, List.length_map]; omega) | (simp only [List.length_append, List.length_cons, List.length_nil, lb_length, eI_len, tB_len, sB_len]; omega)))
      refine TW ?_ (v := str ((((([u8 k.toNat] ++ [u8 er.toNat]) ++ (tB tx)) ++ [u8 0]) ++ (eI nu)) ++ (lb 32 sm))) (hv := fun _ => run_cat (l := (((([u8 k.toNat] ++ [u8 er.toNat]) ++ (tB tx)) ++ [u8 0]) ++ (eI nu))) (m := (lb 32 sm)) rfl rfl rfl (by first | omega | decide | (rw [List.length_map]; omega) | (simp only [List.length_nil, List.length_map]; omega) | (simp only [List.length_append, List.length_cons, List.length_nil, lb_length, eI_len, tB_len, sB_len]; omega)))
      refine TW ?_ (v := str (((((([u8 k.toNat] ++ [u8 er.toNat]) ++ (tB tx)) ++ [u8 0]) ++ (eI nu)) ++ (lb 32 sm)) ++ uS)) (hv := fun _ => run_cat (l := ((((([u8 k.toNat] ++ [u8 er.toNat]) ++ (tB tx)) ++ [u8 0]) ++ (eI nu)) ++ (lb 32 sm))) (m := uS) rfl rfl rfl (by first | omega | decide | (rw [List.length_map]; omega) | (simp only [List.length_nil, List.length_map]; omega) | (simp only [List.length_append, List.length_cons, List.length_nil, lb_length, eI_len, tB_len, sB_len]; omega)))
      refine TW ?_ (v := .bool true)
      refine TW ?_ (v := .bool fw)
      refine TW ?_ (v := .bool fw)
      refine TE (fun _ h => h.pick [0, 1, 2, 3, 4, 6, 7, 8, 9, 10]) ?_
      refine MR 5 ?_ (hz := by rw [agF_size]; kernel_rfl) (hs := by first | (rw [agF_size, agF_size]; rfl) | rfl) (h1 := by exact (agF_one ⟨rfl, rfl, rfl, rfl, rfl, rfl, rfl, rfl, rfl, rfl, rfl, rfl, rfl, rfl, rfl, rfl, rfl, htc.2, rfl, rfl, rfl, rfl, trivial⟩))
      refine TNp [0, 1, 2, 3, 4, 6, 7, 8, 9, 10] [0, 1, 2, 3, 4, 5, 6, 7, 8, 9] ?_
      refine TV ?_
      refine TW ?_ (v := .bool fw)
      refine TZ (fun _ h => h.pick [0, 1, 2, 3, 4, 6, 7, 8, 9, 10]) fun W hS => ?_
      have hE := hS.entp (RR.pholds (by decide) b32l_len hR)
      obtain ⟨ea, es, eo⟩ := tq (t2_ok (t := (⟨k, er, nu, f, sm, ss, sg, tx, gone⟩ : Tp)) (x := v39_8) Hok.out He.out) (tp_11 Hk.out)
      dsimp only at ea es eo
      have hT : SH [] w W ([.p (fbR (.slice Ap f.ss.length cp) (f.ss.map b32l)) (fun W => RR 32 W (.slice Ap f.ss.length cp) (f.ss.map b32l)), .o v39_8 tx, .r 27 32 (.slice Au ss.length cu) (List.map b32l ss)] ++ []) := hE.pick [0, 10, 11]
      have hA : AnR (((⟨k, er, nu, f, sm, ss, sg, tx, gone⟩ : Tp)).A2 v39_8) ⟨nS, nS, nS, (.slice Ap f.ss.length cp), (.slice Au ss.length cu), nS, nS, v39_8, nS, nS⟩ W := by rw [ea]; exact ⟨sl_nil W, rr_nil 32 W, rr_nil 32 W, hT.pp (i := 0) rfl, (hT.row (i := 2) rfl).rr, enR_nil W, rr_nil 65 W, hT.osl (i := 1) rfl, sl_nil W, rr_nil 32 W⟩
      have hI : InN [.p (fbR (.slice Ap f.ss.length cp) (f.ss.map b32l)) (fun W => RR 32 W (.slice Ap f.ss.length cp) (f.ss.map b32l)), .o v39_8 tx, .r 27 32 (.slice Au ss.length cu) (List.map b32l ss)] (anFt (((⟨k, er, nu, f, sm, ss, sg, tx, gone⟩ : Tp)).A2 v39_8) ⟨nS, nS, nS, (.slice Ap f.ss.length cp), (.slice Au ss.length cu), nS, nS, v39_8, nS, nS⟩) := by rw [ea]; exact inN_an (inN_nil) (inN_nil) (inN_nil) (inN_p 0 rfl) (inN_r 2 rfl (row_fb (hT.row (i := 2) rfl))) (inN_nil) (inN_nil) (inN_o 1 rfl) (inN_nil) (inN_nil)
      have hZ := SH.fold hT (anT_holds hA) hI
      have hQ := SH.foldo (G := (fbR (.slice Ap f.ss.length cp) (f.ss.map b32l))) hT hI (frG rfl)
      have Ea := Lib.hid ea
      have Es := Lib.hid es
      have Eo := Lib.hid eo
      clear ea es eo
      go_wp2
      refine bodyPost_ret (res_c3 rfl rfl rfl rfl (hS.blk (i := 5) rfl) (by kernel_rfl) (by rw [agF_size]; kernel_rfl)) rfl ?_
      have ea := Ea.out
      have es := Es.out
      have eo := Eo.out
      refine ⟨v39_8, ⟨nS, nS, nS, (.slice Ap f.ss.length cp), (.slice Au ss.length cu), nS, nS, v39_8, nS, nS⟩, ?_, hZ, hQ⟩
      rw [ea, es, eo, HUS.out]
      refine tup3 rfl ?_ ?_
      ·
       first | rfl | (go_simp; done) | (simp only [List.append_assoc, List.cons_append, List.nil_append]; rfl) | (go_simp; simp only [List.append_assoc, List.cons_append, List.nil_append])
      ·
       rw [HFW.out]; first | rfl | (go_simp; done) | (simp [h16, hgone]; done)
     ·
      have _f := h16
      go_upto_region 49 with fail
      refine RTp [0, 1, 2, 3, 4, 6, 7, 8, 9, 10] (.q 0 (.q 1 (.q 2 (.q 3 (.q 6 (.q 9 (.q 10 (.q 13 (.q 14 (.q 15 (.q 17 (.q 19 (.q 20 (.q 21 (.e 4 (.q 5 (.e 7 (.q 8 (.e 11 (.q 12 (.q 16 (.q 18 (.q 22 (.q 23 (.q 24 (.e 25 (.q 26 (.q 27 .z)))))))))))))))))))))))))))) hS ?_
      clear hS
      refine TL 6 ?_ (hs := by rw [agF_size]; kernel_rfl)
      refine TV ?_
      refine TV ?_
      refine TF (v := str tx) rfl (fun W hS => run_cvs (hS.osl (i := 8) rfl) rfl rfl) ?_
      refine TW ?_ (v := .int .i64 0)
      refine TV ?_
      refine TG 4 ?_ (v := .int .i64 nu) (hj := (agF_cel (off := 2) 2))
      refine TV ?_
      refine TW ?_ (v := .slice (some ⟨p1_1, 81, none⟩) 32 32)
      refine TF (v := str (lb 32 sm)) rfl (fun W hS => run_cvs (sl_part (V := sm) (n := 32) (off := 81) (c := 32) (hS.blk (i := 4) rfl) (agF_arr (off := 81) 19) (by decide) (by decide)) rfl rfl) ?_
      refine TV ?_
      refine TV ?_
      refine TF (v := .int .i64 (tx.length : Int)) rfl (fun W hS => run_lenA (hS.osl (i := 8) rfl) rfl rfl) ?_
      refine TW ?_ (v := .bool false) (hv := by intro W; go_simp; first | done | omega)
      refine TE (fun _ h => h.pick [0, 1, 2, 3, 4, 6, 7, 8, 9, 10]) ?_
      refine MC (v := str (tB tx)) (fun W hS => tx_i tx (by omega) W) ?_
      refine TNp [0, 1, 2, 3, 4, 6, 7, 8, 9, 10] [0, 1, 2, 3, 4, 5, 6, 7, 8, 9] ?_
      refine TW ?_ (v := str (([u8 k.toNat] ++ [u8 er.toNat]) ++ (tB tx))) (hv := fun _ => run_cat (l := ([u8 k.toNat] ++ [u8 er.toNat])) (m := (tB tx)) rfl rfl rfl (by first | omega | decide | (rw [List.length_map]; omega) | (simp only [List.length_nil, List.length_map]; omega) | (simp only [List.length_append, List.length_cons, List.length_nil, lb_length, eI_len, tB_len, sB_len]; omega)))
      refine TE (fun _ h => h.pick [0, 1, 2, 3, 4, 6, 7, 8, 9, 10]) ?_
      refine MC (v := str [u8 0]) (fun W hS => one_c 0 W) ?_
      refine TNp [0, 1, 2, 3, 4, 6, 7, 8, 9, 10] [0, 1, 2, 3, 4, 5, 6, 7, 8, 9] ?_
      refine TW ?_ (v := str ((([u8 k.toNat] ++ [u8 er.toNat]) ++ (tB tx)) ++ [u8 0])) (hv := fun _ => run_cat (l := (([u8 k.toNat] ++ [u8 er.toNat]) ++ (tB tx))) (m := [u8 0]) rfl rfl rfl (by first | omega | decide | (rw [List.length_map]; omega) | (simp only [List.length_nil, List.length_map]; omega) | (simp only [List.length_append, List.length_cons, List.length_nil, lb_length, eI_len, tB_len, sB_len]; omega)))
      refine TE (fun _ h => h.pick [0, 1, 2, 3, 4, 6, 7, 8, 9, 10]) ?_
      refine MC (v := str (eI nu)) (fun W hS => eight_i nu W) ?_
      refine TNp [0, 1, 2, 3, 4, 6, 7, 8, 9, 10] [0, 1, 2, 3, 4, 5, 6, 7, 8, 9] ?_
      refine TW ?_ (v := str (((([u8 k.toNat] ++ [u8 er.toNat]) ++ (tB tx)) ++ [u8 0]) ++ (eI nu))) (hv := fun _ => run_cat (l := ((([u8 k.toNat] ++ [u8 er.toNat]) ++ (tB tx)) ++ [u8 0])) (m := (eI nu)) rfl rfl rfl (by first | omega | decide | (rw [List.length_map]; omega) | (simp only [List.length_nil, List.length_map]; omega) | (simp only [List.length_append, List.length_cons, List.length_nil, lb_length, eI_len, tB_len, sB_len]; omega)))
      refine TW ?_ (v := str ((((([u8 k.toNat] ++ [u8 er.toNat]) ++ (tB tx)) ++ [u8 0]) ++ (eI nu)) ++ (lb 32 sm))) (hv := fun _ => run_cat (l := (((([u8 k.toNat] ++ [u8 er.toNat]) ++ (tB tx)) ++ [u8 0]) ++ (eI nu))) (m := (lb 32 sm)) rfl rfl rfl (by first | omega | decide | (rw [List.length_map]; omega) | (simp only [List.length_nil, List.length_map]; omega) | (simp only [List.length_append, List.length_cons, List.length_nil, lb_length, eI_len, tB_len, sB_len]; omega)))
      refine TW ?_ (v := str (((((([u8 k.toNat] ++ [u8 er.toNat]) ++ (tB tx)) ++ [u8 0]) ++ (eI nu)) ++ (lb 32 sm)) ++ uS)) (hv := fun _ => run_cat (l := ((((([u8 k.toNat] ++ [u8 er.toNat]) ++ (tB tx)) ++ [u8 0]) ++ (eI nu)) ++ (lb 32 sm))) (m := uS) rfl rfl rfl (by first | omega | decide | (rw [List.length_map]; omega) | (simp only [List.length_nil, List.length_map]; omega) | (simp only [List.length_append, List.length_cons, List.length_nil, lb_length, eI_len, tB_len, sB_len]; omega)))
      refine TW ?_ (v := .bool false)
      refine TS ?_
      refine TW ?_ (v := .bool false)
      refine TE (fun _ h => h.pick [0, 1, 2, 3, 4, 6, 7, 8, 9, 10]) ?_
      refine MR 5 ?_ (hz := by rw [agF_size]; kernel_rfl) (hs := by first | (rw [agF_size, agF_size]; rfl) | rfl) (h1 := by exact (agF_one ⟨rfl, rfl, rfl, rfl, rfl, rfl, rfl, rfl, rfl, rfl, rfl, rfl, rfl, rfl, rfl, rfl, rfl, htc.2, rfl, rfl, rfl, rfl, trivial⟩))
      refine TNp [0, 1, 2, 3, 4, 6, 7, 8, 9, 10] [0, 1, 2, 3, 4, 5, 6, 7, 8, 9] ?_
      refine TV ?_
      refine TW ?_ (v := .bool false)
      refine TZ (fun _ h => h.pick [0, 1, 2, 3, 4, 6, 7, 8, 9, 10]) fun W hS => ?_
      have hE := hS.entp (RR.pholds (by decide) b32l_len hR)
      obtain ⟨ea, es, eo⟩ := tq (t2_ok (t := (⟨k, er, nu, f, sm, ss, sg, tx, gone⟩ : Tp)) (x := v39_8) Hok.out He.out) (tp_11 Hk.out)
      dsimp only at ea es eo
      have hT : SH [] w W ([.p (fbR (.slice Ap f.ss.length cp) (f.ss.map b32l)) (fun W => RR 32 W (.slice Ap f.ss.length cp) (f.ss.map b32l)), .o v39_8 tx, .r 27 32 (.slice Au ss.length cu) (List.map b32l ss)] ++ []) := hE.pick [0, 10, 11]
      have hA : AnR (((⟨k, er, nu, f, sm, ss, sg, tx, gone⟩ : Tp)).A2 v39_8) ⟨nS, nS, nS, (.slice Ap f.ss.length cp), (.slice Au ss.length cu), nS, nS, v39_8, nS, nS⟩ W := by rw [ea]; exact ⟨sl_nil W, rr_nil 32 W, rr_nil 32 W, hT.pp (i := 0) rfl, (hT.row (i := 2) rfl).rr, enR_nil W, rr_nil 65 W, hT.osl (i := 1) rfl, sl_nil W, rr_nil 32 W⟩
      have hI : InN [.p (fbR (.slice Ap f.ss.length cp) (f.ss.map b32l)) (fun W => RR 32 W (.slice Ap f.ss.length cp) (f.ss.map b32l)), .o v39_8 tx, .r 27 32 (.slice Au ss.length cu) (List.map b32l ss)] (anFt (((⟨k, er, nu, f, sm, ss, sg, tx, gone⟩ : Tp)).A2 v39_8) ⟨nS, nS, nS, (.slice Ap f.ss.length cp), (.slice Au ss.length cu), nS, nS, v39_8, nS, nS⟩) := by rw [ea]; exact inN_an (inN_nil) (inN_nil) (inN_nil) (inN_p 0 rfl) (inN_r 2 rfl (row_fb (hT.row (i := 2) rfl))) (inN_nil) (inN_nil) (inN_o 1 rfl) (inN_nil) (inN_nil)
      have hZ := SH.fold hT (anT_holds hA) hI
      have hQ := SH.foldo (G := (fbR (.slice Ap f.ss.length cp) (f.ss.map b32l))) hT hI (frG rfl)
      have Ea := Lib.hid ea
      have Es := Lib.hid es
      have Eo := Lib.hid eo
      clear ea es eo
      go_wp2
      refine bodyPost_ret (res_c3 rfl rfl rfl rfl (hS.blk (i := 5) rfl) (by kernel_rfl) (by rw [agF_size]; kernel_rfl)) rfl ?_
      have ea := Ea.out
      have es := Es.out
      have eo := Eo.out
      refine ⟨v39_8, ⟨nS, nS, nS, (.slice Ap f.ss.length cp), (.slice Au ss.length cu), nS, nS, v39_8, nS, nS⟩, ?_, hZ, hQ⟩
      rw [ea, es, eo, HUS.out]
      refine tup3 rfl ?_ ?_
      ·
       first | rfl | (go_simp; done) | (simp only [List.append_assoc, List.cons_append, List.nil_append]; rfl) | (go_simp; simp only [List.append_assoc, List.cons_append, List.nil_append])
      ·
       rw [HFW.out]; first | rfl | (go_simp; done) | (simp [h16, hgone]; done)
   ·
    have _f := True.intro
    have Hk := Lib.hid hk
    have hk1 : k ≤ 7 := by omega
    have hk2 : 7 ≤ k := by omega
    clear hk
    obtain ⟨bS, hbS⟩ : ∃ bS, ((⟨k, er, nu, f, sm, ss, sg, tx, gone⟩ : Tp)).hd ++ eI (ss.length : Int) = bS := ⟨_, rfl⟩
    have hbSl : bS.length ≤ 100 := by rw [← hbS]; show ([u8 k.toNat] ++ [u8 er.toNat] ++ eI (ss.length : Int)).length ≤ 100; simp only [List.length_append, List.length_cons, List.length_nil, eI_len]; omega
    have HBS := Lib.hid hbS
    clear hbS
    go_upto_region 16 with fail
    refine RL hS ?_
    clear hS
    refine MW ?_ (v := .bool false) (hv := by intro W; go_simp; first | done | omega | decide)
    refine MW ?_ (v := .bool false)
    refine MZ fun W hS => ?_
    go_upto_region 17 with fail
    refine RL hS ?_
    clear hS
    refine MW ?_ (v := .bool false) (hv := by intro W; go_simp; first | done | omega | decide)
    refine MW ?_ (v := .bool false)
    refine MZ fun W hS => ?_
    go_upto_region 20 with fail
    refine RL hS ?_
    clear hS
    refine MW ?_ (v := .bool false) (hv := by intro W; go_simp; first | done | omega | decide)
    refine MW ?_ (v := .bool false)
    refine MZ fun W hS => ?_
    go_upto_region 24 with fail
    refine RL hS ?_
    clear hS
    refine MW ?_ (v := .bool true) (hv := by intro W; go_simp; first | done | omega | decide)
    refine MW ?_ (v := .bool true)
    refine MZ fun W hS => ?_
    go_upto_region 25 with fail
    refine RL hS ?_
    clear hS
    refine MV ?_
    refine MV ?_
    refine MV ?_
    refine MC (v := str (eI (ss.length : Int))) (fun W hS => eight_i (ss.length : Int) W) ?_
    refine MW ?_ (v := str bS) (hv := by intro W; rw [← HBS.out]; exact run_cat (l := [u8 k.toNat] ++ [u8 er.toNat]) (m := eI (ss.length : Int)) rfl rfl rfl (by simp only [List.length_append, List.length_cons, List.length_nil, eI_len]; omega))
    refine MV ?_
    refine MZ fun W hS => ?_
    have hS := hS.rnil 125 3 rfl
    go_wp2_with fail
    go_loopw [9, 16] (fun tt ii wr => ∃ (i : Nat) (ev : Value), (i ≤ ss.length) ∧ (tt = str (bS ++ enS nu tx i)) ∧ (ii = .int .i64 (i : Int)) ∧ SH [] w wr [.r 125 3 ev (List.map enC (enA nu v39_8 tx i)), .b p8_9 (agF (.c (.int .i64 k) :: .c (.int .i64 er) :: .c (.int .i64 0) :: .c (.int .i64 0) :: .a 32 0 :: .a 80 0 :: .c (.bool false) :: .c (.int .i64 0) :: .c (.slice none 0 0) :: .a 32 0 :: .a 32 0 :: .c (.slice none 0 0) :: .c (.bool false) :: .a 32 0 :: .a 32 0 :: .a 32 0 :: .a 32 0 :: .a 32 0 :: .c (.int .i64 0) :: .a 32 0 :: .c (.slice none 0 0) :: .c (.slice none 0 0) :: .c (.bool false) :: .a 32 0 :: .a 32 0 :: .c (.int .i64 0) :: .a 32 0 :: .a 64 0 :: .a 32 0 :: .c (.slice none 0 0) :: .c ev :: .c (.slice none 0 0) :: .c (.slice none 0 0) :: .c (.bool false) :: .c (.int .i64 0) :: .a 32 0 :: .c (.slice none 0 0) :: .a 32 0 :: .c (.slice none 0 0) :: [])) 85, .b p2_2 (agF (.c (.int .i64 0) :: .c (.int .i64 0) :: .c (.int .i64 0) :: .c (.int .i64 0) :: .a 32 0 :: .a 80 0 :: .c (.bool false) :: .c (.int .i64 0) :: .c (.slice none 0 0) :: .a 32 0 :: .a 32 0 :: .c (.slice none 0 0) :: .c (.bool false) :: .a 32 0 :: .a 32 0 :: .a 32 0 :: .a 32 0 :: .a 32 0 :: .c (.int .i64 0) :: .a 32 0 :: .c (.slice none 0 0) :: .c (.slice none 0 0) :: .c (.bool false) :: .a 32 0 :: .a 32 0 :: .c (.int .i64 0) :: .a 32 0 :: .a 64 0 :: .a 32 0 :: .c (.slice none 0 0) :: .c (.slice none 0 0) :: .c (.slice none 0 0) :: .c (.slice none 0 0) :: .c (.bool false) :: .c (.int .i64 0) :: .a 32 0 :: .c (.slice none 0 0) :: .a 32 0 :: .c (.slice none 0 0) :: [])) 85, .b p1_1 (agF [.c (.int .i64 k), .c (.int .i64 er), .c (.int .i64 nu), .c (.int .i64 d.ep), .c (str d.ix), .c (str d.vr), .c (.bool d.pre), .c (.int .i64 d.ver), .c (str d.val), .c (str d.bo), .c (str d.op), .c sv, .c (.bool d.th), .a 32 d.a, .a 32 d.x, .c (str d.ro), .c (str d.li), .c (str d.ah), .c (.int .i64 d.rd), .a 32 sm, .c (.slice Aq us.length cq), .c tv, .c (.bool gone)]) 74, .r 27 32 (.slice Au ss.length cu) (List.map b32l ss), .o v39_8 tx])
     (fun tt ii _ => ss.length - (intOf ii).toNat)
    case atStart => exact ⟨0, _, Nat.zero_le _, by rw [enS_0, List.append_nil], rfl, (by rw [enA_0]; exact (hS.pick [0, 8, 6, 5, 11, 10]))⟩
    clear hS
    case round =>
     obtain ⟨i, ev, hi, rfl, rfl, hS⟩ := hrel
     have hel_ : (List.map enC (enA nu v39_8 tx i)).length = i := by rw [List.length_map, enA_len]
     have hes_ : (enS nu tx i).length ≤ 40000 := by have h_ := enS_len nu tx htxl i; omega
     by_cases hlt : i < ss.length
     ·
      have _f := hlt
      go_upto_region 27 with fail
      refine RL hS ?_
      clear hS
      refine MV ?_
      refine MV ?_
      refine MV ?_
      refine MW ?_ (v := .bool true)
      refine MZ fun W hS => ?_
      go_upto_region 29 with fail
      refine RL hS ?_
      clear hS
      refine MV ?_
      refine MG 1 ?_ (v := ev) (hj := (agF_cel (off := 575) 30))
      refine MV ?_
      refine MV ?_
      refine MG 3 ?_ (v := .int .i64 nu) (hj := (agF_cel (off := 2) 2))
      refine MV ?_
      refine MF (v := .agg (agF [.c (.int .i64 (i : Int)), .c (.int .i64 nu), .c v39_8])) (fun W hS => run_bld rfl rfl zer_direct_Entry plc_direct_Entry (fill_c (fill_c (fill_c fill_n (l' := [.c (.int .i64 (i : Int)), .c (.int .i64 nu), .c v39_8]) (m := [.c v39_8]) (hv := (htc).1) (hs := agF_setp (off := 2) 2 1) (hp := rfl) (hn := rfl) (hb := by show 2 + 1 ≤ 3; decide)) (l' := [.c (.int .i64 (i : Int)), .c (.int .i64 nu), .c (.slice none 0 0)]) (m := [.c (.int .i64 nu)]) (hv := rfl) (hs := agF_setp (off := 1) 1 1) (hp := rfl) (hn := rfl) (hb := by show 1 + 1 ≤ 3; decide)) (l' := [.c (.int .i64 (i : Int)), .c (.int .i64 0), .c (.slice none 0 0)]) (m := [.c (.int .i64 (i : Int))]) (hv := rfl) (hs := agF_setp (off := 0) 0 1) (hp := rfl) (hn := rfl) (hb := by show 0 + 1 ≤ 3; decide))) ?_
      refine MB (z := (agF [.c (.int .i64 (i : Int)), .c (.int .i64 nu), .c v39_8])) (t := 125) (n := 1) (c := 1) ?_ (hr := fun W _ => run_bsA rfl rfl rfl Try.underlying80 (by rw [agF_size]; kernel_rfl) (by rw [agF_size]; kernel_rfl) (by rw [agF_size]; exact Nat.le_of_ble_eq_true (by kernel_rfl)) (by rw [agF_size]; exact Nat.le_of_ble_eq_true (by kernel_rfl)))
      intro p200_18
      refine MAr 1 0 (tS := 80) (bytes := 40) (es := (List.map enC (enA nu v39_8 tx i))) (by first | omega | decide | (rw [List.length_map]; omega) | (simp only [List.length_nil, List.length_map]; omega) | (simp only [List.length_append, List.length_cons, List.length_nil, lb_length, eI_len, tB_len, sB_len]; omega)) (e := (agF [.c (.int .i64 (i : Int)), .c (.int .i64 nu), .c v39_8]).toList) (hk := by rw [agF_size]; kernel_rfl) (h1 := by exact (agF_one ⟨rfl, rfl, htc.2, trivial⟩)) ?_
      intro v201_19
      refine MV ?_
      refine MFact (fun W hS => (Row.cells (hS.row (i := 1) rfl)).2) ?_
      intro oc_a20120
      refine MP 2 (v := v201_19) (cs' := agF (.c (.int .i64 k) :: .c (.int .i64 er) :: .c (.int .i64 0) :: .c (.int .i64 0) :: .a 32 0 :: .a 80 0 :: .c (.bool false) :: .c (.int .i64 0) :: .c (.slice none 0 0) :: .a 32 0 :: .a 32 0 :: .c (.slice none 0 0) :: .c (.bool false) :: .a 32 0 :: .a 32 0 :: .a 32 0 :: .a 32 0 :: .a 32 0 :: .c (.int .i64 0) :: .a 32 0 :: .c (.slice none 0 0) :: .c (.slice none 0 0) :: .c (.bool false) :: .a 32 0 :: .a 32 0 :: .c (.int .i64 0) :: .a 32 0 :: .a 64 0 :: .a 32 0 :: .c (.slice none 0 0) :: .c v201_19 :: .c (.slice none 0 0) :: .c (.slice none 0 0) :: .c (.bool false) :: .c (.int .i64 0) :: .a 32 0 :: .c (.slice none 0 0) :: .a 32 0 :: .c (.slice none 0 0) :: [])) ?_ (hs := by rw [agF_size]; exact Nat.le_of_ble_eq_true (by kernel_rfl)) (hc := agF_setc (off := 575) 30) (hv := fun W hS => Row.cells (hS.row (i := 1) rfl))
      refine MZ fun W hS => ?_
      go_upto_region 30 with fail
      refine RTh (.q 0 (.q 1 (.q 4 (.q 5 (.q 8 (.q 9 (.e 2 (.q 3 (.e 6 (.q 7 (.e 10 (.q 11 (.q 12 .z))))))))))))) hS ?_
      clear hS
      refine TV ?_
      refine TV ?_
      refine TV ?_
      refine TG 4 ?_ (v := .int .i64 nu) (hj := (agF_cel (off := 2) 2))
      refine TV ?_
      refine TF (v := str tx) rfl (fun W hS => run_cvs (hS.osl (i := 6) rfl) rfl rfl) ?_
      refine TE (fun _ h => h) ?_
      refine MC (v := str (eI (i : Int))) (fun W hS => eight_i (i : Int) W) ?_
      refine TNh (fun W hS => hS) ?_
      refine TW ?_ (v := str ((bS ++ enS nu tx i) ++ (eI (i : Int)))) (hv := fun _ => run_cat (l := (bS ++ enS nu tx i)) (m := (eI (i : Int))) rfl rfl rfl (by first | omega | decide | (rw [List.length_map]; omega) | (simp only [List.length_nil, List.length_map]; omega) | (simp only [List.length_append, List.length_cons, List.length_nil, lb_length, eI_len, tB_len, sB_len]; omega)))
      refine TE (fun _ h => h) ?_
      refine MC (v := str (eI nu)) (fun W hS => eight_i nu W) ?_
      refine TNh (fun W hS => hS) ?_
      refine TW ?_ (v := str (((bS ++ enS nu tx i) ++ (eI (i : Int))) ++ (eI nu))) (hv := fun _ => run_cat (l := ((bS ++ enS nu tx i) ++ (eI (i : Int)))) (m := (eI nu)) rfl rfl rfl (by first | omega | decide | (rw [List.length_map]; omega) | (simp only [List.length_nil, List.length_map]; omega) | (simp only [List.length_append, List.length_cons, List.length_nil, lb_length, eI_len, tB_len, sB_len]; omega)))
      refine TE (fun _ h => h) ?_
      refine MC (v := str (tB tx)) (fun W hS => tx_i tx (by omega) W) ?_
      refine TNh (fun W hS => hS) ?_
      refine TW ?_ (v := str ((((bS ++ enS nu tx i) ++ (eI (i : Int))) ++ (eI nu)) ++ (tB tx))) (hv := fun _ => run_cat (l := (((bS ++ enS nu tx i) ++ (eI (i : Int))) ++ (eI nu))) (m := (tB tx)) rfl rfl rfl (by first | omega | decide | (rw [List.length_map]; omega) | (simp only [List.length_nil, List.length_map]; omega) | (simp only [List.length_append, List.length_cons, List.length_nil, lb_length, eI_len, tB_len, sB_len]; omega)))
      refine TV ?_
      refine TZ (fun _ h => h) fun W hS => ?_
      go_wp2
      go_roundw
      case rel => exact ⟨i + 1, v201_19, by omega, by rw [enS_step]; simp only [List.append_assoc], by go_num, (by rw [enA_map]; exact (hS.pick [1, 2, 3, 4, 5, 6]))⟩
      case measure => simp [intOf]; omega
     ·
      have _f := hlt
      obtain rfl : i = ss.length := by omega
      have hone7 := (hS.row (i := 0) rfl).cells
      go_upto_region 27 with fail
      refine RL hS ?_
      clear hS
      refine MV ?_
      refine MV ?_
      refine MV ?_
      refine MW ?_ (v := .bool false)
      refine MZ fun W hS => ?_
      by_cases h7a : ss.length = 0
      ·
       have _f := h7a
       by_cases h7b : tx.length ≤ 64
       ·
        have _f := h7b
        go_upto_region 31 with fail
        refine RL hS ?_
        clear hS
        refine ML 1 ?_ (hs := by rw [agF_size]; kernel_rfl)
        refine MV ?_
        refine MV ?_
        refine MV ?_
        refine MW ?_ (v := .bool true) (hv := by intro W; go_simp; first | done | omega)
        refine MW ?_ (v := .bool true)
        refine MS ?_
        refine MS ?_
        refine MS ?_
        refine MW ?_ (v := .bool true)
        refine MR 2 ?_ (hz := by rw [agF_size]; kernel_rfl) (hs := by first | (rw [agF_size, agF_size]; rfl) | rfl) (h1 := by exact (agF_one ⟨rfl, rfl, rfl, rfl, rfl, rfl, rfl, rfl, rfl, rfl, rfl, rfl, rfl, rfl, rfl, hone7.2, rfl, rfl, rfl, rfl, rfl, rfl, trivial⟩))
        refine MV ?_
        refine MW ?_ (v := .bool true)
        refine MZ fun W hS => ?_
        have hE := hS
        obtain ⟨ea, es, eo⟩ := tq (t2_ok (t := (⟨k, er, nu, f, sm, ss, sg, tx, gone⟩ : Tp)) (x := v39_8) Hok.out He.out) (tp_7 Hk.out)
        dsimp only at ea es eo
        have hT : SH [] w W ([.r 125 3 ev (List.map enC (enA nu v39_8 tx ss.length)), .o v39_8 tx] ++ []) := hE.pick [0, 5]
        have hA : AnR (((⟨k, er, nu, f, sm, ss, sg, tx, gone⟩ : Tp)).A2 v39_8) ⟨nS, nS, nS, nS, nS, ev, nS, nS, nS, nS⟩ W := by rw [ea]; exact ⟨sl_nil W, rr_nil 32 W, rr_nil 32 W, rr_nil 32 W, rr_nil 32 W, ⟨(hT.row (i := 0) rfl).rr, enA_K (hT.osl (i := 1) rfl)⟩, rr_nil 65 W, sl_nil W, sl_nil W, rr_nil 32 W⟩
        have hI : InN [.r 125 3 ev (List.map enC (enA nu v39_8 tx ss.length)), .o v39_8 tx] (anFt (((⟨k, er, nu, f, sm, ss, sg, tx, gone⟩ : Tp)).A2 v39_8) ⟨nS, nS, nS, nS, nS, ev, nS, nS, nS, nS⟩) := by rw [ea]; exact inN_an (inN_nil) (inN_nil) (inN_nil) (inN_nil) (inN_nil) (inN_app (inN_r 0 rfl (row_fb (hT.row (i := 0) rfl))) (fun k hk => inN_o 1 rfl k (enA_ft hk))) (inN_nil) (inN_nil) (inN_nil) (inN_nil)
        have hZ := SH.fold hT (anT_holds hA) hI
        have hQ := SH.foldo (G := (fbR (.slice Ap f.ss.length cp) (f.ss.map b32l))) hT hI (fr0 rfl)
        have Ea := Lib.hid ea
        have Es := Lib.hid es
        have Eo := Lib.hid eo
        clear ea es eo
        go_wp2
        refine bodyPost_ret (res_c3 rfl rfl rfl rfl (hS.blk (i := 2) rfl) (by kernel_rfl) (by rw [agF_size]; kernel_rfl)) rfl ?_
        have ea := Ea.out
        have es := Es.out
        have eo := Eo.out
        refine ⟨v39_8, ⟨nS, nS, nS, nS, nS, ev, nS, nS, nS, nS⟩, ?_, hZ, hQ⟩
        rw [ea, es, eo, HBS.out]
        refine tup3 rfl ?_ ?_
        ·
         first | rfl | (go_simp; done) | (simp only [List.append_assoc, List.cons_append, List.nil_append]; rfl) | (go_simp; simp only [List.append_assoc, List.cons_append, List.nil_append])
        ·
         first | rfl | (go_simp; done) | (simp [h7a, h7b]; done)
       ·
        have _f := h7b
        go_upto_region 31 with fail
        refine RL hS ?_
        clear hS
        refine ML 1 ?_ (hs := by rw [agF_size]; kernel_rfl)
        refine MV ?_
        refine MV ?_
        refine MV ?_
        refine MW ?_ (v := .bool true) (hv := by intro W; go_simp; first | done | omega)
        refine MW ?_ (v := .bool true)
        refine MS ?_
        refine MS ?_
        refine MS ?_
        refine MW ?_ (v := .bool true)
        refine MR 2 ?_ (hz := by rw [agF_size]; kernel_rfl) (hs := by first | (rw [agF_size, agF_size]; rfl) | rfl) (h1 := by exact (agF_one ⟨rfl, rfl, rfl, rfl, rfl, rfl, rfl, rfl, rfl, rfl, rfl, rfl, rfl, rfl, rfl, hone7.2, rfl, rfl, rfl, rfl, rfl, rfl, trivial⟩))
        refine MV ?_
        refine MW ?_ (v := .bool true)
        refine MZ fun W hS => ?_
        have hE := hS
        obtain ⟨ea, es, eo⟩ := tq (t2_ok (t := (⟨k, er, nu, f, sm, ss, sg, tx, gone⟩ : Tp)) (x := v39_8) Hok.out He.out) (tp_7 Hk.out)
        dsimp only at ea es eo
        have hT : SH [] w W ([.r 125 3 ev (List.map enC (enA nu v39_8 tx ss.length)), .o v39_8 tx] ++ []) := hE.pick [0, 5]
        have hA : AnR (((⟨k, er, nu, f, sm, ss, sg, tx, gone⟩ : Tp)).A2 v39_8) ⟨nS, nS, nS, nS, nS, ev, nS, nS, nS, nS⟩ W := by rw [ea]; exact ⟨sl_nil W, rr_nil 32 W, rr_nil 32 W, rr_nil 32 W, rr_nil 32 W, ⟨(hT.row (i := 0) rfl).rr, enA_K (hT.osl (i := 1) rfl)⟩, rr_nil 65 W, sl_nil W, sl_nil W, rr_nil 32 W⟩
        have hI : InN [.r 125 3 ev (List.map enC (enA nu v39_8 tx ss.length)), .o v39_8 tx] (anFt (((⟨k, er, nu, f, sm, ss, sg, tx, gone⟩ : Tp)).A2 v39_8) ⟨nS, nS, nS, nS, nS, ev, nS, nS, nS, nS⟩) := by rw [ea]; exact inN_an (inN_nil) (inN_nil) (inN_nil) (inN_nil) (inN_nil) (inN_app (inN_r 0 rfl (row_fb (hT.row (i := 0) rfl))) (fun k hk => inN_o 1 rfl k (enA_ft hk))) (inN_nil) (inN_nil) (inN_nil) (inN_nil)
        have hZ := SH.fold hT (anT_holds hA) hI
        have hQ := SH.foldo (G := (fbR (.slice Ap f.ss.length cp) (f.ss.map b32l))) hT hI (fr0 rfl)
        have Ea := Lib.hid ea
        have Es := Lib.hid es
        have Eo := Lib.hid eo
        clear ea es eo
        go_wp2
        refine bodyPost_ret (res_c3 rfl rfl rfl rfl (hS.blk (i := 2) rfl) (by kernel_rfl) (by rw [agF_size]; kernel_rfl)) rfl ?_
        have ea := Ea.out
        have es := Es.out
        have eo := Eo.out
        refine ⟨v39_8, ⟨nS, nS, nS, nS, nS, ev, nS, nS, nS, nS⟩, ?_, hZ, hQ⟩
        rw [ea, es, eo, HBS.out]
        refine tup3 rfl ?_ ?_
        ·
         first | rfl | (go_simp; done) | (simp only [List.append_assoc, List.cons_append, List.nil_append]; rfl) | (go_simp; simp only [List.append_assoc, List.cons_append, List.nil_append])
        ·
         first | rfl | (go_simp; done) | (simp [h7a, h7b]; done)
      ·
       have _f := h7a
       by_cases h7b : tx.length ≤ 64
       ·
        have _f := h7b
        go_upto_region 31 with fail
        refine RL hS ?_
        clear hS
        refine ML 1 ?_ (hs := by rw [agF_size]; kernel_rfl)
        refine MV ?_
        refine MV ?_
        refine MV ?_
        refine MW ?_ (v := .bool false) (hv := by intro W; go_simp; first | done | omega)
        refine MW ?_ (v := .bool false)
        refine MV ?_
        refine MF (v := .int .i64 (tx.length : Int)) (fun W hS => run_lenA (hS.osl (i := 5) rfl) rfl rfl) ?_
        refine MW ?_ (v := .bool true) (hv := by intro W; go_simp; first | done | omega)
        refine MW ?_ (v := .bool true)
        refine MR 2 ?_ (hz := by rw [agF_size]; kernel_rfl) (hs := by first | (rw [agF_size, agF_size]; rfl) | rfl) (h1 := by exact (agF_one ⟨rfl, rfl, rfl, rfl, rfl, rfl, rfl, rfl, rfl, rfl, rfl, rfl, rfl, rfl, rfl, hone7.2, rfl, rfl, rfl, rfl, rfl, rfl, trivial⟩))
        refine MV ?_
        refine MW ?_ (v := .bool true)
        refine MZ fun W hS => ?_
        have hE := hS
        obtain ⟨ea, es, eo⟩ := tq (t2_ok (t := (⟨k, er, nu, f, sm, ss, sg, tx, gone⟩ : Tp)) (x := v39_8) Hok.out He.out) (tp_7 Hk.out)
        dsimp only at ea es eo
        have hT : SH [] w W ([.r 125 3 ev (List.map enC (enA nu v39_8 tx ss.length)), .o v39_8 tx] ++ []) := hE.pick [0, 5]
        have hA : AnR (((⟨k, er, nu, f, sm, ss, sg, tx, gone⟩ : Tp)).A2 v39_8) ⟨nS, nS, nS, nS, nS, ev, nS, nS, nS, nS⟩ W := by rw [ea]; exact ⟨sl_nil W, rr_nil 32 W, rr_nil 32 W, rr_nil 32 W, rr_nil 32 W, ⟨(hT.row (i := 0) rfl).rr, enA_K (hT.osl (i := 1) rfl)⟩, rr_nil 65 W, sl_nil W, sl_nil W, rr_nil 32 W⟩
        have hI : InN [.r 125 3 ev (List.map enC (enA nu v39_8 tx ss.length)), .o v39_8 tx] (anFt (((⟨k, er, nu, f, sm, ss, sg, tx, gone⟩ : Tp)).A2 v39_8) ⟨nS, nS, nS, nS, nS, ev, nS, nS, nS, nS⟩) := by rw [ea]; exact inN_an (inN_nil) (inN_nil) (inN_nil) (inN_nil) (inN_nil) (inN_app (inN_r 0 rfl (row_fb (hT.row (i := 0) rfl))) (fun k hk => inN_o 1 rfl k (enA_ft hk))) (inN_nil) (inN_nil) (inN_nil) (inN_nil)
        have hZ := SH.fold hT (anT_holds hA) hI
        have hQ := SH.foldo (G := (fbR (.slice Ap f.ss.length cp) (f.ss.map b32l))) hT hI (fr0 rfl)
        have Ea := Lib.hid ea
        have Es := Lib.hid es
        have Eo := Lib.hid eo
        clear ea es eo
        go_wp2
        refine bodyPost_ret (res_c3 rfl rfl rfl rfl (hS.blk (i := 2) rfl) (by kernel_rfl) (by rw [agF_size]; kernel_rfl)) rfl ?_
        have ea := Ea.out
        have es := Es.out
        have eo := Eo.out
        refine ⟨v39_8, ⟨nS, nS, nS, nS, nS, ev, nS, nS, nS, nS⟩, ?_, hZ, hQ⟩
        rw [ea, es, eo, HBS.out]
        refine tup3 rfl ?_ ?_
        ·
         first | rfl | (go_simp; done) | (simp only [List.append_assoc, List.cons_append, List.nil_append]; rfl) | (go_simp; simp only [List.append_assoc, List.cons_append, List.nil_append])
        ·
         first | rfl | (go_simp; done) | (simp [h7a, h7b]; done)
       ·
        have _f := h7b
        go_upto_region 31 with fail
        refine RL hS ?_
        clear hS
        refine ML 1 ?_ (hs := by rw [agF_size]; kernel_rfl)
        refine MV ?_
        refine MV ?_
        refine MV ?_
        refine MW ?_ (v := .bool false) (hv := by intro W; go_simp; first | done | omega)
        refine MW ?_ (v := .bool false)
        refine MV ?_
        refine MF (v := .int .i64 (tx.length : Int)) (fun W hS => run_lenA (hS.osl (i := 5) rfl) rfl rfl) ?_
        refine MW ?_ (v := .bool false) (hv := by intro W; go_simp; first | done | omega)
        refine MW ?_ (v := .bool false)
        refine MR 2 ?_ (hz := by rw [agF_size]; kernel_rfl) (hs := by first | (rw [agF_size, agF_size]; rfl) | rfl) (h1 := by exact (agF_one ⟨rfl, rfl, rfl, rfl, rfl, rfl, rfl, rfl, rfl, rfl, rfl, rfl, rfl, rfl, rfl, hone7.2, rfl, rfl, rfl, rfl, rfl, rfl, trivial⟩))
        refine MV ?_
        refine MW ?_ (v := .bool false)
        refine MZ fun W hS => ?_
        have hE := hS
        obtain ⟨ea, es, eo⟩ := tq (t2_ok (t := (⟨k, er, nu, f, sm, ss, sg, tx, gone⟩ : Tp)) (x := v39_8) Hok.out He.out) (tp_7 Hk.out)
        dsimp only at ea es eo
        have hT : SH [] w W ([.r 125 3 ev (List.map enC (enA nu v39_8 tx ss.length)), .o v39_8 tx] ++ []) := hE.pick [0, 5]
        have hA : AnR (((⟨k, er, nu, f, sm, ss, sg, tx, gone⟩ : Tp)).A2 v39_8) ⟨nS, nS, nS, nS, nS, ev, nS, nS, nS, nS⟩ W := by rw [ea]; exact ⟨sl_nil W, rr_nil 32 W, rr_nil 32 W, rr_nil 32 W, rr_nil 32 W, ⟨(hT.row (i := 0) rfl).rr, enA_K (hT.osl (i := 1) rfl)⟩, rr_nil 65 W, sl_nil W, sl_nil W, rr_nil 32 W⟩
        have hI : InN [.r 125 3 ev (List.map enC (enA nu v39_8 tx ss.length)), .o v39_8 tx] (anFt (((⟨k, er, nu, f, sm, ss, sg, tx, gone⟩ : Tp)).A2 v39_8) ⟨nS, nS, nS, nS, nS, ev, nS, nS, nS, nS⟩) := by rw [ea]; exact inN_an (inN_nil) (inN_nil) (inN_nil) (inN_nil) (inN_nil) (inN_app (inN_r 0 rfl (row_fb (hT.row (i := 0) rfl))) (fun k hk => inN_o 1 rfl k (enA_ft hk))) (inN_nil) (inN_nil) (inN_nil) (inN_nil)
        have hZ := SH.fold hT (anT_holds hA) hI
        have hQ := SH.foldo (G := (fbR (.slice Ap f.ss.length cp) (f.ss.map b32l))) hT hI (fr0 rfl)
        have Ea := Lib.hid ea
        have Es := Lib.hid es
        have Eo := Lib.hid eo
        clear ea es eo
        go_wp2
        refine bodyPost_ret (res_c3 rfl rfl rfl rfl (hS.blk (i := 2) rfl) (by kernel_rfl) (by rw [agF_size]; kernel_rfl)) rfl ?_
        have ea := Ea.out
        have es := Es.out
        have eo := Eo.out
        refine ⟨v39_8, ⟨nS, nS, nS, nS, nS, ev, nS, nS, nS, nS⟩, ?_, hZ, hQ⟩
        rw [ea, es, eo, HBS.out]
        refine tup3 rfl ?_ ?_
        ·
         first | rfl | (go_simp; done) | (simp only [List.append_assoc, List.cons_append, List.nil_append]; rfl) | (go_simp; simp only [List.append_assoc, List.cons_append, List.nil_append])
        ·
         first | rfl | (go_simp; done) | (simp [h7a, h7b]; done)
   ·
    have _f := True.intro
    have Hk := Lib.hid hk
    have hk1 : k ≤ 8 := by omega
    have hk2 : 8 ≤ k := by omega
    clear hk
    obtain ⟨bS, hbS⟩ : ∃ bS, ((⟨k, er, nu, f, sm, ss, sg, tx, gone⟩ : Tp)).hd ++ eI (ss.length : Int) = bS := ⟨_, rfl⟩
    have hbSl : bS.length ≤ 100 := by rw [← hbS]; show ([u8 k.toNat] ++ [u8 er.toNat] ++ eI (ss.length : Int)).length ≤ 100; simp only [List.length_append, List.length_cons, List.length_nil, eI_len]; omega
    have HBS := Lib.hid hbS
    clear hbS
    go_upto_region 16 with fail
    refine RL hS ?_
    clear hS
    refine MW ?_ (v := .bool false) (hv := by intro W; go_simp; first | done | omega | decide)
    refine MW ?_ (v := .bool false)
    refine MZ fun W hS => ?_
    go_upto_region 17 with fail
    refine RL hS ?_
    clear hS
    refine MW ?_ (v := .bool false) (hv := by intro W; go_simp; first | done | omega | decide)
    refine MW ?_ (v := .bool false)
    refine MZ fun W hS => ?_
    go_upto_region 20 with fail
    refine RL hS ?_
    clear hS
    refine MW ?_ (v := .bool false) (hv := by intro W; go_simp; first | done | omega | decide)
    refine MW ?_ (v := .bool false)
    refine MZ fun W hS => ?_
    go_upto_region 24 with fail
    refine RL hS ?_
    clear hS
    refine MW ?_ (v := .bool false) (hv := by intro W; go_simp; first | done | omega | decide)
    refine MW ?_ (v := .bool false)
    refine MZ fun W hS => ?_
    go_upto_region 32 with fail
    refine RL hS ?_
    clear hS
    refine MW ?_ (v := .bool true) (hv := by intro W; go_simp; first | done | omega | decide)
    refine MW ?_ (v := .bool true)
    refine MZ fun W hS => ?_
    go_upto_region 33 with fail
    refine RL hS ?_
    clear hS
    refine MV ?_
    refine MV ?_
    refine MV ?_
    refine MC (v := str (eI (ss.length : Int))) (fun W hS => eight_i (ss.length : Int) W) ?_
    refine MW ?_ (v := str bS) (hv := by intro W; rw [← HBS.out]; exact run_cat (l := [u8 k.toNat] ++ [u8 er.toNat]) (m := eI (ss.length : Int)) rfl rfl rfl (by simp only [List.length_append, List.length_cons, List.length_nil, eI_len]; omega))
    refine MV ?_
    refine MZ fun W hS => ?_
    have hS := hS.rnil 127 65 rfl
    go_wp2_with fail
    go_loopw [9, 17] (fun tt ii wr => ∃ (i : Nat) (ev : Value), (i ≤ ss.length) ∧ (tt = str (bS ++ mkS nu sm (ss.take i))) ∧ (ii = .int .i64 (i : Int)) ∧ SH [] w wr [.r 127 65 ev (List.map mkC (mkA nu sm (ss.take i))), .b p8_9 (agF (.c (.int .i64 k) :: .c (.int .i64 er) :: .c (.int .i64 0) :: .c (.int .i64 0) :: .a 32 0 :: .a 80 0 :: .c (.bool false) :: .c (.int .i64 0) :: .c (.slice none 0 0) :: .a 32 0 :: .a 32 0 :: .c (.slice none 0 0) :: .c (.bool false) :: .a 32 0 :: .a 32 0 :: .a 32 0 :: .a 32 0 :: .a 32 0 :: .c (.int .i64 0) :: .a 32 0 :: .c (.slice none 0 0) :: .c (.slice none 0 0) :: .c (.bool false) :: .a 32 0 :: .a 32 0 :: .c (.int .i64 0) :: .a 32 0 :: .a 64 0 :: .a 32 0 :: .c (.slice none 0 0) :: .c (.slice none 0 0) :: .c ev :: .c (.slice none 0 0) :: .c (.bool false) :: .c (.int .i64 0) :: .a 32 0 :: .c (.slice none 0 0) :: .a 32 0 :: .c (.slice none 0 0) :: [])) 85, .b p2_2 (agF (.c (.int .i64 0) :: .c (.int .i64 0) :: .c (.int .i64 0) :: .c (.int .i64 0) :: .a 32 0 :: .a 80 0 :: .c (.bool false) :: .c (.int .i64 0) :: .c (.slice none 0 0) :: .a 32 0 :: .a 32 0 :: .c (.slice none 0 0) :: .c (.bool false) :: .a 32 0 :: .a 32 0 :: .a 32 0 :: .a 32 0 :: .a 32 0 :: .c (.int .i64 0) :: .a 32 0 :: .c (.slice none 0 0) :: .c (.slice none 0 0) :: .c (.bool false) :: .a 32 0 :: .a 32 0 :: .c (.int .i64 0) :: .a 32 0 :: .a 64 0 :: .a 32 0 :: .c (.slice none 0 0) :: .c (.slice none 0 0) :: .c (.slice none 0 0) :: .c (.slice none 0 0) :: .c (.bool false) :: .c (.int .i64 0) :: .a 32 0 :: .c (.slice none 0 0) :: .a 32 0 :: .c (.slice none 0 0) :: [])) 85, .b p1_1 (agF [.c (.int .i64 k), .c (.int .i64 er), .c (.int .i64 nu), .c (.int .i64 d.ep), .c (str d.ix), .c (str d.vr), .c (.bool d.pre), .c (.int .i64 d.ver), .c (str d.val), .c (str d.bo), .c (str d.op), .c sv, .c (.bool d.th), .a 32 d.a, .a 32 d.x, .c (str d.ro), .c (str d.li), .c (str d.ah), .c (.int .i64 d.rd), .a 32 sm, .c (.slice Aq us.length cq), .c tv, .c (.bool gone)]) 74, .r 27 32 (.slice Au ss.length cu) (List.map b32l ss), .o v39_8 tx])
     (fun tt ii _ => ss.length - (intOf ii).toNat)
    case atStart => exact ⟨0, _, Nat.zero_le _, by rw [List.take_zero, mkS_0, List.append_nil], rfl, (by rw [List.take_zero, mkA_0]; exact (hS.pick [0, 8, 6, 5, 11, 10]))⟩
    clear hS
    case round =>
     obtain ⟨i, ev, hi, rfl, rfl, hS⟩ := hrel
     have hel_ : (List.map mkC (mkA nu sm (ss.take i))).length = i := by rw [List.length_map, mkA_len, List.length_take]; omega
     have hes_ : (mkS nu sm (ss.take i)).length ≤ 40000 := by rw [mkS_len, List.length_take]; omega
     by_cases hlt : i < ss.length
     ·
      have _f := hlt
      obtain ⟨y, yh⟩ : ∃ x, ss[i]? = some x := ⟨_, List.getElem?_eq_getElem hlt⟩
      obtain ⟨gp, op, A0p⟩ := HAu.out i y yh
      have HAp := Lib.hid A0p
      clear A0p
      go_upto_region 35 with fail
      refine RL hS ?_
      clear hS
      refine MV ?_
      refine MV ?_
      refine MV ?_
      refine MW ?_ (v := .bool true)
      refine MZ fun W hS => ?_
      go_upto_region 37 with fail
      refine RTp [2, 3, 4, 5] (.q 0 (.q 2 (.q 3 (.q 4 (.q 5 (.q 6 (.q 7 (.q 8 (.q 9 (.q 10 (.b 1 (.e 11 (.e 12 (.q 13 (.e 14 .z)))) 11 (.e 1 (.e 12 (.q 13 (.e 14 .z))))))))))))))) hS ?_
      clear hS
      refine TV ?_
      refine TV ?_
      refine TG 1 ?_ (v := .int .i64 nu) (hj := (agF_cel (off := 2) 2))
      refine TV ?_
      refine TV ?_
      refine TW ?_ (v := .pointer (some ⟨gp, op + i * 32, none⟩)) (hv := fun _ => run_ixRA HAp.out hlt rfl rfl rfl Try.underlying48 (by kernel_rfl))
      refine TF (v := .agg (arrK .u8 32 (byt y))) rfl (fun W hS => run_atsub rfl rfl (fun i_ v hv => (RR.cellat (hS.row (i := 2) rfl).rr (by rw [List.getElem?_map, yh]; rfl) HAp.out) i_ v (by simpa using hv)) (by kernel_rfl) (by rw [arrK_size]; kernel_rfl)) ?_
      refine TV ?_
      refine Tk 1 ?_ (sub := arrK .u8 32 (byt sm)) (hs := (agF_arr (off := 81) 19))
      refine TF (v := .agg (agF [.c (.int .i64 nu), .a 32 y, .a 32 sm])) rfl (fun W hS => run_bld rfl rfl zer_direct_Mark plc_direct_Mark (fill_c (fill_c (fill_c fill_n (l' := [.c (.int .i64 nu), .a 32 y, .a 32 sm]) (m := [.a 32 sm]) (hv := (agF_a _ _).symm) (hs := agF_setp (off := 33) 2 1) (hp := rfl) (hn := rfl) (hb := by show 33 + 32 ≤ 65; decide)) (l' := [.c (.int .i64 nu), .a 32 y, .a 32 0]) (m := [.a 32 y]) (hv := (agF_a _ _).symm) (hs := agF_setp (off := 1) 1 1) (hp := rfl) (hn := rfl) (hb := by show 1 + 32 ≤ 65; decide)) (l' := [.c (.int .i64 nu), .a 32 0, .a 32 0]) (m := [.c (.int .i64 nu)]) (hv := rfl) (hs := agF_setp (off := 0) 0 1) (hp := rfl) (hn := rfl) (hb := by show 0 + 1 ≤ 65; decide))) ?_
      refine TB (fun _ h => h.pick [2, 3, 4, 5]) ?_ ?_
      ·
       skip
       refine MG 1 ?_ (v := ev) (hj := (agF_cel (off := 576) 31))
       refine TNp [2, 3, 4, 5] [0, 1, 2, 3] ?_
       refine TE (fun _ h => h.pick [2, 3, 4, 5]) ?_
       refine MB (z := (agF [.c (.int .i64 nu), .a 32 y, .a 32 sm])) (t := 127) (n := 1) (c := 1) ?_ (hr := fun W _ => run_bsA rfl rfl rfl Try.underlying81 (by rw [agF_size]; kernel_rfl) (by rw [agF_size]; kernel_rfl) (by rw [agF_size]; exact Nat.le_of_ble_eq_true (by kernel_rfl)) (by rw [agF_size]; exact Nat.le_of_ble_eq_true (by kernel_rfl)))
       intro p249_21
       refine TNp [0, 3, 4, 5, 6] [1, 2, 3, 4] ?_
       refine TE (fun _ h => h.pick [0, 3, 4, 5, 6]) ?_
       refine MAr 1 0 (tS := 81) (bytes := 72) (es := (List.map mkC (mkA nu sm (ss.take i)))) (by first | omega | decide | (rw [List.length_map]; omega) | (simp only [List.length_nil, List.length_map]; omega) | (simp only [List.length_append, List.length_cons, List.length_nil, lb_length, eI_len, tB_len, sB_len]; omega)) (e := (agF [.c (.int .i64 nu), .a 32 y, .a 32 sm]).toList) (hk := by rw [agF_size]; kernel_rfl) (h1 := by exact (agF_one ⟨rfl, trivial⟩)) ?_
       intro v250_22
       refine TNp [0, 1, 3, 4, 5, 6] [0, 2, 3, 4, 5] ?_
       refine TV ?_
       refine TE (fun _ h => h.pick [0, 1, 3, 4, 5, 6]) ?_
       refine MFact (fun W hS => (Row.cells (hS.row (i := 1) rfl)).2) ?_
       intro oc_a25023
       refine MP 2 (v := v250_22) (cs' := agF (.c (.int .i64 k) :: .c (.int .i64 er) :: .c (.int .i64 0) :: .c (.int .i64 0) :: .a 32 0 :: .a 80 0 :: .c (.bool false) :: .c (.int .i64 0) :: .c (.slice none 0 0) :: .a 32 0 :: .a 32 0 :: .c (.slice none 0 0) :: .c (.bool false) :: .a 32 0 :: .a 32 0 :: .a 32 0 :: .a 32 0 :: .a 32 0 :: .c (.int .i64 0) :: .a 32 0 :: .c (.slice none 0 0) :: .c (.slice none 0 0) :: .c (.bool false) :: .a 32 0 :: .a 32 0 :: .c (.int .i64 0) :: .a 32 0 :: .a 64 0 :: .a 32 0 :: .c (.slice none 0 0) :: .c (.slice none 0 0) :: .c v250_22 :: .c (.slice none 0 0) :: .c (.bool false) :: .c (.int .i64 0) :: .a 32 0 :: .c (.slice none 0 0) :: .a 32 0 :: .c (.slice none 0 0) :: [])) ?_ (hs := by rw [agF_size]; exact Nat.le_of_ble_eq_true (by kernel_rfl)) (hc := agF_setc (off := 576) 31) (hv := fun W hS => Row.cells (hS.row (i := 1) rfl))
       refine TNp [0, 1, 3, 4, 5, 6] [0, 1, 2, 3, 4, 5] ?_
       refine TZ (fun _ h => h.pick [0, 1, 3, 4, 5, 6]) fun W hS => ?_
       go_upto_region 38 with fail
       refine RTh (.q 0 (.q 1 (.q 2 (.q 5 (.q 6 (.q 7 (.q 8 (.q 9 (.q 11 (.q 12 (.q 13 (.e 3 (.q 4 (.q 10 (.q 14 (.q 15 .z)))))))))))))))) hS ?_
       clear hS
       refine TV ?_
       refine TV ?_
       refine TG 4 ?_ (v := .int .i64 nu) (hj := (agF_cel (off := 2) 2))
       refine TV ?_
       refine TV ?_
       refine TW ?_ (v := .pointer (some ⟨gp, op + i * 32, none⟩)) (hv := fun _ => run_ixRA HAp.out hlt rfl rfl rfl Try.underlying48 (by kernel_rfl))
       refine TW ?_ (v := .slice (some ⟨gp, op + i * 32, none⟩) 32 32)
       refine TF (v := str (lb 32 y)) rfl (fun W hS => run_cvs (sl_c32 (fun i_ v_ h_ => (RR.cellat (hS.row (i := 5) rfl).rr (by rw [List.getElem?_map, yh]; rfl) HAp.out) i_ v_ h_)) rfl rfl) ?_
       refine TV ?_
       refine TW ?_ (v := .slice (some ⟨p1_1, 81, none⟩) 32 32)
       refine TF (v := str (lb 32 sm)) rfl (fun W hS => run_cvs (sl_part (V := sm) (n := 32) (off := 81) (c := 32) (hS.blk (i := 4) rfl) (agF_arr (off := 81) 19) (by decide) (by decide)) rfl rfl) ?_
       refine TE (fun _ h => h) ?_
       refine MC (v := str (eI nu)) (fun W hS => eight_i nu W) ?_
       refine TNh (fun W hS => hS) ?_
       refine TW ?_ (v := str ((bS ++ mkS nu sm (ss.take i)) ++ (eI nu))) (hv := fun _ => run_cat (l := (bS ++ mkS nu sm (ss.take i))) (m := (eI nu)) rfl rfl rfl (by first | omega | decide | (rw [List.length_map]; omega) | (simp only [List.length_nil, List.length_map]; omega) | (simp only [List.length_append, List.length_cons, List.length_nil, lb_length, eI_len, tB_len, sB_len]; omega)))
       refine TW ?_ (v := str (((bS ++ mkS nu sm (ss.take i)) ++ (eI nu)) ++ (lb 32 y))) (hv := fun _ => run_cat (l := ((bS ++ mkS nu sm (ss.take i)) ++ (eI nu))) (m := (lb 32 y)) rfl rfl rfl (by first | omega | decide | (rw [List.length_map]; omega) | (simp only [List.length_nil, List.length_map]; omega) | (simp only [List.length_append, List.length_cons, List.length_nil, lb_length, eI_len, tB_len, sB_len]; omega)))
       refine TW ?_ (v := str ((((bS ++ mkS nu sm (ss.take i)) ++ (eI nu)) ++ (lb 32 y)) ++ (lb 32 sm))) (hv := fun _ => run_cat (l := (((bS ++ mkS nu sm (ss.take i)) ++ (eI nu)) ++ (lb 32 y))) (m := (lb 32 sm)) rfl rfl rfl (by first | omega | decide | (rw [List.length_map]; omega) | (simp only [List.length_nil, List.length_map]; omega) | (simp only [List.length_append, List.length_cons, List.length_nil, lb_length, eI_len, tB_len, sB_len]; omega)))
       refine TV ?_
       refine TZ (fun _ h => h) fun W hS => ?_
       go_wp2
       go_roundw
       case rel => exact ⟨i + 1, v250_22, by omega, by rw [mkS_step _ yh]; simp only [List.append_assoc], by go_num, (by rw [mkA_map yh]; exact (hS.pick [1, 2, 3, 4, 5, 6]))⟩
       case measure => simp [intOf]; omega
      ·
       skip
       refine MB (z := (agF [.c (.int .i64 nu), .a 32 y, .a 32 sm])) (t := 127) (n := 1) (c := 1) ?_ (hr := fun W _ => run_bsA rfl rfl rfl Try.underlying81 (by rw [agF_size]; kernel_rfl) (by rw [agF_size]; kernel_rfl) (by rw [agF_size]; exact Nat.le_of_ble_eq_true (by kernel_rfl)) (by rw [agF_size]; exact Nat.le_of_ble_eq_true (by kernel_rfl)))
       intro p249_24
       refine TNp [0, 3, 4, 5, 6] [1, 2, 3, 4] ?_
       refine TE (fun _ h => h.pick [0, 3, 4, 5, 6]) ?_
       refine MG 2 ?_ (v := ev) (hj := (agF_cel (off := 576) 31))
       refine TNp [0, 3, 4, 5, 6] [0, 1, 2, 3, 4] ?_
       refine TE (fun _ h => h.pick [0, 3, 4, 5, 6]) ?_
       refine MAr 1 0 (tS := 81) (bytes := 72) (es := (List.map mkC (mkA nu sm (ss.take i)))) (by first | omega | decide | (rw [List.length_map]; omega) | (simp only [List.length_nil, List.length_map]; omega) | (simp only [List.length_append, List.length_cons, List.length_nil, lb_length, eI_len, tB_len, sB_len]; omega)) (e := (agF [.c (.int .i64 nu), .a 32 y, .a 32 sm]).toList) (hk := by rw [agF_size]; kernel_rfl) (h1 := by exact (agF_one ⟨rfl, trivial⟩)) ?_
       intro v250_25
       refine TNp [0, 1, 3, 4, 5, 6] [0, 2, 3, 4, 5] ?_
       refine TV ?_
       refine TE (fun _ h => h.pick [0, 1, 3, 4, 5, 6]) ?_
       refine MFact (fun W hS => (Row.cells (hS.row (i := 1) rfl)).2) ?_
       intro oc_a25026
       refine MP 2 (v := v250_25) (cs' := agF (.c (.int .i64 k) :: .c (.int .i64 er) :: .c (.int .i64 0) :: .c (.int .i64 0) :: .a 32 0 :: .a 80 0 :: .c (.bool false) :: .c (.int .i64 0) :: .c (.slice none 0 0) :: .a 32 0 :: .a 32 0 :: .c (.slice none 0 0) :: .c (.bool false) :: .a 32 0 :: .a 32 0 :: .a 32 0 :: .a 32 0 :: .a 32 0 :: .c (.int .i64 0) :: .a 32 0 :: .c (.slice none 0 0) :: .c (.slice none 0 0) :: .c (.bool false) :: .a 32 0 :: .a 32 0 :: .c (.int .i64 0) :: .a 32 0 :: .a 64 0 :: .a 32 0 :: .c (.slice none 0 0) :: .c (.slice none 0 0) :: .c v250_25 :: .c (.slice none 0 0) :: .c (.bool false) :: .c (.int .i64 0) :: .a 32 0 :: .c (.slice none 0 0) :: .a 32 0 :: .c (.slice none 0 0) :: [])) ?_ (hs := by rw [agF_size]; exact Nat.le_of_ble_eq_true (by kernel_rfl)) (hc := agF_setc (off := 576) 31) (hv := fun W hS => Row.cells (hS.row (i := 1) rfl))
       refine TNp [0, 1, 3, 4, 5, 6] [0, 1, 2, 3, 4, 5] ?_
       refine TZ (fun _ h => h.pick [0, 1, 3, 4, 5, 6]) fun W hS => ?_
       go_upto_region 38 with fail
       refine RTh (.q 0 (.q 1 (.q 2 (.q 5 (.q 6 (.q 7 (.q 8 (.q 9 (.q 11 (.q 12 (.q 13 (.e 3 (.q 4 (.q 10 (.q 14 (.q 15 .z)))))))))))))))) hS ?_
       clear hS
       refine TV ?_
       refine TV ?_
       refine TG 4 ?_ (v := .int .i64 nu) (hj := (agF_cel (off := 2) 2))
       refine TV ?_
       refine TV ?_
       refine TW ?_ (v := .pointer (some ⟨gp, op + i * 32, none⟩)) (hv := fun _ => run_ixRA HAp.out hlt rfl rfl rfl Try.underlying48 (by kernel_rfl))
       refine TW ?_ (v := .slice (some ⟨gp, op + i * 32, none⟩) 32 32)
       refine TF (v := str (lb 32 y)) rfl (fun W hS => run_cvs (sl_c32 (fun i_ v_ h_ => (RR.cellat (hS.row (i := 5) rfl).rr (by rw [List.getElem?_map, yh]; rfl) HAp.out) i_ v_ h_)) rfl rfl) ?_
       refine TV ?_
       refine TW ?_ (v := .slice (some ⟨p1_1, 81, none⟩) 32 32)
       refine TF (v := str (lb 32 sm)) rfl (fun W hS => run_cvs (sl_part (V := sm) (n := 32) (off := 81) (c := 32) (hS.blk (i := 4) rfl) (agF_arr (off := 81) 19) (by decide) (by decide)) rfl rfl) ?_
       refine TE (fun _ h => h) ?_
       refine MC (v := str (eI nu)) (fun W hS => eight_i nu W) ?_
       refine TNh (fun W hS => hS) ?_
       refine TW ?_ (v := str ((bS ++ mkS nu sm (ss.take i)) ++ (eI nu))) (hv := fun _ => run_cat (l := (bS ++ mkS nu sm (ss.take i))) (m := (eI nu)) rfl rfl rfl (by first | omega | decide | (rw [List.length_map]; omega) | (simp only [List.length_nil, List.length_map]; omega) | (simp only [List.length_append, List.length_cons, List.length_nil, lb_length, eI_len, tB_len, sB_len]; omega)))
       refine TW ?_ (v := str (((bS ++ mkS nu sm (ss.take i)) ++ (eI nu)) ++ (lb 32 y))) (hv := fun _ => run_cat (l := ((bS ++ mkS nu sm (ss.take i)) ++ (eI nu))) (m := (lb 32 y)) rfl rfl rfl (by first | omega | decide | (rw [List.length_map]; omega) | (simp only [List.length_nil, List.length_map]; omega) | (simp only [List.length_append, List.length_cons, List.length_nil, lb_length, eI_len, tB_len, sB_len]; omega)))
       refine TW ?_ (v := str ((((bS ++ mkS nu sm (ss.take i)) ++ (eI nu)) ++ (lb 32 y)) ++ (lb 32 sm))) (hv := fun _ => run_cat (l := (((bS ++ mkS nu sm (ss.take i)) ++ (eI nu)) ++ (lb 32 y))) (m := (lb 32 sm)) rfl rfl rfl (by first | omega | decide | (rw [List.length_map]; omega) | (simp only [List.length_nil, List.length_map]; omega) | (simp only [List.length_append, List.length_cons, List.length_nil, lb_length, eI_len, tB_len, sB_len]; omega)))
       refine TV ?_
       refine TZ (fun _ h => h) fun W hS => ?_
       go_wp2
       go_roundw
       case rel => exact ⟨i + 1, v250_25, by omega, by rw [mkS_step _ yh]; simp only [List.append_assoc], by go_num, (by rw [mkA_map yh]; exact (hS.pick [1, 2, 3, 4, 5, 6]))⟩
       case measure => simp [intOf]; omega
     ·
      have _f := hlt
      obtain rfl : i = ss.length := by omega
      rw [List.take_length] at hS
      have hone7 := (hS.row (i := 0) rfl).cells
      go_upto_region 35 with fail
      refine RL hS ?_
      clear hS
      refine MV ?_
      refine MV ?_
      refine MV ?_
      refine MW ?_ (v := .bool false)
      refine MZ fun W hS => ?_
      go_upto_region 39 with fail
      refine RL hS ?_
      clear hS
      refine ML 1 ?_ (hs := by rw [agF_size]; kernel_rfl)
      refine MV ?_
      refine MR 2 ?_ (hz := by rw [agF_size]; kernel_rfl) (hs := by first | (rw [agF_size, agF_size]; rfl) | rfl) (h1 := by exact (agF_one ⟨rfl, rfl, rfl, rfl, rfl, rfl, rfl, rfl, rfl, rfl, rfl, rfl, rfl, rfl, rfl, rfl, hone7.2, rfl, rfl, rfl, rfl, rfl, trivial⟩))
      refine MV ?_
      refine MW ?_ (v := .bool true)
      refine MZ fun W hS => ?_
      have hE := hS
      obtain ⟨ea, es, eo⟩ := tq (t2_ok (t := (⟨k, er, nu, f, sm, ss, sg, tx, gone⟩ : Tp)) (x := v39_8) Hok.out He.out) (tp_8 Hk.out)
      dsimp only at ea es eo
      have hT : SH [] w W ([.r 127 65 ev (List.map mkC (mkA nu sm ss))] ++ []) := hE.pick [0]
      have hA : AnR (((⟨k, er, nu, f, sm, ss, sg, tx, gone⟩ : Tp)).A2 v39_8) ⟨nS, nS, nS, nS, nS, nS, ev, nS, nS, nS⟩ W := by rw [ea]; exact ⟨sl_nil W, rr_nil 32 W, rr_nil 32 W, rr_nil 32 W, rr_nil 32 W, enR_nil W, (hT.row (i := 0) rfl).rr, sl_nil W, sl_nil W, rr_nil 32 W⟩
      have hI : InN [.r 127 65 ev (List.map mkC (mkA nu sm ss))] (anFt (((⟨k, er, nu, f, sm, ss, sg, tx, gone⟩ : Tp)).A2 v39_8) ⟨nS, nS, nS, nS, nS, nS, ev, nS, nS, nS⟩) := by rw [ea]; exact inN_an (inN_nil) (inN_nil) (inN_nil) (inN_nil) (inN_nil) (inN_nil) (inN_r 0 rfl (row_fb (hT.row (i := 0) rfl))) (inN_nil) (inN_nil) (inN_nil)
      have hZ := SH.fold hT (anT_holds hA) hI
      have hQ := SH.foldo (G := (fbR (.slice Ap f.ss.length cp) (f.ss.map b32l))) hT hI (fr0 rfl)
      have Ea := Lib.hid ea
      have Es := Lib.hid es
      have Eo := Lib.hid eo
      clear ea es eo
      go_wp2
      refine bodyPost_ret (res_c3 rfl rfl rfl rfl (hS.blk (i := 2) rfl) (by kernel_rfl) (by rw [agF_size]; kernel_rfl)) rfl ?_
      have ea := Ea.out
      have es := Es.out
      have eo := Eo.out
      refine ⟨v39_8, ⟨nS, nS, nS, nS, nS, nS, ev, nS, nS, nS⟩, ?_, hZ, hQ⟩
      rw [ea, es, eo, HBS.out]
      refine tup3 rfl ?_ ?_
      ·
       first | rfl | (go_simp; done) | (simp only [List.append_assoc, List.cons_append, List.nil_append]; rfl) | (go_simp; simp only [List.append_assoc, List.cons_append, List.nil_append])
      ·
       first | rfl | (go_simp; done) | (simp []; done)
  ·
   have _f := he
   go_upto_region 8 with fail
   refine RL hS ?_
   clear hS
   refine MV ?_
   refine MG 7 ?_ (v := .int .i64 er) (hj := (agF_cel (off := 1) 1))
   refine MW ?_ (v := .bool true) (hv := by intro W; go_simp; first | done | omega)
   refine MZ fun W hS => ?_
   go_upto_region 9 with fail
   refine RL hS ?_
   clear hS
   refine ML 0 ?_ (hs := by rw [agF_size]; kernel_rfl)
   refine MV ?_
   refine MR 6 ?_ (hz := by rw [agF_size]; kernel_rfl) (hs := by first | (rw [agF_size, agF_size]; rfl) | rfl) (h1 := by exact (agF_one ⟨rfl, rfl, rfl, rfl, rfl, rfl, rfl, rfl, rfl, rfl, rfl, rfl, rfl, rfl, rfl, rfl, rfl, rfl, rfl, rfl, rfl, rfl, trivial⟩))
   refine MV ?_
   refine MW ?_ (v := .bool true)
   refine MZ fun W hS => ?_
   obtain ⟨ea, es, eo⟩ := t2_e (t := (⟨k, er, nu, f, sm, ss, sg, tx, gone⟩ : Tp)) (x := undef) hok he
   dsimp only at ea es eo
   have hT : SH [] w W ([] ++ []) := hS.pick []
   have hA : AnR (zA k er) zV W := AnR.z _ _ _
   have hI : InN [] (anFt (zA k er) zV) := inN_an (inN_nil) (inN_nil) (inN_nil) (inN_nil) (inN_nil) (inN_nil) (inN_nil) (inN_nil) (inN_nil) (inN_nil)
   have hZ := SH.fold hT (anT_holds hA) hI
   have hQ := SH.foldo (G := (fbR (.slice Ap f.ss.length cp) (f.ss.map b32l))) hT hI (fr0 rfl)
   have Ea := Lib.hid ea
   have Es := Lib.hid es
   have Eo := Lib.hid eo
   clear ea es eo
   go_wp2
   refine bodyPost_ret (res_c3 rfl rfl rfl rfl (hS.blk (i := 6) rfl) (by kernel_rfl) (by rw [agF_size]; kernel_rfl)) rfl ?_
   have ea := Ea.out
   have es := Es.out
   have eo := Eo.out
   refine ⟨undef, zV, ?_, by rw [ea]; exact hZ, by rw [ea]; exact hQ⟩
   rw [ea, es, eo]
   refine tup3 rfl ?_ ?_
   ·
    first | rfl | (go_simp; done)
   ·
    first | rfl | (go_simp; done)
 ·
  have _f := True.intro
  go_upto_region 5 with fail
  refine RL hS ?_
  clear hS
  refine MV ?_
  refine MG 7 ?_ (v := .int .i64 k) (hj := (agF_cel (off := 0) 0))
  refine MW ?_ (v := .bool true) (hv := by intro W; go_simp; first | done | omega)
  refine MW ?_ (v := .bool true)
  refine MS ?_
  refine MS ?_
  refine MS ?_
  refine MW ?_ (v := .bool true)
  refine MW ?_ (v := .bool true)
  refine MS ?_
  refine MS ?_
  refine MS ?_
  refine MW ?_ (v := .bool true)
  refine MW ?_ (v := .bool true)
  refine MS ?_
  refine MS ?_
  refine MS ?_
  refine MW ?_ (v := .bool true)
  refine MZ fun W hS => ?_
  go_upto_region 6 with fail
  refine RL hS ?_
  clear hS
  refine ML 0 ?_ (hs := by rw [agF_size]; kernel_rfl)
  refine MR 6 ?_ (hz := by rw [agF_size]; kernel_rfl) (hs := by first | (rw [agF_size, agF_size]; rfl) | rfl) (h1 := by exact (agF_one ⟨rfl, rfl, rfl, rfl, rfl, rfl, rfl, rfl, rfl, rfl, rfl, rfl, rfl, rfl, rfl, rfl, rfl, rfl, rfl, rfl, rfl, rfl, trivial⟩))
  refine MV ?_
  refine MW ?_ (v := .bool false)
  refine MZ fun W hS => ?_
  obtain ⟨ea, es, eo⟩ := t2_none (t := (⟨k, er, nu, f, sm, ss, sg, tx, gone⟩ : Tp)) (x := undef) (by show ¬ okT2 k er; unfold okT2; omega)
  dsimp only at ea es eo
  have hT : SH [] w W ([] ++ []) := hS.pick []
  have hA : AnR (zA k er) zV W := AnR.z _ _ _
  have hI : InN [] (anFt (zA k er) zV) := inN_an (inN_nil) (inN_nil) (inN_nil) (inN_nil) (inN_nil) (inN_nil) (inN_nil) (inN_nil) (inN_nil) (inN_nil)
  have hZ := SH.fold hT (anT_holds hA) hI
  have hQ := SH.foldo (G := (fbR (.slice Ap f.ss.length cp) (f.ss.map b32l))) hT hI (fr0 rfl)
  have Ea := Lib.hid ea
  have Es := Lib.hid es
  have Eo := Lib.hid eo
  clear ea es eo
  go_wp2
  refine bodyPost_ret (res_c3 rfl rfl rfl rfl (hS.blk (i := 6) rfl) (by kernel_rfl) (by rw [agF_size]; kernel_rfl)) rfl ?_
  have ea := Ea.out
  have es := Es.out
  have eo := Eo.out
  refine ⟨undef, zV, ?_, by rw [ea]; exact hZ, by rw [ea]; exact hQ⟩
  rw [ea, es, eo]
  refine tup3 rfl ?_ ?_
  ·
   first | rfl | (go_simp; done)
  ·
   first | rfl | (go_simp; done)
 ·
  have _f := True.intro
  go_upto_region 5 with fail
  refine RL hS ?_
  clear hS
  refine MV ?_
  refine MG 7 ?_ (v := .int .i64 k) (hj := (agF_cel (off := 0) 0))
  refine MW ?_ (v := .bool false) (hv := by intro W; go_simp; first | done | omega)
  refine MW ?_ (v := .bool false)
  refine MV ?_
  refine MG 7 ?_ (v := .int .i64 k) (hj := (agF_cel (off := 0) 0))
  refine MW ?_ (v := .bool true) (hv := by intro W; go_simp; first | done | omega)
  refine MW ?_ (v := .bool true)
  refine MW ?_ (v := .bool true)
  refine MS ?_
  refine MS ?_
  refine MS ?_
  refine MW ?_ (v := .bool true)
  refine MW ?_ (v := .bool true)
  refine MS ?_
  refine MS ?_
  refine MS ?_
  refine MW ?_ (v := .bool true)
  refine MZ fun W hS => ?_
  go_upto_region 6 with fail
  refine RL hS ?_
  clear hS
  refine ML 0 ?_ (hs := by rw [agF_size]; kernel_rfl)
  refine MR 6 ?_ (hz := by rw [agF_size]; kernel_rfl) (hs := by first | (rw [agF_size, agF_size]; rfl) | rfl) (h1 := by exact (agF_one ⟨rfl, rfl, rfl, rfl, rfl, rfl, rfl, rfl, rfl, rfl, rfl, rfl, rfl, rfl, rfl, rfl, rfl, rfl, rfl, rfl, rfl, rfl, trivial⟩))
  refine MV ?_
  refine MW ?_ (v := .bool false)
  refine MZ fun W hS => ?_
  obtain ⟨ea, es, eo⟩ := t2_none (t := (⟨k, er, nu, f, sm, ss, sg, tx, gone⟩ : Tp)) (x := undef) (by show ¬ okT2 k er; unfold okT2; omega)
  dsimp only at ea es eo
  have hT : SH [] w W ([] ++ []) := hS.pick []
  have hA : AnR (zA k er) zV W := AnR.z _ _ _
  have hI : InN [] (anFt (zA k er) zV) := inN_an (inN_nil) (inN_nil) (inN_nil) (inN_nil) (inN_nil) (inN_nil) (inN_nil) (inN_nil) (inN_nil) (inN_nil)
  have hZ := SH.fold hT (anT_holds hA) hI
  have hQ := SH.foldo (G := (fbR (.slice Ap f.ss.length cp) (f.ss.map b32l))) hT hI (fr0 rfl)
  have Ea := Lib.hid ea
  have Es := Lib.hid es
  have Eo := Lib.hid eo
  clear ea es eo
  go_wp2
  refine bodyPost_ret (res_c3 rfl rfl rfl rfl (hS.blk (i := 6) rfl) (by kernel_rfl) (by rw [agF_size]; kernel_rfl)) rfl ?_
  have ea := Ea.out
  have es := Es.out
  have eo := Eo.out
  refine ⟨undef, zV, ?_, by rw [ea]; exact hZ, by rw [ea]; exact hQ⟩
  rw [ea, es, eo]
  refine tup3 rfl ?_ ?_
  ·
   first | rfl | (go_simp; done)
  ·
   first | rfl | (go_simp; done)
 ·
  have _f := True.intro
  go_upto_region 5 with fail
  refine RL hS ?_
  clear hS
  refine MV ?_
  refine MG 7 ?_ (v := .int .i64 k) (hj := (agF_cel (off := 0) 0))
  refine MW ?_ (v := .bool false) (hv := by intro W; go_simp; first | done | omega)
  refine MW ?_ (v := .bool false)
  refine MV ?_
  refine MG 7 ?_ (v := .int .i64 k) (hj := (agF_cel (off := 0) 0))
  refine MW ?_ (v := .bool false) (hv := by intro W; go_simp; first | done | omega)
  refine MW ?_ (v := .bool false)
  refine MW ?_ (v := .bool false)
  refine MV ?_
  refine MG 7 ?_ (v := .int .i64 er) (hj := (agF_cel (off := 1) 1))
  refine MW ?_ (v := .bool true) (hv := by intro W; go_simp; first | done | omega)
  refine MW ?_ (v := .bool true)
  refine MW ?_ (v := .bool true)
  refine MS ?_
  refine MS ?_
  refine MS ?_
  refine MW ?_ (v := .bool true)
  refine MZ fun W hS => ?_
  go_upto_region 6 with fail
  refine RL hS ?_
  clear hS
  refine ML 0 ?_ (hs := by rw [agF_size]; kernel_rfl)
  refine MR 6 ?_ (hz := by rw [agF_size]; kernel_rfl) (hs := by first | (rw [agF_size, agF_size]; rfl) | rfl) (h1 := by exact (agF_one ⟨rfl, rfl, rfl, rfl, rfl, rfl, rfl, rfl, rfl, rfl, rfl, rfl, rfl, rfl, rfl, rfl, rfl, rfl, rfl, rfl, rfl, rfl, trivial⟩))
  refine MV ?_
  refine MW ?_ (v := .bool false)
  refine MZ fun W hS => ?_
  obtain ⟨ea, es, eo⟩ := t2_none (t := (⟨k, er, nu, f, sm, ss, sg, tx, gone⟩ : Tp)) (x := undef) (by show ¬ okT2 k er; unfold okT2; omega)
  dsimp only at ea es eo
  have hT : SH [] w W ([] ++ []) := hS.pick []
  have hA : AnR (zA k er) zV W := AnR.z _ _ _
  have hI : InN [] (anFt (zA k er) zV) := inN_an (inN_nil) (inN_nil) (inN_nil) (inN_nil) (inN_nil) (inN_nil) (inN_nil) (inN_nil) (inN_nil) (inN_nil)
  have hZ := SH.fold hT (anT_holds hA) hI
  have hQ := SH.foldo (G := (fbR (.slice Ap f.ss.length cp) (f.ss.map b32l))) hT hI (fr0 rfl)
  have Ea := Lib.hid ea
  have Es := Lib.hid es
  have Eo := Lib.hid eo
  clear ea es eo
  go_wp2
  refine bodyPost_ret (res_c3 rfl rfl rfl rfl (hS.blk (i := 6) rfl) (by kernel_rfl) (by rw [agF_size]; kernel_rfl)) rfl ?_
  have ea := Ea.out
  have es := Es.out
  have eo := Eo.out
  refine ⟨undef, zV, ?_, by rw [ea]; exact hZ, by rw [ea]; exact hQ⟩
  rw [ea, es, eo]
  refine tup3 rfl ?_ ?_
  ·
   first | rfl | (go_simp; done)
  ·
   first | rfl | (go_simp; done)
 ·
  have _f := True.intro
  go_upto_region 5 with fail
  refine RL hS ?_
  clear hS
  refine MV ?_
  refine MG 7 ?_ (v := .int .i64 k) (hj := (agF_cel (off := 0) 0))
  refine MW ?_ (v := .bool false) (hv := by intro W; go_simp; first | done | omega)
  refine MW ?_ (v := .bool false)
  refine MV ?_
  refine MG 7 ?_ (v := .int .i64 k) (hj := (agF_cel (off := 0) 0))
  refine MW ?_ (v := .bool false) (hv := by intro W; go_simp; first | done | omega)
  refine MW ?_ (v := .bool false)
  refine MW ?_ (v := .bool false)
  refine MV ?_
  refine MG 7 ?_ (v := .int .i64 er) (hj := (agF_cel (off := 1) 1))
  refine MW ?_ (v := .bool false) (hv := by intro W; go_simp; first | done | omega)
  refine MW ?_ (v := .bool false)
  refine MW ?_ (v := .bool false)
  refine MV ?_
  refine MG 7 ?_ (v := .int .i64 er) (hj := (agF_cel (off := 1) 1))
  refine MW ?_ (v := .bool true) (hv := by intro W; go_simp; first | done | omega)
  refine MW ?_ (v := .bool true)
  refine MZ fun W hS => ?_
  go_upto_region 6 with fail
  refine RL hS ?_
  clear hS
  refine ML 0 ?_ (hs := by rw [agF_size]; kernel_rfl)
  refine MR 6 ?_ (hz := by rw [agF_size]; kernel_rfl) (hs := by first | (rw [agF_size, agF_size]; rfl) | rfl) (h1 := by exact (agF_one ⟨rfl, rfl, rfl, rfl, rfl, rfl, rfl, rfl, rfl, rfl, rfl, rfl, rfl, rfl, rfl, rfl, rfl, rfl, rfl, rfl, rfl, rfl, trivial⟩))
  refine MV ?_
  refine MW ?_ (v := .bool false)
  refine MZ fun W hS => ?_
  obtain ⟨ea, es, eo⟩ := t2_none (t := (⟨k, er, nu, f, sm, ss, sg, tx, gone⟩ : Tp)) (x := undef) (by show ¬ okT2 k er; unfold okT2; omega)
  dsimp only at ea es eo
  have hT : SH [] w W ([] ++ []) := hS.pick []
  have hA : AnR (zA k er) zV W := AnR.z _ _ _
  have hI : InN [] (anFt (zA k er) zV) := inN_an (inN_nil) (inN_nil) (inN_nil) (inN_nil) (inN_nil) (inN_nil) (inN_nil) (inN_nil) (inN_nil) (inN_nil)
  have hZ := SH.fold hT (anT_holds hA) hI
  have hQ := SH.foldo (G := (fbR (.slice Ap f.ss.length cp) (f.ss.map b32l))) hT hI (fr0 rfl)
  have Ea := Lib.hid ea
  have Es := Lib.hid es
  have Eo := Lib.hid eo
  clear ea es eo
  go_wp2
  refine bodyPost_ret (res_c3 rfl rfl rfl rfl (hS.blk (i := 6) rfl) (by kernel_rfl) (by rw [agF_size]; kernel_rfl)) rfl ?_
  have ea := Ea.out
  have es := Es.out
  have eo := Eo.out
  refine ⟨undef, zV, ?_, by rw [ea]; exact hZ, by rw [ea]; exact hQ⟩
  rw [ea, es, eo]
  refine tup3 rfl ?_ ?_
  ·
   first | rfl | (go_simp; done)
  ·
   first | rfl | (go_simp; done)
end Go.Proofs.Ytlbgelbhhibikaa.Ww
