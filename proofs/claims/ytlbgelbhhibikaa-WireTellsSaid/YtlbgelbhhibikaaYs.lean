/- WireTells. Conditions: numbers have 64 bits, sums 256. -/
import Derived.Test.YtlbgelbhhibikaaJ44
set_option linter.unusedSimpArgs false
set_option linter.unusedVariables false
namespace Go.Proofs.Ytlbgelbhhibikaa.Ww
set_option maxHeartbeats 20000000
set_option maxRecDepth 100000
open Go.RowKit
attribute [local irreducible] wpList wpTr wpX
set_option linter.unusedSimpArgs false
theorem answer_n {k er nu : Int} {d : Do} {sm : Nat} {gone : Bool} {us : List Nat} {tb : List UInt8} {sv uv tv u10 : Value} {w W : World} {H : List As} (hS : SH [] w W H) (hw : wfF (szD d)) (hub : ∀ y ∈ us, y < 2 ^ 256) (hsm : RR 32 w sv (d.ss.map b32l)) (hum : RR 32 w uv (us.map b32l)) (htv : Sl w tv tb)
  (hu10 : ∀ W, (Instr.sliceAt 48 sv none (some (.int .i64 ((min d.ss.length 258 : Nat) : Int))) none).run Try.prog W = .ok u10 W) (hR : RR 32 w u10 ((szD d).ss.map b32l)) :
  Calls Try.prog 23 #[.agg (toF k er nu d sm gone sv uv tv)] W fun e W' => ∃ x : { y : An × Av × List UInt8 × Bool // AnsW y.1 y.2.2.1 y.2.2.2 }, e = .returned (.tuple #[.agg (anF x.1.1 x.1.2.1), str x.1.2.2.1, .bool x.1.2.2.2]) ∧ SH [] w W' (anT x.1.1 x.1.2.1 :: H) :=
 (answer_c hw hub W (hsm.ext hS.ext) (hum.ext hS.ext) (sl_e htv hS.ext) hu10 (hR.ext hS.ext)).mono fun e W' ⟨a, S, O, h1, v, h2, h3, h4⟩ =>
  ⟨⟨(a, v, S, O), h1⟩, h2, SH.newp0 hS h3.off (h3.all _ (List.mem_cons_self ..)) fun k hk => (h4 k hk).elim (fun h => .inl ((RR.pholds (by decide) b32l_len hR).2.1 k h)) .inr⟩
attribute [local irreducible] lb be8 eI tB txL txB dtx dok pB telL telB toldA toldO szD

theorem wireTells_L {k er nu : Int} {d : Do} {sm : Nat} {gone : Bool} {us : List Nat} {tb : List UInt8} {sv uv tv : Value} (cut : Int) (h1 : i64 d.ep) (h2 : i64 d.ver) (h3 : i64 d.rd) (hs : ∀ y ∈ d.ss, y < 2 ^ 256) (ha : d.a < 2 ^ 256) (hx : d.x < 2 ^ 256) (hub : ∀ y ∈ us, y < 2 ^ 256) (w : World) (hsm : RR 32 w sv (d.ss.map b32l)) (hum : RR 32 w uv (us.map b32l)) (htv : Sl w tv tb) :
  Calls Try.prog 6 #[.agg (toF k er nu d sm gone sv uv tv), .int .i64 cut] w fun e w' => Ret (.bool true) w w' e := by
 obtain ⟨u10, hu10, hR10⟩ := rr_head (m := min d.ss.length 258) hsm (by rw [List.length_map]; exact Nat.min_le_left _ _) Try.underlying48 (by kernel_rfl)
 have hR_ := hR10 w hsm
 rw [head_258] at hR_
 clear hR10
 have HW := Lib.hid (szD_wf h1 h2 h3 hs ha hx)
 have hR : RR 32 w u10 ((szD d).ss.map b32l) := by unfold szD; exact hR_
 clear hR_
 have hS := SH.nil [] w
 go_enter Try.func6, Try.ntmps6
 go_upto_region 0 with fail
 refine RL hS ?_
 clear hS
 refine MN (z := agF [.c (.int .i64 k), .c (.int .i64 er), .c (.int .i64 nu), .c (.int .i64 d.ep), .c (str d.ix), .c (str d.vr), .c (.bool d.pre), .c (.int .i64 d.ver), .c (str d.val), .c (str d.bo), .c (str d.op), .c sv, .c (.bool d.th), .a 32 d.a, .a 32 d.x, .c (str d.ro), .c (str d.li), .c (str d.ah), .c (.int .i64 d.rd), .a 32 sm, .c uv, .c tv, .c (.bool gone)]) (t := 74) ?_
 intro p2_1
 refine MW ?_ (v := .bool false)
 refine MZ fun W hS => ?_
 go_upto_region 1 with fail
 refine RL hS ?_
 clear hS
 refine ML 0 ?_ (hs := by rw [agF_size]; kernel_rfl)
 refine ME (V := fun x : { y : An × Av × List UInt8 × Bool // AnsW y.1 y.2.2.1 y.2.2.2 } => .tuple #[.agg (anF x.1.1 x.1.2.1), str x.1.2.2.1, .bool x.1.2.2.2]) (fun W hS => answer_n hS HW.out hub hsm hum htv hu10 hR) ?_
 rintro ⟨⟨a, av0, S, O⟩, hX⟩
 dsimp only at hX
 dsimp only
 refine MFact (fun W hS => anF_one (hS.pp (i := 0) rfl)) ?_
 intro hone0
 refine MV ?_
 refine MV ?_
 refine MV ?_
 refine MW ?_ (v := .bool O)
 refine MN (z := agF (.c (.int .i64 0) :: .c (.int .i64 0) :: .c (.int .i64 0) :: .c (.int .i64 0) :: .a 32 0 :: .a 80 0 :: .c (.bool false) :: .c (.int .i64 0) :: .c (.slice none 0 0) :: .a 32 0 :: .a 32 0 :: .c (.slice none 0 0) :: .c (.bool false) :: .a 32 0 :: .a 32 0 :: .a 32 0 :: .a 32 0 :: .a 32 0 :: .c (.int .i64 0) :: .a 32 0 :: .c (.slice none 0 0) :: .c (.slice none 0 0) :: .c (.bool false) :: .a 32 0 :: .a 32 0 :: .c (.int .i64 0) :: .a 32 0 :: .a 64 0 :: .a 32 0 :: .c (.slice none 0 0) :: .c (.slice none 0 0) :: .c (.slice none 0 0) :: .c (.slice none 0 0) :: .c (.bool false) :: .c (.int .i64 0) :: .a 32 0 :: .c (.slice none 0 0) :: .a 32 0 :: .c (.slice none 0 0) :: [])) (t := 85) ?_
 intro p5_2
 refine MR 0 ?_ (hz := by rw [agF_size]; kernel_rfl) (hs := by rw [agF_size, agF_size]; rfl) (h1 := by exact hone0)
 refine MV ?_
 refine MW ?_ (v := .bool O)
 refine MZ fun W hS => ?_
 rcases O with _ | _
 ·
  have _f := True.intro
  have tb0 : telB a = true := hX.b
  have ln0 := hX.len
  go_upto_region 2 with fail
  refine RL hS ?_
  clear hS
  refine ML 0 ?_ (hs := by rw [agF_size]; kernel_rfl)
  refine MC (v := .tuple #[.slice none 0 0, .int .i64 2]) (fun W hS => tell_no (a := a) (v := av0) tb0 ln0 W (hS.pp (i := 1) rfl)) ?_
  refine MV ?_
  refine MV ?_
  refine MW ?_ (v := .int .i64 2)
  refine MV ?_
  refine MW ?_ (v := .int .i64 2)
  refine MZ fun W hS => ?_
  go_upto_region 3 with fail
  refine RL hS ?_
  clear hS
  refine MC (v := .bool true) (fun W hS => wires_c W) ?_
  refine MW ?_ (v := .bool false)
  refine MW ?_ (v := .bool false)
  refine MW ?_ (v := .int .i64 2)
  refine MW ?_ (v := .bool false)
  refine MW ?_ (v := .bool false)
  refine MW ?_ (v := .bool false)
  refine MW ?_ (v := .bool false)
  refine MW ?_ (v := .bool false)
  refine MW ?_ (v := .int .i64 2)
  refine MW ?_ (v := .bool true)
  refine MW ?_ (v := .bool true)
  refine MW ?_ (v := .int .i64 2)
  refine MW ?_ (v := .bool false)
  refine MW ?_ (v := .bool false)
  refine MV ?_
  refine MW ?_ (v := .int .i64 0)
  refine MW ?_ (v := .bool false)
  refine MW ?_ (v := .bool false)
  refine MW ?_ (v := .bool false)
  refine MW ?_ (v := .bool false)
  refine MZ fun W hS => ?_
  go_wp2
  first | exact bodyPost_ret (v := .bool true) (by simp only [results, Try.results6]; go_simp) rfl ⟨rfl, hS.ext⟩ | exact bodyPost_end (v := .bool true) (by simp only [results, Try.results6]; go_simp) rfl ⟨rfl, hS.ext⟩
 ·
  have _f := True.intro
  have tb0 : telB a = false := hX.b
  have ln0 := hX.len
  have tl0 : telL a = S := hX.l rfl
  have hSl : S.length ≤ 200000 := by rw [← tl0]; exact telL_le a
  have HL0 : RowKit.Hid (0 < S.length ∧ S.length ≤ 200000) := Lib.hid ⟨by rw [← tl0]; exact telL_pos a tb0 hX.wf, hSl⟩
  have hpne : ¬ S = [] := fun h_ => by have h2_ := HL0.out.1; rw [h_] at h2_; exact absurd h2_ (by decide)
  have q1 := told_fwd tb0 hX.wf []
  rw [List.append_nil, tl0] at q1
  obtain ⟨q1, hkT, heT⟩ := q1
  have HFu : RowKit.Hid (toldO S = true) := Lib.hid (by rw [q1]; rfl)
  have q2 := (told_fwd tb0 hX.wf [7]).1
  rw [tl0] at q2
  have HMo : RowKit.Hid (toldO (S ++ [7]) = false) := Lib.hid (by rw [q2]; rfl)
  obtain ⟨n, hn0⟩ : ∃ n : Nat, (n : Int) = cut % 18446744073709551616 % (S.length : Int) := ⟨(cut % 18446744073709551616 % (S.length : Int)).toNat, Int.toNat_of_nonneg (Int.emod_nonneg _ (by have h_ := HL0.out.1; omega))⟩
  have hnk : n < S.length := by have h_ := Int.emod_lt_of_pos (cut % 18446744073709551616) (show (0 : Int) < (S.length : Int) by have h_ := HL0.out.1; omega); omega
  have Hn := Lib.hid hn0
  clear hn0
  have q3 := told_less tb0 hX.wf (k := n) (by rw [tl0]; exact hnk)
  rw [tl0] at q3
  have HLe := Lib.hid q3
  clear q1 q2 q3
  go_upto_region 2 with fail
  refine RL hS ?_
  clear hS
  refine ML 0 ?_ (hs := by rw [agF_size]; kernel_rfl)
  refine ME (V := fun v => .tuple #[v, .int .i64 0]) (fun W hS => ncall hS (tell_yes (a := a) (v := av0) tb0 ln0 W (hS.pp (i := 1) rfl)) (fun _ => ⟨rfl, rfl⟩)) ?_
  intro vb26
  rw [tl0]
  refine MV ?_
  refine MV ?_
  refine MW ?_ (v := .int .i64 0)
  refine MV ?_
  refine MW ?_ (v := .int .i64 0)
  refine MZ fun W hS => ?_
  go_upto_region 3 with fail
  refine RL hS ?_
  clear hS
  refine MC (v := .bool true) (fun W hS => wires_c W) ?_
  refine MW ?_ (v := .bool false)
  refine MW ?_ (v := .bool false)
  refine MW ?_ (v := .int .i64 0)
  refine MW ?_ (v := .bool true)
  refine MW ?_ (v := .bool true)
  refine MW ?_ (v := .bool false)
  refine MW ?_ (v := .bool false)
  refine MW ?_ (v := .bool false)
  refine MW ?_ (v := .int .i64 0)
  refine MW ?_ (v := .bool false)
  refine MW ?_ (v := .bool false)
  refine MS ?_
  refine MS ?_
  refine MS ?_
  refine MS ?_
  refine MS ?_
  refine MS ?_
  refine MS ?_
  refine MW ?_ (v := .bool false)
  refine MW ?_ (v := .bool false)
  refine MZ fun W hS => ?_
  go_upto_region 7 with fail
  refine RL hS ?_
  clear hS
  refine MV ?_
  refine ME (V := fun x : TX S => .tuple #[.agg (anF (toldA S x.1.2) x.1.1), .int .i64 0]) (fun W hS => ncallL hS (told_yes HFu.out (by first | omega | (rw [List.length_take]; omega) | (simp only [List.length_append, List.length_cons, List.length_nil]; omega)) W (hS.osl (i := 0) rfl)) (fun _ => rfl)) ?_
  rintro ⟨⟨av3, us3⟩, hcu3⟩
  dsimp only
  refine MFact (fun W hS => anF_one (hS.pp (i := 0) rfl)) ?_
  intro hone3
  obtain ⟨tb3, tl3, tw3, tk3, te3⟩ := told_inv (us := us3) HFu.out hcu3
  have ln3 := told_len hcu3
  have kk3 := tk3.trans hkT
  have ke3 := te3.trans heT
  refine MV ?_
  refine MV ?_
  refine MW ?_ (v := .int .i64 0)
  refine MN (z := agF (.c (.int .i64 0) :: .c (.int .i64 0) :: .c (.int .i64 0) :: .c (.int .i64 0) :: .a 32 0 :: .a 80 0 :: .c (.bool false) :: .c (.int .i64 0) :: .c (.slice none 0 0) :: .a 32 0 :: .a 32 0 :: .c (.slice none 0 0) :: .c (.bool false) :: .a 32 0 :: .a 32 0 :: .a 32 0 :: .a 32 0 :: .a 32 0 :: .c (.int .i64 0) :: .a 32 0 :: .c (.slice none 0 0) :: .c (.slice none 0 0) :: .c (.bool false) :: .a 32 0 :: .a 32 0 :: .c (.int .i64 0) :: .a 32 0 :: .a 64 0 :: .a 32 0 :: .c (.slice none 0 0) :: .c (.slice none 0 0) :: .c (.slice none 0 0) :: .c (.slice none 0 0) :: .c (.bool false) :: .c (.int .i64 0) :: .a 32 0 :: .c (.slice none 0 0) :: .a 32 0 :: .c (.slice none 0 0) :: [])) (t := 85) ?_
  intro p10_4
  refine MR 0 ?_ (hz := by rw [agF_size]; kernel_rfl) (hs := by rw [agF_size, agF_size]; rfl) (h1 := by exact hone3)
  refine MW ?_ (v := .int .i64 0)
  refine MZ fun W hS => ?_
  go_upto_region 8 with fail
  refine RL hS ?_
  clear hS
  refine ML 0 ?_ (hs := by rw [agF_size]; kernel_rfl)
  refine ME (V := fun v => .tuple #[v, .int .i64 0]) (fun W hS => ncall hS (tell_yes (a := (toldA S us3)) (v := av3) tb3 ln3 W (hS.pp (i := 1) rfl)) (fun _ => ⟨rfl, rfl⟩)) ?_
  intro vb59
  rw [tl3]
  refine MV ?_
  refine MV ?_
  refine MW ?_ (v := .int .i64 0)
  refine MV ?_
  refine MW ?_ (v := .int .i64 0)
  refine MZ fun W hS => ?_
  go_upto_region 9 with fail
  refine RL hS ?_
  clear hS
  refine MV ?_
  refine MV ?_
  refine MW ?_ (v := .int .u64 (cut % 18446744073709551616)) (hv := by intro W; have h0_ : (0 : Int) ≤ cut % 18446744073709551616 := (by omega); have hp_ := HL0.out.1; go_simp; (try simp only [IntKind.wrap_u64, IntKind.wrap_i64]); (try rw [Int.tmod_eq_emod_of_nonneg (by omega)]); (try rw [if_neg (by omega)]); (try rw [if_neg hpne]); (try omega))
  refine MV ?_
  refine MF (v := .int .i64 (S.length : Int)) (fun W hS => run_lenA (hS.osl (i := 3) rfl) rfl rfl) ?_
  refine MW ?_ (v := .int .u64 (S.length : Int)) (hv := by intro W; have h0_ : (0 : Int) ≤ cut % 18446744073709551616 := (by omega); have hp_ := HL0.out.1; go_simp; (try simp only [IntKind.wrap_u64, IntKind.wrap_i64]); (try rw [Int.tmod_eq_emod_of_nonneg (by omega)]); (try rw [if_neg (by omega)]); (try rw [if_neg hpne]); (try omega))
  refine MW ?_ (v := .int .u64 (n : Int)) (hv := by intro W; have h0_ : (0 : Int) ≤ cut % 18446744073709551616 := (by omega); have hp_ := HL0.out.1; go_simp; (try simp only [IntKind.wrap_u64, IntKind.wrap_i64]); (try rw [Int.tmod_eq_emod_of_nonneg (by omega)]); (try rw [if_neg (by omega)]); (try rw [if_neg hpne]); (try rw [← Hn.out]))
  refine MW ?_ (v := .int .i64 (n : Int)) (hv := by intro W; have hp_ := HL0.out.1; have h0_ : (0 : Int) ≤ cut % 18446744073709551616 := (by omega); have hp_ := HL0.out.1; go_simp; (try simp only [IntKind.wrap_u64, IntKind.wrap_i64]); (try rw [Int.tmod_eq_emod_of_nonneg (by omega)]); (try rw [if_neg (by omega)]); (try rw [if_neg hpne]); (try omega))
  refine MT (fun W hS => hS.read (i := 3) rfl (hS.osl (i := 3) rfl) sub_refl) ?_
  refine MH 3 n (m := S) (m' := (List.take n S)) (by omega) ?_
  intro u71_5
  refine MC (v := .tuple #[.agg (anF (zA 0 0) zV), .int .i64 2]) (fun W hS => told_no HLe.out (by first | omega | (rw [List.length_take]; omega) | (simp only [List.length_append, List.length_cons, List.length_nil]; omega)) W (hS.sl (i := 0) rfl)) ?_
  refine MV ?_
  refine MV ?_
  refine MW ?_ (v := .int .i64 2)
  refine MN (z := agF (.c (.int .i64 0) :: .c (.int .i64 0) :: .c (.int .i64 0) :: .c (.int .i64 0) :: .a 32 0 :: .a 80 0 :: .c (.bool false) :: .c (.int .i64 0) :: .c (.slice none 0 0) :: .a 32 0 :: .a 32 0 :: .c (.slice none 0 0) :: .c (.bool false) :: .a 32 0 :: .a 32 0 :: .a 32 0 :: .a 32 0 :: .a 32 0 :: .c (.int .i64 0) :: .a 32 0 :: .c (.slice none 0 0) :: .c (.slice none 0 0) :: .c (.bool false) :: .a 32 0 :: .a 32 0 :: .c (.int .i64 0) :: .a 32 0 :: .a 64 0 :: .a 32 0 :: .c (.slice none 0 0) :: .c (.slice none 0 0) :: .c (.slice none 0 0) :: .c (.slice none 0 0) :: .c (.bool false) :: .c (.int .i64 0) :: .a 32 0 :: .c (.slice none 0 0) :: .a 32 0 :: .c (.slice none 0 0) :: [])) (t := 85) ?_
  intro p14_6
  refine MR 0 ?_ (hz := by rw [agF_size]; kernel_rfl) (hs := by first | (rw [agF_size, agF_size]; rfl) | rfl) (h1 := by exact (agF_one ⟨rfl, rfl, rfl, rfl, rfl, rfl, rfl, rfl, rfl, rfl, rfl, rfl, rfl, rfl, rfl, rfl, rfl, rfl, rfl, rfl, rfl, rfl, trivial⟩))
  refine MW ?_ (v := .int .i64 2)
  refine MZ fun W hS => ?_
  go_upto_region 10 with fail
  refine RL hS ?_
  clear hS
  refine MO (m := []) (n := 0) (z := #[]) ?_
  intro v76_7
  refine MV ?_
  refine MA 0 (xs := []) (ys := S) (fun W hS => (hS.sl (i := 6) rfl)) (by first | omega | (rw [List.length_take]; omega) | (simp only [List.length_append, List.length_cons, List.length_nil]; omega)) ?_
  intro v78_8
  refine MT (fun W hS => by rw [List.nil_append] at hS; exact hS) ?_
  refine MO (m := [7]) (n := 1) (z := #[.int .u8 7]) ?_
  intro v79_9
  refine MA 1 (xs := S) (ys := [7]) (fun W hS => (hS.osl (i := 0) rfl)) (by first | omega | (rw [List.length_take]; omega) | (simp only [List.length_append, List.length_cons, List.length_nil]; omega)) ?_
  intro v80_10
  refine MC (v := .tuple #[.agg (anF (zA 0 0) zV), .int .i64 2]) (fun W hS => told_no HMo.out (by first | omega | (rw [List.length_take]; omega) | (simp only [List.length_append, List.length_cons, List.length_nil]; omega)) W (hS.osl (i := 1) rfl)) ?_
  refine MV ?_
  refine MV ?_
  refine MW ?_ (v := .int .i64 2)
  refine MN (z := agF (.c (.int .i64 0) :: .c (.int .i64 0) :: .c (.int .i64 0) :: .c (.int .i64 0) :: .a 32 0 :: .a 80 0 :: .c (.bool false) :: .c (.int .i64 0) :: .c (.slice none 0 0) :: .a 32 0 :: .a 32 0 :: .c (.slice none 0 0) :: .c (.bool false) :: .a 32 0 :: .a 32 0 :: .a 32 0 :: .a 32 0 :: .a 32 0 :: .c (.int .i64 0) :: .a 32 0 :: .c (.slice none 0 0) :: .c (.slice none 0 0) :: .c (.bool false) :: .a 32 0 :: .a 32 0 :: .c (.int .i64 0) :: .a 32 0 :: .a 64 0 :: .a 32 0 :: .c (.slice none 0 0) :: .c (.slice none 0 0) :: .c (.slice none 0 0) :: .c (.slice none 0 0) :: .c (.bool false) :: .c (.int .i64 0) :: .a 32 0 :: .c (.slice none 0 0) :: .a 32 0 :: .c (.slice none 0 0) :: [])) (t := 85) ?_
  intro p16_11
  refine MR 0 ?_ (hz := by rw [agF_size]; kernel_rfl) (hs := by first | (rw [agF_size, agF_size]; rfl) | rfl) (h1 := by exact (agF_one ⟨rfl, rfl, rfl, rfl, rfl, rfl, rfl, rfl, rfl, rfl, rfl, rfl, rfl, rfl, rfl, rfl, rfl, rfl, rfl, rfl, rfl, rfl, trivial⟩))
  refine MW ?_ (v := .int .i64 2)
  refine MZ fun W hS => ?_
  go_upto_region 11 with fail
  refine RL hS ?_
  clear hS
  refine MV ?_
  refine MF (v := str S) (fun W hS => run_cvs (hS.sl (i := 8) rfl) rfl rfl) ?_
  refine MV ?_
  refine MW ?_ (v := .bool true) (hv := fun _ => run_streqb (l := S) (m := S) (b := true) (decide_eq_true rfl) rfl rfl rfl)
  refine MW ?_ (v := .bool true)
  refine MW ?_ (v := .int .i64 0)
  refine MW ?_ (v := .bool true)
  refine MW ?_ (v := .bool true)
  refine MW ?_ (v := .bool true)
  refine MW ?_ (v := .int .i64 0)
  refine MW ?_ (v := .bool true)
  refine MW ?_ (v := .bool true)
  refine MW ?_ (v := .bool true)
  refine MV ?_
  refine MF (v := str S) (fun W hS => run_cvs (hS.osl (i := 5) rfl) rfl rfl) ?_
  refine MV ?_
  refine MW ?_ (v := .bool true) (hv := fun _ => run_streqb (l := S) (m := S) (b := true) (decide_eq_true rfl) rfl rfl rfl)
  refine MW ?_ (v := .bool true)
  refine MW ?_ (v := .bool true)
  refine MW ?_ (v := .int .i64 2)
  refine MW ?_ (v := .bool true)
  refine MW ?_ (v := .bool true)
  refine MW ?_ (v := .bool true)
  refine MW ?_ (v := .int .i64 2)
  refine MW ?_ (v := .bool true)
  refine MW ?_ (v := .bool true)
  refine MW ?_ (v := .bool true)
  refine MV ?_
  refine MG 6 ?_ (v := .int .i64 a.k) (hj := (by rw [← kk3]; exact agF_cel (off := 0) 0))
  refine MV ?_
  refine MG 9 ?_ (v := .int .i64 a.k) (hj := (agF_cel (off := 0) 0))
  refine MW ?_ (v := .bool true) (hv := by intro W; go_simp; first | done | omega)
  refine MW ?_ (v := .bool true)
  refine MW ?_ (v := .bool true)
  refine MV ?_
  refine MG 6 ?_ (v := .int .i64 a.er) (hj := (by rw [← ke3]; exact agF_cel (off := 1) 1))
  refine MV ?_
  refine MG 9 ?_ (v := .int .i64 a.er) (hj := (agF_cel (off := 1) 1))
  refine MW ?_ (v := .bool true) (hv := by intro W; go_simp; first | done | omega)
  refine MW ?_ (v := .bool true)
  refine MW ?_ (v := .bool true)
  refine MZ fun W hS => ?_
  go_wp2
  first | exact bodyPost_ret (v := .bool true) (by simp only [results, Try.results6]; go_simp) rfl ⟨rfl, hS.ext⟩ | exact bodyPost_end (v := .bool true) (by simp only [results, Try.results6]; go_simp) rfl ⟨rfl, hS.ext⟩
end Go.Proofs.Ytlbgelbhhibikaa.Ww
