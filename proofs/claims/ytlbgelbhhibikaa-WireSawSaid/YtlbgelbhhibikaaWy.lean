/- WireSaw. Conditions: numbers have 64 bits, sums 256. -/
import Derived.Test.YtlbgelbhhibikaaWx
import Derived.Test.YtlbgelbhhibikaaWv
import Derived.Test.YtlbgelbhhibikaaJ31
set_option linter.unusedSimpArgs false
set_option linter.unusedVariables false
namespace Go.Proofs.Ytlbgelbhhibikaa.Ww
set_option maxHeartbeats 6000000
set_option maxRecDepth 100000
open Go.RowKit
attribute [local irreducible] wpList wpTr wpX
set_option linter.unusedSimpArgs false
theorem sized_n {d : Do} {f : Fo} {sv u : Value} (hf : szD d = f) (w : World) (hsm : RR 32 w sv (d.ss.map b32l)) (hu : ∀ W, (Instr.sliceAt 48 sv none (some (.int .i64 ((min d.ss.length 258 : Nat) : Int))) none).run Try.prog W = .ok u W) (hR : RR 32 w u (f.ss.map b32l)) :
  Calls Try.prog 16 #[.agg (doF d sv)] w fun e w' => Ret (.agg (dfF f u)) w w' e := by
 subst hf; exact sized_c w hsm hu hR
theorem fOf_toD {f : Fo} (hw : wfF f) : fOf (toD f) = f := by
 obtain ⟨ep, ix, vr, pre, ver, val, bo, op, ss, th, a, x, ro, li, ah, rd⟩ := f
 obtain ⟨_, ⟨h1, h2, h3, h4⟩, _, h5, h6, h7⟩ := hw
 have t : ∀ n X, X < 2 ^ (8 * n) → le ((lb n X).take n) = X := fun n X h => by rw [List.take_of_length_le (by rw [lb_length]; exact Nat.le_refl _), le_lb n X h]
 show Fo.mk ep (le ((lb 32 ix).take 32)) (le ((lb 80 vr).take 80)) pre ver val (le ((lb 32 bo).take 32)) (le ((lb 32 op).take 32)) ss th a x (le ((lb 32 ro).take 32)) (le ((lb 32 li).take 32)) (le ((lb 32 ah).take 32)) rd = _
 rw [t 32 ix h1, t 80 vr h2, t 32 bo h3, t 32 op h4, t 32 ro h5, t 32 li h6, t 32 ah h7]
theorem found_n {f : Fo} {sv : Value} (hw : wfF f) (hv : f.val.length ≤ 1000000) (w : World) (hsm : RR 32 w sv (f.ss.map b32l)) :
  Calls Try.prog 18 #[.agg (dfF f sv)] w fun e w' => ∃ vv, e = .returned (.agg (foF f vv sv)) ∧ SH [] w w' [.w vv f.val] := by
 have h := found_c (d := toD f) hv w hsm
 rw [fOf_toD hw] at h; exact h
theorem saw_yes {f : Fo} {vv sv : Value} (hb : foB f false = false) (hn : f.ss.length ≤ 1000000) (w : World) (hval : Sl w vv f.val) (hsm : RR 32 w sv (f.ss.map b32l)) :
  Calls Try.prog 17 #[.agg (foF f vv sv)] w fun e w' => ∃ u, e = .returned (.tuple #[u, .int .i64 0]) ∧ SH [] w w' [.o u (foL f [])] :=
 (saw_c hn w hval hsm).mono fun e w' h => h.elim (fun h => by rw [hb] at h; cases h.1) (fun h => h.2)
theorem saw_not {f : Fo} {vv sv : Value} (hb : foB f false = true) (hn : f.ss.length ≤ 1000000) (w : World) (hval : Sl w vv f.val) (hsm : RR 32 w sv (f.ss.map b32l)) :
  Calls Try.prog 17 #[.agg (foF f vv sv)] w fun e w' => Ret (.tuple #[.slice none 0 0, .int .i64 2]) w w' e :=
 (saw_c hn w hval hsm).mono fun e w' h => h.elim (fun h => h.2) (fun h => by rw [hb] at h; cases h.1)
theorem dsaw_yes {f : Fo} {sv : Value} (hb : foB f false = false) (hn : f.ss.length ≤ 1000000) (hv : f.val.length ≤ 1000000) (w : World) (hsm : RR 32 w sv (f.ss.map b32l)) :
  Calls Try.prog 19 #[.agg (dfF f sv)] w fun e w' => Ret (.tuple #[str (foL f []), .bool true]) w w' e := by
 have h := dsaw_c hn hv w hsm
 rw [(df_eq f).1, (df_eq f).2 hb, hb] at h; exact h
theorem dsaw_not {f : Fo} {sv : Value} {dl : List UInt8} (hd : dfL f = dl) (hb : foB f false = true) (hn : f.ss.length ≤ 1000000) (hv : f.val.length ≤ 1000000) (w : World) (hsm : RR 32 w sv (f.ss.map b32l)) :
  Calls Try.prog 19 #[.agg (dfF f sv)] w fun e w' => Ret (.tuple #[str dl, .bool false]) w w' e := by
 have h := dsaw_c hn hv w hsm
 rw [(df_eq f).1, hb, hd] at h; exact h
theorem seen_yes {f : Fo} {u : Value} {l : List UInt8} (hl : l.length ≤ 1000000) (ho : rok l = true) (hf : rFo (l, 0) = f) (w : World) (hs : Sl w u l) :
  Calls Try.prog 20 #[u] w fun e w' => ∃ x : Value × Value, e = .returned (.tuple #[.agg (foF f x.1 x.2), .int .i64 0]) ∧ SH [] w w' [.o x.1 f.val, .r 27 32 x.2 (f.ss.map b32l)] ∧ ∀ y ∈ [As.o x.1 f.val, .r 27 32 x.2 (f.ss.map b32l)], y.mv = false → ∀ k ∈ y.foot, w.heap.size ≤ k := by
 subst hf; exact (seen_c hl w hs).mono fun e w' h => h.elim (fun h => by rw [ho] at h; cases h.1) (fun ⟨_, x, h1, h2⟩ => ⟨x, h1, h2, fr4 rfl⟩)
theorem seen_no {u : Value} {l : List UInt8} (hl : l.length ≤ 1000000) (ho : rok l = false) (w : World) (hs : Sl w u l) :
  Calls Try.prog 20 #[u] w fun e w' => Ret (.tuple #[.agg (foF zFo (.slice none 0 0) (.slice none 0 0)), .int .i64 2]) w w' e :=
 (seen_c hl w hs).mono fun e w' h => h.elim (fun h => h.2) (fun h => by rw [ho] at h; cases h.1)
theorem szD_val (d : Do) : (szD d).val.length ≤ 80 := by
 show (d.val.take _).length ≤ 80
 rw [List.length_take]; omega
theorem szD_ss (d : Do) : (szD d).ss.length ≤ 258 := by
 show (d.ss.take _).length ≤ 258
 rw [List.length_take]; omega
theorem szD_wf {d : Do} (h1 : i64 d.ep) (h2 : i64 d.ver) (h3 : i64 d.rd) (hs : ∀ y ∈ d.ss, y < 2 ^ 256) (ha : d.a < 2 ^ 256) (hx : d.x < 2 ^ 256) : wfF (szD d) := by
 have hl : ∀ (n : Nat) (x : List UInt8), le (x.take n) < 2 ^ (8 * n) := fun n x => Nat.lt_of_lt_of_le (le_lt _) (Nat.pow_le_pow_right (by decide) (by rw [List.length_take]; omega))
 exact ⟨⟨h1, h2, h3⟩, ⟨hl 32 _, hl 80 _, hl 32 _, hl 32 _⟩, ⟨fun y hy => hs y (List.mem_of_mem_take hy), ha, hx⟩, hl 32 _, hl 32 _, hl 32 _⟩
theorem head_258 (ss : List Nat) : (ss.map b32l).take (min ss.length 258) = (ss.take 258).map b32l := by
 rw [← List.map_take, Nat.min_comm, ← List.take_take, List.take_length]
theorem foL_pos {f : Fo} (h : foB f false = false) : 0 < (foL f []).length := by
 have h2 := foL_app h []
 rw [List.append_nil] at h2
 rw [h2, List.length_append, eI_len]; omega
attribute [local irreducible] lb be8 eI tB txL txB dtx dok pB foL foB rFo rok szD dfL

theorem wireSaw_L {d : Do} {sv : Value} (cut : Int) (h1 : i64 d.ep) (h2 : i64 d.ver) (h3 : i64 d.rd) (hs : ∀ y ∈ d.ss, y < 2 ^ 256) (ha : d.a < 2 ^ 256) (hx : d.x < 2 ^ 256) (w : World) (hsm : RR 32 w sv (d.ss.map b32l)) :
  Calls Try.prog 5 #[.agg (doF d sv), .int .i64 cut] w fun e w' => Ret (.bool true) w w' e := by
 obtain ⟨u10, hu10, hR10⟩ := rr_head (m := min d.ss.length 258) hsm (by rw [List.length_map]; exact Nat.min_le_left _ _) Try.underlying48 (by kernel_rfl)
 have hR_ := hR10 w hsm
 rw [head_258] at hR_
 clear hR10
 have hw_ := szD_wf h1 h2 h3 hs ha hx
 have hn_ := szD_ss d
 have hv_ := szD_val d
 replace hR_ : RR 32 w u10 ((szD d).ss.map b32l) := by unfold szD; exact hR_
 obtain ⟨f, hf⟩ : ∃ f, szD d = f := ⟨_, rfl⟩
 rw [hf] at hR_ hw_ hn_ hv_
 have hR := hR_
 have hn : f.ss.length ≤ 1000000 := by omega
 have hv : f.val.length ≤ 1000000 := by omega
 have HF := Lib.hid hf
 have HW := Lib.hid hw_
 clear hf hw_ hR_
 have HWa : RowKit.Hid ((if f.th = true then f.a else 0) < 2 ^ 256) := Lib.hid (by have := HW.out.2.2.1.2.1; split <;> omega)
 have HWx : RowKit.Hid ((if f.th = true then f.x else 0) < 2 ^ 256) := Lib.hid (by have := HW.out.2.2.1.2.2; split <;> omega)
 have hS := SH.nil [] w
 go_enter Try.func5, Try.ntmps5
 go_upto_region 0 with fail
 refine RL hS ?_
 clear hS
 refine MN (z := agF [.c (.int .i64 d.ep), .c (str d.ix), .c (str d.vr), .c (.bool d.pre), .c (.int .i64 d.ver), .c (str d.val), .c (str d.bo), .c (str d.op), .c sv, .c (.bool d.th), .a 32 d.a, .a 32 d.x, .c (str d.ro), .c (str d.li), .c (str d.ah), .c (.int .i64 d.rd)]) (t := 54) ?_
 intro p2_1
 refine MW ?_ (v := .bool false)
 refine MZ fun W hS => ?_
 go_upto_region 1 with fail
 refine RL hS ?_
 clear hS
 refine ML 0 ?_ (hs := by rw [agF_size]; kernel_rfl)
 refine MC (v := .agg (agF [.c (.int .i64 f.ep), .c (str (lb 32 f.ix)), .c (str (lb 80 f.vr)), .c (.bool f.pre), .c (.int .i64 f.ver), .c (str f.val), .c (str (lb 32 f.bo)), .c (str (lb 32 f.op)), .c u10, .c (.bool f.th), .a 32 f.a, .a 32 f.x, .c (str (lb 32 f.ro)), .c (str (lb 32 f.li)), .c (str (lb 32 f.ah)), .c (.int .i64 f.rd)])) (fun W hS => sized_n HF.out W (hsm.ext hS.ext) hu10 (hR.ext hS.ext)) ?_
 refine MR 0 ?_ (hz := by rw [agF_size]; kernel_rfl) (hs := by first | (rw [agF_size, agF_size]; rfl) | rfl) (h1 := by exact (agF_one ⟨rfl, rfl, rfl, rfl, rfl, rfl, rfl, rfl, (rr_cells hR).2, rfl, rfl, rfl, rfl, rfl, trivial⟩))
 refine MZ fun W hS => ?_
 rcases bool_or (foB f false) with hb | hb
 ·
  have _f := True.intro
  have HB := Lib.hid hb
  clear hb
  obtain ⟨dl, hdl⟩ : ∃ dl, dfL f = dl := ⟨_, rfl⟩
  have HDL := Lib.hid hdl
  clear hdl
  go_upto_region 2 with fail
  refine RL hS ?_
  clear hS
  refine ML 0 ?_ (hs := by rw [agF_size]; kernel_rfl)
  refine ME (V := fun vv => .agg (foF f vv u10)) (fun W hS => ncall hS (found_n HW.out hv W (hR.ext hS.ext)) (fun _ => ⟨rfl, rfl⟩)) ?_
  intro vv
  refine MFact (fun W hS => sl_cells (hS.ozl (i := 0) rfl)) ?_
  intro hvc
  refine MC (v := .tuple #[.slice none 0 0, .int .i64 2]) (fun W hS => saw_not HB.out hn W (hS.ozl (i := 0) rfl) (hR.ext hS.ext)) ?_
  refine MV ?_
  refine MV ?_
  refine MW ?_ (v := .int .i64 2)
  refine MV ?_
  refine MW ?_ (v := .int .i64 2)
  refine MZ fun W hS => ?_
  go_upto_region 3 with fail
  refine RL hS ?_
  clear hS
  refine ML 1 ?_ (hs := by rw [agF_size]; kernel_rfl)
  refine MC (v := .tuple #[str dl, .bool false]) (fun W hS => dsaw_not HDL.out HB.out hn hv W (hR.ext hS.ext)) ?_
  refine MV ?_
  refine MV ?_
  refine MW ?_ (v := .bool false)
  refine MV ?_
  refine MW ?_ (v := .bool false)
  refine MZ fun W hS => ?_
  go_upto_region 4 with fail
  refine RL hS ?_
  clear hS
  refine MC (v := .bool true) (fun W hS => wires_c W) ?_
  refine MW ?_ (v := .bool false)
  refine MW ?_ (v := .bool false)
  refine MW ?_ (v := .int .i64 2)
  refine MW ?_ (v := .bool false)
  refine MW ?_ (v := .bool false)
  refine MW ?_ (v := .bool false)
  refine MW ?_ (v := .bool false)
  refine MW ?_ (v := .bool false)
  refine MW ?_ (v := .int .i64 2)
  refine MW ?_ (v := .bool true)
  refine MW ?_ (v := .bool true)
  refine MW ?_ (v := .int .i64 2)
  refine MW ?_ (v := .bool false)
  refine MW ?_ (v := .bool false)
  refine MW ?_ (v := .bool false)
  refine MZ fun W hS => ?_
  go_upto_region 7 with fail
  refine RL hS ?_
  clear hS
  refine MV ?_
  refine MW ?_ (v := .int .i64 0)
  refine MW ?_ (v := .bool true)
  refine MW ?_ (v := .bool true)
  refine MZ fun W hS => ?_
  go_wp2
  first | exact bodyPost_ret (v := .bool true) (by simp only [results, Try.results5]; go_simp) rfl ⟨rfl, hS.ext⟩ | exact bodyPost_end (v := .bool true) (by simp only [results, Try.results5]; go_simp) rfl ⟨rfl, hS.ext⟩
 ·
  have _f := True.intro
  have HB := Lib.hid hb
  have HL0 : RowKit.Hid (0 < (foL f []).length ∧ (foL f []).length ≤ 10000) := Lib.hid ⟨foL_pos hb, by have := foL_le (f := f) (l := []); simp only [List.length_nil] at this; omega⟩
  have hlb : (foL f []).length ≤ 10000 := HL0.out.2
  have hpne : ¬ foL f [] = [] := fun h_ => by have h2_ := HL0.out.1; rw [h_] at h2_; exact absurd h2_ (by decide)
  obtain ⟨n, hn0⟩ : ∃ n : Nat, (n : Int) = cut % 18446744073709551616 % ((foL f []).length : Int) := ⟨(cut % 18446744073709551616 % ((foL f []).length : Int)).toNat, Int.toNat_of_nonneg (Int.emod_nonneg _ (by have h_ := HL0.out.1; omega))⟩
  have hnk : n < (foL f []).length := by have h_ := Int.emod_lt_of_pos (cut % 18446744073709551616) (show (0 : Int) < ((foL f []).length : Int) by have h_ := HL0.out.1; omega); omega
  have Hn := Lib.hid hn0
  clear hn0
  obtain ⟨hk1, hk2⟩ := rok_full hb HW.out
  have HK := Lib.hid hk1
  have HG := Lib.hid hk2
  have HLS := Lib.hid (rok_less hb HW.out hnk)
  have HMO := Lib.hid (rok_more hb HW.out 0)
  clear hk1 hk2 hb
  go_upto_region 2 with fail
  refine RL hS ?_
  clear hS
  refine ML 0 ?_ (hs := by rw [agF_size]; kernel_rfl)
  refine ME (V := fun vv => .agg (foF f vv u10)) (fun W hS => ncall hS (found_n HW.out hv W (hR.ext hS.ext)) (fun _ => ⟨rfl, rfl⟩)) ?_
  intro vv
  refine MFact (fun W hS => sl_cells (hS.ozl (i := 0) rfl)) ?_
  intro hvc
  refine ME (V := fun v => .tuple #[v, .int .i64 0]) (fun W hS => ncall hS (saw_yes HB.out hn W (hS.ozl (i := 0) rfl) (hR.ext hS.ext)) (fun _ => ⟨rfl, rfl⟩)) ?_
  intro vb
  refine MV ?_
  refine MV ?_
  refine MW ?_ (v := .int .i64 0)
  refine MV ?_
  refine MW ?_ (v := .int .i64 0)
  refine MZ fun W hS => ?_
  go_upto_region 3 with fail
  refine RL hS ?_
  clear hS
  refine ML 2 ?_ (hs := by rw [agF_size]; kernel_rfl)
  refine MC (v := .tuple #[str (foL f []), .bool true]) (fun W hS => dsaw_yes HB.out hn hv W (hR.ext hS.ext)) ?_
  refine MV ?_
  refine MV ?_
  refine MW ?_ (v := .bool true)
  refine MV ?_
  refine MW ?_ (v := .bool true)
  refine MZ fun W hS => ?_
  go_upto_region 4 with fail
  refine RL hS ?_
  clear hS
  refine MC (v := .bool true) (fun W hS => wires_c W) ?_
  refine MW ?_ (v := .bool false)
  refine MW ?_ (v := .bool false)
  refine MW ?_ (v := .int .i64 0)
  refine MW ?_ (v := .bool true)
  refine MW ?_ (v := .bool true)
  refine MW ?_ (v := .bool false)
  refine MW ?_ (v := .bool false)
  refine MW ?_ (v := .bool false)
  refine MW ?_ (v := .int .i64 0)
  refine MW ?_ (v := .bool false)
  refine MW ?_ (v := .bool false)
  refine MS ?_
  refine MS ?_
  refine MW ?_ (v := .bool false)
  refine MW ?_ (v := .bool false)
  refine MZ fun W hS => ?_
  go_upto_region 8 with fail
  refine RL hS ?_
  clear hS
  refine MV ?_
  refine ME (V := fun x : Value × Value => .tuple #[.agg (foF (nzF f) x.1 x.2), .int .i64 0]) (fun W hS => ncallL hS (seen_yes (by first | omega | (simp only [List.length_append, List.length_cons, List.length_nil]; omega)) HK.out HG.out W (hS.osl (i := 0) rfl)) (fun _ => rfl)) ?_
  rintro ⟨vs, ts⟩
  dsimp only
  refine MFact (fun W hS => (hS.row (i := 1) rfl).cells) ?_
  intro hsc
  refine MFact (fun W hS => sl_cells (hS.osl (i := 0) rfl)) ?_
  intro hvc2
  refine MV ?_
  refine MV ?_
  refine MW ?_ (v := .int .i64 0)
  refine MN (z := agF [.c (.int .i64 0), .a 32 0, .a 80 0, .c (.bool false), .c (.int .i64 0), .c (.slice none 0 0), .a 32 0, .a 32 0, .c (.slice none 0 0), .c (.bool false), .a 32 0, .a 32 0, .a 32 0, .a 32 0, .a 32 0, .c (.int .i64 0)]) (t := 64) ?_
  intro p9_2
  refine MR 0 ?_ (hz := by rw [agF_size]; kernel_rfl) (hs := by first | (rw [agF_size, agF_size]; rfl) | rfl) (h1 := by exact (agF_one ⟨rfl, rfl, rfl, hvc2.2, hsc.2, rfl, rfl, trivial⟩))
  refine MW ?_ (v := .int .i64 0)
  refine MZ fun W hS => ?_
  go_upto_region 9 with fail
  refine RL hS ?_
  clear hS
  refine MV ?_
  refine MV ?_
  refine MW ?_ (v := .int .u64 (cut % 18446744073709551616)) (hv := by intro W; have h0_ : (0 : Int) ≤ cut % 18446744073709551616 := (by omega); have hp_ := HL0.out.1; go_simp; (try simp only [IntKind.wrap_u64, IntKind.wrap_i64]); (try rw [Int.tmod_eq_emod_of_nonneg (by omega)]); (try rw [if_neg (by omega)]); (try rw [if_neg hpne]); (try omega))
  refine MV ?_
  refine MF (v := .int .i64 ((foL f []).length : Int)) (fun W hS => run_lenA (hS.osl (i := 3) rfl) rfl rfl) ?_
  refine MW ?_ (v := .int .u64 ((foL f []).length : Int)) (hv := by intro W; have h0_ : (0 : Int) ≤ cut % 18446744073709551616 := (by omega); have hp_ := HL0.out.1; go_simp; (try simp only [IntKind.wrap_u64, IntKind.wrap_i64]); (try rw [Int.tmod_eq_emod_of_nonneg (by omega)]); (try rw [if_neg (by omega)]); (try rw [if_neg hpne]); (try omega))
  refine MW ?_ (v := .int .u64 (n : Int)) (hv := by intro W; have h0_ : (0 : Int) ≤ cut % 18446744073709551616 := (by omega); have hp_ := HL0.out.1; go_simp; (try simp only [IntKind.wrap_u64, IntKind.wrap_i64]); (try rw [Int.tmod_eq_emod_of_nonneg (by omega)]); (try rw [if_neg (by omega)]); (try rw [if_neg hpne]); (try rw [← Hn.out]))
  refine MW ?_ (v := .int .i64 (n : Int)) (hv := by intro W; have hp_ := HL0.out.1; have h0_ : (0 : Int) ≤ cut % 18446744073709551616 := (by omega); have hp_ := HL0.out.1; go_simp; (try simp only [IntKind.wrap_u64, IntKind.wrap_i64]); (try rw [Int.tmod_eq_emod_of_nonneg (by omega)]); (try rw [if_neg (by omega)]); (try rw [if_neg hpne]); (try omega))
  refine MT (fun W hS => hS.read (i := 3) rfl (hS.osl (i := 3) rfl) sub_refl) ?_
  refine MH 3 n (m := (foL f [])) (m' := (List.take n (foL f []))) (by omega) ?_
  intro u63_3
  refine MC (v := .tuple #[.agg (agF [.c (.int .i64 zFo.ep), .a 32 zFo.ix, .a 80 zFo.vr, .c (.bool zFo.pre), .c (.int .i64 zFo.ver), .c (.slice none 0 0), .a 32 zFo.bo, .a 32 zFo.op, .c (.slice none 0 0), .c (.bool zFo.th), .a 32 zFo.a, .a 32 zFo.x, .a 32 zFo.ro, .a 32 zFo.li, .a 32 zFo.ah, .c (.int .i64 zFo.rd)]), .int .i64 2]) (fun W hS => seen_no (by rw [List.length_take]; omega) HLS.out W (hS.sl (i := 0) rfl)) ?_
  refine MV ?_
  refine MV ?_
  refine MW ?_ (v := .int .i64 2)
  refine MN (z := agF [.c (.int .i64 0), .a 32 0, .a 80 0, .c (.bool false), .c (.int .i64 0), .c (.slice none 0 0), .a 32 0, .a 32 0, .c (.slice none 0 0), .c (.bool false), .a 32 0, .a 32 0, .a 32 0, .a 32 0, .a 32 0, .c (.int .i64 0)]) (t := 64) ?_
  intro p11_4
  refine MR 0 ?_ (hz := by rw [agF_size]; kernel_rfl) (hs := by first | (rw [agF_size, agF_size]; rfl) | rfl) (h1 := by exact (agF_one ⟨rfl, rfl, rfl, rfl, rfl, rfl, rfl, trivial⟩))
  refine MW ?_ (v := .int .i64 2)
  refine MZ fun W hS => ?_
  go_upto_region 10 with fail
  refine RL hS ?_
  clear hS
  refine MO (m := []) (n := 0) (z := #[]) ?_
  intro v68_5
  refine MV ?_
  refine MA 0 (xs := []) (ys := (foL f [])) (fun W hS => (hS.sl (i := 6) rfl)) (by first | omega | (simp only [List.length_append, List.length_cons, List.length_nil]; omega)) ?_
  intro v70_6
  refine MT (fun W hS => by rw [List.nil_append] at hS; exact hS) ?_
  refine MO (m := [0]) (n := 1) (z := #[.int .u8 0]) ?_
  intro v71_7
  refine MA 1 (xs := (foL f [])) (ys := [0]) (fun W hS => (hS.osl (i := 0) rfl)) (by first | omega | (simp only [List.length_append, List.length_cons, List.length_nil]; omega)) ?_
  intro v72_8
  refine MC (v := .tuple #[.agg (agF [.c (.int .i64 zFo.ep), .a 32 zFo.ix, .a 80 zFo.vr, .c (.bool zFo.pre), .c (.int .i64 zFo.ver), .c (.slice none 0 0), .a 32 zFo.bo, .a 32 zFo.op, .c (.slice none 0 0), .c (.bool zFo.th), .a 32 zFo.a, .a 32 zFo.x, .a 32 zFo.ro, .a 32 zFo.li, .a 32 zFo.ah, .c (.int .i64 zFo.rd)]), .int .i64 2]) (fun W hS => seen_no (by first | omega | (simp only [List.length_append, List.length_cons, List.length_nil]; omega)) HMO.out W (hS.osl (i := 1) rfl)) ?_
  refine MV ?_
  refine MV ?_
  refine MW ?_ (v := .int .i64 2)
  refine MN (z := agF [.c (.int .i64 0), .a 32 0, .a 80 0, .c (.bool false), .c (.int .i64 0), .c (.slice none 0 0), .a 32 0, .a 32 0, .c (.slice none 0 0), .c (.bool false), .a 32 0, .a 32 0, .a 32 0, .a 32 0, .a 32 0, .c (.int .i64 0)]) (t := 64) ?_
  intro p13_9
  refine MR 0 ?_ (hz := by rw [agF_size]; kernel_rfl) (hs := by first | (rw [agF_size, agF_size]; rfl) | rfl) (h1 := by exact (agF_one ⟨rfl, rfl, rfl, rfl, rfl, rfl, rfl, trivial⟩))
  refine MW ?_ (v := .int .i64 2)
  refine MZ fun W hS => ?_
  go_upto_region 11 with fail
  refine RTh (.q 0 (.q 1 (.q 2 (.q 3 (.q 4 (.q 5 (.q 6 (.q 7 (.q 8 (.q 9 (.q 11 (.e 10 (.e 12 (.q 13 (.q 14 (.q 15 (.q 16 (.q 17 (.q 18 (.q 19 (.q 20 (.q 21 (.q 22 .z))))))))))))))))))))))) hS ?_
  clear hS
  refine TV ?_
  refine TF (v := str (foL f [])) rfl (fun W hS => run_cvs (hS.sl (i := 8) rfl) rfl rfl) ?_
  refine TV ?_
  refine TW ?_ (v := .bool true) (hv := fun _ => run_streqb (l := (foL f [])) (m := (foL f [])) (b := true) (decide_eq_true rfl) rfl rfl rfl)
  refine TW ?_ (v := .bool true)
  refine TW ?_ (v := .int .i64 0)
  refine TW ?_ (v := .bool true)
  refine TW ?_ (v := .bool true)
  refine TW ?_ (v := .bool true)
  refine TL 5 ?_ (hs := by rw [agF_size]; kernel_rfl)
  refine TL 10 ?_ (hs := by rw [agF_size]; kernel_rfl)
  refine TE (fun _ h => h) ?_
  refine MC (v := .agg (agF [.c (.int .i64 (nzF f).ep), .c (str (lb 32 (nzF f).ix)), .c (str (lb 80 (nzF f).vr)), .c (.bool (nzF f).pre), .c (.int .i64 (nzF f).ver), .c (str (nzF f).val), .c (str (lb 32 (nzF f).bo)), .c (str (lb 32 (nzF f).op)), .c ts, .c (.bool (nzF f).th), .a 32 ((nzF f).a), .a 32 ((nzF f).x), .c (str (lb 32 (nzF f).ro)), .c (str (lb 32 (nzF f).li)), .c (str (lb 32 (nzF f).ah)), .c (.int .i64 (nzF f).rd)])) (fun W hS => back_c (f := nzF f) W (hS.osl (i := 6) rfl) (hS.row (i := 7) rfl).rr) ?_
  refine TNh (fun W hS => hS) ?_
  refine TE (fun _ h => h) ?_
  refine MC (v := .bool true) (fun W hS => same_c (f := f) (a := if f.th = true then f.a else 0) (x := if f.th = true then f.x else 0) hn (fun h_ => ⟨if_pos h_, if_pos h_⟩) HWa.out HWx.out W (hS.row (i := 7) rfl).rr (hR.ext hS.ext)) ?_
  refine TNh (fun W hS => hS) ?_
  refine TW ?_ (v := .bool true)
  refine TW ?_ (v := .bool true)
  refine TW ?_ (v := .int .i64 2)
  refine TW ?_ (v := .bool true)
  refine TW ?_ (v := .bool true)
  refine TW ?_ (v := .bool true)
  refine TW ?_ (v := .int .i64 2)
  refine TW ?_ (v := .bool true)
  refine TW ?_ (v := .bool true)
  refine TW ?_ (v := .bool true)
  refine TZ (fun _ h => h) fun W hS => ?_
  go_wp2
  first | exact bodyPost_ret (v := .bool true) (by simp only [results, Try.results5]; go_simp) rfl ⟨rfl, hS.ext⟩ | exact bodyPost_end (v := .bool true) (by simp only [results, Try.results5]; go_simp) rfl ⟨rfl, hS.ext⟩
end Go.Proofs.Ytlbgelbhhibikaa.Ww
