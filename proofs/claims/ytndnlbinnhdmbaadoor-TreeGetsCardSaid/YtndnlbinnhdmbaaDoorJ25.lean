/- Lists of leaves: the document's Same; the law's few and list. Conditions: keys and values have 256 bits. The document's sum of leaves; a tree's leaves. Conditions: the tables hold their numbers; keys and values have 256 bits. A tree's leaves, in order. Conditions: fewer than 2^38 leaves. TreeRoots. Conditions: keys and values have 256 bits; the tables hold their numbers. Lists of leaves, the plain law: the order in which leaves of unlike keys are put is no matter; a leaf that is there is found. No conditions. -/
import Derived.Test.YtndnlbinnhdmbaaDoorTsP
import Derived.Test.YtndnlbinnhdmbaaDoorJ23
set_option linter.unusedSimpArgs false
set_option linter.unusedVariables false
namespace Go.Proofs.YtndnlbinnhdmbaaDoor
set_option maxHeartbeats 3000000
set_option maxRecDepth 100000
open Go.RowKit
attribute [local irreducible] wpList wpTr wpX
set_option linter.unusedSimpArgs false

theorem few_c {ls : List Lf} {u : Value} (n : Nat) (hn : n ≤ 1000) (w : World) (hl : RR 64 w u (ls.map lfl)) :
  Calls Tryd.prog 21 #[u, .int .i64 (n : Int)] w fun e w' => RRet 24 (ls.take n) w w' e := by
 obtain ⟨Al, cl, rfl, hlcl, HRl⟩ := hl.op
 have hS := SH.nil [] w
 go_enter Tryd.func21, Tryd.ntmps21
 obtain ⟨u11, hu11, hR11⟩ := rr_head (m := min ls.length n) hl (by rw [List.length_map]; omega) Tryd.underlying38 (by kernel_rfl)
 go_upto_region 1 with fail
 refine RL hS ?_
 clear hS
 refine MB0 (t := 24) (n := 64) ?_
 intro v5_1
 refine MV ?_
 refine MV ?_
 refine MV ?_
 refine MV ?_
 refine MW ?_ (v := .int .i64 ((min ls.length n : Nat) : Int))
 refine MW ?_ (v := u11) (hv := fun _ => run_headV hu11 rfl rfl rfl)
 refine MAR 0 (tS := 38) (bytes := 64) (es := []) (fs := (List.map lfl (List.take (min ls.length n) ls))) (fun W hS => (by rw [List.map_take]; exact hR11 W (hl.ext hS.ext))) lfl_all (by first | omega | (simp only [List.length_append, List.length_map, List.length_take, List.length_cons, List.length_nil]; omega)) ?_
 intro v12_2
 refine MV ?_
 refine MZ fun W hS => ?_
 rw [List.nil_append, take_min'] at hS
 go_wp2
 exact bodyPost_ret (v := v12_2) (by simp only [results, Tryd.results21]; go_simp) rfl ⟨_, rfl, hS.pick [0]⟩
theorem list_c {ls : List Lf} {u : Value} (hls : ok256 ls) (hn : ls.length ≤ 274877906944) (w : World) (hl : RR 64 w u (ls.map lfl)) :
  Calls Tryd.prog 33 #[u] w fun e w' => RRet 24 (rlist ls) w w' e := by
 obtain ⟨Al, cl, rfl, hlcl, HRl⟩ := hl.op
 have hS := SH.nil [] w
 go_enter Tryd.func33, Tryd.ntmps33
 go_upto_region 1 with fail
 refine RL hS ?_
 clear hS
 refine MB0 (t := 24) (n := 64) ?_
 intro v5_1
 refine MV ?_
 refine MZ fun W hS => ?_
 go_wp2_with fail
 go_loopw [3, 4] (fun uv ii wr => ∃ (i : Nat) (u : Value), (i ≤ ls.length) ∧ (u = uv) ∧ (ii = .int .i64 (i : Int)) ∧ SH [] w wr [.r 24 64 u (List.map lfl (rlist (List.take i ls)))])
  (fun uv ii _ => ls.length - (intOf ii).toNat)
 case atStart => exact ⟨0, _, Nat.zero_le _, rfl, rfl, hS⟩
 clear hS
 case round =>
  obtain ⟨i, u, hi, rfl, rfl, hS⟩ := hrel
  have hle_ := rlist_len (ls.take i)
  rw [List.length_take] at hle_
  have hok_ := (rlist_spec (ls := ls.take i) fun y hy => hls y (List.mem_of_mem_take hy)).1
  by_cases hlt : i < ls.length
  ·
   have _f := hlt
   obtain ⟨x, xh⟩ : ∃ x, ls[i]? = some x := ⟨_, List.getElem?_eq_getElem hlt⟩
   obtain ⟨gl, ol, A0l, c0l⟩ := HRl.out i x xh
   have HAl := Lib.hid A0l
   clear A0l
   go_upto_region 3 with fail
   refine RL hS ?_
   clear hS
   refine MV ?_
   refine MV ?_
   refine MV ?_
   refine MW ?_ (v := .bool true)
   refine MZ fun W hS => ?_
   go_upto_region 5 with fail
   refine RL hS ?_
   clear hS
   refine MV ?_
   refine MV ?_
   refine MV ?_
   refine MW ?_ (v := .pointer (some ⟨gl, ol + i * 64, none⟩)) (hv := fun _ => run_ixRA HAl.out hlt rfl rfl rfl Tryd.underlying38 (by kernel_rfl))
   refine MF (v := .agg (lf x.1 x.2)) (fun W hS => run_atsub rfl rfl (fun i_ v hv => cell_ext (c0l i_ v (by simpa using hv)) hS.ext) (by kernel_rfl) (by rw [lf_size]; kernel_rfl)) ?_
   refine ME (fun W hS => rcall hS (rPut_c (k := x.1) (v := x.2) (hls _ (List.mem_of_getElem? xh)).1 hok_ (by omega) W (hS.row (i := 0) rfl).rr) rfl) ?_
   intro u_rp2
   refine MV ?_
   refine MZ fun W hS => ?_
   go_wp2
   go_roundw
   case rel => exact ⟨i + 1, u_rp2, by omega, rfl, by go_num, (by rw [rlist_take xh]; exact (hS.pick [0]))⟩
   case measure => simp [intOf]; omega
  ·
   have _f := hlt
   obtain rfl : i = ls.length := by omega
   go_upto_region 3 with fail
   refine RL hS ?_
   clear hS
   refine MV ?_
   refine MV ?_
   refine MV ?_
   refine MW ?_ (v := .bool false)
   refine MZ fun W hS => ?_
   go_wp2
   exact bodyPost_ret (v := u) (by simp only [results, Tryd.results33]; go_simp) rfl ⟨_, rfl, by have h_ := hS.pick [0]; rw [List.take_length] at h_; exact h_⟩
end Go.Proofs.YtndnlbinnhdmbaaDoor

set_option linter.unusedSimpArgs false
set_option linter.unusedVariables false
namespace Go.Proofs.YtndnlbinnhdmbaaDoor
set_option maxHeartbeats 3000000
set_option maxRecDepth 100000
open Go.RowKit
attribute [local irreducible] wpList wpTr wpX
set_option linter.unusedSimpArgs false
attribute [local irreducible] hs4 sE sL sN

theorem sum_0 {d : Int} {q : Prop} (hr : q) {u : Value} (w : World) (hG : GT q w) (hl : RR 64 w u (([] : List Lf).map lfl)) :
  Calls Tryd.prog 27 #[u, .int .i64 d] w fun e w' => Ret (str (lb 32 sE)) w w' e := by
 obtain ⟨Al, cl, rfl, hlcl, HRl⟩ := hl.op
 have hS := SH.nil [] w
 go_enter Tryd.func27, Tryd.ntmps27
 go_upto_region 1 with fail
 refine RL hS ?_
 clear hS
 refine MV ?_
 refine MV ?_
 refine MW ?_ (v := .bool true)
 refine MZ fun W hS => ?_
 go_upto_region 2 with fail
 refine RL hS ?_
 clear hS
 obtain ⟨U1, hU1⟩ := exn (sE)
 have HU1 := Lib.hid hU1
 clear hU1
 refine MC (v := str (lb 32 U1)) (fun W hS => (by rw [HU1.out]; exact rEmpty_c hr W (GT_ext hG hS.ext))) ?_
 refine MV ?_
 refine MZ fun W hS => ?_
 have e_ := HU1.out
 subst e_
 go_wp2
 exact bodyPost_ret (v := str (lb 32 sE)) (by simp only [results, Tryd.results27]; go_simp) rfl ⟨rfl, hS.ext⟩
theorem sum_1 {q : Prop} (hr : q) {d : Int} {x : Lf} {u : Value} (w : World) (hG : GT q w) (hl : RR 64 w u ([x].map lfl)) :
  Calls Tryd.prog 27 #[u, .int .i64 d] w fun e w' => Ret (str (lb 32 (sL x.1 x.2))) w w' e := by
 obtain ⟨Al, cl, rfl, hlcl, HRl⟩ := hl.op
 obtain ⟨gl, ol, A0l, c0l⟩ := HRl.out 0 x rfl
 have HAl := Lib.hid A0l
 clear A0l
 have hS := SH.nil [] w
 go_enter Tryd.func27, Tryd.ntmps27
 go_upto_region 1 with fail
 refine RL hS ?_
 clear hS
 refine MV ?_
 refine MV ?_
 refine MW ?_ (v := .bool false)
 refine MZ fun W hS => ?_
 go_upto_region 3 with fail
 refine RL hS ?_
 clear hS
 refine MV ?_
 refine MV ?_
 refine MW ?_ (v := .bool true)
 refine MZ fun W hS => ?_
 go_upto_region 4 with fail
 refine RL hS ?_
 clear hS
 refine MV ?_
 refine MW ?_ (v := .pointer (some ⟨gl, ol + 0 * 64, none⟩)) (hv := fun _ => run_ixRA HAl.out (Nat.lt_succ_self 0) rfl rfl rfl Tryd.underlying38 (by kernel_rfl))
 refine MF (v := .agg (lf x.1 x.2)) (fun W hS => run_atsub rfl rfl (fun i_ v hv => cell_ext (c0l i_ v (by simpa using hv)) hS.ext) (by kernel_rfl) (by rw [lf_size]; kernel_rfl)) ?_
 obtain ⟨U1, hU1⟩ := exn (sL x.1 x.2)
 have HU1 := Lib.hid hU1
 clear hU1
 refine MC (v := str (lb 32 U1)) (fun W hS => (by rw [HU1.out]; exact rLeafSum_c hr x.1 x.2 W (GT_ext hG hS.ext))) ?_
 refine MV ?_
 refine MZ fun W hS => ?_
 have e_ := HU1.out
 subst e_
 go_wp2
 exact bodyPost_ret (v := str (lb 32 (sL x.1 x.2))) (by simp only [results, Tryd.results27]; go_simp) rfl ⟨rfl, hS.ext⟩
theorem sum_2 {q : Prop} (hr : q) {ls : List Lf} {A0 A1 : Nat} (d : Nat) (hd : d < 256) (hn : ls.length ≤ 274877906944) (h2 : 2 ≤ ls.length) (ih0 : ∀ {u : Value} (W : World), GT q W → RR 64 W u ((rside ls d 0).map lfl) → Calls Tryd.prog 27 #[u, .int .i64 ((d + 1 : Nat) : Int)] W fun e w' => Ret (str (lb 32 A0)) W w' e) (ih1 : ∀ {u : Value} (W : World), GT q W → RR 64 W u ((rside ls d 1).map lfl) → Calls Tryd.prog 27 #[u, .int .i64 ((d + 1 : Nat) : Int)] W fun e w' => Ret (str (lb 32 A1)) W w' e) {u : Value} (w : World) (hG : GT q w) (hl : RR 64 w u (ls.map lfl)) :
  Calls Tryd.prog 27 #[u, .int .i64 (d : Int)] w fun e w' => Ret (str (lb 32 (sN d A0 A1))) w w' e := by
 obtain ⟨Al, cl, rfl, hlcl, HRl⟩ := hl.op
 have h0_ : ¬ ls = [] := fun e => by subst e; exact absurd h2 (by decide)
 have hS := SH.nil [] w
 go_enter Tryd.func27, Tryd.ntmps27
 go_upto_region 1 with fail
 refine RL hS ?_
 clear hS
 refine MV ?_
 refine MV ?_
 refine MW ?_ (v := .bool false) (hv := by intro W; first | (go_simp; done) | (go_simp; exact h0_))
 refine MZ fun W hS => ?_
 go_upto_region 3 with fail
 refine RL hS ?_
 clear hS
 refine MV ?_
 refine MV ?_
 refine MW ?_ (v := .bool false)
 refine MZ fun W hS => ?_
 go_upto_region 5 with fail
 refine RL hS ?_
 clear hS
 refine MV ?_
 refine MV ?_
 refine MV ?_
 refine ME (fun W hS => rcall hS (Side_c d 0 hd hn W (hl.ext hS.ext)) rfl) ?_
 intro u_rs1
 refine MV ?_
 refine MW ?_ (v := .int .i64 ((d + 1 : Nat) : Int)) (hv := by intro W; go_simp; (try simp only [IntKind.wrap_i64]); omega)
 refine MC (v := str (lb 32 A0)) (fun W hS => ih0 W (GT_ext hG hS.ext) (hS.row (i := 0) rfl).rr) ?_
 refine MV ?_
 refine MV ?_
 refine ME (fun W hS => rcall hS (Side_c d 1 hd hn W (hl.ext hS.ext)) rfl) ?_
 intro u_rs2
 refine MV ?_
 refine MW ?_ (v := .int .i64 ((d + 1 : Nat) : Int)) (hv := by intro W; go_simp; (try simp only [IntKind.wrap_i64]); omega)
 refine MC (v := str (lb 32 A1)) (fun W hS => ih1 W (GT_ext hG hS.ext) (hS.row (i := 0) rfl).rr) ?_
 obtain ⟨U1, hU1⟩ := exn (sN (d : Int) A0 A1)
 have HU1 := Lib.hid hU1
 clear hU1
 refine MC (v := str (lb 32 U1)) (fun W hS => (by rw [HU1.out]; exact rNodeSum_c hr (d : Int) A0 A1 W (GT_ext hG hS.ext))) ?_
 refine MV ?_
 refine MZ fun W hS => ?_
 have e_ := HU1.out
 subst e_
 go_wp2
 exact bodyPost_ret (v := str (lb 32 (sN d A0 A1))) (by simp only [results, Tryd.results27]; go_simp) rfl ⟨rfl, hS.ext⟩
/-- the document's sum is that of the tree -/
theorem rSum_c {q : Prop} (hr : q) : ∀ (f d : Nat) {ls : List Lf}, f + d = 256 → Srt ls → Pre ls d → ls.length ≤ 274877906944 → ∀ {u : Value} (w : World), GT q w → RR 64 w u (ls.map lfl) → Calls Tryd.prog 27 #[u, .int .i64 (d : Int)] w fun e w' => Ret (str (lb 32 (rs (can f ls d)))) w w' e
 | f, d, [], hd, hs, hp, hn, u, w, hG, h => by rw [can_nil]; exact sum_0 hr w hG h
 | f, d, [x], hd, hs, hp, hn, u, w, hG, h => by rw [can_one]; exact sum_1 hr w hG h
 | 0, d, x :: y :: r, hd, hs, hp, hn, u, w, hG, h => by
  obtain rfl : d = 256 := by omega
  exact (no_256 hs hp).elim
 | f + 1, d, x :: y :: r, hd, hs, hp, hn, u, w, hG, h => by
  rw [can_two (by simp)]
  exact sum_2 hr d (by omega) hn (by simp) (fun W hG' h' => rSum_c hr f (d + 1) (by omega) (srt_side hs) (pre_side hp) (Nat.le_trans (rside_len _ _ _) hn) W hG' h') (fun W hG' h' => rSum_c hr f (d + 1) (by omega) (srt_side hs) (pre_side hp) (Nat.le_trans (rside_len _ _ _) hn) W hG' h') w hG h
end Go.Proofs.YtndnlbinnhdmbaaDoor

set_option linter.unusedSimpArgs false
set_option linter.unusedVariables false
namespace Go.Proofs.YtndnlbinnhdmbaaDoor
set_option maxHeartbeats 3000000
set_option maxRecDepth 100000
open Go.RowKit
attribute [local irreducible] wpList wpTr wpX
set_option linter.unusedSimpArgs false
attribute [local irreducible] hs4 sE sL sN

end Go.Proofs.YtndnlbinnhdmbaaDoor

set_option linter.unusedSimpArgs false
set_option linter.unusedVariables false
namespace Go.Proofs.YtndnlbinnhdmbaaDoor
set_option maxHeartbeats 3000000
set_option maxRecDepth 100000
open Go.RowKit
attribute [local irreducible] wpList wpTr wpX
set_option linter.unusedSimpArgs false
theorem ok_L256 {ls : List Lf} (h : ok256 ls) : okL256 ls := fun i x hx => h x (List.mem_of_getElem? hx)
theorem ok_take {ls : List Lf} (n : Nat) (h : ok256 ls) : ok256 (ls.take n) := fun y hy => h y (List.mem_of_mem_take hy)
theorem of_r {q : Prop} {ls : List Lf} {u : Value} (h : ok256 ls) (hn : ls.length ≤ 1000) (w : World) (hG : GT q w) (hR : RR 64 w u (ls.map lfl)) : Calls Tryd.prog 23 #[u] w fun e w' => TRet (ofT ls) w w' e := by
 obtain ⟨A, c, rfl, _, _, h3⟩ := hR
 rw [List.length_map]
 exact of_c (ok_L256 h) (by omega) w hG h3
attribute [local irreducible] hs4 sE sL sN

end Go.Proofs.YtndnlbinnhdmbaaDoor

set_option linter.unusedSimpArgs false
set_option linter.unusedVariables false
namespace Go.Proofs.YtndnlbinnhdmbaaDoor
end Go.Proofs.YtndnlbinnhdmbaaDoor
