/- The document's sum of leaves; a tree's leaves. Conditions: the tables hold their numbers; keys and values have 256 bits. -/
import Derived.Test.YtndnlbinnhdmbaaDoorTsQ
set_option linter.unusedSimpArgs false
set_option linter.unusedVariables false
namespace Go.Proofs.YtndnlbinnhdmbaaDoor
set_option maxHeartbeats 3000000
set_option maxRecDepth 100000
open Go.RowKit
attribute [local irreducible] wpList wpTr wpX
set_option linter.unusedSimpArgs false
attribute [local irreducible] hs4 sE sL sN

theorem sum_0 {d : Int} {q : Prop} (hr : q) {u : Value} (w : World) (hG : GT q w) (hl : RR 64 w u (([] : List Lf).map lfl)) :
  Calls Tryd.prog 27 #[u, .int .i64 d] w fun e w' => Ret (str (lb 32 sE)) w w' e := by
 obtain ⟨Al, cl, rfl, hlcl, HRl⟩ := hl.op
 have hS := SH.nil [] w
 go_enter Tryd.func27, Tryd.ntmps27
 go_upto_region 1 with fail
 refine RL hS ?_
 clear hS
 refine MV ?_
 refine MV ?_
 refine MW ?_ (v := .bool true)
 refine MZ fun W hS => ?_
 go_upto_region 2 with fail
 refine RL hS ?_
 clear hS
 obtain ⟨U1, hU1⟩ := exn (sE)
 have HU1 := Lib.hid hU1
 clear hU1
 refine MC (v := str (lb 32 U1)) (fun W hS => (by rw [HU1.out]; exact rEmpty_c hr W (GT_ext hG hS.ext))) ?_
 refine MV ?_
 refine MZ fun W hS => ?_
 have e_ := HU1.out
 subst e_
 go_wp2
 exact bodyPost_ret (v := str (lb 32 sE)) (by simp only [results, Tryd.results27]; go_simp) rfl ⟨rfl, hS.ext⟩
theorem sum_1 {q : Prop} (hr : q) {d : Int} {x : Lf} {u : Value} (w : World) (hG : GT q w) (hl : RR 64 w u ([x].map lfl)) :
  Calls Tryd.prog 27 #[u, .int .i64 d] w fun e w' => Ret (str (lb 32 (sL x.1 x.2))) w w' e := by
 obtain ⟨Al, cl, rfl, hlcl, HRl⟩ := hl.op
 obtain ⟨gl, ol, A0l, c0l⟩ := HRl.out 0 x rfl
 have HAl := Lib.hid A0l
 clear A0l
 have hS := SH.nil [] w
 go_enter Tryd.func27, Tryd.ntmps27
 go_upto_region 1 with fail
 refine RL hS ?_
 clear hS
 refine MV ?_
 refine MV ?_
 refine MW ?_ (v := .bool false)
 refine MZ fun W hS => ?_
 go_upto_region 3 with fail
 refine RL hS ?_
 clear hS
 refine MV ?_
 refine MV ?_
 refine MW ?_ (v := .bool true)
 refine MZ fun W hS => ?_
 go_upto_region 4 with fail
 refine RL hS ?_
 clear hS
 refine MV ?_
 refine MW ?_ (v := .pointer (some ⟨gl, ol + 0 * 64, none⟩)) (hv := fun _ => run_ixRA HAl.out (Nat.lt_succ_self 0) rfl rfl rfl Tryd.underlying38 (by kernel_rfl))
 refine MF (v := .agg (lf x.1 x.2)) (fun W hS => run_atsub rfl rfl (fun i_ v hv => cell_ext (c0l i_ v (by simpa using hv)) hS.ext) (by kernel_rfl) (by rw [lf_size]; kernel_rfl)) ?_
 obtain ⟨U1, hU1⟩ := exn (sL x.1 x.2)
 have HU1 := Lib.hid hU1
 clear hU1
 refine MC (v := str (lb 32 U1)) (fun W hS => (by rw [HU1.out]; exact rLeafSum_c hr x.1 x.2 W (GT_ext hG hS.ext))) ?_
 refine MV ?_
 refine MZ fun W hS => ?_
 have e_ := HU1.out
 subst e_
 go_wp2
 exact bodyPost_ret (v := str (lb 32 (sL x.1 x.2))) (by simp only [results, Tryd.results27]; go_simp) rfl ⟨rfl, hS.ext⟩
theorem sum_2 {q : Prop} (hr : q) {ls : List Lf} {A0 A1 : Nat} (d : Nat) (hd : d < 256) (hn : ls.length ≤ 274877906944) (h2 : 2 ≤ ls.length) (ih0 : ∀ {u : Value} (W : World), GT q W → RR 64 W u ((rside ls d 0).map lfl) → Calls Tryd.prog 27 #[u, .int .i64 ((d + 1 : Nat) : Int)] W fun e w' => Ret (str (lb 32 A0)) W w' e) (ih1 : ∀ {u : Value} (W : World), GT q W → RR 64 W u ((rside ls d 1).map lfl) → Calls Tryd.prog 27 #[u, .int .i64 ((d + 1 : Nat) : Int)] W fun e w' => Ret (str (lb 32 A1)) W w' e) {u : Value} (w : World) (hG : GT q w) (hl : RR 64 w u (ls.map lfl)) :
  Calls Tryd.prog 27 #[u, .int .i64 (d : Int)] w fun e w' => Ret (str (lb 32 (sN d A0 A1))) w w' e := by
 obtain ⟨Al, cl, rfl, hlcl, HRl⟩ := hl.op
 have h0_ : ¬ ls = [] := fun e => by subst e; exact absurd h2 (by decide)
 have hS := SH.nil [] w
 go_enter Tryd.func27, Tryd.ntmps27
 go_upto_region 1 with fail
 refine RL hS ?_
 clear hS
 refine MV ?_
 refine MV ?_
 refine MW ?_ (v := .bool false) (hv := by intro W; first | (go_simp; done) | (go_simp; exact h0_))
 refine MZ fun W hS => ?_
 go_upto_region 3 with fail
 refine RL hS ?_
 clear hS
 refine MV ?_
 refine MV ?_
 refine MW ?_ (v := .bool false)
 refine MZ fun W hS => ?_
 go_upto_region 5 with fail
 refine RL hS ?_
 clear hS
 refine MV ?_
 refine MV ?_
 refine MV ?_
 refine ME (fun W hS => rcall hS (Side_c d 0 hd hn W (hl.ext hS.ext)) rfl) ?_
 intro u_rs1
 refine MV ?_
 refine MW ?_ (v := .int .i64 ((d + 1 : Nat) : Int)) (hv := by intro W; go_simp; (try simp only [IntKind.wrap_i64]); omega)
 refine MC (v := str (lb 32 A0)) (fun W hS => ih0 W (GT_ext hG hS.ext) (hS.row (i := 0) rfl).rr) ?_
 refine MV ?_
 refine MV ?_
 refine ME (fun W hS => rcall hS (Side_c d 1 hd hn W (hl.ext hS.ext)) rfl) ?_
 intro u_rs2
 refine MV ?_
 refine MW ?_ (v := .int .i64 ((d + 1 : Nat) : Int)) (hv := by intro W; go_simp; (try simp only [IntKind.wrap_i64]); omega)
 refine MC (v := str (lb 32 A1)) (fun W hS => ih1 W (GT_ext hG hS.ext) (hS.row (i := 0) rfl).rr) ?_
 obtain ⟨U1, hU1⟩ := exn (sN (d : Int) A0 A1)
 have HU1 := Lib.hid hU1
 clear hU1
 refine MC (v := str (lb 32 U1)) (fun W hS => (by rw [HU1.out]; exact rNodeSum_c hr (d : Int) A0 A1 W (GT_ext hG hS.ext))) ?_
 refine MV ?_
 refine MZ fun W hS => ?_
 have e_ := HU1.out
 subst e_
 go_wp2
 exact bodyPost_ret (v := str (lb 32 (sN d A0 A1))) (by simp only [results, Tryd.results27]; go_simp) rfl ⟨rfl, hS.ext⟩
/-- the document's sum is that of the tree -/
theorem rSum_c {q : Prop} (hr : q) : ∀ (f d : Nat) {ls : List Lf}, f + d = 256 → Srt ls → Pre ls d → ls.length ≤ 274877906944 → ∀ {u : Value} (w : World), GT q w → RR 64 w u (ls.map lfl) → Calls Tryd.prog 27 #[u, .int .i64 (d : Int)] w fun e w' => Ret (str (lb 32 (rs (can f ls d)))) w w' e
 | f, d, [], hd, hs, hp, hn, u, w, hG, h => by rw [can_nil]; exact sum_0 hr w hG h
 | f, d, [x], hd, hs, hp, hn, u, w, hG, h => by rw [can_one]; exact sum_1 hr w hG h
 | 0, d, x :: y :: r, hd, hs, hp, hn, u, w, hG, h => by
  obtain rfl : d = 256 := by omega
  exact (no_256 hs hp).elim
 | f + 1, d, x :: y :: r, hd, hs, hp, hn, u, w, hG, h => by
  rw [can_two (by simp)]
  exact sum_2 hr d (by omega) hn (by simp) (fun W hG' h' => rSum_c hr f (d + 1) (by omega) (srt_side hs) (pre_side hp) (Nat.le_trans (rside_len _ _ _) hn) W hG' h') (fun W hG' h' => rSum_c hr f (d + 1) (by omega) (srt_side hs) (pre_side hp) (Nat.le_trans (rside_len _ _ _) hn) W hG' h') w hG h
end Go.Proofs.YtndnlbinnhdmbaaDoor
