/- The document's reader, whatever is left: take, Next, End. Conditions: the texts are not too long. -/
import Derived.Test.YtlbgelbhhibikaaJ11
import Derived.Test.YtlbgelbhhibikaaJ7
set_option linter.unusedSimpArgs false
set_option linter.unusedVariables false
namespace Go.Proofs.Ytlbgelbhhibikaa
set_option maxHeartbeats 1500000
set_option maxRecDepth 100000
open Go.RowKit
attribute [local irreducible] wpList wpTr wpX
set_option linter.unusedSimpArgs false
/-- the document's reader -/
abbrev dR (p : Nat) (s : RSt) : List As := [.b p #[str s.1, .int .i64 s.2] 105]
/-- what take tells -/
def tkT (n : Nat) (s : RSt) : List UInt8 := if okS n s then s.1.take n else []
theorem tkT_no {n : Nat} {s : RSt} (h : ¬ okS n s) : tkT n s = [] := if_neg h
theorem tkT_ok {n : Nat} {s : RSt} (h : okS n s) : tkT n s = s.1.take n := if_pos h
theorem tkT_len {n : Nat} {s : RSt} (h : okS n s) : (tkT n s).length = n := by rw [tkT_ok h, List.length_take]; exact Nat.min_eq_left h.2
theorem tkT_le (n : Nat) (s : RSt) : (tkT n s).length ≤ n := by
 by_cases h : okS n s
 ·
  exact Nat.le_of_eq (tkT_len h)
 ·
  rw [tkT_no h]; exact Nat.zero_le _

theorem end3 (e0 : Int) (l : List UInt8) : e0 ≠ 0 ∨ (e0 = 0 ∧ l ≠ []) ∨ (e0 = 0 ∧ l = []) := by
 by_cases h : e0 = 0 <;> by_cases h2 : l = [] <;> simp [h, h2]
theorem dtake_ok {p n : Nat} {l : List UInt8} (hn : n ≤ l.length) (w : World) (h_ : SH (SH.feet (dR p (l, 0))) w w (dR p (l, 0))) :
  Calls Try.prog 57 #[.pointer (some ⟨p, 0, none⟩), .int .i64 (n : Int)] w fun e w' => e = .returned (str (l.take n)) ∧ SH (SH.feet (dR p (l, 0))) w w' (dR p (l.drop n, 0)) := by
 have hS := h_
 go_enter Try.func57, Try.ntmps57
 go_upto_region 1 with fail
 refine RL hS ?_
 clear hS
 refine MV ?_
 refine MV ?_
 refine MV ?_
 refine MG 0 ?_ (v := .int .i64 0)
 refine MW ?_ (v := .bool false) (hv := by intro W; go_simp; first | done | omega | assumption)
 refine MZ fun W hS => ?_
 go_upto_region 3 with fail
 refine RL hS ?_
 clear hS
 refine MV ?_
 refine MV ?_
 refine MV ?_
 refine MG 0 ?_ (v := str l)
 refine MW ?_ (v := .int .i64 (l.length : Int)) (hv := fun _ => run_slen (l := l) rfl rfl)
 refine MV ?_
 refine MW ?_ (v := .bool false) (hv := by intro W; go_simp; first | done | omega | assumption)
 refine MZ fun W hS => ?_
 go_upto_region 6 with fail
 refine RL hS ?_
 clear hS
 refine MV ?_
 refine MV ?_
 refine MV ?_
 refine MG 0 ?_ (v := str l)
 refine MV ?_
 refine MW ?_ (v := str (List.take n l)) (hv := fun _ => run_shead (n := n) (by first | omega | (simp only [List.length_take, List.length_drop]; omega)) rfl Try.underlying9 rfl rfl)
 refine MV ?_
 refine MZ fun W hS => ?_
 go_upto_region 7 with fail
 refine RL hS ?_
 clear hS
 refine MV ?_
 refine MV ?_
 refine MV ?_
 refine MV ?_
 refine MG 0 ?_ (v := str l)
 refine MV ?_
 refine MW ?_ (v := str (List.drop n l)) (hv := fun _ => run_stl (n := n) (by first | omega | (simp only [List.length_take, List.length_drop]; omega)) rfl Try.underlying9 rfl rfl)
 refine MV ?_
 refine MV ?_
 refine MP 0 (v := str (List.drop n l)) ?_
 refine MZ fun W hS => ?_
 go_wp2
 exact bodyPost_ret (v := str (l.take n)) (by simp only [results, Try.results57]; first | (go_simp; done) | (go_simp; rfl)) rfl ⟨rfl, hS⟩
theorem dtake_no {p n : Nat} {l : List UInt8} {e0 : Int} (he : e0 ≠ 0 ∨ l.length < n) (w : World) (h_ : SH (SH.feet (dR p (l, e0))) w w (dR p (l, e0))) :
  Calls Try.prog 57 #[.pointer (some ⟨p, 0, none⟩), .int .i64 (n : Int)] w fun e w' => e = .returned (str []) ∧ SH (SH.feet (dR p (l, e0))) w w' (dR p (l, noE e0)) := by
 have hS := h_
 go_enter Try.func57, Try.ntmps57
 by_cases h0 : e0 = 0
 ·
  have _f := h0
  have hl := he.resolve_left (fun h => h h0)
  have H0 := h0
  have h1_ : e0 ≤ 0 ∧ 0 ≤ e0 := by omega
  go_upto_region 1 with fail
  refine RL hS ?_
  clear hS
  refine MV ?_
  refine MV ?_
  refine MV ?_
  refine MG 0 ?_ (v := .int .i64 e0)
  refine MW ?_ (v := .bool false) (hv := by intro W; go_simp; first | done | omega | assumption)
  refine MZ fun W hS => ?_
  go_upto_region 3 with fail
  refine RL hS ?_
  clear hS
  refine MV ?_
  refine MV ?_
  refine MV ?_
  refine MG 0 ?_ (v := str l)
  refine MW ?_ (v := .int .i64 (l.length : Int)) (hv := fun _ => run_slen (l := l) rfl rfl)
  refine MV ?_
  refine MW ?_ (v := .bool true) (hv := by intro W; go_simp; first | done | omega | assumption)
  refine MZ fun W hS => ?_
  go_upto_region 4 with fail
  refine RL hS ?_
  clear hS
  refine MV ?_
  refine MV ?_
  refine MV ?_
  refine MP 0 (v := .int .i64 3) ?_
  refine MZ fun W hS => ?_
  go_wp2
  exact bodyPost_ret (v := str []) (by simp only [results, Try.results57]; first | (go_simp; done) | (go_simp; rfl)) rfl ⟨rfl, by unfold noE; rw [if_pos h0]; exact hS⟩
 ·
  have _f := h0
  go_upto_region 1 with fail
  refine RL hS ?_
  clear hS
  refine MV ?_
  refine MV ?_
  refine MV ?_
  refine MG 0 ?_ (v := .int .i64 e0)
  refine MW ?_ (v := .bool true) (hv := by intro W; go_simp; first | done | omega | assumption)
  refine MZ fun W hS => ?_
  go_wp2
  exact bodyPost_ret (v := str []) (by simp only [results, Try.results57]; first | (go_simp; done) | (go_simp; rfl)) rfl ⟨rfl, by unfold noE; rw [if_neg h0]; exact hS⟩
theorem dtake_c {p n : Nat} {s : RSt} (w : World) (h_ : SH (SH.feet (dR p s)) w w (dR p s)) : Calls Try.prog 57 #[.pointer (some ⟨p, 0, none⟩), .int .i64 (n : Int)] w fun e w' => e = .returned (str (tkT n s)) ∧ SH (SH.feet (dR p s)) w w' (dR p (tkS n s)) := by
 obtain ⟨l, e0⟩ := s
 unfold tkT tkS
 by_cases h : okS n (l, e0)
 ·
  rw [if_pos h, if_pos h]
  obtain ⟨h0, h1⟩ := h
  obtain rfl : e0 = 0 := h0
  exact dtake_ok h1 w h_
 ·
  rw [if_neg h, if_neg h]
  exact dtake_no (not_ok h) w h_
theorem dend_l {p : Nat} {l : List UInt8} {e0 : Int} (w : World) (h_ : SH (SH.feet (dR p (l, e0))) w w (dR p (l, e0))) :
  Calls Try.prog 35 #[.pointer (some ⟨p, 0, none⟩)] w fun e w' => e = .returned (.int .i64 (enV (l, e0))) ∧ SH (SH.feet (dR p (l, e0))) w w' (dR p (l, e0)) := by
 have hS := h_
 go_enter Try.func35, Try.ntmps35
 rcases end3 e0 l with h0 | ⟨h0, hl⟩ | ⟨h0, hl⟩
 ·
  have _f := True.intro
  go_upto_region 1 with fail
  refine RL hS ?_
  clear hS
  refine MV ?_
  refine MV ?_
  refine MV ?_
  refine MG 0 ?_ (v := .int .i64 e0)
  refine MW ?_ (v := .bool false) (hv := by intro W; go_simp; first | done | omega | assumption)
  refine MW ?_ (v := .bool false)
  refine MS ?_
  refine MS ?_
  refine MS ?_
  refine MS ?_
  refine MS ?_
  refine MW ?_ (v := .bool false)
  refine MZ fun W hS => ?_
  go_upto_region 3 with fail
  refine RL hS ?_
  clear hS
  refine MV ?_
  refine MV ?_
  refine MV ?_
  refine MG 0 ?_ (v := .int .i64 e0)
  refine MV ?_
  refine MZ fun W hS => ?_
  go_wp2
  exact bodyPost_ret (v := .int .i64 e0) (by simp only [results, Try.results35]; first | (go_simp; done) | (go_simp; rfl)) rfl ⟨by unfold enV; rw [if_neg (fun h => h0 h.1)], hS⟩
 ·
  have _f := True.intro
  go_upto_region 1 with fail
  refine RL hS ?_
  clear hS
  refine MV ?_
  refine MV ?_
  refine MV ?_
  refine MG 0 ?_ (v := .int .i64 e0)
  refine MW ?_ (v := .bool true) (hv := by intro W; go_simp; first | done | exact h0 | omega)
  refine MW ?_ (v := .bool true)
  refine MV ?_
  refine MV ?_
  refine MV ?_
  refine MG 0 ?_ (v := str l)
  refine MW ?_ (v := .bool true) (hv := fun _ => run_strneB (l := l) (m := []) (b := false) (decide_eq_false hl) rfl rfl rfl)
  refine MW ?_ (v := .bool true)
  refine MZ fun W hS => ?_
  go_wp2
  exact bodyPost_ret (v := .int .i64 4) (by simp only [results, Try.results35]; first | (go_simp; done) | (go_simp; rfl)) rfl ⟨by unfold enV; rw [if_pos ⟨h0, hl⟩], hS⟩
 ·
  have _f := True.intro
  go_upto_region 1 with fail
  refine RL hS ?_
  clear hS
  refine MV ?_
  refine MV ?_
  refine MV ?_
  refine MG 0 ?_ (v := .int .i64 e0)
  refine MW ?_ (v := .bool true) (hv := by intro W; go_simp; first | done | exact h0 | omega)
  refine MW ?_ (v := .bool true)
  refine MV ?_
  refine MV ?_
  refine MV ?_
  refine MG 0 ?_ (v := str l)
  refine MW ?_ (v := .bool false) (hv := fun _ => run_strneB (l := l) (m := []) (b := true) (decide_eq_true hl) rfl rfl rfl)
  refine MW ?_ (v := .bool false)
  refine MZ fun W hS => ?_
  go_upto_region 3 with fail
  refine RL hS ?_
  clear hS
  refine MV ?_
  refine MV ?_
  refine MV ?_
  refine MG 0 ?_ (v := .int .i64 e0)
  refine MV ?_
  refine MZ fun W hS => ?_
  go_wp2
  exact bodyPost_ret (v := .int .i64 e0) (by simp only [results, Try.results35]; first | (go_simp; done) | (go_simp; rfl)) rfl ⟨by unfold enV; rw [if_neg (fun h => h.2 hl)], hS⟩
end Go.Proofs.Ytlbgelbhhibikaa
