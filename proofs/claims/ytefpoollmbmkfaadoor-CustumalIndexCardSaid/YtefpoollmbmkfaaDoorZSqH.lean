/- sha2: bytes written into a sum that goes on. Conditions: the tables hold their numbers. -/
import Derived.Test.YtefpoollmbmkfaaDoorJ34
set_option linter.unusedSimpArgs false
set_option linter.unusedVariables false
namespace Go.Proofs.YtefpoollmbmkfaaDoor.H2
set_option maxHeartbeats 1500000
set_option maxRecDepth 100000
open Go.RowKit
attribute [local irreducible] wpList wpTr wpX
set_option linter.unusedSimpArgs false
theorem write4_c (p : Nat) (v u : Value) (F b : List UInt8) (hlen : F.length + b.length ≤ 140737488355200) (w : World) (h_ : SH (SH.feet [.b p (hcs v F) 151, .o v (hr4 F), .s u b, gs4]) w w [.b p (hcs v F) 151, .o v (hr4 F), .s u b, gs4]) :
  Calls Tryd.prog 114 #[.pointer (some ⟨p, 0, none⟩), u] w fun e w' => ∃ v', e = .returned (.tuple #[]) ∧ SH (SH.feet [.b p (hcs v F) 151, .o v (hr4 F), .s u b, gs4]) w w' [.b p (hcs v' (F ++ b)) 151, .o v' (hr4 (F ++ b)), .s u b, gs4] := by
 have hl3 := hr_lt4 F
 have hS := h_
 clear h_
 go_enter Tryd.func114, Tryd.ntmps114
 go_upto_region 1 with fail
 refine RL hS ?_
 clear hS
 refine MV ?_
 refine MV ?_
 refine MV ?_
 refine MG 0 ?_ (v := .int .i64 (F.length : Int)) (hj := hc_count)
 refine MV ?_
 refine MF (v := .int .i64 (b.length : Int)) (fun W hS => run_lenA (hS.sl (i := 2) rfl) rfl rfl) ?_
 refine MW ?_ (v := .int .i64 ((F ++ b).length : Int)) (hv := by intro W; go_simp; (try simp only [List.length_append, IntKind.wrap_i64]); (try omega))
 refine MV ?_
 refine MV ?_
 refine MP 0 (v := .int .i64 ((F ++ b).length : Int)) (cs' := hc8 (hw4 F) v (.int .i64 ((F ++ b).length : Int))) ?_ (hs := by rw [hc_size]; decide) (hc := hc_putcount)
 refine MZ fun W hS => ?_
 go_upto_region 2 with fail
 refine RX 16 hS ?_
 clear hS
 refine MV ?_
 refine MV ?_
 refine MV ?_
 refine MG 0 ?_ (v := v) (hj := hc_rest)
 refine MV ?_
 refine MV ?_
 refine MV ?_
 refine MG 0 ?_ (v := v) (hj := hc_rest)
 refine MF (v := .int .i64 ((hr4 F).length : Int)) (fun W hS => run_lenA (hS.osl (i := 1) rfl) rfl rfl) ?_
 refine MV ?_
 refine MV ?_
 refine MV ?_
 refine MG 0 ?_ (v := v) (hj := hc_rest)
 refine MF (v := .int .i64 ((hr4 F).length : Int)) (fun W hS => run_lenA (hS.osl (i := 1) rfl) rfl rfl) ?_
 refine MT (fun W hS => hS.read (i := 1) rfl (hS.osl (i := 1) rfl) sub_refl) ?_
 refine MQ 1 ?_
 intro A30
 refine MV ?_
 refine MZt ?_
 refine MAt 0 (xs := hr4 F) (ys := b) (fun W hS => (hS.sl (i := 3) rfl)) (by omega) ?_
 intro v32
 refine MV ?_
 refine MZn fun W hS => ?_
 rw [hw_app4 F b] at hS
 go_wp2_with fail
 go_loopw [4] (fun sv wr => ∃ (k : Nat) (a : Value), (64 * k ≤ (hr4 F ++ b).length) ∧ (a = sv) ∧ SH (SH.feet [.b p (hcs v F) 151, .o v (hr4 F), .s u b, gs4]) w wr [.b p (hc8 (Hs4 (F ++ b) (F.length / 64 + k)) v (.int .i64 ((F ++ b).length : Int))) 151, .s a (List.drop (64 * k) (hr4 F ++ b)), .s u b, gs4])
  (fun sv _ => slLen sv)
 case atStart => exact ⟨0, _, Nat.zero_le _, rfl, (hS.pick [2, 0, 4, 5])⟩
 clear hS
 case round =>
  obtain ⟨k, a, hk, rfl, hS⟩ := hrel
  have lb := sl_len (hS.sl (i := 1) rfl)
  by_cases hz : 64 ≤ (List.drop (64 * k) (hr4 F ++ b)).length
  ·
   have _f := hz
   go_upto_region 3 with fail
   refine RL hS ?_
   clear hS
   refine MV ?_
   refine MF (v := .int .i64 ((List.drop (64 * k) (hr4 F ++ b)).length : Int)) (fun W hS => run_lenA (hS.sl (i := 1) rfl) rfl rfl) ?_
   refine MW ?_ (v := .bool true) (hv := by intro W; have hz_ := hz; simp only [List.length_drop, List.length_append] at hz_; go_simp; omega)
   refine MZ fun W hS => ?_
   go_upto_region 4 with fail
   refine RX 10 hS ?_
   clear hS
   refine MV ?_
   refine MV ?_
   refine MV ?_
   refine MV ?_
   refine Ml 0 hc_words ?_
   refine MV ?_
   refine MH 1 64 (m' := (List.take 64 (List.drop (64 * k) (hr4 F ++ b)))) (by exact hz) ?_
   intro u42_1
   refine MC (v := .agg (arrK .u32 8 (prs4 (Hs4 (F ++ b) (F.length / 64 + k)) (bt (List.drop (64 * k) (hr4 F ++ b)))))) (fun W hS => press4_t (Hs4 (F ++ b) (F.length / 64 + k)) (List.drop (64 * k) (hr4 F ++ b)) (List.take 64 (List.drop (64 * k) (hr4 F ++ b))) u42_1 hz rfl W (hS.sl (i := 0) rfl) (hS.pp (i := 4) rfl)) ?_
   refine MV ?_
   refine MV ?_
   refine MZt ?_
   refine Mr 1 (new := hc8 (prs4 (Hs4 (F ++ b) (F.length / 64 + k)) (bt (List.drop (64 * k) (hr4 F ++ b)))) v (.int .i64 ((F ++ b).length : Int))) hc_putwords ?_ (hs := by rw [hc_size, arrK_size]; decide)
   refine MZn fun W hS => ?_
   go_upto_region 5 with fail
   refine RL hS ?_
   clear hS
   refine MV ?_
   refine Mt 2 64 (m' := (List.drop (64 * (k + 1)) (hr4 F ++ b))) (by exact hz) ?_ (hm := drop_next4 _ _)
   intro u47_2
   refine MV ?_
   refine MZ fun W hS => ?_
   have la := sl_len (hS.sl (i := 0) rfl)
   simp only [List.length_drop] at la lb hz
   rw [hs_next4] at hS
   go_wp2
   go_roundw
   case rel => exact ⟨k + 1, _, by omega, rfl, (hS.pick [2, 0, 4, 5])⟩
   case measure => simp only [la, lb]; omega
  ·
   have _f := hz
   go_upto_region 3 with fail
   refine RL hS ?_
   clear hS
   refine MV ?_
   refine MF (v := .int .i64 ((List.drop (64 * k) (hr4 F ++ b)).length : Int)) (fun W hS => run_lenA (hS.sl (i := 1) rfl) rfl rfl) ?_
   refine MW ?_ (v := .bool false) (hv := by intro W; have hz_ := hz; simp only [List.length_drop, List.length_append] at hz_; go_simp; omega)
   refine MZ fun W hS => ?_
   obtain ⟨e1_, e2_⟩ := hs_end4 (F := F) (b := b) (k := k) (by simp only [List.length_drop] at hz; omega)
   rw [e1_, e2_] at hS
   clear e1_ e2_
   have hl4 := hr_lt4 (F ++ b)
   go_upto_region 6 with fail
   refine RL hS ?_
   clear hS
   refine MV ?_
   refine MO (m := []) (n := 0) (z := #[]) ?_
   intro v49_3
   refine MV ?_
   refine MA 0 (xs := []) (ys := (hr4 (F ++ b))) (fun W hS => (hS.sl (i := 2) rfl)) (by first | omega | (simp only [List.length_append, List.length_drop, List.length_nil]; omega)) ?_
   intro v51_4
   refine MT (fun W hS => by rw [List.nil_append] at hS; exact hS) ?_
   refine MV ?_
   refine MV ?_
   refine MP 1 (v := v51_4) (cs' := hc8 (hw4 (F ++ b)) v51_4 (.int .i64 ((F ++ b).length : Int))) ?_ (hv := fun W hS => sl_cells (hS.osl (i := 0) rfl)) (hs := by rw [hc_size]; decide) (hc := hc_putrest)
   refine MZ fun W hS => ?_
   go_wp2
   exact bodyPost_end (v := .tuple #[]) (by simp only [results, Tryd.results114]; go_simp) rfl ⟨_, rfl, hS.pick [1, 0, 3, 4]⟩
end Go.Proofs.YtefpoollmbmkfaaDoor.H2
