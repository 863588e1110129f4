/- A tree's leaves, in order. Conditions: fewer than 2^38 leaves. -/
import Derived.Test.YtndnlbinnhdmbaaDoorTsR
set_option linter.unusedSimpArgs false
set_option linter.unusedVariables false
namespace Go.Proofs.YtndnlbinnhdmbaaDoor
set_option maxHeartbeats 3000000
set_option maxRecDepth 100000
open Go.RowKit
attribute [local irreducible] wpList wpTr wpX
set_option linter.unusedSimpArgs false
attribute [local irreducible] hs4 sE sL sN

theorem leaves_nil (w : World) :
  Calls Tryd.prog 31 #[nlp] w fun e w' => RRet 30 (lvs .nil) w w' e := by
 have hS := SH.nil [] w
 go_enter Tryd.func31, Tryd.ntmps31
 have hS := hS.rnil 30 64 rfl
 go_wp2
 exact bodyPost_ret (v := (.slice none 0 0)) (by simp only [results, Tryd.results31]; go_simp) rfl ⟨_, rfl, hS.pick [0]⟩
theorem leaves_one {a x b1 : Nat} (ha : a < 2 ^ 256) (hx : x < 2 ^ 256) (w : World) (hB1 : Blk w b1 (ndc a x nlp nlp false (sL a x) 1) 105) :
  Calls Tryd.prog 31 #[ptr b1] w fun e w' => RRet 30 (lvs (.leaf a x)) w w' e := by
 have hS := SH.nil [] w
 go_enter Tryd.func31, Tryd.ntmps31
 go_upto_region 3 with fail
 refine RL hS ?_
 clear hS
 refine MV ?_
 refine MV ?_
 refine MV ?_
 refine MF (v := .bool false) (fun W hS => run_at rfl rfl (by rw [blk_cell (blk_step hB1 hS.ext)]; exact nd_sp) (by kernel_rfl)) ?_
 refine MW ?_ (v := .bool true)
 refine MW ?_ (v := .bool true)
 refine MZ fun W hS => ?_
 go_upto_region 4 with fail
 refine RL hS ?_
 clear hS
 refine MV ?_
 refine MV ?_
 refine MV ?_
 refine MF (v := .agg (lf a x)) (fun W hS => run_atsub rfl rfl (fun i v hv => by rw [blk_cell (blk_step hB1 hS.ext)]; exact nd_leaf i v hv) (by kernel_rfl) (by first | kernel_rfl | (rw [lf_size]; kernel_rfl))) ?_
 refine MB (z := (lf a x)) (t := 30) (n := 1) (c := 1) ?_ (hr := fun W _ => run_bsA rfl rfl rfl Tryd.underlying40 (by rw [lf_size]; kernel_rfl) (by rw [lf_size]; kernel_rfl) (by rw [lf_size]; decide) (by rw [lf_size]; decide))
 intro p16_1
 refine MV ?_
 refine MZ fun W hS => ?_
 have hS := hS.b2r (k := 64) (es := [lfl (a, x)]) (n := 1) (by simp) (by intro e he; rw [List.mem_singleton.1 he]; show (lf a x).toList.length = 64; rw [Array.length_toList]; exact lf_size) rfl (by decide)
 go_wp2
 exact bodyPost_ret (v := .slice (some ⟨p16_1, 0, none⟩) 1 1) (by simp only [results, Tryd.results31]; go_simp) rfl ⟨_, rfl, hS.pick [0]⟩
theorem leaves_node {e0 b : Nat} {l r : TR} {p0 p1 : Option Addr} (hn : (lvs l).length + (lvs r).length ≤ 274877906944) (w : World) (hB : Blk w b (ndc 0 0 (.pointer p0) (.pointer p1) true (rs (.node e0 l r)) (cnt l + cnt r)) 105) (hl : TA w l (.pointer p0)) (hr : TA w r (.pointer p1)) (ihl : ∀ W, TA W l (.pointer p0) → Calls Tryd.prog 31 #[.pointer p0] W fun e w' => RRet 30 (lvs l) W w' e) (ihr : ∀ W, TA W r (.pointer p1) → Calls Tryd.prog 31 #[.pointer p1] W fun e w' => RRet 30 (lvs r) W w' e) :
  Calls Tryd.prog 31 #[ptr b] w fun e w' => RRet 30 (lvs (.node e0 l r)) w w' e := by
 have hS := SH.nil [] w
 go_enter Tryd.func31, Tryd.ntmps31
 go_upto_region 3 with fail
 refine RL hS ?_
 clear hS
 refine MV ?_
 refine MV ?_
 refine MV ?_
 refine MF (v := .bool true) (fun W hS => run_at rfl rfl (by rw [blk_cell (blk_step hB hS.ext)]; exact nd_sp) (by kernel_rfl)) ?_
 refine MW ?_ (v := .bool false)
 refine MW ?_ (v := .bool false)
 refine MZ fun W hS => ?_
 go_upto_region 5 with fail
 refine RTh (.q 0 (.q 1 (.q 2 (.q 3 (.q 4 (.q 6 (.q 7 (.q 8 (.q 9 (.q 10 (.e 5 (.e 11 (.e 12 (.q 13 .z)))))))))))))) hS ?_
 clear hS
 refine TV ?_
 refine TV ?_
 refine TV ?_
 refine TW ?_ (v := .pointer (some ⟨b, 64, none⟩)) (hv := fun _ => run_ixarrn (m := 2) (k := 1) (j := 0) (off := 64) (by decide) Tryd.underlying103 (by kernel_rfl) rfl rfl rfl)
 refine TF (v := .pointer p0) rfl (fun W hS => run_at rfl rfl (by rw [blk_cell (blk_step hB hS.ext)]; exact nd_s0) (by kernel_rfl)) ?_
 refine TV ?_
 refine TV ?_
 refine TV ?_
 refine TW ?_ (v := .pointer (some ⟨b, 65, none⟩)) (hv := fun _ => run_ixarrn (m := 2) (k := 1) (j := 1) (off := 64) (by decide) Tryd.underlying103 (by kernel_rfl) rfl rfl rfl)
 refine TF (v := .pointer p1) rfl (fun W hS => run_at rfl rfl (by rw [blk_cell (blk_step hB hS.ext)]; exact nd_s1) (by kernel_rfl)) ?_
 refine TE (fun _ h => h) ?_
 refine ME (fun W hS => rcall hS (ihl W (TA.ext hl hS.ext)) rfl) ?_
 intro u_lv1
 refine TNp [] [] ?_
 refine TE (fun _ h => h.pick []) ?_
 refine ME (fun W hS => rcall hS (ihr W (TA.ext hr hS.ext)) rfl) ?_
 intro u_lv2
 refine TNp [0] [] ?_
 refine TE (fun _ h => h.pick [0]) ?_
 refine MAR 1 (tS := 40) (bytes := 64) (es := (List.map lfl (lvs l))) (fs := (List.map lfl (lvs r))) (fun W hS => (hS.row (i := 0) rfl).rr) lfl_all (by first | omega | (simp only [List.length_append, List.length_map, List.length_take, List.length_cons, List.length_nil]; omega)) ?_
 intro v29_3
 refine TNp [0, 1] [0] ?_
 refine TV ?_
 refine TZ (fun _ h => h) fun W hS => ?_
 rw [← List.map_append] at hS
 go_wp2
 exact bodyPost_ret (v := v29_3) (by simp only [results, Tryd.results31]; go_simp) rfl ⟨_, rfl, hS.pick [1]⟩
theorem leaves_c : ∀ {T : TR} {u : Value}, (lvs T).length ≤ 274877906944 → ∀ (w : World), TA w T u → Calls Tryd.prog 31 #[u] w fun e w' => RRet 30 (lvs T) w w' e
 | .nil, _, _, w, h => by rw [show _ = nlp from h]; exact leaves_nil w
 | .leaf a x, _, _, w, ⟨b1, h1, hB1, ha, hx⟩ => by subst h1; exact leaves_one ha hx w hB1
 | .node e l r, _, hn, w, ⟨b, s0, s1, h1, hB, hl, hr⟩ => by
  subst h1
  obtain ⟨p0, rfl⟩ := hl.pt
  obtain ⟨p1, rfl⟩ := hr.pt
  have hn2 : (lvs l).length + (lvs r).length ≤ 274877906944 := by rw [← List.length_append]; exact hn
  exact leaves_node hn2 w hB hl hr (fun W h' => leaves_c (T := l) (by omega) W h') (fun W h' => leaves_c (T := r) (by omega) W h')
end Go.Proofs.YtndnlbinnhdmbaaDoor
