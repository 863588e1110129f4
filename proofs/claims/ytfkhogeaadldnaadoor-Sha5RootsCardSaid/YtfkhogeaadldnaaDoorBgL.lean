/- custumallaw02.Sha5Roots. Conditions: the tables hold their numbers. -/
import Derived.Test.YtfkhogeaadldnaaDoorShI
import Derived.Test.YtfkhogeaadldnaaDoorBgX
namespace Go.Proofs.YtfkhogeaadldnaaDoor
set_option linter.unusedSimpArgs false
set_option linter.unusedVariables false
open Go.RowKit
attribute [local irreducible] wpList wpTr

set_option maxRecDepth 100000 in
set_option maxHeartbeats 1500000 in
theorem sha5Roots_c (v : Value) (L : List UInt8) (w : World) (hs : Sl w v L) (hL : L.length ≤ 9223372036854775807) (hG : GS w) (hR : GR w) :
    Calls Tryd.prog 6 #[v] w fun e w' => Ret (.bool true) w w' e := by
  have HG := Lib.hid hG
  have HR := Lib.hid hR
  clear hG hR
  have ow_a := hs
  have off0 : Off [] w w := Off.refl _ _
  have sz := off0.size
  go_enter Tryd.func6, Tryd.ntmps6
  go_upto_region 1 with fail
  refine wp_region_lit ?_
  (refine wpL_val (v := ?_) (by rfl) ?_ ?_; rotate_left 1; (focus (go_simp; first | done | with_reducible rfl)))
  (try simp only [Act.put, List.setIfInBounds_toArray, List.set_cons_zero, List.set_cons_succ])
  (refine wpL_val (v := ?_) (by rfl) ?_ ?_; rotate_left 1; (focus (go_simp; first | done | with_reducible rfl)))
  (try simp only [Act.put, List.setIfInBounds_toArray, List.set_cons_zero, List.set_cons_succ])
  refine wpL_len (l := L) ow_a (by rfl) rfl rfl ?_
  (try simp only [Act.put, List.setIfInBounds_toArray, List.set_cons_zero, List.set_cons_succ])
  refine wpL_val (v := .int .i64 (((min L.length 100 : Nat) : Int))) (by rfl) (by go_simp; (try omega)) ?_
  (try simp only [Act.put, List.setIfInBounds_toArray, List.set_cons_zero, List.set_cons_succ])
  refine wpL_head (n := min L.length 100) ow_a (by omega) (by rfl) rfl rfl rfl ?_
  (try simp only [Act.put, List.setIfInBounds_toArray, List.set_cons_zero, List.set_cons_succ])
  intro u8_0 ow_c8 sub_c8 some_c8
  (refine wpL_val (v := ?_) (by rfl) ?_ ?_; rotate_left 1; (focus (go_simp; first | done | with_reducible rfl)))
  (try simp only [Act.put, List.setIfInBounds_toArray, List.set_cons_zero, List.set_cons_succ])
  refine wpL_nil ?_
  go_upto_region 2 with fail
  refine wp_region_lit ?_
  (refine wpL_val (v := ?_) (by rfl) ?_ ?_; rotate_left 1; (focus (go_simp; first | done | with_reducible rfl)))
  (try simp only [Act.put, List.setIfInBounds_toArray, List.set_cons_zero, List.set_cons_succ])
  refine wpL_newS (z := #[u8_0]) (t := 28) (n := 1) (c := 1) (by rfl) (by exact run_bsv [u8_0] rfl rfl (vsc ((sl_cells ow_c8).1) vs0) Tryd.underlying22 (by kernel_rfl) (by kernel_rfl) rfl (by decide) (by decide)) ?_
  (try simp only [Act.put, List.setIfInBounds_toArray, List.set_cons_zero, List.set_cons_succ])
  intro p10_1 W1 n_s10 hO h_
  have ne_a_s10 := ne_new (Sl.lt ow_a) n_s10
  have ne_c8_s10 := ne_new (Sl.lt ow_c8) n_s10
  have fb_s10 : Fb p10_1 w.heap.size [] := fb_new (Nat.le_trans sz n_s10)
  replace ow_a := Sl.off ow_a hO f0
  replace ow_c8 := Sl.off ow_c8 hO f0
  replace off0 := off0.step hO i0
  replace sz := off0.size
  have k_s10 := h_
  clear hO h_ n_s10
  refine wpL_ret (sum_c [List.take (min L.length 100) L] (some ⟨p10_1, 0, none⟩) 1 (List.take (min L.length 100) L) (by rw [List.flatten_cons, List.flatten_nil, List.append_nil]) (by first | omega | (simp only [List.length_take]; omega)) (by simp) W1 (pss_blk k_s10 (pvc ow_c8 pv0)) (GS_ext HG.out off0.ext)) (by rfl) rfl (by kernel_rfl) rfl ?_
  (try simp only [Act.put, List.setIfInBounds_toArray, List.set_cons_zero, List.set_cons_succ])
  intro W2 hO
  replace k_s10 := blk_off k_s10 hO nm0
  replace ow_a := Sl.off ow_a hO f0
  replace ow_c8 := Sl.off ow_c8 hO f0
  replace off0 := off0.step hO i0
  replace sz := off0.size
  clear hO
  refine wpL_new (z := arrK .u8 64 (fun _ => 0)) (t := 25) (by rfl) (by first | kernel_rfl | (go_simp; done) | (go_simp; rfl)) ?_
  (try simp only [Act.put, List.setIfInBounds_toArray, List.set_cons_zero, List.set_cons_succ])
  intro p3_3 W3 n_t3 hO h_
  have nq_s10_t3 : p10_1 ≠ p3_3 := Nat.ne_of_lt (Nat.lt_of_lt_of_le (blk_lt k_s10) n_t3)
  have ne_a_t3 := ne_new (Sl.lt ow_a) n_t3
  have ne_c8_t3 := ne_new (Sl.lt ow_c8) n_t3
  have fb_t3 : Fb p3_3 w.heap.size [] := fb_new (Nat.le_trans sz n_t3)
  replace k_s10 := blk_off k_s10 hO nm0
  replace ow_a := Sl.off ow_a hO f0
  replace ow_c8 := Sl.off ow_c8 hO f0
  replace off0 := off0.step hO i0
  replace sz := off0.size
  have k_t3 := h_
  clear hO h_ n_t3
  refine wpL_putrow (cells := arrK .u8 64 (sm (List.take (min L.length 100) L))) (by rfl) rfl rfl rfl k_t3 (by rw [arrK_size]; kernel_rfl) (by first | rw [arrK_size, arrK_size] | rw [arrK_size] | kernel_rfl) (by exact arrK_one _ _ _) ?_
  (try simp only [Act.put, List.setIfInBounds_toArray, List.set_cons_zero, List.set_cons_succ])
  intro W4 hO h_
  replace k_t3 : Blk W4 p3_3 (arrK .u8 64 (sm (List.take (min L.length 100) L))) 25 := h_
  clear h_
  replace k_s10 := blk_off k_s10 hO (nm1 nq_s10_t3)
  replace ow_a := Sl.off ow_a hO (f1 ne_a_t3)
  replace ow_c8 := Sl.off ow_c8 hO (f1 ne_c8_t3)
  replace off0 := off0.step hO (i1 fb_t3)
  replace sz := off0.size
  clear hO
  refine wpL_nil ?_
  go_upto_region 3 with fail
  refine wp_region_tr (.e 0 (.q 1 (.e 2 (.q 3 (.q 4 (.q 5 (.q 6 (.q 7 (.q 8 (.e 9 (.q 10 (.q 11 (.q 12 .z))))))))))))) (fun W => True) (by kernel_rfl) (by kernel_rfl) ?_
  intro W5 hO
  replace k_s10 := blk_off k_s10 hO nm0
  replace k_t3 := blk_off k_t3 hO nm0
  replace ow_a := Sl.off ow_a hO f0
  replace ow_c8 := Sl.off ow_c8 hO f0
  replace off0 := off0.step hO i0
  replace sz := off0.size
  clear hO
  refine ⟨trivial, ?_⟩
  refine wpT_e rfl ?_
  refine wpL_ret (sums_c W5 (GS_ext HG.out off0.ext)) (by rfl) rfl (by kernel_rfl) rfl ?_
  (try simp only [Act.put, List.setIfInBounds_toArray, List.set_cons_zero, List.set_cons_succ])
  intro W6 hO
  replace k_s10 := blk_off k_s10 hO nm0
  replace k_t3 := blk_off k_t3 hO nm0
  replace ow_a := Sl.off ow_a hO f0
  replace ow_c8 := Sl.off ow_c8 hO f0
  replace off0 := off0.step hO i0
  replace sz := off0.size
  clear hO
  refine wpT_n (fun W => True) (fun W hS => trivial) trivial ?_
  (refine wpT_q (v := ?_) rfl (by rfl) (fun W hS => ?_) ?_; rotate_left 1; (focus (go_simp; first | done | with_reducible rfl)))
  (try simp only [Act.put, List.setIfInBounds_toArray, List.set_cons_zero, List.set_cons_succ])
  refine wpT_e rfl ?_
  refine wpL_ret (right_c W6 (GR_ext HR.out off0.ext)) (by rfl) rfl (by kernel_rfl) rfl ?_
  (try simp only [Act.put, List.setIfInBounds_toArray, List.set_cons_zero, List.set_cons_succ])
  intro W7 hO
  replace k_s10 := blk_off k_s10 hO nm0
  replace k_t3 := blk_off k_t3 hO nm0
  replace ow_a := Sl.off ow_a hO f0
  replace ow_c8 := Sl.off ow_c8 hO f0
  replace off0 := off0.step hO i0
  replace sz := off0.size
  clear hO
  refine wpT_n (fun W => (Blk W p3_3 (arrK .u8 64 (sm (List.take (min L.length 100) L))) 25) ∧ (Sl W u8_0 (List.take (min L.length 100) L))) (fun W hS => trivial) ⟨k_t3, ow_c8⟩ ?_
  (refine wpT_q (v := ?_) rfl (by rfl) (fun W hS => ?_) ?_; rotate_left 1; (focus (go_simp; first | done | with_reducible rfl)))
  (try simp only [Act.put, List.setIfInBounds_toArray, List.set_cons_zero, List.set_cons_succ])
  (refine wpT_q (v := ?_) rfl (by rfl) (fun W hS => ?_) ?_; rotate_left 1; (focus (go_simp; first | done | with_reducible rfl)))
  (try simp only [Act.put, List.setIfInBounds_toArray, List.set_cons_zero, List.set_cons_succ])
  (refine wpT_q (v := ?_) rfl (by rfl) (fun W hS => ?_) ?_; rotate_left 1; (focus (go_simp; first | done | with_reducible rfl)))
  (try simp only [Act.put, List.setIfInBounds_toArray, List.set_cons_zero, List.set_cons_succ])
  refine wpT_q (v := str (smb (List.take (min L.length 100) L))) rfl (by rfl) (fun W hS => by exact (run_cvs (sl_arr (hS.1)) rfl rfl)) ?_
  (try simp only [Act.put, List.setIfInBounds_toArray, List.set_cons_zero, List.set_cons_succ])
  (refine wpT_q (v := ?_) rfl (by rfl) (fun W hS => ?_) ?_; rotate_left 1; (focus (go_simp; first | done | with_reducible rfl)))
  (try simp only [Act.put, List.setIfInBounds_toArray, List.set_cons_zero, List.set_cons_succ])
  refine wpT_q (v := str (List.take (min L.length 100) L)) rfl (by rfl) (fun W hS => by exact (run_cvs (hS.2) rfl rfl)) ?_
  (try simp only [Act.put, List.setIfInBounds_toArray, List.set_cons_zero, List.set_cons_succ])
  refine wpT_e rfl ?_
  refine wpL_ret (rsum_c (List.take (min L.length 100) L) (by first | omega | (simp only [List.length_take]; omega)) W7 (GR_ext HR.out off0.ext)) (by rfl) rfl (by kernel_rfl) rfl ?_
  (try simp only [Act.put, List.setIfInBounds_toArray, List.set_cons_zero, List.set_cons_succ])
  intro W8 hO
  replace k_s10 := blk_off k_s10 hO nm0
  replace k_t3 := blk_off k_t3 hO nm0
  replace ow_a := Sl.off ow_a hO f0
  replace ow_c8 := Sl.off ow_c8 hO f0
  replace off0 := off0.step hO i0
  replace sz := off0.size
  clear hO
  refine wpT_n (fun W => (Blk W p3_3 (arrK .u8 64 (sm (List.take (min L.length 100) L))) 25) ∧ (Sl W u8_0 (List.take (min L.length 100) L))) (fun W hS => ⟨hS.1, hS.2⟩) ⟨k_t3, ow_c8⟩ ?_
  refine wpT_q (v := .bool true) rfl (by rfl) (fun W hS => by exact (run_streqb (l := (smb (List.take (min L.length 100) L))) (m := (smb (List.take (min L.length 100) L))) (decide_eq_true rfl) rfl rfl rfl)) ?_
  (try simp only [Act.put, List.setIfInBounds_toArray, List.set_cons_zero, List.set_cons_succ])
  (refine wpT_q (v := ?_) rfl (by rfl) (fun W hS => ?_) ?_; rotate_left 1; (focus (go_simp; first | done | with_reducible rfl)))
  (try simp only [Act.put, List.setIfInBounds_toArray, List.set_cons_zero, List.set_cons_succ])
  (refine wpT_q (v := ?_) rfl (by rfl) (fun W hS => ?_) ?_; rotate_left 1; (focus (go_simp; first | done | with_reducible rfl)))
  (try simp only [Act.put, List.setIfInBounds_toArray, List.set_cons_zero, List.set_cons_succ])
  refine wpT_z ?_
  go_wp2
  exact bodyPost_ret (v := .bool true) (by simp only [results, Tryd.results6]; go_simp) rfl ⟨rfl, off0.ext⟩
end Go.Proofs.YtfkhogeaadldnaaDoor
