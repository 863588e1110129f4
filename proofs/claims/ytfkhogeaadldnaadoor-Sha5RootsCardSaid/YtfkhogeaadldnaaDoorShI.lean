/- The laws of layer 2 but for the roots: each returns true. Conditions: the tables hold their numbers. -/
import Derived.Test.YtfkhogeaadldnaaDoorShE
import Derived.Test.YtfkhogeaadldnaaDoorShG
import Derived.Test.YtfkhogeaadldnaaDoorShH
import Derived.Test.YtfkhogeaadldnaaDoorGa
namespace Go.Proofs.YtfkhogeaadldnaaDoor
set_option linter.unusedSimpArgs false
set_option linter.unusedVariables false
open Go.RowKit
attribute [local irreducible] wpList wpTr
theorem pv0 {w : World} : ∀ (i : Nat) (l : List UInt8), ([] : List (List UInt8))[i]? = some l → ∃ u, ([] : List Value)[i]? = some u ∧ Sl w u l := fun i l h => by simp at h
theorem pvc {w : World} {ps : List (List UInt8)} {vs : List Value} {v : Value} {m : List UInt8} (h : Sl w v m) (k : ∀ (i : Nat) (l : List UInt8), ps[i]? = some l → ∃ u, vs[i]? = some u ∧ Sl w u l) :
    ∀ (i : Nat) (l : List UInt8), (m :: ps)[i]? = some l → ∃ u, (v :: vs)[i]? = some u ∧ Sl w u l
  | 0, l, hi => ⟨v, rfl, by have : m = l := by simpa using hi
                            subst this; exact h⟩
  | i + 1, l, hi => k i l (by simpa using hi)
theorem pss_blk {w : World} {g : Nat} {cs : Array Value} {ps : List (List UInt8)} {t : TypeId} (h : Blk w g cs t) (hv : ∀ (i : Nat) (l : List UInt8), ps[i]? = some l → ∃ u, cs.toList[i]? = some u ∧ Sl w u l) :
    ∀ (i : Nat) (l : List UInt8), ps[i]? = some l → ∃ ad u, some (⟨g, 0, none⟩ : Addr) = some ad ∧ w.cell? (ad.add i) = some u ∧ Sl w u l := fun i l hi => by
  obtain ⟨u, h1, h2⟩ := hv i l hi
  exact ⟨_, u, rfl, by rw [Addr.add_mid, blk_cell h, Nat.zero_add]; simpa using h1, h2⟩
theorem pss_off0 {w W : World} {A : Option Addr} {ps : List (List UInt8)} (k : Off [] w W) (h : ∀ (i : Nat) (l : List UInt8), ps[i]? = some l → ∃ ad u, A = some ad ∧ w.cell? (ad.add i) = some u ∧ Sl w u l) :
    ∀ (i : Nat) (l : List UInt8), ps[i]? = some l → ∃ ad u, A = some ad ∧ W.cell? (ad.add i) = some u ∧ Sl W u l := fun i l hi => by
  obtain ⟨ad, u, h1, h2, h3⟩ := h i l hi
  exact ⟨ad, u, h1, cell_ext h2 k.ext, h3.off k f0⟩
theorem sl_arr {w : World} {e : Nat} {t : TypeId} {F : List UInt8} (h : Blk w e (arrK .u8 64 (sm F)) t) : Sl w (.slice (some ⟨e, 0, none⟩) 64 64) (smb F) :=
  sl_blk h (smb_length F).symm (Nat.le_refl _) (by decide) fun j x hj => by
    rw [Nat.zero_add, ← Array.getElem?_toList, smb_cells]
    exact bs8_get hj
theorem fw_flat (ps : List (List UInt8)) (n m : Nat) : (fw ps n m).flatten.length ≤ n * m := by
  unfold fw
  have key : ∀ (l : List (List UInt8)), ((l.map (List.take m)).flatten).length ≤ l.length * m := by
    intro l
    induction l with
    | nil => simp
    | cons x r ih =>
      rw [List.map_cons, List.flatten_cons, List.length_append, List.length_cons, Nat.add_mul, List.length_take]
      omega
  refine Nat.le_trans (key _) (Nat.mul_le_mul_right m ?_)
  rw [List.length_take]; omega
theorem eqA_self (f : Nat → Int) (W : World) : (Op.equalIn 10000 25 (.agg (arrK .u8 64 f)) (.agg (arrK .u8 64 f))).run Tryd.prog W = .ok true W := by
  have h := run_equalIn_arr (P := Tryd.prog) W 9998 25 5 64 .u8 (arrK .u8 64 f) (arrK .u8 64 f) f f Tryd.underlying25 Tryd.underlying5 (by kernel_rfl) (fun i hi => arrK_get _ _ _ _ hi) (fun i hi => arrK_get _ _ _ _ hi)
  rw [(eqArr_true 64 f f).2 fun _ _ => rfl] at h
  exact h
theorem tm_of {X m k : Nat} (h : X % (m + 1) = k) : (X : Int).tmod ((m : Int) + 1) = (k : Int) := by
  rw [Int.tmod_eq_emod_of_nonneg (by omega), ← h]
  rfl
theorem sum_off {F : List UInt8} : ∀ x ∈ (arrK .u8 64 (sm F)).toList, x.cells = #[x] := by
  intro x hx
  rw [smb_cells] at hx
  simp only [bs8, List.mem_map] at hx
  obtain ⟨c, _, rfl⟩ := hx
  rfl

set_option maxRecDepth 100000 in
set_option maxHeartbeats 1500000 in
theorem sums_c (w : World) (hG : GS w) :
    Calls Tryd.prog 10 #[] w fun e w' => Ret (.bool true) w w' e := by
  have HG := Lib.hid hG
  clear hG
  have off0 : Off [] w w := Off.refl _ _
  have sz := off0.size
  go_enter Tryd.func10, Tryd.ntmps10
  go_upto_region 1 with fail
  refine wp_region_lit ?_
  refine wpL_newS (z := #[.int .u8 97, .int .u8 98]) (t := 5) (n := 2) (c := 2) (by rfl) (by first | kernel_rfl | (go_simp; done) | (go_simp; rfl)) ?_
  (try simp only [Act.put, List.setIfInBounds_toArray, List.set_cons_zero, List.set_cons_succ])
  intro p2_1 W1 n_s2 hO h_
  have fr_s2 : Fr (Value.ownBlock (.slice (some ⟨p2_1, 0, none⟩) 2 2)) w.heap.size [] := fr_new (Nat.le_trans sz n_s2)
  replace off0 := off0.step hO i0
  replace sz := off0.size
  have ow_s2 : Own W1 (.slice (some ⟨p2_1, 0, none⟩) 2 2) [97, 98] := own_blk h_ (by rfl) (by show 2 ≤ maxLen; decide)
  clear hO h_ n_s2
  refine wpL_same ow_s2 rfl (by rfl) rfl rfl ?_
  (try simp only [Act.put, List.setIfInBounds_toArray, List.set_cons_zero, List.set_cons_succ])
  intro W2 hO ow_m3
  replace off0 := off0.step hO (io fr_s2)
  replace sz := off0.size
  clear ow_s2 fr_s2
  clear hO
  refine wpL_newS (z := #[.int .u8 99]) (t := 5) (n := 1) (c := 1) (by rfl) (by first | kernel_rfl | (go_simp; done) | (go_simp; rfl)) ?_
  (try simp only [Act.put, List.setIfInBounds_toArray, List.set_cons_zero, List.set_cons_succ])
  intro p4_3 W3 n_s4 hO h_
  have dj_m3_s4 : ∀ x, (sb (.slice (some ⟨p2_1, 0, none⟩) 2 2) [97, 98]) = some x → Value.ownBlock (.slice (some ⟨p4_3, 0, none⟩) 1 1) ≠ some x := dj_new (Sl.lt ow_m3) n_s4
  have fr_s4 : Fr (Value.ownBlock (.slice (some ⟨p4_3, 0, none⟩) 1 1)) w.heap.size [] := fr_new (Nat.le_trans sz n_s4)
  replace ow_m3 := Sl.off ow_m3 hO f0
  replace off0 := off0.step hO i0
  replace sz := off0.size
  have ow_s4 : Own W3 (.slice (some ⟨p4_3, 0, none⟩) 1 1) [99] := own_blk h_ (by rfl) (by show 1 ≤ maxLen; decide)
  clear hO h_ n_s4
  refine wpL_same ow_s4 rfl (by rfl) rfl rfl ?_
  (try simp only [Act.put, List.setIfInBounds_toArray, List.set_cons_zero, List.set_cons_succ])
  intro W4 hO ow_m5
  have dj_m3_m5 : ∀ x, (sb (.slice (some ⟨p2_1, 0, none⟩) 2 2) [97, 98]) = some x → sb (.slice (some ⟨p4_3, 0, none⟩) 1 1) [99] ≠ some x := dj_sb dj_m3_s4
  replace ow_m3 := Sl.off ow_m3 hO (fo (dj_symm dj_m3_s4))
  replace off0 := off0.step hO (io fr_s4)
  replace sz := off0.size
  clear ow_s4 fr_s4 dj_m3_s4
  clear hO
  refine wpL_newS (z := #[(.slice (some ⟨p2_1, 0, none⟩) 2 2), (.slice (some ⟨p4_3, 0, none⟩) 1 1)]) (t := 28) (n := 2) (c := 2) (by rfl) (by exact run_bsv [(.slice (some ⟨p2_1, 0, none⟩) 2 2), (.slice (some ⟨p4_3, 0, none⟩) 1 1)] rfl rfl (vsc ((sl_cells ow_m3).1) (vsc ((sl_cells ow_m5).1) vs0)) Tryd.underlying22 (by kernel_rfl) (by kernel_rfl) rfl (by decide) (by decide)) ?_
  (try simp only [Act.put, List.setIfInBounds_toArray, List.set_cons_zero, List.set_cons_succ])
  intro p6_5 W5 n_s6 hO h_
  have ne_m3_s6 := ne_new (Sl.lt ow_m3) n_s6
  have ne_m5_s6 := ne_new (Sl.lt ow_m5) n_s6
  have fb_s6 : Fb p6_5 w.heap.size [] := fb_new (Nat.le_trans sz n_s6)
  replace ow_m3 := Sl.off ow_m3 hO f0
  replace ow_m5 := Sl.off ow_m5 hO f0
  replace off0 := off0.step hO i0
  replace sz := off0.size
  have k_s6 := h_
  clear hO h_ n_s6
  refine wpL_ret (sum_c [[97, 98], [99]] (some ⟨p6_5, 0, none⟩) 2 [97, 98, 99] rfl (by decide) (by simp) W5 (pss_blk k_s6 (pvc ow_m3 (pvc ow_m5 pv0))) (GS_ext HG.out off0.ext)) (by rfl) rfl (by kernel_rfl) rfl ?_
  (try simp only [Act.put, List.setIfInBounds_toArray, List.set_cons_zero, List.set_cons_succ])
  intro W6 hO
  replace k_s6 := blk_off k_s6 hO nm0
  replace ow_m3 := Sl.off ow_m3 hO f0
  replace ow_m5 := Sl.off ow_m5 hO f0
  replace off0 := off0.step hO i0
  replace sz := off0.size
  clear hO
  refine wpL_new (z := arrK .u8 64 (fun _ => 0)) (t := 25) (by rfl) (by first | kernel_rfl | (go_simp; done) | (go_simp; rfl)) ?_
  (try simp only [Act.put, List.setIfInBounds_toArray, List.set_cons_zero, List.set_cons_succ])
  intro p1_7 W7 n_t1 hO h_
  have nq_s6_t1 : p6_5 ≠ p1_7 := Nat.ne_of_lt (Nat.lt_of_lt_of_le (blk_lt k_s6) n_t1)
  have ne_m3_t1 := ne_new (Sl.lt ow_m3) n_t1
  have ne_m5_t1 := ne_new (Sl.lt ow_m5) n_t1
  have fb_t1 : Fb p1_7 w.heap.size [] := fb_new (Nat.le_trans sz n_t1)
  replace k_s6 := blk_off k_s6 hO nm0
  replace ow_m3 := Sl.off ow_m3 hO f0
  replace ow_m5 := Sl.off ow_m5 hO f0
  replace off0 := off0.step hO i0
  replace sz := off0.size
  have k_t1 := h_
  clear hO h_ n_t1
  refine wpL_putrow (cells := arrK .u8 64 (sm [97, 98, 99])) (by rfl) rfl rfl rfl k_t1 (by rw [arrK_size]; kernel_rfl) (by rw [arrK_size, arrK_size]) (by exact arrK_one _ _ _) ?_
  (try simp only [Act.put, List.setIfInBounds_toArray, List.set_cons_zero, List.set_cons_succ])
  intro W8 hO h_
  replace k_t1 : Blk W8 p1_7 (arrK .u8 64 (sm [97, 98, 99])) 25 := h_
  clear h_
  replace k_s6 := blk_off k_s6 hO (nm1 nq_s6_t1)
  replace ow_m3 := Sl.off ow_m3 hO (f1 ne_m3_t1)
  replace ow_m5 := Sl.off ow_m5 hO (f1 ne_m5_t1)
  replace off0 := off0.step hO (i1 fb_t1)
  replace sz := off0.size
  clear hO
  refine wpL_nil ?_
  go_upto_region 2 with fail
  refine wp_region_lit ?_
  refine wpL_val (v := .pointer (some ⟨p1_7, 0 + 0, none⟩)) (by rfl) (run_ixarr (m := 64) (by decide) (by show 0 < 64; decide) Tryd.underlying25 (by kernel_rfl) rfl rfl rfl) ?_
  (try simp only [Act.put, List.setIfInBounds_toArray, List.set_cons_zero, List.set_cons_succ])
  refine wpL_get (v := .int .u8 ((sm [97, 98, 99]) 0)) (by rfl) rfl rfl k_t1 (by rw [Nat.zero_add]; exact arrK_get _ _ _ _ (by show 0 < 64; decide)) (by kernel_rfl) ?_
  (try simp only [Act.put, List.setIfInBounds_toArray, List.set_cons_zero, List.set_cons_succ])
  refine wpL_val (v := .bool true) (by rfl) (by first | (go_simp; done) | (go_simp; rw [abc_0])) ?_
  (try simp only [Act.put, List.setIfInBounds_toArray, List.set_cons_zero, List.set_cons_succ])
  refine wpL_val (v := .bool true) (by rfl) (by first | (go_simp; done) | (go_simp; rw [abc_0])) ?_
  (try simp only [Act.put, List.setIfInBounds_toArray, List.set_cons_zero, List.set_cons_succ])
  refine wpL_val (v := .pointer (some ⟨p1_7, 0 + 1, none⟩)) (by rfl) (run_ixarr (m := 64) (by decide) (by show 1 < 64; decide) Tryd.underlying25 (by kernel_rfl) rfl rfl rfl) ?_
  (try simp only [Act.put, List.setIfInBounds_toArray, List.set_cons_zero, List.set_cons_succ])
  refine wpL_get (v := .int .u8 ((sm [97, 98, 99]) 1)) (by rfl) rfl rfl k_t1 (by rw [Nat.zero_add]; exact arrK_get _ _ _ _ (by show 1 < 64; decide)) (by kernel_rfl) ?_
  (try simp only [Act.put, List.setIfInBounds_toArray, List.set_cons_zero, List.set_cons_succ])
  refine wpL_val (v := .bool true) (by rfl) (by first | (go_simp; done) | (go_simp; rw [abc_1])) ?_
  (try simp only [Act.put, List.setIfInBounds_toArray, List.set_cons_zero, List.set_cons_succ])
  refine wpL_val (v := .bool true) (by rfl) (by first | (go_simp; done) | (go_simp; rw [abc_1])) ?_
  (try simp only [Act.put, List.setIfInBounds_toArray, List.set_cons_zero, List.set_cons_succ])
  refine wpL_val (v := .bool true) (by rfl) (by first | (go_simp; done) | (go_simp; rw [abc_1])) ?_
  (try simp only [Act.put, List.setIfInBounds_toArray, List.set_cons_zero, List.set_cons_succ])
  refine wpL_val (v := .pointer (some ⟨p1_7, 0 + 63, none⟩)) (by rfl) (run_ixarr (m := 64) (by decide) (by show 63 < 64; decide) Tryd.underlying25 (by kernel_rfl) rfl rfl rfl) ?_
  (try simp only [Act.put, List.setIfInBounds_toArray, List.set_cons_zero, List.set_cons_succ])
  refine wpL_get (v := .int .u8 ((sm [97, 98, 99]) 63)) (by rfl) rfl rfl k_t1 (by rw [Nat.zero_add]; exact arrK_get _ _ _ _ (by show 63 < 64; decide)) (by kernel_rfl) ?_
  (try simp only [Act.put, List.setIfInBounds_toArray, List.set_cons_zero, List.set_cons_succ])
  refine wpL_val (v := .bool true) (by rfl) (by first | (go_simp; done) | (go_simp; rw [abc_63])) ?_
  (try simp only [Act.put, List.setIfInBounds_toArray, List.set_cons_zero, List.set_cons_succ])
  refine wpL_val (v := .bool true) (by rfl) (by first | (go_simp; done) | (go_simp; rw [abc_63])) ?_
  (try simp only [Act.put, List.setIfInBounds_toArray, List.set_cons_zero, List.set_cons_succ])
  refine wpL_val (v := .bool true) (by rfl) (by first | (go_simp; done) | (go_simp; rw [abc_63])) ?_
  (try simp only [Act.put, List.setIfInBounds_toArray, List.set_cons_zero, List.set_cons_succ])
  refine wpL_nil ?_
  go_wp2
  exact bodyPost_ret (v := .bool true) (by simp only [results, Tryd.results10]; go_simp) rfl ⟨rfl, off0.ext⟩
set_option maxRecDepth 100000 in
set_option maxHeartbeats 1500000 in
theorem sha5Sums_c (ps : List (List UInt8)) (A : Option Addr) (c : Nat) (w : World) (hps : ∀ i l, ps[i]? = some l → ∃ ad u, A = some ad ∧ w.cell? (ad.add i) = some u ∧ Sl w u l) (hG : GS w) (hR : GR w) :
    Calls Tryd.prog 3 #[.slice A ps.length c] w fun e w' => Ret (.bool true) w w' e := by
  have HG := Lib.hid hG
  have HR := Lib.hid hR
  clear hG hR
  have HPS := Lib.hid hps
  clear hps
  have off0 : Off [] w w := Off.refl _ _
  have sz := off0.size
  go_enter Tryd.func3, Tryd.ntmps3
  go_upto_region 1 with fail
  refine wp_region_lit ?_
  (refine wpL_val (v := ?_) (by rfl) ?_ ?_; rotate_left 1; (focus (go_simp; first | done | with_reducible rfl)))
  (try simp only [Act.put, List.setIfInBounds_toArray, List.set_cons_zero, List.set_cons_succ])
  refine wpL_call (R := fun v W => Off [] w W ∧ Pss W v (fw ps 8 700)) ((few_c ps A c 8 700 (by decide) (by decide) w (pss_off0 off0 HPS.out)).mono fun e W h => by obtain ⟨v, h1, h2, h3⟩ := h; exact ⟨v, h1, h2, h3⟩) (by rfl) rfl (by kernel_rfl) rfl ?_
  (try simp only [Act.put, List.setIfInBounds_toArray, List.set_cons_zero, List.set_cons_succ])
  rintro _ W1 ⟨hO, A2, c2, rfl, hps2⟩
  replace off0 := off0.step hO i0
  replace sz := off0.size
  clear hO
  obtain ⟨F, hF⟩ : ∃ F, (fw ps 8 700).flatten = F := ⟨_, rfl⟩
  have hlen0 := fw_flat ps 8 700
  rw [hF] at hlen0
  have hlen : F.length ≤ 70368744177664 := by omega
  have hpn2 : (fw ps 8 700).length ≤ 9223372036854775000 := by unfold fw; rw [List.length_map, List.length_take]; omega
  have offB := Off.refl [] W1
  (refine wpL_val (v := ?_) (by rfl) ?_ ?_; rotate_left 1; (focus (go_simp; first | done | with_reducible rfl)))
  (try simp only [Act.put, List.setIfInBounds_toArray, List.set_cons_zero, List.set_cons_succ])
  refine wpL_nil ?_
  go_upto_region 2 with fail
  refine wp_region_lit ?_
  (refine wpL_val (v := ?_) (by rfl) ?_ ?_; rotate_left 1; (focus (go_simp; first | done | with_reducible rfl)))
  (try simp only [Act.put, List.setIfInBounds_toArray, List.set_cons_zero, List.set_cons_succ])
  refine wpL_ret (all_c (fw ps 8 700) A2 c2 F hF hlen hpn2 W1 (pss_off0 offB hps2)) (by rfl) rfl (by kernel_rfl) rfl ?_
  (try simp only [Act.put, List.setIfInBounds_toArray, List.set_cons_zero, List.set_cons_succ])
  intro W2 hO
  replace off0 := off0.step hO i0
  replace sz := off0.size
  try have nB_t5 := Nat.le_trans offB.size n_t5
  replace offB := offB.step hO i0
  clear hO
  (refine wpL_val (v := ?_) (by rfl) ?_ ?_; rotate_left 1; (focus (go_simp; first | done | with_reducible rfl)))
  (try simp only [Act.put, List.setIfInBounds_toArray, List.set_cons_zero, List.set_cons_succ])
  refine wpL_nil ?_
  go_upto_region 3 with fail
  refine wp_region_lit ?_
  (refine wpL_val (v := ?_) (by rfl) ?_ ?_; rotate_left 1; (focus (go_simp; first | done | with_reducible rfl)))
  (try simp only [Act.put, List.setIfInBounds_toArray, List.set_cons_zero, List.set_cons_succ])
  refine wpL_ret (sum_c (fw ps 8 700) A2 c2 F hF hlen hpn2 W2 (pss_off0 offB hps2) (GS_ext HG.out off0.ext)) (by rfl) rfl (by kernel_rfl) rfl ?_
  (try simp only [Act.put, List.setIfInBounds_toArray, List.set_cons_zero, List.set_cons_succ])
  intro W3 hO
  replace off0 := off0.step hO i0
  replace sz := off0.size
  try have nB_t5 := Nat.le_trans offB.size n_t5
  replace offB := offB.step hO i0
  clear hO
  refine wpL_new (z := arrK .u8 64 (fun _ => 0)) (t := 25) (by rfl) (by first | kernel_rfl | (go_simp; done) | (go_simp; rfl)) ?_
  (try simp only [Act.put, List.setIfInBounds_toArray, List.set_cons_zero, List.set_cons_succ])
  intro p5_4 W4 n_t5 hO h_
  have fb_t5 : Fb p5_4 w.heap.size [] := fb_new (Nat.le_trans sz n_t5)
  replace off0 := off0.step hO i0
  replace sz := off0.size
  try have nB_t5 := Nat.le_trans offB.size n_t5
  replace offB := offB.step hO i0
  have k_t5 := h_
  clear hO h_ n_t5
  refine wpL_putrow (cells := arrK .u8 64 (sm F)) (by rfl) rfl rfl rfl k_t5 (by rw [arrK_size]; kernel_rfl) (by rw [arrK_size, arrK_size]) (by exact arrK_one _ _ _) ?_
  (try simp only [Act.put, List.setIfInBounds_toArray, List.set_cons_zero, List.set_cons_succ])
  intro W5 hO h_
  replace k_t5 : Blk W5 p5_4 (arrK .u8 64 (sm F)) 25 := h_
  clear h_
  replace off0 := off0.step hO (i1 fb_t5)
  replace sz := off0.size
  replace offB := offB.step hO (i1 (fun h => absurd h (by omega)))
  clear hO
  refine wpL_nil ?_
  go_upto_region 4 with fail
  refine wp_region_tr (.e 0 (.q 1 (.q 2 (.q 3 (.q 4 (.e 5 (.q 6 (.q 7 (.q 8 (.q 9 (.q 11 (.e 10 (.q 12 (.q 13 (.q 14 .z))))))))))))))) (fun W => True) (by kernel_rfl) (by kernel_rfl) ?_
  intro W6 hO
  replace k_t5 := blk_off k_t5 hO nm0
  replace off0 := off0.step hO i0
  replace sz := off0.size
  try have nB_t5 := Nat.le_trans offB.size n_t5
  replace offB := offB.step hO i0
  clear hO
  refine ⟨trivial, ?_⟩
  refine wpT_e rfl ?_
  refine wpL_ret (sums_c W6 (GS_ext HG.out off0.ext)) (by rfl) rfl (by kernel_rfl) rfl ?_
  (try simp only [Act.put, List.setIfInBounds_toArray, List.set_cons_zero, List.set_cons_succ])
  intro W7 hO
  replace k_t5 := blk_off k_t5 hO nm0
  replace off0 := off0.step hO i0
  replace sz := off0.size
  try have nB_t5 := Nat.le_trans offB.size n_t5
  replace offB := offB.step hO i0
  clear hO
  refine wpT_n (fun W => (Blk W p5_4 (arrK .u8 64 (sm F)) 25)) (fun W hS => trivial) k_t5 ?_
  (refine wpT_q (v := ?_) rfl (by rfl) (fun W hS => ?_) ?_; rotate_left 1; (focus (go_simp; first | done | with_reducible rfl)))
  (try simp only [Act.put, List.setIfInBounds_toArray, List.set_cons_zero, List.set_cons_succ])
  (refine wpT_q (v := ?_) rfl (by rfl) (fun W hS => ?_) ?_; rotate_left 1; (focus (go_simp; first | done | with_reducible rfl)))
  (try simp only [Act.put, List.setIfInBounds_toArray, List.set_cons_zero, List.set_cons_succ])
  refine wpT_q (v := str (smb F)) rfl (by rfl) (fun W hS => by exact (run_cvs (sl_arr (hS)) rfl rfl)) ?_
  (try simp only [Act.put, List.setIfInBounds_toArray, List.set_cons_zero, List.set_cons_succ])
  (refine wpT_q (v := ?_) rfl (by rfl) (fun W hS => ?_) ?_; rotate_left 1; (focus (go_simp; first | done | with_reducible rfl)))
  (try simp only [Act.put, List.setIfInBounds_toArray, List.set_cons_zero, List.set_cons_succ])
  refine wpT_e rfl ?_
  refine wpL_ret (rsum_c F (by first | omega | (simp only [List.length_append, List.length_cons, List.length_nil, List.length_replicate, List.length_take, List.length_drop]; omega)) W7 (GR_ext HR.out off0.ext)) (by rfl) rfl (by kernel_rfl) rfl ?_
  (try simp only [Act.put, List.setIfInBounds_toArray, List.set_cons_zero, List.set_cons_succ])
  intro W8 hO
  replace k_t5 := blk_off k_t5 hO nm0
  replace off0 := off0.step hO i0
  replace sz := off0.size
  try have nB_t5 := Nat.le_trans offB.size n_t5
  replace offB := offB.step hO i0
  clear hO
  refine wpT_n (fun W => (Blk W p5_4 (arrK .u8 64 (sm F)) 25)) (fun W hS => hS) k_t5 ?_
  refine wpT_q (v := .bool true) rfl (by rfl) (fun W hS => by exact (run_streqb (l := (smb F)) (m := (smb F)) (decide_eq_true rfl) rfl rfl rfl)) ?_
  (try simp only [Act.put, List.setIfInBounds_toArray, List.set_cons_zero, List.set_cons_succ])
  (refine wpT_q (v := ?_) rfl (by rfl) (fun W hS => ?_) ?_; rotate_left 1; (focus (go_simp; first | done | with_reducible rfl)))
  (try simp only [Act.put, List.setIfInBounds_toArray, List.set_cons_zero, List.set_cons_succ])
  (refine wpT_q (v := ?_) rfl (by rfl) (fun W hS => ?_) ?_; rotate_left 1; (focus (go_simp; first | done | with_reducible rfl)))
  (try simp only [Act.put, List.setIfInBounds_toArray, List.set_cons_zero, List.set_cons_succ])
  (refine wpT_q (v := ?_) rfl (by rfl) (fun W hS => ?_) ?_; rotate_left 1; (focus (go_simp; first | done | with_reducible rfl)))
  (try simp only [Act.put, List.setIfInBounds_toArray, List.set_cons_zero, List.set_cons_succ])
  (refine wpT_q (v := ?_) rfl (by rfl) (fun W hS => ?_) ?_; rotate_left 1; (focus (go_simp; first | done | with_reducible rfl)))
  (try simp only [Act.put, List.setIfInBounds_toArray, List.set_cons_zero, List.set_cons_succ])
  refine wpT_e rfl ?_
  refine wpL_ret (all_c (fw ps 8 700) A2 c2 F hF hlen hpn2 W8 (pss_off0 offB hps2)) (by rfl) rfl (by kernel_rfl) rfl ?_
  (try simp only [Act.put, List.setIfInBounds_toArray, List.set_cons_zero, List.set_cons_succ])
  intro W9 hO
  replace k_t5 := blk_off k_t5 hO nm0
  replace off0 := off0.step hO i0
  replace sz := off0.size
  try have nB_t5 := Nat.le_trans offB.size n_t5
  replace offB := offB.step hO i0
  clear hO
  refine wpT_n (fun W => (Blk W p5_4 (arrK .u8 64 (sm F)) 25)) (fun W hS => hS) k_t5 ?_
  refine wpT_q (v := .bool true) rfl (by rfl) (fun W hS => by exact (run_streqb (l := F) (m := F) (decide_eq_true rfl) rfl rfl rfl)) ?_
  (try simp only [Act.put, List.setIfInBounds_toArray, List.set_cons_zero, List.set_cons_succ])
  (refine wpT_q (v := ?_) rfl (by rfl) (fun W hS => ?_) ?_; rotate_left 1; (focus (go_simp; first | done | with_reducible rfl)))
  (try simp only [Act.put, List.setIfInBounds_toArray, List.set_cons_zero, List.set_cons_succ])
  (refine wpT_q (v := ?_) rfl (by rfl) (fun W hS => ?_) ?_; rotate_left 1; (focus (go_simp; first | done | with_reducible rfl)))
  (try simp only [Act.put, List.setIfInBounds_toArray, List.set_cons_zero, List.set_cons_succ])
  refine wpT_z ?_
  go_wp2
  exact bodyPost_ret (v := .bool true) (by simp only [results, Tryd.results3]; go_simp) rfl ⟨rfl, off0.ext⟩
set_option maxRecDepth 100000 in
set_option maxHeartbeats 1500000 in
theorem sha5Sizes_c (N : Int) (w : World) (hG : GS w) (hR : GR w) :
    Calls Tryd.prog 4 #[.int .i64 N] w fun e w' => Ret (.bool true) w w' e := by
  have HG := Lib.hid hG
  have HR := Lib.hid hR
  clear hG hR
  obtain ⟨X, hx⟩ : ∃ X : Nat, N % 18446744073709551616 = (X : Int) := ⟨(N % 18446744073709551616).toNat, by omega⟩
  have hx2 : IntKind.wrap .u64 N = (X : Int) := by rw [IntKind.wrap_u64]; exact hx
  have x0 : (0 : Int) ≤ (X : Int) := Int.natCast_nonneg _
  have x1 : (X : Int) < 18446744073709551616 := by omega
  obtain ⟨n, hn⟩ : ∃ n, X % 400 = n := ⟨_, rfl⟩
  have hn4 : n < 400 := by omega
  have off0 : Off [] w w := Off.refl _ _
  have sz := off0.size
  go_enter Tryd.func4, Tryd.ntmps4
  go_upto_region 1 with fail
  refine wp_region_lit ?_
  (refine wpL_val (v := ?_) (by rfl) ?_ ?_; rotate_left 1; (focus (go_simp; first | done | with_reducible rfl)))
  (try simp only [Act.put, List.setIfInBounds_toArray, List.set_cons_zero, List.set_cons_succ])
  refine wpL_val (v := .int .u64 ((X : Int))) (by rfl) (by go_simp; (try simp only [hx2, IntKind.wrap_u64, IntKind.wrap_i64]); (try rw [Int.tmod_eq_emod_of_nonneg x0]); (try omega)) ?_
  (try simp only [Act.put, List.setIfInBounds_toArray, List.set_cons_zero, List.set_cons_succ])
  refine wpL_val (v := .int .u64 ((n : Int))) (by rfl) (by go_simp; (try simp only [hx2, IntKind.wrap_u64, IntKind.wrap_i64]); (try rw [Int.tmod_eq_emod_of_nonneg x0]); (try omega)) ?_
  (try simp only [Act.put, List.setIfInBounds_toArray, List.set_cons_zero, List.set_cons_succ])
  refine wpL_val (v := .int .i64 ((n : Int))) (by rfl) (by go_simp; (try simp only [hx2, IntKind.wrap_u64, IntKind.wrap_i64]); (try rw [Int.tmod_eq_emod_of_nonneg x0]); (try omega)) ?_
  (try simp only [Act.put, List.setIfInBounds_toArray, List.set_cons_zero, List.set_cons_succ])
  (refine wpL_val (v := ?_) (by rfl) ?_ ?_; rotate_left 1; (focus (go_simp; first | done | with_reducible rfl)))
  (try simp only [Act.put, List.setIfInBounds_toArray, List.set_cons_zero, List.set_cons_succ])
  refine wpL_nil ?_
  go_upto_region 2 with fail
  refine wp_region_lit ?_
  (refine wpL_val (v := ?_) (by rfl) ?_ ?_; rotate_left 1; (focus (go_simp; first | done | with_reducible rfl)))
  (try simp only [Act.put, List.setIfInBounds_toArray, List.set_cons_zero, List.set_cons_succ])
  refine wpL_make (n := n) (by first | omega | (simp only [List.length_append, List.length_cons, List.length_nil, List.length_replicate, List.length_take, List.length_drop]; omega)) (by rfl) rfl rfl rfl ?_
  (try simp only [Act.put, List.setIfInBounds_toArray, List.set_cons_zero, List.set_cons_succ])
  intro p10_1 W1 n_k10 hO h_
  have fr_k10 : Fr (Value.ownBlock (.slice (some ⟨p10_1, 0, none⟩) n n)) w.heap.size [] := fr_new (Nat.le_trans sz n_k10)
  replace off0 := off0.step hO i0
  replace sz := off0.size
  have ow_k10 : Own W1 (.slice (some ⟨p10_1, 0, none⟩) n n) (List.replicate n 0) := h_
  clear hO h_ n_k10
  (refine wpL_val (v := ?_) (by rfl) ?_ ?_; rotate_left 1; (focus (go_simp; first | done | with_reducible rfl)))
  (try simp only [Act.put, List.setIfInBounds_toArray, List.set_cons_zero, List.set_cons_succ])
  refine wpL_nil ?_
  go_upto_region 3 with fail
  refine wp_region_lit ?_
  (refine wpL_val (v := ?_) (by rfl) ?_ ?_; rotate_left 1; (focus (go_simp; first | done | with_reducible rfl)))
  (try simp only [Act.put, List.setIfInBounds_toArray, List.set_cons_zero, List.set_cons_succ])
  refine wpL_newS (z := #[(.slice (some ⟨p10_1, 0, none⟩) n n)]) (t := 28) (n := 1) (c := 1) (by rfl) (by exact run_bsv [(.slice (some ⟨p10_1, 0, none⟩) n n)] rfl rfl (vsc ((own_cells ow_k10).1) vs0) Tryd.underlying22 (by kernel_rfl) (by kernel_rfl) rfl (by decide) (by decide)) ?_
  (try simp only [Act.put, List.setIfInBounds_toArray, List.set_cons_zero, List.set_cons_succ])
  intro p12_2 W2 n_s12 hO h_
  have ne_k10_s12 := ne_new (Own.lt ow_k10) n_s12
  have fb_s12 : Fb p12_2 w.heap.size [] := fb_new (Nat.le_trans sz n_s12)
  replace ow_k10 := Own.off ow_k10 hO f0
  replace off0 := off0.step hO i0
  replace sz := off0.size
  have k_s12 := h_
  clear hO h_ n_s12
  refine wpL_ret (sum_c [List.replicate n 0] (some ⟨p12_2, 0, none⟩) 1 (List.replicate n 0) (by simp) (by first | omega | (simp only [List.length_append, List.length_cons, List.length_nil, List.length_replicate, List.length_take, List.length_drop]; omega)) (by simp) W2 (pss_blk k_s12 (pvc (ow_k10.sl) pv0)) (GS_ext HG.out off0.ext)) (by rfl) rfl (by kernel_rfl) rfl ?_
  (try simp only [Act.put, List.setIfInBounds_toArray, List.set_cons_zero, List.set_cons_succ])
  intro W3 hO
  replace k_s12 := blk_off k_s12 hO nm0
  replace ow_k10 := Own.off ow_k10 hO f0
  replace off0 := off0.step hO i0
  replace sz := off0.size
  clear hO
  refine wpL_new (z := arrK .u8 64 (fun _ => 0)) (t := 25) (by rfl) (by first | kernel_rfl | (go_simp; done) | (go_simp; rfl)) ?_
  (try simp only [Act.put, List.setIfInBounds_toArray, List.set_cons_zero, List.set_cons_succ])
  intro p4_4 W4 n_t4 hO h_
  have nq_s12_t4 : p12_2 ≠ p4_4 := Nat.ne_of_lt (Nat.lt_of_lt_of_le (blk_lt k_s12) n_t4)
  have ne_k10_t4 := ne_new (Own.lt ow_k10) n_t4
  have fb_t4 : Fb p4_4 w.heap.size [] := fb_new (Nat.le_trans sz n_t4)
  replace k_s12 := blk_off k_s12 hO nm0
  replace ow_k10 := Own.off ow_k10 hO f0
  replace off0 := off0.step hO i0
  replace sz := off0.size
  have k_t4 := h_
  clear hO h_ n_t4
  refine wpL_putrow (cells := arrK .u8 64 (sm (List.replicate n 0))) (by rfl) rfl rfl rfl k_t4 (by rw [arrK_size]; kernel_rfl) (by rw [arrK_size, arrK_size]) (by exact arrK_one _ _ _) ?_
  (try simp only [Act.put, List.setIfInBounds_toArray, List.set_cons_zero, List.set_cons_succ])
  intro W5 hO h_
  replace k_t4 : Blk W5 p4_4 (arrK .u8 64 (sm (List.replicate n 0))) 25 := h_
  clear h_
  replace k_s12 := blk_off k_s12 hO (nm1 nq_s12_t4)
  replace ow_k10 := Own.off ow_k10 hO (f1 ne_k10_t4)
  replace off0 := off0.step hO (i1 fb_t4)
  replace sz := off0.size
  clear hO
  refine wpL_nil ?_
  go_upto_region 4 with fail
  refine wp_region_tr (.e 0 (.q 1 (.q 2 (.q 3 (.q 4 (.q 5 (.e 6 (.q 7 (.q 8 (.q 9 .z)))))))))) (fun W => True) (by kernel_rfl) (by kernel_rfl) ?_
  intro W6 hO
  replace k_s12 := blk_off k_s12 hO nm0
  replace k_t4 := blk_off k_t4 hO nm0
  replace ow_k10 := Own.off ow_k10 hO f0
  replace off0 := off0.step hO i0
  replace sz := off0.size
  clear hO
  refine ⟨trivial, ?_⟩
  refine wpT_e rfl ?_
  refine wpL_ret (sums_c W6 (GS_ext HG.out off0.ext)) (by rfl) rfl (by kernel_rfl) rfl ?_
  (try simp only [Act.put, List.setIfInBounds_toArray, List.set_cons_zero, List.set_cons_succ])
  intro W7 hO
  replace k_s12 := blk_off k_s12 hO nm0
  replace k_t4 := blk_off k_t4 hO nm0
  replace ow_k10 := Own.off ow_k10 hO f0
  replace off0 := off0.step hO i0
  replace sz := off0.size
  clear hO
  refine wpT_n (fun W => (Blk W p4_4 (arrK .u8 64 (sm (List.replicate n 0))) 25) ∧ (Own W (.slice (some ⟨p10_1, 0, none⟩) n n) (List.replicate n 0))) (fun W hS => trivial) ⟨k_t4, ow_k10⟩ ?_
  (refine wpT_q (v := ?_) rfl (by rfl) (fun W hS => ?_) ?_; rotate_left 1; (focus (go_simp; first | done | with_reducible rfl)))
  (try simp only [Act.put, List.setIfInBounds_toArray, List.set_cons_zero, List.set_cons_succ])
  (refine wpT_q (v := ?_) rfl (by rfl) (fun W hS => ?_) ?_; rotate_left 1; (focus (go_simp; first | done | with_reducible rfl)))
  (try simp only [Act.put, List.setIfInBounds_toArray, List.set_cons_zero, List.set_cons_succ])
  refine wpT_q (v := str (smb (List.replicate n 0))) rfl (by rfl) (fun W hS => by exact (run_cvs (sl_arr (hS.1)) rfl rfl)) ?_
  (try simp only [Act.put, List.setIfInBounds_toArray, List.set_cons_zero, List.set_cons_succ])
  (refine wpT_q (v := ?_) rfl (by rfl) (fun W hS => ?_) ?_; rotate_left 1; (focus (go_simp; first | done | with_reducible rfl)))
  (try simp only [Act.put, List.setIfInBounds_toArray, List.set_cons_zero, List.set_cons_succ])
  refine wpT_q (v := str (List.replicate n 0)) rfl (by rfl) (fun W hS => by exact (run_cvs ((hS.2).sl) rfl rfl)) ?_
  (try simp only [Act.put, List.setIfInBounds_toArray, List.set_cons_zero, List.set_cons_succ])
  refine wpT_e rfl ?_
  refine wpL_ret (rsum_c (List.replicate n 0) (by first | omega | (simp only [List.length_append, List.length_cons, List.length_nil, List.length_replicate, List.length_take, List.length_drop]; omega)) W7 (GR_ext HR.out off0.ext)) (by rfl) rfl (by kernel_rfl) rfl ?_
  (try simp only [Act.put, List.setIfInBounds_toArray, List.set_cons_zero, List.set_cons_succ])
  intro W8 hO
  replace k_s12 := blk_off k_s12 hO nm0
  replace k_t4 := blk_off k_t4 hO nm0
  replace ow_k10 := Own.off ow_k10 hO f0
  replace off0 := off0.step hO i0
  replace sz := off0.size
  clear hO
  refine wpT_n (fun W => (Blk W p4_4 (arrK .u8 64 (sm (List.replicate n 0))) 25) ∧ (Own W (.slice (some ⟨p10_1, 0, none⟩) n n) (List.replicate n 0))) (fun W hS => ⟨hS.1, hS.2⟩) ⟨k_t4, ow_k10⟩ ?_
  refine wpT_q (v := .bool true) rfl (by rfl) (fun W hS => by exact (run_streqb (l := (smb (List.replicate n 0))) (m := (smb (List.replicate n 0))) (decide_eq_true rfl) rfl rfl rfl)) ?_
  (try simp only [Act.put, List.setIfInBounds_toArray, List.set_cons_zero, List.set_cons_succ])
  (refine wpT_q (v := ?_) rfl (by rfl) (fun W hS => ?_) ?_; rotate_left 1; (focus (go_simp; first | done | with_reducible rfl)))
  (try simp only [Act.put, List.setIfInBounds_toArray, List.set_cons_zero, List.set_cons_succ])
  (refine wpT_q (v := ?_) rfl (by rfl) (fun W hS => ?_) ?_; rotate_left 1; (focus (go_simp; first | done | with_reducible rfl)))
  (try simp only [Act.put, List.setIfInBounds_toArray, List.set_cons_zero, List.set_cons_succ])
  refine wpT_z ?_
  go_wp2
  exact bodyPost_ret (v := .bool true) (by simp only [results, Tryd.results4]; go_simp) rfl ⟨rfl, off0.ext⟩
set_option maxRecDepth 100000 in
set_option maxHeartbeats 1500000 in
theorem sha5Parts_c (v : Value) (L : List UInt8) (C : Int) (w : World) (hs : Sl w v L) (hL : L.length ≤ 9223372036854775807) (hG : GS w) :
    Calls Tryd.prog 5 #[v, .int .i64 C] w fun e w' => Ret (.bool true) w w' e := by
  have HG := Lib.hid hG
  clear hG
  obtain ⟨M, hM⟩ : ∃ M, List.take (min L.length 500) L = M := ⟨_, rfl⟩
  have hMl : min L.length 500 = M.length := by rw [← hM, List.length_take]; omega
  obtain ⟨X, hx⟩ : ∃ X : Nat, C % 18446744073709551616 = (X : Int) := ⟨(C % 18446744073709551616).toNat, by omega⟩
  have hx2 : IntKind.wrap .u64 C = (X : Int) := by rw [IntKind.wrap_u64]; exact hx
  have x0 : (0 : Int) ≤ (X : Int) := Int.natCast_nonneg _
  have x1 : (X : Int) < 18446744073709551616 := by omega
  obtain ⟨k, hk⟩ : ∃ k, X % (M.length + 1) = k := ⟨_, rfl⟩
  have hk4 : k ≤ M.length := by have := Nat.mod_lt X (show 0 < M.length + 1 by omega); omega
  have off0 : Off [] w w := Off.refl _ _
  have sz := off0.size
  have ow_a := hs
  go_enter Tryd.func5, Tryd.ntmps5
  go_upto_region 1 with fail
  refine wp_region_lit ?_
  refine wpL_newS (z := #[]) (t := 5) (n := 0) (c := 0) (by rfl) (by first | kernel_rfl | (go_simp; done) | (go_simp; rfl)) ?_
  (try simp only [Act.put, List.setIfInBounds_toArray, List.set_cons_zero, List.set_cons_succ])
  intro p6_1 W1 n_s6 hO h_
  have dj_a_s6 : ∀ x, (sb v L) = some x → Value.ownBlock (.slice (some ⟨p6_1, 0, none⟩) 0 0) ≠ some x := dj_new (Sl.lt ow_a) n_s6
  have fr_s6 : Fr (Value.ownBlock (.slice (some ⟨p6_1, 0, none⟩) 0 0)) w.heap.size [] := fr_new (Nat.le_trans sz n_s6)
  replace ow_a := Sl.off ow_a hO f0
  replace off0 := off0.step hO i0
  replace sz := off0.size
  have ow_s6 : Own W1 (.slice (some ⟨p6_1, 0, none⟩) 0 0) [] := own_blk h_ (by rfl) (by show 0 ≤ maxLen; decide)
  clear hO h_ n_s6
  (refine wpL_val (v := ?_) (by rfl) ?_ ?_; rotate_left 1; (focus (go_simp; first | done | with_reducible rfl)))
  (try simp only [Act.put, List.setIfInBounds_toArray, List.set_cons_zero, List.set_cons_succ])
  (refine wpL_val (v := ?_) (by rfl) ?_ ?_; rotate_left 1; (focus (go_simp; first | done | with_reducible rfl)))
  (try simp only [Act.put, List.setIfInBounds_toArray, List.set_cons_zero, List.set_cons_succ])
  refine wpL_len (l := L) ow_a (by rfl) rfl rfl ?_
  (try simp only [Act.put, List.setIfInBounds_toArray, List.set_cons_zero, List.set_cons_succ])
  refine wpL_val (v := .int .i64 (((min L.length 500 : Nat) : Int))) (by rfl) (by go_simp; (try omega)) ?_
  (try simp only [Act.put, List.setIfInBounds_toArray, List.set_cons_zero, List.set_cons_succ])
  refine wpL_head (n := min L.length 500) ow_a (by omega) (by rfl) rfl rfl rfl ?_
  (try simp only [Act.put, List.setIfInBounds_toArray, List.set_cons_zero, List.set_cons_succ])
  intro u11_1 ow_c11 sub_c11 some_c11
  have dj_s6_c11 : ∀ x, (Value.ownBlock (.slice (some ⟨p6_1, 0, none⟩) 0 0)) = some x → sb u11_1 (List.take (min L.length 500) L) ≠ some x := sub_dj sub_c11 (dj_symm dj_a_s6)
  refine wpL_append (xs := []) (ys := (List.take (min L.length 500) L)) (by rfl) rfl rfl rfl ow_s6 ow_c11 (by first | omega | (simp only [List.length_append, List.length_cons, List.length_nil, List.length_replicate, List.length_take, List.length_drop]; omega)) ?_
  (try simp only [Act.put, List.setIfInBounds_toArray, List.set_cons_zero, List.set_cons_succ])
  intro v12_2 W2 ow_a12 hO at_a12 nil_a12
  clear nil_a12
  have dj_a12_a := own_dj at_a12 (dj_symm dj_a_s6) (Sl.lt ow_a)
  have dj_a12_c11 := own_dj at_a12 dj_s6_c11 (Sl.lt ow_c11)
  have fr_a12 := own_fr at_a12 fr_s6 sz
  replace ow_a := Sl.off ow_a hO (fo (dj_symm dj_a_s6))
  replace ow_c11 := Sl.off ow_c11 hO (fo dj_s6_c11)
  replace off0 := off0.step hO (io fr_s6)
  replace sz := off0.size
  clear hO at_a12
  rw [List.nil_append, hM] at ow_a12
  clear ow_c11 dj_a12_c11
  (refine wpL_val (v := ?_) (by rfl) ?_ ?_; rotate_left 1; (focus (go_simp; first | done | with_reducible rfl)))
  (try simp only [Act.put, List.setIfInBounds_toArray, List.set_cons_zero, List.set_cons_succ])
  refine wpL_nil ?_
  go_upto_region 2 with fail
  refine wp_region_lit ?_
  (refine wpL_val (v := ?_) (by rfl) ?_ ?_; rotate_left 1; (focus (go_simp; first | done | with_reducible rfl)))
  (try simp only [Act.put, List.setIfInBounds_toArray, List.set_cons_zero, List.set_cons_succ])
  refine wpL_val (v := .int .u64 ((X : Int))) (by rfl) (by go_simp; (try simp only [hx2, IntKind.wrap_u64, IntKind.wrap_i64]); (try rw [Int.tmod_eq_emod_of_nonneg x0]); (try omega)) ?_
  (try simp only [Act.put, List.setIfInBounds_toArray, List.set_cons_zero, List.set_cons_succ])
  (refine wpL_val (v := ?_) (by rfl) ?_ ?_; rotate_left 1; (focus (go_simp; first | done | with_reducible rfl)))
  (try simp only [Act.put, List.setIfInBounds_toArray, List.set_cons_zero, List.set_cons_succ])
  refine wpL_len (l := M) (ow_a12.sl) (by rfl) rfl rfl ?_
  (try simp only [Act.put, List.setIfInBounds_toArray, List.set_cons_zero, List.set_cons_succ])
  refine wpL_val (v := .int .i64 (((M.length + 1 : Nat) : Int))) (by rfl) (by go_simp; (try simp only [IntKind.wrap_u64, IntKind.wrap_i64]); (try omega)) ?_
  (try simp only [Act.put, List.setIfInBounds_toArray, List.set_cons_zero, List.set_cons_succ])
  refine wpL_val (v := .int .u64 (((M.length + 1 : Nat) : Int))) (by rfl) (by go_simp; (try simp only [IntKind.wrap_u64, IntKind.wrap_i64]); (try omega)) ?_
  (try simp only [Act.put, List.setIfInBounds_toArray, List.set_cons_zero, List.set_cons_succ])
  refine wpL_val (v := .int .u64 ((k : Int))) (by rfl) (by go_simp; rw [if_neg (by omega), tm_of hk]) ?_
  (try simp only [Act.put, List.setIfInBounds_toArray, List.set_cons_zero, List.set_cons_succ])
  refine wpL_val (v := .int .i64 ((k : Int))) (by rfl) (by go_simp; (try simp only [IntKind.wrap_u64, IntKind.wrap_i64]); (try omega)) ?_
  (try simp only [Act.put, List.setIfInBounds_toArray, List.set_cons_zero, List.set_cons_succ])
  (refine wpL_val (v := ?_) (by rfl) ?_ ?_; rotate_left 1; (focus (go_simp; first | done | with_reducible rfl)))
  (try simp only [Act.put, List.setIfInBounds_toArray, List.set_cons_zero, List.set_cons_succ])
  refine wpL_nil ?_
  go_upto_region 3 with fail
  refine wp_region_tr (.e 0 (.q 1 (.q 2 (.q 3 (.q 4 (.q 5 (.q 6 (.q 7 (.q 10 (.b 8 (.b 9 (.e 11 (.e 12 (.q 13 (.q 14 (.q 15 .z))))) 11 (.e 9 (.e 12 (.q 13 (.q 14 (.q 15 .z)))))) 11 (.e 8 (.e 9 (.e 12 (.q 13 (.q 14 (.q 15 .z)))))))))))))))) (fun W => True) (by kernel_rfl) (by kernel_rfl) ?_
  intro W3 hO
  replace ow_a := Sl.off ow_a hO f0
  replace ow_a12 := Own.off ow_a12 hO f0
  replace off0 := off0.step hO i0
  replace sz := off0.size
  clear hO
  refine ⟨trivial, ?_⟩
  refine wpT_e rfl ?_
  refine wpL_ret (sums_c W3 (GS_ext HG.out off0.ext)) (by rfl) rfl (by kernel_rfl) rfl ?_
  (try simp only [Act.put, List.setIfInBounds_toArray, List.set_cons_zero, List.set_cons_succ])
  intro W4 hO
  replace ow_a := Sl.off ow_a hO f0
  replace ow_a12 := Own.off ow_a12 hO f0
  replace off0 := off0.step hO i0
  replace sz := off0.size
  clear hO
  refine wpT_n (fun W => True) (fun W hS => trivial) trivial ?_
  (refine wpT_q (v := ?_) rfl (by rfl) (fun W hS => ?_) ?_; rotate_left 1; (focus (go_simp; first | done | with_reducible rfl)))
  (try simp only [Act.put, List.setIfInBounds_toArray, List.set_cons_zero, List.set_cons_succ])
  (refine wpT_q (v := ?_) rfl (by rfl) (fun W hS => ?_) ?_; rotate_left 1; (focus (go_simp; first | done | with_reducible rfl)))
  (try simp only [Act.put, List.setIfInBounds_toArray, List.set_cons_zero, List.set_cons_succ])
  (refine wpT_q (v := ?_) rfl (by rfl) (fun W hS => ?_) ?_; rotate_left 1; (focus (go_simp; first | done | with_reducible rfl)))
  (try simp only [Act.put, List.setIfInBounds_toArray, List.set_cons_zero, List.set_cons_succ])
  obtain ⟨u25_4, hr_, ow_c25, sub_c25, some_c25⟩ := run_head (n := k) (ow_a12.sl) (by omega)
  refine wpT_q (v := u25_4) rfl (by rfl) (fun W hS => by exact (run_headA rfl rfl rfl (hr_ W))) ?_
  (try simp only [Act.put, List.setIfInBounds_toArray, List.set_cons_zero, List.set_cons_succ])
  clear hr_
  have dj_a_c25 : ∀ x, (sb v L) = some x → sb u25_4 (List.take k M) ≠ some x := sub_dj (fun x hx => sb_own (sub_c25 x hx)) (dj_symm dj_a12_a)
  (refine wpT_q (v := ?_) rfl (by rfl) (fun W hS => ?_) ?_; rotate_left 1; (focus (go_simp; first | done | with_reducible rfl)))
  (try simp only [Act.put, List.setIfInBounds_toArray, List.set_cons_zero, List.set_cons_succ])
  (refine wpT_q (v := ?_) rfl (by rfl) (fun W hS => ?_) ?_; rotate_left 1; (focus (go_simp; first | done | with_reducible rfl)))
  (try simp only [Act.put, List.setIfInBounds_toArray, List.set_cons_zero, List.set_cons_succ])
  obtain ⟨u28_4, hr_, ow_c28, sub_c28⟩ := run_tail (n := k) (ow_a12.sl) (by omega)
  refine wpT_q (v := u28_4) rfl (by rfl) (fun W hS => by exact (run_tailA rfl rfl rfl (hr_ W))) ?_
  (try simp only [Act.put, List.setIfInBounds_toArray, List.set_cons_zero, List.set_cons_succ])
  clear hr_
  have dj_a_c28 : ∀ x, (sb v L) = some x → sb u28_4 (List.drop k M) ≠ some x := sub_dj (fun x hx => sb_own (sub_c28 x hx)) (dj_symm dj_a12_a)
  (refine wpT_q (v := ?_) rfl (by rfl) (fun W hS => ?_) ?_; rotate_left 1; (focus (go_simp; first | done | with_reducible rfl)))
  (try simp only [Act.put, List.setIfInBounds_toArray, List.set_cons_zero, List.set_cons_succ])
  refine wpT_b rfl rfl ?_ ?_
  · have _f := True.intro
    refine wpL_newS (z := #[u25_4, .slice none 0 0, u28_4]) (t := 28) (n := 3) (c := 3) (by rfl) (by exact run_bsv [u25_4, .slice none 0 0, u28_4] rfl rfl (vsc ((sl_cells ow_c25).1) (vsc (rfl) (vsc ((sl_cells ow_c28).1) vs0))) Tryd.underlying22 (by kernel_rfl) (by kernel_rfl) rfl (by decide) (by decide)) ?_
    (try simp only [Act.put, List.setIfInBounds_toArray, List.set_cons_zero, List.set_cons_succ])
    intro p29_5 W5 n_s29 hO h_
    have ne_a_s29 := ne_new (Sl.lt ow_a) n_s29
    have ne_a12_s29 := ne_new (Own.lt ow_a12) n_s29
    have ne_c25_s29 := ne_new (Sl.lt ow_c25) n_s29
    have ne_c28_s29 := ne_new (Sl.lt ow_c28) n_s29
    have fb_s29 : Fb p29_5 w.heap.size [] := fb_new (Nat.le_trans sz n_s29)
    replace ow_a := Sl.off ow_a hO f0
    replace ow_a12 := Own.off ow_a12 hO f0
    replace ow_c25 := Sl.off ow_c25 hO f0
    replace ow_c28 := Sl.off ow_c28 hO f0
    replace off0 := off0.step hO i0
    replace sz := off0.size
    have k_s29 := h_
    clear hO h_ n_s29
    refine wpT_n (fun W => True) (fun W hS => trivial) trivial ?_
    refine wpT_b rfl rfl ?_ ?_
    · have _f := True.intro
      refine wpL_ret (sum_c [List.take k M, [], List.drop k M] (some ⟨p29_5, 0, none⟩) 3 M (by first | (simp; done) | (rw [List.flatten_cons, List.flatten_cons, List.flatten_cons, List.flatten_nil, List.nil_append, List.append_nil]; exact List.take_append_drop _ _)) (by omega) (by simp) W5 (pss_blk k_s29 (pvc ow_c25 (pvc (sl_nil W5) (pvc ow_c28 pv0)))) (GS_ext HG.out off0.ext)) (by rfl) rfl (by kernel_rfl) rfl ?_
      (try simp only [Act.put, List.setIfInBounds_toArray, List.set_cons_zero, List.set_cons_succ])
      intro W6 hO
      replace k_s29 := blk_off k_s29 hO nm0
      replace ow_a := Sl.off ow_a hO f0
      replace ow_a12 := Own.off ow_a12 hO f0
      replace ow_c25 := Sl.off ow_c25 hO f0
      replace ow_c28 := Sl.off ow_c28 hO f0
      replace off0 := off0.step hO i0
      replace sz := off0.size
      clear hO
      refine wpT_n (fun W => True) (fun W hS => trivial) trivial ?_
      refine wpT_e rfl ?_
      refine wpL_newS (z := #[v12_2]) (t := 28) (n := 1) (c := 1) (by rfl) (by exact run_bsv [v12_2] rfl rfl (vsc ((own_cells ow_a12).1) vs0) Tryd.underlying22 (by kernel_rfl) (by kernel_rfl) rfl (by decide) (by decide)) ?_
      (try simp only [Act.put, List.setIfInBounds_toArray, List.set_cons_zero, List.set_cons_succ])
      intro p32_7 W7 n_s32 hO h_
      have nq_s29_s32 : p29_5 ≠ p32_7 := Nat.ne_of_lt (Nat.lt_of_lt_of_le (blk_lt k_s29) n_s32)
      have ne_a_s32 := ne_new (Sl.lt ow_a) n_s32
      have ne_a12_s32 := ne_new (Own.lt ow_a12) n_s32
      have ne_c25_s32 := ne_new (Sl.lt ow_c25) n_s32
      have ne_c28_s32 := ne_new (Sl.lt ow_c28) n_s32
      have fb_s32 : Fb p32_7 w.heap.size [] := fb_new (Nat.le_trans sz n_s32)
      replace k_s29 := blk_off k_s29 hO nm0
      replace ow_a := Sl.off ow_a hO f0
      replace ow_a12 := Own.off ow_a12 hO f0
      replace ow_c25 := Sl.off ow_c25 hO f0
      replace ow_c28 := Sl.off ow_c28 hO f0
      replace off0 := off0.step hO i0
      replace sz := off0.size
      have k_s32 := h_
      clear hO h_ n_s32
      refine wpT_n (fun W => True) (fun W hS => trivial) trivial ?_
      refine wpT_e rfl ?_
      refine wpL_ret (sum_c [M] (some ⟨p32_7, 0, none⟩) 1 M (by first | (simp; done) | (rw [List.flatten_cons, List.flatten_cons, List.flatten_cons, List.flatten_nil, List.nil_append, List.append_nil]; exact List.take_append_drop _ _)) (by omega) (by simp) W7 (pss_blk k_s32 (pvc (ow_a12.sl) pv0)) (GS_ext HG.out off0.ext)) (by rfl) rfl (by kernel_rfl) rfl ?_
      (try simp only [Act.put, List.setIfInBounds_toArray, List.set_cons_zero, List.set_cons_succ])
      intro W8 hO
      replace k_s29 := blk_off k_s29 hO nm0
      replace k_s32 := blk_off k_s32 hO nm0
      replace ow_a := Sl.off ow_a hO f0
      replace ow_a12 := Own.off ow_a12 hO f0
      replace ow_c25 := Sl.off ow_c25 hO f0
      replace ow_c28 := Sl.off ow_c28 hO f0
      replace off0 := off0.step hO i0
      replace sz := off0.size
      clear hO
      refine wpT_n (fun W => True) (fun W hS => trivial) trivial ?_
      refine wpT_q (v := .bool true) rfl (by rfl) (fun W hS => by exact (run_eqlA (eqA_self (sm M) W) (by kernel_rfl) rfl rfl rfl)) ?_
      (try simp only [Act.put, List.setIfInBounds_toArray, List.set_cons_zero, List.set_cons_succ])
      (refine wpT_q (v := ?_) rfl (by rfl) (fun W hS => ?_) ?_; rotate_left 1; (focus (go_simp; first | done | with_reducible rfl)))
      (try simp only [Act.put, List.setIfInBounds_toArray, List.set_cons_zero, List.set_cons_succ])
      (refine wpT_q (v := ?_) rfl (by rfl) (fun W hS => ?_) ?_; rotate_left 1; (focus (go_simp; first | done | with_reducible rfl)))
      (try simp only [Act.put, List.setIfInBounds_toArray, List.set_cons_zero, List.set_cons_succ])
      refine wpT_z ?_
      go_wp2
      exact bodyPost_ret (v := .bool true) (by simp only [results, Tryd.results5]; go_simp) rfl ⟨rfl, off0.ext⟩
    · have _f := True.intro
      refine wpL_newS (z := #[v12_2]) (t := 28) (n := 1) (c := 1) (by rfl) (by exact run_bsv [v12_2] rfl rfl (vsc ((own_cells ow_a12).1) vs0) Tryd.underlying22 (by kernel_rfl) (by kernel_rfl) rfl (by decide) (by decide)) ?_
      (try simp only [Act.put, List.setIfInBounds_toArray, List.set_cons_zero, List.set_cons_succ])
      intro p32_6 W6 n_s32 hO h_
      have nq_s29_s32 : p29_5 ≠ p32_6 := Nat.ne_of_lt (Nat.lt_of_lt_of_le (blk_lt k_s29) n_s32)
      have ne_a_s32 := ne_new (Sl.lt ow_a) n_s32
      have ne_a12_s32 := ne_new (Own.lt ow_a12) n_s32
      have ne_c25_s32 := ne_new (Sl.lt ow_c25) n_s32
      have ne_c28_s32 := ne_new (Sl.lt ow_c28) n_s32
      have fb_s32 : Fb p32_6 w.heap.size [] := fb_new (Nat.le_trans sz n_s32)
      replace k_s29 := blk_off k_s29 hO nm0
      replace ow_a := Sl.off ow_a hO f0
      replace ow_a12 := Own.off ow_a12 hO f0
      replace ow_c25 := Sl.off ow_c25 hO f0
      replace ow_c28 := Sl.off ow_c28 hO f0
      replace off0 := off0.step hO i0
      replace sz := off0.size
      have k_s32 := h_
      clear hO h_ n_s32
      refine wpT_n (fun W => True) (fun W hS => trivial) trivial ?_
      refine wpT_e rfl ?_
      refine wpL_ret (sum_c [List.take k M, [], List.drop k M] (some ⟨p29_5, 0, none⟩) 3 M (by first | (simp; done) | (rw [List.flatten_cons, List.flatten_cons, List.flatten_cons, List.flatten_nil, List.nil_append, List.append_nil]; exact List.take_append_drop _ _)) (by omega) (by simp) W6 (pss_blk k_s29 (pvc ow_c25 (pvc (sl_nil W6) (pvc ow_c28 pv0)))) (GS_ext HG.out off0.ext)) (by rfl) rfl (by kernel_rfl) rfl ?_
      (try simp only [Act.put, List.setIfInBounds_toArray, List.set_cons_zero, List.set_cons_succ])
      intro W7 hO
      replace k_s29 := blk_off k_s29 hO nm0
      replace k_s32 := blk_off k_s32 hO nm0
      replace ow_a := Sl.off ow_a hO f0
      replace ow_a12 := Own.off ow_a12 hO f0
      replace ow_c25 := Sl.off ow_c25 hO f0
      replace ow_c28 := Sl.off ow_c28 hO f0
      replace off0 := off0.step hO i0
      replace sz := off0.size
      clear hO
      refine wpT_n (fun W => True) (fun W hS => trivial) trivial ?_
      refine wpT_e rfl ?_
      refine wpL_ret (sum_c [M] (some ⟨p32_6, 0, none⟩) 1 M (by first | (simp; done) | (rw [List.flatten_cons, List.flatten_cons, List.flatten_cons, List.flatten_nil, List.nil_append, List.append_nil]; exact List.take_append_drop _ _)) (by omega) (by simp) W7 (pss_blk k_s32 (pvc (ow_a12.sl) pv0)) (GS_ext HG.out off0.ext)) (by rfl) rfl (by kernel_rfl) rfl ?_
      (try simp only [Act.put, List.setIfInBounds_toArray, List.set_cons_zero, List.set_cons_succ])
      intro W8 hO
      replace k_s29 := blk_off k_s29 hO nm0
      replace k_s32 := blk_off k_s32 hO nm0
      replace ow_a := Sl.off ow_a hO f0
      replace ow_a12 := Own.off ow_a12 hO f0
      replace ow_c25 := Sl.off ow_c25 hO f0
      replace ow_c28 := Sl.off ow_c28 hO f0
      replace off0 := off0.step hO i0
      replace sz := off0.size
      clear hO
      refine wpT_n (fun W => True) (fun W hS => trivial) trivial ?_
      refine wpT_q (v := .bool true) rfl (by rfl) (fun W hS => by exact (run_eqlA (eqA_self (sm M) W) (by kernel_rfl) rfl rfl rfl)) ?_
      (try simp only [Act.put, List.setIfInBounds_toArray, List.set_cons_zero, List.set_cons_succ])
      (refine wpT_q (v := ?_) rfl (by rfl) (fun W hS => ?_) ?_; rotate_left 1; (focus (go_simp; first | done | with_reducible rfl)))
      (try simp only [Act.put, List.setIfInBounds_toArray, List.set_cons_zero, List.set_cons_succ])
      (refine wpT_q (v := ?_) rfl (by rfl) (fun W hS => ?_) ?_; rotate_left 1; (focus (go_simp; first | done | with_reducible rfl)))
      (try simp only [Act.put, List.setIfInBounds_toArray, List.set_cons_zero, List.set_cons_succ])
      refine wpT_z ?_
      go_wp2
      exact bodyPost_ret (v := .bool true) (by simp only [results, Tryd.results5]; go_simp) rfl ⟨rfl, off0.ext⟩
  · have _f := True.intro
    refine wpL_newS (z := #[v12_2]) (t := 28) (n := 1) (c := 1) (by rfl) (by exact run_bsv [v12_2] rfl rfl (vsc ((own_cells ow_a12).1) vs0) Tryd.underlying22 (by kernel_rfl) (by kernel_rfl) rfl (by decide) (by decide)) ?_
    (try simp only [Act.put, List.setIfInBounds_toArray, List.set_cons_zero, List.set_cons_succ])
    intro p32_5 W5 n_s32 hO h_
    have ne_a_s32 := ne_new (Sl.lt ow_a) n_s32
    have ne_a12_s32 := ne_new (Own.lt ow_a12) n_s32
    have ne_c25_s32 := ne_new (Sl.lt ow_c25) n_s32
    have ne_c28_s32 := ne_new (Sl.lt ow_c28) n_s32
    have fb_s32 : Fb p32_5 w.heap.size [] := fb_new (Nat.le_trans sz n_s32)
    replace ow_a := Sl.off ow_a hO f0
    replace ow_a12 := Own.off ow_a12 hO f0
    replace ow_c25 := Sl.off ow_c25 hO f0
    replace ow_c28 := Sl.off ow_c28 hO f0
    replace off0 := off0.step hO i0
    replace sz := off0.size
    have k_s32 := h_
    clear hO h_ n_s32
    refine wpT_n (fun W => True) (fun W hS => trivial) trivial ?_
    refine wpT_e rfl ?_
    refine wpL_newS (z := #[u25_4, .slice none 0 0, u28_4]) (t := 28) (n := 3) (c := 3) (by rfl) (by exact run_bsv [u25_4, .slice none 0 0, u28_4] rfl rfl (vsc ((sl_cells ow_c25).1) (vsc (rfl) (vsc ((sl_cells ow_c28).1) vs0))) Tryd.underlying22 (by kernel_rfl) (by kernel_rfl) rfl (by decide) (by decide)) ?_
    (try simp only [Act.put, List.setIfInBounds_toArray, List.set_cons_zero, List.set_cons_succ])
    intro p29_6 W6 n_s29 hO h_
    have nq_s32_s29 : p32_5 ≠ p29_6 := Nat.ne_of_lt (Nat.lt_of_lt_of_le (blk_lt k_s32) n_s29)
    have ne_a_s29 := ne_new (Sl.lt ow_a) n_s29
    have ne_a12_s29 := ne_new (Own.lt ow_a12) n_s29
    have ne_c25_s29 := ne_new (Sl.lt ow_c25) n_s29
    have ne_c28_s29 := ne_new (Sl.lt ow_c28) n_s29
    have fb_s29 : Fb p29_6 w.heap.size [] := fb_new (Nat.le_trans sz n_s29)
    replace k_s32 := blk_off k_s32 hO nm0
    replace ow_a := Sl.off ow_a hO f0
    replace ow_a12 := Own.off ow_a12 hO f0
    replace ow_c25 := Sl.off ow_c25 hO f0
    replace ow_c28 := Sl.off ow_c28 hO f0
    replace off0 := off0.step hO i0
    replace sz := off0.size
    have k_s29 := h_
    clear hO h_ n_s29
    refine wpT_n (fun W => True) (fun W hS => trivial) trivial ?_
    refine wpT_e rfl ?_
    refine wpL_ret (sum_c [List.take k M, [], List.drop k M] (some ⟨p29_6, 0, none⟩) 3 M (by first | (simp; done) | (rw [List.flatten_cons, List.flatten_cons, List.flatten_cons, List.flatten_nil, List.nil_append, List.append_nil]; exact List.take_append_drop _ _)) (by omega) (by simp) W6 (pss_blk k_s29 (pvc ow_c25 (pvc (sl_nil W6) (pvc ow_c28 pv0)))) (GS_ext HG.out off0.ext)) (by rfl) rfl (by kernel_rfl) rfl ?_
    (try simp only [Act.put, List.setIfInBounds_toArray, List.set_cons_zero, List.set_cons_succ])
    intro W7 hO
    replace k_s32 := blk_off k_s32 hO nm0
    replace k_s29 := blk_off k_s29 hO nm0
    replace ow_a := Sl.off ow_a hO f0
    replace ow_a12 := Own.off ow_a12 hO f0
    replace ow_c25 := Sl.off ow_c25 hO f0
    replace ow_c28 := Sl.off ow_c28 hO f0
    replace off0 := off0.step hO i0
    replace sz := off0.size
    clear hO
    refine wpT_n (fun W => True) (fun W hS => trivial) trivial ?_
    refine wpT_e rfl ?_
    refine wpL_ret (sum_c [M] (some ⟨p32_5, 0, none⟩) 1 M (by first | (simp; done) | (rw [List.flatten_cons, List.flatten_cons, List.flatten_cons, List.flatten_nil, List.nil_append, List.append_nil]; exact List.take_append_drop _ _)) (by omega) (by simp) W7 (pss_blk k_s32 (pvc (ow_a12.sl) pv0)) (GS_ext HG.out off0.ext)) (by rfl) rfl (by kernel_rfl) rfl ?_
    (try simp only [Act.put, List.setIfInBounds_toArray, List.set_cons_zero, List.set_cons_succ])
    intro W8 hO
    replace k_s32 := blk_off k_s32 hO nm0
    replace k_s29 := blk_off k_s29 hO nm0
    replace ow_a := Sl.off ow_a hO f0
    replace ow_a12 := Own.off ow_a12 hO f0
    replace ow_c25 := Sl.off ow_c25 hO f0
    replace ow_c28 := Sl.off ow_c28 hO f0
    replace off0 := off0.step hO i0
    replace sz := off0.size
    clear hO
    refine wpT_n (fun W => True) (fun W hS => trivial) trivial ?_
    refine wpT_q (v := .bool true) rfl (by rfl) (fun W hS => by exact (run_eqlA (eqA_self (sm M) W) (by kernel_rfl) rfl rfl rfl)) ?_
    (try simp only [Act.put, List.setIfInBounds_toArray, List.set_cons_zero, List.set_cons_succ])
    (refine wpT_q (v := ?_) rfl (by rfl) (fun W hS => ?_) ?_; rotate_left 1; (focus (go_simp; first | done | with_reducible rfl)))
    (try simp only [Act.put, List.setIfInBounds_toArray, List.set_cons_zero, List.set_cons_succ])
    (refine wpT_q (v := ?_) rfl (by rfl) (fun W hS => ?_) ?_; rotate_left 1; (focus (go_simp; first | done | with_reducible rfl)))
    (try simp only [Act.put, List.setIfInBounds_toArray, List.set_cons_zero, List.set_cons_succ])
    refine wpT_z ?_
    go_wp2
    exact bodyPost_ret (v := .bool true) (by simp only [results, Tryd.results5]; go_simp) rfl ⟨rfl, off0.ext⟩
end Go.Proofs.YtfkhogeaadldnaaDoor
