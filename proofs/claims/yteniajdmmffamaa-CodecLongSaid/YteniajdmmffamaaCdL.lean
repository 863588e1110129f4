/- custumallaw04.CodecLong. No conditions. -/
import Derived.Test.YteniajdmmffamaaCdS
namespace Go.Proofs.Yteniajdmmffamaa
set_option linter.unusedSimpArgs false
set_option linter.unusedVariables false
open Go.RowKit
attribute [local irreducible] wpList

theorem wtext_bigl {p : Nat} {v u : Value} {l m : List UInt8} {big : Bool} {w : World} (hu : Own w u m) (hwr : Wr w p v l big) (hm : 65535 < m.length) :
    Calls Try.prog 7 #[.pointer (some ⟨p, 0, none⟩), u] w fun e w' => e = .returned (.tuple #[]) ∧ ∃ v', WrTo w p v l true v' w' := by
  obtain ⟨A, c, rfl, _⟩ := hu.len
  exact wtext_big _ m c A rfl hm p v l big w hwr
set_option maxRecDepth 100000 in
set_option maxHeartbeats 4000000 in
theorem codecLong_big (n most : Int) (X Y m : Nat) (hx : n % 18446744073709551616 = (X : Int)) (hy : most % 18446744073709551616 = (Y : Int)) (hm : m = 65530 + X % 10) (hcase : 65535 < m) (w : World) :
    Calls Try.prog 4 #[.int .i64 n, .int .i64 most] w fun e w' => Ret (.bool true) w w' e := by
  have hx2 : IntKind.wrap .u64 n = (X : Int) := by rw [IntKind.wrap_u64]; exact hx
  have hy2 : IntKind.wrap .u64 most = (Y : Int) := by rw [IntKind.wrap_u64]; exact hy
  have x0 : (0 : Int) ≤ (X : Int) := Int.natCast_nonneg _
  have y0 : (0 : Int) ≤ (Y : Int) := Int.natCast_nonneg _
  have x1 : (X : Int) < 18446744073709551616 := by omega
  have y1 : (Y : Int) < 18446744073709551616 := by omega
  have m0 : (65530 : Int) ≤ (m : Int) ∧ (m : Int) ≤ 65539 := by omega
  have m00 := m0.1
  have m01 := m0.2
  clear m0
  have m2 : 65530 ≤ m := by omega
  have m3 : m ≤ 65539 := by omega
  have HM := Lib.hid hm
  clear hm
  have off0 : Off [] w w := Off.refl _ _
  have sz := off0.size
  go_enter Try.func4, Try.ntmps4
  go_upto_region 1 with fail
  refine wp_region_lit ?_
  (refine wpL_val (v := ?_) (by rfl) ?_ ?_; rotate_left 1; (focus (go_simp; first | done | with_reducible rfl)))
  (try simp only [Act.put, List.setIfInBounds_toArray, List.set_cons_zero, List.set_cons_succ])
  refine wpL_val (v := .int .u64 (X : Int)) (by rfl) (by go_simp; (try simp only [hx2, hy2])) ?_
  (try simp only [Act.put, List.setIfInBounds_toArray, List.set_cons_zero, List.set_cons_succ])
  refine wpL_val (v := .int .u64 ((X % 10 : Nat) : Int)) (by rfl) (by go_simp; (try simp only [hx2, hy2, IntKind.wrap_u64, IntKind.wrap_i64]); (try rw [Int.tmod_eq_emod_of_nonneg x0]); (try rw [Int.tmod_eq_emod_of_nonneg y0]); (try omega)) ?_
  (try simp only [Act.put, List.setIfInBounds_toArray, List.set_cons_zero, List.set_cons_succ])
  refine wpL_val (v := .int .i64 ((X % 10 : Nat) : Int)) (by rfl) (by go_simp; (try simp only [hx2, hy2, IntKind.wrap_u64, IntKind.wrap_i64]); (try rw [Int.tmod_eq_emod_of_nonneg x0]); (try rw [Int.tmod_eq_emod_of_nonneg y0]); (try omega)) ?_
  (try simp only [Act.put, List.setIfInBounds_toArray, List.set_cons_zero, List.set_cons_succ])
  refine wpL_val (v := .int .i64 (m : Int)) (by rfl) (by go_simp; (try simp only [hx2, IntKind.wrap_u64, IntKind.wrap_i64]); (try rw [Int.tmod_eq_emod_of_nonneg x0]); have hm_ := HM.out; (try omega)) ?_
  (try simp only [Act.put, List.setIfInBounds_toArray, List.set_cons_zero, List.set_cons_succ])
  (refine wpL_val (v := ?_) (by rfl) ?_ ?_; rotate_left 1; (focus (go_simp; first | done | with_reducible rfl)))
  (try simp only [Act.put, List.setIfInBounds_toArray, List.set_cons_zero, List.set_cons_succ])
  refine wpL_nil ?_
  go_upto_region 2 with fail
  refine wp_region_lit ?_
  refine wpL_val (v := .agg #[.slice none 0 0, .bool false]) (by rfl) (by first | rfl | (go_simp; done) | (go_simp; with_reducible rfl) | (go_simp; omega)) ?_
  (try simp only [Act.put, List.setIfInBounds_toArray, List.set_cons_zero, List.set_cons_succ])
  refine wpL_new (z := #[.slice none 0 0, .bool false]) (t := 31) (by rfl) (by first | kernel_rfl | (go_simp; done) | (go_simp; rfl)) ?_
  (try simp only [Act.put, List.setIfInBounds_toArray, List.set_cons_zero, List.set_cons_succ])
  intro p16_1 W1 n_t16 hO h_
  have fb_t16 : Fb p16_1 w.heap.size [] := fb_new (Nat.le_trans sz n_t16)
  replace off0 := off0.step hO i0
  replace sz := off0.size
  have k_t16 := h_
  clear hO h_ n_t16
  have ow_nw := own_nil W1
  have fr_nw : Fr (Value.ownBlock (.slice none 0 0)) w.heap.size [] := fr_none
  have ne_nw_t16 : Value.ownBlock (.slice none 0 0) ≠ some p16_1 := fun e_ => by cases e_
  (refine wpL_val (v := ?_) (by rfl) ?_ ?_; rotate_left 1; (focus (go_simp; first | done | with_reducible rfl)))
  (try simp only [Act.put, List.setIfInBounds_toArray, List.set_cons_zero, List.set_cons_succ])
  refine wpL_nil ?_
  go_upto_region 3 with fail
  refine wp_region_lit ?_
  (refine wpL_val (v := ?_) (by rfl) ?_ ?_; rotate_left 1; (focus (go_simp; first | done | with_reducible rfl)))
  (try simp only [Act.put, List.setIfInBounds_toArray, List.set_cons_zero, List.set_cons_succ])
  (refine wpL_val (v := ?_) (by rfl) ?_ ?_; rotate_left 1; (focus (go_simp; first | done | with_reducible rfl)))
  (try simp only [Act.put, List.setIfInBounds_toArray, List.set_cons_zero, List.set_cons_succ])
  refine wpL_make (n := m) (by first | omega | (simp; omega) | decide) (by rfl) rfl rfl rfl ?_
  (try simp only [Act.put, List.setIfInBounds_toArray, List.set_cons_zero, List.set_cons_succ])
  intro p19_2 W2 n_k19 hO h_
  have ne_k19_t16 : Value.ownBlock (.slice (some ⟨p19_2, 0, none⟩) m m) ≠ some p16_1 := fun e_ => (Nat.ne_of_lt (Nat.lt_of_lt_of_le (blk_lt k_t16) n_k19)) (Option.some.inj e_).symm
  have dj_nw_k19 : ∀ x, (Value.ownBlock (.slice none 0 0)) = some x → Value.ownBlock (.slice (some ⟨p19_2, 0, none⟩) m m) ≠ some x := dj_new (Own.lt ow_nw) n_k19
  have fr_k19 : Fr (Value.ownBlock (.slice (some ⟨p19_2, 0, none⟩) m m)) w.heap.size [] := fr_new (Nat.le_trans sz n_k19)
  replace k_t16 := blk_off k_t16 hO nm0
  replace ow_nw := Own.off ow_nw hO f0
  replace off0 := off0.step hO i0
  replace sz := off0.size
  have ow_k19 : Own W2 (.slice (some ⟨p19_2, 0, none⟩) m m) (List.replicate m 0) := h_
  clear hO h_ n_k19
  refine wpL_callv (wtext_bigl ow_k19 ⟨k_t16, ow_nw⟩ (by rw [List.length_replicate]; omega)) (by rfl) rfl (by kernel_rfl) rfl ?_
  (try simp only [Act.put, List.setIfInBounds_toArray, List.set_cons_zero, List.set_cons_succ])
  rintro W3 ⟨v_b1, hto⟩
  have at_b1 := hto.fr
  have hO := hto.off
  have kk := hto.wr.1
  have ow_b1 := hto.wr.2
  clear hto
  have ne_b1_t16 := own_ne at_b1 ne_nw_t16 (blk_lt k_t16)
  have dj_b1_k19 := own_dj at_b1 dj_nw_k19 (Own.lt ow_k19)
  have fr_b1 := own_fr at_b1 fr_nw sz
  replace ow_k19 := Own.off ow_k19 hO (fc ne_k19_t16 (fo dj_nw_k19))
  replace off0 := off0.step hO (ic fb_t16 (io fr_nw))
  replace sz := off0.size
  replace k_t16 := kk
  have ne_b1_t16 := Own.ne_blk ow_b1 k_t16 (by decide)
  clear hO at_b1 kk
  refine wpL_nil ?_
  go_upto_region 4 with fail
  refine wp_region_lit ?_
  (refine wpL_val (v := ?_) (by rfl) ?_ ?_; rotate_left 1; (focus (go_simp; first | done | with_reducible rfl)))
  (try simp only [Act.put, List.setIfInBounds_toArray, List.set_cons_zero, List.set_cons_succ])
  refine wpL_call (R := fun r W => ∃ u, r = .tuple #[u, .int .i64 5] ∧ NewB W3 [] u W) ((wbytes_true p16_1 _ [] _ ⟨k_t16, ow_b1⟩ (by first | omega | (simp; omega) | decide)).mono fun _ _ ⟨u, h1, h2⟩ => ⟨_, h1, u, rfl, h2⟩) (by rfl) rfl (by kernel_rfl) rfl ?_
  (try simp only [Act.put, List.setIfInBounds_toArray, List.set_cons_zero, List.set_cons_succ])
  rintro _ W4 ⟨v_c2, rfl, hnb⟩
  (try simp only [Act.put, List.setIfInBounds_toArray, List.set_cons_zero, List.set_cons_succ])
  have hO := hnb.off
  have ow_c2 := hnb.own
  have at_c2 : Of (Value.ownBlock v_c2) none W3.heap.size := hnb.fr
  clear hnb
  have ne_c2_t16 := own_ne at_c2 (fun h => by cases h) (blk_lt k_t16)
  have dj_c2_k19 := own_dj at_c2 (fun x h => by cases h) (Own.lt ow_k19)
  have dj_c2_b1 := own_dj at_c2 (fun x h => by cases h) (Own.lt ow_b1)
  have fr_c2 : Fr (Value.ownBlock v_c2) w.heap.size [] := own_fr at_c2 fr_none sz
  replace k_t16 := blk_off k_t16 hO nm0
  replace ow_k19 := Own.off ow_k19 hO f0
  replace ow_b1 := Own.off ow_b1 hO f0
  replace off0 := off0.step hO i0
  replace sz := off0.size
  clear hO at_c2
  (refine wpL_val (v := ?_) (by rfl) ?_ ?_; rotate_left 1; (focus (go_simp; first | done | with_reducible rfl)))
  (try simp only [Act.put, List.setIfInBounds_toArray, List.set_cons_zero, List.set_cons_succ])
  (refine wpL_val (v := ?_) (by rfl) ?_ ?_; rotate_left 1; (focus (go_simp; first | done | with_reducible rfl)))
  (try simp only [Act.put, List.setIfInBounds_toArray, List.set_cons_zero, List.set_cons_succ])
  refine wpL_val (v := .int .i64 5) (by rfl) (by first | rfl | (go_simp; done) | (go_simp; with_reducible rfl) | (go_simp; omega)) ?_
  (try simp only [Act.put, List.setIfInBounds_toArray, List.set_cons_zero, List.set_cons_succ])
  (refine wpL_val (v := ?_) (by rfl) ?_ ?_; rotate_left 1; (focus (go_simp; first | done | with_reducible rfl)))
  (try simp only [Act.put, List.setIfInBounds_toArray, List.set_cons_zero, List.set_cons_succ])
  refine wpL_val (v := .int .i64 5) (by rfl) (by first | rfl | (go_simp; done) | (go_simp; with_reducible rfl) | (go_simp; omega)) ?_
  (try simp only [Act.put, List.setIfInBounds_toArray, List.set_cons_zero, List.set_cons_succ])
  refine wpL_nil ?_
  go_upto_region 5 with fail
  refine wp_region_lit ?_
  refine wpL_ret (codes_c W4) (by rfl) rfl (by kernel_rfl) rfl ?_
  (try simp only [Act.put, List.setIfInBounds_toArray, List.set_cons_zero, List.set_cons_succ])
  intro W5 hO
  replace k_t16 := blk_off k_t16 hO nm0
  replace ow_k19 := Own.off ow_k19 hO f0
  replace ow_b1 := Own.off ow_b1 hO f0
  replace ow_c2 := Own.off ow_c2 hO f0
  replace off0 := off0.step hO i0
  replace sz := off0.size
  clear hO
  refine wpL_val (v := .bool false) (by rfl) (by first | rfl | (go_simp; done) | (go_simp; with_reducible rfl) | (go_simp; omega)) ?_
  (try simp only [Act.put, List.setIfInBounds_toArray, List.set_cons_zero, List.set_cons_succ])
  refine wpL_val (v := .bool false) (by rfl) (by first | rfl | (go_simp; done) | (go_simp; with_reducible rfl) | (go_simp; omega)) ?_
  (try simp only [Act.put, List.setIfInBounds_toArray, List.set_cons_zero, List.set_cons_succ])
  (refine wpL_val (v := ?_) (by rfl) ?_ ?_; rotate_left 1; (focus (go_simp; first | done | with_reducible rfl)))
  (try simp only [Act.put, List.setIfInBounds_toArray, List.set_cons_zero, List.set_cons_succ])
  refine wpL_val (v := .bool true) (by rfl) (by go_simp; (try simp); (try omega)) ?_
  (try simp only [Act.put, List.setIfInBounds_toArray, List.set_cons_zero, List.set_cons_succ])
  refine wpL_val (v := .bool true) (by rfl) (by go_simp; (try simp); (try omega)) ?_
  (try simp only [Act.put, List.setIfInBounds_toArray, List.set_cons_zero, List.set_cons_succ])
  refine wpL_nil ?_
  go_upto_region 6 with fail
  refine wp_region_lit ?_
  refine wpL_ret (codes_c W5) (by rfl) rfl (by kernel_rfl) rfl ?_
  (try simp only [Act.put, List.setIfInBounds_toArray, List.set_cons_zero, List.set_cons_succ])
  intro W6 hO
  replace k_t16 := blk_off k_t16 hO nm0
  replace ow_k19 := Own.off ow_k19 hO f0
  replace ow_b1 := Own.off ow_b1 hO f0
  replace ow_c2 := Own.off ow_c2 hO f0
  replace off0 := off0.step hO i0
  replace sz := off0.size
  clear hO
  refine wpL_val (v := .bool true) (by rfl) (by first | rfl | (go_simp; done) | (go_simp; with_reducible rfl) | (go_simp; omega)) ?_
  (try simp only [Act.put, List.setIfInBounds_toArray, List.set_cons_zero, List.set_cons_succ])
  refine wpL_val (v := .int .i64 5) (by rfl) (by first | rfl | (go_simp; done) | (go_simp; with_reducible rfl) | (go_simp; omega)) ?_
  (try simp only [Act.put, List.setIfInBounds_toArray, List.set_cons_zero, List.set_cons_succ])
  refine wpL_val (v := .bool true) (by rfl) (by first | rfl | (go_simp; done) | (go_simp; with_reducible rfl) | (go_simp; omega)) ?_
  (try simp only [Act.put, List.setIfInBounds_toArray, List.set_cons_zero, List.set_cons_succ])
  refine wpL_val (v := .bool true) (by rfl) (by first | rfl | (go_simp; done) | (go_simp; with_reducible rfl) | (go_simp; omega)) ?_
  (try simp only [Act.put, List.setIfInBounds_toArray, List.set_cons_zero, List.set_cons_succ])
  refine wpL_val (v := .bool true) (by rfl) (by first | rfl | (go_simp; done) | (go_simp; with_reducible rfl) | (go_simp; omega)) ?_
  (try simp only [Act.put, List.setIfInBounds_toArray, List.set_cons_zero, List.set_cons_succ])
  (refine wpL_val (v := ?_) (by rfl) ?_ ?_; rotate_left 1; (focus (go_simp; first | done | with_reducible rfl)))
  (try simp only [Act.put, List.setIfInBounds_toArray, List.set_cons_zero, List.set_cons_succ])
  refine wpL_len (l := []) (Own.sl ow_c2) (by rfl) rfl rfl ?_
  (try simp only [Act.put, List.setIfInBounds_toArray, List.set_cons_zero, List.set_cons_succ])
  (refine wpL_val (v := ?_) (by rfl) ?_ ?_; rotate_left 1; (focus (go_simp; first | done | with_reducible rfl)))
  (try simp only [Act.put, List.setIfInBounds_toArray, List.set_cons_zero, List.set_cons_succ])
  (refine wpL_val (v := ?_) (by rfl) ?_ ?_; rotate_left 1; (focus (go_simp; first | done | with_reducible rfl)))
  (try simp only [Act.put, List.setIfInBounds_toArray, List.set_cons_zero, List.set_cons_succ])
  (refine wpL_val (v := ?_) (by rfl) ?_ ?_; rotate_left 1; (focus (go_simp; first | done | with_reducible rfl)))
  (try simp only [Act.put, List.setIfInBounds_toArray, List.set_cons_zero, List.set_cons_succ])
  refine wpL_nil ?_
  go_wp2
  exact bodyPost_ret (v := .bool true) (by simp only [results, Try.results4]; go_simp) rfl ⟨rfl, off0.ext⟩
set_option maxRecDepth 100000 in
set_option maxHeartbeats 4000000 in
theorem codecLong_ok (n most : Int) (X Y m : Nat) (hx : n % 18446744073709551616 = (X : Int)) (hy : most % 18446744073709551616 = (Y : Int)) (hm : m = 65530 + X % 10) (hcase : m ≤ 65535) (hc : 2 ≤ Y % 5) (w : World) :
    Calls Try.prog 4 #[.int .i64 n, .int .i64 most] w fun e w' => Ret (.bool true) w w' e := by
  have hx2 : IntKind.wrap .u64 n = (X : Int) := by rw [IntKind.wrap_u64]; exact hx
  have hy2 : IntKind.wrap .u64 most = (Y : Int) := by rw [IntKind.wrap_u64]; exact hy
  have x0 : (0 : Int) ≤ (X : Int) := Int.natCast_nonneg _
  have y0 : (0 : Int) ≤ (Y : Int) := Int.natCast_nonneg _
  have x1 : (X : Int) < 18446744073709551616 := by omega
  have y1 : (Y : Int) < 18446744073709551616 := by omega
  have m0 : (65530 : Int) ≤ (m : Int) ∧ (m : Int) ≤ 65539 := by omega
  have m00 := m0.1
  have m01 := m0.2
  clear m0
  have m2 : 65530 ≤ m := by omega
  have m3 : m ≤ 65539 := by omega
  have HM := Lib.hid hm
  clear hm
  have off0 : Off [] w w := Off.refl _ _
  have sz := off0.size
  go_enter Try.func4, Try.ntmps4
  go_upto_region 1 with fail
  refine wp_region_lit ?_
  (refine wpL_val (v := ?_) (by rfl) ?_ ?_; rotate_left 1; (focus (go_simp; first | done | with_reducible rfl)))
  (try simp only [Act.put, List.setIfInBounds_toArray, List.set_cons_zero, List.set_cons_succ])
  refine wpL_val (v := .int .u64 (X : Int)) (by rfl) (by go_simp; (try simp only [hx2, hy2])) ?_
  (try simp only [Act.put, List.setIfInBounds_toArray, List.set_cons_zero, List.set_cons_succ])
  refine wpL_val (v := .int .u64 ((X % 10 : Nat) : Int)) (by rfl) (by go_simp; (try simp only [hx2, hy2, IntKind.wrap_u64, IntKind.wrap_i64]); (try rw [Int.tmod_eq_emod_of_nonneg x0]); (try rw [Int.tmod_eq_emod_of_nonneg y0]); (try omega)) ?_
  (try simp only [Act.put, List.setIfInBounds_toArray, List.set_cons_zero, List.set_cons_succ])
  refine wpL_val (v := .int .i64 ((X % 10 : Nat) : Int)) (by rfl) (by go_simp; (try simp only [hx2, hy2, IntKind.wrap_u64, IntKind.wrap_i64]); (try rw [Int.tmod_eq_emod_of_nonneg x0]); (try rw [Int.tmod_eq_emod_of_nonneg y0]); (try omega)) ?_
  (try simp only [Act.put, List.setIfInBounds_toArray, List.set_cons_zero, List.set_cons_succ])
  refine wpL_val (v := .int .i64 (m : Int)) (by rfl) (by go_simp; (try simp only [hx2, IntKind.wrap_u64, IntKind.wrap_i64]); (try rw [Int.tmod_eq_emod_of_nonneg x0]); have hm_ := HM.out; (try omega)) ?_
  (try simp only [Act.put, List.setIfInBounds_toArray, List.set_cons_zero, List.set_cons_succ])
  (refine wpL_val (v := ?_) (by rfl) ?_ ?_; rotate_left 1; (focus (go_simp; first | done | with_reducible rfl)))
  (try simp only [Act.put, List.setIfInBounds_toArray, List.set_cons_zero, List.set_cons_succ])
  refine wpL_nil ?_
  go_upto_region 2 with fail
  refine wp_region_lit ?_
  refine wpL_val (v := .agg #[.slice none 0 0, .bool false]) (by rfl) (by first | rfl | (go_simp; done) | (go_simp; with_reducible rfl) | (go_simp; omega)) ?_
  (try simp only [Act.put, List.setIfInBounds_toArray, List.set_cons_zero, List.set_cons_succ])
  refine wpL_new (z := #[.slice none 0 0, .bool false]) (t := 31) (by rfl) (by first | kernel_rfl | (go_simp; done) | (go_simp; rfl)) ?_
  (try simp only [Act.put, List.setIfInBounds_toArray, List.set_cons_zero, List.set_cons_succ])
  intro p16_1 W1 n_t16 hO h_
  have fb_t16 : Fb p16_1 w.heap.size [] := fb_new (Nat.le_trans sz n_t16)
  replace off0 := off0.step hO i0
  replace sz := off0.size
  have k_t16 := h_
  clear hO h_ n_t16
  have ow_nw := own_nil W1
  have fr_nw : Fr (Value.ownBlock (.slice none 0 0)) w.heap.size [] := fr_none
  have ne_nw_t16 : Value.ownBlock (.slice none 0 0) ≠ some p16_1 := fun e_ => by cases e_
  (refine wpL_val (v := ?_) (by rfl) ?_ ?_; rotate_left 1; (focus (go_simp; first | done | with_reducible rfl)))
  (try simp only [Act.put, List.setIfInBounds_toArray, List.set_cons_zero, List.set_cons_succ])
  refine wpL_nil ?_
  go_upto_region 3 with fail
  refine wp_region_lit ?_
  (refine wpL_val (v := ?_) (by rfl) ?_ ?_; rotate_left 1; (focus (go_simp; first | done | with_reducible rfl)))
  (try simp only [Act.put, List.setIfInBounds_toArray, List.set_cons_zero, List.set_cons_succ])
  (refine wpL_val (v := ?_) (by rfl) ?_ ?_; rotate_left 1; (focus (go_simp; first | done | with_reducible rfl)))
  (try simp only [Act.put, List.setIfInBounds_toArray, List.set_cons_zero, List.set_cons_succ])
  refine wpL_make (n := m) (by first | omega | (simp; omega) | decide) (by rfl) rfl rfl rfl ?_
  (try simp only [Act.put, List.setIfInBounds_toArray, List.set_cons_zero, List.set_cons_succ])
  intro p19_2 W2 n_k19 hO h_
  have ne_k19_t16 : Value.ownBlock (.slice (some ⟨p19_2, 0, none⟩) m m) ≠ some p16_1 := fun e_ => (Nat.ne_of_lt (Nat.lt_of_lt_of_le (blk_lt k_t16) n_k19)) (Option.some.inj e_).symm
  have dj_nw_k19 : ∀ x, (Value.ownBlock (.slice none 0 0)) = some x → Value.ownBlock (.slice (some ⟨p19_2, 0, none⟩) m m) ≠ some x := dj_new (Own.lt ow_nw) n_k19
  have fr_k19 : Fr (Value.ownBlock (.slice (some ⟨p19_2, 0, none⟩) m m)) w.heap.size [] := fr_new (Nat.le_trans sz n_k19)
  replace k_t16 := blk_off k_t16 hO nm0
  replace ow_nw := Own.off ow_nw hO f0
  replace off0 := off0.step hO i0
  replace sz := off0.size
  have ow_k19 : Own W2 (.slice (some ⟨p19_2, 0, none⟩) m m) (List.replicate m 0) := h_
  clear hO h_ n_k19
  refine wpL_callv (wtext_c _ _ _ _ _ ⟨k_t16, ow_nw⟩ _ (List.replicate m 0) (Own.sl ow_k19) (by rw [List.length_replicate]; omega) (ne_sb ne_k19_t16) (dj_sb dj_nw_k19) (by decide)) (by rfl) rfl (by kernel_rfl) rfl ?_
  (try simp only [Act.put, List.setIfInBounds_toArray, List.set_cons_zero, List.set_cons_succ])
  rintro W3 ⟨v_b1, hto⟩
  have at_b1 := hto.fr
  have hO := hto.off
  have kk := hto.wr.1
  have ow_b1 := hto.wr.2
  clear hto
  have ne_b1_t16 := own_ne at_b1 ne_nw_t16 (blk_lt k_t16)
  have dj_b1_k19 := own_dj at_b1 dj_nw_k19 (Own.lt ow_k19)
  have fr_b1 := own_fr at_b1 fr_nw sz
  replace ow_k19 := Own.off ow_k19 hO (fc ne_k19_t16 (fo dj_nw_k19))
  replace off0 := off0.step hO (ic fb_t16 (io fr_nw))
  replace sz := off0.size
  replace k_t16 := kk
  have ne_b1_t16 := Own.ne_blk ow_b1 k_t16 (by decide)
  clear hO at_b1 kk
  refine wpL_nil ?_
  go_upto_region 4 with fail
  refine wp_region_lit ?_
  (refine wpL_val (v := ?_) (by rfl) ?_ ?_; rotate_left 1; (focus (go_simp; first | done | with_reducible rfl)))
  (try simp only [Act.put, List.setIfInBounds_toArray, List.set_cons_zero, List.set_cons_succ])
  refine wpL_call (R := fun r W => ∃ u, r = .tuple #[u, .int .i64 0] ∧ NewB W3 ([] ++ [u8 ((List.replicate m 0).length / 256), u8 (List.replicate m 0).length] ++ (List.replicate m 0)) u W) ((wbytes_false p16_1 _ ([] ++ [u8 ((List.replicate m 0).length / 256), u8 (List.replicate m 0).length] ++ (List.replicate m 0)) _ ⟨k_t16, ow_b1⟩ (by first | omega | (simp; omega) | decide)).mono fun _ _ ⟨u, h1, h2⟩ => ⟨_, h1, u, rfl, h2⟩) (by rfl) rfl (by kernel_rfl) rfl ?_
  (try simp only [Act.put, List.setIfInBounds_toArray, List.set_cons_zero, List.set_cons_succ])
  rintro _ W4 ⟨v_c2, rfl, hnb⟩
  (try simp only [Act.put, List.setIfInBounds_toArray, List.set_cons_zero, List.set_cons_succ])
  have hO := hnb.off
  have ow_c2 := hnb.own
  have at_c2 : Of (Value.ownBlock v_c2) none W3.heap.size := hnb.fr
  clear hnb
  have ne_c2_t16 := own_ne at_c2 (fun h => by cases h) (blk_lt k_t16)
  have dj_c2_k19 := own_dj at_c2 (fun x h => by cases h) (Own.lt ow_k19)
  have dj_c2_b1 := own_dj at_c2 (fun x h => by cases h) (Own.lt ow_b1)
  have fr_c2 : Fr (Value.ownBlock v_c2) w.heap.size [] := own_fr at_c2 fr_none sz
  replace k_t16 := blk_off k_t16 hO nm0
  replace ow_k19 := Own.off ow_k19 hO f0
  replace ow_b1 := Own.off ow_b1 hO f0
  replace off0 := off0.step hO i0
  replace sz := off0.size
  clear hO at_c2
  (refine wpL_val (v := ?_) (by rfl) ?_ ?_; rotate_left 1; (focus (go_simp; first | done | with_reducible rfl)))
  (try simp only [Act.put, List.setIfInBounds_toArray, List.set_cons_zero, List.set_cons_succ])
  (refine wpL_val (v := ?_) (by rfl) ?_ ?_; rotate_left 1; (focus (go_simp; first | done | with_reducible rfl)))
  (try simp only [Act.put, List.setIfInBounds_toArray, List.set_cons_zero, List.set_cons_succ])
  refine wpL_val (v := .int .i64 0) (by rfl) (by first | rfl | (go_simp; done) | (go_simp; with_reducible rfl) | (go_simp; omega)) ?_
  (try simp only [Act.put, List.setIfInBounds_toArray, List.set_cons_zero, List.set_cons_succ])
  (refine wpL_val (v := ?_) (by rfl) ?_ ?_; rotate_left 1; (focus (go_simp; first | done | with_reducible rfl)))
  (try simp only [Act.put, List.setIfInBounds_toArray, List.set_cons_zero, List.set_cons_succ])
  refine wpL_val (v := .int .i64 0) (by rfl) (by first | rfl | (go_simp; done) | (go_simp; with_reducible rfl) | (go_simp; omega)) ?_
  (try simp only [Act.put, List.setIfInBounds_toArray, List.set_cons_zero, List.set_cons_succ])
  refine wpL_nil ?_
  go_upto_region 5 with fail
  refine wp_region_lit ?_
  refine wpL_ret (codes_c W4) (by rfl) rfl (by kernel_rfl) rfl ?_
  (try simp only [Act.put, List.setIfInBounds_toArray, List.set_cons_zero, List.set_cons_succ])
  intro W5 hO
  replace k_t16 := blk_off k_t16 hO nm0
  replace ow_k19 := Own.off ow_k19 hO f0
  replace ow_b1 := Own.off ow_b1 hO f0
  replace ow_c2 := Own.off ow_c2 hO f0
  replace off0 := off0.step hO i0
  replace sz := off0.size
  clear hO
  refine wpL_val (v := .bool false) (by rfl) (by first | rfl | (go_simp; done) | (go_simp; with_reducible rfl) | (go_simp; omega)) ?_
  (try simp only [Act.put, List.setIfInBounds_toArray, List.set_cons_zero, List.set_cons_succ])
  refine wpL_val (v := .bool false) (by rfl) (by first | rfl | (go_simp; done) | (go_simp; with_reducible rfl) | (go_simp; omega)) ?_
  (try simp only [Act.put, List.setIfInBounds_toArray, List.set_cons_zero, List.set_cons_succ])
  (refine wpL_val (v := ?_) (by rfl) ?_ ?_; rotate_left 1; (focus (go_simp; first | done | with_reducible rfl)))
  (try simp only [Act.put, List.setIfInBounds_toArray, List.set_cons_zero, List.set_cons_succ])
  refine wpL_val (v := .bool false) (by rfl) (by go_simp; (try simp); (try omega)) ?_
  (try simp only [Act.put, List.setIfInBounds_toArray, List.set_cons_zero, List.set_cons_succ])
  refine wpL_val (v := .bool false) (by rfl) (by go_simp; (try simp); (try omega)) ?_
  (try simp only [Act.put, List.setIfInBounds_toArray, List.set_cons_zero, List.set_cons_succ])
  refine wpL_nil ?_
  go_upto_region 7 with fail
  refine wp_region_lit ?_
  (refine wpL_val (v := ?_) (by rfl) ?_ ?_; rotate_left 1; (focus (go_simp; first | done | with_reducible rfl)))
  (try simp only [Act.put, List.setIfInBounds_toArray, List.set_cons_zero, List.set_cons_succ])
  (refine wpL_val (v := ?_) (by rfl) ?_ ?_; rotate_left 1; (focus (go_simp; first | done | with_reducible rfl)))
  (try simp only [Act.put, List.setIfInBounds_toArray, List.set_cons_zero, List.set_cons_succ])
  (refine wpL_val (v := ?_) (by rfl) ?_ ?_; rotate_left 1; (focus (go_simp; first | done | with_reducible rfl)))
  (try simp only [Act.put, List.setIfInBounds_toArray, List.set_cons_zero, List.set_cons_succ])
  refine wpL_val (v := .int .u64 (Y : Int)) (by rfl) (by go_simp; (try simp only [hx2, hy2])) ?_
  (try simp only [Act.put, List.setIfInBounds_toArray, List.set_cons_zero, List.set_cons_succ])
  refine wpL_val (v := .int .u64 ((Y % 5 : Nat) : Int)) (by rfl) (by go_simp; (try simp only [hx2, hy2, IntKind.wrap_u64, IntKind.wrap_i64]); (try rw [Int.tmod_eq_emod_of_nonneg x0]); (try rw [Int.tmod_eq_emod_of_nonneg y0]); (try omega)) ?_
  (try simp only [Act.put, List.setIfInBounds_toArray, List.set_cons_zero, List.set_cons_succ])
  refine wpL_val (v := .int .i64 ((Y % 5 : Nat) : Int)) (by rfl) (by go_simp; (try simp only [hx2, hy2, IntKind.wrap_u64, IntKind.wrap_i64]); (try rw [Int.tmod_eq_emod_of_nonneg x0]); (try rw [Int.tmod_eq_emod_of_nonneg y0]); (try omega)) ?_
  (try simp only [Act.put, List.setIfInBounds_toArray, List.set_cons_zero, List.set_cons_succ])
  refine wpL_val (v := .int .i64 ((m - 2 + Y % 5 : Nat) : Int)) (by rfl) (by go_simp; (try simp only [hx2, hy2, IntKind.wrap_u64, IntKind.wrap_i64]); (try rw [Int.tmod_eq_emod_of_nonneg x0]); (try rw [Int.tmod_eq_emod_of_nonneg y0]); (try omega)) ?_
  (try simp only [Act.put, List.setIfInBounds_toArray, List.set_cons_zero, List.set_cons_succ])
  (refine wpL_val (v := ?_) (by rfl) ?_ ?_; rotate_left 1; (focus (go_simp; first | done | with_reducible rfl)))
  (try simp only [Act.put, List.setIfInBounds_toArray, List.set_cons_zero, List.set_cons_succ])
  refine wpL_nil ?_
  go_upto_region 8 with fail
  refine wp_region_lit ?_
  (refine wpL_val (v := ?_) (by rfl) ?_ ?_; rotate_left 1; (focus (go_simp; first | done | with_reducible rfl)))
  (try simp only [Act.put, List.setIfInBounds_toArray, List.set_cons_zero, List.set_cons_succ])
  replace ow_c2 : Own W5 v_c2 (u8 (m / 256) :: u8 m :: (List.replicate m 0 ++ [])) := by simpa using ow_c2
  refine wpL_call (R := fun r W => ∃ p, r = .pointer (some ⟨p, 0, none⟩) ∧ ∃ v, Rdr W p v (u8 (m / 256) :: u8 m :: (List.replicate m 0 ++ [])) 0 ∧ Off [] W5 W ∧ Fb p W5.heap.size [] ∧ Fr v.ownBlock W5.heap.size []) ((read_c _ _ _ (Own.sl ow_c2) (by first | omega | (simp; omega) | decide)).mono fun _ _ ⟨p, h1, h2⟩ => ⟨_, h1, p, rfl, h2⟩) (by rfl) rfl (by kernel_rfl) rfl ?_
  (try simp only [Act.put, List.setIfInBounds_toArray, List.set_cons_zero, List.set_cons_succ])
  rintro _ W6 ⟨pr, rfl, vr, hrd, hO, hfb, at_rv⟩
  (try simp only [Act.put, List.setIfInBounds_toArray, List.set_cons_zero, List.set_cons_succ])
  have n_rd : W5.heap.size ≤ pr := Nat.le_of_not_lt fun h => by simpa using hfb h
  have ne_rv_t16 : sb vr (u8 (m / 256) :: u8 m :: (List.replicate m 0 ++ [])) ≠ some p16_1 := ne_sb (own_ne (O := none) at_rv (fun h => by cases h) (blk_lt k_t16))
  have dj_k19_rv : ∀ x, (Value.ownBlock (.slice (some ⟨p19_2, 0, none⟩) m m)) = some x → sb vr (u8 (m / 256) :: u8 m :: (List.replicate m 0 ++ [])) ≠ some x := dj_sb (dj_symm (own_dj (O := none) at_rv (fun x h => by cases h) (Own.lt ow_k19)))
  have dj_b1_rv : ∀ x, (Value.ownBlock v_b1) = some x → sb vr (u8 (m / 256) :: u8 m :: (List.replicate m 0 ++ [])) ≠ some x := dj_sb (dj_symm (own_dj (O := none) at_rv (fun x h => by cases h) (Own.lt ow_b1)))
  have dj_c2_rv : ∀ x, (Value.ownBlock v_c2) = some x → sb vr (u8 (m / 256) :: u8 m :: (List.replicate m 0 ++ [])) ≠ some x := dj_sb (dj_symm (own_dj (O := none) at_rv (fun x h => by cases h) (Own.lt ow_c2)))
  have nq_t16_rd : p16_1 ≠ pr := Nat.ne_of_lt (Nat.lt_of_lt_of_le (blk_lt k_t16) n_rd)
  have ne_k19_rd := ne_new (Own.lt ow_k19) n_rd
  have ne_b1_rd := ne_new (Own.lt ow_b1) n_rd
  have ne_c2_rd := ne_new (Own.lt ow_c2) n_rd
  have fb_rd : Fb pr w.heap.size [] := fb_new (Nat.le_trans sz n_rd)
  replace k_t16 := blk_off k_t16 hO nm0
  replace ow_k19 := Own.off ow_k19 hO f0
  replace ow_b1 := Own.off ow_b1 hO f0
  replace ow_c2 := Own.off ow_c2 hO f0
  replace off0 := off0.step hO i0
  replace sz := off0.size
  have k_rd := hrd.1
  have ow_rv := hrd.2.1
  have ne_rv_rd := hrd.2.2
  clear hrd hO hfb n_rd at_rv
  (refine wpL_val (v := ?_) (by rfl) ?_ ?_; rotate_left 1; (focus (go_simp; first | done | with_reducible rfl)))
  (try simp only [Act.put, List.setIfInBounds_toArray, List.set_cons_zero, List.set_cons_succ])
  refine wpL_nil ?_
  go_upto_region 9 with fail
  refine wp_region_lit ?_
  (refine wpL_val (v := ?_) (by rfl) ?_ ?_; rotate_left 1; (focus (go_simp; first | done | with_reducible rfl)))
  (try simp only [Act.put, List.setIfInBounds_toArray, List.set_cons_zero, List.set_cons_succ])
  (refine wpL_val (v := ?_) (by rfl) ?_ ?_; rotate_left 1; (focus (go_simp; first | done | with_reducible rfl)))
  (try simp only [Act.put, List.setIfInBounds_toArray, List.set_cons_zero, List.set_cons_succ])
  refine wpL_call (R := fun u W => Own W u (List.replicate m 0) ∧ Fr u.ownBlock W6.heap.size [] ∧ ∃ v2, RdTo W6 pr vr (u8 (m / 256) :: u8 m :: (List.replicate m 0 ++ [])) [] 0 v2 W) ((rtext_ok pr m vr (List.replicate m 0) [] (List.length_replicate) (by omega) _ (by omega) _ ⟨k_rd, ow_rv, ne_rv_rd⟩ (by first | omega | (simp; omega) | decide)).mono fun _ _ ⟨u, h1, h2⟩ => ⟨u, h1, h2⟩) (by rfl) rfl (by kernel_rfl) rfl ?_
  (try simp only [Act.put, List.setIfInBounds_toArray, List.set_cons_zero, List.set_cons_succ])
  rintro ut W7 ⟨ow_ut, at_ut, v2, hto⟩
  (try simp only [Act.put, List.setIfInBounds_toArray, List.set_cons_zero, List.set_cons_succ])
  have hO := hto.off
  have kk := hto.rd.1
  have hv2 := hto.rd.2.1
  have hs2 := hto.sub
  have ne2 := hto.rd.2.2
  clear hto at_ut
  replace k_t16 := blk_off k_t16 hO (nm1 nq_t16_rd)
  replace ow_k19 := Own.off ow_k19 hO (f1 ne_k19_rd)
  replace ow_b1 := Own.off ow_b1 hO (f1 ne_b1_rd)
  replace ow_c2 := Own.off ow_c2 hO (f1 ne_c2_rd)
  replace ow_rv := Sl.off ow_rv hO (f1 ne_rv_rd)
  replace off0 := off0.step hO (i1 fb_rd)
  replace sz := off0.size
  replace k_rd := kk
  clear kk hO
  (refine wpL_val (v := ?_) (by rfl) ?_ ?_; rotate_left 1; (focus (go_simp; first | done | with_reducible rfl)))
  (try simp only [Act.put, List.setIfInBounds_toArray, List.set_cons_zero, List.set_cons_succ])
  refine wpL_nil ?_
  go_upto_region 10 with fail
  refine wp_region_lit ?_
  refine wpL_val (v := .int .i64 0) (by rfl) (by first | rfl | (go_simp; done) | (go_simp; with_reducible rfl) | (go_simp; omega)) ?_
  (try simp only [Act.put, List.setIfInBounds_toArray, List.set_cons_zero, List.set_cons_succ])
  refine wpL_val (v := .bool true) (by rfl) (by first | rfl | (go_simp; done) | (go_simp; with_reducible rfl) | (go_simp; omega)) ?_
  (try simp only [Act.put, List.setIfInBounds_toArray, List.set_cons_zero, List.set_cons_succ])
  refine wpL_val (v := .bool true) (by rfl) (by first | rfl | (go_simp; done) | (go_simp; with_reducible rfl) | (go_simp; omega)) ?_
  (try simp only [Act.put, List.setIfInBounds_toArray, List.set_cons_zero, List.set_cons_succ])
  (refine wpL_val (v := ?_) (by rfl) ?_ ?_; rotate_left 1; (focus (go_simp; first | done | with_reducible rfl)))
  (try simp only [Act.put, List.setIfInBounds_toArray, List.set_cons_zero, List.set_cons_succ])
  refine wpL_len (l := (u8 (m / 256) :: u8 m :: (List.replicate m 0 ++ []))) (Own.sl ow_c2) (by rfl) rfl rfl ?_
  (try simp only [Act.put, List.setIfInBounds_toArray, List.set_cons_zero, List.set_cons_succ])
  (refine wpL_val (v := ?_) (by rfl) ?_ ?_; rotate_left 1; (focus (go_simp; first | done | with_reducible rfl)))
  (try simp only [Act.put, List.setIfInBounds_toArray, List.set_cons_zero, List.set_cons_succ])
  refine wpL_val (v := .int .i64 ((m + 2 : Nat) : Int)) (by rfl) (by go_simp; (try simp only [hx2, hy2, IntKind.wrap_u64, IntKind.wrap_i64]); (try rw [Int.tmod_eq_emod_of_nonneg x0]); (try rw [Int.tmod_eq_emod_of_nonneg y0]); (try omega)) ?_
  (try simp only [Act.put, List.setIfInBounds_toArray, List.set_cons_zero, List.set_cons_succ])
  refine wpL_val (v := .bool true) (by rfl) (by go_simp; (try simp); (try omega)) ?_
  (try simp only [Act.put, List.setIfInBounds_toArray, List.set_cons_zero, List.set_cons_succ])
  refine wpL_val (v := .bool true) (by rfl) (by go_simp; (try simp); (try omega)) ?_
  (try simp only [Act.put, List.setIfInBounds_toArray, List.set_cons_zero, List.set_cons_succ])
  refine wpL_val (v := .bool true) (by rfl) (by go_simp; (try simp); (try omega)) ?_
  (try simp only [Act.put, List.setIfInBounds_toArray, List.set_cons_zero, List.set_cons_succ])
  (refine wpL_val (v := ?_) (by rfl) ?_ ?_; rotate_left 1; (focus (go_simp; first | done | with_reducible rfl)))
  (try simp only [Act.put, List.setIfInBounds_toArray, List.set_cons_zero, List.set_cons_succ])
  (refine wpL_val (v := ?_) (by rfl) ?_ ?_; rotate_left 1; (focus (go_simp; first | done | with_reducible rfl)))
  (try simp only [Act.put, List.setIfInBounds_toArray, List.set_cons_zero, List.set_cons_succ])
  refine wpL_val (v := .bool true) (by rfl) (by go_simp; (try simp); (try omega)) ?_
  (try simp only [Act.put, List.setIfInBounds_toArray, List.set_cons_zero, List.set_cons_succ])
  refine wpL_val (v := .bool true) (by rfl) (by go_simp; (try simp); (try omega)) ?_
  (try simp only [Act.put, List.setIfInBounds_toArray, List.set_cons_zero, List.set_cons_succ])
  (refine wpL_val (v := ?_) (by rfl) ?_ ?_; rotate_left 1; (focus (go_simp; first | done | with_reducible rfl)))
  (try simp only [Act.put, List.setIfInBounds_toArray, List.set_cons_zero, List.set_cons_succ])
  refine wpL_len (l := (List.replicate m 0)) (Own.sl ow_ut) (by rfl) rfl rfl ?_
  (try simp only [Act.put, List.setIfInBounds_toArray, List.set_cons_zero, List.set_cons_succ])
  (refine wpL_val (v := ?_) (by rfl) ?_ ?_; rotate_left 1; (focus (go_simp; first | done | with_reducible rfl)))
  (try simp only [Act.put, List.setIfInBounds_toArray, List.set_cons_zero, List.set_cons_succ])
  refine wpL_val (v := .bool true) (by rfl) (by go_simp; (try simp); (try omega)) ?_
  (try simp only [Act.put, List.setIfInBounds_toArray, List.set_cons_zero, List.set_cons_succ])
  refine wpL_val (v := .bool true) (by rfl) (by go_simp; (try simp); (try omega)) ?_
  (try simp only [Act.put, List.setIfInBounds_toArray, List.set_cons_zero, List.set_cons_succ])
  refine wpL_val (v := .bool true) (by rfl) (by go_simp; (try simp); (try omega)) ?_
  (try simp only [Act.put, List.setIfInBounds_toArray, List.set_cons_zero, List.set_cons_succ])
  (refine wpL_val (v := ?_) (by rfl) ?_ ?_; rotate_left 1; (focus (go_simp; first | done | with_reducible rfl)))
  (try simp only [Act.put, List.setIfInBounds_toArray, List.set_cons_zero, List.set_cons_succ])
  refine wpL_ret (rend_ok pr v2 W7 ⟨k_rd, hv2, ne2⟩) (by rfl) rfl (by kernel_rfl) rfl ?_
  (try simp only [Act.put, List.setIfInBounds_toArray, List.set_cons_zero, List.set_cons_succ])
  intro W8 hO
  replace k_t16 := blk_off k_t16 hO nm0
  replace k_rd := blk_off k_rd hO nm0
  replace ow_k19 := Own.off ow_k19 hO f0
  replace ow_b1 := Own.off ow_b1 hO f0
  replace ow_c2 := Own.off ow_c2 hO f0
  replace ow_rv := Sl.off ow_rv hO f0
  replace ow_ut := Own.off ow_ut hO f0
  replace off0 := off0.step hO i0
  replace sz := off0.size
  clear hO
  refine wpL_val (v := .bool true) (by rfl) (by first | rfl | (go_simp; done) | (go_simp; with_reducible rfl) | (go_simp; omega)) ?_
  (try simp only [Act.put, List.setIfInBounds_toArray, List.set_cons_zero, List.set_cons_succ])
  refine wpL_val (v := .bool true) (by rfl) (by first | rfl | (go_simp; done) | (go_simp; with_reducible rfl) | (go_simp; omega)) ?_
  (try simp only [Act.put, List.setIfInBounds_toArray, List.set_cons_zero, List.set_cons_succ])
  refine wpL_val (v := .bool true) (by rfl) (by first | rfl | (go_simp; done) | (go_simp; with_reducible rfl) | (go_simp; omega)) ?_
  (try simp only [Act.put, List.setIfInBounds_toArray, List.set_cons_zero, List.set_cons_succ])
  refine wpL_skip (by rfl) ?_
  (try simp only [Act.put, List.setIfInBounds_toArray, List.set_cons_zero, List.set_cons_succ])
  refine wpL_skip (by rfl) ?_
  (try simp only [Act.put, List.setIfInBounds_toArray, List.set_cons_zero, List.set_cons_succ])
  refine wpL_skip (by rfl) ?_
  (try simp only [Act.put, List.setIfInBounds_toArray, List.set_cons_zero, List.set_cons_succ])
  refine wpL_skip (by rfl) ?_
  (try simp only [Act.put, List.setIfInBounds_toArray, List.set_cons_zero, List.set_cons_succ])
  refine wpL_skip (by rfl) ?_
  (try simp only [Act.put, List.setIfInBounds_toArray, List.set_cons_zero, List.set_cons_succ])
  refine wpL_skip (by rfl) ?_
  (try simp only [Act.put, List.setIfInBounds_toArray, List.set_cons_zero, List.set_cons_succ])
  refine wpL_skip (by rfl) ?_
  (try simp only [Act.put, List.setIfInBounds_toArray, List.set_cons_zero, List.set_cons_succ])
  refine wpL_skip (by rfl) ?_
  (try simp only [Act.put, List.setIfInBounds_toArray, List.set_cons_zero, List.set_cons_succ])
  refine wpL_skip (by rfl) ?_
  (try simp only [Act.put, List.setIfInBounds_toArray, List.set_cons_zero, List.set_cons_succ])
  refine wpL_skip (by rfl) ?_
  (try simp only [Act.put, List.setIfInBounds_toArray, List.set_cons_zero, List.set_cons_succ])
  refine wpL_skip (by rfl) ?_
  (try simp only [Act.put, List.setIfInBounds_toArray, List.set_cons_zero, List.set_cons_succ])
  refine wpL_skip (by rfl) ?_
  (try simp only [Act.put, List.setIfInBounds_toArray, List.set_cons_zero, List.set_cons_succ])
  refine wpL_skip (by rfl) ?_
  (try simp only [Act.put, List.setIfInBounds_toArray, List.set_cons_zero, List.set_cons_succ])
  refine wpL_skip (by rfl) ?_
  (try simp only [Act.put, List.setIfInBounds_toArray, List.set_cons_zero, List.set_cons_succ])
  refine wpL_skip (by rfl) ?_
  (try simp only [Act.put, List.setIfInBounds_toArray, List.set_cons_zero, List.set_cons_succ])
  refine wpL_skip (by rfl) ?_
  (try simp only [Act.put, List.setIfInBounds_toArray, List.set_cons_zero, List.set_cons_succ])
  refine wpL_skip (by rfl) ?_
  (try simp only [Act.put, List.setIfInBounds_toArray, List.set_cons_zero, List.set_cons_succ])
  refine wpL_skip (by rfl) ?_
  (try simp only [Act.put, List.setIfInBounds_toArray, List.set_cons_zero, List.set_cons_succ])
  refine wpL_skip (by rfl) ?_
  (try simp only [Act.put, List.setIfInBounds_toArray, List.set_cons_zero, List.set_cons_succ])
  refine wpL_skip (by rfl) ?_
  (try simp only [Act.put, List.setIfInBounds_toArray, List.set_cons_zero, List.set_cons_succ])
  refine wpL_val (v := .bool true) (by rfl) (by first | rfl | (go_simp; done) | (go_simp; with_reducible rfl) | (go_simp; omega)) ?_
  (try simp only [Act.put, List.setIfInBounds_toArray, List.set_cons_zero, List.set_cons_succ])
  refine wpL_val (v := .bool true) (by rfl) (by first | rfl | (go_simp; done) | (go_simp; with_reducible rfl) | (go_simp; omega)) ?_
  (try simp only [Act.put, List.setIfInBounds_toArray, List.set_cons_zero, List.set_cons_succ])
  refine wpL_val (v := .bool true) (by rfl) (by first | rfl | (go_simp; done) | (go_simp; with_reducible rfl) | (go_simp; omega)) ?_
  (try simp only [Act.put, List.setIfInBounds_toArray, List.set_cons_zero, List.set_cons_succ])
  refine wpL_nil ?_
  go_wp2
  exact bodyPost_ret (v := .bool true) (by simp only [results, Try.results4]; go_simp) rfl ⟨rfl, off0.ext⟩
set_option maxRecDepth 100000 in
set_option maxHeartbeats 4000000 in
theorem codecLong_short (n most : Int) (X Y m : Nat) (hx : n % 18446744073709551616 = (X : Int)) (hy : most % 18446744073709551616 = (Y : Int)) (hm : m = 65530 + X % 10) (hcase : m ≤ 65535) (hc : Y % 5 < 2) (w : World) :
    Calls Try.prog 4 #[.int .i64 n, .int .i64 most] w fun e w' => Ret (.bool true) w w' e := by
  have hx2 : IntKind.wrap .u64 n = (X : Int) := by rw [IntKind.wrap_u64]; exact hx
  have hy2 : IntKind.wrap .u64 most = (Y : Int) := by rw [IntKind.wrap_u64]; exact hy
  have x0 : (0 : Int) ≤ (X : Int) := Int.natCast_nonneg _
  have y0 : (0 : Int) ≤ (Y : Int) := Int.natCast_nonneg _
  have x1 : (X : Int) < 18446744073709551616 := by omega
  have y1 : (Y : Int) < 18446744073709551616 := by omega
  have m0 : (65530 : Int) ≤ (m : Int) ∧ (m : Int) ≤ 65539 := by omega
  have m00 := m0.1
  have m01 := m0.2
  clear m0
  have m2 : 65530 ≤ m := by omega
  have m3 : m ≤ 65539 := by omega
  have HM := Lib.hid hm
  clear hm
  have off0 : Off [] w w := Off.refl _ _
  have sz := off0.size
  go_enter Try.func4, Try.ntmps4
  go_upto_region 1 with fail
  refine wp_region_lit ?_
  (refine wpL_val (v := ?_) (by rfl) ?_ ?_; rotate_left 1; (focus (go_simp; first | done | with_reducible rfl)))
  (try simp only [Act.put, List.setIfInBounds_toArray, List.set_cons_zero, List.set_cons_succ])
  refine wpL_val (v := .int .u64 (X : Int)) (by rfl) (by go_simp; (try simp only [hx2, hy2])) ?_
  (try simp only [Act.put, List.setIfInBounds_toArray, List.set_cons_zero, List.set_cons_succ])
  refine wpL_val (v := .int .u64 ((X % 10 : Nat) : Int)) (by rfl) (by go_simp; (try simp only [hx2, hy2, IntKind.wrap_u64, IntKind.wrap_i64]); (try rw [Int.tmod_eq_emod_of_nonneg x0]); (try rw [Int.tmod_eq_emod_of_nonneg y0]); (try omega)) ?_
  (try simp only [Act.put, List.setIfInBounds_toArray, List.set_cons_zero, List.set_cons_succ])
  refine wpL_val (v := .int .i64 ((X % 10 : Nat) : Int)) (by rfl) (by go_simp; (try simp only [hx2, hy2, IntKind.wrap_u64, IntKind.wrap_i64]); (try rw [Int.tmod_eq_emod_of_nonneg x0]); (try rw [Int.tmod_eq_emod_of_nonneg y0]); (try omega)) ?_
  (try simp only [Act.put, List.setIfInBounds_toArray, List.set_cons_zero, List.set_cons_succ])
  refine wpL_val (v := .int .i64 (m : Int)) (by rfl) (by go_simp; (try simp only [hx2, IntKind.wrap_u64, IntKind.wrap_i64]); (try rw [Int.tmod_eq_emod_of_nonneg x0]); have hm_ := HM.out; (try omega)) ?_
  (try simp only [Act.put, List.setIfInBounds_toArray, List.set_cons_zero, List.set_cons_succ])
  (refine wpL_val (v := ?_) (by rfl) ?_ ?_; rotate_left 1; (focus (go_simp; first | done | with_reducible rfl)))
  (try simp only [Act.put, List.setIfInBounds_toArray, List.set_cons_zero, List.set_cons_succ])
  refine wpL_nil ?_
  go_upto_region 2 with fail
  refine wp_region_lit ?_
  refine wpL_val (v := .agg #[.slice none 0 0, .bool false]) (by rfl) (by first | rfl | (go_simp; done) | (go_simp; with_reducible rfl) | (go_simp; omega)) ?_
  (try simp only [Act.put, List.setIfInBounds_toArray, List.set_cons_zero, List.set_cons_succ])
  refine wpL_new (z := #[.slice none 0 0, .bool false]) (t := 31) (by rfl) (by first | kernel_rfl | (go_simp; done) | (go_simp; rfl)) ?_
  (try simp only [Act.put, List.setIfInBounds_toArray, List.set_cons_zero, List.set_cons_succ])
  intro p16_1 W1 n_t16 hO h_
  have fb_t16 : Fb p16_1 w.heap.size [] := fb_new (Nat.le_trans sz n_t16)
  replace off0 := off0.step hO i0
  replace sz := off0.size
  have k_t16 := h_
  clear hO h_ n_t16
  have ow_nw := own_nil W1
  have fr_nw : Fr (Value.ownBlock (.slice none 0 0)) w.heap.size [] := fr_none
  have ne_nw_t16 : Value.ownBlock (.slice none 0 0) ≠ some p16_1 := fun e_ => by cases e_
  (refine wpL_val (v := ?_) (by rfl) ?_ ?_; rotate_left 1; (focus (go_simp; first | done | with_reducible rfl)))
  (try simp only [Act.put, List.setIfInBounds_toArray, List.set_cons_zero, List.set_cons_succ])
  refine wpL_nil ?_
  go_upto_region 3 with fail
  refine wp_region_lit ?_
  (refine wpL_val (v := ?_) (by rfl) ?_ ?_; rotate_left 1; (focus (go_simp; first | done | with_reducible rfl)))
  (try simp only [Act.put, List.setIfInBounds_toArray, List.set_cons_zero, List.set_cons_succ])
  (refine wpL_val (v := ?_) (by rfl) ?_ ?_; rotate_left 1; (focus (go_simp; first | done | with_reducible rfl)))
  (try simp only [Act.put, List.setIfInBounds_toArray, List.set_cons_zero, List.set_cons_succ])
  refine wpL_make (n := m) (by first | omega | (simp; omega) | decide) (by rfl) rfl rfl rfl ?_
  (try simp only [Act.put, List.setIfInBounds_toArray, List.set_cons_zero, List.set_cons_succ])
  intro p19_2 W2 n_k19 hO h_
  have ne_k19_t16 : Value.ownBlock (.slice (some ⟨p19_2, 0, none⟩) m m) ≠ some p16_1 := fun e_ => (Nat.ne_of_lt (Nat.lt_of_lt_of_le (blk_lt k_t16) n_k19)) (Option.some.inj e_).symm
  have dj_nw_k19 : ∀ x, (Value.ownBlock (.slice none 0 0)) = some x → Value.ownBlock (.slice (some ⟨p19_2, 0, none⟩) m m) ≠ some x := dj_new (Own.lt ow_nw) n_k19
  have fr_k19 : Fr (Value.ownBlock (.slice (some ⟨p19_2, 0, none⟩) m m)) w.heap.size [] := fr_new (Nat.le_trans sz n_k19)
  replace k_t16 := blk_off k_t16 hO nm0
  replace ow_nw := Own.off ow_nw hO f0
  replace off0 := off0.step hO i0
  replace sz := off0.size
  have ow_k19 : Own W2 (.slice (some ⟨p19_2, 0, none⟩) m m) (List.replicate m 0) := h_
  clear hO h_ n_k19
  refine wpL_callv (wtext_c _ _ _ _ _ ⟨k_t16, ow_nw⟩ _ (List.replicate m 0) (Own.sl ow_k19) (by rw [List.length_replicate]; omega) (ne_sb ne_k19_t16) (dj_sb dj_nw_k19) (by decide)) (by rfl) rfl (by kernel_rfl) rfl ?_
  (try simp only [Act.put, List.setIfInBounds_toArray, List.set_cons_zero, List.set_cons_succ])
  rintro W3 ⟨v_b1, hto⟩
  have at_b1 := hto.fr
  have hO := hto.off
  have kk := hto.wr.1
  have ow_b1 := hto.wr.2
  clear hto
  have ne_b1_t16 := own_ne at_b1 ne_nw_t16 (blk_lt k_t16)
  have dj_b1_k19 := own_dj at_b1 dj_nw_k19 (Own.lt ow_k19)
  have fr_b1 := own_fr at_b1 fr_nw sz
  replace ow_k19 := Own.off ow_k19 hO (fc ne_k19_t16 (fo dj_nw_k19))
  replace off0 := off0.step hO (ic fb_t16 (io fr_nw))
  replace sz := off0.size
  replace k_t16 := kk
  have ne_b1_t16 := Own.ne_blk ow_b1 k_t16 (by decide)
  clear hO at_b1 kk
  refine wpL_nil ?_
  go_upto_region 4 with fail
  refine wp_region_lit ?_
  (refine wpL_val (v := ?_) (by rfl) ?_ ?_; rotate_left 1; (focus (go_simp; first | done | with_reducible rfl)))
  (try simp only [Act.put, List.setIfInBounds_toArray, List.set_cons_zero, List.set_cons_succ])
  refine wpL_call (R := fun r W => ∃ u, r = .tuple #[u, .int .i64 0] ∧ NewB W3 ([] ++ [u8 ((List.replicate m 0).length / 256), u8 (List.replicate m 0).length] ++ (List.replicate m 0)) u W) ((wbytes_false p16_1 _ ([] ++ [u8 ((List.replicate m 0).length / 256), u8 (List.replicate m 0).length] ++ (List.replicate m 0)) _ ⟨k_t16, ow_b1⟩ (by first | omega | (simp; omega) | decide)).mono fun _ _ ⟨u, h1, h2⟩ => ⟨_, h1, u, rfl, h2⟩) (by rfl) rfl (by kernel_rfl) rfl ?_
  (try simp only [Act.put, List.setIfInBounds_toArray, List.set_cons_zero, List.set_cons_succ])
  rintro _ W4 ⟨v_c2, rfl, hnb⟩
  (try simp only [Act.put, List.setIfInBounds_toArray, List.set_cons_zero, List.set_cons_succ])
  have hO := hnb.off
  have ow_c2 := hnb.own
  have at_c2 : Of (Value.ownBlock v_c2) none W3.heap.size := hnb.fr
  clear hnb
  have ne_c2_t16 := own_ne at_c2 (fun h => by cases h) (blk_lt k_t16)
  have dj_c2_k19 := own_dj at_c2 (fun x h => by cases h) (Own.lt ow_k19)
  have dj_c2_b1 := own_dj at_c2 (fun x h => by cases h) (Own.lt ow_b1)
  have fr_c2 : Fr (Value.ownBlock v_c2) w.heap.size [] := own_fr at_c2 fr_none sz
  replace k_t16 := blk_off k_t16 hO nm0
  replace ow_k19 := Own.off ow_k19 hO f0
  replace ow_b1 := Own.off ow_b1 hO f0
  replace off0 := off0.step hO i0
  replace sz := off0.size
  clear hO at_c2
  (refine wpL_val (v := ?_) (by rfl) ?_ ?_; rotate_left 1; (focus (go_simp; first | done | with_reducible rfl)))
  (try simp only [Act.put, List.setIfInBounds_toArray, List.set_cons_zero, List.set_cons_succ])
  (refine wpL_val (v := ?_) (by rfl) ?_ ?_; rotate_left 1; (focus (go_simp; first | done | with_reducible rfl)))
  (try simp only [Act.put, List.setIfInBounds_toArray, List.set_cons_zero, List.set_cons_succ])
  refine wpL_val (v := .int .i64 0) (by rfl) (by first | rfl | (go_simp; done) | (go_simp; with_reducible rfl) | (go_simp; omega)) ?_
  (try simp only [Act.put, List.setIfInBounds_toArray, List.set_cons_zero, List.set_cons_succ])
  (refine wpL_val (v := ?_) (by rfl) ?_ ?_; rotate_left 1; (focus (go_simp; first | done | with_reducible rfl)))
  (try simp only [Act.put, List.setIfInBounds_toArray, List.set_cons_zero, List.set_cons_succ])
  refine wpL_val (v := .int .i64 0) (by rfl) (by first | rfl | (go_simp; done) | (go_simp; with_reducible rfl) | (go_simp; omega)) ?_
  (try simp only [Act.put, List.setIfInBounds_toArray, List.set_cons_zero, List.set_cons_succ])
  refine wpL_nil ?_
  go_upto_region 5 with fail
  refine wp_region_lit ?_
  refine wpL_ret (codes_c W4) (by rfl) rfl (by kernel_rfl) rfl ?_
  (try simp only [Act.put, List.setIfInBounds_toArray, List.set_cons_zero, List.set_cons_succ])
  intro W5 hO
  replace k_t16 := blk_off k_t16 hO nm0
  replace ow_k19 := Own.off ow_k19 hO f0
  replace ow_b1 := Own.off ow_b1 hO f0
  replace ow_c2 := Own.off ow_c2 hO f0
  replace off0 := off0.step hO i0
  replace sz := off0.size
  clear hO
  refine wpL_val (v := .bool false) (by rfl) (by first | rfl | (go_simp; done) | (go_simp; with_reducible rfl) | (go_simp; omega)) ?_
  (try simp only [Act.put, List.setIfInBounds_toArray, List.set_cons_zero, List.set_cons_succ])
  refine wpL_val (v := .bool false) (by rfl) (by first | rfl | (go_simp; done) | (go_simp; with_reducible rfl) | (go_simp; omega)) ?_
  (try simp only [Act.put, List.setIfInBounds_toArray, List.set_cons_zero, List.set_cons_succ])
  (refine wpL_val (v := ?_) (by rfl) ?_ ?_; rotate_left 1; (focus (go_simp; first | done | with_reducible rfl)))
  (try simp only [Act.put, List.setIfInBounds_toArray, List.set_cons_zero, List.set_cons_succ])
  refine wpL_val (v := .bool false) (by rfl) (by go_simp; (try simp); (try omega)) ?_
  (try simp only [Act.put, List.setIfInBounds_toArray, List.set_cons_zero, List.set_cons_succ])
  refine wpL_val (v := .bool false) (by rfl) (by go_simp; (try simp); (try omega)) ?_
  (try simp only [Act.put, List.setIfInBounds_toArray, List.set_cons_zero, List.set_cons_succ])
  refine wpL_nil ?_
  go_upto_region 7 with fail
  refine wp_region_lit ?_
  (refine wpL_val (v := ?_) (by rfl) ?_ ?_; rotate_left 1; (focus (go_simp; first | done | with_reducible rfl)))
  (try simp only [Act.put, List.setIfInBounds_toArray, List.set_cons_zero, List.set_cons_succ])
  (refine wpL_val (v := ?_) (by rfl) ?_ ?_; rotate_left 1; (focus (go_simp; first | done | with_reducible rfl)))
  (try simp only [Act.put, List.setIfInBounds_toArray, List.set_cons_zero, List.set_cons_succ])
  (refine wpL_val (v := ?_) (by rfl) ?_ ?_; rotate_left 1; (focus (go_simp; first | done | with_reducible rfl)))
  (try simp only [Act.put, List.setIfInBounds_toArray, List.set_cons_zero, List.set_cons_succ])
  refine wpL_val (v := .int .u64 (Y : Int)) (by rfl) (by go_simp; (try simp only [hx2, hy2])) ?_
  (try simp only [Act.put, List.setIfInBounds_toArray, List.set_cons_zero, List.set_cons_succ])
  refine wpL_val (v := .int .u64 ((Y % 5 : Nat) : Int)) (by rfl) (by go_simp; (try simp only [hx2, hy2, IntKind.wrap_u64, IntKind.wrap_i64]); (try rw [Int.tmod_eq_emod_of_nonneg x0]); (try rw [Int.tmod_eq_emod_of_nonneg y0]); (try omega)) ?_
  (try simp only [Act.put, List.setIfInBounds_toArray, List.set_cons_zero, List.set_cons_succ])
  refine wpL_val (v := .int .i64 ((Y % 5 : Nat) : Int)) (by rfl) (by go_simp; (try simp only [hx2, hy2, IntKind.wrap_u64, IntKind.wrap_i64]); (try rw [Int.tmod_eq_emod_of_nonneg x0]); (try rw [Int.tmod_eq_emod_of_nonneg y0]); (try omega)) ?_
  (try simp only [Act.put, List.setIfInBounds_toArray, List.set_cons_zero, List.set_cons_succ])
  refine wpL_val (v := .int .i64 ((m - 2 + Y % 5 : Nat) : Int)) (by rfl) (by go_simp; (try simp only [hx2, hy2, IntKind.wrap_u64, IntKind.wrap_i64]); (try rw [Int.tmod_eq_emod_of_nonneg x0]); (try rw [Int.tmod_eq_emod_of_nonneg y0]); (try omega)) ?_
  (try simp only [Act.put, List.setIfInBounds_toArray, List.set_cons_zero, List.set_cons_succ])
  (refine wpL_val (v := ?_) (by rfl) ?_ ?_; rotate_left 1; (focus (go_simp; first | done | with_reducible rfl)))
  (try simp only [Act.put, List.setIfInBounds_toArray, List.set_cons_zero, List.set_cons_succ])
  refine wpL_nil ?_
  go_upto_region 8 with fail
  refine wp_region_lit ?_
  (refine wpL_val (v := ?_) (by rfl) ?_ ?_; rotate_left 1; (focus (go_simp; first | done | with_reducible rfl)))
  (try simp only [Act.put, List.setIfInBounds_toArray, List.set_cons_zero, List.set_cons_succ])
  replace ow_c2 : Own W5 v_c2 (u8 (m / 256) :: u8 m :: (List.replicate m 0 ++ [])) := by simpa using ow_c2
  refine wpL_call (R := fun r W => ∃ p, r = .pointer (some ⟨p, 0, none⟩) ∧ ∃ v, Rdr W p v (u8 (m / 256) :: u8 m :: (List.replicate m 0 ++ [])) 0 ∧ Off [] W5 W ∧ Fb p W5.heap.size [] ∧ Fr v.ownBlock W5.heap.size []) ((read_c _ _ _ (Own.sl ow_c2) (by first | omega | (simp; omega) | decide)).mono fun _ _ ⟨p, h1, h2⟩ => ⟨_, h1, p, rfl, h2⟩) (by rfl) rfl (by kernel_rfl) rfl ?_
  (try simp only [Act.put, List.setIfInBounds_toArray, List.set_cons_zero, List.set_cons_succ])
  rintro _ W6 ⟨pr, rfl, vr, hrd, hO, hfb, at_rv⟩
  (try simp only [Act.put, List.setIfInBounds_toArray, List.set_cons_zero, List.set_cons_succ])
  have n_rd : W5.heap.size ≤ pr := Nat.le_of_not_lt fun h => by simpa using hfb h
  have ne_rv_t16 : sb vr (u8 (m / 256) :: u8 m :: (List.replicate m 0 ++ [])) ≠ some p16_1 := ne_sb (own_ne (O := none) at_rv (fun h => by cases h) (blk_lt k_t16))
  have dj_k19_rv : ∀ x, (Value.ownBlock (.slice (some ⟨p19_2, 0, none⟩) m m)) = some x → sb vr (u8 (m / 256) :: u8 m :: (List.replicate m 0 ++ [])) ≠ some x := dj_sb (dj_symm (own_dj (O := none) at_rv (fun x h => by cases h) (Own.lt ow_k19)))
  have dj_b1_rv : ∀ x, (Value.ownBlock v_b1) = some x → sb vr (u8 (m / 256) :: u8 m :: (List.replicate m 0 ++ [])) ≠ some x := dj_sb (dj_symm (own_dj (O := none) at_rv (fun x h => by cases h) (Own.lt ow_b1)))
  have dj_c2_rv : ∀ x, (Value.ownBlock v_c2) = some x → sb vr (u8 (m / 256) :: u8 m :: (List.replicate m 0 ++ [])) ≠ some x := dj_sb (dj_symm (own_dj (O := none) at_rv (fun x h => by cases h) (Own.lt ow_c2)))
  have nq_t16_rd : p16_1 ≠ pr := Nat.ne_of_lt (Nat.lt_of_lt_of_le (blk_lt k_t16) n_rd)
  have ne_k19_rd := ne_new (Own.lt ow_k19) n_rd
  have ne_b1_rd := ne_new (Own.lt ow_b1) n_rd
  have ne_c2_rd := ne_new (Own.lt ow_c2) n_rd
  have fb_rd : Fb pr w.heap.size [] := fb_new (Nat.le_trans sz n_rd)
  replace k_t16 := blk_off k_t16 hO nm0
  replace ow_k19 := Own.off ow_k19 hO f0
  replace ow_b1 := Own.off ow_b1 hO f0
  replace ow_c2 := Own.off ow_c2 hO f0
  replace off0 := off0.step hO i0
  replace sz := off0.size
  have k_rd := hrd.1
  have ow_rv := hrd.2.1
  have ne_rv_rd := hrd.2.2
  clear hrd hO hfb n_rd at_rv
  (refine wpL_val (v := ?_) (by rfl) ?_ ?_; rotate_left 1; (focus (go_simp; first | done | with_reducible rfl)))
  (try simp only [Act.put, List.setIfInBounds_toArray, List.set_cons_zero, List.set_cons_succ])
  refine wpL_nil ?_
  go_upto_region 9 with fail
  refine wp_region_lit ?_
  (refine wpL_val (v := ?_) (by rfl) ?_ ?_; rotate_left 1; (focus (go_simp; first | done | with_reducible rfl)))
  (try simp only [Act.put, List.setIfInBounds_toArray, List.set_cons_zero, List.set_cons_succ])
  (refine wpL_val (v := ?_) (by rfl) ?_ ?_; rotate_left 1; (focus (go_simp; first | done | with_reducible rfl)))
  (try simp only [Act.put, List.setIfInBounds_toArray, List.set_cons_zero, List.set_cons_succ])
  refine wpL_callv (v := .slice none 0 0) (R := fun W => Rdr W pr vr (u8 (m / 256) :: u8 m :: (List.replicate m 0 ++ [])) 5 ∧ Off [pr] W6 W) (rtext_big pr m vr (List.replicate m 0) [] (List.length_replicate) (by omega) _ (by omega) _ ⟨k_rd, ow_rv, ne_rv_rd⟩ (by first | omega | (simp; omega) | decide)) (by rfl) rfl (by kernel_rfl) rfl ?_
  (try simp only [Act.put, List.setIfInBounds_toArray, List.set_cons_zero, List.set_cons_succ])
  rintro W7 ⟨hrd, hO⟩
  replace k_t16 := blk_off k_t16 hO (nm1 nq_t16_rd)
  replace ow_k19 := Own.off ow_k19 hO (f1 ne_k19_rd)
  replace ow_b1 := Own.off ow_b1 hO (f1 ne_b1_rd)
  replace ow_c2 := Own.off ow_c2 hO (f1 ne_c2_rd)
  replace ow_rv := Sl.off ow_rv hO (f1 ne_rv_rd)
  replace off0 := off0.step hO (i1 fb_rd)
  replace sz := off0.size
  replace k_rd := hrd.1
  clear hO
  (refine wpL_val (v := ?_) (by rfl) ?_ ?_; rotate_left 1; (focus (go_simp; first | done | with_reducible rfl)))
  (try simp only [Act.put, List.setIfInBounds_toArray, List.set_cons_zero, List.set_cons_succ])
  refine wpL_nil ?_
  go_upto_region 10 with fail
  refine wp_region_lit ?_
  refine wpL_val (v := .int .i64 0) (by rfl) (by first | rfl | (go_simp; done) | (go_simp; with_reducible rfl) | (go_simp; omega)) ?_
  (try simp only [Act.put, List.setIfInBounds_toArray, List.set_cons_zero, List.set_cons_succ])
  refine wpL_val (v := .bool true) (by rfl) (by first | rfl | (go_simp; done) | (go_simp; with_reducible rfl) | (go_simp; omega)) ?_
  (try simp only [Act.put, List.setIfInBounds_toArray, List.set_cons_zero, List.set_cons_succ])
  refine wpL_val (v := .bool true) (by rfl) (by first | rfl | (go_simp; done) | (go_simp; with_reducible rfl) | (go_simp; omega)) ?_
  (try simp only [Act.put, List.setIfInBounds_toArray, List.set_cons_zero, List.set_cons_succ])
  (refine wpL_val (v := ?_) (by rfl) ?_ ?_; rotate_left 1; (focus (go_simp; first | done | with_reducible rfl)))
  (try simp only [Act.put, List.setIfInBounds_toArray, List.set_cons_zero, List.set_cons_succ])
  refine wpL_len (l := (u8 (m / 256) :: u8 m :: (List.replicate m 0 ++ []))) (Own.sl ow_c2) (by rfl) rfl rfl ?_
  (try simp only [Act.put, List.setIfInBounds_toArray, List.set_cons_zero, List.set_cons_succ])
  (refine wpL_val (v := ?_) (by rfl) ?_ ?_; rotate_left 1; (focus (go_simp; first | done | with_reducible rfl)))
  (try simp only [Act.put, List.setIfInBounds_toArray, List.set_cons_zero, List.set_cons_succ])
  refine wpL_val (v := .int .i64 ((m + 2 : Nat) : Int)) (by rfl) (by go_simp; (try simp only [hx2, hy2, IntKind.wrap_u64, IntKind.wrap_i64]); (try rw [Int.tmod_eq_emod_of_nonneg x0]); (try rw [Int.tmod_eq_emod_of_nonneg y0]); (try omega)) ?_
  (try simp only [Act.put, List.setIfInBounds_toArray, List.set_cons_zero, List.set_cons_succ])
  refine wpL_val (v := .bool true) (by rfl) (by go_simp; (try simp); (try omega)) ?_
  (try simp only [Act.put, List.setIfInBounds_toArray, List.set_cons_zero, List.set_cons_succ])
  refine wpL_val (v := .bool true) (by rfl) (by go_simp; (try simp); (try omega)) ?_
  (try simp only [Act.put, List.setIfInBounds_toArray, List.set_cons_zero, List.set_cons_succ])
  refine wpL_val (v := .bool true) (by rfl) (by go_simp; (try simp); (try omega)) ?_
  (try simp only [Act.put, List.setIfInBounds_toArray, List.set_cons_zero, List.set_cons_succ])
  (refine wpL_val (v := ?_) (by rfl) ?_ ?_; rotate_left 1; (focus (go_simp; first | done | with_reducible rfl)))
  (try simp only [Act.put, List.setIfInBounds_toArray, List.set_cons_zero, List.set_cons_succ])
  (refine wpL_val (v := ?_) (by rfl) ?_ ?_; rotate_left 1; (focus (go_simp; first | done | with_reducible rfl)))
  (try simp only [Act.put, List.setIfInBounds_toArray, List.set_cons_zero, List.set_cons_succ])
  refine wpL_val (v := .bool false) (by rfl) (by go_simp; (try simp); (try omega)) ?_
  (try simp only [Act.put, List.setIfInBounds_toArray, List.set_cons_zero, List.set_cons_succ])
  refine wpL_val (v := .bool false) (by rfl) (by go_simp; (try simp); (try omega)) ?_
  (try simp only [Act.put, List.setIfInBounds_toArray, List.set_cons_zero, List.set_cons_succ])
  refine wpL_skip (by rfl) ?_
  (try simp only [Act.put, List.setIfInBounds_toArray, List.set_cons_zero, List.set_cons_succ])
  refine wpL_skip (by rfl) ?_
  (try simp only [Act.put, List.setIfInBounds_toArray, List.set_cons_zero, List.set_cons_succ])
  refine wpL_skip (by rfl) ?_
  (try simp only [Act.put, List.setIfInBounds_toArray, List.set_cons_zero, List.set_cons_succ])
  refine wpL_skip (by rfl) ?_
  (try simp only [Act.put, List.setIfInBounds_toArray, List.set_cons_zero, List.set_cons_succ])
  refine wpL_val (v := .bool false) (by rfl) (by first | rfl | (go_simp; done) | (go_simp; with_reducible rfl) | (go_simp; omega)) ?_
  (try simp only [Act.put, List.setIfInBounds_toArray, List.set_cons_zero, List.set_cons_succ])
  refine wpL_val (v := .bool false) (by rfl) (by first | rfl | (go_simp; done) | (go_simp; with_reducible rfl) | (go_simp; omega)) ?_
  (try simp only [Act.put, List.setIfInBounds_toArray, List.set_cons_zero, List.set_cons_succ])
  refine wpL_skip (by rfl) ?_
  (try simp only [Act.put, List.setIfInBounds_toArray, List.set_cons_zero, List.set_cons_succ])
  refine wpL_skip (by rfl) ?_
  (try simp only [Act.put, List.setIfInBounds_toArray, List.set_cons_zero, List.set_cons_succ])
  refine wpL_skip (by rfl) ?_
  (try simp only [Act.put, List.setIfInBounds_toArray, List.set_cons_zero, List.set_cons_succ])
  refine wpL_val (v := .bool false) (by rfl) (by first | rfl | (go_simp; done) | (go_simp; with_reducible rfl) | (go_simp; omega)) ?_
  (try simp only [Act.put, List.setIfInBounds_toArray, List.set_cons_zero, List.set_cons_succ])
  refine wpL_val (v := .bool false) (by rfl) (by first | rfl | (go_simp; done) | (go_simp; with_reducible rfl) | (go_simp; omega)) ?_
  (try simp only [Act.put, List.setIfInBounds_toArray, List.set_cons_zero, List.set_cons_succ])
  (refine wpL_val (v := ?_) (by rfl) ?_ ?_; rotate_left 1; (focus (go_simp; first | done | with_reducible rfl)))
  (try simp only [Act.put, List.setIfInBounds_toArray, List.set_cons_zero, List.set_cons_succ])
  (refine wpL_val (v := ?_) (by rfl) ?_ ?_; rotate_left 1; (focus (go_simp; first | done | with_reducible rfl)))
  (try simp only [Act.put, List.setIfInBounds_toArray, List.set_cons_zero, List.set_cons_succ])
  refine wpL_val (v := .bool true) (by rfl) (by go_simp; (try simp); (try omega)) ?_
  (try simp only [Act.put, List.setIfInBounds_toArray, List.set_cons_zero, List.set_cons_succ])
  refine wpL_val (v := .bool true) (by rfl) (by go_simp; (try simp); (try omega)) ?_
  (try simp only [Act.put, List.setIfInBounds_toArray, List.set_cons_zero, List.set_cons_succ])
  (refine wpL_val (v := ?_) (by rfl) ?_ ?_; rotate_left 1; (focus (go_simp; first | done | with_reducible rfl)))
  (try simp only [Act.put, List.setIfInBounds_toArray, List.set_cons_zero, List.set_cons_succ])
  refine wpL_val (v := .int .i64 0) (by rfl) (by first | rfl | (go_simp; done) | (go_simp; with_reducible rfl) | (go_simp; omega)) ?_
  (try simp only [Act.put, List.setIfInBounds_toArray, List.set_cons_zero, List.set_cons_succ])
  refine wpL_val (v := .bool true) (by rfl) (by first | rfl | (go_simp; done) | (go_simp; with_reducible rfl) | (go_simp; omega)) ?_
  (try simp only [Act.put, List.setIfInBounds_toArray, List.set_cons_zero, List.set_cons_succ])
  refine wpL_val (v := .bool true) (by rfl) (by first | rfl | (go_simp; done) | (go_simp; with_reducible rfl) | (go_simp; omega)) ?_
  (try simp only [Act.put, List.setIfInBounds_toArray, List.set_cons_zero, List.set_cons_succ])
  refine wpL_val (v := .bool true) (by rfl) (by first | rfl | (go_simp; done) | (go_simp; with_reducible rfl) | (go_simp; omega)) ?_
  (try simp only [Act.put, List.setIfInBounds_toArray, List.set_cons_zero, List.set_cons_succ])
  (refine wpL_val (v := ?_) (by rfl) ?_ ?_; rotate_left 1; (focus (go_simp; first | done | with_reducible rfl)))
  (try simp only [Act.put, List.setIfInBounds_toArray, List.set_cons_zero, List.set_cons_succ])
  refine wpL_ret (rend_err pr vr _ W7 ⟨k_rd, ow_rv, ne_rv_rd⟩) (by rfl) rfl (by kernel_rfl) rfl ?_
  (try simp only [Act.put, List.setIfInBounds_toArray, List.set_cons_zero, List.set_cons_succ])
  intro W8 hO
  replace k_t16 := blk_off k_t16 hO nm0
  replace k_rd := blk_off k_rd hO nm0
  replace ow_k19 := Own.off ow_k19 hO f0
  replace ow_b1 := Own.off ow_b1 hO f0
  replace ow_c2 := Own.off ow_c2 hO f0
  replace ow_rv := Sl.off ow_rv hO f0
  replace off0 := off0.step hO i0
  replace sz := off0.size
  clear hO
  refine wpL_val (v := .bool true) (by rfl) (by first | rfl | (go_simp; done) | (go_simp; with_reducible rfl) | (go_simp; omega)) ?_
  (try simp only [Act.put, List.setIfInBounds_toArray, List.set_cons_zero, List.set_cons_succ])
  refine wpL_val (v := .bool true) (by rfl) (by first | rfl | (go_simp; done) | (go_simp; with_reducible rfl) | (go_simp; omega)) ?_
  (try simp only [Act.put, List.setIfInBounds_toArray, List.set_cons_zero, List.set_cons_succ])
  refine wpL_val (v := .bool true) (by rfl) (by first | rfl | (go_simp; done) | (go_simp; with_reducible rfl) | (go_simp; omega)) ?_
  (try simp only [Act.put, List.setIfInBounds_toArray, List.set_cons_zero, List.set_cons_succ])
  (refine wpL_val (v := ?_) (by rfl) ?_ ?_; rotate_left 1; (focus (go_simp; first | done | with_reducible rfl)))
  (try simp only [Act.put, List.setIfInBounds_toArray, List.set_cons_zero, List.set_cons_succ])
  refine wpL_ret (rleft_c pr vr _ _ W8 ⟨k_rd, ow_rv, ne_rv_rd⟩) (by rfl) rfl (by kernel_rfl) rfl ?_
  (try simp only [Act.put, List.setIfInBounds_toArray, List.set_cons_zero, List.set_cons_succ])
  intro W9 hO
  replace k_t16 := blk_off k_t16 hO nm0
  replace k_rd := blk_off k_rd hO nm0
  replace ow_k19 := Own.off ow_k19 hO f0
  replace ow_b1 := Own.off ow_b1 hO f0
  replace ow_c2 := Own.off ow_c2 hO f0
  replace ow_rv := Sl.off ow_rv hO f0
  replace off0 := off0.step hO i0
  replace sz := off0.size
  clear hO
  (refine wpL_val (v := ?_) (by rfl) ?_ ?_; rotate_left 1; (focus (go_simp; first | done | with_reducible rfl)))
  (try simp only [Act.put, List.setIfInBounds_toArray, List.set_cons_zero, List.set_cons_succ])
  refine wpL_val (v := .int .i64 ((m + 2 : Nat) : Int)) (by rfl) (by go_simp; (try simp only [hx2, hy2, IntKind.wrap_u64, IntKind.wrap_i64]); (try rw [Int.tmod_eq_emod_of_nonneg x0]); (try rw [Int.tmod_eq_emod_of_nonneg y0]); (try omega)) ?_
  (try simp only [Act.put, List.setIfInBounds_toArray, List.set_cons_zero, List.set_cons_succ])
  refine wpL_val (v := .bool true) (by rfl) (by go_simp; (try simp); (try omega)) ?_
  (try simp only [Act.put, List.setIfInBounds_toArray, List.set_cons_zero, List.set_cons_succ])
  refine wpL_val (v := .bool true) (by rfl) (by go_simp; (try simp); (try omega)) ?_
  (try simp only [Act.put, List.setIfInBounds_toArray, List.set_cons_zero, List.set_cons_succ])
  refine wpL_val (v := .bool true) (by rfl) (by go_simp; (try simp); (try omega)) ?_
  (try simp only [Act.put, List.setIfInBounds_toArray, List.set_cons_zero, List.set_cons_succ])
  refine wpL_val (v := .bool true) (by rfl) (by go_simp; (try simp); (try omega)) ?_
  (try simp only [Act.put, List.setIfInBounds_toArray, List.set_cons_zero, List.set_cons_succ])
  refine wpL_val (v := .bool true) (by rfl) (by go_simp; (try simp); (try omega)) ?_
  (try simp only [Act.put, List.setIfInBounds_toArray, List.set_cons_zero, List.set_cons_succ])
  refine wpL_nil ?_
  go_wp2
  exact bodyPost_ret (v := .bool true) (by simp only [results, Try.results4]; go_simp) rfl ⟨rfl, off0.ext⟩
theorem codecLong_c (n most : Int) (w : World) : Calls Try.prog 4 #[.int .i64 n, .int .i64 most] w fun e w' => Ret (.bool true) w w' e := by
  have hx : n % 18446744073709551616 = ((n % 18446744073709551616).toNat : Int) := by omega
  have hy : most % 18446744073709551616 = ((most % 18446744073709551616).toNat : Int) := by omega
  by_cases h : 65535 < 65530 + (n % 18446744073709551616).toNat % 10
  · exact codecLong_big n most _ _ _ hx hy rfl h w
  · by_cases hc : 2 ≤ (most % 18446744073709551616).toNat % 5
    · exact codecLong_ok n most _ _ _ hx hy rfl (by omega) hc w
    · exact codecLong_short n most _ _ _ hx hy rfl (by omega) (by omega) w
end Go.Proofs.Yteniajdmmffamaa
