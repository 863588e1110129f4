/- The document's sum. Conditions: the text is no longer than 2^46 bytes; the tables hold their numbers. -/
import Derived.Test.YtfkhogeaadldnaaDoorSn
namespace Go.Proofs.YtfkhogeaadldnaaDoor
set_option linter.unusedSimpArgs false
set_option linter.unusedVariables false
open Go.RowKit
attribute [local irreducible] wpList

set_option maxRecDepth 100000 in
set_option maxHeartbeats 1500000 in
theorem rsum_c (l : List UInt8) (hlen : l.length ≤ 70368744177664) (w : World) (hG : GR w) :
    Calls Tryd.prog 11 #[str l] w fun e w' => Ret (str (smb l)) w w' e := by
  have HG := Lib.hid hG
  clear hG
  have hpl := pad_length l
  have hzc := (zc_spec l.length).2
  have hnb : nb l.length ≤ 549755814000 := by unfold nb; omega
  have off0 : Off [] w w := Off.refl _ _
  have sz := off0.size
  go_enter Tryd.func11, Tryd.ntmps11
  go_upto_region 1 with fail
  refine wp_region_lit ?_
  (refine wpL_val (v := ?_) (by rfl) ?_ ?_; rotate_left 1; (focus (go_simp; first | done | with_reducible rfl)))
  (try simp only [Act.put, List.setIfInBounds_toArray, List.set_cons_zero, List.set_cons_succ])
  refine wpL_slen (l := l) (by rfl) rfl rfl ?_
  (try simp only [Act.put, List.setIfInBounds_toArray, List.set_cons_zero, List.set_cons_succ])
  (refine wpL_val (v := ?_) (by rfl) ?_ ?_; rotate_left 1; (focus (go_simp; first | done | with_reducible rfl)))
  (try simp only [Act.put, List.setIfInBounds_toArray, List.set_cons_zero, List.set_cons_succ])
  refine wpL_nil ?_
  go_upto_region 2 with fail
  refine wp_region_lit ?_
  (refine wpL_val (v := ?_) (by rfl) ?_ ?_; rotate_left 1; (focus (go_simp; first | done | with_reducible rfl)))
  (try simp only [Act.put, List.setIfInBounds_toArray, List.set_cons_zero, List.set_cons_succ])
  refine wpL_bytesz (l := l) (by first | omega | (simp only [List.length_append, List.length_cons, List.length_nil, List.length_replicate, wb_length]; omega)) (by rfl) rfl rfl ?_
  (try simp only [Act.put, List.setIfInBounds_toArray, List.set_cons_zero, List.set_cons_succ])
  intro v24_1 W1 at_q24 hO ow_q24
  have fr_q24 : Fr (Value.ownBlock v24_1) w.heap.size [] := own_fr at_q24 fr_none sz
  replace off0 := off0.step hO i0
  replace sz := off0.size
  clear hO at_q24
  refine wpL_newS (z := #[.int .u8 128]) (t := 5) (n := 1) (c := 1) (by rfl) (by first | kernel_rfl | (go_simp; done) | (go_simp; rfl)) ?_
  (try simp only [Act.put, List.setIfInBounds_toArray, List.set_cons_zero, List.set_cons_succ])
  intro p25_2 W2 n_s25 hO h_
  have dj_q24_s25 : ∀ x, (Value.ownBlock v24_1) = some x → Value.ownBlock (.slice (some ⟨p25_2, 0, none⟩) 1 1) ≠ some x := dj_new (Owz.lt ow_q24) n_s25
  have fr_s25 : Fr (Value.ownBlock (.slice (some ⟨p25_2, 0, none⟩) 1 1)) w.heap.size [] := fr_new (Nat.le_trans sz n_s25)
  replace ow_q24 := Owz.off ow_q24 hO f0
  replace off0 := off0.step hO i0
  replace sz := off0.size
  have ow_s25 : Own W2 (.slice (some ⟨p25_2, 0, none⟩) 1 1) [128] := own_blk h_ (by rfl) (by show 1 ≤ maxLen; decide)
  clear hO h_ n_s25
  refine wpL_appendz (xs := l) (ys := [128]) (by rfl) rfl rfl rfl ow_q24 (ow_s25.sl) (by first | omega | (simp only [List.length_append, List.length_cons, List.length_nil, List.length_replicate, wb_length]; omega)) ?_
  (try simp only [Act.put, List.setIfInBounds_toArray, List.set_cons_zero, List.set_cons_succ])
  intro v26_3 W3 ow_a26 hO at_a26
  have dj_a26_s25 := own_dj at_a26 dj_q24_s25 (Own.lt ow_s25)
  have fr_a26 := own_fr at_a26 fr_q24 sz
  replace ow_s25 := Own.off ow_s25 hO (fo dj_q24_s25)
  replace off0 := off0.step hO (io fr_q24)
  replace sz := off0.size
  clear hO at_a26
  have ow_b := ow_a26
  clear ow_a26
  have fr_b := fr_a26
  have dj_b_s25 := dj_a26_s25
  (refine wpL_val (v := ?_) (by rfl) ?_ ?_; rotate_left 1; (focus (go_simp; first | done | with_reducible rfl)))
  (try simp only [Act.put, List.setIfInBounds_toArray, List.set_cons_zero, List.set_cons_succ])
  refine wpL_nil ?_
  clear ow_s25 fr_s25 dj_b_s25
  go_wp2_with fail
  go_loopw [4] (fun sv wr => ∃ (k : Nat) (bv : Value), (k ≤ zc l.length) ∧ (bv = sv) ∧ Off [] w wr ∧ Owz wr bv (l ++ [128] ++ List.replicate k 0) ∧ Fr (Value.ownBlock bv) w.heap.size [])
    (fun sv _ => l.length + 300 - slLen sv)
  case atStart => exact ⟨0, _, Nat.zero_le _, rfl, off0, (by rw [List.replicate_zero, List.append_nil]; exact ow_b), fr_b⟩
  case round =>
    obtain ⟨k, bv, hk, rfl, off0, ow_b, fr_b⟩ := hrel
    obtain ⟨W4, eW_⟩ := wname off0
    subst eW_
    have sz := off0.size
    have lb := sl_len ow_b.sl
    by_cases hz : k < zc l.length
    · have _f := hz
      have hz2 := zc_lt hz
      go_upto_region 3 with fail
      refine wp_region_lit ?_
      (refine wpL_val (v := ?_) (by rfl) ?_ ?_; rotate_left 1; (focus (go_simp; first | done | with_reducible rfl)))
      (try simp only [Act.put, List.setIfInBounds_toArray, List.set_cons_zero, List.set_cons_succ])
      refine wpL_len (l := (l ++ [128] ++ List.replicate k 0)) (ow_b.sl) (by rfl) rfl rfl ?_
      (try simp only [Act.put, List.setIfInBounds_toArray, List.set_cons_zero, List.set_cons_succ])
      refine wpL_val (v := .int .i64 (((l.length + 1 + k) % 128 : Nat) : Int)) (by rfl) (by go_simp; (try simp only [List.length_append, List.length_cons, List.length_nil, List.length_replicate]); rw [Int.tmod_eq_emod_of_nonneg (by omega)]; omega) ?_
      (try simp only [Act.put, List.setIfInBounds_toArray, List.set_cons_zero, List.set_cons_succ])
      refine wpL_val (v := .bool true) (by rfl) (by go_simp; omega) ?_
      (try simp only [Act.put, List.setIfInBounds_toArray, List.set_cons_zero, List.set_cons_succ])
      refine wpL_nil ?_
      go_upto_region 4 with fail
      refine wp_region_lit ?_
      (refine wpL_val (v := ?_) (by rfl) ?_ ?_; rotate_left 1; (focus (go_simp; first | done | with_reducible rfl)))
      (try simp only [Act.put, List.setIfInBounds_toArray, List.set_cons_zero, List.set_cons_succ])
      refine wpL_newS (z := #[.int .u8 0]) (t := 5) (n := 1) (c := 1) (by rfl) (by first | kernel_rfl | (go_simp; done) | (go_simp; rfl)) ?_
      (try simp only [Act.put, List.setIfInBounds_toArray, List.set_cons_zero, List.set_cons_succ])
      intro p32_5 W5 n_s32 hO h_
      have dj_b_s32 : ∀ x, (Value.ownBlock bv) = some x → Value.ownBlock (.slice (some ⟨p32_5, 0, none⟩) 1 1) ≠ some x := dj_new (Owz.lt ow_b) n_s32
      have fr_s32 : Fr (Value.ownBlock (.slice (some ⟨p32_5, 0, none⟩) 1 1)) w.heap.size [] := fr_new (Nat.le_trans sz n_s32)
      replace ow_b := Owz.off ow_b hO f0
      replace off0 := off0.step hO i0
      replace sz := off0.size
      have ow_s32 : Own W5 (.slice (some ⟨p32_5, 0, none⟩) 1 1) [0] := own_blk h_ (by rfl) (by show 1 ≤ maxLen; decide)
      clear hO h_ n_s32
      refine wpL_appendz (xs := (l ++ [128] ++ List.replicate k 0)) (ys := [0]) (by rfl) rfl rfl rfl ow_b (ow_s32.sl) (by first | omega | (simp only [List.length_append, List.length_cons, List.length_nil, List.length_replicate, wb_length]; omega)) ?_
      (try simp only [Act.put, List.setIfInBounds_toArray, List.set_cons_zero, List.set_cons_succ])
      intro v33_6 W6 ow_a33 hO at_a33
      have dj_a33_s32 := own_dj at_a33 dj_b_s32 (Own.lt ow_s32)
      have fr_a33 := own_fr at_a33 fr_b sz
      replace ow_s32 := Own.off ow_s32 hO (fo dj_b_s32)
      replace off0 := off0.step hO (io fr_b)
      replace sz := off0.size
      clear hO at_a33
      have ow_b := ow_a33
      clear ow_a33
      have fr_b := fr_a33
      have dj_b_s32 := dj_a33_s32
      (refine wpL_val (v := ?_) (by rfl) ?_ ?_; rotate_left 1; (focus (go_simp; first | done | with_reducible rfl)))
      (try simp only [Act.put, List.setIfInBounds_toArray, List.set_cons_zero, List.set_cons_succ])
      refine wpL_nil ?_
      have la := sl_len ow_b.sl
      simp only [List.length_append, List.length_cons, List.length_nil, List.length_replicate] at la lb
      go_wp2
      go_roundw
      case rel => exact ⟨k + 1, _, by omega, rfl, off0, (by rw [List.replicate_succ', ← List.append_assoc]; exact ow_b), fr_b⟩
      case measure => simp only [la, lb]; omega
    · have _f := hz
      obtain rfl : k = zc l.length := by omega
      have hz2 := (zc_spec l.length).1
      go_upto_region 3 with fail
      refine wp_region_lit ?_
      (refine wpL_val (v := ?_) (by rfl) ?_ ?_; rotate_left 1; (focus (go_simp; first | done | with_reducible rfl)))
      (try simp only [Act.put, List.setIfInBounds_toArray, List.set_cons_zero, List.set_cons_succ])
      refine wpL_len (l := (l ++ [128] ++ List.replicate (zc l.length) 0)) (ow_b.sl) (by rfl) rfl rfl ?_
      (try simp only [Act.put, List.setIfInBounds_toArray, List.set_cons_zero, List.set_cons_succ])
      refine wpL_val (v := .int .i64 (((l.length + 1 + zc l.length) % 128 : Nat) : Int)) (by rfl) (by go_simp; (try simp only [List.length_append, List.length_cons, List.length_nil, List.length_replicate]); rw [Int.tmod_eq_emod_of_nonneg (by omega)]; omega) ?_
      (try simp only [Act.put, List.setIfInBounds_toArray, List.set_cons_zero, List.set_cons_succ])
      refine wpL_val (v := .bool false) (by rfl) (by first | (go_simp; done) | (go_simp; omega)) ?_
      (try simp only [Act.put, List.setIfInBounds_toArray, List.set_cons_zero, List.set_cons_succ])
      refine wpL_nil ?_
      go_wp2_with fail
      refine wp_loop_rounds 17 ?_
      rw [rounds_succ]
      go_upto_region 9 with fail
      refine wp_region_lit ?_
      (refine wpL_val (v := ?_) (by rfl) ?_ ?_; rotate_left 1; (focus (go_simp; first | done | with_reducible rfl)))
      (try simp only [Act.put, List.setIfInBounds_toArray, List.set_cons_zero, List.set_cons_succ])
      refine wpL_newS (z := #[.int .u8 0]) (t := 5) (n := 1) (c := 1) (by rfl) (by first | kernel_rfl | (go_simp; done) | (go_simp; rfl)) ?_
      (try simp only [Act.put, List.setIfInBounds_toArray, List.set_cons_zero, List.set_cons_succ])
      intro p41_5 W5 n_s41 hO h_
      have dj_b_s41 : ∀ x, (Value.ownBlock bv) = some x → Value.ownBlock (.slice (some ⟨p41_5, 0, none⟩) 1 1) ≠ some x := dj_new (Owz.lt ow_b) n_s41
      have fr_s41 : Fr (Value.ownBlock (.slice (some ⟨p41_5, 0, none⟩) 1 1)) w.heap.size [] := fr_new (Nat.le_trans sz n_s41)
      replace ow_b := Owz.off ow_b hO f0
      replace off0 := off0.step hO i0
      replace sz := off0.size
      have ow_s41 : Own W5 (.slice (some ⟨p41_5, 0, none⟩) 1 1) [0] := own_blk h_ (by rfl) (by show 1 ≤ maxLen; decide)
      clear hO h_ n_s41
      refine wpL_appendz (xs := (l ++ [128] ++ List.replicate (zc l.length) 0)) (ys := [0]) (by rfl) rfl rfl rfl ow_b (ow_s41.sl) (by first | omega | (simp only [List.length_append, List.length_cons, List.length_nil, List.length_replicate, wb_length]; omega)) ?_
      (try simp only [Act.put, List.setIfInBounds_toArray, List.set_cons_zero, List.set_cons_succ])
      intro v42_6 W6 ow_a42 hO at_a42
      have dj_a42_s41 := own_dj at_a42 dj_b_s41 (Own.lt ow_s41)
      have fr_a42 := own_fr at_a42 fr_b sz
      replace ow_s41 := Own.off ow_s41 hO (fo dj_b_s41)
      replace off0 := off0.step hO (io fr_b)
      replace sz := off0.size
      clear hO at_a42
      have ow_b := ow_a42
      clear ow_a42
      have fr_b := fr_a42
      have dj_b_s41 := dj_a42_s41
      (refine wpL_val (v := ?_) (by rfl) ?_ ?_; rotate_left 1; (focus (go_simp; first | done | with_reducible rfl)))
      (try simp only [Act.put, List.setIfInBounds_toArray, List.set_cons_zero, List.set_cons_succ])
      refine wpL_nil ?_
      go_wp2_with fail
      rw [rounds_succ]
      go_upto_region 9 with fail
      refine wp_region_lit ?_
      (refine wpL_val (v := ?_) (by rfl) ?_ ?_; rotate_left 1; (focus (go_simp; first | done | with_reducible rfl)))
      (try simp only [Act.put, List.setIfInBounds_toArray, List.set_cons_zero, List.set_cons_succ])
      clear ow_s41 fr_s41 dj_b_s41
      refine wpL_newS (z := #[.int .u8 0]) (t := 5) (n := 1) (c := 1) (by rfl) (by first | kernel_rfl | (go_simp; done) | (go_simp; rfl)) ?_
      (try simp only [Act.put, List.setIfInBounds_toArray, List.set_cons_zero, List.set_cons_succ])
      intro p41_7 W7 n_s41 hO h_
      have dj_b_s41 : ∀ x, (Value.ownBlock v42_6) = some x → Value.ownBlock (.slice (some ⟨p41_7, 0, none⟩) 1 1) ≠ some x := dj_new (Owz.lt ow_b) n_s41
      have fr_s41 : Fr (Value.ownBlock (.slice (some ⟨p41_7, 0, none⟩) 1 1)) w.heap.size [] := fr_new (Nat.le_trans sz n_s41)
      replace ow_b := Owz.off ow_b hO f0
      replace off0 := off0.step hO i0
      replace sz := off0.size
      have ow_s41 : Own W7 (.slice (some ⟨p41_7, 0, none⟩) 1 1) [0] := own_blk h_ (by rfl) (by show 1 ≤ maxLen; decide)
      clear hO h_ n_s41
      refine wpL_appendz (xs := ((l ++ [128] ++ List.replicate (zc l.length) 0) ++ [0])) (ys := [0]) (by rfl) rfl rfl rfl ow_b (ow_s41.sl) (by first | omega | (simp only [List.length_append, List.length_cons, List.length_nil, List.length_replicate, wb_length]; omega)) ?_
      (try simp only [Act.put, List.setIfInBounds_toArray, List.set_cons_zero, List.set_cons_succ])
      intro v42_8 W8 ow_a42 hO at_a42
      have dj_a42_s41 := own_dj at_a42 dj_b_s41 (Own.lt ow_s41)
      have fr_a42 := own_fr at_a42 fr_b sz
      replace ow_s41 := Own.off ow_s41 hO (fo dj_b_s41)
      replace off0 := off0.step hO (io fr_b)
      replace sz := off0.size
      clear hO at_a42
      have ow_b := ow_a42
      clear ow_a42
      have fr_b := fr_a42
      have dj_b_s41 := dj_a42_s41
      (refine wpL_val (v := ?_) (by rfl) ?_ ?_; rotate_left 1; (focus (go_simp; first | done | with_reducible rfl)))
      (try simp only [Act.put, List.setIfInBounds_toArray, List.set_cons_zero, List.set_cons_succ])
      refine wpL_nil ?_
      go_wp2_with fail
      rw [rounds_succ]
      go_upto_region 9 with fail
      refine wp_region_lit ?_
      (refine wpL_val (v := ?_) (by rfl) ?_ ?_; rotate_left 1; (focus (go_simp; first | done | with_reducible rfl)))
      (try simp only [Act.put, List.setIfInBounds_toArray, List.set_cons_zero, List.set_cons_succ])
      clear ow_s41 fr_s41 dj_b_s41
      refine wpL_newS (z := #[.int .u8 0]) (t := 5) (n := 1) (c := 1) (by rfl) (by first | kernel_rfl | (go_simp; done) | (go_simp; rfl)) ?_
      (try simp only [Act.put, List.setIfInBounds_toArray, List.set_cons_zero, List.set_cons_succ])
      intro p41_9 W9 n_s41 hO h_
      have dj_b_s41 : ∀ x, (Value.ownBlock v42_8) = some x → Value.ownBlock (.slice (some ⟨p41_9, 0, none⟩) 1 1) ≠ some x := dj_new (Owz.lt ow_b) n_s41
      have fr_s41 : Fr (Value.ownBlock (.slice (some ⟨p41_9, 0, none⟩) 1 1)) w.heap.size [] := fr_new (Nat.le_trans sz n_s41)
      replace ow_b := Owz.off ow_b hO f0
      replace off0 := off0.step hO i0
      replace sz := off0.size
      have ow_s41 : Own W9 (.slice (some ⟨p41_9, 0, none⟩) 1 1) [0] := own_blk h_ (by rfl) (by show 1 ≤ maxLen; decide)
      clear hO h_ n_s41
      refine wpL_appendz (xs := (((l ++ [128] ++ List.replicate (zc l.length) 0) ++ [0]) ++ [0])) (ys := [0]) (by rfl) rfl rfl rfl ow_b (ow_s41.sl) (by first | omega | (simp only [List.length_append, List.length_cons, List.length_nil, List.length_replicate, wb_length]; omega)) ?_
      (try simp only [Act.put, List.setIfInBounds_toArray, List.set_cons_zero, List.set_cons_succ])
      intro v42_10 W10 ow_a42 hO at_a42
      have dj_a42_s41 := own_dj at_a42 dj_b_s41 (Own.lt ow_s41)
      have fr_a42 := own_fr at_a42 fr_b sz
      replace ow_s41 := Own.off ow_s41 hO (fo dj_b_s41)
      replace off0 := off0.step hO (io fr_b)
      replace sz := off0.size
      clear hO at_a42
      have ow_b := ow_a42
      clear ow_a42
      have fr_b := fr_a42
      have dj_b_s41 := dj_a42_s41
      (refine wpL_val (v := ?_) (by rfl) ?_ ?_; rotate_left 1; (focus (go_simp; first | done | with_reducible rfl)))
      (try simp only [Act.put, List.setIfInBounds_toArray, List.set_cons_zero, List.set_cons_succ])
      refine wpL_nil ?_
      go_wp2_with fail
      rw [rounds_succ]
      go_upto_region 9 with fail
      refine wp_region_lit ?_
      (refine wpL_val (v := ?_) (by rfl) ?_ ?_; rotate_left 1; (focus (go_simp; first | done | with_reducible rfl)))
      (try simp only [Act.put, List.setIfInBounds_toArray, List.set_cons_zero, List.set_cons_succ])
      clear ow_s41 fr_s41 dj_b_s41
      refine wpL_newS (z := #[.int .u8 0]) (t := 5) (n := 1) (c := 1) (by rfl) (by first | kernel_rfl | (go_simp; done) | (go_simp; rfl)) ?_
      (try simp only [Act.put, List.setIfInBounds_toArray, List.set_cons_zero, List.set_cons_succ])
      intro p41_11 W11 n_s41 hO h_
      have dj_b_s41 : ∀ x, (Value.ownBlock v42_10) = some x → Value.ownBlock (.slice (some ⟨p41_11, 0, none⟩) 1 1) ≠ some x := dj_new (Owz.lt ow_b) n_s41
      have fr_s41 : Fr (Value.ownBlock (.slice (some ⟨p41_11, 0, none⟩) 1 1)) w.heap.size [] := fr_new (Nat.le_trans sz n_s41)
      replace ow_b := Owz.off ow_b hO f0
      replace off0 := off0.step hO i0
      replace sz := off0.size
      have ow_s41 : Own W11 (.slice (some ⟨p41_11, 0, none⟩) 1 1) [0] := own_blk h_ (by rfl) (by show 1 ≤ maxLen; decide)
      clear hO h_ n_s41
      refine wpL_appendz (xs := ((((l ++ [128] ++ List.replicate (zc l.length) 0) ++ [0]) ++ [0]) ++ [0])) (ys := [0]) (by rfl) rfl rfl rfl ow_b (ow_s41.sl) (by first | omega | (simp only [List.length_append, List.length_cons, List.length_nil, List.length_replicate, wb_length]; omega)) ?_
      (try simp only [Act.put, List.setIfInBounds_toArray, List.set_cons_zero, List.set_cons_succ])
      intro v42_12 W12 ow_a42 hO at_a42
      have dj_a42_s41 := own_dj at_a42 dj_b_s41 (Own.lt ow_s41)
      have fr_a42 := own_fr at_a42 fr_b sz
      replace ow_s41 := Own.off ow_s41 hO (fo dj_b_s41)
      replace off0 := off0.step hO (io fr_b)
      replace sz := off0.size
      clear hO at_a42
      have ow_b := ow_a42
      clear ow_a42
      have fr_b := fr_a42
      have dj_b_s41 := dj_a42_s41
      (refine wpL_val (v := ?_) (by rfl) ?_ ?_; rotate_left 1; (focus (go_simp; first | done | with_reducible rfl)))
      (try simp only [Act.put, List.setIfInBounds_toArray, List.set_cons_zero, List.set_cons_succ])
      refine wpL_nil ?_
      go_wp2_with fail
      rw [rounds_succ]
      go_upto_region 9 with fail
      refine wp_region_lit ?_
      (refine wpL_val (v := ?_) (by rfl) ?_ ?_; rotate_left 1; (focus (go_simp; first | done | with_reducible rfl)))
      (try simp only [Act.put, List.setIfInBounds_toArray, List.set_cons_zero, List.set_cons_succ])
      clear ow_s41 fr_s41 dj_b_s41
      refine wpL_newS (z := #[.int .u8 0]) (t := 5) (n := 1) (c := 1) (by rfl) (by first | kernel_rfl | (go_simp; done) | (go_simp; rfl)) ?_
      (try simp only [Act.put, List.setIfInBounds_toArray, List.set_cons_zero, List.set_cons_succ])
      intro p41_13 W13 n_s41 hO h_
      have dj_b_s41 : ∀ x, (Value.ownBlock v42_12) = some x → Value.ownBlock (.slice (some ⟨p41_13, 0, none⟩) 1 1) ≠ some x := dj_new (Owz.lt ow_b) n_s41
      have fr_s41 : Fr (Value.ownBlock (.slice (some ⟨p41_13, 0, none⟩) 1 1)) w.heap.size [] := fr_new (Nat.le_trans sz n_s41)
      replace ow_b := Owz.off ow_b hO f0
      replace off0 := off0.step hO i0
      replace sz := off0.size
      have ow_s41 : Own W13 (.slice (some ⟨p41_13, 0, none⟩) 1 1) [0] := own_blk h_ (by rfl) (by show 1 ≤ maxLen; decide)
      clear hO h_ n_s41
      refine wpL_appendz (xs := (((((l ++ [128] ++ List.replicate (zc l.length) 0) ++ [0]) ++ [0]) ++ [0]) ++ [0])) (ys := [0]) (by rfl) rfl rfl rfl ow_b (ow_s41.sl) (by first | omega | (simp only [List.length_append, List.length_cons, List.length_nil, List.length_replicate, wb_length]; omega)) ?_
      (try simp only [Act.put, List.setIfInBounds_toArray, List.set_cons_zero, List.set_cons_succ])
      intro v42_14 W14 ow_a42 hO at_a42
      have dj_a42_s41 := own_dj at_a42 dj_b_s41 (Own.lt ow_s41)
      have fr_a42 := own_fr at_a42 fr_b sz
      replace ow_s41 := Own.off ow_s41 hO (fo dj_b_s41)
      replace off0 := off0.step hO (io fr_b)
      replace sz := off0.size
      clear hO at_a42
      have ow_b := ow_a42
      clear ow_a42
      have fr_b := fr_a42
      have dj_b_s41 := dj_a42_s41
      (refine wpL_val (v := ?_) (by rfl) ?_ ?_; rotate_left 1; (focus (go_simp; first | done | with_reducible rfl)))
      (try simp only [Act.put, List.setIfInBounds_toArray, List.set_cons_zero, List.set_cons_succ])
      refine wpL_nil ?_
      go_wp2_with fail
      rw [rounds_succ]
      go_upto_region 9 with fail
      refine wp_region_lit ?_
      (refine wpL_val (v := ?_) (by rfl) ?_ ?_; rotate_left 1; (focus (go_simp; first | done | with_reducible rfl)))
      (try simp only [Act.put, List.setIfInBounds_toArray, List.set_cons_zero, List.set_cons_succ])
      clear ow_s41 fr_s41 dj_b_s41
      refine wpL_newS (z := #[.int .u8 0]) (t := 5) (n := 1) (c := 1) (by rfl) (by first | kernel_rfl | (go_simp; done) | (go_simp; rfl)) ?_
      (try simp only [Act.put, List.setIfInBounds_toArray, List.set_cons_zero, List.set_cons_succ])
      intro p41_15 W15 n_s41 hO h_
      have dj_b_s41 : ∀ x, (Value.ownBlock v42_14) = some x → Value.ownBlock (.slice (some ⟨p41_15, 0, none⟩) 1 1) ≠ some x := dj_new (Owz.lt ow_b) n_s41
      have fr_s41 : Fr (Value.ownBlock (.slice (some ⟨p41_15, 0, none⟩) 1 1)) w.heap.size [] := fr_new (Nat.le_trans sz n_s41)
      replace ow_b := Owz.off ow_b hO f0
      replace off0 := off0.step hO i0
      replace sz := off0.size
      have ow_s41 : Own W15 (.slice (some ⟨p41_15, 0, none⟩) 1 1) [0] := own_blk h_ (by rfl) (by show 1 ≤ maxLen; decide)
      clear hO h_ n_s41
      refine wpL_appendz (xs := ((((((l ++ [128] ++ List.replicate (zc l.length) 0) ++ [0]) ++ [0]) ++ [0]) ++ [0]) ++ [0])) (ys := [0]) (by rfl) rfl rfl rfl ow_b (ow_s41.sl) (by first | omega | (simp only [List.length_append, List.length_cons, List.length_nil, List.length_replicate, wb_length]; omega)) ?_
      (try simp only [Act.put, List.setIfInBounds_toArray, List.set_cons_zero, List.set_cons_succ])
      intro v42_16 W16 ow_a42 hO at_a42
      have dj_a42_s41 := own_dj at_a42 dj_b_s41 (Own.lt ow_s41)
      have fr_a42 := own_fr at_a42 fr_b sz
      replace ow_s41 := Own.off ow_s41 hO (fo dj_b_s41)
      replace off0 := off0.step hO (io fr_b)
      replace sz := off0.size
      clear hO at_a42
      have ow_b := ow_a42
      clear ow_a42
      have fr_b := fr_a42
      have dj_b_s41 := dj_a42_s41
      (refine wpL_val (v := ?_) (by rfl) ?_ ?_; rotate_left 1; (focus (go_simp; first | done | with_reducible rfl)))
      (try simp only [Act.put, List.setIfInBounds_toArray, List.set_cons_zero, List.set_cons_succ])
      refine wpL_nil ?_
      go_wp2_with fail
      rw [rounds_succ]
      go_upto_region 9 with fail
      refine wp_region_lit ?_
      (refine wpL_val (v := ?_) (by rfl) ?_ ?_; rotate_left 1; (focus (go_simp; first | done | with_reducible rfl)))
      (try simp only [Act.put, List.setIfInBounds_toArray, List.set_cons_zero, List.set_cons_succ])
      clear ow_s41 fr_s41 dj_b_s41
      refine wpL_newS (z := #[.int .u8 0]) (t := 5) (n := 1) (c := 1) (by rfl) (by first | kernel_rfl | (go_simp; done) | (go_simp; rfl)) ?_
      (try simp only [Act.put, List.setIfInBounds_toArray, List.set_cons_zero, List.set_cons_succ])
      intro p41_17 W17 n_s41 hO h_
      have dj_b_s41 : ∀ x, (Value.ownBlock v42_16) = some x → Value.ownBlock (.slice (some ⟨p41_17, 0, none⟩) 1 1) ≠ some x := dj_new (Owz.lt ow_b) n_s41
      have fr_s41 : Fr (Value.ownBlock (.slice (some ⟨p41_17, 0, none⟩) 1 1)) w.heap.size [] := fr_new (Nat.le_trans sz n_s41)
      replace ow_b := Owz.off ow_b hO f0
      replace off0 := off0.step hO i0
      replace sz := off0.size
      have ow_s41 : Own W17 (.slice (some ⟨p41_17, 0, none⟩) 1 1) [0] := own_blk h_ (by rfl) (by show 1 ≤ maxLen; decide)
      clear hO h_ n_s41
      refine wpL_appendz (xs := (((((((l ++ [128] ++ List.replicate (zc l.length) 0) ++ [0]) ++ [0]) ++ [0]) ++ [0]) ++ [0]) ++ [0])) (ys := [0]) (by rfl) rfl rfl rfl ow_b (ow_s41.sl) (by first | omega | (simp only [List.length_append, List.length_cons, List.length_nil, List.length_replicate, wb_length]; omega)) ?_
      (try simp only [Act.put, List.setIfInBounds_toArray, List.set_cons_zero, List.set_cons_succ])
      intro v42_18 W18 ow_a42 hO at_a42
      have dj_a42_s41 := own_dj at_a42 dj_b_s41 (Own.lt ow_s41)
      have fr_a42 := own_fr at_a42 fr_b sz
      replace ow_s41 := Own.off ow_s41 hO (fo dj_b_s41)
      replace off0 := off0.step hO (io fr_b)
      replace sz := off0.size
      clear hO at_a42
      have ow_b := ow_a42
      clear ow_a42
      have fr_b := fr_a42
      have dj_b_s41 := dj_a42_s41
      (refine wpL_val (v := ?_) (by rfl) ?_ ?_; rotate_left 1; (focus (go_simp; first | done | with_reducible rfl)))
      (try simp only [Act.put, List.setIfInBounds_toArray, List.set_cons_zero, List.set_cons_succ])
      refine wpL_nil ?_
      go_wp2_with fail
      rw [rounds_succ]
      go_upto_region 9 with fail
      refine wp_region_lit ?_
      (refine wpL_val (v := ?_) (by rfl) ?_ ?_; rotate_left 1; (focus (go_simp; first | done | with_reducible rfl)))
      (try simp only [Act.put, List.setIfInBounds_toArray, List.set_cons_zero, List.set_cons_succ])
      clear ow_s41 fr_s41 dj_b_s41
      refine wpL_newS (z := #[.int .u8 0]) (t := 5) (n := 1) (c := 1) (by rfl) (by first | kernel_rfl | (go_simp; done) | (go_simp; rfl)) ?_
      (try simp only [Act.put, List.setIfInBounds_toArray, List.set_cons_zero, List.set_cons_succ])
      intro p41_19 W19 n_s41 hO h_
      have dj_b_s41 : ∀ x, (Value.ownBlock v42_18) = some x → Value.ownBlock (.slice (some ⟨p41_19, 0, none⟩) 1 1) ≠ some x := dj_new (Owz.lt ow_b) n_s41
      have fr_s41 : Fr (Value.ownBlock (.slice (some ⟨p41_19, 0, none⟩) 1 1)) w.heap.size [] := fr_new (Nat.le_trans sz n_s41)
      replace ow_b := Owz.off ow_b hO f0
      replace off0 := off0.step hO i0
      replace sz := off0.size
      have ow_s41 : Own W19 (.slice (some ⟨p41_19, 0, none⟩) 1 1) [0] := own_blk h_ (by rfl) (by show 1 ≤ maxLen; decide)
      clear hO h_ n_s41
      refine wpL_appendz (xs := ((((((((l ++ [128] ++ List.replicate (zc l.length) 0) ++ [0]) ++ [0]) ++ [0]) ++ [0]) ++ [0]) ++ [0]) ++ [0])) (ys := [0]) (by rfl) rfl rfl rfl ow_b (ow_s41.sl) (by first | omega | (simp only [List.length_append, List.length_cons, List.length_nil, List.length_replicate, wb_length]; omega)) ?_
      (try simp only [Act.put, List.setIfInBounds_toArray, List.set_cons_zero, List.set_cons_succ])
      intro v42_20 W20 ow_a42 hO at_a42
      have dj_a42_s41 := own_dj at_a42 dj_b_s41 (Own.lt ow_s41)
      have fr_a42 := own_fr at_a42 fr_b sz
      replace ow_s41 := Own.off ow_s41 hO (fo dj_b_s41)
      replace off0 := off0.step hO (io fr_b)
      replace sz := off0.size
      clear hO at_a42
      have ow_b := ow_a42
      clear ow_a42
      have fr_b := fr_a42
      have dj_b_s41 := dj_a42_s41
      (refine wpL_val (v := ?_) (by rfl) ?_ ?_; rotate_left 1; (focus (go_simp; first | done | with_reducible rfl)))
      (try simp only [Act.put, List.setIfInBounds_toArray, List.set_cons_zero, List.set_cons_succ])
      refine wpL_nil ?_
      go_wp2_with fail
      rw [rounds_succ]
      go_upto_region 10 with fail
      refine wp_region_lit ?_
      (refine wpL_val (v := ?_) (by rfl) ?_ ?_; rotate_left 1; (focus (go_simp; first | done | with_reducible rfl)))
      (try simp only [Act.put, List.setIfInBounds_toArray, List.set_cons_zero, List.set_cons_succ])
      (refine wpL_val (v := ?_) (by rfl) ?_ ?_; rotate_left 1; (focus (go_simp; first | done | with_reducible rfl)))
      (try simp only [Act.put, List.setIfInBounds_toArray, List.set_cons_zero, List.set_cons_succ])
      refine wpL_val (v := .int .i64 (((8 * l.length : Nat) : Int))) (by rfl) (by go_simp; (try simp only [IntKind.wrap_u64, IntKind.wrap_i64]); (try omega)) ?_
      (try simp only [Act.put, List.setIfInBounds_toArray, List.set_cons_zero, List.set_cons_succ])
      refine wpL_val (v := .int .i64 56) (by rfl) (by first | rfl | (go_simp; done) | (go_simp; with_reducible rfl) | (go_simp; omega)) ?_
      (try simp only [Act.put, List.setIfInBounds_toArray, List.set_cons_zero, List.set_cons_succ])
      refine wpL_val (v := .int .i64 (((8 * l.length / 72057594037927936 : Nat) : Int))) (by rfl) (by rw [← shr_nat (8 * l.length) 56 72057594037927936 (by decide)]; exact run_shr_i (n := 56) (by decide) rfl rfl rfl) ?_
      (try simp only [Act.put, List.setIfInBounds_toArray, List.set_cons_zero, List.set_cons_succ])
      refine wpL_val (v := .int .u8 ((u8 ((8 * l.length) / 72057594037927936)).toNat : Int)) (by rfl) (by rw [← w8_natd (8 * l.length) 72057594037927936]; exact run_c8i rfl rfl) ?_
      (try simp only [Act.put, List.setIfInBounds_toArray, List.set_cons_zero, List.set_cons_succ])
      refine wpL_newS (z := #[.int .u8 ((u8 ((8 * l.length) / 72057594037927936)).toNat : Int)]) (t := 5) (n := 1) (c := 1) (by rfl) (by first | kernel_rfl | (go_simp; done) | (go_simp; rfl)) ?_
      (try simp only [Act.put, List.setIfInBounds_toArray, List.set_cons_zero, List.set_cons_succ])
      intro p49_21 W21 n_s49 hO h_
      have dj_s41_s49 : ∀ x, (Value.ownBlock (.slice (some ⟨p41_19, 0, none⟩) 1 1)) = some x → Value.ownBlock (.slice (some ⟨p49_21, 0, none⟩) 1 1) ≠ some x := dj_new (Own.lt ow_s41) n_s49
      have dj_b_s49 : ∀ x, (Value.ownBlock v42_20) = some x → Value.ownBlock (.slice (some ⟨p49_21, 0, none⟩) 1 1) ≠ some x := dj_new (Owz.lt ow_b) n_s49
      have fr_s49 : Fr (Value.ownBlock (.slice (some ⟨p49_21, 0, none⟩) 1 1)) w.heap.size [] := fr_new (Nat.le_trans sz n_s49)
      replace ow_s41 := Own.off ow_s41 hO f0
      replace ow_b := Owz.off ow_b hO f0
      replace off0 := off0.step hO i0
      replace sz := off0.size
      have ow_s49 : Own W21 (.slice (some ⟨p49_21, 0, none⟩) 1 1) [u8 ((8 * l.length) / 72057594037927936)] := own_blk h_ (by rfl) (by show 1 ≤ maxLen; decide)
      clear hO h_ n_s49
      refine wpL_appendz (xs := (((((((((l ++ [128] ++ List.replicate (zc l.length) 0) ++ [0]) ++ [0]) ++ [0]) ++ [0]) ++ [0]) ++ [0]) ++ [0]) ++ [0])) (ys := [u8 ((8 * l.length) / 72057594037927936)]) (by rfl) rfl rfl rfl ow_b (ow_s49.sl) (by first | omega | (simp only [List.length_append, List.length_cons, List.length_nil, List.length_replicate, wb_length]; omega)) ?_
      (try simp only [Act.put, List.setIfInBounds_toArray, List.set_cons_zero, List.set_cons_succ])
      intro v50_22 W22 ow_a50 hO at_a50
      have dj_a50_s41 := own_dj at_a50 dj_b_s41 (Own.lt ow_s41)
      have dj_a50_s49 := own_dj at_a50 dj_b_s49 (Own.lt ow_s49)
      have fr_a50 := own_fr at_a50 fr_b sz
      replace ow_s41 := Own.off ow_s41 hO (fo dj_b_s41)
      replace ow_s49 := Own.off ow_s49 hO (fo dj_b_s49)
      replace off0 := off0.step hO (io fr_b)
      replace sz := off0.size
      clear hO at_a50
      have ow_b := ow_a50
      clear ow_a50
      have fr_b := fr_a50
      have dj_b_s41 := dj_a50_s41
      have dj_b_s49 := dj_a50_s49
      (refine wpL_val (v := ?_) (by rfl) ?_ ?_; rotate_left 1; (focus (go_simp; first | done | with_reducible rfl)))
      (try simp only [Act.put, List.setIfInBounds_toArray, List.set_cons_zero, List.set_cons_succ])
      refine wpL_nil ?_
      go_wp2_with fail
      rw [rounds_succ]
      go_upto_region 10 with fail
      refine wp_region_lit ?_
      (refine wpL_val (v := ?_) (by rfl) ?_ ?_; rotate_left 1; (focus (go_simp; first | done | with_reducible rfl)))
      (try simp only [Act.put, List.setIfInBounds_toArray, List.set_cons_zero, List.set_cons_succ])
      (refine wpL_val (v := ?_) (by rfl) ?_ ?_; rotate_left 1; (focus (go_simp; first | done | with_reducible rfl)))
      (try simp only [Act.put, List.setIfInBounds_toArray, List.set_cons_zero, List.set_cons_succ])
      refine wpL_val (v := .int .i64 (((8 * l.length : Nat) : Int))) (by rfl) (by go_simp; (try simp only [IntKind.wrap_u64, IntKind.wrap_i64]); (try omega)) ?_
      (try simp only [Act.put, List.setIfInBounds_toArray, List.set_cons_zero, List.set_cons_succ])
      refine wpL_val (v := .int .i64 48) (by rfl) (by first | rfl | (go_simp; done) | (go_simp; with_reducible rfl) | (go_simp; omega)) ?_
      (try simp only [Act.put, List.setIfInBounds_toArray, List.set_cons_zero, List.set_cons_succ])
      refine wpL_val (v := .int .i64 (((8 * l.length / 281474976710656 : Nat) : Int))) (by rfl) (by rw [← shr_nat (8 * l.length) 48 281474976710656 (by decide)]; exact run_shr_i (n := 48) (by decide) rfl rfl rfl) ?_
      (try simp only [Act.put, List.setIfInBounds_toArray, List.set_cons_zero, List.set_cons_succ])
      refine wpL_val (v := .int .u8 ((u8 ((8 * l.length) / 281474976710656)).toNat : Int)) (by rfl) (by rw [← w8_natd (8 * l.length) 281474976710656]; exact run_c8i rfl rfl) ?_
      (try simp only [Act.put, List.setIfInBounds_toArray, List.set_cons_zero, List.set_cons_succ])
      clear ow_s49 fr_s49 dj_s41_s49 dj_b_s49
      refine wpL_newS (z := #[.int .u8 ((u8 ((8 * l.length) / 281474976710656)).toNat : Int)]) (t := 5) (n := 1) (c := 1) (by rfl) (by first | kernel_rfl | (go_simp; done) | (go_simp; rfl)) ?_
      (try simp only [Act.put, List.setIfInBounds_toArray, List.set_cons_zero, List.set_cons_succ])
      intro p49_23 W23 n_s49 hO h_
      have dj_s41_s49 : ∀ x, (Value.ownBlock (.slice (some ⟨p41_19, 0, none⟩) 1 1)) = some x → Value.ownBlock (.slice (some ⟨p49_23, 0, none⟩) 1 1) ≠ some x := dj_new (Own.lt ow_s41) n_s49
      have dj_b_s49 : ∀ x, (Value.ownBlock v50_22) = some x → Value.ownBlock (.slice (some ⟨p49_23, 0, none⟩) 1 1) ≠ some x := dj_new (Owz.lt ow_b) n_s49
      have fr_s49 : Fr (Value.ownBlock (.slice (some ⟨p49_23, 0, none⟩) 1 1)) w.heap.size [] := fr_new (Nat.le_trans sz n_s49)
      replace ow_s41 := Own.off ow_s41 hO f0
      replace ow_b := Owz.off ow_b hO f0
      replace off0 := off0.step hO i0
      replace sz := off0.size
      have ow_s49 : Own W23 (.slice (some ⟨p49_23, 0, none⟩) 1 1) [u8 ((8 * l.length) / 281474976710656)] := own_blk h_ (by rfl) (by show 1 ≤ maxLen; decide)
      clear hO h_ n_s49
      refine wpL_appendz (xs := ((((((((((l ++ [128] ++ List.replicate (zc l.length) 0) ++ [0]) ++ [0]) ++ [0]) ++ [0]) ++ [0]) ++ [0]) ++ [0]) ++ [0]) ++ [u8 ((8 * l.length) / 72057594037927936)])) (ys := [u8 ((8 * l.length) / 281474976710656)]) (by rfl) rfl rfl rfl ow_b (ow_s49.sl) (by first | omega | (simp only [List.length_append, List.length_cons, List.length_nil, List.length_replicate, wb_length]; omega)) ?_
      (try simp only [Act.put, List.setIfInBounds_toArray, List.set_cons_zero, List.set_cons_succ])
      intro v50_24 W24 ow_a50 hO at_a50
      have dj_a50_s41 := own_dj at_a50 dj_b_s41 (Own.lt ow_s41)
      have dj_a50_s49 := own_dj at_a50 dj_b_s49 (Own.lt ow_s49)
      have fr_a50 := own_fr at_a50 fr_b sz
      replace ow_s41 := Own.off ow_s41 hO (fo dj_b_s41)
      replace ow_s49 := Own.off ow_s49 hO (fo dj_b_s49)
      replace off0 := off0.step hO (io fr_b)
      replace sz := off0.size
      clear hO at_a50
      have ow_b := ow_a50
      clear ow_a50
      have fr_b := fr_a50
      have dj_b_s41 := dj_a50_s41
      have dj_b_s49 := dj_a50_s49
      (refine wpL_val (v := ?_) (by rfl) ?_ ?_; rotate_left 1; (focus (go_simp; first | done | with_reducible rfl)))
      (try simp only [Act.put, List.setIfInBounds_toArray, List.set_cons_zero, List.set_cons_succ])
      refine wpL_nil ?_
      go_wp2_with fail
      rw [rounds_succ]
      go_upto_region 10 with fail
      refine wp_region_lit ?_
      (refine wpL_val (v := ?_) (by rfl) ?_ ?_; rotate_left 1; (focus (go_simp; first | done | with_reducible rfl)))
      (try simp only [Act.put, List.setIfInBounds_toArray, List.set_cons_zero, List.set_cons_succ])
      (refine wpL_val (v := ?_) (by rfl) ?_ ?_; rotate_left 1; (focus (go_simp; first | done | with_reducible rfl)))
      (try simp only [Act.put, List.setIfInBounds_toArray, List.set_cons_zero, List.set_cons_succ])
      refine wpL_val (v := .int .i64 (((8 * l.length : Nat) : Int))) (by rfl) (by go_simp; (try simp only [IntKind.wrap_u64, IntKind.wrap_i64]); (try omega)) ?_
      (try simp only [Act.put, List.setIfInBounds_toArray, List.set_cons_zero, List.set_cons_succ])
      refine wpL_val (v := .int .i64 40) (by rfl) (by first | rfl | (go_simp; done) | (go_simp; with_reducible rfl) | (go_simp; omega)) ?_
      (try simp only [Act.put, List.setIfInBounds_toArray, List.set_cons_zero, List.set_cons_succ])
      refine wpL_val (v := .int .i64 (((8 * l.length / 1099511627776 : Nat) : Int))) (by rfl) (by rw [← shr_nat (8 * l.length) 40 1099511627776 (by decide)]; exact run_shr_i (n := 40) (by decide) rfl rfl rfl) ?_
      (try simp only [Act.put, List.setIfInBounds_toArray, List.set_cons_zero, List.set_cons_succ])
      refine wpL_val (v := .int .u8 ((u8 ((8 * l.length) / 1099511627776)).toNat : Int)) (by rfl) (by rw [← w8_natd (8 * l.length) 1099511627776]; exact run_c8i rfl rfl) ?_
      (try simp only [Act.put, List.setIfInBounds_toArray, List.set_cons_zero, List.set_cons_succ])
      clear ow_s49 fr_s49 dj_s41_s49 dj_b_s49
      refine wpL_newS (z := #[.int .u8 ((u8 ((8 * l.length) / 1099511627776)).toNat : Int)]) (t := 5) (n := 1) (c := 1) (by rfl) (by first | kernel_rfl | (go_simp; done) | (go_simp; rfl)) ?_
      (try simp only [Act.put, List.setIfInBounds_toArray, List.set_cons_zero, List.set_cons_succ])
      intro p49_25 W25 n_s49 hO h_
      have dj_s41_s49 : ∀ x, (Value.ownBlock (.slice (some ⟨p41_19, 0, none⟩) 1 1)) = some x → Value.ownBlock (.slice (some ⟨p49_25, 0, none⟩) 1 1) ≠ some x := dj_new (Own.lt ow_s41) n_s49
      have dj_b_s49 : ∀ x, (Value.ownBlock v50_24) = some x → Value.ownBlock (.slice (some ⟨p49_25, 0, none⟩) 1 1) ≠ some x := dj_new (Owz.lt ow_b) n_s49
      have fr_s49 : Fr (Value.ownBlock (.slice (some ⟨p49_25, 0, none⟩) 1 1)) w.heap.size [] := fr_new (Nat.le_trans sz n_s49)
      replace ow_s41 := Own.off ow_s41 hO f0
      replace ow_b := Owz.off ow_b hO f0
      replace off0 := off0.step hO i0
      replace sz := off0.size
      have ow_s49 : Own W25 (.slice (some ⟨p49_25, 0, none⟩) 1 1) [u8 ((8 * l.length) / 1099511627776)] := own_blk h_ (by rfl) (by show 1 ≤ maxLen; decide)
      clear hO h_ n_s49
      refine wpL_appendz (xs := (((((((((((l ++ [128] ++ List.replicate (zc l.length) 0) ++ [0]) ++ [0]) ++ [0]) ++ [0]) ++ [0]) ++ [0]) ++ [0]) ++ [0]) ++ [u8 ((8 * l.length) / 72057594037927936)]) ++ [u8 ((8 * l.length) / 281474976710656)])) (ys := [u8 ((8 * l.length) / 1099511627776)]) (by rfl) rfl rfl rfl ow_b (ow_s49.sl) (by first | omega | (simp only [List.length_append, List.length_cons, List.length_nil, List.length_replicate, wb_length]; omega)) ?_
      (try simp only [Act.put, List.setIfInBounds_toArray, List.set_cons_zero, List.set_cons_succ])
      intro v50_26 W26 ow_a50 hO at_a50
      have dj_a50_s41 := own_dj at_a50 dj_b_s41 (Own.lt ow_s41)
      have dj_a50_s49 := own_dj at_a50 dj_b_s49 (Own.lt ow_s49)
      have fr_a50 := own_fr at_a50 fr_b sz
      replace ow_s41 := Own.off ow_s41 hO (fo dj_b_s41)
      replace ow_s49 := Own.off ow_s49 hO (fo dj_b_s49)
      replace off0 := off0.step hO (io fr_b)
      replace sz := off0.size
      clear hO at_a50
      have ow_b := ow_a50
      clear ow_a50
      have fr_b := fr_a50
      have dj_b_s41 := dj_a50_s41
      have dj_b_s49 := dj_a50_s49
      (refine wpL_val (v := ?_) (by rfl) ?_ ?_; rotate_left 1; (focus (go_simp; first | done | with_reducible rfl)))
      (try simp only [Act.put, List.setIfInBounds_toArray, List.set_cons_zero, List.set_cons_succ])
      refine wpL_nil ?_
      go_wp2_with fail
      rw [rounds_succ]
      go_upto_region 10 with fail
      refine wp_region_lit ?_
      (refine wpL_val (v := ?_) (by rfl) ?_ ?_; rotate_left 1; (focus (go_simp; first | done | with_reducible rfl)))
      (try simp only [Act.put, List.setIfInBounds_toArray, List.set_cons_zero, List.set_cons_succ])
      (refine wpL_val (v := ?_) (by rfl) ?_ ?_; rotate_left 1; (focus (go_simp; first | done | with_reducible rfl)))
      (try simp only [Act.put, List.setIfInBounds_toArray, List.set_cons_zero, List.set_cons_succ])
      refine wpL_val (v := .int .i64 (((8 * l.length : Nat) : Int))) (by rfl) (by go_simp; (try simp only [IntKind.wrap_u64, IntKind.wrap_i64]); (try omega)) ?_
      (try simp only [Act.put, List.setIfInBounds_toArray, List.set_cons_zero, List.set_cons_succ])
      refine wpL_val (v := .int .i64 32) (by rfl) (by first | rfl | (go_simp; done) | (go_simp; with_reducible rfl) | (go_simp; omega)) ?_
      (try simp only [Act.put, List.setIfInBounds_toArray, List.set_cons_zero, List.set_cons_succ])
      refine wpL_val (v := .int .i64 (((8 * l.length / 4294967296 : Nat) : Int))) (by rfl) (by rw [← shr_nat (8 * l.length) 32 4294967296 (by decide)]; exact run_shr_i (n := 32) (by decide) rfl rfl rfl) ?_
      (try simp only [Act.put, List.setIfInBounds_toArray, List.set_cons_zero, List.set_cons_succ])
      refine wpL_val (v := .int .u8 ((u8 ((8 * l.length) / 4294967296)).toNat : Int)) (by rfl) (by rw [← w8_natd (8 * l.length) 4294967296]; exact run_c8i rfl rfl) ?_
      (try simp only [Act.put, List.setIfInBounds_toArray, List.set_cons_zero, List.set_cons_succ])
      clear ow_s49 fr_s49 dj_s41_s49 dj_b_s49
      refine wpL_newS (z := #[.int .u8 ((u8 ((8 * l.length) / 4294967296)).toNat : Int)]) (t := 5) (n := 1) (c := 1) (by rfl) (by first | kernel_rfl | (go_simp; done) | (go_simp; rfl)) ?_
      (try simp only [Act.put, List.setIfInBounds_toArray, List.set_cons_zero, List.set_cons_succ])
      intro p49_27 W27 n_s49 hO h_
      have dj_s41_s49 : ∀ x, (Value.ownBlock (.slice (some ⟨p41_19, 0, none⟩) 1 1)) = some x → Value.ownBlock (.slice (some ⟨p49_27, 0, none⟩) 1 1) ≠ some x := dj_new (Own.lt ow_s41) n_s49
      have dj_b_s49 : ∀ x, (Value.ownBlock v50_26) = some x → Value.ownBlock (.slice (some ⟨p49_27, 0, none⟩) 1 1) ≠ some x := dj_new (Owz.lt ow_b) n_s49
      have fr_s49 : Fr (Value.ownBlock (.slice (some ⟨p49_27, 0, none⟩) 1 1)) w.heap.size [] := fr_new (Nat.le_trans sz n_s49)
      replace ow_s41 := Own.off ow_s41 hO f0
      replace ow_b := Owz.off ow_b hO f0
      replace off0 := off0.step hO i0
      replace sz := off0.size
      have ow_s49 : Own W27 (.slice (some ⟨p49_27, 0, none⟩) 1 1) [u8 ((8 * l.length) / 4294967296)] := own_blk h_ (by rfl) (by show 1 ≤ maxLen; decide)
      clear hO h_ n_s49
      refine wpL_appendz (xs := ((((((((((((l ++ [128] ++ List.replicate (zc l.length) 0) ++ [0]) ++ [0]) ++ [0]) ++ [0]) ++ [0]) ++ [0]) ++ [0]) ++ [0]) ++ [u8 ((8 * l.length) / 72057594037927936)]) ++ [u8 ((8 * l.length) / 281474976710656)]) ++ [u8 ((8 * l.length) / 1099511627776)])) (ys := [u8 ((8 * l.length) / 4294967296)]) (by rfl) rfl rfl rfl ow_b (ow_s49.sl) (by first | omega | (simp only [List.length_append, List.length_cons, List.length_nil, List.length_replicate, wb_length]; omega)) ?_
      (try simp only [Act.put, List.setIfInBounds_toArray, List.set_cons_zero, List.set_cons_succ])
      intro v50_28 W28 ow_a50 hO at_a50
      have dj_a50_s41 := own_dj at_a50 dj_b_s41 (Own.lt ow_s41)
      have dj_a50_s49 := own_dj at_a50 dj_b_s49 (Own.lt ow_s49)
      have fr_a50 := own_fr at_a50 fr_b sz
      replace ow_s41 := Own.off ow_s41 hO (fo dj_b_s41)
      replace ow_s49 := Own.off ow_s49 hO (fo dj_b_s49)
      replace off0 := off0.step hO (io fr_b)
      replace sz := off0.size
      clear hO at_a50
      have ow_b := ow_a50
      clear ow_a50
      have fr_b := fr_a50
      have dj_b_s41 := dj_a50_s41
      have dj_b_s49 := dj_a50_s49
      (refine wpL_val (v := ?_) (by rfl) ?_ ?_; rotate_left 1; (focus (go_simp; first | done | with_reducible rfl)))
      (try simp only [Act.put, List.setIfInBounds_toArray, List.set_cons_zero, List.set_cons_succ])
      refine wpL_nil ?_
      go_wp2_with fail
      rw [rounds_succ]
      go_upto_region 10 with fail
      refine wp_region_lit ?_
      (refine wpL_val (v := ?_) (by rfl) ?_ ?_; rotate_left 1; (focus (go_simp; first | done | with_reducible rfl)))
      (try simp only [Act.put, List.setIfInBounds_toArray, List.set_cons_zero, List.set_cons_succ])
      (refine wpL_val (v := ?_) (by rfl) ?_ ?_; rotate_left 1; (focus (go_simp; first | done | with_reducible rfl)))
      (try simp only [Act.put, List.setIfInBounds_toArray, List.set_cons_zero, List.set_cons_succ])
      refine wpL_val (v := .int .i64 (((8 * l.length : Nat) : Int))) (by rfl) (by go_simp; (try simp only [IntKind.wrap_u64, IntKind.wrap_i64]); (try omega)) ?_
      (try simp only [Act.put, List.setIfInBounds_toArray, List.set_cons_zero, List.set_cons_succ])
      refine wpL_val (v := .int .i64 24) (by rfl) (by first | rfl | (go_simp; done) | (go_simp; with_reducible rfl) | (go_simp; omega)) ?_
      (try simp only [Act.put, List.setIfInBounds_toArray, List.set_cons_zero, List.set_cons_succ])
      refine wpL_val (v := .int .i64 (((8 * l.length / 16777216 : Nat) : Int))) (by rfl) (by rw [← shr_nat (8 * l.length) 24 16777216 (by decide)]; exact run_shr_i (n := 24) (by decide) rfl rfl rfl) ?_
      (try simp only [Act.put, List.setIfInBounds_toArray, List.set_cons_zero, List.set_cons_succ])
      refine wpL_val (v := .int .u8 ((u8 ((8 * l.length) / 16777216)).toNat : Int)) (by rfl) (by rw [← w8_natd (8 * l.length) 16777216]; exact run_c8i rfl rfl) ?_
      (try simp only [Act.put, List.setIfInBounds_toArray, List.set_cons_zero, List.set_cons_succ])
      clear ow_s49 fr_s49 dj_s41_s49 dj_b_s49
      refine wpL_newS (z := #[.int .u8 ((u8 ((8 * l.length) / 16777216)).toNat : Int)]) (t := 5) (n := 1) (c := 1) (by rfl) (by first | kernel_rfl | (go_simp; done) | (go_simp; rfl)) ?_
      (try simp only [Act.put, List.setIfInBounds_toArray, List.set_cons_zero, List.set_cons_succ])
      intro p49_29 W29 n_s49 hO h_
      have dj_s41_s49 : ∀ x, (Value.ownBlock (.slice (some ⟨p41_19, 0, none⟩) 1 1)) = some x → Value.ownBlock (.slice (some ⟨p49_29, 0, none⟩) 1 1) ≠ some x := dj_new (Own.lt ow_s41) n_s49
      have dj_b_s49 : ∀ x, (Value.ownBlock v50_28) = some x → Value.ownBlock (.slice (some ⟨p49_29, 0, none⟩) 1 1) ≠ some x := dj_new (Owz.lt ow_b) n_s49
      have fr_s49 : Fr (Value.ownBlock (.slice (some ⟨p49_29, 0, none⟩) 1 1)) w.heap.size [] := fr_new (Nat.le_trans sz n_s49)
      replace ow_s41 := Own.off ow_s41 hO f0
      replace ow_b := Owz.off ow_b hO f0
      replace off0 := off0.step hO i0
      replace sz := off0.size
      have ow_s49 : Own W29 (.slice (some ⟨p49_29, 0, none⟩) 1 1) [u8 ((8 * l.length) / 16777216)] := own_blk h_ (by rfl) (by show 1 ≤ maxLen; decide)
      clear hO h_ n_s49
      refine wpL_appendz (xs := (((((((((((((l ++ [128] ++ List.replicate (zc l.length) 0) ++ [0]) ++ [0]) ++ [0]) ++ [0]) ++ [0]) ++ [0]) ++ [0]) ++ [0]) ++ [u8 ((8 * l.length) / 72057594037927936)]) ++ [u8 ((8 * l.length) / 281474976710656)]) ++ [u8 ((8 * l.length) / 1099511627776)]) ++ [u8 ((8 * l.length) / 4294967296)])) (ys := [u8 ((8 * l.length) / 16777216)]) (by rfl) rfl rfl rfl ow_b (ow_s49.sl) (by first | omega | (simp only [List.length_append, List.length_cons, List.length_nil, List.length_replicate, wb_length]; omega)) ?_
      (try simp only [Act.put, List.setIfInBounds_toArray, List.set_cons_zero, List.set_cons_succ])
      intro v50_30 W30 ow_a50 hO at_a50
      have dj_a50_s41 := own_dj at_a50 dj_b_s41 (Own.lt ow_s41)
      have dj_a50_s49 := own_dj at_a50 dj_b_s49 (Own.lt ow_s49)
      have fr_a50 := own_fr at_a50 fr_b sz
      replace ow_s41 := Own.off ow_s41 hO (fo dj_b_s41)
      replace ow_s49 := Own.off ow_s49 hO (fo dj_b_s49)
      replace off0 := off0.step hO (io fr_b)
      replace sz := off0.size
      clear hO at_a50
      have ow_b := ow_a50
      clear ow_a50
      have fr_b := fr_a50
      have dj_b_s41 := dj_a50_s41
      have dj_b_s49 := dj_a50_s49
      (refine wpL_val (v := ?_) (by rfl) ?_ ?_; rotate_left 1; (focus (go_simp; first | done | with_reducible rfl)))
      (try simp only [Act.put, List.setIfInBounds_toArray, List.set_cons_zero, List.set_cons_succ])
      refine wpL_nil ?_
      go_wp2_with fail
      rw [rounds_succ]
      go_upto_region 10 with fail
      refine wp_region_lit ?_
      (refine wpL_val (v := ?_) (by rfl) ?_ ?_; rotate_left 1; (focus (go_simp; first | done | with_reducible rfl)))
      (try simp only [Act.put, List.setIfInBounds_toArray, List.set_cons_zero, List.set_cons_succ])
      (refine wpL_val (v := ?_) (by rfl) ?_ ?_; rotate_left 1; (focus (go_simp; first | done | with_reducible rfl)))
      (try simp only [Act.put, List.setIfInBounds_toArray, List.set_cons_zero, List.set_cons_succ])
      refine wpL_val (v := .int .i64 (((8 * l.length : Nat) : Int))) (by rfl) (by go_simp; (try simp only [IntKind.wrap_u64, IntKind.wrap_i64]); (try omega)) ?_
      (try simp only [Act.put, List.setIfInBounds_toArray, List.set_cons_zero, List.set_cons_succ])
      refine wpL_val (v := .int .i64 16) (by rfl) (by first | rfl | (go_simp; done) | (go_simp; with_reducible rfl) | (go_simp; omega)) ?_
      (try simp only [Act.put, List.setIfInBounds_toArray, List.set_cons_zero, List.set_cons_succ])
      refine wpL_val (v := .int .i64 (((8 * l.length / 65536 : Nat) : Int))) (by rfl) (by rw [← shr_nat (8 * l.length) 16 65536 (by decide)]; exact run_shr_i (n := 16) (by decide) rfl rfl rfl) ?_
      (try simp only [Act.put, List.setIfInBounds_toArray, List.set_cons_zero, List.set_cons_succ])
      refine wpL_val (v := .int .u8 ((u8 ((8 * l.length) / 65536)).toNat : Int)) (by rfl) (by rw [← w8_natd (8 * l.length) 65536]; exact run_c8i rfl rfl) ?_
      (try simp only [Act.put, List.setIfInBounds_toArray, List.set_cons_zero, List.set_cons_succ])
      clear ow_s49 fr_s49 dj_s41_s49 dj_b_s49
      refine wpL_newS (z := #[.int .u8 ((u8 ((8 * l.length) / 65536)).toNat : Int)]) (t := 5) (n := 1) (c := 1) (by rfl) (by first | kernel_rfl | (go_simp; done) | (go_simp; rfl)) ?_
      (try simp only [Act.put, List.setIfInBounds_toArray, List.set_cons_zero, List.set_cons_succ])
      intro p49_31 W31 n_s49 hO h_
      have dj_s41_s49 : ∀ x, (Value.ownBlock (.slice (some ⟨p41_19, 0, none⟩) 1 1)) = some x → Value.ownBlock (.slice (some ⟨p49_31, 0, none⟩) 1 1) ≠ some x := dj_new (Own.lt ow_s41) n_s49
      have dj_b_s49 : ∀ x, (Value.ownBlock v50_30) = some x → Value.ownBlock (.slice (some ⟨p49_31, 0, none⟩) 1 1) ≠ some x := dj_new (Owz.lt ow_b) n_s49
      have fr_s49 : Fr (Value.ownBlock (.slice (some ⟨p49_31, 0, none⟩) 1 1)) w.heap.size [] := fr_new (Nat.le_trans sz n_s49)
      replace ow_s41 := Own.off ow_s41 hO f0
      replace ow_b := Owz.off ow_b hO f0
      replace off0 := off0.step hO i0
      replace sz := off0.size
      have ow_s49 : Own W31 (.slice (some ⟨p49_31, 0, none⟩) 1 1) [u8 ((8 * l.length) / 65536)] := own_blk h_ (by rfl) (by show 1 ≤ maxLen; decide)
      clear hO h_ n_s49
      refine wpL_appendz (xs := ((((((((((((((l ++ [128] ++ List.replicate (zc l.length) 0) ++ [0]) ++ [0]) ++ [0]) ++ [0]) ++ [0]) ++ [0]) ++ [0]) ++ [0]) ++ [u8 ((8 * l.length) / 72057594037927936)]) ++ [u8 ((8 * l.length) / 281474976710656)]) ++ [u8 ((8 * l.length) / 1099511627776)]) ++ [u8 ((8 * l.length) / 4294967296)]) ++ [u8 ((8 * l.length) / 16777216)])) (ys := [u8 ((8 * l.length) / 65536)]) (by rfl) rfl rfl rfl ow_b (ow_s49.sl) (by first | omega | (simp only [List.length_append, List.length_cons, List.length_nil, List.length_replicate, wb_length]; omega)) ?_
      (try simp only [Act.put, List.setIfInBounds_toArray, List.set_cons_zero, List.set_cons_succ])
      intro v50_32 W32 ow_a50 hO at_a50
      have dj_a50_s41 := own_dj at_a50 dj_b_s41 (Own.lt ow_s41)
      have dj_a50_s49 := own_dj at_a50 dj_b_s49 (Own.lt ow_s49)
      have fr_a50 := own_fr at_a50 fr_b sz
      replace ow_s41 := Own.off ow_s41 hO (fo dj_b_s41)
      replace ow_s49 := Own.off ow_s49 hO (fo dj_b_s49)
      replace off0 := off0.step hO (io fr_b)
      replace sz := off0.size
      clear hO at_a50
      have ow_b := ow_a50
      clear ow_a50
      have fr_b := fr_a50
      have dj_b_s41 := dj_a50_s41
      have dj_b_s49 := dj_a50_s49
      (refine wpL_val (v := ?_) (by rfl) ?_ ?_; rotate_left 1; (focus (go_simp; first | done | with_reducible rfl)))
      (try simp only [Act.put, List.setIfInBounds_toArray, List.set_cons_zero, List.set_cons_succ])
      refine wpL_nil ?_
      go_wp2_with fail
      rw [rounds_succ]
      go_upto_region 10 with fail
      refine wp_region_lit ?_
      (refine wpL_val (v := ?_) (by rfl) ?_ ?_; rotate_left 1; (focus (go_simp; first | done | with_reducible rfl)))
      (try simp only [Act.put, List.setIfInBounds_toArray, List.set_cons_zero, List.set_cons_succ])
      (refine wpL_val (v := ?_) (by rfl) ?_ ?_; rotate_left 1; (focus (go_simp; first | done | with_reducible rfl)))
      (try simp only [Act.put, List.setIfInBounds_toArray, List.set_cons_zero, List.set_cons_succ])
      refine wpL_val (v := .int .i64 (((8 * l.length : Nat) : Int))) (by rfl) (by go_simp; (try simp only [IntKind.wrap_u64, IntKind.wrap_i64]); (try omega)) ?_
      (try simp only [Act.put, List.setIfInBounds_toArray, List.set_cons_zero, List.set_cons_succ])
      refine wpL_val (v := .int .i64 8) (by rfl) (by first | rfl | (go_simp; done) | (go_simp; with_reducible rfl) | (go_simp; omega)) ?_
      (try simp only [Act.put, List.setIfInBounds_toArray, List.set_cons_zero, List.set_cons_succ])
      refine wpL_val (v := .int .i64 (((8 * l.length / 256 : Nat) : Int))) (by rfl) (by rw [← shr_nat (8 * l.length) 8 256 (by decide)]; exact run_shr_i (n := 8) (by decide) rfl rfl rfl) ?_
      (try simp only [Act.put, List.setIfInBounds_toArray, List.set_cons_zero, List.set_cons_succ])
      refine wpL_val (v := .int .u8 ((u8 ((8 * l.length) / 256)).toNat : Int)) (by rfl) (by rw [← w8_natd (8 * l.length) 256]; exact run_c8i rfl rfl) ?_
      (try simp only [Act.put, List.setIfInBounds_toArray, List.set_cons_zero, List.set_cons_succ])
      clear ow_s49 fr_s49 dj_s41_s49 dj_b_s49
      refine wpL_newS (z := #[.int .u8 ((u8 ((8 * l.length) / 256)).toNat : Int)]) (t := 5) (n := 1) (c := 1) (by rfl) (by first | kernel_rfl | (go_simp; done) | (go_simp; rfl)) ?_
      (try simp only [Act.put, List.setIfInBounds_toArray, List.set_cons_zero, List.set_cons_succ])
      intro p49_33 W33 n_s49 hO h_
      have dj_s41_s49 : ∀ x, (Value.ownBlock (.slice (some ⟨p41_19, 0, none⟩) 1 1)) = some x → Value.ownBlock (.slice (some ⟨p49_33, 0, none⟩) 1 1) ≠ some x := dj_new (Own.lt ow_s41) n_s49
      have dj_b_s49 : ∀ x, (Value.ownBlock v50_32) = some x → Value.ownBlock (.slice (some ⟨p49_33, 0, none⟩) 1 1) ≠ some x := dj_new (Owz.lt ow_b) n_s49
      have fr_s49 : Fr (Value.ownBlock (.slice (some ⟨p49_33, 0, none⟩) 1 1)) w.heap.size [] := fr_new (Nat.le_trans sz n_s49)
      replace ow_s41 := Own.off ow_s41 hO f0
      replace ow_b := Owz.off ow_b hO f0
      replace off0 := off0.step hO i0
      replace sz := off0.size
      have ow_s49 : Own W33 (.slice (some ⟨p49_33, 0, none⟩) 1 1) [u8 ((8 * l.length) / 256)] := own_blk h_ (by rfl) (by show 1 ≤ maxLen; decide)
      clear hO h_ n_s49
      refine wpL_appendz (xs := (((((((((((((((l ++ [128] ++ List.replicate (zc l.length) 0) ++ [0]) ++ [0]) ++ [0]) ++ [0]) ++ [0]) ++ [0]) ++ [0]) ++ [0]) ++ [u8 ((8 * l.length) / 72057594037927936)]) ++ [u8 ((8 * l.length) / 281474976710656)]) ++ [u8 ((8 * l.length) / 1099511627776)]) ++ [u8 ((8 * l.length) / 4294967296)]) ++ [u8 ((8 * l.length) / 16777216)]) ++ [u8 ((8 * l.length) / 65536)])) (ys := [u8 ((8 * l.length) / 256)]) (by rfl) rfl rfl rfl ow_b (ow_s49.sl) (by first | omega | (simp only [List.length_append, List.length_cons, List.length_nil, List.length_replicate, wb_length]; omega)) ?_
      (try simp only [Act.put, List.setIfInBounds_toArray, List.set_cons_zero, List.set_cons_succ])
      intro v50_34 W34 ow_a50 hO at_a50
      have dj_a50_s41 := own_dj at_a50 dj_b_s41 (Own.lt ow_s41)
      have dj_a50_s49 := own_dj at_a50 dj_b_s49 (Own.lt ow_s49)
      have fr_a50 := own_fr at_a50 fr_b sz
      replace ow_s41 := Own.off ow_s41 hO (fo dj_b_s41)
      replace ow_s49 := Own.off ow_s49 hO (fo dj_b_s49)
      replace off0 := off0.step hO (io fr_b)
      replace sz := off0.size
      clear hO at_a50
      have ow_b := ow_a50
      clear ow_a50
      have fr_b := fr_a50
      have dj_b_s41 := dj_a50_s41
      have dj_b_s49 := dj_a50_s49
      (refine wpL_val (v := ?_) (by rfl) ?_ ?_; rotate_left 1; (focus (go_simp; first | done | with_reducible rfl)))
      (try simp only [Act.put, List.setIfInBounds_toArray, List.set_cons_zero, List.set_cons_succ])
      refine wpL_nil ?_
      go_wp2_with fail
      rw [rounds_succ]
      go_upto_region 10 with fail
      refine wp_region_lit ?_
      (refine wpL_val (v := ?_) (by rfl) ?_ ?_; rotate_left 1; (focus (go_simp; first | done | with_reducible rfl)))
      (try simp only [Act.put, List.setIfInBounds_toArray, List.set_cons_zero, List.set_cons_succ])
      (refine wpL_val (v := ?_) (by rfl) ?_ ?_; rotate_left 1; (focus (go_simp; first | done | with_reducible rfl)))
      (try simp only [Act.put, List.setIfInBounds_toArray, List.set_cons_zero, List.set_cons_succ])
      refine wpL_val (v := .int .i64 (((8 * l.length : Nat) : Int))) (by rfl) (by go_simp; (try simp only [IntKind.wrap_u64, IntKind.wrap_i64]); (try omega)) ?_
      (try simp only [Act.put, List.setIfInBounds_toArray, List.set_cons_zero, List.set_cons_succ])
      refine wpL_val (v := .int .i64 0) (by rfl) (by first | rfl | (go_simp; done) | (go_simp; with_reducible rfl) | (go_simp; omega)) ?_
      (try simp only [Act.put, List.setIfInBounds_toArray, List.set_cons_zero, List.set_cons_succ])
      refine wpL_val (v := .int .i64 (((8 * l.length : Nat) : Int))) (by rfl) (by exact run_shr_i0 rfl rfl rfl) ?_
      (try simp only [Act.put, List.setIfInBounds_toArray, List.set_cons_zero, List.set_cons_succ])
      refine wpL_val (v := .int .u8 ((u8 (8 * l.length)).toNat : Int)) (by rfl) (by rw [← w8_natx (8 * l.length)]; exact run_c8i rfl rfl) ?_
      (try simp only [Act.put, List.setIfInBounds_toArray, List.set_cons_zero, List.set_cons_succ])
      clear ow_s49 fr_s49 dj_s41_s49 dj_b_s49
      refine wpL_newS (z := #[.int .u8 ((u8 (8 * l.length)).toNat : Int)]) (t := 5) (n := 1) (c := 1) (by rfl) (by first | kernel_rfl | (go_simp; done) | (go_simp; rfl)) ?_
      (try simp only [Act.put, List.setIfInBounds_toArray, List.set_cons_zero, List.set_cons_succ])
      intro p49_35 W35 n_s49 hO h_
      have dj_s41_s49 : ∀ x, (Value.ownBlock (.slice (some ⟨p41_19, 0, none⟩) 1 1)) = some x → Value.ownBlock (.slice (some ⟨p49_35, 0, none⟩) 1 1) ≠ some x := dj_new (Own.lt ow_s41) n_s49
      have dj_b_s49 : ∀ x, (Value.ownBlock v50_34) = some x → Value.ownBlock (.slice (some ⟨p49_35, 0, none⟩) 1 1) ≠ some x := dj_new (Owz.lt ow_b) n_s49
      have fr_s49 : Fr (Value.ownBlock (.slice (some ⟨p49_35, 0, none⟩) 1 1)) w.heap.size [] := fr_new (Nat.le_trans sz n_s49)
      replace ow_s41 := Own.off ow_s41 hO f0
      replace ow_b := Owz.off ow_b hO f0
      replace off0 := off0.step hO i0
      replace sz := off0.size
      have ow_s49 : Own W35 (.slice (some ⟨p49_35, 0, none⟩) 1 1) [u8 (8 * l.length)] := own_blk h_ (by rfl) (by show 1 ≤ maxLen; decide)
      clear hO h_ n_s49
      refine wpL_appendz (xs := ((((((((((((((((l ++ [128] ++ List.replicate (zc l.length) 0) ++ [0]) ++ [0]) ++ [0]) ++ [0]) ++ [0]) ++ [0]) ++ [0]) ++ [0]) ++ [u8 ((8 * l.length) / 72057594037927936)]) ++ [u8 ((8 * l.length) / 281474976710656)]) ++ [u8 ((8 * l.length) / 1099511627776)]) ++ [u8 ((8 * l.length) / 4294967296)]) ++ [u8 ((8 * l.length) / 16777216)]) ++ [u8 ((8 * l.length) / 65536)]) ++ [u8 ((8 * l.length) / 256)])) (ys := [u8 (8 * l.length)]) (by rfl) rfl rfl rfl ow_b (ow_s49.sl) (by first | omega | (simp only [List.length_append, List.length_cons, List.length_nil, List.length_replicate, wb_length]; omega)) ?_
      (try simp only [Act.put, List.setIfInBounds_toArray, List.set_cons_zero, List.set_cons_succ])
      intro v50_36 W36 ow_a50 hO at_a50
      have dj_a50_s41 := own_dj at_a50 dj_b_s41 (Own.lt ow_s41)
      have dj_a50_s49 := own_dj at_a50 dj_b_s49 (Own.lt ow_s49)
      have fr_a50 := own_fr at_a50 fr_b sz
      replace ow_s41 := Own.off ow_s41 hO (fo dj_b_s41)
      replace ow_s49 := Own.off ow_s49 hO (fo dj_b_s49)
      replace off0 := off0.step hO (io fr_b)
      replace sz := off0.size
      clear hO at_a50
      have ow_b := ow_a50
      clear ow_a50
      have fr_b := fr_a50
      have dj_b_s41 := dj_a50_s41
      have dj_b_s49 := dj_a50_s49
      (refine wpL_val (v := ?_) (by rfl) ?_ ?_; rotate_left 1; (focus (go_simp; first | done | with_reducible rfl)))
      (try simp only [Act.put, List.setIfInBounds_toArray, List.set_cons_zero, List.set_cons_succ])
      refine wpL_nil ?_
      go_wp2_with fail
      rw [rounds_succ]
      go_upto_region 11 with fail
      refine wp_region_lit ?_
      refine wpL_rd0 (by rfl) rfl rfl ((GR_ext HG.out off0.ext).2) (by kernel_rfl) (by rw [arrK_size]; kernel_rfl) ?_
      (try simp only [Act.put, List.setIfInBounds_toArray, List.set_cons_zero, List.set_cons_succ])
      refine wpL_new (z := arrK .u64 8 (fun _ => 0)) (t := 36) (by rfl) (by first | kernel_rfl | (go_simp; done) | (go_simp; rfl)) ?_
      (try simp only [Act.put, List.setIfInBounds_toArray, List.set_cons_zero, List.set_cons_succ])
      intro p6_37 W37 n_t6 hO h_
      have ne_s41_t6 := ne_new (Own.lt ow_s41) n_t6
      have ne_s49_t6 := ne_new (Own.lt ow_s49) n_t6
      have ne_b_t6 := ne_new (Owz.lt ow_b) n_t6
      have fb_t6 : Fb p6_37 w.heap.size [] := fb_new (Nat.le_trans sz n_t6)
      replace ow_s41 := Own.off ow_s41 hO f0
      replace ow_s49 := Own.off ow_s49 hO f0
      replace ow_b := Owz.off ow_b hO f0
      replace off0 := off0.step hO i0
      replace sz := off0.size
      have k_t6 := h_
      clear hO h_ n_t6
      refine wpL_putrow (cells := arrK .u64 8 hf) (by rfl) rfl rfl rfl k_t6 (by rw [arrK_size]; kernel_rfl) (by rw [arrK_size, arrK_size]) (by exact arrK_one _ _ _) ?_
      (try simp only [Act.put, List.setIfInBounds_toArray, List.set_cons_zero, List.set_cons_succ])
      intro W38 hO h_
      replace k_t6 : Blk W38 p6_37 (arrK .u64 8 hf) 36 := h_
      clear h_
      replace ow_s41 := Own.off ow_s41 hO (f1 ne_s41_t6)
      replace ow_s49 := Own.off ow_s49 hO (f1 ne_s49_t6)
      replace ow_b := Owz.off ow_b hO (f1 ne_b_t6)
      replace off0 := off0.step hO (i1 fb_t6)
      replace sz := off0.size
      clear hO
      refine wpL_nil ?_
      clear ow_s41 fr_s41 ne_s41_t6 dj_s41_s49 dj_b_s41
      clear ow_s49 fr_s49 ne_s49_t6 dj_b_s49
      rw [pad_app] at ow_b
      have ow_b : Owz W38 v50_36 (pad l) := ow_b
      go_wp2_with fail
      go_loopw [7] (fun ii wr => ∃ (j : Nat), (j ≤ nb l.length) ∧ (ii = .int .i64 ((128 * j : Nat) : Int)) ∧ Off [] w wr ∧ Blk wr p6_37 (arrK .u64 8 (Hs (pad l) j)) 36 ∧ Owz wr v50_36 (pad l))
        (fun ii _ => 128 * nb l.length - (intOf ii).toNat)
      case atStart => exact ⟨0, Nat.zero_le _, rfl, off0, k_t6, ow_b⟩
      case round =>
        obtain ⟨j, hj, rfl, off0, k_t6, ow_b⟩ := hrel
        obtain ⟨W39, eW_⟩ := wname off0
        subst eW_
        have sz := off0.size
        by_cases hjl : j < nb l.length
        · have _f := hjl
          go_upto_region 13 with fail
          refine wp_region_lit ?_
          (refine wpL_val (v := ?_) (by rfl) ?_ ?_; rotate_left 1; (focus (go_simp; first | done | with_reducible rfl)))
          (try simp only [Act.put, List.setIfInBounds_toArray, List.set_cons_zero, List.set_cons_succ])
          (refine wpL_val (v := ?_) (by rfl) ?_ ?_; rotate_left 1; (focus (go_simp; first | done | with_reducible rfl)))
          (try simp only [Act.put, List.setIfInBounds_toArray, List.set_cons_zero, List.set_cons_succ])
          refine wpL_len (l := (pad l)) (ow_b.sl) (by rfl) rfl rfl ?_
          (try simp only [Act.put, List.setIfInBounds_toArray, List.set_cons_zero, List.set_cons_succ])
          refine wpL_val (v := .bool true) (by rfl) (by first | (go_simp; done) | (go_simp; (try simp only [hpl]); omega)) ?_
          (try simp only [Act.put, List.setIfInBounds_toArray, List.set_cons_zero, List.set_cons_succ])
          refine wpL_nil ?_
          go_upto_region 15 with fail
          refine wp_region_lit ?_
          refine wpL_new (z := arrK .u64 80 (fun _ => 0)) (t := 38) (by rfl) (by first | kernel_rfl | (go_simp; done) | (go_simp; rfl)) ?_
          (try simp only [Act.put, List.setIfInBounds_toArray, List.set_cons_zero, List.set_cons_succ])
          intro p8_40 W40 n_t8 hO h_
          have nq_t6_t8 : p6_37 ≠ p8_40 := Nat.ne_of_lt (Nat.lt_of_lt_of_le (blk_lt k_t6) n_t8)
          have ne_b_t8 := ne_new (Owz.lt ow_b) n_t8
          have fb_t8 : Fb p8_40 w.heap.size [] := fb_new (Nat.le_trans sz n_t8)
          replace k_t6 := blk_off k_t6 hO nm0
          replace ow_b := Owz.off ow_b hO f0
          replace off0 := off0.step hO i0
          replace sz := off0.size
          have k_t8 := h_
          clear hO h_ n_t8
          refine wpL_nil ?_
          go_wp2_with fail
          go_loopw [9] (fun ii wr => ∃ (i : Nat), (i ≤ 80) ∧ (ii = .int .i64 (i : Int)) ∧ Off [] w wr ∧ Blk wr p6_37 (arrK .u64 8 (Hs (pad l) j)) 36 ∧ Blk wr p8_40 (arrK .u64 80 (rst (bt (List.drop (128 * j) (pad l))) i)) 38 ∧ Owz wr v50_36 (pad l))
            (fun ii _ => 80 - (intOf ii).toNat)
          case atStart => exact ⟨0, Nat.zero_le _, rfl, off0, k_t6, (by rw [rst_lo (by decide), Nat.mul_zero, fst_zero]; exact k_t8), ow_b⟩
          case round =>
            obtain ⟨i, hi, rfl, off0, k_t6, k_t8, ow_b⟩ := hrel
            obtain ⟨W41, eW_⟩ := wname off0
            subst eW_
            have sz := off0.size
            by_cases h80 : i < 80
            · have _f := h80
              go_upto_region 17 with fail
              refine wp_region_lit ?_
              (refine wpL_val (v := ?_) (by rfl) ?_ ?_; rotate_left 1; (focus (go_simp; first | done | with_reducible rfl)))
              (try simp only [Act.put, List.setIfInBounds_toArray, List.set_cons_zero, List.set_cons_succ])
              refine wpL_val (v := .bool true) (by rfl) (by first | rfl | (go_simp; done) | (go_simp; with_reducible rfl) | (go_simp; omega)) ?_
              (try simp only [Act.put, List.setIfInBounds_toArray, List.set_cons_zero, List.set_cons_succ])
              refine wpL_nil ?_
              by_cases h16 : i < 16
              · have _f := h16
                rw [rst_lo h16] at k_t8
                go_upto_region 19 with fail
                refine wp_region_lit ?_
                (refine wpL_val (v := ?_) (by rfl) ?_ ?_; rotate_left 1; (focus (go_simp; first | done | with_reducible rfl)))
                (try simp only [Act.put, List.setIfInBounds_toArray, List.set_cons_zero, List.set_cons_succ])
                refine wpL_val (v := .bool true) (by rfl) (by first | rfl | (go_simp; done) | (go_simp; with_reducible rfl) | (go_simp; omega)) ?_
                (try simp only [Act.put, List.setIfInBounds_toArray, List.set_cons_zero, List.set_cons_succ])
                refine wpL_nil ?_
                go_wp2_with fail
                go_loopw [10] (fun jj wr => ∃ (k : Nat), (k ≤ 8) ∧ (jj = .int .i64 (k : Int)) ∧ Off [] w wr ∧ Blk wr p6_37 (arrK .u64 8 (Hs (pad l) j)) 36 ∧ Blk wr p8_40 (arrK .u64 80 (fst (bt (List.drop (128 * j) (pad l))) (8 * i + k))) 38 ∧ Owz wr v50_36 (pad l))
                  (fun jj _ => 8 - (intOf jj).toNat)
                case atStart => exact ⟨0, Nat.zero_le _, rfl, off0, k_t6, k_t8, ow_b⟩
                case round =>
                  obtain ⟨k, hk, rfl, off0, k_t6, k_t8, ow_b⟩ := hrel
                  obtain ⟨W42, eW_⟩ := wname off0
                  subst eW_
                  have sz := off0.size
                  by_cases hk8 : k < 8
                  · have _f := hk8
                    obtain ⟨J, hJe⟩ : ∃ J, 128 * j + 8 * i + k = J := ⟨_, rfl⟩
                    have hJ : J < (pad l).length := by rw [hpl]; omega
                    obtain ⟨ad_, c_, hb_, hcell_⟩ := sl_form ow_b.sl (by omega)
                    have hcx_ := hcell_ _ _ (getD_some hJ)
                    clear hcell_
                    replace hb_ := Lib.hid hb_
                    go_upto_region 21 with fail
                    refine wp_region_lit ?_
                    (refine wpL_val (v := ?_) (by rfl) ?_ ?_; rotate_left 1; (focus (go_simp; first | done | with_reducible rfl)))
                    (try simp only [Act.put, List.setIfInBounds_toArray, List.set_cons_zero, List.set_cons_succ])
                    refine wpL_val (v := .bool true) (by rfl) (by first | rfl | (go_simp; done) | (go_simp; with_reducible rfl) | (go_simp; omega)) ?_
                    (try simp only [Act.put, List.setIfInBounds_toArray, List.set_cons_zero, List.set_cons_succ])
                    refine wpL_nil ?_
                    go_upto_region 23 with fail
                    refine wp_region_xn 17 [] (by kernel_rfl) (fun x hx => by cases hx) (by kernel_rfl) ?_
                    simp only [List.take_succ_cons, List.take_zero, List.take_nil]
                    (try simp only [Act.put, List.setIfInBounds_toArray, List.set_cons_zero, List.set_cons_succ])
                    (refine wpX_val (v := ?_) (by rfl) (fun W hW => ?_) ?_; rotate_left 1; (focus (go_simp; first | done | with_reducible rfl)); (try simp only [Act.put, List.setIfInBounds_toArray, List.set_cons_zero, List.set_cons_succ]))
                    (refine wpX_val (v := ?_) (by rfl) (fun W hW => ?_) ?_; rotate_left 1; (focus (go_simp; first | done | with_reducible rfl)); (try simp only [Act.put, List.setIfInBounds_toArray, List.set_cons_zero, List.set_cons_succ]))
                    refine wpX_val (v := .pointer (some ⟨p8_40, 0 + i, none⟩)) (by rfl) (fun _ _ => run_ixarr (m := 80) (by decide) (by omega) Tryd.underlying38 (by kernel_rfl) rfl rfl rfl) ?_
                    (try simp only [Act.put, List.setIfInBounds_toArray, List.set_cons_zero, List.set_cons_succ])
                    refine wpX_cell (v := .int .u64 ((fst (bt (List.drop (128 * j) (pad l))) (8 * i + k)) i)) (blk_rd k_t8) (by rw [Nat.zero_add]; exact arrK_get _ _ _ _ (by omega)) (by rfl) rfl rfl (by kernel_rfl) ?_
                    (try simp only [Act.put, List.setIfInBounds_toArray, List.set_cons_zero, List.set_cons_succ])
                    refine wpX_val (v := .int .u64 (sl ((fst (bt (List.drop (128 * j) (pad l))) (8 * i + k)) i) 8)) (by rfl) (fun _ _ => run_shl (n := 8) (by decide) rfl rfl rfl) ?_
                    (try simp only [Act.put, List.setIfInBounds_toArray, List.set_cons_zero, List.set_cons_succ])
                    (refine wpX_val (v := ?_) (by rfl) (fun W hW => ?_) ?_; rotate_left 1; (focus (go_simp; first | done | with_reducible rfl)); (try simp only [Act.put, List.setIfInBounds_toArray, List.set_cons_zero, List.set_cons_succ]))
                    (refine wpX_val (v := ?_) (by rfl) (fun W hW => ?_) ?_; rotate_left 1; (focus (go_simp; first | done | with_reducible rfl)); (try simp only [Act.put, List.setIfInBounds_toArray, List.set_cons_zero, List.set_cons_succ]))
                    (refine wpX_val (v := ?_) (by rfl) (fun W hW => ?_) ?_; rotate_left 1; (focus (go_simp; first | done | with_reducible rfl)); (try simp only [Act.put, List.setIfInBounds_toArray, List.set_cons_zero, List.set_cons_succ]))
                    refine wpX_val (v := .int .i64 (((8 * i : Nat) : Int))) (by rfl) (fun _ _ => by go_simp; (try simp only [IntKind.wrap_u64, IntKind.wrap_i64]); (try omega)) ?_
                    (try simp only [Act.put, List.setIfInBounds_toArray, List.set_cons_zero, List.set_cons_succ])
                    refine wpX_val (v := .int .i64 (((128 * j + 8 * i : Nat) : Int))) (by rfl) (fun _ _ => by go_simp; (try simp only [IntKind.wrap_u64, IntKind.wrap_i64]); (try omega)) ?_
                    (try simp only [Act.put, List.setIfInBounds_toArray, List.set_cons_zero, List.set_cons_succ])
                    (refine wpX_val (v := ?_) (by rfl) (fun W hW => ?_) ?_; rotate_left 1; (focus (go_simp; first | done | with_reducible rfl)); (try simp only [Act.put, List.setIfInBounds_toArray, List.set_cons_zero, List.set_cons_succ]))
                    refine wpX_val (v := .int .i64 (((J : Nat) : Int))) (by rfl) (fun _ _ => by go_simp; (try simp only [IntKind.wrap_u64, IntKind.wrap_i64]); (try omega)) ?_
                    (try simp only [Act.put, List.setIfInBounds_toArray, List.set_cons_zero, List.set_cons_succ])
                    (refine wpX_val (v := ?_) (by rfl) (fun W hW => ?_) ?_; rotate_left 1; (focus (refine run_ixa (j := J) (n := (pad l).length) (c := c_) (ad := ad_) (k := .i64) (x := .tmp 73) (y := .tmp 79) hJ ?_ ?_ ?_; (focus rfl); (focus exact hb_.out); (focus rfl))))
                    (try simp only [Act.put, List.setIfInBounds_toArray, List.set_cons_zero, List.set_cons_succ])
                    refine wpX_at (by rfl) rfl rfl (fun W hW => cell_ext hcx_ hW) (by kernel_rfl) ?_
                    (try simp only [Act.put, List.setIfInBounds_toArray, List.set_cons_zero, List.set_cons_succ])
                    refine wpX_val (v := .int .u64 (bt (pad l) J)) (by rfl) (fun _ _ => by exact run_cv rfl rfl) ?_
                    (try simp only [Act.put, List.setIfInBounds_toArray, List.set_cons_zero, List.set_cons_succ])
                    refine wpX_val (v := .int .u64 (oo (sl ((fst (bt (List.drop (128 * j) (pad l))) (8 * i + k)) i) 8) (bt (pad l) J))) (by rfl) (fun _ _ => run_or rfl rfl rfl) ?_
                    (try simp only [Act.put, List.setIfInBounds_toArray, List.set_cons_zero, List.set_cons_succ])
                    refine wpX_val (v := .pointer (some ⟨p8_40, 0 + i, none⟩)) (by rfl) (fun _ _ => run_ixarr (m := 80) (by decide) (by omega) Tryd.underlying38 (by kernel_rfl) rfl rfl rfl) ?_
                    (try simp only [Act.put, List.setIfInBounds_toArray, List.set_cons_zero, List.set_cons_succ])
                    refine wpX_nil ?_
                    intro β W43 hE hN hD
                    clear hN hD
                    simp only [putAll, Act.put, List.setIfInBounds_toArray, List.set_cons_zero, List.set_cons_succ, List.drop_succ_cons, List.drop_zero, List.drop_nil, List.length_nil, Nat.add_zero]
                    have hO := off_ext hE
                    replace k_t6 := blk_off k_t6 hO nm0
                    replace k_t8 := blk_off k_t8 hO nm0
                    replace ow_b := Owz.off ow_b hO f0
                    replace off0 := off0.step hO i0
                    replace sz := off0.size
                    clear hO hE β
                    refine wpL_put1 (v := .int .u64 (oo (sl ((fst (bt (List.drop (128 * j) (pad l))) (8 * i + k)) i) 8) (bt (pad l) J))) ⟨rfl, rfl⟩ (by rfl) rfl rfl rfl k_t8 (by rw [arrK_size, Nat.zero_add]; omega) (by kernel_rfl) ?_
                    (try simp only [Act.put, List.setIfInBounds_toArray, List.set_cons_zero, List.set_cons_succ])
                    intro W44 hO h_
                    rw [Nat.zero_add, arrK_set] at h_
                    replace k_t8 : Blk W44 p8_40 (arrK .u64 80 (upd (fst (bt (List.drop (128 * j) (pad l))) (8 * i + k)) i (oo (sl ((fst (bt (List.drop (128 * j) (pad l))) (8 * i + k)) i) 8) (bt (pad l) J)))) 38 := h_
                    clear h_
                    replace k_t6 := blk_off k_t6 hO (nm1 nq_t6_t8)
                    replace ow_b := Owz.off ow_b hO (f1 ne_b_t8)
                    replace off0 := off0.step hO (i1 fb_t8)
                    replace sz := off0.size
                    clear hO
                    refine wpL_nil ?_
                    first | with_reducible refine NoPanic.normal (Q := Exit.then _ _) ?_ | with_reducible refine NoPanic.normal ?_
                    go_wp2
                    go_roundw
                    case rel => exact ⟨k + 1, by omega, by go_num, off0, k_t6, (by rw [← fst_next _ _ _ _ h16 hk8, hJe]; exact k_t8), ow_b⟩
                    case measure => simp [intOf]; omega
                  · have _f := hk8
                    obtain rfl : k = 8 := by omega
                    go_upto_region 21 with fail
                    refine wp_region_lit ?_
                    (refine wpL_val (v := ?_) (by rfl) ?_ ?_; rotate_left 1; (focus (go_simp; first | done | with_reducible rfl)))
                    (try simp only [Act.put, List.setIfInBounds_toArray, List.set_cons_zero, List.set_cons_succ])
                    refine wpL_val (v := .bool false) (by rfl) (by first | rfl | (go_simp; done) | (go_simp; with_reducible rfl) | (go_simp; omega)) ?_
                    (try simp only [Act.put, List.setIfInBounds_toArray, List.set_cons_zero, List.set_cons_succ])
                    refine wpL_nil ?_
                    go_wp2
                    go_roundw
                    case rel => exact ⟨i + 1, by omega, by go_num, off0, k_t6, (by rw [← rst_next h16]; exact k_t8), ow_b⟩
                    case measure => simp [intOf]; omega
              · have _f := h16
                replace h16 : 16 ≤ i := by omega
                rw [rst_hi h16] at k_t8
                go_upto_region 19 with fail
                refine wp_region_lit ?_
                (refine wpL_val (v := ?_) (by rfl) ?_ ?_; rotate_left 1; (focus (go_simp; first | done | with_reducible rfl)))
                (try simp only [Act.put, List.setIfInBounds_toArray, List.set_cons_zero, List.set_cons_succ])
                refine wpL_val (v := .bool false) (by rfl) (by first | rfl | (go_simp; done) | (go_simp; with_reducible rfl) | (go_simp; omega)) ?_
                (try simp only [Act.put, List.setIfInBounds_toArray, List.set_cons_zero, List.set_cons_succ])
                refine wpL_nil ?_
                go_upto_region 24 with fail
                refine wp_region_xn 10 [] (by kernel_rfl) (fun x hx => by cases hx) (by kernel_rfl) ?_
                simp only [List.take_succ_cons, List.take_zero, List.take_nil]
                (try simp only [Act.put, List.setIfInBounds_toArray, List.set_cons_zero, List.set_cons_succ])
                (refine wpX_val (v := ?_) (by rfl) (fun W hW => ?_) ?_; rotate_left 1; (focus (go_simp; first | done | with_reducible rfl)); (try simp only [Act.put, List.setIfInBounds_toArray, List.set_cons_zero, List.set_cons_succ]))
                refine wpX_val (v := .int .i64 (((i - 15 : Nat) : Int))) (by rfl) (fun _ _ => by go_simp; (try simp only [IntKind.wrap_u64, IntKind.wrap_i64]); (try omega)) ?_
                (try simp only [Act.put, List.setIfInBounds_toArray, List.set_cons_zero, List.set_cons_succ])
                refine wpX_val (v := .pointer (some ⟨p8_40, 0 + (i - 15), none⟩)) (by rfl) (fun _ _ => run_ixarr (m := 80) (by decide) (by omega) Tryd.underlying38 (by kernel_rfl) rfl rfl rfl) ?_
                (try simp only [Act.put, List.setIfInBounds_toArray, List.set_cons_zero, List.set_cons_succ])
                refine wpX_cell (v := .int .u64 ((sch (bt (List.drop (128 * j) (pad l))) i) (i - 15))) (blk_rd k_t8) (by rw [Nat.zero_add]; exact arrK_get _ _ _ _ (by omega)) (by rfl) rfl rfl (by kernel_rfl) ?_
                (try simp only [Act.put, List.setIfInBounds_toArray, List.set_cons_zero, List.set_cons_succ])
                (refine wpX_val (v := ?_) (by rfl) (fun W hW => ?_) ?_; rotate_left 1; (focus (go_simp; first | done | with_reducible rfl)); (try simp only [Act.put, List.setIfInBounds_toArray, List.set_cons_zero, List.set_cons_succ]))
                refine wpX_val (v := .int .i64 (((i - 2 : Nat) : Int))) (by rfl) (fun _ _ => by go_simp; (try simp only [IntKind.wrap_u64, IntKind.wrap_i64]); (try omega)) ?_
                (try simp only [Act.put, List.setIfInBounds_toArray, List.set_cons_zero, List.set_cons_succ])
                refine wpX_val (v := .pointer (some ⟨p8_40, 0 + (i - 2), none⟩)) (by rfl) (fun _ _ => run_ixarr (m := 80) (by decide) (by omega) Tryd.underlying38 (by kernel_rfl) rfl rfl rfl) ?_
                (try simp only [Act.put, List.setIfInBounds_toArray, List.set_cons_zero, List.set_cons_succ])
                refine wpX_cell (v := .int .u64 ((sch (bt (List.drop (128 * j) (pad l))) i) (i - 2))) (blk_rd k_t8) (by rw [Nat.zero_add]; exact arrK_get _ _ _ _ (by omega)) (by rfl) rfl rfl (by kernel_rfl) ?_
                (try simp only [Act.put, List.setIfInBounds_toArray, List.set_cons_zero, List.set_cons_succ])
                (refine wpX_val (v := ?_) (by rfl) (fun W hW => ?_) ?_; rotate_left 1; (focus (go_simp; first | done | with_reducible rfl)); (try simp only [Act.put, List.setIfInBounds_toArray, List.set_cons_zero, List.set_cons_succ]))
                (refine wpX_val (v := ?_) (by rfl) (fun W hW => ?_) ?_; rotate_left 1; (focus (go_simp; first | done | with_reducible rfl)); (try simp only [Act.put, List.setIfInBounds_toArray, List.set_cons_zero, List.set_cons_succ]))
                refine wpX_nil ?_
                intro β W42 hE hN hD
                clear hN hD
                simp only [putAll, Act.put, List.setIfInBounds_toArray, List.set_cons_zero, List.set_cons_succ, List.drop_succ_cons, List.drop_zero, List.drop_nil, List.length_nil, Nat.add_zero]
                have hO := off_ext hE
                replace k_t6 := blk_off k_t6 hO nm0
                replace k_t8 := blk_off k_t8 hO nm0
                replace ow_b := Owz.off ow_b hO f0
                replace off0 := off0.step hO i0
                replace sz := off0.size
                clear hO hE β
                refine wpL_nil ?_
                first | with_reducible refine NoPanic.normal (Q := Exit.then _ _) ?_ | with_reducible refine NoPanic.normal ?_
                go_upto_region 25 with fail
                refine wp_region_xn 29 [] (by kernel_rfl) (fun x hx => by cases hx) (by kernel_rfl) ?_
                simp only [List.take_succ_cons, List.take_zero, List.take_nil]
                (try simp only [Act.put, List.setIfInBounds_toArray, List.set_cons_zero, List.set_cons_succ])
                (refine wpX_val (v := ?_) (by rfl) (fun W hW => ?_) ?_; rotate_left 1; (focus (go_simp; first | done | with_reducible rfl)); (try simp only [Act.put, List.setIfInBounds_toArray, List.set_cons_zero, List.set_cons_succ]))
                (refine wpX_val (v := ?_) (by rfl) (fun W hW => ?_) ?_; rotate_left 1; (focus (go_simp; first | done | with_reducible rfl)); (try simp only [Act.put, List.setIfInBounds_toArray, List.set_cons_zero, List.set_cons_succ]))
                refine wpX_val (v := .int .i64 (((i - 16 : Nat) : Int))) (by rfl) (fun _ _ => by go_simp; (try simp only [IntKind.wrap_u64, IntKind.wrap_i64]); (try omega)) ?_
                (try simp only [Act.put, List.setIfInBounds_toArray, List.set_cons_zero, List.set_cons_succ])
                refine wpX_val (v := .pointer (some ⟨p8_40, 0 + (i - 16), none⟩)) (by rfl) (fun _ _ => run_ixarr (m := 80) (by decide) (by omega) Tryd.underlying38 (by kernel_rfl) rfl rfl rfl) ?_
                (try simp only [Act.put, List.setIfInBounds_toArray, List.set_cons_zero, List.set_cons_succ])
                refine wpX_cell (v := .int .u64 ((sch (bt (List.drop (128 * j) (pad l))) i) (i - 16))) (blk_rd k_t8) (by rw [Nat.zero_add]; exact arrK_get _ _ _ _ (by omega)) (by rfl) rfl rfl (by kernel_rfl) ?_
                (try simp only [Act.put, List.setIfInBounds_toArray, List.set_cons_zero, List.set_cons_succ])
                (refine wpX_val (v := ?_) (by rfl) (fun W hW => ?_) ?_; rotate_left 1; (focus (go_simp; first | done | with_reducible rfl)); (try simp only [Act.put, List.setIfInBounds_toArray, List.set_cons_zero, List.set_cons_succ]))
                ((with_reducible refine wpX_fn (fun W hW => rturn_c ((sch (bt (List.drop (128 * j) (pad l))) i) (i - 15)) 1 (by decide) (by decide) W) ?_ rfl ?_ ?_ ?_); (focus rfl); (focus kernel_rfl); (focus rfl); (try simp only [Act.put, List.setIfInBounds_toArray, List.set_cons_zero, List.set_cons_succ]))
                (refine wpX_val (v := ?_) (by rfl) (fun W hW => ?_) ?_; rotate_left 1; (focus (go_simp; first | done | with_reducible rfl)); (try simp only [Act.put, List.setIfInBounds_toArray, List.set_cons_zero, List.set_cons_succ]))
                ((with_reducible refine wpX_fn (fun W hW => rturn_c ((sch (bt (List.drop (128 * j) (pad l))) i) (i - 15)) 8 (by decide) (by decide) W) ?_ rfl ?_ ?_ ?_); (focus rfl); (focus kernel_rfl); (focus rfl); (try simp only [Act.put, List.setIfInBounds_toArray, List.set_cons_zero, List.set_cons_succ]))
                refine wpX_val (v := .int .u64 (xo (rt ((sch (bt (List.drop (128 * j) (pad l))) i) (i - 15)) 1) (rt ((sch (bt (List.drop (128 * j) (pad l))) i) (i - 15)) 8))) (by rfl) (fun _ _ => run_xor rfl rfl rfl) ?_
                (try simp only [Act.put, List.setIfInBounds_toArray, List.set_cons_zero, List.set_cons_succ])
                (refine wpX_val (v := ?_) (by rfl) (fun W hW => ?_) ?_; rotate_left 1; (focus (go_simp; first | done | with_reducible rfl)); (try simp only [Act.put, List.setIfInBounds_toArray, List.set_cons_zero, List.set_cons_succ]))
                refine wpX_val (v := .int .u64 (sr ((sch (bt (List.drop (128 * j) (pad l))) i) (i - 15)) 7)) (by rfl) (fun _ _ => run_shr (n := 7) (by decide) rfl rfl rfl) ?_
                (try simp only [Act.put, List.setIfInBounds_toArray, List.set_cons_zero, List.set_cons_succ])
                refine wpX_val (v := .int .u64 (xo (xo (rt ((sch (bt (List.drop (128 * j) (pad l))) i) (i - 15)) 1) (rt ((sch (bt (List.drop (128 * j) (pad l))) i) (i - 15)) 8)) (sr ((sch (bt (List.drop (128 * j) (pad l))) i) (i - 15)) 7))) (by rfl) (fun _ _ => run_xor rfl rfl rfl) ?_
                (try simp only [Act.put, List.setIfInBounds_toArray, List.set_cons_zero, List.set_cons_succ])
                refine wpX_val (v := .int .u64 (ad ((sch (bt (List.drop (128 * j) (pad l))) i) (i - 16)) (xo (xo (rt ((sch (bt (List.drop (128 * j) (pad l))) i) (i - 15)) 1) (rt ((sch (bt (List.drop (128 * j) (pad l))) i) (i - 15)) 8)) (sr ((sch (bt (List.drop (128 * j) (pad l))) i) (i - 15)) 7)))) (by rfl) (fun _ _ => run_add rfl rfl rfl) ?_
                (try simp only [Act.put, List.setIfInBounds_toArray, List.set_cons_zero, List.set_cons_succ])
                (refine wpX_val (v := ?_) (by rfl) (fun W hW => ?_) ?_; rotate_left 1; (focus (go_simp; first | done | with_reducible rfl)); (try simp only [Act.put, List.setIfInBounds_toArray, List.set_cons_zero, List.set_cons_succ]))
                refine wpX_val (v := .int .i64 (((i - 7 : Nat) : Int))) (by rfl) (fun _ _ => by go_simp; (try simp only [IntKind.wrap_u64, IntKind.wrap_i64]); (try omega)) ?_
                (try simp only [Act.put, List.setIfInBounds_toArray, List.set_cons_zero, List.set_cons_succ])
                refine wpX_val (v := .pointer (some ⟨p8_40, 0 + (i - 7), none⟩)) (by rfl) (fun _ _ => run_ixarr (m := 80) (by decide) (by omega) Tryd.underlying38 (by kernel_rfl) rfl rfl rfl) ?_
                (try simp only [Act.put, List.setIfInBounds_toArray, List.set_cons_zero, List.set_cons_succ])
                refine wpX_cell (v := .int .u64 ((sch (bt (List.drop (128 * j) (pad l))) i) (i - 7))) (blk_rd k_t8) (by rw [Nat.zero_add]; exact arrK_get _ _ _ _ (by omega)) (by rfl) rfl rfl (by kernel_rfl) ?_
                (try simp only [Act.put, List.setIfInBounds_toArray, List.set_cons_zero, List.set_cons_succ])
                refine wpX_val (v := .int .u64 (ad (ad ((sch (bt (List.drop (128 * j) (pad l))) i) (i - 16)) (xo (xo (rt ((sch (bt (List.drop (128 * j) (pad l))) i) (i - 15)) 1) (rt ((sch (bt (List.drop (128 * j) (pad l))) i) (i - 15)) 8)) (sr ((sch (bt (List.drop (128 * j) (pad l))) i) (i - 15)) 7))) ((sch (bt (List.drop (128 * j) (pad l))) i) (i - 7)))) (by rfl) (fun _ _ => run_add rfl rfl rfl) ?_
                (try simp only [Act.put, List.setIfInBounds_toArray, List.set_cons_zero, List.set_cons_succ])
                (refine wpX_val (v := ?_) (by rfl) (fun W hW => ?_) ?_; rotate_left 1; (focus (go_simp; first | done | with_reducible rfl)); (try simp only [Act.put, List.setIfInBounds_toArray, List.set_cons_zero, List.set_cons_succ]))
                ((with_reducible refine wpX_fn (fun W hW => rturn_c ((sch (bt (List.drop (128 * j) (pad l))) i) (i - 2)) 19 (by decide) (by decide) W) ?_ rfl ?_ ?_ ?_); (focus rfl); (focus kernel_rfl); (focus rfl); (try simp only [Act.put, List.setIfInBounds_toArray, List.set_cons_zero, List.set_cons_succ]))
                (refine wpX_val (v := ?_) (by rfl) (fun W hW => ?_) ?_; rotate_left 1; (focus (go_simp; first | done | with_reducible rfl)); (try simp only [Act.put, List.setIfInBounds_toArray, List.set_cons_zero, List.set_cons_succ]))
                ((with_reducible refine wpX_fn (fun W hW => rturn_c ((sch (bt (List.drop (128 * j) (pad l))) i) (i - 2)) 61 (by decide) (by decide) W) ?_ rfl ?_ ?_ ?_); (focus rfl); (focus kernel_rfl); (focus rfl); (try simp only [Act.put, List.setIfInBounds_toArray, List.set_cons_zero, List.set_cons_succ]))
                refine wpX_val (v := .int .u64 (xo (rt ((sch (bt (List.drop (128 * j) (pad l))) i) (i - 2)) 19) (rt ((sch (bt (List.drop (128 * j) (pad l))) i) (i - 2)) 61))) (by rfl) (fun _ _ => run_xor rfl rfl rfl) ?_
                (try simp only [Act.put, List.setIfInBounds_toArray, List.set_cons_zero, List.set_cons_succ])
                (refine wpX_val (v := ?_) (by rfl) (fun W hW => ?_) ?_; rotate_left 1; (focus (go_simp; first | done | with_reducible rfl)); (try simp only [Act.put, List.setIfInBounds_toArray, List.set_cons_zero, List.set_cons_succ]))
                refine wpX_val (v := .int .u64 (sr ((sch (bt (List.drop (128 * j) (pad l))) i) (i - 2)) 6)) (by rfl) (fun _ _ => run_shr (n := 6) (by decide) rfl rfl rfl) ?_
                (try simp only [Act.put, List.setIfInBounds_toArray, List.set_cons_zero, List.set_cons_succ])
                refine wpX_val (v := .int .u64 (xo (xo (rt ((sch (bt (List.drop (128 * j) (pad l))) i) (i - 2)) 19) (rt ((sch (bt (List.drop (128 * j) (pad l))) i) (i - 2)) 61)) (sr ((sch (bt (List.drop (128 * j) (pad l))) i) (i - 2)) 6))) (by rfl) (fun _ _ => run_xor rfl rfl rfl) ?_
                (try simp only [Act.put, List.setIfInBounds_toArray, List.set_cons_zero, List.set_cons_succ])
                refine wpX_val (v := .int .u64 (ad (ad (ad ((sch (bt (List.drop (128 * j) (pad l))) i) (i - 16)) (xo (xo (rt ((sch (bt (List.drop (128 * j) (pad l))) i) (i - 15)) 1) (rt ((sch (bt (List.drop (128 * j) (pad l))) i) (i - 15)) 8)) (sr ((sch (bt (List.drop (128 * j) (pad l))) i) (i - 15)) 7))) ((sch (bt (List.drop (128 * j) (pad l))) i) (i - 7))) (xo (xo (rt ((sch (bt (List.drop (128 * j) (pad l))) i) (i - 2)) 19) (rt ((sch (bt (List.drop (128 * j) (pad l))) i) (i - 2)) 61)) (sr ((sch (bt (List.drop (128 * j) (pad l))) i) (i - 2)) 6)))) (by rfl) (fun _ _ => run_add rfl rfl rfl) ?_
                (try simp only [Act.put, List.setIfInBounds_toArray, List.set_cons_zero, List.set_cons_succ])
                refine wpX_val (v := .pointer (some ⟨p8_40, 0 + i, none⟩)) (by rfl) (fun _ _ => run_ixarr (m := 80) (by decide) (by omega) Tryd.underlying38 (by kernel_rfl) rfl rfl rfl) ?_
                (try simp only [Act.put, List.setIfInBounds_toArray, List.set_cons_zero, List.set_cons_succ])
                refine wpX_nil ?_
                intro β W43 hE hN hD
                clear hN hD
                simp only [putAll, Act.put, List.setIfInBounds_toArray, List.set_cons_zero, List.set_cons_succ, List.drop_succ_cons, List.drop_zero, List.drop_nil, List.length_nil, Nat.add_zero]
                have hO := off_ext hE
                replace k_t6 := blk_off k_t6 hO nm0
                replace k_t8 := blk_off k_t8 hO nm0
                replace ow_b := Owz.off ow_b hO f0
                replace off0 := off0.step hO i0
                replace sz := off0.size
                clear hO hE β
                refine wpL_put1 (v := .int .u64 (ad (ad (ad ((sch (bt (List.drop (128 * j) (pad l))) i) (i - 16)) (xo (xo (rt ((sch (bt (List.drop (128 * j) (pad l))) i) (i - 15)) 1) (rt ((sch (bt (List.drop (128 * j) (pad l))) i) (i - 15)) 8)) (sr ((sch (bt (List.drop (128 * j) (pad l))) i) (i - 15)) 7))) ((sch (bt (List.drop (128 * j) (pad l))) i) (i - 7))) (xo (xo (rt ((sch (bt (List.drop (128 * j) (pad l))) i) (i - 2)) 19) (rt ((sch (bt (List.drop (128 * j) (pad l))) i) (i - 2)) 61)) (sr ((sch (bt (List.drop (128 * j) (pad l))) i) (i - 2)) 6)))) ⟨rfl, rfl⟩ (by rfl) rfl rfl rfl k_t8 (by rw [arrK_size, Nat.zero_add]; omega) (by kernel_rfl) ?_
                (try simp only [Act.put, List.setIfInBounds_toArray, List.set_cons_zero, List.set_cons_succ])
                intro W44 hO h_
                rw [Nat.zero_add, arrK_set] at h_
                replace k_t8 : Blk W44 p8_40 (arrK .u64 80 (upd (sch (bt (List.drop (128 * j) (pad l))) i) i (ad (ad (ad ((sch (bt (List.drop (128 * j) (pad l))) i) (i - 16)) (xo (xo (rt ((sch (bt (List.drop (128 * j) (pad l))) i) (i - 15)) 1) (rt ((sch (bt (List.drop (128 * j) (pad l))) i) (i - 15)) 8)) (sr ((sch (bt (List.drop (128 * j) (pad l))) i) (i - 15)) 7))) ((sch (bt (List.drop (128 * j) (pad l))) i) (i - 7))) (xo (xo (rt ((sch (bt (List.drop (128 * j) (pad l))) i) (i - 2)) 19) (rt ((sch (bt (List.drop (128 * j) (pad l))) i) (i - 2)) 61)) (sr ((sch (bt (List.drop (128 * j) (pad l))) i) (i - 2)) 6))))) 38 := h_
                clear h_
                replace k_t6 := blk_off k_t6 hO (nm1 nq_t6_t8)
                replace ow_b := Owz.off ow_b hO (f1 ne_b_t8)
                replace off0 := off0.step hO (i1 fb_t8)
                replace sz := off0.size
                clear hO
                refine wpL_nil ?_
                first | with_reducible refine NoPanic.normal (Q := Exit.then _ _) ?_ | with_reducible refine NoPanic.normal ?_
                go_wp2
                go_roundw
                case rel => exact ⟨i + 1, by omega, by go_num, off0, k_t6, (by rw [rst_hi (by omega), ← sch_hi h16]; exact k_t8), ow_b⟩
                case measure => simp [intOf]; omega
            · have _f := h80
              obtain rfl : i = 80 := by omega
              rw [rst_hi (by decide)] at k_t8
              go_upto_region 17 with fail
              refine wp_region_lit ?_
              (refine wpL_val (v := ?_) (by rfl) ?_ ?_; rotate_left 1; (focus (go_simp; first | done | with_reducible rfl)))
              (try simp only [Act.put, List.setIfInBounds_toArray, List.set_cons_zero, List.set_cons_succ])
              refine wpL_val (v := .bool false) (by rfl) (by first | rfl | (go_simp; done) | (go_simp; with_reducible rfl) | (go_simp; omega)) ?_
              (try simp only [Act.put, List.setIfInBounds_toArray, List.set_cons_zero, List.set_cons_succ])
              refine wpL_nil ?_
              go_upto_region 26 with fail
              refine wp_region_lit ?_
              refine wpL_load0 (by rfl) rfl rfl k_t6 (by kernel_rfl) (by rw [arrK_size]; kernel_rfl) ?_
              (try simp only [Act.put, List.setIfInBounds_toArray, List.set_cons_zero, List.set_cons_succ])
              refine wpL_new (z := arrK .u64 8 (fun _ => 0)) (t := 36) (by rfl) (by first | kernel_rfl | (go_simp; done) | (go_simp; rfl)) ?_
              (try simp only [Act.put, List.setIfInBounds_toArray, List.set_cons_zero, List.set_cons_succ])
              intro p13_42 W42 n_t13 hO h_
              have nq_t6_t13 : p6_37 ≠ p13_42 := Nat.ne_of_lt (Nat.lt_of_lt_of_le (blk_lt k_t6) n_t13)
              have nq_t8_t13 : p8_40 ≠ p13_42 := Nat.ne_of_lt (Nat.lt_of_lt_of_le (blk_lt k_t8) n_t13)
              have ne_b_t13 := ne_new (Owz.lt ow_b) n_t13
              have fb_t13 : Fb p13_42 w.heap.size [] := fb_new (Nat.le_trans sz n_t13)
              replace k_t6 := blk_off k_t6 hO nm0
              replace k_t8 := blk_off k_t8 hO nm0
              replace ow_b := Owz.off ow_b hO f0
              replace off0 := off0.step hO i0
              replace sz := off0.size
              have k_t13 := h_
              clear hO h_ n_t13
              refine wpL_putrow (cells := arrK .u64 8 (Hs (pad l) j)) (by rfl) rfl rfl rfl k_t13 (by rw [arrK_size]; kernel_rfl) (by rw [arrK_size, arrK_size]) (by exact arrK_one _ _ _) ?_
              (try simp only [Act.put, List.setIfInBounds_toArray, List.set_cons_zero, List.set_cons_succ])
              intro W43 hO h_
              replace k_t13 : Blk W43 p13_42 (arrK .u64 8 (Hs (pad l) j)) 36 := h_
              clear h_
              replace k_t6 := blk_off k_t6 hO (nm1 nq_t6_t13)
              replace k_t8 := blk_off k_t8 hO (nm1 nq_t8_t13)
              replace ow_b := Owz.off ow_b hO (f1 ne_b_t13)
              replace off0 := off0.step hO (i1 fb_t13)
              replace sz := off0.size
              clear hO
              refine wpL_nil ?_
              go_wp2_with fail
              go_loopw [14] (fun ii wr => ∃ (i : Nat), (i ≤ 80) ∧ (ii = .int .i64 (i : Int)) ∧ Off [] w wr ∧ Blk wr p6_37 (arrK .u64 8 (Hs (pad l) j)) 36 ∧ Blk wr p8_40 (arrK .u64 80 (sch (bt (List.drop (128 * j) (pad l))) 80)) 38 ∧ Blk wr p13_42 (arrK .u64 8 (rnds kf (sch (bt (List.drop (128 * j) (pad l))) 80) (Hs (pad l) j) i)) 36 ∧ Owz wr v50_36 (pad l))
                (fun ii _ => 80 - (intOf ii).toNat)
              case atStart => exact ⟨0, Nat.zero_le _, rfl, off0, k_t6, k_t8, k_t13, ow_b⟩
              case round =>
                obtain ⟨i, hi, rfl, off0, k_t6, k_t8, k_t13, ow_b⟩ := hrel
                obtain ⟨W44, eW_⟩ := wname off0
                subst eW_
                have sz := off0.size
                by_cases h80 : i < 80
                · have _f := h80
                  go_upto_region 28 with fail
                  refine wp_region_lit ?_
                  (refine wpL_val (v := ?_) (by rfl) ?_ ?_; rotate_left 1; (focus (go_simp; first | done | with_reducible rfl)))
                  (try simp only [Act.put, List.setIfInBounds_toArray, List.set_cons_zero, List.set_cons_succ])
                  refine wpL_val (v := .bool true) (by rfl) (by first | rfl | (go_simp; done) | (go_simp; with_reducible rfl) | (go_simp; omega)) ?_
                  (try simp only [Act.put, List.setIfInBounds_toArray, List.set_cons_zero, List.set_cons_succ])
                  refine wpL_nil ?_
                  go_upto_region 30 with fail
                  refine wp_region_xn 36 [] (by kernel_rfl) (fun x hx => by cases hx) (by kernel_rfl) ?_
                  simp only [List.take_succ_cons, List.take_zero, List.take_nil]
                  (try simp only [Act.put, List.setIfInBounds_toArray, List.set_cons_zero, List.set_cons_succ])
                  refine wpX_val (v := .pointer (some ⟨p13_42, 0 + 7, none⟩)) (by rfl) (fun _ _ => run_ixarr (m := 8) (by decide) (by omega) Tryd.underlying36 (by kernel_rfl) rfl rfl rfl) ?_
                  (try simp only [Act.put, List.setIfInBounds_toArray, List.set_cons_zero, List.set_cons_succ])
                  refine wpX_cell (v := .int .u64 ((rnds kf (sch (bt (List.drop (128 * j) (pad l))) 80) (Hs (pad l) j) i) 7)) (blk_rd k_t13) (by rw [Nat.zero_add]; exact arrK_get _ _ _ _ (by omega)) (by rfl) rfl rfl (by kernel_rfl) ?_
                  (try simp only [Act.put, List.setIfInBounds_toArray, List.set_cons_zero, List.set_cons_succ])
                  refine wpX_val (v := .pointer (some ⟨p13_42, 0 + 4, none⟩)) (by rfl) (fun _ _ => run_ixarr (m := 8) (by decide) (by omega) Tryd.underlying36 (by kernel_rfl) rfl rfl rfl) ?_
                  (try simp only [Act.put, List.setIfInBounds_toArray, List.set_cons_zero, List.set_cons_succ])
                  refine wpX_cell (v := .int .u64 ((rnds kf (sch (bt (List.drop (128 * j) (pad l))) 80) (Hs (pad l) j) i) 4)) (blk_rd k_t13) (by rw [Nat.zero_add]; exact arrK_get _ _ _ _ (by omega)) (by rfl) rfl rfl (by kernel_rfl) ?_
                  (try simp only [Act.put, List.setIfInBounds_toArray, List.set_cons_zero, List.set_cons_succ])
                  ((with_reducible refine wpX_fn (fun W hW => rturn_c ((rnds kf (sch (bt (List.drop (128 * j) (pad l))) 80) (Hs (pad l) j) i) 4) 14 (by decide) (by decide) W) ?_ rfl ?_ ?_ ?_); (focus rfl); (focus kernel_rfl); (focus rfl); (try simp only [Act.put, List.setIfInBounds_toArray, List.set_cons_zero, List.set_cons_succ]))
                  refine wpX_val (v := .pointer (some ⟨p13_42, 0 + 4, none⟩)) (by rfl) (fun _ _ => run_ixarr (m := 8) (by decide) (by omega) Tryd.underlying36 (by kernel_rfl) rfl rfl rfl) ?_
                  (try simp only [Act.put, List.setIfInBounds_toArray, List.set_cons_zero, List.set_cons_succ])
                  refine wpX_cell (v := .int .u64 ((rnds kf (sch (bt (List.drop (128 * j) (pad l))) 80) (Hs (pad l) j) i) 4)) (blk_rd k_t13) (by rw [Nat.zero_add]; exact arrK_get _ _ _ _ (by omega)) (by rfl) rfl rfl (by kernel_rfl) ?_
                  (try simp only [Act.put, List.setIfInBounds_toArray, List.set_cons_zero, List.set_cons_succ])
                  ((with_reducible refine wpX_fn (fun W hW => rturn_c ((rnds kf (sch (bt (List.drop (128 * j) (pad l))) 80) (Hs (pad l) j) i) 4) 18 (by decide) (by decide) W) ?_ rfl ?_ ?_ ?_); (focus rfl); (focus kernel_rfl); (focus rfl); (try simp only [Act.put, List.setIfInBounds_toArray, List.set_cons_zero, List.set_cons_succ]))
                  refine wpX_val (v := .int .u64 (xo (rt ((rnds kf (sch (bt (List.drop (128 * j) (pad l))) 80) (Hs (pad l) j) i) 4) 14) (rt ((rnds kf (sch (bt (List.drop (128 * j) (pad l))) 80) (Hs (pad l) j) i) 4) 18))) (by rfl) (fun _ _ => run_xor rfl rfl rfl) ?_
                  (try simp only [Act.put, List.setIfInBounds_toArray, List.set_cons_zero, List.set_cons_succ])
                  refine wpX_val (v := .pointer (some ⟨p13_42, 0 + 4, none⟩)) (by rfl) (fun _ _ => run_ixarr (m := 8) (by decide) (by omega) Tryd.underlying36 (by kernel_rfl) rfl rfl rfl) ?_
                  (try simp only [Act.put, List.setIfInBounds_toArray, List.set_cons_zero, List.set_cons_succ])
                  refine wpX_cell (v := .int .u64 ((rnds kf (sch (bt (List.drop (128 * j) (pad l))) 80) (Hs (pad l) j) i) 4)) (blk_rd k_t13) (by rw [Nat.zero_add]; exact arrK_get _ _ _ _ (by omega)) (by rfl) rfl rfl (by kernel_rfl) ?_
                  (try simp only [Act.put, List.setIfInBounds_toArray, List.set_cons_zero, List.set_cons_succ])
                  ((with_reducible refine wpX_fn (fun W hW => rturn_c ((rnds kf (sch (bt (List.drop (128 * j) (pad l))) 80) (Hs (pad l) j) i) 4) 41 (by decide) (by decide) W) ?_ rfl ?_ ?_ ?_); (focus rfl); (focus kernel_rfl); (focus rfl); (try simp only [Act.put, List.setIfInBounds_toArray, List.set_cons_zero, List.set_cons_succ]))
                  refine wpX_val (v := .int .u64 (xo (xo (rt ((rnds kf (sch (bt (List.drop (128 * j) (pad l))) 80) (Hs (pad l) j) i) 4) 14) (rt ((rnds kf (sch (bt (List.drop (128 * j) (pad l))) 80) (Hs (pad l) j) i) 4) 18)) (rt ((rnds kf (sch (bt (List.drop (128 * j) (pad l))) 80) (Hs (pad l) j) i) 4) 41))) (by rfl) (fun _ _ => run_xor rfl rfl rfl) ?_
                  (try simp only [Act.put, List.setIfInBounds_toArray, List.set_cons_zero, List.set_cons_succ])
                  refine wpX_val (v := .int .u64 (ad ((rnds kf (sch (bt (List.drop (128 * j) (pad l))) 80) (Hs (pad l) j) i) 7) (xo (xo (rt ((rnds kf (sch (bt (List.drop (128 * j) (pad l))) 80) (Hs (pad l) j) i) 4) 14) (rt ((rnds kf (sch (bt (List.drop (128 * j) (pad l))) 80) (Hs (pad l) j) i) 4) 18)) (rt ((rnds kf (sch (bt (List.drop (128 * j) (pad l))) 80) (Hs (pad l) j) i) 4) 41)))) (by rfl) (fun _ _ => run_add rfl rfl rfl) ?_
                  (try simp only [Act.put, List.setIfInBounds_toArray, List.set_cons_zero, List.set_cons_succ])
                  refine wpX_val (v := .pointer (some ⟨p13_42, 0 + 4, none⟩)) (by rfl) (fun _ _ => run_ixarr (m := 8) (by decide) (by omega) Tryd.underlying36 (by kernel_rfl) rfl rfl rfl) ?_
                  (try simp only [Act.put, List.setIfInBounds_toArray, List.set_cons_zero, List.set_cons_succ])
                  refine wpX_cell (v := .int .u64 ((rnds kf (sch (bt (List.drop (128 * j) (pad l))) 80) (Hs (pad l) j) i) 4)) (blk_rd k_t13) (by rw [Nat.zero_add]; exact arrK_get _ _ _ _ (by omega)) (by rfl) rfl rfl (by kernel_rfl) ?_
                  (try simp only [Act.put, List.setIfInBounds_toArray, List.set_cons_zero, List.set_cons_succ])
                  refine wpX_val (v := .pointer (some ⟨p13_42, 0 + 5, none⟩)) (by rfl) (fun _ _ => run_ixarr (m := 8) (by decide) (by omega) Tryd.underlying36 (by kernel_rfl) rfl rfl rfl) ?_
                  (try simp only [Act.put, List.setIfInBounds_toArray, List.set_cons_zero, List.set_cons_succ])
                  refine wpX_cell (v := .int .u64 ((rnds kf (sch (bt (List.drop (128 * j) (pad l))) 80) (Hs (pad l) j) i) 5)) (blk_rd k_t13) (by rw [Nat.zero_add]; exact arrK_get _ _ _ _ (by omega)) (by rfl) rfl rfl (by kernel_rfl) ?_
                  (try simp only [Act.put, List.setIfInBounds_toArray, List.set_cons_zero, List.set_cons_succ])
                  refine wpX_val (v := .int .u64 (an ((rnds kf (sch (bt (List.drop (128 * j) (pad l))) 80) (Hs (pad l) j) i) 4) ((rnds kf (sch (bt (List.drop (128 * j) (pad l))) 80) (Hs (pad l) j) i) 5))) (by rfl) (fun _ _ => run_and rfl rfl rfl) ?_
                  (try simp only [Act.put, List.setIfInBounds_toArray, List.set_cons_zero, List.set_cons_succ])
                  refine wpX_val (v := .pointer (some ⟨p13_42, 0 + 4, none⟩)) (by rfl) (fun _ _ => run_ixarr (m := 8) (by decide) (by omega) Tryd.underlying36 (by kernel_rfl) rfl rfl rfl) ?_
                  (try simp only [Act.put, List.setIfInBounds_toArray, List.set_cons_zero, List.set_cons_succ])
                  refine wpX_cell (v := .int .u64 ((rnds kf (sch (bt (List.drop (128 * j) (pad l))) 80) (Hs (pad l) j) i) 4)) (blk_rd k_t13) (by rw [Nat.zero_add]; exact arrK_get _ _ _ _ (by omega)) (by rfl) rfl rfl (by kernel_rfl) ?_
                  (try simp only [Act.put, List.setIfInBounds_toArray, List.set_cons_zero, List.set_cons_succ])
                  refine wpX_val (v := .int .u64 (nt ((rnds kf (sch (bt (List.drop (128 * j) (pad l))) 80) (Hs (pad l) j) i) 4))) (by rfl) (fun _ _ => run_not rfl rfl) ?_
                  (try simp only [Act.put, List.setIfInBounds_toArray, List.set_cons_zero, List.set_cons_succ])
                  refine wpX_val (v := .pointer (some ⟨p13_42, 0 + 6, none⟩)) (by rfl) (fun _ _ => run_ixarr (m := 8) (by decide) (by omega) Tryd.underlying36 (by kernel_rfl) rfl rfl rfl) ?_
                  (try simp only [Act.put, List.setIfInBounds_toArray, List.set_cons_zero, List.set_cons_succ])
                  refine wpX_cell (v := .int .u64 ((rnds kf (sch (bt (List.drop (128 * j) (pad l))) 80) (Hs (pad l) j) i) 6)) (blk_rd k_t13) (by rw [Nat.zero_add]; exact arrK_get _ _ _ _ (by omega)) (by rfl) rfl rfl (by kernel_rfl) ?_
                  (try simp only [Act.put, List.setIfInBounds_toArray, List.set_cons_zero, List.set_cons_succ])
                  refine wpX_val (v := .int .u64 (an (nt ((rnds kf (sch (bt (List.drop (128 * j) (pad l))) 80) (Hs (pad l) j) i) 4)) ((rnds kf (sch (bt (List.drop (128 * j) (pad l))) 80) (Hs (pad l) j) i) 6))) (by rfl) (fun _ _ => run_and rfl rfl rfl) ?_
                  (try simp only [Act.put, List.setIfInBounds_toArray, List.set_cons_zero, List.set_cons_succ])
                  refine wpX_val (v := .int .u64 (xo (an ((rnds kf (sch (bt (List.drop (128 * j) (pad l))) 80) (Hs (pad l) j) i) 4) ((rnds kf (sch (bt (List.drop (128 * j) (pad l))) 80) (Hs (pad l) j) i) 5)) (an (nt ((rnds kf (sch (bt (List.drop (128 * j) (pad l))) 80) (Hs (pad l) j) i) 4)) ((rnds kf (sch (bt (List.drop (128 * j) (pad l))) 80) (Hs (pad l) j) i) 6)))) (by rfl) (fun _ _ => run_xor rfl rfl rfl) ?_
                  (try simp only [Act.put, List.setIfInBounds_toArray, List.set_cons_zero, List.set_cons_succ])
                  refine wpX_val (v := .int .u64 (ad (ad ((rnds kf (sch (bt (List.drop (128 * j) (pad l))) 80) (Hs (pad l) j) i) 7) (xo (xo (rt ((rnds kf (sch (bt (List.drop (128 * j) (pad l))) 80) (Hs (pad l) j) i) 4) 14) (rt ((rnds kf (sch (bt (List.drop (128 * j) (pad l))) 80) (Hs (pad l) j) i) 4) 18)) (rt ((rnds kf (sch (bt (List.drop (128 * j) (pad l))) 80) (Hs (pad l) j) i) 4) 41))) (xo (an ((rnds kf (sch (bt (List.drop (128 * j) (pad l))) 80) (Hs (pad l) j) i) 4) ((rnds kf (sch (bt (List.drop (128 * j) (pad l))) 80) (Hs (pad l) j) i) 5)) (an (nt ((rnds kf (sch (bt (List.drop (128 * j) (pad l))) 80) (Hs (pad l) j) i) 4)) ((rnds kf (sch (bt (List.drop (128 * j) (pad l))) 80) (Hs (pad l) j) i) 6))))) (by rfl) (fun _ _ => run_add rfl rfl rfl) ?_
                  (try simp only [Act.put, List.setIfInBounds_toArray, List.set_cons_zero, List.set_cons_succ])
                  (refine wpX_val (v := ?_) (by rfl) (fun W hW => ?_) ?_; rotate_left 1; (focus (go_simp; first | done | with_reducible rfl)); (try simp only [Act.put, List.setIfInBounds_toArray, List.set_cons_zero, List.set_cons_succ]))
                  refine wpX_val (v := .pointer (some ⟨2, 0 + i, none⟩)) (by rfl) (fun _ _ => run_ixarr (m := 80) (by decide) (by omega) Tryd.underlying38 (by kernel_rfl) rfl rfl rfl) ?_
                  (try simp only [Act.put, List.setIfInBounds_toArray, List.set_cons_zero, List.set_cons_succ])
                  refine wpX_cell (v := .int .u64 (kf i)) ((GR_ext HG.out off0.ext).1) (by rw [Nat.zero_add]; exact arrK_get _ _ _ _ (by omega)) (by rfl) rfl rfl (by kernel_rfl) ?_
                  (try simp only [Act.put, List.setIfInBounds_toArray, List.set_cons_zero, List.set_cons_succ])
                  refine wpX_val (v := .int .u64 (ad (ad (ad ((rnds kf (sch (bt (List.drop (128 * j) (pad l))) 80) (Hs (pad l) j) i) 7) (xo (xo (rt ((rnds kf (sch (bt (List.drop (128 * j) (pad l))) 80) (Hs (pad l) j) i) 4) 14) (rt ((rnds kf (sch (bt (List.drop (128 * j) (pad l))) 80) (Hs (pad l) j) i) 4) 18)) (rt ((rnds kf (sch (bt (List.drop (128 * j) (pad l))) 80) (Hs (pad l) j) i) 4) 41))) (xo (an ((rnds kf (sch (bt (List.drop (128 * j) (pad l))) 80) (Hs (pad l) j) i) 4) ((rnds kf (sch (bt (List.drop (128 * j) (pad l))) 80) (Hs (pad l) j) i) 5)) (an (nt ((rnds kf (sch (bt (List.drop (128 * j) (pad l))) 80) (Hs (pad l) j) i) 4)) ((rnds kf (sch (bt (List.drop (128 * j) (pad l))) 80) (Hs (pad l) j) i) 6)))) (kf i))) (by rfl) (fun _ _ => run_add rfl rfl rfl) ?_
                  (try simp only [Act.put, List.setIfInBounds_toArray, List.set_cons_zero, List.set_cons_succ])
                  (refine wpX_val (v := ?_) (by rfl) (fun W hW => ?_) ?_; rotate_left 1; (focus (go_simp; first | done | with_reducible rfl)); (try simp only [Act.put, List.setIfInBounds_toArray, List.set_cons_zero, List.set_cons_succ]))
                  refine wpX_val (v := .pointer (some ⟨p8_40, 0 + i, none⟩)) (by rfl) (fun _ _ => run_ixarr (m := 80) (by decide) (by omega) Tryd.underlying38 (by kernel_rfl) rfl rfl rfl) ?_
                  (try simp only [Act.put, List.setIfInBounds_toArray, List.set_cons_zero, List.set_cons_succ])
                  refine wpX_cell (v := .int .u64 ((sch (bt (List.drop (128 * j) (pad l))) 80) i)) (blk_rd k_t8) (by rw [Nat.zero_add]; exact arrK_get _ _ _ _ (by omega)) (by rfl) rfl rfl (by kernel_rfl) ?_
                  (try simp only [Act.put, List.setIfInBounds_toArray, List.set_cons_zero, List.set_cons_succ])
                  refine wpX_val (v := .int .u64 (rT kf (sch (bt (List.drop (128 * j) (pad l))) 80) i (rnds kf (sch (bt (List.drop (128 * j) (pad l))) 80) (Hs (pad l) j) i))) (by rfl) (fun _ _ => by first | rfl | (go_simp; done) | (go_simp; with_reducible rfl)) ?_
                  (try simp only [Act.put, List.setIfInBounds_toArray, List.set_cons_zero, List.set_cons_succ])
                  (refine wpX_val (v := ?_) (by rfl) (fun W hW => ?_) ?_; rotate_left 1; (focus (go_simp; first | done | with_reducible rfl)); (try simp only [Act.put, List.setIfInBounds_toArray, List.set_cons_zero, List.set_cons_succ]))
                  refine wpX_nil ?_
                  intro β W45 hE hN hD
                  clear hN hD
                  simp only [putAll, Act.put, List.setIfInBounds_toArray, List.set_cons_zero, List.set_cons_succ, List.drop_succ_cons, List.drop_zero, List.drop_nil, List.length_nil, Nat.add_zero]
                  have hO := off_ext hE
                  replace k_t6 := blk_off k_t6 hO nm0
                  replace k_t8 := blk_off k_t8 hO nm0
                  replace k_t13 := blk_off k_t13 hO nm0
                  replace ow_b := Owz.off ow_b hO f0
                  replace off0 := off0.step hO i0
                  replace sz := off0.size
                  clear hO hE β
                  refine wpL_nil ?_
                  first | with_reducible refine NoPanic.normal (Q := Exit.then _ _) ?_ | with_reducible refine NoPanic.normal ?_
                  go_upto_region 31 with fail
                  refine wp_region_xn 30 [] (by kernel_rfl) (fun x hx => by cases hx) (by kernel_rfl) ?_
                  simp only [List.take_succ_cons, List.take_zero, List.take_nil]
                  (try simp only [Act.put, List.setIfInBounds_toArray, List.set_cons_zero, List.set_cons_succ])
                  refine wpX_val (v := .pointer (some ⟨p13_42, 0 + 0, none⟩)) (by rfl) (fun _ _ => run_ixarr (m := 8) (by decide) (by omega) Tryd.underlying36 (by kernel_rfl) rfl rfl rfl) ?_
                  (try simp only [Act.put, List.setIfInBounds_toArray, List.set_cons_zero, List.set_cons_succ])
                  refine wpX_cell (v := .int .u64 ((rnds kf (sch (bt (List.drop (128 * j) (pad l))) 80) (Hs (pad l) j) i) 0)) (blk_rd k_t13) (by rw [Nat.zero_add]; exact arrK_get _ _ _ _ (by omega)) (by rfl) rfl rfl (by kernel_rfl) ?_
                  (try simp only [Act.put, List.setIfInBounds_toArray, List.set_cons_zero, List.set_cons_succ])
                  ((with_reducible refine wpX_fn (fun W hW => rturn_c ((rnds kf (sch (bt (List.drop (128 * j) (pad l))) 80) (Hs (pad l) j) i) 0) 28 (by decide) (by decide) W) ?_ rfl ?_ ?_ ?_); (focus rfl); (focus kernel_rfl); (focus rfl); (try simp only [Act.put, List.setIfInBounds_toArray, List.set_cons_zero, List.set_cons_succ]))
                  refine wpX_val (v := .pointer (some ⟨p13_42, 0 + 0, none⟩)) (by rfl) (fun _ _ => run_ixarr (m := 8) (by decide) (by omega) Tryd.underlying36 (by kernel_rfl) rfl rfl rfl) ?_
                  (try simp only [Act.put, List.setIfInBounds_toArray, List.set_cons_zero, List.set_cons_succ])
                  refine wpX_cell (v := .int .u64 ((rnds kf (sch (bt (List.drop (128 * j) (pad l))) 80) (Hs (pad l) j) i) 0)) (blk_rd k_t13) (by rw [Nat.zero_add]; exact arrK_get _ _ _ _ (by omega)) (by rfl) rfl rfl (by kernel_rfl) ?_
                  (try simp only [Act.put, List.setIfInBounds_toArray, List.set_cons_zero, List.set_cons_succ])
                  ((with_reducible refine wpX_fn (fun W hW => rturn_c ((rnds kf (sch (bt (List.drop (128 * j) (pad l))) 80) (Hs (pad l) j) i) 0) 34 (by decide) (by decide) W) ?_ rfl ?_ ?_ ?_); (focus rfl); (focus kernel_rfl); (focus rfl); (try simp only [Act.put, List.setIfInBounds_toArray, List.set_cons_zero, List.set_cons_succ]))
                  refine wpX_val (v := .int .u64 (xo (rt ((rnds kf (sch (bt (List.drop (128 * j) (pad l))) 80) (Hs (pad l) j) i) 0) 28) (rt ((rnds kf (sch (bt (List.drop (128 * j) (pad l))) 80) (Hs (pad l) j) i) 0) 34))) (by rfl) (fun _ _ => run_xor rfl rfl rfl) ?_
                  (try simp only [Act.put, List.setIfInBounds_toArray, List.set_cons_zero, List.set_cons_succ])
                  refine wpX_val (v := .pointer (some ⟨p13_42, 0 + 0, none⟩)) (by rfl) (fun _ _ => run_ixarr (m := 8) (by decide) (by omega) Tryd.underlying36 (by kernel_rfl) rfl rfl rfl) ?_
                  (try simp only [Act.put, List.setIfInBounds_toArray, List.set_cons_zero, List.set_cons_succ])
                  refine wpX_cell (v := .int .u64 ((rnds kf (sch (bt (List.drop (128 * j) (pad l))) 80) (Hs (pad l) j) i) 0)) (blk_rd k_t13) (by rw [Nat.zero_add]; exact arrK_get _ _ _ _ (by omega)) (by rfl) rfl rfl (by kernel_rfl) ?_
                  (try simp only [Act.put, List.setIfInBounds_toArray, List.set_cons_zero, List.set_cons_succ])
                  ((with_reducible refine wpX_fn (fun W hW => rturn_c ((rnds kf (sch (bt (List.drop (128 * j) (pad l))) 80) (Hs (pad l) j) i) 0) 39 (by decide) (by decide) W) ?_ rfl ?_ ?_ ?_); (focus rfl); (focus kernel_rfl); (focus rfl); (try simp only [Act.put, List.setIfInBounds_toArray, List.set_cons_zero, List.set_cons_succ]))
                  refine wpX_val (v := .int .u64 (xo (xo (rt ((rnds kf (sch (bt (List.drop (128 * j) (pad l))) 80) (Hs (pad l) j) i) 0) 28) (rt ((rnds kf (sch (bt (List.drop (128 * j) (pad l))) 80) (Hs (pad l) j) i) 0) 34)) (rt ((rnds kf (sch (bt (List.drop (128 * j) (pad l))) 80) (Hs (pad l) j) i) 0) 39))) (by rfl) (fun _ _ => run_xor rfl rfl rfl) ?_
                  (try simp only [Act.put, List.setIfInBounds_toArray, List.set_cons_zero, List.set_cons_succ])
                  refine wpX_val (v := .pointer (some ⟨p13_42, 0 + 0, none⟩)) (by rfl) (fun _ _ => run_ixarr (m := 8) (by decide) (by omega) Tryd.underlying36 (by kernel_rfl) rfl rfl rfl) ?_
                  (try simp only [Act.put, List.setIfInBounds_toArray, List.set_cons_zero, List.set_cons_succ])
                  refine wpX_cell (v := .int .u64 ((rnds kf (sch (bt (List.drop (128 * j) (pad l))) 80) (Hs (pad l) j) i) 0)) (blk_rd k_t13) (by rw [Nat.zero_add]; exact arrK_get _ _ _ _ (by omega)) (by rfl) rfl rfl (by kernel_rfl) ?_
                  (try simp only [Act.put, List.setIfInBounds_toArray, List.set_cons_zero, List.set_cons_succ])
                  refine wpX_val (v := .pointer (some ⟨p13_42, 0 + 1, none⟩)) (by rfl) (fun _ _ => run_ixarr (m := 8) (by decide) (by omega) Tryd.underlying36 (by kernel_rfl) rfl rfl rfl) ?_
                  (try simp only [Act.put, List.setIfInBounds_toArray, List.set_cons_zero, List.set_cons_succ])
                  refine wpX_cell (v := .int .u64 ((rnds kf (sch (bt (List.drop (128 * j) (pad l))) 80) (Hs (pad l) j) i) 1)) (blk_rd k_t13) (by rw [Nat.zero_add]; exact arrK_get _ _ _ _ (by omega)) (by rfl) rfl rfl (by kernel_rfl) ?_
                  (try simp only [Act.put, List.setIfInBounds_toArray, List.set_cons_zero, List.set_cons_succ])
                  refine wpX_val (v := .int .u64 (an ((rnds kf (sch (bt (List.drop (128 * j) (pad l))) 80) (Hs (pad l) j) i) 0) ((rnds kf (sch (bt (List.drop (128 * j) (pad l))) 80) (Hs (pad l) j) i) 1))) (by rfl) (fun _ _ => run_and rfl rfl rfl) ?_
                  (try simp only [Act.put, List.setIfInBounds_toArray, List.set_cons_zero, List.set_cons_succ])
                  refine wpX_val (v := .pointer (some ⟨p13_42, 0 + 0, none⟩)) (by rfl) (fun _ _ => run_ixarr (m := 8) (by decide) (by omega) Tryd.underlying36 (by kernel_rfl) rfl rfl rfl) ?_
                  (try simp only [Act.put, List.setIfInBounds_toArray, List.set_cons_zero, List.set_cons_succ])
                  refine wpX_cell (v := .int .u64 ((rnds kf (sch (bt (List.drop (128 * j) (pad l))) 80) (Hs (pad l) j) i) 0)) (blk_rd k_t13) (by rw [Nat.zero_add]; exact arrK_get _ _ _ _ (by omega)) (by rfl) rfl rfl (by kernel_rfl) ?_
                  (try simp only [Act.put, List.setIfInBounds_toArray, List.set_cons_zero, List.set_cons_succ])
                  refine wpX_val (v := .pointer (some ⟨p13_42, 0 + 2, none⟩)) (by rfl) (fun _ _ => run_ixarr (m := 8) (by decide) (by omega) Tryd.underlying36 (by kernel_rfl) rfl rfl rfl) ?_
                  (try simp only [Act.put, List.setIfInBounds_toArray, List.set_cons_zero, List.set_cons_succ])
                  refine wpX_cell (v := .int .u64 ((rnds kf (sch (bt (List.drop (128 * j) (pad l))) 80) (Hs (pad l) j) i) 2)) (blk_rd k_t13) (by rw [Nat.zero_add]; exact arrK_get _ _ _ _ (by omega)) (by rfl) rfl rfl (by kernel_rfl) ?_
                  (try simp only [Act.put, List.setIfInBounds_toArray, List.set_cons_zero, List.set_cons_succ])
                  refine wpX_val (v := .int .u64 (an ((rnds kf (sch (bt (List.drop (128 * j) (pad l))) 80) (Hs (pad l) j) i) 0) ((rnds kf (sch (bt (List.drop (128 * j) (pad l))) 80) (Hs (pad l) j) i) 2))) (by rfl) (fun _ _ => run_and rfl rfl rfl) ?_
                  (try simp only [Act.put, List.setIfInBounds_toArray, List.set_cons_zero, List.set_cons_succ])
                  refine wpX_val (v := .int .u64 (xo (an ((rnds kf (sch (bt (List.drop (128 * j) (pad l))) 80) (Hs (pad l) j) i) 0) ((rnds kf (sch (bt (List.drop (128 * j) (pad l))) 80) (Hs (pad l) j) i) 1)) (an ((rnds kf (sch (bt (List.drop (128 * j) (pad l))) 80) (Hs (pad l) j) i) 0) ((rnds kf (sch (bt (List.drop (128 * j) (pad l))) 80) (Hs (pad l) j) i) 2)))) (by rfl) (fun _ _ => run_xor rfl rfl rfl) ?_
                  (try simp only [Act.put, List.setIfInBounds_toArray, List.set_cons_zero, List.set_cons_succ])
                  refine wpX_val (v := .pointer (some ⟨p13_42, 0 + 1, none⟩)) (by rfl) (fun _ _ => run_ixarr (m := 8) (by decide) (by omega) Tryd.underlying36 (by kernel_rfl) rfl rfl rfl) ?_
                  (try simp only [Act.put, List.setIfInBounds_toArray, List.set_cons_zero, List.set_cons_succ])
                  refine wpX_cell (v := .int .u64 ((rnds kf (sch (bt (List.drop (128 * j) (pad l))) 80) (Hs (pad l) j) i) 1)) (blk_rd k_t13) (by rw [Nat.zero_add]; exact arrK_get _ _ _ _ (by omega)) (by rfl) rfl rfl (by kernel_rfl) ?_
                  (try simp only [Act.put, List.setIfInBounds_toArray, List.set_cons_zero, List.set_cons_succ])
                  refine wpX_val (v := .pointer (some ⟨p13_42, 0 + 2, none⟩)) (by rfl) (fun _ _ => run_ixarr (m := 8) (by decide) (by omega) Tryd.underlying36 (by kernel_rfl) rfl rfl rfl) ?_
                  (try simp only [Act.put, List.setIfInBounds_toArray, List.set_cons_zero, List.set_cons_succ])
                  refine wpX_cell (v := .int .u64 ((rnds kf (sch (bt (List.drop (128 * j) (pad l))) 80) (Hs (pad l) j) i) 2)) (blk_rd k_t13) (by rw [Nat.zero_add]; exact arrK_get _ _ _ _ (by omega)) (by rfl) rfl rfl (by kernel_rfl) ?_
                  (try simp only [Act.put, List.setIfInBounds_toArray, List.set_cons_zero, List.set_cons_succ])
                  refine wpX_val (v := .int .u64 (an ((rnds kf (sch (bt (List.drop (128 * j) (pad l))) 80) (Hs (pad l) j) i) 1) ((rnds kf (sch (bt (List.drop (128 * j) (pad l))) 80) (Hs (pad l) j) i) 2))) (by rfl) (fun _ _ => run_and rfl rfl rfl) ?_
                  (try simp only [Act.put, List.setIfInBounds_toArray, List.set_cons_zero, List.set_cons_succ])
                  refine wpX_val (v := .int .u64 (xo (xo (an ((rnds kf (sch (bt (List.drop (128 * j) (pad l))) 80) (Hs (pad l) j) i) 0) ((rnds kf (sch (bt (List.drop (128 * j) (pad l))) 80) (Hs (pad l) j) i) 1)) (an ((rnds kf (sch (bt (List.drop (128 * j) (pad l))) 80) (Hs (pad l) j) i) 0) ((rnds kf (sch (bt (List.drop (128 * j) (pad l))) 80) (Hs (pad l) j) i) 2))) (an ((rnds kf (sch (bt (List.drop (128 * j) (pad l))) 80) (Hs (pad l) j) i) 1) ((rnds kf (sch (bt (List.drop (128 * j) (pad l))) 80) (Hs (pad l) j) i) 2)))) (by rfl) (fun _ _ => run_xor rfl rfl rfl) ?_
                  (try simp only [Act.put, List.setIfInBounds_toArray, List.set_cons_zero, List.set_cons_succ])
                  refine wpX_val (v := .int .u64 (rU (rnds kf (sch (bt (List.drop (128 * j) (pad l))) 80) (Hs (pad l) j) i))) (by rfl) (fun _ _ => by first | rfl | (go_simp; done) | (go_simp; with_reducible rfl)) ?_
                  (try simp only [Act.put, List.setIfInBounds_toArray, List.set_cons_zero, List.set_cons_succ])
                  (refine wpX_val (v := ?_) (by rfl) (fun W hW => ?_) ?_; rotate_left 1; (focus (go_simp; first | done | with_reducible rfl)); (try simp only [Act.put, List.setIfInBounds_toArray, List.set_cons_zero, List.set_cons_succ]))
                  refine wpX_nil ?_
                  intro β W46 hE hN hD
                  clear hN hD
                  simp only [putAll, Act.put, List.setIfInBounds_toArray, List.set_cons_zero, List.set_cons_succ, List.drop_succ_cons, List.drop_zero, List.drop_nil, List.length_nil, Nat.add_zero]
                  have hO := off_ext hE
                  replace k_t6 := blk_off k_t6 hO nm0
                  replace k_t8 := blk_off k_t8 hO nm0
                  replace k_t13 := blk_off k_t13 hO nm0
                  replace ow_b := Owz.off ow_b hO f0
                  replace off0 := off0.step hO i0
                  replace sz := off0.size
                  clear hO hE β
                  refine wpL_nil ?_
                  first | with_reducible refine NoPanic.normal (Q := Exit.then _ _) ?_ | with_reducible refine NoPanic.normal ?_
                  go_upto_region 32 with fail
                  refine wp_region_lit ?_
                  (refine wpL_val (v := ?_) (by rfl) ?_ ?_; rotate_left 1; (focus (go_simp; first | done | with_reducible rfl)))
                  (try simp only [Act.put, List.setIfInBounds_toArray, List.set_cons_zero, List.set_cons_succ])
                  (refine wpL_val (v := ?_) (by rfl) ?_ ?_; rotate_left 1; (focus (go_simp; first | done | with_reducible rfl)))
                  (try simp only [Act.put, List.setIfInBounds_toArray, List.set_cons_zero, List.set_cons_succ])
                  refine wpL_val (v := .int .u64 (ad (rT kf (sch (bt (List.drop (128 * j) (pad l))) 80) i (rnds kf (sch (bt (List.drop (128 * j) (pad l))) 80) (Hs (pad l) j) i)) (rU (rnds kf (sch (bt (List.drop (128 * j) (pad l))) 80) (Hs (pad l) j) i)))) (by rfl) (run_add rfl rfl rfl) ?_
                  (try simp only [Act.put, List.setIfInBounds_toArray, List.set_cons_zero, List.set_cons_succ])
                  refine wpL_val (v := .pointer (some ⟨p13_42, 0 + 0, none⟩)) (by rfl) (run_ixarr (m := 8) (by decide) (by omega) Tryd.underlying36 (by kernel_rfl) rfl rfl rfl) ?_
                  (try simp only [Act.put, List.setIfInBounds_toArray, List.set_cons_zero, List.set_cons_succ])
                  refine wpL_get (v := .int .u64 ((rnds kf (sch (bt (List.drop (128 * j) (pad l))) 80) (Hs (pad l) j) i) 0)) (by rfl) rfl rfl k_t13 (by rw [Nat.zero_add]; exact arrK_get _ _ _ _ (by omega)) (by kernel_rfl) ?_
                  (try simp only [Act.put, List.setIfInBounds_toArray, List.set_cons_zero, List.set_cons_succ])
                  refine wpL_val (v := .pointer (some ⟨p13_42, 0 + 1, none⟩)) (by rfl) (run_ixarr (m := 8) (by decide) (by omega) Tryd.underlying36 (by kernel_rfl) rfl rfl rfl) ?_
                  (try simp only [Act.put, List.setIfInBounds_toArray, List.set_cons_zero, List.set_cons_succ])
                  refine wpL_get (v := .int .u64 ((rnds kf (sch (bt (List.drop (128 * j) (pad l))) 80) (Hs (pad l) j) i) 1)) (by rfl) rfl rfl k_t13 (by rw [Nat.zero_add]; exact arrK_get _ _ _ _ (by omega)) (by kernel_rfl) ?_
                  (try simp only [Act.put, List.setIfInBounds_toArray, List.set_cons_zero, List.set_cons_succ])
                  refine wpL_val (v := .pointer (some ⟨p13_42, 0 + 2, none⟩)) (by rfl) (run_ixarr (m := 8) (by decide) (by omega) Tryd.underlying36 (by kernel_rfl) rfl rfl rfl) ?_
                  (try simp only [Act.put, List.setIfInBounds_toArray, List.set_cons_zero, List.set_cons_succ])
                  refine wpL_get (v := .int .u64 ((rnds kf (sch (bt (List.drop (128 * j) (pad l))) 80) (Hs (pad l) j) i) 2)) (by rfl) rfl rfl k_t13 (by rw [Nat.zero_add]; exact arrK_get _ _ _ _ (by omega)) (by kernel_rfl) ?_
                  (try simp only [Act.put, List.setIfInBounds_toArray, List.set_cons_zero, List.set_cons_succ])
                  refine wpL_val (v := .pointer (some ⟨p13_42, 0 + 3, none⟩)) (by rfl) (run_ixarr (m := 8) (by decide) (by omega) Tryd.underlying36 (by kernel_rfl) rfl rfl rfl) ?_
                  (try simp only [Act.put, List.setIfInBounds_toArray, List.set_cons_zero, List.set_cons_succ])
                  refine wpL_get (v := .int .u64 ((rnds kf (sch (bt (List.drop (128 * j) (pad l))) 80) (Hs (pad l) j) i) 3)) (by rfl) rfl rfl k_t13 (by rw [Nat.zero_add]; exact arrK_get _ _ _ _ (by omega)) (by kernel_rfl) ?_
                  (try simp only [Act.put, List.setIfInBounds_toArray, List.set_cons_zero, List.set_cons_succ])
                  (refine wpL_val (v := ?_) (by rfl) ?_ ?_; rotate_left 1; (focus (go_simp; first | done | with_reducible rfl)))
                  (try simp only [Act.put, List.setIfInBounds_toArray, List.set_cons_zero, List.set_cons_succ])
                  refine wpL_val (v := .int .u64 (ad ((rnds kf (sch (bt (List.drop (128 * j) (pad l))) 80) (Hs (pad l) j) i) 3) (rT kf (sch (bt (List.drop (128 * j) (pad l))) 80) i (rnds kf (sch (bt (List.drop (128 * j) (pad l))) 80) (Hs (pad l) j) i)))) (by rfl) (run_add rfl rfl rfl) ?_
                  (try simp only [Act.put, List.setIfInBounds_toArray, List.set_cons_zero, List.set_cons_succ])
                  refine wpL_val (v := .pointer (some ⟨p13_42, 0 + 4, none⟩)) (by rfl) (run_ixarr (m := 8) (by decide) (by omega) Tryd.underlying36 (by kernel_rfl) rfl rfl rfl) ?_
                  (try simp only [Act.put, List.setIfInBounds_toArray, List.set_cons_zero, List.set_cons_succ])
                  refine wpL_get (v := .int .u64 ((rnds kf (sch (bt (List.drop (128 * j) (pad l))) 80) (Hs (pad l) j) i) 4)) (by rfl) rfl rfl k_t13 (by rw [Nat.zero_add]; exact arrK_get _ _ _ _ (by omega)) (by kernel_rfl) ?_
                  (try simp only [Act.put, List.setIfInBounds_toArray, List.set_cons_zero, List.set_cons_succ])
                  refine wpL_val (v := .pointer (some ⟨p13_42, 0 + 5, none⟩)) (by rfl) (run_ixarr (m := 8) (by decide) (by omega) Tryd.underlying36 (by kernel_rfl) rfl rfl rfl) ?_
                  (try simp only [Act.put, List.setIfInBounds_toArray, List.set_cons_zero, List.set_cons_succ])
                  refine wpL_get (v := .int .u64 ((rnds kf (sch (bt (List.drop (128 * j) (pad l))) 80) (Hs (pad l) j) i) 5)) (by rfl) rfl rfl k_t13 (by rw [Nat.zero_add]; exact arrK_get _ _ _ _ (by omega)) (by kernel_rfl) ?_
                  (try simp only [Act.put, List.setIfInBounds_toArray, List.set_cons_zero, List.set_cons_succ])
                  refine wpL_val (v := .pointer (some ⟨p13_42, 0 + 6, none⟩)) (by rfl) (run_ixarr (m := 8) (by decide) (by omega) Tryd.underlying36 (by kernel_rfl) rfl rfl rfl) ?_
                  (try simp only [Act.put, List.setIfInBounds_toArray, List.set_cons_zero, List.set_cons_succ])
                  refine wpL_get (v := .int .u64 ((rnds kf (sch (bt (List.drop (128 * j) (pad l))) 80) (Hs (pad l) j) i) 6)) (by rfl) rfl rfl k_t13 (by rw [Nat.zero_add]; exact arrK_get _ _ _ _ (by omega)) (by kernel_rfl) ?_
                  (try simp only [Act.put, List.setIfInBounds_toArray, List.set_cons_zero, List.set_cons_succ])
                  refine wpL_val (v := .agg (arrK .u64 8 (rnds kf (sch (bt (List.drop (128 * j) (pad l))) 80) (Hs (pad l) j) (i + 1)))) (by rfl) (by first | rfl | (go_simp; rfl)) ?_
                  (try simp only [Act.put, List.setIfInBounds_toArray, List.set_cons_zero, List.set_cons_succ])
                  refine wpL_putrow (cells := arrK .u64 8 (rnds kf (sch (bt (List.drop (128 * j) (pad l))) 80) (Hs (pad l) j) (i + 1))) (by rfl) rfl rfl rfl k_t13 (by rw [arrK_size]; kernel_rfl) (by rw [arrK_size, arrK_size]) (by exact arrK_one _ _ _) ?_
                  (try simp only [Act.put, List.setIfInBounds_toArray, List.set_cons_zero, List.set_cons_succ])
                  intro W47 hO h_
                  replace k_t13 : Blk W47 p13_42 (arrK .u64 8 (rnds kf (sch (bt (List.drop (128 * j) (pad l))) 80) (Hs (pad l) j) (i + 1))) 36 := h_
                  clear h_
                  replace k_t6 := blk_off k_t6 hO (nm1 nq_t6_t13)
                  replace k_t8 := blk_off k_t8 hO (nm1 nq_t8_t13)
                  replace ow_b := Owz.off ow_b hO (f1 ne_b_t13)
                  replace off0 := off0.step hO (i1 fb_t13)
                  replace sz := off0.size
                  clear hO
                  refine wpL_nil ?_
                  go_wp2
                  go_roundw
                  case rel => exact ⟨i + 1, by omega, by go_num, off0, k_t6, k_t8, k_t13, ow_b⟩
                  case measure => simp [intOf]; omega
                · have _f := h80
                  obtain rfl : i = 80 := by omega
                  go_upto_region 28 with fail
                  refine wp_region_lit ?_
                  (refine wpL_val (v := ?_) (by rfl) ?_ ?_; rotate_left 1; (focus (go_simp; first | done | with_reducible rfl)))
                  (try simp only [Act.put, List.setIfInBounds_toArray, List.set_cons_zero, List.set_cons_succ])
                  refine wpL_val (v := .bool false) (by rfl) (by first | rfl | (go_simp; done) | (go_simp; with_reducible rfl) | (go_simp; omega)) ?_
                  (try simp only [Act.put, List.setIfInBounds_toArray, List.set_cons_zero, List.set_cons_succ])
                  refine wpL_nil ?_
                  go_wp2_with fail
                  go_loopw [17] (fun ii wr => ∃ (i : Nat), (i ≤ 8) ∧ (ii = .int .i64 (i : Int)) ∧ Off [] w wr ∧ Blk wr p6_37 (arrK .u64 8 (mx (Hs (pad l) j) (rnds kf (sch (bt (List.drop (128 * j) (pad l))) 80) (Hs (pad l) j) 80) i)) 36 ∧ Blk wr p8_40 (arrK .u64 80 (sch (bt (List.drop (128 * j) (pad l))) 80)) 38 ∧ Blk wr p13_42 (arrK .u64 8 (rnds kf (sch (bt (List.drop (128 * j) (pad l))) 80) (Hs (pad l) j) 80)) 36 ∧ Owz wr v50_36 (pad l))
                    (fun ii _ => 8 - (intOf ii).toNat)
                  case atStart => exact ⟨0, Nat.zero_le _, rfl, off0, (by rw [mx_zero]; exact k_t6), k_t8, k_t13, ow_b⟩
                  case round =>
                    obtain ⟨i, hi, rfl, off0, k_t6, k_t8, k_t13, ow_b⟩ := hrel
                    obtain ⟨W45, eW_⟩ := wname off0
                    subst eW_
                    have sz := off0.size
                    by_cases h8 : i < 8
                    · have _f := h8
                      go_upto_region 34 with fail
                      refine wp_region_lit ?_
                      (refine wpL_val (v := ?_) (by rfl) ?_ ?_; rotate_left 1; (focus (go_simp; first | done | with_reducible rfl)))
                      (try simp only [Act.put, List.setIfInBounds_toArray, List.set_cons_zero, List.set_cons_succ])
                      refine wpL_val (v := .bool true) (by rfl) (by first | rfl | (go_simp; done) | (go_simp; with_reducible rfl) | (go_simp; omega)) ?_
                      (try simp only [Act.put, List.setIfInBounds_toArray, List.set_cons_zero, List.set_cons_succ])
                      refine wpL_nil ?_
                      go_upto_region 36 with fail
                      refine wp_region_xn 9 [] (by kernel_rfl) (fun x hx => by cases hx) (by kernel_rfl) ?_
                      simp only [List.take_succ_cons, List.take_zero, List.take_nil]
                      (try simp only [Act.put, List.setIfInBounds_toArray, List.set_cons_zero, List.set_cons_succ])
                      (refine wpX_val (v := ?_) (by rfl) (fun W hW => ?_) ?_; rotate_left 1; (focus (go_simp; first | done | with_reducible rfl)); (try simp only [Act.put, List.setIfInBounds_toArray, List.set_cons_zero, List.set_cons_succ]))
                      (refine wpX_val (v := ?_) (by rfl) (fun W hW => ?_) ?_; rotate_left 1; (focus (go_simp; first | done | with_reducible rfl)); (try simp only [Act.put, List.setIfInBounds_toArray, List.set_cons_zero, List.set_cons_succ]))
                      refine wpX_val (v := .pointer (some ⟨p6_37, 0 + i, none⟩)) (by rfl) (fun _ _ => run_ixarr (m := 8) (by decide) (by omega) Tryd.underlying36 (by kernel_rfl) rfl rfl rfl) ?_
                      (try simp only [Act.put, List.setIfInBounds_toArray, List.set_cons_zero, List.set_cons_succ])
                      refine wpX_cell (v := .int .u64 ((mx (Hs (pad l) j) (rnds kf (sch (bt (List.drop (128 * j) (pad l))) 80) (Hs (pad l) j) 80) i) i)) (blk_rd k_t6) (by rw [Nat.zero_add]; exact arrK_get _ _ _ _ (by omega)) (by rfl) rfl rfl (by kernel_rfl) ?_
                      (try simp only [Act.put, List.setIfInBounds_toArray, List.set_cons_zero, List.set_cons_succ])
                      (refine wpX_val (v := ?_) (by rfl) (fun W hW => ?_) ?_; rotate_left 1; (focus (go_simp; first | done | with_reducible rfl)); (try simp only [Act.put, List.setIfInBounds_toArray, List.set_cons_zero, List.set_cons_succ]))
                      refine wpX_val (v := .pointer (some ⟨p13_42, 0 + i, none⟩)) (by rfl) (fun _ _ => run_ixarr (m := 8) (by decide) (by omega) Tryd.underlying36 (by kernel_rfl) rfl rfl rfl) ?_
                      (try simp only [Act.put, List.setIfInBounds_toArray, List.set_cons_zero, List.set_cons_succ])
                      refine wpX_cell (v := .int .u64 ((rnds kf (sch (bt (List.drop (128 * j) (pad l))) 80) (Hs (pad l) j) 80) i)) (blk_rd k_t13) (by rw [Nat.zero_add]; exact arrK_get _ _ _ _ (by omega)) (by rfl) rfl rfl (by kernel_rfl) ?_
                      (try simp only [Act.put, List.setIfInBounds_toArray, List.set_cons_zero, List.set_cons_succ])
                      refine wpX_val (v := .int .u64 (ad ((mx (Hs (pad l) j) (rnds kf (sch (bt (List.drop (128 * j) (pad l))) 80) (Hs (pad l) j) 80) i) i) ((rnds kf (sch (bt (List.drop (128 * j) (pad l))) 80) (Hs (pad l) j) 80) i))) (by rfl) (fun _ _ => run_add rfl rfl rfl) ?_
                      (try simp only [Act.put, List.setIfInBounds_toArray, List.set_cons_zero, List.set_cons_succ])
                      refine wpX_val (v := .pointer (some ⟨p6_37, 0 + i, none⟩)) (by rfl) (fun _ _ => run_ixarr (m := 8) (by decide) (by omega) Tryd.underlying36 (by kernel_rfl) rfl rfl rfl) ?_
                      (try simp only [Act.put, List.setIfInBounds_toArray, List.set_cons_zero, List.set_cons_succ])
                      refine wpX_nil ?_
                      intro β W46 hE hN hD
                      clear hN hD
                      simp only [putAll, Act.put, List.setIfInBounds_toArray, List.set_cons_zero, List.set_cons_succ, List.drop_succ_cons, List.drop_zero, List.drop_nil, List.length_nil, Nat.add_zero]
                      have hO := off_ext hE
                      replace k_t6 := blk_off k_t6 hO nm0
                      replace k_t8 := blk_off k_t8 hO nm0
                      replace k_t13 := blk_off k_t13 hO nm0
                      replace ow_b := Owz.off ow_b hO f0
                      replace off0 := off0.step hO i0
                      replace sz := off0.size
                      clear hO hE β
                      refine wpL_put1 (v := .int .u64 (ad ((mx (Hs (pad l) j) (rnds kf (sch (bt (List.drop (128 * j) (pad l))) 80) (Hs (pad l) j) 80) i) i) ((rnds kf (sch (bt (List.drop (128 * j) (pad l))) 80) (Hs (pad l) j) 80) i))) ⟨rfl, rfl⟩ (by rfl) rfl rfl rfl k_t6 (by rw [arrK_size, Nat.zero_add]; omega) (by kernel_rfl) ?_
                      (try simp only [Act.put, List.setIfInBounds_toArray, List.set_cons_zero, List.set_cons_succ])
                      intro W47 hO h_
                      rw [Nat.zero_add, arrK_set] at h_
                      replace k_t6 : Blk W47 p6_37 (arrK .u64 8 (upd (mx (Hs (pad l) j) (rnds kf (sch (bt (List.drop (128 * j) (pad l))) 80) (Hs (pad l) j) 80) i) i (ad ((mx (Hs (pad l) j) (rnds kf (sch (bt (List.drop (128 * j) (pad l))) 80) (Hs (pad l) j) 80) i) i) ((rnds kf (sch (bt (List.drop (128 * j) (pad l))) 80) (Hs (pad l) j) 80) i)))) 36 := h_
                      clear h_
                      replace k_t8 := blk_off k_t8 hO (nm1 nq_t6_t8.symm)
                      replace k_t13 := blk_off k_t13 hO (nm1 nq_t6_t13.symm)
                      replace ow_b := Owz.off ow_b hO (f1 ne_b_t6)
                      replace off0 := off0.step hO (i1 fb_t6)
                      replace sz := off0.size
                      clear hO
                      refine wpL_nil ?_
                      first | with_reducible refine NoPanic.normal (Q := Exit.then _ _) ?_ | with_reducible refine NoPanic.normal ?_
                      go_wp2
                      go_roundw
                      case rel => exact ⟨i + 1, by omega, by go_num, off0, (by rw [← mx_step]; exact k_t6), k_t8, k_t13, ow_b⟩
                      case measure => simp [intOf]; omega
                    · have _f := h8
                      obtain rfl : i = 8 := by omega
                      rw [mx_end] at k_t6
                      go_upto_region 34 with fail
                      refine wp_region_lit ?_
                      (refine wpL_val (v := ?_) (by rfl) ?_ ?_; rotate_left 1; (focus (go_simp; first | done | with_reducible rfl)))
                      (try simp only [Act.put, List.setIfInBounds_toArray, List.set_cons_zero, List.set_cons_succ])
                      refine wpL_val (v := .bool false) (by rfl) (by first | rfl | (go_simp; done) | (go_simp; with_reducible rfl) | (go_simp; omega)) ?_
                      (try simp only [Act.put, List.setIfInBounds_toArray, List.set_cons_zero, List.set_cons_succ])
                      refine wpL_nil ?_
                      go_wp2
                      go_roundw
                      case rel => exact ⟨j + 1, by omega, by first | go_num | (go_simp; omega), off0, k_t6, ow_b⟩
                      case measure => simp [intOf]; omega
        · have _f := hjl
          obtain rfl : j = nb l.length := by omega
          go_upto_region 13 with fail
          refine wp_region_lit ?_
          (refine wpL_val (v := ?_) (by rfl) ?_ ?_; rotate_left 1; (focus (go_simp; first | done | with_reducible rfl)))
          (try simp only [Act.put, List.setIfInBounds_toArray, List.set_cons_zero, List.set_cons_succ])
          (refine wpL_val (v := ?_) (by rfl) ?_ ?_; rotate_left 1; (focus (go_simp; first | done | with_reducible rfl)))
          (try simp only [Act.put, List.setIfInBounds_toArray, List.set_cons_zero, List.set_cons_succ])
          refine wpL_len (l := (pad l)) (ow_b.sl) (by rfl) rfl rfl ?_
          (try simp only [Act.put, List.setIfInBounds_toArray, List.set_cons_zero, List.set_cons_succ])
          refine wpL_val (v := .bool false) (by rfl) (by first | (go_simp; done) | (go_simp; (try simp only [hpl]); omega)) ?_
          (try simp only [Act.put, List.setIfInBounds_toArray, List.set_cons_zero, List.set_cons_succ])
          refine wpL_nil ?_
          go_upto_region 37 with fail
          refine wp_region_lit ?_
          refine wpL_newS (z := #[]) (t := 5) (n := 0) (c := 0) (by rfl) (by first | kernel_rfl | (go_simp; done) | (go_simp; rfl)) ?_
          (try simp only [Act.put, List.setIfInBounds_toArray, List.set_cons_zero, List.set_cons_succ])
          intro p224_40 W40 n_s224 hO h_
          have ne_s224_t6 : Value.ownBlock (.slice (some ⟨p224_40, 0, none⟩) 0 0) ≠ some p6_37 := fun e_ => (Nat.ne_of_lt (Nat.lt_of_lt_of_le (blk_lt k_t6) n_s224)) (Option.some.inj e_).symm
          have dj_b_s224 : ∀ x, (Value.ownBlock v50_36) = some x → Value.ownBlock (.slice (some ⟨p224_40, 0, none⟩) 0 0) ≠ some x := dj_new (Owz.lt ow_b) n_s224
          have fr_s224 : Fr (Value.ownBlock (.slice (some ⟨p224_40, 0, none⟩) 0 0)) w.heap.size [] := fr_new (Nat.le_trans sz n_s224)
          replace k_t6 := blk_off k_t6 hO nm0
          replace ow_b := Owz.off ow_b hO f0
          replace off0 := off0.step hO i0
          replace sz := off0.size
          have ow_s224 : Own W40 (.slice (some ⟨p224_40, 0, none⟩) 0 0) [] := own_blk h_ (by rfl) (by show 0 ≤ maxLen; decide)
          clear hO h_ n_s224
          (refine wpL_val (v := ?_) (by rfl) ?_ ?_; rotate_left 1; (focus (go_simp; first | done | with_reducible rfl)))
          (try simp only [Act.put, List.setIfInBounds_toArray, List.set_cons_zero, List.set_cons_succ])
          refine wpL_nil ?_
          clear ow_b fr_b ne_b_t6 dj_b_s224
          have ow_b := ow_s224
          clear ow_s224
          have fr_b := fr_s224
          have ne_b_t6 := ne_s224_t6
          go_wp2_with fail
          go_loopw [18, 19] (fun sv ii wr => ∃ (i : Nat) (bv : Value), (i ≤ 8) ∧ (bv = sv) ∧ (ii = .int .i64 (i : Int)) ∧ Off [] w wr ∧ Blk wr p6_37 (arrK .u64 8 (Hs (pad l) (nb l.length))) 36 ∧ Own wr bv (wb (Hs (pad l) (nb l.length)) (8 * i)) ∧ Fr (Value.ownBlock bv) w.heap.size [] ∧ (Value.ownBlock bv) ≠ some p6_37)
            (fun sv ii _ => 8 - (intOf ii).toNat)
          case atStart => exact ⟨0, _, Nat.zero_le _, rfl, rfl, off0, k_t6, ow_b, fr_b, ne_b_t6⟩
          case round =>
            obtain ⟨i, bv, hi, rfl, rfl, off0, k_t6, ow_b, fr_b, ne_b_t6⟩ := hrel
            obtain ⟨W41, eW_⟩ := wname off0
            subst eW_
            have sz := off0.size
            by_cases h8 : i < 8
            · have _f := h8
              go_upto_region 39 with fail
              refine wp_region_lit ?_
              (refine wpL_val (v := ?_) (by rfl) ?_ ?_; rotate_left 1; (focus (go_simp; first | done | with_reducible rfl)))
              (try simp only [Act.put, List.setIfInBounds_toArray, List.set_cons_zero, List.set_cons_succ])
              refine wpL_val (v := .bool true) (by rfl) (by first | rfl | (go_simp; done) | (go_simp; with_reducible rfl) | (go_simp; omega)) ?_
              (try simp only [Act.put, List.setIfInBounds_toArray, List.set_cons_zero, List.set_cons_succ])
              refine wpL_nil ?_
              go_wp2_with fail
              refine wp_loop_rounds 9 ?_
              rw [rounds_succ]
              go_upto_region 44 with fail
              refine wp_region_lit ?_
              (refine wpL_val (v := ?_) (by rfl) ?_ ?_; rotate_left 1; (focus (go_simp; first | done | with_reducible rfl)))
              (try simp only [Act.put, List.setIfInBounds_toArray, List.set_cons_zero, List.set_cons_succ])
              (refine wpL_val (v := ?_) (by rfl) ?_ ?_; rotate_left 1; (focus (go_simp; first | done | with_reducible rfl)))
              (try simp only [Act.put, List.setIfInBounds_toArray, List.set_cons_zero, List.set_cons_succ])
              refine wpL_val (v := .pointer (some ⟨p6_37, 0 + i, none⟩)) (by rfl) (run_ixarr (m := 8) (by decide) (by omega) Tryd.underlying36 (by kernel_rfl) rfl rfl rfl) ?_
              (try simp only [Act.put, List.setIfInBounds_toArray, List.set_cons_zero, List.set_cons_succ])
              refine wpL_get (v := .int .u64 ((Hs (pad l) (nb l.length)) i)) (by rfl) rfl rfl k_t6 (by rw [Nat.zero_add]; exact arrK_get _ _ _ _ (by omega)) (by kernel_rfl) ?_
              (try simp only [Act.put, List.setIfInBounds_toArray, List.set_cons_zero, List.set_cons_succ])
              refine wpL_val (v := .int .i64 56) (by rfl) (by first | rfl | (go_simp; done) | (go_simp; with_reducible rfl) | (go_simp; omega)) ?_
              (try simp only [Act.put, List.setIfInBounds_toArray, List.set_cons_zero, List.set_cons_succ])
              refine wpL_val (v := .int .u64 (sr ((Hs (pad l) (nb l.length)) i) 56)) (by rfl) (run_shr (n := 56) (by decide) rfl rfl rfl) ?_
              (try simp only [Act.put, List.setIfInBounds_toArray, List.set_cons_zero, List.set_cons_succ])
              refine wpL_val (v := .int .u8 ((bo (Hs (pad l) (nb l.length)) (8 * i + 0)).toNat : Int)) (by rfl) (by rw [← bo_cast _ i 0 (by decide)]; exact run_c8 rfl rfl) ?_
              (try simp only [Act.put, List.setIfInBounds_toArray, List.set_cons_zero, List.set_cons_succ])
              refine wpL_newS (z := #[.int .u8 ((bo (Hs (pad l) (nb l.length)) (8 * i + 0)).toNat : Int)]) (t := 5) (n := 1) (c := 1) (by rfl) (by first | kernel_rfl | (go_simp; done) | (go_simp; rfl)) ?_
              (try simp only [Act.put, List.setIfInBounds_toArray, List.set_cons_zero, List.set_cons_succ])
              intro p240_42 W42 n_s240 hO h_
              have ne_s240_t6 : Value.ownBlock (.slice (some ⟨p240_42, 0, none⟩) 1 1) ≠ some p6_37 := fun e_ => (Nat.ne_of_lt (Nat.lt_of_lt_of_le (blk_lt k_t6) n_s240)) (Option.some.inj e_).symm
              have dj_b_s240 : ∀ x, (Value.ownBlock bv) = some x → Value.ownBlock (.slice (some ⟨p240_42, 0, none⟩) 1 1) ≠ some x := dj_new (Own.lt ow_b) n_s240
              have fr_s240 : Fr (Value.ownBlock (.slice (some ⟨p240_42, 0, none⟩) 1 1)) w.heap.size [] := fr_new (Nat.le_trans sz n_s240)
              replace k_t6 := blk_off k_t6 hO nm0
              replace ow_b := Own.off ow_b hO f0
              replace off0 := off0.step hO i0
              replace sz := off0.size
              have ow_s240 : Own W42 (.slice (some ⟨p240_42, 0, none⟩) 1 1) [bo (Hs (pad l) (nb l.length)) (8 * i + 0)] := own_blk h_ (by rfl) (by show 1 ≤ maxLen; decide)
              clear hO h_ n_s240
              refine wpL_append (xs := (wb (Hs (pad l) (nb l.length)) (8 * i))) (ys := [bo (Hs (pad l) (nb l.length)) (8 * i + 0)]) (by rfl) rfl rfl rfl ow_b (ow_s240.sl) (by first | omega | (simp only [List.length_append, List.length_cons, List.length_nil, List.length_replicate, wb_length]; omega)) ?_
              (try simp only [Act.put, List.setIfInBounds_toArray, List.set_cons_zero, List.set_cons_succ])
              intro v241_43 W43 ow_a241 hO at_a241 nil_a241
              clear nil_a241
              have ne_a241_t6 := own_ne at_a241 ne_b_t6 (blk_lt k_t6)
              have dj_a241_s240 := own_dj at_a241 dj_b_s240 (Own.lt ow_s240)
              have fr_a241 := own_fr at_a241 fr_b sz
              replace k_t6 := blk_off k_t6 hO (nmo ne_b_t6)
              replace ow_s240 := Own.off ow_s240 hO (fo dj_b_s240)
              replace off0 := off0.step hO (io fr_b)
              replace sz := off0.size
              clear hO at_a241
              have ow_b := ow_a241
              clear ow_a241
              have fr_b := fr_a241
              have ne_b_t6 := ne_a241_t6
              have dj_b_s240 := dj_a241_s240
              (refine wpL_val (v := ?_) (by rfl) ?_ ?_; rotate_left 1; (focus (go_simp; first | done | with_reducible rfl)))
              (try simp only [Act.put, List.setIfInBounds_toArray, List.set_cons_zero, List.set_cons_succ])
              refine wpL_nil ?_
              go_wp2_with fail
              rw [rounds_succ]
              go_upto_region 44 with fail
              refine wp_region_lit ?_
              (refine wpL_val (v := ?_) (by rfl) ?_ ?_; rotate_left 1; (focus (go_simp; first | done | with_reducible rfl)))
              (try simp only [Act.put, List.setIfInBounds_toArray, List.set_cons_zero, List.set_cons_succ])
              (refine wpL_val (v := ?_) (by rfl) ?_ ?_; rotate_left 1; (focus (go_simp; first | done | with_reducible rfl)))
              (try simp only [Act.put, List.setIfInBounds_toArray, List.set_cons_zero, List.set_cons_succ])
              refine wpL_val (v := .pointer (some ⟨p6_37, 0 + i, none⟩)) (by rfl) (run_ixarr (m := 8) (by decide) (by omega) Tryd.underlying36 (by kernel_rfl) rfl rfl rfl) ?_
              (try simp only [Act.put, List.setIfInBounds_toArray, List.set_cons_zero, List.set_cons_succ])
              refine wpL_get (v := .int .u64 ((Hs (pad l) (nb l.length)) i)) (by rfl) rfl rfl k_t6 (by rw [Nat.zero_add]; exact arrK_get _ _ _ _ (by omega)) (by kernel_rfl) ?_
              (try simp only [Act.put, List.setIfInBounds_toArray, List.set_cons_zero, List.set_cons_succ])
              refine wpL_val (v := .int .i64 48) (by rfl) (by first | rfl | (go_simp; done) | (go_simp; with_reducible rfl) | (go_simp; omega)) ?_
              (try simp only [Act.put, List.setIfInBounds_toArray, List.set_cons_zero, List.set_cons_succ])
              refine wpL_val (v := .int .u64 (sr ((Hs (pad l) (nb l.length)) i) 48)) (by rfl) (run_shr (n := 48) (by decide) rfl rfl rfl) ?_
              (try simp only [Act.put, List.setIfInBounds_toArray, List.set_cons_zero, List.set_cons_succ])
              refine wpL_val (v := .int .u8 ((bo (Hs (pad l) (nb l.length)) (8 * i + 1)).toNat : Int)) (by rfl) (by rw [← bo_cast _ i 1 (by decide)]; exact run_c8 rfl rfl) ?_
              (try simp only [Act.put, List.setIfInBounds_toArray, List.set_cons_zero, List.set_cons_succ])
              clear ow_s240 fr_s240 ne_s240_t6 dj_b_s240
              refine wpL_newS (z := #[.int .u8 ((bo (Hs (pad l) (nb l.length)) (8 * i + 1)).toNat : Int)]) (t := 5) (n := 1) (c := 1) (by rfl) (by first | kernel_rfl | (go_simp; done) | (go_simp; rfl)) ?_
              (try simp only [Act.put, List.setIfInBounds_toArray, List.set_cons_zero, List.set_cons_succ])
              intro p240_44 W44 n_s240 hO h_
              have ne_s240_t6 : Value.ownBlock (.slice (some ⟨p240_44, 0, none⟩) 1 1) ≠ some p6_37 := fun e_ => (Nat.ne_of_lt (Nat.lt_of_lt_of_le (blk_lt k_t6) n_s240)) (Option.some.inj e_).symm
              have dj_b_s240 : ∀ x, (Value.ownBlock v241_43) = some x → Value.ownBlock (.slice (some ⟨p240_44, 0, none⟩) 1 1) ≠ some x := dj_new (Own.lt ow_b) n_s240
              have fr_s240 : Fr (Value.ownBlock (.slice (some ⟨p240_44, 0, none⟩) 1 1)) w.heap.size [] := fr_new (Nat.le_trans sz n_s240)
              replace k_t6 := blk_off k_t6 hO nm0
              replace ow_b := Own.off ow_b hO f0
              replace off0 := off0.step hO i0
              replace sz := off0.size
              have ow_s240 : Own W44 (.slice (some ⟨p240_44, 0, none⟩) 1 1) [bo (Hs (pad l) (nb l.length)) (8 * i + 1)] := own_blk h_ (by rfl) (by show 1 ≤ maxLen; decide)
              clear hO h_ n_s240
              refine wpL_append (xs := ((wb (Hs (pad l) (nb l.length)) (8 * i)) ++ [bo (Hs (pad l) (nb l.length)) (8 * i + 0)])) (ys := [bo (Hs (pad l) (nb l.length)) (8 * i + 1)]) (by rfl) rfl rfl rfl ow_b (ow_s240.sl) (by first | omega | (simp only [List.length_append, List.length_cons, List.length_nil, List.length_replicate, wb_length]; omega)) ?_
              (try simp only [Act.put, List.setIfInBounds_toArray, List.set_cons_zero, List.set_cons_succ])
              intro v241_45 W45 ow_a241 hO at_a241 nil_a241
              clear nil_a241
              have ne_a241_t6 := own_ne at_a241 ne_b_t6 (blk_lt k_t6)
              have dj_a241_s240 := own_dj at_a241 dj_b_s240 (Own.lt ow_s240)
              have fr_a241 := own_fr at_a241 fr_b sz
              replace k_t6 := blk_off k_t6 hO (nmo ne_b_t6)
              replace ow_s240 := Own.off ow_s240 hO (fo dj_b_s240)
              replace off0 := off0.step hO (io fr_b)
              replace sz := off0.size
              clear hO at_a241
              have ow_b := ow_a241
              clear ow_a241
              have fr_b := fr_a241
              have ne_b_t6 := ne_a241_t6
              have dj_b_s240 := dj_a241_s240
              (refine wpL_val (v := ?_) (by rfl) ?_ ?_; rotate_left 1; (focus (go_simp; first | done | with_reducible rfl)))
              (try simp only [Act.put, List.setIfInBounds_toArray, List.set_cons_zero, List.set_cons_succ])
              refine wpL_nil ?_
              go_wp2_with fail
              rw [rounds_succ]
              go_upto_region 44 with fail
              refine wp_region_lit ?_
              (refine wpL_val (v := ?_) (by rfl) ?_ ?_; rotate_left 1; (focus (go_simp; first | done | with_reducible rfl)))
              (try simp only [Act.put, List.setIfInBounds_toArray, List.set_cons_zero, List.set_cons_succ])
              (refine wpL_val (v := ?_) (by rfl) ?_ ?_; rotate_left 1; (focus (go_simp; first | done | with_reducible rfl)))
              (try simp only [Act.put, List.setIfInBounds_toArray, List.set_cons_zero, List.set_cons_succ])
              refine wpL_val (v := .pointer (some ⟨p6_37, 0 + i, none⟩)) (by rfl) (run_ixarr (m := 8) (by decide) (by omega) Tryd.underlying36 (by kernel_rfl) rfl rfl rfl) ?_
              (try simp only [Act.put, List.setIfInBounds_toArray, List.set_cons_zero, List.set_cons_succ])
              refine wpL_get (v := .int .u64 ((Hs (pad l) (nb l.length)) i)) (by rfl) rfl rfl k_t6 (by rw [Nat.zero_add]; exact arrK_get _ _ _ _ (by omega)) (by kernel_rfl) ?_
              (try simp only [Act.put, List.setIfInBounds_toArray, List.set_cons_zero, List.set_cons_succ])
              refine wpL_val (v := .int .i64 40) (by rfl) (by first | rfl | (go_simp; done) | (go_simp; with_reducible rfl) | (go_simp; omega)) ?_
              (try simp only [Act.put, List.setIfInBounds_toArray, List.set_cons_zero, List.set_cons_succ])
              refine wpL_val (v := .int .u64 (sr ((Hs (pad l) (nb l.length)) i) 40)) (by rfl) (run_shr (n := 40) (by decide) rfl rfl rfl) ?_
              (try simp only [Act.put, List.setIfInBounds_toArray, List.set_cons_zero, List.set_cons_succ])
              refine wpL_val (v := .int .u8 ((bo (Hs (pad l) (nb l.length)) (8 * i + 2)).toNat : Int)) (by rfl) (by rw [← bo_cast _ i 2 (by decide)]; exact run_c8 rfl rfl) ?_
              (try simp only [Act.put, List.setIfInBounds_toArray, List.set_cons_zero, List.set_cons_succ])
              clear ow_s240 fr_s240 ne_s240_t6 dj_b_s240
              refine wpL_newS (z := #[.int .u8 ((bo (Hs (pad l) (nb l.length)) (8 * i + 2)).toNat : Int)]) (t := 5) (n := 1) (c := 1) (by rfl) (by first | kernel_rfl | (go_simp; done) | (go_simp; rfl)) ?_
              (try simp only [Act.put, List.setIfInBounds_toArray, List.set_cons_zero, List.set_cons_succ])
              intro p240_46 W46 n_s240 hO h_
              have ne_s240_t6 : Value.ownBlock (.slice (some ⟨p240_46, 0, none⟩) 1 1) ≠ some p6_37 := fun e_ => (Nat.ne_of_lt (Nat.lt_of_lt_of_le (blk_lt k_t6) n_s240)) (Option.some.inj e_).symm
              have dj_b_s240 : ∀ x, (Value.ownBlock v241_45) = some x → Value.ownBlock (.slice (some ⟨p240_46, 0, none⟩) 1 1) ≠ some x := dj_new (Own.lt ow_b) n_s240
              have fr_s240 : Fr (Value.ownBlock (.slice (some ⟨p240_46, 0, none⟩) 1 1)) w.heap.size [] := fr_new (Nat.le_trans sz n_s240)
              replace k_t6 := blk_off k_t6 hO nm0
              replace ow_b := Own.off ow_b hO f0
              replace off0 := off0.step hO i0
              replace sz := off0.size
              have ow_s240 : Own W46 (.slice (some ⟨p240_46, 0, none⟩) 1 1) [bo (Hs (pad l) (nb l.length)) (8 * i + 2)] := own_blk h_ (by rfl) (by show 1 ≤ maxLen; decide)
              clear hO h_ n_s240
              refine wpL_append (xs := (((wb (Hs (pad l) (nb l.length)) (8 * i)) ++ [bo (Hs (pad l) (nb l.length)) (8 * i + 0)]) ++ [bo (Hs (pad l) (nb l.length)) (8 * i + 1)])) (ys := [bo (Hs (pad l) (nb l.length)) (8 * i + 2)]) (by rfl) rfl rfl rfl ow_b (ow_s240.sl) (by first | omega | (simp only [List.length_append, List.length_cons, List.length_nil, List.length_replicate, wb_length]; omega)) ?_
              (try simp only [Act.put, List.setIfInBounds_toArray, List.set_cons_zero, List.set_cons_succ])
              intro v241_47 W47 ow_a241 hO at_a241 nil_a241
              clear nil_a241
              have ne_a241_t6 := own_ne at_a241 ne_b_t6 (blk_lt k_t6)
              have dj_a241_s240 := own_dj at_a241 dj_b_s240 (Own.lt ow_s240)
              have fr_a241 := own_fr at_a241 fr_b sz
              replace k_t6 := blk_off k_t6 hO (nmo ne_b_t6)
              replace ow_s240 := Own.off ow_s240 hO (fo dj_b_s240)
              replace off0 := off0.step hO (io fr_b)
              replace sz := off0.size
              clear hO at_a241
              have ow_b := ow_a241
              clear ow_a241
              have fr_b := fr_a241
              have ne_b_t6 := ne_a241_t6
              have dj_b_s240 := dj_a241_s240
              (refine wpL_val (v := ?_) (by rfl) ?_ ?_; rotate_left 1; (focus (go_simp; first | done | with_reducible rfl)))
              (try simp only [Act.put, List.setIfInBounds_toArray, List.set_cons_zero, List.set_cons_succ])
              refine wpL_nil ?_
              go_wp2_with fail
              rw [rounds_succ]
              go_upto_region 44 with fail
              refine wp_region_lit ?_
              (refine wpL_val (v := ?_) (by rfl) ?_ ?_; rotate_left 1; (focus (go_simp; first | done | with_reducible rfl)))
              (try simp only [Act.put, List.setIfInBounds_toArray, List.set_cons_zero, List.set_cons_succ])
              (refine wpL_val (v := ?_) (by rfl) ?_ ?_; rotate_left 1; (focus (go_simp; first | done | with_reducible rfl)))
              (try simp only [Act.put, List.setIfInBounds_toArray, List.set_cons_zero, List.set_cons_succ])
              refine wpL_val (v := .pointer (some ⟨p6_37, 0 + i, none⟩)) (by rfl) (run_ixarr (m := 8) (by decide) (by omega) Tryd.underlying36 (by kernel_rfl) rfl rfl rfl) ?_
              (try simp only [Act.put, List.setIfInBounds_toArray, List.set_cons_zero, List.set_cons_succ])
              refine wpL_get (v := .int .u64 ((Hs (pad l) (nb l.length)) i)) (by rfl) rfl rfl k_t6 (by rw [Nat.zero_add]; exact arrK_get _ _ _ _ (by omega)) (by kernel_rfl) ?_
              (try simp only [Act.put, List.setIfInBounds_toArray, List.set_cons_zero, List.set_cons_succ])
              refine wpL_val (v := .int .i64 32) (by rfl) (by first | rfl | (go_simp; done) | (go_simp; with_reducible rfl) | (go_simp; omega)) ?_
              (try simp only [Act.put, List.setIfInBounds_toArray, List.set_cons_zero, List.set_cons_succ])
              refine wpL_val (v := .int .u64 (sr ((Hs (pad l) (nb l.length)) i) 32)) (by rfl) (run_shr (n := 32) (by decide) rfl rfl rfl) ?_
              (try simp only [Act.put, List.setIfInBounds_toArray, List.set_cons_zero, List.set_cons_succ])
              refine wpL_val (v := .int .u8 ((bo (Hs (pad l) (nb l.length)) (8 * i + 3)).toNat : Int)) (by rfl) (by rw [← bo_cast _ i 3 (by decide)]; exact run_c8 rfl rfl) ?_
              (try simp only [Act.put, List.setIfInBounds_toArray, List.set_cons_zero, List.set_cons_succ])
              clear ow_s240 fr_s240 ne_s240_t6 dj_b_s240
              refine wpL_newS (z := #[.int .u8 ((bo (Hs (pad l) (nb l.length)) (8 * i + 3)).toNat : Int)]) (t := 5) (n := 1) (c := 1) (by rfl) (by first | kernel_rfl | (go_simp; done) | (go_simp; rfl)) ?_
              (try simp only [Act.put, List.setIfInBounds_toArray, List.set_cons_zero, List.set_cons_succ])
              intro p240_48 W48 n_s240 hO h_
              have ne_s240_t6 : Value.ownBlock (.slice (some ⟨p240_48, 0, none⟩) 1 1) ≠ some p6_37 := fun e_ => (Nat.ne_of_lt (Nat.lt_of_lt_of_le (blk_lt k_t6) n_s240)) (Option.some.inj e_).symm
              have dj_b_s240 : ∀ x, (Value.ownBlock v241_47) = some x → Value.ownBlock (.slice (some ⟨p240_48, 0, none⟩) 1 1) ≠ some x := dj_new (Own.lt ow_b) n_s240
              have fr_s240 : Fr (Value.ownBlock (.slice (some ⟨p240_48, 0, none⟩) 1 1)) w.heap.size [] := fr_new (Nat.le_trans sz n_s240)
              replace k_t6 := blk_off k_t6 hO nm0
              replace ow_b := Own.off ow_b hO f0
              replace off0 := off0.step hO i0
              replace sz := off0.size
              have ow_s240 : Own W48 (.slice (some ⟨p240_48, 0, none⟩) 1 1) [bo (Hs (pad l) (nb l.length)) (8 * i + 3)] := own_blk h_ (by rfl) (by show 1 ≤ maxLen; decide)
              clear hO h_ n_s240
              refine wpL_append (xs := ((((wb (Hs (pad l) (nb l.length)) (8 * i)) ++ [bo (Hs (pad l) (nb l.length)) (8 * i + 0)]) ++ [bo (Hs (pad l) (nb l.length)) (8 * i + 1)]) ++ [bo (Hs (pad l) (nb l.length)) (8 * i + 2)])) (ys := [bo (Hs (pad l) (nb l.length)) (8 * i + 3)]) (by rfl) rfl rfl rfl ow_b (ow_s240.sl) (by first | omega | (simp only [List.length_append, List.length_cons, List.length_nil, List.length_replicate, wb_length]; omega)) ?_
              (try simp only [Act.put, List.setIfInBounds_toArray, List.set_cons_zero, List.set_cons_succ])
              intro v241_49 W49 ow_a241 hO at_a241 nil_a241
              clear nil_a241
              have ne_a241_t6 := own_ne at_a241 ne_b_t6 (blk_lt k_t6)
              have dj_a241_s240 := own_dj at_a241 dj_b_s240 (Own.lt ow_s240)
              have fr_a241 := own_fr at_a241 fr_b sz
              replace k_t6 := blk_off k_t6 hO (nmo ne_b_t6)
              replace ow_s240 := Own.off ow_s240 hO (fo dj_b_s240)
              replace off0 := off0.step hO (io fr_b)
              replace sz := off0.size
              clear hO at_a241
              have ow_b := ow_a241
              clear ow_a241
              have fr_b := fr_a241
              have ne_b_t6 := ne_a241_t6
              have dj_b_s240 := dj_a241_s240
              (refine wpL_val (v := ?_) (by rfl) ?_ ?_; rotate_left 1; (focus (go_simp; first | done | with_reducible rfl)))
              (try simp only [Act.put, List.setIfInBounds_toArray, List.set_cons_zero, List.set_cons_succ])
              refine wpL_nil ?_
              go_wp2_with fail
              rw [rounds_succ]
              go_upto_region 44 with fail
              refine wp_region_lit ?_
              (refine wpL_val (v := ?_) (by rfl) ?_ ?_; rotate_left 1; (focus (go_simp; first | done | with_reducible rfl)))
              (try simp only [Act.put, List.setIfInBounds_toArray, List.set_cons_zero, List.set_cons_succ])
              (refine wpL_val (v := ?_) (by rfl) ?_ ?_; rotate_left 1; (focus (go_simp; first | done | with_reducible rfl)))
              (try simp only [Act.put, List.setIfInBounds_toArray, List.set_cons_zero, List.set_cons_succ])
              refine wpL_val (v := .pointer (some ⟨p6_37, 0 + i, none⟩)) (by rfl) (run_ixarr (m := 8) (by decide) (by omega) Tryd.underlying36 (by kernel_rfl) rfl rfl rfl) ?_
              (try simp only [Act.put, List.setIfInBounds_toArray, List.set_cons_zero, List.set_cons_succ])
              refine wpL_get (v := .int .u64 ((Hs (pad l) (nb l.length)) i)) (by rfl) rfl rfl k_t6 (by rw [Nat.zero_add]; exact arrK_get _ _ _ _ (by omega)) (by kernel_rfl) ?_
              (try simp only [Act.put, List.setIfInBounds_toArray, List.set_cons_zero, List.set_cons_succ])
              refine wpL_val (v := .int .i64 24) (by rfl) (by first | rfl | (go_simp; done) | (go_simp; with_reducible rfl) | (go_simp; omega)) ?_
              (try simp only [Act.put, List.setIfInBounds_toArray, List.set_cons_zero, List.set_cons_succ])
              refine wpL_val (v := .int .u64 (sr ((Hs (pad l) (nb l.length)) i) 24)) (by rfl) (run_shr (n := 24) (by decide) rfl rfl rfl) ?_
              (try simp only [Act.put, List.setIfInBounds_toArray, List.set_cons_zero, List.set_cons_succ])
              refine wpL_val (v := .int .u8 ((bo (Hs (pad l) (nb l.length)) (8 * i + 4)).toNat : Int)) (by rfl) (by rw [← bo_cast _ i 4 (by decide)]; exact run_c8 rfl rfl) ?_
              (try simp only [Act.put, List.setIfInBounds_toArray, List.set_cons_zero, List.set_cons_succ])
              clear ow_s240 fr_s240 ne_s240_t6 dj_b_s240
              refine wpL_newS (z := #[.int .u8 ((bo (Hs (pad l) (nb l.length)) (8 * i + 4)).toNat : Int)]) (t := 5) (n := 1) (c := 1) (by rfl) (by first | kernel_rfl | (go_simp; done) | (go_simp; rfl)) ?_
              (try simp only [Act.put, List.setIfInBounds_toArray, List.set_cons_zero, List.set_cons_succ])
              intro p240_50 W50 n_s240 hO h_
              have ne_s240_t6 : Value.ownBlock (.slice (some ⟨p240_50, 0, none⟩) 1 1) ≠ some p6_37 := fun e_ => (Nat.ne_of_lt (Nat.lt_of_lt_of_le (blk_lt k_t6) n_s240)) (Option.some.inj e_).symm
              have dj_b_s240 : ∀ x, (Value.ownBlock v241_49) = some x → Value.ownBlock (.slice (some ⟨p240_50, 0, none⟩) 1 1) ≠ some x := dj_new (Own.lt ow_b) n_s240
              have fr_s240 : Fr (Value.ownBlock (.slice (some ⟨p240_50, 0, none⟩) 1 1)) w.heap.size [] := fr_new (Nat.le_trans sz n_s240)
              replace k_t6 := blk_off k_t6 hO nm0
              replace ow_b := Own.off ow_b hO f0
              replace off0 := off0.step hO i0
              replace sz := off0.size
              have ow_s240 : Own W50 (.slice (some ⟨p240_50, 0, none⟩) 1 1) [bo (Hs (pad l) (nb l.length)) (8 * i + 4)] := own_blk h_ (by rfl) (by show 1 ≤ maxLen; decide)
              clear hO h_ n_s240
              refine wpL_append (xs := (((((wb (Hs (pad l) (nb l.length)) (8 * i)) ++ [bo (Hs (pad l) (nb l.length)) (8 * i + 0)]) ++ [bo (Hs (pad l) (nb l.length)) (8 * i + 1)]) ++ [bo (Hs (pad l) (nb l.length)) (8 * i + 2)]) ++ [bo (Hs (pad l) (nb l.length)) (8 * i + 3)])) (ys := [bo (Hs (pad l) (nb l.length)) (8 * i + 4)]) (by rfl) rfl rfl rfl ow_b (ow_s240.sl) (by first | omega | (simp only [List.length_append, List.length_cons, List.length_nil, List.length_replicate, wb_length]; omega)) ?_
              (try simp only [Act.put, List.setIfInBounds_toArray, List.set_cons_zero, List.set_cons_succ])
              intro v241_51 W51 ow_a241 hO at_a241 nil_a241
              clear nil_a241
              have ne_a241_t6 := own_ne at_a241 ne_b_t6 (blk_lt k_t6)
              have dj_a241_s240 := own_dj at_a241 dj_b_s240 (Own.lt ow_s240)
              have fr_a241 := own_fr at_a241 fr_b sz
              replace k_t6 := blk_off k_t6 hO (nmo ne_b_t6)
              replace ow_s240 := Own.off ow_s240 hO (fo dj_b_s240)
              replace off0 := off0.step hO (io fr_b)
              replace sz := off0.size
              clear hO at_a241
              have ow_b := ow_a241
              clear ow_a241
              have fr_b := fr_a241
              have ne_b_t6 := ne_a241_t6
              have dj_b_s240 := dj_a241_s240
              (refine wpL_val (v := ?_) (by rfl) ?_ ?_; rotate_left 1; (focus (go_simp; first | done | with_reducible rfl)))
              (try simp only [Act.put, List.setIfInBounds_toArray, List.set_cons_zero, List.set_cons_succ])
              refine wpL_nil ?_
              go_wp2_with fail
              rw [rounds_succ]
              go_upto_region 44 with fail
              refine wp_region_lit ?_
              (refine wpL_val (v := ?_) (by rfl) ?_ ?_; rotate_left 1; (focus (go_simp; first | done | with_reducible rfl)))
              (try simp only [Act.put, List.setIfInBounds_toArray, List.set_cons_zero, List.set_cons_succ])
              (refine wpL_val (v := ?_) (by rfl) ?_ ?_; rotate_left 1; (focus (go_simp; first | done | with_reducible rfl)))
              (try simp only [Act.put, List.setIfInBounds_toArray, List.set_cons_zero, List.set_cons_succ])
              refine wpL_val (v := .pointer (some ⟨p6_37, 0 + i, none⟩)) (by rfl) (run_ixarr (m := 8) (by decide) (by omega) Tryd.underlying36 (by kernel_rfl) rfl rfl rfl) ?_
              (try simp only [Act.put, List.setIfInBounds_toArray, List.set_cons_zero, List.set_cons_succ])
              refine wpL_get (v := .int .u64 ((Hs (pad l) (nb l.length)) i)) (by rfl) rfl rfl k_t6 (by rw [Nat.zero_add]; exact arrK_get _ _ _ _ (by omega)) (by kernel_rfl) ?_
              (try simp only [Act.put, List.setIfInBounds_toArray, List.set_cons_zero, List.set_cons_succ])
              refine wpL_val (v := .int .i64 16) (by rfl) (by first | rfl | (go_simp; done) | (go_simp; with_reducible rfl) | (go_simp; omega)) ?_
              (try simp only [Act.put, List.setIfInBounds_toArray, List.set_cons_zero, List.set_cons_succ])
              refine wpL_val (v := .int .u64 (sr ((Hs (pad l) (nb l.length)) i) 16)) (by rfl) (run_shr (n := 16) (by decide) rfl rfl rfl) ?_
              (try simp only [Act.put, List.setIfInBounds_toArray, List.set_cons_zero, List.set_cons_succ])
              refine wpL_val (v := .int .u8 ((bo (Hs (pad l) (nb l.length)) (8 * i + 5)).toNat : Int)) (by rfl) (by rw [← bo_cast _ i 5 (by decide)]; exact run_c8 rfl rfl) ?_
              (try simp only [Act.put, List.setIfInBounds_toArray, List.set_cons_zero, List.set_cons_succ])
              clear ow_s240 fr_s240 ne_s240_t6 dj_b_s240
              refine wpL_newS (z := #[.int .u8 ((bo (Hs (pad l) (nb l.length)) (8 * i + 5)).toNat : Int)]) (t := 5) (n := 1) (c := 1) (by rfl) (by first | kernel_rfl | (go_simp; done) | (go_simp; rfl)) ?_
              (try simp only [Act.put, List.setIfInBounds_toArray, List.set_cons_zero, List.set_cons_succ])
              intro p240_52 W52 n_s240 hO h_
              have ne_s240_t6 : Value.ownBlock (.slice (some ⟨p240_52, 0, none⟩) 1 1) ≠ some p6_37 := fun e_ => (Nat.ne_of_lt (Nat.lt_of_lt_of_le (blk_lt k_t6) n_s240)) (Option.some.inj e_).symm
              have dj_b_s240 : ∀ x, (Value.ownBlock v241_51) = some x → Value.ownBlock (.slice (some ⟨p240_52, 0, none⟩) 1 1) ≠ some x := dj_new (Own.lt ow_b) n_s240
              have fr_s240 : Fr (Value.ownBlock (.slice (some ⟨p240_52, 0, none⟩) 1 1)) w.heap.size [] := fr_new (Nat.le_trans sz n_s240)
              replace k_t6 := blk_off k_t6 hO nm0
              replace ow_b := Own.off ow_b hO f0
              replace off0 := off0.step hO i0
              replace sz := off0.size
              have ow_s240 : Own W52 (.slice (some ⟨p240_52, 0, none⟩) 1 1) [bo (Hs (pad l) (nb l.length)) (8 * i + 5)] := own_blk h_ (by rfl) (by show 1 ≤ maxLen; decide)
              clear hO h_ n_s240
              refine wpL_append (xs := ((((((wb (Hs (pad l) (nb l.length)) (8 * i)) ++ [bo (Hs (pad l) (nb l.length)) (8 * i + 0)]) ++ [bo (Hs (pad l) (nb l.length)) (8 * i + 1)]) ++ [bo (Hs (pad l) (nb l.length)) (8 * i + 2)]) ++ [bo (Hs (pad l) (nb l.length)) (8 * i + 3)]) ++ [bo (Hs (pad l) (nb l.length)) (8 * i + 4)])) (ys := [bo (Hs (pad l) (nb l.length)) (8 * i + 5)]) (by rfl) rfl rfl rfl ow_b (ow_s240.sl) (by first | omega | (simp only [List.length_append, List.length_cons, List.length_nil, List.length_replicate, wb_length]; omega)) ?_
              (try simp only [Act.put, List.setIfInBounds_toArray, List.set_cons_zero, List.set_cons_succ])
              intro v241_53 W53 ow_a241 hO at_a241 nil_a241
              clear nil_a241
              have ne_a241_t6 := own_ne at_a241 ne_b_t6 (blk_lt k_t6)
              have dj_a241_s240 := own_dj at_a241 dj_b_s240 (Own.lt ow_s240)
              have fr_a241 := own_fr at_a241 fr_b sz
              replace k_t6 := blk_off k_t6 hO (nmo ne_b_t6)
              replace ow_s240 := Own.off ow_s240 hO (fo dj_b_s240)
              replace off0 := off0.step hO (io fr_b)
              replace sz := off0.size
              clear hO at_a241
              have ow_b := ow_a241
              clear ow_a241
              have fr_b := fr_a241
              have ne_b_t6 := ne_a241_t6
              have dj_b_s240 := dj_a241_s240
              (refine wpL_val (v := ?_) (by rfl) ?_ ?_; rotate_left 1; (focus (go_simp; first | done | with_reducible rfl)))
              (try simp only [Act.put, List.setIfInBounds_toArray, List.set_cons_zero, List.set_cons_succ])
              refine wpL_nil ?_
              go_wp2_with fail
              rw [rounds_succ]
              go_upto_region 44 with fail
              refine wp_region_lit ?_
              (refine wpL_val (v := ?_) (by rfl) ?_ ?_; rotate_left 1; (focus (go_simp; first | done | with_reducible rfl)))
              (try simp only [Act.put, List.setIfInBounds_toArray, List.set_cons_zero, List.set_cons_succ])
              (refine wpL_val (v := ?_) (by rfl) ?_ ?_; rotate_left 1; (focus (go_simp; first | done | with_reducible rfl)))
              (try simp only [Act.put, List.setIfInBounds_toArray, List.set_cons_zero, List.set_cons_succ])
              refine wpL_val (v := .pointer (some ⟨p6_37, 0 + i, none⟩)) (by rfl) (run_ixarr (m := 8) (by decide) (by omega) Tryd.underlying36 (by kernel_rfl) rfl rfl rfl) ?_
              (try simp only [Act.put, List.setIfInBounds_toArray, List.set_cons_zero, List.set_cons_succ])
              refine wpL_get (v := .int .u64 ((Hs (pad l) (nb l.length)) i)) (by rfl) rfl rfl k_t6 (by rw [Nat.zero_add]; exact arrK_get _ _ _ _ (by omega)) (by kernel_rfl) ?_
              (try simp only [Act.put, List.setIfInBounds_toArray, List.set_cons_zero, List.set_cons_succ])
              refine wpL_val (v := .int .i64 8) (by rfl) (by first | rfl | (go_simp; done) | (go_simp; with_reducible rfl) | (go_simp; omega)) ?_
              (try simp only [Act.put, List.setIfInBounds_toArray, List.set_cons_zero, List.set_cons_succ])
              refine wpL_val (v := .int .u64 (sr ((Hs (pad l) (nb l.length)) i) 8)) (by rfl) (run_shr (n := 8) (by decide) rfl rfl rfl) ?_
              (try simp only [Act.put, List.setIfInBounds_toArray, List.set_cons_zero, List.set_cons_succ])
              refine wpL_val (v := .int .u8 ((bo (Hs (pad l) (nb l.length)) (8 * i + 6)).toNat : Int)) (by rfl) (by rw [← bo_cast _ i 6 (by decide)]; exact run_c8 rfl rfl) ?_
              (try simp only [Act.put, List.setIfInBounds_toArray, List.set_cons_zero, List.set_cons_succ])
              clear ow_s240 fr_s240 ne_s240_t6 dj_b_s240
              refine wpL_newS (z := #[.int .u8 ((bo (Hs (pad l) (nb l.length)) (8 * i + 6)).toNat : Int)]) (t := 5) (n := 1) (c := 1) (by rfl) (by first | kernel_rfl | (go_simp; done) | (go_simp; rfl)) ?_
              (try simp only [Act.put, List.setIfInBounds_toArray, List.set_cons_zero, List.set_cons_succ])
              intro p240_54 W54 n_s240 hO h_
              have ne_s240_t6 : Value.ownBlock (.slice (some ⟨p240_54, 0, none⟩) 1 1) ≠ some p6_37 := fun e_ => (Nat.ne_of_lt (Nat.lt_of_lt_of_le (blk_lt k_t6) n_s240)) (Option.some.inj e_).symm
              have dj_b_s240 : ∀ x, (Value.ownBlock v241_53) = some x → Value.ownBlock (.slice (some ⟨p240_54, 0, none⟩) 1 1) ≠ some x := dj_new (Own.lt ow_b) n_s240
              have fr_s240 : Fr (Value.ownBlock (.slice (some ⟨p240_54, 0, none⟩) 1 1)) w.heap.size [] := fr_new (Nat.le_trans sz n_s240)
              replace k_t6 := blk_off k_t6 hO nm0
              replace ow_b := Own.off ow_b hO f0
              replace off0 := off0.step hO i0
              replace sz := off0.size
              have ow_s240 : Own W54 (.slice (some ⟨p240_54, 0, none⟩) 1 1) [bo (Hs (pad l) (nb l.length)) (8 * i + 6)] := own_blk h_ (by rfl) (by show 1 ≤ maxLen; decide)
              clear hO h_ n_s240
              refine wpL_append (xs := (((((((wb (Hs (pad l) (nb l.length)) (8 * i)) ++ [bo (Hs (pad l) (nb l.length)) (8 * i + 0)]) ++ [bo (Hs (pad l) (nb l.length)) (8 * i + 1)]) ++ [bo (Hs (pad l) (nb l.length)) (8 * i + 2)]) ++ [bo (Hs (pad l) (nb l.length)) (8 * i + 3)]) ++ [bo (Hs (pad l) (nb l.length)) (8 * i + 4)]) ++ [bo (Hs (pad l) (nb l.length)) (8 * i + 5)])) (ys := [bo (Hs (pad l) (nb l.length)) (8 * i + 6)]) (by rfl) rfl rfl rfl ow_b (ow_s240.sl) (by first | omega | (simp only [List.length_append, List.length_cons, List.length_nil, List.length_replicate, wb_length]; omega)) ?_
              (try simp only [Act.put, List.setIfInBounds_toArray, List.set_cons_zero, List.set_cons_succ])
              intro v241_55 W55 ow_a241 hO at_a241 nil_a241
              clear nil_a241
              have ne_a241_t6 := own_ne at_a241 ne_b_t6 (blk_lt k_t6)
              have dj_a241_s240 := own_dj at_a241 dj_b_s240 (Own.lt ow_s240)
              have fr_a241 := own_fr at_a241 fr_b sz
              replace k_t6 := blk_off k_t6 hO (nmo ne_b_t6)
              replace ow_s240 := Own.off ow_s240 hO (fo dj_b_s240)
              replace off0 := off0.step hO (io fr_b)
              replace sz := off0.size
              clear hO at_a241
              have ow_b := ow_a241
              clear ow_a241
              have fr_b := fr_a241
              have ne_b_t6 := ne_a241_t6
              have dj_b_s240 := dj_a241_s240
              (refine wpL_val (v := ?_) (by rfl) ?_ ?_; rotate_left 1; (focus (go_simp; first | done | with_reducible rfl)))
              (try simp only [Act.put, List.setIfInBounds_toArray, List.set_cons_zero, List.set_cons_succ])
              refine wpL_nil ?_
              go_wp2_with fail
              rw [rounds_succ]
              go_upto_region 44 with fail
              refine wp_region_lit ?_
              (refine wpL_val (v := ?_) (by rfl) ?_ ?_; rotate_left 1; (focus (go_simp; first | done | with_reducible rfl)))
              (try simp only [Act.put, List.setIfInBounds_toArray, List.set_cons_zero, List.set_cons_succ])
              (refine wpL_val (v := ?_) (by rfl) ?_ ?_; rotate_left 1; (focus (go_simp; first | done | with_reducible rfl)))
              (try simp only [Act.put, List.setIfInBounds_toArray, List.set_cons_zero, List.set_cons_succ])
              refine wpL_val (v := .pointer (some ⟨p6_37, 0 + i, none⟩)) (by rfl) (run_ixarr (m := 8) (by decide) (by omega) Tryd.underlying36 (by kernel_rfl) rfl rfl rfl) ?_
              (try simp only [Act.put, List.setIfInBounds_toArray, List.set_cons_zero, List.set_cons_succ])
              refine wpL_get (v := .int .u64 ((Hs (pad l) (nb l.length)) i)) (by rfl) rfl rfl k_t6 (by rw [Nat.zero_add]; exact arrK_get _ _ _ _ (by omega)) (by kernel_rfl) ?_
              (try simp only [Act.put, List.setIfInBounds_toArray, List.set_cons_zero, List.set_cons_succ])
              refine wpL_val (v := .int .i64 0) (by rfl) (by first | rfl | (go_simp; done) | (go_simp; with_reducible rfl) | (go_simp; omega)) ?_
              (try simp only [Act.put, List.setIfInBounds_toArray, List.set_cons_zero, List.set_cons_succ])
              refine wpL_val (v := .int .u64 (sr ((Hs (pad l) (nb l.length)) i) 0)) (by rfl) (run_shr (n := 0) (by decide) rfl rfl rfl) ?_
              (try simp only [Act.put, List.setIfInBounds_toArray, List.set_cons_zero, List.set_cons_succ])
              refine wpL_val (v := .int .u8 ((bo (Hs (pad l) (nb l.length)) (8 * i + 7)).toNat : Int)) (by rfl) (by rw [← bo_cast _ i 7 (by decide)]; exact run_c8 rfl rfl) ?_
              (try simp only [Act.put, List.setIfInBounds_toArray, List.set_cons_zero, List.set_cons_succ])
              clear ow_s240 fr_s240 ne_s240_t6 dj_b_s240
              refine wpL_newS (z := #[.int .u8 ((bo (Hs (pad l) (nb l.length)) (8 * i + 7)).toNat : Int)]) (t := 5) (n := 1) (c := 1) (by rfl) (by first | kernel_rfl | (go_simp; done) | (go_simp; rfl)) ?_
              (try simp only [Act.put, List.setIfInBounds_toArray, List.set_cons_zero, List.set_cons_succ])
              intro p240_56 W56 n_s240 hO h_
              have ne_s240_t6 : Value.ownBlock (.slice (some ⟨p240_56, 0, none⟩) 1 1) ≠ some p6_37 := fun e_ => (Nat.ne_of_lt (Nat.lt_of_lt_of_le (blk_lt k_t6) n_s240)) (Option.some.inj e_).symm
              have dj_b_s240 : ∀ x, (Value.ownBlock v241_55) = some x → Value.ownBlock (.slice (some ⟨p240_56, 0, none⟩) 1 1) ≠ some x := dj_new (Own.lt ow_b) n_s240
              have fr_s240 : Fr (Value.ownBlock (.slice (some ⟨p240_56, 0, none⟩) 1 1)) w.heap.size [] := fr_new (Nat.le_trans sz n_s240)
              replace k_t6 := blk_off k_t6 hO nm0
              replace ow_b := Own.off ow_b hO f0
              replace off0 := off0.step hO i0
              replace sz := off0.size
              have ow_s240 : Own W56 (.slice (some ⟨p240_56, 0, none⟩) 1 1) [bo (Hs (pad l) (nb l.length)) (8 * i + 7)] := own_blk h_ (by rfl) (by show 1 ≤ maxLen; decide)
              clear hO h_ n_s240
              refine wpL_append (xs := ((((((((wb (Hs (pad l) (nb l.length)) (8 * i)) ++ [bo (Hs (pad l) (nb l.length)) (8 * i + 0)]) ++ [bo (Hs (pad l) (nb l.length)) (8 * i + 1)]) ++ [bo (Hs (pad l) (nb l.length)) (8 * i + 2)]) ++ [bo (Hs (pad l) (nb l.length)) (8 * i + 3)]) ++ [bo (Hs (pad l) (nb l.length)) (8 * i + 4)]) ++ [bo (Hs (pad l) (nb l.length)) (8 * i + 5)]) ++ [bo (Hs (pad l) (nb l.length)) (8 * i + 6)])) (ys := [bo (Hs (pad l) (nb l.length)) (8 * i + 7)]) (by rfl) rfl rfl rfl ow_b (ow_s240.sl) (by first | omega | (simp only [List.length_append, List.length_cons, List.length_nil, List.length_replicate, wb_length]; omega)) ?_
              (try simp only [Act.put, List.setIfInBounds_toArray, List.set_cons_zero, List.set_cons_succ])
              intro v241_57 W57 ow_a241 hO at_a241 nil_a241
              clear nil_a241
              have ne_a241_t6 := own_ne at_a241 ne_b_t6 (blk_lt k_t6)
              have dj_a241_s240 := own_dj at_a241 dj_b_s240 (Own.lt ow_s240)
              have fr_a241 := own_fr at_a241 fr_b sz
              replace k_t6 := blk_off k_t6 hO (nmo ne_b_t6)
              replace ow_s240 := Own.off ow_s240 hO (fo dj_b_s240)
              replace off0 := off0.step hO (io fr_b)
              replace sz := off0.size
              clear hO at_a241
              have ow_b := ow_a241
              clear ow_a241
              have fr_b := fr_a241
              have ne_b_t6 := ne_a241_t6
              have dj_b_s240 := dj_a241_s240
              (refine wpL_val (v := ?_) (by rfl) ?_ ?_; rotate_left 1; (focus (go_simp; first | done | with_reducible rfl)))
              (try simp only [Act.put, List.setIfInBounds_toArray, List.set_cons_zero, List.set_cons_succ])
              refine wpL_nil ?_
              go_wp2_with fail
              rw [rounds_succ]
              go_wp2
              go_roundw
              case rel => exact ⟨i + 1, _, by omega, rfl, by go_num, off0, k_t6, (by rw [← wb_step]; exact ow_b), fr_b, ne_b_t6⟩
              case measure => simp [intOf]; omega
            · have _f := h8
              obtain rfl : i = 8 := by omega
              go_upto_region 39 with fail
              refine wp_region_lit ?_
              (refine wpL_val (v := ?_) (by rfl) ?_ ?_; rotate_left 1; (focus (go_simp; first | done | with_reducible rfl)))
              (try simp only [Act.put, List.setIfInBounds_toArray, List.set_cons_zero, List.set_cons_succ])
              refine wpL_val (v := .bool false) (by rfl) (by first | rfl | (go_simp; done) | (go_simp; with_reducible rfl) | (go_simp; omega)) ?_
              (try simp only [Act.put, List.setIfInBounds_toArray, List.set_cons_zero, List.set_cons_succ])
              refine wpL_nil ?_
              go_upto_region 45 with fail
              refine wp_region_lit ?_
              (refine wpL_val (v := ?_) (by rfl) ?_ ?_; rotate_left 1; (focus (go_simp; first | done | with_reducible rfl)))
              (try simp only [Act.put, List.setIfInBounds_toArray, List.set_cons_zero, List.set_cons_succ])
              refine wpL_str (l := (wb (Hs (pad l) (nb l.length)) (8 * 8))) (ow_b.sl) (by rfl) rfl rfl ?_
              (try simp only [Act.put, List.setIfInBounds_toArray, List.set_cons_zero, List.set_cons_succ])
              (refine wpL_val (v := ?_) (by rfl) ?_ ?_; rotate_left 1; (focus (go_simp; first | done | with_reducible rfl)))
              (try simp only [Act.put, List.setIfInBounds_toArray, List.set_cons_zero, List.set_cons_succ])
              refine wpL_nil ?_
              go_wp2
              exact bodyPost_ret (v := str (wb (Hs (pad l) (nb l.length)) (8 * 8))) (by simp only [results, Tryd.results11]; go_simp) rfl ⟨rfl, off0.ext⟩
end Go.Proofs.YtfkhogeaadldnaaDoor
