/- sha5.Sum: the sum of parts, one behind the other. Conditions: the parts read as bytes; the tables hold their numbers. -/
import Derived.Test.YtfkhogeaadldnaaDoorSm
namespace Go.Proofs.YtfkhogeaadldnaaDoor
set_option linter.unusedSimpArgs false
set_option linter.unusedVariables false
open Go.RowKit
attribute [local irreducible] wpList
theorem press_u (h : Nat → Int) (l : List UInt8) (u : Value) (hl : 128 ≤ l.length) (w : World) (hs : Sl w u l) (hG : GS w) : Calls Tryd.prog 13 #[.agg (arrK .u64 8 h), u] w fun e w' => Ret (.agg (arrK .u64 8 (prs h (bt l)))) w w' e := by
  obtain ⟨ad, c, rfl, _⟩ := sl_form hs (by omega)
  exact press_c h l ad c hl w hs hG

set_option maxRecDepth 100000 in
set_option maxHeartbeats 4000000 in
theorem sum_c (ps : List (List UInt8)) (A : Option Addr) (c : Nat) (F : List UInt8) (hF : ps.flatten = F) (hlen : F.length ≤ 70368744177664) (hpn : ps.length ≤ 9223372036854775000) (w : World) (hps : ∀ i l, ps[i]? = some l → ∃ ad u, A = some ad ∧ w.cell? (ad.add i) = some u ∧ Sl w u l) (hG : GS w) :
    Calls Tryd.prog 9 #[.slice A ps.length c] w fun e w' => Ret (.agg (arrK .u8 64 (sm F))) w w' e := by
  have HG := Lib.hid hG
  have HPS := Lib.hid hps
  clear hG hps
  have hpl := pad_length F
  have hzc := (zc_spec F.length).2
  have off0 : Off [] w w := Off.refl _ _
  have sz := off0.size
  go_enter Tryd.func9, Tryd.ntmps9
  go_upto_region 0 with fail
  refine wp_region_lit ?_
  refine wpL_new (z := arrK .u8 64 (fun _ => 0)) (t := 25) (by rfl) (by first | kernel_rfl | (go_simp; done) | (go_simp; rfl)) ?_
  (try simp only [Act.put, List.setIfInBounds_toArray, List.set_cons_zero, List.set_cons_succ])
  intro p2_1 W1 n_t2 hO h_
  have fb_t2 : Fb p2_1 w.heap.size [] := fb_new (Nat.le_trans sz n_t2)
  replace off0 := off0.step hO i0
  replace sz := off0.size
  have k_t2 := h_
  clear hO h_ n_t2
  refine wpL_nil ?_
  go_upto_region 2 with fail
  refine wp_region_lit ?_
  (refine wpL_val (v := ?_) (by rfl) ?_ ?_; rotate_left 1; (focus (go_simp; first | done | with_reducible rfl)))
  (try simp only [Act.put, List.setIfInBounds_toArray, List.set_cons_zero, List.set_cons_succ])
  (refine wpL_val (v := ?_) (by rfl) ?_ ?_; rotate_left 1; (focus (go_simp; first | done | with_reducible rfl)))
  (try simp only [Act.put, List.setIfInBounds_toArray, List.set_cons_zero, List.set_cons_succ])
  refine wpL_val (v := .int .i64 0) (by rfl) (by first | rfl | (go_simp; done) | (go_simp; with_reducible rfl) | (go_simp; omega)) ?_
  (try simp only [Act.put, List.setIfInBounds_toArray, List.set_cons_zero, List.set_cons_succ])
  refine wpL_nil ?_
  have ow_b := own_nil W1
  have fr_b : Fr (Value.ownBlock (.slice none 0 0)) w.heap.size [] := fr_none
  have ne_b_t2 : Value.ownBlock (.slice none 0 0) ≠ some p2_1 := fun e_ => by cases e_
  go_wp2_with fail
  go_loopw [3, 15] (fun sv ii wr => ∃ (i : Nat) (bv : Value), (i ≤ ps.length) ∧ (bv = sv) ∧ (ii = .int .i64 (i : Int)) ∧ Off [] w wr ∧ Blk wr p2_1 (arrK .u8 64 (fun _ => 0)) 25 ∧ Own wr bv ((List.take i ps).flatten) ∧ Fr (Value.ownBlock bv) w.heap.size [] ∧ (Value.ownBlock bv) ≠ some p2_1)
    (fun sv ii _ => ps.length - (intOf ii).toNat)
  case atStart => exact ⟨0, _, Nat.zero_le _, rfl, rfl, off0, k_t2, ow_b, fr_b, ne_b_t2⟩
  case round =>
    obtain ⟨i, bv, hi, rfl, rfl, off0, k_t2, ow_b, fr_b, ne_b_t2⟩ := hrel
    obtain ⟨W2, eW_⟩ := wname off0
    subst eW_
    have sz := off0.size
    by_cases hlt : i < ps.length
    · have _f := hlt
      obtain ⟨l_, hl_⟩ : ∃ l, ps[i]? = some l := ⟨_, List.getElem?_eq_getElem hlt⟩
      obtain ⟨ad_, u_, hA_, hc_, hu_⟩ := HPS.out i l_ hl_
      have hfl : (List.take i ps).flatten.length + l_.length ≤ F.length := by rw [← hF, ← List.length_append, ← flat_step hl_]; exact flat_len _ _
      go_upto_region 3 with fail
      refine wp_region_lit ?_
      refine wpL_val (v := .bool true) (by rfl) (by first | rfl | (go_simp; done) | (go_simp; with_reducible rfl) | (go_simp; omega)) ?_
      (try simp only [Act.put, List.setIfInBounds_toArray, List.set_cons_zero, List.set_cons_succ])
      refine wpL_nil ?_
      go_upto_region 4 with fail
      refine wp_region_lit ?_
      refine wpL_val (v := .pointer (some (ad_.add i))) (by rfl) (run_ixp (j := i) hlt rfl (by rw [← hA_]; rfl) rfl) ?_
      (try simp only [Act.put, List.setIfInBounds_toArray, List.set_cons_zero, List.set_cons_succ])
      refine wpL_at (by rfl) rfl rfl (cell_ext hc_ off0.ext) (by kernel_rfl) ?_
      (try simp only [Act.put, List.setIfInBounds_toArray, List.set_cons_zero, List.set_cons_succ])
      (refine wpL_val (v := ?_) (by rfl) ?_ ?_; rotate_left 1; (focus (go_simp; first | done | with_reducible rfl)))
      (try simp only [Act.put, List.setIfInBounds_toArray, List.set_cons_zero, List.set_cons_succ])
      refine wpL_nil ?_
      go_upto_region 5 with fail
      refine wp_region_lit ?_
      (refine wpL_val (v := ?_) (by rfl) ?_ ?_; rotate_left 1; (focus (go_simp; first | done | with_reducible rfl)))
      (try simp only [Act.put, List.setIfInBounds_toArray, List.set_cons_zero, List.set_cons_succ])
      (refine wpL_val (v := ?_) (by rfl) ?_ ?_; rotate_left 1; (focus (go_simp; first | done | with_reducible rfl)))
      (try simp only [Act.put, List.setIfInBounds_toArray, List.set_cons_zero, List.set_cons_succ])
      refine wpL_append (xs := ((List.take i ps).flatten)) (ys := l_) (by rfl) rfl rfl rfl ow_b (hu_.off off0 f0) (by first | omega | (simp only [List.length_append, List.length_cons, List.length_nil, List.length_replicate]; omega)) ?_
      (try simp only [Act.put, List.setIfInBounds_toArray, List.set_cons_zero, List.set_cons_succ])
      intro v21_3 W3 ow_a21 hO at_a21 nil_a21
      clear nil_a21
      have ne_a21_t2 := own_ne at_a21 ne_b_t2 (blk_lt k_t2)
      have fr_a21 := own_fr at_a21 fr_b sz
      replace k_t2 := blk_off k_t2 hO (nmo ne_b_t2)
      replace off0 := off0.step hO (io fr_b)
      replace sz := off0.size
      clear hO at_a21
      have ow_b := ow_a21
      clear ow_a21
      have fr_b := fr_a21
      have ne_b_t2 := ne_a21_t2
      (refine wpL_val (v := ?_) (by rfl) ?_ ?_; rotate_left 1; (focus (go_simp; first | done | with_reducible rfl)))
      (try simp only [Act.put, List.setIfInBounds_toArray, List.set_cons_zero, List.set_cons_succ])
      refine wpL_nil ?_
      go_wp2
      go_roundw
      case rel => exact ⟨i + 1, _, by omega, rfl, by go_num, off0, k_t2, (by rw [flat_step hl_]; exact ow_b), fr_b, ne_b_t2⟩
      case measure => simp [intOf]; omega
    · have _f := hlt
      obtain rfl : i = ps.length := by omega
      rw [List.take_length, hF] at ow_b
      go_upto_region 3 with fail
      refine wp_region_lit ?_
      refine wpL_val (v := .bool false) (by rfl) (by first | rfl | (go_simp; done) | (go_simp; with_reducible rfl) | (go_simp; omega)) ?_
      (try simp only [Act.put, List.setIfInBounds_toArray, List.set_cons_zero, List.set_cons_succ])
      refine wpL_nil ?_
      go_upto_region 7 with fail
      refine wp_region_lit ?_
      (refine wpL_val (v := ?_) (by rfl) ?_ ?_; rotate_left 1; (focus (go_simp; first | done | with_reducible rfl)))
      (try simp only [Act.put, List.setIfInBounds_toArray, List.set_cons_zero, List.set_cons_succ])
      refine wpL_len (l := F) (ow_b.sl) (by rfl) rfl rfl ?_
      (try simp only [Act.put, List.setIfInBounds_toArray, List.set_cons_zero, List.set_cons_succ])
      refine wpL_val (v := .int .u64 ((F.length : Nat) : Int)) (by rfl) (by go_simp; (try simp only [IntKind.wrap_u64, IntKind.wrap_i64]); (try omega)) ?_
      (try simp only [Act.put, List.setIfInBounds_toArray, List.set_cons_zero, List.set_cons_succ])
      refine wpL_val (v := .int .u64 ((8 * F.length : Nat) : Int)) (by rfl) (by rw [show ((8 * F.length : Nat) : Int) = sl ((F.length : Nat) : Int) 3 from (by unfold sl; rw [IntKind.wrap_u64]; omega)]; exact run_shl (n := 3) (by decide) rfl rfl rfl) ?_
      (try simp only [Act.put, List.setIfInBounds_toArray, List.set_cons_zero, List.set_cons_succ])
      (refine wpL_val (v := ?_) (by rfl) ?_ ?_; rotate_left 1; (focus (go_simp; first | done | with_reducible rfl)))
      (try simp only [Act.put, List.setIfInBounds_toArray, List.set_cons_zero, List.set_cons_succ])
      refine wpL_nil ?_
      go_upto_region 8 with fail
      refine wp_region_lit ?_
      (refine wpL_val (v := ?_) (by rfl) ?_ ?_; rotate_left 1; (focus (go_simp; first | done | with_reducible rfl)))
      (try simp only [Act.put, List.setIfInBounds_toArray, List.set_cons_zero, List.set_cons_succ])
      refine wpL_newS (z := #[.int .u8 128]) (t := 5) (n := 1) (c := 1) (by rfl) (by first | kernel_rfl | (go_simp; done) | (go_simp; rfl)) ?_
      (try simp only [Act.put, List.setIfInBounds_toArray, List.set_cons_zero, List.set_cons_succ])
      intro p28_3 W3 n_s28 hO h_
      have ne_s28_t2 : Value.ownBlock (.slice (some ⟨p28_3, 0, none⟩) 1 1) ≠ some p2_1 := fun e_ => (Nat.ne_of_lt (Nat.lt_of_lt_of_le (blk_lt k_t2) n_s28)) (Option.some.inj e_).symm
      have dj_b_s28 : ∀ x, (Value.ownBlock bv) = some x → Value.ownBlock (.slice (some ⟨p28_3, 0, none⟩) 1 1) ≠ some x := dj_new (Own.lt ow_b) n_s28
      have fr_s28 : Fr (Value.ownBlock (.slice (some ⟨p28_3, 0, none⟩) 1 1)) w.heap.size [] := fr_new (Nat.le_trans sz n_s28)
      replace k_t2 := blk_off k_t2 hO nm0
      replace ow_b := Own.off ow_b hO f0
      replace off0 := off0.step hO i0
      replace sz := off0.size
      have ow_s28 : Own W3 (.slice (some ⟨p28_3, 0, none⟩) 1 1) [128] := own_blk h_ (by rfl) (by show 1 ≤ maxLen; decide)
      clear hO h_ n_s28
      refine wpL_append (xs := F) (ys := [128]) (by rfl) rfl rfl rfl ow_b (ow_s28.sl) (by first | omega | (simp only [List.length_append, List.length_cons, List.length_nil, List.length_replicate]; omega)) ?_
      (try simp only [Act.put, List.setIfInBounds_toArray, List.set_cons_zero, List.set_cons_succ])
      intro v29_4 W4 ow_a29 hO at_a29 nil_a29
      clear nil_a29
      have ne_a29_t2 := own_ne at_a29 ne_b_t2 (blk_lt k_t2)
      have dj_a29_s28 := own_dj at_a29 dj_b_s28 (Own.lt ow_s28)
      have fr_a29 := own_fr at_a29 fr_b sz
      replace k_t2 := blk_off k_t2 hO (nmo ne_b_t2)
      replace ow_s28 := Own.off ow_s28 hO (fo dj_b_s28)
      replace off0 := off0.step hO (io fr_b)
      replace sz := off0.size
      clear hO at_a29
      have ow_b := ow_a29
      clear ow_a29
      have fr_b := fr_a29
      have ne_b_t2 := ne_a29_t2
      have dj_b_s28 := dj_a29_s28
      (refine wpL_val (v := ?_) (by rfl) ?_ ?_; rotate_left 1; (focus (go_simp; first | done | with_reducible rfl)))
      (try simp only [Act.put, List.setIfInBounds_toArray, List.set_cons_zero, List.set_cons_succ])
      refine wpL_nil ?_
      clear ow_s28 fr_s28 ne_s28_t2 dj_b_s28
      go_wp2_with fail
      go_loopw [3] (fun sv wr => ∃ (k : Nat) (bv : Value), (k ≤ zc F.length) ∧ (bv = sv) ∧ Off [] w wr ∧ Blk wr p2_1 (arrK .u8 64 (fun _ => 0)) 25 ∧ Own wr bv (F ++ [128] ++ List.replicate k 0) ∧ Fr (Value.ownBlock bv) w.heap.size [] ∧ (Value.ownBlock bv) ≠ some p2_1)
        (fun sv _ => F.length + 300 - slLen sv)
      case atStart => exact ⟨0, _, Nat.zero_le _, rfl, off0, k_t2, (by rw [List.replicate_zero, List.append_nil]; exact ow_b), fr_b, ne_b_t2⟩
      case round =>
        obtain ⟨k, bv, hk, rfl, off0, k_t2, ow_b, fr_b, ne_b_t2⟩ := hrel
        obtain ⟨W5, eW_⟩ := wname off0
        subst eW_
        have sz := off0.size
        have lb := own_len ow_b
        by_cases hz : k < zc F.length
        · have _f := hz
          have hz2 := zc_lt hz
          go_upto_region 9 with fail
          refine wp_region_lit ?_
          (refine wpL_val (v := ?_) (by rfl) ?_ ?_; rotate_left 1; (focus (go_simp; first | done | with_reducible rfl)))
          (try simp only [Act.put, List.setIfInBounds_toArray, List.set_cons_zero, List.set_cons_succ])
          refine wpL_len (l := (F ++ [128] ++ List.replicate k 0)) (ow_b.sl) (by rfl) rfl rfl ?_
          (try simp only [Act.put, List.setIfInBounds_toArray, List.set_cons_zero, List.set_cons_succ])
          refine wpL_val (v := .int .i64 (((F.length + 1 + k) % 128 : Nat) : Int)) (by rfl) (by go_simp; (try simp only [List.length_append, List.length_cons, List.length_nil, List.length_replicate]); rw [Int.tmod_eq_emod_of_nonneg (by omega)]; omega) ?_
          (try simp only [Act.put, List.setIfInBounds_toArray, List.set_cons_zero, List.set_cons_succ])
          refine wpL_val (v := .bool true) (by rfl) (by go_simp; omega) ?_
          (try simp only [Act.put, List.setIfInBounds_toArray, List.set_cons_zero, List.set_cons_succ])
          refine wpL_nil ?_
          go_upto_region 10 with fail
          refine wp_region_lit ?_
          (refine wpL_val (v := ?_) (by rfl) ?_ ?_; rotate_left 1; (focus (go_simp; first | done | with_reducible rfl)))
          (try simp only [Act.put, List.setIfInBounds_toArray, List.set_cons_zero, List.set_cons_succ])
          refine wpL_newS (z := #[.int .u8 0]) (t := 5) (n := 1) (c := 1) (by rfl) (by first | kernel_rfl | (go_simp; done) | (go_simp; rfl)) ?_
          (try simp only [Act.put, List.setIfInBounds_toArray, List.set_cons_zero, List.set_cons_succ])
          intro p35_6 W6 n_s35 hO h_
          have ne_s35_t2 : Value.ownBlock (.slice (some ⟨p35_6, 0, none⟩) 1 1) ≠ some p2_1 := fun e_ => (Nat.ne_of_lt (Nat.lt_of_lt_of_le (blk_lt k_t2) n_s35)) (Option.some.inj e_).symm
          have dj_b_s35 : ∀ x, (Value.ownBlock bv) = some x → Value.ownBlock (.slice (some ⟨p35_6, 0, none⟩) 1 1) ≠ some x := dj_new (Own.lt ow_b) n_s35
          have fr_s35 : Fr (Value.ownBlock (.slice (some ⟨p35_6, 0, none⟩) 1 1)) w.heap.size [] := fr_new (Nat.le_trans sz n_s35)
          replace k_t2 := blk_off k_t2 hO nm0
          replace ow_b := Own.off ow_b hO f0
          replace off0 := off0.step hO i0
          replace sz := off0.size
          have ow_s35 : Own W6 (.slice (some ⟨p35_6, 0, none⟩) 1 1) [0] := own_blk h_ (by rfl) (by show 1 ≤ maxLen; decide)
          clear hO h_ n_s35
          refine wpL_append (xs := (F ++ [128] ++ List.replicate k 0)) (ys := [0]) (by rfl) rfl rfl rfl ow_b (ow_s35.sl) (by first | omega | (simp only [List.length_append, List.length_cons, List.length_nil, List.length_replicate]; omega)) ?_
          (try simp only [Act.put, List.setIfInBounds_toArray, List.set_cons_zero, List.set_cons_succ])
          intro v36_7 W7 ow_a36 hO at_a36 nil_a36
          clear nil_a36
          have ne_a36_t2 := own_ne at_a36 ne_b_t2 (blk_lt k_t2)
          have dj_a36_s35 := own_dj at_a36 dj_b_s35 (Own.lt ow_s35)
          have fr_a36 := own_fr at_a36 fr_b sz
          replace k_t2 := blk_off k_t2 hO (nmo ne_b_t2)
          replace ow_s35 := Own.off ow_s35 hO (fo dj_b_s35)
          replace off0 := off0.step hO (io fr_b)
          replace sz := off0.size
          clear hO at_a36
          have ow_b := ow_a36
          clear ow_a36
          have fr_b := fr_a36
          have ne_b_t2 := ne_a36_t2
          have dj_b_s35 := dj_a36_s35
          (refine wpL_val (v := ?_) (by rfl) ?_ ?_; rotate_left 1; (focus (go_simp; first | done | with_reducible rfl)))
          (try simp only [Act.put, List.setIfInBounds_toArray, List.set_cons_zero, List.set_cons_succ])
          refine wpL_nil ?_
          have la := own_len ow_b
          simp only [List.length_append, List.length_cons, List.length_nil, List.length_replicate] at la lb
          go_wp2
          go_roundw
          case rel => exact ⟨k + 1, _, by omega, rfl, off0, k_t2, (by rw [List.replicate_succ', ← List.append_assoc]; exact ow_b), fr_b, ne_b_t2⟩
          case measure => simp only [la, lb]; omega
        · have _f := hz
          obtain rfl : k = zc F.length := by omega
          have hz2 := (zc_spec F.length).1
          go_upto_region 9 with fail
          refine wp_region_lit ?_
          (refine wpL_val (v := ?_) (by rfl) ?_ ?_; rotate_left 1; (focus (go_simp; first | done | with_reducible rfl)))
          (try simp only [Act.put, List.setIfInBounds_toArray, List.set_cons_zero, List.set_cons_succ])
          refine wpL_len (l := (F ++ [128] ++ List.replicate (zc F.length) 0)) (ow_b.sl) (by rfl) rfl rfl ?_
          (try simp only [Act.put, List.setIfInBounds_toArray, List.set_cons_zero, List.set_cons_succ])
          refine wpL_val (v := .int .i64 (((F.length + 1 + zc F.length) % 128 : Nat) : Int)) (by rfl) (by go_simp; (try simp only [List.length_append, List.length_cons, List.length_nil, List.length_replicate]); rw [Int.tmod_eq_emod_of_nonneg (by omega)]; omega) ?_
          (try simp only [Act.put, List.setIfInBounds_toArray, List.set_cons_zero, List.set_cons_succ])
          refine wpL_val (v := .bool false) (by rfl) (by first | (go_simp; done) | (go_simp; omega)) ?_
          (try simp only [Act.put, List.setIfInBounds_toArray, List.set_cons_zero, List.set_cons_succ])
          refine wpL_nil ?_
          go_upto_region 11 with fail
          refine wp_region_lit ?_
          (refine wpL_val (v := ?_) (by rfl) ?_ ?_; rotate_left 1; (focus (go_simp; first | done | with_reducible rfl)))
          (try simp only [Act.put, List.setIfInBounds_toArray, List.set_cons_zero, List.set_cons_succ])
          refine wpL_append0 (xs := (F ++ [128] ++ List.replicate (zc F.length) 0)) (m := 8) (by decide) (by rfl) rfl rfl rfl ow_b (by first | omega | (simp only [List.length_append, List.length_cons, List.length_nil, List.length_replicate]; omega)) ?_
          (try simp only [Act.put, List.setIfInBounds_toArray, List.set_cons_zero, List.set_cons_succ])
          intro v38_6 W6 ow_a38 hO at_a38
          have ne_a38_t2 := own_ne at_a38 ne_b_t2 (blk_lt k_t2)
          have fr_a38 := own_fr at_a38 fr_b sz
          replace k_t2 := blk_off k_t2 hO (nmo ne_b_t2)
          replace off0 := off0.step hO (io fr_b)
          replace sz := off0.size
          clear hO at_a38
          have ow_b := ow_a38
          clear ow_a38
          have fr_b := fr_a38
          have ne_b_t2 := ne_a38_t2
          (refine wpL_val (v := ?_) (by rfl) ?_ ?_; rotate_left 1; (focus (go_simp; first | done | with_reducible rfl)))
          (try simp only [Act.put, List.setIfInBounds_toArray, List.set_cons_zero, List.set_cons_succ])
          refine wpL_nil ?_
          go_wp2_with fail
          refine wp_loop_rounds 9 ?_
          rw [rounds_succ]
          go_upto_region 15 with fail
          refine wp_region_lit ?_
          (refine wpL_val (v := ?_) (by rfl) ?_ ?_; rotate_left 1; (focus (go_simp; first | done | with_reducible rfl)))
          (try simp only [Act.put, List.setIfInBounds_toArray, List.set_cons_zero, List.set_cons_succ])
          (refine wpL_val (v := ?_) (by rfl) ?_ ?_; rotate_left 1; (focus (go_simp; first | done | with_reducible rfl)))
          (try simp only [Act.put, List.setIfInBounds_toArray, List.set_cons_zero, List.set_cons_succ])
          refine wpL_val (v := .int .i64 7) (by rfl) (by first | rfl | (go_simp; done) | (go_simp; with_reducible rfl) | (go_simp; omega)) ?_
          (try simp only [Act.put, List.setIfInBounds_toArray, List.set_cons_zero, List.set_cons_succ])
          refine wpL_val (v := .int .i64 56) (by rfl) (by first | rfl | (go_simp; done) | (go_simp; with_reducible rfl) | (go_simp; omega)) ?_
          (try simp only [Act.put, List.setIfInBounds_toArray, List.set_cons_zero, List.set_cons_succ])
          refine wpL_val (v := .int .u64 (sr ((8 * F.length : Nat) : Int) 56)) (by rfl) (run_shr (n := 56) (by decide) rfl rfl rfl) ?_
          (try simp only [Act.put, List.setIfInBounds_toArray, List.set_cons_zero, List.set_cons_succ])
          refine wpL_val (v := .int .u8 ((u8 ((8 * F.length) / 72057594037927936)).toNat : Int)) (by rfl) (by rw [← w8_nat (8 * F.length) 56 72057594037927936 (by decide)]; exact run_c8 rfl rfl) ?_
          (try simp only [Act.put, List.setIfInBounds_toArray, List.set_cons_zero, List.set_cons_succ])
          refine wpL_newS (z := #[.int .u8 ((u8 ((8 * F.length) / 72057594037927936)).toNat : Int)]) (t := 5) (n := 1) (c := 1) (by rfl) (by first | kernel_rfl | (go_simp; done) | (go_simp; rfl)) ?_
          (try simp only [Act.put, List.setIfInBounds_toArray, List.set_cons_zero, List.set_cons_succ])
          intro p49_7 W7 n_s49 hO h_
          have ne_s49_t2 : Value.ownBlock (.slice (some ⟨p49_7, 0, none⟩) 1 1) ≠ some p2_1 := fun e_ => (Nat.ne_of_lt (Nat.lt_of_lt_of_le (blk_lt k_t2) n_s49)) (Option.some.inj e_).symm
          have dj_b_s49 : ∀ x, (Value.ownBlock v38_6) = some x → Value.ownBlock (.slice (some ⟨p49_7, 0, none⟩) 1 1) ≠ some x := dj_new (Own.lt ow_b) n_s49
          have fr_s49 : Fr (Value.ownBlock (.slice (some ⟨p49_7, 0, none⟩) 1 1)) w.heap.size [] := fr_new (Nat.le_trans sz n_s49)
          replace k_t2 := blk_off k_t2 hO nm0
          replace ow_b := Own.off ow_b hO f0
          replace off0 := off0.step hO i0
          replace sz := off0.size
          have ow_s49 : Own W7 (.slice (some ⟨p49_7, 0, none⟩) 1 1) [u8 ((8 * F.length) / 72057594037927936)] := own_blk h_ (by rfl) (by show 1 ≤ maxLen; decide)
          clear hO h_ n_s49
          refine wpL_append (xs := ((F ++ [128] ++ List.replicate (zc F.length) 0) ++ List.replicate 8 0)) (ys := [u8 ((8 * F.length) / 72057594037927936)]) (by rfl) rfl rfl rfl ow_b (ow_s49.sl) (by first | omega | (simp only [List.length_append, List.length_cons, List.length_nil, List.length_replicate]; omega)) ?_
          (try simp only [Act.put, List.setIfInBounds_toArray, List.set_cons_zero, List.set_cons_succ])
          intro v50_8 W8 ow_a50 hO at_a50 nil_a50
          clear nil_a50
          have ne_a50_t2 := own_ne at_a50 ne_b_t2 (blk_lt k_t2)
          have dj_a50_s49 := own_dj at_a50 dj_b_s49 (Own.lt ow_s49)
          have fr_a50 := own_fr at_a50 fr_b sz
          replace k_t2 := blk_off k_t2 hO (nmo ne_b_t2)
          replace ow_s49 := Own.off ow_s49 hO (fo dj_b_s49)
          replace off0 := off0.step hO (io fr_b)
          replace sz := off0.size
          clear hO at_a50
          have ow_b := ow_a50
          clear ow_a50
          have fr_b := fr_a50
          have ne_b_t2 := ne_a50_t2
          have dj_b_s49 := dj_a50_s49
          (refine wpL_val (v := ?_) (by rfl) ?_ ?_; rotate_left 1; (focus (go_simp; first | done | with_reducible rfl)))
          (try simp only [Act.put, List.setIfInBounds_toArray, List.set_cons_zero, List.set_cons_succ])
          refine wpL_nil ?_
          go_wp2_with fail
          rw [rounds_succ]
          go_upto_region 15 with fail
          refine wp_region_lit ?_
          (refine wpL_val (v := ?_) (by rfl) ?_ ?_; rotate_left 1; (focus (go_simp; first | done | with_reducible rfl)))
          (try simp only [Act.put, List.setIfInBounds_toArray, List.set_cons_zero, List.set_cons_succ])
          (refine wpL_val (v := ?_) (by rfl) ?_ ?_; rotate_left 1; (focus (go_simp; first | done | with_reducible rfl)))
          (try simp only [Act.put, List.setIfInBounds_toArray, List.set_cons_zero, List.set_cons_succ])
          refine wpL_val (v := .int .i64 6) (by rfl) (by first | rfl | (go_simp; done) | (go_simp; with_reducible rfl) | (go_simp; omega)) ?_
          (try simp only [Act.put, List.setIfInBounds_toArray, List.set_cons_zero, List.set_cons_succ])
          refine wpL_val (v := .int .i64 48) (by rfl) (by first | rfl | (go_simp; done) | (go_simp; with_reducible rfl) | (go_simp; omega)) ?_
          (try simp only [Act.put, List.setIfInBounds_toArray, List.set_cons_zero, List.set_cons_succ])
          refine wpL_val (v := .int .u64 (sr ((8 * F.length : Nat) : Int) 48)) (by rfl) (run_shr (n := 48) (by decide) rfl rfl rfl) ?_
          (try simp only [Act.put, List.setIfInBounds_toArray, List.set_cons_zero, List.set_cons_succ])
          refine wpL_val (v := .int .u8 ((u8 ((8 * F.length) / 281474976710656)).toNat : Int)) (by rfl) (by rw [← w8_nat (8 * F.length) 48 281474976710656 (by decide)]; exact run_c8 rfl rfl) ?_
          (try simp only [Act.put, List.setIfInBounds_toArray, List.set_cons_zero, List.set_cons_succ])
          clear ow_s49 fr_s49 ne_s49_t2 dj_b_s49
          refine wpL_newS (z := #[.int .u8 ((u8 ((8 * F.length) / 281474976710656)).toNat : Int)]) (t := 5) (n := 1) (c := 1) (by rfl) (by first | kernel_rfl | (go_simp; done) | (go_simp; rfl)) ?_
          (try simp only [Act.put, List.setIfInBounds_toArray, List.set_cons_zero, List.set_cons_succ])
          intro p49_9 W9 n_s49 hO h_
          have ne_s49_t2 : Value.ownBlock (.slice (some ⟨p49_9, 0, none⟩) 1 1) ≠ some p2_1 := fun e_ => (Nat.ne_of_lt (Nat.lt_of_lt_of_le (blk_lt k_t2) n_s49)) (Option.some.inj e_).symm
          have dj_b_s49 : ∀ x, (Value.ownBlock v50_8) = some x → Value.ownBlock (.slice (some ⟨p49_9, 0, none⟩) 1 1) ≠ some x := dj_new (Own.lt ow_b) n_s49
          have fr_s49 : Fr (Value.ownBlock (.slice (some ⟨p49_9, 0, none⟩) 1 1)) w.heap.size [] := fr_new (Nat.le_trans sz n_s49)
          replace k_t2 := blk_off k_t2 hO nm0
          replace ow_b := Own.off ow_b hO f0
          replace off0 := off0.step hO i0
          replace sz := off0.size
          have ow_s49 : Own W9 (.slice (some ⟨p49_9, 0, none⟩) 1 1) [u8 ((8 * F.length) / 281474976710656)] := own_blk h_ (by rfl) (by show 1 ≤ maxLen; decide)
          clear hO h_ n_s49
          refine wpL_append (xs := (((F ++ [128] ++ List.replicate (zc F.length) 0) ++ List.replicate 8 0) ++ [u8 ((8 * F.length) / 72057594037927936)])) (ys := [u8 ((8 * F.length) / 281474976710656)]) (by rfl) rfl rfl rfl ow_b (ow_s49.sl) (by first | omega | (simp only [List.length_append, List.length_cons, List.length_nil, List.length_replicate]; omega)) ?_
          (try simp only [Act.put, List.setIfInBounds_toArray, List.set_cons_zero, List.set_cons_succ])
          intro v50_10 W10 ow_a50 hO at_a50 nil_a50
          clear nil_a50
          have ne_a50_t2 := own_ne at_a50 ne_b_t2 (blk_lt k_t2)
          have dj_a50_s49 := own_dj at_a50 dj_b_s49 (Own.lt ow_s49)
          have fr_a50 := own_fr at_a50 fr_b sz
          replace k_t2 := blk_off k_t2 hO (nmo ne_b_t2)
          replace ow_s49 := Own.off ow_s49 hO (fo dj_b_s49)
          replace off0 := off0.step hO (io fr_b)
          replace sz := off0.size
          clear hO at_a50
          have ow_b := ow_a50
          clear ow_a50
          have fr_b := fr_a50
          have ne_b_t2 := ne_a50_t2
          have dj_b_s49 := dj_a50_s49
          (refine wpL_val (v := ?_) (by rfl) ?_ ?_; rotate_left 1; (focus (go_simp; first | done | with_reducible rfl)))
          (try simp only [Act.put, List.setIfInBounds_toArray, List.set_cons_zero, List.set_cons_succ])
          refine wpL_nil ?_
          go_wp2_with fail
          rw [rounds_succ]
          go_upto_region 15 with fail
          refine wp_region_lit ?_
          (refine wpL_val (v := ?_) (by rfl) ?_ ?_; rotate_left 1; (focus (go_simp; first | done | with_reducible rfl)))
          (try simp only [Act.put, List.setIfInBounds_toArray, List.set_cons_zero, List.set_cons_succ])
          (refine wpL_val (v := ?_) (by rfl) ?_ ?_; rotate_left 1; (focus (go_simp; first | done | with_reducible rfl)))
          (try simp only [Act.put, List.setIfInBounds_toArray, List.set_cons_zero, List.set_cons_succ])
          refine wpL_val (v := .int .i64 5) (by rfl) (by first | rfl | (go_simp; done) | (go_simp; with_reducible rfl) | (go_simp; omega)) ?_
          (try simp only [Act.put, List.setIfInBounds_toArray, List.set_cons_zero, List.set_cons_succ])
          refine wpL_val (v := .int .i64 40) (by rfl) (by first | rfl | (go_simp; done) | (go_simp; with_reducible rfl) | (go_simp; omega)) ?_
          (try simp only [Act.put, List.setIfInBounds_toArray, List.set_cons_zero, List.set_cons_succ])
          refine wpL_val (v := .int .u64 (sr ((8 * F.length : Nat) : Int) 40)) (by rfl) (run_shr (n := 40) (by decide) rfl rfl rfl) ?_
          (try simp only [Act.put, List.setIfInBounds_toArray, List.set_cons_zero, List.set_cons_succ])
          refine wpL_val (v := .int .u8 ((u8 ((8 * F.length) / 1099511627776)).toNat : Int)) (by rfl) (by rw [← w8_nat (8 * F.length) 40 1099511627776 (by decide)]; exact run_c8 rfl rfl) ?_
          (try simp only [Act.put, List.setIfInBounds_toArray, List.set_cons_zero, List.set_cons_succ])
          clear ow_s49 fr_s49 ne_s49_t2 dj_b_s49
          refine wpL_newS (z := #[.int .u8 ((u8 ((8 * F.length) / 1099511627776)).toNat : Int)]) (t := 5) (n := 1) (c := 1) (by rfl) (by first | kernel_rfl | (go_simp; done) | (go_simp; rfl)) ?_
          (try simp only [Act.put, List.setIfInBounds_toArray, List.set_cons_zero, List.set_cons_succ])
          intro p49_11 W11 n_s49 hO h_
          have ne_s49_t2 : Value.ownBlock (.slice (some ⟨p49_11, 0, none⟩) 1 1) ≠ some p2_1 := fun e_ => (Nat.ne_of_lt (Nat.lt_of_lt_of_le (blk_lt k_t2) n_s49)) (Option.some.inj e_).symm
          have dj_b_s49 : ∀ x, (Value.ownBlock v50_10) = some x → Value.ownBlock (.slice (some ⟨p49_11, 0, none⟩) 1 1) ≠ some x := dj_new (Own.lt ow_b) n_s49
          have fr_s49 : Fr (Value.ownBlock (.slice (some ⟨p49_11, 0, none⟩) 1 1)) w.heap.size [] := fr_new (Nat.le_trans sz n_s49)
          replace k_t2 := blk_off k_t2 hO nm0
          replace ow_b := Own.off ow_b hO f0
          replace off0 := off0.step hO i0
          replace sz := off0.size
          have ow_s49 : Own W11 (.slice (some ⟨p49_11, 0, none⟩) 1 1) [u8 ((8 * F.length) / 1099511627776)] := own_blk h_ (by rfl) (by show 1 ≤ maxLen; decide)
          clear hO h_ n_s49
          refine wpL_append (xs := ((((F ++ [128] ++ List.replicate (zc F.length) 0) ++ List.replicate 8 0) ++ [u8 ((8 * F.length) / 72057594037927936)]) ++ [u8 ((8 * F.length) / 281474976710656)])) (ys := [u8 ((8 * F.length) / 1099511627776)]) (by rfl) rfl rfl rfl ow_b (ow_s49.sl) (by first | omega | (simp only [List.length_append, List.length_cons, List.length_nil, List.length_replicate]; omega)) ?_
          (try simp only [Act.put, List.setIfInBounds_toArray, List.set_cons_zero, List.set_cons_succ])
          intro v50_12 W12 ow_a50 hO at_a50 nil_a50
          clear nil_a50
          have ne_a50_t2 := own_ne at_a50 ne_b_t2 (blk_lt k_t2)
          have dj_a50_s49 := own_dj at_a50 dj_b_s49 (Own.lt ow_s49)
          have fr_a50 := own_fr at_a50 fr_b sz
          replace k_t2 := blk_off k_t2 hO (nmo ne_b_t2)
          replace ow_s49 := Own.off ow_s49 hO (fo dj_b_s49)
          replace off0 := off0.step hO (io fr_b)
          replace sz := off0.size
          clear hO at_a50
          have ow_b := ow_a50
          clear ow_a50
          have fr_b := fr_a50
          have ne_b_t2 := ne_a50_t2
          have dj_b_s49 := dj_a50_s49
          (refine wpL_val (v := ?_) (by rfl) ?_ ?_; rotate_left 1; (focus (go_simp; first | done | with_reducible rfl)))
          (try simp only [Act.put, List.setIfInBounds_toArray, List.set_cons_zero, List.set_cons_succ])
          refine wpL_nil ?_
          go_wp2_with fail
          rw [rounds_succ]
          go_upto_region 15 with fail
          refine wp_region_lit ?_
          (refine wpL_val (v := ?_) (by rfl) ?_ ?_; rotate_left 1; (focus (go_simp; first | done | with_reducible rfl)))
          (try simp only [Act.put, List.setIfInBounds_toArray, List.set_cons_zero, List.set_cons_succ])
          (refine wpL_val (v := ?_) (by rfl) ?_ ?_; rotate_left 1; (focus (go_simp; first | done | with_reducible rfl)))
          (try simp only [Act.put, List.setIfInBounds_toArray, List.set_cons_zero, List.set_cons_succ])
          refine wpL_val (v := .int .i64 4) (by rfl) (by first | rfl | (go_simp; done) | (go_simp; with_reducible rfl) | (go_simp; omega)) ?_
          (try simp only [Act.put, List.setIfInBounds_toArray, List.set_cons_zero, List.set_cons_succ])
          refine wpL_val (v := .int .i64 32) (by rfl) (by first | rfl | (go_simp; done) | (go_simp; with_reducible rfl) | (go_simp; omega)) ?_
          (try simp only [Act.put, List.setIfInBounds_toArray, List.set_cons_zero, List.set_cons_succ])
          refine wpL_val (v := .int .u64 (sr ((8 * F.length : Nat) : Int) 32)) (by rfl) (run_shr (n := 32) (by decide) rfl rfl rfl) ?_
          (try simp only [Act.put, List.setIfInBounds_toArray, List.set_cons_zero, List.set_cons_succ])
          refine wpL_val (v := .int .u8 ((u8 ((8 * F.length) / 4294967296)).toNat : Int)) (by rfl) (by rw [← w8_nat (8 * F.length) 32 4294967296 (by decide)]; exact run_c8 rfl rfl) ?_
          (try simp only [Act.put, List.setIfInBounds_toArray, List.set_cons_zero, List.set_cons_succ])
          clear ow_s49 fr_s49 ne_s49_t2 dj_b_s49
          refine wpL_newS (z := #[.int .u8 ((u8 ((8 * F.length) / 4294967296)).toNat : Int)]) (t := 5) (n := 1) (c := 1) (by rfl) (by first | kernel_rfl | (go_simp; done) | (go_simp; rfl)) ?_
          (try simp only [Act.put, List.setIfInBounds_toArray, List.set_cons_zero, List.set_cons_succ])
          intro p49_13 W13 n_s49 hO h_
          have ne_s49_t2 : Value.ownBlock (.slice (some ⟨p49_13, 0, none⟩) 1 1) ≠ some p2_1 := fun e_ => (Nat.ne_of_lt (Nat.lt_of_lt_of_le (blk_lt k_t2) n_s49)) (Option.some.inj e_).symm
          have dj_b_s49 : ∀ x, (Value.ownBlock v50_12) = some x → Value.ownBlock (.slice (some ⟨p49_13, 0, none⟩) 1 1) ≠ some x := dj_new (Own.lt ow_b) n_s49
          have fr_s49 : Fr (Value.ownBlock (.slice (some ⟨p49_13, 0, none⟩) 1 1)) w.heap.size [] := fr_new (Nat.le_trans sz n_s49)
          replace k_t2 := blk_off k_t2 hO nm0
          replace ow_b := Own.off ow_b hO f0
          replace off0 := off0.step hO i0
          replace sz := off0.size
          have ow_s49 : Own W13 (.slice (some ⟨p49_13, 0, none⟩) 1 1) [u8 ((8 * F.length) / 4294967296)] := own_blk h_ (by rfl) (by show 1 ≤ maxLen; decide)
          clear hO h_ n_s49
          refine wpL_append (xs := (((((F ++ [128] ++ List.replicate (zc F.length) 0) ++ List.replicate 8 0) ++ [u8 ((8 * F.length) / 72057594037927936)]) ++ [u8 ((8 * F.length) / 281474976710656)]) ++ [u8 ((8 * F.length) / 1099511627776)])) (ys := [u8 ((8 * F.length) / 4294967296)]) (by rfl) rfl rfl rfl ow_b (ow_s49.sl) (by first | omega | (simp only [List.length_append, List.length_cons, List.length_nil, List.length_replicate]; omega)) ?_
          (try simp only [Act.put, List.setIfInBounds_toArray, List.set_cons_zero, List.set_cons_succ])
          intro v50_14 W14 ow_a50 hO at_a50 nil_a50
          clear nil_a50
          have ne_a50_t2 := own_ne at_a50 ne_b_t2 (blk_lt k_t2)
          have dj_a50_s49 := own_dj at_a50 dj_b_s49 (Own.lt ow_s49)
          have fr_a50 := own_fr at_a50 fr_b sz
          replace k_t2 := blk_off k_t2 hO (nmo ne_b_t2)
          replace ow_s49 := Own.off ow_s49 hO (fo dj_b_s49)
          replace off0 := off0.step hO (io fr_b)
          replace sz := off0.size
          clear hO at_a50
          have ow_b := ow_a50
          clear ow_a50
          have fr_b := fr_a50
          have ne_b_t2 := ne_a50_t2
          have dj_b_s49 := dj_a50_s49
          (refine wpL_val (v := ?_) (by rfl) ?_ ?_; rotate_left 1; (focus (go_simp; first | done | with_reducible rfl)))
          (try simp only [Act.put, List.setIfInBounds_toArray, List.set_cons_zero, List.set_cons_succ])
          refine wpL_nil ?_
          go_wp2_with fail
          rw [rounds_succ]
          go_upto_region 15 with fail
          refine wp_region_lit ?_
          (refine wpL_val (v := ?_) (by rfl) ?_ ?_; rotate_left 1; (focus (go_simp; first | done | with_reducible rfl)))
          (try simp only [Act.put, List.setIfInBounds_toArray, List.set_cons_zero, List.set_cons_succ])
          (refine wpL_val (v := ?_) (by rfl) ?_ ?_; rotate_left 1; (focus (go_simp; first | done | with_reducible rfl)))
          (try simp only [Act.put, List.setIfInBounds_toArray, List.set_cons_zero, List.set_cons_succ])
          refine wpL_val (v := .int .i64 3) (by rfl) (by first | rfl | (go_simp; done) | (go_simp; with_reducible rfl) | (go_simp; omega)) ?_
          (try simp only [Act.put, List.setIfInBounds_toArray, List.set_cons_zero, List.set_cons_succ])
          refine wpL_val (v := .int .i64 24) (by rfl) (by first | rfl | (go_simp; done) | (go_simp; with_reducible rfl) | (go_simp; omega)) ?_
          (try simp only [Act.put, List.setIfInBounds_toArray, List.set_cons_zero, List.set_cons_succ])
          refine wpL_val (v := .int .u64 (sr ((8 * F.length : Nat) : Int) 24)) (by rfl) (run_shr (n := 24) (by decide) rfl rfl rfl) ?_
          (try simp only [Act.put, List.setIfInBounds_toArray, List.set_cons_zero, List.set_cons_succ])
          refine wpL_val (v := .int .u8 ((u8 ((8 * F.length) / 16777216)).toNat : Int)) (by rfl) (by rw [← w8_nat (8 * F.length) 24 16777216 (by decide)]; exact run_c8 rfl rfl) ?_
          (try simp only [Act.put, List.setIfInBounds_toArray, List.set_cons_zero, List.set_cons_succ])
          clear ow_s49 fr_s49 ne_s49_t2 dj_b_s49
          refine wpL_newS (z := #[.int .u8 ((u8 ((8 * F.length) / 16777216)).toNat : Int)]) (t := 5) (n := 1) (c := 1) (by rfl) (by first | kernel_rfl | (go_simp; done) | (go_simp; rfl)) ?_
          (try simp only [Act.put, List.setIfInBounds_toArray, List.set_cons_zero, List.set_cons_succ])
          intro p49_15 W15 n_s49 hO h_
          have ne_s49_t2 : Value.ownBlock (.slice (some ⟨p49_15, 0, none⟩) 1 1) ≠ some p2_1 := fun e_ => (Nat.ne_of_lt (Nat.lt_of_lt_of_le (blk_lt k_t2) n_s49)) (Option.some.inj e_).symm
          have dj_b_s49 : ∀ x, (Value.ownBlock v50_14) = some x → Value.ownBlock (.slice (some ⟨p49_15, 0, none⟩) 1 1) ≠ some x := dj_new (Own.lt ow_b) n_s49
          have fr_s49 : Fr (Value.ownBlock (.slice (some ⟨p49_15, 0, none⟩) 1 1)) w.heap.size [] := fr_new (Nat.le_trans sz n_s49)
          replace k_t2 := blk_off k_t2 hO nm0
          replace ow_b := Own.off ow_b hO f0
          replace off0 := off0.step hO i0
          replace sz := off0.size
          have ow_s49 : Own W15 (.slice (some ⟨p49_15, 0, none⟩) 1 1) [u8 ((8 * F.length) / 16777216)] := own_blk h_ (by rfl) (by show 1 ≤ maxLen; decide)
          clear hO h_ n_s49
          refine wpL_append (xs := ((((((F ++ [128] ++ List.replicate (zc F.length) 0) ++ List.replicate 8 0) ++ [u8 ((8 * F.length) / 72057594037927936)]) ++ [u8 ((8 * F.length) / 281474976710656)]) ++ [u8 ((8 * F.length) / 1099511627776)]) ++ [u8 ((8 * F.length) / 4294967296)])) (ys := [u8 ((8 * F.length) / 16777216)]) (by rfl) rfl rfl rfl ow_b (ow_s49.sl) (by first | omega | (simp only [List.length_append, List.length_cons, List.length_nil, List.length_replicate]; omega)) ?_
          (try simp only [Act.put, List.setIfInBounds_toArray, List.set_cons_zero, List.set_cons_succ])
          intro v50_16 W16 ow_a50 hO at_a50 nil_a50
          clear nil_a50
          have ne_a50_t2 := own_ne at_a50 ne_b_t2 (blk_lt k_t2)
          have dj_a50_s49 := own_dj at_a50 dj_b_s49 (Own.lt ow_s49)
          have fr_a50 := own_fr at_a50 fr_b sz
          replace k_t2 := blk_off k_t2 hO (nmo ne_b_t2)
          replace ow_s49 := Own.off ow_s49 hO (fo dj_b_s49)
          replace off0 := off0.step hO (io fr_b)
          replace sz := off0.size
          clear hO at_a50
          have ow_b := ow_a50
          clear ow_a50
          have fr_b := fr_a50
          have ne_b_t2 := ne_a50_t2
          have dj_b_s49 := dj_a50_s49
          (refine wpL_val (v := ?_) (by rfl) ?_ ?_; rotate_left 1; (focus (go_simp; first | done | with_reducible rfl)))
          (try simp only [Act.put, List.setIfInBounds_toArray, List.set_cons_zero, List.set_cons_succ])
          refine wpL_nil ?_
          go_wp2_with fail
          rw [rounds_succ]
          go_upto_region 15 with fail
          refine wp_region_lit ?_
          (refine wpL_val (v := ?_) (by rfl) ?_ ?_; rotate_left 1; (focus (go_simp; first | done | with_reducible rfl)))
          (try simp only [Act.put, List.setIfInBounds_toArray, List.set_cons_zero, List.set_cons_succ])
          (refine wpL_val (v := ?_) (by rfl) ?_ ?_; rotate_left 1; (focus (go_simp; first | done | with_reducible rfl)))
          (try simp only [Act.put, List.setIfInBounds_toArray, List.set_cons_zero, List.set_cons_succ])
          refine wpL_val (v := .int .i64 2) (by rfl) (by first | rfl | (go_simp; done) | (go_simp; with_reducible rfl) | (go_simp; omega)) ?_
          (try simp only [Act.put, List.setIfInBounds_toArray, List.set_cons_zero, List.set_cons_succ])
          refine wpL_val (v := .int .i64 16) (by rfl) (by first | rfl | (go_simp; done) | (go_simp; with_reducible rfl) | (go_simp; omega)) ?_
          (try simp only [Act.put, List.setIfInBounds_toArray, List.set_cons_zero, List.set_cons_succ])
          refine wpL_val (v := .int .u64 (sr ((8 * F.length : Nat) : Int) 16)) (by rfl) (run_shr (n := 16) (by decide) rfl rfl rfl) ?_
          (try simp only [Act.put, List.setIfInBounds_toArray, List.set_cons_zero, List.set_cons_succ])
          refine wpL_val (v := .int .u8 ((u8 ((8 * F.length) / 65536)).toNat : Int)) (by rfl) (by rw [← w8_nat (8 * F.length) 16 65536 (by decide)]; exact run_c8 rfl rfl) ?_
          (try simp only [Act.put, List.setIfInBounds_toArray, List.set_cons_zero, List.set_cons_succ])
          clear ow_s49 fr_s49 ne_s49_t2 dj_b_s49
          refine wpL_newS (z := #[.int .u8 ((u8 ((8 * F.length) / 65536)).toNat : Int)]) (t := 5) (n := 1) (c := 1) (by rfl) (by first | kernel_rfl | (go_simp; done) | (go_simp; rfl)) ?_
          (try simp only [Act.put, List.setIfInBounds_toArray, List.set_cons_zero, List.set_cons_succ])
          intro p49_17 W17 n_s49 hO h_
          have ne_s49_t2 : Value.ownBlock (.slice (some ⟨p49_17, 0, none⟩) 1 1) ≠ some p2_1 := fun e_ => (Nat.ne_of_lt (Nat.lt_of_lt_of_le (blk_lt k_t2) n_s49)) (Option.some.inj e_).symm
          have dj_b_s49 : ∀ x, (Value.ownBlock v50_16) = some x → Value.ownBlock (.slice (some ⟨p49_17, 0, none⟩) 1 1) ≠ some x := dj_new (Own.lt ow_b) n_s49
          have fr_s49 : Fr (Value.ownBlock (.slice (some ⟨p49_17, 0, none⟩) 1 1)) w.heap.size [] := fr_new (Nat.le_trans sz n_s49)
          replace k_t2 := blk_off k_t2 hO nm0
          replace ow_b := Own.off ow_b hO f0
          replace off0 := off0.step hO i0
          replace sz := off0.size
          have ow_s49 : Own W17 (.slice (some ⟨p49_17, 0, none⟩) 1 1) [u8 ((8 * F.length) / 65536)] := own_blk h_ (by rfl) (by show 1 ≤ maxLen; decide)
          clear hO h_ n_s49
          refine wpL_append (xs := (((((((F ++ [128] ++ List.replicate (zc F.length) 0) ++ List.replicate 8 0) ++ [u8 ((8 * F.length) / 72057594037927936)]) ++ [u8 ((8 * F.length) / 281474976710656)]) ++ [u8 ((8 * F.length) / 1099511627776)]) ++ [u8 ((8 * F.length) / 4294967296)]) ++ [u8 ((8 * F.length) / 16777216)])) (ys := [u8 ((8 * F.length) / 65536)]) (by rfl) rfl rfl rfl ow_b (ow_s49.sl) (by first | omega | (simp only [List.length_append, List.length_cons, List.length_nil, List.length_replicate]; omega)) ?_
          (try simp only [Act.put, List.setIfInBounds_toArray, List.set_cons_zero, List.set_cons_succ])
          intro v50_18 W18 ow_a50 hO at_a50 nil_a50
          clear nil_a50
          have ne_a50_t2 := own_ne at_a50 ne_b_t2 (blk_lt k_t2)
          have dj_a50_s49 := own_dj at_a50 dj_b_s49 (Own.lt ow_s49)
          have fr_a50 := own_fr at_a50 fr_b sz
          replace k_t2 := blk_off k_t2 hO (nmo ne_b_t2)
          replace ow_s49 := Own.off ow_s49 hO (fo dj_b_s49)
          replace off0 := off0.step hO (io fr_b)
          replace sz := off0.size
          clear hO at_a50
          have ow_b := ow_a50
          clear ow_a50
          have fr_b := fr_a50
          have ne_b_t2 := ne_a50_t2
          have dj_b_s49 := dj_a50_s49
          (refine wpL_val (v := ?_) (by rfl) ?_ ?_; rotate_left 1; (focus (go_simp; first | done | with_reducible rfl)))
          (try simp only [Act.put, List.setIfInBounds_toArray, List.set_cons_zero, List.set_cons_succ])
          refine wpL_nil ?_
          go_wp2_with fail
          rw [rounds_succ]
          go_upto_region 15 with fail
          refine wp_region_lit ?_
          (refine wpL_val (v := ?_) (by rfl) ?_ ?_; rotate_left 1; (focus (go_simp; first | done | with_reducible rfl)))
          (try simp only [Act.put, List.setIfInBounds_toArray, List.set_cons_zero, List.set_cons_succ])
          (refine wpL_val (v := ?_) (by rfl) ?_ ?_; rotate_left 1; (focus (go_simp; first | done | with_reducible rfl)))
          (try simp only [Act.put, List.setIfInBounds_toArray, List.set_cons_zero, List.set_cons_succ])
          refine wpL_val (v := .int .i64 1) (by rfl) (by first | rfl | (go_simp; done) | (go_simp; with_reducible rfl) | (go_simp; omega)) ?_
          (try simp only [Act.put, List.setIfInBounds_toArray, List.set_cons_zero, List.set_cons_succ])
          refine wpL_val (v := .int .i64 8) (by rfl) (by first | rfl | (go_simp; done) | (go_simp; with_reducible rfl) | (go_simp; omega)) ?_
          (try simp only [Act.put, List.setIfInBounds_toArray, List.set_cons_zero, List.set_cons_succ])
          refine wpL_val (v := .int .u64 (sr ((8 * F.length : Nat) : Int) 8)) (by rfl) (run_shr (n := 8) (by decide) rfl rfl rfl) ?_
          (try simp only [Act.put, List.setIfInBounds_toArray, List.set_cons_zero, List.set_cons_succ])
          refine wpL_val (v := .int .u8 ((u8 ((8 * F.length) / 256)).toNat : Int)) (by rfl) (by rw [← w8_nat (8 * F.length) 8 256 (by decide)]; exact run_c8 rfl rfl) ?_
          (try simp only [Act.put, List.setIfInBounds_toArray, List.set_cons_zero, List.set_cons_succ])
          clear ow_s49 fr_s49 ne_s49_t2 dj_b_s49
          refine wpL_newS (z := #[.int .u8 ((u8 ((8 * F.length) / 256)).toNat : Int)]) (t := 5) (n := 1) (c := 1) (by rfl) (by first | kernel_rfl | (go_simp; done) | (go_simp; rfl)) ?_
          (try simp only [Act.put, List.setIfInBounds_toArray, List.set_cons_zero, List.set_cons_succ])
          intro p49_19 W19 n_s49 hO h_
          have ne_s49_t2 : Value.ownBlock (.slice (some ⟨p49_19, 0, none⟩) 1 1) ≠ some p2_1 := fun e_ => (Nat.ne_of_lt (Nat.lt_of_lt_of_le (blk_lt k_t2) n_s49)) (Option.some.inj e_).symm
          have dj_b_s49 : ∀ x, (Value.ownBlock v50_18) = some x → Value.ownBlock (.slice (some ⟨p49_19, 0, none⟩) 1 1) ≠ some x := dj_new (Own.lt ow_b) n_s49
          have fr_s49 : Fr (Value.ownBlock (.slice (some ⟨p49_19, 0, none⟩) 1 1)) w.heap.size [] := fr_new (Nat.le_trans sz n_s49)
          replace k_t2 := blk_off k_t2 hO nm0
          replace ow_b := Own.off ow_b hO f0
          replace off0 := off0.step hO i0
          replace sz := off0.size
          have ow_s49 : Own W19 (.slice (some ⟨p49_19, 0, none⟩) 1 1) [u8 ((8 * F.length) / 256)] := own_blk h_ (by rfl) (by show 1 ≤ maxLen; decide)
          clear hO h_ n_s49
          refine wpL_append (xs := ((((((((F ++ [128] ++ List.replicate (zc F.length) 0) ++ List.replicate 8 0) ++ [u8 ((8 * F.length) / 72057594037927936)]) ++ [u8 ((8 * F.length) / 281474976710656)]) ++ [u8 ((8 * F.length) / 1099511627776)]) ++ [u8 ((8 * F.length) / 4294967296)]) ++ [u8 ((8 * F.length) / 16777216)]) ++ [u8 ((8 * F.length) / 65536)])) (ys := [u8 ((8 * F.length) / 256)]) (by rfl) rfl rfl rfl ow_b (ow_s49.sl) (by first | omega | (simp only [List.length_append, List.length_cons, List.length_nil, List.length_replicate]; omega)) ?_
          (try simp only [Act.put, List.setIfInBounds_toArray, List.set_cons_zero, List.set_cons_succ])
          intro v50_20 W20 ow_a50 hO at_a50 nil_a50
          clear nil_a50
          have ne_a50_t2 := own_ne at_a50 ne_b_t2 (blk_lt k_t2)
          have dj_a50_s49 := own_dj at_a50 dj_b_s49 (Own.lt ow_s49)
          have fr_a50 := own_fr at_a50 fr_b sz
          replace k_t2 := blk_off k_t2 hO (nmo ne_b_t2)
          replace ow_s49 := Own.off ow_s49 hO (fo dj_b_s49)
          replace off0 := off0.step hO (io fr_b)
          replace sz := off0.size
          clear hO at_a50
          have ow_b := ow_a50
          clear ow_a50
          have fr_b := fr_a50
          have ne_b_t2 := ne_a50_t2
          have dj_b_s49 := dj_a50_s49
          (refine wpL_val (v := ?_) (by rfl) ?_ ?_; rotate_left 1; (focus (go_simp; first | done | with_reducible rfl)))
          (try simp only [Act.put, List.setIfInBounds_toArray, List.set_cons_zero, List.set_cons_succ])
          refine wpL_nil ?_
          go_wp2_with fail
          rw [rounds_succ]
          go_upto_region 15 with fail
          refine wp_region_lit ?_
          (refine wpL_val (v := ?_) (by rfl) ?_ ?_; rotate_left 1; (focus (go_simp; first | done | with_reducible rfl)))
          (try simp only [Act.put, List.setIfInBounds_toArray, List.set_cons_zero, List.set_cons_succ])
          (refine wpL_val (v := ?_) (by rfl) ?_ ?_; rotate_left 1; (focus (go_simp; first | done | with_reducible rfl)))
          (try simp only [Act.put, List.setIfInBounds_toArray, List.set_cons_zero, List.set_cons_succ])
          refine wpL_val (v := .int .i64 0) (by rfl) (by first | rfl | (go_simp; done) | (go_simp; with_reducible rfl) | (go_simp; omega)) ?_
          (try simp only [Act.put, List.setIfInBounds_toArray, List.set_cons_zero, List.set_cons_succ])
          refine wpL_val (v := .int .i64 0) (by rfl) (by first | rfl | (go_simp; done) | (go_simp; with_reducible rfl) | (go_simp; omega)) ?_
          (try simp only [Act.put, List.setIfInBounds_toArray, List.set_cons_zero, List.set_cons_succ])
          refine wpL_val (v := .int .u64 (sr ((8 * F.length : Nat) : Int) 0)) (by rfl) (run_shr (n := 0) (by decide) rfl rfl rfl) ?_
          (try simp only [Act.put, List.setIfInBounds_toArray, List.set_cons_zero, List.set_cons_succ])
          refine wpL_val (v := .int .u8 ((u8 (8 * F.length)).toNat : Int)) (by rfl) (by rw [← w8_nat0 (8 * F.length)]; exact run_c8 rfl rfl) ?_
          (try simp only [Act.put, List.setIfInBounds_toArray, List.set_cons_zero, List.set_cons_succ])
          clear ow_s49 fr_s49 ne_s49_t2 dj_b_s49
          refine wpL_newS (z := #[.int .u8 ((u8 (8 * F.length)).toNat : Int)]) (t := 5) (n := 1) (c := 1) (by rfl) (by first | kernel_rfl | (go_simp; done) | (go_simp; rfl)) ?_
          (try simp only [Act.put, List.setIfInBounds_toArray, List.set_cons_zero, List.set_cons_succ])
          intro p49_21 W21 n_s49 hO h_
          have ne_s49_t2 : Value.ownBlock (.slice (some ⟨p49_21, 0, none⟩) 1 1) ≠ some p2_1 := fun e_ => (Nat.ne_of_lt (Nat.lt_of_lt_of_le (blk_lt k_t2) n_s49)) (Option.some.inj e_).symm
          have dj_b_s49 : ∀ x, (Value.ownBlock v50_20) = some x → Value.ownBlock (.slice (some ⟨p49_21, 0, none⟩) 1 1) ≠ some x := dj_new (Own.lt ow_b) n_s49
          have fr_s49 : Fr (Value.ownBlock (.slice (some ⟨p49_21, 0, none⟩) 1 1)) w.heap.size [] := fr_new (Nat.le_trans sz n_s49)
          replace k_t2 := blk_off k_t2 hO nm0
          replace ow_b := Own.off ow_b hO f0
          replace off0 := off0.step hO i0
          replace sz := off0.size
          have ow_s49 : Own W21 (.slice (some ⟨p49_21, 0, none⟩) 1 1) [u8 (8 * F.length)] := own_blk h_ (by rfl) (by show 1 ≤ maxLen; decide)
          clear hO h_ n_s49
          refine wpL_append (xs := (((((((((F ++ [128] ++ List.replicate (zc F.length) 0) ++ List.replicate 8 0) ++ [u8 ((8 * F.length) / 72057594037927936)]) ++ [u8 ((8 * F.length) / 281474976710656)]) ++ [u8 ((8 * F.length) / 1099511627776)]) ++ [u8 ((8 * F.length) / 4294967296)]) ++ [u8 ((8 * F.length) / 16777216)]) ++ [u8 ((8 * F.length) / 65536)]) ++ [u8 ((8 * F.length) / 256)])) (ys := [u8 (8 * F.length)]) (by rfl) rfl rfl rfl ow_b (ow_s49.sl) (by first | omega | (simp only [List.length_append, List.length_cons, List.length_nil, List.length_replicate]; omega)) ?_
          (try simp only [Act.put, List.setIfInBounds_toArray, List.set_cons_zero, List.set_cons_succ])
          intro v50_22 W22 ow_a50 hO at_a50 nil_a50
          clear nil_a50
          have ne_a50_t2 := own_ne at_a50 ne_b_t2 (blk_lt k_t2)
          have dj_a50_s49 := own_dj at_a50 dj_b_s49 (Own.lt ow_s49)
          have fr_a50 := own_fr at_a50 fr_b sz
          replace k_t2 := blk_off k_t2 hO (nmo ne_b_t2)
          replace ow_s49 := Own.off ow_s49 hO (fo dj_b_s49)
          replace off0 := off0.step hO (io fr_b)
          replace sz := off0.size
          clear hO at_a50
          have ow_b := ow_a50
          clear ow_a50
          have fr_b := fr_a50
          have ne_b_t2 := ne_a50_t2
          have dj_b_s49 := dj_a50_s49
          (refine wpL_val (v := ?_) (by rfl) ?_ ?_; rotate_left 1; (focus (go_simp; first | done | with_reducible rfl)))
          (try simp only [Act.put, List.setIfInBounds_toArray, List.set_cons_zero, List.set_cons_succ])
          refine wpL_nil ?_
          go_wp2_with fail
          rw [rounds_succ]
          go_upto_region 16 with fail
          refine wp_region_lit ?_
          refine wpL_rd0 (by rfl) rfl rfl ((GS_ext HG.out off0.ext).2) (by kernel_rfl) (by rw [arrK_size]; kernel_rfl) ?_
          (try simp only [Act.put, List.setIfInBounds_toArray, List.set_cons_zero, List.set_cons_succ])
          refine wpL_new (z := arrK .u64 8 (fun _ => 0)) (t := 36) (by rfl) (by first | kernel_rfl | (go_simp; done) | (go_simp; rfl)) ?_
          (try simp only [Act.put, List.setIfInBounds_toArray, List.set_cons_zero, List.set_cons_succ])
          intro p8_23 W23 n_t8 hO h_
          have nq_t2_t8 : p2_1 ≠ p8_23 := Nat.ne_of_lt (Nat.lt_of_lt_of_le (blk_lt k_t2) n_t8)
          have ne_s49_t8 := ne_new (Own.lt ow_s49) n_t8
          have ne_b_t8 := ne_new (Own.lt ow_b) n_t8
          have fb_t8 : Fb p8_23 w.heap.size [] := fb_new (Nat.le_trans sz n_t8)
          replace k_t2 := blk_off k_t2 hO nm0
          replace ow_s49 := Own.off ow_s49 hO f0
          replace ow_b := Own.off ow_b hO f0
          replace off0 := off0.step hO i0
          replace sz := off0.size
          have k_t8 := h_
          clear hO h_ n_t8
          refine wpL_putrow (cells := arrK .u64 8 hf) (by rfl) rfl rfl rfl k_t8 (by rw [arrK_size]; kernel_rfl) (by rw [arrK_size, arrK_size]) (by exact arrK_one _ _ _) ?_
          (try simp only [Act.put, List.setIfInBounds_toArray, List.set_cons_zero, List.set_cons_succ])
          intro W24 hO h_
          replace k_t8 : Blk W24 p8_23 (arrK .u64 8 hf) 36 := h_
          clear h_
          replace k_t2 := blk_off k_t2 hO (nm1 nq_t2_t8)
          replace ow_s49 := Own.off ow_s49 hO (f1 ne_s49_t8)
          replace ow_b := Own.off ow_b hO (f1 ne_b_t8)
          replace off0 := off0.step hO (i1 fb_t8)
          replace sz := off0.size
          clear hO
          refine wpL_nil ?_
          clear ow_s49 fr_s49 ne_s49_t2 ne_s49_t8 dj_b_s49
          rw [be8_app] at ow_b
          have ow_c : Sl W24 v50_22 (List.drop (128 * 0) (pad F)) := own_to_sl ow_b
          have ne_c_t2 : sb v50_22 (List.drop (128 * 0) (pad F)) ≠ some p2_1 := ne_sb ne_b_t2
          have ne_c_t8 : sb v50_22 (List.drop (128 * 0) (pad F)) ≠ some p8_23 := ne_sb ne_b_t8
          clear ow_b fr_b ne_b_t2 ne_b_t8
          go_wp2_with fail
          go_loopw [3] (fun sv wr => ∃ (j : Nat) (u : Value), (j ≤ nb F.length) ∧ (u = sv) ∧ Off [] w wr ∧ Blk wr p2_1 (arrK .u8 64 (fun _ => 0)) 25 ∧ Blk wr p8_23 (arrK .u64 8 (Hs (pad F) j)) 36 ∧ Sl wr u (List.drop (128 * j) (pad F)) ∧ (sb u (List.drop (128 * j) (pad F))) ≠ some p2_1 ∧ (sb u (List.drop (128 * j) (pad F))) ≠ some p8_23)
            (fun sv _ => slLen sv)
          case atStart => exact ⟨0, _, Nat.zero_le _, rfl, off0, k_t2, k_t8, ow_c, ne_c_t2, ne_c_t8⟩
          case round =>
            obtain ⟨j, u, hj, rfl, off0, k_t2, k_t8, ow_c, ne_c_t2, ne_c_t8⟩ := hrel
            obtain ⟨W25, eW_⟩ := wname off0
            subst eW_
            have sz := off0.size
            have lb := sl_len ow_c
            by_cases hjl : j < nb F.length
            · have _f := hjl
              have hl128 : 128 ≤ (List.drop (128 * j) (pad F)).length := by rw [List.length_drop, hpl]; omega
              go_upto_region 17 with fail
              refine wp_region_lit ?_
              (refine wpL_val (v := ?_) (by rfl) ?_ ?_; rotate_left 1; (focus (go_simp; first | done | with_reducible rfl)))
              (try simp only [Act.put, List.setIfInBounds_toArray, List.set_cons_zero, List.set_cons_succ])
              refine wpL_len (l := (List.drop (128 * j) (pad F))) ow_c (by rfl) rfl rfl ?_
              (try simp only [Act.put, List.setIfInBounds_toArray, List.set_cons_zero, List.set_cons_succ])
              refine wpL_val (v := .bool true) (by rfl) (by go_simp; (try simp only [List.length_drop, hpl]); omega) ?_
              (try simp only [Act.put, List.setIfInBounds_toArray, List.set_cons_zero, List.set_cons_succ])
              refine wpL_nil ?_
              go_upto_region 19 with fail
              refine wp_region_lit ?_
              refine wpL_load0 (by rfl) rfl rfl k_t8 (by kernel_rfl) (by rw [arrK_size]; kernel_rfl) ?_
              (try simp only [Act.put, List.setIfInBounds_toArray, List.set_cons_zero, List.set_cons_succ])
              (refine wpL_val (v := ?_) (by rfl) ?_ ?_; rotate_left 1; (focus (go_simp; first | done | with_reducible rfl)))
              (try simp only [Act.put, List.setIfInBounds_toArray, List.set_cons_zero, List.set_cons_succ])
              refine wpL_ret (press_u (Hs (pad F) j) (List.drop (128 * j) (pad F)) u hl128 W25 ow_c (GS_ext HG.out off0.ext)) (by rfl) rfl (by kernel_rfl) rfl ?_
              (try simp only [Act.put, List.setIfInBounds_toArray, List.set_cons_zero, List.set_cons_succ])
              intro W26 hO
              replace k_t2 := blk_off k_t2 hO nm0
              replace k_t8 := blk_off k_t8 hO nm0
              replace ow_c := Sl.off ow_c hO f0
              replace off0 := off0.step hO i0
              replace sz := off0.size
              clear hO
              refine wpL_putrow (cells := arrK .u64 8 (prs (Hs (pad F) j) (bt (List.drop (128 * j) (pad F))))) (by rfl) rfl rfl rfl k_t8 (by rw [arrK_size]; kernel_rfl) (by rw [arrK_size, arrK_size]) (by exact arrK_one _ _ _) ?_
              (try simp only [Act.put, List.setIfInBounds_toArray, List.set_cons_zero, List.set_cons_succ])
              intro W27 hO h_
              replace k_t8 : Blk W27 p8_23 (arrK .u64 8 (prs (Hs (pad F) j) (bt (List.drop (128 * j) (pad F))))) 36 := h_
              clear h_
              replace k_t2 := blk_off k_t2 hO (nm1 nq_t2_t8)
              replace ow_c := Sl.off ow_c hO (f1 ne_c_t8)
              replace off0 := off0.step hO (i1 fb_t8)
              replace sz := off0.size
              clear hO
              refine wpL_nil ?_
              go_upto_region 18 with fail
              refine wp_region_lit ?_
              (refine wpL_val (v := ?_) (by rfl) ?_ ?_; rotate_left 1; (focus (go_simp; first | done | with_reducible rfl)))
              (try simp only [Act.put, List.setIfInBounds_toArray, List.set_cons_zero, List.set_cons_succ])
              refine wpL_tail (n := 128) ow_c (by exact hl128) (by rfl) rfl rfl rfl ?_
              (try simp only [Act.put, List.setIfInBounds_toArray, List.set_cons_zero, List.set_cons_succ])
              intro u56_27 ow_c56 sub_c56
              have ne_c56_t2 : sb u56_27 (List.drop 128 (List.drop (128 * j) (pad F))) ≠ some p2_1 := sub_ne sub_c56 ne_c_t2
              have ne_c56_t8 : sb u56_27 (List.drop 128 (List.drop (128 * j) (pad F))) ≠ some p8_23 := sub_ne sub_c56 ne_c_t8
              (refine wpL_val (v := ?_) (by rfl) ?_ ?_; rotate_left 1; (focus (go_simp; first | done | with_reducible rfl)))
              (try simp only [Act.put, List.setIfInBounds_toArray, List.set_cons_zero, List.set_cons_succ])
              refine wpL_nil ?_
              clear ow_c ne_c_t2 ne_c_t8
              rw [drop_next] at ow_c56
              rw [drop_next] at ne_c56_t2
              rw [drop_next] at ne_c56_t8
              have ow_c := ow_c56
              clear ow_c56
              have ne_c_t2 := ne_c56_t2
              have ne_c_t8 := ne_c56_t8
              have la := sl_len ow_c
              simp only [List.length_drop, hpl] at la lb
              go_wp2
              go_roundw
              case rel => exact ⟨j + 1, _, by omega, rfl, off0, k_t2, k_t8, ow_c, ne_c_t2, ne_c_t8⟩
              case measure => simp only [la, lb]; omega
            · have _f := hjl
              obtain rfl : j = nb F.length := by omega
              go_upto_region 17 with fail
              refine wp_region_lit ?_
              (refine wpL_val (v := ?_) (by rfl) ?_ ?_; rotate_left 1; (focus (go_simp; first | done | with_reducible rfl)))
              (try simp only [Act.put, List.setIfInBounds_toArray, List.set_cons_zero, List.set_cons_succ])
              refine wpL_len (l := (List.drop (128 * nb F.length) (pad F))) ow_c (by rfl) rfl rfl ?_
              (try simp only [Act.put, List.setIfInBounds_toArray, List.set_cons_zero, List.set_cons_succ])
              refine wpL_val (v := .bool false) (by rfl) (by first | (go_simp; done) | (go_simp; (try simp only [List.length_drop, hpl]); omega)) ?_
              (try simp only [Act.put, List.setIfInBounds_toArray, List.set_cons_zero, List.set_cons_succ])
              refine wpL_nil ?_
              go_upto_region 20 with fail
              refine wp_region_lit ?_
              refine wpL_new (z := arrK .u8 64 (fun _ => 0)) (t := 25) (by rfl) (by first | kernel_rfl | (go_simp; done) | (go_simp; rfl)) ?_
              (try simp only [Act.put, List.setIfInBounds_toArray, List.set_cons_zero, List.set_cons_succ])
              intro p9_26 W26 n_t9 hO h_
              have nq_t2_t9 : p2_1 ≠ p9_26 := Nat.ne_of_lt (Nat.lt_of_lt_of_le (blk_lt k_t2) n_t9)
              have nq_t8_t9 : p8_23 ≠ p9_26 := Nat.ne_of_lt (Nat.lt_of_lt_of_le (blk_lt k_t8) n_t9)
              have ne_c_t9 := ne_new (Sl.lt ow_c) n_t9
              have fb_t9 : Fb p9_26 w.heap.size [] := fb_new (Nat.le_trans sz n_t9)
              replace k_t2 := blk_off k_t2 hO nm0
              replace k_t8 := blk_off k_t8 hO nm0
              replace ow_c := Sl.off ow_c hO f0
              replace off0 := off0.step hO i0
              replace sz := off0.size
              have k_t9 := h_
              clear hO h_ n_t9
              refine wpL_nil ?_
              go_upto_region 21 with fail
              refine wp_region_lit ?_
              refine wpL_load0 (by rfl) rfl rfl k_t8 (by kernel_rfl) (by rw [arrK_size]; kernel_rfl) ?_
              (try simp only [Act.put, List.setIfInBounds_toArray, List.set_cons_zero, List.set_cons_succ])
              refine wpL_val (v := .int .i64 0) (by rfl) (by first | rfl | (go_simp; done) | (go_simp; with_reducible rfl) | (go_simp; omega)) ?_
              (try simp only [Act.put, List.setIfInBounds_toArray, List.set_cons_zero, List.set_cons_succ])
              refine wpL_nil ?_
              go_wp2_with fail
              go_loopw [61] (fun ii wr => ∃ (i : Nat), (i ≤ 8) ∧ (ii = .int .i64 (i : Int)) ∧ Off [] w wr ∧ Blk wr p2_1 (arrK .u8 64 (fun _ => 0)) 25 ∧ Blk wr p8_23 (arrK .u64 8 (Hs (pad F) (nb F.length))) 36 ∧ Blk wr p9_26 (arrK .u8 64 (outp (Hs (pad F) (nb F.length)) (8 * i))) 25 ∧ Sl wr u (List.drop (128 * nb F.length) (pad F)))
                (fun ii _ => 8 - (intOf ii).toNat)
              case atStart => exact ⟨0, Nat.zero_le _, rfl, off0, k_t2, k_t8, (by rw [Nat.mul_zero, outp_zero]; exact k_t9), ow_c⟩
              case round =>
                obtain ⟨i, hi, rfl, off0, k_t2, k_t8, k_t9, ow_c⟩ := hrel
                obtain ⟨W27, eW_⟩ := wname off0
                subst eW_
                have sz := off0.size
                by_cases h8 : i < 8
                · have _f := h8
                  go_upto_region 22 with fail
                  refine wp_region_lit ?_
                  refine wpL_val (v := .bool true) (by rfl) (by first | rfl | (go_simp; done) | (go_simp; with_reducible rfl) | (go_simp; omega)) ?_
                  (try simp only [Act.put, List.setIfInBounds_toArray, List.set_cons_zero, List.set_cons_succ])
                  refine wpL_nil ?_
                  go_upto_region 23 with fail
                  refine wp_region_lit ?_
                  (refine wpL_val (v := ?_) (by rfl) ?_ ?_; rotate_left 1; (focus (go_simp; first | done | with_reducible rfl)))
                  (try simp only [Act.put, List.setIfInBounds_toArray, List.set_cons_zero, List.set_cons_succ])
                  refine wpL_val (v := .int .u64 (Hs (pad F) (nb F.length) i)) (by rfl) (run_ixv (m := 8) h8 Tryd.underlying36 (by kernel_rfl) u64_agg rfl rfl rfl) ?_
                  (try simp only [Act.put, List.setIfInBounds_toArray, List.set_cons_zero, List.set_cons_succ])
                  (refine wpL_val (v := ?_) (by rfl) ?_ ?_; rotate_left 1; (focus (go_simp; first | done | with_reducible rfl)))
                  (try simp only [Act.put, List.setIfInBounds_toArray, List.set_cons_zero, List.set_cons_succ])
                  (refine wpL_val (v := ?_) (by rfl) ?_ ?_; rotate_left 1; (focus (go_simp; first | done | with_reducible rfl)))
                  (try simp only [Act.put, List.setIfInBounds_toArray, List.set_cons_zero, List.set_cons_succ])
                  refine wpL_nil ?_
                  go_wp2_with fail
                  go_loopw [65] (fun jj wr => ∃ (k : Nat), (k ≤ 8) ∧ (jj = .int .i64 (k : Int)) ∧ Off [] w wr ∧ Blk wr p2_1 (arrK .u8 64 (fun _ => 0)) 25 ∧ Blk wr p8_23 (arrK .u64 8 (Hs (pad F) (nb F.length))) 36 ∧ Blk wr p9_26 (arrK .u8 64 (outp (Hs (pad F) (nb F.length)) (8 * i + k))) 25 ∧ Sl wr u (List.drop (128 * nb F.length) (pad F)))
                    (fun jj _ => 8 - (intOf jj).toNat)
                  case atStart => exact ⟨0, Nat.zero_le _, rfl, off0, k_t2, k_t8, k_t9, ow_c⟩
                  case round =>
                    obtain ⟨k, hk, rfl, off0, k_t2, k_t8, k_t9, ow_c⟩ := hrel
                    obtain ⟨W28, eW_⟩ := wname off0
                    subst eW_
                    have sz := off0.size
                    by_cases hk8 : k < 8
                    · have _f := hk8
                      go_upto_region 25 with fail
                      refine wp_region_lit ?_
                      refine wpL_val (v := .bool true) (by rfl) (by first | rfl | (go_simp; done) | (go_simp; with_reducible rfl) | (go_simp; omega)) ?_
                      (try simp only [Act.put, List.setIfInBounds_toArray, List.set_cons_zero, List.set_cons_succ])
                      refine wpL_nil ?_
                      go_upto_region 27 with fail
                      refine wp_region_lit ?_
                      (refine wpL_val (v := ?_) (by rfl) ?_ ?_; rotate_left 1; (focus (go_simp; first | done | with_reducible rfl)))
                      (try simp only [Act.put, List.setIfInBounds_toArray, List.set_cons_zero, List.set_cons_succ])
                      refine wpL_val (v := .int .i64 (((8 * i : Nat) : Int))) (by rfl) (by go_simp; (try simp only [IntKind.wrap_u64, IntKind.wrap_i64]); (try omega)) ?_
                      (try simp only [Act.put, List.setIfInBounds_toArray, List.set_cons_zero, List.set_cons_succ])
                      (refine wpL_val (v := ?_) (by rfl) ?_ ?_; rotate_left 1; (focus (go_simp; first | done | with_reducible rfl)))
                      (try simp only [Act.put, List.setIfInBounds_toArray, List.set_cons_zero, List.set_cons_succ])
                      refine wpL_val (v := .int .i64 (((8 * i + k : Nat) : Int))) (by rfl) (by go_simp; (try simp only [IntKind.wrap_u64, IntKind.wrap_i64]); (try omega)) ?_
                      (try simp only [Act.put, List.setIfInBounds_toArray, List.set_cons_zero, List.set_cons_succ])
                      (refine wpL_val (v := ?_) (by rfl) ?_ ?_; rotate_left 1; (focus (go_simp; first | done | with_reducible rfl)))
                      (try simp only [Act.put, List.setIfInBounds_toArray, List.set_cons_zero, List.set_cons_succ])
                      (refine wpL_val (v := ?_) (by rfl) ?_ ?_; rotate_left 1; (focus (go_simp; first | done | with_reducible rfl)))
                      (try simp only [Act.put, List.setIfInBounds_toArray, List.set_cons_zero, List.set_cons_succ])
                      refine wpL_val (v := .int .i64 (((7 - k : Nat) : Int))) (by rfl) (by go_simp; (try simp only [IntKind.wrap_u64, IntKind.wrap_i64]); (try omega)) ?_
                      (try simp only [Act.put, List.setIfInBounds_toArray, List.set_cons_zero, List.set_cons_succ])
                      refine wpL_val (v := .int .i64 (((8 * (7 - k) : Nat) : Int))) (by rfl) (by go_simp; (try simp only [IntKind.wrap_u64, IntKind.wrap_i64]); (try omega)) ?_
                      (try simp only [Act.put, List.setIfInBounds_toArray, List.set_cons_zero, List.set_cons_succ])
                      refine wpL_val (v := .int .u64 (sr (Hs (pad F) (nb F.length) i) (8 * (7 - k)))) (by rfl) (run_shr (n := 8 * (7 - k)) (by omega) rfl rfl rfl) ?_
                      (try simp only [Act.put, List.setIfInBounds_toArray, List.set_cons_zero, List.set_cons_succ])
                      refine wpL_val (v := .int .u8 (w8 (sr (Hs (pad F) (nb F.length) i) (8 * (7 - k))))) (by rfl) (by exact run_c8 rfl rfl) ?_
                      (try simp only [Act.put, List.setIfInBounds_toArray, List.set_cons_zero, List.set_cons_succ])
                      refine wpL_val (v := .pointer (some ⟨p9_26, 0 + (8 * i + k), none⟩)) (by rfl) (run_ixarr (m := 64) (by decide) (by omega) Tryd.underlying25 (by kernel_rfl) rfl rfl rfl) ?_
                      (try simp only [Act.put, List.setIfInBounds_toArray, List.set_cons_zero, List.set_cons_succ])
                      refine wpL_put1 (v := .int .u8 (w8 (sr (Hs (pad F) (nb F.length) i) (8 * (7 - k))))) ⟨rfl, rfl⟩ (by rfl) rfl rfl rfl k_t9 (by rw [arrK_size, Nat.zero_add]; omega) (by kernel_rfl) ?_
                      (try simp only [Act.put, List.setIfInBounds_toArray, List.set_cons_zero, List.set_cons_succ])
                      intro W29 hO h_
                      rw [Nat.zero_add, arrK_set] at h_
                      replace k_t9 : Blk W29 p9_26 (arrK .u8 64 (upd (outp (Hs (pad F) (nb F.length)) (8 * i + k)) (8 * i + k) (w8 (sr (Hs (pad F) (nb F.length) i) (8 * (7 - k)))))) 25 := h_
                      clear h_
                      replace k_t2 := blk_off k_t2 hO (nm1 nq_t2_t9)
                      replace k_t8 := blk_off k_t8 hO (nm1 nq_t8_t9)
                      replace ow_c := Sl.off ow_c hO (f1 ne_c_t9)
                      replace off0 := off0.step hO (i1 fb_t9)
                      replace sz := off0.size
                      clear hO
                      refine wpL_nil ?_
                      go_wp2
                      go_roundw
                      case rel => exact ⟨k + 1, by omega, by go_num, off0, k_t2, k_t8, (by rw [← outp_step _ _ _ hk8]; exact k_t9), ow_c⟩
                      case measure => simp [intOf]; omega
                    · have _f := hk8
                      obtain rfl : k = 8 := by omega
                      go_upto_region 25 with fail
                      refine wp_region_lit ?_
                      refine wpL_val (v := .bool false) (by rfl) (by first | rfl | (go_simp; done) | (go_simp; with_reducible rfl) | (go_simp; omega)) ?_
                      (try simp only [Act.put, List.setIfInBounds_toArray, List.set_cons_zero, List.set_cons_succ])
                      refine wpL_nil ?_
                      go_wp2
                      go_roundw
                      case rel => exact ⟨i + 1, by omega, by go_num, off0, k_t2, k_t8, (by rw [show 8 * (i + 1) = 8 * i + 8 by omega]; exact k_t9), ow_c⟩
                      case measure => simp [intOf]; omega
                · have _f := h8
                  obtain rfl : i = 8 := by omega
                  rw [show 8 * 8 = 64 by rfl, outp_end] at k_t9
                  go_upto_region 22 with fail
                  refine wp_region_lit ?_
                  refine wpL_val (v := .bool false) (by rfl) (by first | rfl | (go_simp; done) | (go_simp; with_reducible rfl) | (go_simp; omega)) ?_
                  (try simp only [Act.put, List.setIfInBounds_toArray, List.set_cons_zero, List.set_cons_succ])
                  refine wpL_nil ?_
                  go_upto_region 30 with fail
                  refine wp_region_lit ?_
                  refine wpL_load0 (by rfl) rfl rfl k_t9 (by kernel_rfl) (by rw [arrK_size]; kernel_rfl) ?_
                  (try simp only [Act.put, List.setIfInBounds_toArray, List.set_cons_zero, List.set_cons_succ])
                  refine wpL_putrow (cells := arrK .u8 64 (ob (Hs (pad F) (nb F.length)))) (by rfl) rfl rfl rfl k_t2 (by rw [arrK_size]; kernel_rfl) (by rw [arrK_size, arrK_size]) (by exact arrK_one _ _ _) ?_
                  (try simp only [Act.put, List.setIfInBounds_toArray, List.set_cons_zero, List.set_cons_succ])
                  intro W28 hO h_
                  replace k_t2 : Blk W28 p2_1 (arrK .u8 64 (ob (Hs (pad F) (nb F.length)))) 25 := h_
                  clear h_
                  replace k_t8 := blk_off k_t8 hO (nm1 nq_t2_t8.symm)
                  replace k_t9 := blk_off k_t9 hO (nm1 nq_t2_t9.symm)
                  replace ow_c := Sl.off ow_c hO (f1 ne_c_t2)
                  replace off0 := off0.step hO (i1 fb_t2)
                  replace sz := off0.size
                  clear hO
                  refine wpL_nil ?_
                  go_wp2
                  refine bodyPost_ret (res_row rfl rfl k_t2 (by kernel_rfl) (by rw [arrK_size]; kernel_rfl)) rfl ⟨rfl, off0.ext⟩
end Go.Proofs.YtfkhogeaadldnaaDoor
