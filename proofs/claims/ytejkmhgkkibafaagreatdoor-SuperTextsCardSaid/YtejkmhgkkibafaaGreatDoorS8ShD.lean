/- sha5.Sum: the sum of parts, one behind the other. Conditions: the parts read as bytes; the tables hold their numbers. -/
import Derived.Test.YtejkmhgkkibafaaGreatDoorGc
import Derived.Test.YtejkmhgkkibafaaGreatDoorJ8
import Derived.Test.YtejkmhgkkibafaaGreatDoorOz
import Derived.Test.YtejkmhgkkibafaaGreatDoorJ11
set_option linter.unusedSimpArgs false
set_option linter.unusedVariables false
namespace Go.Proofs.YtejkmhgkkibafaaGreatDoor.S8
set_option maxHeartbeats 4000000
set_option maxRecDepth 100000
open Go.RowKit
attribute [local irreducible] wpList
theorem press_u (h : Nat → Int) (l : List UInt8) (u : Value) (hl : 128 ≤ l.length) (w : World) (hs : Sl w u l) (hG : GS w) : Calls Tryz.prog 158 #[.agg (arrK .u64 8 h), u] w fun e w' => Ret (.agg (arrK .u64 8 (prs h (bt l)))) w w' e := by
  obtain ⟨ad, c, rfl, _⟩ := sl_form hs (by omega)
  exact press_c h l ad c hl w hs hG

theorem sum_c (ps : List (List UInt8)) (A : Option Addr) (c : Nat) (F : List UInt8) (hF : ps.flatten = F) (hlen : F.length ≤ 70368744177664) (hpn : ps.length ≤ 9223372036854775000) (w : World) (hps : ∀ i l, ps[i]? = some l → ∃ ad u, A = some ad ∧ w.cell? (ad.add i) = some u ∧ Sl w u l) (hG : GS w) :
  Calls Tryz.prog 125 #[.slice A ps.length c] w fun e w' => Ret (.agg (arrK .u8 64 (sm F))) w w' e := by
 have HG := Lib.hid hG
 have HPS := Lib.hid hps
 clear hG hps
 have hpl := pad_length F
 have hzc := (zc_spec F.length).2
 have off0 : Off [] w w := Off.refl _ _
 go_enter Tryz.func125, Tryz.ntmps125
 go_upto_region 0 with fail
 refine wp_region_lit ?_
 refine Ln ?_ (z := arrK .u8 64 (fun _ => 0)) (t := 45)
 intro p2_1 W1 n_t2 hO h_
 have fb_t2 := fbn off0 n_t2
 replace off0 := off0.o hO
 have k_t2 := h_
 clear hO h_ n_t2
 refine wpL_nil ?_
 go_upto_region 2 with fail
 refine wp_region_lit ?_
 refine Lv ?_
 refine Lv ?_
 refine Lw ?_ (v := .int .i64 0)
 refine wpL_nil ?_
 have ow_b := own_nil W1
 have fr_b : Fr (Value.ownBlock (.slice none 0 0)) w.heap.size [] := fr_none
 have ne_b_t2 : Value.ownBlock (.slice none 0 0) ≠ some p2_1 := fun e_ => by cases e_
 go_wp2_with fail
 go_loopw [3, 15] (fun sv ii wr => ∃ (i : Nat) (bv : Value), (i ≤ ps.length) ∧ (bv = sv) ∧ (ii = .int .i64 (i : Int)) ∧ Off [] w wr ∧ Blk wr p2_1 (arrK .u8 64 (fun _ => 0)) 45 ∧ Own wr bv ((List.take i ps).flatten) ∧ Fr (Value.ownBlock bv) w.heap.size [] ∧ (Value.ownBlock bv) ≠ some p2_1)
  (fun sv ii _ => ps.length - (intOf ii).toNat)
 case atStart => exact ⟨0, _, Nat.zero_le _, rfl, rfl, off0, k_t2, ow_b, fr_b, ne_b_t2⟩
 case round =>
  obtain ⟨i, bv, hi, rfl, rfl, off0, k_t2, ow_b, fr_b, ne_b_t2⟩ := hrel
  obtain ⟨W2, eW_⟩ := wname off0
  subst eW_
  by_cases hlt : i < ps.length
  ·
   have _f := hlt
   obtain ⟨l_, hl_⟩ : ∃ l, ps[i]? = some l := ⟨_, List.getElem?_eq_getElem hlt⟩
   obtain ⟨ad_, u_, hA_, hc_, hu_⟩ := HPS.out i l_ hl_
   have hfl : (List.take i ps).flatten.length + l_.length ≤ F.length := by rw [← hF, ← List.length_append, ← flat_step hl_]; exact flat_len _ _
   go_upto_region 3 with fail
   refine wp_region_lit ?_
   refine Lw ?_ (v := .bool true)
   refine wpL_nil ?_
   go_upto_region 4 with fail
   refine wp_region_lit ?_
   refine Lw ?_ (v := .pointer (some (ad_.add i))) (hv := run_ixp (j := i) hlt rfl (by rw [← hA_]; rfl) rfl)
   refine wpL_at (by rfl) rfl rfl (cell_ext hc_ off0.ext) (by kernel_rfl) ?_
   (try simp only [Act.put, mA, mB, mC])
   refine Lv ?_
   refine wpL_nil ?_
   go_upto_region 5 with fail
   refine wp_region_lit ?_
   refine Lv ?_
   refine Lv ?_
   refine wpL_append (xs := ((List.take i ps).flatten)) (ys := l_) (by rfl) rfl rfl rfl ow_b (hu_.off off0 f0) (by first | omega | (simp only [List.length_append, List.length_cons, List.length_nil, List.length_replicate]; omega)) ?_
   (try simp only [Act.put, mA, mB, mC])
   intro v21_3 W3 ow_a21 hO at_a21 nil_a21
   clear nil_a21
   have ne_a21_t2 := own_ne at_a21 ne_b_t2 (blk_lt k_t2)
   have fr_a21 := own_fr at_a21 fr_b off0.size
   replace k_t2 := blk_off k_t2 hO (nmo ne_b_t2)
   replace off0 := off0.step hO (io fr_b)
   clear hO at_a21
   have ow_b := ow_a21
   clear ow_a21
   have fr_b := fr_a21
   have ne_b_t2 := ne_a21_t2
   refine Lv ?_
   refine wpL_nil ?_
   go_wp2
   go_roundw
   case rel => exact ⟨i + 1, _, by omega, rfl, by go_num, off0, k_t2, (by rw [flat_step hl_]; exact ow_b), fr_b, ne_b_t2⟩
   case measure => simp [intOf]; omega
  ·
   have _f := hlt
   obtain rfl : i = ps.length := by omega
   rw [List.take_length, hF] at ow_b
   go_upto_region 3 with fail
   refine wp_region_lit ?_
   refine Lw ?_ (v := .bool false)
   refine wpL_nil ?_
   go_upto_region 7 with fail
   refine wp_region_lit ?_
   refine Lv ?_
   refine wpL_len (l := F) (ow_b.sl) (by rfl) rfl rfl ?_
   (try simp only [Act.put, mA, mB, mC])
   refine Lw ?_ (v := .int .u64 ((F.length : Nat) : Int)) (hv := by go_simp; (try simp only [IntKind.wrap_u64, IntKind.wrap_i64]); (try omega))
   refine Lw ?_ (v := .int .u64 ((8 * F.length : Nat) : Int)) (hv := by rw [show ((8 * F.length : Nat) : Int) = sl ((F.length : Nat) : Int) 3 from (by unfold sl; rw [IntKind.wrap_u64]; omega)]; exact run_shl (n := 3) (by decide) rfl rfl rfl)
   refine Lv ?_
   refine wpL_nil ?_
   go_upto_region 8 with fail
   refine wp_region_lit ?_
   refine Lv ?_
   refine LnS ?_ (z := #[.int .u8 128]) (t := 5) (n := 1) (c := 1)
   intro p28_3 W3 n_s28 hO h_
   replace k_t2 := k_t2.o hO
   replace ow_b := Own.off ow_b hO f0
   replace off0 := off0.o hO
   have ow_s28 : Own W3 (.slice (some ⟨p28_3, 0, none⟩) 1 1) [128] := own_blk h_ (by rfl) (by show 1 ≤ maxLen; decide)
   clear hO h_ n_s28
   refine wpL_append (xs := F) (ys := [128]) (by rfl) rfl rfl rfl ow_b (ow_s28.sl) (by first | omega | (simp only [List.length_append, List.length_cons, List.length_nil, List.length_replicate]; omega)) ?_
   (try simp only [Act.put, mA, mB, mC])
   intro v29_4 W4 ow_a29 hO at_a29 nil_a29
   clear nil_a29
   have ne_a29_t2 := own_ne at_a29 ne_b_t2 (blk_lt k_t2)
   have fr_a29 := own_fr at_a29 fr_b off0.size
   replace k_t2 := blk_off k_t2 hO (nmo ne_b_t2)
   replace off0 := off0.step hO (io fr_b)
   clear hO at_a29
   have ow_b := ow_a29
   clear ow_a29
   have fr_b := fr_a29
   have ne_b_t2 := ne_a29_t2
   refine Lv ?_
   refine wpL_nil ?_
   clear ow_s28
   go_wp2_with fail
   go_loopw [3] (fun sv wr => ∃ (k : Nat) (bv : Value), (k ≤ zc F.length) ∧ (bv = sv) ∧ Off [] w wr ∧ Blk wr p2_1 (arrK .u8 64 (fun _ => 0)) 45 ∧ Own wr bv (F ++ [128] ++ List.replicate k 0) ∧ Fr (Value.ownBlock bv) w.heap.size [] ∧ (Value.ownBlock bv) ≠ some p2_1)
    (fun sv _ => F.length + 300 - slLen sv)
   case atStart => exact ⟨0, _, Nat.zero_le _, rfl, off0, k_t2, (by rw [List.replicate_zero, List.append_nil]; exact ow_b), fr_b, ne_b_t2⟩
   case round =>
    obtain ⟨k, bv, hk, rfl, off0, k_t2, ow_b, fr_b, ne_b_t2⟩ := hrel
    obtain ⟨W5, eW_⟩ := wname off0
    subst eW_
    have lb := own_len ow_b
    by_cases hz : k < zc F.length
    ·
     have _f := hz
     have hz2 := zc_lt hz
     go_upto_region 9 with fail
     refine wp_region_lit ?_
     refine Lv ?_
     refine wpL_len (l := (F ++ [128] ++ List.replicate k 0)) (ow_b.sl) (by rfl) rfl rfl ?_
     (try simp only [Act.put, mA, mB, mC])
     refine Lw ?_ (v := .int .i64 (((F.length + 1 + k) % 128 : Nat) : Int)) (hv := by go_simp; (try simp only [List.length_append, List.length_cons, List.length_nil, List.length_replicate]); rw [Int.tmod_eq_emod_of_nonneg (by omega)]; omega)
     refine Lw ?_ (v := .bool true) (hv := by go_simp; omega)
     refine wpL_nil ?_
     go_upto_region 10 with fail
     refine wp_region_lit ?_
     refine Lv ?_
     refine LnS ?_ (z := #[.int .u8 0]) (t := 5) (n := 1) (c := 1)
     intro p35_6 W6 n_s35 hO h_
     replace k_t2 := k_t2.o hO
     replace ow_b := Own.off ow_b hO f0
     replace off0 := off0.o hO
     have ow_s35 : Own W6 (.slice (some ⟨p35_6, 0, none⟩) 1 1) [0] := own_blk h_ (by rfl) (by show 1 ≤ maxLen; decide)
     clear hO h_ n_s35
     refine wpL_append (xs := (F ++ [128] ++ List.replicate k 0)) (ys := [0]) (by rfl) rfl rfl rfl ow_b (ow_s35.sl) (by first | omega | (simp only [List.length_append, List.length_cons, List.length_nil, List.length_replicate]; omega)) ?_
     (try simp only [Act.put, mA, mB, mC])
     intro v36_7 W7 ow_a36 hO at_a36 nil_a36
     clear nil_a36
     have ne_a36_t2 := own_ne at_a36 ne_b_t2 (blk_lt k_t2)
     have fr_a36 := own_fr at_a36 fr_b off0.size
     replace k_t2 := blk_off k_t2 hO (nmo ne_b_t2)
     replace off0 := off0.step hO (io fr_b)
     clear hO at_a36
     have ow_b := ow_a36
     clear ow_a36
     have fr_b := fr_a36
     have ne_b_t2 := ne_a36_t2
     refine Lv ?_
     refine wpL_nil ?_
     have la := own_len ow_b
     simp only [List.length_append, List.length_cons, List.length_nil, List.length_replicate] at la lb
     go_wp2
     go_roundw
     case rel => exact ⟨k + 1, _, by omega, rfl, off0, k_t2, (by rw [List.replicate_succ', ← List.append_assoc]; exact ow_b), fr_b, ne_b_t2⟩
     case measure => simp only [la, lb]; omega
    ·
     have _f := hz
     obtain rfl : k = zc F.length := by omega
     have hz2 := (zc_spec F.length).1
     go_upto_region 9 with fail
     refine wp_region_lit ?_
     refine Lv ?_
     refine wpL_len (l := (F ++ [128] ++ List.replicate (zc F.length) 0)) (ow_b.sl) (by rfl) rfl rfl ?_
     (try simp only [Act.put, mA, mB, mC])
     refine Lw ?_ (v := .int .i64 (((F.length + 1 + zc F.length) % 128 : Nat) : Int)) (hv := by go_simp; (try simp only [List.length_append, List.length_cons, List.length_nil, List.length_replicate]); rw [Int.tmod_eq_emod_of_nonneg (by omega)]; omega)
     refine Lw ?_ (v := .bool false) (hv := by first | (go_simp; done) | (go_simp; omega))
     refine wpL_nil ?_
     go_upto_region 11 with fail
     refine wp_region_lit ?_
     refine Lv ?_
     refine wpL_append0 (xs := (F ++ [128] ++ List.replicate (zc F.length) 0)) (m := 8) (by decide) (by rfl) rfl rfl rfl ow_b (by first | omega | (simp only [List.length_append, List.length_cons, List.length_nil, List.length_replicate]; omega)) ?_
     (try simp only [Act.put, mA, mB, mC])
     intro v38_6 W6 ow_a38 hO at_a38
     have ne_a38_t2 := own_ne at_a38 ne_b_t2 (blk_lt k_t2)
     have fr_a38 := own_fr at_a38 fr_b off0.size
     replace k_t2 := blk_off k_t2 hO (nmo ne_b_t2)
     replace off0 := off0.step hO (io fr_b)
     clear hO at_a38
     have ow_b := ow_a38
     clear ow_a38
     have fr_b := fr_a38
     have ne_b_t2 := ne_a38_t2
     refine Lv ?_
     refine wpL_nil ?_
     go_wp2_with fail
     refine wp_loop_rounds 9 ?_
     rw [rounds_succ]
     go_upto_region 15 with fail
     refine wp_region_lit ?_
     refine Lv ?_
     refine Lv ?_
     refine Lw ?_ (v := .int .i64 7)
     refine Lw ?_ (v := .int .i64 56)
     refine Lw ?_ (v := .int .u64 (sr ((8 * F.length : Nat) : Int) 56)) (hv := run_shr (n := 56) (by decide) rfl rfl rfl)
     refine Lw ?_ (v := .int .u8 ((u8 ((8 * F.length) / 72057594037927936)).toNat : Int)) (hv := by rw [← w8_nat (8 * F.length) 56 72057594037927936 (by decide)]; exact run_c8 rfl rfl)
     refine LnS ?_ (z := #[.int .u8 ((u8 ((8 * F.length) / 72057594037927936)).toNat : Int)]) (t := 5) (n := 1) (c := 1)
     intro p49_7 W7 n_s49 hO h_
     have dj_b_s49 : ∀ x, (Value.ownBlock v38_6) = some x → Value.ownBlock (.slice (some ⟨p49_7, 0, none⟩) 1 1) ≠ some x := dj_new (Own.lt ow_b) n_s49
     replace k_t2 := k_t2.o hO
     replace ow_b := Own.off ow_b hO f0
     replace off0 := off0.o hO
     have ow_s49 : Own W7 (.slice (some ⟨p49_7, 0, none⟩) 1 1) [u8 ((8 * F.length) / 72057594037927936)] := own_blk h_ (by rfl) (by show 1 ≤ maxLen; decide)
     clear hO h_ n_s49
     refine wpL_append (xs := ((F ++ [128] ++ List.replicate (zc F.length) 0) ++ List.replicate 8 0)) (ys := [u8 ((8 * F.length) / 72057594037927936)]) (by rfl) rfl rfl rfl ow_b (ow_s49.sl) (by first | omega | (simp only [List.length_append, List.length_cons, List.length_nil, List.length_replicate]; omega)) ?_
     (try simp only [Act.put, mA, mB, mC])
     intro v50_8 W8 ow_a50 hO at_a50 nil_a50
     clear nil_a50
     have ne_a50_t2 := own_ne at_a50 ne_b_t2 (blk_lt k_t2)
     have dj_a50_s49 := own_dj at_a50 dj_b_s49 (Own.lt ow_s49)
     have fr_a50 := own_fr at_a50 fr_b off0.size
     replace k_t2 := blk_off k_t2 hO (nmo ne_b_t2)
     replace ow_s49 := Own.off ow_s49 hO (fo dj_b_s49)
     replace off0 := off0.step hO (io fr_b)
     clear hO at_a50
     have ow_b := ow_a50
     clear ow_a50
     have fr_b := fr_a50
     have ne_b_t2 := ne_a50_t2
     have dj_b_s49 := dj_a50_s49
     refine Lv ?_
     refine wpL_nil ?_
     go_wp2_with fail
     rw [rounds_succ]
     go_upto_region 15 with fail
     refine wp_region_lit ?_
     refine Lv ?_
     refine Lv ?_
     refine Lw ?_ (v := .int .i64 6)
     refine Lw ?_ (v := .int .i64 48)
     refine Lw ?_ (v := .int .u64 (sr ((8 * F.length : Nat) : Int) 48)) (hv := run_shr (n := 48) (by decide) rfl rfl rfl)
     refine Lw ?_ (v := .int .u8 ((u8 ((8 * F.length) / 281474976710656)).toNat : Int)) (hv := by rw [← w8_nat (8 * F.length) 48 281474976710656 (by decide)]; exact run_c8 rfl rfl)
     clear ow_s49 dj_b_s49
     refine LnS ?_ (z := #[.int .u8 ((u8 ((8 * F.length) / 281474976710656)).toNat : Int)]) (t := 5) (n := 1) (c := 1)
     intro p49_9 W9 n_s49 hO h_
     have dj_b_s49 : ∀ x, (Value.ownBlock v50_8) = some x → Value.ownBlock (.slice (some ⟨p49_9, 0, none⟩) 1 1) ≠ some x := dj_new (Own.lt ow_b) n_s49
     replace k_t2 := k_t2.o hO
     replace ow_b := Own.off ow_b hO f0
     replace off0 := off0.o hO
     have ow_s49 : Own W9 (.slice (some ⟨p49_9, 0, none⟩) 1 1) [u8 ((8 * F.length) / 281474976710656)] := own_blk h_ (by rfl) (by show 1 ≤ maxLen; decide)
     clear hO h_ n_s49
     refine wpL_append (xs := (((F ++ [128] ++ List.replicate (zc F.length) 0) ++ List.replicate 8 0) ++ [u8 ((8 * F.length) / 72057594037927936)])) (ys := [u8 ((8 * F.length) / 281474976710656)]) (by rfl) rfl rfl rfl ow_b (ow_s49.sl) (by first | omega | (simp only [List.length_append, List.length_cons, List.length_nil, List.length_replicate]; omega)) ?_
     (try simp only [Act.put, mA, mB, mC])
     intro v50_10 W10 ow_a50 hO at_a50 nil_a50
     clear nil_a50
     have ne_a50_t2 := own_ne at_a50 ne_b_t2 (blk_lt k_t2)
     have dj_a50_s49 := own_dj at_a50 dj_b_s49 (Own.lt ow_s49)
     have fr_a50 := own_fr at_a50 fr_b off0.size
     replace k_t2 := blk_off k_t2 hO (nmo ne_b_t2)
     replace ow_s49 := Own.off ow_s49 hO (fo dj_b_s49)
     replace off0 := off0.step hO (io fr_b)
     clear hO at_a50
     have ow_b := ow_a50
     clear ow_a50
     have fr_b := fr_a50
     have ne_b_t2 := ne_a50_t2
     have dj_b_s49 := dj_a50_s49
     refine Lv ?_
     refine wpL_nil ?_
     go_wp2_with fail
     rw [rounds_succ]
     go_upto_region 15 with fail
     refine wp_region_lit ?_
     refine Lv ?_
     refine Lv ?_
     refine Lw ?_ (v := .int .i64 5)
     refine Lw ?_ (v := .int .i64 40)
     refine Lw ?_ (v := .int .u64 (sr ((8 * F.length : Nat) : Int) 40)) (hv := run_shr (n := 40) (by decide) rfl rfl rfl)
     refine Lw ?_ (v := .int .u8 ((u8 ((8 * F.length) / 1099511627776)).toNat : Int)) (hv := by rw [← w8_nat (8 * F.length) 40 1099511627776 (by decide)]; exact run_c8 rfl rfl)
     clear ow_s49 dj_b_s49
     refine LnS ?_ (z := #[.int .u8 ((u8 ((8 * F.length) / 1099511627776)).toNat : Int)]) (t := 5) (n := 1) (c := 1)
     intro p49_11 W11 n_s49 hO h_
     have dj_b_s49 : ∀ x, (Value.ownBlock v50_10) = some x → Value.ownBlock (.slice (some ⟨p49_11, 0, none⟩) 1 1) ≠ some x := dj_new (Own.lt ow_b) n_s49
     replace k_t2 := k_t2.o hO
     replace ow_b := Own.off ow_b hO f0
     replace off0 := off0.o hO
     have ow_s49 : Own W11 (.slice (some ⟨p49_11, 0, none⟩) 1 1) [u8 ((8 * F.length) / 1099511627776)] := own_blk h_ (by rfl) (by show 1 ≤ maxLen; decide)
     clear hO h_ n_s49
     refine wpL_append (xs := ((((F ++ [128] ++ List.replicate (zc F.length) 0) ++ List.replicate 8 0) ++ [u8 ((8 * F.length) / 72057594037927936)]) ++ [u8 ((8 * F.length) / 281474976710656)])) (ys := [u8 ((8 * F.length) / 1099511627776)]) (by rfl) rfl rfl rfl ow_b (ow_s49.sl) (by first | omega | (simp only [List.length_append, List.length_cons, List.length_nil, List.length_replicate]; omega)) ?_
     (try simp only [Act.put, mA, mB, mC])
     intro v50_12 W12 ow_a50 hO at_a50 nil_a50
     clear nil_a50
     have ne_a50_t2 := own_ne at_a50 ne_b_t2 (blk_lt k_t2)
     have dj_a50_s49 := own_dj at_a50 dj_b_s49 (Own.lt ow_s49)
     have fr_a50 := own_fr at_a50 fr_b off0.size
     replace k_t2 := blk_off k_t2 hO (nmo ne_b_t2)
     replace ow_s49 := Own.off ow_s49 hO (fo dj_b_s49)
     replace off0 := off0.step hO (io fr_b)
     clear hO at_a50
     have ow_b := ow_a50
     clear ow_a50
     have fr_b := fr_a50
     have ne_b_t2 := ne_a50_t2
     have dj_b_s49 := dj_a50_s49
     refine Lv ?_
     refine wpL_nil ?_
     go_wp2_with fail
     rw [rounds_succ]
     go_upto_region 15 with fail
     refine wp_region_lit ?_
     refine Lv ?_
     refine Lv ?_
     refine Lw ?_ (v := .int .i64 4)
     refine Lw ?_ (v := .int .i64 32)
     refine Lw ?_ (v := .int .u64 (sr ((8 * F.length : Nat) : Int) 32)) (hv := run_shr (n := 32) (by decide) rfl rfl rfl)
     refine Lw ?_ (v := .int .u8 ((u8 ((8 * F.length) / 4294967296)).toNat : Int)) (hv := by rw [← w8_nat (8 * F.length) 32 4294967296 (by decide)]; exact run_c8 rfl rfl)
     clear ow_s49 dj_b_s49
     refine LnS ?_ (z := #[.int .u8 ((u8 ((8 * F.length) / 4294967296)).toNat : Int)]) (t := 5) (n := 1) (c := 1)
     intro p49_13 W13 n_s49 hO h_
     have dj_b_s49 : ∀ x, (Value.ownBlock v50_12) = some x → Value.ownBlock (.slice (some ⟨p49_13, 0, none⟩) 1 1) ≠ some x := dj_new (Own.lt ow_b) n_s49
     replace k_t2 := k_t2.o hO
     replace ow_b := Own.off ow_b hO f0
     replace off0 := off0.o hO
     have ow_s49 : Own W13 (.slice (some ⟨p49_13, 0, none⟩) 1 1) [u8 ((8 * F.length) / 4294967296)] := own_blk h_ (by rfl) (by show 1 ≤ maxLen; decide)
     clear hO h_ n_s49
     refine wpL_append (xs := (((((F ++ [128] ++ List.replicate (zc F.length) 0) ++ List.replicate 8 0) ++ [u8 ((8 * F.length) / 72057594037927936)]) ++ [u8 ((8 * F.length) / 281474976710656)]) ++ [u8 ((8 * F.length) / 1099511627776)])) (ys := [u8 ((8 * F.length) / 4294967296)]) (by rfl) rfl rfl rfl ow_b (ow_s49.sl) (by first | omega | (simp only [List.length_append, List.length_cons, List.length_nil, List.length_replicate]; omega)) ?_
     (try simp only [Act.put, mA, mB, mC])
     intro v50_14 W14 ow_a50 hO at_a50 nil_a50
     clear nil_a50
     have ne_a50_t2 := own_ne at_a50 ne_b_t2 (blk_lt k_t2)
     have dj_a50_s49 := own_dj at_a50 dj_b_s49 (Own.lt ow_s49)
     have fr_a50 := own_fr at_a50 fr_b off0.size
     replace k_t2 := blk_off k_t2 hO (nmo ne_b_t2)
     replace ow_s49 := Own.off ow_s49 hO (fo dj_b_s49)
     replace off0 := off0.step hO (io fr_b)
     clear hO at_a50
     have ow_b := ow_a50
     clear ow_a50
     have fr_b := fr_a50
     have ne_b_t2 := ne_a50_t2
     have dj_b_s49 := dj_a50_s49
     refine Lv ?_
     refine wpL_nil ?_
     go_wp2_with fail
     rw [rounds_succ]
     go_upto_region 15 with fail
     refine wp_region_lit ?_
     refine Lv ?_
     refine Lv ?_
     refine Lw ?_ (v := .int .i64 3)
     refine Lw ?_ (v := .int .i64 24)
     refine Lw ?_ (v := .int .u64 (sr ((8 * F.length : Nat) : Int) 24)) (hv := run_shr (n := 24) (by decide) rfl rfl rfl)
     refine Lw ?_ (v := .int .u8 ((u8 ((8 * F.length) / 16777216)).toNat : Int)) (hv := by rw [← w8_nat (8 * F.length) 24 16777216 (by decide)]; exact run_c8 rfl rfl)
     clear ow_s49 dj_b_s49
     refine LnS ?_ (z := #[.int .u8 ((u8 ((8 * F.length) / 16777216)).toNat : Int)]) (t := 5) (n := 1) (c := 1)
     intro p49_15 W15 n_s49 hO h_
     have dj_b_s49 : ∀ x, (Value.ownBlock v50_14) = some x → Value.ownBlock (.slice (some ⟨p49_15, 0, none⟩) 1 1) ≠ some x := dj_new (Own.lt ow_b) n_s49
     replace k_t2 := k_t2.o hO
     replace ow_b := Own.off ow_b hO f0
     replace off0 := off0.o hO
     have ow_s49 : Own W15 (.slice (some ⟨p49_15, 0, none⟩) 1 1) [u8 ((8 * F.length) / 16777216)] := own_blk h_ (by rfl) (by show 1 ≤ maxLen; decide)
     clear hO h_ n_s49
     refine wpL_append (xs := ((((((F ++ [128] ++ List.replicate (zc F.length) 0) ++ List.replicate 8 0) ++ [u8 ((8 * F.length) / 72057594037927936)]) ++ [u8 ((8 * F.length) / 281474976710656)]) ++ [u8 ((8 * F.length) / 1099511627776)]) ++ [u8 ((8 * F.length) / 4294967296)])) (ys := [u8 ((8 * F.length) / 16777216)]) (by rfl) rfl rfl rfl ow_b (ow_s49.sl) (by first | omega | (simp only [List.length_append, List.length_cons, List.length_nil, List.length_replicate]; omega)) ?_
     (try simp only [Act.put, mA, mB, mC])
     intro v50_16 W16 ow_a50 hO at_a50 nil_a50
     clear nil_a50
     have ne_a50_t2 := own_ne at_a50 ne_b_t2 (blk_lt k_t2)
     have dj_a50_s49 := own_dj at_a50 dj_b_s49 (Own.lt ow_s49)
     have fr_a50 := own_fr at_a50 fr_b off0.size
     replace k_t2 := blk_off k_t2 hO (nmo ne_b_t2)
     replace ow_s49 := Own.off ow_s49 hO (fo dj_b_s49)
     replace off0 := off0.step hO (io fr_b)
     clear hO at_a50
     have ow_b := ow_a50
     clear ow_a50
     have fr_b := fr_a50
     have ne_b_t2 := ne_a50_t2
     have dj_b_s49 := dj_a50_s49
     refine Lv ?_
     refine wpL_nil ?_
     go_wp2_with fail
     rw [rounds_succ]
     go_upto_region 15 with fail
     refine wp_region_lit ?_
     refine Lv ?_
     refine Lv ?_
     refine Lw ?_ (v := .int .i64 2)
     refine Lw ?_ (v := .int .i64 16)
     refine Lw ?_ (v := .int .u64 (sr ((8 * F.length : Nat) : Int) 16)) (hv := run_shr (n := 16) (by decide) rfl rfl rfl)
     refine Lw ?_ (v := .int .u8 ((u8 ((8 * F.length) / 65536)).toNat : Int)) (hv := by rw [← w8_nat (8 * F.length) 16 65536 (by decide)]; exact run_c8 rfl rfl)
     clear ow_s49 dj_b_s49
     refine LnS ?_ (z := #[.int .u8 ((u8 ((8 * F.length) / 65536)).toNat : Int)]) (t := 5) (n := 1) (c := 1)
     intro p49_17 W17 n_s49 hO h_
     have dj_b_s49 : ∀ x, (Value.ownBlock v50_16) = some x → Value.ownBlock (.slice (some ⟨p49_17, 0, none⟩) 1 1) ≠ some x := dj_new (Own.lt ow_b) n_s49
     replace k_t2 := k_t2.o hO
     replace ow_b := Own.off ow_b hO f0
     replace off0 := off0.o hO
     have ow_s49 : Own W17 (.slice (some ⟨p49_17, 0, none⟩) 1 1) [u8 ((8 * F.length) / 65536)] := own_blk h_ (by rfl) (by show 1 ≤ maxLen; decide)
     clear hO h_ n_s49
     refine wpL_append (xs := (((((((F ++ [128] ++ List.replicate (zc F.length) 0) ++ List.replicate 8 0) ++ [u8 ((8 * F.length) / 72057594037927936)]) ++ [u8 ((8 * F.length) / 281474976710656)]) ++ [u8 ((8 * F.length) / 1099511627776)]) ++ [u8 ((8 * F.length) / 4294967296)]) ++ [u8 ((8 * F.length) / 16777216)])) (ys := [u8 ((8 * F.length) / 65536)]) (by rfl) rfl rfl rfl ow_b (ow_s49.sl) (by first | omega | (simp only [List.length_append, List.length_cons, List.length_nil, List.length_replicate]; omega)) ?_
     (try simp only [Act.put, mA, mB, mC])
     intro v50_18 W18 ow_a50 hO at_a50 nil_a50
     clear nil_a50
     have ne_a50_t2 := own_ne at_a50 ne_b_t2 (blk_lt k_t2)
     have dj_a50_s49 := own_dj at_a50 dj_b_s49 (Own.lt ow_s49)
     have fr_a50 := own_fr at_a50 fr_b off0.size
     replace k_t2 := blk_off k_t2 hO (nmo ne_b_t2)
     replace ow_s49 := Own.off ow_s49 hO (fo dj_b_s49)
     replace off0 := off0.step hO (io fr_b)
     clear hO at_a50
     have ow_b := ow_a50
     clear ow_a50
     have fr_b := fr_a50
     have ne_b_t2 := ne_a50_t2
     have dj_b_s49 := dj_a50_s49
     refine Lv ?_
     refine wpL_nil ?_
     go_wp2_with fail
     rw [rounds_succ]
     go_upto_region 15 with fail
     refine wp_region_lit ?_
     refine Lv ?_
     refine Lv ?_
     refine Lw ?_ (v := .int .i64 1)
     refine Lw ?_ (v := .int .i64 8)
     refine Lw ?_ (v := .int .u64 (sr ((8 * F.length : Nat) : Int) 8)) (hv := run_shr (n := 8) (by decide) rfl rfl rfl)
     refine Lw ?_ (v := .int .u8 ((u8 ((8 * F.length) / 256)).toNat : Int)) (hv := by rw [← w8_nat (8 * F.length) 8 256 (by decide)]; exact run_c8 rfl rfl)
     clear ow_s49 dj_b_s49
     refine LnS ?_ (z := #[.int .u8 ((u8 ((8 * F.length) / 256)).toNat : Int)]) (t := 5) (n := 1) (c := 1)
     intro p49_19 W19 n_s49 hO h_
     have dj_b_s49 : ∀ x, (Value.ownBlock v50_18) = some x → Value.ownBlock (.slice (some ⟨p49_19, 0, none⟩) 1 1) ≠ some x := dj_new (Own.lt ow_b) n_s49
     replace k_t2 := k_t2.o hO
     replace ow_b := Own.off ow_b hO f0
     replace off0 := off0.o hO
     have ow_s49 : Own W19 (.slice (some ⟨p49_19, 0, none⟩) 1 1) [u8 ((8 * F.length) / 256)] := own_blk h_ (by rfl) (by show 1 ≤ maxLen; decide)
     clear hO h_ n_s49
     refine wpL_append (xs := ((((((((F ++ [128] ++ List.replicate (zc F.length) 0) ++ List.replicate 8 0) ++ [u8 ((8 * F.length) / 72057594037927936)]) ++ [u8 ((8 * F.length) / 281474976710656)]) ++ [u8 ((8 * F.length) / 1099511627776)]) ++ [u8 ((8 * F.length) / 4294967296)]) ++ [u8 ((8 * F.length) / 16777216)]) ++ [u8 ((8 * F.length) / 65536)])) (ys := [u8 ((8 * F.length) / 256)]) (by rfl) rfl rfl rfl ow_b (ow_s49.sl) (by first | omega | (simp only [List.length_append, List.length_cons, List.length_nil, List.length_replicate]; omega)) ?_
     (try simp only [Act.put, mA, mB, mC])
     intro v50_20 W20 ow_a50 hO at_a50 nil_a50
     clear nil_a50
     have ne_a50_t2 := own_ne at_a50 ne_b_t2 (blk_lt k_t2)
     have fr_a50 := own_fr at_a50 fr_b off0.size
     replace k_t2 := blk_off k_t2 hO (nmo ne_b_t2)
     replace ow_s49 := Own.off ow_s49 hO (fo dj_b_s49)
     replace off0 := off0.step hO (io fr_b)
     clear hO at_a50
     have ow_b := ow_a50
     clear ow_a50
     have fr_b := fr_a50
     have ne_b_t2 := ne_a50_t2
     refine Lv ?_
     refine wpL_nil ?_
     go_wp2_with fail
     rw [rounds_succ]
     go_upto_region 15 with fail
     refine wp_region_lit ?_
     refine Lv ?_
     refine Lv ?_
     refine Lw ?_ (v := .int .i64 0)
     refine Lw ?_ (v := .int .i64 0)
     refine Lw ?_ (v := .int .u64 (sr ((8 * F.length : Nat) : Int) 0)) (hv := run_shr (n := 0) (by decide) rfl rfl rfl)
     refine Lw ?_ (v := .int .u8 ((u8 (8 * F.length)).toNat : Int)) (hv := by rw [← w8_nat0 (8 * F.length)]; exact run_c8 rfl rfl)
     clear ow_s49 dj_b_s49
     refine LnS ?_ (z := #[.int .u8 ((u8 (8 * F.length)).toNat : Int)]) (t := 5) (n := 1) (c := 1)
     intro p49_21 W21 n_s49 hO h_
     replace k_t2 := k_t2.o hO
     replace ow_b := Own.off ow_b hO f0
     replace off0 := off0.o hO
     have ow_s49 : Own W21 (.slice (some ⟨p49_21, 0, none⟩) 1 1) [u8 (8 * F.length)] := own_blk h_ (by rfl) (by show 1 ≤ maxLen; decide)
     clear hO h_ n_s49
     refine wpL_append (xs := (((((((((F ++ [128] ++ List.replicate (zc F.length) 0) ++ List.replicate 8 0) ++ [u8 ((8 * F.length) / 72057594037927936)]) ++ [u8 ((8 * F.length) / 281474976710656)]) ++ [u8 ((8 * F.length) / 1099511627776)]) ++ [u8 ((8 * F.length) / 4294967296)]) ++ [u8 ((8 * F.length) / 16777216)]) ++ [u8 ((8 * F.length) / 65536)]) ++ [u8 ((8 * F.length) / 256)])) (ys := [u8 (8 * F.length)]) (by rfl) rfl rfl rfl ow_b (ow_s49.sl) (by first | omega | (simp only [List.length_append, List.length_cons, List.length_nil, List.length_replicate]; omega)) ?_
     (try simp only [Act.put, mA, mB, mC])
     intro v50_22 W22 ow_a50 hO at_a50 nil_a50
     clear nil_a50
     have ne_a50_t2 := own_ne at_a50 ne_b_t2 (blk_lt k_t2)
     replace k_t2 := blk_off k_t2 hO (nmo ne_b_t2)
     replace off0 := off0.step hO (io fr_b)
     clear hO at_a50
     have ow_b := ow_a50
     clear ow_a50
     have ne_b_t2 := ne_a50_t2
     refine Lv ?_
     refine wpL_nil ?_
     go_wp2_with fail
     rw [rounds_succ]
     go_upto_region 16 with fail
     refine wp_region_lit ?_
     refine wpL_rd0 (by rfl) rfl rfl ((GS_ext HG.out off0.ext).2) (by kernel_rfl) (by rw [arrK_size]; kernel_rfl) ?_
     (try simp only [Act.put, mA, mB, mC])
     refine LnP ?_ (z := arrK .u64 8 (fun _ => 0)) (t := 186) (cells := arrK .u64 8 hf) (hi := by rw [arrK_size]; kernel_rfl) (hs := by rw [arrK_size, arrK_size]) (h1 := by exact arrK_one _ _ _)
     intro p8_23 W24 n_t8 hO h_
     have nq_t2_t8 := bn k_t2 n_t8
     have ne_b_t8 := ne_new (Own.lt ow_b) n_t8
     have fb_t8 := fbn off0 n_t8
     replace k_t2 := k_t2.o hO
     replace ow_b := Own.off ow_b hO f0
     replace off0 := off0.o hO
     have k_t8 := h_
     clear hO h_ n_t8
     refine wpL_nil ?_
     clear ow_s49 dj_b_s49
     rw [be8_app] at ow_b
     have ow_c : Sl W24 v50_22 (List.drop (128 * 0) (pad F)) := own_to_sl ow_b
     have ne_c_t2 : sb v50_22 (List.drop (128 * 0) (pad F)) ≠ some p2_1 := ne_sb ne_b_t2
     have ne_c_t8 : sb v50_22 (List.drop (128 * 0) (pad F)) ≠ some p8_23 := ne_sb ne_b_t8
     clear ow_b fr_b ne_b_t2 ne_b_t8
     go_wp2_with fail
     go_loopw [3] (fun sv wr => ∃ (j : Nat) (u : Value), (j ≤ nb F.length) ∧ (u = sv) ∧ Off [] w wr ∧ Blk wr p2_1 (arrK .u8 64 (fun _ => 0)) 45 ∧ Blk wr p8_23 (arrK .u64 8 (Hs (pad F) j)) 186 ∧ Sl wr u (List.drop (128 * j) (pad F)) ∧ (sb u (List.drop (128 * j) (pad F))) ≠ some p2_1 ∧ (sb u (List.drop (128 * j) (pad F))) ≠ some p8_23)
      (fun sv _ => slLen sv)
     case atStart => exact ⟨0, _, Nat.zero_le _, rfl, off0, k_t2, k_t8, ow_c, ne_c_t2, ne_c_t8⟩
     case round =>
      obtain ⟨j, u, hj, rfl, off0, k_t2, k_t8, ow_c, ne_c_t2, ne_c_t8⟩ := hrel
      obtain ⟨W25, eW_⟩ := wname off0
      subst eW_
      have lb := sl_len ow_c
      by_cases hjl : j < nb F.length
      ·
       have _f := hjl
       have hl128 : 128 ≤ (List.drop (128 * j) (pad F)).length := by rw [List.length_drop, hpl]; omega
       go_upto_region 17 with fail
       refine wp_region_lit ?_
       refine Lv ?_
       refine wpL_len (l := (List.drop (128 * j) (pad F))) ow_c (by rfl) rfl rfl ?_
       (try simp only [Act.put, mA, mB, mC])
       refine Lw ?_ (v := .bool true) (hv := by go_simp; (try simp only [List.length_drop, hpl]); omega)
       refine wpL_nil ?_
       go_upto_region 19 with fail
       refine wp_region_lit ?_
       refine L0A ?_ k_t8
       refine Lv ?_
       refine Lr ?_ (press_u (Hs (pad F) j) (List.drop (128 * j) (pad F)) u hl128 W25 ow_c (GS_ext HG.out off0.ext))
       intro W26 hO
       replace k_t2 := k_t2.o hO
       replace k_t8 := k_t8.o hO
       replace ow_c := Sl.off ow_c hO f0
       replace off0 := off0.o hO
       clear hO
       refine Lp ?_ k_t8 (cells := arrK .u64 8 (prs (Hs (pad F) j) (bt (List.drop (128 * j) (pad F))))) (hi := by rw [arrK_size]; kernel_rfl) (hs := by rw [arrK_size, arrK_size]) (h1 := by exact arrK_one _ _ _)
       intro W27 hO h_
       replace k_t8 : Blk W27 p8_23 (arrK .u64 8 (prs (Hs (pad F) j) (bt (List.drop (128 * j) (pad F))))) 186 := h_
       clear h_
       replace k_t2 := k_t2.p hO nq_t2_t8
       replace ow_c := Sl.off ow_c hO (f1 ne_c_t8)
       replace off0 := off0.p hO fb_t8
       clear hO
       refine wpL_nil ?_
       go_upto_region 18 with fail
       refine wp_region_lit ?_
       refine Lv ?_
       refine wpL_tail (n := 128) ow_c (by exact hl128) (by rfl) rfl rfl rfl ?_
       (try simp only [Act.put, mA, mB, mC])
       intro u56_27 ow_c56 sub_c56
       have ne_c56_t2 : sb u56_27 (List.drop 128 (List.drop (128 * j) (pad F))) ≠ some p2_1 := sub_ne sub_c56 ne_c_t2
       have ne_c56_t8 : sb u56_27 (List.drop 128 (List.drop (128 * j) (pad F))) ≠ some p8_23 := sub_ne sub_c56 ne_c_t8
       refine Lv ?_
       refine wpL_nil ?_
       clear ow_c ne_c_t2 ne_c_t8
       rw [drop_next] at ow_c56
       rw [drop_next] at ne_c56_t2
       rw [drop_next] at ne_c56_t8
       have ow_c := ow_c56
       clear ow_c56
       have ne_c_t2 := ne_c56_t2
       have ne_c_t8 := ne_c56_t8
       have la := sl_len ow_c
       simp only [List.length_drop, hpl] at la lb
       go_wp2
       go_roundw
       case rel => exact ⟨j + 1, _, by omega, rfl, off0, k_t2, k_t8, ow_c, ne_c_t2, ne_c_t8⟩
       case measure => simp only [la, lb]; omega
      ·
       have _f := hjl
       obtain rfl : j = nb F.length := by omega
       go_upto_region 17 with fail
       refine wp_region_lit ?_
       refine Lv ?_
       refine wpL_len (l := (List.drop (128 * nb F.length) (pad F))) ow_c (by rfl) rfl rfl ?_
       (try simp only [Act.put, mA, mB, mC])
       refine Lw ?_ (v := .bool false) (hv := by first | (go_simp; done) | (go_simp; (try simp only [List.length_drop, hpl]); omega))
       refine wpL_nil ?_
       go_upto_region 20 with fail
       refine wp_region_lit ?_
       refine Ln ?_ (z := arrK .u8 64 (fun _ => 0)) (t := 45)
       intro p9_26 W26 n_t9 hO h_
       have nq_t2_t9 := bn k_t2 n_t9
       have nq_t8_t9 := bn k_t8 n_t9
       have ne_c_t9 := ne_new (Sl.lt ow_c) n_t9
       have fb_t9 := fbn off0 n_t9
       replace k_t2 := k_t2.o hO
       replace k_t8 := k_t8.o hO
       replace ow_c := Sl.off ow_c hO f0
       replace off0 := off0.o hO
       have k_t9 := h_
       clear hO h_ n_t9
       refine wpL_nil ?_
       go_upto_region 21 with fail
       refine wp_region_lit ?_
       refine L0A ?_ k_t8
       refine Lw ?_ (v := .int .i64 0)
       refine wpL_nil ?_
       go_wp2_with fail
       go_loopw [61] (fun ii wr => ∃ (i : Nat), (i ≤ 8) ∧ (ii = .int .i64 (i : Int)) ∧ Off [] w wr ∧ Blk wr p2_1 (arrK .u8 64 (fun _ => 0)) 45 ∧ Blk wr p8_23 (arrK .u64 8 (Hs (pad F) (nb F.length))) 186 ∧ Blk wr p9_26 (arrK .u8 64 (outp (Hs (pad F) (nb F.length)) (8 * i))) 45 ∧ Sl wr u (List.drop (128 * nb F.length) (pad F)))
        (fun ii _ => 8 - (intOf ii).toNat)
       case atStart => exact ⟨0, Nat.zero_le _, rfl, off0, k_t2, k_t8, (by rw [Nat.mul_zero, outp_zero]; exact k_t9), ow_c⟩
       case round =>
        obtain ⟨i, hi, rfl, off0, k_t2, k_t8, k_t9, ow_c⟩ := hrel
        obtain ⟨W27, eW_⟩ := wname off0
        subst eW_
        by_cases h8 : i < 8
        ·
         have _f := h8
         go_upto_region 22 with fail
         refine wp_region_lit ?_
         refine Lw ?_ (v := .bool true)
         refine wpL_nil ?_
         go_upto_region 23 with fail
         refine wp_region_lit ?_
         refine Lv ?_
         refine Lw ?_ (v := .int .u64 (Hs (pad F) (nb F.length) i)) (hv := run_ixv (m := 8) h8 Tryz.underlying186 (by kernel_rfl) u64_agg rfl rfl rfl)
         refine Lv ?_
         refine Lv ?_
         refine wpL_nil ?_
         go_wp2_with fail
         go_loopw [65] (fun jj wr => ∃ (k : Nat), (k ≤ 8) ∧ (jj = .int .i64 (k : Int)) ∧ Off [] w wr ∧ Blk wr p2_1 (arrK .u8 64 (fun _ => 0)) 45 ∧ Blk wr p8_23 (arrK .u64 8 (Hs (pad F) (nb F.length))) 186 ∧ Blk wr p9_26 (arrK .u8 64 (outp (Hs (pad F) (nb F.length)) (8 * i + k))) 45 ∧ Sl wr u (List.drop (128 * nb F.length) (pad F)))
          (fun jj _ => 8 - (intOf jj).toNat)
         case atStart => exact ⟨0, Nat.zero_le _, rfl, off0, k_t2, k_t8, k_t9, ow_c⟩
         case round =>
          obtain ⟨k, hk, rfl, off0, k_t2, k_t8, k_t9, ow_c⟩ := hrel
          obtain ⟨W28, eW_⟩ := wname off0
          subst eW_
          by_cases hk8 : k < 8
          ·
           have _f := hk8
           go_upto_region 25 with fail
           refine wp_region_lit ?_
           refine Lw ?_ (v := .bool true)
           refine wpL_nil ?_
           go_upto_region 27 with fail
           refine wp_region_lit ?_
           refine Lv ?_
           refine Lw ?_ (v := .int .i64 (((8 * i : Nat) : Int))) (hv := by go_simp; (try simp only [IntKind.wrap_u64, IntKind.wrap_i64]); (try omega))
           refine Lv ?_
           refine Lw ?_ (v := .int .i64 (((8 * i + k : Nat) : Int))) (hv := by go_simp; (try simp only [IntKind.wrap_u64, IntKind.wrap_i64]); (try omega))
           refine Lv ?_
           refine Lv ?_
           refine Lw ?_ (v := .int .i64 (((7 - k : Nat) : Int))) (hv := by go_simp; (try simp only [IntKind.wrap_u64, IntKind.wrap_i64]); (try omega))
           refine Lw ?_ (v := .int .i64 (((8 * (7 - k) : Nat) : Int))) (hv := by go_simp; (try simp only [IntKind.wrap_u64, IntKind.wrap_i64]); (try omega))
           refine Lw ?_ (v := .int .u64 (sr (Hs (pad F) (nb F.length) i) (8 * (7 - k)))) (hv := run_shr (n := 8 * (7 - k)) (by omega) rfl rfl rfl)
           refine Lw ?_ (v := .int .u8 (w8 (sr (Hs (pad F) (nb F.length) i) (8 * (7 - k))))) (hv := by exact run_c8 rfl rfl)
           refine Lw ?_ (v := .pointer (some ⟨p9_26, 0 + (8 * i + k), none⟩)) (hv := run_ixarr (m := 64) (by decide) (by omega) Tryz.underlying45 (by kernel_rfl) rfl rfl rfl)
           refine wpL_put1 (v := .int .u8 (w8 (sr (Hs (pad F) (nb F.length) i) (8 * (7 - k))))) ⟨rfl, rfl⟩ (by rfl) rfl rfl rfl k_t9 (by rw [arrK_size, Nat.zero_add]; omega) (by kernel_rfl) ?_
           (try simp only [Act.put, mA, mB, mC])
           intro W29 hO h_
           rw [Nat.zero_add, arrK_set] at h_
           replace k_t9 : Blk W29 p9_26 (arrK .u8 64 (upd (outp (Hs (pad F) (nb F.length)) (8 * i + k)) (8 * i + k) (w8 (sr (Hs (pad F) (nb F.length) i) (8 * (7 - k)))))) 45 := h_
           clear h_
           replace k_t2 := k_t2.p hO nq_t2_t9
           replace k_t8 := k_t8.p hO nq_t8_t9
           replace ow_c := Sl.off ow_c hO (f1 ne_c_t9)
           replace off0 := off0.p hO fb_t9
           clear hO
           refine wpL_nil ?_
           go_wp2
           go_roundw
           case rel => exact ⟨k + 1, by omega, by go_num, off0, k_t2, k_t8, (by rw [← outp_step _ _ _ hk8]; exact k_t9), ow_c⟩
           case measure => simp [intOf]; omega
          ·
           have _f := hk8
           obtain rfl : k = 8 := by omega
           go_upto_region 25 with fail
           refine wp_region_lit ?_
           refine Lw ?_ (v := .bool false)
           refine wpL_nil ?_
           go_wp2
           go_roundw
           case rel => exact ⟨i + 1, by omega, by go_num, off0, k_t2, k_t8, (by rw [show 8 * (i + 1) = 8 * i + 8 by omega]; exact k_t9), ow_c⟩
           case measure => simp [intOf]; omega
        ·
         have _f := h8
         obtain rfl : i = 8 := by omega
         rw [show 8 * 8 = 64 by rfl, outp_end] at k_t9
         go_upto_region 22 with fail
         refine wp_region_lit ?_
         refine Lw ?_ (v := .bool false)
         refine wpL_nil ?_
         go_upto_region 30 with fail
         refine wp_region_lit ?_
         refine L0A ?_ k_t9
         refine Lp ?_ k_t2 (cells := arrK .u8 64 (ob (Hs (pad F) (nb F.length)))) (hi := by rw [arrK_size]; kernel_rfl) (hs := by rw [arrK_size, arrK_size]) (h1 := by exact arrK_one _ _ _)
         intro W28 hO h_
         replace k_t2 : Blk W28 p2_1 (arrK .u8 64 (ob (Hs (pad F) (nb F.length)))) 45 := h_
         clear h_
         replace off0 := off0.p hO fb_t2
         clear hO
         refine wpL_nil ?_
         go_wp2
         refine bodyPost_ret (res_row rfl rfl k_t2 (by kernel_rfl) (by rw [arrK_size]; kernel_rfl)) rfl ⟨rfl, off0.ext⟩
end Go.Proofs.YtejkmhgkkibafaaGreatDoor.S8
