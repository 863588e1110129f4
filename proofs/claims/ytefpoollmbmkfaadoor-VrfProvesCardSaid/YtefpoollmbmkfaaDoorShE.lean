/- The document's sum. Conditions: the text is no longer than 2^46 bytes; the tables hold their numbers. -/
import Derived.Test.YtefpoollmbmkfaaDoorGc
import Derived.Test.YtefpoollmbmkfaaDoorHd
set_option linter.unusedSimpArgs false
set_option linter.unusedVariables false
namespace Go.Proofs.YtefpoollmbmkfaaDoor
set_option maxHeartbeats 1500000
set_option maxRecDepth 100000
open Go.RowKit
attribute [local irreducible] wpList

theorem rsum_c (l : List UInt8) (hlen : l.length ≤ 70368744177664) (w : World) (hG : GR w) :
  Calls Tryd.prog 43 #[str l] w fun e w' => Ret (str (smb l)) w w' e := by
 have HG := Lib.hid hG
 clear hG
 have hpl := pad_length l
 have hzc := (zc_spec l.length).2
 have hnb : nb l.length ≤ 549755814000 := by unfold nb; omega
 have off0 : Off [] w w := Off.refl _ _
 go_enter Tryd.func43, Tryd.ntmps43
 go_upto_region 1 with fail
 refine wp_region_lit ?_
 refine Lv ?_
 refine wpL_slen (l := l) (by rfl) rfl rfl ?_
 (try simp only [Act.put, mA, mB, mC])
 refine Lv ?_
 refine wpL_nil ?_
 go_upto_region 2 with fail
 refine wp_region_lit ?_
 refine Lv ?_
 refine wpL_bytesz (l := l) (by first | omega | (simp only [List.length_append, List.length_cons, List.length_nil, List.length_replicate, wb_length]; omega)) (by rfl) rfl rfl ?_
 (try simp only [Act.put, mA, mB, mC])
 intro v24_1 W1 at_q24 hO ow_q24
 have fr_q24 : Fr (Value.ownBlock v24_1) w.heap.size [] := own_fr at_q24 fr_none off0.size
 replace off0 := off0.o hO
 clear hO at_q24
 refine LnS ?_ (z := #[.int .u8 128]) (t := 5) (n := 1) (c := 1)
 intro p25_2 W2 n_s25 hO h_
 replace ow_q24 := Owz.off ow_q24 hO f0
 replace off0 := off0.o hO
 have ow_s25 : Own W2 (.slice (some ⟨p25_2, 0, none⟩) 1 1) [128] := own_blk h_ (by rfl) (by show 1 ≤ maxLen; decide)
 clear hO h_ n_s25
 refine wpL_appendz (xs := l) (ys := [128]) (by rfl) rfl rfl rfl ow_q24 (ow_s25.sl) (by first | omega | (simp only [List.length_append, List.length_cons, List.length_nil, List.length_replicate, wb_length]; omega)) ?_
 (try simp only [Act.put, mA, mB, mC])
 intro v26_3 W3 ow_a26 hO at_a26
 have fr_a26 := own_fr at_a26 fr_q24 off0.size
 replace off0 := off0.step hO (io fr_q24)
 clear hO at_a26
 have ow_b := ow_a26
 clear ow_a26
 have fr_b := fr_a26
 refine Lv ?_
 refine wpL_nil ?_
 clear ow_s25
 go_wp2_with fail
 go_loopw [4] (fun sv wr => ∃ (k : Nat) (bv : Value), (k ≤ zc l.length) ∧ (bv = sv) ∧ Off [] w wr ∧ Owz wr bv (l ++ [128] ++ List.replicate k 0) ∧ Fr (Value.ownBlock bv) w.heap.size [])
  (fun sv _ => l.length + 300 - slLen sv)
 case atStart => exact ⟨0, _, Nat.zero_le _, rfl, off0, (by rw [List.replicate_zero, List.append_nil]; exact ow_b), fr_b⟩
 case round =>
  obtain ⟨k, bv, hk, rfl, off0, ow_b, fr_b⟩ := hrel
  obtain ⟨W4, eW_⟩ := wname off0
  subst eW_
  have lb := sl_len ow_b.sl
  by_cases hz : k < zc l.length
  ·
   have _f := hz
   have hz2 := zc_lt hz
   go_upto_region 3 with fail
   refine wp_region_lit ?_
   refine Lv ?_
   refine wpL_len (l := (l ++ [128] ++ List.replicate k 0)) (ow_b.sl) (by rfl) rfl rfl ?_
   (try simp only [Act.put, mA, mB, mC])
   refine Lw ?_ (v := .int .i64 (((l.length + 1 + k) % 128 : Nat) : Int)) (hv := by go_simp; (try simp only [List.length_append, List.length_cons, List.length_nil, List.length_replicate]); rw [Int.tmod_eq_emod_of_nonneg (by omega)]; omega)
   refine Lw ?_ (v := .bool true) (hv := by go_simp; omega)
   refine wpL_nil ?_
   go_upto_region 4 with fail
   refine wp_region_lit ?_
   refine Lv ?_
   refine LnS ?_ (z := #[.int .u8 0]) (t := 5) (n := 1) (c := 1)
   intro p32_5 W5 n_s32 hO h_
   replace ow_b := Owz.off ow_b hO f0
   replace off0 := off0.o hO
   have ow_s32 : Own W5 (.slice (some ⟨p32_5, 0, none⟩) 1 1) [0] := own_blk h_ (by rfl) (by show 1 ≤ maxLen; decide)
   clear hO h_ n_s32
   refine wpL_appendz (xs := (l ++ [128] ++ List.replicate k 0)) (ys := [0]) (by rfl) rfl rfl rfl ow_b (ow_s32.sl) (by first | omega | (simp only [List.length_append, List.length_cons, List.length_nil, List.length_replicate, wb_length]; omega)) ?_
   (try simp only [Act.put, mA, mB, mC])
   intro v33_6 W6 ow_a33 hO at_a33
   have fr_a33 := own_fr at_a33 fr_b off0.size
   replace off0 := off0.step hO (io fr_b)
   clear hO at_a33
   have ow_b := ow_a33
   clear ow_a33
   have fr_b := fr_a33
   refine Lv ?_
   refine wpL_nil ?_
   have la := sl_len ow_b.sl
   simp only [List.length_append, List.length_cons, List.length_nil, List.length_replicate] at la lb
   go_wp2
   go_roundw
   case rel => exact ⟨k + 1, _, by omega, rfl, off0, (by rw [List.replicate_succ', ← List.append_assoc]; exact ow_b), fr_b⟩
   case measure => simp only [la, lb]; omega
  ·
   have _f := hz
   obtain rfl : k = zc l.length := by omega
   have hz2 := (zc_spec l.length).1
   go_upto_region 3 with fail
   refine wp_region_lit ?_
   refine Lv ?_
   refine wpL_len (l := (l ++ [128] ++ List.replicate (zc l.length) 0)) (ow_b.sl) (by rfl) rfl rfl ?_
   (try simp only [Act.put, mA, mB, mC])
   refine Lw ?_ (v := .int .i64 (((l.length + 1 + zc l.length) % 128 : Nat) : Int)) (hv := by go_simp; (try simp only [List.length_append, List.length_cons, List.length_nil, List.length_replicate]); rw [Int.tmod_eq_emod_of_nonneg (by omega)]; omega)
   refine Lw ?_ (v := .bool false) (hv := by first | (go_simp; done) | (go_simp; omega))
   refine wpL_nil ?_
   go_wp2_with fail
   refine wp_loop_rounds 17 ?_
   rw [rounds_succ]
   go_upto_region 9 with fail
   refine wp_region_lit ?_
   refine Lv ?_
   refine LnS ?_ (z := #[.int .u8 0]) (t := 5) (n := 1) (c := 1)
   intro p41_5 W5 n_s41 hO h_
   have dj_b_s41 : ∀ x, (Value.ownBlock bv) = some x → Value.ownBlock (.slice (some ⟨p41_5, 0, none⟩) 1 1) ≠ some x := dj_new (Owz.lt ow_b) n_s41
   replace ow_b := Owz.off ow_b hO f0
   replace off0 := off0.o hO
   have ow_s41 : Own W5 (.slice (some ⟨p41_5, 0, none⟩) 1 1) [0] := own_blk h_ (by rfl) (by show 1 ≤ maxLen; decide)
   clear hO h_ n_s41
   refine wpL_appendz (xs := (l ++ [128] ++ List.replicate (zc l.length) 0)) (ys := [0]) (by rfl) rfl rfl rfl ow_b (ow_s41.sl) (by first | omega | (simp only [List.length_append, List.length_cons, List.length_nil, List.length_replicate, wb_length]; omega)) ?_
   (try simp only [Act.put, mA, mB, mC])
   intro v42_6 W6 ow_a42 hO at_a42
   have dj_a42_s41 := own_dj at_a42 dj_b_s41 (Own.lt ow_s41)
   have fr_a42 := own_fr at_a42 fr_b off0.size
   replace ow_s41 := Own.off ow_s41 hO (fo dj_b_s41)
   replace off0 := off0.step hO (io fr_b)
   clear hO at_a42
   have ow_b := ow_a42
   clear ow_a42
   have fr_b := fr_a42
   have dj_b_s41 := dj_a42_s41
   refine Lv ?_
   refine wpL_nil ?_
   go_wp2_with fail
   rw [rounds_succ]
   go_upto_region 9 with fail
   refine wp_region_lit ?_
   refine Lv ?_
   clear ow_s41 dj_b_s41
   refine LnS ?_ (z := #[.int .u8 0]) (t := 5) (n := 1) (c := 1)
   intro p41_7 W7 n_s41 hO h_
   have dj_b_s41 : ∀ x, (Value.ownBlock v42_6) = some x → Value.ownBlock (.slice (some ⟨p41_7, 0, none⟩) 1 1) ≠ some x := dj_new (Owz.lt ow_b) n_s41
   replace ow_b := Owz.off ow_b hO f0
   replace off0 := off0.o hO
   have ow_s41 : Own W7 (.slice (some ⟨p41_7, 0, none⟩) 1 1) [0] := own_blk h_ (by rfl) (by show 1 ≤ maxLen; decide)
   clear hO h_ n_s41
   refine wpL_appendz (xs := ((l ++ [128] ++ List.replicate (zc l.length) 0) ++ [0])) (ys := [0]) (by rfl) rfl rfl rfl ow_b (ow_s41.sl) (by first | omega | (simp only [List.length_append, List.length_cons, List.length_nil, List.length_replicate, wb_length]; omega)) ?_
   (try simp only [Act.put, mA, mB, mC])
   intro v42_8 W8 ow_a42 hO at_a42
   have dj_a42_s41 := own_dj at_a42 dj_b_s41 (Own.lt ow_s41)
   have fr_a42 := own_fr at_a42 fr_b off0.size
   replace ow_s41 := Own.off ow_s41 hO (fo dj_b_s41)
   replace off0 := off0.step hO (io fr_b)
   clear hO at_a42
   have ow_b := ow_a42
   clear ow_a42
   have fr_b := fr_a42
   have dj_b_s41 := dj_a42_s41
   refine Lv ?_
   refine wpL_nil ?_
   go_wp2_with fail
   rw [rounds_succ]
   go_upto_region 9 with fail
   refine wp_region_lit ?_
   refine Lv ?_
   clear ow_s41 dj_b_s41
   refine LnS ?_ (z := #[.int .u8 0]) (t := 5) (n := 1) (c := 1)
   intro p41_9 W9 n_s41 hO h_
   have dj_b_s41 : ∀ x, (Value.ownBlock v42_8) = some x → Value.ownBlock (.slice (some ⟨p41_9, 0, none⟩) 1 1) ≠ some x := dj_new (Owz.lt ow_b) n_s41
   replace ow_b := Owz.off ow_b hO f0
   replace off0 := off0.o hO
   have ow_s41 : Own W9 (.slice (some ⟨p41_9, 0, none⟩) 1 1) [0] := own_blk h_ (by rfl) (by show 1 ≤ maxLen; decide)
   clear hO h_ n_s41
   refine wpL_appendz (xs := (((l ++ [128] ++ List.replicate (zc l.length) 0) ++ [0]) ++ [0])) (ys := [0]) (by rfl) rfl rfl rfl ow_b (ow_s41.sl) (by first | omega | (simp only [List.length_append, List.length_cons, List.length_nil, List.length_replicate, wb_length]; omega)) ?_
   (try simp only [Act.put, mA, mB, mC])
   intro v42_10 W10 ow_a42 hO at_a42
   have dj_a42_s41 := own_dj at_a42 dj_b_s41 (Own.lt ow_s41)
   have fr_a42 := own_fr at_a42 fr_b off0.size
   replace ow_s41 := Own.off ow_s41 hO (fo dj_b_s41)
   replace off0 := off0.step hO (io fr_b)
   clear hO at_a42
   have ow_b := ow_a42
   clear ow_a42
   have fr_b := fr_a42
   have dj_b_s41 := dj_a42_s41
   refine Lv ?_
   refine wpL_nil ?_
   go_wp2_with fail
   rw [rounds_succ]
   go_upto_region 9 with fail
   refine wp_region_lit ?_
   refine Lv ?_
   clear ow_s41 dj_b_s41
   refine LnS ?_ (z := #[.int .u8 0]) (t := 5) (n := 1) (c := 1)
   intro p41_11 W11 n_s41 hO h_
   have dj_b_s41 : ∀ x, (Value.ownBlock v42_10) = some x → Value.ownBlock (.slice (some ⟨p41_11, 0, none⟩) 1 1) ≠ some x := dj_new (Owz.lt ow_b) n_s41
   replace ow_b := Owz.off ow_b hO f0
   replace off0 := off0.o hO
   have ow_s41 : Own W11 (.slice (some ⟨p41_11, 0, none⟩) 1 1) [0] := own_blk h_ (by rfl) (by show 1 ≤ maxLen; decide)
   clear hO h_ n_s41
   refine wpL_appendz (xs := ((((l ++ [128] ++ List.replicate (zc l.length) 0) ++ [0]) ++ [0]) ++ [0])) (ys := [0]) (by rfl) rfl rfl rfl ow_b (ow_s41.sl) (by first | omega | (simp only [List.length_append, List.length_cons, List.length_nil, List.length_replicate, wb_length]; omega)) ?_
   (try simp only [Act.put, mA, mB, mC])
   intro v42_12 W12 ow_a42 hO at_a42
   have dj_a42_s41 := own_dj at_a42 dj_b_s41 (Own.lt ow_s41)
   have fr_a42 := own_fr at_a42 fr_b off0.size
   replace ow_s41 := Own.off ow_s41 hO (fo dj_b_s41)
   replace off0 := off0.step hO (io fr_b)
   clear hO at_a42
   have ow_b := ow_a42
   clear ow_a42
   have fr_b := fr_a42
   have dj_b_s41 := dj_a42_s41
   refine Lv ?_
   refine wpL_nil ?_
   go_wp2_with fail
   rw [rounds_succ]
   go_upto_region 9 with fail
   refine wp_region_lit ?_
   refine Lv ?_
   clear ow_s41 dj_b_s41
   refine LnS ?_ (z := #[.int .u8 0]) (t := 5) (n := 1) (c := 1)
   intro p41_13 W13 n_s41 hO h_
   have dj_b_s41 : ∀ x, (Value.ownBlock v42_12) = some x → Value.ownBlock (.slice (some ⟨p41_13, 0, none⟩) 1 1) ≠ some x := dj_new (Owz.lt ow_b) n_s41
   replace ow_b := Owz.off ow_b hO f0
   replace off0 := off0.o hO
   have ow_s41 : Own W13 (.slice (some ⟨p41_13, 0, none⟩) 1 1) [0] := own_blk h_ (by rfl) (by show 1 ≤ maxLen; decide)
   clear hO h_ n_s41
   refine wpL_appendz (xs := (((((l ++ [128] ++ List.replicate (zc l.length) 0) ++ [0]) ++ [0]) ++ [0]) ++ [0])) (ys := [0]) (by rfl) rfl rfl rfl ow_b (ow_s41.sl) (by first | omega | (simp only [List.length_append, List.length_cons, List.length_nil, List.length_replicate, wb_length]; omega)) ?_
   (try simp only [Act.put, mA, mB, mC])
   intro v42_14 W14 ow_a42 hO at_a42
   have dj_a42_s41 := own_dj at_a42 dj_b_s41 (Own.lt ow_s41)
   have fr_a42 := own_fr at_a42 fr_b off0.size
   replace ow_s41 := Own.off ow_s41 hO (fo dj_b_s41)
   replace off0 := off0.step hO (io fr_b)
   clear hO at_a42
   have ow_b := ow_a42
   clear ow_a42
   have fr_b := fr_a42
   have dj_b_s41 := dj_a42_s41
   refine Lv ?_
   refine wpL_nil ?_
   go_wp2_with fail
   rw [rounds_succ]
   go_upto_region 9 with fail
   refine wp_region_lit ?_
   refine Lv ?_
   clear ow_s41 dj_b_s41
   refine LnS ?_ (z := #[.int .u8 0]) (t := 5) (n := 1) (c := 1)
   intro p41_15 W15 n_s41 hO h_
   have dj_b_s41 : ∀ x, (Value.ownBlock v42_14) = some x → Value.ownBlock (.slice (some ⟨p41_15, 0, none⟩) 1 1) ≠ some x := dj_new (Owz.lt ow_b) n_s41
   replace ow_b := Owz.off ow_b hO f0
   replace off0 := off0.o hO
   have ow_s41 : Own W15 (.slice (some ⟨p41_15, 0, none⟩) 1 1) [0] := own_blk h_ (by rfl) (by show 1 ≤ maxLen; decide)
   clear hO h_ n_s41
   refine wpL_appendz (xs := ((((((l ++ [128] ++ List.replicate (zc l.length) 0) ++ [0]) ++ [0]) ++ [0]) ++ [0]) ++ [0])) (ys := [0]) (by rfl) rfl rfl rfl ow_b (ow_s41.sl) (by first | omega | (simp only [List.length_append, List.length_cons, List.length_nil, List.length_replicate, wb_length]; omega)) ?_
   (try simp only [Act.put, mA, mB, mC])
   intro v42_16 W16 ow_a42 hO at_a42
   have dj_a42_s41 := own_dj at_a42 dj_b_s41 (Own.lt ow_s41)
   have fr_a42 := own_fr at_a42 fr_b off0.size
   replace ow_s41 := Own.off ow_s41 hO (fo dj_b_s41)
   replace off0 := off0.step hO (io fr_b)
   clear hO at_a42
   have ow_b := ow_a42
   clear ow_a42
   have fr_b := fr_a42
   have dj_b_s41 := dj_a42_s41
   refine Lv ?_
   refine wpL_nil ?_
   go_wp2_with fail
   rw [rounds_succ]
   go_upto_region 9 with fail
   refine wp_region_lit ?_
   refine Lv ?_
   clear ow_s41 dj_b_s41
   refine LnS ?_ (z := #[.int .u8 0]) (t := 5) (n := 1) (c := 1)
   intro p41_17 W17 n_s41 hO h_
   have dj_b_s41 : ∀ x, (Value.ownBlock v42_16) = some x → Value.ownBlock (.slice (some ⟨p41_17, 0, none⟩) 1 1) ≠ some x := dj_new (Owz.lt ow_b) n_s41
   replace ow_b := Owz.off ow_b hO f0
   replace off0 := off0.o hO
   have ow_s41 : Own W17 (.slice (some ⟨p41_17, 0, none⟩) 1 1) [0] := own_blk h_ (by rfl) (by show 1 ≤ maxLen; decide)
   clear hO h_ n_s41
   refine wpL_appendz (xs := (((((((l ++ [128] ++ List.replicate (zc l.length) 0) ++ [0]) ++ [0]) ++ [0]) ++ [0]) ++ [0]) ++ [0])) (ys := [0]) (by rfl) rfl rfl rfl ow_b (ow_s41.sl) (by first | omega | (simp only [List.length_append, List.length_cons, List.length_nil, List.length_replicate, wb_length]; omega)) ?_
   (try simp only [Act.put, mA, mB, mC])
   intro v42_18 W18 ow_a42 hO at_a42
   have fr_a42 := own_fr at_a42 fr_b off0.size
   replace ow_s41 := Own.off ow_s41 hO (fo dj_b_s41)
   replace off0 := off0.step hO (io fr_b)
   clear hO at_a42
   have ow_b := ow_a42
   clear ow_a42
   have fr_b := fr_a42
   refine Lv ?_
   refine wpL_nil ?_
   go_wp2_with fail
   rw [rounds_succ]
   go_upto_region 9 with fail
   refine wp_region_lit ?_
   refine Lv ?_
   clear ow_s41 dj_b_s41
   refine LnS ?_ (z := #[.int .u8 0]) (t := 5) (n := 1) (c := 1)
   intro p41_19 W19 n_s41 hO h_
   replace ow_b := Owz.off ow_b hO f0
   replace off0 := off0.o hO
   have ow_s41 : Own W19 (.slice (some ⟨p41_19, 0, none⟩) 1 1) [0] := own_blk h_ (by rfl) (by show 1 ≤ maxLen; decide)
   clear hO h_ n_s41
   refine wpL_appendz (xs := ((((((((l ++ [128] ++ List.replicate (zc l.length) 0) ++ [0]) ++ [0]) ++ [0]) ++ [0]) ++ [0]) ++ [0]) ++ [0])) (ys := [0]) (by rfl) rfl rfl rfl ow_b (ow_s41.sl) (by first | omega | (simp only [List.length_append, List.length_cons, List.length_nil, List.length_replicate, wb_length]; omega)) ?_
   (try simp only [Act.put, mA, mB, mC])
   intro v42_20 W20 ow_a42 hO at_a42
   have fr_a42 := own_fr at_a42 fr_b off0.size
   replace off0 := off0.step hO (io fr_b)
   clear hO at_a42
   have ow_b := ow_a42
   clear ow_a42
   have fr_b := fr_a42
   refine Lv ?_
   refine wpL_nil ?_
   go_wp2_with fail
   rw [rounds_succ]
   go_upto_region 10 with fail
   refine wp_region_lit ?_
   refine Lv ?_
   refine Lv ?_
   refine Lw ?_ (v := .int .i64 (((8 * l.length : Nat) : Int))) (hv := by go_simp; (try simp only [IntKind.wrap_u64, IntKind.wrap_i64]); (try omega))
   refine Lw ?_ (v := .int .i64 56)
   refine Lw ?_ (v := .int .i64 (((8 * l.length / 72057594037927936 : Nat) : Int))) (hv := by rw [← shr_nat (8 * l.length) 56 72057594037927936 (by decide)]; exact run_shr_i (n := 56) (by decide) rfl rfl rfl)
   refine Lw ?_ (v := .int .u8 ((u8 ((8 * l.length) / 72057594037927936)).toNat : Int)) (hv := by rw [← w8_natd (8 * l.length) 72057594037927936]; exact run_c8i rfl rfl)
   refine LnS ?_ (z := #[.int .u8 ((u8 ((8 * l.length) / 72057594037927936)).toNat : Int)]) (t := 5) (n := 1) (c := 1)
   intro p49_21 W21 n_s49 hO h_
   have dj_b_s49 : ∀ x, (Value.ownBlock v42_20) = some x → Value.ownBlock (.slice (some ⟨p49_21, 0, none⟩) 1 1) ≠ some x := dj_new (Owz.lt ow_b) n_s49
   replace ow_b := Owz.off ow_b hO f0
   replace off0 := off0.o hO
   have ow_s49 : Own W21 (.slice (some ⟨p49_21, 0, none⟩) 1 1) [u8 ((8 * l.length) / 72057594037927936)] := own_blk h_ (by rfl) (by show 1 ≤ maxLen; decide)
   clear hO h_ n_s49
   refine wpL_appendz (xs := (((((((((l ++ [128] ++ List.replicate (zc l.length) 0) ++ [0]) ++ [0]) ++ [0]) ++ [0]) ++ [0]) ++ [0]) ++ [0]) ++ [0])) (ys := [u8 ((8 * l.length) / 72057594037927936)]) (by rfl) rfl rfl rfl ow_b (ow_s49.sl) (by first | omega | (simp only [List.length_append, List.length_cons, List.length_nil, List.length_replicate, wb_length]; omega)) ?_
   (try simp only [Act.put, mA, mB, mC])
   intro v50_22 W22 ow_a50 hO at_a50
   have dj_a50_s49 := own_dj at_a50 dj_b_s49 (Own.lt ow_s49)
   have fr_a50 := own_fr at_a50 fr_b off0.size
   replace ow_s49 := Own.off ow_s49 hO (fo dj_b_s49)
   replace off0 := off0.step hO (io fr_b)
   clear hO at_a50
   have ow_b := ow_a50
   clear ow_a50
   have fr_b := fr_a50
   have dj_b_s49 := dj_a50_s49
   refine Lv ?_
   refine wpL_nil ?_
   go_wp2_with fail
   rw [rounds_succ]
   go_upto_region 10 with fail
   refine wp_region_lit ?_
   refine Lv ?_
   refine Lv ?_
   refine Lw ?_ (v := .int .i64 (((8 * l.length : Nat) : Int))) (hv := by go_simp; (try simp only [IntKind.wrap_u64, IntKind.wrap_i64]); (try omega))
   refine Lw ?_ (v := .int .i64 48)
   refine Lw ?_ (v := .int .i64 (((8 * l.length / 281474976710656 : Nat) : Int))) (hv := by rw [← shr_nat (8 * l.length) 48 281474976710656 (by decide)]; exact run_shr_i (n := 48) (by decide) rfl rfl rfl)
   refine Lw ?_ (v := .int .u8 ((u8 ((8 * l.length) / 281474976710656)).toNat : Int)) (hv := by rw [← w8_natd (8 * l.length) 281474976710656]; exact run_c8i rfl rfl)
   clear ow_s49 dj_b_s49
   refine LnS ?_ (z := #[.int .u8 ((u8 ((8 * l.length) / 281474976710656)).toNat : Int)]) (t := 5) (n := 1) (c := 1)
   intro p49_23 W23 n_s49 hO h_
   have dj_b_s49 : ∀ x, (Value.ownBlock v50_22) = some x → Value.ownBlock (.slice (some ⟨p49_23, 0, none⟩) 1 1) ≠ some x := dj_new (Owz.lt ow_b) n_s49
   replace ow_b := Owz.off ow_b hO f0
   replace off0 := off0.o hO
   have ow_s49 : Own W23 (.slice (some ⟨p49_23, 0, none⟩) 1 1) [u8 ((8 * l.length) / 281474976710656)] := own_blk h_ (by rfl) (by show 1 ≤ maxLen; decide)
   clear hO h_ n_s49
   refine wpL_appendz (xs := ((((((((((l ++ [128] ++ List.replicate (zc l.length) 0) ++ [0]) ++ [0]) ++ [0]) ++ [0]) ++ [0]) ++ [0]) ++ [0]) ++ [0]) ++ [u8 ((8 * l.length) / 72057594037927936)])) (ys := [u8 ((8 * l.length) / 281474976710656)]) (by rfl) rfl rfl rfl ow_b (ow_s49.sl) (by first | omega | (simp only [List.length_append, List.length_cons, List.length_nil, List.length_replicate, wb_length]; omega)) ?_
   (try simp only [Act.put, mA, mB, mC])
   intro v50_24 W24 ow_a50 hO at_a50
   have dj_a50_s49 := own_dj at_a50 dj_b_s49 (Own.lt ow_s49)
   have fr_a50 := own_fr at_a50 fr_b off0.size
   replace ow_s49 := Own.off ow_s49 hO (fo dj_b_s49)
   replace off0 := off0.step hO (io fr_b)
   clear hO at_a50
   have ow_b := ow_a50
   clear ow_a50
   have fr_b := fr_a50
   have dj_b_s49 := dj_a50_s49
   refine Lv ?_
   refine wpL_nil ?_
   go_wp2_with fail
   rw [rounds_succ]
   go_upto_region 10 with fail
   refine wp_region_lit ?_
   refine Lv ?_
   refine Lv ?_
   refine Lw ?_ (v := .int .i64 (((8 * l.length : Nat) : Int))) (hv := by go_simp; (try simp only [IntKind.wrap_u64, IntKind.wrap_i64]); (try omega))
   refine Lw ?_ (v := .int .i64 40)
   refine Lw ?_ (v := .int .i64 (((8 * l.length / 1099511627776 : Nat) : Int))) (hv := by rw [← shr_nat (8 * l.length) 40 1099511627776 (by decide)]; exact run_shr_i (n := 40) (by decide) rfl rfl rfl)
   refine Lw ?_ (v := .int .u8 ((u8 ((8 * l.length) / 1099511627776)).toNat : Int)) (hv := by rw [← w8_natd (8 * l.length) 1099511627776]; exact run_c8i rfl rfl)
   clear ow_s49 dj_b_s49
   refine LnS ?_ (z := #[.int .u8 ((u8 ((8 * l.length) / 1099511627776)).toNat : Int)]) (t := 5) (n := 1) (c := 1)
   intro p49_25 W25 n_s49 hO h_
   have dj_b_s49 : ∀ x, (Value.ownBlock v50_24) = some x → Value.ownBlock (.slice (some ⟨p49_25, 0, none⟩) 1 1) ≠ some x := dj_new (Owz.lt ow_b) n_s49
   replace ow_b := Owz.off ow_b hO f0
   replace off0 := off0.o hO
   have ow_s49 : Own W25 (.slice (some ⟨p49_25, 0, none⟩) 1 1) [u8 ((8 * l.length) / 1099511627776)] := own_blk h_ (by rfl) (by show 1 ≤ maxLen; decide)
   clear hO h_ n_s49
   refine wpL_appendz (xs := (((((((((((l ++ [128] ++ List.replicate (zc l.length) 0) ++ [0]) ++ [0]) ++ [0]) ++ [0]) ++ [0]) ++ [0]) ++ [0]) ++ [0]) ++ [u8 ((8 * l.length) / 72057594037927936)]) ++ [u8 ((8 * l.length) / 281474976710656)])) (ys := [u8 ((8 * l.length) / 1099511627776)]) (by rfl) rfl rfl rfl ow_b (ow_s49.sl) (by first | omega | (simp only [List.length_append, List.length_cons, List.length_nil, List.length_replicate, wb_length]; omega)) ?_
   (try simp only [Act.put, mA, mB, mC])
   intro v50_26 W26 ow_a50 hO at_a50
   have dj_a50_s49 := own_dj at_a50 dj_b_s49 (Own.lt ow_s49)
   have fr_a50 := own_fr at_a50 fr_b off0.size
   replace ow_s49 := Own.off ow_s49 hO (fo dj_b_s49)
   replace off0 := off0.step hO (io fr_b)
   clear hO at_a50
   have ow_b := ow_a50
   clear ow_a50
   have fr_b := fr_a50
   have dj_b_s49 := dj_a50_s49
   refine Lv ?_
   refine wpL_nil ?_
   go_wp2_with fail
   rw [rounds_succ]
   go_upto_region 10 with fail
   refine wp_region_lit ?_
   refine Lv ?_
   refine Lv ?_
   refine Lw ?_ (v := .int .i64 (((8 * l.length : Nat) : Int))) (hv := by go_simp; (try simp only [IntKind.wrap_u64, IntKind.wrap_i64]); (try omega))
   refine Lw ?_ (v := .int .i64 32)
   refine Lw ?_ (v := .int .i64 (((8 * l.length / 4294967296 : Nat) : Int))) (hv := by rw [← shr_nat (8 * l.length) 32 4294967296 (by decide)]; exact run_shr_i (n := 32) (by decide) rfl rfl rfl)
   refine Lw ?_ (v := .int .u8 ((u8 ((8 * l.length) / 4294967296)).toNat : Int)) (hv := by rw [← w8_natd (8 * l.length) 4294967296]; exact run_c8i rfl rfl)
   clear ow_s49 dj_b_s49
   refine LnS ?_ (z := #[.int .u8 ((u8 ((8 * l.length) / 4294967296)).toNat : Int)]) (t := 5) (n := 1) (c := 1)
   intro p49_27 W27 n_s49 hO h_
   have dj_b_s49 : ∀ x, (Value.ownBlock v50_26) = some x → Value.ownBlock (.slice (some ⟨p49_27, 0, none⟩) 1 1) ≠ some x := dj_new (Owz.lt ow_b) n_s49
   replace ow_b := Owz.off ow_b hO f0
   replace off0 := off0.o hO
   have ow_s49 : Own W27 (.slice (some ⟨p49_27, 0, none⟩) 1 1) [u8 ((8 * l.length) / 4294967296)] := own_blk h_ (by rfl) (by show 1 ≤ maxLen; decide)
   clear hO h_ n_s49
   refine wpL_appendz (xs := ((((((((((((l ++ [128] ++ List.replicate (zc l.length) 0) ++ [0]) ++ [0]) ++ [0]) ++ [0]) ++ [0]) ++ [0]) ++ [0]) ++ [0]) ++ [u8 ((8 * l.length) / 72057594037927936)]) ++ [u8 ((8 * l.length) / 281474976710656)]) ++ [u8 ((8 * l.length) / 1099511627776)])) (ys := [u8 ((8 * l.length) / 4294967296)]) (by rfl) rfl rfl rfl ow_b (ow_s49.sl) (by first | omega | (simp only [List.length_append, List.length_cons, List.length_nil, List.length_replicate, wb_length]; omega)) ?_
   (try simp only [Act.put, mA, mB, mC])
   intro v50_28 W28 ow_a50 hO at_a50
   have dj_a50_s49 := own_dj at_a50 dj_b_s49 (Own.lt ow_s49)
   have fr_a50 := own_fr at_a50 fr_b off0.size
   replace ow_s49 := Own.off ow_s49 hO (fo dj_b_s49)
   replace off0 := off0.step hO (io fr_b)
   clear hO at_a50
   have ow_b := ow_a50
   clear ow_a50
   have fr_b := fr_a50
   have dj_b_s49 := dj_a50_s49
   refine Lv ?_
   refine wpL_nil ?_
   go_wp2_with fail
   rw [rounds_succ]
   go_upto_region 10 with fail
   refine wp_region_lit ?_
   refine Lv ?_
   refine Lv ?_
   refine Lw ?_ (v := .int .i64 (((8 * l.length : Nat) : Int))) (hv := by go_simp; (try simp only [IntKind.wrap_u64, IntKind.wrap_i64]); (try omega))
   refine Lw ?_ (v := .int .i64 24)
   refine Lw ?_ (v := .int .i64 (((8 * l.length / 16777216 : Nat) : Int))) (hv := by rw [← shr_nat (8 * l.length) 24 16777216 (by decide)]; exact run_shr_i (n := 24) (by decide) rfl rfl rfl)
   refine Lw ?_ (v := .int .u8 ((u8 ((8 * l.length) / 16777216)).toNat : Int)) (hv := by rw [← w8_natd (8 * l.length) 16777216]; exact run_c8i rfl rfl)
   clear ow_s49 dj_b_s49
   refine LnS ?_ (z := #[.int .u8 ((u8 ((8 * l.length) / 16777216)).toNat : Int)]) (t := 5) (n := 1) (c := 1)
   intro p49_29 W29 n_s49 hO h_
   have dj_b_s49 : ∀ x, (Value.ownBlock v50_28) = some x → Value.ownBlock (.slice (some ⟨p49_29, 0, none⟩) 1 1) ≠ some x := dj_new (Owz.lt ow_b) n_s49
   replace ow_b := Owz.off ow_b hO f0
   replace off0 := off0.o hO
   have ow_s49 : Own W29 (.slice (some ⟨p49_29, 0, none⟩) 1 1) [u8 ((8 * l.length) / 16777216)] := own_blk h_ (by rfl) (by show 1 ≤ maxLen; decide)
   clear hO h_ n_s49
   refine wpL_appendz (xs := (((((((((((((l ++ [128] ++ List.replicate (zc l.length) 0) ++ [0]) ++ [0]) ++ [0]) ++ [0]) ++ [0]) ++ [0]) ++ [0]) ++ [0]) ++ [u8 ((8 * l.length) / 72057594037927936)]) ++ [u8 ((8 * l.length) / 281474976710656)]) ++ [u8 ((8 * l.length) / 1099511627776)]) ++ [u8 ((8 * l.length) / 4294967296)])) (ys := [u8 ((8 * l.length) / 16777216)]) (by rfl) rfl rfl rfl ow_b (ow_s49.sl) (by first | omega | (simp only [List.length_append, List.length_cons, List.length_nil, List.length_replicate, wb_length]; omega)) ?_
   (try simp only [Act.put, mA, mB, mC])
   intro v50_30 W30 ow_a50 hO at_a50
   have dj_a50_s49 := own_dj at_a50 dj_b_s49 (Own.lt ow_s49)
   have fr_a50 := own_fr at_a50 fr_b off0.size
   replace ow_s49 := Own.off ow_s49 hO (fo dj_b_s49)
   replace off0 := off0.step hO (io fr_b)
   clear hO at_a50
   have ow_b := ow_a50
   clear ow_a50
   have fr_b := fr_a50
   have dj_b_s49 := dj_a50_s49
   refine Lv ?_
   refine wpL_nil ?_
   go_wp2_with fail
   rw [rounds_succ]
   go_upto_region 10 with fail
   refine wp_region_lit ?_
   refine Lv ?_
   refine Lv ?_
   refine Lw ?_ (v := .int .i64 (((8 * l.length : Nat) : Int))) (hv := by go_simp; (try simp only [IntKind.wrap_u64, IntKind.wrap_i64]); (try omega))
   refine Lw ?_ (v := .int .i64 16)
   refine Lw ?_ (v := .int .i64 (((8 * l.length / 65536 : Nat) : Int))) (hv := by rw [← shr_nat (8 * l.length) 16 65536 (by decide)]; exact run_shr_i (n := 16) (by decide) rfl rfl rfl)
   refine Lw ?_ (v := .int .u8 ((u8 ((8 * l.length) / 65536)).toNat : Int)) (hv := by rw [← w8_natd (8 * l.length) 65536]; exact run_c8i rfl rfl)
   clear ow_s49 dj_b_s49
   refine LnS ?_ (z := #[.int .u8 ((u8 ((8 * l.length) / 65536)).toNat : Int)]) (t := 5) (n := 1) (c := 1)
   intro p49_31 W31 n_s49 hO h_
   have dj_b_s49 : ∀ x, (Value.ownBlock v50_30) = some x → Value.ownBlock (.slice (some ⟨p49_31, 0, none⟩) 1 1) ≠ some x := dj_new (Owz.lt ow_b) n_s49
   replace ow_b := Owz.off ow_b hO f0
   replace off0 := off0.o hO
   have ow_s49 : Own W31 (.slice (some ⟨p49_31, 0, none⟩) 1 1) [u8 ((8 * l.length) / 65536)] := own_blk h_ (by rfl) (by show 1 ≤ maxLen; decide)
   clear hO h_ n_s49
   refine wpL_appendz (xs := ((((((((((((((l ++ [128] ++ List.replicate (zc l.length) 0) ++ [0]) ++ [0]) ++ [0]) ++ [0]) ++ [0]) ++ [0]) ++ [0]) ++ [0]) ++ [u8 ((8 * l.length) / 72057594037927936)]) ++ [u8 ((8 * l.length) / 281474976710656)]) ++ [u8 ((8 * l.length) / 1099511627776)]) ++ [u8 ((8 * l.length) / 4294967296)]) ++ [u8 ((8 * l.length) / 16777216)])) (ys := [u8 ((8 * l.length) / 65536)]) (by rfl) rfl rfl rfl ow_b (ow_s49.sl) (by first | omega | (simp only [List.length_append, List.length_cons, List.length_nil, List.length_replicate, wb_length]; omega)) ?_
   (try simp only [Act.put, mA, mB, mC])
   intro v50_32 W32 ow_a50 hO at_a50
   have dj_a50_s49 := own_dj at_a50 dj_b_s49 (Own.lt ow_s49)
   have fr_a50 := own_fr at_a50 fr_b off0.size
   replace ow_s49 := Own.off ow_s49 hO (fo dj_b_s49)
   replace off0 := off0.step hO (io fr_b)
   clear hO at_a50
   have ow_b := ow_a50
   clear ow_a50
   have fr_b := fr_a50
   have dj_b_s49 := dj_a50_s49
   refine Lv ?_
   refine wpL_nil ?_
   go_wp2_with fail
   rw [rounds_succ]
   go_upto_region 10 with fail
   refine wp_region_lit ?_
   refine Lv ?_
   refine Lv ?_
   refine Lw ?_ (v := .int .i64 (((8 * l.length : Nat) : Int))) (hv := by go_simp; (try simp only [IntKind.wrap_u64, IntKind.wrap_i64]); (try omega))
   refine Lw ?_ (v := .int .i64 8)
   refine Lw ?_ (v := .int .i64 (((8 * l.length / 256 : Nat) : Int))) (hv := by rw [← shr_nat (8 * l.length) 8 256 (by decide)]; exact run_shr_i (n := 8) (by decide) rfl rfl rfl)
   refine Lw ?_ (v := .int .u8 ((u8 ((8 * l.length) / 256)).toNat : Int)) (hv := by rw [← w8_natd (8 * l.length) 256]; exact run_c8i rfl rfl)
   clear ow_s49 dj_b_s49
   refine LnS ?_ (z := #[.int .u8 ((u8 ((8 * l.length) / 256)).toNat : Int)]) (t := 5) (n := 1) (c := 1)
   intro p49_33 W33 n_s49 hO h_
   have dj_b_s49 : ∀ x, (Value.ownBlock v50_32) = some x → Value.ownBlock (.slice (some ⟨p49_33, 0, none⟩) 1 1) ≠ some x := dj_new (Owz.lt ow_b) n_s49
   replace ow_b := Owz.off ow_b hO f0
   replace off0 := off0.o hO
   have ow_s49 : Own W33 (.slice (some ⟨p49_33, 0, none⟩) 1 1) [u8 ((8 * l.length) / 256)] := own_blk h_ (by rfl) (by show 1 ≤ maxLen; decide)
   clear hO h_ n_s49
   refine wpL_appendz (xs := (((((((((((((((l ++ [128] ++ List.replicate (zc l.length) 0) ++ [0]) ++ [0]) ++ [0]) ++ [0]) ++ [0]) ++ [0]) ++ [0]) ++ [0]) ++ [u8 ((8 * l.length) / 72057594037927936)]) ++ [u8 ((8 * l.length) / 281474976710656)]) ++ [u8 ((8 * l.length) / 1099511627776)]) ++ [u8 ((8 * l.length) / 4294967296)]) ++ [u8 ((8 * l.length) / 16777216)]) ++ [u8 ((8 * l.length) / 65536)])) (ys := [u8 ((8 * l.length) / 256)]) (by rfl) rfl rfl rfl ow_b (ow_s49.sl) (by first | omega | (simp only [List.length_append, List.length_cons, List.length_nil, List.length_replicate, wb_length]; omega)) ?_
   (try simp only [Act.put, mA, mB, mC])
   intro v50_34 W34 ow_a50 hO at_a50
   have fr_a50 := own_fr at_a50 fr_b off0.size
   replace ow_s49 := Own.off ow_s49 hO (fo dj_b_s49)
   replace off0 := off0.step hO (io fr_b)
   clear hO at_a50
   have ow_b := ow_a50
   clear ow_a50
   have fr_b := fr_a50
   refine Lv ?_
   refine wpL_nil ?_
   go_wp2_with fail
   rw [rounds_succ]
   go_upto_region 10 with fail
   refine wp_region_lit ?_
   refine Lv ?_
   refine Lv ?_
   refine Lw ?_ (v := .int .i64 (((8 * l.length : Nat) : Int))) (hv := by go_simp; (try simp only [IntKind.wrap_u64, IntKind.wrap_i64]); (try omega))
   refine Lw ?_ (v := .int .i64 0)
   refine Lw ?_ (v := .int .i64 (((8 * l.length : Nat) : Int))) (hv := by exact run_shr_i0 rfl rfl rfl)
   refine Lw ?_ (v := .int .u8 ((u8 (8 * l.length)).toNat : Int)) (hv := by rw [← w8_natx (8 * l.length)]; exact run_c8i rfl rfl)
   clear ow_s49 dj_b_s49
   refine LnS ?_ (z := #[.int .u8 ((u8 (8 * l.length)).toNat : Int)]) (t := 5) (n := 1) (c := 1)
   intro p49_35 W35 n_s49 hO h_
   replace ow_b := Owz.off ow_b hO f0
   replace off0 := off0.o hO
   have ow_s49 : Own W35 (.slice (some ⟨p49_35, 0, none⟩) 1 1) [u8 (8 * l.length)] := own_blk h_ (by rfl) (by show 1 ≤ maxLen; decide)
   clear hO h_ n_s49
   refine wpL_appendz (xs := ((((((((((((((((l ++ [128] ++ List.replicate (zc l.length) 0) ++ [0]) ++ [0]) ++ [0]) ++ [0]) ++ [0]) ++ [0]) ++ [0]) ++ [0]) ++ [u8 ((8 * l.length) / 72057594037927936)]) ++ [u8 ((8 * l.length) / 281474976710656)]) ++ [u8 ((8 * l.length) / 1099511627776)]) ++ [u8 ((8 * l.length) / 4294967296)]) ++ [u8 ((8 * l.length) / 16777216)]) ++ [u8 ((8 * l.length) / 65536)]) ++ [u8 ((8 * l.length) / 256)])) (ys := [u8 (8 * l.length)]) (by rfl) rfl rfl rfl ow_b (ow_s49.sl) (by first | omega | (simp only [List.length_append, List.length_cons, List.length_nil, List.length_replicate, wb_length]; omega)) ?_
   (try simp only [Act.put, mA, mB, mC])
   intro v50_36 W36 ow_a50 hO at_a50
   have fr_a50 := own_fr at_a50 fr_b off0.size
   replace off0 := off0.step hO (io fr_b)
   clear hO at_a50
   have ow_b := ow_a50
   clear ow_a50
   have fr_b := fr_a50
   refine Lv ?_
   refine wpL_nil ?_
   go_wp2_with fail
   rw [rounds_succ]
   go_upto_region 11 with fail
   refine wp_region_lit ?_
   refine wpL_rd0 (by rfl) rfl rfl ((GR_ext HG.out off0.ext).2) (by kernel_rfl) (by rw [arrK_size]; kernel_rfl) ?_
   (try simp only [Act.put, mA, mB, mC])
   refine LnP ?_ (z := arrK .u64 8 (fun _ => 0)) (t := 113) (cells := arrK .u64 8 hf) (hi := by rw [arrK_size]; kernel_rfl) (hs := by rw [arrK_size, arrK_size]) (h1 := by exact arrK_one _ _ _)
   intro p6_37 W38 n_t6 hO h_
   have ne_b_t6 := ne_new (Owz.lt ow_b) n_t6
   have fb_t6 := fbn off0 n_t6
   replace ow_b := Owz.off ow_b hO f0
   replace off0 := off0.o hO
   have k_t6 := h_
   clear hO h_ n_t6
   refine wpL_nil ?_
   clear ow_s41 dj_b_s41
   clear ow_s49 dj_b_s49
   rw [pad_app] at ow_b
   have ow_b : Owz W38 v50_36 (pad l) := ow_b
   go_wp2_with fail
   go_loopw [7] (fun ii wr => ∃ (j : Nat), (j ≤ nb l.length) ∧ (ii = .int .i64 ((128 * j : Nat) : Int)) ∧ Off [] w wr ∧ Blk wr p6_37 (arrK .u64 8 (Hs (pad l) j)) 113 ∧ Owz wr v50_36 (pad l))
    (fun ii _ => 128 * nb l.length - (intOf ii).toNat)
   case atStart => exact ⟨0, Nat.zero_le _, rfl, off0, k_t6, ow_b⟩
   case round =>
    obtain ⟨j, hj, rfl, off0, k_t6, ow_b⟩ := hrel
    obtain ⟨W39, eW_⟩ := wname off0
    subst eW_
    by_cases hjl : j < nb l.length
    ·
     have _f := hjl
     go_upto_region 13 with fail
     refine wp_region_lit ?_
     refine Lv ?_
     refine Lv ?_
     refine wpL_len (l := (pad l)) (ow_b.sl) (by rfl) rfl rfl ?_
     (try simp only [Act.put, mA, mB, mC])
     refine Lw ?_ (v := .bool true) (hv := by first | (go_simp; done) | (go_simp; (try simp only [hpl]); omega))
     refine wpL_nil ?_
     go_upto_region 15 with fail
     refine wp_region_lit ?_
     refine Ln ?_ (z := arrK .u64 80 (fun _ => 0)) (t := 118)
     intro p8_40 W40 n_t8 hO h_
     have nq_t6_t8 := bn k_t6 n_t8
     have ne_b_t8 := ne_new (Owz.lt ow_b) n_t8
     have fb_t8 := fbn off0 n_t8
     replace k_t6 := k_t6.o hO
     replace ow_b := Owz.off ow_b hO f0
     replace off0 := off0.o hO
     have k_t8 := h_
     clear hO h_ n_t8
     refine wpL_nil ?_
     go_wp2_with fail
     go_loopw [9] (fun ii wr => ∃ (i : Nat), (i ≤ 80) ∧ (ii = .int .i64 (i : Int)) ∧ Off [] w wr ∧ Blk wr p6_37 (arrK .u64 8 (Hs (pad l) j)) 113 ∧ Blk wr p8_40 (arrK .u64 80 (rst (bt (List.drop (128 * j) (pad l))) i)) 118 ∧ Owz wr v50_36 (pad l))
      (fun ii _ => 80 - (intOf ii).toNat)
     case atStart => exact ⟨0, Nat.zero_le _, rfl, off0, k_t6, (by rw [rst_lo (by decide), Nat.mul_zero, fst_zero]; exact k_t8), ow_b⟩
     case round =>
      obtain ⟨i, hi, rfl, off0, k_t6, k_t8, ow_b⟩ := hrel
      obtain ⟨W41, eW_⟩ := wname off0
      subst eW_
      by_cases h80 : i < 80
      ·
       have _f := h80
       go_upto_region 17 with fail
       refine wp_region_lit ?_
       refine Lv ?_
       refine Lw ?_ (v := .bool true)
       refine wpL_nil ?_
       by_cases h16 : i < 16
       ·
        have _f := h16
        rw [rst_lo h16] at k_t8
        go_upto_region 19 with fail
        refine wp_region_lit ?_
        refine Lv ?_
        refine Lw ?_ (v := .bool true)
        refine wpL_nil ?_
        go_wp2_with fail
        go_loopw [10] (fun jj wr => ∃ (k : Nat), (k ≤ 8) ∧ (jj = .int .i64 (k : Int)) ∧ Off [] w wr ∧ Blk wr p6_37 (arrK .u64 8 (Hs (pad l) j)) 113 ∧ Blk wr p8_40 (arrK .u64 80 (fst (bt (List.drop (128 * j) (pad l))) (8 * i + k))) 118 ∧ Owz wr v50_36 (pad l))
         (fun jj _ => 8 - (intOf jj).toNat)
        case atStart => exact ⟨0, Nat.zero_le _, rfl, off0, k_t6, k_t8, ow_b⟩
        case round =>
         obtain ⟨k, hk, rfl, off0, k_t6, k_t8, ow_b⟩ := hrel
         obtain ⟨W42, eW_⟩ := wname off0
         subst eW_
         by_cases hk8 : k < 8
         ·
          have _f := hk8
          obtain ⟨J, hJe⟩ : ∃ J, 128 * j + 8 * i + k = J := ⟨_, rfl⟩
          have hJ : J < (pad l).length := by rw [hpl]; omega
          obtain ⟨ad_, c_, hb_, hcell_⟩ := sl_form ow_b.sl (by omega)
          have hcx_ := hcell_ _ _ (getD_some hJ)
          clear hcell_
          replace hb_ := Lib.hid hb_
          go_upto_region 21 with fail
          refine wp_region_lit ?_
          refine Lv ?_
          refine Lw ?_ (v := .bool true)
          refine wpL_nil ?_
          go_upto_region 23 with fail
          refine wp_region_xn 17 [] (by kernel_rfl) (fun x hx => by cases hx) (by kernel_rfl) ?_
          simp only [List.take_succ_cons, List.take_zero, List.take_nil]
          (try simp only [Act.put, mA, mB, mC])
          refine Xv ?_
          refine Xv ?_
          refine Xw ?_ (v := .pointer (some ⟨p8_40, 0 + i, none⟩)) (hv := fun _ _ => run_ixarr (m := 80) (by decide) (by omega) Tryd.underlying118 (by kernel_rfl) rfl rfl rfl)
          refine Xc ?_ (v := .int .u64 ((fst (bt (List.drop (128 * j) (pad l))) (8 * i + k)) i)) (blk_rd k_t8) (hj := by rw [Nat.zero_add]; exact arrK_get _ _ _ _ (by omega))
          refine Xw ?_ (v := .int .u64 (sl ((fst (bt (List.drop (128 * j) (pad l))) (8 * i + k)) i) 8)) (hv := fun _ _ => run_shl (n := 8) (by decide) rfl rfl rfl)
          refine Xv ?_
          refine Xv ?_
          refine Xv ?_
          refine Xw ?_ (v := .int .i64 (((8 * i : Nat) : Int))) (hv := fun _ _ => by go_simp; (try simp only [IntKind.wrap_u64, IntKind.wrap_i64]); (try omega))
          refine Xw ?_ (v := .int .i64 (((128 * j + 8 * i : Nat) : Int))) (hv := fun _ _ => by go_simp; (try simp only [IntKind.wrap_u64, IntKind.wrap_i64]); (try omega))
          refine Xv ?_
          refine Xw ?_ (v := .int .i64 (((J : Nat) : Int))) (hv := fun _ _ => by go_simp; (try simp only [IntKind.wrap_u64, IntKind.wrap_i64]); (try omega))
          (refine wpX_val (v := ?_) (by rfl) (fun W hW => ?_) ?_; rotate_left 1; (focus (refine run_ixa (j := J) (n := (pad l).length) (c := c_) (ad := ad_) (k := .i64) (x := .tmp 73) (y := .tmp 79) hJ ?_ ?_ ?_; (focus rfl); (focus exact hb_.out); (focus rfl))))
          (try simp only [Act.put, mA, mB, mC])
          refine wpX_at (by rfl) rfl rfl (fun W hW => cell_ext hcx_ hW) (by kernel_rfl) ?_
          (try simp only [Act.put, mA, mB, mC])
          refine Xw ?_ (v := .int .u64 (bt (pad l) J)) (hv := fun _ _ => by exact run_cv rfl rfl)
          refine Xw ?_ (v := .int .u64 (oo (sl ((fst (bt (List.drop (128 * j) (pad l))) (8 * i + k)) i) 8) (bt (pad l) J))) (hv := fun _ _ => run_or rfl rfl rfl)
          refine Xw ?_ (v := .pointer (some ⟨p8_40, 0 + i, none⟩)) (hv := fun _ _ => run_ixarr (m := 80) (by decide) (by omega) Tryd.underlying118 (by kernel_rfl) rfl rfl rfl)
          refine wpX_nil ?_
          intro β W43 hE hN hD
          clear hN hD
          simp only [putAll, Act.put, mA, mB, mC, List.drop_succ_cons, List.drop_zero, List.drop_nil, List.length_nil, Nat.add_zero]
          have hO := off_ext hE
          replace k_t6 := k_t6.o hO
          replace k_t8 := k_t8.o hO
          replace ow_b := Owz.off ow_b hO f0
          replace off0 := off0.o hO
          clear hO hE β
          refine wpL_put1 (v := .int .u64 (oo (sl ((fst (bt (List.drop (128 * j) (pad l))) (8 * i + k)) i) 8) (bt (pad l) J))) ⟨rfl, rfl⟩ (by rfl) rfl rfl rfl k_t8 (by rw [arrK_size, Nat.zero_add]; omega) (by kernel_rfl) ?_
          (try simp only [Act.put, mA, mB, mC])
          intro W44 hO h_
          rw [Nat.zero_add, arrK_set] at h_
          replace k_t8 : Blk W44 p8_40 (arrK .u64 80 (upd (fst (bt (List.drop (128 * j) (pad l))) (8 * i + k)) i (oo (sl ((fst (bt (List.drop (128 * j) (pad l))) (8 * i + k)) i) 8) (bt (pad l) J)))) 118 := h_
          clear h_
          replace k_t6 := k_t6.p hO nq_t6_t8
          replace ow_b := Owz.off ow_b hO (f1 ne_b_t8)
          replace off0 := off0.p hO fb_t8
          clear hO
          refine LN ?_
          go_wp2
          go_roundw
          case rel => exact ⟨k + 1, by omega, by go_num, off0, k_t6, (by rw [← fst_next _ _ _ _ h16 hk8, hJe]; exact k_t8), ow_b⟩
          case measure => simp [intOf]; omega
         ·
          have _f := hk8
          obtain rfl : k = 8 := by omega
          go_upto_region 21 with fail
          refine wp_region_lit ?_
          refine Lv ?_
          refine Lw ?_ (v := .bool false)
          refine wpL_nil ?_
          go_wp2
          go_roundw
          case rel => exact ⟨i + 1, by omega, by go_num, off0, k_t6, (by rw [← rst_next h16]; exact k_t8), ow_b⟩
          case measure => simp [intOf]; omega
       ·
        have _f := h16
        replace h16 : 16 ≤ i := by omega
        rw [rst_hi h16] at k_t8
        go_upto_region 19 with fail
        refine wp_region_lit ?_
        refine Lv ?_
        refine Lw ?_ (v := .bool false)
        refine wpL_nil ?_
        go_upto_region 24 with fail
        refine wp_region_xn 10 [] (by kernel_rfl) (fun x hx => by cases hx) (by kernel_rfl) ?_
        simp only [List.take_succ_cons, List.take_zero, List.take_nil]
        (try simp only [Act.put, mA, mB, mC])
        refine Xv ?_
        refine Xw ?_ (v := .int .i64 (((i - 15 : Nat) : Int))) (hv := fun _ _ => by go_simp; (try simp only [IntKind.wrap_u64, IntKind.wrap_i64]); (try omega))
        refine Xw ?_ (v := .pointer (some ⟨p8_40, 0 + (i - 15), none⟩)) (hv := fun _ _ => run_ixarr (m := 80) (by decide) (by omega) Tryd.underlying118 (by kernel_rfl) rfl rfl rfl)
        refine Xc ?_ (v := .int .u64 ((sch (bt (List.drop (128 * j) (pad l))) i) (i - 15))) (blk_rd k_t8) (hj := by rw [Nat.zero_add]; exact arrK_get _ _ _ _ (by omega))
        refine Xv ?_
        refine Xw ?_ (v := .int .i64 (((i - 2 : Nat) : Int))) (hv := fun _ _ => by go_simp; (try simp only [IntKind.wrap_u64, IntKind.wrap_i64]); (try omega))
        refine Xw ?_ (v := .pointer (some ⟨p8_40, 0 + (i - 2), none⟩)) (hv := fun _ _ => run_ixarr (m := 80) (by decide) (by omega) Tryd.underlying118 (by kernel_rfl) rfl rfl rfl)
        refine Xc ?_ (v := .int .u64 ((sch (bt (List.drop (128 * j) (pad l))) i) (i - 2))) (blk_rd k_t8) (hj := by rw [Nat.zero_add]; exact arrK_get _ _ _ _ (by omega))
        refine Xv ?_
        refine Xv ?_
        refine wpX_nil ?_
        intro β W42 hE hN hD
        clear hN hD
        simp only [putAll, Act.put, mA, mB, mC, List.drop_succ_cons, List.drop_zero, List.drop_nil, List.length_nil, Nat.add_zero]
        have hO := off_ext hE
        replace k_t6 := k_t6.o hO
        replace k_t8 := k_t8.o hO
        replace ow_b := Owz.off ow_b hO f0
        replace off0 := off0.o hO
        clear hO hE β
        refine LN ?_
        go_upto_region 25 with fail
        refine wp_region_xn 29 [] (by kernel_rfl) (fun x hx => by cases hx) (by kernel_rfl) ?_
        simp only [List.take_succ_cons, List.take_zero, List.take_nil]
        (try simp only [Act.put, mA, mB, mC])
        refine Xv ?_
        refine Xv ?_
        refine Xw ?_ (v := .int .i64 (((i - 16 : Nat) : Int))) (hv := fun _ _ => by go_simp; (try simp only [IntKind.wrap_u64, IntKind.wrap_i64]); (try omega))
        refine Xw ?_ (v := .pointer (some ⟨p8_40, 0 + (i - 16), none⟩)) (hv := fun _ _ => run_ixarr (m := 80) (by decide) (by omega) Tryd.underlying118 (by kernel_rfl) rfl rfl rfl)
        refine Xc ?_ (v := .int .u64 ((sch (bt (List.drop (128 * j) (pad l))) i) (i - 16))) (blk_rd k_t8) (hj := by rw [Nat.zero_add]; exact arrK_get _ _ _ _ (by omega))
        refine Xv ?_
        refine Xf ?_ (fun W hW => rturn_c ((sch (bt (List.drop (128 * j) (pad l))) i) (i - 15)) 1 (by decide) (by decide) W)
        refine Xv ?_
        refine Xf ?_ (fun W hW => rturn_c ((sch (bt (List.drop (128 * j) (pad l))) i) (i - 15)) 8 (by decide) (by decide) W)
        refine Xw ?_ (v := .int .u64 (xo (rt ((sch (bt (List.drop (128 * j) (pad l))) i) (i - 15)) 1) (rt ((sch (bt (List.drop (128 * j) (pad l))) i) (i - 15)) 8))) (hv := fun _ _ => run_xor rfl rfl rfl)
        refine Xv ?_
        refine Xw ?_ (v := .int .u64 (sr ((sch (bt (List.drop (128 * j) (pad l))) i) (i - 15)) 7)) (hv := fun _ _ => run_shr (n := 7) (by decide) rfl rfl rfl)
        refine Xw ?_ (v := .int .u64 (xo (xo (rt ((sch (bt (List.drop (128 * j) (pad l))) i) (i - 15)) 1) (rt ((sch (bt (List.drop (128 * j) (pad l))) i) (i - 15)) 8)) (sr ((sch (bt (List.drop (128 * j) (pad l))) i) (i - 15)) 7))) (hv := fun _ _ => run_xor rfl rfl rfl)
        refine Xw ?_ (v := .int .u64 (ad ((sch (bt (List.drop (128 * j) (pad l))) i) (i - 16)) (xo (xo (rt ((sch (bt (List.drop (128 * j) (pad l))) i) (i - 15)) 1) (rt ((sch (bt (List.drop (128 * j) (pad l))) i) (i - 15)) 8)) (sr ((sch (bt (List.drop (128 * j) (pad l))) i) (i - 15)) 7)))) (hv := fun _ _ => run_add rfl rfl rfl)
        refine Xv ?_
        refine Xw ?_ (v := .int .i64 (((i - 7 : Nat) : Int))) (hv := fun _ _ => by go_simp; (try simp only [IntKind.wrap_u64, IntKind.wrap_i64]); (try omega))
        refine Xw ?_ (v := .pointer (some ⟨p8_40, 0 + (i - 7), none⟩)) (hv := fun _ _ => run_ixarr (m := 80) (by decide) (by omega) Tryd.underlying118 (by kernel_rfl) rfl rfl rfl)
        refine Xc ?_ (v := .int .u64 ((sch (bt (List.drop (128 * j) (pad l))) i) (i - 7))) (blk_rd k_t8) (hj := by rw [Nat.zero_add]; exact arrK_get _ _ _ _ (by omega))
        refine Xw ?_ (v := .int .u64 (ad (ad ((sch (bt (List.drop (128 * j) (pad l))) i) (i - 16)) (xo (xo (rt ((sch (bt (List.drop (128 * j) (pad l))) i) (i - 15)) 1) (rt ((sch (bt (List.drop (128 * j) (pad l))) i) (i - 15)) 8)) (sr ((sch (bt (List.drop (128 * j) (pad l))) i) (i - 15)) 7))) ((sch (bt (List.drop (128 * j) (pad l))) i) (i - 7)))) (hv := fun _ _ => run_add rfl rfl rfl)
        refine Xv ?_
        refine Xf ?_ (fun W hW => rturn_c ((sch (bt (List.drop (128 * j) (pad l))) i) (i - 2)) 19 (by decide) (by decide) W)
        refine Xv ?_
        refine Xf ?_ (fun W hW => rturn_c ((sch (bt (List.drop (128 * j) (pad l))) i) (i - 2)) 61 (by decide) (by decide) W)
        refine Xw ?_ (v := .int .u64 (xo (rt ((sch (bt (List.drop (128 * j) (pad l))) i) (i - 2)) 19) (rt ((sch (bt (List.drop (128 * j) (pad l))) i) (i - 2)) 61))) (hv := fun _ _ => run_xor rfl rfl rfl)
        refine Xv ?_
        refine Xw ?_ (v := .int .u64 (sr ((sch (bt (List.drop (128 * j) (pad l))) i) (i - 2)) 6)) (hv := fun _ _ => run_shr (n := 6) (by decide) rfl rfl rfl)
        refine Xw ?_ (v := .int .u64 (xo (xo (rt ((sch (bt (List.drop (128 * j) (pad l))) i) (i - 2)) 19) (rt ((sch (bt (List.drop (128 * j) (pad l))) i) (i - 2)) 61)) (sr ((sch (bt (List.drop (128 * j) (pad l))) i) (i - 2)) 6))) (hv := fun _ _ => run_xor rfl rfl rfl)
        refine Xw ?_ (v := .int .u64 (ad (ad (ad ((sch (bt (List.drop (128 * j) (pad l))) i) (i - 16)) (xo (xo (rt ((sch (bt (List.drop (128 * j) (pad l))) i) (i - 15)) 1) (rt ((sch (bt (List.drop (128 * j) (pad l))) i) (i - 15)) 8)) (sr ((sch (bt (List.drop (128 * j) (pad l))) i) (i - 15)) 7))) ((sch (bt (List.drop (128 * j) (pad l))) i) (i - 7))) (xo (xo (rt ((sch (bt (List.drop (128 * j) (pad l))) i) (i - 2)) 19) (rt ((sch (bt (List.drop (128 * j) (pad l))) i) (i - 2)) 61)) (sr ((sch (bt (List.drop (128 * j) (pad l))) i) (i - 2)) 6)))) (hv := fun _ _ => run_add rfl rfl rfl)
        refine Xw ?_ (v := .pointer (some ⟨p8_40, 0 + i, none⟩)) (hv := fun _ _ => run_ixarr (m := 80) (by decide) (by omega) Tryd.underlying118 (by kernel_rfl) rfl rfl rfl)
        refine wpX_nil ?_
        intro β W43 hE hN hD
        clear hN hD
        simp only [putAll, Act.put, mA, mB, mC, List.drop_succ_cons, List.drop_zero, List.drop_nil, List.length_nil, Nat.add_zero]
        have hO := off_ext hE
        replace k_t6 := k_t6.o hO
        replace k_t8 := k_t8.o hO
        replace ow_b := Owz.off ow_b hO f0
        replace off0 := off0.o hO
        clear hO hE β
        refine wpL_put1 (v := .int .u64 (ad (ad (ad ((sch (bt (List.drop (128 * j) (pad l))) i) (i - 16)) (xo (xo (rt ((sch (bt (List.drop (128 * j) (pad l))) i) (i - 15)) 1) (rt ((sch (bt (List.drop (128 * j) (pad l))) i) (i - 15)) 8)) (sr ((sch (bt (List.drop (128 * j) (pad l))) i) (i - 15)) 7))) ((sch (bt (List.drop (128 * j) (pad l))) i) (i - 7))) (xo (xo (rt ((sch (bt (List.drop (128 * j) (pad l))) i) (i - 2)) 19) (rt ((sch (bt (List.drop (128 * j) (pad l))) i) (i - 2)) 61)) (sr ((sch (bt (List.drop (128 * j) (pad l))) i) (i - 2)) 6)))) ⟨rfl, rfl⟩ (by rfl) rfl rfl rfl k_t8 (by rw [arrK_size, Nat.zero_add]; omega) (by kernel_rfl) ?_
        (try simp only [Act.put, mA, mB, mC])
        intro W44 hO h_
        rw [Nat.zero_add, arrK_set] at h_
        replace k_t8 : Blk W44 p8_40 (arrK .u64 80 (upd (sch (bt (List.drop (128 * j) (pad l))) i) i (ad (ad (ad ((sch (bt (List.drop (128 * j) (pad l))) i) (i - 16)) (xo (xo (rt ((sch (bt (List.drop (128 * j) (pad l))) i) (i - 15)) 1) (rt ((sch (bt (List.drop (128 * j) (pad l))) i) (i - 15)) 8)) (sr ((sch (bt (List.drop (128 * j) (pad l))) i) (i - 15)) 7))) ((sch (bt (List.drop (128 * j) (pad l))) i) (i - 7))) (xo (xo (rt ((sch (bt (List.drop (128 * j) (pad l))) i) (i - 2)) 19) (rt ((sch (bt (List.drop (128 * j) (pad l))) i) (i - 2)) 61)) (sr ((sch (bt (List.drop (128 * j) (pad l))) i) (i - 2)) 6))))) 118 := h_
        clear h_
        replace k_t6 := k_t6.p hO nq_t6_t8
        replace ow_b := Owz.off ow_b hO (f1 ne_b_t8)
        replace off0 := off0.p hO fb_t8
        clear hO
        refine LN ?_
        go_wp2
        go_roundw
        case rel => exact ⟨i + 1, by omega, by go_num, off0, k_t6, (by rw [rst_hi (by omega), ← sch_hi h16]; exact k_t8), ow_b⟩
        case measure => simp [intOf]; omega
      ·
       have _f := h80
       obtain rfl : i = 80 := by omega
       rw [rst_hi (by decide)] at k_t8
       go_upto_region 17 with fail
       refine wp_region_lit ?_
       refine Lv ?_
       refine Lw ?_ (v := .bool false)
       refine wpL_nil ?_
       go_upto_region 26 with fail
       refine wp_region_lit ?_
       refine L0A ?_ k_t6
       refine LnP ?_ (z := arrK .u64 8 (fun _ => 0)) (t := 113) (cells := arrK .u64 8 (Hs (pad l) j)) (hi := by rw [arrK_size]; kernel_rfl) (hs := by rw [arrK_size, arrK_size]) (h1 := by exact arrK_one _ _ _)
       intro p13_42 W43 n_t13 hO h_
       have nq_t6_t13 := bn k_t6 n_t13
       have nq_t8_t13 := bn k_t8 n_t13
       have ne_b_t13 := ne_new (Owz.lt ow_b) n_t13
       have fb_t13 := fbn off0 n_t13
       replace k_t6 := k_t6.o hO
       replace k_t8 := k_t8.o hO
       replace ow_b := Owz.off ow_b hO f0
       replace off0 := off0.o hO
       have k_t13 := h_
       clear hO h_ n_t13
       refine wpL_nil ?_
       go_wp2_with fail
       go_loopw [14] (fun ii wr => ∃ (i : Nat), (i ≤ 80) ∧ (ii = .int .i64 (i : Int)) ∧ Off [] w wr ∧ Blk wr p6_37 (arrK .u64 8 (Hs (pad l) j)) 113 ∧ Blk wr p8_40 (arrK .u64 80 (sch (bt (List.drop (128 * j) (pad l))) 80)) 118 ∧ Blk wr p13_42 (arrK .u64 8 (rnds kf (sch (bt (List.drop (128 * j) (pad l))) 80) (Hs (pad l) j) i)) 113 ∧ Owz wr v50_36 (pad l))
        (fun ii _ => 80 - (intOf ii).toNat)
       case atStart => exact ⟨0, Nat.zero_le _, rfl, off0, k_t6, k_t8, k_t13, ow_b⟩
       case round =>
        obtain ⟨i, hi, rfl, off0, k_t6, k_t8, k_t13, ow_b⟩ := hrel
        obtain ⟨W44, eW_⟩ := wname off0
        subst eW_
        by_cases h80 : i < 80
        ·
         have _f := h80
         go_upto_region 28 with fail
         refine wp_region_lit ?_
         refine Lv ?_
         refine Lw ?_ (v := .bool true)
         refine wpL_nil ?_
         go_upto_region 30 with fail
         refine wp_region_xn 36 [] (by kernel_rfl) (fun x hx => by cases hx) (by kernel_rfl) ?_
         simp only [List.take_succ_cons, List.take_zero, List.take_nil]
         (try simp only [Act.put, mA, mB, mC])
         refine Xw ?_ (v := .pointer (some ⟨p13_42, 0 + 7, none⟩)) (hv := fun _ _ => run_ixarr (m := 8) (by decide) (by omega) Tryd.underlying113 (by kernel_rfl) rfl rfl rfl)
         refine Xc ?_ (v := .int .u64 ((rnds kf (sch (bt (List.drop (128 * j) (pad l))) 80) (Hs (pad l) j) i) 7)) (blk_rd k_t13) (hj := by rw [Nat.zero_add]; exact arrK_get _ _ _ _ (by omega))
         refine Xw ?_ (v := .pointer (some ⟨p13_42, 0 + 4, none⟩)) (hv := fun _ _ => run_ixarr (m := 8) (by decide) (by omega) Tryd.underlying113 (by kernel_rfl) rfl rfl rfl)
         refine Xc ?_ (v := .int .u64 ((rnds kf (sch (bt (List.drop (128 * j) (pad l))) 80) (Hs (pad l) j) i) 4)) (blk_rd k_t13) (hj := by rw [Nat.zero_add]; exact arrK_get _ _ _ _ (by omega))
         refine Xf ?_ (fun W hW => rturn_c ((rnds kf (sch (bt (List.drop (128 * j) (pad l))) 80) (Hs (pad l) j) i) 4) 14 (by decide) (by decide) W)
         refine Xw ?_ (v := .pointer (some ⟨p13_42, 0 + 4, none⟩)) (hv := fun _ _ => run_ixarr (m := 8) (by decide) (by omega) Tryd.underlying113 (by kernel_rfl) rfl rfl rfl)
         refine Xc ?_ (v := .int .u64 ((rnds kf (sch (bt (List.drop (128 * j) (pad l))) 80) (Hs (pad l) j) i) 4)) (blk_rd k_t13) (hj := by rw [Nat.zero_add]; exact arrK_get _ _ _ _ (by omega))
         refine Xf ?_ (fun W hW => rturn_c ((rnds kf (sch (bt (List.drop (128 * j) (pad l))) 80) (Hs (pad l) j) i) 4) 18 (by decide) (by decide) W)
         refine Xw ?_ (v := .int .u64 (xo (rt ((rnds kf (sch (bt (List.drop (128 * j) (pad l))) 80) (Hs (pad l) j) i) 4) 14) (rt ((rnds kf (sch (bt (List.drop (128 * j) (pad l))) 80) (Hs (pad l) j) i) 4) 18))) (hv := fun _ _ => run_xor rfl rfl rfl)
         refine Xw ?_ (v := .pointer (some ⟨p13_42, 0 + 4, none⟩)) (hv := fun _ _ => run_ixarr (m := 8) (by decide) (by omega) Tryd.underlying113 (by kernel_rfl) rfl rfl rfl)
         refine Xc ?_ (v := .int .u64 ((rnds kf (sch (bt (List.drop (128 * j) (pad l))) 80) (Hs (pad l) j) i) 4)) (blk_rd k_t13) (hj := by rw [Nat.zero_add]; exact arrK_get _ _ _ _ (by omega))
         refine Xf ?_ (fun W hW => rturn_c ((rnds kf (sch (bt (List.drop (128 * j) (pad l))) 80) (Hs (pad l) j) i) 4) 41 (by decide) (by decide) W)
         refine Xw ?_ (v := .int .u64 (xo (xo (rt ((rnds kf (sch (bt (List.drop (128 * j) (pad l))) 80) (Hs (pad l) j) i) 4) 14) (rt ((rnds kf (sch (bt (List.drop (128 * j) (pad l))) 80) (Hs (pad l) j) i) 4) 18)) (rt ((rnds kf (sch (bt (List.drop (128 * j) (pad l))) 80) (Hs (pad l) j) i) 4) 41))) (hv := fun _ _ => run_xor rfl rfl rfl)
         refine Xw ?_ (v := .int .u64 (ad ((rnds kf (sch (bt (List.drop (128 * j) (pad l))) 80) (Hs (pad l) j) i) 7) (xo (xo (rt ((rnds kf (sch (bt (List.drop (128 * j) (pad l))) 80) (Hs (pad l) j) i) 4) 14) (rt ((rnds kf (sch (bt (List.drop (128 * j) (pad l))) 80) (Hs (pad l) j) i) 4) 18)) (rt ((rnds kf (sch (bt (List.drop (128 * j) (pad l))) 80) (Hs (pad l) j) i) 4) 41)))) (hv := fun _ _ => run_add rfl rfl rfl)
         refine Xw ?_ (v := .pointer (some ⟨p13_42, 0 + 4, none⟩)) (hv := fun _ _ => run_ixarr (m := 8) (by decide) (by omega) Tryd.underlying113 (by kernel_rfl) rfl rfl rfl)
         refine Xc ?_ (v := .int .u64 ((rnds kf (sch (bt (List.drop (128 * j) (pad l))) 80) (Hs (pad l) j) i) 4)) (blk_rd k_t13) (hj := by rw [Nat.zero_add]; exact arrK_get _ _ _ _ (by omega))
         refine Xw ?_ (v := .pointer (some ⟨p13_42, 0 + 5, none⟩)) (hv := fun _ _ => run_ixarr (m := 8) (by decide) (by omega) Tryd.underlying113 (by kernel_rfl) rfl rfl rfl)
         refine Xc ?_ (v := .int .u64 ((rnds kf (sch (bt (List.drop (128 * j) (pad l))) 80) (Hs (pad l) j) i) 5)) (blk_rd k_t13) (hj := by rw [Nat.zero_add]; exact arrK_get _ _ _ _ (by omega))
         refine Xw ?_ (v := .int .u64 (an ((rnds kf (sch (bt (List.drop (128 * j) (pad l))) 80) (Hs (pad l) j) i) 4) ((rnds kf (sch (bt (List.drop (128 * j) (pad l))) 80) (Hs (pad l) j) i) 5))) (hv := fun _ _ => run_and rfl rfl rfl)
         refine Xw ?_ (v := .pointer (some ⟨p13_42, 0 + 4, none⟩)) (hv := fun _ _ => run_ixarr (m := 8) (by decide) (by omega) Tryd.underlying113 (by kernel_rfl) rfl rfl rfl)
         refine Xc ?_ (v := .int .u64 ((rnds kf (sch (bt (List.drop (128 * j) (pad l))) 80) (Hs (pad l) j) i) 4)) (blk_rd k_t13) (hj := by rw [Nat.zero_add]; exact arrK_get _ _ _ _ (by omega))
         refine Xw ?_ (v := .int .u64 (nt ((rnds kf (sch (bt (List.drop (128 * j) (pad l))) 80) (Hs (pad l) j) i) 4))) (hv := fun _ _ => run_not rfl rfl)
         refine Xw ?_ (v := .pointer (some ⟨p13_42, 0 + 6, none⟩)) (hv := fun _ _ => run_ixarr (m := 8) (by decide) (by omega) Tryd.underlying113 (by kernel_rfl) rfl rfl rfl)
         refine Xc ?_ (v := .int .u64 ((rnds kf (sch (bt (List.drop (128 * j) (pad l))) 80) (Hs (pad l) j) i) 6)) (blk_rd k_t13) (hj := by rw [Nat.zero_add]; exact arrK_get _ _ _ _ (by omega))
         refine Xw ?_ (v := .int .u64 (an (nt ((rnds kf (sch (bt (List.drop (128 * j) (pad l))) 80) (Hs (pad l) j) i) 4)) ((rnds kf (sch (bt (List.drop (128 * j) (pad l))) 80) (Hs (pad l) j) i) 6))) (hv := fun _ _ => run_and rfl rfl rfl)
         refine Xw ?_ (v := .int .u64 (xo (an ((rnds kf (sch (bt (List.drop (128 * j) (pad l))) 80) (Hs (pad l) j) i) 4) ((rnds kf (sch (bt (List.drop (128 * j) (pad l))) 80) (Hs (pad l) j) i) 5)) (an (nt ((rnds kf (sch (bt (List.drop (128 * j) (pad l))) 80) (Hs (pad l) j) i) 4)) ((rnds kf (sch (bt (List.drop (128 * j) (pad l))) 80) (Hs (pad l) j) i) 6)))) (hv := fun _ _ => run_xor rfl rfl rfl)
         refine Xw ?_ (v := .int .u64 (ad (ad ((rnds kf (sch (bt (List.drop (128 * j) (pad l))) 80) (Hs (pad l) j) i) 7) (xo (xo (rt ((rnds kf (sch (bt (List.drop (128 * j) (pad l))) 80) (Hs (pad l) j) i) 4) 14) (rt ((rnds kf (sch (bt (List.drop (128 * j) (pad l))) 80) (Hs (pad l) j) i) 4) 18)) (rt ((rnds kf (sch (bt (List.drop (128 * j) (pad l))) 80) (Hs (pad l) j) i) 4) 41))) (xo (an ((rnds kf (sch (bt (List.drop (128 * j) (pad l))) 80) (Hs (pad l) j) i) 4) ((rnds kf (sch (bt (List.drop (128 * j) (pad l))) 80) (Hs (pad l) j) i) 5)) (an (nt ((rnds kf (sch (bt (List.drop (128 * j) (pad l))) 80) (Hs (pad l) j) i) 4)) ((rnds kf (sch (bt (List.drop (128 * j) (pad l))) 80) (Hs (pad l) j) i) 6))))) (hv := fun _ _ => run_add rfl rfl rfl)
         refine Xv ?_
         refine Xw ?_ (v := .pointer (some ⟨7, 0 + i, none⟩)) (hv := fun _ _ => run_ixarr (m := 80) (by decide) (by omega) Tryd.underlying118 (by kernel_rfl) rfl rfl rfl)
         refine Xc ?_ (v := .int .u64 (kf i)) ((GR_ext HG.out off0.ext).1) (hj := by rw [Nat.zero_add]; exact arrK_get _ _ _ _ (by omega))
         refine Xw ?_ (v := .int .u64 (ad (ad (ad ((rnds kf (sch (bt (List.drop (128 * j) (pad l))) 80) (Hs (pad l) j) i) 7) (xo (xo (rt ((rnds kf (sch (bt (List.drop (128 * j) (pad l))) 80) (Hs (pad l) j) i) 4) 14) (rt ((rnds kf (sch (bt (List.drop (128 * j) (pad l))) 80) (Hs (pad l) j) i) 4) 18)) (rt ((rnds kf (sch (bt (List.drop (128 * j) (pad l))) 80) (Hs (pad l) j) i) 4) 41))) (xo (an ((rnds kf (sch (bt (List.drop (128 * j) (pad l))) 80) (Hs (pad l) j) i) 4) ((rnds kf (sch (bt (List.drop (128 * j) (pad l))) 80) (Hs (pad l) j) i) 5)) (an (nt ((rnds kf (sch (bt (List.drop (128 * j) (pad l))) 80) (Hs (pad l) j) i) 4)) ((rnds kf (sch (bt (List.drop (128 * j) (pad l))) 80) (Hs (pad l) j) i) 6)))) (kf i))) (hv := fun _ _ => run_add rfl rfl rfl)
         refine Xv ?_
         refine Xw ?_ (v := .pointer (some ⟨p8_40, 0 + i, none⟩)) (hv := fun _ _ => run_ixarr (m := 80) (by decide) (by omega) Tryd.underlying118 (by kernel_rfl) rfl rfl rfl)
         refine Xc ?_ (v := .int .u64 ((sch (bt (List.drop (128 * j) (pad l))) 80) i)) (blk_rd k_t8) (hj := by rw [Nat.zero_add]; exact arrK_get _ _ _ _ (by omega))
         refine Xw ?_ (v := .int .u64 (rT kf (sch (bt (List.drop (128 * j) (pad l))) 80) i (rnds kf (sch (bt (List.drop (128 * j) (pad l))) 80) (Hs (pad l) j) i)))
         refine Xv ?_
         refine wpX_nil ?_
         intro β W45 hE hN hD
         clear hN hD
         simp only [putAll, Act.put, mA, mB, mC, List.drop_succ_cons, List.drop_zero, List.drop_nil, List.length_nil, Nat.add_zero]
         have hO := off_ext hE
         replace k_t6 := k_t6.o hO
         replace k_t8 := k_t8.o hO
         replace k_t13 := k_t13.o hO
         replace ow_b := Owz.off ow_b hO f0
         replace off0 := off0.o hO
         clear hO hE β
         refine LN ?_
         go_upto_region 31 with fail
         refine wp_region_xn 30 [] (by kernel_rfl) (fun x hx => by cases hx) (by kernel_rfl) ?_
         simp only [List.take_succ_cons, List.take_zero, List.take_nil]
         (try simp only [Act.put, mA, mB, mC])
         refine Xw ?_ (v := .pointer (some ⟨p13_42, 0 + 0, none⟩)) (hv := fun _ _ => run_ixarr (m := 8) (by decide) (by omega) Tryd.underlying113 (by kernel_rfl) rfl rfl rfl)
         refine Xc ?_ (v := .int .u64 ((rnds kf (sch (bt (List.drop (128 * j) (pad l))) 80) (Hs (pad l) j) i) 0)) (blk_rd k_t13) (hj := by rw [Nat.zero_add]; exact arrK_get _ _ _ _ (by omega))
         refine Xf ?_ (fun W hW => rturn_c ((rnds kf (sch (bt (List.drop (128 * j) (pad l))) 80) (Hs (pad l) j) i) 0) 28 (by decide) (by decide) W)
         refine Xw ?_ (v := .pointer (some ⟨p13_42, 0 + 0, none⟩)) (hv := fun _ _ => run_ixarr (m := 8) (by decide) (by omega) Tryd.underlying113 (by kernel_rfl) rfl rfl rfl)
         refine Xc ?_ (v := .int .u64 ((rnds kf (sch (bt (List.drop (128 * j) (pad l))) 80) (Hs (pad l) j) i) 0)) (blk_rd k_t13) (hj := by rw [Nat.zero_add]; exact arrK_get _ _ _ _ (by omega))
         refine Xf ?_ (fun W hW => rturn_c ((rnds kf (sch (bt (List.drop (128 * j) (pad l))) 80) (Hs (pad l) j) i) 0) 34 (by decide) (by decide) W)
         refine Xw ?_ (v := .int .u64 (xo (rt ((rnds kf (sch (bt (List.drop (128 * j) (pad l))) 80) (Hs (pad l) j) i) 0) 28) (rt ((rnds kf (sch (bt (List.drop (128 * j) (pad l))) 80) (Hs (pad l) j) i) 0) 34))) (hv := fun _ _ => run_xor rfl rfl rfl)
         refine Xw ?_ (v := .pointer (some ⟨p13_42, 0 + 0, none⟩)) (hv := fun _ _ => run_ixarr (m := 8) (by decide) (by omega) Tryd.underlying113 (by kernel_rfl) rfl rfl rfl)
         refine Xc ?_ (v := .int .u64 ((rnds kf (sch (bt (List.drop (128 * j) (pad l))) 80) (Hs (pad l) j) i) 0)) (blk_rd k_t13) (hj := by rw [Nat.zero_add]; exact arrK_get _ _ _ _ (by omega))
         refine Xf ?_ (fun W hW => rturn_c ((rnds kf (sch (bt (List.drop (128 * j) (pad l))) 80) (Hs (pad l) j) i) 0) 39 (by decide) (by decide) W)
         refine Xw ?_ (v := .int .u64 (xo (xo (rt ((rnds kf (sch (bt (List.drop (128 * j) (pad l))) 80) (Hs (pad l) j) i) 0) 28) (rt ((rnds kf (sch (bt (List.drop (128 * j) (pad l))) 80) (Hs (pad l) j) i) 0) 34)) (rt ((rnds kf (sch (bt (List.drop (128 * j) (pad l))) 80) (Hs (pad l) j) i) 0) 39))) (hv := fun _ _ => run_xor rfl rfl rfl)
         refine Xw ?_ (v := .pointer (some ⟨p13_42, 0 + 0, none⟩)) (hv := fun _ _ => run_ixarr (m := 8) (by decide) (by omega) Tryd.underlying113 (by kernel_rfl) rfl rfl rfl)
         refine Xc ?_ (v := .int .u64 ((rnds kf (sch (bt (List.drop (128 * j) (pad l))) 80) (Hs (pad l) j) i) 0)) (blk_rd k_t13) (hj := by rw [Nat.zero_add]; exact arrK_get _ _ _ _ (by omega))
         refine Xw ?_ (v := .pointer (some ⟨p13_42, 0 + 1, none⟩)) (hv := fun _ _ => run_ixarr (m := 8) (by decide) (by omega) Tryd.underlying113 (by kernel_rfl) rfl rfl rfl)
         refine Xc ?_ (v := .int .u64 ((rnds kf (sch (bt (List.drop (128 * j) (pad l))) 80) (Hs (pad l) j) i) 1)) (blk_rd k_t13) (hj := by rw [Nat.zero_add]; exact arrK_get _ _ _ _ (by omega))
         refine Xw ?_ (v := .int .u64 (an ((rnds kf (sch (bt (List.drop (128 * j) (pad l))) 80) (Hs (pad l) j) i) 0) ((rnds kf (sch (bt (List.drop (128 * j) (pad l))) 80) (Hs (pad l) j) i) 1))) (hv := fun _ _ => run_and rfl rfl rfl)
         refine Xw ?_ (v := .pointer (some ⟨p13_42, 0 + 0, none⟩)) (hv := fun _ _ => run_ixarr (m := 8) (by decide) (by omega) Tryd.underlying113 (by kernel_rfl) rfl rfl rfl)
         refine Xc ?_ (v := .int .u64 ((rnds kf (sch (bt (List.drop (128 * j) (pad l))) 80) (Hs (pad l) j) i) 0)) (blk_rd k_t13) (hj := by rw [Nat.zero_add]; exact arrK_get _ _ _ _ (by omega))
         refine Xw ?_ (v := .pointer (some ⟨p13_42, 0 + 2, none⟩)) (hv := fun _ _ => run_ixarr (m := 8) (by decide) (by omega) Tryd.underlying113 (by kernel_rfl) rfl rfl rfl)
         refine Xc ?_ (v := .int .u64 ((rnds kf (sch (bt (List.drop (128 * j) (pad l))) 80) (Hs (pad l) j) i) 2)) (blk_rd k_t13) (hj := by rw [Nat.zero_add]; exact arrK_get _ _ _ _ (by omega))
         refine Xw ?_ (v := .int .u64 (an ((rnds kf (sch (bt (List.drop (128 * j) (pad l))) 80) (Hs (pad l) j) i) 0) ((rnds kf (sch (bt (List.drop (128 * j) (pad l))) 80) (Hs (pad l) j) i) 2))) (hv := fun _ _ => run_and rfl rfl rfl)
         refine Xw ?_ (v := .int .u64 (xo (an ((rnds kf (sch (bt (List.drop (128 * j) (pad l))) 80) (Hs (pad l) j) i) 0) ((rnds kf (sch (bt (List.drop (128 * j) (pad l))) 80) (Hs (pad l) j) i) 1)) (an ((rnds kf (sch (bt (List.drop (128 * j) (pad l))) 80) (Hs (pad l) j) i) 0) ((rnds kf (sch (bt (List.drop (128 * j) (pad l))) 80) (Hs (pad l) j) i) 2)))) (hv := fun _ _ => run_xor rfl rfl rfl)
         refine Xw ?_ (v := .pointer (some ⟨p13_42, 0 + 1, none⟩)) (hv := fun _ _ => run_ixarr (m := 8) (by decide) (by omega) Tryd.underlying113 (by kernel_rfl) rfl rfl rfl)
         refine Xc ?_ (v := .int .u64 ((rnds kf (sch (bt (List.drop (128 * j) (pad l))) 80) (Hs (pad l) j) i) 1)) (blk_rd k_t13) (hj := by rw [Nat.zero_add]; exact arrK_get _ _ _ _ (by omega))
         refine Xw ?_ (v := .pointer (some ⟨p13_42, 0 + 2, none⟩)) (hv := fun _ _ => run_ixarr (m := 8) (by decide) (by omega) Tryd.underlying113 (by kernel_rfl) rfl rfl rfl)
         refine Xc ?_ (v := .int .u64 ((rnds kf (sch (bt (List.drop (128 * j) (pad l))) 80) (Hs (pad l) j) i) 2)) (blk_rd k_t13) (hj := by rw [Nat.zero_add]; exact arrK_get _ _ _ _ (by omega))
         refine Xw ?_ (v := .int .u64 (an ((rnds kf (sch (bt (List.drop (128 * j) (pad l))) 80) (Hs (pad l) j) i) 1) ((rnds kf (sch (bt (List.drop (128 * j) (pad l))) 80) (Hs (pad l) j) i) 2))) (hv := fun _ _ => run_and rfl rfl rfl)
         refine Xw ?_ (v := .int .u64 (xo (xo (an ((rnds kf (sch (bt (List.drop (128 * j) (pad l))) 80) (Hs (pad l) j) i) 0) ((rnds kf (sch (bt (List.drop (128 * j) (pad l))) 80) (Hs (pad l) j) i) 1)) (an ((rnds kf (sch (bt (List.drop (128 * j) (pad l))) 80) (Hs (pad l) j) i) 0) ((rnds kf (sch (bt (List.drop (128 * j) (pad l))) 80) (Hs (pad l) j) i) 2))) (an ((rnds kf (sch (bt (List.drop (128 * j) (pad l))) 80) (Hs (pad l) j) i) 1) ((rnds kf (sch (bt (List.drop (128 * j) (pad l))) 80) (Hs (pad l) j) i) 2)))) (hv := fun _ _ => run_xor rfl rfl rfl)
         refine Xw ?_ (v := .int .u64 (rU (rnds kf (sch (bt (List.drop (128 * j) (pad l))) 80) (Hs (pad l) j) i)))
         refine Xv ?_
         refine wpX_nil ?_
         intro β W46 hE hN hD
         clear hN hD
         simp only [putAll, Act.put, mA, mB, mC, List.drop_succ_cons, List.drop_zero, List.drop_nil, List.length_nil, Nat.add_zero]
         have hO := off_ext hE
         replace k_t6 := k_t6.o hO
         replace k_t8 := k_t8.o hO
         replace k_t13 := k_t13.o hO
         replace ow_b := Owz.off ow_b hO f0
         replace off0 := off0.o hO
         clear hO hE β
         refine LN ?_
         go_upto_region 32 with fail
         refine wp_region_lit ?_
         refine Lv ?_
         refine Lv ?_
         refine Lw ?_ (v := .int .u64 (ad (rT kf (sch (bt (List.drop (128 * j) (pad l))) 80) i (rnds kf (sch (bt (List.drop (128 * j) (pad l))) 80) (Hs (pad l) j) i)) (rU (rnds kf (sch (bt (List.drop (128 * j) (pad l))) 80) (Hs (pad l) j) i)))) (hv := run_add rfl rfl rfl)
         refine Lw ?_ (v := .pointer (some ⟨p13_42, 0 + 0, none⟩)) (hv := run_ixarr (m := 8) (by decide) (by omega) Tryd.underlying113 (by kernel_rfl) rfl rfl rfl)
         refine Lg ?_ k_t13 (v := .int .u64 ((rnds kf (sch (bt (List.drop (128 * j) (pad l))) 80) (Hs (pad l) j) i) 0)) (hj := by rw [Nat.zero_add]; exact arrK_get _ _ _ _ (by omega))
         refine Lw ?_ (v := .pointer (some ⟨p13_42, 0 + 1, none⟩)) (hv := run_ixarr (m := 8) (by decide) (by omega) Tryd.underlying113 (by kernel_rfl) rfl rfl rfl)
         refine Lg ?_ k_t13 (v := .int .u64 ((rnds kf (sch (bt (List.drop (128 * j) (pad l))) 80) (Hs (pad l) j) i) 1)) (hj := by rw [Nat.zero_add]; exact arrK_get _ _ _ _ (by omega))
         refine Lw ?_ (v := .pointer (some ⟨p13_42, 0 + 2, none⟩)) (hv := run_ixarr (m := 8) (by decide) (by omega) Tryd.underlying113 (by kernel_rfl) rfl rfl rfl)
         refine Lg ?_ k_t13 (v := .int .u64 ((rnds kf (sch (bt (List.drop (128 * j) (pad l))) 80) (Hs (pad l) j) i) 2)) (hj := by rw [Nat.zero_add]; exact arrK_get _ _ _ _ (by omega))
         refine Lw ?_ (v := .pointer (some ⟨p13_42, 0 + 3, none⟩)) (hv := run_ixarr (m := 8) (by decide) (by omega) Tryd.underlying113 (by kernel_rfl) rfl rfl rfl)
         refine Lg ?_ k_t13 (v := .int .u64 ((rnds kf (sch (bt (List.drop (128 * j) (pad l))) 80) (Hs (pad l) j) i) 3)) (hj := by rw [Nat.zero_add]; exact arrK_get _ _ _ _ (by omega))
         refine Lv ?_
         refine Lw ?_ (v := .int .u64 (ad ((rnds kf (sch (bt (List.drop (128 * j) (pad l))) 80) (Hs (pad l) j) i) 3) (rT kf (sch (bt (List.drop (128 * j) (pad l))) 80) i (rnds kf (sch (bt (List.drop (128 * j) (pad l))) 80) (Hs (pad l) j) i)))) (hv := run_add rfl rfl rfl)
         refine Lw ?_ (v := .pointer (some ⟨p13_42, 0 + 4, none⟩)) (hv := run_ixarr (m := 8) (by decide) (by omega) Tryd.underlying113 (by kernel_rfl) rfl rfl rfl)
         refine Lg ?_ k_t13 (v := .int .u64 ((rnds kf (sch (bt (List.drop (128 * j) (pad l))) 80) (Hs (pad l) j) i) 4)) (hj := by rw [Nat.zero_add]; exact arrK_get _ _ _ _ (by omega))
         refine Lw ?_ (v := .pointer (some ⟨p13_42, 0 + 5, none⟩)) (hv := run_ixarr (m := 8) (by decide) (by omega) Tryd.underlying113 (by kernel_rfl) rfl rfl rfl)
         refine Lg ?_ k_t13 (v := .int .u64 ((rnds kf (sch (bt (List.drop (128 * j) (pad l))) 80) (Hs (pad l) j) i) 5)) (hj := by rw [Nat.zero_add]; exact arrK_get _ _ _ _ (by omega))
         refine Lw ?_ (v := .pointer (some ⟨p13_42, 0 + 6, none⟩)) (hv := run_ixarr (m := 8) (by decide) (by omega) Tryd.underlying113 (by kernel_rfl) rfl rfl rfl)
         refine Lg ?_ k_t13 (v := .int .u64 ((rnds kf (sch (bt (List.drop (128 * j) (pad l))) 80) (Hs (pad l) j) i) 6)) (hj := by rw [Nat.zero_add]; exact arrK_get _ _ _ _ (by omega))
         refine Lw ?_ (v := .agg (arrK .u64 8 (rnds kf (sch (bt (List.drop (128 * j) (pad l))) 80) (Hs (pad l) j) (i + 1)))) (hv := by first | rfl | (go_simp; rfl))
         refine Lp ?_ k_t13 (cells := arrK .u64 8 (rnds kf (sch (bt (List.drop (128 * j) (pad l))) 80) (Hs (pad l) j) (i + 1))) (hi := by rw [arrK_size]; kernel_rfl) (hs := by rw [arrK_size, arrK_size]) (h1 := by exact arrK_one _ _ _)
         intro W47 hO h_
         replace k_t13 : Blk W47 p13_42 (arrK .u64 8 (rnds kf (sch (bt (List.drop (128 * j) (pad l))) 80) (Hs (pad l) j) (i + 1))) 113 := h_
         clear h_
         replace k_t6 := k_t6.p hO nq_t6_t13
         replace k_t8 := k_t8.p hO nq_t8_t13
         replace ow_b := Owz.off ow_b hO (f1 ne_b_t13)
         replace off0 := off0.p hO fb_t13
         clear hO
         refine wpL_nil ?_
         go_wp2
         go_roundw
         case rel => exact ⟨i + 1, by omega, by go_num, off0, k_t6, k_t8, k_t13, ow_b⟩
         case measure => simp [intOf]; omega
        ·
         have _f := h80
         obtain rfl : i = 80 := by omega
         go_upto_region 28 with fail
         refine wp_region_lit ?_
         refine Lv ?_
         refine Lw ?_ (v := .bool false)
         refine wpL_nil ?_
         go_wp2_with fail
         go_loopw [17] (fun ii wr => ∃ (i : Nat), (i ≤ 8) ∧ (ii = .int .i64 (i : Int)) ∧ Off [] w wr ∧ Blk wr p6_37 (arrK .u64 8 (mx (Hs (pad l) j) (rnds kf (sch (bt (List.drop (128 * j) (pad l))) 80) (Hs (pad l) j) 80) i)) 113 ∧ Blk wr p8_40 (arrK .u64 80 (sch (bt (List.drop (128 * j) (pad l))) 80)) 118 ∧ Blk wr p13_42 (arrK .u64 8 (rnds kf (sch (bt (List.drop (128 * j) (pad l))) 80) (Hs (pad l) j) 80)) 113 ∧ Owz wr v50_36 (pad l))
          (fun ii _ => 8 - (intOf ii).toNat)
         case atStart => exact ⟨0, Nat.zero_le _, rfl, off0, (by rw [mx_zero]; exact k_t6), k_t8, k_t13, ow_b⟩
         case round =>
          obtain ⟨i, hi, rfl, off0, k_t6, k_t8, k_t13, ow_b⟩ := hrel
          obtain ⟨W45, eW_⟩ := wname off0
          subst eW_
          by_cases h8 : i < 8
          ·
           have _f := h8
           go_upto_region 34 with fail
           refine wp_region_lit ?_
           refine Lv ?_
           refine Lw ?_ (v := .bool true)
           refine wpL_nil ?_
           go_upto_region 36 with fail
           refine wp_region_xn 9 [] (by kernel_rfl) (fun x hx => by cases hx) (by kernel_rfl) ?_
           simp only [List.take_succ_cons, List.take_zero, List.take_nil]
           (try simp only [Act.put, mA, mB, mC])
           refine Xv ?_
           refine Xv ?_
           refine Xw ?_ (v := .pointer (some ⟨p6_37, 0 + i, none⟩)) (hv := fun _ _ => run_ixarr (m := 8) (by decide) (by omega) Tryd.underlying113 (by kernel_rfl) rfl rfl rfl)
           refine Xc ?_ (v := .int .u64 ((mx (Hs (pad l) j) (rnds kf (sch (bt (List.drop (128 * j) (pad l))) 80) (Hs (pad l) j) 80) i) i)) (blk_rd k_t6) (hj := by rw [Nat.zero_add]; exact arrK_get _ _ _ _ (by omega))
           refine Xv ?_
           refine Xw ?_ (v := .pointer (some ⟨p13_42, 0 + i, none⟩)) (hv := fun _ _ => run_ixarr (m := 8) (by decide) (by omega) Tryd.underlying113 (by kernel_rfl) rfl rfl rfl)
           refine Xc ?_ (v := .int .u64 ((rnds kf (sch (bt (List.drop (128 * j) (pad l))) 80) (Hs (pad l) j) 80) i)) (blk_rd k_t13) (hj := by rw [Nat.zero_add]; exact arrK_get _ _ _ _ (by omega))
           refine Xw ?_ (v := .int .u64 (ad ((mx (Hs (pad l) j) (rnds kf (sch (bt (List.drop (128 * j) (pad l))) 80) (Hs (pad l) j) 80) i) i) ((rnds kf (sch (bt (List.drop (128 * j) (pad l))) 80) (Hs (pad l) j) 80) i))) (hv := fun _ _ => run_add rfl rfl rfl)
           refine Xw ?_ (v := .pointer (some ⟨p6_37, 0 + i, none⟩)) (hv := fun _ _ => run_ixarr (m := 8) (by decide) (by omega) Tryd.underlying113 (by kernel_rfl) rfl rfl rfl)
           refine wpX_nil ?_
           intro β W46 hE hN hD
           clear hN hD
           simp only [putAll, Act.put, mA, mB, mC, List.drop_succ_cons, List.drop_zero, List.drop_nil, List.length_nil, Nat.add_zero]
           have hO := off_ext hE
           replace k_t6 := k_t6.o hO
           replace k_t8 := k_t8.o hO
           replace k_t13 := k_t13.o hO
           replace ow_b := Owz.off ow_b hO f0
           replace off0 := off0.o hO
           clear hO hE β
           refine wpL_put1 (v := .int .u64 (ad ((mx (Hs (pad l) j) (rnds kf (sch (bt (List.drop (128 * j) (pad l))) 80) (Hs (pad l) j) 80) i) i) ((rnds kf (sch (bt (List.drop (128 * j) (pad l))) 80) (Hs (pad l) j) 80) i))) ⟨rfl, rfl⟩ (by rfl) rfl rfl rfl k_t6 (by rw [arrK_size, Nat.zero_add]; omega) (by kernel_rfl) ?_
           (try simp only [Act.put, mA, mB, mC])
           intro W47 hO h_
           rw [Nat.zero_add, arrK_set] at h_
           replace k_t6 : Blk W47 p6_37 (arrK .u64 8 (upd (mx (Hs (pad l) j) (rnds kf (sch (bt (List.drop (128 * j) (pad l))) 80) (Hs (pad l) j) 80) i) i (ad ((mx (Hs (pad l) j) (rnds kf (sch (bt (List.drop (128 * j) (pad l))) 80) (Hs (pad l) j) 80) i) i) ((rnds kf (sch (bt (List.drop (128 * j) (pad l))) 80) (Hs (pad l) j) 80) i)))) 113 := h_
           clear h_
           replace k_t8 := k_t8.p hO nq_t6_t8.symm
           replace k_t13 := k_t13.p hO nq_t6_t13.symm
           replace ow_b := Owz.off ow_b hO (f1 ne_b_t6)
           replace off0 := off0.p hO fb_t6
           clear hO
           refine LN ?_
           go_wp2
           go_roundw
           case rel => exact ⟨i + 1, by omega, by go_num, off0, (by rw [← mx_step]; exact k_t6), k_t8, k_t13, ow_b⟩
           case measure => simp [intOf]; omega
          ·
           have _f := h8
           obtain rfl : i = 8 := by omega
           rw [mx_end] at k_t6
           go_upto_region 34 with fail
           refine wp_region_lit ?_
           refine Lv ?_
           refine Lw ?_ (v := .bool false)
           refine wpL_nil ?_
           go_wp2
           go_roundw
           case rel => exact ⟨j + 1, by omega, by first | go_num | (go_simp; omega), off0, k_t6, ow_b⟩
           case measure => simp [intOf]; omega
    ·
     have _f := hjl
     obtain rfl : j = nb l.length := by omega
     go_upto_region 13 with fail
     refine wp_region_lit ?_
     refine Lv ?_
     refine Lv ?_
     refine wpL_len (l := (pad l)) (ow_b.sl) (by rfl) rfl rfl ?_
     (try simp only [Act.put, mA, mB, mC])
     refine Lw ?_ (v := .bool false) (hv := by first | (go_simp; done) | (go_simp; (try simp only [hpl]); omega))
     refine wpL_nil ?_
     go_upto_region 37 with fail
     refine wp_region_lit ?_
     refine LnS ?_ (z := #[]) (t := 5) (n := 0) (c := 0)
     intro p224_40 W40 n_s224 hO h_
     have ne_s224_t6 : Value.ownBlock (.slice (some ⟨p224_40, 0, none⟩) 0 0) ≠ some p6_37 := obn k_t6 n_s224
     have fr_s224 : Fr (Value.ownBlock (.slice (some ⟨p224_40, 0, none⟩) 0 0)) w.heap.size [] := frn off0 n_s224
     replace k_t6 := k_t6.o hO
     replace ow_b := Owz.off ow_b hO f0
     replace off0 := off0.o hO
     have ow_s224 : Own W40 (.slice (some ⟨p224_40, 0, none⟩) 0 0) [] := own_blk h_ (by rfl) (by show 0 ≤ maxLen; decide)
     clear hO h_ n_s224
     refine Lv ?_
     refine wpL_nil ?_
     clear ow_b fr_b ne_b_t6
     have ow_b := ow_s224
     clear ow_s224
     have fr_b := fr_s224
     have ne_b_t6 := ne_s224_t6
     go_wp2_with fail
     go_loopw [18, 19] (fun sv ii wr => ∃ (i : Nat) (bv : Value), (i ≤ 8) ∧ (bv = sv) ∧ (ii = .int .i64 (i : Int)) ∧ Off [] w wr ∧ Blk wr p6_37 (arrK .u64 8 (Hs (pad l) (nb l.length))) 113 ∧ Own wr bv (wb (Hs (pad l) (nb l.length)) (8 * i)) ∧ Fr (Value.ownBlock bv) w.heap.size [] ∧ (Value.ownBlock bv) ≠ some p6_37)
      (fun sv ii _ => 8 - (intOf ii).toNat)
     case atStart => exact ⟨0, _, Nat.zero_le _, rfl, rfl, off0, k_t6, ow_b, fr_b, ne_b_t6⟩
     case round =>
      obtain ⟨i, bv, hi, rfl, rfl, off0, k_t6, ow_b, fr_b, ne_b_t6⟩ := hrel
      obtain ⟨W41, eW_⟩ := wname off0
      subst eW_
      by_cases h8 : i < 8
      ·
       have _f := h8
       go_upto_region 39 with fail
       refine wp_region_lit ?_
       refine Lv ?_
       refine Lw ?_ (v := .bool true)
       refine wpL_nil ?_
       go_wp2_with fail
       refine wp_loop_rounds 9 ?_
       rw [rounds_succ]
       go_upto_region 44 with fail
       refine wp_region_lit ?_
       refine Lv ?_
       refine Lv ?_
       refine Lw ?_ (v := .pointer (some ⟨p6_37, 0 + i, none⟩)) (hv := run_ixarr (m := 8) (by decide) (by omega) Tryd.underlying113 (by kernel_rfl) rfl rfl rfl)
       refine Lg ?_ k_t6 (v := .int .u64 ((Hs (pad l) (nb l.length)) i)) (hj := by rw [Nat.zero_add]; exact arrK_get _ _ _ _ (by omega))
       refine Lw ?_ (v := .int .i64 56)
       refine Lw ?_ (v := .int .u64 (sr ((Hs (pad l) (nb l.length)) i) 56)) (hv := run_shr (n := 56) (by decide) rfl rfl rfl)
       refine Lw ?_ (v := .int .u8 ((bo (Hs (pad l) (nb l.length)) (8 * i + 0)).toNat : Int)) (hv := by rw [← bo_cast _ i 0 (by decide)]; exact run_c8 rfl rfl)
       refine LnS ?_ (z := #[.int .u8 ((bo (Hs (pad l) (nb l.length)) (8 * i + 0)).toNat : Int)]) (t := 5) (n := 1) (c := 1)
       intro p240_42 W42 n_s240 hO h_
       have dj_b_s240 : ∀ x, (Value.ownBlock bv) = some x → Value.ownBlock (.slice (some ⟨p240_42, 0, none⟩) 1 1) ≠ some x := dj_new (Own.lt ow_b) n_s240
       replace k_t6 := k_t6.o hO
       replace ow_b := Own.off ow_b hO f0
       replace off0 := off0.o hO
       have ow_s240 : Own W42 (.slice (some ⟨p240_42, 0, none⟩) 1 1) [bo (Hs (pad l) (nb l.length)) (8 * i + 0)] := own_blk h_ (by rfl) (by show 1 ≤ maxLen; decide)
       clear hO h_ n_s240
       refine wpL_append (xs := (wb (Hs (pad l) (nb l.length)) (8 * i))) (ys := [bo (Hs (pad l) (nb l.length)) (8 * i + 0)]) (by rfl) rfl rfl rfl ow_b (ow_s240.sl) (by first | omega | (simp only [List.length_append, List.length_cons, List.length_nil, List.length_replicate, wb_length]; omega)) ?_
       (try simp only [Act.put, mA, mB, mC])
       intro v241_43 W43 ow_a241 hO at_a241 nil_a241
       clear nil_a241
       have ne_a241_t6 := own_ne at_a241 ne_b_t6 (blk_lt k_t6)
       have dj_a241_s240 := own_dj at_a241 dj_b_s240 (Own.lt ow_s240)
       have fr_a241 := own_fr at_a241 fr_b off0.size
       replace k_t6 := blk_off k_t6 hO (nmo ne_b_t6)
       replace ow_s240 := Own.off ow_s240 hO (fo dj_b_s240)
       replace off0 := off0.step hO (io fr_b)
       clear hO at_a241
       have ow_b := ow_a241
       clear ow_a241
       have fr_b := fr_a241
       have ne_b_t6 := ne_a241_t6
       have dj_b_s240 := dj_a241_s240
       refine Lv ?_
       refine wpL_nil ?_
       go_wp2_with fail
       rw [rounds_succ]
       go_upto_region 44 with fail
       refine wp_region_lit ?_
       refine Lv ?_
       refine Lv ?_
       refine Lw ?_ (v := .pointer (some ⟨p6_37, 0 + i, none⟩)) (hv := run_ixarr (m := 8) (by decide) (by omega) Tryd.underlying113 (by kernel_rfl) rfl rfl rfl)
       refine Lg ?_ k_t6 (v := .int .u64 ((Hs (pad l) (nb l.length)) i)) (hj := by rw [Nat.zero_add]; exact arrK_get _ _ _ _ (by omega))
       refine Lw ?_ (v := .int .i64 48)
       refine Lw ?_ (v := .int .u64 (sr ((Hs (pad l) (nb l.length)) i) 48)) (hv := run_shr (n := 48) (by decide) rfl rfl rfl)
       refine Lw ?_ (v := .int .u8 ((bo (Hs (pad l) (nb l.length)) (8 * i + 1)).toNat : Int)) (hv := by rw [← bo_cast _ i 1 (by decide)]; exact run_c8 rfl rfl)
       clear ow_s240 dj_b_s240
       refine LnS ?_ (z := #[.int .u8 ((bo (Hs (pad l) (nb l.length)) (8 * i + 1)).toNat : Int)]) (t := 5) (n := 1) (c := 1)
       intro p240_44 W44 n_s240 hO h_
       have dj_b_s240 : ∀ x, (Value.ownBlock v241_43) = some x → Value.ownBlock (.slice (some ⟨p240_44, 0, none⟩) 1 1) ≠ some x := dj_new (Own.lt ow_b) n_s240
       replace k_t6 := k_t6.o hO
       replace ow_b := Own.off ow_b hO f0
       replace off0 := off0.o hO
       have ow_s240 : Own W44 (.slice (some ⟨p240_44, 0, none⟩) 1 1) [bo (Hs (pad l) (nb l.length)) (8 * i + 1)] := own_blk h_ (by rfl) (by show 1 ≤ maxLen; decide)
       clear hO h_ n_s240
       refine wpL_append (xs := ((wb (Hs (pad l) (nb l.length)) (8 * i)) ++ [bo (Hs (pad l) (nb l.length)) (8 * i + 0)])) (ys := [bo (Hs (pad l) (nb l.length)) (8 * i + 1)]) (by rfl) rfl rfl rfl ow_b (ow_s240.sl) (by first | omega | (simp only [List.length_append, List.length_cons, List.length_nil, List.length_replicate, wb_length]; omega)) ?_
       (try simp only [Act.put, mA, mB, mC])
       intro v241_45 W45 ow_a241 hO at_a241 nil_a241
       clear nil_a241
       have ne_a241_t6 := own_ne at_a241 ne_b_t6 (blk_lt k_t6)
       have dj_a241_s240 := own_dj at_a241 dj_b_s240 (Own.lt ow_s240)
       have fr_a241 := own_fr at_a241 fr_b off0.size
       replace k_t6 := blk_off k_t6 hO (nmo ne_b_t6)
       replace ow_s240 := Own.off ow_s240 hO (fo dj_b_s240)
       replace off0 := off0.step hO (io fr_b)
       clear hO at_a241
       have ow_b := ow_a241
       clear ow_a241
       have fr_b := fr_a241
       have ne_b_t6 := ne_a241_t6
       have dj_b_s240 := dj_a241_s240
       refine Lv ?_
       refine wpL_nil ?_
       go_wp2_with fail
       rw [rounds_succ]
       go_upto_region 44 with fail
       refine wp_region_lit ?_
       refine Lv ?_
       refine Lv ?_
       refine Lw ?_ (v := .pointer (some ⟨p6_37, 0 + i, none⟩)) (hv := run_ixarr (m := 8) (by decide) (by omega) Tryd.underlying113 (by kernel_rfl) rfl rfl rfl)
       refine Lg ?_ k_t6 (v := .int .u64 ((Hs (pad l) (nb l.length)) i)) (hj := by rw [Nat.zero_add]; exact arrK_get _ _ _ _ (by omega))
       refine Lw ?_ (v := .int .i64 40)
       refine Lw ?_ (v := .int .u64 (sr ((Hs (pad l) (nb l.length)) i) 40)) (hv := run_shr (n := 40) (by decide) rfl rfl rfl)
       refine Lw ?_ (v := .int .u8 ((bo (Hs (pad l) (nb l.length)) (8 * i + 2)).toNat : Int)) (hv := by rw [← bo_cast _ i 2 (by decide)]; exact run_c8 rfl rfl)
       clear ow_s240 dj_b_s240
       refine LnS ?_ (z := #[.int .u8 ((bo (Hs (pad l) (nb l.length)) (8 * i + 2)).toNat : Int)]) (t := 5) (n := 1) (c := 1)
       intro p240_46 W46 n_s240 hO h_
       have dj_b_s240 : ∀ x, (Value.ownBlock v241_45) = some x → Value.ownBlock (.slice (some ⟨p240_46, 0, none⟩) 1 1) ≠ some x := dj_new (Own.lt ow_b) n_s240
       replace k_t6 := k_t6.o hO
       replace ow_b := Own.off ow_b hO f0
       replace off0 := off0.o hO
       have ow_s240 : Own W46 (.slice (some ⟨p240_46, 0, none⟩) 1 1) [bo (Hs (pad l) (nb l.length)) (8 * i + 2)] := own_blk h_ (by rfl) (by show 1 ≤ maxLen; decide)
       clear hO h_ n_s240
       refine wpL_append (xs := (((wb (Hs (pad l) (nb l.length)) (8 * i)) ++ [bo (Hs (pad l) (nb l.length)) (8 * i + 0)]) ++ [bo (Hs (pad l) (nb l.length)) (8 * i + 1)])) (ys := [bo (Hs (pad l) (nb l.length)) (8 * i + 2)]) (by rfl) rfl rfl rfl ow_b (ow_s240.sl) (by first | omega | (simp only [List.length_append, List.length_cons, List.length_nil, List.length_replicate, wb_length]; omega)) ?_
       (try simp only [Act.put, mA, mB, mC])
       intro v241_47 W47 ow_a241 hO at_a241 nil_a241
       clear nil_a241
       have ne_a241_t6 := own_ne at_a241 ne_b_t6 (blk_lt k_t6)
       have dj_a241_s240 := own_dj at_a241 dj_b_s240 (Own.lt ow_s240)
       have fr_a241 := own_fr at_a241 fr_b off0.size
       replace k_t6 := blk_off k_t6 hO (nmo ne_b_t6)
       replace ow_s240 := Own.off ow_s240 hO (fo dj_b_s240)
       replace off0 := off0.step hO (io fr_b)
       clear hO at_a241
       have ow_b := ow_a241
       clear ow_a241
       have fr_b := fr_a241
       have ne_b_t6 := ne_a241_t6
       have dj_b_s240 := dj_a241_s240
       refine Lv ?_
       refine wpL_nil ?_
       go_wp2_with fail
       rw [rounds_succ]
       go_upto_region 44 with fail
       refine wp_region_lit ?_
       refine Lv ?_
       refine Lv ?_
       refine Lw ?_ (v := .pointer (some ⟨p6_37, 0 + i, none⟩)) (hv := run_ixarr (m := 8) (by decide) (by omega) Tryd.underlying113 (by kernel_rfl) rfl rfl rfl)
       refine Lg ?_ k_t6 (v := .int .u64 ((Hs (pad l) (nb l.length)) i)) (hj := by rw [Nat.zero_add]; exact arrK_get _ _ _ _ (by omega))
       refine Lw ?_ (v := .int .i64 32)
       refine Lw ?_ (v := .int .u64 (sr ((Hs (pad l) (nb l.length)) i) 32)) (hv := run_shr (n := 32) (by decide) rfl rfl rfl)
       refine Lw ?_ (v := .int .u8 ((bo (Hs (pad l) (nb l.length)) (8 * i + 3)).toNat : Int)) (hv := by rw [← bo_cast _ i 3 (by decide)]; exact run_c8 rfl rfl)
       clear ow_s240 dj_b_s240
       refine LnS ?_ (z := #[.int .u8 ((bo (Hs (pad l) (nb l.length)) (8 * i + 3)).toNat : Int)]) (t := 5) (n := 1) (c := 1)
       intro p240_48 W48 n_s240 hO h_
       have dj_b_s240 : ∀ x, (Value.ownBlock v241_47) = some x → Value.ownBlock (.slice (some ⟨p240_48, 0, none⟩) 1 1) ≠ some x := dj_new (Own.lt ow_b) n_s240
       replace k_t6 := k_t6.o hO
       replace ow_b := Own.off ow_b hO f0
       replace off0 := off0.o hO
       have ow_s240 : Own W48 (.slice (some ⟨p240_48, 0, none⟩) 1 1) [bo (Hs (pad l) (nb l.length)) (8 * i + 3)] := own_blk h_ (by rfl) (by show 1 ≤ maxLen; decide)
       clear hO h_ n_s240
       refine wpL_append (xs := ((((wb (Hs (pad l) (nb l.length)) (8 * i)) ++ [bo (Hs (pad l) (nb l.length)) (8 * i + 0)]) ++ [bo (Hs (pad l) (nb l.length)) (8 * i + 1)]) ++ [bo (Hs (pad l) (nb l.length)) (8 * i + 2)])) (ys := [bo (Hs (pad l) (nb l.length)) (8 * i + 3)]) (by rfl) rfl rfl rfl ow_b (ow_s240.sl) (by first | omega | (simp only [List.length_append, List.length_cons, List.length_nil, List.length_replicate, wb_length]; omega)) ?_
       (try simp only [Act.put, mA, mB, mC])
       intro v241_49 W49 ow_a241 hO at_a241 nil_a241
       clear nil_a241
       have ne_a241_t6 := own_ne at_a241 ne_b_t6 (blk_lt k_t6)
       have dj_a241_s240 := own_dj at_a241 dj_b_s240 (Own.lt ow_s240)
       have fr_a241 := own_fr at_a241 fr_b off0.size
       replace k_t6 := blk_off k_t6 hO (nmo ne_b_t6)
       replace ow_s240 := Own.off ow_s240 hO (fo dj_b_s240)
       replace off0 := off0.step hO (io fr_b)
       clear hO at_a241
       have ow_b := ow_a241
       clear ow_a241
       have fr_b := fr_a241
       have ne_b_t6 := ne_a241_t6
       have dj_b_s240 := dj_a241_s240
       refine Lv ?_
       refine wpL_nil ?_
       go_wp2_with fail
       rw [rounds_succ]
       go_upto_region 44 with fail
       refine wp_region_lit ?_
       refine Lv ?_
       refine Lv ?_
       refine Lw ?_ (v := .pointer (some ⟨p6_37, 0 + i, none⟩)) (hv := run_ixarr (m := 8) (by decide) (by omega) Tryd.underlying113 (by kernel_rfl) rfl rfl rfl)
       refine Lg ?_ k_t6 (v := .int .u64 ((Hs (pad l) (nb l.length)) i)) (hj := by rw [Nat.zero_add]; exact arrK_get _ _ _ _ (by omega))
       refine Lw ?_ (v := .int .i64 24)
       refine Lw ?_ (v := .int .u64 (sr ((Hs (pad l) (nb l.length)) i) 24)) (hv := run_shr (n := 24) (by decide) rfl rfl rfl)
       refine Lw ?_ (v := .int .u8 ((bo (Hs (pad l) (nb l.length)) (8 * i + 4)).toNat : Int)) (hv := by rw [← bo_cast _ i 4 (by decide)]; exact run_c8 rfl rfl)
       clear ow_s240 dj_b_s240
       refine LnS ?_ (z := #[.int .u8 ((bo (Hs (pad l) (nb l.length)) (8 * i + 4)).toNat : Int)]) (t := 5) (n := 1) (c := 1)
       intro p240_50 W50 n_s240 hO h_
       have dj_b_s240 : ∀ x, (Value.ownBlock v241_49) = some x → Value.ownBlock (.slice (some ⟨p240_50, 0, none⟩) 1 1) ≠ some x := dj_new (Own.lt ow_b) n_s240
       replace k_t6 := k_t6.o hO
       replace ow_b := Own.off ow_b hO f0
       replace off0 := off0.o hO
       have ow_s240 : Own W50 (.slice (some ⟨p240_50, 0, none⟩) 1 1) [bo (Hs (pad l) (nb l.length)) (8 * i + 4)] := own_blk h_ (by rfl) (by show 1 ≤ maxLen; decide)
       clear hO h_ n_s240
       refine wpL_append (xs := (((((wb (Hs (pad l) (nb l.length)) (8 * i)) ++ [bo (Hs (pad l) (nb l.length)) (8 * i + 0)]) ++ [bo (Hs (pad l) (nb l.length)) (8 * i + 1)]) ++ [bo (Hs (pad l) (nb l.length)) (8 * i + 2)]) ++ [bo (Hs (pad l) (nb l.length)) (8 * i + 3)])) (ys := [bo (Hs (pad l) (nb l.length)) (8 * i + 4)]) (by rfl) rfl rfl rfl ow_b (ow_s240.sl) (by first | omega | (simp only [List.length_append, List.length_cons, List.length_nil, List.length_replicate, wb_length]; omega)) ?_
       (try simp only [Act.put, mA, mB, mC])
       intro v241_51 W51 ow_a241 hO at_a241 nil_a241
       clear nil_a241
       have ne_a241_t6 := own_ne at_a241 ne_b_t6 (blk_lt k_t6)
       have dj_a241_s240 := own_dj at_a241 dj_b_s240 (Own.lt ow_s240)
       have fr_a241 := own_fr at_a241 fr_b off0.size
       replace k_t6 := blk_off k_t6 hO (nmo ne_b_t6)
       replace ow_s240 := Own.off ow_s240 hO (fo dj_b_s240)
       replace off0 := off0.step hO (io fr_b)
       clear hO at_a241
       have ow_b := ow_a241
       clear ow_a241
       have fr_b := fr_a241
       have ne_b_t6 := ne_a241_t6
       have dj_b_s240 := dj_a241_s240
       refine Lv ?_
       refine wpL_nil ?_
       go_wp2_with fail
       rw [rounds_succ]
       go_upto_region 44 with fail
       refine wp_region_lit ?_
       refine Lv ?_
       refine Lv ?_
       refine Lw ?_ (v := .pointer (some ⟨p6_37, 0 + i, none⟩)) (hv := run_ixarr (m := 8) (by decide) (by omega) Tryd.underlying113 (by kernel_rfl) rfl rfl rfl)
       refine Lg ?_ k_t6 (v := .int .u64 ((Hs (pad l) (nb l.length)) i)) (hj := by rw [Nat.zero_add]; exact arrK_get _ _ _ _ (by omega))
       refine Lw ?_ (v := .int .i64 16)
       refine Lw ?_ (v := .int .u64 (sr ((Hs (pad l) (nb l.length)) i) 16)) (hv := run_shr (n := 16) (by decide) rfl rfl rfl)
       refine Lw ?_ (v := .int .u8 ((bo (Hs (pad l) (nb l.length)) (8 * i + 5)).toNat : Int)) (hv := by rw [← bo_cast _ i 5 (by decide)]; exact run_c8 rfl rfl)
       clear ow_s240 dj_b_s240
       refine LnS ?_ (z := #[.int .u8 ((bo (Hs (pad l) (nb l.length)) (8 * i + 5)).toNat : Int)]) (t := 5) (n := 1) (c := 1)
       intro p240_52 W52 n_s240 hO h_
       have dj_b_s240 : ∀ x, (Value.ownBlock v241_51) = some x → Value.ownBlock (.slice (some ⟨p240_52, 0, none⟩) 1 1) ≠ some x := dj_new (Own.lt ow_b) n_s240
       replace k_t6 := k_t6.o hO
       replace ow_b := Own.off ow_b hO f0
       replace off0 := off0.o hO
       have ow_s240 : Own W52 (.slice (some ⟨p240_52, 0, none⟩) 1 1) [bo (Hs (pad l) (nb l.length)) (8 * i + 5)] := own_blk h_ (by rfl) (by show 1 ≤ maxLen; decide)
       clear hO h_ n_s240
       refine wpL_append (xs := ((((((wb (Hs (pad l) (nb l.length)) (8 * i)) ++ [bo (Hs (pad l) (nb l.length)) (8 * i + 0)]) ++ [bo (Hs (pad l) (nb l.length)) (8 * i + 1)]) ++ [bo (Hs (pad l) (nb l.length)) (8 * i + 2)]) ++ [bo (Hs (pad l) (nb l.length)) (8 * i + 3)]) ++ [bo (Hs (pad l) (nb l.length)) (8 * i + 4)])) (ys := [bo (Hs (pad l) (nb l.length)) (8 * i + 5)]) (by rfl) rfl rfl rfl ow_b (ow_s240.sl) (by first | omega | (simp only [List.length_append, List.length_cons, List.length_nil, List.length_replicate, wb_length]; omega)) ?_
       (try simp only [Act.put, mA, mB, mC])
       intro v241_53 W53 ow_a241 hO at_a241 nil_a241
       clear nil_a241
       have ne_a241_t6 := own_ne at_a241 ne_b_t6 (blk_lt k_t6)
       have dj_a241_s240 := own_dj at_a241 dj_b_s240 (Own.lt ow_s240)
       have fr_a241 := own_fr at_a241 fr_b off0.size
       replace k_t6 := blk_off k_t6 hO (nmo ne_b_t6)
       replace ow_s240 := Own.off ow_s240 hO (fo dj_b_s240)
       replace off0 := off0.step hO (io fr_b)
       clear hO at_a241
       have ow_b := ow_a241
       clear ow_a241
       have fr_b := fr_a241
       have ne_b_t6 := ne_a241_t6
       have dj_b_s240 := dj_a241_s240
       refine Lv ?_
       refine wpL_nil ?_
       go_wp2_with fail
       rw [rounds_succ]
       go_upto_region 44 with fail
       refine wp_region_lit ?_
       refine Lv ?_
       refine Lv ?_
       refine Lw ?_ (v := .pointer (some ⟨p6_37, 0 + i, none⟩)) (hv := run_ixarr (m := 8) (by decide) (by omega) Tryd.underlying113 (by kernel_rfl) rfl rfl rfl)
       refine Lg ?_ k_t6 (v := .int .u64 ((Hs (pad l) (nb l.length)) i)) (hj := by rw [Nat.zero_add]; exact arrK_get _ _ _ _ (by omega))
       refine Lw ?_ (v := .int .i64 8)
       refine Lw ?_ (v := .int .u64 (sr ((Hs (pad l) (nb l.length)) i) 8)) (hv := run_shr (n := 8) (by decide) rfl rfl rfl)
       refine Lw ?_ (v := .int .u8 ((bo (Hs (pad l) (nb l.length)) (8 * i + 6)).toNat : Int)) (hv := by rw [← bo_cast _ i 6 (by decide)]; exact run_c8 rfl rfl)
       clear ow_s240 dj_b_s240
       refine LnS ?_ (z := #[.int .u8 ((bo (Hs (pad l) (nb l.length)) (8 * i + 6)).toNat : Int)]) (t := 5) (n := 1) (c := 1)
       intro p240_54 W54 n_s240 hO h_
       have dj_b_s240 : ∀ x, (Value.ownBlock v241_53) = some x → Value.ownBlock (.slice (some ⟨p240_54, 0, none⟩) 1 1) ≠ some x := dj_new (Own.lt ow_b) n_s240
       replace k_t6 := k_t6.o hO
       replace ow_b := Own.off ow_b hO f0
       replace off0 := off0.o hO
       have ow_s240 : Own W54 (.slice (some ⟨p240_54, 0, none⟩) 1 1) [bo (Hs (pad l) (nb l.length)) (8 * i + 6)] := own_blk h_ (by rfl) (by show 1 ≤ maxLen; decide)
       clear hO h_ n_s240
       refine wpL_append (xs := (((((((wb (Hs (pad l) (nb l.length)) (8 * i)) ++ [bo (Hs (pad l) (nb l.length)) (8 * i + 0)]) ++ [bo (Hs (pad l) (nb l.length)) (8 * i + 1)]) ++ [bo (Hs (pad l) (nb l.length)) (8 * i + 2)]) ++ [bo (Hs (pad l) (nb l.length)) (8 * i + 3)]) ++ [bo (Hs (pad l) (nb l.length)) (8 * i + 4)]) ++ [bo (Hs (pad l) (nb l.length)) (8 * i + 5)])) (ys := [bo (Hs (pad l) (nb l.length)) (8 * i + 6)]) (by rfl) rfl rfl rfl ow_b (ow_s240.sl) (by first | omega | (simp only [List.length_append, List.length_cons, List.length_nil, List.length_replicate, wb_length]; omega)) ?_
       (try simp only [Act.put, mA, mB, mC])
       intro v241_55 W55 ow_a241 hO at_a241 nil_a241
       clear nil_a241
       have ne_a241_t6 := own_ne at_a241 ne_b_t6 (blk_lt k_t6)
       have fr_a241 := own_fr at_a241 fr_b off0.size
       replace k_t6 := blk_off k_t6 hO (nmo ne_b_t6)
       replace ow_s240 := Own.off ow_s240 hO (fo dj_b_s240)
       replace off0 := off0.step hO (io fr_b)
       clear hO at_a241
       have ow_b := ow_a241
       clear ow_a241
       have fr_b := fr_a241
       have ne_b_t6 := ne_a241_t6
       refine Lv ?_
       refine wpL_nil ?_
       go_wp2_with fail
       rw [rounds_succ]
       go_upto_region 44 with fail
       refine wp_region_lit ?_
       refine Lv ?_
       refine Lv ?_
       refine Lw ?_ (v := .pointer (some ⟨p6_37, 0 + i, none⟩)) (hv := run_ixarr (m := 8) (by decide) (by omega) Tryd.underlying113 (by kernel_rfl) rfl rfl rfl)
       refine Lg ?_ k_t6 (v := .int .u64 ((Hs (pad l) (nb l.length)) i)) (hj := by rw [Nat.zero_add]; exact arrK_get _ _ _ _ (by omega))
       refine Lw ?_ (v := .int .i64 0)
       refine Lw ?_ (v := .int .u64 (sr ((Hs (pad l) (nb l.length)) i) 0)) (hv := run_shr (n := 0) (by decide) rfl rfl rfl)
       refine Lw ?_ (v := .int .u8 ((bo (Hs (pad l) (nb l.length)) (8 * i + 7)).toNat : Int)) (hv := by rw [← bo_cast _ i 7 (by decide)]; exact run_c8 rfl rfl)
       clear ow_s240 dj_b_s240
       refine LnS ?_ (z := #[.int .u8 ((bo (Hs (pad l) (nb l.length)) (8 * i + 7)).toNat : Int)]) (t := 5) (n := 1) (c := 1)
       intro p240_56 W56 n_s240 hO h_
       replace k_t6 := k_t6.o hO
       replace ow_b := Own.off ow_b hO f0
       replace off0 := off0.o hO
       have ow_s240 : Own W56 (.slice (some ⟨p240_56, 0, none⟩) 1 1) [bo (Hs (pad l) (nb l.length)) (8 * i + 7)] := own_blk h_ (by rfl) (by show 1 ≤ maxLen; decide)
       clear hO h_ n_s240
       refine wpL_append (xs := ((((((((wb (Hs (pad l) (nb l.length)) (8 * i)) ++ [bo (Hs (pad l) (nb l.length)) (8 * i + 0)]) ++ [bo (Hs (pad l) (nb l.length)) (8 * i + 1)]) ++ [bo (Hs (pad l) (nb l.length)) (8 * i + 2)]) ++ [bo (Hs (pad l) (nb l.length)) (8 * i + 3)]) ++ [bo (Hs (pad l) (nb l.length)) (8 * i + 4)]) ++ [bo (Hs (pad l) (nb l.length)) (8 * i + 5)]) ++ [bo (Hs (pad l) (nb l.length)) (8 * i + 6)])) (ys := [bo (Hs (pad l) (nb l.length)) (8 * i + 7)]) (by rfl) rfl rfl rfl ow_b (ow_s240.sl) (by first | omega | (simp only [List.length_append, List.length_cons, List.length_nil, List.length_replicate, wb_length]; omega)) ?_
       (try simp only [Act.put, mA, mB, mC])
       intro v241_57 W57 ow_a241 hO at_a241 nil_a241
       clear nil_a241
       have ne_a241_t6 := own_ne at_a241 ne_b_t6 (blk_lt k_t6)
       have fr_a241 := own_fr at_a241 fr_b off0.size
       replace k_t6 := blk_off k_t6 hO (nmo ne_b_t6)
       replace off0 := off0.step hO (io fr_b)
       clear hO at_a241
       have ow_b := ow_a241
       clear ow_a241
       have fr_b := fr_a241
       have ne_b_t6 := ne_a241_t6
       refine Lv ?_
       refine wpL_nil ?_
       go_wp2_with fail
       rw [rounds_succ]
       go_wp2
       go_roundw
       case rel => exact ⟨i + 1, _, by omega, rfl, by go_num, off0, k_t6, (by rw [← wb_step]; exact ow_b), fr_b, ne_b_t6⟩
       case measure => simp [intOf]; omega
      ·
       have _f := h8
       obtain rfl : i = 8 := by omega
       go_upto_region 39 with fail
       refine wp_region_lit ?_
       refine Lv ?_
       refine Lw ?_ (v := .bool false)
       refine wpL_nil ?_
       go_upto_region 45 with fail
       refine wp_region_lit ?_
       refine Lv ?_
       refine wpL_str (l := (wb (Hs (pad l) (nb l.length)) (8 * 8))) (ow_b.sl) (by rfl) rfl rfl ?_
       (try simp only [Act.put, mA, mB, mC])
       refine Lv ?_
       refine wpL_nil ?_
       go_wp2
       exact bodyPost_ret (v := str (wb (Hs (pad l) (nb l.length)) (8 * 8))) (by simp only [results, Tryd.results43]; go_simp) rfl ⟨rfl, off0.ext⟩
end Go.Proofs.YtefpoollmbmkfaaDoor
