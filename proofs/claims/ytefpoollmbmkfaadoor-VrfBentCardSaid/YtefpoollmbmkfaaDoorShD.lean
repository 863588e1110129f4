/- sha5.Sum: the sum of parts, one behind the other. Conditions: the parts read as bytes; the tables hold their numbers. -/
import Derived.Test.YtefpoollmbmkfaaDoorGc
import Derived.Test.YtefpoollmbmkfaaDoorHb
set_option linter.unusedSimpArgs false
set_option linter.unusedVariables false
namespace Go.Proofs.YtefpoollmbmkfaaDoor
set_option maxHeartbeats 4000000
set_option maxRecDepth 100000
open Go.RowKit
attribute [local irreducible] wpList
theorem Y5c (h : Nat → Int) (l : List UInt8) (u : Value) (hl : 128 ≤ l.length) (w : World) (hs : Sl w u l) (hG : GS w) : Calls Tryd.prog 81 #[.agg (J1 .u64 8 h), u] w fun e w' => Ret (.agg (J1 .u64 8 (prs h (bt l)))) w w' e := by
  obtain ⟨ad, c, rfl, _⟩ := Z49 hs (by omega)
  exact Y4k h l ad c hl w hs hG

theorem V3c (ps : List (List UInt8)) (A : Option Addr) (c : Nat) (F : List UInt8) (hF : ps.flatten = F) (hlen : F.length ≤ 70368744177664) (hpn : ps.length ≤ 9223372036854775000) (w : World) (hps : ∀ i l, ps[i]? = some l → ∃ ad u, A = some ad ∧ w.cell? (ad.add i) = some u ∧ Sl w u l) (hG : GS w) :
  Calls Tryd.prog 32 #[.slice A ps.length c] w fun e w' => Ret (.agg (J1 .u8 64 (sm F))) w w' e := by
 have HG := Lib.hid hG
 have HPS := Lib.hid hps
 clear hG hps
 have hpl := Q60 F
 have hzc := (Q28 F.length).2
 have off0 : Off [] w w := Off.refl _ _
 go_enter Tryd.func32, Tryd.ntmps32
 go_upto_region 0 with fail
 refine wp_region_lit ?_
 refine Ln ?_ (z := J1 .u8 64 (fun _ => 0)) (t := 30)
 intro J0c W1 U0 hO h_
 have J01 := fbn off0 U0
 replace off0 := off0.o hO
 have k_t2 := h_
 clear hO h_ U0
 refine J0 ?_
 go_upto_region 2 with fail
 refine wp_region_lit ?_
 refine Lv ?_
 refine Lv ?_
 refine Lw ?_ (v := .int .i64 0)
 refine J0 ?_
 have ow_b := Z46 W1
 have K2 : Fr (Value.ownBlock (.slice none 0 0)) w.heap.size [] := Z45
 have K9 : Value.ownBlock (.slice none 0 0) ≠ some J0c := fun e_ => by cases e_
 go_wp2_with fail
 go_loopw [3, 15] (fun sv ii wr => ∃ (i : Nat) (bv : Value), (i ≤ ps.length) ∧ (bv = sv) ∧ (ii = .int .i64 (i : Int)) ∧ Off [] w wr ∧ Blk wr J0c (J1 .u8 64 (fun _ => 0)) 30 ∧ Own wr bv ((List.take i ps).flatten) ∧ Fr (Value.ownBlock bv) w.heap.size [] ∧ (Value.ownBlock bv) ≠ some J0c)
  (fun sv ii _ => ps.length - (intOf ii).toNat)
 case atStart => exact ⟨0, _, Nat.zero_le _, rfl, rfl, off0, k_t2, ow_b, K2, K9⟩
 case round =>
  obtain ⟨i, bv, hi, rfl, rfl, off0, k_t2, ow_b, K2, K9⟩ := hrel
  obtain ⟨W2, eW_⟩ := J3r off0
  subst eW_
  by_cases hlt : i < ps.length
  ·
   have _f := hlt
   obtain ⟨l_, hl_⟩ : ∃ l, ps[i]? = some l := ⟨_, List.getElem?_eq_getElem hlt⟩
   obtain ⟨ad_, u_, hA_, hc_, hu_⟩ := HPS.out i l_ hl_
   have hfl : (List.take i ps).flatten.length + l_.length ≤ F.length := by rw [← hF, ← List.length_append, ← Q79 hl_]; exact Y06 _ _
   go_upto_region 3 with fail
   refine wp_region_lit ?_
   refine Lw ?_ (v := .bool true)
   refine J0 ?_
   go_upto_region 4 with fail
   refine wp_region_lit ?_
   refine Lw ?_ (v := .pointer (some (ad_.add i))) (hv := Y4o (j := i) hlt rfl (by rw [← hA_]; rfl) rfl)
   refine Q2t (by rfl) rfl rfl (J75 hc_ off0.ext) (by kernel_rfl) ?_
   (try simp only [Act.put, mA, mB, mC])
   refine Lv ?_
   refine J0 ?_
   go_upto_region 5 with fail
   refine wp_region_lit ?_
   refine Lv ?_
   refine Lv ?_
   refine J0b (xs := ((List.take i ps).flatten)) (ys := l_) (by rfl) rfl rfl rfl ow_b (hu_.off off0 f0) (by first | omega | (simp only [List.length_append, List.length_cons, List.length_nil, List.length_replicate]; omega)) ?_
   (try simp only [Act.put, mA, mB, mC])
   intro V6q W3 Y0w hO Z20 nil_a21
   clear nil_a21
   have Z6t := J15 Z20 K9 (J5 k_t2)
   have Y9w := J0i Z20 K2 off0.size
   replace k_t2 := K3 k_t2 hO (nmo K9)
   replace off0 := off0.step hO (io K2)
   clear hO Z20
   have ow_b := Y0w
   clear Y0w
   have K2 := Y9w
   have K9 := Z6t
   refine Lv ?_
   refine J0 ?_
   go_wp2
   go_roundw
   case rel => exact ⟨i + 1, _, by omega, rfl, by go_num, off0, k_t2, (by rw [Q79 hl_]; exact ow_b), K2, K9⟩
   case measure => simp [intOf]; omega
  ·
   have _f := hlt
   obtain rfl : i = ps.length := by omega
   rw [List.take_length, hF] at ow_b
   go_upto_region 3 with fail
   refine wp_region_lit ?_
   refine Lw ?_ (v := .bool false)
   refine J0 ?_
   go_upto_region 7 with fail
   refine wp_region_lit ?_
   refine Lv ?_
   refine J5w (l := F) (ow_b.sl) (by rfl) rfl rfl ?_
   (try simp only [Act.put, mA, mB, mC])
   refine Lw ?_ (v := .int .u64 ((F.length : Nat) : Int)) (hv := by go_simp; (try simp only [IntKind.wrap_u64, IntKind.wrap_i64]); (try omega))
   refine Lw ?_ (v := .int .u64 ((8 * F.length : Nat) : Int)) (hv := by rw [show ((8 * F.length : Nat) : Int) = sl ((F.length : Nat) : Int) 3 from (by unfold sl; rw [IntKind.wrap_u64]; omega)]; exact Q26 (n := 3) (by decide) rfl rfl rfl)
   refine Lv ?_
   refine J0 ?_
   go_upto_region 8 with fail
   refine wp_region_lit ?_
   refine Lv ?_
   refine LnS ?_ (z := #[.int .u8 128]) (t := 5) (n := 1) (c := 1)
   intro V3e W3 Y0x hO h_
   replace k_t2 := k_t2.o hO
   replace ow_b := Own.off ow_b hO f0
   replace off0 := off0.o hO
   have ow_s28 : Own W3 (.slice (some ⟨V3e, 0, none⟩) 1 1) [128] := V7 h_ (by rfl) (by show 1 ≤ maxLen; decide)
   clear hO h_ Y0x
   refine J0b (xs := F) (ys := [128]) (by rfl) rfl rfl rfl ow_b (ow_s28.sl) (by first | omega | (simp only [List.length_append, List.length_cons, List.length_nil, List.length_replicate]; omega)) ?_
   (try simp only [Act.put, mA, mB, mC])
   intro V6r W4 J90 hO Q64 nil_a29
   clear nil_a29
   have Z6u := J15 Q64 K9 (J5 k_t2)
   have Y9x := J0i Q64 K2 off0.size
   replace k_t2 := K3 k_t2 hO (nmo K9)
   replace off0 := off0.step hO (io K2)
   clear hO Q64
   have ow_b := J90
   clear J90
   have K2 := Y9x
   have K9 := Z6u
   refine Lv ?_
   refine J0 ?_
   clear ow_s28
   go_wp2_with fail
   go_loopw [3] (fun sv wr => ∃ (k : Nat) (bv : Value), (k ≤ zc F.length) ∧ (bv = sv) ∧ Off [] w wr ∧ Blk wr J0c (J1 .u8 64 (fun _ => 0)) 30 ∧ Own wr bv (F ++ [128] ++ List.replicate k 0) ∧ Fr (Value.ownBlock bv) w.heap.size [] ∧ (Value.ownBlock bv) ≠ some J0c)
    (fun sv _ => F.length + 300 - Z0f sv)
   case atStart => exact ⟨0, _, Nat.zero_le _, rfl, off0, k_t2, (by rw [List.replicate_zero, List.append_nil]; exact ow_b), K2, K9⟩
   case round =>
    obtain ⟨k, bv, hk, rfl, off0, k_t2, ow_b, K2, K9⟩ := hrel
    obtain ⟨W5, eW_⟩ := J3r off0
    subst eW_
    have lb := Z4i ow_b
    by_cases hz : k < zc F.length
    ·
     have _f := hz
     have hz2 := Y73 hz
     go_upto_region 9 with fail
     refine wp_region_lit ?_
     refine Lv ?_
     refine J5w (l := (F ++ [128] ++ List.replicate k 0)) (ow_b.sl) (by rfl) rfl rfl ?_
     (try simp only [Act.put, mA, mB, mC])
     refine Lw ?_ (v := .int .i64 (((F.length + 1 + k) % 128 : Nat) : Int)) (hv := by go_simp; (try simp only [List.length_append, List.length_cons, List.length_nil, List.length_replicate]); rw [Int.tmod_eq_emod_of_nonneg (by omega)]; omega)
     refine Lw ?_ (v := .bool true) (hv := by go_simp; omega)
     refine J0 ?_
     go_upto_region 10 with fail
     refine wp_region_lit ?_
     refine Lv ?_
     refine LnS ?_ (z := #[.int .u8 0]) (t := 5) (n := 1) (c := 1)
     intro V3f W6 V3g hO h_
     replace k_t2 := k_t2.o hO
     replace ow_b := Own.off ow_b hO f0
     replace off0 := off0.o hO
     have ow_s35 : Own W6 (.slice (some ⟨V3f, 0, none⟩) 1 1) [0] := V7 h_ (by rfl) (by show 1 ≤ maxLen; decide)
     clear hO h_ V3g
     refine J0b (xs := (F ++ [128] ++ List.replicate k 0)) (ys := [0]) (by rfl) rfl rfl rfl ow_b (ow_s35.sl) (by first | omega | (simp only [List.length_append, List.length_cons, List.length_nil, List.length_replicate]; omega)) ?_
     (try simp only [Act.put, mA, mB, mC])
     intro V6s W7 Y0y hO Z21 nil_a36
     clear nil_a36
     have Z6v := J15 Z21 K9 (J5 k_t2)
     have Y9y := J0i Z21 K2 off0.size
     replace k_t2 := K3 k_t2 hO (nmo K9)
     replace off0 := off0.step hO (io K2)
     clear hO Z21
     have ow_b := Y0y
     clear Y0y
     have K2 := Y9y
     have K9 := Z6v
     refine Lv ?_
     refine J0 ?_
     have la := Z4i ow_b
     simp only [List.length_append, List.length_cons, List.length_nil, List.length_replicate] at la lb
     go_wp2
     go_roundw
     case rel => exact ⟨k + 1, _, by omega, rfl, off0, k_t2, (by rw [List.replicate_succ', ← List.append_assoc]; exact ow_b), K2, K9⟩
     case measure => simp only [la, lb]; omega
    ·
     have _f := hz
     obtain rfl : k = zc F.length := by omega
     have hz2 := (Q28 F.length).1
     go_upto_region 9 with fail
     refine wp_region_lit ?_
     refine Lv ?_
     refine J5w (l := (F ++ [128] ++ List.replicate (zc F.length) 0)) (ow_b.sl) (by rfl) rfl rfl ?_
     (try simp only [Act.put, mA, mB, mC])
     refine Lw ?_ (v := .int .i64 (((F.length + 1 + zc F.length) % 128 : Nat) : Int)) (hv := by go_simp; (try simp only [List.length_append, List.length_cons, List.length_nil, List.length_replicate]); rw [Int.tmod_eq_emod_of_nonneg (by omega)]; omega)
     refine Lw ?_ (v := .bool false) (hv := by first | (go_simp; done) | (go_simp; omega))
     refine J0 ?_
     go_upto_region 11 with fail
     refine wp_region_lit ?_
     refine Lv ?_
     refine Z0e (xs := (F ++ [128] ++ List.replicate (zc F.length) 0)) (m := 8) (by decide) (by rfl) rfl rfl rfl ow_b (by first | omega | (simp only [List.length_append, List.length_cons, List.length_nil, List.length_replicate]; omega)) ?_
     (try simp only [Act.put, mA, mB, mC])
     intro V3h W6 Y0z hO Z22
     have Z6w := J15 Z22 K9 (J5 k_t2)
     have Y9z := J0i Z22 K2 off0.size
     replace k_t2 := K3 k_t2 hO (nmo K9)
     replace off0 := off0.step hO (io K2)
     clear hO Z22
     have ow_b := Y0z
     clear Y0z
     have K2 := Y9z
     have K9 := Z6w
     refine Lv ?_
     refine J0 ?_
     go_wp2_with fail
     refine wp_loop_rounds 9 ?_
     rw [rounds_succ]
     go_upto_region 15 with fail
     refine wp_region_lit ?_
     refine Lv ?_
     refine Lv ?_
     refine Lw ?_ (v := .int .i64 7)
     refine Lw ?_ (v := .int .i64 56)
     refine Lw ?_ (v := .int .u64 (sr ((8 * F.length : Nat) : Int) 56)) (hv := J1l (n := 56) (by decide) rfl rfl rfl)
     refine Lw ?_ (v := .int .u8 ((u8 ((8 * F.length) / 72057594037927936)).toNat : Int)) (hv := by rw [← J9x (8 * F.length) 56 72057594037927936 (by decide)]; exact J3t rfl rfl)
     refine LnS ?_ (z := #[.int .u8 ((u8 ((8 * F.length) / 72057594037927936)).toNat : Int)]) (t := 5) (n := 1) (c := 1)
     intro Y7c W7 J17 hO h_
     have Y6 : ∀ x, (Value.ownBlock V3h) = some x → Value.ownBlock (.slice (some ⟨Y7c, 0, none⟩) 1 1) ≠ some x := J1k (Own.lt ow_b) J17
     replace k_t2 := k_t2.o hO
     replace ow_b := Own.off ow_b hO f0
     replace off0 := off0.o hO
     have ow_s49 : Own W7 (.slice (some ⟨Y7c, 0, none⟩) 1 1) [u8 ((8 * F.length) / 72057594037927936)] := V7 h_ (by rfl) (by show 1 ≤ maxLen; decide)
     clear hO h_ J17
     refine J0b (xs := ((F ++ [128] ++ List.replicate (zc F.length) 0) ++ List.replicate 8 0)) (ys := [u8 ((8 * F.length) / 72057594037927936)]) (by rfl) rfl rfl rfl ow_b (ow_s49.sl) (by first | omega | (simp only [List.length_append, List.length_cons, List.length_nil, List.length_replicate]; omega)) ?_
     (try simp only [Act.put, mA, mB, mC])
     intro V3i W8 J0e hO V9 nil_a50
     clear nil_a50
     have J1w := J15 V9 K9 (J5 k_t2)
     have J0f := J0r V9 Y6 (Own.lt ow_s49)
     have J1m := J0i V9 K2 off0.size
     replace k_t2 := K3 k_t2 hO (nmo K9)
     replace ow_s49 := Own.off ow_s49 hO (fo Y6)
     replace off0 := off0.step hO (io K2)
     clear hO V9
     have ow_b := J0e
     clear J0e
     have K2 := J1m
     have K9 := J1w
     have Y6 := J0f
     refine Lv ?_
     refine J0 ?_
     go_wp2_with fail
     rw [rounds_succ]
     go_upto_region 15 with fail
     refine wp_region_lit ?_
     refine Lv ?_
     refine Lv ?_
     refine Lw ?_ (v := .int .i64 6)
     refine Lw ?_ (v := .int .i64 48)
     refine Lw ?_ (v := .int .u64 (sr ((8 * F.length : Nat) : Int) 48)) (hv := J1l (n := 48) (by decide) rfl rfl rfl)
     refine Lw ?_ (v := .int .u8 ((u8 ((8 * F.length) / 281474976710656)).toNat : Int)) (hv := by rw [← J9x (8 * F.length) 48 281474976710656 (by decide)]; exact J3t rfl rfl)
     clear ow_s49 Y6
     refine LnS ?_ (z := #[.int .u8 ((u8 ((8 * F.length) / 281474976710656)).toNat : Int)]) (t := 5) (n := 1) (c := 1)
     intro Y7d W9 J17 hO h_
     have Y6 : ∀ x, (Value.ownBlock V3i) = some x → Value.ownBlock (.slice (some ⟨Y7d, 0, none⟩) 1 1) ≠ some x := J1k (Own.lt ow_b) J17
     replace k_t2 := k_t2.o hO
     replace ow_b := Own.off ow_b hO f0
     replace off0 := off0.o hO
     have ow_s49 : Own W9 (.slice (some ⟨Y7d, 0, none⟩) 1 1) [u8 ((8 * F.length) / 281474976710656)] := V7 h_ (by rfl) (by show 1 ≤ maxLen; decide)
     clear hO h_ J17
     refine J0b (xs := (((F ++ [128] ++ List.replicate (zc F.length) 0) ++ List.replicate 8 0) ++ [u8 ((8 * F.length) / 72057594037927936)])) (ys := [u8 ((8 * F.length) / 281474976710656)]) (by rfl) rfl rfl rfl ow_b (ow_s49.sl) (by first | omega | (simp only [List.length_append, List.length_cons, List.length_nil, List.length_replicate]; omega)) ?_
     (try simp only [Act.put, mA, mB, mC])
     intro V00 W10 J0e hO V9 nil_a50
     clear nil_a50
     have J1w := J15 V9 K9 (J5 k_t2)
     have J0f := J0r V9 Y6 (Own.lt ow_s49)
     have J1m := J0i V9 K2 off0.size
     replace k_t2 := K3 k_t2 hO (nmo K9)
     replace ow_s49 := Own.off ow_s49 hO (fo Y6)
     replace off0 := off0.step hO (io K2)
     clear hO V9
     have ow_b := J0e
     clear J0e
     have K2 := J1m
     have K9 := J1w
     have Y6 := J0f
     refine Lv ?_
     refine J0 ?_
     go_wp2_with fail
     rw [rounds_succ]
     go_upto_region 15 with fail
     refine wp_region_lit ?_
     refine Lv ?_
     refine Lv ?_
     refine Lw ?_ (v := .int .i64 5)
     refine Lw ?_ (v := .int .i64 40)
     refine Lw ?_ (v := .int .u64 (sr ((8 * F.length : Nat) : Int) 40)) (hv := J1l (n := 40) (by decide) rfl rfl rfl)
     refine Lw ?_ (v := .int .u8 ((u8 ((8 * F.length) / 1099511627776)).toNat : Int)) (hv := by rw [← J9x (8 * F.length) 40 1099511627776 (by decide)]; exact J3t rfl rfl)
     clear ow_s49 Y6
     refine LnS ?_ (z := #[.int .u8 ((u8 ((8 * F.length) / 1099511627776)).toNat : Int)]) (t := 5) (n := 1) (c := 1)
     intro Y10 W11 J17 hO h_
     have Y6 : ∀ x, (Value.ownBlock V00) = some x → Value.ownBlock (.slice (some ⟨Y10, 0, none⟩) 1 1) ≠ some x := J1k (Own.lt ow_b) J17
     replace k_t2 := k_t2.o hO
     replace ow_b := Own.off ow_b hO f0
     replace off0 := off0.o hO
     have ow_s49 : Own W11 (.slice (some ⟨Y10, 0, none⟩) 1 1) [u8 ((8 * F.length) / 1099511627776)] := V7 h_ (by rfl) (by show 1 ≤ maxLen; decide)
     clear hO h_ J17
     refine J0b (xs := ((((F ++ [128] ++ List.replicate (zc F.length) 0) ++ List.replicate 8 0) ++ [u8 ((8 * F.length) / 72057594037927936)]) ++ [u8 ((8 * F.length) / 281474976710656)])) (ys := [u8 ((8 * F.length) / 1099511627776)]) (by rfl) rfl rfl rfl ow_b (ow_s49.sl) (by first | omega | (simp only [List.length_append, List.length_cons, List.length_nil, List.length_replicate]; omega)) ?_
     (try simp only [Act.put, mA, mB, mC])
     intro V01 W12 J0e hO V9 nil_a50
     clear nil_a50
     have J1w := J15 V9 K9 (J5 k_t2)
     have J0f := J0r V9 Y6 (Own.lt ow_s49)
     have J1m := J0i V9 K2 off0.size
     replace k_t2 := K3 k_t2 hO (nmo K9)
     replace ow_s49 := Own.off ow_s49 hO (fo Y6)
     replace off0 := off0.step hO (io K2)
     clear hO V9
     have ow_b := J0e
     clear J0e
     have K2 := J1m
     have K9 := J1w
     have Y6 := J0f
     refine Lv ?_
     refine J0 ?_
     go_wp2_with fail
     rw [rounds_succ]
     go_upto_region 15 with fail
     refine wp_region_lit ?_
     refine Lv ?_
     refine Lv ?_
     refine Lw ?_ (v := .int .i64 4)
     refine Lw ?_ (v := .int .i64 32)
     refine Lw ?_ (v := .int .u64 (sr ((8 * F.length : Nat) : Int) 32)) (hv := J1l (n := 32) (by decide) rfl rfl rfl)
     refine Lw ?_ (v := .int .u8 ((u8 ((8 * F.length) / 4294967296)).toNat : Int)) (hv := by rw [← J9x (8 * F.length) 32 4294967296 (by decide)]; exact J3t rfl rfl)
     clear ow_s49 Y6
     refine LnS ?_ (z := #[.int .u8 ((u8 ((8 * F.length) / 4294967296)).toNat : Int)]) (t := 5) (n := 1) (c := 1)
     intro Y11 W13 J17 hO h_
     have Y6 : ∀ x, (Value.ownBlock V01) = some x → Value.ownBlock (.slice (some ⟨Y11, 0, none⟩) 1 1) ≠ some x := J1k (Own.lt ow_b) J17
     replace k_t2 := k_t2.o hO
     replace ow_b := Own.off ow_b hO f0
     replace off0 := off0.o hO
     have ow_s49 : Own W13 (.slice (some ⟨Y11, 0, none⟩) 1 1) [u8 ((8 * F.length) / 4294967296)] := V7 h_ (by rfl) (by show 1 ≤ maxLen; decide)
     clear hO h_ J17
     refine J0b (xs := (((((F ++ [128] ++ List.replicate (zc F.length) 0) ++ List.replicate 8 0) ++ [u8 ((8 * F.length) / 72057594037927936)]) ++ [u8 ((8 * F.length) / 281474976710656)]) ++ [u8 ((8 * F.length) / 1099511627776)])) (ys := [u8 ((8 * F.length) / 4294967296)]) (by rfl) rfl rfl rfl ow_b (ow_s49.sl) (by first | omega | (simp only [List.length_append, List.length_cons, List.length_nil, List.length_replicate]; omega)) ?_
     (try simp only [Act.put, mA, mB, mC])
     intro V02 W14 J0e hO V9 nil_a50
     clear nil_a50
     have J1w := J15 V9 K9 (J5 k_t2)
     have J0f := J0r V9 Y6 (Own.lt ow_s49)
     have J1m := J0i V9 K2 off0.size
     replace k_t2 := K3 k_t2 hO (nmo K9)
     replace ow_s49 := Own.off ow_s49 hO (fo Y6)
     replace off0 := off0.step hO (io K2)
     clear hO V9
     have ow_b := J0e
     clear J0e
     have K2 := J1m
     have K9 := J1w
     have Y6 := J0f
     refine Lv ?_
     refine J0 ?_
     go_wp2_with fail
     rw [rounds_succ]
     go_upto_region 15 with fail
     refine wp_region_lit ?_
     refine Lv ?_
     refine Lv ?_
     refine Lw ?_ (v := .int .i64 3)
     refine Lw ?_ (v := .int .i64 24)
     refine Lw ?_ (v := .int .u64 (sr ((8 * F.length : Nat) : Int) 24)) (hv := J1l (n := 24) (by decide) rfl rfl rfl)
     refine Lw ?_ (v := .int .u8 ((u8 ((8 * F.length) / 16777216)).toNat : Int)) (hv := by rw [← J9x (8 * F.length) 24 16777216 (by decide)]; exact J3t rfl rfl)
     clear ow_s49 Y6
     refine LnS ?_ (z := #[.int .u8 ((u8 ((8 * F.length) / 16777216)).toNat : Int)]) (t := 5) (n := 1) (c := 1)
     intro Y12 W15 J17 hO h_
     have Y6 : ∀ x, (Value.ownBlock V02) = some x → Value.ownBlock (.slice (some ⟨Y12, 0, none⟩) 1 1) ≠ some x := J1k (Own.lt ow_b) J17
     replace k_t2 := k_t2.o hO
     replace ow_b := Own.off ow_b hO f0
     replace off0 := off0.o hO
     have ow_s49 : Own W15 (.slice (some ⟨Y12, 0, none⟩) 1 1) [u8 ((8 * F.length) / 16777216)] := V7 h_ (by rfl) (by show 1 ≤ maxLen; decide)
     clear hO h_ J17
     refine J0b (xs := ((((((F ++ [128] ++ List.replicate (zc F.length) 0) ++ List.replicate 8 0) ++ [u8 ((8 * F.length) / 72057594037927936)]) ++ [u8 ((8 * F.length) / 281474976710656)]) ++ [u8 ((8 * F.length) / 1099511627776)]) ++ [u8 ((8 * F.length) / 4294967296)])) (ys := [u8 ((8 * F.length) / 16777216)]) (by rfl) rfl rfl rfl ow_b (ow_s49.sl) (by first | omega | (simp only [List.length_append, List.length_cons, List.length_nil, List.length_replicate]; omega)) ?_
     (try simp only [Act.put, mA, mB, mC])
     intro V03 W16 J0e hO V9 nil_a50
     clear nil_a50
     have J1w := J15 V9 K9 (J5 k_t2)
     have J0f := J0r V9 Y6 (Own.lt ow_s49)
     have J1m := J0i V9 K2 off0.size
     replace k_t2 := K3 k_t2 hO (nmo K9)
     replace ow_s49 := Own.off ow_s49 hO (fo Y6)
     replace off0 := off0.step hO (io K2)
     clear hO V9
     have ow_b := J0e
     clear J0e
     have K2 := J1m
     have K9 := J1w
     have Y6 := J0f
     refine Lv ?_
     refine J0 ?_
     go_wp2_with fail
     rw [rounds_succ]
     go_upto_region 15 with fail
     refine wp_region_lit ?_
     refine Lv ?_
     refine Lv ?_
     refine Lw ?_ (v := .int .i64 2)
     refine Lw ?_ (v := .int .i64 16)
     refine Lw ?_ (v := .int .u64 (sr ((8 * F.length : Nat) : Int) 16)) (hv := J1l (n := 16) (by decide) rfl rfl rfl)
     refine Lw ?_ (v := .int .u8 ((u8 ((8 * F.length) / 65536)).toNat : Int)) (hv := by rw [← J9x (8 * F.length) 16 65536 (by decide)]; exact J3t rfl rfl)
     clear ow_s49 Y6
     refine LnS ?_ (z := #[.int .u8 ((u8 ((8 * F.length) / 65536)).toNat : Int)]) (t := 5) (n := 1) (c := 1)
     intro Y13 W17 J17 hO h_
     have Y6 : ∀ x, (Value.ownBlock V03) = some x → Value.ownBlock (.slice (some ⟨Y13, 0, none⟩) 1 1) ≠ some x := J1k (Own.lt ow_b) J17
     replace k_t2 := k_t2.o hO
     replace ow_b := Own.off ow_b hO f0
     replace off0 := off0.o hO
     have ow_s49 : Own W17 (.slice (some ⟨Y13, 0, none⟩) 1 1) [u8 ((8 * F.length) / 65536)] := V7 h_ (by rfl) (by show 1 ≤ maxLen; decide)
     clear hO h_ J17
     refine J0b (xs := (((((((F ++ [128] ++ List.replicate (zc F.length) 0) ++ List.replicate 8 0) ++ [u8 ((8 * F.length) / 72057594037927936)]) ++ [u8 ((8 * F.length) / 281474976710656)]) ++ [u8 ((8 * F.length) / 1099511627776)]) ++ [u8 ((8 * F.length) / 4294967296)]) ++ [u8 ((8 * F.length) / 16777216)])) (ys := [u8 ((8 * F.length) / 65536)]) (by rfl) rfl rfl rfl ow_b (ow_s49.sl) (by first | omega | (simp only [List.length_append, List.length_cons, List.length_nil, List.length_replicate]; omega)) ?_
     (try simp only [Act.put, mA, mB, mC])
     intro V04 W18 J0e hO V9 nil_a50
     clear nil_a50
     have J1w := J15 V9 K9 (J5 k_t2)
     have J0f := J0r V9 Y6 (Own.lt ow_s49)
     have J1m := J0i V9 K2 off0.size
     replace k_t2 := K3 k_t2 hO (nmo K9)
     replace ow_s49 := Own.off ow_s49 hO (fo Y6)
     replace off0 := off0.step hO (io K2)
     clear hO V9
     have ow_b := J0e
     clear J0e
     have K2 := J1m
     have K9 := J1w
     have Y6 := J0f
     refine Lv ?_
     refine J0 ?_
     go_wp2_with fail
     rw [rounds_succ]
     go_upto_region 15 with fail
     refine wp_region_lit ?_
     refine Lv ?_
     refine Lv ?_
     refine Lw ?_ (v := .int .i64 1)
     refine Lw ?_ (v := .int .i64 8)
     refine Lw ?_ (v := .int .u64 (sr ((8 * F.length : Nat) : Int) 8)) (hv := J1l (n := 8) (by decide) rfl rfl rfl)
     refine Lw ?_ (v := .int .u8 ((u8 ((8 * F.length) / 256)).toNat : Int)) (hv := by rw [← J9x (8 * F.length) 8 256 (by decide)]; exact J3t rfl rfl)
     clear ow_s49 Y6
     refine LnS ?_ (z := #[.int .u8 ((u8 ((8 * F.length) / 256)).toNat : Int)]) (t := 5) (n := 1) (c := 1)
     intro Y14 W19 J17 hO h_
     have Y6 : ∀ x, (Value.ownBlock V04) = some x → Value.ownBlock (.slice (some ⟨Y14, 0, none⟩) 1 1) ≠ some x := J1k (Own.lt ow_b) J17
     replace k_t2 := k_t2.o hO
     replace ow_b := Own.off ow_b hO f0
     replace off0 := off0.o hO
     have ow_s49 : Own W19 (.slice (some ⟨Y14, 0, none⟩) 1 1) [u8 ((8 * F.length) / 256)] := V7 h_ (by rfl) (by show 1 ≤ maxLen; decide)
     clear hO h_ J17
     refine J0b (xs := ((((((((F ++ [128] ++ List.replicate (zc F.length) 0) ++ List.replicate 8 0) ++ [u8 ((8 * F.length) / 72057594037927936)]) ++ [u8 ((8 * F.length) / 281474976710656)]) ++ [u8 ((8 * F.length) / 1099511627776)]) ++ [u8 ((8 * F.length) / 4294967296)]) ++ [u8 ((8 * F.length) / 16777216)]) ++ [u8 ((8 * F.length) / 65536)])) (ys := [u8 ((8 * F.length) / 256)]) (by rfl) rfl rfl rfl ow_b (ow_s49.sl) (by first | omega | (simp only [List.length_append, List.length_cons, List.length_nil, List.length_replicate]; omega)) ?_
     (try simp only [Act.put, mA, mB, mC])
     intro V5o W20 J0e hO V9 nil_a50
     clear nil_a50
     have J1w := J15 V9 K9 (J5 k_t2)
     have J1m := J0i V9 K2 off0.size
     replace k_t2 := K3 k_t2 hO (nmo K9)
     replace ow_s49 := Own.off ow_s49 hO (fo Y6)
     replace off0 := off0.step hO (io K2)
     clear hO V9
     have ow_b := J0e
     clear J0e
     have K2 := J1m
     have K9 := J1w
     refine Lv ?_
     refine J0 ?_
     go_wp2_with fail
     rw [rounds_succ]
     go_upto_region 15 with fail
     refine wp_region_lit ?_
     refine Lv ?_
     refine Lv ?_
     refine Lw ?_ (v := .int .i64 0)
     refine Lw ?_ (v := .int .i64 0)
     refine Lw ?_ (v := .int .u64 (sr ((8 * F.length : Nat) : Int) 0)) (hv := J1l (n := 0) (by decide) rfl rfl rfl)
     refine Lw ?_ (v := .int .u8 ((u8 (8 * F.length)).toNat : Int)) (hv := by rw [← Y4r (8 * F.length)]; exact J3t rfl rfl)
     clear ow_s49 Y6
     refine LnS ?_ (z := #[.int .u8 ((u8 (8 * F.length)).toNat : Int)]) (t := 5) (n := 1) (c := 1)
     intro Q95 W21 J17 hO h_
     replace k_t2 := k_t2.o hO
     replace ow_b := Own.off ow_b hO f0
     replace off0 := off0.o hO
     have ow_s49 : Own W21 (.slice (some ⟨Q95, 0, none⟩) 1 1) [u8 (8 * F.length)] := V7 h_ (by rfl) (by show 1 ≤ maxLen; decide)
     clear hO h_ J17
     refine J0b (xs := (((((((((F ++ [128] ++ List.replicate (zc F.length) 0) ++ List.replicate 8 0) ++ [u8 ((8 * F.length) / 72057594037927936)]) ++ [u8 ((8 * F.length) / 281474976710656)]) ++ [u8 ((8 * F.length) / 1099511627776)]) ++ [u8 ((8 * F.length) / 4294967296)]) ++ [u8 ((8 * F.length) / 16777216)]) ++ [u8 ((8 * F.length) / 65536)]) ++ [u8 ((8 * F.length) / 256)])) (ys := [u8 (8 * F.length)]) (by rfl) rfl rfl rfl ow_b (ow_s49.sl) (by first | omega | (simp only [List.length_append, List.length_cons, List.length_nil, List.length_replicate]; omega)) ?_
     (try simp only [Act.put, mA, mB, mC])
     intro Q65 W22 J0e hO V9 nil_a50
     clear nil_a50
     have J1w := J15 V9 K9 (J5 k_t2)
     replace k_t2 := K3 k_t2 hO (nmo K9)
     replace off0 := off0.step hO (io K2)
     clear hO V9
     have ow_b := J0e
     clear J0e
     have K9 := J1w
     refine Lv ?_
     refine J0 ?_
     go_wp2_with fail
     rw [rounds_succ]
     go_upto_region 16 with fail
     refine wp_region_lit ?_
     refine Q44 (by rfl) rfl rfl ((Q8x HG.out off0.ext).2) (by kernel_rfl) (by rw [Q1]; kernel_rfl) ?_
     (try simp only [Act.put, mA, mB, mC])
     refine LnP ?_ (z := J1 .u64 8 (fun _ => 0)) (t := 113) (cells := J1 .u64 8 hf) (hi := by rw [Q1]; kernel_rfl) (hs := by rw [Q1, Q1]) (h1 := by exact Y7 _ _ _)
     intro Q66 W24 V6 hO h_
     have nq_t2_t8 := bn k_t2 V6
     have Q2e := J0m (Own.lt ow_b) V6
     have J1v := fbn off0 V6
     replace k_t2 := k_t2.o hO
     replace ow_b := Own.off ow_b hO f0
     replace off0 := off0.o hO
     have k_t8 := h_
     clear hO h_ V6
     refine J0 ?_
     clear ow_s49 Y6
     rw [Y4q] at ow_b
     have J69 : Sl W24 Q65 (List.drop (128 * 0) (Y0 F)) := Z6h ow_b
     have Q0o : sb Q65 (List.drop (128 * 0) (Y0 F)) ≠ some J0c := Y71 K9
     have J91 : sb Q65 (List.drop (128 * 0) (Y0 F)) ≠ some Q66 := Y71 Q2e
     clear ow_b K2 K9 Q2e
     go_wp2_with fail
     go_loopw [3] (fun sv wr => ∃ (j : Nat) (u : Value), (j ≤ nb F.length) ∧ (u = sv) ∧ Off [] w wr ∧ Blk wr J0c (J1 .u8 64 (fun _ => 0)) 30 ∧ Blk wr Q66 (J1 .u64 8 (Hs (Y0 F) j)) 113 ∧ Sl wr u (List.drop (128 * j) (Y0 F)) ∧ (sb u (List.drop (128 * j) (Y0 F))) ≠ some J0c ∧ (sb u (List.drop (128 * j) (Y0 F))) ≠ some Q66)
      (fun sv _ => Z0f sv)
     case atStart => exact ⟨0, _, Nat.zero_le _, rfl, off0, k_t2, k_t8, J69, Q0o, J91⟩
     case round =>
      obtain ⟨j, u, hj, rfl, off0, k_t2, k_t8, J69, Q0o, J91⟩ := hrel
      obtain ⟨W25, eW_⟩ := J3r off0
      subst eW_
      have lb := Q8y J69
      by_cases hjl : j < nb F.length
      ·
       have _f := hjl
       have hl128 : 128 ≤ (List.drop (128 * j) (Y0 F)).length := by rw [List.length_drop, hpl]; omega
       go_upto_region 17 with fail
       refine wp_region_lit ?_
       refine Lv ?_
       refine J5w (l := (List.drop (128 * j) (Y0 F))) J69 (by rfl) rfl rfl ?_
       (try simp only [Act.put, mA, mB, mC])
       refine Lw ?_ (v := .bool true) (hv := by go_simp; (try simp only [List.length_drop, hpl]); omega)
       refine J0 ?_
       go_upto_region 19 with fail
       refine wp_region_lit ?_
       refine L0A ?_ k_t8
       refine Lv ?_
       refine Lr ?_ (Y5c (Hs (Y0 F) j) (List.drop (128 * j) (Y0 F)) u hl128 W25 J69 (Q8x HG.out off0.ext))
       intro W26 hO
       replace k_t2 := k_t2.o hO
       replace k_t8 := k_t8.o hO
       replace J69 := Sl.off J69 hO f0
       replace off0 := off0.o hO
       clear hO
       refine Lp ?_ k_t8 (cells := J1 .u64 8 (prs (Hs (Y0 F) j) (bt (List.drop (128 * j) (Y0 F))))) (hi := by rw [Q1]; kernel_rfl) (hs := by rw [Q1, Q1]) (h1 := by exact Y7 _ _ _)
       intro W27 hO h_
       replace k_t8 : Blk W27 Q66 (J1 .u64 8 (prs (Hs (Y0 F) j) (bt (List.drop (128 * j) (Y0 F))))) 113 := h_
       clear h_
       replace k_t2 := k_t2.p hO nq_t2_t8
       replace J69 := Sl.off J69 hO (f1 J91)
       replace off0 := off0.p hO J1v
       clear hO
       refine J0 ?_
       go_upto_region 18 with fail
       refine wp_region_lit ?_
       refine Lv ?_
       refine Z9u (n := 128) J69 (by exact hl128) (by rfl) rfl rfl rfl ?_
       (try simp only [Act.put, mA, mB, mC])
       intro Y15 Z23 Z4p
       have Q7c : sb Y15 (List.drop 128 (List.drop (128 * j) (Y0 F))) ≠ some J0c := Z9q Z4p Q0o
       have Q7d : sb Y15 (List.drop 128 (List.drop (128 * j) (Y0 F))) ≠ some Q66 := Z9q Z4p J91
       refine Lv ?_
       refine J0 ?_
       clear J69 Q0o J91
       rw [Q38] at Z23
       rw [Q38] at Q7c
       rw [Q38] at Q7d
       have J69 := Z23
       clear Z23
       have Q0o := Q7c
       have J91 := Q7d
       have la := Q8y J69
       simp only [List.length_drop, hpl] at la lb
       go_wp2
       go_roundw
       case rel => exact ⟨j + 1, _, by omega, rfl, off0, k_t2, k_t8, J69, Q0o, J91⟩
       case measure => simp only [la, lb]; omega
      ·
       have _f := hjl
       obtain rfl : j = nb F.length := by omega
       go_upto_region 17 with fail
       refine wp_region_lit ?_
       refine Lv ?_
       refine J5w (l := (List.drop (128 * nb F.length) (Y0 F))) J69 (by rfl) rfl rfl ?_
       (try simp only [Act.put, mA, mB, mC])
       refine Lw ?_ (v := .bool false) (hv := by first | (go_simp; done) | (go_simp; (try simp only [List.length_drop, hpl]); omega))
       refine J0 ?_
       go_upto_region 20 with fail
       refine wp_region_lit ?_
       refine Ln ?_ (z := J1 .u8 64 (fun _ => 0)) (t := 30)
       intro Z4q W26 J2o hO h_
       have Q5f := bn k_t2 J2o
       have Q5g := bn k_t8 J2o
       have Y5d := J0m (Sl.lt J69) J2o
       have Q1n := fbn off0 J2o
       replace k_t2 := k_t2.o hO
       replace k_t8 := k_t8.o hO
       replace J69 := Sl.off J69 hO f0
       replace off0 := off0.o hO
       have k_t9 := h_
       clear hO h_ J2o
       refine J0 ?_
       go_upto_region 21 with fail
       refine wp_region_lit ?_
       refine L0A ?_ k_t8
       refine Lw ?_ (v := .int .i64 0)
       refine J0 ?_
       go_wp2_with fail
       go_loopw [61] (fun ii wr => ∃ (i : Nat), (i ≤ 8) ∧ (ii = .int .i64 (i : Int)) ∧ Off [] w wr ∧ Blk wr J0c (J1 .u8 64 (fun _ => 0)) 30 ∧ Blk wr Q66 (J1 .u64 8 (Hs (Y0 F) (nb F.length))) 113 ∧ Blk wr Z4q (J1 .u8 64 (Q6k (Hs (Y0 F) (nb F.length)) (8 * i))) 30 ∧ Sl wr u (List.drop (128 * nb F.length) (Y0 F)))
        (fun ii _ => 8 - (intOf ii).toNat)
       case atStart => exact ⟨0, Nat.zero_le _, rfl, off0, k_t2, k_t8, (by rw [Nat.mul_zero, Z6f]; exact k_t9), J69⟩
       case round =>
        obtain ⟨i, hi, rfl, off0, k_t2, k_t8, k_t9, J69⟩ := hrel
        obtain ⟨W27, eW_⟩ := J3r off0
        subst eW_
        by_cases h8 : i < 8
        ·
         have _f := h8
         go_upto_region 22 with fail
         refine wp_region_lit ?_
         refine Lw ?_ (v := .bool true)
         refine J0 ?_
         go_upto_region 23 with fail
         refine wp_region_lit ?_
         refine Lv ?_
         refine Lw ?_ (v := .int .u64 (Hs (Y0 F) (nb F.length) i)) (hv := Y4p (m := 8) h8 Tryd.underlying113 (by kernel_rfl) Y4s rfl rfl rfl)
         refine Lv ?_
         refine Lv ?_
         refine J0 ?_
         go_wp2_with fail
         go_loopw [65] (fun jj wr => ∃ (k : Nat), (k ≤ 8) ∧ (jj = .int .i64 (k : Int)) ∧ Off [] w wr ∧ Blk wr J0c (J1 .u8 64 (fun _ => 0)) 30 ∧ Blk wr Q66 (J1 .u64 8 (Hs (Y0 F) (nb F.length))) 113 ∧ Blk wr Z4q (J1 .u8 64 (Q6k (Hs (Y0 F) (nb F.length)) (8 * i + k))) 30 ∧ Sl wr u (List.drop (128 * nb F.length) (Y0 F)))
          (fun jj _ => 8 - (intOf jj).toNat)
         case atStart => exact ⟨0, Nat.zero_le _, rfl, off0, k_t2, k_t8, k_t9, J69⟩
         case round =>
          obtain ⟨k, hk, rfl, off0, k_t2, k_t8, k_t9, J69⟩ := hrel
          obtain ⟨W28, eW_⟩ := J3r off0
          subst eW_
          by_cases hk8 : k < 8
          ·
           have _f := hk8
           go_upto_region 25 with fail
           refine wp_region_lit ?_
           refine Lw ?_ (v := .bool true)
           refine J0 ?_
           go_upto_region 27 with fail
           refine wp_region_lit ?_
           refine Lv ?_
           refine Lw ?_ (v := .int .i64 (((8 * i : Nat) : Int))) (hv := by go_simp; (try simp only [IntKind.wrap_u64, IntKind.wrap_i64]); (try omega))
           refine Lv ?_
           refine Lw ?_ (v := .int .i64 (((8 * i + k : Nat) : Int))) (hv := by go_simp; (try simp only [IntKind.wrap_u64, IntKind.wrap_i64]); (try omega))
           refine Lv ?_
           refine Lv ?_
           refine Lw ?_ (v := .int .i64 (((7 - k : Nat) : Int))) (hv := by go_simp; (try simp only [IntKind.wrap_u64, IntKind.wrap_i64]); (try omega))
           refine Lw ?_ (v := .int .i64 (((8 * (7 - k) : Nat) : Int))) (hv := by go_simp; (try simp only [IntKind.wrap_u64, IntKind.wrap_i64]); (try omega))
           refine Lw ?_ (v := .int .u64 (sr (Hs (Y0 F) (nb F.length) i) (8 * (7 - k)))) (hv := J1l (n := 8 * (7 - k)) (by omega) rfl rfl rfl)
           refine Lw ?_ (v := .int .u8 (w8 (sr (Hs (Y0 F) (nb F.length) i) (8 * (7 - k))))) (hv := by exact J3t rfl rfl)
           refine Lw ?_ (v := .pointer (some ⟨Z4q, 0 + (8 * i + k), none⟩)) (hv := Q0 (m := 64) (by decide) (by omega) Tryd.underlying30 (by kernel_rfl) rfl rfl rfl)
           refine J2i (v := .int .u8 (w8 (sr (Hs (Y0 F) (nb F.length) i) (8 * (7 - k))))) ⟨rfl, rfl⟩ (by rfl) rfl rfl rfl k_t9 (by rw [Q1, Nat.zero_add]; omega) (by kernel_rfl) ?_
           (try simp only [Act.put, mA, mB, mC])
           intro W29 hO h_
           rw [Nat.zero_add, J04] at h_
           replace k_t9 : Blk W29 Z4q (J1 .u8 64 (upd (Q6k (Hs (Y0 F) (nb F.length)) (8 * i + k)) (8 * i + k) (w8 (sr (Hs (Y0 F) (nb F.length) i) (8 * (7 - k)))))) 30 := h_
           clear h_
           replace k_t2 := k_t2.p hO Q5f
           replace k_t8 := k_t8.p hO Q5g
           replace J69 := Sl.off J69 hO (f1 Y5d)
           replace off0 := off0.p hO Q1n
           clear hO
           refine J0 ?_
           go_wp2
           go_roundw
           case rel => exact ⟨k + 1, by omega, by go_num, off0, k_t2, k_t8, (by rw [← Z6g _ _ _ hk8]; exact k_t9), J69⟩
           case measure => simp [intOf]; omega
          ·
           have _f := hk8
           obtain rfl : k = 8 := by omega
           go_upto_region 25 with fail
           refine wp_region_lit ?_
           refine Lw ?_ (v := .bool false)
           refine J0 ?_
           go_wp2
           go_roundw
           case rel => exact ⟨i + 1, by omega, by go_num, off0, k_t2, k_t8, (by rw [show 8 * (i + 1) = 8 * i + 8 by omega]; exact k_t9), J69⟩
           case measure => simp [intOf]; omega
        ·
         have _f := h8
         obtain rfl : i = 8 := by omega
         rw [show 8 * 8 = 64 by rfl, Y07] at k_t9
         go_upto_region 22 with fail
         refine wp_region_lit ?_
         refine Lw ?_ (v := .bool false)
         refine J0 ?_
         go_upto_region 30 with fail
         refine wp_region_lit ?_
         refine L0A ?_ k_t9
         refine Lp ?_ k_t2 (cells := J1 .u8 64 (ob (Hs (Y0 F) (nb F.length)))) (hi := by rw [Q1]; kernel_rfl) (hs := by rw [Q1, Q1]) (h1 := by exact Y7 _ _ _)
         intro W28 hO h_
         replace k_t2 : Blk W28 J0c (J1 .u8 64 (ob (Hs (Y0 F) (nb F.length)))) 30 := h_
         clear h_
         replace off0 := off0.p hO J01
         clear hO
         refine J0 ?_
         go_wp2
         refine bodyPost_ret (K6 rfl rfl k_t2 (by kernel_rfl) (by rw [Q1]; kernel_rfl)) rfl ⟨rfl, off0.ext⟩
end Go.Proofs.YtefpoollmbmkfaaDoor
