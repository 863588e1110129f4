/- sha5.Sum: the sum of parts, one behind the other. Conditions: the parts read as bytes; the tables hold their numbers. -/
import Derived.Test.YtefpoollmbmkfaaDoorGc
import Derived.Test.YtefpoollmbmkfaaDoorHb
set_option linter.unusedSimpArgs false
set_option linter.unusedVariables false
namespace Go.Proofs.YtefpoollmbmkfaaDoor
set_option maxHeartbeats 4000000
set_option maxRecDepth 100000
open Go.RowKit
attribute [local irreducible] wpList
theorem Y51 (h : Nat → Int) (l : List UInt8) (u : Value) (hl : 128 ≤ l.length) (w : World) (hs : Sl w u l) (hG : GS w) : Calls Tryd.prog 81 #[.agg (J1 .u64 8 h), u] w fun e w' => Ret (.agg (J1 .u64 8 (prs h (bt l)))) w w' e := by
  obtain ⟨ad, c, rfl, _⟩ := Z42 hs (by omega)
  exact Y4b h l ad c hl w hs hG

theorem V33 (ps : List (List UInt8)) (A : Option Addr) (c : Nat) (F : List UInt8) (hF : ps.flatten = F) (hlen : F.length ≤ 70368744177664) (hpn : ps.length ≤ 9223372036854775000) (w : World) (hps : ∀ i l, ps[i]? = some l → ∃ ad u, A = some ad ∧ w.cell? (ad.add i) = some u ∧ Sl w u l) (hG : GS w) :
  Calls Tryd.prog 32 #[.slice A ps.length c] w fun e w' => Ret (.agg (J1 .u8 64 (sm F))) w w' e := by
 have HG := Lib.hid hG
 have HPS := Lib.hid hps
 clear hG hps
 have hpl := Q5x F
 have hzc := (Q22 F.length).2
 have off0 : Off [] w w := Off.refl _ _
 go_enter Tryd.func32, Tryd.ntmps32
 go_upto_region 0 with fail
 refine wp_region_lit ?_
 refine Ln ?_ (z := J1 .u8 64 (fun _ => 0)) (t := 30)
 intro J0b W1 K7 hO h_
 have K8 := fbn off0 K7
 replace off0 := off0.o hO
 have k_t2 := h_
 clear hO h_ K7
 refine J0 ?_
 go_upto_region 2 with fail
 refine wp_region_lit ?_
 refine Lv ?_
 refine Lv ?_
 refine Lw ?_ (v := .int .i64 0)
 refine J0 ?_
 have ow_b := Z3z W1
 have K2 : Fr (Value.ownBlock (.slice none 0 0)) w.heap.size [] := Z3y
 have J00 : Value.ownBlock (.slice none 0 0) ≠ some J0b := fun e_ => by cases e_
 go_wp2_with fail
 go_loopw [3, 15] (fun sv ii wr => ∃ (i : Nat) (bv : Value), (i ≤ ps.length) ∧ (bv = sv) ∧ (ii = .int .i64 (i : Int)) ∧ Off [] w wr ∧ Blk wr J0b (J1 .u8 64 (fun _ => 0)) 30 ∧ Own wr bv ((List.take i ps).flatten) ∧ Fr (Value.ownBlock bv) w.heap.size [] ∧ (Value.ownBlock bv) ≠ some J0b)
  (fun sv ii _ => ps.length - (intOf ii).toNat)
 case atStart => exact ⟨0, _, Nat.zero_le _, rfl, rfl, off0, k_t2, ow_b, K2, J00⟩
 case round =>
  obtain ⟨i, bv, hi, rfl, rfl, off0, k_t2, ow_b, K2, J00⟩ := hrel
  obtain ⟨W2, eW_⟩ := J3s off0
  subst eW_
  by_cases hlt : i < ps.length
  ·
   have _f := hlt
   obtain ⟨l_, hl_⟩ : ∃ l, ps[i]? = some l := ⟨_, List.getElem?_eq_getElem hlt⟩
   obtain ⟨ad_, u_, hA_, hc_, hu_⟩ := HPS.out i l_ hl_
   have hfl : (List.take i ps).flatten.length + l_.length ≤ F.length := by rw [← hF, ← List.length_append, ← Q76 hl_]; exact Z9v _ _
   go_upto_region 3 with fail
   refine wp_region_lit ?_
   refine Lw ?_ (v := .bool true)
   refine J0 ?_
   go_upto_region 4 with fail
   refine wp_region_lit ?_
   refine Lw ?_ (v := .pointer (some (ad_.add i))) (hv := Y4f (j := i) hlt rfl (by rw [← hA_]; rfl) rfl)
   refine Q2l (by rfl) rfl rfl (J73 hc_ off0.ext) (by kernel_rfl) ?_
   (try simp only [Act.put, mA, mB, mC])
   refine Lv ?_
   refine J0 ?_
   go_upto_region 5 with fail
   refine wp_region_lit ?_
   refine Lv ?_
   refine Lv ?_
   refine J0i (xs := ((List.take i ps).flatten)) (ys := l_) (by rfl) rfl rfl rfl ow_b (hu_.off off0 f0) (by first | omega | (simp only [List.length_append, List.length_cons, List.length_nil, List.length_replicate]; omega)) ?_
   (try simp only [Act.put, mA, mB, mC])
   intro V6h W3 Y0m hO Z1u nil_a21
   clear nil_a21
   have Z6f := J18 Z1u J00 (J5 k_t2)
   have Y9o := J0l Z1u K2 off0.size
   replace k_t2 := U0 k_t2 hO (nmo J00)
   replace off0 := off0.step hO (io K2)
   clear hO Z1u
   have ow_b := Y0m
   clear Y0m
   have K2 := Y9o
   have J00 := Z6f
   refine Lv ?_
   refine J0 ?_
   go_wp2
   go_roundw
   case rel => exact ⟨i + 1, _, by omega, rfl, by go_num, off0, k_t2, (by rw [Q76 hl_]; exact ow_b), K2, J00⟩
   case measure => simp [intOf]; omega
  ·
   have _f := hlt
   obtain rfl : i = ps.length := by omega
   rw [List.take_length, hF] at ow_b
   go_upto_region 3 with fail
   refine wp_region_lit ?_
   refine Lw ?_ (v := .bool false)
   refine J0 ?_
   go_upto_region 7 with fail
   refine wp_region_lit ?_
   refine Lv ?_
   refine J5s (l := F) (ow_b.sl) (by rfl) rfl rfl ?_
   (try simp only [Act.put, mA, mB, mC])
   refine Lw ?_ (v := .int .u64 ((F.length : Nat) : Int)) (hv := by go_simp; (try simp only [IntKind.wrap_u64, IntKind.wrap_i64]); (try omega))
   refine Lw ?_ (v := .int .u64 ((8 * F.length : Nat) : Int)) (hv := by rw [show ((8 * F.length : Nat) : Int) = sl ((F.length : Nat) : Int) 3 from (by unfold sl; rw [IntKind.wrap_u64]; omega)]; exact Q20 (n := 3) (by decide) rfl rfl rfl)
   refine Lv ?_
   refine J0 ?_
   go_upto_region 8 with fail
   refine wp_region_lit ?_
   refine Lv ?_
   refine LnS ?_ (z := #[.int .u8 128]) (t := 5) (n := 1) (c := 1)
   intro V35 W3 Y0n hO h_
   replace k_t2 := k_t2.o hO
   replace ow_b := Own.off ow_b hO f0
   replace off0 := off0.o hO
   have ow_s28 : Own W3 (.slice (some ⟨V35, 0, none⟩) 1 1) [128] := V8 h_ (by rfl) (by show 1 ≤ maxLen; decide)
   clear hO h_ Y0n
   refine J0i (xs := F) (ys := [128]) (by rfl) rfl rfl rfl ow_b (ow_s28.sl) (by first | omega | (simp only [List.length_append, List.length_cons, List.length_nil, List.length_replicate]; omega)) ?_
   (try simp only [Act.put, mA, mB, mC])
   intro V6i W4 J8x hO Q60 nil_a29
   clear nil_a29
   have Z6g := J18 Q60 J00 (J5 k_t2)
   have Y9p := J0l Q60 K2 off0.size
   replace k_t2 := U0 k_t2 hO (nmo J00)
   replace off0 := off0.step hO (io K2)
   clear hO Q60
   have ow_b := J8x
   clear J8x
   have K2 := Y9p
   have J00 := Z6g
   refine Lv ?_
   refine J0 ?_
   clear ow_s28
   go_wp2_with fail
   go_loopw [3] (fun sv wr => ∃ (k : Nat) (bv : Value), (k ≤ zc F.length) ∧ (bv = sv) ∧ Off [] w wr ∧ Blk wr J0b (J1 .u8 64 (fun _ => 0)) 30 ∧ Own wr bv (F ++ [128] ++ List.replicate k 0) ∧ Fr (Value.ownBlock bv) w.heap.size [] ∧ (Value.ownBlock bv) ≠ some J0b)
    (fun sv _ => F.length + 300 - Z09 sv)
   case atStart => exact ⟨0, _, Nat.zero_le _, rfl, off0, k_t2, (by rw [List.replicate_zero, List.append_nil]; exact ow_b), K2, J00⟩
   case round =>
    obtain ⟨k, bv, hk, rfl, off0, k_t2, ow_b, K2, J00⟩ := hrel
    obtain ⟨W5, eW_⟩ := J3s off0
    subst eW_
    have lb := Z4a ow_b
    by_cases hz : k < zc F.length
    ·
     have _f := hz
     have hz2 := Y6x hz
     go_upto_region 9 with fail
     refine wp_region_lit ?_
     refine Lv ?_
     refine J5s (l := (F ++ [128] ++ List.replicate k 0)) (ow_b.sl) (by rfl) rfl rfl ?_
     (try simp only [Act.put, mA, mB, mC])
     refine Lw ?_ (v := .int .i64 (((F.length + 1 + k) % 128 : Nat) : Int)) (hv := by go_simp; (try simp only [List.length_append, List.length_cons, List.length_nil, List.length_replicate]); rw [Int.tmod_eq_emod_of_nonneg (by omega)]; omega)
     refine Lw ?_ (v := .bool true) (hv := by go_simp; omega)
     refine J0 ?_
     go_upto_region 10 with fail
     refine wp_region_lit ?_
     refine Lv ?_
     refine LnS ?_ (z := #[.int .u8 0]) (t := 5) (n := 1) (c := 1)
     intro V36 W6 V37 hO h_
     replace k_t2 := k_t2.o hO
     replace ow_b := Own.off ow_b hO f0
     replace off0 := off0.o hO
     have ow_s35 : Own W6 (.slice (some ⟨V36, 0, none⟩) 1 1) [0] := V8 h_ (by rfl) (by show 1 ≤ maxLen; decide)
     clear hO h_ V37
     refine J0i (xs := (F ++ [128] ++ List.replicate k 0)) (ys := [0]) (by rfl) rfl rfl rfl ow_b (ow_s35.sl) (by first | omega | (simp only [List.length_append, List.length_cons, List.length_nil, List.length_replicate]; omega)) ?_
     (try simp only [Act.put, mA, mB, mC])
     intro V6j W7 Y0o hO Z1v nil_a36
     clear nil_a36
     have Z6h := J18 Z1v J00 (J5 k_t2)
     have Y9q := J0l Z1v K2 off0.size
     replace k_t2 := U0 k_t2 hO (nmo J00)
     replace off0 := off0.step hO (io K2)
     clear hO Z1v
     have ow_b := Y0o
     clear Y0o
     have K2 := Y9q
     have J00 := Z6h
     refine Lv ?_
     refine J0 ?_
     have la := Z4a ow_b
     simp only [List.length_append, List.length_cons, List.length_nil, List.length_replicate] at la lb
     go_wp2
     go_roundw
     case rel => exact ⟨k + 1, _, by omega, rfl, off0, k_t2, (by rw [List.replicate_succ', ← List.append_assoc]; exact ow_b), K2, J00⟩
     case measure => simp only [la, lb]; omega
    ·
     have _f := hz
     obtain rfl : k = zc F.length := by omega
     have hz2 := (Q22 F.length).1
     go_upto_region 9 with fail
     refine wp_region_lit ?_
     refine Lv ?_
     refine J5s (l := (F ++ [128] ++ List.replicate (zc F.length) 0)) (ow_b.sl) (by rfl) rfl rfl ?_
     (try simp only [Act.put, mA, mB, mC])
     refine Lw ?_ (v := .int .i64 (((F.length + 1 + zc F.length) % 128 : Nat) : Int)) (hv := by go_simp; (try simp only [List.length_append, List.length_cons, List.length_nil, List.length_replicate]); rw [Int.tmod_eq_emod_of_nonneg (by omega)]; omega)
     refine Lw ?_ (v := .bool false) (hv := by first | (go_simp; done) | (go_simp; omega))
     refine J0 ?_
     go_upto_region 11 with fail
     refine wp_region_lit ?_
     refine Lv ?_
     refine Z08 (xs := (F ++ [128] ++ List.replicate (zc F.length) 0)) (m := 8) (by decide) (by rfl) rfl rfl rfl ow_b (by first | omega | (simp only [List.length_append, List.length_cons, List.length_nil, List.length_replicate]; omega)) ?_
     (try simp only [Act.put, mA, mB, mC])
     intro V38 W6 Y0p hO Z1w
     have Z6i := J18 Z1w J00 (J5 k_t2)
     have Y9r := J0l Z1w K2 off0.size
     replace k_t2 := U0 k_t2 hO (nmo J00)
     replace off0 := off0.step hO (io K2)
     clear hO Z1w
     have ow_b := Y0p
     clear Y0p
     have K2 := Y9r
     have J00 := Z6i
     refine Lv ?_
     refine J0 ?_
     go_wp2_with fail
     refine wp_loop_rounds 9 ?_
     rw [rounds_succ]
     go_upto_region 15 with fail
     refine wp_region_lit ?_
     refine Lv ?_
     refine Lv ?_
     refine Lw ?_ (v := .int .i64 7)
     refine Lw ?_ (v := .int .i64 56)
     refine Lw ?_ (v := .int .u64 (sr ((8 * F.length : Nat) : Int) 56)) (hv := J1l (n := 56) (by decide) rfl rfl rfl)
     refine Lw ?_ (v := .int .u8 ((u8 ((8 * F.length) / 72057594037927936)).toNat : Int)) (hv := by rw [← J9w (8 * F.length) 56 72057594037927936 (by decide)]; exact J3u rfl rfl)
     refine LnS ?_ (z := #[.int .u8 ((u8 ((8 * F.length) / 72057594037927936)).toNat : Int)]) (t := 5) (n := 1) (c := 1)
     intro Y76 W7 J17 hO h_
     have Y6 : ∀ x, (Value.ownBlock V38) = some x → Value.ownBlock (.slice (some ⟨Y76, 0, none⟩) 1 1) ≠ some x := J1k (Own.lt ow_b) J17
     replace k_t2 := k_t2.o hO
     replace ow_b := Own.off ow_b hO f0
     replace off0 := off0.o hO
     have ow_s49 : Own W7 (.slice (some ⟨Y76, 0, none⟩) 1 1) [u8 ((8 * F.length) / 72057594037927936)] := V8 h_ (by rfl) (by show 1 ≤ maxLen; decide)
     clear hO h_ J17
     refine J0i (xs := ((F ++ [128] ++ List.replicate (zc F.length) 0) ++ List.replicate 8 0)) (ys := [u8 ((8 * F.length) / 72057594037927936)]) (by rfl) rfl rfl rfl ow_b (ow_s49.sl) (by first | omega | (simp only [List.length_append, List.length_cons, List.length_nil, List.length_replicate]; omega)) ?_
     (try simp only [Act.put, mA, mB, mC])
     intro V39 W8 J0d hO V9 nil_a50
     clear nil_a50
     have J1w := J18 V9 J00 (J5 k_t2)
     have J0e := J0p V9 Y6 (Own.lt ow_s49)
     have J1m := J0l V9 K2 off0.size
     replace k_t2 := U0 k_t2 hO (nmo J00)
     replace ow_s49 := Own.off ow_s49 hO (fo Y6)
     replace off0 := off0.step hO (io K2)
     clear hO V9
     have ow_b := J0d
     clear J0d
     have K2 := J1m
     have J00 := J1w
     have Y6 := J0e
     refine Lv ?_
     refine J0 ?_
     go_wp2_with fail
     rw [rounds_succ]
     go_upto_region 15 with fail
     refine wp_region_lit ?_
     refine Lv ?_
     refine Lv ?_
     refine Lw ?_ (v := .int .i64 6)
     refine Lw ?_ (v := .int .i64 48)
     refine Lw ?_ (v := .int .u64 (sr ((8 * F.length : Nat) : Int) 48)) (hv := J1l (n := 48) (by decide) rfl rfl rfl)
     refine Lw ?_ (v := .int .u8 ((u8 ((8 * F.length) / 281474976710656)).toNat : Int)) (hv := by rw [← J9w (8 * F.length) 48 281474976710656 (by decide)]; exact J3u rfl rfl)
     clear ow_s49 Y6
     refine LnS ?_ (z := #[.int .u8 ((u8 ((8 * F.length) / 281474976710656)).toNat : Int)]) (t := 5) (n := 1) (c := 1)
     intro Y77 W9 J17 hO h_
     have Y6 : ∀ x, (Value.ownBlock V39) = some x → Value.ownBlock (.slice (some ⟨Y77, 0, none⟩) 1 1) ≠ some x := J1k (Own.lt ow_b) J17
     replace k_t2 := k_t2.o hO
     replace ow_b := Own.off ow_b hO f0
     replace off0 := off0.o hO
     have ow_s49 : Own W9 (.slice (some ⟨Y77, 0, none⟩) 1 1) [u8 ((8 * F.length) / 281474976710656)] := V8 h_ (by rfl) (by show 1 ≤ maxLen; decide)
     clear hO h_ J17
     refine J0i (xs := (((F ++ [128] ++ List.replicate (zc F.length) 0) ++ List.replicate 8 0) ++ [u8 ((8 * F.length) / 72057594037927936)])) (ys := [u8 ((8 * F.length) / 281474976710656)]) (by rfl) rfl rfl rfl ow_b (ow_s49.sl) (by first | omega | (simp only [List.length_append, List.length_cons, List.length_nil, List.length_replicate]; omega)) ?_
     (try simp only [Act.put, mA, mB, mC])
     intro Y9s W10 J0d hO V9 nil_a50
     clear nil_a50
     have J1w := J18 V9 J00 (J5 k_t2)
     have J0e := J0p V9 Y6 (Own.lt ow_s49)
     have J1m := J0l V9 K2 off0.size
     replace k_t2 := U0 k_t2 hO (nmo J00)
     replace ow_s49 := Own.off ow_s49 hO (fo Y6)
     replace off0 := off0.step hO (io K2)
     clear hO V9
     have ow_b := J0d
     clear J0d
     have K2 := J1m
     have J00 := J1w
     have Y6 := J0e
     refine Lv ?_
     refine J0 ?_
     go_wp2_with fail
     rw [rounds_succ]
     go_upto_region 15 with fail
     refine wp_region_lit ?_
     refine Lv ?_
     refine Lv ?_
     refine Lw ?_ (v := .int .i64 5)
     refine Lw ?_ (v := .int .i64 40)
     refine Lw ?_ (v := .int .u64 (sr ((8 * F.length : Nat) : Int) 40)) (hv := J1l (n := 40) (by decide) rfl rfl rfl)
     refine Lw ?_ (v := .int .u8 ((u8 ((8 * F.length) / 1099511627776)).toNat : Int)) (hv := by rw [← J9w (8 * F.length) 40 1099511627776 (by decide)]; exact J3u rfl rfl)
     clear ow_s49 Y6
     refine LnS ?_ (z := #[.int .u8 ((u8 ((8 * F.length) / 1099511627776)).toNat : Int)]) (t := 5) (n := 1) (c := 1)
     intro Y0q W11 J17 hO h_
     have Y6 : ∀ x, (Value.ownBlock Y9s) = some x → Value.ownBlock (.slice (some ⟨Y0q, 0, none⟩) 1 1) ≠ some x := J1k (Own.lt ow_b) J17
     replace k_t2 := k_t2.o hO
     replace ow_b := Own.off ow_b hO f0
     replace off0 := off0.o hO
     have ow_s49 : Own W11 (.slice (some ⟨Y0q, 0, none⟩) 1 1) [u8 ((8 * F.length) / 1099511627776)] := V8 h_ (by rfl) (by show 1 ≤ maxLen; decide)
     clear hO h_ J17
     refine J0i (xs := ((((F ++ [128] ++ List.replicate (zc F.length) 0) ++ List.replicate 8 0) ++ [u8 ((8 * F.length) / 72057594037927936)]) ++ [u8 ((8 * F.length) / 281474976710656)])) (ys := [u8 ((8 * F.length) / 1099511627776)]) (by rfl) rfl rfl rfl ow_b (ow_s49.sl) (by first | omega | (simp only [List.length_append, List.length_cons, List.length_nil, List.length_replicate]; omega)) ?_
     (try simp only [Act.put, mA, mB, mC])
     intro Y9t W12 J0d hO V9 nil_a50
     clear nil_a50
     have J1w := J18 V9 J00 (J5 k_t2)
     have J0e := J0p V9 Y6 (Own.lt ow_s49)
     have J1m := J0l V9 K2 off0.size
     replace k_t2 := U0 k_t2 hO (nmo J00)
     replace ow_s49 := Own.off ow_s49 hO (fo Y6)
     replace off0 := off0.step hO (io K2)
     clear hO V9
     have ow_b := J0d
     clear J0d
     have K2 := J1m
     have J00 := J1w
     have Y6 := J0e
     refine Lv ?_
     refine J0 ?_
     go_wp2_with fail
     rw [rounds_succ]
     go_upto_region 15 with fail
     refine wp_region_lit ?_
     refine Lv ?_
     refine Lv ?_
     refine Lw ?_ (v := .int .i64 4)
     refine Lw ?_ (v := .int .i64 32)
     refine Lw ?_ (v := .int .u64 (sr ((8 * F.length : Nat) : Int) 32)) (hv := J1l (n := 32) (by decide) rfl rfl rfl)
     refine Lw ?_ (v := .int .u8 ((u8 ((8 * F.length) / 4294967296)).toNat : Int)) (hv := by rw [← J9w (8 * F.length) 32 4294967296 (by decide)]; exact J3u rfl rfl)
     clear ow_s49 Y6
     refine LnS ?_ (z := #[.int .u8 ((u8 ((8 * F.length) / 4294967296)).toNat : Int)]) (t := 5) (n := 1) (c := 1)
     intro Y0r W13 J17 hO h_
     have Y6 : ∀ x, (Value.ownBlock Y9t) = some x → Value.ownBlock (.slice (some ⟨Y0r, 0, none⟩) 1 1) ≠ some x := J1k (Own.lt ow_b) J17
     replace k_t2 := k_t2.o hO
     replace ow_b := Own.off ow_b hO f0
     replace off0 := off0.o hO
     have ow_s49 : Own W13 (.slice (some ⟨Y0r, 0, none⟩) 1 1) [u8 ((8 * F.length) / 4294967296)] := V8 h_ (by rfl) (by show 1 ≤ maxLen; decide)
     clear hO h_ J17
     refine J0i (xs := (((((F ++ [128] ++ List.replicate (zc F.length) 0) ++ List.replicate 8 0) ++ [u8 ((8 * F.length) / 72057594037927936)]) ++ [u8 ((8 * F.length) / 281474976710656)]) ++ [u8 ((8 * F.length) / 1099511627776)])) (ys := [u8 ((8 * F.length) / 4294967296)]) (by rfl) rfl rfl rfl ow_b (ow_s49.sl) (by first | omega | (simp only [List.length_append, List.length_cons, List.length_nil, List.length_replicate]; omega)) ?_
     (try simp only [Act.put, mA, mB, mC])
     intro Y9u W14 J0d hO V9 nil_a50
     clear nil_a50
     have J1w := J18 V9 J00 (J5 k_t2)
     have J0e := J0p V9 Y6 (Own.lt ow_s49)
     have J1m := J0l V9 K2 off0.size
     replace k_t2 := U0 k_t2 hO (nmo J00)
     replace ow_s49 := Own.off ow_s49 hO (fo Y6)
     replace off0 := off0.step hO (io K2)
     clear hO V9
     have ow_b := J0d
     clear J0d
     have K2 := J1m
     have J00 := J1w
     have Y6 := J0e
     refine Lv ?_
     refine J0 ?_
     go_wp2_with fail
     rw [rounds_succ]
     go_upto_region 15 with fail
     refine wp_region_lit ?_
     refine Lv ?_
     refine Lv ?_
     refine Lw ?_ (v := .int .i64 3)
     refine Lw ?_ (v := .int .i64 24)
     refine Lw ?_ (v := .int .u64 (sr ((8 * F.length : Nat) : Int) 24)) (hv := J1l (n := 24) (by decide) rfl rfl rfl)
     refine Lw ?_ (v := .int .u8 ((u8 ((8 * F.length) / 16777216)).toNat : Int)) (hv := by rw [← J9w (8 * F.length) 24 16777216 (by decide)]; exact J3u rfl rfl)
     clear ow_s49 Y6
     refine LnS ?_ (z := #[.int .u8 ((u8 ((8 * F.length) / 16777216)).toNat : Int)]) (t := 5) (n := 1) (c := 1)
     intro Y0s W15 J17 hO h_
     have Y6 : ∀ x, (Value.ownBlock Y9u) = some x → Value.ownBlock (.slice (some ⟨Y0s, 0, none⟩) 1 1) ≠ some x := J1k (Own.lt ow_b) J17
     replace k_t2 := k_t2.o hO
     replace ow_b := Own.off ow_b hO f0
     replace off0 := off0.o hO
     have ow_s49 : Own W15 (.slice (some ⟨Y0s, 0, none⟩) 1 1) [u8 ((8 * F.length) / 16777216)] := V8 h_ (by rfl) (by show 1 ≤ maxLen; decide)
     clear hO h_ J17
     refine J0i (xs := ((((((F ++ [128] ++ List.replicate (zc F.length) 0) ++ List.replicate 8 0) ++ [u8 ((8 * F.length) / 72057594037927936)]) ++ [u8 ((8 * F.length) / 281474976710656)]) ++ [u8 ((8 * F.length) / 1099511627776)]) ++ [u8 ((8 * F.length) / 4294967296)])) (ys := [u8 ((8 * F.length) / 16777216)]) (by rfl) rfl rfl rfl ow_b (ow_s49.sl) (by first | omega | (simp only [List.length_append, List.length_cons, List.length_nil, List.length_replicate]; omega)) ?_
     (try simp only [Act.put, mA, mB, mC])
     intro Y9v W16 J0d hO V9 nil_a50
     clear nil_a50
     have J1w := J18 V9 J00 (J5 k_t2)
     have J0e := J0p V9 Y6 (Own.lt ow_s49)
     have J1m := J0l V9 K2 off0.size
     replace k_t2 := U0 k_t2 hO (nmo J00)
     replace ow_s49 := Own.off ow_s49 hO (fo Y6)
     replace off0 := off0.step hO (io K2)
     clear hO V9
     have ow_b := J0d
     clear J0d
     have K2 := J1m
     have J00 := J1w
     have Y6 := J0e
     refine Lv ?_
     refine J0 ?_
     go_wp2_with fail
     rw [rounds_succ]
     go_upto_region 15 with fail
     refine wp_region_lit ?_
     refine Lv ?_
     refine Lv ?_
     refine Lw ?_ (v := .int .i64 2)
     refine Lw ?_ (v := .int .i64 16)
     refine Lw ?_ (v := .int .u64 (sr ((8 * F.length : Nat) : Int) 16)) (hv := J1l (n := 16) (by decide) rfl rfl rfl)
     refine Lw ?_ (v := .int .u8 ((u8 ((8 * F.length) / 65536)).toNat : Int)) (hv := by rw [← J9w (8 * F.length) 16 65536 (by decide)]; exact J3u rfl rfl)
     clear ow_s49 Y6
     refine LnS ?_ (z := #[.int .u8 ((u8 ((8 * F.length) / 65536)).toNat : Int)]) (t := 5) (n := 1) (c := 1)
     intro Y0t W17 J17 hO h_
     have Y6 : ∀ x, (Value.ownBlock Y9v) = some x → Value.ownBlock (.slice (some ⟨Y0t, 0, none⟩) 1 1) ≠ some x := J1k (Own.lt ow_b) J17
     replace k_t2 := k_t2.o hO
     replace ow_b := Own.off ow_b hO f0
     replace off0 := off0.o hO
     have ow_s49 : Own W17 (.slice (some ⟨Y0t, 0, none⟩) 1 1) [u8 ((8 * F.length) / 65536)] := V8 h_ (by rfl) (by show 1 ≤ maxLen; decide)
     clear hO h_ J17
     refine J0i (xs := (((((((F ++ [128] ++ List.replicate (zc F.length) 0) ++ List.replicate 8 0) ++ [u8 ((8 * F.length) / 72057594037927936)]) ++ [u8 ((8 * F.length) / 281474976710656)]) ++ [u8 ((8 * F.length) / 1099511627776)]) ++ [u8 ((8 * F.length) / 4294967296)]) ++ [u8 ((8 * F.length) / 16777216)])) (ys := [u8 ((8 * F.length) / 65536)]) (by rfl) rfl rfl rfl ow_b (ow_s49.sl) (by first | omega | (simp only [List.length_append, List.length_cons, List.length_nil, List.length_replicate]; omega)) ?_
     (try simp only [Act.put, mA, mB, mC])
     intro Y9w W18 J0d hO V9 nil_a50
     clear nil_a50
     have J1w := J18 V9 J00 (J5 k_t2)
     have J0e := J0p V9 Y6 (Own.lt ow_s49)
     have J1m := J0l V9 K2 off0.size
     replace k_t2 := U0 k_t2 hO (nmo J00)
     replace ow_s49 := Own.off ow_s49 hO (fo Y6)
     replace off0 := off0.step hO (io K2)
     clear hO V9
     have ow_b := J0d
     clear J0d
     have K2 := J1m
     have J00 := J1w
     have Y6 := J0e
     refine Lv ?_
     refine J0 ?_
     go_wp2_with fail
     rw [rounds_succ]
     go_upto_region 15 with fail
     refine wp_region_lit ?_
     refine Lv ?_
     refine Lv ?_
     refine Lw ?_ (v := .int .i64 1)
     refine Lw ?_ (v := .int .i64 8)
     refine Lw ?_ (v := .int .u64 (sr ((8 * F.length : Nat) : Int) 8)) (hv := J1l (n := 8) (by decide) rfl rfl rfl)
     refine Lw ?_ (v := .int .u8 ((u8 ((8 * F.length) / 256)).toNat : Int)) (hv := by rw [← J9w (8 * F.length) 8 256 (by decide)]; exact J3u rfl rfl)
     clear ow_s49 Y6
     refine LnS ?_ (z := #[.int .u8 ((u8 ((8 * F.length) / 256)).toNat : Int)]) (t := 5) (n := 1) (c := 1)
     intro Y0u W19 J17 hO h_
     have Y6 : ∀ x, (Value.ownBlock Y9w) = some x → Value.ownBlock (.slice (some ⟨Y0u, 0, none⟩) 1 1) ≠ some x := J1k (Own.lt ow_b) J17
     replace k_t2 := k_t2.o hO
     replace ow_b := Own.off ow_b hO f0
     replace off0 := off0.o hO
     have ow_s49 : Own W19 (.slice (some ⟨Y0u, 0, none⟩) 1 1) [u8 ((8 * F.length) / 256)] := V8 h_ (by rfl) (by show 1 ≤ maxLen; decide)
     clear hO h_ J17
     refine J0i (xs := ((((((((F ++ [128] ++ List.replicate (zc F.length) 0) ++ List.replicate 8 0) ++ [u8 ((8 * F.length) / 72057594037927936)]) ++ [u8 ((8 * F.length) / 281474976710656)]) ++ [u8 ((8 * F.length) / 1099511627776)]) ++ [u8 ((8 * F.length) / 4294967296)]) ++ [u8 ((8 * F.length) / 16777216)]) ++ [u8 ((8 * F.length) / 65536)])) (ys := [u8 ((8 * F.length) / 256)]) (by rfl) rfl rfl rfl ow_b (ow_s49.sl) (by first | omega | (simp only [List.length_append, List.length_cons, List.length_nil, List.length_replicate]; omega)) ?_
     (try simp only [Act.put, mA, mB, mC])
     intro V5g W20 J0d hO V9 nil_a50
     clear nil_a50
     have J1w := J18 V9 J00 (J5 k_t2)
     have J1m := J0l V9 K2 off0.size
     replace k_t2 := U0 k_t2 hO (nmo J00)
     replace ow_s49 := Own.off ow_s49 hO (fo Y6)
     replace off0 := off0.step hO (io K2)
     clear hO V9
     have ow_b := J0d
     clear J0d
     have K2 := J1m
     have J00 := J1w
     refine Lv ?_
     refine J0 ?_
     go_wp2_with fail
     rw [rounds_succ]
     go_upto_region 15 with fail
     refine wp_region_lit ?_
     refine Lv ?_
     refine Lv ?_
     refine Lw ?_ (v := .int .i64 0)
     refine Lw ?_ (v := .int .i64 0)
     refine Lw ?_ (v := .int .u64 (sr ((8 * F.length : Nat) : Int) 0)) (hv := J1l (n := 0) (by decide) rfl rfl rfl)
     refine Lw ?_ (v := .int .u8 ((u8 (8 * F.length)).toNat : Int)) (hv := by rw [← Y4i (8 * F.length)]; exact J3u rfl rfl)
     clear ow_s49 Y6
     refine LnS ?_ (z := #[.int .u8 ((u8 (8 * F.length)).toNat : Int)]) (t := 5) (n := 1) (c := 1)
     intro Q90 W21 J17 hO h_
     replace k_t2 := k_t2.o hO
     replace ow_b := Own.off ow_b hO f0
     replace off0 := off0.o hO
     have ow_s49 : Own W21 (.slice (some ⟨Q90, 0, none⟩) 1 1) [u8 (8 * F.length)] := V8 h_ (by rfl) (by show 1 ≤ maxLen; decide)
     clear hO h_ J17
     refine J0i (xs := (((((((((F ++ [128] ++ List.replicate (zc F.length) 0) ++ List.replicate 8 0) ++ [u8 ((8 * F.length) / 72057594037927936)]) ++ [u8 ((8 * F.length) / 281474976710656)]) ++ [u8 ((8 * F.length) / 1099511627776)]) ++ [u8 ((8 * F.length) / 4294967296)]) ++ [u8 ((8 * F.length) / 16777216)]) ++ [u8 ((8 * F.length) / 65536)]) ++ [u8 ((8 * F.length) / 256)])) (ys := [u8 (8 * F.length)]) (by rfl) rfl rfl rfl ow_b (ow_s49.sl) (by first | omega | (simp only [List.length_append, List.length_cons, List.length_nil, List.length_replicate]; omega)) ?_
     (try simp only [Act.put, mA, mB, mC])
     intro Q61 W22 J0d hO V9 nil_a50
     clear nil_a50
     have J1w := J18 V9 J00 (J5 k_t2)
     replace k_t2 := U0 k_t2 hO (nmo J00)
     replace off0 := off0.step hO (io K2)
     clear hO V9
     have ow_b := J0d
     clear J0d
     have J00 := J1w
     refine Lv ?_
     refine J0 ?_
     go_wp2_with fail
     rw [rounds_succ]
     go_upto_region 16 with fail
     refine wp_region_lit ?_
     refine Q40 (by rfl) rfl rfl ((Q8s HG.out off0.ext).2) (by kernel_rfl) (by rw [Q1]; kernel_rfl) ?_
     (try simp only [Act.put, mA, mB, mC])
     refine LnP ?_ (z := J1 .u64 8 (fun _ => 0)) (t := 113) (cells := J1 .u64 8 hf) (hi := by rw [Q1]; kernel_rfl) (hs := by rw [Q1, Q1]) (h1 := by exact Y7 _ _ _)
     intro Q62 W24 V6 hO h_
     have nq_t2_t8 := bn k_t2 V6
     have Q27 := J0m (Own.lt ow_b) V6
     have J1v := fbn off0 V6
     replace k_t2 := k_t2.o hO
     replace ow_b := Own.off ow_b hO f0
     replace off0 := off0.o hO
     have k_t8 := h_
     clear hO h_ V6
     refine J0 ?_
     clear ow_s49 Y6
     rw [Y4h] at ow_b
     have J66 : Sl W24 Q61 (List.drop (128 * 0) (Y0 F)) := Z66 ow_b
     have Q0k : sb Q61 (List.drop (128 * 0) (Y0 F)) ≠ some J0b := Y6v J00
     have J8y : sb Q61 (List.drop (128 * 0) (Y0 F)) ≠ some Q62 := Y6v Q27
     clear ow_b K2 J00 Q27
     go_wp2_with fail
     go_loopw [3] (fun sv wr => ∃ (j : Nat) (u : Value), (j ≤ nb F.length) ∧ (u = sv) ∧ Off [] w wr ∧ Blk wr J0b (J1 .u8 64 (fun _ => 0)) 30 ∧ Blk wr Q62 (J1 .u64 8 (Hs (Y0 F) j)) 113 ∧ Sl wr u (List.drop (128 * j) (Y0 F)) ∧ (sb u (List.drop (128 * j) (Y0 F))) ≠ some J0b ∧ (sb u (List.drop (128 * j) (Y0 F))) ≠ some Q62)
      (fun sv _ => Z09 sv)
     case atStart => exact ⟨0, _, Nat.zero_le _, rfl, off0, k_t2, k_t8, J66, Q0k, J8y⟩
     case round =>
      obtain ⟨j, u, hj, rfl, off0, k_t2, k_t8, J66, Q0k, J8y⟩ := hrel
      obtain ⟨W25, eW_⟩ := J3s off0
      subst eW_
      have lb := Q8t J66
      by_cases hjl : j < nb F.length
      ·
       have _f := hjl
       have hl128 : 128 ≤ (List.drop (128 * j) (Y0 F)).length := by rw [List.length_drop, hpl]; omega
       go_upto_region 17 with fail
       refine wp_region_lit ?_
       refine Lv ?_
       refine J5s (l := (List.drop (128 * j) (Y0 F))) J66 (by rfl) rfl rfl ?_
       (try simp only [Act.put, mA, mB, mC])
       refine Lw ?_ (v := .bool true) (hv := by go_simp; (try simp only [List.length_drop, hpl]); omega)
       refine J0 ?_
       go_upto_region 19 with fail
       refine wp_region_lit ?_
       refine L0A ?_ k_t8
       refine Lv ?_
       refine Lr ?_ (Y51 (Hs (Y0 F) j) (List.drop (128 * j) (Y0 F)) u hl128 W25 J66 (Q8s HG.out off0.ext))
       intro W26 hO
       replace k_t2 := k_t2.o hO
       replace k_t8 := k_t8.o hO
       replace J66 := Sl.off J66 hO f0
       replace off0 := off0.o hO
       clear hO
       refine Lp ?_ k_t8 (cells := J1 .u64 8 (prs (Hs (Y0 F) j) (bt (List.drop (128 * j) (Y0 F))))) (hi := by rw [Q1]; kernel_rfl) (hs := by rw [Q1, Q1]) (h1 := by exact Y7 _ _ _)
       intro W27 hO h_
       replace k_t8 : Blk W27 Q62 (J1 .u64 8 (prs (Hs (Y0 F) j) (bt (List.drop (128 * j) (Y0 F))))) 113 := h_
       clear h_
       replace k_t2 := k_t2.p hO nq_t2_t8
       replace J66 := Sl.off J66 hO (f1 J8y)
       replace off0 := off0.p hO J1v
       clear hO
       refine J0 ?_
       go_upto_region 18 with fail
       refine wp_region_lit ?_
       refine Lv ?_
       refine Z9i (n := 128) J66 (by exact hl128) (by rfl) rfl rfl rfl ?_
       (try simp only [Act.put, mA, mB, mC])
       intro Y0v Z1x Z4h
       have Q78 : sb Y0v (List.drop 128 (List.drop (128 * j) (Y0 F))) ≠ some J0b := Q8q Z4h Q0k
       have Q79 : sb Y0v (List.drop 128 (List.drop (128 * j) (Y0 F))) ≠ some Q62 := Q8q Z4h J8y
       refine Lv ?_
       refine J0 ?_
       clear J66 Q0k J8y
       rw [Q31] at Z1x
       rw [Q31] at Q78
       rw [Q31] at Q79
       have J66 := Z1x
       clear Z1x
       have Q0k := Q78
       have J8y := Q79
       have la := Q8t J66
       simp only [List.length_drop, hpl] at la lb
       go_wp2
       go_roundw
       case rel => exact ⟨j + 1, _, by omega, rfl, off0, k_t2, k_t8, J66, Q0k, J8y⟩
       case measure => simp only [la, lb]; omega
      ·
       have _f := hjl
       obtain rfl : j = nb F.length := by omega
       go_upto_region 17 with fail
       refine wp_region_lit ?_
       refine Lv ?_
       refine J5s (l := (List.drop (128 * nb F.length) (Y0 F))) J66 (by rfl) rfl rfl ?_
       (try simp only [Act.put, mA, mB, mC])
       refine Lw ?_ (v := .bool false) (hv := by first | (go_simp; done) | (go_simp; (try simp only [List.length_drop, hpl]); omega))
       refine J0 ?_
       go_upto_region 20 with fail
       refine wp_region_lit ?_
       refine Ln ?_ (z := J1 .u8 64 (fun _ => 0)) (t := 30)
       intro Z4i W26 J2y hO h_
       have Q5a := bn k_t2 J2y
       have Q5b := bn k_t8 J2y
       have Y52 := J0m (Sl.lt J66) J2y
       have Q53 := fbn off0 J2y
       replace k_t2 := k_t2.o hO
       replace k_t8 := k_t8.o hO
       replace J66 := Sl.off J66 hO f0
       replace off0 := off0.o hO
       have k_t9 := h_
       clear hO h_ J2y
       refine J0 ?_
       go_upto_region 21 with fail
       refine wp_region_lit ?_
       refine L0A ?_ k_t8
       refine Lw ?_ (v := .int .i64 0)
       refine J0 ?_
       go_wp2_with fail
       go_loopw [61] (fun ii wr => ∃ (i : Nat), (i ≤ 8) ∧ (ii = .int .i64 (i : Int)) ∧ Off [] w wr ∧ Blk wr J0b (J1 .u8 64 (fun _ => 0)) 30 ∧ Blk wr Q62 (J1 .u64 8 (Hs (Y0 F) (nb F.length))) 113 ∧ Blk wr Z4i (J1 .u8 64 (Q6h (Hs (Y0 F) (nb F.length)) (8 * i))) 30 ∧ Sl wr u (List.drop (128 * nb F.length) (Y0 F)))
        (fun ii _ => 8 - (intOf ii).toNat)
       case atStart => exact ⟨0, Nat.zero_le _, rfl, off0, k_t2, k_t8, (by rw [Nat.mul_zero, Z64]; exact k_t9), J66⟩
       case round =>
        obtain ⟨i, hi, rfl, off0, k_t2, k_t8, k_t9, J66⟩ := hrel
        obtain ⟨W27, eW_⟩ := J3s off0
        subst eW_
        by_cases h8 : i < 8
        ·
         have _f := h8
         go_upto_region 22 with fail
         refine wp_region_lit ?_
         refine Lw ?_ (v := .bool true)
         refine J0 ?_
         go_upto_region 23 with fail
         refine wp_region_lit ?_
         refine Lv ?_
         refine Lw ?_ (v := .int .u64 (Hs (Y0 F) (nb F.length) i)) (hv := Y4g (m := 8) h8 Tryd.underlying113 (by kernel_rfl) Y4j rfl rfl rfl)
         refine Lv ?_
         refine Lv ?_
         refine J0 ?_
         go_wp2_with fail
         go_loopw [65] (fun jj wr => ∃ (k : Nat), (k ≤ 8) ∧ (jj = .int .i64 (k : Int)) ∧ Off [] w wr ∧ Blk wr J0b (J1 .u8 64 (fun _ => 0)) 30 ∧ Blk wr Q62 (J1 .u64 8 (Hs (Y0 F) (nb F.length))) 113 ∧ Blk wr Z4i (J1 .u8 64 (Q6h (Hs (Y0 F) (nb F.length)) (8 * i + k))) 30 ∧ Sl wr u (List.drop (128 * nb F.length) (Y0 F)))
          (fun jj _ => 8 - (intOf jj).toNat)
         case atStart => exact ⟨0, Nat.zero_le _, rfl, off0, k_t2, k_t8, k_t9, J66⟩
         case round =>
          obtain ⟨k, hk, rfl, off0, k_t2, k_t8, k_t9, J66⟩ := hrel
          obtain ⟨W28, eW_⟩ := J3s off0
          subst eW_
          by_cases hk8 : k < 8
          ·
           have _f := hk8
           go_upto_region 25 with fail
           refine wp_region_lit ?_
           refine Lw ?_ (v := .bool true)
           refine J0 ?_
           go_upto_region 27 with fail
           refine wp_region_lit ?_
           refine Lv ?_
           refine Lw ?_ (v := .int .i64 (((8 * i : Nat) : Int))) (hv := by go_simp; (try simp only [IntKind.wrap_u64, IntKind.wrap_i64]); (try omega))
           refine Lv ?_
           refine Lw ?_ (v := .int .i64 (((8 * i + k : Nat) : Int))) (hv := by go_simp; (try simp only [IntKind.wrap_u64, IntKind.wrap_i64]); (try omega))
           refine Lv ?_
           refine Lv ?_
           refine Lw ?_ (v := .int .i64 (((7 - k : Nat) : Int))) (hv := by go_simp; (try simp only [IntKind.wrap_u64, IntKind.wrap_i64]); (try omega))
           refine Lw ?_ (v := .int .i64 (((8 * (7 - k) : Nat) : Int))) (hv := by go_simp; (try simp only [IntKind.wrap_u64, IntKind.wrap_i64]); (try omega))
           refine Lw ?_ (v := .int .u64 (sr (Hs (Y0 F) (nb F.length) i) (8 * (7 - k)))) (hv := J1l (n := 8 * (7 - k)) (by omega) rfl rfl rfl)
           refine Lw ?_ (v := .int .u8 (w8 (sr (Hs (Y0 F) (nb F.length) i) (8 * (7 - k))))) (hv := by exact J3u rfl rfl)
           refine Lw ?_ (v := .pointer (some ⟨Z4i, 0 + (8 * i + k), none⟩)) (hv := Q0 (m := 64) (by decide) (by omega) Tryd.underlying30 (by kernel_rfl) rfl rfl rfl)
           refine J3b (v := .int .u8 (w8 (sr (Hs (Y0 F) (nb F.length) i) (8 * (7 - k))))) ⟨rfl, rfl⟩ (by rfl) rfl rfl rfl k_t9 (by rw [Q1, Nat.zero_add]; omega) (by kernel_rfl) ?_
           (try simp only [Act.put, mA, mB, mC])
           intro W29 hO h_
           rw [Nat.zero_add, J0a] at h_
           replace k_t9 : Blk W29 Z4i (J1 .u8 64 (upd (Q6h (Hs (Y0 F) (nb F.length)) (8 * i + k)) (8 * i + k) (w8 (sr (Hs (Y0 F) (nb F.length) i) (8 * (7 - k)))))) 30 := h_
           clear h_
           replace k_t2 := k_t2.p hO Q5a
           replace k_t8 := k_t8.p hO Q5b
           replace J66 := Sl.off J66 hO (f1 Y52)
           replace off0 := off0.p hO Q53
           clear hO
           refine J0 ?_
           go_wp2
           go_roundw
           case rel => exact ⟨k + 1, by omega, by go_num, off0, k_t2, k_t8, (by rw [← Z65 _ _ _ hk8]; exact k_t9), J66⟩
           case measure => simp [intOf]; omega
          ·
           have _f := hk8
           obtain rfl : k = 8 := by omega
           go_upto_region 25 with fail
           refine wp_region_lit ?_
           refine Lw ?_ (v := .bool false)
           refine J0 ?_
           go_wp2
           go_roundw
           case rel => exact ⟨i + 1, by omega, by go_num, off0, k_t2, k_t8, (by rw [show 8 * (i + 1) = 8 * i + 8 by omega]; exact k_t9), J66⟩
           case measure => simp [intOf]; omega
        ·
         have _f := h8
         obtain rfl : i = 8 := by omega
         rw [show 8 * 8 = 64 by rfl, Z9w] at k_t9
         go_upto_region 22 with fail
         refine wp_region_lit ?_
         refine Lw ?_ (v := .bool false)
         refine J0 ?_
         go_upto_region 30 with fail
         refine wp_region_lit ?_
         refine L0A ?_ k_t9
         refine Lp ?_ k_t2 (cells := J1 .u8 64 (ob (Hs (Y0 F) (nb F.length)))) (hi := by rw [Q1]; kernel_rfl) (hs := by rw [Q1, Q1]) (h1 := by exact Y7 _ _ _)
         intro W28 hO h_
         replace k_t2 : Blk W28 J0b (J1 .u8 64 (ob (Hs (Y0 F) (nb F.length)))) 30 := h_
         clear h_
         replace off0 := off0.p hO K8
         clear hO
         refine J0 ?_
         go_wp2
         refine bodyPost_ret (K3 rfl rfl k_t2 (by kernel_rfl) (by rw [Q1]; kernel_rfl)) rfl ⟨rfl, off0.ext⟩
end Go.Proofs.YtefpoollmbmkfaaDoor
