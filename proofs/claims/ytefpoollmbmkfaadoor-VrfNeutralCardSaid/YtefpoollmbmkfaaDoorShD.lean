/- sha5.Sum: the sum of parts, one behind the other. Conditions: the parts read as bytes; the tables hold their numbers. -/
import Derived.Test.YtefpoollmbmkfaaDoorGc
import Derived.Test.YtefpoollmbmkfaaDoorHb
set_option linter.unusedSimpArgs false
set_option linter.unusedVariables false
namespace Go.Proofs.YtefpoollmbmkfaaDoor
set_option maxHeartbeats 4000000
set_option maxRecDepth 100000
open Go.RowKit
attribute [local irreducible] wpList
theorem Z5t (h : Nat → Int) (l : List UInt8) (u : Value) (hl : 128 ≤ l.length) (w : World) (hs : Sl w u l) (hG : GS w) : Calls Tryd.prog 81 #[.agg (J2 .u64 8 h), u] w fun e w' => Ret (.agg (J2 .u64 8 (prs h (bt l)))) w w' e := by
  obtain ⟨ad, c, rfl, _⟩ := Z4t hs (by omega)
  exact Z53 h l ad c hl w hs hG

theorem Y2v (ps : List (List UInt8)) (A : Option Addr) (c : Nat) (F : List UInt8) (hF : ps.flatten = F) (hlen : F.length ≤ 70368744177664) (hpn : ps.length ≤ 9223372036854775000) (w : World) (hps : ∀ i l, ps[i]? = some l → ∃ ad u, A = some ad ∧ w.cell? (ad.add i) = some u ∧ Sl w u l) (hG : GS w) :
  Calls Tryd.prog 32 #[.slice A ps.length c] w fun e w' => Ret (.agg (J2 .u8 64 (sm F))) w w' e := by
 have HG := Lib.hid hG
 have HPS := Lib.hid hps
 clear hG hps
 have hpl := Q4x F
 have hzc := (Q2y F.length).2
 have off0 : Off [] w w := Off.refl _ _
 go_enter Tryd.func32, Tryd.ntmps32
 go_upto_region 0 with fail
 refine wp_region_lit ?_
 refine Ln ?_ (z := J2 .u8 64 (fun _ => 0)) (t := 30)
 intro K4 W1 V2 hO h_
 have V8 := fbn off0 V2
 replace off0 := off0.o hO
 have k_t2 := h_
 clear hO h_ V2
 refine J0 ?_
 go_upto_region 2 with fail
 refine wp_region_lit ?_
 refine Lv ?_
 refine Lv ?_
 refine Lw ?_ (v := .int .i64 0)
 refine J0 ?_
 have ow_b := Q6s W1
 have J1p : Fr (Value.ownBlock (.slice none 0 0)) w.heap.size [] := Z4n
 have Z8 : Value.ownBlock (.slice none 0 0) ≠ some K4 := fun e_ => by cases e_
 go_wp2_with fail
 go_loopw [3, 15] (fun sv ii wr => ∃ (i : Nat) (bv : Value), (i ≤ ps.length) ∧ (bv = sv) ∧ (ii = .int .i64 (i : Int)) ∧ Off [] w wr ∧ Blk wr K4 (J2 .u8 64 (fun _ => 0)) 30 ∧ Own wr bv ((List.take i ps).flatten) ∧ Fr (Value.ownBlock bv) w.heap.size [] ∧ (Value.ownBlock bv) ≠ some K4)
  (fun sv ii _ => ps.length - (intOf ii).toNat)
 case atStart => exact ⟨0, _, Nat.zero_le _, rfl, rfl, off0, k_t2, ow_b, J1p, Z8⟩
 case round =>
  obtain ⟨i, bv, hi, rfl, rfl, off0, k_t2, ow_b, J1p, Z8⟩ := hrel
  obtain ⟨W2, eW_⟩ := J68 off0
  subst eW_
  by_cases hlt : i < ps.length
  ·
   have _f := hlt
   obtain ⟨l_, hl_⟩ : ∃ l, ps[i]? = some l := ⟨_, List.getElem?_eq_getElem hlt⟩
   obtain ⟨ad_, u_, hA_, hc_, hu_⟩ := HPS.out i l_ hl_
   have hfl : (List.take i ps).flatten.length + l_.length ≤ F.length := by rw [← hF, ← List.length_append, ← Q1i hl_]; exact Z1j _ _
   go_upto_region 3 with fail
   refine wp_region_lit ?_
   refine Lw ?_ (v := .bool true)
   refine J0 ?_
   go_upto_region 4 with fail
   refine wp_region_lit ?_
   refine Lw ?_ (v := .pointer (some (ad_.add i))) (hv := Z57 (j := i) hlt rfl (by rw [← hA_]; rfl) rfl)
   refine Z8t (by rfl) rfl rfl (J5g hc_ off0.ext) (by kernel_rfl) ?_
   (try simp only [Act.put, mA, mB, mC])
   refine Lv ?_
   refine J0 ?_
   go_upto_region 5 with fail
   refine wp_region_lit ?_
   refine Lv ?_
   refine Lv ?_
   refine J0f (xs := ((List.take i ps).flatten)) (ys := l_) (by rfl) rfl rfl rfl ow_b (hu_.off off0 f0) (by first | omega | (simp only [List.length_append, List.length_cons, List.length_nil, List.length_replicate]; omega)) ?_
   (try simp only [Act.put, mA, mB, mC])
   intro Y5x W3 Z22 hO Q50 nil_a21
   clear nil_a21
   have Q8g := J0y Q50 Z8 (J5 k_t2)
   have Z9p := J1x Q50 J1p off0.size
   replace k_t2 := V1 k_t2 hO (nmo Z8)
   replace off0 := off0.step hO (io J1p)
   clear hO Q50
   have ow_b := Z22
   clear Z22
   have J1p := Z9p
   have Z8 := Q8g
   refine Lv ?_
   refine J0 ?_
   go_wp2
   go_roundw
   case rel => exact ⟨i + 1, _, by omega, rfl, by go_num, off0, k_t2, (by rw [Q1i hl_]; exact ow_b), J1p, Z8⟩
   case measure => simp [intOf]; omega
  ·
   have _f := hlt
   obtain rfl : i = ps.length := by omega
   rw [List.take_length, hF] at ow_b
   go_upto_region 3 with fail
   refine wp_region_lit ?_
   refine Lw ?_ (v := .bool false)
   refine J0 ?_
   go_upto_region 7 with fail
   refine wp_region_lit ?_
   refine Lv ?_
   refine J7b (l := F) (ow_b.sl) (by rfl) rfl rfl ?_
   (try simp only [Act.put, mA, mB, mC])
   refine Lw ?_ (v := .int .u64 ((F.length : Nat) : Int)) (hv := by go_simp; (try simp only [IntKind.wrap_u64, IntKind.wrap_i64]); (try omega))
   refine Lw ?_ (v := .int .u64 ((8 * F.length : Nat) : Int)) (hv := by rw [show ((8 * F.length : Nat) : Int) = sl ((F.length : Nat) : Int) 3 from (by unfold sl; rw [IntKind.wrap_u64]; omega)]; exact Q2u (n := 3) (by decide) rfl rfl rfl)
   refine Lv ?_
   refine J0 ?_
   go_upto_region 8 with fail
   refine wp_region_lit ?_
   refine Lv ?_
   refine LnS ?_ (z := #[.int .u8 128]) (t := 5) (n := 1) (c := 1)
   intro Y2w W3 Z23 hO h_
   replace k_t2 := k_t2.o hO
   replace ow_b := Own.off ow_b hO f0
   replace off0 := off0.o hO
   have ow_s28 : Own W3 (.slice (some ⟨Y2w, 0, none⟩) 1 1) [128] := J07 h_ (by rfl) (by show 1 ≤ maxLen; decide)
   clear hO h_ Z23
   refine J0f (xs := F) (ys := [128]) (by rfl) rfl rfl rfl ow_b (ow_s28.sl) (by first | omega | (simp only [List.length_append, List.length_cons, List.length_nil, List.length_replicate]; omega)) ?_
   (try simp only [Act.put, mA, mB, mC])
   intro Y5y W4 J60 hO Q0m nil_a29
   clear nil_a29
   have Q8h := J0y Q0m Z8 (J5 k_t2)
   have Z9q := J1x Q0m J1p off0.size
   replace k_t2 := V1 k_t2 hO (nmo Z8)
   replace off0 := off0.step hO (io J1p)
   clear hO Q0m
   have ow_b := J60
   clear J60
   have J1p := Z9q
   have Z8 := Q8h
   refine Lv ?_
   refine J0 ?_
   clear ow_s28
   go_wp2_with fail
   go_loopw [3] (fun sv wr => ∃ (k : Nat) (bv : Value), (k ≤ zc F.length) ∧ (bv = sv) ∧ Off [] w wr ∧ Blk wr K4 (J2 .u8 64 (fun _ => 0)) 30 ∧ Own wr bv (F ++ [128] ++ List.replicate k 0) ∧ Fr (Value.ownBlock bv) w.heap.size [] ∧ (Value.ownBlock bv) ≠ some K4)
    (fun sv _ => F.length + 300 - Q6x sv)
   case atStart => exact ⟨0, _, Nat.zero_le _, rfl, off0, k_t2, (by rw [List.replicate_zero, List.append_nil]; exact ow_b), J1p, Z8⟩
   case round =>
    obtain ⟨k, bv, hk, rfl, off0, k_t2, ow_b, J1p, Z8⟩ := hrel
    obtain ⟨W5, eW_⟩ := J68 off0
    subst eW_
    have lb := Q6y ow_b
    by_cases hz : k < zc F.length
    ·
     have _f := hz
     have hz2 := Y23 hz
     go_upto_region 9 with fail
     refine wp_region_lit ?_
     refine Lv ?_
     refine J7b (l := (F ++ [128] ++ List.replicate k 0)) (ow_b.sl) (by rfl) rfl rfl ?_
     (try simp only [Act.put, mA, mB, mC])
     refine Lw ?_ (v := .int .i64 (((F.length + 1 + k) % 128 : Nat) : Int)) (hv := by go_simp; (try simp only [List.length_append, List.length_cons, List.length_nil, List.length_replicate]); rw [Int.tmod_eq_emod_of_nonneg (by omega)]; omega)
     refine Lw ?_ (v := .bool true) (hv := by go_simp; omega)
     refine J0 ?_
     go_upto_region 10 with fail
     refine wp_region_lit ?_
     refine Lv ?_
     refine LnS ?_ (z := #[.int .u8 0]) (t := 5) (n := 1) (c := 1)
     intro Y2x W6 Y2y hO h_
     replace k_t2 := k_t2.o hO
     replace ow_b := Own.off ow_b hO f0
     replace off0 := off0.o hO
     have ow_s35 : Own W6 (.slice (some ⟨Y2x, 0, none⟩) 1 1) [0] := J07 h_ (by rfl) (by show 1 ≤ maxLen; decide)
     clear hO h_ Y2y
     refine J0f (xs := (F ++ [128] ++ List.replicate k 0)) (ys := [0]) (by rfl) rfl rfl rfl ow_b (ow_s35.sl) (by first | omega | (simp only [List.length_append, List.length_cons, List.length_nil, List.length_replicate]; omega)) ?_
     (try simp only [Act.put, mA, mB, mC])
     intro Y5z W7 Z24 hO Q51 nil_a36
     clear nil_a36
     have Q8i := J0y Q51 Z8 (J5 k_t2)
     have Z9r := J1x Q51 J1p off0.size
     replace k_t2 := V1 k_t2 hO (nmo Z8)
     replace off0 := off0.step hO (io J1p)
     clear hO Q51
     have ow_b := Z24
     clear Z24
     have J1p := Z9r
     have Z8 := Q8i
     refine Lv ?_
     refine J0 ?_
     have la := Q6y ow_b
     simp only [List.length_append, List.length_cons, List.length_nil, List.length_replicate] at la lb
     go_wp2
     go_roundw
     case rel => exact ⟨k + 1, _, by omega, rfl, off0, k_t2, (by rw [List.replicate_succ', ← List.append_assoc]; exact ow_b), J1p, Z8⟩
     case measure => simp only [la, lb]; omega
    ·
     have _f := hz
     obtain rfl : k = zc F.length := by omega
     have hz2 := (Q2y F.length).1
     go_upto_region 9 with fail
     refine wp_region_lit ?_
     refine Lv ?_
     refine J7b (l := (F ++ [128] ++ List.replicate (zc F.length) 0)) (ow_b.sl) (by rfl) rfl rfl ?_
     (try simp only [Act.put, mA, mB, mC])
     refine Lw ?_ (v := .int .i64 (((F.length + 1 + zc F.length) % 128 : Nat) : Int)) (hv := by go_simp; (try simp only [List.length_append, List.length_cons, List.length_nil, List.length_replicate]); rw [Int.tmod_eq_emod_of_nonneg (by omega)]; omega)
     refine Lw ?_ (v := .bool false) (hv := by first | (go_simp; done) | (go_simp; omega))
     refine J0 ?_
     go_upto_region 11 with fail
     refine wp_region_lit ?_
     refine Lv ?_
     refine Q3u (xs := (F ++ [128] ++ List.replicate (zc F.length) 0)) (m := 8) (by decide) (by rfl) rfl rfl rfl ow_b (by first | omega | (simp only [List.length_append, List.length_cons, List.length_nil, List.length_replicate]; omega)) ?_
     (try simp only [Act.put, mA, mB, mC])
     intro Y2z W6 Z25 hO Q52
     have Q8j := J0y Q52 Z8 (J5 k_t2)
     have Z9s := J1x Q52 J1p off0.size
     replace k_t2 := V1 k_t2 hO (nmo Z8)
     replace off0 := off0.step hO (io J1p)
     clear hO Q52
     have ow_b := Z25
     clear Z25
     have J1p := Z9s
     have Z8 := Q8j
     refine Lv ?_
     refine J0 ?_
     go_wp2_with fail
     refine wp_loop_rounds 9 ?_
     rw [rounds_succ]
     go_upto_region 15 with fail
     refine wp_region_lit ?_
     refine Lv ?_
     refine Lv ?_
     refine Lw ?_ (v := .int .i64 7)
     refine Lw ?_ (v := .int .i64 56)
     refine Lw ?_ (v := .int .u64 (sr ((8 * F.length : Nat) : Int) 56)) (hv := J2j (n := 56) (by decide) rfl rfl rfl)
     refine Lw ?_ (v := .int .u8 ((u8 ((8 * F.length) / 72057594037927936)).toNat : Int)) (hv := by rw [← J6s (8 * F.length) 56 72057594037927936 (by decide)]; exact J5y rfl rfl)
     refine LnS ?_ (z := #[.int .u8 ((u8 ((8 * F.length) / 72057594037927936)).toNat : Int)]) (t := 5) (n := 1) (c := 1)
     intro Z7b W7 J29 hO h_
     have Y7 : ∀ x, (Value.ownBlock Y2z) = some x → Value.ownBlock (.slice (some ⟨Z7b, 0, none⟩) 1 1) ≠ some x := J6q (Own.lt ow_b) J29
     replace k_t2 := k_t2.o hO
     replace ow_b := Own.off ow_b hO f0
     replace off0 := off0.o hO
     have ow_s49 : Own W7 (.slice (some ⟨Z7b, 0, none⟩) 1 1) [u8 ((8 * F.length) / 72057594037927936)] := J07 h_ (by rfl) (by show 1 ≤ maxLen; decide)
     clear hO h_ J29
     refine J0f (xs := ((F ++ [128] ++ List.replicate (zc F.length) 0) ++ List.replicate 8 0)) (ys := [u8 ((8 * F.length) / 72057594037927936)]) (by rfl) rfl rfl rfl ow_b (ow_s49.sl) (by first | omega | (simp only [List.length_append, List.length_cons, List.length_nil, List.length_replicate]; omega)) ?_
     (try simp only [Act.put, mA, mB, mC])
     intro Y30 W8 J18 hO K6 nil_a50
     clear nil_a50
     have J0p := J0y K6 Z8 (J5 k_t2)
     have J19 := J11 K6 Y7 (Own.lt ow_s49)
     have J3b := J1x K6 J1p off0.size
     replace k_t2 := V1 k_t2 hO (nmo Z8)
     replace ow_s49 := Own.off ow_s49 hO (fo Y7)
     replace off0 := off0.step hO (io J1p)
     clear hO K6
     have ow_b := J18
     clear J18
     have J1p := J3b
     have Z8 := J0p
     have Y7 := J19
     refine Lv ?_
     refine J0 ?_
     go_wp2_with fail
     rw [rounds_succ]
     go_upto_region 15 with fail
     refine wp_region_lit ?_
     refine Lv ?_
     refine Lv ?_
     refine Lw ?_ (v := .int .i64 6)
     refine Lw ?_ (v := .int .i64 48)
     refine Lw ?_ (v := .int .u64 (sr ((8 * F.length : Nat) : Int) 48)) (hv := J2j (n := 48) (by decide) rfl rfl rfl)
     refine Lw ?_ (v := .int .u8 ((u8 ((8 * F.length) / 281474976710656)).toNat : Int)) (hv := by rw [← J6s (8 * F.length) 48 281474976710656 (by decide)]; exact J5y rfl rfl)
     clear ow_s49 Y7
     refine LnS ?_ (z := #[.int .u8 ((u8 ((8 * F.length) / 281474976710656)).toNat : Int)]) (t := 5) (n := 1) (c := 1)
     intro Z7c W9 J29 hO h_
     have Y7 : ∀ x, (Value.ownBlock Y30) = some x → Value.ownBlock (.slice (some ⟨Z7c, 0, none⟩) 1 1) ≠ some x := J6q (Own.lt ow_b) J29
     replace k_t2 := k_t2.o hO
     replace ow_b := Own.off ow_b hO f0
     replace off0 := off0.o hO
     have ow_s49 : Own W9 (.slice (some ⟨Z7c, 0, none⟩) 1 1) [u8 ((8 * F.length) / 281474976710656)] := J07 h_ (by rfl) (by show 1 ≤ maxLen; decide)
     clear hO h_ J29
     refine J0f (xs := (((F ++ [128] ++ List.replicate (zc F.length) 0) ++ List.replicate 8 0) ++ [u8 ((8 * F.length) / 72057594037927936)])) (ys := [u8 ((8 * F.length) / 281474976710656)]) (by rfl) rfl rfl rfl ow_b (ow_s49.sl) (by first | omega | (simp only [List.length_append, List.length_cons, List.length_nil, List.length_replicate]; omega)) ?_
     (try simp only [Act.put, mA, mB, mC])
     intro Z9t W10 J18 hO K6 nil_a50
     clear nil_a50
     have J0p := J0y K6 Z8 (J5 k_t2)
     have J19 := J11 K6 Y7 (Own.lt ow_s49)
     have J3b := J1x K6 J1p off0.size
     replace k_t2 := V1 k_t2 hO (nmo Z8)
     replace ow_s49 := Own.off ow_s49 hO (fo Y7)
     replace off0 := off0.step hO (io J1p)
     clear hO K6
     have ow_b := J18
     clear J18
     have J1p := J3b
     have Z8 := J0p
     have Y7 := J19
     refine Lv ?_
     refine J0 ?_
     go_wp2_with fail
     rw [rounds_succ]
     go_upto_region 15 with fail
     refine wp_region_lit ?_
     refine Lv ?_
     refine Lv ?_
     refine Lw ?_ (v := .int .i64 5)
     refine Lw ?_ (v := .int .i64 40)
     refine Lw ?_ (v := .int .u64 (sr ((8 * F.length : Nat) : Int) 40)) (hv := J2j (n := 40) (by decide) rfl rfl rfl)
     refine Lw ?_ (v := .int .u8 ((u8 ((8 * F.length) / 1099511627776)).toNat : Int)) (hv := by rw [← J6s (8 * F.length) 40 1099511627776 (by decide)]; exact J5y rfl rfl)
     clear ow_s49 Y7
     refine LnS ?_ (z := #[.int .u8 ((u8 ((8 * F.length) / 1099511627776)).toNat : Int)]) (t := 5) (n := 1) (c := 1)
     intro Z26 W11 J29 hO h_
     have Y7 : ∀ x, (Value.ownBlock Z9t) = some x → Value.ownBlock (.slice (some ⟨Z26, 0, none⟩) 1 1) ≠ some x := J6q (Own.lt ow_b) J29
     replace k_t2 := k_t2.o hO
     replace ow_b := Own.off ow_b hO f0
     replace off0 := off0.o hO
     have ow_s49 : Own W11 (.slice (some ⟨Z26, 0, none⟩) 1 1) [u8 ((8 * F.length) / 1099511627776)] := J07 h_ (by rfl) (by show 1 ≤ maxLen; decide)
     clear hO h_ J29
     refine J0f (xs := ((((F ++ [128] ++ List.replicate (zc F.length) 0) ++ List.replicate 8 0) ++ [u8 ((8 * F.length) / 72057594037927936)]) ++ [u8 ((8 * F.length) / 281474976710656)])) (ys := [u8 ((8 * F.length) / 1099511627776)]) (by rfl) rfl rfl rfl ow_b (ow_s49.sl) (by first | omega | (simp only [List.length_append, List.length_cons, List.length_nil, List.length_replicate]; omega)) ?_
     (try simp only [Act.put, mA, mB, mC])
     intro Z9u W12 J18 hO K6 nil_a50
     clear nil_a50
     have J0p := J0y K6 Z8 (J5 k_t2)
     have J19 := J11 K6 Y7 (Own.lt ow_s49)
     have J3b := J1x K6 J1p off0.size
     replace k_t2 := V1 k_t2 hO (nmo Z8)
     replace ow_s49 := Own.off ow_s49 hO (fo Y7)
     replace off0 := off0.step hO (io J1p)
     clear hO K6
     have ow_b := J18
     clear J18
     have J1p := J3b
     have Z8 := J0p
     have Y7 := J19
     refine Lv ?_
     refine J0 ?_
     go_wp2_with fail
     rw [rounds_succ]
     go_upto_region 15 with fail
     refine wp_region_lit ?_
     refine Lv ?_
     refine Lv ?_
     refine Lw ?_ (v := .int .i64 4)
     refine Lw ?_ (v := .int .i64 32)
     refine Lw ?_ (v := .int .u64 (sr ((8 * F.length : Nat) : Int) 32)) (hv := J2j (n := 32) (by decide) rfl rfl rfl)
     refine Lw ?_ (v := .int .u8 ((u8 ((8 * F.length) / 4294967296)).toNat : Int)) (hv := by rw [← J6s (8 * F.length) 32 4294967296 (by decide)]; exact J5y rfl rfl)
     clear ow_s49 Y7
     refine LnS ?_ (z := #[.int .u8 ((u8 ((8 * F.length) / 4294967296)).toNat : Int)]) (t := 5) (n := 1) (c := 1)
     intro Z27 W13 J29 hO h_
     have Y7 : ∀ x, (Value.ownBlock Z9u) = some x → Value.ownBlock (.slice (some ⟨Z27, 0, none⟩) 1 1) ≠ some x := J6q (Own.lt ow_b) J29
     replace k_t2 := k_t2.o hO
     replace ow_b := Own.off ow_b hO f0
     replace off0 := off0.o hO
     have ow_s49 : Own W13 (.slice (some ⟨Z27, 0, none⟩) 1 1) [u8 ((8 * F.length) / 4294967296)] := J07 h_ (by rfl) (by show 1 ≤ maxLen; decide)
     clear hO h_ J29
     refine J0f (xs := (((((F ++ [128] ++ List.replicate (zc F.length) 0) ++ List.replicate 8 0) ++ [u8 ((8 * F.length) / 72057594037927936)]) ++ [u8 ((8 * F.length) / 281474976710656)]) ++ [u8 ((8 * F.length) / 1099511627776)])) (ys := [u8 ((8 * F.length) / 4294967296)]) (by rfl) rfl rfl rfl ow_b (ow_s49.sl) (by first | omega | (simp only [List.length_append, List.length_cons, List.length_nil, List.length_replicate]; omega)) ?_
     (try simp only [Act.put, mA, mB, mC])
     intro Z9v W14 J18 hO K6 nil_a50
     clear nil_a50
     have J0p := J0y K6 Z8 (J5 k_t2)
     have J19 := J11 K6 Y7 (Own.lt ow_s49)
     have J3b := J1x K6 J1p off0.size
     replace k_t2 := V1 k_t2 hO (nmo Z8)
     replace ow_s49 := Own.off ow_s49 hO (fo Y7)
     replace off0 := off0.step hO (io J1p)
     clear hO K6
     have ow_b := J18
     clear J18
     have J1p := J3b
     have Z8 := J0p
     have Y7 := J19
     refine Lv ?_
     refine J0 ?_
     go_wp2_with fail
     rw [rounds_succ]
     go_upto_region 15 with fail
     refine wp_region_lit ?_
     refine Lv ?_
     refine Lv ?_
     refine Lw ?_ (v := .int .i64 3)
     refine Lw ?_ (v := .int .i64 24)
     refine Lw ?_ (v := .int .u64 (sr ((8 * F.length : Nat) : Int) 24)) (hv := J2j (n := 24) (by decide) rfl rfl rfl)
     refine Lw ?_ (v := .int .u8 ((u8 ((8 * F.length) / 16777216)).toNat : Int)) (hv := by rw [← J6s (8 * F.length) 24 16777216 (by decide)]; exact J5y rfl rfl)
     clear ow_s49 Y7
     refine LnS ?_ (z := #[.int .u8 ((u8 ((8 * F.length) / 16777216)).toNat : Int)]) (t := 5) (n := 1) (c := 1)
     intro Z28 W15 J29 hO h_
     have Y7 : ∀ x, (Value.ownBlock Z9v) = some x → Value.ownBlock (.slice (some ⟨Z28, 0, none⟩) 1 1) ≠ some x := J6q (Own.lt ow_b) J29
     replace k_t2 := k_t2.o hO
     replace ow_b := Own.off ow_b hO f0
     replace off0 := off0.o hO
     have ow_s49 : Own W15 (.slice (some ⟨Z28, 0, none⟩) 1 1) [u8 ((8 * F.length) / 16777216)] := J07 h_ (by rfl) (by show 1 ≤ maxLen; decide)
     clear hO h_ J29
     refine J0f (xs := ((((((F ++ [128] ++ List.replicate (zc F.length) 0) ++ List.replicate 8 0) ++ [u8 ((8 * F.length) / 72057594037927936)]) ++ [u8 ((8 * F.length) / 281474976710656)]) ++ [u8 ((8 * F.length) / 1099511627776)]) ++ [u8 ((8 * F.length) / 4294967296)])) (ys := [u8 ((8 * F.length) / 16777216)]) (by rfl) rfl rfl rfl ow_b (ow_s49.sl) (by first | omega | (simp only [List.length_append, List.length_cons, List.length_nil, List.length_replicate]; omega)) ?_
     (try simp only [Act.put, mA, mB, mC])
     intro Z9w W16 J18 hO K6 nil_a50
     clear nil_a50
     have J0p := J0y K6 Z8 (J5 k_t2)
     have J19 := J11 K6 Y7 (Own.lt ow_s49)
     have J3b := J1x K6 J1p off0.size
     replace k_t2 := V1 k_t2 hO (nmo Z8)
     replace ow_s49 := Own.off ow_s49 hO (fo Y7)
     replace off0 := off0.step hO (io J1p)
     clear hO K6
     have ow_b := J18
     clear J18
     have J1p := J3b
     have Z8 := J0p
     have Y7 := J19
     refine Lv ?_
     refine J0 ?_
     go_wp2_with fail
     rw [rounds_succ]
     go_upto_region 15 with fail
     refine wp_region_lit ?_
     refine Lv ?_
     refine Lv ?_
     refine Lw ?_ (v := .int .i64 2)
     refine Lw ?_ (v := .int .i64 16)
     refine Lw ?_ (v := .int .u64 (sr ((8 * F.length : Nat) : Int) 16)) (hv := J2j (n := 16) (by decide) rfl rfl rfl)
     refine Lw ?_ (v := .int .u8 ((u8 ((8 * F.length) / 65536)).toNat : Int)) (hv := by rw [← J6s (8 * F.length) 16 65536 (by decide)]; exact J5y rfl rfl)
     clear ow_s49 Y7
     refine LnS ?_ (z := #[.int .u8 ((u8 ((8 * F.length) / 65536)).toNat : Int)]) (t := 5) (n := 1) (c := 1)
     intro Z29 W17 J29 hO h_
     have Y7 : ∀ x, (Value.ownBlock Z9w) = some x → Value.ownBlock (.slice (some ⟨Z29, 0, none⟩) 1 1) ≠ some x := J6q (Own.lt ow_b) J29
     replace k_t2 := k_t2.o hO
     replace ow_b := Own.off ow_b hO f0
     replace off0 := off0.o hO
     have ow_s49 : Own W17 (.slice (some ⟨Z29, 0, none⟩) 1 1) [u8 ((8 * F.length) / 65536)] := J07 h_ (by rfl) (by show 1 ≤ maxLen; decide)
     clear hO h_ J29
     refine J0f (xs := (((((((F ++ [128] ++ List.replicate (zc F.length) 0) ++ List.replicate 8 0) ++ [u8 ((8 * F.length) / 72057594037927936)]) ++ [u8 ((8 * F.length) / 281474976710656)]) ++ [u8 ((8 * F.length) / 1099511627776)]) ++ [u8 ((8 * F.length) / 4294967296)]) ++ [u8 ((8 * F.length) / 16777216)])) (ys := [u8 ((8 * F.length) / 65536)]) (by rfl) rfl rfl rfl ow_b (ow_s49.sl) (by first | omega | (simp only [List.length_append, List.length_cons, List.length_nil, List.length_replicate]; omega)) ?_
     (try simp only [Act.put, mA, mB, mC])
     intro Z9x W18 J18 hO K6 nil_a50
     clear nil_a50
     have J0p := J0y K6 Z8 (J5 k_t2)
     have J19 := J11 K6 Y7 (Own.lt ow_s49)
     have J3b := J1x K6 J1p off0.size
     replace k_t2 := V1 k_t2 hO (nmo Z8)
     replace ow_s49 := Own.off ow_s49 hO (fo Y7)
     replace off0 := off0.step hO (io J1p)
     clear hO K6
     have ow_b := J18
     clear J18
     have J1p := J3b
     have Z8 := J0p
     have Y7 := J19
     refine Lv ?_
     refine J0 ?_
     go_wp2_with fail
     rw [rounds_succ]
     go_upto_region 15 with fail
     refine wp_region_lit ?_
     refine Lv ?_
     refine Lv ?_
     refine Lw ?_ (v := .int .i64 1)
     refine Lw ?_ (v := .int .i64 8)
     refine Lw ?_ (v := .int .u64 (sr ((8 * F.length : Nat) : Int) 8)) (hv := J2j (n := 8) (by decide) rfl rfl rfl)
     refine Lw ?_ (v := .int .u8 ((u8 ((8 * F.length) / 256)).toNat : Int)) (hv := by rw [← J6s (8 * F.length) 8 256 (by decide)]; exact J5y rfl rfl)
     clear ow_s49 Y7
     refine LnS ?_ (z := #[.int .u8 ((u8 ((8 * F.length) / 256)).toNat : Int)]) (t := 5) (n := 1) (c := 1)
     intro Z2a W19 J29 hO h_
     have Y7 : ∀ x, (Value.ownBlock Z9x) = some x → Value.ownBlock (.slice (some ⟨Z2a, 0, none⟩) 1 1) ≠ some x := J6q (Own.lt ow_b) J29
     replace k_t2 := k_t2.o hO
     replace ow_b := Own.off ow_b hO f0
     replace off0 := off0.o hO
     have ow_s49 : Own W19 (.slice (some ⟨Z2a, 0, none⟩) 1 1) [u8 ((8 * F.length) / 256)] := J07 h_ (by rfl) (by show 1 ≤ maxLen; decide)
     clear hO h_ J29
     refine J0f (xs := ((((((((F ++ [128] ++ List.replicate (zc F.length) 0) ++ List.replicate 8 0) ++ [u8 ((8 * F.length) / 72057594037927936)]) ++ [u8 ((8 * F.length) / 281474976710656)]) ++ [u8 ((8 * F.length) / 1099511627776)]) ++ [u8 ((8 * F.length) / 4294967296)]) ++ [u8 ((8 * F.length) / 16777216)]) ++ [u8 ((8 * F.length) / 65536)])) (ys := [u8 ((8 * F.length) / 256)]) (by rfl) rfl rfl rfl ow_b (ow_s49.sl) (by first | omega | (simp only [List.length_append, List.length_cons, List.length_nil, List.length_replicate]; omega)) ?_
     (try simp only [Act.put, mA, mB, mC])
     intro Y4r W20 J18 hO K6 nil_a50
     clear nil_a50
     have J0p := J0y K6 Z8 (J5 k_t2)
     have J3b := J1x K6 J1p off0.size
     replace k_t2 := V1 k_t2 hO (nmo Z8)
     replace ow_s49 := Own.off ow_s49 hO (fo Y7)
     replace off0 := off0.step hO (io J1p)
     clear hO K6
     have ow_b := J18
     clear J18
     have J1p := J3b
     have Z8 := J0p
     refine Lv ?_
     refine J0 ?_
     go_wp2_with fail
     rw [rounds_succ]
     go_upto_region 15 with fail
     refine wp_region_lit ?_
     refine Lv ?_
     refine Lv ?_
     refine Lw ?_ (v := .int .i64 0)
     refine Lw ?_ (v := .int .i64 0)
     refine Lw ?_ (v := .int .u64 (sr ((8 * F.length : Nat) : Int) 0)) (hv := J2j (n := 0) (by decide) rfl rfl rfl)
     refine Lw ?_ (v := .int .u8 ((u8 (8 * F.length)).toNat : Int)) (hv := by rw [← Z5a (8 * F.length)]; exact J5y rfl rfl)
     clear ow_s49 Y7
     refine LnS ?_ (z := #[.int .u8 ((u8 (8 * F.length)).toNat : Int)]) (t := 5) (n := 1) (c := 1)
     intro Z9y W21 J29 hO h_
     replace k_t2 := k_t2.o hO
     replace ow_b := Own.off ow_b hO f0
     replace off0 := off0.o hO
     have ow_s49 : Own W21 (.slice (some ⟨Z9y, 0, none⟩) 1 1) [u8 (8 * F.length)] := J07 h_ (by rfl) (by show 1 ≤ maxLen; decide)
     clear hO h_ J29
     refine J0f (xs := (((((((((F ++ [128] ++ List.replicate (zc F.length) 0) ++ List.replicate 8 0) ++ [u8 ((8 * F.length) / 72057594037927936)]) ++ [u8 ((8 * F.length) / 281474976710656)]) ++ [u8 ((8 * F.length) / 1099511627776)]) ++ [u8 ((8 * F.length) / 4294967296)]) ++ [u8 ((8 * F.length) / 16777216)]) ++ [u8 ((8 * F.length) / 65536)]) ++ [u8 ((8 * F.length) / 256)])) (ys := [u8 (8 * F.length)]) (by rfl) rfl rfl rfl ow_b (ow_s49.sl) (by first | omega | (simp only [List.length_append, List.length_cons, List.length_nil, List.length_replicate]; omega)) ?_
     (try simp only [Act.put, mA, mB, mC])
     intro Q53 W22 J18 hO K6 nil_a50
     clear nil_a50
     have J0p := J0y K6 Z8 (J5 k_t2)
     replace k_t2 := V1 k_t2 hO (nmo Z8)
     replace off0 := off0.step hO (io J1p)
     clear hO K6
     have ow_b := J18
     clear J18
     have Z8 := J0p
     refine Lv ?_
     refine J0 ?_
     go_wp2_with fail
     rw [rounds_succ]
     go_upto_region 16 with fail
     refine wp_region_lit ?_
     refine Q2f (by rfl) rfl rfl ((Q2w HG.out off0.ext).2) (by kernel_rfl) (by rw [J6]; kernel_rfl) ?_
     (try simp only [Act.put, mA, mB, mC])
     refine LnP ?_ (z := J2 .u64 8 (fun _ => 0)) (t := 113) (cells := J2 .u64 8 hf) (hi := by rw [J6]; kernel_rfl) (hs := by rw [J6, J6]) (h1 := by exact J0b _ _ _)
     intro Q0n W24 K5 hO h_
     have J2v := bn k_t2 K5
     have Q71 := J01 (Own.lt ow_b) K5
     have J6j := fbn off0 K5
     replace k_t2 := k_t2.o hO
     replace ow_b := Own.off ow_b hO f0
     replace off0 := off0.o hO
     have k_t8 := h_
     clear hO h_ K5
     refine J0 ?_
     clear ow_s49 Y7
     rw [Z59] at ow_b
     have J3s : Sl W24 Q53 (List.drop (128 * 0) (pad F)) := Q88 ow_b
     have J7c : sb Q53 (List.drop (128 * 0) (pad F)) ≠ some K4 := Z72 Z8
     have J61 : sb Q53 (List.drop (128 * 0) (pad F)) ≠ some Q0n := Z72 Q71
     clear ow_b J1p Z8 Q71
     go_wp2_with fail
     go_loopw [3] (fun sv wr => ∃ (j : Nat) (u : Value), (j ≤ nb F.length) ∧ (u = sv) ∧ Off [] w wr ∧ Blk wr K4 (J2 .u8 64 (fun _ => 0)) 30 ∧ Blk wr Q0n (J2 .u64 8 (Hs (pad F) j)) 113 ∧ Sl wr u (List.drop (128 * j) (pad F)) ∧ (sb u (List.drop (128 * j) (pad F))) ≠ some K4 ∧ (sb u (List.drop (128 * j) (pad F))) ≠ some Q0n)
      (fun sv _ => Q6x sv)
     case atStart => exact ⟨0, _, Nat.zero_le _, rfl, off0, k_t2, k_t8, J3s, J7c, J61⟩
     case round =>
      obtain ⟨j, u, hj, rfl, off0, k_t2, k_t8, J3s, J7c, J61⟩ := hrel
      obtain ⟨W25, eW_⟩ := J68 off0
      subst eW_
      have lb := Z1k J3s
      by_cases hjl : j < nb F.length
      ·
       have _f := hjl
       have hl128 : 128 ≤ (List.drop (128 * j) (pad F)).length := by rw [List.length_drop, hpl]; omega
       go_upto_region 17 with fail
       refine wp_region_lit ?_
       refine Lv ?_
       refine J7b (l := (List.drop (128 * j) (pad F))) J3s (by rfl) rfl rfl ?_
       (try simp only [Act.put, mA, mB, mC])
       refine Lw ?_ (v := .bool true) (hv := by go_simp; (try simp only [List.length_drop, hpl]); omega)
       refine J0 ?_
       go_upto_region 19 with fail
       refine wp_region_lit ?_
       refine L0A ?_ k_t8
       refine Lv ?_
       refine Lr ?_ (Z5t (Hs (pad F) j) (List.drop (128 * j) (pad F)) u hl128 W25 J3s (Q2w HG.out off0.ext))
       intro W26 hO
       replace k_t2 := k_t2.o hO
       replace k_t8 := k_t8.o hO
       replace J3s := Sl.off J3s hO f0
       replace off0 := off0.o hO
       clear hO
       refine Lp ?_ k_t8 (cells := J2 .u64 8 (prs (Hs (pad F) j) (bt (List.drop (128 * j) (pad F))))) (hi := by rw [J6]; kernel_rfl) (hs := by rw [J6, J6]) (h1 := by exact J0b _ _ _)
       intro W27 hO h_
       replace k_t8 : Blk W27 Q0n (J2 .u64 8 (prs (Hs (pad F) j) (bt (List.drop (128 * j) (pad F))))) 113 := h_
       clear h_
       replace k_t2 := k_t2.p hO J2v
       replace J3s := Sl.off J3s hO (f1 J61)
       replace off0 := off0.p hO J6j
       clear hO
       refine J0 ?_
       go_upto_region 18 with fail
       refine wp_region_lit ?_
       refine Lv ?_
       refine Z18 (n := 128) J3s (by exact hl128) (by rfl) rfl rfl rfl ?_
       (try simp only [Act.put, mA, mB, mC])
       intro Z2b Q54 Q72
       have Q1m : sb Z2b (List.drop 128 (List.drop (128 * j) (pad F))) ≠ some K4 := Q4v Q72 J7c
       have Q1n : sb Z2b (List.drop 128 (List.drop (128 * j) (pad F))) ≠ some Q0n := Q4v Q72 J61
       refine Lv ?_
       refine J0 ?_
       clear J3s J7c J61
       rw [J8v] at Q54
       rw [J8v] at Q1m
       rw [J8v] at Q1n
       have J3s := Q54
       clear Q54
       have J7c := Q1m
       have J61 := Q1n
       have la := Z1k J3s
       simp only [List.length_drop, hpl] at la lb
       go_wp2
       go_roundw
       case rel => exact ⟨j + 1, _, by omega, rfl, off0, k_t2, k_t8, J3s, J7c, J61⟩
       case measure => simp only [la, lb]; omega
      ·
       have _f := hjl
       obtain rfl : j = nb F.length := by omega
       go_upto_region 17 with fail
       refine wp_region_lit ?_
       refine Lv ?_
       refine J7b (l := (List.drop (128 * nb F.length) (pad F))) J3s (by rfl) rfl rfl ?_
       (try simp only [Act.put, mA, mB, mC])
       refine Lw ?_ (v := .bool false) (hv := by first | (go_simp; done) | (go_simp; (try simp only [List.length_drop, hpl]); omega))
       refine J0 ?_
       go_upto_region 20 with fail
       refine wp_region_lit ?_
       refine Ln ?_ (z := J2 .u8 64 (fun _ => 0)) (t := 30)
       intro Q73 W26 J5t hO h_
       have Z2c := bn k_t2 J5t
       have Z2d := bn k_t8 J5t
       have Z5u := J01 (Sl.lt J3s) J5t
       have Q3i := fbn off0 J5t
       replace k_t2 := k_t2.o hO
       replace k_t8 := k_t8.o hO
       replace J3s := Sl.off J3s hO f0
       replace off0 := off0.o hO
       have k_t9 := h_
       clear hO h_ J5t
       refine J0 ?_
       go_upto_region 21 with fail
       refine wp_region_lit ?_
       refine L0A ?_ k_t8
       refine Lw ?_ (v := .int .i64 0)
       refine J0 ?_
       go_wp2_with fail
       go_loopw [61] (fun ii wr => ∃ (i : Nat), (i ≤ 8) ∧ (ii = .int .i64 (i : Int)) ∧ Off [] w wr ∧ Blk wr K4 (J2 .u8 64 (fun _ => 0)) 30 ∧ Blk wr Q0n (J2 .u64 8 (Hs (pad F) (nb F.length))) 113 ∧ Blk wr Q73 (J2 .u8 64 (Q14 (Hs (pad F) (nb F.length)) (8 * i))) 30 ∧ Sl wr u (List.drop (128 * nb F.length) (pad F)))
        (fun ii _ => 8 - (intOf ii).toNat)
       case atStart => exact ⟨0, Nat.zero_le _, rfl, off0, k_t2, k_t8, (by rw [Nat.mul_zero, Q86]; exact k_t9), J3s⟩
       case round =>
        obtain ⟨i, hi, rfl, off0, k_t2, k_t8, k_t9, J3s⟩ := hrel
        obtain ⟨W27, eW_⟩ := J68 off0
        subst eW_
        by_cases h8 : i < 8
        ·
         have _f := h8
         go_upto_region 22 with fail
         refine wp_region_lit ?_
         refine Lw ?_ (v := .bool true)
         refine J0 ?_
         go_upto_region 23 with fail
         refine wp_region_lit ?_
         refine Lv ?_
         refine Lw ?_ (v := .int .u64 (Hs (pad F) (nb F.length) i)) (hv := Z58 (m := 8) h8 Tryd.underlying113 (by kernel_rfl) Z5b rfl rfl rfl)
         refine Lv ?_
         refine Lv ?_
         refine J0 ?_
         go_wp2_with fail
         go_loopw [65] (fun jj wr => ∃ (k : Nat), (k ≤ 8) ∧ (jj = .int .i64 (k : Int)) ∧ Off [] w wr ∧ Blk wr K4 (J2 .u8 64 (fun _ => 0)) 30 ∧ Blk wr Q0n (J2 .u64 8 (Hs (pad F) (nb F.length))) 113 ∧ Blk wr Q73 (J2 .u8 64 (Q14 (Hs (pad F) (nb F.length)) (8 * i + k))) 30 ∧ Sl wr u (List.drop (128 * nb F.length) (pad F)))
          (fun jj _ => 8 - (intOf jj).toNat)
         case atStart => exact ⟨0, Nat.zero_le _, rfl, off0, k_t2, k_t8, k_t9, J3s⟩
         case round =>
          obtain ⟨k, hk, rfl, off0, k_t2, k_t8, k_t9, J3s⟩ := hrel
          obtain ⟨W28, eW_⟩ := J68 off0
          subst eW_
          by_cases hk8 : k < 8
          ·
           have _f := hk8
           go_upto_region 25 with fail
           refine wp_region_lit ?_
           refine Lw ?_ (v := .bool true)
           refine J0 ?_
           go_upto_region 27 with fail
           refine wp_region_lit ?_
           refine Lv ?_
           refine Lw ?_ (v := .int .i64 (((8 * i : Nat) : Int))) (hv := by go_simp; (try simp only [IntKind.wrap_u64, IntKind.wrap_i64]); (try omega))
           refine Lv ?_
           refine Lw ?_ (v := .int .i64 (((8 * i + k : Nat) : Int))) (hv := by go_simp; (try simp only [IntKind.wrap_u64, IntKind.wrap_i64]); (try omega))
           refine Lv ?_
           refine Lv ?_
           refine Lw ?_ (v := .int .i64 (((7 - k : Nat) : Int))) (hv := by go_simp; (try simp only [IntKind.wrap_u64, IntKind.wrap_i64]); (try omega))
           refine Lw ?_ (v := .int .i64 (((8 * (7 - k) : Nat) : Int))) (hv := by go_simp; (try simp only [IntKind.wrap_u64, IntKind.wrap_i64]); (try omega))
           refine Lw ?_ (v := .int .u64 (sr (Hs (pad F) (nb F.length) i) (8 * (7 - k)))) (hv := J2j (n := 8 * (7 - k)) (by omega) rfl rfl rfl)
           refine Lw ?_ (v := .int .u8 (w8 (sr (Hs (pad F) (nb F.length) i) (8 * (7 - k))))) (hv := by exact J5y rfl rfl)
           refine Lw ?_ (v := .pointer (some ⟨Q73, 0 + (8 * i + k), none⟩)) (hv := Q2 (m := 64) (by decide) (by omega) Tryd.underlying30 (by kernel_rfl) rfl rfl rfl)
           refine J2x (v := .int .u8 (w8 (sr (Hs (pad F) (nb F.length) i) (8 * (7 - k))))) ⟨rfl, rfl⟩ (by rfl) rfl rfl rfl k_t9 (by rw [J6, Nat.zero_add]; omega) (by kernel_rfl) ?_
           (try simp only [Act.put, mA, mB, mC])
           intro W29 hO h_
           rw [Nat.zero_add, J02] at h_
           replace k_t9 : Blk W29 Q73 (J2 .u8 64 (upd (Q14 (Hs (pad F) (nb F.length)) (8 * i + k)) (8 * i + k) (w8 (sr (Hs (pad F) (nb F.length) i) (8 * (7 - k)))))) 30 := h_
           clear h_
           replace k_t2 := k_t2.p hO Z2c
           replace k_t8 := k_t8.p hO Z2d
           replace J3s := Sl.off J3s hO (f1 Z5u)
           replace off0 := off0.p hO Q3i
           clear hO
           refine J0 ?_
           go_wp2
           go_roundw
           case rel => exact ⟨k + 1, by omega, by go_num, off0, k_t2, k_t8, (by rw [← Q87 _ _ _ hk8]; exact k_t9), J3s⟩
           case measure => simp [intOf]; omega
          ·
           have _f := hk8
           obtain rfl : k = 8 := by omega
           go_upto_region 25 with fail
           refine wp_region_lit ?_
           refine Lw ?_ (v := .bool false)
           refine J0 ?_
           go_wp2
           go_roundw
           case rel => exact ⟨i + 1, by omega, by go_num, off0, k_t2, k_t8, (by rw [show 8 * (i + 1) = 8 * i + 8 by omega]; exact k_t9), J3s⟩
           case measure => simp [intOf]; omega
        ·
         have _f := h8
         obtain rfl : i = 8 := by omega
         rw [show 8 * 8 = 64 by rfl, Z1l] at k_t9
         go_upto_region 22 with fail
         refine wp_region_lit ?_
         refine Lw ?_ (v := .bool false)
         refine J0 ?_
         go_upto_region 30 with fail
         refine wp_region_lit ?_
         refine L0A ?_ k_t9
         refine Lp ?_ k_t2 (cells := J2 .u8 64 (ob (Hs (pad F) (nb F.length)))) (hi := by rw [J6]; kernel_rfl) (hs := by rw [J6, J6]) (h1 := by exact J0b _ _ _)
         intro W28 hO h_
         replace k_t2 : Blk W28 K4 (J2 .u8 64 (ob (Hs (pad F) (nb F.length)))) 30 := h_
         clear h_
         replace off0 := off0.p hO V8
         clear hO
         refine J0 ?_
         go_wp2
         refine bodyPost_ret (K1 rfl rfl k_t2 (by kernel_rfl) (by rw [J6]; kernel_rfl)) rfl ⟨rfl, off0.ext⟩
end Go.Proofs.YtefpoollmbmkfaaDoor
