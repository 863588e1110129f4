/- sha5.Sum: the sum of parts, one behind the other. Conditions: the parts read as bytes; the tables hold their numbers. -/
import Derived.Test.YtefpoollmbmkfaaDoorGc
import Derived.Test.YtefpoollmbmkfaaDoorHb
set_option linter.unusedSimpArgs false
set_option linter.unusedVariables false
namespace Go.Proofs.YtefpoollmbmkfaaDoor
set_option maxHeartbeats 4000000
set_option maxRecDepth 100000
open Go.RowKit
attribute [local irreducible] wpList
theorem Z6a (h : Nat → Int) (l : List UInt8) (u : Value) (hl : 128 ≤ l.length) (w : World) (hs : Sl w u l) (hG : GS w) : Calls Tryd.prog 81 #[.agg (J2 .u64 8 h), u] w fun e w' => Ret (.agg (J2 .u64 8 (prs h (bt l)))) w w' e := by
  obtain ⟨ad, c, rfl, _⟩ := Z5c hs (by omega)
  exact Z5m h l ad c hl w hs hG

theorem Y3b (ps : List (List UInt8)) (A : Option Addr) (c : Nat) (F : List UInt8) (hF : ps.flatten = F) (hlen : F.length ≤ 70368744177664) (hpn : ps.length ≤ 9223372036854775000) (w : World) (hps : ∀ i l, ps[i]? = some l → ∃ ad u, A = some ad ∧ w.cell? (ad.add i) = some u ∧ Sl w u l) (hG : GS w) :
  Calls Tryd.prog 32 #[.slice A ps.length c] w fun e w' => Ret (.agg (J2 .u8 64 (sm F))) w w' e := by
 have HG := Lib.hid hG
 have HPS := Lib.hid hps
 clear hG hps
 have hpl := Q5c F
 have hzc := (Q3c F.length).2
 have off0 : Off [] w w := Off.refl _ _
 go_enter Tryd.func32, Tryd.ntmps32
 go_upto_region 0 with fail
 refine wp_region_lit ?_
 refine Ln ?_ (z := J2 .u8 64 (fun _ => 0)) (t := 30)
 intro K5 W1 V0 hO h_
 have V7 := fbn off0 V0
 replace off0 := off0.o hO
 have k_t2 := h_
 clear hO h_ V0
 refine J0 ?_
 go_upto_region 2 with fail
 refine wp_region_lit ?_
 refine Lv ?_
 refine Lv ?_
 refine Lw ?_ (v := .int .i64 0)
 refine J0 ?_
 have ow_b := Q76 W1
 have J1u : Fr (Value.ownBlock (.slice none 0 0)) w.heap.size [] := Z56
 have Z9 : Value.ownBlock (.slice none 0 0) ≠ some K5 := fun e_ => by cases e_
 go_wp2_with fail
 go_loopw [3, 15] (fun sv ii wr => ∃ (i : Nat) (bv : Value), (i ≤ ps.length) ∧ (bv = sv) ∧ (ii = .int .i64 (i : Int)) ∧ Off [] w wr ∧ Blk wr K5 (J2 .u8 64 (fun _ => 0)) 30 ∧ Own wr bv ((List.take i ps).flatten) ∧ Fr (Value.ownBlock bv) w.heap.size [] ∧ (Value.ownBlock bv) ≠ some K5)
  (fun sv ii _ => ps.length - (intOf ii).toNat)
 case atStart => exact ⟨0, _, Nat.zero_le _, rfl, rfl, off0, k_t2, ow_b, J1u, Z9⟩
 case round =>
  obtain ⟨i, bv, hi, rfl, rfl, off0, k_t2, ow_b, J1u, Z9⟩ := hrel
  obtain ⟨W2, eW_⟩ := J6g off0
  subst eW_
  by_cases hlt : i < ps.length
  ·
   have _f := hlt
   obtain ⟨l_, hl_⟩ : ∃ l, ps[i]? = some l := ⟨_, List.getElem?_eq_getElem hlt⟩
   obtain ⟨ad_, u_, hA_, hc_, hu_⟩ := HPS.out i l_ hl_
   have hfl : (List.take i ps).flatten.length + l_.length ≤ F.length := by rw [← hF, ← List.length_append, ← Q1v hl_]; exact Z20 _ _
   go_upto_region 3 with fail
   refine wp_region_lit ?_
   refine Lw ?_ (v := .bool true)
   refine J0 ?_
   go_upto_region 4 with fail
   refine wp_region_lit ?_
   refine Lw ?_ (v := .pointer (some (ad_.add i))) (hv := Z5p (j := i) hlt rfl (by rw [← hA_]; rfl) rfl)
   refine Z9b (by rfl) rfl rfl (J5n hc_ off0.ext) (by kernel_rfl) ?_
   (try simp only [Act.put, mA, mB, mC])
   refine Lv ?_
   refine J0 ?_
   go_upto_region 5 with fail
   refine wp_region_lit ?_
   refine Lv ?_
   refine Lv ?_
   refine J0j (xs := ((List.take i ps).flatten)) (ys := l_) (by rfl) rfl rfl rfl ow_b (hu_.off off0 f0) (by first | omega | (simp only [List.length_append, List.length_cons, List.length_nil, List.length_replicate]; omega)) ?_
   (try simp only [Act.put, mA, mB, mC])
   intro Y6s W3 Z2j hO Q5g nil_a21
   clear nil_a21
   have Q8x := J14 Q5g Z9 (J5 k_t2)
   have Y06 := J23 Q5g J1u off0.size
   replace k_t2 := V2 k_t2 hO (nmo Z9)
   replace off0 := off0.step hO (io J1u)
   clear hO Q5g
   have ow_b := Z2j
   clear Z2j
   have J1u := Y06
   have Z9 := Q8x
   refine Lv ?_
   refine J0 ?_
   go_wp2
   go_roundw
   case rel => exact ⟨i + 1, _, by omega, rfl, by go_num, off0, k_t2, (by rw [Q1v hl_]; exact ow_b), J1u, Z9⟩
   case measure => simp [intOf]; omega
  ·
   have _f := hlt
   obtain rfl : i = ps.length := by omega
   rw [List.take_length, hF] at ow_b
   go_upto_region 3 with fail
   refine wp_region_lit ?_
   refine Lw ?_ (v := .bool false)
   refine J0 ?_
   go_upto_region 7 with fail
   refine wp_region_lit ?_
   refine Lv ?_
   refine J7k (l := F) (ow_b.sl) (by rfl) rfl rfl ?_
   (try simp only [Act.put, mA, mB, mC])
   refine Lw ?_ (v := .int .u64 ((F.length : Nat) : Int)) (hv := by go_simp; (try simp only [IntKind.wrap_u64, IntKind.wrap_i64]); (try omega))
   refine Lw ?_ (v := .int .u64 ((8 * F.length : Nat) : Int)) (hv := by rw [show ((8 * F.length : Nat) : Int) = sl ((F.length : Nat) : Int) 3 from (by unfold sl; rw [IntKind.wrap_u64]; omega)]; exact Q37 (n := 3) (by decide) rfl rfl rfl)
   refine Lv ?_
   refine J0 ?_
   go_upto_region 8 with fail
   refine wp_region_lit ?_
   refine Lv ?_
   refine LnS ?_ (z := #[.int .u8 128]) (t := 5) (n := 1) (c := 1)
   intro Y3c W3 Z2k hO h_
   replace k_t2 := k_t2.o hO
   replace ow_b := Own.off ow_b hO f0
   replace off0 := off0.o hO
   have ow_s28 : Own W3 (.slice (some ⟨Y3c, 0, none⟩) 1 1) [128] := J0b h_ (by rfl) (by show 1 ≤ maxLen; decide)
   clear hO h_ Z2k
   refine J0j (xs := F) (ys := [128]) (by rfl) rfl rfl rfl ow_b (ow_s28.sl) (by first | omega | (simp only [List.length_append, List.length_cons, List.length_nil, List.length_replicate]; omega)) ?_
   (try simp only [Act.put, mA, mB, mC])
   intro Y6t W4 J67 hO Q0y nil_a29
   clear nil_a29
   have Q8y := J14 Q0y Z9 (J5 k_t2)
   have Y07 := J23 Q0y J1u off0.size
   replace k_t2 := V2 k_t2 hO (nmo Z9)
   replace off0 := off0.step hO (io J1u)
   clear hO Q0y
   have ow_b := J67
   clear J67
   have J1u := Y07
   have Z9 := Q8y
   refine Lv ?_
   refine J0 ?_
   clear ow_s28
   go_wp2_with fail
   go_loopw [3] (fun sv wr => ∃ (k : Nat) (bv : Value), (k ≤ zc F.length) ∧ (bv = sv) ∧ Off [] w wr ∧ Blk wr K5 (J2 .u8 64 (fun _ => 0)) 30 ∧ Own wr bv (F ++ [128] ++ List.replicate k 0) ∧ Fr (Value.ownBlock bv) w.heap.size [] ∧ (Value.ownBlock bv) ≠ some K5)
    (fun sv _ => F.length + 300 - Q7c sv)
   case atStart => exact ⟨0, _, Nat.zero_le _, rfl, off0, k_t2, (by rw [List.replicate_zero, List.append_nil]; exact ow_b), J1u, Z9⟩
   case round =>
    obtain ⟨k, bv, hk, rfl, off0, k_t2, ow_b, J1u, Z9⟩ := hrel
    obtain ⟨W5, eW_⟩ := J6g off0
    subst eW_
    have lb := Q7d ow_b
    by_cases hz : k < zc F.length
    ·
     have _f := hz
     have hz2 := Y2j hz
     go_upto_region 9 with fail
     refine wp_region_lit ?_
     refine Lv ?_
     refine J7k (l := (F ++ [128] ++ List.replicate k 0)) (ow_b.sl) (by rfl) rfl rfl ?_
     (try simp only [Act.put, mA, mB, mC])
     refine Lw ?_ (v := .int .i64 (((F.length + 1 + k) % 128 : Nat) : Int)) (hv := by go_simp; (try simp only [List.length_append, List.length_cons, List.length_nil, List.length_replicate]); rw [Int.tmod_eq_emod_of_nonneg (by omega)]; omega)
     refine Lw ?_ (v := .bool true) (hv := by go_simp; omega)
     refine J0 ?_
     go_upto_region 10 with fail
     refine wp_region_lit ?_
     refine Lv ?_
     refine LnS ?_ (z := #[.int .u8 0]) (t := 5) (n := 1) (c := 1)
     intro Y3d W6 Y3e hO h_
     replace k_t2 := k_t2.o hO
     replace ow_b := Own.off ow_b hO f0
     replace off0 := off0.o hO
     have ow_s35 : Own W6 (.slice (some ⟨Y3d, 0, none⟩) 1 1) [0] := J0b h_ (by rfl) (by show 1 ≤ maxLen; decide)
     clear hO h_ Y3e
     refine J0j (xs := (F ++ [128] ++ List.replicate k 0)) (ys := [0]) (by rfl) rfl rfl rfl ow_b (ow_s35.sl) (by first | omega | (simp only [List.length_append, List.length_cons, List.length_nil, List.length_replicate]; omega)) ?_
     (try simp only [Act.put, mA, mB, mC])
     intro Y6u W7 Z2l hO Q5h nil_a36
     clear nil_a36
     have Q8z := J14 Q5h Z9 (J5 k_t2)
     have Y08 := J23 Q5h J1u off0.size
     replace k_t2 := V2 k_t2 hO (nmo Z9)
     replace off0 := off0.step hO (io J1u)
     clear hO Q5h
     have ow_b := Z2l
     clear Z2l
     have J1u := Y08
     have Z9 := Q8z
     refine Lv ?_
     refine J0 ?_
     have la := Q7d ow_b
     simp only [List.length_append, List.length_cons, List.length_nil, List.length_replicate] at la lb
     go_wp2
     go_roundw
     case rel => exact ⟨k + 1, _, by omega, rfl, off0, k_t2, (by rw [List.replicate_succ', ← List.append_assoc]; exact ow_b), J1u, Z9⟩
     case measure => simp only [la, lb]; omega
    ·
     have _f := hz
     obtain rfl : k = zc F.length := by omega
     have hz2 := (Q3c F.length).1
     go_upto_region 9 with fail
     refine wp_region_lit ?_
     refine Lv ?_
     refine J7k (l := (F ++ [128] ++ List.replicate (zc F.length) 0)) (ow_b.sl) (by rfl) rfl rfl ?_
     (try simp only [Act.put, mA, mB, mC])
     refine Lw ?_ (v := .int .i64 (((F.length + 1 + zc F.length) % 128 : Nat) : Int)) (hv := by go_simp; (try simp only [List.length_append, List.length_cons, List.length_nil, List.length_replicate]); rw [Int.tmod_eq_emod_of_nonneg (by omega)]; omega)
     refine Lw ?_ (v := .bool false) (hv := by first | (go_simp; done) | (go_simp; omega))
     refine J0 ?_
     go_upto_region 11 with fail
     refine wp_region_lit ?_
     refine Lv ?_
     refine Q49 (xs := (F ++ [128] ++ List.replicate (zc F.length) 0)) (m := 8) (by decide) (by rfl) rfl rfl rfl ow_b (by first | omega | (simp only [List.length_append, List.length_cons, List.length_nil, List.length_replicate]; omega)) ?_
     (try simp only [Act.put, mA, mB, mC])
     intro Y3f W6 Z2m hO Q5i
     have Q90 := J14 Q5i Z9 (J5 k_t2)
     have Y09 := J23 Q5i J1u off0.size
     replace k_t2 := V2 k_t2 hO (nmo Z9)
     replace off0 := off0.step hO (io J1u)
     clear hO Q5i
     have ow_b := Z2m
     clear Z2m
     have J1u := Y09
     have Z9 := Q90
     refine Lv ?_
     refine J0 ?_
     go_wp2_with fail
     refine wp_loop_rounds 9 ?_
     rw [rounds_succ]
     go_upto_region 15 with fail
     refine wp_region_lit ?_
     refine Lv ?_
     refine Lv ?_
     refine Lw ?_ (v := .int .i64 7)
     refine Lw ?_ (v := .int .i64 56)
     refine Lw ?_ (v := .int .u64 (sr ((8 * F.length : Nat) : Int) 56)) (hv := J2q (n := 56) (by decide) rfl rfl rfl)
     refine Lw ?_ (v := .int .u8 ((u8 ((8 * F.length) / 72057594037927936)).toNat : Int)) (hv := by rw [← J71 (8 * F.length) 56 72057594037927936 (by decide)]; exact J65 rfl rfl)
     refine LnS ?_ (z := #[.int .u8 ((u8 ((8 * F.length) / 72057594037927936)).toNat : Int)]) (t := 5) (n := 1) (c := 1)
     intro Z7v W7 J2d hO h_
     have Y7 : ∀ x, (Value.ownBlock Y3f) = some x → Value.ownBlock (.slice (some ⟨Z7v, 0, none⟩) 1 1) ≠ some x := J6y (Own.lt ow_b) J2d
     replace k_t2 := k_t2.o hO
     replace ow_b := Own.off ow_b hO f0
     replace off0 := off0.o hO
     have ow_s49 : Own W7 (.slice (some ⟨Z7v, 0, none⟩) 1 1) [u8 ((8 * F.length) / 72057594037927936)] := J0b h_ (by rfl) (by show 1 ≤ maxLen; decide)
     clear hO h_ J2d
     refine J0j (xs := ((F ++ [128] ++ List.replicate (zc F.length) 0) ++ List.replicate 8 0)) (ys := [u8 ((8 * F.length) / 72057594037927936)]) (by rfl) rfl rfl rfl ow_b (ow_s49.sl) (by first | omega | (simp only [List.length_append, List.length_cons, List.length_nil, List.length_replicate]; omega)) ?_
     (try simp only [Act.put, mA, mB, mC])
     intro Y3g W8 J1c hO K7 nil_a50
     clear nil_a50
     have J0u := J14 K7 Z9 (J5 k_t2)
     have J1d := J16 K7 Y7 (Own.lt ow_s49)
     have J3k := J23 K7 J1u off0.size
     replace k_t2 := V2 k_t2 hO (nmo Z9)
     replace ow_s49 := Own.off ow_s49 hO (fo Y7)
     replace off0 := off0.step hO (io J1u)
     clear hO K7
     have ow_b := J1c
     clear J1c
     have J1u := J3k
     have Z9 := J0u
     have Y7 := J1d
     refine Lv ?_
     refine J0 ?_
     go_wp2_with fail
     rw [rounds_succ]
     go_upto_region 15 with fail
     refine wp_region_lit ?_
     refine Lv ?_
     refine Lv ?_
     refine Lw ?_ (v := .int .i64 6)
     refine Lw ?_ (v := .int .i64 48)
     refine Lw ?_ (v := .int .u64 (sr ((8 * F.length : Nat) : Int) 48)) (hv := J2q (n := 48) (by decide) rfl rfl rfl)
     refine Lw ?_ (v := .int .u8 ((u8 ((8 * F.length) / 281474976710656)).toNat : Int)) (hv := by rw [← J71 (8 * F.length) 48 281474976710656 (by decide)]; exact J65 rfl rfl)
     clear ow_s49 Y7
     refine LnS ?_ (z := #[.int .u8 ((u8 ((8 * F.length) / 281474976710656)).toNat : Int)]) (t := 5) (n := 1) (c := 1)
     intro Z7w W9 J2d hO h_
     have Y7 : ∀ x, (Value.ownBlock Y3g) = some x → Value.ownBlock (.slice (some ⟨Z7w, 0, none⟩) 1 1) ≠ some x := J6y (Own.lt ow_b) J2d
     replace k_t2 := k_t2.o hO
     replace ow_b := Own.off ow_b hO f0
     replace off0 := off0.o hO
     have ow_s49 : Own W9 (.slice (some ⟨Z7w, 0, none⟩) 1 1) [u8 ((8 * F.length) / 281474976710656)] := J0b h_ (by rfl) (by show 1 ≤ maxLen; decide)
     clear hO h_ J2d
     refine J0j (xs := (((F ++ [128] ++ List.replicate (zc F.length) 0) ++ List.replicate 8 0) ++ [u8 ((8 * F.length) / 72057594037927936)])) (ys := [u8 ((8 * F.length) / 281474976710656)]) (by rfl) rfl rfl rfl ow_b (ow_s49.sl) (by first | omega | (simp only [List.length_append, List.length_cons, List.length_nil, List.length_replicate]; omega)) ?_
     (try simp only [Act.put, mA, mB, mC])
     intro Y0a W10 J1c hO K7 nil_a50
     clear nil_a50
     have J0u := J14 K7 Z9 (J5 k_t2)
     have J1d := J16 K7 Y7 (Own.lt ow_s49)
     have J3k := J23 K7 J1u off0.size
     replace k_t2 := V2 k_t2 hO (nmo Z9)
     replace ow_s49 := Own.off ow_s49 hO (fo Y7)
     replace off0 := off0.step hO (io J1u)
     clear hO K7
     have ow_b := J1c
     clear J1c
     have J1u := J3k
     have Z9 := J0u
     have Y7 := J1d
     refine Lv ?_
     refine J0 ?_
     go_wp2_with fail
     rw [rounds_succ]
     go_upto_region 15 with fail
     refine wp_region_lit ?_
     refine Lv ?_
     refine Lv ?_
     refine Lw ?_ (v := .int .i64 5)
     refine Lw ?_ (v := .int .i64 40)
     refine Lw ?_ (v := .int .u64 (sr ((8 * F.length : Nat) : Int) 40)) (hv := J2q (n := 40) (by decide) rfl rfl rfl)
     refine Lw ?_ (v := .int .u8 ((u8 ((8 * F.length) / 1099511627776)).toNat : Int)) (hv := by rw [← J71 (8 * F.length) 40 1099511627776 (by decide)]; exact J65 rfl rfl)
     clear ow_s49 Y7
     refine LnS ?_ (z := #[.int .u8 ((u8 ((8 * F.length) / 1099511627776)).toNat : Int)]) (t := 5) (n := 1) (c := 1)
     intro Z2n W11 J2d hO h_
     have Y7 : ∀ x, (Value.ownBlock Y0a) = some x → Value.ownBlock (.slice (some ⟨Z2n, 0, none⟩) 1 1) ≠ some x := J6y (Own.lt ow_b) J2d
     replace k_t2 := k_t2.o hO
     replace ow_b := Own.off ow_b hO f0
     replace off0 := off0.o hO
     have ow_s49 : Own W11 (.slice (some ⟨Z2n, 0, none⟩) 1 1) [u8 ((8 * F.length) / 1099511627776)] := J0b h_ (by rfl) (by show 1 ≤ maxLen; decide)
     clear hO h_ J2d
     refine J0j (xs := ((((F ++ [128] ++ List.replicate (zc F.length) 0) ++ List.replicate 8 0) ++ [u8 ((8 * F.length) / 72057594037927936)]) ++ [u8 ((8 * F.length) / 281474976710656)])) (ys := [u8 ((8 * F.length) / 1099511627776)]) (by rfl) rfl rfl rfl ow_b (ow_s49.sl) (by first | omega | (simp only [List.length_append, List.length_cons, List.length_nil, List.length_replicate]; omega)) ?_
     (try simp only [Act.put, mA, mB, mC])
     intro Y0b W12 J1c hO K7 nil_a50
     clear nil_a50
     have J0u := J14 K7 Z9 (J5 k_t2)
     have J1d := J16 K7 Y7 (Own.lt ow_s49)
     have J3k := J23 K7 J1u off0.size
     replace k_t2 := V2 k_t2 hO (nmo Z9)
     replace ow_s49 := Own.off ow_s49 hO (fo Y7)
     replace off0 := off0.step hO (io J1u)
     clear hO K7
     have ow_b := J1c
     clear J1c
     have J1u := J3k
     have Z9 := J0u
     have Y7 := J1d
     refine Lv ?_
     refine J0 ?_
     go_wp2_with fail
     rw [rounds_succ]
     go_upto_region 15 with fail
     refine wp_region_lit ?_
     refine Lv ?_
     refine Lv ?_
     refine Lw ?_ (v := .int .i64 4)
     refine Lw ?_ (v := .int .i64 32)
     refine Lw ?_ (v := .int .u64 (sr ((8 * F.length : Nat) : Int) 32)) (hv := J2q (n := 32) (by decide) rfl rfl rfl)
     refine Lw ?_ (v := .int .u8 ((u8 ((8 * F.length) / 4294967296)).toNat : Int)) (hv := by rw [← J71 (8 * F.length) 32 4294967296 (by decide)]; exact J65 rfl rfl)
     clear ow_s49 Y7
     refine LnS ?_ (z := #[.int .u8 ((u8 ((8 * F.length) / 4294967296)).toNat : Int)]) (t := 5) (n := 1) (c := 1)
     intro Z2o W13 J2d hO h_
     have Y7 : ∀ x, (Value.ownBlock Y0b) = some x → Value.ownBlock (.slice (some ⟨Z2o, 0, none⟩) 1 1) ≠ some x := J6y (Own.lt ow_b) J2d
     replace k_t2 := k_t2.o hO
     replace ow_b := Own.off ow_b hO f0
     replace off0 := off0.o hO
     have ow_s49 : Own W13 (.slice (some ⟨Z2o, 0, none⟩) 1 1) [u8 ((8 * F.length) / 4294967296)] := J0b h_ (by rfl) (by show 1 ≤ maxLen; decide)
     clear hO h_ J2d
     refine J0j (xs := (((((F ++ [128] ++ List.replicate (zc F.length) 0) ++ List.replicate 8 0) ++ [u8 ((8 * F.length) / 72057594037927936)]) ++ [u8 ((8 * F.length) / 281474976710656)]) ++ [u8 ((8 * F.length) / 1099511627776)])) (ys := [u8 ((8 * F.length) / 4294967296)]) (by rfl) rfl rfl rfl ow_b (ow_s49.sl) (by first | omega | (simp only [List.length_append, List.length_cons, List.length_nil, List.length_replicate]; omega)) ?_
     (try simp only [Act.put, mA, mB, mC])
     intro Y0c W14 J1c hO K7 nil_a50
     clear nil_a50
     have J0u := J14 K7 Z9 (J5 k_t2)
     have J1d := J16 K7 Y7 (Own.lt ow_s49)
     have J3k := J23 K7 J1u off0.size
     replace k_t2 := V2 k_t2 hO (nmo Z9)
     replace ow_s49 := Own.off ow_s49 hO (fo Y7)
     replace off0 := off0.step hO (io J1u)
     clear hO K7
     have ow_b := J1c
     clear J1c
     have J1u := J3k
     have Z9 := J0u
     have Y7 := J1d
     refine Lv ?_
     refine J0 ?_
     go_wp2_with fail
     rw [rounds_succ]
     go_upto_region 15 with fail
     refine wp_region_lit ?_
     refine Lv ?_
     refine Lv ?_
     refine Lw ?_ (v := .int .i64 3)
     refine Lw ?_ (v := .int .i64 24)
     refine Lw ?_ (v := .int .u64 (sr ((8 * F.length : Nat) : Int) 24)) (hv := J2q (n := 24) (by decide) rfl rfl rfl)
     refine Lw ?_ (v := .int .u8 ((u8 ((8 * F.length) / 16777216)).toNat : Int)) (hv := by rw [← J71 (8 * F.length) 24 16777216 (by decide)]; exact J65 rfl rfl)
     clear ow_s49 Y7
     refine LnS ?_ (z := #[.int .u8 ((u8 ((8 * F.length) / 16777216)).toNat : Int)]) (t := 5) (n := 1) (c := 1)
     intro Z2p W15 J2d hO h_
     have Y7 : ∀ x, (Value.ownBlock Y0c) = some x → Value.ownBlock (.slice (some ⟨Z2p, 0, none⟩) 1 1) ≠ some x := J6y (Own.lt ow_b) J2d
     replace k_t2 := k_t2.o hO
     replace ow_b := Own.off ow_b hO f0
     replace off0 := off0.o hO
     have ow_s49 : Own W15 (.slice (some ⟨Z2p, 0, none⟩) 1 1) [u8 ((8 * F.length) / 16777216)] := J0b h_ (by rfl) (by show 1 ≤ maxLen; decide)
     clear hO h_ J2d
     refine J0j (xs := ((((((F ++ [128] ++ List.replicate (zc F.length) 0) ++ List.replicate 8 0) ++ [u8 ((8 * F.length) / 72057594037927936)]) ++ [u8 ((8 * F.length) / 281474976710656)]) ++ [u8 ((8 * F.length) / 1099511627776)]) ++ [u8 ((8 * F.length) / 4294967296)])) (ys := [u8 ((8 * F.length) / 16777216)]) (by rfl) rfl rfl rfl ow_b (ow_s49.sl) (by first | omega | (simp only [List.length_append, List.length_cons, List.length_nil, List.length_replicate]; omega)) ?_
     (try simp only [Act.put, mA, mB, mC])
     intro Y0d W16 J1c hO K7 nil_a50
     clear nil_a50
     have J0u := J14 K7 Z9 (J5 k_t2)
     have J1d := J16 K7 Y7 (Own.lt ow_s49)
     have J3k := J23 K7 J1u off0.size
     replace k_t2 := V2 k_t2 hO (nmo Z9)
     replace ow_s49 := Own.off ow_s49 hO (fo Y7)
     replace off0 := off0.step hO (io J1u)
     clear hO K7
     have ow_b := J1c
     clear J1c
     have J1u := J3k
     have Z9 := J0u
     have Y7 := J1d
     refine Lv ?_
     refine J0 ?_
     go_wp2_with fail
     rw [rounds_succ]
     go_upto_region 15 with fail
     refine wp_region_lit ?_
     refine Lv ?_
     refine Lv ?_
     refine Lw ?_ (v := .int .i64 2)
     refine Lw ?_ (v := .int .i64 16)
     refine Lw ?_ (v := .int .u64 (sr ((8 * F.length : Nat) : Int) 16)) (hv := J2q (n := 16) (by decide) rfl rfl rfl)
     refine Lw ?_ (v := .int .u8 ((u8 ((8 * F.length) / 65536)).toNat : Int)) (hv := by rw [← J71 (8 * F.length) 16 65536 (by decide)]; exact J65 rfl rfl)
     clear ow_s49 Y7
     refine LnS ?_ (z := #[.int .u8 ((u8 ((8 * F.length) / 65536)).toNat : Int)]) (t := 5) (n := 1) (c := 1)
     intro Z2q W17 J2d hO h_
     have Y7 : ∀ x, (Value.ownBlock Y0d) = some x → Value.ownBlock (.slice (some ⟨Z2q, 0, none⟩) 1 1) ≠ some x := J6y (Own.lt ow_b) J2d
     replace k_t2 := k_t2.o hO
     replace ow_b := Own.off ow_b hO f0
     replace off0 := off0.o hO
     have ow_s49 : Own W17 (.slice (some ⟨Z2q, 0, none⟩) 1 1) [u8 ((8 * F.length) / 65536)] := J0b h_ (by rfl) (by show 1 ≤ maxLen; decide)
     clear hO h_ J2d
     refine J0j (xs := (((((((F ++ [128] ++ List.replicate (zc F.length) 0) ++ List.replicate 8 0) ++ [u8 ((8 * F.length) / 72057594037927936)]) ++ [u8 ((8 * F.length) / 281474976710656)]) ++ [u8 ((8 * F.length) / 1099511627776)]) ++ [u8 ((8 * F.length) / 4294967296)]) ++ [u8 ((8 * F.length) / 16777216)])) (ys := [u8 ((8 * F.length) / 65536)]) (by rfl) rfl rfl rfl ow_b (ow_s49.sl) (by first | omega | (simp only [List.length_append, List.length_cons, List.length_nil, List.length_replicate]; omega)) ?_
     (try simp only [Act.put, mA, mB, mC])
     intro Y0e W18 J1c hO K7 nil_a50
     clear nil_a50
     have J0u := J14 K7 Z9 (J5 k_t2)
     have J1d := J16 K7 Y7 (Own.lt ow_s49)
     have J3k := J23 K7 J1u off0.size
     replace k_t2 := V2 k_t2 hO (nmo Z9)
     replace ow_s49 := Own.off ow_s49 hO (fo Y7)
     replace off0 := off0.step hO (io J1u)
     clear hO K7
     have ow_b := J1c
     clear J1c
     have J1u := J3k
     have Z9 := J0u
     have Y7 := J1d
     refine Lv ?_
     refine J0 ?_
     go_wp2_with fail
     rw [rounds_succ]
     go_upto_region 15 with fail
     refine wp_region_lit ?_
     refine Lv ?_
     refine Lv ?_
     refine Lw ?_ (v := .int .i64 1)
     refine Lw ?_ (v := .int .i64 8)
     refine Lw ?_ (v := .int .u64 (sr ((8 * F.length : Nat) : Int) 8)) (hv := J2q (n := 8) (by decide) rfl rfl rfl)
     refine Lw ?_ (v := .int .u8 ((u8 ((8 * F.length) / 256)).toNat : Int)) (hv := by rw [← J71 (8 * F.length) 8 256 (by decide)]; exact J65 rfl rfl)
     clear ow_s49 Y7
     refine LnS ?_ (z := #[.int .u8 ((u8 ((8 * F.length) / 256)).toNat : Int)]) (t := 5) (n := 1) (c := 1)
     intro Z2r W19 J2d hO h_
     have Y7 : ∀ x, (Value.ownBlock Y0e) = some x → Value.ownBlock (.slice (some ⟨Z2r, 0, none⟩) 1 1) ≠ some x := J6y (Own.lt ow_b) J2d
     replace k_t2 := k_t2.o hO
     replace ow_b := Own.off ow_b hO f0
     replace off0 := off0.o hO
     have ow_s49 : Own W19 (.slice (some ⟨Z2r, 0, none⟩) 1 1) [u8 ((8 * F.length) / 256)] := J0b h_ (by rfl) (by show 1 ≤ maxLen; decide)
     clear hO h_ J2d
     refine J0j (xs := ((((((((F ++ [128] ++ List.replicate (zc F.length) 0) ++ List.replicate 8 0) ++ [u8 ((8 * F.length) / 72057594037927936)]) ++ [u8 ((8 * F.length) / 281474976710656)]) ++ [u8 ((8 * F.length) / 1099511627776)]) ++ [u8 ((8 * F.length) / 4294967296)]) ++ [u8 ((8 * F.length) / 16777216)]) ++ [u8 ((8 * F.length) / 65536)])) (ys := [u8 ((8 * F.length) / 256)]) (by rfl) rfl rfl rfl ow_b (ow_s49.sl) (by first | omega | (simp only [List.length_append, List.length_cons, List.length_nil, List.length_replicate]; omega)) ?_
     (try simp only [Act.put, mA, mB, mC])
     intro Y5e W20 J1c hO K7 nil_a50
     clear nil_a50
     have J0u := J14 K7 Z9 (J5 k_t2)
     have J3k := J23 K7 J1u off0.size
     replace k_t2 := V2 k_t2 hO (nmo Z9)
     replace ow_s49 := Own.off ow_s49 hO (fo Y7)
     replace off0 := off0.step hO (io J1u)
     clear hO K7
     have ow_b := J1c
     clear J1c
     have J1u := J3k
     have Z9 := J0u
     refine Lv ?_
     refine J0 ?_
     go_wp2_with fail
     rw [rounds_succ]
     go_upto_region 15 with fail
     refine wp_region_lit ?_
     refine Lv ?_
     refine Lv ?_
     refine Lw ?_ (v := .int .i64 0)
     refine Lw ?_ (v := .int .i64 0)
     refine Lw ?_ (v := .int .u64 (sr ((8 * F.length : Nat) : Int) 0)) (hv := J2q (n := 0) (by decide) rfl rfl rfl)
     refine Lw ?_ (v := .int .u8 ((u8 (8 * F.length)).toNat : Int)) (hv := by rw [← Z5s (8 * F.length)]; exact J65 rfl rfl)
     clear ow_s49 Y7
     refine LnS ?_ (z := #[.int .u8 ((u8 (8 * F.length)).toNat : Int)]) (t := 5) (n := 1) (c := 1)
     intro Y0f W21 J2d hO h_
     replace k_t2 := k_t2.o hO
     replace ow_b := Own.off ow_b hO f0
     replace off0 := off0.o hO
     have ow_s49 : Own W21 (.slice (some ⟨Y0f, 0, none⟩) 1 1) [u8 (8 * F.length)] := J0b h_ (by rfl) (by show 1 ≤ maxLen; decide)
     clear hO h_ J2d
     refine J0j (xs := (((((((((F ++ [128] ++ List.replicate (zc F.length) 0) ++ List.replicate 8 0) ++ [u8 ((8 * F.length) / 72057594037927936)]) ++ [u8 ((8 * F.length) / 281474976710656)]) ++ [u8 ((8 * F.length) / 1099511627776)]) ++ [u8 ((8 * F.length) / 4294967296)]) ++ [u8 ((8 * F.length) / 16777216)]) ++ [u8 ((8 * F.length) / 65536)]) ++ [u8 ((8 * F.length) / 256)])) (ys := [u8 (8 * F.length)]) (by rfl) rfl rfl rfl ow_b (ow_s49.sl) (by first | omega | (simp only [List.length_append, List.length_cons, List.length_nil, List.length_replicate]; omega)) ?_
     (try simp only [Act.put, mA, mB, mC])
     intro Q5j W22 J1c hO K7 nil_a50
     clear nil_a50
     have J0u := J14 K7 Z9 (J5 k_t2)
     replace k_t2 := V2 k_t2 hO (nmo Z9)
     replace off0 := off0.step hO (io J1u)
     clear hO K7
     have ow_b := J1c
     clear J1c
     have Z9 := J0u
     refine Lv ?_
     refine J0 ?_
     go_wp2_with fail
     rw [rounds_succ]
     go_upto_region 16 with fail
     refine wp_region_lit ?_
     refine Q2t (by rfl) rfl rfl ((Q39 HG.out off0.ext).2) (by kernel_rfl) (by rw [J6]; kernel_rfl) ?_
     (try simp only [Act.put, mA, mB, mC])
     refine LnP ?_ (z := J2 .u64 8 (fun _ => 0)) (t := 113) (cells := J2 .u64 8 hf) (hi := by rw [J6]; kernel_rfl) (hs := by rw [J6, J6]) (h1 := by exact J0f _ _ _)
     intro Q0z W24 K6 hO h_
     have J33 := bn k_t2 K6
     have Q7g := J04 (Own.lt ow_b) K6
     have J6q := fbn off0 K6
     replace k_t2 := k_t2.o hO
     replace ow_b := Own.off ow_b hO f0
     replace off0 := off0.o hO
     have k_t8 := h_
     clear hO h_ K6
     refine J0 ?_
     clear ow_s49 Y7
     rw [Z5r] at ow_b
     have J3y : Sl W24 Q5j (List.drop (128 * 0) (pad F)) := Q8o ow_b
     have J7m : sb Q5j (List.drop (128 * 0) (pad F)) ≠ some K5 := Z7n Z9
     have J68 : sb Q5j (List.drop (128 * 0) (pad F)) ≠ some Q0z := Z7n Q7g
     clear ow_b J1u Z9 Q7g
     go_wp2_with fail
     go_loopw [3] (fun sv wr => ∃ (j : Nat) (u : Value), (j ≤ nb F.length) ∧ (u = sv) ∧ Off [] w wr ∧ Blk wr K5 (J2 .u8 64 (fun _ => 0)) 30 ∧ Blk wr Q0z (J2 .u64 8 (Hs (pad F) j)) 113 ∧ Sl wr u (List.drop (128 * j) (pad F)) ∧ (sb u (List.drop (128 * j) (pad F))) ≠ some K5 ∧ (sb u (List.drop (128 * j) (pad F))) ≠ some Q0z)
      (fun sv _ => Q7c sv)
     case atStart => exact ⟨0, _, Nat.zero_le _, rfl, off0, k_t2, k_t8, J3y, J7m, J68⟩
     case round =>
      obtain ⟨j, u, hj, rfl, off0, k_t2, k_t8, J3y, J7m, J68⟩ := hrel
      obtain ⟨W25, eW_⟩ := J6g off0
      subst eW_
      have lb := Z21 J3y
      by_cases hjl : j < nb F.length
      ·
       have _f := hjl
       have hl128 : 128 ≤ (List.drop (128 * j) (pad F)).length := by rw [List.length_drop, hpl]; omega
       go_upto_region 17 with fail
       refine wp_region_lit ?_
       refine Lv ?_
       refine J7k (l := (List.drop (128 * j) (pad F))) J3y (by rfl) rfl rfl ?_
       (try simp only [Act.put, mA, mB, mC])
       refine Lw ?_ (v := .bool true) (hv := by go_simp; (try simp only [List.length_drop, hpl]); omega)
       refine J0 ?_
       go_upto_region 19 with fail
       refine wp_region_lit ?_
       refine L0A ?_ k_t8
       refine Lv ?_
       refine Lr ?_ (Z6a (Hs (pad F) j) (List.drop (128 * j) (pad F)) u hl128 W25 J3y (Q39 HG.out off0.ext))
       intro W26 hO
       replace k_t2 := k_t2.o hO
       replace k_t8 := k_t8.o hO
       replace J3y := Sl.off J3y hO f0
       replace off0 := off0.o hO
       clear hO
       refine Lp ?_ k_t8 (cells := J2 .u64 8 (prs (Hs (pad F) j) (bt (List.drop (128 * j) (pad F))))) (hi := by rw [J6]; kernel_rfl) (hs := by rw [J6, J6]) (h1 := by exact J0f _ _ _)
       intro W27 hO h_
       replace k_t8 : Blk W27 Q0z (J2 .u64 8 (prs (Hs (pad F) j) (bt (List.drop (128 * j) (pad F))))) 113 := h_
       clear h_
       replace k_t2 := k_t2.p hO J33
       replace J3y := Sl.off J3y hO (f1 J68)
       replace off0 := off0.p hO J6q
       clear hO
       refine J0 ?_
       go_upto_region 18 with fail
       refine wp_region_lit ?_
       refine Lv ?_
       refine Z1p (n := 128) J3y (by exact hl128) (by rfl) rfl rfl rfl ?_
       (try simp only [Act.put, mA, mB, mC])
       intro Z2s Q5k Q7h
       have Q1y : sb Z2s (List.drop 128 (List.drop (128 * j) (pad F))) ≠ some K5 := Q5a Q7h J7m
       have Q1z : sb Z2s (List.drop 128 (List.drop (128 * j) (pad F))) ≠ some Q0z := Q5a Q7h J68
       refine Lv ?_
       refine J0 ?_
       clear J3y J7m J68
       rw [J99] at Q5k
       rw [J99] at Q1y
       rw [J99] at Q1z
       have J3y := Q5k
       clear Q5k
       have J7m := Q1y
       have J68 := Q1z
       have la := Z21 J3y
       simp only [List.length_drop, hpl] at la lb
       go_wp2
       go_roundw
       case rel => exact ⟨j + 1, _, by omega, rfl, off0, k_t2, k_t8, J3y, J7m, J68⟩
       case measure => simp only [la, lb]; omega
      ·
       have _f := hjl
       obtain rfl : j = nb F.length := by omega
       go_upto_region 17 with fail
       refine wp_region_lit ?_
       refine Lv ?_
       refine J7k (l := (List.drop (128 * nb F.length) (pad F))) J3y (by rfl) rfl rfl ?_
       (try simp only [Act.put, mA, mB, mC])
       refine Lw ?_ (v := .bool false) (hv := by first | (go_simp; done) | (go_simp; (try simp only [List.length_drop, hpl]); omega))
       refine J0 ?_
       go_upto_region 20 with fail
       refine wp_region_lit ?_
       refine Ln ?_ (z := J2 .u8 64 (fun _ => 0)) (t := 30)
       intro Q7i W26 J4v hO h_
       have Z2t := bn k_t2 J4v
       have Z2u := bn k_t8 J4v
       have Z6b := J04 (Sl.lt J3y) J4v
       have Q0k := fbn off0 J4v
       replace k_t2 := k_t2.o hO
       replace k_t8 := k_t8.o hO
       replace J3y := Sl.off J3y hO f0
       replace off0 := off0.o hO
       have k_t9 := h_
       clear hO h_ J4v
       refine J0 ?_
       go_upto_region 21 with fail
       refine wp_region_lit ?_
       refine L0A ?_ k_t8
       refine Lw ?_ (v := .int .i64 0)
       refine J0 ?_
       go_wp2_with fail
       go_loopw [61] (fun ii wr => ∃ (i : Nat), (i ≤ 8) ∧ (ii = .int .i64 (i : Int)) ∧ Off [] w wr ∧ Blk wr K5 (J2 .u8 64 (fun _ => 0)) 30 ∧ Blk wr Q0z (J2 .u64 8 (Hs (pad F) (nb F.length))) 113 ∧ Blk wr Q7i (J2 .u8 64 (Q1h (Hs (pad F) (nb F.length)) (8 * i))) 30 ∧ Sl wr u (List.drop (128 * nb F.length) (pad F)))
        (fun ii _ => 8 - (intOf ii).toNat)
       case atStart => exact ⟨0, Nat.zero_le _, rfl, off0, k_t2, k_t8, (by rw [Nat.mul_zero, Q8m]; exact k_t9), J3y⟩
       case round =>
        obtain ⟨i, hi, rfl, off0, k_t2, k_t8, k_t9, J3y⟩ := hrel
        obtain ⟨W27, eW_⟩ := J6g off0
        subst eW_
        by_cases h8 : i < 8
        ·
         have _f := h8
         go_upto_region 22 with fail
         refine wp_region_lit ?_
         refine Lw ?_ (v := .bool true)
         refine J0 ?_
         go_upto_region 23 with fail
         refine wp_region_lit ?_
         refine Lv ?_
         refine Lw ?_ (v := .int .u64 (Hs (pad F) (nb F.length) i)) (hv := Z5q (m := 8) h8 Tryd.underlying113 (by kernel_rfl) Z5t rfl rfl rfl)
         refine Lv ?_
         refine Lv ?_
         refine J0 ?_
         go_wp2_with fail
         go_loopw [65] (fun jj wr => ∃ (k : Nat), (k ≤ 8) ∧ (jj = .int .i64 (k : Int)) ∧ Off [] w wr ∧ Blk wr K5 (J2 .u8 64 (fun _ => 0)) 30 ∧ Blk wr Q0z (J2 .u64 8 (Hs (pad F) (nb F.length))) 113 ∧ Blk wr Q7i (J2 .u8 64 (Q1h (Hs (pad F) (nb F.length)) (8 * i + k))) 30 ∧ Sl wr u (List.drop (128 * nb F.length) (pad F)))
          (fun jj _ => 8 - (intOf jj).toNat)
         case atStart => exact ⟨0, Nat.zero_le _, rfl, off0, k_t2, k_t8, k_t9, J3y⟩
         case round =>
          obtain ⟨k, hk, rfl, off0, k_t2, k_t8, k_t9, J3y⟩ := hrel
          obtain ⟨W28, eW_⟩ := J6g off0
          subst eW_
          by_cases hk8 : k < 8
          ·
           have _f := hk8
           go_upto_region 25 with fail
           refine wp_region_lit ?_
           refine Lw ?_ (v := .bool true)
           refine J0 ?_
           go_upto_region 27 with fail
           refine wp_region_lit ?_
           refine Lv ?_
           refine Lw ?_ (v := .int .i64 (((8 * i : Nat) : Int))) (hv := by go_simp; (try simp only [IntKind.wrap_u64, IntKind.wrap_i64]); (try omega))
           refine Lv ?_
           refine Lw ?_ (v := .int .i64 (((8 * i + k : Nat) : Int))) (hv := by go_simp; (try simp only [IntKind.wrap_u64, IntKind.wrap_i64]); (try omega))
           refine Lv ?_
           refine Lv ?_
           refine Lw ?_ (v := .int .i64 (((7 - k : Nat) : Int))) (hv := by go_simp; (try simp only [IntKind.wrap_u64, IntKind.wrap_i64]); (try omega))
           refine Lw ?_ (v := .int .i64 (((8 * (7 - k) : Nat) : Int))) (hv := by go_simp; (try simp only [IntKind.wrap_u64, IntKind.wrap_i64]); (try omega))
           refine Lw ?_ (v := .int .u64 (sr (Hs (pad F) (nb F.length) i) (8 * (7 - k)))) (hv := J2q (n := 8 * (7 - k)) (by omega) rfl rfl rfl)
           refine Lw ?_ (v := .int .u8 (w8 (sr (Hs (pad F) (nb F.length) i) (8 * (7 - k))))) (hv := by exact J65 rfl rfl)
           refine Lw ?_ (v := .pointer (some ⟨Q7i, 0 + (8 * i + k), none⟩)) (hv := Q2 (m := 64) (by decide) (by omega) Tryd.underlying30 (by kernel_rfl) rfl rfl rfl)
           refine J35 (v := .int .u8 (w8 (sr (Hs (pad F) (nb F.length) i) (8 * (7 - k))))) ⟨rfl, rfl⟩ (by rfl) rfl rfl rfl k_t9 (by rw [J6, Nat.zero_add]; omega) (by kernel_rfl) ?_
           (try simp only [Act.put, mA, mB, mC])
           intro W29 hO h_
           rw [Nat.zero_add, J05] at h_
           replace k_t9 : Blk W29 Q7i (J2 .u8 64 (upd (Q1h (Hs (pad F) (nb F.length)) (8 * i + k)) (8 * i + k) (w8 (sr (Hs (pad F) (nb F.length) i) (8 * (7 - k)))))) 30 := h_
           clear h_
           replace k_t2 := k_t2.p hO Z2t
           replace k_t8 := k_t8.p hO Z2u
           replace J3y := Sl.off J3y hO (f1 Z6b)
           replace off0 := off0.p hO Q0k
           clear hO
           refine J0 ?_
           go_wp2
           go_roundw
           case rel => exact ⟨k + 1, by omega, by go_num, off0, k_t2, k_t8, (by rw [← Q8n _ _ _ hk8]; exact k_t9), J3y⟩
           case measure => simp [intOf]; omega
          ·
           have _f := hk8
           obtain rfl : k = 8 := by omega
           go_upto_region 25 with fail
           refine wp_region_lit ?_
           refine Lw ?_ (v := .bool false)
           refine J0 ?_
           go_wp2
           go_roundw
           case rel => exact ⟨i + 1, by omega, by go_num, off0, k_t2, k_t8, (by rw [show 8 * (i + 1) = 8 * i + 8 by omega]; exact k_t9), J3y⟩
           case measure => simp [intOf]; omega
        ·
         have _f := h8
         obtain rfl : i = 8 := by omega
         rw [show 8 * 8 = 64 by rfl, Z22] at k_t9
         go_upto_region 22 with fail
         refine wp_region_lit ?_
         refine Lw ?_ (v := .bool false)
         refine J0 ?_
         go_upto_region 30 with fail
         refine wp_region_lit ?_
         refine L0A ?_ k_t9
         refine Lp ?_ k_t2 (cells := J2 .u8 64 (ob (Hs (pad F) (nb F.length)))) (hi := by rw [J6]; kernel_rfl) (hs := by rw [J6, J6]) (h1 := by exact J0f _ _ _)
         intro W28 hO h_
         replace k_t2 : Blk W28 K5 (J2 .u8 64 (ob (Hs (pad F) (nb F.length)))) 30 := h_
         clear h_
         replace off0 := off0.p hO V7
         clear hO
         refine J0 ?_
         go_wp2
         refine bodyPost_ret (K2 rfl rfl k_t2 (by kernel_rfl) (by rw [J6]; kernel_rfl)) rfl ⟨rfl, off0.ext⟩
end Go.Proofs.YtefpoollmbmkfaaDoor
