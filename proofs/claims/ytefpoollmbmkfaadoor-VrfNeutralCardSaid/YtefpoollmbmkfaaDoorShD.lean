/- sha5.Sum: the sum of parts, one behind the other. Conditions: the parts read as bytes; the tables hold their numbers. -/
import Derived.Test.YtefpoollmbmkfaaDoorGc
import Derived.Test.YtefpoollmbmkfaaDoorHb
set_option linter.unusedSimpArgs false
set_option linter.unusedVariables false
namespace Go.Proofs.YtefpoollmbmkfaaDoor
set_option maxHeartbeats 4000000
set_option maxRecDepth 100000
open Go.RowKit
attribute [local irreducible] wpList
theorem j4g (h : Nat → Int) (l : List UInt8) (u : Value) (hl : 128 ≤ l.length) (w : World) (hs : Sl w u l) (hG : GS w) : Calls Tryd.prog 81 #[.agg (q7 .u64 8 h), u] w fun e w' => h9 (.agg (q7 .u64 8 (prs h (bt l)))) w w' e := by
  obtain ⟨ad, c, rfl, _⟩ := j2w hs (by omega)
  exact j3g h l ad c hl w hs hG

theorem g3z (ps : List (List UInt8)) (A : Option Addr) (c : Nat) (F : List UInt8) (hF : ps.flatten = F) (hlen : F.length ≤ 70368744177664) (hpn : ps.length ≤ 9223372036854775000) (w : World) (hps : ∀ i l, ps[i]? = some l → ∃ ad u, A = some ad ∧ w.cell? (ad.add i) = some u ∧ Sl w u l) (hG : GS w) :
  Calls Tryd.prog 32 #[.slice A ps.length c] w fun e w' => h9 (.agg (q7 .u8 64 (sm F))) w w' e := by
 have HG := Lib.hid hG
 have HPS := Lib.hid hps
 clear hG hps
 have hpl := q9m F
 have hzc := (q6x F.length).2
 have off0 : Off [] w w := Off.refl _ _
 go_enter Tryd.func32, Tryd.ntmps32
 go_upto_region 0 with fail
 refine wp_region_lit ?_
 refine Ln ?_ (z := q7 .u8 64 (fun _ => 0)) (t := 30)
 intro s7 W1 z7 hO h_
 have u9 := i3 off0 z7
 replace off0 := off0.o hO
 have k_t2 := h_
 clear hO h_ z7
 refine q5 ?_
 go_upto_region 2 with fail
 refine wp_region_lit ?_
 refine Lv ?_
 refine Lv ?_
 refine Lw ?_ (v := .int .i64 0)
 refine q5 ?_
 have ow_b := y2b W1
 have s5 : Fr (Value.ownBlock (.slice none 0 0)) w.heap.size [] := j2q
 have x9 : Value.ownBlock (.slice none 0 0) ≠ some s7 := fun e_ => by cases e_
 go_wp2_with fail
 go_loopw [3, 15] (fun sv ii wr => ∃ (i : Nat) (bv : Value), (i ≤ ps.length) ∧ (bv = sv) ∧ (ii = .int .i64 (i : Int)) ∧ Off [] w wr ∧ Blk wr s7 (q7 .u8 64 (fun _ => 0)) 30 ∧ Own wr bv ((List.take i ps).flatten) ∧ Fr (Value.ownBlock bv) w.heap.size [] ∧ (Value.ownBlock bv) ≠ some s7)
  (fun sv ii _ => ps.length - (intOf ii).toNat)
 case atStart => exact ⟨0, _, Nat.zero_le _, rfl, rfl, off0, k_t2, ow_b, s5, ne_b_t2⟩
 case round =>
  obtain ⟨i, bv, hi, rfl, rfl, off0, k_t2, ow_b, s5, ne_b_t2⟩ := hrel
  obtain ⟨W2, eW_⟩ := F7 off0
  subst eW_
  by_cases hlt : i < ps.length
  ·
   have _f := hlt
   obtain ⟨l_, hl_⟩ : ∃ l, ps[i]? = some l := ⟨_, List.getElem?_eq_getElem hlt⟩
   obtain ⟨ad_, u_, hA_, hc_, hu_⟩ := HPS.out i l_ hl_
   have hfl : (List.take i ps).flatten.length + l_.length ≤ F.length := by rw [← hF, ← List.length_append, ← q4x hl_]; exact y8p _ _
   go_upto_region 3 with fail
   refine wp_region_lit ?_
   refine Lw ?_ (v := .bool true)
   refine q5 ?_
   go_upto_region 4 with fail
   refine wp_region_lit ?_
   refine Lw ?_ (v := .pointer (some (ad_.add i))) (hv := j3k (j := i) hlt rfl (by rw [← hA_]; rfl) rfl)
   refine j8k (by rfl) rfl rfl (L7 hc_ off0.ext) (by kernel_rfl) ?_
   (try simp only [Act.put, mA, mB, mC])
   refine Lv ?_
   refine q5 ?_
   go_upto_region 5 with fail
   refine wp_region_lit ?_
   refine Lv ?_
   refine Lv ?_
   refine b5 (xs := ((List.take i ps).flatten)) (ys := l_) (by rfl) rfl rfl rfl ow_b (hu_.off off0 f0) (by first | omega | (simp only [List.length_append, List.length_cons, List.length_nil, List.length_replicate]; omega)) ?_
   (try simp only [Act.put, mA, mB, mC])
   intro g8v W3 y9i hO q9p nil_a21
   clear nil_a21
   have y4j := f8 q9p x9 (y4 k_t2)
   have j9r := t7 q9p s5 off0.size
   replace k_t2 := z6 k_t2 hO (R5 x9)
   replace off0 := off0.step hO (io s5)
   clear hO q9p
   have ow_b := y9i
   clear y9i
   have s5 := j9r
   have x9 := y4j
   refine Lv ?_
   refine q5 ?_
   go_wp2
   go_roundw
   case rel => exact ⟨i + 1, _, by omega, rfl, by go_num, off0, k_t2, (by rw [q4x hl_]; exact ow_b), s5, ne_b_t2⟩
   case measure => simp [intOf]; omega
  ·
   have _f := hlt
   obtain rfl : i = ps.length := by omega
   rw [List.take_length, hF] at ow_b
   go_upto_region 3 with fail
   refine wp_region_lit ?_
   refine Lw ?_ (v := .bool false)
   refine q5 ?_
   go_upto_region 7 with fail
   refine wp_region_lit ?_
   refine Lv ?_
   refine R6 (l := F) (ow_b.sl) (by rfl) rfl rfl ?_
   (try simp only [Act.put, mA, mB, mC])
   refine Lw ?_ (v := .int .u64 ((F.length : Nat) : Int)) (hv := by go_simp; (try simp only [IntKind.wrap_u64, IntKind.wrap_i64]); (try omega))
   refine Lw ?_ (v := .int .u64 ((8 * F.length : Nat) : Int)) (hv := by rw [show ((8 * F.length : Nat) : Int) = sl ((F.length : Nat) : Int) 3 from (by unfold sl; rw [IntKind.wrap_u64]; omega)]; exact q6t (n := 3) (by decide) rfl rfl rfl)
   refine Lv ?_
   refine q5 ?_
   go_upto_region 8 with fail
   refine wp_region_lit ?_
   refine Lv ?_
   refine E3 ?_ (z := #[.int .u8 128]) (t := 5) (n := 1) (c := 1)
   intro g8w W3 y9j hO h_
   replace k_t2 := k_t2.o hO
   replace ow_b := Own.off ow_b hO f0
   replace off0 := off0.o hO
   have ow_s28 : Own W3 (.slice (some ⟨p28_3, 0, none⟩) 1 1) [128] := d8 h_ (by rfl) (by show 1 ≤ maxLen; decide)
   clear hO h_ y9j
   refine b5 (xs := F) (ys := [128]) (by rfl) rfl rfl rfl ow_b (ow_s28.sl) (by first | omega | (simp only [List.length_append, List.length_cons, List.length_nil, List.length_replicate]; omega)) ?_
   (try simp only [Act.put, mA, mB, mC])
   intro g8x W4 F2 hO q3s nil_a29
   clear nil_a29
   have y4k := f8 q3s x9 (y4 k_t2)
   have j9s := t7 q3s s5 off0.size
   replace k_t2 := z6 k_t2 hO (R5 x9)
   replace off0 := off0.step hO (io s5)
   clear hO q3s
   have ow_b := F2
   clear F2
   have s5 := j9s
   have x9 := y4k
   refine Lv ?_
   refine q5 ?_
   clear ow_s28
   go_wp2_with fail
   go_loopw [3] (fun sv wr => ∃ (k : Nat) (bv : Value), (k ≤ zc F.length) ∧ (bv = sv) ∧ Off [] w wr ∧ Blk wr s7 (q7 .u8 64 (fun _ => 0)) 30 ∧ Own wr bv (F ++ [128] ++ List.replicate k 0) ∧ Fr (Value.ownBlock bv) w.heap.size [] ∧ (Value.ownBlock bv) ≠ some s7)
    (fun sv _ => F.length + 300 - y2g sv)
   case atStart => exact ⟨0, _, Nat.zero_le _, rfl, off0, k_t2, (by rw [List.replicate_zero, List.append_nil]; exact ow_b), s5, ne_b_t2⟩
   case round =>
    obtain ⟨k, bv, hk, rfl, off0, k_t2, ow_b, s5, ne_b_t2⟩ := hrel
    obtain ⟨W5, eW_⟩ := F7 off0
    subst eW_
    have lb := y2h ow_b
    by_cases hz : k < zc F.length
    ·
     have _f := hz
     have hz2 := g2x hz
     go_upto_region 9 with fail
     refine wp_region_lit ?_
     refine Lv ?_
     refine R6 (l := (F ++ [128] ++ List.replicate k 0)) (ow_b.sl) (by rfl) rfl rfl ?_
     (try simp only [Act.put, mA, mB, mC])
     refine Lw ?_ (v := .int .i64 (((F.length + 1 + k) % 128 : Nat) : Int)) (hv := by go_simp; (try simp only [List.length_append, List.length_cons, List.length_nil, List.length_replicate]); rw [Int.tmod_eq_emod_of_nonneg (by omega)]; omega)
     refine Lw ?_ (v := .bool true) (hv := by go_simp; omega)
     refine q5 ?_
     go_upto_region 10 with fail
     refine wp_region_lit ?_
     refine Lv ?_
     refine E3 ?_ (z := #[.int .u8 0]) (t := 5) (n := 1) (c := 1)
     intro g8y W6 g4a hO h_
     replace k_t2 := k_t2.o hO
     replace ow_b := Own.off ow_b hO f0
     replace off0 := off0.o hO
     have ow_s35 : Own W6 (.slice (some ⟨p35_6, 0, none⟩) 1 1) [0] := d8 h_ (by rfl) (by show 1 ≤ maxLen; decide)
     clear hO h_ g4a
     refine b5 (xs := (F ++ [128] ++ List.replicate k 0)) (ys := [0]) (by rfl) rfl rfl rfl ow_b (ow_s35.sl) (by first | omega | (simp only [List.length_append, List.length_cons, List.length_nil, List.length_replicate]; omega)) ?_
     (try simp only [Act.put, mA, mB, mC])
     intro g8z W7 y9k hO q9q nil_a36
     clear nil_a36
     have y4l := f8 q9q x9 (y4 k_t2)
     have j9t := t7 q9q s5 off0.size
     replace k_t2 := z6 k_t2 hO (R5 x9)
     replace off0 := off0.step hO (io s5)
     clear hO q9q
     have ow_b := y9k
     clear y9k
     have s5 := j9t
     have x9 := y4l
     refine Lv ?_
     refine q5 ?_
     have la := y2h ow_b
     simp only [List.length_append, List.length_cons, List.length_nil, List.length_replicate] at la lb
     go_wp2
     go_roundw
     case rel => exact ⟨k + 1, _, by omega, rfl, off0, k_t2, (by rw [List.replicate_succ', ← List.append_assoc]; exact ow_b), s5, ne_b_t2⟩
     case measure => simp only [la, lb]; omega
    ·
     have _f := hz
     obtain rfl : k = zc F.length := by omega
     have hz2 := (q6x F.length).1
     go_upto_region 9 with fail
     refine wp_region_lit ?_
     refine Lv ?_
     refine R6 (l := (F ++ [128] ++ List.replicate (zc F.length) 0)) (ow_b.sl) (by rfl) rfl rfl ?_
     (try simp only [Act.put, mA, mB, mC])
     refine Lw ?_ (v := .int .i64 (((F.length + 1 + zc F.length) % 128 : Nat) : Int)) (hv := by go_simp; (try simp only [List.length_append, List.length_cons, List.length_nil, List.length_replicate]); rw [Int.tmod_eq_emod_of_nonneg (by omega)]; omega)
     refine Lw ?_ (v := .bool false) (hv := by first | (go_simp; done) | (go_simp; omega))
     refine q5 ?_
     go_upto_region 11 with fail
     refine wp_region_lit ?_
     refine Lv ?_
     refine q8b (xs := (F ++ [128] ++ List.replicate (zc F.length) 0)) (m := 8) (by decide) (by rfl) rfl rfl rfl ow_b (by first | omega | (simp only [List.length_append, List.length_cons, List.length_nil, List.length_replicate]; omega)) ?_
     (try simp only [Act.put, mA, mB, mC])
     intro g4b W6 y9l hO q9r
     have y4m := f8 q9r x9 (y4 k_t2)
     have j9u := t7 q9r s5 off0.size
     replace k_t2 := z6 k_t2 hO (R5 x9)
     replace off0 := off0.step hO (io s5)
     clear hO q9r
     have ow_b := y9l
     clear y9l
     have s5 := j9u
     have x9 := y4m
     refine Lv ?_
     refine q5 ?_
     go_wp2_with fail
     refine wp_loop_rounds 9 ?_
     rw [rounds_succ]
     go_upto_region 15 with fail
     refine wp_region_lit ?_
     refine Lv ?_
     refine Lv ?_
     refine Lw ?_ (v := .int .i64 7)
     refine Lw ?_ (v := .int .i64 56)
     refine Lw ?_ (v := .int .u64 (sr ((8 * F.length : Nat) : Int) 56)) (hv := Y0 (n := 56) (by decide) rfl rfl rfl)
     refine Lw ?_ (v := .int .u8 ((u8 ((8 * F.length) / 72057594037927936)).toNat : Int)) (hv := by rw [← L9 (8 * F.length) 56 72057594037927936 (by decide)]; exact F0 rfl rfl)
     refine E3 ?_ (z := #[.int .u8 ((u8 ((8 * F.length) / 72057594037927936)).toNat : Int)]) (t := 5) (n := 1) (c := 1)
     intro g9a W7 w9 hO h_
     have x6 : ∀ x, (Value.ownBlock g4b) = some x → Value.ownBlock (.slice (some ⟨p49_7, 0, none⟩) 1 1) ≠ some x := L6 (Own.lt ow_b) w9
     replace k_t2 := k_t2.o hO
     replace ow_b := Own.off ow_b hO f0
     replace off0 := off0.o hO
     have ow_s49 : Own W7 (.slice (some ⟨p49_7, 0, none⟩) 1 1) [u8 ((8 * F.length) / 72057594037927936)] := d8 h_ (by rfl) (by show 1 ≤ maxLen; decide)
     clear hO h_ w9
     refine b5 (xs := ((F ++ [128] ++ List.replicate (zc F.length) 0) ++ List.replicate 8 0)) (ys := [u8 ((8 * F.length) / 72057594037927936)]) (by rfl) rfl rfl rfl ow_b (ow_s49.sl) (by first | omega | (simp only [List.length_append, List.length_cons, List.length_nil, List.length_replicate]; omega)) ?_
     (try simp only [Act.put, mA, mB, mC])
     intro g4c W8 l5 hO v8 nil_a50
     clear nil_a50
     have a6 := f8 v8 x9 (y4 k_t2)
     have l6 := i5 v8 x6 (Own.lt ow_s49)
     have Z5 := t7 v8 s5 off0.size
     replace k_t2 := z6 k_t2 hO (R5 x9)
     replace ow_s49 := Own.off ow_s49 hO (fo x6)
     replace off0 := off0.step hO (io s5)
     clear hO v8
     have ow_b := l5
     clear l5
     have s5 := Z5
     have x9 := a6
     have x6 := l6
     refine Lv ?_
     refine q5 ?_
     go_wp2_with fail
     rw [rounds_succ]
     go_upto_region 15 with fail
     refine wp_region_lit ?_
     refine Lv ?_
     refine Lv ?_
     refine Lw ?_ (v := .int .i64 6)
     refine Lw ?_ (v := .int .i64 48)
     refine Lw ?_ (v := .int .u64 (sr ((8 * F.length : Nat) : Int) 48)) (hv := Y0 (n := 48) (by decide) rfl rfl rfl)
     refine Lw ?_ (v := .int .u8 ((u8 ((8 * F.length) / 281474976710656)).toNat : Int)) (hv := by rw [← L9 (8 * F.length) 48 281474976710656 (by decide)]; exact F0 rfl rfl)
     clear ow_s49 x6
     refine E3 ?_ (z := #[.int .u8 ((u8 ((8 * F.length) / 281474976710656)).toNat : Int)]) (t := 5) (n := 1) (c := 1)
     intro g9b W9 w9 hO h_
     have x6 : ∀ x, (Value.ownBlock g4c) = some x → Value.ownBlock (.slice (some ⟨p49_9, 0, none⟩) 1 1) ≠ some x := L6 (Own.lt ow_b) w9
     replace k_t2 := k_t2.o hO
     replace ow_b := Own.off ow_b hO f0
     replace off0 := off0.o hO
     have ow_s49 : Own W9 (.slice (some ⟨p49_9, 0, none⟩) 1 1) [u8 ((8 * F.length) / 281474976710656)] := d8 h_ (by rfl) (by show 1 ≤ maxLen; decide)
     clear hO h_ w9
     refine b5 (xs := (((F ++ [128] ++ List.replicate (zc F.length) 0) ++ List.replicate 8 0) ++ [u8 ((8 * F.length) / 72057594037927936)])) (ys := [u8 ((8 * F.length) / 281474976710656)]) (by rfl) rfl rfl rfl ow_b (ow_s49.sl) (by first | omega | (simp only [List.length_append, List.length_cons, List.length_nil, List.length_replicate]; omega)) ?_
     (try simp only [Act.put, mA, mB, mC])
     intro j9v W10 l5 hO v8 nil_a50
     clear nil_a50
     have a6 := f8 v8 x9 (y4 k_t2)
     have l6 := i5 v8 x6 (Own.lt ow_s49)
     have Z5 := t7 v8 s5 off0.size
     replace k_t2 := z6 k_t2 hO (R5 x9)
     replace ow_s49 := Own.off ow_s49 hO (fo x6)
     replace off0 := off0.step hO (io s5)
     clear hO v8
     have ow_b := l5
     clear l5
     have s5 := Z5
     have x9 := a6
     have x6 := l6
     refine Lv ?_
     refine q5 ?_
     go_wp2_with fail
     rw [rounds_succ]
     go_upto_region 15 with fail
     refine wp_region_lit ?_
     refine Lv ?_
     refine Lv ?_
     refine Lw ?_ (v := .int .i64 5)
     refine Lw ?_ (v := .int .i64 40)
     refine Lw ?_ (v := .int .u64 (sr ((8 * F.length : Nat) : Int) 40)) (hv := Y0 (n := 40) (by decide) rfl rfl rfl)
     refine Lw ?_ (v := .int .u8 ((u8 ((8 * F.length) / 1099511627776)).toNat : Int)) (hv := by rw [← L9 (8 * F.length) 40 1099511627776 (by decide)]; exact F0 rfl rfl)
     clear ow_s49 x6
     refine E3 ?_ (z := #[.int .u8 ((u8 ((8 * F.length) / 1099511627776)).toNat : Int)]) (t := 5) (n := 1) (c := 1)
     intro g6q W11 w9 hO h_
     have x6 : ∀ x, (Value.ownBlock j9v) = some x → Value.ownBlock (.slice (some ⟨p49_11, 0, none⟩) 1 1) ≠ some x := L6 (Own.lt ow_b) w9
     replace k_t2 := k_t2.o hO
     replace ow_b := Own.off ow_b hO f0
     replace off0 := off0.o hO
     have ow_s49 : Own W11 (.slice (some ⟨p49_11, 0, none⟩) 1 1) [u8 ((8 * F.length) / 1099511627776)] := d8 h_ (by rfl) (by show 1 ≤ maxLen; decide)
     clear hO h_ w9
     refine b5 (xs := ((((F ++ [128] ++ List.replicate (zc F.length) 0) ++ List.replicate 8 0) ++ [u8 ((8 * F.length) / 72057594037927936)]) ++ [u8 ((8 * F.length) / 281474976710656)])) (ys := [u8 ((8 * F.length) / 1099511627776)]) (by rfl) rfl rfl rfl ow_b (ow_s49.sl) (by first | omega | (simp only [List.length_append, List.length_cons, List.length_nil, List.length_replicate]; omega)) ?_
     (try simp only [Act.put, mA, mB, mC])
     intro j9w W12 l5 hO v8 nil_a50
     clear nil_a50
     have a6 := f8 v8 x9 (y4 k_t2)
     have l6 := i5 v8 x6 (Own.lt ow_s49)
     have Z5 := t7 v8 s5 off0.size
     replace k_t2 := z6 k_t2 hO (R5 x9)
     replace ow_s49 := Own.off ow_s49 hO (fo x6)
     replace off0 := off0.step hO (io s5)
     clear hO v8
     have ow_b := l5
     clear l5
     have s5 := Z5
     have x9 := a6
     have x6 := l6
     refine Lv ?_
     refine q5 ?_
     go_wp2_with fail
     rw [rounds_succ]
     go_upto_region 15 with fail
     refine wp_region_lit ?_
     refine Lv ?_
     refine Lv ?_
     refine Lw ?_ (v := .int .i64 4)
     refine Lw ?_ (v := .int .i64 32)
     refine Lw ?_ (v := .int .u64 (sr ((8 * F.length : Nat) : Int) 32)) (hv := Y0 (n := 32) (by decide) rfl rfl rfl)
     refine Lw ?_ (v := .int .u8 ((u8 ((8 * F.length) / 4294967296)).toNat : Int)) (hv := by rw [← L9 (8 * F.length) 32 4294967296 (by decide)]; exact F0 rfl rfl)
     clear ow_s49 x6
     refine E3 ?_ (z := #[.int .u8 ((u8 ((8 * F.length) / 4294967296)).toNat : Int)]) (t := 5) (n := 1) (c := 1)
     intro g6r W13 w9 hO h_
     have x6 : ∀ x, (Value.ownBlock j9w) = some x → Value.ownBlock (.slice (some ⟨p49_13, 0, none⟩) 1 1) ≠ some x := L6 (Own.lt ow_b) w9
     replace k_t2 := k_t2.o hO
     replace ow_b := Own.off ow_b hO f0
     replace off0 := off0.o hO
     have ow_s49 : Own W13 (.slice (some ⟨p49_13, 0, none⟩) 1 1) [u8 ((8 * F.length) / 4294967296)] := d8 h_ (by rfl) (by show 1 ≤ maxLen; decide)
     clear hO h_ w9
     refine b5 (xs := (((((F ++ [128] ++ List.replicate (zc F.length) 0) ++ List.replicate 8 0) ++ [u8 ((8 * F.length) / 72057594037927936)]) ++ [u8 ((8 * F.length) / 281474976710656)]) ++ [u8 ((8 * F.length) / 1099511627776)])) (ys := [u8 ((8 * F.length) / 4294967296)]) (by rfl) rfl rfl rfl ow_b (ow_s49.sl) (by first | omega | (simp only [List.length_append, List.length_cons, List.length_nil, List.length_replicate]; omega)) ?_
     (try simp only [Act.put, mA, mB, mC])
     intro j9x W14 l5 hO v8 nil_a50
     clear nil_a50
     have a6 := f8 v8 x9 (y4 k_t2)
     have l6 := i5 v8 x6 (Own.lt ow_s49)
     have Z5 := t7 v8 s5 off0.size
     replace k_t2 := z6 k_t2 hO (R5 x9)
     replace ow_s49 := Own.off ow_s49 hO (fo x6)
     replace off0 := off0.step hO (io s5)
     clear hO v8
     have ow_b := l5
     clear l5
     have s5 := Z5
     have x9 := a6
     have x6 := l6
     refine Lv ?_
     refine q5 ?_
     go_wp2_with fail
     rw [rounds_succ]
     go_upto_region 15 with fail
     refine wp_region_lit ?_
     refine Lv ?_
     refine Lv ?_
     refine Lw ?_ (v := .int .i64 3)
     refine Lw ?_ (v := .int .i64 24)
     refine Lw ?_ (v := .int .u64 (sr ((8 * F.length : Nat) : Int) 24)) (hv := Y0 (n := 24) (by decide) rfl rfl rfl)
     refine Lw ?_ (v := .int .u8 ((u8 ((8 * F.length) / 16777216)).toNat : Int)) (hv := by rw [← L9 (8 * F.length) 24 16777216 (by decide)]; exact F0 rfl rfl)
     clear ow_s49 x6
     refine E3 ?_ (z := #[.int .u8 ((u8 ((8 * F.length) / 16777216)).toNat : Int)]) (t := 5) (n := 1) (c := 1)
     intro g6s W15 w9 hO h_
     have x6 : ∀ x, (Value.ownBlock j9x) = some x → Value.ownBlock (.slice (some ⟨p49_15, 0, none⟩) 1 1) ≠ some x := L6 (Own.lt ow_b) w9
     replace k_t2 := k_t2.o hO
     replace ow_b := Own.off ow_b hO f0
     replace off0 := off0.o hO
     have ow_s49 : Own W15 (.slice (some ⟨p49_15, 0, none⟩) 1 1) [u8 ((8 * F.length) / 16777216)] := d8 h_ (by rfl) (by show 1 ≤ maxLen; decide)
     clear hO h_ w9
     refine b5 (xs := ((((((F ++ [128] ++ List.replicate (zc F.length) 0) ++ List.replicate 8 0) ++ [u8 ((8 * F.length) / 72057594037927936)]) ++ [u8 ((8 * F.length) / 281474976710656)]) ++ [u8 ((8 * F.length) / 1099511627776)]) ++ [u8 ((8 * F.length) / 4294967296)])) (ys := [u8 ((8 * F.length) / 16777216)]) (by rfl) rfl rfl rfl ow_b (ow_s49.sl) (by first | omega | (simp only [List.length_append, List.length_cons, List.length_nil, List.length_replicate]; omega)) ?_
     (try simp only [Act.put, mA, mB, mC])
     intro j9y W16 l5 hO v8 nil_a50
     clear nil_a50
     have a6 := f8 v8 x9 (y4 k_t2)
     have l6 := i5 v8 x6 (Own.lt ow_s49)
     have Z5 := t7 v8 s5 off0.size
     replace k_t2 := z6 k_t2 hO (R5 x9)
     replace ow_s49 := Own.off ow_s49 hO (fo x6)
     replace off0 := off0.step hO (io s5)
     clear hO v8
     have ow_b := l5
     clear l5
     have s5 := Z5
     have x9 := a6
     have x6 := l6
     refine Lv ?_
     refine q5 ?_
     go_wp2_with fail
     rw [rounds_succ]
     go_upto_region 15 with fail
     refine wp_region_lit ?_
     refine Lv ?_
     refine Lv ?_
     refine Lw ?_ (v := .int .i64 2)
     refine Lw ?_ (v := .int .i64 16)
     refine Lw ?_ (v := .int .u64 (sr ((8 * F.length : Nat) : Int) 16)) (hv := Y0 (n := 16) (by decide) rfl rfl rfl)
     refine Lw ?_ (v := .int .u8 ((u8 ((8 * F.length) / 65536)).toNat : Int)) (hv := by rw [← L9 (8 * F.length) 16 65536 (by decide)]; exact F0 rfl rfl)
     clear ow_s49 x6
     refine E3 ?_ (z := #[.int .u8 ((u8 ((8 * F.length) / 65536)).toNat : Int)]) (t := 5) (n := 1) (c := 1)
     intro g6t W17 w9 hO h_
     have x6 : ∀ x, (Value.ownBlock j9y) = some x → Value.ownBlock (.slice (some ⟨p49_17, 0, none⟩) 1 1) ≠ some x := L6 (Own.lt ow_b) w9
     replace k_t2 := k_t2.o hO
     replace ow_b := Own.off ow_b hO f0
     replace off0 := off0.o hO
     have ow_s49 : Own W17 (.slice (some ⟨p49_17, 0, none⟩) 1 1) [u8 ((8 * F.length) / 65536)] := d8 h_ (by rfl) (by show 1 ≤ maxLen; decide)
     clear hO h_ w9
     refine b5 (xs := (((((((F ++ [128] ++ List.replicate (zc F.length) 0) ++ List.replicate 8 0) ++ [u8 ((8 * F.length) / 72057594037927936)]) ++ [u8 ((8 * F.length) / 281474976710656)]) ++ [u8 ((8 * F.length) / 1099511627776)]) ++ [u8 ((8 * F.length) / 4294967296)]) ++ [u8 ((8 * F.length) / 16777216)])) (ys := [u8 ((8 * F.length) / 65536)]) (by rfl) rfl rfl rfl ow_b (ow_s49.sl) (by first | omega | (simp only [List.length_append, List.length_cons, List.length_nil, List.length_replicate]; omega)) ?_
     (try simp only [Act.put, mA, mB, mC])
     intro j9z W18 l5 hO v8 nil_a50
     clear nil_a50
     have a6 := f8 v8 x9 (y4 k_t2)
     have l6 := i5 v8 x6 (Own.lt ow_s49)
     have Z5 := t7 v8 s5 off0.size
     replace k_t2 := z6 k_t2 hO (R5 x9)
     replace ow_s49 := Own.off ow_s49 hO (fo x6)
     replace off0 := off0.step hO (io s5)
     clear hO v8
     have ow_b := l5
     clear l5
     have s5 := Z5
     have x9 := a6
     have x6 := l6
     refine Lv ?_
     refine q5 ?_
     go_wp2_with fail
     rw [rounds_succ]
     go_upto_region 15 with fail
     refine wp_region_lit ?_
     refine Lv ?_
     refine Lv ?_
     refine Lw ?_ (v := .int .i64 1)
     refine Lw ?_ (v := .int .i64 8)
     refine Lw ?_ (v := .int .u64 (sr ((8 * F.length : Nat) : Int) 8)) (hv := Y0 (n := 8) (by decide) rfl rfl rfl)
     refine Lw ?_ (v := .int .u8 ((u8 ((8 * F.length) / 256)).toNat : Int)) (hv := by rw [← L9 (8 * F.length) 8 256 (by decide)]; exact F0 rfl rfl)
     clear ow_s49 x6
     refine E3 ?_ (z := #[.int .u8 ((u8 ((8 * F.length) / 256)).toNat : Int)]) (t := 5) (n := 1) (c := 1)
     intro g6u W19 w9 hO h_
     have x6 : ∀ x, (Value.ownBlock j9z) = some x → Value.ownBlock (.slice (some ⟨p49_19, 0, none⟩) 1 1) ≠ some x := L6 (Own.lt ow_b) w9
     replace k_t2 := k_t2.o hO
     replace ow_b := Own.off ow_b hO f0
     replace off0 := off0.o hO
     have ow_s49 : Own W19 (.slice (some ⟨p49_19, 0, none⟩) 1 1) [u8 ((8 * F.length) / 256)] := d8 h_ (by rfl) (by show 1 ≤ maxLen; decide)
     clear hO h_ w9
     refine b5 (xs := ((((((((F ++ [128] ++ List.replicate (zc F.length) 0) ++ List.replicate 8 0) ++ [u8 ((8 * F.length) / 72057594037927936)]) ++ [u8 ((8 * F.length) / 281474976710656)]) ++ [u8 ((8 * F.length) / 1099511627776)]) ++ [u8 ((8 * F.length) / 4294967296)]) ++ [u8 ((8 * F.length) / 16777216)]) ++ [u8 ((8 * F.length) / 65536)])) (ys := [u8 ((8 * F.length) / 256)]) (by rfl) rfl rfl rfl ow_b (ow_s49.sl) (by first | omega | (simp only [List.length_append, List.length_cons, List.length_nil, List.length_replicate]; omega)) ?_
     (try simp only [Act.put, mA, mB, mC])
     intro g6v W20 l5 hO v8 nil_a50
     clear nil_a50
     have a6 := f8 v8 x9 (y4 k_t2)
     have Z5 := t7 v8 s5 off0.size
     replace k_t2 := z6 k_t2 hO (R5 x9)
     replace ow_s49 := Own.off ow_s49 hO (fo x6)
     replace off0 := off0.step hO (io s5)
     clear hO v8
     have ow_b := l5
     clear l5
     have s5 := Z5
     have x9 := a6
     refine Lv ?_
     refine q5 ?_
     go_wp2_with fail
     rw [rounds_succ]
     go_upto_region 15 with fail
     refine wp_region_lit ?_
     refine Lv ?_
     refine Lv ?_
     refine Lw ?_ (v := .int .i64 0)
     refine Lw ?_ (v := .int .i64 0)
     refine Lw ?_ (v := .int .u64 (sr ((8 * F.length : Nat) : Int) 0)) (hv := Y0 (n := 0) (by decide) rfl rfl rfl)
     refine Lw ?_ (v := .int .u8 ((u8 (8 * F.length)).toNat : Int)) (hv := by rw [← j3n (8 * F.length)]; exact F0 rfl rfl)
     clear ow_s49 x6
     refine E3 ?_ (z := #[.int .u8 ((u8 (8 * F.length)).toNat : Int)]) (t := 5) (n := 1) (c := 1)
     intro g6w W21 w9 hO h_
     replace k_t2 := k_t2.o hO
     replace ow_b := Own.off ow_b hO f0
     replace off0 := off0.o hO
     have ow_s49 : Own W21 (.slice (some ⟨p49_21, 0, none⟩) 1 1) [u8 (8 * F.length)] := d8 h_ (by rfl) (by show 1 ≤ maxLen; decide)
     clear hO h_ w9
     refine b5 (xs := (((((((((F ++ [128] ++ List.replicate (zc F.length) 0) ++ List.replicate 8 0) ++ [u8 ((8 * F.length) / 72057594037927936)]) ++ [u8 ((8 * F.length) / 281474976710656)]) ++ [u8 ((8 * F.length) / 1099511627776)]) ++ [u8 ((8 * F.length) / 4294967296)]) ++ [u8 ((8 * F.length) / 16777216)]) ++ [u8 ((8 * F.length) / 65536)]) ++ [u8 ((8 * F.length) / 256)])) (ys := [u8 (8 * F.length)]) (by rfl) rfl rfl rfl ow_b (ow_s49.sl) (by first | omega | (simp only [List.length_append, List.length_cons, List.length_nil, List.length_replicate]; omega)) ?_
     (try simp only [Act.put, mA, mB, mC])
     intro q9s W22 l5 hO v8 nil_a50
     clear nil_a50
     have a6 := f8 v8 x9 (y4 k_t2)
     replace k_t2 := z6 k_t2 hO (R5 x9)
     replace off0 := off0.step hO (io s5)
     clear hO v8
     have ow_b := l5
     clear l5
     have x9 := a6
     refine Lv ?_
     refine q5 ?_
     go_wp2_with fail
     rw [rounds_succ]
     go_upto_region 16 with fail
     refine wp_region_lit ?_
     refine q6e (by rfl) rfl rfl ((q6v HG.out off0.ext).2) (by kernel_rfl) (by rw [y5]; kernel_rfl) ?_
     (try simp only [Act.put, mA, mB, mC])
     refine U0 ?_ (z := q7 .u64 8 (fun _ => 0)) (t := 113) (cells := q7 .u64 8 hf) (hi := by rw [y5]; kernel_rfl) (hs := by rw [y5, y5]) (h1 := by exact m6 _ _ _)
     intro q3t W24 v6 hO h_
     have J6 := bn k_t2 v6
     have y2k := n8 (Own.lt ow_b) v6
     have I8 := i3 off0 v6
     replace k_t2 := k_t2.o hO
     replace ow_b := Own.off ow_b hO f0
     replace off0 := off0.o hO
     have k_t8 := h_
     clear hO h_ v6
     refine q5 ?_
     clear ow_s49 x6
     rw [j3m] at ow_b
     have A1 : Sl W24 q9s (List.drop (128 * 0) (E4 F)) := y4b ow_b
     have R7 : sb q9s (List.drop (128 * 0) (E4 F)) ≠ some s7 := j5z x9
     have q2p : sb q9s (List.drop (128 * 0) (E4 F)) ≠ some q3t := j5z y2k
     clear ow_b s5 x9 y2k
     go_wp2_with fail
     go_loopw [3] (fun sv wr => ∃ (j : Nat) (u : Value), (j ≤ nb F.length) ∧ (u = sv) ∧ Off [] w wr ∧ Blk wr s7 (q7 .u8 64 (fun _ => 0)) 30 ∧ Blk wr q3t (q7 .u64 8 (Hs (E4 F) j)) 113 ∧ Sl wr u (List.drop (128 * j) (E4 F)) ∧ (sb u (List.drop (128 * j) (E4 F))) ≠ some s7 ∧ (sb u (List.drop (128 * j) (E4 F))) ≠ some q3t)
      (fun sv _ => y2g sv)
     case atStart => exact ⟨0, _, Nat.zero_le _, rfl, off0, k_t2, k_t8, A1, R7, ne_c_t8⟩
     case round =>
      obtain ⟨j, u, hj, rfl, off0, k_t2, k_t8, A1, R7, ne_c_t8⟩ := hrel
      obtain ⟨W25, eW_⟩ := F7 off0
      subst eW_
      have lb := y8q A1
      by_cases hjl : j < nb F.length
      ·
       have _f := hjl
       have hl128 : 128 ≤ (List.drop (128 * j) (E4 F)).length := by rw [List.length_drop, hpl]; omega
       go_upto_region 17 with fail
       refine wp_region_lit ?_
       refine Lv ?_
       refine R6 (l := (List.drop (128 * j) (E4 F))) A1 (by rfl) rfl rfl ?_
       (try simp only [Act.put, mA, mB, mC])
       refine Lw ?_ (v := .bool true) (hv := by go_simp; (try simp only [List.length_drop, hpl]); omega)
       refine q5 ?_
       go_upto_region 19 with fail
       refine wp_region_lit ?_
       refine M0 ?_ k_t8
       refine Lv ?_
       refine Lr ?_ (j4g (Hs (E4 F) j) (List.drop (128 * j) (E4 F)) u hl128 W25 A1 (q6v HG.out off0.ext))
       intro W26 hO
       replace k_t2 := k_t2.o hO
       replace k_t8 := k_t8.o hO
       replace A1 := Sl.off A1 hO f0
       replace off0 := off0.o hO
       clear hO
       refine Lp ?_ k_t8 (cells := q7 .u64 8 (prs (Hs (E4 F) j) (bt (List.drop (128 * j) (E4 F))))) (hi := by rw [y5]; kernel_rfl) (hs := by rw [y5, y5]) (h1 := by exact m6 _ _ _)
       intro W27 hO h_
       replace k_t8 : Blk W27 q3t (q7 .u64 8 (prs (Hs (E4 F) j) (bt (List.drop (128 * j) (E4 F))))) 113 := h_
       clear h_
       replace k_t2 := k_t2.p hO J6
       replace A1 := Sl.off A1 hO (f1 q2p)
       replace off0 := off0.p hO I8
       clear hO
       refine q5 ?_
       go_upto_region 18 with fail
       refine wp_region_lit ?_
       refine Lv ?_
       refine y8e (n := 128) A1 (by exact hl128) (by rfl) rfl rfl rfl ?_
       (try simp only [Act.put, mA, mB, mC])
       intro y9m q9t y2l
       have q5b : sb y9m (List.drop 128 (List.drop (128 * j) (E4 F))) ≠ some s7 := q9k y2l R7
       have q5c : sb y9m (List.drop 128 (List.drop (128 * j) (E4 F))) ≠ some q3t := q9k y2l q2p
       refine Lv ?_
       refine q5 ?_
       clear A1 R7 q2p
       rw [q1d] at q9t
       rw [q1d] at q5b
       rw [q1d] at q5c
       have A1 := q9t
       clear q9t
       have R7 := q5b
       have q2p := q5c
       have la := y8q A1
       simp only [List.length_drop, hpl] at la lb
       go_wp2
       go_roundw
       case rel => exact ⟨j + 1, _, by omega, rfl, off0, k_t2, k_t8, A1, R7, ne_c_t8⟩
       case measure => simp only [la, lb]; omega
      ·
       have _f := hjl
       obtain rfl : j = nb F.length := by omega
       go_upto_region 17 with fail
       refine wp_region_lit ?_
       refine Lv ?_
       refine R6 (l := (List.drop (128 * nb F.length) (E4 F))) A1 (by rfl) rfl rfl ?_
       (try simp only [Act.put, mA, mB, mC])
       refine Lw ?_ (v := .bool false) (hv := by first | (go_simp; done) | (go_simp; (try simp only [List.length_drop, hpl]); omega))
       refine q5 ?_
       go_upto_region 20 with fail
       refine wp_region_lit ?_
       refine Ln ?_ (z := q7 .u8 64 (fun _ => 0)) (t := 30)
       intro y9n W26 I1 hO h_
       have y9o := bn k_t2 I1
       have y9p := bn k_t8 I1
       have j4h := n8 (Sl.lt A1) I1
       have q7p := i3 off0 I1
       replace k_t2 := k_t2.o hO
       replace k_t8 := k_t8.o hO
       replace A1 := Sl.off A1 hO f0
       replace off0 := off0.o hO
       have k_t9 := h_
       clear hO h_ I1
       refine q5 ?_
       go_upto_region 21 with fail
       refine wp_region_lit ?_
       refine M0 ?_ k_t8
       refine Lw ?_ (v := .int .i64 0)
       refine q5 ?_
       go_wp2_with fail
       go_loopw [61] (fun ii wr => ∃ (i : Nat), (i ≤ 8) ∧ (ii = .int .i64 (i : Int)) ∧ Off [] w wr ∧ Blk wr s7 (q7 .u8 64 (fun _ => 0)) 30 ∧ Blk wr q3t (q7 .u64 8 (Hs (E4 F) (nb F.length))) 113 ∧ Blk wr y9n (q7 .u8 64 (q4j (Hs (E4 F) (nb F.length)) (8 * i))) 30 ∧ Sl wr u (List.drop (128 * nb F.length) (E4 F)))
        (fun ii _ => 8 - (intOf ii).toNat)
       case atStart => exact ⟨0, Nat.zero_le _, rfl, off0, k_t2, k_t8, (by rw [Nat.mul_zero, y3z]; exact k_t9), ow_c⟩
       case round =>
        obtain ⟨i, hi, rfl, off0, k_t2, k_t8, k_t9, ow_c⟩ := hrel
        obtain ⟨W27, eW_⟩ := F7 off0
        subst eW_
        by_cases h8 : i < 8
        ·
         have _f := h8
         go_upto_region 22 with fail
         refine wp_region_lit ?_
         refine Lw ?_ (v := .bool true)
         refine q5 ?_
         go_upto_region 23 with fail
         refine wp_region_lit ?_
         refine Lv ?_
         refine Lw ?_ (v := .int .u64 (Hs (E4 F) (nb F.length) i)) (hv := j3l (m := 8) h8 Tryd.underlying113 (by kernel_rfl) j3o rfl rfl rfl)
         refine Lv ?_
         refine Lv ?_
         refine q5 ?_
         go_wp2_with fail
         go_loopw [65] (fun jj wr => ∃ (k : Nat), (k ≤ 8) ∧ (jj = .int .i64 (k : Int)) ∧ Off [] w wr ∧ Blk wr s7 (q7 .u8 64 (fun _ => 0)) 30 ∧ Blk wr q3t (q7 .u64 8 (Hs (E4 F) (nb F.length))) 113 ∧ Blk wr y9n (q7 .u8 64 (q4j (Hs (E4 F) (nb F.length)) (8 * i + k))) 30 ∧ Sl wr u (List.drop (128 * nb F.length) (E4 F)))
          (fun jj _ => 8 - (intOf jj).toNat)
         case atStart => exact ⟨0, Nat.zero_le _, rfl, off0, k_t2, k_t8, k_t9, ow_c⟩
         case round =>
          obtain ⟨k, hk, rfl, off0, k_t2, k_t8, k_t9, ow_c⟩ := hrel
          obtain ⟨W28, eW_⟩ := F7 off0
          subst eW_
          by_cases hk8 : k < 8
          ·
           have _f := hk8
           go_upto_region 25 with fail
           refine wp_region_lit ?_
           refine Lw ?_ (v := .bool true)
           refine q5 ?_
           go_upto_region 27 with fail
           refine wp_region_lit ?_
           refine Lv ?_
           refine Lw ?_ (v := .int .i64 (((8 * i : Nat) : Int))) (hv := by go_simp; (try simp only [IntKind.wrap_u64, IntKind.wrap_i64]); (try omega))
           refine Lv ?_
           refine Lw ?_ (v := .int .i64 (((8 * i + k : Nat) : Int))) (hv := by go_simp; (try simp only [IntKind.wrap_u64, IntKind.wrap_i64]); (try omega))
           refine Lv ?_
           refine Lv ?_
           refine Lw ?_ (v := .int .i64 (((7 - k : Nat) : Int))) (hv := by go_simp; (try simp only [IntKind.wrap_u64, IntKind.wrap_i64]); (try omega))
           refine Lw ?_ (v := .int .i64 (((8 * (7 - k) : Nat) : Int))) (hv := by go_simp; (try simp only [IntKind.wrap_u64, IntKind.wrap_i64]); (try omega))
           refine Lw ?_ (v := .int .u64 (sr (Hs (E4 F) (nb F.length) i) (8 * (7 - k)))) (hv := Y0 (n := 8 * (7 - k)) (by omega) rfl rfl rfl)
           refine Lw ?_ (v := .int .u8 (w8 (sr (Hs (E4 F) (nb F.length) i) (8 * (7 - k))))) (hv := by exact F0 rfl rfl)
           refine Lw ?_ (v := .pointer (some ⟨p9_26, 0 + (8 * i + k), none⟩)) (hv := j2 (m := 64) (by decide) (by omega) Tryd.underlying30 (by kernel_rfl) rfl rfl rfl)
           refine J8 (v := .int .u8 (w8 (sr (Hs (E4 F) (nb F.length) i) (8 * (7 - k))))) ⟨rfl, rfl⟩ (by rfl) rfl rfl rfl k_t9 (by rw [y5, Nat.zero_add]; omega) (by kernel_rfl) ?_
           (try simp only [Act.put, mA, mB, mC])
           intro W29 hO h_
           rw [Nat.zero_add, n9] at h_
           replace k_t9 : Blk W29 y9n (q7 .u8 64 (H9 (q4j (Hs (E4 F) (nb F.length)) (8 * i + k)) (8 * i + k) (w8 (sr (Hs (E4 F) (nb F.length) i) (8 * (7 - k)))))) 30 := h_
           clear h_
           replace k_t2 := k_t2.p hO y9o
           replace k_t8 := k_t8.p hO y9p
           replace A1 := Sl.off A1 hO (f1 j4h)
           replace off0 := off0.p hO q7p
           clear hO
           refine q5 ?_
           go_wp2
           go_roundw
           case rel => exact ⟨k + 1, by omega, by go_num, off0, k_t2, k_t8, (by rw [← y4a _ _ _ hk8]; exact k_t9), ow_c⟩
           case measure => simp [intOf]; omega
          ·
           have _f := hk8
           obtain rfl : k = 8 := by omega
           go_upto_region 25 with fail
           refine wp_region_lit ?_
           refine Lw ?_ (v := .bool false)
           refine q5 ?_
           go_wp2
           go_roundw
           case rel => exact ⟨i + 1, by omega, by go_num, off0, k_t2, k_t8, (by rw [show 8 * (i + 1) = 8 * i + 8 by omega]; exact k_t9), ow_c⟩
           case measure => simp [intOf]; omega
        ·
         have _f := h8
         obtain rfl : i = 8 := by omega
         rw [show 8 * 8 = 64 by rfl, y8r] at k_t9
         go_upto_region 22 with fail
         refine wp_region_lit ?_
         refine Lw ?_ (v := .bool false)
         refine q5 ?_
         go_upto_region 30 with fail
         refine wp_region_lit ?_
         refine M0 ?_ k_t9
         refine Lp ?_ k_t2 (cells := q7 .u8 64 (ob (Hs (E4 F) (nb F.length)))) (hi := by rw [y5]; kernel_rfl) (hs := by rw [y5, y5]) (h1 := by exact m6 _ _ _)
         intro W28 hO h_
         replace k_t2 : Blk W28 s7 (q7 .u8 64 (ob (Hs (E4 F) (nb F.length)))) 30 := h_
         clear h_
         replace off0 := off0.p hO u9
         clear hO
         refine q5 ?_
         go_wp2
         refine bodyPost_ret (k9 rfl rfl k_t2 (by kernel_rfl) (by rw [y5]; kernel_rfl)) rfl ⟨rfl, off0.ext⟩
end Go.Proofs.YtefpoollmbmkfaaDoor
