/- sha5.Sum: the sum of parts, one behind the other. Conditions: the parts read as bytes; the tables hold their numbers. -/
import Derived.Test.YtefpoollmbmkfaaDoorGc
import Derived.Test.YtefpoollmbmkfaaDoorHb
set_option linter.unusedSimpArgs false
set_option linter.unusedVariables false
namespace Go.Proofs.YtefpoollmbmkfaaDoor
set_option maxHeartbeats 4000000
set_option maxRecDepth 100000
open Go.RowKit
attribute [local irreducible] wpList
theorem j6b (h : Nat → Int) (l : List UInt8) (u : Value) (hl : 128 ≤ l.length) (w : World) (hs : Sl w u l) (hG : GS w) : Calls Tryd.prog 81 #[.agg (q7 .u64 8 h), u] w fun e w' => m7 (.agg (q7 .u64 8 (prs h (bt l)))) w w' e := by
  obtain ⟨ad, c, rfl, _⟩ := j4t hs (by omega)
  exact j5d h l ad c hl w hs hG

theorem g5u (ps : List (List UInt8)) (A : Option Addr) (c : Nat) (F : List UInt8) (hF : ps.flatten = F) (hlen : F.length ≤ 70368744177664) (hpn : ps.length ≤ 9223372036854775000) (w : World) (hps : ∀ i l, ps[i]? = some l → ∃ ad u, A = some ad ∧ w.cell? (ad.add i) = some u ∧ Sl w u l) (hG : GS w) :
  Calls Tryd.prog 32 #[.slice A ps.length c] w fun e w' => m7 (.agg (q7 .u8 64 (sm F))) w w' e := by
 have HG := Lib.hid hG
 have HPS := Lib.hid hps
 clear hG hps
 have hpl := y0x F
 have hzc := (q8d F.length).2
 have off0 : Off [] w w := Off.refl _ _
 go_enter Tryd.func32, Tryd.ntmps32
 go_upto_region 0 with fail
 refine wp_region_lit ?_
 refine Ln ?_ (z := q7 .u8 64 (fun _ => 0)) (t := 30)
 intro v9 W1 z4 hO h_
 have u7 := l4 off0 z4
 replace off0 := off0.o hO
 have k_t2 := h_
 clear hO h_ z4
 refine q5 ?_
 go_upto_region 2 with fail
 refine wp_region_lit ?_
 refine Lv ?_
 refine Lv ?_
 refine Lw ?_ (v := .int .i64 0)
 refine q5 ?_
 have ow_b := y3l W1
 have p5 : Fr (Value.ownBlock (.slice none 0 0)) w.heap.size [] := j4n
 have g9 : Value.ownBlock (.slice none 0 0) ≠ some v9 := fun e_ => by cases e_
 go_wp2_with fail
 go_loopw [3, 15] (fun sv ii wr => ∃ (i : Nat) (bv : Value), (i ≤ ps.length) ∧ (bv = sv) ∧ (ii = .int .i64 (i : Int)) ∧ Off [] w wr ∧ Blk wr v9 (q7 .u8 64 (fun _ => 0)) 30 ∧ Own wr bv ((List.take i ps).flatten) ∧ Fr (Value.ownBlock bv) w.heap.size [] ∧ (Value.ownBlock bv) ≠ some v9)
  (fun sv ii _ => ps.length - (intOf ii).toNat)
 case atStart => exact ⟨0, _, Nat.zero_le _, rfl, rfl, off0, k_t2, ow_b, p5, g9⟩
 case round =>
  obtain ⟨i, bv, hi, rfl, rfl, off0, k_t2, ow_b, p5, g9⟩ := hrel
  obtain ⟨W2, eW_⟩ := O6 off0
  subst eW_
  by_cases hlt : i < ps.length
  ·
   have _f := hlt
   obtain ⟨l_, hl_⟩ : ∃ l, ps[i]? = some l := ⟨_, List.getElem?_eq_getElem hlt⟩
   obtain ⟨ad_, u_, hA_, hc_, hu_⟩ := HPS.out i l_ hl_
   have hfl : (List.take i ps).flatten.length + l_.length ≤ F.length := by rw [← hF, ← List.length_append, ← q6c hl_]; exact j0d _ _
   go_upto_region 3 with fail
   refine wp_region_lit ?_
   refine Lw ?_ (v := .bool true)
   refine q5 ?_
   go_upto_region 4 with fail
   refine wp_region_lit ?_
   refine Lw ?_ (v := .pointer (some (ad_.add i))) (hv := j5g (j := i) hlt rfl (by rw [← hA_]; rfl) rfl)
   refine g0g (by rfl) rfl rfl (F5 hc_ off0.ext) (by kernel_rfl) ?_
   (try simp only [Act.put, mA, mB, mC])
   refine Lv ?_
   refine q5 ?_
   go_upto_region 5 with fail
   refine wp_region_lit ?_
   refine Lv ?_
   refine Lv ?_
   refine a5 (xs := ((List.take i ps).flatten)) (ys := l_) (by rfl) rfl rfl rfl ow_b (hu_.off off0 f0) (by first | omega | (simp only [List.length_append, List.length_cons, List.length_nil, List.length_replicate]; omega)) ?_
   (try simp only [Act.put, mA, mB, mC])
   intro x0p W3 j0w hO y1b nil_a21
   clear nil_a21
   have y5w := l7 y1b g9 (y4 k_t2)
   have g1l := Q0 y1b p5 off0.size
   replace k_t2 := z7 k_t2 hO (nmo g9)
   replace off0 := off0.step hO (io p5)
   clear hO y1b
   have ow_b := j0w
   clear j0w
   have p5 := g1l
   have g9 := y5w
   refine Lv ?_
   refine q5 ?_
   go_wp2
   go_roundw
   case rel => exact ⟨i + 1, _, by omega, rfl, by go_num, off0, k_t2, (by rw [q6c hl_]; exact ow_b), p5, g9⟩
   case measure => simp [intOf]; omega
  ·
   have _f := hlt
   obtain rfl : i = ps.length := by omega
   rw [List.take_length, hF] at ow_b
   go_upto_region 3 with fail
   refine wp_region_lit ?_
   refine Lw ?_ (v := .bool false)
   refine q5 ?_
   go_upto_region 7 with fail
   refine wp_region_lit ?_
   refine Lv ?_
   refine q0b (l := F) (ow_b.sl) (by rfl) rfl rfl ?_
   (try simp only [Act.put, mA, mB, mC])
   refine Lw ?_ (v := .int .u64 ((F.length : Nat) : Int)) (hv := by go_simp; (try simp only [IntKind.wrap_u64, IntKind.wrap_i64]); (try omega))
   refine Lw ?_ (v := .int .u64 ((8 * F.length : Nat) : Int)) (hv := by rw [show ((8 * F.length : Nat) : Int) = sl ((F.length : Nat) : Int) 3 from (by unfold sl; rw [IntKind.wrap_u64]; omega)]; exact q7y (n := 3) (by decide) rfl rfl rfl)
   refine Lv ?_
   refine q5 ?_
   go_upto_region 8 with fail
   refine wp_region_lit ?_
   refine Lv ?_
   refine I4 ?_ (z := #[.int .u8 128]) (t := 5) (n := 1) (c := 1)
   intro g5v W3 j0x hO h_
   replace k_t2 := k_t2.o hO
   replace ow_b := Own.off ow_b hO f0
   replace off0 := off0.o hO
   have ow_s28 : Own W3 (.slice (some ⟨g5v, 0, none⟩) 1 1) [128] := b5 h_ (by rfl) (by show 1 ≤ maxLen; decide)
   clear hO h_ j0x
   refine a5 (xs := F) (ys := [128]) (by rfl) rfl rfl rfl ow_b (ow_s28.sl) (by first | omega | (simp only [List.length_append, List.length_cons, List.length_nil, List.length_replicate]; omega)) ?_
   (try simp only [Act.put, mA, mB, mC])
   intro x0q W4 L7 hO q4v nil_a29
   clear nil_a29
   have y5x := l7 q4v g9 (y4 k_t2)
   have g1m := Q0 q4v p5 off0.size
   replace k_t2 := z7 k_t2 hO (nmo g9)
   replace off0 := off0.step hO (io p5)
   clear hO q4v
   have ow_b := L7
   clear L7
   have p5 := g1m
   have g9 := y5x
   refine Lv ?_
   refine q5 ?_
   clear ow_s28
   go_wp2_with fail
   go_loopw [3] (fun sv wr => ∃ (k : Nat) (bv : Value), (k ≤ zc F.length) ∧ (bv = sv) ∧ Off [] w wr ∧ Blk wr v9 (q7 .u8 64 (fun _ => 0)) 30 ∧ Own wr bv (F ++ [128] ++ List.replicate k 0) ∧ Fr (Value.ownBlock bv) w.heap.size [] ∧ (Value.ownBlock bv) ≠ some v9)
    (fun sv _ => F.length + 300 - y3r sv)
   case atStart => exact ⟨0, _, Nat.zero_le _, rfl, off0, k_t2, (by rw [List.replicate_zero, List.append_nil]; exact ow_b), p5, g9⟩
   case round =>
    obtain ⟨k, bv, hk, rfl, off0, k_t2, ow_b, p5, g9⟩ := hrel
    obtain ⟨W5, eW_⟩ := O6 off0
    subst eW_
    have lb := y3s ow_b
    by_cases hz : k < zc F.length
    ·
     have _f := hz
     have hz2 := g4s hz
     go_upto_region 9 with fail
     refine wp_region_lit ?_
     refine Lv ?_
     refine q0b (l := (F ++ [128] ++ List.replicate k 0)) (ow_b.sl) (by rfl) rfl rfl ?_
     (try simp only [Act.put, mA, mB, mC])
     refine Lw ?_ (v := .int .i64 (((F.length + 1 + k) % 128 : Nat) : Int)) (hv := by go_simp; (try simp only [List.length_append, List.length_cons, List.length_nil, List.length_replicate]); rw [Int.tmod_eq_emod_of_nonneg (by omega)]; omega)
     refine Lw ?_ (v := .bool true) (hv := by go_simp; omega)
     refine q5 ?_
     go_upto_region 10 with fail
     refine wp_region_lit ?_
     refine Lv ?_
     refine I4 ?_ (z := #[.int .u8 0]) (t := 5) (n := 1) (c := 1)
     intro g5w W6 g5x hO h_
     replace k_t2 := k_t2.o hO
     replace ow_b := Own.off ow_b hO f0
     replace off0 := off0.o hO
     have ow_s35 : Own W6 (.slice (some ⟨g5w, 0, none⟩) 1 1) [0] := b5 h_ (by rfl) (by show 1 ≤ maxLen; decide)
     clear hO h_ g5x
     refine a5 (xs := (F ++ [128] ++ List.replicate k 0)) (ys := [0]) (by rfl) rfl rfl rfl ow_b (ow_s35.sl) (by first | omega | (simp only [List.length_append, List.length_cons, List.length_nil, List.length_replicate]; omega)) ?_
     (try simp only [Act.put, mA, mB, mC])
     intro x0r W7 j0y hO y1c nil_a36
     clear nil_a36
     have y5y := l7 y1c g9 (y4 k_t2)
     have g1n := Q0 y1c p5 off0.size
     replace k_t2 := z7 k_t2 hO (nmo g9)
     replace off0 := off0.step hO (io p5)
     clear hO y1c
     have ow_b := j0y
     clear j0y
     have p5 := g1n
     have g9 := y5y
     refine Lv ?_
     refine q5 ?_
     have la := y3s ow_b
     simp only [List.length_append, List.length_cons, List.length_nil, List.length_replicate] at la lb
     go_wp2
     go_roundw
     case rel => exact ⟨k + 1, _, by omega, rfl, off0, k_t2, (by rw [List.replicate_succ', ← List.append_assoc]; exact ow_b), p5, g9⟩
     case measure => simp only [la, lb]; omega
    ·
     have _f := hz
     obtain rfl : k = zc F.length := by omega
     have hz2 := (q8d F.length).1
     go_upto_region 9 with fail
     refine wp_region_lit ?_
     refine Lv ?_
     refine q0b (l := (F ++ [128] ++ List.replicate (zc F.length) 0)) (ow_b.sl) (by rfl) rfl rfl ?_
     (try simp only [Act.put, mA, mB, mC])
     refine Lw ?_ (v := .int .i64 (((F.length + 1 + zc F.length) % 128 : Nat) : Int)) (hv := by go_simp; (try simp only [List.length_append, List.length_cons, List.length_nil, List.length_replicate]); rw [Int.tmod_eq_emod_of_nonneg (by omega)]; omega)
     refine Lw ?_ (v := .bool false) (hv := by first | (go_simp; done) | (go_simp; omega))
     refine q5 ?_
     go_upto_region 11 with fail
     refine wp_region_lit ?_
     refine Lv ?_
     refine q9k (xs := (F ++ [128] ++ List.replicate (zc F.length) 0)) (m := 8) (by decide) (by rfl) rfl rfl rfl ow_b (by first | omega | (simp only [List.length_append, List.length_cons, List.length_nil, List.length_replicate]; omega)) ?_
     (try simp only [Act.put, mA, mB, mC])
     intro g5y W6 j0z hO y1d
     have y5z := l7 y1d g9 (y4 k_t2)
     have g1o := Q0 y1d p5 off0.size
     replace k_t2 := z7 k_t2 hO (nmo g9)
     replace off0 := off0.step hO (io p5)
     clear hO y1d
     have ow_b := j0z
     clear j0z
     have p5 := g1o
     have g9 := y5z
     refine Lv ?_
     refine q5 ?_
     go_wp2_with fail
     refine wp_loop_rounds 9 ?_
     rw [rounds_succ]
     go_upto_region 15 with fail
     refine wp_region_lit ?_
     refine Lv ?_
     refine Lv ?_
     refine Lw ?_ (v := .int .i64 7)
     refine Lw ?_ (v := .int .i64 56)
     refine Lw ?_ (v := .int .u64 (sr ((8 * F.length : Nat) : Int) 56)) (hv := J8 (n := 56) (by decide) rfl rfl rfl)
     refine Lw ?_ (v := .int .u8 ((u8 ((8 * F.length) / 72057594037927936)).toNat : Int)) (hv := by rw [← S7 (8 * F.length) 56 72057594037927936 (by decide)]; exact L5 rfl rfl)
     refine I4 ?_ (z := #[.int .u8 ((u8 ((8 * F.length) / 72057594037927936)).toNat : Int)]) (t := 5) (n := 1) (c := 1)
     intro j8g W7 Y5 hO h_
     have x8 : ∀ x, (Value.ownBlock g5y) = some x → Value.ownBlock (.slice (some ⟨j8g, 0, none⟩) 1 1) ≠ some x := S4 (Own.lt ow_b) Y5
     replace k_t2 := k_t2.o hO
     replace ow_b := Own.off ow_b hO f0
     replace off0 := off0.o hO
     have ow_s49 : Own W7 (.slice (some ⟨j8g, 0, none⟩) 1 1) [u8 ((8 * F.length) / 72057594037927936)] := b5 h_ (by rfl) (by show 1 ≤ maxLen; decide)
     clear hO h_ Y5
     refine a5 (xs := ((F ++ [128] ++ List.replicate (zc F.length) 0) ++ List.replicate 8 0)) (ys := [u8 ((8 * F.length) / 72057594037927936)]) (by rfl) rfl rfl rfl ow_b (ow_s49.sl) (by first | omega | (simp only [List.length_append, List.length_cons, List.length_nil, List.length_replicate]; omega)) ?_
     (try simp only [Act.put, mA, mB, mC])
     intro g5z W8 o9 hO n5 nil_a50
     clear nil_a50
     have i3 := l7 n5 g9 (y4 k_t2)
     have r3 := l9 n5 x8 (Own.lt ow_s49)
     have V1 := Q0 n5 p5 off0.size
     replace k_t2 := z7 k_t2 hO (nmo g9)
     replace ow_s49 := Own.off ow_s49 hO (fo x8)
     replace off0 := off0.step hO (io p5)
     clear hO n5
     have ow_b := o9
     clear o9
     have p5 := V1
     have g9 := i3
     have x8 := r3
     refine Lv ?_
     refine q5 ?_
     go_wp2_with fail
     rw [rounds_succ]
     go_upto_region 15 with fail
     refine wp_region_lit ?_
     refine Lv ?_
     refine Lv ?_
     refine Lw ?_ (v := .int .i64 6)
     refine Lw ?_ (v := .int .i64 48)
     refine Lw ?_ (v := .int .u64 (sr ((8 * F.length : Nat) : Int) 48)) (hv := J8 (n := 48) (by decide) rfl rfl rfl)
     refine Lw ?_ (v := .int .u8 ((u8 ((8 * F.length) / 281474976710656)).toNat : Int)) (hv := by rw [← S7 (8 * F.length) 48 281474976710656 (by decide)]; exact L5 rfl rfl)
     clear ow_s49 x8
     refine I4 ?_ (z := #[.int .u8 ((u8 ((8 * F.length) / 281474976710656)).toNat : Int)]) (t := 5) (n := 1) (c := 1)
     intro j8h W9 Y5 hO h_
     have x8 : ∀ x, (Value.ownBlock g5z) = some x → Value.ownBlock (.slice (some ⟨j8h, 0, none⟩) 1 1) ≠ some x := S4 (Own.lt ow_b) Y5
     replace k_t2 := k_t2.o hO
     replace ow_b := Own.off ow_b hO f0
     replace off0 := off0.o hO
     have ow_s49 : Own W9 (.slice (some ⟨j8h, 0, none⟩) 1 1) [u8 ((8 * F.length) / 281474976710656)] := b5 h_ (by rfl) (by show 1 ≤ maxLen; decide)
     clear hO h_ Y5
     refine a5 (xs := (((F ++ [128] ++ List.replicate (zc F.length) 0) ++ List.replicate 8 0) ++ [u8 ((8 * F.length) / 72057594037927936)])) (ys := [u8 ((8 * F.length) / 281474976710656)]) (by rfl) rfl rfl rfl ow_b (ow_s49.sl) (by first | omega | (simp only [List.length_append, List.length_cons, List.length_nil, List.length_replicate]; omega)) ?_
     (try simp only [Act.put, mA, mB, mC])
     intro g1p W10 o9 hO n5 nil_a50
     clear nil_a50
     have i3 := l7 n5 g9 (y4 k_t2)
     have r3 := l9 n5 x8 (Own.lt ow_s49)
     have V1 := Q0 n5 p5 off0.size
     replace k_t2 := z7 k_t2 hO (nmo g9)
     replace ow_s49 := Own.off ow_s49 hO (fo x8)
     replace off0 := off0.step hO (io p5)
     clear hO n5
     have ow_b := o9
     clear o9
     have p5 := V1
     have g9 := i3
     have x8 := r3
     refine Lv ?_
     refine q5 ?_
     go_wp2_with fail
     rw [rounds_succ]
     go_upto_region 15 with fail
     refine wp_region_lit ?_
     refine Lv ?_
     refine Lv ?_
     refine Lw ?_ (v := .int .i64 5)
     refine Lw ?_ (v := .int .i64 40)
     refine Lw ?_ (v := .int .u64 (sr ((8 * F.length : Nat) : Int) 40)) (hv := J8 (n := 40) (by decide) rfl rfl rfl)
     refine Lw ?_ (v := .int .u8 ((u8 ((8 * F.length) / 1099511627776)).toNat : Int)) (hv := by rw [← S7 (8 * F.length) 40 1099511627776 (by decide)]; exact L5 rfl rfl)
     clear ow_s49 x8
     refine I4 ?_ (z := #[.int .u8 ((u8 ((8 * F.length) / 1099511627776)).toNat : Int)]) (t := 5) (n := 1) (c := 1)
     intro j1a W11 Y5 hO h_
     have x8 : ∀ x, (Value.ownBlock g1p) = some x → Value.ownBlock (.slice (some ⟨j1a, 0, none⟩) 1 1) ≠ some x := S4 (Own.lt ow_b) Y5
     replace k_t2 := k_t2.o hO
     replace ow_b := Own.off ow_b hO f0
     replace off0 := off0.o hO
     have ow_s49 : Own W11 (.slice (some ⟨j1a, 0, none⟩) 1 1) [u8 ((8 * F.length) / 1099511627776)] := b5 h_ (by rfl) (by show 1 ≤ maxLen; decide)
     clear hO h_ Y5
     refine a5 (xs := ((((F ++ [128] ++ List.replicate (zc F.length) 0) ++ List.replicate 8 0) ++ [u8 ((8 * F.length) / 72057594037927936)]) ++ [u8 ((8 * F.length) / 281474976710656)])) (ys := [u8 ((8 * F.length) / 1099511627776)]) (by rfl) rfl rfl rfl ow_b (ow_s49.sl) (by first | omega | (simp only [List.length_append, List.length_cons, List.length_nil, List.length_replicate]; omega)) ?_
     (try simp only [Act.put, mA, mB, mC])
     intro g1q W12 o9 hO n5 nil_a50
     clear nil_a50
     have i3 := l7 n5 g9 (y4 k_t2)
     have r3 := l9 n5 x8 (Own.lt ow_s49)
     have V1 := Q0 n5 p5 off0.size
     replace k_t2 := z7 k_t2 hO (nmo g9)
     replace ow_s49 := Own.off ow_s49 hO (fo x8)
     replace off0 := off0.step hO (io p5)
     clear hO n5
     have ow_b := o9
     clear o9
     have p5 := V1
     have g9 := i3
     have x8 := r3
     refine Lv ?_
     refine q5 ?_
     go_wp2_with fail
     rw [rounds_succ]
     go_upto_region 15 with fail
     refine wp_region_lit ?_
     refine Lv ?_
     refine Lv ?_
     refine Lw ?_ (v := .int .i64 4)
     refine Lw ?_ (v := .int .i64 32)
     refine Lw ?_ (v := .int .u64 (sr ((8 * F.length : Nat) : Int) 32)) (hv := J8 (n := 32) (by decide) rfl rfl rfl)
     refine Lw ?_ (v := .int .u8 ((u8 ((8 * F.length) / 4294967296)).toNat : Int)) (hv := by rw [← S7 (8 * F.length) 32 4294967296 (by decide)]; exact L5 rfl rfl)
     clear ow_s49 x8
     refine I4 ?_ (z := #[.int .u8 ((u8 ((8 * F.length) / 4294967296)).toNat : Int)]) (t := 5) (n := 1) (c := 1)
     intro j1b W13 Y5 hO h_
     have x8 : ∀ x, (Value.ownBlock g1q) = some x → Value.ownBlock (.slice (some ⟨j1b, 0, none⟩) 1 1) ≠ some x := S4 (Own.lt ow_b) Y5
     replace k_t2 := k_t2.o hO
     replace ow_b := Own.off ow_b hO f0
     replace off0 := off0.o hO
     have ow_s49 : Own W13 (.slice (some ⟨j1b, 0, none⟩) 1 1) [u8 ((8 * F.length) / 4294967296)] := b5 h_ (by rfl) (by show 1 ≤ maxLen; decide)
     clear hO h_ Y5
     refine a5 (xs := (((((F ++ [128] ++ List.replicate (zc F.length) 0) ++ List.replicate 8 0) ++ [u8 ((8 * F.length) / 72057594037927936)]) ++ [u8 ((8 * F.length) / 281474976710656)]) ++ [u8 ((8 * F.length) / 1099511627776)])) (ys := [u8 ((8 * F.length) / 4294967296)]) (by rfl) rfl rfl rfl ow_b (ow_s49.sl) (by first | omega | (simp only [List.length_append, List.length_cons, List.length_nil, List.length_replicate]; omega)) ?_
     (try simp only [Act.put, mA, mB, mC])
     intro g1r W14 o9 hO n5 nil_a50
     clear nil_a50
     have i3 := l7 n5 g9 (y4 k_t2)
     have r3 := l9 n5 x8 (Own.lt ow_s49)
     have V1 := Q0 n5 p5 off0.size
     replace k_t2 := z7 k_t2 hO (nmo g9)
     replace ow_s49 := Own.off ow_s49 hO (fo x8)
     replace off0 := off0.step hO (io p5)
     clear hO n5
     have ow_b := o9
     clear o9
     have p5 := V1
     have g9 := i3
     have x8 := r3
     refine Lv ?_
     refine q5 ?_
     go_wp2_with fail
     rw [rounds_succ]
     go_upto_region 15 with fail
     refine wp_region_lit ?_
     refine Lv ?_
     refine Lv ?_
     refine Lw ?_ (v := .int .i64 3)
     refine Lw ?_ (v := .int .i64 24)
     refine Lw ?_ (v := .int .u64 (sr ((8 * F.length : Nat) : Int) 24)) (hv := J8 (n := 24) (by decide) rfl rfl rfl)
     refine Lw ?_ (v := .int .u8 ((u8 ((8 * F.length) / 16777216)).toNat : Int)) (hv := by rw [← S7 (8 * F.length) 24 16777216 (by decide)]; exact L5 rfl rfl)
     clear ow_s49 x8
     refine I4 ?_ (z := #[.int .u8 ((u8 ((8 * F.length) / 16777216)).toNat : Int)]) (t := 5) (n := 1) (c := 1)
     intro j1c W15 Y5 hO h_
     have x8 : ∀ x, (Value.ownBlock g1r) = some x → Value.ownBlock (.slice (some ⟨j1c, 0, none⟩) 1 1) ≠ some x := S4 (Own.lt ow_b) Y5
     replace k_t2 := k_t2.o hO
     replace ow_b := Own.off ow_b hO f0
     replace off0 := off0.o hO
     have ow_s49 : Own W15 (.slice (some ⟨j1c, 0, none⟩) 1 1) [u8 ((8 * F.length) / 16777216)] := b5 h_ (by rfl) (by show 1 ≤ maxLen; decide)
     clear hO h_ Y5
     refine a5 (xs := ((((((F ++ [128] ++ List.replicate (zc F.length) 0) ++ List.replicate 8 0) ++ [u8 ((8 * F.length) / 72057594037927936)]) ++ [u8 ((8 * F.length) / 281474976710656)]) ++ [u8 ((8 * F.length) / 1099511627776)]) ++ [u8 ((8 * F.length) / 4294967296)])) (ys := [u8 ((8 * F.length) / 16777216)]) (by rfl) rfl rfl rfl ow_b (ow_s49.sl) (by first | omega | (simp only [List.length_append, List.length_cons, List.length_nil, List.length_replicate]; omega)) ?_
     (try simp only [Act.put, mA, mB, mC])
     intro g1s W16 o9 hO n5 nil_a50
     clear nil_a50
     have i3 := l7 n5 g9 (y4 k_t2)
     have r3 := l9 n5 x8 (Own.lt ow_s49)
     have V1 := Q0 n5 p5 off0.size
     replace k_t2 := z7 k_t2 hO (nmo g9)
     replace ow_s49 := Own.off ow_s49 hO (fo x8)
     replace off0 := off0.step hO (io p5)
     clear hO n5
     have ow_b := o9
     clear o9
     have p5 := V1
     have g9 := i3
     have x8 := r3
     refine Lv ?_
     refine q5 ?_
     go_wp2_with fail
     rw [rounds_succ]
     go_upto_region 15 with fail
     refine wp_region_lit ?_
     refine Lv ?_
     refine Lv ?_
     refine Lw ?_ (v := .int .i64 2)
     refine Lw ?_ (v := .int .i64 16)
     refine Lw ?_ (v := .int .u64 (sr ((8 * F.length : Nat) : Int) 16)) (hv := J8 (n := 16) (by decide) rfl rfl rfl)
     refine Lw ?_ (v := .int .u8 ((u8 ((8 * F.length) / 65536)).toNat : Int)) (hv := by rw [← S7 (8 * F.length) 16 65536 (by decide)]; exact L5 rfl rfl)
     clear ow_s49 x8
     refine I4 ?_ (z := #[.int .u8 ((u8 ((8 * F.length) / 65536)).toNat : Int)]) (t := 5) (n := 1) (c := 1)
     intro j1d W17 Y5 hO h_
     have x8 : ∀ x, (Value.ownBlock g1s) = some x → Value.ownBlock (.slice (some ⟨j1d, 0, none⟩) 1 1) ≠ some x := S4 (Own.lt ow_b) Y5
     replace k_t2 := k_t2.o hO
     replace ow_b := Own.off ow_b hO f0
     replace off0 := off0.o hO
     have ow_s49 : Own W17 (.slice (some ⟨j1d, 0, none⟩) 1 1) [u8 ((8 * F.length) / 65536)] := b5 h_ (by rfl) (by show 1 ≤ maxLen; decide)
     clear hO h_ Y5
     refine a5 (xs := (((((((F ++ [128] ++ List.replicate (zc F.length) 0) ++ List.replicate 8 0) ++ [u8 ((8 * F.length) / 72057594037927936)]) ++ [u8 ((8 * F.length) / 281474976710656)]) ++ [u8 ((8 * F.length) / 1099511627776)]) ++ [u8 ((8 * F.length) / 4294967296)]) ++ [u8 ((8 * F.length) / 16777216)])) (ys := [u8 ((8 * F.length) / 65536)]) (by rfl) rfl rfl rfl ow_b (ow_s49.sl) (by first | omega | (simp only [List.length_append, List.length_cons, List.length_nil, List.length_replicate]; omega)) ?_
     (try simp only [Act.put, mA, mB, mC])
     intro g1t W18 o9 hO n5 nil_a50
     clear nil_a50
     have i3 := l7 n5 g9 (y4 k_t2)
     have r3 := l9 n5 x8 (Own.lt ow_s49)
     have V1 := Q0 n5 p5 off0.size
     replace k_t2 := z7 k_t2 hO (nmo g9)
     replace ow_s49 := Own.off ow_s49 hO (fo x8)
     replace off0 := off0.step hO (io p5)
     clear hO n5
     have ow_b := o9
     clear o9
     have p5 := V1
     have g9 := i3
     have x8 := r3
     refine Lv ?_
     refine q5 ?_
     go_wp2_with fail
     rw [rounds_succ]
     go_upto_region 15 with fail
     refine wp_region_lit ?_
     refine Lv ?_
     refine Lv ?_
     refine Lw ?_ (v := .int .i64 1)
     refine Lw ?_ (v := .int .i64 8)
     refine Lw ?_ (v := .int .u64 (sr ((8 * F.length : Nat) : Int) 8)) (hv := J8 (n := 8) (by decide) rfl rfl rfl)
     refine Lw ?_ (v := .int .u8 ((u8 ((8 * F.length) / 256)).toNat : Int)) (hv := by rw [← S7 (8 * F.length) 8 256 (by decide)]; exact L5 rfl rfl)
     clear ow_s49 x8
     refine I4 ?_ (z := #[.int .u8 ((u8 ((8 * F.length) / 256)).toNat : Int)]) (t := 5) (n := 1) (c := 1)
     intro j1e W19 Y5 hO h_
     have x8 : ∀ x, (Value.ownBlock g1t) = some x → Value.ownBlock (.slice (some ⟨j1e, 0, none⟩) 1 1) ≠ some x := S4 (Own.lt ow_b) Y5
     replace k_t2 := k_t2.o hO
     replace ow_b := Own.off ow_b hO f0
     replace off0 := off0.o hO
     have ow_s49 : Own W19 (.slice (some ⟨j1e, 0, none⟩) 1 1) [u8 ((8 * F.length) / 256)] := b5 h_ (by rfl) (by show 1 ≤ maxLen; decide)
     clear hO h_ Y5
     refine a5 (xs := ((((((((F ++ [128] ++ List.replicate (zc F.length) 0) ++ List.replicate 8 0) ++ [u8 ((8 * F.length) / 72057594037927936)]) ++ [u8 ((8 * F.length) / 281474976710656)]) ++ [u8 ((8 * F.length) / 1099511627776)]) ++ [u8 ((8 * F.length) / 4294967296)]) ++ [u8 ((8 * F.length) / 16777216)]) ++ [u8 ((8 * F.length) / 65536)])) (ys := [u8 ((8 * F.length) / 256)]) (by rfl) rfl rfl rfl ow_b (ow_s49.sl) (by first | omega | (simp only [List.length_append, List.length_cons, List.length_nil, List.length_replicate]; omega)) ?_
     (try simp only [Act.put, mA, mB, mC])
     intro g8r W20 o9 hO n5 nil_a50
     clear nil_a50
     have i3 := l7 n5 g9 (y4 k_t2)
     have V1 := Q0 n5 p5 off0.size
     replace k_t2 := z7 k_t2 hO (nmo g9)
     replace ow_s49 := Own.off ow_s49 hO (fo x8)
     replace off0 := off0.step hO (io p5)
     clear hO n5
     have ow_b := o9
     clear o9
     have p5 := V1
     have g9 := i3
     refine Lv ?_
     refine q5 ?_
     go_wp2_with fail
     rw [rounds_succ]
     go_upto_region 15 with fail
     refine wp_region_lit ?_
     refine Lv ?_
     refine Lv ?_
     refine Lw ?_ (v := .int .i64 0)
     refine Lw ?_ (v := .int .i64 0)
     refine Lw ?_ (v := .int .u64 (sr ((8 * F.length : Nat) : Int) 0)) (hv := J8 (n := 0) (by decide) rfl rfl rfl)
     refine Lw ?_ (v := .int .u8 ((u8 (8 * F.length)).toNat : Int)) (hv := by rw [← j5j (8 * F.length)]; exact L5 rfl rfl)
     clear ow_s49 x8
     refine I4 ?_ (z := #[.int .u8 ((u8 (8 * F.length)).toNat : Int)]) (t := 5) (n := 1) (c := 1)
     intro g1u W21 Y5 hO h_
     replace k_t2 := k_t2.o hO
     replace ow_b := Own.off ow_b hO f0
     replace off0 := off0.o hO
     have ow_s49 : Own W21 (.slice (some ⟨g1u, 0, none⟩) 1 1) [u8 (8 * F.length)] := b5 h_ (by rfl) (by show 1 ≤ maxLen; decide)
     clear hO h_ Y5
     refine a5 (xs := (((((((((F ++ [128] ++ List.replicate (zc F.length) 0) ++ List.replicate 8 0) ++ [u8 ((8 * F.length) / 72057594037927936)]) ++ [u8 ((8 * F.length) / 281474976710656)]) ++ [u8 ((8 * F.length) / 1099511627776)]) ++ [u8 ((8 * F.length) / 4294967296)]) ++ [u8 ((8 * F.length) / 16777216)]) ++ [u8 ((8 * F.length) / 65536)]) ++ [u8 ((8 * F.length) / 256)])) (ys := [u8 (8 * F.length)]) (by rfl) rfl rfl rfl ow_b (ow_s49.sl) (by first | omega | (simp only [List.length_append, List.length_cons, List.length_nil, List.length_replicate]; omega)) ?_
     (try simp only [Act.put, mA, mB, mC])
     intro y1e W22 o9 hO n5 nil_a50
     clear nil_a50
     have i3 := l7 n5 g9 (y4 k_t2)
     replace k_t2 := z7 k_t2 hO (nmo g9)
     replace off0 := off0.step hO (io p5)
     clear hO n5
     have ow_b := o9
     clear o9
     have g9 := i3
     refine Lv ?_
     refine q5 ?_
     go_wp2_with fail
     rw [rounds_succ]
     go_upto_region 16 with fail
     refine wp_region_lit ?_
     refine q7k (by rfl) rfl rfl ((q8a HG.out off0.ext).2) (by kernel_rfl) (by rw [y5]; kernel_rfl) ?_
     (try simp only [Act.put, mA, mB, mC])
     refine K8 ?_ (z := q7 .u64 8 (fun _ => 0)) (t := 113) (cells := q7 .u64 8 hf) (hi := by rw [y5]; kernel_rfl) (hs := by rw [y5, y5]) (h1 := by exact b9 _ _ _)
     intro q4w W24 n3 hO h_
     have Z5 := bn k_t2 n3
     have y3v := d8 (Own.lt ow_b) n3
     have R6 := l4 off0 n3
     replace k_t2 := k_t2.o hO
     replace ow_b := Own.off ow_b hO f0
     replace off0 := off0.o hO
     have k_t8 := h_
     clear hO h_ n3
     refine q5 ?_
     clear ow_s49 x8
     rw [j5i] at ow_b
     have D6 : Sl W24 y1e (List.drop (128 * 0) (I5 F)) := y5n ow_b
     have q0d : sb y1e (List.drop (128 * 0) (I5 F)) ≠ some v9 := j7y g9
     have L8 : sb y1e (List.drop (128 * 0) (I5 F)) ≠ some q4w := j7y y3v
     clear ow_b p5 g9 y3v
     go_wp2_with fail
     go_loopw [3] (fun sv wr => ∃ (j : Nat) (u : Value), (j ≤ nb F.length) ∧ (u = sv) ∧ Off [] w wr ∧ Blk wr v9 (q7 .u8 64 (fun _ => 0)) 30 ∧ Blk wr q4w (q7 .u64 8 (Hs (I5 F) j)) 113 ∧ Sl wr u (List.drop (128 * j) (I5 F)) ∧ (sb u (List.drop (128 * j) (I5 F))) ≠ some v9 ∧ (sb u (List.drop (128 * j) (I5 F))) ≠ some q4w)
      (fun sv _ => y3r sv)
     case atStart => exact ⟨0, _, Nat.zero_le _, rfl, off0, k_t2, k_t8, D6, q0d, L8⟩
     case round =>
      obtain ⟨j, u, hj, rfl, off0, k_t2, k_t8, D6, q0d, L8⟩ := hrel
      obtain ⟨W25, eW_⟩ := O6 off0
      subst eW_
      have lb := j0e D6
      by_cases hjl : j < nb F.length
      ·
       have _f := hjl
       have hl128 : 128 ≤ (List.drop (128 * j) (I5 F)).length := by rw [List.length_drop, hpl]; omega
       go_upto_region 17 with fail
       refine wp_region_lit ?_
       refine Lv ?_
       refine q0b (l := (List.drop (128 * j) (I5 F))) D6 (by rfl) rfl rfl ?_
       (try simp only [Act.put, mA, mB, mC])
       refine Lw ?_ (v := .bool true) (hv := by go_simp; (try simp only [List.length_drop, hpl]); omega)
       refine q5 ?_
       go_upto_region 19 with fail
       refine wp_region_lit ?_
       refine B9 ?_ k_t8
       refine Lv ?_
       refine Lr ?_ (j6b (Hs (I5 F) j) (List.drop (128 * j) (I5 F)) u hl128 W25 D6 (q8a HG.out off0.ext))
       intro W26 hO
       replace k_t2 := k_t2.o hO
       replace k_t8 := k_t8.o hO
       replace D6 := Sl.off D6 hO f0
       replace off0 := off0.o hO
       clear hO
       refine Lp ?_ k_t8 (cells := q7 .u64 8 (prs (Hs (I5 F) j) (bt (List.drop (128 * j) (I5 F))))) (hi := by rw [y5]; kernel_rfl) (hs := by rw [y5, y5]) (h1 := by exact b9 _ _ _)
       intro W27 hO h_
       replace k_t8 : Blk W27 q4w (q7 .u64 8 (prs (Hs (I5 F) j) (bt (List.drop (128 * j) (I5 F))))) 113 := h_
       clear h_
       replace k_t2 := k_t2.p hO Z5
       replace D6 := Sl.off D6 hO (f1 L8)
       replace off0 := off0.p hO R6
       clear hO
       refine q5 ?_
       go_upto_region 18 with fail
       refine wp_region_lit ?_
       refine Lv ?_
       refine y9s (n := 128) D6 (by exact hl128) (by rfl) rfl rfl rfl ?_
       (try simp only [Act.put, mA, mB, mC])
       intro j1f y1f y3w
       have q6f : sb j1f (List.drop 128 (List.drop (128 * j) (I5 F))) ≠ some v9 := y0v y3w q0d
       have q6g : sb j1f (List.drop 128 (List.drop (128 * j) (I5 F))) ≠ some q4w := y0v y3w L8
       refine Lv ?_
       refine q5 ?_
       clear D6 q0d L8
       rw [q2m] at y1f
       rw [q2m] at q6f
       rw [q2m] at q6g
       have D6 := y1f
       clear y1f
       have q0d := q6f
       have L8 := q6g
       have la := j0e D6
       simp only [List.length_drop, hpl] at la lb
       go_wp2
       go_roundw
       case rel => exact ⟨j + 1, _, by omega, rfl, off0, k_t2, k_t8, D6, q0d, L8⟩
       case measure => simp only [la, lb]; omega
      ·
       have _f := hjl
       obtain rfl : j = nb F.length := by omega
       go_upto_region 17 with fail
       refine wp_region_lit ?_
       refine Lv ?_
       refine q0b (l := (List.drop (128 * nb F.length) (I5 F))) D6 (by rfl) rfl rfl ?_
       (try simp only [Act.put, mA, mB, mC])
       refine Lw ?_ (v := .bool false) (hv := by first | (go_simp; done) | (go_simp; (try simp only [List.length_drop, hpl]); omega))
       refine q5 ?_
       go_upto_region 20 with fail
       refine wp_region_lit ?_
       refine Ln ?_ (z := q7 .u8 64 (fun _ => 0)) (t := 30)
       intro y3x W26 C4 hO h_
       have j1g := bn k_t2 C4
       have j1h := bn k_t8 C4
       have j6c := d8 (Sl.lt D6) C4
       have q4h := l4 off0 C4
       replace k_t2 := k_t2.o hO
       replace k_t8 := k_t8.o hO
       replace D6 := Sl.off D6 hO f0
       replace off0 := off0.o hO
       have k_t9 := h_
       clear hO h_ C4
       refine q5 ?_
       go_upto_region 21 with fail
       refine wp_region_lit ?_
       refine B9 ?_ k_t8
       refine Lw ?_ (v := .int .i64 0)
       refine q5 ?_
       go_wp2_with fail
       go_loopw [61] (fun ii wr => ∃ (i : Nat), (i ≤ 8) ∧ (ii = .int .i64 (i : Int)) ∧ Off [] w wr ∧ Blk wr v9 (q7 .u8 64 (fun _ => 0)) 30 ∧ Blk wr q4w (q7 .u64 8 (Hs (I5 F) (nb F.length))) 113 ∧ Blk wr y3x (q7 .u8 64 (q5o (Hs (I5 F) (nb F.length)) (8 * i))) 30 ∧ Sl wr u (List.drop (128 * nb F.length) (I5 F)))
        (fun ii _ => 8 - (intOf ii).toNat)
       case atStart => exact ⟨0, Nat.zero_le _, rfl, off0, k_t2, k_t8, (by rw [Nat.mul_zero, y5l]; exact k_t9), D6⟩
       case round =>
        obtain ⟨i, hi, rfl, off0, k_t2, k_t8, k_t9, D6⟩ := hrel
        obtain ⟨W27, eW_⟩ := O6 off0
        subst eW_
        by_cases h8 : i < 8
        ·
         have _f := h8
         go_upto_region 22 with fail
         refine wp_region_lit ?_
         refine Lw ?_ (v := .bool true)
         refine q5 ?_
         go_upto_region 23 with fail
         refine wp_region_lit ?_
         refine Lv ?_
         refine Lw ?_ (v := .int .u64 (Hs (I5 F) (nb F.length) i)) (hv := j5h (m := 8) h8 Tryd.underlying113 (by kernel_rfl) j5k rfl rfl rfl)
         refine Lv ?_
         refine Lv ?_
         refine q5 ?_
         go_wp2_with fail
         go_loopw [65] (fun jj wr => ∃ (k : Nat), (k ≤ 8) ∧ (jj = .int .i64 (k : Int)) ∧ Off [] w wr ∧ Blk wr v9 (q7 .u8 64 (fun _ => 0)) 30 ∧ Blk wr q4w (q7 .u64 8 (Hs (I5 F) (nb F.length))) 113 ∧ Blk wr y3x (q7 .u8 64 (q5o (Hs (I5 F) (nb F.length)) (8 * i + k))) 30 ∧ Sl wr u (List.drop (128 * nb F.length) (I5 F)))
          (fun jj _ => 8 - (intOf jj).toNat)
         case atStart => exact ⟨0, Nat.zero_le _, rfl, off0, k_t2, k_t8, k_t9, D6⟩
         case round =>
          obtain ⟨k, hk, rfl, off0, k_t2, k_t8, k_t9, D6⟩ := hrel
          obtain ⟨W28, eW_⟩ := O6 off0
          subst eW_
          by_cases hk8 : k < 8
          ·
           have _f := hk8
           go_upto_region 25 with fail
           refine wp_region_lit ?_
           refine Lw ?_ (v := .bool true)
           refine q5 ?_
           go_upto_region 27 with fail
           refine wp_region_lit ?_
           refine Lv ?_
           refine Lw ?_ (v := .int .i64 (((8 * i : Nat) : Int))) (hv := by go_simp; (try simp only [IntKind.wrap_u64, IntKind.wrap_i64]); (try omega))
           refine Lv ?_
           refine Lw ?_ (v := .int .i64 (((8 * i + k : Nat) : Int))) (hv := by go_simp; (try simp only [IntKind.wrap_u64, IntKind.wrap_i64]); (try omega))
           refine Lv ?_
           refine Lv ?_
           refine Lw ?_ (v := .int .i64 (((7 - k : Nat) : Int))) (hv := by go_simp; (try simp only [IntKind.wrap_u64, IntKind.wrap_i64]); (try omega))
           refine Lw ?_ (v := .int .i64 (((8 * (7 - k) : Nat) : Int))) (hv := by go_simp; (try simp only [IntKind.wrap_u64, IntKind.wrap_i64]); (try omega))
           refine Lw ?_ (v := .int .u64 (sr (Hs (I5 F) (nb F.length) i) (8 * (7 - k)))) (hv := J8 (n := 8 * (7 - k)) (by omega) rfl rfl rfl)
           refine Lw ?_ (v := .int .u8 (w8 (sr (Hs (I5 F) (nb F.length) i) (8 * (7 - k))))) (hv := by exact L5 rfl rfl)
           refine Lw ?_ (v := .pointer (some ⟨y3x, 0 + (8 * i + k), none⟩)) (hv := j2 (m := 64) (by decide) (by omega) Tryd.underlying30 (by kernel_rfl) rfl rfl rfl)
           refine Z7 (v := .int .u8 (w8 (sr (Hs (I5 F) (nb F.length) i) (8 * (7 - k))))) ⟨rfl, rfl⟩ (by rfl) rfl rfl rfl k_t9 (by rw [y5, Nat.zero_add]; omega) (by kernel_rfl) ?_
           (try simp only [Act.put, mA, mB, mC])
           intro W29 hO h_
           rw [Nat.zero_add, d9] at h_
           replace k_t9 : Blk W29 y3x (q7 .u8 64 (B8 (q5o (Hs (I5 F) (nb F.length)) (8 * i + k)) (8 * i + k) (w8 (sr (Hs (I5 F) (nb F.length) i) (8 * (7 - k)))))) 30 := h_
           clear h_
           replace k_t2 := k_t2.p hO j1g
           replace k_t8 := k_t8.p hO j1h
           replace D6 := Sl.off D6 hO (f1 j6c)
           replace off0 := off0.p hO q4h
           clear hO
           refine q5 ?_
           go_wp2
           go_roundw
           case rel => exact ⟨k + 1, by omega, by go_num, off0, k_t2, k_t8, (by rw [← y5m _ _ _ hk8]; exact k_t9), D6⟩
           case measure => simp [intOf]; omega
          ·
           have _f := hk8
           obtain rfl : k = 8 := by omega
           go_upto_region 25 with fail
           refine wp_region_lit ?_
           refine Lw ?_ (v := .bool false)
           refine q5 ?_
           go_wp2
           go_roundw
           case rel => exact ⟨i + 1, by omega, by go_num, off0, k_t2, k_t8, (by rw [show 8 * (i + 1) = 8 * i + 8 by omega]; exact k_t9), D6⟩
           case measure => simp [intOf]; omega
        ·
         have _f := h8
         obtain rfl : i = 8 := by omega
         rw [show 8 * 8 = 64 by rfl, j0f] at k_t9
         go_upto_region 22 with fail
         refine wp_region_lit ?_
         refine Lw ?_ (v := .bool false)
         refine q5 ?_
         go_upto_region 30 with fail
         refine wp_region_lit ?_
         refine B9 ?_ k_t9
         refine Lp ?_ k_t2 (cells := q7 .u8 64 (ob (Hs (I5 F) (nb F.length)))) (hi := by rw [y5]; kernel_rfl) (hs := by rw [y5, y5]) (h1 := by exact b9 _ _ _)
         intro W28 hO h_
         replace k_t2 : Blk W28 v9 (q7 .u8 64 (ob (Hs (I5 F) (nb F.length)))) 30 := h_
         clear h_
         replace off0 := off0.p hO u7
         clear hO
         refine q5 ?_
         go_wp2
         refine bodyPost_ret (v5 rfl rfl k_t2 (by kernel_rfl) (by rw [y5]; kernel_rfl)) rfl ⟨rfl, off0.ext⟩
end Go.Proofs.YtefpoollmbmkfaaDoor
