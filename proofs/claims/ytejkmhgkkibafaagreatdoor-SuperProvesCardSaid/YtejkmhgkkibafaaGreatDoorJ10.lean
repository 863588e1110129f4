/- sha5.Sum: the sum of parts, one behind the other. Conditions: the parts read as bytes; the tables hold their numbers. Rows of bytes that began as a text: a mark lies behind their last cell; they may be appended to. What the document's sum needs: the schedule in one loop, places, bytes of the words, the tables of the document. -/
import Derived.Test.YtejkmhgkkibafaaGreatDoorGc
import Derived.Test.YtejkmhgkkibafaaGreatDoorJ6
import Derived.Test.YtejkmhgkkibafaaGreatDoorJ3
import Derived.Test.YtejkmhgkkibafaaGreatDoorJ9
set_option linter.unusedSimpArgs false
set_option linter.unusedVariables false
namespace Go.Proofs.YtejkmhgkkibafaaGreatDoor.S8
section
set_option maxHeartbeats 4000000
set_option maxRecDepth 100000
open Go.RowKit
attribute [local irreducible] wpList
theorem Y3q (h : Nat → Int) (l : List UInt8) (u : Value) (hl : 128 ≤ l.length) (w : World) (hs : Sl w u l) (hG : GS w) : Calls Tryz.prog 158 #[.agg (J0 .u64 8 h), u] w fun e w' => Ret (.agg (J0 .u64 8 (prs h (bt l)))) w w' e := by
  obtain ⟨ad, c, rfl, _⟩ := Q74 hs (by omega)
  exact Y28 h l ad c hl w hs hG

theorem V3j (ps : List (List UInt8)) (A : Option Addr) (c : Nat) (F : List UInt8) (hF : ps.flatten = F) (hlen : F.length ≤ 70368744177664) (hpn : ps.length ≤ 9223372036854775000) (w : World) (hps : ∀ i l, ps[i]? = some l → ∃ ad u, A = some ad ∧ w.cell? (ad.add i) = some u ∧ Sl w u l) (hG : GS w) :
  Calls Tryz.prog 125 #[.slice A ps.length c] w fun e w' => Ret (.agg (J0 .u8 64 (sm F))) w w' e := by
 have HG := Lib.hid hG
 have HPS := Lib.hid hps
 clear hG hps
 have hpl := Z1e F
 have hzc := (Q84 F.length).2
 have off0 : Off [] w w := Off.refl _ _
 go_enter Tryz.func125, Tryz.ntmps125
 go_upto_region 0 with fail
 refine wp_region_lit ?_
 refine Ln ?_ (z := J0 .u8 64 (fun _ => 0)) (t := 45)
 intro J0a W1 J0l hO h_
 have J0r := fbn off0 J0l
 replace off0 := off0.o hO
 have k_t2 := h_
 clear hO h_ J0l
 refine J3 ?_
 go_upto_region 2 with fail
 refine wp_region_lit ?_
 refine Lv ?_
 refine Lv ?_
 refine Lw ?_ (v := .int .i64 0)
 refine J3 ?_
 have ow_b := Q35 W1
 have J2g : Fr (Value.ownBlock (.slice none 0 0)) w.heap.size [] := Y1t
 have Y7 : Value.ownBlock (.slice none 0 0) ≠ some J0a := fun e_ => by cases e_
 go_wp2_with fail
 go_loopw [3, 15] (fun sv ii wr => ∃ (i : Nat) (bv : Value), (i ≤ ps.length) ∧ (bv = sv) ∧ (ii = .int .i64 (i : Int)) ∧ Off [] w wr ∧ Blk wr J0a (J0 .u8 64 (fun _ => 0)) 45 ∧ Own wr bv ((List.take i ps).flatten) ∧ Fr (Value.ownBlock bv) w.heap.size [] ∧ (Value.ownBlock bv) ≠ some J0a)
  (fun sv ii _ => ps.length - (intOf ii).toNat)
 case atStart => exact ⟨0, _, Nat.zero_le _, rfl, rfl, off0, k_t2, ow_b, J2g, Y7⟩
 case round =>
  obtain ⟨i, bv, hi, rfl, rfl, off0, k_t2, ow_b, J2g, Y7⟩ := hrel
  obtain ⟨W2, eW_⟩ := J67 off0
  subst eW_
  by_cases hlt : i < ps.length
  ·
   have _f := hlt
   obtain ⟨l_, hl_⟩ : ∃ l, ps[i]? = some l := ⟨_, List.getElem?_eq_getElem hlt⟩
   obtain ⟨ad_, u_, hA_, hc_, hu_⟩ := HPS.out i l_ hl_
   have hfl : (List.take i ps).flatten.length + l_.length ≤ F.length := by rw [← hF, ← List.length_append, ← J9y hl_]; exact Q9y _ _
   go_upto_region 3 with fail
   refine wp_region_lit ?_
   refine Lw ?_ (v := .bool true)
   refine J3 ?_
   go_upto_region 4 with fail
   refine wp_region_lit ?_
   refine Lw ?_ (v := .pointer (some (ad_.add i))) (hv := Z3r (j := i) hlt rfl (by rw [← hA_]; rfl) rfl)
   refine Y79 (by rfl) rfl rfl (K5 hc_ off0.ext) (by kernel_rfl) ?_
   (try simp only [Act.put, mA, mB, mC])
   refine Lv ?_
   refine J3 ?_
   go_upto_region 5 with fail
   refine wp_region_lit ?_
   refine Lv ?_
   refine Lv ?_
   refine J0q (xs := ((List.take i ps).flatten)) (ys := l_) (by rfl) rfl rfl rfl ow_b (hu_.off off0 f0) (by first | omega | (simp only [List.length_append, List.length_cons, List.length_nil, List.length_replicate]; omega)) ?_
   (try simp only [Act.put, mA, mB, mC])
   intro V6p W3 Z9x hO Z1k nil_a21
   clear nil_a21
   have Z5s := J4b Z1k Y7 (Q7 k_t2)
   have Y9e := J5l Z1k J2g off0.size
   replace k_t2 := J1h k_t2 hO (nmo Y7)
   replace off0 := off0.step hO (io J2g)
   clear hO Z1k
   have ow_b := Z9x
   clear Z9x
   have J2g := Y9e
   have Y7 := Z5s
   refine Lv ?_
   refine J3 ?_
   go_wp2
   go_roundw
   case rel => exact ⟨i + 1, _, by omega, rfl, by go_num, off0, k_t2, (by rw [J9y hl_]; exact ow_b), J2g, Y7⟩
   case measure => simp [intOf]; omega
  have _f := hlt
  obtain rfl : i = ps.length := by omega
  rw [List.take_length, hF] at ow_b
  go_upto_region 3 with fail
  refine wp_region_lit ?_
  refine Lw ?_ (v := .bool false)
  refine J3 ?_
  go_upto_region 7 with fail
  refine wp_region_lit ?_
  refine Lv ?_
  refine Q12 (l := F) (ow_b.sl) (by rfl) rfl rfl ?_
  (try simp only [Act.put, mA, mB, mC])
  refine Lw ?_ (v := .int .u64 ((F.length : Nat) : Int)) (hv := by go_simp; (try simp only [IntKind.wrap_u64, IntKind.wrap_i64]); (try omega))
  refine Lw ?_ (v := .int .u64 ((8 * F.length : Nat) : Int)) (hv := by rw [show ((8 * F.length : Nat) : Int) = sl ((F.length : Nat) : Int) 3 from (by unfold sl; rw [IntKind.wrap_u64]; omega)]; exact J4e (n := 3) (by decide) rfl rfl rfl)
  refine Lv ?_
  refine J3 ?_
  go_upto_region 8 with fail
  refine wp_region_lit ?_
  refine Lv ?_
  refine LnS ?_ (z := #[.int .u8 128]) (t := 5) (n := 1) (c := 1)
  intro V3p W3 V3q hO h_
  replace k_t2 := k_t2.o hO
  replace ow_b := Own.off ow_b hO f0
  replace off0 := off0.o hO
  have ow_s28 : Own W3 (.slice (some ⟨V3p, 0, none⟩) 1 1) [128] := J3v h_ (by rfl) (by show 1 ≤ maxLen; decide)
  clear hO h_ V3q
  refine J0q (xs := F) (ys := [128]) (by rfl) rfl rfl rfl ow_b (ow_s28.sl) (by first | omega | (simp only [List.length_append, List.length_cons, List.length_nil, List.length_replicate]; omega)) ?_
  (try simp only [Act.put, mA, mB, mC])
  intro V6q W4 Z9y hO Z1l nil_a29
  clear nil_a29
  have Z5t := J4b Z1l Y7 (Q7 k_t2)
  have Y9f := J5l Z1l J2g off0.size
  replace k_t2 := J1h k_t2 hO (nmo Y7)
  replace off0 := off0.step hO (io J2g)
  clear hO Z1l
  have ow_b := Z9y
  clear Z9y
  have J2g := Y9f
  have Y7 := Z5t
  refine Lv ?_
  refine J3 ?_
  clear ow_s28
  go_wp2_with fail
  go_loopw [3] (fun sv wr => ∃ (k : Nat) (bv : Value), (k ≤ zc F.length) ∧ (bv = sv) ∧ Off [] w wr ∧ Blk wr J0a (J0 .u8 64 (fun _ => 0)) 45 ∧ Own wr bv (F ++ [128] ++ List.replicate k 0) ∧ Fr (Value.ownBlock bv) w.heap.size [] ∧ (Value.ownBlock bv) ≠ some J0a)
   (fun sv _ => F.length + 300 - Q2q sv)
  case atStart => exact ⟨0, _, Nat.zero_le _, rfl, off0, k_t2, (by rw [List.replicate_zero, List.append_nil]; exact ow_b), J2g, Y7⟩
  case round =>
   obtain ⟨k, bv, hk, rfl, off0, k_t2, ow_b, J2g, Y7⟩ := hrel
   obtain ⟨W5, eW_⟩ := J67 off0
   subst eW_
   have lb := Z3s ow_b
   by_cases hz : k < zc F.length
   ·
    have _f := hz
    have hz2 := V3b hz
    go_upto_region 9 with fail
    refine wp_region_lit ?_
    refine Lv ?_
    refine Q12 (l := (F ++ [128] ++ List.replicate k 0)) (ow_b.sl) (by rfl) rfl rfl ?_
    (try simp only [Act.put, mA, mB, mC])
    refine Lw ?_ (v := .int .i64 (((F.length + 1 + k) % 128 : Nat) : Int)) (hv := by go_simp; (try simp only [List.length_append, List.length_cons, List.length_nil, List.length_replicate]); rw [Int.tmod_eq_emod_of_nonneg (by omega)]; omega)
    refine Lw ?_ (v := .bool true) (hv := by go_simp; omega)
    refine J3 ?_
    go_upto_region 10 with fail
    refine wp_region_lit ?_
    refine Lv ?_
    refine LnS ?_ (z := #[.int .u8 0]) (t := 5) (n := 1) (c := 1)
    intro Y6b W6 V3r hO h_
    replace k_t2 := k_t2.o hO
    replace ow_b := Own.off ow_b hO f0
    replace off0 := off0.o hO
    have ow_s35 : Own W6 (.slice (some ⟨Y6b, 0, none⟩) 1 1) [0] := J3v h_ (by rfl) (by show 1 ≤ maxLen; decide)
    clear hO h_ V3r
    refine J0q (xs := (F ++ [128] ++ List.replicate k 0)) (ys := [0]) (by rfl) rfl rfl rfl ow_b (ow_s35.sl) (by first | omega | (simp only [List.length_append, List.length_cons, List.length_nil, List.length_replicate]; omega)) ?_
    (try simp only [Act.put, mA, mB, mC])
    intro Y6c W7 Z9z hO Z1m nil_a36
    clear nil_a36
    have Z5u := J4b Z1m Y7 (Q7 k_t2)
    have Y9g := J5l Z1m J2g off0.size
    replace k_t2 := J1h k_t2 hO (nmo Y7)
    replace off0 := off0.step hO (io J2g)
    clear hO Z1m
    have ow_b := Z9z
    clear Z9z
    have J2g := Y9g
    have Y7 := Z5u
    refine Lv ?_
    refine J3 ?_
    have la := Z3s ow_b
    simp only [List.length_append, List.length_cons, List.length_nil, List.length_replicate] at la lb
    go_wp2
    go_roundw
    case rel => exact ⟨k + 1, _, by omega, rfl, off0, k_t2, (by rw [List.replicate_succ', ← List.append_assoc]; exact ow_b), J2g, Y7⟩
    case measure => simp only [la, lb]; omega
   have _f := hz
   obtain rfl : k = zc F.length := by omega
   have hz2 := (Q84 F.length).1
   go_upto_region 9 with fail
   refine wp_region_lit ?_
   refine Lv ?_
   refine Q12 (l := (F ++ [128] ++ List.replicate (zc F.length) 0)) (ow_b.sl) (by rfl) rfl rfl ?_
   (try simp only [Act.put, mA, mB, mC])
   refine Lw ?_ (v := .int .i64 (((F.length + 1 + zc F.length) % 128 : Nat) : Int)) (hv := by go_simp; (try simp only [List.length_append, List.length_cons, List.length_nil, List.length_replicate]); rw [Int.tmod_eq_emod_of_nonneg (by omega)]; omega)
   refine Lw ?_ (v := .bool false) (hv := by first | (go_simp; done) | (go_simp; omega))
   refine J3 ?_
   go_upto_region 11 with fail
   refine wp_region_lit ?_
   refine Lv ?_
   refine Q9z (xs := (F ++ [128] ++ List.replicate (zc F.length) 0)) (m := 8) (by decide) (by rfl) rfl rfl rfl ow_b (by first | omega | (simp only [List.length_append, List.length_cons, List.length_nil, List.length_replicate]; omega)) ?_
   (try simp only [Act.put, mA, mB, mC])
   intro Z7r W6 Q89 hO Q0p
   have Z5v := J4b Q0p Y7 (Q7 k_t2)
   have Z1i := J5l Q0p J2g off0.size
   replace k_t2 := J1h k_t2 hO (nmo Y7)
   replace off0 := off0.step hO (io J2g)
   clear hO Q0p
   have ow_b := Q89
   clear Q89
   have J2g := Z1i
   have Y7 := Z5v
   refine Lv ?_
   refine J3 ?_
   go_wp2_with fail
   refine wp_loop_rounds 9 ?_
   rw [rounds_succ]
   go_upto_region 15 with fail
   refine wp_region_lit ?_
   refine Lv ?_
   refine Lv ?_
   refine Lw ?_ (v := .int .i64 7)
   refine Lw ?_ (v := .int .i64 56)
   refine Lw ?_ (v := .int .u64 (sr ((8 * F.length : Nat) : Int) 56)) (hv := J18 (n := 56) (by decide) rfl rfl rfl)
   refine Lw ?_ (v := .int .u8 ((u8 ((8 * F.length) / 72057594037927936)).toNat : Int)) (hv := by rw [← J41 (8 * F.length) 56 72057594037927936 (by decide)]; exact J38 rfl rfl)
   refine LnS ?_ (z := #[.int .u8 ((u8 ((8 * F.length) / 72057594037927936)).toNat : Int)]) (t := 5) (n := 1) (c := 1)
   intro Y6d W7 J3l hO h_
   have V7 : ∀ x, (Value.ownBlock Z7r) = some x → Value.ownBlock (.slice (some ⟨Y6d, 0, none⟩) 1 1) ≠ some x := Q0h (Own.lt ow_b) J3l
   replace k_t2 := k_t2.o hO
   replace ow_b := Own.off ow_b hO f0
   replace off0 := off0.o hO
   have ow_s49 : Own W7 (.slice (some ⟨Y6d, 0, none⟩) 1 1) [u8 ((8 * F.length) / 72057594037927936)] := J3v h_ (by rfl) (by show 1 ≤ maxLen; decide)
   clear hO h_ J3l
   refine J0q (xs := ((F ++ [128] ++ List.replicate (zc F.length) 0) ++ List.replicate 8 0)) (ys := [u8 ((8 * F.length) / 72057594037927936)]) (by rfl) rfl rfl rfl ow_b (ow_s49.sl) (by first | omega | (simp only [List.length_append, List.length_cons, List.length_nil, List.length_replicate]; omega)) ?_
   (try simp only [Act.put, mA, mB, mC])
   intro V3s W8 J1o hO J0b nil_a50
   clear nil_a50
   have J0y := J4b J0b Y7 (Q7 k_t2)
   have J1p := Q1y J0b V7 (Own.lt ow_s49)
   have J51 := J5l J0b J2g off0.size
   replace k_t2 := J1h k_t2 hO (nmo Y7)
   replace ow_s49 := Own.off ow_s49 hO (fo V7)
   replace off0 := off0.step hO (io J2g)
   clear hO J0b
   have ow_b := J1o
   clear J1o
   have J2g := J51
   have Y7 := J0y
   have V7 := J1p
   refine Lv ?_
   refine J3 ?_
   go_wp2_with fail
   rw [rounds_succ]
   go_upto_region 15 with fail
   refine wp_region_lit ?_
   refine Lv ?_
   refine Lv ?_
   refine Lw ?_ (v := .int .i64 6)
   refine Lw ?_ (v := .int .i64 48)
   refine Lw ?_ (v := .int .u64 (sr ((8 * F.length : Nat) : Int) 48)) (hv := J18 (n := 48) (by decide) rfl rfl rfl)
   refine Lw ?_ (v := .int .u8 ((u8 ((8 * F.length) / 281474976710656)).toNat : Int)) (hv := by rw [← J41 (8 * F.length) 48 281474976710656 (by decide)]; exact J38 rfl rfl)
   clear ow_s49 V7
   refine LnS ?_ (z := #[.int .u8 ((u8 ((8 * F.length) / 281474976710656)).toNat : Int)]) (t := 5) (n := 1) (c := 1)
   intro Y6e W9 J3l hO h_
   have V7 : ∀ x, (Value.ownBlock V3s) = some x → Value.ownBlock (.slice (some ⟨Y6e, 0, none⟩) 1 1) ≠ some x := Q0h (Own.lt ow_b) J3l
   replace k_t2 := k_t2.o hO
   replace ow_b := Own.off ow_b hO f0
   replace off0 := off0.o hO
   have ow_s49 : Own W9 (.slice (some ⟨Y6e, 0, none⟩) 1 1) [u8 ((8 * F.length) / 281474976710656)] := J3v h_ (by rfl) (by show 1 ≤ maxLen; decide)
   clear hO h_ J3l
   refine J0q (xs := (((F ++ [128] ++ List.replicate (zc F.length) 0) ++ List.replicate 8 0) ++ [u8 ((8 * F.length) / 72057594037927936)])) (ys := [u8 ((8 * F.length) / 281474976710656)]) (by rfl) rfl rfl rfl ow_b (ow_s49.sl) (by first | omega | (simp only [List.length_append, List.length_cons, List.length_nil, List.length_replicate]; omega)) ?_
   (try simp only [Act.put, mA, mB, mC])
   intro Y9h W10 J1o hO J0b nil_a50
   clear nil_a50
   have J0y := J4b J0b Y7 (Q7 k_t2)
   have J1p := Q1y J0b V7 (Own.lt ow_s49)
   have J51 := J5l J0b J2g off0.size
   replace k_t2 := J1h k_t2 hO (nmo Y7)
   replace ow_s49 := Own.off ow_s49 hO (fo V7)
   replace off0 := off0.step hO (io J2g)
   clear hO J0b
   have ow_b := J1o
   clear J1o
   have J2g := J51
   have Y7 := J0y
   have V7 := J1p
   refine Lv ?_
   refine J3 ?_
   go_wp2_with fail
   rw [rounds_succ]
   go_upto_region 15 with fail
   refine wp_region_lit ?_
   refine Lv ?_
   refine Lv ?_
   refine Lw ?_ (v := .int .i64 5)
   refine Lw ?_ (v := .int .i64 40)
   refine Lw ?_ (v := .int .u64 (sr ((8 * F.length : Nat) : Int) 40)) (hv := J18 (n := 40) (by decide) rfl rfl rfl)
   refine Lw ?_ (v := .int .u8 ((u8 ((8 * F.length) / 1099511627776)).toNat : Int)) (hv := by rw [← J41 (8 * F.length) 40 1099511627776 (by decide)]; exact J38 rfl rfl)
   clear ow_s49 V7
   refine LnS ?_ (z := #[.int .u8 ((u8 ((8 * F.length) / 1099511627776)).toNat : Int)]) (t := 5) (n := 1) (c := 1)
   intro Y00 W11 J3l hO h_
   have V7 : ∀ x, (Value.ownBlock Y9h) = some x → Value.ownBlock (.slice (some ⟨Y00, 0, none⟩) 1 1) ≠ some x := Q0h (Own.lt ow_b) J3l
   replace k_t2 := k_t2.o hO
   replace ow_b := Own.off ow_b hO f0
   replace off0 := off0.o hO
   have ow_s49 : Own W11 (.slice (some ⟨Y00, 0, none⟩) 1 1) [u8 ((8 * F.length) / 1099511627776)] := J3v h_ (by rfl) (by show 1 ≤ maxLen; decide)
   clear hO h_ J3l
   refine J0q (xs := ((((F ++ [128] ++ List.replicate (zc F.length) 0) ++ List.replicate 8 0) ++ [u8 ((8 * F.length) / 72057594037927936)]) ++ [u8 ((8 * F.length) / 281474976710656)])) (ys := [u8 ((8 * F.length) / 1099511627776)]) (by rfl) rfl rfl rfl ow_b (ow_s49.sl) (by first | omega | (simp only [List.length_append, List.length_cons, List.length_nil, List.length_replicate]; omega)) ?_
   (try simp only [Act.put, mA, mB, mC])
   intro Y9i W12 J1o hO J0b nil_a50
   clear nil_a50
   have J0y := J4b J0b Y7 (Q7 k_t2)
   have J1p := Q1y J0b V7 (Own.lt ow_s49)
   have J51 := J5l J0b J2g off0.size
   replace k_t2 := J1h k_t2 hO (nmo Y7)
   replace ow_s49 := Own.off ow_s49 hO (fo V7)
   replace off0 := off0.step hO (io J2g)
   clear hO J0b
   have ow_b := J1o
   clear J1o
   have J2g := J51
   have Y7 := J0y
   have V7 := J1p
   refine Lv ?_
   refine J3 ?_
   go_wp2_with fail
   rw [rounds_succ]
   go_upto_region 15 with fail
   refine wp_region_lit ?_
   refine Lv ?_
   refine Lv ?_
   refine Lw ?_ (v := .int .i64 4)
   refine Lw ?_ (v := .int .i64 32)
   refine Lw ?_ (v := .int .u64 (sr ((8 * F.length : Nat) : Int) 32)) (hv := J18 (n := 32) (by decide) rfl rfl rfl)
   refine Lw ?_ (v := .int .u8 ((u8 ((8 * F.length) / 4294967296)).toNat : Int)) (hv := by rw [← J41 (8 * F.length) 32 4294967296 (by decide)]; exact J38 rfl rfl)
   clear ow_s49 V7
   refine LnS ?_ (z := #[.int .u8 ((u8 ((8 * F.length) / 4294967296)).toNat : Int)]) (t := 5) (n := 1) (c := 1)
   intro Y01 W13 J3l hO h_
   have V7 : ∀ x, (Value.ownBlock Y9i) = some x → Value.ownBlock (.slice (some ⟨Y01, 0, none⟩) 1 1) ≠ some x := Q0h (Own.lt ow_b) J3l
   replace k_t2 := k_t2.o hO
   replace ow_b := Own.off ow_b hO f0
   replace off0 := off0.o hO
   have ow_s49 : Own W13 (.slice (some ⟨Y01, 0, none⟩) 1 1) [u8 ((8 * F.length) / 4294967296)] := J3v h_ (by rfl) (by show 1 ≤ maxLen; decide)
   clear hO h_ J3l
   refine J0q (xs := (((((F ++ [128] ++ List.replicate (zc F.length) 0) ++ List.replicate 8 0) ++ [u8 ((8 * F.length) / 72057594037927936)]) ++ [u8 ((8 * F.length) / 281474976710656)]) ++ [u8 ((8 * F.length) / 1099511627776)])) (ys := [u8 ((8 * F.length) / 4294967296)]) (by rfl) rfl rfl rfl ow_b (ow_s49.sl) (by first | omega | (simp only [List.length_append, List.length_cons, List.length_nil, List.length_replicate]; omega)) ?_
   (try simp only [Act.put, mA, mB, mC])
   intro Y9j W14 J1o hO J0b nil_a50
   clear nil_a50
   have J0y := J4b J0b Y7 (Q7 k_t2)
   have J1p := Q1y J0b V7 (Own.lt ow_s49)
   have J51 := J5l J0b J2g off0.size
   replace k_t2 := J1h k_t2 hO (nmo Y7)
   replace ow_s49 := Own.off ow_s49 hO (fo V7)
   replace off0 := off0.step hO (io J2g)
   clear hO J0b
   have ow_b := J1o
   clear J1o
   have J2g := J51
   have Y7 := J0y
   have V7 := J1p
   refine Lv ?_
   refine J3 ?_
   go_wp2_with fail
   rw [rounds_succ]
   go_upto_region 15 with fail
   refine wp_region_lit ?_
   refine Lv ?_
   refine Lv ?_
   refine Lw ?_ (v := .int .i64 3)
   refine Lw ?_ (v := .int .i64 24)
   refine Lw ?_ (v := .int .u64 (sr ((8 * F.length : Nat) : Int) 24)) (hv := J18 (n := 24) (by decide) rfl rfl rfl)
   refine Lw ?_ (v := .int .u8 ((u8 ((8 * F.length) / 16777216)).toNat : Int)) (hv := by rw [← J41 (8 * F.length) 24 16777216 (by decide)]; exact J38 rfl rfl)
   clear ow_s49 V7
   refine LnS ?_ (z := #[.int .u8 ((u8 ((8 * F.length) / 16777216)).toNat : Int)]) (t := 5) (n := 1) (c := 1)
   intro Y02 W15 J3l hO h_
   have V7 : ∀ x, (Value.ownBlock Y9j) = some x → Value.ownBlock (.slice (some ⟨Y02, 0, none⟩) 1 1) ≠ some x := Q0h (Own.lt ow_b) J3l
   replace k_t2 := k_t2.o hO
   replace ow_b := Own.off ow_b hO f0
   replace off0 := off0.o hO
   have ow_s49 : Own W15 (.slice (some ⟨Y02, 0, none⟩) 1 1) [u8 ((8 * F.length) / 16777216)] := J3v h_ (by rfl) (by show 1 ≤ maxLen; decide)
   clear hO h_ J3l
   refine J0q (xs := ((((((F ++ [128] ++ List.replicate (zc F.length) 0) ++ List.replicate 8 0) ++ [u8 ((8 * F.length) / 72057594037927936)]) ++ [u8 ((8 * F.length) / 281474976710656)]) ++ [u8 ((8 * F.length) / 1099511627776)]) ++ [u8 ((8 * F.length) / 4294967296)])) (ys := [u8 ((8 * F.length) / 16777216)]) (by rfl) rfl rfl rfl ow_b (ow_s49.sl) (by first | omega | (simp only [List.length_append, List.length_cons, List.length_nil, List.length_replicate]; omega)) ?_
   (try simp only [Act.put, mA, mB, mC])
   intro Y9k W16 J1o hO J0b nil_a50
   clear nil_a50
   have J0y := J4b J0b Y7 (Q7 k_t2)
   have J1p := Q1y J0b V7 (Own.lt ow_s49)
   have J51 := J5l J0b J2g off0.size
   replace k_t2 := J1h k_t2 hO (nmo Y7)
   replace ow_s49 := Own.off ow_s49 hO (fo V7)
   replace off0 := off0.step hO (io J2g)
   clear hO J0b
   have ow_b := J1o
   clear J1o
   have J2g := J51
   have Y7 := J0y
   have V7 := J1p
   refine Lv ?_
   refine J3 ?_
   go_wp2_with fail
   rw [rounds_succ]
   go_upto_region 15 with fail
   refine wp_region_lit ?_
   refine Lv ?_
   refine Lv ?_
   refine Lw ?_ (v := .int .i64 2)
   refine Lw ?_ (v := .int .i64 16)
   refine Lw ?_ (v := .int .u64 (sr ((8 * F.length : Nat) : Int) 16)) (hv := J18 (n := 16) (by decide) rfl rfl rfl)
   refine Lw ?_ (v := .int .u8 ((u8 ((8 * F.length) / 65536)).toNat : Int)) (hv := by rw [← J41 (8 * F.length) 16 65536 (by decide)]; exact J38 rfl rfl)
   clear ow_s49 V7
   refine LnS ?_ (z := #[.int .u8 ((u8 ((8 * F.length) / 65536)).toNat : Int)]) (t := 5) (n := 1) (c := 1)
   intro Y03 W17 J3l hO h_
   have V7 : ∀ x, (Value.ownBlock Y9k) = some x → Value.ownBlock (.slice (some ⟨Y03, 0, none⟩) 1 1) ≠ some x := Q0h (Own.lt ow_b) J3l
   replace k_t2 := k_t2.o hO
   replace ow_b := Own.off ow_b hO f0
   replace off0 := off0.o hO
   have ow_s49 : Own W17 (.slice (some ⟨Y03, 0, none⟩) 1 1) [u8 ((8 * F.length) / 65536)] := J3v h_ (by rfl) (by show 1 ≤ maxLen; decide)
   clear hO h_ J3l
   refine J0q (xs := (((((((F ++ [128] ++ List.replicate (zc F.length) 0) ++ List.replicate 8 0) ++ [u8 ((8 * F.length) / 72057594037927936)]) ++ [u8 ((8 * F.length) / 281474976710656)]) ++ [u8 ((8 * F.length) / 1099511627776)]) ++ [u8 ((8 * F.length) / 4294967296)]) ++ [u8 ((8 * F.length) / 16777216)])) (ys := [u8 ((8 * F.length) / 65536)]) (by rfl) rfl rfl rfl ow_b (ow_s49.sl) (by first | omega | (simp only [List.length_append, List.length_cons, List.length_nil, List.length_replicate]; omega)) ?_
   (try simp only [Act.put, mA, mB, mC])
   intro Y9l W18 J1o hO J0b nil_a50
   clear nil_a50
   have J0y := J4b J0b Y7 (Q7 k_t2)
   have J1p := Q1y J0b V7 (Own.lt ow_s49)
   have J51 := J5l J0b J2g off0.size
   replace k_t2 := J1h k_t2 hO (nmo Y7)
   replace ow_s49 := Own.off ow_s49 hO (fo V7)
   replace off0 := off0.step hO (io J2g)
   clear hO J0b
   have ow_b := J1o
   clear J1o
   have J2g := J51
   have Y7 := J0y
   have V7 := J1p
   refine Lv ?_
   refine J3 ?_
   go_wp2_with fail
   rw [rounds_succ]
   go_upto_region 15 with fail
   refine wp_region_lit ?_
   refine Lv ?_
   refine Lv ?_
   refine Lw ?_ (v := .int .i64 1)
   refine Lw ?_ (v := .int .i64 8)
   refine Lw ?_ (v := .int .u64 (sr ((8 * F.length : Nat) : Int) 8)) (hv := J18 (n := 8) (by decide) rfl rfl rfl)
   refine Lw ?_ (v := .int .u8 ((u8 ((8 * F.length) / 256)).toNat : Int)) (hv := by rw [← J41 (8 * F.length) 8 256 (by decide)]; exact J38 rfl rfl)
   clear ow_s49 V7
   refine LnS ?_ (z := #[.int .u8 ((u8 ((8 * F.length) / 256)).toNat : Int)]) (t := 5) (n := 1) (c := 1)
   intro Y04 W19 J3l hO h_
   have V7 : ∀ x, (Value.ownBlock Y9l) = some x → Value.ownBlock (.slice (some ⟨Y04, 0, none⟩) 1 1) ≠ some x := Q0h (Own.lt ow_b) J3l
   replace k_t2 := k_t2.o hO
   replace ow_b := Own.off ow_b hO f0
   replace off0 := off0.o hO
   have ow_s49 : Own W19 (.slice (some ⟨Y04, 0, none⟩) 1 1) [u8 ((8 * F.length) / 256)] := J3v h_ (by rfl) (by show 1 ≤ maxLen; decide)
   clear hO h_ J3l
   refine J0q (xs := ((((((((F ++ [128] ++ List.replicate (zc F.length) 0) ++ List.replicate 8 0) ++ [u8 ((8 * F.length) / 72057594037927936)]) ++ [u8 ((8 * F.length) / 281474976710656)]) ++ [u8 ((8 * F.length) / 1099511627776)]) ++ [u8 ((8 * F.length) / 4294967296)]) ++ [u8 ((8 * F.length) / 16777216)]) ++ [u8 ((8 * F.length) / 65536)])) (ys := [u8 ((8 * F.length) / 256)]) (by rfl) rfl rfl rfl ow_b (ow_s49.sl) (by first | omega | (simp only [List.length_append, List.length_cons, List.length_nil, List.length_replicate]; omega)) ?_
   (try simp only [Act.put, mA, mB, mC])
   intro V5t W20 J1o hO J0b nil_a50
   clear nil_a50
   have J0y := J4b J0b Y7 (Q7 k_t2)
   have J51 := J5l J0b J2g off0.size
   replace k_t2 := J1h k_t2 hO (nmo Y7)
   replace ow_s49 := Own.off ow_s49 hO (fo V7)
   replace off0 := off0.step hO (io J2g)
   clear hO J0b
   have ow_b := J1o
   clear J1o
   have J2g := J51
   have Y7 := J0y
   refine Lv ?_
   refine J3 ?_
   go_wp2_with fail
   rw [rounds_succ]
   go_upto_region 15 with fail
   refine wp_region_lit ?_
   refine Lv ?_
   refine Lv ?_
   refine Lw ?_ (v := .int .i64 0)
   refine Lw ?_ (v := .int .i64 0)
   refine Lw ?_ (v := .int .u64 (sr ((8 * F.length : Nat) : Int) 0)) (hv := J18 (n := 0) (by decide) rfl rfl rfl)
   refine Lw ?_ (v := .int .u8 ((u8 (8 * F.length)).toNat : Int)) (hv := by rw [← Z3t (8 * F.length)]; exact J38 rfl rfl)
   clear ow_s49 V7
   refine LnS ?_ (z := #[.int .u8 ((u8 (8 * F.length)).toNat : Int)]) (t := 5) (n := 1) (c := 1)
   intro Y9m W21 J3l hO h_
   replace k_t2 := k_t2.o hO
   replace ow_b := Own.off ow_b hO f0
   replace off0 := off0.o hO
   have ow_s49 : Own W21 (.slice (some ⟨Y9m, 0, none⟩) 1 1) [u8 (8 * F.length)] := J3v h_ (by rfl) (by show 1 ≤ maxLen; decide)
   clear hO h_ J3l
   refine J0q (xs := (((((((((F ++ [128] ++ List.replicate (zc F.length) 0) ++ List.replicate 8 0) ++ [u8 ((8 * F.length) / 72057594037927936)]) ++ [u8 ((8 * F.length) / 281474976710656)]) ++ [u8 ((8 * F.length) / 1099511627776)]) ++ [u8 ((8 * F.length) / 4294967296)]) ++ [u8 ((8 * F.length) / 16777216)]) ++ [u8 ((8 * F.length) / 65536)]) ++ [u8 ((8 * F.length) / 256)])) (ys := [u8 (8 * F.length)]) (by rfl) rfl rfl rfl ow_b (ow_s49.sl) (by first | omega | (simp only [List.length_append, List.length_cons, List.length_nil, List.length_replicate]; omega)) ?_
   (try simp only [Act.put, mA, mB, mC])
   intro Z1n W22 J1o hO J0b nil_a50
   clear nil_a50
   have J0y := J4b J0b Y7 (Q7 k_t2)
   replace k_t2 := J1h k_t2 hO (nmo Y7)
   replace off0 := off0.step hO (io J2g)
   clear hO J0b
   have ow_b := J1o
   clear J1o
   have Y7 := J0y
   refine Lv ?_
   refine J3 ?_
   go_wp2_with fail
   rw [rounds_succ]
   go_upto_region 16 with fail
   refine wp_region_lit ?_
   refine Q37 (by rfl) rfl rfl ((Q76 HG.out off0.ext).2) (by kernel_rfl) (by rw [J2]; kernel_rfl) ?_
   (try simp only [Act.put, mA, mB, mC])
   refine LnP ?_ (z := J0 .u64 8 (fun _ => 0)) (t := 186) (cells := J0 .u64 8 hf) (hi := by rw [J2]; kernel_rfl) (hs := by rw [J2, J2]) (h1 := by exact K3 _ _ _)
   intro J5g W24 J1b hO h_
   have J2c := bn k_t2 J1b
   have Z3u := J2k (Own.lt ow_b) J1b
   have J6f := fbn off0 J1b
   replace k_t2 := k_t2.o hO
   replace ow_b := Own.off ow_b hO f0
   replace off0 := off0.o hO
   have k_t8 := h_
   clear hO h_ J1b
   refine J3 ?_
   clear ow_s49 V7
   rw [Q8b] at ow_b
   have J5h : Sl W24 Z1n (List.drop (128 * 0) (pad F)) := Z5g ow_b
   have J9z : sb Z1n (List.drop (128 * 0) (pad F)) ≠ some J0a := Y52 Y7
   have J8e : sb Z1n (List.drop (128 * 0) (pad F)) ≠ some J5g := Y52 Z3u
   clear ow_b J2g Y7 Z3u
   go_wp2_with fail
   go_loopw [3] (fun sv wr => ∃ (j : Nat) (u : Value), (j ≤ nb F.length) ∧ (u = sv) ∧ Off [] w wr ∧ Blk wr J0a (J0 .u8 64 (fun _ => 0)) 45 ∧ Blk wr J5g (J0 .u64 8 (Hs (pad F) j)) 186 ∧ Sl wr u (List.drop (128 * j) (pad F)) ∧ (sb u (List.drop (128 * j) (pad F))) ≠ some J0a ∧ (sb u (List.drop (128 * j) (pad F))) ≠ some J5g)
    (fun sv _ => Q2q sv)
   case atStart => exact ⟨0, _, Nat.zero_le _, rfl, off0, k_t2, k_t8, J5h, J9z, J8e⟩
   case round =>
    obtain ⟨j, u, hj, rfl, off0, k_t2, k_t8, J5h, J9z, J8e⟩ := hrel
    obtain ⟨W25, eW_⟩ := J67 off0
    subst eW_
    have lb := J78 J5h
    by_cases hjl : j < nb F.length
    ·
     have _f := hjl
     have hl128 : 128 ≤ (List.drop (128 * j) (pad F)).length := by rw [List.length_drop, hpl]; omega
     go_upto_region 17 with fail
     refine wp_region_lit ?_
     refine Lv ?_
     refine Q12 (l := (List.drop (128 * j) (pad F))) J5h (by rfl) rfl rfl ?_
     (try simp only [Act.put, mA, mB, mC])
     refine Lw ?_ (v := .bool true) (hv := by go_simp; (try simp only [List.length_drop, hpl]); omega)
     refine J3 ?_
     go_upto_region 19 with fail
     refine wp_region_lit ?_
     refine L0A ?_ k_t8
     refine Lv ?_
     refine Lr ?_ (Y3q (Hs (pad F) j) (List.drop (128 * j) (pad F)) u hl128 W25 J5h (Q76 HG.out off0.ext))
     intro W26 hO
     replace k_t2 := k_t2.o hO
     replace k_t8 := k_t8.o hO
     replace J5h := Sl.off J5h hO f0
     replace off0 := off0.o hO
     clear hO
     refine Lp ?_ k_t8 (cells := J0 .u64 8 (prs (Hs (pad F) j) (bt (List.drop (128 * j) (pad F))))) (hi := by rw [J2]; kernel_rfl) (hs := by rw [J2, J2]) (h1 := by exact K3 _ _ _)
     intro W27 hO h_
     replace k_t8 : Blk W27 J5g (J0 .u64 8 (prs (Hs (pad F) j) (bt (List.drop (128 * j) (pad F))))) 186 := h_
     clear h_
     replace k_t2 := k_t2.p hO J2c
     replace J5h := Sl.off J5h hO (f1 J8e)
     replace off0 := off0.p hO J6f
     clear hO
     refine J3 ?_
     go_upto_region 18 with fail
     refine wp_region_lit ?_
     refine Lv ?_
     refine Z7a (n := 128) J5h (by exact hl128) (by rfl) rfl rfl rfl ?_
     (try simp only [Act.put, mA, mB, mC])
     intro Y05 Z1o Z3v
     have Q6c : sb Y05 (List.drop 128 (List.drop (128 * j) (pad F))) ≠ some J0a := Z78 Z3v J9z
     have Q6d : sb Y05 (List.drop 128 (List.drop (128 * j) (pad F))) ≠ some J5g := Z78 Z3v J8e
     refine Lv ?_
     refine J3 ?_
     clear J5h J9z J8e
     rw [Q26] at Z1o
     rw [Q26] at Q6c
     rw [Q26] at Q6d
     have J5h := Z1o
     clear Z1o
     have J9z := Q6c
     have J8e := Q6d
     have la := J78 J5h
     simp only [List.length_drop, hpl] at la lb
     go_wp2
     go_roundw
     case rel => exact ⟨j + 1, _, by omega, rfl, off0, k_t2, k_t8, J5h, J9z, J8e⟩
     case measure => simp only [la, lb]; omega
    have _f := hjl
    obtain rfl : j = nb F.length := by omega
    go_upto_region 17 with fail
    refine wp_region_lit ?_
    refine Lv ?_
    refine Q12 (l := (List.drop (128 * nb F.length) (pad F))) J5h (by rfl) rfl rfl ?_
    (try simp only [Act.put, mA, mB, mC])
    refine Lw ?_ (v := .bool false) (hv := by first | (go_simp; done) | (go_simp; (try simp only [List.length_drop, hpl]); omega))
    refine J3 ?_
    go_upto_region 20 with fail
    refine wp_region_lit ?_
    refine Ln ?_ (z := J0 .u8 64 (fun _ => 0)) (t := 45)
    intro Z3w W26 J77 hO h_
    have Y06 := bn k_t2 J77
    have Y07 := bn k_t8 J77
    have Y3r := J2k (Sl.lt J5h) J77
    have Q9p := fbn off0 J77
    replace k_t2 := k_t2.o hO
    replace k_t8 := k_t8.o hO
    replace J5h := Sl.off J5h hO f0
    replace off0 := off0.o hO
    have k_t9 := h_
    clear hO h_ J77
    refine J3 ?_
    go_upto_region 21 with fail
    refine wp_region_lit ?_
    refine L0A ?_ k_t8
    refine Lw ?_ (v := .int .i64 0)
    refine J3 ?_
    go_wp2_with fail
    go_loopw [61] (fun ii wr => ∃ (i : Nat), (i ≤ 8) ∧ (ii = .int .i64 (i : Int)) ∧ Off [] w wr ∧ Blk wr J0a (J0 .u8 64 (fun _ => 0)) 45 ∧ Blk wr J5g (J0 .u64 8 (Hs (pad F) (nb F.length))) 186 ∧ Blk wr Z3w (J0 .u8 64 (Q5o (Hs (pad F) (nb F.length)) (8 * i))) 45 ∧ Sl wr u (List.drop (128 * nb F.length) (pad F)))
     (fun ii _ => 8 - (intOf ii).toNat)
    case atStart => exact ⟨0, Nat.zero_le _, rfl, off0, k_t2, k_t8, (by rw [Nat.mul_zero, Z5e]; exact k_t9), J5h⟩
    case round =>
     obtain ⟨i, hi, rfl, off0, k_t2, k_t8, k_t9, J5h⟩ := hrel
     obtain ⟨W27, eW_⟩ := J67 off0
     subst eW_
     by_cases h8 : i < 8
     ·
      have _f := h8
      go_upto_region 22 with fail
      refine wp_region_lit ?_
      refine Lw ?_ (v := .bool true)
      refine J3 ?_
      go_upto_region 23 with fail
      refine wp_region_lit ?_
      refine Lv ?_
      refine Lw ?_ (v := .int .u64 (Hs (pad F) (nb F.length) i)) (hv := Q8c (m := 8) h8 Tryz.underlying186 (by kernel_rfl) Y3s rfl rfl rfl)
      refine Lv ?_
      refine Lv ?_
      refine J3 ?_
      go_wp2_with fail
      go_loopw [65] (fun jj wr => ∃ (k : Nat), (k ≤ 8) ∧ (jj = .int .i64 (k : Int)) ∧ Off [] w wr ∧ Blk wr J0a (J0 .u8 64 (fun _ => 0)) 45 ∧ Blk wr J5g (J0 .u64 8 (Hs (pad F) (nb F.length))) 186 ∧ Blk wr Z3w (J0 .u8 64 (Q5o (Hs (pad F) (nb F.length)) (8 * i + k))) 45 ∧ Sl wr u (List.drop (128 * nb F.length) (pad F)))
       (fun jj _ => 8 - (intOf jj).toNat)
      case atStart => exact ⟨0, Nat.zero_le _, rfl, off0, k_t2, k_t8, k_t9, J5h⟩
      case round =>
       obtain ⟨k, hk, rfl, off0, k_t2, k_t8, k_t9, J5h⟩ := hrel
       obtain ⟨W28, eW_⟩ := J67 off0
       subst eW_
       by_cases hk8 : k < 8
       ·
        have _f := hk8
        go_upto_region 25 with fail
        refine wp_region_lit ?_
        refine Lw ?_ (v := .bool true)
        refine J3 ?_
        go_upto_region 27 with fail
        refine wp_region_lit ?_
        refine Lv ?_
        refine Lw ?_ (v := .int .i64 (((8 * i : Nat) : Int))) (hv := by go_simp; (try simp only [IntKind.wrap_u64, IntKind.wrap_i64]); (try omega))
        refine Lv ?_
        refine Lw ?_ (v := .int .i64 (((8 * i + k : Nat) : Int))) (hv := by go_simp; (try simp only [IntKind.wrap_u64, IntKind.wrap_i64]); (try omega))
        refine Lv ?_
        refine Lv ?_
        refine Lw ?_ (v := .int .i64 (((7 - k : Nat) : Int))) (hv := by go_simp; (try simp only [IntKind.wrap_u64, IntKind.wrap_i64]); (try omega))
        refine Lw ?_ (v := .int .i64 (((8 * (7 - k) : Nat) : Int))) (hv := by go_simp; (try simp only [IntKind.wrap_u64, IntKind.wrap_i64]); (try omega))
        refine Lw ?_ (v := .int .u64 (sr (Hs (pad F) (nb F.length) i) (8 * (7 - k)))) (hv := J18 (n := 8 * (7 - k)) (by omega) rfl rfl rfl)
        refine Lw ?_ (v := .int .u8 (w8 (sr (Hs (pad F) (nb F.length) i) (8 * (7 - k))))) (hv := by exact J38 rfl rfl)
        refine Lw ?_ (v := .pointer (some ⟨Z3w, 0 + (8 * i + k), none⟩)) (hv := J5 (m := 64) (by decide) (by omega) Tryz.underlying45 (by kernel_rfl) rfl rfl rfl)
        refine J28 (v := .int .u8 (w8 (sr (Hs (pad F) (nb F.length) i) (8 * (7 - k))))) ⟨rfl, rfl⟩ (by rfl) rfl rfl rfl k_t9 (by rw [J2, Nat.zero_add]; omega) (by kernel_rfl) ?_
        (try simp only [Act.put, mA, mB, mC])
        intro W29 hO h_
        rw [Nat.zero_add, K0] at h_
        replace k_t9 : Blk W29 Z3w (J0 .u8 64 (upd (Q5o (Hs (pad F) (nb F.length)) (8 * i + k)) (8 * i + k) (w8 (sr (Hs (pad F) (nb F.length) i) (8 * (7 - k)))))) 45 := h_
        clear h_
        replace k_t2 := k_t2.p hO Y06
        replace k_t8 := k_t8.p hO Y07
        replace J5h := Sl.off J5h hO (f1 Y3r)
        replace off0 := off0.p hO Q9p
        clear hO
        refine J3 ?_
        go_wp2
        go_roundw
        case rel => exact ⟨k + 1, by omega, by go_num, off0, k_t2, k_t8, (by rw [← Z5f _ _ _ hk8]; exact k_t9), J5h⟩
        case measure => simp [intOf]; omega
       have _f := hk8
       obtain rfl : k = 8 := by omega
       go_upto_region 25 with fail
       refine wp_region_lit ?_
       refine Lw ?_ (v := .bool false)
       refine J3 ?_
       go_wp2
       go_roundw
       case rel => exact ⟨i + 1, by omega, by go_num, off0, k_t2, k_t8, (by rw [show 8 * (i + 1) = 8 * i + 8 by omega]; exact k_t9), J5h⟩
       case measure => simp [intOf]; omega
     have _f := h8
     obtain rfl : i = 8 := by omega
     rw [show 8 * 8 = 64 by rfl, Z93] at k_t9
     go_upto_region 22 with fail
     refine wp_region_lit ?_
     refine Lw ?_ (v := .bool false)
     refine J3 ?_
     go_upto_region 30 with fail
     refine wp_region_lit ?_
     refine L0A ?_ k_t9
     refine Lp ?_ k_t2 (cells := J0 .u8 64 (ob (Hs (pad F) (nb F.length)))) (hi := by rw [J2]; kernel_rfl) (hs := by rw [J2, J2]) (h1 := by exact K3 _ _ _)
     intro W28 hO h_
     replace k_t2 : Blk W28 J0a (J0 .u8 64 (ob (Hs (pad F) (nb F.length)))) 45 := h_
     clear h_
     replace off0 := off0.p hO J0r
     clear hO
     refine J3 ?_
     go_wp2
     refine bodyPost_ret (Y0 rfl rfl k_t2 (by kernel_rfl) (by rw [J2]; kernel_rfl)) rfl ⟨rfl, off0.ext⟩
end

section
open Go.RowKit
end

section
open Go.RowKit
def GR (w : World) : Prop := Rd w 3 (J0 .u64 80 kf) ∧ Rd w 2 (J0 .u64 8 hf)
theorem Y90 {w W : World} (h : GR w) (e : Ext w W) : GR W := ⟨h.1.ext e, h.2.ext e⟩
def bo (H : Nat → Int) (j : Nat) : UInt8 := u8 (ob H j).toNat
theorem V3c (H : Nat → Int) (j : Nat) : ((bo H j).toNat : Int) = ob H j := by
  have := Y4z (sr (H (j / 8)) (8 * (7 - j % 8)))
  unfold bo
  rw [J9o]
  unfold ob
  omega
def wb (H : Nat → Int) (n : Nat) : List UInt8 := (List.range n).map (bo H)
theorem Z5h (H : Nat → Int) (n : Nat) : (wb H n).length = n := by simp [wb]
def smb (l : List UInt8) : List UInt8 := wb (Hs (pad l) (nb l.length)) 64
theorem Q4p (l : List UInt8) : (smb l).length = 64 := Z5h _ _
theorem Z5i (l : List UInt8) : (J0 .u8 64 (sm l)).toList = bs8 (smb l) := by
  unfold J0 bs8 smb wb
  rw [List.map_map]
  simp only [List.map_inj_left, Function.comp]
  intro j _
  rw [V3c]; rfl
end
end Go.Proofs.YtejkmhgkkibafaaGreatDoor.S8
