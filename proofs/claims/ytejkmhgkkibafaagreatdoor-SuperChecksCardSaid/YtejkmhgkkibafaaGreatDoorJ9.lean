/- Contracts and plain laws that superChecks_holds rests on. Conditions: the variables' cells hold the numbers of the program's text. -/
import Derived.Test.YtejkmhgkkibafaaGreatDoorGc
import Derived.Test.YtejkmhgkkibafaaGreatDoorJ6
import Derived.Test.YtejkmhgkkibafaaGreatDoorJ3
import Derived.Test.YtejkmhgkkibafaaGreatDoorJ8
import Derived.Test.YtejkmhgkkibafaaGreatDoorJ5
open Go.RowKit
set_option linter.unusedSimpArgs false
set_option linter.unusedVariables false
namespace Go.Proofs.YtejkmhgkkibafaaGreatDoor.S8
section
set_option maxHeartbeats 4000000
set_option maxRecDepth 100000
attribute [local irreducible] wpList
theorem Y1x (h : Nat → Int) (l : List UInt8) (u : Value) (hl : 128 ≤ l.length) (w : World) (hs : Sl w u l) (hG : GS w) : Calls Tryz.prog 158 #[.agg (J0 .u64 8 h), u] w fun e w' => K7 (.agg (J0 .u64 8 (prs h (bt l)))) w w' e := by
  obtain ⟨ad, c, rfl, _⟩ := Q4n hs (by omega)
  exact Y04 h l ad c hl w hs hG

theorem V11 (ps : List (List UInt8)) (A : Option Addr) (c : Nat) (F : List UInt8) (hF : ps.flatten = F) (hlen : F.length ≤ 70368744177664) (hpn : ps.length ≤ 9223372036854775000) (w : World) (hps : ∀ i l, ps[i]? = some l → ∃ ad u, A = some ad ∧ w.cell? (ad.add i) = some u ∧ Sl w u l) (hG : GS w) :
  Calls Tryz.prog 125 #[.slice A ps.length c] w fun e w' => K7 (.agg (J0 .u8 64 (sm F))) w w' e := by
 have HG := Lib.hid hG
 have M0 := Lib.hid hps
 clear hG hps
 have ρ := Q2a F
 have T4 := (J95 F.length).2
 have D : Off [] w w := Off.refl _ _
 go_enter Tryz.func125, Tryz.ntmps125
 go_upto_region 0 with fail
 refine wp_region_lit ?_
 refine Ln ?_ (z := J0 .u8 64 (fun _ => 0)) (t := 45)
 intro X5 W1 D9 hO h_
 have M8 := fbn D D9
 replace D := D.o hO
 have G := h_
 clear hO h_ D9
 refine J9 ?_
 go_upto_region 2 with fail
 refine wp_region_lit ?_
 refine Lv ?_
 refine Lv ?_
 refine Lw ?_ (v := .int .i64 0)
 refine J9 ?_
 have J := Q4l W1
 have N : Fr (Value.ownBlock (.slice none 0 0)) w.heap.size [] := Z9s
 have V8 : Value.ownBlock (.slice none 0 0) ≠ some X5 := fun e_ => by cases e_
 go_wp2_with fail
 go_loopw [3, 15] (fun sv ii wr => ∃ (i : Nat) (bv : Value), (i ≤ ps.length) ∧ (bv = sv) ∧ (ii = .int .i64 (i : Int)) ∧ Off [] w wr ∧ Blk wr X5 (J0 .u8 64 (fun _ => 0)) 45 ∧ Own wr bv ((List.take i ps).flatten) ∧ Fr (Value.ownBlock bv) w.heap.size [] ∧ (Value.ownBlock bv) ≠ some X5)
  (fun sv ii _ => ps.length - (intOf ii).toNat)
 case atStart => exact ⟨0, _, Nat.zero_le _, rfl, rfl, D, G, J, N, V8⟩
 case round =>
  obtain ⟨i, bv, hi, rfl, rfl, D, G, J, N, V8⟩ := hrel
  obtain ⟨W2, γ⟩ := J54 D
  subst γ
  by_cases ξ : i < ps.length
  ·
   obtain ⟨l_, Δ⟩ : ∃ l, ps[i]? = some l := ⟨_, List.getElem?_eq_getElem ξ⟩
   obtain ⟨M5, u_, J3, N2, M6⟩ := M0.out i l_ Δ
   have T0 : (List.take i ps).flatten.length + l_.length ≤ F.length := by rw [← hF, ← List.length_append, ← J81 Δ]; exact Q7p _ _
   go_upto_region 3 with fail
   refine wp_region_lit ?_
   refine Lw ?_ (v := .bool true)
   refine J9 ?_
   go_upto_region 4 with fail
   refine wp_region_lit ?_
   refine Lw ?_ (v := .pointer (some (M5.add i))) (hv := Z1j (j := i) ξ rfl (by rw [← J3]; rfl) rfl)
   refine Y5v (by rfl) rfl rfl (J24 N2 D.ext) (by kernel_rfl) ?_
   (try simp only [Act.put, mA, mB, mC])
   refine Lv ?_
   refine J9 ?_
   go_upto_region 5 with fail
   refine wp_region_lit ?_
   refine Lv ?_
   refine Lv ?_
   refine J0z (xs := ((List.take i ps).flatten)) (ys := l_) (by rfl) rfl rfl rfl J (M6.off D f0) (by first | omega | (simp only [List.length_append, List.length_cons, List.length_nil, List.length_replicate]; omega)) ?_
   (try simp only [Act.put, mA, mB, mC])
   intro T8 W3 D8 hO Ψ σ
   clear σ
   have N5 := J4c Ψ V8 (Q2 G)
   have R5 := J4p Ψ N D.size
   replace G := J1q G hO (nmo V8)
   replace D := D.step hO (io N)
   clear hO Ψ
   have J := D8
   clear D8
   have N := R5
   have V8 := N5
   refine Lv ?_
   refine J9 ?_
   go_wp2
   go_roundw
   case rel => exact ⟨i + 1, _, by omega, rfl, by go_num, D, G, (by rw [J81 Δ]; exact J), N, V8⟩
   case measure => simp [intOf]; omega
  obtain rfl : i = ps.length := by omega
  rw [List.take_length, hF] at J
  go_upto_region 3 with fail
  refine wp_region_lit ?_
  refine Lw ?_ (v := .bool false)
  refine J9 ?_
  go_upto_region 7 with fail
  refine wp_region_lit ?_
  refine Lv ?_
  refine J8y (l := F) (J.sl) (by rfl) rfl rfl ?_
  (try simp only [Act.put, mA, mB, mC])
  refine Lw ?_ (v := .int .u64 ((F.length : Nat) : Int)) (hv := by go_simp; (try simp only [IntKind.wrap_u64, IntKind.wrap_i64]); (try omega))
  refine Lw ?_ (v := .int .u64 ((8 * F.length : Nat) : Int)) (hv := by rw [show ((8 * F.length : Nat) : Int) = sl ((F.length : Nat) : Int) 3 from (by unfold sl; rw [IntKind.wrap_u64]; omega)]; exact J2l (n := 3) (by decide) rfl rfl rfl)
  refine Lv ?_
  refine J9 ?_
  go_upto_region 8 with fail
  refine wp_region_lit ?_
  refine Lv ?_
  refine LnS ?_ (z := #[.int .u8 128]) (t := 5) (n := 1) (c := 1)
  intro R4 W3 S1 hO h_
  replace G := G.o hO
  replace J := Own.off J hO f0
  replace D := D.o hO
  have η : Own W3 (.slice (some ⟨R4, 0, none⟩) 1 1) [128] := J3e h_ (by rfl) (by show 1 ≤ maxLen; decide)
  clear hO h_ S1
  refine J0z (xs := F) (ys := [128]) (by rfl) rfl rfl rfl J (η.sl) (by first | omega | (simp only [List.length_append, List.length_cons, List.length_nil, List.length_replicate]; omega)) ?_
  (try simp only [Act.put, mA, mB, mC])
  intro T9 W4 G7 hO Ξ φ
  clear φ
  have R2 := J4c Ξ V8 (Q2 G)
  have N6 := J4p Ξ N D.size
  replace G := J1q G hO (nmo V8)
  replace D := D.step hO (io N)
  clear hO Ξ
  have J := G7
  clear G7
  have N := N6
  have V8 := R2
  refine Lv ?_
  refine J9 ?_
  clear η
  go_wp2_with fail
  go_loopw [3] (fun sv wr => ∃ (k : Nat) (bv : Value), (k ≤ zc F.length) ∧ (bv = sv) ∧ Off [] w wr ∧ Blk wr X5 (J0 .u8 64 (fun _ => 0)) 45 ∧ Own wr bv (F ++ [128] ++ List.replicate k 0) ∧ Fr (Value.ownBlock bv) w.heap.size [] ∧ (Value.ownBlock bv) ≠ some X5)
   (fun sv _ => F.length + 300 - J8c sv)
  case atStart => exact ⟨0, _, Nat.zero_le _, rfl, D, G, (by rw [List.replicate_zero, List.append_nil]; exact J), N, V8⟩
  case round =>
   obtain ⟨k, bv, hk, rfl, D, G, J, N, V8⟩ := hrel
   obtain ⟨W5, γ⟩ := J54 D
   subst γ
   have lb := Z1k J
   by_cases hz : k < zc F.length
   ·
    have S4 := Y4e hz
    go_upto_region 9 with fail
    refine wp_region_lit ?_
    refine Lv ?_
    refine J8y (l := (F ++ [128] ++ List.replicate k 0)) (J.sl) (by rfl) rfl rfl ?_
    (try simp only [Act.put, mA, mB, mC])
    refine Lw ?_ (v := .int .i64 (((F.length + 1 + k) % 128 : Nat) : Int)) (hv := by go_simp; (try simp only [List.length_append, List.length_cons, List.length_nil, List.length_replicate]); rw [Int.tmod_eq_emod_of_nonneg (by omega)]; omega)
    refine Lw ?_ (v := .bool true) (hv := by go_simp; omega)
    refine J9 ?_
    go_upto_region 10 with fail
    refine wp_region_lit ?_
    refine Lv ?_
    refine LnS ?_ (z := #[.int .u8 0]) (t := 5) (n := 1) (c := 1)
    intro R3 W6 N7 hO h_
    replace G := G.o hO
    replace J := Own.off J hO f0
    replace D := D.o hO
    have Γ : Own W6 (.slice (some ⟨R3, 0, none⟩) 1 1) [0] := J3e h_ (by rfl) (by show 1 ≤ maxLen; decide)
    clear hO h_ N7
    refine J0z (xs := (F ++ [128] ++ List.replicate k 0)) (ys := [0]) (by rfl) rfl rfl rfl J (Γ.sl) (by first | omega | (simp only [List.length_append, List.length_cons, List.length_nil, List.length_replicate]; omega)) ?_
    (try simp only [Act.put, mA, mB, mC])
    intro T3 W7 D4 hO χ τ
    clear τ
    have N3 := J4c χ V8 (Q2 G)
    have R0 := J4p χ N D.size
    replace G := J1q G hO (nmo V8)
    replace D := D.step hO (io N)
    clear hO χ
    have J := D4
    clear D4
    have N := R0
    have V8 := N3
    refine Lv ?_
    refine J9 ?_
    have la := Z1k J
    simp only [List.length_append, List.length_cons, List.length_nil, List.length_replicate] at la lb
    go_wp2
    go_roundw
    case rel => exact ⟨k + 1, _, by omega, rfl, D, G, (by rw [List.replicate_succ', ← List.append_assoc]; exact J), N, V8⟩
    case measure => simp only [la, lb]; omega
   obtain rfl : k = zc F.length := by omega
   have S4 := (J95 F.length).1
   go_upto_region 9 with fail
   refine wp_region_lit ?_
   refine Lv ?_
   refine J8y (l := (F ++ [128] ++ List.replicate (zc F.length) 0)) (J.sl) (by rfl) rfl rfl ?_
   (try simp only [Act.put, mA, mB, mC])
   refine Lw ?_ (v := .int .i64 (((F.length + 1 + zc F.length) % 128 : Nat) : Int)) (hv := by go_simp; (try simp only [List.length_append, List.length_cons, List.length_nil, List.length_replicate]); rw [Int.tmod_eq_emod_of_nonneg (by omega)]; omega)
   refine Lw ?_ (v := .bool false) (hv := by first | (go_simp; done) | (go_simp; omega))
   refine J9 ?_
   go_upto_region 11 with fail
   refine wp_region_lit ?_
   refine Lv ?_
   refine Q7q (xs := (F ++ [128] ++ List.replicate (zc F.length) 0)) (m := 8) (by decide) (by rfl) rfl rfl rfl J (by first | omega | (simp only [List.length_append, List.length_cons, List.length_nil, List.length_replicate]; omega)) ?_
   (try simp only [Act.put, mA, mB, mC])
   intro J2 W6 G0 hO ω
   have R6 := J4c ω V8 (Q2 G)
   have J4 := J4p ω N D.size
   replace G := J1q G hO (nmo V8)
   replace D := D.step hO (io N)
   clear hO ω
   have J := G0
   clear G0
   have N := J4
   have V8 := R6
   refine Lv ?_
   refine J9 ?_
   go_wp2_with fail
   refine wp_loop_rounds 9 ?_
   rw [rounds_succ]
   go_upto_region 15 with fail
   refine wp_region_lit ?_
   refine Lv ?_
   refine Lv ?_
   refine Lw ?_ (v := .int .i64 7)
   refine Lw ?_ (v := .int .i64 56)
   refine Lw ?_ (v := .int .u64 (sr ((8 * F.length : Nat) : Int) 56)) (hv := J09 (n := 56) (by decide) rfl rfl rfl)
   refine Lw ?_ (v := .int .u8 ((u8 ((8 * F.length) / 72057594037927936)).toNat : Int)) (hv := by rw [← J32 (8 * F.length) 56 72057594037927936 (by decide)]; exact J27 rfl rfl)
   refine LnS ?_ (z := #[.int .u8 ((u8 ((8 * F.length) / 72057594037927936)).toNat : Int)]) (t := 5) (n := 1) (c := 1)
   intro D7 W7 X hO h_
   have K2 : ∀ x, (Value.ownBlock J2) = some x → Value.ownBlock (.slice (some ⟨D7, 0, none⟩) 1 1) ≠ some x := J8i (Own.lt J) X
   replace G := G.o hO
   replace J := Own.off J hO f0
   replace D := D.o hO
   have M : Own W7 (.slice (some ⟨D7, 0, none⟩) 1 1) [u8 ((8 * F.length) / 72057594037927936)] := J3e h_ (by rfl) (by show 1 ≤ maxLen; decide)
   clear hO h_ X
   refine J0z (xs := ((F ++ [128] ++ List.replicate (zc F.length) 0) ++ List.replicate 8 0)) (ys := [u8 ((8 * F.length) / 72057594037927936)]) (by rfl) rfl rfl rfl J (M.sl) (by first | omega | (simp only [List.length_append, List.length_cons, List.length_nil, List.length_replicate]; omega)) ?_
   (try simp only [Act.put, mA, mB, mC])
   intro N8 W8 V hO S R
   clear R
   have Y := J4c S V8 (Q2 G)
   have α := J9t S K2 (Own.lt M)
   have Z := J4p S N D.size
   replace G := J1q G hO (nmo V8)
   replace M := Own.off M hO (fo K2)
   replace D := D.step hO (io N)
   clear hO S
   have J := V
   clear V
   have N := Z
   have V8 := Y
   have K2 := α
   refine Lv ?_
   refine J9 ?_
   go_wp2_with fail
   rw [rounds_succ]
   go_upto_region 15 with fail
   refine wp_region_lit ?_
   refine Lv ?_
   refine Lv ?_
   refine Lw ?_ (v := .int .i64 6)
   refine Lw ?_ (v := .int .i64 48)
   refine Lw ?_ (v := .int .u64 (sr ((8 * F.length : Nat) : Int) 48)) (hv := J09 (n := 48) (by decide) rfl rfl rfl)
   refine Lw ?_ (v := .int .u8 ((u8 ((8 * F.length) / 281474976710656)).toNat : Int)) (hv := by rw [← J32 (8 * F.length) 48 281474976710656 (by decide)]; exact J27 rfl rfl)
   clear M K2
   refine LnS ?_ (z := #[.int .u8 ((u8 ((8 * F.length) / 281474976710656)).toNat : Int)]) (t := 5) (n := 1) (c := 1)
   intro D2 W9 X hO h_
   have K2 : ∀ x, (Value.ownBlock N8) = some x → Value.ownBlock (.slice (some ⟨D2, 0, none⟩) 1 1) ≠ some x := J8i (Own.lt J) X
   replace G := G.o hO
   replace J := Own.off J hO f0
   replace D := D.o hO
   have M : Own W9 (.slice (some ⟨D2, 0, none⟩) 1 1) [u8 ((8 * F.length) / 281474976710656)] := J3e h_ (by rfl) (by show 1 ≤ maxLen; decide)
   clear hO h_ X
   refine J0z (xs := (((F ++ [128] ++ List.replicate (zc F.length) 0) ++ List.replicate 8 0) ++ [u8 ((8 * F.length) / 72057594037927936)])) (ys := [u8 ((8 * F.length) / 281474976710656)]) (by rfl) rfl rfl rfl J (M.sl) (by first | omega | (simp only [List.length_append, List.length_cons, List.length_nil, List.length_replicate]; omega)) ?_
   (try simp only [Act.put, mA, mB, mC])
   intro N0 T7 V hO S R
   clear R
   have Y := J4c S V8 (Q2 G)
   have α := J9t S K2 (Own.lt M)
   have Z := J4p S N D.size
   replace G := J1q G hO (nmo V8)
   replace M := Own.off M hO (fo K2)
   replace D := D.step hO (io N)
   clear hO S
   have J := V
   clear V
   have N := Z
   have V8 := Y
   have K2 := α
   refine Lv ?_
   refine J9 ?_
   go_wp2_with fail
   rw [rounds_succ]
   go_upto_region 15 with fail
   refine wp_region_lit ?_
   refine Lv ?_
   refine Lv ?_
   refine Lw ?_ (v := .int .i64 5)
   refine Lw ?_ (v := .int .i64 40)
   refine Lw ?_ (v := .int .u64 (sr ((8 * F.length : Nat) : Int) 40)) (hv := J09 (n := 40) (by decide) rfl rfl rfl)
   refine Lw ?_ (v := .int .u8 ((u8 ((8 * F.length) / 1099511627776)).toNat : Int)) (hv := by rw [← J32 (8 * F.length) 40 1099511627776 (by decide)]; exact J27 rfl rfl)
   clear M K2
   refine LnS ?_ (z := #[.int .u8 ((u8 ((8 * F.length) / 1099511627776)).toNat : Int)]) (t := 5) (n := 1) (c := 1)
   intro G5 S2 X hO h_
   have K2 : ∀ x, (Value.ownBlock N0) = some x → Value.ownBlock (.slice (some ⟨G5, 0, none⟩) 1 1) ≠ some x := J8i (Own.lt J) X
   replace G := G.o hO
   replace J := Own.off J hO f0
   replace D := D.o hO
   have M : Own S2 (.slice (some ⟨G5, 0, none⟩) 1 1) [u8 ((8 * F.length) / 1099511627776)] := J3e h_ (by rfl) (by show 1 ≤ maxLen; decide)
   clear hO h_ X
   refine J0z (xs := ((((F ++ [128] ++ List.replicate (zc F.length) 0) ++ List.replicate 8 0) ++ [u8 ((8 * F.length) / 72057594037927936)]) ++ [u8 ((8 * F.length) / 281474976710656)])) (ys := [u8 ((8 * F.length) / 1099511627776)]) (by rfl) rfl rfl rfl J (M.sl) (by first | omega | (simp only [List.length_append, List.length_cons, List.length_nil, List.length_replicate]; omega)) ?_
   (try simp only [Act.put, mA, mB, mC])
   intro S5 S8 V hO S R
   clear R
   have Y := J4c S V8 (Q2 G)
   have α := J9t S K2 (Own.lt M)
   have Z := J4p S N D.size
   replace G := J1q G hO (nmo V8)
   replace M := Own.off M hO (fo K2)
   replace D := D.step hO (io N)
   clear hO S
   have J := V
   clear V
   have N := Z
   have V8 := Y
   have K2 := α
   refine Lv ?_
   refine J9 ?_
   go_wp2_with fail
   rw [rounds_succ]
   go_upto_region 15 with fail
   refine wp_region_lit ?_
   refine Lv ?_
   refine Lv ?_
   refine Lw ?_ (v := .int .i64 4)
   refine Lw ?_ (v := .int .i64 32)
   refine Lw ?_ (v := .int .u64 (sr ((8 * F.length : Nat) : Int) 32)) (hv := J09 (n := 32) (by decide) rfl rfl rfl)
   refine Lw ?_ (v := .int .u8 ((u8 ((8 * F.length) / 4294967296)).toNat : Int)) (hv := by rw [← J32 (8 * F.length) 32 4294967296 (by decide)]; exact J27 rfl rfl)
   clear M K2
   refine LnS ?_ (z := #[.int .u8 ((u8 ((8 * F.length) / 4294967296)).toNat : Int)]) (t := 5) (n := 1) (c := 1)
   intro G3 J6 X hO h_
   have K2 : ∀ x, (Value.ownBlock S5) = some x → Value.ownBlock (.slice (some ⟨G3, 0, none⟩) 1 1) ≠ some x := J8i (Own.lt J) X
   replace G := G.o hO
   replace J := Own.off J hO f0
   replace D := D.o hO
   have M : Own J6 (.slice (some ⟨G3, 0, none⟩) 1 1) [u8 ((8 * F.length) / 4294967296)] := J3e h_ (by rfl) (by show 1 ≤ maxLen; decide)
   clear hO h_ X
   refine J0z (xs := (((((F ++ [128] ++ List.replicate (zc F.length) 0) ++ List.replicate 8 0) ++ [u8 ((8 * F.length) / 72057594037927936)]) ++ [u8 ((8 * F.length) / 281474976710656)]) ++ [u8 ((8 * F.length) / 1099511627776)])) (ys := [u8 ((8 * F.length) / 4294967296)]) (by rfl) rfl rfl rfl J (M.sl) (by first | omega | (simp only [List.length_append, List.length_cons, List.length_nil, List.length_replicate]; omega)) ?_
   (try simp only [Act.put, mA, mB, mC])
   intro S6 T2 V hO S R
   clear R
   have Y := J4c S V8 (Q2 G)
   have α := J9t S K2 (Own.lt M)
   have Z := J4p S N D.size
   replace G := J1q G hO (nmo V8)
   replace M := Own.off M hO (fo K2)
   replace D := D.step hO (io N)
   clear hO S
   have J := V
   clear V
   have N := Z
   have V8 := Y
   have K2 := α
   refine Lv ?_
   refine J9 ?_
   go_wp2_with fail
   rw [rounds_succ]
   go_upto_region 15 with fail
   refine wp_region_lit ?_
   refine Lv ?_
   refine Lv ?_
   refine Lw ?_ (v := .int .i64 3)
   refine Lw ?_ (v := .int .i64 24)
   refine Lw ?_ (v := .int .u64 (sr ((8 * F.length : Nat) : Int) 24)) (hv := J09 (n := 24) (by decide) rfl rfl rfl)
   refine Lw ?_ (v := .int .u8 ((u8 ((8 * F.length) / 16777216)).toNat : Int)) (hv := by rw [← J32 (8 * F.length) 24 16777216 (by decide)]; exact J27 rfl rfl)
   clear M K2
   refine LnS ?_ (z := #[.int .u8 ((u8 ((8 * F.length) / 16777216)).toNat : Int)]) (t := 5) (n := 1) (c := 1)
   intro G6 M7 X hO h_
   have K2 : ∀ x, (Value.ownBlock S6) = some x → Value.ownBlock (.slice (some ⟨G6, 0, none⟩) 1 1) ≠ some x := J8i (Own.lt J) X
   replace G := G.o hO
   replace J := Own.off J hO f0
   replace D := D.o hO
   have M : Own M7 (.slice (some ⟨G6, 0, none⟩) 1 1) [u8 ((8 * F.length) / 16777216)] := J3e h_ (by rfl) (by show 1 ≤ maxLen; decide)
   clear hO h_ X
   refine J0z (xs := ((((((F ++ [128] ++ List.replicate (zc F.length) 0) ++ List.replicate 8 0) ++ [u8 ((8 * F.length) / 72057594037927936)]) ++ [u8 ((8 * F.length) / 281474976710656)]) ++ [u8 ((8 * F.length) / 1099511627776)]) ++ [u8 ((8 * F.length) / 4294967296)])) (ys := [u8 ((8 * F.length) / 16777216)]) (by rfl) rfl rfl rfl J (M.sl) (by first | omega | (simp only [List.length_append, List.length_cons, List.length_nil, List.length_replicate]; omega)) ?_
   (try simp only [Act.put, mA, mB, mC])
   intro N9 T6 V hO S R
   clear R
   have Y := J4c S V8 (Q2 G)
   have α := J9t S K2 (Own.lt M)
   have Z := J4p S N D.size
   replace G := J1q G hO (nmo V8)
   replace M := Own.off M hO (fo K2)
   replace D := D.step hO (io N)
   clear hO S
   have J := V
   clear V
   have N := Z
   have V8 := Y
   have K2 := α
   refine Lv ?_
   refine J9 ?_
   go_wp2_with fail
   rw [rounds_succ]
   go_upto_region 15 with fail
   refine wp_region_lit ?_
   refine Lv ?_
   refine Lv ?_
   refine Lw ?_ (v := .int .i64 2)
   refine Lw ?_ (v := .int .i64 16)
   refine Lw ?_ (v := .int .u64 (sr ((8 * F.length : Nat) : Int) 16)) (hv := J09 (n := 16) (by decide) rfl rfl rfl)
   refine Lw ?_ (v := .int .u8 ((u8 ((8 * F.length) / 65536)).toNat : Int)) (hv := by rw [← J32 (8 * F.length) 16 65536 (by decide)]; exact J27 rfl rfl)
   clear M K2
   refine LnS ?_ (z := #[.int .u8 ((u8 ((8 * F.length) / 65536)).toNat : Int)]) (t := 5) (n := 1) (c := 1)
   intro D6 R9 X hO h_
   have K2 : ∀ x, (Value.ownBlock N9) = some x → Value.ownBlock (.slice (some ⟨D6, 0, none⟩) 1 1) ≠ some x := J8i (Own.lt J) X
   replace G := G.o hO
   replace J := Own.off J hO f0
   replace D := D.o hO
   have M : Own R9 (.slice (some ⟨D6, 0, none⟩) 1 1) [u8 ((8 * F.length) / 65536)] := J3e h_ (by rfl) (by show 1 ≤ maxLen; decide)
   clear hO h_ X
   refine J0z (xs := (((((((F ++ [128] ++ List.replicate (zc F.length) 0) ++ List.replicate 8 0) ++ [u8 ((8 * F.length) / 72057594037927936)]) ++ [u8 ((8 * F.length) / 281474976710656)]) ++ [u8 ((8 * F.length) / 1099511627776)]) ++ [u8 ((8 * F.length) / 4294967296)]) ++ [u8 ((8 * F.length) / 16777216)])) (ys := [u8 ((8 * F.length) / 65536)]) (by rfl) rfl rfl rfl J (M.sl) (by first | omega | (simp only [List.length_append, List.length_cons, List.length_nil, List.length_replicate]; omega)) ?_
   (try simp only [Act.put, mA, mB, mC])
   intro N4 T1 V hO S R
   clear R
   have Y := J4c S V8 (Q2 G)
   have α := J9t S K2 (Own.lt M)
   have Z := J4p S N D.size
   replace G := J1q G hO (nmo V8)
   replace M := Own.off M hO (fo K2)
   replace D := D.step hO (io N)
   clear hO S
   have J := V
   clear V
   have N := Z
   have V8 := Y
   have K2 := α
   refine Lv ?_
   refine J9 ?_
   go_wp2_with fail
   rw [rounds_succ]
   go_upto_region 15 with fail
   refine wp_region_lit ?_
   refine Lv ?_
   refine Lv ?_
   refine Lw ?_ (v := .int .i64 1)
   refine Lw ?_ (v := .int .i64 8)
   refine Lw ?_ (v := .int .u64 (sr ((8 * F.length : Nat) : Int) 8)) (hv := J09 (n := 8) (by decide) rfl rfl rfl)
   refine Lw ?_ (v := .int .u8 ((u8 ((8 * F.length) / 256)).toNat : Int)) (hv := by rw [← J32 (8 * F.length) 8 256 (by decide)]; exact J27 rfl rfl)
   clear M K2
   refine LnS ?_ (z := #[.int .u8 ((u8 ((8 * F.length) / 256)).toNat : Int)]) (t := 5) (n := 1) (c := 1)
   intro G1 J8 X hO h_
   have K2 : ∀ x, (Value.ownBlock N4) = some x → Value.ownBlock (.slice (some ⟨G1, 0, none⟩) 1 1) ≠ some x := J8i (Own.lt J) X
   replace G := G.o hO
   replace J := Own.off J hO f0
   replace D := D.o hO
   have M : Own J8 (.slice (some ⟨G1, 0, none⟩) 1 1) [u8 ((8 * F.length) / 256)] := J3e h_ (by rfl) (by show 1 ≤ maxLen; decide)
   clear hO h_ X
   refine J0z (xs := ((((((((F ++ [128] ++ List.replicate (zc F.length) 0) ++ List.replicate 8 0) ++ [u8 ((8 * F.length) / 72057594037927936)]) ++ [u8 ((8 * F.length) / 281474976710656)]) ++ [u8 ((8 * F.length) / 1099511627776)]) ++ [u8 ((8 * F.length) / 4294967296)]) ++ [u8 ((8 * F.length) / 16777216)]) ++ [u8 ((8 * F.length) / 65536)])) (ys := [u8 ((8 * F.length) / 256)]) (by rfl) rfl rfl rfl J (M.sl) (by first | omega | (simp only [List.length_append, List.length_cons, List.length_nil, List.length_replicate]; omega)) ?_
   (try simp only [Act.put, mA, mB, mC])
   intro S7 T5 V hO S R
   clear R
   have Y := J4c S V8 (Q2 G)
   have Z := J4p S N D.size
   replace G := J1q G hO (nmo V8)
   replace M := Own.off M hO (fo K2)
   replace D := D.step hO (io N)
   clear hO S
   have J := V
   clear V
   have N := Z
   have V8 := Y
   refine Lv ?_
   refine J9 ?_
   go_wp2_with fail
   rw [rounds_succ]
   go_upto_region 15 with fail
   refine wp_region_lit ?_
   refine Lv ?_
   refine Lv ?_
   refine Lw ?_ (v := .int .i64 0)
   refine Lw ?_ (v := .int .i64 0)
   refine Lw ?_ (v := .int .u64 (sr ((8 * F.length : Nat) : Int) 0)) (hv := J09 (n := 0) (by decide) rfl rfl rfl)
   refine Lw ?_ (v := .int .u8 ((u8 (8 * F.length)).toNat : Int)) (hv := by rw [← Z1l (8 * F.length)]; exact J27 rfl rfl)
   clear M K2
   refine LnS ?_ (z := #[.int .u8 ((u8 (8 * F.length)).toNat : Int)]) (t := 5) (n := 1) (c := 1)
   intro N1 J7 X hO h_
   replace G := G.o hO
   replace J := Own.off J hO f0
   replace D := D.o hO
   have M : Own J7 (.slice (some ⟨N1, 0, none⟩) 1 1) [u8 (8 * F.length)] := J3e h_ (by rfl) (by show 1 ≤ maxLen; decide)
   clear hO h_ X
   refine J0z (xs := (((((((((F ++ [128] ++ List.replicate (zc F.length) 0) ++ List.replicate 8 0) ++ [u8 ((8 * F.length) / 72057594037927936)]) ++ [u8 ((8 * F.length) / 281474976710656)]) ++ [u8 ((8 * F.length) / 1099511627776)]) ++ [u8 ((8 * F.length) / 4294967296)]) ++ [u8 ((8 * F.length) / 16777216)]) ++ [u8 ((8 * F.length) / 65536)]) ++ [u8 ((8 * F.length) / 256)])) (ys := [u8 (8 * F.length)]) (by rfl) rfl rfl rfl J (M.sl) (by first | omega | (simp only [List.length_append, List.length_cons, List.length_nil, List.length_replicate]; omega)) ?_
   (try simp only [Act.put, mA, mB, mC])
   intro Ω S9 V hO S R
   clear R
   have Y := J4c S V8 (Q2 G)
   replace G := J1q G hO (nmo V8)
   replace D := D.step hO (io N)
   clear hO S
   have J := V
   clear V
   have V8 := Y
   refine Lv ?_
   refine J9 ?_
   go_wp2_with fail
   rw [rounds_succ]
   go_upto_region 16 with fail
   refine wp_region_lit ?_
   refine Z0e (by rfl) rfl rfl ((Q4q HG.out D.ext).2) (by kernel_rfl) (by rw [J1]; kernel_rfl) ?_
   (try simp only [Act.put, mA, mB, mC])
   refine LnP ?_ (z := J0 .u64 8 (fun _ => 0)) (t := 186) (cells := J0 .u64 8 hf) (hi := by rw [J1]; kernel_rfl) (hs := by rw [J1, J1]) (h1 := by exact Z9 _ _ _)
   intro δ R8 ν hO h_
   have M3 := bn G ν
   have G8 := J72 (Own.lt J) ν
   have R7 := fbn D ν
   replace G := G.o hO
   replace J := Own.off J hO f0
   replace D := D.o hO
   have T := h_
   clear hO h_ ν
   refine J9 ?_
   clear M K2
   rw [Z1n] at J
   have U : Sl R8 Ω (List.drop (128 * 0) (Z3 F)) := Z3f J
   have ζ : sb Ω (List.drop (128 * 0) (Z3 F)) ≠ some X5 := Y4a V8
   have ε : sb Ω (List.drop (128 * 0) (Z3 F)) ≠ some δ := Y4a G8
   clear J N V8 G8
   go_wp2_with fail
   go_loopw [3] (fun sv wr => ∃ (j : Nat) (u : Value), (j ≤ nb F.length) ∧ (u = sv) ∧ Off [] w wr ∧ Blk wr X5 (J0 .u8 64 (fun _ => 0)) 45 ∧ Blk wr δ (J0 .u64 8 (Hs (Z3 F) j)) 186 ∧ Sl wr u (List.drop (128 * j) (Z3 F)) ∧ (sb u (List.drop (128 * j) (Z3 F))) ≠ some X5 ∧ (sb u (List.drop (128 * j) (Z3 F))) ≠ some δ)
    (fun sv _ => J8c sv)
   case atStart => exact ⟨0, _, Nat.zero_le _, rfl, D, G, T, U, ζ, ε⟩
   case round =>
    obtain ⟨j, u, hj, rfl, D, G, T, U, ζ, ε⟩ := hrel
    obtain ⟨M1, γ⟩ := J54 D
    subst γ
    have lb := J5k U
    by_cases G9 : j < nb F.length
    ·
     have κ : 128 ≤ (List.drop (128 * j) (Z3 F)).length := by rw [List.length_drop, ρ]; omega
     go_upto_region 17 with fail
     refine wp_region_lit ?_
     refine Lv ?_
     refine J8y (l := (List.drop (128 * j) (Z3 F))) U (by rfl) rfl rfl ?_
     (try simp only [Act.put, mA, mB, mC])
     refine Lw ?_ (v := .bool true) (hv := by go_simp; (try simp only [List.length_drop, ρ]); omega)
     refine J9 ?_
     go_upto_region 19 with fail
     refine wp_region_lit ?_
     refine L0A ?_ T
     refine Lv ?_
     refine Lr ?_ (Y1x (Hs (Z3 F) j) (List.drop (128 * j) (Z3 F)) u κ M1 U (Q4q HG.out D.ext))
     intro S0 hO
     replace G := G.o hO
     replace T := T.o hO
     replace U := Sl.off U hO f0
     replace D := D.o hO
     clear hO
     refine Lp ?_ T (cells := J0 .u64 8 (prs (Hs (Z3 F) j) (bt (List.drop (128 * j) (Z3 F))))) (hi := by rw [J1]; kernel_rfl) (hs := by rw [J1, J1]) (h1 := by exact Z9 _ _ _)
     intro D3 hO h_
     replace T : Blk D3 δ (J0 .u64 8 (prs (Hs (Z3 F) j) (bt (List.drop (128 * j) (Z3 F))))) 186 := h_
     clear h_
     replace G := G.p hO M3
     replace U := Sl.off U hO (f1 ε)
     replace D := D.p hO R7
     clear hO
     refine J9 ?_
     go_upto_region 18 with fail
     refine wp_region_lit ?_
     refine Lv ?_
     refine Z5b (n := 128) U (by exact κ) (by rfl) rfl rfl rfl ?_
     (try simp only [Act.put, mA, mB, mC])
     intro G4 Θ D1
     have G2 : sb G4 (List.drop 128 (List.drop (128 * j) (Z3 F))) ≠ some X5 := Z59 D1 ζ
     have D5 : sb G4 (List.drop 128 (List.drop (128 * j) (Z3 F))) ≠ some δ := Z59 D1 ε
     refine Lv ?_
     refine J9 ?_
     clear U ζ ε
     rw [Q01] at Θ
     rw [Q01] at G2
     rw [Q01] at D5
     have U := Θ
     clear Θ
     have ζ := G2
     have ε := D5
     have la := J5k U
     simp only [List.length_drop, ρ] at la lb
     go_wp2
     go_roundw
     case rel => exact ⟨j + 1, _, by omega, rfl, D, G, T, U, ζ, ε⟩
     case measure => simp only [la, lb]; omega
    obtain rfl : j = nb F.length := by omega
    go_upto_region 17 with fail
    refine wp_region_lit ?_
    refine Lv ?_
    refine J8y (l := (List.drop (128 * nb F.length) (Z3 F))) U (by rfl) rfl rfl ?_
    (try simp only [Act.put, mA, mB, mC])
    refine Lw ?_ (v := .bool false) (hv := by first | (go_simp; done) | (go_simp; (try simp only [List.length_drop, ρ]); omega))
    refine J9 ?_
    go_upto_region 20 with fail
    refine wp_region_lit ?_
    refine Ln ?_ (z := J0 .u8 64 (fun _ => 0)) (t := 45)
    intro μ S0 θ hO h_
    have M2 := bn G θ
    have S3 := bn T θ
    have M4 := J72 (Sl.lt U) θ
    have R1 := fbn D θ
    replace G := G.o hO
    replace T := T.o hO
    replace U := Sl.off U hO f0
    replace D := D.o hO
    have β := h_
    clear hO h_ θ
    refine J9 ?_
    go_upto_region 21 with fail
    refine wp_region_lit ?_
    refine L0A ?_ T
    refine Lw ?_ (v := .int .i64 0)
    refine J9 ?_
    go_wp2_with fail
    go_loopw [61] (fun ii wr => ∃ (i : Nat), (i ≤ 8) ∧ (ii = .int .i64 (i : Int)) ∧ Off [] w wr ∧ Blk wr X5 (J0 .u8 64 (fun _ => 0)) 45 ∧ Blk wr δ (J0 .u64 8 (Hs (Z3 F) (nb F.length))) 186 ∧ Blk wr μ (J0 .u8 64 (Q3e (Hs (Z3 F) (nb F.length)) (8 * i))) 45 ∧ Sl wr u (List.drop (128 * nb F.length) (Z3 F)))
     (fun ii _ => 8 - (intOf ii).toNat)
    case atStart => exact ⟨0, Nat.zero_le _, rfl, D, G, T, (by rw [Nat.mul_zero, Z3d]; exact β), U⟩
    case round =>
     obtain ⟨i, hi, rfl, D, G, T, β, U⟩ := hrel
     obtain ⟨D3, γ⟩ := J54 D
     subst γ
     by_cases h8 : i < 8
     ·
      go_upto_region 22 with fail
      refine wp_region_lit ?_
      refine Lw ?_ (v := .bool true)
      refine J9 ?_
      go_upto_region 23 with fail
      refine wp_region_lit ?_
      refine Lv ?_
      refine Lw ?_ (v := .int .u64 (Hs (Z3 F) (nb F.length) i)) (hv := Q5z (m := 8) h8 Tryz.underlying186 (by kernel_rfl) Y20 rfl rfl rfl)
      refine Lv ?_
      refine Lv ?_
      refine J9 ?_
      go_wp2_with fail
      go_loopw [65] (fun jj wr => ∃ (k : Nat), (k ≤ 8) ∧ (jj = .int .i64 (k : Int)) ∧ Off [] w wr ∧ Blk wr X5 (J0 .u8 64 (fun _ => 0)) 45 ∧ Blk wr δ (J0 .u64 8 (Hs (Z3 F) (nb F.length))) 186 ∧ Blk wr μ (J0 .u8 64 (Q3e (Hs (Z3 F) (nb F.length)) (8 * i + k))) 45 ∧ Sl wr u (List.drop (128 * nb F.length) (Z3 F)))
       (fun jj _ => 8 - (intOf jj).toNat)
      case atStart => exact ⟨0, Nat.zero_le _, rfl, D, G, T, β, U⟩
      case round =>
       obtain ⟨k, hk, rfl, D, G, T, β, U⟩ := hrel
       obtain ⟨D0, γ⟩ := J54 D
       subst γ
       by_cases ψ : k < 8
       ·
        go_upto_region 25 with fail
        refine wp_region_lit ?_
        refine Lw ?_ (v := .bool true)
        refine J9 ?_
        go_upto_region 27 with fail
        refine wp_region_lit ?_
        refine Lv ?_
        refine Lw ?_ (v := .int .i64 (((8 * i : Nat) : Int))) (hv := by go_simp; (try simp only [IntKind.wrap_u64, IntKind.wrap_i64]); (try omega))
        refine Lv ?_
        refine Lw ?_ (v := .int .i64 (((8 * i + k : Nat) : Int))) (hv := by go_simp; (try simp only [IntKind.wrap_u64, IntKind.wrap_i64]); (try omega))
        refine Lv ?_
        refine Lv ?_
        refine Lw ?_ (v := .int .i64 (((7 - k : Nat) : Int))) (hv := by go_simp; (try simp only [IntKind.wrap_u64, IntKind.wrap_i64]); (try omega))
        refine Lw ?_ (v := .int .i64 (((8 * (7 - k) : Nat) : Int))) (hv := by go_simp; (try simp only [IntKind.wrap_u64, IntKind.wrap_i64]); (try omega))
        refine Lw ?_ (v := .int .u64 (sr (Hs (Z3 F) (nb F.length) i) (8 * (7 - k)))) (hv := J09 (n := 8 * (7 - k)) (by omega) rfl rfl rfl)
        refine Lw ?_ (v := .int .u8 (w8 (sr (Hs (Z3 F) (nb F.length) i) (8 * (7 - k))))) (hv := by exact J27 rfl rfl)
        refine Lw ?_ (v := .pointer (some ⟨μ, 0 + (8 * i + k), none⟩)) (hv := J5 (m := 64) (by decide) (by omega) Tryz.underlying45 (by kernel_rfl) rfl rfl rfl)
        refine J42 (v := .int .u8 (w8 (sr (Hs (Z3 F) (nb F.length) i) (8 * (7 - k))))) ⟨rfl, rfl⟩ (by rfl) rfl rfl rfl β (by rw [J1, Nat.zero_add]; omega) (by kernel_rfl) ?_
        (try simp only [Act.put, mA, mB, mC])
        intro M9 hO h_
        rw [Nat.zero_add, V4] at h_
        replace β : Blk M9 μ (J0 .u8 64 (upd (Q3e (Hs (Z3 F) (nb F.length)) (8 * i + k)) (8 * i + k) (w8 (sr (Hs (Z3 F) (nb F.length) i) (8 * (7 - k)))))) 45 := h_
        clear h_
        replace G := G.p hO M2
        replace T := T.p hO S3
        replace U := Sl.off U hO (f1 M4)
        replace D := D.p hO R1
        clear hO
        refine J9 ?_
        go_wp2
        go_roundw
        case rel => exact ⟨k + 1, by omega, by go_num, D, G, T, (by rw [← Z3e _ _ _ ψ]; exact β), U⟩
        case measure => simp [intOf]; omega
       obtain rfl : k = 8 := by omega
       go_upto_region 25 with fail
       refine wp_region_lit ?_
       refine Lw ?_ (v := .bool false)
       refine J9 ?_
       go_wp2
       go_roundw
       case rel => exact ⟨i + 1, by omega, by go_num, D, G, T, (by rw [show 8 * (i + 1) = 8 * i + 8 by omega]; exact β), U⟩
       case measure => simp [intOf]; omega
     obtain rfl : i = 8 := by omega
     rw [show 8 * 8 = 64 by rfl, Z72] at β
     go_upto_region 22 with fail
     refine wp_region_lit ?_
     refine Lw ?_ (v := .bool false)
     refine J9 ?_
     go_upto_region 30 with fail
     refine wp_region_lit ?_
     refine L0A ?_ β
     refine Lp ?_ G (cells := J0 .u8 64 (ob (Hs (Z3 F) (nb F.length)))) (hi := by rw [J1]; kernel_rfl) (hs := by rw [J1, J1]) (h1 := by exact Z9 _ _ _)
     intro D0 hO h_
     replace G : Blk D0 X5 (J0 .u8 64 (ob (Hs (Z3 F) (nb F.length)))) 45 := h_
     clear h_
     replace D := D.p hO M8
     clear hO
     refine J9 ?_
     go_wp2
     refine bodyPost_ret (Z6 rfl rfl G (by kernel_rfl) (by rw [J1]; kernel_rfl)) rfl ⟨rfl, D.ext⟩
end

section
end

section
def GR (w : World) : Prop := Rd w 3 (J0 .u64 80 kf) ∧ Rd w 2 (J0 .u64 8 hf)
theorem GR_ext {w W : World} (h : GR w) (e : Ext w W) : GR W := ⟨h.1.ext e, h.2.ext e⟩
def rst (b : Nat → Int) (i : Nat) : Nat → Int := if i < 16 then fst b (8 * i) else Z5 b i
theorem Q8q {b : Nat → Int} {i : Nat} (h : i < 16) : rst b i = fst b (8 * i) := if_pos h
theorem Q52 {b : Nat → Int} {i : Nat} (h : 16 ≤ i) : rst b i = Z5 b i := if_neg (by omega)
theorem Z5y {b : Nat → Int} {i : Nat} (h : i < 16) : fst b (8 * i + 8) = rst b (i + 1) := by
  by_cases h2 : i + 1 < 16
  · rw [Q8q h2]; rfl
  obtain rfl : i = 15 := by omega
  rw [Q52 (by omega)]
  exact Z0m b
theorem Z5x (P : List UInt8) (n i k : Nat) (hi : i < 16) (hk : k < 8) : upd (fst (bt (P.drop n)) (8 * i + k)) i (oo (sl (fst (bt (P.drop n)) (8 * i + k) i) 8) (bt P (n + 8 * i + k))) = fst (bt (P.drop n)) (8 * i + (k + 1)) := by
  have h := Q6v (bt (P.drop n)) (8 * i + k)
  rw [show (8 * i + k) / 8 = i by omega, Y1i, ← Nat.add_assoc] at h
  exact h
def bo (H : Nat → Int) (j : Nat) : UInt8 := u8 (ob H j).toNat
theorem Y54 (H : Nat → Int) (j : Nat) : ((bo H j).toNat : Int) = ob H j := by
  have := Y48 (sr (H (j / 8)) (8 * (7 - j % 8)))
  unfold bo
  rw [J8r]
  unfold ob
  omega
theorem Y0c (H : Nat → Int) (i k : Nat) (hk : k < 8) : w8 (sr (H i) (8 * (7 - k))) = ((bo H (8 * i + k)).toNat : Int) := by
  rw [Y54]
  unfold ob
  rw [show (8 * i + k) / 8 = i by omega, show (8 * i + k) % 8 = k by omega]
def wb (H : Nat → Int) (n : Nat) : List UInt8 := (List.range n).map (bo H)
theorem J3s (H : Nat → Int) (n : Nat) : (wb H n).length = n := by simp [wb]
def smb (l : List UInt8) : List UInt8 := wb (Hs (Z3 l) (nb l.length)) 64
theorem Q2q (l : List UInt8) : (smb l).length = 64 := J3s _ _
theorem Z3g (l : List UInt8) : (J0 .u8 64 (sm l)).toList = bs8 (smb l) := by
  unfold J0 bs8 smb wb
  rw [List.map_map]
  simp only [List.map_inj_left, Function.comp]
  intro j _
  rw [Y54]; rfl
end
end Go.Proofs.YtejkmhgkkibafaaGreatDoor.S8

namespace Go.Proofs.YtejkmhgkkibafaaGreatDoor
theorem Q73 {P : Program} {ops : Array Oper} {w : World} {E E' : Act → Prop} (h : ∀ a, E a → E' a) : ∀ (l : List Oper) (a : Act), wpX P ops w E l a → wpX P ops w E' l a
  | [], a, x => h a x
  | _ :: l, _, ⟨v, hy, hk⟩ => ⟨v, hy, Q73 h l _ hk⟩
def nws (xs : List NewOp) (β : Nat → Nat) : List As := xs.map fun x => .b (β x.i) x.z x.t
theorem SH.news {F : List Nat} {w W W' : World} {H : List As} {β : Nat → Nat} (h : SH F w W H) (q : Ext W W') : ∀ (xs : List NewOp), (∀ x ∈ xs, W.heap.size ≤ β x.i ∧ Blk W' (β x.i) x.z x.t) → xs.Pairwise (fun x y => β x.i ≠ β y.i) → (∀ x ∈ xs, H.all (SH.tyOk (.b 0 x.z x.t)) = true) → SH F w W' (nws xs β ++ H)
  | [], _, _, _ => h.grow q
  | x :: xs, hb, hd, ht => by
    have h1 := SH.news h q xs (fun y hy => hb y (by simp [hy])) (List.pairwise_cons.1 hd).2 (fun y hy => ht y (by simp [hy]))
    have hx := hb x (by simp)
    have h2 : SH F w W' (.b (β x.i) x.z x.t :: H) := h.new (x := .b (β x.i) x.z x.t) (J0d q) hx.2 (fun k hk => by rw [List.mem_singleton.1 hk]; exact hx.1) rfl (ht x (by simp))
    have hn := (List.pairwise_cons.1 hd).1
    show SH F w W' (.b (β x.i) x.z x.t :: (nws xs β ++ H))
    refine ⟨h1.off, fun y hy => ?_, List.pairwise_cons.2 ⟨fun y hy => ?_, h1.ap⟩, fun y hy hm k hk hlt => ?_⟩
    · rcases List.mem_cons.1 hy with rfl | hy
      · exact hx.2
      · exact h1.all y hy
    · rcases List.mem_append.1 hy with hy | hy
      · obtain ⟨z, hz, rfl⟩ := List.mem_map.1 hy
        have hne := hn z hz
        exact ⟨fun _ k hk hk' => hne ((List.mem_singleton.1 hk).symm.trans (List.mem_singleton.1 hk')), fun _ k hk hk' => hne ((List.mem_singleton.1 hk').symm.trans (List.mem_singleton.1 hk))⟩
      · exact (List.pairwise_cons.1 h2.ap).1 y hy
    · rcases List.mem_cons.1 hy with rfl | hy
      · have := hx.1; have := h.size; rw [List.mem_singleton.1 hk] at hlt; omega
      · exact h1.old y hy hm k hk hlt
section
variable {P : Program} {Q : Exit → Act → World → Prop} {F : List Nat} {w : World} {H : List As} {l : List Oper} {a a' : Act}
theorem RXn {id : Nat} {W : World} {l1 l2 : List Oper} (m : Nat) (xs : List NewOp) (hS : SH F w W H)
    (h : wpM P l.toArray (.X (fun a1 W1 => ∀ (β : Nat → Nat) (W' : World), Ext W1 W' → (∀ x ∈ xs, W1.heap.size ≤ β x.i ∧ Blk W' (β x.i) x.z x.t) → (∀ x ∈ xs, ∀ y ∈ xs, x.i ≠ y.i → β x.i ≠ β y.i) → wpList P l.toArray (NoPanic Q) l2 (J05 xs β a1) W')) F w H l1 a')
    (hok : ∀ x ∈ xs, Q1r P l.toArray x) (hm : P.follows .mixedOrders = true := by as_aux_lemma => kernel_rfl)
    (hB : (Region.noSelect l.toArray && Q0k .any l.toArray (m + xs.length) m 0 (Array.replicate l.length false) && decide (m + xs.length ≤ l.length) && decide (xs.map (·.i)).Nodup && decide (xs.map (·.d)).Nodup && xs.all (fun x => decide (x.i < m + xs.length)) &&
      Q1s .any l.toArray (X4 (m + xs.length) 0 (Array.replicate l.length false)) xs.length (xs.map (·.i)) (X4 m 0 (Array.replicate l.length false)) &&
      (Region.ready .any l.toArray (X4 (m + xs.length) 0 (Array.replicate l.length false))).all (fun j => decide (m + xs.length ≤ j)) &&
      Region.seqB .any l.toArray (l.length - (m + xs.length)) (m + xs.length) (X4 (m + xs.length) 0 (Array.replicate l.length false))) = true := by as_aux_lemma => kernel_rfl)
    (h1 : l.take m = l1 := by (try simp only [List.append, List.take_succ_cons, List.take_zero, List.take_nil]); exact rfl) (h2 : l.drop (m + xs.length) = l2 := by (try simp only [List.append, List.length_cons, List.length_nil, List.drop_succ_cons, List.drop_zero, List.drop_nil]); exact rfl)
    (hp : a = a' := by (try simp only [Act.put, mA, mB, mC]); exact rfl) : (Code.region id l.toArray true).wp P Q a W := by
  subst hp h1 h2
  exact J14 m xs hm hok hB (Q73 (fun a1 h3 β W' h4 h5 h6 => h3 W (Below.refl _ _) β W' h4 h5 h6) _ _ (h W hS))
theorem MZB {ops ops2 : Array Oper} {l2 : List Oper} {xs : List NewOp} {H' : (Nat → Nat) → List As} {a2 : (Nat → Nat) → Act} (h : ∀ β, wpM P ops2 (.L Q) F w (H' β) l2 (a2 β)) (hnd : (xs.map (·.i)).Nodup := by decide) (ht : ∀ x ∈ xs, H.all (SH.tyOk (.b 0 x.z x.t)) = true := by (intro x hx; simp only [List.mem_cons, List.not_mem_nil, or_false] at hx; rcases hx with rfl | rfl | rfl | rfl <;> rfl))
    (hH : ∀ β, nws xs β ++ H = H' β := by exact fun _ => rfl) (hp : ∀ β, J05 xs β a = a2 β := by (intro β; dsimp only [J05, Act.put, mA, mB, mC]; first | done | exact rfl)) :
    wpM P ops (.X (fun a1 W1 => ∀ (β : Nat → Nat) (W' : World), Ext W1 W' → (∀ x ∈ xs, W1.heap.size ≤ β x.i ∧ Blk W' (β x.i) x.z x.t) → (∀ x ∈ xs, ∀ y ∈ xs, x.i ≠ y.i → β x.i ≠ β y.i) → wpList P ops2 Q l2 (J05 xs β a1) W')) F w H [] a := fun W hS => V7 fun W1 h1 β W' h2 h3 h4 => by
  rw [hp β]
  refine h β W' ?_
  rw [← hH β]
  refine (hS.grow h1).news h2 xs h3 ?_ ht
  have : xs.Pairwise fun x y => x.i ≠ y.i := by
    have := List.pairwise_map.1 hnd
    exact this
  exact List.Pairwise.imp_of_mem (fun hx hy D => h4 _ hx _ hy D) this
end
end Go.Proofs.YtejkmhgkkibafaaGreatDoor
