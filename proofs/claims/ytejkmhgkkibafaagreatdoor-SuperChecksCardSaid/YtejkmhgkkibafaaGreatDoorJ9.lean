/- Contracts and plain laws that superChecks_holds rests on. Conditions: the variables' cells hold the numbers of the program's text. -/
import Derived.Test.YtejkmhgkkibafaaGreatDoorGc
import Derived.Test.YtejkmhgkkibafaaGreatDoorJ6
import Derived.Test.YtejkmhgkkibafaaGreatDoorJ3
import Derived.Test.YtejkmhgkkibafaaGreatDoorJ8
open Go.RowKit
set_option linter.unusedSimpArgs false
set_option linter.unusedVariables false
namespace Go.Proofs.YtejkmhgkkibafaaGreatDoor.S8
section
set_option maxHeartbeats 4000000
set_option maxRecDepth 100000
attribute [local irreducible] wpList
theorem Y2h (h : Nat → Int) (l : List UInt8) (u : Value) (hl : 128 ≤ l.length) (w : World) (hs : Sl w u l) (hG : GS w) : Calls Tryz.prog 158 #[.agg (J0 .u64 8 h), u] w fun e w' => K6 (.agg (J0 .u64 8 (prs h (bt l)))) w w' e := by
  obtain ⟨ad, c, rfl, _⟩ := Q4y hs (by omega)
  exact Y0m h l ad c hl w hs hG

theorem V1m (ps : List (List UInt8)) (A : Option Addr) (c : Nat) (F : List UInt8) (hF : ps.flatten = F) (hlen : F.length ≤ 70368744177664) (hpn : ps.length ≤ 9223372036854775000) (w : World) (hps : ∀ i l, ps[i]? = some l → ∃ ad u, A = some ad ∧ w.cell? (ad.add i) = some u ∧ Sl w u l) (hG : GS w) :
  Calls Tryz.prog 125 #[.slice A ps.length c] w fun e w' => K6 (.agg (J0 .u8 64 (sm F))) w w' e := by
 have HG := Lib.hid hG
 have N0 := Lib.hid hps
 clear hG hps
 have ρ := Q2k F
 have T6 := (J9g F.length).2
 have D : Off [] w w := Off.refl _ _
 go_enter Tryz.func125, Tryz.ntmps125
 go_upto_region 0 with fail
 refine wp_region_lit ?_
 refine Ln ?_ (z := J0 .u8 64 (fun _ => 0)) (t := 45)
 intro α W1 G9 hO h_
 have S2 := fbn D G9
 replace D := D.o hO
 have G := h_
 clear hO h_ G9
 refine J9 ?_
 go_upto_region 2 with fail
 refine wp_region_lit ?_
 refine Lv ?_
 refine Lv ?_
 refine Lw ?_ (v := .int .i64 0)
 refine J9 ?_
 have J := Q4w W1
 have N : Fr (Value.ownBlock (.slice none 0 0)) w.heap.size [] := Y0a
 have V8 : Value.ownBlock (.slice none 0 0) ≠ some α := fun e_ => by cases e_
 go_wp2_with fail
 go_loopw [3, 15] (fun sv ii wr => ∃ (i : Nat) (bv : Value), (i ≤ ps.length) ∧ (bv = sv) ∧ (ii = .int .i64 (i : Int)) ∧ Off [] w wr ∧ Blk wr α (J0 .u8 64 (fun _ => 0)) 45 ∧ Own wr bv ((List.take i ps).flatten) ∧ Fr (Value.ownBlock bv) w.heap.size [] ∧ (Value.ownBlock bv) ≠ some α)
  (fun sv ii _ => ps.length - (intOf ii).toNat)
 case atStart => exact ⟨0, _, Nat.zero_le _, rfl, rfl, D, G, J, N, V8⟩
 case round =>
  obtain ⟨i, bv, hi, rfl, rfl, D, G, J, N, V8⟩ := hrel
  obtain ⟨W2, δ⟩ := J5e D
  subst δ
  by_cases μ : i < ps.length
  ·
   obtain ⟨l_, ω⟩ : ∃ l, ps[i]? = some l := ⟨_, List.getElem?_eq_getElem μ⟩
   obtain ⟨R7, u_, M5, J8, R4⟩ := N0.out i l_ ω
   have T8 : (List.take i ps).flatten.length + l_.length ≤ F.length := by rw [← hF, ← List.length_append, ← J89 ω]; exact Q81 _ _
   go_upto_region 3 with fail
   refine wp_region_lit ?_
   refine Lw ?_ (v := .bool true)
   refine J9 ?_
   go_upto_region 4 with fail
   refine wp_region_lit ?_
   refine Lw ?_ (v := .pointer (some (R7.add i))) (hv := Z1w (j := i) μ rfl (by rw [← M5]; rfl) rfl)
   refine Y6f (by rfl) rfl rfl (J2b J8 D.ext) (by kernel_rfl) ?_
   (try simp only [Act.put, mA, mB, mC])
   refine Lv ?_
   refine J9 ?_
   go_upto_region 5 with fail
   refine wp_region_lit ?_
   refine Lv ?_
   refine Lv ?_
   refine J15 (xs := ((List.take i ps).flatten)) (ys := l_) (by rfl) rfl rfl rfl J (R4.off D f0) (by first | omega | (simp only [List.length_append, List.length_cons, List.length_nil, List.length_replicate]; omega)) ?_
   (try simp only [Act.put, mA, mB, mC])
   intro T2 W3 G8 hO Θ φ
   clear φ
   have R5 := J4m Θ V8 (J6 G)
   have R1 := J4z Θ N D.size
   replace G := J1w G hO (nmo V8)
   replace D := D.step hO (io N)
   clear hO Θ
   have J := G8
   clear G8
   have N := R1
   have V8 := R5
   refine Lv ?_
   refine J9 ?_
   go_wp2
   go_roundw
   case rel => exact ⟨i + 1, _, by omega, rfl, by go_num, D, G, (by rw [J89 ω]; exact J), N, V8⟩
   case measure => simp [intOf]; omega
  obtain rfl : i = ps.length := by omega
  rw [List.take_length, hF] at J
  go_upto_region 3 with fail
  refine wp_region_lit ?_
  refine Lw ?_ (v := .bool false)
  refine J9 ?_
  go_upto_region 7 with fail
  refine wp_region_lit ?_
  refine Lv ?_
  refine J99 (l := F) (J.sl) (by rfl) rfl rfl ?_
  (try simp only [Act.put, mA, mB, mC])
  refine Lw ?_ (v := .int .u64 ((F.length : Nat) : Int)) (hv := by go_simp; (try simp only [IntKind.wrap_u64, IntKind.wrap_i64]); (try omega))
  refine Lw ?_ (v := .int .u64 ((8 * F.length : Nat) : Int)) (hv := by rw [show ((8 * F.length : Nat) : Int) = sl ((F.length : Nat) : Int) 3 from (by unfold sl; rw [IntKind.wrap_u64]; omega)]; exact J2t (n := 3) (by decide) rfl rfl rfl)
  refine Lv ?_
  refine J9 ?_
  go_upto_region 8 with fail
  refine wp_region_lit ?_
  refine Lv ?_
  refine LnS ?_ (z := #[.int .u8 128]) (t := 5) (n := 1) (c := 1)
  intro N4 W3 M8 hO h_
  replace G := G.o hO
  replace J := Own.off J hO f0
  replace D := D.o hO
  have θ : Own W3 (.slice (some ⟨N4, 0, none⟩) 1 1) [128] := J3o h_ (by rfl) (by show 1 ≤ maxLen; decide)
  clear hO h_ M8
  refine J15 (xs := F) (ys := [128]) (by rfl) rfl rfl rfl J (θ.sl) (by first | omega | (simp only [List.length_append, List.length_cons, List.length_nil, List.length_replicate]; omega)) ?_
  (try simp only [Act.put, mA, mB, mC])
  intro T0 W4 G7 hO Γ χ
  clear χ
  have S8 := J4m Γ V8 (J6 G)
  have N3 := J4z Γ N D.size
  replace G := J1w G hO (nmo V8)
  replace D := D.step hO (io N)
  clear hO Γ
  have J := G7
  clear G7
  have N := N3
  have V8 := S8
  refine Lv ?_
  refine J9 ?_
  clear θ
  go_wp2_with fail
  go_loopw [3] (fun sv wr => ∃ (k : Nat) (bv : Value), (k ≤ zc F.length) ∧ (bv = sv) ∧ Off [] w wr ∧ Blk wr α (J0 .u8 64 (fun _ => 0)) 45 ∧ Own wr bv (F ++ [128] ++ List.replicate k 0) ∧ Fr (Value.ownBlock bv) w.heap.size [] ∧ (Value.ownBlock bv) ≠ some α)
   (fun sv _ => F.length + 300 - J8k sv)
  case atStart => exact ⟨0, _, Nat.zero_le _, rfl, D, G, (by rw [List.replicate_zero, List.append_nil]; exact J), N, V8⟩
  case round =>
   obtain ⟨k, bv, hk, rfl, D, G, J, N, V8⟩ := hrel
   obtain ⟨W5, δ⟩ := J5e D
   subst δ
   have lb := Z1x J
   by_cases hz : k < zc F.length
   ·
    have M7 := Y4y hz
    go_upto_region 9 with fail
    refine wp_region_lit ?_
    refine Lv ?_
    refine J99 (l := (F ++ [128] ++ List.replicate k 0)) (J.sl) (by rfl) rfl rfl ?_
    (try simp only [Act.put, mA, mB, mC])
    refine Lw ?_ (v := .int .i64 (((F.length + 1 + k) % 128 : Nat) : Int)) (hv := by go_simp; (try simp only [List.length_append, List.length_cons, List.length_nil, List.length_replicate]); rw [Int.tmod_eq_emod_of_nonneg (by omega)]; omega)
    refine Lw ?_ (v := .bool true) (hv := by go_simp; omega)
    refine J9 ?_
    go_upto_region 10 with fail
    refine wp_region_lit ?_
    refine Lv ?_
    refine LnS ?_ (z := #[.int .u8 0]) (t := 5) (n := 1) (c := 1)
    intro M4 W6 S6 hO h_
    replace G := G.o hO
    replace J := Own.off J hO f0
    replace D := D.o hO
    have Δ : Own W6 (.slice (some ⟨M4, 0, none⟩) 1 1) [0] := J3o h_ (by rfl) (by show 1 ≤ maxLen; decide)
    clear hO h_ S6
    refine J15 (xs := (F ++ [128] ++ List.replicate k 0)) (ys := [0]) (by rfl) rfl rfl rfl J (Δ.sl) (by first | omega | (simp only [List.length_append, List.length_cons, List.length_nil, List.length_replicate]; omega)) ?_
    (try simp only [Act.put, mA, mB, mC])
    intro T9 W7 G0 hO Ξ τ
    clear τ
    have J4 := J4m Ξ V8 (J6 G)
    have S5 := J4z Ξ N D.size
    replace G := J1w G hO (nmo V8)
    replace D := D.step hO (io N)
    clear hO Ξ
    have J := G0
    clear G0
    have N := S5
    have V8 := J4
    refine Lv ?_
    refine J9 ?_
    have la := Z1x J
    simp only [List.length_append, List.length_cons, List.length_nil, List.length_replicate] at la lb
    go_wp2
    go_roundw
    case rel => exact ⟨k + 1, _, by omega, rfl, D, G, (by rw [List.replicate_succ', ← List.append_assoc]; exact J), N, V8⟩
    case measure => simp only [la, lb]; omega
   obtain rfl : k = zc F.length := by omega
   have M7 := (J9g F.length).1
   go_upto_region 9 with fail
   refine wp_region_lit ?_
   refine Lv ?_
   refine J99 (l := (F ++ [128] ++ List.replicate (zc F.length) 0)) (J.sl) (by rfl) rfl rfl ?_
   (try simp only [Act.put, mA, mB, mC])
   refine Lw ?_ (v := .int .i64 (((F.length + 1 + zc F.length) % 128 : Nat) : Int)) (hv := by go_simp; (try simp only [List.length_append, List.length_cons, List.length_nil, List.length_replicate]); rw [Int.tmod_eq_emod_of_nonneg (by omega)]; omega)
   refine Lw ?_ (v := .bool false) (hv := by first | (go_simp; done) | (go_simp; omega))
   refine J9 ?_
   go_upto_region 11 with fail
   refine wp_region_lit ?_
   refine Lv ?_
   refine Q82 (xs := (F ++ [128] ++ List.replicate (zc F.length) 0)) (m := 8) (by decide) (by rfl) rfl rfl rfl J (by first | omega | (simp only [List.length_append, List.length_cons, List.length_nil, List.length_replicate]; omega)) ?_
   (try simp only [Act.put, mA, mB, mC])
   intro S0 W6 D2 hO Ψ
   have S3 := J4m Ψ V8 (J6 G)
   have N9 := J4z Ψ N D.size
   replace G := J1w G hO (nmo V8)
   replace D := D.step hO (io N)
   clear hO Ψ
   have J := D2
   clear D2
   have N := N9
   have V8 := S3
   refine Lv ?_
   refine J9 ?_
   go_wp2_with fail
   refine wp_loop_rounds 9 ?_
   rw [rounds_succ]
   go_upto_region 15 with fail
   refine wp_region_lit ?_
   refine Lv ?_
   refine Lv ?_
   refine Lw ?_ (v := .int .i64 7)
   refine Lw ?_ (v := .int .i64 56)
   refine Lw ?_ (v := .int .u64 (sr ((8 * F.length : Nat) : Int) 56)) (hv := J0o (n := 56) (by decide) rfl rfl rfl)
   refine Lw ?_ (v := .int .u8 ((u8 ((8 * F.length) / 72057594037927936)).toNat : Int)) (hv := by rw [← J3d (8 * F.length) 56 72057594037927936 (by decide)]; exact J2f rfl rfl)
   refine LnS ?_ (z := #[.int .u8 ((u8 ((8 * F.length) / 72057594037927936)).toNat : Int)]) (t := 5) (n := 1) (c := 1)
   intro D9 W7 X hO h_
   have K4 : ∀ x, (Value.ownBlock S0) = some x → Value.ownBlock (.slice (some ⟨D9, 0, none⟩) 1 1) ≠ some x := J8q (Own.lt J) X
   replace G := G.o hO
   replace J := Own.off J hO f0
   replace D := D.o hO
   have M : Own W7 (.slice (some ⟨D9, 0, none⟩) 1 1) [u8 ((8 * F.length) / 72057594037927936)] := J3o h_ (by rfl) (by show 1 ≤ maxLen; decide)
   clear hO h_ X
   refine J15 (xs := ((F ++ [128] ++ List.replicate (zc F.length) 0) ++ List.replicate 8 0)) (ys := [u8 ((8 * F.length) / 72057594037927936)]) (by rfl) rfl rfl rfl J (M.sl) (by first | omega | (simp only [List.length_append, List.length_cons, List.length_nil, List.length_replicate]; omega)) ?_
   (try simp only [Act.put, mA, mB, mC])
   intro S7 W8 V hO S R
   clear R
   have Y := J4m S V8 (J6 G)
   have β := Q04 S K4 (Own.lt M)
   have Z := J4z S N D.size
   replace G := J1w G hO (nmo V8)
   replace M := Own.off M hO (fo K4)
   replace D := D.step hO (io N)
   clear hO S
   have J := V
   clear V
   have N := Z
   have V8 := Y
   have K4 := β
   refine Lv ?_
   refine J9 ?_
   go_wp2_with fail
   rw [rounds_succ]
   go_upto_region 15 with fail
   refine wp_region_lit ?_
   refine Lv ?_
   refine Lv ?_
   refine Lw ?_ (v := .int .i64 6)
   refine Lw ?_ (v := .int .i64 48)
   refine Lw ?_ (v := .int .u64 (sr ((8 * F.length : Nat) : Int) 48)) (hv := J0o (n := 48) (by decide) rfl rfl rfl)
   refine Lw ?_ (v := .int .u8 ((u8 ((8 * F.length) / 281474976710656)).toNat : Int)) (hv := by rw [← J3d (8 * F.length) 48 281474976710656 (by decide)]; exact J2f rfl rfl)
   clear M K4
   refine LnS ?_ (z := #[.int .u8 ((u8 ((8 * F.length) / 281474976710656)).toNat : Int)]) (t := 5) (n := 1) (c := 1)
   intro D3 W9 X hO h_
   have K4 : ∀ x, (Value.ownBlock S7) = some x → Value.ownBlock (.slice (some ⟨D3, 0, none⟩) 1 1) ≠ some x := J8q (Own.lt J) X
   replace G := G.o hO
   replace J := Own.off J hO f0
   replace D := D.o hO
   have M : Own W9 (.slice (some ⟨D3, 0, none⟩) 1 1) [u8 ((8 * F.length) / 281474976710656)] := J3o h_ (by rfl) (by show 1 ≤ maxLen; decide)
   clear hO h_ X
   refine J15 (xs := (((F ++ [128] ++ List.replicate (zc F.length) 0) ++ List.replicate 8 0) ++ [u8 ((8 * F.length) / 72057594037927936)])) (ys := [u8 ((8 * F.length) / 281474976710656)]) (by rfl) rfl rfl rfl J (M.sl) (by first | omega | (simp only [List.length_append, List.length_cons, List.length_nil, List.length_replicate]; omega)) ?_
   (try simp only [Act.put, mA, mB, mC])
   intro R6 T1 V hO S R
   clear R
   have Y := J4m S V8 (J6 G)
   have β := Q04 S K4 (Own.lt M)
   have Z := J4z S N D.size
   replace G := J1w G hO (nmo V8)
   replace M := Own.off M hO (fo K4)
   replace D := D.step hO (io N)
   clear hO S
   have J := V
   clear V
   have N := Z
   have V8 := Y
   have K4 := β
   refine Lv ?_
   refine J9 ?_
   go_wp2_with fail
   rw [rounds_succ]
   go_upto_region 15 with fail
   refine wp_region_lit ?_
   refine Lv ?_
   refine Lv ?_
   refine Lw ?_ (v := .int .i64 5)
   refine Lw ?_ (v := .int .i64 40)
   refine Lw ?_ (v := .int .u64 (sr ((8 * F.length : Nat) : Int) 40)) (hv := J0o (n := 40) (by decide) rfl rfl rfl)
   refine Lw ?_ (v := .int .u8 ((u8 ((8 * F.length) / 1099511627776)).toNat : Int)) (hv := by rw [← J3d (8 * F.length) 40 1099511627776 (by decide)]; exact J2f rfl rfl)
   clear M K4
   refine LnS ?_ (z := #[.int .u8 ((u8 ((8 * F.length) / 1099511627776)).toNat : Int)]) (t := 5) (n := 1) (c := 1)
   intro G2 R3 X hO h_
   have K4 : ∀ x, (Value.ownBlock R6) = some x → Value.ownBlock (.slice (some ⟨G2, 0, none⟩) 1 1) ≠ some x := J8q (Own.lt J) X
   replace G := G.o hO
   replace J := Own.off J hO f0
   replace D := D.o hO
   have M : Own R3 (.slice (some ⟨G2, 0, none⟩) 1 1) [u8 ((8 * F.length) / 1099511627776)] := J3o h_ (by rfl) (by show 1 ≤ maxLen; decide)
   clear hO h_ X
   refine J15 (xs := ((((F ++ [128] ++ List.replicate (zc F.length) 0) ++ List.replicate 8 0) ++ [u8 ((8 * F.length) / 72057594037927936)]) ++ [u8 ((8 * F.length) / 281474976710656)])) (ys := [u8 ((8 * F.length) / 1099511627776)]) (by rfl) rfl rfl rfl J (M.sl) (by first | omega | (simp only [List.length_append, List.length_cons, List.length_nil, List.length_replicate]; omega)) ?_
   (try simp only [Act.put, mA, mB, mC])
   intro R9 S9 V hO S R
   clear R
   have Y := J4m S V8 (J6 G)
   have β := Q04 S K4 (Own.lt M)
   have Z := J4z S N D.size
   replace G := J1w G hO (nmo V8)
   replace M := Own.off M hO (fo K4)
   replace D := D.step hO (io N)
   clear hO S
   have J := V
   clear V
   have N := Z
   have V8 := Y
   have K4 := β
   refine Lv ?_
   refine J9 ?_
   go_wp2_with fail
   rw [rounds_succ]
   go_upto_region 15 with fail
   refine wp_region_lit ?_
   refine Lv ?_
   refine Lv ?_
   refine Lw ?_ (v := .int .i64 4)
   refine Lw ?_ (v := .int .i64 32)
   refine Lw ?_ (v := .int .u64 (sr ((8 * F.length : Nat) : Int) 32)) (hv := J0o (n := 32) (by decide) rfl rfl rfl)
   refine Lw ?_ (v := .int .u8 ((u8 ((8 * F.length) / 4294967296)).toNat : Int)) (hv := by rw [← J3d (8 * F.length) 32 4294967296 (by decide)]; exact J2f rfl rfl)
   clear M K4
   refine LnS ?_ (z := #[.int .u8 ((u8 ((8 * F.length) / 4294967296)).toNat : Int)]) (t := 5) (n := 1) (c := 1)
   intro G6 S1 X hO h_
   have K4 : ∀ x, (Value.ownBlock R9) = some x → Value.ownBlock (.slice (some ⟨G6, 0, none⟩) 1 1) ≠ some x := J8q (Own.lt J) X
   replace G := G.o hO
   replace J := Own.off J hO f0
   replace D := D.o hO
   have M : Own S1 (.slice (some ⟨G6, 0, none⟩) 1 1) [u8 ((8 * F.length) / 4294967296)] := J3o h_ (by rfl) (by show 1 ≤ maxLen; decide)
   clear hO h_ X
   refine J15 (xs := (((((F ++ [128] ++ List.replicate (zc F.length) 0) ++ List.replicate 8 0) ++ [u8 ((8 * F.length) / 72057594037927936)]) ++ [u8 ((8 * F.length) / 281474976710656)]) ++ [u8 ((8 * F.length) / 1099511627776)])) (ys := [u8 ((8 * F.length) / 4294967296)]) (by rfl) rfl rfl rfl J (M.sl) (by first | omega | (simp only [List.length_append, List.length_cons, List.length_nil, List.length_replicate]; omega)) ?_
   (try simp only [Act.put, mA, mB, mC])
   intro N8 T7 V hO S R
   clear R
   have Y := J4m S V8 (J6 G)
   have β := Q04 S K4 (Own.lt M)
   have Z := J4z S N D.size
   replace G := J1w G hO (nmo V8)
   replace M := Own.off M hO (fo K4)
   replace D := D.step hO (io N)
   clear hO S
   have J := V
   clear V
   have N := Z
   have V8 := Y
   have K4 := β
   refine Lv ?_
   refine J9 ?_
   go_wp2_with fail
   rw [rounds_succ]
   go_upto_region 15 with fail
   refine wp_region_lit ?_
   refine Lv ?_
   refine Lv ?_
   refine Lw ?_ (v := .int .i64 3)
   refine Lw ?_ (v := .int .i64 24)
   refine Lw ?_ (v := .int .u64 (sr ((8 * F.length : Nat) : Int) 24)) (hv := J0o (n := 24) (by decide) rfl rfl rfl)
   refine Lw ?_ (v := .int .u8 ((u8 ((8 * F.length) / 16777216)).toNat : Int)) (hv := by rw [← J3d (8 * F.length) 24 16777216 (by decide)]; exact J2f rfl rfl)
   clear M K4
   refine LnS ?_ (z := #[.int .u8 ((u8 ((8 * F.length) / 16777216)).toNat : Int)]) (t := 5) (n := 1) (c := 1)
   intro G3 N5 X hO h_
   have K4 : ∀ x, (Value.ownBlock N8) = some x → Value.ownBlock (.slice (some ⟨G3, 0, none⟩) 1 1) ≠ some x := J8q (Own.lt J) X
   replace G := G.o hO
   replace J := Own.off J hO f0
   replace D := D.o hO
   have M : Own N5 (.slice (some ⟨G3, 0, none⟩) 1 1) [u8 ((8 * F.length) / 16777216)] := J3o h_ (by rfl) (by show 1 ≤ maxLen; decide)
   clear hO h_ X
   refine J15 (xs := ((((((F ++ [128] ++ List.replicate (zc F.length) 0) ++ List.replicate 8 0) ++ [u8 ((8 * F.length) / 72057594037927936)]) ++ [u8 ((8 * F.length) / 281474976710656)]) ++ [u8 ((8 * F.length) / 1099511627776)]) ++ [u8 ((8 * F.length) / 4294967296)])) (ys := [u8 ((8 * F.length) / 16777216)]) (by rfl) rfl rfl rfl J (M.sl) (by first | omega | (simp only [List.length_append, List.length_cons, List.length_nil, List.length_replicate]; omega)) ?_
   (try simp only [Act.put, mA, mB, mC])
   intro M3 V1 V hO S R
   clear R
   have Y := J4m S V8 (J6 G)
   have β := Q04 S K4 (Own.lt M)
   have Z := J4z S N D.size
   replace G := J1w G hO (nmo V8)
   replace M := Own.off M hO (fo K4)
   replace D := D.step hO (io N)
   clear hO S
   have J := V
   clear V
   have N := Z
   have V8 := Y
   have K4 := β
   refine Lv ?_
   refine J9 ?_
   go_wp2_with fail
   rw [rounds_succ]
   go_upto_region 15 with fail
   refine wp_region_lit ?_
   refine Lv ?_
   refine Lv ?_
   refine Lw ?_ (v := .int .i64 2)
   refine Lw ?_ (v := .int .i64 16)
   refine Lw ?_ (v := .int .u64 (sr ((8 * F.length : Nat) : Int) 16)) (hv := J0o (n := 16) (by decide) rfl rfl rfl)
   refine Lw ?_ (v := .int .u8 ((u8 ((8 * F.length) / 65536)).toNat : Int)) (hv := by rw [← J3d (8 * F.length) 16 65536 (by decide)]; exact J2f rfl rfl)
   clear M K4
   refine LnS ?_ (z := #[.int .u8 ((u8 ((8 * F.length) / 65536)).toNat : Int)]) (t := 5) (n := 1) (c := 1)
   intro G1 N1 X hO h_
   have K4 : ∀ x, (Value.ownBlock M3) = some x → Value.ownBlock (.slice (some ⟨G1, 0, none⟩) 1 1) ≠ some x := J8q (Own.lt J) X
   replace G := G.o hO
   replace J := Own.off J hO f0
   replace D := D.o hO
   have M : Own N1 (.slice (some ⟨G1, 0, none⟩) 1 1) [u8 ((8 * F.length) / 65536)] := J3o h_ (by rfl) (by show 1 ≤ maxLen; decide)
   clear hO h_ X
   refine J15 (xs := (((((((F ++ [128] ++ List.replicate (zc F.length) 0) ++ List.replicate 8 0) ++ [u8 ((8 * F.length) / 72057594037927936)]) ++ [u8 ((8 * F.length) / 281474976710656)]) ++ [u8 ((8 * F.length) / 1099511627776)]) ++ [u8 ((8 * F.length) / 4294967296)]) ++ [u8 ((8 * F.length) / 16777216)])) (ys := [u8 ((8 * F.length) / 65536)]) (by rfl) rfl rfl rfl J (M.sl) (by first | omega | (simp only [List.length_append, List.length_cons, List.length_nil, List.length_replicate]; omega)) ?_
   (try simp only [Act.put, mA, mB, mC])
   intro N7 V0 V hO S R
   clear R
   have Y := J4m S V8 (J6 G)
   have β := Q04 S K4 (Own.lt M)
   have Z := J4z S N D.size
   replace G := J1w G hO (nmo V8)
   replace M := Own.off M hO (fo K4)
   replace D := D.step hO (io N)
   clear hO S
   have J := V
   clear V
   have N := Z
   have V8 := Y
   have K4 := β
   refine Lv ?_
   refine J9 ?_
   go_wp2_with fail
   rw [rounds_succ]
   go_upto_region 15 with fail
   refine wp_region_lit ?_
   refine Lv ?_
   refine Lv ?_
   refine Lw ?_ (v := .int .i64 1)
   refine Lw ?_ (v := .int .i64 8)
   refine Lw ?_ (v := .int .u64 (sr ((8 * F.length : Nat) : Int) 8)) (hv := J0o (n := 8) (by decide) rfl rfl rfl)
   refine Lw ?_ (v := .int .u8 ((u8 ((8 * F.length) / 256)).toNat : Int)) (hv := by rw [← J3d (8 * F.length) 8 256 (by decide)]; exact J2f rfl rfl)
   clear M K4
   refine LnS ?_ (z := #[.int .u8 ((u8 ((8 * F.length) / 256)).toNat : Int)]) (t := 5) (n := 1) (c := 1)
   intro G4 J5 X hO h_
   have K4 : ∀ x, (Value.ownBlock N7) = some x → Value.ownBlock (.slice (some ⟨G4, 0, none⟩) 1 1) ≠ some x := J8q (Own.lt J) X
   replace G := G.o hO
   replace J := Own.off J hO f0
   replace D := D.o hO
   have M : Own J5 (.slice (some ⟨G4, 0, none⟩) 1 1) [u8 ((8 * F.length) / 256)] := J3o h_ (by rfl) (by show 1 ≤ maxLen; decide)
   clear hO h_ X
   refine J15 (xs := ((((((((F ++ [128] ++ List.replicate (zc F.length) 0) ++ List.replicate 8 0) ++ [u8 ((8 * F.length) / 72057594037927936)]) ++ [u8 ((8 * F.length) / 281474976710656)]) ++ [u8 ((8 * F.length) / 1099511627776)]) ++ [u8 ((8 * F.length) / 4294967296)]) ++ [u8 ((8 * F.length) / 16777216)]) ++ [u8 ((8 * F.length) / 65536)])) (ys := [u8 ((8 * F.length) / 256)]) (by rfl) rfl rfl rfl J (M.sl) (by first | omega | (simp only [List.length_append, List.length_cons, List.length_nil, List.length_replicate]; omega)) ?_
   (try simp only [Act.put, mA, mB, mC])
   intro T5 T4 V hO S R
   clear R
   have Y := J4m S V8 (J6 G)
   have Z := J4z S N D.size
   replace G := J1w G hO (nmo V8)
   replace M := Own.off M hO (fo K4)
   replace D := D.step hO (io N)
   clear hO S
   have J := V
   clear V
   have N := Z
   have V8 := Y
   refine Lv ?_
   refine J9 ?_
   go_wp2_with fail
   rw [rounds_succ]
   go_upto_region 15 with fail
   refine wp_region_lit ?_
   refine Lv ?_
   refine Lv ?_
   refine Lw ?_ (v := .int .i64 0)
   refine Lw ?_ (v := .int .i64 0)
   refine Lw ?_ (v := .int .u64 (sr ((8 * F.length : Nat) : Int) 0)) (hv := J0o (n := 0) (by decide) rfl rfl rfl)
   refine Lw ?_ (v := .int .u8 ((u8 (8 * F.length)).toNat : Int)) (hv := by rw [← Z1y (8 * F.length)]; exact J2f rfl rfl)
   clear M K4
   refine LnS ?_ (z := #[.int .u8 ((u8 (8 * F.length)).toNat : Int)]) (t := 5) (n := 1) (c := 1)
   intro N6 M2 X hO h_
   replace G := G.o hO
   replace J := Own.off J hO f0
   replace D := D.o hO
   have M : Own M2 (.slice (some ⟨N6, 0, none⟩) 1 1) [u8 (8 * F.length)] := J3o h_ (by rfl) (by show 1 ≤ maxLen; decide)
   clear hO h_ X
   refine J15 (xs := (((((((((F ++ [128] ++ List.replicate (zc F.length) 0) ++ List.replicate 8 0) ++ [u8 ((8 * F.length) / 72057594037927936)]) ++ [u8 ((8 * F.length) / 281474976710656)]) ++ [u8 ((8 * F.length) / 1099511627776)]) ++ [u8 ((8 * F.length) / 4294967296)]) ++ [u8 ((8 * F.length) / 16777216)]) ++ [u8 ((8 * F.length) / 65536)]) ++ [u8 ((8 * F.length) / 256)])) (ys := [u8 (8 * F.length)]) (by rfl) rfl rfl rfl J (M.sl) (by first | omega | (simp only [List.length_append, List.length_cons, List.length_nil, List.length_replicate]; omega)) ?_
   (try simp only [Act.put, mA, mB, mC])
   intro D0 T3 V hO S R
   clear R
   have Y := J4m S V8 (J6 G)
   replace G := J1w G hO (nmo V8)
   replace D := D.step hO (io N)
   clear hO S
   have J := V
   clear V
   have V8 := Y
   refine Lv ?_
   refine J9 ?_
   go_wp2_with fail
   rw [rounds_succ]
   go_upto_region 16 with fail
   refine wp_region_lit ?_
   refine Z0p (by rfl) rfl rfl ((Q51 HG.out D.ext).2) (by kernel_rfl) (by rw [J2]; kernel_rfl) ?_
   (try simp only [Act.put, mA, mB, mC])
   refine LnP ?_ (z := J0 .u64 8 (fun _ => 0)) (t := 186) (cells := J0 .u64 8 hf) (hi := by rw [J2]; kernel_rfl) (hs := by rw [J2, J2]) (h1 := by exact Z0 _ _ _)
   intro ε M1 ν hO h_
   have R8 := bn G ν
   have D1 := J7a (Own.lt J) ν
   have N2 := fbn D ν
   replace G := G.o hO
   replace J := Own.off J hO f0
   replace D := D.o hO
   have T := h_
   clear hO h_ ν
   refine J9 ?_
   clear M K4
   rw [Z20] at J
   have U : Sl M1 D0 (List.drop (128 * 0) (Z8 F)) := Z3s J
   have η : sb D0 (List.drop (128 * 0) (Z8 F)) ≠ some α := Y4u V8
   have ζ : sb D0 (List.drop (128 * 0) (Z8 F)) ≠ some ε := Y4u D1
   clear J N V8 D1
   go_wp2_with fail
   go_loopw [3] (fun sv wr => ∃ (j : Nat) (u : Value), (j ≤ nb F.length) ∧ (u = sv) ∧ Off [] w wr ∧ Blk wr α (J0 .u8 64 (fun _ => 0)) 45 ∧ Blk wr ε (J0 .u64 8 (Hs (Z8 F) j)) 186 ∧ Sl wr u (List.drop (128 * j) (Z8 F)) ∧ (sb u (List.drop (128 * j) (Z8 F))) ≠ some α ∧ (sb u (List.drop (128 * j) (Z8 F))) ≠ some ε)
    (fun sv _ => J8k sv)
   case atStart => exact ⟨0, _, Nat.zero_le _, rfl, D, G, T, U, η, ζ⟩
   case round =>
    obtain ⟨j, u, hj, rfl, D, G, T, U, η, ζ⟩ := hrel
    obtain ⟨M9, δ⟩ := J5e D
    subst δ
    have lb := J5u U
    by_cases D5 : j < nb F.length
    ·
     have ξ : 128 ≤ (List.drop (128 * j) (Z8 F)).length := by rw [List.length_drop, ρ]; omega
     go_upto_region 17 with fail
     refine wp_region_lit ?_
     refine Lv ?_
     refine J99 (l := (List.drop (128 * j) (Z8 F))) U (by rfl) rfl rfl ?_
     (try simp only [Act.put, mA, mB, mC])
     refine Lw ?_ (v := .bool true) (hv := by go_simp; (try simp only [List.length_drop, ρ]); omega)
     refine J9 ?_
     go_upto_region 19 with fail
     refine wp_region_lit ?_
     refine L0A ?_ T
     refine Lv ?_
     refine Lr ?_ (Y2h (Hs (Z8 F) j) (List.drop (128 * j) (Z8 F)) u ξ M9 U (Q51 HG.out D.ext))
     intro S4 hO
     replace G := G.o hO
     replace T := T.o hO
     replace U := Sl.off U hO f0
     replace D := D.o hO
     clear hO
     refine Lp ?_ T (cells := J0 .u64 8 (prs (Hs (Z8 F) j) (bt (List.drop (128 * j) (Z8 F))))) (hi := by rw [J2]; kernel_rfl) (hs := by rw [J2, J2]) (h1 := by exact Z0 _ _ _)
     intro D6 hO h_
     replace T : Blk D6 ε (J0 .u64 8 (prs (Hs (Z8 F) j) (bt (List.drop (128 * j) (Z8 F))))) 186 := h_
     clear h_
     replace G := G.p hO R8
     replace U := Sl.off U hO (f1 ζ)
     replace D := D.p hO N2
     clear hO
     refine J9 ?_
     go_upto_region 18 with fail
     refine wp_region_lit ?_
     refine Lv ?_
     refine Z5o (n := 128) U (by exact ξ) (by rfl) rfl rfl rfl ?_
     (try simp only [Act.put, mA, mB, mC])
     intro D7 ψ D8
     have G5 : sb D7 (List.drop 128 (List.drop (128 * j) (Z8 F))) ≠ some α := Z5m D8 η
     have D4 : sb D7 (List.drop 128 (List.drop (128 * j) (Z8 F))) ≠ some ε := Z5m D8 ζ
     refine Lv ?_
     refine J9 ?_
     clear U η ζ
     rw [Q0c] at ψ
     rw [Q0c] at G5
     rw [Q0c] at D4
     have U := ψ
     clear ψ
     have η := G5
     have ζ := D4
     have la := J5u U
     simp only [List.length_drop, ρ] at la lb
     go_wp2
     go_roundw
     case rel => exact ⟨j + 1, _, by omega, rfl, D, G, T, U, η, ζ⟩
     case measure => simp only [la, lb]; omega
    obtain rfl : j = nb F.length := by omega
    go_upto_region 17 with fail
    refine wp_region_lit ?_
    refine Lv ?_
    refine J99 (l := (List.drop (128 * nb F.length) (Z8 F))) U (by rfl) rfl rfl ?_
    (try simp only [Act.put, mA, mB, mC])
    refine Lw ?_ (v := .bool false) (hv := by first | (go_simp; done) | (go_simp; (try simp only [List.length_drop, ρ]); omega))
    refine J9 ?_
    go_upto_region 20 with fail
    refine wp_region_lit ?_
    refine Ln ?_ (z := J0 .u8 64 (fun _ => 0)) (t := 45)
    intro σ S4 κ hO h_
    have M6 := bn G κ
    have J3 := bn T κ
    have M0 := J7a (Sl.lt U) κ
    have R2 := fbn D κ
    replace G := G.o hO
    replace T := T.o hO
    replace U := Sl.off U hO f0
    replace D := D.o hO
    have γ := h_
    clear hO h_ κ
    refine J9 ?_
    go_upto_region 21 with fail
    refine wp_region_lit ?_
    refine L0A ?_ T
    refine Lw ?_ (v := .int .i64 0)
    refine J9 ?_
    go_wp2_with fail
    go_loopw [61] (fun ii wr => ∃ (i : Nat), (i ≤ 8) ∧ (ii = .int .i64 (i : Int)) ∧ Off [] w wr ∧ Blk wr α (J0 .u8 64 (fun _ => 0)) 45 ∧ Blk wr ε (J0 .u64 8 (Hs (Z8 F) (nb F.length))) 186 ∧ Blk wr σ (J0 .u8 64 (Q3q (Hs (Z8 F) (nb F.length)) (8 * i))) 45 ∧ Sl wr u (List.drop (128 * nb F.length) (Z8 F)))
     (fun ii _ => 8 - (intOf ii).toNat)
    case atStart => exact ⟨0, Nat.zero_le _, rfl, D, G, T, (by rw [Nat.mul_zero, Z3q]; exact γ), U⟩
    case round =>
     obtain ⟨i, hi, rfl, D, G, T, γ, U⟩ := hrel
     obtain ⟨D6, δ⟩ := J5e D
     subst δ
     by_cases h8 : i < 8
     ·
      go_upto_region 22 with fail
      refine wp_region_lit ?_
      refine Lw ?_ (v := .bool true)
      refine J9 ?_
      go_upto_region 23 with fail
      refine wp_region_lit ?_
      refine Lv ?_
      refine Lw ?_ (v := .int .u64 (Hs (Z8 F) (nb F.length) i)) (hv := Q6b (m := 8) h8 Tryz.underlying186 (by kernel_rfl) Y2k rfl rfl rfl)
      refine Lv ?_
      refine Lv ?_
      refine J9 ?_
      go_wp2_with fail
      go_loopw [65] (fun jj wr => ∃ (k : Nat), (k ≤ 8) ∧ (jj = .int .i64 (k : Int)) ∧ Off [] w wr ∧ Blk wr α (J0 .u8 64 (fun _ => 0)) 45 ∧ Blk wr ε (J0 .u64 8 (Hs (Z8 F) (nb F.length))) 186 ∧ Blk wr σ (J0 .u8 64 (Q3q (Hs (Z8 F) (nb F.length)) (8 * i + k))) 45 ∧ Sl wr u (List.drop (128 * nb F.length) (Z8 F)))
       (fun jj _ => 8 - (intOf jj).toNat)
      case atStart => exact ⟨0, Nat.zero_le _, rfl, D, G, T, γ, U⟩
      case round =>
       obtain ⟨k, hk, rfl, D, G, T, γ, U⟩ := hrel
       obtain ⟨J1, δ⟩ := J5e D
       subst δ
       by_cases Ω : k < 8
       ·
        go_upto_region 25 with fail
        refine wp_region_lit ?_
        refine Lw ?_ (v := .bool true)
        refine J9 ?_
        go_upto_region 27 with fail
        refine wp_region_lit ?_
        refine Lv ?_
        refine Lw ?_ (v := .int .i64 (((8 * i : Nat) : Int))) (hv := by go_simp; (try simp only [IntKind.wrap_u64, IntKind.wrap_i64]); (try omega))
        refine Lv ?_
        refine Lw ?_ (v := .int .i64 (((8 * i + k : Nat) : Int))) (hv := by go_simp; (try simp only [IntKind.wrap_u64, IntKind.wrap_i64]); (try omega))
        refine Lv ?_
        refine Lv ?_
        refine Lw ?_ (v := .int .i64 (((7 - k : Nat) : Int))) (hv := by go_simp; (try simp only [IntKind.wrap_u64, IntKind.wrap_i64]); (try omega))
        refine Lw ?_ (v := .int .i64 (((8 * (7 - k) : Nat) : Int))) (hv := by go_simp; (try simp only [IntKind.wrap_u64, IntKind.wrap_i64]); (try omega))
        refine Lw ?_ (v := .int .u64 (sr (Hs (Z8 F) (nb F.length) i) (8 * (7 - k)))) (hv := J0o (n := 8 * (7 - k)) (by omega) rfl rfl rfl)
        refine Lw ?_ (v := .int .u8 (w8 (sr (Hs (Z8 F) (nb F.length) i) (8 * (7 - k))))) (hv := by exact J2f rfl rfl)
        refine Lw ?_ (v := .pointer (some ⟨σ, 0 + (8 * i + k), none⟩)) (hv := J7 (m := 64) (by decide) (by omega) Tryz.underlying45 (by kernel_rfl) rfl rfl rfl)
        refine J4c (v := .int .u8 (w8 (sr (Hs (Z8 F) (nb F.length) i) (8 * (7 - k))))) ⟨rfl, rfl⟩ (by rfl) rfl rfl rfl γ (by rw [J2, Nat.zero_add]; omega) (by kernel_rfl) ?_
        (try simp only [Act.put, mA, mB, mC])
        intro R0 hO h_
        rw [Nat.zero_add, V6] at h_
        replace γ : Blk R0 σ (J0 .u8 64 (upd (Q3q (Hs (Z8 F) (nb F.length)) (8 * i + k)) (8 * i + k) (w8 (sr (Hs (Z8 F) (nb F.length) i) (8 * (7 - k)))))) 45 := h_
        clear h_
        replace G := G.p hO M6
        replace T := T.p hO J3
        replace U := Sl.off U hO (f1 M0)
        replace D := D.p hO R2
        clear hO
        refine J9 ?_
        go_wp2
        go_roundw
        case rel => exact ⟨k + 1, by omega, by go_num, D, G, T, (by rw [← Z3r _ _ _ Ω]; exact γ), U⟩
        case measure => simp [intOf]; omega
       obtain rfl : k = 8 := by omega
       go_upto_region 25 with fail
       refine wp_region_lit ?_
       refine Lw ?_ (v := .bool false)
       refine J9 ?_
       go_wp2
       go_roundw
       case rel => exact ⟨i + 1, by omega, by go_num, D, G, T, (by rw [show 8 * (i + 1) = 8 * i + 8 by omega]; exact γ), U⟩
       case measure => simp [intOf]; omega
     obtain rfl : i = 8 := by omega
     rw [show 8 * 8 = 64 by rfl, Z7k] at γ
     go_upto_region 22 with fail
     refine wp_region_lit ?_
     refine Lw ?_ (v := .bool false)
     refine J9 ?_
     go_upto_region 30 with fail
     refine wp_region_lit ?_
     refine L0A ?_ γ
     refine Lp ?_ G (cells := J0 .u8 64 (ob (Hs (Z8 F) (nb F.length)))) (hi := by rw [J2]; kernel_rfl) (hs := by rw [J2, J2]) (h1 := by exact Z0 _ _ _)
     intro J1 hO h_
     replace G : Blk J1 α (J0 .u8 64 (ob (Hs (Z8 F) (nb F.length)))) 45 := h_
     clear h_
     replace D := D.p hO S2
     clear hO
     refine J9 ?_
     go_wp2
     refine bodyPost_ret (Y3 rfl rfl G (by kernel_rfl) (by rw [J2]; kernel_rfl)) rfl ⟨rfl, D.ext⟩
end

section
end

section
def GR (w : World) : Prop := Rd w 3 (J0 .u64 80 kf) ∧ Rd w 2 (J0 .u64 8 hf)
theorem GR_ext {w W : World} (h : GR w) (e : Ext w W) : GR W := ⟨h.1.ext e, h.2.ext e⟩
def rst (b : Nat → Int) (i : Nat) : Nat → Int := if i < 16 then fst b (8 * i) else Y0 b i
theorem Q92 {b : Nat → Int} {i : Nat} (h : i < 16) : rst b i = fst b (8 * i) := if_pos h
theorem Q5d {b : Nat → Int} {i : Nat} (h : 16 ≤ i) : rst b i = Y0 b i := if_neg (by omega)
theorem Z6b {b : Nat → Int} {i : Nat} (h : i < 16) : fst b (8 * i + 8) = rst b (i + 1) := by
  by_cases h2 : i + 1 < 16
  · rw [Q92 h2]; rfl
  obtain rfl : i = 15 := by omega
  rw [Q5d (by omega)]
  exact Z0x b
theorem Z6a (P : List UInt8) (n i k : Nat) (hi : i < 16) (hk : k < 8) : upd (fst (bt (P.drop n)) (8 * i + k)) i (oo (sl (fst (bt (P.drop n)) (8 * i + k) i) 8) (bt P (n + 8 * i + k))) = fst (bt (P.drop n)) (8 * i + (k + 1)) := by
  have h := Q76 (bt (P.drop n)) (8 * i + k)
  rw [show (8 * i + k) / 8 = i by omega, Y23, ← Nat.add_assoc] at h
  exact h
def bo (H : Nat → Int) (j : Nat) : UInt8 := u8 (ob H j).toNat
theorem Y5o (H : Nat → Int) (j : Nat) : ((bo H j).toNat : Int) = ob H j := by
  have := Y4s (sr (H (j / 8)) (8 * (7 - j % 8)))
  unfold bo
  rw [J91]
  unfold ob
  omega
theorem Y0u (H : Nat → Int) (i k : Nat) (hk : k < 8) : w8 (sr (H i) (8 * (7 - k))) = ((bo H (8 * i + k)).toNat : Int) := by
  rw [Y5o]
  unfold ob
  rw [show (8 * i + k) / 8 = i by omega, show (8 * i + k) % 8 = k by omega]
def wb (H : Nat → Int) (n : Nat) : List UInt8 := (List.range n).map (bo H)
theorem J42 (H : Nat → Int) (n : Nat) : (wb H n).length = n := by simp [wb]
def smb (l : List UInt8) : List UInt8 := wb (Hs (Z8 l) (nb l.length)) 64
theorem Q30 (l : List UInt8) : (smb l).length = 64 := J42 _ _
theorem Z3t (l : List UInt8) : (J0 .u8 64 (sm l)).toList = bs8 (smb l) := by
  unfold J0 bs8 smb wb
  rw [List.map_map]
  simp only [List.map_inj_left, Function.comp]
  intro j _
  rw [Y5o]; rfl
end
end Go.Proofs.YtejkmhgkkibafaaGreatDoor.S8
