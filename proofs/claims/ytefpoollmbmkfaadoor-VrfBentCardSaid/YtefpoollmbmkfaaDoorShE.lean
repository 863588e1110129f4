/- The document's sum. Conditions: the text is no longer than 2^46 bytes; the tables hold their numbers. -/
import Derived.Test.YtefpoollmbmkfaaDoorGc
import Derived.Test.YtefpoollmbmkfaaDoorHd
set_option linter.unusedSimpArgs false
set_option linter.unusedVariables false
namespace Go.Proofs.YtefpoollmbmkfaaDoor
set_option maxHeartbeats 1500000
set_option maxRecDepth 100000
open Go.RowKit
attribute [local irreducible] wpList

theorem Y9u (l : List UInt8) (hlen : l.length ≤ 70368744177664) (w : World) (hG : GR w) :
  Calls Tryd.prog 43 #[str l] w fun e w' => Ret (str (smb l)) w w' e := by
 have HG := Lib.hid hG
 clear hG
 have hpl := Q60 l
 have hzc := (Q28 l.length).2
 have hnb : nb l.length ≤ 549755814000 := by unfold nb; omega
 have off0 : Off [] w w := Off.refl _ _
 go_enter Tryd.func43, Tryd.ntmps43
 go_upto_region 1 with fail
 refine wp_region_lit ?_
 refine Lv ?_
 refine Q9x (l := l) (by rfl) rfl rfl ?_
 (try simp only [Act.put, mA, mB, mC])
 refine Lv ?_
 refine J0 ?_
 go_upto_region 2 with fail
 refine wp_region_lit ?_
 refine Lv ?_
 refine Z1u (l := l) (by first | omega | (simp only [List.length_append, List.length_cons, List.length_nil, List.length_replicate, J07]; omega)) (by rfl) rfl rfl ?_
 (try simp only [Act.put, mA, mB, mC])
 intro V3j W1 Y16 hO Z24
 have Y17 : Fr (Value.ownBlock V3j) w.heap.size [] := J0i Y16 Z45 off0.size
 replace off0 := off0.o hO
 clear hO Y16
 refine LnS ?_ (z := #[.int .u8 128]) (t := 5) (n := 1) (c := 1)
 intro V3k W2 V3l hO h_
 replace Z24 := Owz.off Z24 hO f0
 replace off0 := off0.o hO
 have ow_s25 : Own W2 (.slice (some ⟨V3k, 0, none⟩) 1 1) [128] := V7 h_ (by rfl) (by show 1 ≤ maxLen; decide)
 clear hO h_ V3l
 refine J0s (xs := l) (ys := [128]) (by rfl) rfl rfl rfl Z24 (ow_s25.sl) (by first | omega | (simp only [List.length_append, List.length_cons, List.length_nil, List.length_replicate, J07]; omega)) ?_
 (try simp only [Act.put, mA, mB, mC])
 intro V6t W3 Y18 hO Y19
 have V05 := J0i Y19 Y17 off0.size
 replace off0 := off0.step hO (io Y17)
 clear hO Y19
 have ow_b := Y18
 clear Y18
 have K2 := V05
 refine Lv ?_
 refine J0 ?_
 clear ow_s25
 go_wp2_with fail
 go_loopw [4] (fun sv wr => ∃ (k : Nat) (bv : Value), (k ≤ zc l.length) ∧ (bv = sv) ∧ Off [] w wr ∧ Owz wr bv (l ++ [128] ++ List.replicate k 0) ∧ Fr (Value.ownBlock bv) w.heap.size [])
  (fun sv _ => l.length + 300 - Z0f sv)
 case atStart => exact ⟨0, _, Nat.zero_le _, rfl, off0, (by rw [List.replicate_zero, List.append_nil]; exact ow_b), K2⟩
 case round =>
  obtain ⟨k, bv, hk, rfl, off0, ow_b, K2⟩ := hrel
  obtain ⟨W4, eW_⟩ := J3r off0
  subst eW_
  have lb := Q8y ow_b.sl
  by_cases hz : k < zc l.length
  ·
   have _f := hz
   have hz2 := Y73 hz
   go_upto_region 3 with fail
   refine wp_region_lit ?_
   refine Lv ?_
   refine J5w (l := (l ++ [128] ++ List.replicate k 0)) (ow_b.sl) (by rfl) rfl rfl ?_
   (try simp only [Act.put, mA, mB, mC])
   refine Lw ?_ (v := .int .i64 (((l.length + 1 + k) % 128 : Nat) : Int)) (hv := by go_simp; (try simp only [List.length_append, List.length_cons, List.length_nil, List.length_replicate]); rw [Int.tmod_eq_emod_of_nonneg (by omega)]; omega)
   refine Lw ?_ (v := .bool true) (hv := by go_simp; omega)
   refine J0 ?_
   go_upto_region 4 with fail
   refine wp_region_lit ?_
   refine Lv ?_
   refine LnS ?_ (z := #[.int .u8 0]) (t := 5) (n := 1) (c := 1)
   intro V3m W5 V3n hO h_
   replace ow_b := Owz.off ow_b hO f0
   replace off0 := off0.o hO
   have ow_s32 : Own W5 (.slice (some ⟨V3m, 0, none⟩) 1 1) [0] := V7 h_ (by rfl) (by show 1 ≤ maxLen; decide)
   clear hO h_ V3n
   refine J0s (xs := (l ++ [128] ++ List.replicate k 0)) (ys := [0]) (by rfl) rfl rfl rfl ow_b (ow_s32.sl) (by first | omega | (simp only [List.length_append, List.length_cons, List.length_nil, List.length_replicate, J07]; omega)) ?_
   (try simp only [Act.put, mA, mB, mC])
   intro V6u W6 Y1a hO Y1b
   have V06 := J0i Y1b K2 off0.size
   replace off0 := off0.step hO (io K2)
   clear hO Y1b
   have ow_b := Y1a
   clear Y1a
   have K2 := V06
   refine Lv ?_
   refine J0 ?_
   have la := Q8y ow_b.sl
   simp only [List.length_append, List.length_cons, List.length_nil, List.length_replicate] at la lb
   go_wp2
   go_roundw
   case rel => exact ⟨k + 1, _, by omega, rfl, off0, (by rw [List.replicate_succ', ← List.append_assoc]; exact ow_b), K2⟩
   case measure => simp only [la, lb]; omega
  ·
   have _f := hz
   obtain rfl : k = zc l.length := by omega
   have hz2 := (Q28 l.length).1
   go_upto_region 3 with fail
   refine wp_region_lit ?_
   refine Lv ?_
   refine J5w (l := (l ++ [128] ++ List.replicate (zc l.length) 0)) (ow_b.sl) (by rfl) rfl rfl ?_
   (try simp only [Act.put, mA, mB, mC])
   refine Lw ?_ (v := .int .i64 (((l.length + 1 + zc l.length) % 128 : Nat) : Int)) (hv := by go_simp; (try simp only [List.length_append, List.length_cons, List.length_nil, List.length_replicate]); rw [Int.tmod_eq_emod_of_nonneg (by omega)]; omega)
   refine Lw ?_ (v := .bool false) (hv := by first | (go_simp; done) | (go_simp; omega))
   refine J0 ?_
   go_wp2_with fail
   refine wp_loop_rounds 17 ?_
   rw [rounds_succ]
   go_upto_region 9 with fail
   refine wp_region_lit ?_
   refine Lv ?_
   refine LnS ?_ (z := #[.int .u8 0]) (t := 5) (n := 1) (c := 1)
   intro Y7e W5 J48 hO h_
   have J09 : ∀ x, (Value.ownBlock bv) = some x → Value.ownBlock (.slice (some ⟨Y7e, 0, none⟩) 1 1) ≠ some x := J1k (Owz.lt ow_b) J48
   replace ow_b := Owz.off ow_b hO f0
   replace off0 := off0.o hO
   have ow_s41 : Own W5 (.slice (some ⟨Y7e, 0, none⟩) 1 1) [0] := V7 h_ (by rfl) (by show 1 ≤ maxLen; decide)
   clear hO h_ J48
   refine J0s (xs := (l ++ [128] ++ List.replicate (zc l.length) 0)) (ys := [0]) (by rfl) rfl rfl rfl ow_b (ow_s41.sl) (by first | omega | (simp only [List.length_append, List.length_cons, List.length_nil, List.length_replicate, J07]; omega)) ?_
   (try simp only [Act.put, mA, mB, mC])
   intro V3o W6 J2j hO J1n
   have J2k := J0r J1n J09 (Own.lt ow_s41)
   have J4s := J0i J1n K2 off0.size
   replace ow_s41 := Own.off ow_s41 hO (fo J09)
   replace off0 := off0.step hO (io K2)
   clear hO J1n
   have ow_b := J2j
   clear J2j
   have K2 := J4s
   have J09 := J2k
   refine Lv ?_
   refine J0 ?_
   go_wp2_with fail
   rw [rounds_succ]
   go_upto_region 9 with fail
   refine wp_region_lit ?_
   refine Lv ?_
   clear ow_s41 J09
   refine LnS ?_ (z := #[.int .u8 0]) (t := 5) (n := 1) (c := 1)
   intro Y7f W7 J48 hO h_
   have J09 : ∀ x, (Value.ownBlock V3o) = some x → Value.ownBlock (.slice (some ⟨Y7f, 0, none⟩) 1 1) ≠ some x := J1k (Owz.lt ow_b) J48
   replace ow_b := Owz.off ow_b hO f0
   replace off0 := off0.o hO
   have ow_s41 : Own W7 (.slice (some ⟨Y7f, 0, none⟩) 1 1) [0] := V7 h_ (by rfl) (by show 1 ≤ maxLen; decide)
   clear hO h_ J48
   refine J0s (xs := ((l ++ [128] ++ List.replicate (zc l.length) 0) ++ [0])) (ys := [0]) (by rfl) rfl rfl rfl ow_b (ow_s41.sl) (by first | omega | (simp only [List.length_append, List.length_cons, List.length_nil, List.length_replicate, J07]; omega)) ?_
   (try simp only [Act.put, mA, mB, mC])
   intro V3p W8 J2j hO J1n
   have J2k := J0r J1n J09 (Own.lt ow_s41)
   have J4s := J0i J1n K2 off0.size
   replace ow_s41 := Own.off ow_s41 hO (fo J09)
   replace off0 := off0.step hO (io K2)
   clear hO J1n
   have ow_b := J2j
   clear J2j
   have K2 := J4s
   have J09 := J2k
   refine Lv ?_
   refine J0 ?_
   go_wp2_with fail
   rw [rounds_succ]
   go_upto_region 9 with fail
   refine wp_region_lit ?_
   refine Lv ?_
   clear ow_s41 J09
   refine LnS ?_ (z := #[.int .u8 0]) (t := 5) (n := 1) (c := 1)
   intro Y7g W9 J48 hO h_
   have J09 : ∀ x, (Value.ownBlock V3p) = some x → Value.ownBlock (.slice (some ⟨Y7g, 0, none⟩) 1 1) ≠ some x := J1k (Owz.lt ow_b) J48
   replace ow_b := Owz.off ow_b hO f0
   replace off0 := off0.o hO
   have ow_s41 : Own W9 (.slice (some ⟨Y7g, 0, none⟩) 1 1) [0] := V7 h_ (by rfl) (by show 1 ≤ maxLen; decide)
   clear hO h_ J48
   refine J0s (xs := (((l ++ [128] ++ List.replicate (zc l.length) 0) ++ [0]) ++ [0])) (ys := [0]) (by rfl) rfl rfl rfl ow_b (ow_s41.sl) (by first | omega | (simp only [List.length_append, List.length_cons, List.length_nil, List.length_replicate, J07]; omega)) ?_
   (try simp only [Act.put, mA, mB, mC])
   intro V07 W10 J2j hO J1n
   have J2k := J0r J1n J09 (Own.lt ow_s41)
   have J4s := J0i J1n K2 off0.size
   replace ow_s41 := Own.off ow_s41 hO (fo J09)
   replace off0 := off0.step hO (io K2)
   clear hO J1n
   have ow_b := J2j
   clear J2j
   have K2 := J4s
   have J09 := J2k
   refine Lv ?_
   refine J0 ?_
   go_wp2_with fail
   rw [rounds_succ]
   go_upto_region 9 with fail
   refine wp_region_lit ?_
   refine Lv ?_
   clear ow_s41 J09
   refine LnS ?_ (z := #[.int .u8 0]) (t := 5) (n := 1) (c := 1)
   intro Y1c W11 J48 hO h_
   have J09 : ∀ x, (Value.ownBlock V07) = some x → Value.ownBlock (.slice (some ⟨Y1c, 0, none⟩) 1 1) ≠ some x := J1k (Owz.lt ow_b) J48
   replace ow_b := Owz.off ow_b hO f0
   replace off0 := off0.o hO
   have ow_s41 : Own W11 (.slice (some ⟨Y1c, 0, none⟩) 1 1) [0] := V7 h_ (by rfl) (by show 1 ≤ maxLen; decide)
   clear hO h_ J48
   refine J0s (xs := ((((l ++ [128] ++ List.replicate (zc l.length) 0) ++ [0]) ++ [0]) ++ [0])) (ys := [0]) (by rfl) rfl rfl rfl ow_b (ow_s41.sl) (by first | omega | (simp only [List.length_append, List.length_cons, List.length_nil, List.length_replicate, J07]; omega)) ?_
   (try simp only [Act.put, mA, mB, mC])
   intro V08 W12 J2j hO J1n
   have J2k := J0r J1n J09 (Own.lt ow_s41)
   have J4s := J0i J1n K2 off0.size
   replace ow_s41 := Own.off ow_s41 hO (fo J09)
   replace off0 := off0.step hO (io K2)
   clear hO J1n
   have ow_b := J2j
   clear J2j
   have K2 := J4s
   have J09 := J2k
   refine Lv ?_
   refine J0 ?_
   go_wp2_with fail
   rw [rounds_succ]
   go_upto_region 9 with fail
   refine wp_region_lit ?_
   refine Lv ?_
   clear ow_s41 J09
   refine LnS ?_ (z := #[.int .u8 0]) (t := 5) (n := 1) (c := 1)
   intro Y1d W13 J48 hO h_
   have J09 : ∀ x, (Value.ownBlock V08) = some x → Value.ownBlock (.slice (some ⟨Y1d, 0, none⟩) 1 1) ≠ some x := J1k (Owz.lt ow_b) J48
   replace ow_b := Owz.off ow_b hO f0
   replace off0 := off0.o hO
   have ow_s41 : Own W13 (.slice (some ⟨Y1d, 0, none⟩) 1 1) [0] := V7 h_ (by rfl) (by show 1 ≤ maxLen; decide)
   clear hO h_ J48
   refine J0s (xs := (((((l ++ [128] ++ List.replicate (zc l.length) 0) ++ [0]) ++ [0]) ++ [0]) ++ [0])) (ys := [0]) (by rfl) rfl rfl rfl ow_b (ow_s41.sl) (by first | omega | (simp only [List.length_append, List.length_cons, List.length_nil, List.length_replicate, J07]; omega)) ?_
   (try simp only [Act.put, mA, mB, mC])
   intro V09 W14 J2j hO J1n
   have J2k := J0r J1n J09 (Own.lt ow_s41)
   have J4s := J0i J1n K2 off0.size
   replace ow_s41 := Own.off ow_s41 hO (fo J09)
   replace off0 := off0.step hO (io K2)
   clear hO J1n
   have ow_b := J2j
   clear J2j
   have K2 := J4s
   have J09 := J2k
   refine Lv ?_
   refine J0 ?_
   go_wp2_with fail
   rw [rounds_succ]
   go_upto_region 9 with fail
   refine wp_region_lit ?_
   refine Lv ?_
   clear ow_s41 J09
   refine LnS ?_ (z := #[.int .u8 0]) (t := 5) (n := 1) (c := 1)
   intro Y1e W15 J48 hO h_
   have J09 : ∀ x, (Value.ownBlock V09) = some x → Value.ownBlock (.slice (some ⟨Y1e, 0, none⟩) 1 1) ≠ some x := J1k (Owz.lt ow_b) J48
   replace ow_b := Owz.off ow_b hO f0
   replace off0 := off0.o hO
   have ow_s41 : Own W15 (.slice (some ⟨Y1e, 0, none⟩) 1 1) [0] := V7 h_ (by rfl) (by show 1 ≤ maxLen; decide)
   clear hO h_ J48
   refine J0s (xs := ((((((l ++ [128] ++ List.replicate (zc l.length) 0) ++ [0]) ++ [0]) ++ [0]) ++ [0]) ++ [0])) (ys := [0]) (by rfl) rfl rfl rfl ow_b (ow_s41.sl) (by first | omega | (simp only [List.length_append, List.length_cons, List.length_nil, List.length_replicate, J07]; omega)) ?_
   (try simp only [Act.put, mA, mB, mC])
   intro V0a W16 J2j hO J1n
   have J2k := J0r J1n J09 (Own.lt ow_s41)
   have J4s := J0i J1n K2 off0.size
   replace ow_s41 := Own.off ow_s41 hO (fo J09)
   replace off0 := off0.step hO (io K2)
   clear hO J1n
   have ow_b := J2j
   clear J2j
   have K2 := J4s
   have J09 := J2k
   refine Lv ?_
   refine J0 ?_
   go_wp2_with fail
   rw [rounds_succ]
   go_upto_region 9 with fail
   refine wp_region_lit ?_
   refine Lv ?_
   clear ow_s41 J09
   refine LnS ?_ (z := #[.int .u8 0]) (t := 5) (n := 1) (c := 1)
   intro Y1f W17 J48 hO h_
   have J09 : ∀ x, (Value.ownBlock V0a) = some x → Value.ownBlock (.slice (some ⟨Y1f, 0, none⟩) 1 1) ≠ some x := J1k (Owz.lt ow_b) J48
   replace ow_b := Owz.off ow_b hO f0
   replace off0 := off0.o hO
   have ow_s41 : Own W17 (.slice (some ⟨Y1f, 0, none⟩) 1 1) [0] := V7 h_ (by rfl) (by show 1 ≤ maxLen; decide)
   clear hO h_ J48
   refine J0s (xs := (((((((l ++ [128] ++ List.replicate (zc l.length) 0) ++ [0]) ++ [0]) ++ [0]) ++ [0]) ++ [0]) ++ [0])) (ys := [0]) (by rfl) rfl rfl rfl ow_b (ow_s41.sl) (by first | omega | (simp only [List.length_append, List.length_cons, List.length_nil, List.length_replicate, J07]; omega)) ?_
   (try simp only [Act.put, mA, mB, mC])
   intro V5p W18 J2j hO J1n
   have J4s := J0i J1n K2 off0.size
   replace ow_s41 := Own.off ow_s41 hO (fo J09)
   replace off0 := off0.step hO (io K2)
   clear hO J1n
   have ow_b := J2j
   clear J2j
   have K2 := J4s
   refine Lv ?_
   refine J0 ?_
   go_wp2_with fail
   rw [rounds_succ]
   go_upto_region 9 with fail
   refine wp_region_lit ?_
   refine Lv ?_
   clear ow_s41 J09
   refine LnS ?_ (z := #[.int .u8 0]) (t := 5) (n := 1) (c := 1)
   intro V0b W19 J48 hO h_
   replace ow_b := Owz.off ow_b hO f0
   replace off0 := off0.o hO
   have ow_s41 : Own W19 (.slice (some ⟨V0b, 0, none⟩) 1 1) [0] := V7 h_ (by rfl) (by show 1 ≤ maxLen; decide)
   clear hO h_ J48
   refine J0s (xs := ((((((((l ++ [128] ++ List.replicate (zc l.length) 0) ++ [0]) ++ [0]) ++ [0]) ++ [0]) ++ [0]) ++ [0]) ++ [0])) (ys := [0]) (by rfl) rfl rfl rfl ow_b (ow_s41.sl) (by first | omega | (simp only [List.length_append, List.length_cons, List.length_nil, List.length_replicate, J07]; omega)) ?_
   (try simp only [Act.put, mA, mB, mC])
   intro V0c W20 J2j hO J1n
   have J4s := J0i J1n K2 off0.size
   replace off0 := off0.step hO (io K2)
   clear hO J1n
   have ow_b := J2j
   clear J2j
   have K2 := J4s
   refine Lv ?_
   refine J0 ?_
   go_wp2_with fail
   rw [rounds_succ]
   go_upto_region 10 with fail
   refine wp_region_lit ?_
   refine Lv ?_
   refine Lv ?_
   refine Lw ?_ (v := .int .i64 (((8 * l.length : Nat) : Int))) (hv := by go_simp; (try simp only [IntKind.wrap_u64, IntKind.wrap_i64]); (try omega))
   refine Lw ?_ (v := .int .i64 56)
   refine Lw ?_ (v := .int .i64 (((8 * l.length / 72057594037927936 : Nat) : Int))) (hv := by rw [← J8y (8 * l.length) 56 72057594037927936 (by decide)]; exact J50 (n := 56) (by decide) rfl rfl rfl)
   refine Lw ?_ (v := .int .u8 ((u8 ((8 * l.length) / 72057594037927936)).toNat : Int)) (hv := by rw [← J8x (8 * l.length) 72057594037927936]; exact J6t rfl rfl)
   refine LnS ?_ (z := #[.int .u8 ((u8 ((8 * l.length) / 72057594037927936)).toNat : Int)]) (t := 5) (n := 1) (c := 1)
   intro Q95 W21 J17 hO h_
   have Y6 : ∀ x, (Value.ownBlock V0c) = some x → Value.ownBlock (.slice (some ⟨Q95, 0, none⟩) 1 1) ≠ some x := J1k (Owz.lt ow_b) J17
   replace ow_b := Owz.off ow_b hO f0
   replace off0 := off0.o hO
   have ow_s49 : Own W21 (.slice (some ⟨Q95, 0, none⟩) 1 1) [u8 ((8 * l.length) / 72057594037927936)] := V7 h_ (by rfl) (by show 1 ≤ maxLen; decide)
   clear hO h_ J17
   refine J0s (xs := (((((((((l ++ [128] ++ List.replicate (zc l.length) 0) ++ [0]) ++ [0]) ++ [0]) ++ [0]) ++ [0]) ++ [0]) ++ [0]) ++ [0])) (ys := [u8 ((8 * l.length) / 72057594037927936)]) (by rfl) rfl rfl rfl ow_b (ow_s49.sl) (by first | omega | (simp only [List.length_append, List.length_cons, List.length_nil, List.length_replicate, J07]; omega)) ?_
   (try simp only [Act.put, mA, mB, mC])
   intro Q65 W22 J0e hO V9
   have J0f := J0r V9 Y6 (Own.lt ow_s49)
   have J1m := J0i V9 K2 off0.size
   replace ow_s49 := Own.off ow_s49 hO (fo Y6)
   replace off0 := off0.step hO (io K2)
   clear hO V9
   have ow_b := J0e
   clear J0e
   have K2 := J1m
   have Y6 := J0f
   refine Lv ?_
   refine J0 ?_
   go_wp2_with fail
   rw [rounds_succ]
   go_upto_region 10 with fail
   refine wp_region_lit ?_
   refine Lv ?_
   refine Lv ?_
   refine Lw ?_ (v := .int .i64 (((8 * l.length : Nat) : Int))) (hv := by go_simp; (try simp only [IntKind.wrap_u64, IntKind.wrap_i64]); (try omega))
   refine Lw ?_ (v := .int .i64 48)
   refine Lw ?_ (v := .int .i64 (((8 * l.length / 281474976710656 : Nat) : Int))) (hv := by rw [← J8y (8 * l.length) 48 281474976710656 (by decide)]; exact J50 (n := 48) (by decide) rfl rfl rfl)
   refine Lw ?_ (v := .int .u8 ((u8 ((8 * l.length) / 281474976710656)).toNat : Int)) (hv := by rw [← J8x (8 * l.length) 281474976710656]; exact J6t rfl rfl)
   clear ow_s49 Y6
   refine LnS ?_ (z := #[.int .u8 ((u8 ((8 * l.length) / 281474976710656)).toNat : Int)]) (t := 5) (n := 1) (c := 1)
   intro Y1g W23 J17 hO h_
   have Y6 : ∀ x, (Value.ownBlock Q65) = some x → Value.ownBlock (.slice (some ⟨Y1g, 0, none⟩) 1 1) ≠ some x := J1k (Owz.lt ow_b) J17
   replace ow_b := Owz.off ow_b hO f0
   replace off0 := off0.o hO
   have ow_s49 : Own W23 (.slice (some ⟨Y1g, 0, none⟩) 1 1) [u8 ((8 * l.length) / 281474976710656)] := V7 h_ (by rfl) (by show 1 ≤ maxLen; decide)
   clear hO h_ J17
   refine J0s (xs := ((((((((((l ++ [128] ++ List.replicate (zc l.length) 0) ++ [0]) ++ [0]) ++ [0]) ++ [0]) ++ [0]) ++ [0]) ++ [0]) ++ [0]) ++ [u8 ((8 * l.length) / 72057594037927936)])) (ys := [u8 ((8 * l.length) / 281474976710656)]) (by rfl) rfl rfl rfl ow_b (ow_s49.sl) (by first | omega | (simp only [List.length_append, List.length_cons, List.length_nil, List.length_replicate, J07]; omega)) ?_
   (try simp only [Act.put, mA, mB, mC])
   intro V0d W24 J0e hO V9
   have J0f := J0r V9 Y6 (Own.lt ow_s49)
   have J1m := J0i V9 K2 off0.size
   replace ow_s49 := Own.off ow_s49 hO (fo Y6)
   replace off0 := off0.step hO (io K2)
   clear hO V9
   have ow_b := J0e
   clear J0e
   have K2 := J1m
   have Y6 := J0f
   refine Lv ?_
   refine J0 ?_
   go_wp2_with fail
   rw [rounds_succ]
   go_upto_region 10 with fail
   refine wp_region_lit ?_
   refine Lv ?_
   refine Lv ?_
   refine Lw ?_ (v := .int .i64 (((8 * l.length : Nat) : Int))) (hv := by go_simp; (try simp only [IntKind.wrap_u64, IntKind.wrap_i64]); (try omega))
   refine Lw ?_ (v := .int .i64 40)
   refine Lw ?_ (v := .int .i64 (((8 * l.length / 1099511627776 : Nat) : Int))) (hv := by rw [← J8y (8 * l.length) 40 1099511627776 (by decide)]; exact J50 (n := 40) (by decide) rfl rfl rfl)
   refine Lw ?_ (v := .int .u8 ((u8 ((8 * l.length) / 1099511627776)).toNat : Int)) (hv := by rw [← J8x (8 * l.length) 1099511627776]; exact J6t rfl rfl)
   clear ow_s49 Y6
   refine LnS ?_ (z := #[.int .u8 ((u8 ((8 * l.length) / 1099511627776)).toNat : Int)]) (t := 5) (n := 1) (c := 1)
   intro Y1h W25 J17 hO h_
   have Y6 : ∀ x, (Value.ownBlock V0d) = some x → Value.ownBlock (.slice (some ⟨Y1h, 0, none⟩) 1 1) ≠ some x := J1k (Owz.lt ow_b) J17
   replace ow_b := Owz.off ow_b hO f0
   replace off0 := off0.o hO
   have ow_s49 : Own W25 (.slice (some ⟨Y1h, 0, none⟩) 1 1) [u8 ((8 * l.length) / 1099511627776)] := V7 h_ (by rfl) (by show 1 ≤ maxLen; decide)
   clear hO h_ J17
   refine J0s (xs := (((((((((((l ++ [128] ++ List.replicate (zc l.length) 0) ++ [0]) ++ [0]) ++ [0]) ++ [0]) ++ [0]) ++ [0]) ++ [0]) ++ [0]) ++ [u8 ((8 * l.length) / 72057594037927936)]) ++ [u8 ((8 * l.length) / 281474976710656)])) (ys := [u8 ((8 * l.length) / 1099511627776)]) (by rfl) rfl rfl rfl ow_b (ow_s49.sl) (by first | omega | (simp only [List.length_append, List.length_cons, List.length_nil, List.length_replicate, J07]; omega)) ?_
   (try simp only [Act.put, mA, mB, mC])
   intro V0e W26 J0e hO V9
   have J0f := J0r V9 Y6 (Own.lt ow_s49)
   have J1m := J0i V9 K2 off0.size
   replace ow_s49 := Own.off ow_s49 hO (fo Y6)
   replace off0 := off0.step hO (io K2)
   clear hO V9
   have ow_b := J0e
   clear J0e
   have K2 := J1m
   have Y6 := J0f
   refine Lv ?_
   refine J0 ?_
   go_wp2_with fail
   rw [rounds_succ]
   go_upto_region 10 with fail
   refine wp_region_lit ?_
   refine Lv ?_
   refine Lv ?_
   refine Lw ?_ (v := .int .i64 (((8 * l.length : Nat) : Int))) (hv := by go_simp; (try simp only [IntKind.wrap_u64, IntKind.wrap_i64]); (try omega))
   refine Lw ?_ (v := .int .i64 32)
   refine Lw ?_ (v := .int .i64 (((8 * l.length / 4294967296 : Nat) : Int))) (hv := by rw [← J8y (8 * l.length) 32 4294967296 (by decide)]; exact J50 (n := 32) (by decide) rfl rfl rfl)
   refine Lw ?_ (v := .int .u8 ((u8 ((8 * l.length) / 4294967296)).toNat : Int)) (hv := by rw [← J8x (8 * l.length) 4294967296]; exact J6t rfl rfl)
   clear ow_s49 Y6
   refine LnS ?_ (z := #[.int .u8 ((u8 ((8 * l.length) / 4294967296)).toNat : Int)]) (t := 5) (n := 1) (c := 1)
   intro Y1i W27 J17 hO h_
   have Y6 : ∀ x, (Value.ownBlock V0e) = some x → Value.ownBlock (.slice (some ⟨Y1i, 0, none⟩) 1 1) ≠ some x := J1k (Owz.lt ow_b) J17
   replace ow_b := Owz.off ow_b hO f0
   replace off0 := off0.o hO
   have ow_s49 : Own W27 (.slice (some ⟨Y1i, 0, none⟩) 1 1) [u8 ((8 * l.length) / 4294967296)] := V7 h_ (by rfl) (by show 1 ≤ maxLen; decide)
   clear hO h_ J17
   refine J0s (xs := ((((((((((((l ++ [128] ++ List.replicate (zc l.length) 0) ++ [0]) ++ [0]) ++ [0]) ++ [0]) ++ [0]) ++ [0]) ++ [0]) ++ [0]) ++ [u8 ((8 * l.length) / 72057594037927936)]) ++ [u8 ((8 * l.length) / 281474976710656)]) ++ [u8 ((8 * l.length) / 1099511627776)])) (ys := [u8 ((8 * l.length) / 4294967296)]) (by rfl) rfl rfl rfl ow_b (ow_s49.sl) (by first | omega | (simp only [List.length_append, List.length_cons, List.length_nil, List.length_replicate, J07]; omega)) ?_
   (try simp only [Act.put, mA, mB, mC])
   intro V0f W28 J0e hO V9
   have J0f := J0r V9 Y6 (Own.lt ow_s49)
   have J1m := J0i V9 K2 off0.size
   replace ow_s49 := Own.off ow_s49 hO (fo Y6)
   replace off0 := off0.step hO (io K2)
   clear hO V9
   have ow_b := J0e
   clear J0e
   have K2 := J1m
   have Y6 := J0f
   refine Lv ?_
   refine J0 ?_
   go_wp2_with fail
   rw [rounds_succ]
   go_upto_region 10 with fail
   refine wp_region_lit ?_
   refine Lv ?_
   refine Lv ?_
   refine Lw ?_ (v := .int .i64 (((8 * l.length : Nat) : Int))) (hv := by go_simp; (try simp only [IntKind.wrap_u64, IntKind.wrap_i64]); (try omega))
   refine Lw ?_ (v := .int .i64 24)
   refine Lw ?_ (v := .int .i64 (((8 * l.length / 16777216 : Nat) : Int))) (hv := by rw [← J8y (8 * l.length) 24 16777216 (by decide)]; exact J50 (n := 24) (by decide) rfl rfl rfl)
   refine Lw ?_ (v := .int .u8 ((u8 ((8 * l.length) / 16777216)).toNat : Int)) (hv := by rw [← J8x (8 * l.length) 16777216]; exact J6t rfl rfl)
   clear ow_s49 Y6
   refine LnS ?_ (z := #[.int .u8 ((u8 ((8 * l.length) / 16777216)).toNat : Int)]) (t := 5) (n := 1) (c := 1)
   intro Y1j W29 J17 hO h_
   have Y6 : ∀ x, (Value.ownBlock V0f) = some x → Value.ownBlock (.slice (some ⟨Y1j, 0, none⟩) 1 1) ≠ some x := J1k (Owz.lt ow_b) J17
   replace ow_b := Owz.off ow_b hO f0
   replace off0 := off0.o hO
   have ow_s49 : Own W29 (.slice (some ⟨Y1j, 0, none⟩) 1 1) [u8 ((8 * l.length) / 16777216)] := V7 h_ (by rfl) (by show 1 ≤ maxLen; decide)
   clear hO h_ J17
   refine J0s (xs := (((((((((((((l ++ [128] ++ List.replicate (zc l.length) 0) ++ [0]) ++ [0]) ++ [0]) ++ [0]) ++ [0]) ++ [0]) ++ [0]) ++ [0]) ++ [u8 ((8 * l.length) / 72057594037927936)]) ++ [u8 ((8 * l.length) / 281474976710656)]) ++ [u8 ((8 * l.length) / 1099511627776)]) ++ [u8 ((8 * l.length) / 4294967296)])) (ys := [u8 ((8 * l.length) / 16777216)]) (by rfl) rfl rfl rfl ow_b (ow_s49.sl) (by first | omega | (simp only [List.length_append, List.length_cons, List.length_nil, List.length_replicate, J07]; omega)) ?_
   (try simp only [Act.put, mA, mB, mC])
   intro V0g W30 J0e hO V9
   have J0f := J0r V9 Y6 (Own.lt ow_s49)
   have J1m := J0i V9 K2 off0.size
   replace ow_s49 := Own.off ow_s49 hO (fo Y6)
   replace off0 := off0.step hO (io K2)
   clear hO V9
   have ow_b := J0e
   clear J0e
   have K2 := J1m
   have Y6 := J0f
   refine Lv ?_
   refine J0 ?_
   go_wp2_with fail
   rw [rounds_succ]
   go_upto_region 10 with fail
   refine wp_region_lit ?_
   refine Lv ?_
   refine Lv ?_
   refine Lw ?_ (v := .int .i64 (((8 * l.length : Nat) : Int))) (hv := by go_simp; (try simp only [IntKind.wrap_u64, IntKind.wrap_i64]); (try omega))
   refine Lw ?_ (v := .int .i64 16)
   refine Lw ?_ (v := .int .i64 (((8 * l.length / 65536 : Nat) : Int))) (hv := by rw [← J8y (8 * l.length) 16 65536 (by decide)]; exact J50 (n := 16) (by decide) rfl rfl rfl)
   refine Lw ?_ (v := .int .u8 ((u8 ((8 * l.length) / 65536)).toNat : Int)) (hv := by rw [← J8x (8 * l.length) 65536]; exact J6t rfl rfl)
   clear ow_s49 Y6
   refine LnS ?_ (z := #[.int .u8 ((u8 ((8 * l.length) / 65536)).toNat : Int)]) (t := 5) (n := 1) (c := 1)
   intro Y1k W31 J17 hO h_
   have Y6 : ∀ x, (Value.ownBlock V0g) = some x → Value.ownBlock (.slice (some ⟨Y1k, 0, none⟩) 1 1) ≠ some x := J1k (Owz.lt ow_b) J17
   replace ow_b := Owz.off ow_b hO f0
   replace off0 := off0.o hO
   have ow_s49 : Own W31 (.slice (some ⟨Y1k, 0, none⟩) 1 1) [u8 ((8 * l.length) / 65536)] := V7 h_ (by rfl) (by show 1 ≤ maxLen; decide)
   clear hO h_ J17
   refine J0s (xs := ((((((((((((((l ++ [128] ++ List.replicate (zc l.length) 0) ++ [0]) ++ [0]) ++ [0]) ++ [0]) ++ [0]) ++ [0]) ++ [0]) ++ [0]) ++ [u8 ((8 * l.length) / 72057594037927936)]) ++ [u8 ((8 * l.length) / 281474976710656)]) ++ [u8 ((8 * l.length) / 1099511627776)]) ++ [u8 ((8 * l.length) / 4294967296)]) ++ [u8 ((8 * l.length) / 16777216)])) (ys := [u8 ((8 * l.length) / 65536)]) (by rfl) rfl rfl rfl ow_b (ow_s49.sl) (by first | omega | (simp only [List.length_append, List.length_cons, List.length_nil, List.length_replicate, J07]; omega)) ?_
   (try simp only [Act.put, mA, mB, mC])
   intro V0h W32 J0e hO V9
   have J0f := J0r V9 Y6 (Own.lt ow_s49)
   have J1m := J0i V9 K2 off0.size
   replace ow_s49 := Own.off ow_s49 hO (fo Y6)
   replace off0 := off0.step hO (io K2)
   clear hO V9
   have ow_b := J0e
   clear J0e
   have K2 := J1m
   have Y6 := J0f
   refine Lv ?_
   refine J0 ?_
   go_wp2_with fail
   rw [rounds_succ]
   go_upto_region 10 with fail
   refine wp_region_lit ?_
   refine Lv ?_
   refine Lv ?_
   refine Lw ?_ (v := .int .i64 (((8 * l.length : Nat) : Int))) (hv := by go_simp; (try simp only [IntKind.wrap_u64, IntKind.wrap_i64]); (try omega))
   refine Lw ?_ (v := .int .i64 8)
   refine Lw ?_ (v := .int .i64 (((8 * l.length / 256 : Nat) : Int))) (hv := by rw [← J8y (8 * l.length) 8 256 (by decide)]; exact J50 (n := 8) (by decide) rfl rfl rfl)
   refine Lw ?_ (v := .int .u8 ((u8 ((8 * l.length) / 256)).toNat : Int)) (hv := by rw [← J8x (8 * l.length) 256]; exact J6t rfl rfl)
   clear ow_s49 Y6
   refine LnS ?_ (z := #[.int .u8 ((u8 ((8 * l.length) / 256)).toNat : Int)]) (t := 5) (n := 1) (c := 1)
   intro Y1l W33 J17 hO h_
   have Y6 : ∀ x, (Value.ownBlock V0h) = some x → Value.ownBlock (.slice (some ⟨Y1l, 0, none⟩) 1 1) ≠ some x := J1k (Owz.lt ow_b) J17
   replace ow_b := Owz.off ow_b hO f0
   replace off0 := off0.o hO
   have ow_s49 : Own W33 (.slice (some ⟨Y1l, 0, none⟩) 1 1) [u8 ((8 * l.length) / 256)] := V7 h_ (by rfl) (by show 1 ≤ maxLen; decide)
   clear hO h_ J17
   refine J0s (xs := (((((((((((((((l ++ [128] ++ List.replicate (zc l.length) 0) ++ [0]) ++ [0]) ++ [0]) ++ [0]) ++ [0]) ++ [0]) ++ [0]) ++ [0]) ++ [u8 ((8 * l.length) / 72057594037927936)]) ++ [u8 ((8 * l.length) / 281474976710656)]) ++ [u8 ((8 * l.length) / 1099511627776)]) ++ [u8 ((8 * l.length) / 4294967296)]) ++ [u8 ((8 * l.length) / 16777216)]) ++ [u8 ((8 * l.length) / 65536)])) (ys := [u8 ((8 * l.length) / 256)]) (by rfl) rfl rfl rfl ow_b (ow_s49.sl) (by first | omega | (simp only [List.length_append, List.length_cons, List.length_nil, List.length_replicate, J07]; omega)) ?_
   (try simp only [Act.put, mA, mB, mC])
   intro V5q W34 J0e hO V9
   have J1m := J0i V9 K2 off0.size
   replace ow_s49 := Own.off ow_s49 hO (fo Y6)
   replace off0 := off0.step hO (io K2)
   clear hO V9
   have ow_b := J0e
   clear J0e
   have K2 := J1m
   refine Lv ?_
   refine J0 ?_
   go_wp2_with fail
   rw [rounds_succ]
   go_upto_region 10 with fail
   refine wp_region_lit ?_
   refine Lv ?_
   refine Lv ?_
   refine Lw ?_ (v := .int .i64 (((8 * l.length : Nat) : Int))) (hv := by go_simp; (try simp only [IntKind.wrap_u64, IntKind.wrap_i64]); (try omega))
   refine Lw ?_ (v := .int .i64 0)
   refine Lw ?_ (v := .int .i64 (((8 * l.length : Nat) : Int))) (hv := by exact Z1t rfl rfl rfl)
   refine Lw ?_ (v := .int .u8 ((u8 (8 * l.length)).toNat : Int)) (hv := by rw [← Y4u (8 * l.length)]; exact J6t rfl rfl)
   clear ow_s49 Y6
   refine LnS ?_ (z := #[.int .u8 ((u8 (8 * l.length)).toNat : Int)]) (t := 5) (n := 1) (c := 1)
   intro V0i W35 J17 hO h_
   replace ow_b := Owz.off ow_b hO f0
   replace off0 := off0.o hO
   have ow_s49 : Own W35 (.slice (some ⟨V0i, 0, none⟩) 1 1) [u8 (8 * l.length)] := V7 h_ (by rfl) (by show 1 ≤ maxLen; decide)
   clear hO h_ J17
   refine J0s (xs := ((((((((((((((((l ++ [128] ++ List.replicate (zc l.length) 0) ++ [0]) ++ [0]) ++ [0]) ++ [0]) ++ [0]) ++ [0]) ++ [0]) ++ [0]) ++ [u8 ((8 * l.length) / 72057594037927936)]) ++ [u8 ((8 * l.length) / 281474976710656)]) ++ [u8 ((8 * l.length) / 1099511627776)]) ++ [u8 ((8 * l.length) / 4294967296)]) ++ [u8 ((8 * l.length) / 16777216)]) ++ [u8 ((8 * l.length) / 65536)]) ++ [u8 ((8 * l.length) / 256)])) (ys := [u8 (8 * l.length)]) (by rfl) rfl rfl rfl ow_b (ow_s49.sl) (by first | omega | (simp only [List.length_append, List.length_cons, List.length_nil, List.length_replicate, J07]; omega)) ?_
   (try simp only [Act.put, mA, mB, mC])
   intro Q3a W36 J0e hO V9
   have J1m := J0i V9 K2 off0.size
   replace off0 := off0.step hO (io K2)
   clear hO V9
   have ow_b := J0e
   clear J0e
   have K2 := J1m
   refine Lv ?_
   refine J0 ?_
   go_wp2_with fail
   rw [rounds_succ]
   go_upto_region 11 with fail
   refine wp_region_lit ?_
   refine Q44 (by rfl) rfl rfl ((J59 HG.out off0.ext).2) (by kernel_rfl) (by rw [Q1]; kernel_rfl) ?_
   (try simp only [Act.put, mA, mB, mC])
   refine LnP ?_ (z := J1 .u64 8 (fun _ => 0)) (t := 113) (cells := J1 .u64 8 hf) (hi := by rw [Q1]; kernel_rfl) (hs := by rw [Q1, Q1]) (h1 := by exact Y7 _ _ _)
   intro J5b W38 J1c hO h_
   have J0y := J0m (Owz.lt ow_b) J1c
   have J4w := fbn off0 J1c
   replace ow_b := Owz.off ow_b hO f0
   replace off0 := off0.o hO
   have k_t6 := h_
   clear hO h_ J1c
   refine J0 ?_
   clear ow_s41 J09
   clear ow_s49 Y6
   rw [Y4w] at ow_b
   have ow_b : Owz W38 Q3a (Y0 l) := ow_b
   go_wp2_with fail
   go_loopw [7] (fun ii wr => ∃ (j : Nat), (j ≤ nb l.length) ∧ (ii = .int .i64 ((128 * j : Nat) : Int)) ∧ Off [] w wr ∧ Blk wr J5b (J1 .u64 8 (Hs (Y0 l) j)) 113 ∧ Owz wr Q3a (Y0 l))
    (fun ii _ => 128 * nb l.length - (intOf ii).toNat)
   case atStart => exact ⟨0, Nat.zero_le _, rfl, off0, k_t6, ow_b⟩
   case round =>
    obtain ⟨j, hj, rfl, off0, k_t6, ow_b⟩ := hrel
    obtain ⟨W39, eW_⟩ := J3r off0
    subst eW_
    by_cases hjl : j < nb l.length
    ·
     have _f := hjl
     go_upto_region 13 with fail
     refine wp_region_lit ?_
     refine Lv ?_
     refine Lv ?_
     refine J5w (l := (Y0 l)) (ow_b.sl) (by rfl) rfl rfl ?_
     (try simp only [Act.put, mA, mB, mC])
     refine Lw ?_ (v := .bool true) (hv := by first | (go_simp; done) | (go_simp; (try simp only [hpl]); omega))
     refine J0 ?_
     go_upto_region 15 with fail
     refine wp_region_lit ?_
     refine Ln ?_ (z := J1 .u64 80 (fun _ => 0)) (t := 118)
     intro J7j W40 V6 hO h_
     have nq_t6_t8 := bn k_t6 V6
     have Q2e := J0m (Owz.lt ow_b) V6
     have J1v := fbn off0 V6
     replace k_t6 := k_t6.o hO
     replace ow_b := Owz.off ow_b hO f0
     replace off0 := off0.o hO
     have k_t8 := h_
     clear hO h_ V6
     refine J0 ?_
     go_wp2_with fail
     go_loopw [9] (fun ii wr => ∃ (i : Nat), (i ≤ 80) ∧ (ii = .int .i64 (i : Int)) ∧ Off [] w wr ∧ Blk wr J5b (J1 .u64 8 (Hs (Y0 l) j)) 113 ∧ Blk wr J7j (J1 .u64 80 (rst (bt (List.drop (128 * j) (Y0 l))) i)) 118 ∧ Owz wr Q3a (Y0 l))
      (fun ii _ => 80 - (intOf ii).toNat)
     case atStart => exact ⟨0, Nat.zero_le _, rfl, off0, k_t6, (by rw [Z1v (by decide), Nat.mul_zero, Z0d]; exact k_t8), ow_b⟩
     case round =>
      obtain ⟨i, hi, rfl, off0, k_t6, k_t8, ow_b⟩ := hrel
      obtain ⟨W41, eW_⟩ := J3r off0
      subst eW_
      by_cases h80 : i < 80
      ·
       have _f := h80
       go_upto_region 17 with fail
       refine wp_region_lit ?_
       refine Lv ?_
       refine Lw ?_ (v := .bool true)
       refine J0 ?_
       by_cases h16 : i < 16
       ·
        have _f := h16
        rw [Z1v h16] at k_t8
        go_upto_region 19 with fail
        refine wp_region_lit ?_
        refine Lv ?_
        refine Lw ?_ (v := .bool true)
        refine J0 ?_
        go_wp2_with fail
        go_loopw [10] (fun jj wr => ∃ (k : Nat), (k ≤ 8) ∧ (jj = .int .i64 (k : Int)) ∧ Off [] w wr ∧ Blk wr J5b (J1 .u64 8 (Hs (Y0 l) j)) 113 ∧ Blk wr J7j (J1 .u64 80 (fst (bt (List.drop (128 * j) (Y0 l))) (8 * i + k))) 118 ∧ Owz wr Q3a (Y0 l))
         (fun jj _ => 8 - (intOf jj).toNat)
        case atStart => exact ⟨0, Nat.zero_le _, rfl, off0, k_t6, k_t8, ow_b⟩
        case round =>
         obtain ⟨k, hk, rfl, off0, k_t6, k_t8, ow_b⟩ := hrel
         obtain ⟨W42, eW_⟩ := J3r off0
         subst eW_
         by_cases hk8 : k < 8
         ·
          have _f := hk8
          obtain ⟨J, hJe⟩ : ∃ J, 128 * j + 8 * i + k = J := ⟨_, rfl⟩
          have hJ : J < (Y0 l).length := by rw [hpl]; omega
          obtain ⟨ad_, c_, hb_, hcell_⟩ := Z49 ow_b.sl (by omega)
          have hcx_ := hcell_ _ _ (Q77 hJ)
          clear hcell_
          replace hb_ := Lib.hid hb_
          go_upto_region 21 with fail
          refine wp_region_lit ?_
          refine Lv ?_
          refine Lw ?_ (v := .bool true)
          refine J0 ?_
          go_upto_region 23 with fail
          refine J06 17 [] (by kernel_rfl) (fun x hx => by cases hx) (by kernel_rfl) ?_
          simp only [List.take_succ_cons, List.take_zero, List.take_nil]
          (try simp only [Act.put, mA, mB, mC])
          refine Xv ?_
          refine Xv ?_
          refine Xw ?_ (v := .pointer (some ⟨J7j, 0 + i, none⟩)) (hv := fun _ _ => Q0 (m := 80) (by decide) (by omega) Tryd.underlying118 (by kernel_rfl) rfl rfl rfl)
          refine Xc ?_ (v := .int .u64 ((fst (bt (List.drop (128 * j) (Y0 l))) (8 * i + k)) i)) (J00 k_t8) (hj := by rw [Nat.zero_add]; exact J6 _ _ _ _ (by omega))
          refine Xw ?_ (v := .int .u64 (sl ((fst (bt (List.drop (128 * j) (Y0 l))) (8 * i + k)) i) 8)) (hv := fun _ _ => Q26 (n := 8) (by decide) rfl rfl rfl)
          refine Xv ?_
          refine Xv ?_
          refine Xv ?_
          refine Xw ?_ (v := .int .i64 (((8 * i : Nat) : Int))) (hv := fun _ _ => by go_simp; (try simp only [IntKind.wrap_u64, IntKind.wrap_i64]); (try omega))
          refine Xw ?_ (v := .int .i64 (((128 * j + 8 * i : Nat) : Int))) (hv := fun _ _ => by go_simp; (try simp only [IntKind.wrap_u64, IntKind.wrap_i64]); (try omega))
          refine Xv ?_
          refine Xw ?_ (v := .int .i64 (((J : Nat) : Int))) (hv := fun _ _ => by go_simp; (try simp only [IntKind.wrap_u64, IntKind.wrap_i64]); (try omega))
          (refine J4j (v := ?_) (by rfl) (fun W hW => ?_) ?_; rotate_left 1; (focus (refine Q8v (j := J) (n := (Y0 l).length) (c := c_) (ad := ad_) (k := .i64) (x := .tmp 73) (y := .tmp 79) hJ ?_ ?_ ?_; (focus rfl); (focus exact hb_.out); (focus rfl))))
          (try simp only [Act.put, mA, mB, mC])
          refine Z9v (by rfl) rfl rfl (fun W hW => J75 hcx_ hW) (by kernel_rfl) ?_
          (try simp only [Act.put, mA, mB, mC])
          refine Xw ?_ (v := .int .u64 (bt (Y0 l) J)) (hv := fun _ _ => by exact Z9z rfl rfl)
          refine Xw ?_ (v := .int .u64 (oo (sl ((fst (bt (List.drop (128 * j) (Y0 l))) (8 * i + k)) i) 8) (bt (Y0 l) J))) (hv := fun _ _ => Q8w rfl rfl rfl)
          refine Xw ?_ (v := .pointer (some ⟨J7j, 0 + i, none⟩)) (hv := fun _ _ => Q0 (m := 80) (by decide) (by omega) Tryd.underlying118 (by kernel_rfl) rfl rfl rfl)
          refine Q3 ?_
          intro β W43 hE hN hD
          clear hN hD
          simp only [J0l, Act.put, mA, mB, mC, List.drop_succ_cons, List.drop_zero, List.drop_nil, List.length_nil, Nat.add_zero]
          have hO := Z6 hE
          replace k_t6 := k_t6.o hO
          replace k_t8 := k_t8.o hO
          replace ow_b := Owz.off ow_b hO f0
          replace off0 := off0.o hO
          clear hO hE β
          refine J2i (v := .int .u64 (oo (sl ((fst (bt (List.drop (128 * j) (Y0 l))) (8 * i + k)) i) 8) (bt (Y0 l) J))) ⟨rfl, rfl⟩ (by rfl) rfl rfl rfl k_t8 (by rw [Q1, Nat.zero_add]; omega) (by kernel_rfl) ?_
          (try simp only [Act.put, mA, mB, mC])
          intro W44 hO h_
          rw [Nat.zero_add, J04] at h_
          replace k_t8 : Blk W44 J7j (J1 .u64 80 (upd (fst (bt (List.drop (128 * j) (Y0 l))) (8 * i + k)) i (oo (sl ((fst (bt (List.drop (128 * j) (Y0 l))) (8 * i + k)) i) 8) (bt (Y0 l) J)))) 118 := h_
          clear h_
          replace k_t6 := k_t6.p hO nq_t6_t8
          replace ow_b := Owz.off ow_b hO (f1 Q2e)
          replace off0 := off0.p hO J1v
          clear hO
          refine LN ?_
          go_wp2
          go_roundw
          case rel => exact ⟨k + 1, by omega, by go_num, off0, k_t6, (by rw [← Y09 _ _ _ _ h16 hk8, hJe]; exact k_t8), ow_b⟩
          case measure => simp [intOf]; omega
         ·
          have _f := hk8
          obtain rfl : k = 8 := by omega
          go_upto_region 21 with fail
          refine wp_region_lit ?_
          refine Lv ?_
          refine Lw ?_ (v := .bool false)
          refine J0 ?_
          go_wp2
          go_roundw
          case rel => exact ⟨i + 1, by omega, by go_num, off0, k_t6, (by rw [← Y08 h16]; exact k_t8), ow_b⟩
          case measure => simp [intOf]; omega
       ·
        have _f := h16
        replace h16 : 16 ≤ i := by omega
        rw [Q90 h16] at k_t8
        go_upto_region 19 with fail
        refine wp_region_lit ?_
        refine Lv ?_
        refine Lw ?_ (v := .bool false)
        refine J0 ?_
        go_upto_region 24 with fail
        refine J06 10 [] (by kernel_rfl) (fun x hx => by cases hx) (by kernel_rfl) ?_
        simp only [List.take_succ_cons, List.take_zero, List.take_nil]
        (try simp only [Act.put, mA, mB, mC])
        refine Xv ?_
        refine Xw ?_ (v := .int .i64 (((i - 15 : Nat) : Int))) (hv := fun _ _ => by go_simp; (try simp only [IntKind.wrap_u64, IntKind.wrap_i64]); (try omega))
        refine Xw ?_ (v := .pointer (some ⟨J7j, 0 + (i - 15), none⟩)) (hv := fun _ _ => Q0 (m := 80) (by decide) (by omega) Tryd.underlying118 (by kernel_rfl) rfl rfl rfl)
        refine Xc ?_ (v := .int .u64 ((Y9 (bt (List.drop (128 * j) (Y0 l))) i) (i - 15))) (J00 k_t8) (hj := by rw [Nat.zero_add]; exact J6 _ _ _ _ (by omega))
        refine Xv ?_
        refine Xw ?_ (v := .int .i64 (((i - 2 : Nat) : Int))) (hv := fun _ _ => by go_simp; (try simp only [IntKind.wrap_u64, IntKind.wrap_i64]); (try omega))
        refine Xw ?_ (v := .pointer (some ⟨J7j, 0 + (i - 2), none⟩)) (hv := fun _ _ => Q0 (m := 80) (by decide) (by omega) Tryd.underlying118 (by kernel_rfl) rfl rfl rfl)
        refine Xc ?_ (v := .int .u64 ((Y9 (bt (List.drop (128 * j) (Y0 l))) i) (i - 2))) (J00 k_t8) (hj := by rw [Nat.zero_add]; exact J6 _ _ _ _ (by omega))
        refine Xv ?_
        refine Xv ?_
        refine Q3 ?_
        intro β W42 hE hN hD
        clear hN hD
        simp only [J0l, Act.put, mA, mB, mC, List.drop_succ_cons, List.drop_zero, List.drop_nil, List.length_nil, Nat.add_zero]
        have hO := Z6 hE
        replace k_t6 := k_t6.o hO
        replace k_t8 := k_t8.o hO
        replace ow_b := Owz.off ow_b hO f0
        replace off0 := off0.o hO
        clear hO hE β
        refine LN ?_
        go_upto_region 25 with fail
        refine J06 29 [] (by kernel_rfl) (fun x hx => by cases hx) (by kernel_rfl) ?_
        simp only [List.take_succ_cons, List.take_zero, List.take_nil]
        (try simp only [Act.put, mA, mB, mC])
        refine Xv ?_
        refine Xv ?_
        refine Xw ?_ (v := .int .i64 (((i - 16 : Nat) : Int))) (hv := fun _ _ => by go_simp; (try simp only [IntKind.wrap_u64, IntKind.wrap_i64]); (try omega))
        refine Xw ?_ (v := .pointer (some ⟨J7j, 0 + (i - 16), none⟩)) (hv := fun _ _ => Q0 (m := 80) (by decide) (by omega) Tryd.underlying118 (by kernel_rfl) rfl rfl rfl)
        refine Xc ?_ (v := .int .u64 ((Y9 (bt (List.drop (128 * j) (Y0 l))) i) (i - 16))) (J00 k_t8) (hj := by rw [Nat.zero_add]; exact J6 _ _ _ _ (by omega))
        refine Xv ?_
        refine Xf ?_ (fun W hW => J5y ((Y9 (bt (List.drop (128 * j) (Y0 l))) i) (i - 15)) 1 (by decide) (by decide) W)
        refine Xv ?_
        refine Xf ?_ (fun W hW => J5y ((Y9 (bt (List.drop (128 * j) (Y0 l))) i) (i - 15)) 8 (by decide) (by decide) W)
        refine Xw ?_ (v := .int .u64 (xo (rt ((Y9 (bt (List.drop (128 * j) (Y0 l))) i) (i - 15)) 1) (rt ((Y9 (bt (List.drop (128 * j) (Y0 l))) i) (i - 15)) 8))) (hv := fun _ _ => J1u rfl rfl rfl)
        refine Xv ?_
        refine Xw ?_ (v := .int .u64 (sr ((Y9 (bt (List.drop (128 * j) (Y0 l))) i) (i - 15)) 7)) (hv := fun _ _ => J1l (n := 7) (by decide) rfl rfl rfl)
        refine Xw ?_ (v := .int .u64 (xo (xo (rt ((Y9 (bt (List.drop (128 * j) (Y0 l))) i) (i - 15)) 1) (rt ((Y9 (bt (List.drop (128 * j) (Y0 l))) i) (i - 15)) 8)) (sr ((Y9 (bt (List.drop (128 * j) (Y0 l))) i) (i - 15)) 7))) (hv := fun _ _ => J1u rfl rfl rfl)
        refine Xw ?_ (v := .int .u64 (ad ((Y9 (bt (List.drop (128 * j) (Y0 l))) i) (i - 16)) (xo (xo (rt ((Y9 (bt (List.drop (128 * j) (Y0 l))) i) (i - 15)) 1) (rt ((Y9 (bt (List.drop (128 * j) (Y0 l))) i) (i - 15)) 8)) (sr ((Y9 (bt (List.drop (128 * j) (Y0 l))) i) (i - 15)) 7)))) (hv := fun _ _ => J2m rfl rfl rfl)
        refine Xv ?_
        refine Xw ?_ (v := .int .i64 (((i - 7 : Nat) : Int))) (hv := fun _ _ => by go_simp; (try simp only [IntKind.wrap_u64, IntKind.wrap_i64]); (try omega))
        refine Xw ?_ (v := .pointer (some ⟨J7j, 0 + (i - 7), none⟩)) (hv := fun _ _ => Q0 (m := 80) (by decide) (by omega) Tryd.underlying118 (by kernel_rfl) rfl rfl rfl)
        refine Xc ?_ (v := .int .u64 ((Y9 (bt (List.drop (128 * j) (Y0 l))) i) (i - 7))) (J00 k_t8) (hj := by rw [Nat.zero_add]; exact J6 _ _ _ _ (by omega))
        refine Xw ?_ (v := .int .u64 (ad (ad ((Y9 (bt (List.drop (128 * j) (Y0 l))) i) (i - 16)) (xo (xo (rt ((Y9 (bt (List.drop (128 * j) (Y0 l))) i) (i - 15)) 1) (rt ((Y9 (bt (List.drop (128 * j) (Y0 l))) i) (i - 15)) 8)) (sr ((Y9 (bt (List.drop (128 * j) (Y0 l))) i) (i - 15)) 7))) ((Y9 (bt (List.drop (128 * j) (Y0 l))) i) (i - 7)))) (hv := fun _ _ => J2m rfl rfl rfl)
        refine Xv ?_
        refine Xf ?_ (fun W hW => J5y ((Y9 (bt (List.drop (128 * j) (Y0 l))) i) (i - 2)) 19 (by decide) (by decide) W)
        refine Xv ?_
        refine Xf ?_ (fun W hW => J5y ((Y9 (bt (List.drop (128 * j) (Y0 l))) i) (i - 2)) 61 (by decide) (by decide) W)
        refine Xw ?_ (v := .int .u64 (xo (rt ((Y9 (bt (List.drop (128 * j) (Y0 l))) i) (i - 2)) 19) (rt ((Y9 (bt (List.drop (128 * j) (Y0 l))) i) (i - 2)) 61))) (hv := fun _ _ => J1u rfl rfl rfl)
        refine Xv ?_
        refine Xw ?_ (v := .int .u64 (sr ((Y9 (bt (List.drop (128 * j) (Y0 l))) i) (i - 2)) 6)) (hv := fun _ _ => J1l (n := 6) (by decide) rfl rfl rfl)
        refine Xw ?_ (v := .int .u64 (xo (xo (rt ((Y9 (bt (List.drop (128 * j) (Y0 l))) i) (i - 2)) 19) (rt ((Y9 (bt (List.drop (128 * j) (Y0 l))) i) (i - 2)) 61)) (sr ((Y9 (bt (List.drop (128 * j) (Y0 l))) i) (i - 2)) 6))) (hv := fun _ _ => J1u rfl rfl rfl)
        refine Xw ?_ (v := .int .u64 (ad (ad (ad ((Y9 (bt (List.drop (128 * j) (Y0 l))) i) (i - 16)) (xo (xo (rt ((Y9 (bt (List.drop (128 * j) (Y0 l))) i) (i - 15)) 1) (rt ((Y9 (bt (List.drop (128 * j) (Y0 l))) i) (i - 15)) 8)) (sr ((Y9 (bt (List.drop (128 * j) (Y0 l))) i) (i - 15)) 7))) ((Y9 (bt (List.drop (128 * j) (Y0 l))) i) (i - 7))) (xo (xo (rt ((Y9 (bt (List.drop (128 * j) (Y0 l))) i) (i - 2)) 19) (rt ((Y9 (bt (List.drop (128 * j) (Y0 l))) i) (i - 2)) 61)) (sr ((Y9 (bt (List.drop (128 * j) (Y0 l))) i) (i - 2)) 6)))) (hv := fun _ _ => J2m rfl rfl rfl)
        refine Xw ?_ (v := .pointer (some ⟨J7j, 0 + i, none⟩)) (hv := fun _ _ => Q0 (m := 80) (by decide) (by omega) Tryd.underlying118 (by kernel_rfl) rfl rfl rfl)
        refine Q3 ?_
        intro β W43 hE hN hD
        clear hN hD
        simp only [J0l, Act.put, mA, mB, mC, List.drop_succ_cons, List.drop_zero, List.drop_nil, List.length_nil, Nat.add_zero]
        have hO := Z6 hE
        replace k_t6 := k_t6.o hO
        replace k_t8 := k_t8.o hO
        replace ow_b := Owz.off ow_b hO f0
        replace off0 := off0.o hO
        clear hO hE β
        refine J2i (v := .int .u64 (ad (ad (ad ((Y9 (bt (List.drop (128 * j) (Y0 l))) i) (i - 16)) (xo (xo (rt ((Y9 (bt (List.drop (128 * j) (Y0 l))) i) (i - 15)) 1) (rt ((Y9 (bt (List.drop (128 * j) (Y0 l))) i) (i - 15)) 8)) (sr ((Y9 (bt (List.drop (128 * j) (Y0 l))) i) (i - 15)) 7))) ((Y9 (bt (List.drop (128 * j) (Y0 l))) i) (i - 7))) (xo (xo (rt ((Y9 (bt (List.drop (128 * j) (Y0 l))) i) (i - 2)) 19) (rt ((Y9 (bt (List.drop (128 * j) (Y0 l))) i) (i - 2)) 61)) (sr ((Y9 (bt (List.drop (128 * j) (Y0 l))) i) (i - 2)) 6)))) ⟨rfl, rfl⟩ (by rfl) rfl rfl rfl k_t8 (by rw [Q1, Nat.zero_add]; omega) (by kernel_rfl) ?_
        (try simp only [Act.put, mA, mB, mC])
        intro W44 hO h_
        rw [Nat.zero_add, J04] at h_
        replace k_t8 : Blk W44 J7j (J1 .u64 80 (upd (Y9 (bt (List.drop (128 * j) (Y0 l))) i) i (ad (ad (ad ((Y9 (bt (List.drop (128 * j) (Y0 l))) i) (i - 16)) (xo (xo (rt ((Y9 (bt (List.drop (128 * j) (Y0 l))) i) (i - 15)) 1) (rt ((Y9 (bt (List.drop (128 * j) (Y0 l))) i) (i - 15)) 8)) (sr ((Y9 (bt (List.drop (128 * j) (Y0 l))) i) (i - 15)) 7))) ((Y9 (bt (List.drop (128 * j) (Y0 l))) i) (i - 7))) (xo (xo (rt ((Y9 (bt (List.drop (128 * j) (Y0 l))) i) (i - 2)) 19) (rt ((Y9 (bt (List.drop (128 * j) (Y0 l))) i) (i - 2)) 61)) (sr ((Y9 (bt (List.drop (128 * j) (Y0 l))) i) (i - 2)) 6))))) 118 := h_
        clear h_
        replace k_t6 := k_t6.p hO nq_t6_t8
        replace ow_b := Owz.off ow_b hO (f1 Q2e)
        replace off0 := off0.p hO J1v
        clear hO
        refine LN ?_
        go_wp2
        go_roundw
        case rel => exact ⟨i + 1, by omega, by go_num, off0, k_t6, (by rw [Q90 (by omega), ← Y01 h16]; exact k_t8), ow_b⟩
        case measure => simp [intOf]; omega
      ·
       have _f := h80
       obtain rfl : i = 80 := by omega
       rw [Q90 (by decide)] at k_t8
       go_upto_region 17 with fail
       refine wp_region_lit ?_
       refine Lv ?_
       refine Lw ?_ (v := .bool false)
       refine J0 ?_
       go_upto_region 26 with fail
       refine wp_region_lit ?_
       refine L0A ?_ k_t6
       refine LnP ?_ (z := J1 .u64 8 (fun _ => 0)) (t := 113) (cells := J1 .u64 8 (Hs (Y0 l) j)) (hi := by rw [Q1]; kernel_rfl) (hs := by rw [Q1, Q1]) (h1 := by exact Y7 _ _ _)
       intro J1t W43 J2x hO h_
       have nq_t6_t13 := bn k_t6 J2x
       have J89 := bn k_t8 J2x
       have Y1m := J0m (Owz.lt ow_b) J2x
       have Q5h := fbn off0 J2x
       replace k_t6 := k_t6.o hO
       replace k_t8 := k_t8.o hO
       replace ow_b := Owz.off ow_b hO f0
       replace off0 := off0.o hO
       have k_t13 := h_
       clear hO h_ J2x
       refine J0 ?_
       go_wp2_with fail
       go_loopw [14] (fun ii wr => ∃ (i : Nat), (i ≤ 80) ∧ (ii = .int .i64 (i : Int)) ∧ Off [] w wr ∧ Blk wr J5b (J1 .u64 8 (Hs (Y0 l) j)) 113 ∧ Blk wr J7j (J1 .u64 80 (Y9 (bt (List.drop (128 * j) (Y0 l))) 80)) 118 ∧ Blk wr J1t (J1 .u64 8 (Z9 kf (Y9 (bt (List.drop (128 * j) (Y0 l))) 80) (Hs (Y0 l) j) i)) 113 ∧ Owz wr Q3a (Y0 l))
        (fun ii _ => 80 - (intOf ii).toNat)
       case atStart => exact ⟨0, Nat.zero_le _, rfl, off0, k_t6, k_t8, k_t13, ow_b⟩
       case round =>
        obtain ⟨i, hi, rfl, off0, k_t6, k_t8, k_t13, ow_b⟩ := hrel
        obtain ⟨W44, eW_⟩ := J3r off0
        subst eW_
        by_cases h80 : i < 80
        ·
         have _f := h80
         go_upto_region 28 with fail
         refine wp_region_lit ?_
         refine Lv ?_
         refine Lw ?_ (v := .bool true)
         refine J0 ?_
         go_upto_region 30 with fail
         refine J06 36 [] (by kernel_rfl) (fun x hx => by cases hx) (by kernel_rfl) ?_
         simp only [List.take_succ_cons, List.take_zero, List.take_nil]
         (try simp only [Act.put, mA, mB, mC])
         refine Xw ?_ (v := .pointer (some ⟨J1t, 0 + 7, none⟩)) (hv := fun _ _ => Q0 (m := 8) (by decide) (by omega) Tryd.underlying113 (by kernel_rfl) rfl rfl rfl)
         refine Xc ?_ (v := .int .u64 ((Z9 kf (Y9 (bt (List.drop (128 * j) (Y0 l))) 80) (Hs (Y0 l) j) i) 7)) (J00 k_t13) (hj := by rw [Nat.zero_add]; exact J6 _ _ _ _ (by omega))
         refine Xw ?_ (v := .pointer (some ⟨J1t, 0 + 4, none⟩)) (hv := fun _ _ => Q0 (m := 8) (by decide) (by omega) Tryd.underlying113 (by kernel_rfl) rfl rfl rfl)
         refine Xc ?_ (v := .int .u64 ((Z9 kf (Y9 (bt (List.drop (128 * j) (Y0 l))) 80) (Hs (Y0 l) j) i) 4)) (J00 k_t13) (hj := by rw [Nat.zero_add]; exact J6 _ _ _ _ (by omega))
         refine Xf ?_ (fun W hW => J5y ((Z9 kf (Y9 (bt (List.drop (128 * j) (Y0 l))) 80) (Hs (Y0 l) j) i) 4) 14 (by decide) (by decide) W)
         refine Xw ?_ (v := .pointer (some ⟨J1t, 0 + 4, none⟩)) (hv := fun _ _ => Q0 (m := 8) (by decide) (by omega) Tryd.underlying113 (by kernel_rfl) rfl rfl rfl)
         refine Xc ?_ (v := .int .u64 ((Z9 kf (Y9 (bt (List.drop (128 * j) (Y0 l))) 80) (Hs (Y0 l) j) i) 4)) (J00 k_t13) (hj := by rw [Nat.zero_add]; exact J6 _ _ _ _ (by omega))
         refine Xf ?_ (fun W hW => J5y ((Z9 kf (Y9 (bt (List.drop (128 * j) (Y0 l))) 80) (Hs (Y0 l) j) i) 4) 18 (by decide) (by decide) W)
         refine Xw ?_ (v := .int .u64 (xo (rt ((Z9 kf (Y9 (bt (List.drop (128 * j) (Y0 l))) 80) (Hs (Y0 l) j) i) 4) 14) (rt ((Z9 kf (Y9 (bt (List.drop (128 * j) (Y0 l))) 80) (Hs (Y0 l) j) i) 4) 18))) (hv := fun _ _ => J1u rfl rfl rfl)
         refine Xw ?_ (v := .pointer (some ⟨J1t, 0 + 4, none⟩)) (hv := fun _ _ => Q0 (m := 8) (by decide) (by omega) Tryd.underlying113 (by kernel_rfl) rfl rfl rfl)
         refine Xc ?_ (v := .int .u64 ((Z9 kf (Y9 (bt (List.drop (128 * j) (Y0 l))) 80) (Hs (Y0 l) j) i) 4)) (J00 k_t13) (hj := by rw [Nat.zero_add]; exact J6 _ _ _ _ (by omega))
         refine Xf ?_ (fun W hW => J5y ((Z9 kf (Y9 (bt (List.drop (128 * j) (Y0 l))) 80) (Hs (Y0 l) j) i) 4) 41 (by decide) (by decide) W)
         refine Xw ?_ (v := .int .u64 (xo (xo (rt ((Z9 kf (Y9 (bt (List.drop (128 * j) (Y0 l))) 80) (Hs (Y0 l) j) i) 4) 14) (rt ((Z9 kf (Y9 (bt (List.drop (128 * j) (Y0 l))) 80) (Hs (Y0 l) j) i) 4) 18)) (rt ((Z9 kf (Y9 (bt (List.drop (128 * j) (Y0 l))) 80) (Hs (Y0 l) j) i) 4) 41))) (hv := fun _ _ => J1u rfl rfl rfl)
         refine Xw ?_ (v := .int .u64 (ad ((Z9 kf (Y9 (bt (List.drop (128 * j) (Y0 l))) 80) (Hs (Y0 l) j) i) 7) (xo (xo (rt ((Z9 kf (Y9 (bt (List.drop (128 * j) (Y0 l))) 80) (Hs (Y0 l) j) i) 4) 14) (rt ((Z9 kf (Y9 (bt (List.drop (128 * j) (Y0 l))) 80) (Hs (Y0 l) j) i) 4) 18)) (rt ((Z9 kf (Y9 (bt (List.drop (128 * j) (Y0 l))) 80) (Hs (Y0 l) j) i) 4) 41)))) (hv := fun _ _ => J2m rfl rfl rfl)
         refine Xw ?_ (v := .pointer (some ⟨J1t, 0 + 4, none⟩)) (hv := fun _ _ => Q0 (m := 8) (by decide) (by omega) Tryd.underlying113 (by kernel_rfl) rfl rfl rfl)
         refine Xc ?_ (v := .int .u64 ((Z9 kf (Y9 (bt (List.drop (128 * j) (Y0 l))) 80) (Hs (Y0 l) j) i) 4)) (J00 k_t13) (hj := by rw [Nat.zero_add]; exact J6 _ _ _ _ (by omega))
         refine Xw ?_ (v := .pointer (some ⟨J1t, 0 + 5, none⟩)) (hv := fun _ _ => Q0 (m := 8) (by decide) (by omega) Tryd.underlying113 (by kernel_rfl) rfl rfl rfl)
         refine Xc ?_ (v := .int .u64 ((Z9 kf (Y9 (bt (List.drop (128 * j) (Y0 l))) 80) (Hs (Y0 l) j) i) 5)) (J00 k_t13) (hj := by rw [Nat.zero_add]; exact J6 _ _ _ _ (by omega))
         refine Xw ?_ (v := .int .u64 (an ((Z9 kf (Y9 (bt (List.drop (128 * j) (Y0 l))) 80) (Hs (Y0 l) j) i) 4) ((Z9 kf (Y9 (bt (List.drop (128 * j) (Y0 l))) 80) (Hs (Y0 l) j) i) 5))) (hv := fun _ _ => J5x rfl rfl rfl)
         refine Xw ?_ (v := .pointer (some ⟨J1t, 0 + 4, none⟩)) (hv := fun _ _ => Q0 (m := 8) (by decide) (by omega) Tryd.underlying113 (by kernel_rfl) rfl rfl rfl)
         refine Xc ?_ (v := .int .u64 ((Z9 kf (Y9 (bt (List.drop (128 * j) (Y0 l))) 80) (Hs (Y0 l) j) i) 4)) (J00 k_t13) (hj := by rw [Nat.zero_add]; exact J6 _ _ _ _ (by omega))
         refine Xw ?_ (v := .int .u64 (nt ((Z9 kf (Y9 (bt (List.drop (128 * j) (Y0 l))) 80) (Hs (Y0 l) j) i) 4))) (hv := fun _ _ => Z4d rfl rfl)
         refine Xw ?_ (v := .pointer (some ⟨J1t, 0 + 6, none⟩)) (hv := fun _ _ => Q0 (m := 8) (by decide) (by omega) Tryd.underlying113 (by kernel_rfl) rfl rfl rfl)
         refine Xc ?_ (v := .int .u64 ((Z9 kf (Y9 (bt (List.drop (128 * j) (Y0 l))) 80) (Hs (Y0 l) j) i) 6)) (J00 k_t13) (hj := by rw [Nat.zero_add]; exact J6 _ _ _ _ (by omega))
         refine Xw ?_ (v := .int .u64 (an (nt ((Z9 kf (Y9 (bt (List.drop (128 * j) (Y0 l))) 80) (Hs (Y0 l) j) i) 4)) ((Z9 kf (Y9 (bt (List.drop (128 * j) (Y0 l))) 80) (Hs (Y0 l) j) i) 6))) (hv := fun _ _ => J5x rfl rfl rfl)
         refine Xw ?_ (v := .int .u64 (xo (an ((Z9 kf (Y9 (bt (List.drop (128 * j) (Y0 l))) 80) (Hs (Y0 l) j) i) 4) ((Z9 kf (Y9 (bt (List.drop (128 * j) (Y0 l))) 80) (Hs (Y0 l) j) i) 5)) (an (nt ((Z9 kf (Y9 (bt (List.drop (128 * j) (Y0 l))) 80) (Hs (Y0 l) j) i) 4)) ((Z9 kf (Y9 (bt (List.drop (128 * j) (Y0 l))) 80) (Hs (Y0 l) j) i) 6)))) (hv := fun _ _ => J1u rfl rfl rfl)
         refine Xw ?_ (v := .int .u64 (ad (ad ((Z9 kf (Y9 (bt (List.drop (128 * j) (Y0 l))) 80) (Hs (Y0 l) j) i) 7) (xo (xo (rt ((Z9 kf (Y9 (bt (List.drop (128 * j) (Y0 l))) 80) (Hs (Y0 l) j) i) 4) 14) (rt ((Z9 kf (Y9 (bt (List.drop (128 * j) (Y0 l))) 80) (Hs (Y0 l) j) i) 4) 18)) (rt ((Z9 kf (Y9 (bt (List.drop (128 * j) (Y0 l))) 80) (Hs (Y0 l) j) i) 4) 41))) (xo (an ((Z9 kf (Y9 (bt (List.drop (128 * j) (Y0 l))) 80) (Hs (Y0 l) j) i) 4) ((Z9 kf (Y9 (bt (List.drop (128 * j) (Y0 l))) 80) (Hs (Y0 l) j) i) 5)) (an (nt ((Z9 kf (Y9 (bt (List.drop (128 * j) (Y0 l))) 80) (Hs (Y0 l) j) i) 4)) ((Z9 kf (Y9 (bt (List.drop (128 * j) (Y0 l))) 80) (Hs (Y0 l) j) i) 6))))) (hv := fun _ _ => J2m rfl rfl rfl)
         refine Xv ?_
         refine Xw ?_ (v := .pointer (some ⟨7, 0 + i, none⟩)) (hv := fun _ _ => Q0 (m := 80) (by decide) (by omega) Tryd.underlying118 (by kernel_rfl) rfl rfl rfl)
         refine Xc ?_ (v := .int .u64 (kf i)) ((J59 HG.out off0.ext).1) (hj := by rw [Nat.zero_add]; exact J6 _ _ _ _ (by omega))
         refine Xw ?_ (v := .int .u64 (ad (ad (ad ((Z9 kf (Y9 (bt (List.drop (128 * j) (Y0 l))) 80) (Hs (Y0 l) j) i) 7) (xo (xo (rt ((Z9 kf (Y9 (bt (List.drop (128 * j) (Y0 l))) 80) (Hs (Y0 l) j) i) 4) 14) (rt ((Z9 kf (Y9 (bt (List.drop (128 * j) (Y0 l))) 80) (Hs (Y0 l) j) i) 4) 18)) (rt ((Z9 kf (Y9 (bt (List.drop (128 * j) (Y0 l))) 80) (Hs (Y0 l) j) i) 4) 41))) (xo (an ((Z9 kf (Y9 (bt (List.drop (128 * j) (Y0 l))) 80) (Hs (Y0 l) j) i) 4) ((Z9 kf (Y9 (bt (List.drop (128 * j) (Y0 l))) 80) (Hs (Y0 l) j) i) 5)) (an (nt ((Z9 kf (Y9 (bt (List.drop (128 * j) (Y0 l))) 80) (Hs (Y0 l) j) i) 4)) ((Z9 kf (Y9 (bt (List.drop (128 * j) (Y0 l))) 80) (Hs (Y0 l) j) i) 6)))) (kf i))) (hv := fun _ _ => J2m rfl rfl rfl)
         refine Xv ?_
         refine Xw ?_ (v := .pointer (some ⟨J7j, 0 + i, none⟩)) (hv := fun _ _ => Q0 (m := 80) (by decide) (by omega) Tryd.underlying118 (by kernel_rfl) rfl rfl rfl)
         refine Xc ?_ (v := .int .u64 ((Y9 (bt (List.drop (128 * j) (Y0 l))) 80) i)) (J00 k_t8) (hj := by rw [Nat.zero_add]; exact J6 _ _ _ _ (by omega))
         refine Xw ?_ (v := .int .u64 (rT kf (Y9 (bt (List.drop (128 * j) (Y0 l))) 80) i (Z9 kf (Y9 (bt (List.drop (128 * j) (Y0 l))) 80) (Hs (Y0 l) j) i)))
         refine Xv ?_
         refine Q3 ?_
         intro β W45 hE hN hD
         clear hN hD
         simp only [J0l, Act.put, mA, mB, mC, List.drop_succ_cons, List.drop_zero, List.drop_nil, List.length_nil, Nat.add_zero]
         have hO := Z6 hE
         replace k_t6 := k_t6.o hO
         replace k_t8 := k_t8.o hO
         replace k_t13 := k_t13.o hO
         replace ow_b := Owz.off ow_b hO f0
         replace off0 := off0.o hO
         clear hO hE β
         refine LN ?_
         go_upto_region 31 with fail
         refine J06 30 [] (by kernel_rfl) (fun x hx => by cases hx) (by kernel_rfl) ?_
         simp only [List.take_succ_cons, List.take_zero, List.take_nil]
         (try simp only [Act.put, mA, mB, mC])
         refine Xw ?_ (v := .pointer (some ⟨J1t, 0 + 0, none⟩)) (hv := fun _ _ => Q0 (m := 8) (by decide) (by omega) Tryd.underlying113 (by kernel_rfl) rfl rfl rfl)
         refine Xc ?_ (v := .int .u64 ((Z9 kf (Y9 (bt (List.drop (128 * j) (Y0 l))) 80) (Hs (Y0 l) j) i) 0)) (J00 k_t13) (hj := by rw [Nat.zero_add]; exact J6 _ _ _ _ (by omega))
         refine Xf ?_ (fun W hW => J5y ((Z9 kf (Y9 (bt (List.drop (128 * j) (Y0 l))) 80) (Hs (Y0 l) j) i) 0) 28 (by decide) (by decide) W)
         refine Xw ?_ (v := .pointer (some ⟨J1t, 0 + 0, none⟩)) (hv := fun _ _ => Q0 (m := 8) (by decide) (by omega) Tryd.underlying113 (by kernel_rfl) rfl rfl rfl)
         refine Xc ?_ (v := .int .u64 ((Z9 kf (Y9 (bt (List.drop (128 * j) (Y0 l))) 80) (Hs (Y0 l) j) i) 0)) (J00 k_t13) (hj := by rw [Nat.zero_add]; exact J6 _ _ _ _ (by omega))
         refine Xf ?_ (fun W hW => J5y ((Z9 kf (Y9 (bt (List.drop (128 * j) (Y0 l))) 80) (Hs (Y0 l) j) i) 0) 34 (by decide) (by decide) W)
         refine Xw ?_ (v := .int .u64 (xo (rt ((Z9 kf (Y9 (bt (List.drop (128 * j) (Y0 l))) 80) (Hs (Y0 l) j) i) 0) 28) (rt ((Z9 kf (Y9 (bt (List.drop (128 * j) (Y0 l))) 80) (Hs (Y0 l) j) i) 0) 34))) (hv := fun _ _ => J1u rfl rfl rfl)
         refine Xw ?_ (v := .pointer (some ⟨J1t, 0 + 0, none⟩)) (hv := fun _ _ => Q0 (m := 8) (by decide) (by omega) Tryd.underlying113 (by kernel_rfl) rfl rfl rfl)
         refine Xc ?_ (v := .int .u64 ((Z9 kf (Y9 (bt (List.drop (128 * j) (Y0 l))) 80) (Hs (Y0 l) j) i) 0)) (J00 k_t13) (hj := by rw [Nat.zero_add]; exact J6 _ _ _ _ (by omega))
         refine Xf ?_ (fun W hW => J5y ((Z9 kf (Y9 (bt (List.drop (128 * j) (Y0 l))) 80) (Hs (Y0 l) j) i) 0) 39 (by decide) (by decide) W)
         refine Xw ?_ (v := .int .u64 (xo (xo (rt ((Z9 kf (Y9 (bt (List.drop (128 * j) (Y0 l))) 80) (Hs (Y0 l) j) i) 0) 28) (rt ((Z9 kf (Y9 (bt (List.drop (128 * j) (Y0 l))) 80) (Hs (Y0 l) j) i) 0) 34)) (rt ((Z9 kf (Y9 (bt (List.drop (128 * j) (Y0 l))) 80) (Hs (Y0 l) j) i) 0) 39))) (hv := fun _ _ => J1u rfl rfl rfl)
         refine Xw ?_ (v := .pointer (some ⟨J1t, 0 + 0, none⟩)) (hv := fun _ _ => Q0 (m := 8) (by decide) (by omega) Tryd.underlying113 (by kernel_rfl) rfl rfl rfl)
         refine Xc ?_ (v := .int .u64 ((Z9 kf (Y9 (bt (List.drop (128 * j) (Y0 l))) 80) (Hs (Y0 l) j) i) 0)) (J00 k_t13) (hj := by rw [Nat.zero_add]; exact J6 _ _ _ _ (by omega))
         refine Xw ?_ (v := .pointer (some ⟨J1t, 0 + 1, none⟩)) (hv := fun _ _ => Q0 (m := 8) (by decide) (by omega) Tryd.underlying113 (by kernel_rfl) rfl rfl rfl)
         refine Xc ?_ (v := .int .u64 ((Z9 kf (Y9 (bt (List.drop (128 * j) (Y0 l))) 80) (Hs (Y0 l) j) i) 1)) (J00 k_t13) (hj := by rw [Nat.zero_add]; exact J6 _ _ _ _ (by omega))
         refine Xw ?_ (v := .int .u64 (an ((Z9 kf (Y9 (bt (List.drop (128 * j) (Y0 l))) 80) (Hs (Y0 l) j) i) 0) ((Z9 kf (Y9 (bt (List.drop (128 * j) (Y0 l))) 80) (Hs (Y0 l) j) i) 1))) (hv := fun _ _ => J5x rfl rfl rfl)
         refine Xw ?_ (v := .pointer (some ⟨J1t, 0 + 0, none⟩)) (hv := fun _ _ => Q0 (m := 8) (by decide) (by omega) Tryd.underlying113 (by kernel_rfl) rfl rfl rfl)
         refine Xc ?_ (v := .int .u64 ((Z9 kf (Y9 (bt (List.drop (128 * j) (Y0 l))) 80) (Hs (Y0 l) j) i) 0)) (J00 k_t13) (hj := by rw [Nat.zero_add]; exact J6 _ _ _ _ (by omega))
         refine Xw ?_ (v := .pointer (some ⟨J1t, 0 + 2, none⟩)) (hv := fun _ _ => Q0 (m := 8) (by decide) (by omega) Tryd.underlying113 (by kernel_rfl) rfl rfl rfl)
         refine Xc ?_ (v := .int .u64 ((Z9 kf (Y9 (bt (List.drop (128 * j) (Y0 l))) 80) (Hs (Y0 l) j) i) 2)) (J00 k_t13) (hj := by rw [Nat.zero_add]; exact J6 _ _ _ _ (by omega))
         refine Xw ?_ (v := .int .u64 (an ((Z9 kf (Y9 (bt (List.drop (128 * j) (Y0 l))) 80) (Hs (Y0 l) j) i) 0) ((Z9 kf (Y9 (bt (List.drop (128 * j) (Y0 l))) 80) (Hs (Y0 l) j) i) 2))) (hv := fun _ _ => J5x rfl rfl rfl)
         refine Xw ?_ (v := .int .u64 (xo (an ((Z9 kf (Y9 (bt (List.drop (128 * j) (Y0 l))) 80) (Hs (Y0 l) j) i) 0) ((Z9 kf (Y9 (bt (List.drop (128 * j) (Y0 l))) 80) (Hs (Y0 l) j) i) 1)) (an ((Z9 kf (Y9 (bt (List.drop (128 * j) (Y0 l))) 80) (Hs (Y0 l) j) i) 0) ((Z9 kf (Y9 (bt (List.drop (128 * j) (Y0 l))) 80) (Hs (Y0 l) j) i) 2)))) (hv := fun _ _ => J1u rfl rfl rfl)
         refine Xw ?_ (v := .pointer (some ⟨J1t, 0 + 1, none⟩)) (hv := fun _ _ => Q0 (m := 8) (by decide) (by omega) Tryd.underlying113 (by kernel_rfl) rfl rfl rfl)
         refine Xc ?_ (v := .int .u64 ((Z9 kf (Y9 (bt (List.drop (128 * j) (Y0 l))) 80) (Hs (Y0 l) j) i) 1)) (J00 k_t13) (hj := by rw [Nat.zero_add]; exact J6 _ _ _ _ (by omega))
         refine Xw ?_ (v := .pointer (some ⟨J1t, 0 + 2, none⟩)) (hv := fun _ _ => Q0 (m := 8) (by decide) (by omega) Tryd.underlying113 (by kernel_rfl) rfl rfl rfl)
         refine Xc ?_ (v := .int .u64 ((Z9 kf (Y9 (bt (List.drop (128 * j) (Y0 l))) 80) (Hs (Y0 l) j) i) 2)) (J00 k_t13) (hj := by rw [Nat.zero_add]; exact J6 _ _ _ _ (by omega))
         refine Xw ?_ (v := .int .u64 (an ((Z9 kf (Y9 (bt (List.drop (128 * j) (Y0 l))) 80) (Hs (Y0 l) j) i) 1) ((Z9 kf (Y9 (bt (List.drop (128 * j) (Y0 l))) 80) (Hs (Y0 l) j) i) 2))) (hv := fun _ _ => J5x rfl rfl rfl)
         refine Xw ?_ (v := .int .u64 (xo (xo (an ((Z9 kf (Y9 (bt (List.drop (128 * j) (Y0 l))) 80) (Hs (Y0 l) j) i) 0) ((Z9 kf (Y9 (bt (List.drop (128 * j) (Y0 l))) 80) (Hs (Y0 l) j) i) 1)) (an ((Z9 kf (Y9 (bt (List.drop (128 * j) (Y0 l))) 80) (Hs (Y0 l) j) i) 0) ((Z9 kf (Y9 (bt (List.drop (128 * j) (Y0 l))) 80) (Hs (Y0 l) j) i) 2))) (an ((Z9 kf (Y9 (bt (List.drop (128 * j) (Y0 l))) 80) (Hs (Y0 l) j) i) 1) ((Z9 kf (Y9 (bt (List.drop (128 * j) (Y0 l))) 80) (Hs (Y0 l) j) i) 2)))) (hv := fun _ _ => J1u rfl rfl rfl)
         refine Xw ?_ (v := .int .u64 (rU (Z9 kf (Y9 (bt (List.drop (128 * j) (Y0 l))) 80) (Hs (Y0 l) j) i)))
         refine Xv ?_
         refine Q3 ?_
         intro β W46 hE hN hD
         clear hN hD
         simp only [J0l, Act.put, mA, mB, mC, List.drop_succ_cons, List.drop_zero, List.drop_nil, List.length_nil, Nat.add_zero]
         have hO := Z6 hE
         replace k_t6 := k_t6.o hO
         replace k_t8 := k_t8.o hO
         replace k_t13 := k_t13.o hO
         replace ow_b := Owz.off ow_b hO f0
         replace off0 := off0.o hO
         clear hO hE β
         refine LN ?_
         go_upto_region 32 with fail
         refine wp_region_lit ?_
         refine Lv ?_
         refine Lv ?_
         refine Lw ?_ (v := .int .u64 (ad (rT kf (Y9 (bt (List.drop (128 * j) (Y0 l))) 80) i (Z9 kf (Y9 (bt (List.drop (128 * j) (Y0 l))) 80) (Hs (Y0 l) j) i)) (rU (Z9 kf (Y9 (bt (List.drop (128 * j) (Y0 l))) 80) (Hs (Y0 l) j) i)))) (hv := J2m rfl rfl rfl)
         refine Lw ?_ (v := .pointer (some ⟨J1t, 0 + 0, none⟩)) (hv := Q0 (m := 8) (by decide) (by omega) Tryd.underlying113 (by kernel_rfl) rfl rfl rfl)
         refine Lg ?_ k_t13 (v := .int .u64 ((Z9 kf (Y9 (bt (List.drop (128 * j) (Y0 l))) 80) (Hs (Y0 l) j) i) 0)) (hj := by rw [Nat.zero_add]; exact J6 _ _ _ _ (by omega))
         refine Lw ?_ (v := .pointer (some ⟨J1t, 0 + 1, none⟩)) (hv := Q0 (m := 8) (by decide) (by omega) Tryd.underlying113 (by kernel_rfl) rfl rfl rfl)
         refine Lg ?_ k_t13 (v := .int .u64 ((Z9 kf (Y9 (bt (List.drop (128 * j) (Y0 l))) 80) (Hs (Y0 l) j) i) 1)) (hj := by rw [Nat.zero_add]; exact J6 _ _ _ _ (by omega))
         refine Lw ?_ (v := .pointer (some ⟨J1t, 0 + 2, none⟩)) (hv := Q0 (m := 8) (by decide) (by omega) Tryd.underlying113 (by kernel_rfl) rfl rfl rfl)
         refine Lg ?_ k_t13 (v := .int .u64 ((Z9 kf (Y9 (bt (List.drop (128 * j) (Y0 l))) 80) (Hs (Y0 l) j) i) 2)) (hj := by rw [Nat.zero_add]; exact J6 _ _ _ _ (by omega))
         refine Lw ?_ (v := .pointer (some ⟨J1t, 0 + 3, none⟩)) (hv := Q0 (m := 8) (by decide) (by omega) Tryd.underlying113 (by kernel_rfl) rfl rfl rfl)
         refine Lg ?_ k_t13 (v := .int .u64 ((Z9 kf (Y9 (bt (List.drop (128 * j) (Y0 l))) 80) (Hs (Y0 l) j) i) 3)) (hj := by rw [Nat.zero_add]; exact J6 _ _ _ _ (by omega))
         refine Lv ?_
         refine Lw ?_ (v := .int .u64 (ad ((Z9 kf (Y9 (bt (List.drop (128 * j) (Y0 l))) 80) (Hs (Y0 l) j) i) 3) (rT kf (Y9 (bt (List.drop (128 * j) (Y0 l))) 80) i (Z9 kf (Y9 (bt (List.drop (128 * j) (Y0 l))) 80) (Hs (Y0 l) j) i)))) (hv := J2m rfl rfl rfl)
         refine Lw ?_ (v := .pointer (some ⟨J1t, 0 + 4, none⟩)) (hv := Q0 (m := 8) (by decide) (by omega) Tryd.underlying113 (by kernel_rfl) rfl rfl rfl)
         refine Lg ?_ k_t13 (v := .int .u64 ((Z9 kf (Y9 (bt (List.drop (128 * j) (Y0 l))) 80) (Hs (Y0 l) j) i) 4)) (hj := by rw [Nat.zero_add]; exact J6 _ _ _ _ (by omega))
         refine Lw ?_ (v := .pointer (some ⟨J1t, 0 + 5, none⟩)) (hv := Q0 (m := 8) (by decide) (by omega) Tryd.underlying113 (by kernel_rfl) rfl rfl rfl)
         refine Lg ?_ k_t13 (v := .int .u64 ((Z9 kf (Y9 (bt (List.drop (128 * j) (Y0 l))) 80) (Hs (Y0 l) j) i) 5)) (hj := by rw [Nat.zero_add]; exact J6 _ _ _ _ (by omega))
         refine Lw ?_ (v := .pointer (some ⟨J1t, 0 + 6, none⟩)) (hv := Q0 (m := 8) (by decide) (by omega) Tryd.underlying113 (by kernel_rfl) rfl rfl rfl)
         refine Lg ?_ k_t13 (v := .int .u64 ((Z9 kf (Y9 (bt (List.drop (128 * j) (Y0 l))) 80) (Hs (Y0 l) j) i) 6)) (hj := by rw [Nat.zero_add]; exact J6 _ _ _ _ (by omega))
         refine Lw ?_ (v := .agg (J1 .u64 8 (Z9 kf (Y9 (bt (List.drop (128 * j) (Y0 l))) 80) (Hs (Y0 l) j) (i + 1)))) (hv := by first | rfl | (go_simp; rfl))
         refine Lp ?_ k_t13 (cells := J1 .u64 8 (Z9 kf (Y9 (bt (List.drop (128 * j) (Y0 l))) 80) (Hs (Y0 l) j) (i + 1))) (hi := by rw [Q1]; kernel_rfl) (hs := by rw [Q1, Q1]) (h1 := by exact Y7 _ _ _)
         intro W47 hO h_
         replace k_t13 : Blk W47 J1t (J1 .u64 8 (Z9 kf (Y9 (bt (List.drop (128 * j) (Y0 l))) 80) (Hs (Y0 l) j) (i + 1))) 113 := h_
         clear h_
         replace k_t6 := k_t6.p hO nq_t6_t13
         replace k_t8 := k_t8.p hO J89
         replace ow_b := Owz.off ow_b hO (f1 Y1m)
         replace off0 := off0.p hO Q5h
         clear hO
         refine J0 ?_
         go_wp2
         go_roundw
         case rel => exact ⟨i + 1, by omega, by go_num, off0, k_t6, k_t8, k_t13, ow_b⟩
         case measure => simp [intOf]; omega
        ·
         have _f := h80
         obtain rfl : i = 80 := by omega
         go_upto_region 28 with fail
         refine wp_region_lit ?_
         refine Lv ?_
         refine Lw ?_ (v := .bool false)
         refine J0 ?_
         go_wp2_with fail
         go_loopw [17] (fun ii wr => ∃ (i : Nat), (i ≤ 8) ∧ (ii = .int .i64 (i : Int)) ∧ Off [] w wr ∧ Blk wr J5b (J1 .u64 8 (mx (Hs (Y0 l) j) (Z9 kf (Y9 (bt (List.drop (128 * j) (Y0 l))) 80) (Hs (Y0 l) j) 80) i)) 113 ∧ Blk wr J7j (J1 .u64 80 (Y9 (bt (List.drop (128 * j) (Y0 l))) 80)) 118 ∧ Blk wr J1t (J1 .u64 8 (Z9 kf (Y9 (bt (List.drop (128 * j) (Y0 l))) 80) (Hs (Y0 l) j) 80)) 113 ∧ Owz wr Q3a (Y0 l))
          (fun ii _ => 8 - (intOf ii).toNat)
         case atStart => exact ⟨0, Nat.zero_le _, rfl, off0, (by rw [Z4h]; exact k_t6), k_t8, k_t13, ow_b⟩
         case round =>
          obtain ⟨i, hi, rfl, off0, k_t6, k_t8, k_t13, ow_b⟩ := hrel
          obtain ⟨W45, eW_⟩ := J3r off0
          subst eW_
          by_cases h8 : i < 8
          ·
           have _f := h8
           go_upto_region 34 with fail
           refine wp_region_lit ?_
           refine Lv ?_
           refine Lw ?_ (v := .bool true)
           refine J0 ?_
           go_upto_region 36 with fail
           refine J06 9 [] (by kernel_rfl) (fun x hx => by cases hx) (by kernel_rfl) ?_
           simp only [List.take_succ_cons, List.take_zero, List.take_nil]
           (try simp only [Act.put, mA, mB, mC])
           refine Xv ?_
           refine Xv ?_
           refine Xw ?_ (v := .pointer (some ⟨J5b, 0 + i, none⟩)) (hv := fun _ _ => Q0 (m := 8) (by decide) (by omega) Tryd.underlying113 (by kernel_rfl) rfl rfl rfl)
           refine Xc ?_ (v := .int .u64 ((mx (Hs (Y0 l) j) (Z9 kf (Y9 (bt (List.drop (128 * j) (Y0 l))) 80) (Hs (Y0 l) j) 80) i) i)) (J00 k_t6) (hj := by rw [Nat.zero_add]; exact J6 _ _ _ _ (by omega))
           refine Xv ?_
           refine Xw ?_ (v := .pointer (some ⟨J1t, 0 + i, none⟩)) (hv := fun _ _ => Q0 (m := 8) (by decide) (by omega) Tryd.underlying113 (by kernel_rfl) rfl rfl rfl)
           refine Xc ?_ (v := .int .u64 ((Z9 kf (Y9 (bt (List.drop (128 * j) (Y0 l))) 80) (Hs (Y0 l) j) 80) i)) (J00 k_t13) (hj := by rw [Nat.zero_add]; exact J6 _ _ _ _ (by omega))
           refine Xw ?_ (v := .int .u64 (ad ((mx (Hs (Y0 l) j) (Z9 kf (Y9 (bt (List.drop (128 * j) (Y0 l))) 80) (Hs (Y0 l) j) 80) i) i) ((Z9 kf (Y9 (bt (List.drop (128 * j) (Y0 l))) 80) (Hs (Y0 l) j) 80) i))) (hv := fun _ _ => J2m rfl rfl rfl)
           refine Xw ?_ (v := .pointer (some ⟨J5b, 0 + i, none⟩)) (hv := fun _ _ => Q0 (m := 8) (by decide) (by omega) Tryd.underlying113 (by kernel_rfl) rfl rfl rfl)
           refine Q3 ?_
           intro β W46 hE hN hD
           clear hN hD
           simp only [J0l, Act.put, mA, mB, mC, List.drop_succ_cons, List.drop_zero, List.drop_nil, List.length_nil, Nat.add_zero]
           have hO := Z6 hE
           replace k_t6 := k_t6.o hO
           replace k_t8 := k_t8.o hO
           replace k_t13 := k_t13.o hO
           replace ow_b := Owz.off ow_b hO f0
           replace off0 := off0.o hO
           clear hO hE β
           refine J2i (v := .int .u64 (ad ((mx (Hs (Y0 l) j) (Z9 kf (Y9 (bt (List.drop (128 * j) (Y0 l))) 80) (Hs (Y0 l) j) 80) i) i) ((Z9 kf (Y9 (bt (List.drop (128 * j) (Y0 l))) 80) (Hs (Y0 l) j) 80) i))) ⟨rfl, rfl⟩ (by rfl) rfl rfl rfl k_t6 (by rw [Q1, Nat.zero_add]; omega) (by kernel_rfl) ?_
           (try simp only [Act.put, mA, mB, mC])
           intro W47 hO h_
           rw [Nat.zero_add, J04] at h_
           replace k_t6 : Blk W47 J5b (J1 .u64 8 (upd (mx (Hs (Y0 l) j) (Z9 kf (Y9 (bt (List.drop (128 * j) (Y0 l))) 80) (Hs (Y0 l) j) 80) i) i (ad ((mx (Hs (Y0 l) j) (Z9 kf (Y9 (bt (List.drop (128 * j) (Y0 l))) 80) (Hs (Y0 l) j) 80) i) i) ((Z9 kf (Y9 (bt (List.drop (128 * j) (Y0 l))) 80) (Hs (Y0 l) j) 80) i)))) 113 := h_
           clear h_
           replace k_t8 := k_t8.p hO nq_t6_t8.symm
           replace k_t13 := k_t13.p hO nq_t6_t13.symm
           replace ow_b := Owz.off ow_b hO (f1 J0y)
           replace off0 := off0.p hO J4w
           clear hO
           refine LN ?_
           go_wp2
           go_roundw
           case rel => exact ⟨i + 1, by omega, by go_num, off0, (by rw [← Z4g]; exact k_t6), k_t8, k_t13, ow_b⟩
           case measure => simp [intOf]; omega
          ·
           have _f := h8
           obtain rfl : i = 8 := by omega
           rw [Y04] at k_t6
           go_upto_region 34 with fail
           refine wp_region_lit ?_
           refine Lv ?_
           refine Lw ?_ (v := .bool false)
           refine J0 ?_
           go_wp2
           go_roundw
           case rel => exact ⟨j + 1, by omega, by first | go_num | (go_simp; omega), off0, k_t6, ow_b⟩
           case measure => simp [intOf]; omega
    ·
     have _f := hjl
     obtain rfl : j = nb l.length := by omega
     go_upto_region 13 with fail
     refine wp_region_lit ?_
     refine Lv ?_
     refine Lv ?_
     refine J5w (l := (Y0 l)) (ow_b.sl) (by rfl) rfl rfl ?_
     (try simp only [Act.put, mA, mB, mC])
     refine Lw ?_ (v := .bool false) (hv := by first | (go_simp; done) | (go_simp; (try simp only [hpl]); omega))
     refine J0 ?_
     go_upto_region 37 with fail
     refine wp_region_lit ?_
     refine LnS ?_ (z := #[]) (t := 5) (n := 0) (c := 0)
     intro Q96 W40 Z25 hO h_
     have Z26 : Value.ownBlock (.slice (some ⟨Q96, 0, none⟩) 0 0) ≠ some J5b := obn k_t6 Z25
     have Y5e : Fr (Value.ownBlock (.slice (some ⟨Q96, 0, none⟩) 0 0)) w.heap.size [] := frn off0 Z25
     replace k_t6 := k_t6.o hO
     replace ow_b := Owz.off ow_b hO f0
     replace off0 := off0.o hO
     have Z4r : Own W40 (.slice (some ⟨Q96, 0, none⟩) 0 0) [] := V7 h_ (by rfl) (by show 0 ≤ maxLen; decide)
     clear hO h_ Z25
     refine Lv ?_
     refine J0 ?_
     clear ow_b K2 J0y
     have ow_b := Z4r
     clear Z4r
     have K2 := Y5e
     have J0y := Z26
     go_wp2_with fail
     go_loopw [18, 19] (fun sv ii wr => ∃ (i : Nat) (bv : Value), (i ≤ 8) ∧ (bv = sv) ∧ (ii = .int .i64 (i : Int)) ∧ Off [] w wr ∧ Blk wr J5b (J1 .u64 8 (Hs (Y0 l) (nb l.length))) 113 ∧ Own wr bv (wb (Hs (Y0 l) (nb l.length)) (8 * i)) ∧ Fr (Value.ownBlock bv) w.heap.size [] ∧ (Value.ownBlock bv) ≠ some J5b)
      (fun sv ii _ => 8 - (intOf ii).toNat)
     case atStart => exact ⟨0, _, Nat.zero_le _, rfl, rfl, off0, k_t6, ow_b, K2, J0y⟩
     case round =>
      obtain ⟨i, bv, hi, rfl, rfl, off0, k_t6, ow_b, K2, J0y⟩ := hrel
      obtain ⟨W41, eW_⟩ := J3r off0
      subst eW_
      by_cases h8 : i < 8
      ·
       have _f := h8
       go_upto_region 39 with fail
       refine wp_region_lit ?_
       refine Lv ?_
       refine Lw ?_ (v := .bool true)
       refine J0 ?_
       go_wp2_with fail
       refine wp_loop_rounds 9 ?_
       rw [rounds_succ]
       go_upto_region 44 with fail
       refine wp_region_lit ?_
       refine Lv ?_
       refine Lv ?_
       refine Lw ?_ (v := .pointer (some ⟨J5b, 0 + i, none⟩)) (hv := Q0 (m := 8) (by decide) (by omega) Tryd.underlying113 (by kernel_rfl) rfl rfl rfl)
       refine Lg ?_ k_t6 (v := .int .u64 ((Hs (Y0 l) (nb l.length)) i)) (hj := by rw [Nat.zero_add]; exact J6 _ _ _ _ (by omega))
       refine Lw ?_ (v := .int .i64 56)
       refine Lw ?_ (v := .int .u64 (sr ((Hs (Y0 l) (nb l.length)) i) 56)) (hv := J1l (n := 56) (by decide) rfl rfl rfl)
       refine Lw ?_ (v := .int .u8 ((bo (Hs (Y0 l) (nb l.length)) (8 * i + 0)).toNat : Int)) (hv := by rw [← J7h _ i 0 (by decide)]; exact J3t rfl rfl)
       refine LnS ?_ (z := #[.int .u8 ((bo (Hs (Y0 l) (nb l.length)) (8 * i + 0)).toNat : Int)]) (t := 5) (n := 1) (c := 1)
       intro Z4s W42 J2r hO h_
       have K8 : ∀ x, (Value.ownBlock bv) = some x → Value.ownBlock (.slice (some ⟨Z4s, 0, none⟩) 1 1) ≠ some x := J1k (Own.lt ow_b) J2r
       replace k_t6 := k_t6.o hO
       replace ow_b := Own.off ow_b hO f0
       replace off0 := off0.o hO
       have ow_s240 : Own W42 (.slice (some ⟨Z4s, 0, none⟩) 1 1) [bo (Hs (Y0 l) (nb l.length)) (8 * i + 0)] := V7 h_ (by rfl) (by show 1 ≤ maxLen; decide)
       clear hO h_ J2r
       refine J0b (xs := (wb (Hs (Y0 l) (nb l.length)) (8 * i))) (ys := [bo (Hs (Y0 l) (nb l.length)) (8 * i + 0)]) (by rfl) rfl rfl rfl ow_b (ow_s240.sl) (by first | omega | (simp only [List.length_append, List.length_cons, List.length_nil, List.length_replicate, J07]; omega)) ?_
       (try simp only [Act.put, mA, mB, mC])
       intro Y5f W43 J1o hO J0g nil_a241
       clear nil_a241
       have J1b := J15 J0g J0y (J5 k_t6)
       have J1p := J0r J0g K8 (Own.lt ow_s240)
       have J3b := J0i J0g K2 off0.size
       replace k_t6 := K3 k_t6 hO (nmo J0y)
       replace ow_s240 := Own.off ow_s240 hO (fo K8)
       replace off0 := off0.step hO (io K2)
       clear hO J0g
       have ow_b := J1o
       clear J1o
       have K2 := J3b
       have J0y := J1b
       have K8 := J1p
       refine Lv ?_
       refine J0 ?_
       go_wp2_with fail
       rw [rounds_succ]
       go_upto_region 44 with fail
       refine wp_region_lit ?_
       refine Lv ?_
       refine Lv ?_
       refine Lw ?_ (v := .pointer (some ⟨J5b, 0 + i, none⟩)) (hv := Q0 (m := 8) (by decide) (by omega) Tryd.underlying113 (by kernel_rfl) rfl rfl rfl)
       refine Lg ?_ k_t6 (v := .int .u64 ((Hs (Y0 l) (nb l.length)) i)) (hj := by rw [Nat.zero_add]; exact J6 _ _ _ _ (by omega))
       refine Lw ?_ (v := .int .i64 48)
       refine Lw ?_ (v := .int .u64 (sr ((Hs (Y0 l) (nb l.length)) i) 48)) (hv := J1l (n := 48) (by decide) rfl rfl rfl)
       refine Lw ?_ (v := .int .u8 ((bo (Hs (Y0 l) (nb l.length)) (8 * i + 1)).toNat : Int)) (hv := by rw [← J7h _ i 1 (by decide)]; exact J3t rfl rfl)
       clear ow_s240 K8
       refine LnS ?_ (z := #[.int .u8 ((bo (Hs (Y0 l) (nb l.length)) (8 * i + 1)).toNat : Int)]) (t := 5) (n := 1) (c := 1)
       intro Z4t W44 J2r hO h_
       have K8 : ∀ x, (Value.ownBlock Y5f) = some x → Value.ownBlock (.slice (some ⟨Z4t, 0, none⟩) 1 1) ≠ some x := J1k (Own.lt ow_b) J2r
       replace k_t6 := k_t6.o hO
       replace ow_b := Own.off ow_b hO f0
       replace off0 := off0.o hO
       have ow_s240 : Own W44 (.slice (some ⟨Z4t, 0, none⟩) 1 1) [bo (Hs (Y0 l) (nb l.length)) (8 * i + 1)] := V7 h_ (by rfl) (by show 1 ≤ maxLen; decide)
       clear hO h_ J2r
       refine J0b (xs := ((wb (Hs (Y0 l) (nb l.length)) (8 * i)) ++ [bo (Hs (Y0 l) (nb l.length)) (8 * i + 0)])) (ys := [bo (Hs (Y0 l) (nb l.length)) (8 * i + 1)]) (by rfl) rfl rfl rfl ow_b (ow_s240.sl) (by first | omega | (simp only [List.length_append, List.length_cons, List.length_nil, List.length_replicate, J07]; omega)) ?_
       (try simp only [Act.put, mA, mB, mC])
       intro Y5g W45 J1o hO J0g nil_a241
       clear nil_a241
       have J1b := J15 J0g J0y (J5 k_t6)
       have J1p := J0r J0g K8 (Own.lt ow_s240)
       have J3b := J0i J0g K2 off0.size
       replace k_t6 := K3 k_t6 hO (nmo J0y)
       replace ow_s240 := Own.off ow_s240 hO (fo K8)
       replace off0 := off0.step hO (io K2)
       clear hO J0g
       have ow_b := J1o
       clear J1o
       have K2 := J3b
       have J0y := J1b
       have K8 := J1p
       refine Lv ?_
       refine J0 ?_
       go_wp2_with fail
       rw [rounds_succ]
       go_upto_region 44 with fail
       refine wp_region_lit ?_
       refine Lv ?_
       refine Lv ?_
       refine Lw ?_ (v := .pointer (some ⟨J5b, 0 + i, none⟩)) (hv := Q0 (m := 8) (by decide) (by omega) Tryd.underlying113 (by kernel_rfl) rfl rfl rfl)
       refine Lg ?_ k_t6 (v := .int .u64 ((Hs (Y0 l) (nb l.length)) i)) (hj := by rw [Nat.zero_add]; exact J6 _ _ _ _ (by omega))
       refine Lw ?_ (v := .int .i64 40)
       refine Lw ?_ (v := .int .u64 (sr ((Hs (Y0 l) (nb l.length)) i) 40)) (hv := J1l (n := 40) (by decide) rfl rfl rfl)
       refine Lw ?_ (v := .int .u8 ((bo (Hs (Y0 l) (nb l.length)) (8 * i + 2)).toNat : Int)) (hv := by rw [← J7h _ i 2 (by decide)]; exact J3t rfl rfl)
       clear ow_s240 K8
       refine LnS ?_ (z := #[.int .u8 ((bo (Hs (Y0 l) (nb l.length)) (8 * i + 2)).toNat : Int)]) (t := 5) (n := 1) (c := 1)
       intro Z4u W46 J2r hO h_
       have K8 : ∀ x, (Value.ownBlock Y5g) = some x → Value.ownBlock (.slice (some ⟨Z4u, 0, none⟩) 1 1) ≠ some x := J1k (Own.lt ow_b) J2r
       replace k_t6 := k_t6.o hO
       replace ow_b := Own.off ow_b hO f0
       replace off0 := off0.o hO
       have ow_s240 : Own W46 (.slice (some ⟨Z4u, 0, none⟩) 1 1) [bo (Hs (Y0 l) (nb l.length)) (8 * i + 2)] := V7 h_ (by rfl) (by show 1 ≤ maxLen; decide)
       clear hO h_ J2r
       refine J0b (xs := (((wb (Hs (Y0 l) (nb l.length)) (8 * i)) ++ [bo (Hs (Y0 l) (nb l.length)) (8 * i + 0)]) ++ [bo (Hs (Y0 l) (nb l.length)) (8 * i + 1)])) (ys := [bo (Hs (Y0 l) (nb l.length)) (8 * i + 2)]) (by rfl) rfl rfl rfl ow_b (ow_s240.sl) (by first | omega | (simp only [List.length_append, List.length_cons, List.length_nil, List.length_replicate, J07]; omega)) ?_
       (try simp only [Act.put, mA, mB, mC])
       intro Y5h W47 J1o hO J0g nil_a241
       clear nil_a241
       have J1b := J15 J0g J0y (J5 k_t6)
       have J1p := J0r J0g K8 (Own.lt ow_s240)
       have J3b := J0i J0g K2 off0.size
       replace k_t6 := K3 k_t6 hO (nmo J0y)
       replace ow_s240 := Own.off ow_s240 hO (fo K8)
       replace off0 := off0.step hO (io K2)
       clear hO J0g
       have ow_b := J1o
       clear J1o
       have K2 := J3b
       have J0y := J1b
       have K8 := J1p
       refine Lv ?_
       refine J0 ?_
       go_wp2_with fail
       rw [rounds_succ]
       go_upto_region 44 with fail
       refine wp_region_lit ?_
       refine Lv ?_
       refine Lv ?_
       refine Lw ?_ (v := .pointer (some ⟨J5b, 0 + i, none⟩)) (hv := Q0 (m := 8) (by decide) (by omega) Tryd.underlying113 (by kernel_rfl) rfl rfl rfl)
       refine Lg ?_ k_t6 (v := .int .u64 ((Hs (Y0 l) (nb l.length)) i)) (hj := by rw [Nat.zero_add]; exact J6 _ _ _ _ (by omega))
       refine Lw ?_ (v := .int .i64 32)
       refine Lw ?_ (v := .int .u64 (sr ((Hs (Y0 l) (nb l.length)) i) 32)) (hv := J1l (n := 32) (by decide) rfl rfl rfl)
       refine Lw ?_ (v := .int .u8 ((bo (Hs (Y0 l) (nb l.length)) (8 * i + 3)).toNat : Int)) (hv := by rw [← J7h _ i 3 (by decide)]; exact J3t rfl rfl)
       clear ow_s240 K8
       refine LnS ?_ (z := #[.int .u8 ((bo (Hs (Y0 l) (nb l.length)) (8 * i + 3)).toNat : Int)]) (t := 5) (n := 1) (c := 1)
       intro Z4v W48 J2r hO h_
       have K8 : ∀ x, (Value.ownBlock Y5h) = some x → Value.ownBlock (.slice (some ⟨Z4v, 0, none⟩) 1 1) ≠ some x := J1k (Own.lt ow_b) J2r
       replace k_t6 := k_t6.o hO
       replace ow_b := Own.off ow_b hO f0
       replace off0 := off0.o hO
       have ow_s240 : Own W48 (.slice (some ⟨Z4v, 0, none⟩) 1 1) [bo (Hs (Y0 l) (nb l.length)) (8 * i + 3)] := V7 h_ (by rfl) (by show 1 ≤ maxLen; decide)
       clear hO h_ J2r
       refine J0b (xs := ((((wb (Hs (Y0 l) (nb l.length)) (8 * i)) ++ [bo (Hs (Y0 l) (nb l.length)) (8 * i + 0)]) ++ [bo (Hs (Y0 l) (nb l.length)) (8 * i + 1)]) ++ [bo (Hs (Y0 l) (nb l.length)) (8 * i + 2)])) (ys := [bo (Hs (Y0 l) (nb l.length)) (8 * i + 3)]) (by rfl) rfl rfl rfl ow_b (ow_s240.sl) (by first | omega | (simp only [List.length_append, List.length_cons, List.length_nil, List.length_replicate, J07]; omega)) ?_
       (try simp only [Act.put, mA, mB, mC])
       intro Y5i W49 J1o hO J0g nil_a241
       clear nil_a241
       have J1b := J15 J0g J0y (J5 k_t6)
       have J1p := J0r J0g K8 (Own.lt ow_s240)
       have J3b := J0i J0g K2 off0.size
       replace k_t6 := K3 k_t6 hO (nmo J0y)
       replace ow_s240 := Own.off ow_s240 hO (fo K8)
       replace off0 := off0.step hO (io K2)
       clear hO J0g
       have ow_b := J1o
       clear J1o
       have K2 := J3b
       have J0y := J1b
       have K8 := J1p
       refine Lv ?_
       refine J0 ?_
       go_wp2_with fail
       rw [rounds_succ]
       go_upto_region 44 with fail
       refine wp_region_lit ?_
       refine Lv ?_
       refine Lv ?_
       refine Lw ?_ (v := .pointer (some ⟨J5b, 0 + i, none⟩)) (hv := Q0 (m := 8) (by decide) (by omega) Tryd.underlying113 (by kernel_rfl) rfl rfl rfl)
       refine Lg ?_ k_t6 (v := .int .u64 ((Hs (Y0 l) (nb l.length)) i)) (hj := by rw [Nat.zero_add]; exact J6 _ _ _ _ (by omega))
       refine Lw ?_ (v := .int .i64 24)
       refine Lw ?_ (v := .int .u64 (sr ((Hs (Y0 l) (nb l.length)) i) 24)) (hv := J1l (n := 24) (by decide) rfl rfl rfl)
       refine Lw ?_ (v := .int .u8 ((bo (Hs (Y0 l) (nb l.length)) (8 * i + 4)).toNat : Int)) (hv := by rw [← J7h _ i 4 (by decide)]; exact J3t rfl rfl)
       clear ow_s240 K8
       refine LnS ?_ (z := #[.int .u8 ((bo (Hs (Y0 l) (nb l.length)) (8 * i + 4)).toNat : Int)]) (t := 5) (n := 1) (c := 1)
       intro Z4w W50 J2r hO h_
       have K8 : ∀ x, (Value.ownBlock Y5i) = some x → Value.ownBlock (.slice (some ⟨Z4w, 0, none⟩) 1 1) ≠ some x := J1k (Own.lt ow_b) J2r
       replace k_t6 := k_t6.o hO
       replace ow_b := Own.off ow_b hO f0
       replace off0 := off0.o hO
       have ow_s240 : Own W50 (.slice (some ⟨Z4w, 0, none⟩) 1 1) [bo (Hs (Y0 l) (nb l.length)) (8 * i + 4)] := V7 h_ (by rfl) (by show 1 ≤ maxLen; decide)
       clear hO h_ J2r
       refine J0b (xs := (((((wb (Hs (Y0 l) (nb l.length)) (8 * i)) ++ [bo (Hs (Y0 l) (nb l.length)) (8 * i + 0)]) ++ [bo (Hs (Y0 l) (nb l.length)) (8 * i + 1)]) ++ [bo (Hs (Y0 l) (nb l.length)) (8 * i + 2)]) ++ [bo (Hs (Y0 l) (nb l.length)) (8 * i + 3)])) (ys := [bo (Hs (Y0 l) (nb l.length)) (8 * i + 4)]) (by rfl) rfl rfl rfl ow_b (ow_s240.sl) (by first | omega | (simp only [List.length_append, List.length_cons, List.length_nil, List.length_replicate, J07]; omega)) ?_
       (try simp only [Act.put, mA, mB, mC])
       intro Y5j W51 J1o hO J0g nil_a241
       clear nil_a241
       have J1b := J15 J0g J0y (J5 k_t6)
       have J1p := J0r J0g K8 (Own.lt ow_s240)
       have J3b := J0i J0g K2 off0.size
       replace k_t6 := K3 k_t6 hO (nmo J0y)
       replace ow_s240 := Own.off ow_s240 hO (fo K8)
       replace off0 := off0.step hO (io K2)
       clear hO J0g
       have ow_b := J1o
       clear J1o
       have K2 := J3b
       have J0y := J1b
       have K8 := J1p
       refine Lv ?_
       refine J0 ?_
       go_wp2_with fail
       rw [rounds_succ]
       go_upto_region 44 with fail
       refine wp_region_lit ?_
       refine Lv ?_
       refine Lv ?_
       refine Lw ?_ (v := .pointer (some ⟨J5b, 0 + i, none⟩)) (hv := Q0 (m := 8) (by decide) (by omega) Tryd.underlying113 (by kernel_rfl) rfl rfl rfl)
       refine Lg ?_ k_t6 (v := .int .u64 ((Hs (Y0 l) (nb l.length)) i)) (hj := by rw [Nat.zero_add]; exact J6 _ _ _ _ (by omega))
       refine Lw ?_ (v := .int .i64 16)
       refine Lw ?_ (v := .int .u64 (sr ((Hs (Y0 l) (nb l.length)) i) 16)) (hv := J1l (n := 16) (by decide) rfl rfl rfl)
       refine Lw ?_ (v := .int .u8 ((bo (Hs (Y0 l) (nb l.length)) (8 * i + 5)).toNat : Int)) (hv := by rw [← J7h _ i 5 (by decide)]; exact J3t rfl rfl)
       clear ow_s240 K8
       refine LnS ?_ (z := #[.int .u8 ((bo (Hs (Y0 l) (nb l.length)) (8 * i + 5)).toNat : Int)]) (t := 5) (n := 1) (c := 1)
       intro Z4x W52 J2r hO h_
       have K8 : ∀ x, (Value.ownBlock Y5j) = some x → Value.ownBlock (.slice (some ⟨Z4x, 0, none⟩) 1 1) ≠ some x := J1k (Own.lt ow_b) J2r
       replace k_t6 := k_t6.o hO
       replace ow_b := Own.off ow_b hO f0
       replace off0 := off0.o hO
       have ow_s240 : Own W52 (.slice (some ⟨Z4x, 0, none⟩) 1 1) [bo (Hs (Y0 l) (nb l.length)) (8 * i + 5)] := V7 h_ (by rfl) (by show 1 ≤ maxLen; decide)
       clear hO h_ J2r
       refine J0b (xs := ((((((wb (Hs (Y0 l) (nb l.length)) (8 * i)) ++ [bo (Hs (Y0 l) (nb l.length)) (8 * i + 0)]) ++ [bo (Hs (Y0 l) (nb l.length)) (8 * i + 1)]) ++ [bo (Hs (Y0 l) (nb l.length)) (8 * i + 2)]) ++ [bo (Hs (Y0 l) (nb l.length)) (8 * i + 3)]) ++ [bo (Hs (Y0 l) (nb l.length)) (8 * i + 4)])) (ys := [bo (Hs (Y0 l) (nb l.length)) (8 * i + 5)]) (by rfl) rfl rfl rfl ow_b (ow_s240.sl) (by first | omega | (simp only [List.length_append, List.length_cons, List.length_nil, List.length_replicate, J07]; omega)) ?_
       (try simp only [Act.put, mA, mB, mC])
       intro Y5k W53 J1o hO J0g nil_a241
       clear nil_a241
       have J1b := J15 J0g J0y (J5 k_t6)
       have J1p := J0r J0g K8 (Own.lt ow_s240)
       have J3b := J0i J0g K2 off0.size
       replace k_t6 := K3 k_t6 hO (nmo J0y)
       replace ow_s240 := Own.off ow_s240 hO (fo K8)
       replace off0 := off0.step hO (io K2)
       clear hO J0g
       have ow_b := J1o
       clear J1o
       have K2 := J3b
       have J0y := J1b
       have K8 := J1p
       refine Lv ?_
       refine J0 ?_
       go_wp2_with fail
       rw [rounds_succ]
       go_upto_region 44 with fail
       refine wp_region_lit ?_
       refine Lv ?_
       refine Lv ?_
       refine Lw ?_ (v := .pointer (some ⟨J5b, 0 + i, none⟩)) (hv := Q0 (m := 8) (by decide) (by omega) Tryd.underlying113 (by kernel_rfl) rfl rfl rfl)
       refine Lg ?_ k_t6 (v := .int .u64 ((Hs (Y0 l) (nb l.length)) i)) (hj := by rw [Nat.zero_add]; exact J6 _ _ _ _ (by omega))
       refine Lw ?_ (v := .int .i64 8)
       refine Lw ?_ (v := .int .u64 (sr ((Hs (Y0 l) (nb l.length)) i) 8)) (hv := J1l (n := 8) (by decide) rfl rfl rfl)
       refine Lw ?_ (v := .int .u8 ((bo (Hs (Y0 l) (nb l.length)) (8 * i + 6)).toNat : Int)) (hv := by rw [← J7h _ i 6 (by decide)]; exact J3t rfl rfl)
       clear ow_s240 K8
       refine LnS ?_ (z := #[.int .u8 ((bo (Hs (Y0 l) (nb l.length)) (8 * i + 6)).toNat : Int)]) (t := 5) (n := 1) (c := 1)
       intro Z4y W54 J2r hO h_
       have K8 : ∀ x, (Value.ownBlock Y5k) = some x → Value.ownBlock (.slice (some ⟨Z4y, 0, none⟩) 1 1) ≠ some x := J1k (Own.lt ow_b) J2r
       replace k_t6 := k_t6.o hO
       replace ow_b := Own.off ow_b hO f0
       replace off0 := off0.o hO
       have ow_s240 : Own W54 (.slice (some ⟨Z4y, 0, none⟩) 1 1) [bo (Hs (Y0 l) (nb l.length)) (8 * i + 6)] := V7 h_ (by rfl) (by show 1 ≤ maxLen; decide)
       clear hO h_ J2r
       refine J0b (xs := (((((((wb (Hs (Y0 l) (nb l.length)) (8 * i)) ++ [bo (Hs (Y0 l) (nb l.length)) (8 * i + 0)]) ++ [bo (Hs (Y0 l) (nb l.length)) (8 * i + 1)]) ++ [bo (Hs (Y0 l) (nb l.length)) (8 * i + 2)]) ++ [bo (Hs (Y0 l) (nb l.length)) (8 * i + 3)]) ++ [bo (Hs (Y0 l) (nb l.length)) (8 * i + 4)]) ++ [bo (Hs (Y0 l) (nb l.length)) (8 * i + 5)])) (ys := [bo (Hs (Y0 l) (nb l.length)) (8 * i + 6)]) (by rfl) rfl rfl rfl ow_b (ow_s240.sl) (by first | omega | (simp only [List.length_append, List.length_cons, List.length_nil, List.length_replicate, J07]; omega)) ?_
       (try simp only [Act.put, mA, mB, mC])
       intro V50 W55 J1o hO J0g nil_a241
       clear nil_a241
       have J1b := J15 J0g J0y (J5 k_t6)
       have J3b := J0i J0g K2 off0.size
       replace k_t6 := K3 k_t6 hO (nmo J0y)
       replace ow_s240 := Own.off ow_s240 hO (fo K8)
       replace off0 := off0.step hO (io K2)
       clear hO J0g
       have ow_b := J1o
       clear J1o
       have K2 := J3b
       have J0y := J1b
       refine Lv ?_
       refine J0 ?_
       go_wp2_with fail
       rw [rounds_succ]
       go_upto_region 44 with fail
       refine wp_region_lit ?_
       refine Lv ?_
       refine Lv ?_
       refine Lw ?_ (v := .pointer (some ⟨J5b, 0 + i, none⟩)) (hv := Q0 (m := 8) (by decide) (by omega) Tryd.underlying113 (by kernel_rfl) rfl rfl rfl)
       refine Lg ?_ k_t6 (v := .int .u64 ((Hs (Y0 l) (nb l.length)) i)) (hj := by rw [Nat.zero_add]; exact J6 _ _ _ _ (by omega))
       refine Lw ?_ (v := .int .i64 0)
       refine Lw ?_ (v := .int .u64 (sr ((Hs (Y0 l) (nb l.length)) i) 0)) (hv := J1l (n := 0) (by decide) rfl rfl rfl)
       refine Lw ?_ (v := .int .u8 ((bo (Hs (Y0 l) (nb l.length)) (8 * i + 7)).toNat : Int)) (hv := by rw [← J7h _ i 7 (by decide)]; exact J3t rfl rfl)
       clear ow_s240 K8
       refine LnS ?_ (z := #[.int .u8 ((bo (Hs (Y0 l) (nb l.length)) (8 * i + 7)).toNat : Int)]) (t := 5) (n := 1) (c := 1)
       intro Y5l W56 J2r hO h_
       replace k_t6 := k_t6.o hO
       replace ow_b := Own.off ow_b hO f0
       replace off0 := off0.o hO
       have ow_s240 : Own W56 (.slice (some ⟨Y5l, 0, none⟩) 1 1) [bo (Hs (Y0 l) (nb l.length)) (8 * i + 7)] := V7 h_ (by rfl) (by show 1 ≤ maxLen; decide)
       clear hO h_ J2r
       refine J0b (xs := ((((((((wb (Hs (Y0 l) (nb l.length)) (8 * i)) ++ [bo (Hs (Y0 l) (nb l.length)) (8 * i + 0)]) ++ [bo (Hs (Y0 l) (nb l.length)) (8 * i + 1)]) ++ [bo (Hs (Y0 l) (nb l.length)) (8 * i + 2)]) ++ [bo (Hs (Y0 l) (nb l.length)) (8 * i + 3)]) ++ [bo (Hs (Y0 l) (nb l.length)) (8 * i + 4)]) ++ [bo (Hs (Y0 l) (nb l.length)) (8 * i + 5)]) ++ [bo (Hs (Y0 l) (nb l.length)) (8 * i + 6)])) (ys := [bo (Hs (Y0 l) (nb l.length)) (8 * i + 7)]) (by rfl) rfl rfl rfl ow_b (ow_s240.sl) (by first | omega | (simp only [List.length_append, List.length_cons, List.length_nil, List.length_replicate, J07]; omega)) ?_
       (try simp only [Act.put, mA, mB, mC])
       intro V51 W57 J1o hO J0g nil_a241
       clear nil_a241
       have J1b := J15 J0g J0y (J5 k_t6)
       have J3b := J0i J0g K2 off0.size
       replace k_t6 := K3 k_t6 hO (nmo J0y)
       replace off0 := off0.step hO (io K2)
       clear hO J0g
       have ow_b := J1o
       clear J1o
       have K2 := J3b
       have J0y := J1b
       refine Lv ?_
       refine J0 ?_
       go_wp2_with fail
       rw [rounds_succ]
       go_wp2
       go_roundw
       case rel => exact ⟨i + 1, _, by omega, rfl, by go_num, off0, k_t6, (by rw [← Z4j]; exact ow_b), K2, J0y⟩
       case measure => simp [intOf]; omega
      ·
       have _f := h8
       obtain rfl : i = 8 := by omega
       go_upto_region 39 with fail
       refine wp_region_lit ?_
       refine Lv ?_
       refine Lw ?_ (v := .bool false)
       refine J0 ?_
       go_upto_region 45 with fail
       refine wp_region_lit ?_
       refine Lv ?_
       refine J2l (l := (wb (Hs (Y0 l) (nb l.length)) (8 * 8))) (ow_b.sl) (by rfl) rfl rfl ?_
       (try simp only [Act.put, mA, mB, mC])
       refine Lv ?_
       refine J0 ?_
       go_wp2
       exact bodyPost_ret (v := str (wb (Hs (Y0 l) (nb l.length)) (8 * 8))) (by simp only [results, Tryd.results43]; go_simp) rfl ⟨rfl, off0.ext⟩
end Go.Proofs.YtefpoollmbmkfaaDoor
