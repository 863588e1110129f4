/- Contracts and plain laws that superChecks_holds rests on. Conditions: the variables' cells hold the numbers of the program's text. -/
import Derived.Test.YtejkmhgkkibafaaGreatDoorJ6
import Derived.Test.YtejkmhgkkibafaaGreatDoorJ3
import Derived.Test.YtejkmhgkkibafaaGreatDoorJ8
import Derived.Test.YtejkmhgkkibafaaGreatDoorJ19
open Go.RowKit
set_option maxRecDepth 100000
set_option linter.unusedSimpArgs false
set_option linter.unusedVariables false
namespace Go.Proofs.YtejkmhgkkibafaaGreatDoor.S8
section
set_option maxHeartbeats 1500000
attribute [local irreducible] wpList U0 wpX
variable {kn : Kn}
theorem Q41 {V : Nat} (h : dOk V = true) : V % 2 ^ 255 < PP := by
 unfold dOk at h; simp only [Bool.and_eq_true, decide_eq_true_eq] at h; exact h.1.1
theorem Z12 {V : Nat} (h : dOk V = true) : dB (V % 2 ^ 255) = true := by
 unfold dOk at h; simp only [Bool.and_eq_true] at h; exact h.1.2
theorem Y4r {V : Nat} (h : dOk V = true) (ht : top V = true) : ¬ dX (V % 2 ^ 255) = 0 := by
 unfold dOk at h; intro h0
 simp [ht, h0] at h
theorem J9c {V : Nat} (h1 : V % 2 ^ 255 < PP) (h2 : dB (V % 2 ^ 255) = true) (h3 : ¬ (top V = true ∧ dX (V % 2 ^ 255) = 0)) : dOk V = true := by
 unfold dOk
 rw [decide_eq_true h1, h2]
 cases ht : top V
 ·
  rfl
 have : ¬ dX (V % 2 ^ 255) = 0 := fun h0 => h3 ⟨ht, h0⟩
 simp [this]
theorem J9d (V : Nat) : V % 2 ^ 255 < 2 ^ 256 := Nat.lt_trans (Nat.mod_lt _ (by decide)) (by decide)

theorem Z6j (y : Nat) (o : Bool) : dXf y o < PP := by
 unfold dXf
 split
 ·
  exact Q91 y
 exact J1w _
theorem Y6o (hc : kn.c) {V : Nat} (hV : V < 2 ^ 256) (hok : dOk V = false) :
  ∀ w, GE kn w → Calls Tryz.prog 106 #[.agg (J0 .u8 32 (Q3 V))] w fun e w' => K7 (.tuple #[.agg (p4 0 0 0 0), .int .i64 15]) w w' e := by
 have ε := Y4o (Q3 V) (J2y V)
 rw [J44, show 8 * 32 = 256 by decide, Nat.mod_eq_of_lt hV] at ε
 obtain ⟨Y, hY⟩ := V3 (V % 2 ^ 255 % PP)
 rw [← hY] at ε
 have lY := bpp hY
 have HY := Lib.hid hY
 clear hY
 have Z := Q2g Y (Z0 lY)
 rw [Nat.mod_eq_of_lt lY] at Z
 have M := Z0p Y (V % 2 ^ 255) (Q13 lY) (J9d V)
 have δ := J06 Y Y (Z0 lY) (Z0 lY)
 obtain ⟨N2, θ⟩ := V3 (Y * Y % PP)
 rw [← θ] at δ
 have χ := bpp θ
 have φ := Z0 χ
 have μ := Lib.hid θ
 clear θ
 have S := J7a N2 1 φ (by decide)
 obtain ⟨N3, κ⟩ := V3 ((N2 + (PP - 1 % PP)) % PP)
 rw [← κ] at S
 have Δ := bpp κ
 have Γ := Z0 Δ
 have ρ := Lib.hid κ
 clear κ
 have N := J06 DD N2 Q7a φ
 obtain ⟨N4, ν⟩ := V3 (DD * N2 % PP)
 rw [← ν] at N
 have Θ := bpp ν
 have ψ := Z0 Θ
 have ζ := Lib.hid ν
 clear ν
 have T := J4d N4 1 ψ (by decide)
 obtain ⟨N5, η⟩ := V3 ((N4 + 1) % PP)
 rw [← η] at T
 have Ξ := bpp η
 have ω := Z0 Ξ
 have ξ := Lib.hid η
 clear η
 have J := Z0y N3 N5 Γ ω
 obtain ⟨R, hR⟩ := V3 (rtR N3 N5)
 rw [← hR] at J
 have lR : R < PP := by rw [hR]; exact J9f _ _
 have HR := Lib.hid hR
 clear hR
 obtain ⟨B, hB⟩ := V3 (rtB N3 N5)
 rw [← hB] at J
 have HB := Lib.hid hB
 clear hB
 have β := J7w R 0 (Z0 lR) (by decide)
 rw [Nat.mod_eq_of_lt lR, Nat.mod_eq_of_lt (by decide)] at β
 intro w hG
 have hS := SH.nil [] w
 go_enter Tryz.func106, Tryz.ntmps106
 go_upto_region 0 with fail
 refine RL hS ?_
 clear hS
 refine MN (z := J0 .u8 32 (Q3 V)) (t := 23) ?_
 intro U
 refine MN (z := p4 0 0 0 0) (t := 157) ?_
 intro Ψ
 refine MW ?_ (v := .int .i64 0)
 refine MZ fun W hS => ?_
 by_cases ht : top V = true
 ·
  go_upto_region 1 with fail
  refine RL hS ?_
  clear hS
  refine MW ?_ (v := .pointer (some ⟨U, 0 + 31, none⟩)) (hv := fun _ => J5 (m := 32) (by decide) (by decide) Tryz.underlying23 (by kernel_rfl) rfl rfl rfl)
  refine MG 1 ?_ (j := 0 + 31) (v := .int .u8 ((Q3 V) 31)) (hj := by rw [Nat.zero_add]; exact J3 _ _ _ _ (by decide))
  refine MW ?_ (v := .int .u8 128) (hv := by intro W; exact J2r (Z13 hV ht) rfl rfl rfl)
  refine MW ?_ (v := .bool true)
  refine MW ?_ (v := .bool true)
  refine MZ fun W hS => ?_
  go_upto_region 2 with fail
  refine RL hS ?_
  clear hS
  refine ML 1 ?_
  refine MC (v := .agg (c4 Y)) (fun W hS => ε W (Q8 hG hS.ext).1) ?_
  refine MN (z := c4 0) (t := 155) ?_
  intro D1
  refine MR 0 ?_ 
  refine MZ fun W hS => ?_
  go_upto_region 3 with fail
  refine RL hS ?_
  clear hS
  refine MW ?_ (v := .pointer (some ⟨U, 0 + 31, none⟩)) (hv := fun _ => J5 (m := 32) (by decide) (by decide) Tryz.underlying23 (by kernel_rfl) rfl rfl rfl)
  refine MG 2 ?_ (j := 0 + 31) (v := .int .u8 ((Q3 V) 31)) (hj := by rw [Nat.zero_add]; exact J3 _ _ _ _ (by decide))
  refine MW ?_ (v := .int .u8 (bits .andNot .u8 (Q3 V 31) 128)) (hv := by intro W; exact J7x rfl rfl rfl rfl)
  refine MW ?_ (v := .pointer (some ⟨U, 0 + 31, none⟩)) (hv := fun _ => J5 (m := 32) (by decide) (by decide) Tryz.underlying23 (by kernel_rfl) rfl rfl rfl)
  refine MP 2 (v := .int .u8 (bits .andNot .u8 (Q3 V 31) 128)) (cs' := J0 .u8 32 (upd (Q3 V) 31 (bits .andNot .u8 (Q3 V 31) 128))) ?_ (hs := by rw [J1, Nat.zero_add]; decide) (hc := by rw [Nat.zero_add]; exact V4 _ _ _ _ _)
  refine MT (fun W hS => by rw [Q7b (Q15 hV)] at hS; exact hS) ?_
  refine MZ fun W hS => ?_
  by_cases hy : Y = V % 2 ^ 255
  ·
   have D := Lib.hid hy
   clear hy
   go_upto_region 4 with fail
   refine RS hS ?_
   clear hS
   refine ML 0 ?_
   refine MC (v := .agg (J0 .u8 32 (Q3 Y))) (fun W hS => Z W (Q8 hG hS.ext).1) ?_
   refine ML 2 ?_
   rw [decide_eq_true D.out] at M
   refine MW ?_ (v := .bool false) (hv := fun _ => J3f ((M) _) (by kernel_rfl) rfl rfl rfl)
   refine MZx fun W hS => ?_
   go_upto_region 6 with fail
   refine RL hS ?_
   clear hS
   refine ML 0 ?_
   refine ML 0 ?_
   refine MC (v := .agg (c4 N2)) (fun W hS => δ W (Q8 hG hS.ext).1) ?_
   refine MN (z := c4 0) (t := 155) ?_
   intro Ω
   refine MR 0 ?_ 
   refine MZ fun W hS => ?_
   have α : R = dX Y := by unfold dX dU dV; rw [HR.out, ρ.out, ξ.out, ζ.out, μ.out]
   have γ : B = dB Y := by unfold dB dU dV; rw [HB.out, ρ.out, ξ.out, ζ.out, μ.out]
   have τ := Lib.hid α
   have σ := Lib.hid γ
   clear α γ
   by_cases hb : B = true
   ·
    have G := Lib.hid hb
    clear hb
    go_upto_region 7 with fail
    refine RXn 12 [⟨12, 7, c4 0, 155⟩] hS ?_ (by simp only [List.forall_mem_cons]; exact ⟨⟨_, rfl, rfl, rfl, fun _ _ => by kernel_rfl⟩, fun _ h => by cases h⟩)
    clear hS
    refine ML 0 ?_
    refine MC (v := .agg (c4 1)) (fun W hS => J31 W) ?_
    refine MC (v := .agg (c4 N3)) (fun W hS => S W (Q8 hG hS.ext).1) ?_
    refine MF (v := .agg (c4 DD)) (fun W hS => J1v rfl rfl ((Q8 hG hS.ext).2.2.1 hc) (by kernel_rfl) (by kernel_rfl)) ?_
    refine ML 0 ?_
    refine MC (v := .agg (c4 N4)) (fun W hS => N W (Q8 hG hS.ext).1) ?_
    refine MC (v := .agg (c4 1)) (fun W hS => J31 W) ?_
    refine MC (v := .agg (c4 N5)) (fun W hS => T W (Q8 hG hS.ext).1) ?_
    rw [G.out] at J
    refine MC (v := .tuple #[.agg (c4 R), .bool true]) (fun W hS => J W (Q8 hG hS.ext).1 ((Q8 hG hS.ext).2.1 hc)) ?_
    refine MV ?_
    refine MV ?_
    refine MW ?_ (v := .bool true)
    refine MZB fun D4 => ?_
    refine MR 0 ?_ 
    refine MW ?_ (v := .bool true)
    refine MZn fun W hS => ?_
    by_cases h0 : R = 0
    ·
     have X := Lib.hid h0
     clear h0
     go_upto_region 8 with fail
     refine RL hS ?_
     clear hS
     refine MW ?_ (v := .bool true)
     refine MW ?_ (v := .bool false)
     refine MW ?_ (v := .bool false)
     refine MW ?_ (v := .bool true)
     refine MW ?_ (v := .bool true)
     refine ML 0 ?_
     refine MW ?_ (v := .agg (c4 0)) (hv := by intro W; kernel_rfl)
     rw [decide_eq_true X.out] at β
     refine MC (v := .bool true) (fun W hS => β W (Q8 hG hS.ext).1) ?_
     refine MW ?_ (v := .bool true)
     refine MW ?_ (v := .bool true)
     refine MZ fun W hS => ?_
     go_upto_region 9 with fail
     refine RL hS ?_
     clear hS
     refine MW ?_ (v := .agg (p4 0 0 0 0)) (hv := by intro W; kernel_rfl)
     refine MR 3 ?_ 
     refine MW ?_ (v := .int .i64 15)
     refine MZ fun W hS => ?_
     go_wp2
     exact bodyPost_ret (J01 rfl rfl rfl (hS.blk (i := 3) rfl) (by kernel_rfl) (by kernel_rfl)) rfl ⟨rfl, hS.ext⟩
    have X := Lib.hid h0
    clear h0
    go_upto_region 8 with fail
    refine RL hS ?_
    clear hS
    refine MW ?_ (v := .bool true)
    refine MW ?_ (v := .bool false)
    refine MW ?_ (v := .bool false)
    refine MW ?_ (v := .bool true)
    refine MW ?_ (v := .bool true)
    refine ML 0 ?_
    refine MW ?_ (v := .agg (c4 0)) (hv := by intro W; kernel_rfl)
    rw [decide_eq_false X.out] at β
    refine MC (v := .bool false) (fun W hS => β W (Q8 hG hS.ext).1) ?_
    refine MW ?_ (v := .bool false)
    refine MW ?_ (v := .bool false)
    refine MZ fun W hS => ?_
    exact absurd (J9c (D.out ▸ lY) (by rw [← D.out, ← σ.out]; exact G.out) (fun h => X.out (by rw [τ.out, D.out]; exact h.2))) (by rw [hok]; decide)
   rw [Bool.not_eq_true] at hb
   have G := Lib.hid hb
   clear hb
   go_upto_region 7 with fail
   refine RXn 12 [⟨12, 7, c4 0, 155⟩] hS ?_ (by simp only [List.forall_mem_cons]; exact ⟨⟨_, rfl, rfl, rfl, fun _ _ => by kernel_rfl⟩, fun _ h => by cases h⟩)
   clear hS
   refine ML 0 ?_
   refine MC (v := .agg (c4 1)) (fun W hS => J31 W) ?_
   refine MC (v := .agg (c4 N3)) (fun W hS => S W (Q8 hG hS.ext).1) ?_
   refine MF (v := .agg (c4 DD)) (fun W hS => J1v rfl rfl ((Q8 hG hS.ext).2.2.1 hc) (by kernel_rfl) (by kernel_rfl)) ?_
   refine ML 0 ?_
   refine MC (v := .agg (c4 N4)) (fun W hS => N W (Q8 hG hS.ext).1) ?_
   refine MC (v := .agg (c4 1)) (fun W hS => J31 W) ?_
   refine MC (v := .agg (c4 N5)) (fun W hS => T W (Q8 hG hS.ext).1) ?_
   rw [G.out] at J
   refine MC (v := .tuple #[.agg (c4 R), .bool false]) (fun W hS => J W (Q8 hG hS.ext).1 ((Q8 hG hS.ext).2.1 hc)) ?_
   refine MV ?_
   refine MV ?_
   refine MW ?_ (v := .bool false)
   refine MZB fun D5 => ?_
   refine MR 0 ?_ 
   refine MW ?_ (v := .bool false)
   refine MZn fun W hS => ?_
   go_upto_region 8 with fail
   refine RL hS ?_
   clear hS
   refine MW ?_ (v := .bool false)
   refine MW ?_ (v := .bool true)
   refine MW ?_ (v := .bool true)
   refine MS ?_
   refine MS ?_
   refine MS ?_
   refine MS ?_
   refine MS ?_
   refine MS ?_
   refine MW ?_ (v := .bool true)
   refine MZ fun W hS => ?_
   go_upto_region 9 with fail
   refine RL hS ?_
   clear hS
   refine MW ?_ (v := .agg (p4 0 0 0 0)) (hv := by intro W; kernel_rfl)
   refine MR 3 ?_ 
   refine MW ?_ (v := .int .i64 15)
   refine MZ fun W hS => ?_
   go_wp2
   exact bodyPost_ret (J01 rfl rfl rfl (hS.blk (i := 3) rfl) (by kernel_rfl) (by kernel_rfl)) rfl ⟨rfl, hS.ext⟩
  have D := Lib.hid hy
  clear hy
  go_upto_region 4 with fail
  refine RS hS ?_
  clear hS
  refine ML 0 ?_
  refine MC (v := .agg (J0 .u8 32 (Q3 Y))) (fun W hS => Z W (Q8 hG hS.ext).1) ?_
  refine ML 2 ?_
  rw [decide_eq_false D.out] at M
  refine MW ?_ (v := .bool true) (hv := fun _ => J3f ((M) _) (by kernel_rfl) rfl rfl rfl)
  refine MZx fun W hS => ?_
  go_upto_region 5 with fail
  refine RL hS ?_
  clear hS
  refine MW ?_ (v := .agg (p4 0 0 0 0)) (hv := by intro W; kernel_rfl)
  refine MR 1 ?_ 
  refine MW ?_ (v := .int .i64 15)
  refine MZ fun W hS => ?_
  go_wp2
  exact bodyPost_ret (J01 rfl rfl rfl (hS.blk (i := 1) rfl) (by kernel_rfl) (by kernel_rfl)) rfl ⟨rfl, hS.ext⟩
 go_upto_region 1 with fail
 refine RL hS ?_
 clear hS
 refine MW ?_ (v := .pointer (some ⟨U, 0 + 31, none⟩)) (hv := fun _ => J5 (m := 32) (by decide) (by decide) Tryz.underlying23 (by kernel_rfl) rfl rfl rfl)
 refine MG 1 ?_ (j := 0 + 31) (v := .int .u8 ((Q3 V) 31)) (hj := by rw [Nat.zero_add]; exact J3 _ _ _ _ (by decide))
 refine MW ?_ (v := .int .u8 0) (hv := by intro W; exact J2r (Z14 hV ht) rfl rfl rfl)
 refine MW ?_ (v := .bool false)
 refine MW ?_ (v := .bool false)
 refine MZ fun W hS => ?_
 go_upto_region 2 with fail
 refine RL hS ?_
 clear hS
 refine ML 1 ?_
 refine MC (v := .agg (c4 Y)) (fun W hS => ε W (Q8 hG hS.ext).1) ?_
 refine MN (z := c4 0) (t := 155) ?_
 intro D0
 refine MR 0 ?_ 
 refine MZ fun W hS => ?_
 go_upto_region 3 with fail
 refine RL hS ?_
 clear hS
 refine MW ?_ (v := .pointer (some ⟨U, 0 + 31, none⟩)) (hv := fun _ => J5 (m := 32) (by decide) (by decide) Tryz.underlying23 (by kernel_rfl) rfl rfl rfl)
 refine MG 2 ?_ (j := 0 + 31) (v := .int .u8 ((Q3 V) 31)) (hj := by rw [Nat.zero_add]; exact J3 _ _ _ _ (by decide))
 refine MW ?_ (v := .int .u8 (bits .andNot .u8 (Q3 V 31) 128)) (hv := by intro W; exact J7x rfl rfl rfl rfl)
 refine MW ?_ (v := .pointer (some ⟨U, 0 + 31, none⟩)) (hv := fun _ => J5 (m := 32) (by decide) (by decide) Tryz.underlying23 (by kernel_rfl) rfl rfl rfl)
 refine MP 2 (v := .int .u8 (bits .andNot .u8 (Q3 V 31) 128)) (cs' := J0 .u8 32 (upd (Q3 V) 31 (bits .andNot .u8 (Q3 V 31) 128))) ?_ (hs := by rw [J1, Nat.zero_add]; decide) (hc := by rw [Nat.zero_add]; exact V4 _ _ _ _ _)
 refine MT (fun W hS => by rw [Q7b (Q15 hV)] at hS; exact hS) ?_
 refine MZ fun W hS => ?_
 by_cases hy : Y = V % 2 ^ 255
 ·
  have D := Lib.hid hy
  clear hy
  go_upto_region 4 with fail
  refine RS hS ?_
  clear hS
  refine ML 0 ?_
  refine MC (v := .agg (J0 .u8 32 (Q3 Y))) (fun W hS => Z W (Q8 hG hS.ext).1) ?_
  refine ML 2 ?_
  rw [decide_eq_true D.out] at M
  refine MW ?_ (v := .bool false) (hv := fun _ => J3f ((M) _) (by kernel_rfl) rfl rfl rfl)
  refine MZx fun W hS => ?_
  go_upto_region 6 with fail
  refine RL hS ?_
  clear hS
  refine ML 0 ?_
  refine ML 0 ?_
  refine MC (v := .agg (c4 N2)) (fun W hS => δ W (Q8 hG hS.ext).1) ?_
  refine MN (z := c4 0) (t := 155) ?_
  intro D3
  refine MR 0 ?_ 
  refine MZ fun W hS => ?_
  have α : R = dX Y := by unfold dX dU dV; rw [HR.out, ρ.out, ξ.out, ζ.out, μ.out]
  have γ : B = dB Y := by unfold dB dU dV; rw [HB.out, ρ.out, ξ.out, ζ.out, μ.out]
  have τ := Lib.hid α
  have σ := Lib.hid γ
  clear α γ
  by_cases hb : B = true
  ·
   have G := Lib.hid hb
   clear hb
   go_upto_region 7 with fail
   refine RXn 12 [⟨12, 7, c4 0, 155⟩] hS ?_ (by simp only [List.forall_mem_cons]; exact ⟨⟨_, rfl, rfl, rfl, fun _ _ => by kernel_rfl⟩, fun _ h => by cases h⟩)
   clear hS
   refine ML 0 ?_
   refine MC (v := .agg (c4 1)) (fun W hS => J31 W) ?_
   refine MC (v := .agg (c4 N3)) (fun W hS => S W (Q8 hG hS.ext).1) ?_
   refine MF (v := .agg (c4 DD)) (fun W hS => J1v rfl rfl ((Q8 hG hS.ext).2.2.1 hc) (by kernel_rfl) (by kernel_rfl)) ?_
   refine ML 0 ?_
   refine MC (v := .agg (c4 N4)) (fun W hS => N W (Q8 hG hS.ext).1) ?_
   refine MC (v := .agg (c4 1)) (fun W hS => J31 W) ?_
   refine MC (v := .agg (c4 N5)) (fun W hS => T W (Q8 hG hS.ext).1) ?_
   rw [G.out] at J
   refine MC (v := .tuple #[.agg (c4 R), .bool true]) (fun W hS => J W (Q8 hG hS.ext).1 ((Q8 hG hS.ext).2.1 hc)) ?_
   refine MV ?_
   refine MV ?_
   refine MW ?_ (v := .bool true)
   refine MZB fun D6 => ?_
   refine MR 0 ?_ 
   refine MW ?_ (v := .bool true)
   refine MZn fun W hS => ?_
   go_upto_region 8 with fail
   refine RL hS ?_
   clear hS
   refine MW ?_ (v := .bool true)
   refine MW ?_ (v := .bool false)
   refine MW ?_ (v := .bool false)
   refine MW ?_ (v := .bool false)
   refine MW ?_ (v := .bool false)
   refine MS ?_
   refine MS ?_
   refine MS ?_
   refine MW ?_ (v := .bool false)
   refine MW ?_ (v := .bool false)
   refine MZ fun W hS => ?_
   exact absurd (J9c (D.out ▸ lY) (by rw [← D.out, ← σ.out]; exact G.out) (fun h => ht h.1)) (by rw [hok]; decide)
  rw [Bool.not_eq_true] at hb
  have G := Lib.hid hb
  clear hb
  go_upto_region 7 with fail
  refine RXn 12 [⟨12, 7, c4 0, 155⟩] hS ?_ (by simp only [List.forall_mem_cons]; exact ⟨⟨_, rfl, rfl, rfl, fun _ _ => by kernel_rfl⟩, fun _ h => by cases h⟩)
  clear hS
  refine ML 0 ?_
  refine MC (v := .agg (c4 1)) (fun W hS => J31 W) ?_
  refine MC (v := .agg (c4 N3)) (fun W hS => S W (Q8 hG hS.ext).1) ?_
  refine MF (v := .agg (c4 DD)) (fun W hS => J1v rfl rfl ((Q8 hG hS.ext).2.2.1 hc) (by kernel_rfl) (by kernel_rfl)) ?_
  refine ML 0 ?_
  refine MC (v := .agg (c4 N4)) (fun W hS => N W (Q8 hG hS.ext).1) ?_
  refine MC (v := .agg (c4 1)) (fun W hS => J31 W) ?_
  refine MC (v := .agg (c4 N5)) (fun W hS => T W (Q8 hG hS.ext).1) ?_
  rw [G.out] at J
  refine MC (v := .tuple #[.agg (c4 R), .bool false]) (fun W hS => J W (Q8 hG hS.ext).1 ((Q8 hG hS.ext).2.1 hc)) ?_
  refine MV ?_
  refine MV ?_
  refine MW ?_ (v := .bool false)
  refine MZB fun D2 => ?_
  refine MR 0 ?_ 
  refine MW ?_ (v := .bool false)
  refine MZn fun W hS => ?_
  go_upto_region 8 with fail
  refine RL hS ?_
  clear hS
  refine MW ?_ (v := .bool false)
  refine MW ?_ (v := .bool true)
  refine MW ?_ (v := .bool true)
  refine MS ?_
  refine MS ?_
  refine MS ?_
  refine MS ?_
  refine MS ?_
  refine MS ?_
  refine MW ?_ (v := .bool true)
  refine MZ fun W hS => ?_
  go_upto_region 9 with fail
  refine RL hS ?_
  clear hS
  refine MW ?_ (v := .agg (p4 0 0 0 0)) (hv := by intro W; kernel_rfl)
  refine MR 3 ?_ 
  refine MW ?_ (v := .int .i64 15)
  refine MZ fun W hS => ?_
  go_wp2
  exact bodyPost_ret (J01 rfl rfl rfl (hS.blk (i := 3) rfl) (by kernel_rfl) (by kernel_rfl)) rfl ⟨rfl, hS.ext⟩
 have D := Lib.hid hy
 clear hy
 go_upto_region 4 with fail
 refine RS hS ?_
 clear hS
 refine ML 0 ?_
 refine MC (v := .agg (J0 .u8 32 (Q3 Y))) (fun W hS => Z W (Q8 hG hS.ext).1) ?_
 refine ML 2 ?_
 rw [decide_eq_false D.out] at M
 refine MW ?_ (v := .bool true) (hv := fun _ => J3f ((M) _) (by kernel_rfl) rfl rfl rfl)
 refine MZx fun W hS => ?_
 go_upto_region 5 with fail
 refine RL hS ?_
 clear hS
 refine MW ?_ (v := .agg (p4 0 0 0 0)) (hv := by intro W; kernel_rfl)
 refine MR 1 ?_ 
 refine MW ?_ (v := .int .i64 15)
 refine MZ fun W hS => ?_
 go_wp2
 exact bodyPost_ret (J01 rfl rfl rfl (hS.blk (i := 1) rfl) (by kernel_rfl) (by kernel_rfl)) rfl ⟨rfl, hS.ext⟩
end

section
set_option maxHeartbeats 1500000
attribute [local irreducible] wpList U0 wpX
variable {kn : Kn}

theorem Y6q (hc : kn.c) {V : Nat} (hV : V < 2 ^ 256) (hok : dOk V = true) :
  ∃ X T, RN X (V % 2 ^ 255) 1 T (dPt V) ∧ ∀ w, GE kn w → Calls Tryz.prog 106 #[.agg (J0 .u8 32 (Q3 V))] w fun e w' => K7 (.tuple #[.agg (p4 X (V % 2 ^ 255) 1 T), .int .i64 0]) w w' e := by
 have ρ := Y4o (Q3 V) (J2y V)
 rw [J44, show 8 * 32 = 256 by decide, Nat.mod_eq_of_lt hV] at ρ
 obtain ⟨Y, hY⟩ := V3 (V % 2 ^ 255 % PP)
 rw [← hY] at ρ
 have lY := bpp hY
 have HY := Lib.hid hY
 clear hY
 have Ω := Q2g Y (Z0 lY)
 rw [Nat.mod_eq_of_lt lY] at Ω
 have φ := Z0p Y (V % 2 ^ 255) (Q13 lY) (J9d V)
 have η := J06 Y Y (Z0 lY) (Z0 lY)
 obtain ⟨N2, ω⟩ := V3 (Y * Y % PP)
 rw [← ω] at η
 have D7 := bpp ω
 have D5 := Z0 D7
 have ν := Lib.hid ω
 clear ω
 have κ := J7a N2 1 D5 (by decide)
 obtain ⟨N3, μ⟩ := V3 ((N2 + (PP - 1 % PP)) % PP)
 rw [← μ] at κ
 have D9 := bpp μ
 have G5 := Z0 D9
 have ψ := Lib.hid μ
 clear μ
 have ε := J06 DD N2 Q7a D5
 obtain ⟨N4, Γ⟩ := V3 (DD * N2 % PP)
 rw [← Γ] at ε
 have G6 := bpp Γ
 have D8 := Z0 G6
 have σ := Lib.hid Γ
 clear Γ
 have θ := J4d N4 1 D8 (by decide)
 obtain ⟨N5, χ⟩ := V3 ((N4 + 1) % PP)
 rw [← χ] at θ
 have G1 := bpp χ
 have G4 := Z0 G1
 have Δ := Lib.hid χ
 clear χ
 have M := Z0y N3 N5 G5 G4
 obtain ⟨R, hR⟩ := V3 (rtR N3 N5)
 rw [← hR] at M
 have lR : R < PP := by rw [hR]; exact J9f _ _
 have HR := Lib.hid hR
 clear hR
 obtain ⟨B, hB⟩ := V3 (rtB N3 N5)
 rw [← hB] at M
 have HB := Lib.hid hB
 clear hB
 have D3 := J7w R 0 (Z0 lR) (by decide)
 rw [Nat.mod_eq_of_lt lR, Nat.mod_eq_of_lt (by decide)] at D3
 have δ := Q8x R (Z0 lR)
 rw [Nat.mod_eq_of_lt lR] at δ
 have α := Z6l hok
 have D1 : V % 2 ^ 255 = Y := by rw [HY.out]; exact (Nat.mod_eq_of_lt (Q41 hok)).symm
 unfold dPt at α
 rw [D1] at α
 have D4 := Lib.hid D1
 clear D1
 obtain ⟨X0, Ξ⟩ := V3 (dXf Y (top V))
 have G0 : X0 < PP := by rw [Ξ]; exact Z6j _ _
 rw [← Ξ] at α
 have β := Lib.hid Ξ
 clear Ξ
 obtain ⟨T, rT, Θ⟩ := Y4p (kn := kn) G0 lY α
 have D0 := J8k R (Z0 lR)
 obtain ⟨N8, τ⟩ := V3 ((PP - R % PP) % PP)
 rw [← τ] at D0
 have G2 := bpp τ
 have J8 := Z0 G2
 have G7 := Lib.hid τ
 clear τ
 have γ := Q8x R (Z0 lR)
 rw [Nat.mod_eq_of_lt lR] at γ
 have Ψ := J8k R (Z0 lR)
 obtain ⟨N7, ξ⟩ := V3 ((PP - R % PP) % PP)
 rw [← ξ] at Ψ
 have G8 := bpp ξ
 have J9 := Z0 G8
 have G3 := Lib.hid ξ
 clear ξ
 refine ⟨X0, T, by unfold dPt; rw [D4.out, ← β.out]; exact rT, ?_⟩
 rw [D4.out]
 clear α
 intro w hG
 have hS := SH.nil [] w
 go_enter Tryz.func106, Tryz.ntmps106
 go_upto_region 0 with fail
 refine RL hS ?_
 clear hS
 refine MN (z := J0 .u8 32 (Q3 V)) (t := 23) ?_
 intro N
 refine MN (z := p4 0 0 0 0) (t := 157) ?_
 intro J7
 refine MW ?_ (v := .int .i64 0)
 refine MZ fun W hS => ?_
 by_cases ht : top V = true
 ·
  go_upto_region 1 with fail
  refine RL hS ?_
  clear hS
  refine MW ?_ (v := .pointer (some ⟨N, 0 + 31, none⟩)) (hv := fun _ => J5 (m := 32) (by decide) (by decide) Tryz.underlying23 (by kernel_rfl) rfl rfl rfl)
  refine MG 1 ?_ (j := 0 + 31) (v := .int .u8 ((Q3 V) 31)) (hj := by rw [Nat.zero_add]; exact J3 _ _ _ _ (by decide))
  refine MW ?_ (v := .int .u8 128) (hv := by intro W; exact J2r (Z13 hV ht) rfl rfl rfl)
  refine MW ?_ (v := .bool true)
  refine MW ?_ (v := .bool true)
  refine MZ fun W hS => ?_
  go_upto_region 2 with fail
  refine RL hS ?_
  clear hS
  refine ML 1 ?_
  refine MC (v := .agg (c4 Y)) (fun W hS => ρ W (Q8 hG hS.ext).1) ?_
  refine MN (z := c4 0) (t := 155) ?_
  intro J4
  refine MR 0 ?_ 
  refine MZ fun W hS => ?_
  go_upto_region 3 with fail
  refine RL hS ?_
  clear hS
  refine MW ?_ (v := .pointer (some ⟨N, 0 + 31, none⟩)) (hv := fun _ => J5 (m := 32) (by decide) (by decide) Tryz.underlying23 (by kernel_rfl) rfl rfl rfl)
  refine MG 2 ?_ (j := 0 + 31) (v := .int .u8 ((Q3 V) 31)) (hj := by rw [Nat.zero_add]; exact J3 _ _ _ _ (by decide))
  refine MW ?_ (v := .int .u8 (bits .andNot .u8 (Q3 V 31) 128)) (hv := by intro W; exact J7x rfl rfl rfl rfl)
  refine MW ?_ (v := .pointer (some ⟨N, 0 + 31, none⟩)) (hv := fun _ => J5 (m := 32) (by decide) (by decide) Tryz.underlying23 (by kernel_rfl) rfl rfl rfl)
  refine MP 2 (v := .int .u8 (bits .andNot .u8 (Q3 V 31) 128)) (cs' := J0 .u8 32 (upd (Q3 V) 31 (bits .andNot .u8 (Q3 V 31) 128))) ?_ (hs := by rw [J1, Nat.zero_add]; decide) (hc := by rw [Nat.zero_add]; exact V4 _ _ _ _ _)
  refine MT (fun W hS => by rw [Q7b (Q15 hV)] at hS; exact hS) ?_
  refine MZ fun W hS => ?_
  by_cases hy : Y = V % 2 ^ 255
  ·
   have J := Lib.hid hy
   clear hy
   go_upto_region 4 with fail
   refine RS hS ?_
   clear hS
   refine ML 0 ?_
   refine MC (v := .agg (J0 .u8 32 (Q3 Y))) (fun W hS => Ω W (Q8 hG hS.ext).1) ?_
   refine ML 2 ?_
   rw [decide_eq_true J.out] at φ
   refine MW ?_ (v := .bool false) (hv := fun _ => J3f ((φ) _) (by kernel_rfl) rfl rfl rfl)
   refine MZx fun W hS => ?_
   go_upto_region 6 with fail
   refine RL hS ?_
   clear hS
   refine ML 0 ?_
   refine ML 0 ?_
   refine MC (v := .agg (c4 N2)) (fun W hS => η W (Q8 hG hS.ext).1) ?_
   refine MN (z := c4 0) (t := 155) ?_
   intro J2
   refine MR 0 ?_ 
   refine MZ fun W hS => ?_
   have U : R = dX Y := by unfold dX dU dV; rw [HR.out, ψ.out, Δ.out, σ.out, ν.out]
   have Z : B = dB Y := by unfold dB dU dV; rw [HB.out, ψ.out, Δ.out, σ.out, ν.out]
   have S := Lib.hid U
   have D2 := Lib.hid Z
   clear U Z
   by_cases hb : B = true
   ·
    have ζ := Lib.hid hb
    clear hb
    go_upto_region 7 with fail
    refine RXn 12 [⟨12, 7, c4 0, 155⟩] hS ?_ (by simp only [List.forall_mem_cons]; exact ⟨⟨_, rfl, rfl, rfl, fun _ _ => by kernel_rfl⟩, fun _ h => by cases h⟩)
    clear hS
    refine ML 0 ?_
    refine MC (v := .agg (c4 1)) (fun W hS => J31 W) ?_
    refine MC (v := .agg (c4 N3)) (fun W hS => κ W (Q8 hG hS.ext).1) ?_
    refine MF (v := .agg (c4 DD)) (fun W hS => J1v rfl rfl ((Q8 hG hS.ext).2.2.1 hc) (by kernel_rfl) (by kernel_rfl)) ?_
    refine ML 0 ?_
    refine MC (v := .agg (c4 N4)) (fun W hS => ε W (Q8 hG hS.ext).1) ?_
    refine MC (v := .agg (c4 1)) (fun W hS => J31 W) ?_
    refine MC (v := .agg (c4 N5)) (fun W hS => θ W (Q8 hG hS.ext).1) ?_
    rw [ζ.out] at M
    refine MC (v := .tuple #[.agg (c4 R), .bool true]) (fun W hS => M W (Q8 hG hS.ext).1 ((Q8 hG hS.ext).2.1 hc)) ?_
    refine MV ?_
    refine MV ?_
    refine MW ?_ (v := .bool true)
    refine MZB fun M0 => ?_
    refine MR 0 ?_ 
    refine MW ?_ (v := .bool true)
    refine MZn fun W hS => ?_
    by_cases h0 : R = 0
    ·
     exact absurd (by rw [← J.out, ← S.out]; exact h0) (Y4r hok ht)
    have D6 := Lib.hid h0
    clear h0
    go_upto_region 8 with fail
    refine RL hS ?_
    clear hS
    refine MW ?_ (v := .bool true)
    refine MW ?_ (v := .bool false)
    refine MW ?_ (v := .bool false)
    refine MW ?_ (v := .bool true)
    refine MW ?_ (v := .bool true)
    refine ML 0 ?_
    refine MW ?_ (v := .agg (c4 0)) (hv := by intro W; kernel_rfl)
    rw [decide_eq_false D6.out] at D3
    refine MC (v := .bool false) (fun W hS => D3 W (Q8 hG hS.ext).1) ?_
    refine MW ?_ (v := .bool false)
    refine MW ?_ (v := .bool false)
    refine MZ fun W hS => ?_
    by_cases ho : R % 2 = 1
    ·
     have D := Lib.hid ho
     clear ho
     go_upto_region 10 with fail
     refine RL hS ?_
     clear hS
     refine ML 0 ?_
     rw [decide_eq_true D.out] at δ
     refine MC (v := .bool true) (fun W hS => δ W (Q8 hG hS.ext).1) ?_
     refine MW ?_ (v := .bool true)
     refine MW ?_ (v := .bool false) (hv := by intro W; first | rfl | (go_simp; done))
     refine MZ fun W hS => ?_
     have G : R = X0 := β.out.trans (by unfold dXf Q0n; rw [← S.out, Nat.mod_eq_of_lt lR, decide_eq_true D.out, ht]; exact if_pos rfl) |>.symm
     rw [G] at hS
     clear G
     go_upto_region 12 with fail
     refine RL hS ?_
     clear hS
     refine ML 0 ?_
     refine ML 2 ?_
     refine MC (v := .agg (p4 X0 Y 1 T)) (fun W hS => Θ W (Q8 hG hS.ext)) ?_
     refine MR 3 ?_ 
     refine MW ?_ (v := .int .i64 0)
     refine MZ fun W hS => ?_
     go_wp2
     exact bodyPost_ret (J01 rfl rfl rfl (hS.blk (i := 3) rfl) (by kernel_rfl) (by kernel_rfl)) rfl ⟨rfl, hS.ext⟩
    have D := Lib.hid ho
    clear ho
    go_upto_region 10 with fail
    refine RL hS ?_
    clear hS
    refine ML 0 ?_
    rw [decide_eq_false D.out] at δ
    refine MC (v := .bool false) (fun W hS => δ W (Q8 hG hS.ext).1) ?_
    refine MW ?_ (v := .bool true)
    refine MW ?_ (v := .bool true) (hv := by intro W; first | rfl | (go_simp; done))
    refine MZ fun W hS => ?_
    go_upto_region 11 with fail
    refine RL hS ?_
    clear hS
    refine ML 0 ?_
    refine MC (v := .agg (c4 N8)) (fun W hS => D0 W (Q8 hG hS.ext).1) ?_
    refine MR 0 ?_ 
    refine MZ fun W hS => ?_
    have G : N8 = X0 := β.out.trans (by unfold dXf Q0n; rw [← S.out, Nat.mod_eq_of_lt lR, decide_eq_false D.out, ht, G7.out, Nat.mod_eq_of_lt lR]; exact if_neg (by decide)) |>.symm
    rw [G] at hS
    clear G
    go_upto_region 12 with fail
    refine RL hS ?_
    clear hS
    refine ML 0 ?_
    refine ML 2 ?_
    refine MC (v := .agg (p4 X0 Y 1 T)) (fun W hS => Θ W (Q8 hG hS.ext)) ?_
    refine MR 3 ?_ 
    refine MW ?_ (v := .int .i64 0)
    refine MZ fun W hS => ?_
    go_wp2
    exact bodyPost_ret (J01 rfl rfl rfl (hS.blk (i := 3) rfl) (by kernel_rfl) (by kernel_rfl)) rfl ⟨rfl, hS.ext⟩
   exact absurd (by rw [D2.out, J.out]; exact Z12 hok) hb
  exact absurd (HY.out.trans (Nat.mod_eq_of_lt (Q41 hok))) hy
 go_upto_region 1 with fail
 refine RL hS ?_
 clear hS
 refine MW ?_ (v := .pointer (some ⟨N, 0 + 31, none⟩)) (hv := fun _ => J5 (m := 32) (by decide) (by decide) Tryz.underlying23 (by kernel_rfl) rfl rfl rfl)
 refine MG 1 ?_ (j := 0 + 31) (v := .int .u8 ((Q3 V) 31)) (hj := by rw [Nat.zero_add]; exact J3 _ _ _ _ (by decide))
 refine MW ?_ (v := .int .u8 0) (hv := by intro W; exact J2r (Z14 hV ht) rfl rfl rfl)
 refine MW ?_ (v := .bool false)
 refine MW ?_ (v := .bool false)
 refine MZ fun W hS => ?_
 go_upto_region 2 with fail
 refine RL hS ?_
 clear hS
 refine ML 1 ?_
 refine MC (v := .agg (c4 Y)) (fun W hS => ρ W (Q8 hG hS.ext).1) ?_
 refine MN (z := c4 0) (t := 155) ?_
 intro G9
 refine MR 0 ?_ 
 refine MZ fun W hS => ?_
 go_upto_region 3 with fail
 refine RL hS ?_
 clear hS
 refine MW ?_ (v := .pointer (some ⟨N, 0 + 31, none⟩)) (hv := fun _ => J5 (m := 32) (by decide) (by decide) Tryz.underlying23 (by kernel_rfl) rfl rfl rfl)
 refine MG 2 ?_ (j := 0 + 31) (v := .int .u8 ((Q3 V) 31)) (hj := by rw [Nat.zero_add]; exact J3 _ _ _ _ (by decide))
 refine MW ?_ (v := .int .u8 (bits .andNot .u8 (Q3 V 31) 128)) (hv := by intro W; exact J7x rfl rfl rfl rfl)
 refine MW ?_ (v := .pointer (some ⟨N, 0 + 31, none⟩)) (hv := fun _ => J5 (m := 32) (by decide) (by decide) Tryz.underlying23 (by kernel_rfl) rfl rfl rfl)
 refine MP 2 (v := .int .u8 (bits .andNot .u8 (Q3 V 31) 128)) (cs' := J0 .u8 32 (upd (Q3 V) 31 (bits .andNot .u8 (Q3 V 31) 128))) ?_ (hs := by rw [J1, Nat.zero_add]; decide) (hc := by rw [Nat.zero_add]; exact V4 _ _ _ _ _)
 refine MT (fun W hS => by rw [Q7b (Q15 hV)] at hS; exact hS) ?_
 refine MZ fun W hS => ?_
 by_cases hy : Y = V % 2 ^ 255
 ·
  have J := Lib.hid hy
  clear hy
  go_upto_region 4 with fail
  refine RS hS ?_
  clear hS
  refine ML 0 ?_
  refine MC (v := .agg (J0 .u8 32 (Q3 Y))) (fun W hS => Ω W (Q8 hG hS.ext).1) ?_
  refine ML 2 ?_
  rw [decide_eq_true J.out] at φ
  refine MW ?_ (v := .bool false) (hv := fun _ => J3f ((φ) _) (by kernel_rfl) rfl rfl rfl)
  refine MZx fun W hS => ?_
  go_upto_region 6 with fail
  refine RL hS ?_
  clear hS
  refine ML 0 ?_
  refine ML 0 ?_
  refine MC (v := .agg (c4 N2)) (fun W hS => η W (Q8 hG hS.ext).1) ?_
  refine MN (z := c4 0) (t := 155) ?_
  intro J6
  refine MR 0 ?_ 
  refine MZ fun W hS => ?_
  have U : R = dX Y := by unfold dX dU dV; rw [HR.out, ψ.out, Δ.out, σ.out, ν.out]
  have Z : B = dB Y := by unfold dB dU dV; rw [HB.out, ψ.out, Δ.out, σ.out, ν.out]
  have S := Lib.hid U
  have D2 := Lib.hid Z
  clear U Z
  by_cases hb : B = true
  ·
   have ζ := Lib.hid hb
   clear hb
   go_upto_region 7 with fail
   refine RXn 12 [⟨12, 7, c4 0, 155⟩] hS ?_ (by simp only [List.forall_mem_cons]; exact ⟨⟨_, rfl, rfl, rfl, fun _ _ => by kernel_rfl⟩, fun _ h => by cases h⟩)
   clear hS
   refine ML 0 ?_
   refine MC (v := .agg (c4 1)) (fun W hS => J31 W) ?_
   refine MC (v := .agg (c4 N3)) (fun W hS => κ W (Q8 hG hS.ext).1) ?_
   refine MF (v := .agg (c4 DD)) (fun W hS => J1v rfl rfl ((Q8 hG hS.ext).2.2.1 hc) (by kernel_rfl) (by kernel_rfl)) ?_
   refine ML 0 ?_
   refine MC (v := .agg (c4 N4)) (fun W hS => ε W (Q8 hG hS.ext).1) ?_
   refine MC (v := .agg (c4 1)) (fun W hS => J31 W) ?_
   refine MC (v := .agg (c4 N5)) (fun W hS => θ W (Q8 hG hS.ext).1) ?_
   rw [ζ.out] at M
   refine MC (v := .tuple #[.agg (c4 R), .bool true]) (fun W hS => M W (Q8 hG hS.ext).1 ((Q8 hG hS.ext).2.1 hc)) ?_
   refine MV ?_
   refine MV ?_
   refine MW ?_ (v := .bool true)
   refine MZB fun M1 => ?_
   refine MR 0 ?_ 
   refine MW ?_ (v := .bool true)
   refine MZn fun W hS => ?_
   go_upto_region 8 with fail
   refine RL hS ?_
   clear hS
   refine MW ?_ (v := .bool true)
   refine MW ?_ (v := .bool false)
   refine MW ?_ (v := .bool false)
   refine MW ?_ (v := .bool false)
   refine MW ?_ (v := .bool false)
   refine MS ?_
   refine MS ?_
   refine MS ?_
   refine MW ?_ (v := .bool false)
   refine MW ?_ (v := .bool false)
   refine MZ fun W hS => ?_
   by_cases ho : R % 2 = 1
   ·
    have D := Lib.hid ho
    clear ho
    go_upto_region 10 with fail
    refine RL hS ?_
    clear hS
    refine ML 0 ?_
    rw [decide_eq_true D.out] at γ
    refine MC (v := .bool true) (fun W hS => γ W (Q8 hG hS.ext).1) ?_
    refine MW ?_ (v := .bool false)
    refine MW ?_ (v := .bool true) (hv := by intro W; first | rfl | (go_simp; done))
    refine MZ fun W hS => ?_
    go_upto_region 11 with fail
    refine RL hS ?_
    clear hS
    refine ML 0 ?_
    refine MC (v := .agg (c4 N7)) (fun W hS => Ψ W (Q8 hG hS.ext).1) ?_
    refine MR 0 ?_ 
    refine MZ fun W hS => ?_
    have G : N7 = X0 := β.out.trans (by unfold dXf Q0n; rw [← S.out, Nat.mod_eq_of_lt lR, decide_eq_true D.out, Bool.eq_false_iff.2 ht, G3.out, Nat.mod_eq_of_lt lR]; exact if_neg (by decide)) |>.symm
    rw [G] at hS
    clear G
    go_upto_region 12 with fail
    refine RL hS ?_
    clear hS
    refine ML 0 ?_
    refine ML 2 ?_
    refine MC (v := .agg (p4 X0 Y 1 T)) (fun W hS => Θ W (Q8 hG hS.ext)) ?_
    refine MR 3 ?_ 
    refine MW ?_ (v := .int .i64 0)
    refine MZ fun W hS => ?_
    go_wp2
    exact bodyPost_ret (J01 rfl rfl rfl (hS.blk (i := 3) rfl) (by kernel_rfl) (by kernel_rfl)) rfl ⟨rfl, hS.ext⟩
   have D := Lib.hid ho
   clear ho
   go_upto_region 10 with fail
   refine RL hS ?_
   clear hS
   refine ML 0 ?_
   rw [decide_eq_false D.out] at γ
   refine MC (v := .bool false) (fun W hS => γ W (Q8 hG hS.ext).1) ?_
   refine MW ?_ (v := .bool false)
   refine MW ?_ (v := .bool false) (hv := by intro W; first | rfl | (go_simp; done))
   refine MZ fun W hS => ?_
   have G : R = X0 := β.out.trans (by unfold dXf Q0n; rw [← S.out, Nat.mod_eq_of_lt lR, decide_eq_false D.out, Bool.eq_false_iff.2 ht]; exact if_pos rfl) |>.symm
   rw [G] at hS
   clear G
   go_upto_region 12 with fail
   refine RL hS ?_
   clear hS
   refine ML 0 ?_
   refine ML 2 ?_
   refine MC (v := .agg (p4 X0 Y 1 T)) (fun W hS => Θ W (Q8 hG hS.ext)) ?_
   refine MR 3 ?_ 
   refine MW ?_ (v := .int .i64 0)
   refine MZ fun W hS => ?_
   go_wp2
   exact bodyPost_ret (J01 rfl rfl rfl (hS.blk (i := 3) rfl) (by kernel_rfl) (by kernel_rfl)) rfl ⟨rfl, hS.ext⟩
  exact absurd (by rw [D2.out, J.out]; exact Z12 hok) hb
 exact absurd (HY.out.trans (Nat.mod_eq_of_lt (Q41 hok))) hy
end
end Go.Proofs.YtejkmhgkkibafaaGreatDoor.S8
