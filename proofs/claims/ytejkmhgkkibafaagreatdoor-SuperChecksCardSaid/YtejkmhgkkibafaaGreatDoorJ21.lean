/- Contracts and plain laws that superChecks_holds rests on. Conditions: the variables' cells hold the numbers of the program's text. -/
import Derived.Test.YtejkmhgkkibafaaGreatDoorJ6
import Derived.Test.YtejkmhgkkibafaaGreatDoorJ3
import Derived.Test.YtejkmhgkkibafaaGreatDoorJ8
import Derived.Test.YtejkmhgkkibafaaGreatDoorJ19
open Go.RowKit
set_option maxRecDepth 100000
set_option linter.unusedSimpArgs false
set_option linter.unusedVariables false
namespace Go.Proofs.YtejkmhgkkibafaaGreatDoor.S8
section
set_option maxHeartbeats 1500000
attribute [local irreducible] wpList J01 wpX
variable {kn : Kn}
theorem Q4c {V : Nat} (h : dOk V = true) : V % 2 ^ 255 < PP := by
 unfold dOk at h; simp only [Bool.and_eq_true, decide_eq_true_eq] at h; exact h.1.1
theorem Z1f {V : Nat} (h : dOk V = true) : dB (V % 2 ^ 255) = true := by
 unfold dOk at h; simp only [Bool.and_eq_true] at h; exact h.1.2
theorem Y5b {V : Nat} (h : dOk V = true) (ht : top V = true) : ¬ dX (V % 2 ^ 255) = 0 := by
 unfold dOk at h; intro h0
 simp [ht, h0] at h
theorem J9n {V : Nat} (h1 : V % 2 ^ 255 < PP) (h2 : dB (V % 2 ^ 255) = true) (h3 : ¬ (top V = true ∧ dX (V % 2 ^ 255) = 0)) : dOk V = true := by
 unfold dOk
 rw [decide_eq_true h1, h2]
 cases ht : top V
 ·
  rfl
 have : ¬ dX (V % 2 ^ 255) = 0 := fun h0 => h3 ⟨ht, h0⟩
 simp [this]
theorem J9o (V : Nat) : V % 2 ^ 255 < 2 ^ 256 := Nat.lt_trans (Nat.mod_lt _ (by decide)) (by decide)

theorem Z6z (y : Nat) (o : Bool) : dXf y o < PP := by
 unfold dXf
 split
 ·
  exact Q9c y
 exact J23 _
theorem Y7a (hc : kn.c) {V : Nat} (hV : V < 2 ^ 256) (hok : dOk V = false) :
  ∀ w, GE kn w → Calls Tryz.prog 106 #[.agg (J0 .u8 32 (Q3 V))] w fun e w' => K6 (.tuple #[.agg (p4 0 0 0 0), .int .i64 15]) w w' e := by
 have ζ := Y58 (Q3 V) (J38 V)
 rw [J4e, show 8 * 32 = 256 by decide, Nat.mod_eq_of_lt hV] at ζ
 obtain ⟨Y, hY⟩ := V0 (V % 2 ^ 255 % PP)
 rw [← hY] at ζ
 have lY := bpp hY
 have HY := Lib.hid hY
 clear hY
 have α := Q2p Y (Z5 lY)
 rw [Nat.mod_eq_of_lt lY] at α
 have M := Z10 Y (V % 2 ^ 255) (Q1d lY) (J9o V)
 have δ := K0 Y Y (Z5 lY) (Z5 lY)
 obtain ⟨N2, ρ⟩ := V0 (Y * Y % PP)
 rw [← ρ] at δ
 have Γ := bpp ρ
 have τ := Z5 Γ
 have θ := Lib.hid ρ
 clear ρ
 have T := J7i N2 1 τ (by decide)
 obtain ⟨N3, κ⟩ := V0 ((N2 + (PP - 1 % PP)) % PP)
 rw [← κ] at T
 have Θ := bpp κ
 have ω := Z5 Θ
 have ε := Lib.hid κ
 clear κ
 have N := K0 DD N2 Q7k τ
 obtain ⟨N4, μ⟩ := V0 (DD * N2 % PP)
 rw [← μ] at N
 have χ := bpp μ
 have Ξ := Z5 χ
 have ξ := Lib.hid μ
 clear μ
 have S := J4n N4 1 Ξ (by decide)
 obtain ⟨N5, η⟩ := V0 ((N4 + 1) % PP)
 rw [← η] at S
 have Δ := bpp η
 have ψ := Z5 Δ
 have ν := Lib.hid η
 clear η
 have J := Z1b N3 N5 ω ψ
 obtain ⟨R, hR⟩ := V0 (rtR N3 N5)
 rw [← hR] at J
 have lR : R < PP := by rw [hR]; exact J9q _ _
 have HR := Lib.hid hR
 clear hR
 obtain ⟨B, hB⟩ := V0 (rtB N3 N5)
 rw [← hB] at J
 have HB := Lib.hid hB
 clear hB
 have β := J6l R 0 (Z5 lR) (by decide)
 rw [Nat.mod_eq_of_lt lR, Nat.mod_eq_of_lt (by decide)] at β
 intro w hG
 have hS := SH.nil [] w
 go_enter Tryz.func106, Tryz.ntmps106
 go_upto_region 0 with fail
 refine RL hS ?_
 clear hS
 refine MN (z := J0 .u8 32 (Q3 V)) (t := 23) ?_
 intro U
 refine MN (z := p4 0 0 0 0) (t := 157) ?_
 intro D0
 refine MW ?_ (v := .int .i64 0)
 refine MZ fun W hS => ?_
 by_cases ht : top V = true
 ·
  go_upto_region 1 with fail
  refine RL hS ?_
  clear hS
  refine MW ?_ (v := .pointer (some ⟨U, 0 + 31, none⟩)) (hv := fun _ => J7 (m := 32) (by decide) (by decide) Tryz.underlying23 (by kernel_rfl) rfl rfl rfl)
  refine MG 1 ?_ (j := 0 + 31) (v := .int .u8 ((Q3 V) 31)) (hj := by rw [Nat.zero_add]; exact J4 _ _ _ _ (by decide))
  refine MW ?_ (v := .int .u8 128) (hv := by intro W; exact J30 (Z1g hV ht) rfl rfl rfl)
  refine MW ?_ (v := .bool true)
  refine MW ?_ (v := .bool true)
  refine MZ fun W hS => ?_
  go_upto_region 2 with fail
  refine RL hS ?_
  clear hS
  refine ML 1 ?_
  refine MC (v := .agg (c4 Y)) (fun W hS => ζ W (Q8 hG hS.ext).1) ?_
  refine MN (z := c4 0) (t := 155) ?_
  intro Ψ
  refine MR 0 ?_ 
  refine MZ fun W hS => ?_
  go_upto_region 3 with fail
  refine RL hS ?_
  clear hS
  refine MW ?_ (v := .pointer (some ⟨U, 0 + 31, none⟩)) (hv := fun _ => J7 (m := 32) (by decide) (by decide) Tryz.underlying23 (by kernel_rfl) rfl rfl rfl)
  refine MG 2 ?_ (j := 0 + 31) (v := .int .u8 ((Q3 V) 31)) (hj := by rw [Nat.zero_add]; exact J4 _ _ _ _ (by decide))
  refine MW ?_ (v := .int .u8 (bits .andNot .u8 (Q3 V 31) 128)) (hv := by intro W; exact J85 rfl rfl rfl rfl)
  refine MW ?_ (v := .pointer (some ⟨U, 0 + 31, none⟩)) (hv := fun _ => J7 (m := 32) (by decide) (by decide) Tryz.underlying23 (by kernel_rfl) rfl rfl rfl)
  refine MP 2 (v := .int .u8 (bits .andNot .u8 (Q3 V 31) 128)) (cs' := J0 .u8 32 (upd (Q3 V) 31 (bits .andNot .u8 (Q3 V 31) 128))) ?_ (hs := by rw [J2, Nat.zero_add]; decide) (hc := by rw [Nat.zero_add]; exact V6 _ _ _ _ _)
  refine MT (fun W hS => by rw [Q7l (Q1f hV)] at hS; exact hS) ?_
  refine MZ fun W hS => ?_
  by_cases hy : Y = V % 2 ^ 255
  ·
   have D := Lib.hid hy
   clear _f hy
   go_upto_region 4 with fail
   refine RS hS ?_
   clear hS
   refine ML 0 ?_
   refine MC (v := .agg (J0 .u8 32 (Q3 Y))) (fun W hS => α W (Q8 hG hS.ext).1) ?_
   refine ML 2 ?_
   rw [decide_eq_true D.out] at M
   refine MW ?_ (v := .bool false) (hv := fun _ => J3p ((M) _) (by kernel_rfl) rfl rfl rfl)
   refine MZx fun W hS => ?_
   go_upto_region 6 with fail
   refine RL hS ?_
   clear hS
   refine ML 0 ?_
   refine ML 0 ?_
   refine MC (v := .agg (c4 N2)) (fun W hS => δ W (Q8 hG hS.ext).1) ?_
   refine MN (z := c4 0) (t := 155) ?_
   intro Ω
   refine MR 0 ?_ 
   refine MZ fun W hS => ?_
   have Z : R = dX Y := by unfold dX dU dV; rw [HR.out, ε.out, ν.out, ξ.out, θ.out]
   have γ : B = dB Y := by unfold dB dU dV; rw [HB.out, ε.out, ν.out, ξ.out, θ.out]
   have φ := Lib.hid Z
   have σ := Lib.hid γ
   clear Z γ
   by_cases hb : B = true
   ·
    have G := Lib.hid hb
    clear _f hb
    go_upto_region 7 with fail
    refine RXn 12 [⟨12, 7, c4 0, 155⟩] hS ?_ (by simp only [List.forall_mem_cons]; exact ⟨⟨_, rfl, rfl, rfl, fun _ _ => by kernel_rfl⟩, fun _ h => by cases h⟩)
    clear hS
    refine ML 0 ?_
    refine MC (v := .agg (c4 1)) (fun W hS => J3c W) ?_
    refine MC (v := .agg (c4 N3)) (fun W hS => T W (Q8 hG hS.ext).1) ?_
    refine MF (v := .agg (c4 DD)) (fun W hS => J2e rfl rfl ((Q8 hG hS.ext).2.2.1 hc) (by kernel_rfl) (by kernel_rfl)) ?_
    refine ML 0 ?_
    refine MC (v := .agg (c4 N4)) (fun W hS => N W (Q8 hG hS.ext).1) ?_
    refine MC (v := .agg (c4 1)) (fun W hS => J3c W) ?_
    refine MC (v := .agg (c4 N5)) (fun W hS => S W (Q8 hG hS.ext).1) ?_
    rw [G.out] at J
    refine MC (v := .tuple #[.agg (c4 R), .bool true]) (fun W hS => J W (Q8 hG hS.ext).1 ((Q8 hG hS.ext).2.1 hc)) ?_
    refine MV ?_
    refine MV ?_
    refine MW ?_ (v := .bool true)
    refine MZB fun D5 => ?_
    refine MR 0 ?_ 
    refine MW ?_ (v := .bool true)
    refine MZn fun W hS => ?_
    by_cases h0 : R = 0
    ·
     have X := Lib.hid h0
     clear _f h0
     go_upto_region 8 with fail
     refine RL hS ?_
     clear hS
     refine MW ?_ (v := .bool true)
     refine MW ?_ (v := .bool false)
     refine MW ?_ (v := .bool false)
     refine MW ?_ (v := .bool true)
     refine MW ?_ (v := .bool true)
     refine ML 0 ?_
     refine MW ?_ (v := .agg (c4 0)) (hv := by intro W; kernel_rfl)
     rw [decide_eq_true X.out] at β
     refine MC (v := .bool true) (fun W hS => β W (Q8 hG hS.ext).1) ?_
     refine MW ?_ (v := .bool true)
     refine MW ?_ (v := .bool true)
     refine MZ fun W hS => ?_
     go_upto_region 9 with fail
     refine RL hS ?_
     clear hS
     refine MW ?_ (v := .agg (p4 0 0 0 0)) (hv := by intro W; kernel_rfl)
     refine MR 3 ?_ 
     refine MW ?_ (v := .int .i64 15)
     refine MZ fun W hS => ?_
     go_wp2
     exact bodyPost_ret (J08 rfl rfl rfl (hS.blk (i := 3) rfl) (by kernel_rfl) (by kernel_rfl)) rfl ⟨rfl, hS.ext⟩
    have X := Lib.hid h0
    clear _f h0
    go_upto_region 8 with fail
    refine RL hS ?_
    clear hS
    refine MW ?_ (v := .bool true)
    refine MW ?_ (v := .bool false)
    refine MW ?_ (v := .bool false)
    refine MW ?_ (v := .bool true)
    refine MW ?_ (v := .bool true)
    refine ML 0 ?_
    refine MW ?_ (v := .agg (c4 0)) (hv := by intro W; kernel_rfl)
    rw [decide_eq_false X.out] at β
    refine MC (v := .bool false) (fun W hS => β W (Q8 hG hS.ext).1) ?_
    refine MW ?_ (v := .bool false)
    refine MW ?_ (v := .bool false)
    refine MZ fun W hS => ?_
    exact absurd (J9n (D.out ▸ lY) (by rw [← D.out, ← σ.out]; exact G.out) (fun h => X.out (by rw [φ.out, D.out]; exact h.2))) (by rw [hok]; decide)
   rw [Bool.not_eq_true] at hb _f
   have G := Lib.hid hb
   clear _f hb
   go_upto_region 7 with fail
   refine RXn 12 [⟨12, 7, c4 0, 155⟩] hS ?_ (by simp only [List.forall_mem_cons]; exact ⟨⟨_, rfl, rfl, rfl, fun _ _ => by kernel_rfl⟩, fun _ h => by cases h⟩)
   clear hS
   refine ML 0 ?_
   refine MC (v := .agg (c4 1)) (fun W hS => J3c W) ?_
   refine MC (v := .agg (c4 N3)) (fun W hS => T W (Q8 hG hS.ext).1) ?_
   refine MF (v := .agg (c4 DD)) (fun W hS => J2e rfl rfl ((Q8 hG hS.ext).2.2.1 hc) (by kernel_rfl) (by kernel_rfl)) ?_
   refine ML 0 ?_
   refine MC (v := .agg (c4 N4)) (fun W hS => N W (Q8 hG hS.ext).1) ?_
   refine MC (v := .agg (c4 1)) (fun W hS => J3c W) ?_
   refine MC (v := .agg (c4 N5)) (fun W hS => S W (Q8 hG hS.ext).1) ?_
   rw [G.out] at J
   refine MC (v := .tuple #[.agg (c4 R), .bool false]) (fun W hS => J W (Q8 hG hS.ext).1 ((Q8 hG hS.ext).2.1 hc)) ?_
   refine MV ?_
   refine MV ?_
   refine MW ?_ (v := .bool false)
   refine MZB fun D6 => ?_
   refine MR 0 ?_ 
   refine MW ?_ (v := .bool false)
   refine MZn fun W hS => ?_
   go_upto_region 8 with fail
   refine RL hS ?_
   clear hS
   refine MW ?_ (v := .bool false)
   refine MW ?_ (v := .bool true)
   refine MW ?_ (v := .bool true)
   refine MS ?_
   refine MS ?_
   refine MS ?_
   refine MS ?_
   refine MS ?_
   refine MS ?_
   refine MW ?_ (v := .bool true)
   refine MZ fun W hS => ?_
   go_upto_region 9 with fail
   refine RL hS ?_
   clear hS
   refine MW ?_ (v := .agg (p4 0 0 0 0)) (hv := by intro W; kernel_rfl)
   refine MR 3 ?_ 
   refine MW ?_ (v := .int .i64 15)
   refine MZ fun W hS => ?_
   go_wp2
   exact bodyPost_ret (J08 rfl rfl rfl (hS.blk (i := 3) rfl) (by kernel_rfl) (by kernel_rfl)) rfl ⟨rfl, hS.ext⟩
  have D := Lib.hid hy
  clear _f hy
  go_upto_region 4 with fail
  refine RS hS ?_
  clear hS
  refine ML 0 ?_
  refine MC (v := .agg (J0 .u8 32 (Q3 Y))) (fun W hS => α W (Q8 hG hS.ext).1) ?_
  refine ML 2 ?_
  rw [decide_eq_false D.out] at M
  refine MW ?_ (v := .bool true) (hv := fun _ => J3p ((M) _) (by kernel_rfl) rfl rfl rfl)
  refine MZx fun W hS => ?_
  go_upto_region 5 with fail
  refine RL hS ?_
  clear hS
  refine MW ?_ (v := .agg (p4 0 0 0 0)) (hv := by intro W; kernel_rfl)
  refine MR 1 ?_ 
  refine MW ?_ (v := .int .i64 15)
  refine MZ fun W hS => ?_
  go_wp2
  exact bodyPost_ret (J08 rfl rfl rfl (hS.blk (i := 1) rfl) (by kernel_rfl) (by kernel_rfl)) rfl ⟨rfl, hS.ext⟩
 go_upto_region 1 with fail
 refine RL hS ?_
 clear hS
 refine MW ?_ (v := .pointer (some ⟨U, 0 + 31, none⟩)) (hv := fun _ => J7 (m := 32) (by decide) (by decide) Tryz.underlying23 (by kernel_rfl) rfl rfl rfl)
 refine MG 1 ?_ (j := 0 + 31) (v := .int .u8 ((Q3 V) 31)) (hj := by rw [Nat.zero_add]; exact J4 _ _ _ _ (by decide))
 refine MW ?_ (v := .int .u8 0) (hv := by intro W; exact J30 (Z1h hV ht) rfl rfl rfl)
 refine MW ?_ (v := .bool false)
 refine MW ?_ (v := .bool false)
 refine MZ fun W hS => ?_
 go_upto_region 2 with fail
 refine RL hS ?_
 clear hS
 refine ML 1 ?_
 refine MC (v := .agg (c4 Y)) (fun W hS => ζ W (Q8 hG hS.ext).1) ?_
 refine MN (z := c4 0) (t := 155) ?_
 intro D1
 refine MR 0 ?_ 
 refine MZ fun W hS => ?_
 go_upto_region 3 with fail
 refine RL hS ?_
 clear hS
 refine MW ?_ (v := .pointer (some ⟨U, 0 + 31, none⟩)) (hv := fun _ => J7 (m := 32) (by decide) (by decide) Tryz.underlying23 (by kernel_rfl) rfl rfl rfl)
 refine MG 2 ?_ (j := 0 + 31) (v := .int .u8 ((Q3 V) 31)) (hj := by rw [Nat.zero_add]; exact J4 _ _ _ _ (by decide))
 refine MW ?_ (v := .int .u8 (bits .andNot .u8 (Q3 V 31) 128)) (hv := by intro W; exact J85 rfl rfl rfl rfl)
 refine MW ?_ (v := .pointer (some ⟨U, 0 + 31, none⟩)) (hv := fun _ => J7 (m := 32) (by decide) (by decide) Tryz.underlying23 (by kernel_rfl) rfl rfl rfl)
 refine MP 2 (v := .int .u8 (bits .andNot .u8 (Q3 V 31) 128)) (cs' := J0 .u8 32 (upd (Q3 V) 31 (bits .andNot .u8 (Q3 V 31) 128))) ?_ (hs := by rw [J2, Nat.zero_add]; decide) (hc := by rw [Nat.zero_add]; exact V6 _ _ _ _ _)
 refine MT (fun W hS => by rw [Q7l (Q1f hV)] at hS; exact hS) ?_
 refine MZ fun W hS => ?_
 by_cases hy : Y = V % 2 ^ 255
 ·
  have D := Lib.hid hy
  clear _f hy
  go_upto_region 4 with fail
  refine RS hS ?_
  clear hS
  refine ML 0 ?_
  refine MC (v := .agg (J0 .u8 32 (Q3 Y))) (fun W hS => α W (Q8 hG hS.ext).1) ?_
  refine ML 2 ?_
  rw [decide_eq_true D.out] at M
  refine MW ?_ (v := .bool false) (hv := fun _ => J3p ((M) _) (by kernel_rfl) rfl rfl rfl)
  refine MZx fun W hS => ?_
  go_upto_region 6 with fail
  refine RL hS ?_
  clear hS
  refine ML 0 ?_
  refine ML 0 ?_
  refine MC (v := .agg (c4 N2)) (fun W hS => δ W (Q8 hG hS.ext).1) ?_
  refine MN (z := c4 0) (t := 155) ?_
  intro D3
  refine MR 0 ?_ 
  refine MZ fun W hS => ?_
  have Z : R = dX Y := by unfold dX dU dV; rw [HR.out, ε.out, ν.out, ξ.out, θ.out]
  have γ : B = dB Y := by unfold dB dU dV; rw [HB.out, ε.out, ν.out, ξ.out, θ.out]
  have φ := Lib.hid Z
  have σ := Lib.hid γ
  clear Z γ
  by_cases hb : B = true
  ·
   have G := Lib.hid hb
   clear _f hb
   go_upto_region 7 with fail
   refine RXn 12 [⟨12, 7, c4 0, 155⟩] hS ?_ (by simp only [List.forall_mem_cons]; exact ⟨⟨_, rfl, rfl, rfl, fun _ _ => by kernel_rfl⟩, fun _ h => by cases h⟩)
   clear hS
   refine ML 0 ?_
   refine MC (v := .agg (c4 1)) (fun W hS => J3c W) ?_
   refine MC (v := .agg (c4 N3)) (fun W hS => T W (Q8 hG hS.ext).1) ?_
   refine MF (v := .agg (c4 DD)) (fun W hS => J2e rfl rfl ((Q8 hG hS.ext).2.2.1 hc) (by kernel_rfl) (by kernel_rfl)) ?_
   refine ML 0 ?_
   refine MC (v := .agg (c4 N4)) (fun W hS => N W (Q8 hG hS.ext).1) ?_
   refine MC (v := .agg (c4 1)) (fun W hS => J3c W) ?_
   refine MC (v := .agg (c4 N5)) (fun W hS => S W (Q8 hG hS.ext).1) ?_
   rw [G.out] at J
   refine MC (v := .tuple #[.agg (c4 R), .bool true]) (fun W hS => J W (Q8 hG hS.ext).1 ((Q8 hG hS.ext).2.1 hc)) ?_
   refine MV ?_
   refine MV ?_
   refine MW ?_ (v := .bool true)
   refine MZB fun D4 => ?_
   refine MR 0 ?_ 
   refine MW ?_ (v := .bool true)
   refine MZn fun W hS => ?_
   go_upto_region 8 with fail
   refine RL hS ?_
   clear hS
   refine MW ?_ (v := .bool true)
   refine MW ?_ (v := .bool false)
   refine MW ?_ (v := .bool false)
   refine MW ?_ (v := .bool false)
   refine MW ?_ (v := .bool false)
   refine MS ?_
   refine MS ?_
   refine MS ?_
   refine MW ?_ (v := .bool false)
   refine MW ?_ (v := .bool false)
   refine MZ fun W hS => ?_
   exact absurd (J9n (D.out ▸ lY) (by rw [← D.out, ← σ.out]; exact G.out) (fun h => ht h.1)) (by rw [hok]; decide)
  rw [Bool.not_eq_true] at hb _f
  have G := Lib.hid hb
  clear _f hb
  go_upto_region 7 with fail
  refine RXn 12 [⟨12, 7, c4 0, 155⟩] hS ?_ (by simp only [List.forall_mem_cons]; exact ⟨⟨_, rfl, rfl, rfl, fun _ _ => by kernel_rfl⟩, fun _ h => by cases h⟩)
  clear hS
  refine ML 0 ?_
  refine MC (v := .agg (c4 1)) (fun W hS => J3c W) ?_
  refine MC (v := .agg (c4 N3)) (fun W hS => T W (Q8 hG hS.ext).1) ?_
  refine MF (v := .agg (c4 DD)) (fun W hS => J2e rfl rfl ((Q8 hG hS.ext).2.2.1 hc) (by kernel_rfl) (by kernel_rfl)) ?_
  refine ML 0 ?_
  refine MC (v := .agg (c4 N4)) (fun W hS => N W (Q8 hG hS.ext).1) ?_
  refine MC (v := .agg (c4 1)) (fun W hS => J3c W) ?_
  refine MC (v := .agg (c4 N5)) (fun W hS => S W (Q8 hG hS.ext).1) ?_
  rw [G.out] at J
  refine MC (v := .tuple #[.agg (c4 R), .bool false]) (fun W hS => J W (Q8 hG hS.ext).1 ((Q8 hG hS.ext).2.1 hc)) ?_
  refine MV ?_
  refine MV ?_
  refine MW ?_ (v := .bool false)
  refine MZB fun D2 => ?_
  refine MR 0 ?_ 
  refine MW ?_ (v := .bool false)
  refine MZn fun W hS => ?_
  go_upto_region 8 with fail
  refine RL hS ?_
  clear hS
  refine MW ?_ (v := .bool false)
  refine MW ?_ (v := .bool true)
  refine MW ?_ (v := .bool true)
  refine MS ?_
  refine MS ?_
  refine MS ?_
  refine MS ?_
  refine MS ?_
  refine MS ?_
  refine MW ?_ (v := .bool true)
  refine MZ fun W hS => ?_
  go_upto_region 9 with fail
  refine RL hS ?_
  clear hS
  refine MW ?_ (v := .agg (p4 0 0 0 0)) (hv := by intro W; kernel_rfl)
  refine MR 3 ?_ 
  refine MW ?_ (v := .int .i64 15)
  refine MZ fun W hS => ?_
  go_wp2
  exact bodyPost_ret (J08 rfl rfl rfl (hS.blk (i := 3) rfl) (by kernel_rfl) (by kernel_rfl)) rfl ⟨rfl, hS.ext⟩
 have D := Lib.hid hy
 clear _f hy
 go_upto_region 4 with fail
 refine RS hS ?_
 clear hS
 refine ML 0 ?_
 refine MC (v := .agg (J0 .u8 32 (Q3 Y))) (fun W hS => α W (Q8 hG hS.ext).1) ?_
 refine ML 2 ?_
 rw [decide_eq_false D.out] at M
 refine MW ?_ (v := .bool true) (hv := fun _ => J3p ((M) _) (by kernel_rfl) rfl rfl rfl)
 refine MZx fun W hS => ?_
 go_upto_region 5 with fail
 refine RL hS ?_
 clear hS
 refine MW ?_ (v := .agg (p4 0 0 0 0)) (hv := by intro W; kernel_rfl)
 refine MR 1 ?_ 
 refine MW ?_ (v := .int .i64 15)
 refine MZ fun W hS => ?_
 go_wp2
 exact bodyPost_ret (J08 rfl rfl rfl (hS.blk (i := 1) rfl) (by kernel_rfl) (by kernel_rfl)) rfl ⟨rfl, hS.ext⟩
end

section
set_option maxHeartbeats 1500000
attribute [local irreducible] wpList J01 wpX
variable {kn : Kn}

theorem Y7c (hc : kn.c) {V : Nat} (hV : V < 2 ^ 256) (hok : dOk V = true) :
  ∃ X T, RN X (V % 2 ^ 255) 1 T (dPt V) ∧ ∀ w, GE kn w → Calls Tryz.prog 106 #[.agg (J0 .u8 32 (Q3 V))] w fun e w' => K6 (.tuple #[.agg (p4 X (V % 2 ^ 255) 1 T), .int .i64 0]) w w' e := by
 have χ := Y58 (Q3 V) (J38 V)
 rw [J4e, show 8 * 32 = 256 by decide, Nat.mod_eq_of_lt hV] at χ
 obtain ⟨Y, hY⟩ := V0 (V % 2 ^ 255 % PP)
 rw [← hY] at χ
 have lY := bpp hY
 have HY := Lib.hid hY
 clear hY
 have D1 := Q2p Y (Z5 lY)
 rw [Nat.mod_eq_of_lt lY] at D1
 have σ := Z10 Y (V % 2 ^ 255) (Q1d lY) (J9o V)
 have θ := K0 Y Y (Z5 lY) (Z5 lY)
 obtain ⟨N2, φ⟩ := V0 (Y * Y % PP)
 rw [← φ] at θ
 have G8 := bpp φ
 have D4 := Z5 G8
 have ψ := Lib.hid φ
 clear φ
 have η := J7i N2 1 D4 (by decide)
 obtain ⟨N3, μ⟩ := V0 ((N2 + (PP - 1 % PP)) % PP)
 rw [← μ] at η
 have G1 := bpp μ
 have D9 := Z5 G1
 have Δ := Lib.hid μ
 clear μ
 have ε := K0 DD N2 Q7k D4
 obtain ⟨N4, ω⟩ := V0 (DD * N2 % PP)
 rw [← ω] at ε
 have D7 := bpp ω
 have G7 := Z5 D7
 have Ξ := Lib.hid ω
 clear ω
 have κ := J4n N4 1 G7 (by decide)
 obtain ⟨N5, τ⟩ := V0 ((N4 + 1) % PP)
 rw [← τ] at κ
 have G0 := bpp τ
 have G3 := Z5 G0
 have ξ := Lib.hid τ
 clear τ
 have N := Z1b N3 N5 D9 G3
 obtain ⟨R, hR⟩ := V0 (rtR N3 N5)
 rw [← hR] at N
 have lR : R < PP := by rw [hR]; exact J9q _ _
 have HR := Lib.hid hR
 clear hR
 obtain ⟨B, hB⟩ := V0 (rtB N3 N5)
 rw [← hB] at N
 have HB := Lib.hid hB
 clear hB
 have D3 := J6l R 0 (Z5 lR) (by decide)
 rw [Nat.mod_eq_of_lt lR, Nat.mod_eq_of_lt (by decide)] at D3
 have δ := Q98 R (Z5 lR)
 rw [Nat.mod_eq_of_lt lR] at δ
 have Z := Z71 hok
 have D2 : V % 2 ^ 255 = Y := by rw [HY.out]; exact (Nat.mod_eq_of_lt (Q4c hok)).symm
 unfold dPt at Z
 rw [D2] at Z
 have D5 := Lib.hid D2
 clear D2
 obtain ⟨X0, Θ⟩ := V0 (dXf Y (top V))
 have G2 : X0 < PP := by rw [Θ]; exact Z6z _ _
 rw [← Θ] at Z
 have α := Lib.hid Θ
 clear Θ
 obtain ⟨T, rT, Γ⟩ := Y59 (kn := kn) G2 lY Z
 have Ω := J8u R (Z5 lR)
 obtain ⟨N8, ρ⟩ := V0 ((PP - R % PP) % PP)
 rw [← ρ] at Ω
 have D8 := bpp ρ
 have J1 := Z5 D8
 have G4 := Lib.hid ρ
 clear ρ
 have γ := Q98 R (Z5 lR)
 rw [Nat.mod_eq_of_lt lR] at γ
 have D0 := J8u R (Z5 lR)
 obtain ⟨N7, ν⟩ := V0 ((PP - R % PP) % PP)
 rw [← ν] at D0
 have G6 := bpp ν
 have J6 := Z5 G6
 have G5 := Lib.hid ν
 clear ν
 refine ⟨X0, T, by unfold dPt; rw [D5.out, ← α.out]; exact rT, ?_⟩
 rw [D5.out]
 clear Z
 intro w hG
 have hS := SH.nil [] w
 go_enter Tryz.func106, Tryz.ntmps106
 go_upto_region 0 with fail
 refine RL hS ?_
 clear hS
 refine MN (z := J0 .u8 32 (Q3 V)) (t := 23) ?_
 intro M
 refine MN (z := p4 0 0 0 0) (t := 157) ?_
 intro J5
 refine MW ?_ (v := .int .i64 0)
 refine MZ fun W hS => ?_
 by_cases ht : top V = true
 ·
  go_upto_region 1 with fail
  refine RL hS ?_
  clear hS
  refine MW ?_ (v := .pointer (some ⟨M, 0 + 31, none⟩)) (hv := fun _ => J7 (m := 32) (by decide) (by decide) Tryz.underlying23 (by kernel_rfl) rfl rfl rfl)
  refine MG 1 ?_ (j := 0 + 31) (v := .int .u8 ((Q3 V) 31)) (hj := by rw [Nat.zero_add]; exact J4 _ _ _ _ (by decide))
  refine MW ?_ (v := .int .u8 128) (hv := by intro W; exact J30 (Z1g hV ht) rfl rfl rfl)
  refine MW ?_ (v := .bool true)
  refine MW ?_ (v := .bool true)
  refine MZ fun W hS => ?_
  go_upto_region 2 with fail
  refine RL hS ?_
  clear hS
  refine ML 1 ?_
  refine MC (v := .agg (c4 Y)) (fun W hS => χ W (Q8 hG hS.ext).1) ?_
  refine MN (z := c4 0) (t := 155) ?_
  intro J3
  refine MR 0 ?_ 
  refine MZ fun W hS => ?_
  go_upto_region 3 with fail
  refine RL hS ?_
  clear hS
  refine MW ?_ (v := .pointer (some ⟨M, 0 + 31, none⟩)) (hv := fun _ => J7 (m := 32) (by decide) (by decide) Tryz.underlying23 (by kernel_rfl) rfl rfl rfl)
  refine MG 2 ?_ (j := 0 + 31) (v := .int .u8 ((Q3 V) 31)) (hj := by rw [Nat.zero_add]; exact J4 _ _ _ _ (by decide))
  refine MW ?_ (v := .int .u8 (bits .andNot .u8 (Q3 V 31) 128)) (hv := by intro W; exact J85 rfl rfl rfl rfl)
  refine MW ?_ (v := .pointer (some ⟨M, 0 + 31, none⟩)) (hv := fun _ => J7 (m := 32) (by decide) (by decide) Tryz.underlying23 (by kernel_rfl) rfl rfl rfl)
  refine MP 2 (v := .int .u8 (bits .andNot .u8 (Q3 V 31) 128)) (cs' := J0 .u8 32 (upd (Q3 V) 31 (bits .andNot .u8 (Q3 V 31) 128))) ?_ (hs := by rw [J2, Nat.zero_add]; decide) (hc := by rw [Nat.zero_add]; exact V6 _ _ _ _ _)
  refine MT (fun W hS => by rw [Q7l (Q1f hV)] at hS; exact hS) ?_
  refine MZ fun W hS => ?_
  by_cases hy : Y = V % 2 ^ 255
  ·
   have J := Lib.hid hy
   clear _f hy
   go_upto_region 4 with fail
   refine RS hS ?_
   clear hS
   refine ML 0 ?_
   refine MC (v := .agg (J0 .u8 32 (Q3 Y))) (fun W hS => D1 W (Q8 hG hS.ext).1) ?_
   refine ML 2 ?_
   rw [decide_eq_true J.out] at σ
   refine MW ?_ (v := .bool false) (hv := fun _ => J3p ((σ) _) (by kernel_rfl) rfl rfl rfl)
   refine MZx fun W hS => ?_
   go_upto_region 6 with fail
   refine RL hS ?_
   clear hS
   refine ML 0 ?_
   refine ML 0 ?_
   refine MC (v := .agg (c4 N2)) (fun W hS => θ W (Q8 hG hS.ext).1) ?_
   refine MN (z := c4 0) (t := 155) ?_
   intro J8
   refine MR 0 ?_ 
   refine MZ fun W hS => ?_
   have β : R = dX Y := by unfold dX dU dV; rw [HR.out, Δ.out, ξ.out, Ξ.out, ψ.out]
   have U : B = dB Y := by unfold dB dU dV; rw [HB.out, Δ.out, ξ.out, Ξ.out, ψ.out]
   have S := Lib.hid β
   have Ψ := Lib.hid U
   clear β U
   by_cases hb : B = true
   ·
    have ζ := Lib.hid hb
    clear _f hb
    go_upto_region 7 with fail
    refine RXn 12 [⟨12, 7, c4 0, 155⟩] hS ?_ (by simp only [List.forall_mem_cons]; exact ⟨⟨_, rfl, rfl, rfl, fun _ _ => by kernel_rfl⟩, fun _ h => by cases h⟩)
    clear hS
    refine ML 0 ?_
    refine MC (v := .agg (c4 1)) (fun W hS => J3c W) ?_
    refine MC (v := .agg (c4 N3)) (fun W hS => η W (Q8 hG hS.ext).1) ?_
    refine MF (v := .agg (c4 DD)) (fun W hS => J2e rfl rfl ((Q8 hG hS.ext).2.2.1 hc) (by kernel_rfl) (by kernel_rfl)) ?_
    refine ML 0 ?_
    refine MC (v := .agg (c4 N4)) (fun W hS => ε W (Q8 hG hS.ext).1) ?_
    refine MC (v := .agg (c4 1)) (fun W hS => J3c W) ?_
    refine MC (v := .agg (c4 N5)) (fun W hS => κ W (Q8 hG hS.ext).1) ?_
    rw [ζ.out] at N
    refine MC (v := .tuple #[.agg (c4 R), .bool true]) (fun W hS => N W (Q8 hG hS.ext).1 ((Q8 hG hS.ext).2.1 hc)) ?_
    refine MV ?_
    refine MV ?_
    refine MW ?_ (v := .bool true)
    refine MZB fun M0 => ?_
    refine MR 0 ?_ 
    refine MW ?_ (v := .bool true)
    refine MZn fun W hS => ?_
    by_cases h0 : R = 0
    ·
     exact absurd (by rw [← J.out, ← S.out]; exact h0) (Y5b hok ht)
    have D6 := Lib.hid h0
    clear _f h0
    go_upto_region 8 with fail
    refine RL hS ?_
    clear hS
    refine MW ?_ (v := .bool true)
    refine MW ?_ (v := .bool false)
    refine MW ?_ (v := .bool false)
    refine MW ?_ (v := .bool true)
    refine MW ?_ (v := .bool true)
    refine ML 0 ?_
    refine MW ?_ (v := .agg (c4 0)) (hv := by intro W; kernel_rfl)
    rw [decide_eq_false D6.out] at D3
    refine MC (v := .bool false) (fun W hS => D3 W (Q8 hG hS.ext).1) ?_
    refine MW ?_ (v := .bool false)
    refine MW ?_ (v := .bool false)
    refine MZ fun W hS => ?_
    by_cases ho : R % 2 = 1
    ·
     have D := Lib.hid ho
     clear _f ho
     go_upto_region 10 with fail
     refine RL hS ?_
     clear hS
     refine ML 0 ?_
     rw [decide_eq_true D.out] at δ
     refine MC (v := .bool true) (fun W hS => δ W (Q8 hG hS.ext).1) ?_
     refine MW ?_ (v := .bool true)
     refine MW ?_ (v := .bool false) (hv := by intro W; first | rfl | (go_simp; done))
     refine MZ fun W hS => ?_
     have G : R = X0 := α.out.trans (by unfold dXf Q0y; rw [← S.out, Nat.mod_eq_of_lt lR, decide_eq_true D.out, ht]; exact if_pos rfl) |>.symm
     rw [G] at hS
     clear G
     go_upto_region 12 with fail
     refine RL hS ?_
     clear hS
     refine ML 0 ?_
     refine ML 2 ?_
     refine MC (v := .agg (p4 X0 Y 1 T)) (fun W hS => Γ W (Q8 hG hS.ext)) ?_
     refine MR 3 ?_ 
     refine MW ?_ (v := .int .i64 0)
     refine MZ fun W hS => ?_
     go_wp2
     exact bodyPost_ret (J08 rfl rfl rfl (hS.blk (i := 3) rfl) (by kernel_rfl) (by kernel_rfl)) rfl ⟨rfl, hS.ext⟩
    have D := Lib.hid ho
    clear _f ho
    go_upto_region 10 with fail
    refine RL hS ?_
    clear hS
    refine ML 0 ?_
    rw [decide_eq_false D.out] at δ
    refine MC (v := .bool false) (fun W hS => δ W (Q8 hG hS.ext).1) ?_
    refine MW ?_ (v := .bool true)
    refine MW ?_ (v := .bool true) (hv := by intro W; first | rfl | (go_simp; done))
    refine MZ fun W hS => ?_
    go_upto_region 11 with fail
    refine RL hS ?_
    clear hS
    refine ML 0 ?_
    refine MC (v := .agg (c4 N8)) (fun W hS => Ω W (Q8 hG hS.ext).1) ?_
    refine MR 0 ?_ 
    refine MZ fun W hS => ?_
    have G : N8 = X0 := α.out.trans (by unfold dXf Q0y; rw [← S.out, Nat.mod_eq_of_lt lR, decide_eq_false D.out, ht, G4.out, Nat.mod_eq_of_lt lR]; exact if_neg (by decide)) |>.symm
    rw [G] at hS
    clear G
    go_upto_region 12 with fail
    refine RL hS ?_
    clear hS
    refine ML 0 ?_
    refine ML 2 ?_
    refine MC (v := .agg (p4 X0 Y 1 T)) (fun W hS => Γ W (Q8 hG hS.ext)) ?_
    refine MR 3 ?_ 
    refine MW ?_ (v := .int .i64 0)
    refine MZ fun W hS => ?_
    go_wp2
    exact bodyPost_ret (J08 rfl rfl rfl (hS.blk (i := 3) rfl) (by kernel_rfl) (by kernel_rfl)) rfl ⟨rfl, hS.ext⟩
   exact absurd (by rw [Ψ.out, J.out]; exact Z1f hok) hb
  exact absurd (HY.out.trans (Nat.mod_eq_of_lt (Q4c hok))) hy
 go_upto_region 1 with fail
 refine RL hS ?_
 clear hS
 refine MW ?_ (v := .pointer (some ⟨M, 0 + 31, none⟩)) (hv := fun _ => J7 (m := 32) (by decide) (by decide) Tryz.underlying23 (by kernel_rfl) rfl rfl rfl)
 refine MG 1 ?_ (j := 0 + 31) (v := .int .u8 ((Q3 V) 31)) (hj := by rw [Nat.zero_add]; exact J4 _ _ _ _ (by decide))
 refine MW ?_ (v := .int .u8 0) (hv := by intro W; exact J30 (Z1h hV ht) rfl rfl rfl)
 refine MW ?_ (v := .bool false)
 refine MW ?_ (v := .bool false)
 refine MZ fun W hS => ?_
 go_upto_region 2 with fail
 refine RL hS ?_
 clear hS
 refine ML 1 ?_
 refine MC (v := .agg (c4 Y)) (fun W hS => χ W (Q8 hG hS.ext).1) ?_
 refine MN (z := c4 0) (t := 155) ?_
 intro J9
 refine MR 0 ?_ 
 refine MZ fun W hS => ?_
 go_upto_region 3 with fail
 refine RL hS ?_
 clear hS
 refine MW ?_ (v := .pointer (some ⟨M, 0 + 31, none⟩)) (hv := fun _ => J7 (m := 32) (by decide) (by decide) Tryz.underlying23 (by kernel_rfl) rfl rfl rfl)
 refine MG 2 ?_ (j := 0 + 31) (v := .int .u8 ((Q3 V) 31)) (hj := by rw [Nat.zero_add]; exact J4 _ _ _ _ (by decide))
 refine MW ?_ (v := .int .u8 (bits .andNot .u8 (Q3 V 31) 128)) (hv := by intro W; exact J85 rfl rfl rfl rfl)
 refine MW ?_ (v := .pointer (some ⟨M, 0 + 31, none⟩)) (hv := fun _ => J7 (m := 32) (by decide) (by decide) Tryz.underlying23 (by kernel_rfl) rfl rfl rfl)
 refine MP 2 (v := .int .u8 (bits .andNot .u8 (Q3 V 31) 128)) (cs' := J0 .u8 32 (upd (Q3 V) 31 (bits .andNot .u8 (Q3 V 31) 128))) ?_ (hs := by rw [J2, Nat.zero_add]; decide) (hc := by rw [Nat.zero_add]; exact V6 _ _ _ _ _)
 refine MT (fun W hS => by rw [Q7l (Q1f hV)] at hS; exact hS) ?_
 refine MZ fun W hS => ?_
 by_cases hy : Y = V % 2 ^ 255
 ·
  have J := Lib.hid hy
  clear _f hy
  go_upto_region 4 with fail
  refine RS hS ?_
  clear hS
  refine ML 0 ?_
  refine MC (v := .agg (J0 .u8 32 (Q3 Y))) (fun W hS => D1 W (Q8 hG hS.ext).1) ?_
  refine ML 2 ?_
  rw [decide_eq_true J.out] at σ
  refine MW ?_ (v := .bool false) (hv := fun _ => J3p ((σ) _) (by kernel_rfl) rfl rfl rfl)
  refine MZx fun W hS => ?_
  go_upto_region 6 with fail
  refine RL hS ?_
  clear hS
  refine ML 0 ?_
  refine ML 0 ?_
  refine MC (v := .agg (c4 N2)) (fun W hS => θ W (Q8 hG hS.ext).1) ?_
  refine MN (z := c4 0) (t := 155) ?_
  intro G9
  refine MR 0 ?_ 
  refine MZ fun W hS => ?_
  have β : R = dX Y := by unfold dX dU dV; rw [HR.out, Δ.out, ξ.out, Ξ.out, ψ.out]
  have U : B = dB Y := by unfold dB dU dV; rw [HB.out, Δ.out, ξ.out, Ξ.out, ψ.out]
  have S := Lib.hid β
  have Ψ := Lib.hid U
  clear β U
  by_cases hb : B = true
  ·
   have ζ := Lib.hid hb
   clear _f hb
   go_upto_region 7 with fail
   refine RXn 12 [⟨12, 7, c4 0, 155⟩] hS ?_ (by simp only [List.forall_mem_cons]; exact ⟨⟨_, rfl, rfl, rfl, fun _ _ => by kernel_rfl⟩, fun _ h => by cases h⟩)
   clear hS
   refine ML 0 ?_
   refine MC (v := .agg (c4 1)) (fun W hS => J3c W) ?_
   refine MC (v := .agg (c4 N3)) (fun W hS => η W (Q8 hG hS.ext).1) ?_
   refine MF (v := .agg (c4 DD)) (fun W hS => J2e rfl rfl ((Q8 hG hS.ext).2.2.1 hc) (by kernel_rfl) (by kernel_rfl)) ?_
   refine ML 0 ?_
   refine MC (v := .agg (c4 N4)) (fun W hS => ε W (Q8 hG hS.ext).1) ?_
   refine MC (v := .agg (c4 1)) (fun W hS => J3c W) ?_
   refine MC (v := .agg (c4 N5)) (fun W hS => κ W (Q8 hG hS.ext).1) ?_
   rw [ζ.out] at N
   refine MC (v := .tuple #[.agg (c4 R), .bool true]) (fun W hS => N W (Q8 hG hS.ext).1 ((Q8 hG hS.ext).2.1 hc)) ?_
   refine MV ?_
   refine MV ?_
   refine MW ?_ (v := .bool true)
   refine MZB fun M1 => ?_
   refine MR 0 ?_ 
   refine MW ?_ (v := .bool true)
   refine MZn fun W hS => ?_
   go_upto_region 8 with fail
   refine RL hS ?_
   clear hS
   refine MW ?_ (v := .bool true)
   refine MW ?_ (v := .bool false)
   refine MW ?_ (v := .bool false)
   refine MW ?_ (v := .bool false)
   refine MW ?_ (v := .bool false)
   refine MS ?_
   refine MS ?_
   refine MS ?_
   refine MW ?_ (v := .bool false)
   refine MW ?_ (v := .bool false)
   refine MZ fun W hS => ?_
   by_cases ho : R % 2 = 1
   ·
    have D := Lib.hid ho
    clear _f ho
    go_upto_region 10 with fail
    refine RL hS ?_
    clear hS
    refine ML 0 ?_
    rw [decide_eq_true D.out] at γ
    refine MC (v := .bool true) (fun W hS => γ W (Q8 hG hS.ext).1) ?_
    refine MW ?_ (v := .bool false)
    refine MW ?_ (v := .bool true) (hv := by intro W; first | rfl | (go_simp; done))
    refine MZ fun W hS => ?_
    go_upto_region 11 with fail
    refine RL hS ?_
    clear hS
    refine ML 0 ?_
    refine MC (v := .agg (c4 N7)) (fun W hS => D0 W (Q8 hG hS.ext).1) ?_
    refine MR 0 ?_ 
    refine MZ fun W hS => ?_
    have G : N7 = X0 := α.out.trans (by unfold dXf Q0y; rw [← S.out, Nat.mod_eq_of_lt lR, decide_eq_true D.out, Bool.eq_false_iff.2 ht, G5.out, Nat.mod_eq_of_lt lR]; exact if_neg (by decide)) |>.symm
    rw [G] at hS
    clear G
    go_upto_region 12 with fail
    refine RL hS ?_
    clear hS
    refine ML 0 ?_
    refine ML 2 ?_
    refine MC (v := .agg (p4 X0 Y 1 T)) (fun W hS => Γ W (Q8 hG hS.ext)) ?_
    refine MR 3 ?_ 
    refine MW ?_ (v := .int .i64 0)
    refine MZ fun W hS => ?_
    go_wp2
    exact bodyPost_ret (J08 rfl rfl rfl (hS.blk (i := 3) rfl) (by kernel_rfl) (by kernel_rfl)) rfl ⟨rfl, hS.ext⟩
   have D := Lib.hid ho
   clear _f ho
   go_upto_region 10 with fail
   refine RL hS ?_
   clear hS
   refine ML 0 ?_
   rw [decide_eq_false D.out] at γ
   refine MC (v := .bool false) (fun W hS => γ W (Q8 hG hS.ext).1) ?_
   refine MW ?_ (v := .bool false)
   refine MW ?_ (v := .bool false) (hv := by intro W; first | rfl | (go_simp; done))
   refine MZ fun W hS => ?_
   have G : R = X0 := α.out.trans (by unfold dXf Q0y; rw [← S.out, Nat.mod_eq_of_lt lR, decide_eq_false D.out, Bool.eq_false_iff.2 ht]; exact if_pos rfl) |>.symm
   rw [G] at hS
   clear G
   go_upto_region 12 with fail
   refine RL hS ?_
   clear hS
   refine ML 0 ?_
   refine ML 2 ?_
   refine MC (v := .agg (p4 X0 Y 1 T)) (fun W hS => Γ W (Q8 hG hS.ext)) ?_
   refine MR 3 ?_ 
   refine MW ?_ (v := .int .i64 0)
   refine MZ fun W hS => ?_
   go_wp2
   exact bodyPost_ret (J08 rfl rfl rfl (hS.blk (i := 3) rfl) (by kernel_rfl) (by kernel_rfl)) rfl ⟨rfl, hS.ext⟩
  exact absurd (by rw [Ψ.out, J.out]; exact Z1f hok) hb
 exact absurd (HY.out.trans (Nat.mod_eq_of_lt (Q4c hok))) hy
end
end Go.Proofs.YtejkmhgkkibafaaGreatDoor.S8
