/- Contracts and plain laws that superChecks_holds rests on. Conditions: the variables' cells hold the numbers of the program's text. -/
import Derived.Test.YtejkmhgkkibafaaGreatDoorJ6
import Derived.Test.YtejkmhgkkibafaaGreatDoorJ3
import Derived.Test.YtejkmhgkkibafaaGreatDoorJ8
import Derived.Test.YtejkmhgkkibafaaGreatDoorJ19
open Go.RowKit
set_option maxRecDepth 100000
set_option linter.unusedSimpArgs false
set_option linter.unusedVariables false
namespace Go.Proofs.YtejkmhgkkibafaaGreatDoor.S8
section
set_option maxHeartbeats 1500000
attribute [local irreducible] wpList J01 wpX
variable {kn : Kn}
theorem Q4c {V : Nat} (h : dOk V = true) : V % 2 ^ 255 < PP := by
 unfold dOk at h; simp only [Bool.and_eq_true, decide_eq_true_eq] at h; exact h.1.1
theorem Z1f {V : Nat} (h : dOk V = true) : dB (V % 2 ^ 255) = true := by
 unfold dOk at h; simp only [Bool.and_eq_true] at h; exact h.1.2
theorem Y5b {V : Nat} (h : dOk V = true) (ht : top V = true) : ¬ dX (V % 2 ^ 255) = 0 := by
 unfold dOk at h; intro h0
 simp [ht, h0] at h
theorem J9n {V : Nat} (h1 : V % 2 ^ 255 < PP) (h2 : dB (V % 2 ^ 255) = true) (h3 : ¬ (top V = true ∧ dX (V % 2 ^ 255) = 0)) : dOk V = true := by
 unfold dOk
 rw [decide_eq_true h1, h2]
 cases ht : top V
 ·
  rfl
 have : ¬ dX (V % 2 ^ 255) = 0 := fun h0 => h3 ⟨ht, h0⟩
 simp [this]
theorem J9o (V : Nat) : V % 2 ^ 255 < 2 ^ 256 := Nat.lt_trans (Nat.mod_lt _ (by decide)) (by decide)

theorem Z6z (y : Nat) (o : Bool) : dXf y o < PP := by
 unfold dXf
 split
 ·
  exact Q9c y
 exact J23 _
theorem Y7a (hc : kn.c) {V : Nat} (hV : V < 2 ^ 256) (hok : dOk V = false) :
  ∀ w, GE kn w → Calls Tryz.prog 106 #[.agg (J0 .u8 32 (Q3 V))] w fun e w' => K6 (.tuple #[.agg (p4 0 0 0 0), .int .i64 15]) w w' e := by
 have ε := Y58 (Q3 V) (J38 V)
 rw [J4e, show 8 * 32 = 256 by decide, Nat.mod_eq_of_lt hV] at ε
 obtain ⟨Y, hY⟩ := V0 (V % 2 ^ 255 % PP)
 rw [← hY] at ε
 have lY := bpp hY
 have HY := Lib.hid hY
 clear hY
 have β := Q2p Y (Z5 lY)
 rw [Nat.mod_eq_of_lt lY] at β
 have M := Z10 Y (V % 2 ^ 255) (Q1d lY) (J9o V)
 have δ := K0 Y Y (Z5 lY) (Z5 lY)
 obtain ⟨N2, η⟩ := V0 (Y * Y % PP)
 rw [← η] at δ
 have ψ := bpp η
 have τ := Z5 ψ
 have ξ := Lib.hid η
 clear η
 have N := J7i N2 1 τ (by decide)
 obtain ⟨N3, ρ⟩ := V0 ((N2 + (PP - 1 % PP)) % PP)
 rw [← ρ] at N
 have Ξ := bpp ρ
 have ω := Z5 Ξ
 have ν := Lib.hid ρ
 clear ρ
 have S := K0 DD N2 Q7k τ
 obtain ⟨N4, θ⟩ := V0 (DD * N2 % PP)
 rw [← θ] at S
 have χ := bpp θ
 have Γ := Z5 χ
 have ζ := Lib.hid θ
 clear θ
 have T := J4n N4 1 Γ (by decide)
 obtain ⟨N5, κ⟩ := V0 ((N4 + 1) % PP)
 rw [← κ] at T
 have Θ := bpp κ
 have Δ := Z5 Θ
 have μ := Lib.hid κ
 clear κ
 have J := Z1b N3 N5 ω Δ
 obtain ⟨R, hR⟩ := V0 (rtR N3 N5)
 rw [← hR] at J
 have lR : R < PP := by rw [hR]; exact J9q _ _
 have HR := Lib.hid hR
 clear hR
 obtain ⟨B, hB⟩ := V0 (rtB N3 N5)
 rw [← hB] at J
 have HB := Lib.hid hB
 clear hB
 have α := J6l R 0 (Z5 lR) (by decide)
 rw [Nat.mod_eq_of_lt lR, Nat.mod_eq_of_lt (by decide)] at α
 intro w hG
 have hS := SH.nil [] w
 go_enter Tryz.func106, Tryz.ntmps106
 go_upto_region 0 with fail
 refine RL hS ?_
 clear hS
 refine MN (z := J0 .u8 32 (Q3 V)) (t := 23) ?_
 intro U
 refine MN (z := p4 0 0 0 0) (t := 157) ?_
 intro D3
 refine MW ?_ (v := .int .i64 0)
 refine MZ fun W hS => ?_
 by_cases ht : top V = true
 ·
  go_upto_region 1 with fail
  refine RL hS ?_
  clear hS
  refine MW ?_ (v := .pointer (some ⟨U, 0 + 31, none⟩)) (hv := fun _ => J7 (m := 32) (by decide) (by decide) Tryz.underlying23 (by kernel_rfl) rfl rfl rfl)
  refine MG 1 ?_ (j := 0 + 31) (v := .int .u8 ((Q3 V) 31)) (hj := by rw [Nat.zero_add]; exact J4 _ _ _ _ (by decide))
  refine MW ?_ (v := .int .u8 128) (hv := by intro W; exact J30 (Z1g hV ht) rfl rfl rfl)
  refine MW ?_ (v := .bool true)
  refine MW ?_ (v := .bool true)
  refine MZ fun W hS => ?_
  go_upto_region 2 with fail
  refine RL hS ?_
  clear hS
  refine ML 1 ?_
  refine MC (v := .agg (c4 Y)) (fun W hS => ε W (Q8 hG hS.ext).1) ?_
  refine MN (z := c4 0) (t := 155) ?_
  intro D0
  refine MR 0 ?_ 
  refine MZ fun W hS => ?_
  go_upto_region 3 with fail
  refine RL hS ?_
  clear hS
  refine MW ?_ (v := .pointer (some ⟨U, 0 + 31, none⟩)) (hv := fun _ => J7 (m := 32) (by decide) (by decide) Tryz.underlying23 (by kernel_rfl) rfl rfl rfl)
  refine MG 2 ?_ (j := 0 + 31) (v := .int .u8 ((Q3 V) 31)) (hj := by rw [Nat.zero_add]; exact J4 _ _ _ _ (by decide))
  refine MW ?_ (v := .int .u8 (bits .andNot .u8 (Q3 V 31) 128)) (hv := by intro W; exact J85 rfl rfl rfl rfl)
  refine MW ?_ (v := .pointer (some ⟨U, 0 + 31, none⟩)) (hv := fun _ => J7 (m := 32) (by decide) (by decide) Tryz.underlying23 (by kernel_rfl) rfl rfl rfl)
  refine MP 2 (v := .int .u8 (bits .andNot .u8 (Q3 V 31) 128)) (cs' := J0 .u8 32 (upd (Q3 V) 31 (bits .andNot .u8 (Q3 V 31) 128))) ?_ (hs := by rw [J2, Nat.zero_add]; decide) (hc := by rw [Nat.zero_add]; exact V6 _ _ _ _ _)
  refine MT (fun W hS => by rw [Q7l (Q1f hV)] at hS; exact hS) ?_
  refine MZ fun W hS => ?_
  by_cases hy : Y = V % 2 ^ 255
  ·
   have D := Lib.hid hy
   clear _f hy
   go_upto_region 4 with fail
   refine RS hS ?_
   clear hS
   refine ML 0 ?_
   refine MC (v := .agg (J0 .u8 32 (Q3 Y))) (fun W hS => β W (Q8 hG hS.ext).1) ?_
   refine ML 2 ?_
   rw [decide_eq_true D.out] at M
   refine MW ?_ (v := .bool false) (hv := fun _ => J3p ((M) _) (by kernel_rfl) rfl rfl rfl)
   refine MZx fun W hS => ?_
   go_upto_region 6 with fail
   refine RL hS ?_
   clear hS
   refine ML 0 ?_
   refine ML 0 ?_
   refine MC (v := .agg (c4 N2)) (fun W hS => δ W (Q8 hG hS.ext).1) ?_
   refine MN (z := c4 0) (t := 155) ?_
   intro Ω
   refine MR 0 ?_ 
   refine MZ fun W hS => ?_
   have γ : R = dX Y := by unfold dX dU dV; rw [HR.out, ν.out, μ.out, ζ.out, ξ.out]
   have Z : B = dB Y := by unfold dB dU dV; rw [HB.out, ν.out, μ.out, ζ.out, ξ.out]
   have φ := Lib.hid γ
   have σ := Lib.hid Z
   clear γ Z
   by_cases hb : B = true
   ·
    have G := Lib.hid hb
    clear _f hb
    go_upto_region 7 with fail
    refine RXn 12 [⟨12, 7, c4 0, 155⟩] hS ?_ (by simp only [List.forall_mem_cons]; exact ⟨⟨_, rfl, rfl, rfl, fun _ _ => by kernel_rfl⟩, fun _ h => by cases h⟩)
    clear hS
    refine ML 0 ?_
    refine MC (v := .agg (c4 1)) (fun W hS => J3c W) ?_
    refine MC (v := .agg (c4 N3)) (fun W hS => N W (Q8 hG hS.ext).1) ?_
    refine MF (v := .agg (c4 DD)) (fun W hS => J2e rfl rfl ((Q8 hG hS.ext).2.2.1 hc) (by kernel_rfl) (by kernel_rfl)) ?_
    refine ML 0 ?_
    refine MC (v := .agg (c4 N4)) (fun W hS => S W (Q8 hG hS.ext).1) ?_
    refine MC (v := .agg (c4 1)) (fun W hS => J3c W) ?_
    refine MC (v := .agg (c4 N5)) (fun W hS => T W (Q8 hG hS.ext).1) ?_
    rw [G.out] at J
    refine MC (v := .tuple #[.agg (c4 R), .bool true]) (fun W hS => J W (Q8 hG hS.ext).1 ((Q8 hG hS.ext).2.1 hc)) ?_
    refine MV ?_
    refine MV ?_
    refine MW ?_ (v := .bool true)
    refine MZB fun D6 => ?_
    refine MR 0 ?_ 
    refine MW ?_ (v := .bool true)
    refine MZn fun W hS => ?_
    by_cases h0 : R = 0
    ·
     have X := Lib.hid h0
     clear _f h0
     go_upto_region 8 with fail
     refine RL hS ?_
     clear hS
     refine MW ?_ (v := .bool true)
     refine MW ?_ (v := .bool false)
     refine MW ?_ (v := .bool false)
     refine MW ?_ (v := .bool true)
     refine MW ?_ (v := .bool true)
     refine ML 0 ?_
     refine MW ?_ (v := .agg (c4 0)) (hv := by intro W; kernel_rfl)
     rw [decide_eq_true X.out] at α
     refine MC (v := .bool true) (fun W hS => α W (Q8 hG hS.ext).1) ?_
     refine MW ?_ (v := .bool true)
     refine MW ?_ (v := .bool true)
     refine MZ fun W hS => ?_
     go_upto_region 9 with fail
     refine RL hS ?_
     clear hS
     refine MW ?_ (v := .agg (p4 0 0 0 0)) (hv := by intro W; kernel_rfl)
     refine MR 3 ?_ 
     refine MW ?_ (v := .int .i64 15)
     refine MZ fun W hS => ?_
     go_wp2
     exact bodyPost_ret (J08 rfl rfl rfl (hS.blk (i := 3) rfl) (by kernel_rfl) (by kernel_rfl)) rfl ⟨rfl, hS.ext⟩
    have X := Lib.hid h0
    clear _f h0
    go_upto_region 8 with fail
    refine RL hS ?_
    clear hS
    refine MW ?_ (v := .bool true)
    refine MW ?_ (v := .bool false)
    refine MW ?_ (v := .bool false)
    refine MW ?_ (v := .bool true)
    refine MW ?_ (v := .bool true)
    refine ML 0 ?_
    refine MW ?_ (v := .agg (c4 0)) (hv := by intro W; kernel_rfl)
    rw [decide_eq_false X.out] at α
    refine MC (v := .bool false) (fun W hS => α W (Q8 hG hS.ext).1) ?_
    refine MW ?_ (v := .bool false)
    refine MW ?_ (v := .bool false)
    refine MZ fun W hS => ?_
    exact absurd (J9n (D.out ▸ lY) (by rw [← D.out, ← σ.out]; exact G.out) (fun h => X.out (by rw [φ.out, D.out]; exact h.2))) (by rw [hok]; decide)
   rw [Bool.not_eq_true] at hb _f
   have G := Lib.hid hb
   clear _f hb
   go_upto_region 7 with fail
   refine RXn 12 [⟨12, 7, c4 0, 155⟩] hS ?_ (by simp only [List.forall_mem_cons]; exact ⟨⟨_, rfl, rfl, rfl, fun _ _ => by kernel_rfl⟩, fun _ h => by cases h⟩)
   clear hS
   refine ML 0 ?_
   refine MC (v := .agg (c4 1)) (fun W hS => J3c W) ?_
   refine MC (v := .agg (c4 N3)) (fun W hS => N W (Q8 hG hS.ext).1) ?_
   refine MF (v := .agg (c4 DD)) (fun W hS => J2e rfl rfl ((Q8 hG hS.ext).2.2.1 hc) (by kernel_rfl) (by kernel_rfl)) ?_
   refine ML 0 ?_
   refine MC (v := .agg (c4 N4)) (fun W hS => S W (Q8 hG hS.ext).1) ?_
   refine MC (v := .agg (c4 1)) (fun W hS => J3c W) ?_
   refine MC (v := .agg (c4 N5)) (fun W hS => T W (Q8 hG hS.ext).1) ?_
   rw [G.out] at J
   refine MC (v := .tuple #[.agg (c4 R), .bool false]) (fun W hS => J W (Q8 hG hS.ext).1 ((Q8 hG hS.ext).2.1 hc)) ?_
   refine MV ?_
   refine MV ?_
   refine MW ?_ (v := .bool false)
   refine MZB fun D5 => ?_
   refine MR 0 ?_ 
   refine MW ?_ (v := .bool false)
   refine MZn fun W hS => ?_
   go_upto_region 8 with fail
   refine RL hS ?_
   clear hS
   refine MW ?_ (v := .bool false)
   refine MW ?_ (v := .bool true)
   refine MW ?_ (v := .bool true)
   refine MS ?_
   refine MS ?_
   refine MS ?_
   refine MS ?_
   refine MS ?_
   refine MS ?_
   refine MW ?_ (v := .bool true)
   refine MZ fun W hS => ?_
   go_upto_region 9 with fail
   refine RL hS ?_
   clear hS
   refine MW ?_ (v := .agg (p4 0 0 0 0)) (hv := by intro W; kernel_rfl)
   refine MR 3 ?_ 
   refine MW ?_ (v := .int .i64 15)
   refine MZ fun W hS => ?_
   go_wp2
   exact bodyPost_ret (J08 rfl rfl rfl (hS.blk (i := 3) rfl) (by kernel_rfl) (by kernel_rfl)) rfl ⟨rfl, hS.ext⟩
  have D := Lib.hid hy
  clear _f hy
  go_upto_region 4 with fail
  refine RS hS ?_
  clear hS
  refine ML 0 ?_
  refine MC (v := .agg (J0 .u8 32 (Q3 Y))) (fun W hS => β W (Q8 hG hS.ext).1) ?_
  refine ML 2 ?_
  rw [decide_eq_false D.out] at M
  refine MW ?_ (v := .bool true) (hv := fun _ => J3p ((M) _) (by kernel_rfl) rfl rfl rfl)
  refine MZx fun W hS => ?_
  go_upto_region 5 with fail
  refine RL hS ?_
  clear hS
  refine MW ?_ (v := .agg (p4 0 0 0 0)) (hv := by intro W; kernel_rfl)
  refine MR 1 ?_ 
  refine MW ?_ (v := .int .i64 15)
  refine MZ fun W hS => ?_
  go_wp2
  exact bodyPost_ret (J08 rfl rfl rfl (hS.blk (i := 1) rfl) (by kernel_rfl) (by kernel_rfl)) rfl ⟨rfl, hS.ext⟩
 go_upto_region 1 with fail
 refine RL hS ?_
 clear hS
 refine MW ?_ (v := .pointer (some ⟨U, 0 + 31, none⟩)) (hv := fun _ => J7 (m := 32) (by decide) (by decide) Tryz.underlying23 (by kernel_rfl) rfl rfl rfl)
 refine MG 1 ?_ (j := 0 + 31) (v := .int .u8 ((Q3 V) 31)) (hj := by rw [Nat.zero_add]; exact J4 _ _ _ _ (by decide))
 refine MW ?_ (v := .int .u8 0) (hv := by intro W; exact J30 (Z1h hV ht) rfl rfl rfl)
 refine MW ?_ (v := .bool false)
 refine MW ?_ (v := .bool false)
 refine MZ fun W hS => ?_
 go_upto_region 2 with fail
 refine RL hS ?_
 clear hS
 refine ML 1 ?_
 refine MC (v := .agg (c4 Y)) (fun W hS => ε W (Q8 hG hS.ext).1) ?_
 refine MN (z := c4 0) (t := 155) ?_
 intro D2
 refine MR 0 ?_ 
 refine MZ fun W hS => ?_
 go_upto_region 3 with fail
 refine RL hS ?_
 clear hS
 refine MW ?_ (v := .pointer (some ⟨U, 0 + 31, none⟩)) (hv := fun _ => J7 (m := 32) (by decide) (by decide) Tryz.underlying23 (by kernel_rfl) rfl rfl rfl)
 refine MG 2 ?_ (j := 0 + 31) (v := .int .u8 ((Q3 V) 31)) (hj := by rw [Nat.zero_add]; exact J4 _ _ _ _ (by decide))
 refine MW ?_ (v := .int .u8 (bits .andNot .u8 (Q3 V 31) 128)) (hv := by intro W; exact J85 rfl rfl rfl rfl)
 refine MW ?_ (v := .pointer (some ⟨U, 0 + 31, none⟩)) (hv := fun _ => J7 (m := 32) (by decide) (by decide) Tryz.underlying23 (by kernel_rfl) rfl rfl rfl)
 refine MP 2 (v := .int .u8 (bits .andNot .u8 (Q3 V 31) 128)) (cs' := J0 .u8 32 (upd (Q3 V) 31 (bits .andNot .u8 (Q3 V 31) 128))) ?_ (hs := by rw [J2, Nat.zero_add]; decide) (hc := by rw [Nat.zero_add]; exact V6 _ _ _ _ _)
 refine MT (fun W hS => by rw [Q7l (Q1f hV)] at hS; exact hS) ?_
 refine MZ fun W hS => ?_
 by_cases hy : Y = V % 2 ^ 255
 ·
  have D := Lib.hid hy
  clear _f hy
  go_upto_region 4 with fail
  refine RS hS ?_
  clear hS
  refine ML 0 ?_
  refine MC (v := .agg (J0 .u8 32 (Q3 Y))) (fun W hS => β W (Q8 hG hS.ext).1) ?_
  refine ML 2 ?_
  rw [decide_eq_true D.out] at M
  refine MW ?_ (v := .bool false) (hv := fun _ => J3p ((M) _) (by kernel_rfl) rfl rfl rfl)
  refine MZx fun W hS => ?_
  go_upto_region 6 with fail
  refine RL hS ?_
  clear hS
  refine ML 0 ?_
  refine ML 0 ?_
  refine MC (v := .agg (c4 N2)) (fun W hS => δ W (Q8 hG hS.ext).1) ?_
  refine MN (z := c4 0) (t := 155) ?_
  intro D1
  refine MR 0 ?_ 
  refine MZ fun W hS => ?_
  have γ : R = dX Y := by unfold dX dU dV; rw [HR.out, ν.out, μ.out, ζ.out, ξ.out]
  have Z : B = dB Y := by unfold dB dU dV; rw [HB.out, ν.out, μ.out, ζ.out, ξ.out]
  have φ := Lib.hid γ
  have σ := Lib.hid Z
  clear γ Z
  by_cases hb : B = true
  ·
   have G := Lib.hid hb
   clear _f hb
   go_upto_region 7 with fail
   refine RXn 12 [⟨12, 7, c4 0, 155⟩] hS ?_ (by simp only [List.forall_mem_cons]; exact ⟨⟨_, rfl, rfl, rfl, fun _ _ => by kernel_rfl⟩, fun _ h => by cases h⟩)
   clear hS
   refine ML 0 ?_
   refine MC (v := .agg (c4 1)) (fun W hS => J3c W) ?_
   refine MC (v := .agg (c4 N3)) (fun W hS => N W (Q8 hG hS.ext).1) ?_
   refine MF (v := .agg (c4 DD)) (fun W hS => J2e rfl rfl ((Q8 hG hS.ext).2.2.1 hc) (by kernel_rfl) (by kernel_rfl)) ?_
   refine ML 0 ?_
   refine MC (v := .agg (c4 N4)) (fun W hS => S W (Q8 hG hS.ext).1) ?_
   refine MC (v := .agg (c4 1)) (fun W hS => J3c W) ?_
   refine MC (v := .agg (c4 N5)) (fun W hS => T W (Q8 hG hS.ext).1) ?_
   rw [G.out] at J
   refine MC (v := .tuple #[.agg (c4 R), .bool true]) (fun W hS => J W (Q8 hG hS.ext).1 ((Q8 hG hS.ext).2.1 hc)) ?_
   refine MV ?_
   refine MV ?_
   refine MW ?_ (v := .bool true)
   refine MZB fun D4 => ?_
   refine MR 0 ?_ 
   refine MW ?_ (v := .bool true)
   refine MZn fun W hS => ?_
   go_upto_region 8 with fail
   refine RL hS ?_
   clear hS
   refine MW ?_ (v := .bool true)
   refine MW ?_ (v := .bool false)
   refine MW ?_ (v := .bool false)
   refine MW ?_ (v := .bool false)
   refine MW ?_ (v := .bool false)
   refine MS ?_
   refine MS ?_
   refine MS ?_
   refine MW ?_ (v := .bool false)
   refine MW ?_ (v := .bool false)
   refine MZ fun W hS => ?_
   exact absurd (J9n (D.out ▸ lY) (by rw [← D.out, ← σ.out]; exact G.out) (fun h => ht h.1)) (by rw [hok]; decide)
  rw [Bool.not_eq_true] at hb _f
  have G := Lib.hid hb
  clear _f hb
  go_upto_region 7 with fail
  refine RXn 12 [⟨12, 7, c4 0, 155⟩] hS ?_ (by simp only [List.forall_mem_cons]; exact ⟨⟨_, rfl, rfl, rfl, fun _ _ => by kernel_rfl⟩, fun _ h => by cases h⟩)
  clear hS
  refine ML 0 ?_
  refine MC (v := .agg (c4 1)) (fun W hS => J3c W) ?_
  refine MC (v := .agg (c4 N3)) (fun W hS => N W (Q8 hG hS.ext).1) ?_
  refine MF (v := .agg (c4 DD)) (fun W hS => J2e rfl rfl ((Q8 hG hS.ext).2.2.1 hc) (by kernel_rfl) (by kernel_rfl)) ?_
  refine ML 0 ?_
  refine MC (v := .agg (c4 N4)) (fun W hS => S W (Q8 hG hS.ext).1) ?_
  refine MC (v := .agg (c4 1)) (fun W hS => J3c W) ?_
  refine MC (v := .agg (c4 N5)) (fun W hS => T W (Q8 hG hS.ext).1) ?_
  rw [G.out] at J
  refine MC (v := .tuple #[.agg (c4 R), .bool false]) (fun W hS => J W (Q8 hG hS.ext).1 ((Q8 hG hS.ext).2.1 hc)) ?_
  refine MV ?_
  refine MV ?_
  refine MW ?_ (v := .bool false)
  refine MZB fun Ψ => ?_
  refine MR 0 ?_ 
  refine MW ?_ (v := .bool false)
  refine MZn fun W hS => ?_
  go_upto_region 8 with fail
  refine RL hS ?_
  clear hS
  refine MW ?_ (v := .bool false)
  refine MW ?_ (v := .bool true)
  refine MW ?_ (v := .bool true)
  refine MS ?_
  refine MS ?_
  refine MS ?_
  refine MS ?_
  refine MS ?_
  refine MS ?_
  refine MW ?_ (v := .bool true)
  refine MZ fun W hS => ?_
  go_upto_region 9 with fail
  refine RL hS ?_
  clear hS
  refine MW ?_ (v := .agg (p4 0 0 0 0)) (hv := by intro W; kernel_rfl)
  refine MR 3 ?_ 
  refine MW ?_ (v := .int .i64 15)
  refine MZ fun W hS => ?_
  go_wp2
  exact bodyPost_ret (J08 rfl rfl rfl (hS.blk (i := 3) rfl) (by kernel_rfl) (by kernel_rfl)) rfl ⟨rfl, hS.ext⟩
 have D := Lib.hid hy
 clear _f hy
 go_upto_region 4 with fail
 refine RS hS ?_
 clear hS
 refine ML 0 ?_
 refine MC (v := .agg (J0 .u8 32 (Q3 Y))) (fun W hS => β W (Q8 hG hS.ext).1) ?_
 refine ML 2 ?_
 rw [decide_eq_false D.out] at M
 refine MW ?_ (v := .bool true) (hv := fun _ => J3p ((M) _) (by kernel_rfl) rfl rfl rfl)
 refine MZx fun W hS => ?_
 go_upto_region 5 with fail
 refine RL hS ?_
 clear hS
 refine MW ?_ (v := .agg (p4 0 0 0 0)) (hv := by intro W; kernel_rfl)
 refine MR 1 ?_ 
 refine MW ?_ (v := .int .i64 15)
 refine MZ fun W hS => ?_
 go_wp2
 exact bodyPost_ret (J08 rfl rfl rfl (hS.blk (i := 1) rfl) (by kernel_rfl) (by kernel_rfl)) rfl ⟨rfl, hS.ext⟩
end

section
set_option maxHeartbeats 1500000
attribute [local irreducible] wpList J01 wpX
variable {kn : Kn}

theorem Y7c (hc : kn.c) {V : Nat} (hV : V < 2 ^ 256) (hok : dOk V = true) :
  ∃ X T, RN X (V % 2 ^ 255) 1 T (dPt V) ∧ ∀ w, GE kn w → Calls Tryz.prog 106 #[.agg (J0 .u8 32 (Q3 V))] w fun e w' => K6 (.tuple #[.agg (p4 X (V % 2 ^ 255) 1 T), .int .i64 0]) w w' e := by
 have ν := Y58 (Q3 V) (J38 V)
 rw [J4e, show 8 * 32 = 256 by decide, Nat.mod_eq_of_lt hV] at ν
 obtain ⟨Y, hY⟩ := V0 (V % 2 ^ 255 % PP)
 rw [← hY] at ν
 have lY := bpp hY
 have HY := Lib.hid hY
 clear hY
 have Ω := Q2p Y (Z5 lY)
 rw [Nat.mod_eq_of_lt lY] at Ω
 have μ := Z10 Y (V % 2 ^ 255) (Q1d lY) (J9o V)
 have ε := K0 Y Y (Z5 lY) (Z5 lY)
 obtain ⟨N2, τ⟩ := V0 (Y * Y % PP)
 rw [← τ] at ε
 have G2 := bpp τ
 have D4 := Z5 G2
 have ω := Lib.hid τ
 clear τ
 have θ := J7i N2 1 D4 (by decide)
 obtain ⟨N3, φ⟩ := V0 ((N2 + (PP - 1 % PP)) % PP)
 rw [← φ] at θ
 have G8 := bpp φ
 have D7 := Z5 G8
 have ρ := Lib.hid φ
 clear φ
 have ζ := K0 DD N2 Q7k D4
 obtain ⟨N4, ψ⟩ := V0 (DD * N2 % PP)
 rw [← ψ] at ζ
 have G6 := bpp ψ
 have G7 := Z5 G6
 have χ := Lib.hid ψ
 clear ψ
 have η := J4n N4 1 G7 (by decide)
 obtain ⟨N5, Ξ⟩ := V0 ((N4 + 1) % PP)
 rw [← Ξ] at η
 have G3 := bpp Ξ
 have D9 := Z5 G3
 have ξ := Lib.hid Ξ
 clear Ξ
 have N := Z1b N3 N5 D7 D9
 obtain ⟨R, hR⟩ := V0 (rtR N3 N5)
 rw [← hR] at N
 have lR : R < PP := by rw [hR]; exact J9q _ _
 have HR := Lib.hid hR
 clear hR
 obtain ⟨B, hB⟩ := V0 (rtB N3 N5)
 rw [← hB] at N
 have HB := Lib.hid hB
 clear hB
 have Ψ := J6l R 0 (Z5 lR) (by decide)
 rw [Nat.mod_eq_of_lt lR, Nat.mod_eq_of_lt (by decide)] at Ψ
 have Z := Q98 R (Z5 lR)
 rw [Nat.mod_eq_of_lt lR] at Z
 have γ := Z71 hok
 have D1 : V % 2 ^ 255 = Y := by rw [HY.out]; exact (Nat.mod_eq_of_lt (Q4c hok)).symm
 unfold dPt at γ
 rw [D1] at γ
 have D5 := Lib.hid D1
 clear D1
 obtain ⟨X0, σ⟩ := V0 (dXf Y (top V))
 have G0 : X0 < PP := by rw [σ]; exact Z6z _ _
 rw [← σ] at γ
 have U := Lib.hid σ
 clear σ
 obtain ⟨T, rT, Γ⟩ := Y59 (kn := kn) G0 lY γ
 have D0 := J8u R (Z5 lR)
 obtain ⟨N8, Θ⟩ := V0 ((PP - R % PP) % PP)
 rw [← Θ] at D0
 have G1 := bpp Θ
 have J3 := Z5 G1
 have G5 := Lib.hid Θ
 clear Θ
 have δ := Q98 R (Z5 lR)
 rw [Nat.mod_eq_of_lt lR] at δ
 have D2 := J8u R (Z5 lR)
 obtain ⟨N7, Δ⟩ := V0 ((PP - R % PP) % PP)
 rw [← Δ] at D2
 have D8 := bpp Δ
 have G9 := Z5 D8
 have G4 := Lib.hid Δ
 clear Δ
 refine ⟨X0, T, by unfold dPt; rw [D5.out, ← U.out]; exact rT, ?_⟩
 rw [D5.out]
 clear γ
 intro w hG
 have hS := SH.nil [] w
 go_enter Tryz.func106, Tryz.ntmps106
 go_upto_region 0 with fail
 refine RL hS ?_
 clear hS
 refine MN (z := J0 .u8 32 (Q3 V)) (t := 23) ?_
 intro S
 refine MN (z := p4 0 0 0 0) (t := 157) ?_
 intro J6
 refine MW ?_ (v := .int .i64 0)
 refine MZ fun W hS => ?_
 by_cases ht : top V = true
 ·
  go_upto_region 1 with fail
  refine RL hS ?_
  clear hS
  refine MW ?_ (v := .pointer (some ⟨S, 0 + 31, none⟩)) (hv := fun _ => J7 (m := 32) (by decide) (by decide) Tryz.underlying23 (by kernel_rfl) rfl rfl rfl)
  refine MG 1 ?_ (j := 0 + 31) (v := .int .u8 ((Q3 V) 31)) (hj := by rw [Nat.zero_add]; exact J4 _ _ _ _ (by decide))
  refine MW ?_ (v := .int .u8 128) (hv := by intro W; exact J30 (Z1g hV ht) rfl rfl rfl)
  refine MW ?_ (v := .bool true)
  refine MW ?_ (v := .bool true)
  refine MZ fun W hS => ?_
  go_upto_region 2 with fail
  refine RL hS ?_
  clear hS
  refine ML 1 ?_
  refine MC (v := .agg (c4 Y)) (fun W hS => ν W (Q8 hG hS.ext).1) ?_
  refine MN (z := c4 0) (t := 155) ?_
  intro J9
  refine MR 0 ?_ 
  refine MZ fun W hS => ?_
  go_upto_region 3 with fail
  refine RL hS ?_
  clear hS
  refine MW ?_ (v := .pointer (some ⟨S, 0 + 31, none⟩)) (hv := fun _ => J7 (m := 32) (by decide) (by decide) Tryz.underlying23 (by kernel_rfl) rfl rfl rfl)
  refine MG 2 ?_ (j := 0 + 31) (v := .int .u8 ((Q3 V) 31)) (hj := by rw [Nat.zero_add]; exact J4 _ _ _ _ (by decide))
  refine MW ?_ (v := .int .u8 (bits .andNot .u8 (Q3 V 31) 128)) (hv := by intro W; exact J85 rfl rfl rfl rfl)
  refine MW ?_ (v := .pointer (some ⟨S, 0 + 31, none⟩)) (hv := fun _ => J7 (m := 32) (by decide) (by decide) Tryz.underlying23 (by kernel_rfl) rfl rfl rfl)
  refine MP 2 (v := .int .u8 (bits .andNot .u8 (Q3 V 31) 128)) (cs' := J0 .u8 32 (upd (Q3 V) 31 (bits .andNot .u8 (Q3 V 31) 128))) ?_ (hs := by rw [J2, Nat.zero_add]; decide) (hc := by rw [Nat.zero_add]; exact V6 _ _ _ _ _)
  refine MT (fun W hS => by rw [Q7l (Q1f hV)] at hS; exact hS) ?_
  refine MZ fun W hS => ?_
  by_cases hy : Y = V % 2 ^ 255
  ·
   have J := Lib.hid hy
   clear _f hy
   go_upto_region 4 with fail
   refine RS hS ?_
   clear hS
   refine ML 0 ?_
   refine MC (v := .agg (J0 .u8 32 (Q3 Y))) (fun W hS => Ω W (Q8 hG hS.ext).1) ?_
   refine ML 2 ?_
   rw [decide_eq_true J.out] at μ
   refine MW ?_ (v := .bool false) (hv := fun _ => J3p ((μ) _) (by kernel_rfl) rfl rfl rfl)
   refine MZx fun W hS => ?_
   go_upto_region 6 with fail
   refine RL hS ?_
   clear hS
   refine ML 0 ?_
   refine ML 0 ?_
   refine MC (v := .agg (c4 N2)) (fun W hS => ε W (Q8 hG hS.ext).1) ?_
   refine MN (z := c4 0) (t := 155) ?_
   intro J1
   refine MR 0 ?_ 
   refine MZ fun W hS => ?_
   have α : R = dX Y := by unfold dX dU dV; rw [HR.out, ρ.out, ξ.out, χ.out, ω.out]
   have β : B = dB Y := by unfold dB dU dV; rw [HB.out, ρ.out, ξ.out, χ.out, ω.out]
   have M := Lib.hid α
   have D3 := Lib.hid β
   clear α β
   by_cases hb : B = true
   ·
    have κ := Lib.hid hb
    clear _f hb
    go_upto_region 7 with fail
    refine RXn 12 [⟨12, 7, c4 0, 155⟩] hS ?_ (by simp only [List.forall_mem_cons]; exact ⟨⟨_, rfl, rfl, rfl, fun _ _ => by kernel_rfl⟩, fun _ h => by cases h⟩)
    clear hS
    refine ML 0 ?_
    refine MC (v := .agg (c4 1)) (fun W hS => J3c W) ?_
    refine MC (v := .agg (c4 N3)) (fun W hS => θ W (Q8 hG hS.ext).1) ?_
    refine MF (v := .agg (c4 DD)) (fun W hS => J2e rfl rfl ((Q8 hG hS.ext).2.2.1 hc) (by kernel_rfl) (by kernel_rfl)) ?_
    refine ML 0 ?_
    refine MC (v := .agg (c4 N4)) (fun W hS => ζ W (Q8 hG hS.ext).1) ?_
    refine MC (v := .agg (c4 1)) (fun W hS => J3c W) ?_
    refine MC (v := .agg (c4 N5)) (fun W hS => η W (Q8 hG hS.ext).1) ?_
    rw [κ.out] at N
    refine MC (v := .tuple #[.agg (c4 R), .bool true]) (fun W hS => N W (Q8 hG hS.ext).1 ((Q8 hG hS.ext).2.1 hc)) ?_
    refine MV ?_
    refine MV ?_
    refine MW ?_ (v := .bool true)
    refine MZB fun M0 => ?_
    refine MR 0 ?_ 
    refine MW ?_ (v := .bool true)
    refine MZn fun W hS => ?_
    by_cases h0 : R = 0
    ·
     exact absurd (by rw [← J.out, ← M.out]; exact h0) (Y5b hok ht)
    have D6 := Lib.hid h0
    clear _f h0
    go_upto_region 8 with fail
    refine RL hS ?_
    clear hS
    refine MW ?_ (v := .bool true)
    refine MW ?_ (v := .bool false)
    refine MW ?_ (v := .bool false)
    refine MW ?_ (v := .bool true)
    refine MW ?_ (v := .bool true)
    refine ML 0 ?_
    refine MW ?_ (v := .agg (c4 0)) (hv := by intro W; kernel_rfl)
    rw [decide_eq_false D6.out] at Ψ
    refine MC (v := .bool false) (fun W hS => Ψ W (Q8 hG hS.ext).1) ?_
    refine MW ?_ (v := .bool false)
    refine MW ?_ (v := .bool false)
    refine MZ fun W hS => ?_
    by_cases ho : R % 2 = 1
    ·
     have D := Lib.hid ho
     clear _f ho
     go_upto_region 10 with fail
     refine RL hS ?_
     clear hS
     refine ML 0 ?_
     rw [decide_eq_true D.out] at Z
     refine MC (v := .bool true) (fun W hS => Z W (Q8 hG hS.ext).1) ?_
     refine MW ?_ (v := .bool true)
     refine MW ?_ (v := .bool false) (hv := by intro W; first | rfl | (go_simp; done))
     refine MZ fun W hS => ?_
     have G : R = X0 := U.out.trans (by unfold dXf Q0y; rw [← M.out, Nat.mod_eq_of_lt lR, decide_eq_true D.out, ht]; exact if_pos rfl) |>.symm
     rw [G] at hS
     clear G
     go_upto_region 12 with fail
     refine RL hS ?_
     clear hS
     refine ML 0 ?_
     refine ML 2 ?_
     refine MC (v := .agg (p4 X0 Y 1 T)) (fun W hS => Γ W (Q8 hG hS.ext)) ?_
     refine MR 3 ?_ 
     refine MW ?_ (v := .int .i64 0)
     refine MZ fun W hS => ?_
     go_wp2
     exact bodyPost_ret (J08 rfl rfl rfl (hS.blk (i := 3) rfl) (by kernel_rfl) (by kernel_rfl)) rfl ⟨rfl, hS.ext⟩
    have D := Lib.hid ho
    clear _f ho
    go_upto_region 10 with fail
    refine RL hS ?_
    clear hS
    refine ML 0 ?_
    rw [decide_eq_false D.out] at Z
    refine MC (v := .bool false) (fun W hS => Z W (Q8 hG hS.ext).1) ?_
    refine MW ?_ (v := .bool true)
    refine MW ?_ (v := .bool true) (hv := by intro W; first | rfl | (go_simp; done))
    refine MZ fun W hS => ?_
    go_upto_region 11 with fail
    refine RL hS ?_
    clear hS
    refine ML 0 ?_
    refine MC (v := .agg (c4 N8)) (fun W hS => D0 W (Q8 hG hS.ext).1) ?_
    refine MR 0 ?_ 
    refine MZ fun W hS => ?_
    have G : N8 = X0 := U.out.trans (by unfold dXf Q0y; rw [← M.out, Nat.mod_eq_of_lt lR, decide_eq_false D.out, ht, G5.out, Nat.mod_eq_of_lt lR]; exact if_neg (by decide)) |>.symm
    rw [G] at hS
    clear G
    go_upto_region 12 with fail
    refine RL hS ?_
    clear hS
    refine ML 0 ?_
    refine ML 2 ?_
    refine MC (v := .agg (p4 X0 Y 1 T)) (fun W hS => Γ W (Q8 hG hS.ext)) ?_
    refine MR 3 ?_ 
    refine MW ?_ (v := .int .i64 0)
    refine MZ fun W hS => ?_
    go_wp2
    exact bodyPost_ret (J08 rfl rfl rfl (hS.blk (i := 3) rfl) (by kernel_rfl) (by kernel_rfl)) rfl ⟨rfl, hS.ext⟩
   exact absurd (by rw [D3.out, J.out]; exact Z1f hok) hb
  exact absurd (HY.out.trans (Nat.mod_eq_of_lt (Q4c hok))) hy
 go_upto_region 1 with fail
 refine RL hS ?_
 clear hS
 refine MW ?_ (v := .pointer (some ⟨S, 0 + 31, none⟩)) (hv := fun _ => J7 (m := 32) (by decide) (by decide) Tryz.underlying23 (by kernel_rfl) rfl rfl rfl)
 refine MG 1 ?_ (j := 0 + 31) (v := .int .u8 ((Q3 V) 31)) (hj := by rw [Nat.zero_add]; exact J4 _ _ _ _ (by decide))
 refine MW ?_ (v := .int .u8 0) (hv := by intro W; exact J30 (Z1h hV ht) rfl rfl rfl)
 refine MW ?_ (v := .bool false)
 refine MW ?_ (v := .bool false)
 refine MZ fun W hS => ?_
 go_upto_region 2 with fail
 refine RL hS ?_
 clear hS
 refine ML 1 ?_
 refine MC (v := .agg (c4 Y)) (fun W hS => ν W (Q8 hG hS.ext).1) ?_
 refine MN (z := c4 0) (t := 155) ?_
 intro J5
 refine MR 0 ?_ 
 refine MZ fun W hS => ?_
 go_upto_region 3 with fail
 refine RL hS ?_
 clear hS
 refine MW ?_ (v := .pointer (some ⟨S, 0 + 31, none⟩)) (hv := fun _ => J7 (m := 32) (by decide) (by decide) Tryz.underlying23 (by kernel_rfl) rfl rfl rfl)
 refine MG 2 ?_ (j := 0 + 31) (v := .int .u8 ((Q3 V) 31)) (hj := by rw [Nat.zero_add]; exact J4 _ _ _ _ (by decide))
 refine MW ?_ (v := .int .u8 (bits .andNot .u8 (Q3 V 31) 128)) (hv := by intro W; exact J85 rfl rfl rfl rfl)
 refine MW ?_ (v := .pointer (some ⟨S, 0 + 31, none⟩)) (hv := fun _ => J7 (m := 32) (by decide) (by decide) Tryz.underlying23 (by kernel_rfl) rfl rfl rfl)
 refine MP 2 (v := .int .u8 (bits .andNot .u8 (Q3 V 31) 128)) (cs' := J0 .u8 32 (upd (Q3 V) 31 (bits .andNot .u8 (Q3 V 31) 128))) ?_ (hs := by rw [J2, Nat.zero_add]; decide) (hc := by rw [Nat.zero_add]; exact V6 _ _ _ _ _)
 refine MT (fun W hS => by rw [Q7l (Q1f hV)] at hS; exact hS) ?_
 refine MZ fun W hS => ?_
 by_cases hy : Y = V % 2 ^ 255
 ·
  have J := Lib.hid hy
  clear _f hy
  go_upto_region 4 with fail
  refine RS hS ?_
  clear hS
  refine ML 0 ?_
  refine MC (v := .agg (J0 .u8 32 (Q3 Y))) (fun W hS => Ω W (Q8 hG hS.ext).1) ?_
  refine ML 2 ?_
  rw [decide_eq_true J.out] at μ
  refine MW ?_ (v := .bool false) (hv := fun _ => J3p ((μ) _) (by kernel_rfl) rfl rfl rfl)
  refine MZx fun W hS => ?_
  go_upto_region 6 with fail
  refine RL hS ?_
  clear hS
  refine ML 0 ?_
  refine ML 0 ?_
  refine MC (v := .agg (c4 N2)) (fun W hS => ε W (Q8 hG hS.ext).1) ?_
  refine MN (z := c4 0) (t := 155) ?_
  intro J8
  refine MR 0 ?_ 
  refine MZ fun W hS => ?_
  have α : R = dX Y := by unfold dX dU dV; rw [HR.out, ρ.out, ξ.out, χ.out, ω.out]
  have β : B = dB Y := by unfold dB dU dV; rw [HB.out, ρ.out, ξ.out, χ.out, ω.out]
  have M := Lib.hid α
  have D3 := Lib.hid β
  clear α β
  by_cases hb : B = true
  ·
   have κ := Lib.hid hb
   clear _f hb
   go_upto_region 7 with fail
   refine RXn 12 [⟨12, 7, c4 0, 155⟩] hS ?_ (by simp only [List.forall_mem_cons]; exact ⟨⟨_, rfl, rfl, rfl, fun _ _ => by kernel_rfl⟩, fun _ h => by cases h⟩)
   clear hS
   refine ML 0 ?_
   refine MC (v := .agg (c4 1)) (fun W hS => J3c W) ?_
   refine MC (v := .agg (c4 N3)) (fun W hS => θ W (Q8 hG hS.ext).1) ?_
   refine MF (v := .agg (c4 DD)) (fun W hS => J2e rfl rfl ((Q8 hG hS.ext).2.2.1 hc) (by kernel_rfl) (by kernel_rfl)) ?_
   refine ML 0 ?_
   refine MC (v := .agg (c4 N4)) (fun W hS => ζ W (Q8 hG hS.ext).1) ?_
   refine MC (v := .agg (c4 1)) (fun W hS => J3c W) ?_
   refine MC (v := .agg (c4 N5)) (fun W hS => η W (Q8 hG hS.ext).1) ?_
   rw [κ.out] at N
   refine MC (v := .tuple #[.agg (c4 R), .bool true]) (fun W hS => N W (Q8 hG hS.ext).1 ((Q8 hG hS.ext).2.1 hc)) ?_
   refine MV ?_
   refine MV ?_
   refine MW ?_ (v := .bool true)
   refine MZB fun M1 => ?_
   refine MR 0 ?_ 
   refine MW ?_ (v := .bool true)
   refine MZn fun W hS => ?_
   go_upto_region 8 with fail
   refine RL hS ?_
   clear hS
   refine MW ?_ (v := .bool true)
   refine MW ?_ (v := .bool false)
   refine MW ?_ (v := .bool false)
   refine MW ?_ (v := .bool false)
   refine MW ?_ (v := .bool false)
   refine MS ?_
   refine MS ?_
   refine MS ?_
   refine MW ?_ (v := .bool false)
   refine MW ?_ (v := .bool false)
   refine MZ fun W hS => ?_
   by_cases ho : R % 2 = 1
   ·
    have D := Lib.hid ho
    clear _f ho
    go_upto_region 10 with fail
    refine RL hS ?_
    clear hS
    refine ML 0 ?_
    rw [decide_eq_true D.out] at δ
    refine MC (v := .bool true) (fun W hS => δ W (Q8 hG hS.ext).1) ?_
    refine MW ?_ (v := .bool false)
    refine MW ?_ (v := .bool true) (hv := by intro W; first | rfl | (go_simp; done))
    refine MZ fun W hS => ?_
    go_upto_region 11 with fail
    refine RL hS ?_
    clear hS
    refine ML 0 ?_
    refine MC (v := .agg (c4 N7)) (fun W hS => D2 W (Q8 hG hS.ext).1) ?_
    refine MR 0 ?_ 
    refine MZ fun W hS => ?_
    have G : N7 = X0 := U.out.trans (by unfold dXf Q0y; rw [← M.out, Nat.mod_eq_of_lt lR, decide_eq_true D.out, Bool.eq_false_iff.2 ht, G4.out, Nat.mod_eq_of_lt lR]; exact if_neg (by decide)) |>.symm
    rw [G] at hS
    clear G
    go_upto_region 12 with fail
    refine RL hS ?_
    clear hS
    refine ML 0 ?_
    refine ML 2 ?_
    refine MC (v := .agg (p4 X0 Y 1 T)) (fun W hS => Γ W (Q8 hG hS.ext)) ?_
    refine MR 3 ?_ 
    refine MW ?_ (v := .int .i64 0)
    refine MZ fun W hS => ?_
    go_wp2
    exact bodyPost_ret (J08 rfl rfl rfl (hS.blk (i := 3) rfl) (by kernel_rfl) (by kernel_rfl)) rfl ⟨rfl, hS.ext⟩
   have D := Lib.hid ho
   clear _f ho
   go_upto_region 10 with fail
   refine RL hS ?_
   clear hS
   refine ML 0 ?_
   rw [decide_eq_false D.out] at δ
   refine MC (v := .bool false) (fun W hS => δ W (Q8 hG hS.ext).1) ?_
   refine MW ?_ (v := .bool false)
   refine MW ?_ (v := .bool false) (hv := by intro W; first | rfl | (go_simp; done))
   refine MZ fun W hS => ?_
   have G : R = X0 := U.out.trans (by unfold dXf Q0y; rw [← M.out, Nat.mod_eq_of_lt lR, decide_eq_false D.out, Bool.eq_false_iff.2 ht]; exact if_pos rfl) |>.symm
   rw [G] at hS
   clear G
   go_upto_region 12 with fail
   refine RL hS ?_
   clear hS
   refine ML 0 ?_
   refine ML 2 ?_
   refine MC (v := .agg (p4 X0 Y 1 T)) (fun W hS => Γ W (Q8 hG hS.ext)) ?_
   refine MR 3 ?_ 
   refine MW ?_ (v := .int .i64 0)
   refine MZ fun W hS => ?_
   go_wp2
   exact bodyPost_ret (J08 rfl rfl rfl (hS.blk (i := 3) rfl) (by kernel_rfl) (by kernel_rfl)) rfl ⟨rfl, hS.ext⟩
  exact absurd (by rw [D3.out, J.out]; exact Z1f hok) hb
 exact absurd (HY.out.trans (Nat.mod_eq_of_lt (Q4c hok))) hy
end
end Go.Proofs.YtejkmhgkkibafaaGreatDoor.S8
