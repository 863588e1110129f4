/- Contracts and plain laws that superChecks_holds rests on. Conditions: the variables' cells hold the numbers of the program's text. -/
import Derived.Test.YtejkmhgkkibafaaGreatDoorJ6
import Derived.Test.YtejkmhgkkibafaaGreatDoorJ3
import Derived.Test.YtejkmhgkkibafaaGreatDoorJ8
import Derived.Test.YtejkmhgkkibafaaGreatDoorJ19
open Go.RowKit
set_option maxRecDepth 100000
set_option linter.unusedSimpArgs false
set_option linter.unusedVariables false
namespace Go.Proofs.YtejkmhgkkibafaaGreatDoor.S8
section
set_option maxHeartbeats 1500000
attribute [local irreducible] wpList J01 wpX
variable {kn : Kn}
theorem Q4c {V : Nat} (h : dOk V = true) : V % 2 ^ 255 < PP := by
 unfold dOk at h; simp only [Bool.and_eq_true, decide_eq_true_eq] at h; exact h.1.1
theorem Z1f {V : Nat} (h : dOk V = true) : dB (V % 2 ^ 255) = true := by
 unfold dOk at h; simp only [Bool.and_eq_true] at h; exact h.1.2
theorem Y5b {V : Nat} (h : dOk V = true) (ht : top V = true) : ¬ dX (V % 2 ^ 255) = 0 := by
 unfold dOk at h; intro h0
 simp [ht, h0] at h
theorem J9n {V : Nat} (h1 : V % 2 ^ 255 < PP) (h2 : dB (V % 2 ^ 255) = true) (h3 : ¬ (top V = true ∧ dX (V % 2 ^ 255) = 0)) : dOk V = true := by
 unfold dOk
 rw [decide_eq_true h1, h2]
 cases ht : top V
 ·
  rfl
 have : ¬ dX (V % 2 ^ 255) = 0 := fun h0 => h3 ⟨ht, h0⟩
 simp [this]
theorem J9o (V : Nat) : V % 2 ^ 255 < 2 ^ 256 := Nat.lt_trans (Nat.mod_lt _ (by decide)) (by decide)

theorem Z6z (y : Nat) (o : Bool) : dXf y o < PP := by
 unfold dXf
 split
 ·
  exact Q9c y
 exact J23 _
theorem Y7a (hc : kn.c) {V : Nat} (hV : V < 2 ^ 256) (hok : dOk V = false) :
  ∀ w, GE kn w → Calls Tryz.prog 106 #[.agg (J0 .u8 32 (Q3 V))] w fun e w' => K6 (.tuple #[.agg (p4 0 0 0 0), .int .i64 15]) w w' e := by
 have ρ := Y58 (Q3 V) (J38 V)
 rw [J4e, show 8 * 32 = 256 by decide, Nat.mod_eq_of_lt hV] at ρ
 obtain ⟨Y, hY⟩ := V0 (V % 2 ^ 255 % PP)
 rw [← hY] at ρ
 have lY := bpp hY
 have HY := Lib.hid hY
 clear hY
 have γ := Q2p Y (Z5 lY)
 rw [Nat.mod_eq_of_lt lY] at γ
 have M := Z10 Y (V % 2 ^ 255) (Q1d lY) (J9o V)
 have δ := K0 Y Y (Z5 lY) (Z5 lY)
 obtain ⟨N2, ζ⟩ := V0 (Y * Y % PP)
 rw [← ζ] at δ
 have Δ := bpp ζ
 have τ := Z5 Δ
 have ν := Lib.hid ζ
 clear ζ
 have S := J7i N2 1 τ (by decide)
 obtain ⟨N3, ξ⟩ := V0 ((N2 + (PP - 1 % PP)) % PP)
 rw [← ξ] at S
 have Θ := bpp ξ
 have Ξ := Z5 Θ
 have μ := Lib.hid ξ
 clear ξ
 have T := K0 DD N2 Q7k τ
 obtain ⟨N4, θ⟩ := V0 (DD * N2 % PP)
 rw [← θ] at T
 have Γ := bpp θ
 have χ := Z5 Γ
 have η := Lib.hid θ
 clear θ
 have N := J4n N4 1 χ (by decide)
 obtain ⟨N5, ε⟩ := V0 ((N4 + 1) % PP)
 rw [← ε] at N
 have ω := bpp ε
 have ψ := Z5 ω
 have κ := Lib.hid ε
 clear ε
 have J := Z1b N3 N5 Ξ ψ
 obtain ⟨R, hR⟩ := V0 (rtR N3 N5)
 rw [← hR] at J
 have lR : R < PP := by rw [hR]; exact J9q _ _
 have HR := Lib.hid hR
 clear hR
 obtain ⟨B, hB⟩ := V0 (rtB N3 N5)
 rw [← hB] at J
 have HB := Lib.hid hB
 clear hB
 have Z := J6l R 0 (Z5 lR) (by decide)
 rw [Nat.mod_eq_of_lt lR, Nat.mod_eq_of_lt (by decide)] at Z
 intro w hG
 have hS := SH.nil [] w
 go_enter Tryz.func106, Tryz.ntmps106
 go_upto_region 0 with fail
 refine RL hS ?_
 clear hS
 refine MN (z := J0 .u8 32 (Q3 V)) (t := 23) ?_
 intro U
 refine MN (z := p4 0 0 0 0) (t := 157) ?_
 intro D2
 refine MW ?_ (v := .int .i64 0)
 refine MZ fun W hS => ?_
 by_cases ht : top V = true
 ·
  go_upto_region 1 with fail
  refine RL hS ?_
  clear hS
  refine MW ?_ (v := .pointer (some ⟨U, 0 + 31, none⟩)) (hv := fun _ => J7 (m := 32) (by decide) (by decide) Tryz.underlying23 (by kernel_rfl) rfl rfl rfl)
  refine MG 1 ?_ (j := 0 + 31) (v := .int .u8 ((Q3 V) 31)) (hj := by rw [Nat.zero_add]; exact J4 _ _ _ _ (by decide))
  refine MW ?_ (v := .int .u8 128) (hv := by intro W; exact J30 (Z1g hV ht) rfl rfl rfl)
  refine MW ?_ (v := .bool true)
  refine MW ?_ (v := .bool true)
  refine MZ fun W hS => ?_
  go_upto_region 2 with fail
  refine RL hS ?_
  clear hS
  refine ML 1 ?_
  refine MC (v := .agg (c4 Y)) (fun W hS => ρ W (Q8 hG hS.ext).1) ?_
  refine MN (z := c4 0) (t := 155) ?_
  intro D0
  refine MR 0 ?_ 
  refine MZ fun W hS => ?_
  go_upto_region 3 with fail
  refine RL hS ?_
  clear hS
  refine MW ?_ (v := .pointer (some ⟨U, 0 + 31, none⟩)) (hv := fun _ => J7 (m := 32) (by decide) (by decide) Tryz.underlying23 (by kernel_rfl) rfl rfl rfl)
  refine MG 2 ?_ (j := 0 + 31) (v := .int .u8 ((Q3 V) 31)) (hj := by rw [Nat.zero_add]; exact J4 _ _ _ _ (by decide))
  refine MW ?_ (v := .int .u8 (bits .andNot .u8 (Q3 V 31) 128)) (hv := by intro W; exact J85 rfl rfl rfl rfl)
  refine MW ?_ (v := .pointer (some ⟨U, 0 + 31, none⟩)) (hv := fun _ => J7 (m := 32) (by decide) (by decide) Tryz.underlying23 (by kernel_rfl) rfl rfl rfl)
  refine MP 2 (v := .int .u8 (bits .andNot .u8 (Q3 V 31) 128)) (cs' := J0 .u8 32 (upd (Q3 V) 31 (bits .andNot .u8 (Q3 V 31) 128))) ?_ (hs := by rw [J2, Nat.zero_add]; decide) (hc := by rw [Nat.zero_add]; exact V6 _ _ _ _ _)
  refine MT (fun W hS => by rw [Q7l (Q1f hV)] at hS; exact hS) ?_
  refine MZ fun W hS => ?_
  by_cases hy : Y = V % 2 ^ 255
  ·
   have D := Lib.hid hy
   clear _f hy
   go_upto_region 4 with fail
   refine RS hS ?_
   clear hS
   refine ML 0 ?_
   refine MC (v := .agg (J0 .u8 32 (Q3 Y))) (fun W hS => γ W (Q8 hG hS.ext).1) ?_
   refine ML 2 ?_
   rw [decide_eq_true D.out] at M
   refine MW ?_ (v := .bool false) (hv := fun _ => J3p ((M) _) (by kernel_rfl) rfl rfl rfl)
   refine MZx fun W hS => ?_
   go_upto_region 6 with fail
   refine RL hS ?_
   clear hS
   refine ML 0 ?_
   refine ML 0 ?_
   refine MC (v := .agg (c4 N2)) (fun W hS => δ W (Q8 hG hS.ext).1) ?_
   refine MN (z := c4 0) (t := 155) ?_
   intro D1
   refine MR 0 ?_ 
   refine MZ fun W hS => ?_
   have α : R = dX Y := by unfold dX dU dV; rw [HR.out, μ.out, κ.out, η.out, ν.out]
   have β : B = dB Y := by unfold dB dU dV; rw [HB.out, μ.out, κ.out, η.out, ν.out]
   have φ := Lib.hid α
   have σ := Lib.hid β
   clear α β
   by_cases hb : B = true
   ·
    have G := Lib.hid hb
    clear _f hb
    go_upto_region 7 with fail
    refine RXn 12 [⟨12, 7, c4 0, 155⟩] hS ?_ (by simp only [List.forall_mem_cons]; exact ⟨⟨_, rfl, rfl, rfl, fun _ _ => by kernel_rfl⟩, fun _ h => by cases h⟩)
    clear hS
    refine ML 0 ?_
    refine MC (v := .agg (c4 1)) (fun W hS => J3c W) ?_
    refine MC (v := .agg (c4 N3)) (fun W hS => S W (Q8 hG hS.ext).1) ?_
    refine MF (v := .agg (c4 DD)) (fun W hS => J2e rfl rfl ((Q8 hG hS.ext).2.2.1 hc) (by kernel_rfl) (by kernel_rfl)) ?_
    refine ML 0 ?_
    refine MC (v := .agg (c4 N4)) (fun W hS => T W (Q8 hG hS.ext).1) ?_
    refine MC (v := .agg (c4 1)) (fun W hS => J3c W) ?_
    refine MC (v := .agg (c4 N5)) (fun W hS => N W (Q8 hG hS.ext).1) ?_
    rw [G.out] at J
    refine MC (v := .tuple #[.agg (c4 R), .bool true]) (fun W hS => J W (Q8 hG hS.ext).1 ((Q8 hG hS.ext).2.1 hc)) ?_
    refine MV ?_
    refine MV ?_
    refine MW ?_ (v := .bool true)
    refine MZB fun D5 => ?_
    refine MR 0 ?_ 
    refine MW ?_ (v := .bool true)
    refine MZn fun W hS => ?_
    by_cases h0 : R = 0
    ·
     have X := Lib.hid h0
     clear _f h0
     go_upto_region 8 with fail
     refine RL hS ?_
     clear hS
     refine MW ?_ (v := .bool true)
     refine MW ?_ (v := .bool false)
     refine MW ?_ (v := .bool false)
     refine MW ?_ (v := .bool true)
     refine MW ?_ (v := .bool true)
     refine ML 0 ?_
     refine MW ?_ (v := .agg (c4 0)) (hv := by intro W; kernel_rfl)
     rw [decide_eq_true X.out] at Z
     refine MC (v := .bool true) (fun W hS => Z W (Q8 hG hS.ext).1) ?_
     refine MW ?_ (v := .bool true)
     refine MW ?_ (v := .bool true)
     refine MZ fun W hS => ?_
     go_upto_region 9 with fail
     refine RL hS ?_
     clear hS
     refine MW ?_ (v := .agg (p4 0 0 0 0)) (hv := by intro W; kernel_rfl)
     refine MR 3 ?_ 
     refine MW ?_ (v := .int .i64 15)
     refine MZ fun W hS => ?_
     go_wp2
     exact bodyPost_ret (J08 rfl rfl rfl (hS.blk (i := 3) rfl) (by kernel_rfl) (by kernel_rfl)) rfl ⟨rfl, hS.ext⟩
    have X := Lib.hid h0
    clear _f h0
    go_upto_region 8 with fail
    refine RL hS ?_
    clear hS
    refine MW ?_ (v := .bool true)
    refine MW ?_ (v := .bool false)
    refine MW ?_ (v := .bool false)
    refine MW ?_ (v := .bool true)
    refine MW ?_ (v := .bool true)
    refine ML 0 ?_
    refine MW ?_ (v := .agg (c4 0)) (hv := by intro W; kernel_rfl)
    rw [decide_eq_false X.out] at Z
    refine MC (v := .bool false) (fun W hS => Z W (Q8 hG hS.ext).1) ?_
    refine MW ?_ (v := .bool false)
    refine MW ?_ (v := .bool false)
    refine MZ fun W hS => ?_
    exact absurd (J9n (D.out ▸ lY) (by rw [← D.out, ← σ.out]; exact G.out) (fun h => X.out (by rw [φ.out, D.out]; exact h.2))) (by rw [hok]; decide)
   rw [Bool.not_eq_true] at hb _f
   have G := Lib.hid hb
   clear _f hb
   go_upto_region 7 with fail
   refine RXn 12 [⟨12, 7, c4 0, 155⟩] hS ?_ (by simp only [List.forall_mem_cons]; exact ⟨⟨_, rfl, rfl, rfl, fun _ _ => by kernel_rfl⟩, fun _ h => by cases h⟩)
   clear hS
   refine ML 0 ?_
   refine MC (v := .agg (c4 1)) (fun W hS => J3c W) ?_
   refine MC (v := .agg (c4 N3)) (fun W hS => S W (Q8 hG hS.ext).1) ?_
   refine MF (v := .agg (c4 DD)) (fun W hS => J2e rfl rfl ((Q8 hG hS.ext).2.2.1 hc) (by kernel_rfl) (by kernel_rfl)) ?_
   refine ML 0 ?_
   refine MC (v := .agg (c4 N4)) (fun W hS => T W (Q8 hG hS.ext).1) ?_
   refine MC (v := .agg (c4 1)) (fun W hS => J3c W) ?_
   refine MC (v := .agg (c4 N5)) (fun W hS => N W (Q8 hG hS.ext).1) ?_
   rw [G.out] at J
   refine MC (v := .tuple #[.agg (c4 R), .bool false]) (fun W hS => J W (Q8 hG hS.ext).1 ((Q8 hG hS.ext).2.1 hc)) ?_
   refine MV ?_
   refine MV ?_
   refine MW ?_ (v := .bool false)
   refine MZB fun D6 => ?_
   refine MR 0 ?_ 
   refine MW ?_ (v := .bool false)
   refine MZn fun W hS => ?_
   go_upto_region 8 with fail
   refine RL hS ?_
   clear hS
   refine MW ?_ (v := .bool false)
   refine MW ?_ (v := .bool true)
   refine MW ?_ (v := .bool true)
   refine MS ?_
   refine MS ?_
   refine MS ?_
   refine MS ?_
   refine MS ?_
   refine MS ?_
   refine MW ?_ (v := .bool true)
   refine MZ fun W hS => ?_
   go_upto_region 9 with fail
   refine RL hS ?_
   clear hS
   refine MW ?_ (v := .agg (p4 0 0 0 0)) (hv := by intro W; kernel_rfl)
   refine MR 3 ?_ 
   refine MW ?_ (v := .int .i64 15)
   refine MZ fun W hS => ?_
   go_wp2
   exact bodyPost_ret (J08 rfl rfl rfl (hS.blk (i := 3) rfl) (by kernel_rfl) (by kernel_rfl)) rfl ⟨rfl, hS.ext⟩
  have D := Lib.hid hy
  clear _f hy
  go_upto_region 4 with fail
  refine RS hS ?_
  clear hS
  refine ML 0 ?_
  refine MC (v := .agg (J0 .u8 32 (Q3 Y))) (fun W hS => γ W (Q8 hG hS.ext).1) ?_
  refine ML 2 ?_
  rw [decide_eq_false D.out] at M
  refine MW ?_ (v := .bool true) (hv := fun _ => J3p ((M) _) (by kernel_rfl) rfl rfl rfl)
  refine MZx fun W hS => ?_
  go_upto_region 5 with fail
  refine RL hS ?_
  clear hS
  refine MW ?_ (v := .agg (p4 0 0 0 0)) (hv := by intro W; kernel_rfl)
  refine MR 1 ?_ 
  refine MW ?_ (v := .int .i64 15)
  refine MZ fun W hS => ?_
  go_wp2
  exact bodyPost_ret (J08 rfl rfl rfl (hS.blk (i := 1) rfl) (by kernel_rfl) (by kernel_rfl)) rfl ⟨rfl, hS.ext⟩
 go_upto_region 1 with fail
 refine RL hS ?_
 clear hS
 refine MW ?_ (v := .pointer (some ⟨U, 0 + 31, none⟩)) (hv := fun _ => J7 (m := 32) (by decide) (by decide) Tryz.underlying23 (by kernel_rfl) rfl rfl rfl)
 refine MG 1 ?_ (j := 0 + 31) (v := .int .u8 ((Q3 V) 31)) (hj := by rw [Nat.zero_add]; exact J4 _ _ _ _ (by decide))
 refine MW ?_ (v := .int .u8 0) (hv := by intro W; exact J30 (Z1h hV ht) rfl rfl rfl)
 refine MW ?_ (v := .bool false)
 refine MW ?_ (v := .bool false)
 refine MZ fun W hS => ?_
 go_upto_region 2 with fail
 refine RL hS ?_
 clear hS
 refine ML 1 ?_
 refine MC (v := .agg (c4 Y)) (fun W hS => ρ W (Q8 hG hS.ext).1) ?_
 refine MN (z := c4 0) (t := 155) ?_
 intro D3
 refine MR 0 ?_ 
 refine MZ fun W hS => ?_
 go_upto_region 3 with fail
 refine RL hS ?_
 clear hS
 refine MW ?_ (v := .pointer (some ⟨U, 0 + 31, none⟩)) (hv := fun _ => J7 (m := 32) (by decide) (by decide) Tryz.underlying23 (by kernel_rfl) rfl rfl rfl)
 refine MG 2 ?_ (j := 0 + 31) (v := .int .u8 ((Q3 V) 31)) (hj := by rw [Nat.zero_add]; exact J4 _ _ _ _ (by decide))
 refine MW ?_ (v := .int .u8 (bits .andNot .u8 (Q3 V 31) 128)) (hv := by intro W; exact J85 rfl rfl rfl rfl)
 refine MW ?_ (v := .pointer (some ⟨U, 0 + 31, none⟩)) (hv := fun _ => J7 (m := 32) (by decide) (by decide) Tryz.underlying23 (by kernel_rfl) rfl rfl rfl)
 refine MP 2 (v := .int .u8 (bits .andNot .u8 (Q3 V 31) 128)) (cs' := J0 .u8 32 (upd (Q3 V) 31 (bits .andNot .u8 (Q3 V 31) 128))) ?_ (hs := by rw [J2, Nat.zero_add]; decide) (hc := by rw [Nat.zero_add]; exact V6 _ _ _ _ _)
 refine MT (fun W hS => by rw [Q7l (Q1f hV)] at hS; exact hS) ?_
 refine MZ fun W hS => ?_
 by_cases hy : Y = V % 2 ^ 255
 ·
  have D := Lib.hid hy
  clear _f hy
  go_upto_region 4 with fail
  refine RS hS ?_
  clear hS
  refine ML 0 ?_
  refine MC (v := .agg (J0 .u8 32 (Q3 Y))) (fun W hS => γ W (Q8 hG hS.ext).1) ?_
  refine ML 2 ?_
  rw [decide_eq_true D.out] at M
  refine MW ?_ (v := .bool false) (hv := fun _ => J3p ((M) _) (by kernel_rfl) rfl rfl rfl)
  refine MZx fun W hS => ?_
  go_upto_region 6 with fail
  refine RL hS ?_
  clear hS
  refine ML 0 ?_
  refine ML 0 ?_
  refine MC (v := .agg (c4 N2)) (fun W hS => δ W (Q8 hG hS.ext).1) ?_
  refine MN (z := c4 0) (t := 155) ?_
  intro Ω
  refine MR 0 ?_ 
  refine MZ fun W hS => ?_
  have α : R = dX Y := by unfold dX dU dV; rw [HR.out, μ.out, κ.out, η.out, ν.out]
  have β : B = dB Y := by unfold dB dU dV; rw [HB.out, μ.out, κ.out, η.out, ν.out]
  have φ := Lib.hid α
  have σ := Lib.hid β
  clear α β
  by_cases hb : B = true
  ·
   have G := Lib.hid hb
   clear _f hb
   go_upto_region 7 with fail
   refine RXn 12 [⟨12, 7, c4 0, 155⟩] hS ?_ (by simp only [List.forall_mem_cons]; exact ⟨⟨_, rfl, rfl, rfl, fun _ _ => by kernel_rfl⟩, fun _ h => by cases h⟩)
   clear hS
   refine ML 0 ?_
   refine MC (v := .agg (c4 1)) (fun W hS => J3c W) ?_
   refine MC (v := .agg (c4 N3)) (fun W hS => S W (Q8 hG hS.ext).1) ?_
   refine MF (v := .agg (c4 DD)) (fun W hS => J2e rfl rfl ((Q8 hG hS.ext).2.2.1 hc) (by kernel_rfl) (by kernel_rfl)) ?_
   refine ML 0 ?_
   refine MC (v := .agg (c4 N4)) (fun W hS => T W (Q8 hG hS.ext).1) ?_
   refine MC (v := .agg (c4 1)) (fun W hS => J3c W) ?_
   refine MC (v := .agg (c4 N5)) (fun W hS => N W (Q8 hG hS.ext).1) ?_
   rw [G.out] at J
   refine MC (v := .tuple #[.agg (c4 R), .bool true]) (fun W hS => J W (Q8 hG hS.ext).1 ((Q8 hG hS.ext).2.1 hc)) ?_
   refine MV ?_
   refine MV ?_
   refine MW ?_ (v := .bool true)
   refine MZB fun D4 => ?_
   refine MR 0 ?_ 
   refine MW ?_ (v := .bool true)
   refine MZn fun W hS => ?_
   go_upto_region 8 with fail
   refine RL hS ?_
   clear hS
   refine MW ?_ (v := .bool true)
   refine MW ?_ (v := .bool false)
   refine MW ?_ (v := .bool false)
   refine MW ?_ (v := .bool false)
   refine MW ?_ (v := .bool false)
   refine MS ?_
   refine MS ?_
   refine MS ?_
   refine MW ?_ (v := .bool false)
   refine MW ?_ (v := .bool false)
   refine MZ fun W hS => ?_
   exact absurd (J9n (D.out ▸ lY) (by rw [← D.out, ← σ.out]; exact G.out) (fun h => ht h.1)) (by rw [hok]; decide)
  rw [Bool.not_eq_true] at hb _f
  have G := Lib.hid hb
  clear _f hb
  go_upto_region 7 with fail
  refine RXn 12 [⟨12, 7, c4 0, 155⟩] hS ?_ (by simp only [List.forall_mem_cons]; exact ⟨⟨_, rfl, rfl, rfl, fun _ _ => by kernel_rfl⟩, fun _ h => by cases h⟩)
  clear hS
  refine ML 0 ?_
  refine MC (v := .agg (c4 1)) (fun W hS => J3c W) ?_
  refine MC (v := .agg (c4 N3)) (fun W hS => S W (Q8 hG hS.ext).1) ?_
  refine MF (v := .agg (c4 DD)) (fun W hS => J2e rfl rfl ((Q8 hG hS.ext).2.2.1 hc) (by kernel_rfl) (by kernel_rfl)) ?_
  refine ML 0 ?_
  refine MC (v := .agg (c4 N4)) (fun W hS => T W (Q8 hG hS.ext).1) ?_
  refine MC (v := .agg (c4 1)) (fun W hS => J3c W) ?_
  refine MC (v := .agg (c4 N5)) (fun W hS => N W (Q8 hG hS.ext).1) ?_
  rw [G.out] at J
  refine MC (v := .tuple #[.agg (c4 R), .bool false]) (fun W hS => J W (Q8 hG hS.ext).1 ((Q8 hG hS.ext).2.1 hc)) ?_
  refine MV ?_
  refine MV ?_
  refine MW ?_ (v := .bool false)
  refine MZB fun Ψ => ?_
  refine MR 0 ?_ 
  refine MW ?_ (v := .bool false)
  refine MZn fun W hS => ?_
  go_upto_region 8 with fail
  refine RL hS ?_
  clear hS
  refine MW ?_ (v := .bool false)
  refine MW ?_ (v := .bool true)
  refine MW ?_ (v := .bool true)
  refine MS ?_
  refine MS ?_
  refine MS ?_
  refine MS ?_
  refine MS ?_
  refine MS ?_
  refine MW ?_ (v := .bool true)
  refine MZ fun W hS => ?_
  go_upto_region 9 with fail
  refine RL hS ?_
  clear hS
  refine MW ?_ (v := .agg (p4 0 0 0 0)) (hv := by intro W; kernel_rfl)
  refine MR 3 ?_ 
  refine MW ?_ (v := .int .i64 15)
  refine MZ fun W hS => ?_
  go_wp2
  exact bodyPost_ret (J08 rfl rfl rfl (hS.blk (i := 3) rfl) (by kernel_rfl) (by kernel_rfl)) rfl ⟨rfl, hS.ext⟩
 have D := Lib.hid hy
 clear _f hy
 go_upto_region 4 with fail
 refine RS hS ?_
 clear hS
 refine ML 0 ?_
 refine MC (v := .agg (J0 .u8 32 (Q3 Y))) (fun W hS => γ W (Q8 hG hS.ext).1) ?_
 refine ML 2 ?_
 rw [decide_eq_false D.out] at M
 refine MW ?_ (v := .bool true) (hv := fun _ => J3p ((M) _) (by kernel_rfl) rfl rfl rfl)
 refine MZx fun W hS => ?_
 go_upto_region 5 with fail
 refine RL hS ?_
 clear hS
 refine MW ?_ (v := .agg (p4 0 0 0 0)) (hv := by intro W; kernel_rfl)
 refine MR 1 ?_ 
 refine MW ?_ (v := .int .i64 15)
 refine MZ fun W hS => ?_
 go_wp2
 exact bodyPost_ret (J08 rfl rfl rfl (hS.blk (i := 1) rfl) (by kernel_rfl) (by kernel_rfl)) rfl ⟨rfl, hS.ext⟩
end

section
set_option maxHeartbeats 1500000
attribute [local irreducible] wpList J01 wpX
variable {kn : Kn}

theorem Y7c (hc : kn.c) {V : Nat} (hV : V < 2 ^ 256) (hok : dOk V = true) :
  ∃ X T, RN X (V % 2 ^ 255) 1 T (dPt V) ∧ ∀ w, GE kn w → Calls Tryz.prog 106 #[.agg (J0 .u8 32 (Q3 V))] w fun e w' => K6 (.tuple #[.agg (p4 X (V % 2 ^ 255) 1 T), .int .i64 0]) w w' e := by
 have Δ := Y58 (Q3 V) (J38 V)
 rw [J4e, show 8 * 32 = 256 by decide, Nat.mod_eq_of_lt hV] at Δ
 obtain ⟨Y, hY⟩ := V0 (V % 2 ^ 255 % PP)
 rw [← hY] at Δ
 have lY := bpp hY
 have HY := Lib.hid hY
 clear hY
 have D3 := Q2p Y (Z5 lY)
 rw [Nat.mod_eq_of_lt lY] at D3
 have σ := Z10 Y (V % 2 ^ 255) (Q1d lY) (J9o V)
 have ε := K0 Y Y (Z5 lY) (Z5 lY)
 obtain ⟨N2, ν⟩ := V0 (Y * Y % PP)
 rw [← ν] at ε
 have D8 := bpp ν
 have D5 := Z5 D8
 have ω := Lib.hid ν
 clear ν
 have ζ := J7i N2 1 D5 (by decide)
 obtain ⟨N3, ξ⟩ := V0 ((N2 + (PP - 1 % PP)) % PP)
 rw [← ξ] at ζ
 have G3 := bpp ξ
 have G5 := Z5 G3
 have ψ := Lib.hid ξ
 clear ξ
 have κ := K0 DD N2 Q7k D5
 obtain ⟨N4, τ⟩ := V0 (DD * N2 % PP)
 rw [← τ] at κ
 have G1 := bpp τ
 have D7 := Z5 G1
 have Θ := Lib.hid τ
 clear τ
 have θ := J4n N4 1 D7 (by decide)
 obtain ⟨N5, ρ⟩ := V0 ((N4 + 1) % PP)
 rw [← ρ] at θ
 have G0 := bpp ρ
 have G6 := Z5 G0
 have χ := Lib.hid ρ
 clear ρ
 have S := Z1b N3 N5 G5 G6
 obtain ⟨R, hR⟩ := V0 (rtR N3 N5)
 rw [← hR] at S
 have lR : R < PP := by rw [hR]; exact J9q _ _
 have HR := Lib.hid hR
 clear hR
 obtain ⟨B, hB⟩ := V0 (rtB N3 N5)
 rw [← hB] at S
 have HB := Lib.hid hB
 clear hB
 have Ψ := J6l R 0 (Z5 lR) (by decide)
 rw [Nat.mod_eq_of_lt lR, Nat.mod_eq_of_lt (by decide)] at Ψ
 have γ := Q98 R (Z5 lR)
 rw [Nat.mod_eq_of_lt lR] at γ
 have δ := Z71 hok
 have D2 : V % 2 ^ 255 = Y := by rw [HY.out]; exact (Nat.mod_eq_of_lt (Q4c hok)).symm
 unfold dPt at δ
 rw [D2] at δ
 have D4 := Lib.hid D2
 clear D2
 obtain ⟨X0, Γ⟩ := V0 (dXf Y (top V))
 have G4 : X0 < PP := by rw [Γ]; exact Z6z _ _
 rw [← Γ] at δ
 have β := Lib.hid Γ
 clear Γ
 obtain ⟨T, rT, μ⟩ := Y59 (kn := kn) G4 lY δ
 have D0 := J8u R (Z5 lR)
 obtain ⟨N8, φ⟩ := V0 ((PP - R % PP) % PP)
 rw [← φ] at D0
 have G7 := bpp φ
 have J5 := Z5 G7
 have G8 := Lib.hid φ
 clear φ
 have α := Q98 R (Z5 lR)
 rw [Nat.mod_eq_of_lt lR] at α
 have Ω := J8u R (Z5 lR)
 obtain ⟨N7, Ξ⟩ := V0 ((PP - R % PP) % PP)
 rw [← Ξ] at Ω
 have D9 := bpp Ξ
 have J9 := Z5 D9
 have G2 := Lib.hid Ξ
 clear Ξ
 refine ⟨X0, T, by unfold dPt; rw [D4.out, ← β.out]; exact rT, ?_⟩
 rw [D4.out]
 clear δ
 intro w hG
 have hS := SH.nil [] w
 go_enter Tryz.func106, Tryz.ntmps106
 go_upto_region 0 with fail
 refine RL hS ?_
 clear hS
 refine MN (z := J0 .u8 32 (Q3 V)) (t := 23) ?_
 intro M
 refine MN (z := p4 0 0 0 0) (t := 157) ?_
 intro J1
 refine MW ?_ (v := .int .i64 0)
 refine MZ fun W hS => ?_
 by_cases ht : top V = true
 ·
  go_upto_region 1 with fail
  refine RL hS ?_
  clear hS
  refine MW ?_ (v := .pointer (some ⟨M, 0 + 31, none⟩)) (hv := fun _ => J7 (m := 32) (by decide) (by decide) Tryz.underlying23 (by kernel_rfl) rfl rfl rfl)
  refine MG 1 ?_ (j := 0 + 31) (v := .int .u8 ((Q3 V) 31)) (hj := by rw [Nat.zero_add]; exact J4 _ _ _ _ (by decide))
  refine MW ?_ (v := .int .u8 128) (hv := by intro W; exact J30 (Z1g hV ht) rfl rfl rfl)
  refine MW ?_ (v := .bool true)
  refine MW ?_ (v := .bool true)
  refine MZ fun W hS => ?_
  go_upto_region 2 with fail
  refine RL hS ?_
  clear hS
  refine ML 1 ?_
  refine MC (v := .agg (c4 Y)) (fun W hS => Δ W (Q8 hG hS.ext).1) ?_
  refine MN (z := c4 0) (t := 155) ?_
  intro J3
  refine MR 0 ?_ 
  refine MZ fun W hS => ?_
  go_upto_region 3 with fail
  refine RL hS ?_
  clear hS
  refine MW ?_ (v := .pointer (some ⟨M, 0 + 31, none⟩)) (hv := fun _ => J7 (m := 32) (by decide) (by decide) Tryz.underlying23 (by kernel_rfl) rfl rfl rfl)
  refine MG 2 ?_ (j := 0 + 31) (v := .int .u8 ((Q3 V) 31)) (hj := by rw [Nat.zero_add]; exact J4 _ _ _ _ (by decide))
  refine MW ?_ (v := .int .u8 (bits .andNot .u8 (Q3 V 31) 128)) (hv := by intro W; exact J85 rfl rfl rfl rfl)
  refine MW ?_ (v := .pointer (some ⟨M, 0 + 31, none⟩)) (hv := fun _ => J7 (m := 32) (by decide) (by decide) Tryz.underlying23 (by kernel_rfl) rfl rfl rfl)
  refine MP 2 (v := .int .u8 (bits .andNot .u8 (Q3 V 31) 128)) (cs' := J0 .u8 32 (upd (Q3 V) 31 (bits .andNot .u8 (Q3 V 31) 128))) ?_ (hs := by rw [J2, Nat.zero_add]; decide) (hc := by rw [Nat.zero_add]; exact V6 _ _ _ _ _)
  refine MT (fun W hS => by rw [Q7l (Q1f hV)] at hS; exact hS) ?_
  refine MZ fun W hS => ?_
  by_cases hy : Y = V % 2 ^ 255
  ·
   have J := Lib.hid hy
   clear _f hy
   go_upto_region 4 with fail
   refine RS hS ?_
   clear hS
   refine ML 0 ?_
   refine MC (v := .agg (J0 .u8 32 (Q3 Y))) (fun W hS => D3 W (Q8 hG hS.ext).1) ?_
   refine ML 2 ?_
   rw [decide_eq_true J.out] at σ
   refine MW ?_ (v := .bool false) (hv := fun _ => J3p ((σ) _) (by kernel_rfl) rfl rfl rfl)
   refine MZx fun W hS => ?_
   go_upto_region 6 with fail
   refine RL hS ?_
   clear hS
   refine ML 0 ?_
   refine ML 0 ?_
   refine MC (v := .agg (c4 N2)) (fun W hS => ε W (Q8 hG hS.ext).1) ?_
   refine MN (z := c4 0) (t := 155) ?_
   intro J8
   refine MR 0 ?_ 
   refine MZ fun W hS => ?_
   have U : R = dX Y := by unfold dX dU dV; rw [HR.out, ψ.out, χ.out, Θ.out, ω.out]
   have Z : B = dB Y := by unfold dB dU dV; rw [HB.out, ψ.out, χ.out, Θ.out, ω.out]
   have N := Lib.hid U
   have D1 := Lib.hid Z
   clear U Z
   by_cases hb : B = true
   ·
    have η := Lib.hid hb
    clear _f hb
    go_upto_region 7 with fail
    refine RXn 12 [⟨12, 7, c4 0, 155⟩] hS ?_ (by simp only [List.forall_mem_cons]; exact ⟨⟨_, rfl, rfl, rfl, fun _ _ => by kernel_rfl⟩, fun _ h => by cases h⟩)
    clear hS
    refine ML 0 ?_
    refine MC (v := .agg (c4 1)) (fun W hS => J3c W) ?_
    refine MC (v := .agg (c4 N3)) (fun W hS => ζ W (Q8 hG hS.ext).1) ?_
    refine MF (v := .agg (c4 DD)) (fun W hS => J2e rfl rfl ((Q8 hG hS.ext).2.2.1 hc) (by kernel_rfl) (by kernel_rfl)) ?_
    refine ML 0 ?_
    refine MC (v := .agg (c4 N4)) (fun W hS => κ W (Q8 hG hS.ext).1) ?_
    refine MC (v := .agg (c4 1)) (fun W hS => J3c W) ?_
    refine MC (v := .agg (c4 N5)) (fun W hS => θ W (Q8 hG hS.ext).1) ?_
    rw [η.out] at S
    refine MC (v := .tuple #[.agg (c4 R), .bool true]) (fun W hS => S W (Q8 hG hS.ext).1 ((Q8 hG hS.ext).2.1 hc)) ?_
    refine MV ?_
    refine MV ?_
    refine MW ?_ (v := .bool true)
    refine MZB fun M0 => ?_
    refine MR 0 ?_ 
    refine MW ?_ (v := .bool true)
    refine MZn fun W hS => ?_
    by_cases h0 : R = 0
    ·
     exact absurd (by rw [← J.out, ← N.out]; exact h0) (Y5b hok ht)
    have D6 := Lib.hid h0
    clear _f h0
    go_upto_region 8 with fail
    refine RL hS ?_
    clear hS
    refine MW ?_ (v := .bool true)
    refine MW ?_ (v := .bool false)
    refine MW ?_ (v := .bool false)
    refine MW ?_ (v := .bool true)
    refine MW ?_ (v := .bool true)
    refine ML 0 ?_
    refine MW ?_ (v := .agg (c4 0)) (hv := by intro W; kernel_rfl)
    rw [decide_eq_false D6.out] at Ψ
    refine MC (v := .bool false) (fun W hS => Ψ W (Q8 hG hS.ext).1) ?_
    refine MW ?_ (v := .bool false)
    refine MW ?_ (v := .bool false)
    refine MZ fun W hS => ?_
    by_cases ho : R % 2 = 1
    ·
     have D := Lib.hid ho
     clear _f ho
     go_upto_region 10 with fail
     refine RL hS ?_
     clear hS
     refine ML 0 ?_
     rw [decide_eq_true D.out] at γ
     refine MC (v := .bool true) (fun W hS => γ W (Q8 hG hS.ext).1) ?_
     refine MW ?_ (v := .bool true)
     refine MW ?_ (v := .bool false) (hv := by intro W; first | rfl | (go_simp; done))
     refine MZ fun W hS => ?_
     have G : R = X0 := β.out.trans (by unfold dXf Q0y; rw [← N.out, Nat.mod_eq_of_lt lR, decide_eq_true D.out, ht]; exact if_pos rfl) |>.symm
     rw [G] at hS
     clear G
     go_upto_region 12 with fail
     refine RL hS ?_
     clear hS
     refine ML 0 ?_
     refine ML 2 ?_
     refine MC (v := .agg (p4 X0 Y 1 T)) (fun W hS => μ W (Q8 hG hS.ext)) ?_
     refine MR 3 ?_ 
     refine MW ?_ (v := .int .i64 0)
     refine MZ fun W hS => ?_
     go_wp2
     exact bodyPost_ret (J08 rfl rfl rfl (hS.blk (i := 3) rfl) (by kernel_rfl) (by kernel_rfl)) rfl ⟨rfl, hS.ext⟩
    have D := Lib.hid ho
    clear _f ho
    go_upto_region 10 with fail
    refine RL hS ?_
    clear hS
    refine ML 0 ?_
    rw [decide_eq_false D.out] at γ
    refine MC (v := .bool false) (fun W hS => γ W (Q8 hG hS.ext).1) ?_
    refine MW ?_ (v := .bool true)
    refine MW ?_ (v := .bool true) (hv := by intro W; first | rfl | (go_simp; done))
    refine MZ fun W hS => ?_
    go_upto_region 11 with fail
    refine RL hS ?_
    clear hS
    refine ML 0 ?_
    refine MC (v := .agg (c4 N8)) (fun W hS => D0 W (Q8 hG hS.ext).1) ?_
    refine MR 0 ?_ 
    refine MZ fun W hS => ?_
    have G : N8 = X0 := β.out.trans (by unfold dXf Q0y; rw [← N.out, Nat.mod_eq_of_lt lR, decide_eq_false D.out, ht, G8.out, Nat.mod_eq_of_lt lR]; exact if_neg (by decide)) |>.symm
    rw [G] at hS
    clear G
    go_upto_region 12 with fail
    refine RL hS ?_
    clear hS
    refine ML 0 ?_
    refine ML 2 ?_
    refine MC (v := .agg (p4 X0 Y 1 T)) (fun W hS => μ W (Q8 hG hS.ext)) ?_
    refine MR 3 ?_ 
    refine MW ?_ (v := .int .i64 0)
    refine MZ fun W hS => ?_
    go_wp2
    exact bodyPost_ret (J08 rfl rfl rfl (hS.blk (i := 3) rfl) (by kernel_rfl) (by kernel_rfl)) rfl ⟨rfl, hS.ext⟩
   exact absurd (by rw [D1.out, J.out]; exact Z1f hok) hb
  exact absurd (HY.out.trans (Nat.mod_eq_of_lt (Q4c hok))) hy
 go_upto_region 1 with fail
 refine RL hS ?_
 clear hS
 refine MW ?_ (v := .pointer (some ⟨M, 0 + 31, none⟩)) (hv := fun _ => J7 (m := 32) (by decide) (by decide) Tryz.underlying23 (by kernel_rfl) rfl rfl rfl)
 refine MG 1 ?_ (j := 0 + 31) (v := .int .u8 ((Q3 V) 31)) (hj := by rw [Nat.zero_add]; exact J4 _ _ _ _ (by decide))
 refine MW ?_ (v := .int .u8 0) (hv := by intro W; exact J30 (Z1h hV ht) rfl rfl rfl)
 refine MW ?_ (v := .bool false)
 refine MW ?_ (v := .bool false)
 refine MZ fun W hS => ?_
 go_upto_region 2 with fail
 refine RL hS ?_
 clear hS
 refine ML 1 ?_
 refine MC (v := .agg (c4 Y)) (fun W hS => Δ W (Q8 hG hS.ext).1) ?_
 refine MN (z := c4 0) (t := 155) ?_
 intro J6
 refine MR 0 ?_ 
 refine MZ fun W hS => ?_
 go_upto_region 3 with fail
 refine RL hS ?_
 clear hS
 refine MW ?_ (v := .pointer (some ⟨M, 0 + 31, none⟩)) (hv := fun _ => J7 (m := 32) (by decide) (by decide) Tryz.underlying23 (by kernel_rfl) rfl rfl rfl)
 refine MG 2 ?_ (j := 0 + 31) (v := .int .u8 ((Q3 V) 31)) (hj := by rw [Nat.zero_add]; exact J4 _ _ _ _ (by decide))
 refine MW ?_ (v := .int .u8 (bits .andNot .u8 (Q3 V 31) 128)) (hv := by intro W; exact J85 rfl rfl rfl rfl)
 refine MW ?_ (v := .pointer (some ⟨M, 0 + 31, none⟩)) (hv := fun _ => J7 (m := 32) (by decide) (by decide) Tryz.underlying23 (by kernel_rfl) rfl rfl rfl)
 refine MP 2 (v := .int .u8 (bits .andNot .u8 (Q3 V 31) 128)) (cs' := J0 .u8 32 (upd (Q3 V) 31 (bits .andNot .u8 (Q3 V 31) 128))) ?_ (hs := by rw [J2, Nat.zero_add]; decide) (hc := by rw [Nat.zero_add]; exact V6 _ _ _ _ _)
 refine MT (fun W hS => by rw [Q7l (Q1f hV)] at hS; exact hS) ?_
 refine MZ fun W hS => ?_
 by_cases hy : Y = V % 2 ^ 255
 ·
  have J := Lib.hid hy
  clear _f hy
  go_upto_region 4 with fail
  refine RS hS ?_
  clear hS
  refine ML 0 ?_
  refine MC (v := .agg (J0 .u8 32 (Q3 Y))) (fun W hS => D3 W (Q8 hG hS.ext).1) ?_
  refine ML 2 ?_
  rw [decide_eq_true J.out] at σ
  refine MW ?_ (v := .bool false) (hv := fun _ => J3p ((σ) _) (by kernel_rfl) rfl rfl rfl)
  refine MZx fun W hS => ?_
  go_upto_region 6 with fail
  refine RL hS ?_
  clear hS
  refine ML 0 ?_
  refine ML 0 ?_
  refine MC (v := .agg (c4 N2)) (fun W hS => ε W (Q8 hG hS.ext).1) ?_
  refine MN (z := c4 0) (t := 155) ?_
  intro G9
  refine MR 0 ?_ 
  refine MZ fun W hS => ?_
  have U : R = dX Y := by unfold dX dU dV; rw [HR.out, ψ.out, χ.out, Θ.out, ω.out]
  have Z : B = dB Y := by unfold dB dU dV; rw [HB.out, ψ.out, χ.out, Θ.out, ω.out]
  have N := Lib.hid U
  have D1 := Lib.hid Z
  clear U Z
  by_cases hb : B = true
  ·
   have η := Lib.hid hb
   clear _f hb
   go_upto_region 7 with fail
   refine RXn 12 [⟨12, 7, c4 0, 155⟩] hS ?_ (by simp only [List.forall_mem_cons]; exact ⟨⟨_, rfl, rfl, rfl, fun _ _ => by kernel_rfl⟩, fun _ h => by cases h⟩)
   clear hS
   refine ML 0 ?_
   refine MC (v := .agg (c4 1)) (fun W hS => J3c W) ?_
   refine MC (v := .agg (c4 N3)) (fun W hS => ζ W (Q8 hG hS.ext).1) ?_
   refine MF (v := .agg (c4 DD)) (fun W hS => J2e rfl rfl ((Q8 hG hS.ext).2.2.1 hc) (by kernel_rfl) (by kernel_rfl)) ?_
   refine ML 0 ?_
   refine MC (v := .agg (c4 N4)) (fun W hS => κ W (Q8 hG hS.ext).1) ?_
   refine MC (v := .agg (c4 1)) (fun W hS => J3c W) ?_
   refine MC (v := .agg (c4 N5)) (fun W hS => θ W (Q8 hG hS.ext).1) ?_
   rw [η.out] at S
   refine MC (v := .tuple #[.agg (c4 R), .bool true]) (fun W hS => S W (Q8 hG hS.ext).1 ((Q8 hG hS.ext).2.1 hc)) ?_
   refine MV ?_
   refine MV ?_
   refine MW ?_ (v := .bool true)
   refine MZB fun M1 => ?_
   refine MR 0 ?_ 
   refine MW ?_ (v := .bool true)
   refine MZn fun W hS => ?_
   go_upto_region 8 with fail
   refine RL hS ?_
   clear hS
   refine MW ?_ (v := .bool true)
   refine MW ?_ (v := .bool false)
   refine MW ?_ (v := .bool false)
   refine MW ?_ (v := .bool false)
   refine MW ?_ (v := .bool false)
   refine MS ?_
   refine MS ?_
   refine MS ?_
   refine MW ?_ (v := .bool false)
   refine MW ?_ (v := .bool false)
   refine MZ fun W hS => ?_
   by_cases ho : R % 2 = 1
   ·
    have D := Lib.hid ho
    clear _f ho
    go_upto_region 10 with fail
    refine RL hS ?_
    clear hS
    refine ML 0 ?_
    rw [decide_eq_true D.out] at α
    refine MC (v := .bool true) (fun W hS => α W (Q8 hG hS.ext).1) ?_
    refine MW ?_ (v := .bool false)
    refine MW ?_ (v := .bool true) (hv := by intro W; first | rfl | (go_simp; done))
    refine MZ fun W hS => ?_
    go_upto_region 11 with fail
    refine RL hS ?_
    clear hS
    refine ML 0 ?_
    refine MC (v := .agg (c4 N7)) (fun W hS => Ω W (Q8 hG hS.ext).1) ?_
    refine MR 0 ?_ 
    refine MZ fun W hS => ?_
    have G : N7 = X0 := β.out.trans (by unfold dXf Q0y; rw [← N.out, Nat.mod_eq_of_lt lR, decide_eq_true D.out, Bool.eq_false_iff.2 ht, G2.out, Nat.mod_eq_of_lt lR]; exact if_neg (by decide)) |>.symm
    rw [G] at hS
    clear G
    go_upto_region 12 with fail
    refine RL hS ?_
    clear hS
    refine ML 0 ?_
    refine ML 2 ?_
    refine MC (v := .agg (p4 X0 Y 1 T)) (fun W hS => μ W (Q8 hG hS.ext)) ?_
    refine MR 3 ?_ 
    refine MW ?_ (v := .int .i64 0)
    refine MZ fun W hS => ?_
    go_wp2
    exact bodyPost_ret (J08 rfl rfl rfl (hS.blk (i := 3) rfl) (by kernel_rfl) (by kernel_rfl)) rfl ⟨rfl, hS.ext⟩
   have D := Lib.hid ho
   clear _f ho
   go_upto_region 10 with fail
   refine RL hS ?_
   clear hS
   refine ML 0 ?_
   rw [decide_eq_false D.out] at α
   refine MC (v := .bool false) (fun W hS => α W (Q8 hG hS.ext).1) ?_
   refine MW ?_ (v := .bool false)
   refine MW ?_ (v := .bool false) (hv := by intro W; first | rfl | (go_simp; done))
   refine MZ fun W hS => ?_
   have G : R = X0 := β.out.trans (by unfold dXf Q0y; rw [← N.out, Nat.mod_eq_of_lt lR, decide_eq_false D.out, Bool.eq_false_iff.2 ht]; exact if_pos rfl) |>.symm
   rw [G] at hS
   clear G
   go_upto_region 12 with fail
   refine RL hS ?_
   clear hS
   refine ML 0 ?_
   refine ML 2 ?_
   refine MC (v := .agg (p4 X0 Y 1 T)) (fun W hS => μ W (Q8 hG hS.ext)) ?_
   refine MR 3 ?_ 
   refine MW ?_ (v := .int .i64 0)
   refine MZ fun W hS => ?_
   go_wp2
   exact bodyPost_ret (J08 rfl rfl rfl (hS.blk (i := 3) rfl) (by kernel_rfl) (by kernel_rfl)) rfl ⟨rfl, hS.ext⟩
  exact absurd (by rw [D1.out, J.out]; exact Z1f hok) hb
 exact absurd (HY.out.trans (Nat.mod_eq_of_lt (Q4c hok))) hy
end
end Go.Proofs.YtejkmhgkkibafaaGreatDoor.S8
