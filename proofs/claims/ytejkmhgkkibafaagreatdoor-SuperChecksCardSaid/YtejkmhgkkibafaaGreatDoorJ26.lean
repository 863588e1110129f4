/- Contracts and plain laws that superChecks_holds rests on. Conditions: the variables' cells hold the numbers of the program's text. -/
import Derived.Test.YtejkmhgkkibafaaGreatDoorJ6
import Derived.Test.YtejkmhgkkibafaaGreatDoorJ3
import Derived.Test.YtejkmhgkkibafaaGreatDoorJ8
import Derived.Test.YtejkmhgkkibafaaGreatDoorJ25
import Derived.Test.YtejkmhgkkibafaaGreatDoorS8SgC
import Derived.Test.YtejkmhgkkibafaaGreatDoorN8a
import Derived.Test.YtejkmhgkkibafaaGreatDoorJ24
import Derived.Test.YtejkmhgkkibafaaGreatDoorJ18
import Derived.Test.YtejkmhgkkibafaaGreatDoorGc
import Derived.Laws.BitsLemmas
open Go.RowKit
set_option maxRecDepth 100000
set_option linter.unusedSimpArgs false
set_option linter.unusedVariables false
namespace Go.Proofs.YtejkmhgkkibafaaGreatDoor.S8
section
set_option maxHeartbeats 1500000
attribute [local irreducible] wpList U0 wpX

theorem Y6z {V : Nat} (hV : V < 2 ^ 256) (hok : dOk V = true) :
  ∃ X, RD X (V % 2 ^ 255) 1 (dPt V) ∧ ∀ w, Calls Tryz.prog 64 #[str (lb 32 V)] w fun e w' => K7 (.tuple #[.agg (p3 X (V % 2 ^ 255) 1), .int .i64 0]) w w' e := by
 have Δ := Z18 V
 obtain ⟨Y, hY⟩ := V3 (V % 2 ^ 255 % PP)
 rw [← hY] at Δ
 have lY := bpp hY
 have HY := Lib.hid hY
 clear hY
 have θ := J0h Y Y (Z0 lY) (Z0 lY)
 obtain ⟨N1, χ⟩ := V3 (Y * Y % PP)
 rw [← χ] at θ
 have G1 := bpp χ
 have D0 := Z0 G1
 have N := Lib.hid χ
 clear χ
 have κ := Q5c N1 1 D0 (Nat.le_of_lt (by decide))
 obtain ⟨N2, ψ⟩ := V3 ((N1 + (PP - 1) % PP) % PP)
 rw [← ψ] at κ
 have Ω := bpp ψ
 have M1 := Z0 Ω
 have ξ := Lib.hid ψ
 clear ψ
 have μ := J0h DD N1 Q7a D0
 obtain ⟨N3, ν⟩ := V3 (DD * N1 % PP)
 rw [← ν] at μ
 have D5 := bpp ν
 have D9 := Z0 D5
 have φ := Lib.hid ν
 clear ν
 have ζ := J7b N3 1 D9 (by decide)
 obtain ⟨N4, ω⟩ := V3 ((N3 + 1) % PP)
 rw [← ω] at ζ
 have G0 := bpp ω
 have D4 := Z0 G0
 have ρ := Lib.hid ω
 clear ω
 have α := Z19 N2 N4 Ω D4
 obtain ⟨R, hR⟩ := V3 (rtR N2 N4)
 rw [← hR] at α
 have lR : R < PP := by rw [hR]; exact J9f _ _
 have HR := Lib.hid hR
 clear hR
 obtain ⟨B, hB⟩ := V3 (rtB N2 N4)
 rw [← hB] at α
 have HB := Lib.hid hB
 clear hB
 have Z := Z37 R 0 (Z0 lR) (by decide)
 have ε := Z6l hok
 have Ξ : V % 2 ^ 255 = Y := by rw [HY.out]; exact (Nat.mod_eq_of_lt (Q41 hok)).symm
 unfold dPt at ε
 rw [Ξ] at ε
 have D1 := Lib.hid Ξ
 clear Ξ
 obtain ⟨X0, Γ⟩ := V3 (dXf Y (top V))
 have D6 : X0 < PP := by rw [Γ]; exact Z6j _ _
 rw [← Γ] at ε
 have U := Lib.hid Γ
 clear Γ
 have β := Q2i R (Nat.le_of_lt lR)
 obtain ⟨N5, σ⟩ := V3 ((PP - R) % PP)
 rw [← σ] at β
 have D7 := bpp σ
 have J9 := Z0 D7
 have Θ := Lib.hid σ
 clear σ
 refine ⟨X0, by unfold dPt; rw [D1.out, ← U.out]; exact Z6n D6 lY ε, ?_⟩
 rw [D1.out]
 clear ε
 intro w
 have hS := SH.nil [] w
 go_enter Tryz.func64, Tryz.ntmps64
 go_upto_region 0 with fail
 refine RL hS ?_
 clear hS
 refine MN (z := p3 0 0 0) (t := 126) ?_
 intro X5
 refine MW ?_ (v := .int .i64 0)
 refine MZ fun W hS => ?_
 by_cases ht : top V = true
 ·
  have J := Lib.hid ht
  clear ht
  go_upto_region 1 with fail
  refine RL hS ?_
  clear hS
  refine MV ?_
  refine MW ?_ (v := .int .u8 (Q3 V 31)) (hv := by intro W; exact J9h (by decide) rfl rfl rfl)
  refine MW ?_ (v := .bool true) (hv := by intro W; exact J9i (Q16 hV true J.out) rfl rfl rfl)
  refine MW ?_ (v := .bool true)
  refine MZ fun W hS => ?_
  go_upto_region 2 with fail
  refine RL hS ?_
  clear hS
  refine MV ?_
  refine MC (v := .agg (J0 .i64 16 (Q6 Y))) (fun W hS => Δ W) ?_
  refine MN (z := J0 .i64 16 (Q6 0)) (t := 124) ?_
  intro J4
  refine MR 0 ?_ 
  refine MZ fun W hS => ?_
  go_upto_region 3 with fail
  refine RL hS ?_
  clear hS
  refine MV ?_
  refine MY (m := (lb 32 V)) (by first | omega | (rw [J8]; decide)) ?_
  intro G9
  refine MV ?_
  refine MZ fun W hS => ?_
  go_upto_region 4 with fail
  refine RL hS ?_
  clear hS
  refine MV ?_
  refine MV ?_
  refine MIw 0 31 (l := lb 32 V) (by rw [J8]; decide) ?_
  intro G8 J6 G3
  refine MF (v := .int .u8 (Q3 V 31)) (fun W hS => X8 rfl rfl (zat G3.out (hS.ozl (i := 0) rfl)) (by kernel_rfl)) ?_
  refine MW ?_ (v := .int .u8 (bits .and .u8 (Q3 V 31) 127)) (hv := by intro W; exact J2r rfl rfl rfl rfl)
  refine MIw 0 31 (l := lb 32 V) (by rw [J8]; decide) ?_
  intro J2 M3 D8
  refine MPw 0 (j := 31) (l := lb 32 V) (l' := lb 32 (V % 2 ^ 255)) (by rw [J8]; decide) D8.out (Q2n (Q5i hV)) (by rw [J8, J8]) ?_
  refine MZ fun W hS => ?_
  by_cases hc : Y = V % 2 ^ 255
  ·
   have M := Lib.hid hc
   clear hc
   go_upto_region 5 with fail
   refine RS hS ?_
   clear hS
   refine ML 1 ?_
   refine MC (v := str (lb 32 Y)) (fun W hS => J4t Y W) ?_
   refine MV ?_
   refine MF (v := str (lb 32 (V % 2 ^ 255))) (fun W hS => J2j (hS.ozl (i := 0) rfl) rfl rfl) ?_
   refine MW ?_ (v := .bool false) (hv := fun _ => J18 (l := (lb 32 Y)) (m := (lb 32 (V % 2 ^ 255))) (b := true) (decide_eq_true (by rw [M.out])) rfl rfl rfl)
   refine MZx fun W hS => ?_
   go_upto_region 7 with fail
   refine RL hS ?_
   clear hS
   refine ML 1 ?_
   refine ML 1 ?_
   refine MC (v := .agg (J0 .i64 16 (Q6 N1))) (fun W hS => θ W) ?_
   refine MN (z := J0 .i64 16 (Q6 0)) (t := 124) ?_
   intro M2
   refine MR 0 ?_ 
   refine MZ fun W hS => ?_
   have γ : R = dX Y := by unfold dX; rw [HR.out, Q7d Y N.out ξ.out]; unfold dV; rw [ρ.out, φ.out, N.out]
   have δ : B = dB Y := by unfold dB; rw [HB.out, Q7d Y N.out ξ.out]; unfold dV; rw [ρ.out, φ.out, N.out]
   have S := Lib.hid γ
   have Ψ := Lib.hid δ
   clear γ δ
   by_cases hb : B = true
   ·
    have η := Lib.hid hb
    clear hb
    go_upto_region 8 with fail
    refine RXn 12 [⟨12, 8, J0 .i64 16 (Q6 0), 124⟩] hS ?_ (by simp only [List.forall_mem_cons]; exact ⟨⟨_, rfl, rfl, rfl, fun _ _ => by kernel_rfl⟩, fun _ h => by cases h⟩)
    clear hS
    refine ML 0 ?_
    refine MW ?_ (v := .agg (J0 .i64 16 (Q6 1))) (hv := by intro W; kernel_rfl)
    refine MC (v := .agg (J0 .i64 16 (Q6 N2))) (fun W hS => κ W) ?_
    refine MC (v := .agg (J0 .i64 16 (Q6 DD))) (fun W hS => Q92 W) ?_
    refine ML 0 ?_
    refine MC (v := .agg (J0 .i64 16 (Q6 N3))) (fun W hS => μ W) ?_
    refine MW ?_ (v := .agg (J0 .i64 16 (Q6 1))) (hv := by intro W; kernel_rfl)
    refine MC (v := .agg (J0 .i64 16 (Q6 N4))) (fun W hS => ζ W) ?_
    rw [η.out] at α
    refine MC (v := .tuple #[.agg (J0 .i64 16 (Q6 R)), .bool true]) (fun W hS => α W) ?_
    refine MV ?_
    refine MV ?_
    refine MW ?_ (v := .bool true)
    refine MZB fun G2 => ?_
    refine MR 0 ?_ 
    refine MW ?_ (v := .bool true)
    refine MZn fun W hS => ?_
    by_cases h0 : R = 0
    ·
     exact absurd (by rw [← M.out, ← S.out]; exact h0) (Y4r hok J.out)
    have T := Lib.hid h0
    clear h0
    go_upto_region 9 with fail
    refine RL hS ?_
    clear hS
    refine MW ?_ (v := .bool true)
    refine MW ?_ (v := .bool false)
    refine MW ?_ (v := .bool false)
    refine ML 0 ?_
    refine MW ?_ (v := .agg (J0 .i64 16 (Q6 0))) (hv := by intro W; kernel_rfl)
    rw [decide_eq_false T.out] at Z
    refine MW ?_ (v := .bool false) (hv := fun _ => J0t ((Z) _) (by kernel_rfl) rfl rfl rfl)
    refine MW ?_ (v := .bool false)
    refine MS ?_
    refine MW ?_ (v := .bool false)
    refine MW ?_ (v := .bool false)
    refine MZ fun W hS => ?_
    by_cases ho : R % 2 = 1
    ·
     have D := Lib.hid ho
     clear ho
     go_upto_region 11 with fail
     refine RL hS ?_
     clear hS
     refine MW ?_ (v := .pointer (some ⟨(G2 12), 0 + 0, none⟩)) (hv := fun _ => J5 (m := 16) (by decide) (by decide) Tryz.underlying124 (by kernel_rfl) rfl rfl rfl)
     refine MG 0 ?_ (j := 0 + 0) (v := .int .i64 ((Q6 R) 0)) (hj := by rw [Nat.zero_add]; exact J3 _ _ _ _ (by decide))
     refine MW ?_ (v := .int .i64 1) (hv := by intro W; exact J39 D.out rfl rfl rfl)
     refine MW ?_ (v := .bool true)
     refine MW ?_ (v := .bool true)
     refine MW ?_ (v := .bool false)
     refine MZ fun W hS => ?_
     have G : R = X0 := U.out.trans (by unfold dXf Q0n; rw [← S.out, Nat.mod_eq_of_lt lR, decide_eq_true D.out, J.out]; exact if_pos rfl) |>.symm
     rw [G] at hS
     clear G
     go_upto_region 13 with fail
     refine RL hS ?_
     clear hS
     refine ML 0 ?_
     refine ML 3 ?_
     refine MW ?_ (v := .agg (J0 .i64 16 (Q6 1))) (hv := by intro W; kernel_rfl)
     refine MW ?_ (v := .agg (p3 X0 Y 1)) (hv := by intro W; kernel_rfl)
     refine MR 4 ?_ (hz := by rw [Q7]; kernel_rfl) (hs := by first | rw [Q7, Q7] | rw [Q7] | kernel_rfl) (h1 := J1x)
     refine MW ?_ (v := .int .i64 0)
     refine MZ fun W hS => ?_
     go_wp2
     exact bodyPost_ret (J01 rfl rfl rfl (hS.blk (i := 4) rfl) (by kernel_rfl) (by rw [Q7]; kernel_rfl)) rfl ⟨rfl, hS.ext⟩
    have D := Lib.hid ho
    clear ho
    go_upto_region 11 with fail
    refine RL hS ?_
    clear hS
    refine MW ?_ (v := .pointer (some ⟨(G2 12), 0 + 0, none⟩)) (hv := fun _ => J5 (m := 16) (by decide) (by decide) Tryz.underlying124 (by kernel_rfl) rfl rfl rfl)
    refine MG 0 ?_ (j := 0 + 0) (v := .int .i64 ((Q6 R) 0)) (hj := by rw [Nat.zero_add]; exact J3 _ _ _ _ (by decide))
    refine MW ?_ (v := .int .i64 0) (hv := by intro W; exact J39 (show R % 2 = 0 by have := D.out; omega) rfl rfl rfl)
    refine MW ?_ (v := .bool false)
    refine MW ?_ (v := .bool true)
    refine MW ?_ (v := .bool true)
    refine MZ fun W hS => ?_
    go_upto_region 12 with fail
    refine RL hS ?_
    clear hS
    refine ML 0 ?_
    refine MC (v := .agg (J0 .i64 16 (Q6 N5))) (fun W hS => β W) ?_
    refine MR 0 ?_ 
    refine MZ fun W hS => ?_
    have G : N5 = X0 := U.out.trans (by unfold dXf Q0n; rw [← S.out, Nat.mod_eq_of_lt lR, decide_eq_false D.out, J.out, Θ.out]; exact if_neg (by decide)) |>.symm
    rw [G] at hS
    clear G
    go_upto_region 13 with fail
    refine RL hS ?_
    clear hS
    refine ML 0 ?_
    refine ML 3 ?_
    refine MW ?_ (v := .agg (J0 .i64 16 (Q6 1))) (hv := by intro W; kernel_rfl)
    refine MW ?_ (v := .agg (p3 X0 Y 1)) (hv := by intro W; kernel_rfl)
    refine MR 4 ?_ (hz := by rw [Q7]; kernel_rfl) (hs := by first | rw [Q7, Q7] | rw [Q7] | kernel_rfl) (h1 := J1x)
    refine MW ?_ (v := .int .i64 0)
    refine MZ fun W hS => ?_
    go_wp2
    exact bodyPost_ret (J01 rfl rfl rfl (hS.blk (i := 4) rfl) (by kernel_rfl) (by rw [Q7]; kernel_rfl)) rfl ⟨rfl, hS.ext⟩
   exact absurd (by rw [Ψ.out, M.out]; exact Z12 hok) hb
  exact absurd (HY.out.trans (Nat.mod_eq_of_lt (Q41 hok))) hc
 have J := Lib.hid ht
 clear ht
 go_upto_region 1 with fail
 refine RL hS ?_
 clear hS
 refine MV ?_
 refine MW ?_ (v := .int .u8 (Q3 V 31)) (hv := by intro W; exact J9h (by decide) rfl rfl rfl)
 refine MW ?_ (v := .bool false) (hv := by intro W; exact J9i (Q16 hV false (Bool.eq_false_iff.2 J.out)) rfl rfl rfl)
 refine MW ?_ (v := .bool false)
 refine MZ fun W hS => ?_
 go_upto_region 2 with fail
 refine RL hS ?_
 clear hS
 refine MV ?_
 refine MC (v := .agg (J0 .i64 16 (Q6 Y))) (fun W hS => Δ W) ?_
 refine MN (z := J0 .i64 16 (Q6 0)) (t := 124) ?_
 intro M0
 refine MR 0 ?_ 
 refine MZ fun W hS => ?_
 go_upto_region 3 with fail
 refine RL hS ?_
 clear hS
 refine MV ?_
 refine MY (m := (lb 32 V)) (by first | omega | (rw [J8]; decide)) ?_
 intro J7
 refine MV ?_
 refine MZ fun W hS => ?_
 go_upto_region 4 with fail
 refine RL hS ?_
 clear hS
 refine MV ?_
 refine MV ?_
 refine MIw 0 31 (l := lb 32 V) (by rw [J8]; decide) ?_
 intro G4 G7 D2
 refine MF (v := .int .u8 (Q3 V 31)) (fun W hS => X8 rfl rfl (zat D2.out (hS.ozl (i := 0) rfl)) (by kernel_rfl)) ?_
 refine MW ?_ (v := .int .u8 (bits .and .u8 (Q3 V 31) 127)) (hv := by intro W; exact J2r rfl rfl rfl rfl)
 refine MIw 0 31 (l := lb 32 V) (by rw [J8]; decide) ?_
 intro G5 G6 D3
 refine MPw 0 (j := 31) (l := lb 32 V) (l' := lb 32 (V % 2 ^ 255)) (by rw [J8]; decide) D3.out (Q2n (Q5i hV)) (by rw [J8, J8]) ?_
 refine MZ fun W hS => ?_
 by_cases hc : Y = V % 2 ^ 255
 ·
  have M := Lib.hid hc
  clear hc
  go_upto_region 5 with fail
  refine RS hS ?_
  clear hS
  refine ML 1 ?_
  refine MC (v := str (lb 32 Y)) (fun W hS => J4t Y W) ?_
  refine MV ?_
  refine MF (v := str (lb 32 (V % 2 ^ 255))) (fun W hS => J2j (hS.ozl (i := 0) rfl) rfl rfl) ?_
  refine MW ?_ (v := .bool false) (hv := fun _ => J18 (l := (lb 32 Y)) (m := (lb 32 (V % 2 ^ 255))) (b := true) (decide_eq_true (by rw [M.out])) rfl rfl rfl)
  refine MZx fun W hS => ?_
  go_upto_region 7 with fail
  refine RL hS ?_
  clear hS
  refine ML 1 ?_
  refine ML 1 ?_
  refine MC (v := .agg (J0 .i64 16 (Q6 N1))) (fun W hS => θ W) ?_
  refine MN (z := J0 .i64 16 (Q6 0)) (t := 124) ?_
  intro J1
  refine MR 0 ?_ 
  refine MZ fun W hS => ?_
  have γ : R = dX Y := by unfold dX; rw [HR.out, Q7d Y N.out ξ.out]; unfold dV; rw [ρ.out, φ.out, N.out]
  have δ : B = dB Y := by unfold dB; rw [HB.out, Q7d Y N.out ξ.out]; unfold dV; rw [ρ.out, φ.out, N.out]
  have S := Lib.hid γ
  have Ψ := Lib.hid δ
  clear γ δ
  by_cases hb : B = true
  ·
   have η := Lib.hid hb
   clear hb
   go_upto_region 8 with fail
   refine RXn 12 [⟨12, 8, J0 .i64 16 (Q6 0), 124⟩] hS ?_ (by simp only [List.forall_mem_cons]; exact ⟨⟨_, rfl, rfl, rfl, fun _ _ => by kernel_rfl⟩, fun _ h => by cases h⟩)
   clear hS
   refine ML 0 ?_
   refine MW ?_ (v := .agg (J0 .i64 16 (Q6 1))) (hv := by intro W; kernel_rfl)
   refine MC (v := .agg (J0 .i64 16 (Q6 N2))) (fun W hS => κ W) ?_
   refine MC (v := .agg (J0 .i64 16 (Q6 DD))) (fun W hS => Q92 W) ?_
   refine ML 0 ?_
   refine MC (v := .agg (J0 .i64 16 (Q6 N3))) (fun W hS => μ W) ?_
   refine MW ?_ (v := .agg (J0 .i64 16 (Q6 1))) (hv := by intro W; kernel_rfl)
   refine MC (v := .agg (J0 .i64 16 (Q6 N4))) (fun W hS => ζ W) ?_
   rw [η.out] at α
   refine MC (v := .tuple #[.agg (J0 .i64 16 (Q6 R)), .bool true]) (fun W hS => α W) ?_
   refine MV ?_
   refine MV ?_
   refine MW ?_ (v := .bool true)
   refine MZB fun τ => ?_
   refine MR 0 ?_ 
   refine MW ?_ (v := .bool true)
   refine MZn fun W hS => ?_
   by_cases h0 : R = 0
   ·
    have T := Lib.hid h0
    clear h0
    go_upto_region 9 with fail
    refine RL hS ?_
    clear hS
    refine MW ?_ (v := .bool true)
    refine MW ?_ (v := .bool false)
    refine MW ?_ (v := .bool false)
    refine ML 0 ?_
    refine MW ?_ (v := .agg (J0 .i64 16 (Q6 0))) (hv := by intro W; kernel_rfl)
    rw [decide_eq_true T.out] at Z
    refine MW ?_ (v := .bool true) (hv := fun _ => J0t ((Z) _) (by kernel_rfl) rfl rfl rfl)
    refine MW ?_ (v := .bool true)
    refine MW ?_ (v := .bool false)
    refine MW ?_ (v := .bool false)
    refine MW ?_ (v := .bool false)
    refine MZ fun W hS => ?_
    by_cases ho : R % 2 = 1
    ·
     have D := Lib.hid ho
     clear ho
     go_upto_region 11 with fail
     refine RL hS ?_
     clear hS
     refine MW ?_ (v := .pointer (some ⟨(τ 12), 0 + 0, none⟩)) (hv := fun _ => J5 (m := 16) (by decide) (by decide) Tryz.underlying124 (by kernel_rfl) rfl rfl rfl)
     refine MG 0 ?_ (j := 0 + 0) (v := .int .i64 ((Q6 R) 0)) (hj := by rw [Nat.zero_add]; exact J3 _ _ _ _ (by decide))
     refine MW ?_ (v := .int .i64 1) (hv := by intro W; exact J39 D.out rfl rfl rfl)
     refine MW ?_ (v := .bool true)
     refine MW ?_ (v := .bool false)
     refine MW ?_ (v := .bool true)
     refine MZ fun W hS => ?_
     go_upto_region 12 with fail
     refine RL hS ?_
     clear hS
     refine ML 0 ?_
     refine MC (v := .agg (J0 .i64 16 (Q6 N5))) (fun W hS => β W) ?_
     refine MR 0 ?_ 
     refine MZ fun W hS => ?_
     have G : N5 = X0 := U.out.trans (by unfold dXf Q0n; rw [← S.out, Nat.mod_eq_of_lt lR, decide_eq_true D.out, Bool.eq_false_iff.2 J.out, Θ.out]; exact if_neg (by decide)) |>.symm
     rw [G] at hS
     clear G
     go_upto_region 13 with fail
     refine RL hS ?_
     clear hS
     refine ML 0 ?_
     refine ML 3 ?_
     refine MW ?_ (v := .agg (J0 .i64 16 (Q6 1))) (hv := by intro W; kernel_rfl)
     refine MW ?_ (v := .agg (p3 X0 Y 1)) (hv := by intro W; kernel_rfl)
     refine MR 4 ?_ (hz := by rw [Q7]; kernel_rfl) (hs := by first | rw [Q7, Q7] | rw [Q7] | kernel_rfl) (h1 := J1x)
     refine MW ?_ (v := .int .i64 0)
     refine MZ fun W hS => ?_
     go_wp2
     exact bodyPost_ret (J01 rfl rfl rfl (hS.blk (i := 4) rfl) (by kernel_rfl) (by rw [Q7]; kernel_rfl)) rfl ⟨rfl, hS.ext⟩
    have D := Lib.hid ho
    clear ho
    go_upto_region 11 with fail
    refine RL hS ?_
    clear hS
    refine MW ?_ (v := .pointer (some ⟨(τ 12), 0 + 0, none⟩)) (hv := fun _ => J5 (m := 16) (by decide) (by decide) Tryz.underlying124 (by kernel_rfl) rfl rfl rfl)
    refine MG 0 ?_ (j := 0 + 0) (v := .int .i64 ((Q6 R) 0)) (hj := by rw [Nat.zero_add]; exact J3 _ _ _ _ (by decide))
    refine MW ?_ (v := .int .i64 0) (hv := by intro W; exact J39 (show R % 2 = 0 by have := D.out; omega) rfl rfl rfl)
    refine MW ?_ (v := .bool false)
    refine MW ?_ (v := .bool false)
    refine MW ?_ (v := .bool false)
    refine MZ fun W hS => ?_
    have G : R = X0 := U.out.trans (by unfold dXf Q0n; rw [← S.out, Nat.mod_eq_of_lt lR, decide_eq_false D.out, Bool.eq_false_iff.2 J.out]; exact if_pos rfl) |>.symm
    rw [G] at hS
    clear G
    go_upto_region 13 with fail
    refine RL hS ?_
    clear hS
    refine ML 0 ?_
    refine ML 3 ?_
    refine MW ?_ (v := .agg (J0 .i64 16 (Q6 1))) (hv := by intro W; kernel_rfl)
    refine MW ?_ (v := .agg (p3 X0 Y 1)) (hv := by intro W; kernel_rfl)
    refine MR 4 ?_ (hz := by rw [Q7]; kernel_rfl) (hs := by first | rw [Q7, Q7] | rw [Q7] | kernel_rfl) (h1 := J1x)
    refine MW ?_ (v := .int .i64 0)
    refine MZ fun W hS => ?_
    go_wp2
    exact bodyPost_ret (J01 rfl rfl rfl (hS.blk (i := 4) rfl) (by kernel_rfl) (by rw [Q7]; kernel_rfl)) rfl ⟨rfl, hS.ext⟩
   have T := Lib.hid h0
   clear h0
   go_upto_region 9 with fail
   refine RL hS ?_
   clear hS
   refine MW ?_ (v := .bool true)
   refine MW ?_ (v := .bool false)
   refine MW ?_ (v := .bool false)
   refine ML 0 ?_
   refine MW ?_ (v := .agg (J0 .i64 16 (Q6 0))) (hv := by intro W; kernel_rfl)
   rw [decide_eq_false T.out] at Z
   refine MW ?_ (v := .bool false) (hv := fun _ => J0t ((Z) _) (by kernel_rfl) rfl rfl rfl)
   refine MW ?_ (v := .bool false)
   refine MS ?_
   refine MW ?_ (v := .bool false)
   refine MW ?_ (v := .bool false)
   refine MZ fun W hS => ?_
   by_cases ho : R % 2 = 1
   ·
    have D := Lib.hid ho
    clear ho
    go_upto_region 11 with fail
    refine RL hS ?_
    clear hS
    refine MW ?_ (v := .pointer (some ⟨(τ 12), 0 + 0, none⟩)) (hv := fun _ => J5 (m := 16) (by decide) (by decide) Tryz.underlying124 (by kernel_rfl) rfl rfl rfl)
    refine MG 0 ?_ (j := 0 + 0) (v := .int .i64 ((Q6 R) 0)) (hj := by rw [Nat.zero_add]; exact J3 _ _ _ _ (by decide))
    refine MW ?_ (v := .int .i64 1) (hv := by intro W; exact J39 D.out rfl rfl rfl)
    refine MW ?_ (v := .bool true)
    refine MW ?_ (v := .bool false)
    refine MW ?_ (v := .bool true)
    refine MZ fun W hS => ?_
    go_upto_region 12 with fail
    refine RL hS ?_
    clear hS
    refine ML 0 ?_
    refine MC (v := .agg (J0 .i64 16 (Q6 N5))) (fun W hS => β W) ?_
    refine MR 0 ?_ 
    refine MZ fun W hS => ?_
    have G : N5 = X0 := U.out.trans (by unfold dXf Q0n; rw [← S.out, Nat.mod_eq_of_lt lR, decide_eq_true D.out, Bool.eq_false_iff.2 J.out, Θ.out]; exact if_neg (by decide)) |>.symm
    rw [G] at hS
    clear G
    go_upto_region 13 with fail
    refine RL hS ?_
    clear hS
    refine ML 0 ?_
    refine ML 3 ?_
    refine MW ?_ (v := .agg (J0 .i64 16 (Q6 1))) (hv := by intro W; kernel_rfl)
    refine MW ?_ (v := .agg (p3 X0 Y 1)) (hv := by intro W; kernel_rfl)
    refine MR 4 ?_ (hz := by rw [Q7]; kernel_rfl) (hs := by first | rw [Q7, Q7] | rw [Q7] | kernel_rfl) (h1 := J1x)
    refine MW ?_ (v := .int .i64 0)
    refine MZ fun W hS => ?_
    go_wp2
    exact bodyPost_ret (J01 rfl rfl rfl (hS.blk (i := 4) rfl) (by kernel_rfl) (by rw [Q7]; kernel_rfl)) rfl ⟨rfl, hS.ext⟩
   have D := Lib.hid ho
   clear ho
   go_upto_region 11 with fail
   refine RL hS ?_
   clear hS
   refine MW ?_ (v := .pointer (some ⟨(τ 12), 0 + 0, none⟩)) (hv := fun _ => J5 (m := 16) (by decide) (by decide) Tryz.underlying124 (by kernel_rfl) rfl rfl rfl)
   refine MG 0 ?_ (j := 0 + 0) (v := .int .i64 ((Q6 R) 0)) (hj := by rw [Nat.zero_add]; exact J3 _ _ _ _ (by decide))
   refine MW ?_ (v := .int .i64 0) (hv := by intro W; exact J39 (show R % 2 = 0 by have := D.out; omega) rfl rfl rfl)
   refine MW ?_ (v := .bool false)
   refine MW ?_ (v := .bool false)
   refine MW ?_ (v := .bool false)
   refine MZ fun W hS => ?_
   have G : R = X0 := U.out.trans (by unfold dXf Q0n; rw [← S.out, Nat.mod_eq_of_lt lR, decide_eq_false D.out, Bool.eq_false_iff.2 J.out]; exact if_pos rfl) |>.symm
   rw [G] at hS
   clear G
   go_upto_region 13 with fail
   refine RL hS ?_
   clear hS
   refine ML 0 ?_
   refine ML 3 ?_
   refine MW ?_ (v := .agg (J0 .i64 16 (Q6 1))) (hv := by intro W; kernel_rfl)
   refine MW ?_ (v := .agg (p3 X0 Y 1)) (hv := by intro W; kernel_rfl)
   refine MR 4 ?_ (hz := by rw [Q7]; kernel_rfl) (hs := by first | rw [Q7, Q7] | rw [Q7] | kernel_rfl) (h1 := J1x)
   refine MW ?_ (v := .int .i64 0)
   refine MZ fun W hS => ?_
   go_wp2
   exact bodyPost_ret (J01 rfl rfl rfl (hS.blk (i := 4) rfl) (by kernel_rfl) (by rw [Q7]; kernel_rfl)) rfl ⟨rfl, hS.ext⟩
  exact absurd (by rw [Ψ.out, M.out]; exact Z12 hok) hb
 exact absurd (HY.out.trans (Nat.mod_eq_of_lt (Q41 hok))) hc
end

section
set_option maxHeartbeats 1000000
attribute [local irreducible] wpList U0 wpX
open Sc (LL J3j)
variable {kn : Kn}
section
variable {w : World} {o : Oper} {a : Act} {x y : Operand} {t : TypeId}
theorem Z3m {l : List UInt8} {n : Nat} (hn : n ≤ l.length) (ho : o.op = .slice t x (some y) none none) (ht : Tryz.prog.underlying t = some .string) (hx : a.eval x = str l) (hy : a.eval y = .int .i64 (n : Int)) : (execOp a.eval o).run Tryz.prog w = .ok (.value (str (l.drop n))) w := by
 have h1 := J55 l
 have h2 := Q1v l n l.length
 rw [List.take_length] at h2
 unfold execOp
 simp only [ho, hx, hy, str, Option.map]
 simp [Instr.sliceAt, Instr.slice, Instr.sliceBounds, Instr.sliceBound, asIntOf, run_underlying ht, Sem.run_bind, h1, h2, hn]
theorem Q5x {V : Nat} (ho : o.op = .slice t x none (some y) none) (ht : Tryz.prog.underlying t = some .string) (hx : a.eval x = str (lb 64 V)) (hy : a.eval y = .int .i64 32) : (execOp a.eval o).run Tryz.prog w = .ok (.value (str (lb 32 (lo V)))) w := by
 have h := Z2t (w := w) (n := 32) (by rw [J8]; decide) ho ht hx hy
 rw [Z7g, List.take_left' (J8 _ _)] at h
 exact h
theorem J6e {V : Nat} (ho : o.op = .slice t x (some y) none none) (ht : Tryz.prog.underlying t = some .string) (hx : a.eval x = str (lb 64 V)) (hy : a.eval y = .int .i64 32) : (execOp a.eval o).run Tryz.prog w = .ok (.value (str (lb 32 (hi V)))) w := by
 have h := Z3m (w := w) (n := 32) (by rw [J8]; decide) ho ht hx hy
 rw [Z7g, List.drop_left' (J8 _ _)] at h
 exact h
end
theorem Y1w {H : Nat} {l : List UInt8} (hH : H = hs l) (hlen : l.length ≤ 70368744177664) (w : World) (hG : GR w) : Calls Tryz.prog 65 #[str l] w fun e w' => K7 (str (lb 64 H)) w w' e := by
 rw [hH, ← Z7p]; exact Y60 l hlen w hG
theorem Q5y {X n T : Nat} (hX : X = T % LL) (hT : T < 2 ^ (8 * n)) (hn : n ≤ 700) (w : World) : Calls Tryz.prog 62 #[str (lb n T)] w fun e w' => K7 (A16 X) w w' e := by
 rw [hX, ← Q0y]; exact Sc.rof_c n T hT hn w
theorem J80 (X : Nat) (w : World) : Calls Tryz.prog 63 #[A16 X] w fun e w' => K7 (str (lb 32 X)) w w' e := by
 rw [← Q0y]; exact Sc.rbytes_c X w
theorem Z1i {X X1 Y1 Z1 : Nat} {p1 : Pr} (h1 : RD X1 Y1 Z1 p1) (hX : X = enc p1) (w : World) : Calls Tryz.prog 70 #[.agg (p3 X1 Y1 Z1)] w fun e w' => K7 (str (lb 32 X)) w w' e := hX ▸ Y6u h1 w

theorem Z3n {V G : Nat} (hV : V < 2 ^ 256) (hG2 : G < 2 ^ (256 + 256)) (L : List UInt8) (hL : L.length ≤ 1099511627776) (h1 : LL ≤ hi G) :
  ∀ w, GR w → Calls Tryz.prog 27 #[str (lb 32 V), str L, str (lb 64 G)] w fun e w' => K7 (.int .i64 16) w w' e := by
 obtain ⟨U1, J⟩ := V3 ((hi G) % LL)
 have D : U1 < LL := by rw [J]; exact mLL _
 have R : U1 < 2 ^ 256 := Nat.lt_trans D J1i
 have M := Lib.hid J
 clear J
 intro w hG
 have hS := SH.nil [] w
 go_enter Tryz.func27, Tryz.ntmps27
 go_upto_region 1 with fail
 refine RL hS ?_
 clear hS
 refine MV ?_
 refine MW ?_ (v := str (lb 32 (hi G))) (hv := by intro W; exact J6e rfl Tryz.underlying9 rfl rfl)
 refine MC (v := .agg (J0 .i64 16 (Q6 U1))) (fun W hS => Q5y (n := 32) M.out (Q2s hG2) (by decide) W) ?_
 refine MN (z := J0 .i64 16 (Q6 0)) (t := 121) ?_
 intro N
 refine MR 0 ?_ 
 refine MZ fun W hS => ?_
 go_upto_region 2 with fail
 refine RS hS ?_
 clear hS
 refine ML 0 ?_
 refine MC (v := str (lb 32 U1)) (fun W hS => J80 U1 W) ?_
 refine MV ?_
 refine MW ?_ (v := str (lb 32 (hi G))) (hv := by intro W; exact J6e rfl Tryz.underlying9 rfl rfl)
 refine MW ?_ (v := .bool true) (hv := fun _ => J18 (l := (lb 32 U1)) (m := (lb 32 (hi G))) (b := false) (decide_eq_false (fun e => (Nat.not_lt.2 h1) (Q4u (Nat.lt_trans D J1i) (Q2s hG2) e ▸ D))) rfl rfl rfl)
 refine MZx fun W hS => ?_
 go_wp2
 exact bodyPost_ret (v := .int .i64 16) (by simp only [results, Tryz.results27]; go_simp) rfl ⟨rfl, hS.ext⟩
theorem Z3o {V G : Nat} (hV : V < 2 ^ 256) (hG2 : G < 2 ^ (256 + 256)) (L : List UInt8) (hL : L.length ≤ 1099511627776) (h1 : hi G < LL) (h2 : dOk V = false) :
  ∀ w, GR w → Calls Tryz.prog 27 #[str (lb 32 V), str L, str (lb 64 G)] w fun e w' => K7 (.int .i64 15) w w' e := by
 obtain ⟨U1, D⟩ := V3 ((hi G) % LL)
 have M : U1 < LL := by rw [D]; exact mLL _
 have S : U1 < 2 ^ 256 := Nat.lt_trans M J1i
 have J := Lib.hid D
 clear D
 have dc := Y6y (V := V) hV h2
 intro w hG
 have hS := SH.nil [] w
 go_enter Tryz.func27, Tryz.ntmps27
 go_upto_region 1 with fail
 refine RL hS ?_
 clear hS
 refine MV ?_
 refine MW ?_ (v := str (lb 32 (hi G))) (hv := by intro W; exact J6e rfl Tryz.underlying9 rfl rfl)
 refine MC (v := .agg (J0 .i64 16 (Q6 U1))) (fun W hS => Q5y (n := 32) J.out (Q2s hG2) (by decide) W) ?_
 refine MN (z := J0 .i64 16 (Q6 0)) (t := 121) ?_
 intro N
 refine MR 0 ?_ 
 refine MZ fun W hS => ?_
 go_upto_region 2 with fail
 refine RS hS ?_
 clear hS
 refine ML 0 ?_
 refine MC (v := str (lb 32 U1)) (fun W hS => J80 U1 W) ?_
 refine MV ?_
 refine MW ?_ (v := str (lb 32 (hi G))) (hv := by intro W; exact J6e rfl Tryz.underlying9 rfl rfl)
 refine MW ?_ (v := .bool false) (hv := fun _ => J18 (l := (lb 32 U1)) (m := (lb 32 (hi G))) (b := true) (decide_eq_true (by rw [J.out, Nat.mod_eq_of_lt h1])) rfl rfl rfl)
 refine MZx fun W hS => ?_
 go_upto_region 4 with fail
 refine RL hS ?_
 clear hS
 refine MV ?_
 refine MC (v := .tuple #[.agg (p3 0 0 0), .int .i64 15]) (fun W hS => dc W) ?_
 refine MV ?_
 refine MV ?_
 refine MW ?_ (v := .int .i64 15)
 refine MN (z := p3 0 0 0) (t := 126) ?_
 intro R
 refine MR 0 ?_ (hz := by rw [Q7]; kernel_rfl) (hs := by first | rw [Q7, Q7] | rw [Q7] | kernel_rfl) (h1 := J1x)
 refine MW ?_ (v := .int .i64 15)
 refine MZ fun W hS => ?_
 go_wp2
 exact bodyPost_ret (v := .int .i64 15) (by simp only [results, Tryz.results27]; go_simp) rfl ⟨rfl, hS.ext⟩
theorem Z3p {V G : Nat} (hV : V < 2 ^ 256) (hG2 : G < 2 ^ (256 + 256)) (L : List UInt8) (hL : L.length ≤ 1099511627776) (h1 : hi G < LL) (h2 : dOk V = true) :
  ∀ w, GR w → Calls Tryz.prog 27 #[str (lb 32 V), str L, str (lb 64 G)] w fun e w' => K7 (.int .i64 (vfy V L G : Int)) w w' e := by
 obtain ⟨U1, S⟩ := V3 ((hi G) % LL)
 have ρ : U1 < LL := by rw [S]; exact mLL _
 have χ : U1 < 2 ^ 256 := Nat.lt_trans ρ J1i
 have Y := Lib.hid S
 clear S
 obtain ⟨dx, dr, dc⟩ := Y6z (V := V) hV h2
 obtain ⟨y0, M⟩ := V3 (V % 2 ^ 255)
 rw [← M] at dr dc
 have τ := Lib.hid M
 clear M
 obtain ⟨U2, Z⟩ := V3 (hs (((lb 32 (lo G)) ++ (lb 32 V)) ++ L))
 have D := Lib.hid Z
 clear Z
 obtain ⟨U3, R⟩ := V3 (U2 % LL)
 have α : U3 < LL := by rw [R]; exact mLL _
 have δ : U3 < 2 ^ 256 := Nat.lt_trans α J1i
 have T := Lib.hid R
 clear R
 obtain ⟨x1, y2, z3, r4, c5⟩ := Q7f Y11 (lb 32 (hi G)) (by rw [J8]; decide)
 rw [Z5o 32 (hi G) (Q2s hG2)] at r4
 obtain ⟨x6, y7, z8, r9, κ⟩ := Y13 dr
 obtain ⟨ζ, ν, μ, X, γ⟩ := Q7f r9 (lb 32 U3) (by rw [J8]; decide)
 rw [Z5o 32 U3 δ] at X
 obtain ⟨ε, ξ, θ, U, η⟩ := Q5k r4 X
 obtain ⟨U4, N⟩ := V3 (enc (J0w (pm BP (hi G)) (pm (J52 (dPt V)) U3)))
 have β : U4 < 2 ^ 256 := by rw [N]; exact Q02 _
 have J := Lib.hid N
 clear N
 intro w hG
 have hS := SH.nil [] w
 go_enter Tryz.func27, Tryz.ntmps27
 go_upto_region 1 with fail
 refine RL hS ?_
 clear hS
 refine MV ?_
 refine MW ?_ (v := str (lb 32 (hi G))) (hv := by intro W; exact J6e rfl Tryz.underlying9 rfl rfl)
 refine MC (v := .agg (J0 .i64 16 (Q6 U1))) (fun W hS => Q5y (n := 32) Y.out (Q2s hG2) (by decide) W) ?_
 refine MN (z := J0 .i64 16 (Q6 0)) (t := 121) ?_
 intro ψ
 refine MR 0 ?_ 
 refine MZ fun W hS => ?_
 go_upto_region 2 with fail
 refine RS hS ?_
 clear hS
 refine ML 0 ?_
 refine MC (v := str (lb 32 U1)) (fun W hS => J80 U1 W) ?_
 refine MV ?_
 refine MW ?_ (v := str (lb 32 (hi G))) (hv := by intro W; exact J6e rfl Tryz.underlying9 rfl rfl)
 refine MW ?_ (v := .bool false) (hv := fun _ => J18 (l := (lb 32 U1)) (m := (lb 32 (hi G))) (b := true) (decide_eq_true (by rw [Y.out, Nat.mod_eq_of_lt h1])) rfl rfl rfl)
 refine MZx fun W hS => ?_
 go_upto_region 4 with fail
 refine RL hS ?_
 clear hS
 refine MV ?_
 refine MC (v := .tuple #[.agg (p3 dx y0 1), .int .i64 0]) (fun W hS => dc W) ?_
 refine MV ?_
 refine MV ?_
 refine MW ?_ (v := .int .i64 0)
 refine MN (z := p3 0 0 0) (t := 126) ?_
 intro σ
 refine MR 0 ?_ (hz := by rw [Q7]; kernel_rfl) (hs := by first | rw [Q7, Q7] | rw [Q7] | kernel_rfl) (h1 := J1x)
 refine MW ?_ (v := .int .i64 0)
 refine MZ fun W hS => ?_
 go_upto_region 7 with fail
 refine RL hS ?_
 clear hS
 refine MV ?_
 refine MW ?_ (v := str (lb 32 (lo G))) (hv := by intro W; exact Q5x rfl Tryz.underlying9 rfl rfl)
 refine MV ?_
 refine MW ?_ (v := str ((lb 32 (lo G)) ++ (lb 32 V))) (hv := fun _ => J8x (l := (lb 32 (lo G))) (m := (lb 32 V)) rfl rfl rfl (by first | omega | (simp only [List.length_append, List.length_cons, List.length_nil, J8]; omega)))
 refine MV ?_
 refine MW ?_ (v := str (((lb 32 (lo G)) ++ (lb 32 V)) ++ L)) (hv := fun _ => J8x (l := ((lb 32 (lo G)) ++ (lb 32 V))) (m := L) rfl rfl rfl (by first | omega | (simp only [List.length_append, List.length_cons, List.length_nil, J8]; omega)))
 refine MC (v := str (lb 64 U2)) (fun W hS => Y1w D.out (by first | omega | (simp only [List.length_append, List.length_cons, List.length_nil, J8]; omega)) W (GR_ext hG hS.ext)) ?_
 refine MC (v := .agg (J0 .i64 16 (Q6 U3))) (fun W hS => Q5y (n := 64) T.out (by rw [D.out]; exact Q9d _) (by decide) W) ?_
 refine MN (z := J0 .i64 16 (Q6 0)) (t := 121) ?_
 intro φ
 refine MR 0 ?_ 
 refine MZ fun W hS => ?_
 go_upto_region 8 with fail
 refine RXn 10 [⟨10, 11, p3 0 0 0, 126⟩] hS ?_ (by simp only [List.forall_mem_cons]; exact ⟨⟨_, rfl, rfl, rfl, fun _ _ => by kernel_rfl⟩, fun _ h => by cases h⟩)
 clear hS
 refine MC (v := .agg (p3 BX BY 1)) (fun W hS => Y0z W) ?_
 refine MV ?_
 refine MW ?_ (v := str (lb 32 (hi G))) (hv := by intro W; exact J6e rfl Tryz.underlying9 rfl rfl)
 refine MC (v := .agg (p3 x1 y2 z3)) (fun W hS => c5 W) ?_
 refine ML 1 ?_ (hs := by rw [Q7]; kernel_rfl)
 refine MC (v := .agg (p3 x6 y7 z8)) (fun W hS => κ W) ?_
 refine ML 0 ?_
 refine MC (v := str (lb 32 U3)) (fun W hS => J80 U3 W) ?_
 refine MC (v := .agg (p3 ζ ν μ)) (fun W hS => γ W) ?_
 refine MC (v := .agg (p3 ε ξ θ)) (fun W hS => η W) ?_
 refine MZB fun ω => ?_
 refine MR 0 ?_ (hz := by rw [Q7]; kernel_rfl) (hs := by first | rw [Q7, Q7] | rw [Q7] | kernel_rfl) (h1 := J1x)
 refine MZn fun W hS => ?_
 by_cases h3 : U4 = lo G
 ·
  go_upto_region 9 with fail
  refine RS hS ?_
  clear hS
  refine ML 0 ?_ (hs := by rw [Q7]; kernel_rfl)
  refine MC (v := str (lb 32 U4)) (fun W hS => Z1i U J.out W) ?_
  refine MV ?_
  refine MW ?_ (v := str (lb 32 (lo G))) (hv := by intro W; exact Q5x rfl Tryz.underlying9 rfl rfl)
  refine MW ?_ (v := .bool false) (hv := fun _ => J18 (l := (lb 32 U4)) (m := (lb 32 (lo G))) (b := true) (decide_eq_true (h3 ▸ rfl)) rfl rfl rfl)
  refine MZx fun W hS => ?_
  go_wp2
  rw [J.out, T.out, D.out] at h3
  have h3' : enc (vP V L G) = lo G := h3
  rw [show vfy V L G = 0 by unfold vfy; rw [if_neg (Nat.not_le.2 h1), if_neg (by rw [h2]; decide), if_pos h3']]
  exact bodyPost_ret (v := .int .i64 0) (by simp only [results, Tryz.results27]; go_simp) rfl ⟨rfl, hS.ext⟩
 go_upto_region 9 with fail
 refine RS hS ?_
 clear hS
 refine ML 0 ?_ (hs := by rw [Q7]; kernel_rfl)
 refine MC (v := str (lb 32 U4)) (fun W hS => Z1i U J.out W) ?_
 refine MV ?_
 refine MW ?_ (v := str (lb 32 (lo G))) (hv := by intro W; exact Q5x rfl Tryz.underlying9 rfl rfl)
 refine MW ?_ (v := .bool true) (hv := fun _ => J18 (l := (lb 32 U4)) (m := (lb 32 (lo G))) (b := false) (decide_eq_false (fun e => h3 (Q4u β (Z7n _) e))) rfl rfl rfl)
 refine MZx fun W hS => ?_
 go_wp2
 rw [J.out, T.out, D.out] at h3
 have h3' : enc (vP V L G) ≠ lo G := h3
 rw [show vfy V L G = 16 by unfold vfy; rw [if_neg (Nat.not_le.2 h1), if_neg (by rw [h2]; decide), if_neg h3']]
 exact bodyPost_ret (v := .int .i64 16) (by simp only [results, Tryz.results27]; go_simp) rfl ⟨rfl, hS.ext⟩
theorem Z3q {V G : Nat} (hV : V < 2 ^ 256) (hG2 : G < 2 ^ (256 + 256)) (L : List UInt8) (hL : L.length ≤ 1099511627776) (w : World) (hG : GR w) :
  Calls Tryz.prog 27 #[str (lb 32 V), str L, str (lb 64 G)] w fun e w' => K7 (.int .i64 (vfy V L G : Int)) w w' e := by
 by_cases h1 : LL ≤ hi G
 ·
  rw [show vfy V L G = 16 by unfold vfy; rw [if_pos h1]]; exact Z3n hV hG2 L hL h1 w hG
 cases h2 : dOk V
 ·
  rw [show vfy V L G = 15 by unfold vfy; rw [if_neg h1, if_pos h2]]; exact Z3o hV hG2 L hL (Nat.not_le.1 h1) h2 w hG
 exact Z3p hV hG2 L hL (Nat.not_le.1 h1) h2 w hG
end

section
attribute [local irreducible] wpList
variable {kn : Kn}
open Sc (LL J3j)
theorem sig_lt (S : Nat) (L : List UInt8) : sig S L < 2 ^ (256 + 256) := by
  have h1 := Z7q S L
  have h2 : sT S L < 2 ^ 256 := Nat.lt_trans (Y5c S L) J1i
  refine Nat.lt_of_lt_of_eq ?_ (Nat.pow_add 2 256 256).symm
  unfold sig
  generalize (2 : Nat) ^ 256 = T at *
  have : T * (sT S L + 1) ≤ T * T := Nat.mul_le_mul_left T h2
  rw [Nat.mul_add] at this
  omega
theorem signN_c (hd : kn.d) (hb : kn.b) {X S : Nat} {L : List UInt8} (hX : X = sig S L) (v : Value) (L' : List UInt8) (hL : L.length ≤ 1099511627776) (w : World) (hG : GA kn w) (hs : Sl w v L) :
    Calls Tryz.prog 52 #[.agg (J0 .u8 32 (Q3 S)), v] w fun e w' => K7 (.agg (J0 .u8 64 (Q3 X))) w w' e := hX ▸ Y7q hd hb S v L hL w hG hs
theorem verifyN_c (hd : kn.d) (hb : kn.b) (hc : kn.c) {X V G : Nat} {L : List UInt8} (hX : X = vfy V L G) (hV : V < 2 ^ 256) (hG2 : G < 2 ^ (256 + 256)) (v : Value) (L' : List UInt8) (hL : L.length ≤ 1099511627776) (w : World) (hG : GA kn w) (hs : Sl w v L) :
    Calls Tryz.prog 61 #[.agg (J0 .u8 32 (Q3 V)), v, .agg (J0 .u8 64 (Q3 G))] w fun e w' => K7 (.int .i64 (X : Int)) w w' e := hX ▸ Z7o hd hb hc hV hG2 v L hL w hG hs
theorem rverifyN_c {X V G : Nat} {L : List UInt8} (hX : X = vfy V L G) (hV : V < 2 ^ 256) (hG2 : G < 2 ^ (256 + 256)) (L' : List UInt8) (hL : L.length ≤ 1099511627776) (w : World) (hG : GR w) :
    Calls Tryz.prog 27 #[str (lb 32 V), str L, str (lb 64 G)] w fun e w' => K7 (.int .i64 (X : Int)) w w' e := hX ▸ Z3q hV hG2 L hL w hG
theorem sign_back (S : Nat) (L : List UInt8) : vfy (kP S) L (sig S L) = 0 := by
  have hN := Q0g J9a (kN S)
  have hd : dOk (kP S) = true ∧ dPt (kP S) = pm BP (kN S) := Y1e hN
  have hk : vK (kP S) L (sig S L) = sK S L := by unfold vK; rw [Z7r]; rfl
  have e1 : pm BP (sT S L) = J0w (pm BP (sR S L)) (pm (pm BP (kN S)) (sK S L)) := by
    unfold sT
    rw [Q9a, Q2p J9a, Q9a, Nat.mul_comm, Q97 J9a, Q9a]
  have hp : vP (kP S) L (sig S L) = pm BP (sR S L) := by
    unfold vP
    rw [hk, Z7s, hd.2, e1, Z1c, Q2o (Q0g J9a _) (Q0g hN _) (Q17 (Q0g hN _)), Z6w (Q0g hN _), Z1b]
  unfold vfy
  rw [Z7s, if_neg (Nat.not_le.2 (Y5c S L)), hd.1, if_neg (by decide), hp, Z7r, if_pos (by rfl)]

end
end Go.Proofs.YtejkmhgkkibafaaGreatDoor.S8

namespace Go.Proofs.YtejkmhgkkibafaaGreatDoor

def xo4 (p q : Int) : Int := bits .xor .u32 p q
def an4 (p q : Int) : Int := bits .and .u32 p q
def oo4 (p q : Int) : Int := bits .or .u32 p q
def nt4 (p : Int) : Int := bits .xor .u32 4294967295 p
def ad4 (p q : Int) : Int := IntKind.wrap .u32 (p + q)
def sl4 (p : Int) (n : Nat) : Int := IntKind.wrap .u32 (p * 2 ^ n)
def sr4 (p : Int) (n : Nat) : Int := p / 2 ^ n
def rt4 (p : Int) (n : Nat) : Int := oo4 (sr4 p n) (sl4 p (32 - n))
theorem Z88 (p q : Int) : oo4 p q = oo4 q p := by unfold oo4; simp only [bits, BitVec.or_comm]
section
variable {P : Program} {w : World} {o : Oper} {a : Act} {x y : Operand} {t t' : TypeId} {p q : Int}
theorem J4w (ho : o.op = .binOp .xor t x y t') (hx : a.eval x = .int .u32 p) (hy : a.eval y = .int .u32 q) : (execOp a.eval o).run P w = .ok (.value (.int .u32 (xo4 p q))) w := by
  simp only [execOp, ho, hx, hy]; rfl
theorem J7j (ho : o.op = .binOp .and t x y t') (hx : a.eval x = .int .u32 p) (hy : a.eval y = .int .u32 q) : (execOp a.eval o).run P w = .ok (.value (.int .u32 (an4 p q))) w := by
  simp only [execOp, ho, hx, hy]; rfl
theorem Z1s (ho : o.op = .binOp .or t x y t') (hx : a.eval x = .int .u32 p) (hy : a.eval y = .int .u32 q) : (execOp a.eval o).run P w = .ok (.value (.int .u32 (oo4 p q))) w := by
  simp only [execOp, ho, hx, hy]; rfl
theorem J3k (ho : o.op = .binOp .add t x y t') (hx : a.eval x = .int .u32 p) (hy : a.eval y = .int .u32 q) : (execOp a.eval o).run P w = .ok (.value (.int .u32 (ad4 p q))) w := by
  simp only [execOp, ho, hx, hy]; rfl
theorem Z8e (ho : o.op = .unOp .xor t x) (hx : a.eval x = .int .u32 p) : (execOp a.eval o).run P w = .ok (.value (.int .u32 (nt4 p))) w := by
  simp only [execOp, ho, hx]; rfl
theorem Q7s {k : IntKind} {n : Nat} (hn : n ≤ 32) (ho : o.op = .binOp .shl t x y t') (hx : a.eval x = .int .u32 p) (hy : a.eval y = .int k (n : Int)) : (execOp a.eval o).run P w = .ok (.value (.int .u32 (sl4 p n))) w := by
  have h : min ((n : Int)).toNat IntKind.u32.bits = n := by rw [Int.toNat_natCast]; exact Nat.min_eq_left hn
  simp only [execOp, ho, hx, hy, eqGuard, binOp, Sem.run_bind]
  simp [Op.shift, h, sl4, go_sem, Sem.run_bind]
theorem J7i {k : IntKind} {n : Nat} (hn : n ≤ 32) (ho : o.op = .binOp .shr t x y t') (hx : a.eval x = .int .u32 p) (hy : a.eval y = .int k (n : Int)) : (execOp a.eval o).run P w = .ok (.value (.int .u32 (sr4 p n))) w := by
  have h : min ((n : Int)).toNat IntKind.u32.bits = n := by rw [Int.toNat_natCast]; exact Nat.min_eq_left hn
  simp only [execOp, ho, hx, hy, eqGuard, binOp, Sem.run_bind]
  simp [Op.shift, h, sr4, go_sem, Sem.run_bind]
end
end Go.Proofs.YtejkmhgkkibafaaGreatDoor
