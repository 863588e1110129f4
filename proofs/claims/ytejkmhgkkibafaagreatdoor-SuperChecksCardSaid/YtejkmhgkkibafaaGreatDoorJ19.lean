/- Contracts and plain laws that superChecks_holds rests on. Conditions: the variables' cells hold the numbers of the program's text. -/
import Derived.Test.YtejkmhgkkibafaaGreatDoorJ6
import Derived.Test.YtejkmhgkkibafaaGreatDoorJ3
import Derived.Test.YtejkmhgkkibafaaGreatDoorJ8
import Derived.Test.YtejkmhgkkibafaaGreatDoorS8Ei
import Derived.Test.YtejkmhgkkibafaaGreatDoorJ9
import Derived.Test.YtejkmhgkkibafaaGreatDoorGc
open Go.RowKit
set_option maxRecDepth 100000
set_option linter.unusedSimpArgs false
set_option linter.unusedVariables false
namespace Go.Proofs.YtejkmhgkkibafaaGreatDoor.S8
section
set_option maxHeartbeats 1500000
attribute [local irreducible] wpList U0 wpX
variable {kn : Kn}

theorem J31 (w : World) :
  Calls Tryz.prog 149 #[] w fun e w' => K7 (L4 1) w w' e := by
 have hS := SH.nil [] w
 go_enter Tryz.func149, Tryz.ntmps149
 go_upto_region 0 with fail
 refine RL hS ?_
 clear hS
 refine MN (z := c4 0) (t := 155) ?_
 intro D
 refine MZ fun W hS => ?_
 go_upto_region 1 with fail
 refine RL hS ?_
 clear hS
 refine MC (v := .agg (c4 1)) (fun W hS => Y0k 1 (by decide) W) ?_
 refine MR 0 ?_ 
 refine MZ fun W hS => ?_
 go_wp2
 exact bodyPost_ret (Z6 rfl rfl (hS.blk (i := 0) rfl) (by kernel_rfl) (by kernel_rfl)) rfl ⟨rfl, hS.ext⟩
theorem Y4p {X Y : Nat} (hX : X < PP) (hY : Y < PP) (on : OnC (fp X, fp Y)) :
  ∃ T, RN X Y 1 T (fp X, fp Y) ∧ ∀ w, GE kn w → Calls Tryz.prog 130 #[L4 X, L4 Y] w fun e w' => K7 (.agg (p4 X Y 1 T)) w w' e := by
 have G := J06 X Y (Z0 hX) (Z0 hY)
 obtain ⟨N1, D⟩ := V3 (X * Y % PP)
 rw [← D] at G
 have M := bpp D
 have N := Z0 M
 have J := Lib.hid D
 clear D
 refine ⟨N1, Z6d hX hY on J.out, fun w hG => ?_⟩
 have hS := SH.nil [] w
 go_enter Tryz.func130, Tryz.ntmps130
 go_upto_region 0 with fail
 refine RL hS ?_
 clear hS
 refine MN (z := c4 X) (t := 155) ?_
 intro X5
 refine MN (z := c4 Y) (t := 155) ?_
 intro R
 refine MN (z := p4 0 0 0 0) (t := 157) ?_
 intro S
 refine MZ fun W hS => ?_
 go_upto_region 1 with fail
 refine RX 7 hS ?_
 clear hS
 refine ML 2 ?_
 refine ML 1 ?_
 refine MC (v := .agg (c4 1)) (fun W hS => J31 W) ?_
 refine ML 2 ?_
 refine ML 1 ?_
 refine MC (v := .agg (c4 N1)) (fun W hS => G W (Q8 hG hS.ext).1) ?_
 refine MW ?_ (v := .agg (p4 X Y 1 N1)) (hv := by intro W; kernel_rfl)
 refine MZt ?_
 refine MR 0 ?_ 
 refine MZn fun W hS => ?_
 go_wp2
 exact bodyPost_ret (Z6 rfl rfl (hS.blk (i := 0) rfl) (by kernel_rfl) (by kernel_rfl)) rfl ⟨rfl, hS.ext⟩
theorem Z6e {X1 Y1 Z1 T1 : Nat} (hb : Z1 < Q5) (hz : Z1 ≠ 0) (w : World) (hG : GE kn w) :
  Calls Tryz.prog 131 #[.agg (p4 X1 Y1 Z1 T1)] w fun e w' => K7 (.agg (p4 X1 Y1 Z1 T1)) w w' e := by
 have hS := SH.nil [] w
 go_enter Tryz.func131, Tryz.ntmps131
 go_upto_region 0 with fail
 refine RL hS ?_
 clear hS
 refine MN (z := p4 X1 Y1 Z1 T1) (t := 157) ?_
 intro J
 refine MN (z := p4 0 0 0 0) (t := 157) ?_
 intro G
 refine MZ fun W hS => ?_
 go_upto_region 1 with fail
 refine RL hS ?_
 clear hS
 refine MV ?_
 refine Ml 1 Q5d ?_
 refine MW ?_ (v := .agg (c4 0)) (hv := by intro W; kernel_rfl)
 have D := Y6i Z1 0 hb (by decide)
 rw [decide_eq_false hz] at D
 refine MW ?_ (v := .bool false) (hv := fun _ => J0t ((D) _) (by kernel_rfl) rfl rfl rfl)
 refine MZ fun W hS => ?_
 go_upto_region 3 with fail
 refine RL hS ?_
 clear hS
 refine ML 1 ?_
 refine MR 0 ?_ 
 refine MZ fun W hS => ?_
 go_wp2
 exact bodyPost_ret (Z6 rfl rfl (hS.blk (i := 0) rfl) (by kernel_rfl) (by kernel_rfl)) rfl ⟨rfl, hS.ext⟩
theorem Z6f {X1 Y1 T1 : Nat} (w : World) (hG : GE kn w) :
  Calls Tryz.prog 131 #[.agg (p4 X1 Y1 0 T1)] w fun e w' => K7 (.agg (p4 0 1 1 0)) w w' e := by
 have hS := SH.nil [] w
 go_enter Tryz.func131, Tryz.ntmps131
 go_upto_region 0 with fail
 refine RL hS ?_
 clear hS
 refine MN (z := p4 X1 Y1 0 T1) (t := 157) ?_
 intro J
 refine MN (z := p4 0 0 0 0) (t := 157) ?_
 intro G
 refine MZ fun W hS => ?_
 go_upto_region 1 with fail
 refine RL hS ?_
 clear hS
 refine MV ?_
 refine Ml 1 Q5d ?_
 refine MW ?_ (v := .agg (c4 0)) (hv := by intro W; kernel_rfl)
 have D := Y6i 0 0 (by decide) (by decide)
 rw [decide_eq_true rfl] at D
 refine MW ?_ (v := .bool true) (hv := fun _ => J0t ((D) _) (by kernel_rfl) rfl rfl rfl)
 refine MZ fun W hS => ?_
 go_upto_region 2 with fail
 refine RL hS ?_
 clear hS
 refine MC (v := .agg (c4 1)) (fun W hS => J31 W) ?_
 refine MC (v := .agg (c4 1)) (fun W hS => J31 W) ?_
 refine MW ?_ (v := .agg (p4 0 1 1 0)) (hv := by intro W; kernel_rfl)
 refine MR 0 ?_ 
 refine MZ fun W hS => ?_
 go_wp2
 exact bodyPost_ret (Z6 rfl rfl (hS.blk (i := 0) rfl) (by kernel_rfl) (by kernel_rfl)) rfl ⟨rfl, hS.ext⟩
theorem J5y {X Y Z T : Nat} {a : Pr} (h : RW X Y Z T a) : ∃ X' Y' Z' T', RN X' Y' Z' T' a ∧ ∀ w, GE kn w → Calls Tryz.prog 131 #[.agg (p4 X Y Z T)] w fun e w' => K7 (.agg (p4 X' Y' Z' T')) w w' e := by
 rcases h.cases with ⟨hz, h1⟩ | ⟨rfl, rfl⟩
 ·
  exact ⟨X, Y, Z, T, h1, fun w hG => Z6e h.z hz w hG⟩
 exact ⟨0, 1, 1, 0, rn_p0, fun w hG => Z6f w hG⟩
theorem Z6g {X1 Y1 Z1 T1 : Nat} {p1 : Pr} (h1 : RN X1 Y1 Z1 T1 p1) :
  ∃ X Y Z T, RN X Y Z T (J0w p1 p1) ∧ ∀ w, GE kn w → Calls Tryz.prog 132 #[.agg (p4 X1 Y1 Z1 T1)] w fun e w' => K7 (.agg (p4 X Y Z T)) w w' e := by
 have ω := J06 X1 X1 (Z0 h1.x) (Z0 h1.x)
 obtain ⟨N1, γ⟩ := V3 (X1 * X1 % PP)
 rw [← γ] at ω
 have M3 := bpp γ
 have D2 := Z0 M3
 have M2 := Lib.hid γ
 clear γ
 have Ξ := J06 Y1 Y1 (Z0 h1.y) (Z0 h1.y)
 obtain ⟨N2, δ⟩ := V3 (Y1 * Y1 % PP)
 rw [← δ] at Ξ
 have G7 := bpp δ
 have D5 := Z0 G7
 have J1 := Lib.hid δ
 clear δ
 have D1 := J06 Z1 Z1 (Z0 h1.z) (Z0 h1.z)
 obtain ⟨N3, S⟩ := V3 (Z1 * Z1 % PP)
 rw [← S] at D1
 have G9 := bpp S
 have D4 := Z0 G9
 have J6 := Lib.hid S
 clear S
 have τ := J4d N3 N3 D4 D4
 obtain ⟨N4, ε⟩ := V3 ((N3 + N3) % PP)
 rw [← ε] at τ
 have J7 := bpp ε
 have G8 := Z0 J7
 have J2 := Lib.hid ε
 clear ε
 have Ω := J4d N1 N2 D2 D5
 obtain ⟨N5, α⟩ := V3 ((N1 + N2) % PP)
 rw [← α] at Ω
 have J0 := bpp α
 have Γ := Z0 J0
 have J8 := Lib.hid α
 clear α
 have Θ := J4d X1 Y1 (Z0 h1.x) (Z0 h1.y)
 obtain ⟨N6, ζ⟩ := V3 ((X1 + Y1) % PP)
 rw [← ζ] at Θ
 have J5 := bpp ζ
 have D3 := Z0 J5
 have M4 := Lib.hid ζ
 clear ζ
 have ξ := J06 N6 N6 D3 D3
 obtain ⟨N7, U⟩ := V3 (N6 * N6 % PP)
 rw [← U] at ξ
 have M1 := bpp U
 have M5 := Z0 M1
 have J4 := Lib.hid U
 clear U
 have φ := J7a N5 N7 Γ M5
 obtain ⟨N8, V⟩ := V3 ((N5 + (PP - N7 % PP)) % PP)
 rw [← V] at φ
 have J3 := bpp V
 have D6 := Z0 J3
 have J9 := Lib.hid V
 clear V
 have Δ := J7a N1 N2 D2 D5
 obtain ⟨N9, ν⟩ := V3 ((N1 + (PP - N2 % PP)) % PP)
 rw [← ν] at Δ
 have M6 := bpp ν
 have D0 := Z0 M6
 have M0 := Lib.hid ν
 clear ν
 have μ := J4d N4 N9 G8 D0
 obtain ⟨R, M⟩ := V3 ((N4 + N9) % PP)
 rw [← M] at μ
 have G1 := bpp M
 have ψ := Z0 G1
 have D7 := Lib.hid M
 clear M
 have η := J06 N8 R D6 ψ
 obtain ⟨σ, D⟩ := V3 (N8 * R % PP)
 rw [← D] at η
 have G6 := bpp D
 have N0 := Z0 G6
 have G3 := Lib.hid D
 clear D
 have θ := J06 N9 N5 D0 Γ
 obtain ⟨ρ, G⟩ := V3 (N9 * N5 % PP)
 rw [← G] at θ
 have D8 := bpp G
 have M8 := Z0 D8
 have G0 := Lib.hid G
 clear G
 have β := J06 R N9 ψ D0
 obtain ⟨Ψ, J⟩ := V3 (R * N9 % PP)
 rw [← J] at β
 have G2 := bpp J
 have M7 := Z0 G2
 have G5 := Lib.hid J
 clear J
 have κ := J06 N8 N5 D6 Γ
 obtain ⟨χ, N⟩ := V3 (N8 * N5 % PP)
 rw [← N] at κ
 have G4 := bpp N
 have M9 := Z0 G4
 have D9 := Lib.hid N
 clear N
 refine ⟨σ, ρ, Ψ, χ, Q79 h1 M2.out J1.out J6.out J2.out J8.out M4.out J4.out J9.out M0.out D7.out G3.out G0.out G5.out D9.out, fun w hG => ?_⟩
 have hS := SH.nil [] w
 go_enter Tryz.func132, Tryz.ntmps132
 go_upto_region 0 with fail
 refine RL hS ?_
 clear hS
 refine MN (z := p4 X1 Y1 Z1 T1) (t := 157) ?_
 intro R4
 refine MN (z := p4 0 0 0 0) (t := 157) ?_
 intro R3
 refine MZ fun W hS => ?_
 go_upto_region 1 with fail
 refine RXn 10 [⟨10, 3, c4 0, 155⟩, ⟨11, 4, c4 0, 155⟩] hS ?_ (by simp only [List.forall_mem_cons]; exact ⟨⟨_, rfl, rfl, rfl, fun _ _ => by kernel_rfl⟩, ⟨_, rfl, rfl, rfl, fun _ _ => by kernel_rfl⟩, fun _ h => by cases h⟩)
 clear hS
 refine MV ?_
 refine Ml 1 Q3d ?_
 refine MV ?_
 refine Ml 1 Q3d ?_
 refine MC (v := .agg (c4 N1)) (fun W hS => ω W (Q8 hG hS.ext).1) ?_
 refine MV ?_
 refine Ml 1 Q5e ?_
 refine MV ?_
 refine Ml 1 Q5e ?_
 refine MC (v := .agg (c4 N2)) (fun W hS => Ξ W (Q8 hG hS.ext).1) ?_
 refine MZB fun R7 => ?_
 refine MR 0 ?_ 
 refine MR 1 ?_ 
 refine MZn fun W hS => ?_
 go_upto_region 2 with fail
 refine RL hS ?_
 clear hS
 refine MV ?_
 refine Ml 3 Q5d ?_
 refine MV ?_
 refine Ml 3 Q5d ?_
 refine MC (v := .agg (c4 N3)) (fun W hS => D1 W (Q8 hG hS.ext).1) ?_
 refine MN (z := c4 0) (t := 155) ?_
 intro R6
 refine MR 0 ?_ 
 refine MZ fun W hS => ?_
 go_upto_region 3 with fail
 refine RL hS ?_
 clear hS
 refine ML 0 ?_
 refine ML 0 ?_
 refine MC (v := .agg (c4 N4)) (fun W hS => τ W (Q8 hG hS.ext).1) ?_
 refine MR 0 ?_ 
 refine MZ fun W hS => ?_
 go_upto_region 4 with fail
 refine RL hS ?_
 clear hS
 refine ML 1 ?_
 refine ML 2 ?_
 refine MC (v := .agg (c4 N5)) (fun W hS => Ω W (Q8 hG hS.ext).1) ?_
 refine MN (z := c4 0) (t := 155) ?_
 intro R2
 refine MR 0 ?_ 
 refine MZ fun W hS => ?_
 go_upto_region 5 with fail
 refine RL hS ?_
 clear hS
 refine MV ?_
 refine Ml 5 Q3d ?_
 refine MV ?_
 refine Ml 5 Q5e ?_
 refine MC (v := .agg (c4 N6)) (fun W hS => Θ W (Q8 hG hS.ext).1) ?_
 refine MN (z := c4 0) (t := 155) ?_
 intro R5
 refine MR 0 ?_ 
 refine MZ fun W hS => ?_
 go_upto_region 6 with fail
 refine RXn 5 [⟨5, 8, c4 0, 155⟩] hS ?_ (by simp only [List.forall_mem_cons]; exact ⟨⟨_, rfl, rfl, rfl, fun _ _ => by kernel_rfl⟩, fun _ h => by cases h⟩)
 clear hS
 refine ML 1 ?_
 refine ML 0 ?_
 refine ML 0 ?_
 refine MC (v := .agg (c4 N7)) (fun W hS => ξ W (Q8 hG hS.ext).1) ?_
 refine MC (v := .agg (c4 N8)) (fun W hS => φ W (Q8 hG hS.ext).1) ?_
 refine MZB fun R8 => ?_
 refine MR 0 ?_ 
 refine MZn fun W hS => ?_
 go_upto_region 7 with fail
 refine RL hS ?_
 clear hS
 refine ML 4 ?_
 refine ML 5 ?_
 refine MC (v := .agg (c4 N9)) (fun W hS => Δ W (Q8 hG hS.ext).1) ?_
 refine MN (z := c4 0) (t := 155) ?_
 intro R0
 refine MR 0 ?_ 
 refine MZ fun W hS => ?_
 go_upto_region 8 with fail
 refine RL hS ?_
 clear hS
 refine ML 4 ?_
 refine ML 0 ?_
 refine MC (v := .agg (c4 R)) (fun W hS => μ W (Q8 hG hS.ext).1) ?_
 refine MN (z := c4 0) (t := 155) ?_
 intro R1
 refine MR 0 ?_ 
 refine MZ fun W hS => ?_
 go_upto_region 9 with fail
 refine RX 13 hS ?_
 clear hS
 refine ML 2 ?_
 refine ML 0 ?_
 refine MC (v := .agg (c4 σ)) (fun W hS => η W (Q8 hG hS.ext).1) ?_
 refine ML 1 ?_
 refine ML 4 ?_
 refine MC (v := .agg (c4 ρ)) (fun W hS => θ W (Q8 hG hS.ext).1) ?_
 refine ML 0 ?_
 refine ML 1 ?_
 refine MC (v := .agg (c4 Ψ)) (fun W hS => β W (Q8 hG hS.ext).1) ?_
 refine ML 2 ?_
 refine ML 4 ?_
 refine MC (v := .agg (c4 χ)) (fun W hS => κ W (Q8 hG hS.ext).1) ?_
 refine MW ?_ (v := .agg (p4 σ ρ Ψ χ)) (hv := by intro W; kernel_rfl)
 refine MZt ?_
 refine MR 8 ?_ 
 refine MZn fun W hS => ?_
 go_wp2
 exact bodyPost_ret (Z6 rfl rfl (hS.blk (i := 8) rfl) (by kernel_rfl) (by kernel_rfl)) rfl ⟨rfl, hS.ext⟩
theorem Z6h (hd : kn.d) {X1 Y1 Z1 T1 : Nat} {p1 : Pr} {X2 Y2 Z2 T2 : Nat} {p2 : Pr} (h1 : RW X1 Y1 Z1 T1 p1) (h2 : RW X2 Y2 Z2 T2 p2) :
  ∃ X Y Z T, RN X Y Z T (J0w p1 p2) ∧ ∀ w, GE kn w → Calls Tryz.prog 107 #[.agg (p4 X1 Y1 Z1 T1), .agg (p4 X2 Y2 Z2 T2)] w fun e w' => K7 (.agg (p4 X Y Z T)) w w' e := by
 obtain ⟨x1, y2, z3, t4, r5, c6⟩ := J5y (kn := kn) h1
 obtain ⟨x7, y8, z9, J8, D, T5⟩ := J5y (kn := kn) h2
 have D0 := J7a y2 x1 (Z0 r5.y) (Z0 r5.x)
 obtain ⟨J2, S⟩ := V3 ((y2 + (PP - x1 % PP)) % PP)
 rw [← S] at D0
 have R4 := bpp S
 have M3 := Z0 R4
 have S5 := Lib.hid S
 clear S
 have G0 := J7a y8 x7 (Z0 D.y) (Z0 D.x)
 obtain ⟨G7, μ⟩ := V3 ((y8 + (PP - x7 % PP)) % PP)
 rw [← μ] at G0
 have R6 := bpp μ
 have S4 := Z0 R6
 have N9 := Lib.hid μ
 clear μ
 have ω := J06 J2 G7 M3 S4
 obtain ⟨τ, δ⟩ := V3 (J2 * G7 % PP)
 rw [← δ] at ω
 have M5 := bpp δ
 have G3 := Z0 M5
 have M6 := Lib.hid δ
 clear δ
 have D5 := J4d y2 x1 (Z0 r5.y) (Z0 r5.x)
 obtain ⟨J5, N⟩ := V3 ((y2 + x1) % PP)
 rw [← N] at D5
 have S6 := bpp N
 have S2 := Z0 S6
 have S8 := Lib.hid N
 clear N
 have Ω := J4d y8 x7 (Z0 D.y) (Z0 D.x)
 obtain ⟨G2, κ⟩ := V3 ((y8 + x7) % PP)
 rw [← κ] at Ω
 have S1 := bpp κ
 have S7 := Z0 S1
 have N5 := Lib.hid κ
 clear κ
 have D4 := J06 J5 G2 S2 S7
 obtain ⟨ψ, V⟩ := V3 (J5 * G2 % PP)
 rw [← V] at D4
 have M1 := bpp V
 have G9 := Z0 M1
 have R9 := Lib.hid V
 clear V
 have D3 := J06 t4 D2 (Z0 r5.t) V02
 obtain ⟨J4, U⟩ := V3 (t4 * D2 % PP)
 rw [← U] at D3
 have S3 := bpp U
 have M4 := Z0 S3
 have T0 := Lib.hid U
 clear U
 have D6 := J06 J4 J8 M4 (Z0 D.t)
 obtain ⟨ξ, θ⟩ := V3 (J4 * J8 % PP)
 rw [← θ] at D6
 have S0 := bpp θ
 have M0 := Z0 S0
 have R5 := Lib.hid θ
 clear θ
 have Δ := J4d z3 z3 (Z0 r5.z) (Z0 r5.z)
 obtain ⟨G4, G⟩ := V3 ((z3 + z3) % PP)
 rw [← G] at Δ
 have M9 := bpp G
 have R8 := Z0 M9
 have R0 := Lib.hid G
 clear G
 have Ψ := J06 G4 z9 R8 (Z0 D.z)
 obtain ⟨σ, α⟩ := V3 (G4 * z9 % PP)
 rw [← α] at Ψ
 have N3 := bpp α
 have J1 := Z0 N3
 have T4 := Lib.hid α
 clear α
 have Θ := J7a ψ τ G9 G3
 obtain ⟨ν, M⟩ := V3 ((ψ + (PP - τ % PP)) % PP)
 rw [← M] at Θ
 have N2 := bpp M
 have G5 := Z0 N2
 have R7 := Lib.hid M
 clear M
 have D7 := J7a σ ξ J1 M0
 obtain ⟨χ, ε⟩ := V3 ((σ + (PP - ξ % PP)) % PP)
 rw [← ε] at D7
 have N4 := bpp ε
 have G6 := Z0 N4
 have N1 := Lib.hid ε
 clear ε
 have G1 := J4d σ ξ J1 M0
 obtain ⟨ρ, η⟩ := V3 ((σ + ξ) % PP)
 rw [← η] at G1
 have M7 := bpp η
 have G8 := Z0 M7
 have S9 := Lib.hid η
 clear η
 have D8 := J4d ψ τ G9 G3
 obtain ⟨φ, ζ⟩ := V3 ((ψ + τ) % PP)
 rw [← ζ] at D8
 have R1 := bpp ζ
 have J9 := Z0 R1
 have M2 := Lib.hid ζ
 clear ζ
 have D9 := J06 ν χ G5 G6
 obtain ⟨J0, J⟩ := V3 (ν * χ % PP)
 rw [← J] at D9
 have R2 := bpp J
 have T9 := Z0 R2
 have N7 := Lib.hid J
 clear J
 have Ξ := J06 ρ φ G8 J9
 obtain ⟨J7, β⟩ := V3 (ρ * φ % PP)
 rw [← β] at Ξ
 have R3 := bpp β
 have T7 := Z0 R3
 have M8 := Lib.hid β
 clear β
 have Γ := J06 χ ρ G6 G8
 obtain ⟨J3, R⟩ := V3 (χ * ρ % PP)
 rw [← R] at Γ
 have T3 := bpp R
 have T6 := Z0 T3
 have N8 := Lib.hid R
 clear R
 have D1 := J06 ν φ G5 J9
 obtain ⟨J6, γ⟩ := V3 (ν * φ % PP)
 rw [← γ] at D1
 have N0 := bpp γ
 have T8 := Z0 N0
 have N6 := Lib.hid γ
 clear γ
 refine ⟨J0, J7, J3, J6, Z6i r5 D S5.out N9.out M6.out S8.out N5.out R9.out T0.out R5.out R0.out T4.out R7.out N1.out S9.out M2.out N7.out M8.out N8.out N6.out, fun w hG => ?_⟩
 have hS := SH.nil [] w
 go_enter Tryz.func107, Tryz.ntmps107
 go_upto_region 0 with fail
 refine RL hS ?_
 clear hS
 refine MN (z := p4 X1 Y1 Z1 T1) (t := 157) ?_
 intro X5
 refine MN (z := p4 X2 Y2 Z2 T2) (t := 157) ?_
 intro V1
 refine MN (z := p4 0 0 0 0) (t := 157) ?_
 intro V0
 refine MZ fun W hS => ?_
 go_upto_region 1 with fail
 refine RX 4 hS ?_
 clear hS
 refine ML 2 ?_
 refine MC (v := .agg (p4 x1 y2 z3 t4)) (fun W hS => c6 W (Q8 hG hS.ext)) ?_
 refine ML 1 ?_
 refine MC (v := .agg (p4 x7 y8 z9 J8)) (fun W hS => T5 W (Q8 hG hS.ext)) ?_
 refine MZt ?_
 refine MR 2 ?_ 
 refine MR 1 ?_ 
 refine MZn fun W hS => ?_
 go_upto_region 2 with fail
 refine RXn 11 [⟨11, 5, c4 0, 155⟩] hS ?_ (by simp only [List.forall_mem_cons]; exact ⟨⟨_, rfl, rfl, rfl, fun _ _ => by kernel_rfl⟩, fun _ h => by cases h⟩)
 clear hS
 refine MV ?_
 refine Ml 2 Q5e ?_
 refine MV ?_
 refine Ml 2 Q3d ?_
 refine MC (v := .agg (c4 J2)) (fun W hS => D0 W (Q8 hG hS.ext).1) ?_
 refine MV ?_
 refine Ml 1 Q5e ?_
 refine MV ?_
 refine Ml 1 Q3d ?_
 refine MC (v := .agg (c4 G7)) (fun W hS => G0 W (Q8 hG hS.ext).1) ?_
 refine MC (v := .agg (c4 τ)) (fun W hS => ω W (Q8 hG hS.ext).1) ?_
 refine MZB fun V5 => ?_
 refine MR 0 ?_ 
 refine MZn fun W hS => ?_
 go_upto_region 3 with fail
 refine RXn 11 [⟨11, 6, c4 0, 155⟩] hS ?_ (by simp only [List.forall_mem_cons]; exact ⟨⟨_, rfl, rfl, rfl, fun _ _ => by kernel_rfl⟩, fun _ h => by cases h⟩)
 clear hS
 refine MV ?_
 refine Ml 3 Q5e ?_
 refine MV ?_
 refine Ml 3 Q3d ?_
 refine MC (v := .agg (c4 J5)) (fun W hS => D5 W (Q8 hG hS.ext).1) ?_
 refine MV ?_
 refine Ml 2 Q5e ?_
 refine MV ?_
 refine Ml 2 Q3d ?_
 refine MC (v := .agg (c4 G2)) (fun W hS => Ω W (Q8 hG hS.ext).1) ?_
 refine MC (v := .agg (c4 ψ)) (fun W hS => D4 W (Q8 hG hS.ext).1) ?_
 refine MZB fun V2 => ?_
 refine MR 0 ?_ 
 refine MZn fun W hS => ?_
 go_upto_region 4 with fail
 refine RXn 7 [⟨7, 7, c4 0, 155⟩] hS ?_ (by simp only [List.forall_mem_cons]; exact ⟨⟨_, rfl, rfl, rfl, fun _ _ => by kernel_rfl⟩, fun _ h => by cases h⟩)
 clear hS
 refine MV ?_
 refine Ml 4 Y6k ?_
 refine MF (v := .agg (c4 D2)) (fun W hS => J1v rfl rfl ((Q8 hG hS.ext).2.2.2.1 hd) (by kernel_rfl) (by kernel_rfl)) ?_
 refine MC (v := .agg (c4 J4)) (fun W hS => D3 W (Q8 hG hS.ext).1) ?_
 refine MV ?_
 refine Ml 3 Y6k ?_
 refine MC (v := .agg (c4 ξ)) (fun W hS => D6 W (Q8 hG hS.ext).1) ?_
 refine MZB fun V4 => ?_
 refine MR 0 ?_ 
 refine MZn fun W hS => ?_
 go_upto_region 5 with fail
 refine RXn 8 [⟨8, 8, c4 0, 155⟩] hS ?_ (by simp only [List.forall_mem_cons]; exact ⟨⟨_, rfl, rfl, rfl, fun _ _ => by kernel_rfl⟩, fun _ h => by cases h⟩)
 clear hS
 refine MV ?_
 refine Ml 5 Q5d ?_
 refine MV ?_
 refine Ml 5 Q5d ?_
 refine MC (v := .agg (c4 G4)) (fun W hS => Δ W (Q8 hG hS.ext).1) ?_
 refine MV ?_
 refine Ml 4 Q5d ?_
 refine MC (v := .agg (c4 σ)) (fun W hS => Ψ W (Q8 hG hS.ext).1) ?_
 refine MZB fun V7 => ?_
 refine MR 0 ?_ 
 refine MZn fun W hS => ?_
 go_upto_region 6 with fail
 refine RXn 12 [⟨12, 9, c4 0, 155⟩, ⟨13, 10, c4 0, 155⟩, ⟨14, 11, c4 0, 155⟩, ⟨15, 12, c4 0, 155⟩] hS ?_ (by simp only [List.forall_mem_cons]; exact ⟨⟨_, rfl, rfl, rfl, fun _ _ => by kernel_rfl⟩, ⟨_, rfl, rfl, rfl, fun _ _ => by kernel_rfl⟩, ⟨_, rfl, rfl, rfl, fun _ _ => by kernel_rfl⟩, ⟨_, rfl, rfl, rfl, fun _ _ => by kernel_rfl⟩, fun _ h => by cases h⟩)
 clear hS
 refine ML 2 ?_
 refine ML 3 ?_
 refine MC (v := .agg (c4 ν)) (fun W hS => Θ W (Q8 hG hS.ext).1) ?_
 refine ML 0 ?_
 refine ML 1 ?_
 refine MC (v := .agg (c4 χ)) (fun W hS => D7 W (Q8 hG hS.ext).1) ?_
 refine ML 0 ?_
 refine ML 1 ?_
 refine MC (v := .agg (c4 ρ)) (fun W hS => G1 W (Q8 hG hS.ext).1) ?_
 refine ML 2 ?_
 refine ML 3 ?_
 refine MC (v := .agg (c4 φ)) (fun W hS => D8 W (Q8 hG hS.ext).1) ?_
 refine MZB fun V6 => ?_
 refine MR 0 ?_ 
 refine MR 1 ?_ 
 refine MR 2 ?_ 
 refine MR 3 ?_ 
 refine MZn fun W hS => ?_
 go_upto_region 7 with fail
 refine RX 13 hS ?_
 clear hS
 refine ML 0 ?_
 refine ML 1 ?_
 refine MC (v := .agg (c4 J0)) (fun W hS => D9 W (Q8 hG hS.ext).1) ?_
 refine ML 2 ?_
 refine ML 3 ?_
 refine MC (v := .agg (c4 J7)) (fun W hS => Ξ W (Q8 hG hS.ext).1) ?_
 refine ML 1 ?_
 refine ML 2 ?_
 refine MC (v := .agg (c4 J3)) (fun W hS => Γ W (Q8 hG hS.ext).1) ?_
 refine ML 0 ?_
 refine ML 3 ?_
 refine MC (v := .agg (c4 J6)) (fun W hS => D1 W (Q8 hG hS.ext).1) ?_
 refine MW ?_ (v := .agg (p4 J0 J7 J3 J6)) (hv := by intro W; kernel_rfl)
 refine MZt ?_
 refine MR 8 ?_ 
 refine MZn fun W hS => ?_
 go_wp2
 exact bodyPost_ret (Z6 rfl rfl (hS.blk (i := 8) rfl) (by kernel_rfl) (by kernel_rfl)) rfl ⟨rfl, hS.ext⟩
theorem Y6l {X1 Y1 Z1 T1 : Nat} {p1 : Pr} (h1 : RW X1 Y1 Z1 T1 p1) :
  ∃ X Y Z T, RN X Y Z T (J52 p1) ∧ ∀ w, GE kn w → Calls Tryz.prog 108 #[.agg (p4 X1 Y1 Z1 T1)] w fun e w' => K7 (.agg (p4 X Y Z T)) w w' e := by
 obtain ⟨x1, y2, z3, t4, r5, c6⟩ := J5y (kn := kn) h1
 have J := J8k x1 (Z0 r5.x)
 obtain ⟨N7, G⟩ := V3 ((PP - x1 % PP) % PP)
 rw [← G] at J
 have N := bpp G
 have γ := Z0 N
 have S := Lib.hid G
 clear G
 have M := J8k t4 (Z0 r5.t)
 obtain ⟨N8, D⟩ := V3 ((PP - t4 % PP) % PP)
 rw [← D] at M
 have R := bpp D
 have α := Z0 R
 have U := Lib.hid D
 clear D
 refine ⟨N7, y2, z3, N8, Y6m r5 S.out U.out, fun w hG => ?_⟩
 have hS := SH.nil [] w
 go_enter Tryz.func108, Tryz.ntmps108
 go_upto_region 0 with fail
 refine RL hS ?_
 clear hS
 refine MN (z := p4 X1 Y1 Z1 T1) (t := 157) ?_
 intro β
 refine MN (z := p4 0 0 0 0) (t := 157) ?_
 intro V
 refine MZ fun W hS => ?_
 go_upto_region 1 with fail
 refine RL hS ?_
 clear hS
 refine ML 1 ?_
 refine MC (v := .agg (p4 x1 y2 z3 t4)) (fun W hS => c6 W (Q8 hG hS.ext)) ?_
 refine MR 1 ?_ 
 refine MZ fun W hS => ?_
 go_upto_region 2 with fail
 refine RX 11 hS ?_
 clear hS
 refine MV ?_
 refine Ml 1 Q3d ?_
 refine MC (v := .agg (c4 N7)) (fun W hS => J W (Q8 hG hS.ext).1) ?_
 refine MV ?_
 refine Ml 1 Q5e ?_
 refine MV ?_
 refine Ml 1 Q5d ?_
 refine MV ?_
 refine Ml 1 Y6k ?_
 refine MC (v := .agg (c4 N8)) (fun W hS => M W (Q8 hG hS.ext).1) ?_
 refine MW ?_ (v := .agg (p4 N7 y2 z3 N8)) (hv := by intro W; kernel_rfl)
 refine MZt ?_
 refine MR 0 ?_ 
 refine MZn fun W hS => ?_
 go_wp2
 exact bodyPost_ret (Z6 rfl rfl (hS.blk (i := 0) rfl) (by kernel_rfl) (by kernel_rfl)) rfl ⟨rfl, hS.ext⟩
theorem Q5f (hb : kn.b) :
  ∃ X Y Z T, RN X Y Z T BP ∧ ∀ w, GE kn w → Calls Tryz.prog 89 #[] w fun e w' => K7 (.agg (p4 X Y Z T)) w w' e := by
 obtain ⟨t1, r2, c3⟩ := Y4p (kn := kn) (X := BX) (Y := BY) (by decide) (by decide) J9a
 refine ⟨BX, BY, 1, t1, r2, fun w hG => ?_⟩
 have hS := SH.nil [] w
 go_enter Tryz.func89, Tryz.ntmps89
 go_upto_region 0 with fail
 refine RL hS ?_
 clear hS
 refine MN (z := p4 0 0 0 0) (t := 157) ?_
 intro D
 refine MZ fun W hS => ?_
 go_upto_region 1 with fail
 refine RL hS ?_
 clear hS
 refine MF (v := .agg (c4 BX)) (fun W hS => J1v rfl rfl ((Q8 hG hS.ext).2.2.2.2.1 hb) (by kernel_rfl) (by kernel_rfl)) ?_
 refine MF (v := .agg (c4 BY)) (fun W hS => J1v rfl rfl ((Q8 hG hS.ext).2.2.2.2.2 hb) (by kernel_rfl) (by kernel_rfl)) ?_
 refine MC (v := .agg (p4 BX BY 1 t1)) (fun W hS => c3 W (Q8 hG hS.ext)) ?_
 refine MR 0 ?_ 
 refine MZ fun W hS => ?_
 go_wp2
 exact bodyPost_ret (Z6 rfl rfl (hS.blk (i := 0) rfl) (by kernel_rfl) (by kernel_rfl)) rfl ⟨rfl, hS.ext⟩
end

section
set_option maxHeartbeats 1500000
attribute [local irreducible] wpList U0 wpX
variable {kn : Kn}
theorem Q13 {A : Nat} (h : A < PP) : A < 2 ^ 256 := Nat.lt_trans h (by decide)
theorem V03 {X Y Z i x y : Nat} {a : Pr} (r : RD X Y Z a) (ei : i = pw Z (PP - 2)) (ex : x = X * i % PP) (ey : y = Y * i % PP) (ho : x % 2 = 1) : J0 .u8 32 (upd (Q3 y) 31 (bits .or .u8 (Q3 y 31) 128)) = J0 .u8 32 (Q3 (enc a)) := by
 obtain ⟨h1, h2⟩ := Q5g r ei ex ey
 rw [Y4q (Nat.lt_trans (ey ▸ J1w _) Q5h)]
 unfold enc
 rw [← h1, ← h2, ho]
theorem V04 {X Y Z i x y : Nat} {a : Pr} (r : RD X Y Z a) (ei : i = pw Z (PP - 2)) (ex : x = X * i % PP) (ey : y = Y * i % PP) (ho : ¬ x % 2 = 1) : J0 .u8 32 (Q3 y) = J0 .u8 32 (Q3 (enc a)) := by
 obtain ⟨h1, h2⟩ := Q5g r ei ex ey
 have : x % 2 = 0 := by omega
 unfold enc
 rw [← h1, ← h2, this, Nat.mul_zero, Nat.add_zero]


theorem Y6n {X1 Y1 Z1 T1 : Nat} {p1 : Pr} (h1 : RW X1 Y1 Z1 T1 p1) :
  ∀ w, GE kn w → Calls Tryz.prog 92 #[.agg (p4 X1 Y1 Z1 T1)] w fun e w' => K7 (.agg (J0 .u8 32 (Q3 (enc p1)))) w w' e := by
 obtain ⟨x1, y2, z3, t4, r5, c6⟩ := J5y (kn := kn) h1
 have S := Y6h z3 (Z0 r5.z)
 obtain ⟨N7, R⟩ := V3 (pw z3 (PP - 2))
 rw [← R] at S
 have ε := bpp R
 have β := Z0 ε
 have α := Lib.hid R
 clear R
 have T := J06 y2 N7 (Z0 r5.y) β
 obtain ⟨N8, N⟩ := V3 (y2 * N7 % PP)
 rw [← N] at T
 have Z := bpp N
 have ζ := Z0 Z
 have γ := Lib.hid N
 clear N
 have Y := Q2g N8 ζ
 rw [Nat.mod_eq_of_lt Z] at Y
 have J := J06 x1 N7 (Z0 r5.x) β
 obtain ⟨M, G⟩ := V3 (x1 * N7 % PP)
 rw [← G] at J
 have V := bpp G
 have δ := Z0 V
 have U := Lib.hid G
 clear G
 have D := Q8x M δ
 rw [Nat.mod_eq_of_lt V] at D
 intro w hG
 have hS := SH.nil [] w
 go_enter Tryz.func92, Tryz.ntmps92
 go_upto_region 0 with fail
 refine RL hS ?_
 clear hS
 refine MN (z := p4 X1 Y1 Z1 T1) (t := 157) ?_
 intro κ
 refine MN (z := J0 .u8 32 (Q3 0)) (t := 23) ?_
 intro θ
 refine MZ fun W hS => ?_
 go_upto_region 1 with fail
 refine RL hS ?_
 clear hS
 refine ML 1 ?_
 refine MC (v := .agg (p4 x1 y2 z3 t4)) (fun W hS => c6 W (Q8 hG hS.ext)) ?_
 refine MR 1 ?_ 
 refine MZ fun W hS => ?_
 go_upto_region 2 with fail
 refine RL hS ?_
 clear hS
 refine MV ?_
 refine Ml 1 Q5d ?_
 refine MC (v := .agg (c4 N7)) (fun W hS => S W (Q8 hG hS.ext).1) ?_
 refine MN (z := c4 0) (t := 155) ?_
 intro η
 refine MR 0 ?_ 
 refine MZ fun W hS => ?_
 go_upto_region 3 with fail
 refine RL hS ?_
 clear hS
 refine MV ?_
 refine Ml 2 Q5e ?_
 refine ML 0 ?_
 refine MC (v := .agg (c4 N8)) (fun W hS => T W (Q8 hG hS.ext).1) ?_
 refine MC (v := .agg (J0 .u8 32 (Q3 N8))) (fun W hS => Y W (Q8 hG hS.ext).1) ?_
 refine MN (z := J0 .u8 32 (Q3 0)) (t := 23) ?_
 intro X
 refine MR 0 ?_ 
 refine MZ fun W hS => ?_
 by_cases ho : M % 2 = 1
 ·
  go_upto_region 4 with fail
  refine RL hS ?_
  clear hS
  refine MV ?_
  refine Ml 3 Q3d ?_
  refine ML 1 ?_
  refine MC (v := .agg (c4 M)) (fun W hS => J W (Q8 hG hS.ext).1) ?_
  rw [decide_eq_true ho] at D
  refine MC (v := .bool true) (fun W hS => D W (Q8 hG hS.ext).1) ?_
  refine MZ fun W hS => ?_
  go_upto_region 5 with fail
  refine RL hS ?_
  clear hS
  refine MW ?_ (v := .pointer (some ⟨X, 0 + 31, none⟩)) (hv := fun _ => J5 (m := 32) (by decide) (by decide) Tryz.underlying23 (by kernel_rfl) rfl rfl rfl)
  refine MG 0 ?_ (j := 0 + 31) (v := .int .u8 ((Q3 N8) 31)) (hj := by rw [Nat.zero_add]; exact J3 _ _ _ _ (by decide))
  refine MW ?_ (v := .int .u8 (bits .or .u8 (Q3 N8 31) 128)) (hv := by intro W; exact Z11 rfl rfl rfl rfl)
  refine MW ?_ (v := .pointer (some ⟨X, 0 + 31, none⟩)) (hv := fun _ => J5 (m := 32) (by decide) (by decide) Tryz.underlying23 (by kernel_rfl) rfl rfl rfl)
  refine MP 0 (v := .int .u8 (bits .or .u8 (Q3 N8 31) 128)) (cs' := J0 .u8 32 (upd (Q3 N8) 31 (bits .or .u8 (Q3 N8 31) 128))) ?_ (hs := by rw [J1, Nat.zero_add]; decide) (hc := by rw [Nat.zero_add]; exact V4 _ _ _ _ _)
  refine MT (fun W hS => by rw [V03 r5.rr α.out U.out γ.out ho] at hS; exact hS) ?_
  refine MZ fun W hS => ?_
  go_upto_region 6 with fail
  refine RL hS ?_
  clear hS
  refine ML 0 ?_
  refine MR 2 ?_ 
  refine MZ fun W hS => ?_
  go_wp2
  exact bodyPost_ret (Z6 rfl rfl (hS.blk (i := 2) rfl) (by kernel_rfl) (by rw [J1]; kernel_rfl)) rfl ⟨rfl, hS.ext⟩
 go_upto_region 4 with fail
 refine RL hS ?_
 clear hS
 refine MV ?_
 refine Ml 3 Q3d ?_
 refine ML 1 ?_
 refine MC (v := .agg (c4 M)) (fun W hS => J W (Q8 hG hS.ext).1) ?_
 rw [decide_eq_false ho] at D
 refine MC (v := .bool false) (fun W hS => D W (Q8 hG hS.ext).1) ?_
 refine MZ fun W hS => ?_
 rw [V04 r5.rr α.out U.out γ.out ho] at hS
 go_upto_region 6 with fail
 refine RL hS ?_
 clear hS
 refine ML 0 ?_
 refine MR 2 ?_ 
 refine MZ fun W hS => ?_
 go_wp2
 exact bodyPost_ret (Z6 rfl rfl (hS.blk (i := 2) rfl) (by kernel_rfl) (by rw [J1]; kernel_rfl)) rfl ⟨rfl, hS.ext⟩
end

section
set_option maxHeartbeats 1500000
attribute [local irreducible] wpList U0 wpX
variable {kn : Kn}
theorem Z6k {p : Int} {x : Nat} (h : p = (x : Int)) (hx : x < 256) : bits .and .u8 p 1 = ((x % 2 : Nat) : Int) := by
 subst h
 refine (u8_and_nat x 1 hx (by decide)).trans ?_
 rw [Nat.and_one_is_mod]
theorem Z15 (n q r : Nat) (hr : r < 8) : bits .and .u8 (Q3 n q / 2 ^ r) 1 = ((n / 2 ^ (8 * q + r) % 2 : Nat) : Int) := by
 have h0 : n / 2 ^ (8 * q) % 256 / 2 ^ r % 2 = n / 2 ^ (8 * q + r) % 2 := by
  rw [Nat.pow_add, ← Nat.div_div_eq_div_mul]
  generalize n / 2 ^ (8 * q) = x
  obtain ⟨d, hd⟩ : ∃ d, 8 = r + (1 + d) := ⟨7 - r, by omega⟩
  rw [show 256 = 2 ^ 8 by decide, hd, Nat.pow_add 2 r, Nat.mod_mul_right_div_self, Nat.pow_add 2 1 d, Nat.pow_one, Nat.mod_mul_right_mod]
 have e : Q3 n q / 2 ^ r = ((n / 2 ^ (8 * q) % 256 / 2 ^ r : Nat) : Int) := by
  unfold Q3
  rw [Int.natCast_ediv, Int.natCast_pow]; rfl
 rw [Z6k e (Nat.lt_of_le_of_lt (Nat.div_le_self _ _) (Nat.mod_lt _ (by decide))), h0]
theorem Z16 {a : Pr} (ha : OnC a) {n i : Nat} (h : n / 2 ^ i % 2 = 0) : pm a (n / 2 ^ i) = J0w (pm a (n / 2 ^ (i + 1))) (pm a (n / 2 ^ (i + 1))) := by
 rw [← Q2l ha]
 congr 1
 rw [Nat.pow_succ, ← Nat.div_div_eq_div_mul]; omega
theorem Q7c {a : Pr} (ha : OnC a) {n i : Nat} (h : n / 2 ^ i % 2 = 1) : pm a (n / 2 ^ i) = J0w (J0w (pm a (n / 2 ^ (i + 1))) (pm a (n / 2 ^ (i + 1)))) a := by
 rw [← Y6p ha]
 congr 1
 rw [Nat.pow_succ, ← Nat.div_div_eq_div_mul]; omega
abbrev T4 := Nat × Nat × Nat × Nat
def pc (s : T4) : Array Value := p4 s.1 s.2.1 s.2.2.1 s.2.2.2
def RT (s : T4) (a : Pr) : Prop := RN s.1 s.2.1 s.2.2.1 s.2.2.2 a
structure TStep (kn : Kn) (P : T4) (n j : Nat) (s g s' : T4) : Prop where
 tw : ∀ w, GE kn w → Calls Tryz.prog 132 #[.agg (pc s)] w fun e w' => K7 (.agg (pc g)) w w' e
 ad : n / 2 ^ j % 2 = 1 → ∀ w, GE kn w → Calls Tryz.prog 107 #[.agg (pc g), .agg (pc P)] w fun e w' => K7 (.agg (pc s')) w w' e
 no : ¬ n / 2 ^ j % 2 = 1 → s' = g
theorem V05 (hd : kn.d) {P s : T4} {a : Pr} {n j : Nat} (hP : RT P a) (hs : RT s (pm a (n / 2 ^ (j + 1)))) : ∃ g s', TStep kn P n j s g s' ∧ RT s' (pm a (n / 2 ^ j)) := by
 obtain ⟨x, y, z, t, r, c⟩ := Z6g (kn := kn) hs
 by_cases h : n / 2 ^ j % 2 = 1
 ·
  obtain ⟨x', y', z', t', r', c'⟩ := Z6h hd r.rw hP.rw
  exact ⟨(x, y, z, t), (x', y', z', t'), ⟨c, fun _ => c', fun h0 => absurd h h0⟩, by rw [Q7c hP.on h]; exact r'⟩
 exact ⟨(x, y, z, t), (x, y, z, t), ⟨c, fun h0 => absurd h0 h, fun _ => rfl⟩, by rw [Z16 hP.on (by omega)]; exact r⟩
theorem V06 (hd : kn.d) {P s0 : T4} {a : Pr} {n : Nat} (hP : RT P a) (h0 : RT s0 (pm a (n / 2 ^ 256))) : ∀ m, m ≤ 256 → ∃ f g : Nat → T4, f 256 = s0 ∧ (∀ j, 256 - m ≤ j → j ≤ 256 → RT (f j) (pm a (n / 2 ^ j))) ∧ ∀ j, 256 - m ≤ j → j < 256 → TStep kn P n j (f (j + 1)) (g j) (f j)
 | 0, _ => ⟨fun _ => s0, fun _ => s0, rfl, fun j h1 h2 => by rw [show j = 256 by omega]; exact h0, fun j h1 h2 => by omega⟩
 | m + 1, hm => by
  obtain ⟨f, g, e0, e1, e2⟩ := V06 hd hP h0 m (by omega)
  obtain ⟨k, hk⟩ : ∃ k, k = 255 - m := ⟨_, rfl⟩
  obtain ⟨x, s', st, hr⟩ := V05 hd (j := k) hP (e1 (k + 1) (by omega) (by omega))
  refine ⟨fun j => if j = k then s' else f j, fun j => if j = k then x else g j, ?_, fun j h1 h2 => ?_, fun j h1 h2 => ?_⟩
  ·
   show (if 256 = k then s' else f 256) = s0
   rw [if_neg (by omega)]; exact e0
  ·
   show RT (if j = k then s' else f j) _
   by_cases h : j = k
   ·
    rw [if_pos h, h]; exact hr
   ·
    rw [if_neg h]; exact e1 j (by omega) h2
  ·
   show TStep kn P n j (if j + 1 = k then s' else f (j + 1)) (if j = k then x else g j) (if j = k then s' else f j)
   rw [if_neg (by omega)]
   by_cases h : j = k
   ·
    rw [if_pos h, if_pos h, h]; exact st
   ·
    rw [if_neg h, if_neg h]; exact e2 j (by omega) h2

theorem J9g (hd : kn.d) {X1 Y1 Z1 T1 : Nat} {p1 : Pr} (h1 : RW X1 Y1 Z1 T1 p1) {N : Nat} (hN : N < 2 ^ 256) :
  ∃ X Y Z T, RN X Y Z T (pm p1 N) ∧ ∀ w, GE kn w → Calls Tryz.prog 90 #[.agg (p4 X1 Y1 Z1 T1), .agg (J0 .u8 32 (Q3 N))] w fun e w' => K7 (.agg (p4 X Y Z T)) w w' e := by
 obtain ⟨x1, y2, z3, t4, r5, c6⟩ := J5y (kn := kn) Y0w
 obtain ⟨x7, y8, z9, M, V, ζ⟩ := J5y (kn := kn) h1
 obtain ⟨f, gg, U, γ, α⟩ := V06 hd (P := (x7, y8, z9, M)) (s0 := (x1, y2, z3, t4)) (n := N) V (by rw [Nat.div_eq_of_lt hN]; exact r5) 256 (Nat.le_refl _)
 have δ := Lib.hid U
 clear U
 refine ⟨(f 0).1, (f 0).2.1, (f 0).2.2.1, (f 0).2.2.2, (by have := γ 0 (Nat.zero_le _) (Nat.zero_le _); rw [Nat.pow_zero, Nat.div_one] at this; exact this), fun w hG => ?_⟩
 have hS := SH.nil [] w
 go_enter Tryz.func90, Tryz.ntmps90
 go_upto_region 0 with fail
 refine RL hS ?_
 clear hS
 refine MN (z := p4 X1 Y1 Z1 T1) (t := 157) ?_
 intro X5
 refine MN (z := J0 .u8 32 (Q3 N)) (t := 23) ?_
 intro R
 refine MN (z := p4 0 0 0 0) (t := 157) ?_
 intro β
 refine MZ fun W hS => ?_
 go_upto_region 1 with fail
 refine RL hS ?_
 clear hS
 refine MW ?_ (v := .agg (p4 0 0 0 0)) (hv := by intro W; kernel_rfl)
 refine MC (v := .agg (p4 x1 y2 z3 t4)) (fun W hS => c6 W (Q8 hG hS.ext)) ?_
 refine MN (z := p4 0 0 0 0) (t := 157) ?_
 intro ε
 refine MR 0 ?_ 
 refine MZ fun W hS => ?_
 go_upto_region 2 with fail
 refine RL hS ?_
 clear hS
 refine ML 3 ?_
 refine MC (v := .agg (p4 x7 y8 z9 M)) (fun W hS => ζ W (Q8 hG hS.ext)) ?_
 refine MR 3 ?_ 
 refine MZ fun W hS => ?_
 go_wp2_with fail
 go_loopw [6] (fun si wr => ∃ (j : Nat), (j ≤ 256) ∧ (si = .int .i64 ((j : Int) - 1)) ∧ SH [] w wr [.b ε (pc (f j)) 157, .b β (p4 0 0 0 0) 157, .b R (J0 .u8 32 (Q3 N)) 23, .b X5 (p4 x7 y8 z9 M) 157])
  (fun si _ => (intOf si + 1).toNat)
 case atStart => exact ⟨256, Nat.le_refl _, rfl, (by rw [δ.out]; exact hS)⟩
 clear hS
 case round =>
  obtain ⟨j, hj, rfl, hS⟩ := hrel
  by_cases hz : j = 0
  ·
   subst hz
   go_upto_region 4 with fail
   refine RL hS ?_
   clear hS
   refine MV ?_
   refine MW ?_ (v := .bool false)
   refine MZ fun W hS => ?_
   go_upto_region 9 with fail
   refine RL hS ?_
   clear hS
   refine ML 0 ?_
   refine MR 1 ?_ 
   refine MZ fun W hS => ?_
   go_wp2
   exact bodyPost_ret (Z6 rfl rfl (hS.blk (i := 1) rfl) (by kernel_rfl) (by kernel_rfl)) rfl ⟨rfl, hS.ext⟩
  obtain ⟨i, rfl⟩ : ∃ i, j = i + 1 := ⟨j - 1, by omega⟩
  have S := α i (by omega) (by omega)
  rw [show ((i + 1 : Nat) : Int) - 1 = (i : Int) by omega]
  go_upto_region 4 with fail
  refine RL hS ?_
  clear hS
  refine MV ?_
  refine MW ?_ (v := .bool true)
  refine MZ fun W hS => ?_
  go_upto_region 6 with fail
  refine RL hS ?_
  clear hS
  refine ML 0 ?_
  refine MC (v := .agg (pc (gg i))) (fun W hS => S.tw W (Q8 hG hS.ext)) ?_
  refine MR 0 ?_ 
  refine MZ fun W hS => ?_
  by_cases D : N / 2 ^ i % 2 = 1
  ·
   have _f := D
   have J : bits .and .u8 (Q3 N (i / 8) / 2 ^ (i % 8)) 1 = 1 := by rw [Z15 _ _ _ (by omega), show 8 * (i / 8) + i % 8 = i by omega, D]; rfl
   clear _f
   have G := Lib.hid D
   clear D
   go_upto_region 7 with fail
   refine RL hS ?_
   clear hS
   refine MV ?_
   refine MW ?_ (v := .int .i64 ((i / 8 : Nat) : Int)) (hv := by intro W; exact Q6q (m := 8) (by decide) (by omega) rfl rfl rfl)
   refine MW ?_ (v := .pointer (some ⟨R, 0 + (i / 8), none⟩)) (hv := fun _ => J5 (m := 32) (by decide) (by omega) Tryz.underlying23 (by kernel_rfl) rfl rfl rfl)
   refine MG 2 ?_ (j := 0 + (i / 8)) (v := .int .u8 ((Q3 N) (i / 8))) (hj := by rw [Nat.zero_add]; exact J3 _ _ _ _ (by omega))
   refine MV ?_
   refine MW ?_ (v := .int .i64 ((i % 8 : Nat) : Int)) (hv := by intro W; exact Q1w (m := 8) (by decide) (by omega) rfl rfl rfl)
   refine MW ?_ (v := .int .u8 (Q3 N (i / 8) / 2 ^ (i % 8))) (hv := by intro W; exact Q1x (by omega) rfl rfl rfl)
   refine MW ?_ (v := .int .u8 1) (hv := by intro W; exact J2r J rfl rfl rfl)
   refine MW ?_ (v := .bool true)
   refine MZ fun W hS => ?_
   go_upto_region 8 with fail
   refine RL hS ?_
   clear hS
   refine ML 0 ?_
   refine ML 3 ?_
   refine MC (v := .agg (pc (f i))) (fun W hS => S.ad G.out W (Q8 hG hS.ext)) ?_
   refine MR 0 ?_ 
   refine MZ fun W hS => ?_
   go_wp2
   go_roundw
   case rel => exact ⟨i, by omega, by go_num, hS⟩
   case measure => first | (simp [intOf]; done) | (simp [intOf]; omega)
  have _f := D
  have J : bits .and .u8 (Q3 N (i / 8) / 2 ^ (i % 8)) 1 = 0 := by rw [Z15 _ _ _ (by omega), show 8 * (i / 8) + i % 8 = i by omega, show N / 2 ^ i % 2 = 0 by omega]; rfl
  clear _f
  have G := Lib.hid D
  clear D
  go_upto_region 7 with fail
  refine RL hS ?_
  clear hS
  refine MV ?_
  refine MW ?_ (v := .int .i64 ((i / 8 : Nat) : Int)) (hv := by intro W; exact Q6q (m := 8) (by decide) (by omega) rfl rfl rfl)
  refine MW ?_ (v := .pointer (some ⟨R, 0 + (i / 8), none⟩)) (hv := fun _ => J5 (m := 32) (by decide) (by omega) Tryz.underlying23 (by kernel_rfl) rfl rfl rfl)
  refine MG 2 ?_ (j := 0 + (i / 8)) (v := .int .u8 ((Q3 N) (i / 8))) (hj := by rw [Nat.zero_add]; exact J3 _ _ _ _ (by omega))
  refine MV ?_
  refine MW ?_ (v := .int .i64 ((i % 8 : Nat) : Int)) (hv := by intro W; exact Q1w (m := 8) (by decide) (by omega) rfl rfl rfl)
  refine MW ?_ (v := .int .u8 (Q3 N (i / 8) / 2 ^ (i % 8))) (hv := by intro W; exact Q1x (by omega) rfl rfl rfl)
  refine MW ?_ (v := .int .u8 0) (hv := by intro W; exact J2r J rfl rfl rfl)
  refine MW ?_ (v := .bool false)
  refine MZ fun W hS => ?_
  go_wp2
  go_roundw
  case rel => exact ⟨i, by omega, by go_num, (by rw [S.no G.out]; exact hS)⟩
  case measure => first | (simp [intOf]; done) | (simp [intOf]; omega)
end
end Go.Proofs.YtejkmhgkkibafaaGreatDoor.S8
