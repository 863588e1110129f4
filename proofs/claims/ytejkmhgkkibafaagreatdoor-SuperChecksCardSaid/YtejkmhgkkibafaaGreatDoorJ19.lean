/- Contracts and plain laws that superChecks_holds rests on. Conditions: the variables' cells hold the numbers of the program's text. -/
import Derived.Test.YtejkmhgkkibafaaGreatDoorJ6
import Derived.Test.YtejkmhgkkibafaaGreatDoorJ3
import Derived.Test.YtejkmhgkkibafaaGreatDoorJ8
import Derived.Test.YtejkmhgkkibafaaGreatDoorS8Ei
import Derived.Test.YtejkmhgkkibafaaGreatDoorJ18
import Derived.Test.YtejkmhgkkibafaaGreatDoorGc
open Go.RowKit
set_option maxRecDepth 100000
set_option linter.unusedSimpArgs false
set_option linter.unusedVariables false
namespace Go.Proofs.YtejkmhgkkibafaaGreatDoor.S8
section
set_option maxHeartbeats 1500000
attribute [local irreducible] wpList J01 wpX
variable {kn : Kn}

theorem J3c (w : World) :
  Calls Tryz.prog 149 #[] w fun e w' => K6 (L4 1) w w' e := by
 have hS := SH.nil [] w
 go_enter Tryz.func149, Tryz.ntmps149
 go_upto_region 0 with fail
 refine RL hS ?_
 clear hS
 refine MN (z := c4 0) (t := 155) ?_
 intro D
 refine MZ fun W hS => ?_
 go_upto_region 1 with fail
 refine RL hS ?_
 clear hS
 refine MC (v := .agg (c4 1)) (fun W hS => Y12 1 (by decide) W) ?_
 refine MR 0 ?_ 
 refine MZ fun W hS => ?_
 go_wp2
 exact bodyPost_ret (Y3 rfl rfl (hS.blk (i := 0) rfl) (by kernel_rfl) (by kernel_rfl)) rfl ⟨rfl, hS.ext⟩
theorem Y59 {X Y : Nat} (hX : X < PP) (hY : Y < PP) (on : OnC (fp X, fp Y)) :
  ∃ T, RN X Y 1 T (fp X, fp Y) ∧ ∀ w, GE kn w → Calls Tryz.prog 130 #[L4 X, L4 Y] w fun e w' => K6 (.agg (p4 X Y 1 T)) w w' e := by
 have G := K0 X Y (Z5 hX) (Z5 hY)
 obtain ⟨N1, D⟩ := V0 (X * Y % PP)
 rw [← D] at G
 have M := bpp D
 have S := Z5 M
 have J := Lib.hid D
 clear D
 refine ⟨N1, Z6s hX hY on J.out, fun w hG => ?_⟩
 have hS := SH.nil [] w
 go_enter Tryz.func130, Tryz.ntmps130
 go_upto_region 0 with fail
 refine RL hS ?_
 clear hS
 refine MN (z := c4 X) (t := 155) ?_
 intro N
 refine MN (z := c4 Y) (t := 155) ?_
 intro U
 refine MN (z := p4 0 0 0 0) (t := 157) ?_
 intro R
 refine MZ fun W hS => ?_
 go_upto_region 1 with fail
 refine RX 7 hS ?_
 clear hS
 refine ML 2 ?_
 refine ML 1 ?_
 refine MC (v := .agg (c4 1)) (fun W hS => J3c W) ?_
 refine ML 2 ?_
 refine ML 1 ?_
 refine MC (v := .agg (c4 N1)) (fun W hS => G W (Q8 hG hS.ext).1) ?_
 refine MW ?_ (v := .agg (p4 X Y 1 N1)) (hv := by intro W; kernel_rfl)
 refine MZt ?_
 refine MR 0 ?_ 
 refine MZn fun W hS => ?_
 go_wp2
 exact bodyPost_ret (Y3 rfl rfl (hS.blk (i := 0) rfl) (by kernel_rfl) (by kernel_rfl)) rfl ⟨rfl, hS.ext⟩
theorem Z6u {X1 Y1 Z1 T1 : Nat} (hb : Z1 < Q7) (hz : Z1 ≠ 0) (w : World) (hG : GE kn w) :
  Calls Tryz.prog 131 #[.agg (p4 X1 Y1 Z1 T1)] w fun e w' => K6 (.agg (p4 X1 Y1 Z1 T1)) w w' e := by
 have hS := SH.nil [] w
 go_enter Tryz.func131, Tryz.ntmps131
 go_upto_region 0 with fail
 refine RL hS ?_
 clear hS
 refine MN (z := p4 X1 Y1 Z1 T1) (t := 157) ?_
 intro G
 refine MN (z := p4 0 0 0 0) (t := 157) ?_
 intro J
 refine MZ fun W hS => ?_
 go_upto_region 1 with fail
 refine RL hS ?_
 clear hS
 refine MV ?_
 refine Ml 1 Q5p ?_
 refine MW ?_ (v := .agg (c4 0)) (hv := by intro W; kernel_rfl)
 have D := Y72 Z1 0 hb (by decide)
 rw [decide_eq_false hz] at D
 refine MW ?_ (v := .bool false) (hv := fun _ => J20 ((D) _) (by kernel_rfl) rfl rfl rfl)
 refine MZ fun W hS => ?_
 go_upto_region 3 with fail
 refine RL hS ?_
 clear hS
 refine ML 1 ?_
 refine MR 0 ?_ 
 refine MZ fun W hS => ?_
 go_wp2
 exact bodyPost_ret (Y3 rfl rfl (hS.blk (i := 0) rfl) (by kernel_rfl) (by kernel_rfl)) rfl ⟨rfl, hS.ext⟩
theorem Z6v {X1 Y1 T1 : Nat} (w : World) (hG : GE kn w) :
  Calls Tryz.prog 131 #[.agg (p4 X1 Y1 0 T1)] w fun e w' => K6 (.agg (p4 0 1 1 0)) w w' e := by
 have hS := SH.nil [] w
 go_enter Tryz.func131, Tryz.ntmps131
 go_upto_region 0 with fail
 refine RL hS ?_
 clear hS
 refine MN (z := p4 X1 Y1 0 T1) (t := 157) ?_
 intro G
 refine MN (z := p4 0 0 0 0) (t := 157) ?_
 intro J
 refine MZ fun W hS => ?_
 go_upto_region 1 with fail
 refine RL hS ?_
 clear hS
 refine MV ?_
 refine Ml 1 Q5p ?_
 refine MW ?_ (v := .agg (c4 0)) (hv := by intro W; kernel_rfl)
 have D := Y72 0 0 (by decide) (by decide)
 rw [decide_eq_true rfl] at D
 refine MW ?_ (v := .bool true) (hv := fun _ => J20 ((D) _) (by kernel_rfl) rfl rfl rfl)
 refine MZ fun W hS => ?_
 go_upto_region 2 with fail
 refine RL hS ?_
 clear hS
 refine MC (v := .agg (c4 1)) (fun W hS => J3c W) ?_
 refine MC (v := .agg (c4 1)) (fun W hS => J3c W) ?_
 refine MW ?_ (v := .agg (p4 0 1 1 0)) (hv := by intro W; kernel_rfl)
 refine MR 0 ?_ 
 refine MZ fun W hS => ?_
 go_wp2
 exact bodyPost_ret (Y3 rfl rfl (hS.blk (i := 0) rfl) (by kernel_rfl) (by kernel_rfl)) rfl ⟨rfl, hS.ext⟩
theorem J69 {X Y Z T : Nat} {a : Pr} (h : RW X Y Z T a) : ∃ X' Y' Z' T', RN X' Y' Z' T' a ∧ ∀ w, GE kn w → Calls Tryz.prog 131 #[.agg (p4 X Y Z T)] w fun e w' => K6 (.agg (p4 X' Y' Z' T')) w w' e := by
 rcases h.cases with ⟨hz, h1⟩ | ⟨rfl, rfl⟩
 ·
  exact ⟨X, Y, Z, T, h1, fun w hG => Z6u h.z hz w hG⟩
 exact ⟨0, 1, 1, 0, rn_p0, fun w hG => Z6v w hG⟩
theorem Z6w {X1 Y1 Z1 T1 : Nat} {p1 : Pr} (h1 : RN X1 Y1 Z1 T1 p1) :
  ∃ X Y Z T, RN X Y Z T (J12 p1 p1) ∧ ∀ w, GE kn w → Calls Tryz.prog 132 #[.agg (p4 X1 Y1 Z1 T1)] w fun e w' => K6 (.agg (p4 X Y Z T)) w w' e := by
 have Γ := K0 X1 X1 (Z5 h1.x) (Z5 h1.x)
 obtain ⟨N1, S⟩ := V0 (X1 * X1 % PP)
 rw [← S] at Γ
 have J3 := bpp S
 have D3 := Z5 J3
 have M3 := Lib.hid S
 clear S
 have ξ := K0 Y1 Y1 (Z5 h1.y) (Z5 h1.y)
 obtain ⟨N2, V⟩ := V0 (Y1 * Y1 % PP)
 rw [← V] at ξ
 have G9 := bpp V
 have D6 := Z5 G9
 have J8 := Lib.hid V
 clear V
 have σ := K0 Z1 Z1 (Z5 h1.z) (Z5 h1.z)
 obtain ⟨N3, α⟩ := V0 (Z1 * Z1 % PP)
 rw [← α] at σ
 have J5 := bpp α
 have D4 := Z5 J5
 have J7 := Lib.hid α
 clear α
 have D1 := J4n N3 N3 D4 D4
 obtain ⟨N4, δ⟩ := V0 ((N3 + N3) % PP)
 rw [← δ] at D1
 have J2 := bpp δ
 have G7 := Z5 J2
 have M1 := Lib.hid δ
 clear δ
 have Δ := J4n N1 N2 D3 D6
 obtain ⟨N5, γ⟩ := V0 ((N1 + N2) % PP)
 rw [← γ] at Δ
 have J1 := bpp γ
 have Θ := Z5 J1
 have J6 := Lib.hid γ
 clear γ
 have Ξ := J4n X1 Y1 (Z5 h1.x) (Z5 h1.y)
 obtain ⟨N6, U⟩ := V0 ((X1 + Y1) % PP)
 rw [← U] at Ξ
 have M2 := bpp U
 have D2 := Z5 M2
 have J9 := Lib.hid U
 clear U
 have φ := K0 N6 N6 D2 D2
 obtain ⟨N7, μ⟩ := V0 (N6 * N6 % PP)
 rw [← μ] at φ
 have J0 := bpp μ
 have M6 := Z5 J0
 have J4 := Lib.hid μ
 clear μ
 have χ := J7i N5 N7 Θ M6
 obtain ⟨N8, ζ⟩ := V0 ((N5 + (PP - N7 % PP)) % PP)
 rw [← ζ] at χ
 have M0 := bpp ζ
 have D5 := Z5 M0
 have M4 := Lib.hid ζ
 clear ζ
 have τ := J7i N1 N2 D3 D6
 obtain ⟨N9, ν⟩ := V0 ((N1 + (PP - N2 % PP)) % PP)
 rw [← ν] at τ
 have G8 := bpp ν
 have ρ := Z5 G8
 have M5 := Lib.hid ν
 clear ν
 have η := J4n N4 N9 G7 ρ
 obtain ⟨R, M⟩ := V0 ((N4 + N9) % PP)
 rw [← M] at η
 have G6 := bpp M
 have ω := Z5 G6
 have G4 := Lib.hid M
 clear M
 have β := K0 N8 R D5 ω
 obtain ⟨Ω, N⟩ := V0 (N8 * R % PP)
 rw [← N] at β
 have G3 := bpp N
 have M7 := Z5 G3
 have D7 := Lib.hid N
 clear N
 have ε := K0 N9 N5 ρ Θ
 obtain ⟨ψ, J⟩ := V0 (N9 * N5 % PP)
 rw [← J] at ε
 have G0 := bpp J
 have N0 := Z5 G0
 have D9 := Lib.hid J
 clear J
 have θ := K0 R N9 ω ρ
 obtain ⟨D0, G⟩ := V0 (R * N9 % PP)
 rw [← G] at θ
 have G5 := bpp G
 have M9 := Z5 G5
 have G2 := Lib.hid G
 clear G
 have κ := K0 N8 N5 D5 Θ
 obtain ⟨Ψ, D⟩ := V0 (N8 * N5 % PP)
 rw [← D] at κ
 have D8 := bpp D
 have M8 := Z5 D8
 have G1 := Lib.hid D
 clear D
 refine ⟨Ω, ψ, D0, Ψ, Q7j h1 M3.out J8.out J7.out M1.out J6.out J9.out J4.out M4.out M5.out G4.out D7.out D9.out G2.out G1.out, fun w hG => ?_⟩
 have hS := SH.nil [] w
 go_enter Tryz.func132, Tryz.ntmps132
 go_upto_region 0 with fail
 refine RL hS ?_
 clear hS
 refine MN (z := p4 X1 Y1 Z1 T1) (t := 157) ?_
 intro R1
 refine MN (z := p4 0 0 0 0) (t := 157) ?_
 intro R2
 refine MZ fun W hS => ?_
 go_upto_region 1 with fail
 refine RXn 10 [⟨10, 3, c4 0, 155⟩, ⟨11, 4, c4 0, 155⟩] hS ?_ (by simp only [List.forall_mem_cons]; exact ⟨⟨_, rfl, rfl, rfl, fun _ _ => by kernel_rfl⟩, ⟨_, rfl, rfl, rfl, fun _ _ => by kernel_rfl⟩, fun _ h => by cases h⟩)
 clear hS
 refine MV ?_
 refine Ml 1 Q3p ?_
 refine MV ?_
 refine Ml 1 Q3p ?_
 refine MC (v := .agg (c4 N1)) (fun W hS => Γ W (Q8 hG hS.ext).1) ?_
 refine MV ?_
 refine Ml 1 Q5q ?_
 refine MV ?_
 refine Ml 1 Q5q ?_
 refine MC (v := .agg (c4 N2)) (fun W hS => ξ W (Q8 hG hS.ext).1) ?_
 refine MZB fun R7 => ?_
 refine MR 0 ?_ 
 refine MR 1 ?_ 
 refine MZn fun W hS => ?_
 go_upto_region 2 with fail
 refine RL hS ?_
 clear hS
 refine MV ?_
 refine Ml 3 Q5p ?_
 refine MV ?_
 refine Ml 3 Q5p ?_
 refine MC (v := .agg (c4 N3)) (fun W hS => σ W (Q8 hG hS.ext).1) ?_
 refine MN (z := c4 0) (t := 155) ?_
 intro R4
 refine MR 0 ?_ 
 refine MZ fun W hS => ?_
 go_upto_region 3 with fail
 refine RL hS ?_
 clear hS
 refine ML 0 ?_
 refine ML 0 ?_
 refine MC (v := .agg (c4 N4)) (fun W hS => D1 W (Q8 hG hS.ext).1) ?_
 refine MR 0 ?_ 
 refine MZ fun W hS => ?_
 go_upto_region 4 with fail
 refine RL hS ?_
 clear hS
 refine ML 1 ?_
 refine ML 2 ?_
 refine MC (v := .agg (c4 N5)) (fun W hS => Δ W (Q8 hG hS.ext).1) ?_
 refine MN (z := c4 0) (t := 155) ?_
 intro R5
 refine MR 0 ?_ 
 refine MZ fun W hS => ?_
 go_upto_region 5 with fail
 refine RL hS ?_
 clear hS
 refine MV ?_
 refine Ml 5 Q3p ?_
 refine MV ?_
 refine Ml 5 Q5q ?_
 refine MC (v := .agg (c4 N6)) (fun W hS => Ξ W (Q8 hG hS.ext).1) ?_
 refine MN (z := c4 0) (t := 155) ?_
 intro R3
 refine MR 0 ?_ 
 refine MZ fun W hS => ?_
 go_upto_region 6 with fail
 refine RXn 5 [⟨5, 8, c4 0, 155⟩] hS ?_ (by simp only [List.forall_mem_cons]; exact ⟨⟨_, rfl, rfl, rfl, fun _ _ => by kernel_rfl⟩, fun _ h => by cases h⟩)
 clear hS
 refine ML 1 ?_
 refine ML 0 ?_
 refine ML 0 ?_
 refine MC (v := .agg (c4 N7)) (fun W hS => φ W (Q8 hG hS.ext).1) ?_
 refine MC (v := .agg (c4 N8)) (fun W hS => χ W (Q8 hG hS.ext).1) ?_
 refine MZB fun R8 => ?_
 refine MR 0 ?_ 
 refine MZn fun W hS => ?_
 go_upto_region 7 with fail
 refine RL hS ?_
 clear hS
 refine ML 4 ?_
 refine ML 5 ?_
 refine MC (v := .agg (c4 N9)) (fun W hS => τ W (Q8 hG hS.ext).1) ?_
 refine MN (z := c4 0) (t := 155) ?_
 intro R6
 refine MR 0 ?_ 
 refine MZ fun W hS => ?_
 go_upto_region 8 with fail
 refine RL hS ?_
 clear hS
 refine ML 4 ?_
 refine ML 0 ?_
 refine MC (v := .agg (c4 R)) (fun W hS => η W (Q8 hG hS.ext).1) ?_
 refine MN (z := c4 0) (t := 155) ?_
 intro R0
 refine MR 0 ?_ 
 refine MZ fun W hS => ?_
 go_upto_region 9 with fail
 refine RX 13 hS ?_
 clear hS
 refine ML 2 ?_
 refine ML 0 ?_
 refine MC (v := .agg (c4 Ω)) (fun W hS => β W (Q8 hG hS.ext).1) ?_
 refine ML 1 ?_
 refine ML 4 ?_
 refine MC (v := .agg (c4 ψ)) (fun W hS => ε W (Q8 hG hS.ext).1) ?_
 refine ML 0 ?_
 refine ML 1 ?_
 refine MC (v := .agg (c4 D0)) (fun W hS => θ W (Q8 hG hS.ext).1) ?_
 refine ML 2 ?_
 refine ML 4 ?_
 refine MC (v := .agg (c4 Ψ)) (fun W hS => κ W (Q8 hG hS.ext).1) ?_
 refine MW ?_ (v := .agg (p4 Ω ψ D0 Ψ)) (hv := by intro W; kernel_rfl)
 refine MZt ?_
 refine MR 8 ?_ 
 refine MZn fun W hS => ?_
 go_wp2
 exact bodyPost_ret (Y3 rfl rfl (hS.blk (i := 8) rfl) (by kernel_rfl) (by kernel_rfl)) rfl ⟨rfl, hS.ext⟩
theorem Z6x (hd : kn.d) {X1 Y1 Z1 T1 : Nat} {p1 : Pr} {X2 Y2 Z2 T2 : Nat} {p2 : Pr} (h1 : RW X1 Y1 Z1 T1 p1) (h2 : RW X2 Y2 Z2 T2 p2) :
  ∃ X Y Z T, RN X Y Z T (J12 p1 p2) ∧ ∀ w, GE kn w → Calls Tryz.prog 107 #[.agg (p4 X1 Y1 Z1 T1), .agg (p4 X2 Y2 Z2 T2)] w fun e w' => K6 (.agg (p4 X Y Z T)) w w' e := by
 obtain ⟨x1, y2, z3, t4, r5, c6⟩ := J69 (kn := kn) h1
 obtain ⟨x7, y8, z9, G5, D, T5⟩ := J69 (kn := kn) h2
 have D3 := J7i y2 x1 (Z5 r5.y) (Z5 r5.x)
 obtain ⟨M0, γ⟩ := V0 ((y2 + (PP - x1 % PP)) % PP)
 rw [← γ] at D3
 have R2 := bpp γ
 have S6 := Z5 R2
 have N2 := Lib.hid γ
 clear γ
 have D4 := J7i y8 x7 (Z5 D.y) (Z5 D.x)
 obtain ⟨J7, R⟩ := V0 ((y8 + (PP - x7 % PP)) % PP)
 rw [← R] at D4
 have M2 := bpp R
 have M3 := Z5 M2
 have M9 := Lib.hid R
 clear R
 have D5 := K0 M0 J7 S6 M3
 obtain ⟨ψ, ζ⟩ := V0 (M0 * J7 % PP)
 rw [← ζ] at D5
 have T3 := bpp ζ
 have J3 := Z5 T3
 have S3 := Lib.hid ζ
 clear ζ
 have G0 := J4n y2 x1 (Z5 r5.y) (Z5 r5.x)
 obtain ⟨G3, ε⟩ := V0 ((y2 + x1) % PP)
 rw [← ε] at G0
 have S9 := bpp ε
 have S0 := Z5 S9
 have R7 := Lib.hid ε
 clear ε
 have D1 := J4n y8 x7 (Z5 D.y) (Z5 D.x)
 obtain ⟨G8, M⟩ := V0 ((y8 + x7) % PP)
 rw [← M] at D1
 have N7 := bpp M
 have S4 := Z5 N7
 have R3 := Lib.hid M
 clear M
 have D7 := K0 G3 G8 S0 S4
 obtain ⟨χ, θ⟩ := V0 (G3 * G8 % PP)
 rw [← θ] at D7
 have M4 := bpp θ
 have J8 := Z5 M4
 have S5 := Lib.hid θ
 clear θ
 have Ω := K0 t4 D2 (Z5 r5.t) V0n
 obtain ⟨J2, μ⟩ := V0 (t4 * D2 % PP)
 rw [← μ] at Ω
 have S8 := bpp μ
 have R0 := Z5 S8
 have N4 := Lib.hid μ
 clear μ
 have G1 := K0 J2 G5 R0 (Z5 D.t)
 obtain ⟨σ, α⟩ := V0 (J2 * G5 % PP)
 rw [← α] at G1
 have M1 := bpp α
 have J4 := Z5 M1
 have N9 := Lib.hid α
 clear α
 have D9 := J4n z3 z3 (Z5 r5.z) (Z5 r5.z)
 obtain ⟨G2, η⟩ := V0 ((z3 + z3) % PP)
 rw [← η] at D9
 have T4 := bpp η
 have R4 := Z5 T4
 have M6 := Lib.hid η
 clear η
 have D6 := K0 G2 z9 R4 (Z5 D.z)
 obtain ⟨ρ, G⟩ := V0 (G2 * z9 % PP)
 rw [← G] at D6
 have S7 := bpp G
 have G7 := Z5 S7
 have R1 := Lib.hid G
 clear G
 have D8 := J7i χ ψ J8 J3
 obtain ⟨φ, U⟩ := V0 ((χ + (PP - ψ % PP)) % PP)
 rw [← U] at D8
 have M5 := bpp U
 have G6 := Z5 M5
 have M7 := Lib.hid U
 clear U
 have Γ := J7i ρ σ G7 J4
 obtain ⟨ξ, β⟩ := V0 ((ρ + (PP - σ % PP)) % PP)
 rw [← β] at Γ
 have N3 := bpp β
 have J9 := Z5 N3
 have R5 := Lib.hid β
 clear β
 have Θ := J4n ρ σ G7 J4
 obtain ⟨ν, J⟩ := V0 ((ρ + σ) % PP)
 rw [← J] at Θ
 have R8 := bpp J
 have J5 := Z5 R8
 have N8 := Lib.hid J
 clear J
 have D0 := J4n χ ψ J8 J3
 obtain ⟨τ, δ⟩ := V0 ((χ + ψ) % PP)
 rw [← δ] at D0
 have N1 := bpp δ
 have J6 := Z5 N1
 have T0 := Lib.hid δ
 clear δ
 have Ξ := K0 φ ξ G6 J9
 obtain ⟨J0, S⟩ := V0 (φ * ξ % PP)
 rw [← S] at Ξ
 have R6 := bpp S
 have T8 := Z5 R6
 have M8 := Lib.hid S
 clear S
 have Ψ := K0 ν τ J5 J6
 obtain ⟨J1, κ⟩ := V0 (ν * τ % PP)
 rw [← κ] at Ψ
 have N6 := bpp κ
 have T9 := Z5 N6
 have S2 := Lib.hid κ
 clear κ
 have ω := K0 ξ ν J9 J5
 obtain ⟨G9, V⟩ := V0 (ξ * ν % PP)
 rw [← V] at ω
 have N0 := bpp V
 have T7 := Z5 N0
 have S1 := Lib.hid V
 clear V
 have Δ := K0 φ τ G6 J6
 obtain ⟨G4, N⟩ := V0 (φ * τ % PP)
 rw [← N] at Δ
 have R9 := bpp N
 have T6 := Z5 R9
 have N5 := Lib.hid N
 clear N
 refine ⟨J0, J1, G9, G4, Z6y r5 D N2.out M9.out S3.out R7.out R3.out S5.out N4.out N9.out M6.out R1.out M7.out R5.out N8.out T0.out M8.out S2.out S1.out N5.out, fun w hG => ?_⟩
 have hS := SH.nil [] w
 go_enter Tryz.func107, Tryz.ntmps107
 go_upto_region 0 with fail
 refine RL hS ?_
 clear hS
 refine MN (z := p4 X1 Y1 Z1 T1) (t := 157) ?_
 intro V2
 refine MN (z := p4 X2 Y2 Z2 T2) (t := 157) ?_
 intro V1
 refine MN (z := p4 0 0 0 0) (t := 157) ?_
 intro V3
 refine MZ fun W hS => ?_
 go_upto_region 1 with fail
 refine RX 4 hS ?_
 clear hS
 refine ML 2 ?_
 refine MC (v := .agg (p4 x1 y2 z3 t4)) (fun W hS => c6 W (Q8 hG hS.ext)) ?_
 refine ML 1 ?_
 refine MC (v := .agg (p4 x7 y8 z9 G5)) (fun W hS => T5 W (Q8 hG hS.ext)) ?_
 refine MZt ?_
 refine MR 2 ?_ 
 refine MR 1 ?_ 
 refine MZn fun W hS => ?_
 go_upto_region 2 with fail
 refine RXn 11 [⟨11, 5, c4 0, 155⟩] hS ?_ (by simp only [List.forall_mem_cons]; exact ⟨⟨_, rfl, rfl, rfl, fun _ _ => by kernel_rfl⟩, fun _ h => by cases h⟩)
 clear hS
 refine MV ?_
 refine Ml 2 Q5q ?_
 refine MV ?_
 refine Ml 2 Q3p ?_
 refine MC (v := .agg (c4 M0)) (fun W hS => D3 W (Q8 hG hS.ext).1) ?_
 refine MV ?_
 refine Ml 1 Q5q ?_
 refine MV ?_
 refine Ml 1 Q3p ?_
 refine MC (v := .agg (c4 J7)) (fun W hS => D4 W (Q8 hG hS.ext).1) ?_
 refine MC (v := .agg (c4 ψ)) (fun W hS => D5 W (Q8 hG hS.ext).1) ?_
 refine MZB fun V8 => ?_
 refine MR 0 ?_ 
 refine MZn fun W hS => ?_
 go_upto_region 3 with fail
 refine RXn 11 [⟨11, 6, c4 0, 155⟩] hS ?_ (by simp only [List.forall_mem_cons]; exact ⟨⟨_, rfl, rfl, rfl, fun _ _ => by kernel_rfl⟩, fun _ h => by cases h⟩)
 clear hS
 refine MV ?_
 refine Ml 3 Q5q ?_
 refine MV ?_
 refine Ml 3 Q3p ?_
 refine MC (v := .agg (c4 G3)) (fun W hS => G0 W (Q8 hG hS.ext).1) ?_
 refine MV ?_
 refine Ml 2 Q5q ?_
 refine MV ?_
 refine Ml 2 Q3p ?_
 refine MC (v := .agg (c4 G8)) (fun W hS => D1 W (Q8 hG hS.ext).1) ?_
 refine MC (v := .agg (c4 χ)) (fun W hS => D7 W (Q8 hG hS.ext).1) ?_
 refine MZB fun V4 => ?_
 refine MR 0 ?_ 
 refine MZn fun W hS => ?_
 go_upto_region 4 with fail
 refine RXn 7 [⟨7, 7, c4 0, 155⟩] hS ?_ (by simp only [List.forall_mem_cons]; exact ⟨⟨_, rfl, rfl, rfl, fun _ _ => by kernel_rfl⟩, fun _ h => by cases h⟩)
 clear hS
 refine MV ?_
 refine Ml 4 Y76 ?_
 refine MF (v := .agg (c4 D2)) (fun W hS => J2e rfl rfl ((Q8 hG hS.ext).2.2.2.1 hd) (by kernel_rfl) (by kernel_rfl)) ?_
 refine MC (v := .agg (c4 J2)) (fun W hS => Ω W (Q8 hG hS.ext).1) ?_
 refine MV ?_
 refine Ml 3 Y76 ?_
 refine MC (v := .agg (c4 σ)) (fun W hS => G1 W (Q8 hG hS.ext).1) ?_
 refine MZB fun V6 => ?_
 refine MR 0 ?_ 
 refine MZn fun W hS => ?_
 go_upto_region 5 with fail
 refine RXn 8 [⟨8, 8, c4 0, 155⟩] hS ?_ (by simp only [List.forall_mem_cons]; exact ⟨⟨_, rfl, rfl, rfl, fun _ _ => by kernel_rfl⟩, fun _ h => by cases h⟩)
 clear hS
 refine MV ?_
 refine Ml 5 Q5p ?_
 refine MV ?_
 refine Ml 5 Q5p ?_
 refine MC (v := .agg (c4 G2)) (fun W hS => D9 W (Q8 hG hS.ext).1) ?_
 refine MV ?_
 refine Ml 4 Q5p ?_
 refine MC (v := .agg (c4 ρ)) (fun W hS => D6 W (Q8 hG hS.ext).1) ?_
 refine MZB fun V7 => ?_
 refine MR 0 ?_ 
 refine MZn fun W hS => ?_
 go_upto_region 6 with fail
 refine RXn 12 [⟨12, 9, c4 0, 155⟩, ⟨13, 10, c4 0, 155⟩, ⟨14, 11, c4 0, 155⟩, ⟨15, 12, c4 0, 155⟩] hS ?_ (by simp only [List.forall_mem_cons]; exact ⟨⟨_, rfl, rfl, rfl, fun _ _ => by kernel_rfl⟩, ⟨_, rfl, rfl, rfl, fun _ _ => by kernel_rfl⟩, ⟨_, rfl, rfl, rfl, fun _ _ => by kernel_rfl⟩, ⟨_, rfl, rfl, rfl, fun _ _ => by kernel_rfl⟩, fun _ h => by cases h⟩)
 clear hS
 refine ML 2 ?_
 refine ML 3 ?_
 refine MC (v := .agg (c4 φ)) (fun W hS => D8 W (Q8 hG hS.ext).1) ?_
 refine ML 0 ?_
 refine ML 1 ?_
 refine MC (v := .agg (c4 ξ)) (fun W hS => Γ W (Q8 hG hS.ext).1) ?_
 refine ML 0 ?_
 refine ML 1 ?_
 refine MC (v := .agg (c4 ν)) (fun W hS => Θ W (Q8 hG hS.ext).1) ?_
 refine ML 2 ?_
 refine ML 3 ?_
 refine MC (v := .agg (c4 τ)) (fun W hS => D0 W (Q8 hG hS.ext).1) ?_
 refine MZB fun V5 => ?_
 refine MR 0 ?_ 
 refine MR 1 ?_ 
 refine MR 2 ?_ 
 refine MR 3 ?_ 
 refine MZn fun W hS => ?_
 go_upto_region 7 with fail
 refine RX 13 hS ?_
 clear hS
 refine ML 0 ?_
 refine ML 1 ?_
 refine MC (v := .agg (c4 J0)) (fun W hS => Ξ W (Q8 hG hS.ext).1) ?_
 refine ML 2 ?_
 refine ML 3 ?_
 refine MC (v := .agg (c4 J1)) (fun W hS => Ψ W (Q8 hG hS.ext).1) ?_
 refine ML 1 ?_
 refine ML 2 ?_
 refine MC (v := .agg (c4 G9)) (fun W hS => ω W (Q8 hG hS.ext).1) ?_
 refine ML 0 ?_
 refine ML 3 ?_
 refine MC (v := .agg (c4 G4)) (fun W hS => Δ W (Q8 hG hS.ext).1) ?_
 refine MW ?_ (v := .agg (p4 J0 J1 G9 G4)) (hv := by intro W; kernel_rfl)
 refine MZt ?_
 refine MR 8 ?_ 
 refine MZn fun W hS => ?_
 go_wp2
 exact bodyPost_ret (Y3 rfl rfl (hS.blk (i := 8) rfl) (by kernel_rfl) (by kernel_rfl)) rfl ⟨rfl, hS.ext⟩
theorem Y77 {X1 Y1 Z1 T1 : Nat} {p1 : Pr} (h1 : RW X1 Y1 Z1 T1 p1) :
  ∃ X Y Z T, RN X Y Z T (J5c p1) ∧ ∀ w, GE kn w → Calls Tryz.prog 108 #[.agg (p4 X1 Y1 Z1 T1)] w fun e w' => K6 (.agg (p4 X Y Z T)) w w' e := by
 obtain ⟨x1, y2, z3, t4, r5, c6⟩ := J69 (kn := kn) h1
 have J := J8u x1 (Z5 r5.x)
 obtain ⟨N7, D⟩ := V0 ((PP - x1 % PP) % PP)
 rw [← D] at J
 have N := bpp D
 have γ := Z5 N
 have S := Lib.hid D
 clear D
 have M := J8u t4 (Z5 r5.t)
 obtain ⟨N8, G⟩ := V0 ((PP - t4 % PP) % PP)
 rw [← G] at M
 have R := bpp G
 have β := Z5 R
 have U := Lib.hid G
 clear G
 refine ⟨N7, y2, z3, N8, Y78 r5 S.out U.out, fun w hG => ?_⟩
 have hS := SH.nil [] w
 go_enter Tryz.func108, Tryz.ntmps108
 go_upto_region 0 with fail
 refine RL hS ?_
 clear hS
 refine MN (z := p4 X1 Y1 Z1 T1) (t := 157) ?_
 intro V
 refine MN (z := p4 0 0 0 0) (t := 157) ?_
 intro α
 refine MZ fun W hS => ?_
 go_upto_region 1 with fail
 refine RL hS ?_
 clear hS
 refine ML 1 ?_
 refine MC (v := .agg (p4 x1 y2 z3 t4)) (fun W hS => c6 W (Q8 hG hS.ext)) ?_
 refine MR 1 ?_ 
 refine MZ fun W hS => ?_
 go_upto_region 2 with fail
 refine RX 11 hS ?_
 clear hS
 refine MV ?_
 refine Ml 1 Q3p ?_
 refine MC (v := .agg (c4 N7)) (fun W hS => J W (Q8 hG hS.ext).1) ?_
 refine MV ?_
 refine Ml 1 Q5q ?_
 refine MV ?_
 refine Ml 1 Q5p ?_
 refine MV ?_
 refine Ml 1 Y76 ?_
 refine MC (v := .agg (c4 N8)) (fun W hS => M W (Q8 hG hS.ext).1) ?_
 refine MW ?_ (v := .agg (p4 N7 y2 z3 N8)) (hv := by intro W; kernel_rfl)
 refine MZt ?_
 refine MR 0 ?_ 
 refine MZn fun W hS => ?_
 go_wp2
 exact bodyPost_ret (Y3 rfl rfl (hS.blk (i := 0) rfl) (by kernel_rfl) (by kernel_rfl)) rfl ⟨rfl, hS.ext⟩
theorem Q5r (hb : kn.b) :
  ∃ X Y Z T, RN X Y Z T BP ∧ ∀ w, GE kn w → Calls Tryz.prog 89 #[] w fun e w' => K6 (.agg (p4 X Y Z T)) w w' e := by
 obtain ⟨t1, r2, c3⟩ := Y59 (kn := kn) (X := BX) (Y := BY) (by decide) (by decide) J9l
 refine ⟨BX, BY, 1, t1, r2, fun w hG => ?_⟩
 have hS := SH.nil [] w
 go_enter Tryz.func89, Tryz.ntmps89
 go_upto_region 0 with fail
 refine RL hS ?_
 clear hS
 refine MN (z := p4 0 0 0 0) (t := 157) ?_
 intro D
 refine MZ fun W hS => ?_
 go_upto_region 1 with fail
 refine RL hS ?_
 clear hS
 refine MF (v := .agg (c4 BX)) (fun W hS => J2e rfl rfl ((Q8 hG hS.ext).2.2.2.2.1 hb) (by kernel_rfl) (by kernel_rfl)) ?_
 refine MF (v := .agg (c4 BY)) (fun W hS => J2e rfl rfl ((Q8 hG hS.ext).2.2.2.2.2 hb) (by kernel_rfl) (by kernel_rfl)) ?_
 refine MC (v := .agg (p4 BX BY 1 t1)) (fun W hS => c3 W (Q8 hG hS.ext)) ?_
 refine MR 0 ?_ 
 refine MZ fun W hS => ?_
 go_wp2
 exact bodyPost_ret (Y3 rfl rfl (hS.blk (i := 0) rfl) (by kernel_rfl) (by kernel_rfl)) rfl ⟨rfl, hS.ext⟩
end

section
set_option maxHeartbeats 1500000
attribute [local irreducible] wpList J01 wpX
variable {kn : Kn}
theorem Q1d {A : Nat} (h : A < PP) : A < 2 ^ 256 := Nat.lt_trans h (by decide)
theorem V0o {X Y Z i x y : Nat} {a : Pr} (r : RD X Y Z a) (ei : i = pw Z (PP - 2)) (ex : x = X * i % PP) (ey : y = Y * i % PP) (ho : x % 2 = 1) : J0 .u8 32 (upd (Q3 y) 31 (bits .or .u8 (Q3 y 31) 128)) = J0 .u8 32 (Q3 (enc a)) := by
 obtain ⟨h1, h2⟩ := Q5s r ei ex ey
 rw [Y5a (Nat.lt_trans (ey ▸ J23 _) Q5t)]
 unfold enc
 rw [← h1, ← h2, ho]
theorem V0p {X Y Z i x y : Nat} {a : Pr} (r : RD X Y Z a) (ei : i = pw Z (PP - 2)) (ex : x = X * i % PP) (ey : y = Y * i % PP) (ho : ¬ x % 2 = 1) : J0 .u8 32 (Q3 y) = J0 .u8 32 (Q3 (enc a)) := by
 obtain ⟨h1, h2⟩ := Q5s r ei ex ey
 have : x % 2 = 0 := by omega
 unfold enc
 rw [← h1, ← h2, this, Nat.mul_zero, Nat.add_zero]


theorem Y79 {X1 Y1 Z1 T1 : Nat} {p1 : Pr} (h1 : RW X1 Y1 Z1 T1 p1) :
  ∀ w, GE kn w → Calls Tryz.prog 92 #[.agg (p4 X1 Y1 Z1 T1)] w fun e w' => K6 (.agg (J0 .u8 32 (Q3 (enc p1)))) w w' e := by
 obtain ⟨x1, y2, z3, t4, r5, c6⟩ := J69 (kn := kn) h1
 have S := Y71 z3 (Z5 r5.z)
 obtain ⟨N7, N⟩ := V0 (pw z3 (PP - 2))
 rw [← N] at S
 have ε := bpp N
 have β := Z5 ε
 have Z := Lib.hid N
 clear N
 have V := K0 y2 N7 (Z5 r5.y) β
 obtain ⟨N8, R⟩ := V0 (y2 * N7 % PP)
 rw [← R] at V
 have X := bpp R
 have ζ := Z5 X
 have α := Lib.hid R
 clear R
 have γ := Q2p N8 ζ
 rw [Nat.mod_eq_of_lt X] at γ
 have G := K0 x1 N7 (Z5 r5.x) β
 obtain ⟨M, J⟩ := V0 (x1 * N7 % PP)
 rw [← J] at G
 have U := bpp J
 have δ := Z5 U
 have T := Lib.hid J
 clear J
 have D := Q98 M δ
 rw [Nat.mod_eq_of_lt U] at D
 intro w hG
 have hS := SH.nil [] w
 go_enter Tryz.func92, Tryz.ntmps92
 go_upto_region 0 with fail
 refine RL hS ?_
 clear hS
 refine MN (z := p4 X1 Y1 Z1 T1) (t := 157) ?_
 intro η
 refine MN (z := J0 .u8 32 (Q3 0)) (t := 23) ?_
 intro θ
 refine MZ fun W hS => ?_
 go_upto_region 1 with fail
 refine RL hS ?_
 clear hS
 refine ML 1 ?_
 refine MC (v := .agg (p4 x1 y2 z3 t4)) (fun W hS => c6 W (Q8 hG hS.ext)) ?_
 refine MR 1 ?_ 
 refine MZ fun W hS => ?_
 go_upto_region 2 with fail
 refine RL hS ?_
 clear hS
 refine MV ?_
 refine Ml 1 Q5p ?_
 refine MC (v := .agg (c4 N7)) (fun W hS => S W (Q8 hG hS.ext).1) ?_
 refine MN (z := c4 0) (t := 155) ?_
 intro κ
 refine MR 0 ?_ 
 refine MZ fun W hS => ?_
 go_upto_region 3 with fail
 refine RL hS ?_
 clear hS
 refine MV ?_
 refine Ml 2 Q5q ?_
 refine ML 0 ?_
 refine MC (v := .agg (c4 N8)) (fun W hS => V W (Q8 hG hS.ext).1) ?_
 refine MC (v := .agg (J0 .u8 32 (Q3 N8))) (fun W hS => γ W (Q8 hG hS.ext).1) ?_
 refine MN (z := J0 .u8 32 (Q3 0)) (t := 23) ?_
 intro Y
 refine MR 0 ?_ 
 refine MZ fun W hS => ?_
 by_cases ho : M % 2 = 1
 ·
  go_upto_region 4 with fail
  refine RL hS ?_
  clear hS
  refine MV ?_
  refine Ml 3 Q3p ?_
  refine ML 1 ?_
  refine MC (v := .agg (c4 M)) (fun W hS => G W (Q8 hG hS.ext).1) ?_
  rw [decide_eq_true ho] at D
  refine MC (v := .bool true) (fun W hS => D W (Q8 hG hS.ext).1) ?_
  refine MZ fun W hS => ?_
  go_upto_region 5 with fail
  refine RL hS ?_
  clear hS
  refine MW ?_ (v := .pointer (some ⟨Y, 0 + 31, none⟩)) (hv := fun _ => J7 (m := 32) (by decide) (by decide) Tryz.underlying23 (by kernel_rfl) rfl rfl rfl)
  refine MG 0 ?_ (j := 0 + 31) (v := .int .u8 ((Q3 N8) 31)) (hj := by rw [Nat.zero_add]; exact J4 _ _ _ _ (by decide))
  refine MW ?_ (v := .int .u8 (bits .or .u8 (Q3 N8 31) 128)) (hv := by intro W; exact Z1e rfl rfl rfl rfl)
  refine MW ?_ (v := .pointer (some ⟨Y, 0 + 31, none⟩)) (hv := fun _ => J7 (m := 32) (by decide) (by decide) Tryz.underlying23 (by kernel_rfl) rfl rfl rfl)
  refine MP 0 (v := .int .u8 (bits .or .u8 (Q3 N8 31) 128)) (cs' := J0 .u8 32 (upd (Q3 N8) 31 (bits .or .u8 (Q3 N8 31) 128))) ?_ (hs := by rw [J2, Nat.zero_add]; decide) (hc := by rw [Nat.zero_add]; exact V6 _ _ _ _ _)
  refine MT (fun W hS => by rw [V0o r5.rr Z.out T.out α.out ho] at hS; exact hS) ?_
  refine MZ fun W hS => ?_
  go_upto_region 6 with fail
  refine RL hS ?_
  clear hS
  refine ML 0 ?_
  refine MR 2 ?_ 
  refine MZ fun W hS => ?_
  go_wp2
  exact bodyPost_ret (Y3 rfl rfl (hS.blk (i := 2) rfl) (by kernel_rfl) (by rw [J2]; kernel_rfl)) rfl ⟨rfl, hS.ext⟩
 go_upto_region 4 with fail
 refine RL hS ?_
 clear hS
 refine MV ?_
 refine Ml 3 Q3p ?_
 refine ML 1 ?_
 refine MC (v := .agg (c4 M)) (fun W hS => G W (Q8 hG hS.ext).1) ?_
 rw [decide_eq_false ho] at D
 refine MC (v := .bool false) (fun W hS => D W (Q8 hG hS.ext).1) ?_
 refine MZ fun W hS => ?_
 rw [V0p r5.rr Z.out T.out α.out ho] at hS
 go_upto_region 6 with fail
 refine RL hS ?_
 clear hS
 refine ML 0 ?_
 refine MR 2 ?_ 
 refine MZ fun W hS => ?_
 go_wp2
 exact bodyPost_ret (Y3 rfl rfl (hS.blk (i := 2) rfl) (by kernel_rfl) (by rw [J2]; kernel_rfl)) rfl ⟨rfl, hS.ext⟩
end

section
set_option maxHeartbeats 1500000
attribute [local irreducible] wpList J01 wpX
variable {kn : Kn}
theorem Z70 {p : Int} {x : Nat} (h : p = (x : Int)) (hx : x < 256) : bits .and .u8 p 1 = ((x % 2 : Nat) : Int) := by
 subst h
 refine (u8_and_nat x 1 hx (by decide)).trans ?_
 rw [Nat.and_one_is_mod]
theorem Z1i (n q r : Nat) (hr : r < 8) : bits .and .u8 (Q3 n q / 2 ^ r) 1 = ((n / 2 ^ (8 * q + r) % 2 : Nat) : Int) := by
 have h0 : n / 2 ^ (8 * q) % 256 / 2 ^ r % 2 = n / 2 ^ (8 * q + r) % 2 := by
  rw [Nat.pow_add, ← Nat.div_div_eq_div_mul]
  generalize n / 2 ^ (8 * q) = x
  obtain ⟨d, hd⟩ : ∃ d, 8 = r + (1 + d) := ⟨7 - r, by omega⟩
  rw [show 256 = 2 ^ 8 by decide, hd, Nat.pow_add 2 r, Nat.mod_mul_right_div_self, Nat.pow_add 2 1 d, Nat.pow_one, Nat.mod_mul_right_mod]
 have e : Q3 n q / 2 ^ r = ((n / 2 ^ (8 * q) % 256 / 2 ^ r : Nat) : Int) := by
  unfold Q3
  rw [Int.natCast_ediv, Int.natCast_pow]; rfl
 rw [Z70 e (Nat.lt_of_le_of_lt (Nat.div_le_self _ _) (Nat.mod_lt _ (by decide))), h0]
theorem Z1j {a : Pr} (ha : OnC a) {n i : Nat} (h : n / 2 ^ i % 2 = 0) : pm a (n / 2 ^ i) = J12 (pm a (n / 2 ^ (i + 1))) (pm a (n / 2 ^ (i + 1))) := by
 rw [← Q2u ha]
 congr 1
 rw [Nat.pow_succ, ← Nat.div_div_eq_div_mul]; omega
theorem Q7m {a : Pr} (ha : OnC a) {n i : Nat} (h : n / 2 ^ i % 2 = 1) : pm a (n / 2 ^ i) = J12 (J12 (pm a (n / 2 ^ (i + 1))) (pm a (n / 2 ^ (i + 1)))) a := by
 rw [← Y7b ha]
 congr 1
 rw [Nat.pow_succ, ← Nat.div_div_eq_div_mul]; omega
abbrev T4 := Nat × Nat × Nat × Nat
def pc (s : T4) : Array Value := p4 s.1 s.2.1 s.2.2.1 s.2.2.2
def RT (s : T4) (a : Pr) : Prop := RN s.1 s.2.1 s.2.2.1 s.2.2.2 a
structure TStep (kn : Kn) (P : T4) (n j : Nat) (s g s' : T4) : Prop where
 tw : ∀ w, GE kn w → Calls Tryz.prog 132 #[.agg (pc s)] w fun e w' => K6 (.agg (pc g)) w w' e
 ad : n / 2 ^ j % 2 = 1 → ∀ w, GE kn w → Calls Tryz.prog 107 #[.agg (pc g), .agg (pc P)] w fun e w' => K6 (.agg (pc s')) w w' e
 no : ¬ n / 2 ^ j % 2 = 1 → s' = g
theorem V0q (hd : kn.d) {P s : T4} {a : Pr} {n j : Nat} (hP : RT P a) (hs : RT s (pm a (n / 2 ^ (j + 1)))) : ∃ g s', TStep kn P n j s g s' ∧ RT s' (pm a (n / 2 ^ j)) := by
 obtain ⟨x, y, z, t, r, c⟩ := Z6w (kn := kn) hs
 by_cases h : n / 2 ^ j % 2 = 1
 ·
  obtain ⟨x', y', z', t', r', c'⟩ := Z6x hd r.rw hP.rw
  exact ⟨(x, y, z, t), (x', y', z', t'), ⟨c, fun _ => c', fun h0 => absurd h h0⟩, by rw [Q7m hP.on h]; exact r'⟩
 exact ⟨(x, y, z, t), (x, y, z, t), ⟨c, fun h0 => absurd h0 h, fun _ => rfl⟩, by rw [Z1j hP.on (by omega)]; exact r⟩
theorem V0r (hd : kn.d) {P s0 : T4} {a : Pr} {n : Nat} (hP : RT P a) (h0 : RT s0 (pm a (n / 2 ^ 256))) : ∀ m, m ≤ 256 → ∃ f g : Nat → T4, f 256 = s0 ∧ (∀ j, 256 - m ≤ j → j ≤ 256 → RT (f j) (pm a (n / 2 ^ j))) ∧ ∀ j, 256 - m ≤ j → j < 256 → TStep kn P n j (f (j + 1)) (g j) (f j)
 | 0, _ => ⟨fun _ => s0, fun _ => s0, rfl, fun j h1 h2 => by rw [show j = 256 by omega]; exact h0, fun j h1 h2 => by omega⟩
 | m + 1, hm => by
  obtain ⟨f, g, e0, e1, e2⟩ := V0r hd hP h0 m (by omega)
  obtain ⟨k, hk⟩ : ∃ k, k = 255 - m := ⟨_, rfl⟩
  obtain ⟨x, s', st, hr⟩ := V0q hd (j := k) hP (e1 (k + 1) (by omega) (by omega))
  refine ⟨fun j => if j = k then s' else f j, fun j => if j = k then x else g j, ?_, fun j h1 h2 => ?_, fun j h1 h2 => ?_⟩
  ·
   show (if 256 = k then s' else f 256) = s0
   rw [if_neg (by omega)]; exact e0
  ·
   show RT (if j = k then s' else f j) _
   by_cases h : j = k
   ·
    rw [if_pos h, h]; exact hr
   ·
    rw [if_neg h]; exact e1 j (by omega) h2
  ·
   show TStep kn P n j (if j + 1 = k then s' else f (j + 1)) (if j = k then x else g j) (if j = k then s' else f j)
   rw [if_neg (by omega)]
   by_cases h : j = k
   ·
    rw [if_pos h, if_pos h, h]; exact st
   ·
    rw [if_neg h, if_neg h]; exact e2 j (by omega) h2

theorem J9r (hd : kn.d) {X1 Y1 Z1 T1 : Nat} {p1 : Pr} (h1 : RW X1 Y1 Z1 T1 p1) {N : Nat} (hN : N < 2 ^ 256) :
  ∃ X Y Z T, RN X Y Z T (pm p1 N) ∧ ∀ w, GE kn w → Calls Tryz.prog 90 #[.agg (p4 X1 Y1 Z1 T1), .agg (J0 .u8 32 (Q3 N))] w fun e w' => K6 (.agg (p4 X Y Z T)) w w' e := by
 obtain ⟨x1, y2, z3, t4, r5, c6⟩ := J69 (kn := kn) Y1e
 obtain ⟨x7, y8, z9, R, β, δ⟩ := J69 (kn := kn) h1
 obtain ⟨f, gg, U, ε, V⟩ := V0r hd (P := (x7, y8, z9, R)) (s0 := (x1, y2, z3, t4)) (n := N) β (by rw [Nat.div_eq_of_lt hN]; exact r5) 256 (Nat.le_refl _)
 have ζ := Lib.hid U
 clear U
 refine ⟨(f 0).1, (f 0).2.1, (f 0).2.2.1, (f 0).2.2.2, (by have := ε 0 (Nat.zero_le _) (Nat.zero_le _); rw [Nat.pow_zero, Nat.div_one] at this; exact this), fun w hG => ?_⟩
 have hS := SH.nil [] w
 go_enter Tryz.func90, Tryz.ntmps90
 go_upto_region 0 with fail
 refine RL hS ?_
 clear hS
 refine MN (z := p4 X1 Y1 Z1 T1) (t := 157) ?_
 intro η
 refine MN (z := J0 .u8 32 (Q3 N)) (t := 23) ?_
 intro S
 refine MN (z := p4 0 0 0 0) (t := 157) ?_
 intro γ
 refine MZ fun W hS => ?_
 go_upto_region 1 with fail
 refine RL hS ?_
 clear hS
 refine MW ?_ (v := .agg (p4 0 0 0 0)) (hv := by intro W; kernel_rfl)
 refine MC (v := .agg (p4 x1 y2 z3 t4)) (fun W hS => c6 W (Q8 hG hS.ext)) ?_
 refine MN (z := p4 0 0 0 0) (t := 157) ?_
 intro α
 refine MR 0 ?_ 
 refine MZ fun W hS => ?_
 go_upto_region 2 with fail
 refine RL hS ?_
 clear hS
 refine ML 3 ?_
 refine MC (v := .agg (p4 x7 y8 z9 R)) (fun W hS => δ W (Q8 hG hS.ext)) ?_
 refine MR 3 ?_ 
 refine MZ fun W hS => ?_
 go_wp2_with fail
 go_loopw [6] (fun si wr => ∃ (j : Nat), (j ≤ 256) ∧ (si = .int .i64 ((j : Int) - 1)) ∧ SH [] w wr [.b α (pc (f j)) 157, .b γ (p4 0 0 0 0) 157, .b S (J0 .u8 32 (Q3 N)) 23, .b η (p4 x7 y8 z9 R) 157])
  (fun si _ => (intOf si + 1).toNat)
 case atStart => exact ⟨256, Nat.le_refl _, rfl, (by rw [ζ.out]; exact hS)⟩
 clear hS
 case round =>
  obtain ⟨j, hj, rfl, hS⟩ := hrel
  by_cases hz : j = 0
  ·
   subst hz
   go_upto_region 4 with fail
   refine RL hS ?_
   clear hS
   refine MV ?_
   refine MW ?_ (v := .bool false)
   refine MZ fun W hS => ?_
   go_upto_region 9 with fail
   refine RL hS ?_
   clear hS
   refine ML 0 ?_
   refine MR 1 ?_ 
   refine MZ fun W hS => ?_
   go_wp2
   exact bodyPost_ret (Y3 rfl rfl (hS.blk (i := 1) rfl) (by kernel_rfl) (by kernel_rfl)) rfl ⟨rfl, hS.ext⟩
  obtain ⟨i, rfl⟩ : ∃ i, j = i + 1 := ⟨j - 1, by omega⟩
  have M := V i (by omega) (by omega)
  rw [show ((i + 1 : Nat) : Int) - 1 = (i : Int) by omega]
  go_upto_region 4 with fail
  refine RL hS ?_
  clear hS
  refine MV ?_
  refine MW ?_ (v := .bool true)
  refine MZ fun W hS => ?_
  go_upto_region 6 with fail
  refine RL hS ?_
  clear hS
  refine ML 0 ?_
  refine MC (v := .agg (pc (gg i))) (fun W hS => M.tw W (Q8 hG hS.ext)) ?_
  refine MR 0 ?_ 
  refine MZ fun W hS => ?_
  by_cases D : N / 2 ^ i % 2 = 1
  ·
   have G : bits .and .u8 (Q3 N (i / 8) / 2 ^ (i % 8)) 1 = 1 := by rw [Z1i _ _ _ (by omega), show 8 * (i / 8) + i % 8 = i by omega, D]; rfl
   clear _f
   have J := Lib.hid D
   clear D
   go_upto_region 7 with fail
   refine RL hS ?_
   clear hS
   refine MV ?_
   refine MW ?_ (v := .int .i64 ((i / 8 : Nat) : Int)) (hv := by intro W; exact Q71 (m := 8) (by decide) (by omega) rfl rfl rfl)
   refine MW ?_ (v := .pointer (some ⟨S, 0 + (i / 8), none⟩)) (hv := fun _ => J7 (m := 32) (by decide) (by omega) Tryz.underlying23 (by kernel_rfl) rfl rfl rfl)
   refine MG 2 ?_ (j := 0 + (i / 8)) (v := .int .u8 ((Q3 N) (i / 8))) (hj := by rw [Nat.zero_add]; exact J4 _ _ _ _ (by omega))
   refine MV ?_
   refine MW ?_ (v := .int .i64 ((i % 8 : Nat) : Int)) (hv := by intro W; exact Q26 (m := 8) (by decide) (by omega) rfl rfl rfl)
   refine MW ?_ (v := .int .u8 (Q3 N (i / 8) / 2 ^ (i % 8))) (hv := by intro W; exact Q27 (by omega) rfl rfl rfl)
   refine MW ?_ (v := .int .u8 1) (hv := by intro W; exact J30 G rfl rfl rfl)
   refine MW ?_ (v := .bool true)
   refine MZ fun W hS => ?_
   go_upto_region 8 with fail
   refine RL hS ?_
   clear hS
   refine ML 0 ?_
   refine ML 3 ?_
   refine MC (v := .agg (pc (f i))) (fun W hS => M.ad J.out W (Q8 hG hS.ext)) ?_
   refine MR 0 ?_ 
   refine MZ fun W hS => ?_
   go_wp2
   go_roundw
   case rel => exact ⟨i, by omega, by go_num, hS⟩
   case measure => first | (simp [intOf]; done) | (simp [intOf]; omega)
  have G : bits .and .u8 (Q3 N (i / 8) / 2 ^ (i % 8)) 1 = 0 := by rw [Z1i _ _ _ (by omega), show 8 * (i / 8) + i % 8 = i by omega, show N / 2 ^ i % 2 = 0 by omega]; rfl
  clear _f
  have J := Lib.hid D
  clear D
  go_upto_region 7 with fail
  refine RL hS ?_
  clear hS
  refine MV ?_
  refine MW ?_ (v := .int .i64 ((i / 8 : Nat) : Int)) (hv := by intro W; exact Q71 (m := 8) (by decide) (by omega) rfl rfl rfl)
  refine MW ?_ (v := .pointer (some ⟨S, 0 + (i / 8), none⟩)) (hv := fun _ => J7 (m := 32) (by decide) (by omega) Tryz.underlying23 (by kernel_rfl) rfl rfl rfl)
  refine MG 2 ?_ (j := 0 + (i / 8)) (v := .int .u8 ((Q3 N) (i / 8))) (hj := by rw [Nat.zero_add]; exact J4 _ _ _ _ (by omega))
  refine MV ?_
  refine MW ?_ (v := .int .i64 ((i % 8 : Nat) : Int)) (hv := by intro W; exact Q26 (m := 8) (by decide) (by omega) rfl rfl rfl)
  refine MW ?_ (v := .int .u8 (Q3 N (i / 8) / 2 ^ (i % 8))) (hv := by intro W; exact Q27 (by omega) rfl rfl rfl)
  refine MW ?_ (v := .int .u8 0) (hv := by intro W; exact J30 G rfl rfl rfl)
  refine MW ?_ (v := .bool false)
  refine MZ fun W hS => ?_
  go_wp2
  go_roundw
  case rel => exact ⟨i, by omega, by go_num, (by rw [M.no J.out]; exact hS)⟩
  case measure => first | (simp [intOf]; done) | (simp [intOf]; omega)
end
end Go.Proofs.YtejkmhgkkibafaaGreatDoor.S8
