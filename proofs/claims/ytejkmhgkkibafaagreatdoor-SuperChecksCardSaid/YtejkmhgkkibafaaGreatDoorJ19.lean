/- Contracts and plain laws that superChecks_holds rests on. Conditions: the variables' cells hold the numbers of the program's text. -/
import Derived.Test.YtejkmhgkkibafaaGreatDoorJ6
import Derived.Test.YtejkmhgkkibafaaGreatDoorJ3
import Derived.Test.YtejkmhgkkibafaaGreatDoorJ8
import Derived.Test.YtejkmhgkkibafaaGreatDoorS8Ei
import Derived.Test.YtejkmhgkkibafaaGreatDoorJ18
import Derived.Test.YtejkmhgkkibafaaGreatDoorGc
open Go.RowKit
set_option maxRecDepth 100000
set_option linter.unusedSimpArgs false
set_option linter.unusedVariables false
namespace Go.Proofs.YtejkmhgkkibafaaGreatDoor.S8
section
set_option maxHeartbeats 1500000
attribute [local irreducible] wpList J01 wpX
variable {kn : Kn}

theorem J3c (w : World) :
  Calls Tryz.prog 149 #[] w fun e w' => K6 (L4 1) w w' e := by
 have hS := SH.nil [] w
 go_enter Tryz.func149, Tryz.ntmps149
 go_upto_region 0 with fail
 refine RL hS ?_
 clear hS
 refine MN (z := c4 0) (t := 155) ?_
 intro D
 refine MZ fun W hS => ?_
 go_upto_region 1 with fail
 refine RL hS ?_
 clear hS
 refine MC (v := .agg (c4 1)) (fun W hS => Y12 1 (by decide) W) ?_
 refine MR 0 ?_ 
 refine MZ fun W hS => ?_
 go_wp2
 exact bodyPost_ret (Y3 rfl rfl (hS.blk (i := 0) rfl) (by kernel_rfl) (by kernel_rfl)) rfl ⟨rfl, hS.ext⟩
theorem Y59 {X Y : Nat} (hX : X < PP) (hY : Y < PP) (on : OnC (fp X, fp Y)) :
  ∃ T, RN X Y 1 T (fp X, fp Y) ∧ ∀ w, GE kn w → Calls Tryz.prog 130 #[L4 X, L4 Y] w fun e w' => K6 (.agg (p4 X Y 1 T)) w w' e := by
 have G := K0 X Y (Z5 hX) (Z5 hY)
 obtain ⟨N1, D⟩ := V0 (X * Y % PP)
 rw [← D] at G
 have M := bpp D
 have N := Z5 M
 have J := Lib.hid D
 clear D
 refine ⟨N1, Z6s hX hY on J.out, fun w hG => ?_⟩
 have hS := SH.nil [] w
 go_enter Tryz.func130, Tryz.ntmps130
 go_upto_region 0 with fail
 refine RL hS ?_
 clear hS
 refine MN (z := c4 X) (t := 155) ?_
 intro R
 refine MN (z := c4 Y) (t := 155) ?_
 intro S
 refine MN (z := p4 0 0 0 0) (t := 157) ?_
 intro U
 refine MZ fun W hS => ?_
 go_upto_region 1 with fail
 refine RX 7 hS ?_
 clear hS
 refine ML 2 ?_
 refine ML 1 ?_
 refine MC (v := .agg (c4 1)) (fun W hS => J3c W) ?_
 refine ML 2 ?_
 refine ML 1 ?_
 refine MC (v := .agg (c4 N1)) (fun W hS => G W (Q8 hG hS.ext).1) ?_
 refine MW ?_ (v := .agg (p4 X Y 1 N1)) (hv := by intro W; kernel_rfl)
 refine MZt ?_
 refine MR 0 ?_ 
 refine MZn fun W hS => ?_
 go_wp2
 exact bodyPost_ret (Y3 rfl rfl (hS.blk (i := 0) rfl) (by kernel_rfl) (by kernel_rfl)) rfl ⟨rfl, hS.ext⟩
theorem Z6u {X1 Y1 Z1 T1 : Nat} (hb : Z1 < Q7) (hz : Z1 ≠ 0) (w : World) (hG : GE kn w) :
  Calls Tryz.prog 131 #[.agg (p4 X1 Y1 Z1 T1)] w fun e w' => K6 (.agg (p4 X1 Y1 Z1 T1)) w w' e := by
 have hS := SH.nil [] w
 go_enter Tryz.func131, Tryz.ntmps131
 go_upto_region 0 with fail
 refine RL hS ?_
 clear hS
 refine MN (z := p4 X1 Y1 Z1 T1) (t := 157) ?_
 intro J
 refine MN (z := p4 0 0 0 0) (t := 157) ?_
 intro G
 refine MZ fun W hS => ?_
 go_upto_region 1 with fail
 refine RL hS ?_
 clear hS
 refine MV ?_
 refine Ml 1 Q5p ?_
 refine MW ?_ (v := .agg (c4 0)) (hv := by intro W; kernel_rfl)
 have D := Y72 Z1 0 hb (by decide)
 rw [decide_eq_false hz] at D
 refine MW ?_ (v := .bool false) (hv := fun _ => J20 ((D) _) (by kernel_rfl) rfl rfl rfl)
 refine MZ fun W hS => ?_
 go_upto_region 3 with fail
 refine RL hS ?_
 clear hS
 refine ML 1 ?_
 refine MR 0 ?_ 
 refine MZ fun W hS => ?_
 go_wp2
 exact bodyPost_ret (Y3 rfl rfl (hS.blk (i := 0) rfl) (by kernel_rfl) (by kernel_rfl)) rfl ⟨rfl, hS.ext⟩
theorem Z6v {X1 Y1 T1 : Nat} (w : World) (hG : GE kn w) :
  Calls Tryz.prog 131 #[.agg (p4 X1 Y1 0 T1)] w fun e w' => K6 (.agg (p4 0 1 1 0)) w w' e := by
 have hS := SH.nil [] w
 go_enter Tryz.func131, Tryz.ntmps131
 go_upto_region 0 with fail
 refine RL hS ?_
 clear hS
 refine MN (z := p4 X1 Y1 0 T1) (t := 157) ?_
 intro J
 refine MN (z := p4 0 0 0 0) (t := 157) ?_
 intro G
 refine MZ fun W hS => ?_
 go_upto_region 1 with fail
 refine RL hS ?_
 clear hS
 refine MV ?_
 refine Ml 1 Q5p ?_
 refine MW ?_ (v := .agg (c4 0)) (hv := by intro W; kernel_rfl)
 have D := Y72 0 0 (by decide) (by decide)
 rw [decide_eq_true rfl] at D
 refine MW ?_ (v := .bool true) (hv := fun _ => J20 ((D) _) (by kernel_rfl) rfl rfl rfl)
 refine MZ fun W hS => ?_
 go_upto_region 2 with fail
 refine RL hS ?_
 clear hS
 refine MC (v := .agg (c4 1)) (fun W hS => J3c W) ?_
 refine MC (v := .agg (c4 1)) (fun W hS => J3c W) ?_
 refine MW ?_ (v := .agg (p4 0 1 1 0)) (hv := by intro W; kernel_rfl)
 refine MR 0 ?_ 
 refine MZ fun W hS => ?_
 go_wp2
 exact bodyPost_ret (Y3 rfl rfl (hS.blk (i := 0) rfl) (by kernel_rfl) (by kernel_rfl)) rfl ⟨rfl, hS.ext⟩
theorem J69 {X Y Z T : Nat} {a : Pr} (h : RW X Y Z T a) : ∃ X' Y' Z' T', RN X' Y' Z' T' a ∧ ∀ w, GE kn w → Calls Tryz.prog 131 #[.agg (p4 X Y Z T)] w fun e w' => K6 (.agg (p4 X' Y' Z' T')) w w' e := by
 rcases h.cases with ⟨hz, h1⟩ | ⟨rfl, rfl⟩
 ·
  exact ⟨X, Y, Z, T, h1, fun w hG => Z6u h.z hz w hG⟩
 exact ⟨0, 1, 1, 0, rn_p0, fun w hG => Z6v w hG⟩
theorem Z6w {X1 Y1 Z1 T1 : Nat} {p1 : Pr} (h1 : RN X1 Y1 Z1 T1 p1) :
  ∃ X Y Z T, RN X Y Z T (J12 p1 p1) ∧ ∀ w, GE kn w → Calls Tryz.prog 132 #[.agg (p4 X1 Y1 Z1 T1)] w fun e w' => K6 (.agg (p4 X Y Z T)) w w' e := by
 have τ := K0 X1 X1 (Z5 h1.x) (Z5 h1.x)
 obtain ⟨N1, ζ⟩ := V0 (X1 * X1 % PP)
 rw [← ζ] at τ
 have J2 := bpp ζ
 have D4 := Z5 J2
 have J3 := Lib.hid ζ
 clear ζ
 have φ := K0 Y1 Y1 (Z5 h1.y) (Z5 h1.y)
 obtain ⟨N2, S⟩ := V0 (Y1 * Y1 % PP)
 rw [← S] at φ
 have J5 := bpp S
 have D5 := Z5 J5
 have J9 := Lib.hid S
 clear S
 have D0 := K0 Z1 Z1 (Z5 h1.z) (Z5 h1.z)
 obtain ⟨N3, U⟩ := V0 (Z1 * Z1 % PP)
 rw [← U] at D0
 have M6 := bpp U
 have D2 := Z5 M6
 have J0 := Lib.hid U
 clear U
 have Ψ := J4n N3 N3 D2 D2
 obtain ⟨N4, δ⟩ := V0 ((N3 + N3) % PP)
 rw [← δ] at Ψ
 have M2 := bpp δ
 have M3 := Z5 M2
 have J7 := Lib.hid δ
 clear δ
 have Ω := J4n N1 N2 D4 D5
 obtain ⟨N5, κ⟩ := V0 ((N1 + N2) % PP)
 rw [← κ] at Ω
 have J8 := bpp κ
 have χ := Z5 J8
 have G9 := Lib.hid κ
 clear κ
 have ρ := J4n X1 Y1 (Z5 h1.x) (Z5 h1.y)
 obtain ⟨N6, V⟩ := V0 ((X1 + Y1) % PP)
 rw [← V] at ρ
 have M5 := bpp V
 have D3 := Z5 M5
 have M4 := Lib.hid V
 clear V
 have Γ := K0 N6 N6 D3 D3
 obtain ⟨N7, η⟩ := V0 (N6 * N6 % PP)
 rw [← η] at Γ
 have J1 := bpp η
 have G8 := Z5 J1
 have M0 := Lib.hid η
 clear η
 have σ := J7i N5 N7 χ G8
 obtain ⟨N8, θ⟩ := V0 ((N5 + (PP - N7 % PP)) % PP)
 rw [← θ] at σ
 have J4 := bpp θ
 have D6 := Z5 J4
 have M1 := Lib.hid θ
 clear θ
 have Ξ := J7i N1 N2 D4 D5
 obtain ⟨N9, β⟩ := V0 ((N1 + (PP - N2 % PP)) % PP)
 rw [← β] at Ξ
 have G7 := bpp β
 have ω := Z5 G7
 have J6 := Lib.hid β
 clear β
 have γ := J4n N4 N9 M3 ω
 obtain ⟨R, D⟩ := V0 ((N4 + N9) % PP)
 rw [← D] at γ
 have G0 := bpp D
 have ψ := Z5 G0
 have D7 := Lib.hid D
 clear D
 have μ := K0 N8 R D6 ψ
 obtain ⟨Δ, J⟩ := V0 (N8 * R % PP)
 rw [← J] at μ
 have G3 := bpp J
 have M9 := Z5 G3
 have D9 := Lib.hid J
 clear J
 have ε := K0 N9 N5 ω χ
 obtain ⟨ξ, N⟩ := V0 (N9 * N5 % PP)
 rw [← N] at ε
 have G4 := bpp N
 have M8 := Z5 G4
 have G5 := Lib.hid N
 clear N
 have α := K0 R N9 ψ ω
 obtain ⟨D1, M⟩ := V0 (R * N9 % PP)
 rw [← M] at α
 have D8 := bpp M
 have N0 := Z5 D8
 have G1 := Lib.hid M
 clear M
 have ν := K0 N8 N5 D6 χ
 obtain ⟨Θ, G⟩ := V0 (N8 * N5 % PP)
 rw [← G] at ν
 have G2 := bpp G
 have M7 := Z5 G2
 have G6 := Lib.hid G
 clear G
 refine ⟨Δ, ξ, D1, Θ, Q7j h1 J3.out J9.out J0.out J7.out G9.out M4.out M0.out M1.out J6.out D7.out D9.out G5.out G1.out G6.out, fun w hG => ?_⟩
 have hS := SH.nil [] w
 go_enter Tryz.func132, Tryz.ntmps132
 go_upto_region 0 with fail
 refine RL hS ?_
 clear hS
 refine MN (z := p4 X1 Y1 Z1 T1) (t := 157) ?_
 intro R4
 refine MN (z := p4 0 0 0 0) (t := 157) ?_
 intro R2
 refine MZ fun W hS => ?_
 go_upto_region 1 with fail
 refine RXn 10 [⟨10, 3, c4 0, 155⟩, ⟨11, 4, c4 0, 155⟩] hS ?_ (by simp only [List.forall_mem_cons]; exact ⟨⟨_, rfl, rfl, rfl, fun _ _ => by kernel_rfl⟩, ⟨_, rfl, rfl, rfl, fun _ _ => by kernel_rfl⟩, fun _ h => by cases h⟩)
 clear hS
 refine MV ?_
 refine Ml 1 Q3p ?_
 refine MV ?_
 refine Ml 1 Q3p ?_
 refine MC (v := .agg (c4 N1)) (fun W hS => τ W (Q8 hG hS.ext).1) ?_
 refine MV ?_
 refine Ml 1 Q5q ?_
 refine MV ?_
 refine Ml 1 Q5q ?_
 refine MC (v := .agg (c4 N2)) (fun W hS => φ W (Q8 hG hS.ext).1) ?_
 refine MZB fun R7 => ?_
 refine MR 0 ?_ 
 refine MR 1 ?_ 
 refine MZn fun W hS => ?_
 go_upto_region 2 with fail
 refine RL hS ?_
 clear hS
 refine MV ?_
 refine Ml 3 Q5p ?_
 refine MV ?_
 refine Ml 3 Q5p ?_
 refine MC (v := .agg (c4 N3)) (fun W hS => D0 W (Q8 hG hS.ext).1) ?_
 refine MN (z := c4 0) (t := 155) ?_
 intro R1
 refine MR 0 ?_ 
 refine MZ fun W hS => ?_
 go_upto_region 3 with fail
 refine RL hS ?_
 clear hS
 refine ML 0 ?_
 refine ML 0 ?_
 refine MC (v := .agg (c4 N4)) (fun W hS => Ψ W (Q8 hG hS.ext).1) ?_
 refine MR 0 ?_ 
 refine MZ fun W hS => ?_
 go_upto_region 4 with fail
 refine RL hS ?_
 clear hS
 refine ML 1 ?_
 refine ML 2 ?_
 refine MC (v := .agg (c4 N5)) (fun W hS => Ω W (Q8 hG hS.ext).1) ?_
 refine MN (z := c4 0) (t := 155) ?_
 intro R5
 refine MR 0 ?_ 
 refine MZ fun W hS => ?_
 go_upto_region 5 with fail
 refine RL hS ?_
 clear hS
 refine MV ?_
 refine Ml 5 Q3p ?_
 refine MV ?_
 refine Ml 5 Q5q ?_
 refine MC (v := .agg (c4 N6)) (fun W hS => ρ W (Q8 hG hS.ext).1) ?_
 refine MN (z := c4 0) (t := 155) ?_
 intro R0
 refine MR 0 ?_ 
 refine MZ fun W hS => ?_
 go_upto_region 6 with fail
 refine RXn 5 [⟨5, 8, c4 0, 155⟩] hS ?_ (by simp only [List.forall_mem_cons]; exact ⟨⟨_, rfl, rfl, rfl, fun _ _ => by kernel_rfl⟩, fun _ h => by cases h⟩)
 clear hS
 refine ML 1 ?_
 refine ML 0 ?_
 refine ML 0 ?_
 refine MC (v := .agg (c4 N7)) (fun W hS => Γ W (Q8 hG hS.ext).1) ?_
 refine MC (v := .agg (c4 N8)) (fun W hS => σ W (Q8 hG hS.ext).1) ?_
 refine MZB fun R8 => ?_
 refine MR 0 ?_ 
 refine MZn fun W hS => ?_
 go_upto_region 7 with fail
 refine RL hS ?_
 clear hS
 refine ML 4 ?_
 refine ML 5 ?_
 refine MC (v := .agg (c4 N9)) (fun W hS => Ξ W (Q8 hG hS.ext).1) ?_
 refine MN (z := c4 0) (t := 155) ?_
 intro R3
 refine MR 0 ?_ 
 refine MZ fun W hS => ?_
 go_upto_region 8 with fail
 refine RL hS ?_
 clear hS
 refine ML 4 ?_
 refine ML 0 ?_
 refine MC (v := .agg (c4 R)) (fun W hS => γ W (Q8 hG hS.ext).1) ?_
 refine MN (z := c4 0) (t := 155) ?_
 intro R6
 refine MR 0 ?_ 
 refine MZ fun W hS => ?_
 go_upto_region 9 with fail
 refine RX 13 hS ?_
 clear hS
 refine ML 2 ?_
 refine ML 0 ?_
 refine MC (v := .agg (c4 Δ)) (fun W hS => μ W (Q8 hG hS.ext).1) ?_
 refine ML 1 ?_
 refine ML 4 ?_
 refine MC (v := .agg (c4 ξ)) (fun W hS => ε W (Q8 hG hS.ext).1) ?_
 refine ML 0 ?_
 refine ML 1 ?_
 refine MC (v := .agg (c4 D1)) (fun W hS => α W (Q8 hG hS.ext).1) ?_
 refine ML 2 ?_
 refine ML 4 ?_
 refine MC (v := .agg (c4 Θ)) (fun W hS => ν W (Q8 hG hS.ext).1) ?_
 refine MW ?_ (v := .agg (p4 Δ ξ D1 Θ)) (hv := by intro W; kernel_rfl)
 refine MZt ?_
 refine MR 8 ?_ 
 refine MZn fun W hS => ?_
 go_wp2
 exact bodyPost_ret (Y3 rfl rfl (hS.blk (i := 8) rfl) (by kernel_rfl) (by kernel_rfl)) rfl ⟨rfl, hS.ext⟩
theorem Z6x (hd : kn.d) {X1 Y1 Z1 T1 : Nat} {p1 : Pr} {X2 Y2 Z2 T2 : Nat} {p2 : Pr} (h1 : RW X1 Y1 Z1 T1 p1) (h2 : RW X2 Y2 Z2 T2 p2) :
  ∃ X Y Z T, RN X Y Z T (J12 p1 p2) ∧ ∀ w, GE kn w → Calls Tryz.prog 107 #[.agg (p4 X1 Y1 Z1 T1), .agg (p4 X2 Y2 Z2 T2)] w fun e w' => K6 (.agg (p4 X Y Z T)) w w' e := by
 obtain ⟨x1, y2, z3, t4, r5, c6⟩ := J69 (kn := kn) h1
 obtain ⟨x7, y8, z9, G3, D, T5⟩ := J69 (kn := kn) h2
 have D0 := J7i y2 x1 (Z5 r5.y) (Z5 r5.x)
 obtain ⟨J6, V⟩ := V0 ((y2 + (PP - x1 % PP)) % PP)
 rw [← V] at D0
 have M8 := bpp V
 have S5 := Z5 M8
 have R0 := Lib.hid V
 clear V
 have G1 := J7i y8 x7 (Z5 D.y) (Z5 D.x)
 obtain ⟨J1, S⟩ := V0 ((y8 + (PP - x7 % PP)) % PP)
 rw [← S] at G1
 have R4 := bpp S
 have N2 := Z5 R4
 have T4 := Lib.hid S
 clear S
 have D9 := K0 J6 J1 S5 N2
 obtain ⟨ψ, ε⟩ := V0 (J6 * J1 % PP)
 rw [← ε] at D9
 have M1 := bpp ε
 have G8 := Z5 M1
 have S0 := Lib.hid ε
 clear ε
 have D7 := J4n y2 x1 (Z5 r5.y) (Z5 r5.x)
 obtain ⟨G5, γ⟩ := V0 ((y2 + x1) % PP)
 rw [← γ] at D7
 have S2 := bpp γ
 have S9 := Z5 S2
 have R6 := Lib.hid γ
 clear γ
 have D1 := J4n y8 x7 (Z5 D.y) (Z5 D.x)
 obtain ⟨J4, α⟩ := V0 ((y8 + x7) % PP)
 rw [← α] at D1
 have N5 := bpp α
 have S8 := Z5 N5
 have T3 := Lib.hid α
 clear α
 have Δ := K0 G5 J4 S9 S8
 obtain ⟨ρ, ζ⟩ := V0 (G5 * J4 % PP)
 rw [← ζ] at Δ
 have M7 := bpp ζ
 have G9 := Z5 M7
 have N6 := Lib.hid ζ
 clear ζ
 have G0 := K0 t4 D2 (Z5 r5.t) V0n
 obtain ⟨G6, η⟩ := V0 (t4 * D2 % PP)
 rw [← η] at G0
 have R3 := bpp η
 have M4 := Z5 R3
 have M6 := Lib.hid η
 clear η
 have D5 := K0 G6 G3 M4 (Z5 D.t)
 obtain ⟨ν, J⟩ := V0 (G6 * G3 % PP)
 rw [← J] at D5
 have M9 := bpp J
 have G4 := Z5 M9
 have S6 := Lib.hid J
 clear J
 have Γ := J4n z3 z3 (Z5 r5.z) (Z5 r5.z)
 obtain ⟨J8, μ⟩ := V0 ((z3 + z3) % PP)
 rw [← μ] at Γ
 have N9 := bpp μ
 have R7 := Z5 N9
 have R9 := Lib.hid μ
 clear μ
 have D4 := K0 J8 z9 R7 (Z5 D.z)
 obtain ⟨φ, θ⟩ := V0 (J8 * z9 % PP)
 rw [← θ] at D4
 have R2 := bpp θ
 have J7 := Z5 R2
 have S7 := Lib.hid θ
 clear θ
 have D8 := J7i ρ ψ G9 G8
 obtain ⟨χ, N⟩ := V0 ((ρ + (PP - ψ % PP)) % PP)
 rw [← N] at D8
 have M5 := bpp N
 have M0 := Z5 M5
 have S4 := Lib.hid N
 clear N
 have D3 := J7i φ ν J7 G4
 obtain ⟨ξ, M⟩ := V0 ((φ + (PP - ν % PP)) % PP)
 rw [← M] at D3
 have R1 := bpp M
 have J9 := Z5 R1
 have T0 := Lib.hid M
 clear M
 have Ξ := J4n φ ν J7 G4
 obtain ⟨τ, U⟩ := V0 ((φ + ν) % PP)
 rw [← U] at Ξ
 have N4 := bpp U
 have J2 := Z5 N4
 have N7 := Lib.hid U
 clear U
 have Ω := J4n ρ ψ G9 G8
 obtain ⟨σ, β⟩ := V0 ((ρ + ψ) % PP)
 rw [← β] at Ω
 have S1 := bpp β
 have J0 := Z5 S1
 have S3 := Lib.hid β
 clear β
 have ω := K0 χ ξ M0 J9
 obtain ⟨G7, δ⟩ := V0 (χ * ξ % PP)
 rw [← δ] at ω
 have N1 := bpp δ
 have T6 := Z5 N1
 have N0 := Lib.hid δ
 clear δ
 have Ψ := K0 τ σ J2 J0
 obtain ⟨G2, G⟩ := V0 (τ * σ % PP)
 rw [← G] at Ψ
 have N8 := bpp G
 have T8 := Z5 N8
 have R5 := Lib.hid G
 clear G
 have Θ := K0 ξ τ J9 J2
 obtain ⟨J3, κ⟩ := V0 (ξ * τ % PP)
 rw [← κ] at Θ
 have M3 := bpp κ
 have T9 := Z5 M3
 have R8 := Lib.hid κ
 clear κ
 have D6 := K0 χ σ M0 J0
 obtain ⟨J5, R⟩ := V0 (χ * σ % PP)
 rw [← R] at D6
 have M2 := bpp R
 have T7 := Z5 M2
 have N3 := Lib.hid R
 clear R
 refine ⟨G7, G2, J3, J5, Z6y r5 D R0.out T4.out S0.out R6.out T3.out N6.out M6.out S6.out R9.out S7.out S4.out T0.out N7.out S3.out N0.out R5.out R8.out N3.out, fun w hG => ?_⟩
 have hS := SH.nil [] w
 go_enter Tryz.func107, Tryz.ntmps107
 go_upto_region 0 with fail
 refine RL hS ?_
 clear hS
 refine MN (z := p4 X1 Y1 Z1 T1) (t := 157) ?_
 intro V2
 refine MN (z := p4 X2 Y2 Z2 T2) (t := 157) ?_
 intro V1
 refine MN (z := p4 0 0 0 0) (t := 157) ?_
 intro V3
 refine MZ fun W hS => ?_
 go_upto_region 1 with fail
 refine RX 4 hS ?_
 clear hS
 refine ML 2 ?_
 refine MC (v := .agg (p4 x1 y2 z3 t4)) (fun W hS => c6 W (Q8 hG hS.ext)) ?_
 refine ML 1 ?_
 refine MC (v := .agg (p4 x7 y8 z9 G3)) (fun W hS => T5 W (Q8 hG hS.ext)) ?_
 refine MZt ?_
 refine MR 2 ?_ 
 refine MR 1 ?_ 
 refine MZn fun W hS => ?_
 go_upto_region 2 with fail
 refine RXn 11 [⟨11, 5, c4 0, 155⟩] hS ?_ (by simp only [List.forall_mem_cons]; exact ⟨⟨_, rfl, rfl, rfl, fun _ _ => by kernel_rfl⟩, fun _ h => by cases h⟩)
 clear hS
 refine MV ?_
 refine Ml 2 Q5q ?_
 refine MV ?_
 refine Ml 2 Q3p ?_
 refine MC (v := .agg (c4 J6)) (fun W hS => D0 W (Q8 hG hS.ext).1) ?_
 refine MV ?_
 refine Ml 1 Q5q ?_
 refine MV ?_
 refine Ml 1 Q3p ?_
 refine MC (v := .agg (c4 J1)) (fun W hS => G1 W (Q8 hG hS.ext).1) ?_
 refine MC (v := .agg (c4 ψ)) (fun W hS => D9 W (Q8 hG hS.ext).1) ?_
 refine MZB fun V7 => ?_
 refine MR 0 ?_ 
 refine MZn fun W hS => ?_
 go_upto_region 3 with fail
 refine RXn 11 [⟨11, 6, c4 0, 155⟩] hS ?_ (by simp only [List.forall_mem_cons]; exact ⟨⟨_, rfl, rfl, rfl, fun _ _ => by kernel_rfl⟩, fun _ h => by cases h⟩)
 clear hS
 refine MV ?_
 refine Ml 3 Q5q ?_
 refine MV ?_
 refine Ml 3 Q3p ?_
 refine MC (v := .agg (c4 G5)) (fun W hS => D7 W (Q8 hG hS.ext).1) ?_
 refine MV ?_
 refine Ml 2 Q5q ?_
 refine MV ?_
 refine Ml 2 Q3p ?_
 refine MC (v := .agg (c4 J4)) (fun W hS => D1 W (Q8 hG hS.ext).1) ?_
 refine MC (v := .agg (c4 ρ)) (fun W hS => Δ W (Q8 hG hS.ext).1) ?_
 refine MZB fun V5 => ?_
 refine MR 0 ?_ 
 refine MZn fun W hS => ?_
 go_upto_region 4 with fail
 refine RXn 7 [⟨7, 7, c4 0, 155⟩] hS ?_ (by simp only [List.forall_mem_cons]; exact ⟨⟨_, rfl, rfl, rfl, fun _ _ => by kernel_rfl⟩, fun _ h => by cases h⟩)
 clear hS
 refine MV ?_
 refine Ml 4 Y76 ?_
 refine MF (v := .agg (c4 D2)) (fun W hS => J2e rfl rfl ((Q8 hG hS.ext).2.2.2.1 hd) (by kernel_rfl) (by kernel_rfl)) ?_
 refine MC (v := .agg (c4 G6)) (fun W hS => G0 W (Q8 hG hS.ext).1) ?_
 refine MV ?_
 refine Ml 3 Y76 ?_
 refine MC (v := .agg (c4 ν)) (fun W hS => D5 W (Q8 hG hS.ext).1) ?_
 refine MZB fun V8 => ?_
 refine MR 0 ?_ 
 refine MZn fun W hS => ?_
 go_upto_region 5 with fail
 refine RXn 8 [⟨8, 8, c4 0, 155⟩] hS ?_ (by simp only [List.forall_mem_cons]; exact ⟨⟨_, rfl, rfl, rfl, fun _ _ => by kernel_rfl⟩, fun _ h => by cases h⟩)
 clear hS
 refine MV ?_
 refine Ml 5 Q5p ?_
 refine MV ?_
 refine Ml 5 Q5p ?_
 refine MC (v := .agg (c4 J8)) (fun W hS => Γ W (Q8 hG hS.ext).1) ?_
 refine MV ?_
 refine Ml 4 Q5p ?_
 refine MC (v := .agg (c4 φ)) (fun W hS => D4 W (Q8 hG hS.ext).1) ?_
 refine MZB fun V4 => ?_
 refine MR 0 ?_ 
 refine MZn fun W hS => ?_
 go_upto_region 6 with fail
 refine RXn 12 [⟨12, 9, c4 0, 155⟩, ⟨13, 10, c4 0, 155⟩, ⟨14, 11, c4 0, 155⟩, ⟨15, 12, c4 0, 155⟩] hS ?_ (by simp only [List.forall_mem_cons]; exact ⟨⟨_, rfl, rfl, rfl, fun _ _ => by kernel_rfl⟩, ⟨_, rfl, rfl, rfl, fun _ _ => by kernel_rfl⟩, ⟨_, rfl, rfl, rfl, fun _ _ => by kernel_rfl⟩, ⟨_, rfl, rfl, rfl, fun _ _ => by kernel_rfl⟩, fun _ h => by cases h⟩)
 clear hS
 refine ML 2 ?_
 refine ML 3 ?_
 refine MC (v := .agg (c4 χ)) (fun W hS => D8 W (Q8 hG hS.ext).1) ?_
 refine ML 0 ?_
 refine ML 1 ?_
 refine MC (v := .agg (c4 ξ)) (fun W hS => D3 W (Q8 hG hS.ext).1) ?_
 refine ML 0 ?_
 refine ML 1 ?_
 refine MC (v := .agg (c4 τ)) (fun W hS => Ξ W (Q8 hG hS.ext).1) ?_
 refine ML 2 ?_
 refine ML 3 ?_
 refine MC (v := .agg (c4 σ)) (fun W hS => Ω W (Q8 hG hS.ext).1) ?_
 refine MZB fun V6 => ?_
 refine MR 0 ?_ 
 refine MR 1 ?_ 
 refine MR 2 ?_ 
 refine MR 3 ?_ 
 refine MZn fun W hS => ?_
 go_upto_region 7 with fail
 refine RX 13 hS ?_
 clear hS
 refine ML 0 ?_
 refine ML 1 ?_
 refine MC (v := .agg (c4 G7)) (fun W hS => ω W (Q8 hG hS.ext).1) ?_
 refine ML 2 ?_
 refine ML 3 ?_
 refine MC (v := .agg (c4 G2)) (fun W hS => Ψ W (Q8 hG hS.ext).1) ?_
 refine ML 1 ?_
 refine ML 2 ?_
 refine MC (v := .agg (c4 J3)) (fun W hS => Θ W (Q8 hG hS.ext).1) ?_
 refine ML 0 ?_
 refine ML 3 ?_
 refine MC (v := .agg (c4 J5)) (fun W hS => D6 W (Q8 hG hS.ext).1) ?_
 refine MW ?_ (v := .agg (p4 G7 G2 J3 J5)) (hv := by intro W; kernel_rfl)
 refine MZt ?_
 refine MR 8 ?_ 
 refine MZn fun W hS => ?_
 go_wp2
 exact bodyPost_ret (Y3 rfl rfl (hS.blk (i := 8) rfl) (by kernel_rfl) (by kernel_rfl)) rfl ⟨rfl, hS.ext⟩
theorem Y77 {X1 Y1 Z1 T1 : Nat} {p1 : Pr} (h1 : RW X1 Y1 Z1 T1 p1) :
  ∃ X Y Z T, RN X Y Z T (J5c p1) ∧ ∀ w, GE kn w → Calls Tryz.prog 108 #[.agg (p4 X1 Y1 Z1 T1)] w fun e w' => K6 (.agg (p4 X Y Z T)) w w' e := by
 obtain ⟨x1, y2, z3, t4, r5, c6⟩ := J69 (kn := kn) h1
 have J := J8u x1 (Z5 r5.x)
 obtain ⟨N7, D⟩ := V0 ((PP - x1 % PP) % PP)
 rw [← D] at J
 have U := bpp D
 have α := Z5 U
 have N := Lib.hid D
 clear D
 have M := J8u t4 (Z5 r5.t)
 obtain ⟨N8, G⟩ := V0 ((PP - t4 % PP) % PP)
 rw [← G] at M
 have R := bpp G
 have β := Z5 R
 have S := Lib.hid G
 clear G
 refine ⟨N7, y2, z3, N8, Y78 r5 N.out S.out, fun w hG => ?_⟩
 have hS := SH.nil [] w
 go_enter Tryz.func108, Tryz.ntmps108
 go_upto_region 0 with fail
 refine RL hS ?_
 clear hS
 refine MN (z := p4 X1 Y1 Z1 T1) (t := 157) ?_
 intro V
 refine MN (z := p4 0 0 0 0) (t := 157) ?_
 intro γ
 refine MZ fun W hS => ?_
 go_upto_region 1 with fail
 refine RL hS ?_
 clear hS
 refine ML 1 ?_
 refine MC (v := .agg (p4 x1 y2 z3 t4)) (fun W hS => c6 W (Q8 hG hS.ext)) ?_
 refine MR 1 ?_ 
 refine MZ fun W hS => ?_
 go_upto_region 2 with fail
 refine RX 11 hS ?_
 clear hS
 refine MV ?_
 refine Ml 1 Q3p ?_
 refine MC (v := .agg (c4 N7)) (fun W hS => J W (Q8 hG hS.ext).1) ?_
 refine MV ?_
 refine Ml 1 Q5q ?_
 refine MV ?_
 refine Ml 1 Q5p ?_
 refine MV ?_
 refine Ml 1 Y76 ?_
 refine MC (v := .agg (c4 N8)) (fun W hS => M W (Q8 hG hS.ext).1) ?_
 refine MW ?_ (v := .agg (p4 N7 y2 z3 N8)) (hv := by intro W; kernel_rfl)
 refine MZt ?_
 refine MR 0 ?_ 
 refine MZn fun W hS => ?_
 go_wp2
 exact bodyPost_ret (Y3 rfl rfl (hS.blk (i := 0) rfl) (by kernel_rfl) (by kernel_rfl)) rfl ⟨rfl, hS.ext⟩
theorem Q5r (hb : kn.b) :
  ∃ X Y Z T, RN X Y Z T BP ∧ ∀ w, GE kn w → Calls Tryz.prog 89 #[] w fun e w' => K6 (.agg (p4 X Y Z T)) w w' e := by
 obtain ⟨t1, r2, c3⟩ := Y59 (kn := kn) (X := BX) (Y := BY) (by decide) (by decide) J9l
 refine ⟨BX, BY, 1, t1, r2, fun w hG => ?_⟩
 have hS := SH.nil [] w
 go_enter Tryz.func89, Tryz.ntmps89
 go_upto_region 0 with fail
 refine RL hS ?_
 clear hS
 refine MN (z := p4 0 0 0 0) (t := 157) ?_
 intro D
 refine MZ fun W hS => ?_
 go_upto_region 1 with fail
 refine RL hS ?_
 clear hS
 refine MF (v := .agg (c4 BX)) (fun W hS => J2e rfl rfl ((Q8 hG hS.ext).2.2.2.2.1 hb) (by kernel_rfl) (by kernel_rfl)) ?_
 refine MF (v := .agg (c4 BY)) (fun W hS => J2e rfl rfl ((Q8 hG hS.ext).2.2.2.2.2 hb) (by kernel_rfl) (by kernel_rfl)) ?_
 refine MC (v := .agg (p4 BX BY 1 t1)) (fun W hS => c3 W (Q8 hG hS.ext)) ?_
 refine MR 0 ?_ 
 refine MZ fun W hS => ?_
 go_wp2
 exact bodyPost_ret (Y3 rfl rfl (hS.blk (i := 0) rfl) (by kernel_rfl) (by kernel_rfl)) rfl ⟨rfl, hS.ext⟩
end

section
set_option maxHeartbeats 1500000
attribute [local irreducible] wpList J01 wpX
variable {kn : Kn}
theorem Q1d {A : Nat} (h : A < PP) : A < 2 ^ 256 := Nat.lt_trans h (by decide)
theorem V0o {X Y Z i x y : Nat} {a : Pr} (r : RD X Y Z a) (ei : i = pw Z (PP - 2)) (ex : x = X * i % PP) (ey : y = Y * i % PP) (ho : x % 2 = 1) : J0 .u8 32 (upd (Q3 y) 31 (bits .or .u8 (Q3 y 31) 128)) = J0 .u8 32 (Q3 (enc a)) := by
 obtain ⟨h1, h2⟩ := Q5s r ei ex ey
 rw [Y5a (Nat.lt_trans (ey ▸ J23 _) Q5t)]
 unfold enc
 rw [← h1, ← h2, ho]
theorem V0p {X Y Z i x y : Nat} {a : Pr} (r : RD X Y Z a) (ei : i = pw Z (PP - 2)) (ex : x = X * i % PP) (ey : y = Y * i % PP) (ho : ¬ x % 2 = 1) : J0 .u8 32 (Q3 y) = J0 .u8 32 (Q3 (enc a)) := by
 obtain ⟨h1, h2⟩ := Q5s r ei ex ey
 have : x % 2 = 0 := by omega
 unfold enc
 rw [← h1, ← h2, this, Nat.mul_zero, Nat.add_zero]


theorem Y79 {X1 Y1 Z1 T1 : Nat} {p1 : Pr} (h1 : RW X1 Y1 Z1 T1 p1) :
  ∀ w, GE kn w → Calls Tryz.prog 92 #[.agg (p4 X1 Y1 Z1 T1)] w fun e w' => K6 (.agg (J0 .u8 32 (Q3 (enc p1)))) w w' e := by
 obtain ⟨x1, y2, z3, t4, r5, c6⟩ := J69 (kn := kn) h1
 have S := Y71 z3 (Z5 r5.z)
 obtain ⟨N7, M⟩ := V0 (pw z3 (PP - 2))
 rw [← M] at S
 have ζ := bpp M
 have X := Z5 ζ
 have Z := Lib.hid M
 clear M
 have V := K0 y2 N7 (Z5 r5.y) X
 obtain ⟨N8, N⟩ := V0 (y2 * N7 % PP)
 rw [← N] at V
 have β := bpp N
 have ε := Z5 β
 have γ := Lib.hid N
 clear N
 have Y := Q2p N8 ε
 rw [Nat.mod_eq_of_lt β] at Y
 have G := K0 x1 N7 (Z5 r5.x) X
 obtain ⟨R, J⟩ := V0 (x1 * N7 % PP)
 rw [← J] at G
 have T := bpp J
 have δ := Z5 T
 have U := Lib.hid J
 clear J
 have D := Q98 R δ
 rw [Nat.mod_eq_of_lt T] at D
 intro w hG
 have hS := SH.nil [] w
 go_enter Tryz.func92, Tryz.ntmps92
 go_upto_region 0 with fail
 refine RL hS ?_
 clear hS
 refine MN (z := p4 X1 Y1 Z1 T1) (t := 157) ?_
 intro η
 refine MN (z := J0 .u8 32 (Q3 0)) (t := 23) ?_
 intro κ
 refine MZ fun W hS => ?_
 go_upto_region 1 with fail
 refine RL hS ?_
 clear hS
 refine ML 1 ?_
 refine MC (v := .agg (p4 x1 y2 z3 t4)) (fun W hS => c6 W (Q8 hG hS.ext)) ?_
 refine MR 1 ?_ 
 refine MZ fun W hS => ?_
 go_upto_region 2 with fail
 refine RL hS ?_
 clear hS
 refine MV ?_
 refine Ml 1 Q5p ?_
 refine MC (v := .agg (c4 N7)) (fun W hS => S W (Q8 hG hS.ext).1) ?_
 refine MN (z := c4 0) (t := 155) ?_
 intro θ
 refine MR 0 ?_ 
 refine MZ fun W hS => ?_
 go_upto_region 3 with fail
 refine RL hS ?_
 clear hS
 refine MV ?_
 refine Ml 2 Q5q ?_
 refine ML 0 ?_
 refine MC (v := .agg (c4 N8)) (fun W hS => V W (Q8 hG hS.ext).1) ?_
 refine MC (v := .agg (J0 .u8 32 (Q3 N8))) (fun W hS => Y W (Q8 hG hS.ext).1) ?_
 refine MN (z := J0 .u8 32 (Q3 0)) (t := 23) ?_
 intro α
 refine MR 0 ?_ 
 refine MZ fun W hS => ?_
 by_cases ho : R % 2 = 1
 ·
  go_upto_region 4 with fail
  refine RL hS ?_
  clear hS
  refine MV ?_
  refine Ml 3 Q3p ?_
  refine ML 1 ?_
  refine MC (v := .agg (c4 R)) (fun W hS => G W (Q8 hG hS.ext).1) ?_
  rw [decide_eq_true ho] at D
  refine MC (v := .bool true) (fun W hS => D W (Q8 hG hS.ext).1) ?_
  refine MZ fun W hS => ?_
  go_upto_region 5 with fail
  refine RL hS ?_
  clear hS
  refine MW ?_ (v := .pointer (some ⟨α, 0 + 31, none⟩)) (hv := fun _ => J7 (m := 32) (by decide) (by decide) Tryz.underlying23 (by kernel_rfl) rfl rfl rfl)
  refine MG 0 ?_ (j := 0 + 31) (v := .int .u8 ((Q3 N8) 31)) (hj := by rw [Nat.zero_add]; exact J4 _ _ _ _ (by decide))
  refine MW ?_ (v := .int .u8 (bits .or .u8 (Q3 N8 31) 128)) (hv := by intro W; exact Z1e rfl rfl rfl rfl)
  refine MW ?_ (v := .pointer (some ⟨α, 0 + 31, none⟩)) (hv := fun _ => J7 (m := 32) (by decide) (by decide) Tryz.underlying23 (by kernel_rfl) rfl rfl rfl)
  refine MP 0 (v := .int .u8 (bits .or .u8 (Q3 N8 31) 128)) (cs' := J0 .u8 32 (upd (Q3 N8) 31 (bits .or .u8 (Q3 N8 31) 128))) ?_ (hs := by rw [J2, Nat.zero_add]; decide) (hc := by rw [Nat.zero_add]; exact V6 _ _ _ _ _)
  refine MT (fun W hS => by rw [V0o r5.rr Z.out U.out γ.out ho] at hS; exact hS) ?_
  refine MZ fun W hS => ?_
  go_upto_region 6 with fail
  refine RL hS ?_
  clear hS
  refine ML 0 ?_
  refine MR 2 ?_ 
  refine MZ fun W hS => ?_
  go_wp2
  exact bodyPost_ret (Y3 rfl rfl (hS.blk (i := 2) rfl) (by kernel_rfl) (by rw [J2]; kernel_rfl)) rfl ⟨rfl, hS.ext⟩
 go_upto_region 4 with fail
 refine RL hS ?_
 clear hS
 refine MV ?_
 refine Ml 3 Q3p ?_
 refine ML 1 ?_
 refine MC (v := .agg (c4 R)) (fun W hS => G W (Q8 hG hS.ext).1) ?_
 rw [decide_eq_false ho] at D
 refine MC (v := .bool false) (fun W hS => D W (Q8 hG hS.ext).1) ?_
 refine MZ fun W hS => ?_
 rw [V0p r5.rr Z.out U.out γ.out ho] at hS
 go_upto_region 6 with fail
 refine RL hS ?_
 clear hS
 refine ML 0 ?_
 refine MR 2 ?_ 
 refine MZ fun W hS => ?_
 go_wp2
 exact bodyPost_ret (Y3 rfl rfl (hS.blk (i := 2) rfl) (by kernel_rfl) (by rw [J2]; kernel_rfl)) rfl ⟨rfl, hS.ext⟩
end

section
set_option maxHeartbeats 1500000
attribute [local irreducible] wpList J01 wpX
variable {kn : Kn}
theorem Z70 {p : Int} {x : Nat} (h : p = (x : Int)) (hx : x < 256) : bits .and .u8 p 1 = ((x % 2 : Nat) : Int) := by
 subst h
 refine (u8_and_nat x 1 hx (by decide)).trans ?_
 rw [Nat.and_one_is_mod]
theorem Z1i (n q r : Nat) (hr : r < 8) : bits .and .u8 (Q3 n q / 2 ^ r) 1 = ((n / 2 ^ (8 * q + r) % 2 : Nat) : Int) := by
 have h0 : n / 2 ^ (8 * q) % 256 / 2 ^ r % 2 = n / 2 ^ (8 * q + r) % 2 := by
  rw [Nat.pow_add, ← Nat.div_div_eq_div_mul]
  generalize n / 2 ^ (8 * q) = x
  obtain ⟨d, hd⟩ : ∃ d, 8 = r + (1 + d) := ⟨7 - r, by omega⟩
  rw [show 256 = 2 ^ 8 by decide, hd, Nat.pow_add 2 r, Nat.mod_mul_right_div_self, Nat.pow_add 2 1 d, Nat.pow_one, Nat.mod_mul_right_mod]
 have e : Q3 n q / 2 ^ r = ((n / 2 ^ (8 * q) % 256 / 2 ^ r : Nat) : Int) := by
  unfold Q3
  rw [Int.natCast_ediv, Int.natCast_pow]; rfl
 rw [Z70 e (Nat.lt_of_le_of_lt (Nat.div_le_self _ _) (Nat.mod_lt _ (by decide))), h0]
theorem Z1j {a : Pr} (ha : OnC a) {n i : Nat} (h : n / 2 ^ i % 2 = 0) : pm a (n / 2 ^ i) = J12 (pm a (n / 2 ^ (i + 1))) (pm a (n / 2 ^ (i + 1))) := by
 rw [← Q2u ha]
 congr 1
 rw [Nat.pow_succ, ← Nat.div_div_eq_div_mul]; omega
theorem Q7m {a : Pr} (ha : OnC a) {n i : Nat} (h : n / 2 ^ i % 2 = 1) : pm a (n / 2 ^ i) = J12 (J12 (pm a (n / 2 ^ (i + 1))) (pm a (n / 2 ^ (i + 1)))) a := by
 rw [← Y7b ha]
 congr 1
 rw [Nat.pow_succ, ← Nat.div_div_eq_div_mul]; omega
abbrev T4 := Nat × Nat × Nat × Nat
def pc (s : T4) : Array Value := p4 s.1 s.2.1 s.2.2.1 s.2.2.2
def RT (s : T4) (a : Pr) : Prop := RN s.1 s.2.1 s.2.2.1 s.2.2.2 a
structure TStep (kn : Kn) (P : T4) (n j : Nat) (s g s' : T4) : Prop where
 tw : ∀ w, GE kn w → Calls Tryz.prog 132 #[.agg (pc s)] w fun e w' => K6 (.agg (pc g)) w w' e
 ad : n / 2 ^ j % 2 = 1 → ∀ w, GE kn w → Calls Tryz.prog 107 #[.agg (pc g), .agg (pc P)] w fun e w' => K6 (.agg (pc s')) w w' e
 no : ¬ n / 2 ^ j % 2 = 1 → s' = g
theorem V0q (hd : kn.d) {P s : T4} {a : Pr} {n j : Nat} (hP : RT P a) (hs : RT s (pm a (n / 2 ^ (j + 1)))) : ∃ g s', TStep kn P n j s g s' ∧ RT s' (pm a (n / 2 ^ j)) := by
 obtain ⟨x, y, z, t, r, c⟩ := Z6w (kn := kn) hs
 by_cases h : n / 2 ^ j % 2 = 1
 ·
  obtain ⟨x', y', z', t', r', c'⟩ := Z6x hd r.rw hP.rw
  exact ⟨(x, y, z, t), (x', y', z', t'), ⟨c, fun _ => c', fun h0 => absurd h h0⟩, by rw [Q7m hP.on h]; exact r'⟩
 exact ⟨(x, y, z, t), (x, y, z, t), ⟨c, fun h0 => absurd h0 h, fun _ => rfl⟩, by rw [Z1j hP.on (by omega)]; exact r⟩
theorem V0r (hd : kn.d) {P s0 : T4} {a : Pr} {n : Nat} (hP : RT P a) (h0 : RT s0 (pm a (n / 2 ^ 256))) : ∀ m, m ≤ 256 → ∃ f g : Nat → T4, f 256 = s0 ∧ (∀ j, 256 - m ≤ j → j ≤ 256 → RT (f j) (pm a (n / 2 ^ j))) ∧ ∀ j, 256 - m ≤ j → j < 256 → TStep kn P n j (f (j + 1)) (g j) (f j)
 | 0, _ => ⟨fun _ => s0, fun _ => s0, rfl, fun j h1 h2 => by rw [show j = 256 by omega]; exact h0, fun j h1 h2 => by omega⟩
 | m + 1, hm => by
  obtain ⟨f, g, e0, e1, e2⟩ := V0r hd hP h0 m (by omega)
  obtain ⟨k, hk⟩ : ∃ k, k = 255 - m := ⟨_, rfl⟩
  obtain ⟨x, s', st, hr⟩ := V0q hd (j := k) hP (e1 (k + 1) (by omega) (by omega))
  refine ⟨fun j => if j = k then s' else f j, fun j => if j = k then x else g j, ?_, fun j h1 h2 => ?_, fun j h1 h2 => ?_⟩
  ·
   show (if 256 = k then s' else f 256) = s0
   rw [if_neg (by omega)]; exact e0
  ·
   show RT (if j = k then s' else f j) _
   by_cases h : j = k
   ·
    rw [if_pos h, h]; exact hr
   ·
    rw [if_neg h]; exact e1 j (by omega) h2
  ·
   show TStep kn P n j (if j + 1 = k then s' else f (j + 1)) (if j = k then x else g j) (if j = k then s' else f j)
   rw [if_neg (by omega)]
   by_cases h : j = k
   ·
    rw [if_pos h, if_pos h, h]; exact st
   ·
    rw [if_neg h, if_neg h]; exact e2 j (by omega) h2

theorem J9r (hd : kn.d) {X1 Y1 Z1 T1 : Nat} {p1 : Pr} (h1 : RW X1 Y1 Z1 T1 p1) {N : Nat} (hN : N < 2 ^ 256) :
  ∃ X Y Z T, RN X Y Z T (pm p1 N) ∧ ∀ w, GE kn w → Calls Tryz.prog 90 #[.agg (p4 X1 Y1 Z1 T1), .agg (J0 .u8 32 (Q3 N))] w fun e w' => K6 (.agg (p4 X Y Z T)) w w' e := by
 obtain ⟨x1, y2, z3, t4, r5, c6⟩ := J69 (kn := kn) Y1e
 obtain ⟨x7, y8, z9, R, ε, η⟩ := J69 (kn := kn) h1
 obtain ⟨f, gg, U, β, α⟩ := V0r hd (P := (x7, y8, z9, R)) (s0 := (x1, y2, z3, t4)) (n := N) ε (by rw [Nat.div_eq_of_lt hN]; exact r5) 256 (Nat.le_refl _)
 have V := Lib.hid U
 clear U
 refine ⟨(f 0).1, (f 0).2.1, (f 0).2.2.1, (f 0).2.2.2, (by have := β 0 (Nat.zero_le _) (Nat.zero_le _); rw [Nat.pow_zero, Nat.div_one] at this; exact this), fun w hG => ?_⟩
 have hS := SH.nil [] w
 go_enter Tryz.func90, Tryz.ntmps90
 go_upto_region 0 with fail
 refine RL hS ?_
 clear hS
 refine MN (z := p4 X1 Y1 Z1 T1) (t := 157) ?_
 intro ζ
 refine MN (z := J0 .u8 32 (Q3 N)) (t := 23) ?_
 intro M
 refine MN (z := p4 0 0 0 0) (t := 157) ?_
 intro δ
 refine MZ fun W hS => ?_
 go_upto_region 1 with fail
 refine RL hS ?_
 clear hS
 refine MW ?_ (v := .agg (p4 0 0 0 0)) (hv := by intro W; kernel_rfl)
 refine MC (v := .agg (p4 x1 y2 z3 t4)) (fun W hS => c6 W (Q8 hG hS.ext)) ?_
 refine MN (z := p4 0 0 0 0) (t := 157) ?_
 intro γ
 refine MR 0 ?_ 
 refine MZ fun W hS => ?_
 go_upto_region 2 with fail
 refine RL hS ?_
 clear hS
 refine ML 3 ?_
 refine MC (v := .agg (p4 x7 y8 z9 R)) (fun W hS => η W (Q8 hG hS.ext)) ?_
 refine MR 3 ?_ 
 refine MZ fun W hS => ?_
 go_wp2_with fail
 go_loopw [6] (fun si wr => ∃ (j : Nat), (j ≤ 256) ∧ (si = .int .i64 ((j : Int) - 1)) ∧ SH [] w wr [.b γ (pc (f j)) 157, .b δ (p4 0 0 0 0) 157, .b M (J0 .u8 32 (Q3 N)) 23, .b ζ (p4 x7 y8 z9 R) 157])
  (fun si _ => (intOf si + 1).toNat)
 case atStart => exact ⟨256, Nat.le_refl _, rfl, (by rw [V.out]; exact hS)⟩
 clear hS
 case round =>
  obtain ⟨j, hj, rfl, hS⟩ := hrel
  by_cases hz : j = 0
  ·
   subst hz
   go_upto_region 4 with fail
   refine RL hS ?_
   clear hS
   refine MV ?_
   refine MW ?_ (v := .bool false)
   refine MZ fun W hS => ?_
   go_upto_region 9 with fail
   refine RL hS ?_
   clear hS
   refine ML 0 ?_
   refine MR 1 ?_ 
   refine MZ fun W hS => ?_
   go_wp2
   exact bodyPost_ret (Y3 rfl rfl (hS.blk (i := 1) rfl) (by kernel_rfl) (by kernel_rfl)) rfl ⟨rfl, hS.ext⟩
  obtain ⟨i, rfl⟩ : ∃ i, j = i + 1 := ⟨j - 1, by omega⟩
  have S := α i (by omega) (by omega)
  rw [show ((i + 1 : Nat) : Int) - 1 = (i : Int) by omega]
  go_upto_region 4 with fail
  refine RL hS ?_
  clear hS
  refine MV ?_
  refine MW ?_ (v := .bool true)
  refine MZ fun W hS => ?_
  go_upto_region 6 with fail
  refine RL hS ?_
  clear hS
  refine ML 0 ?_
  refine MC (v := .agg (pc (gg i))) (fun W hS => S.tw W (Q8 hG hS.ext)) ?_
  refine MR 0 ?_ 
  refine MZ fun W hS => ?_
  by_cases D : N / 2 ^ i % 2 = 1
  ·
   have J : bits .and .u8 (Q3 N (i / 8) / 2 ^ (i % 8)) 1 = 1 := by rw [Z1i _ _ _ (by omega), show 8 * (i / 8) + i % 8 = i by omega, D]; rfl
   clear _f
   have G := Lib.hid D
   clear D
   go_upto_region 7 with fail
   refine RL hS ?_
   clear hS
   refine MV ?_
   refine MW ?_ (v := .int .i64 ((i / 8 : Nat) : Int)) (hv := by intro W; exact Q71 (m := 8) (by decide) (by omega) rfl rfl rfl)
   refine MW ?_ (v := .pointer (some ⟨M, 0 + (i / 8), none⟩)) (hv := fun _ => J7 (m := 32) (by decide) (by omega) Tryz.underlying23 (by kernel_rfl) rfl rfl rfl)
   refine MG 2 ?_ (j := 0 + (i / 8)) (v := .int .u8 ((Q3 N) (i / 8))) (hj := by rw [Nat.zero_add]; exact J4 _ _ _ _ (by omega))
   refine MV ?_
   refine MW ?_ (v := .int .i64 ((i % 8 : Nat) : Int)) (hv := by intro W; exact Q26 (m := 8) (by decide) (by omega) rfl rfl rfl)
   refine MW ?_ (v := .int .u8 (Q3 N (i / 8) / 2 ^ (i % 8))) (hv := by intro W; exact Q27 (by omega) rfl rfl rfl)
   refine MW ?_ (v := .int .u8 1) (hv := by intro W; exact J30 J rfl rfl rfl)
   refine MW ?_ (v := .bool true)
   refine MZ fun W hS => ?_
   go_upto_region 8 with fail
   refine RL hS ?_
   clear hS
   refine ML 0 ?_
   refine ML 3 ?_
   refine MC (v := .agg (pc (f i))) (fun W hS => S.ad G.out W (Q8 hG hS.ext)) ?_
   refine MR 0 ?_ 
   refine MZ fun W hS => ?_
   go_wp2
   go_roundw
   case rel => exact ⟨i, by omega, by go_num, hS⟩
   case measure => first | (simp [intOf]; done) | (simp [intOf]; omega)
  have J : bits .and .u8 (Q3 N (i / 8) / 2 ^ (i % 8)) 1 = 0 := by rw [Z1i _ _ _ (by omega), show 8 * (i / 8) + i % 8 = i by omega, show N / 2 ^ i % 2 = 0 by omega]; rfl
  clear _f
  have G := Lib.hid D
  clear D
  go_upto_region 7 with fail
  refine RL hS ?_
  clear hS
  refine MV ?_
  refine MW ?_ (v := .int .i64 ((i / 8 : Nat) : Int)) (hv := by intro W; exact Q71 (m := 8) (by decide) (by omega) rfl rfl rfl)
  refine MW ?_ (v := .pointer (some ⟨M, 0 + (i / 8), none⟩)) (hv := fun _ => J7 (m := 32) (by decide) (by omega) Tryz.underlying23 (by kernel_rfl) rfl rfl rfl)
  refine MG 2 ?_ (j := 0 + (i / 8)) (v := .int .u8 ((Q3 N) (i / 8))) (hj := by rw [Nat.zero_add]; exact J4 _ _ _ _ (by omega))
  refine MV ?_
  refine MW ?_ (v := .int .i64 ((i % 8 : Nat) : Int)) (hv := by intro W; exact Q26 (m := 8) (by decide) (by omega) rfl rfl rfl)
  refine MW ?_ (v := .int .u8 (Q3 N (i / 8) / 2 ^ (i % 8))) (hv := by intro W; exact Q27 (by omega) rfl rfl rfl)
  refine MW ?_ (v := .int .u8 0) (hv := by intro W; exact J30 J rfl rfl rfl)
  refine MW ?_ (v := .bool false)
  refine MZ fun W hS => ?_
  go_wp2
  go_roundw
  case rel => exact ⟨i, by omega, by go_num, (by rw [S.no G.out]; exact hS)⟩
  case measure => first | (simp [intOf]; done) | (simp [intOf]; omega)
end
end Go.Proofs.YtejkmhgkkibafaaGreatDoor.S8
