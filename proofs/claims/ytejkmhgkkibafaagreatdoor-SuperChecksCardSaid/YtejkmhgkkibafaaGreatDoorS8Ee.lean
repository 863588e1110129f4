/- Contracts and plain laws that superChecks_holds rests on. Conditions: the variables' cells hold the numbers of the program's text. -/
import Derived.Test.YtejkmhgkkibafaaGreatDoorJ6
import Derived.Test.YtejkmhgkkibafaaGreatDoorJ3
import Derived.Test.YtejkmhgkkibafaaGreatDoorJ8
import Derived.Test.YtejkmhgkkibafaaGreatDoorJ9
import Derived.Test.YtejkmhgkkibafaaGreatDoorS8Ec
import Derived.Test.YtejkmhgkkibafaaGreatDoorS8Eb
import Derived.Test.YtejkmhgkkibafaaGreatDoorGc
open Go.RowKit
set_option maxRecDepth 100000
set_option linter.unusedSimpArgs false
set_option linter.unusedVariables false
namespace Go.Proofs.YtejkmhgkkibafaaGreatDoor.S8
section
set_option maxHeartbeats 4000000
attribute [local irreducible] wpList U0 wpX

theorem Q7h (n q r : Nat) (hr : r < 64) : (K3 n q / 2 ^ r) % 2 = ((n / 2 ^ (64 * q + r) % 2 : Nat) : Int) := by
 rw [← Q10 n q r hr]
 obtain ⟨l0, l1⟩ := J0j n q
 obtain ⟨X, hX⟩ := Int.eq_ofNat_of_zero_le l0
 rw [hX] at l1 ⊢
 have e : ((X : Int) / 2 ^ r) = ((X / 2 ^ r : Nat) : Int) := by push_cast; rfl
 have hl : X / 2 ^ r ≤ X := Nat.div_le_self _ _
 have e2 : bits .and .u64 (((X / 2 ^ r : Nat) : Int)) ((1 : Nat) : Int) = ((X / 2 ^ r % 2 : Nat) : Int) := by
  rw [bits_and_u64_nat _ _ (by omega) (by omega), Nat.and_one_is_mod]
 rw [e]
 exact (Eq.trans e2 (by omega)).symm
theorem Z6q (n q r : Nat) : 0 ≤ K3 n q / 2 ^ r ∧ (K3 n q / 2 ^ r).tmod 2 = (K3 n q / 2 ^ r) % 2 := by
 have h : 0 ≤ K3 n q / 2 ^ r := Int.ediv_nonneg (J0j n q).1 (Int.le_of_lt (Int.pow_pos (by decide)))
 exact ⟨h, Int.tmod_eq_emod_of_nonneg h⟩
def mp (A n : Nat) : Nat → Nat
 | 0 => 1
 | c + 1 => if n / 2 ^ (255 - c) % 2 = 1 then (mp A n c * mp A n c % PP) * A % PP else mp A n c * mp A n c % PP
theorem Y4s (A n : Nat) (hn : n < Q5) : ∀ c, c ≤ 256 → mp A n c = pw A (n / 2 ^ (256 - c))
 | 0, _ => by rw [show 256 - 0 = 256 by decide, Nat.div_eq_of_lt (show n < 2 ^ 256 from hn), Q5a]; rfl
 | c + 1, h => by
  have ih := Y4s A n hn c (by omega)
  rw [show 256 - c = (255 - c) + 1 by omega] at ih
  rw [show 256 - (c + 1) = 255 - c by omega]
  unfold mp
  rw [ih]
  split
  ·
   rename_i h1; exact Q2e A n _ h1
  ·
   rename_i h1; exact Q5b A n _ (by omega)
theorem Y4t (A n : Nat) (hn : n < Q5) : pw A n = mp A n 256 := by
 rw [Y4s A n hn 256 (by omega), show 256 - 256 = 0 by decide, Nat.pow_zero, Nat.div_one]
theorem V0b : II = pw 2 ((PP - 1) / 4) := by
 rw [Y4t _ _ (by decide)]
 decide +kernel

theorem Q94 (X n : Nat) (hX : X < Q5) (hn : n < Q5) (w : World) :
  Calls Tryz.prog 156 #[A16 X, L4 n] w fun e w' => K7 (A16 (pw X n)) w w' e := by
 have hS := SH.nil [] w
 go_enter Tryz.func156, Tryz.ntmps156
 go_upto_region 0 with fail
 refine RL hS ?_
 clear hS
 refine MN (z := J0 .i64 16 (Q6 X)) (t := 124) ?_
 intro X5
 refine MN (z := c4 n) (t := 152) ?_
 intro α
 refine MN (z := J0 .i64 16 (Q6 0)) (t := 124) ?_
 intro Y
 refine MZ fun W hS => ?_
 go_upto_region 1 with fail
 refine RL hS ?_
 clear hS
 refine MW ?_ (v := .agg (J0 .i64 16 (Q6 1))) (hv := by intro W; kernel_rfl)
 refine MN (z := J0 .i64 16 (Q6 0)) (t := 124) ?_
 intro β
 refine MR 0 ?_ 
 refine MZ fun W hS => ?_
 go_wp2_with fail
 go_loopw [6] (fun ii wr => ∃ (k : Nat) (R : Nat), (k ≤ 256) ∧ (RowKit.Hid (R = pw X (n / 2 ^ k))) ∧ (ii = .int .i64 ((k : Int) - 1)) ∧ SH [] w wr [.b β (J0 .i64 16 (Q6 R)) 124, .b Y (J0 .i64 16 (Q6 0)) 124, .b α (c4 n) 152, .b X5 (J0 .i64 16 (Q6 X)) 124])
  (fun ii _ => (intOf ii + 1).toNat)
 case atStart => exact ⟨256, 1, Nat.le_refl _, Lib.hid (by rw [Nat.div_eq_of_lt (show n < 2 ^ 256 from hn), Q5a]), rfl, hS⟩
 clear hS
 case round =>
  obtain ⟨k, R, hk, hR, rfl, hS⟩ := hrel
  have bR : R < Q5 := by rw [hR.out]; exact Q2d _ _
  by_cases S : k = 0
  ·
   subst S
   go_upto_region 3 with fail
   refine RL hS ?_
   clear hS
   refine MV ?_
   refine MW ?_ (v := .bool false) (hv := by intro W; go_simp; first | done | omega)
   refine MZ fun W hS => ?_
   go_upto_region 8 with fail
   refine RL hS ?_
   clear hS
   refine ML 0 ?_
   refine MR 1 ?_ 
   refine MZ fun W hS => ?_
   go_wp2
   exact bodyPost_ret (Z6 rfl rfl (hS.blk (i := 1) rfl) (by kernel_rfl) (by kernel_rfl)) rfl ⟨by rw [hR.out, Nat.pow_zero, Nat.div_one]; rfl, hS.ext⟩
  obtain ⟨q, r, hr, rfl⟩ : ∃ q r, r < 64 ∧ k = 64 * q + r + 1 := ⟨(k - 1) / 64, (k - 1) % 64, by omega, by omega⟩
  rw [show ((64 * q + r + 1 : Nat) : Int) - 1 = 64 * (q : Int) + (r : Int) by omega]
  have d1 : (64 * (q : Int) + (r : Int)) / 64 = (q : Int) := by omega
  have d2 : (64 * (q : Int) + (r : Int)) % 64 = (r : Int) := by omega
  have δ : (q : Int) < 4 := by omega
  have γ : (r : Int) < 64 := by omega
  have ζ : (0 : Int) ≤ 64 * (q : Int) + (r : Int) := by omega
  go_upto_region 3 with fail
  refine RL hS ?_
  clear hS
  refine MV ?_
  refine MW ?_ (v := .bool true) (hv := by intro W; go_simp; first | done | omega)
  refine MZ fun W hS => ?_
  go_upto_region 5 with fail
  refine RL hS ?_
  clear hS
  refine ML 0 ?_
  refine ML 0 ?_
  obtain ⟨U1, T⟩ := V3 (R * R % PP)
  have J := Lib.hid T
  clear T
  have V : U1 < Q5 := by rw [J.out]; exact K9 _
  refine MC (v := .agg (J0 .i64 16 (Q6 U1))) (fun W hS => (by rw [J.out]; exact J0h R R bR bR W)) ?_
  refine MR 0 ?_ 
  refine MZ fun W hS => ?_
  rcases Nat.mod_two_eq_zero_or_one (n / 2 ^ (64 * q + r)) with D | D
  ·
   have c3 := (J7 (hS.blk (i := 2) rfl) q).trans (J3h n q (by omega))
   have HB := Lib.hid D
   have G := Q7h n q r hr
   rw [D] at G
   obtain ⟨Z, M⟩ := Z6q n q r
   rw [G] at M
   go_wp2
   go_roundw
   case rel => exact ⟨(64 * q + r), U1, by omega, Lib.hid (by rw [J.out, hR.out]; exact Q5b X n _ HB.out), by go_num, hS⟩
   case measure => simp [intOf]; omega
  have c3 := (J7 (hS.blk (i := 2) rfl) q).trans (J3h n q (by omega))
  have HB := Lib.hid D
  have G := Q7h n q r hr
  rw [D] at G
  obtain ⟨Z, M⟩ := Z6q n q r
  rw [G] at M
  go_upto_region 7 with fail
  refine RL hS ?_
  clear hS
  refine ML 0 ?_
  refine ML 3 ?_
  obtain ⟨U2, U⟩ := V3 (U1 * X % PP)
  have N := Lib.hid U
  clear U
  have ε : U2 < Q5 := by rw [N.out]; exact K9 _
  refine MC (v := .agg (J0 .i64 16 (Q6 U2))) (fun W hS => (by rw [N.out]; exact J0h U1 X V hX W)) ?_
  refine MR 0 ?_ 
  refine MZ fun W hS => ?_
  go_wp2
  go_roundw
  case rel => exact ⟨(64 * q + r), U2, by omega, Lib.hid (by rw [N.out, J.out, hR.out]; exact Q2e X n _ HB.out), by go_num, hS⟩
  case measure => simp [intOf]; omega
theorem Y6v (X : Nat) (hX : X < Q5) (w : World) :
  Calls Tryz.prog 120 #[A16 X] w fun e w' => K7 (A16 (pw X (PP - 2))) w w' e := by
 have hS := SH.nil [] w
 go_enter Tryz.func120, Tryz.ntmps120
 go_upto_region 0 with fail
 refine RL hS ?_
 clear hS
 refine MN (z := J0 .i64 16 (Q6 X)) (t := 124) ?_
 intro N
 refine MN (z := J0 .i64 16 (Q6 0)) (t := 124) ?_
 intro M
 refine MZ fun W hS => ?_
 go_upto_region 2 with fail
 refine RL hS ?_
 clear hS
 refine ML 1 ?_
 refine MW ?_ (v := .int .u64 18446744073709551615)
 refine MW ?_ (v := .int .u64 18446744073709551595)
 refine MW ?_ (v := .int .u64 18446744073709551615)
 refine MW ?_ (v := .int .u64 18446744073709551615)
 refine MW ?_ (v := .int .u64 18446744073709551615)
 refine MW ?_ (v := .int .u64 (sr 18446744073709551615 1)) (hv := fun _ => J09 (n := 1) (by decide) rfl rfl rfl)
 refine MW ?_ (v := .agg (c4 (PP - 2))) (hv := by intro W; kernel_rfl)
 obtain ⟨U1, G⟩ := V3 (pw X (PP - 2))
 have D := Lib.hid G
 clear G
 have J : U1 < Q5 := by rw [D.out]; exact Q2d _ _
 refine MC (v := .agg (J0 .i64 16 (Q6 U1))) (fun W hS => (by rw [D.out]; exact Q94 X (PP - 2) hX (by decide) W)) ?_
 refine MR 0 ?_ 
 refine MZ fun W hS => ?_
 go_wp2
 exact bodyPost_ret (Z6 rfl rfl (hS.blk (i := 0) rfl) (by kernel_rfl) (by kernel_rfl)) rfl ⟨by rw [D.out]; rfl, hS.ext⟩
theorem V3h (w : World) :
  Calls Tryz.prog 157 #[] w fun e w' => K7 (A16 II) w w' e := by
 have hS := SH.nil [] w
 go_enter Tryz.func157, Tryz.ntmps157
 go_upto_region 0 with fail
 refine RL hS ?_
 clear hS
 refine MN (z := J0 .i64 16 (Q6 0)) (t := 124) ?_
 intro J
 refine MZ fun W hS => ?_
 go_upto_region 2 with fail
 refine RL hS ?_
 clear hS
 refine MW ?_ (v := .agg (J0 .i64 16 (Q6 2))) (hv := by intro W; kernel_rfl)
 refine MW ?_ (v := .int .u64 18446744073709551615)
 refine MW ?_ (v := .int .u64 18446744073709551611)
 refine MW ?_ (v := .int .u64 18446744073709551615)
 refine MW ?_ (v := .int .u64 18446744073709551615)
 refine MW ?_ (v := .int .u64 18446744073709551615)
 refine MW ?_ (v := .int .u64 (sr 18446744073709551615 3)) (hv := fun _ => J09 (n := 3) (by decide) rfl rfl rfl)
 refine MW ?_ (v := .agg (c4 ((PP - 1) / 4))) (hv := by intro W; kernel_rfl)
 obtain ⟨U1, G⟩ := V3 (pw 2 ((PP - 1) / 4))
 have D := Lib.hid G
 clear G
 have M : U1 < Q5 := by rw [D.out]; exact Q2d _ _
 refine MC (v := .agg (J0 .i64 16 (Q6 U1))) (fun W hS => (by rw [D.out]; exact Q94 2 ((PP - 1) / 4) (by decide) (by decide) W)) ?_
 refine MR 0 ?_ 
 refine MZ fun W hS => ?_
 go_wp2
 exact bodyPost_ret (Z6 rfl rfl (hS.blk (i := 0) rfl) (by kernel_rfl) (by kernel_rfl)) rfl ⟨by rw [V0b, D.out]; rfl, hS.ext⟩
end

section
set_option maxHeartbeats 4000000

theorem Z37 (X Y : Nat) (hX : X < Q5) (hY : Y < Q5) (w : World) : (Op.equalIn 10000 124 (.agg (J0 .i64 16 (Q6 X))) (.agg (J0 .i64 16 (Q6 Y)))).run Tryz.prog w = .ok (decide (X = Y)) w := by
 have h := J22 (P := Tryz.prog) w 9998 124 3 16 .i64 (J0 .i64 16 (Q6 X)) (J0 .i64 16 (Q6 Y)) (Q6 X) (Q6 Y) Tryz.underlying124 Tryz.underlying3 (by kernel_rfl)
  (fun i hi => J3 _ _ _ _ hi) (fun i hi => J3 _ _ _ _ hi)
 rw [h]
 congr 1
 rw [Bool.eq_iff_iff, J4n, decide_eq_true_iff]
 exact ⟨fun h => Z09 hX hY h, fun e i _ => by rw [e]⟩
theorem J6d {A : Nat} (h : A < PP) : A < Q5 := Nat.lt_trans h J5x

theorem Z19 (A B : Nat) (hA : A < PP) (hB : B < Q5) (w : World) :
  Calls Tryz.prog 113 #[A16 A, A16 B] w fun e w' => K7 (.tuple #[A16 (rtR A B), .bool (rtB A B)]) w w' e := by
 have hS := SH.nil [] w
 go_enter Tryz.func113, Tryz.ntmps113
 go_upto_region 0 with fail
 refine RL hS ?_
 clear hS
 refine MN (z := J0 .i64 16 (Q6 A)) (t := 124) ?_
 intro X5
 refine MN (z := J0 .i64 16 (Q6 B)) (t := 124) ?_
 intro D2
 refine MN (z := J0 .i64 16 (Q6 0)) (t := 124) ?_
 intro D1
 refine MW ?_ (v := .bool false)
 refine MZ fun W hS => ?_
 go_upto_region 2 with fail
 refine RXn 5 [⟨5, 7, J0 .i64 16 (Q6 0), 124⟩] hS ?_ (by simp only [List.forall_mem_cons]; exact ⟨⟨_, rfl, rfl, rfl, fun _ _ => by kernel_rfl⟩, fun _ h => by cases h⟩)
 clear hS
 refine ML 1 ?_
 refine ML 1 ?_
 obtain ⟨U1, σ⟩ := V3 (B * B % PP)
 have Z := Lib.hid σ
 clear σ
 have Θ : U1 < Q5 := by rw [Z.out]; exact K9 _
 refine MC (v := .agg (J0 .i64 16 (Q6 U1))) (fun W hS => (by rw [Z.out]; exact J0h B B hB hB W)) ?_
 refine ML 1 ?_
 obtain ⟨U2, ψ⟩ := V3 (U1 * B % PP)
 have X := Lib.hid ψ
 clear ψ
 have ε : U2 < Q5 := by rw [X.out]; exact K9 _
 refine MC (v := .agg (J0 .i64 16 (Q6 U2))) (fun W hS => (by rw [X.out]; exact J0h U1 B Θ hB W)) ?_
 refine MZB fun D4 => ?_
 refine MR 0 ?_ 
 refine MZn fun W hS => ?_
 go_upto_region 3 with fail
 refine RXn 5 [⟨5, 8, J0 .i64 16 (Q6 0), 124⟩] hS ?_ (by simp only [List.forall_mem_cons]; exact ⟨⟨_, rfl, rfl, rfl, fun _ _ => by kernel_rfl⟩, fun _ h => by cases h⟩)
 clear hS
 refine ML 0 ?_
 refine ML 0 ?_
 obtain ⟨U3, ρ⟩ := V3 (U2 * U2 % PP)
 have V := Lib.hid ρ
 clear ρ
 have Δ : U3 < Q5 := by rw [V.out]; exact K9 _
 refine MC (v := .agg (J0 .i64 16 (Q6 U3))) (fun W hS => (by rw [V.out]; exact J0h U2 U2 ε ε W)) ?_
 refine ML 2 ?_
 obtain ⟨U4, ν⟩ := V3 (U3 * B % PP)
 have Y := Lib.hid ν
 clear ν
 have Γ : U4 < Q5 := by rw [Y.out]; exact K9 _
 refine MC (v := .agg (J0 .i64 16 (Q6 U4))) (fun W hS => (by rw [Y.out]; exact J0h U3 B Δ hB W)) ?_
 refine MZB fun D3 => ?_
 refine MR 0 ?_ 
 refine MZn fun W hS => ?_
 go_upto_region 4 with fail
 refine RXn 15 [⟨15, 9, J0 .i64 16 (Q6 0), 124⟩] hS ?_ (by simp only [List.forall_mem_cons]; exact ⟨⟨_, rfl, rfl, rfl, fun _ _ => by kernel_rfl⟩, fun _ h => by cases h⟩)
 clear hS
 refine ML 4 ?_
 refine ML 1 ?_
 obtain ⟨U5, μ⟩ := V3 (A * U2 % PP)
 have U := Lib.hid μ
 clear μ
 have ω : U5 < Q5 := by rw [U.out]; exact K9 _
 refine MC (v := .agg (J0 .i64 16 (Q6 U5))) (fun W hS => (by rw [U.out]; exact J0h A U2 (J6d hA) ε W)) ?_
 refine ML 4 ?_
 refine ML 0 ?_
 obtain ⟨U6, ξ⟩ := V3 (A * U4 % PP)
 have T := Lib.hid ξ
 clear ξ
 have Ω : U6 < Q5 := by rw [T.out]; exact K9 _
 refine MC (v := .agg (J0 .i64 16 (Q6 U6))) (fun W hS => (by rw [T.out]; exact J0h A U4 (J6d hA) Γ W)) ?_
 refine MW ?_ (v := .int .u64 18446744073709551615)
 refine MW ?_ (v := .int .u64 18446744073709551613)
 refine MW ?_ (v := .int .u64 18446744073709551615)
 refine MW ?_ (v := .int .u64 18446744073709551615)
 refine MW ?_ (v := .int .u64 18446744073709551615)
 refine MW ?_ (v := .int .u64 (sr 18446744073709551615 4)) (hv := fun _ => J09 (n := 4) (by decide) rfl rfl rfl)
 refine MW ?_ (v := .agg (c4 7237005577332262213973186563042994240829374041602535252466099000494570602493)) (hv := by intro W; kernel_rfl)
 obtain ⟨U7, κ⟩ := V3 (pw U6 7237005577332262213973186563042994240829374041602535252466099000494570602493)
 have S := Lib.hid κ
 clear κ
 have Ξ : U7 < Q5 := by rw [S.out]; exact Q2d _ _
 refine MC (v := .agg (J0 .i64 16 (Q6 U7))) (fun W hS => (by rw [S.out]; exact Q94 U6 7237005577332262213973186563042994240829374041602535252466099000494570602493 Ω (by decide) W)) ?_
 obtain ⟨U8, χ⟩ := V3 (U5 * U7 % PP)
 have R := Lib.hid χ
 clear χ
 have ζ : U8 < Q5 := by rw [R.out]; exact K9 _
 refine MC (v := .agg (J0 .i64 16 (Q6 U8))) (fun W hS => (by rw [R.out]; exact J0h U5 U7 ω Ξ W)) ?_
 refine MZB fun D6 => ?_
 refine MR 0 ?_ 
 refine MZn fun W hS => ?_
 go_upto_region 5 with fail
 refine RXn 5 [⟨5, 10, J0 .i64 16 (Q6 0), 124⟩] hS ?_ (by simp only [List.forall_mem_cons]; exact ⟨⟨_, rfl, rfl, rfl, fun _ _ => by kernel_rfl⟩, fun _ h => by cases h⟩)
 clear hS
 refine ML 4 ?_
 refine ML 0 ?_
 refine ML 0 ?_
 obtain ⟨U9, φ⟩ := V3 (U8 * U8 % PP)
 have η := Lib.hid φ
 clear φ
 have Ψ : U9 < Q5 := by rw [η.out]; exact K9 _
 refine MC (v := .agg (J0 .i64 16 (Q6 U9))) (fun W hS => (by rw [η.out]; exact J0h U8 U8 ζ ζ W)) ?_
 obtain ⟨M, θ⟩ := V3 (B * U9 % PP)
 have α := Lib.hid θ
 clear θ
 have N : M < Q5 := by rw [α.out]; exact K9 _
 refine MC (v := .agg (J0 .i64 16 (Q6 M))) (fun W hS => (by rw [α.out]; exact J0h B U9 hB Ψ W)) ?_
 refine MZB fun D5 => ?_
 refine MR 0 ?_ 
 refine MZn fun W hS => ?_
 have HW := Lib.hid (show M = rtW A B by rw [α.out, η.out, R.out, S.out, T.out, U.out, Y.out, V.out, X.out, Z.out]; rfl)
 by_cases h1 : rtW A B = A
 ·
  go_upto_region 6 with fail
  refine RL hS ?_
  clear hS
  refine ML 0 ?_
  refine ML 6 ?_
  refine MW ?_ (v := .bool true) (hv := fun _ => J0t ((fun w => (Z37 M A N (J6d hA) w).trans (by rw [HW.out, decide_eq_true h1])) _) (by kernel_rfl) rfl rfl rfl)
  refine MZ fun W hS => ?_
  go_upto_region 7 with fail
  refine RL hS ?_
  clear hS
  refine ML 1 ?_
  refine MR 4 ?_ 
  refine MW ?_ (v := .bool true)
  refine MZ fun W hS => ?_
  go_wp2
  exact bodyPost_ret (J01 rfl rfl rfl (hS.blk (i := 4) rfl) (by kernel_rfl) (by kernel_rfl)) rfl ⟨by rw [(Y0o (h1.trans (Nat.mod_eq_of_lt hA).symm)).1, (Y0o (h1.trans (Nat.mod_eq_of_lt hA).symm)).2, show rtX A B = U8 from by rw [R.out, S.out, T.out, U.out, Y.out, V.out, X.out, Z.out]; rfl]; rfl, hS.ext⟩
 go_upto_region 6 with fail
 refine RL hS ?_
 clear hS
 refine ML 0 ?_
 refine ML 6 ?_
 refine MW ?_ (v := .bool false) (hv := fun _ => J0t ((fun w => (Z37 M A N (J6d hA) w).trans (by rw [HW.out, decide_eq_false h1])) _) (by kernel_rfl) rfl rfl rfl)
 refine MZ fun W hS => ?_
 by_cases h2 : rtW A B = (PP - A) % PP
 ·
  go_upto_region 8 with fail
  refine RS hS ?_
  clear hS
  refine ML 0 ?_
  refine ML 6 ?_
  obtain ⟨J, G⟩ := V3 ((PP - A) % PP)
  have D := Lib.hid G
  clear G
  have γ : J < Q5 := by rw [D.out]; exact K9 _
  refine MC (v := .agg (J0 .i64 16 (Q6 J))) (fun W hS => (by rw [D.out]; exact Q2i A (Nat.le_of_lt hA) W)) ?_
  refine MW ?_ (v := .bool true) (hv := fun _ => J0t ((fun w => (Z37 M J N γ w).trans (by rw [HW.out, D.out, decide_eq_true h2])) _) (by kernel_rfl) rfl rfl rfl)
  refine MZx fun W hS => ?_
  go_upto_region 9 with fail
  refine RTp [0, 1, 2, 3, 5, 6] (.q 0 (.e 1 (.e 2 (.e 3 (.q 4 .z))))) hS ?_
  clear hS
  refine TL 1 ?_
  refine TE (fun _ h => h.pick [0, 1, 2, 3, 5, 6]) ?_
  refine MC (v := .agg (J0 .i64 16 (Q6 II))) (fun W hS => V3h W) ?_
  refine TNp [0, 1, 2, 3, 5, 6] [0, 1, 2, 3, 4, 5] ?_
  refine TE (fun _ h => h.pick [0, 1, 2, 3, 5, 6]) ?_
  obtain ⟨τ, δ⟩ := V3 (U8 * II % PP)
  have β := Lib.hid δ
  clear δ
  have D0 : τ < Q5 := by rw [β.out]; exact K9 _
  refine MC (v := .agg (J0 .i64 16 (Q6 τ))) (fun W hS => (by rw [β.out]; exact J0h U8 II ζ Y4n W)) ?_
  refine TNp [0, 1, 2, 3, 5, 6] [0, 1, 2, 3, 4, 5] ?_
  refine TE (fun _ h => h.pick [0, 1, 2, 3, 5, 6]) ?_
  refine MR 4 ?_ 
  refine TNp [0, 1, 2, 3, 5, 6] [0, 1, 2, 3, 4, 5] ?_
  refine TW ?_ (v := .bool true)
  refine TZ (fun _ h => h.pick [0, 1, 2, 3, 5, 6]) fun W hS => ?_
  go_wp2
  exact bodyPost_ret (J01 rfl rfl rfl (hS.blk (i := 4) rfl) (by kernel_rfl) (by kernel_rfl)) rfl ⟨by rw [(Y0p (fun h_ => h1 (h_.trans (Nat.mod_eq_of_lt hA))) (by rw [Nat.mod_eq_of_lt hA]; exact h2)).1, (Y0p (fun h_ => h1 (h_.trans (Nat.mod_eq_of_lt hA))) (by rw [Nat.mod_eq_of_lt hA]; exact h2)).2, show rtX A B = U8 from by rw [R.out, S.out, T.out, U.out, Y.out, V.out, X.out, Z.out]; rfl, ← β.out]; rfl, hS.ext⟩
 go_upto_region 8 with fail
 refine RS hS ?_
 clear hS
 refine ML 0 ?_
 refine ML 6 ?_
 obtain ⟨J, G⟩ := V3 ((PP - A) % PP)
 have D := Lib.hid G
 clear G
 have γ : J < Q5 := by rw [D.out]; exact K9 _
 refine MC (v := .agg (J0 .i64 16 (Q6 J))) (fun W hS => (by rw [D.out]; exact Q2i A (Nat.le_of_lt hA) W)) ?_
 refine MW ?_ (v := .bool false) (hv := fun _ => J0t ((fun w => (Z37 M J N γ w).trans (by rw [HW.out, D.out, decide_eq_false h2])) _) (by kernel_rfl) rfl rfl rfl)
 refine MZx fun W hS => ?_
 go_upto_region 10 with fail
 refine RL hS ?_
 clear hS
 refine MW ?_ (v := .agg (J0 .i64 16 (Q6 0))) (hv := by intro W; kernel_rfl)
 refine MR 4 ?_ 
 refine MW ?_ (v := .bool false)
 refine MZ fun W hS => ?_
 go_wp2
 exact bodyPost_ret (J01 rfl rfl rfl (hS.blk (i := 4) rfl) (by kernel_rfl) (by kernel_rfl)) rfl ⟨by rw [(Y0q (fun h_ => h1 (h_.trans (Nat.mod_eq_of_lt hA))) (by rw [Nat.mod_eq_of_lt hA]; exact h2)).1, (Y0q (fun h_ => h1 (h_.trans (Nat.mod_eq_of_lt hA))) (by rw [Nat.mod_eq_of_lt hA]; exact h2)).2]; rfl, hS.ext⟩
end

section
set_option maxHeartbeats 4000000

theorem Q5l (X k : Nat) : IntKind.u8.wrap (Q6 X k) = Q3 X (2 * k) ∧ IntKind.u8.wrap (Q6 X k / 256) = Q3 X (2 * k + 1) := by
 unfold Q6 Q3
 rw [IntKind.wrap_u8, IntKind.wrap_u8, show 8 * (2 * k) = 16 * k by omega, show 8 * (2 * k + 1) = 16 * k + 8 by omega, Nat.pow_add, ← Nat.div_div_eq_div_mul]
 generalize X / 2 ^ (16 * k) = x
 constructor <;> omega

theorem rbytes_c (X : Nat) (w : World) : Calls Tryz.prog 111 #[A16 X] w fun e w' => K7 (Q3a 32 (Q3 X)) w w' e := by
 obtain ⟨i0, hi, T, S, V⟩ := info_parts Q6r
 unfold A16
 go_enter Tryz.func111, Tryz.ntmps111
 go_wp2
 go_loopw [3, 4] (fun v ii wr => ∃ k : Nat, k ≤ 16 ∧ ii = .int .i64 k ∧ Below w.heap.size w wr ∧ wr.ownsRow (w.heap.size + 1) 5 1 v (2 * k) (J50 .u8 (2 * k) (Q3 X)) ∧
   Blk wr w.heap.size (J0 .i64 16 (Q6 X)) 124)
  (fun _ ii _ => (16 - intOf ii).toNat)
 case atStart =>
  refine ⟨0, by omega, rfl, ?_, ?_, Y5 (Y9 _ _ rfl) _⟩
  ·
   exact bz
  exact ⟨rfl, .inr ⟨w.heap.size + 1, 0, #[], rfl, Nat.le_refl _, Y9 _ _ (by simp), Nat.le_refl _, by decide, rfl, rfl⟩⟩
 case round =>
  obtain ⟨k, hk, rfl, J, D, b1⟩ := hrel
  by_cases U : k = 16
  ·
   subst U
   have hc := J73 Tryz.underlying22 Tryz.underlying5 D 9 Tryz.underlying9
   go_wp2
   go_ret
   exact ⟨rfl, J⟩
  have hk' : (k : Int) < 16 := by omega
  have c1 := (J7 b1 k).trans (J3 _ _ _ _ (by omega))
  have r1 := X6 X k
  obtain ⟨β, γ⟩ := Q5l X k
  have R.size := J.size
  have HB := Lib.hid J.size
  have ag : u3.ownBlock ≠ some w.heap.size := fun h => by have := (D.lt _ h).1; omega
  have M : ∀ k, u3.ownBlock = some k → w.heap.size + 1 ≤ k := fun k hk => (D.lt k hk).1
  have HO := Lib.hid M
  clear M
  go_wp2_with fail
  go_region_held3 (fun W => W.cell? ⟨w.heap.size, k, none⟩ = some (.int .i64 (Q6 X k)))
   (first
    | go_keep
    | (rw [G.cell_far _ (by simp; omega) (Ne.symm ag)]; first | assumption | (simp [*]; done)))
   ((refine step_append_lies _ (by rfl) (.tmp 10) (.tmp 20) 22 (by rfl) (w.heap.size + 1) 5 i0 (.int .u8 0) 1 1 Tryz.underlying22 hi T S V rfl (by omega) u3 (2 * k) (J50 .u8 (2 * k) (Q3 X)) (by rfl) (by first | exact (D.alloc _).drew | exact (D.drew).alloc _)
       ⟨wr.heap.size, 0, none⟩ 2 2 [.int .u8 (Q3 X (2 * k)), .int .u8 (Q3 X (2 * k + 1))] (by rfl) (by rfl) (World.news_of_block (cs := #[.int .u8 (Q3 X (2 * k)), .int .u8 (Q3 X (2 * k + 1))]) (t := 5) (fr := (0, 0)) (heap_alloc_new wr _)) (by simp [Value.oneCell'])
       (by omega) (by unfold maxLen; omega) (by omega) (by simp; omega) (wr.heap.size + 1) (by simp) ?_; intro gg α w1 N G Y Z))
  have M := HO.out
  rw [List.append_cons, ← J7t, ← J7t] at N
  have hbel' := Q3t ((J.alloc R.size (.cells #[.int .u8 (Q3 X (2 * k)), .int .u8 (Q3 X (2 * k + 1))] 5)).drew) G (by simp; omega) (fun k hk => by have := M k hk; omega)
  have b1' := Q3u (Y6 (Y5 b1 _)) G (fun k hk => by have := M k hk; omega)
  go_wp2
  go_roundw
  case rel =>
   exact ⟨k + 1, by omega, by go_num, hbel', N, b1'⟩
  case measure => simp [intOf]; omega
end

section
set_option maxHeartbeats 4000000

theorem Q0o (a b : Nat) (ha : a < 9223372036854775808) (hb : b < 9223372036854775808) :
  bits .or .i64 (a : Int) (b : Int) = ((a ||| b : Nat) : Int) := by
 have hx : a ||| b < 2 ^ 63 := Nat.or_lt_two_pow (by omega) (by omega)
 have h1 : (BitVec.ofInt 64 (a : Int)).toNat = a := by
  rw [BitVec.ofInt_natCast, BitVec.toNat_ofNat]; exact Nat.mod_eq_of_lt (by omega)
 have h2 : (BitVec.ofInt 64 (b : Int)).toNat = b := by
  rw [BitVec.ofInt_natCast, BitVec.toNat_ofNat]; exact Nat.mod_eq_of_lt (by omega)
 show IntKind.i64.wrap ((BitVec.ofInt 64 (a : Int) ||| BitVec.ofInt 64 (b : Int)).toNat : Int) = _
 rw [BitVec.toNat_or, h1, h2, IntKind.wrap_i64]
 omega
theorem Y14 (V k : Nat) : bits .or .i64 (Q3 V (2 * k)) (Q3 V (2 * k + 1) * 2 ^ 8) = Q6 V k := by
 unfold Q3 Q6
 rw [show 8 * (2 * k) = 16 * k by omega, show 8 * (2 * k + 1) = 16 * k + 8 by omega, Nat.pow_add, ← Nat.div_div_eq_div_mul]
 generalize V / 2 ^ (16 * k) = x
 have h1 : x % 256 < 2 ^ 8 := Nat.mod_lt _ (by decide)
 have e : ((x / 2 ^ 8 % 256 : Nat) : Int) * 2 ^ 8 = ((x / 2 ^ 8 % 256 * 256 : Nat) : Int) := by rw [Int.natCast_mul]; rfl
 rw [e]
 have e3 : x % 256 ||| x / 2 ^ 8 % 256 * 256 = x % 65536 := by
  rw [Nat.or_comm, show (256 : Nat) = 2 ^ 8 by decide, Nat.mul_comm, ← Nat.two_pow_add_eq_or_of_lt h1]; omega
 rw [Q0o _ _ (by omega) (by omega), e3]
theorem Y15 (V : Nat) : bits .and .i64 (Q6 V 15) 32767 = Q6 (V % 2 ^ 255) 15 := by
 have h := X6 V 15
 have e := bits_mask .i64 63 (by decide) (fun n a b => by rw [IntKind.wrap_i64]; omega) 15 (by omega) (Q6 V 15) h.1 (by omega)
 have e1 : (2 : Int) ^ 15 - 1 = 32767 := by decide
 have e2 : (2 : Int) ^ 15 = 32768 := by decide
 rw [e1, e2] at e
 rw [e]
 unfold Q6
 simp only [Nat.reduceMul, Nat.reducePow]
 omega
theorem Y16 (V : Nat) : (J0 .i64 16 (Q6 V)).setIfInBounds 15 (.int .i64 (bits .and .i64 (Q6 V 15) 32767)) = J0 .i64 16 (Q6 (V % 2 ^ 255)) := by
 rw [Y15, V4]
 apply K5
 intro j hj
 by_cases h3 : j = 15
 ·
  subst h3; rw [J1t]
 rw [J0b _ _ _ _ h3]
 have : j = 0 ∨ j = 1 ∨ j = 2 ∨ j = 3 ∨ j = 4 ∨ j = 5 ∨ j = 6 ∨ j = 7 ∨ j = 8 ∨ j = 9 ∨ j = 10 ∨ j = 11 ∨ j = 12 ∨ j = 13 ∨ j = 14 := by omega
 unfold Q6
 rcases this with rfl | rfl | rfl | rfl | rfl | rfl | rfl | rfl | rfl | rfl | rfl | rfl | rfl | rfl | rfl <;> simp only [Nat.reduceMul, Nat.reducePow] <;> omega

theorem Y0x (V : Nat) (w : World) :
  Calls Tryz.prog 110 #[Q3a 32 (Q3 V)] w fun e w' => K7 (A16 (V % 2 ^ 255 % PP)) w w' e := by
 have hI : ∀ j : Nat, j < 32 → ∀ W, (Instr.index 9 (Q3a 32 (Q3 V)) (.int .i64 (j : Int))).run Tryz.prog W = .ok (.int .u8 (Q3 V j)) W := fun j hj W => Q1y 9 Tryz.underlying9 32 (Q3 V) (fun i _ => J2y V i) j hj W
 have HI := Lib.hid hI
 clear hI
 obtain ⟨S, hS⟩ := V3 (Q3a 32 (Q3 V))
 rw [← hS] at HI ⊢
 clear hS
 go_enter Tryz.func110, Tryz.ntmps110
 go_wp2_with fail
 refine wn2 (c1 := (J0 .i64 16 (fun _ => 0))) (t1 := 124) (c2 := (J0 .i64 16 (fun _ => 0))) (t2 := 124) fun W0 J G D => ?_
 have T := Q2 G
 have X := Q2 D
 go_wp2_with fail
 go_loopw [4] (fun ii wr => ∃ (k : Nat), k ≤ 16 ∧ ii = .int .i64 k ∧ Below w.heap.size w wr ∧ Blk wr w.heap.size (J0 .i64 16 (fun _ => 0)) 124 ∧ Blk wr (w.heap.size + 1) (J0 .i64 16 (J4h k (Q6 V) (fun _ => 0))) 124)
  (fun ii _ => (16 - intOf ii).toNat)
 case atStart =>
  refine ⟨0, by omega, rfl, J, G, ?_⟩
  rw [J2i]; exact D
 case round =>
  obtain ⟨k, hk, rfl, J, G, D⟩ := hrel
  by_cases M : k = 16
  ·
   have α := M
   subst M
   rw [J3c] at D
   have c3 := (J7 D 15).trans (J3 _ _ _ _ (by omega))
   have f3 := V2 D
   have bT : V % 2 ^ 255 < Q5 := Nat.lt_trans (Nat.mod_lt _ (by decide)) (by decide)
   go_upto_region 7 with fail
   have hs := Z8 D 15 (.int .i64 (bits .and .i64 (Q6 V 15) 32767))
   rw [Y16] at hs
   have hF := And.intro (Z4 J (show w.heap.size ≤ (w.heap.size + 1) by omega) 15 (.int .i64 (bits .and .i64 (Q6 V 15) 32767))) (And.intro (J6 G (show w.heap.size ≠ (w.heap.size + 1) by omega) 15 (.int .i64 (bits .and .i64 (Q6 V 15) 32767))) hs)
   generalize wr.setCell ⟨w.heap.size + 1, 15, none⟩ (.int .i64 (bits .and .i64 (Q6 V 15) 32767)) = Wm at hF ⊢
   clear J G D c3 f3 hs
   obtain ⟨J, G, D⟩ := hF
   have Y := Q2 G
   have U := Q2 D
   have N := Q12 (Q6 (V % 2 ^ 255)) (Z10 _)
   rw [Q78 _ bT] at N
   obtain ⟨R, hR⟩ := V3 (V % 2 ^ 255 % PP)
   rw [← hR] at N
   have HR := Lib.hid hR
   clear hR
   refine Px 2 ?_
   refine XL ?_
   refine Xf ?_ (fun W hW => N W)
   refine V7 fun W2 hE => ?_
   refine LS ?_ (J2 G hE) (g := w.heap.size) (cells := J0 .i64 16 (Q6 R)) (h1 := (Z9 _ _ _))
   refine J9 ?_
   have hF : Below w.heap.size w (W2.setRow w.heap.size (J0 .i64 16 (Q6 R))) ∧ Blk (W2.setRow w.heap.size (J0 .i64 16 (Q6 R))) w.heap.size (J0 .i64 16 (Q6 R)) 124 ∧ Blk (W2.setRow w.heap.size (J0 .i64 16 (Q6 R))) (w.heap.size + 1) (J0 .i64 16 (Q6 (V % 2 ^ 255))) 124 := ⟨(Z7 (Y4 J hE J.size) (by omega) _), (Y8 (J2 G hE) (J0 .i64 16 (Q6 R))), (Q0 (J2 D hE) (by omega) _)⟩
   generalize (W2.setRow w.heap.size (J0 .i64 16 (Q6 R))) = W3 at hF ⊢
   clear J G D
   obtain ⟨J, G, D⟩ := hF
   go_wp2
   refine bodyPost_ret (Z6 rfl rfl G (by kernel_rfl) (by kernel_rfl)) rfl ⟨?_, J⟩
   (rw [← HR.out] <;> rfl)
  have Z : k < 16 := by omega
  have hk3' : (k : Int) < 16 := by omega
  clear M
  have c3 := (J7 D k).trans (J3 _ _ _ _ Z)
  rw [J4i] at c3
  have f3 := V2 D
  have i0 := fun W => HI.out (2 * k) (by omega) W
  have i1 := fun W => HI.out (2 * k + 1) (by omega) W
  obtain ⟨b0, b1⟩ := J2y V (2 * k)
  obtain ⟨b2, b3⟩ := J2y V (2 * k + 1)
  have ho : bits .or .i64 (Q3 V (2 * k)) (Q3 V (2 * k + 1) * 256) = Q6 V k := Y14 V k
  have w0 : IntKind.i64.wrap (2 * (k : Int)) = 2 * (k : Int) := IntWalk.i64_in _ (by omega)
  have w1 : IntKind.i64.wrap (2 * (k : Int) + 1) = 2 * (k : Int) + 1 := IntWalk.i64_in _ (by omega)
  have e0 : ((2 * k : Nat) : Int) = 2 * (k : Int) := by omega
  have e1 : ((2 * k + 1 : Nat) : Int) = 2 * (k : Int) + 1 := by omega
  rw [e0] at i0
  rw [e1] at i1
  have w2 : IntKind.i64.wrap (Q3 V (2 * k)) = Q3 V (2 * k) := IntWalk.i64_in _ (by omega)
  have w3 : IntKind.i64.wrap (Q3 V (2 * k + 1)) = Q3 V (2 * k + 1) := IntWalk.i64_in _ (by omega)
  have w4 : IntKind.i64.wrap (Q3 V (2 * k + 1) * 2 ^ 8) = Q3 V (2 * k + 1) * 2 ^ 8 := IntWalk.i64_in _ (by omega)
  have w5 : IntKind.i64.wrap (Q3 V (2 * k + 1) * 256) = Q3 V (2 * k + 1) * 2 ^ 8 := IntWalk.i64_in _ (by omega)
  go_wp2
  go_region
  go_wp2
  have hs := Z8 D k (.int .i64 (Q6 V k))
  rw [J2p] at hs
  go_roundw
  case rel =>
   refine ⟨k + 1, by omega, ?_, ?_, ?_, Y6 hs⟩
   ·
    (first | rfl | go_num)
   ·
    exact (Z4 J (by omega) _ _).drew
   exact Y6 (J6 G (by omega) _ _)
  case measure => simp [intOf]; omega
end
end Go.Proofs.YtejkmhgkkibafaaGreatDoor.S8
