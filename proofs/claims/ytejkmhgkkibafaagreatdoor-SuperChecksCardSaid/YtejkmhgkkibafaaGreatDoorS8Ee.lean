/- Contracts and plain laws that superChecks_holds rests on. Conditions: the variables' cells hold the numbers of the program's text. -/
import Derived.Test.YtejkmhgkkibafaaGreatDoorJ6
import Derived.Test.YtejkmhgkkibafaaGreatDoorJ3
import Derived.Test.YtejkmhgkkibafaaGreatDoorJ8
import Derived.Test.YtejkmhgkkibafaaGreatDoorS8Ec
import Derived.Test.YtejkmhgkkibafaaGreatDoorS8Eb
import Derived.Test.YtejkmhgkkibafaaGreatDoorGc
open Go.RowKit
set_option maxRecDepth 100000
set_option linter.unusedSimpArgs false
set_option linter.unusedVariables false
namespace Go.Proofs.YtejkmhgkkibafaaGreatDoor.S8
section
set_option maxHeartbeats 4000000

theorem Q7r (n q r : Nat) (hr : r < 64) : (K3 n q / 2 ^ r) % 2 = ((n / 2 ^ (64 * q + r) % 2 : Nat) : Int) := by
  rw [← Q1b n q r hr]
  obtain ⟨l0, l1⟩ := J0q n q
  obtain ⟨X, hX⟩ := Int.eq_ofNat_of_zero_le l0
  rw [hX] at l1 ⊢
  have e : ((X : Int) / 2 ^ r) = ((X / 2 ^ r : Nat) : Int) := by push_cast; rfl
  have hl : X / 2 ^ r ≤ X := Nat.div_le_self _ _
  have e2 : bits .and .u64 (((X / 2 ^ r : Nat) : Int)) ((1 : Nat) : Int) = ((X / 2 ^ r % 2 : Nat) : Int) := by
    rw [bits_and_u64_nat _ _ (by omega) (by omega), Nat.and_one_is_mod]
  rw [e]
  exact (Eq.trans e2 (by omega)).symm
theorem Z76 (n q r : Nat) : 0 ≤ K3 n q / 2 ^ r ∧ (K3 n q / 2 ^ r).tmod 2 = (K3 n q / 2 ^ r) % 2 := by
  have h : 0 ≤ K3 n q / 2 ^ r := Int.ediv_nonneg (J0q n q).1 (Int.le_of_lt (Int.pow_pos (by decide)))
  exact ⟨h, Int.tmod_eq_emod_of_nonneg h⟩
def mp (A n : Nat) : Nat → Nat
  | 0 => 1
  | c + 1 => if n / 2 ^ (255 - c) % 2 = 1 then (mp A n c * mp A n c % PP) * A % PP else mp A n c * mp A n c % PP
theorem Y5c (A n : Nat) (hn : n < Q7) : ∀ c, c ≤ 256 → mp A n c = pw A (n / 2 ^ (256 - c))
  | 0, _ => by rw [show 256 - 0 = 256 by decide, Nat.div_eq_of_lt (show n < 2 ^ 256 from hn), Q5l]; rfl
  | c + 1, h => by
    have ih := Y5c A n hn c (by omega)
    rw [show 256 - c = (255 - c) + 1 by omega] at ih
    rw [show 256 - (c + 1) = 255 - c by omega]
    unfold mp
    rw [ih]
    split
    · rename_i h1; exact Q2n A n _ h1
    · rename_i h1; exact Q5m A n _ (by omega)
theorem Y5d (A n : Nat) (hn : n < Q7) : pw A n = mp A n 256 := by
  rw [Y5c A n hn 256 (by omega), show 256 - 256 = 0 by decide, Nat.pow_zero, Nat.div_one]
theorem V0w : II = pw 2 ((PP - 1) / 4) := by
  rw [Y5d _ _ (by decide)]
  decide +kernel

theorem Q2x (X n : Nat) (hX : X < Q7) (hn : n < Q7) (w : World) :
  Calls Tryz.prog 156 #[A16 X, L4 n] w fun e w' => K6 (A16 (pw X n)) w w' e := by
 unfold A16
 go_enter Tryz.func156, Tryz.ntmps156
 go_upto_region 1 with fail
 refine wn3 (c1 := (J0 .i64 16 (Q5 X))) (t1 := 124) (c2 := (c4 n)) (t2 := 152) (c3 := (J0 .i64 16 (fun _ => 0))) (t3 := 124) fun W0 N J D G => ?_
 have ν := J6 J
 have τ := J6 D
 have φ := J6 G
 refine Px1 1 5 (z := J0 .i64 16 (fun _ => 0)) (t := 124) ?_
 refine Xv ?_
 refine XN ?_
 intro ω W1 Γ hE M
 have Δ := N.size
 refine Lp ?_ M (cells := J0 .i64 16 (Q5 1)) (h1 := (Z0 _ _ _))
 intro W2 hO h_
 refine J9 ?_
 replace J := ko J hE hO (by omega)
 replace D := ko D hE hO (by omega)
 replace G := ko G hE hO (by omega)
 replace M := h_
 replace N := bwo N hE hO N.size (by omega)
 clear hO h_
 have ξ := J6 M
 go_wp2_with fail
 go_loopw [6] (fun ii wr => ∃ (k R : Nat), k ≤ 256 ∧ ii = .int .i64 ((k : Int) - 1) ∧ R = pw X (n / 2 ^ k) ∧ Below w.heap.size w wr ∧ Blk wr w.heap.size (J0 .i64 16 (Q5 X)) 124 ∧ Blk wr (w.heap.size + 1) (c4 n) 152 ∧ Blk wr (w.heap.size + 2) (J0 .i64 16 (fun _ => 0)) 124 ∧ Blk wr ω (J0 .i64 16 (Q5 R)) 124)
  (fun ii _ => (intOf ii + 1).toNat)
 case atStart =>
  refine ⟨256, 1, by omega, rfl, ?_, N, J, D, G, M⟩
  rw [Nat.div_eq_of_lt (show n < 2 ^ 256 from hn), Q5l]
 case round =>
  obtain ⟨k, R, hk, rfl, hR, N, J, D, G, M⟩ := hrel
  have bR : R < Q7 := by rw [hR]; exact J7h _ _
  have HR := Lib.hid hR
  clear hR
  by_cases β : k = 0
  ·
   have D0 := β
   subst β
   go_upto_region 8 with fail
   have α := J6 J
   have Y := J6 D
   have Z := J6 G
   have V := J6 M
   refine Px 1 ?_
   refine XL ?_
   refine Z7 fun W4 hE => ?_
   refine Lp ?_ (J1 G hE) (cells := J0 .i64 16 (Q5 R)) (h1 := (Z0 _ _ _))
   intro W5 hO h_
   refine J9 ?_
   replace J := ko J hE hO (by omega)
   replace D := ko D hE hO (by omega)
   replace G := h_
   replace M := ko M hE hO (by omega)
   replace N := bwo N hE hO N.size (by omega)
   clear hO h_
   go_wp2
   refine bodyPost_ret (Y3 rfl rfl G (by kernel_rfl) (by kernel_rfl)) rfl ⟨?_, N⟩
   rw [HR.out, Nat.pow_zero, Nat.div_one] <;> rfl
  obtain ⟨q, r, hr, rfl⟩ : ∃ q r, r < 64 ∧ k = 64 * q + r + 1 := ⟨(k - 1) / 64, (k - 1) % 64, by omega, by omega⟩
  have e1 : ((64 * q + r + 1 : Nat) : Int) - 1 = 64 * (q : Int) + (r : Int) := by omega
  rw [e1]
  clear β e1
  have d1 : (64 * (q : Int) + (r : Int)) / 64 = (q : Int) := by omega
  have d2 : (64 * (q : Int) + (r : Int)) % 64 = (r : Int) := by omega
  have Ψ : (q : Int) < 4 := by omega
  have Ξ : (r : Int) < 64 := by omega
  have Θ : (0 : Int) ≤ 64 * (q : Int) + (r : Int) := by omega
  rcases Nat.mod_two_eq_zero_or_one (n / 2 ^ (64 * q + r)) with S | S
  ·
   have HB := Lib.hid S
   go_upto_region 5 with fail
   have α := J6 J
   have Y := J6 D
   have Z := J6 G
   have V := J6 M
   have U := K5 R R bR bR
   obtain ⟨X1, T⟩ := V0 (R * R % PP)
   rw [← T] at U
   have θ := J0a T
   have ε := Lib.hid T
   clear T
   refine Px 3 ?_
   refine XL ?_
   refine XL ?_
   refine Xf ?_ (fun W hW => U W)
   refine Z7 fun W4 hE => ?_
   refine Lp ?_ (J1 M hE) (cells := J0 .i64 16 (Q5 X1)) (h1 := (Z0 _ _ _))
   intro W5 hO h_
   refine J9 ?_
   replace J := ko J hE hO (by omega)
   replace D := ko D hE hO (by omega)
   replace G := ko G hE hO (by omega)
   replace M := h_
   replace N := bwo N hE hO N.size (by omega)
   clear hO h_
   have c3 := (Q0 D q).trans (J3b n q (by omega))
   have γ := Q7r n q r hr
   rw [S] at γ
   obtain ⟨χ, ζ⟩ := Z76 n q r
   rw [γ] at ζ
   clear S
   go_wp2_with fail
   go_roundw
   case rel => exact ⟨64 * q + r, X1, by omega, by go_num, by rw [ε.out, HR.out]; exact Q5m X n _ HB.out, N, J, D, G, M⟩
   case measure => simp [intOf]; omega
  have HB := Lib.hid S
  go_upto_region 5 with fail
  have α := J6 J
  have Y := J6 D
  have Z := J6 G
  have V := J6 M
  have U := K5 R R bR bR
  obtain ⟨X1, T⟩ := V0 (R * R % PP)
  rw [← T] at U
  have θ := J0a T
  have ε := Lib.hid T
  clear T
  refine Px 3 ?_
  refine XL ?_
  refine XL ?_
  refine Xf ?_ (fun W hW => U W)
  refine Z7 fun W4 hE => ?_
  refine Lp ?_ (J1 M hE) (cells := J0 .i64 16 (Q5 X1)) (h1 := (Z0 _ _ _))
  intro W5 hO h_
  refine J9 ?_
  replace J := ko J hE hO (by omega)
  replace D := ko D hE hO (by omega)
  replace G := ko G hE hO (by omega)
  replace M := h_
  replace N := bwo N hE hO N.size (by omega)
  clear hO h_
  have c3 := (Q0 D q).trans (J3b n q (by omega))
  have γ := Q7r n q r hr
  rw [S] at γ
  obtain ⟨χ, ζ⟩ := Z76 n q r
  rw [γ] at ζ
  go_upto_region 7 with fail
  have κ := J6 J
  have σ := J6 D
  have ρ := J6 G
  have μ := J6 M
  have η := K5 X1 X θ hX
  obtain ⟨X2, δ⟩ := V0 (X1 * X % PP)
  rw [← δ] at η
  have Ω := J0a δ
  have ψ := Lib.hid δ
  clear δ
  refine Px 3 ?_
  refine XL ?_
  refine XL ?_
  refine Xf ?_ (fun W hW => η W)
  refine Z7 fun W6 hE => ?_
  refine Lp ?_ (J1 M hE) (cells := J0 .i64 16 (Q5 X2)) (h1 := (Z0 _ _ _))
  intro W7 hO h_
  refine J9 ?_
  replace J := ko J hE hO (by omega)
  replace D := ko D hE hO (by omega)
  replace G := ko G hE hO (by omega)
  replace M := h_
  replace N := bwo N hE hO N.size (by omega)
  clear hO h_
  clear S
  go_wp2_with fail
  go_roundw
  case rel => exact ⟨64 * q + r, X2, by omega, by go_num, by rw [ψ.out, ε.out, HR.out]; exact Q2n X n _ HB.out, N, J, D, G, M⟩
  case measure => simp [intOf]; omega
theorem Y7h (X : Nat) (hX : X < Q7) (w : World) :
  Calls Tryz.prog 120 #[A16 X] w fun e w' => K6 (A16 (pw X (PP - 2))) w w' e := by
 unfold A16
 go_enter Tryz.func120, Tryz.ntmps120
 go_upto_region 2 with fail
 refine wn2 (c1 := (J0 .i64 16 (Q5 X))) (t1 := 124) (c2 := (J0 .i64 16 (fun _ => 0))) (t2 := 124) fun W0 G Y4 D => ?_
 have R := J6 Y4
 have N := J6 D
 have M := Q2x X (PP - 2) hX (by decide)
 obtain ⟨X1, J⟩ := V0 (pw X (PP - 2))
 rw [← J] at M
 have T : X1 < Q7 := by rw [J]; exact J7h _ _
 have S := Lib.hid J
 clear J
 refine Px 9 ?_
 refine XL ?_
 refine Xv ?_
 refine Xv ?_
 refine Xv ?_
 refine Xv ?_
 refine Xv ?_
 refine Xv ?_
 refine Xv ?_
 refine Xf ?_ (fun W hW => M W)
 refine Z7 fun W1 hE => ?_
 refine Lp ?_ (J1 D hE) (cells := J0 .i64 16 (Q5 X1)) (h1 := (Z0 _ _ _))
 intro W2 hO h_
 refine J9 ?_
 replace Y4 := ko Y4 hE hO (by omega)
 replace D := h_
 replace G := bwo G hE hO G.size (by omega)
 clear hO h_
 go_wp2
 refine bodyPost_ret (Y3 rfl rfl D (by kernel_rfl) (by kernel_rfl)) rfl ⟨?_, G⟩
 rw [← S.out] <;> rfl
theorem V42 (w : World) :
  Calls Tryz.prog 157 #[] w fun e w' => K6 (A16 II) w w' e := by
 go_enter Tryz.func157, Tryz.ntmps157
 go_upto_region 2 with fail
 refine wn1 (c1 := (J0 .i64 16 (fun _ => 0))) (t1 := 124) fun W0 G D => ?_
 have N := J6 D
 have M := Q2x 2 ((PP - 1) / 4) (by decide) (by decide)
 obtain ⟨X1, J⟩ := V0 (pw 2 ((PP - 1) / 4))
 rw [← J] at M
 have S : X1 < Q7 := by rw [J]; exact J7h _ _
 have R := Lib.hid J
 clear J
 refine Px 9 ?_
 refine Xv ?_
 refine Xv ?_
 refine Xv ?_
 refine Xv ?_
 refine Xv ?_
 refine Xv ?_
 refine Xv ?_
 refine Xv ?_
 refine Xf ?_ (fun W hW => M W)
 refine Z7 fun W1 hE => ?_
 refine LS ?_ (J1 D hE) (g := w.heap.size) (cells := J0 .i64 16 (Q5 X1)) (h1 := (Z0 _ _ _))
 refine J9 ?_
 have hF : Below w.heap.size w (W1.setRow w.heap.size (J0 .i64 16 (Q5 X1))) ∧ Blk (W1.setRow w.heap.size (J0 .i64 16 (Q5 X1))) w.heap.size (J0 .i64 16 (Q5 X1)) 124 := ⟨(Z6 (Q9 G hE G.size) (by omega) _), (Y6 (J1 D hE) (J0 .i64 16 (Q5 X1)))⟩
 generalize (W1.setRow w.heap.size (J0 .i64 16 (Q5 X1))) = W2 at hF ⊢
 clear G D
 obtain ⟨G, D⟩ := hF
 go_wp2
 refine bodyPost_ret (Y3 rfl rfl D (by kernel_rfl) (by kernel_rfl)) rfl ⟨?_, G⟩
 rw [V0w, ← R.out] <;> rfl
end

section
set_option maxHeartbeats 4000000

theorem Q9f (X Y : Nat) (hX : X < Q7) (hY : Y < Q7) (w : World) : (Op.equalIn 10000 124 (.agg (J0 .i64 16 (Q5 X))) (.agg (J0 .i64 16 (Q5 Y)))).run Tryz.prog w = .ok (decide (X = Y)) w := by
  have h := J29 (P := Tryz.prog) w 9998 124 3 16 .i64 (J0 .i64 16 (Q5 X)) (J0 .i64 16 (Q5 Y)) (Q5 X) (Q5 Y) Tryz.underlying124 Tryz.underlying3 (by kernel_rfl)
    (fun i hi => J4 _ _ _ _ hi) (fun i hi => J4 _ _ _ _ hi)
  rw [h]
  congr 1
  rw [Bool.eq_iff_iff, J4x, decide_eq_true_iff]
  exact ⟨fun h => Z0l hX hY h, fun e i _ => by rw [e]⟩
theorem J3r {A : Nat} (h : A < PP) : A < Q7 := Nat.lt_trans h J68

theorem Y1m (A B : Nat) (hA : A < PP) (hB : B < Q7) (h1 : rtW A B = A) (w : World) :
  Calls Tryz.prog 113 #[A16 A, A16 B] w fun e w' => K6 (.tuple #[A16 (rtX A B), .bool true]) w w' e := by
 unfold A16
 go_enter Tryz.func113, Tryz.ntmps113
 go_upto_region 2 with fail
 refine wn3 (c1 := (J0 .i64 16 (Q5 A))) (t1 := 124) (c2 := (J0 .i64 16 (Q5 B))) (t2 := 124) (c3 := (J0 .i64 16 (fun _ => 0))) (t3 := 124) fun W0 D J M G => ?_
 have G2 := J6 J
 have D9 := J6 M
 have G1 := J6 G
 have ψ := K5 B B hB hB
 obtain ⟨X1, Z⟩ := V0 (B * B % PP)
 rw [← Z] at ψ
 have G6 := J0a Z
 have Ψ := Lib.hid Z
 clear Z
 have χ := K5 X1 B G6 hB
 obtain ⟨X2, Y⟩ := V0 (X1 * B % PP)
 rw [← Y] at χ
 have σ := J0a Y
 have Θ := Lib.hid Y
 clear Y
 refine Rx1 5 7 (z := J0 .i64 16 (fun _ => 0)) (t := 124) ?_
 refine XL ?_
 refine XL ?_
 refine Xf ?_ (fun W hW => ψ W)
 refine XL ?_
 refine Xf ?_ (fun W hW => χ W)
 refine XN ?_
 intro M1 W1 M2 hE R
 have M7 := D.size
 refine Lp ?_ R (cells := J0 .i64 16 (Q5 X2)) (h1 := (Z0 _ _ _))
 intro W2 hO h_
 refine LN ?_
 replace J := ko J hE hO (by omega)
 replace M := ko M hE hO (by omega)
 replace G := ko G hE hO (by omega)
 replace R := h_
 replace D := bwo D hE hO D.size (by omega)
 clear hO h_
 go_upto_region 3 with fail
 have D7 := J6 R
 have ρ := K5 X2 X2 σ σ
 obtain ⟨X3, ε⟩ := V0 (X2 * X2 % PP)
 rw [← ε] at ρ
 have M0 := J0a ε
 have Γ := Lib.hid ε
 clear ε
 have ξ := K5 X3 B M0 hB
 obtain ⟨X4, α⟩ := V0 (X3 * B % PP)
 rw [← α] at ξ
 have J5 := J0a α
 have D2 := Lib.hid α
 clear α
 refine Rx1 5 8 (z := J0 .i64 16 (fun _ => 0)) (t := 124) ?_
 refine XL ?_
 refine XL ?_
 refine Xf ?_ (fun W hW => ρ W)
 refine XL ?_
 refine Xf ?_ (fun W hW => ξ W)
 refine XN ?_
 intro J8 W3 M3 hE N
 have M6 := D.size
 refine Lp ?_ N (cells := J0 .i64 16 (Q5 X4)) (h1 := (Z0 _ _ _))
 intro W4 hO h_
 refine LN ?_
 replace J := ko J hE hO (by omega)
 replace M := ko M hE hO (by omega)
 replace G := ko G hE hO (by omega)
 replace R := ko R hE hO (by omega)
 replace N := h_
 replace D := bwo D hE hO D.size (by omega)
 clear hO h_
 go_upto_region 4 with fail
 have G0 := J6 N
 have ν := K5 A X2 (J3r hA) σ
 obtain ⟨X5, η⟩ := V0 (A * X2 % PP)
 rw [← η] at ν
 have G8 := J0a η
 have D1 := Lib.hid η
 clear η
 have τ := K5 A X4 (J3r hA) J5
 obtain ⟨X6, ζ⟩ := V0 (A * X4 % PP)
 rw [← ζ] at τ
 have G5 := J0a ζ
 have Δ := Lib.hid ζ
 clear ζ
 have φ := Q2x X6 7237005577332262213973186563042994240829374041602535252466099000494570602493 G5 (by decide)
 obtain ⟨X7, θ⟩ := V0 (pw X6 7237005577332262213973186563042994240829374041602535252466099000494570602493)
 rw [← θ] at φ
 have J7 : X7 < Q7 := by rw [θ]; exact J7h _ _
 have D0 := Lib.hid θ
 clear θ
 have μ := K5 X5 X7 G8 J7
 obtain ⟨X8, γ⟩ := V0 (X5 * X7 % PP)
 rw [← γ] at μ
 have Ξ := J0a γ
 have Ω := Lib.hid γ
 clear γ
 refine Rx1 15 9 (z := J0 .i64 16 (fun _ => 0)) (t := 124) ?_
 refine XL ?_
 refine XL ?_
 refine Xf ?_ (fun W hW => ν W)
 refine XL ?_
 refine XL ?_
 refine Xf ?_ (fun W hW => τ W)
 refine Xv ?_
 refine Xv ?_
 refine Xv ?_
 refine Xv ?_
 refine Xv ?_
 refine Xv ?_
 refine Xv ?_
 refine Xf ?_ (fun W hW => φ W)
 refine Xf ?_ (fun W hW => μ W)
 refine XN ?_
 intro J4 W5 G7 hE S
 have M4 := D.size
 refine Lp ?_ S (cells := J0 .i64 16 (Q5 X8)) (h1 := (Z0 _ _ _))
 intro W6 hO h_
 refine LN ?_
 replace J := ko J hE hO (by omega)
 replace M := ko M hE hO (by omega)
 replace G := ko G hE hO (by omega)
 replace R := ko R hE hO (by omega)
 replace N := ko N hE hO (by omega)
 replace S := h_
 replace D := bwo D hE hO D.size (by omega)
 clear hO h_
 go_upto_region 5 with fail
 have G3 := J6 S
 have ω := K5 X8 X8 Ξ Ξ
 obtain ⟨X9, β⟩ := V0 (X8 * X8 % PP)
 rw [← β] at ω
 have J2 := J0a β
 have G4 := Lib.hid β
 clear β
 have δ := K5 B X9 hB J2
 obtain ⟨X, V⟩ := V0 (B * X9 % PP)
 rw [← V] at δ
 have D6 := J0a V
 have D5 := Lib.hid V
 clear V
 refine Rx1 5 10 (z := J0 .i64 16 (fun _ => 0)) (t := 124) ?_
 refine XL ?_
 refine XL ?_
 refine XL ?_
 refine Xf ?_ (fun W hW => ω W)
 refine Xf ?_ (fun W hW => δ W)
 refine XN ?_
 intro G9 W7 D8 hE U
 have M5 := D.size
 refine Lp ?_ U (cells := J0 .i64 16 (Q5 X)) (h1 := (Z0 _ _ _))
 intro W8 hO h_
 refine LN ?_
 replace J := ko J hE hO (by omega)
 replace M := ko M hE hO (by omega)
 replace G := ko G hE hO (by omega)
 replace R := ko R hE hO (by omega)
 replace N := ko N hE hO (by omega)
 replace S := ko S hE hO (by omega)
 replace U := h_
 replace D := bwo D hE hO D.size (by omega)
 clear hO h_
 go_upto_region 6 with fail
 have D4 := J6 U
 have κ := Q9f X A D6 (J3r hA)
 have hw : X = rtW A B := by rw [D5.out, G4.out, Ω.out, D0.out, Δ.out, D1.out, D2.out, Γ.out, Θ.out, Ψ.out]; rfl
 rw [decide_eq_true (show X = A by rw [hw]; exact h1)] at κ
 have HW := Lib.hid hw
 clear hw
 refine Px 3 ?_
 refine XL ?_
 refine XL ?_
 ((with_reducible refine J65 (κ) ?_ ?_ rfl ?_ ?_ ?_); (focus kernel_rfl); (focus rfl); (focus rfl); (focus rfl); (try simp only [Act.put, mA, mB, mC]))
 refine Z7 fun W9 hE => ?_
 refine J9 ?_
 replace J := J1 J hE
 replace M := J1 M hE
 replace G := J1 G hE
 replace R := J1 R hE
 replace N := J1 N hE
 replace S := J1 S hE
 replace U := J1 U hE
 replace D := Q9 D hE D.size
 go_upto_region 7 with fail
 have D3 := J6 U
 refine Px 1 ?_
 refine XL ?_
 refine Z7 fun T hE => ?_
 refine LS ?_ (J1 G hE) (g := (w.heap.size + 2)) (cells := J0 .i64 16 (Q5 X8)) (h1 := (Z0 _ _ _))
 refine Lv ?_
 refine J9 ?_
 have hF : Below w.heap.size w (T.setRow (w.heap.size + 2) (J0 .i64 16 (Q5 X8))) ∧ Blk (T.setRow (w.heap.size + 2) (J0 .i64 16 (Q5 X8))) w.heap.size (J0 .i64 16 (Q5 A)) 124 ∧ Blk (T.setRow (w.heap.size + 2) (J0 .i64 16 (Q5 X8))) (w.heap.size + 1) (J0 .i64 16 (Q5 B)) 124 ∧ Blk (T.setRow (w.heap.size + 2) (J0 .i64 16 (Q5 X8))) (w.heap.size + 2) (J0 .i64 16 (Q5 X8)) 124 ∧ Blk (T.setRow (w.heap.size + 2) (J0 .i64 16 (Q5 X8))) M1 (J0 .i64 16 (Q5 X2)) 124 ∧ Blk (T.setRow (w.heap.size + 2) (J0 .i64 16 (Q5 X8))) J8 (J0 .i64 16 (Q5 X4)) 124 ∧ Blk (T.setRow (w.heap.size + 2) (J0 .i64 16 (Q5 X8))) J4 (J0 .i64 16 (Q5 X8)) 124 ∧ Blk (T.setRow (w.heap.size + 2) (J0 .i64 16 (Q5 X8))) G9 (J0 .i64 16 (Q5 X)) 124 := ⟨(Z6 (Q9 D hE D.size) (by omega) _), (J3 (J1 J hE) (by omega) _), (J3 (J1 M hE) (by omega) _), (Y6 (J1 G hE) (J0 .i64 16 (Q5 X8))), (J3 (J1 R hE) (by omega) _), (J3 (J1 N hE) (by omega) _), (J3 (J1 S hE) (by omega) _), (J3 (J1 U hE) (by omega) _)⟩
 generalize (T.setRow (w.heap.size + 2) (J0 .i64 16 (Q5 X8))) = W11 at hF ⊢
 clear D J M G R N S U
 obtain ⟨D, J, M, G, R, N, S, U⟩ := hF
 go_wp2
 refine bodyPost_ret (J08 rfl rfl rfl G (by kernel_rfl) (by kernel_rfl)) rfl ⟨?_, D⟩
 rw [Ω.out, D0.out, Δ.out, D1.out, D2.out, Γ.out, Θ.out, Ψ.out]; rfl
theorem Y1n (A B : Nat) (hA : A < PP) (hB : B < Q7) (h1 : ¬ rtW A B = A) (h2 : rtW A B = (PP - A) % PP) (w : World) :
  Calls Tryz.prog 113 #[A16 A, A16 B] w fun e w' => K6 (.tuple #[A16 (rtX A B * II % PP), .bool true]) w w' e := by
 unfold A16
 go_enter Tryz.func113, Tryz.ntmps113
 go_upto_region 2 with fail
 refine wn3 (c1 := (J0 .i64 16 (Q5 A))) (t1 := 124) (c2 := (J0 .i64 16 (Q5 B))) (t2 := 124) (c3 := (J0 .i64 16 (fun _ => 0))) (t3 := 124) fun W0 D J M G => ?_
 have J7 := J6 J
 have J2 := J6 M
 have J5 := J6 G
 have D0 := K5 B B hB hB
 obtain ⟨X1, γ⟩ := V0 (B * B % PP)
 rw [← γ] at D0
 have M2 := J0a γ
 have D5 := Lib.hid γ
 clear γ
 have Ω := K5 X1 B M2 hB
 obtain ⟨X2, β⟩ := V0 (X1 * B % PP)
 rw [← β] at Ω
 have Δ := J0a β
 have D4 := Lib.hid β
 clear β
 refine Rx1 5 7 (z := J0 .i64 16 (fun _ => 0)) (t := 124) ?_
 refine XL ?_
 refine XL ?_
 refine Xf ?_ (fun W hW => D0 W)
 refine XL ?_
 refine Xf ?_ (fun W hW => Ω W)
 refine XN ?_
 intro N2 W1 N3 hE R
 have N9 := D.size
 refine Lp ?_ R (cells := J0 .i64 16 (Q5 X2)) (h1 := (Z0 _ _ _))
 intro W2 hO h_
 refine LN ?_
 replace J := ko J hE hO (by omega)
 replace M := ko M hE hO (by omega)
 replace G := ko G hE hO (by omega)
 replace R := h_
 replace D := bwo D hE hO D.size (by omega)
 clear hO h_
 go_upto_region 3 with fail
 have G8 := J6 R
 have Γ := K5 X2 X2 Δ Δ
 obtain ⟨X3, κ⟩ := V0 (X2 * X2 % PP)
 rw [← κ] at Γ
 have N1 := J0a κ
 have D2 := Lib.hid κ
 clear κ
 have ω := K5 X3 B N1 hB
 obtain ⟨X4, δ⟩ := V0 (X3 * B % PP)
 rw [← δ] at ω
 have M8 := J0a δ
 have G0 := Lib.hid δ
 clear δ
 refine Rx1 5 8 (z := J0 .i64 16 (fun _ => 0)) (t := 124) ?_
 refine XL ?_
 refine XL ?_
 refine Xf ?_ (fun W hW => Γ W)
 refine XL ?_
 refine Xf ?_ (fun W hW => ω W)
 refine XN ?_
 intro N0 W3 N4 hE N
 have N7 := D.size
 refine Lp ?_ N (cells := J0 .i64 16 (Q5 X4)) (h1 := (Z0 _ _ _))
 intro W4 hO h_
 refine LN ?_
 replace J := ko J hE hO (by omega)
 replace M := ko M hE hO (by omega)
 replace G := ko G hE hO (by omega)
 replace R := ko R hE hO (by omega)
 replace N := h_
 replace D := bwo D hE hO D.size (by omega)
 clear hO h_
 go_upto_region 4 with fail
 have J4 := J6 N
 have ψ := K5 A X2 (J3r hA) Δ
 obtain ⟨X5, ν⟩ := V0 (A * X2 % PP)
 rw [← ν] at ψ
 have M4 := J0a ν
 have D9 := Lib.hid ν
 clear ν
 have Ξ := K5 A X4 (J3r hA) M8
 obtain ⟨X6, μ⟩ := V0 (A * X4 % PP)
 rw [← μ] at Ξ
 have M1 := J0a μ
 have D3 := Lib.hid μ
 clear μ
 have Ψ := Q2x X6 7237005577332262213973186563042994240829374041602535252466099000494570602493 M1 (by decide)
 obtain ⟨X7, ρ⟩ := V0 (pw X6 7237005577332262213973186563042994240829374041602535252466099000494570602493)
 rw [← ρ] at Ψ
 have M9 : X7 < Q7 := by rw [ρ]; exact J7h _ _
 have D7 := Lib.hid ρ
 clear ρ
 have φ := K5 X5 X7 M4 M9
 obtain ⟨X8, η⟩ := V0 (X5 * X7 % PP)
 rw [← η] at φ
 have χ := J0a η
 have D6 := Lib.hid η
 clear η
 refine Rx1 15 9 (z := J0 .i64 16 (fun _ => 0)) (t := 124) ?_
 refine XL ?_
 refine XL ?_
 refine Xf ?_ (fun W hW => ψ W)
 refine XL ?_
 refine XL ?_
 refine Xf ?_ (fun W hW => Ξ W)
 refine Xv ?_
 refine Xv ?_
 refine Xv ?_
 refine Xv ?_
 refine Xv ?_
 refine Xv ?_
 refine Xv ?_
 refine Xf ?_ (fun W hW => Ψ W)
 refine Xf ?_ (fun W hW => φ W)
 refine XN ?_
 intro M7 W5 M3 hE T
 have N5 := D.size
 refine Lp ?_ T (cells := J0 .i64 16 (Q5 X8)) (h1 := (Z0 _ _ _))
 intro W6 hO h_
 refine LN ?_
 replace J := ko J hE hO (by omega)
 replace M := ko M hE hO (by omega)
 replace G := ko G hE hO (by omega)
 replace R := ko R hE hO (by omega)
 replace N := ko N hE hO (by omega)
 replace T := h_
 replace D := bwo D hE hO D.size (by omega)
 clear hO h_
 go_upto_region 5 with fail
 have J8 := J6 T
 have D1 := K5 X8 X8 χ χ
 obtain ⟨X9, ε⟩ := V0 (X8 * X8 % PP)
 rw [← ε] at D1
 have M6 := J0a ε
 have M0 := Lib.hid ε
 clear ε
 have θ := K5 B X9 hB M6
 obtain ⟨X, α⟩ := V0 (B * X9 % PP)
 rw [← α] at θ
 have Θ := J0a α
 have G5 := Lib.hid α
 clear α
 refine Rx1 5 10 (z := J0 .i64 16 (fun _ => 0)) (t := 124) ?_
 refine XL ?_
 refine XL ?_
 refine XL ?_
 refine Xf ?_ (fun W hW => D1 W)
 refine Xf ?_ (fun W hW => θ W)
 refine XN ?_
 intro M5 W7 G9 hE U
 have N6 := D.size
 refine Lp ?_ U (cells := J0 .i64 16 (Q5 X)) (h1 := (Z0 _ _ _))
 intro W8 hO h_
 refine LN ?_
 replace J := ko J hE hO (by omega)
 replace M := ko M hE hO (by omega)
 replace G := ko G hE hO (by omega)
 replace R := ko R hE hO (by omega)
 replace N := ko N hE hO (by omega)
 replace T := ko T hE hO (by omega)
 replace U := h_
 replace D := bwo D hE hO D.size (by omega)
 clear hO h_
 go_upto_region 6 with fail
 have G4 := J6 U
 have τ := Q9f X A Θ (J3r hA)
 have hw : X = rtW A B := by rw [G5.out, M0.out, D6.out, D7.out, D3.out, D9.out, G0.out, D2.out, D4.out, D5.out]; rfl
 rw [decide_eq_false (show ¬ X = A by rw [hw]; exact h1)] at τ
 have HW := Lib.hid hw
 clear hw
 refine Px 3 ?_
 refine XL ?_
 refine XL ?_
 ((with_reducible refine J65 (τ) ?_ ?_ rfl ?_ ?_ ?_); (focus kernel_rfl); (focus rfl); (focus rfl); (focus rfl); (try simp only [Act.put, mA, mB, mC]))
 refine Z7 fun W9 hE => ?_
 refine J9 ?_
 replace J := J1 J hE
 replace M := J1 M hE
 replace G := J1 G hE
 replace R := J1 R hE
 replace N := J1 N hE
 replace T := J1 T hE
 replace U := J1 U hE
 replace D := Q9 D hE D.size
 go_upto_region 8 with fail
 have G2 := J6 U
 have ξ := Q2r A (Nat.le_of_lt hA)
 obtain ⟨D8, Z⟩ := V0 ((PP - A) % PP)
 rw [← Z] at ξ
 have G6 := J0a Z
 have G3 := Lib.hid Z
 clear Z
 have σ := Q9f X D8 Θ G6
 rw [decide_eq_true (show X = D8 by rw [HW.out, G3.out]; exact h2)] at σ
 refine Rx 4 ?_
 refine XL ?_
 refine XL ?_
 refine Xf ?_ (fun W hW => ξ W)
 ((with_reducible refine J65 (σ) ?_ ?_ rfl ?_ ?_ ?_); (focus kernel_rfl); (focus rfl); (focus rfl); (focus rfl); (try simp only [Act.put, mA, mB, mC]))
 refine Z7 fun R0 hE => ?_
 refine LN ?_
 replace J := J1 J hE
 replace M := J1 M hE
 replace G := J1 G hE
 replace R := J1 R hE
 replace N := J1 N hE
 replace T := J1 T hE
 replace U := J1 U hE
 replace D := Q9 D hE D.size
 go_upto_region 9 with fail
 have G1 := J6 U
 have ζ := K5 X8 II χ Y57
 obtain ⟨S, Y⟩ := V0 (X8 * II % PP)
 rw [← Y] at ζ
 have N8 := J0a Y
 have G7 := Lib.hid Y
 clear Y
 refine Rx 3 ?_
 refine XL ?_
 refine Xf ?_ (fun W hW => V42 W)
 refine Xf ?_ (fun W hW => ζ W)
 refine Z7 fun V hE => ?_
 refine LS ?_ (J1 G hE) (g := (w.heap.size + 2)) (cells := J0 .i64 16 (Q5 S)) (h1 := (Z0 _ _ _))
 refine Lv ?_
 refine LN ?_
 have hF : Below w.heap.size w (V.setRow (w.heap.size + 2) (J0 .i64 16 (Q5 S))) ∧ Blk (V.setRow (w.heap.size + 2) (J0 .i64 16 (Q5 S))) w.heap.size (J0 .i64 16 (Q5 A)) 124 ∧ Blk (V.setRow (w.heap.size + 2) (J0 .i64 16 (Q5 S))) (w.heap.size + 1) (J0 .i64 16 (Q5 B)) 124 ∧ Blk (V.setRow (w.heap.size + 2) (J0 .i64 16 (Q5 S))) (w.heap.size + 2) (J0 .i64 16 (Q5 S)) 124 ∧ Blk (V.setRow (w.heap.size + 2) (J0 .i64 16 (Q5 S))) N2 (J0 .i64 16 (Q5 X2)) 124 ∧ Blk (V.setRow (w.heap.size + 2) (J0 .i64 16 (Q5 S))) N0 (J0 .i64 16 (Q5 X4)) 124 ∧ Blk (V.setRow (w.heap.size + 2) (J0 .i64 16 (Q5 S))) M7 (J0 .i64 16 (Q5 X8)) 124 ∧ Blk (V.setRow (w.heap.size + 2) (J0 .i64 16 (Q5 S))) M5 (J0 .i64 16 (Q5 X)) 124 := ⟨(Z6 (Q9 D hE D.size) (by omega) _), (J3 (J1 J hE) (by omega) _), (J3 (J1 M hE) (by omega) _), (Y6 (J1 G hE) (J0 .i64 16 (Q5 S))), (J3 (J1 R hE) (by omega) _), (J3 (J1 N hE) (by omega) _), (J3 (J1 T hE) (by omega) _), (J3 (J1 U hE) (by omega) _)⟩
 generalize (V.setRow (w.heap.size + 2) (J0 .i64 16 (Q5 S))) = W12 at hF ⊢
 clear D J M G R N T U
 obtain ⟨D, J, M, G, R, N, T, U⟩ := hF
 go_wp2
 refine bodyPost_ret (J08 rfl rfl rfl G (by kernel_rfl) (by kernel_rfl)) rfl ⟨?_, D⟩
 rw [G7.out, D6.out, D7.out, D3.out, D9.out, G0.out, D2.out, D4.out, D5.out]; rfl
theorem Y1o (A B : Nat) (hA : A < PP) (hB : B < Q7) (h1 : ¬ rtW A B = A) (h2 : ¬ rtW A B = (PP - A) % PP) (w : World) :
  Calls Tryz.prog 113 #[A16 A, A16 B] w fun e w' => K6 (.tuple #[A16 0, .bool false]) w w' e := by
 unfold A16
 go_enter Tryz.func113, Tryz.ntmps113
 go_upto_region 2 with fail
 refine wn3 (c1 := (J0 .i64 16 (Q5 A))) (t1 := 124) (c2 := (J0 .i64 16 (Q5 B))) (t2 := 124) (c3 := (J0 .i64 16 (fun _ => 0))) (t3 := 124) fun W0 D J M G => ?_
 have G1 := J6 J
 have D8 := J6 M
 have G0 := J6 G
 have Θ := K5 B B hB hB
 obtain ⟨X1, α⟩ := V0 (B * B % PP)
 rw [← α] at Θ
 have G7 := J0a α
 have M2 := Lib.hid α
 clear α
 have Δ := K5 X1 B G7 hB
 obtain ⟨X2, Z⟩ := V0 (X1 * B % PP)
 rw [← Z] at Δ
 have χ := J0a Z
 have G8 := Lib.hid Z
 clear Z
 refine Rx1 5 7 (z := J0 .i64 16 (fun _ => 0)) (t := 124) ?_
 refine XL ?_
 refine XL ?_
 refine Xf ?_ (fun W hW => Θ W)
 refine XL ?_
 refine Xf ?_ (fun W hW => Δ W)
 refine XN ?_
 intro M6 W1 M9 hE R
 have N4 := D.size
 refine Lp ?_ R (cells := J0 .i64 16 (Q5 X2)) (h1 := (Z0 _ _ _))
 intro W2 hO h_
 refine LN ?_
 replace J := ko J hE hO (by omega)
 replace M := ko M hE hO (by omega)
 replace G := ko G hE hO (by omega)
 replace R := h_
 replace D := bwo D hE hO D.size (by omega)
 clear hO h_
 go_upto_region 3 with fail
 have D6 := J6 R
 have φ := K5 X2 X2 χ χ
 obtain ⟨X3, ζ⟩ := V0 (X2 * X2 % PP)
 rw [← ζ] at φ
 have M4 := J0a ζ
 have G5 := Lib.hid ζ
 clear ζ
 have τ := K5 X3 B M4 hB
 obtain ⟨X4, β⟩ := V0 (X3 * B % PP)
 rw [← β] at τ
 have J8 := J0a β
 have M8 := Lib.hid β
 clear β
 refine Rx1 5 8 (z := J0 .i64 16 (fun _ => 0)) (t := 124) ?_
 refine XL ?_
 refine XL ?_
 refine Xf ?_ (fun W hW => φ W)
 refine XL ?_
 refine Xf ?_ (fun W hW => τ W)
 refine XN ?_
 intro M1 W3 N0 hE N
 have N3 := D.size
 refine Lp ?_ N (cells := J0 .i64 16 (Q5 X4)) (h1 := (Z0 _ _ _))
 intro W4 hO h_
 refine LN ?_
 replace J := ko J hE hO (by omega)
 replace M := ko M hE hO (by omega)
 replace G := ko G hE hO (by omega)
 replace R := ko R hE hO (by omega)
 replace N := h_
 replace D := bwo D hE hO D.size (by omega)
 clear hO h_
 go_upto_region 4 with fail
 have D9 := J6 N
 have σ := K5 A X2 (J3r hA) χ
 obtain ⟨X5, θ⟩ := V0 (A * X2 % PP)
 rw [← θ] at σ
 have J2 := J0a θ
 have M7 := Lib.hid θ
 clear θ
 have ω := K5 A X4 (J3r hA) J8
 obtain ⟨X6, η⟩ := V0 (A * X4 % PP)
 rw [← η] at ω
 have G4 := J0a η
 have G6 := Lib.hid η
 clear η
 have Γ := Q2x X6 7237005577332262213973186563042994240829374041602535252466099000494570602493 G4 (by decide)
 obtain ⟨X7, μ⟩ := V0 (pw X6 7237005577332262213973186563042994240829374041602535252466099000494570602493)
 rw [← μ] at Γ
 have M0 : X7 < Q7 := by rw [μ]; exact J7h _ _
 have M5 := Lib.hid μ
 clear μ
 have ρ := K5 X5 X7 J2 M0
 obtain ⟨X8, δ⟩ := V0 (X5 * X7 % PP)
 rw [← δ] at ρ
 have Ψ := J0a δ
 have M3 := Lib.hid δ
 clear δ
 refine Rx1 15 9 (z := J0 .i64 16 (fun _ => 0)) (t := 124) ?_
 refine XL ?_
 refine XL ?_
 refine Xf ?_ (fun W hW => σ W)
 refine XL ?_
 refine XL ?_
 refine Xf ?_ (fun W hW => ω W)
 refine Xv ?_
 refine Xv ?_
 refine Xv ?_
 refine Xv ?_
 refine Xv ?_
 refine Xv ?_
 refine Xv ?_
 refine Xf ?_ (fun W hW => Γ W)
 refine Xf ?_ (fun W hW => ρ W)
 refine XN ?_
 intro J7 W5 G9 hE S
 have N1 := D.size
 refine Lp ?_ S (cells := J0 .i64 16 (Q5 X8)) (h1 := (Z0 _ _ _))
 intro W6 hO h_
 refine LN ?_
 replace J := ko J hE hO (by omega)
 replace M := ko M hE hO (by omega)
 replace G := ko G hE hO (by omega)
 replace R := ko R hE hO (by omega)
 replace N := ko N hE hO (by omega)
 replace S := h_
 replace D := bwo D hE hO D.size (by omega)
 clear hO h_
 go_upto_region 5 with fail
 have G2 := J6 S
 have Ξ := K5 X8 X8 Ψ Ψ
 obtain ⟨X9, γ⟩ := V0 (X8 * X8 % PP)
 rw [← γ] at Ξ
 have J5 := J0a γ
 have G3 := Lib.hid γ
 clear γ
 have ε := K5 B X9 hB J5
 obtain ⟨V, Y⟩ := V0 (B * X9 % PP)
 rw [← Y] at ε
 have ψ := J0a Y
 have D4 := Lib.hid Y
 clear Y
 refine Rx1 5 10 (z := J0 .i64 16 (fun _ => 0)) (t := 124) ?_
 refine XL ?_
 refine XL ?_
 refine XL ?_
 refine Xf ?_ (fun W hW => Ξ W)
 refine Xf ?_ (fun W hW => ε W)
 refine XN ?_
 intro J4 W7 D7 hE T
 have N2 := D.size
 refine Lp ?_ T (cells := J0 .i64 16 (Q5 V)) (h1 := (Z0 _ _ _))
 intro W8 hO h_
 refine LN ?_
 replace J := ko J hE hO (by omega)
 replace M := ko M hE hO (by omega)
 replace G := ko G hE hO (by omega)
 replace R := ko R hE hO (by omega)
 replace N := ko N hE hO (by omega)
 replace S := ko S hE hO (by omega)
 replace T := h_
 replace D := bwo D hE hO D.size (by omega)
 clear hO h_
 go_upto_region 6 with fail
 have D3 := J6 T
 have ξ := Q9f V A ψ (J3r hA)
 have hw : V = rtW A B := by rw [D4.out, G3.out, M3.out, M5.out, G6.out, M7.out, M8.out, G5.out, G8.out, M2.out]; rfl
 rw [decide_eq_false (show ¬ V = A by rw [hw]; exact h1)] at ξ
 have HW := Lib.hid hw
 clear hw
 refine Px 3 ?_
 refine XL ?_
 refine XL ?_
 ((with_reducible refine J65 (ξ) ?_ ?_ rfl ?_ ?_ ?_); (focus kernel_rfl); (focus rfl); (focus rfl); (focus rfl); (try simp only [Act.put, mA, mB, mC]))
 refine Z7 fun W9 hE => ?_
 refine J9 ?_
 replace J := J1 J hE
 replace M := J1 M hE
 replace G := J1 G hE
 replace R := J1 R hE
 replace N := J1 N hE
 replace S := J1 S hE
 replace T := J1 T hE
 replace D := Q9 D hE D.size
 go_upto_region 8 with fail
 have D1 := J6 T
 have κ := Q2r A (Nat.le_of_lt hA)
 obtain ⟨Ω, X⟩ := V0 ((PP - A) % PP)
 rw [← X] at κ
 have D5 := J0a X
 have D2 := Lib.hid X
 clear X
 have ν := Q9f V Ω ψ D5
 rw [decide_eq_false (show ¬ V = Ω by rw [HW.out, D2.out]; exact h2)] at ν
 refine Rx 4 ?_
 refine XL ?_
 refine XL ?_
 refine Xf ?_ (fun W hW => κ W)
 ((with_reducible refine J65 (ν) ?_ ?_ rfl ?_ ?_ ?_); (focus kernel_rfl); (focus rfl); (focus rfl); (focus rfl); (try simp only [Act.put, mA, mB, mC]))
 refine Z7 fun N5 hE => ?_
 refine LN ?_
 replace J := J1 J hE
 replace M := J1 M hE
 replace G := J1 G hE
 replace R := J1 R hE
 replace N := J1 N hE
 replace S := J1 S hE
 replace T := J1 T hE
 replace D := Q9 D hE D.size
 go_upto_region 10 with fail
 have D0 := J6 T
 refine Px 1 ?_
 refine Xv ?_
 refine Z7 fun U hE => ?_
 refine LS ?_ (J1 G hE) (g := (w.heap.size + 2)) (cells := J0 .i64 16 (Q5 0)) (h1 := (Z0 _ _ _))
 refine Lv ?_
 refine J9 ?_
 have hF : Below w.heap.size w (U.setRow (w.heap.size + 2) (J0 .i64 16 (Q5 0))) ∧ Blk (U.setRow (w.heap.size + 2) (J0 .i64 16 (Q5 0))) w.heap.size (J0 .i64 16 (Q5 A)) 124 ∧ Blk (U.setRow (w.heap.size + 2) (J0 .i64 16 (Q5 0))) (w.heap.size + 1) (J0 .i64 16 (Q5 B)) 124 ∧ Blk (U.setRow (w.heap.size + 2) (J0 .i64 16 (Q5 0))) (w.heap.size + 2) (J0 .i64 16 (Q5 0)) 124 ∧ Blk (U.setRow (w.heap.size + 2) (J0 .i64 16 (Q5 0))) M6 (J0 .i64 16 (Q5 X2)) 124 ∧ Blk (U.setRow (w.heap.size + 2) (J0 .i64 16 (Q5 0))) M1 (J0 .i64 16 (Q5 X4)) 124 ∧ Blk (U.setRow (w.heap.size + 2) (J0 .i64 16 (Q5 0))) J7 (J0 .i64 16 (Q5 X8)) 124 ∧ Blk (U.setRow (w.heap.size + 2) (J0 .i64 16 (Q5 0))) J4 (J0 .i64 16 (Q5 V)) 124 := ⟨(Z6 (Q9 D hE D.size) (by omega) _), (J3 (J1 J hE) (by omega) _), (J3 (J1 M hE) (by omega) _), (Y6 (J1 G hE) (J0 .i64 16 (Q5 0))), (J3 (J1 R hE) (by omega) _), (J3 (J1 N hE) (by omega) _), (J3 (J1 S hE) (by omega) _), (J3 (J1 T hE) (by omega) _)⟩
 generalize (U.setRow (w.heap.size + 2) (J0 .i64 16 (Q5 0))) = W12 at hF ⊢
 clear D J M G R N S T
 obtain ⟨D, J, M, G, R, N, S, T⟩ := hF
 go_wp2
 refine bodyPost_ret (J08 rfl rfl rfl G (by kernel_rfl) (by kernel_rfl)) rfl ⟨?_, D⟩
 rfl
theorem Z1m (A B : Nat) (hA : A < PP) (hB : B < Q7) (w : World) : Calls Tryz.prog 113 #[A16 A, A16 B] w fun e w' => K6 (.tuple #[A16 (rtR A B), .bool (rtB A B)]) w w' e := by
  unfold rtR rtB
  rw [Nat.mod_eq_of_lt hA]
  by_cases h1 : rtW A B = A
  · rw [if_pos h1, decide_eq_true h1, Bool.true_or]; exact Y1m A B hA hB h1 w
  rw [if_neg h1, decide_eq_false h1, Bool.false_or]
  by_cases h2 : rtW A B = (PP - A) % PP
  · rw [if_pos h2, decide_eq_true h2]; exact Y1n A B hA hB h1 h2 w
  rw [if_neg h2, decide_eq_false h2]; exact Y1o A B hA hB h1 h2 w
end

section
set_option maxHeartbeats 4000000

theorem Q5x (X k : Nat) : IntKind.u8.wrap (Q5 X k) = Q3 X (2 * k) ∧ IntKind.u8.wrap (Q5 X k / 256) = Q3 X (2 * k + 1) := by
  unfold Q5 Q3
  rw [IntKind.wrap_u8, IntKind.wrap_u8, show 8 * (2 * k) = 16 * k by omega, show 8 * (2 * k + 1) = 16 * k + 8 by omega, Nat.pow_add, ← Nat.div_div_eq_div_mul]
  generalize X / 2 ^ (16 * k) = x
  constructor <;> omega

theorem rbytes_c (X : Nat) (w : World) : Calls Tryz.prog 111 #[A16 X] w fun e w' => K6 (Q3l 32 (Q3 X)) w w' e := by
  obtain ⟨i0, hi, T, U, V⟩ := info_parts Q72
  unfold A16
  go_enter Tryz.func111, Tryz.ntmps111
  go_wp2
  go_loopw [3, 4] (fun v ii wr => ∃ k : Nat, k ≤ 16 ∧ ii = .int .i64 k ∧ Below w.heap.size w wr ∧ wr.ownsRow (w.heap.size + 1) 5 1 v (2 * k) (J5a .u8 (2 * k) (Q3 X)) ∧
      Blk wr w.heap.size (J0 .i64 16 (Q5 X)) 124)
    (fun _ ii _ => (16 - intOf ii).toNat)
  case atStart =>
    refine ⟨0, by omega, rfl, ?_, ?_, Y8 (V2 _ _ rfl) _⟩
    · exact bz
    exact ⟨rfl, .inr ⟨w.heap.size + 1, 0, #[], rfl, Nat.le_refl _, V2 _ _ (by simp), Nat.le_refl _, by decide, rfl, rfl⟩⟩
  case round =>
    obtain ⟨k, hk, rfl, G, D, b1⟩ := hrel
    by_cases S : k = 16
    · subst S
      have hc := J7b Tryz.underlying22 Tryz.underlying5 D 9 Tryz.underlying9
      go_wp2
      go_ret
      exact ⟨rfl, G⟩
    have hk' : (k : Int) < 16 := by omega
    have c1 := (Q0 b1 k).trans (J4 _ _ _ _ (by omega))
    have r1 := J03 X k
    obtain ⟨β, Z⟩ := Q5x X k
    have R.size := G.size
    have HB := Lib.hid G.size
    have ag : u3.ownBlock ≠ some w.heap.size := fun h => by have := (D.lt _ h).1; omega
    have M : ∀ k, u3.ownBlock = some k → w.heap.size + 1 ≤ k := fun k hk => (D.lt k hk).1
    have HO := Lib.hid M
    clear M
    go_wp2_with fail
    go_region_held3 (fun W => W.cell? ⟨w.heap.size, k, none⟩ = some (.int .i64 (Q5 X k)))
      (first
        | go_keep
        | (rw [J.cell_far _ (by simp; omega) (Ne.symm ag)]; first | assumption | (simp [*]; done)))
      ((refine step_append_lies _ (by rfl) (.tmp 10) (.tmp 20) 22 (by rfl) (w.heap.size + 1) 5 i0 (.int .u8 0) 1 1 Tryz.underlying22 hi T U V rfl (by omega) u3 (2 * k) (J5a .u8 (2 * k) (Q3 X)) (by rfl) (by first | exact (D.alloc _).drew | exact (D.drew).alloc _)
          ⟨wr.heap.size, 0, none⟩ 2 2 [.int .u8 (Q3 X (2 * k)), .int .u8 (Q3 X (2 * k + 1))] (by rfl) (by rfl) (World.news_of_block (cs := #[.int .u8 (Q3 X (2 * k)), .int .u8 (Q3 X (2 * k + 1))]) (t := 5) (fr := (0, 0)) (heap_alloc_new wr _)) (by simp [Value.oneCell'])
          (by omega) (by unfold maxLen; omega) (by omega) (by simp; omega) (wr.heap.size + 1) (by simp) ?_; intro gg α w1 N J Y γ))
    have M := HO.out
    rw [List.append_cons, ← J81, ← J81] at N
    have hbel' := Q44 ((G.alloc R.size (.cells #[.int .u8 (Q3 X (2 * k)), .int .u8 (Q3 X (2 * k + 1))] 5)).drew) J (by simp; omega) (fun k hk => by have := M k hk; omega)
    have b1' := Q45 (Y9 (Y8 b1 _)) J (fun k hk => by have := M k hk; omega)
    go_wp2
    go_roundw
    case rel =>
      exact ⟨k + 1, by omega, by go_num, hbel', N, b1'⟩
    case measure => simp [intOf]; omega
end

section
set_option maxHeartbeats 4000000

theorem Q0z (a b : Nat) (ha : a < 9223372036854775808) (hb : b < 9223372036854775808) :
    bits .or .i64 (a : Int) (b : Int) = ((a ||| b : Nat) : Int) := by
  have hx : a ||| b < 2 ^ 63 := Nat.or_lt_two_pow (by omega) (by omega)
  have h1 : (BitVec.ofInt 64 (a : Int)).toNat = a := by
    rw [BitVec.ofInt_natCast, BitVec.toNat_ofNat]; exact Nat.mod_eq_of_lt (by omega)
  have h2 : (BitVec.ofInt 64 (b : Int)).toNat = b := by
    rw [BitVec.ofInt_natCast, BitVec.toNat_ofNat]; exact Nat.mod_eq_of_lt (by omega)
  show IntKind.i64.wrap ((BitVec.ofInt 64 (a : Int) ||| BitVec.ofInt 64 (b : Int)).toNat : Int) = _
  rw [BitVec.toNat_or, h1, h2, IntKind.wrap_i64]
  omega
theorem Y1p (V k : Nat) : bits .or .i64 (Q3 V (2 * k)) (Q3 V (2 * k + 1) * 2 ^ 8) = Q5 V k := by
  unfold Q3 Q5
  rw [show 8 * (2 * k) = 16 * k by omega, show 8 * (2 * k + 1) = 16 * k + 8 by omega, Nat.pow_add, ← Nat.div_div_eq_div_mul]
  generalize V / 2 ^ (16 * k) = x
  have h1 : x % 256 < 2 ^ 8 := Nat.mod_lt _ (by decide)
  have e : ((x / 2 ^ 8 % 256 : Nat) : Int) * 2 ^ 8 = ((x / 2 ^ 8 % 256 * 256 : Nat) : Int) := by rw [Int.natCast_mul]; rfl
  rw [e]
  have e3 : x % 256 ||| x / 2 ^ 8 % 256 * 256 = x % 65536 := by
    rw [Nat.or_comm, show (256 : Nat) = 2 ^ 8 by decide, Nat.mul_comm, ← Nat.two_pow_add_eq_or_of_lt h1]; omega
  rw [Q0z _ _ (by omega) (by omega), e3]
theorem Y1q (V : Nat) : bits .and .i64 (Q5 V 15) 32767 = Q5 (V % 2 ^ 255) 15 := by
  have h := J03 V 15
  have e := bits_mask .i64 63 (by decide) (fun n a b => by rw [IntKind.wrap_i64]; omega) 15 (by omega) (Q5 V 15) h.1 (by omega)
  have e1 : (2 : Int) ^ 15 - 1 = 32767 := by decide
  have e2 : (2 : Int) ^ 15 = 32768 := by decide
  rw [e1, e2] at e
  rw [e]
  unfold Q5
  simp only [Nat.reduceMul, Nat.reducePow]
  omega
theorem Y1r (V : Nat) : (J0 .i64 16 (Q5 V)).setIfInBounds 15 (.int .i64 (bits .and .i64 (Q5 V 15) 32767)) = J0 .i64 16 (Q5 (V % 2 ^ 255)) := by
  rw [Y1q, V6]
  apply K8
  intro j hj
  by_cases h3 : j = 15
  · subst h3; rw [J1z]
  rw [J0i _ _ _ _ h3]
  have : j = 0 ∨ j = 1 ∨ j = 2 ∨ j = 3 ∨ j = 4 ∨ j = 5 ∨ j = 6 ∨ j = 7 ∨ j = 8 ∨ j = 9 ∨ j = 10 ∨ j = 11 ∨ j = 12 ∨ j = 13 ∨ j = 14 := by omega
  unfold Q5
  rcases this with rfl | rfl | rfl | rfl | rfl | rfl | rfl | rfl | rfl | rfl | rfl | rfl | rfl | rfl | rfl <;> simp only [Nat.reduceMul, Nat.reducePow] <;> omega

theorem Y1f (V : Nat) (w : World) :
  Calls Tryz.prog 110 #[Q3l 32 (Q3 V)] w fun e w' => K6 (A16 (V % 2 ^ 255 % PP)) w w' e := by
 have hI : ∀ j : Nat, j < 32 → ∀ W, (Instr.index 9 (Q3l 32 (Q3 V)) (.int .i64 (j : Int))).run Tryz.prog W = .ok (.int .u8 (Q3 V j)) W := fun j hj W => Q28 9 Tryz.underlying9 32 (Q3 V) (fun i _ => J38 V i) j hj W
 have HI := Lib.hid hI
 clear hI
 obtain ⟨S, hS⟩ := V0 (Q3l 32 (Q3 V))
 rw [← hS] at HI ⊢
 clear hS
 go_enter Tryz.func110, Tryz.ntmps110
 go_wp2_with fail
 refine wn2 (c1 := (J0 .i64 16 (fun _ => 0))) (t1 := 124) (c2 := (J0 .i64 16 (fun _ => 0))) (t2 := 124) fun W0 J G D => ?_
 have U := J6 G
 have Y := J6 D
 go_wp2_with fail
 go_loopw [4] (fun ii wr => ∃ (k : Nat), k ≤ 16 ∧ ii = .int .i64 k ∧ Below w.heap.size w wr ∧ Blk wr w.heap.size (J0 .i64 16 (fun _ => 0)) 124 ∧ Blk wr (w.heap.size + 1) (J0 .i64 16 (J4r k (Q5 V) (fun _ => 0))) 124)
  (fun ii _ => (16 - intOf ii).toNat)
 case atStart =>
  refine ⟨0, by omega, rfl, J, G, ?_⟩
  rw [J2q]; exact D
 case round =>
  obtain ⟨k, hk, rfl, J, G, D⟩ := hrel
  by_cases M : k = 16
  ·
   have α := M
   subst M
   rw [J3n] at D
   have c3 := (Q0 D 15).trans (J4 _ _ _ _ (by omega))
   have f3 := V5 D
   have bT : V % 2 ^ 255 < Q7 := Nat.lt_trans (Nat.mod_lt _ (by decide)) (by decide)
   go_upto_region 7 with fail
   have hs := Y5 D 15 (.int .i64 (bits .and .i64 (Q5 V 15) 32767))
   rw [Y1r] at hs
   have hF := And.intro (Z9 J (show w.heap.size ≤ (w.heap.size + 1) by omega) 15 (.int .i64 (bits .and .i64 (Q5 V 15) 32767))) (And.intro (J8 G (show w.heap.size ≠ (w.heap.size + 1) by omega) 15 (.int .i64 (bits .and .i64 (Q5 V 15) 32767))) hs)
   generalize wr.setCell ⟨w.heap.size + 1, 15, none⟩ (.int .i64 (bits .and .i64 (Q5 V 15) 32767)) = Wm at hF ⊢
   clear J G D c3 f3 hs
   obtain ⟨J, G, D⟩ := hF
   have T := J6 G
   have X := J6 D
   have N := Q1c (Q5 (V % 2 ^ 255)) (Z1d _)
   rw [Q7i _ bT] at N
   obtain ⟨R, hR⟩ := V0 (V % 2 ^ 255 % PP)
   rw [← hR] at N
   have HR := Lib.hid hR
   clear hR
   refine Px 2 ?_
   refine XL ?_
   refine Xf ?_ (fun W hW => N W)
   refine Z7 fun W2 hE => ?_
   refine LS ?_ (J1 G hE) (g := w.heap.size) (cells := J0 .i64 16 (Q5 R)) (h1 := (Z0 _ _ _))
   refine J9 ?_
   have hF : Below w.heap.size w (W2.setRow w.heap.size (J0 .i64 16 (Q5 R))) ∧ Blk (W2.setRow w.heap.size (J0 .i64 16 (Q5 R))) w.heap.size (J0 .i64 16 (Q5 R)) 124 ∧ Blk (W2.setRow w.heap.size (J0 .i64 16 (Q5 R))) (w.heap.size + 1) (J0 .i64 16 (Q5 (V % 2 ^ 255))) 124 := ⟨(Z6 (Q9 J hE J.size) (by omega) _), (Y6 (J1 G hE) (J0 .i64 16 (Q5 R))), (J3 (J1 D hE) (by omega) _)⟩
   generalize (W2.setRow w.heap.size (J0 .i64 16 (Q5 R))) = W3 at hF ⊢
   clear J G D
   obtain ⟨J, G, D⟩ := hF
   go_wp2
   refine bodyPost_ret (Y3 rfl rfl G (by kernel_rfl) (by kernel_rfl)) rfl ⟨?_, J⟩
   (rw [← HR.out] <;> rfl)
  have Z : k < 16 := by omega
  have hk3' : (k : Int) < 16 := by omega
  clear M
  have c3 := (Q0 D k).trans (J4 _ _ _ _ Z)
  rw [J4s] at c3
  have f3 := V5 D
  have i0 := fun W => HI.out (2 * k) (by omega) W
  have i1 := fun W => HI.out (2 * k + 1) (by omega) W
  obtain ⟨b0, b1⟩ := J38 V (2 * k)
  obtain ⟨b2, b3⟩ := J38 V (2 * k + 1)
  have ho : bits .or .i64 (Q3 V (2 * k)) (Q3 V (2 * k + 1) * 256) = Q5 V k := Y1p V k
  have w0 : IntKind.i64.wrap (2 * (k : Int)) = 2 * (k : Int) := IntWalk.i64_in _ (by omega)
  have w1 : IntKind.i64.wrap (2 * (k : Int) + 1) = 2 * (k : Int) + 1 := IntWalk.i64_in _ (by omega)
  have e0 : ((2 * k : Nat) : Int) = 2 * (k : Int) := by omega
  have e1 : ((2 * k + 1 : Nat) : Int) = 2 * (k : Int) + 1 := by omega
  rw [e0] at i0
  rw [e1] at i1
  have w2 : IntKind.i64.wrap (Q3 V (2 * k)) = Q3 V (2 * k) := IntWalk.i64_in _ (by omega)
  have w3 : IntKind.i64.wrap (Q3 V (2 * k + 1)) = Q3 V (2 * k + 1) := IntWalk.i64_in _ (by omega)
  have w4 : IntKind.i64.wrap (Q3 V (2 * k + 1) * 2 ^ 8) = Q3 V (2 * k + 1) * 2 ^ 8 := IntWalk.i64_in _ (by omega)
  have w5 : IntKind.i64.wrap (Q3 V (2 * k + 1) * 256) = Q3 V (2 * k + 1) * 2 ^ 8 := IntWalk.i64_in _ (by omega)
  go_wp2
  go_region
  go_wp2
  have hs := Y5 D k (.int .i64 (Q5 V k))
  rw [J2y] at hs
  go_roundw
  case rel =>
   refine ⟨k + 1, by omega, ?_, ?_, ?_, Y9 hs⟩
   ·
    (first | rfl | go_num)
   ·
    exact (Z9 J (by omega) _ _).drew
   exact Y9 (J8 G (by omega) _ _)
  case measure => simp [intOf]; omega
end
end Go.Proofs.YtejkmhgkkibafaaGreatDoor.S8
