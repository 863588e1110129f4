/- Contracts and plain laws that superChecks_holds rests on. Conditions: the variables' cells hold the numbers of the program's text. -/
import Derived.Test.YtejkmhgkkibafaaGreatDoorGc
import Derived.Test.YtejkmhgkkibafaaGreatDoorJ6
import Derived.Test.YtejkmhgkkibafaaGreatDoorJ3
import Derived.Test.YtejkmhgkkibafaaGreatDoorJ8
import Derived.Test.YtejkmhgkkibafaaGreatDoorS8Ea
import Derived.Test.YtejkmhgkkibafaaGreatDoorGa
open Go.RowKit
set_option maxRecDepth 100000
set_option linter.unusedSimpArgs false
set_option linter.unusedVariables false
namespace Go.Proofs.YtejkmhgkkibafaaGreatDoor.S8
section
set_option maxHeartbeats 4000000

def pw (A n : Nat) : Nat := A ^ n % PP
theorem Q5l (A : Nat) : pw A 0 = 1 := by unfold pw; rw [Nat.pow_zero]; rfl
theorem J7h (A n : Nat) : pw A n < Q7 := Z16 _
theorem Q5m (A n K : Nat) (h : n / 2 ^ K % 2 = 0) : pw A (n / 2 ^ (K + 1)) * pw A (n / 2 ^ (K + 1)) % PP = pw A (n / 2 ^ K) := by
  have e : n / 2 ^ K = n / 2 ^ (K + 1) + n / 2 ^ (K + 1) := by rw [Nat.pow_succ, ← Nat.div_div_eq_div_mul]; omega
  unfold pw
  rw [← Nat.mul_mod, ← Nat.pow_add, ← e]
theorem Q2n (A n K : Nat) (h : n / 2 ^ K % 2 = 1) : (pw A (n / 2 ^ (K + 1)) * pw A (n / 2 ^ (K + 1)) % PP) * A % PP = pw A (n / 2 ^ K) := by
  have e : n / 2 ^ K = n / 2 ^ (K + 1) + n / 2 ^ (K + 1) + 1 := by rw [Nat.pow_succ, ← Nat.div_div_eq_div_mul]; omega
  unfold pw
  rw [← Nat.mul_mod, ← Nat.pow_add, Nat.mod_mul_mod, ← Nat.pow_succ, Nat.succ_eq_add_one, ← e]
theorem Q1b (n q r : Nat) (hr : r < 64) : bits .and .u64 (K3 n q / 2 ^ r) 1 = ((n / 2 ^ (64 * q + r) % 2 : Nat) : Int) := by
  obtain ⟨l0, l1⟩ := J0q n q
  obtain ⟨X, hX⟩ := Int.eq_ofNat_of_zero_le l0
  have hX' : X = n / 2 ^ (64 * q) % 18446744073709551616 := by unfold K3 at hX; omega
  rw [hX] at l1 ⊢
  have e : ((X : Int) / 2 ^ r) = ((X / 2 ^ r : Nat) : Int) := by push_cast; rfl
  have hl : X / 2 ^ r ≤ X := Nat.div_le_self _ _
  have e2 : bits .and .u64 (((X / 2 ^ r : Nat) : Int)) ((1 : Nat) : Int) = ((X / 2 ^ r % 2 : Nat) : Int) := by
    rw [bits_and_u64_nat _ _ (by omega) (by omega), Nat.and_one_is_mod]
  rw [e]
  refine Eq.trans e2 ?_
  congr 1
  rw [hX', Nat.pow_add, ← Nat.div_div_eq_div_mul]
  generalize n / 2 ^ (64 * q) = m
  obtain ⟨d, hd⟩ : ∃ d, 64 = r + (1 + d) := ⟨64 - r - 1, by omega⟩
  rw [show (18446744073709551616 : Nat) = 2 ^ r * 2 ^ (1 + d) by rw [← Nat.pow_add, ← hd], Nat.mod_mul_right_div_self, Nat.pow_add, Nat.pow_one, Nat.mod_mul_right_mod]

theorem Q5n (A n : Nat) (hA : A < Q7) (hn : n < Q7) (w : World) (hG : GF w) :
  Calls Tryz.prog 165 #[L4 A, L4 n] w fun e w' => K6 (L4 (pw A n)) w w' e := by
 go_enter Tryz.func165, Tryz.ntmps165
 go_upto_region 1 with fail
 refine wn3 (c1 := (c4 A)) (t1 := 155) (c2 := (c4 n)) (t2 := 152) (c3 := #[.int .u64 0, .int .u64 0, .int .u64 0, .int .u64 0]) (t3 := 155) fun W0 J M D G => ?_
 have κ := J6 M
 have ρ := J6 D
 have σ := J6 G
 have gf := Z4 hG J
 have gm := gf.1
 have gi := gf.2
 refine Px1 1 5 (z := #[.int .u64 0, .int .u64 0, .int .u64 0, .int .u64 0]) (t := 155) ?_
 refine Xv ?_
 refine XN ?_
 intro φ W1 χ hE N
 have ψ := J.size
 refine Lp ?_ N (cells := c4 1)
 intro W2 hO h_
 refine J9 ?_
 replace M := ko M hE hO (by omega)
 replace D := ko D hE hO (by omega)
 replace G := ko G hE hO (by omega)
 replace N := h_
 replace J := bwo J hE hO J.size (by omega)
 clear hO h_
 have μ := J6 N
 go_wp2_with fail
 go_loopw [6] (fun ii wr => ∃ (k R : Nat), k ≤ 256 ∧ ii = .int .i64 ((k : Int) - 1) ∧ R = pw A (n / 2 ^ k) ∧ Below w.heap.size w wr ∧ Blk wr w.heap.size (c4 A) 155 ∧ Blk wr (w.heap.size + 1) (c4 n) 152 ∧ Blk wr (w.heap.size + 2) #[.int .u64 0, .int .u64 0, .int .u64 0, .int .u64 0] 155 ∧ Blk wr φ (c4 R) 155)
  (fun ii _ => (intOf ii + 1).toNat)
 case atStart =>
  refine ⟨256, 1, by omega, rfl, ?_, J, M, D, G, N⟩
  rw [Nat.div_eq_of_lt (show n < 2 ^ 256 from hn), Q5l]
 case round =>
  obtain ⟨k, R, hk, rfl, hR, J, M, D, G, N⟩ := hrel
  have bR : R < Q7 := by rw [hR]; exact J7h _ _
  have HR := Lib.hid hR
  clear hR
  by_cases α : k = 0
  ·
   have Ξ := α
   subst α
   go_upto_region 8 with fail
   have Z := J6 M
   have X := J6 D
   have Y := J6 G
   have V := J6 N
   have gf := Z4 hG J
   have gm := gf.1
   have gi := gf.2
   refine Px 1 ?_
   refine XL ?_
   refine Z7 fun W4 hE => ?_
   refine Lp ?_ (J1 G hE) (cells := c4 R)
   intro W5 hO h_
   refine J9 ?_
   replace M := ko M hE hO (by omega)
   replace D := ko D hE hO (by omega)
   replace G := h_
   replace N := ko N hE hO (by omega)
   replace J := bwo J hE hO J.size (by omega)
   clear hO h_
   go_wp2
   refine bodyPost_ret (Y3 rfl rfl G (by kernel_rfl) (by kernel_rfl)) rfl ⟨?_, J⟩
   rw [HR.out, Nat.pow_zero, Nat.div_one]; rfl
  obtain ⟨q, r, hr, rfl⟩ : ∃ q r, r < 64 ∧ k = 64 * q + r + 1 := ⟨(k - 1) / 64, (k - 1) % 64, by omega, by omega⟩
  have e1 : ((64 * q + r + 1 : Nat) : Int) - 1 = 64 * (q : Int) + (r : Int) := by omega
  rw [e1]
  clear α e1
  have d1 : (64 * (q : Int) + (r : Int)) / 64 = (q : Int) := by omega
  have d2 : (64 * (q : Int) + (r : Int)) % 64 = (r : Int) := by omega
  have Δ : (q : Int) < 4 := by omega
  have Γ : (r : Int) < 64 := by omega
  have ω : (0 : Int) ≤ 64 * (q : Int) + (r : Int) := by omega
  rcases Nat.mod_two_eq_zero_or_one (n / 2 ^ (64 * q + r)) with S | S
  ·
   have HB := Lib.hid S
   go_upto_region 5 with fail
   have Z := J6 M
   have X := J6 D
   have Y := J6 G
   have V := J6 N
   have gf := Z4 hG J
   have gm := gf.1
   have gi := gf.2
   have U := K0 R R bR bR
   obtain ⟨X1, T⟩ := V0 (R * R % PP)
   rw [← T] at U
   have ζ := J0a T
   have δ := Lib.hid T
   clear T
   refine Px 3 ?_
   refine XL ?_
   refine XL ?_
   refine Xf ?_ (fun W hW => U W (Z4 gf hW))
   refine Z7 fun W4 hE => ?_
   refine Lp ?_ (J1 N hE) (cells := c4 X1)
   intro W5 hO h_
   refine J9 ?_
   replace M := ko M hE hO (by omega)
   replace D := ko D hE hO (by omega)
   replace G := ko G hE hO (by omega)
   replace N := h_
   replace J := bwo J hE hO J.size (by omega)
   clear hO h_
   have c3 := (Q0 D q).trans (J3b n q (by omega))
   have γ := Q1b n q r hr
   rw [S] at γ
   clear S
   go_wp2_with fail
   go_roundw
   case rel => exact ⟨64 * q + r, X1, by omega, by go_num, by rw [δ.out, HR.out]; exact Q5m A n _ HB.out, J, M, D, G, N⟩
   case measure => simp [intOf]; omega
  have HB := Lib.hid S
  go_upto_region 5 with fail
  have Z := J6 M
  have X := J6 D
  have Y := J6 G
  have V := J6 N
  have gf := Z4 hG J
  have gm := gf.1
  have gi := gf.2
  have U := K0 R R bR bR
  obtain ⟨X1, T⟩ := V0 (R * R % PP)
  rw [← T] at U
  have ζ := J0a T
  have δ := Lib.hid T
  clear T
  refine Px 3 ?_
  refine XL ?_
  refine XL ?_
  refine Xf ?_ (fun W hW => U W (Z4 gf hW))
  refine Z7 fun W4 hE => ?_
  refine Lp ?_ (J1 N hE) (cells := c4 X1)
  intro W5 hO h_
  refine J9 ?_
  replace M := ko M hE hO (by omega)
  replace D := ko D hE hO (by omega)
  replace G := ko G hE hO (by omega)
  replace N := h_
  replace J := bwo J hE hO J.size (by omega)
  clear hO h_
  have c3 := (Q0 D q).trans (J3b n q (by omega))
  have γ := Q1b n q r hr
  rw [S] at γ
  go_upto_region 7 with fail
  have η := J6 M
  have ξ := J6 D
  have ν := J6 G
  have θ := J6 N
  have gf := Z4 hG J
  have gm := gf.1
  have gi := gf.2
  have ε := K0 X1 A ζ hA
  obtain ⟨X2, β⟩ := V0 (X1 * A % PP)
  rw [← β] at ε
  have Θ := J0a β
  have τ := Lib.hid β
  clear β
  refine Px 3 ?_
  refine XL ?_
  refine XL ?_
  refine Xf ?_ (fun W hW => ε W (Z4 gf hW))
  refine Z7 fun W6 hE => ?_
  refine Lp ?_ (J1 N hE) (cells := c4 X2)
  intro W7 hO h_
  refine J9 ?_
  replace M := ko M hE hO (by omega)
  replace D := ko D hE hO (by omega)
  replace G := ko G hE hO (by omega)
  replace N := h_
  replace J := bwo J hE hO J.size (by omega)
  clear hO h_
  clear S
  go_wp2_with fail
  go_roundw
  case rel => exact ⟨64 * q + r, X2, by omega, by go_num, by rw [τ.out, δ.out, HR.out]; exact Q2n A n _ HB.out, J, M, D, G, N⟩
  case measure => simp [intOf]; omega
theorem J7i (A B : Nat) (hA : A < Q7) (hB : B < Q7) (w : World) (hG : GF w) :
  Calls Tryz.prog 148 #[L4 A, L4 B] w fun e w' => K6 (L4 ((A + (PP - B % PP)) % PP)) w w' e := by
 go_enter Tryz.func148, Tryz.ntmps148
 go_upto_region 1 with fail
 refine wn3 (c1 := (c4 A)) (t1 := 155) (c2 := (c4 B)) (t2 := 155) (c3 := #[.int .u64 0, .int .u64 0, .int .u64 0, .int .u64 0]) (t3 := 155) fun W0 G J M D => ?_
 have U := J6 J
 have V := J6 M
 have X := J6 D
 have gf := Z4 hG G
 have gm := gf.1
 have gi := gf.2
 have S := J8u B hB
 obtain ⟨X1, R⟩ := V0 ((PP - B % PP) % PP)
 rw [← R] at S
 have α := J0a R
 have Z := Lib.hid R
 clear R
 have T := J4n A X1 hA α
 obtain ⟨X2, N⟩ := V0 ((A + X1) % PP)
 rw [← N] at T
 have β := J0a N
 have Y := Lib.hid N
 clear N
 refine Rx 4 ?_
 refine XL ?_
 refine XL ?_
 refine Xf ?_ (fun W hW => S W (Z4 gf hW))
 refine Xf ?_ (fun W hW => T W (Z4 gf hW))
 refine Z7 fun W1 hE => ?_
 refine Lp ?_ (J1 D hE) (cells := c4 X2)
 intro W2 hO h_
 refine LN ?_
 replace J := ko J hE hO (by omega)
 replace M := ko M hE hO (by omega)
 replace D := h_
 replace G := bwo G hE hO G.size (by omega)
 clear hO h_
 go_wp2
 refine bodyPost_ret (Y3 rfl rfl D (by kernel_rfl) (by kernel_rfl)) rfl ⟨?_, G⟩
 rw [Y.out, Z.out, Nat.add_mod_mod]; rfl
theorem Y71 (A : Nat) (hA : A < Q7) (w : World) (hG : GF w) :
  Calls Tryz.prog 134 #[L4 A] w fun e w' => K6 (L4 (pw A (PP - 2))) w w' e := by
 go_enter Tryz.func134, Tryz.ntmps134
 go_upto_region 1 with fail
 refine wn2 (c1 := (c4 A)) (t1 := 155) (c2 := #[.int .u64 0, .int .u64 0, .int .u64 0, .int .u64 0]) (t2 := 155) fun W0 G Y4 D => ?_
 have R := J6 Y4
 have N := J6 D
 have gf := Z4 hG G
 have gm := gf.1
 have gi := gf.2
 have M := Q5n A (PP - 2) hA (by decide)
 obtain ⟨X1, J⟩ := V0 (pw A (PP - 2))
 rw [← J] at M
 have T : X1 < Q7 := by rw [J]; exact J7h _ _
 have S := Lib.hid J
 clear J
 refine Px 3 ?_
 refine XL ?_
 refine Xv ?_
 refine Xf ?_ (fun W hW => M W (Z4 gf hW))
 refine Z7 fun W1 hE => ?_
 refine Lp ?_ (J1 D hE) (cells := c4 X1)
 intro W2 hO h_
 refine J9 ?_
 replace Y4 := ko Y4 hE hO (by omega)
 replace D := h_
 replace G := bwo G hE hO G.size (by omega)
 clear hO h_
 go_wp2
 refine bodyPost_ret (Y3 rfl rfl D (by kernel_rfl) (by kernel_rfl)) rfl ⟨?_, G⟩
 rw [S.out]; rfl
end

section
set_option maxHeartbeats 4000000

def II : Nat := 19681161376707505956807079304988542015446066515923890162744021073123829784752
theorem Y57 : II < Q7 := by decide +kernel
theorem Z18 (A B : Nat) (hA : A < Q7) (hB : B < Q7) (h : ∀ i, i < 4 → K3 A i = K3 B i) : A = B := by
  rw [← J18 A hA, ← J18 B hB, h 0 (by omega), h 1 (by omega), h 2 (by omega), h 3 (by omega)]
theorem Y72 (A B : Nat) (hA : A < Q7) (hB : B < Q7) (w : World) : (Op.equalIn 10000 155 (.agg (c4 A)) (.agg (c4 B))).run Tryz.prog w = .ok (decide (A = B)) w := by
  have h := J29 (P := Tryz.prog) w 9998 155 71 4 .u64 (c4 A) (c4 B) (K3 A) (K3 B) Tryz.underlying155 Tryz.underlying71 (by kernel_rfl) (fun i hi => J3b A i hi) (fun i hi => J3b B i hi)
  rw [h]
  congr 1
  rw [Bool.eq_iff_iff, J4x, decide_eq_true_iff]
  exact ⟨Z18 A B hA hB, fun e i _ => by rw [e]⟩
theorem Z19 (X : Nat) : bits .and .u64 (K3 X 0) 1 = ((X % 2 : Nat) : Int) := by
  have := Q1b X 0 0 (by omega)
  simpa using this

theorem J6l (A B : Nat) (hA : A < Q7) (hB : B < Q7) (w : World) (hG : GF w) :
  Calls Tryz.prog 151 #[L4 A, L4 B] w fun e w' => K6 (.bool (decide (A % PP = B % PP))) w w' e := by
 go_enter Tryz.func151, Tryz.ntmps151
 go_upto_region 1 with fail
 refine wn2 (c1 := (c4 A)) (t1 := 155) (c2 := (c4 B)) (t2 := 155) fun W0 D G J => ?_
 have T := J6 G
 have U := J6 J
 have gf := Z4 hG D
 have gm := gf.1
 have gi := gf.2
 have R := J5v A hA
 obtain ⟨X1, N⟩ := V0 (A % PP)
 rw [← N] at R
 have Y := J0a N
 have X := Lib.hid N
 clear N
 have S := J5v B hB
 obtain ⟨X2, M⟩ := V0 (B % PP)
 rw [← M] at S
 have Z := J0a M
 have V := Lib.hid M
 clear M
 have α := Y72 X1 X2 Y Z
 refine Rx 6 ?_
 refine XL ?_
 refine Xf ?_ (fun W hW => R W (Z4 gf hW))
 refine XL ?_
 refine Xf ?_ (fun W hW => S W (Z4 gf hW))
 ((with_reducible refine J65 (α) ?_ ?_ rfl ?_ ?_ ?_); (focus kernel_rfl); (focus rfl); (focus rfl); (focus rfl); (try simp only [Act.put, mA, mB, mC]))
 refine Xv ?_
 refine Z7 fun W1 hE => ?_
 refine LN ?_
 replace G := J1 G hE
 replace J := J1 J hE
 replace D := Q9 D hE D.size
 go_wp2
 rw [← X.out, ← V.out]
 refine bodyPost_ret (v := .bool (decide (X1 = X2))) (by simp only [results, Tryz.results151]; go_simp) rfl ⟨?_, D⟩
 rfl
theorem Y73 (A : Nat) (hA : A < Q7) (h : A % PP % 2 = 0) (w : World) (hG : GF w) :
  Calls Tryz.prog 137 #[L4 A] w fun e w' => K6 (.bool false) w w' e := by
 go_enter Tryz.func137, Tryz.ntmps137
 go_upto_region 1 with fail
 refine wn1 (c1 := (c4 A)) (t1 := 155) fun W0 D Y4 => ?_
 have M := J6 Y4
 have gf := Z4 hG D
 have gm := gf.1
 have gi := gf.2
 have J := J5v A hA
 obtain ⟨X1, G⟩ := V0 (A % PP)
 rw [← G] at J
 have T := J0a G
 have N := Lib.hid G
 clear G
 have S : ∀ W, (Instr.index 155 (.agg #[.int .u64 (K3 X1 0), .int .u64 (K3 X1 1), .int .u64 (K3 X1 2), .int .u64 (K3 X1 3)]) (.int .i64 0)).run Tryz.prog W = .ok (.int .u64 (K3 X1 0)) W := fun W => J1b W 155 71 4 .u64 .i64 (c4 X1) 0 (K3 X1 0) Tryz.underlying155 Tryz.underlying71 (by kernel_rfl) (by decide) (J3b X1 0 (by decide))
 have R := Z19 X1
 rw [show X1 % 2 = 0 by rw [N.out]; exact h] at R
 refine Px 6 ?_
 refine XL ?_
 refine Xf ?_ (fun W hW => J W (Z4 gf hW))
 refine Xv ?_
 refine Xv ?_
 refine Xv ?_
 refine Xv ?_
 refine Z7 fun W1 hE => ?_
 refine J9 ?_
 replace Y4 := J1 Y4 hE
 replace D := Q9 D hE D.size
 go_wp2
 refine bodyPost_ret (v := .bool false) (by simp only [results, Tryz.results137]; go_simp) rfl ⟨?_, D⟩
 rfl
theorem Y74 (A : Nat) (hA : A < Q7) (h : A % PP % 2 = 1) (w : World) (hG : GF w) :
  Calls Tryz.prog 137 #[L4 A] w fun e w' => K6 (.bool true) w w' e := by
 go_enter Tryz.func137, Tryz.ntmps137
 go_upto_region 1 with fail
 refine wn1 (c1 := (c4 A)) (t1 := 155) fun W0 D Y4 => ?_
 have M := J6 Y4
 have gf := Z4 hG D
 have gm := gf.1
 have gi := gf.2
 have J := J5v A hA
 obtain ⟨X1, G⟩ := V0 (A % PP)
 rw [← G] at J
 have T := J0a G
 have N := Lib.hid G
 clear G
 have S : ∀ W, (Instr.index 155 (.agg #[.int .u64 (K3 X1 0), .int .u64 (K3 X1 1), .int .u64 (K3 X1 2), .int .u64 (K3 X1 3)]) (.int .i64 0)).run Tryz.prog W = .ok (.int .u64 (K3 X1 0)) W := fun W => J1b W 155 71 4 .u64 .i64 (c4 X1) 0 (K3 X1 0) Tryz.underlying155 Tryz.underlying71 (by kernel_rfl) (by decide) (J3b X1 0 (by decide))
 have R := Z19 X1
 rw [show X1 % 2 = 1 by rw [N.out]; exact h] at R
 refine Px 6 ?_
 refine XL ?_
 refine Xf ?_ (fun W hW => J W (Z4 gf hW))
 refine Xv ?_
 refine Xv ?_
 refine Xv ?_
 refine Xv ?_
 refine Z7 fun W1 hE => ?_
 refine J9 ?_
 replace Y4 := J1 Y4 hE
 replace D := Q9 D hE D.size
 go_wp2
 refine bodyPost_ret (v := .bool true) (by simp only [results, Tryz.results137]; go_simp) rfl ⟨?_, D⟩
 rfl
theorem Q98 (A : Nat) (hA : A < Q7) (w : World) (hG : GF w) : Calls Tryz.prog 137 #[L4 A] w fun e w' => K6 (.bool (decide (A % PP % 2 = 1))) w w' e := by
  rcases Nat.mod_two_eq_zero_or_one (A % PP) with h | h
  · rw [h]; exact Y73 A hA h w hG
  rw [h]; exact Y74 A hA h w hG
def v3 (v : Nat) : Nat := v * v % PP * v % PP
def v7 (v : Nat) : Nat := v3 v * v3 v % PP * v % PP
def rtX (u v : Nat) : Nat := u * v3 v % PP * pw (u * v7 v % PP) 7237005577332262213973186563042994240829374041602535252466099000494570602493 % PP
def rtW (u v : Nat) : Nat := v * (rtX u v * rtX u v % PP) % PP
def rtR (u v : Nat) : Nat := if rtW u v = u % PP then rtX u v else if rtW u v = (PP - u % PP) % PP then rtX u v * II % PP else 0
def rtB (u v : Nat) : Bool := decide (rtW u v = u % PP) || decide (rtW u v = (PP - u % PP) % PP)
theorem J9j (u v : Nat) : rtW u v % PP = rtW u v := by unfold rtW; exact Nat.mod_mod _ _
theorem Y16 (A B : Nat) (hA : A < Q7) (hB : B < Q7) (h1 : rtW A B = A % PP) (w : World) (hG : GF w) (hI : GI w) :
  Calls Tryz.prog 147 #[L4 A, L4 B] w fun e w' => K6 (.tuple #[L4 (rtX A B), .bool true]) w w' e := by
 go_enter Tryz.func147, Tryz.ntmps147
 go_upto_region 1 with fail
 refine wn3 (c1 := (c4 A)) (t1 := 155) (c2 := (c4 B)) (t2 := 155) (c3 := #[.int .u64 0, .int .u64 0, .int .u64 0, .int .u64 0]) (t3 := 155) fun W0 D J N G => ?_
 have G1 := J6 J
 have D7 := J6 N
 have D9 := J6 G
 have gf := Z4 hG D
 have gm := gf.1
 have gi : Rd _ 12 imaC := Rd.ext hI D
 have ψ := K0 B B hB hB
 obtain ⟨X1, Y⟩ := V0 (B * B % PP)
 rw [← Y] at ψ
 have G6 := J0a Y
 have Ψ := Lib.hid Y
 clear Y
 have χ := K0 X1 B G6 hB
 obtain ⟨X2, X⟩ := V0 (X1 * B % PP)
 rw [← X] at χ
 have σ := J0a X
 have Θ := Lib.hid X
 clear X
 refine Rx1 5 6 (z := #[.int .u64 0, .int .u64 0, .int .u64 0, .int .u64 0]) (t := 155) ?_
 refine XL ?_
 refine XL ?_
 refine Xf ?_ (fun W hW => ψ W (Z4 gf hW))
 refine XL ?_
 refine Xf ?_ (fun W hW => χ W (Z4 gf hW))
 refine XN ?_
 intro G5 W1 G7 hE M
 have M6 := D.size
 refine Lp ?_ M (cells := c4 X2)
 intro W2 hO h_
 refine LN ?_
 replace J := ko J hE hO (by omega)
 replace N := ko N hE hO (by omega)
 replace G := ko G hE hO (by omega)
 replace M := h_
 replace D := bwo D hE hO D.size (by omega)
 clear hO h_
 go_upto_region 2 with fail
 have G2 := J6 M
 have gf := Z4 hG D
 have gm := gf.1
 have gi : Rd _ 12 imaC := Rd.ext hI D
 have ρ := K0 X2 X2 σ σ
 obtain ⟨X3, δ⟩ := V0 (X2 * X2 % PP)
 rw [← δ] at ρ
 have M0 := J0a δ
 have Γ := Lib.hid δ
 clear δ
 have ξ := K0 X3 B M0 hB
 obtain ⟨X4, Z⟩ := V0 (X3 * B % PP)
 rw [← Z] at ξ
 have J0 := J0a Z
 have D2 := Lib.hid Z
 clear Z
 refine Rx1 5 7 (z := #[.int .u64 0, .int .u64 0, .int .u64 0, .int .u64 0]) (t := 155) ?_
 refine XL ?_
 refine XL ?_
 refine Xf ?_ (fun W hW => ρ W (Z4 gf hW))
 refine XL ?_
 refine Xf ?_ (fun W hW => ξ W (Z4 gf hW))
 refine XN ?_
 intro M1 W3 J2 hE S
 have M5 := D.size
 refine Lp ?_ S (cells := c4 X4)
 intro W4 hO h_
 refine LN ?_
 replace J := ko J hE hO (by omega)
 replace N := ko N hE hO (by omega)
 replace G := ko G hE hO (by omega)
 replace M := ko M hE hO (by omega)
 replace S := h_
 replace D := bwo D hE hO D.size (by omega)
 clear hO h_
 go_upto_region 3 with fail
 have D5 := J6 S
 have gf := Z4 hG D
 have gm := gf.1
 have gi : Rd _ 12 imaC := Rd.ext hI D
 have ν := K0 A X2 hA σ
 obtain ⟨X5, η⟩ := V0 (A * X2 % PP)
 rw [← η] at ν
 have G8 := J0a η
 have D1 := Lib.hid η
 clear η
 have τ := K0 A X4 hA J0
 obtain ⟨X6, ε⟩ := V0 (A * X4 % PP)
 rw [← ε] at τ
 have G4 := J0a ε
 have Δ := Lib.hid ε
 clear ε
 have φ := Q5n X6 7237005577332262213973186563042994240829374041602535252466099000494570602493 G4 (by decide)
 obtain ⟨X7, κ⟩ := V0 (pw X6 7237005577332262213973186563042994240829374041602535252466099000494570602493)
 rw [← κ] at φ
 have J5 : X7 < Q7 := by rw [κ]; exact J7h _ _
 have D0 := Lib.hid κ
 clear κ
 have μ := K0 X5 X7 G8 J5
 obtain ⟨X8, β⟩ := V0 (X5 * X7 % PP)
 rw [← β] at μ
 have Ξ := J0a β
 have Ω := Lib.hid β
 clear β
 refine Rx1 9 8 (z := #[.int .u64 0, .int .u64 0, .int .u64 0, .int .u64 0]) (t := 155) ?_
 refine XL ?_
 refine XL ?_
 refine Xf ?_ (fun W hW => ν W (Z4 gf hW))
 refine XL ?_
 refine XL ?_
 refine Xf ?_ (fun W hW => τ W (Z4 gf hW))
 refine Xv ?_
 refine Xf ?_ (fun W hW => φ W (Z4 gf hW))
 refine Xf ?_ (fun W hW => μ W (Z4 gf hW))
 refine XN ?_
 intro J4 W5 J8 hE R
 have M3 := D.size
 refine Lp ?_ R (cells := c4 X8)
 intro W6 hO h_
 refine LN ?_
 replace J := ko J hE hO (by omega)
 replace N := ko N hE hO (by omega)
 replace G := ko G hE hO (by omega)
 replace M := ko M hE hO (by omega)
 replace S := ko S hE hO (by omega)
 replace R := h_
 replace D := bwo D hE hO D.size (by omega)
 clear hO h_
 go_upto_region 4 with fail
 have G0 := J6 R
 have gf := Z4 hG D
 have gm := gf.1
 have gi : Rd _ 12 imaC := Rd.ext hI D
 have ω := K0 X8 X8 Ξ Ξ
 obtain ⟨X9, α⟩ := V0 (X8 * X8 % PP)
 rw [← α] at ω
 have G9 := J0a α
 have G3 := Lib.hid α
 clear α
 have γ := K0 B X9 hB G9
 obtain ⟨ζ, V⟩ := V0 (B * X9 % PP)
 rw [← V] at γ
 have D4 := J0a V
 have D3 := Lib.hid V
 clear V
 refine Rx1 5 9 (z := #[.int .u64 0, .int .u64 0, .int .u64 0, .int .u64 0]) (t := 155) ?_
 refine XL ?_
 refine XL ?_
 refine XL ?_
 refine Xf ?_ (fun W hW => ω W (Z4 gf hW))
 refine Xf ?_ (fun W hW => γ W (Z4 gf hW))
 refine XN ?_
 intro J7 W7 M2 hE U
 have M4 := D.size
 refine Lp ?_ U (cells := c4 ζ)
 intro W8 hO h_
 refine LN ?_
 replace J := ko J hE hO (by omega)
 replace N := ko N hE hO (by omega)
 replace G := ko G hE hO (by omega)
 replace M := ko M hE hO (by omega)
 replace S := ko S hE hO (by omega)
 replace R := ko R hE hO (by omega)
 replace U := h_
 replace D := bwo D hE hO D.size (by omega)
 clear hO h_
 go_upto_region 5 with fail
 have D6 := J6 U
 have gf := Z4 hG D
 have gm := gf.1
 have gi : Rd _ 12 imaC := Rd.ext hI D
 have hw : ζ = rtW A B := by rw [D3.out, G3.out, Ω.out, D0.out, Δ.out, D1.out, D2.out, Γ.out, Θ.out, Ψ.out]; rfl
 have θ := J6l ζ A D4 hA
 rw [hw, J9j, decide_eq_true h1, ← hw] at θ
 have HW := Lib.hid hw
 clear hw
 refine Px 4 ?_
 refine XL ?_
 refine XL ?_
 refine Xf ?_ (fun W hW => θ W (Z4 gf hW))
 refine Xv ?_
 refine Z7 fun W9 hE => ?_
 refine J9 ?_
 replace J := J1 J hE
 replace N := J1 N hE
 replace G := J1 G hE
 replace M := J1 M hE
 replace S := J1 S hE
 replace R := J1 R hE
 replace U := J1 U hE
 replace D := Q9 D hE D.size
 go_upto_region 6 with fail
 have D8 := J6 U
 have gf := Z4 hG D
 have gm := gf.1
 have gi : Rd _ 12 imaC := Rd.ext hI D
 refine Px 1 ?_
 refine XL ?_
 refine Z7 fun T hE => ?_
 refine LS ?_ (J1 G hE) (g := (w.heap.size + 2)) (cells := c4 X8)
 refine Lv ?_
 refine J9 ?_
 have hF : Below w.heap.size w (T.setRow (w.heap.size + 2) (c4 X8)) ∧ Blk (T.setRow (w.heap.size + 2) (c4 X8)) w.heap.size (c4 A) 155 ∧ Blk (T.setRow (w.heap.size + 2) (c4 X8)) (w.heap.size + 1) (c4 B) 155 ∧ Blk (T.setRow (w.heap.size + 2) (c4 X8)) (w.heap.size + 2) (c4 X8) 155 ∧ Blk (T.setRow (w.heap.size + 2) (c4 X8)) G5 (c4 X2) 155 ∧ Blk (T.setRow (w.heap.size + 2) (c4 X8)) M1 (c4 X4) 155 ∧ Blk (T.setRow (w.heap.size + 2) (c4 X8)) J4 (c4 X8) 155 ∧ Blk (T.setRow (w.heap.size + 2) (c4 X8)) J7 (c4 ζ) 155 := ⟨(Z6 (Q9 D hE D.size) (by omega) _), (J3 (J1 J hE) (by omega) _), (J3 (J1 N hE) (by omega) _), (Y6 (J1 G hE) (c4 X8)), (J3 (J1 M hE) (by omega) _), (J3 (J1 S hE) (by omega) _), (J3 (J1 R hE) (by omega) _), (J3 (J1 U hE) (by omega) _)⟩
 generalize (T.setRow (w.heap.size + 2) (c4 X8)) = W11 at hF ⊢
 clear D J N G M S R U
 obtain ⟨D, J, N, G, M, S, R, U⟩ := hF
 go_wp2
 refine bodyPost_ret (J08 rfl rfl rfl G (by kernel_rfl) (by kernel_rfl)) rfl ⟨?_, D⟩
 rw [Ω.out, D0.out, Δ.out, D1.out, D2.out, Γ.out, Θ.out, Ψ.out]; rfl
theorem Y17 (A B : Nat) (hA : A < Q7) (hB : B < Q7) (h1 : ¬ rtW A B = A % PP) (h2 : rtW A B = (PP - A % PP) % PP) (w : World) (hG : GF w) (hI : GI w) :
  Calls Tryz.prog 147 #[L4 A, L4 B] w fun e w' => K6 (.tuple #[L4 (rtX A B * II % PP), .bool true]) w w' e := by
 go_enter Tryz.func147, Tryz.ntmps147
 go_upto_region 1 with fail
 refine wn3 (c1 := (c4 A)) (t1 := 155) (c2 := (c4 B)) (t2 := 155) (c3 := #[.int .u64 0, .int .u64 0, .int .u64 0, .int .u64 0]) (t3 := 155) fun W0 D J N G => ?_
 have J4 := J6 J
 have G8 := J6 N
 have J0 := J6 G
 have gf := Z4 hG D
 have gm := gf.1
 have gi : Rd _ 12 imaC := Rd.ext hI D
 have D0 := K0 B B hB hB
 obtain ⟨X1, γ⟩ := V0 (B * B % PP)
 rw [← γ] at D0
 have M1 := J0a γ
 have D5 := Lib.hid γ
 clear γ
 have Ω := K0 X1 B M1 hB
 obtain ⟨X2, β⟩ := V0 (X1 * B % PP)
 rw [← β] at Ω
 have Δ := J0a β
 have D4 := Lib.hid β
 clear β
 refine Rx1 5 6 (z := #[.int .u64 0, .int .u64 0, .int .u64 0, .int .u64 0]) (t := 155) ?_
 refine XL ?_
 refine XL ?_
 refine Xf ?_ (fun W hW => D0 W (Z4 gf hW))
 refine XL ?_
 refine Xf ?_ (fun W hW => Ω W (Z4 gf hW))
 refine XN ?_
 intro M0 W1 M2 hE M
 have N8 := D.size
 refine Lp ?_ M (cells := c4 X2)
 intro W2 hO h_
 refine LN ?_
 replace J := ko J hE hO (by omega)
 replace N := ko N hE hO (by omega)
 replace G := ko G hE hO (by omega)
 replace M := h_
 replace D := bwo D hE hO D.size (by omega)
 clear hO h_
 go_upto_region 2 with fail
 have J5 := J6 M
 have gf := Z4 hG D
 have gm := gf.1
 have gi : Rd _ 12 imaC := Rd.ext hI D
 have Γ := K0 X2 X2 Δ Δ
 obtain ⟨X3, κ⟩ := V0 (X2 * X2 % PP)
 rw [← κ] at Γ
 have N1 := J0a κ
 have D2 := Lib.hid κ
 clear κ
 have ω := K0 X3 B N1 hB
 obtain ⟨X4, δ⟩ := V0 (X3 * B % PP)
 rw [← δ] at ω
 have M5 := J0a δ
 have G0 := Lib.hid δ
 clear δ
 refine Rx1 5 7 (z := #[.int .u64 0, .int .u64 0, .int .u64 0, .int .u64 0]) (t := 155) ?_
 refine XL ?_
 refine XL ?_
 refine Xf ?_ (fun W hW => Γ W (Z4 gf hW))
 refine XL ?_
 refine Xf ?_ (fun W hW => ω W (Z4 gf hW))
 refine XN ?_
 intro N2 W3 M6 hE S
 have N6 := D.size
 refine Lp ?_ S (cells := c4 X4)
 intro W4 hO h_
 refine LN ?_
 replace J := ko J hE hO (by omega)
 replace N := ko N hE hO (by omega)
 replace G := ko G hE hO (by omega)
 replace M := ko M hE hO (by omega)
 replace S := h_
 replace D := bwo D hE hO D.size (by omega)
 clear hO h_
 go_upto_region 3 with fail
 have G6 := J6 S
 have gf := Z4 hG D
 have gm := gf.1
 have gi : Rd _ 12 imaC := Rd.ext hI D
 have ψ := K0 A X2 hA Δ
 obtain ⟨X5, ν⟩ := V0 (A * X2 % PP)
 rw [← ν] at ψ
 have M3 := J0a ν
 have D9 := Lib.hid ν
 clear ν
 have Ξ := K0 A X4 hA M5
 obtain ⟨X6, μ⟩ := V0 (A * X4 % PP)
 rw [← μ] at Ξ
 have J8 := J0a μ
 have D3 := Lib.hid μ
 clear μ
 have Ψ := Q5n X6 7237005577332262213973186563042994240829374041602535252466099000494570602493 J8 (by decide)
 obtain ⟨X7, τ⟩ := V0 (pw X6 7237005577332262213973186563042994240829374041602535252466099000494570602493)
 rw [← τ] at Ψ
 have M8 : X7 < Q7 := by rw [τ]; exact J7h _ _
 have D7 := Lib.hid τ
 clear τ
 have φ := K0 X5 X7 M3 M8
 obtain ⟨X8, η⟩ := V0 (X5 * X7 % PP)
 rw [← η] at φ
 have χ := J0a η
 have D6 := Lib.hid η
 clear η
 refine Rx1 9 8 (z := #[.int .u64 0, .int .u64 0, .int .u64 0, .int .u64 0]) (t := 155) ?_
 refine XL ?_
 refine XL ?_
 refine Xf ?_ (fun W hW => ψ W (Z4 gf hW))
 refine XL ?_
 refine XL ?_
 refine Xf ?_ (fun W hW => Ξ W (Z4 gf hW))
 refine Xv ?_
 refine Xf ?_ (fun W hW => Ψ W (Z4 gf hW))
 refine Xf ?_ (fun W hW => φ W (Z4 gf hW))
 refine XN ?_
 intro M7 W5 N0 hE R
 have N4 := D.size
 refine Lp ?_ R (cells := c4 X8)
 intro W6 hO h_
 refine LN ?_
 replace J := ko J hE hO (by omega)
 replace N := ko N hE hO (by omega)
 replace G := ko G hE hO (by omega)
 replace M := ko M hE hO (by omega)
 replace S := ko S hE hO (by omega)
 replace R := h_
 replace D := bwo D hE hO D.size (by omega)
 clear hO h_
 go_upto_region 4 with fail
 have J2 := J6 R
 have gf := Z4 hG D
 have gm := gf.1
 have gi : Rd _ 12 imaC := Rd.ext hI D
 have D1 := K0 X8 X8 χ χ
 obtain ⟨X9, ε⟩ := V0 (X8 * X8 % PP)
 rw [← ε] at D1
 have M4 := J0a ε
 have J7 := Lib.hid ε
 clear ε
 have θ := K0 B X9 hB M4
 obtain ⟨α, Z⟩ := V0 (B * X9 % PP)
 rw [← Z] at θ
 have Θ := J0a Z
 have G2 := Lib.hid Z
 clear Z
 refine Rx1 5 9 (z := #[.int .u64 0, .int .u64 0, .int .u64 0, .int .u64 0]) (t := 155) ?_
 refine XL ?_
 refine XL ?_
 refine XL ?_
 refine Xf ?_ (fun W hW => D1 W (Z4 gf hW))
 refine Xf ?_ (fun W hW => θ W (Z4 gf hW))
 refine XN ?_
 intro M9 W7 N3 hE U
 have N5 := D.size
 refine Lp ?_ U (cells := c4 α)
 intro W8 hO h_
 refine LN ?_
 replace J := ko J hE hO (by omega)
 replace N := ko N hE hO (by omega)
 replace G := ko G hE hO (by omega)
 replace M := ko M hE hO (by omega)
 replace S := ko S hE hO (by omega)
 replace R := ko R hE hO (by omega)
 replace U := h_
 replace D := bwo D hE hO D.size (by omega)
 clear hO h_
 go_upto_region 5 with fail
 have G7 := J6 U
 have gf := Z4 hG D
 have gm := gf.1
 have gi : Rd _ 12 imaC := Rd.ext hI D
 have hw : α = rtW A B := by rw [G2.out, J7.out, D6.out, D7.out, D3.out, D9.out, G0.out, D2.out, D4.out, D5.out]; rfl
 have ρ := J6l α A Θ hA
 rw [hw, J9j, decide_eq_false h1, ← hw] at ρ
 have HW := Lib.hid hw
 clear hw
 refine Px 4 ?_
 refine XL ?_
 refine XL ?_
 refine Xf ?_ (fun W hW => ρ W (Z4 gf hW))
 refine Xv ?_
 refine Z7 fun W9 hE => ?_
 refine J9 ?_
 replace J := J1 J hE
 replace N := J1 N hE
 replace G := J1 G hE
 replace M := J1 M hE
 replace S := J1 S hE
 replace R := J1 R hE
 replace U := J1 U hE
 replace D := Q9 D hE D.size
 go_upto_region 7 with fail
 have G9 := J6 U
 have gf := Z4 hG D
 have gm := gf.1
 have gi : Rd _ 12 imaC := Rd.ext hI D
 have σ := J8u A hA
 obtain ⟨D8, Y⟩ := V0 ((PP - A % PP) % PP)
 rw [← Y] at σ
 have G4 := J0a Y
 have G1 := Lib.hid Y
 clear Y
 have ξ := J6l α D8 Θ G4
 have e2 : D8 = (PP - A % PP) % PP := G1.out
 rw [HW.out, J9j, e2, Nat.mod_mod, decide_eq_true h2, ← HW.out, ← e2] at ξ
 clear e2
 refine Rx 5 ?_
 refine XL ?_
 refine XL ?_
 refine Xf ?_ (fun W hW => σ W (Z4 gf hW))
 refine Xf ?_ (fun W hW => ξ W (Z4 gf hW))
 refine Xv ?_
 refine Z7 fun N9 hE => ?_
 refine LN ?_
 replace J := J1 J hE
 replace N := J1 N hE
 replace G := J1 G hE
 replace M := J1 M hE
 replace S := J1 S hE
 replace R := J1 R hE
 replace U := J1 U hE
 replace D := Q9 D hE D.size
 go_upto_region 8 with fail
 have G3 := J6 U
 have gf := Z4 hG D
 have gm := gf.1
 have gi : Rd _ 12 imaC := Rd.ext hI D
 have ζ := K0 X8 II χ Y57
 obtain ⟨T, X⟩ := V0 (X8 * II % PP)
 rw [← X] at ζ
 have N7 := J0a X
 have G5 := Lib.hid X
 clear X
 refine Px 3 ?_
 refine XL ?_
 refine XL ?_
 refine Xf ?_ (fun W hW => ζ W (Z4 gf hW))
 refine Z7 fun V hE => ?_
 refine LS ?_ (J1 G hE) (g := (w.heap.size + 2)) (cells := c4 T)
 refine Lv ?_
 refine J9 ?_
 have hF : Below w.heap.size w (V.setRow (w.heap.size + 2) (c4 T)) ∧ Blk (V.setRow (w.heap.size + 2) (c4 T)) w.heap.size (c4 A) 155 ∧ Blk (V.setRow (w.heap.size + 2) (c4 T)) (w.heap.size + 1) (c4 B) 155 ∧ Blk (V.setRow (w.heap.size + 2) (c4 T)) (w.heap.size + 2) (c4 T) 155 ∧ Blk (V.setRow (w.heap.size + 2) (c4 T)) M0 (c4 X2) 155 ∧ Blk (V.setRow (w.heap.size + 2) (c4 T)) N2 (c4 X4) 155 ∧ Blk (V.setRow (w.heap.size + 2) (c4 T)) M7 (c4 X8) 155 ∧ Blk (V.setRow (w.heap.size + 2) (c4 T)) M9 (c4 α) 155 := ⟨(Z6 (Q9 D hE D.size) (by omega) _), (J3 (J1 J hE) (by omega) _), (J3 (J1 N hE) (by omega) _), (Y6 (J1 G hE) (c4 T)), (J3 (J1 M hE) (by omega) _), (J3 (J1 S hE) (by omega) _), (J3 (J1 R hE) (by omega) _), (J3 (J1 U hE) (by omega) _)⟩
 generalize (V.setRow (w.heap.size + 2) (c4 T)) = W12 at hF ⊢
 clear D J N G M S R U
 obtain ⟨D, J, N, G, M, S, R, U⟩ := hF
 go_wp2
 refine bodyPost_ret (J08 rfl rfl rfl G (by kernel_rfl) (by kernel_rfl)) rfl ⟨?_, D⟩
 rw [G5.out, D6.out, D7.out, D3.out, D9.out, G0.out, D2.out, D4.out, D5.out]; rfl
theorem Y18 (A B : Nat) (hA : A < Q7) (hB : B < Q7) (h1 : ¬ rtW A B = A % PP) (h2 : ¬ rtW A B = (PP - A % PP) % PP) (w : World) (hG : GF w) (hI : GI w) :
  Calls Tryz.prog 147 #[L4 A, L4 B] w fun e w' => K6 (.tuple #[L4 0, .bool false]) w w' e := by
 go_enter Tryz.func147, Tryz.ntmps147
 go_upto_region 1 with fail
 refine wn3 (c1 := (c4 A)) (t1 := 155) (c2 := (c4 B)) (t2 := 155) (c3 := #[.int .u64 0, .int .u64 0, .int .u64 0, .int .u64 0]) (t3 := 155) fun W0 D J N G => ?_
 have G0 := J6 J
 have D6 := J6 N
 have D8 := J6 G
 have gf := Z4 hG D
 have gm := gf.1
 have gi : Rd _ 12 imaC := Rd.ext hI D
 have Θ := K0 B B hB hB
 obtain ⟨X1, α⟩ := V0 (B * B % PP)
 rw [← α] at Θ
 have G7 := J0a α
 have M2 := Lib.hid α
 clear α
 have Δ := K0 X1 B G7 hB
 obtain ⟨X2, Z⟩ := V0 (X1 * B % PP)
 rw [← Z] at Δ
 have χ := J0a Z
 have G8 := Lib.hid Z
 clear Z
 refine Rx1 5 6 (z := #[.int .u64 0, .int .u64 0, .int .u64 0, .int .u64 0]) (t := 155) ?_
 refine XL ?_
 refine XL ?_
 refine Xf ?_ (fun W hW => Θ W (Z4 gf hW))
 refine XL ?_
 refine Xf ?_ (fun W hW => Δ W (Z4 gf hW))
 refine XN ?_
 intro G5 W1 G9 hE M
 have N3 := D.size
 refine Lp ?_ M (cells := c4 X2)
 intro W2 hO h_
 refine LN ?_
 replace J := ko J hE hO (by omega)
 replace N := ko N hE hO (by omega)
 replace G := ko G hE hO (by omega)
 replace M := h_
 replace D := bwo D hE hO D.size (by omega)
 clear hO h_
 go_upto_region 2 with fail
 have G1 := J6 M
 have gf := Z4 hG D
 have gm := gf.1
 have gi : Rd _ 12 imaC := Rd.ext hI D
 have φ := K0 X2 X2 χ χ
 obtain ⟨X3, ζ⟩ := V0 (X2 * X2 % PP)
 rw [← ζ] at φ
 have M4 := J0a ζ
 have G4 := Lib.hid ζ
 clear ζ
 have τ := K0 X3 B M4 hB
 obtain ⟨X4, β⟩ := V0 (X3 * B % PP)
 rw [← β] at τ
 have J4 := J0a β
 have M9 := Lib.hid β
 clear β
 refine Rx1 5 7 (z := #[.int .u64 0, .int .u64 0, .int .u64 0, .int .u64 0]) (t := 155) ?_
 refine XL ?_
 refine XL ?_
 refine Xf ?_ (fun W hW => φ W (Z4 gf hW))
 refine XL ?_
 refine Xf ?_ (fun W hW => τ W (Z4 gf hW))
 refine XN ?_
 intro M6 W3 J5 hE S
 have N2 := D.size
 refine Lp ?_ S (cells := c4 X4)
 intro W4 hO h_
 refine LN ?_
 replace J := ko J hE hO (by omega)
 replace N := ko N hE hO (by omega)
 replace G := ko G hE hO (by omega)
 replace M := ko M hE hO (by omega)
 replace S := h_
 replace D := bwo D hE hO D.size (by omega)
 clear hO h_
 go_upto_region 3 with fail
 have D4 := J6 S
 have gf := Z4 hG D
 have gm := gf.1
 have gi : Rd _ 12 imaC := Rd.ext hI D
 have σ := K0 A X2 hA χ
 obtain ⟨X5, θ⟩ := V0 (A * X2 % PP)
 rw [← θ] at σ
 have J0 := J0a θ
 have M7 := Lib.hid θ
 clear θ
 have ω := K0 A X4 hA J4
 obtain ⟨X6, η⟩ := V0 (A * X4 % PP)
 rw [← η] at ω
 have G3 := J0a η
 have G6 := Lib.hid η
 clear η
 have Γ := Q5n X6 7237005577332262213973186563042994240829374041602535252466099000494570602493 G3 (by decide)
 obtain ⟨X7, ξ⟩ := V0 (pw X6 7237005577332262213973186563042994240829374041602535252466099000494570602493)
 rw [← ξ] at Γ
 have J8 : X7 < Q7 := by rw [ξ]; exact J7h _ _
 have M5 := Lib.hid ξ
 clear ξ
 have ρ := K0 X5 X7 J0 J8
 obtain ⟨X8, δ⟩ := V0 (X5 * X7 % PP)
 rw [← δ] at ρ
 have Ψ := J0a δ
 have M3 := Lib.hid δ
 clear δ
 refine Rx1 9 8 (z := #[.int .u64 0, .int .u64 0, .int .u64 0, .int .u64 0]) (t := 155) ?_
 refine XL ?_
 refine XL ?_
 refine Xf ?_ (fun W hW => σ W (Z4 gf hW))
 refine XL ?_
 refine XL ?_
 refine Xf ?_ (fun W hW => ω W (Z4 gf hW))
 refine Xv ?_
 refine Xf ?_ (fun W hW => Γ W (Z4 gf hW))
 refine Xf ?_ (fun W hW => ρ W (Z4 gf hW))
 refine XN ?_
 intro J7 W5 M1 hE R
 have N0 := D.size
 refine Lp ?_ R (cells := c4 X8)
 intro W6 hO h_
 refine LN ?_
 replace J := ko J hE hO (by omega)
 replace N := ko N hE hO (by omega)
 replace G := ko G hE hO (by omega)
 replace M := ko M hE hO (by omega)
 replace S := ko S hE hO (by omega)
 replace R := h_
 replace D := bwo D hE hO D.size (by omega)
 clear hO h_
 go_upto_region 4 with fail
 have D9 := J6 R
 have gf := Z4 hG D
 have gm := gf.1
 have gi : Rd _ 12 imaC := Rd.ext hI D
 have Ξ := K0 X8 X8 Ψ Ψ
 obtain ⟨X9, γ⟩ := V0 (X8 * X8 % PP)
 rw [← γ] at Ξ
 have J2 := J0a γ
 have G2 := Lib.hid γ
 clear γ
 have ε := K0 B X9 hB J2
 obtain ⟨Y, X⟩ := V0 (B * X9 % PP)
 rw [← X] at ε
 have ψ := J0a X
 have D1 := Lib.hid X
 clear X
 refine Rx1 5 9 (z := #[.int .u64 0, .int .u64 0, .int .u64 0, .int .u64 0]) (t := 155) ?_
 refine XL ?_
 refine XL ?_
 refine XL ?_
 refine Xf ?_ (fun W hW => Ξ W (Z4 gf hW))
 refine Xf ?_ (fun W hW => ε W (Z4 gf hW))
 refine XN ?_
 intro M0 W7 M8 hE T
 have N1 := D.size
 refine Lp ?_ T (cells := c4 Y)
 intro W8 hO h_
 refine LN ?_
 replace J := ko J hE hO (by omega)
 replace N := ko N hE hO (by omega)
 replace G := ko G hE hO (by omega)
 replace M := ko M hE hO (by omega)
 replace S := ko S hE hO (by omega)
 replace R := ko R hE hO (by omega)
 replace T := h_
 replace D := bwo D hE hO D.size (by omega)
 clear hO h_
 go_upto_region 5 with fail
 have D5 := J6 T
 have gf := Z4 hG D
 have gm := gf.1
 have gi : Rd _ 12 imaC := Rd.ext hI D
 have hw : Y = rtW A B := by rw [D1.out, G2.out, M3.out, M5.out, G6.out, M7.out, M9.out, G4.out, G8.out, M2.out]; rfl
 have μ := J6l Y A ψ hA
 rw [hw, J9j, decide_eq_false h1, ← hw] at μ
 have HW := Lib.hid hw
 clear hw
 refine Px 4 ?_
 refine XL ?_
 refine XL ?_
 refine Xf ?_ (fun W hW => μ W (Z4 gf hW))
 refine Xv ?_
 refine Z7 fun W9 hE => ?_
 refine J9 ?_
 replace J := J1 J hE
 replace N := J1 N hE
 replace G := J1 G hE
 replace M := J1 M hE
 replace S := J1 S hE
 replace R := J1 R hE
 replace T := J1 T hE
 replace D := Q9 D hE D.size
 go_upto_region 7 with fail
 have D7 := J6 T
 have gf := Z4 hG D
 have gm := gf.1
 have gi : Rd _ 12 imaC := Rd.ext hI D
 have ν := J8u A hA
 obtain ⟨Ω, V⟩ := V0 ((PP - A % PP) % PP)
 rw [← V] at ν
 have D3 := J0a V
 have D0 := Lib.hid V
 clear V
 have κ := J6l Y Ω ψ D3
 have e2 : Ω = (PP - A % PP) % PP := D0.out
 rw [HW.out, J9j, e2, Nat.mod_mod, decide_eq_false h2, ← HW.out, ← e2] at κ
 clear e2
 refine Rx 5 ?_
 refine XL ?_
 refine XL ?_
 refine Xf ?_ (fun W hW => ν W (Z4 gf hW))
 refine Xf ?_ (fun W hW => κ W (Z4 gf hW))
 refine Xv ?_
 refine Z7 fun N4 hE => ?_
 refine LN ?_
 replace J := J1 J hE
 replace N := J1 N hE
 replace G := J1 G hE
 replace M := J1 M hE
 replace S := J1 S hE
 replace R := J1 R hE
 replace T := J1 T hE
 replace D := Q9 D hE D.size
 go_upto_region 9 with fail
 have D2 := J6 T
 have gf := Z4 hG D
 have gm := gf.1
 have gi : Rd _ 12 imaC := Rd.ext hI D
 refine Px 1 ?_
 refine Xv ?_
 refine Z7 fun U hE => ?_
 refine LS ?_ (J1 G hE) (g := (w.heap.size + 2)) (cells := c4 0)
 refine Lv ?_
 refine J9 ?_
 have hF : Below w.heap.size w (U.setRow (w.heap.size + 2) (c4 0)) ∧ Blk (U.setRow (w.heap.size + 2) (c4 0)) w.heap.size (c4 A) 155 ∧ Blk (U.setRow (w.heap.size + 2) (c4 0)) (w.heap.size + 1) (c4 B) 155 ∧ Blk (U.setRow (w.heap.size + 2) (c4 0)) (w.heap.size + 2) (c4 0) 155 ∧ Blk (U.setRow (w.heap.size + 2) (c4 0)) G5 (c4 X2) 155 ∧ Blk (U.setRow (w.heap.size + 2) (c4 0)) M6 (c4 X4) 155 ∧ Blk (U.setRow (w.heap.size + 2) (c4 0)) J7 (c4 X8) 155 ∧ Blk (U.setRow (w.heap.size + 2) (c4 0)) M0 (c4 Y) 155 := ⟨(Z6 (Q9 D hE D.size) (by omega) _), (J3 (J1 J hE) (by omega) _), (J3 (J1 N hE) (by omega) _), (Y6 (J1 G hE) (c4 0)), (J3 (J1 M hE) (by omega) _), (J3 (J1 S hE) (by omega) _), (J3 (J1 R hE) (by omega) _), (J3 (J1 T hE) (by omega) _)⟩
 generalize (U.setRow (w.heap.size + 2) (c4 0)) = W12 at hF ⊢
 clear D J N G M S R T
 obtain ⟨D, J, N, G, M, S, R, T⟩ := hF
 go_wp2
 refine bodyPost_ret (J08 rfl rfl rfl G (by kernel_rfl) (by kernel_rfl)) rfl ⟨?_, D⟩
 rfl
theorem Z1b (A B : Nat) (hA : A < Q7) (hB : B < Q7) (w : World) (hG : GF w) (hI : GI w) : Calls Tryz.prog 147 #[L4 A, L4 B] w fun e w' => K6 (.tuple #[L4 (rtR A B), .bool (rtB A B)]) w w' e := by
  unfold rtR rtB
  by_cases h1 : rtW A B = A % PP
  · rw [if_pos h1, decide_eq_true h1, Bool.true_or]; exact Y16 A B hA hB h1 w hG hI
  rw [if_neg h1, decide_eq_false h1, Bool.false_or]
  by_cases h2 : rtW A B = (PP - A % PP) % PP
  · rw [if_pos h2, decide_eq_true h2]; exact Y17 A B hA hB h1 h2 w hG hI
  rw [if_neg h2, decide_eq_false h2]; exact Y18 A B hA hB h1 h2 w hG hI
end

section
set_option maxHeartbeats 4000000

theorem Q2o (V : Nat) : c4 V = J0 .u64 4 (K3 V) := rfl
theorem Z3g (N k q r : Nat) (hr : r < 8) (hk : k = 8 * q + r) : (J0 .u8 32 fun j => if j < k then Q3 N j else 0).setIfInBounds k (.int .u8 (K3 N q / 2 ^ (8 * r) % 256)) = J0 .u8 32 fun j => if j < k + 1 then Q3 N j else 0 := by
  subst hk
  rw [V6]
  apply K8
  intro j hj
  have D := Z0h N (8 * q + r)
  rw [show (8 * q + r) / 8 = q by omega, show (8 * q + r) % 8 = r by omega] at D
  unfold upd
  rw [D]
  dsimp only
  by_cases h1 : j = 8 * q + r
  · subst h1; rw [if_pos (by omega), if_pos (by omega)]
  rw [if_neg h1]
  by_cases h2 : j < 8 * q + r
  · rw [if_pos h2, if_pos (by omega)]
  rw [if_neg h2, if_neg (by omega)]
theorem J9k (bs : Nat → Int) (h : ∀ j, J64 (bs j)) (n q r : Nat) (hr : r < 8) :
    (J0 .u64 n (K3 (J0v bs (8 * q + r)))).setIfInBounds q (.int .u64 (bits .or .u64 (K3 (J0v bs (8 * q + r)) q) (IntKind.wrap .u64 (bs (8 * q + r) * 2 ^ (8 * r))))) = J0 .u64 n (K3 (J0v bs (8 * q + r + 1))) := by
  rw [Z0k bs h q r hr, V6]
  apply K8
  intro j _
  by_cases hj : j = q
  · subst hj; rw [J1z]
  rw [J0i _ _ _ _ hj, J75 bs h (8 * q + r) j (by omega)]
theorem Y19 (V : Nat) : bits .and .u64 (K3 V 3) 9223372036854775807 = K3 (V % 2 ^ 255) 3 := by
  obtain ⟨l0, l1⟩ := J0q V 3
  obtain ⟨X, hX⟩ := Int.eq_ofNat_of_zero_le l0
  have e2 : bits .and .u64 ((X : Nat) : Int) ((9223372036854775807 : Nat) : Int) = ((X % 9223372036854775808 : Nat) : Int) := by
    rw [bits_and_u64_nat _ _ (by omega) (by omega), show (9223372036854775807 : Nat) = 2 ^ 63 - 1 by decide, Nat.and_two_pow_sub_one_eq_mod]
  rw [hX]
  refine Eq.trans e2 ?_
  unfold K3 at hX ⊢
  simp only [Nat.reduceMul, Nat.reducePow] at *
  omega
theorem Z6n (V : Nat) : (c4 V).setIfInBounds 3 (.int .u64 (bits .and .u64 (K3 V 3) 9223372036854775807)) = c4 (V % 2 ^ 255) := by
  rw [Y19, Q2o, Q2o, V6]
  apply K8
  intro j hj
  by_cases h3 : j = 3
  · subst h3; rw [J1z]
  rw [J0i _ _ _ _ h3]
  have : j = 0 ∨ j = 1 ∨ j = 2 := by omega
  unfold K3
  rcases this with rfl | rfl | rfl <;> simp only [Nat.reduceMul, Nat.reducePow] <;> omega

theorem Q2p (A : Nat) (hA : A < Q7) (w : World) (hG : GF w) :
  Calls Tryz.prog 135 #[L4 A] w fun e w' => K6 (.agg (J0 .u8 32 (Q3 (A % PP)))) w w' e := by
 go_enter Tryz.func135, Tryz.ntmps135
 go_upto_region 1 with fail
 refine wn2 (c1 := (c4 A)) (t1 := 155) (c2 := (J0 .u8 32 (fun _ => 0))) (t2 := 23) fun W0 G Y4 D => ?_
 have β := J6 Y4
 have V := J6 D
 have gf := Z4 hG G
 have gm := gf.1
 have gi := gf.2
 have R := J5v A hA
 obtain ⟨X1, N⟩ := V0 (A % PP)
 rw [← N] at R
 have θ := J0a N
 have γ := Lib.hid N
 clear N
 refine Px 2 ?_
 refine XL ?_
 refine Xf ?_ (fun W hW => R W (Z4 gf hW))
 refine Z7 fun W1 hE => ?_
 refine LS ?_ (J1 Y4 hE) (g := w.heap.size) (cells := c4 X1)
 refine J9 ?_
 have hF : Below w.heap.size w (W1.setRow w.heap.size (c4 X1)) ∧ Blk (W1.setRow w.heap.size (c4 X1)) w.heap.size (c4 X1) 155 ∧ Blk (W1.setRow w.heap.size (c4 X1)) (w.heap.size + 1) (J0 .u8 32 (fun _ => 0)) 23 := ⟨(Z6 (Q9 G hE G.size) (by omega) _), (Y6 (J1 Y4 hE) (c4 X1)), (J3 (J1 D hE) (by omega) _)⟩
 generalize (W1.setRow w.heap.size (c4 X1)) = W2 at hF ⊢
 clear G Y4 D
 obtain ⟨G, Y4, D⟩ := hF
 go_upto_region 2 with fail
 have Z := J6 Y4
 have T := J6 D
 have gf := Z4 hG G
 have gm := gf.1
 have gi := gf.2
 refine Px1 0 3 (z := J0 .u8 32 (fun _ => 0)) (t := 23) ?_
 refine XN ?_
 intro S W3 δ hE J
 have ε := G.size
 refine J9 ?_
 have hF : Below w.heap.size w W3 ∧ Blk W3 w.heap.size (c4 X1) 155 ∧ Blk W3 (w.heap.size + 1) (J0 .u8 32 (fun _ => 0)) 23 ∧ Blk W3 S (J0 .u8 32 (fun _ => 0)) 23 := ⟨(Q9 G hE G.size), (J1 Y4 hE), (J1 D hE), J⟩
 clear G Y4 D J
 obtain ⟨G, Y4, D, J⟩ := hF
 have U := J6 J
 go_wp2_with fail
 go_loopw [7] (fun ii wr => ∃ (k : Nat), k ≤ 32 ∧ ii = .int .i64 k ∧ Below w.heap.size w wr ∧ Blk wr w.heap.size (c4 X1) 155 ∧ Blk wr (w.heap.size + 1) (J0 .u8 32 (fun _ => 0)) 23 ∧ Blk wr S (J0 .u8 32 (fun j => if j < k then Q3 X1 j else 0)) 23)
  (fun ii _ => (32 - intOf ii).toNat)
 case atStart =>
  exact ⟨0, by omega, rfl, G, Y4, D, J⟩
 case round =>
  obtain ⟨k, hk, rfl, G, Y4, D, J⟩ := hrel
  by_cases M : k = 32
  ·
   have κ := M
   subst M
   go_upto_region 8 with fail
   have α := J6 Y4
   have X := J6 D
   have Y := J6 J
   have gf := Z4 hG G
   have gm := gf.1
   have gi := gf.2
   refine Px 1 ?_
   refine XL ?_
   refine Z7 fun W5 hE => ?_
   refine Lp ?_ (J1 D hE) (cells := J0 .u8 32 (fun j => if j < 32 then Q3 X1 j else 0)) (h1 := (Z0 _ _ _))
   intro W6 hO h_
   refine J9 ?_
   replace Y4 := ko Y4 hE hO (by omega)
   replace D := h_
   replace J := ko J hE hO (by omega)
   replace G := bwo G hE hO G.size (by omega)
   clear hO h_
   go_wp2
   refine bodyPost_ret (Y3 rfl rfl D (by kernel_rfl) (by kernel_rfl)) rfl ⟨?_, G⟩
   rw [K8 _ _ _ (Q3 X1) (fun i hi => if_pos hi), γ.out]
  obtain ⟨q, r, hr, rfl⟩ : ∃ q r, r < 8 ∧ k = 8 * q + r := ⟨k / 8, k % 8, by omega, by omega⟩
  have d1 : (8 * (q : Int) + (r : Int)) / 8 = (q : Int) := by omega
  have d2 : (8 * (q : Int) + (r : Int)) % 8 = (r : Int) := by omega
  have η : (q : Int) < 4 := by omega
  have ζ : (r : Int) < 8 := by omega
  clear M
  have c0 := (Q0 Y4 q).trans (J3b X1 q (by omega))
  have c3 := Q0 J (8 * q + r)
  rw [J4 _ _ _ _ (by omega)] at c3
  have f3 := V5 J
  go_wp2
  have hs := Y5 J (8 * q + r) (.int .u8 (K3 X1 q / 2 ^ (8 * r) % 256))
  rw [Z3g X1 (8 * q + r) q r hr rfl] at hs
  go_roundw
  case rel => exact ⟨8 * q + r + 1, by omega, by go_num, Z9 G (by omega) _ _, J8 Y4 (by omega) _ _, J8 D (by omega) _ _, hs⟩
  case measure => simp [intOf]; omega
theorem Y58 (bs : Nat → Int) (hbs : ∀ j, J64 (bs j)) (w : World) (hG : GF w) :
  Calls Tryz.prog 146 #[.agg (J0 .u8 32 bs)] w fun e w' => K6 (L4 (J0v bs 32 % 2 ^ 255 % PP)) w w' e := by
 go_enter Tryz.func146, Tryz.ntmps146
 go_upto_region 2 with fail
 refine wn3 (c1 := (J0 .u8 32 bs)) (t1 := 23) (c2 := #[.int .u64 0, .int .u64 0, .int .u64 0, .int .u64 0]) (t2 := 155) (c3 := #[.int .u64 0, .int .u64 0, .int .u64 0, .int .u64 0]) (t3 := 155) fun W0 J Y4 G D => ?_
 have γ := J6 Y4
 have U := J6 G
 have Z := J6 D
 have gf := Z4 hG J
 have gm := gf.1
 have gi := gf.2
 refine Px 2 ?_
 refine XL ?_
 refine Xv ?_
 refine Z7 fun W1 hE => ?_
 refine J9 ?_
 replace Y4 := J1 Y4 hE
 replace G := J1 G hE
 replace D := J1 D hE
 replace J := Q9 J hE J.size
 have β := J6 Y4
 have T := J6 G
 have X := J6 D
 have HB := Lib.hid hbs
 clear hbs
 go_wp2_with fail
 go_loopw [7] (fun ii wr => ∃ (k : Nat), k ≤ 32 ∧ ii = .int .i64 k ∧ Below w.heap.size w wr ∧ Blk wr w.heap.size (J0 .u8 32 bs) 23 ∧ Blk wr (w.heap.size + 1) #[.int .u64 0, .int .u64 0, .int .u64 0, .int .u64 0] 155 ∧ Blk wr (w.heap.size + 2) (J0 .u64 4 (K3 (J0v bs k))) 155)
  (fun ii _ => (32 - intOf ii).toNat)
 case atStart =>
  refine ⟨0, by omega, rfl, ?_⟩
  rw [show J0 .u64 4 (K3 (J0v bs 0)) = #[.int .u64 0, .int .u64 0, .int .u64 0, .int .u64 0] by kernel_rfl]
  exact ⟨J, Y4, G, D⟩
 case round =>
  obtain ⟨k, hk, rfl, J, Y4, G, D⟩ := hrel
  by_cases M : k = 32
  ·
   have ν := M
   subst M
   obtain ⟨V, hV⟩ := V0 (J0v bs 32)
   rw [← hV, ← Q2o] at D
   have HV := Lib.hid hV
   clear hV
   have c3 := (Q0 D 3).trans (J3b V 3 (by omega))
   have f3 := V5 D
   go_upto_region 8 with fail
   have hs := Y5 D 3 (.int .u64 (bits .and .u64 (K3 V 3) 9223372036854775807))
   rw [Z6n] at hs
   have hF := And.intro (Z9 J (show w.heap.size ≤ (w.heap.size + 2) by omega) 3 (.int .u64 (bits .and .u64 (K3 V 3) 9223372036854775807))) (And.intro (J8 Y4 (show w.heap.size ≠ (w.heap.size + 2) by omega) 3 (.int .u64 (bits .and .u64 (K3 V 3) 9223372036854775807))) (And.intro (J8 G (show w.heap.size + 1 ≠ (w.heap.size + 2) by omega) 3 (.int .u64 (bits .and .u64 (K3 V 3) 9223372036854775807))) hs))
   generalize wr.setCell ⟨w.heap.size + 1 + 1, 3, none⟩ (.int .u64 (bits .and .u64 (K3 V 3) 9223372036854775807)) = Wm at hF ⊢
   clear J Y4 G D c3 f3 hs
   obtain ⟨J, Y4, G, D⟩ := hF
   have α := J6 Y4
   have S := J6 G
   have Y := J6 D
   have gf := Z4 hG J
   have gm := gf.1
   have gi := gf.2
   have R := J5v (V % 2 ^ 255) (Nat.lt_trans (Nat.mod_lt _ (by decide)) (by decide))
   obtain ⟨X1, N⟩ := V0 ((V % 2 ^ 255) % PP)
   rw [← N] at R
   have μ := J0a N
   have δ := Lib.hid N
   clear N
   refine Px 2 ?_
   refine XL ?_
   refine Xf ?_ (fun W hW => R W (Z4 gf hW))
   refine Z7 fun W3 hE => ?_
   refine Lp ?_ (J1 G hE) (cells := c4 X1)
   intro W4 hO h_
   refine J9 ?_
   replace Y4 := ko Y4 hE hO (by omega)
   replace G := h_
   replace D := ko D hE hO (by omega)
   replace J := bwo J hE hO J.size (by omega)
   clear hO h_
   go_wp2
   refine bodyPost_ret (Y3 rfl rfl G (by kernel_rfl) (by kernel_rfl)) rfl ⟨?_, J⟩
   rw [δ.out, HV.out]; rfl
  obtain ⟨q, r, hr, rfl⟩ : ∃ q r, r < 8 ∧ k = 8 * q + r := ⟨k / 8, k % 8, by omega, by omega⟩
  have ε : ∀ W, (Instr.index 23 (.agg (J0 .u8 32 bs)) (.int .i64 (8 * (q : Int) + (r : Int)))).run Tryz.prog W = .ok (.int .u8 (bs (8 * q + r))) W := fun W => J1b W 23 5 32 .u8 .i64 _ (8 * q + r) _ Tryz.underlying23 Tryz.underlying5 (by kernel_rfl) (by omega) (J4 _ _ _ _ (by omega))
  have d1 : IntKind.i64.wrap ((8 * (q : Int) + (r : Int)).tdiv 8) = (q : Int) := by rw [Int.tdiv_eq_ediv_of_nonneg (by omega), IntWalk.i64_in _ (by omega)]; omega
  have d2 : (8 * (q : Int) + (r : Int)).tmod 8 = (r : Int) := by rw [Int.tmod_eq_emod_of_nonneg (by omega)]; omega
  have d3 : IntKind.i64.wrap (8 * (r : Int)) = 8 * (r : Int) := IntWalk.i64_in _ (by omega)
  have d4 : IntKind.u64.wrap (bs (8 * q + r)) = bs (8 * q + r) := by have := HB.out (8 * q + r); unfold J64 at this; rw [IntKind.wrap_u64]; omega
  have ζ : (0 : Int) ≤ (q : Int) := by omega
  have θ : (q : Int) < 4 := by omega
  have κ : (0 : Int) ≤ (r : Int) := by omega
  have η : (r : Int) < 8 := by omega
  clear M
  have c3 := (Q0 D q).trans (J4 _ _ _ _ (by omega))
  have f3 := V5 D
  have hs := fun v => Y5 D q v
  go_wp2
  go_region
  go_wp2
  go_roundw
  case rel =>
   refine ⟨8 * q + r + 1, by omega, by go_num, (Z9 J (by omega) _ _).drew, Y9 (J8 Y4 (by omega) _ _), Y9 (J8 G (by omega) _ _), ?_⟩
   have := hs (.int .u64 (bits .or .u64 (K3 (J0v bs (8 * q + r)) q) (IntKind.wrap .u64 (bs (8 * q + r) * 2 ^ (8 * r)))))
   rw [J9k bs HB.out 4 q r hr] at this
   exact Y9 this
  case measure => simp [intOf]; omega
end
end Go.Proofs.YtejkmhgkkibafaaGreatDoor.S8
