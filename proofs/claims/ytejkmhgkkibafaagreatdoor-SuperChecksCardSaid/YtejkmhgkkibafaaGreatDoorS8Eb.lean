/- Contracts and plain laws that superChecks_holds rests on. Conditions: the variables' cells hold the numbers of the program's text. -/
import Derived.Test.YtejkmhgkkibafaaGreatDoorGc
import Derived.Test.YtejkmhgkkibafaaGreatDoorJ6
import Derived.Test.YtejkmhgkkibafaaGreatDoorJ3
import Derived.Test.YtejkmhgkkibafaaGreatDoorJ8
import Derived.Test.YtejkmhgkkibafaaGreatDoorJ9
import Derived.Test.YtejkmhgkkibafaaGreatDoorS8Ea
import Derived.Test.YtejkmhgkkibafaaGreatDoorGa
open Go.RowKit
set_option maxRecDepth 100000
set_option linter.unusedSimpArgs false
set_option linter.unusedVariables false
namespace Go.Proofs.YtejkmhgkkibafaaGreatDoor.S8
section
set_option maxHeartbeats 4000000
attribute [local irreducible] wpList U0 wpX

def pw (A n : Nat) : Nat := A ^ n % PP
theorem Q5a (A : Nat) : pw A 0 = 1 := by unfold pw; rw [Nat.pow_zero]; rfl
theorem Q2d (A n : Nat) : pw A n < Q5 := K9 _
theorem Q5b (A n K : Nat) (h : n / 2 ^ K % 2 = 0) : pw A (n / 2 ^ (K + 1)) * pw A (n / 2 ^ (K + 1)) % PP = pw A (n / 2 ^ K) := by
 have e : n / 2 ^ K = n / 2 ^ (K + 1) + n / 2 ^ (K + 1) := by rw [Nat.pow_succ, ← Nat.div_div_eq_div_mul]; omega
 unfold pw
 rw [← Nat.mul_mod, ← Nat.pow_add, ← e]
theorem Q2e (A n K : Nat) (h : n / 2 ^ K % 2 = 1) : (pw A (n / 2 ^ (K + 1)) * pw A (n / 2 ^ (K + 1)) % PP) * A % PP = pw A (n / 2 ^ K) := by
 have e : n / 2 ^ K = n / 2 ^ (K + 1) + n / 2 ^ (K + 1) + 1 := by rw [Nat.pow_succ, ← Nat.div_div_eq_div_mul]; omega
 unfold pw
 rw [← Nat.mul_mod, ← Nat.pow_add, Nat.mod_mul_mod, ← Nat.pow_succ, Nat.succ_eq_add_one, ← e]
theorem Q10 (n q r : Nat) (hr : r < 64) : bits .and .u64 (K3 n q / 2 ^ r) 1 = ((n / 2 ^ (64 * q + r) % 2 : Nat) : Int) := by
 obtain ⟨l0, l1⟩ := J0j n q
 obtain ⟨X, hX⟩ := Int.eq_ofNat_of_zero_le l0
 have hX' : X = n / 2 ^ (64 * q) % 18446744073709551616 := by unfold K3 at hX; omega
 rw [hX] at l1 ⊢
 have e : ((X : Int) / 2 ^ r) = ((X / 2 ^ r : Nat) : Int) := by push_cast; rfl
 have hl : X / 2 ^ r ≤ X := Nat.div_le_self _ _
 have e2 : bits .and .u64 (((X / 2 ^ r : Nat) : Int)) ((1 : Nat) : Int) = ((X / 2 ^ r % 2 : Nat) : Int) := by
  rw [bits_and_u64_nat _ _ (by omega) (by omega), Nat.and_one_is_mod]
 rw [e]
 refine Eq.trans e2 ?_
 congr 1
 rw [hX', Nat.pow_add, ← Nat.div_div_eq_div_mul]
 generalize n / 2 ^ (64 * q) = m
 obtain ⟨d, hd⟩ : ∃ d, 64 = r + (1 + d) := ⟨64 - r - 1, by omega⟩
 rw [show (18446744073709551616 : Nat) = 2 ^ r * 2 ^ (1 + d) by rw [← Nat.pow_add, ← hd], Nat.mod_mul_right_div_self, Nat.pow_add, Nat.pow_one, Nat.mod_mul_right_mod]

theorem Z68 (A n : Nat) (hA : A < Q5) (hn : n < Q5) (w : World) (hG : GF w) :
  Calls Tryz.prog 165 #[L4 A, L4 n] w fun e w' => K7 (L4 (pw A n)) w w' e := by
 have hS := SH.nil [] w
 go_enter Tryz.func165, Tryz.ntmps165
 go_upto_region 0 with fail
 refine RL hS ?_
 clear hS
 refine MN (z := c4 A) (t := 155) ?_
 intro X5
 refine MN (z := c4 n) (t := 152) ?_
 intro X
 refine MN (z := c4 0) (t := 155) ?_
 intro V
 refine MZ fun W hS => ?_
 go_upto_region 1 with fail
 refine RL hS ?_
 clear hS
 refine MW ?_ (v := .agg (c4 1)) (hv := by intro W; kernel_rfl)
 refine MN (z := c4 0) (t := 155) ?_
 intro Y
 refine MR 0 ?_ 
 refine MZ fun W hS => ?_
 go_wp2_with fail
 go_loopw [6] (fun ii wr => ∃ (k : Nat) (R : Nat), (k ≤ 256) ∧ (RowKit.Hid (R = pw A (n / 2 ^ k))) ∧ (ii = .int .i64 ((k : Int) - 1)) ∧ SH [] w wr [.b Y (c4 R) 155, .b V (c4 0) 155, .b X (c4 n) 152, .b X5 (c4 A) 155])
  (fun ii _ => (intOf ii + 1).toNat)
 case atStart => exact ⟨256, 1, Nat.le_refl _, Lib.hid (by rw [Nat.div_eq_of_lt (show n < 2 ^ 256 from hn), Q5a]), rfl, hS⟩
 clear hS
 case round =>
  obtain ⟨k, R, hk, hR, rfl, hS⟩ := hrel
  have bR : R < Q5 := by rw [hR.out]; exact Q2d _ _
  by_cases N : k = 0
  ·
   subst N
   go_upto_region 3 with fail
   refine RL hS ?_
   clear hS
   refine MV ?_
   refine MW ?_ (v := .bool false) (hv := by intro W; go_simp; first | done | omega)
   refine MZ fun W hS => ?_
   go_upto_region 8 with fail
   refine RL hS ?_
   clear hS
   refine ML 0 ?_
   refine MR 1 ?_ 
   refine MZ fun W hS => ?_
   go_wp2
   exact bodyPost_ret (Z6 rfl rfl (hS.blk (i := 1) rfl) (by kernel_rfl) (by kernel_rfl)) rfl ⟨by rw [hR.out, Nat.pow_zero, Nat.div_one]; rfl, hS.ext⟩
  obtain ⟨q, r, hr, rfl⟩ : ∃ q r, r < 64 ∧ k = 64 * q + r + 1 := ⟨(k - 1) / 64, (k - 1) % 64, by omega, by omega⟩
  rw [show ((64 * q + r + 1 : Nat) : Int) - 1 = 64 * (q : Int) + (r : Int) by omega]
  have d1 : (64 * (q : Int) + (r : Int)) / 64 = (q : Int) := by omega
  have d2 : (64 * (q : Int) + (r : Int)) % 64 = (r : Int) := by omega
  have α : (q : Int) < 4 := by omega
  have Z : (r : Int) < 64 := by omega
  have γ : (0 : Int) ≤ 64 * (q : Int) + (r : Int) := by omega
  go_upto_region 3 with fail
  refine RL hS ?_
  clear hS
  refine MV ?_
  refine MW ?_ (v := .bool true) (hv := by intro W; go_simp; first | done | omega)
  refine MZ fun W hS => ?_
  go_upto_region 5 with fail
  refine RL hS ?_
  clear hS
  refine ML 0 ?_
  refine ML 0 ?_
  obtain ⟨U1, S⟩ := V3 (R * R % PP)
  have G := Lib.hid S
  clear S
  have U : U1 < Q5 := by rw [G.out]; exact K9 _
  refine MC (v := .agg (c4 U1)) (fun W hS => (by rw [G.out]; exact J06 R R bR bR W (V6 hG hS.ext))) ?_
  refine MR 0 ?_ 
  refine MZ fun W hS => ?_
  rcases Nat.mod_two_eq_zero_or_one (n / 2 ^ (64 * q + r)) with D | D
  ·
   have c3 := (J7 (hS.blk (i := 2) rfl) q).trans (J3h n q (by omega))
   have HB := Lib.hid D
   have J := Q10 n q r hr
   rw [D] at J
   go_wp2
   go_roundw
   case rel => exact ⟨(64 * q + r), U1, by omega, Lib.hid (by rw [G.out, hR.out]; exact Q5b A n _ HB.out), by go_num, hS⟩
   case measure => simp [intOf]; omega
  have c3 := (J7 (hS.blk (i := 2) rfl) q).trans (J3h n q (by omega))
  have HB := Lib.hid D
  have J := Q10 n q r hr
  rw [D] at J
  go_upto_region 7 with fail
  refine RL hS ?_
  clear hS
  refine ML 0 ?_
  refine ML 3 ?_
  obtain ⟨U2, T⟩ := V3 (U1 * A % PP)
  have M := Lib.hid T
  clear T
  have β : U2 < Q5 := by rw [M.out]; exact K9 _
  refine MC (v := .agg (c4 U2)) (fun W hS => (by rw [M.out]; exact J06 U1 A U hA W (V6 hG hS.ext))) ?_
  refine MR 0 ?_ 
  refine MZ fun W hS => ?_
  go_wp2
  go_roundw
  case rel => exact ⟨(64 * q + r), U2, by omega, Lib.hid (by rw [M.out, G.out, hR.out]; exact Q2e A n _ HB.out), by go_num, hS⟩
  case measure => simp [intOf]; omega
theorem J7a (A B : Nat) (hA : A < Q5) (hB : B < Q5) (w : World) (hG : GF w) :
  Calls Tryz.prog 148 #[L4 A, L4 B] w fun e w' => K7 (L4 ((A + (PP - B % PP)) % PP)) w w' e := by
 have hS := SH.nil [] w
 go_enter Tryz.func148, Tryz.ntmps148
 go_upto_region 0 with fail
 refine RL hS ?_
 clear hS
 refine MN (z := c4 A) (t := 155) ?_
 intro X5
 refine MN (z := c4 B) (t := 155) ?_
 intro S
 refine MN (z := c4 0) (t := 155) ?_
 intro T
 refine MZ fun W hS => ?_
 go_upto_region 1 with fail
 refine RX 4 hS ?_
 clear hS
 refine ML 2 ?_
 refine ML 1 ?_
 obtain ⟨U1, M⟩ := V3 ((PP - B % PP) % PP)
 have D := Lib.hid M
 clear M
 have N : U1 < Q5 := by rw [D.out]; exact K9 _
 refine MC (v := .agg (c4 U1)) (fun W hS => (by rw [D.out]; exact J8k B hB W (V6 hG hS.ext))) ?_
 obtain ⟨U2, J⟩ := V3 ((A + U1) % PP)
 have G := Lib.hid J
 clear J
 have R : U2 < Q5 := by rw [G.out]; exact K9 _
 refine MC (v := .agg (c4 U2)) (fun W hS => (by rw [G.out]; exact J4d A U1 hA N W (V6 hG hS.ext))) ?_
 refine MZt ?_
 refine MR 0 ?_ 
 refine MZn fun W hS => ?_
 go_wp2
 exact bodyPost_ret (Z6 rfl rfl (hS.blk (i := 0) rfl) (by kernel_rfl) (by kernel_rfl)) rfl ⟨by rw [G.out, D.out, Nat.add_mod_mod]; rfl, hS.ext⟩
theorem Y6h (A : Nat) (hA : A < Q5) (w : World) (hG : GF w) :
  Calls Tryz.prog 134 #[L4 A] w fun e w' => K7 (L4 (pw A (PP - 2))) w w' e := by
 have hS := SH.nil [] w
 go_enter Tryz.func134, Tryz.ntmps134
 go_upto_region 0 with fail
 refine RL hS ?_
 clear hS
 refine MN (z := c4 A) (t := 155) ?_
 intro N
 refine MN (z := c4 0) (t := 155) ?_
 intro M
 refine MZ fun W hS => ?_
 go_upto_region 1 with fail
 refine RL hS ?_
 clear hS
 refine ML 1 ?_
 refine MW ?_ (v := .agg (c4 (PP - 2))) (hv := by intro W; kernel_rfl)
 obtain ⟨U1, G⟩ := V3 (pw A (PP - 2))
 have D := Lib.hid G
 clear G
 have J : U1 < Q5 := by rw [D.out]; exact Q2d _ _
 refine MC (v := .agg (c4 U1)) (fun W hS => (by rw [D.out]; exact Z68 A (PP - 2) hA (by decide) W (V6 hG hS.ext))) ?_
 refine MR 0 ?_ 
 refine MZ fun W hS => ?_
 go_wp2
 exact bodyPost_ret (Z6 rfl rfl (hS.blk (i := 0) rfl) (by kernel_rfl) (by kernel_rfl)) rfl ⟨by rw [D.out]; rfl, hS.ext⟩
end

section
set_option maxHeartbeats 4000000

def II : Nat := 19681161376707505956807079304988542015446066515923890162744021073123829784752
theorem Y4n : II < Q5 := by decide +kernel
theorem Z0v (A B : Nat) (hA : A < Q5) (hB : B < Q5) (h : ∀ i, i < 4 → K3 A i = K3 B i) : A = B := by
 rw [← J12 A hA, ← J12 B hB, h 0 (by omega), h 1 (by omega), h 2 (by omega), h 3 (by omega)]
theorem Y6i (A B : Nat) (hA : A < Q5) (hB : B < Q5) (w : World) : (Op.equalIn 10000 155 (.agg (c4 A)) (.agg (c4 B))).run Tryz.prog w = .ok (decide (A = B)) w := by
 have h := J22 (P := Tryz.prog) w 9998 155 71 4 .u64 (c4 A) (c4 B) (K3 A) (K3 B) Tryz.underlying155 Tryz.underlying71 (by kernel_rfl) (fun i hi => J3h A i hi) (fun i hi => J3h B i hi)
 rw [h]
 congr 1
 rw [Bool.eq_iff_iff, J4n, decide_eq_true_iff]
 exact ⟨Z0v A B hA hB, fun e i _ => by rw [e]⟩
theorem Z0w (X : Nat) : bits .and .u64 (K3 X 0) 1 = ((X % 2 : Nat) : Int) := by
 have := Q10 X 0 0 (by omega)
 simpa using this

theorem J7w (A B : Nat) (hA : A < Q5) (hB : B < Q5) (w : World) (hG : GF w) :
  Calls Tryz.prog 151 #[L4 A, L4 B] w fun e w' => K7 (.bool (decide (A % PP = B % PP))) w w' e := by
 have hS := SH.nil [] w
 go_enter Tryz.func151, Tryz.ntmps151
 go_upto_region 0 with fail
 refine RL hS ?_
 clear hS
 refine MN (z := c4 A) (t := 155) ?_
 intro X5
 refine MN (z := c4 B) (t := 155) ?_
 intro S
 refine MW ?_ (v := .bool false)
 refine MZ fun W hS => ?_
 go_upto_region 1 with fail
 refine RS hS ?_
 clear hS
 refine ML 1 ?_
 obtain ⟨U1, M⟩ := V3 (A % PP)
 have D := Lib.hid M
 clear M
 have R : U1 < Q5 := by rw [D.out]; exact K9 _
 refine MC (v := .agg (c4 U1)) (fun W hS => (by rw [D.out]; exact J5l A hA W (V6 hG hS.ext))) ?_
 refine ML 0 ?_
 obtain ⟨U2, J⟩ := V3 (B % PP)
 have G := Lib.hid J
 clear J
 have N : U2 < Q5 := by rw [G.out]; exact K9 _
 refine MC (v := .agg (c4 U2)) (fun W hS => (by rw [G.out]; exact J5l B hB W (V6 hG hS.ext))) ?_
 refine MW ?_ (v := .bool (decide (U1 = U2))) (hv := fun _ => J0t ((fun w => Y6i U1 U2 R N w) _) (by kernel_rfl) rfl rfl rfl)
 refine MW ?_ (v := .bool (decide (U1 = U2)))
 refine MZx fun W hS => ?_
 go_wp2
 exact bodyPost_ret (v := .bool (decide (U1 = U2))) (by simp only [results, Tryz.results151]; go_simp) rfl ⟨by rw [D.out, G.out], hS.ext⟩
theorem Z0x {W : World} {o : Oper} {a : Act} {x y : Operand} {X i : Nat} (hi : i < 4) (ho : o.op = .index 155 x y) (hx : a.eval x = .agg (c4 X)) (hy : a.eval y = .int .i64 (i : Int)) : (execOp a.eval o).run Tryz.prog W = .ok (.value (.int .u64 (K3 X i))) W := by
 have h := J1n W 155 71 4 .u64 .i64 (c4 X) i (K3 X i) Tryz.underlying155 Tryz.underlying71 (by kernel_rfl) (by omega) (J3h X i hi)
 simp [execOp, ho, hx, hy, Sem.run_bind, h]
theorem Q8x (A : Nat) (hA : A < Q5) (w : World) (hG : GF w) :
  Calls Tryz.prog 137 #[L4 A] w fun e w' => K7 (.bool (decide (A % PP % 2 = 1))) w w' e := by
 have hS := SH.nil [] w
 go_enter Tryz.func137, Tryz.ntmps137
 go_upto_region 0 with fail
 refine RL hS ?_
 clear hS
 refine MN (z := c4 A) (t := 155) ?_
 intro N
 refine MW ?_ (v := .bool false)
 refine MZ fun W hS => ?_
 by_cases ho : A % PP % 2 = 1
 ·
  go_upto_region 1 with fail
  refine RL hS ?_
  clear hS
  refine ML 0 ?_
  obtain ⟨U1, G⟩ := V3 (A % PP)
  have D := Lib.hid G
  clear G
  have M : U1 < Q5 := by rw [D.out]; exact K9 _
  refine MC (v := .agg (c4 U1)) (fun W hS => (by rw [D.out]; exact J5l A hA W (V6 hG hS.ext))) ?_
  have J := Lib.hid (show U1 % 2 = 1 by rw [D.out]; omega)
  refine MW ?_ (v := .int .u64 (K3 U1 0)) (hv := by intro W; exact Z0x (i := 0) (by decide) rfl rfl rfl)
  refine MW ?_ (v := .int .u64 ((U1 % 2 : Nat) : Int)) (hv := by intro W; rw [← Z0w]; first | rfl | (go_simp; done) | (go_simp; rfl))
  refine MW ?_ (v := .bool true) (hv := by intro W; have h_ := J.out; go_simp <;> omega)
  refine MW ?_ (v := .bool true)
  refine MZ fun W hS => ?_
  go_wp2
  exact bodyPost_ret (v := .bool true) (by simp only [results, Tryz.results137]; go_simp) rfl ⟨by rw [decide_eq_true ho], hS.ext⟩
 go_upto_region 1 with fail
 refine RL hS ?_
 clear hS
 refine ML 0 ?_
 obtain ⟨U1, G⟩ := V3 (A % PP)
 have D := Lib.hid G
 clear G
 have M : U1 < Q5 := by rw [D.out]; exact K9 _
 refine MC (v := .agg (c4 U1)) (fun W hS => (by rw [D.out]; exact J5l A hA W (V6 hG hS.ext))) ?_
 have J := Lib.hid (show U1 % 2 = 0 by rw [D.out]; omega)
 refine MW ?_ (v := .int .u64 (K3 U1 0)) (hv := by intro W; exact Z0x (i := 0) (by decide) rfl rfl rfl)
 refine MW ?_ (v := .int .u64 ((U1 % 2 : Nat) : Int)) (hv := by intro W; rw [← Z0w]; first | rfl | (go_simp; done) | (go_simp; rfl))
 refine MW ?_ (v := .bool false) (hv := by intro W; have h_ := J.out; go_simp <;> omega)
 refine MW ?_ (v := .bool false)
 refine MZ fun W hS => ?_
 go_wp2
 exact bodyPost_ret (v := .bool false) (by simp only [results, Tryz.results137]; go_simp) rfl ⟨by rw [decide_eq_false ho], hS.ext⟩
def v3 (v : Nat) : Nat := v * v % PP * v % PP
def v7 (v : Nat) : Nat := v3 v * v3 v % PP * v % PP
def rtX (u v : Nat) : Nat := u * v3 v % PP * pw (u * v7 v % PP) 7237005577332262213973186563042994240829374041602535252466099000494570602493 % PP
def rtW (u v : Nat) : Nat := v * (rtX u v * rtX u v % PP) % PP
def rtR (u v : Nat) : Nat := if rtW u v = u % PP then rtX u v else if rtW u v = (PP - u % PP) % PP then rtX u v * II % PP else 0
def rtB (u v : Nat) : Bool := decide (rtW u v = u % PP) || decide (rtW u v = (PP - u % PP) % PP)
theorem Q11 (u v : Nat) : rtW u v % PP = rtW u v := by unfold rtW; exact Nat.mod_mod _ _
theorem Y0o {u v : Nat} (h : rtW u v = u % PP) : rtR u v = rtX u v ∧ rtB u v = true := by unfold rtR rtB; rw [if_pos h, decide_eq_true h, Bool.true_or]; exact ⟨rfl, rfl⟩
theorem Y0p {u v : Nat} (h : ¬ rtW u v = u % PP) (h2 : rtW u v = (PP - u % PP) % PP) : rtR u v = rtX u v * II % PP ∧ rtB u v = true := by unfold rtR rtB; rw [if_neg h, if_pos h2, decide_eq_true h2, Bool.or_true]; exact ⟨rfl, rfl⟩
theorem Y0q {u v : Nat} (h : ¬ rtW u v = u % PP) (h2 : ¬ rtW u v = (PP - u % PP) % PP) : rtR u v = 0 ∧ rtB u v = false := by unfold rtR rtB; rw [if_neg h, if_neg h2, decide_eq_false h, decide_eq_false h2]; exact ⟨rfl, rfl⟩

theorem Z0y (A B : Nat) (hA : A < Q5) (hB : B < Q5) (w : World) (hG : GF w) (hI : GI w) :
  Calls Tryz.prog 147 #[L4 A, L4 B] w fun e w' => K7 (.tuple #[L4 (rtR A B), .bool (rtB A B)]) w w' e := by
 have hS := SH.nil [] w
 go_enter Tryz.func147, Tryz.ntmps147
 go_upto_region 0 with fail
 refine RL hS ?_
 clear hS
 refine MN (z := c4 A) (t := 155) ?_
 intro X5
 refine MN (z := c4 B) (t := 155) ?_
 intro D2
 refine MN (z := c4 0) (t := 155) ?_
 intro D1
 refine MW ?_ (v := .bool false)
 refine MZ fun W hS => ?_
 go_upto_region 1 with fail
 refine RXn 5 [⟨5, 6, c4 0, 155⟩] hS ?_ (by simp only [List.forall_mem_cons]; exact ⟨⟨_, rfl, rfl, rfl, fun _ _ => by kernel_rfl⟩, fun _ h => by cases h⟩)
 clear hS
 refine ML 1 ?_
 refine ML 1 ?_
 obtain ⟨U1, σ⟩ := V3 (B * B % PP)
 have Z := Lib.hid σ
 clear σ
 have Θ : U1 < Q5 := by rw [Z.out]; exact K9 _
 refine MC (v := .agg (c4 U1)) (fun W hS => (by rw [Z.out]; exact J06 B B hB hB W (V6 hG hS.ext))) ?_
 refine ML 1 ?_
 obtain ⟨U2, ψ⟩ := V3 (U1 * B % PP)
 have X := Lib.hid ψ
 clear ψ
 have ε : U2 < Q5 := by rw [X.out]; exact K9 _
 refine MC (v := .agg (c4 U2)) (fun W hS => (by rw [X.out]; exact J06 U1 B Θ hB W (V6 hG hS.ext))) ?_
 refine MZB fun D4 => ?_
 refine MR 0 ?_ 
 refine MZn fun W hS => ?_
 go_upto_region 2 with fail
 refine RXn 5 [⟨5, 7, c4 0, 155⟩] hS ?_ (by simp only [List.forall_mem_cons]; exact ⟨⟨_, rfl, rfl, rfl, fun _ _ => by kernel_rfl⟩, fun _ h => by cases h⟩)
 clear hS
 refine ML 0 ?_
 refine ML 0 ?_
 obtain ⟨U3, ρ⟩ := V3 (U2 * U2 % PP)
 have V := Lib.hid ρ
 clear ρ
 have Δ : U3 < Q5 := by rw [V.out]; exact K9 _
 refine MC (v := .agg (c4 U3)) (fun W hS => (by rw [V.out]; exact J06 U2 U2 ε ε W (V6 hG hS.ext))) ?_
 refine ML 2 ?_
 obtain ⟨U4, ν⟩ := V3 (U3 * B % PP)
 have Y := Lib.hid ν
 clear ν
 have Γ : U4 < Q5 := by rw [Y.out]; exact K9 _
 refine MC (v := .agg (c4 U4)) (fun W hS => (by rw [Y.out]; exact J06 U3 B Δ hB W (V6 hG hS.ext))) ?_
 refine MZB fun D3 => ?_
 refine MR 0 ?_ 
 refine MZn fun W hS => ?_
 go_upto_region 3 with fail
 refine RXn 9 [⟨9, 8, c4 0, 155⟩] hS ?_ (by simp only [List.forall_mem_cons]; exact ⟨⟨_, rfl, rfl, rfl, fun _ _ => by kernel_rfl⟩, fun _ h => by cases h⟩)
 clear hS
 refine ML 4 ?_
 refine ML 1 ?_
 obtain ⟨U5, μ⟩ := V3 (A * U2 % PP)
 have U := Lib.hid μ
 clear μ
 have ω : U5 < Q5 := by rw [U.out]; exact K9 _
 refine MC (v := .agg (c4 U5)) (fun W hS => (by rw [U.out]; exact J06 A U2 hA ε W (V6 hG hS.ext))) ?_
 refine ML 4 ?_
 refine ML 0 ?_
 obtain ⟨U6, ξ⟩ := V3 (A * U4 % PP)
 have T := Lib.hid ξ
 clear ξ
 have Ω : U6 < Q5 := by rw [T.out]; exact K9 _
 refine MC (v := .agg (c4 U6)) (fun W hS => (by rw [T.out]; exact J06 A U4 hA Γ W (V6 hG hS.ext))) ?_
 refine MW ?_ (v := .agg (c4 7237005577332262213973186563042994240829374041602535252466099000494570602493)) (hv := by intro W; kernel_rfl)
 obtain ⟨U7, κ⟩ := V3 (pw U6 7237005577332262213973186563042994240829374041602535252466099000494570602493)
 have S := Lib.hid κ
 clear κ
 have Ξ : U7 < Q5 := by rw [S.out]; exact Q2d _ _
 refine MC (v := .agg (c4 U7)) (fun W hS => (by rw [S.out]; exact Z68 U6 7237005577332262213973186563042994240829374041602535252466099000494570602493 Ω (by decide) W (V6 hG hS.ext))) ?_
 obtain ⟨U8, χ⟩ := V3 (U5 * U7 % PP)
 have R := Lib.hid χ
 clear χ
 have ζ : U8 < Q5 := by rw [R.out]; exact K9 _
 refine MC (v := .agg (c4 U8)) (fun W hS => (by rw [R.out]; exact J06 U5 U7 ω Ξ W (V6 hG hS.ext))) ?_
 refine MZB fun D6 => ?_
 refine MR 0 ?_ 
 refine MZn fun W hS => ?_
 go_upto_region 4 with fail
 refine RXn 5 [⟨5, 9, c4 0, 155⟩] hS ?_ (by simp only [List.forall_mem_cons]; exact ⟨⟨_, rfl, rfl, rfl, fun _ _ => by kernel_rfl⟩, fun _ h => by cases h⟩)
 clear hS
 refine ML 4 ?_
 refine ML 0 ?_
 refine ML 0 ?_
 obtain ⟨U9, φ⟩ := V3 (U8 * U8 % PP)
 have η := Lib.hid φ
 clear φ
 have Ψ : U9 < Q5 := by rw [η.out]; exact K9 _
 refine MC (v := .agg (c4 U9)) (fun W hS => (by rw [η.out]; exact J06 U8 U8 ζ ζ W (V6 hG hS.ext))) ?_
 obtain ⟨D, θ⟩ := V3 (B * U9 % PP)
 have α := Lib.hid θ
 clear θ
 have N : D < Q5 := by rw [α.out]; exact K9 _
 refine MC (v := .agg (c4 D)) (fun W hS => (by rw [α.out]; exact J06 B U9 hB Ψ W (V6 hG hS.ext))) ?_
 refine MZB fun D5 => ?_
 refine MR 0 ?_ 
 refine MZn fun W hS => ?_
 have HW := Lib.hid (show D = rtW A B by rw [α.out, η.out, R.out, S.out, T.out, U.out, Y.out, V.out, X.out, Z.out]; rfl)
 by_cases h1 : rtW A B = A % PP
 ·
  go_upto_region 5 with fail
  refine RL hS ?_
  clear hS
  refine ML 0 ?_
  refine ML 6 ?_
  refine MC (v := .bool true) (fun W hS => (by have h_ := J7w D A N hA W (V6 hG hS.ext); rw [show decide (D % PP = A % PP) = true from by rw [HW.out, Q11, decide_eq_true h1]] at h_; exact h_)) ?_
  refine MW ?_ (v := .bool true)
  refine MZ fun W hS => ?_
  go_upto_region 6 with fail
  refine RL hS ?_
  clear hS
  refine ML 1 ?_
  refine MR 4 ?_ 
  refine MW ?_ (v := .bool true)
  refine MZ fun W hS => ?_
  go_wp2
  exact bodyPost_ret (J01 rfl rfl rfl (hS.blk (i := 4) rfl) (by kernel_rfl) (by kernel_rfl)) rfl ⟨by rw [(Y0o h1).1, (Y0o h1).2, show rtX A B = U8 from by rw [R.out, S.out, T.out, U.out, Y.out, V.out, X.out, Z.out]; rfl]; rfl, hS.ext⟩
 go_upto_region 5 with fail
 refine RL hS ?_
 clear hS
 refine ML 0 ?_
 refine ML 6 ?_
 refine MC (v := .bool false) (fun W hS => (by have h_ := J7w D A N hA W (V6 hG hS.ext); rw [show decide (D % PP = A % PP) = false from by rw [HW.out, Q11, decide_eq_false h1]] at h_; exact h_)) ?_
 refine MW ?_ (v := .bool false)
 refine MZ fun W hS => ?_
 by_cases h2 : rtW A B = (PP - A % PP) % PP
 ·
  go_upto_region 7 with fail
  refine RS hS ?_
  clear hS
  refine ML 0 ?_
  refine ML 6 ?_
  obtain ⟨J, M⟩ := V3 ((PP - A % PP) % PP)
  have G := Lib.hid M
  clear M
  have γ : J < Q5 := by rw [G.out]; exact K9 _
  refine MC (v := .agg (c4 J)) (fun W hS => (by rw [G.out]; exact J8k A hA W (V6 hG hS.ext))) ?_
  refine MC (v := .bool true) (fun W hS => (by have h_ := J7w D J N γ W (V6 hG hS.ext); rw [show decide (D % PP = J % PP) = true from by rw [HW.out, Q11, G.out, Nat.mod_mod, decide_eq_true h2]] at h_; exact h_)) ?_
  refine MW ?_ (v := .bool true)
  refine MZx fun W hS => ?_
  go_upto_region 8 with fail
  refine RL hS ?_
  clear hS
  refine ML 1 ?_
  refine MF (v := .agg (c4 II)) (fun W hS => J1v rfl rfl ((Rd.ext hI hS.ext)) (by kernel_rfl) (by kernel_rfl)) ?_
  obtain ⟨τ, δ⟩ := V3 (U8 * II % PP)
  have β := Lib.hid δ
  clear δ
  have D0 : τ < Q5 := by rw [β.out]; exact K9 _
  refine MC (v := .agg (c4 τ)) (fun W hS => (by rw [β.out]; exact J06 U8 II ζ Y4n W (V6 hG hS.ext))) ?_
  refine MR 4 ?_ 
  refine MW ?_ (v := .bool true)
  refine MZ fun W hS => ?_
  go_wp2
  exact bodyPost_ret (J01 rfl rfl rfl (hS.blk (i := 4) rfl) (by kernel_rfl) (by kernel_rfl)) rfl ⟨by rw [(Y0p h1 h2).1, (Y0p h1 h2).2, show rtX A B = U8 from by rw [R.out, S.out, T.out, U.out, Y.out, V.out, X.out, Z.out]; rfl, ← β.out]; rfl, hS.ext⟩
 go_upto_region 7 with fail
 refine RS hS ?_
 clear hS
 refine ML 0 ?_
 refine ML 6 ?_
 obtain ⟨J, M⟩ := V3 ((PP - A % PP) % PP)
 have G := Lib.hid M
 clear M
 have γ : J < Q5 := by rw [G.out]; exact K9 _
 refine MC (v := .agg (c4 J)) (fun W hS => (by rw [G.out]; exact J8k A hA W (V6 hG hS.ext))) ?_
 refine MC (v := .bool false) (fun W hS => (by have h_ := J7w D J N γ W (V6 hG hS.ext); rw [show decide (D % PP = J % PP) = false from by rw [HW.out, Q11, G.out, Nat.mod_mod, decide_eq_false h2]] at h_; exact h_)) ?_
 refine MW ?_ (v := .bool false)
 refine MZx fun W hS => ?_
 go_upto_region 9 with fail
 refine RL hS ?_
 clear hS
 refine MW ?_ (v := .agg (c4 0)) (hv := by intro W; kernel_rfl)
 refine MR 4 ?_ 
 refine MW ?_ (v := .bool false)
 refine MZ fun W hS => ?_
 go_wp2
 exact bodyPost_ret (J01 rfl rfl rfl (hS.blk (i := 4) rfl) (by kernel_rfl) (by kernel_rfl)) rfl ⟨by rw [(Y0q h1 h2).1, (Y0q h1 h2).2]; rfl, hS.ext⟩
end

section
set_option maxHeartbeats 4000000

theorem Q2f (V : Nat) : c4 V = J0 .u64 4 (K3 V) := rfl
theorem Z32 (N k q r : Nat) (hr : r < 8) (hk : k = 8 * q + r) : (J0 .u8 32 fun j => if j < k then Q3 N j else 0).setIfInBounds k (.int .u8 (K3 N q / 2 ^ (8 * r) % 256)) = J0 .u8 32 fun j => if j < k + 1 then Q3 N j else 0 := by
 subst hk
 rw [V4]
 apply K5
 intro j hj
 have D := Z06 N (8 * q + r)
 rw [show (8 * q + r) / 8 = q by omega, show (8 * q + r) % 8 = r by omega] at D
 unfold upd
 rw [D]
 dsimp only
 by_cases h1 : j = 8 * q + r
 ·
  subst h1; rw [if_pos (by omega), if_pos (by omega)]
 rw [if_neg h1]
 by_cases h2 : j < 8 * q + r
 ·
  rw [if_pos h2, if_pos (by omega)]
 rw [if_neg h2, if_neg (by omega)]
theorem J99 (bs : Nat → Int) (h : ∀ j, J5u (bs j)) (n q r : Nat) (hr : r < 8) :
  (J0 .u64 n (K3 (J0o bs (8 * q + r)))).setIfInBounds q (.int .u64 (bits .or .u64 (K3 (J0o bs (8 * q + r)) q) (IntKind.wrap .u64 (bs (8 * q + r) * 2 ^ (8 * r))))) = J0 .u64 n (K3 (J0o bs (8 * q + r + 1))) := by
 rw [Z08 bs h q r hr, V4]
 apply K5
 intro j _
 by_cases hj : j = q
 ·
  subst hj; rw [J1t]
 rw [J0b _ _ _ _ hj, J6x bs h (8 * q + r) j (by omega)]
theorem Y0r (V : Nat) : bits .and .u64 (K3 V 3) 9223372036854775807 = K3 (V % 2 ^ 255) 3 := by
 obtain ⟨l0, l1⟩ := J0j V 3
 obtain ⟨X, hX⟩ := Int.eq_ofNat_of_zero_le l0
 have e2 : bits .and .u64 ((X : Nat) : Int) ((9223372036854775807 : Nat) : Int) = ((X % 9223372036854775808 : Nat) : Int) := by
  rw [bits_and_u64_nat _ _ (by omega) (by omega), show (9223372036854775807 : Nat) = 2 ^ 63 - 1 by decide, Nat.and_two_pow_sub_one_eq_mod]
 rw [hX]
 refine Eq.trans e2 ?_
 unfold K3 at hX ⊢
 simp only [Nat.reduceMul, Nat.reducePow] at *
 omega
theorem Z69 (V : Nat) : (c4 V).setIfInBounds 3 (.int .u64 (bits .and .u64 (K3 V 3) 9223372036854775807)) = c4 (V % 2 ^ 255) := by
 rw [Y0r, Q2f, Q2f, V4]
 apply K5
 intro j hj
 by_cases h3 : j = 3
 ·
  subst h3; rw [J1t]
 rw [J0b _ _ _ _ h3]
 have : j = 0 ∨ j = 1 ∨ j = 2 := by omega
 unfold K3
 rcases this with rfl | rfl | rfl <;> simp only [Nat.reduceMul, Nat.reducePow] <;> omega

theorem Q2g (A : Nat) (hA : A < Q5) (w : World) (hG : GF w) :
  Calls Tryz.prog 135 #[L4 A] w fun e w' => K7 (.agg (J0 .u8 32 (Q3 (A % PP)))) w w' e := by
 go_enter Tryz.func135, Tryz.ntmps135
 go_upto_region 1 with fail
 refine wn2 (c1 := (c4 A)) (t1 := 155) (c2 := (J0 .u8 32 (fun _ => 0))) (t2 := 23) fun W0 G Y0 D => ?_
 have U := Q2 Y0
 have T := Q2 D
 have gf := V6 hG G
 have gm := gf.1
 have gi := gf.2
 have R := J5l A hA
 obtain ⟨X1, N⟩ := V3 (A % PP)
 rw [← N] at R
 have θ := Q8u N
 have δ := Lib.hid N
 clear N
 refine Px 2 ?_
 refine XL ?_
 refine Xf ?_ (fun W hW => R W (V6 gf hW))
 refine V7 fun W1 hE => ?_
 refine LS ?_ (J2 Y0 hE) (g := w.heap.size) (cells := c4 X1)
 refine J9 ?_
 have hF : Below w.heap.size w (W1.setRow w.heap.size (c4 X1)) ∧ Blk (W1.setRow w.heap.size (c4 X1)) w.heap.size (c4 X1) 155 ∧ Blk (W1.setRow w.heap.size (c4 X1)) (w.heap.size + 1) (J0 .u8 32 (fun _ => 0)) 23 := ⟨(Z7 (Y4 G hE G.size) (by omega) _), (Y8 (J2 Y0 hE) (c4 X1)), (Q0 (J2 D hE) (by omega) _)⟩
 generalize (W1.setRow w.heap.size (c4 X1)) = W2 at hF ⊢
 clear G Y0 D
 obtain ⟨G, Y0, D⟩ := hF
 go_upto_region 2 with fail
 have α := Q2 Y0
 have X := Q2 D
 have gf := V6 hG G
 have gm := gf.1
 have gi := gf.2
 refine J67 0 [⟨0, 3, J0 .u8 32 (fun _ => 0), 23⟩] ?_ (by kernel_rfl) ?_
 ·
  intro x hx
  simp only [List.mem_cons, List.not_mem_nil, or_false] at hx
  subst hx; exact ⟨_, rfl, rfl, rfl, fun _ _ => by kernel_rfl⟩
 simp only [List.take_succ_cons, List.take_zero, List.take_nil]
 (try simp only [Act.put, mA, mB, mC])
 refine V7 ?_
 intro β W3 hE hN hD
 obtain ⟨S, J⟩ := hN _ (List.mem_cons_self ..)
 simp only [J05, Act.put, mA, mB, mC, List.drop_succ_cons, List.drop_zero, List.drop_nil, List.length_cons, List.length_nil] at S J ⊢
 generalize β 0 = Y6j at *
 have ε := G.size
 clear hN hD β
 refine J9 ?_
 have hF : Below w.heap.size w W3 ∧ Blk W3 w.heap.size (c4 X1) 155 ∧ Blk W3 (w.heap.size + 1) (J0 .u8 32 (fun _ => 0)) 23 ∧ Blk W3 Y6j (J0 .u8 32 (fun _ => 0)) 23 := ⟨(Y4 G hE G.size), (J2 Y0 hE), (J2 D hE), J⟩
 clear G Y0 D J
 obtain ⟨G, Y0, D, J⟩ := hF
 have γ := Q2 J
 go_wp2_with fail
 go_loopw [7] (fun ii wr => ∃ (k : Nat), k ≤ 32 ∧ ii = .int .i64 k ∧ Below w.heap.size w wr ∧ Blk wr w.heap.size (c4 X1) 155 ∧ Blk wr (w.heap.size + 1) (J0 .u8 32 (fun _ => 0)) 23 ∧ Blk wr Y6j (J0 .u8 32 (fun j => if j < k then Q3 X1 j else 0)) 23)
  (fun ii _ => (32 - intOf ii).toNat)
 case atStart =>
  exact ⟨0, by omega, rfl, G, Y0, D, J⟩
 case round =>
  obtain ⟨k, hk, rfl, G, Y0, D, J⟩ := hrel
  by_cases M : k = 32
  ·
   have κ := M
   subst M
   go_upto_region 8 with fail
   have Y := Q2 Y0
   have V := Q2 D
   have Z := Q2 J
   have gf := V6 hG G
   have gm := gf.1
   have gi := gf.2
   refine Px 1 ?_
   refine XL ?_
   refine V7 fun W5 hE => ?_
   refine Lp ?_ (J2 D hE) (cells := J0 .u8 32 (fun j => if j < 32 then Q3 X1 j else 0)) (h1 := (Z9 _ _ _))
   intro W6 hO h_
   refine J9 ?_
   replace Y0 := ko Y0 hE hO (by omega)
   replace D := h_
   replace J := ko J hE hO (by omega)
   replace G := bwo G hE hO G.size (by omega)
   clear hO h_
   go_wp2
   refine bodyPost_ret (Z6 rfl rfl D (by kernel_rfl) (by kernel_rfl)) rfl ⟨?_, G⟩
   rw [K5 _ _ _ (Q3 X1) (fun i hi => if_pos hi), δ.out]
  obtain ⟨q, r, hr, rfl⟩ : ∃ q r, r < 8 ∧ k = 8 * q + r := ⟨k / 8, k % 8, by omega, by omega⟩
  have d1 : (8 * (q : Int) + (r : Int)) / 8 = (q : Int) := by omega
  have d2 : (8 * (q : Int) + (r : Int)) % 8 = (r : Int) := by omega
  have η : (q : Int) < 4 := by omega
  have ζ : (r : Int) < 8 := by omega
  clear M
  have c0 := (J7 Y0 q).trans (J3h X1 q (by omega))
  have c3 := J7 J (8 * q + r)
  rw [J3 _ _ _ _ (by omega)] at c3
  have f3 := V2 J
  go_wp2
  have hs := Z8 J (8 * q + r) (.int .u8 (K3 X1 q / 2 ^ (8 * r) % 256))
  rw [Z32 X1 (8 * q + r) q r hr rfl] at hs
  go_roundw
  case rel => exact ⟨8 * q + r + 1, by omega, by go_num, Z4 G (by omega) _ _, J6 Y0 (by omega) _ _, J6 D (by omega) _ _, hs⟩
  case measure => simp [intOf]; omega
theorem Y4o (bs : Nat → Int) (hbs : ∀ j, J5u (bs j)) (w : World) (hG : GF w) :
  Calls Tryz.prog 146 #[.agg (J0 .u8 32 bs)] w fun e w' => K7 (L4 (J0o bs 32 % 2 ^ 255 % PP)) w w' e := by
 go_enter Tryz.func146, Tryz.ntmps146
 go_upto_region 2 with fail
 refine wn3 (c1 := (J0 .u8 32 bs)) (t1 := 23) (c2 := #[.int .u64 0, .int .u64 0, .int .u64 0, .int .u64 0]) (t2 := 155) (c3 := #[.int .u64 0, .int .u64 0, .int .u64 0, .int .u64 0]) (t3 := 155) fun W0 J Y0 G D => ?_
 have T := Q2 Y0
 have S := Q2 G
 have Y := Q2 D
 have gf := V6 hG J
 have gm := gf.1
 have gi := gf.2
 refine Px 2 ?_
 refine XL ?_
 refine Xv ?_
 refine V7 fun W1 hE => ?_
 refine J9 ?_
 replace Y0 := J2 Y0 hE
 replace G := J2 G hE
 replace D := J2 D hE
 replace J := Y4 J hE J.size
 have U := Q2 Y0
 have β := Q2 G
 have X := Q2 D
 have HB := Lib.hid hbs
 clear hbs
 go_wp2_with fail
 go_loopw [7] (fun ii wr => ∃ (k : Nat), k ≤ 32 ∧ ii = .int .i64 k ∧ Below w.heap.size w wr ∧ Blk wr w.heap.size (J0 .u8 32 bs) 23 ∧ Blk wr (w.heap.size + 1) #[.int .u64 0, .int .u64 0, .int .u64 0, .int .u64 0] 155 ∧ Blk wr (w.heap.size + 2) (J0 .u64 4 (K3 (J0o bs k))) 155)
  (fun ii _ => (32 - intOf ii).toNat)
 case atStart =>
  refine ⟨0, by omega, rfl, ?_⟩
  rw [show J0 .u64 4 (K3 (J0o bs 0)) = #[.int .u64 0, .int .u64 0, .int .u64 0, .int .u64 0] by kernel_rfl]
  exact ⟨J, Y0, G, D⟩
 case round =>
  obtain ⟨k, hk, rfl, J, Y0, G, D⟩ := hrel
  by_cases M : k = 32
  ·
   have ν := M
   subst M
   obtain ⟨V, hV⟩ := V3 (J0o bs 32)
   rw [← hV, ← Q2f] at D
   have HV := Lib.hid hV
   clear hV
   have c3 := (J7 D 3).trans (J3h V 3 (by omega))
   have f3 := V2 D
   go_upto_region 8 with fail
   have hs := Z8 D 3 (.int .u64 (bits .and .u64 (K3 V 3) 9223372036854775807))
   rw [Z69] at hs
   have hF := And.intro (Z4 J (show w.heap.size ≤ (w.heap.size + 2) by omega) 3 (.int .u64 (bits .and .u64 (K3 V 3) 9223372036854775807))) (And.intro (J6 Y0 (show w.heap.size ≠ (w.heap.size + 2) by omega) 3 (.int .u64 (bits .and .u64 (K3 V 3) 9223372036854775807))) (And.intro (J6 G (show w.heap.size + 1 ≠ (w.heap.size + 2) by omega) 3 (.int .u64 (bits .and .u64 (K3 V 3) 9223372036854775807))) hs))
   generalize wr.setCell ⟨w.heap.size + 1 + 1, 3, none⟩ (.int .u64 (bits .and .u64 (K3 V 3) 9223372036854775807)) = Wm at hF ⊢
   clear J Y0 G D c3 f3 hs
   obtain ⟨J, Y0, G, D⟩ := hF
   have γ := Q2 Y0
   have α := Q2 G
   have Z := Q2 D
   have gf := V6 hG J
   have gm := gf.1
   have gi := gf.2
   have R := J5l (V % 2 ^ 255) (Nat.lt_trans (Nat.mod_lt _ (by decide)) (by decide))
   obtain ⟨X1, N⟩ := V3 ((V % 2 ^ 255) % PP)
   rw [← N] at R
   have κ := Q8u N
   have δ := Lib.hid N
   clear N
   refine Px 2 ?_
   refine XL ?_
   refine Xf ?_ (fun W hW => R W (V6 gf hW))
   refine V7 fun W3 hE => ?_
   refine Lp ?_ (J2 G hE) (cells := c4 X1)
   intro W4 hO h_
   refine J9 ?_
   replace Y0 := ko Y0 hE hO (by omega)
   replace G := h_
   replace D := ko D hE hO (by omega)
   replace J := bwo J hE hO J.size (by omega)
   clear hO h_
   go_wp2
   refine bodyPost_ret (Z6 rfl rfl G (by kernel_rfl) (by kernel_rfl)) rfl ⟨?_, J⟩
   rw [δ.out, HV.out]; rfl
  obtain ⟨q, r, hr, rfl⟩ : ∃ q r, r < 8 ∧ k = 8 * q + r := ⟨k / 8, k % 8, by omega, by omega⟩
  have η : ∀ W, (Instr.index 23 (.agg (J0 .u8 32 bs)) (.int .i64 (8 * (q : Int) + (r : Int)))).run Tryz.prog W = .ok (.int .u8 (bs (8 * q + r))) W := fun W => J1n W 23 5 32 .u8 .i64 _ (8 * q + r) _ Tryz.underlying23 Tryz.underlying5 (by kernel_rfl) (by omega) (J3 _ _ _ _ (by omega))
  have d1 : IntKind.i64.wrap ((8 * (q : Int) + (r : Int)).tdiv 8) = (q : Int) := by rw [Int.tdiv_eq_ediv_of_nonneg (by omega), IntWalk.i64_in _ (by omega)]; omega
  have d2 : (8 * (q : Int) + (r : Int)).tmod 8 = (r : Int) := by rw [Int.tmod_eq_emod_of_nonneg (by omega)]; omega
  have d3 : IntKind.i64.wrap (8 * (r : Int)) = 8 * (r : Int) := IntWalk.i64_in _ (by omega)
  have d4 : IntKind.u64.wrap (bs (8 * q + r)) = bs (8 * q + r) := by have := HB.out (8 * q + r); unfold J5u at this; rw [IntKind.wrap_u64]; omega
  have μ : (0 : Int) ≤ (q : Int) := by omega
  have ζ : (q : Int) < 4 := by omega
  have θ : (0 : Int) ≤ (r : Int) := by omega
  have ε : (r : Int) < 8 := by omega
  clear M
  have c3 := (J7 D q).trans (J3 _ _ _ _ (by omega))
  have f3 := V2 D
  have hs := fun v => Z8 D q v
  go_wp2
  go_region
  go_wp2
  go_roundw
  case rel =>
   refine ⟨8 * q + r + 1, by omega, by go_num, (Z4 J (by omega) _ _).drew, Y6 (J6 Y0 (by omega) _ _), Y6 (J6 G (by omega) _ _), ?_⟩
   have := hs (.int .u64 (bits .or .u64 (K3 (J0o bs (8 * q + r)) q) (IntKind.wrap .u64 (bs (8 * q + r) * 2 ^ (8 * r)))))
   rw [J99 bs HB.out 4 q r hr] at this
   exact Y6 this
  case measure => simp [intOf]; omega
end
end Go.Proofs.YtejkmhgkkibafaaGreatDoor.S8
