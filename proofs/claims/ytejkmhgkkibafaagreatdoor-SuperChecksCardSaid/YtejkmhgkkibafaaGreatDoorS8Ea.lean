/- Contracts and plain laws that superChecks_holds rests on. Conditions: the variables' cells hold the numbers of the program's text. -/
import Derived.Test.YtejkmhgkkibafaaGreatDoorGc
import Derived.Test.YtejkmhgkkibafaaGreatDoorJ6
import Derived.Test.YtejkmhgkkibafaaGreatDoorJ3
import Derived.Test.YtejkmhgkkibafaaGreatDoorJ8
import Derived.Test.YtejkmhgkkibafaaGreatDoorGb
import Derived.Test.YtejkmhgkkibafaaGreatDoorGa
import Derived.Deep.QuietTactic
import Derived.BigQuiet
import Derived.BigRegion
import Derived.Lib.Hide
import Derived.Laws.Rows
open Go.RowKit
set_option maxRecDepth 100000
set_option linter.unusedSimpArgs false
set_option linter.unusedVariables false
namespace Go.Proofs.YtejkmhgkkibafaaGreatDoor.S8
section
set_option maxHeartbeats 4000000

theorem Q7f (a0 a1 a2 a3 b0 b1 b2 b3 : Int) (ha : U4 a0 a1 a2 a3) (hb : U4 b0 b1 b2 b3) (w : World) :
    Calls Tryz.prog 173 #[A4 a0 a1 a2 a3, A4 b0 b1 b2 b3] w fun e w' =>
      K6 (.tuple #[L4 (J6x (J0p a0 a1 a2 a3) (J0p b0 b1 b2 b3)), .int .u64 (brw (J0p a0 a1 a2 a3) (J0p b0 b1 b2 b3))]) w w' e := by
  have D := Q3u a0 a1 a2 a3 b0 b1 b2 b3 ha hb
  have HC := Lib.hid D
  clear D
  have h0 := J3e a0 b0 0 ha.1 hb.1 (by omega) (by omega)
  have h1 := J3e a1 b1 _ ha.2.1 hb.2.1 (J4p a0 b0 0).1 (J4p a0 b0 0).2
  have h2 := J3e a2 b2 _ ha.2.2.1 hb.2.2.1 (J4p a1 b1 (sbB a0 b0 0)).1 (J4p a1 b1 (sbB a0 b0 0)).2
  have h3 := J3e a3 b3 _ ha.2.2.2 hb.2.2.2 (J4p a2 b2 (sbB a1 b1 (sbB a0 b0 0))).1 (J4p a2 b2 (sbB a1 b1 (sbB a0 b0 0))).2
  clear ha hb
  go_enter Tryz.func173, Tryz.ntmps173
  go_wp2
  refine wp_loop_rounds 5 ?_
  rw [rounds_succ]
  go_wp2
  go_region
  go_wp2
  rw [rounds_succ]
  go_wp2
  go_region
  go_wp2
  rw [rounds_succ]
  go_wp2
  go_region
  go_wp2
  rw [rounds_succ]
  go_wp2
  go_region
  go_wp2
  rw [rounds_succ]
  go_wp2
  refine bodyPost_ret (v := .tuple #[A4 (sbD a0 b0 0) (sbD a1 b1 (sbB a0 b0 0)) (sbD a2 b2 (sbB a1 b1 (sbB a0 b0 0))) (sbD a3 b3 (sbB a2 b2 (sbB a1 b1 (sbB a0 b0 0)))), .int .u64 (sbB a3 b3 (sbB a2 b2 (sbB a1 b1 (sbB a0 b0 0))))]) (by simp [results, Tryz.results173, go_sem]) rfl ⟨?_, ?_⟩
  · rw [HC.out.1, HC.out.2]
  exact bz

theorem add_c (a0 a1 a2 a3 b0 b1 b2 b3 : Int) (ha : U4 a0 a1 a2 a3) (hb : U4 b0 b1 b2 b3) (w : World) :
    Calls Tryz.prog 172 #[A4 a0 a1 a2 a3, A4 b0 b1 b2 b3] w fun e w' =>
      K6 (.tuple #[L4 ((J0p a0 a1 a2 a3 + J0p b0 b1 b2 b3) % Q7), .int .u64 ((J0p a0 a1 a2 a3 + J0p b0 b1 b2 b3) / Q7 : Nat)]) w w' e := by
  have D := Q3v a0 a1 a2 a3 b0 b1 b2 b3 0 ha hb (by omega) (by omega)
  simp only [Int.toNat_zero, Nat.add_zero] at D
  have HC := Lib.hid D
  clear D
  have v0 := J8f a0 b0 0 ha.1 hb.1 (by omega) (by omega)
  have v1 := J8f a1 b1 _ ha.2.1 hb.2.1 v0.1 v0.2
  have v2 := J8f a2 b2 _ ha.2.2.1 hb.2.2.1 v1.1 v1.2
  have h0 := J13 a0 b0 0 ha.1 hb.1 (by omega) (by omega)
  have h1 := J13 a1 b1 _ ha.2.1 hb.2.1 v0.1 v0.2
  have h2 := J13 a2 b2 _ ha.2.2.1 hb.2.2.1 v1.1 v1.2
  have h3 := J13 a3 b3 _ ha.2.2.2 hb.2.2.2 v2.1 v2.2
  clear v0 v1 v2
  clear ha hb
  go_enter Tryz.func172, Tryz.ntmps172
  go_wp2
  refine wp_loop_rounds 5 ?_
  rw [rounds_succ]
  go_wp2
  go_region
  go_wp2
  rw [rounds_succ]
  go_wp2
  go_region
  go_wp2
  rw [rounds_succ]
  go_wp2
  go_region
  go_wp2
  rw [rounds_succ]
  go_wp2
  go_region
  go_wp2
  rw [rounds_succ]
  go_wp2
  refine bodyPost_ret (v := .tuple #[A4 (adS a0 b0 0) (adS a1 b1 (adC a0 b0 0)) (adS a2 b2 (adC a1 b1 (adC a0 b0 0))) (adS a3 b3 (adC a2 b2 (adC a1 b1 (adC a0 b0 0)))), .int .u64 (adC a3 b3 (adC a2 b2 (adC a1 b1 (adC a0 b0 0))))]) (by simp [results, Tryz.results172, go_sem]) rfl ⟨?_, ?_⟩
  · rw [HC.out.1, HC.out.2]; rfl
  exact bz

theorem Q94 (A B : Nat) (hA : A < Q7) (hB : B < Q7) (w : World) : Calls Tryz.prog 173 #[L4 A, L4 B] w fun e w' => K6 (.tuple #[L4 (J6x A B), .int .u64 (brw A B)]) w w' e := by
  have h := Q7f _ _ _ _ _ _ _ _ (J4w A) (J4w B) w
  rw [J18 A hA, J18 B hB] at h; exact h
theorem Q95 (A B : Nat) (hA : A < Q7) (hB : B < Q7) (w : World) : Calls Tryz.prog 172 #[L4 A, L4 B] w fun e w' => K6 (.tuple #[L4 ((A + B) % Q7), .int .u64 ((A + B) / Q7 : Nat)]) w w' e := by
  have h := add_c _ _ _ _ _ _ _ _ (J4w A) (J4w B) w
  rw [J18 A hA, J18 B hB] at h; exact h
end

section
set_option maxHeartbeats 4000000

def PP : Nat := 57896044618658097711785492504343953926634992332820282019728792003956564819949
theorem J68 : PP < Q7 := by decide +kernel
theorem PP_two : 2 * PP + 38 = Q7 := by decide +kernel
theorem Z16 (n : Nat) : n % PP < Q7 := Nat.lt_trans (Nat.mod_lt _ (by decide)) J68
theorem J0a {X n : Nat} (h : X = n % PP) : X < Q7 := h ▸ Z16 n
def modC : Array Value := #[.int .u64 18446744073709551597, .int .u64 18446744073709551615, .int .u64 18446744073709551615, .int .u64 9223372036854775807]
def imaC : Array Value := #[.int .u64 14190309331451158704, .int .u64 3405592160176694392, .int .u64 3120150775007532967, .int .u64 3135389899092516619]
def GF (w : World) : Prop := Rd w 13 modC ∧ True
def GI (w : World) : Prop := Rd w 12 imaC
theorem Z4 {w W : World} (h : GF w) (e : Ext w W) : GF W := ⟨h.1.ext e, trivial⟩
theorem Q2m (n : Nat) (hn : n < 18446744073709551616) : L4 n = .agg #[.int .u64 (n : Int), .int .u64 0, .int .u64 0, .int .u64 0] := by
  have h0 : K3 n 0 = (n : Int) := by unfold K3; simp only [Nat.mul_zero, Nat.pow_zero, Nat.div_one]; omega
  have h1 : K3 n 1 = 0 := by unfold K3; rw [Nat.div_eq_of_lt (by simp only [Nat.reduceMul, Nat.reducePow]; omega)]; rfl
  have h2 : K3 n 2 = 0 := by unfold K3; rw [Nat.div_eq_of_lt (by simp only [Nat.reduceMul, Nat.reducePow]; omega)]; rfl
  have h3 : K3 n 3 = 0 := by unfold K3; rw [Nat.div_eq_of_lt (by simp only [Nat.reduceMul, Nat.reducePow]; omega)]; rfl
  unfold L4; rw [h0, h1, h2, h3]
theorem Y0y (A B : Nat) (hA : A < Q7) (hB : B < Q7) (h : A + B < Q7) (w : World) : Calls Tryz.prog 172 #[L4 A, L4 B] w fun e w' => K6 (.tuple #[L4 (A + B), .int .u64 0]) w w' e := by
  have := Q95 A B hA hB w
  rw [Nat.mod_eq_of_lt h, Nat.div_eq_of_lt h] at this; exact this
theorem Y0z (A B : Nat) (hA : A < Q7) (hB : B < Q7) (h : Q7 ≤ A + B) (w : World) : Calls Tryz.prog 172 #[L4 A, L4 B] w fun e w' => K6 (.tuple #[L4 (A + B - Q7), .int .u64 1]) w w' e := by
  have := Q95 A B hA hB w
  have e1 : (A + B) % Q7 = A + B - Q7 := by rw [Nat.mod_eq_sub_mod h, Nat.mod_eq_of_lt (by omega)]
  have e2 : (A + B) / Q7 = 1 := Nat.div_eq_of_lt_le (by omega) (by omega)
  rw [e1, e2] at this; exact this
theorem Q7g (A n : Nat) (hA : A < Q7) (hn : n < 18446744073709551616) (h : A + n < Q7) (w : World) : Calls Tryz.prog 172 #[L4 A, .agg #[.int .u64 (n : Int), .int .u64 0, .int .u64 0, .int .u64 0]] w fun e w' => K6 (.tuple #[L4 (A + n), .int .u64 0]) w w' e := by
  rw [← Q2m n hn]; exact Y0y A n hA (by unfold Q7; omega) h w
theorem Z6g (A n : Nat) (hA : A < Q7) (hn : n < 18446744073709551616) (h : Q7 ≤ A + n) (w : World) : Calls Tryz.prog 172 #[L4 A, .agg #[.int .u64 (n : Int), .int .u64 0, .int .u64 0, .int .u64 0]] w fun e w' => K6 (.tuple #[L4 (A + n - Q7), .int .u64 1]) w w' e := by
  rw [← Q2m n hn]; exact Y0z A n hA (by unfold Q7; omega) h w
def J6u (A n : Nat) : Nat := if A + n < Q7 then A + n else A + n - Q7 + 38

theorem Y10 (A n : Nat) (hA : A < Q7) (hn : n < 18446744073709551616) (h : A + n < Q7) (w : World) :
  Calls Tryz.prog 168 #[L4 A, .int .u64 (n : Int)] w fun e w' => K6 (L4 (A + n)) w w' e := by
 go_enter Tryz.func168, Tryz.ntmps168
 go_upto_region 1 with fail
 refine wn2 (c1 := (c4 (A))) (t1 := 155) (c2 := #[.int .u64 0, .int .u64 0, .int .u64 0, .int .u64 0]) (t2 := 155) fun W0 J M D => ?_
 have c1 := Q7g A n hA hn h
 refine Px1 7 5 (z := #[.int .u64 0, .int .u64 0, .int .u64 0, .int .u64 0]) (t := 155) ?_
 refine XL ?_
 refine Xv ?_
 refine Xv ?_
 refine Xf ?_ (fun W hW => c1 W)
 refine Xv ?_
 refine Xv ?_
 refine Xv ?_
 refine XN ?_
 intro N W1 U hE G
 have S := J6 M
 have T := J6 D
 have V := J.size
 refine LS ?_ G (g := N) (cells := c4 (A + n))
 refine Lv ?_
 refine J9 ?_
 refine J60 (fun W => Below w.heap.size w W ∧ Blk W w.heap.size (c4 (A)) 155 ∧ Blk W (w.heap.size + 1) #[.int .u64 0, .int .u64 0, .int .u64 0, .int .u64 0] 155 ∧ Blk W N (c4 (A + n)) 155) ⟨(Z6 (Q9 J hE J.size) (by omega) _), (J3 (J1 M hE) (by omega) _), (J3 (J1 D hE) (by omega) _), (Y6 G (c4 (A + n)))⟩ ?_
 clear J M D G
 rintro W2 ⟨J, M, D, G⟩
 go_upto_region 4 with fail
 refine Px 1 ?_
 refine XL ?_
 refine Z7 fun W3 hE => ?_
 have R := J6 G
 refine LS ?_ (J1 D hE) (g := (w.heap.size + 1)) (cells := c4 (A + n))
 refine J9 ?_
 refine J60 (fun W => Below w.heap.size w W ∧ Blk W w.heap.size (c4 (A)) 155 ∧ Blk W (w.heap.size + 1) (c4 (A + n)) 155 ∧ Blk W N (c4 (A + n)) 155) ⟨(Z6 (Q9 J hE J.size) (by omega) _), (J3 (J1 M hE) (by omega) _), (Y6 (J1 D hE) (c4 (A + n))), (J3 (J1 G hE) (by omega) _)⟩ ?_
 clear J M D G
 rintro W4 ⟨J, M, D, G⟩
 go_wp2
 refine bodyPost_ret (Y3 rfl rfl D (by kernel_rfl) (by kernel_rfl)) rfl ⟨?_, J⟩
 rfl
theorem Y11 (A n : Nat) (hA : A < Q7) (hn : n < 18446744073709551616) (h : Q7 ≤ A + n) (h2 : A + n - Q7 + 38 < Q7) (w : World) :
  Calls Tryz.prog 168 #[L4 A, .int .u64 (n : Int)] w fun e w' => K6 (L4 (A + n - Q7 + 38)) w w' e := by
 go_enter Tryz.func168, Tryz.ntmps168
 go_upto_region 1 with fail
 refine wn2 (c1 := (c4 (A))) (t1 := 155) (c2 := #[.int .u64 0, .int .u64 0, .int .u64 0, .int .u64 0]) (t2 := 155) fun W0 J M G => ?_
 have T := Z6g A n hA hn h
 obtain ⟨X1, U⟩ : ∃ X, X = A + n - Q7 := ⟨_, rfl⟩
 rw [← U] at T
 have R := Lib.hid U
 clear U
 refine Px1 7 5 (z := #[.int .u64 0, .int .u64 0, .int .u64 0, .int .u64 0]) (t := 155) ?_
 refine XL ?_
 refine Xv ?_
 refine Xv ?_
 refine Xf ?_ (fun W hW => T W)
 refine Xv ?_
 refine Xv ?_
 refine Xv ?_
 refine XN ?_
 intro N W1 δ hE D
 have Z := J6 M
 have β := J6 G
 have ε := J.size
 refine LS ?_ D (g := N) (cells := c4 (X1))
 refine Lv ?_
 refine J9 ?_
 refine J60 (fun W => Below w.heap.size w W ∧ Blk W w.heap.size (c4 (A)) 155 ∧ Blk W (w.heap.size + 1) #[.int .u64 0, .int .u64 0, .int .u64 0, .int .u64 0] 155 ∧ Blk W N (c4 (X1)) 155) ⟨(Z6 (Q9 J hE J.size) (by omega) _), (J3 (J1 M hE) (by omega) _), (J3 (J1 G hE) (by omega) _), (Y6 D (c4 (X1)))⟩ ?_
 clear J M G D
 rintro W2 ⟨J, M, G, D⟩
 go_upto_region 3 with fail
 have V := Q7g X1 38 (by rw [R.out]; omega) (by decide) (by rw [R.out]; omega)
 obtain ⟨X2, S⟩ : ∃ X, X = X1 + 38 := ⟨_, rfl⟩
 rw [← S] at V
 have γ := Lib.hid S
 clear S
 refine Px 6 ?_
 refine XL ?_
 refine Xv ?_
 refine Xf ?_ (fun W hW => V W)
 refine Xv ?_
 refine Xv ?_
 refine Xv ?_
 refine Z7 fun W3 hE => ?_
 have Y := J6 D
 refine LS ?_ (J1 D hE) (g := N) (cells := c4 (X2))
 refine J9 ?_
 refine J60 (fun W => Below w.heap.size w W ∧ Blk W w.heap.size (c4 (A)) 155 ∧ Blk W (w.heap.size + 1) #[.int .u64 0, .int .u64 0, .int .u64 0, .int .u64 0] 155 ∧ Blk W N (c4 (X2)) 155) ⟨(Z6 (Q9 J hE J.size) (by omega) _), (J3 (J1 M hE) (by omega) _), (J3 (J1 G hE) (by omega) _), (Y6 (J1 D hE) (c4 (X2)))⟩ ?_
 clear J M G D
 rintro W4 ⟨J, M, G, D⟩
 go_upto_region 4 with fail
 refine Px 1 ?_
 refine XL ?_
 refine Z7 fun W5 hE => ?_
 have α := J6 D
 refine LS ?_ (J1 G hE) (g := (w.heap.size + 1)) (cells := c4 (X2))
 refine J9 ?_
 refine J60 (fun W => Below w.heap.size w W ∧ Blk W w.heap.size (c4 (A)) 155 ∧ Blk W (w.heap.size + 1) (c4 (X2)) 155 ∧ Blk W N (c4 (X2)) 155) ⟨(Z6 (Q9 J hE J.size) (by omega) _), (J3 (J1 M hE) (by omega) _), (Y6 (J1 G hE) (c4 (X2))), (J3 (J1 D hE) (by omega) _)⟩ ?_
 clear J M G D
 rintro W6 ⟨J, M, G, D⟩
 go_wp2
 refine bodyPost_ret (Y3 rfl rfl G (by kernel_rfl) (by kernel_rfl)) rfl ⟨?_, J⟩
 rw [γ.out, R.out]; rfl
end

section
set_option maxHeartbeats 4000000

theorem Q5g : Value.agg modC = L4 PP := by kernel_rfl
theorem Z17 (A B : Nat) (hA : A < Q7) (hB : B < Q7) (h : B ≤ A) : J6x A B = A - B := by unfold J6x Q7 at *; omega
theorem Q5h (X : Nat) (hX : X < PP) (w : World) : Calls Tryz.prog 173 #[L4 X, .agg modC] w fun e w' => K6 (.tuple #[L4 (J6x X PP), .int .u64 1]) w w' e := by
  have := Q94 X PP (Nat.lt_trans hX J68) J68 w
  rw [Q5g]
  unfold brw at this; rw [if_pos hX] at this; exact this
theorem Q5i (X : Nat) (hX : X < Q7) (h : PP ≤ X) (w : World) : Calls Tryz.prog 173 #[L4 X, .agg modC] w fun e w' => K6 (.tuple #[L4 (X - PP), .int .u64 0]) w w' e := by
  have := Q94 X PP hX J68 w
  rw [Q5g]
  rw [Z17 X PP hX J68 h] at this
  unfold brw at this; rw [if_neg (by omega)] at this; exact this
theorem V0j (X : Nat) (h : PP ≤ X) (h1 : X - PP < PP) : X - PP = X % PP := by rw [Nat.mod_eq_sub_mod h, Nat.mod_eq_of_lt h1]
theorem V0k (X : Nat) (h : PP ≤ X) (h1 : PP ≤ X - PP) (h2 : X - PP - PP < PP) : X - PP - PP = X % PP := by rw [Nat.mod_eq_sub_mod h, Nat.mod_eq_sub_mod h1, Nat.mod_eq_of_lt h2]

theorem Y6w (X : Nat) (hX : X < Q7) (hq : X < PP) (w : World) (hG : GF w) :
  Calls Tryz.prog 166 #[L4 X] w fun e w' => K6 (L4 X) w w' e := by
 go_enter Tryz.func166, Tryz.ntmps166
 go_wp2_with fail
 refine wp_loop_rounds 4 ?_
 rw [rounds_succ]
 go_upto_region 1 with fail
 refine wn2 (c1 := (c4 X)) (t1 := 155) (c2 := #[.int .u64 0, .int .u64 0, .int .u64 0, .int .u64 0]) (t2 := 155) fun W0 D Y4 G => ?_
 have U := J6 Y4
 have S := J6 G
 have gf := Z4 hG D
 have gm := gf.1
 clear gf
 have N := Q5h X hq
 obtain ⟨X1, R⟩ := V0 (J6x X PP)
 rw [← R] at N
 have Z := Lib.hid R
 clear R
 refine Px1 6 3 (z := #[.int .u64 0, .int .u64 0, .int .u64 0, .int .u64 0]) (t := 155) ?_
 refine XL ?_
 refine XL ?_
 refine Xf ?_ (fun W hW => N W)
 refine Xv ?_
 refine Xv ?_
 refine Xv ?_
 refine XN ?_
 intro M W1 V hE J
 have Y := D.size
 refine LS ?_ J (g := M) (cells := c4 X1)
 refine Lv ?_
 refine J9 ?_
 have hF : Below w.heap.size w (W1.setRow M (c4 X1)) ∧ Blk (W1.setRow M (c4 X1)) w.heap.size (c4 X) 155 ∧ Blk (W1.setRow M (c4 X1)) (w.heap.size + 1) #[.int .u64 0, .int .u64 0, .int .u64 0, .int .u64 0] 155 ∧ Blk (W1.setRow M (c4 X1)) M (c4 X1) 155 := ⟨(Z6 (Q9 D hE D.size) (by omega) _), (J3 (J1 Y4 hE) (by omega) _), (J3 (J1 G hE) (by omega) _), (Y6 J (c4 X1))⟩
 generalize (W1.setRow M (c4 X1)) = W2 at hF ⊢
 clear D Y4 G J
 obtain ⟨D, Y4, G, J⟩ := hF
 go_upto_region 3 with fail
 have T := J6 J
 have gf := Z4 hG D
 have gm := gf.1
 clear gf
 refine Px 1 ?_
 refine XL ?_
 refine Z7 fun W3 hE => ?_
 refine Lp ?_ (J1 G hE) (cells := c4 X)
 intro W4 hO h_
 refine J9 ?_
 replace Y4 := ko Y4 hE hO (by omega)
 replace G := h_
 replace J := ko J hE hO (by omega)
 replace D := bwo D hE hO D.size (by omega)
 clear hO h_
 go_wp2
 refine bodyPost_ret (Y3 rfl rfl G (by kernel_rfl) (by kernel_rfl)) rfl ⟨?_, D⟩
 rfl
theorem Y6x (X : Nat) (hX : X < Q7) (h0 : PP ≤ X) (hq : X - PP < PP) (w : World) (hG : GF w) :
  Calls Tryz.prog 166 #[L4 X] w fun e w' => K6 (L4 (X - PP)) w w' e := by
 go_enter Tryz.func166, Tryz.ntmps166
 go_wp2_with fail
 refine wp_loop_rounds 4 ?_
 rw [rounds_succ]
 go_upto_region 1 with fail
 refine wn2 (c1 := (c4 X)) (t1 := 155) (c2 := #[.int .u64 0, .int .u64 0, .int .u64 0, .int .u64 0]) (t2 := 155) fun W0 G Y4 J => ?_
 have γ := J6 Y4
 have Y := J6 J
 have gf := Z4 hG G
 have gm := gf.1
 clear gf
 have S := Q5i X hX h0
 obtain ⟨X1, T⟩ := V0 (X - PP)
 rw [← T] at S
 have V := Lib.hid T
 clear T
 refine Px1 6 3 (z := #[.int .u64 0, .int .u64 0, .int .u64 0, .int .u64 0]) (t := 155) ?_
 refine XL ?_
 refine XL ?_
 refine Xf ?_ (fun W hW => S W)
 refine Xv ?_
 refine Xv ?_
 refine Xv ?_
 refine XN ?_
 intro M W1 δ hE D
 have η := G.size
 refine LS ?_ D (g := M) (cells := c4 X1)
 refine Lv ?_
 refine J9 ?_
 have hF : Below w.heap.size w (W1.setRow M (c4 X1)) ∧ Blk (W1.setRow M (c4 X1)) w.heap.size (c4 X) 155 ∧ Blk (W1.setRow M (c4 X1)) (w.heap.size + 1) #[.int .u64 0, .int .u64 0, .int .u64 0, .int .u64 0] 155 ∧ Blk (W1.setRow M (c4 X1)) M (c4 X1) 155 := ⟨(Z6 (Q9 G hE G.size) (by omega) _), (J3 (J1 Y4 hE) (by omega) _), (J3 (J1 J hE) (by omega) _), (Y6 D (c4 X1))⟩
 generalize (W1.setRow M (c4 X1)) = W2 at hF ⊢
 clear G Y4 J D
 obtain ⟨G, Y4, J, D⟩ := hF
 go_upto_region 4 with fail
 have Z := J6 D
 have gf := Z4 hG G
 have gm := gf.1
 clear gf
 refine Px 1 ?_
 refine XL ?_
 refine Z7 fun W3 hE => ?_
 refine LS ?_ (J1 Y4 hE) (g := w.heap.size) (cells := c4 X1)
 refine J9 ?_
 have hF : Below w.heap.size w (W3.setRow w.heap.size (c4 X1)) ∧ Blk (W3.setRow w.heap.size (c4 X1)) w.heap.size (c4 X1) 155 ∧ Blk (W3.setRow w.heap.size (c4 X1)) (w.heap.size + 1) #[.int .u64 0, .int .u64 0, .int .u64 0, .int .u64 0] 155 ∧ Blk (W3.setRow w.heap.size (c4 X1)) M (c4 X1) 155 := ⟨(Z6 (Q9 G hE G.size) (by omega) _), (Y6 (J1 Y4 hE) (c4 X1)), (J3 (J1 J hE) (by omega) _), (J3 (J1 D hE) (by omega) _)⟩
 generalize (W3.setRow w.heap.size (c4 X1)) = W4 at hF ⊢
 clear G Y4 J D
 obtain ⟨G, Y4, J, D⟩ := hF
 go_wp2_with fail
 rw [rounds_succ]
 go_upto_region 1 with fail
 have β := J6 D
 have gf := Z4 hG G
 have gm := gf.1
 clear gf
 have U := Q5h X1 (by rw [V.out]; exact hq)
 obtain ⟨X2, R⟩ := V0 (J6x X1 PP)
 rw [← R] at U
 have θ := Lib.hid R
 clear R
 refine Px1 6 3 (z := #[.int .u64 0, .int .u64 0, .int .u64 0, .int .u64 0]) (t := 155) ?_
 refine XL ?_
 refine XL ?_
 refine Xf ?_ (fun W hW => U W)
 refine Xv ?_
 refine Xv ?_
 refine Xv ?_
 refine XN ?_
 intro N W5 ε hE D
 have ζ := G.size
 refine LS ?_ D (g := N) (cells := c4 X2)
 refine Lv ?_
 refine J9 ?_
 have hF : Below w.heap.size w (W5.setRow N (c4 X2)) ∧ Blk (W5.setRow N (c4 X2)) w.heap.size (c4 X1) 155 ∧ Blk (W5.setRow N (c4 X2)) (w.heap.size + 1) #[.int .u64 0, .int .u64 0, .int .u64 0, .int .u64 0] 155 ∧ Blk (W5.setRow N (c4 X2)) N (c4 X2) 155 := ⟨(Z6 (Q9 G hE G.size) (by omega) _), (J3 (J1 Y4 hE) (by omega) _), (J3 (J1 J hE) (by omega) _), (Y6 D (c4 X2))⟩
 generalize (W5.setRow N (c4 X2)) = W6 at hF ⊢
 clear G Y4 J D
 obtain ⟨G, Y4, J, D⟩ := hF
 go_upto_region 3 with fail
 have α := J6 D
 have gf := Z4 hG G
 have gm := gf.1
 clear gf
 refine Px 1 ?_
 refine XL ?_
 refine Z7 fun W7 hE => ?_
 refine Lp ?_ (J1 J hE) (cells := c4 X1)
 intro W8 hO h_
 refine J9 ?_
 replace Y4 := ko Y4 hE hO (by omega)
 replace J := h_
 replace D := ko D hE hO (by omega)
 replace G := bwo G hE hO G.size (by omega)
 clear hO h_
 go_wp2
 refine bodyPost_ret (Y3 rfl rfl J (by kernel_rfl) (by kernel_rfl)) rfl ⟨?_, G⟩
 rw [V.out]; rfl
theorem Y6y (X : Nat) (hX : X < Q7) (h0 : PP ≤ X) (h1' : PP ≤ X - PP) (hq : X - PP - PP < PP) (w : World) (hG : GF w) :
  Calls Tryz.prog 166 #[L4 X] w fun e w' => K6 (L4 (X - PP - PP)) w w' e := by
 go_enter Tryz.func166, Tryz.ntmps166
 go_wp2_with fail
 refine wp_loop_rounds 4 ?_
 rw [rounds_succ]
 go_upto_region 1 with fail
 refine wn2 (c1 := (c4 X)) (t1 := 155) (c2 := #[.int .u64 0, .int .u64 0, .int .u64 0, .int .u64 0]) (t2 := 155) fun W0 G Y4 J => ?_
 have κ := J6 Y4
 have δ := J6 J
 have gf := Z4 hG G
 have gm := gf.1
 clear gf
 have Y := Q5i X hX h0
 obtain ⟨X1, Z⟩ := V0 (X - PP)
 rw [← Z] at Y
 have S := Lib.hid Z
 clear Z
 have h1 : PP ≤ X1 := by rw [S.out]; exact h1'
 refine Px1 6 3 (z := #[.int .u64 0, .int .u64 0, .int .u64 0, .int .u64 0]) (t := 155) ?_
 refine XL ?_
 refine XL ?_
 refine Xf ?_ (fun W hW => Y W)
 refine Xv ?_
 refine Xv ?_
 refine Xv ?_
 refine XN ?_
 intro M W1 ν hE D
 have σ := G.size
 refine LS ?_ D (g := M) (cells := c4 X1)
 refine Lv ?_
 refine J9 ?_
 have hF : Below w.heap.size w (W1.setRow M (c4 X1)) ∧ Blk (W1.setRow M (c4 X1)) w.heap.size (c4 X) 155 ∧ Blk (W1.setRow M (c4 X1)) (w.heap.size + 1) #[.int .u64 0, .int .u64 0, .int .u64 0, .int .u64 0] 155 ∧ Blk (W1.setRow M (c4 X1)) M (c4 X1) 155 := ⟨(Z6 (Q9 G hE G.size) (by omega) _), (J3 (J1 Y4 hE) (by omega) _), (J3 (J1 J hE) (by omega) _), (Y6 D (c4 X1))⟩
 generalize (W1.setRow M (c4 X1)) = W2 at hF ⊢
 clear G Y4 J D
 obtain ⟨G, Y4, J, D⟩ := hF
 go_upto_region 4 with fail
 have ζ := J6 D
 have gf := Z4 hG G
 have gm := gf.1
 clear gf
 refine Px 1 ?_
 refine XL ?_
 refine Z7 fun W3 hE => ?_
 refine LS ?_ (J1 Y4 hE) (g := w.heap.size) (cells := c4 X1)
 refine J9 ?_
 have hF : Below w.heap.size w (W3.setRow w.heap.size (c4 X1)) ∧ Blk (W3.setRow w.heap.size (c4 X1)) w.heap.size (c4 X1) 155 ∧ Blk (W3.setRow w.heap.size (c4 X1)) (w.heap.size + 1) #[.int .u64 0, .int .u64 0, .int .u64 0, .int .u64 0] 155 ∧ Blk (W3.setRow w.heap.size (c4 X1)) M (c4 X1) 155 := ⟨(Z6 (Q9 G hE G.size) (by omega) _), (Y6 (J1 Y4 hE) (c4 X1)), (J3 (J1 J hE) (by omega) _), (J3 (J1 D hE) (by omega) _)⟩
 generalize (W3.setRow w.heap.size (c4 X1)) = W4 at hF ⊢
 clear G Y4 J D
 obtain ⟨G, Y4, J, D⟩ := hF
 go_wp2_with fail
 rw [rounds_succ]
 go_upto_region 1 with fail
 have θ := J6 D
 have gf := Z4 hG G
 have gm := gf.1
 clear gf
 have α := Q5i X1 (by rw [S.out]; omega) h1
 obtain ⟨X2, T⟩ := V0 (X1 - PP)
 rw [← T] at α
 have β := Lib.hid T
 clear T
 refine Px1 6 3 (z := #[.int .u64 0, .int .u64 0, .int .u64 0, .int .u64 0]) (t := 155) ?_
 refine XL ?_
 refine XL ?_
 refine Xf ?_ (fun W hW => α W)
 refine Xv ?_
 refine Xv ?_
 refine Xv ?_
 refine XN ?_
 intro N W5 ξ hE D
 have ρ := G.size
 refine LS ?_ D (g := N) (cells := c4 X2)
 refine Lv ?_
 refine J9 ?_
 have hF : Below w.heap.size w (W5.setRow N (c4 X2)) ∧ Blk (W5.setRow N (c4 X2)) w.heap.size (c4 X1) 155 ∧ Blk (W5.setRow N (c4 X2)) (w.heap.size + 1) #[.int .u64 0, .int .u64 0, .int .u64 0, .int .u64 0] 155 ∧ Blk (W5.setRow N (c4 X2)) N (c4 X2) 155 := ⟨(Z6 (Q9 G hE G.size) (by omega) _), (J3 (J1 Y4 hE) (by omega) _), (J3 (J1 J hE) (by omega) _), (Y6 D (c4 X2))⟩
 generalize (W5.setRow N (c4 X2)) = W6 at hF ⊢
 clear G Y4 J D
 obtain ⟨G, Y4, J, D⟩ := hF
 go_upto_region 4 with fail
 have η := J6 D
 have gf := Z4 hG G
 have gm := gf.1
 clear gf
 refine Px 1 ?_
 refine XL ?_
 refine Z7 fun W7 hE => ?_
 refine LS ?_ (J1 Y4 hE) (g := w.heap.size) (cells := c4 X2)
 refine J9 ?_
 have hF : Below w.heap.size w (W7.setRow w.heap.size (c4 X2)) ∧ Blk (W7.setRow w.heap.size (c4 X2)) w.heap.size (c4 X2) 155 ∧ Blk (W7.setRow w.heap.size (c4 X2)) (w.heap.size + 1) #[.int .u64 0, .int .u64 0, .int .u64 0, .int .u64 0] 155 ∧ Blk (W7.setRow w.heap.size (c4 X2)) N (c4 X2) 155 := ⟨(Z6 (Q9 G hE G.size) (by omega) _), (Y6 (J1 Y4 hE) (c4 X2)), (J3 (J1 J hE) (by omega) _), (J3 (J1 D hE) (by omega) _)⟩
 generalize (W7.setRow w.heap.size (c4 X2)) = W8 at hF ⊢
 clear G Y4 J D
 obtain ⟨G, Y4, J, D⟩ := hF
 go_wp2_with fail
 rw [rounds_succ]
 go_upto_region 1 with fail
 have ε := J6 D
 have gf := Z4 hG G
 have gm := gf.1
 clear gf
 have U := Q5h X2 (by rw [β.out, S.out]; exact hq)
 obtain ⟨X3, V⟩ := V0 (J6x X2 PP)
 rw [← V] at U
 have φ := Lib.hid V
 clear V
 refine Px1 6 3 (z := #[.int .u64 0, .int .u64 0, .int .u64 0, .int .u64 0]) (t := 155) ?_
 refine XL ?_
 refine XL ?_
 refine Xf ?_ (fun W hW => U W)
 refine Xv ?_
 refine Xv ?_
 refine Xv ?_
 refine XN ?_
 intro R W9 μ hE D
 have τ := G.size
 refine LS ?_ D (g := R) (cells := c4 X3)
 refine Lv ?_
 refine J9 ?_
 have hF : Below w.heap.size w (W9.setRow R (c4 X3)) ∧ Blk (W9.setRow R (c4 X3)) w.heap.size (c4 X2) 155 ∧ Blk (W9.setRow R (c4 X3)) (w.heap.size + 1) #[.int .u64 0, .int .u64 0, .int .u64 0, .int .u64 0] 155 ∧ Blk (W9.setRow R (c4 X3)) R (c4 X3) 155 := ⟨(Z6 (Q9 G hE G.size) (by omega) _), (J3 (J1 Y4 hE) (by omega) _), (J3 (J1 J hE) (by omega) _), (Y6 D (c4 X3))⟩
 generalize (W9.setRow R (c4 X3)) = W10 at hF ⊢
 clear G Y4 J D
 obtain ⟨G, Y4, J, D⟩ := hF
 go_upto_region 3 with fail
 have γ := J6 D
 have gf := Z4 hG G
 have gm := gf.1
 clear gf
 refine Px 1 ?_
 refine XL ?_
 refine Z7 fun χ hE => ?_
 refine Lp ?_ (J1 J hE) (cells := c4 X2)
 intro ψ hO h_
 refine J9 ?_
 replace Y4 := ko Y4 hE hO (by omega)
 replace J := h_
 replace D := ko D hE hO (by omega)
 replace G := bwo G hE hO G.size (by omega)
 clear hO h_
 go_wp2
 refine bodyPost_ret (Y3 rfl rfl J (by kernel_rfl) (by kernel_rfl)) rfl ⟨?_, G⟩
 rw [β.out, S.out]; rfl
theorem J5v (X : Nat) (hX : X < Q7) (w : World) (hG : GF w) : Calls Tryz.prog 166 #[L4 X] w fun e w' => K6 (L4 (X % PP)) w w' e := by
  by_cases h0 : X < PP
  · rw [Nat.mod_eq_of_lt h0]; exact Y6w X hX h0 w hG
  by_cases h1 : X - PP < PP
  · rw [← V0j X (by omega) h1]; exact Y6x X hX (by omega) h1 w hG
  have h2 : X - PP - PP < PP := by have := PP_two; have : PP = 57896044618658097711785492504343953926634992332820282019728792003956564819949 := rfl; omega
  rw [← V0k X (by omega) (by omega) h2]; exact Y6y X hX (by omega) (by omega) h2 w hG
theorem Y12 (n : Nat) (hn : n < 18446744073709551616) (w : World) :
  Calls Tryz.prog 171 #[.int .u64 (n : Int)] w fun e w' => K6 (L4 n) w w' e := by
 go_enter Tryz.func171, Tryz.ntmps171
 go_upto_region 1 with fail
 refine wn1 (c1 := #[.int .u64 0, .int .u64 0, .int .u64 0, .int .u64 0]) (t1 := 155) fun W0 G D => ?_
 have J := J6 D
 refine Px 2 ?_
 refine Xv ?_
 refine Xv ?_
 refine Z7 fun W1 hE => ?_
 refine LS ?_ (J1 D hE) (g := w.heap.size) (cells := #[.int .u64 (n : Int), .int .u64 0, .int .u64 0, .int .u64 0])
 refine J9 ?_
 have hF : Below w.heap.size w (W1.setRow w.heap.size #[.int .u64 (n : Int), .int .u64 0, .int .u64 0, .int .u64 0]) ∧ Blk (W1.setRow w.heap.size #[.int .u64 (n : Int), .int .u64 0, .int .u64 0, .int .u64 0]) w.heap.size #[.int .u64 (n : Int), .int .u64 0, .int .u64 0, .int .u64 0] 155 := ⟨(Z6 (Q9 G hE G.size) (by omega) _), (Y6 (J1 D hE) #[.int .u64 (n : Int), .int .u64 0, .int .u64 0, .int .u64 0])⟩
 generalize (W1.setRow w.heap.size #[.int .u64 (n : Int), .int .u64 0, .int .u64 0, .int .u64 0]) = W2 at hF ⊢
 clear G D
 obtain ⟨G, D⟩ := hF
 go_wp2
 refine bodyPost_ret (Y3 rfl rfl D (by kernel_rfl) (by kernel_rfl)) rfl ⟨?_, G⟩
 rw [Q2m n hn]
theorem Q7h (A n : Nat) (hA : A < Q7) (hn : n < 18446744073709551616) : J6u A n < Q7 := by unfold J6u Q7 at *; split <;> omega
theorem Q4b (A n : Nat) : J6u A n % PP = (A + n) % PP := by
  unfold J6u
  split
  · rfl
  rename_i h
  have e : A + n = A + n - Q7 + 38 + PP + PP := by unfold Q7 PP at *; omega
  conv => rhs; rw [e, Nat.add_mod_right, Nat.add_mod_right]
theorem Z6h (A n : Nat) (hA : A < Q7) (hn : n < 18446744073709551616) (w : World) : Calls Tryz.prog 168 #[L4 A, .int .u64 (n : Int)] w fun e w' => K6 (L4 (J6u A n)) w w' e := by
  unfold J6u
  by_cases h : A + n < Q7
  · rw [if_pos h]; exact Y10 A n hA hn h w
  rw [if_neg h]; exact Y11 A n hA hn (by omega) (by unfold Q7 at *; omega) w
theorem add_mod (A B : Nat) (hA : A < Q7) (hB : B < Q7) : J6u ((A + B) % Q7) (38 * ((A + B) / Q7)) % PP = (A + B) % PP := by
  rw [Q4b]
  by_cases h : A + B < Q7
  · rw [Nat.mod_eq_of_lt h, Nat.div_eq_of_lt h, Nat.mul_zero, Nat.add_zero]
  have e1 : (A + B) % Q7 = A + B - Q7 := by rw [Nat.mod_eq_sub_mod (by omega), Nat.mod_eq_of_lt (by omega)]
  have e2 : (A + B) / Q7 = 1 := Nat.div_eq_of_lt_le (by omega) (by omega)
  rw [e1, e2]
  conv => rhs; rw [show A + B = A + B - Q7 + 38 * 1 + PP + PP by unfold Q7 PP at *; omega, Nat.add_mod_right, Nat.add_mod_right]
theorem Y6z (A B : Nat) (hA : A < Q7) (hB : B < Q7) (w : World) : Calls Tryz.prog 172 #[L4 A, L4 B] w fun e w' => K6 (.tuple #[L4 ((A + B) % Q7), .int .u64 ((A + B) / Q7 : Nat)]) w w' e := Q95 A B hA hB w
theorem Y70 (A o : Nat) (hA : A < Q7) (ho : o ≤ 1) (w : World) : Calls Tryz.prog 168 #[L4 A, .int .u64 (IntKind.u64.wrap (38 * (o : Int)))] w fun e w' => K6 (L4 (J6u A (38 * o))) w w' e := by
  have : IntKind.u64.wrap (38 * (o : Int)) = ((38 * o : Nat) : Int) := by rw [IntKind.wrap_u64]; omega
  rw [this]; exact Z6h A (38 * o) hA (by omega) w
theorem Z6i (X : Nat) (hX : X < PP) (w : World) : Calls Tryz.prog 173 #[.agg modC, L4 X] w fun e w' => K6 (.tuple #[L4 (PP - X), .int .u64 0]) w w' e := by
  have := Q94 PP X J68 (Nat.lt_trans hX J68) w
  rw [Z17 PP X J68 (Nat.lt_trans hX J68) (by omega)] at this
  rw [Q5g]
  unfold brw at this; rw [if_neg (by omega)] at this; exact this
theorem J4n (A B : Nat) (hA : A < Q7) (hB : B < Q7) (w : World) (hG : GF w) :
  Calls Tryz.prog 150 #[L4 A, L4 B] w fun e w' => K6 (L4 ((A + B) % PP)) w w' e := by
 go_enter Tryz.func150, Tryz.ntmps150
 go_upto_region 1 with fail
 refine wn3 (c1 := (c4 A)) (t1 := 155) (c2 := (c4 B)) (t2 := 155) (c3 := #[.int .u64 0, .int .u64 0, .int .u64 0, .int .u64 0]) (t3 := 155) fun W0 D M N G => ?_
 have Z := J6 M
 have β := J6 N
 have γ := J6 G
 have gf := Z4 hG D
 have gm := gf.1
 have gi := gf.2
 have Y := Y6z A B hA hB
 obtain ⟨S, hS⟩ := V0 ((A + B) % Q7)
 obtain ⟨O, hO⟩ := V0 ((A + B) / Q7)
 rw [← hS, ← hO] at Y
 have bS : S < Q7 := by rw [hS]; exact Nat.mod_lt _ (by decide)
 have bO : O ≤ 1 := by rw [hO]; have : (A + B) / Q7 < 2 := Nat.div_lt_of_lt_mul (by omega); omega
 have HS := Lib.hid hS
 have HO := Lib.hid hO
 clear hS hO
 refine Px1 6 5 (z := #[.int .u64 0, .int .u64 0, .int .u64 0, .int .u64 0]) (t := 155) ?_
 refine XL ?_
 refine XL ?_
 refine Xf ?_ (fun W hW => Y W)
 refine Xv ?_
 refine Xv ?_
 refine Xv ?_
 refine XN ?_
 intro R W1 η hE J
 have θ := D.size
 refine LS ?_ J (g := R) (cells := c4 S)
 refine Lv ?_
 refine J9 ?_
 have hF : Below w.heap.size w (W1.setRow R (c4 S)) ∧ Blk (W1.setRow R (c4 S)) w.heap.size (c4 A) 155 ∧ Blk (W1.setRow R (c4 S)) (w.heap.size + 1) (c4 B) 155 ∧ Blk (W1.setRow R (c4 S)) (w.heap.size + 2) #[.int .u64 0, .int .u64 0, .int .u64 0, .int .u64 0] 155 ∧ Blk (W1.setRow R (c4 S)) R (c4 S) 155 := ⟨(Z6 (Q9 D hE D.size) (by omega) _), (J3 (J1 M hE) (by omega) _), (J3 (J1 N hE) (by omega) _), (J3 (J1 G hE) (by omega) _), (Y6 J (c4 S))⟩
 generalize (W1.setRow R (c4 S)) = W2 at hF ⊢
 clear D M N G J
 obtain ⟨D, M, N, G, J⟩ := hF
 go_upto_region 2 with fail
 have α := J6 J
 have gf := Z4 hG D
 have gm := gf.1
 have gi := gf.2
 have V := Y70 S O bS bO
 obtain ⟨X1, U⟩ := V0 (J6u S (38 * O))
 rw [← U] at V
 have ζ : X1 < Q7 := by rw [U]; exact Q7h _ _ bS (by omega)
 have ε := Lib.hid U
 clear U
 have X := J5v X1 ζ
 obtain ⟨X2, T⟩ := V0 (X1 % PP)
 rw [← T] at X
 have κ := J0a T
 have δ := Lib.hid T
 clear T
 refine Px 5 ?_
 refine XL ?_
 refine Xv ?_
 refine Xv ?_
 refine Xf ?_ (fun W hW => V W)
 refine Xf ?_ (fun W hW => X W (Z4 gf hW))
 refine Z7 fun W3 hE => ?_
 refine Lp ?_ (J1 G hE) (cells := c4 X2)
 intro W4 hO h_
 refine J9 ?_
 replace M := ko M hE hO (by omega)
 replace N := ko N hE hO (by omega)
 replace G := h_
 replace J := ko J hE hO (by omega)
 replace D := bwo D hE hO D.size (by omega)
 clear hO h_
 go_wp2
 refine bodyPost_ret (Y3 rfl rfl G (by kernel_rfl) (by kernel_rfl)) rfl ⟨?_, D⟩
 rw [← add_mod A B hA hB, ← HS.out, ← HO.out, ← ε.out, ← δ.out]; rfl
theorem J8u (A : Nat) (hA : A < Q7) (w : World) (hG : GF w) :
  Calls Tryz.prog 152 #[L4 A] w fun e w' => K6 (L4 ((PP - A % PP) % PP)) w w' e := by
 go_enter Tryz.func152, Tryz.ntmps152
 go_upto_region 1 with fail
 refine wn2 (c1 := (c4 A)) (t1 := 155) (c2 := #[.int .u64 0, .int .u64 0, .int .u64 0, .int .u64 0]) (t2 := 155) fun W0 D Y4 G => ?_
 have α := J6 Y4
 have Y := J6 G
 have gf := Z4 hG D
 have gm := gf.1
 have gi := gf.2
 have U := J5v A hA
 obtain ⟨X1, S⟩ := V0 (A % PP)
 rw [← S] at U
 have θ := J0a S
 have X := Lib.hid S
 clear S
 have V := Z6i X1 (by rw [X.out]; exact Nat.mod_lt _ (by decide))
 obtain ⟨X2, N⟩ := V0 (PP - X1)
 rw [← N] at V
 have ε : X2 < Q7 := by rw [N]; exact Nat.lt_of_le_of_lt (Nat.sub_le _ _) J68
 have β := Lib.hid N
 clear N
 refine Rx1 7 3 (z := #[.int .u64 0, .int .u64 0, .int .u64 0, .int .u64 0]) (t := 155) ?_
 refine XL ?_
 refine XL ?_
 refine Xf ?_ (fun W hW => U W (Z4 gf hW))
 refine Xf ?_ (fun W hW => V W)
 refine Xv ?_
 refine Xv ?_
 refine Xv ?_
 refine XN ?_
 intro M W1 δ hE J
 have ζ := D.size
 refine LS ?_ J (g := M) (cells := c4 X2)
 refine Lv ?_
 refine LN ?_
 have hF : Below w.heap.size w (W1.setRow M (c4 X2)) ∧ Blk (W1.setRow M (c4 X2)) w.heap.size (c4 A) 155 ∧ Blk (W1.setRow M (c4 X2)) (w.heap.size + 1) #[.int .u64 0, .int .u64 0, .int .u64 0, .int .u64 0] 155 ∧ Blk (W1.setRow M (c4 X2)) M (c4 X2) 155 := ⟨(Z6 (Q9 D hE D.size) (by omega) _), (J3 (J1 Y4 hE) (by omega) _), (J3 (J1 G hE) (by omega) _), (Y6 J (c4 X2))⟩
 generalize (W1.setRow M (c4 X2)) = W2 at hF ⊢
 clear D Y4 G J
 obtain ⟨D, Y4, G, J⟩ := hF
 go_upto_region 2 with fail
 have Z := J6 J
 have gf := Z4 hG D
 have gm := gf.1
 have gi := gf.2
 have T := J5v X2 ε
 obtain ⟨X3, R⟩ := V0 (X2 % PP)
 rw [← R] at T
 have η := J0a R
 have γ := Lib.hid R
 clear R
 refine Px 2 ?_
 refine XL ?_
 refine Xf ?_ (fun W hW => T W (Z4 gf hW))
 refine Z7 fun W3 hE => ?_
 refine Lp ?_ (J1 G hE) (cells := c4 X3)
 intro W4 hO h_
 refine J9 ?_
 replace Y4 := ko Y4 hE hO (by omega)
 replace G := h_
 replace J := ko J hE hO (by omega)
 replace D := bwo D hE hO D.size (by omega)
 clear hO h_
 go_wp2
 refine bodyPost_ret (Y3 rfl rfl G (by kernel_rfl) (by kernel_rfl)) rfl ⟨?_, D⟩
 rw [γ.out, β.out, X.out]; rfl
end

section
set_option maxHeartbeats 4000000

theorem J3b (V i : Nat) (h : i < 4) : (c4 V)[i]? = some (.int .u64 (K3 V i)) := by
  have : i = 0 ∨ i = 1 ∨ i = 2 ∨ i = 3 := by omega
  rcases this with rfl | rfl | rfl | rfl <;> rfl

theorem Q5j (i k : Nat) (x y g c s cv : Int) (V V' Y Y' X B0 : Nat) (hx : V4 x) (hy : V4 y) (hg : V4 g) (hc : V4 c) (hs : V4 s) (hcv : V4 cv)
    (h5 : s + 18446744073709551616 * cv = x * y + g + c) (h1 : V' + g.toNat * 2 ^ (64 * (i + k)) = V + s.toNat * 2 ^ (64 * (i + k)))
    (h2 : V + c.toNat * 2 ^ (64 * (i + k)) = X + x.toNat * 2 ^ (64 * i) * Y) (hY : Y' = Y + y.toNat * 2 ^ (64 * k)) :
    V' + cv.toNat * 2 ^ (64 * (i + (k + 1))) = X + x.toNat * 2 ^ (64 * i) * Y' := by
  obtain ⟨x, rfl⟩ := Int.eq_ofNat_of_zero_le hx.1
  obtain ⟨y, rfl⟩ := Int.eq_ofNat_of_zero_le hy.1
  obtain ⟨g, rfl⟩ := Int.eq_ofNat_of_zero_le hg.1
  obtain ⟨c, rfl⟩ := Int.eq_ofNat_of_zero_le hc.1
  obtain ⟨s, rfl⟩ := Int.eq_ofNat_of_zero_le hs.1
  obtain ⟨d, rfl⟩ := Int.eq_ofNat_of_zero_le hcv.1
  simp only [Int.toNat_natCast] at *
  have h6 : s + 18446744073709551616 * d = x * y + g + c := by
    rw [← Int.natCast_mul] at h5
    generalize x * y = p at *
    omega
  have e1 : (2 : Nat) ^ (64 * (i + (k + 1))) = 18446744073709551616 * 2 ^ (64 * (i + k)) := by
    rw [show 64 * (i + (k + 1)) = 64 + 64 * (i + k) by omega, Nat.pow_add]
  have e2 : (2 : Nat) ^ (64 * (i + k)) = 2 ^ (64 * i) * 2 ^ (64 * k) := by rw [Nat.mul_add, Nat.pow_add]
  rw [hY, e1, Nat.mul_add (x * 2 ^ (64 * i))]
  have e3 : x * 2 ^ (64 * i) * (y * 2 ^ (64 * k)) = x * y * 2 ^ (64 * (i + k)) := by rw [e2, Nat.mul_mul_mul_comm]
  rw [e3]
  generalize 2 ^ (64 * (i + k)) = W at *
  have e4 : d * (18446744073709551616 * W) = 18446744073709551616 * d * W := by rw [Nat.mul_left_comm, Nat.mul_assoc]
  rw [e4]
  have h7 : s * W + 18446744073709551616 * d * W = x * y * W + g * W + c * W := by
    rw [← Nat.add_mul, h6, Nat.add_mul, Nat.add_mul]
  omega

theorem Q5k (B V' V C X Y W : Nat) {g : Int} (hB : B < Q7) (hg : g = 0) (h1 : V' + g.toNat * W = V + C) (h2 : V + C = X + Y * (B % 2 ^ (64 * 4))) : V' = X + Y * B := by
  rw [Nat.mod_eq_of_lt (show B < 2 ^ (64 * 4) from hB)] at h2
  rw [hg, Int.toNat_zero, Nat.zero_mul, Nat.add_zero] at h1
  rw [h1, h2]

theorem Z3d (A B : Nat) (hA : A < Q7) (hB : B < Q7) (w : World) :
    Calls Tryz.prog 167 #[L4 A, L4 B] w fun e w' => K6 (.agg (J0 .u64 8 (K3 (A * B)))) w w' e := by
  go_enter Tryz.func167, Tryz.ntmps167
  go_wp2
  go_loopw [16] (fun ii wr => ∃ i : Nat, i ≤ 4 ∧ ii = .int .i64 i ∧ Below w.heap.size w wr ∧
      Blk wr (w.heap.size + 1) (c4 B) 155 ∧ Blk wr (w.heap.size + 2) (J0 .u64 8 (fun _ => 0)) 186 ∧
      ∃ f : Nat → Int, Blk wr (w.heap.size + 3) (J0 .u64 8 f) 186 ∧ (∀ j, V4 (f j)) ∧ (∀ j, i + 4 ≤ j → f j = 0) ∧ J1u f 8 = A % 2 ^ (64 * i) * B)
    (fun ii _ => (4 - intOf ii).toNat)
  case atStart =>
    refine ⟨0, by omega, rfl, ?_, Y8 (Y8 (V2 _ _ (by simp)) _) _, Y8 (V2 _ _ (by simp)) _, fun _ => 0, V2 _ _ (by simp), fun _ => ⟨by simp, by simp⟩, fun _ _ => rfl, ?_⟩
    · exact bz
    rw [J7y, Nat.mul_zero, Nat.pow_zero, Nat.mod_one, Nat.zero_mul]
  case round =>
    obtain ⟨i, hi, rfl, D, b1, b2, f, b3, hf, J, hv⟩ := hrel
    by_cases N : i = 4
    · subst N
      have HV := Lib.hid hv
      clear hv J
      go_wp2_with (first
        | (refine wpList_load_row rfl 186 (.tmp 5) rfl (w.heap.size + 3) rfl _ _ _ _ b3 Tryz.underlying186 rfl (by kernel_rfl) ?_)
        | (refine wpList_store_row rfl 186 (.tmp 4) (.tmp 65) rfl (w.heap.size + 2) _ rfl rfl 186 _ b2 (by kernel_rfl) (by kernel_rfl) (Z0 _ _ _) ?_))
      refine bodyPost_ret (results_cell_row rfl _ _ (w.heap.size + 2) _ _ _ _ rfl (Y6 b2 _) Tryz.underlying186 rfl (by kernel_rfl)) rfl ⟨?_, Z6 D (by omega) _⟩
      have e : J0 .u64 8 f = J0 .u64 8 (K3 (A * B)) := K8 _ _ _ _ fun j hj => by
        have := J63 f 8 j hj (fun i _ => hf i)
        rw [← this, HV.out, Nat.mod_eq_of_lt (show A < 2 ^ (64 * 4) from hA)]
      rw [e]
    have T : i < 4 := by omega
    have hi3' : (i : Int) < 4 := by omega
    have G : ∀ W, (Instr.index 155 (.agg #[.int .u64 (K3 A 0), .int .u64 (K3 A 1), .int .u64 (K3 A 2), .int .u64 (K3 A 3)]) (.int .i64 (i : Int))).run Tryz.prog W = .ok (.int .u64 (K3 A i)) W :=
      fun W => J1b W 155 71 4 .u64 .i64 (c4 A) i (K3 A i) Tryz.underlying155 Tryz.underlying71 (by kernel_rfl) T (J3b A i T)
    have c1 := Q0 b1
    clear N
    go_wp2
    clear c1
    have S := Lib.hid J
    have HV := Lib.hid hv
    clear J hv G hi3'
    obtain ⟨wo, rfl⟩ : ∃ wo : World, wo = wr := ⟨_, rfl⟩
    go_loopw [8, 21] (fun cc kk wq => ∃ (k : Nat) (c : Int), k ≤ 4 ∧ kk = .int .i64 k ∧ cc = .int .u64 c ∧ V4 c ∧ Below w.heap.size w wq ∧
        Blk wq (w.heap.size + 1) (c4 B) 155 ∧ Blk wq (w.heap.size + 2) (J0 .u64 8 (fun _ => 0)) 186 ∧
        ∃ g : Nat → Int, Blk wq (w.heap.size + 3) (J0 .u64 8 g) 186 ∧ (∀ j, V4 (g j)) ∧ (∀ j, i + 4 ≤ j → g j = 0) ∧
          J1u g 8 + c.toNat * 2 ^ (64 * (i + k)) = A % 2 ^ (64 * i) * B + (K3 A i).toNat * 2 ^ (64 * i) * (B % 2 ^ (64 * k)))
      (fun _ kk _ => (4 - intOf kk).toNat)
    case atStart =>
      refine ⟨0, 0, by omega, rfl, rfl, ⟨by omega, by omega⟩, D, b1, b2, f, b3, hf, S.out, ?_⟩
      rw [HV.out, Nat.mul_zero, Nat.pow_zero, Nat.mod_one]; simp
    case round =>
      obtain ⟨k, c, hk, rfl, rfl, hc, D, b1, b2, g, b3, hg, X, hv⟩ := hrel
      have M := Lib.hid X
      have HV := Lib.hid hv
      clear X hv S
      by_cases V : k = 4
      · subst V
        have c3 := (Q0 b3 (i + 4)).trans (J4 _ _ _ _ (by omega))
        have f3 := V5 b3
        have Y : (i : Int) + 4 < 8 := by omega
        go_wp2
        have hs := Y5 b3 (i + 4) (.int .u64 c)
        rw [V6] at hs
        go_roundw
        case rel =>
          refine ⟨i + 1, by omega, by go_num, ?_, J8 b1 (by omega) _ _, J8 b2 (by omega) _ _, upd g (i + 4) c, hs, ?_, ?_, ?_⟩
          · exact bz
          · intro j
            by_cases hj : j = i + 4
            · subst hj; rw [J1z]; exact hc
            rw [J0i _ _ _ _ hj]; exact hg j
          · intro j hj
            rw [J0i _ _ _ _ (by omega)]
            exact M.out j (by omega)
          rw [J62, Nat.add_mul]
          exact Q5k B _ _ _ _ _ _ hB (M.out (i + 4) (by omega)) (J61 g (i + 4) c 8 (by omega)) HV.out
        case measure => simp [intOf]; omega
      have R : k < 4 := by omega
      have hk3' : (k : Int) < 4 := by omega
      clear V
      have G : ∀ W, (Instr.index 155 (.agg #[.int .u64 (K3 B 0), .int .u64 (K3 B 1), .int .u64 (K3 B 2), .int .u64 (K3 B 3)]) (.int .i64 (k : Int))).run Tryz.prog W = .ok (.int .u64 (K3 B k)) W :=
        fun W => J1b W 155 71 4 .u64 .i64 (c4 B) k (K3 B k) Tryz.underlying155 Tryz.underlying71 (by kernel_rfl) R (J3b B k R)
      obtain ⟨m1, m2, m3, m4, m5⟩ := Q1q (K3 A i) (K3 B k) (g (i + k)) c (J0q A i) (J0q B k) (hg _) hc
      have a1 := J13 (J5q (K3 A i) (K3 B k)) (g (i + k)) 0 m1 (hg _) (by omega) (by omega)
      have a2 := J13 (adS (J5q (K3 A i) (K3 B k)) (g (i + k)) 0) c 0 m2 hc (by omega) (by omega)
      obtain ⟨sv, U⟩ : ∃ sv, sv = adS (adS (J5q (K3 A i) (K3 B k)) (g (i + k)) 0) c 0 := ⟨_, rfl⟩
      rw [← U] at m4 m5 a2
      have M5 := Lib.hid m5
      clear m5 U
      have c3 := (Q0 b3 (i + k)).trans (J4 _ _ _ _ (by omega))
      have f3 := V5 b3
      have Y : (i : Int) + (k : Int) < 8 := by omega
      go_wp2_with (go_at_call 141; refine (Q4p _ _ (J0q A i) (J0q B k) _).mono ?_; rintro e w' ⟨rfl, rfl⟩)
      have hs := Y5 b3 (i + k) (.int .u64 sv)
      rw [V6] at hs
      have h1 := J61 g (i + k) sv 8 (by omega)
      have h2 := HV.out
      have h5 := M5.out
      clear HV M5 a1 a2 c3 f3 G
      go_roundw
      case rel =>
        (repeat apply Exists.intro)
        refine ⟨?_, rfl⟩
        refine ⟨k + 1, _, by omega, by go_num, rfl, m3, ?_, J8 b1 (by omega) _ _, J8 b2 (by omega) _ _, upd g (i + k) sv, hs, ?_, ?_, ?_⟩
        · exact bz
        · intro j
          by_cases hj : j = i + k
          · subst hj; rw [J1z]; exact m4
          rw [J0i _ _ _ _ hj]; exact hg j
        · intro j hj
          rw [J0i _ _ _ _ (by omega)]
          exact M.out j hj
        exact Q5j i k (K3 A i) (K3 B k) (g (i + k)) c sv _ _ _ _ _ _ 0 (J0q A i) (J0q B k) (hg _) hc m4 m3 h5 h1 h2 (J62 B k)
      case measure => simp [intOf]; omega
end

section
set_option maxHeartbeats 4000000

theorem Z6j (i : Nat) (N V V' : Nat) (g s c cv : Int) (hg : V4 g) (hs : V4 s) (hc : V4 c) (hcv : V4 cv)
    (h5 : s + 18446744073709551616 * cv = K3 N (4 + i) * 38 + K3 N i + c) (h1 : V' + g.toNat * 2 ^ (64 * i) = V + s.toNat * 2 ^ (64 * i)) (hg0 : g = 0)
    (h2 : V + c.toNat * 2 ^ (64 * i) = N % 2 ^ (64 * i) + 38 * (N / 2 ^ 256 % 2 ^ (64 * i))) :
    V' + cv.toNat * 2 ^ (64 * (i + 1)) = N % 2 ^ (64 * (i + 1)) + 38 * (N / 2 ^ 256 % 2 ^ (64 * (i + 1))) := by
  have e4 : K3 N (4 + i) = K3 (N / 2 ^ 256) i := by
    unfold K3; rw [Nat.div_div_eq_div_mul, ← Nat.pow_add, show 64 * (4 + i) = 256 + 64 * i by omega]
  rw [e4] at h5
  rw [J62 N, J62 (N / 2 ^ 256)]
  have l1 := J0q N i
  have l2 := J0q (N / 2 ^ 256) i
  obtain ⟨x, hx⟩ := Int.eq_ofNat_of_zero_le l1.1
  obtain ⟨y, hy⟩ := Int.eq_ofNat_of_zero_le l2.1
  obtain ⟨s, rfl⟩ := Int.eq_ofNat_of_zero_le hs.1
  obtain ⟨c, rfl⟩ := Int.eq_ofNat_of_zero_le hc.1
  obtain ⟨d, rfl⟩ := Int.eq_ofNat_of_zero_le hcv.1
  subst hg0
  rw [hx, hy] at *
  simp only [Int.toNat_natCast, Int.toNat_zero, Nat.zero_mul, Nat.add_zero] at *
  have h6 : s + 18446744073709551616 * d = y * 38 + x + c := by omega
  have e1 : (2 : Nat) ^ (64 * (i + 1)) = 18446744073709551616 * 2 ^ (64 * i) := by rw [show 64 * (i + 1) = 64 + 64 * i by omega, Nat.pow_add]
  rw [e1]
  generalize N % 2 ^ (64 * i) = n0 at *
  generalize N / 2 ^ 256 % 2 ^ (64 * i) = n1 at *
  generalize 2 ^ (64 * i) = W at *
  have e5 : d * (18446744073709551616 * W) = 18446744073709551616 * d * W := by rw [Nat.mul_left_comm, Nat.mul_assoc]
  have h7 : s * W + 18446744073709551616 * d * W = y * 38 * W + x * W + c * W := by
    rw [← Nat.add_mul, h6, Nat.add_mul, Nat.add_mul]
  have e6 : y * 38 * W = 38 * (y * W) := by rw [Nat.mul_comm y 38, Nat.mul_assoc]
  rw [e5, Nat.mul_add]
  generalize y * W = yw at *
  omega
theorem Y13 (A B S c : Nat) (hA : A < Q7) (hB : B < Q7) (h : S + c * 2 ^ (64 * 4) = A * B % 2 ^ (64 * 4) + 38 * (A * B / 2 ^ 256 % 2 ^ (64 * 4))) : J6u S (38 * c) % PP = A * B % PP := by
  have hN : A * B / 2 ^ 256 < Q7 := Nat.div_lt_of_lt_mul (Nat.mul_lt_mul'' hA hB)
  have e : (2 : Nat) ^ (64 * 4) = Q7 := by decide
  have e' : (2 : Nat) ^ 256 = Q7 := by decide
  rw [show (2 : Nat) ^ (64 * 4) = 2 ^ 256 by decide] at h
  rw [e'] at h hN
  rw [Nat.mod_eq_of_lt hN] at h
  rw [Q4b]
  have hd := Nat.div_add_mod (A * B) Q7
  generalize A * B / Q7 = q at *
  generalize A * B % Q7 = r at *
  generalize A * B = N at *
  have h2 : Q7 = 2 * PP + 38 := PP_two.symm
  have G : S + 38 * c + PP * (2 * c) = r + 38 * q := by
    have : PP * (2 * c) = c * (2 * PP) := by rw [Nat.mul_left_comm, Nat.mul_comm PP c, Nat.mul_left_comm]
    rw [h2, Nat.mul_add] at h
    omega
  have D : N = r + 38 * q + PP * (2 * q) := by
    have : PP * (2 * q) = 2 * PP * q := by rw [Nat.mul_left_comm, Nat.mul_assoc]
    rw [← hd, h2, Nat.add_mul]; omega
  rw [D, ← G, Nat.add_mul_mod_self_left, Nat.add_mul_mod_self_left]

theorem Y14 (S O N : Nat) (h : S + O * 2 ^ (64 * 4) = N % 2 ^ (64 * 4) + 38 * (N / 2 ^ 256 % 2 ^ (64 * 4))) : O ≤ 38 := by
  have h1 : N % 2 ^ (64 * 4) < Q7 := Nat.mod_lt _ (by decide)
  have h2 : N / 2 ^ 256 % 2 ^ (64 * 4) < Q7 := Nat.mod_lt _ (by decide)
  rw [show (2 : Nat) ^ (64 * 4) = Q7 by decide] at *
  unfold Q7 at *; omega
theorem V0l (f : Nat → Int) : J0 .u64 4 f = #[.int .u64 (f 0), .int .u64 (f 1), .int .u64 (f 2), .int .u64 (f 3)] := rfl
theorem Y15 (f : Nat → Int) (hf : ∀ j, V4 (f j)) : Value.agg (J0 .u64 4 f) = L4 (J1u f 4) := by
  rw [V0l]; unfold L4
  rw [J63 f 4 0 (by omega) (fun i _ => hf i), J63 f 4 1 (by omega) (fun i _ => hf i), J63 f 4 2 (by omega) (fun i _ => hf i), J63 f 4 3 (by omega) (fun i _ => hf i)]
theorem Z6k (f : Nat → Int) (S o : Nat) (hS : S = J1u f 4) (hf : ∀ j, V4 (f j)) (hA : S < Q7) (ho : o ≤ 38) (w : World) : Calls Tryz.prog 168 #[.agg (J0 .u64 4 f), .int .u64 (IntKind.u64.wrap (38 * (o : Int)))] w fun e w' => K6 (L4 (J6u S (38 * o))) w w' e := by
  have : IntKind.u64.wrap (38 * (o : Int)) = ((38 * o : Nat) : Int) := by rw [IntKind.wrap_u64]; omega
  rw [this, Y15 f hf, ← hS]; exact Z6h S (38 * o) hA (by omega) w
theorem K0 (A B : Nat) (hA : A < Q7) (hB : B < Q7) (w : World) (hG : GF w) :
  Calls Tryz.prog 136 #[L4 A, L4 B] w fun e w' => K6 (L4 (A * B % PP)) w w' e := by
 go_enter Tryz.func136, Tryz.ntmps136
 go_upto_region 1 with fail
 refine wn3 (c1 := (c4 A)) (t1 := 155) (c2 := (c4 B)) (t2 := 155) (c3 := #[.int .u64 0, .int .u64 0, .int .u64 0, .int .u64 0]) (t3 := 155) fun W0 G M T J => ?_
 have σ := J6 M
 have ν := J6 T
 have ρ := J6 J
 have gf := Z4 hG G
 have gm := gf.1
 have gi := gf.2
 have δ := Z3d A B hA hB
 obtain ⟨N, hN⟩ := V0 (A * B)
 rw [← hN] at δ
 have HN := Lib.hid hN
 clear hN
 refine Px1 3 5 (z := J0 .u64 8 (fun _ => 0)) (t := 186) ?_
 refine XL ?_
 refine XL ?_
 refine Xf ?_ (fun W hW => δ W)
 refine XN ?_
 intro η W1 Θ hE D
 have Ψ := G.size
 refine Lp ?_ D (cells := J0 .u64 8 (K3 N)) (h1 := (Z0 _ _ _))
 intro W2 hO h_
 refine J9 ?_
 replace M := ko M hE hO (by omega)
 replace T := ko T hE hO (by omega)
 replace J := ko J hE hO (by omega)
 replace D := h_
 replace G := bwo G hE hO G.size (by omega)
 clear hO h_
 go_upto_region 2 with fail
 have τ := J6 D
 have gf := Z4 hG G
 have gm := gf.1
 have gi := gf.2
 refine Px1 0 6 (z := #[.int .u64 0, .int .u64 0, .int .u64 0, .int .u64 0]) (t := 155) ?_
 refine XN ?_
 intro γ W3 Δ hE R
 have Ξ := G.size
 refine J9 ?_
 have hF : Below w.heap.size w W3 ∧ Blk W3 w.heap.size (c4 A) 155 ∧ Blk W3 (w.heap.size + 1) (c4 B) 155 ∧ Blk W3 (w.heap.size + 2) #[.int .u64 0, .int .u64 0, .int .u64 0, .int .u64 0] 155 ∧ Blk W3 η (J0 .u64 8 (K3 N)) 186 ∧ Blk W3 γ #[.int .u64 0, .int .u64 0, .int .u64 0, .int .u64 0] 155 := ⟨(Q9 G hE G.size), (J1 M hE), (J1 T hE), (J1 J hE), (J1 D hE), R⟩
 clear G M T J D R
 obtain ⟨G, M, T, J, D, R⟩ := hF
 have μ := J6 R
 go_wp2_with fail
 go_loopw [7, 16] (fun cc ii wr => ∃ (i : Nat) (c : Int) (f : Nat → Int), i ≤ 4 ∧ ii = .int .i64 i ∧ cc = .int .u64 c ∧ V4 c ∧ (∀ j, V4 (f j)) ∧ (∀ j, i ≤ j → f j = 0) ∧ J1u f 4 + c.toNat * 2 ^ (64 * i) = N % 2 ^ (64 * i) + 38 * (N / 2 ^ 256 % 2 ^ (64 * i)) ∧ Below w.heap.size w wr ∧ Blk wr w.heap.size (c4 A) 155 ∧ Blk wr (w.heap.size + 1) (c4 B) 155 ∧ Blk wr (w.heap.size + 2) #[.int .u64 0, .int .u64 0, .int .u64 0, .int .u64 0] 155 ∧ Blk wr η (J0 .u64 8 (K3 N)) 186 ∧ Blk wr γ (J0 .u64 4 f) 155)
  (fun cc ii _ => (4 - intOf ii).toNat)
 case atStart =>
  refine ⟨0, 0, fun _ => 0, by omega, rfl, rfl, ⟨by omega, by omega⟩, fun _ => ⟨by simp, by simp⟩, fun _ _ => rfl, ?_, G, M, T, J, D, R⟩
  rw [J7y, Nat.mul_zero, Nat.pow_zero, Nat.mod_one, Nat.mod_one]; rfl
 case round =>
  obtain ⟨i, c, f, hi, rfl, rfl, hc, hf, α, hv, G, M, T, J, D, R⟩ := hrel
  have HV := Lib.hid hv
  have β := Lib.hid α
  clear hv α
  by_cases U : i = 4
  ·
   have D1 := U
   subst U
   go_upto_region 14 with fail
   have φ := J6 M
   have ξ := J6 T
   have χ := J6 J
   have θ := J6 D
   have κ := J6 R
   have gf := Z4 hG G
   have gm := gf.1
   have gi := gf.2
   obtain ⟨S, hS⟩ := V0 (J1u f 4)
   have bS : S < Q7 := by rw [hS]; exact J93 f 4 (fun j _ => hf j)
   obtain ⟨O, rfl⟩ := Int.eq_ofNat_of_zero_le hc.1
   have hw := HV.out
   rw [← hS, Int.toNat_natCast] at hw
   have bO : O ≤ 38 := Y14 _ _ _ hw
   have Z := Z6k f S O hS (fun j => hf j) bS bO
   obtain ⟨X1, X⟩ := V0 (J6u S (38 * O))
   rw [← X] at Z
   have ψ : X1 < Q7 := by rw [X]; exact Q7h _ _ bS (by omega)
   have Γ := Lib.hid X
   clear X
   have Y := J5v X1 ψ
   obtain ⟨X2, V⟩ := V0 (X1 % PP)
   rw [← V] at Y
   have Ω := J0a V
   have ω := Lib.hid V
   clear V
   refine Px 5 ?_
   refine XL ?_
   refine Xv ?_
   refine Xv ?_
   refine Xf ?_ (fun W hW => Z W)
   refine Xf ?_ (fun W hW => Y W (Z4 gf hW))
   refine Z7 fun W5 hE => ?_
   refine Lp ?_ (J1 J hE) (cells := c4 X2)
   intro W6 hO h_
   refine J9 ?_
   replace M := ko M hE hO (by omega)
   replace T := ko T hE hO (by omega)
   replace J := h_
   replace D := ko D hE hO (by omega)
   replace R := ko R hE hO (by omega)
   replace G := bwo G hE hO G.size (by omega)
   clear hO h_
   go_wp2
   refine bodyPost_ret (Y3 rfl rfl J (by kernel_rfl) (by kernel_rfl)) rfl ⟨?_, G⟩
   rw [ω.out, Γ.out, Y13 A B S O hA hB (by rw [← HN.out]; exact hw)]; rfl
  have ε : i < 4 := by omega
  have hi3' : (i : Int) < 4 := by omega
  have D0 : 4 + (i : Int) < 8 := by omega
  have hi8' : (i : Int) < 8 := by omega
  clear U
  obtain ⟨m1, m2, m3, m4, m5⟩ := Q1q (K3 N (4 + i)) 38 (K3 N i) c (J0q N _) (by unfold V4; omega) (J0q N i) hc
  have a1 := J13 (J5q (K3 N (4 + i)) 38) (K3 N i) 0 m1 (J0q N i) (by omega) (by omega)
  have a2 := J13 (adS (J5q (K3 N (4 + i)) 38) (K3 N i) 0) c 0 m2 hc (by omega) (by omega)
  obtain ⟨sv, ζ⟩ : ∃ sv, sv = adS (adS (J5q (K3 N (4 + i)) 38) (K3 N i) 0) c 0 := ⟨_, rfl⟩
  rw [← ζ] at m4 m5 a2
  have M5 := Lib.hid m5
  clear m5 ζ
  have c5 := (Q0 D (4 + i)).trans (J4 _ _ _ _ (by omega))
  have c5' := (Q0 D i).trans (J4 _ _ _ _ (by omega))
  have c6 := (Q0 R i).trans (J4 _ _ _ _ ε)
  have f6 := V5 R
  go_wp2_with (go_at_call 141; refine (Q4p _ _ (J0q N (4 + i)) (by unfold V4; omega) _).mono ?_; rintro e w' ⟨rfl, rfl⟩)
  have hs := Y5 R i (.int .u64 sv)
  rw [V6] at hs
  have h1 := J61 f i sv 4 ε
  have h2 := HV.out
  have h5 := M5.out
  clear HV M5 a1 a2 c5 c5' c6 f6
  go_roundw
  case rel =>
   (repeat apply Exists.intro)
   refine ⟨?_, rfl⟩
   refine ⟨i + 1, _, upd f i sv, by omega, by go_num, rfl, m3, ?_, ?_, Z6j i N _ _ (f i) sv c _ (hf i) m4 hc m3 h5 h1 (β.out i (Nat.le_refl i)) h2, ?_, ?_, ?_, ?_, ?_, hs⟩
   ·
    intro j
    by_cases hj : j = i
    ·
     subst hj; rw [J1z]; exact m4
    rw [J0i _ _ _ _ hj]; exact hf j
   ·
    intro j hj
    rw [J0i _ _ _ _ (by omega)]
    exact β.out j (by omega)
   ·
    exact Z9 G (by omega) _ _
   ·
    exact J8 M (by omega) _ _
   ·
    exact J8 T (by omega) _ _
   ·
    exact J8 J (by omega) _ _
   exact J8 D (by omega) _ _
  case measure => simp [intOf]; omega
end
end Go.Proofs.YtejkmhgkkibafaaGreatDoor.S8
