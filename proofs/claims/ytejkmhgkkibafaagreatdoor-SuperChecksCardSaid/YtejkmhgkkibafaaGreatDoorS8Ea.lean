/- Contracts and plain laws that superChecks_holds rests on. Conditions: the variables' cells hold the numbers of the program's text. -/
import Derived.Test.YtejkmhgkkibafaaGreatDoorGc
import Derived.Test.YtejkmhgkkibafaaGreatDoorJ6
import Derived.Test.YtejkmhgkkibafaaGreatDoorJ3
import Derived.Test.YtejkmhgkkibafaaGreatDoorJ8
import Derived.Test.YtejkmhgkkibafaaGreatDoorGb
import Derived.Test.YtejkmhgkkibafaaGreatDoorGa
import Derived.Deep.QuietTactic
import Derived.BigQuiet
import Derived.BigRegion
import Derived.Lib.Hide
import Derived.Laws.Rows
open Go.RowKit
set_option maxRecDepth 100000
set_option linter.unusedSimpArgs false
set_option linter.unusedVariables false
namespace Go.Proofs.YtejkmhgkkibafaaGreatDoor.S8
section
set_option maxHeartbeats 4000000

theorem Q74 (a0 a1 a2 a3 b0 b1 b2 b3 : Int) (ha : U4 a0 a1 a2 a3) (hb : U4 b0 b1 b2 b3) (w : World) :
    Calls Tryz.prog 173 #[A4 a0 a1 a2 a3, A4 b0 b1 b2 b3] w fun e w' =>
      K7 (.tuple #[L4 (J6p (J0i a0 a1 a2 a3) (J0i b0 b1 b2 b3)), .int .u64 (brw (J0i a0 a1 a2 a3) (J0i b0 b1 b2 b3))]) w w' e := by
  have D := Q3j a0 a1 a2 a3 b0 b1 b2 b3 ha hb
  have HC := Lib.hid D
  clear D
  have h0 := J33 a0 b0 0 ha.1 hb.1 (by omega) (by omega)
  have h1 := J33 a1 b1 _ ha.2.1 hb.2.1 (J4f a0 b0 0).1 (J4f a0 b0 0).2
  have h2 := J33 a2 b2 _ ha.2.2.1 hb.2.2.1 (J4f a1 b1 (sbB a0 b0 0)).1 (J4f a1 b1 (sbB a0 b0 0)).2
  have h3 := J33 a3 b3 _ ha.2.2.2 hb.2.2.2 (J4f a2 b2 (sbB a1 b1 (sbB a0 b0 0))).1 (J4f a2 b2 (sbB a1 b1 (sbB a0 b0 0))).2
  clear ha hb
  go_enter Tryz.func173, Tryz.ntmps173
  go_wp2
  refine wp_loop_rounds 5 ?_
  rw [rounds_succ]
  go_wp2
  go_region
  go_wp2
  rw [rounds_succ]
  go_wp2
  go_region
  go_wp2
  rw [rounds_succ]
  go_wp2
  go_region
  go_wp2
  rw [rounds_succ]
  go_wp2
  go_region
  go_wp2
  rw [rounds_succ]
  go_wp2
  refine bodyPost_ret (v := .tuple #[A4 (sbD a0 b0 0) (sbD a1 b1 (sbB a0 b0 0)) (sbD a2 b2 (sbB a1 b1 (sbB a0 b0 0))) (sbD a3 b3 (sbB a2 b2 (sbB a1 b1 (sbB a0 b0 0)))), .int .u64 (sbB a3 b3 (sbB a2 b2 (sbB a1 b1 (sbB a0 b0 0))))]) (by simp [results, Tryz.results173, go_sem]) rfl ⟨?_, ?_⟩
  · rw [HC.out.1, HC.out.2]
  exact bz

theorem add_c (a0 a1 a2 a3 b0 b1 b2 b3 : Int) (ha : U4 a0 a1 a2 a3) (hb : U4 b0 b1 b2 b3) (w : World) :
    Calls Tryz.prog 172 #[A4 a0 a1 a2 a3, A4 b0 b1 b2 b3] w fun e w' =>
      K7 (.tuple #[L4 ((J0i a0 a1 a2 a3 + J0i b0 b1 b2 b3) % Q5), .int .u64 ((J0i a0 a1 a2 a3 + J0i b0 b1 b2 b3) / Q5 : Nat)]) w w' e := by
  have D := Q3k a0 a1 a2 a3 b0 b1 b2 b3 0 ha hb (by omega) (by omega)
  simp only [Int.toNat_zero, Nat.add_zero] at D
  have HC := Lib.hid D
  clear D
  have v0 := J87 a0 b0 0 ha.1 hb.1 (by omega) (by omega)
  have v1 := J87 a1 b1 _ ha.2.1 hb.2.1 v0.1 v0.2
  have v2 := J87 a2 b2 _ ha.2.2.1 hb.2.2.1 v1.1 v1.2
  have h0 := J0x a0 b0 0 ha.1 hb.1 (by omega) (by omega)
  have h1 := J0x a1 b1 _ ha.2.1 hb.2.1 v0.1 v0.2
  have h2 := J0x a2 b2 _ ha.2.2.1 hb.2.2.1 v1.1 v1.2
  have h3 := J0x a3 b3 _ ha.2.2.2 hb.2.2.2 v2.1 v2.2
  clear v0 v1 v2
  clear ha hb
  go_enter Tryz.func172, Tryz.ntmps172
  go_wp2
  refine wp_loop_rounds 5 ?_
  rw [rounds_succ]
  go_wp2
  go_region
  go_wp2
  rw [rounds_succ]
  go_wp2
  go_region
  go_wp2
  rw [rounds_succ]
  go_wp2
  go_region
  go_wp2
  rw [rounds_succ]
  go_wp2
  go_region
  go_wp2
  rw [rounds_succ]
  go_wp2
  refine bodyPost_ret (v := .tuple #[A4 (adS a0 b0 0) (adS a1 b1 (adC a0 b0 0)) (adS a2 b2 (adC a1 b1 (adC a0 b0 0))) (adS a3 b3 (adC a2 b2 (adC a1 b1 (adC a0 b0 0)))), .int .u64 (adC a3 b3 (adC a2 b2 (adC a1 b1 (adC a0 b0 0))))]) (by simp [results, Tryz.results172, go_sem]) rfl ⟨?_, ?_⟩
  · rw [HC.out.1, HC.out.2]; rfl
  exact bz

theorem Q8s (A B : Nat) (hA : A < Q5) (hB : B < Q5) (w : World) : Calls Tryz.prog 173 #[L4 A, L4 B] w fun e w' => K7 (.tuple #[L4 (J6p A B), .int .u64 (brw A B)]) w w' e := by
  have h := Q74 _ _ _ _ _ _ _ _ (J4m A) (J4m B) w
  rw [J12 A hA, J12 B hB] at h; exact h
theorem Q8t (A B : Nat) (hA : A < Q5) (hB : B < Q5) (w : World) : Calls Tryz.prog 172 #[L4 A, L4 B] w fun e w' => K7 (.tuple #[L4 ((A + B) % Q5), .int .u64 ((A + B) / Q5 : Nat)]) w w' e := by
  have h := add_c _ _ _ _ _ _ _ _ (J4m A) (J4m B) w
  rw [J12 A hA, J12 B hB] at h; exact h
end

section
set_option maxHeartbeats 4000000

def PP : Nat := 57896044618658097711785492504343953926634992332820282019728792003956564819949
theorem J5x : PP < Q5 := by decide +kernel
theorem PP_two : 2 * PP + 38 = Q5 := by decide +kernel
theorem K9 (n : Nat) : n % PP < Q5 := Nat.lt_trans (Nat.mod_lt _ (by decide)) J5x
theorem Q8u {X n : Nat} (h : X = n % PP) : X < Q5 := h ▸ K9 n
def modC : Array Value := #[.int .u64 18446744073709551597, .int .u64 18446744073709551615, .int .u64 18446744073709551615, .int .u64 9223372036854775807]
def imaC : Array Value := #[.int .u64 14190309331451158704, .int .u64 3405592160176694392, .int .u64 3120150775007532967, .int .u64 3135389899092516619]
def GF (w : World) : Prop := Rd w 13 modC ∧ True
def GI (w : World) : Prop := Rd w 12 imaC
theorem V6 {w W : World} (h : GF w) (e : Ext w W) : GF W := ⟨h.1.ext e, trivial⟩
theorem Q2c (n : Nat) (hn : n < 18446744073709551616) : L4 n = .agg #[.int .u64 (n : Int), .int .u64 0, .int .u64 0, .int .u64 0] := by
  have h0 : K3 n 0 = (n : Int) := by unfold K3; simp only [Nat.mul_zero, Nat.pow_zero, Nat.div_one]; omega
  have h1 : K3 n 1 = 0 := by unfold K3; rw [Nat.div_eq_of_lt (by simp only [Nat.reduceMul, Nat.reducePow]; omega)]; rfl
  have h2 : K3 n 2 = 0 := by unfold K3; rw [Nat.div_eq_of_lt (by simp only [Nat.reduceMul, Nat.reducePow]; omega)]; rfl
  have h3 : K3 n 3 = 0 := by unfold K3; rw [Nat.div_eq_of_lt (by simp only [Nat.reduceMul, Nat.reducePow]; omega)]; rfl
  unfold L4; rw [h0, h1, h2, h3]
theorem Y0g (A B : Nat) (hA : A < Q5) (hB : B < Q5) (h : A + B < Q5) (w : World) : Calls Tryz.prog 172 #[L4 A, L4 B] w fun e w' => K7 (.tuple #[L4 (A + B), .int .u64 0]) w w' e := by
  have := Q8t A B hA hB w
  rw [Nat.mod_eq_of_lt h, Nat.div_eq_of_lt h] at this; exact this
theorem Y0h (A B : Nat) (hA : A < Q5) (hB : B < Q5) (h : Q5 ≤ A + B) (w : World) : Calls Tryz.prog 172 #[L4 A, L4 B] w fun e w' => K7 (.tuple #[L4 (A + B - Q5), .int .u64 1]) w w' e := by
  have := Q8t A B hA hB w
  have e1 : (A + B) % Q5 = A + B - Q5 := by rw [Nat.mod_eq_sub_mod h, Nat.mod_eq_of_lt (by omega)]
  have e2 : (A + B) / Q5 = 1 := Nat.div_eq_of_lt_le (by omega) (by omega)
  rw [e1, e2] at this; exact this
theorem Q75 (A n : Nat) (hA : A < Q5) (hn : n < 18446744073709551616) (h : A + n < Q5) (w : World) : Calls Tryz.prog 172 #[L4 A, .agg #[.int .u64 (n : Int), .int .u64 0, .int .u64 0, .int .u64 0]] w fun e w' => K7 (.tuple #[L4 (A + n), .int .u64 0]) w w' e := by
  rw [← Q2c n hn]; exact Y0g A n hA (by unfold Q5; omega) h w
theorem Z63 (A n : Nat) (hA : A < Q5) (hn : n < 18446744073709551616) (h : Q5 ≤ A + n) (w : World) : Calls Tryz.prog 172 #[L4 A, .agg #[.int .u64 (n : Int), .int .u64 0, .int .u64 0, .int .u64 0]] w fun e w' => K7 (.tuple #[L4 (A + n - Q5), .int .u64 1]) w w' e := by
  rw [← Q2c n hn]; exact Y0h A n hA (by unfold Q5; omega) h w
def J6m (A n : Nat) : Nat := if A + n < Q5 then A + n else A + n - Q5 + 38

theorem Y0i (A n : Nat) (hA : A < Q5) (hn : n < 18446744073709551616) (h : A + n < Q5) (w : World) :
  Calls Tryz.prog 168 #[L4 A, .int .u64 (n : Int)] w fun e w' => K7 (L4 (A + n)) w w' e := by
 go_enter Tryz.func168, Tryz.ntmps168
 go_upto_region 1 with fail
 refine wn2 (c1 := (c4 (A))) (t1 := 155) (c2 := #[.int .u64 0, .int .u64 0, .int .u64 0, .int .u64 0]) (t2 := 155) fun W0 J M D => ?_
 have c1 := Q75 A n hA hn h
 refine Px1 7 5 (z := #[.int .u64 0, .int .u64 0, .int .u64 0, .int .u64 0]) (t := 155) ?_
 refine XL ?_
 refine Xv ?_
 refine Xv ?_
 refine Xf ?_ (fun W hW => c1 W)
 refine Xv ?_
 refine Xv ?_
 refine Xv ?_
 refine XN ?_
 intro N W1 U hE G
 have S := Q2 M
 have R := Q2 D
 have V := J.size
 refine LS ?_ G (g := N) (cells := c4 (A + n))
 refine Lv ?_
 refine J9 ?_
 refine J5q (fun W => Below w.heap.size w W ∧ Blk W w.heap.size (c4 (A)) 155 ∧ Blk W (w.heap.size + 1) #[.int .u64 0, .int .u64 0, .int .u64 0, .int .u64 0] 155 ∧ Blk W N (c4 (A + n)) 155) ⟨(Z7 (Y4 J hE J.size) (by omega) _), (Q0 (J2 M hE) (by omega) _), (Q0 (J2 D hE) (by omega) _), (Y8 G (c4 (A + n)))⟩ ?_
 clear J M D G
 rintro W2 ⟨J, M, D, G⟩
 go_upto_region 4 with fail
 refine Px 1 ?_
 refine XL ?_
 refine V7 fun W3 hE => ?_
 have T := Q2 G
 refine LS ?_ (J2 D hE) (g := (w.heap.size + 1)) (cells := c4 (A + n))
 refine J9 ?_
 refine J5q (fun W => Below w.heap.size w W ∧ Blk W w.heap.size (c4 (A)) 155 ∧ Blk W (w.heap.size + 1) (c4 (A + n)) 155 ∧ Blk W N (c4 (A + n)) 155) ⟨(Z7 (Y4 J hE J.size) (by omega) _), (Q0 (J2 M hE) (by omega) _), (Y8 (J2 D hE) (c4 (A + n))), (Q0 (J2 G hE) (by omega) _)⟩ ?_
 clear J M D G
 rintro W4 ⟨J, M, D, G⟩
 go_wp2
 refine bodyPost_ret (Z6 rfl rfl D (by kernel_rfl) (by kernel_rfl)) rfl ⟨?_, J⟩
 rfl
theorem Y0j (A n : Nat) (hA : A < Q5) (hn : n < 18446744073709551616) (h : Q5 ≤ A + n) (h2 : A + n - Q5 + 38 < Q5) (w : World) :
  Calls Tryz.prog 168 #[L4 A, .int .u64 (n : Int)] w fun e w' => K7 (L4 (A + n - Q5 + 38)) w w' e := by
 go_enter Tryz.func168, Tryz.ntmps168
 go_upto_region 1 with fail
 refine wn2 (c1 := (c4 (A))) (t1 := 155) (c2 := #[.int .u64 0, .int .u64 0, .int .u64 0, .int .u64 0]) (t2 := 155) fun W0 J M G => ?_
 have T := Z63 A n hA hn h
 obtain ⟨X1, R⟩ : ∃ X, X = A + n - Q5 := ⟨_, rfl⟩
 rw [← R] at T
 have U := Lib.hid R
 clear R
 refine Px1 7 5 (z := #[.int .u64 0, .int .u64 0, .int .u64 0, .int .u64 0]) (t := 155) ?_
 refine XL ?_
 refine Xv ?_
 refine Xv ?_
 refine Xf ?_ (fun W hW => T W)
 refine Xv ?_
 refine Xv ?_
 refine Xv ?_
 refine XN ?_
 intro N W1 δ hE D
 have α := Q2 M
 have Y := Q2 G
 have ε := J.size
 refine LS ?_ D (g := N) (cells := c4 (X1))
 refine Lv ?_
 refine J9 ?_
 refine J5q (fun W => Below w.heap.size w W ∧ Blk W w.heap.size (c4 (A)) 155 ∧ Blk W (w.heap.size + 1) #[.int .u64 0, .int .u64 0, .int .u64 0, .int .u64 0] 155 ∧ Blk W N (c4 (X1)) 155) ⟨(Z7 (Y4 J hE J.size) (by omega) _), (Q0 (J2 M hE) (by omega) _), (Q0 (J2 G hE) (by omega) _), (Y8 D (c4 (X1)))⟩ ?_
 clear J M G D
 rintro W2 ⟨J, M, G, D⟩
 go_upto_region 3 with fail
 have V := Q75 X1 38 (by rw [U.out]; omega) (by decide) (by rw [U.out]; omega)
 obtain ⟨X2, S⟩ : ∃ X, X = X1 + 38 := ⟨_, rfl⟩
 rw [← S] at V
 have γ := Lib.hid S
 clear S
 refine Px 6 ?_
 refine XL ?_
 refine Xv ?_
 refine Xf ?_ (fun W hW => V W)
 refine Xv ?_
 refine Xv ?_
 refine Xv ?_
 refine V7 fun W3 hE => ?_
 have β := Q2 D
 refine LS ?_ (J2 D hE) (g := N) (cells := c4 (X2))
 refine J9 ?_
 refine J5q (fun W => Below w.heap.size w W ∧ Blk W w.heap.size (c4 (A)) 155 ∧ Blk W (w.heap.size + 1) #[.int .u64 0, .int .u64 0, .int .u64 0, .int .u64 0] 155 ∧ Blk W N (c4 (X2)) 155) ⟨(Z7 (Y4 J hE J.size) (by omega) _), (Q0 (J2 M hE) (by omega) _), (Q0 (J2 G hE) (by omega) _), (Y8 (J2 D hE) (c4 (X2)))⟩ ?_
 clear J M G D
 rintro W4 ⟨J, M, G, D⟩
 go_upto_region 4 with fail
 refine Px 1 ?_
 refine XL ?_
 refine V7 fun W5 hE => ?_
 have Z := Q2 D
 refine LS ?_ (J2 G hE) (g := (w.heap.size + 1)) (cells := c4 (X2))
 refine J9 ?_
 refine J5q (fun W => Below w.heap.size w W ∧ Blk W w.heap.size (c4 (A)) 155 ∧ Blk W (w.heap.size + 1) (c4 (X2)) 155 ∧ Blk W N (c4 (X2)) 155) ⟨(Z7 (Y4 J hE J.size) (by omega) _), (Q0 (J2 M hE) (by omega) _), (Y8 (J2 G hE) (c4 (X2))), (Q0 (J2 D hE) (by omega) _)⟩ ?_
 clear J M G D
 rintro W6 ⟨J, M, G, D⟩
 go_wp2
 refine bodyPost_ret (Z6 rfl rfl G (by kernel_rfl) (by kernel_rfl)) rfl ⟨?_, J⟩
 rw [γ.out, U.out]; rfl
end

section
set_option maxHeartbeats 4000000

theorem Q55 : Value.agg modC = L4 PP := by kernel_rfl
theorem Z0u (A B : Nat) (hA : A < Q5) (hB : B < Q5) (h : B ≤ A) : J6p A B = A - B := by unfold J6p Q5 at *; omega
theorem Q56 (X : Nat) (hX : X < PP) (w : World) : Calls Tryz.prog 173 #[L4 X, .agg modC] w fun e w' => K7 (.tuple #[L4 (J6p X PP), .int .u64 1]) w w' e := by
  have := Q8s X PP (Nat.lt_trans hX J5x) J5x w
  rw [Q55]
  unfold brw at this; rw [if_pos hX] at this; exact this
theorem Q57 (X : Nat) (hX : X < Q5) (h : PP ≤ X) (w : World) : Calls Tryz.prog 173 #[L4 X, .agg modC] w fun e w' => K7 (.tuple #[L4 (X - PP), .int .u64 0]) w w' e := by
  have := Q8s X PP hX J5x w
  rw [Q55]
  rw [Z0u X PP hX J5x h] at this
  unfold brw at this; rw [if_neg (by omega)] at this; exact this
theorem Y9y (X : Nat) (h : PP ≤ X) (h1 : X - PP < PP) : X - PP = X % PP := by rw [Nat.mod_eq_sub_mod h, Nat.mod_eq_of_lt h1]
theorem Y9z (X : Nat) (h : PP ≤ X) (h1 : PP ≤ X - PP) (h2 : X - PP - PP < PP) : X - PP - PP = X % PP := by rw [Nat.mod_eq_sub_mod h, Nat.mod_eq_sub_mod h1, Nat.mod_eq_of_lt h2]

theorem Y6c (X : Nat) (hX : X < Q5) (hq : X < PP) (w : World) (hG : GF w) :
  Calls Tryz.prog 166 #[L4 X] w fun e w' => K7 (L4 X) w w' e := by
 go_enter Tryz.func166, Tryz.ntmps166
 go_wp2_with fail
 refine wp_loop_rounds 4 ?_
 rw [rounds_succ]
 go_upto_region 1 with fail
 refine wn2 (c1 := (c4 X)) (t1 := 155) (c2 := #[.int .u64 0, .int .u64 0, .int .u64 0, .int .u64 0]) (t2 := 155) fun W0 D Y0 J => ?_
 have T := Q2 Y0
 have S := Q2 J
 have gf := V6 hG D
 have gm := gf.1
 clear gf
 have R := Q56 X hq
 obtain ⟨X1, N⟩ := V3 (J6p X PP)
 rw [← N] at R
 have Z := Lib.hid N
 clear N
 refine Px1 6 3 (z := #[.int .u64 0, .int .u64 0, .int .u64 0, .int .u64 0]) (t := 155) ?_
 refine XL ?_
 refine XL ?_
 refine Xf ?_ (fun W hW => R W)
 refine Xv ?_
 refine Xv ?_
 refine Xv ?_
 refine XN ?_
 intro M W1 V hE G
 have Y := D.size
 refine LS ?_ G (g := M) (cells := c4 X1)
 refine Lv ?_
 refine J9 ?_
 have hF : Below w.heap.size w (W1.setRow M (c4 X1)) ∧ Blk (W1.setRow M (c4 X1)) w.heap.size (c4 X) 155 ∧ Blk (W1.setRow M (c4 X1)) (w.heap.size + 1) #[.int .u64 0, .int .u64 0, .int .u64 0, .int .u64 0] 155 ∧ Blk (W1.setRow M (c4 X1)) M (c4 X1) 155 := ⟨(Z7 (Y4 D hE D.size) (by omega) _), (Q0 (J2 Y0 hE) (by omega) _), (Q0 (J2 J hE) (by omega) _), (Y8 G (c4 X1))⟩
 generalize (W1.setRow M (c4 X1)) = W2 at hF ⊢
 clear D Y0 J G
 obtain ⟨D, Y0, J, G⟩ := hF
 go_upto_region 3 with fail
 have U := Q2 G
 have gf := V6 hG D
 have gm := gf.1
 clear gf
 refine Px 1 ?_
 refine XL ?_
 refine V7 fun W3 hE => ?_
 refine Lp ?_ (J2 J hE) (cells := c4 X)
 intro W4 hO h_
 refine J9 ?_
 replace Y0 := ko Y0 hE hO (by omega)
 replace J := h_
 replace G := ko G hE hO (by omega)
 replace D := bwo D hE hO D.size (by omega)
 clear hO h_
 go_wp2
 refine bodyPost_ret (Z6 rfl rfl J (by kernel_rfl) (by kernel_rfl)) rfl ⟨?_, D⟩
 rfl
theorem Y6d (X : Nat) (hX : X < Q5) (h0 : PP ≤ X) (hq : X - PP < PP) (w : World) (hG : GF w) :
  Calls Tryz.prog 166 #[L4 X] w fun e w' => K7 (L4 (X - PP)) w w' e := by
 go_enter Tryz.func166, Tryz.ntmps166
 go_wp2_with fail
 refine wp_loop_rounds 4 ?_
 rw [rounds_succ]
 go_upto_region 1 with fail
 refine wn2 (c1 := (c4 X)) (t1 := 155) (c2 := #[.int .u64 0, .int .u64 0, .int .u64 0, .int .u64 0]) (t2 := 155) fun W0 G Y0 J => ?_
 have Z := Q2 Y0
 have Y := Q2 J
 have gf := V6 hG G
 have gm := gf.1
 clear gf
 have T := Q57 X hX h0
 obtain ⟨X1, R⟩ := V3 (X - PP)
 rw [← R] at T
 have V := Lib.hid R
 clear R
 refine Px1 6 3 (z := #[.int .u64 0, .int .u64 0, .int .u64 0, .int .u64 0]) (t := 155) ?_
 refine XL ?_
 refine XL ?_
 refine Xf ?_ (fun W hW => T W)
 refine Xv ?_
 refine Xv ?_
 refine Xv ?_
 refine XN ?_
 intro M W1 ε hE D
 have η := G.size
 refine LS ?_ D (g := M) (cells := c4 X1)
 refine Lv ?_
 refine J9 ?_
 have hF : Below w.heap.size w (W1.setRow M (c4 X1)) ∧ Blk (W1.setRow M (c4 X1)) w.heap.size (c4 X) 155 ∧ Blk (W1.setRow M (c4 X1)) (w.heap.size + 1) #[.int .u64 0, .int .u64 0, .int .u64 0, .int .u64 0] 155 ∧ Blk (W1.setRow M (c4 X1)) M (c4 X1) 155 := ⟨(Z7 (Y4 G hE G.size) (by omega) _), (Q0 (J2 Y0 hE) (by omega) _), (Q0 (J2 J hE) (by omega) _), (Y8 D (c4 X1))⟩
 generalize (W1.setRow M (c4 X1)) = W2 at hF ⊢
 clear G Y0 J D
 obtain ⟨G, Y0, J, D⟩ := hF
 go_upto_region 4 with fail
 have α := Q2 D
 have gf := V6 hG G
 have gm := gf.1
 clear gf
 refine Px 1 ?_
 refine XL ?_
 refine V7 fun W3 hE => ?_
 refine LS ?_ (J2 Y0 hE) (g := w.heap.size) (cells := c4 X1)
 refine J9 ?_
 have hF : Below w.heap.size w (W3.setRow w.heap.size (c4 X1)) ∧ Blk (W3.setRow w.heap.size (c4 X1)) w.heap.size (c4 X1) 155 ∧ Blk (W3.setRow w.heap.size (c4 X1)) (w.heap.size + 1) #[.int .u64 0, .int .u64 0, .int .u64 0, .int .u64 0] 155 ∧ Blk (W3.setRow w.heap.size (c4 X1)) M (c4 X1) 155 := ⟨(Z7 (Y4 G hE G.size) (by omega) _), (Y8 (J2 Y0 hE) (c4 X1)), (Q0 (J2 J hE) (by omega) _), (Q0 (J2 D hE) (by omega) _)⟩
 generalize (W3.setRow w.heap.size (c4 X1)) = W4 at hF ⊢
 clear G Y0 J D
 obtain ⟨G, Y0, J, D⟩ := hF
 go_wp2_with fail
 rw [rounds_succ]
 go_upto_region 1 with fail
 have β := Q2 D
 have gf := V6 hG G
 have gm := gf.1
 clear gf
 have U := Q56 X1 (by rw [V.out]; exact hq)
 obtain ⟨X2, S⟩ := V3 (J6p X1 PP)
 rw [← S] at U
 have θ := Lib.hid S
 clear S
 refine Px1 6 3 (z := #[.int .u64 0, .int .u64 0, .int .u64 0, .int .u64 0]) (t := 155) ?_
 refine XL ?_
 refine XL ?_
 refine Xf ?_ (fun W hW => U W)
 refine Xv ?_
 refine Xv ?_
 refine Xv ?_
 refine XN ?_
 intro N W5 δ hE D
 have ζ := G.size
 refine LS ?_ D (g := N) (cells := c4 X2)
 refine Lv ?_
 refine J9 ?_
 have hF : Below w.heap.size w (W5.setRow N (c4 X2)) ∧ Blk (W5.setRow N (c4 X2)) w.heap.size (c4 X1) 155 ∧ Blk (W5.setRow N (c4 X2)) (w.heap.size + 1) #[.int .u64 0, .int .u64 0, .int .u64 0, .int .u64 0] 155 ∧ Blk (W5.setRow N (c4 X2)) N (c4 X2) 155 := ⟨(Z7 (Y4 G hE G.size) (by omega) _), (Q0 (J2 Y0 hE) (by omega) _), (Q0 (J2 J hE) (by omega) _), (Y8 D (c4 X2))⟩
 generalize (W5.setRow N (c4 X2)) = W6 at hF ⊢
 clear G Y0 J D
 obtain ⟨G, Y0, J, D⟩ := hF
 go_upto_region 3 with fail
 have γ := Q2 D
 have gf := V6 hG G
 have gm := gf.1
 clear gf
 refine Px 1 ?_
 refine XL ?_
 refine V7 fun W7 hE => ?_
 refine Lp ?_ (J2 J hE) (cells := c4 X1)
 intro W8 hO h_
 refine J9 ?_
 replace Y0 := ko Y0 hE hO (by omega)
 replace J := h_
 replace D := ko D hE hO (by omega)
 replace G := bwo G hE hO G.size (by omega)
 clear hO h_
 go_wp2
 refine bodyPost_ret (Z6 rfl rfl J (by kernel_rfl) (by kernel_rfl)) rfl ⟨?_, G⟩
 rw [V.out]; rfl
theorem Y6e (X : Nat) (hX : X < Q5) (h0 : PP ≤ X) (h1' : PP ≤ X - PP) (hq : X - PP - PP < PP) (w : World) (hG : GF w) :
  Calls Tryz.prog 166 #[L4 X] w fun e w' => K7 (L4 (X - PP - PP)) w w' e := by
 go_enter Tryz.func166, Tryz.ntmps166
 go_wp2_with fail
 refine wp_loop_rounds 4 ?_
 rw [rounds_succ]
 go_upto_region 1 with fail
 refine wn2 (c1 := (c4 X)) (t1 := 155) (c2 := #[.int .u64 0, .int .u64 0, .int .u64 0, .int .u64 0]) (t2 := 155) fun W0 G Y0 J => ?_
 have ε := Q2 Y0
 have δ := Q2 J
 have gf := V6 hG G
 have gm := gf.1
 clear gf
 have Z := Q57 X hX h0
 obtain ⟨X1, V⟩ := V3 (X - PP)
 rw [← V] at Z
 have S := Lib.hid V
 clear V
 have h1 : PP ≤ X1 := by rw [S.out]; exact h1'
 refine Px1 6 3 (z := #[.int .u64 0, .int .u64 0, .int .u64 0, .int .u64 0]) (t := 155) ?_
 refine XL ?_
 refine XL ?_
 refine Xf ?_ (fun W hW => Z W)
 refine Xv ?_
 refine Xv ?_
 refine Xv ?_
 refine XN ?_
 intro N W1 ξ hE D
 have σ := G.size
 refine LS ?_ D (g := N) (cells := c4 X1)
 refine Lv ?_
 refine J9 ?_
 have hF : Below w.heap.size w (W1.setRow N (c4 X1)) ∧ Blk (W1.setRow N (c4 X1)) w.heap.size (c4 X) 155 ∧ Blk (W1.setRow N (c4 X1)) (w.heap.size + 1) #[.int .u64 0, .int .u64 0, .int .u64 0, .int .u64 0] 155 ∧ Blk (W1.setRow N (c4 X1)) N (c4 X1) 155 := ⟨(Z7 (Y4 G hE G.size) (by omega) _), (Q0 (J2 Y0 hE) (by omega) _), (Q0 (J2 J hE) (by omega) _), (Y8 D (c4 X1))⟩
 generalize (W1.setRow N (c4 X1)) = W2 at hF ⊢
 clear G Y0 J D
 obtain ⟨G, Y0, J, D⟩ := hF
 go_upto_region 4 with fail
 have ζ := Q2 D
 have gf := V6 hG G
 have gm := gf.1
 clear gf
 refine Px 1 ?_
 refine XL ?_
 refine V7 fun W3 hE => ?_
 refine LS ?_ (J2 Y0 hE) (g := w.heap.size) (cells := c4 X1)
 refine J9 ?_
 have hF : Below w.heap.size w (W3.setRow w.heap.size (c4 X1)) ∧ Blk (W3.setRow w.heap.size (c4 X1)) w.heap.size (c4 X1) 155 ∧ Blk (W3.setRow w.heap.size (c4 X1)) (w.heap.size + 1) #[.int .u64 0, .int .u64 0, .int .u64 0, .int .u64 0] 155 ∧ Blk (W3.setRow w.heap.size (c4 X1)) N (c4 X1) 155 := ⟨(Z7 (Y4 G hE G.size) (by omega) _), (Y8 (J2 Y0 hE) (c4 X1)), (Q0 (J2 J hE) (by omega) _), (Q0 (J2 D hE) (by omega) _)⟩
 generalize (W3.setRow w.heap.size (c4 X1)) = W4 at hF ⊢
 clear G Y0 J D
 obtain ⟨G, Y0, J, D⟩ := hF
 go_wp2_with fail
 rw [rounds_succ]
 go_upto_region 1 with fail
 have θ := Q2 D
 have gf := V6 hG G
 have gm := gf.1
 clear gf
 have α := Q57 X1 (by rw [S.out]; omega) h1
 obtain ⟨X2, Y⟩ := V3 (X1 - PP)
 rw [← Y] at α
 have β := Lib.hid Y
 clear Y
 refine Px1 6 3 (z := #[.int .u64 0, .int .u64 0, .int .u64 0, .int .u64 0]) (t := 155) ?_
 refine XL ?_
 refine XL ?_
 refine Xf ?_ (fun W hW => α W)
 refine Xv ?_
 refine Xv ?_
 refine Xv ?_
 refine XN ?_
 intro M W5 μ hE D
 have ρ := G.size
 refine LS ?_ D (g := M) (cells := c4 X2)
 refine Lv ?_
 refine J9 ?_
 have hF : Below w.heap.size w (W5.setRow M (c4 X2)) ∧ Blk (W5.setRow M (c4 X2)) w.heap.size (c4 X1) 155 ∧ Blk (W5.setRow M (c4 X2)) (w.heap.size + 1) #[.int .u64 0, .int .u64 0, .int .u64 0, .int .u64 0] 155 ∧ Blk (W5.setRow M (c4 X2)) M (c4 X2) 155 := ⟨(Z7 (Y4 G hE G.size) (by omega) _), (Q0 (J2 Y0 hE) (by omega) _), (Q0 (J2 J hE) (by omega) _), (Y8 D (c4 X2))⟩
 generalize (W5.setRow M (c4 X2)) = W6 at hF ⊢
 clear G Y0 J D
 obtain ⟨G, Y0, J, D⟩ := hF
 go_upto_region 4 with fail
 have κ := Q2 D
 have gf := V6 hG G
 have gm := gf.1
 clear gf
 refine Px 1 ?_
 refine XL ?_
 refine V7 fun W7 hE => ?_
 refine LS ?_ (J2 Y0 hE) (g := w.heap.size) (cells := c4 X2)
 refine J9 ?_
 have hF : Below w.heap.size w (W7.setRow w.heap.size (c4 X2)) ∧ Blk (W7.setRow w.heap.size (c4 X2)) w.heap.size (c4 X2) 155 ∧ Blk (W7.setRow w.heap.size (c4 X2)) (w.heap.size + 1) #[.int .u64 0, .int .u64 0, .int .u64 0, .int .u64 0] 155 ∧ Blk (W7.setRow w.heap.size (c4 X2)) M (c4 X2) 155 := ⟨(Z7 (Y4 G hE G.size) (by omega) _), (Y8 (J2 Y0 hE) (c4 X2)), (Q0 (J2 J hE) (by omega) _), (Q0 (J2 D hE) (by omega) _)⟩
 generalize (W7.setRow w.heap.size (c4 X2)) = W8 at hF ⊢
 clear G Y0 J D
 obtain ⟨G, Y0, J, D⟩ := hF
 go_wp2_with fail
 rw [rounds_succ]
 go_upto_region 1 with fail
 have η := Q2 D
 have gf := V6 hG G
 have gm := gf.1
 clear gf
 have T := Q56 X2 (by rw [β.out, S.out]; exact hq)
 obtain ⟨X3, U⟩ := V3 (J6p X2 PP)
 rw [← U] at T
 have χ := Lib.hid U
 clear U
 refine Px1 6 3 (z := #[.int .u64 0, .int .u64 0, .int .u64 0, .int .u64 0]) (t := 155) ?_
 refine XL ?_
 refine XL ?_
 refine Xf ?_ (fun W hW => T W)
 refine Xv ?_
 refine Xv ?_
 refine Xv ?_
 refine XN ?_
 intro R W9 ν hE D
 have τ := G.size
 refine LS ?_ D (g := R) (cells := c4 X3)
 refine Lv ?_
 refine J9 ?_
 have hF : Below w.heap.size w (W9.setRow R (c4 X3)) ∧ Blk (W9.setRow R (c4 X3)) w.heap.size (c4 X2) 155 ∧ Blk (W9.setRow R (c4 X3)) (w.heap.size + 1) #[.int .u64 0, .int .u64 0, .int .u64 0, .int .u64 0] 155 ∧ Blk (W9.setRow R (c4 X3)) R (c4 X3) 155 := ⟨(Z7 (Y4 G hE G.size) (by omega) _), (Q0 (J2 Y0 hE) (by omega) _), (Q0 (J2 J hE) (by omega) _), (Y8 D (c4 X3))⟩
 generalize (W9.setRow R (c4 X3)) = W10 at hF ⊢
 clear G Y0 J D
 obtain ⟨G, Y0, J, D⟩ := hF
 go_upto_region 3 with fail
 have γ := Q2 D
 have gf := V6 hG G
 have gm := gf.1
 clear gf
 refine Px 1 ?_
 refine XL ?_
 refine V7 fun φ hE => ?_
 refine Lp ?_ (J2 J hE) (cells := c4 X2)
 intro ψ hO h_
 refine J9 ?_
 replace Y0 := ko Y0 hE hO (by omega)
 replace J := h_
 replace D := ko D hE hO (by omega)
 replace G := bwo G hE hO G.size (by omega)
 clear hO h_
 go_wp2
 refine bodyPost_ret (Z6 rfl rfl J (by kernel_rfl) (by kernel_rfl)) rfl ⟨?_, G⟩
 rw [β.out, S.out]; rfl
theorem J5l (X : Nat) (hX : X < Q5) (w : World) (hG : GF w) : Calls Tryz.prog 166 #[L4 X] w fun e w' => K7 (L4 (X % PP)) w w' e := by
  by_cases h0 : X < PP
  · rw [Nat.mod_eq_of_lt h0]; exact Y6c X hX h0 w hG
  by_cases h1 : X - PP < PP
  · rw [← Y9y X (by omega) h1]; exact Y6d X hX (by omega) h1 w hG
  have h2 : X - PP - PP < PP := by have := PP_two; have : PP = 57896044618658097711785492504343953926634992332820282019728792003956564819949 := rfl; omega
  rw [← Y9z X (by omega) (by omega) h2]; exact Y6e X hX (by omega) (by omega) h2 w hG
theorem Y0k (n : Nat) (hn : n < 18446744073709551616) (w : World) :
  Calls Tryz.prog 171 #[.int .u64 (n : Int)] w fun e w' => K7 (L4 n) w w' e := by
 go_enter Tryz.func171, Tryz.ntmps171
 go_upto_region 1 with fail
 refine wn1 (c1 := #[.int .u64 0, .int .u64 0, .int .u64 0, .int .u64 0]) (t1 := 155) fun W0 G D => ?_
 have J := Q2 D
 refine Px 2 ?_
 refine Xv ?_
 refine Xv ?_
 refine V7 fun W1 hE => ?_
 refine LS ?_ (J2 D hE) (g := w.heap.size) (cells := #[.int .u64 (n : Int), .int .u64 0, .int .u64 0, .int .u64 0])
 refine J9 ?_
 have hF : Below w.heap.size w (W1.setRow w.heap.size #[.int .u64 (n : Int), .int .u64 0, .int .u64 0, .int .u64 0]) ∧ Blk (W1.setRow w.heap.size #[.int .u64 (n : Int), .int .u64 0, .int .u64 0, .int .u64 0]) w.heap.size #[.int .u64 (n : Int), .int .u64 0, .int .u64 0, .int .u64 0] 155 := ⟨(Z7 (Y4 G hE G.size) (by omega) _), (Y8 (J2 D hE) #[.int .u64 (n : Int), .int .u64 0, .int .u64 0, .int .u64 0])⟩
 generalize (W1.setRow w.heap.size #[.int .u64 (n : Int), .int .u64 0, .int .u64 0, .int .u64 0]) = W2 at hF ⊢
 clear G D
 obtain ⟨G, D⟩ := hF
 go_wp2
 refine bodyPost_ret (Z6 rfl rfl D (by kernel_rfl) (by kernel_rfl)) rfl ⟨?_, G⟩
 rw [Q2c n hn]
theorem Q76 (A n : Nat) (hA : A < Q5) (hn : n < 18446744073709551616) : J6m A n < Q5 := by unfold J6m Q5 at *; split <;> omega
theorem Q40 (A n : Nat) : J6m A n % PP = (A + n) % PP := by
  unfold J6m
  split
  · rfl
  rename_i h
  have e : A + n = A + n - Q5 + 38 + PP + PP := by unfold Q5 PP at *; omega
  conv => rhs; rw [e, Nat.add_mod_right, Nat.add_mod_right]
theorem Z64 (A n : Nat) (hA : A < Q5) (hn : n < 18446744073709551616) (w : World) : Calls Tryz.prog 168 #[L4 A, .int .u64 (n : Int)] w fun e w' => K7 (L4 (J6m A n)) w w' e := by
  unfold J6m
  by_cases h : A + n < Q5
  · rw [if_pos h]; exact Y0i A n hA hn h w
  rw [if_neg h]; exact Y0j A n hA hn (by omega) (by unfold Q5 at *; omega) w
theorem add_mod (A B : Nat) (hA : A < Q5) (hB : B < Q5) : J6m ((A + B) % Q5) (38 * ((A + B) / Q5)) % PP = (A + B) % PP := by
  rw [Q40]
  by_cases h : A + B < Q5
  · rw [Nat.mod_eq_of_lt h, Nat.div_eq_of_lt h, Nat.mul_zero, Nat.add_zero]
  have e1 : (A + B) % Q5 = A + B - Q5 := by rw [Nat.mod_eq_sub_mod (by omega), Nat.mod_eq_of_lt (by omega)]
  have e2 : (A + B) / Q5 = 1 := Nat.div_eq_of_lt_le (by omega) (by omega)
  rw [e1, e2]
  conv => rhs; rw [show A + B = A + B - Q5 + 38 * 1 + PP + PP by unfold Q5 PP at *; omega, Nat.add_mod_right, Nat.add_mod_right]
theorem Y6f (A B : Nat) (hA : A < Q5) (hB : B < Q5) (w : World) : Calls Tryz.prog 172 #[L4 A, L4 B] w fun e w' => K7 (.tuple #[L4 ((A + B) % Q5), .int .u64 ((A + B) / Q5 : Nat)]) w w' e := Q8t A B hA hB w
theorem Y6g (A o : Nat) (hA : A < Q5) (ho : o ≤ 1) (w : World) : Calls Tryz.prog 168 #[L4 A, .int .u64 (IntKind.u64.wrap (38 * (o : Int)))] w fun e w' => K7 (L4 (J6m A (38 * o))) w w' e := by
  have : IntKind.u64.wrap (38 * (o : Int)) = ((38 * o : Nat) : Int) := by rw [IntKind.wrap_u64]; omega
  rw [this]; exact Z64 A (38 * o) hA (by omega) w
theorem Z65 (X : Nat) (hX : X < PP) (w : World) : Calls Tryz.prog 173 #[.agg modC, L4 X] w fun e w' => K7 (.tuple #[L4 (PP - X), .int .u64 0]) w w' e := by
  have := Q8s PP X J5x (Nat.lt_trans hX J5x) w
  rw [Z0u PP X J5x (Nat.lt_trans hX J5x) (by omega)] at this
  rw [Q55]
  unfold brw at this; rw [if_neg (by omega)] at this; exact this
theorem J4d (A B : Nat) (hA : A < Q5) (hB : B < Q5) (w : World) (hG : GF w) :
  Calls Tryz.prog 150 #[L4 A, L4 B] w fun e w' => K7 (L4 ((A + B) % PP)) w w' e := by
 go_enter Tryz.func150, Tryz.ntmps150
 go_upto_region 1 with fail
 refine wn3 (c1 := (c4 A)) (t1 := 155) (c2 := (c4 B)) (t2 := 155) (c3 := #[.int .u64 0, .int .u64 0, .int .u64 0, .int .u64 0]) (t3 := 155) fun W0 D N M G => ?_
 have Z := Q2 N
 have α := Q2 M
 have β := Q2 G
 have gf := V6 hG D
 have gm := gf.1
 have gi := gf.2
 have Y := Y6f A B hA hB
 obtain ⟨S, hS⟩ := V3 ((A + B) % Q5)
 obtain ⟨O, hO⟩ := V3 ((A + B) / Q5)
 rw [← hS, ← hO] at Y
 have bS : S < Q5 := by rw [hS]; exact Nat.mod_lt _ (by decide)
 have bO : O ≤ 1 := by rw [hO]; have : (A + B) / Q5 < 2 := Nat.div_lt_of_lt_mul (by omega); omega
 have HS := Lib.hid hS
 have HO := Lib.hid hO
 clear hS hO
 refine Px1 6 5 (z := #[.int .u64 0, .int .u64 0, .int .u64 0, .int .u64 0]) (t := 155) ?_
 refine XL ?_
 refine XL ?_
 refine Xf ?_ (fun W hW => Y W)
 refine Xv ?_
 refine Xv ?_
 refine Xv ?_
 refine XN ?_
 intro R W1 ζ hE J
 have θ := D.size
 refine LS ?_ J (g := R) (cells := c4 S)
 refine Lv ?_
 refine J9 ?_
 have hF : Below w.heap.size w (W1.setRow R (c4 S)) ∧ Blk (W1.setRow R (c4 S)) w.heap.size (c4 A) 155 ∧ Blk (W1.setRow R (c4 S)) (w.heap.size + 1) (c4 B) 155 ∧ Blk (W1.setRow R (c4 S)) (w.heap.size + 2) #[.int .u64 0, .int .u64 0, .int .u64 0, .int .u64 0] 155 ∧ Blk (W1.setRow R (c4 S)) R (c4 S) 155 := ⟨(Z7 (Y4 D hE D.size) (by omega) _), (Q0 (J2 N hE) (by omega) _), (Q0 (J2 M hE) (by omega) _), (Q0 (J2 G hE) (by omega) _), (Y8 J (c4 S))⟩
 generalize (W1.setRow R (c4 S)) = W2 at hF ⊢
 clear D N M G J
 obtain ⟨D, N, M, G, J⟩ := hF
 go_upto_region 2 with fail
 have γ := Q2 J
 have gf := V6 hG D
 have gm := gf.1
 have gi := gf.2
 have V := Y6g S O bS bO
 obtain ⟨X1, T⟩ := V3 (J6m S (38 * O))
 rw [← T] at V
 have ε : X1 < Q5 := by rw [T]; exact Q76 _ _ bS (by omega)
 have η := Lib.hid T
 clear T
 have X := J5l X1 ε
 obtain ⟨X2, U⟩ := V3 (X1 % PP)
 rw [← U] at X
 have κ := Q8u U
 have δ := Lib.hid U
 clear U
 refine Px 5 ?_
 refine XL ?_
 refine Xv ?_
 refine Xv ?_
 refine Xf ?_ (fun W hW => V W)
 refine Xf ?_ (fun W hW => X W (V6 gf hW))
 refine V7 fun W3 hE => ?_
 refine Lp ?_ (J2 G hE) (cells := c4 X2)
 intro W4 hO h_
 refine J9 ?_
 replace N := ko N hE hO (by omega)
 replace M := ko M hE hO (by omega)
 replace G := h_
 replace J := ko J hE hO (by omega)
 replace D := bwo D hE hO D.size (by omega)
 clear hO h_
 go_wp2
 refine bodyPost_ret (Z6 rfl rfl G (by kernel_rfl) (by kernel_rfl)) rfl ⟨?_, D⟩
 rw [← add_mod A B hA hB, ← HS.out, ← HO.out, ← η.out, ← δ.out]; rfl
theorem J8k (A : Nat) (hA : A < Q5) (w : World) (hG : GF w) :
  Calls Tryz.prog 152 #[L4 A] w fun e w' => K7 (L4 ((PP - A % PP) % PP)) w w' e := by
 go_enter Tryz.func152, Tryz.ntmps152
 go_upto_region 1 with fail
 refine wn2 (c1 := (c4 A)) (t1 := 155) (c2 := #[.int .u64 0, .int .u64 0, .int .u64 0, .int .u64 0]) (t2 := 155) fun W0 D Y0 J => ?_
 have Z := Q2 Y0
 have Y := Q2 J
 have gf := V6 hG D
 have gm := gf.1
 have gi := gf.2
 have U := J5l A hA
 obtain ⟨X1, R⟩ := V3 (A % PP)
 rw [← R] at U
 have θ := Q8u R
 have X := Lib.hid R
 clear R
 have V := Z65 X1 (by rw [X.out]; exact Nat.mod_lt _ (by decide))
 obtain ⟨X2, S⟩ := V3 (PP - X1)
 rw [← S] at V
 have γ : X2 < Q5 := by rw [S]; exact Nat.lt_of_le_of_lt (Nat.sub_le _ _) J5x
 have δ := Lib.hid S
 clear S
 refine Rx1 7 3 (z := #[.int .u64 0, .int .u64 0, .int .u64 0, .int .u64 0]) (t := 155) ?_
 refine XL ?_
 refine XL ?_
 refine Xf ?_ (fun W hW => U W (V6 gf hW))
 refine Xf ?_ (fun W hW => V W)
 refine Xv ?_
 refine Xv ?_
 refine Xv ?_
 refine XN ?_
 intro M W1 β hE G
 have ζ := D.size
 refine LS ?_ G (g := M) (cells := c4 X2)
 refine Lv ?_
 refine LN ?_
 have hF : Below w.heap.size w (W1.setRow M (c4 X2)) ∧ Blk (W1.setRow M (c4 X2)) w.heap.size (c4 A) 155 ∧ Blk (W1.setRow M (c4 X2)) (w.heap.size + 1) #[.int .u64 0, .int .u64 0, .int .u64 0, .int .u64 0] 155 ∧ Blk (W1.setRow M (c4 X2)) M (c4 X2) 155 := ⟨(Z7 (Y4 D hE D.size) (by omega) _), (Q0 (J2 Y0 hE) (by omega) _), (Q0 (J2 J hE) (by omega) _), (Y8 G (c4 X2))⟩
 generalize (W1.setRow M (c4 X2)) = W2 at hF ⊢
 clear D Y0 J G
 obtain ⟨D, Y0, J, G⟩ := hF
 go_upto_region 2 with fail
 have α := Q2 G
 have gf := V6 hG D
 have gm := gf.1
 have gi := gf.2
 have T := J5l X2 γ
 obtain ⟨X3, N⟩ := V3 (X2 % PP)
 rw [← N] at T
 have η := Q8u N
 have ε := Lib.hid N
 clear N
 refine Px 2 ?_
 refine XL ?_
 refine Xf ?_ (fun W hW => T W (V6 gf hW))
 refine V7 fun W3 hE => ?_
 refine Lp ?_ (J2 J hE) (cells := c4 X3)
 intro W4 hO h_
 refine J9 ?_
 replace Y0 := ko Y0 hE hO (by omega)
 replace J := h_
 replace G := ko G hE hO (by omega)
 replace D := bwo D hE hO D.size (by omega)
 clear hO h_
 go_wp2
 refine bodyPost_ret (Z6 rfl rfl J (by kernel_rfl) (by kernel_rfl)) rfl ⟨?_, D⟩
 rw [ε.out, δ.out, X.out]; rfl
end

section
set_option maxHeartbeats 4000000

theorem J3h (V i : Nat) (h : i < 4) : (c4 V)[i]? = some (.int .u64 (K3 V i)) := by
  have : i = 0 ∨ i = 1 ∨ i = 2 ∨ i = 3 := by omega
  rcases this with rfl | rfl | rfl | rfl <;> rfl

theorem Q58 (i k : Nat) (x y g c s cv : Int) (V V' Y Y' X B0 : Nat) (hx : V1 x) (hy : V1 y) (hg : V1 g) (hc : V1 c) (hs : V1 s) (hcv : V1 cv)
    (h5 : s + 18446744073709551616 * cv = x * y + g + c) (h1 : V' + g.toNat * 2 ^ (64 * (i + k)) = V + s.toNat * 2 ^ (64 * (i + k)))
    (h2 : V + c.toNat * 2 ^ (64 * (i + k)) = X + x.toNat * 2 ^ (64 * i) * Y) (hY : Y' = Y + y.toNat * 2 ^ (64 * k)) :
    V' + cv.toNat * 2 ^ (64 * (i + (k + 1))) = X + x.toNat * 2 ^ (64 * i) * Y' := by
  obtain ⟨x, rfl⟩ := Int.eq_ofNat_of_zero_le hx.1
  obtain ⟨y, rfl⟩ := Int.eq_ofNat_of_zero_le hy.1
  obtain ⟨g, rfl⟩ := Int.eq_ofNat_of_zero_le hg.1
  obtain ⟨c, rfl⟩ := Int.eq_ofNat_of_zero_le hc.1
  obtain ⟨s, rfl⟩ := Int.eq_ofNat_of_zero_le hs.1
  obtain ⟨d, rfl⟩ := Int.eq_ofNat_of_zero_le hcv.1
  simp only [Int.toNat_natCast] at *
  have h6 : s + 18446744073709551616 * d = x * y + g + c := by
    rw [← Int.natCast_mul] at h5
    generalize x * y = p at *
    omega
  have e1 : (2 : Nat) ^ (64 * (i + (k + 1))) = 18446744073709551616 * 2 ^ (64 * (i + k)) := by
    rw [show 64 * (i + (k + 1)) = 64 + 64 * (i + k) by omega, Nat.pow_add]
  have e2 : (2 : Nat) ^ (64 * (i + k)) = 2 ^ (64 * i) * 2 ^ (64 * k) := by rw [Nat.mul_add, Nat.pow_add]
  rw [hY, e1, Nat.mul_add (x * 2 ^ (64 * i))]
  have e3 : x * 2 ^ (64 * i) * (y * 2 ^ (64 * k)) = x * y * 2 ^ (64 * (i + k)) := by rw [e2, Nat.mul_mul_mul_comm]
  rw [e3]
  generalize 2 ^ (64 * (i + k)) = W at *
  have e4 : d * (18446744073709551616 * W) = 18446744073709551616 * d * W := by rw [Nat.mul_left_comm, Nat.mul_assoc]
  rw [e4]
  have h7 : s * W + 18446744073709551616 * d * W = x * y * W + g * W + c * W := by
    rw [← Nat.add_mul, h6, Nat.add_mul, Nat.add_mul]
  omega

theorem Q59 (B V' V C X Y W : Nat) {g : Int} (hB : B < Q5) (hg : g = 0) (h1 : V' + g.toNat * W = V + C) (h2 : V + C = X + Y * (B % 2 ^ (64 * 4))) : V' = X + Y * B := by
  rw [Nat.mod_eq_of_lt (show B < 2 ^ (64 * 4) from hB)] at h2
  rw [hg, Int.toNat_zero, Nat.zero_mul, Nat.add_zero] at h1
  rw [h1, h2]

theorem Z31 (A B : Nat) (hA : A < Q5) (hB : B < Q5) (w : World) :
    Calls Tryz.prog 167 #[L4 A, L4 B] w fun e w' => K7 (.agg (J0 .u64 8 (K3 (A * B)))) w w' e := by
  go_enter Tryz.func167, Tryz.ntmps167
  go_wp2
  go_loopw [16] (fun ii wr => ∃ i : Nat, i ≤ 4 ∧ ii = .int .i64 i ∧ Below w.heap.size w wr ∧
      Blk wr (w.heap.size + 1) (c4 B) 155 ∧ Blk wr (w.heap.size + 2) (J0 .u64 8 (fun _ => 0)) 186 ∧
      ∃ f : Nat → Int, Blk wr (w.heap.size + 3) (J0 .u64 8 f) 186 ∧ (∀ j, V1 (f j)) ∧ (∀ j, i + 4 ≤ j → f j = 0) ∧ J1o f 8 = A % 2 ^ (64 * i) * B)
    (fun ii _ => (4 - intOf ii).toNat)
  case atStart =>
    refine ⟨0, by omega, rfl, ?_, Y5 (Y5 (Y9 _ _ (by simp)) _) _, Y5 (Y9 _ _ (by simp)) _, fun _ => 0, Y9 _ _ (by simp), fun _ => ⟨by simp, by simp⟩, fun _ _ => rfl, ?_⟩
    · exact bz
    rw [J7q, Nat.mul_zero, Nat.pow_zero, Nat.mod_one, Nat.zero_mul]
  case round =>
    obtain ⟨i, hi, rfl, D, b1, b2, f, b3, hf, M, hv⟩ := hrel
    by_cases T : i = 4
    · subst T
      have HV := Lib.hid hv
      clear hv M
      go_wp2_with (first
        | (refine wpList_load_row rfl 186 (.tmp 5) rfl (w.heap.size + 3) rfl _ _ _ _ b3 Tryz.underlying186 rfl (by kernel_rfl) ?_)
        | (refine wpList_store_row rfl 186 (.tmp 4) (.tmp 65) rfl (w.heap.size + 2) _ rfl rfl 186 _ b2 (by kernel_rfl) (by kernel_rfl) (Z9 _ _ _) ?_))
      refine bodyPost_ret (results_cell_row rfl _ _ (w.heap.size + 2) _ _ _ _ rfl (Y8 b2 _) Tryz.underlying186 rfl (by kernel_rfl)) rfl ⟨?_, Z7 D (by omega) _⟩
      have e : J0 .u64 8 f = J0 .u64 8 (K3 (A * B)) := K5 _ _ _ _ fun j hj => by
        have := J5t f 8 j hj (fun i _ => hf i)
        rw [← this, HV.out, Nat.mod_eq_of_lt (show A < 2 ^ (64 * 4) from hA)]
      rw [e]
    have N : i < 4 := by omega
    have hi3' : (i : Int) < 4 := by omega
    have J : ∀ W, (Instr.index 155 (.agg #[.int .u64 (K3 A 0), .int .u64 (K3 A 1), .int .u64 (K3 A 2), .int .u64 (K3 A 3)]) (.int .i64 (i : Int))).run Tryz.prog W = .ok (.int .u64 (K3 A i)) W :=
      fun W => J1n W 155 71 4 .u64 .i64 (c4 A) i (K3 A i) Tryz.underlying155 Tryz.underlying71 (by kernel_rfl) N (J3h A i N)
    have c1 := J7 b1
    clear T
    go_wp2
    clear c1
    have U := Lib.hid M
    have HV := Lib.hid hv
    clear M hv J hi3'
    obtain ⟨wo, rfl⟩ : ∃ wo : World, wo = wr := ⟨_, rfl⟩
    go_loopw [8, 21] (fun cc kk wq => ∃ (k : Nat) (c : Int), k ≤ 4 ∧ kk = .int .i64 k ∧ cc = .int .u64 c ∧ V1 c ∧ Below w.heap.size w wq ∧
        Blk wq (w.heap.size + 1) (c4 B) 155 ∧ Blk wq (w.heap.size + 2) (J0 .u64 8 (fun _ => 0)) 186 ∧
        ∃ g : Nat → Int, Blk wq (w.heap.size + 3) (J0 .u64 8 g) 186 ∧ (∀ j, V1 (g j)) ∧ (∀ j, i + 4 ≤ j → g j = 0) ∧
          J1o g 8 + c.toNat * 2 ^ (64 * (i + k)) = A % 2 ^ (64 * i) * B + (K3 A i).toNat * 2 ^ (64 * i) * (B % 2 ^ (64 * k)))
      (fun _ kk _ => (4 - intOf kk).toNat)
    case atStart =>
      refine ⟨0, 0, by omega, rfl, rfl, ⟨by omega, by omega⟩, D, b1, b2, f, b3, hf, U.out, ?_⟩
      rw [HV.out, Nat.mul_zero, Nat.pow_zero, Nat.mod_one]; simp
    case round =>
      obtain ⟨k, c, hk, rfl, rfl, hc, D, b1, b2, g, b3, hg, R, hv⟩ := hrel
      have G := Lib.hid R
      have HV := Lib.hid hv
      clear R hv U
      by_cases S : k = 4
      · subst S
        have c3 := (J7 b3 (i + 4)).trans (J3 _ _ _ _ (by omega))
        have f3 := V2 b3
        have Y : (i : Int) + 4 < 8 := by omega
        go_wp2
        have hs := Z8 b3 (i + 4) (.int .u64 c)
        rw [V4] at hs
        go_roundw
        case rel =>
          refine ⟨i + 1, by omega, by go_num, ?_, J6 b1 (by omega) _ _, J6 b2 (by omega) _ _, upd g (i + 4) c, hs, ?_, ?_, ?_⟩
          · exact bz
          · intro j
            by_cases hj : j = i + 4
            · subst hj; rw [J1t]; exact hc
            rw [J0b _ _ _ _ hj]; exact hg j
          · intro j hj
            rw [J0b _ _ _ _ (by omega)]
            exact G.out j (by omega)
          rw [J5s, Nat.add_mul]
          exact Q59 B _ _ _ _ _ _ hB (G.out (i + 4) (by omega)) (J5r g (i + 4) c 8 (by omega)) HV.out
        case measure => simp [intOf]; omega
      have V : k < 4 := by omega
      have hk3' : (k : Int) < 4 := by omega
      clear S
      have J : ∀ W, (Instr.index 155 (.agg #[.int .u64 (K3 B 0), .int .u64 (K3 B 1), .int .u64 (K3 B 2), .int .u64 (K3 B 3)]) (.int .i64 (k : Int))).run Tryz.prog W = .ok (.int .u64 (K3 B k)) W :=
        fun W => J1n W 155 71 4 .u64 .i64 (c4 B) k (K3 B k) Tryz.underlying155 Tryz.underlying71 (by kernel_rfl) V (J3h B k V)
      obtain ⟨m1, m2, m3, m4, m5⟩ := Q1g (K3 A i) (K3 B k) (g (i + k)) c (J0j A i) (J0j B k) (hg _) hc
      have a1 := J0x (J5g (K3 A i) (K3 B k)) (g (i + k)) 0 m1 (hg _) (by omega) (by omega)
      have a2 := J0x (adS (J5g (K3 A i) (K3 B k)) (g (i + k)) 0) c 0 m2 hc (by omega) (by omega)
      obtain ⟨sv, X⟩ : ∃ sv, sv = adS (adS (J5g (K3 A i) (K3 B k)) (g (i + k)) 0) c 0 := ⟨_, rfl⟩
      rw [← X] at m4 m5 a2
      have M5 := Lib.hid m5
      clear m5 X
      have c3 := (J7 b3 (i + k)).trans (J3 _ _ _ _ (by omega))
      have f3 := V2 b3
      have Y : (i : Int) + (k : Int) < 8 := by omega
      go_wp2_with (go_at_call 141; refine (Q4e _ _ (J0j A i) (J0j B k) _).mono ?_; rintro e w' ⟨rfl, rfl⟩)
      have hs := Z8 b3 (i + k) (.int .u64 sv)
      rw [V4] at hs
      have h1 := J5r g (i + k) sv 8 (by omega)
      have h2 := HV.out
      have h5 := M5.out
      clear HV M5 a1 a2 c3 f3 J
      go_roundw
      case rel =>
        (repeat apply Exists.intro)
        refine ⟨?_, rfl⟩
        refine ⟨k + 1, _, by omega, by go_num, rfl, m3, ?_, J6 b1 (by omega) _ _, J6 b2 (by omega) _ _, upd g (i + k) sv, hs, ?_, ?_, ?_⟩
        · exact bz
        · intro j
          by_cases hj : j = i + k
          · subst hj; rw [J1t]; exact m4
          rw [J0b _ _ _ _ hj]; exact hg j
        · intro j hj
          rw [J0b _ _ _ _ (by omega)]
          exact G.out j hj
        exact Q58 i k (K3 A i) (K3 B k) (g (i + k)) c sv _ _ _ _ _ _ 0 (J0j A i) (J0j B k) (hg _) hc m4 m3 h5 h1 h2 (J5s B k)
      case measure => simp [intOf]; omega
end

section
set_option maxHeartbeats 4000000

theorem Z66 (i : Nat) (N V V' : Nat) (g s c cv : Int) (hg : V1 g) (hs : V1 s) (hc : V1 c) (hcv : V1 cv)
    (h5 : s + 18446744073709551616 * cv = K3 N (4 + i) * 38 + K3 N i + c) (h1 : V' + g.toNat * 2 ^ (64 * i) = V + s.toNat * 2 ^ (64 * i)) (hg0 : g = 0)
    (h2 : V + c.toNat * 2 ^ (64 * i) = N % 2 ^ (64 * i) + 38 * (N / 2 ^ 256 % 2 ^ (64 * i))) :
    V' + cv.toNat * 2 ^ (64 * (i + 1)) = N % 2 ^ (64 * (i + 1)) + 38 * (N / 2 ^ 256 % 2 ^ (64 * (i + 1))) := by
  have e4 : K3 N (4 + i) = K3 (N / 2 ^ 256) i := by
    unfold K3; rw [Nat.div_div_eq_div_mul, ← Nat.pow_add, show 64 * (4 + i) = 256 + 64 * i by omega]
  rw [e4] at h5
  rw [J5s N, J5s (N / 2 ^ 256)]
  have l1 := J0j N i
  have l2 := J0j (N / 2 ^ 256) i
  obtain ⟨x, hx⟩ := Int.eq_ofNat_of_zero_le l1.1
  obtain ⟨y, hy⟩ := Int.eq_ofNat_of_zero_le l2.1
  obtain ⟨s, rfl⟩ := Int.eq_ofNat_of_zero_le hs.1
  obtain ⟨c, rfl⟩ := Int.eq_ofNat_of_zero_le hc.1
  obtain ⟨d, rfl⟩ := Int.eq_ofNat_of_zero_le hcv.1
  subst hg0
  rw [hx, hy] at *
  simp only [Int.toNat_natCast, Int.toNat_zero, Nat.zero_mul, Nat.add_zero] at *
  have h6 : s + 18446744073709551616 * d = y * 38 + x + c := by omega
  have e1 : (2 : Nat) ^ (64 * (i + 1)) = 18446744073709551616 * 2 ^ (64 * i) := by rw [show 64 * (i + 1) = 64 + 64 * i by omega, Nat.pow_add]
  rw [e1]
  generalize N % 2 ^ (64 * i) = n0 at *
  generalize N / 2 ^ 256 % 2 ^ (64 * i) = n1 at *
  generalize 2 ^ (64 * i) = W at *
  have e5 : d * (18446744073709551616 * W) = 18446744073709551616 * d * W := by rw [Nat.mul_left_comm, Nat.mul_assoc]
  have h7 : s * W + 18446744073709551616 * d * W = y * 38 * W + x * W + c * W := by
    rw [← Nat.add_mul, h6, Nat.add_mul, Nat.add_mul]
  have e6 : y * 38 * W = 38 * (y * W) := by rw [Nat.mul_comm y 38, Nat.mul_assoc]
  rw [e5, Nat.mul_add]
  generalize y * W = yw at *
  omega
theorem Y0l (A B S c : Nat) (hA : A < Q5) (hB : B < Q5) (h : S + c * 2 ^ (64 * 4) = A * B % 2 ^ (64 * 4) + 38 * (A * B / 2 ^ 256 % 2 ^ (64 * 4))) : J6m S (38 * c) % PP = A * B % PP := by
  have hN : A * B / 2 ^ 256 < Q5 := Nat.div_lt_of_lt_mul (Nat.mul_lt_mul'' hA hB)
  have e : (2 : Nat) ^ (64 * 4) = Q5 := by decide
  have e' : (2 : Nat) ^ 256 = Q5 := by decide
  rw [show (2 : Nat) ^ (64 * 4) = 2 ^ 256 by decide] at h
  rw [e'] at h hN
  rw [Nat.mod_eq_of_lt hN] at h
  rw [Q40]
  have hd := Nat.div_add_mod (A * B) Q5
  generalize A * B / Q5 = q at *
  generalize A * B % Q5 = r at *
  generalize A * B = N at *
  have h2 : Q5 = 2 * PP + 38 := PP_two.symm
  have G : S + 38 * c + PP * (2 * c) = r + 38 * q := by
    have : PP * (2 * c) = c * (2 * PP) := by rw [Nat.mul_left_comm, Nat.mul_comm PP c, Nat.mul_left_comm]
    rw [h2, Nat.mul_add] at h
    omega
  have D : N = r + 38 * q + PP * (2 * q) := by
    have : PP * (2 * q) = 2 * PP * q := by rw [Nat.mul_left_comm, Nat.mul_assoc]
    rw [← hd, h2, Nat.add_mul]; omega
  rw [D, ← G, Nat.add_mul_mod_self_left, Nat.add_mul_mod_self_left]

theorem Y0m (S O N : Nat) (h : S + O * 2 ^ (64 * 4) = N % 2 ^ (64 * 4) + 38 * (N / 2 ^ 256 % 2 ^ (64 * 4))) : O ≤ 38 := by
  have h1 : N % 2 ^ (64 * 4) < Q5 := Nat.mod_lt _ (by decide)
  have h2 : N / 2 ^ 256 % 2 ^ (64 * 4) < Q5 := Nat.mod_lt _ (by decide)
  rw [show (2 : Nat) ^ (64 * 4) = Q5 by decide] at *
  unfold Q5 at *; omega
theorem V00 (f : Nat → Int) : J0 .u64 4 f = #[.int .u64 (f 0), .int .u64 (f 1), .int .u64 (f 2), .int .u64 (f 3)] := rfl
theorem Y0n (f : Nat → Int) (hf : ∀ j, V1 (f j)) : Value.agg (J0 .u64 4 f) = L4 (J1o f 4) := by
  rw [V00]; unfold L4
  rw [J5t f 4 0 (by omega) (fun i _ => hf i), J5t f 4 1 (by omega) (fun i _ => hf i), J5t f 4 2 (by omega) (fun i _ => hf i), J5t f 4 3 (by omega) (fun i _ => hf i)]
theorem Z67 (f : Nat → Int) (S o : Nat) (hS : S = J1o f 4) (hf : ∀ j, V1 (f j)) (hA : S < Q5) (ho : o ≤ 38) (w : World) : Calls Tryz.prog 168 #[.agg (J0 .u64 4 f), .int .u64 (IntKind.u64.wrap (38 * (o : Int)))] w fun e w' => K7 (L4 (J6m S (38 * o))) w w' e := by
  have : IntKind.u64.wrap (38 * (o : Int)) = ((38 * o : Nat) : Int) := by rw [IntKind.wrap_u64]; omega
  rw [this, Y0n f hf, ← hS]; exact Z64 S (38 * o) hA (by omega) w
theorem J06 (A B : Nat) (hA : A < Q5) (hB : B < Q5) (w : World) (hG : GF w) :
  Calls Tryz.prog 136 #[L4 A, L4 B] w fun e w' => K7 (L4 (A * B % PP)) w w' e := by
 go_enter Tryz.func136, Tryz.ntmps136
 go_upto_region 1 with fail
 refine wn3 (c1 := (c4 A)) (t1 := 155) (c2 := (c4 B)) (t2 := 155) (c3 := #[.int .u64 0, .int .u64 0, .int .u64 0, .int .u64 0]) (t3 := 155) fun W0 G R T J => ?_
 have σ := Q2 R
 have φ := Q2 T
 have μ := Q2 J
 have gf := V6 hG G
 have gm := gf.1
 have gi := gf.2
 have η := Z31 A B hA hB
 obtain ⟨N, hN⟩ := V3 (A * B)
 rw [← hN] at η
 have HN := Lib.hid hN
 clear hN
 refine Px1 3 5 (z := J0 .u64 8 (fun _ => 0)) (t := 186) ?_
 refine XL ?_
 refine XL ?_
 refine Xf ?_ (fun W hW => η W)
 refine XN ?_
 intro δ W1 Γ hE D
 have Ψ := G.size
 refine Lp ?_ D (cells := J0 .u64 8 (K3 N)) (h1 := (Z9 _ _ _))
 intro W2 hO h_
 refine J9 ?_
 replace R := ko R hE hO (by omega)
 replace T := ko T hE hO (by omega)
 replace J := ko J hE hO (by omega)
 replace D := h_
 replace G := bwo G hE hO G.size (by omega)
 clear hO h_
 go_upto_region 2 with fail
 have χ := Q2 D
 have gf := V6 hG G
 have gm := gf.1
 have gi := gf.2
 refine Px1 0 6 (z := #[.int .u64 0, .int .u64 0, .int .u64 0, .int .u64 0]) (t := 155) ?_
 refine XN ?_
 intro ε W3 Θ hE M
 have Ξ := G.size
 refine J9 ?_
 have hF : Below w.heap.size w W3 ∧ Blk W3 w.heap.size (c4 A) 155 ∧ Blk W3 (w.heap.size + 1) (c4 B) 155 ∧ Blk W3 (w.heap.size + 2) #[.int .u64 0, .int .u64 0, .int .u64 0, .int .u64 0] 155 ∧ Blk W3 δ (J0 .u64 8 (K3 N)) 186 ∧ Blk W3 ε #[.int .u64 0, .int .u64 0, .int .u64 0, .int .u64 0] 155 := ⟨(Y4 G hE G.size), (J2 R hE), (J2 T hE), (J2 J hE), (J2 D hE), M⟩
 clear G R T J D M
 obtain ⟨G, R, T, J, D, M⟩ := hF
 have ξ := Q2 M
 go_wp2_with fail
 go_loopw [7, 16] (fun cc ii wr => ∃ (i : Nat) (c : Int) (f : Nat → Int), i ≤ 4 ∧ ii = .int .i64 i ∧ cc = .int .u64 c ∧ V1 c ∧ (∀ j, V1 (f j)) ∧ (∀ j, i ≤ j → f j = 0) ∧ J1o f 4 + c.toNat * 2 ^ (64 * i) = N % 2 ^ (64 * i) + 38 * (N / 2 ^ 256 % 2 ^ (64 * i)) ∧ Below w.heap.size w wr ∧ Blk wr w.heap.size (c4 A) 155 ∧ Blk wr (w.heap.size + 1) (c4 B) 155 ∧ Blk wr (w.heap.size + 2) #[.int .u64 0, .int .u64 0, .int .u64 0, .int .u64 0] 155 ∧ Blk wr δ (J0 .u64 8 (K3 N)) 186 ∧ Blk wr ε (J0 .u64 4 f) 155)
  (fun cc ii _ => (4 - intOf ii).toNat)
 case atStart =>
  refine ⟨0, 0, fun _ => 0, by omega, rfl, rfl, ⟨by omega, by omega⟩, fun _ => ⟨by simp, by simp⟩, fun _ _ => rfl, ?_, G, R, T, J, D, M⟩
  rw [J7q, Nat.mul_zero, Nat.pow_zero, Nat.mod_one, Nat.mod_one]; rfl
 case round =>
  obtain ⟨i, c, f, hi, rfl, rfl, hc, hf, β, hv, G, R, T, J, D, M⟩ := hrel
  have HV := Lib.hid hv
  have ζ := Lib.hid β
  clear hv β
  by_cases U : i = 4
  ·
   have Ω := U
   subst U
   go_upto_region 14 with fail
   have κ := Q2 R
   have ν := Q2 T
   have ρ := Q2 J
   have τ := Q2 D
   have θ := Q2 M
   have gf := V6 hG G
   have gm := gf.1
   have gi := gf.2
   obtain ⟨S, hS⟩ := V3 (J1o f 4)
   have bS : S < Q5 := by rw [hS]; exact J8t f 4 (fun j _ => hf j)
   obtain ⟨O, rfl⟩ := Int.eq_ofNat_of_zero_le hc.1
   have hw := HV.out
   rw [← hS, Int.toNat_natCast] at hw
   have bO : O ≤ 38 := Y0m _ _ _ hw
   have Y := Z67 f S O hS (fun j => hf j) bS bO
   obtain ⟨X1, V⟩ := V3 (J6m S (38 * O))
   rw [← V] at Y
   have Δ : X1 < Q5 := by rw [V]; exact Q76 _ _ bS (by omega)
   have ω := Lib.hid V
   clear V
   have Z := J5l X1 Δ
   obtain ⟨X2, X⟩ := V3 (X1 % PP)
   rw [← X] at Z
   have D0 := Q8u X
   have ψ := Lib.hid X
   clear X
   refine Px 5 ?_
   refine XL ?_
   refine Xv ?_
   refine Xv ?_
   refine Xf ?_ (fun W hW => Y W)
   refine Xf ?_ (fun W hW => Z W (V6 gf hW))
   refine V7 fun W5 hE => ?_
   refine Lp ?_ (J2 J hE) (cells := c4 X2)
   intro W6 hO h_
   refine J9 ?_
   replace R := ko R hE hO (by omega)
   replace T := ko T hE hO (by omega)
   replace J := h_
   replace D := ko D hE hO (by omega)
   replace M := ko M hE hO (by omega)
   replace G := bwo G hE hO G.size (by omega)
   clear hO h_
   go_wp2
   refine bodyPost_ret (Z6 rfl rfl J (by kernel_rfl) (by kernel_rfl)) rfl ⟨?_, G⟩
   rw [ψ.out, ω.out, Y0l A B S O hA hB (by rw [← HN.out]; exact hw)]; rfl
  have α : i < 4 := by omega
  have hi3' : (i : Int) < 4 := by omega
  have D1 : 4 + (i : Int) < 8 := by omega
  have hi8' : (i : Int) < 8 := by omega
  clear U
  obtain ⟨m1, m2, m3, m4, m5⟩ := Q1g (K3 N (4 + i)) 38 (K3 N i) c (J0j N _) (by unfold V1; omega) (J0j N i) hc
  have a1 := J0x (J5g (K3 N (4 + i)) 38) (K3 N i) 0 m1 (J0j N i) (by omega) (by omega)
  have a2 := J0x (adS (J5g (K3 N (4 + i)) 38) (K3 N i) 0) c 0 m2 hc (by omega) (by omega)
  obtain ⟨sv, γ⟩ : ∃ sv, sv = adS (adS (J5g (K3 N (4 + i)) 38) (K3 N i) 0) c 0 := ⟨_, rfl⟩
  rw [← γ] at m4 m5 a2
  have M5 := Lib.hid m5
  clear m5 γ
  have c5 := (J7 D (4 + i)).trans (J3 _ _ _ _ (by omega))
  have c5' := (J7 D i).trans (J3 _ _ _ _ (by omega))
  have c6 := (J7 M i).trans (J3 _ _ _ _ α)
  have f6 := V2 M
  go_wp2_with (go_at_call 141; refine (Q4e _ _ (J0j N (4 + i)) (by unfold V1; omega) _).mono ?_; rintro e w' ⟨rfl, rfl⟩)
  have hs := Z8 M i (.int .u64 sv)
  rw [V4] at hs
  have h1 := J5r f i sv 4 α
  have h2 := HV.out
  have h5 := M5.out
  clear HV M5 a1 a2 c5 c5' c6 f6
  go_roundw
  case rel =>
   (repeat apply Exists.intro)
   refine ⟨?_, rfl⟩
   refine ⟨i + 1, _, upd f i sv, by omega, by go_num, rfl, m3, ?_, ?_, Z66 i N _ _ (f i) sv c _ (hf i) m4 hc m3 h5 h1 (ζ.out i (Nat.le_refl i)) h2, ?_, ?_, ?_, ?_, ?_, hs⟩
   ·
    intro j
    by_cases hj : j = i
    ·
     subst hj; rw [J1t]; exact m4
    rw [J0b _ _ _ _ hj]; exact hf j
   ·
    intro j hj
    rw [J0b _ _ _ _ (by omega)]
    exact ζ.out j (by omega)
   ·
    exact Z4 G (by omega) _ _
   ·
    exact J6 R (by omega) _ _
   ·
    exact J6 T (by omega) _ _
   ·
    exact J6 J (by omega) _ _
   exact J6 D (by omega) _ _
  case measure => simp [intOf]; omega
end
end Go.Proofs.YtejkmhgkkibafaaGreatDoor.S8
