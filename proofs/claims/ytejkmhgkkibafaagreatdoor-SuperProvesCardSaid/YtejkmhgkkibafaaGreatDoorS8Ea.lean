/- The walks of field.Elem.sub and add, each once. Conditions: words of 64 bits. field.Elem.more and field.Rest. Conditions: the cells of field.modulus hold the modulus. field.Rest, Add, Neg, Sub, Small. Conditions: the cells of field.modulus hold the modulus. field.product. field.Mul. Conditions: the cells of field.modulus hold the modulus. -/
import Derived.Test.YtejkmhgkkibafaaGreatDoorGc
import Derived.Test.YtejkmhgkkibafaaGreatDoorJ6
import Derived.Test.YtejkmhgkkibafaaGreatDoorJ3
import Derived.Test.YtejkmhgkkibafaaGreatDoorJ9
import Derived.Test.YtejkmhgkkibafaaGreatDoorGb
import Derived.Test.YtejkmhgkkibafaaGreatDoorGa
import Derived.Deep.QuietTactic
import Derived.BigQuiet
import Derived.BigRegion
import Derived.Lib.Hide
import Derived.Laws.Rows
set_option linter.unusedSimpArgs false
set_option linter.unusedVariables false
namespace Go.Proofs.YtejkmhgkkibafaaGreatDoor.S8
section
set_option maxHeartbeats 4000000
set_option maxRecDepth 100000
open Go.RowKit

theorem Q9i (a0 a1 a2 a3 b0 b1 b2 b3 : Int) (ha : U4 a0 a1 a2 a3) (hb : U4 b0 b1 b2 b3) (w : World) :
    Calls Tryz.prog 173 #[A4 a0 a1 a2 a3, A4 b0 b1 b2 b3] w fun e w' =>
      Ret (.tuple #[L4 (J8q (J0p a0 a1 a2 a3) (J0p b0 b1 b2 b3)), .int .u64 (brw (J0p a0 a1 a2 a3) (J0p b0 b1 b2 b3))]) w w' e := by
  have hch := Q5s a0 a1 a2 a3 b0 b1 b2 b3 ha hb
  have HC := Lib.hid hch
  clear hch
  have h0 := J44 a0 b0 0 ha.1 hb.1 (by omega) (by omega)
  have h1 := J44 a1 b1 _ ha.2.1 hb.2.1 (J5s a0 b0 0).1 (J5s a0 b0 0).2
  have h2 := J44 a2 b2 _ ha.2.2.1 hb.2.2.1 (J5s a1 b1 (sbB a0 b0 0)).1 (J5s a1 b1 (sbB a0 b0 0)).2
  have h3 := J44 a3 b3 _ ha.2.2.2 hb.2.2.2 (J5s a2 b2 (sbB a1 b1 (sbB a0 b0 0))).1 (J5s a2 b2 (sbB a1 b1 (sbB a0 b0 0))).2
  clear ha hb
  go_enter Tryz.func173, Tryz.ntmps173
  go_wp2
  refine wp_loop_rounds 5 ?_
  rw [rounds_succ]
  go_wp2
  go_region
  go_wp2
  rw [rounds_succ]
  go_wp2
  go_region
  go_wp2
  rw [rounds_succ]
  go_wp2
  go_region
  go_wp2
  rw [rounds_succ]
  go_wp2
  go_region
  go_wp2
  rw [rounds_succ]
  go_wp2
  refine bodyPost_ret (v := .tuple #[A4 (sbD a0 b0 0) (sbD a1 b1 (sbB a0 b0 0)) (sbD a2 b2 (sbB a1 b1 (sbB a0 b0 0))) (sbD a3 b3 (sbB a2 b2 (sbB a1 b1 (sbB a0 b0 0)))), .int .u64 (sbB a3 b3 (sbB a2 b2 (sbB a1 b1 (sbB a0 b0 0))))]) (by simp [results, Tryz.results173, go_sem]) rfl ⟨?_, ?_⟩
  · rw [HC.out.1, HC.out.2]
  exact bz

theorem add_c (a0 a1 a2 a3 b0 b1 b2 b3 : Int) (ha : U4 a0 a1 a2 a3) (hb : U4 b0 b1 b2 b3) (w : World) :
    Calls Tryz.prog 172 #[A4 a0 a1 a2 a3, A4 b0 b1 b2 b3] w fun e w' =>
      Ret (.tuple #[L4 ((J0p a0 a1 a2 a3 + J0p b0 b1 b2 b3) % Z3), .int .u64 ((J0p a0 a1 a2 a3 + J0p b0 b1 b2 b3) / Z3 : Nat)]) w w' e := by
  have hch := Q5t a0 a1 a2 a3 b0 b1 b2 b3 0 ha hb (by omega) (by omega)
  simp only [Int.toNat_zero, Nat.add_zero] at hch
  have HC := Lib.hid hch
  clear hch
  have v0 := Q08 a0 b0 0 ha.1 hb.1 (by omega) (by omega)
  have v1 := Q08 a1 b1 _ ha.2.1 hb.2.1 v0.1 v0.2
  have v2 := Q08 a2 b2 _ ha.2.2.1 hb.2.2.1 v1.1 v1.2
  have h0 := J16 a0 b0 0 ha.1 hb.1 (by omega) (by omega)
  have h1 := J16 a1 b1 _ ha.2.1 hb.2.1 v0.1 v0.2
  have h2 := J16 a2 b2 _ ha.2.2.1 hb.2.2.1 v1.1 v1.2
  have h3 := J16 a3 b3 _ ha.2.2.2 hb.2.2.2 v2.1 v2.2
  clear v0 v1 v2
  clear ha hb
  go_enter Tryz.func172, Tryz.ntmps172
  go_wp2
  refine wp_loop_rounds 5 ?_
  rw [rounds_succ]
  go_wp2
  go_region
  go_wp2
  rw [rounds_succ]
  go_wp2
  go_region
  go_wp2
  rw [rounds_succ]
  go_wp2
  go_region
  go_wp2
  rw [rounds_succ]
  go_wp2
  go_region
  go_wp2
  rw [rounds_succ]
  go_wp2
  refine bodyPost_ret (v := .tuple #[A4 (adS a0 b0 0) (adS a1 b1 (adC a0 b0 0)) (adS a2 b2 (adC a1 b1 (adC a0 b0 0))) (adS a3 b3 (adC a2 b2 (adC a1 b1 (adC a0 b0 0)))), .int .u64 (adC a3 b3 (adC a2 b2 (adC a1 b1 (adC a0 b0 0))))]) (by simp [results, Tryz.results172, go_sem]) rfl ⟨?_, ?_⟩
  · rw [HC.out.1, HC.out.2]; rfl
  exact bz

theorem Z12 (A B : Nat) (hA : A < Z3) (hB : B < Z3) (w : World) : Calls Tryz.prog 173 #[L4 A, L4 B] w fun e w' => Ret (.tuple #[L4 (J8q A B), .int .u64 (brw A B)]) w w' e := by
  have h := Q9i _ _ _ _ _ _ _ _ (J65 A) (J65 B) w
  rw [J1d A hA, J1d B hB] at h; exact h
theorem Z13 (A B : Nat) (hA : A < Z3) (hB : B < Z3) (w : World) : Calls Tryz.prog 172 #[L4 A, L4 B] w fun e w' => Ret (.tuple #[L4 ((A + B) % Z3), .int .u64 ((A + B) / Z3 : Nat)]) w w' e := by
  have h := add_c _ _ _ _ _ _ _ _ (J65 A) (J65 B) w
  rw [J1d A hA, J1d B hB] at h; exact h
end

section
set_option maxHeartbeats 4000000
set_option maxRecDepth 100000
open Go.RowKit

def PP : Nat := 57896044618658097711785492504343953926634992332820282019728792003956564819949
theorem J96 : PP < Z3 := by decide +kernel
theorem PP_two : 2 * PP + 38 = Z3 := by decide +kernel
theorem Z32 (n : Nat) : n % PP < Z3 := Nat.lt_trans (Nat.mod_lt _ (by decide)) J96
theorem J1u {X n : Nat} (h : X = n % PP) : X < Z3 := h ▸ Z32 n
def modC : Array Value := #[.int .u64 18446744073709551597, .int .u64 18446744073709551615, .int .u64 18446744073709551615, .int .u64 9223372036854775807]
def imaC : Array Value := #[.int .u64 14190309331451158704, .int .u64 3405592160176694392, .int .u64 3120150775007532967, .int .u64 3135389899092516619]
def GF (w : World) : Prop := Rd w 13 modC ∧ True
def GI (w : World) : Prop := Rd w 12 imaC
theorem Q9 {w W : World} (h : GF w) (e : Ext w W) : GF W := ⟨h.1.ext e, trivial⟩
theorem Q4d (n : Nat) (hn : n < 18446744073709551616) : L4 n = .agg #[.int .u64 (n : Int), .int .u64 0, .int .u64 0, .int .u64 0] := by
  have h0 : V8 n 0 = (n : Int) := by unfold V8; simp only [Nat.mul_zero, Nat.pow_zero, Nat.div_one]; omega
  have h1 : V8 n 1 = 0 := by unfold V8; rw [Nat.div_eq_of_lt (by simp only [Nat.reduceMul, Nat.reducePow]; omega)]; rfl
  have h2 : V8 n 2 = 0 := by unfold V8; rw [Nat.div_eq_of_lt (by simp only [Nat.reduceMul, Nat.reducePow]; omega)]; rfl
  have h3 : V8 n 3 = 0 := by unfold V8; rw [Nat.div_eq_of_lt (by simp only [Nat.reduceMul, Nat.reducePow]; omega)]; rfl
  unfold L4; rw [h0, h1, h2, h3]
theorem Y2m (A B : Nat) (hA : A < Z3) (hB : B < Z3) (h : A + B < Z3) (w : World) : Calls Tryz.prog 172 #[L4 A, L4 B] w fun e w' => Ret (.tuple #[L4 (A + B), .int .u64 0]) w w' e := by
  have := Z13 A B hA hB w
  rw [Nat.mod_eq_of_lt h, Nat.div_eq_of_lt h] at this; exact this
theorem Y2n (A B : Nat) (hA : A < Z3) (hB : B < Z3) (h : Z3 ≤ A + B) (w : World) : Calls Tryz.prog 172 #[L4 A, L4 B] w fun e w' => Ret (.tuple #[L4 (A + B - Z3), .int .u64 1]) w w' e := by
  have := Z13 A B hA hB w
  have e1 : (A + B) % Z3 = A + B - Z3 := by rw [Nat.mod_eq_sub_mod h, Nat.mod_eq_of_lt (by omega)]
  have e2 : (A + B) / Z3 = 1 := Nat.div_eq_of_lt_le (by omega) (by omega)
  rw [e1, e2] at this; exact this
theorem Q9j (A n : Nat) (hA : A < Z3) (hn : n < 18446744073709551616) (h : A + n < Z3) (w : World) : Calls Tryz.prog 172 #[L4 A, .agg #[.int .u64 (n : Int), .int .u64 0, .int .u64 0, .int .u64 0]] w fun e w' => Ret (.tuple #[L4 (A + n), .int .u64 0]) w w' e := by
  rw [← Q4d n hn]; exact Y2m A n hA (by unfold Z3; omega) h w
theorem Z80 (A n : Nat) (hA : A < Z3) (hn : n < 18446744073709551616) (h : Z3 ≤ A + n) (w : World) : Calls Tryz.prog 172 #[L4 A, .agg #[.int .u64 (n : Int), .int .u64 0, .int .u64 0, .int .u64 0]] w fun e w' => Ret (.tuple #[L4 (A + n - Z3), .int .u64 1]) w w' e := by
  rw [← Q4d n hn]; exact Y2n A n hA (by unfold Z3; omega) h w
def J8o (A n : Nat) : Nat := if A + n < Z3 then A + n else A + n - Z3 + 38

theorem Y2o (A n : Nat) (hA : A < Z3) (hn : n < 18446744073709551616) (h : A + n < Z3) (w : World) :
  Calls Tryz.prog 168 #[L4 A, .int .u64 (n : Int)] w fun e w' => Ret (L4 (A + n)) w w' e := by
 go_enter Tryz.func168, Tryz.ntmps168
 go_upto_region 1 with fail
 refine wn2 (c1 := (c4 (A))) (t1 := 155) (c2 := #[.int .u64 0, .int .u64 0, .int .u64 0, .int .u64 0]) (t2 := 155) fun W0 bel k_t2 k_t4 => ?_
 have c1 := Q9j A n hA hn h
 refine Px1 7 5 (z := #[.int .u64 0, .int .u64 0, .int .u64 0, .int .u64 0]) (t := 155) ?_
 refine XL ?_
 refine Xv ?_
 refine Xv ?_
 refine Xf ?_ (fun W hW => c1 W)
 refine Xv ?_
 refine Xv ?_
 refine Xv ?_
 refine XN ?_
 intro J5m W1 n_t5_1 hE k_t5
 have lt_t2_1 := Q7 k_t2
 have lt_t4_1 := Q7 k_t4
 have sz_1 := bel.size
 skip
 refine LS ?_ k_t5 (g := J5m) (cells := c4 (A + n))
 refine Lv ?_
 refine J3 ?_
 refine J7c (fun W => Below w.heap.size w W ∧ Blk W w.heap.size (c4 (A)) 155 ∧ Blk W (w.heap.size + 1) #[.int .u64 0, .int .u64 0, .int .u64 0, .int .u64 0] 155 ∧ Blk W J5m (c4 (A + n)) 155) ⟨(Z9 (Z5 bel hE bel.size) (by omega) _), (Q1 (J1 k_t2 hE) (by omega) _), (Q1 (J1 k_t4 hE) (by omega) _), (Y8 k_t5 (c4 (A + n)))⟩ ?_
 clear bel k_t2 k_t4 k_t5
 rintro W2 ⟨bel, k_t2, k_t4, k_t5⟩
 go_upto_region 4 with fail
 refine Px 1 ?_
 refine XL ?_
 refine Z4 fun W3 hE => ?_
 have lt_t5_3 := Q7 k_t5
 refine LS ?_ (J1 k_t4 hE) (g := (w.heap.size + 1)) (cells := c4 (A + n))
 refine J3 ?_
 refine J7c (fun W => Below w.heap.size w W ∧ Blk W w.heap.size (c4 (A)) 155 ∧ Blk W (w.heap.size + 1) (c4 (A + n)) 155 ∧ Blk W J5m (c4 (A + n)) 155) ⟨(Z9 (Z5 bel hE bel.size) (by omega) _), (Q1 (J1 k_t2 hE) (by omega) _), (Y8 (J1 k_t4 hE) (c4 (A + n))), (Q1 (J1 k_t5 hE) (by omega) _)⟩ ?_
 clear bel k_t2 k_t4 k_t5
 rintro W4 ⟨bel, k_t2, k_t4, k_t5⟩
 go_wp2
 refine bodyPost_ret (Y0 rfl rfl k_t4 (by kernel_rfl) (by kernel_rfl)) rfl ⟨?_, bel⟩
 rfl
theorem Y2p (A n : Nat) (hA : A < Z3) (hn : n < 18446744073709551616) (h : Z3 ≤ A + n) (h2 : A + n - Z3 + 38 < Z3) (w : World) :
  Calls Tryz.prog 168 #[L4 A, .int .u64 (n : Int)] w fun e w' => Ret (L4 (A + n - Z3 + 38)) w w' e := by
 go_enter Tryz.func168, Tryz.ntmps168
 go_upto_region 1 with fail
 refine wn2 (c1 := (c4 (A))) (t1 := 155) (c2 := #[.int .u64 0, .int .u64 0, .int .u64 0, .int .u64 0]) (t2 := 155) fun W0 bel k_t2 k_t4 => ?_
 have c_X1 := Z80 A n hA hn h
 obtain ⟨X1, hX1⟩ : ∃ X, X = A + n - Z3 := ⟨_, rfl⟩
 rw [← hX1] at c_X1
 have HX1 := Lib.hid hX1
 clear hX1
 refine Px1 7 5 (z := #[.int .u64 0, .int .u64 0, .int .u64 0, .int .u64 0]) (t := 155) ?_
 refine XL ?_
 refine Xv ?_
 refine Xv ?_
 refine Xf ?_ (fun W hW => c_X1 W)
 refine Xv ?_
 refine Xv ?_
 refine Xv ?_
 refine XN ?_
 intro J5m W1 n_t5_1 hE k_t5
 have lt_t2_1 := Q7 k_t2
 have lt_t4_1 := Q7 k_t4
 have sz_1 := bel.size
 skip
 refine LS ?_ k_t5 (g := J5m) (cells := c4 (X1))
 refine Lv ?_
 refine J3 ?_
 refine J7c (fun W => Below w.heap.size w W ∧ Blk W w.heap.size (c4 (A)) 155 ∧ Blk W (w.heap.size + 1) #[.int .u64 0, .int .u64 0, .int .u64 0, .int .u64 0] 155 ∧ Blk W J5m (c4 (X1)) 155) ⟨(Z9 (Z5 bel hE bel.size) (by omega) _), (Q1 (J1 k_t2 hE) (by omega) _), (Q1 (J1 k_t4 hE) (by omega) _), (Y8 k_t5 (c4 (X1)))⟩ ?_
 clear bel k_t2 k_t4 k_t5
 rintro W2 ⟨bel, k_t2, k_t4, k_t5⟩
 go_upto_region 3 with fail
 have c_X2 := Q9j X1 38 (by rw [HX1.out]; omega) (by decide) (by rw [HX1.out]; omega)
 obtain ⟨X2, hX2⟩ : ∃ X, X = X1 + 38 := ⟨_, rfl⟩
 rw [← hX2] at c_X2
 have HX2 := Lib.hid hX2
 clear hX2
 refine Px 6 ?_
 refine XL ?_
 refine Xv ?_
 refine Xf ?_ (fun W hW => c_X2 W)
 refine Xv ?_
 refine Xv ?_
 refine Xv ?_
 refine Z4 fun W3 hE => ?_
 have lt_t5_3 := Q7 k_t5
 refine LS ?_ (J1 k_t5 hE) (g := J5m) (cells := c4 (X2))
 refine J3 ?_
 refine J7c (fun W => Below w.heap.size w W ∧ Blk W w.heap.size (c4 (A)) 155 ∧ Blk W (w.heap.size + 1) #[.int .u64 0, .int .u64 0, .int .u64 0, .int .u64 0] 155 ∧ Blk W J5m (c4 (X2)) 155) ⟨(Z9 (Z5 bel hE bel.size) (by omega) _), (Q1 (J1 k_t2 hE) (by omega) _), (Q1 (J1 k_t4 hE) (by omega) _), (Y8 (J1 k_t5 hE) (c4 (X2)))⟩ ?_
 clear bel k_t2 k_t4 k_t5
 rintro W4 ⟨bel, k_t2, k_t4, k_t5⟩
 go_upto_region 4 with fail
 refine Px 1 ?_
 refine XL ?_
 refine Z4 fun W5 hE => ?_
 have lt_t5_5 := Q7 k_t5
 refine LS ?_ (J1 k_t4 hE) (g := (w.heap.size + 1)) (cells := c4 (X2))
 refine J3 ?_
 refine J7c (fun W => Below w.heap.size w W ∧ Blk W w.heap.size (c4 (A)) 155 ∧ Blk W (w.heap.size + 1) (c4 (X2)) 155 ∧ Blk W J5m (c4 (X2)) 155) ⟨(Z9 (Z5 bel hE bel.size) (by omega) _), (Q1 (J1 k_t2 hE) (by omega) _), (Y8 (J1 k_t4 hE) (c4 (X2))), (Q1 (J1 k_t5 hE) (by omega) _)⟩ ?_
 clear bel k_t2 k_t4 k_t5
 rintro W6 ⟨bel, k_t2, k_t4, k_t5⟩
 go_wp2
 refine bodyPost_ret (Y0 rfl rfl k_t4 (by kernel_rfl) (by kernel_rfl)) rfl ⟨?_, bel⟩
 rw [HX2.out, HX1.out]; rfl
end

section
set_option maxHeartbeats 4000000
set_option maxRecDepth 100000
open Go.RowKit

theorem Q7j : Value.agg modC = L4 PP := by kernel_rfl
theorem Z33 (A B : Nat) (hA : A < Z3) (hB : B < Z3) (h : B ≤ A) : J8q A B = A - B := by unfold J8q Z3 at *; omega
theorem Q7k (X : Nat) (hX : X < PP) (w : World) : Calls Tryz.prog 173 #[L4 X, .agg modC] w fun e w' => Ret (.tuple #[L4 (J8q X PP), .int .u64 1]) w w' e := by
  have := Z12 X PP (Nat.lt_trans hX J96) J96 w
  rw [Q7j]
  unfold brw at this; rw [if_pos hX] at this; exact this
theorem Q7l (X : Nat) (hX : X < Z3) (h : PP ≤ X) (w : World) : Calls Tryz.prog 173 #[L4 X, .agg modC] w fun e w' => Ret (.tuple #[L4 (X - PP), .int .u64 0]) w w' e := by
  have := Z12 X PP hX J96 w
  rw [Q7j]
  rw [Z33 X PP hX J96 h] at this
  unfold brw at this; rw [if_neg (by omega)] at this; exact this
theorem V2i (X : Nat) (h : PP ≤ X) (h1 : X - PP < PP) : X - PP = X % PP := by rw [Nat.mod_eq_sub_mod h, Nat.mod_eq_of_lt h1]
theorem V2j (X : Nat) (h : PP ≤ X) (h1 : PP ≤ X - PP) (h2 : X - PP - PP < PP) : X - PP - PP = X % PP := by rw [Nat.mod_eq_sub_mod h, Nat.mod_eq_sub_mod h1, Nat.mod_eq_of_lt h2]

theorem Y83 (X : Nat) (hX : X < Z3) (hq : X < PP) (w : World) (hG : GF w) :
  Calls Tryz.prog 166 #[L4 X] w fun e w' => Ret (L4 X) w w' e := by
 go_enter Tryz.func166, Tryz.ntmps166
 go_wp2_with fail
 refine wp_loop_rounds 4 ?_
 rw [rounds_succ]
 go_upto_region 1 with fail
 refine wn2 (c1 := (c4 X)) (t1 := 155) (c2 := #[.int .u64 0, .int .u64 0, .int .u64 0, .int .u64 0]) (t2 := 155) fun W0 bel k_t1 k_t2 => ?_
 have lt_t1_0 := Q7 k_t1
 have lt_t2_0 := Q7 k_t2
 have gf := Q9 hG bel
 have gm := gf.1
 clear gf
 have c_X1 := Q7k X hq
 obtain ⟨X1, hX1⟩ := exn (J8q X PP)
 rw [← hX1] at c_X1
 have HX1 := Lib.hid hX1
 clear hX1
 refine Px1 6 3 (z := #[.int .u64 0, .int .u64 0, .int .u64 0, .int .u64 0]) (t := 155) ?_
 refine XL ?_
 refine XL ?_
 refine Xf ?_ (fun W hW => c_X1 W)
 refine Xv ?_
 refine Xv ?_
 refine Xv ?_
 refine XN ?_
 intro J0c W1 n_t3_1 hE k_t3
 have sz_1 := bel.size
 skip
 refine LS ?_ k_t3 (g := J0c) (cells := c4 X1)
 refine Lv ?_
 refine J3 ?_
 have hF : Below w.heap.size w (W1.setRow J0c (c4 X1)) ∧ Blk (W1.setRow J0c (c4 X1)) w.heap.size (c4 X) 155 ∧ Blk (W1.setRow J0c (c4 X1)) (w.heap.size + 1) #[.int .u64 0, .int .u64 0, .int .u64 0, .int .u64 0] 155 ∧ Blk (W1.setRow J0c (c4 X1)) J0c (c4 X1) 155 := ⟨(Z9 (Z5 bel hE bel.size) (by omega) _), (Q1 (J1 k_t1 hE) (by omega) _), (Q1 (J1 k_t2 hE) (by omega) _), (Y8 k_t3 (c4 X1))⟩
 generalize (W1.setRow J0c (c4 X1)) = W2 at hF ⊢
 clear bel k_t1 k_t2 k_t3
 obtain ⟨bel, k_t1, k_t2, k_t3⟩ := hF
 go_upto_region 3 with fail
 have lt_t3_2 := Q7 k_t3
 have gf := Q9 hG bel
 have gm := gf.1
 clear gf
 refine Px 1 ?_
 refine XL ?_
 refine Z4 fun W3 hE => ?_
 refine Lp ?_ (J1 k_t2 hE) (cells := c4 X)
 intro W4 hO h_
 refine J3 ?_
 replace k_t1 := ko k_t1 hE hO (by omega)
 replace k_t2 := h_
 replace k_t3 := ko k_t3 hE hO (by omega)
 replace bel := bwo bel hE hO bel.size (by omega)
 clear hO h_
 go_wp2
 refine bodyPost_ret (Y0 rfl rfl k_t2 (by kernel_rfl) (by kernel_rfl)) rfl ⟨?_, bel⟩
 rfl
theorem Y84 (X : Nat) (hX : X < Z3) (h0 : PP ≤ X) (hq : X - PP < PP) (w : World) (hG : GF w) :
  Calls Tryz.prog 166 #[L4 X] w fun e w' => Ret (L4 (X - PP)) w w' e := by
 go_enter Tryz.func166, Tryz.ntmps166
 go_wp2_with fail
 refine wp_loop_rounds 4 ?_
 rw [rounds_succ]
 go_upto_region 1 with fail
 refine wn2 (c1 := (c4 X)) (t1 := 155) (c2 := #[.int .u64 0, .int .u64 0, .int .u64 0, .int .u64 0]) (t2 := 155) fun W0 bel k_t1 k_t2 => ?_
 have lt_t1_0 := Q7 k_t1
 have lt_t2_0 := Q7 k_t2
 have gf := Q9 hG bel
 have gm := gf.1
 clear gf
 have c_X1 := Q7l X hX h0
 obtain ⟨X1, hX1⟩ := exn (X - PP)
 rw [← hX1] at c_X1
 have HX1 := Lib.hid hX1
 clear hX1
 refine Px1 6 3 (z := #[.int .u64 0, .int .u64 0, .int .u64 0, .int .u64 0]) (t := 155) ?_
 refine XL ?_
 refine XL ?_
 refine Xf ?_ (fun W hW => c_X1 W)
 refine Xv ?_
 refine Xv ?_
 refine Xv ?_
 refine XN ?_
 intro J0c W1 n_t3_1 hE k_t3
 have sz_1 := bel.size
 skip
 refine LS ?_ k_t3 (g := J0c) (cells := c4 X1)
 refine Lv ?_
 refine J3 ?_
 have hF : Below w.heap.size w (W1.setRow J0c (c4 X1)) ∧ Blk (W1.setRow J0c (c4 X1)) w.heap.size (c4 X) 155 ∧ Blk (W1.setRow J0c (c4 X1)) (w.heap.size + 1) #[.int .u64 0, .int .u64 0, .int .u64 0, .int .u64 0] 155 ∧ Blk (W1.setRow J0c (c4 X1)) J0c (c4 X1) 155 := ⟨(Z9 (Z5 bel hE bel.size) (by omega) _), (Q1 (J1 k_t1 hE) (by omega) _), (Q1 (J1 k_t2 hE) (by omega) _), (Y8 k_t3 (c4 X1))⟩
 generalize (W1.setRow J0c (c4 X1)) = W2 at hF ⊢
 clear bel k_t1 k_t2 k_t3
 obtain ⟨bel, k_t1, k_t2, k_t3⟩ := hF
 go_upto_region 4 with fail
 have lt_t3_2 := Q7 k_t3
 have gf := Q9 hG bel
 have gm := gf.1
 clear gf
 refine Px 1 ?_
 refine XL ?_
 refine Z4 fun W3 hE => ?_
 refine LS ?_ (J1 k_t1 hE) (g := w.heap.size) (cells := c4 X1)
 refine J3 ?_
 have hF : Below w.heap.size w (W3.setRow w.heap.size (c4 X1)) ∧ Blk (W3.setRow w.heap.size (c4 X1)) w.heap.size (c4 X1) 155 ∧ Blk (W3.setRow w.heap.size (c4 X1)) (w.heap.size + 1) #[.int .u64 0, .int .u64 0, .int .u64 0, .int .u64 0] 155 ∧ Blk (W3.setRow w.heap.size (c4 X1)) J0c (c4 X1) 155 := ⟨(Z9 (Z5 bel hE bel.size) (by omega) _), (Y8 (J1 k_t1 hE) (c4 X1)), (Q1 (J1 k_t2 hE) (by omega) _), (Q1 (J1 k_t3 hE) (by omega) _)⟩
 generalize (W3.setRow w.heap.size (c4 X1)) = W4 at hF ⊢
 clear bel k_t1 k_t2 k_t3
 obtain ⟨bel, k_t1, k_t2, k_t3⟩ := hF
 go_wp2_with fail
 rw [rounds_succ]
 go_upto_region 1 with fail
 have lt_t3_4 := Q7 k_t3
 have gf := Q9 hG bel
 have gm := gf.1
 clear gf
 have c_X2 := Q7k X1 (by rw [HX1.out]; exact hq)
 obtain ⟨X2, hX2⟩ := exn (J8q X1 PP)
 rw [← hX2] at c_X2
 have HX2 := Lib.hid hX2
 clear hX2
 refine Px1 6 3 (z := #[.int .u64 0, .int .u64 0, .int .u64 0, .int .u64 0]) (t := 155) ?_
 refine XL ?_
 refine XL ?_
 refine Xf ?_ (fun W hW => c_X2 W)
 refine Xv ?_
 refine Xv ?_
 refine Xv ?_
 refine XN ?_
 intro J75 W5 n_t3_5 hE k_t3
 have sz_5 := bel.size
 skip
 refine LS ?_ k_t3 (g := J75) (cells := c4 X2)
 refine Lv ?_
 refine J3 ?_
 have hF : Below w.heap.size w (W5.setRow J75 (c4 X2)) ∧ Blk (W5.setRow J75 (c4 X2)) w.heap.size (c4 X1) 155 ∧ Blk (W5.setRow J75 (c4 X2)) (w.heap.size + 1) #[.int .u64 0, .int .u64 0, .int .u64 0, .int .u64 0] 155 ∧ Blk (W5.setRow J75 (c4 X2)) J75 (c4 X2) 155 := ⟨(Z9 (Z5 bel hE bel.size) (by omega) _), (Q1 (J1 k_t1 hE) (by omega) _), (Q1 (J1 k_t2 hE) (by omega) _), (Y8 k_t3 (c4 X2))⟩
 generalize (W5.setRow J75 (c4 X2)) = W6 at hF ⊢
 clear bel k_t1 k_t2 k_t3
 obtain ⟨bel, k_t1, k_t2, k_t3⟩ := hF
 go_upto_region 3 with fail
 have lt_t3_6 := Q7 k_t3
 have gf := Q9 hG bel
 have gm := gf.1
 clear gf
 refine Px 1 ?_
 refine XL ?_
 refine Z4 fun W7 hE => ?_
 refine Lp ?_ (J1 k_t2 hE) (cells := c4 X1)
 intro W8 hO h_
 refine J3 ?_
 replace k_t1 := ko k_t1 hE hO (by omega)
 replace k_t2 := h_
 replace k_t3 := ko k_t3 hE hO (by omega)
 replace bel := bwo bel hE hO bel.size (by omega)
 clear hO h_
 go_wp2
 refine bodyPost_ret (Y0 rfl rfl k_t2 (by kernel_rfl) (by kernel_rfl)) rfl ⟨?_, bel⟩
 rw [HX1.out]; rfl
theorem Y85 (X : Nat) (hX : X < Z3) (h0 : PP ≤ X) (h1' : PP ≤ X - PP) (hq : X - PP - PP < PP) (w : World) (hG : GF w) :
  Calls Tryz.prog 166 #[L4 X] w fun e w' => Ret (L4 (X - PP - PP)) w w' e := by
 go_enter Tryz.func166, Tryz.ntmps166
 go_wp2_with fail
 refine wp_loop_rounds 4 ?_
 rw [rounds_succ]
 go_upto_region 1 with fail
 refine wn2 (c1 := (c4 X)) (t1 := 155) (c2 := #[.int .u64 0, .int .u64 0, .int .u64 0, .int .u64 0]) (t2 := 155) fun W0 bel k_t1 k_t2 => ?_
 have lt_t1_0 := Q7 k_t1
 have lt_t2_0 := Q7 k_t2
 have gf := Q9 hG bel
 have gm := gf.1
 clear gf
 have c_X1 := Q7l X hX h0
 obtain ⟨X1, hX1⟩ := exn (X - PP)
 rw [← hX1] at c_X1
 have HX1 := Lib.hid hX1
 clear hX1
 have h1 : PP ≤ X1 := by rw [HX1.out]; exact h1'
 refine Px1 6 3 (z := #[.int .u64 0, .int .u64 0, .int .u64 0, .int .u64 0]) (t := 155) ?_
 refine XL ?_
 refine XL ?_
 refine Xf ?_ (fun W hW => c_X1 W)
 refine Xv ?_
 refine Xv ?_
 refine Xv ?_
 refine XN ?_
 intro J0c W1 n_t3_1 hE k_t3
 have sz_1 := bel.size
 skip
 refine LS ?_ k_t3 (g := J0c) (cells := c4 X1)
 refine Lv ?_
 refine J3 ?_
 have hF : Below w.heap.size w (W1.setRow J0c (c4 X1)) ∧ Blk (W1.setRow J0c (c4 X1)) w.heap.size (c4 X) 155 ∧ Blk (W1.setRow J0c (c4 X1)) (w.heap.size + 1) #[.int .u64 0, .int .u64 0, .int .u64 0, .int .u64 0] 155 ∧ Blk (W1.setRow J0c (c4 X1)) J0c (c4 X1) 155 := ⟨(Z9 (Z5 bel hE bel.size) (by omega) _), (Q1 (J1 k_t1 hE) (by omega) _), (Q1 (J1 k_t2 hE) (by omega) _), (Y8 k_t3 (c4 X1))⟩
 generalize (W1.setRow J0c (c4 X1)) = W2 at hF ⊢
 clear bel k_t1 k_t2 k_t3
 obtain ⟨bel, k_t1, k_t2, k_t3⟩ := hF
 go_upto_region 4 with fail
 have lt_t3_2 := Q7 k_t3
 have gf := Q9 hG bel
 have gm := gf.1
 clear gf
 refine Px 1 ?_
 refine XL ?_
 refine Z4 fun W3 hE => ?_
 refine LS ?_ (J1 k_t1 hE) (g := w.heap.size) (cells := c4 X1)
 refine J3 ?_
 have hF : Below w.heap.size w (W3.setRow w.heap.size (c4 X1)) ∧ Blk (W3.setRow w.heap.size (c4 X1)) w.heap.size (c4 X1) 155 ∧ Blk (W3.setRow w.heap.size (c4 X1)) (w.heap.size + 1) #[.int .u64 0, .int .u64 0, .int .u64 0, .int .u64 0] 155 ∧ Blk (W3.setRow w.heap.size (c4 X1)) J0c (c4 X1) 155 := ⟨(Z9 (Z5 bel hE bel.size) (by omega) _), (Y8 (J1 k_t1 hE) (c4 X1)), (Q1 (J1 k_t2 hE) (by omega) _), (Q1 (J1 k_t3 hE) (by omega) _)⟩
 generalize (W3.setRow w.heap.size (c4 X1)) = W4 at hF ⊢
 clear bel k_t1 k_t2 k_t3
 obtain ⟨bel, k_t1, k_t2, k_t3⟩ := hF
 go_wp2_with fail
 rw [rounds_succ]
 go_upto_region 1 with fail
 have lt_t3_4 := Q7 k_t3
 have gf := Q9 hG bel
 have gm := gf.1
 clear gf
 have c_X2 := Q7l X1 (by rw [HX1.out]; omega) h1
 obtain ⟨X2, hX2⟩ := exn (X1 - PP)
 rw [← hX2] at c_X2
 have HX2 := Lib.hid hX2
 clear hX2
 refine Px1 6 3 (z := #[.int .u64 0, .int .u64 0, .int .u64 0, .int .u64 0]) (t := 155) ?_
 refine XL ?_
 refine XL ?_
 refine Xf ?_ (fun W hW => c_X2 W)
 refine Xv ?_
 refine Xv ?_
 refine Xv ?_
 refine XN ?_
 intro J75 W5 n_t3_5 hE k_t3
 have sz_5 := bel.size
 skip
 refine LS ?_ k_t3 (g := J75) (cells := c4 X2)
 refine Lv ?_
 refine J3 ?_
 have hF : Below w.heap.size w (W5.setRow J75 (c4 X2)) ∧ Blk (W5.setRow J75 (c4 X2)) w.heap.size (c4 X1) 155 ∧ Blk (W5.setRow J75 (c4 X2)) (w.heap.size + 1) #[.int .u64 0, .int .u64 0, .int .u64 0, .int .u64 0] 155 ∧ Blk (W5.setRow J75 (c4 X2)) J75 (c4 X2) 155 := ⟨(Z9 (Z5 bel hE bel.size) (by omega) _), (Q1 (J1 k_t1 hE) (by omega) _), (Q1 (J1 k_t2 hE) (by omega) _), (Y8 k_t3 (c4 X2))⟩
 generalize (W5.setRow J75 (c4 X2)) = W6 at hF ⊢
 clear bel k_t1 k_t2 k_t3
 obtain ⟨bel, k_t1, k_t2, k_t3⟩ := hF
 go_upto_region 4 with fail
 have lt_t3_6 := Q7 k_t3
 have gf := Q9 hG bel
 have gm := gf.1
 clear gf
 refine Px 1 ?_
 refine XL ?_
 refine Z4 fun W7 hE => ?_
 refine LS ?_ (J1 k_t1 hE) (g := w.heap.size) (cells := c4 X2)
 refine J3 ?_
 have hF : Below w.heap.size w (W7.setRow w.heap.size (c4 X2)) ∧ Blk (W7.setRow w.heap.size (c4 X2)) w.heap.size (c4 X2) 155 ∧ Blk (W7.setRow w.heap.size (c4 X2)) (w.heap.size + 1) #[.int .u64 0, .int .u64 0, .int .u64 0, .int .u64 0] 155 ∧ Blk (W7.setRow w.heap.size (c4 X2)) J75 (c4 X2) 155 := ⟨(Z9 (Z5 bel hE bel.size) (by omega) _), (Y8 (J1 k_t1 hE) (c4 X2)), (Q1 (J1 k_t2 hE) (by omega) _), (Q1 (J1 k_t3 hE) (by omega) _)⟩
 generalize (W7.setRow w.heap.size (c4 X2)) = W8 at hF ⊢
 clear bel k_t1 k_t2 k_t3
 obtain ⟨bel, k_t1, k_t2, k_t3⟩ := hF
 go_wp2_with fail
 rw [rounds_succ]
 go_upto_region 1 with fail
 have lt_t3_8 := Q7 k_t3
 have gf := Q9 hG bel
 have gm := gf.1
 clear gf
 have c_X3 := Q7k X2 (by rw [HX2.out, HX1.out]; exact hq)
 obtain ⟨X3, hX3⟩ := exn (J8q X2 PP)
 rw [← hX3] at c_X3
 have HX3 := Lib.hid hX3
 clear hX3
 refine Px1 6 3 (z := #[.int .u64 0, .int .u64 0, .int .u64 0, .int .u64 0]) (t := 155) ?_
 refine XL ?_
 refine XL ?_
 refine Xf ?_ (fun W hW => c_X3 W)
 refine Xv ?_
 refine Xv ?_
 refine Xv ?_
 refine XN ?_
 intro Z14 W9 n_t3_9 hE k_t3
 have sz_9 := bel.size
 skip
 refine LS ?_ k_t3 (g := Z14) (cells := c4 X3)
 refine Lv ?_
 refine J3 ?_
 have hF : Below w.heap.size w (W9.setRow Z14 (c4 X3)) ∧ Blk (W9.setRow Z14 (c4 X3)) w.heap.size (c4 X2) 155 ∧ Blk (W9.setRow Z14 (c4 X3)) (w.heap.size + 1) #[.int .u64 0, .int .u64 0, .int .u64 0, .int .u64 0] 155 ∧ Blk (W9.setRow Z14 (c4 X3)) Z14 (c4 X3) 155 := ⟨(Z9 (Z5 bel hE bel.size) (by omega) _), (Q1 (J1 k_t1 hE) (by omega) _), (Q1 (J1 k_t2 hE) (by omega) _), (Y8 k_t3 (c4 X3))⟩
 generalize (W9.setRow Z14 (c4 X3)) = W10 at hF ⊢
 clear bel k_t1 k_t2 k_t3
 obtain ⟨bel, k_t1, k_t2, k_t3⟩ := hF
 go_upto_region 3 with fail
 have lt_t3_10 := Q7 k_t3
 have gf := Q9 hG bel
 have gm := gf.1
 clear gf
 refine Px 1 ?_
 refine XL ?_
 refine Z4 fun W11 hE => ?_
 refine Lp ?_ (J1 k_t2 hE) (cells := c4 X2)
 intro W12 hO h_
 refine J3 ?_
 replace k_t1 := ko k_t1 hE hO (by omega)
 replace k_t2 := h_
 replace k_t3 := ko k_t3 hE hO (by omega)
 replace bel := bwo bel hE hO bel.size (by omega)
 clear hO h_
 go_wp2
 refine bodyPost_ret (Y0 rfl rfl k_t2 (by kernel_rfl) (by kernel_rfl)) rfl ⟨?_, bel⟩
 rw [HX2.out, HX1.out]; rfl
theorem J76 (X : Nat) (hX : X < Z3) (w : World) (hG : GF w) : Calls Tryz.prog 166 #[L4 X] w fun e w' => Ret (L4 (X % PP)) w w' e := by
  by_cases h0 : X < PP
  · rw [Nat.mod_eq_of_lt h0]; exact Y83 X hX h0 w hG
  by_cases h1 : X - PP < PP
  · rw [← V2i X (by omega) h1]; exact Y84 X hX (by omega) h1 w hG
  have h2 : X - PP - PP < PP := by have := PP_two; have : PP = 57896044618658097711785492504343953926634992332820282019728792003956564819949 := rfl; omega
  rw [← V2j X (by omega) (by omega) h2]; exact Y85 X hX (by omega) (by omega) h2 w hG
theorem Y2q (n : Nat) (hn : n < 18446744073709551616) (w : World) :
  Calls Tryz.prog 171 #[.int .u64 (n : Int)] w fun e w' => Ret (L4 n) w w' e := by
 go_enter Tryz.func171, Tryz.ntmps171
 go_upto_region 1 with fail
 refine wn1 (c1 := #[.int .u64 0, .int .u64 0, .int .u64 0, .int .u64 0]) (t1 := 155) fun W0 bel k_t2 => ?_
 have lt_t2_0 := Q7 k_t2
 refine Px 2 ?_
 refine Xv ?_
 refine Xv ?_
 refine Z4 fun W1 hE => ?_
 refine LS ?_ (J1 k_t2 hE) (g := w.heap.size) (cells := #[.int .u64 (n : Int), .int .u64 0, .int .u64 0, .int .u64 0])
 refine J3 ?_
 have hF : Below w.heap.size w (W1.setRow w.heap.size #[.int .u64 (n : Int), .int .u64 0, .int .u64 0, .int .u64 0]) ∧ Blk (W1.setRow w.heap.size #[.int .u64 (n : Int), .int .u64 0, .int .u64 0, .int .u64 0]) w.heap.size #[.int .u64 (n : Int), .int .u64 0, .int .u64 0, .int .u64 0] 155 := ⟨(Z9 (Z5 bel hE bel.size) (by omega) _), (Y8 (J1 k_t2 hE) #[.int .u64 (n : Int), .int .u64 0, .int .u64 0, .int .u64 0])⟩
 generalize (W1.setRow w.heap.size #[.int .u64 (n : Int), .int .u64 0, .int .u64 0, .int .u64 0]) = W2 at hF ⊢
 clear bel k_t2
 obtain ⟨bel, k_t2⟩ := hF
 go_wp2
 refine bodyPost_ret (Y0 rfl rfl k_t2 (by kernel_rfl) (by kernel_rfl)) rfl ⟨?_, bel⟩
 rw [Q4d n hn]
theorem Q9k (A n : Nat) (hA : A < Z3) (hn : n < 18446744073709551616) : J8o A n < Z3 := by unfold J8o Z3 at *; split <;> omega
theorem Q65 (A n : Nat) : J8o A n % PP = (A + n) % PP := by
  unfold J8o
  split
  · rfl
  rename_i h
  have e : A + n = A + n - Z3 + 38 + PP + PP := by unfold Z3 PP at *; omega
  conv => rhs; rw [e, Nat.add_mod_right, Nat.add_mod_right]
theorem Z81 (A n : Nat) (hA : A < Z3) (hn : n < 18446744073709551616) (w : World) : Calls Tryz.prog 168 #[L4 A, .int .u64 (n : Int)] w fun e w' => Ret (L4 (J8o A n)) w w' e := by
  unfold J8o
  by_cases h : A + n < Z3
  · rw [if_pos h]; exact Y2o A n hA hn h w
  rw [if_neg h]; exact Y2p A n hA hn (by omega) (by unfold Z3 at *; omega) w
theorem add_mod (A B : Nat) (hA : A < Z3) (hB : B < Z3) : J8o ((A + B) % Z3) (38 * ((A + B) / Z3)) % PP = (A + B) % PP := by
  rw [Q65]
  by_cases h : A + B < Z3
  · rw [Nat.mod_eq_of_lt h, Nat.div_eq_of_lt h, Nat.mul_zero, Nat.add_zero]
  have e1 : (A + B) % Z3 = A + B - Z3 := by rw [Nat.mod_eq_sub_mod (by omega), Nat.mod_eq_of_lt (by omega)]
  have e2 : (A + B) / Z3 = 1 := Nat.div_eq_of_lt_le (by omega) (by omega)
  rw [e1, e2]
  conv => rhs; rw [show A + B = A + B - Z3 + 38 * 1 + PP + PP by unfold Z3 PP at *; omega, Nat.add_mod_right, Nat.add_mod_right]
theorem Y86 (A B : Nat) (hA : A < Z3) (hB : B < Z3) (w : World) : Calls Tryz.prog 172 #[L4 A, L4 B] w fun e w' => Ret (.tuple #[L4 ((A + B) % Z3), .int .u64 ((A + B) / Z3 : Nat)]) w w' e := Z13 A B hA hB w
theorem Y87 (A o : Nat) (hA : A < Z3) (ho : o ≤ 1) (w : World) : Calls Tryz.prog 168 #[L4 A, .int .u64 (IntKind.u64.wrap (38 * (o : Int)))] w fun e w' => Ret (L4 (J8o A (38 * o))) w w' e := by
  have : IntKind.u64.wrap (38 * (o : Int)) = ((38 * o : Nat) : Int) := by rw [IntKind.wrap_u64]; omega
  rw [this]; exact Z81 A (38 * o) hA (by omega) w
theorem Z82 (X : Nat) (hX : X < PP) (w : World) : Calls Tryz.prog 173 #[.agg modC, L4 X] w fun e w' => Ret (.tuple #[L4 (PP - X), .int .u64 0]) w w' e := by
  have := Z12 PP X J96 (Nat.lt_trans hX J96) w
  rw [Z33 PP X J96 (Nat.lt_trans hX J96) (by omega)] at this
  rw [Q7j]
  unfold brw at this; rw [if_neg (by omega)] at this; exact this
theorem J5n (A B : Nat) (hA : A < Z3) (hB : B < Z3) (w : World) (hG : GF w) :
  Calls Tryz.prog 150 #[L4 A, L4 B] w fun e w' => Ret (L4 ((A + B) % PP)) w w' e := by
 go_enter Tryz.func150, Tryz.ntmps150
 go_upto_region 1 with fail
 refine wn3 (c1 := (c4 A)) (t1 := 155) (c2 := (c4 B)) (t2 := 155) (c3 := #[.int .u64 0, .int .u64 0, .int .u64 0, .int .u64 0]) (t3 := 155) fun W0 bel k_t2 k_t3 k_t4 => ?_
 have lt_t2_0 := Q7 k_t2
 have lt_t3_0 := Q7 k_t3
 have lt_t4_0 := Q7 k_t4
 have gf := Q9 hG bel
 have gm := gf.1
 have gi := gf.2
 have c_1 := Y86 A B hA hB
 obtain ⟨S, hS⟩ := exn ((A + B) % Z3)
 obtain ⟨O, hO⟩ := exn ((A + B) / Z3)
 rw [← hS, ← hO] at c_1
 have bS : S < Z3 := by rw [hS]; exact Nat.mod_lt _ (by decide)
 have bO : O ≤ 1 := by rw [hO]; have : (A + B) / Z3 < 2 := Nat.div_lt_of_lt_mul (by omega); omega
 have HS := Lib.hid hS
 have HO := Lib.hid hO
 clear hS hO
 refine Px1 6 5 (z := #[.int .u64 0, .int .u64 0, .int .u64 0, .int .u64 0]) (t := 155) ?_
 refine XL ?_
 refine XL ?_
 refine Xf ?_ (fun W hW => c_1 W)
 refine Xv ?_
 refine Xv ?_
 refine Xv ?_
 refine XN ?_
 intro J5m W1 n_t5_1 hE k_t5
 have sz_1 := bel.size
 skip
 refine LS ?_ k_t5 (g := J5m) (cells := c4 S)
 refine Lv ?_
 refine J3 ?_
 have hF : Below w.heap.size w (W1.setRow J5m (c4 S)) ∧ Blk (W1.setRow J5m (c4 S)) w.heap.size (c4 A) 155 ∧ Blk (W1.setRow J5m (c4 S)) (w.heap.size + 1) (c4 B) 155 ∧ Blk (W1.setRow J5m (c4 S)) (w.heap.size + 2) #[.int .u64 0, .int .u64 0, .int .u64 0, .int .u64 0] 155 ∧ Blk (W1.setRow J5m (c4 S)) J5m (c4 S) 155 := ⟨(Z9 (Z5 bel hE bel.size) (by omega) _), (Q1 (J1 k_t2 hE) (by omega) _), (Q1 (J1 k_t3 hE) (by omega) _), (Q1 (J1 k_t4 hE) (by omega) _), (Y8 k_t5 (c4 S))⟩
 generalize (W1.setRow J5m (c4 S)) = W2 at hF ⊢
 clear bel k_t2 k_t3 k_t4 k_t5
 obtain ⟨bel, k_t2, k_t3, k_t4, k_t5⟩ := hF
 go_upto_region 2 with fail
 have lt_t5_2 := Q7 k_t5
 have gf := Q9 hG bel
 have gm := gf.1
 have gi := gf.2
 have c_X1 := Y87 S O bS bO
 obtain ⟨X1, hX1⟩ := exn (J8o S (38 * O))
 rw [← hX1] at c_X1
 have bX1 : X1 < Z3 := by rw [hX1]; exact Q9k _ _ bS (by omega)
 have HX1 := Lib.hid hX1
 clear hX1
 have c_X2 := J76 X1 bX1
 obtain ⟨X2, hX2⟩ := exn (X1 % PP)
 rw [← hX2] at c_X2
 have bX2 := J1u hX2
 have HX2 := Lib.hid hX2
 clear hX2
 refine Px 5 ?_
 refine XL ?_
 refine Xv ?_
 refine Xv ?_
 refine Xf ?_ (fun W hW => c_X1 W)
 refine Xf ?_ (fun W hW => c_X2 W (Q9 gf hW))
 refine Z4 fun W3 hE => ?_
 refine Lp ?_ (J1 k_t4 hE) (cells := c4 X2)
 intro W4 hO h_
 refine J3 ?_
 replace k_t2 := ko k_t2 hE hO (by omega)
 replace k_t3 := ko k_t3 hE hO (by omega)
 replace k_t4 := h_
 replace k_t5 := ko k_t5 hE hO (by omega)
 replace bel := bwo bel hE hO bel.size (by omega)
 clear hO h_
 go_wp2
 refine bodyPost_ret (Y0 rfl rfl k_t4 (by kernel_rfl) (by kernel_rfl)) rfl ⟨?_, bel⟩
 rw [← add_mod A B hA hB, ← HS.out, ← HO.out, ← HX1.out, ← HX2.out]; rfl
theorem Q0m (A : Nat) (hA : A < Z3) (w : World) (hG : GF w) :
  Calls Tryz.prog 152 #[L4 A] w fun e w' => Ret (L4 ((PP - A % PP) % PP)) w w' e := by
 go_enter Tryz.func152, Tryz.ntmps152
 go_upto_region 1 with fail
 refine wn2 (c1 := (c4 A)) (t1 := 155) (c2 := #[.int .u64 0, .int .u64 0, .int .u64 0, .int .u64 0]) (t2 := 155) fun W0 bel k_t1 k_t2 => ?_
 have lt_t1_0 := Q7 k_t1
 have lt_t2_0 := Q7 k_t2
 have gf := Q9 hG bel
 have gm := gf.1
 have gi := gf.2
 have c_X1 := J76 A hA
 obtain ⟨X1, hX1⟩ := exn (A % PP)
 rw [← hX1] at c_X1
 have bX1 := J1u hX1
 have HX1 := Lib.hid hX1
 clear hX1
 have c_X2 := Z82 X1 (by rw [HX1.out]; exact Nat.mod_lt _ (by decide))
 obtain ⟨X2, hX2⟩ := exn (PP - X1)
 rw [← hX2] at c_X2
 have bX2 : X2 < Z3 := by rw [hX2]; exact Nat.lt_of_le_of_lt (Nat.sub_le _ _) J96
 have HX2 := Lib.hid hX2
 clear hX2
 refine Rx1 7 3 (z := #[.int .u64 0, .int .u64 0, .int .u64 0, .int .u64 0]) (t := 155) ?_
 refine XL ?_
 refine XL ?_
 refine Xf ?_ (fun W hW => c_X1 W (Q9 gf hW))
 refine Xf ?_ (fun W hW => c_X2 W)
 refine Xv ?_
 refine Xv ?_
 refine Xv ?_
 refine XN ?_
 intro J0c W1 n_t3_1 hE k_t3
 have sz_1 := bel.size
 skip
 refine LS ?_ k_t3 (g := J0c) (cells := c4 X2)
 refine Lv ?_
 refine LN ?_
 have hF : Below w.heap.size w (W1.setRow J0c (c4 X2)) ∧ Blk (W1.setRow J0c (c4 X2)) w.heap.size (c4 A) 155 ∧ Blk (W1.setRow J0c (c4 X2)) (w.heap.size + 1) #[.int .u64 0, .int .u64 0, .int .u64 0, .int .u64 0] 155 ∧ Blk (W1.setRow J0c (c4 X2)) J0c (c4 X2) 155 := ⟨(Z9 (Z5 bel hE bel.size) (by omega) _), (Q1 (J1 k_t1 hE) (by omega) _), (Q1 (J1 k_t2 hE) (by omega) _), (Y8 k_t3 (c4 X2))⟩
 generalize (W1.setRow J0c (c4 X2)) = W2 at hF ⊢
 clear bel k_t1 k_t2 k_t3
 obtain ⟨bel, k_t1, k_t2, k_t3⟩ := hF
 go_upto_region 2 with fail
 have lt_t3_2 := Q7 k_t3
 have gf := Q9 hG bel
 have gm := gf.1
 have gi := gf.2
 have c_X3 := J76 X2 bX2
 obtain ⟨X3, hX3⟩ := exn (X2 % PP)
 rw [← hX3] at c_X3
 have bX3 := J1u hX3
 have HX3 := Lib.hid hX3
 clear hX3
 refine Px 2 ?_
 refine XL ?_
 refine Xf ?_ (fun W hW => c_X3 W (Q9 gf hW))
 refine Z4 fun W3 hE => ?_
 refine Lp ?_ (J1 k_t2 hE) (cells := c4 X3)
 intro W4 hO h_
 refine J3 ?_
 replace k_t1 := ko k_t1 hE hO (by omega)
 replace k_t2 := h_
 replace k_t3 := ko k_t3 hE hO (by omega)
 replace bel := bwo bel hE hO bel.size (by omega)
 clear hO h_
 go_wp2
 refine bodyPost_ret (Y0 rfl rfl k_t2 (by kernel_rfl) (by kernel_rfl)) rfl ⟨?_, bel⟩
 rw [HX3.out, HX2.out, HX1.out]; rfl
end

section
set_option maxHeartbeats 4000000
set_option maxRecDepth 100000
open Go.RowKit

theorem J4y (V i : Nat) (h : i < 4) : (c4 V)[i]? = some (.int .u64 (V8 V i)) := by
  have : i = 0 ∨ i = 1 ∨ i = 2 ∨ i = 3 := by omega
  rcases this with rfl | rfl | rfl | rfl <;> rfl

theorem Q7m (i k : Nat) (x y g c s cv : Int) (V V' Y Y' X B0 : Nat) (hx : Y6 x) (hy : Y6 y) (hg : Y6 g) (hc : Y6 c) (hs : Y6 s) (hcv : Y6 cv)
    (h5 : s + 18446744073709551616 * cv = x * y + g + c) (h1 : V' + g.toNat * 2 ^ (64 * (i + k)) = V + s.toNat * 2 ^ (64 * (i + k)))
    (h2 : V + c.toNat * 2 ^ (64 * (i + k)) = X + x.toNat * 2 ^ (64 * i) * Y) (hY : Y' = Y + y.toNat * 2 ^ (64 * k)) :
    V' + cv.toNat * 2 ^ (64 * (i + (k + 1))) = X + x.toNat * 2 ^ (64 * i) * Y' := by
  obtain ⟨x, rfl⟩ := Int.eq_ofNat_of_zero_le hx.1
  obtain ⟨y, rfl⟩ := Int.eq_ofNat_of_zero_le hy.1
  obtain ⟨g, rfl⟩ := Int.eq_ofNat_of_zero_le hg.1
  obtain ⟨c, rfl⟩ := Int.eq_ofNat_of_zero_le hc.1
  obtain ⟨s, rfl⟩ := Int.eq_ofNat_of_zero_le hs.1
  obtain ⟨d, rfl⟩ := Int.eq_ofNat_of_zero_le hcv.1
  simp only [Int.toNat_natCast] at *
  have h6 : s + 18446744073709551616 * d = x * y + g + c := by
    rw [← Int.natCast_mul] at h5
    generalize x * y = p at *
    omega
  have e1 : (2 : Nat) ^ (64 * (i + (k + 1))) = 18446744073709551616 * 2 ^ (64 * (i + k)) := by
    rw [show 64 * (i + (k + 1)) = 64 + 64 * (i + k) by omega, Nat.pow_add]
  have e2 : (2 : Nat) ^ (64 * (i + k)) = 2 ^ (64 * i) * 2 ^ (64 * k) := by rw [Nat.mul_add, Nat.pow_add]
  rw [hY, e1, Nat.mul_add (x * 2 ^ (64 * i))]
  have e3 : x * 2 ^ (64 * i) * (y * 2 ^ (64 * k)) = x * y * 2 ^ (64 * (i + k)) := by rw [e2, Nat.mul_mul_mul_comm]
  rw [e3]
  generalize 2 ^ (64 * (i + k)) = W at *
  have e4 : d * (18446744073709551616 * W) = 18446744073709551616 * d * W := by rw [Nat.mul_left_comm, Nat.mul_assoc]
  rw [e4]
  have h7 : s * W + 18446744073709551616 * d * W = x * y * W + g * W + c * W := by
    rw [← Nat.add_mul, h6, Nat.add_mul, Nat.add_mul]
  omega

theorem Q7n (B V' V C X Y W : Nat) {g : Int} (hB : B < Z3) (hg : g = 0) (h1 : V' + g.toNat * W = V + C) (h2 : V + C = X + Y * (B % 2 ^ (64 * 4))) : V' = X + Y * B := by
  rw [Nat.mod_eq_of_lt (show B < 2 ^ (64 * 4) from hB)] at h2
  rw [hg, Int.toNat_zero, Nat.zero_mul, Nat.add_zero] at h1
  rw [h1, h2]

theorem Z52 (A B : Nat) (hA : A < Z3) (hB : B < Z3) (w : World) :
    Calls Tryz.prog 167 #[L4 A, L4 B] w fun e w' => Ret (.agg (J0 .u64 8 (V8 (A * B)))) w w' e := by
  go_enter Tryz.func167, Tryz.ntmps167
  go_wp2
  go_loopw [16] (fun ii wr => ∃ i : Nat, i ≤ 4 ∧ ii = .int .i64 i ∧ Below w.heap.size w wr ∧
      Blk wr (w.heap.size + 1) (c4 B) 155 ∧ Blk wr (w.heap.size + 2) (J0 .u64 8 (fun _ => 0)) 186 ∧
      ∃ f : Nat → Int, Blk wr (w.heap.size + 3) (J0 .u64 8 f) 186 ∧ (∀ j, Y6 (f j)) ∧ (∀ j, i + 4 ≤ j → f j = 0) ∧ J23 f 8 = A % 2 ^ (64 * i) * B)
    (fun ii _ => (4 - intOf ii).toNat)
  case atStart =>
    refine ⟨0, by omega, rfl, ?_, K8 (K8 (U0 _ _ (by simp)) _) _, K8 (U0 _ _ (by simp)) _, fun _ => 0, U0 _ _ (by simp), fun _ => ⟨by simp, by simp⟩, fun _ _ => rfl, ?_⟩
    · exact bz
    rw [J9q, Nat.mul_zero, Nat.pow_zero, Nat.mod_one, Nat.zero_mul]
  case round =>
    obtain ⟨i, hi, rfl, hbel, b1, b2, f, b3, hf, hf0, hv⟩ := hrel
    by_cases hi4 : i = 4
    · subst hi4
      have HV := Lib.hid hv
      clear hv hf0
      go_wp2_with (first
        | (refine wpList_load_row rfl 186 (.tmp 5) rfl (w.heap.size + 3) rfl _ _ _ _ b3 Tryz.underlying186 rfl (by kernel_rfl) ?_)
        | (refine wpList_store_row rfl 186 (.tmp 4) (.tmp 65) rfl (w.heap.size + 2) _ rfl rfl 186 _ b2 (by kernel_rfl) (by kernel_rfl) (K3 _ _ _) ?_))
      refine bodyPost_ret (results_cell_row rfl _ _ (w.heap.size + 2) _ _ _ _ rfl (Y8 b2 _) Tryz.underlying186 rfl (by kernel_rfl)) rfl ⟨?_, Z9 hbel (by omega) _⟩
      have e : J0 .u64 8 f = J0 .u64 8 (V8 (A * B)) := J07 _ _ _ _ fun j hj => by
        have := J7f f 8 j hj (fun i _ => hf i)
        rw [← this, HV.out, Nat.mod_eq_of_lt (show A < 2 ^ (64 * 4) from hA)]
      rw [e]
    have hi3 : i < 4 := by omega
    have hi3' : (i : Int) < 4 := by omega
    have hix : ∀ W, (Instr.index 155 (.agg #[.int .u64 (V8 A 0), .int .u64 (V8 A 1), .int .u64 (V8 A 2), .int .u64 (V8 A 3)]) (.int .i64 (i : Int))).run Tryz.prog W = .ok (.int .u64 (V8 A i)) W :=
      fun W => J1j W 155 71 4 .u64 .i64 (c4 A) i (V8 A i) Tryz.underlying155 Tryz.underlying71 (by kernel_rfl) hi3 (J4y A i hi3)
    have c1 := Q6 b1
    clear hi4
    go_wp2
    clear c1
    have HF0 := Lib.hid hf0
    have HV := Lib.hid hv
    clear hf0 hv hix hi3'
    obtain ⟨wo, rfl⟩ : ∃ wo : World, wo = wr := ⟨_, rfl⟩
    go_loopw [8, 21] (fun cc kk wq => ∃ (k : Nat) (c : Int), k ≤ 4 ∧ kk = .int .i64 k ∧ cc = .int .u64 c ∧ Y6 c ∧ Below w.heap.size w wq ∧
        Blk wq (w.heap.size + 1) (c4 B) 155 ∧ Blk wq (w.heap.size + 2) (J0 .u64 8 (fun _ => 0)) 186 ∧
        ∃ g : Nat → Int, Blk wq (w.heap.size + 3) (J0 .u64 8 g) 186 ∧ (∀ j, Y6 (g j)) ∧ (∀ j, i + 4 ≤ j → g j = 0) ∧
          J23 g 8 + c.toNat * 2 ^ (64 * (i + k)) = A % 2 ^ (64 * i) * B + (V8 A i).toNat * 2 ^ (64 * i) * (B % 2 ^ (64 * k)))
      (fun _ kk _ => (4 - intOf kk).toNat)
    case atStart =>
      refine ⟨0, 0, by omega, rfl, rfl, ⟨by omega, by omega⟩, hbel, b1, b2, f, b3, hf, HF0.out, ?_⟩
      rw [HV.out, Nat.mul_zero, Nat.pow_zero, Nat.mod_one]; simp
    case round =>
      obtain ⟨k, c, hk, rfl, rfl, hc, hbel, b1, b2, g, b3, hg, hg0, hv⟩ := hrel
      have HG0 := Lib.hid hg0
      have HV := Lib.hid hv
      clear hg0 hv HF0
      by_cases hk4 : k = 4
      · subst hk4
        have c3 := (Q6 b3 (i + 4)).trans (J6 _ _ _ _ (by omega))
        have f3 := J05 b3
        have hi8 : (i : Int) + 4 < 8 := by omega
        go_wp2
        have hs := J1q b3 (i + 4) (.int .u64 c)
        rw [K0] at hs
        go_roundw
        case rel =>
          refine ⟨i + 1, by omega, by go_num, ?_, K9 b1 (by omega) _ _, K9 b2 (by omega) _ _, upd g (i + 4) c, hs, ?_, ?_, ?_⟩
          · exact bz
          · intro j
            by_cases hj : j = i + 4
            · subst hj; rw [J3p]; exact hc
            rw [J0w _ _ _ _ hj]; exact hg j
          · intro j hj
            rw [J0w _ _ _ _ (by omega)]
            exact HG0.out j (by omega)
          rw [J7e, Nat.add_mul]
          exact Q7n B _ _ _ _ _ _ hB (HG0.out (i + 4) (by omega)) (J7d g (i + 4) c 8 (by omega)) HV.out
        case measure => simp [intOf]; omega
      have hk3 : k < 4 := by omega
      have hk3' : (k : Int) < 4 := by omega
      clear hk4
      have hix : ∀ W, (Instr.index 155 (.agg #[.int .u64 (V8 B 0), .int .u64 (V8 B 1), .int .u64 (V8 B 2), .int .u64 (V8 B 3)]) (.int .i64 (k : Int))).run Tryz.prog W = .ok (.int .u64 (V8 B k)) W :=
        fun W => J1j W 155 71 4 .u64 .i64 (c4 B) k (V8 B k) Tryz.underlying155 Tryz.underlying71 (by kernel_rfl) hk3 (J4y B k hk3)
      obtain ⟨m1, m2, m3, m4, m5⟩ := Q3q (V8 A i) (V8 B k) (g (i + k)) c (J0v A i) (J0v B k) (hg _) hc
      have a1 := J16 (J72 (V8 A i) (V8 B k)) (g (i + k)) 0 m1 (hg _) (by omega) (by omega)
      have a2 := J16 (adS (J72 (V8 A i) (V8 B k)) (g (i + k)) 0) c 0 m2 hc (by omega) (by omega)
      obtain ⟨sv, hsv⟩ : ∃ sv, sv = adS (adS (J72 (V8 A i) (V8 B k)) (g (i + k)) 0) c 0 := ⟨_, rfl⟩
      rw [← hsv] at m4 m5 a2
      have M5 := Lib.hid m5
      clear m5 hsv
      have c3 := (Q6 b3 (i + k)).trans (J6 _ _ _ _ (by omega))
      have f3 := J05 b3
      have hi8 : (i : Int) + (k : Int) < 8 := by omega
      go_wp2_with (go_at_call 141; refine (Q6w _ _ (J0v A i) (J0v B k) _).mono ?_; rintro e w' ⟨rfl, rfl⟩)
      have hs := J1q b3 (i + k) (.int .u64 sv)
      rw [K0] at hs
      have h1 := J7d g (i + k) sv 8 (by omega)
      have h2 := HV.out
      have h5 := M5.out
      clear HV M5 a1 a2 c3 f3 hix
      go_roundw
      case rel =>
        (repeat apply Exists.intro)
        refine ⟨?_, rfl⟩
        refine ⟨k + 1, _, by omega, by go_num, rfl, m3, ?_, K9 b1 (by omega) _ _, K9 b2 (by omega) _ _, upd g (i + k) sv, hs, ?_, ?_, ?_⟩
        · exact bz
        · intro j
          by_cases hj : j = i + k
          · subst hj; rw [J3p]; exact m4
          rw [J0w _ _ _ _ hj]; exact hg j
        · intro j hj
          rw [J0w _ _ _ _ (by omega)]
          exact HG0.out j hj
        exact Q7m i k (V8 A i) (V8 B k) (g (i + k)) c sv _ _ _ _ _ _ 0 (J0v A i) (J0v B k) (hg _) hc m4 m3 h5 h1 h2 (J7e B k)
      case measure => simp [intOf]; omega
end

section
set_option maxHeartbeats 4000000
set_option maxRecDepth 100000
open Go.RowKit

theorem Z83 (i : Nat) (N V V' : Nat) (g s c cv : Int) (hg : Y6 g) (hs : Y6 s) (hc : Y6 c) (hcv : Y6 cv)
    (h5 : s + 18446744073709551616 * cv = V8 N (4 + i) * 38 + V8 N i + c) (h1 : V' + g.toNat * 2 ^ (64 * i) = V + s.toNat * 2 ^ (64 * i)) (hg0 : g = 0)
    (h2 : V + c.toNat * 2 ^ (64 * i) = N % 2 ^ (64 * i) + 38 * (N / 2 ^ 256 % 2 ^ (64 * i))) :
    V' + cv.toNat * 2 ^ (64 * (i + 1)) = N % 2 ^ (64 * (i + 1)) + 38 * (N / 2 ^ 256 % 2 ^ (64 * (i + 1))) := by
  have e4 : V8 N (4 + i) = V8 (N / 2 ^ 256) i := by
    unfold V8; rw [Nat.div_div_eq_div_mul, ← Nat.pow_add, show 64 * (4 + i) = 256 + 64 * i by omega]
  rw [e4] at h5
  rw [J7e N, J7e (N / 2 ^ 256)]
  have l1 := J0v N i
  have l2 := J0v (N / 2 ^ 256) i
  obtain ⟨x, hx⟩ := Int.eq_ofNat_of_zero_le l1.1
  obtain ⟨y, hy⟩ := Int.eq_ofNat_of_zero_le l2.1
  obtain ⟨s, rfl⟩ := Int.eq_ofNat_of_zero_le hs.1
  obtain ⟨c, rfl⟩ := Int.eq_ofNat_of_zero_le hc.1
  obtain ⟨d, rfl⟩ := Int.eq_ofNat_of_zero_le hcv.1
  subst hg0
  rw [hx, hy] at *
  simp only [Int.toNat_natCast, Int.toNat_zero, Nat.zero_mul, Nat.add_zero] at *
  have h6 : s + 18446744073709551616 * d = y * 38 + x + c := by omega
  have e1 : (2 : Nat) ^ (64 * (i + 1)) = 18446744073709551616 * 2 ^ (64 * i) := by rw [show 64 * (i + 1) = 64 + 64 * i by omega, Nat.pow_add]
  rw [e1]
  generalize N % 2 ^ (64 * i) = n0 at *
  generalize N / 2 ^ 256 % 2 ^ (64 * i) = n1 at *
  generalize 2 ^ (64 * i) = W at *
  have e5 : d * (18446744073709551616 * W) = 18446744073709551616 * d * W := by rw [Nat.mul_left_comm, Nat.mul_assoc]
  have h7 : s * W + 18446744073709551616 * d * W = y * 38 * W + x * W + c * W := by
    rw [← Nat.add_mul, h6, Nat.add_mul, Nat.add_mul]
  have e6 : y * 38 * W = 38 * (y * W) := by rw [Nat.mul_comm y 38, Nat.mul_assoc]
  rw [e5, Nat.mul_add]
  generalize y * W = yw at *
  omega
theorem Y2r (A B S c : Nat) (hA : A < Z3) (hB : B < Z3) (h : S + c * 2 ^ (64 * 4) = A * B % 2 ^ (64 * 4) + 38 * (A * B / 2 ^ 256 % 2 ^ (64 * 4))) : J8o S (38 * c) % PP = A * B % PP := by
  have hN : A * B / 2 ^ 256 < Z3 := Nat.div_lt_of_lt_mul (Nat.mul_lt_mul'' hA hB)
  have e : (2 : Nat) ^ (64 * 4) = Z3 := by decide
  have e' : (2 : Nat) ^ 256 = Z3 := by decide
  rw [show (2 : Nat) ^ (64 * 4) = 2 ^ 256 by decide] at h
  rw [e'] at h hN
  rw [Nat.mod_eq_of_lt hN] at h
  rw [Q65]
  have hd := Nat.div_add_mod (A * B) Z3
  generalize A * B / Z3 = q at *
  generalize A * B % Z3 = r at *
  generalize A * B = N at *
  have h2 : Z3 = 2 * PP + 38 := PP_two.symm
  have key : S + 38 * c + PP * (2 * c) = r + 38 * q := by
    have : PP * (2 * c) = c * (2 * PP) := by rw [Nat.mul_left_comm, Nat.mul_comm PP c, Nat.mul_left_comm]
    rw [h2, Nat.mul_add] at h
    omega
  have key2 : N = r + 38 * q + PP * (2 * q) := by
    have : PP * (2 * q) = 2 * PP * q := by rw [Nat.mul_left_comm, Nat.mul_assoc]
    rw [← hd, h2, Nat.add_mul]; omega
  rw [key2, ← key, Nat.add_mul_mod_self_left, Nat.add_mul_mod_self_left]

theorem Y2s (S O N : Nat) (h : S + O * 2 ^ (64 * 4) = N % 2 ^ (64 * 4) + 38 * (N / 2 ^ 256 % 2 ^ (64 * 4))) : O ≤ 38 := by
  have h1 : N % 2 ^ (64 * 4) < Z3 := Nat.mod_lt _ (by decide)
  have h2 : N / 2 ^ 256 % 2 ^ (64 * 4) < Z3 := Nat.mod_lt _ (by decide)
  rw [show (2 : Nat) ^ (64 * 4) = Z3 by decide] at *
  unfold Z3 at *; omega
theorem V2k (f : Nat → Int) : J0 .u64 4 f = #[.int .u64 (f 0), .int .u64 (f 1), .int .u64 (f 2), .int .u64 (f 3)] := rfl
theorem Y2t (f : Nat → Int) (hf : ∀ j, Y6 (f j)) : Value.agg (J0 .u64 4 f) = L4 (J23 f 4) := by
  rw [V2k]; unfold L4
  rw [J7f f 4 0 (by omega) (fun i _ => hf i), J7f f 4 1 (by omega) (fun i _ => hf i), J7f f 4 2 (by omega) (fun i _ => hf i), J7f f 4 3 (by omega) (fun i _ => hf i)]
theorem Z84 (f : Nat → Int) (S o : Nat) (hS : S = J23 f 4) (hf : ∀ j, Y6 (f j)) (hA : S < Z3) (ho : o ≤ 38) (w : World) : Calls Tryz.prog 168 #[.agg (J0 .u64 4 f), .int .u64 (IntKind.u64.wrap (38 * (o : Int)))] w fun e w' => Ret (L4 (J8o S (38 * o))) w w' e := by
  have : IntKind.u64.wrap (38 * (o : Int)) = ((38 * o : Nat) : Int) := by rw [IntKind.wrap_u64]; omega
  rw [this, Y2t f hf, ← hS]; exact Z81 S (38 * o) hA (by omega) w
theorem Y9 (A B : Nat) (hA : A < Z3) (hB : B < Z3) (w : World) (hG : GF w) :
  Calls Tryz.prog 136 #[L4 A, L4 B] w fun e w' => Ret (L4 (A * B % PP)) w w' e := by
 go_enter Tryz.func136, Tryz.ntmps136
 go_upto_region 1 with fail
 refine wn3 (c1 := (c4 A)) (t1 := 155) (c2 := (c4 B)) (t2 := 155) (c3 := #[.int .u64 0, .int .u64 0, .int .u64 0, .int .u64 0]) (t3 := 155) fun W0 bel k_t2 k_t3 k_t4 => ?_
 have lt_t2_0 := Q7 k_t2
 have lt_t3_0 := Q7 k_t3
 have lt_t4_0 := Q7 k_t4
 have gf := Q9 hG bel
 have gm := gf.1
 have gi := gf.2
 have c_p := Z52 A B hA hB
 obtain ⟨N, hN⟩ := exn (A * B)
 rw [← hN] at c_p
 have HN := Lib.hid hN
 clear hN
 refine Px1 3 5 (z := J0 .u64 8 (fun _ => 0)) (t := 186) ?_
 refine XL ?_
 refine XL ?_
 refine Xf ?_ (fun W hW => c_p W)
 refine XN ?_
 intro J5m W1 n_t5_1 hE k_t5
 have sz_1 := bel.size
 skip
 refine Lp ?_ k_t5 (cells := J0 .u64 8 (V8 N)) (h1 := (K3 _ _ _))
 intro W2 hO h_
 refine J3 ?_
 replace k_t2 := ko k_t2 hE hO (by omega)
 replace k_t3 := ko k_t3 hE hO (by omega)
 replace k_t4 := ko k_t4 hE hO (by omega)
 replace k_t5 := h_
 replace bel := bwo bel hE hO bel.size (by omega)
 clear hO h_
 go_upto_region 2 with fail
 have lt_t5_2 := Q7 k_t5
 have gf := Q9 hG bel
 have gm := gf.1
 have gi := gf.2
 refine Px1 0 6 (z := #[.int .u64 0, .int .u64 0, .int .u64 0, .int .u64 0]) (t := 155) ?_
 refine XN ?_
 intro Z85 W3 n_t6_3 hE k_t6
 have sz_3 := bel.size
 skip
 refine J3 ?_
 have hF : Below w.heap.size w W3 ∧ Blk W3 w.heap.size (c4 A) 155 ∧ Blk W3 (w.heap.size + 1) (c4 B) 155 ∧ Blk W3 (w.heap.size + 2) #[.int .u64 0, .int .u64 0, .int .u64 0, .int .u64 0] 155 ∧ Blk W3 J5m (J0 .u64 8 (V8 N)) 186 ∧ Blk W3 Z85 #[.int .u64 0, .int .u64 0, .int .u64 0, .int .u64 0] 155 := ⟨(Z5 bel hE bel.size), (J1 k_t2 hE), (J1 k_t3 hE), (J1 k_t4 hE), (J1 k_t5 hE), k_t6⟩
 clear bel k_t2 k_t3 k_t4 k_t5 k_t6
 obtain ⟨bel, k_t2, k_t3, k_t4, k_t5, k_t6⟩ := hF
 have lt_t6_3 := Q7 k_t6
 go_wp2_with fail
 go_loopw [7, 16] (fun cc ii wr => ∃ (i : Nat) (c : Int) (f : Nat → Int), i ≤ 4 ∧ ii = .int .i64 i ∧ cc = .int .u64 c ∧ Y6 c ∧ (∀ j, Y6 (f j)) ∧ (∀ j, i ≤ j → f j = 0) ∧ J23 f 4 + c.toNat * 2 ^ (64 * i) = N % 2 ^ (64 * i) + 38 * (N / 2 ^ 256 % 2 ^ (64 * i)) ∧ Below w.heap.size w wr ∧ Blk wr w.heap.size (c4 A) 155 ∧ Blk wr (w.heap.size + 1) (c4 B) 155 ∧ Blk wr (w.heap.size + 2) #[.int .u64 0, .int .u64 0, .int .u64 0, .int .u64 0] 155 ∧ Blk wr J5m (J0 .u64 8 (V8 N)) 186 ∧ Blk wr Z85 (J0 .u64 4 f) 155)
  (fun cc ii _ => (4 - intOf ii).toNat)
 case atStart =>
  refine ⟨0, 0, fun _ => 0, by omega, rfl, rfl, ⟨by omega, by omega⟩, fun _ => ⟨by simp, by simp⟩, fun _ _ => rfl, ?_, bel, k_t2, k_t3, k_t4, k_t5, k_t6⟩
  rw [J9q, Nat.mul_zero, Nat.pow_zero, Nat.mod_one, Nat.mod_one]; rfl
 case round =>
  obtain ⟨i, c, f, hi, rfl, rfl, hc, hf, hf0, hv, bel, k_t2, k_t3, k_t4, k_t5, k_t6⟩ := hrel
  have HV := Lib.hid hv
  have HF0 := Lib.hid hf0
  clear hv hf0
  by_cases hexit : i = 4
  ·
   have _hx := hexit
   subst hexit
   go_upto_region 14 with fail
   have lt_t2_4 := Q7 k_t2
   have lt_t3_4 := Q7 k_t3
   have lt_t4_4 := Q7 k_t4
   have lt_t5_4 := Q7 k_t5
   have lt_t6_4 := Q7 k_t6
   have gf := Q9 hG bel
   have gm := gf.1
   have gi := gf.2
   obtain ⟨S, hS⟩ := exn (J23 f 4)
   have bS : S < Z3 := by rw [hS]; exact Q0v f 4 (fun j _ => hf j)
   obtain ⟨O, rfl⟩ := Int.eq_ofNat_of_zero_le hc.1
   have hw := HV.out
   rw [← hS, Int.toNat_natCast] at hw
   have bO : O ≤ 38 := Y2s _ _ _ hw
   have c_X1 := Z84 f S O hS (fun j => hf j) bS bO
   obtain ⟨X1, hX1⟩ := exn (J8o S (38 * O))
   rw [← hX1] at c_X1
   have bX1 : X1 < Z3 := by rw [hX1]; exact Q9k _ _ bS (by omega)
   have HX1 := Lib.hid hX1
   clear hX1
   have c_X2 := J76 X1 bX1
   obtain ⟨X2, hX2⟩ := exn (X1 % PP)
   rw [← hX2] at c_X2
   have bX2 := J1u hX2
   have HX2 := Lib.hid hX2
   clear hX2
   refine Px 5 ?_
   refine XL ?_
   refine Xv ?_
   refine Xv ?_
   refine Xf ?_ (fun W hW => c_X1 W)
   refine Xf ?_ (fun W hW => c_X2 W (Q9 gf hW))
   refine Z4 fun W5 hE => ?_
   refine Lp ?_ (J1 k_t4 hE) (cells := c4 X2)
   intro W6 hO h_
   refine J3 ?_
   replace k_t2 := ko k_t2 hE hO (by omega)
   replace k_t3 := ko k_t3 hE hO (by omega)
   replace k_t4 := h_
   replace k_t5 := ko k_t5 hE hO (by omega)
   replace k_t6 := ko k_t6 hE hO (by omega)
   replace bel := bwo bel hE hO bel.size (by omega)
   clear hO h_
   go_wp2
   refine bodyPost_ret (Y0 rfl rfl k_t4 (by kernel_rfl) (by kernel_rfl)) rfl ⟨?_, bel⟩
   rw [HX2.out, HX1.out, Y2r A B S O hA hB (by rw [← HN.out]; exact hw)]; rfl
  have hi3 : i < 4 := by omega
  have hi3' : (i : Int) < 4 := by omega
  have hi8 : 4 + (i : Int) < 8 := by omega
  have hi8' : (i : Int) < 8 := by omega
  clear hexit
  obtain ⟨m1, m2, m3, m4, m5⟩ := Q3q (V8 N (4 + i)) 38 (V8 N i) c (J0v N _) (by unfold Y6; omega) (J0v N i) hc
  have a1 := J16 (J72 (V8 N (4 + i)) 38) (V8 N i) 0 m1 (J0v N i) (by omega) (by omega)
  have a2 := J16 (adS (J72 (V8 N (4 + i)) 38) (V8 N i) 0) c 0 m2 hc (by omega) (by omega)
  obtain ⟨sv, hsv⟩ : ∃ sv, sv = adS (adS (J72 (V8 N (4 + i)) 38) (V8 N i) 0) c 0 := ⟨_, rfl⟩
  rw [← hsv] at m4 m5 a2
  have M5 := Lib.hid m5
  clear m5 hsv
  have c5 := (Q6 k_t5 (4 + i)).trans (J6 _ _ _ _ (by omega))
  have c5' := (Q6 k_t5 i).trans (J6 _ _ _ _ (by omega))
  have c6 := (Q6 k_t6 i).trans (J6 _ _ _ _ hi3)
  have f6 := J05 k_t6
  go_wp2_with (go_at_call 141; refine (Q6w _ _ (J0v N (4 + i)) (by unfold Y6; omega) _).mono ?_; rintro e w' ⟨rfl, rfl⟩)
  have hs := J1q k_t6 i (.int .u64 sv)
  rw [K0] at hs
  have h1 := J7d f i sv 4 hi3
  have h2 := HV.out
  have h5 := M5.out
  clear HV M5 a1 a2 c5 c5' c6 f6
  go_roundw
  case rel =>
   (repeat apply Exists.intro)
   refine ⟨?_, rfl⟩
   refine ⟨i + 1, _, upd f i sv, by omega, by go_num, rfl, m3, ?_, ?_, Z83 i N _ _ (f i) sv c _ (hf i) m4 hc m3 h5 h1 (HF0.out i (Nat.le_refl i)) h2, ?_, ?_, ?_, ?_, ?_, hs⟩
   ·
    intro j
    by_cases hj : j = i
    ·
     subst hj; rw [J3p]; exact m4
    rw [J0w _ _ _ _ hj]; exact hf j
   ·
    intro j hj
    rw [J0w _ _ _ _ (by omega)]
    exact HF0.out j (by omega)
   ·
    exact J4v bel (by omega) _ _
   ·
    exact K9 k_t2 (by omega) _ _
   ·
    exact K9 k_t3 (by omega) _ _
   ·
    exact K9 k_t4 (by omega) _ _
   exact K9 k_t5 (by omega) _ _
  case measure => simp [intOf]; omega
end
end Go.Proofs.YtejkmhgkkibafaaGreatDoor.S8
