/- The walks of field.Elem.sub and add, each once. Conditions: words of 64 bits. field.Elem.more and field.Rest. Conditions: the cells of field.modulus hold the modulus. field.Rest, Add, Neg, Sub, Small. Conditions: the cells of field.modulus hold the modulus. field.product. field.Mul. Conditions: the cells of field.modulus hold the modulus. -/
import Derived.Test.YtefpoollmbmkfaaDoorGc
import Derived.Test.YtefpoollmbmkfaaDoorGb
import Derived.Test.YtefpoollmbmkfaaDoorGa
import Derived.Deep.QuietTactic
import Derived.BigQuiet
import Derived.BigRegion
import Derived.Lib.Hide
import Derived.Laws.Rows
set_option linter.unusedSimpArgs false
set_option linter.unusedVariables false
namespace Go.Proofs.YtefpoollmbmkfaaDoor
set_option maxHeartbeats 4000000
set_option maxRecDepth 100000
open Go.RowKit

theorem Q9i (a0 a1 a2 a3 b0 b1 b2 b3 : Int) (ha : U4 a0 a1 a2 a3) (hb : U4 b0 b1 b2 b3) (w : World) :
    Calls Tryd.prog 109 #[A4 a0 a1 a2 a3, A4 b0 b1 b2 b3] w fun e w' =>
      Ret (.tuple #[L4 (J9f (J1g a0 a1 a2 a3) (J1g b0 b1 b2 b3)), .int .u64 (brw (J1g a0 a1 a2 a3) (J1g b0 b1 b2 b3))]) w w' e := by
  have hch := Q6l a0 a1 a2 a3 b0 b1 b2 b3 ha hb
  have HC := Lib.hid hch
  clear hch
  have h0 := J4u a0 b0 0 ha.1 hb.1 (by omega) (by omega)
  have h1 := J4u a1 b1 _ ha.2.1 hb.2.1 (J6k a0 b0 0).1 (J6k a0 b0 0).2
  have h2 := J4u a2 b2 _ ha.2.2.1 hb.2.2.1 (J6k a1 b1 (sbB a0 b0 0)).1 (J6k a1 b1 (sbB a0 b0 0)).2
  have h3 := J4u a3 b3 _ ha.2.2.2 hb.2.2.2 (J6k a2 b2 (sbB a1 b1 (sbB a0 b0 0))).1 (J6k a2 b2 (sbB a1 b1 (sbB a0 b0 0))).2
  clear ha hb
  go_enter Tryd.func109, Tryd.ntmps109
  go_wp2
  refine wp_loop_rounds 5 ?_
  rw [rounds_succ]
  go_wp2
  go_region
  go_wp2
  rw [rounds_succ]
  go_wp2
  go_region
  go_wp2
  rw [rounds_succ]
  go_wp2
  go_region
  go_wp2
  rw [rounds_succ]
  go_wp2
  go_region
  go_wp2
  rw [rounds_succ]
  go_wp2
  refine bodyPost_ret (v := .tuple #[A4 (sbD a0 b0 0) (sbD a1 b1 (sbB a0 b0 0)) (sbD a2 b2 (sbB a1 b1 (sbB a0 b0 0))) (sbD a3 b3 (sbB a2 b2 (sbB a1 b1 (sbB a0 b0 0)))), .int .u64 (sbB a3 b3 (sbB a2 b2 (sbB a1 b1 (sbB a0 b0 0))))]) (by simp [results, Tryd.results109, go_sem]) rfl ⟨?_, ?_⟩
  · rw [HC.out.1, HC.out.2]
  · exact bz

theorem add_c (a0 a1 a2 a3 b0 b1 b2 b3 : Int) (ha : U4 a0 a1 a2 a3) (hb : U4 b0 b1 b2 b3) (w : World) :
    Calls Tryd.prog 108 #[A4 a0 a1 a2 a3, A4 b0 b1 b2 b3] w fun e w' =>
      Ret (.tuple #[L4 ((J1g a0 a1 a2 a3 + J1g b0 b1 b2 b3) % Z0), .int .u64 ((J1g a0 a1 a2 a3 + J1g b0 b1 b2 b3) / Z0 : Nat)]) w w' e := by
  have hch := Q6m a0 a1 a2 a3 b0 b1 b2 b3 0 ha hb (by omega) (by omega)
  simp only [Int.toNat_zero, Nat.add_zero] at hch
  have HC := Lib.hid hch
  clear hch
  have v0 := Q0v a0 b0 0 ha.1 hb.1 (by omega) (by omega)
  have v1 := Q0v a1 b1 _ ha.2.1 hb.2.1 v0.1 v0.2
  have v2 := Q0v a2 b2 _ ha.2.2.1 hb.2.2.1 v1.1 v1.2
  have h0 := J23 a0 b0 0 ha.1 hb.1 (by omega) (by omega)
  have h1 := J23 a1 b1 _ ha.2.1 hb.2.1 v0.1 v0.2
  have h2 := J23 a2 b2 _ ha.2.2.1 hb.2.2.1 v1.1 v1.2
  have h3 := J23 a3 b3 _ ha.2.2.2 hb.2.2.2 v2.1 v2.2
  clear v0 v1 v2
  clear ha hb
  go_enter Tryd.func108, Tryd.ntmps108
  go_wp2
  refine wp_loop_rounds 5 ?_
  rw [rounds_succ]
  go_wp2
  go_region
  go_wp2
  rw [rounds_succ]
  go_wp2
  go_region
  go_wp2
  rw [rounds_succ]
  go_wp2
  go_region
  go_wp2
  rw [rounds_succ]
  go_wp2
  go_region
  go_wp2
  rw [rounds_succ]
  go_wp2
  refine bodyPost_ret (v := .tuple #[A4 (adS a0 b0 0) (adS a1 b1 (adC a0 b0 0)) (adS a2 b2 (adC a1 b1 (adC a0 b0 0))) (adS a3 b3 (adC a2 b2 (adC a1 b1 (adC a0 b0 0)))), .int .u64 (adC a3 b3 (adC a2 b2 (adC a1 b1 (adC a0 b0 0))))]) (by simp [results, Tryd.results108, go_sem]) rfl ⟨?_, ?_⟩
  · rw [HC.out.1, HC.out.2]; rfl
  · exact bz

theorem Z13 (A B : Nat) (hA : A < Z0) (hB : B < Z0) (w : World) : Calls Tryd.prog 109 #[L4 A, L4 B] w fun e w' => Ret (.tuple #[L4 (J9f A B), .int .u64 (brw A B)]) w w' e := by
  have h := Q9i _ _ _ _ _ _ _ _ (J6z A) (J6z B) w
  rw [J2s A hA, J2s B hB] at h; exact h
theorem Z14 (A B : Nat) (hA : A < Z0) (hB : B < Z0) (w : World) : Calls Tryd.prog 108 #[L4 A, L4 B] w fun e w' => Ret (.tuple #[L4 ((A + B) % Z0), .int .u64 ((A + B) / Z0 : Nat)]) w w' e := by
  have h := add_c _ _ _ _ _ _ _ _ (J6z A) (J6z B) w
  rw [J2s A hA, J2s B hB] at h; exact h
end Go.Proofs.YtefpoollmbmkfaaDoor

namespace Go.Proofs.YtefpoollmbmkfaaDoor
set_option maxHeartbeats 4000000
set_option maxRecDepth 100000
open Go.RowKit

def PP : Nat := 57896044618658097711785492504343953926634992332820282019728792003956564819949
theorem J7x : PP < Z0 := by decide +kernel
theorem PP_two : 2 * PP + 38 = Z0 := by decide +kernel
theorem Z34 (n : Nat) : n % PP < Z0 := Nat.lt_trans (Nat.mod_lt _ (by decide)) J7x
theorem J0v {X n : Nat} (h : X = n % PP) : X < Z0 := h ▸ Z34 n
def Z15 : Array Value := #[.int .u64 18446744073709551597, .int .u64 18446744073709551615, .int .u64 18446744073709551615, .int .u64 9223372036854775807]
def J6l : Array Value := #[.int .u64 14190309331451158704, .int .u64 3405592160176694392, .int .u64 3120150775007532967, .int .u64 3135389899092516619]
def GF (w : World) : Prop := Rd w 9 Z15 ∧ True
def GI (w : World) : Prop := Rd w 8 J6l
theorem Z8 {w W : World} (h : GF w) (e : Ext w W) : GF W := ⟨h.1.ext e, trivial⟩
theorem Q4p (n : Nat) (hn : n < 18446744073709551616) : L4 n = .agg #[.int .u64 (n : Int), .int .u64 0, .int .u64 0, .int .u64 0] := by
  have h0 : lim n 0 = (n : Int) := by unfold lim; simp only [Nat.mul_zero, Nat.pow_zero, Nat.div_one]; omega
  have h1 : lim n 1 = 0 := by unfold lim; rw [Nat.div_eq_of_lt (by simp only [Nat.reduceMul, Nat.reducePow]; omega)]; rfl
  have h2 : lim n 2 = 0 := by unfold lim; rw [Nat.div_eq_of_lt (by simp only [Nat.reduceMul, Nat.reducePow]; omega)]; rfl
  have h3 : lim n 3 = 0 := by unfold lim; rw [Nat.div_eq_of_lt (by simp only [Nat.reduceMul, Nat.reducePow]; omega)]; rfl
  unfold L4; rw [h0, h1, h2, h3]
theorem Y39 (A B : Nat) (hA : A < Z0) (hB : B < Z0) (h : A + B < Z0) (w : World) : Calls Tryd.prog 108 #[L4 A, L4 B] w fun e w' => Ret (.tuple #[L4 (A + B), .int .u64 0]) w w' e := by
  have := Z14 A B hA hB w
  rw [Nat.mod_eq_of_lt h, Nat.div_eq_of_lt h] at this; exact this
theorem Y3a (A B : Nat) (hA : A < Z0) (hB : B < Z0) (h : Z0 ≤ A + B) (w : World) : Calls Tryd.prog 108 #[L4 A, L4 B] w fun e w' => Ret (.tuple #[L4 (A + B - Z0), .int .u64 1]) w w' e := by
  have := Z14 A B hA hB w
  have e1 : (A + B) % Z0 = A + B - Z0 := by rw [Nat.mod_eq_sub_mod h, Nat.mod_eq_of_lt (by omega)]
  have e2 : (A + B) / Z0 = 1 := Nat.div_eq_of_lt_le (by omega) (by omega)
  rw [e1, e2] at this; exact this
theorem Q9j (A n : Nat) (hA : A < Z0) (hn : n < 18446744073709551616) (h : A + n < Z0) (w : World) : Calls Tryd.prog 108 #[L4 A, .agg #[.int .u64 (n : Int), .int .u64 0, .int .u64 0, .int .u64 0]] w fun e w' => Ret (.tuple #[L4 (A + n), .int .u64 0]) w w' e := by
  rw [← Q4p n hn]; exact Y39 A n hA (by unfold Z0; omega) h w
theorem Z7x (A n : Nat) (hA : A < Z0) (hn : n < 18446744073709551616) (h : Z0 ≤ A + n) (w : World) : Calls Tryd.prog 108 #[L4 A, .agg #[.int .u64 (n : Int), .int .u64 0, .int .u64 0, .int .u64 0]] w fun e w' => Ret (.tuple #[L4 (A + n - Z0), .int .u64 1]) w w' e := by
  rw [← Q4p n hn]; exact Y3a A n hA (by unfold Z0; omega) h w
def J9a (A n : Nat) : Nat := if A + n < Z0 then A + n else A + n - Z0 + 38

theorem Y3b (A n : Nat) (hA : A < Z0) (hn : n < 18446744073709551616) (h : A + n < Z0) (w : World) :
  Calls Tryd.prog 105 #[L4 A, .int .u64 (n : Int)] w fun e w' => Ret (L4 (A + n)) w w' e := by
 go_enter Tryd.func105, Tryd.ntmps105
 go_upto_region 1 with fail
 refine wn2 (c1 := (c4 (A))) (t1 := 58) (c2 := #[.int .u64 0, .int .u64 0, .int .u64 0, .int .u64 0]) (t2 := 58) fun W0 bel k_t2 k_t4 => ?_
 have c1 := Q9j A n hA hn h
 refine Px1 7 5 (z := #[.int .u64 0, .int .u64 0, .int .u64 0, .int .u64 0]) (t := 58) ?_
 refine XL ?_
 refine Xv ?_
 refine Xv ?_
 refine Xf ?_ (fun W hW => c1 W)
 refine Xv ?_
 refine Xv ?_
 refine Xv ?_
 refine XN ?_
 intro J6d W1 n_t5_1 hE k_t5
 have lt_t2_1 := J5 k_t2
 have lt_t4_1 := J5 k_t4
 have sz_1 := bel.size
 skip
 refine LS ?_ k_t5 (g := J6d) (cells := c4 (A + n))
 refine Lv ?_
 refine J0 ?_
 refine J7y (fun W => Below w.heap.size w W ∧ Blk W w.heap.size (c4 (A)) 58 ∧ Blk W (w.heap.size + 1) #[.int .u64 0, .int .u64 0, .int .u64 0, .int .u64 0] 58 ∧ Blk W J6d (c4 (A + n)) 58) ⟨(Y5 (Z5 bel hE bel.size) (by omega) _), (J4 (J2 k_t2 hE) (by omega) _), (J4 (J2 k_t4 hE) (by omega) _), (V0 k_t5 (c4 (A + n)))⟩ ?_
 clear bel k_t2 k_t4 k_t5
 rintro W2 ⟨bel, k_t2, k_t4, k_t5⟩
 go_upto_region 4 with fail
 refine Px 1 ?_
 refine XL ?_
 refine Q3 fun W3 hE => ?_
 have lt_t5_3 := J5 k_t5
 refine LS ?_ (J2 k_t4 hE) (g := (w.heap.size + 1)) (cells := c4 (A + n))
 refine J0 ?_
 refine J7y (fun W => Below w.heap.size w W ∧ Blk W w.heap.size (c4 (A)) 58 ∧ Blk W (w.heap.size + 1) (c4 (A + n)) 58 ∧ Blk W J6d (c4 (A + n)) 58) ⟨(Y5 (Z5 bel hE bel.size) (by omega) _), (J4 (J2 k_t2 hE) (by omega) _), (V0 (J2 k_t4 hE) (c4 (A + n))), (J4 (J2 k_t5 hE) (by omega) _)⟩ ?_
 clear bel k_t2 k_t4 k_t5
 rintro W4 ⟨bel, k_t2, k_t4, k_t5⟩
 go_wp2
 refine bodyPost_ret (K6 rfl rfl k_t4 (by kernel_rfl) (by kernel_rfl)) rfl ⟨?_, bel⟩
 rfl
theorem Y3c (A n : Nat) (hA : A < Z0) (hn : n < 18446744073709551616) (h : Z0 ≤ A + n) (h2 : A + n - Z0 + 38 < Z0) (w : World) :
  Calls Tryd.prog 105 #[L4 A, .int .u64 (n : Int)] w fun e w' => Ret (L4 (A + n - Z0 + 38)) w w' e := by
 go_enter Tryd.func105, Tryd.ntmps105
 go_upto_region 1 with fail
 refine wn2 (c1 := (c4 (A))) (t1 := 58) (c2 := #[.int .u64 0, .int .u64 0, .int .u64 0, .int .u64 0]) (t2 := 58) fun W0 bel k_t2 k_t4 => ?_
 have c_X1 := Z7x A n hA hn h
 obtain ⟨X1, hX1⟩ : ∃ X, X = A + n - Z0 := ⟨_, rfl⟩
 rw [← hX1] at c_X1
 have HX1 := Lib.hid hX1
 clear hX1
 refine Px1 7 5 (z := #[.int .u64 0, .int .u64 0, .int .u64 0, .int .u64 0]) (t := 58) ?_
 refine XL ?_
 refine Xv ?_
 refine Xv ?_
 refine Xf ?_ (fun W hW => c_X1 W)
 refine Xv ?_
 refine Xv ?_
 refine Xv ?_
 refine XN ?_
 intro J6d W1 n_t5_1 hE k_t5
 have lt_t2_1 := J5 k_t2
 have lt_t4_1 := J5 k_t4
 have sz_1 := bel.size
 skip
 refine LS ?_ k_t5 (g := J6d) (cells := c4 (X1))
 refine Lv ?_
 refine J0 ?_
 refine J7y (fun W => Below w.heap.size w W ∧ Blk W w.heap.size (c4 (A)) 58 ∧ Blk W (w.heap.size + 1) #[.int .u64 0, .int .u64 0, .int .u64 0, .int .u64 0] 58 ∧ Blk W J6d (c4 (X1)) 58) ⟨(Y5 (Z5 bel hE bel.size) (by omega) _), (J4 (J2 k_t2 hE) (by omega) _), (J4 (J2 k_t4 hE) (by omega) _), (V0 k_t5 (c4 (X1)))⟩ ?_
 clear bel k_t2 k_t4 k_t5
 rintro W2 ⟨bel, k_t2, k_t4, k_t5⟩
 go_upto_region 3 with fail
 have c_X2 := Q9j X1 38 (by rw [HX1.out]; omega) (by decide) (by rw [HX1.out]; omega)
 obtain ⟨X2, hX2⟩ : ∃ X, X = X1 + 38 := ⟨_, rfl⟩
 rw [← hX2] at c_X2
 have HX2 := Lib.hid hX2
 clear hX2
 refine Px 6 ?_
 refine XL ?_
 refine Xv ?_
 refine Xf ?_ (fun W hW => c_X2 W)
 refine Xv ?_
 refine Xv ?_
 refine Xv ?_
 refine Q3 fun W3 hE => ?_
 have lt_t5_3 := J5 k_t5
 refine LS ?_ (J2 k_t5 hE) (g := J6d) (cells := c4 (X2))
 refine J0 ?_
 refine J7y (fun W => Below w.heap.size w W ∧ Blk W w.heap.size (c4 (A)) 58 ∧ Blk W (w.heap.size + 1) #[.int .u64 0, .int .u64 0, .int .u64 0, .int .u64 0] 58 ∧ Blk W J6d (c4 (X2)) 58) ⟨(Y5 (Z5 bel hE bel.size) (by omega) _), (J4 (J2 k_t2 hE) (by omega) _), (J4 (J2 k_t4 hE) (by omega) _), (V0 (J2 k_t5 hE) (c4 (X2)))⟩ ?_
 clear bel k_t2 k_t4 k_t5
 rintro W4 ⟨bel, k_t2, k_t4, k_t5⟩
 go_upto_region 4 with fail
 refine Px 1 ?_
 refine XL ?_
 refine Q3 fun W5 hE => ?_
 have lt_t5_5 := J5 k_t5
 refine LS ?_ (J2 k_t4 hE) (g := (w.heap.size + 1)) (cells := c4 (X2))
 refine J0 ?_
 refine J7y (fun W => Below w.heap.size w W ∧ Blk W w.heap.size (c4 (A)) 58 ∧ Blk W (w.heap.size + 1) (c4 (X2)) 58 ∧ Blk W J6d (c4 (X2)) 58) ⟨(Y5 (Z5 bel hE bel.size) (by omega) _), (J4 (J2 k_t2 hE) (by omega) _), (V0 (J2 k_t4 hE) (c4 (X2))), (J4 (J2 k_t5 hE) (by omega) _)⟩ ?_
 clear bel k_t2 k_t4 k_t5
 rintro W6 ⟨bel, k_t2, k_t4, k_t5⟩
 go_wp2
 refine bodyPost_ret (K6 rfl rfl k_t4 (by kernel_rfl) (by kernel_rfl)) rfl ⟨?_, bel⟩
 rw [HX2.out, HX1.out]; rfl
end Go.Proofs.YtefpoollmbmkfaaDoor

namespace Go.Proofs.YtefpoollmbmkfaaDoor
set_option maxHeartbeats 4000000
set_option maxRecDepth 100000
open Go.RowKit

theorem Q7y : Value.agg Z15 = L4 PP := by kernel_rfl
theorem Z36 (A B : Nat) (hA : A < Z0) (hB : B < Z0) (h : B ≤ A) : J9f A B = A - B := by unfold J9f Z0 at *; omega
theorem Q7z (X : Nat) (hX : X < PP) (w : World) : Calls Tryd.prog 109 #[L4 X, .agg Z15] w fun e w' => Ret (.tuple #[L4 (J9f X PP), .int .u64 1]) w w' e := by
  have := Z13 X PP (Nat.lt_trans hX J7x) J7x w
  rw [Q7y]
  unfold brw at this; rw [if_pos hX] at this; exact this
theorem Q80 (X : Nat) (hX : X < Z0) (h : PP ≤ X) (w : World) : Calls Tryd.prog 109 #[L4 X, .agg Z15] w fun e w' => Ret (.tuple #[L4 (X - PP), .int .u64 0]) w w' e := by
  have := Z13 X PP hX J7x w
  rw [Q7y]
  rw [Z36 X PP hX J7x h] at this
  unfold brw at this; rw [if_neg (by omega)] at this; exact this
theorem V1n (X : Nat) (h : PP ≤ X) (h1 : X - PP < PP) : X - PP = X % PP := by rw [Nat.mod_eq_sub_mod h, Nat.mod_eq_of_lt h1]
theorem V1o (X : Nat) (h : PP ≤ X) (h1 : PP ≤ X - PP) (h2 : X - PP - PP < PP) : X - PP - PP = X % PP := by rw [Nat.mod_eq_sub_mod h, Nat.mod_eq_sub_mod h1, Nat.mod_eq_of_lt h2]

theorem Y7t (X : Nat) (hX : X < Z0) (hq : X < PP) (w : World) (hG : GF w) :
  Calls Tryd.prog 103 #[L4 X] w fun e w' => Ret (L4 X) w w' e := by
 go_enter Tryd.func103, Tryd.ntmps103
 go_wp2_with fail
 refine wp_loop_rounds 4 ?_
 rw [rounds_succ]
 go_upto_region 1 with fail
 refine wn2 (c1 := (c4 X)) (t1 := 58) (c2 := #[.int .u64 0, .int .u64 0, .int .u64 0, .int .u64 0]) (t2 := 58) fun W0 bel k_t1 k_t2 => ?_
 have lt_t1_0 := J5 k_t1
 have lt_t2_0 := J5 k_t2
 have gf := Z8 hG bel
 have gm := gf.1
 clear gf
 have c_X1 := Q7z X hq
 obtain ⟨X1, hX1⟩ := V2 (J9f X PP)
 rw [← hX1] at c_X1
 have HX1 := Lib.hid hX1
 clear hX1
 refine Px1 6 3 (z := #[.int .u64 0, .int .u64 0, .int .u64 0, .int .u64 0]) (t := 58) ?_
 refine XL ?_
 refine XL ?_
 refine Xf ?_ (fun W hW => c_X1 W)
 refine Xv ?_
 refine Xv ?_
 refine Xv ?_
 refine XN ?_
 intro J2e W1 n_t3_1 hE k_t3
 have sz_1 := bel.size
 skip
 refine LS ?_ k_t3 (g := J2e) (cells := c4 X1)
 refine Lv ?_
 refine J0 ?_
 have hF : Below w.heap.size w (W1.setRow J2e (c4 X1)) ∧ Blk (W1.setRow J2e (c4 X1)) w.heap.size (c4 X) 58 ∧ Blk (W1.setRow J2e (c4 X1)) (w.heap.size + 1) #[.int .u64 0, .int .u64 0, .int .u64 0, .int .u64 0] 58 ∧ Blk (W1.setRow J2e (c4 X1)) J2e (c4 X1) 58 := ⟨(Y5 (Z5 bel hE bel.size) (by omega) _), (J4 (J2 k_t1 hE) (by omega) _), (J4 (J2 k_t2 hE) (by omega) _), (V0 k_t3 (c4 X1))⟩
 generalize (W1.setRow J2e (c4 X1)) = W2 at hF ⊢
 clear bel k_t1 k_t2 k_t3
 obtain ⟨bel, k_t1, k_t2, k_t3⟩ := hF
 go_upto_region 3 with fail
 have lt_t3_2 := J5 k_t3
 have gf := Z8 hG bel
 have gm := gf.1
 clear gf
 refine Px 1 ?_
 refine XL ?_
 refine Q3 fun W3 hE => ?_
 refine Lp ?_ (J2 k_t2 hE) (cells := c4 X)
 intro W4 hO h_
 refine J0 ?_
 replace k_t1 := ko k_t1 hE hO (by omega)
 replace k_t2 := h_
 replace k_t3 := ko k_t3 hE hO (by omega)
 replace bel := bwo bel hE hO bel.size (by omega)
 clear hO h_
 go_wp2
 refine bodyPost_ret (K6 rfl rfl k_t2 (by kernel_rfl) (by kernel_rfl)) rfl ⟨?_, bel⟩
 rfl
theorem Y7u (X : Nat) (hX : X < Z0) (h0 : PP ≤ X) (hq : X - PP < PP) (w : World) (hG : GF w) :
  Calls Tryd.prog 103 #[L4 X] w fun e w' => Ret (L4 (X - PP)) w w' e := by
 go_enter Tryd.func103, Tryd.ntmps103
 go_wp2_with fail
 refine wp_loop_rounds 4 ?_
 rw [rounds_succ]
 go_upto_region 1 with fail
 refine wn2 (c1 := (c4 X)) (t1 := 58) (c2 := #[.int .u64 0, .int .u64 0, .int .u64 0, .int .u64 0]) (t2 := 58) fun W0 bel k_t1 k_t2 => ?_
 have lt_t1_0 := J5 k_t1
 have lt_t2_0 := J5 k_t2
 have gf := Z8 hG bel
 have gm := gf.1
 clear gf
 have c_X1 := Q80 X hX h0
 obtain ⟨X1, hX1⟩ := V2 (X - PP)
 rw [← hX1] at c_X1
 have HX1 := Lib.hid hX1
 clear hX1
 refine Px1 6 3 (z := #[.int .u64 0, .int .u64 0, .int .u64 0, .int .u64 0]) (t := 58) ?_
 refine XL ?_
 refine XL ?_
 refine Xf ?_ (fun W hW => c_X1 W)
 refine Xv ?_
 refine Xv ?_
 refine Xv ?_
 refine XN ?_
 intro J2e W1 n_t3_1 hE k_t3
 have sz_1 := bel.size
 skip
 refine LS ?_ k_t3 (g := J2e) (cells := c4 X1)
 refine Lv ?_
 refine J0 ?_
 have hF : Below w.heap.size w (W1.setRow J2e (c4 X1)) ∧ Blk (W1.setRow J2e (c4 X1)) w.heap.size (c4 X) 58 ∧ Blk (W1.setRow J2e (c4 X1)) (w.heap.size + 1) #[.int .u64 0, .int .u64 0, .int .u64 0, .int .u64 0] 58 ∧ Blk (W1.setRow J2e (c4 X1)) J2e (c4 X1) 58 := ⟨(Y5 (Z5 bel hE bel.size) (by omega) _), (J4 (J2 k_t1 hE) (by omega) _), (J4 (J2 k_t2 hE) (by omega) _), (V0 k_t3 (c4 X1))⟩
 generalize (W1.setRow J2e (c4 X1)) = W2 at hF ⊢
 clear bel k_t1 k_t2 k_t3
 obtain ⟨bel, k_t1, k_t2, k_t3⟩ := hF
 go_upto_region 4 with fail
 have lt_t3_2 := J5 k_t3
 have gf := Z8 hG bel
 have gm := gf.1
 clear gf
 refine Px 1 ?_
 refine XL ?_
 refine Q3 fun W3 hE => ?_
 refine LS ?_ (J2 k_t1 hE) (g := w.heap.size) (cells := c4 X1)
 refine J0 ?_
 have hF : Below w.heap.size w (W3.setRow w.heap.size (c4 X1)) ∧ Blk (W3.setRow w.heap.size (c4 X1)) w.heap.size (c4 X1) 58 ∧ Blk (W3.setRow w.heap.size (c4 X1)) (w.heap.size + 1) #[.int .u64 0, .int .u64 0, .int .u64 0, .int .u64 0] 58 ∧ Blk (W3.setRow w.heap.size (c4 X1)) J2e (c4 X1) 58 := ⟨(Y5 (Z5 bel hE bel.size) (by omega) _), (V0 (J2 k_t1 hE) (c4 X1)), (J4 (J2 k_t2 hE) (by omega) _), (J4 (J2 k_t3 hE) (by omega) _)⟩
 generalize (W3.setRow w.heap.size (c4 X1)) = W4 at hF ⊢
 clear bel k_t1 k_t2 k_t3
 obtain ⟨bel, k_t1, k_t2, k_t3⟩ := hF
 go_wp2_with fail
 rw [rounds_succ]
 go_upto_region 1 with fail
 have lt_t3_4 := J5 k_t3
 have gf := Z8 hG bel
 have gm := gf.1
 clear gf
 have c_X2 := Q7z X1 (by rw [HX1.out]; exact hq)
 obtain ⟨X2, hX2⟩ := V2 (J9f X1 PP)
 rw [← hX2] at c_X2
 have HX2 := Lib.hid hX2
 clear hX2
 refine Px1 6 3 (z := #[.int .u64 0, .int .u64 0, .int .u64 0, .int .u64 0]) (t := 58) ?_
 refine XL ?_
 refine XL ?_
 refine Xf ?_ (fun W hW => c_X2 W)
 refine Xv ?_
 refine Xv ?_
 refine Xv ?_
 refine XN ?_
 intro J7m W5 n_t3_5 hE k_t3
 have sz_5 := bel.size
 skip
 refine LS ?_ k_t3 (g := J7m) (cells := c4 X2)
 refine Lv ?_
 refine J0 ?_
 have hF : Below w.heap.size w (W5.setRow J7m (c4 X2)) ∧ Blk (W5.setRow J7m (c4 X2)) w.heap.size (c4 X1) 58 ∧ Blk (W5.setRow J7m (c4 X2)) (w.heap.size + 1) #[.int .u64 0, .int .u64 0, .int .u64 0, .int .u64 0] 58 ∧ Blk (W5.setRow J7m (c4 X2)) J7m (c4 X2) 58 := ⟨(Y5 (Z5 bel hE bel.size) (by omega) _), (J4 (J2 k_t1 hE) (by omega) _), (J4 (J2 k_t2 hE) (by omega) _), (V0 k_t3 (c4 X2))⟩
 generalize (W5.setRow J7m (c4 X2)) = W6 at hF ⊢
 clear bel k_t1 k_t2 k_t3
 obtain ⟨bel, k_t1, k_t2, k_t3⟩ := hF
 go_upto_region 3 with fail
 have lt_t3_6 := J5 k_t3
 have gf := Z8 hG bel
 have gm := gf.1
 clear gf
 refine Px 1 ?_
 refine XL ?_
 refine Q3 fun W7 hE => ?_
 refine Lp ?_ (J2 k_t2 hE) (cells := c4 X1)
 intro W8 hO h_
 refine J0 ?_
 replace k_t1 := ko k_t1 hE hO (by omega)
 replace k_t2 := h_
 replace k_t3 := ko k_t3 hE hO (by omega)
 replace bel := bwo bel hE hO bel.size (by omega)
 clear hO h_
 go_wp2
 refine bodyPost_ret (K6 rfl rfl k_t2 (by kernel_rfl) (by kernel_rfl)) rfl ⟨?_, bel⟩
 rw [HX1.out]; rfl
theorem Y7v (X : Nat) (hX : X < Z0) (h0 : PP ≤ X) (h1' : PP ≤ X - PP) (hq : X - PP - PP < PP) (w : World) (hG : GF w) :
  Calls Tryd.prog 103 #[L4 X] w fun e w' => Ret (L4 (X - PP - PP)) w w' e := by
 go_enter Tryd.func103, Tryd.ntmps103
 go_wp2_with fail
 refine wp_loop_rounds 4 ?_
 rw [rounds_succ]
 go_upto_region 1 with fail
 refine wn2 (c1 := (c4 X)) (t1 := 58) (c2 := #[.int .u64 0, .int .u64 0, .int .u64 0, .int .u64 0]) (t2 := 58) fun W0 bel k_t1 k_t2 => ?_
 have lt_t1_0 := J5 k_t1
 have lt_t2_0 := J5 k_t2
 have gf := Z8 hG bel
 have gm := gf.1
 clear gf
 have c_X1 := Q80 X hX h0
 obtain ⟨X1, hX1⟩ := V2 (X - PP)
 rw [← hX1] at c_X1
 have HX1 := Lib.hid hX1
 clear hX1
 have h1 : PP ≤ X1 := by rw [HX1.out]; exact h1'
 refine Px1 6 3 (z := #[.int .u64 0, .int .u64 0, .int .u64 0, .int .u64 0]) (t := 58) ?_
 refine XL ?_
 refine XL ?_
 refine Xf ?_ (fun W hW => c_X1 W)
 refine Xv ?_
 refine Xv ?_
 refine Xv ?_
 refine XN ?_
 intro J2e W1 n_t3_1 hE k_t3
 have sz_1 := bel.size
 skip
 refine LS ?_ k_t3 (g := J2e) (cells := c4 X1)
 refine Lv ?_
 refine J0 ?_
 have hF : Below w.heap.size w (W1.setRow J2e (c4 X1)) ∧ Blk (W1.setRow J2e (c4 X1)) w.heap.size (c4 X) 58 ∧ Blk (W1.setRow J2e (c4 X1)) (w.heap.size + 1) #[.int .u64 0, .int .u64 0, .int .u64 0, .int .u64 0] 58 ∧ Blk (W1.setRow J2e (c4 X1)) J2e (c4 X1) 58 := ⟨(Y5 (Z5 bel hE bel.size) (by omega) _), (J4 (J2 k_t1 hE) (by omega) _), (J4 (J2 k_t2 hE) (by omega) _), (V0 k_t3 (c4 X1))⟩
 generalize (W1.setRow J2e (c4 X1)) = W2 at hF ⊢
 clear bel k_t1 k_t2 k_t3
 obtain ⟨bel, k_t1, k_t2, k_t3⟩ := hF
 go_upto_region 4 with fail
 have lt_t3_2 := J5 k_t3
 have gf := Z8 hG bel
 have gm := gf.1
 clear gf
 refine Px 1 ?_
 refine XL ?_
 refine Q3 fun W3 hE => ?_
 refine LS ?_ (J2 k_t1 hE) (g := w.heap.size) (cells := c4 X1)
 refine J0 ?_
 have hF : Below w.heap.size w (W3.setRow w.heap.size (c4 X1)) ∧ Blk (W3.setRow w.heap.size (c4 X1)) w.heap.size (c4 X1) 58 ∧ Blk (W3.setRow w.heap.size (c4 X1)) (w.heap.size + 1) #[.int .u64 0, .int .u64 0, .int .u64 0, .int .u64 0] 58 ∧ Blk (W3.setRow w.heap.size (c4 X1)) J2e (c4 X1) 58 := ⟨(Y5 (Z5 bel hE bel.size) (by omega) _), (V0 (J2 k_t1 hE) (c4 X1)), (J4 (J2 k_t2 hE) (by omega) _), (J4 (J2 k_t3 hE) (by omega) _)⟩
 generalize (W3.setRow w.heap.size (c4 X1)) = W4 at hF ⊢
 clear bel k_t1 k_t2 k_t3
 obtain ⟨bel, k_t1, k_t2, k_t3⟩ := hF
 go_wp2_with fail
 rw [rounds_succ]
 go_upto_region 1 with fail
 have lt_t3_4 := J5 k_t3
 have gf := Z8 hG bel
 have gm := gf.1
 clear gf
 have c_X2 := Q80 X1 (by rw [HX1.out]; omega) h1
 obtain ⟨X2, hX2⟩ := V2 (X1 - PP)
 rw [← hX2] at c_X2
 have HX2 := Lib.hid hX2
 clear hX2
 refine Px1 6 3 (z := #[.int .u64 0, .int .u64 0, .int .u64 0, .int .u64 0]) (t := 58) ?_
 refine XL ?_
 refine XL ?_
 refine Xf ?_ (fun W hW => c_X2 W)
 refine Xv ?_
 refine Xv ?_
 refine Xv ?_
 refine XN ?_
 intro J7m W5 n_t3_5 hE k_t3
 have sz_5 := bel.size
 skip
 refine LS ?_ k_t3 (g := J7m) (cells := c4 X2)
 refine Lv ?_
 refine J0 ?_
 have hF : Below w.heap.size w (W5.setRow J7m (c4 X2)) ∧ Blk (W5.setRow J7m (c4 X2)) w.heap.size (c4 X1) 58 ∧ Blk (W5.setRow J7m (c4 X2)) (w.heap.size + 1) #[.int .u64 0, .int .u64 0, .int .u64 0, .int .u64 0] 58 ∧ Blk (W5.setRow J7m (c4 X2)) J7m (c4 X2) 58 := ⟨(Y5 (Z5 bel hE bel.size) (by omega) _), (J4 (J2 k_t1 hE) (by omega) _), (J4 (J2 k_t2 hE) (by omega) _), (V0 k_t3 (c4 X2))⟩
 generalize (W5.setRow J7m (c4 X2)) = W6 at hF ⊢
 clear bel k_t1 k_t2 k_t3
 obtain ⟨bel, k_t1, k_t2, k_t3⟩ := hF
 go_upto_region 4 with fail
 have lt_t3_6 := J5 k_t3
 have gf := Z8 hG bel
 have gm := gf.1
 clear gf
 refine Px 1 ?_
 refine XL ?_
 refine Q3 fun W7 hE => ?_
 refine LS ?_ (J2 k_t1 hE) (g := w.heap.size) (cells := c4 X2)
 refine J0 ?_
 have hF : Below w.heap.size w (W7.setRow w.heap.size (c4 X2)) ∧ Blk (W7.setRow w.heap.size (c4 X2)) w.heap.size (c4 X2) 58 ∧ Blk (W7.setRow w.heap.size (c4 X2)) (w.heap.size + 1) #[.int .u64 0, .int .u64 0, .int .u64 0, .int .u64 0] 58 ∧ Blk (W7.setRow w.heap.size (c4 X2)) J7m (c4 X2) 58 := ⟨(Y5 (Z5 bel hE bel.size) (by omega) _), (V0 (J2 k_t1 hE) (c4 X2)), (J4 (J2 k_t2 hE) (by omega) _), (J4 (J2 k_t3 hE) (by omega) _)⟩
 generalize (W7.setRow w.heap.size (c4 X2)) = W8 at hF ⊢
 clear bel k_t1 k_t2 k_t3
 obtain ⟨bel, k_t1, k_t2, k_t3⟩ := hF
 go_wp2_with fail
 rw [rounds_succ]
 go_upto_region 1 with fail
 have lt_t3_8 := J5 k_t3
 have gf := Z8 hG bel
 have gm := gf.1
 clear gf
 have c_X3 := Q7z X2 (by rw [HX2.out, HX1.out]; exact hq)
 obtain ⟨X3, hX3⟩ := V2 (J9f X2 PP)
 rw [← hX3] at c_X3
 have HX3 := Lib.hid hX3
 clear hX3
 refine Px1 6 3 (z := #[.int .u64 0, .int .u64 0, .int .u64 0, .int .u64 0]) (t := 58) ?_
 refine XL ?_
 refine XL ?_
 refine Xf ?_ (fun W hW => c_X3 W)
 refine Xv ?_
 refine Xv ?_
 refine Xv ?_
 refine XN ?_
 intro Z16 W9 n_t3_9 hE k_t3
 have sz_9 := bel.size
 skip
 refine LS ?_ k_t3 (g := Z16) (cells := c4 X3)
 refine Lv ?_
 refine J0 ?_
 have hF : Below w.heap.size w (W9.setRow Z16 (c4 X3)) ∧ Blk (W9.setRow Z16 (c4 X3)) w.heap.size (c4 X2) 58 ∧ Blk (W9.setRow Z16 (c4 X3)) (w.heap.size + 1) #[.int .u64 0, .int .u64 0, .int .u64 0, .int .u64 0] 58 ∧ Blk (W9.setRow Z16 (c4 X3)) Z16 (c4 X3) 58 := ⟨(Y5 (Z5 bel hE bel.size) (by omega) _), (J4 (J2 k_t1 hE) (by omega) _), (J4 (J2 k_t2 hE) (by omega) _), (V0 k_t3 (c4 X3))⟩
 generalize (W9.setRow Z16 (c4 X3)) = W10 at hF ⊢
 clear bel k_t1 k_t2 k_t3
 obtain ⟨bel, k_t1, k_t2, k_t3⟩ := hF
 go_upto_region 3 with fail
 have lt_t3_10 := J5 k_t3
 have gf := Z8 hG bel
 have gm := gf.1
 clear gf
 refine Px 1 ?_
 refine XL ?_
 refine Q3 fun W11 hE => ?_
 refine Lp ?_ (J2 k_t2 hE) (cells := c4 X2)
 intro W12 hO h_
 refine J0 ?_
 replace k_t1 := ko k_t1 hE hO (by omega)
 replace k_t2 := h_
 replace k_t3 := ko k_t3 hE hO (by omega)
 replace bel := bwo bel hE hO bel.size (by omega)
 clear hO h_
 go_wp2
 refine bodyPost_ret (K6 rfl rfl k_t2 (by kernel_rfl) (by kernel_rfl)) rfl ⟨?_, bel⟩
 rw [HX2.out, HX1.out]; rfl
theorem J7n (X : Nat) (hX : X < Z0) (w : World) (hG : GF w) : Calls Tryd.prog 103 #[L4 X] w fun e w' => Ret (L4 (X % PP)) w w' e := by
  by_cases h0 : X < PP
  · rw [Nat.mod_eq_of_lt h0]; exact Y7t X hX h0 w hG
  · by_cases h1 : X - PP < PP
    · rw [← V1n X (by omega) h1]; exact Y7u X hX (by omega) h1 w hG
    · have h2 : X - PP - PP < PP := by have := PP_two; have : PP = 57896044618658097711785492504343953926634992332820282019728792003956564819949 := rfl; omega
      rw [← V1o X (by omega) (by omega) h2]; exact Y7v X hX (by omega) (by omega) h2 w hG
theorem Y3d (n : Nat) (hn : n < 18446744073709551616) (w : World) :
  Calls Tryd.prog 107 #[.int .u64 (n : Int)] w fun e w' => Ret (L4 n) w w' e := by
 go_enter Tryd.func107, Tryd.ntmps107
 go_upto_region 1 with fail
 refine wn1 (c1 := #[.int .u64 0, .int .u64 0, .int .u64 0, .int .u64 0]) (t1 := 58) fun W0 bel k_t2 => ?_
 have lt_t2_0 := J5 k_t2
 refine Px 2 ?_
 refine Xv ?_
 refine Xv ?_
 refine Q3 fun W1 hE => ?_
 refine LS ?_ (J2 k_t2 hE) (g := w.heap.size) (cells := #[.int .u64 (n : Int), .int .u64 0, .int .u64 0, .int .u64 0])
 refine J0 ?_
 have hF : Below w.heap.size w (W1.setRow w.heap.size #[.int .u64 (n : Int), .int .u64 0, .int .u64 0, .int .u64 0]) ∧ Blk (W1.setRow w.heap.size #[.int .u64 (n : Int), .int .u64 0, .int .u64 0, .int .u64 0]) w.heap.size #[.int .u64 (n : Int), .int .u64 0, .int .u64 0, .int .u64 0] 58 := ⟨(Y5 (Z5 bel hE bel.size) (by omega) _), (V0 (J2 k_t2 hE) #[.int .u64 (n : Int), .int .u64 0, .int .u64 0, .int .u64 0])⟩
 generalize (W1.setRow w.heap.size #[.int .u64 (n : Int), .int .u64 0, .int .u64 0, .int .u64 0]) = W2 at hF ⊢
 clear bel k_t2
 obtain ⟨bel, k_t2⟩ := hF
 go_wp2
 refine bodyPost_ret (K6 rfl rfl k_t2 (by kernel_rfl) (by kernel_rfl)) rfl ⟨?_, bel⟩
 rw [Q4p n hn]
theorem Q9l (A n : Nat) (hA : A < Z0) (hn : n < 18446744073709551616) : J9a A n < Z0 := by unfold J9a Z0 at *; split <;> omega
theorem Q6n (A n : Nat) : J9a A n % PP = (A + n) % PP := by
  unfold J9a
  split
  · rfl
  · rename_i h
    have e : A + n = A + n - Z0 + 38 + PP + PP := by unfold Z0 PP at *; omega
    conv => rhs; rw [e, Nat.add_mod_right, Nat.add_mod_right]
theorem Z7y (A n : Nat) (hA : A < Z0) (hn : n < 18446744073709551616) (w : World) : Calls Tryd.prog 105 #[L4 A, .int .u64 (n : Int)] w fun e w' => Ret (L4 (J9a A n)) w w' e := by
  unfold J9a
  by_cases h : A + n < Z0
  · rw [if_pos h]; exact Y3b A n hA hn h w
  · rw [if_neg h]; exact Y3c A n hA hn (by omega) (by unfold Z0 at *; omega) w
theorem add_mod (A B : Nat) (hA : A < Z0) (hB : B < Z0) : J9a ((A + B) % Z0) (38 * ((A + B) / Z0)) % PP = (A + B) % PP := by
  rw [Q6n]
  by_cases h : A + B < Z0
  · rw [Nat.mod_eq_of_lt h, Nat.div_eq_of_lt h, Nat.mul_zero, Nat.add_zero]
  · have e1 : (A + B) % Z0 = A + B - Z0 := by rw [Nat.mod_eq_sub_mod (by omega), Nat.mod_eq_of_lt (by omega)]
    have e2 : (A + B) / Z0 = 1 := Nat.div_eq_of_lt_le (by omega) (by omega)
    rw [e1, e2]
    conv => rhs; rw [show A + B = A + B - Z0 + 38 * 1 + PP + PP by unfold Z0 PP at *; omega, Nat.add_mod_right, Nat.add_mod_right]
theorem Y7w (A B : Nat) (hA : A < Z0) (hB : B < Z0) (w : World) : Calls Tryd.prog 108 #[L4 A, L4 B] w fun e w' => Ret (.tuple #[L4 ((A + B) % Z0), .int .u64 ((A + B) / Z0 : Nat)]) w w' e := Z14 A B hA hB w
theorem Y7x (A o : Nat) (hA : A < Z0) (ho : o ≤ 1) (w : World) : Calls Tryd.prog 105 #[L4 A, .int .u64 (IntKind.u64.wrap (38 * (o : Int)))] w fun e w' => Ret (L4 (J9a A (38 * o))) w w' e := by
  have : IntKind.u64.wrap (38 * (o : Int)) = ((38 * o : Nat) : Int) := by rw [IntKind.wrap_u64]; omega
  rw [this]; exact Z7y A (38 * o) hA (by omega) w
theorem Z7z (X : Nat) (hX : X < PP) (w : World) : Calls Tryd.prog 109 #[.agg Z15, L4 X] w fun e w' => Ret (.tuple #[L4 (PP - X), .int .u64 0]) w w' e := by
  have := Z13 PP X J7x (Nat.lt_trans hX J7x) w
  rw [Z36 PP X J7x (Nat.lt_trans hX J7x) (by omega)] at this
  rw [Q7y]
  unfold brw at this; rw [if_neg (by omega)] at this; exact this
theorem J6e (A B : Nat) (hA : A < Z0) (hB : B < Z0) (w : World) (hG : GF w) :
  Calls Tryd.prog 76 #[L4 A, L4 B] w fun e w' => Ret (L4 ((A + B) % PP)) w w' e := by
 go_enter Tryd.func76, Tryd.ntmps76
 go_upto_region 1 with fail
 refine wn3 (c1 := (c4 A)) (t1 := 58) (c2 := (c4 B)) (t2 := 58) (c3 := #[.int .u64 0, .int .u64 0, .int .u64 0, .int .u64 0]) (t3 := 58) fun W0 bel k_t2 k_t3 k_t4 => ?_
 have lt_t2_0 := J5 k_t2
 have lt_t3_0 := J5 k_t3
 have lt_t4_0 := J5 k_t4
 have gf := Z8 hG bel
 have gm := gf.1
 have gi := gf.2
 have c_1 := Y7w A B hA hB
 obtain ⟨S, hS⟩ := V2 ((A + B) % Z0)
 obtain ⟨O, hO⟩ := V2 ((A + B) / Z0)
 rw [← hS, ← hO] at c_1
 have bS : S < Z0 := by rw [hS]; exact Nat.mod_lt _ (by decide)
 have bO : O ≤ 1 := by rw [hO]; have : (A + B) / Z0 < 2 := Nat.div_lt_of_lt_mul (by omega); omega
 have HS := Lib.hid hS
 have HO := Lib.hid hO
 clear hS hO
 refine Px1 6 5 (z := #[.int .u64 0, .int .u64 0, .int .u64 0, .int .u64 0]) (t := 58) ?_
 refine XL ?_
 refine XL ?_
 refine Xf ?_ (fun W hW => c_1 W)
 refine Xv ?_
 refine Xv ?_
 refine Xv ?_
 refine XN ?_
 intro J6d W1 n_t5_1 hE k_t5
 have sz_1 := bel.size
 skip
 refine LS ?_ k_t5 (g := J6d) (cells := c4 S)
 refine Lv ?_
 refine J0 ?_
 have hF : Below w.heap.size w (W1.setRow J6d (c4 S)) ∧ Blk (W1.setRow J6d (c4 S)) w.heap.size (c4 A) 58 ∧ Blk (W1.setRow J6d (c4 S)) (w.heap.size + 1) (c4 B) 58 ∧ Blk (W1.setRow J6d (c4 S)) (w.heap.size + 2) #[.int .u64 0, .int .u64 0, .int .u64 0, .int .u64 0] 58 ∧ Blk (W1.setRow J6d (c4 S)) J6d (c4 S) 58 := ⟨(Y5 (Z5 bel hE bel.size) (by omega) _), (J4 (J2 k_t2 hE) (by omega) _), (J4 (J2 k_t3 hE) (by omega) _), (J4 (J2 k_t4 hE) (by omega) _), (V0 k_t5 (c4 S))⟩
 generalize (W1.setRow J6d (c4 S)) = W2 at hF ⊢
 clear bel k_t2 k_t3 k_t4 k_t5
 obtain ⟨bel, k_t2, k_t3, k_t4, k_t5⟩ := hF
 go_upto_region 2 with fail
 have lt_t5_2 := J5 k_t5
 have gf := Z8 hG bel
 have gm := gf.1
 have gi := gf.2
 have c_X1 := Y7x S O bS bO
 obtain ⟨X1, hX1⟩ := V2 (J9a S (38 * O))
 rw [← hX1] at c_X1
 have bX1 : X1 < Z0 := by rw [hX1]; exact Q9l _ _ bS (by omega)
 have HX1 := Lib.hid hX1
 clear hX1
 have c_X2 := J7n X1 bX1
 obtain ⟨X2, hX2⟩ := V2 (X1 % PP)
 rw [← hX2] at c_X2
 have bX2 := J0v hX2
 have HX2 := Lib.hid hX2
 clear hX2
 refine Px 5 ?_
 refine XL ?_
 refine Xv ?_
 refine Xv ?_
 refine Xf ?_ (fun W hW => c_X1 W)
 refine Xf ?_ (fun W hW => c_X2 W (Z8 gf hW))
 refine Q3 fun W3 hE => ?_
 refine Lp ?_ (J2 k_t4 hE) (cells := c4 X2)
 intro W4 hO h_
 refine J0 ?_
 replace k_t2 := ko k_t2 hE hO (by omega)
 replace k_t3 := ko k_t3 hE hO (by omega)
 replace k_t4 := h_
 replace k_t5 := ko k_t5 hE hO (by omega)
 replace bel := bwo bel hE hO bel.size (by omega)
 clear hO h_
 go_wp2
 refine bodyPost_ret (K6 rfl rfl k_t4 (by kernel_rfl) (by kernel_rfl)) rfl ⟨?_, bel⟩
 rw [← add_mod A B hA hB, ← HS.out, ← HO.out, ← HX1.out, ← HX2.out]; rfl
theorem Q12 (A : Nat) (hA : A < Z0) (w : World) (hG : GF w) :
  Calls Tryd.prog 79 #[L4 A] w fun e w' => Ret (L4 ((PP - A % PP) % PP)) w w' e := by
 go_enter Tryd.func79, Tryd.ntmps79
 go_upto_region 1 with fail
 refine wn2 (c1 := (c4 A)) (t1 := 58) (c2 := #[.int .u64 0, .int .u64 0, .int .u64 0, .int .u64 0]) (t2 := 58) fun W0 bel k_t1 k_t2 => ?_
 have lt_t1_0 := J5 k_t1
 have lt_t2_0 := J5 k_t2
 have gf := Z8 hG bel
 have gm := gf.1
 have gi := gf.2
 have c_X1 := J7n A hA
 obtain ⟨X1, hX1⟩ := V2 (A % PP)
 rw [← hX1] at c_X1
 have bX1 := J0v hX1
 have HX1 := Lib.hid hX1
 clear hX1
 have c_X2 := Z7z X1 (by rw [HX1.out]; exact Nat.mod_lt _ (by decide))
 obtain ⟨X2, hX2⟩ := V2 (PP - X1)
 rw [← hX2] at c_X2
 have bX2 : X2 < Z0 := by rw [hX2]; exact Nat.lt_of_le_of_lt (Nat.sub_le _ _) J7x
 have HX2 := Lib.hid hX2
 clear hX2
 refine Rx1 7 3 (z := #[.int .u64 0, .int .u64 0, .int .u64 0, .int .u64 0]) (t := 58) ?_
 refine XL ?_
 refine XL ?_
 refine Xf ?_ (fun W hW => c_X1 W (Z8 gf hW))
 refine Xf ?_ (fun W hW => c_X2 W)
 refine Xv ?_
 refine Xv ?_
 refine Xv ?_
 refine XN ?_
 intro J2e W1 n_t3_1 hE k_t3
 have sz_1 := bel.size
 skip
 refine LS ?_ k_t3 (g := J2e) (cells := c4 X2)
 refine Lv ?_
 refine LN ?_
 have hF : Below w.heap.size w (W1.setRow J2e (c4 X2)) ∧ Blk (W1.setRow J2e (c4 X2)) w.heap.size (c4 A) 58 ∧ Blk (W1.setRow J2e (c4 X2)) (w.heap.size + 1) #[.int .u64 0, .int .u64 0, .int .u64 0, .int .u64 0] 58 ∧ Blk (W1.setRow J2e (c4 X2)) J2e (c4 X2) 58 := ⟨(Y5 (Z5 bel hE bel.size) (by omega) _), (J4 (J2 k_t1 hE) (by omega) _), (J4 (J2 k_t2 hE) (by omega) _), (V0 k_t3 (c4 X2))⟩
 generalize (W1.setRow J2e (c4 X2)) = W2 at hF ⊢
 clear bel k_t1 k_t2 k_t3
 obtain ⟨bel, k_t1, k_t2, k_t3⟩ := hF
 go_upto_region 2 with fail
 have lt_t3_2 := J5 k_t3
 have gf := Z8 hG bel
 have gm := gf.1
 have gi := gf.2
 have c_X3 := J7n X2 bX2
 obtain ⟨X3, hX3⟩ := V2 (X2 % PP)
 rw [← hX3] at c_X3
 have bX3 := J0v hX3
 have HX3 := Lib.hid hX3
 clear hX3
 refine Px 2 ?_
 refine XL ?_
 refine Xf ?_ (fun W hW => c_X3 W (Z8 gf hW))
 refine Q3 fun W3 hE => ?_
 refine Lp ?_ (J2 k_t2 hE) (cells := c4 X3)
 intro W4 hO h_
 refine J0 ?_
 replace k_t1 := ko k_t1 hE hO (by omega)
 replace k_t2 := h_
 replace k_t3 := ko k_t3 hE hO (by omega)
 replace bel := bwo bel hE hO bel.size (by omega)
 clear hO h_
 go_wp2
 refine bodyPost_ret (K6 rfl rfl k_t2 (by kernel_rfl) (by kernel_rfl)) rfl ⟨?_, bel⟩
 rw [HX3.out, HX2.out, HX1.out]; rfl
end Go.Proofs.YtefpoollmbmkfaaDoor

namespace Go.Proofs.YtefpoollmbmkfaaDoor
set_option maxHeartbeats 4000000
set_option maxRecDepth 100000
open Go.RowKit

theorem J4l (V i : Nat) (h : i < 4) : (c4 V)[i]? = some (.int .u64 (lim V i)) := by
  have : i = 0 ∨ i = 1 ∨ i = 2 ∨ i = 3 := by omega
  rcases this with rfl | rfl | rfl | rfl <;> rfl

theorem Q81 (i k : Nat) (x y g c s cv : Int) (V V' Y Y' X B0 : Nat) (hx : K4 x) (hy : K4 y) (hg : K4 g) (hc : K4 c) (hs : K4 s) (hcv : K4 cv)
    (h5 : s + 18446744073709551616 * cv = x * y + g + c) (h1 : V' + g.toNat * 2 ^ (64 * (i + k)) = V + s.toNat * 2 ^ (64 * (i + k)))
    (h2 : V + c.toNat * 2 ^ (64 * (i + k)) = X + x.toNat * 2 ^ (64 * i) * Y) (hY : Y' = Y + y.toNat * 2 ^ (64 * k)) :
    V' + cv.toNat * 2 ^ (64 * (i + (k + 1))) = X + x.toNat * 2 ^ (64 * i) * Y' := by
  obtain ⟨x, rfl⟩ := Int.eq_ofNat_of_zero_le hx.1
  obtain ⟨y, rfl⟩ := Int.eq_ofNat_of_zero_le hy.1
  obtain ⟨g, rfl⟩ := Int.eq_ofNat_of_zero_le hg.1
  obtain ⟨c, rfl⟩ := Int.eq_ofNat_of_zero_le hc.1
  obtain ⟨s, rfl⟩ := Int.eq_ofNat_of_zero_le hs.1
  obtain ⟨d, rfl⟩ := Int.eq_ofNat_of_zero_le hcv.1
  simp only [Int.toNat_natCast] at *
  have h6 : s + 18446744073709551616 * d = x * y + g + c := by
    rw [← Int.natCast_mul] at h5
    generalize x * y = p at *
    omega
  have e1 : (2 : Nat) ^ (64 * (i + (k + 1))) = 18446744073709551616 * 2 ^ (64 * (i + k)) := by
    rw [show 64 * (i + (k + 1)) = 64 + 64 * (i + k) by omega, Nat.pow_add]
  have e2 : (2 : Nat) ^ (64 * (i + k)) = 2 ^ (64 * i) * 2 ^ (64 * k) := by rw [Nat.mul_add, Nat.pow_add]
  rw [hY, e1, Nat.mul_add (x * 2 ^ (64 * i))]
  have e3 : x * 2 ^ (64 * i) * (y * 2 ^ (64 * k)) = x * y * 2 ^ (64 * (i + k)) := by rw [e2, Nat.mul_mul_mul_comm]
  rw [e3]
  generalize 2 ^ (64 * (i + k)) = W at *
  have e4 : d * (18446744073709551616 * W) = 18446744073709551616 * d * W := by rw [Nat.mul_left_comm, Nat.mul_assoc]
  rw [e4]
  have h7 : s * W + 18446744073709551616 * d * W = x * y * W + g * W + c * W := by
    rw [← Nat.add_mul, h6, Nat.add_mul, Nat.add_mul]
  omega

theorem Q82 (B V' V C X Y W : Nat) {g : Int} (hB : B < Z0) (hg : g = 0) (h1 : V' + g.toNat * W = V + C) (h2 : V + C = X + Y * (B % 2 ^ (64 * 4))) : V' = X + Y * B := by
  rw [Nat.mod_eq_of_lt (show B < 2 ^ (64 * 4) from hB)] at h2
  rw [hg, Int.toNat_zero, Nat.zero_mul, Nat.add_zero] at h1
  rw [h1, h2]

theorem Z5i (A B : Nat) (hA : A < Z0) (hB : B < Z0) (w : World) :
    Calls Tryd.prog 104 #[L4 A, L4 B] w fun e w' => Ret (.agg (J1 .u64 8 (lim (A * B)))) w w' e := by
  go_enter Tryd.func104, Tryd.ntmps104
  go_wp2
  go_loopw [16] (fun ii wr => ∃ i : Nat, i ≤ 4 ∧ ii = .int .i64 i ∧ Below w.heap.size w wr ∧
      Blk wr (w.heap.size + 1) (c4 B) 58 ∧ Blk wr (w.heap.size + 2) (J1 .u64 8 (fun _ => 0)) 113 ∧
      ∃ f : Nat → Int, Blk wr (w.heap.size + 3) (J1 .u64 8 f) 113 ∧ (∀ j, K4 (f j)) ∧ (∀ j, i + 4 ≤ j → f j = 0) ∧ J2u f 8 = A % 2 ^ (64 * i) * B)
    (fun ii _ => (4 - intOf ii).toNat)
  case atStart =>
    refine ⟨0, by omega, rfl, ?_, V3 (V3 (K0 _ _ (by simp)) _) _, V3 (K0 _ _ (by simp)) _, fun _ => 0, K0 _ _ (by simp), fun _ => ⟨by simp, by simp⟩, fun _ _ => rfl, ?_⟩
    · exact bz
    · rw [Q0d, Nat.mul_zero, Nat.pow_zero, Nat.mod_one, Nat.zero_mul]
  case round =>
    obtain ⟨i, hi, rfl, hbel, b1, b2, f, b3, hf, hf0, hv⟩ := hrel
    by_cases hi4 : i = 4
    · subst hi4
      have HV := Lib.hid hv
      clear hv hf0
      go_wp2_with (first
        | (refine wpList_load_row rfl 113 (.tmp 5) rfl (w.heap.size + 3) rfl _ _ _ _ b3 Tryd.underlying113 rfl (by kernel_rfl) ?_)
        | (refine wpList_store_row rfl 113 (.tmp 4) (.tmp 65) rfl (w.heap.size + 2) _ rfl rfl 113 _ b2 (by kernel_rfl) (by kernel_rfl) (Y7 _ _ _) ?_))
      refine bodyPost_ret (results_cell_row rfl _ _ (w.heap.size + 2) _ _ _ _ rfl (V0 b2 _) Tryd.underlying113 rfl (by kernel_rfl)) rfl ⟨?_, Y5 hbel (by omega) _⟩
      have e : J1 .u64 8 f = J1 .u64 8 (lim (A * B)) := J0d _ _ _ _ fun j hj => by
        have := J7z f 8 j hj (fun i _ => hf i)
        rw [← this, HV.out, Nat.mod_eq_of_lt (show A < 2 ^ (64 * 4) from hA)]
      rw [e]
    · have hi3 : i < 4 := by omega
      have hi3' : (i : Int) < 4 := by omega
      have hix : ∀ W, (Instr.index 58 (.agg #[.int .u64 (lim A 0), .int .u64 (lim A 1), .int .u64 (lim A 2), .int .u64 (lim A 3)]) (.int .i64 (i : Int))).run Tryd.prog W = .ok (.int .u64 (lim A i)) W :=
        fun W => J2c W 58 39 4 .u64 .i64 (c4 A) i (lim A i) Tryd.underlying58 Tryd.underlying39 (by kernel_rfl) hi3 (J4l A i hi3)
      have c1 := Q8 b1
      clear hi4
      go_wp2
      clear c1
      have HF0 := Lib.hid hf0
      have HV := Lib.hid hv
      clear hf0 hv hix hi3'
      obtain ⟨wo, rfl⟩ : ∃ wo : World, wo = wr := ⟨_, rfl⟩
      go_loopw [8, 21] (fun cc kk wq => ∃ (k : Nat) (c : Int), k ≤ 4 ∧ kk = .int .i64 k ∧ cc = .int .u64 c ∧ K4 c ∧ Below w.heap.size w wq ∧
          Blk wq (w.heap.size + 1) (c4 B) 58 ∧ Blk wq (w.heap.size + 2) (J1 .u64 8 (fun _ => 0)) 113 ∧
          ∃ g : Nat → Int, Blk wq (w.heap.size + 3) (J1 .u64 8 g) 113 ∧ (∀ j, K4 (g j)) ∧ (∀ j, i + 4 ≤ j → g j = 0) ∧
            J2u g 8 + c.toNat * 2 ^ (64 * (i + k)) = A % 2 ^ (64 * i) * B + (lim A i).toNat * 2 ^ (64 * i) * (B % 2 ^ (64 * k)))
        (fun _ kk _ => (4 - intOf kk).toNat)
      case atStart =>
        refine ⟨0, 0, by omega, rfl, rfl, ⟨by omega, by omega⟩, hbel, b1, b2, f, b3, hf, HF0.out, ?_⟩
        rw [HV.out, Nat.mul_zero, Nat.pow_zero, Nat.mod_one]; simp
      case round =>
        obtain ⟨k, c, hk, rfl, rfl, hc, hbel, b1, b2, g, b3, hg, hg0, hv⟩ := hrel
        have HG0 := Lib.hid hg0
        have HV := Lib.hid hv
        clear hg0 hv HF0
        by_cases hk4 : k = 4
        · subst hk4
          have c3 := (Q8 b3 (i + 4)).trans (J6 _ _ _ _ (by omega))
          have f3 := K5 b3
          have hi8 : (i : Int) + 4 < 8 := by omega
          go_wp2
          have hs := V1 b3 (i + 4) (.int .u64 c)
          rw [J04] at hs
          go_roundw
          case rel =>
            refine ⟨i + 1, by omega, by go_num, ?_, J9 b1 (by omega) _ _, J9 b2 (by omega) _ _, upd g (i + 4) c, hs, ?_, ?_, ?_⟩
            · exact bz
            · intro j
              by_cases hj : j = i + 4
              · subst hj; rw [J31]; exact hc
              · rw [J19 _ _ _ _ hj]; exact hg j
            · intro j hj
              rw [J19 _ _ _ _ (by omega)]
              exact HG0.out j (by omega)
            · rw [J80, Nat.add_mul]
              exact Q82 B _ _ _ _ _ _ hB (HG0.out (i + 4) (by omega)) (J81 g (i + 4) c 8 (by omega)) HV.out
          case measure => simp [intOf]; omega
        · have hk3 : k < 4 := by omega
          have hk3' : (k : Int) < 4 := by omega
          clear hk4
          have hix : ∀ W, (Instr.index 58 (.agg #[.int .u64 (lim B 0), .int .u64 (lim B 1), .int .u64 (lim B 2), .int .u64 (lim B 3)]) (.int .i64 (k : Int))).run Tryd.prog W = .ok (.int .u64 (lim B k)) W :=
            fun W => J2c W 58 39 4 .u64 .i64 (c4 B) k (lim B k) Tryd.underlying58 Tryd.underlying39 (by kernel_rfl) hk3 (J4l B k hk3)
          obtain ⟨m1, m2, m3, m4, m5⟩ := Q4q (lim A i) (lim B k) (g (i + k)) c (J1h A i) (J1h B k) (hg _) hc
          have a1 := J23 (J7o (lim A i) (lim B k)) (g (i + k)) 0 m1 (hg _) (by omega) (by omega)
          have a2 := J23 (adS (J7o (lim A i) (lim B k)) (g (i + k)) 0) c 0 m2 hc (by omega) (by omega)
          obtain ⟨sv, hsv⟩ : ∃ sv, sv = adS (adS (J7o (lim A i) (lim B k)) (g (i + k)) 0) c 0 := ⟨_, rfl⟩
          rw [← hsv] at m4 m5 a2
          have M5 := Lib.hid m5
          clear m5 hsv
          have c3 := (Q8 b3 (i + k)).trans (J6 _ _ _ _ (by omega))
          have f3 := K5 b3
          have hi8 : (i : Int) + (k : Int) < 8 := by omega
          go_wp2_with (go_at_call 94; refine (Q83 _ _ (J1h A i) (J1h B k) _).mono ?_; rintro e w' ⟨rfl, rfl⟩)
          have hs := V1 b3 (i + k) (.int .u64 sv)
          rw [J04] at hs
          have h1 := J81 g (i + k) sv 8 (by omega)
          have h2 := HV.out
          have h5 := M5.out
          clear HV M5 a1 a2 c3 f3 hix
          go_roundw
          case rel =>
            (repeat apply Exists.intro)
            refine ⟨?_, rfl⟩
            refine ⟨k + 1, _, by omega, by go_num, rfl, m3, ?_, J9 b1 (by omega) _ _, J9 b2 (by omega) _ _, upd g (i + k) sv, hs, ?_, ?_, ?_⟩
            · exact bz
            · intro j
              by_cases hj : j = i + k
              · subst hj; rw [J31]; exact m4
              · rw [J19 _ _ _ _ hj]; exact hg j
            · intro j hj
              rw [J19 _ _ _ _ (by omega)]
              exact HG0.out j hj
            · exact Q81 i k (lim A i) (lim B k) (g (i + k)) c sv _ _ _ _ _ _ 0 (J1h A i) (J1h B k) (hg _) hc m4 m3 h5 h1 h2 (J80 B k)
          case measure => simp [intOf]; omega
end Go.Proofs.YtefpoollmbmkfaaDoor

namespace Go.Proofs.YtefpoollmbmkfaaDoor
set_option maxHeartbeats 4000000
set_option maxRecDepth 100000
open Go.RowKit

theorem Z80 (i : Nat) (N V V' : Nat) (g s c cv : Int) (hg : K4 g) (hs : K4 s) (hc : K4 c) (hcv : K4 cv)
    (h5 : s + 18446744073709551616 * cv = lim N (4 + i) * 38 + lim N i + c) (h1 : V' + g.toNat * 2 ^ (64 * i) = V + s.toNat * 2 ^ (64 * i)) (hg0 : g = 0)
    (h2 : V + c.toNat * 2 ^ (64 * i) = N % 2 ^ (64 * i) + 38 * (N / 2 ^ 256 % 2 ^ (64 * i))) :
    V' + cv.toNat * 2 ^ (64 * (i + 1)) = N % 2 ^ (64 * (i + 1)) + 38 * (N / 2 ^ 256 % 2 ^ (64 * (i + 1))) := by
  have e4 : lim N (4 + i) = lim (N / 2 ^ 256) i := by
    unfold lim; rw [Nat.div_div_eq_div_mul, ← Nat.pow_add, show 64 * (4 + i) = 256 + 64 * i by omega]
  rw [e4] at h5
  rw [J80 N, J80 (N / 2 ^ 256)]
  have l1 := J1h N i
  have l2 := J1h (N / 2 ^ 256) i
  obtain ⟨x, hx⟩ := Int.eq_ofNat_of_zero_le l1.1
  obtain ⟨y, hy⟩ := Int.eq_ofNat_of_zero_le l2.1
  obtain ⟨s, rfl⟩ := Int.eq_ofNat_of_zero_le hs.1
  obtain ⟨c, rfl⟩ := Int.eq_ofNat_of_zero_le hc.1
  obtain ⟨d, rfl⟩ := Int.eq_ofNat_of_zero_le hcv.1
  subst hg0
  rw [hx, hy] at *
  simp only [Int.toNat_natCast, Int.toNat_zero, Nat.zero_mul, Nat.add_zero] at *
  have h6 : s + 18446744073709551616 * d = y * 38 + x + c := by omega
  have e1 : (2 : Nat) ^ (64 * (i + 1)) = 18446744073709551616 * 2 ^ (64 * i) := by rw [show 64 * (i + 1) = 64 + 64 * i by omega, Nat.pow_add]
  rw [e1]
  generalize N % 2 ^ (64 * i) = n0 at *
  generalize N / 2 ^ 256 % 2 ^ (64 * i) = n1 at *
  generalize 2 ^ (64 * i) = W at *
  have e5 : d * (18446744073709551616 * W) = 18446744073709551616 * d * W := by rw [Nat.mul_left_comm, Nat.mul_assoc]
  have h7 : s * W + 18446744073709551616 * d * W = y * 38 * W + x * W + c * W := by
    rw [← Nat.add_mul, h6, Nat.add_mul, Nat.add_mul]
  have e6 : y * 38 * W = 38 * (y * W) := by rw [Nat.mul_comm y 38, Nat.mul_assoc]
  rw [e5, Nat.mul_add]
  generalize y * W = yw at *
  omega
theorem Y3e (A B S c : Nat) (hA : A < Z0) (hB : B < Z0) (h : S + c * 2 ^ (64 * 4) = A * B % 2 ^ (64 * 4) + 38 * (A * B / 2 ^ 256 % 2 ^ (64 * 4))) : J9a S (38 * c) % PP = A * B % PP := by
  have hN : A * B / 2 ^ 256 < Z0 := Nat.div_lt_of_lt_mul (Nat.mul_lt_mul'' hA hB)
  have e : (2 : Nat) ^ (64 * 4) = Z0 := by decide
  have e' : (2 : Nat) ^ 256 = Z0 := by decide
  rw [show (2 : Nat) ^ (64 * 4) = 2 ^ 256 by decide] at h
  rw [e'] at h hN
  rw [Nat.mod_eq_of_lt hN] at h
  rw [Q6n]
  have hd := Nat.div_add_mod (A * B) Z0
  generalize A * B / Z0 = q at *
  generalize A * B % Z0 = r at *
  generalize A * B = N at *
  have h2 : Z0 = 2 * PP + 38 := PP_two.symm
  have key : S + 38 * c + PP * (2 * c) = r + 38 * q := by
    have : PP * (2 * c) = c * (2 * PP) := by rw [Nat.mul_left_comm, Nat.mul_comm PP c, Nat.mul_left_comm]
    rw [h2, Nat.mul_add] at h
    omega
  have key2 : N = r + 38 * q + PP * (2 * q) := by
    have : PP * (2 * q) = 2 * PP * q := by rw [Nat.mul_left_comm, Nat.mul_assoc]
    rw [← hd, h2, Nat.add_mul]; omega
  rw [key2, ← key, Nat.add_mul_mod_self_left, Nat.add_mul_mod_self_left]

theorem Y3f (S O N : Nat) (h : S + O * 2 ^ (64 * 4) = N % 2 ^ (64 * 4) + 38 * (N / 2 ^ 256 % 2 ^ (64 * 4))) : O ≤ 38 := by
  have h1 : N % 2 ^ (64 * 4) < Z0 := Nat.mod_lt _ (by decide)
  have h2 : N / 2 ^ 256 % 2 ^ (64 * 4) < Z0 := Nat.mod_lt _ (by decide)
  rw [show (2 : Nat) ^ (64 * 4) = Z0 by decide] at *
  unfold Z0 at *; omega
theorem V1p (f : Nat → Int) : J1 .u64 4 f = #[.int .u64 (f 0), .int .u64 (f 1), .int .u64 (f 2), .int .u64 (f 3)] := rfl
theorem Y3g (f : Nat → Int) (hf : ∀ j, K4 (f j)) : Value.agg (J1 .u64 4 f) = L4 (J2u f 4) := by
  rw [V1p]; unfold L4
  rw [J7z f 4 0 (by omega) (fun i _ => hf i), J7z f 4 1 (by omega) (fun i _ => hf i), J7z f 4 2 (by omega) (fun i _ => hf i), J7z f 4 3 (by omega) (fun i _ => hf i)]
theorem Z81 (f : Nat → Int) (S o : Nat) (hS : S = J2u f 4) (hf : ∀ j, K4 (f j)) (hA : S < Z0) (ho : o ≤ 38) (w : World) : Calls Tryd.prog 105 #[.agg (J1 .u64 4 f), .int .u64 (IntKind.u64.wrap (38 * (o : Int)))] w fun e w' => Ret (L4 (J9a S (38 * o))) w w' e := by
  have : IntKind.u64.wrap (38 * (o : Int)) = ((38 * o : Nat) : Int) := by rw [IntKind.wrap_u64]; omega
  rw [this, Y3g f hf, ← hS]; exact Z7y S (38 * o) hA (by omega) w
theorem K7 (A B : Nat) (hA : A < Z0) (hB : B < Z0) (w : World) (hG : GF w) :
  Calls Tryd.prog 72 #[L4 A, L4 B] w fun e w' => Ret (L4 (A * B % PP)) w w' e := by
 go_enter Tryd.func72, Tryd.ntmps72
 go_upto_region 1 with fail
 refine wn3 (c1 := (c4 A)) (t1 := 58) (c2 := (c4 B)) (t2 := 58) (c3 := #[.int .u64 0, .int .u64 0, .int .u64 0, .int .u64 0]) (t3 := 58) fun W0 bel k_t2 k_t3 k_t4 => ?_
 have lt_t2_0 := J5 k_t2
 have lt_t3_0 := J5 k_t3
 have lt_t4_0 := J5 k_t4
 have gf := Z8 hG bel
 have gm := gf.1
 have gi := gf.2
 have c_p := Z5i A B hA hB
 obtain ⟨N, hN⟩ := V2 (A * B)
 rw [← hN] at c_p
 have HN := Lib.hid hN
 clear hN
 refine Px1 3 5 (z := J1 .u64 8 (fun _ => 0)) (t := 113) ?_
 refine XL ?_
 refine XL ?_
 refine Xf ?_ (fun W hW => c_p W)
 refine XN ?_
 intro J6d W1 n_t5_1 hE k_t5
 have sz_1 := bel.size
 skip
 refine Lp ?_ k_t5 (cells := J1 .u64 8 (lim N)) (h1 := (Y7 _ _ _))
 intro W2 hO h_
 refine J0 ?_
 replace k_t2 := ko k_t2 hE hO (by omega)
 replace k_t3 := ko k_t3 hE hO (by omega)
 replace k_t4 := ko k_t4 hE hO (by omega)
 replace k_t5 := h_
 replace bel := bwo bel hE hO bel.size (by omega)
 clear hO h_
 go_upto_region 2 with fail
 have lt_t5_2 := J5 k_t5
 have gf := Z8 hG bel
 have gm := gf.1
 have gi := gf.2
 refine Px1 0 6 (z := #[.int .u64 0, .int .u64 0, .int .u64 0, .int .u64 0]) (t := 58) ?_
 refine XN ?_
 intro J8n W3 n_t6_3 hE k_t6
 have sz_3 := bel.size
 skip
 refine J0 ?_
 have hF : Below w.heap.size w W3 ∧ Blk W3 w.heap.size (c4 A) 58 ∧ Blk W3 (w.heap.size + 1) (c4 B) 58 ∧ Blk W3 (w.heap.size + 2) #[.int .u64 0, .int .u64 0, .int .u64 0, .int .u64 0] 58 ∧ Blk W3 J6d (J1 .u64 8 (lim N)) 113 ∧ Blk W3 J8n #[.int .u64 0, .int .u64 0, .int .u64 0, .int .u64 0] 58 := ⟨(Z5 bel hE bel.size), (J2 k_t2 hE), (J2 k_t3 hE), (J2 k_t4 hE), (J2 k_t5 hE), k_t6⟩
 clear bel k_t2 k_t3 k_t4 k_t5 k_t6
 obtain ⟨bel, k_t2, k_t3, k_t4, k_t5, k_t6⟩ := hF
 have lt_t6_3 := J5 k_t6
 go_wp2_with fail
 go_loopw [7, 16] (fun cc ii wr => ∃ (i : Nat) (c : Int) (f : Nat → Int), i ≤ 4 ∧ ii = .int .i64 i ∧ cc = .int .u64 c ∧ K4 c ∧ (∀ j, K4 (f j)) ∧ (∀ j, i ≤ j → f j = 0) ∧ J2u f 4 + c.toNat * 2 ^ (64 * i) = N % 2 ^ (64 * i) + 38 * (N / 2 ^ 256 % 2 ^ (64 * i)) ∧ Below w.heap.size w wr ∧ Blk wr w.heap.size (c4 A) 58 ∧ Blk wr (w.heap.size + 1) (c4 B) 58 ∧ Blk wr (w.heap.size + 2) #[.int .u64 0, .int .u64 0, .int .u64 0, .int .u64 0] 58 ∧ Blk wr J6d (J1 .u64 8 (lim N)) 113 ∧ Blk wr J8n (J1 .u64 4 f) 58)
  (fun cc ii _ => (4 - intOf ii).toNat)
 case atStart =>
  refine ⟨0, 0, fun _ => 0, by omega, rfl, rfl, ⟨by omega, by omega⟩, fun _ => ⟨by simp, by simp⟩, fun _ _ => rfl, ?_, bel, k_t2, k_t3, k_t4, k_t5, k_t6⟩
  rw [Q0d, Nat.mul_zero, Nat.pow_zero, Nat.mod_one, Nat.mod_one]; rfl
 case round =>
  obtain ⟨i, c, f, hi, rfl, rfl, hc, hf, hf0, hv, bel, k_t2, k_t3, k_t4, k_t5, k_t6⟩ := hrel
  have HV := Lib.hid hv
  have HF0 := Lib.hid hf0
  clear hv hf0
  by_cases hexit : i = 4
  ·
   have _hx := hexit
   subst hexit
   go_upto_region 14 with fail
   have lt_t2_4 := J5 k_t2
   have lt_t3_4 := J5 k_t3
   have lt_t4_4 := J5 k_t4
   have lt_t5_4 := J5 k_t5
   have lt_t6_4 := J5 k_t6
   have gf := Z8 hG bel
   have gm := gf.1
   have gi := gf.2
   obtain ⟨S, hS⟩ := V2 (J2u f 4)
   have bS : S < Z0 := by rw [hS]; exact Q1g f 4 (fun j _ => hf j)
   obtain ⟨O, rfl⟩ := Int.eq_ofNat_of_zero_le hc.1
   have hw := HV.out
   rw [← hS, Int.toNat_natCast] at hw
   have bO : O ≤ 38 := Y3f _ _ _ hw
   have c_X1 := Z81 f S O hS (fun j => hf j) bS bO
   obtain ⟨X1, hX1⟩ := V2 (J9a S (38 * O))
   rw [← hX1] at c_X1
   have bX1 : X1 < Z0 := by rw [hX1]; exact Q9l _ _ bS (by omega)
   have HX1 := Lib.hid hX1
   clear hX1
   have c_X2 := J7n X1 bX1
   obtain ⟨X2, hX2⟩ := V2 (X1 % PP)
   rw [← hX2] at c_X2
   have bX2 := J0v hX2
   have HX2 := Lib.hid hX2
   clear hX2
   refine Px 5 ?_
   refine XL ?_
   refine Xv ?_
   refine Xv ?_
   refine Xf ?_ (fun W hW => c_X1 W)
   refine Xf ?_ (fun W hW => c_X2 W (Z8 gf hW))
   refine Q3 fun W5 hE => ?_
   refine Lp ?_ (J2 k_t4 hE) (cells := c4 X2)
   intro W6 hO h_
   refine J0 ?_
   replace k_t2 := ko k_t2 hE hO (by omega)
   replace k_t3 := ko k_t3 hE hO (by omega)
   replace k_t4 := h_
   replace k_t5 := ko k_t5 hE hO (by omega)
   replace k_t6 := ko k_t6 hE hO (by omega)
   replace bel := bwo bel hE hO bel.size (by omega)
   clear hO h_
   go_wp2
   refine bodyPost_ret (K6 rfl rfl k_t4 (by kernel_rfl) (by kernel_rfl)) rfl ⟨?_, bel⟩
   rw [HX2.out, HX1.out, Y3e A B S O hA hB (by rw [← HN.out]; exact hw)]; rfl
  ·
   have hi3 : i < 4 := by omega
   have hi3' : (i : Int) < 4 := by omega
   have hi8 : 4 + (i : Int) < 8 := by omega
   have hi8' : (i : Int) < 8 := by omega
   clear hexit
   obtain ⟨m1, m2, m3, m4, m5⟩ := Q4q (lim N (4 + i)) 38 (lim N i) c (J1h N _) (by unfold K4; omega) (J1h N i) hc
   have a1 := J23 (J7o (lim N (4 + i)) 38) (lim N i) 0 m1 (J1h N i) (by omega) (by omega)
   have a2 := J23 (adS (J7o (lim N (4 + i)) 38) (lim N i) 0) c 0 m2 hc (by omega) (by omega)
   obtain ⟨sv, hsv⟩ : ∃ sv, sv = adS (adS (J7o (lim N (4 + i)) 38) (lim N i) 0) c 0 := ⟨_, rfl⟩
   rw [← hsv] at m4 m5 a2
   have M5 := Lib.hid m5
   clear m5 hsv
   have c5 := (Q8 k_t5 (4 + i)).trans (J6 _ _ _ _ (by omega))
   have c5' := (Q8 k_t5 i).trans (J6 _ _ _ _ (by omega))
   have c6 := (Q8 k_t6 i).trans (J6 _ _ _ _ hi3)
   have f6 := K5 k_t6
   go_wp2_with (go_at_call 94; refine (Q83 _ _ (J1h N (4 + i)) (by unfold K4; omega) _).mono ?_; rintro e w' ⟨rfl, rfl⟩)
   have hs := V1 k_t6 i (.int .u64 sv)
   rw [J04] at hs
   have h1 := J81 f i sv 4 hi3
   have h2 := HV.out
   have h5 := M5.out
   clear HV M5 a1 a2 c5 c5' c6 f6
   go_roundw
   case rel =>
    (repeat apply Exists.intro)
    refine ⟨?_, rfl⟩
    refine ⟨i + 1, _, upd f i sv, by omega, by go_num, rfl, m3, ?_, ?_, Z80 i N _ _ (f i) sv c _ (hf i) m4 hc m3 h5 h1 (HF0.out i (Nat.le_refl i)) h2, ?_, ?_, ?_, ?_, ?_, hs⟩
    ·
     intro j
     by_cases hj : j = i
     ·
      subst hj; rw [J31]; exact m4
     ·
      rw [J19 _ _ _ _ hj]; exact hf j
    ·
     intro j hj
     rw [J19 _ _ _ _ (by omega)]
     exact HF0.out j (by omega)
    ·
     exact Y8 bel (by omega) _ _
    ·
     exact J9 k_t2 (by omega) _ _
    ·
     exact J9 k_t3 (by omega) _ _
    ·
     exact J9 k_t4 (by omega) _ _
    ·
     exact J9 k_t5 (by omega) _ _
   case measure => simp [intOf]; omega
end Go.Proofs.YtefpoollmbmkfaaDoor
