/- The walks of field.Elem.sub and add, each once. Conditions: words of 64 bits. field.Elem.more and field.Rest. Conditions: the cells of field.modulus hold the modulus. field.Rest, Add, Neg, Sub, Small. Conditions: the cells of field.modulus hold the modulus. field.product. field.Mul. Conditions: the cells of field.modulus hold the modulus. -/
import Derived.Test.YtejkmhgkkibafaaGreatDoorGc
import Derived.Test.YtejkmhgkkibafaaGreatDoorJ8
import Derived.Test.YtejkmhgkkibafaaGreatDoorOz
import Derived.Test.YtejkmhgkkibafaaGreatDoorJ11
import Derived.Test.YtejkmhgkkibafaaGreatDoorGb
import Derived.Test.YtejkmhgkkibafaaGreatDoorGa
import Derived.Deep.QuietTactic
import Derived.BigQuiet
import Derived.BigRegion
import Derived.Lib.Hide
import Derived.Laws.Rows
set_option linter.unusedSimpArgs false
set_option linter.unusedVariables false
namespace Go.Proofs.YtejkmhgkkibafaaGreatDoor.S8
set_option maxHeartbeats 4000000
set_option maxRecDepth 100000
open Go.RowKit

theorem sub_c (a0 a1 a2 a3 b0 b1 b2 b3 : Int) (ha : U4 a0 a1 a2 a3) (hb : U4 b0 b1 b2 b3) (w : World) :
    Calls Tryz.prog 173 #[A4 a0 a1 a2 a3, A4 b0 b1 b2 b3] w fun e w' =>
      Ret (.tuple #[L4 (dif4 (val4 a0 a1 a2 a3) (val4 b0 b1 b2 b3)), .int .u64 (brw (val4 a0 a1 a2 a3) (val4 b0 b1 b2 b3))]) w w' e := by
  have hch := sub_chain a0 a1 a2 a3 b0 b1 b2 b3 ha hb
  have HC := Lib.hid hch
  clear hch
  have h0 := sub64_run a0 b0 0 ha.1 hb.1 (by omega) (by omega)
  have h1 := sub64_run a1 b1 _ ha.2.1 hb.2.1 (sbB_b a0 b0 0).1 (sbB_b a0 b0 0).2
  have h2 := sub64_run a2 b2 _ ha.2.2.1 hb.2.2.1 (sbB_b a1 b1 (sbB a0 b0 0)).1 (sbB_b a1 b1 (sbB a0 b0 0)).2
  have h3 := sub64_run a3 b3 _ ha.2.2.2 hb.2.2.2 (sbB_b a2 b2 (sbB a1 b1 (sbB a0 b0 0))).1 (sbB_b a2 b2 (sbB a1 b1 (sbB a0 b0 0))).2
  clear ha hb
  go_enter Tryz.func173, Tryz.ntmps173
  go_wp2
  refine wp_loop_rounds 5 ?_
  rw [rounds_succ]
  go_wp2
  go_region
  go_wp2
  rw [rounds_succ]
  go_wp2
  go_region
  go_wp2
  rw [rounds_succ]
  go_wp2
  go_region
  go_wp2
  rw [rounds_succ]
  go_wp2
  go_region
  go_wp2
  rw [rounds_succ]
  go_wp2
  refine bodyPost_ret (v := .tuple #[A4 (sbD a0 b0 0) (sbD a1 b1 (sbB a0 b0 0)) (sbD a2 b2 (sbB a1 b1 (sbB a0 b0 0))) (sbD a3 b3 (sbB a2 b2 (sbB a1 b1 (sbB a0 b0 0)))), .int .u64 (sbB a3 b3 (sbB a2 b2 (sbB a1 b1 (sbB a0 b0 0))))]) (by simp [results, Tryz.results173, go_sem]) rfl ⟨?_, ?_⟩
  · rw [HC.out.1, HC.out.2]
  · exact bz

theorem add_c (a0 a1 a2 a3 b0 b1 b2 b3 : Int) (ha : U4 a0 a1 a2 a3) (hb : U4 b0 b1 b2 b3) (w : World) :
    Calls Tryz.prog 172 #[A4 a0 a1 a2 a3, A4 b0 b1 b2 b3] w fun e w' =>
      Ret (.tuple #[L4 ((val4 a0 a1 a2 a3 + val4 b0 b1 b2 b3) % P256), .int .u64 ((val4 a0 a1 a2 a3 + val4 b0 b1 b2 b3) / P256 : Nat)]) w w' e := by
  have hch := add_chain a0 a1 a2 a3 b0 b1 b2 b3 0 ha hb (by omega) (by omega)
  simp only [Int.toNat_zero, Nat.add_zero] at hch
  have HC := Lib.hid hch
  clear hch
  have v0 := adC_b a0 b0 0 ha.1 hb.1 (by omega) (by omega)
  have v1 := adC_b a1 b1 _ ha.2.1 hb.2.1 v0.1 v0.2
  have v2 := adC_b a2 b2 _ ha.2.2.1 hb.2.2.1 v1.1 v1.2
  have h0 := add64_run a0 b0 0 ha.1 hb.1 (by omega) (by omega)
  have h1 := add64_run a1 b1 _ ha.2.1 hb.2.1 v0.1 v0.2
  have h2 := add64_run a2 b2 _ ha.2.2.1 hb.2.2.1 v1.1 v1.2
  have h3 := add64_run a3 b3 _ ha.2.2.2 hb.2.2.2 v2.1 v2.2
  clear v0 v1 v2
  clear ha hb
  go_enter Tryz.func172, Tryz.ntmps172
  go_wp2
  refine wp_loop_rounds 5 ?_
  rw [rounds_succ]
  go_wp2
  go_region
  go_wp2
  rw [rounds_succ]
  go_wp2
  go_region
  go_wp2
  rw [rounds_succ]
  go_wp2
  go_region
  go_wp2
  rw [rounds_succ]
  go_wp2
  go_region
  go_wp2
  rw [rounds_succ]
  go_wp2
  refine bodyPost_ret (v := .tuple #[A4 (adS a0 b0 0) (adS a1 b1 (adC a0 b0 0)) (adS a2 b2 (adC a1 b1 (adC a0 b0 0))) (adS a3 b3 (adC a2 b2 (adC a1 b1 (adC a0 b0 0)))), .int .u64 (adC a3 b3 (adC a2 b2 (adC a1 b1 (adC a0 b0 0))))]) (by simp [results, Tryz.results172, go_sem]) rfl ⟨?_, ?_⟩
  · rw [HC.out.1, HC.out.2]; rfl
  · exact bz

theorem fsub_l (A B : Nat) (hA : A < P256) (hB : B < P256) (w : World) : Calls Tryz.prog 173 #[L4 A, L4 B] w fun e w' => Ret (.tuple #[L4 (dif4 A B), .int .u64 (brw A B)]) w w' e := by
  have h := sub_c _ _ _ _ _ _ _ _ (lim_U4 A) (lim_U4 B) w
  rw [val4_lim A hA, val4_lim B hB] at h; exact h
theorem fadd_l (A B : Nat) (hA : A < P256) (hB : B < P256) (w : World) : Calls Tryz.prog 172 #[L4 A, L4 B] w fun e w' => Ret (.tuple #[L4 ((A + B) % P256), .int .u64 ((A + B) / P256 : Nat)]) w w' e := by
  have h := add_c _ _ _ _ _ _ _ _ (lim_U4 A) (lim_U4 B) w
  rw [val4_lim A hA, val4_lim B hB] at h; exact h
end Go.Proofs.YtejkmhgkkibafaaGreatDoor.S8

namespace Go.Proofs.YtejkmhgkkibafaaGreatDoor.S8
set_option maxHeartbeats 4000000
set_option maxRecDepth 100000
open Go.RowKit

/-- the field's order -/
def PP : Nat := 57896044618658097711785492504343953926634992332820282019728792003956564819949
theorem PP_lt : PP < P256 := by decide +kernel
theorem PP_two : 2 * PP + 38 = P256 := by decide +kernel
theorem mod_256 (n : Nat) : n % PP < P256 := Nat.lt_trans (Nat.mod_lt _ (by decide)) PP_lt
theorem b256 {X n : Nat} (h : X = n % PP) : X < P256 := h ▸ mod_256 n
/-- the cells of the two package variables -/
def modC : Array Value := #[.int .u64 18446744073709551597, .int .u64 18446744073709551615, .int .u64 18446744073709551615, .int .u64 9223372036854775807]
def imaC : Array Value := #[.int .u64 14190309331451158704, .int .u64 3405592160176694392, .int .u64 3120150775007532967, .int .u64 3135389899092516619]
def GF (w : World) : Prop := Rd w 13 modC ∧ True
/-- the root of -1 reads so -/
def GI (w : World) : Prop := Rd w 12 imaC
theorem GF_ext {w W : World} (h : GF w) (e : Ext w W) : GF W := ⟨h.1.ext e, trivial⟩
theorem L4_small (n : Nat) (hn : n < 18446744073709551616) : L4 n = .agg #[.int .u64 (n : Int), .int .u64 0, .int .u64 0, .int .u64 0] := by
  have h0 : lim n 0 = (n : Int) := by unfold lim; simp only [Nat.mul_zero, Nat.pow_zero, Nat.div_one]; omega
  have h1 : lim n 1 = 0 := by unfold lim; rw [Nat.div_eq_of_lt (by simp only [Nat.reduceMul, Nat.reducePow]; omega)]; rfl
  have h2 : lim n 2 = 0 := by unfold lim; rw [Nat.div_eq_of_lt (by simp only [Nat.reduceMul, Nat.reducePow]; omega)]; rfl
  have h3 : lim n 3 = 0 := by unfold lim; rw [Nat.div_eq_of_lt (by simp only [Nat.reduceMul, Nat.reducePow]; omega)]; rfl
  unfold L4; rw [h0, h1, h2, h3]
theorem fadd_lo (A B : Nat) (hA : A < P256) (hB : B < P256) (h : A + B < P256) (w : World) : Calls Tryz.prog 172 #[L4 A, L4 B] w fun e w' => Ret (.tuple #[L4 (A + B), .int .u64 0]) w w' e := by
  have := fadd_l A B hA hB w
  rw [Nat.mod_eq_of_lt h, Nat.div_eq_of_lt h] at this; exact this
theorem fadd_hi (A B : Nat) (hA : A < P256) (hB : B < P256) (h : P256 ≤ A + B) (w : World) : Calls Tryz.prog 172 #[L4 A, L4 B] w fun e w' => Ret (.tuple #[L4 (A + B - P256), .int .u64 1]) w w' e := by
  have := fadd_l A B hA hB w
  have e1 : (A + B) % P256 = A + B - P256 := by rw [Nat.mod_eq_sub_mod h, Nat.mod_eq_of_lt (by omega)]
  have e2 : (A + B) / P256 = 1 := Nat.div_eq_of_lt_le (by omega) (by omega)
  rw [e1, e2] at this; exact this
theorem fadd_los (A n : Nat) (hA : A < P256) (hn : n < 18446744073709551616) (h : A + n < P256) (w : World) : Calls Tryz.prog 172 #[L4 A, .agg #[.int .u64 (n : Int), .int .u64 0, .int .u64 0, .int .u64 0]] w fun e w' => Ret (.tuple #[L4 (A + n), .int .u64 0]) w w' e := by
  rw [← L4_small n hn]; exact fadd_lo A n hA (by unfold P256; omega) h w
theorem fadd_his (A n : Nat) (hA : A < P256) (hn : n < 18446744073709551616) (h : P256 ≤ A + n) (w : World) : Calls Tryz.prog 172 #[L4 A, .agg #[.int .u64 (n : Int), .int .u64 0, .int .u64 0, .int .u64 0]] w fun e w' => Ret (.tuple #[L4 (A + n - P256), .int .u64 1]) w w' e := by
  rw [← L4_small n hn]; exact fadd_hi A n hA (by unfold P256; omega) h w
def moreV (A n : Nat) : Nat := if A + n < P256 then A + n else A + n - P256 + 38

theorem more_lo (A n : Nat) (hA : A < P256) (hn : n < 18446744073709551616) (h : A + n < P256) (w : World) :
  Calls Tryz.prog 168 #[L4 A, .int .u64 (n : Int)] w fun e w' => Ret (L4 (A + n)) w w' e := by
 go_enter Tryz.func168, Tryz.ntmps168
 go_upto_region 1 with fail
 refine wn2 (c1 := (c4 (A))) (t1 := 155) (c2 := #[.int .u64 0, .int .u64 0, .int .u64 0, .int .u64 0]) (t2 := 155) fun W0 bel k_t2 k_t4 => ?_
 have c1 := fadd_los A n hA hn h
 refine Px1 7 5 (z := #[.int .u64 0, .int .u64 0, .int .u64 0, .int .u64 0]) (t := 155) ?_
 refine XL ?_
 refine Xv ?_
 refine Xv ?_
 refine Xf ?_ (fun W hW => c1 W)
 refine Xv ?_
 refine Xv ?_
 refine Xv ?_
 refine XN ?_
 intro p5_1 W1 n_t5_1 hE k_t5
 have lt_t2_1 := blk_lt k_t2
 have lt_t4_1 := blk_lt k_t4
 have sz_1 := bel.size
 skip
 refine LS ?_ k_t5 (g := p5_1) (cells := c4 (A + n))
 refine Lv ?_
 refine wpL_nil ?_
 refine ex_world (fun W => Below w.heap.size w W ∧ Blk W w.heap.size (c4 (A)) 155 ∧ Blk W (w.heap.size + 1) #[.int .u64 0, .int .u64 0, .int .u64 0, .int .u64 0] 155 ∧ Blk W p5_1 (c4 (A + n)) 155) ⟨(below_setRow (below_step bel hE bel.size) (by omega) _), (blk_setRow_other (blk_step k_t2 hE) (by omega) _), (blk_setRow_other (blk_step k_t4 hE) (by omega) _), (blk_setRow k_t5 (c4 (A + n)))⟩ ?_
 clear bel k_t2 k_t4 k_t5
 rintro W2 ⟨bel, k_t2, k_t4, k_t5⟩
 go_upto_region 4 with fail
 refine Px 1 ?_
 refine XL ?_
 refine wpX_nil fun W3 hE => ?_
 have lt_t5_3 := blk_lt k_t5
 refine LS ?_ (blk_step k_t4 hE) (g := (w.heap.size + 1)) (cells := c4 (A + n))
 refine wpL_nil ?_
 refine ex_world (fun W => Below w.heap.size w W ∧ Blk W w.heap.size (c4 (A)) 155 ∧ Blk W (w.heap.size + 1) (c4 (A + n)) 155 ∧ Blk W p5_1 (c4 (A + n)) 155) ⟨(below_setRow (below_step bel hE bel.size) (by omega) _), (blk_setRow_other (blk_step k_t2 hE) (by omega) _), (blk_setRow (blk_step k_t4 hE) (c4 (A + n))), (blk_setRow_other (blk_step k_t5 hE) (by omega) _)⟩ ?_
 clear bel k_t2 k_t4 k_t5
 rintro W4 ⟨bel, k_t2, k_t4, k_t5⟩
 go_wp2
 refine bodyPost_ret (res_row rfl rfl k_t4 (by kernel_rfl) (by kernel_rfl)) rfl ⟨?_, bel⟩
 rfl
theorem more_hi (A n : Nat) (hA : A < P256) (hn : n < 18446744073709551616) (h : P256 ≤ A + n) (h2 : A + n - P256 + 38 < P256) (w : World) :
  Calls Tryz.prog 168 #[L4 A, .int .u64 (n : Int)] w fun e w' => Ret (L4 (A + n - P256 + 38)) w w' e := by
 go_enter Tryz.func168, Tryz.ntmps168
 go_upto_region 1 with fail
 refine wn2 (c1 := (c4 (A))) (t1 := 155) (c2 := #[.int .u64 0, .int .u64 0, .int .u64 0, .int .u64 0]) (t2 := 155) fun W0 bel k_t2 k_t4 => ?_
 have c_X1 := fadd_his A n hA hn h
 obtain ⟨X1, hX1⟩ : ∃ X, X = A + n - P256 := ⟨_, rfl⟩
 rw [← hX1] at c_X1
 have HX1 := Lib.hid hX1
 clear hX1
 refine Px1 7 5 (z := #[.int .u64 0, .int .u64 0, .int .u64 0, .int .u64 0]) (t := 155) ?_
 refine XL ?_
 refine Xv ?_
 refine Xv ?_
 refine Xf ?_ (fun W hW => c_X1 W)
 refine Xv ?_
 refine Xv ?_
 refine Xv ?_
 refine XN ?_
 intro p5_1 W1 n_t5_1 hE k_t5
 have lt_t2_1 := blk_lt k_t2
 have lt_t4_1 := blk_lt k_t4
 have sz_1 := bel.size
 skip
 refine LS ?_ k_t5 (g := p5_1) (cells := c4 (X1))
 refine Lv ?_
 refine wpL_nil ?_
 refine ex_world (fun W => Below w.heap.size w W ∧ Blk W w.heap.size (c4 (A)) 155 ∧ Blk W (w.heap.size + 1) #[.int .u64 0, .int .u64 0, .int .u64 0, .int .u64 0] 155 ∧ Blk W p5_1 (c4 (X1)) 155) ⟨(below_setRow (below_step bel hE bel.size) (by omega) _), (blk_setRow_other (blk_step k_t2 hE) (by omega) _), (blk_setRow_other (blk_step k_t4 hE) (by omega) _), (blk_setRow k_t5 (c4 (X1)))⟩ ?_
 clear bel k_t2 k_t4 k_t5
 rintro W2 ⟨bel, k_t2, k_t4, k_t5⟩
 go_upto_region 3 with fail
 have c_X2 := fadd_los X1 38 (by rw [HX1.out]; omega) (by decide) (by rw [HX1.out]; omega)
 obtain ⟨X2, hX2⟩ : ∃ X, X = X1 + 38 := ⟨_, rfl⟩
 rw [← hX2] at c_X2
 have HX2 := Lib.hid hX2
 clear hX2
 refine Px 6 ?_
 refine XL ?_
 refine Xv ?_
 refine Xf ?_ (fun W hW => c_X2 W)
 refine Xv ?_
 refine Xv ?_
 refine Xv ?_
 refine wpX_nil fun W3 hE => ?_
 have lt_t5_3 := blk_lt k_t5
 refine LS ?_ (blk_step k_t5 hE) (g := p5_1) (cells := c4 (X2))
 refine wpL_nil ?_
 refine ex_world (fun W => Below w.heap.size w W ∧ Blk W w.heap.size (c4 (A)) 155 ∧ Blk W (w.heap.size + 1) #[.int .u64 0, .int .u64 0, .int .u64 0, .int .u64 0] 155 ∧ Blk W p5_1 (c4 (X2)) 155) ⟨(below_setRow (below_step bel hE bel.size) (by omega) _), (blk_setRow_other (blk_step k_t2 hE) (by omega) _), (blk_setRow_other (blk_step k_t4 hE) (by omega) _), (blk_setRow (blk_step k_t5 hE) (c4 (X2)))⟩ ?_
 clear bel k_t2 k_t4 k_t5
 rintro W4 ⟨bel, k_t2, k_t4, k_t5⟩
 go_upto_region 4 with fail
 refine Px 1 ?_
 refine XL ?_
 refine wpX_nil fun W5 hE => ?_
 have lt_t5_5 := blk_lt k_t5
 refine LS ?_ (blk_step k_t4 hE) (g := (w.heap.size + 1)) (cells := c4 (X2))
 refine wpL_nil ?_
 refine ex_world (fun W => Below w.heap.size w W ∧ Blk W w.heap.size (c4 (A)) 155 ∧ Blk W (w.heap.size + 1) (c4 (X2)) 155 ∧ Blk W p5_1 (c4 (X2)) 155) ⟨(below_setRow (below_step bel hE bel.size) (by omega) _), (blk_setRow_other (blk_step k_t2 hE) (by omega) _), (blk_setRow (blk_step k_t4 hE) (c4 (X2))), (blk_setRow_other (blk_step k_t5 hE) (by omega) _)⟩ ?_
 clear bel k_t2 k_t4 k_t5
 rintro W6 ⟨bel, k_t2, k_t4, k_t5⟩
 go_wp2
 refine bodyPost_ret (res_row rfl rfl k_t4 (by kernel_rfl) (by kernel_rfl)) rfl ⟨?_, bel⟩
 rw [HX2.out, HX1.out]; rfl
end Go.Proofs.YtejkmhgkkibafaaGreatDoor.S8

namespace Go.Proofs.YtejkmhgkkibafaaGreatDoor.S8
set_option maxHeartbeats 4000000
set_option maxRecDepth 100000
open Go.RowKit

theorem modC_eq : Value.agg modC = L4 PP := by kernel_rfl
theorem dif4_hi (A B : Nat) (hA : A < P256) (hB : B < P256) (h : B ≤ A) : dif4 A B = A - B := by unfold dif4 P256 at *; omega
theorem fsub_lo (X : Nat) (hX : X < PP) (w : World) : Calls Tryz.prog 173 #[L4 X, .agg modC] w fun e w' => Ret (.tuple #[L4 (dif4 X PP), .int .u64 1]) w w' e := by
  have := fsub_l X PP (Nat.lt_trans hX PP_lt) PP_lt w
  rw [modC_eq]
  unfold brw at this; rw [if_pos hX] at this; exact this
theorem fsub_hi (X : Nat) (hX : X < P256) (h : PP ≤ X) (w : World) : Calls Tryz.prog 173 #[L4 X, .agg modC] w fun e w' => Ret (.tuple #[L4 (X - PP), .int .u64 0]) w w' e := by
  have := fsub_l X PP hX PP_lt w
  rw [modC_eq]
  rw [dif4_hi X PP hX PP_lt h] at this
  unfold brw at this; rw [if_neg (by omega)] at this; exact this
theorem rest1 (X : Nat) (h : PP ≤ X) (h1 : X - PP < PP) : X - PP = X % PP := by rw [Nat.mod_eq_sub_mod h, Nat.mod_eq_of_lt h1]
theorem rest2 (X : Nat) (h : PP ≤ X) (h1 : PP ≤ X - PP) (h2 : X - PP - PP < PP) : X - PP - PP = X % PP := by rw [Nat.mod_eq_sub_mod h, Nat.mod_eq_sub_mod h1, Nat.mod_eq_of_lt h2]

theorem rest_0 (X : Nat) (hX : X < P256) (hq : X < PP) (w : World) (hG : GF w) :
  Calls Tryz.prog 166 #[L4 X] w fun e w' => Ret (L4 X) w w' e := by
 go_enter Tryz.func166, Tryz.ntmps166
 go_wp2_with fail
 refine wp_loop_rounds 4 ?_
 rw [rounds_succ]
 go_upto_region 1 with fail
 refine wn2 (c1 := (c4 X)) (t1 := 155) (c2 := #[.int .u64 0, .int .u64 0, .int .u64 0, .int .u64 0]) (t2 := 155) fun W0 bel k_t1 k_t2 => ?_
 have lt_t1_0 := blk_lt k_t1
 have lt_t2_0 := blk_lt k_t2
 have gf := GF_ext hG bel
 have gm := gf.1
 clear gf
 have c_X1 := fsub_lo X hq
 obtain ⟨X1, hX1⟩ := exn (dif4 X PP)
 rw [← hX1] at c_X1
 have HX1 := Lib.hid hX1
 clear hX1
 refine Px1 6 3 (z := #[.int .u64 0, .int .u64 0, .int .u64 0, .int .u64 0]) (t := 155) ?_
 refine XL ?_
 refine XL ?_
 refine Xf ?_ (fun W hW => c_X1 W)
 refine Xv ?_
 refine Xv ?_
 refine Xv ?_
 refine XN ?_
 intro p3_1 W1 n_t3_1 hE k_t3
 have sz_1 := bel.size
 skip
 refine LS ?_ k_t3 (g := p3_1) (cells := c4 X1)
 refine Lv ?_
 refine wpL_nil ?_
 have hF : Below w.heap.size w (W1.setRow p3_1 (c4 X1)) ∧ Blk (W1.setRow p3_1 (c4 X1)) w.heap.size (c4 X) 155 ∧ Blk (W1.setRow p3_1 (c4 X1)) (w.heap.size + 1) #[.int .u64 0, .int .u64 0, .int .u64 0, .int .u64 0] 155 ∧ Blk (W1.setRow p3_1 (c4 X1)) p3_1 (c4 X1) 155 := ⟨(below_setRow (below_step bel hE bel.size) (by omega) _), (blk_setRow_other (blk_step k_t1 hE) (by omega) _), (blk_setRow_other (blk_step k_t2 hE) (by omega) _), (blk_setRow k_t3 (c4 X1))⟩
 generalize (W1.setRow p3_1 (c4 X1)) = W2 at hF ⊢
 clear bel k_t1 k_t2 k_t3
 obtain ⟨bel, k_t1, k_t2, k_t3⟩ := hF
 go_upto_region 3 with fail
 have lt_t3_2 := blk_lt k_t3
 have gf := GF_ext hG bel
 have gm := gf.1
 clear gf
 refine Px 1 ?_
 refine XL ?_
 refine wpX_nil fun W3 hE => ?_
 refine Lp ?_ (blk_step k_t2 hE) (cells := c4 X)
 intro W4 hO h_
 refine wpL_nil ?_
 replace k_t1 := ko k_t1 hE hO (by omega)
 replace k_t2 := h_
 replace k_t3 := ko k_t3 hE hO (by omega)
 replace bel := bwo bel hE hO bel.size (by omega)
 clear hO h_
 go_wp2
 refine bodyPost_ret (res_row rfl rfl k_t2 (by kernel_rfl) (by kernel_rfl)) rfl ⟨?_, bel⟩
 rfl
theorem rest_1 (X : Nat) (hX : X < P256) (h0 : PP ≤ X) (hq : X - PP < PP) (w : World) (hG : GF w) :
  Calls Tryz.prog 166 #[L4 X] w fun e w' => Ret (L4 (X - PP)) w w' e := by
 go_enter Tryz.func166, Tryz.ntmps166
 go_wp2_with fail
 refine wp_loop_rounds 4 ?_
 rw [rounds_succ]
 go_upto_region 1 with fail
 refine wn2 (c1 := (c4 X)) (t1 := 155) (c2 := #[.int .u64 0, .int .u64 0, .int .u64 0, .int .u64 0]) (t2 := 155) fun W0 bel k_t1 k_t2 => ?_
 have lt_t1_0 := blk_lt k_t1
 have lt_t2_0 := blk_lt k_t2
 have gf := GF_ext hG bel
 have gm := gf.1
 clear gf
 have c_X1 := fsub_hi X hX h0
 obtain ⟨X1, hX1⟩ := exn (X - PP)
 rw [← hX1] at c_X1
 have HX1 := Lib.hid hX1
 clear hX1
 refine Px1 6 3 (z := #[.int .u64 0, .int .u64 0, .int .u64 0, .int .u64 0]) (t := 155) ?_
 refine XL ?_
 refine XL ?_
 refine Xf ?_ (fun W hW => c_X1 W)
 refine Xv ?_
 refine Xv ?_
 refine Xv ?_
 refine XN ?_
 intro p3_1 W1 n_t3_1 hE k_t3
 have sz_1 := bel.size
 skip
 refine LS ?_ k_t3 (g := p3_1) (cells := c4 X1)
 refine Lv ?_
 refine wpL_nil ?_
 have hF : Below w.heap.size w (W1.setRow p3_1 (c4 X1)) ∧ Blk (W1.setRow p3_1 (c4 X1)) w.heap.size (c4 X) 155 ∧ Blk (W1.setRow p3_1 (c4 X1)) (w.heap.size + 1) #[.int .u64 0, .int .u64 0, .int .u64 0, .int .u64 0] 155 ∧ Blk (W1.setRow p3_1 (c4 X1)) p3_1 (c4 X1) 155 := ⟨(below_setRow (below_step bel hE bel.size) (by omega) _), (blk_setRow_other (blk_step k_t1 hE) (by omega) _), (blk_setRow_other (blk_step k_t2 hE) (by omega) _), (blk_setRow k_t3 (c4 X1))⟩
 generalize (W1.setRow p3_1 (c4 X1)) = W2 at hF ⊢
 clear bel k_t1 k_t2 k_t3
 obtain ⟨bel, k_t1, k_t2, k_t3⟩ := hF
 go_upto_region 4 with fail
 have lt_t3_2 := blk_lt k_t3
 have gf := GF_ext hG bel
 have gm := gf.1
 clear gf
 refine Px 1 ?_
 refine XL ?_
 refine wpX_nil fun W3 hE => ?_
 refine LS ?_ (blk_step k_t1 hE) (g := w.heap.size) (cells := c4 X1)
 refine wpL_nil ?_
 have hF : Below w.heap.size w (W3.setRow w.heap.size (c4 X1)) ∧ Blk (W3.setRow w.heap.size (c4 X1)) w.heap.size (c4 X1) 155 ∧ Blk (W3.setRow w.heap.size (c4 X1)) (w.heap.size + 1) #[.int .u64 0, .int .u64 0, .int .u64 0, .int .u64 0] 155 ∧ Blk (W3.setRow w.heap.size (c4 X1)) p3_1 (c4 X1) 155 := ⟨(below_setRow (below_step bel hE bel.size) (by omega) _), (blk_setRow (blk_step k_t1 hE) (c4 X1)), (blk_setRow_other (blk_step k_t2 hE) (by omega) _), (blk_setRow_other (blk_step k_t3 hE) (by omega) _)⟩
 generalize (W3.setRow w.heap.size (c4 X1)) = W4 at hF ⊢
 clear bel k_t1 k_t2 k_t3
 obtain ⟨bel, k_t1, k_t2, k_t3⟩ := hF
 go_wp2_with fail
 rw [rounds_succ]
 go_upto_region 1 with fail
 have lt_t3_4 := blk_lt k_t3
 have gf := GF_ext hG bel
 have gm := gf.1
 clear gf
 have c_X2 := fsub_lo X1 (by rw [HX1.out]; exact hq)
 obtain ⟨X2, hX2⟩ := exn (dif4 X1 PP)
 rw [← hX2] at c_X2
 have HX2 := Lib.hid hX2
 clear hX2
 refine Px1 6 3 (z := #[.int .u64 0, .int .u64 0, .int .u64 0, .int .u64 0]) (t := 155) ?_
 refine XL ?_
 refine XL ?_
 refine Xf ?_ (fun W hW => c_X2 W)
 refine Xv ?_
 refine Xv ?_
 refine Xv ?_
 refine XN ?_
 intro p3_5 W5 n_t3_5 hE k_t3
 have sz_5 := bel.size
 skip
 refine LS ?_ k_t3 (g := p3_5) (cells := c4 X2)
 refine Lv ?_
 refine wpL_nil ?_
 have hF : Below w.heap.size w (W5.setRow p3_5 (c4 X2)) ∧ Blk (W5.setRow p3_5 (c4 X2)) w.heap.size (c4 X1) 155 ∧ Blk (W5.setRow p3_5 (c4 X2)) (w.heap.size + 1) #[.int .u64 0, .int .u64 0, .int .u64 0, .int .u64 0] 155 ∧ Blk (W5.setRow p3_5 (c4 X2)) p3_5 (c4 X2) 155 := ⟨(below_setRow (below_step bel hE bel.size) (by omega) _), (blk_setRow_other (blk_step k_t1 hE) (by omega) _), (blk_setRow_other (blk_step k_t2 hE) (by omega) _), (blk_setRow k_t3 (c4 X2))⟩
 generalize (W5.setRow p3_5 (c4 X2)) = W6 at hF ⊢
 clear bel k_t1 k_t2 k_t3
 obtain ⟨bel, k_t1, k_t2, k_t3⟩ := hF
 go_upto_region 3 with fail
 have lt_t3_6 := blk_lt k_t3
 have gf := GF_ext hG bel
 have gm := gf.1
 clear gf
 refine Px 1 ?_
 refine XL ?_
 refine wpX_nil fun W7 hE => ?_
 refine Lp ?_ (blk_step k_t2 hE) (cells := c4 X1)
 intro W8 hO h_
 refine wpL_nil ?_
 replace k_t1 := ko k_t1 hE hO (by omega)
 replace k_t2 := h_
 replace k_t3 := ko k_t3 hE hO (by omega)
 replace bel := bwo bel hE hO bel.size (by omega)
 clear hO h_
 go_wp2
 refine bodyPost_ret (res_row rfl rfl k_t2 (by kernel_rfl) (by kernel_rfl)) rfl ⟨?_, bel⟩
 rw [HX1.out]; rfl
theorem rest_2 (X : Nat) (hX : X < P256) (h0 : PP ≤ X) (h1' : PP ≤ X - PP) (hq : X - PP - PP < PP) (w : World) (hG : GF w) :
  Calls Tryz.prog 166 #[L4 X] w fun e w' => Ret (L4 (X - PP - PP)) w w' e := by
 go_enter Tryz.func166, Tryz.ntmps166
 go_wp2_with fail
 refine wp_loop_rounds 4 ?_
 rw [rounds_succ]
 go_upto_region 1 with fail
 refine wn2 (c1 := (c4 X)) (t1 := 155) (c2 := #[.int .u64 0, .int .u64 0, .int .u64 0, .int .u64 0]) (t2 := 155) fun W0 bel k_t1 k_t2 => ?_
 have lt_t1_0 := blk_lt k_t1
 have lt_t2_0 := blk_lt k_t2
 have gf := GF_ext hG bel
 have gm := gf.1
 clear gf
 have c_X1 := fsub_hi X hX h0
 obtain ⟨X1, hX1⟩ := exn (X - PP)
 rw [← hX1] at c_X1
 have HX1 := Lib.hid hX1
 clear hX1
 have h1 : PP ≤ X1 := by rw [HX1.out]; exact h1'
 refine Px1 6 3 (z := #[.int .u64 0, .int .u64 0, .int .u64 0, .int .u64 0]) (t := 155) ?_
 refine XL ?_
 refine XL ?_
 refine Xf ?_ (fun W hW => c_X1 W)
 refine Xv ?_
 refine Xv ?_
 refine Xv ?_
 refine XN ?_
 intro p3_1 W1 n_t3_1 hE k_t3
 have sz_1 := bel.size
 skip
 refine LS ?_ k_t3 (g := p3_1) (cells := c4 X1)
 refine Lv ?_
 refine wpL_nil ?_
 have hF : Below w.heap.size w (W1.setRow p3_1 (c4 X1)) ∧ Blk (W1.setRow p3_1 (c4 X1)) w.heap.size (c4 X) 155 ∧ Blk (W1.setRow p3_1 (c4 X1)) (w.heap.size + 1) #[.int .u64 0, .int .u64 0, .int .u64 0, .int .u64 0] 155 ∧ Blk (W1.setRow p3_1 (c4 X1)) p3_1 (c4 X1) 155 := ⟨(below_setRow (below_step bel hE bel.size) (by omega) _), (blk_setRow_other (blk_step k_t1 hE) (by omega) _), (blk_setRow_other (blk_step k_t2 hE) (by omega) _), (blk_setRow k_t3 (c4 X1))⟩
 generalize (W1.setRow p3_1 (c4 X1)) = W2 at hF ⊢
 clear bel k_t1 k_t2 k_t3
 obtain ⟨bel, k_t1, k_t2, k_t3⟩ := hF
 go_upto_region 4 with fail
 have lt_t3_2 := blk_lt k_t3
 have gf := GF_ext hG bel
 have gm := gf.1
 clear gf
 refine Px 1 ?_
 refine XL ?_
 refine wpX_nil fun W3 hE => ?_
 refine LS ?_ (blk_step k_t1 hE) (g := w.heap.size) (cells := c4 X1)
 refine wpL_nil ?_
 have hF : Below w.heap.size w (W3.setRow w.heap.size (c4 X1)) ∧ Blk (W3.setRow w.heap.size (c4 X1)) w.heap.size (c4 X1) 155 ∧ Blk (W3.setRow w.heap.size (c4 X1)) (w.heap.size + 1) #[.int .u64 0, .int .u64 0, .int .u64 0, .int .u64 0] 155 ∧ Blk (W3.setRow w.heap.size (c4 X1)) p3_1 (c4 X1) 155 := ⟨(below_setRow (below_step bel hE bel.size) (by omega) _), (blk_setRow (blk_step k_t1 hE) (c4 X1)), (blk_setRow_other (blk_step k_t2 hE) (by omega) _), (blk_setRow_other (blk_step k_t3 hE) (by omega) _)⟩
 generalize (W3.setRow w.heap.size (c4 X1)) = W4 at hF ⊢
 clear bel k_t1 k_t2 k_t3
 obtain ⟨bel, k_t1, k_t2, k_t3⟩ := hF
 go_wp2_with fail
 rw [rounds_succ]
 go_upto_region 1 with fail
 have lt_t3_4 := blk_lt k_t3
 have gf := GF_ext hG bel
 have gm := gf.1
 clear gf
 have c_X2 := fsub_hi X1 (by rw [HX1.out]; omega) h1
 obtain ⟨X2, hX2⟩ := exn (X1 - PP)
 rw [← hX2] at c_X2
 have HX2 := Lib.hid hX2
 clear hX2
 refine Px1 6 3 (z := #[.int .u64 0, .int .u64 0, .int .u64 0, .int .u64 0]) (t := 155) ?_
 refine XL ?_
 refine XL ?_
 refine Xf ?_ (fun W hW => c_X2 W)
 refine Xv ?_
 refine Xv ?_
 refine Xv ?_
 refine XN ?_
 intro p3_5 W5 n_t3_5 hE k_t3
 have sz_5 := bel.size
 skip
 refine LS ?_ k_t3 (g := p3_5) (cells := c4 X2)
 refine Lv ?_
 refine wpL_nil ?_
 have hF : Below w.heap.size w (W5.setRow p3_5 (c4 X2)) ∧ Blk (W5.setRow p3_5 (c4 X2)) w.heap.size (c4 X1) 155 ∧ Blk (W5.setRow p3_5 (c4 X2)) (w.heap.size + 1) #[.int .u64 0, .int .u64 0, .int .u64 0, .int .u64 0] 155 ∧ Blk (W5.setRow p3_5 (c4 X2)) p3_5 (c4 X2) 155 := ⟨(below_setRow (below_step bel hE bel.size) (by omega) _), (blk_setRow_other (blk_step k_t1 hE) (by omega) _), (blk_setRow_other (blk_step k_t2 hE) (by omega) _), (blk_setRow k_t3 (c4 X2))⟩
 generalize (W5.setRow p3_5 (c4 X2)) = W6 at hF ⊢
 clear bel k_t1 k_t2 k_t3
 obtain ⟨bel, k_t1, k_t2, k_t3⟩ := hF
 go_upto_region 4 with fail
 have lt_t3_6 := blk_lt k_t3
 have gf := GF_ext hG bel
 have gm := gf.1
 clear gf
 refine Px 1 ?_
 refine XL ?_
 refine wpX_nil fun W7 hE => ?_
 refine LS ?_ (blk_step k_t1 hE) (g := w.heap.size) (cells := c4 X2)
 refine wpL_nil ?_
 have hF : Below w.heap.size w (W7.setRow w.heap.size (c4 X2)) ∧ Blk (W7.setRow w.heap.size (c4 X2)) w.heap.size (c4 X2) 155 ∧ Blk (W7.setRow w.heap.size (c4 X2)) (w.heap.size + 1) #[.int .u64 0, .int .u64 0, .int .u64 0, .int .u64 0] 155 ∧ Blk (W7.setRow w.heap.size (c4 X2)) p3_5 (c4 X2) 155 := ⟨(below_setRow (below_step bel hE bel.size) (by omega) _), (blk_setRow (blk_step k_t1 hE) (c4 X2)), (blk_setRow_other (blk_step k_t2 hE) (by omega) _), (blk_setRow_other (blk_step k_t3 hE) (by omega) _)⟩
 generalize (W7.setRow w.heap.size (c4 X2)) = W8 at hF ⊢
 clear bel k_t1 k_t2 k_t3
 obtain ⟨bel, k_t1, k_t2, k_t3⟩ := hF
 go_wp2_with fail
 rw [rounds_succ]
 go_upto_region 1 with fail
 have lt_t3_8 := blk_lt k_t3
 have gf := GF_ext hG bel
 have gm := gf.1
 clear gf
 have c_X3 := fsub_lo X2 (by rw [HX2.out, HX1.out]; exact hq)
 obtain ⟨X3, hX3⟩ := exn (dif4 X2 PP)
 rw [← hX3] at c_X3
 have HX3 := Lib.hid hX3
 clear hX3
 refine Px1 6 3 (z := #[.int .u64 0, .int .u64 0, .int .u64 0, .int .u64 0]) (t := 155) ?_
 refine XL ?_
 refine XL ?_
 refine Xf ?_ (fun W hW => c_X3 W)
 refine Xv ?_
 refine Xv ?_
 refine Xv ?_
 refine XN ?_
 intro p3_9 W9 n_t3_9 hE k_t3
 have sz_9 := bel.size
 skip
 refine LS ?_ k_t3 (g := p3_9) (cells := c4 X3)
 refine Lv ?_
 refine wpL_nil ?_
 have hF : Below w.heap.size w (W9.setRow p3_9 (c4 X3)) ∧ Blk (W9.setRow p3_9 (c4 X3)) w.heap.size (c4 X2) 155 ∧ Blk (W9.setRow p3_9 (c4 X3)) (w.heap.size + 1) #[.int .u64 0, .int .u64 0, .int .u64 0, .int .u64 0] 155 ∧ Blk (W9.setRow p3_9 (c4 X3)) p3_9 (c4 X3) 155 := ⟨(below_setRow (below_step bel hE bel.size) (by omega) _), (blk_setRow_other (blk_step k_t1 hE) (by omega) _), (blk_setRow_other (blk_step k_t2 hE) (by omega) _), (blk_setRow k_t3 (c4 X3))⟩
 generalize (W9.setRow p3_9 (c4 X3)) = W10 at hF ⊢
 clear bel k_t1 k_t2 k_t3
 obtain ⟨bel, k_t1, k_t2, k_t3⟩ := hF
 go_upto_region 3 with fail
 have lt_t3_10 := blk_lt k_t3
 have gf := GF_ext hG bel
 have gm := gf.1
 clear gf
 refine Px 1 ?_
 refine XL ?_
 refine wpX_nil fun W11 hE => ?_
 refine Lp ?_ (blk_step k_t2 hE) (cells := c4 X2)
 intro W12 hO h_
 refine wpL_nil ?_
 replace k_t1 := ko k_t1 hE hO (by omega)
 replace k_t2 := h_
 replace k_t3 := ko k_t3 hE hO (by omega)
 replace bel := bwo bel hE hO bel.size (by omega)
 clear hO h_
 go_wp2
 refine bodyPost_ret (res_row rfl rfl k_t2 (by kernel_rfl) (by kernel_rfl)) rfl ⟨?_, bel⟩
 rw [HX2.out, HX1.out]; rfl
theorem rest_c (X : Nat) (hX : X < P256) (w : World) (hG : GF w) : Calls Tryz.prog 166 #[L4 X] w fun e w' => Ret (L4 (X % PP)) w w' e := by
  by_cases h0 : X < PP
  · rw [Nat.mod_eq_of_lt h0]; exact rest_0 X hX h0 w hG
  · by_cases h1 : X - PP < PP
    · rw [← rest1 X (by omega) h1]; exact rest_1 X hX (by omega) h1 w hG
    · have h2 : X - PP - PP < PP := by have := PP_two; have : PP = 57896044618658097711785492504343953926634992332820282019728792003956564819949 := rfl; omega
      rw [← rest2 X (by omega) (by omega) h2]; exact rest_2 X hX (by omega) (by omega) h2 w hG
theorem small_c (n : Nat) (hn : n < 18446744073709551616) (w : World) :
  Calls Tryz.prog 171 #[.int .u64 (n : Int)] w fun e w' => Ret (L4 n) w w' e := by
 go_enter Tryz.func171, Tryz.ntmps171
 go_upto_region 1 with fail
 refine wn1 (c1 := #[.int .u64 0, .int .u64 0, .int .u64 0, .int .u64 0]) (t1 := 155) fun W0 bel k_t2 => ?_
 have lt_t2_0 := blk_lt k_t2
 refine Px 2 ?_
 refine Xv ?_
 refine Xv ?_
 refine wpX_nil fun W1 hE => ?_
 refine LS ?_ (blk_step k_t2 hE) (g := w.heap.size) (cells := #[.int .u64 (n : Int), .int .u64 0, .int .u64 0, .int .u64 0])
 refine wpL_nil ?_
 have hF : Below w.heap.size w (W1.setRow w.heap.size #[.int .u64 (n : Int), .int .u64 0, .int .u64 0, .int .u64 0]) ∧ Blk (W1.setRow w.heap.size #[.int .u64 (n : Int), .int .u64 0, .int .u64 0, .int .u64 0]) w.heap.size #[.int .u64 (n : Int), .int .u64 0, .int .u64 0, .int .u64 0] 155 := ⟨(below_setRow (below_step bel hE bel.size) (by omega) _), (blk_setRow (blk_step k_t2 hE) #[.int .u64 (n : Int), .int .u64 0, .int .u64 0, .int .u64 0])⟩
 generalize (W1.setRow w.heap.size #[.int .u64 (n : Int), .int .u64 0, .int .u64 0, .int .u64 0]) = W2 at hF ⊢
 clear bel k_t2
 obtain ⟨bel, k_t2⟩ := hF
 go_wp2
 refine bodyPost_ret (res_row rfl rfl k_t2 (by kernel_rfl) (by kernel_rfl)) rfl ⟨?_, bel⟩
 rw [L4_small n hn]
theorem moreV_lt (A n : Nat) (hA : A < P256) (hn : n < 18446744073709551616) : moreV A n < P256 := by unfold moreV P256 at *; split <;> omega
theorem moreV_mod (A n : Nat) : moreV A n % PP = (A + n) % PP := by
  unfold moreV
  split
  · rfl
  · rename_i h
    have e : A + n = A + n - P256 + 38 + PP + PP := by unfold P256 PP at *; omega
    conv => rhs; rw [e, Nat.add_mod_right, Nat.add_mod_right]
theorem more_c (A n : Nat) (hA : A < P256) (hn : n < 18446744073709551616) (w : World) : Calls Tryz.prog 168 #[L4 A, .int .u64 (n : Int)] w fun e w' => Ret (L4 (moreV A n)) w w' e := by
  unfold moreV
  by_cases h : A + n < P256
  · rw [if_pos h]; exact more_lo A n hA hn h w
  · rw [if_neg h]; exact more_hi A n hA hn (by omega) (by unfold P256 at *; omega) w
theorem add_mod (A B : Nat) (hA : A < P256) (hB : B < P256) : moreV ((A + B) % P256) (38 * ((A + B) / P256)) % PP = (A + B) % PP := by
  rw [moreV_mod]
  by_cases h : A + B < P256
  · rw [Nat.mod_eq_of_lt h, Nat.div_eq_of_lt h, Nat.mul_zero, Nat.add_zero]
  · have e1 : (A + B) % P256 = A + B - P256 := by rw [Nat.mod_eq_sub_mod (by omega), Nat.mod_eq_of_lt (by omega)]
    have e2 : (A + B) / P256 = 1 := Nat.div_eq_of_lt_le (by omega) (by omega)
    rw [e1, e2]
    conv => rhs; rw [show A + B = A + B - P256 + 38 * 1 + PP + PP by unfold P256 PP at *; omega, Nat.add_mod_right, Nat.add_mod_right]
theorem fadd_n (A B : Nat) (hA : A < P256) (hB : B < P256) (w : World) : Calls Tryz.prog 172 #[L4 A, L4 B] w fun e w' => Ret (.tuple #[L4 ((A + B) % P256), .int .u64 ((A + B) / P256 : Nat)]) w w' e := fadd_l A B hA hB w
theorem more_m (A o : Nat) (hA : A < P256) (ho : o ≤ 1) (w : World) : Calls Tryz.prog 168 #[L4 A, .int .u64 (IntKind.u64.wrap (38 * (o : Int)))] w fun e w' => Ret (L4 (moreV A (38 * o))) w w' e := by
  have : IntKind.u64.wrap (38 * (o : Int)) = ((38 * o : Nat) : Int) := by rw [IntKind.wrap_u64]; omega
  rw [this]; exact more_c A (38 * o) hA (by omega) w
theorem fsub_mod (X : Nat) (hX : X < PP) (w : World) : Calls Tryz.prog 173 #[.agg modC, L4 X] w fun e w' => Ret (.tuple #[L4 (PP - X), .int .u64 0]) w w' e := by
  have := fsub_l PP X PP_lt (Nat.lt_trans hX PP_lt) w
  rw [dif4_hi PP X PP_lt (Nat.lt_trans hX PP_lt) (by omega)] at this
  rw [modC_eq]
  unfold brw at this; rw [if_neg (by omega)] at this; exact this
theorem fAdd_c (A B : Nat) (hA : A < P256) (hB : B < P256) (w : World) (hG : GF w) :
  Calls Tryz.prog 150 #[L4 A, L4 B] w fun e w' => Ret (L4 ((A + B) % PP)) w w' e := by
 go_enter Tryz.func150, Tryz.ntmps150
 go_upto_region 1 with fail
 refine wn3 (c1 := (c4 A)) (t1 := 155) (c2 := (c4 B)) (t2 := 155) (c3 := #[.int .u64 0, .int .u64 0, .int .u64 0, .int .u64 0]) (t3 := 155) fun W0 bel k_t2 k_t3 k_t4 => ?_
 have lt_t2_0 := blk_lt k_t2
 have lt_t3_0 := blk_lt k_t3
 have lt_t4_0 := blk_lt k_t4
 have gf := GF_ext hG bel
 have gm := gf.1
 have gi := gf.2
 have c_1 := fadd_n A B hA hB
 obtain ⟨S, hS⟩ := exn ((A + B) % P256)
 obtain ⟨O, hO⟩ := exn ((A + B) / P256)
 rw [← hS, ← hO] at c_1
 have bS : S < P256 := by rw [hS]; exact Nat.mod_lt _ (by decide)
 have bO : O ≤ 1 := by rw [hO]; have : (A + B) / P256 < 2 := Nat.div_lt_of_lt_mul (by omega); omega
 have HS := Lib.hid hS
 have HO := Lib.hid hO
 clear hS hO
 refine Px1 6 5 (z := #[.int .u64 0, .int .u64 0, .int .u64 0, .int .u64 0]) (t := 155) ?_
 refine XL ?_
 refine XL ?_
 refine Xf ?_ (fun W hW => c_1 W)
 refine Xv ?_
 refine Xv ?_
 refine Xv ?_
 refine XN ?_
 intro p5_1 W1 n_t5_1 hE k_t5
 have sz_1 := bel.size
 skip
 refine LS ?_ k_t5 (g := p5_1) (cells := c4 S)
 refine Lv ?_
 refine wpL_nil ?_
 have hF : Below w.heap.size w (W1.setRow p5_1 (c4 S)) ∧ Blk (W1.setRow p5_1 (c4 S)) w.heap.size (c4 A) 155 ∧ Blk (W1.setRow p5_1 (c4 S)) (w.heap.size + 1) (c4 B) 155 ∧ Blk (W1.setRow p5_1 (c4 S)) (w.heap.size + 2) #[.int .u64 0, .int .u64 0, .int .u64 0, .int .u64 0] 155 ∧ Blk (W1.setRow p5_1 (c4 S)) p5_1 (c4 S) 155 := ⟨(below_setRow (below_step bel hE bel.size) (by omega) _), (blk_setRow_other (blk_step k_t2 hE) (by omega) _), (blk_setRow_other (blk_step k_t3 hE) (by omega) _), (blk_setRow_other (blk_step k_t4 hE) (by omega) _), (blk_setRow k_t5 (c4 S))⟩
 generalize (W1.setRow p5_1 (c4 S)) = W2 at hF ⊢
 clear bel k_t2 k_t3 k_t4 k_t5
 obtain ⟨bel, k_t2, k_t3, k_t4, k_t5⟩ := hF
 go_upto_region 2 with fail
 have lt_t5_2 := blk_lt k_t5
 have gf := GF_ext hG bel
 have gm := gf.1
 have gi := gf.2
 have c_X1 := more_m S O bS bO
 obtain ⟨X1, hX1⟩ := exn (moreV S (38 * O))
 rw [← hX1] at c_X1
 have bX1 : X1 < P256 := by rw [hX1]; exact moreV_lt _ _ bS (by omega)
 have HX1 := Lib.hid hX1
 clear hX1
 have c_X2 := rest_c X1 bX1
 obtain ⟨X2, hX2⟩ := exn (X1 % PP)
 rw [← hX2] at c_X2
 have bX2 := b256 hX2
 have HX2 := Lib.hid hX2
 clear hX2
 refine Px 5 ?_
 refine XL ?_
 refine Xv ?_
 refine Xv ?_
 refine Xf ?_ (fun W hW => c_X1 W)
 refine Xf ?_ (fun W hW => c_X2 W (GF_ext gf hW))
 refine wpX_nil fun W3 hE => ?_
 refine Lp ?_ (blk_step k_t4 hE) (cells := c4 X2)
 intro W4 hO h_
 refine wpL_nil ?_
 replace k_t2 := ko k_t2 hE hO (by omega)
 replace k_t3 := ko k_t3 hE hO (by omega)
 replace k_t4 := h_
 replace k_t5 := ko k_t5 hE hO (by omega)
 replace bel := bwo bel hE hO bel.size (by omega)
 clear hO h_
 go_wp2
 refine bodyPost_ret (res_row rfl rfl k_t4 (by kernel_rfl) (by kernel_rfl)) rfl ⟨?_, bel⟩
 rw [← add_mod A B hA hB, ← HS.out, ← HO.out, ← HX1.out, ← HX2.out]; rfl
theorem fNeg_c (A : Nat) (hA : A < P256) (w : World) (hG : GF w) :
  Calls Tryz.prog 152 #[L4 A] w fun e w' => Ret (L4 ((PP - A % PP) % PP)) w w' e := by
 go_enter Tryz.func152, Tryz.ntmps152
 go_upto_region 1 with fail
 refine wn2 (c1 := (c4 A)) (t1 := 155) (c2 := #[.int .u64 0, .int .u64 0, .int .u64 0, .int .u64 0]) (t2 := 155) fun W0 bel k_t1 k_t2 => ?_
 have lt_t1_0 := blk_lt k_t1
 have lt_t2_0 := blk_lt k_t2
 have gf := GF_ext hG bel
 have gm := gf.1
 have gi := gf.2
 have c_X1 := rest_c A hA
 obtain ⟨X1, hX1⟩ := exn (A % PP)
 rw [← hX1] at c_X1
 have bX1 := b256 hX1
 have HX1 := Lib.hid hX1
 clear hX1
 have c_X2 := fsub_mod X1 (by rw [HX1.out]; exact Nat.mod_lt _ (by decide))
 obtain ⟨X2, hX2⟩ := exn (PP - X1)
 rw [← hX2] at c_X2
 have bX2 : X2 < P256 := by rw [hX2]; exact Nat.lt_of_le_of_lt (Nat.sub_le _ _) PP_lt
 have HX2 := Lib.hid hX2
 clear hX2
 refine Rx1 7 3 (z := #[.int .u64 0, .int .u64 0, .int .u64 0, .int .u64 0]) (t := 155) ?_
 refine XL ?_
 refine XL ?_
 refine Xf ?_ (fun W hW => c_X1 W (GF_ext gf hW))
 refine Xf ?_ (fun W hW => c_X2 W)
 refine Xv ?_
 refine Xv ?_
 refine Xv ?_
 refine XN ?_
 intro p3_1 W1 n_t3_1 hE k_t3
 have sz_1 := bel.size
 skip
 refine LS ?_ k_t3 (g := p3_1) (cells := c4 X2)
 refine Lv ?_
 refine LN ?_
 have hF : Below w.heap.size w (W1.setRow p3_1 (c4 X2)) ∧ Blk (W1.setRow p3_1 (c4 X2)) w.heap.size (c4 A) 155 ∧ Blk (W1.setRow p3_1 (c4 X2)) (w.heap.size + 1) #[.int .u64 0, .int .u64 0, .int .u64 0, .int .u64 0] 155 ∧ Blk (W1.setRow p3_1 (c4 X2)) p3_1 (c4 X2) 155 := ⟨(below_setRow (below_step bel hE bel.size) (by omega) _), (blk_setRow_other (blk_step k_t1 hE) (by omega) _), (blk_setRow_other (blk_step k_t2 hE) (by omega) _), (blk_setRow k_t3 (c4 X2))⟩
 generalize (W1.setRow p3_1 (c4 X2)) = W2 at hF ⊢
 clear bel k_t1 k_t2 k_t3
 obtain ⟨bel, k_t1, k_t2, k_t3⟩ := hF
 go_upto_region 2 with fail
 have lt_t3_2 := blk_lt k_t3
 have gf := GF_ext hG bel
 have gm := gf.1
 have gi := gf.2
 have c_X3 := rest_c X2 bX2
 obtain ⟨X3, hX3⟩ := exn (X2 % PP)
 rw [← hX3] at c_X3
 have bX3 := b256 hX3
 have HX3 := Lib.hid hX3
 clear hX3
 refine Px 2 ?_
 refine XL ?_
 refine Xf ?_ (fun W hW => c_X3 W (GF_ext gf hW))
 refine wpX_nil fun W3 hE => ?_
 refine Lp ?_ (blk_step k_t2 hE) (cells := c4 X3)
 intro W4 hO h_
 refine wpL_nil ?_
 replace k_t1 := ko k_t1 hE hO (by omega)
 replace k_t2 := h_
 replace k_t3 := ko k_t3 hE hO (by omega)
 replace bel := bwo bel hE hO bel.size (by omega)
 clear hO h_
 go_wp2
 refine bodyPost_ret (res_row rfl rfl k_t2 (by kernel_rfl) (by kernel_rfl)) rfl ⟨?_, bel⟩
 rw [HX3.out, HX2.out, HX1.out]; rfl
end Go.Proofs.YtejkmhgkkibafaaGreatDoor.S8

namespace Go.Proofs.YtejkmhgkkibafaaGreatDoor.S8
set_option maxHeartbeats 4000000
set_option maxRecDepth 100000
open Go.RowKit

theorem c4_get (V i : Nat) (h : i < 4) : (c4 V)[i]? = some (.int .u64 (lim V i)) := by
  have : i = 0 ∨ i = 1 ∨ i = 2 ∨ i = 3 := by omega
  rcases this with rfl | rfl | rfl | rfl <;> rfl

theorem mul_row (i k : Nat) (x y g c s cv : Int) (V V' Y Y' X B0 : Nat) (hx : u64ok x) (hy : u64ok y) (hg : u64ok g) (hc : u64ok c) (hs : u64ok s) (hcv : u64ok cv)
    (h5 : s + 18446744073709551616 * cv = x * y + g + c) (h1 : V' + g.toNat * 2 ^ (64 * (i + k)) = V + s.toNat * 2 ^ (64 * (i + k)))
    (h2 : V + c.toNat * 2 ^ (64 * (i + k)) = X + x.toNat * 2 ^ (64 * i) * Y) (hY : Y' = Y + y.toNat * 2 ^ (64 * k)) :
    V' + cv.toNat * 2 ^ (64 * (i + (k + 1))) = X + x.toNat * 2 ^ (64 * i) * Y' := by
  obtain ⟨x, rfl⟩ := Int.eq_ofNat_of_zero_le hx.1
  obtain ⟨y, rfl⟩ := Int.eq_ofNat_of_zero_le hy.1
  obtain ⟨g, rfl⟩ := Int.eq_ofNat_of_zero_le hg.1
  obtain ⟨c, rfl⟩ := Int.eq_ofNat_of_zero_le hc.1
  obtain ⟨s, rfl⟩ := Int.eq_ofNat_of_zero_le hs.1
  obtain ⟨d, rfl⟩ := Int.eq_ofNat_of_zero_le hcv.1
  simp only [Int.toNat_natCast] at *
  have h6 : s + 18446744073709551616 * d = x * y + g + c := by
    rw [← Int.natCast_mul] at h5
    generalize x * y = p at *
    omega
  have e1 : (2 : Nat) ^ (64 * (i + (k + 1))) = 18446744073709551616 * 2 ^ (64 * (i + k)) := by
    rw [show 64 * (i + (k + 1)) = 64 + 64 * (i + k) by omega, Nat.pow_add]
  have e2 : (2 : Nat) ^ (64 * (i + k)) = 2 ^ (64 * i) * 2 ^ (64 * k) := by rw [Nat.mul_add, Nat.pow_add]
  rw [hY, e1, Nat.mul_add (x * 2 ^ (64 * i))]
  have e3 : x * 2 ^ (64 * i) * (y * 2 ^ (64 * k)) = x * y * 2 ^ (64 * (i + k)) := by rw [e2, Nat.mul_mul_mul_comm]
  rw [e3]
  generalize 2 ^ (64 * (i + k)) = W at *
  have e4 : d * (18446744073709551616 * W) = 18446744073709551616 * d * W := by rw [Nat.mul_left_comm, Nat.mul_assoc]
  rw [e4]
  have h7 : s * W + 18446744073709551616 * d * W = x * y * W + g * W + c * W := by
    rw [← Nat.add_mul, h6, Nat.add_mul, Nat.add_mul]
  omega

theorem row_end (B V' V C X Y W : Nat) {g : Int} (hB : B < P256) (hg : g = 0) (h1 : V' + g.toNat * W = V + C) (h2 : V + C = X + Y * (B % 2 ^ (64 * 4))) : V' = X + Y * B := by
  rw [Nat.mod_eq_of_lt (show B < 2 ^ (64 * 4) from hB)] at h2
  rw [hg, Int.toNat_zero, Nat.zero_mul, Nat.add_zero] at h1
  rw [h1, h2]

theorem product_c (A B : Nat) (hA : A < P256) (hB : B < P256) (w : World) :
    Calls Tryz.prog 167 #[L4 A, L4 B] w fun e w' => Ret (.agg (arrK .u64 8 (lim (A * B)))) w w' e := by
  go_enter Tryz.func167, Tryz.ntmps167
  go_wp2
  go_loopw [16] (fun ii wr => ∃ i : Nat, i ≤ 4 ∧ ii = .int .i64 i ∧ Below w.heap.size w wr ∧
      Blk wr (w.heap.size + 1) (c4 B) 155 ∧ Blk wr (w.heap.size + 2) (arrK .u64 8 (fun _ => 0)) 186 ∧
      ∃ f : Nat → Int, Blk wr (w.heap.size + 3) (arrK .u64 8 f) 186 ∧ (∀ j, u64ok (f j)) ∧ (∀ j, i + 4 ≤ j → f j = 0) ∧ wval f 8 = A % 2 ^ (64 * i) * B)
    (fun ii _ => (4 - intOf ii).toNat)
  case atStart =>
    refine ⟨0, by omega, rfl, ?_, blk_alloc (blk_alloc (blk_new _ _ (by simp)) _) _, blk_alloc (blk_new _ _ (by simp)) _, fun _ => 0, blk_new _ _ (by simp), fun _ => ⟨by simp, by simp⟩, fun _ _ => rfl, ?_⟩
    · exact bz
    · rw [wval_zero, Nat.mul_zero, Nat.pow_zero, Nat.mod_one, Nat.zero_mul]
  case round =>
    obtain ⟨i, hi, rfl, hbel, b1, b2, f, b3, hf, hf0, hv⟩ := hrel
    by_cases hi4 : i = 4
    · subst hi4
      have HV := Lib.hid hv
      clear hv hf0
      go_wp2_with (first
        | (refine wpList_load_row rfl 186 (.tmp 5) rfl (w.heap.size + 3) rfl _ _ _ _ b3 Tryz.underlying186 rfl (by kernel_rfl) ?_)
        | (refine wpList_store_row rfl 186 (.tmp 4) (.tmp 65) rfl (w.heap.size + 2) _ rfl rfl 186 _ b2 (by kernel_rfl) (by kernel_rfl) (arrK_one _ _ _) ?_))
      refine bodyPost_ret (results_cell_row rfl _ _ (w.heap.size + 2) _ _ _ _ rfl (blk_setRow b2 _) Tryz.underlying186 rfl (by kernel_rfl)) rfl ⟨?_, below_setRow hbel (by omega) _⟩
      have e : arrK .u64 8 f = arrK .u64 8 (lim (A * B)) := arrK_congr _ _ _ _ fun j hj => by
        have := lim_wval f 8 j hj (fun i _ => hf i)
        rw [← this, HV.out, Nat.mod_eq_of_lt (show A < 2 ^ (64 * 4) from hA)]
      rw [e]
    · have hi3 : i < 4 := by omega
      have hi3' : (i : Int) < 4 := by omega
      have hix : ∀ W, (Instr.index 155 (.agg #[.int .u64 (lim A 0), .int .u64 (lim A 1), .int .u64 (lim A 2), .int .u64 (lim A 3)]) (.int .i64 (i : Int))).run Tryz.prog W = .ok (.int .u64 (lim A i)) W :=
        fun W => run_index_arr W 155 71 4 .u64 .i64 (c4 A) i (lim A i) Tryz.underlying155 Tryz.underlying71 (by kernel_rfl) hi3 (c4_get A i hi3)
      have c1 := blk_cell b1
      clear hi4
      go_wp2
      clear c1
      have HF0 := Lib.hid hf0
      have HV := Lib.hid hv
      clear hf0 hv hix hi3'
      obtain ⟨wo, rfl⟩ : ∃ wo : World, wo = wr := ⟨_, rfl⟩
      go_loopw [8, 21] (fun cc kk wq => ∃ (k : Nat) (c : Int), k ≤ 4 ∧ kk = .int .i64 k ∧ cc = .int .u64 c ∧ u64ok c ∧ Below w.heap.size w wq ∧
          Blk wq (w.heap.size + 1) (c4 B) 155 ∧ Blk wq (w.heap.size + 2) (arrK .u64 8 (fun _ => 0)) 186 ∧
          ∃ g : Nat → Int, Blk wq (w.heap.size + 3) (arrK .u64 8 g) 186 ∧ (∀ j, u64ok (g j)) ∧ (∀ j, i + 4 ≤ j → g j = 0) ∧
            wval g 8 + c.toNat * 2 ^ (64 * (i + k)) = A % 2 ^ (64 * i) * B + (lim A i).toNat * 2 ^ (64 * i) * (B % 2 ^ (64 * k)))
        (fun _ kk _ => (4 - intOf kk).toNat)
      case atStart =>
        refine ⟨0, 0, by omega, rfl, rfl, ⟨by omega, by omega⟩, hbel, b1, b2, f, b3, hf, HF0.out, ?_⟩
        rw [HV.out, Nat.mul_zero, Nat.pow_zero, Nat.mod_one]; simp
      case round =>
        obtain ⟨k, c, hk, rfl, rfl, hc, hbel, b1, b2, g, b3, hg, hg0, hv⟩ := hrel
        have HG0 := Lib.hid hg0
        have HV := Lib.hid hv
        clear hg0 hv HF0
        by_cases hk4 : k = 4
        · subst hk4
          have c3 := (blk_cell b3 (i + 4)).trans (arrK_get _ _ _ _ (by omega))
          have f3 := blk_free b3
          have hi8 : (i : Int) + 4 < 8 := by omega
          go_wp2
          have hs := blk_set b3 (i + 4) (.int .u64 c)
          rw [arrK_set] at hs
          go_roundw
          case rel =>
            refine ⟨i + 1, by omega, by go_num, ?_, blk_other b1 (by omega) _ _, blk_other b2 (by omega) _ _, upd g (i + 4) c, hs, ?_, ?_, ?_⟩
            · exact bz
            · intro j
              by_cases hj : j = i + 4
              · subst hj; rw [upd_same]; exact hc
              · rw [upd_other _ _ _ _ hj]; exact hg j
            · intro j hj
              rw [upd_other _ _ _ _ (by omega)]
              exact HG0.out j (by omega)
            · rw [mod_step, Nat.add_mul]
              exact row_end B _ _ _ _ _ _ hB (HG0.out (i + 4) (by omega)) (wval_upd g (i + 4) c 8 (by omega)) HV.out
          case measure => simp [intOf]; omega
        · have hk3 : k < 4 := by omega
          have hk3' : (k : Int) < 4 := by omega
          clear hk4
          have hix : ∀ W, (Instr.index 155 (.agg #[.int .u64 (lim B 0), .int .u64 (lim B 1), .int .u64 (lim B 2), .int .u64 (lim B 3)]) (.int .i64 (k : Int))).run Tryz.prog W = .ok (.int .u64 (lim B k)) W :=
            fun W => run_index_arr W 155 71 4 .u64 .i64 (c4 B) k (lim B k) Tryz.underlying155 Tryz.underlying71 (by kernel_rfl) hk3 (c4_get B k hk3)
          obtain ⟨m1, m2, m3, m4, m5⟩ := mul_step (lim A i) (lim B k) (g (i + k)) c (lim_ok A i) (lim_ok B k) (hg _) hc
          have a1 := add64_run (mulL (lim A i) (lim B k)) (g (i + k)) 0 m1 (hg _) (by omega) (by omega)
          have a2 := add64_run (adS (mulL (lim A i) (lim B k)) (g (i + k)) 0) c 0 m2 hc (by omega) (by omega)
          obtain ⟨sv, hsv⟩ : ∃ sv, sv = adS (adS (mulL (lim A i) (lim B k)) (g (i + k)) 0) c 0 := ⟨_, rfl⟩
          rw [← hsv] at m4 m5 a2
          have M5 := Lib.hid m5
          clear m5 hsv
          have c3 := (blk_cell b3 (i + k)).trans (arrK_get _ _ _ _ (by omega))
          have f3 := blk_free b3
          have hi8 : (i : Int) + (k : Int) < 8 := by omega
          go_wp2_with (go_at_call 141; refine (mul64_c _ _ (lim_ok A i) (lim_ok B k) _).mono ?_; rintro e w' ⟨rfl, rfl⟩)
          have hs := blk_set b3 (i + k) (.int .u64 sv)
          rw [arrK_set] at hs
          have h1 := wval_upd g (i + k) sv 8 (by omega)
          have h2 := HV.out
          have h5 := M5.out
          clear HV M5 a1 a2 c3 f3 hix
          go_roundw
          case rel =>
            (repeat apply Exists.intro)
            refine ⟨?_, rfl⟩
            refine ⟨k + 1, _, by omega, by go_num, rfl, m3, ?_, blk_other b1 (by omega) _ _, blk_other b2 (by omega) _ _, upd g (i + k) sv, hs, ?_, ?_, ?_⟩
            · exact bz
            · intro j
              by_cases hj : j = i + k
              · subst hj; rw [upd_same]; exact m4
              · rw [upd_other _ _ _ _ hj]; exact hg j
            · intro j hj
              rw [upd_other _ _ _ _ (by omega)]
              exact HG0.out j hj
            · exact mul_row i k (lim A i) (lim B k) (g (i + k)) c sv _ _ _ _ _ _ 0 (lim_ok A i) (lim_ok B k) (hg _) hc m4 m3 h5 h1 h2 (mod_step B k)
          case measure => simp [intOf]; omega
end Go.Proofs.YtejkmhgkkibafaaGreatDoor.S8

namespace Go.Proofs.YtejkmhgkkibafaaGreatDoor.S8
set_option maxHeartbeats 4000000
set_option maxRecDepth 100000
open Go.RowKit

/-- one part more of the sum of the lower half and 38 times the upper half -/
theorem mul_part (i : Nat) (N V V' : Nat) (g s c cv : Int) (hg : u64ok g) (hs : u64ok s) (hc : u64ok c) (hcv : u64ok cv)
    (h5 : s + 18446744073709551616 * cv = lim N (4 + i) * 38 + lim N i + c) (h1 : V' + g.toNat * 2 ^ (64 * i) = V + s.toNat * 2 ^ (64 * i)) (hg0 : g = 0)
    (h2 : V + c.toNat * 2 ^ (64 * i) = N % 2 ^ (64 * i) + 38 * (N / 2 ^ 256 % 2 ^ (64 * i))) :
    V' + cv.toNat * 2 ^ (64 * (i + 1)) = N % 2 ^ (64 * (i + 1)) + 38 * (N / 2 ^ 256 % 2 ^ (64 * (i + 1))) := by
  have e4 : lim N (4 + i) = lim (N / 2 ^ 256) i := by
    unfold lim; rw [Nat.div_div_eq_div_mul, ← Nat.pow_add, show 64 * (4 + i) = 256 + 64 * i by omega]
  rw [e4] at h5
  rw [mod_step N, mod_step (N / 2 ^ 256)]
  have l1 := lim_ok N i
  have l2 := lim_ok (N / 2 ^ 256) i
  obtain ⟨x, hx⟩ := Int.eq_ofNat_of_zero_le l1.1
  obtain ⟨y, hy⟩ := Int.eq_ofNat_of_zero_le l2.1
  obtain ⟨s, rfl⟩ := Int.eq_ofNat_of_zero_le hs.1
  obtain ⟨c, rfl⟩ := Int.eq_ofNat_of_zero_le hc.1
  obtain ⟨d, rfl⟩ := Int.eq_ofNat_of_zero_le hcv.1
  subst hg0
  rw [hx, hy] at *
  simp only [Int.toNat_natCast, Int.toNat_zero, Nat.zero_mul, Nat.add_zero] at *
  have h6 : s + 18446744073709551616 * d = y * 38 + x + c := by omega
  have e1 : (2 : Nat) ^ (64 * (i + 1)) = 18446744073709551616 * 2 ^ (64 * i) := by rw [show 64 * (i + 1) = 64 + 64 * i by omega, Nat.pow_add]
  rw [e1]
  generalize N % 2 ^ (64 * i) = n0 at *
  generalize N / 2 ^ 256 % 2 ^ (64 * i) = n1 at *
  generalize 2 ^ (64 * i) = W at *
  have e5 : d * (18446744073709551616 * W) = 18446744073709551616 * d * W := by rw [Nat.mul_left_comm, Nat.mul_assoc]
  have h7 : s * W + 18446744073709551616 * d * W = y * 38 * W + x * W + c * W := by
    rw [← Nat.add_mul, h6, Nat.add_mul, Nat.add_mul]
  have e6 : y * 38 * W = 38 * (y * W) := by rw [Nat.mul_comm y 38, Nat.mul_assoc]
  rw [e5, Nat.mul_add]
  generalize y * W = yw at *
  omega
theorem mul_fin (A B S c : Nat) (hA : A < P256) (hB : B < P256) (h : S + c * 2 ^ (64 * 4) = A * B % 2 ^ (64 * 4) + 38 * (A * B / 2 ^ 256 % 2 ^ (64 * 4))) : moreV S (38 * c) % PP = A * B % PP := by
  have hN : A * B / 2 ^ 256 < P256 := Nat.div_lt_of_lt_mul (Nat.mul_lt_mul'' hA hB)
  have e : (2 : Nat) ^ (64 * 4) = P256 := by decide
  have e' : (2 : Nat) ^ 256 = P256 := by decide
  rw [show (2 : Nat) ^ (64 * 4) = 2 ^ 256 by decide] at h
  rw [e'] at h hN
  rw [Nat.mod_eq_of_lt hN] at h
  rw [moreV_mod]
  have hd := Nat.div_add_mod (A * B) P256
  generalize A * B / P256 = q at *
  generalize A * B % P256 = r at *
  generalize A * B = N at *
  have h2 : P256 = 2 * PP + 38 := PP_two.symm
  have key : S + 38 * c + PP * (2 * c) = r + 38 * q := by
    have : PP * (2 * c) = c * (2 * PP) := by rw [Nat.mul_left_comm, Nat.mul_comm PP c, Nat.mul_left_comm]
    rw [h2, Nat.mul_add] at h
    omega
  have key2 : N = r + 38 * q + PP * (2 * q) := by
    have : PP * (2 * q) = 2 * PP * q := by rw [Nat.mul_left_comm, Nat.mul_assoc]
    rw [← hd, h2, Nat.add_mul]; omega
  rw [key2, ← key, Nat.add_mul_mod_self_left, Nat.add_mul_mod_self_left]

theorem mul_top (S O N : Nat) (h : S + O * 2 ^ (64 * 4) = N % 2 ^ (64 * 4) + 38 * (N / 2 ^ 256 % 2 ^ (64 * 4))) : O ≤ 38 := by
  have h1 : N % 2 ^ (64 * 4) < P256 := Nat.mod_lt _ (by decide)
  have h2 : N / 2 ^ 256 % 2 ^ (64 * 4) < P256 := Nat.mod_lt _ (by decide)
  rw [show (2 : Nat) ^ (64 * 4) = P256 by decide] at *
  unfold P256 at *; omega
theorem arrK4 (f : Nat → Int) : arrK .u64 4 f = #[.int .u64 (f 0), .int .u64 (f 1), .int .u64 (f 2), .int .u64 (f 3)] := rfl
theorem arrK_L4 (f : Nat → Int) (hf : ∀ j, u64ok (f j)) : Value.agg (arrK .u64 4 f) = L4 (wval f 4) := by
  rw [arrK4]; unfold L4
  rw [lim_wval f 4 0 (by omega) (fun i _ => hf i), lim_wval f 4 1 (by omega) (fun i _ => hf i), lim_wval f 4 2 (by omega) (fun i _ => hf i), lim_wval f 4 3 (by omega) (fun i _ => hf i)]
theorem more_m38 (f : Nat → Int) (S o : Nat) (hS : S = wval f 4) (hf : ∀ j, u64ok (f j)) (hA : S < P256) (ho : o ≤ 38) (w : World) : Calls Tryz.prog 168 #[.agg (arrK .u64 4 f), .int .u64 (IntKind.u64.wrap (38 * (o : Int)))] w fun e w' => Ret (L4 (moreV S (38 * o))) w w' e := by
  have : IntKind.u64.wrap (38 * (o : Int)) = ((38 * o : Nat) : Int) := by rw [IntKind.wrap_u64]; omega
  rw [this, arrK_L4 f hf, ← hS]; exact more_c S (38 * o) hA (by omega) w
theorem fMul_c (A B : Nat) (hA : A < P256) (hB : B < P256) (w : World) (hG : GF w) :
  Calls Tryz.prog 136 #[L4 A, L4 B] w fun e w' => Ret (L4 (A * B % PP)) w w' e := by
 go_enter Tryz.func136, Tryz.ntmps136
 go_upto_region 1 with fail
 refine wn3 (c1 := (c4 A)) (t1 := 155) (c2 := (c4 B)) (t2 := 155) (c3 := #[.int .u64 0, .int .u64 0, .int .u64 0, .int .u64 0]) (t3 := 155) fun W0 bel k_t2 k_t3 k_t4 => ?_
 have lt_t2_0 := blk_lt k_t2
 have lt_t3_0 := blk_lt k_t3
 have lt_t4_0 := blk_lt k_t4
 have gf := GF_ext hG bel
 have gm := gf.1
 have gi := gf.2
 have c_p := product_c A B hA hB
 obtain ⟨N, hN⟩ := exn (A * B)
 rw [← hN] at c_p
 have HN := Lib.hid hN
 clear hN
 refine Px1 3 5 (z := arrK .u64 8 (fun _ => 0)) (t := 186) ?_
 refine XL ?_
 refine XL ?_
 refine Xf ?_ (fun W hW => c_p W)
 refine XN ?_
 intro p5_1 W1 n_t5_1 hE k_t5
 have sz_1 := bel.size
 skip
 refine Lp ?_ k_t5 (cells := arrK .u64 8 (lim N)) (h1 := (arrK_one _ _ _))
 intro W2 hO h_
 refine wpL_nil ?_
 replace k_t2 := ko k_t2 hE hO (by omega)
 replace k_t3 := ko k_t3 hE hO (by omega)
 replace k_t4 := ko k_t4 hE hO (by omega)
 replace k_t5 := h_
 replace bel := bwo bel hE hO bel.size (by omega)
 clear hO h_
 go_upto_region 2 with fail
 have lt_t5_2 := blk_lt k_t5
 have gf := GF_ext hG bel
 have gm := gf.1
 have gi := gf.2
 refine Px1 0 6 (z := #[.int .u64 0, .int .u64 0, .int .u64 0, .int .u64 0]) (t := 155) ?_
 refine XN ?_
 intro p6_3 W3 n_t6_3 hE k_t6
 have sz_3 := bel.size
 skip
 refine wpL_nil ?_
 have hF : Below w.heap.size w W3 ∧ Blk W3 w.heap.size (c4 A) 155 ∧ Blk W3 (w.heap.size + 1) (c4 B) 155 ∧ Blk W3 (w.heap.size + 2) #[.int .u64 0, .int .u64 0, .int .u64 0, .int .u64 0] 155 ∧ Blk W3 p5_1 (arrK .u64 8 (lim N)) 186 ∧ Blk W3 p6_3 #[.int .u64 0, .int .u64 0, .int .u64 0, .int .u64 0] 155 := ⟨(below_step bel hE bel.size), (blk_step k_t2 hE), (blk_step k_t3 hE), (blk_step k_t4 hE), (blk_step k_t5 hE), k_t6⟩
 clear bel k_t2 k_t3 k_t4 k_t5 k_t6
 obtain ⟨bel, k_t2, k_t3, k_t4, k_t5, k_t6⟩ := hF
 have lt_t6_3 := blk_lt k_t6
 go_wp2_with fail
 go_loopw [7, 16] (fun cc ii wr => ∃ (i : Nat) (c : Int) (f : Nat → Int), i ≤ 4 ∧ ii = .int .i64 i ∧ cc = .int .u64 c ∧ u64ok c ∧ (∀ j, u64ok (f j)) ∧ (∀ j, i ≤ j → f j = 0) ∧ wval f 4 + c.toNat * 2 ^ (64 * i) = N % 2 ^ (64 * i) + 38 * (N / 2 ^ 256 % 2 ^ (64 * i)) ∧ Below w.heap.size w wr ∧ Blk wr w.heap.size (c4 A) 155 ∧ Blk wr (w.heap.size + 1) (c4 B) 155 ∧ Blk wr (w.heap.size + 2) #[.int .u64 0, .int .u64 0, .int .u64 0, .int .u64 0] 155 ∧ Blk wr p5_1 (arrK .u64 8 (lim N)) 186 ∧ Blk wr p6_3 (arrK .u64 4 f) 155)
  (fun cc ii _ => (4 - intOf ii).toNat)
 case atStart =>
  refine ⟨0, 0, fun _ => 0, by omega, rfl, rfl, ⟨by omega, by omega⟩, fun _ => ⟨by simp, by simp⟩, fun _ _ => rfl, ?_, bel, k_t2, k_t3, k_t4, k_t5, k_t6⟩
  rw [wval_zero, Nat.mul_zero, Nat.pow_zero, Nat.mod_one, Nat.mod_one]; rfl
 case round =>
  obtain ⟨i, c, f, hi, rfl, rfl, hc, hf, hf0, hv, bel, k_t2, k_t3, k_t4, k_t5, k_t6⟩ := hrel
  have HV := Lib.hid hv
  have HF0 := Lib.hid hf0
  clear hv hf0
  by_cases hexit : i = 4
  ·
   have _hx := hexit
   subst hexit
   go_upto_region 14 with fail
   have lt_t2_4 := blk_lt k_t2
   have lt_t3_4 := blk_lt k_t3
   have lt_t4_4 := blk_lt k_t4
   have lt_t5_4 := blk_lt k_t5
   have lt_t6_4 := blk_lt k_t6
   have gf := GF_ext hG bel
   have gm := gf.1
   have gi := gf.2
   obtain ⟨S, hS⟩ := exn (wval f 4)
   have bS : S < P256 := by rw [hS]; exact wval_lt f 4 (fun j _ => hf j)
   obtain ⟨O, rfl⟩ := Int.eq_ofNat_of_zero_le hc.1
   have hw := HV.out
   rw [← hS, Int.toNat_natCast] at hw
   have bO : O ≤ 38 := mul_top _ _ _ hw
   have c_X1 := more_m38 f S O hS (fun j => hf j) bS bO
   obtain ⟨X1, hX1⟩ := exn (moreV S (38 * O))
   rw [← hX1] at c_X1
   have bX1 : X1 < P256 := by rw [hX1]; exact moreV_lt _ _ bS (by omega)
   have HX1 := Lib.hid hX1
   clear hX1
   have c_X2 := rest_c X1 bX1
   obtain ⟨X2, hX2⟩ := exn (X1 % PP)
   rw [← hX2] at c_X2
   have bX2 := b256 hX2
   have HX2 := Lib.hid hX2
   clear hX2
   refine Px 5 ?_
   refine XL ?_
   refine Xv ?_
   refine Xv ?_
   refine Xf ?_ (fun W hW => c_X1 W)
   refine Xf ?_ (fun W hW => c_X2 W (GF_ext gf hW))
   refine wpX_nil fun W5 hE => ?_
   refine Lp ?_ (blk_step k_t4 hE) (cells := c4 X2)
   intro W6 hO h_
   refine wpL_nil ?_
   replace k_t2 := ko k_t2 hE hO (by omega)
   replace k_t3 := ko k_t3 hE hO (by omega)
   replace k_t4 := h_
   replace k_t5 := ko k_t5 hE hO (by omega)
   replace k_t6 := ko k_t6 hE hO (by omega)
   replace bel := bwo bel hE hO bel.size (by omega)
   clear hO h_
   go_wp2
   refine bodyPost_ret (res_row rfl rfl k_t4 (by kernel_rfl) (by kernel_rfl)) rfl ⟨?_, bel⟩
   rw [HX2.out, HX1.out, mul_fin A B S O hA hB (by rw [← HN.out]; exact hw)]; rfl
  ·
   have hi3 : i < 4 := by omega
   have hi3' : (i : Int) < 4 := by omega
   have hi8 : 4 + (i : Int) < 8 := by omega
   have hi8' : (i : Int) < 8 := by omega
   clear hexit
   obtain ⟨m1, m2, m3, m4, m5⟩ := mul_step (lim N (4 + i)) 38 (lim N i) c (lim_ok N _) (by unfold u64ok; omega) (lim_ok N i) hc
   have a1 := add64_run (mulL (lim N (4 + i)) 38) (lim N i) 0 m1 (lim_ok N i) (by omega) (by omega)
   have a2 := add64_run (adS (mulL (lim N (4 + i)) 38) (lim N i) 0) c 0 m2 hc (by omega) (by omega)
   obtain ⟨sv, hsv⟩ : ∃ sv, sv = adS (adS (mulL (lim N (4 + i)) 38) (lim N i) 0) c 0 := ⟨_, rfl⟩
   rw [← hsv] at m4 m5 a2
   have M5 := Lib.hid m5
   clear m5 hsv
   have c5 := (blk_cell k_t5 (4 + i)).trans (arrK_get _ _ _ _ (by omega))
   have c5' := (blk_cell k_t5 i).trans (arrK_get _ _ _ _ (by omega))
   have c6 := (blk_cell k_t6 i).trans (arrK_get _ _ _ _ hi3)
   have f6 := blk_free k_t6
   go_wp2_with (go_at_call 141; refine (mul64_c _ _ (lim_ok N (4 + i)) (by unfold u64ok; omega) _).mono ?_; rintro e w' ⟨rfl, rfl⟩)
   have hs := blk_set k_t6 i (.int .u64 sv)
   rw [arrK_set] at hs
   have h1 := wval_upd f i sv 4 hi3
   have h2 := HV.out
   have h5 := M5.out
   clear HV M5 a1 a2 c5 c5' c6 f6
   go_roundw
   case rel =>
    (repeat apply Exists.intro)
    refine ⟨?_, rfl⟩
    refine ⟨i + 1, _, upd f i sv, by omega, by go_num, rfl, m3, ?_, ?_, mul_part i N _ _ (f i) sv c _ (hf i) m4 hc m3 h5 h1 (HF0.out i (Nat.le_refl i)) h2, ?_, ?_, ?_, ?_, ?_, hs⟩
    ·
     intro j
     by_cases hj : j = i
     ·
      subst hj; rw [upd_same]; exact m4
     ·
      rw [upd_other _ _ _ _ hj]; exact hf j
    ·
     intro j hj
     rw [upd_other _ _ _ _ (by omega)]
     exact HF0.out j (by omega)
    ·
     exact below_set bel (by omega) _ _
    ·
     exact blk_other k_t2 (by omega) _ _
    ·
     exact blk_other k_t3 (by omega) _ _
    ·
     exact blk_other k_t4 (by omega) _ _
    ·
     exact blk_other k_t5 (by omega) _ _
   case measure => simp [intOf]; omega
end Go.Proofs.YtejkmhgkkibafaaGreatDoor.S8
