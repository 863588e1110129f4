/- field.Elem.more and field.Rest. Conditions: the cells of field.modulus hold the modulus. -/
import Derived.Test.YtghajiagbfcmdaaDoorFeA
import Derived.Test.YtghajiagbfcmdaaDoorGb
namespace Go.Proofs.YtghajiagbfcmdaaDoor
set_option linter.unusedSimpArgs false
set_option linter.unusedVariables false
open Go.RowKit

/-- the field's order -/
def PP : Nat := 57896044618658097711785492504343953926634992332820282019728792003956564819949
theorem PP_lt : PP < P256 := by decide +kernel
theorem PP_two : 2 * PP + 38 = P256 := by decide +kernel
@[go_sem] def c4 (V : Nat) : Array Value := #[.int .u64 (lim V 0), .int .u64 (lim V 1), .int .u64 (lim V 2), .int .u64 (lim V 3)]
theorem mod_256 (n : Nat) : n % PP < P256 := Nat.lt_trans (Nat.mod_lt _ (by decide)) PP_lt
/-- the cells of the two package variables -/
def modC : Array Value := #[.int .u64 18446744073709551597, .int .u64 18446744073709551615, .int .u64 18446744073709551615, .int .u64 9223372036854775807]
def imaC : Array Value := #[.int .u64 14190309331451158704, .int .u64 3405592160176694392, .int .u64 3120150775007532967, .int .u64 3135389899092516619]
def GF (w : World) : Prop := Rd w 4 modC ∧ True
/-- the root of -1 reads so -/
def GI (w : World) : Prop := Rd w 5 imaC
theorem GF_ext {w W : World} (h : GF w) (e : Ext w W) : GF W := ⟨h.1.ext e, trivial⟩
theorem L4_small (n : Nat) (hn : n < 18446744073709551616) : L4 n = .agg #[.int .u64 (n : Int), .int .u64 0, .int .u64 0, .int .u64 0] := by
  have h0 : lim n 0 = (n : Int) := by unfold lim; simp only [Nat.mul_zero, Nat.pow_zero, Nat.div_one]; omega
  have h1 : lim n 1 = 0 := by unfold lim; rw [Nat.div_eq_of_lt (by simp only [Nat.reduceMul, Nat.reducePow]; omega)]; rfl
  have h2 : lim n 2 = 0 := by unfold lim; rw [Nat.div_eq_of_lt (by simp only [Nat.reduceMul, Nat.reducePow]; omega)]; rfl
  have h3 : lim n 3 = 0 := by unfold lim; rw [Nat.div_eq_of_lt (by simp only [Nat.reduceMul, Nat.reducePow]; omega)]; rfl
  unfold L4; rw [h0, h1, h2, h3]
theorem fadd_lo (A B : Nat) (hA : A < P256) (hB : B < P256) (h : A + B < P256) (w : World) : Calls Tryd.prog 55 #[L4 A, L4 B] w fun e w' => Ret (.tuple #[L4 (A + B), .int .u64 0]) w w' e := by
  have := fadd_l A B hA hB w
  rw [Nat.mod_eq_of_lt h, Nat.div_eq_of_lt h] at this; exact this
theorem fadd_hi (A B : Nat) (hA : A < P256) (hB : B < P256) (h : P256 ≤ A + B) (w : World) : Calls Tryd.prog 55 #[L4 A, L4 B] w fun e w' => Ret (.tuple #[L4 (A + B - P256), .int .u64 1]) w w' e := by
  have := fadd_l A B hA hB w
  have e1 : (A + B) % P256 = A + B - P256 := by rw [Nat.mod_eq_sub_mod h, Nat.mod_eq_of_lt (by omega)]
  have e2 : (A + B) / P256 = 1 := Nat.div_eq_of_lt_le (by omega) (by omega)
  rw [e1, e2] at this; exact this
theorem fadd_los (A n : Nat) (hA : A < P256) (hn : n < 18446744073709551616) (h : A + n < P256) (w : World) : Calls Tryd.prog 55 #[L4 A, .agg #[.int .u64 (n : Int), .int .u64 0, .int .u64 0, .int .u64 0]] w fun e w' => Ret (.tuple #[L4 (A + n), .int .u64 0]) w w' e := by
  rw [← L4_small n hn]; exact fadd_lo A n hA (by unfold P256; omega) h w
theorem fadd_his (A n : Nat) (hA : A < P256) (hn : n < 18446744073709551616) (h : P256 ≤ A + n) (w : World) : Calls Tryd.prog 55 #[L4 A, .agg #[.int .u64 (n : Int), .int .u64 0, .int .u64 0, .int .u64 0]] w fun e w' => Ret (.tuple #[L4 (A + n - P256), .int .u64 1]) w w' e := by
  rw [← L4_small n hn]; exact fadd_hi A n hA (by unfold P256; omega) h w
def moreV (A n : Nat) : Nat := if A + n < P256 then A + n else A + n - P256 + 38

set_option maxHeartbeats 4000000 in
theorem more_lo (A n : Nat) (hA : A < P256) (hn : n < 18446744073709551616) (h : A + n < P256) (w : World) :
    Calls Tryd.prog 54 #[L4 A, .int .u64 (n : Int)] w fun e w' => Ret (L4 (A + n)) w w' e := by
  go_enter Tryd.func54, Tryd.ntmps54
  go_upto_region 1 with fail
  refine wp_world (fun W => Below w.heap.size w W ∧ Blk W w.heap.size (c4 (A)) 26 ∧ Blk W (w.heap.size + 1) #[.int .u64 0, .int .u64 0, .int .u64 0, .int .u64 0] 26) ⟨(by (repeat' (first | (with_reducible assumption) | (with_reducible exact Below.refl _ _) | (with_reducible refine Below.drew ?_) | (with_reducible refine Below.alloc ?_ ?_ _) | (with_reducible refine below_set ?_ ?_ _ _) | (with_reducible refine below_setRow ?_ ?_ _) | (with_reducible refine below_step ?_ (by assumption) ?_))) <;> (first | omega | ((try simp only [World.size_alloc, World.size_setCell, World.size_drew, size_setRow]); omega))), blk_alloc (blk_new _ _ rfl) _, blk_new _ _ (by simp)⟩ ?_
  rintro W0 ⟨bel, k_t2, k_t4⟩
  have c1 := fadd_los A n hA hn h
  refine wp_region_pn 7 [⟨7, 5, #[.int .u64 0, .int .u64 0, .int .u64 0, .int .u64 0], 26⟩] ?_ (by kernel_rfl) ?_
  · intro x hx
    simp only [List.mem_cons, List.not_mem_nil, or_false] at hx
    subst hx; exact ⟨_, rfl, rfl, rfl, fun _ _ => by kernel_rfl⟩
  simp only [List.take_succ_cons, List.take_zero, List.take_nil]
  (try simp only [Act.put, List.setIfInBounds_toArray, List.set_cons_zero, List.set_cons_succ])
  ((with_reducible refine wpX_load (b := ?_) (cs := ?_) ?_ rfl ?_ ?_ ?_ ?_ ?_); rotate_left 2; (focus rfl); (focus rfl); (focus first | assumption | exact blk_rd (by assumption)); (focus kernel_rfl); (focus kernel_rfl); (try simp only [Act.put, List.setIfInBounds_toArray, List.set_cons_zero, List.set_cons_succ]))
  (refine wpX_val (v := ?_) (by rfl) (fun W hW => ?_) ?_; rotate_left 1; (focus (go_simp; first | done | with_reducible rfl)); (try simp only [Act.put, List.setIfInBounds_toArray, List.set_cons_zero, List.set_cons_succ]))
  (refine wpX_val (v := ?_) (by rfl) (fun W hW => ?_) ?_; rotate_left 1; (focus (go_simp; first | done | with_reducible rfl)); (try simp only [Act.put, List.setIfInBounds_toArray, List.set_cons_zero, List.set_cons_succ]))
  ((with_reducible refine wpX_fn (fun W hW => c1 W) ?_ rfl ?_ ?_ ?_); (focus rfl); (focus kernel_rfl); (focus rfl); (try simp only [Act.put, List.setIfInBounds_toArray, List.set_cons_zero, List.set_cons_succ]))
  (refine wpX_val (v := ?_) (by rfl) (fun W hW => ?_) ?_; rotate_left 1; (focus (go_simp; first | done | with_reducible rfl)); (try simp only [Act.put, List.setIfInBounds_toArray, List.set_cons_zero, List.set_cons_succ]))
  (refine wpX_val (v := ?_) (by rfl) (fun W hW => ?_) ?_; rotate_left 1; (focus (go_simp; first | done | with_reducible rfl)); (try simp only [Act.put, List.setIfInBounds_toArray, List.set_cons_zero, List.set_cons_succ]))
  (refine wpX_val (v := ?_) (by rfl) (fun W hW => ?_) ?_; rotate_left 1; (focus (go_simp; first | done | with_reducible rfl)); (try simp only [Act.put, List.setIfInBounds_toArray, List.set_cons_zero, List.set_cons_succ]))
  refine wpX_nil ?_
  intro β W1 hE hN hD
  obtain ⟨n_t5_1, k_t5⟩ := hN _ (List.mem_cons_self ..)
  simp only [putAll, Act.put, List.setIfInBounds_toArray, List.set_cons_zero, List.set_cons_succ, List.drop_succ_cons, List.drop_zero, List.drop_nil, List.length_cons, List.length_nil] at n_t5_1 k_t5 ⊢
  have lt_t2_1 := blk_lt k_t2
  have lt_t4_1 := blk_lt k_t4
  generalize β 7 = p5_1 at *
  have sz_1 := bel.size
  clear hN hD β
  refine wpL_store (g := p5_1) (cells := c4 (A + n)) (by rfl) rfl rfl rfl k_t5 (by kernel_rfl) (by kernel_rfl) (by kernel_rfl) ?_
  (try simp only [Act.put, List.setIfInBounds_toArray, List.set_cons_zero, List.set_cons_succ])
  (refine wpL_val (v := ?_) (by rfl) ?_ ?_; rotate_left 1; (focus (go_simp; first | done | with_reducible rfl)))
  (try simp only [Act.put, List.setIfInBounds_toArray, List.set_cons_zero, List.set_cons_succ])
  refine wpL_nil ?_
  refine ex_world (fun W => Below w.heap.size w W ∧ Blk W w.heap.size (c4 (A)) 26 ∧ Blk W (w.heap.size + 1) #[.int .u64 0, .int .u64 0, .int .u64 0, .int .u64 0] 26 ∧ Blk W p5_1 (c4 (A + n)) 26) ⟨(below_setRow (below_step bel hE bel.size) (by omega) _), (blk_setRow_other (blk_step k_t2 hE) (by omega) _), (blk_setRow_other (blk_step k_t4 hE) (by omega) _), (blk_setRow k_t5 (c4 (A + n)))⟩ ?_
  clear bel k_t2 k_t4 k_t5
  rintro W2 ⟨bel, k_t2, k_t4, k_t5⟩
  go_upto_region 4 with fail
  refine wp_region_pn 1 [] (fun x hx => by cases hx) (by kernel_rfl) ?_
  simp only [List.take_succ_cons, List.take_zero, List.take_nil]
  (try simp only [Act.put, List.setIfInBounds_toArray, List.set_cons_zero, List.set_cons_succ])
  ((with_reducible refine wpX_load (b := ?_) (cs := ?_) ?_ rfl ?_ ?_ ?_ ?_ ?_); rotate_left 2; (focus rfl); (focus rfl); (focus first | assumption | exact blk_rd (by assumption)); (focus kernel_rfl); (focus kernel_rfl); (try simp only [Act.put, List.setIfInBounds_toArray, List.set_cons_zero, List.set_cons_succ]))
  refine wpX_nil ?_
  intro β W3 hE hN hD
  simp only [putAll, Act.put, List.setIfInBounds_toArray, List.set_cons_zero, List.set_cons_succ, List.drop_succ_cons, List.drop_zero, List.drop_nil, List.length_cons, List.length_nil]
  have lt_t5_3 := blk_lt k_t5
  clear hN hD β
  refine wpL_store (g := (w.heap.size + 1)) (cells := c4 (A + n)) (by rfl) rfl rfl rfl (blk_step k_t4 hE) (by kernel_rfl) (by kernel_rfl) (by kernel_rfl) ?_
  (try simp only [Act.put, List.setIfInBounds_toArray, List.set_cons_zero, List.set_cons_succ])
  refine wpL_nil ?_
  refine ex_world (fun W => Below w.heap.size w W ∧ Blk W w.heap.size (c4 (A)) 26 ∧ Blk W (w.heap.size + 1) (c4 (A + n)) 26 ∧ Blk W p5_1 (c4 (A + n)) 26) ⟨(below_setRow (below_step bel hE bel.size) (by omega) _), (blk_setRow_other (blk_step k_t2 hE) (by omega) _), (blk_setRow (blk_step k_t4 hE) (c4 (A + n))), (blk_setRow_other (blk_step k_t5 hE) (by omega) _)⟩ ?_
  clear bel k_t2 k_t4 k_t5
  rintro W4 ⟨bel, k_t2, k_t4, k_t5⟩
  go_wp2
  refine bodyPost_ret (res_row rfl rfl k_t4 (by kernel_rfl) (by kernel_rfl)) rfl ⟨?_, bel⟩
  rfl
set_option maxHeartbeats 4000000 in
theorem more_hi (A n : Nat) (hA : A < P256) (hn : n < 18446744073709551616) (h : P256 ≤ A + n) (h2 : A + n - P256 + 38 < P256) (w : World) :
    Calls Tryd.prog 54 #[L4 A, .int .u64 (n : Int)] w fun e w' => Ret (L4 (A + n - P256 + 38)) w w' e := by
  go_enter Tryd.func54, Tryd.ntmps54
  go_upto_region 1 with fail
  refine wp_world (fun W => Below w.heap.size w W ∧ Blk W w.heap.size (c4 (A)) 26 ∧ Blk W (w.heap.size + 1) #[.int .u64 0, .int .u64 0, .int .u64 0, .int .u64 0] 26) ⟨(by (repeat' (first | (with_reducible assumption) | (with_reducible exact Below.refl _ _) | (with_reducible refine Below.drew ?_) | (with_reducible refine Below.alloc ?_ ?_ _) | (with_reducible refine below_set ?_ ?_ _ _) | (with_reducible refine below_setRow ?_ ?_ _) | (with_reducible refine below_step ?_ (by assumption) ?_))) <;> (first | omega | ((try simp only [World.size_alloc, World.size_setCell, World.size_drew, size_setRow]); omega))), blk_alloc (blk_new _ _ rfl) _, blk_new _ _ (by simp)⟩ ?_
  rintro W0 ⟨bel, k_t2, k_t4⟩
  have c_X1 := fadd_his A n hA hn h
  obtain ⟨X1, hX1⟩ : ∃ X, X = A + n - P256 := ⟨_, rfl⟩
  rw [← hX1] at c_X1
  have HX1 := Lib.hid hX1
  clear hX1
  refine wp_region_pn 7 [⟨7, 5, #[.int .u64 0, .int .u64 0, .int .u64 0, .int .u64 0], 26⟩] ?_ (by kernel_rfl) ?_
  · intro x hx
    simp only [List.mem_cons, List.not_mem_nil, or_false] at hx
    subst hx; exact ⟨_, rfl, rfl, rfl, fun _ _ => by kernel_rfl⟩
  simp only [List.take_succ_cons, List.take_zero, List.take_nil]
  (try simp only [Act.put, List.setIfInBounds_toArray, List.set_cons_zero, List.set_cons_succ])
  ((with_reducible refine wpX_load (b := ?_) (cs := ?_) ?_ rfl ?_ ?_ ?_ ?_ ?_); rotate_left 2; (focus rfl); (focus rfl); (focus first | assumption | exact blk_rd (by assumption)); (focus kernel_rfl); (focus kernel_rfl); (try simp only [Act.put, List.setIfInBounds_toArray, List.set_cons_zero, List.set_cons_succ]))
  (refine wpX_val (v := ?_) (by rfl) (fun W hW => ?_) ?_; rotate_left 1; (focus (go_simp; first | done | with_reducible rfl)); (try simp only [Act.put, List.setIfInBounds_toArray, List.set_cons_zero, List.set_cons_succ]))
  (refine wpX_val (v := ?_) (by rfl) (fun W hW => ?_) ?_; rotate_left 1; (focus (go_simp; first | done | with_reducible rfl)); (try simp only [Act.put, List.setIfInBounds_toArray, List.set_cons_zero, List.set_cons_succ]))
  ((with_reducible refine wpX_fn (fun W hW => c_X1 W) ?_ rfl ?_ ?_ ?_); (focus rfl); (focus kernel_rfl); (focus rfl); (try simp only [Act.put, List.setIfInBounds_toArray, List.set_cons_zero, List.set_cons_succ]))
  (refine wpX_val (v := ?_) (by rfl) (fun W hW => ?_) ?_; rotate_left 1; (focus (go_simp; first | done | with_reducible rfl)); (try simp only [Act.put, List.setIfInBounds_toArray, List.set_cons_zero, List.set_cons_succ]))
  (refine wpX_val (v := ?_) (by rfl) (fun W hW => ?_) ?_; rotate_left 1; (focus (go_simp; first | done | with_reducible rfl)); (try simp only [Act.put, List.setIfInBounds_toArray, List.set_cons_zero, List.set_cons_succ]))
  (refine wpX_val (v := ?_) (by rfl) (fun W hW => ?_) ?_; rotate_left 1; (focus (go_simp; first | done | with_reducible rfl)); (try simp only [Act.put, List.setIfInBounds_toArray, List.set_cons_zero, List.set_cons_succ]))
  refine wpX_nil ?_
  intro β W1 hE hN hD
  obtain ⟨n_t5_1, k_t5⟩ := hN _ (List.mem_cons_self ..)
  simp only [putAll, Act.put, List.setIfInBounds_toArray, List.set_cons_zero, List.set_cons_succ, List.drop_succ_cons, List.drop_zero, List.drop_nil, List.length_cons, List.length_nil] at n_t5_1 k_t5 ⊢
  have lt_t2_1 := blk_lt k_t2
  have lt_t4_1 := blk_lt k_t4
  generalize β 7 = p5_1 at *
  have sz_1 := bel.size
  clear hN hD β
  refine wpL_store (g := p5_1) (cells := c4 (X1)) (by rfl) rfl rfl rfl k_t5 (by kernel_rfl) (by kernel_rfl) (by kernel_rfl) ?_
  (try simp only [Act.put, List.setIfInBounds_toArray, List.set_cons_zero, List.set_cons_succ])
  (refine wpL_val (v := ?_) (by rfl) ?_ ?_; rotate_left 1; (focus (go_simp; first | done | with_reducible rfl)))
  (try simp only [Act.put, List.setIfInBounds_toArray, List.set_cons_zero, List.set_cons_succ])
  refine wpL_nil ?_
  refine ex_world (fun W => Below w.heap.size w W ∧ Blk W w.heap.size (c4 (A)) 26 ∧ Blk W (w.heap.size + 1) #[.int .u64 0, .int .u64 0, .int .u64 0, .int .u64 0] 26 ∧ Blk W p5_1 (c4 (X1)) 26) ⟨(below_setRow (below_step bel hE bel.size) (by omega) _), (blk_setRow_other (blk_step k_t2 hE) (by omega) _), (blk_setRow_other (blk_step k_t4 hE) (by omega) _), (blk_setRow k_t5 (c4 (X1)))⟩ ?_
  clear bel k_t2 k_t4 k_t5
  rintro W2 ⟨bel, k_t2, k_t4, k_t5⟩
  go_upto_region 3 with fail
  have c_X2 := fadd_los X1 38 (by rw [HX1.out]; omega) (by decide) (by rw [HX1.out]; omega)
  obtain ⟨X2, hX2⟩ : ∃ X, X = X1 + 38 := ⟨_, rfl⟩
  rw [← hX2] at c_X2
  have HX2 := Lib.hid hX2
  clear hX2
  refine wp_region_pn 6 [] (fun x hx => by cases hx) (by kernel_rfl) ?_
  simp only [List.take_succ_cons, List.take_zero, List.take_nil]
  (try simp only [Act.put, List.setIfInBounds_toArray, List.set_cons_zero, List.set_cons_succ])
  ((with_reducible refine wpX_load (b := ?_) (cs := ?_) ?_ rfl ?_ ?_ ?_ ?_ ?_); rotate_left 2; (focus rfl); (focus rfl); (focus first | assumption | exact blk_rd (by assumption)); (focus kernel_rfl); (focus kernel_rfl); (try simp only [Act.put, List.setIfInBounds_toArray, List.set_cons_zero, List.set_cons_succ]))
  (refine wpX_val (v := ?_) (by rfl) (fun W hW => ?_) ?_; rotate_left 1; (focus (go_simp; first | done | with_reducible rfl)); (try simp only [Act.put, List.setIfInBounds_toArray, List.set_cons_zero, List.set_cons_succ]))
  ((with_reducible refine wpX_fn (fun W hW => c_X2 W) ?_ rfl ?_ ?_ ?_); (focus rfl); (focus kernel_rfl); (focus rfl); (try simp only [Act.put, List.setIfInBounds_toArray, List.set_cons_zero, List.set_cons_succ]))
  (refine wpX_val (v := ?_) (by rfl) (fun W hW => ?_) ?_; rotate_left 1; (focus (go_simp; first | done | with_reducible rfl)); (try simp only [Act.put, List.setIfInBounds_toArray, List.set_cons_zero, List.set_cons_succ]))
  (refine wpX_val (v := ?_) (by rfl) (fun W hW => ?_) ?_; rotate_left 1; (focus (go_simp; first | done | with_reducible rfl)); (try simp only [Act.put, List.setIfInBounds_toArray, List.set_cons_zero, List.set_cons_succ]))
  (refine wpX_val (v := ?_) (by rfl) (fun W hW => ?_) ?_; rotate_left 1; (focus (go_simp; first | done | with_reducible rfl)); (try simp only [Act.put, List.setIfInBounds_toArray, List.set_cons_zero, List.set_cons_succ]))
  refine wpX_nil ?_
  intro β W3 hE hN hD
  simp only [putAll, Act.put, List.setIfInBounds_toArray, List.set_cons_zero, List.set_cons_succ, List.drop_succ_cons, List.drop_zero, List.drop_nil, List.length_cons, List.length_nil]
  have lt_t5_3 := blk_lt k_t5
  clear hN hD β
  refine wpL_store (g := p5_1) (cells := c4 (X2)) (by rfl) rfl rfl rfl (blk_step k_t5 hE) (by kernel_rfl) (by kernel_rfl) (by kernel_rfl) ?_
  (try simp only [Act.put, List.setIfInBounds_toArray, List.set_cons_zero, List.set_cons_succ])
  refine wpL_nil ?_
  refine ex_world (fun W => Below w.heap.size w W ∧ Blk W w.heap.size (c4 (A)) 26 ∧ Blk W (w.heap.size + 1) #[.int .u64 0, .int .u64 0, .int .u64 0, .int .u64 0] 26 ∧ Blk W p5_1 (c4 (X2)) 26) ⟨(below_setRow (below_step bel hE bel.size) (by omega) _), (blk_setRow_other (blk_step k_t2 hE) (by omega) _), (blk_setRow_other (blk_step k_t4 hE) (by omega) _), (blk_setRow (blk_step k_t5 hE) (c4 (X2)))⟩ ?_
  clear bel k_t2 k_t4 k_t5
  rintro W4 ⟨bel, k_t2, k_t4, k_t5⟩
  go_upto_region 4 with fail
  refine wp_region_pn 1 [] (fun x hx => by cases hx) (by kernel_rfl) ?_
  simp only [List.take_succ_cons, List.take_zero, List.take_nil]
  (try simp only [Act.put, List.setIfInBounds_toArray, List.set_cons_zero, List.set_cons_succ])
  ((with_reducible refine wpX_load (b := ?_) (cs := ?_) ?_ rfl ?_ ?_ ?_ ?_ ?_); rotate_left 2; (focus rfl); (focus rfl); (focus first | assumption | exact blk_rd (by assumption)); (focus kernel_rfl); (focus kernel_rfl); (try simp only [Act.put, List.setIfInBounds_toArray, List.set_cons_zero, List.set_cons_succ]))
  refine wpX_nil ?_
  intro β W5 hE hN hD
  simp only [putAll, Act.put, List.setIfInBounds_toArray, List.set_cons_zero, List.set_cons_succ, List.drop_succ_cons, List.drop_zero, List.drop_nil, List.length_cons, List.length_nil]
  have lt_t5_5 := blk_lt k_t5
  clear hN hD β
  refine wpL_store (g := (w.heap.size + 1)) (cells := c4 (X2)) (by rfl) rfl rfl rfl (blk_step k_t4 hE) (by kernel_rfl) (by kernel_rfl) (by kernel_rfl) ?_
  (try simp only [Act.put, List.setIfInBounds_toArray, List.set_cons_zero, List.set_cons_succ])
  refine wpL_nil ?_
  refine ex_world (fun W => Below w.heap.size w W ∧ Blk W w.heap.size (c4 (A)) 26 ∧ Blk W (w.heap.size + 1) (c4 (X2)) 26 ∧ Blk W p5_1 (c4 (X2)) 26) ⟨(below_setRow (below_step bel hE bel.size) (by omega) _), (blk_setRow_other (blk_step k_t2 hE) (by omega) _), (blk_setRow (blk_step k_t4 hE) (c4 (X2))), (blk_setRow_other (blk_step k_t5 hE) (by omega) _)⟩ ?_
  clear bel k_t2 k_t4 k_t5
  rintro W6 ⟨bel, k_t2, k_t4, k_t5⟩
  go_wp2
  refine bodyPost_ret (res_row rfl rfl k_t4 (by kernel_rfl) (by kernel_rfl)) rfl ⟨?_, bel⟩
  rw [HX2.out, HX1.out]; rfl
end Go.Proofs.YtghajiagbfcmdaaDoor
