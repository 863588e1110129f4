/- field.Same, Odd, Root. Conditions: the cells of field.modulus and (for the root) of field.imaginary hold the two numbers. -/
import Derived.Test.YtghajiagbfcmdaaDoorFeF
namespace Go.Proofs.YtghajiagbfcmdaaDoor
set_option linter.unusedSimpArgs false
set_option linter.unusedVariables false
open Go.RowKit

/-- the root of -1 -/
def II : Nat := 19681161376707505956807079304988542015446066515923890162744021073123829784752
theorem II_lt : II < P256 := by decide +kernel
theorem imaC_eq : Value.agg imaC = L4 II := by kernel_rfl
theorem lim_ext (A B : Nat) (hA : A < P256) (hB : B < P256) (h : ∀ i, i < 4 → lim A i = lim B i) : A = B := by
  rw [← val4_lim A hA, ← val4_lim B hB, h 0 (by omega), h 1 (by omega), h 2 (by omega), h 3 (by omega)]
theorem eqEl (A B : Nat) (hA : A < P256) (hB : B < P256) (w : World) : (Op.equalIn 10000 26 (.agg (c4 A)) (.agg (c4 B))).run Tryd.prog w = .ok (decide (A = B)) w := by
  have h := run_equalIn_arr (P := Tryd.prog) w 9998 26 24 4 .u64 (c4 A) (c4 B) (lim A) (lim B) Tryd.underlying26 Tryd.underlying24 (by kernel_rfl) (fun i hi => c4_get A i hi) (fun i hi => c4_get B i hi)
  rw [h]
  congr 1
  rw [Bool.eq_iff_iff, eqArr_true, decide_eq_true_iff]
  exact ⟨lim_ext A B hA hB, fun e i _ => by rw [e]⟩
theorem eq44 (A B : Nat) (hA : A < P256) (hB : B < P256) (w : World) : (Op.equalIn 10000 25 (.agg (c4 A)) (.agg (c4 B))).run Tryd.prog w = .ok (decide (A = B)) w := by
  have h := run_equalIn_arr (P := Tryd.prog) w 9998 25 24 4 .u64 (c4 A) (c4 B) (lim A) (lim B) Tryd.underlying25 Tryd.underlying24 (by kernel_rfl) (fun i hi => c4_get A i hi) (fun i hi => c4_get B i hi)
  rw [h]
  congr 1
  rw [Bool.eq_iff_iff, eqArr_true, decide_eq_true_iff]
  exact ⟨lim_ext A B hA hB, fun e i _ => by rw [e]⟩
theorem lim_odd (X : Nat) : bits .and .u64 (lim X 0) 1 = ((X % 2 : Nat) : Int) := by
  have := lim_bit X 0 0 (by omega)
  simpa using this

set_option maxHeartbeats 4000000 in
theorem fSame_c (A B : Nat) (hA : A < P256) (hB : B < P256) (w : World) (hG : GF w) :
    Calls Tryd.prog 31 #[L4 A, L4 B] w fun e w' => Ret (.bool (decide (A % PP = B % PP))) w w' e := by
  go_enter Tryd.func31, Tryd.ntmps31
  go_upto_region 1 with fail
  refine wp_world (fun W => Below w.heap.size w W ∧ Blk W w.heap.size (c4 A) 26 ∧ Blk W (w.heap.size + 1) (c4 B) 26) ⟨(by (repeat' (first | (with_reducible assumption) | (with_reducible exact Below.refl _ _) | (with_reducible refine Below.drew ?_) | (with_reducible refine Below.alloc ?_ ?_ _) | (with_reducible refine below_set ?_ ?_ _ _) | (with_reducible refine below_setRow ?_ ?_ _) | (with_reducible refine below_step ?_ (by assumption) ?_))) <;> (first | omega | ((try simp only [World.size_alloc, World.size_setCell, World.size_drew, size_setRow]); omega))), blk_alloc (blk_new _ _ rfl) _, blk_new _ _ (by simp)⟩ ?_
  rintro W0 ⟨bel, k_t2, k_t3⟩
  have lt_t2_0 := blk_lt k_t2
  have lt_t3_0 := blk_lt k_t3
  have gf := GF_ext hG bel
  have gm := gf.1
  have gi := gf.2
  have c_X1 := rest_c A hA
  obtain ⟨X1, hX1⟩ : ∃ v_, v_ = A % PP := ⟨_, rfl⟩
  rw [← hX1] at c_X1
  have bX1 : X1 < P256 := by rw [hX1]; exact mod_256 _
  have HX1 := Lib.hid hX1
  clear hX1
  have c_X2 := rest_c B hB
  obtain ⟨X2, hX2⟩ : ∃ v_, v_ = B % PP := ⟨_, rfl⟩
  rw [← hX2] at c_X2
  have bX2 : X2 < P256 := by rw [hX2]; exact mod_256 _
  have HX2 := Lib.hid hX2
  clear hX2
  have e_3 := eqEl X1 X2 bX1 bX2
  refine wp_region_xn 6 [] (by kernel_rfl) (fun x hx => by cases hx) (by kernel_rfl) ?_
  simp only [List.take_succ_cons, List.take_zero, List.take_nil]
  (try simp only [Act.put, List.setIfInBounds_toArray, List.set_cons_zero, List.set_cons_succ])
  ((with_reducible refine wpX_load (b := ?_) (cs := ?_) ?_ rfl ?_ ?_ ?_ ?_ ?_); rotate_left 2; (focus rfl); (focus rfl); (focus first | assumption | exact blk_rd (by assumption)); (focus kernel_rfl); (focus kernel_rfl); (try simp only [Act.put, List.setIfInBounds_toArray, List.set_cons_zero, List.set_cons_succ]))
  ((with_reducible refine wpX_fn (fun W hW => c_X1 W (GF_ext gf hW)) ?_ rfl ?_ ?_ ?_); (focus rfl); (focus kernel_rfl); (focus rfl); (try simp only [Act.put, List.setIfInBounds_toArray, List.set_cons_zero, List.set_cons_succ]))
  ((with_reducible refine wpX_load (b := ?_) (cs := ?_) ?_ rfl ?_ ?_ ?_ ?_ ?_); rotate_left 2; (focus rfl); (focus rfl); (focus first | assumption | exact blk_rd (by assumption)); (focus kernel_rfl); (focus kernel_rfl); (try simp only [Act.put, List.setIfInBounds_toArray, List.set_cons_zero, List.set_cons_succ]))
  ((with_reducible refine wpX_fn (fun W hW => c_X2 W (GF_ext gf hW)) ?_ rfl ?_ ?_ ?_); (focus rfl); (focus kernel_rfl); (focus rfl); (try simp only [Act.put, List.setIfInBounds_toArray, List.set_cons_zero, List.set_cons_succ]))
  ((with_reducible refine wpX_eqlA (e_3) ?_ ?_ rfl ?_ ?_ ?_); (focus kernel_rfl); (focus rfl); (focus rfl); (focus rfl); (try simp only [Act.put, List.setIfInBounds_toArray, List.set_cons_zero, List.set_cons_succ]))
  (refine wpX_val (v := ?_) (by rfl) (fun W hW => ?_) ?_; rotate_left 1; (focus (go_simp; first | done | with_reducible rfl)); (try simp only [Act.put, List.setIfInBounds_toArray, List.set_cons_zero, List.set_cons_succ]))
  refine wpX_nil ?_
  intro β W1 hE hN hD
  simp only [putAll, Act.put, List.setIfInBounds_toArray, List.set_cons_zero, List.set_cons_succ, List.drop_succ_cons, List.drop_zero, List.drop_nil, List.length_cons, List.length_nil]
  clear hN hD β
  refine wpL_nil ?_
  refine NoPanic.normal (Q := Exit.then _ _) ?_
  have hF : Below w.heap.size w W1 ∧ Blk W1 w.heap.size (c4 A) 26 ∧ Blk W1 (w.heap.size + 1) (c4 B) 26 := ⟨(below_step bel hE bel.size), (blk_step k_t2 hE), (blk_step k_t3 hE)⟩
  clear bel k_t2 k_t3
  obtain ⟨bel, k_t2, k_t3⟩ := hF
  go_wp2
  rw [← HX1.out, ← HX2.out]
  refine bodyPost_ret (v := .bool (decide (X1 = X2))) (by simp only [results, Tryd.results31]; go_simp) rfl ⟨?_, bel⟩
  rfl
set_option maxHeartbeats 4000000 in
theorem fOdd_0 (A : Nat) (hA : A < P256) (h : A % PP % 2 = 0) (w : World) (hG : GF w) :
    Calls Tryd.prog 37 #[L4 A] w fun e w' => Ret (.bool false) w w' e := by
  go_enter Tryd.func37, Tryd.ntmps37
  go_upto_region 1 with fail
  refine wp_world (fun W => Below w.heap.size w W ∧ Blk W w.heap.size (c4 A) 26) ⟨(by (repeat' (first | (with_reducible assumption) | (with_reducible exact Below.refl _ _) | (with_reducible refine Below.drew ?_) | (with_reducible refine Below.alloc ?_ ?_ _) | (with_reducible refine below_set ?_ ?_ _ _) | (with_reducible refine below_setRow ?_ ?_ _) | (with_reducible refine below_step ?_ (by assumption) ?_))) <;> (first | omega | ((try simp only [World.size_alloc, World.size_setCell, World.size_drew, size_setRow]); omega))), blk_new _ _ rfl⟩ ?_
  rintro W0 ⟨bel, k_t1⟩
  have lt_t1_0 := blk_lt k_t1
  have gf := GF_ext hG bel
  have gm := gf.1
  have gi := gf.2
  have c_X1 := rest_c A hA
  obtain ⟨X1, hX1⟩ : ∃ v_, v_ = A % PP := ⟨_, rfl⟩
  rw [← hX1] at c_X1
  have bX1 : X1 < P256 := by rw [hX1]; exact mod_256 _
  have HX1 := Lib.hid hX1
  clear hX1
  have hix : ∀ W, (Instr.index 26 (.agg #[.int .u64 (lim X1 0), .int .u64 (lim X1 1), .int .u64 (lim X1 2), .int .u64 (lim X1 3)]) (.int .i64 0)).run Tryd.prog W = .ok (.int .u64 (lim X1 0)) W := fun W => run_index_arr W 26 24 4 .u64 .i64 (c4 X1) 0 (lim X1 0) Tryd.underlying26 Tryd.underlying24 (by kernel_rfl) (by decide) (c4_get X1 0 (by decide))
  have hod := lim_odd X1
  rw [show X1 % 2 = 0 by rw [HX1.out]; exact h] at hod
  refine wp_region_pn 6 [] (fun x hx => by cases hx) (by kernel_rfl) ?_
  simp only [List.take_succ_cons, List.take_zero, List.take_nil]
  (try simp only [Act.put, List.setIfInBounds_toArray, List.set_cons_zero, List.set_cons_succ])
  ((with_reducible refine wpX_load (b := ?_) (cs := ?_) ?_ rfl ?_ ?_ ?_ ?_ ?_); rotate_left 2; (focus rfl); (focus rfl); (focus first | assumption | exact blk_rd (by assumption)); (focus kernel_rfl); (focus kernel_rfl); (try simp only [Act.put, List.setIfInBounds_toArray, List.set_cons_zero, List.set_cons_succ]))
  ((with_reducible refine wpX_fn (fun W hW => c_X1 W (GF_ext gf hW)) ?_ rfl ?_ ?_ ?_); (focus rfl); (focus kernel_rfl); (focus rfl); (try simp only [Act.put, List.setIfInBounds_toArray, List.set_cons_zero, List.set_cons_succ]))
  (refine wpX_val (v := ?_) (by rfl) (fun W hW => ?_) ?_; rotate_left 1; (focus (go_simp; first | done | with_reducible rfl)); (try simp only [Act.put, List.setIfInBounds_toArray, List.set_cons_zero, List.set_cons_succ]))
  (refine wpX_val (v := ?_) (by rfl) (fun W hW => ?_) ?_; rotate_left 1; (focus (go_simp; first | done | with_reducible rfl)); (try simp only [Act.put, List.setIfInBounds_toArray, List.set_cons_zero, List.set_cons_succ]))
  (refine wpX_val (v := ?_) (by rfl) (fun W hW => ?_) ?_; rotate_left 1; (focus (go_simp; first | done | with_reducible rfl)); (try simp only [Act.put, List.setIfInBounds_toArray, List.set_cons_zero, List.set_cons_succ]))
  (refine wpX_val (v := ?_) (by rfl) (fun W hW => ?_) ?_; rotate_left 1; (focus (go_simp; first | done | with_reducible rfl)); (try simp only [Act.put, List.setIfInBounds_toArray, List.set_cons_zero, List.set_cons_succ]))
  refine wpX_nil ?_
  intro β W1 hE hN hD
  simp only [putAll, Act.put, List.setIfInBounds_toArray, List.set_cons_zero, List.set_cons_succ, List.drop_succ_cons, List.drop_zero, List.drop_nil, List.length_cons, List.length_nil]
  clear hN hD β
  refine wpL_nil ?_
  have hF : Below w.heap.size w W1 ∧ Blk W1 w.heap.size (c4 A) 26 := ⟨(below_step bel hE bel.size), (blk_step k_t1 hE)⟩
  clear bel k_t1
  obtain ⟨bel, k_t1⟩ := hF
  go_wp2
  refine bodyPost_ret (v := .bool false) (by simp only [results, Tryd.results37]; go_simp) rfl ⟨?_, bel⟩
  rfl
set_option maxHeartbeats 4000000 in
theorem fOdd_1 (A : Nat) (hA : A < P256) (h : A % PP % 2 = 1) (w : World) (hG : GF w) :
    Calls Tryd.prog 37 #[L4 A] w fun e w' => Ret (.bool true) w w' e := by
  go_enter Tryd.func37, Tryd.ntmps37
  go_upto_region 1 with fail
  refine wp_world (fun W => Below w.heap.size w W ∧ Blk W w.heap.size (c4 A) 26) ⟨(by (repeat' (first | (with_reducible assumption) | (with_reducible exact Below.refl _ _) | (with_reducible refine Below.drew ?_) | (with_reducible refine Below.alloc ?_ ?_ _) | (with_reducible refine below_set ?_ ?_ _ _) | (with_reducible refine below_setRow ?_ ?_ _) | (with_reducible refine below_step ?_ (by assumption) ?_))) <;> (first | omega | ((try simp only [World.size_alloc, World.size_setCell, World.size_drew, size_setRow]); omega))), blk_new _ _ rfl⟩ ?_
  rintro W0 ⟨bel, k_t1⟩
  have lt_t1_0 := blk_lt k_t1
  have gf := GF_ext hG bel
  have gm := gf.1
  have gi := gf.2
  have c_X1 := rest_c A hA
  obtain ⟨X1, hX1⟩ : ∃ v_, v_ = A % PP := ⟨_, rfl⟩
  rw [← hX1] at c_X1
  have bX1 : X1 < P256 := by rw [hX1]; exact mod_256 _
  have HX1 := Lib.hid hX1
  clear hX1
  have hix : ∀ W, (Instr.index 26 (.agg #[.int .u64 (lim X1 0), .int .u64 (lim X1 1), .int .u64 (lim X1 2), .int .u64 (lim X1 3)]) (.int .i64 0)).run Tryd.prog W = .ok (.int .u64 (lim X1 0)) W := fun W => run_index_arr W 26 24 4 .u64 .i64 (c4 X1) 0 (lim X1 0) Tryd.underlying26 Tryd.underlying24 (by kernel_rfl) (by decide) (c4_get X1 0 (by decide))
  have hod := lim_odd X1
  rw [show X1 % 2 = 1 by rw [HX1.out]; exact h] at hod
  refine wp_region_pn 6 [] (fun x hx => by cases hx) (by kernel_rfl) ?_
  simp only [List.take_succ_cons, List.take_zero, List.take_nil]
  (try simp only [Act.put, List.setIfInBounds_toArray, List.set_cons_zero, List.set_cons_succ])
  ((with_reducible refine wpX_load (b := ?_) (cs := ?_) ?_ rfl ?_ ?_ ?_ ?_ ?_); rotate_left 2; (focus rfl); (focus rfl); (focus first | assumption | exact blk_rd (by assumption)); (focus kernel_rfl); (focus kernel_rfl); (try simp only [Act.put, List.setIfInBounds_toArray, List.set_cons_zero, List.set_cons_succ]))
  ((with_reducible refine wpX_fn (fun W hW => c_X1 W (GF_ext gf hW)) ?_ rfl ?_ ?_ ?_); (focus rfl); (focus kernel_rfl); (focus rfl); (try simp only [Act.put, List.setIfInBounds_toArray, List.set_cons_zero, List.set_cons_succ]))
  (refine wpX_val (v := ?_) (by rfl) (fun W hW => ?_) ?_; rotate_left 1; (focus (go_simp; first | done | with_reducible rfl)); (try simp only [Act.put, List.setIfInBounds_toArray, List.set_cons_zero, List.set_cons_succ]))
  (refine wpX_val (v := ?_) (by rfl) (fun W hW => ?_) ?_; rotate_left 1; (focus (go_simp; first | done | with_reducible rfl)); (try simp only [Act.put, List.setIfInBounds_toArray, List.set_cons_zero, List.set_cons_succ]))
  (refine wpX_val (v := ?_) (by rfl) (fun W hW => ?_) ?_; rotate_left 1; (focus (go_simp; first | done | with_reducible rfl)); (try simp only [Act.put, List.setIfInBounds_toArray, List.set_cons_zero, List.set_cons_succ]))
  (refine wpX_val (v := ?_) (by rfl) (fun W hW => ?_) ?_; rotate_left 1; (focus (go_simp; first | done | with_reducible rfl)); (try simp only [Act.put, List.setIfInBounds_toArray, List.set_cons_zero, List.set_cons_succ]))
  refine wpX_nil ?_
  intro β W1 hE hN hD
  simp only [putAll, Act.put, List.setIfInBounds_toArray, List.set_cons_zero, List.set_cons_succ, List.drop_succ_cons, List.drop_zero, List.drop_nil, List.length_cons, List.length_nil]
  clear hN hD β
  refine wpL_nil ?_
  have hF : Below w.heap.size w W1 ∧ Blk W1 w.heap.size (c4 A) 26 := ⟨(below_step bel hE bel.size), (blk_step k_t1 hE)⟩
  clear bel k_t1
  obtain ⟨bel, k_t1⟩ := hF
  go_wp2
  refine bodyPost_ret (v := .bool true) (by simp only [results, Tryd.results37]; go_simp) rfl ⟨?_, bel⟩
  rfl
theorem fOdd_c (A : Nat) (hA : A < P256) (w : World) (hG : GF w) : Calls Tryd.prog 37 #[L4 A] w fun e w' => Ret (.bool (decide (A % PP % 2 = 1))) w w' e := by
  rcases Nat.mod_two_eq_zero_or_one (A % PP) with h | h
  · rw [h]; exact fOdd_0 A hA h w hG
  · rw [h]; exact fOdd_1 A hA h w hG
/-- what the root is made of -/
def v3 (v : Nat) : Nat := v * v % PP * v % PP
def v7 (v : Nat) : Nat := v3 v * v3 v % PP * v % PP
def rtX (u v : Nat) : Nat := u * v3 v % PP * pw (u * v7 v % PP) 7237005577332262213973186563042994240829374041602535252466099000494570602493 % PP
def rtW (u v : Nat) : Nat := v * (rtX u v * rtX u v % PP) % PP
def rtR (u v : Nat) : Nat := if rtW u v = u % PP then rtX u v else if rtW u v = (PP - u % PP) % PP then rtX u v * II % PP else 0
def rtB (u v : Nat) : Bool := decide (rtW u v = u % PP) || decide (rtW u v = (PP - u % PP) % PP)
theorem rtW_mod (u v : Nat) : rtW u v % PP = rtW u v := by unfold rtW; exact Nat.mod_mod _ _
set_option maxHeartbeats 4000000 in
theorem fRoot_1 (A B : Nat) (hA : A < P256) (hB : B < P256) (h1 : rtW A B = A % PP) (w : World) (hG : GF w) (hI : GI w) :
    Calls Tryd.prog 35 #[L4 A, L4 B] w fun e w' => Ret (.tuple #[L4 (rtX A B), .bool true]) w w' e := by
  go_enter Tryd.func35, Tryd.ntmps35
  go_upto_region 1 with fail
  refine wp_world (fun W => Below w.heap.size w W ∧ Blk W w.heap.size (c4 A) 26 ∧ Blk W (w.heap.size + 1) (c4 B) 26 ∧ Blk W (w.heap.size + 2) #[.int .u64 0, .int .u64 0, .int .u64 0, .int .u64 0] 26) ⟨(by (repeat' (first | (with_reducible assumption) | (with_reducible exact Below.refl _ _) | (with_reducible refine Below.drew ?_) | (with_reducible refine Below.alloc ?_ ?_ _) | (with_reducible refine below_set ?_ ?_ _ _) | (with_reducible refine below_setRow ?_ ?_ _) | (with_reducible refine below_step ?_ (by assumption) ?_))) <;> (first | omega | ((try simp only [World.size_alloc, World.size_setCell, World.size_drew, size_setRow]); omega))), blk_alloc (blk_alloc (blk_new _ _ rfl) _) _, blk_alloc (blk_new _ _ (by simp)) _, blk_new _ _ (by simp)⟩ ?_
  rintro W0 ⟨bel, k_t2, k_t3, k_t4⟩
  have lt_t2_0 := blk_lt k_t2
  have lt_t3_0 := blk_lt k_t3
  have lt_t4_0 := blk_lt k_t4
  have gf := GF_ext hG bel
  have gm := gf.1
  have gi : Rd _ 5 imaC := Rd.ext hI bel
  have c_X1 := fMul_c B B hB hB
  obtain ⟨X1, hX1⟩ : ∃ v_, v_ = B * B % PP := ⟨_, rfl⟩
  rw [← hX1] at c_X1
  have bX1 : X1 < P256 := by rw [hX1]; exact mod_256 _
  have HX1 := Lib.hid hX1
  clear hX1
  have c_X2 := fMul_c X1 B bX1 hB
  obtain ⟨X2, hX2⟩ : ∃ v_, v_ = X1 * B % PP := ⟨_, rfl⟩
  rw [← hX2] at c_X2
  have bX2 : X2 < P256 := by rw [hX2]; exact mod_256 _
  have HX2 := Lib.hid hX2
  clear hX2
  refine wp_region_xn 5 [⟨5, 6, #[.int .u64 0, .int .u64 0, .int .u64 0, .int .u64 0], 26⟩] (by kernel_rfl) ?_ (by kernel_rfl) ?_
  · intro x hx
    simp only [List.mem_cons, List.not_mem_nil, or_false] at hx
    subst hx; exact ⟨_, rfl, rfl, rfl, fun _ _ => by kernel_rfl⟩
  simp only [List.take_succ_cons, List.take_zero, List.take_nil]
  (try simp only [Act.put, List.setIfInBounds_toArray, List.set_cons_zero, List.set_cons_succ])
  ((with_reducible refine wpX_load (b := ?_) (cs := ?_) ?_ rfl ?_ ?_ ?_ ?_ ?_); rotate_left 2; (focus rfl); (focus rfl); (focus first | assumption | exact blk_rd (by assumption)); (focus kernel_rfl); (focus kernel_rfl); (try simp only [Act.put, List.setIfInBounds_toArray, List.set_cons_zero, List.set_cons_succ]))
  ((with_reducible refine wpX_load (b := ?_) (cs := ?_) ?_ rfl ?_ ?_ ?_ ?_ ?_); rotate_left 2; (focus rfl); (focus rfl); (focus first | assumption | exact blk_rd (by assumption)); (focus kernel_rfl); (focus kernel_rfl); (try simp only [Act.put, List.setIfInBounds_toArray, List.set_cons_zero, List.set_cons_succ]))
  ((with_reducible refine wpX_fn (fun W hW => c_X1 W (GF_ext gf hW)) ?_ rfl ?_ ?_ ?_); (focus rfl); (focus kernel_rfl); (focus rfl); (try simp only [Act.put, List.setIfInBounds_toArray, List.set_cons_zero, List.set_cons_succ]))
  ((with_reducible refine wpX_load (b := ?_) (cs := ?_) ?_ rfl ?_ ?_ ?_ ?_ ?_); rotate_left 2; (focus rfl); (focus rfl); (focus first | assumption | exact blk_rd (by assumption)); (focus kernel_rfl); (focus kernel_rfl); (try simp only [Act.put, List.setIfInBounds_toArray, List.set_cons_zero, List.set_cons_succ]))
  ((with_reducible refine wpX_fn (fun W hW => c_X2 W (GF_ext gf hW)) ?_ rfl ?_ ?_ ?_); (focus rfl); (focus kernel_rfl); (focus rfl); (try simp only [Act.put, List.setIfInBounds_toArray, List.set_cons_zero, List.set_cons_succ]))
  refine wpX_nil ?_
  intro β W1 hE hN hD
  obtain ⟨n_t6_1, k_t6⟩ := hN _ (List.mem_cons_self ..)
  simp only [putAll, Act.put, List.setIfInBounds_toArray, List.set_cons_zero, List.set_cons_succ, List.drop_succ_cons, List.drop_zero, List.drop_nil, List.length_cons, List.length_nil] at n_t6_1 k_t6 ⊢
  generalize β 5 = p6_1 at *
  have sz_1 := bel.size
  clear hN hD β
  refine wpL_store (g := p6_1) (cells := c4 X2) (by rfl) rfl rfl rfl k_t6 (by kernel_rfl) (by kernel_rfl) (by kernel_rfl) ?_
  (try simp only [Act.put, List.setIfInBounds_toArray, List.set_cons_zero, List.set_cons_succ])
  refine wpL_nil ?_
  refine NoPanic.normal (Q := Exit.then _ _) ?_
  have hF : Below w.heap.size w (W1.setRow p6_1 (c4 X2)) ∧ Blk (W1.setRow p6_1 (c4 X2)) w.heap.size (c4 A) 26 ∧ Blk (W1.setRow p6_1 (c4 X2)) (w.heap.size + 1) (c4 B) 26 ∧ Blk (W1.setRow p6_1 (c4 X2)) (w.heap.size + 2) #[.int .u64 0, .int .u64 0, .int .u64 0, .int .u64 0] 26 ∧ Blk (W1.setRow p6_1 (c4 X2)) p6_1 (c4 X2) 26 := ⟨(below_setRow (below_step bel hE bel.size) (by omega) _), (blk_setRow_other (blk_step k_t2 hE) (by omega) _), (blk_setRow_other (blk_step k_t3 hE) (by omega) _), (blk_setRow_other (blk_step k_t4 hE) (by omega) _), (blk_setRow k_t6 (c4 X2))⟩
  generalize (W1.setRow p6_1 (c4 X2)) = W2 at hF ⊢
  clear bel k_t2 k_t3 k_t4 k_t6
  obtain ⟨bel, k_t2, k_t3, k_t4, k_t6⟩ := hF
  go_upto_region 2 with fail
  have lt_t6_2 := blk_lt k_t6
  have gf := GF_ext hG bel
  have gm := gf.1
  have gi : Rd _ 5 imaC := Rd.ext hI bel
  have c_X3 := fMul_c X2 X2 bX2 bX2
  obtain ⟨X3, hX3⟩ : ∃ v_, v_ = X2 * X2 % PP := ⟨_, rfl⟩
  rw [← hX3] at c_X3
  have bX3 : X3 < P256 := by rw [hX3]; exact mod_256 _
  have HX3 := Lib.hid hX3
  clear hX3
  have c_X4 := fMul_c X3 B bX3 hB
  obtain ⟨X4, hX4⟩ : ∃ v_, v_ = X3 * B % PP := ⟨_, rfl⟩
  rw [← hX4] at c_X4
  have bX4 : X4 < P256 := by rw [hX4]; exact mod_256 _
  have HX4 := Lib.hid hX4
  clear hX4
  refine wp_region_xn 5 [⟨5, 7, #[.int .u64 0, .int .u64 0, .int .u64 0, .int .u64 0], 26⟩] (by kernel_rfl) ?_ (by kernel_rfl) ?_
  · intro x hx
    simp only [List.mem_cons, List.not_mem_nil, or_false] at hx
    subst hx; exact ⟨_, rfl, rfl, rfl, fun _ _ => by kernel_rfl⟩
  simp only [List.take_succ_cons, List.take_zero, List.take_nil]
  (try simp only [Act.put, List.setIfInBounds_toArray, List.set_cons_zero, List.set_cons_succ])
  ((with_reducible refine wpX_load (b := ?_) (cs := ?_) ?_ rfl ?_ ?_ ?_ ?_ ?_); rotate_left 2; (focus rfl); (focus rfl); (focus first | assumption | exact blk_rd (by assumption)); (focus kernel_rfl); (focus kernel_rfl); (try simp only [Act.put, List.setIfInBounds_toArray, List.set_cons_zero, List.set_cons_succ]))
  ((with_reducible refine wpX_load (b := ?_) (cs := ?_) ?_ rfl ?_ ?_ ?_ ?_ ?_); rotate_left 2; (focus rfl); (focus rfl); (focus first | assumption | exact blk_rd (by assumption)); (focus kernel_rfl); (focus kernel_rfl); (try simp only [Act.put, List.setIfInBounds_toArray, List.set_cons_zero, List.set_cons_succ]))
  ((with_reducible refine wpX_fn (fun W hW => c_X3 W (GF_ext gf hW)) ?_ rfl ?_ ?_ ?_); (focus rfl); (focus kernel_rfl); (focus rfl); (try simp only [Act.put, List.setIfInBounds_toArray, List.set_cons_zero, List.set_cons_succ]))
  ((with_reducible refine wpX_load (b := ?_) (cs := ?_) ?_ rfl ?_ ?_ ?_ ?_ ?_); rotate_left 2; (focus rfl); (focus rfl); (focus first | assumption | exact blk_rd (by assumption)); (focus kernel_rfl); (focus kernel_rfl); (try simp only [Act.put, List.setIfInBounds_toArray, List.set_cons_zero, List.set_cons_succ]))
  ((with_reducible refine wpX_fn (fun W hW => c_X4 W (GF_ext gf hW)) ?_ rfl ?_ ?_ ?_); (focus rfl); (focus kernel_rfl); (focus rfl); (try simp only [Act.put, List.setIfInBounds_toArray, List.set_cons_zero, List.set_cons_succ]))
  refine wpX_nil ?_
  intro β W3 hE hN hD
  obtain ⟨n_t7_3, k_t7⟩ := hN _ (List.mem_cons_self ..)
  simp only [putAll, Act.put, List.setIfInBounds_toArray, List.set_cons_zero, List.set_cons_succ, List.drop_succ_cons, List.drop_zero, List.drop_nil, List.length_cons, List.length_nil] at n_t7_3 k_t7 ⊢
  generalize β 5 = p7_3 at *
  have sz_3 := bel.size
  clear hN hD β
  refine wpL_store (g := p7_3) (cells := c4 X4) (by rfl) rfl rfl rfl k_t7 (by kernel_rfl) (by kernel_rfl) (by kernel_rfl) ?_
  (try simp only [Act.put, List.setIfInBounds_toArray, List.set_cons_zero, List.set_cons_succ])
  refine wpL_nil ?_
  refine NoPanic.normal (Q := Exit.then _ _) ?_
  have hF : Below w.heap.size w (W3.setRow p7_3 (c4 X4)) ∧ Blk (W3.setRow p7_3 (c4 X4)) w.heap.size (c4 A) 26 ∧ Blk (W3.setRow p7_3 (c4 X4)) (w.heap.size + 1) (c4 B) 26 ∧ Blk (W3.setRow p7_3 (c4 X4)) (w.heap.size + 2) #[.int .u64 0, .int .u64 0, .int .u64 0, .int .u64 0] 26 ∧ Blk (W3.setRow p7_3 (c4 X4)) p6_1 (c4 X2) 26 ∧ Blk (W3.setRow p7_3 (c4 X4)) p7_3 (c4 X4) 26 := ⟨(below_setRow (below_step bel hE bel.size) (by omega) _), (blk_setRow_other (blk_step k_t2 hE) (by omega) _), (blk_setRow_other (blk_step k_t3 hE) (by omega) _), (blk_setRow_other (blk_step k_t4 hE) (by omega) _), (blk_setRow_other (blk_step k_t6 hE) (by omega) _), (blk_setRow k_t7 (c4 X4))⟩
  generalize (W3.setRow p7_3 (c4 X4)) = W4 at hF ⊢
  clear bel k_t2 k_t3 k_t4 k_t6 k_t7
  obtain ⟨bel, k_t2, k_t3, k_t4, k_t6, k_t7⟩ := hF
  go_upto_region 3 with fail
  have lt_t7_4 := blk_lt k_t7
  have gf := GF_ext hG bel
  have gm := gf.1
  have gi : Rd _ 5 imaC := Rd.ext hI bel
  have c_X5 := fMul_c A X2 hA bX2
  obtain ⟨X5, hX5⟩ : ∃ v_, v_ = A * X2 % PP := ⟨_, rfl⟩
  rw [← hX5] at c_X5
  have bX5 : X5 < P256 := by rw [hX5]; exact mod_256 _
  have HX5 := Lib.hid hX5
  clear hX5
  have c_X6 := fMul_c A X4 hA bX4
  obtain ⟨X6, hX6⟩ : ∃ v_, v_ = A * X4 % PP := ⟨_, rfl⟩
  rw [← hX6] at c_X6
  have bX6 : X6 < P256 := by rw [hX6]; exact mod_256 _
  have HX6 := Lib.hid hX6
  clear hX6
  have c_X7 := fPow_c X6 7237005577332262213973186563042994240829374041602535252466099000494570602493 bX6 (by decide)
  obtain ⟨X7, hX7⟩ : ∃ v_, v_ = pw X6 7237005577332262213973186563042994240829374041602535252466099000494570602493 := ⟨_, rfl⟩
  rw [← hX7] at c_X7
  have bX7 : X7 < P256 := by rw [hX7]; exact pw_lt _ _
  have HX7 := Lib.hid hX7
  clear hX7
  have c_X8 := fMul_c X5 X7 bX5 bX7
  obtain ⟨X8, hX8⟩ : ∃ v_, v_ = X5 * X7 % PP := ⟨_, rfl⟩
  rw [← hX8] at c_X8
  have bX8 : X8 < P256 := by rw [hX8]; exact mod_256 _
  have HX8 := Lib.hid hX8
  clear hX8
  refine wp_region_xn 9 [⟨9, 8, #[.int .u64 0, .int .u64 0, .int .u64 0, .int .u64 0], 26⟩] (by kernel_rfl) ?_ (by kernel_rfl) ?_
  · intro x hx
    simp only [List.mem_cons, List.not_mem_nil, or_false] at hx
    subst hx; exact ⟨_, rfl, rfl, rfl, fun _ _ => by kernel_rfl⟩
  simp only [List.take_succ_cons, List.take_zero, List.take_nil]
  (try simp only [Act.put, List.setIfInBounds_toArray, List.set_cons_zero, List.set_cons_succ])
  ((with_reducible refine wpX_load (b := ?_) (cs := ?_) ?_ rfl ?_ ?_ ?_ ?_ ?_); rotate_left 2; (focus rfl); (focus rfl); (focus first | assumption | exact blk_rd (by assumption)); (focus kernel_rfl); (focus kernel_rfl); (try simp only [Act.put, List.setIfInBounds_toArray, List.set_cons_zero, List.set_cons_succ]))
  ((with_reducible refine wpX_load (b := ?_) (cs := ?_) ?_ rfl ?_ ?_ ?_ ?_ ?_); rotate_left 2; (focus rfl); (focus rfl); (focus first | assumption | exact blk_rd (by assumption)); (focus kernel_rfl); (focus kernel_rfl); (try simp only [Act.put, List.setIfInBounds_toArray, List.set_cons_zero, List.set_cons_succ]))
  ((with_reducible refine wpX_fn (fun W hW => c_X5 W (GF_ext gf hW)) ?_ rfl ?_ ?_ ?_); (focus rfl); (focus kernel_rfl); (focus rfl); (try simp only [Act.put, List.setIfInBounds_toArray, List.set_cons_zero, List.set_cons_succ]))
  ((with_reducible refine wpX_load (b := ?_) (cs := ?_) ?_ rfl ?_ ?_ ?_ ?_ ?_); rotate_left 2; (focus rfl); (focus rfl); (focus first | assumption | exact blk_rd (by assumption)); (focus kernel_rfl); (focus kernel_rfl); (try simp only [Act.put, List.setIfInBounds_toArray, List.set_cons_zero, List.set_cons_succ]))
  ((with_reducible refine wpX_load (b := ?_) (cs := ?_) ?_ rfl ?_ ?_ ?_ ?_ ?_); rotate_left 2; (focus rfl); (focus rfl); (focus first | assumption | exact blk_rd (by assumption)); (focus kernel_rfl); (focus kernel_rfl); (try simp only [Act.put, List.setIfInBounds_toArray, List.set_cons_zero, List.set_cons_succ]))
  ((with_reducible refine wpX_fn (fun W hW => c_X6 W (GF_ext gf hW)) ?_ rfl ?_ ?_ ?_); (focus rfl); (focus kernel_rfl); (focus rfl); (try simp only [Act.put, List.setIfInBounds_toArray, List.set_cons_zero, List.set_cons_succ]))
  (refine wpX_val (v := ?_) (by rfl) (fun W hW => ?_) ?_; rotate_left 1; (focus (go_simp; first | done | with_reducible rfl)); (try simp only [Act.put, List.setIfInBounds_toArray, List.set_cons_zero, List.set_cons_succ]))
  ((with_reducible refine wpX_fn (fun W hW => c_X7 W (GF_ext gf hW)) ?_ rfl ?_ ?_ ?_); (focus rfl); (focus kernel_rfl); (focus rfl); (try simp only [Act.put, List.setIfInBounds_toArray, List.set_cons_zero, List.set_cons_succ]))
  ((with_reducible refine wpX_fn (fun W hW => c_X8 W (GF_ext gf hW)) ?_ rfl ?_ ?_ ?_); (focus rfl); (focus kernel_rfl); (focus rfl); (try simp only [Act.put, List.setIfInBounds_toArray, List.set_cons_zero, List.set_cons_succ]))
  refine wpX_nil ?_
  intro β W5 hE hN hD
  obtain ⟨n_t8_5, k_t8⟩ := hN _ (List.mem_cons_self ..)
  simp only [putAll, Act.put, List.setIfInBounds_toArray, List.set_cons_zero, List.set_cons_succ, List.drop_succ_cons, List.drop_zero, List.drop_nil, List.length_cons, List.length_nil] at n_t8_5 k_t8 ⊢
  generalize β 9 = p8_5 at *
  have sz_5 := bel.size
  clear hN hD β
  refine wpL_store (g := p8_5) (cells := c4 X8) (by rfl) rfl rfl rfl k_t8 (by kernel_rfl) (by kernel_rfl) (by kernel_rfl) ?_
  (try simp only [Act.put, List.setIfInBounds_toArray, List.set_cons_zero, List.set_cons_succ])
  refine wpL_nil ?_
  refine NoPanic.normal (Q := Exit.then _ _) ?_
  have hF : Below w.heap.size w (W5.setRow p8_5 (c4 X8)) ∧ Blk (W5.setRow p8_5 (c4 X8)) w.heap.size (c4 A) 26 ∧ Blk (W5.setRow p8_5 (c4 X8)) (w.heap.size + 1) (c4 B) 26 ∧ Blk (W5.setRow p8_5 (c4 X8)) (w.heap.size + 2) #[.int .u64 0, .int .u64 0, .int .u64 0, .int .u64 0] 26 ∧ Blk (W5.setRow p8_5 (c4 X8)) p6_1 (c4 X2) 26 ∧ Blk (W5.setRow p8_5 (c4 X8)) p7_3 (c4 X4) 26 ∧ Blk (W5.setRow p8_5 (c4 X8)) p8_5 (c4 X8) 26 := ⟨(below_setRow (below_step bel hE bel.size) (by omega) _), (blk_setRow_other (blk_step k_t2 hE) (by omega) _), (blk_setRow_other (blk_step k_t3 hE) (by omega) _), (blk_setRow_other (blk_step k_t4 hE) (by omega) _), (blk_setRow_other (blk_step k_t6 hE) (by omega) _), (blk_setRow_other (blk_step k_t7 hE) (by omega) _), (blk_setRow k_t8 (c4 X8))⟩
  generalize (W5.setRow p8_5 (c4 X8)) = W6 at hF ⊢
  clear bel k_t2 k_t3 k_t4 k_t6 k_t7 k_t8
  obtain ⟨bel, k_t2, k_t3, k_t4, k_t6, k_t7, k_t8⟩ := hF
  go_upto_region 4 with fail
  have lt_t8_6 := blk_lt k_t8
  have gf := GF_ext hG bel
  have gm := gf.1
  have gi : Rd _ 5 imaC := Rd.ext hI bel
  have c_X9 := fMul_c X8 X8 bX8 bX8
  obtain ⟨X9, hX9⟩ : ∃ v_, v_ = X8 * X8 % PP := ⟨_, rfl⟩
  rw [← hX9] at c_X9
  have bX9 : X9 < P256 := by rw [hX9]; exact mod_256 _
  have HX9 := Lib.hid hX9
  clear hX9
  have c_X10 := fMul_c B X9 hB bX9
  obtain ⟨X10, hX10⟩ : ∃ v_, v_ = B * X9 % PP := ⟨_, rfl⟩
  rw [← hX10] at c_X10
  have bX10 : X10 < P256 := by rw [hX10]; exact mod_256 _
  have HX10 := Lib.hid hX10
  clear hX10
  refine wp_region_xn 5 [⟨5, 9, #[.int .u64 0, .int .u64 0, .int .u64 0, .int .u64 0], 26⟩] (by kernel_rfl) ?_ (by kernel_rfl) ?_
  · intro x hx
    simp only [List.mem_cons, List.not_mem_nil, or_false] at hx
    subst hx; exact ⟨_, rfl, rfl, rfl, fun _ _ => by kernel_rfl⟩
  simp only [List.take_succ_cons, List.take_zero, List.take_nil]
  (try simp only [Act.put, List.setIfInBounds_toArray, List.set_cons_zero, List.set_cons_succ])
  ((with_reducible refine wpX_load (b := ?_) (cs := ?_) ?_ rfl ?_ ?_ ?_ ?_ ?_); rotate_left 2; (focus rfl); (focus rfl); (focus first | assumption | exact blk_rd (by assumption)); (focus kernel_rfl); (focus kernel_rfl); (try simp only [Act.put, List.setIfInBounds_toArray, List.set_cons_zero, List.set_cons_succ]))
  ((with_reducible refine wpX_load (b := ?_) (cs := ?_) ?_ rfl ?_ ?_ ?_ ?_ ?_); rotate_left 2; (focus rfl); (focus rfl); (focus first | assumption | exact blk_rd (by assumption)); (focus kernel_rfl); (focus kernel_rfl); (try simp only [Act.put, List.setIfInBounds_toArray, List.set_cons_zero, List.set_cons_succ]))
  ((with_reducible refine wpX_load (b := ?_) (cs := ?_) ?_ rfl ?_ ?_ ?_ ?_ ?_); rotate_left 2; (focus rfl); (focus rfl); (focus first | assumption | exact blk_rd (by assumption)); (focus kernel_rfl); (focus kernel_rfl); (try simp only [Act.put, List.setIfInBounds_toArray, List.set_cons_zero, List.set_cons_succ]))
  ((with_reducible refine wpX_fn (fun W hW => c_X9 W (GF_ext gf hW)) ?_ rfl ?_ ?_ ?_); (focus rfl); (focus kernel_rfl); (focus rfl); (try simp only [Act.put, List.setIfInBounds_toArray, List.set_cons_zero, List.set_cons_succ]))
  ((with_reducible refine wpX_fn (fun W hW => c_X10 W (GF_ext gf hW)) ?_ rfl ?_ ?_ ?_); (focus rfl); (focus kernel_rfl); (focus rfl); (try simp only [Act.put, List.setIfInBounds_toArray, List.set_cons_zero, List.set_cons_succ]))
  refine wpX_nil ?_
  intro β W7 hE hN hD
  obtain ⟨n_t9_7, k_t9⟩ := hN _ (List.mem_cons_self ..)
  simp only [putAll, Act.put, List.setIfInBounds_toArray, List.set_cons_zero, List.set_cons_succ, List.drop_succ_cons, List.drop_zero, List.drop_nil, List.length_cons, List.length_nil] at n_t9_7 k_t9 ⊢
  generalize β 5 = p9_7 at *
  have sz_7 := bel.size
  clear hN hD β
  refine wpL_store (g := p9_7) (cells := c4 X10) (by rfl) rfl rfl rfl k_t9 (by kernel_rfl) (by kernel_rfl) (by kernel_rfl) ?_
  (try simp only [Act.put, List.setIfInBounds_toArray, List.set_cons_zero, List.set_cons_succ])
  refine wpL_nil ?_
  refine NoPanic.normal (Q := Exit.then _ _) ?_
  have hF : Below w.heap.size w (W7.setRow p9_7 (c4 X10)) ∧ Blk (W7.setRow p9_7 (c4 X10)) w.heap.size (c4 A) 26 ∧ Blk (W7.setRow p9_7 (c4 X10)) (w.heap.size + 1) (c4 B) 26 ∧ Blk (W7.setRow p9_7 (c4 X10)) (w.heap.size + 2) #[.int .u64 0, .int .u64 0, .int .u64 0, .int .u64 0] 26 ∧ Blk (W7.setRow p9_7 (c4 X10)) p6_1 (c4 X2) 26 ∧ Blk (W7.setRow p9_7 (c4 X10)) p7_3 (c4 X4) 26 ∧ Blk (W7.setRow p9_7 (c4 X10)) p8_5 (c4 X8) 26 ∧ Blk (W7.setRow p9_7 (c4 X10)) p9_7 (c4 X10) 26 := ⟨(below_setRow (below_step bel hE bel.size) (by omega) _), (blk_setRow_other (blk_step k_t2 hE) (by omega) _), (blk_setRow_other (blk_step k_t3 hE) (by omega) _), (blk_setRow_other (blk_step k_t4 hE) (by omega) _), (blk_setRow_other (blk_step k_t6 hE) (by omega) _), (blk_setRow_other (blk_step k_t7 hE) (by omega) _), (blk_setRow_other (blk_step k_t8 hE) (by omega) _), (blk_setRow k_t9 (c4 X10))⟩
  generalize (W7.setRow p9_7 (c4 X10)) = W8 at hF ⊢
  clear bel k_t2 k_t3 k_t4 k_t6 k_t7 k_t8 k_t9
  obtain ⟨bel, k_t2, k_t3, k_t4, k_t6, k_t7, k_t8, k_t9⟩ := hF
  go_upto_region 5 with fail
  have lt_t9_8 := blk_lt k_t9
  have gf := GF_ext hG bel
  have gm := gf.1
  have gi : Rd _ 5 imaC := Rd.ext hI bel
  have hw : X10 = rtW A B := by rw [HX10.out, HX9.out, HX8.out, HX7.out, HX6.out, HX5.out, HX4.out, HX3.out, HX2.out, HX1.out]; rfl
  have c_m11 := fSame_c X10 A bX10 hA
  rw [hw, rtW_mod, decide_eq_true h1, ← hw] at c_m11
  have HW := Lib.hid hw
  clear hw
  refine wp_region_pn 4 [] (fun x hx => by cases hx) (by kernel_rfl) ?_
  simp only [List.take_succ_cons, List.take_zero, List.take_nil]
  (try simp only [Act.put, List.setIfInBounds_toArray, List.set_cons_zero, List.set_cons_succ])
  ((with_reducible refine wpX_load (b := ?_) (cs := ?_) ?_ rfl ?_ ?_ ?_ ?_ ?_); rotate_left 2; (focus rfl); (focus rfl); (focus first | assumption | exact blk_rd (by assumption)); (focus kernel_rfl); (focus kernel_rfl); (try simp only [Act.put, List.setIfInBounds_toArray, List.set_cons_zero, List.set_cons_succ]))
  ((with_reducible refine wpX_load (b := ?_) (cs := ?_) ?_ rfl ?_ ?_ ?_ ?_ ?_); rotate_left 2; (focus rfl); (focus rfl); (focus first | assumption | exact blk_rd (by assumption)); (focus kernel_rfl); (focus kernel_rfl); (try simp only [Act.put, List.setIfInBounds_toArray, List.set_cons_zero, List.set_cons_succ]))
  ((with_reducible refine wpX_fn (fun W hW => c_m11 W (GF_ext gf hW)) ?_ rfl ?_ ?_ ?_); (focus rfl); (focus kernel_rfl); (focus rfl); (try simp only [Act.put, List.setIfInBounds_toArray, List.set_cons_zero, List.set_cons_succ]))
  (refine wpX_val (v := ?_) (by rfl) (fun W hW => ?_) ?_; rotate_left 1; (focus (go_simp; first | done | with_reducible rfl)); (try simp only [Act.put, List.setIfInBounds_toArray, List.set_cons_zero, List.set_cons_succ]))
  refine wpX_nil ?_
  intro β W9 hE hN hD
  simp only [putAll, Act.put, List.setIfInBounds_toArray, List.set_cons_zero, List.set_cons_succ, List.drop_succ_cons, List.drop_zero, List.drop_nil, List.length_cons, List.length_nil]
  clear hN hD β
  refine wpL_nil ?_
  have hF : Below w.heap.size w W9 ∧ Blk W9 w.heap.size (c4 A) 26 ∧ Blk W9 (w.heap.size + 1) (c4 B) 26 ∧ Blk W9 (w.heap.size + 2) #[.int .u64 0, .int .u64 0, .int .u64 0, .int .u64 0] 26 ∧ Blk W9 p6_1 (c4 X2) 26 ∧ Blk W9 p7_3 (c4 X4) 26 ∧ Blk W9 p8_5 (c4 X8) 26 ∧ Blk W9 p9_7 (c4 X10) 26 := ⟨(below_step bel hE bel.size), (blk_step k_t2 hE), (blk_step k_t3 hE), (blk_step k_t4 hE), (blk_step k_t6 hE), (blk_step k_t7 hE), (blk_step k_t8 hE), (blk_step k_t9 hE)⟩
  clear bel k_t2 k_t3 k_t4 k_t6 k_t7 k_t8 k_t9
  obtain ⟨bel, k_t2, k_t3, k_t4, k_t6, k_t7, k_t8, k_t9⟩ := hF
  go_upto_region 6 with fail
  have lt_t9_9 := blk_lt k_t9
  have gf := GF_ext hG bel
  have gm := gf.1
  have gi : Rd _ 5 imaC := Rd.ext hI bel
  refine wp_region_pn 1 [] (fun x hx => by cases hx) (by kernel_rfl) ?_
  simp only [List.take_succ_cons, List.take_zero, List.take_nil]
  (try simp only [Act.put, List.setIfInBounds_toArray, List.set_cons_zero, List.set_cons_succ])
  ((with_reducible refine wpX_load (b := ?_) (cs := ?_) ?_ rfl ?_ ?_ ?_ ?_ ?_); rotate_left 2; (focus rfl); (focus rfl); (focus first | assumption | exact blk_rd (by assumption)); (focus kernel_rfl); (focus kernel_rfl); (try simp only [Act.put, List.setIfInBounds_toArray, List.set_cons_zero, List.set_cons_succ]))
  refine wpX_nil ?_
  intro β W10 hE hN hD
  simp only [putAll, Act.put, List.setIfInBounds_toArray, List.set_cons_zero, List.set_cons_succ, List.drop_succ_cons, List.drop_zero, List.drop_nil, List.length_cons, List.length_nil]
  clear hN hD β
  refine wpL_store (g := (w.heap.size + 2)) (cells := c4 X8) (by rfl) rfl rfl rfl (blk_step k_t4 hE) (by kernel_rfl) (by kernel_rfl) (by kernel_rfl) ?_
  (try simp only [Act.put, List.setIfInBounds_toArray, List.set_cons_zero, List.set_cons_succ])
  (refine wpL_val (v := ?_) (by rfl) ?_ ?_; rotate_left 1; (focus (go_simp; first | done | with_reducible rfl)))
  (try simp only [Act.put, List.setIfInBounds_toArray, List.set_cons_zero, List.set_cons_succ])
  refine wpL_nil ?_
  have hF : Below w.heap.size w (W10.setRow (w.heap.size + 2) (c4 X8)) ∧ Blk (W10.setRow (w.heap.size + 2) (c4 X8)) w.heap.size (c4 A) 26 ∧ Blk (W10.setRow (w.heap.size + 2) (c4 X8)) (w.heap.size + 1) (c4 B) 26 ∧ Blk (W10.setRow (w.heap.size + 2) (c4 X8)) (w.heap.size + 2) (c4 X8) 26 ∧ Blk (W10.setRow (w.heap.size + 2) (c4 X8)) p6_1 (c4 X2) 26 ∧ Blk (W10.setRow (w.heap.size + 2) (c4 X8)) p7_3 (c4 X4) 26 ∧ Blk (W10.setRow (w.heap.size + 2) (c4 X8)) p8_5 (c4 X8) 26 ∧ Blk (W10.setRow (w.heap.size + 2) (c4 X8)) p9_7 (c4 X10) 26 := ⟨(below_setRow (below_step bel hE bel.size) (by omega) _), (blk_setRow_other (blk_step k_t2 hE) (by omega) _), (blk_setRow_other (blk_step k_t3 hE) (by omega) _), (blk_setRow (blk_step k_t4 hE) (c4 X8)), (blk_setRow_other (blk_step k_t6 hE) (by omega) _), (blk_setRow_other (blk_step k_t7 hE) (by omega) _), (blk_setRow_other (blk_step k_t8 hE) (by omega) _), (blk_setRow_other (blk_step k_t9 hE) (by omega) _)⟩
  generalize (W10.setRow (w.heap.size + 2) (c4 X8)) = W11 at hF ⊢
  clear bel k_t2 k_t3 k_t4 k_t6 k_t7 k_t8 k_t9
  obtain ⟨bel, k_t2, k_t3, k_t4, k_t6, k_t7, k_t8, k_t9⟩ := hF
  go_wp2
  refine bodyPost_ret (res_row2 rfl rfl rfl k_t4 (by kernel_rfl) (by kernel_rfl)) rfl ⟨?_, bel⟩
  rw [HX8.out, HX7.out, HX6.out, HX5.out, HX4.out, HX3.out, HX2.out, HX1.out]; rfl
set_option maxHeartbeats 4000000 in
theorem fRoot_2 (A B : Nat) (hA : A < P256) (hB : B < P256) (h1 : ¬ rtW A B = A % PP) (h2 : rtW A B = (PP - A % PP) % PP) (w : World) (hG : GF w) (hI : GI w) :
    Calls Tryd.prog 35 #[L4 A, L4 B] w fun e w' => Ret (.tuple #[L4 (rtX A B * II % PP), .bool true]) w w' e := by
  go_enter Tryd.func35, Tryd.ntmps35
  go_upto_region 1 with fail
  refine wp_world (fun W => Below w.heap.size w W ∧ Blk W w.heap.size (c4 A) 26 ∧ Blk W (w.heap.size + 1) (c4 B) 26 ∧ Blk W (w.heap.size + 2) #[.int .u64 0, .int .u64 0, .int .u64 0, .int .u64 0] 26) ⟨(by (repeat' (first | (with_reducible assumption) | (with_reducible exact Below.refl _ _) | (with_reducible refine Below.drew ?_) | (with_reducible refine Below.alloc ?_ ?_ _) | (with_reducible refine below_set ?_ ?_ _ _) | (with_reducible refine below_setRow ?_ ?_ _) | (with_reducible refine below_step ?_ (by assumption) ?_))) <;> (first | omega | ((try simp only [World.size_alloc, World.size_setCell, World.size_drew, size_setRow]); omega))), blk_alloc (blk_alloc (blk_new _ _ rfl) _) _, blk_alloc (blk_new _ _ (by simp)) _, blk_new _ _ (by simp)⟩ ?_
  rintro W0 ⟨bel, k_t2, k_t3, k_t4⟩
  have lt_t2_0 := blk_lt k_t2
  have lt_t3_0 := blk_lt k_t3
  have lt_t4_0 := blk_lt k_t4
  have gf := GF_ext hG bel
  have gm := gf.1
  have gi : Rd _ 5 imaC := Rd.ext hI bel
  have c_X1 := fMul_c B B hB hB
  obtain ⟨X1, hX1⟩ : ∃ v_, v_ = B * B % PP := ⟨_, rfl⟩
  rw [← hX1] at c_X1
  have bX1 : X1 < P256 := by rw [hX1]; exact mod_256 _
  have HX1 := Lib.hid hX1
  clear hX1
  have c_X2 := fMul_c X1 B bX1 hB
  obtain ⟨X2, hX2⟩ : ∃ v_, v_ = X1 * B % PP := ⟨_, rfl⟩
  rw [← hX2] at c_X2
  have bX2 : X2 < P256 := by rw [hX2]; exact mod_256 _
  have HX2 := Lib.hid hX2
  clear hX2
  refine wp_region_xn 5 [⟨5, 6, #[.int .u64 0, .int .u64 0, .int .u64 0, .int .u64 0], 26⟩] (by kernel_rfl) ?_ (by kernel_rfl) ?_
  · intro x hx
    simp only [List.mem_cons, List.not_mem_nil, or_false] at hx
    subst hx; exact ⟨_, rfl, rfl, rfl, fun _ _ => by kernel_rfl⟩
  simp only [List.take_succ_cons, List.take_zero, List.take_nil]
  (try simp only [Act.put, List.setIfInBounds_toArray, List.set_cons_zero, List.set_cons_succ])
  ((with_reducible refine wpX_load (b := ?_) (cs := ?_) ?_ rfl ?_ ?_ ?_ ?_ ?_); rotate_left 2; (focus rfl); (focus rfl); (focus first | assumption | exact blk_rd (by assumption)); (focus kernel_rfl); (focus kernel_rfl); (try simp only [Act.put, List.setIfInBounds_toArray, List.set_cons_zero, List.set_cons_succ]))
  ((with_reducible refine wpX_load (b := ?_) (cs := ?_) ?_ rfl ?_ ?_ ?_ ?_ ?_); rotate_left 2; (focus rfl); (focus rfl); (focus first | assumption | exact blk_rd (by assumption)); (focus kernel_rfl); (focus kernel_rfl); (try simp only [Act.put, List.setIfInBounds_toArray, List.set_cons_zero, List.set_cons_succ]))
  ((with_reducible refine wpX_fn (fun W hW => c_X1 W (GF_ext gf hW)) ?_ rfl ?_ ?_ ?_); (focus rfl); (focus kernel_rfl); (focus rfl); (try simp only [Act.put, List.setIfInBounds_toArray, List.set_cons_zero, List.set_cons_succ]))
  ((with_reducible refine wpX_load (b := ?_) (cs := ?_) ?_ rfl ?_ ?_ ?_ ?_ ?_); rotate_left 2; (focus rfl); (focus rfl); (focus first | assumption | exact blk_rd (by assumption)); (focus kernel_rfl); (focus kernel_rfl); (try simp only [Act.put, List.setIfInBounds_toArray, List.set_cons_zero, List.set_cons_succ]))
  ((with_reducible refine wpX_fn (fun W hW => c_X2 W (GF_ext gf hW)) ?_ rfl ?_ ?_ ?_); (focus rfl); (focus kernel_rfl); (focus rfl); (try simp only [Act.put, List.setIfInBounds_toArray, List.set_cons_zero, List.set_cons_succ]))
  refine wpX_nil ?_
  intro β W1 hE hN hD
  obtain ⟨n_t6_1, k_t6⟩ := hN _ (List.mem_cons_self ..)
  simp only [putAll, Act.put, List.setIfInBounds_toArray, List.set_cons_zero, List.set_cons_succ, List.drop_succ_cons, List.drop_zero, List.drop_nil, List.length_cons, List.length_nil] at n_t6_1 k_t6 ⊢
  generalize β 5 = p6_1 at *
  have sz_1 := bel.size
  clear hN hD β
  refine wpL_store (g := p6_1) (cells := c4 X2) (by rfl) rfl rfl rfl k_t6 (by kernel_rfl) (by kernel_rfl) (by kernel_rfl) ?_
  (try simp only [Act.put, List.setIfInBounds_toArray, List.set_cons_zero, List.set_cons_succ])
  refine wpL_nil ?_
  refine NoPanic.normal (Q := Exit.then _ _) ?_
  have hF : Below w.heap.size w (W1.setRow p6_1 (c4 X2)) ∧ Blk (W1.setRow p6_1 (c4 X2)) w.heap.size (c4 A) 26 ∧ Blk (W1.setRow p6_1 (c4 X2)) (w.heap.size + 1) (c4 B) 26 ∧ Blk (W1.setRow p6_1 (c4 X2)) (w.heap.size + 2) #[.int .u64 0, .int .u64 0, .int .u64 0, .int .u64 0] 26 ∧ Blk (W1.setRow p6_1 (c4 X2)) p6_1 (c4 X2) 26 := ⟨(below_setRow (below_step bel hE bel.size) (by omega) _), (blk_setRow_other (blk_step k_t2 hE) (by omega) _), (blk_setRow_other (blk_step k_t3 hE) (by omega) _), (blk_setRow_other (blk_step k_t4 hE) (by omega) _), (blk_setRow k_t6 (c4 X2))⟩
  generalize (W1.setRow p6_1 (c4 X2)) = W2 at hF ⊢
  clear bel k_t2 k_t3 k_t4 k_t6
  obtain ⟨bel, k_t2, k_t3, k_t4, k_t6⟩ := hF
  go_upto_region 2 with fail
  have lt_t6_2 := blk_lt k_t6
  have gf := GF_ext hG bel
  have gm := gf.1
  have gi : Rd _ 5 imaC := Rd.ext hI bel
  have c_X3 := fMul_c X2 X2 bX2 bX2
  obtain ⟨X3, hX3⟩ : ∃ v_, v_ = X2 * X2 % PP := ⟨_, rfl⟩
  rw [← hX3] at c_X3
  have bX3 : X3 < P256 := by rw [hX3]; exact mod_256 _
  have HX3 := Lib.hid hX3
  clear hX3
  have c_X4 := fMul_c X3 B bX3 hB
  obtain ⟨X4, hX4⟩ : ∃ v_, v_ = X3 * B % PP := ⟨_, rfl⟩
  rw [← hX4] at c_X4
  have bX4 : X4 < P256 := by rw [hX4]; exact mod_256 _
  have HX4 := Lib.hid hX4
  clear hX4
  refine wp_region_xn 5 [⟨5, 7, #[.int .u64 0, .int .u64 0, .int .u64 0, .int .u64 0], 26⟩] (by kernel_rfl) ?_ (by kernel_rfl) ?_
  · intro x hx
    simp only [List.mem_cons, List.not_mem_nil, or_false] at hx
    subst hx; exact ⟨_, rfl, rfl, rfl, fun _ _ => by kernel_rfl⟩
  simp only [List.take_succ_cons, List.take_zero, List.take_nil]
  (try simp only [Act.put, List.setIfInBounds_toArray, List.set_cons_zero, List.set_cons_succ])
  ((with_reducible refine wpX_load (b := ?_) (cs := ?_) ?_ rfl ?_ ?_ ?_ ?_ ?_); rotate_left 2; (focus rfl); (focus rfl); (focus first | assumption | exact blk_rd (by assumption)); (focus kernel_rfl); (focus kernel_rfl); (try simp only [Act.put, List.setIfInBounds_toArray, List.set_cons_zero, List.set_cons_succ]))
  ((with_reducible refine wpX_load (b := ?_) (cs := ?_) ?_ rfl ?_ ?_ ?_ ?_ ?_); rotate_left 2; (focus rfl); (focus rfl); (focus first | assumption | exact blk_rd (by assumption)); (focus kernel_rfl); (focus kernel_rfl); (try simp only [Act.put, List.setIfInBounds_toArray, List.set_cons_zero, List.set_cons_succ]))
  ((with_reducible refine wpX_fn (fun W hW => c_X3 W (GF_ext gf hW)) ?_ rfl ?_ ?_ ?_); (focus rfl); (focus kernel_rfl); (focus rfl); (try simp only [Act.put, List.setIfInBounds_toArray, List.set_cons_zero, List.set_cons_succ]))
  ((with_reducible refine wpX_load (b := ?_) (cs := ?_) ?_ rfl ?_ ?_ ?_ ?_ ?_); rotate_left 2; (focus rfl); (focus rfl); (focus first | assumption | exact blk_rd (by assumption)); (focus kernel_rfl); (focus kernel_rfl); (try simp only [Act.put, List.setIfInBounds_toArray, List.set_cons_zero, List.set_cons_succ]))
  ((with_reducible refine wpX_fn (fun W hW => c_X4 W (GF_ext gf hW)) ?_ rfl ?_ ?_ ?_); (focus rfl); (focus kernel_rfl); (focus rfl); (try simp only [Act.put, List.setIfInBounds_toArray, List.set_cons_zero, List.set_cons_succ]))
  refine wpX_nil ?_
  intro β W3 hE hN hD
  obtain ⟨n_t7_3, k_t7⟩ := hN _ (List.mem_cons_self ..)
  simp only [putAll, Act.put, List.setIfInBounds_toArray, List.set_cons_zero, List.set_cons_succ, List.drop_succ_cons, List.drop_zero, List.drop_nil, List.length_cons, List.length_nil] at n_t7_3 k_t7 ⊢
  generalize β 5 = p7_3 at *
  have sz_3 := bel.size
  clear hN hD β
  refine wpL_store (g := p7_3) (cells := c4 X4) (by rfl) rfl rfl rfl k_t7 (by kernel_rfl) (by kernel_rfl) (by kernel_rfl) ?_
  (try simp only [Act.put, List.setIfInBounds_toArray, List.set_cons_zero, List.set_cons_succ])
  refine wpL_nil ?_
  refine NoPanic.normal (Q := Exit.then _ _) ?_
  have hF : Below w.heap.size w (W3.setRow p7_3 (c4 X4)) ∧ Blk (W3.setRow p7_3 (c4 X4)) w.heap.size (c4 A) 26 ∧ Blk (W3.setRow p7_3 (c4 X4)) (w.heap.size + 1) (c4 B) 26 ∧ Blk (W3.setRow p7_3 (c4 X4)) (w.heap.size + 2) #[.int .u64 0, .int .u64 0, .int .u64 0, .int .u64 0] 26 ∧ Blk (W3.setRow p7_3 (c4 X4)) p6_1 (c4 X2) 26 ∧ Blk (W3.setRow p7_3 (c4 X4)) p7_3 (c4 X4) 26 := ⟨(below_setRow (below_step bel hE bel.size) (by omega) _), (blk_setRow_other (blk_step k_t2 hE) (by omega) _), (blk_setRow_other (blk_step k_t3 hE) (by omega) _), (blk_setRow_other (blk_step k_t4 hE) (by omega) _), (blk_setRow_other (blk_step k_t6 hE) (by omega) _), (blk_setRow k_t7 (c4 X4))⟩
  generalize (W3.setRow p7_3 (c4 X4)) = W4 at hF ⊢
  clear bel k_t2 k_t3 k_t4 k_t6 k_t7
  obtain ⟨bel, k_t2, k_t3, k_t4, k_t6, k_t7⟩ := hF
  go_upto_region 3 with fail
  have lt_t7_4 := blk_lt k_t7
  have gf := GF_ext hG bel
  have gm := gf.1
  have gi : Rd _ 5 imaC := Rd.ext hI bel
  have c_X5 := fMul_c A X2 hA bX2
  obtain ⟨X5, hX5⟩ : ∃ v_, v_ = A * X2 % PP := ⟨_, rfl⟩
  rw [← hX5] at c_X5
  have bX5 : X5 < P256 := by rw [hX5]; exact mod_256 _
  have HX5 := Lib.hid hX5
  clear hX5
  have c_X6 := fMul_c A X4 hA bX4
  obtain ⟨X6, hX6⟩ : ∃ v_, v_ = A * X4 % PP := ⟨_, rfl⟩
  rw [← hX6] at c_X6
  have bX6 : X6 < P256 := by rw [hX6]; exact mod_256 _
  have HX6 := Lib.hid hX6
  clear hX6
  have c_X7 := fPow_c X6 7237005577332262213973186563042994240829374041602535252466099000494570602493 bX6 (by decide)
  obtain ⟨X7, hX7⟩ : ∃ v_, v_ = pw X6 7237005577332262213973186563042994240829374041602535252466099000494570602493 := ⟨_, rfl⟩
  rw [← hX7] at c_X7
  have bX7 : X7 < P256 := by rw [hX7]; exact pw_lt _ _
  have HX7 := Lib.hid hX7
  clear hX7
  have c_X8 := fMul_c X5 X7 bX5 bX7
  obtain ⟨X8, hX8⟩ : ∃ v_, v_ = X5 * X7 % PP := ⟨_, rfl⟩
  rw [← hX8] at c_X8
  have bX8 : X8 < P256 := by rw [hX8]; exact mod_256 _
  have HX8 := Lib.hid hX8
  clear hX8
  refine wp_region_xn 9 [⟨9, 8, #[.int .u64 0, .int .u64 0, .int .u64 0, .int .u64 0], 26⟩] (by kernel_rfl) ?_ (by kernel_rfl) ?_
  · intro x hx
    simp only [List.mem_cons, List.not_mem_nil, or_false] at hx
    subst hx; exact ⟨_, rfl, rfl, rfl, fun _ _ => by kernel_rfl⟩
  simp only [List.take_succ_cons, List.take_zero, List.take_nil]
  (try simp only [Act.put, List.setIfInBounds_toArray, List.set_cons_zero, List.set_cons_succ])
  ((with_reducible refine wpX_load (b := ?_) (cs := ?_) ?_ rfl ?_ ?_ ?_ ?_ ?_); rotate_left 2; (focus rfl); (focus rfl); (focus first | assumption | exact blk_rd (by assumption)); (focus kernel_rfl); (focus kernel_rfl); (try simp only [Act.put, List.setIfInBounds_toArray, List.set_cons_zero, List.set_cons_succ]))
  ((with_reducible refine wpX_load (b := ?_) (cs := ?_) ?_ rfl ?_ ?_ ?_ ?_ ?_); rotate_left 2; (focus rfl); (focus rfl); (focus first | assumption | exact blk_rd (by assumption)); (focus kernel_rfl); (focus kernel_rfl); (try simp only [Act.put, List.setIfInBounds_toArray, List.set_cons_zero, List.set_cons_succ]))
  ((with_reducible refine wpX_fn (fun W hW => c_X5 W (GF_ext gf hW)) ?_ rfl ?_ ?_ ?_); (focus rfl); (focus kernel_rfl); (focus rfl); (try simp only [Act.put, List.setIfInBounds_toArray, List.set_cons_zero, List.set_cons_succ]))
  ((with_reducible refine wpX_load (b := ?_) (cs := ?_) ?_ rfl ?_ ?_ ?_ ?_ ?_); rotate_left 2; (focus rfl); (focus rfl); (focus first | assumption | exact blk_rd (by assumption)); (focus kernel_rfl); (focus kernel_rfl); (try simp only [Act.put, List.setIfInBounds_toArray, List.set_cons_zero, List.set_cons_succ]))
  ((with_reducible refine wpX_load (b := ?_) (cs := ?_) ?_ rfl ?_ ?_ ?_ ?_ ?_); rotate_left 2; (focus rfl); (focus rfl); (focus first | assumption | exact blk_rd (by assumption)); (focus kernel_rfl); (focus kernel_rfl); (try simp only [Act.put, List.setIfInBounds_toArray, List.set_cons_zero, List.set_cons_succ]))
  ((with_reducible refine wpX_fn (fun W hW => c_X6 W (GF_ext gf hW)) ?_ rfl ?_ ?_ ?_); (focus rfl); (focus kernel_rfl); (focus rfl); (try simp only [Act.put, List.setIfInBounds_toArray, List.set_cons_zero, List.set_cons_succ]))
  (refine wpX_val (v := ?_) (by rfl) (fun W hW => ?_) ?_; rotate_left 1; (focus (go_simp; first | done | with_reducible rfl)); (try simp only [Act.put, List.setIfInBounds_toArray, List.set_cons_zero, List.set_cons_succ]))
  ((with_reducible refine wpX_fn (fun W hW => c_X7 W (GF_ext gf hW)) ?_ rfl ?_ ?_ ?_); (focus rfl); (focus kernel_rfl); (focus rfl); (try simp only [Act.put, List.setIfInBounds_toArray, List.set_cons_zero, List.set_cons_succ]))
  ((with_reducible refine wpX_fn (fun W hW => c_X8 W (GF_ext gf hW)) ?_ rfl ?_ ?_ ?_); (focus rfl); (focus kernel_rfl); (focus rfl); (try simp only [Act.put, List.setIfInBounds_toArray, List.set_cons_zero, List.set_cons_succ]))
  refine wpX_nil ?_
  intro β W5 hE hN hD
  obtain ⟨n_t8_5, k_t8⟩ := hN _ (List.mem_cons_self ..)
  simp only [putAll, Act.put, List.setIfInBounds_toArray, List.set_cons_zero, List.set_cons_succ, List.drop_succ_cons, List.drop_zero, List.drop_nil, List.length_cons, List.length_nil] at n_t8_5 k_t8 ⊢
  generalize β 9 = p8_5 at *
  have sz_5 := bel.size
  clear hN hD β
  refine wpL_store (g := p8_5) (cells := c4 X8) (by rfl) rfl rfl rfl k_t8 (by kernel_rfl) (by kernel_rfl) (by kernel_rfl) ?_
  (try simp only [Act.put, List.setIfInBounds_toArray, List.set_cons_zero, List.set_cons_succ])
  refine wpL_nil ?_
  refine NoPanic.normal (Q := Exit.then _ _) ?_
  have hF : Below w.heap.size w (W5.setRow p8_5 (c4 X8)) ∧ Blk (W5.setRow p8_5 (c4 X8)) w.heap.size (c4 A) 26 ∧ Blk (W5.setRow p8_5 (c4 X8)) (w.heap.size + 1) (c4 B) 26 ∧ Blk (W5.setRow p8_5 (c4 X8)) (w.heap.size + 2) #[.int .u64 0, .int .u64 0, .int .u64 0, .int .u64 0] 26 ∧ Blk (W5.setRow p8_5 (c4 X8)) p6_1 (c4 X2) 26 ∧ Blk (W5.setRow p8_5 (c4 X8)) p7_3 (c4 X4) 26 ∧ Blk (W5.setRow p8_5 (c4 X8)) p8_5 (c4 X8) 26 := ⟨(below_setRow (below_step bel hE bel.size) (by omega) _), (blk_setRow_other (blk_step k_t2 hE) (by omega) _), (blk_setRow_other (blk_step k_t3 hE) (by omega) _), (blk_setRow_other (blk_step k_t4 hE) (by omega) _), (blk_setRow_other (blk_step k_t6 hE) (by omega) _), (blk_setRow_other (blk_step k_t7 hE) (by omega) _), (blk_setRow k_t8 (c4 X8))⟩
  generalize (W5.setRow p8_5 (c4 X8)) = W6 at hF ⊢
  clear bel k_t2 k_t3 k_t4 k_t6 k_t7 k_t8
  obtain ⟨bel, k_t2, k_t3, k_t4, k_t6, k_t7, k_t8⟩ := hF
  go_upto_region 4 with fail
  have lt_t8_6 := blk_lt k_t8
  have gf := GF_ext hG bel
  have gm := gf.1
  have gi : Rd _ 5 imaC := Rd.ext hI bel
  have c_X9 := fMul_c X8 X8 bX8 bX8
  obtain ⟨X9, hX9⟩ : ∃ v_, v_ = X8 * X8 % PP := ⟨_, rfl⟩
  rw [← hX9] at c_X9
  have bX9 : X9 < P256 := by rw [hX9]; exact mod_256 _
  have HX9 := Lib.hid hX9
  clear hX9
  have c_X10 := fMul_c B X9 hB bX9
  obtain ⟨X10, hX10⟩ : ∃ v_, v_ = B * X9 % PP := ⟨_, rfl⟩
  rw [← hX10] at c_X10
  have bX10 : X10 < P256 := by rw [hX10]; exact mod_256 _
  have HX10 := Lib.hid hX10
  clear hX10
  refine wp_region_xn 5 [⟨5, 9, #[.int .u64 0, .int .u64 0, .int .u64 0, .int .u64 0], 26⟩] (by kernel_rfl) ?_ (by kernel_rfl) ?_
  · intro x hx
    simp only [List.mem_cons, List.not_mem_nil, or_false] at hx
    subst hx; exact ⟨_, rfl, rfl, rfl, fun _ _ => by kernel_rfl⟩
  simp only [List.take_succ_cons, List.take_zero, List.take_nil]
  (try simp only [Act.put, List.setIfInBounds_toArray, List.set_cons_zero, List.set_cons_succ])
  ((with_reducible refine wpX_load (b := ?_) (cs := ?_) ?_ rfl ?_ ?_ ?_ ?_ ?_); rotate_left 2; (focus rfl); (focus rfl); (focus first | assumption | exact blk_rd (by assumption)); (focus kernel_rfl); (focus kernel_rfl); (try simp only [Act.put, List.setIfInBounds_toArray, List.set_cons_zero, List.set_cons_succ]))
  ((with_reducible refine wpX_load (b := ?_) (cs := ?_) ?_ rfl ?_ ?_ ?_ ?_ ?_); rotate_left 2; (focus rfl); (focus rfl); (focus first | assumption | exact blk_rd (by assumption)); (focus kernel_rfl); (focus kernel_rfl); (try simp only [Act.put, List.setIfInBounds_toArray, List.set_cons_zero, List.set_cons_succ]))
  ((with_reducible refine wpX_load (b := ?_) (cs := ?_) ?_ rfl ?_ ?_ ?_ ?_ ?_); rotate_left 2; (focus rfl); (focus rfl); (focus first | assumption | exact blk_rd (by assumption)); (focus kernel_rfl); (focus kernel_rfl); (try simp only [Act.put, List.setIfInBounds_toArray, List.set_cons_zero, List.set_cons_succ]))
  ((with_reducible refine wpX_fn (fun W hW => c_X9 W (GF_ext gf hW)) ?_ rfl ?_ ?_ ?_); (focus rfl); (focus kernel_rfl); (focus rfl); (try simp only [Act.put, List.setIfInBounds_toArray, List.set_cons_zero, List.set_cons_succ]))
  ((with_reducible refine wpX_fn (fun W hW => c_X10 W (GF_ext gf hW)) ?_ rfl ?_ ?_ ?_); (focus rfl); (focus kernel_rfl); (focus rfl); (try simp only [Act.put, List.setIfInBounds_toArray, List.set_cons_zero, List.set_cons_succ]))
  refine wpX_nil ?_
  intro β W7 hE hN hD
  obtain ⟨n_t9_7, k_t9⟩ := hN _ (List.mem_cons_self ..)
  simp only [putAll, Act.put, List.setIfInBounds_toArray, List.set_cons_zero, List.set_cons_succ, List.drop_succ_cons, List.drop_zero, List.drop_nil, List.length_cons, List.length_nil] at n_t9_7 k_t9 ⊢
  generalize β 5 = p9_7 at *
  have sz_7 := bel.size
  clear hN hD β
  refine wpL_store (g := p9_7) (cells := c4 X10) (by rfl) rfl rfl rfl k_t9 (by kernel_rfl) (by kernel_rfl) (by kernel_rfl) ?_
  (try simp only [Act.put, List.setIfInBounds_toArray, List.set_cons_zero, List.set_cons_succ])
  refine wpL_nil ?_
  refine NoPanic.normal (Q := Exit.then _ _) ?_
  have hF : Below w.heap.size w (W7.setRow p9_7 (c4 X10)) ∧ Blk (W7.setRow p9_7 (c4 X10)) w.heap.size (c4 A) 26 ∧ Blk (W7.setRow p9_7 (c4 X10)) (w.heap.size + 1) (c4 B) 26 ∧ Blk (W7.setRow p9_7 (c4 X10)) (w.heap.size + 2) #[.int .u64 0, .int .u64 0, .int .u64 0, .int .u64 0] 26 ∧ Blk (W7.setRow p9_7 (c4 X10)) p6_1 (c4 X2) 26 ∧ Blk (W7.setRow p9_7 (c4 X10)) p7_3 (c4 X4) 26 ∧ Blk (W7.setRow p9_7 (c4 X10)) p8_5 (c4 X8) 26 ∧ Blk (W7.setRow p9_7 (c4 X10)) p9_7 (c4 X10) 26 := ⟨(below_setRow (below_step bel hE bel.size) (by omega) _), (blk_setRow_other (blk_step k_t2 hE) (by omega) _), (blk_setRow_other (blk_step k_t3 hE) (by omega) _), (blk_setRow_other (blk_step k_t4 hE) (by omega) _), (blk_setRow_other (blk_step k_t6 hE) (by omega) _), (blk_setRow_other (blk_step k_t7 hE) (by omega) _), (blk_setRow_other (blk_step k_t8 hE) (by omega) _), (blk_setRow k_t9 (c4 X10))⟩
  generalize (W7.setRow p9_7 (c4 X10)) = W8 at hF ⊢
  clear bel k_t2 k_t3 k_t4 k_t6 k_t7 k_t8 k_t9
  obtain ⟨bel, k_t2, k_t3, k_t4, k_t6, k_t7, k_t8, k_t9⟩ := hF
  go_upto_region 5 with fail
  have lt_t9_8 := blk_lt k_t9
  have gf := GF_ext hG bel
  have gm := gf.1
  have gi : Rd _ 5 imaC := Rd.ext hI bel
  have hw : X10 = rtW A B := by rw [HX10.out, HX9.out, HX8.out, HX7.out, HX6.out, HX5.out, HX4.out, HX3.out, HX2.out, HX1.out]; rfl
  have c_m11 := fSame_c X10 A bX10 hA
  rw [hw, rtW_mod, decide_eq_false h1, ← hw] at c_m11
  have HW := Lib.hid hw
  clear hw
  refine wp_region_pn 4 [] (fun x hx => by cases hx) (by kernel_rfl) ?_
  simp only [List.take_succ_cons, List.take_zero, List.take_nil]
  (try simp only [Act.put, List.setIfInBounds_toArray, List.set_cons_zero, List.set_cons_succ])
  ((with_reducible refine wpX_load (b := ?_) (cs := ?_) ?_ rfl ?_ ?_ ?_ ?_ ?_); rotate_left 2; (focus rfl); (focus rfl); (focus first | assumption | exact blk_rd (by assumption)); (focus kernel_rfl); (focus kernel_rfl); (try simp only [Act.put, List.setIfInBounds_toArray, List.set_cons_zero, List.set_cons_succ]))
  ((with_reducible refine wpX_load (b := ?_) (cs := ?_) ?_ rfl ?_ ?_ ?_ ?_ ?_); rotate_left 2; (focus rfl); (focus rfl); (focus first | assumption | exact blk_rd (by assumption)); (focus kernel_rfl); (focus kernel_rfl); (try simp only [Act.put, List.setIfInBounds_toArray, List.set_cons_zero, List.set_cons_succ]))
  ((with_reducible refine wpX_fn (fun W hW => c_m11 W (GF_ext gf hW)) ?_ rfl ?_ ?_ ?_); (focus rfl); (focus kernel_rfl); (focus rfl); (try simp only [Act.put, List.setIfInBounds_toArray, List.set_cons_zero, List.set_cons_succ]))
  (refine wpX_val (v := ?_) (by rfl) (fun W hW => ?_) ?_; rotate_left 1; (focus (go_simp; first | done | with_reducible rfl)); (try simp only [Act.put, List.setIfInBounds_toArray, List.set_cons_zero, List.set_cons_succ]))
  refine wpX_nil ?_
  intro β W9 hE hN hD
  simp only [putAll, Act.put, List.setIfInBounds_toArray, List.set_cons_zero, List.set_cons_succ, List.drop_succ_cons, List.drop_zero, List.drop_nil, List.length_cons, List.length_nil]
  clear hN hD β
  refine wpL_nil ?_
  have hF : Below w.heap.size w W9 ∧ Blk W9 w.heap.size (c4 A) 26 ∧ Blk W9 (w.heap.size + 1) (c4 B) 26 ∧ Blk W9 (w.heap.size + 2) #[.int .u64 0, .int .u64 0, .int .u64 0, .int .u64 0] 26 ∧ Blk W9 p6_1 (c4 X2) 26 ∧ Blk W9 p7_3 (c4 X4) 26 ∧ Blk W9 p8_5 (c4 X8) 26 ∧ Blk W9 p9_7 (c4 X10) 26 := ⟨(below_step bel hE bel.size), (blk_step k_t2 hE), (blk_step k_t3 hE), (blk_step k_t4 hE), (blk_step k_t6 hE), (blk_step k_t7 hE), (blk_step k_t8 hE), (blk_step k_t9 hE)⟩
  clear bel k_t2 k_t3 k_t4 k_t6 k_t7 k_t8 k_t9
  obtain ⟨bel, k_t2, k_t3, k_t4, k_t6, k_t7, k_t8, k_t9⟩ := hF
  go_upto_region 7 with fail
  have lt_t9_9 := blk_lt k_t9
  have gf := GF_ext hG bel
  have gm := gf.1
  have gi : Rd _ 5 imaC := Rd.ext hI bel
  have c_X12 := fNeg_c A hA
  obtain ⟨X12, hX12⟩ : ∃ v_, v_ = (PP - A % PP) % PP := ⟨_, rfl⟩
  rw [← hX12] at c_X12
  have bX12 : X12 < P256 := by rw [hX12]; exact mod_256 _
  have HX12 := Lib.hid hX12
  clear hX12
  have c_m13 := fSame_c X10 X12 bX10 bX12
  have e2 : X12 = (PP - A % PP) % PP := HX12.out
  rw [HW.out, rtW_mod, e2, Nat.mod_mod, decide_eq_true h2, ← HW.out, ← e2] at c_m13
  clear e2
  refine wp_region_xn 5 [] (by kernel_rfl) (fun x hx => by cases hx) (by kernel_rfl) ?_
  simp only [List.take_succ_cons, List.take_zero, List.take_nil]
  (try simp only [Act.put, List.setIfInBounds_toArray, List.set_cons_zero, List.set_cons_succ])
  ((with_reducible refine wpX_load (b := ?_) (cs := ?_) ?_ rfl ?_ ?_ ?_ ?_ ?_); rotate_left 2; (focus rfl); (focus rfl); (focus first | assumption | exact blk_rd (by assumption)); (focus kernel_rfl); (focus kernel_rfl); (try simp only [Act.put, List.setIfInBounds_toArray, List.set_cons_zero, List.set_cons_succ]))
  ((with_reducible refine wpX_load (b := ?_) (cs := ?_) ?_ rfl ?_ ?_ ?_ ?_ ?_); rotate_left 2; (focus rfl); (focus rfl); (focus first | assumption | exact blk_rd (by assumption)); (focus kernel_rfl); (focus kernel_rfl); (try simp only [Act.put, List.setIfInBounds_toArray, List.set_cons_zero, List.set_cons_succ]))
  ((with_reducible refine wpX_fn (fun W hW => c_X12 W (GF_ext gf hW)) ?_ rfl ?_ ?_ ?_); (focus rfl); (focus kernel_rfl); (focus rfl); (try simp only [Act.put, List.setIfInBounds_toArray, List.set_cons_zero, List.set_cons_succ]))
  ((with_reducible refine wpX_fn (fun W hW => c_m13 W (GF_ext gf hW)) ?_ rfl ?_ ?_ ?_); (focus rfl); (focus kernel_rfl); (focus rfl); (try simp only [Act.put, List.setIfInBounds_toArray, List.set_cons_zero, List.set_cons_succ]))
  (refine wpX_val (v := ?_) (by rfl) (fun W hW => ?_) ?_; rotate_left 1; (focus (go_simp; first | done | with_reducible rfl)); (try simp only [Act.put, List.setIfInBounds_toArray, List.set_cons_zero, List.set_cons_succ]))
  refine wpX_nil ?_
  intro β W10 hE hN hD
  simp only [putAll, Act.put, List.setIfInBounds_toArray, List.set_cons_zero, List.set_cons_succ, List.drop_succ_cons, List.drop_zero, List.drop_nil, List.length_cons, List.length_nil]
  clear hN hD β
  refine wpL_nil ?_
  refine NoPanic.normal (Q := Exit.then _ _) ?_
  have hF : Below w.heap.size w W10 ∧ Blk W10 w.heap.size (c4 A) 26 ∧ Blk W10 (w.heap.size + 1) (c4 B) 26 ∧ Blk W10 (w.heap.size + 2) #[.int .u64 0, .int .u64 0, .int .u64 0, .int .u64 0] 26 ∧ Blk W10 p6_1 (c4 X2) 26 ∧ Blk W10 p7_3 (c4 X4) 26 ∧ Blk W10 p8_5 (c4 X8) 26 ∧ Blk W10 p9_7 (c4 X10) 26 := ⟨(below_step bel hE bel.size), (blk_step k_t2 hE), (blk_step k_t3 hE), (blk_step k_t4 hE), (blk_step k_t6 hE), (blk_step k_t7 hE), (blk_step k_t8 hE), (blk_step k_t9 hE)⟩
  clear bel k_t2 k_t3 k_t4 k_t6 k_t7 k_t8 k_t9
  obtain ⟨bel, k_t2, k_t3, k_t4, k_t6, k_t7, k_t8, k_t9⟩ := hF
  go_upto_region 8 with fail
  have lt_t9_10 := blk_lt k_t9
  have gf := GF_ext hG bel
  have gm := gf.1
  have gi : Rd _ 5 imaC := Rd.ext hI bel
  have c_X14 := fMul_c X8 II bX8 II_lt
  obtain ⟨X14, hX14⟩ : ∃ v_, v_ = X8 * II % PP := ⟨_, rfl⟩
  rw [← hX14] at c_X14
  have bX14 : X14 < P256 := by rw [hX14]; exact mod_256 _
  have HX14 := Lib.hid hX14
  clear hX14
  refine wp_region_pn 3 [] (fun x hx => by cases hx) (by kernel_rfl) ?_
  simp only [List.take_succ_cons, List.take_zero, List.take_nil]
  (try simp only [Act.put, List.setIfInBounds_toArray, List.set_cons_zero, List.set_cons_succ])
  ((with_reducible refine wpX_load (b := ?_) (cs := ?_) ?_ rfl ?_ ?_ ?_ ?_ ?_); rotate_left 2; (focus rfl); (focus rfl); (focus first | assumption | exact blk_rd (by assumption)); (focus kernel_rfl); (focus kernel_rfl); (try simp only [Act.put, List.setIfInBounds_toArray, List.set_cons_zero, List.set_cons_succ]))
  ((with_reducible refine wpX_load (b := ?_) (cs := ?_) ?_ rfl ?_ ?_ ?_ ?_ ?_); rotate_left 2; (focus rfl); (focus rfl); (focus first | assumption | exact blk_rd (by assumption)); (focus kernel_rfl); (focus kernel_rfl); (try simp only [Act.put, List.setIfInBounds_toArray, List.set_cons_zero, List.set_cons_succ]))
  ((with_reducible refine wpX_fn (fun W hW => c_X14 W (GF_ext gf hW)) ?_ rfl ?_ ?_ ?_); (focus rfl); (focus kernel_rfl); (focus rfl); (try simp only [Act.put, List.setIfInBounds_toArray, List.set_cons_zero, List.set_cons_succ]))
  refine wpX_nil ?_
  intro β W11 hE hN hD
  simp only [putAll, Act.put, List.setIfInBounds_toArray, List.set_cons_zero, List.set_cons_succ, List.drop_succ_cons, List.drop_zero, List.drop_nil, List.length_cons, List.length_nil]
  clear hN hD β
  refine wpL_store (g := (w.heap.size + 2)) (cells := c4 X14) (by rfl) rfl rfl rfl (blk_step k_t4 hE) (by kernel_rfl) (by kernel_rfl) (by kernel_rfl) ?_
  (try simp only [Act.put, List.setIfInBounds_toArray, List.set_cons_zero, List.set_cons_succ])
  (refine wpL_val (v := ?_) (by rfl) ?_ ?_; rotate_left 1; (focus (go_simp; first | done | with_reducible rfl)))
  (try simp only [Act.put, List.setIfInBounds_toArray, List.set_cons_zero, List.set_cons_succ])
  refine wpL_nil ?_
  have hF : Below w.heap.size w (W11.setRow (w.heap.size + 2) (c4 X14)) ∧ Blk (W11.setRow (w.heap.size + 2) (c4 X14)) w.heap.size (c4 A) 26 ∧ Blk (W11.setRow (w.heap.size + 2) (c4 X14)) (w.heap.size + 1) (c4 B) 26 ∧ Blk (W11.setRow (w.heap.size + 2) (c4 X14)) (w.heap.size + 2) (c4 X14) 26 ∧ Blk (W11.setRow (w.heap.size + 2) (c4 X14)) p6_1 (c4 X2) 26 ∧ Blk (W11.setRow (w.heap.size + 2) (c4 X14)) p7_3 (c4 X4) 26 ∧ Blk (W11.setRow (w.heap.size + 2) (c4 X14)) p8_5 (c4 X8) 26 ∧ Blk (W11.setRow (w.heap.size + 2) (c4 X14)) p9_7 (c4 X10) 26 := ⟨(below_setRow (below_step bel hE bel.size) (by omega) _), (blk_setRow_other (blk_step k_t2 hE) (by omega) _), (blk_setRow_other (blk_step k_t3 hE) (by omega) _), (blk_setRow (blk_step k_t4 hE) (c4 X14)), (blk_setRow_other (blk_step k_t6 hE) (by omega) _), (blk_setRow_other (blk_step k_t7 hE) (by omega) _), (blk_setRow_other (blk_step k_t8 hE) (by omega) _), (blk_setRow_other (blk_step k_t9 hE) (by omega) _)⟩
  generalize (W11.setRow (w.heap.size + 2) (c4 X14)) = W12 at hF ⊢
  clear bel k_t2 k_t3 k_t4 k_t6 k_t7 k_t8 k_t9
  obtain ⟨bel, k_t2, k_t3, k_t4, k_t6, k_t7, k_t8, k_t9⟩ := hF
  go_wp2
  refine bodyPost_ret (res_row2 rfl rfl rfl k_t4 (by kernel_rfl) (by kernel_rfl)) rfl ⟨?_, bel⟩
  rw [HX14.out, HX8.out, HX7.out, HX6.out, HX5.out, HX4.out, HX3.out, HX2.out, HX1.out]; rfl
set_option maxHeartbeats 4000000 in
theorem fRoot_3 (A B : Nat) (hA : A < P256) (hB : B < P256) (h1 : ¬ rtW A B = A % PP) (h2 : ¬ rtW A B = (PP - A % PP) % PP) (w : World) (hG : GF w) (hI : GI w) :
    Calls Tryd.prog 35 #[L4 A, L4 B] w fun e w' => Ret (.tuple #[L4 0, .bool false]) w w' e := by
  go_enter Tryd.func35, Tryd.ntmps35
  go_upto_region 1 with fail
  refine wp_world (fun W => Below w.heap.size w W ∧ Blk W w.heap.size (c4 A) 26 ∧ Blk W (w.heap.size + 1) (c4 B) 26 ∧ Blk W (w.heap.size + 2) #[.int .u64 0, .int .u64 0, .int .u64 0, .int .u64 0] 26) ⟨(by (repeat' (first | (with_reducible assumption) | (with_reducible exact Below.refl _ _) | (with_reducible refine Below.drew ?_) | (with_reducible refine Below.alloc ?_ ?_ _) | (with_reducible refine below_set ?_ ?_ _ _) | (with_reducible refine below_setRow ?_ ?_ _) | (with_reducible refine below_step ?_ (by assumption) ?_))) <;> (first | omega | ((try simp only [World.size_alloc, World.size_setCell, World.size_drew, size_setRow]); omega))), blk_alloc (blk_alloc (blk_new _ _ rfl) _) _, blk_alloc (blk_new _ _ (by simp)) _, blk_new _ _ (by simp)⟩ ?_
  rintro W0 ⟨bel, k_t2, k_t3, k_t4⟩
  have lt_t2_0 := blk_lt k_t2
  have lt_t3_0 := blk_lt k_t3
  have lt_t4_0 := blk_lt k_t4
  have gf := GF_ext hG bel
  have gm := gf.1
  have gi : Rd _ 5 imaC := Rd.ext hI bel
  have c_X1 := fMul_c B B hB hB
  obtain ⟨X1, hX1⟩ : ∃ v_, v_ = B * B % PP := ⟨_, rfl⟩
  rw [← hX1] at c_X1
  have bX1 : X1 < P256 := by rw [hX1]; exact mod_256 _
  have HX1 := Lib.hid hX1
  clear hX1
  have c_X2 := fMul_c X1 B bX1 hB
  obtain ⟨X2, hX2⟩ : ∃ v_, v_ = X1 * B % PP := ⟨_, rfl⟩
  rw [← hX2] at c_X2
  have bX2 : X2 < P256 := by rw [hX2]; exact mod_256 _
  have HX2 := Lib.hid hX2
  clear hX2
  refine wp_region_xn 5 [⟨5, 6, #[.int .u64 0, .int .u64 0, .int .u64 0, .int .u64 0], 26⟩] (by kernel_rfl) ?_ (by kernel_rfl) ?_
  · intro x hx
    simp only [List.mem_cons, List.not_mem_nil, or_false] at hx
    subst hx; exact ⟨_, rfl, rfl, rfl, fun _ _ => by kernel_rfl⟩
  simp only [List.take_succ_cons, List.take_zero, List.take_nil]
  (try simp only [Act.put, List.setIfInBounds_toArray, List.set_cons_zero, List.set_cons_succ])
  ((with_reducible refine wpX_load (b := ?_) (cs := ?_) ?_ rfl ?_ ?_ ?_ ?_ ?_); rotate_left 2; (focus rfl); (focus rfl); (focus first | assumption | exact blk_rd (by assumption)); (focus kernel_rfl); (focus kernel_rfl); (try simp only [Act.put, List.setIfInBounds_toArray, List.set_cons_zero, List.set_cons_succ]))
  ((with_reducible refine wpX_load (b := ?_) (cs := ?_) ?_ rfl ?_ ?_ ?_ ?_ ?_); rotate_left 2; (focus rfl); (focus rfl); (focus first | assumption | exact blk_rd (by assumption)); (focus kernel_rfl); (focus kernel_rfl); (try simp only [Act.put, List.setIfInBounds_toArray, List.set_cons_zero, List.set_cons_succ]))
  ((with_reducible refine wpX_fn (fun W hW => c_X1 W (GF_ext gf hW)) ?_ rfl ?_ ?_ ?_); (focus rfl); (focus kernel_rfl); (focus rfl); (try simp only [Act.put, List.setIfInBounds_toArray, List.set_cons_zero, List.set_cons_succ]))
  ((with_reducible refine wpX_load (b := ?_) (cs := ?_) ?_ rfl ?_ ?_ ?_ ?_ ?_); rotate_left 2; (focus rfl); (focus rfl); (focus first | assumption | exact blk_rd (by assumption)); (focus kernel_rfl); (focus kernel_rfl); (try simp only [Act.put, List.setIfInBounds_toArray, List.set_cons_zero, List.set_cons_succ]))
  ((with_reducible refine wpX_fn (fun W hW => c_X2 W (GF_ext gf hW)) ?_ rfl ?_ ?_ ?_); (focus rfl); (focus kernel_rfl); (focus rfl); (try simp only [Act.put, List.setIfInBounds_toArray, List.set_cons_zero, List.set_cons_succ]))
  refine wpX_nil ?_
  intro β W1 hE hN hD
  obtain ⟨n_t6_1, k_t6⟩ := hN _ (List.mem_cons_self ..)
  simp only [putAll, Act.put, List.setIfInBounds_toArray, List.set_cons_zero, List.set_cons_succ, List.drop_succ_cons, List.drop_zero, List.drop_nil, List.length_cons, List.length_nil] at n_t6_1 k_t6 ⊢
  generalize β 5 = p6_1 at *
  have sz_1 := bel.size
  clear hN hD β
  refine wpL_store (g := p6_1) (cells := c4 X2) (by rfl) rfl rfl rfl k_t6 (by kernel_rfl) (by kernel_rfl) (by kernel_rfl) ?_
  (try simp only [Act.put, List.setIfInBounds_toArray, List.set_cons_zero, List.set_cons_succ])
  refine wpL_nil ?_
  refine NoPanic.normal (Q := Exit.then _ _) ?_
  have hF : Below w.heap.size w (W1.setRow p6_1 (c4 X2)) ∧ Blk (W1.setRow p6_1 (c4 X2)) w.heap.size (c4 A) 26 ∧ Blk (W1.setRow p6_1 (c4 X2)) (w.heap.size + 1) (c4 B) 26 ∧ Blk (W1.setRow p6_1 (c4 X2)) (w.heap.size + 2) #[.int .u64 0, .int .u64 0, .int .u64 0, .int .u64 0] 26 ∧ Blk (W1.setRow p6_1 (c4 X2)) p6_1 (c4 X2) 26 := ⟨(below_setRow (below_step bel hE bel.size) (by omega) _), (blk_setRow_other (blk_step k_t2 hE) (by omega) _), (blk_setRow_other (blk_step k_t3 hE) (by omega) _), (blk_setRow_other (blk_step k_t4 hE) (by omega) _), (blk_setRow k_t6 (c4 X2))⟩
  generalize (W1.setRow p6_1 (c4 X2)) = W2 at hF ⊢
  clear bel k_t2 k_t3 k_t4 k_t6
  obtain ⟨bel, k_t2, k_t3, k_t4, k_t6⟩ := hF
  go_upto_region 2 with fail
  have lt_t6_2 := blk_lt k_t6
  have gf := GF_ext hG bel
  have gm := gf.1
  have gi : Rd _ 5 imaC := Rd.ext hI bel
  have c_X3 := fMul_c X2 X2 bX2 bX2
  obtain ⟨X3, hX3⟩ : ∃ v_, v_ = X2 * X2 % PP := ⟨_, rfl⟩
  rw [← hX3] at c_X3
  have bX3 : X3 < P256 := by rw [hX3]; exact mod_256 _
  have HX3 := Lib.hid hX3
  clear hX3
  have c_X4 := fMul_c X3 B bX3 hB
  obtain ⟨X4, hX4⟩ : ∃ v_, v_ = X3 * B % PP := ⟨_, rfl⟩
  rw [← hX4] at c_X4
  have bX4 : X4 < P256 := by rw [hX4]; exact mod_256 _
  have HX4 := Lib.hid hX4
  clear hX4
  refine wp_region_xn 5 [⟨5, 7, #[.int .u64 0, .int .u64 0, .int .u64 0, .int .u64 0], 26⟩] (by kernel_rfl) ?_ (by kernel_rfl) ?_
  · intro x hx
    simp only [List.mem_cons, List.not_mem_nil, or_false] at hx
    subst hx; exact ⟨_, rfl, rfl, rfl, fun _ _ => by kernel_rfl⟩
  simp only [List.take_succ_cons, List.take_zero, List.take_nil]
  (try simp only [Act.put, List.setIfInBounds_toArray, List.set_cons_zero, List.set_cons_succ])
  ((with_reducible refine wpX_load (b := ?_) (cs := ?_) ?_ rfl ?_ ?_ ?_ ?_ ?_); rotate_left 2; (focus rfl); (focus rfl); (focus first | assumption | exact blk_rd (by assumption)); (focus kernel_rfl); (focus kernel_rfl); (try simp only [Act.put, List.setIfInBounds_toArray, List.set_cons_zero, List.set_cons_succ]))
  ((with_reducible refine wpX_load (b := ?_) (cs := ?_) ?_ rfl ?_ ?_ ?_ ?_ ?_); rotate_left 2; (focus rfl); (focus rfl); (focus first | assumption | exact blk_rd (by assumption)); (focus kernel_rfl); (focus kernel_rfl); (try simp only [Act.put, List.setIfInBounds_toArray, List.set_cons_zero, List.set_cons_succ]))
  ((with_reducible refine wpX_fn (fun W hW => c_X3 W (GF_ext gf hW)) ?_ rfl ?_ ?_ ?_); (focus rfl); (focus kernel_rfl); (focus rfl); (try simp only [Act.put, List.setIfInBounds_toArray, List.set_cons_zero, List.set_cons_succ]))
  ((with_reducible refine wpX_load (b := ?_) (cs := ?_) ?_ rfl ?_ ?_ ?_ ?_ ?_); rotate_left 2; (focus rfl); (focus rfl); (focus first | assumption | exact blk_rd (by assumption)); (focus kernel_rfl); (focus kernel_rfl); (try simp only [Act.put, List.setIfInBounds_toArray, List.set_cons_zero, List.set_cons_succ]))
  ((with_reducible refine wpX_fn (fun W hW => c_X4 W (GF_ext gf hW)) ?_ rfl ?_ ?_ ?_); (focus rfl); (focus kernel_rfl); (focus rfl); (try simp only [Act.put, List.setIfInBounds_toArray, List.set_cons_zero, List.set_cons_succ]))
  refine wpX_nil ?_
  intro β W3 hE hN hD
  obtain ⟨n_t7_3, k_t7⟩ := hN _ (List.mem_cons_self ..)
  simp only [putAll, Act.put, List.setIfInBounds_toArray, List.set_cons_zero, List.set_cons_succ, List.drop_succ_cons, List.drop_zero, List.drop_nil, List.length_cons, List.length_nil] at n_t7_3 k_t7 ⊢
  generalize β 5 = p7_3 at *
  have sz_3 := bel.size
  clear hN hD β
  refine wpL_store (g := p7_3) (cells := c4 X4) (by rfl) rfl rfl rfl k_t7 (by kernel_rfl) (by kernel_rfl) (by kernel_rfl) ?_
  (try simp only [Act.put, List.setIfInBounds_toArray, List.set_cons_zero, List.set_cons_succ])
  refine wpL_nil ?_
  refine NoPanic.normal (Q := Exit.then _ _) ?_
  have hF : Below w.heap.size w (W3.setRow p7_3 (c4 X4)) ∧ Blk (W3.setRow p7_3 (c4 X4)) w.heap.size (c4 A) 26 ∧ Blk (W3.setRow p7_3 (c4 X4)) (w.heap.size + 1) (c4 B) 26 ∧ Blk (W3.setRow p7_3 (c4 X4)) (w.heap.size + 2) #[.int .u64 0, .int .u64 0, .int .u64 0, .int .u64 0] 26 ∧ Blk (W3.setRow p7_3 (c4 X4)) p6_1 (c4 X2) 26 ∧ Blk (W3.setRow p7_3 (c4 X4)) p7_3 (c4 X4) 26 := ⟨(below_setRow (below_step bel hE bel.size) (by omega) _), (blk_setRow_other (blk_step k_t2 hE) (by omega) _), (blk_setRow_other (blk_step k_t3 hE) (by omega) _), (blk_setRow_other (blk_step k_t4 hE) (by omega) _), (blk_setRow_other (blk_step k_t6 hE) (by omega) _), (blk_setRow k_t7 (c4 X4))⟩
  generalize (W3.setRow p7_3 (c4 X4)) = W4 at hF ⊢
  clear bel k_t2 k_t3 k_t4 k_t6 k_t7
  obtain ⟨bel, k_t2, k_t3, k_t4, k_t6, k_t7⟩ := hF
  go_upto_region 3 with fail
  have lt_t7_4 := blk_lt k_t7
  have gf := GF_ext hG bel
  have gm := gf.1
  have gi : Rd _ 5 imaC := Rd.ext hI bel
  have c_X5 := fMul_c A X2 hA bX2
  obtain ⟨X5, hX5⟩ : ∃ v_, v_ = A * X2 % PP := ⟨_, rfl⟩
  rw [← hX5] at c_X5
  have bX5 : X5 < P256 := by rw [hX5]; exact mod_256 _
  have HX5 := Lib.hid hX5
  clear hX5
  have c_X6 := fMul_c A X4 hA bX4
  obtain ⟨X6, hX6⟩ : ∃ v_, v_ = A * X4 % PP := ⟨_, rfl⟩
  rw [← hX6] at c_X6
  have bX6 : X6 < P256 := by rw [hX6]; exact mod_256 _
  have HX6 := Lib.hid hX6
  clear hX6
  have c_X7 := fPow_c X6 7237005577332262213973186563042994240829374041602535252466099000494570602493 bX6 (by decide)
  obtain ⟨X7, hX7⟩ : ∃ v_, v_ = pw X6 7237005577332262213973186563042994240829374041602535252466099000494570602493 := ⟨_, rfl⟩
  rw [← hX7] at c_X7
  have bX7 : X7 < P256 := by rw [hX7]; exact pw_lt _ _
  have HX7 := Lib.hid hX7
  clear hX7
  have c_X8 := fMul_c X5 X7 bX5 bX7
  obtain ⟨X8, hX8⟩ : ∃ v_, v_ = X5 * X7 % PP := ⟨_, rfl⟩
  rw [← hX8] at c_X8
  have bX8 : X8 < P256 := by rw [hX8]; exact mod_256 _
  have HX8 := Lib.hid hX8
  clear hX8
  refine wp_region_xn 9 [⟨9, 8, #[.int .u64 0, .int .u64 0, .int .u64 0, .int .u64 0], 26⟩] (by kernel_rfl) ?_ (by kernel_rfl) ?_
  · intro x hx
    simp only [List.mem_cons, List.not_mem_nil, or_false] at hx
    subst hx; exact ⟨_, rfl, rfl, rfl, fun _ _ => by kernel_rfl⟩
  simp only [List.take_succ_cons, List.take_zero, List.take_nil]
  (try simp only [Act.put, List.setIfInBounds_toArray, List.set_cons_zero, List.set_cons_succ])
  ((with_reducible refine wpX_load (b := ?_) (cs := ?_) ?_ rfl ?_ ?_ ?_ ?_ ?_); rotate_left 2; (focus rfl); (focus rfl); (focus first | assumption | exact blk_rd (by assumption)); (focus kernel_rfl); (focus kernel_rfl); (try simp only [Act.put, List.setIfInBounds_toArray, List.set_cons_zero, List.set_cons_succ]))
  ((with_reducible refine wpX_load (b := ?_) (cs := ?_) ?_ rfl ?_ ?_ ?_ ?_ ?_); rotate_left 2; (focus rfl); (focus rfl); (focus first | assumption | exact blk_rd (by assumption)); (focus kernel_rfl); (focus kernel_rfl); (try simp only [Act.put, List.setIfInBounds_toArray, List.set_cons_zero, List.set_cons_succ]))
  ((with_reducible refine wpX_fn (fun W hW => c_X5 W (GF_ext gf hW)) ?_ rfl ?_ ?_ ?_); (focus rfl); (focus kernel_rfl); (focus rfl); (try simp only [Act.put, List.setIfInBounds_toArray, List.set_cons_zero, List.set_cons_succ]))
  ((with_reducible refine wpX_load (b := ?_) (cs := ?_) ?_ rfl ?_ ?_ ?_ ?_ ?_); rotate_left 2; (focus rfl); (focus rfl); (focus first | assumption | exact blk_rd (by assumption)); (focus kernel_rfl); (focus kernel_rfl); (try simp only [Act.put, List.setIfInBounds_toArray, List.set_cons_zero, List.set_cons_succ]))
  ((with_reducible refine wpX_load (b := ?_) (cs := ?_) ?_ rfl ?_ ?_ ?_ ?_ ?_); rotate_left 2; (focus rfl); (focus rfl); (focus first | assumption | exact blk_rd (by assumption)); (focus kernel_rfl); (focus kernel_rfl); (try simp only [Act.put, List.setIfInBounds_toArray, List.set_cons_zero, List.set_cons_succ]))
  ((with_reducible refine wpX_fn (fun W hW => c_X6 W (GF_ext gf hW)) ?_ rfl ?_ ?_ ?_); (focus rfl); (focus kernel_rfl); (focus rfl); (try simp only [Act.put, List.setIfInBounds_toArray, List.set_cons_zero, List.set_cons_succ]))
  (refine wpX_val (v := ?_) (by rfl) (fun W hW => ?_) ?_; rotate_left 1; (focus (go_simp; first | done | with_reducible rfl)); (try simp only [Act.put, List.setIfInBounds_toArray, List.set_cons_zero, List.set_cons_succ]))
  ((with_reducible refine wpX_fn (fun W hW => c_X7 W (GF_ext gf hW)) ?_ rfl ?_ ?_ ?_); (focus rfl); (focus kernel_rfl); (focus rfl); (try simp only [Act.put, List.setIfInBounds_toArray, List.set_cons_zero, List.set_cons_succ]))
  ((with_reducible refine wpX_fn (fun W hW => c_X8 W (GF_ext gf hW)) ?_ rfl ?_ ?_ ?_); (focus rfl); (focus kernel_rfl); (focus rfl); (try simp only [Act.put, List.setIfInBounds_toArray, List.set_cons_zero, List.set_cons_succ]))
  refine wpX_nil ?_
  intro β W5 hE hN hD
  obtain ⟨n_t8_5, k_t8⟩ := hN _ (List.mem_cons_self ..)
  simp only [putAll, Act.put, List.setIfInBounds_toArray, List.set_cons_zero, List.set_cons_succ, List.drop_succ_cons, List.drop_zero, List.drop_nil, List.length_cons, List.length_nil] at n_t8_5 k_t8 ⊢
  generalize β 9 = p8_5 at *
  have sz_5 := bel.size
  clear hN hD β
  refine wpL_store (g := p8_5) (cells := c4 X8) (by rfl) rfl rfl rfl k_t8 (by kernel_rfl) (by kernel_rfl) (by kernel_rfl) ?_
  (try simp only [Act.put, List.setIfInBounds_toArray, List.set_cons_zero, List.set_cons_succ])
  refine wpL_nil ?_
  refine NoPanic.normal (Q := Exit.then _ _) ?_
  have hF : Below w.heap.size w (W5.setRow p8_5 (c4 X8)) ∧ Blk (W5.setRow p8_5 (c4 X8)) w.heap.size (c4 A) 26 ∧ Blk (W5.setRow p8_5 (c4 X8)) (w.heap.size + 1) (c4 B) 26 ∧ Blk (W5.setRow p8_5 (c4 X8)) (w.heap.size + 2) #[.int .u64 0, .int .u64 0, .int .u64 0, .int .u64 0] 26 ∧ Blk (W5.setRow p8_5 (c4 X8)) p6_1 (c4 X2) 26 ∧ Blk (W5.setRow p8_5 (c4 X8)) p7_3 (c4 X4) 26 ∧ Blk (W5.setRow p8_5 (c4 X8)) p8_5 (c4 X8) 26 := ⟨(below_setRow (below_step bel hE bel.size) (by omega) _), (blk_setRow_other (blk_step k_t2 hE) (by omega) _), (blk_setRow_other (blk_step k_t3 hE) (by omega) _), (blk_setRow_other (blk_step k_t4 hE) (by omega) _), (blk_setRow_other (blk_step k_t6 hE) (by omega) _), (blk_setRow_other (blk_step k_t7 hE) (by omega) _), (blk_setRow k_t8 (c4 X8))⟩
  generalize (W5.setRow p8_5 (c4 X8)) = W6 at hF ⊢
  clear bel k_t2 k_t3 k_t4 k_t6 k_t7 k_t8
  obtain ⟨bel, k_t2, k_t3, k_t4, k_t6, k_t7, k_t8⟩ := hF
  go_upto_region 4 with fail
  have lt_t8_6 := blk_lt k_t8
  have gf := GF_ext hG bel
  have gm := gf.1
  have gi : Rd _ 5 imaC := Rd.ext hI bel
  have c_X9 := fMul_c X8 X8 bX8 bX8
  obtain ⟨X9, hX9⟩ : ∃ v_, v_ = X8 * X8 % PP := ⟨_, rfl⟩
  rw [← hX9] at c_X9
  have bX9 : X9 < P256 := by rw [hX9]; exact mod_256 _
  have HX9 := Lib.hid hX9
  clear hX9
  have c_X10 := fMul_c B X9 hB bX9
  obtain ⟨X10, hX10⟩ : ∃ v_, v_ = B * X9 % PP := ⟨_, rfl⟩
  rw [← hX10] at c_X10
  have bX10 : X10 < P256 := by rw [hX10]; exact mod_256 _
  have HX10 := Lib.hid hX10
  clear hX10
  refine wp_region_xn 5 [⟨5, 9, #[.int .u64 0, .int .u64 0, .int .u64 0, .int .u64 0], 26⟩] (by kernel_rfl) ?_ (by kernel_rfl) ?_
  · intro x hx
    simp only [List.mem_cons, List.not_mem_nil, or_false] at hx
    subst hx; exact ⟨_, rfl, rfl, rfl, fun _ _ => by kernel_rfl⟩
  simp only [List.take_succ_cons, List.take_zero, List.take_nil]
  (try simp only [Act.put, List.setIfInBounds_toArray, List.set_cons_zero, List.set_cons_succ])
  ((with_reducible refine wpX_load (b := ?_) (cs := ?_) ?_ rfl ?_ ?_ ?_ ?_ ?_); rotate_left 2; (focus rfl); (focus rfl); (focus first | assumption | exact blk_rd (by assumption)); (focus kernel_rfl); (focus kernel_rfl); (try simp only [Act.put, List.setIfInBounds_toArray, List.set_cons_zero, List.set_cons_succ]))
  ((with_reducible refine wpX_load (b := ?_) (cs := ?_) ?_ rfl ?_ ?_ ?_ ?_ ?_); rotate_left 2; (focus rfl); (focus rfl); (focus first | assumption | exact blk_rd (by assumption)); (focus kernel_rfl); (focus kernel_rfl); (try simp only [Act.put, List.setIfInBounds_toArray, List.set_cons_zero, List.set_cons_succ]))
  ((with_reducible refine wpX_load (b := ?_) (cs := ?_) ?_ rfl ?_ ?_ ?_ ?_ ?_); rotate_left 2; (focus rfl); (focus rfl); (focus first | assumption | exact blk_rd (by assumption)); (focus kernel_rfl); (focus kernel_rfl); (try simp only [Act.put, List.setIfInBounds_toArray, List.set_cons_zero, List.set_cons_succ]))
  ((with_reducible refine wpX_fn (fun W hW => c_X9 W (GF_ext gf hW)) ?_ rfl ?_ ?_ ?_); (focus rfl); (focus kernel_rfl); (focus rfl); (try simp only [Act.put, List.setIfInBounds_toArray, List.set_cons_zero, List.set_cons_succ]))
  ((with_reducible refine wpX_fn (fun W hW => c_X10 W (GF_ext gf hW)) ?_ rfl ?_ ?_ ?_); (focus rfl); (focus kernel_rfl); (focus rfl); (try simp only [Act.put, List.setIfInBounds_toArray, List.set_cons_zero, List.set_cons_succ]))
  refine wpX_nil ?_
  intro β W7 hE hN hD
  obtain ⟨n_t9_7, k_t9⟩ := hN _ (List.mem_cons_self ..)
  simp only [putAll, Act.put, List.setIfInBounds_toArray, List.set_cons_zero, List.set_cons_succ, List.drop_succ_cons, List.drop_zero, List.drop_nil, List.length_cons, List.length_nil] at n_t9_7 k_t9 ⊢
  generalize β 5 = p9_7 at *
  have sz_7 := bel.size
  clear hN hD β
  refine wpL_store (g := p9_7) (cells := c4 X10) (by rfl) rfl rfl rfl k_t9 (by kernel_rfl) (by kernel_rfl) (by kernel_rfl) ?_
  (try simp only [Act.put, List.setIfInBounds_toArray, List.set_cons_zero, List.set_cons_succ])
  refine wpL_nil ?_
  refine NoPanic.normal (Q := Exit.then _ _) ?_
  have hF : Below w.heap.size w (W7.setRow p9_7 (c4 X10)) ∧ Blk (W7.setRow p9_7 (c4 X10)) w.heap.size (c4 A) 26 ∧ Blk (W7.setRow p9_7 (c4 X10)) (w.heap.size + 1) (c4 B) 26 ∧ Blk (W7.setRow p9_7 (c4 X10)) (w.heap.size + 2) #[.int .u64 0, .int .u64 0, .int .u64 0, .int .u64 0] 26 ∧ Blk (W7.setRow p9_7 (c4 X10)) p6_1 (c4 X2) 26 ∧ Blk (W7.setRow p9_7 (c4 X10)) p7_3 (c4 X4) 26 ∧ Blk (W7.setRow p9_7 (c4 X10)) p8_5 (c4 X8) 26 ∧ Blk (W7.setRow p9_7 (c4 X10)) p9_7 (c4 X10) 26 := ⟨(below_setRow (below_step bel hE bel.size) (by omega) _), (blk_setRow_other (blk_step k_t2 hE) (by omega) _), (blk_setRow_other (blk_step k_t3 hE) (by omega) _), (blk_setRow_other (blk_step k_t4 hE) (by omega) _), (blk_setRow_other (blk_step k_t6 hE) (by omega) _), (blk_setRow_other (blk_step k_t7 hE) (by omega) _), (blk_setRow_other (blk_step k_t8 hE) (by omega) _), (blk_setRow k_t9 (c4 X10))⟩
  generalize (W7.setRow p9_7 (c4 X10)) = W8 at hF ⊢
  clear bel k_t2 k_t3 k_t4 k_t6 k_t7 k_t8 k_t9
  obtain ⟨bel, k_t2, k_t3, k_t4, k_t6, k_t7, k_t8, k_t9⟩ := hF
  go_upto_region 5 with fail
  have lt_t9_8 := blk_lt k_t9
  have gf := GF_ext hG bel
  have gm := gf.1
  have gi : Rd _ 5 imaC := Rd.ext hI bel
  have hw : X10 = rtW A B := by rw [HX10.out, HX9.out, HX8.out, HX7.out, HX6.out, HX5.out, HX4.out, HX3.out, HX2.out, HX1.out]; rfl
  have c_m11 := fSame_c X10 A bX10 hA
  rw [hw, rtW_mod, decide_eq_false h1, ← hw] at c_m11
  have HW := Lib.hid hw
  clear hw
  refine wp_region_pn 4 [] (fun x hx => by cases hx) (by kernel_rfl) ?_
  simp only [List.take_succ_cons, List.take_zero, List.take_nil]
  (try simp only [Act.put, List.setIfInBounds_toArray, List.set_cons_zero, List.set_cons_succ])
  ((with_reducible refine wpX_load (b := ?_) (cs := ?_) ?_ rfl ?_ ?_ ?_ ?_ ?_); rotate_left 2; (focus rfl); (focus rfl); (focus first | assumption | exact blk_rd (by assumption)); (focus kernel_rfl); (focus kernel_rfl); (try simp only [Act.put, List.setIfInBounds_toArray, List.set_cons_zero, List.set_cons_succ]))
  ((with_reducible refine wpX_load (b := ?_) (cs := ?_) ?_ rfl ?_ ?_ ?_ ?_ ?_); rotate_left 2; (focus rfl); (focus rfl); (focus first | assumption | exact blk_rd (by assumption)); (focus kernel_rfl); (focus kernel_rfl); (try simp only [Act.put, List.setIfInBounds_toArray, List.set_cons_zero, List.set_cons_succ]))
  ((with_reducible refine wpX_fn (fun W hW => c_m11 W (GF_ext gf hW)) ?_ rfl ?_ ?_ ?_); (focus rfl); (focus kernel_rfl); (focus rfl); (try simp only [Act.put, List.setIfInBounds_toArray, List.set_cons_zero, List.set_cons_succ]))
  (refine wpX_val (v := ?_) (by rfl) (fun W hW => ?_) ?_; rotate_left 1; (focus (go_simp; first | done | with_reducible rfl)); (try simp only [Act.put, List.setIfInBounds_toArray, List.set_cons_zero, List.set_cons_succ]))
  refine wpX_nil ?_
  intro β W9 hE hN hD
  simp only [putAll, Act.put, List.setIfInBounds_toArray, List.set_cons_zero, List.set_cons_succ, List.drop_succ_cons, List.drop_zero, List.drop_nil, List.length_cons, List.length_nil]
  clear hN hD β
  refine wpL_nil ?_
  have hF : Below w.heap.size w W9 ∧ Blk W9 w.heap.size (c4 A) 26 ∧ Blk W9 (w.heap.size + 1) (c4 B) 26 ∧ Blk W9 (w.heap.size + 2) #[.int .u64 0, .int .u64 0, .int .u64 0, .int .u64 0] 26 ∧ Blk W9 p6_1 (c4 X2) 26 ∧ Blk W9 p7_3 (c4 X4) 26 ∧ Blk W9 p8_5 (c4 X8) 26 ∧ Blk W9 p9_7 (c4 X10) 26 := ⟨(below_step bel hE bel.size), (blk_step k_t2 hE), (blk_step k_t3 hE), (blk_step k_t4 hE), (blk_step k_t6 hE), (blk_step k_t7 hE), (blk_step k_t8 hE), (blk_step k_t9 hE)⟩
  clear bel k_t2 k_t3 k_t4 k_t6 k_t7 k_t8 k_t9
  obtain ⟨bel, k_t2, k_t3, k_t4, k_t6, k_t7, k_t8, k_t9⟩ := hF
  go_upto_region 7 with fail
  have lt_t9_9 := blk_lt k_t9
  have gf := GF_ext hG bel
  have gm := gf.1
  have gi : Rd _ 5 imaC := Rd.ext hI bel
  have c_X12 := fNeg_c A hA
  obtain ⟨X12, hX12⟩ : ∃ v_, v_ = (PP - A % PP) % PP := ⟨_, rfl⟩
  rw [← hX12] at c_X12
  have bX12 : X12 < P256 := by rw [hX12]; exact mod_256 _
  have HX12 := Lib.hid hX12
  clear hX12
  have c_m13 := fSame_c X10 X12 bX10 bX12
  have e2 : X12 = (PP - A % PP) % PP := HX12.out
  rw [HW.out, rtW_mod, e2, Nat.mod_mod, decide_eq_false h2, ← HW.out, ← e2] at c_m13
  clear e2
  refine wp_region_xn 5 [] (by kernel_rfl) (fun x hx => by cases hx) (by kernel_rfl) ?_
  simp only [List.take_succ_cons, List.take_zero, List.take_nil]
  (try simp only [Act.put, List.setIfInBounds_toArray, List.set_cons_zero, List.set_cons_succ])
  ((with_reducible refine wpX_load (b := ?_) (cs := ?_) ?_ rfl ?_ ?_ ?_ ?_ ?_); rotate_left 2; (focus rfl); (focus rfl); (focus first | assumption | exact blk_rd (by assumption)); (focus kernel_rfl); (focus kernel_rfl); (try simp only [Act.put, List.setIfInBounds_toArray, List.set_cons_zero, List.set_cons_succ]))
  ((with_reducible refine wpX_load (b := ?_) (cs := ?_) ?_ rfl ?_ ?_ ?_ ?_ ?_); rotate_left 2; (focus rfl); (focus rfl); (focus first | assumption | exact blk_rd (by assumption)); (focus kernel_rfl); (focus kernel_rfl); (try simp only [Act.put, List.setIfInBounds_toArray, List.set_cons_zero, List.set_cons_succ]))
  ((with_reducible refine wpX_fn (fun W hW => c_X12 W (GF_ext gf hW)) ?_ rfl ?_ ?_ ?_); (focus rfl); (focus kernel_rfl); (focus rfl); (try simp only [Act.put, List.setIfInBounds_toArray, List.set_cons_zero, List.set_cons_succ]))
  ((with_reducible refine wpX_fn (fun W hW => c_m13 W (GF_ext gf hW)) ?_ rfl ?_ ?_ ?_); (focus rfl); (focus kernel_rfl); (focus rfl); (try simp only [Act.put, List.setIfInBounds_toArray, List.set_cons_zero, List.set_cons_succ]))
  (refine wpX_val (v := ?_) (by rfl) (fun W hW => ?_) ?_; rotate_left 1; (focus (go_simp; first | done | with_reducible rfl)); (try simp only [Act.put, List.setIfInBounds_toArray, List.set_cons_zero, List.set_cons_succ]))
  refine wpX_nil ?_
  intro β W10 hE hN hD
  simp only [putAll, Act.put, List.setIfInBounds_toArray, List.set_cons_zero, List.set_cons_succ, List.drop_succ_cons, List.drop_zero, List.drop_nil, List.length_cons, List.length_nil]
  clear hN hD β
  refine wpL_nil ?_
  refine NoPanic.normal (Q := Exit.then _ _) ?_
  have hF : Below w.heap.size w W10 ∧ Blk W10 w.heap.size (c4 A) 26 ∧ Blk W10 (w.heap.size + 1) (c4 B) 26 ∧ Blk W10 (w.heap.size + 2) #[.int .u64 0, .int .u64 0, .int .u64 0, .int .u64 0] 26 ∧ Blk W10 p6_1 (c4 X2) 26 ∧ Blk W10 p7_3 (c4 X4) 26 ∧ Blk W10 p8_5 (c4 X8) 26 ∧ Blk W10 p9_7 (c4 X10) 26 := ⟨(below_step bel hE bel.size), (blk_step k_t2 hE), (blk_step k_t3 hE), (blk_step k_t4 hE), (blk_step k_t6 hE), (blk_step k_t7 hE), (blk_step k_t8 hE), (blk_step k_t9 hE)⟩
  clear bel k_t2 k_t3 k_t4 k_t6 k_t7 k_t8 k_t9
  obtain ⟨bel, k_t2, k_t3, k_t4, k_t6, k_t7, k_t8, k_t9⟩ := hF
  go_upto_region 9 with fail
  have lt_t9_10 := blk_lt k_t9
  have gf := GF_ext hG bel
  have gm := gf.1
  have gi : Rd _ 5 imaC := Rd.ext hI bel
  refine wp_region_pn 1 [] (fun x hx => by cases hx) (by kernel_rfl) ?_
  simp only [List.take_succ_cons, List.take_zero, List.take_nil]
  (try simp only [Act.put, List.setIfInBounds_toArray, List.set_cons_zero, List.set_cons_succ])
  (refine wpX_val (v := ?_) (by rfl) (fun W hW => ?_) ?_; rotate_left 1; (focus (go_simp; first | done | with_reducible rfl)); (try simp only [Act.put, List.setIfInBounds_toArray, List.set_cons_zero, List.set_cons_succ]))
  refine wpX_nil ?_
  intro β W11 hE hN hD
  simp only [putAll, Act.put, List.setIfInBounds_toArray, List.set_cons_zero, List.set_cons_succ, List.drop_succ_cons, List.drop_zero, List.drop_nil, List.length_cons, List.length_nil]
  clear hN hD β
  refine wpL_store (g := (w.heap.size + 2)) (cells := c4 0) (by rfl) rfl rfl rfl (blk_step k_t4 hE) (by kernel_rfl) (by kernel_rfl) (by kernel_rfl) ?_
  (try simp only [Act.put, List.setIfInBounds_toArray, List.set_cons_zero, List.set_cons_succ])
  (refine wpL_val (v := ?_) (by rfl) ?_ ?_; rotate_left 1; (focus (go_simp; first | done | with_reducible rfl)))
  (try simp only [Act.put, List.setIfInBounds_toArray, List.set_cons_zero, List.set_cons_succ])
  refine wpL_nil ?_
  have hF : Below w.heap.size w (W11.setRow (w.heap.size + 2) (c4 0)) ∧ Blk (W11.setRow (w.heap.size + 2) (c4 0)) w.heap.size (c4 A) 26 ∧ Blk (W11.setRow (w.heap.size + 2) (c4 0)) (w.heap.size + 1) (c4 B) 26 ∧ Blk (W11.setRow (w.heap.size + 2) (c4 0)) (w.heap.size + 2) (c4 0) 26 ∧ Blk (W11.setRow (w.heap.size + 2) (c4 0)) p6_1 (c4 X2) 26 ∧ Blk (W11.setRow (w.heap.size + 2) (c4 0)) p7_3 (c4 X4) 26 ∧ Blk (W11.setRow (w.heap.size + 2) (c4 0)) p8_5 (c4 X8) 26 ∧ Blk (W11.setRow (w.heap.size + 2) (c4 0)) p9_7 (c4 X10) 26 := ⟨(below_setRow (below_step bel hE bel.size) (by omega) _), (blk_setRow_other (blk_step k_t2 hE) (by omega) _), (blk_setRow_other (blk_step k_t3 hE) (by omega) _), (blk_setRow (blk_step k_t4 hE) (c4 0)), (blk_setRow_other (blk_step k_t6 hE) (by omega) _), (blk_setRow_other (blk_step k_t7 hE) (by omega) _), (blk_setRow_other (blk_step k_t8 hE) (by omega) _), (blk_setRow_other (blk_step k_t9 hE) (by omega) _)⟩
  generalize (W11.setRow (w.heap.size + 2) (c4 0)) = W12 at hF ⊢
  clear bel k_t2 k_t3 k_t4 k_t6 k_t7 k_t8 k_t9
  obtain ⟨bel, k_t2, k_t3, k_t4, k_t6, k_t7, k_t8, k_t9⟩ := hF
  go_wp2
  refine bodyPost_ret (res_row2 rfl rfl rfl k_t4 (by kernel_rfl) (by kernel_rfl)) rfl ⟨?_, bel⟩
  rfl
theorem fRoot_c (A B : Nat) (hA : A < P256) (hB : B < P256) (w : World) (hG : GF w) (hI : GI w) : Calls Tryd.prog 35 #[L4 A, L4 B] w fun e w' => Ret (.tuple #[L4 (rtR A B), .bool (rtB A B)]) w w' e := by
  unfold rtR rtB
  by_cases h1 : rtW A B = A % PP
  · rw [if_pos h1, decide_eq_true h1, Bool.true_or]; exact fRoot_1 A B hA hB h1 w hG hI
  · rw [if_neg h1, decide_eq_false h1, Bool.false_or]
    by_cases h2 : rtW A B = (PP - A % PP) % PP
    · rw [if_pos h2, decide_eq_true h2]; exact fRoot_2 A B hA hB h1 h2 w hG hI
    · rw [if_neg h2, decide_eq_false h2]; exact fRoot_3 A B hA hB h1 h2 w hG hI
end Go.Proofs.YtghajiagbfcmdaaDoor
