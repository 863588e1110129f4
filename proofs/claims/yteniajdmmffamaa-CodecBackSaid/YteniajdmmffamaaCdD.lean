/- A part in memory; its bytes by the document (Write); what the law makes of it (tame). No conditions but that memory holds what is written. -/
import Derived.Test.YteniajdmmffamaaCdC
import Derived.Laws.BitsLemmas
namespace Go.Proofs.Yteniajdmmffamaa
set_option linter.unusedSimpArgs false
set_option linter.unusedVariables false
open Go.RowKit

/-- the cells of a part -/
def partC (K N : Int) (S T : List UInt8) : Array Value := (Value.int .i64 K :: .int .i64 N :: (bs8 S ++ [str T])).toArray
theorem partC_size {K N : Int} {S T : List UInt8} (hS : S.length = 32) : (partC K N S T).size = 35 := by simp [partC, bs8_length, hS]
theorem partC_one (K N : Int) (S T : List UInt8) : (partC K N S T).all (·.oneCell') = true := by
  refine all_oneCell_toArray fun v hv => ?_
  simp only [List.mem_cons, List.mem_append, List.not_mem_nil, or_false] at hv
  rcases hv with rfl | rfl | hv | rfl
  · rfl
  · rfl
  · exact bs8_one _ v hv
  · rfl
theorem partC_sum (K N : Int) (S T : List UInt8) : ∀ i v, (bs8 S)[i]? = some v → (partC K N S T)[2 + i]? = some v := by
  intro i v h
  have hl := (List.getElem?_eq_some_iff.1 h).1
  simp only [partC, List.getElem?_toArray]
  rw [show 2 + i = (i + 1) + 1 by omega, List.getElem?_cons_succ, List.getElem?_cons_succ, List.getElem?_append_left hl]
  exact h
theorem partC_text (K N : Int) (S T : List UInt8) (hS : S.length = 32) : (partC K N S T)[34]? = some (str T) := by
  simp only [partC, List.getElem?_toArray]
  rw [show 34 = (32 + 1) + 1 by rfl, List.getElem?_cons_succ, List.getElem?_cons_succ, List.getElem?_append_right (by rw [bs8_length, hS]; omega), bs8_length, hS]
  rfl
theorem partC_set0 (K N K' : Int) (S T : List UInt8) : (partC K N S T).setIfInBounds 0 (.int .i64 K') = partC K' N S T := by
  simp [partC]
theorem partC_set1 (K N N' : Int) (S T : List UInt8) : (partC K N S T).setIfInBounds 1 (.int .i64 N') = partC K N' S T := by
  simp [partC]
theorem partC_set34 (K N : Int) (S T T' : List UInt8) (hS : S.length = 32) : (partC K N S T).setIfInBounds 34 (str T') = partC K N S T' := by
  have h : (bs8 S ++ [str T]).set 32 (str T') = bs8 S ++ [str T'] := by
    rw [List.set_append_right _ _ (by rw [bs8_length, hS]; omega), bs8_length, hS]
    rfl
  simp [partC, h]
theorem spl_list : ∀ (vs : List Value) (pre old post : List Value) (n : Nat), n = pre.length → old.length = vs.length → spl (pre ++ old ++ post).toArray n vs = (pre ++ vs ++ post).toArray
  | [], pre, old, post, n, _, ho => by
    have : old = [] := List.eq_nil_of_length_eq_zero ho
    subst this; rfl
  | v :: r, pre, old, post, n, hn, ho => by
    obtain ⟨x, old, rfl⟩ : ∃ x t, old = x :: t := by
      cases old with
      | nil => simp at ho
      | cons x t => exact ⟨x, t, rfl⟩
    subst hn
    unfold spl
    have h := spl_list r (pre ++ [v]) old post (pre.length + 1) (by simp) (by simpa using ho)
    simp only [List.append_assoc, List.cons_append, List.nil_append] at h ⊢
    rw [← h]
    congr 1
    rw [List.setIfInBounds_toArray, List.set_append_right _ _ (Nat.le_refl _), Nat.sub_self]
    rfl
theorem partC_set2 (K N : Int) (S S' T : List UInt8) (hS : S.length = 32) (hS' : S'.length = 32) : spl (partC K N S T) 2 (Value.cells (.agg (bs8 S').toArray)).toList = partC K N S' T := by
  have h := spl_list (bs8 S') [.int .i64 K, .int .i64 N] (bs8 S) [str T] 2 rfl (by rw [bs8_length, bs8_length, hS, hS'])
  exact h
/-- the bytes of a part of a kind, and whether it is one -/
def partB (K : Nat) (N : Int) (S T : List UInt8) : List UInt8 :=
  if K = 1 then (if 0 ≤ N ∧ N ≤ 255 then [u8 N.toNat] else []) else if K = 2 then [u8 (N % 2).toNat] else if K = 3 then be8 (N % 18446744073709551616).toNat else if K = 4 then S else [u8 (T.length / 256)] ++ [u8 T.length] ++ T
def partOk (K : Nat) (N : Int) : Bool := !decide (K = 1) || decide (0 ≤ N ∧ N ≤ 255)
theorem and_one (N : Int) : bits .and .i64 N 1 = N % 2 := by
  have h1 : (BitVec.ofInt 64 1).toNat = 2 ^ 1 - 1 := by decide
  have key : (BitVec.ofInt 64 N &&& BitVec.ofInt 64 1).toNat = (N % ((2 ^ 64 : Nat) : Int)).toNat % 2 ^ 1 := by
    rw [BitVec.toNat_and, BitVec.toNat_ofInt, h1, Nat.and_two_pow_sub_one_eq_mod]
  show IntKind.i64.wrap ((BitVec.ofInt 64 N &&& BitVec.ofInt 64 1).toNat : Nat) = N % 2
  rw [key, IntKind.wrap_i64]
  omega

set_option maxHeartbeats 4000000 in
theorem rwrite_1i (n : Nat) (S T : List UInt8) (hS : S.length = 32) (hn : (n : Int) ≤ 255) (w : World) :
    Calls Try.prog 11 #[.agg (partC 1 (n : Int) S T)] w fun e w' => Ret (.tuple #[str (partB 1 (n : Int) S T), .bool (partOk 1 (n : Int))]) w w' e := by
  have hn1 : (0 : Int) ≤ (n : Int) := Int.natCast_nonneg _
  have off0 : Off [] w w := Off.refl _ _
  have sz := off0.size
  go_enter Try.func11, Try.ntmps11
  go_upto_region 0 with fail
  refine wp_region_lit ?_
  refine wpL_new (z := partC 1 (n : Int) S T) (t := 34) (by rfl) (by first | kernel_rfl | (go_simp; done) | (go_simp; rfl)) ?_
  (try simp only [Act.put, List.setIfInBounds_toArray, List.set_cons_zero, List.set_cons_succ])
  intro p1_1 W1 n_t1 hO h_
  have fb_t1 : Fb p1_1 w.heap.size [] := fb_new (Nat.le_trans sz n_t1)
  replace off0 := off0.step hO i0
  replace sz := off0.size
  have k_t1 := h_
  clear hO h_ n_t1
  (refine wpL_val (v := ?_) (by rfl) ?_ ?_; rotate_left 1; (focus (go_simp; first | done | with_reducible rfl)))
  (try simp only [Act.put, List.setIfInBounds_toArray, List.set_cons_zero, List.set_cons_succ])
  refine wpL_val (v := .bool false) (by rfl) (by first | rfl | (go_simp; done) | (go_simp; with_reducible rfl) | (go_simp; omega)) ?_
  (try simp only [Act.put, List.setIfInBounds_toArray, List.set_cons_zero, List.set_cons_succ])
  refine wpL_nil ?_
  go_upto_region 1 with fail
  refine wp_region_lit ?_
  (refine wpL_val (v := ?_) (by rfl) ?_ ?_; rotate_left 1; (focus (go_simp; first | done | with_reducible rfl)))
  (try simp only [Act.put, List.setIfInBounds_toArray, List.set_cons_zero, List.set_cons_succ])
  refine wpL_get (v := .int .i64 1) (by rfl) rfl rfl k_t1 (by rfl) (by kernel_rfl) ?_
  (try simp only [Act.put, List.setIfInBounds_toArray, List.set_cons_zero, List.set_cons_succ])
  refine wpL_nil ?_
  go_upto_region 3 with fail
  refine wp_region_lit ?_
  (refine wpL_val (v := ?_) (by rfl) ?_ ?_; rotate_left 1; (focus (go_simp; first | done | with_reducible rfl)))
  (try simp only [Act.put, List.setIfInBounds_toArray, List.set_cons_zero, List.set_cons_succ])
  refine wpL_get (v := .int .i64 (n : Int)) (by rfl) rfl rfl k_t1 (by rfl) (by kernel_rfl) ?_
  (try simp only [Act.put, List.setIfInBounds_toArray, List.set_cons_zero, List.set_cons_succ])
  refine wpL_val (v := .bool false) (by rfl) (by first | rfl | (go_simp; done) | (go_simp; with_reducible rfl) | (go_simp; omega)) ?_
  (try simp only [Act.put, List.setIfInBounds_toArray, List.set_cons_zero, List.set_cons_succ])
  refine wpL_val (v := .bool false) (by rfl) (by first | rfl | (go_simp; done) | (go_simp; with_reducible rfl) | (go_simp; omega)) ?_
  (try simp only [Act.put, List.setIfInBounds_toArray, List.set_cons_zero, List.set_cons_succ])
  (refine wpL_val (v := ?_) (by rfl) ?_ ?_; rotate_left 1; (focus (go_simp; first | done | with_reducible rfl)))
  (try simp only [Act.put, List.setIfInBounds_toArray, List.set_cons_zero, List.set_cons_succ])
  refine wpL_get (v := .int .i64 (n : Int)) (by rfl) rfl rfl k_t1 (by rfl) (by kernel_rfl) ?_
  (try simp only [Act.put, List.setIfInBounds_toArray, List.set_cons_zero, List.set_cons_succ])
  refine wpL_val (v := .bool false) (by rfl) (by first | rfl | (go_simp; done) | (go_simp; with_reducible rfl) | (go_simp; omega)) ?_
  (try simp only [Act.put, List.setIfInBounds_toArray, List.set_cons_zero, List.set_cons_succ])
  refine wpL_val (v := .bool false) (by rfl) (by first | rfl | (go_simp; done) | (go_simp; with_reducible rfl) | (go_simp; omega)) ?_
  (try simp only [Act.put, List.setIfInBounds_toArray, List.set_cons_zero, List.set_cons_succ])
  refine wpL_nil ?_
  go_upto_region 5 with fail
  refine wp_region_lit ?_
  (refine wpL_val (v := ?_) (by rfl) ?_ ?_; rotate_left 1; (focus (go_simp; first | done | with_reducible rfl)))
  (try simp only [Act.put, List.setIfInBounds_toArray, List.set_cons_zero, List.set_cons_succ])
  refine wpL_get (v := .int .i64 (n : Int)) (by rfl) rfl rfl k_t1 (by rfl) (by kernel_rfl) ?_
  (try simp only [Act.put, List.setIfInBounds_toArray, List.set_cons_zero, List.set_cons_succ])
  refine wpL_ret (one_c (n) W1) (by rfl) rfl (by kernel_rfl) rfl ?_
  (try simp only [Act.put, List.setIfInBounds_toArray, List.set_cons_zero, List.set_cons_succ])
  intro W2 hO
  replace k_t1 := blk_off k_t1 hO nm0
  replace off0 := off0.step hO i0
  replace sz := off0.size
  clear hO
  (refine wpL_val (v := ?_) (by rfl) ?_ ?_; rotate_left 1; (focus (go_simp; first | done | with_reducible rfl)))
  (try simp only [Act.put, List.setIfInBounds_toArray, List.set_cons_zero, List.set_cons_succ])
  refine wpL_val (v := .bool true) (by rfl) (by first | rfl | (go_simp; done) | (go_simp; with_reducible rfl) | (go_simp; omega)) ?_
  (try simp only [Act.put, List.setIfInBounds_toArray, List.set_cons_zero, List.set_cons_succ])
  refine wpL_nil ?_
  go_wp2
  exact bodyPost_ret (v := .tuple #[str [u8 (n)], .bool true]) (by simp only [results, Try.results11]; first | (go_simp; done) | (go_simp; rfl)) rfl ⟨by simp [partB, partOk, hn], off0.ext⟩
set_option maxHeartbeats 4000000 in
theorem rwrite_1o (N : Int) (S T : List UInt8) (hS : S.length = 32) (hn : ¬ (0 ≤ N ∧ N ≤ 255)) (w : World) :
    Calls Try.prog 11 #[.agg (partC 1 N S T)] w fun e w' => Ret (.tuple #[str (partB 1 N S T), .bool (partOk 1 N)]) w w' e := by
  have off0 : Off [] w w := Off.refl _ _
  have sz := off0.size
  go_enter Try.func11, Try.ntmps11
  go_upto_region 0 with fail
  refine wp_region_lit ?_
  refine wpL_new (z := partC 1 N S T) (t := 34) (by rfl) (by first | kernel_rfl | (go_simp; done) | (go_simp; rfl)) ?_
  (try simp only [Act.put, List.setIfInBounds_toArray, List.set_cons_zero, List.set_cons_succ])
  intro p1_1 W1 n_t1 hO h_
  have fb_t1 : Fb p1_1 w.heap.size [] := fb_new (Nat.le_trans sz n_t1)
  replace off0 := off0.step hO i0
  replace sz := off0.size
  have k_t1 := h_
  clear hO h_ n_t1
  (refine wpL_val (v := ?_) (by rfl) ?_ ?_; rotate_left 1; (focus (go_simp; first | done | with_reducible rfl)))
  (try simp only [Act.put, List.setIfInBounds_toArray, List.set_cons_zero, List.set_cons_succ])
  refine wpL_val (v := .bool false) (by rfl) (by first | rfl | (go_simp; done) | (go_simp; with_reducible rfl) | (go_simp; omega)) ?_
  (try simp only [Act.put, List.setIfInBounds_toArray, List.set_cons_zero, List.set_cons_succ])
  refine wpL_nil ?_
  go_upto_region 1 with fail
  refine wp_region_lit ?_
  (refine wpL_val (v := ?_) (by rfl) ?_ ?_; rotate_left 1; (focus (go_simp; first | done | with_reducible rfl)))
  (try simp only [Act.put, List.setIfInBounds_toArray, List.set_cons_zero, List.set_cons_succ])
  refine wpL_get (v := .int .i64 1) (by rfl) rfl rfl k_t1 (by rfl) (by kernel_rfl) ?_
  (try simp only [Act.put, List.setIfInBounds_toArray, List.set_cons_zero, List.set_cons_succ])
  refine wpL_nil ?_
  by_cases hx : N < 0
  · have _f := hx
    go_upto_region 3 with fail
    refine wp_region_lit ?_
    (refine wpL_val (v := ?_) (by rfl) ?_ ?_; rotate_left 1; (focus (go_simp; first | done | with_reducible rfl)))
    (try simp only [Act.put, List.setIfInBounds_toArray, List.set_cons_zero, List.set_cons_succ])
    refine wpL_get (v := .int .i64 N) (by rfl) rfl rfl k_t1 (by rfl) (by kernel_rfl) ?_
    (try simp only [Act.put, List.setIfInBounds_toArray, List.set_cons_zero, List.set_cons_succ])
    refine wpL_val (v := .bool true) (by rfl) (by first | rfl | (go_simp; done) | (go_simp; with_reducible rfl) | (go_simp; omega)) ?_
    (try simp only [Act.put, List.setIfInBounds_toArray, List.set_cons_zero, List.set_cons_succ])
    refine wpL_val (v := .bool true) (by rfl) (by first | rfl | (go_simp; done) | (go_simp; with_reducible rfl) | (go_simp; omega)) ?_
    (try simp only [Act.put, List.setIfInBounds_toArray, List.set_cons_zero, List.set_cons_succ])
    refine wpL_skip (by rfl) ?_
    (try simp only [Act.put, List.setIfInBounds_toArray, List.set_cons_zero, List.set_cons_succ])
    refine wpL_skip (by rfl) ?_
    (try simp only [Act.put, List.setIfInBounds_toArray, List.set_cons_zero, List.set_cons_succ])
    refine wpL_skip (by rfl) ?_
    (try simp only [Act.put, List.setIfInBounds_toArray, List.set_cons_zero, List.set_cons_succ])
    refine wpL_val (v := .bool true) (by rfl) (by first | rfl | (go_simp; done) | (go_simp; with_reducible rfl) | (go_simp; omega)) ?_
    (try simp only [Act.put, List.setIfInBounds_toArray, List.set_cons_zero, List.set_cons_succ])
    refine wpL_nil ?_
    go_wp2
    exact bodyPost_ret (v := .tuple #[str [], .bool false]) (by simp only [results, Try.results11]; first | (go_simp; done) | (go_simp; rfl)) rfl ⟨by rw [partB, if_pos rfl, if_neg hn, partOk, decide_eq_false hn, Bool.or_false]; rfl, off0.ext⟩
  · have _f := hx
    have hy : 255 < N := by omega
    go_upto_region 3 with fail
    refine wp_region_lit ?_
    (refine wpL_val (v := ?_) (by rfl) ?_ ?_; rotate_left 1; (focus (go_simp; first | done | with_reducible rfl)))
    (try simp only [Act.put, List.setIfInBounds_toArray, List.set_cons_zero, List.set_cons_succ])
    refine wpL_get (v := .int .i64 N) (by rfl) rfl rfl k_t1 (by rfl) (by kernel_rfl) ?_
    (try simp only [Act.put, List.setIfInBounds_toArray, List.set_cons_zero, List.set_cons_succ])
    refine wpL_val (v := .bool false) (by rfl) (by first | rfl | (go_simp; done) | (go_simp; with_reducible rfl) | (go_simp; omega)) ?_
    (try simp only [Act.put, List.setIfInBounds_toArray, List.set_cons_zero, List.set_cons_succ])
    refine wpL_val (v := .bool false) (by rfl) (by first | rfl | (go_simp; done) | (go_simp; with_reducible rfl) | (go_simp; omega)) ?_
    (try simp only [Act.put, List.setIfInBounds_toArray, List.set_cons_zero, List.set_cons_succ])
    (refine wpL_val (v := ?_) (by rfl) ?_ ?_; rotate_left 1; (focus (go_simp; first | done | with_reducible rfl)))
    (try simp only [Act.put, List.setIfInBounds_toArray, List.set_cons_zero, List.set_cons_succ])
    refine wpL_get (v := .int .i64 N) (by rfl) rfl rfl k_t1 (by rfl) (by kernel_rfl) ?_
    (try simp only [Act.put, List.setIfInBounds_toArray, List.set_cons_zero, List.set_cons_succ])
    refine wpL_val (v := .bool true) (by rfl) (by first | rfl | (go_simp; done) | (go_simp; with_reducible rfl) | (go_simp; omega)) ?_
    (try simp only [Act.put, List.setIfInBounds_toArray, List.set_cons_zero, List.set_cons_succ])
    refine wpL_val (v := .bool true) (by rfl) (by first | rfl | (go_simp; done) | (go_simp; with_reducible rfl) | (go_simp; omega)) ?_
    (try simp only [Act.put, List.setIfInBounds_toArray, List.set_cons_zero, List.set_cons_succ])
    refine wpL_nil ?_
    go_wp2
    exact bodyPost_ret (v := .tuple #[str [], .bool false]) (by simp only [results, Try.results11]; first | (go_simp; done) | (go_simp; rfl)) rfl ⟨by rw [partB, if_pos rfl, if_neg hn, partOk, decide_eq_false hn, Bool.or_false]; rfl, off0.ext⟩
set_option maxHeartbeats 4000000 in
theorem rwrite_2 (N : Int) (S T : List UInt8) (hS : S.length = 32) (w : World) :
    Calls Try.prog 11 #[.agg (partC 2 N S T)] w fun e w' => Ret (.tuple #[str (partB 2 N S T), .bool (partOk 2 N)]) w w' e := by
  have off0 : Off [] w w := Off.refl _ _
  have sz := off0.size
  go_enter Try.func11, Try.ntmps11
  go_upto_region 0 with fail
  refine wp_region_lit ?_
  refine wpL_new (z := partC 2 N S T) (t := 34) (by rfl) (by first | kernel_rfl | (go_simp; done) | (go_simp; rfl)) ?_
  (try simp only [Act.put, List.setIfInBounds_toArray, List.set_cons_zero, List.set_cons_succ])
  intro p1_1 W1 n_t1 hO h_
  have fb_t1 : Fb p1_1 w.heap.size [] := fb_new (Nat.le_trans sz n_t1)
  replace off0 := off0.step hO i0
  replace sz := off0.size
  have k_t1 := h_
  clear hO h_ n_t1
  (refine wpL_val (v := ?_) (by rfl) ?_ ?_; rotate_left 1; (focus (go_simp; first | done | with_reducible rfl)))
  (try simp only [Act.put, List.setIfInBounds_toArray, List.set_cons_zero, List.set_cons_succ])
  refine wpL_val (v := .bool false) (by rfl) (by first | rfl | (go_simp; done) | (go_simp; with_reducible rfl) | (go_simp; omega)) ?_
  (try simp only [Act.put, List.setIfInBounds_toArray, List.set_cons_zero, List.set_cons_succ])
  refine wpL_nil ?_
  go_upto_region 1 with fail
  refine wp_region_lit ?_
  (refine wpL_val (v := ?_) (by rfl) ?_ ?_; rotate_left 1; (focus (go_simp; first | done | with_reducible rfl)))
  (try simp only [Act.put, List.setIfInBounds_toArray, List.set_cons_zero, List.set_cons_succ])
  refine wpL_get (v := .int .i64 2) (by rfl) rfl rfl k_t1 (by rfl) (by kernel_rfl) ?_
  (try simp only [Act.put, List.setIfInBounds_toArray, List.set_cons_zero, List.set_cons_succ])
  refine wpL_nil ?_
  go_upto_region 7 with fail
  refine wp_region_lit ?_
  (refine wpL_val (v := ?_) (by rfl) ?_ ?_; rotate_left 1; (focus (go_simp; first | done | with_reducible rfl)))
  (try simp only [Act.put, List.setIfInBounds_toArray, List.set_cons_zero, List.set_cons_succ])
  refine wpL_get (v := .int .i64 N) (by rfl) rfl rfl k_t1 (by rfl) (by kernel_rfl) ?_
  (try simp only [Act.put, List.setIfInBounds_toArray, List.set_cons_zero, List.set_cons_succ])
  refine wpL_val (v := .int .i64 (((N % 2).toNat : Nat) : Int)) (by rfl) (by go_simp; (try rw [and_one]); (try omega)) ?_
  (try simp only [Act.put, List.setIfInBounds_toArray, List.set_cons_zero, List.set_cons_succ])
  refine wpL_ret (one_c ((N % 2).toNat) W1) (by rfl) rfl (by kernel_rfl) rfl ?_
  (try simp only [Act.put, List.setIfInBounds_toArray, List.set_cons_zero, List.set_cons_succ])
  intro W2 hO
  replace k_t1 := blk_off k_t1 hO nm0
  replace off0 := off0.step hO i0
  replace sz := off0.size
  clear hO
  (refine wpL_val (v := ?_) (by rfl) ?_ ?_; rotate_left 1; (focus (go_simp; first | done | with_reducible rfl)))
  (try simp only [Act.put, List.setIfInBounds_toArray, List.set_cons_zero, List.set_cons_succ])
  refine wpL_val (v := .bool true) (by rfl) (by first | rfl | (go_simp; done) | (go_simp; with_reducible rfl) | (go_simp; omega)) ?_
  (try simp only [Act.put, List.setIfInBounds_toArray, List.set_cons_zero, List.set_cons_succ])
  refine wpL_nil ?_
  go_wp2
  exact bodyPost_ret (v := .tuple #[str [u8 ((N % 2).toNat)], .bool true]) (by simp only [results, Try.results11]; first | (go_simp; done) | (go_simp; rfl)) rfl ⟨rfl, off0.ext⟩
set_option maxHeartbeats 4000000 in
theorem rwrite_3 (N : Int) (S T : List UInt8) (hS : S.length = 32) (w : World) :
    Calls Try.prog 11 #[.agg (partC 3 N S T)] w fun e w' => Ret (.tuple #[str (partB 3 N S T), .bool (partOk 3 N)]) w w' e := by
  have off0 : Off [] w w := Off.refl _ _
  have sz := off0.size
  go_enter Try.func11, Try.ntmps11
  go_upto_region 0 with fail
  refine wp_region_lit ?_
  refine wpL_new (z := partC 3 N S T) (t := 34) (by rfl) (by first | kernel_rfl | (go_simp; done) | (go_simp; rfl)) ?_
  (try simp only [Act.put, List.setIfInBounds_toArray, List.set_cons_zero, List.set_cons_succ])
  intro p1_1 W1 n_t1 hO h_
  have fb_t1 : Fb p1_1 w.heap.size [] := fb_new (Nat.le_trans sz n_t1)
  replace off0 := off0.step hO i0
  replace sz := off0.size
  have k_t1 := h_
  clear hO h_ n_t1
  (refine wpL_val (v := ?_) (by rfl) ?_ ?_; rotate_left 1; (focus (go_simp; first | done | with_reducible rfl)))
  (try simp only [Act.put, List.setIfInBounds_toArray, List.set_cons_zero, List.set_cons_succ])
  refine wpL_val (v := .bool false) (by rfl) (by first | rfl | (go_simp; done) | (go_simp; with_reducible rfl) | (go_simp; omega)) ?_
  (try simp only [Act.put, List.setIfInBounds_toArray, List.set_cons_zero, List.set_cons_succ])
  refine wpL_nil ?_
  go_upto_region 1 with fail
  refine wp_region_lit ?_
  (refine wpL_val (v := ?_) (by rfl) ?_ ?_; rotate_left 1; (focus (go_simp; first | done | with_reducible rfl)))
  (try simp only [Act.put, List.setIfInBounds_toArray, List.set_cons_zero, List.set_cons_succ])
  refine wpL_get (v := .int .i64 3) (by rfl) rfl rfl k_t1 (by rfl) (by kernel_rfl) ?_
  (try simp only [Act.put, List.setIfInBounds_toArray, List.set_cons_zero, List.set_cons_succ])
  refine wpL_nil ?_
  go_upto_region 9 with fail
  refine wp_region_lit ?_
  (refine wpL_val (v := ?_) (by rfl) ?_ ?_; rotate_left 1; (focus (go_simp; first | done | with_reducible rfl)))
  (try simp only [Act.put, List.setIfInBounds_toArray, List.set_cons_zero, List.set_cons_succ])
  refine wpL_get (v := .int .i64 N) (by rfl) rfl rfl k_t1 (by rfl) (by kernel_rfl) ?_
  (try simp only [Act.put, List.setIfInBounds_toArray, List.set_cons_zero, List.set_cons_succ])
  refine wpL_ret (eight_c N (N % 18446744073709551616).toNat (by omega) W1) (by rfl) rfl (by kernel_rfl) rfl ?_
  (try simp only [Act.put, List.setIfInBounds_toArray, List.set_cons_zero, List.set_cons_succ])
  intro W2 hO
  replace k_t1 := blk_off k_t1 hO nm0
  replace off0 := off0.step hO i0
  replace sz := off0.size
  clear hO
  (refine wpL_val (v := ?_) (by rfl) ?_ ?_; rotate_left 1; (focus (go_simp; first | done | with_reducible rfl)))
  (try simp only [Act.put, List.setIfInBounds_toArray, List.set_cons_zero, List.set_cons_succ])
  refine wpL_val (v := .bool true) (by rfl) (by first | rfl | (go_simp; done) | (go_simp; with_reducible rfl) | (go_simp; omega)) ?_
  (try simp only [Act.put, List.setIfInBounds_toArray, List.set_cons_zero, List.set_cons_succ])
  refine wpL_nil ?_
  go_wp2
  exact bodyPost_ret (v := .tuple #[str (be8 (N % 18446744073709551616).toNat), .bool true]) (by simp only [results, Try.results11]; first | (go_simp; done) | (go_simp; rfl)) rfl ⟨rfl, off0.ext⟩
set_option maxHeartbeats 4000000 in
theorem rwrite_4 (N : Int) (S T : List UInt8) (hS : S.length = 32) (w : World) :
    Calls Try.prog 11 #[.agg (partC 4 N S T)] w fun e w' => Ret (.tuple #[str (partB 4 N S T), .bool (partOk 4 N)]) w w' e := by
  have off0 : Off [] w w := Off.refl _ _
  have sz := off0.size
  go_enter Try.func11, Try.ntmps11
  go_upto_region 0 with fail
  refine wp_region_lit ?_
  refine wpL_new (z := partC 4 N S T) (t := 34) (by rfl) (by first | kernel_rfl | (go_simp; done) | (go_simp; rfl)) ?_
  (try simp only [Act.put, List.setIfInBounds_toArray, List.set_cons_zero, List.set_cons_succ])
  intro p1_1 W1 n_t1 hO h_
  have fb_t1 : Fb p1_1 w.heap.size [] := fb_new (Nat.le_trans sz n_t1)
  replace off0 := off0.step hO i0
  replace sz := off0.size
  have k_t1 := h_
  clear hO h_ n_t1
  (refine wpL_val (v := ?_) (by rfl) ?_ ?_; rotate_left 1; (focus (go_simp; first | done | with_reducible rfl)))
  (try simp only [Act.put, List.setIfInBounds_toArray, List.set_cons_zero, List.set_cons_succ])
  refine wpL_val (v := .bool false) (by rfl) (by first | rfl | (go_simp; done) | (go_simp; with_reducible rfl) | (go_simp; omega)) ?_
  (try simp only [Act.put, List.setIfInBounds_toArray, List.set_cons_zero, List.set_cons_succ])
  refine wpL_nil ?_
  go_upto_region 1 with fail
  refine wp_region_lit ?_
  (refine wpL_val (v := ?_) (by rfl) ?_ ?_; rotate_left 1; (focus (go_simp; first | done | with_reducible rfl)))
  (try simp only [Act.put, List.setIfInBounds_toArray, List.set_cons_zero, List.set_cons_succ])
  refine wpL_get (v := .int .i64 4) (by rfl) rfl rfl k_t1 (by rfl) (by kernel_rfl) ?_
  (try simp only [Act.put, List.setIfInBounds_toArray, List.set_cons_zero, List.set_cons_succ])
  refine wpL_nil ?_
  go_upto_region 11 with fail
  refine wp_region_lit ?_
  (refine wpL_val (v := ?_) (by rfl) ?_ ?_; rotate_left 1; (focus (go_simp; first | done | with_reducible rfl)))
  (try simp only [Act.put, List.setIfInBounds_toArray, List.set_cons_zero, List.set_cons_succ])
  (refine wpL_val (v := ?_) (by rfl) ?_ ?_; rotate_left 1; (focus (go_simp; first | done | with_reducible rfl)))
  (try simp only [Act.put, List.setIfInBounds_toArray, List.set_cons_zero, List.set_cons_succ])
  have ow_arr : Sl W1 (.slice (some ⟨p1_1, 0 + 2, none⟩) 32 32) S := sl_blk k_t1 hS.symm (Nat.le_refl _) (by decide) (fun j x hj => partC_sum _ _ _ _ j _ (bs8_get hj))
  refine wpL_str (l := S) ow_arr (by rfl) rfl rfl ?_
  (try simp only [Act.put, List.setIfInBounds_toArray, List.set_cons_zero, List.set_cons_succ])
  (refine wpL_val (v := ?_) (by rfl) ?_ ?_; rotate_left 1; (focus (go_simp; first | done | with_reducible rfl)))
  (try simp only [Act.put, List.setIfInBounds_toArray, List.set_cons_zero, List.set_cons_succ])
  refine wpL_val (v := .bool true) (by rfl) (by first | rfl | (go_simp; done) | (go_simp; with_reducible rfl) | (go_simp; omega)) ?_
  (try simp only [Act.put, List.setIfInBounds_toArray, List.set_cons_zero, List.set_cons_succ])
  refine wpL_nil ?_
  go_wp2
  exact bodyPost_ret (v := .tuple #[str S, .bool true]) (by simp only [results, Try.results11]; first | (go_simp; done) | (go_simp; rfl)) rfl ⟨rfl, off0.ext⟩
set_option maxHeartbeats 4000000 in
theorem rwrite_5 (N : Int) (S T : List UInt8) (hS : S.length = 32) (hT : T.length ≤ 65535) (w : World) :
    Calls Try.prog 11 #[.agg (partC 5 N S T)] w fun e w' => Ret (.tuple #[str (partB 5 N S T), .bool (partOk 5 N)]) w w' e := by
  have off0 : Off [] w w := Off.refl _ _
  have sz := off0.size
  go_enter Try.func11, Try.ntmps11
  go_upto_region 0 with fail
  refine wp_region_lit ?_
  refine wpL_new (z := partC 5 N S T) (t := 34) (by rfl) (by first | kernel_rfl | (go_simp; done) | (go_simp; rfl)) ?_
  (try simp only [Act.put, List.setIfInBounds_toArray, List.set_cons_zero, List.set_cons_succ])
  intro p1_1 W1 n_t1 hO h_
  have fb_t1 : Fb p1_1 w.heap.size [] := fb_new (Nat.le_trans sz n_t1)
  replace off0 := off0.step hO i0
  replace sz := off0.size
  have k_t1 := h_
  clear hO h_ n_t1
  (refine wpL_val (v := ?_) (by rfl) ?_ ?_; rotate_left 1; (focus (go_simp; first | done | with_reducible rfl)))
  (try simp only [Act.put, List.setIfInBounds_toArray, List.set_cons_zero, List.set_cons_succ])
  refine wpL_val (v := .bool false) (by rfl) (by first | rfl | (go_simp; done) | (go_simp; with_reducible rfl) | (go_simp; omega)) ?_
  (try simp only [Act.put, List.setIfInBounds_toArray, List.set_cons_zero, List.set_cons_succ])
  refine wpL_nil ?_
  go_upto_region 1 with fail
  refine wp_region_lit ?_
  (refine wpL_val (v := ?_) (by rfl) ?_ ?_; rotate_left 1; (focus (go_simp; first | done | with_reducible rfl)))
  (try simp only [Act.put, List.setIfInBounds_toArray, List.set_cons_zero, List.set_cons_succ])
  refine wpL_get (v := .int .i64 5) (by rfl) rfl rfl k_t1 (by rfl) (by kernel_rfl) ?_
  (try simp only [Act.put, List.setIfInBounds_toArray, List.set_cons_zero, List.set_cons_succ])
  refine wpL_nil ?_
  go_upto_region 12 with fail
  refine wp_region_lit ?_
  (refine wpL_val (v := ?_) (by rfl) ?_ ?_; rotate_left 1; (focus (go_simp; first | done | with_reducible rfl)))
  (try simp only [Act.put, List.setIfInBounds_toArray, List.set_cons_zero, List.set_cons_succ])
  refine wpL_get (v := str T) (by rfl) rfl rfl k_t1 (partC_text _ _ _ _ hS) (by kernel_rfl) ?_
  (try simp only [Act.put, List.setIfInBounds_toArray, List.set_cons_zero, List.set_cons_succ])
  refine wpL_slen (l := T) (by rfl) rfl rfl ?_
  (try simp only [Act.put, List.setIfInBounds_toArray, List.set_cons_zero, List.set_cons_succ])
  refine wpL_val (v := .bool false) (by rfl) (by first | rfl | (go_simp; done) | (go_simp; with_reducible rfl) | (go_simp; omega)) ?_
  (try simp only [Act.put, List.setIfInBounds_toArray, List.set_cons_zero, List.set_cons_succ])
  refine wpL_nil ?_
  go_upto_region 14 with fail
  refine wp_region_lit ?_
  (refine wpL_val (v := ?_) (by rfl) ?_ ?_; rotate_left 1; (focus (go_simp; first | done | with_reducible rfl)))
  (try simp only [Act.put, List.setIfInBounds_toArray, List.set_cons_zero, List.set_cons_succ])
  refine wpL_get (v := str T) (by rfl) rfl rfl k_t1 (partC_text _ _ _ _ hS) (by kernel_rfl) ?_
  (try simp only [Act.put, List.setIfInBounds_toArray, List.set_cons_zero, List.set_cons_succ])
  refine wpL_ret (rtext_c T (by omega) W1) (by rfl) rfl (by kernel_rfl) rfl ?_
  (try simp only [Act.put, List.setIfInBounds_toArray, List.set_cons_zero, List.set_cons_succ])
  intro W2 hO
  replace k_t1 := blk_off k_t1 hO nm0
  replace off0 := off0.step hO i0
  replace sz := off0.size
  clear hO
  (refine wpL_val (v := ?_) (by rfl) ?_ ?_; rotate_left 1; (focus (go_simp; first | done | with_reducible rfl)))
  (try simp only [Act.put, List.setIfInBounds_toArray, List.set_cons_zero, List.set_cons_succ])
  refine wpL_val (v := .bool true) (by rfl) (by first | rfl | (go_simp; done) | (go_simp; with_reducible rfl) | (go_simp; omega)) ?_
  (try simp only [Act.put, List.setIfInBounds_toArray, List.set_cons_zero, List.set_cons_succ])
  refine wpL_nil ?_
  go_wp2
  exact bodyPost_ret (v := .tuple #[str ([u8 (T.length / 256)] ++ [u8 T.length] ++ T), .bool true]) (by simp only [results, Try.results11]; first | (go_simp; done) | (go_simp; rfl)) rfl ⟨rfl, off0.ext⟩
theorem rwrite_c (K : Nat) (N : Int) (S T : List UInt8) (hS : S.length = 32) (hK : 1 ≤ K ∧ K ≤ 5) (hT : T.length ≤ 65535) (w : World) :
    Calls Try.prog 11 #[.agg (partC (K : Int) N S T)] w fun e w' => Ret (.tuple #[str (partB K N S T), .bool (partOk K N)]) w w' e := by
  have : K = 1 ∨ K = 2 ∨ K = 3 ∨ K = 4 ∨ K = 5 := by omega
  rcases this with rfl | rfl | rfl | rfl | rfl
  · by_cases h : 0 ≤ N ∧ N ≤ 255
    · obtain ⟨n, rfl⟩ := Int.eq_ofNat_of_zero_le h.1
      exact rwrite_1i n S T hS h.2 w
    · exact rwrite_1o N S T hS h w
  · exact rwrite_2 N S T hS w
  · exact rwrite_3 N S T hS w
  · exact rwrite_4 N S T hS w
  · exact rwrite_5 N S T hS hT w
set_option maxHeartbeats 4000000 in
theorem tame_c (K N : Int) (X : Nat) (hx : K % 18446744073709551616 = (X : Int)) (S T : List UInt8) (hS : S.length = 32) (w : World) :
    Calls Try.prog 9 #[.agg (partC K N S T)] w fun e w' => Ret (.agg (partC ((1 + X % 5 : Nat) : Int) N S (T.take (min T.length 300)))) w w' e := by
  have hx2 : IntKind.wrap .u64 K = (X : Int) := by rw [IntKind.wrap_u64]; exact hx
  have x0 : (0 : Int) ≤ (X : Int) := Int.natCast_nonneg _
  have x1 : (X : Int) < 18446744073709551616 := by omega
  have off0 : Off [] w w := Off.refl _ _
  have sz := off0.size
  go_enter Try.func9, Try.ntmps9
  go_upto_region 0 with fail
  refine wp_region_lit ?_
  refine wpL_new (z := partC K N S T) (t := 34) (by rfl) (by first | kernel_rfl | (go_simp; done) | (go_simp; rfl)) ?_
  (try simp only [Act.put, List.setIfInBounds_toArray, List.set_cons_zero, List.set_cons_succ])
  intro p1_1 W1 n_t1 hO h_
  have fb_t1 : Fb p1_1 w.heap.size [] := fb_new (Nat.le_trans sz n_t1)
  replace off0 := off0.step hO i0
  replace sz := off0.size
  have k_t1 := h_
  clear hO h_ n_t1
  refine wpL_new (z := partC 0 0 (List.replicate 32 0) []) (t := 34) (by rfl) (by first | kernel_rfl | (go_simp; done) | (go_simp; rfl)) ?_
  (try simp only [Act.put, List.setIfInBounds_toArray, List.set_cons_zero, List.set_cons_succ])
  intro p2_2 W2 n_t2 hO h_
  have nq_t1_t2 : p1_1 ≠ p2_2 := Nat.ne_of_lt (Nat.lt_of_lt_of_le (blk_lt k_t1) n_t2)
  have fb_t2 : Fb p2_2 w.heap.size [] := fb_new (Nat.le_trans sz n_t2)
  replace k_t1 := blk_off k_t1 hO nm0
  replace off0 := off0.step hO i0
  replace sz := off0.size
  have k_t2 := h_
  clear hO h_ n_t2
  refine wpL_nil ?_
  go_upto_region 1 with fail
  refine wp_region_lit ?_
  (refine wpL_val (v := ?_) (by rfl) ?_ ?_; rotate_left 1; (focus (go_simp; first | done | with_reducible rfl)))
  (try simp only [Act.put, List.setIfInBounds_toArray, List.set_cons_zero, List.set_cons_succ])
  refine wpL_get (v := .int .i64 K) (by rfl) rfl rfl k_t1 (by rfl) (by kernel_rfl) ?_
  (try simp only [Act.put, List.setIfInBounds_toArray, List.set_cons_zero, List.set_cons_succ])
  refine wpL_val (v := .int .u64 (X : Int)) (by rfl) (by go_simp; (try simp only [hx2])) ?_
  (try simp only [Act.put, List.setIfInBounds_toArray, List.set_cons_zero, List.set_cons_succ])
  refine wpL_val (v := .int .u64 ((X % 5 : Nat) : Int)) (by rfl) (by go_simp; (try simp only [hx2, IntKind.wrap_u64, IntKind.wrap_i64]); (try rw [Int.tmod_eq_emod_of_nonneg x0]); (try omega)) ?_
  (try simp only [Act.put, List.setIfInBounds_toArray, List.set_cons_zero, List.set_cons_succ])
  refine wpL_val (v := .int .i64 ((X % 5 : Nat) : Int)) (by rfl) (by go_simp; (try simp only [hx2, IntKind.wrap_u64, IntKind.wrap_i64]); (try rw [Int.tmod_eq_emod_of_nonneg x0]); (try omega)) ?_
  (try simp only [Act.put, List.setIfInBounds_toArray, List.set_cons_zero, List.set_cons_succ])
  refine wpL_val (v := .int .i64 ((1 + X % 5 : Nat) : Int)) (by rfl) (by go_simp; (try simp only [hx2, IntKind.wrap_u64, IntKind.wrap_i64]); (try rw [Int.tmod_eq_emod_of_nonneg x0]); (try omega)) ?_
  (try simp only [Act.put, List.setIfInBounds_toArray, List.set_cons_zero, List.set_cons_succ])
  (refine wpL_val (v := ?_) (by rfl) ?_ ?_; rotate_left 1; (focus (go_simp; first | done | with_reducible rfl)))
  (try simp only [Act.put, List.setIfInBounds_toArray, List.set_cons_zero, List.set_cons_succ])
  refine wpL_put1 (v := .int .i64 ((1 + X % 5 : Nat) : Int)) ⟨rfl, rfl⟩ (by rfl) rfl rfl rfl k_t1 (by rw [partC_size hS]; decide) (by kernel_rfl) ?_
  (try simp only [Act.put, List.setIfInBounds_toArray, List.set_cons_zero, List.set_cons_succ])
  intro W3 hO h_
  rw [partC_set0] at h_
  replace k_t1 : Blk W3 p1_1 (partC ((1 + X % 5 : Nat) : Int) N S T) 34 := h_
  clear h_
  replace k_t2 := blk_off k_t2 hO (nm1 nq_t1_t2.symm)
  replace off0 := off0.step hO (i1 fb_t1)
  replace sz := off0.size
  clear hO
  refine wpL_nil ?_
  go_upto_region 2 with fail
  refine wp_region_lit ?_
  (refine wpL_val (v := ?_) (by rfl) ?_ ?_; rotate_left 1; (focus (go_simp; first | done | with_reducible rfl)))
  (try simp only [Act.put, List.setIfInBounds_toArray, List.set_cons_zero, List.set_cons_succ])
  refine wpL_get (v := str T) (by rfl) rfl rfl k_t1 (partC_text _ _ _ _ hS) (by kernel_rfl) ?_
  (try simp only [Act.put, List.setIfInBounds_toArray, List.set_cons_zero, List.set_cons_succ])
  (refine wpL_val (v := ?_) (by rfl) ?_ ?_; rotate_left 1; (focus (go_simp; first | done | with_reducible rfl)))
  (try simp only [Act.put, List.setIfInBounds_toArray, List.set_cons_zero, List.set_cons_succ])
  refine wpL_get (v := str T) (by rfl) rfl rfl k_t1 (partC_text _ _ _ _ hS) (by kernel_rfl) ?_
  (try simp only [Act.put, List.setIfInBounds_toArray, List.set_cons_zero, List.set_cons_succ])
  refine wpL_slen (l := T) (by rfl) rfl rfl ?_
  (try simp only [Act.put, List.setIfInBounds_toArray, List.set_cons_zero, List.set_cons_succ])
  refine wpL_val (v := .int .i64 ((min T.length 300 : Nat) : Int)) (by rfl) (by go_simp; (try simp only [hx2, IntKind.wrap_u64, IntKind.wrap_i64]); (try rw [Int.tmod_eq_emod_of_nonneg x0]); (try omega)) ?_
  (try simp only [Act.put, List.setIfInBounds_toArray, List.set_cons_zero, List.set_cons_succ])
  refine wpL_shead (l := T) (n := min T.length 300) (by omega) (by rfl) rfl (Try.underlying9) rfl rfl ?_
  (try simp only [Act.put, List.setIfInBounds_toArray, List.set_cons_zero, List.set_cons_succ])
  (refine wpL_val (v := ?_) (by rfl) ?_ ?_; rotate_left 1; (focus (go_simp; first | done | with_reducible rfl)))
  (try simp only [Act.put, List.setIfInBounds_toArray, List.set_cons_zero, List.set_cons_succ])
  refine wpL_put1 (v := str (T.take (min T.length 300))) ⟨rfl, rfl⟩ (by rfl) rfl rfl rfl k_t1 (by rw [partC_size hS]; decide) (by kernel_rfl) ?_
  (try simp only [Act.put, List.setIfInBounds_toArray, List.set_cons_zero, List.set_cons_succ])
  intro W4 hO h_
  rw [partC_set34 _ _ _ _ _ hS] at h_
  replace k_t1 : Blk W4 p1_1 (partC ((1 + X % 5 : Nat) : Int) N S (T.take (min T.length 300))) 34 := h_
  clear h_
  replace k_t2 := blk_off k_t2 hO (nm1 nq_t1_t2.symm)
  replace off0 := off0.step hO (i1 fb_t1)
  replace sz := off0.size
  clear hO
  refine wpL_nil ?_
  go_upto_region 3 with fail
  refine wp_region_lit ?_
  refine wpL_load0 (by rfl) rfl rfl k_t1 (by kernel_rfl) (by rw [partC_size hS]; kernel_rfl) ?_
  (try simp only [Act.put, List.setIfInBounds_toArray, List.set_cons_zero, List.set_cons_succ])
  refine wpL_putrow (cells := partC ((1 + X % 5 : Nat) : Int) N S (T.take (min T.length 300))) (by rfl) rfl rfl rfl k_t2 (by rw [partC_size hS]; kernel_rfl) (by rw [partC_size (List.length_replicate), partC_size hS]) (by exact partC_one _ _ _ _) ?_
  (try simp only [Act.put, List.setIfInBounds_toArray, List.set_cons_zero, List.set_cons_succ])
  intro W5 hO h_
  replace k_t2 : Blk W5 p2_2 (partC ((1 + X % 5 : Nat) : Int) N S (T.take (min T.length 300))) 34 := h_
  clear h_
  replace k_t1 := blk_off k_t1 hO (nm1 nq_t1_t2)
  replace off0 := off0.step hO (i1 fb_t2)
  replace sz := off0.size
  clear hO
  refine wpL_nil ?_
  go_wp2
  refine bodyPost_ret (res_row rfl rfl k_t2 (by kernel_rfl) (by rw [partC_size hS]; kernel_rfl)) rfl ⟨?_, off0.ext⟩
  rfl
end Go.Proofs.Yteniajdmmffamaa
