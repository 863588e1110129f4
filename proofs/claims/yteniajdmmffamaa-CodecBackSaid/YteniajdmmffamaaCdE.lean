/- custumallaw04.write, codes: a part by a writer. No conditions but that memory holds what is written. -/
import Derived.Test.YteniajdmmffamaaCdD
namespace Go.Proofs.Yteniajdmmffamaa
set_option linter.unusedSimpArgs false
set_option linter.unusedVariables false
open Go.RowKit

def by1 (N : Int) (l : List UInt8) : List UInt8 := if 0 ≤ N ∧ N ≤ 255 then l ++ [u8 N.toNat] else l
def bg1 (N : Int) (big : Bool) : Bool := big || !decide (0 ≤ N ∧ N ≤ 255)
theorem wbyte_d {p : Nat} {n : Int} {v : Value} {l : List UInt8} {big : Bool} {w : World} (hwr : Wr w p v l big) (hl : l.length < 140737488355328) :
    Calls Try.prog 6 #[.pointer (some ⟨p, 0, none⟩), .int .i64 n] w fun e w' => e = .returned (.tuple #[]) ∧ ∃ v', WrTo w p v (by1 n l) (bg1 n big) v' w' := wbyte_c hwr hl
theorem bs8_some {cs : Array Value} {l : List UInt8} (h : cs.toList.take l.length = bs8 l) : ∀ q, q < l.length → ∃ x : Int, cs[q]? = some (.int .u8 x) := by
  intro q hq
  have e := bs8_get (List.getElem?_eq_getElem hq)
  rw [← h, List.getElem?_take_of_lt hq] at e
  exact ⟨_, by simpa using e⟩
theorem some_set {cs : Array Value} {n : Nat} (h : ∀ q, q < n → ∃ x : Int, cs[q]? = some (.int .u8 x)) (j : Nat) (y : Int) : ∀ q, q < n → ∃ x : Int, (cs.setIfInBounds j (.int .u8 y))[q]? = some (.int .u8 x) := by
  intro q hq
  obtain ⟨x, hx⟩ := h q hq
  rw [Array.getElem?_setIfInBounds]
  by_cases hjq : j = q
  · subst hjq
    have := (Array.getElem?_eq_some_iff.1 hx).1
    exact ⟨y, by simp [this]⟩
  · exact ⟨x, by rw [if_neg hjq]; exact hx⟩

set_option maxHeartbeats 4000000 in
theorem write_1 (N : Int) (S T : List UInt8) (hS : S.length = 32) (p : Nat) (v : Value) (l : List UInt8) (big : Bool) (w : World) (hwr : Wr w p v l big) (hl : l.length < 140737488000000) :
    Calls Try.prog 10 #[.pointer (some ⟨p, 0, none⟩), .agg (partC 1 N S T)] w fun e w' => e = .returned (.tuple #[]) ∧ ∃ v', WrTo w p v (by1 N l) (bg1 N big) v' w' := by
  have off0 : Off (p :: v.ownBlock.toList) w w := Off.refl _ _
  have sz := off0.size
  obtain ⟨k_p, ow_b⟩ := hwr
  have ne_b_p := ow_b.ne_blk k_p (by decide)
  have fb_p : Fb p w.heap.size (p :: v.ownBlock.toList) := fun _ => by simp
  have fr_b : Fr (Value.ownBlock v) w.heap.size (p :: v.ownBlock.toList) := fun x hx _ => by simp [hx]
  go_enter Try.func10, Try.ntmps10
  go_upto_region 0 with fail
  refine wp_region_lit ?_
  refine wpL_new (z := partC 1 N S T) (t := 34) (by rfl) (by first | kernel_rfl | (go_simp; done) | (go_simp; rfl)) ?_
  (try simp only [Act.put, List.setIfInBounds_toArray, List.set_cons_zero, List.set_cons_succ])
  intro p3_1 W1 n_t3 hO h_
  have nq_p_t3 : p ≠ p3_1 := Nat.ne_of_lt (Nat.lt_of_lt_of_le (blk_lt k_p) n_t3)
  have ne_b_t3 := ne_new (Own.lt ow_b) n_t3
  have fb_t3 : Fb p3_1 w.heap.size (p :: v.ownBlock.toList) := fb_new (Nat.le_trans sz n_t3)
  replace k_p := blk_off k_p hO nm0
  replace ow_b := Own.off ow_b hO f0
  replace off0 := off0.step hO i0
  replace sz := off0.size
  have k_t3 := h_
  clear hO h_ n_t3
  refine wpL_nil ?_
  go_upto_region 1 with fail
  refine wp_region_lit ?_
  (refine wpL_val (v := ?_) (by rfl) ?_ ?_; rotate_left 1; (focus (go_simp; first | done | with_reducible rfl)))
  (try simp only [Act.put, List.setIfInBounds_toArray, List.set_cons_zero, List.set_cons_succ])
  refine wpL_get (v := .int .i64 1) (by rfl) rfl rfl k_t3 (by rfl) (by kernel_rfl) ?_
  (try simp only [Act.put, List.setIfInBounds_toArray, List.set_cons_zero, List.set_cons_succ])
  refine wpL_nil ?_
  go_upto_region 3 with fail
  refine wp_region_lit ?_
  (refine wpL_val (v := ?_) (by rfl) ?_ ?_; rotate_left 1; (focus (go_simp; first | done | with_reducible rfl)))
  (try simp only [Act.put, List.setIfInBounds_toArray, List.set_cons_zero, List.set_cons_succ])
  (refine wpL_val (v := ?_) (by rfl) ?_ ?_; rotate_left 1; (focus (go_simp; first | done | with_reducible rfl)))
  (try simp only [Act.put, List.setIfInBounds_toArray, List.set_cons_zero, List.set_cons_succ])
  refine wpL_get (v := .int .i64 N) (by rfl) rfl rfl k_t3 (by rfl) (by kernel_rfl) ?_
  (try simp only [Act.put, List.setIfInBounds_toArray, List.set_cons_zero, List.set_cons_succ])
  refine wpL_callv (wbyte_d ⟨k_p, ow_b⟩ (by first | omega | (simp only [List.length_append, List.length_cons, List.length_nil]; omega))) (by rfl) rfl (by kernel_rfl) rfl ?_
  (try simp only [Act.put, List.setIfInBounds_toArray, List.set_cons_zero, List.set_cons_succ])
  rintro W2 ⟨v_b1, hto⟩
  have at_b1 := hto.fr
  have hO := hto.off
  have kk := hto.wr.1
  have ow_b1 := hto.wr.2
  clear hto
  have ne_b1_p := own_ne at_b1 ne_b_p (blk_lt k_p)
  have ne_b1_t3 := own_ne at_b1 ne_b_t3 (blk_lt k_t3)
  have fr_b1 := own_fr at_b1 fr_b sz
  replace k_t3 := blk_off k_t3 hO (nmc nq_p_t3.symm (nmo ne_b_t3))
  replace off0 := off0.step hO (ic fb_p (io fr_b))
  replace sz := off0.size
  replace k_p := kk
  have ne_b1_p := Own.ne_blk ow_b1 k_p (by decide)
  clear hO at_b1 kk
  refine wpL_nil ?_
  go_wp2
  exact bodyPost_end (v := .tuple #[]) (by simp only [results, Try.results10]; go_simp) rfl ⟨rfl, _, ⟨k_p, ow_b1⟩, off0, fr_cons fr_b1 ne_b1_p⟩
set_option maxHeartbeats 4000000 in
theorem write_2a (N : Int) (S T : List UInt8) (hS : S.length = 32) (hn : N % 2 = 1) (p : Nat) (v : Value) (l : List UInt8) (big : Bool) (w : World) (hwr : Wr w p v l big) (hl : l.length < 140737488000000) :
    Calls Try.prog 10 #[.pointer (some ⟨p, 0, none⟩), .agg (partC 2 N S T)] w fun e w' => e = .returned (.tuple #[]) ∧ ∃ v', WrTo w p v (l ++ [u8 1]) (big) v' w' := by
  have off0 : Off (p :: v.ownBlock.toList) w w := Off.refl _ _
  have sz := off0.size
  obtain ⟨k_p, ow_b⟩ := hwr
  have ne_b_p := ow_b.ne_blk k_p (by decide)
  have fb_p : Fb p w.heap.size (p :: v.ownBlock.toList) := fun _ => by simp
  have fr_b : Fr (Value.ownBlock v) w.heap.size (p :: v.ownBlock.toList) := fun x hx _ => by simp [hx]
  go_enter Try.func10, Try.ntmps10
  go_upto_region 0 with fail
  refine wp_region_lit ?_
  refine wpL_new (z := partC 2 N S T) (t := 34) (by rfl) (by first | kernel_rfl | (go_simp; done) | (go_simp; rfl)) ?_
  (try simp only [Act.put, List.setIfInBounds_toArray, List.set_cons_zero, List.set_cons_succ])
  intro p3_1 W1 n_t3 hO h_
  have nq_p_t3 : p ≠ p3_1 := Nat.ne_of_lt (Nat.lt_of_lt_of_le (blk_lt k_p) n_t3)
  have ne_b_t3 := ne_new (Own.lt ow_b) n_t3
  have fb_t3 : Fb p3_1 w.heap.size (p :: v.ownBlock.toList) := fb_new (Nat.le_trans sz n_t3)
  replace k_p := blk_off k_p hO nm0
  replace ow_b := Own.off ow_b hO f0
  replace off0 := off0.step hO i0
  replace sz := off0.size
  have k_t3 := h_
  clear hO h_ n_t3
  refine wpL_nil ?_
  go_upto_region 1 with fail
  refine wp_region_lit ?_
  (refine wpL_val (v := ?_) (by rfl) ?_ ?_; rotate_left 1; (focus (go_simp; first | done | with_reducible rfl)))
  (try simp only [Act.put, List.setIfInBounds_toArray, List.set_cons_zero, List.set_cons_succ])
  refine wpL_get (v := .int .i64 2) (by rfl) rfl rfl k_t3 (by rfl) (by kernel_rfl) ?_
  (try simp only [Act.put, List.setIfInBounds_toArray, List.set_cons_zero, List.set_cons_succ])
  refine wpL_nil ?_
  go_upto_region 5 with fail
  refine wp_region_lit ?_
  (refine wpL_val (v := ?_) (by rfl) ?_ ?_; rotate_left 1; (focus (go_simp; first | done | with_reducible rfl)))
  (try simp only [Act.put, List.setIfInBounds_toArray, List.set_cons_zero, List.set_cons_succ])
  (refine wpL_val (v := ?_) (by rfl) ?_ ?_; rotate_left 1; (focus (go_simp; first | done | with_reducible rfl)))
  (try simp only [Act.put, List.setIfInBounds_toArray, List.set_cons_zero, List.set_cons_succ])
  refine wpL_get (v := .int .i64 N) (by rfl) rfl rfl k_t3 (by rfl) (by kernel_rfl) ?_
  (try simp only [Act.put, List.setIfInBounds_toArray, List.set_cons_zero, List.set_cons_succ])
  refine wpL_val (v := .int .i64 1) (by rfl) (by go_simp; (try rw [and_one]); (try omega)) ?_
  (try simp only [Act.put, List.setIfInBounds_toArray, List.set_cons_zero, List.set_cons_succ])
  refine wpL_val (v := .bool true) (by rfl) (by first | rfl | (go_simp; done) | (go_simp; with_reducible rfl) | (go_simp; omega)) ?_
  (try simp only [Act.put, List.setIfInBounds_toArray, List.set_cons_zero, List.set_cons_succ])
  refine wpL_callv (wflag_true p _ _ _ _ ⟨k_p, ow_b⟩ (by first | omega | (simp only [List.length_append, List.length_cons, List.length_nil]; omega))) (by rfl) rfl (by kernel_rfl) rfl ?_
  (try simp only [Act.put, List.setIfInBounds_toArray, List.set_cons_zero, List.set_cons_succ])
  rintro W2 ⟨v_b1, hto⟩
  have at_b1 := hto.fr
  have hO := hto.off
  have kk := hto.wr.1
  have ow_b1 := hto.wr.2
  clear hto
  have ne_b1_p := own_ne at_b1 ne_b_p (blk_lt k_p)
  have ne_b1_t3 := own_ne at_b1 ne_b_t3 (blk_lt k_t3)
  have fr_b1 := own_fr at_b1 fr_b sz
  replace k_t3 := blk_off k_t3 hO (nmc nq_p_t3.symm (nmo ne_b_t3))
  replace off0 := off0.step hO (ic fb_p (io fr_b))
  replace sz := off0.size
  replace k_p := kk
  have ne_b1_p := Own.ne_blk ow_b1 k_p (by decide)
  clear hO at_b1 kk
  refine wpL_nil ?_
  go_wp2
  exact bodyPost_end (v := .tuple #[]) (by simp only [results, Try.results10]; go_simp) rfl ⟨rfl, _, ⟨k_p, ow_b1⟩, off0, fr_cons fr_b1 ne_b1_p⟩
set_option maxHeartbeats 4000000 in
theorem write_2b (N : Int) (S T : List UInt8) (hS : S.length = 32) (hn : N % 2 = 0) (p : Nat) (v : Value) (l : List UInt8) (big : Bool) (w : World) (hwr : Wr w p v l big) (hl : l.length < 140737488000000) :
    Calls Try.prog 10 #[.pointer (some ⟨p, 0, none⟩), .agg (partC 2 N S T)] w fun e w' => e = .returned (.tuple #[]) ∧ ∃ v', WrTo w p v (l ++ [u8 0]) (big) v' w' := by
  have off0 : Off (p :: v.ownBlock.toList) w w := Off.refl _ _
  have sz := off0.size
  obtain ⟨k_p, ow_b⟩ := hwr
  have ne_b_p := ow_b.ne_blk k_p (by decide)
  have fb_p : Fb p w.heap.size (p :: v.ownBlock.toList) := fun _ => by simp
  have fr_b : Fr (Value.ownBlock v) w.heap.size (p :: v.ownBlock.toList) := fun x hx _ => by simp [hx]
  go_enter Try.func10, Try.ntmps10
  go_upto_region 0 with fail
  refine wp_region_lit ?_
  refine wpL_new (z := partC 2 N S T) (t := 34) (by rfl) (by first | kernel_rfl | (go_simp; done) | (go_simp; rfl)) ?_
  (try simp only [Act.put, List.setIfInBounds_toArray, List.set_cons_zero, List.set_cons_succ])
  intro p3_1 W1 n_t3 hO h_
  have nq_p_t3 : p ≠ p3_1 := Nat.ne_of_lt (Nat.lt_of_lt_of_le (blk_lt k_p) n_t3)
  have ne_b_t3 := ne_new (Own.lt ow_b) n_t3
  have fb_t3 : Fb p3_1 w.heap.size (p :: v.ownBlock.toList) := fb_new (Nat.le_trans sz n_t3)
  replace k_p := blk_off k_p hO nm0
  replace ow_b := Own.off ow_b hO f0
  replace off0 := off0.step hO i0
  replace sz := off0.size
  have k_t3 := h_
  clear hO h_ n_t3
  refine wpL_nil ?_
  go_upto_region 1 with fail
  refine wp_region_lit ?_
  (refine wpL_val (v := ?_) (by rfl) ?_ ?_; rotate_left 1; (focus (go_simp; first | done | with_reducible rfl)))
  (try simp only [Act.put, List.setIfInBounds_toArray, List.set_cons_zero, List.set_cons_succ])
  refine wpL_get (v := .int .i64 2) (by rfl) rfl rfl k_t3 (by rfl) (by kernel_rfl) ?_
  (try simp only [Act.put, List.setIfInBounds_toArray, List.set_cons_zero, List.set_cons_succ])
  refine wpL_nil ?_
  go_upto_region 5 with fail
  refine wp_region_lit ?_
  (refine wpL_val (v := ?_) (by rfl) ?_ ?_; rotate_left 1; (focus (go_simp; first | done | with_reducible rfl)))
  (try simp only [Act.put, List.setIfInBounds_toArray, List.set_cons_zero, List.set_cons_succ])
  (refine wpL_val (v := ?_) (by rfl) ?_ ?_; rotate_left 1; (focus (go_simp; first | done | with_reducible rfl)))
  (try simp only [Act.put, List.setIfInBounds_toArray, List.set_cons_zero, List.set_cons_succ])
  refine wpL_get (v := .int .i64 N) (by rfl) rfl rfl k_t3 (by rfl) (by kernel_rfl) ?_
  (try simp only [Act.put, List.setIfInBounds_toArray, List.set_cons_zero, List.set_cons_succ])
  refine wpL_val (v := .int .i64 0) (by rfl) (by go_simp; (try rw [and_one]); (try omega)) ?_
  (try simp only [Act.put, List.setIfInBounds_toArray, List.set_cons_zero, List.set_cons_succ])
  refine wpL_val (v := .bool false) (by rfl) (by first | rfl | (go_simp; done) | (go_simp; with_reducible rfl) | (go_simp; omega)) ?_
  (try simp only [Act.put, List.setIfInBounds_toArray, List.set_cons_zero, List.set_cons_succ])
  refine wpL_callv (wflag_false p _ _ _ _ ⟨k_p, ow_b⟩ (by first | omega | (simp only [List.length_append, List.length_cons, List.length_nil]; omega))) (by rfl) rfl (by kernel_rfl) rfl ?_
  (try simp only [Act.put, List.setIfInBounds_toArray, List.set_cons_zero, List.set_cons_succ])
  rintro W2 ⟨v_b1, hto⟩
  have at_b1 := hto.fr
  have hO := hto.off
  have kk := hto.wr.1
  have ow_b1 := hto.wr.2
  clear hto
  have ne_b1_p := own_ne at_b1 ne_b_p (blk_lt k_p)
  have ne_b1_t3 := own_ne at_b1 ne_b_t3 (blk_lt k_t3)
  have fr_b1 := own_fr at_b1 fr_b sz
  replace k_t3 := blk_off k_t3 hO (nmc nq_p_t3.symm (nmo ne_b_t3))
  replace off0 := off0.step hO (ic fb_p (io fr_b))
  replace sz := off0.size
  replace k_p := kk
  have ne_b1_p := Own.ne_blk ow_b1 k_p (by decide)
  clear hO at_b1 kk
  refine wpL_nil ?_
  go_wp2
  exact bodyPost_end (v := .tuple #[]) (by simp only [results, Try.results10]; go_simp) rfl ⟨rfl, _, ⟨k_p, ow_b1⟩, off0, fr_cons fr_b1 ne_b1_p⟩
set_option maxHeartbeats 4000000 in
theorem write_3 (N : Int) (S T : List UInt8) (hS : S.length = 32) (p : Nat) (v : Value) (l : List UInt8) (big : Bool) (w : World) (hwr : Wr w p v l big) (hl : l.length < 140737488000000) :
    Calls Try.prog 10 #[.pointer (some ⟨p, 0, none⟩), .agg (partC 3 N S T)] w fun e w' => e = .returned (.tuple #[]) ∧ ∃ v', WrTo w p v (l ++ be8 (N % 18446744073709551616).toNat) (big) v' w' := by
  have off0 : Off (p :: v.ownBlock.toList) w w := Off.refl _ _
  have sz := off0.size
  obtain ⟨k_p, ow_b⟩ := hwr
  have ne_b_p := ow_b.ne_blk k_p (by decide)
  have fb_p : Fb p w.heap.size (p :: v.ownBlock.toList) := fun _ => by simp
  have fr_b : Fr (Value.ownBlock v) w.heap.size (p :: v.ownBlock.toList) := fun x hx _ => by simp [hx]
  go_enter Try.func10, Try.ntmps10
  go_upto_region 0 with fail
  refine wp_region_lit ?_
  refine wpL_new (z := partC 3 N S T) (t := 34) (by rfl) (by first | kernel_rfl | (go_simp; done) | (go_simp; rfl)) ?_
  (try simp only [Act.put, List.setIfInBounds_toArray, List.set_cons_zero, List.set_cons_succ])
  intro p3_1 W1 n_t3 hO h_
  have nq_p_t3 : p ≠ p3_1 := Nat.ne_of_lt (Nat.lt_of_lt_of_le (blk_lt k_p) n_t3)
  have ne_b_t3 := ne_new (Own.lt ow_b) n_t3
  have fb_t3 : Fb p3_1 w.heap.size (p :: v.ownBlock.toList) := fb_new (Nat.le_trans sz n_t3)
  replace k_p := blk_off k_p hO nm0
  replace ow_b := Own.off ow_b hO f0
  replace off0 := off0.step hO i0
  replace sz := off0.size
  have k_t3 := h_
  clear hO h_ n_t3
  refine wpL_nil ?_
  go_upto_region 1 with fail
  refine wp_region_lit ?_
  (refine wpL_val (v := ?_) (by rfl) ?_ ?_; rotate_left 1; (focus (go_simp; first | done | with_reducible rfl)))
  (try simp only [Act.put, List.setIfInBounds_toArray, List.set_cons_zero, List.set_cons_succ])
  refine wpL_get (v := .int .i64 3) (by rfl) rfl rfl k_t3 (by rfl) (by kernel_rfl) ?_
  (try simp only [Act.put, List.setIfInBounds_toArray, List.set_cons_zero, List.set_cons_succ])
  refine wpL_nil ?_
  go_upto_region 7 with fail
  refine wp_region_lit ?_
  (refine wpL_val (v := ?_) (by rfl) ?_ ?_; rotate_left 1; (focus (go_simp; first | done | with_reducible rfl)))
  (try simp only [Act.put, List.setIfInBounds_toArray, List.set_cons_zero, List.set_cons_succ])
  (refine wpL_val (v := ?_) (by rfl) ?_ ?_; rotate_left 1; (focus (go_simp; first | done | with_reducible rfl)))
  (try simp only [Act.put, List.setIfInBounds_toArray, List.set_cons_zero, List.set_cons_succ])
  refine wpL_get (v := .int .i64 N) (by rfl) rfl rfl k_t3 (by rfl) (by kernel_rfl) ?_
  (try simp only [Act.put, List.setIfInBounds_toArray, List.set_cons_zero, List.set_cons_succ])
  refine wpL_callv (wnum_c N (N % 18446744073709551616).toNat (by omega) p _ _ _ _ ⟨k_p, ow_b⟩ (by first | omega | (simp only [List.length_append, List.length_cons, List.length_nil]; omega))) (by rfl) rfl (by kernel_rfl) rfl ?_
  (try simp only [Act.put, List.setIfInBounds_toArray, List.set_cons_zero, List.set_cons_succ])
  rintro W2 ⟨v_b1, hto⟩
  have at_b1 := hto.fr
  have hO := hto.off
  have kk := hto.wr.1
  have ow_b1 := hto.wr.2
  clear hto
  have ne_b1_p := own_ne at_b1 ne_b_p (blk_lt k_p)
  have ne_b1_t3 := own_ne at_b1 ne_b_t3 (blk_lt k_t3)
  have fr_b1 := own_fr at_b1 fr_b sz
  replace k_t3 := blk_off k_t3 hO (nmc nq_p_t3.symm (nmo ne_b_t3))
  replace off0 := off0.step hO (ic fb_p (io fr_b))
  replace sz := off0.size
  replace k_p := kk
  have ne_b1_p := Own.ne_blk ow_b1 k_p (by decide)
  clear hO at_b1 kk
  refine wpL_nil ?_
  go_wp2
  exact bodyPost_end (v := .tuple #[]) (by simp only [results, Try.results10]; go_simp) rfl ⟨rfl, _, ⟨k_p, ow_b1⟩, off0, fr_cons fr_b1 ne_b1_p⟩
set_option maxHeartbeats 4000000 in
theorem write_4 (N : Int) (S T : List UInt8) (hS : S.length = 32) (p : Nat) (v : Value) (l : List UInt8) (big : Bool) (w : World) (hwr : Wr w p v l big) (hl : l.length < 140737488000000) :
    Calls Try.prog 10 #[.pointer (some ⟨p, 0, none⟩), .agg (partC 4 N S T)] w fun e w' => e = .returned (.tuple #[]) ∧ ∃ v', WrTo w p v (l ++ S) (big) v' w' := by
  have off0 : Off (p :: v.ownBlock.toList) w w := Off.refl _ _
  have sz := off0.size
  obtain ⟨k_p, ow_b⟩ := hwr
  have ne_b_p := ow_b.ne_blk k_p (by decide)
  have fb_p : Fb p w.heap.size (p :: v.ownBlock.toList) := fun _ => by simp
  have fr_b : Fr (Value.ownBlock v) w.heap.size (p :: v.ownBlock.toList) := fun x hx _ => by simp [hx]
  go_enter Try.func10, Try.ntmps10
  go_upto_region 0 with fail
  refine wp_region_lit ?_
  refine wpL_new (z := partC 4 N S T) (t := 34) (by rfl) (by first | kernel_rfl | (go_simp; done) | (go_simp; rfl)) ?_
  (try simp only [Act.put, List.setIfInBounds_toArray, List.set_cons_zero, List.set_cons_succ])
  intro p3_1 W1 n_t3 hO h_
  have nq_p_t3 : p ≠ p3_1 := Nat.ne_of_lt (Nat.lt_of_lt_of_le (blk_lt k_p) n_t3)
  have ne_b_t3 := ne_new (Own.lt ow_b) n_t3
  have fb_t3 : Fb p3_1 w.heap.size (p :: v.ownBlock.toList) := fb_new (Nat.le_trans sz n_t3)
  replace k_p := blk_off k_p hO nm0
  replace ow_b := Own.off ow_b hO f0
  replace off0 := off0.step hO i0
  replace sz := off0.size
  have k_t3 := h_
  clear hO h_ n_t3
  refine wpL_nil ?_
  go_upto_region 1 with fail
  refine wp_region_lit ?_
  (refine wpL_val (v := ?_) (by rfl) ?_ ?_; rotate_left 1; (focus (go_simp; first | done | with_reducible rfl)))
  (try simp only [Act.put, List.setIfInBounds_toArray, List.set_cons_zero, List.set_cons_succ])
  refine wpL_get (v := .int .i64 4) (by rfl) rfl rfl k_t3 (by rfl) (by kernel_rfl) ?_
  (try simp only [Act.put, List.setIfInBounds_toArray, List.set_cons_zero, List.set_cons_succ])
  refine wpL_nil ?_
  go_upto_region 9 with fail
  refine wp_region_lit ?_
  (refine wpL_val (v := ?_) (by rfl) ?_ ?_; rotate_left 1; (focus (go_simp; first | done | with_reducible rfl)))
  (try simp only [Act.put, List.setIfInBounds_toArray, List.set_cons_zero, List.set_cons_succ])
  (refine wpL_val (v := ?_) (by rfl) ?_ ?_; rotate_left 1; (focus (go_simp; first | done | with_reducible rfl)))
  (try simp only [Act.put, List.setIfInBounds_toArray, List.set_cons_zero, List.set_cons_succ])
  refine wpL_gets (vs := bs8 S) (by rfl) rfl rfl k_t3 (partC_sum _ _ _ _) (by kernel_rfl) (by rw [bs8_length, hS]; kernel_rfl) ?_
  (try simp only [Act.put, List.setIfInBounds_toArray, List.set_cons_zero, List.set_cons_succ])
  refine wpL_callv (wsum_c S hS p _ _ _ _ ⟨k_p, ow_b⟩ (by first | omega | (simp only [List.length_append, List.length_cons, List.length_nil]; omega))) (by rfl) rfl (by kernel_rfl) rfl ?_
  (try simp only [Act.put, List.setIfInBounds_toArray, List.set_cons_zero, List.set_cons_succ])
  rintro W2 ⟨v_b1, hto⟩
  have at_b1 := hto.fr
  have hO := hto.off
  have kk := hto.wr.1
  have ow_b1 := hto.wr.2
  clear hto
  have ne_b1_p := own_ne at_b1 ne_b_p (blk_lt k_p)
  have ne_b1_t3 := own_ne at_b1 ne_b_t3 (blk_lt k_t3)
  have fr_b1 := own_fr at_b1 fr_b sz
  replace k_t3 := blk_off k_t3 hO (nmc nq_p_t3.symm (nmo ne_b_t3))
  replace off0 := off0.step hO (ic fb_p (io fr_b))
  replace sz := off0.size
  replace k_p := kk
  have ne_b1_p := Own.ne_blk ow_b1 k_p (by decide)
  clear hO at_b1 kk
  refine wpL_nil ?_
  go_wp2
  exact bodyPost_end (v := .tuple #[]) (by simp only [results, Try.results10]; go_simp) rfl ⟨rfl, _, ⟨k_p, ow_b1⟩, off0, fr_cons fr_b1 ne_b1_p⟩
set_option maxHeartbeats 4000000 in
theorem write_5 (N : Int) (S T : List UInt8) (hS : S.length = 32) (hT : T.length ≤ 65535) (p : Nat) (v : Value) (l : List UInt8) (big : Bool) (w : World) (hwr : Wr w p v l big) (hl : l.length < 140737488000000) :
    Calls Try.prog 10 #[.pointer (some ⟨p, 0, none⟩), .agg (partC 5 N S T)] w fun e w' => e = .returned (.tuple #[]) ∧ ∃ v', WrTo w p v (l ++ [u8 (T.length / 256), u8 T.length] ++ T) (big) v' w' := by
  have off0 : Off (p :: v.ownBlock.toList) w w := Off.refl _ _
  have sz := off0.size
  obtain ⟨k_p, ow_b⟩ := hwr
  have ne_b_p := ow_b.ne_blk k_p (by decide)
  have fb_p : Fb p w.heap.size (p :: v.ownBlock.toList) := fun _ => by simp
  have fr_b : Fr (Value.ownBlock v) w.heap.size (p :: v.ownBlock.toList) := fun x hx _ => by simp [hx]
  go_enter Try.func10, Try.ntmps10
  go_upto_region 0 with fail
  refine wp_region_lit ?_
  refine wpL_new (z := partC 5 N S T) (t := 34) (by rfl) (by first | kernel_rfl | (go_simp; done) | (go_simp; rfl)) ?_
  (try simp only [Act.put, List.setIfInBounds_toArray, List.set_cons_zero, List.set_cons_succ])
  intro p3_1 W1 n_t3 hO h_
  have nq_p_t3 : p ≠ p3_1 := Nat.ne_of_lt (Nat.lt_of_lt_of_le (blk_lt k_p) n_t3)
  have ne_b_t3 := ne_new (Own.lt ow_b) n_t3
  have fb_t3 : Fb p3_1 w.heap.size (p :: v.ownBlock.toList) := fb_new (Nat.le_trans sz n_t3)
  replace k_p := blk_off k_p hO nm0
  replace ow_b := Own.off ow_b hO f0
  replace off0 := off0.step hO i0
  replace sz := off0.size
  have k_t3 := h_
  clear hO h_ n_t3
  refine wpL_nil ?_
  go_upto_region 1 with fail
  refine wp_region_lit ?_
  (refine wpL_val (v := ?_) (by rfl) ?_ ?_; rotate_left 1; (focus (go_simp; first | done | with_reducible rfl)))
  (try simp only [Act.put, List.setIfInBounds_toArray, List.set_cons_zero, List.set_cons_succ])
  refine wpL_get (v := .int .i64 5) (by rfl) rfl rfl k_t3 (by rfl) (by kernel_rfl) ?_
  (try simp only [Act.put, List.setIfInBounds_toArray, List.set_cons_zero, List.set_cons_succ])
  refine wpL_nil ?_
  go_upto_region 11 with fail
  refine wp_region_lit ?_
  (refine wpL_val (v := ?_) (by rfl) ?_ ?_; rotate_left 1; (focus (go_simp; first | done | with_reducible rfl)))
  (try simp only [Act.put, List.setIfInBounds_toArray, List.set_cons_zero, List.set_cons_succ])
  refine wpL_get (v := str T) (by rfl) rfl rfl k_t3 (partC_text _ _ _ _ hS) (by kernel_rfl) ?_
  (try simp only [Act.put, List.setIfInBounds_toArray, List.set_cons_zero, List.set_cons_succ])
  refine wpL_bytes (l := T) (by first | omega | (simp only [List.length_append, List.length_cons, List.length_nil]; omega)) (by rfl) rfl rfl ?_
  (try simp only [Act.put, List.setIfInBounds_toArray, List.set_cons_zero, List.set_cons_succ])
  intro p38_2 c_y38 cs_y38 W2 n_y38 hO h_ c1_y38 c2_y38 c3_y38 c4_y38
  have nq_p_y38 : p ≠ p38_2 := Nat.ne_of_lt (Nat.lt_of_lt_of_le (blk_lt k_p) n_y38)
  have nq_t3_y38 : p3_1 ≠ p38_2 := Nat.ne_of_lt (Nat.lt_of_lt_of_le (blk_lt k_t3) n_y38)
  have ne_b_y38 := ne_new (Own.lt ow_b) n_y38
  have fb_y38 : Fb p38_2 w.heap.size (p :: v.ownBlock.toList) := fb_new (Nat.le_trans sz n_y38)
  replace k_p := blk_off k_p hO nm0
  replace k_t3 := blk_off k_t3 hO nm0
  replace ow_b := Own.off ow_b hO f0
  replace off0 := off0.step hO i0
  replace sz := off0.size
  have k_y38 := h_
  clear hO h_ n_y38
  have ow_z38 : Sl W2 (.slice (some ⟨p38_2, 0, none⟩) T.length c_y38) T := sl_blz k_y38 c1_y38 c2_y38 c4_y38
  have ne_z38_p : sb (.slice (some ⟨p38_2, 0, none⟩) T.length c_y38) T ≠ some p := sb_ne nq_p_y38.symm
  have ne_z38_t3 : sb (.slice (some ⟨p38_2, 0, none⟩) T.length c_y38) T ≠ some p3_1 := sb_ne nq_t3_y38.symm
  have dj_b_z38 : ∀ x, (Value.ownBlock v) = some x → sb (.slice (some ⟨p38_2, 0, none⟩) T.length c_y38) T ≠ some x := dj_blk ne_b_y38
  (refine wpL_val (v := ?_) (by rfl) ?_ ?_; rotate_left 1; (focus (go_simp; first | done | with_reducible rfl)))
  (try simp only [Act.put, List.setIfInBounds_toArray, List.set_cons_zero, List.set_cons_succ])
  refine wpL_nil ?_
  go_upto_region 12 with fail
  refine wp_region_lit ?_
  (refine wpL_val (v := ?_) (by rfl) ?_ ?_; rotate_left 1; (focus (go_simp; first | done | with_reducible rfl)))
  (try simp only [Act.put, List.setIfInBounds_toArray, List.set_cons_zero, List.set_cons_succ])
  (refine wpL_val (v := ?_) (by rfl) ?_ ?_; rotate_left 1; (focus (go_simp; first | done | with_reducible rfl)))
  (try simp only [Act.put, List.setIfInBounds_toArray, List.set_cons_zero, List.set_cons_succ])
  refine wpL_callv (wtext_c p _ _ _ _ ⟨k_p, ow_b⟩ _ T ow_z38 hT ne_z38_p dj_b_z38 (by first | omega | (simp only [List.length_append, List.length_cons, List.length_nil]; omega))) (by rfl) rfl (by kernel_rfl) rfl ?_
  (try simp only [Act.put, List.setIfInBounds_toArray, List.set_cons_zero, List.set_cons_succ])
  rintro W3 ⟨v_b1, hto⟩
  have at_b1 := hto.fr
  have hO := hto.off
  have kk := hto.wr.1
  have ow_b1 := hto.wr.2
  clear hto
  have ne_b1_p := own_ne at_b1 ne_b_p (blk_lt k_p)
  have ne_b1_t3 := own_ne at_b1 ne_b_t3 (blk_lt k_t3)
  have ne_b1_y38 := own_ne at_b1 ne_b_y38 (blz_lt k_y38)
  have dj_b1_z38 := own_dj at_b1 dj_b_z38 (Sl.lt ow_z38)
  have fr_b1 := own_fr at_b1 fr_b sz
  replace k_t3 := blk_off k_t3 hO (nmc nq_p_t3.symm (nmo ne_b_t3))
  replace k_y38 := blz_off k_y38 hO (nmc nq_p_y38.symm (nmo ne_b_y38))
  replace ow_z38 := Sl.off ow_z38 hO (fc ne_z38_p (fo dj_b_z38))
  replace off0 := off0.step hO (ic fb_p (io fr_b))
  replace sz := off0.size
  replace k_p := kk
  have ne_b1_p := Own.ne_blk ow_b1 k_p (by decide)
  clear hO at_b1 kk
  refine wpL_nil ?_
  clear ow_z38 ne_z38_p ne_z38_t3 dj_b1_z38
  have c3_ := c3_y38
  have hx0 : ∀ q, q < T.length → ∃ x : Int, (cs_y38)[q]? = some (.int .u8 x) := bs8_some c4_y38
  clear c4_y38 c3_y38
  go_wp2_with fail
  go_loopw [5] (fun ii wr => ∃ (j : Nat) (cs : Array Value), (j ≤ T.length) ∧ (ii = .int .i64 (j : Int)) ∧ (cs.size = c_y38) ∧ (∀ q, q < T.length → ∃ x : Int, cs[q]? = some (.int .u8 x)) ∧ Off (p :: v.ownBlock.toList) w wr ∧ Blk wr p #[v_b1, .bool big] 31 ∧ Blk wr p3_1 (partC 5 N S T) 34 ∧ Blz wr p38_2 cs 5 ∧ Own wr v_b1 (l ++ [u8 (T.length / 256), u8 T.length] ++ T))
    (fun ii _ => T.length - (intOf ii).toNat)
  case atStart => exact ⟨0, cs_y38, Nat.zero_le _, rfl, c3_, hx0, off0, k_p, k_t3, k_y38, ow_b1⟩
  case round =>
    obtain ⟨j, cs, hj, rfl, hsz, hx_cs, off0, k_p, k_t3, k_y38, ow_b1⟩ := hrel
    obtain ⟨W4, eW_⟩ := wname off0
    subst eW_
    have sz := off0.size
    have hle := hj
    by_cases hlt : j < T.length
    · have _f := hlt
      have hj := hlt
      go_upto_region 14 with fail
      refine wp_region_lit ?_
      (refine wpL_val (v := ?_) (by rfl) ?_ ?_; rotate_left 1; (focus (go_simp; first | done | with_reducible rfl)))
      (try simp only [Act.put, List.setIfInBounds_toArray, List.set_cons_zero, List.set_cons_succ])
      (refine wpL_val (v := ?_) (by rfl) ?_ ?_; rotate_left 1; (focus (go_simp; first | done | with_reducible rfl)))
      (try simp only [Act.put, List.setIfInBounds_toArray, List.set_cons_zero, List.set_cons_succ])
      (refine wpL_val (v := ?_) (by rfl) ?_ ?_; rotate_left 1; (focus (go_simp; first | done | with_reducible rfl)))
      (try simp only [Act.put, List.setIfInBounds_toArray, List.set_cons_zero, List.set_cons_succ])
      refine wpL_val (v := .bool true) (by rfl) (by first | rfl | (go_simp; done) | (go_simp; with_reducible rfl) | (go_simp; omega)) ?_
      (try simp only [Act.put, List.setIfInBounds_toArray, List.set_cons_zero, List.set_cons_succ])
      refine wpL_nil ?_
      go_upto_region 16 with fail
      refine wp_region_lit ?_
      (refine wpL_val (v := ?_) (by rfl) ?_ ?_; rotate_left 1; (focus (go_simp; first | done | with_reducible rfl)))
      (try simp only [Act.put, List.setIfInBounds_toArray, List.set_cons_zero, List.set_cons_succ])
      (refine wpL_val (v := ?_) (by rfl) ?_ ?_; rotate_left 1; (focus (go_simp; first | done | with_reducible rfl)))
      (try simp only [Act.put, List.setIfInBounds_toArray, List.set_cons_zero, List.set_cons_succ])
      refine wpL_ixa (j := j) hj (by rfl) rfl rfl rfl ?_
      (try simp only [Act.put, List.setIfInBounds_toArray, List.set_cons_zero, List.set_cons_succ])
      obtain ⟨x, hx⟩ := hx_cs j hj
      refine wpL_at (v := .int .u8 x) (by rfl) rfl rfl (by rw [blz_cell k_y38, Nat.zero_add]; exact hx) (by kernel_rfl) ?_
      (try simp only [Act.put, List.setIfInBounds_toArray, List.set_cons_zero, List.set_cons_succ])
      refine wpL_val (v := .int .u8 (bits .xor .u8 x 9)) (by rfl) (by first | rfl | (go_simp; done) | (go_simp; with_reducible rfl) | (go_simp; omega)) ?_
      (try simp only [Act.put, List.setIfInBounds_toArray, List.set_cons_zero, List.set_cons_succ])
      refine wpL_ixa (j := j) hj (by rfl) rfl rfl rfl ?_
      (try simp only [Act.put, List.setIfInBounds_toArray, List.set_cons_zero, List.set_cons_succ])
      have hjc : 0 + j < cs.size := by omega
      refine wpL_putz (v := .int .u8 (bits .xor .u8 x 9)) ⟨rfl, rfl⟩ (by rfl) rfl rfl rfl k_y38 hjc (by kernel_rfl) ?_
      (try simp only [Act.put, List.setIfInBounds_toArray, List.set_cons_zero, List.set_cons_succ])
      intro W5 hO h_
      replace k_y38 := h_
      clear h_
      replace k_p := blk_off k_p hO (nm1 nq_p_y38)
      replace k_t3 := blk_off k_t3 hO (nm1 nq_t3_y38)
      replace ow_b1 := Own.off ow_b1 hO (f1 ne_b1_y38)
      replace off0 := off0.step hO (i1 fb_y38)
      replace sz := off0.size
      clear hO
      refine wpL_nil ?_
      go_wp2
      go_roundw
      case rel => exact ⟨j + 1, _, by omega, by go_num, by rw [Array.size_setIfInBounds]; exact hsz, some_set hx_cs _ _, off0, k_p, k_t3, k_y38, ow_b1⟩
      case measure => simp [intOf]; omega
    · have _f := hlt
      go_upto_region 14 with fail
      refine wp_region_lit ?_
      (refine wpL_val (v := ?_) (by rfl) ?_ ?_; rotate_left 1; (focus (go_simp; first | done | with_reducible rfl)))
      (try simp only [Act.put, List.setIfInBounds_toArray, List.set_cons_zero, List.set_cons_succ])
      (refine wpL_val (v := ?_) (by rfl) ?_ ?_; rotate_left 1; (focus (go_simp; first | done | with_reducible rfl)))
      (try simp only [Act.put, List.setIfInBounds_toArray, List.set_cons_zero, List.set_cons_succ])
      (refine wpL_val (v := ?_) (by rfl) ?_ ?_; rotate_left 1; (focus (go_simp; first | done | with_reducible rfl)))
      (try simp only [Act.put, List.setIfInBounds_toArray, List.set_cons_zero, List.set_cons_succ])
      refine wpL_val (v := .bool false) (by rfl) (by first | rfl | (go_simp; done) | (go_simp; with_reducible rfl) | (go_simp; omega)) ?_
      (try simp only [Act.put, List.setIfInBounds_toArray, List.set_cons_zero, List.set_cons_succ])
      refine wpL_nil ?_
      go_wp2
      exact bodyPost_end (v := .tuple #[]) (by simp only [results, Try.results10]; go_simp) rfl ⟨rfl, _, ⟨k_p, ow_b1⟩, off0, fr_cons fr_b1 ne_b1_p⟩
end Go.Proofs.Yteniajdmmffamaa
