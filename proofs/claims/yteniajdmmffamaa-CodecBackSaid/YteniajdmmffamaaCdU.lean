/- custumallaw04.next: a part of a kind is read. Conditions: the reader's bytes are such a part's, and more. -/
import Derived.Test.YteniajdmmffamaaCdG
import Derived.Test.YteniajdmmffamaaCdS
import Derived.Test.YteniajdmmffamaaCdT
namespace Go.Proofs.Yteniajdmmffamaa
set_option linter.unusedSimpArgs false
set_option linter.unusedVariables false
open Go.RowKit
attribute [local irreducible] wpList
/-- what comes of a part that is read -/
def partW (K : Nat) (N : Int) (S T : List UInt8) : Array Value :=
  partC K (if K = 1 ∨ K = 3 then N else if K = 2 then N % 2 else 0) (if K = 4 then S else List.replicate 32 0) (if K = 5 then T else [])

set_option maxRecDepth 100000 in
set_option maxHeartbeats 1500000 in
theorem next_1 (p : Nat) (v : Value) (most : Int) (r : List UInt8) (c : UInt8) (w : World) (hrd : Rdr w p v (c :: r) 0) (hl : (c :: r).length < 140737488000000) :
    Calls Try.prog 17 #[.pointer (some ⟨p, 0, none⟩), .int .i64 1, .int .i64 most] w fun e w' => e = .returned (.agg (partC 1 (c.toNat : Int) (List.replicate 32 0) [])) ∧ ∃ v', RdTo w p v (c :: r) r 0 v' w' := by
  have off0 : Off [p] w w := Off.refl _ _
  have sz := off0.size
  obtain ⟨k_p, ow_b, ne_b_p⟩ := hrd
  have fb_p : Fb p w.heap.size [p] := fun _ => by simp
  go_enter Try.func17, Try.ntmps17
  go_upto_region 0 with fail
  refine wp_region_lit ?_
  refine wpL_new (z := partC 0 0 (List.replicate 32 0) []) (t := 34) (by rfl) (by first | kernel_rfl | (go_simp; done) | (go_simp; rfl)) ?_
  (try simp only [Act.put, List.setIfInBounds_toArray, List.set_cons_zero, List.set_cons_succ])
  intro p6_1 W1 n_t6 hO h_
  have nq_p_t6 : p ≠ p6_1 := Nat.ne_of_lt (Nat.lt_of_lt_of_le (blk_lt k_p) n_t6)
  have ne_b_t6 := ne_new (Sl.lt ow_b) n_t6
  have fb_t6 : Fb p6_1 w.heap.size [p] := fb_new (Nat.le_trans sz n_t6)
  replace k_p := blk_off k_p hO nm0
  replace ow_b := Sl.off ow_b hO f0
  replace off0 := off0.step hO i0
  replace sz := off0.size
  have k_t6 := h_
  clear hO h_ n_t6
  refine wpL_nil ?_
  go_upto_region 1 with fail
  refine wp_region_lit ?_
  refine wpL_val (v := .int .i64 1) (by rfl) (by first | rfl | (go_simp; done) | (go_simp; with_reducible rfl) | (go_simp; omega)) ?_
  (try simp only [Act.put, List.setIfInBounds_toArray, List.set_cons_zero, List.set_cons_succ])
  refine wpL_val (v := .agg (partC 1 0 (List.replicate 32 0) [])) (by rfl) (by kernel_rfl) ?_
  (try simp only [Act.put, List.setIfInBounds_toArray, List.set_cons_zero, List.set_cons_succ])
  refine wpL_new (z := partC 0 0 (List.replicate 32 0) []) (t := 34) (by rfl) (by first | kernel_rfl | (go_simp; done) | (go_simp; rfl)) ?_
  (try simp only [Act.put, List.setIfInBounds_toArray, List.set_cons_zero, List.set_cons_succ])
  intro p7_2 W2 n_t7 hO h_
  have nq_p_t7 : p ≠ p7_2 := Nat.ne_of_lt (Nat.lt_of_lt_of_le (blk_lt k_p) n_t7)
  have nq_t6_t7 : p6_1 ≠ p7_2 := Nat.ne_of_lt (Nat.lt_of_lt_of_le (blk_lt k_t6) n_t7)
  have ne_b_t7 := ne_new (Sl.lt ow_b) n_t7
  have fb_t7 : Fb p7_2 w.heap.size [p] := fb_new (Nat.le_trans sz n_t7)
  replace k_p := blk_off k_p hO nm0
  replace k_t6 := blk_off k_t6 hO nm0
  replace ow_b := Sl.off ow_b hO f0
  replace off0 := off0.step hO i0
  replace sz := off0.size
  have k_t7 := h_
  clear hO h_ n_t7
  refine wpL_putrow (cells := partC 1 0 (List.replicate 32 0) []) (by rfl) rfl rfl rfl k_t7 (by rw [partC_size (List.length_replicate)]; kernel_rfl) (by rw [partC_size (List.length_replicate), partC_size (List.length_replicate)]) (by exact partC_one _ _ _ _) ?_
  (try simp only [Act.put, List.setIfInBounds_toArray, List.set_cons_zero, List.set_cons_succ])
  intro W3 hO h_
  replace k_t7 : Blk W3 p7_2 (partC 1 0 (List.replicate 32 0) []) 34 := h_
  clear h_
  replace k_p := blk_off k_p hO (nm1 nq_p_t7)
  replace k_t6 := blk_off k_t6 hO (nm1 nq_t6_t7)
  replace ow_b := Sl.off ow_b hO (f1 ne_b_t7)
  replace off0 := off0.step hO (i1 fb_t7)
  replace sz := off0.size
  clear hO
  refine wpL_nil ?_
  go_upto_region 4 with fail
  refine wp_region_lit ?_
  (refine wpL_val (v := ?_) (by rfl) ?_ ?_; rotate_left 1; (focus (go_simp; first | done | with_reducible rfl)))
  (try simp only [Act.put, List.setIfInBounds_toArray, List.set_cons_zero, List.set_cons_succ])
  refine wpL_callv (v := .int .i64 (c.toNat : Int)) (rbyte_ok p v c r _ ⟨k_p, ow_b, ne_b_p⟩ hl) (by rfl) rfl (by kernel_rfl) rfl ?_
  (try simp only [Act.put, List.setIfInBounds_toArray, List.set_cons_zero, List.set_cons_succ])
  rintro W4 ⟨v_b1, hto⟩
  have hO := hto.off
  have kk := hto.rd.1
  have hv2 := hto.rd.2.1
  have hs2 := hto.sub
  clear hto
  replace k_t6 := blk_off k_t6 hO (nm1 nq_p_t6.symm)
  replace k_t7 := blk_off k_t7 hO (nm1 nq_p_t7.symm)
  replace ow_b := Sl.off ow_b hO (f1 ne_b_p)
  replace off0 := off0.step hO (i1 fb_p)
  replace sz := off0.size
  replace k_p := kk
  clear kk hO
  have ow_b1 := hv2
  clear hv2
  have ne_b1_p : sb v_b1 r ≠ some p := sub_ne hs2 ne_b_p
  have ne_b1_t6 : sb v_b1 r ≠ some p6_1 := sub_ne hs2 ne_b_t6
  have ne_b1_t7 : sb v_b1 r ≠ some p7_2 := sub_ne hs2 ne_b_t7
  clear ow_b ne_b_p ne_b_t6 ne_b_t7
  (refine wpL_val (v := ?_) (by rfl) ?_ ?_; rotate_left 1; (focus (go_simp; first | done | with_reducible rfl)))
  (try simp only [Act.put, List.setIfInBounds_toArray, List.set_cons_zero, List.set_cons_succ])
  refine wpL_put1 (v := .int .i64 (c.toNat : Int)) ⟨rfl, rfl⟩ (by rfl) rfl rfl rfl k_t7 (by rw [partC_size (List.length_replicate)]; decide) (by kernel_rfl) ?_
  (try simp only [Act.put, List.setIfInBounds_toArray, List.set_cons_zero, List.set_cons_succ])
  intro W5 hO h_
  rw [partC_set1] at h_
  replace k_t7 : Blk W5 p7_2 (partC 1 (c.toNat : Int) (List.replicate 32 0) []) 34 := h_
  clear h_
  replace k_p := blk_off k_p hO (nm1 nq_p_t7)
  replace k_t6 := blk_off k_t6 hO (nm1 nq_t6_t7)
  replace ow_b1 := Sl.off ow_b1 hO (f1 ne_b1_t7)
  replace off0 := off0.step hO (i1 fb_t7)
  replace sz := off0.size
  clear hO
  refine wpL_nil ?_
  go_upto_region 14 with fail
  refine wp_region_lit ?_
  refine wpL_load0 (by rfl) rfl rfl k_t7 (by kernel_rfl) (by rw [partC_size (List.length_replicate)]; kernel_rfl) ?_
  (try simp only [Act.put, List.setIfInBounds_toArray, List.set_cons_zero, List.set_cons_succ])
  refine wpL_putrow (cells := partC 1 (c.toNat : Int) (List.replicate 32 0) []) (by rfl) rfl rfl rfl k_t6 (by rw [partC_size (List.length_replicate)]; kernel_rfl) (by rw [partC_size (List.length_replicate), partC_size (List.length_replicate)]) (by exact partC_one _ _ _ _) ?_
  (try simp only [Act.put, List.setIfInBounds_toArray, List.set_cons_zero, List.set_cons_succ])
  intro W6 hO h_
  replace k_t6 : Blk W6 p6_1 (partC 1 (c.toNat : Int) (List.replicate 32 0) []) 34 := h_
  clear h_
  replace k_p := blk_off k_p hO (nm1 nq_p_t6)
  replace k_t7 := blk_off k_t7 hO (nm1 nq_t6_t7.symm)
  replace ow_b1 := Sl.off ow_b1 hO (f1 ne_b1_t6)
  replace off0 := off0.step hO (i1 fb_t6)
  replace sz := off0.size
  clear hO
  refine wpL_nil ?_
  go_wp2
  refine bodyPost_ret (res_row rfl rfl k_t6 (by kernel_rfl) (by rw [partC_size (List.length_replicate)]; kernel_rfl)) rfl ⟨rfl, _, ⟨k_p, ow_b1, ne_b1_p⟩, hs2, off0⟩
set_option maxRecDepth 100000 in
set_option maxHeartbeats 1500000 in
theorem next_20 (p : Nat) (v : Value) (most : Int) (r : List UInt8)  (w : World) (hrd : Rdr w p v (u8 0 :: r) 0) (hl : (u8 0 :: r).length < 140737488000000) :
    Calls Try.prog 17 #[.pointer (some ⟨p, 0, none⟩), .int .i64 2, .int .i64 most] w fun e w' => e = .returned (.agg (partC 2 0 (List.replicate 32 0) [])) ∧ ∃ v', RdTo w p v (u8 0 :: r) r 0 v' w' := by
  have off0 : Off [p] w w := Off.refl _ _
  have sz := off0.size
  obtain ⟨k_p, ow_b, ne_b_p⟩ := hrd
  have fb_p : Fb p w.heap.size [p] := fun _ => by simp
  go_enter Try.func17, Try.ntmps17
  go_upto_region 0 with fail
  refine wp_region_lit ?_
  refine wpL_new (z := partC 0 0 (List.replicate 32 0) []) (t := 34) (by rfl) (by first | kernel_rfl | (go_simp; done) | (go_simp; rfl)) ?_
  (try simp only [Act.put, List.setIfInBounds_toArray, List.set_cons_zero, List.set_cons_succ])
  intro p6_1 W1 n_t6 hO h_
  have nq_p_t6 : p ≠ p6_1 := Nat.ne_of_lt (Nat.lt_of_lt_of_le (blk_lt k_p) n_t6)
  have ne_b_t6 := ne_new (Sl.lt ow_b) n_t6
  have fb_t6 : Fb p6_1 w.heap.size [p] := fb_new (Nat.le_trans sz n_t6)
  replace k_p := blk_off k_p hO nm0
  replace ow_b := Sl.off ow_b hO f0
  replace off0 := off0.step hO i0
  replace sz := off0.size
  have k_t6 := h_
  clear hO h_ n_t6
  refine wpL_nil ?_
  go_upto_region 1 with fail
  refine wp_region_lit ?_
  refine wpL_val (v := .int .i64 2) (by rfl) (by first | rfl | (go_simp; done) | (go_simp; with_reducible rfl) | (go_simp; omega)) ?_
  (try simp only [Act.put, List.setIfInBounds_toArray, List.set_cons_zero, List.set_cons_succ])
  refine wpL_val (v := .agg (partC 2 0 (List.replicate 32 0) [])) (by rfl) (by kernel_rfl) ?_
  (try simp only [Act.put, List.setIfInBounds_toArray, List.set_cons_zero, List.set_cons_succ])
  refine wpL_new (z := partC 0 0 (List.replicate 32 0) []) (t := 34) (by rfl) (by first | kernel_rfl | (go_simp; done) | (go_simp; rfl)) ?_
  (try simp only [Act.put, List.setIfInBounds_toArray, List.set_cons_zero, List.set_cons_succ])
  intro p7_2 W2 n_t7 hO h_
  have nq_p_t7 : p ≠ p7_2 := Nat.ne_of_lt (Nat.lt_of_lt_of_le (blk_lt k_p) n_t7)
  have nq_t6_t7 : p6_1 ≠ p7_2 := Nat.ne_of_lt (Nat.lt_of_lt_of_le (blk_lt k_t6) n_t7)
  have ne_b_t7 := ne_new (Sl.lt ow_b) n_t7
  have fb_t7 : Fb p7_2 w.heap.size [p] := fb_new (Nat.le_trans sz n_t7)
  replace k_p := blk_off k_p hO nm0
  replace k_t6 := blk_off k_t6 hO nm0
  replace ow_b := Sl.off ow_b hO f0
  replace off0 := off0.step hO i0
  replace sz := off0.size
  have k_t7 := h_
  clear hO h_ n_t7
  refine wpL_putrow (cells := partC 2 0 (List.replicate 32 0) []) (by rfl) rfl rfl rfl k_t7 (by rw [partC_size (List.length_replicate)]; kernel_rfl) (by rw [partC_size (List.length_replicate), partC_size (List.length_replicate)]) (by exact partC_one _ _ _ _) ?_
  (try simp only [Act.put, List.setIfInBounds_toArray, List.set_cons_zero, List.set_cons_succ])
  intro W3 hO h_
  replace k_t7 : Blk W3 p7_2 (partC 2 0 (List.replicate 32 0) []) 34 := h_
  clear h_
  replace k_p := blk_off k_p hO (nm1 nq_p_t7)
  replace k_t6 := blk_off k_t6 hO (nm1 nq_t6_t7)
  replace ow_b := Sl.off ow_b hO (f1 ne_b_t7)
  replace off0 := off0.step hO (i1 fb_t7)
  replace sz := off0.size
  clear hO
  refine wpL_nil ?_
  go_upto_region 6 with fail
  refine wp_region_lit ?_
  (refine wpL_val (v := ?_) (by rfl) ?_ ?_; rotate_left 1; (focus (go_simp; first | done | with_reducible rfl)))
  (try simp only [Act.put, List.setIfInBounds_toArray, List.set_cons_zero, List.set_cons_succ])
  refine wpL_callv (v := .bool false) (rflag_0 p v r _ ⟨k_p, ow_b, ne_b_p⟩ hl) (by rfl) rfl (by kernel_rfl) rfl ?_
  (try simp only [Act.put, List.setIfInBounds_toArray, List.set_cons_zero, List.set_cons_succ])
  rintro W4 ⟨v_b1, hto⟩
  have hO := hto.off
  have kk := hto.rd.1
  have hv2 := hto.rd.2.1
  have hs2 := hto.sub
  clear hto
  replace k_t6 := blk_off k_t6 hO (nm1 nq_p_t6.symm)
  replace k_t7 := blk_off k_t7 hO (nm1 nq_p_t7.symm)
  replace ow_b := Sl.off ow_b hO (f1 ne_b_p)
  replace off0 := off0.step hO (i1 fb_p)
  replace sz := off0.size
  replace k_p := kk
  clear kk hO
  have ow_b1 := hv2
  clear hv2
  have ne_b1_p : sb v_b1 r ≠ some p := sub_ne hs2 ne_b_p
  have ne_b1_t6 : sb v_b1 r ≠ some p6_1 := sub_ne hs2 ne_b_t6
  have ne_b1_t7 : sb v_b1 r ≠ some p7_2 := sub_ne hs2 ne_b_t7
  clear ow_b ne_b_p ne_b_t6 ne_b_t7
  refine wpL_nil ?_
  go_upto_region 14 with fail
  refine wp_region_lit ?_
  refine wpL_load0 (by rfl) rfl rfl k_t7 (by kernel_rfl) (by rw [partC_size (List.length_replicate)]; kernel_rfl) ?_
  (try simp only [Act.put, List.setIfInBounds_toArray, List.set_cons_zero, List.set_cons_succ])
  refine wpL_putrow (cells := partC 2 0 (List.replicate 32 0) []) (by rfl) rfl rfl rfl k_t6 (by rw [partC_size (List.length_replicate)]; kernel_rfl) (by rw [partC_size (List.length_replicate), partC_size (List.length_replicate)]) (by exact partC_one _ _ _ _) ?_
  (try simp only [Act.put, List.setIfInBounds_toArray, List.set_cons_zero, List.set_cons_succ])
  intro W5 hO h_
  replace k_t6 : Blk W5 p6_1 (partC 2 0 (List.replicate 32 0) []) 34 := h_
  clear h_
  replace k_p := blk_off k_p hO (nm1 nq_p_t6)
  replace k_t7 := blk_off k_t7 hO (nm1 nq_t6_t7.symm)
  replace ow_b1 := Sl.off ow_b1 hO (f1 ne_b1_t6)
  replace off0 := off0.step hO (i1 fb_t6)
  replace sz := off0.size
  clear hO
  refine wpL_nil ?_
  go_wp2
  refine bodyPost_ret (res_row rfl rfl k_t6 (by kernel_rfl) (by rw [partC_size (List.length_replicate)]; kernel_rfl)) rfl ⟨rfl, _, ⟨k_p, ow_b1, ne_b1_p⟩, hs2, off0⟩
set_option maxRecDepth 100000 in
set_option maxHeartbeats 1500000 in
theorem next_21 (p : Nat) (v : Value) (most : Int) (r : List UInt8)  (w : World) (hrd : Rdr w p v (u8 1 :: r) 0) (hl : (u8 1 :: r).length < 140737488000000) :
    Calls Try.prog 17 #[.pointer (some ⟨p, 0, none⟩), .int .i64 2, .int .i64 most] w fun e w' => e = .returned (.agg (partC 2 1 (List.replicate 32 0) [])) ∧ ∃ v', RdTo w p v (u8 1 :: r) r 0 v' w' := by
  have off0 : Off [p] w w := Off.refl _ _
  have sz := off0.size
  obtain ⟨k_p, ow_b, ne_b_p⟩ := hrd
  have fb_p : Fb p w.heap.size [p] := fun _ => by simp
  go_enter Try.func17, Try.ntmps17
  go_upto_region 0 with fail
  refine wp_region_lit ?_
  refine wpL_new (z := partC 0 0 (List.replicate 32 0) []) (t := 34) (by rfl) (by first | kernel_rfl | (go_simp; done) | (go_simp; rfl)) ?_
  (try simp only [Act.put, List.setIfInBounds_toArray, List.set_cons_zero, List.set_cons_succ])
  intro p6_1 W1 n_t6 hO h_
  have nq_p_t6 : p ≠ p6_1 := Nat.ne_of_lt (Nat.lt_of_lt_of_le (blk_lt k_p) n_t6)
  have ne_b_t6 := ne_new (Sl.lt ow_b) n_t6
  have fb_t6 : Fb p6_1 w.heap.size [p] := fb_new (Nat.le_trans sz n_t6)
  replace k_p := blk_off k_p hO nm0
  replace ow_b := Sl.off ow_b hO f0
  replace off0 := off0.step hO i0
  replace sz := off0.size
  have k_t6 := h_
  clear hO h_ n_t6
  refine wpL_nil ?_
  go_upto_region 1 with fail
  refine wp_region_lit ?_
  refine wpL_val (v := .int .i64 2) (by rfl) (by first | rfl | (go_simp; done) | (go_simp; with_reducible rfl) | (go_simp; omega)) ?_
  (try simp only [Act.put, List.setIfInBounds_toArray, List.set_cons_zero, List.set_cons_succ])
  refine wpL_val (v := .agg (partC 2 0 (List.replicate 32 0) [])) (by rfl) (by kernel_rfl) ?_
  (try simp only [Act.put, List.setIfInBounds_toArray, List.set_cons_zero, List.set_cons_succ])
  refine wpL_new (z := partC 0 0 (List.replicate 32 0) []) (t := 34) (by rfl) (by first | kernel_rfl | (go_simp; done) | (go_simp; rfl)) ?_
  (try simp only [Act.put, List.setIfInBounds_toArray, List.set_cons_zero, List.set_cons_succ])
  intro p7_2 W2 n_t7 hO h_
  have nq_p_t7 : p ≠ p7_2 := Nat.ne_of_lt (Nat.lt_of_lt_of_le (blk_lt k_p) n_t7)
  have nq_t6_t7 : p6_1 ≠ p7_2 := Nat.ne_of_lt (Nat.lt_of_lt_of_le (blk_lt k_t6) n_t7)
  have ne_b_t7 := ne_new (Sl.lt ow_b) n_t7
  have fb_t7 : Fb p7_2 w.heap.size [p] := fb_new (Nat.le_trans sz n_t7)
  replace k_p := blk_off k_p hO nm0
  replace k_t6 := blk_off k_t6 hO nm0
  replace ow_b := Sl.off ow_b hO f0
  replace off0 := off0.step hO i0
  replace sz := off0.size
  have k_t7 := h_
  clear hO h_ n_t7
  refine wpL_putrow (cells := partC 2 0 (List.replicate 32 0) []) (by rfl) rfl rfl rfl k_t7 (by rw [partC_size (List.length_replicate)]; kernel_rfl) (by rw [partC_size (List.length_replicate), partC_size (List.length_replicate)]) (by exact partC_one _ _ _ _) ?_
  (try simp only [Act.put, List.setIfInBounds_toArray, List.set_cons_zero, List.set_cons_succ])
  intro W3 hO h_
  replace k_t7 : Blk W3 p7_2 (partC 2 0 (List.replicate 32 0) []) 34 := h_
  clear h_
  replace k_p := blk_off k_p hO (nm1 nq_p_t7)
  replace k_t6 := blk_off k_t6 hO (nm1 nq_t6_t7)
  replace ow_b := Sl.off ow_b hO (f1 ne_b_t7)
  replace off0 := off0.step hO (i1 fb_t7)
  replace sz := off0.size
  clear hO
  refine wpL_nil ?_
  go_upto_region 6 with fail
  refine wp_region_lit ?_
  (refine wpL_val (v := ?_) (by rfl) ?_ ?_; rotate_left 1; (focus (go_simp; first | done | with_reducible rfl)))
  (try simp only [Act.put, List.setIfInBounds_toArray, List.set_cons_zero, List.set_cons_succ])
  refine wpL_callv (v := .bool true) (rflag_1 p v r _ ⟨k_p, ow_b, ne_b_p⟩ hl) (by rfl) rfl (by kernel_rfl) rfl ?_
  (try simp only [Act.put, List.setIfInBounds_toArray, List.set_cons_zero, List.set_cons_succ])
  rintro W4 ⟨v_b1, hto⟩
  have hO := hto.off
  have kk := hto.rd.1
  have hv2 := hto.rd.2.1
  have hs2 := hto.sub
  clear hto
  replace k_t6 := blk_off k_t6 hO (nm1 nq_p_t6.symm)
  replace k_t7 := blk_off k_t7 hO (nm1 nq_p_t7.symm)
  replace ow_b := Sl.off ow_b hO (f1 ne_b_p)
  replace off0 := off0.step hO (i1 fb_p)
  replace sz := off0.size
  replace k_p := kk
  clear kk hO
  have ow_b1 := hv2
  clear hv2
  have ne_b1_p : sb v_b1 r ≠ some p := sub_ne hs2 ne_b_p
  have ne_b1_t6 : sb v_b1 r ≠ some p6_1 := sub_ne hs2 ne_b_t6
  have ne_b1_t7 : sb v_b1 r ≠ some p7_2 := sub_ne hs2 ne_b_t7
  clear ow_b ne_b_p ne_b_t6 ne_b_t7
  refine wpL_nil ?_
  go_upto_region 7 with fail
  refine wp_region_lit ?_
  (refine wpL_val (v := ?_) (by rfl) ?_ ?_; rotate_left 1; (focus (go_simp; first | done | with_reducible rfl)))
  (try simp only [Act.put, List.setIfInBounds_toArray, List.set_cons_zero, List.set_cons_succ])
  refine wpL_put1 (v := .int .i64 1) ⟨rfl, rfl⟩ (by rfl) rfl rfl rfl k_t7 (by rw [partC_size (List.length_replicate)]; decide) (by kernel_rfl) ?_
  (try simp only [Act.put, List.setIfInBounds_toArray, List.set_cons_zero, List.set_cons_succ])
  intro W5 hO h_
  rw [partC_set1] at h_
  replace k_t7 : Blk W5 p7_2 (partC 2 1 (List.replicate 32 0) []) 34 := h_
  clear h_
  replace k_p := blk_off k_p hO (nm1 nq_p_t7)
  replace k_t6 := blk_off k_t6 hO (nm1 nq_t6_t7)
  replace ow_b1 := Sl.off ow_b1 hO (f1 ne_b1_t7)
  replace off0 := off0.step hO (i1 fb_t7)
  replace sz := off0.size
  clear hO
  refine wpL_nil ?_
  go_upto_region 14 with fail
  refine wp_region_lit ?_
  refine wpL_load0 (by rfl) rfl rfl k_t7 (by kernel_rfl) (by rw [partC_size (List.length_replicate)]; kernel_rfl) ?_
  (try simp only [Act.put, List.setIfInBounds_toArray, List.set_cons_zero, List.set_cons_succ])
  refine wpL_putrow (cells := partC 2 1 (List.replicate 32 0) []) (by rfl) rfl rfl rfl k_t6 (by rw [partC_size (List.length_replicate)]; kernel_rfl) (by rw [partC_size (List.length_replicate), partC_size (List.length_replicate)]) (by exact partC_one _ _ _ _) ?_
  (try simp only [Act.put, List.setIfInBounds_toArray, List.set_cons_zero, List.set_cons_succ])
  intro W6 hO h_
  replace k_t6 : Blk W6 p6_1 (partC 2 1 (List.replicate 32 0) []) 34 := h_
  clear h_
  replace k_p := blk_off k_p hO (nm1 nq_p_t6)
  replace k_t7 := blk_off k_t7 hO (nm1 nq_t6_t7.symm)
  replace ow_b1 := Sl.off ow_b1 hO (f1 ne_b1_t6)
  replace off0 := off0.step hO (i1 fb_t6)
  replace sz := off0.size
  clear hO
  refine wpL_nil ?_
  go_wp2
  refine bodyPost_ret (res_row rfl rfl k_t6 (by kernel_rfl) (by rw [partC_size (List.length_replicate)]; kernel_rfl)) rfl ⟨rfl, _, ⟨k_p, ow_b1, ne_b1_p⟩, hs2, off0⟩
set_option maxRecDepth 100000 in
set_option maxHeartbeats 1500000 in
theorem next_3 (p : Nat) (v : Value) (most : Int) (r : List UInt8) (X : Nat) (hX : X < 18446744073709551616) (w : World) (hrd : Rdr w p v (be8 X ++ r) 0) (hl : (be8 X ++ r).length < 140737488000000) :
    Calls Try.prog 17 #[.pointer (some ⟨p, 0, none⟩), .int .i64 3, .int .i64 most] w fun e w' => e = .returned (.agg (partC 3 (IntKind.wrap .i64 (X : Int)) (List.replicate 32 0) [])) ∧ ∃ v', RdTo w p v (be8 X ++ r) r 0 v' w' := by
  have off0 : Off [p] w w := Off.refl _ _
  have sz := off0.size
  obtain ⟨k_p, ow_b, ne_b_p⟩ := hrd
  have fb_p : Fb p w.heap.size [p] := fun _ => by simp
  go_enter Try.func17, Try.ntmps17
  go_upto_region 0 with fail
  refine wp_region_lit ?_
  refine wpL_new (z := partC 0 0 (List.replicate 32 0) []) (t := 34) (by rfl) (by first | kernel_rfl | (go_simp; done) | (go_simp; rfl)) ?_
  (try simp only [Act.put, List.setIfInBounds_toArray, List.set_cons_zero, List.set_cons_succ])
  intro p6_1 W1 n_t6 hO h_
  have nq_p_t6 : p ≠ p6_1 := Nat.ne_of_lt (Nat.lt_of_lt_of_le (blk_lt k_p) n_t6)
  have ne_b_t6 := ne_new (Sl.lt ow_b) n_t6
  have fb_t6 : Fb p6_1 w.heap.size [p] := fb_new (Nat.le_trans sz n_t6)
  replace k_p := blk_off k_p hO nm0
  replace ow_b := Sl.off ow_b hO f0
  replace off0 := off0.step hO i0
  replace sz := off0.size
  have k_t6 := h_
  clear hO h_ n_t6
  refine wpL_nil ?_
  go_upto_region 1 with fail
  refine wp_region_lit ?_
  refine wpL_val (v := .int .i64 3) (by rfl) (by first | rfl | (go_simp; done) | (go_simp; with_reducible rfl) | (go_simp; omega)) ?_
  (try simp only [Act.put, List.setIfInBounds_toArray, List.set_cons_zero, List.set_cons_succ])
  refine wpL_val (v := .agg (partC 3 0 (List.replicate 32 0) [])) (by rfl) (by kernel_rfl) ?_
  (try simp only [Act.put, List.setIfInBounds_toArray, List.set_cons_zero, List.set_cons_succ])
  refine wpL_new (z := partC 0 0 (List.replicate 32 0) []) (t := 34) (by rfl) (by first | kernel_rfl | (go_simp; done) | (go_simp; rfl)) ?_
  (try simp only [Act.put, List.setIfInBounds_toArray, List.set_cons_zero, List.set_cons_succ])
  intro p7_2 W2 n_t7 hO h_
  have nq_p_t7 : p ≠ p7_2 := Nat.ne_of_lt (Nat.lt_of_lt_of_le (blk_lt k_p) n_t7)
  have nq_t6_t7 : p6_1 ≠ p7_2 := Nat.ne_of_lt (Nat.lt_of_lt_of_le (blk_lt k_t6) n_t7)
  have ne_b_t7 := ne_new (Sl.lt ow_b) n_t7
  have fb_t7 : Fb p7_2 w.heap.size [p] := fb_new (Nat.le_trans sz n_t7)
  replace k_p := blk_off k_p hO nm0
  replace k_t6 := blk_off k_t6 hO nm0
  replace ow_b := Sl.off ow_b hO f0
  replace off0 := off0.step hO i0
  replace sz := off0.size
  have k_t7 := h_
  clear hO h_ n_t7
  refine wpL_putrow (cells := partC 3 0 (List.replicate 32 0) []) (by rfl) rfl rfl rfl k_t7 (by rw [partC_size (List.length_replicate)]; kernel_rfl) (by rw [partC_size (List.length_replicate), partC_size (List.length_replicate)]) (by exact partC_one _ _ _ _) ?_
  (try simp only [Act.put, List.setIfInBounds_toArray, List.set_cons_zero, List.set_cons_succ])
  intro W3 hO h_
  replace k_t7 : Blk W3 p7_2 (partC 3 0 (List.replicate 32 0) []) 34 := h_
  clear h_
  replace k_p := blk_off k_p hO (nm1 nq_p_t7)
  replace k_t6 := blk_off k_t6 hO (nm1 nq_t6_t7)
  replace ow_b := Sl.off ow_b hO (f1 ne_b_t7)
  replace off0 := off0.step hO (i1 fb_t7)
  replace sz := off0.size
  clear hO
  refine wpL_nil ?_
  go_upto_region 9 with fail
  refine wp_region_lit ?_
  (refine wpL_val (v := ?_) (by rfl) ?_ ?_; rotate_left 1; (focus (go_simp; first | done | with_reducible rfl)))
  (try simp only [Act.put, List.setIfInBounds_toArray, List.set_cons_zero, List.set_cons_succ])
  refine wpL_callv (v := .int .i64 (IntKind.wrap .i64 (X : Int))) (rnum_ok p v X hX r _ ⟨k_p, ow_b, ne_b_p⟩ hl) (by rfl) rfl (by kernel_rfl) rfl ?_
  (try simp only [Act.put, List.setIfInBounds_toArray, List.set_cons_zero, List.set_cons_succ])
  rintro W4 ⟨v_b1, hto⟩
  have hO := hto.off
  have kk := hto.rd.1
  have hv2 := hto.rd.2.1
  have hs2 := hto.sub
  clear hto
  replace k_t6 := blk_off k_t6 hO (nm1 nq_p_t6.symm)
  replace k_t7 := blk_off k_t7 hO (nm1 nq_p_t7.symm)
  replace ow_b := Sl.off ow_b hO (f1 ne_b_p)
  replace off0 := off0.step hO (i1 fb_p)
  replace sz := off0.size
  replace k_p := kk
  clear kk hO
  have ow_b1 := hv2
  clear hv2
  have ne_b1_p : sb v_b1 r ≠ some p := sub_ne hs2 ne_b_p
  have ne_b1_t6 : sb v_b1 r ≠ some p6_1 := sub_ne hs2 ne_b_t6
  have ne_b1_t7 : sb v_b1 r ≠ some p7_2 := sub_ne hs2 ne_b_t7
  clear ow_b ne_b_p ne_b_t6 ne_b_t7
  (refine wpL_val (v := ?_) (by rfl) ?_ ?_; rotate_left 1; (focus (go_simp; first | done | with_reducible rfl)))
  (try simp only [Act.put, List.setIfInBounds_toArray, List.set_cons_zero, List.set_cons_succ])
  refine wpL_put1 (v := .int .i64 (IntKind.wrap .i64 (X : Int))) ⟨rfl, rfl⟩ (by rfl) rfl rfl rfl k_t7 (by rw [partC_size (List.length_replicate)]; decide) (by kernel_rfl) ?_
  (try simp only [Act.put, List.setIfInBounds_toArray, List.set_cons_zero, List.set_cons_succ])
  intro W5 hO h_
  rw [partC_set1] at h_
  replace k_t7 : Blk W5 p7_2 (partC 3 (IntKind.wrap .i64 (X : Int)) (List.replicate 32 0) []) 34 := h_
  clear h_
  replace k_p := blk_off k_p hO (nm1 nq_p_t7)
  replace k_t6 := blk_off k_t6 hO (nm1 nq_t6_t7)
  replace ow_b1 := Sl.off ow_b1 hO (f1 ne_b1_t7)
  replace off0 := off0.step hO (i1 fb_t7)
  replace sz := off0.size
  clear hO
  refine wpL_nil ?_
  go_upto_region 14 with fail
  refine wp_region_lit ?_
  refine wpL_load0 (by rfl) rfl rfl k_t7 (by kernel_rfl) (by rw [partC_size (List.length_replicate)]; kernel_rfl) ?_
  (try simp only [Act.put, List.setIfInBounds_toArray, List.set_cons_zero, List.set_cons_succ])
  refine wpL_putrow (cells := partC 3 (IntKind.wrap .i64 (X : Int)) (List.replicate 32 0) []) (by rfl) rfl rfl rfl k_t6 (by rw [partC_size (List.length_replicate)]; kernel_rfl) (by rw [partC_size (List.length_replicate), partC_size (List.length_replicate)]) (by exact partC_one _ _ _ _) ?_
  (try simp only [Act.put, List.setIfInBounds_toArray, List.set_cons_zero, List.set_cons_succ])
  intro W6 hO h_
  replace k_t6 : Blk W6 p6_1 (partC 3 (IntKind.wrap .i64 (X : Int)) (List.replicate 32 0) []) 34 := h_
  clear h_
  replace k_p := blk_off k_p hO (nm1 nq_p_t6)
  replace k_t7 := blk_off k_t7 hO (nm1 nq_t6_t7.symm)
  replace ow_b1 := Sl.off ow_b1 hO (f1 ne_b1_t6)
  replace off0 := off0.step hO (i1 fb_t6)
  replace sz := off0.size
  clear hO
  refine wpL_nil ?_
  go_wp2
  refine bodyPost_ret (res_row rfl rfl k_t6 (by kernel_rfl) (by rw [partC_size (List.length_replicate)]; kernel_rfl)) rfl ⟨rfl, _, ⟨k_p, ow_b1, ne_b1_p⟩, hs2, off0⟩
set_option maxRecDepth 100000 in
set_option maxHeartbeats 1500000 in
theorem next_4 (p : Nat) (v : Value) (most : Int) (r : List UInt8) (S : List UInt8) (hS : S.length = 32) (w : World) (hrd : Rdr w p v (S ++ r) 0) (hl : (S ++ r).length < 140737488000000) :
    Calls Try.prog 17 #[.pointer (some ⟨p, 0, none⟩), .int .i64 4, .int .i64 most] w fun e w' => e = .returned (.agg (partC 4 0 S [])) ∧ ∃ v', RdTo w p v (S ++ r) r 0 v' w' := by
  have off0 : Off [p] w w := Off.refl _ _
  have sz := off0.size
  obtain ⟨k_p, ow_b, ne_b_p⟩ := hrd
  have fb_p : Fb p w.heap.size [p] := fun _ => by simp
  go_enter Try.func17, Try.ntmps17
  go_upto_region 0 with fail
  refine wp_region_lit ?_
  refine wpL_new (z := partC 0 0 (List.replicate 32 0) []) (t := 34) (by rfl) (by first | kernel_rfl | (go_simp; done) | (go_simp; rfl)) ?_
  (try simp only [Act.put, List.setIfInBounds_toArray, List.set_cons_zero, List.set_cons_succ])
  intro p6_1 W1 n_t6 hO h_
  have nq_p_t6 : p ≠ p6_1 := Nat.ne_of_lt (Nat.lt_of_lt_of_le (blk_lt k_p) n_t6)
  have ne_b_t6 := ne_new (Sl.lt ow_b) n_t6
  have fb_t6 : Fb p6_1 w.heap.size [p] := fb_new (Nat.le_trans sz n_t6)
  replace k_p := blk_off k_p hO nm0
  replace ow_b := Sl.off ow_b hO f0
  replace off0 := off0.step hO i0
  replace sz := off0.size
  have k_t6 := h_
  clear hO h_ n_t6
  refine wpL_nil ?_
  go_upto_region 1 with fail
  refine wp_region_lit ?_
  refine wpL_val (v := .int .i64 4) (by rfl) (by first | rfl | (go_simp; done) | (go_simp; with_reducible rfl) | (go_simp; omega)) ?_
  (try simp only [Act.put, List.setIfInBounds_toArray, List.set_cons_zero, List.set_cons_succ])
  refine wpL_val (v := .agg (partC 4 0 (List.replicate 32 0) [])) (by rfl) (by kernel_rfl) ?_
  (try simp only [Act.put, List.setIfInBounds_toArray, List.set_cons_zero, List.set_cons_succ])
  refine wpL_new (z := partC 0 0 (List.replicate 32 0) []) (t := 34) (by rfl) (by first | kernel_rfl | (go_simp; done) | (go_simp; rfl)) ?_
  (try simp only [Act.put, List.setIfInBounds_toArray, List.set_cons_zero, List.set_cons_succ])
  intro p7_2 W2 n_t7 hO h_
  have nq_p_t7 : p ≠ p7_2 := Nat.ne_of_lt (Nat.lt_of_lt_of_le (blk_lt k_p) n_t7)
  have nq_t6_t7 : p6_1 ≠ p7_2 := Nat.ne_of_lt (Nat.lt_of_lt_of_le (blk_lt k_t6) n_t7)
  have ne_b_t7 := ne_new (Sl.lt ow_b) n_t7
  have fb_t7 : Fb p7_2 w.heap.size [p] := fb_new (Nat.le_trans sz n_t7)
  replace k_p := blk_off k_p hO nm0
  replace k_t6 := blk_off k_t6 hO nm0
  replace ow_b := Sl.off ow_b hO f0
  replace off0 := off0.step hO i0
  replace sz := off0.size
  have k_t7 := h_
  clear hO h_ n_t7
  refine wpL_putrow (cells := partC 4 0 (List.replicate 32 0) []) (by rfl) rfl rfl rfl k_t7 (by rw [partC_size (List.length_replicate)]; kernel_rfl) (by rw [partC_size (List.length_replicate), partC_size (List.length_replicate)]) (by exact partC_one _ _ _ _) ?_
  (try simp only [Act.put, List.setIfInBounds_toArray, List.set_cons_zero, List.set_cons_succ])
  intro W3 hO h_
  replace k_t7 : Blk W3 p7_2 (partC 4 0 (List.replicate 32 0) []) 34 := h_
  clear h_
  replace k_p := blk_off k_p hO (nm1 nq_p_t7)
  replace k_t6 := blk_off k_t6 hO (nm1 nq_t6_t7)
  replace ow_b := Sl.off ow_b hO (f1 ne_b_t7)
  replace off0 := off0.step hO (i1 fb_t7)
  replace sz := off0.size
  clear hO
  refine wpL_nil ?_
  go_upto_region 11 with fail
  refine wp_region_lit ?_
  (refine wpL_val (v := ?_) (by rfl) ?_ ?_; rotate_left 1; (focus (go_simp; first | done | with_reducible rfl)))
  (try simp only [Act.put, List.setIfInBounds_toArray, List.set_cons_zero, List.set_cons_succ])
  refine wpL_callv (v := .agg (bs8 S).toArray) (rsum_ok p v S r hS _ ⟨k_p, ow_b, ne_b_p⟩ (by first | omega | (simp only [List.length_append, List.length_cons, List.length_nil]; omega))) (by rfl) rfl (by kernel_rfl) rfl ?_
  (try simp only [Act.put, List.setIfInBounds_toArray, List.set_cons_zero, List.set_cons_succ])
  rintro W4 ⟨v_b1, hto⟩
  have hO := hto.off
  have kk := hto.rd.1
  have hv2 := hto.rd.2.1
  have hs2 := hto.sub
  clear hto
  replace k_t6 := blk_off k_t6 hO (nm1 nq_p_t6.symm)
  replace k_t7 := blk_off k_t7 hO (nm1 nq_p_t7.symm)
  replace ow_b := Sl.off ow_b hO (f1 ne_b_p)
  replace off0 := off0.step hO (i1 fb_p)
  replace sz := off0.size
  replace k_p := kk
  clear kk hO
  have ow_b1 := hv2
  clear hv2
  have ne_b1_p : sb v_b1 r ≠ some p := sub_ne hs2 ne_b_p
  have ne_b1_t6 : sb v_b1 r ≠ some p6_1 := sub_ne hs2 ne_b_t6
  have ne_b1_t7 : sb v_b1 r ≠ some p7_2 := sub_ne hs2 ne_b_t7
  clear ow_b ne_b_p ne_b_t6 ne_b_t7
  (refine wpL_val (v := ?_) (by rfl) ?_ ?_; rotate_left 1; (focus (go_simp; first | done | with_reducible rfl)))
  (try simp only [Act.put, List.setIfInBounds_toArray, List.set_cons_zero, List.set_cons_succ])
  refine wpL_put (v := .agg (bs8 S).toArray) (by rfl) rfl rfl rfl k_t7 (by show 2 + (bs8 S).toArray.size ≤ _; rw [partC_size (List.length_replicate), List.size_toArray, bs8_length, hS]; decide) (by show _ = some (bs8 S).toArray.size; rw [List.size_toArray, bs8_length, hS]; kernel_rfl) (all_oneCell_toArray (bs8_one _)) ?_
  (try simp only [Act.put, List.setIfInBounds_toArray, List.set_cons_zero, List.set_cons_succ])
  intro W5 hO h_
  replace h_ := Eq.mp (congrArg (fun c => Blk _ _ c _) (partC_set2 _ _ _ _ _ (List.length_replicate) hS)) h_
  replace k_t7 : Blk W5 p7_2 (partC 4 0 S []) 34 := h_
  clear h_
  replace k_p := blk_off k_p hO (nm1 nq_p_t7)
  replace k_t6 := blk_off k_t6 hO (nm1 nq_t6_t7)
  replace ow_b1 := Sl.off ow_b1 hO (f1 ne_b1_t7)
  replace off0 := off0.step hO (i1 fb_t7)
  replace sz := off0.size
  clear hO
  refine wpL_nil ?_
  go_upto_region 14 with fail
  refine wp_region_lit ?_
  refine wpL_load0 (by rfl) rfl rfl k_t7 (by kernel_rfl) (by rw [partC_size hS]; kernel_rfl) ?_
  (try simp only [Act.put, List.setIfInBounds_toArray, List.set_cons_zero, List.set_cons_succ])
  refine wpL_putrow (cells := partC 4 0 S []) (by rfl) rfl rfl rfl k_t6 (by rw [partC_size hS]; kernel_rfl) (by rw [partC_size (List.length_replicate), partC_size hS]) (by exact partC_one _ _ _ _) ?_
  (try simp only [Act.put, List.setIfInBounds_toArray, List.set_cons_zero, List.set_cons_succ])
  intro W6 hO h_
  replace k_t6 : Blk W6 p6_1 (partC 4 0 S []) 34 := h_
  clear h_
  replace k_p := blk_off k_p hO (nm1 nq_p_t6)
  replace k_t7 := blk_off k_t7 hO (nm1 nq_t6_t7.symm)
  replace ow_b1 := Sl.off ow_b1 hO (f1 ne_b1_t6)
  replace off0 := off0.step hO (i1 fb_t6)
  replace sz := off0.size
  clear hO
  refine wpL_nil ?_
  go_wp2
  refine bodyPost_ret (res_row rfl rfl k_t6 (by kernel_rfl) (by rw [partC_size hS]; kernel_rfl)) rfl ⟨rfl, _, ⟨k_p, ow_b1, ne_b1_p⟩, hs2, off0⟩
set_option maxRecDepth 100000 in
set_option maxHeartbeats 1500000 in
theorem next_5 (p : Nat) (v : Value) (most : Int) (r : List UInt8) (m : Nat) (T : List UInt8) (hm : T.length = m) (hm2 : m ≤ 65535) (hmo : (m : Int) ≤ most) (w : World) (hrd : Rdr w p v (u8 (m / 256) :: u8 m :: (T ++ r)) 0) (hl : (u8 (m / 256) :: u8 m :: (T ++ r)).length < 140737488000000) :
    Calls Try.prog 17 #[.pointer (some ⟨p, 0, none⟩), .int .i64 5, .int .i64 most] w fun e w' => e = .returned (.agg (partC 5 0 (List.replicate 32 0) T)) ∧ ∃ v', RdTo w p v (u8 (m / 256) :: u8 m :: (T ++ r)) r 0 v' w' := by
  have off0 : Off [p] w w := Off.refl _ _
  have sz := off0.size
  obtain ⟨k_p, ow_b, ne_b_p⟩ := hrd
  have fb_p : Fb p w.heap.size [p] := fun _ => by simp
  go_enter Try.func17, Try.ntmps17
  go_upto_region 0 with fail
  refine wp_region_lit ?_
  refine wpL_new (z := partC 0 0 (List.replicate 32 0) []) (t := 34) (by rfl) (by first | kernel_rfl | (go_simp; done) | (go_simp; rfl)) ?_
  (try simp only [Act.put, List.setIfInBounds_toArray, List.set_cons_zero, List.set_cons_succ])
  intro p6_1 W1 n_t6 hO h_
  have nq_p_t6 : p ≠ p6_1 := Nat.ne_of_lt (Nat.lt_of_lt_of_le (blk_lt k_p) n_t6)
  have ne_b_t6 := ne_new (Sl.lt ow_b) n_t6
  have fb_t6 : Fb p6_1 w.heap.size [p] := fb_new (Nat.le_trans sz n_t6)
  replace k_p := blk_off k_p hO nm0
  replace ow_b := Sl.off ow_b hO f0
  replace off0 := off0.step hO i0
  replace sz := off0.size
  have k_t6 := h_
  clear hO h_ n_t6
  refine wpL_nil ?_
  go_upto_region 1 with fail
  refine wp_region_lit ?_
  refine wpL_val (v := .int .i64 5) (by rfl) (by first | rfl | (go_simp; done) | (go_simp; with_reducible rfl) | (go_simp; omega)) ?_
  (try simp only [Act.put, List.setIfInBounds_toArray, List.set_cons_zero, List.set_cons_succ])
  refine wpL_val (v := .agg (partC 5 0 (List.replicate 32 0) [])) (by rfl) (by kernel_rfl) ?_
  (try simp only [Act.put, List.setIfInBounds_toArray, List.set_cons_zero, List.set_cons_succ])
  refine wpL_new (z := partC 0 0 (List.replicate 32 0) []) (t := 34) (by rfl) (by first | kernel_rfl | (go_simp; done) | (go_simp; rfl)) ?_
  (try simp only [Act.put, List.setIfInBounds_toArray, List.set_cons_zero, List.set_cons_succ])
  intro p7_2 W2 n_t7 hO h_
  have nq_p_t7 : p ≠ p7_2 := Nat.ne_of_lt (Nat.lt_of_lt_of_le (blk_lt k_p) n_t7)
  have nq_t6_t7 : p6_1 ≠ p7_2 := Nat.ne_of_lt (Nat.lt_of_lt_of_le (blk_lt k_t6) n_t7)
  have ne_b_t7 := ne_new (Sl.lt ow_b) n_t7
  have fb_t7 : Fb p7_2 w.heap.size [p] := fb_new (Nat.le_trans sz n_t7)
  replace k_p := blk_off k_p hO nm0
  replace k_t6 := blk_off k_t6 hO nm0
  replace ow_b := Sl.off ow_b hO f0
  replace off0 := off0.step hO i0
  replace sz := off0.size
  have k_t7 := h_
  clear hO h_ n_t7
  refine wpL_putrow (cells := partC 5 0 (List.replicate 32 0) []) (by rfl) rfl rfl rfl k_t7 (by rw [partC_size (List.length_replicate)]; kernel_rfl) (by rw [partC_size (List.length_replicate), partC_size (List.length_replicate)]) (by exact partC_one _ _ _ _) ?_
  (try simp only [Act.put, List.setIfInBounds_toArray, List.set_cons_zero, List.set_cons_succ])
  intro W3 hO h_
  replace k_t7 : Blk W3 p7_2 (partC 5 0 (List.replicate 32 0) []) 34 := h_
  clear h_
  replace k_p := blk_off k_p hO (nm1 nq_p_t7)
  replace k_t6 := blk_off k_t6 hO (nm1 nq_t6_t7)
  replace ow_b := Sl.off ow_b hO (f1 ne_b_t7)
  replace off0 := off0.step hO (i1 fb_t7)
  replace sz := off0.size
  clear hO
  refine wpL_nil ?_
  go_upto_region 13 with fail
  refine wp_region_lit ?_
  (refine wpL_val (v := ?_) (by rfl) ?_ ?_; rotate_left 1; (focus (go_simp; first | done | with_reducible rfl)))
  (try simp only [Act.put, List.setIfInBounds_toArray, List.set_cons_zero, List.set_cons_succ])
  (refine wpL_val (v := ?_) (by rfl) ?_ ?_; rotate_left 1; (focus (go_simp; first | done | with_reducible rfl)))
  (try simp only [Act.put, List.setIfInBounds_toArray, List.set_cons_zero, List.set_cons_succ])
  refine wpL_call (R := fun u W => Own W u T ∧ Fr u.ownBlock W3.heap.size [] ∧ ∃ v2, RdTo W3 p v (u8 (m / 256) :: u8 m :: (T ++ r)) r 0 v2 W) ((rtext_ok p m v T r hm hm2 most hmo _ ⟨k_p, ow_b, ne_b_p⟩ hl).mono fun _ _ ⟨u, h1, h2⟩ => ⟨u, h1, h2⟩) (by rfl) rfl (by kernel_rfl) rfl ?_
  (try simp only [Act.put, List.setIfInBounds_toArray, List.set_cons_zero, List.set_cons_succ])
  rintro ut W4 ⟨ow_ut, at_ut, v2, hto⟩
  (try simp only [Act.put, List.setIfInBounds_toArray, List.set_cons_zero, List.set_cons_succ])
  have hO := hto.off
  have kk := hto.rd.1
  have hv2 := hto.rd.2.1
  have hs2 := hto.sub
  clear hto at_ut
  replace k_t6 := blk_off k_t6 hO (nm1 nq_p_t6.symm)
  replace k_t7 := blk_off k_t7 hO (nm1 nq_p_t7.symm)
  replace ow_b := Sl.off ow_b hO (f1 ne_b_p)
  replace off0 := off0.step hO (i1 fb_p)
  replace sz := off0.size
  replace k_p := kk
  clear kk hO
  have ow_b2 := hv2
  clear hv2
  have ne_b2_p : sb v2 r ≠ some p := sub_ne hs2 ne_b_p
  have ne_b2_t6 : sb v2 r ≠ some p6_1 := sub_ne hs2 ne_b_t6
  have ne_b2_t7 : sb v2 r ≠ some p7_2 := sub_ne hs2 ne_b_t7
  clear ow_b ne_b_p ne_b_t6 ne_b_t7
  refine wpL_str (l := T) ow_ut.sl (by rfl) rfl rfl ?_
  (try simp only [Act.put, List.setIfInBounds_toArray, List.set_cons_zero, List.set_cons_succ])
  clear ow_ut
  (refine wpL_val (v := ?_) (by rfl) ?_ ?_; rotate_left 1; (focus (go_simp; first | done | with_reducible rfl)))
  (try simp only [Act.put, List.setIfInBounds_toArray, List.set_cons_zero, List.set_cons_succ])
  refine wpL_put1 (v := str T) ⟨rfl, rfl⟩ (by rfl) rfl rfl rfl k_t7 (by rw [partC_size (List.length_replicate)]; decide) (by kernel_rfl) ?_
  (try simp only [Act.put, List.setIfInBounds_toArray, List.set_cons_zero, List.set_cons_succ])
  intro W5 hO h_
  rw [partC_set34 _ _ _ _ _ (List.length_replicate)] at h_
  replace k_t7 : Blk W5 p7_2 (partC 5 0 (List.replicate 32 0) T) 34 := h_
  clear h_
  replace k_p := blk_off k_p hO (nm1 nq_p_t7)
  replace k_t6 := blk_off k_t6 hO (nm1 nq_t6_t7)
  replace ow_b2 := Sl.off ow_b2 hO (f1 ne_b2_t7)
  replace off0 := off0.step hO (i1 fb_t7)
  replace sz := off0.size
  clear hO
  refine wpL_nil ?_
  go_upto_region 14 with fail
  refine wp_region_lit ?_
  refine wpL_load0 (by rfl) rfl rfl k_t7 (by kernel_rfl) (by rw [partC_size (List.length_replicate)]; kernel_rfl) ?_
  (try simp only [Act.put, List.setIfInBounds_toArray, List.set_cons_zero, List.set_cons_succ])
  refine wpL_putrow (cells := partC 5 0 (List.replicate 32 0) T) (by rfl) rfl rfl rfl k_t6 (by rw [partC_size (List.length_replicate)]; kernel_rfl) (by rw [partC_size (List.length_replicate), partC_size (List.length_replicate)]) (by exact partC_one _ _ _ _) ?_
  (try simp only [Act.put, List.setIfInBounds_toArray, List.set_cons_zero, List.set_cons_succ])
  intro W6 hO h_
  replace k_t6 : Blk W6 p6_1 (partC 5 0 (List.replicate 32 0) T) 34 := h_
  clear h_
  replace k_p := blk_off k_p hO (nm1 nq_p_t6)
  replace k_t7 := blk_off k_t7 hO (nm1 nq_t6_t7.symm)
  replace ow_b2 := Sl.off ow_b2 hO (f1 ne_b2_t6)
  replace off0 := off0.step hO (i1 fb_t6)
  replace sz := off0.size
  clear hO
  refine wpL_nil ?_
  go_wp2
  refine bodyPost_ret (res_row rfl rfl k_t6 (by kernel_rfl) (by rw [partC_size (List.length_replicate)]; kernel_rfl)) rfl ⟨rfl, _, ⟨k_p, ow_b2, ne_b2_p⟩, hs2, off0⟩
end Go.Proofs.Yteniajdmmffamaa
