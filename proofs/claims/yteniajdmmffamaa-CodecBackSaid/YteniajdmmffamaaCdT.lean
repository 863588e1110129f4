/- codec's Reader: a sum. No conditions but that memory holds what is written. -/
import Derived.Test.YteniajdmmffamaaCdR
import Derived.Test.YteniajdmmffamaaPl
namespace Go.Proofs.Yteniajdmmffamaa
set_option linter.unusedSimpArgs false
set_option linter.unusedVariables false
open Go.RowKit
attribute [local irreducible] wpList wpTr

theorem show32 : (bs8 (List.replicate 32 0)).toArray.size = 32 := by rw [List.size_toArray, bs8_length, List.length_replicate]
theorem bs8_sz {S : List UInt8} {n : Nat} (h : S.length = n) : (bs8 S).toArray.size = n := by rw [List.size_toArray, bs8_length, h]
set_option maxRecDepth 100000 in
set_option maxHeartbeats 1500000 in
theorem rsum_ok (p : Nat) (v : Value) (S r : List UInt8) (hS : S.length = 32) (w : World) (hrd : Rdr w p v (S ++ r) 0) (hl : (S ++ r).length < 140737488000000) :
    Calls Try.prog 29 #[.pointer (some ⟨p, 0, none⟩)] w fun e w' => e = .returned (.agg (bs8 S).toArray) ∧ ∃ v', RdTo w p v (S ++ r) r 0 v' w' := by
  have hST : List.take 32 (S ++ r) = S := by rw [List.take_append_of_le_length (by omega), List.take_of_length_le (by omega)]
  have hS32 : (List.take 32 (S ++ r)).length = 32 := by rw [hST, hS]
  have off0 : Off [p] w w := Off.refl _ _
  have sz := off0.size
  obtain ⟨k_p, ow_b, ne_b_p⟩ := hrd
  have fb_p : Fb p w.heap.size [p] := fun _ => by simp
  go_enter Try.func29, Try.ntmps29
  go_upto_region 0 with fail
  refine wp_region_lit ?_
  refine wpL_new (z := (bs8 (List.replicate 32 0)).toArray) (t := 32) (by rfl) (by first | kernel_rfl | (go_simp; done) | (go_simp; rfl)) ?_
  (try simp only [Act.put, List.setIfInBounds_toArray, List.set_cons_zero, List.set_cons_succ])
  intro p2_1 W1 n_t2 hO h_
  have nq_p_t2 : p ≠ p2_1 := Nat.ne_of_lt (Nat.lt_of_lt_of_le (blk_lt k_p) n_t2)
  have ne_b_t2 := ne_new (Sl.lt ow_b) n_t2
  have fb_t2 : Fb p2_1 w.heap.size [p] := fb_new (Nat.le_trans sz n_t2)
  replace k_p := blk_off k_p hO nm0
  replace ow_b := Sl.off ow_b hO f0
  replace off0 := off0.step hO i0
  replace sz := off0.size
  have k_t2 := h_
  clear hO h_ n_t2
  refine wpL_nil ?_
  go_upto_region 1 with fail
  refine wp_region_lit ?_
  refine wpL_new (z := (bs8 (List.replicate 32 0)).toArray) (t := 32) (by rfl) (by first | kernel_rfl | (go_simp; done) | (go_simp; rfl)) ?_
  (try simp only [Act.put, List.setIfInBounds_toArray, List.set_cons_zero, List.set_cons_succ])
  intro p3_2 W2 n_t3 hO h_
  have nq_p_t3 : p ≠ p3_2 := Nat.ne_of_lt (Nat.lt_of_lt_of_le (blk_lt k_p) n_t3)
  have nq_t2_t3 : p2_1 ≠ p3_2 := Nat.ne_of_lt (Nat.lt_of_lt_of_le (blk_lt k_t2) n_t3)
  have ne_b_t3 := ne_new (Sl.lt ow_b) n_t3
  have fb_t3 : Fb p3_2 w.heap.size [p] := fb_new (Nat.le_trans sz n_t3)
  replace k_p := blk_off k_p hO nm0
  replace k_t2 := blk_off k_t2 hO nm0
  replace ow_b := Sl.off ow_b hO f0
  replace off0 := off0.step hO i0
  replace sz := off0.size
  have k_t3 := h_
  clear hO h_ n_t3
  refine wpL_nil ?_
  go_upto_region 2 with fail
  refine wp_region_tr (.q 0 (.q 1 (.e 2 (.e 3 .z)))) (fun W => True) (by kernel_rfl) (by kernel_rfl) ?_
  intro W3 hO
  replace k_p := blk_off k_p hO nm0
  replace k_t2 := blk_off k_t2 hO nm0
  replace k_t3 := blk_off k_t3 hO nm0
  replace ow_b := Sl.off ow_b hO f0
  replace off0 := off0.step hO i0
  replace sz := off0.size
  clear hO
  refine ⟨trivial, ?_⟩
  (refine wpT_q (v := ?_) rfl (by rfl) (fun W hS => ?_) ?_; rotate_left 1; (focus (go_simp; first | done | with_reducible rfl)))
  (try simp only [Act.put, List.setIfInBounds_toArray, List.set_cons_zero, List.set_cons_succ])
  (refine wpT_q (v := ?_) rfl (by rfl) (fun W hS => ?_) ?_; rotate_left 1; (focus (go_simp; first | done | with_reducible rfl)))
  (try simp only [Act.put, List.setIfInBounds_toArray, List.set_cons_zero, List.set_cons_succ])
  refine wpT_e rfl ?_
  refine wpL_call (R := fun u W => Sl W u (List.take 32 (S ++ r)) ∧ Sub u (List.take 32 (S ++ r)) (sb v (S ++ r)) ∧ (0 < 32 → ∃ ad c, u = .slice (some ad) 32 c) ∧ ∃ v2, RdTo W3 p v (S ++ r) (List.drop 32 (S ++ r)) 0 v2 W) ((take_ok p v (S ++ r) W3 ⟨k_p, ow_b, ne_b_p⟩ 32 (by rw [List.length_append, hS]; omega) (by first | omega | (simp only [List.length_append, List.length_cons, List.length_nil]; omega))).mono fun _ _ h => h) (by rfl) rfl (by kernel_rfl) rfl ?_
  (try simp only [Act.put, List.setIfInBounds_toArray, List.set_cons_zero, List.set_cons_succ])
  rintro u6_3 W4 ⟨hu, hsu, hso, v_b1, hto⟩
  (try simp only [Act.put, List.setIfInBounds_toArray, List.set_cons_zero, List.set_cons_succ])
  have hO := hto.off
  have kk := hto.rd.1
  have hv2 := hto.rd.2.1
  have hs2 := hto.sub
  clear hto
  replace k_t2 := blk_off k_t2 hO (nm1 nq_p_t2.symm)
  replace k_t3 := blk_off k_t3 hO (nm1 nq_p_t3.symm)
  replace ow_b := Sl.off ow_b hO (f1 ne_b_p)
  replace off0 := off0.step hO (i1 fb_p)
  replace sz := off0.size
  replace k_p := kk
  clear kk hO
  have ow_h6 := hu
  have ow_b1 := hv2
  clear hu hv2
  have ne_h6_p : sb u6_3 (List.take 32 (S ++ r)) ≠ some p := sub_ne hsu ne_b_p
  have ne_h6_t2 : sb u6_3 (List.take 32 (S ++ r)) ≠ some p2_1 := sub_ne hsu ne_b_t2
  have ne_h6_t3 : sb u6_3 (List.take 32 (S ++ r)) ≠ some p3_2 := sub_ne hsu ne_b_t3
  have ne_b1_p : sb v_b1 (List.drop 32 (S ++ r)) ≠ some p := sub_ne hs2 ne_b_p
  have ne_b1_t2 : sb v_b1 (List.drop 32 (S ++ r)) ≠ some p2_1 := sub_ne hs2 ne_b_t2
  have ne_b1_t3 : sb v_b1 (List.drop 32 (S ++ r)) ≠ some p3_2 := sub_ne hs2 ne_b_t3
  refine wpT_n (fun W => True) (fun W hS => trivial) trivial ?_
  refine wpT_e rfl ?_
  refine wpL_copy (l := List.take 32 (S ++ r)) ow_h6 k_t3 (by rw [hS32]; rfl) (by rw [hS32]) (by rw [hS32]; omega) (by rfl) rfl rfl rfl ?_
  (try simp only [Act.put, List.setIfInBounds_toArray, List.set_cons_zero, List.set_cons_succ])
  intro W5 hO h_
  rw [hST] at h_
  replace k_t3 : Blk W5 p3_2 (bs8 S).toArray 32 := h_
  clear h_
  replace k_p := blk_off k_p hO (nm1 nq_p_t3)
  replace k_t2 := blk_off k_t2 hO (nm1 nq_t2_t3)
  replace ow_b := Sl.off ow_b hO (f1 ne_b_t3)
  replace ow_h6 := Sl.off ow_h6 hO (f1 ne_h6_t3)
  replace ow_b1 := Sl.off ow_b1 hO (f1 ne_b1_t3)
  replace off0 := off0.step hO (i1 fb_t3)
  replace sz := off0.size
  clear hO
  refine wpT_n (fun W => True) (fun W hS => trivial) trivial ?_
  refine wpT_z ?_
  go_upto_region 3 with fail
  refine wp_region_lit ?_
  refine wpL_load0 (by rfl) rfl rfl k_t3 (by kernel_rfl) (by rw [bs8_sz hS]; kernel_rfl) ?_
  (try simp only [Act.put, List.setIfInBounds_toArray, List.set_cons_zero, List.set_cons_succ])
  refine wpL_putrow (cells := (bs8 S).toArray) (by rfl) rfl rfl rfl k_t2 (by rw [bs8_sz hS]; kernel_rfl) (by rw [show32, bs8_sz hS]) (by exact all_oneCell_toArray (bs8_one _)) ?_
  (try simp only [Act.put, List.setIfInBounds_toArray, List.set_cons_zero, List.set_cons_succ])
  intro W6 hO h_
  replace k_t2 : Blk W6 p2_1 ((bs8 S).toArray) 32 := h_
  clear h_
  replace k_p := blk_off k_p hO (nm1 nq_p_t2)
  replace k_t3 := blk_off k_t3 hO (nm1 nq_t2_t3.symm)
  replace ow_b := Sl.off ow_b hO (f1 ne_b_t2)
  replace ow_h6 := Sl.off ow_h6 hO (f1 ne_h6_t2)
  replace ow_b1 := Sl.off ow_b1 hO (f1 ne_b1_t2)
  replace off0 := off0.step hO (i1 fb_t2)
  replace sz := off0.size
  clear hO
  refine wpL_nil ?_
  go_wp2
  have hd : List.drop 32 (S ++ r) = r := by rw [List.drop_append, List.drop_eq_nil_of_le (by omega), hS]; simp
  rw [hd] at ow_b1 hs2 ne_b1_p
  refine bodyPost_ret (res_row rfl rfl k_t2 (by kernel_rfl) (by rw [bs8_sz hS]; kernel_rfl)) rfl ⟨rfl, _, ⟨k_p, ow_b1, ne_b1_p⟩, hs2, off0⟩
end Go.Proofs.Yteniajdmmffamaa
