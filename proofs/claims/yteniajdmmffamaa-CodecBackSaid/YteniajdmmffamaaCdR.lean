/- codec's Reader: Read, take, and the next part, where it is there. No conditions but that memory holds what is written. -/
import Derived.Test.YteniajdmmffamaaCdG
namespace Go.Proofs.Yteniajdmmffamaa
set_option linter.unusedSimpArgs false
set_option linter.unusedVariables false
open Go.RowKit

/-- A reader: what is left, and what was wrong. -/
def Rdr (w : World) (p : Nat) (v : Value) (l : List UInt8) (e : Int) : Prop := Blk w p #[v, .int .i64 e] 57 ∧ Sl w v l ∧ sb v l ≠ some p
/-- What a reader's method leaves. -/
structure RdTo (w : World) (p : Nat) (v : Value) (l : List UInt8) (l' : List UInt8) (e : Int) (v' : Value) (w' : World) : Prop where
  rd : Rdr w' p v' l' e
  sub : Sub v' l' (sb v l)
  off : Off [p] w w'

set_option maxHeartbeats 4000000 in
theorem take_ok (p : Nat) (v : Value) (l : List UInt8) (w : World) (hrd : Rdr w p v l 0) (n : Nat) (hn : n ≤ l.length) (hl : l.length < 140737488000000) :
    Calls Try.prog 25 #[.pointer (some ⟨p, 0, none⟩), .int .i64 (n : Int)] w fun e w' => ∃ u, e = .returned u ∧ Sl w' u (l.take n) ∧ Sub u (l.take n) (sb v l) ∧ (0 < n → ∃ ad c, u = .slice (some ad) n c) ∧ ∃ v', RdTo w p v l (l.drop n) 0 v' w' := by
  have off0 : Off [p] w w := Off.refl _ _
  have sz := off0.size
  obtain ⟨k_p, ow_b, ne_b_p⟩ := hrd
  have fb_p : Fb p w.heap.size [p] := fun _ => by simp
  go_enter Try.func25, Try.ntmps25
  go_upto_region 1 with fail
  refine wp_region_lit ?_
  (refine wpL_val (v := ?_) (by rfl) ?_ ?_; rotate_left 1; (focus (go_simp; first | done | with_reducible rfl)))
  (try simp only [Act.put, List.setIfInBounds_toArray, List.set_cons_zero, List.set_cons_succ])
  refine wpL_val (v := .bool false) (by rfl) (by first | rfl | (go_simp; done) | (go_simp; with_reducible rfl) | (go_simp; omega)) ?_
  (try simp only [Act.put, List.setIfInBounds_toArray, List.set_cons_zero, List.set_cons_succ])
  refine wpL_val (v := .bool false) (by rfl) (by first | rfl | (go_simp; done) | (go_simp; with_reducible rfl) | (go_simp; omega)) ?_
  (try simp only [Act.put, List.setIfInBounds_toArray, List.set_cons_zero, List.set_cons_succ])
  (refine wpL_val (v := ?_) (by rfl) ?_ ?_; rotate_left 1; (focus (go_simp; first | done | with_reducible rfl)))
  (try simp only [Act.put, List.setIfInBounds_toArray, List.set_cons_zero, List.set_cons_succ])
  (refine wpL_val (v := ?_) (by rfl) ?_ ?_; rotate_left 1; (focus (go_simp; first | done | with_reducible rfl)))
  (try simp only [Act.put, List.setIfInBounds_toArray, List.set_cons_zero, List.set_cons_succ])
  (refine wpL_val (v := ?_) (by rfl) ?_ ?_; rotate_left 1; (focus (go_simp; first | done | with_reducible rfl)))
  (try simp only [Act.put, List.setIfInBounds_toArray, List.set_cons_zero, List.set_cons_succ])
  refine wpL_get (v := .int .i64 0) (by rfl) rfl rfl k_p (by rfl) (by kernel_rfl) ?_
  (try simp only [Act.put, List.setIfInBounds_toArray, List.set_cons_zero, List.set_cons_succ])
  refine wpL_val (v := .bool false) (by rfl) (by first | rfl | (go_simp; done) | (go_simp; with_reducible rfl) | (go_simp; omega)) ?_
  (try simp only [Act.put, List.setIfInBounds_toArray, List.set_cons_zero, List.set_cons_succ])
  refine wpL_val (v := .bool false) (by rfl) (by first | rfl | (go_simp; done) | (go_simp; with_reducible rfl) | (go_simp; omega)) ?_
  (try simp only [Act.put, List.setIfInBounds_toArray, List.set_cons_zero, List.set_cons_succ])
  refine wpL_val (v := .bool false) (by rfl) (by first | rfl | (go_simp; done) | (go_simp; with_reducible rfl) | (go_simp; omega)) ?_
  (try simp only [Act.put, List.setIfInBounds_toArray, List.set_cons_zero, List.set_cons_succ])
  refine wpL_nil ?_
  go_upto_region 3 with fail
  refine wp_region_lit ?_
  (refine wpL_val (v := ?_) (by rfl) ?_ ?_; rotate_left 1; (focus (go_simp; first | done | with_reducible rfl)))
  (try simp only [Act.put, List.setIfInBounds_toArray, List.set_cons_zero, List.set_cons_succ])
  (refine wpL_val (v := ?_) (by rfl) ?_ ?_; rotate_left 1; (focus (go_simp; first | done | with_reducible rfl)))
  (try simp only [Act.put, List.setIfInBounds_toArray, List.set_cons_zero, List.set_cons_succ])
  (refine wpL_val (v := ?_) (by rfl) ?_ ?_; rotate_left 1; (focus (go_simp; first | done | with_reducible rfl)))
  (try simp only [Act.put, List.setIfInBounds_toArray, List.set_cons_zero, List.set_cons_succ])
  refine wpL_get (v := v) (by rfl) rfl rfl k_p (by rfl) (by kernel_rfl) ?_
  (try simp only [Act.put, List.setIfInBounds_toArray, List.set_cons_zero, List.set_cons_succ])
  refine wpL_len (l := l) ow_b (by rfl) rfl rfl ?_
  (try simp only [Act.put, List.setIfInBounds_toArray, List.set_cons_zero, List.set_cons_succ])
  (refine wpL_val (v := ?_) (by rfl) ?_ ?_; rotate_left 1; (focus (go_simp; first | done | with_reducible rfl)))
  (try simp only [Act.put, List.setIfInBounds_toArray, List.set_cons_zero, List.set_cons_succ])
  refine wpL_val (v := .bool false) (by rfl) (by first | rfl | (go_simp; done) | (go_simp; with_reducible rfl) | (go_simp; omega)) ?_
  (try simp only [Act.put, List.setIfInBounds_toArray, List.set_cons_zero, List.set_cons_succ])
  refine wpL_val (v := .bool false) (by rfl) (by first | rfl | (go_simp; done) | (go_simp; with_reducible rfl) | (go_simp; omega)) ?_
  (try simp only [Act.put, List.setIfInBounds_toArray, List.set_cons_zero, List.set_cons_succ])
  refine wpL_nil ?_
  go_upto_region 6 with fail
  refine wp_region_lit ?_
  (refine wpL_val (v := ?_) (by rfl) ?_ ?_; rotate_left 1; (focus (go_simp; first | done | with_reducible rfl)))
  (try simp only [Act.put, List.setIfInBounds_toArray, List.set_cons_zero, List.set_cons_succ])
  (refine wpL_val (v := ?_) (by rfl) ?_ ?_; rotate_left 1; (focus (go_simp; first | done | with_reducible rfl)))
  (try simp only [Act.put, List.setIfInBounds_toArray, List.set_cons_zero, List.set_cons_succ])
  (refine wpL_val (v := ?_) (by rfl) ?_ ?_; rotate_left 1; (focus (go_simp; first | done | with_reducible rfl)))
  (try simp only [Act.put, List.setIfInBounds_toArray, List.set_cons_zero, List.set_cons_succ])
  refine wpL_get (v := v) (by rfl) rfl rfl k_p (by rfl) (by kernel_rfl) ?_
  (try simp only [Act.put, List.setIfInBounds_toArray, List.set_cons_zero, List.set_cons_succ])
  (refine wpL_val (v := ?_) (by rfl) ?_ ?_; rotate_left 1; (focus (go_simp; first | done | with_reducible rfl)))
  (try simp only [Act.put, List.setIfInBounds_toArray, List.set_cons_zero, List.set_cons_succ])
  refine wpL_head (n := n) ow_b (by omega) (by rfl) rfl rfl rfl ?_
  (try simp only [Act.put, List.setIfInBounds_toArray, List.set_cons_zero, List.set_cons_succ])
  intro u32_0 ow_c32 sub_c32 some_c32
  have ne_c32_p : sb u32_0 (List.take n l) ≠ some p := sub_ne sub_c32 ne_b_p
  (refine wpL_val (v := ?_) (by rfl) ?_ ?_; rotate_left 1; (focus (go_simp; first | done | with_reducible rfl)))
  (try simp only [Act.put, List.setIfInBounds_toArray, List.set_cons_zero, List.set_cons_succ])
  refine wpL_nil ?_
  go_upto_region 7 with fail
  refine wp_region_lit ?_
  (refine wpL_val (v := ?_) (by rfl) ?_ ?_; rotate_left 1; (focus (go_simp; first | done | with_reducible rfl)))
  (try simp only [Act.put, List.setIfInBounds_toArray, List.set_cons_zero, List.set_cons_succ])
  (refine wpL_val (v := ?_) (by rfl) ?_ ?_; rotate_left 1; (focus (go_simp; first | done | with_reducible rfl)))
  (try simp only [Act.put, List.setIfInBounds_toArray, List.set_cons_zero, List.set_cons_succ])
  (refine wpL_val (v := ?_) (by rfl) ?_ ?_; rotate_left 1; (focus (go_simp; first | done | with_reducible rfl)))
  (try simp only [Act.put, List.setIfInBounds_toArray, List.set_cons_zero, List.set_cons_succ])
  (refine wpL_val (v := ?_) (by rfl) ?_ ?_; rotate_left 1; (focus (go_simp; first | done | with_reducible rfl)))
  (try simp only [Act.put, List.setIfInBounds_toArray, List.set_cons_zero, List.set_cons_succ])
  refine wpL_get (v := v) (by rfl) rfl rfl k_p (by rfl) (by kernel_rfl) ?_
  (try simp only [Act.put, List.setIfInBounds_toArray, List.set_cons_zero, List.set_cons_succ])
  (refine wpL_val (v := ?_) (by rfl) ?_ ?_; rotate_left 1; (focus (go_simp; first | done | with_reducible rfl)))
  (try simp only [Act.put, List.setIfInBounds_toArray, List.set_cons_zero, List.set_cons_succ])
  refine wpL_tail (n := n) ow_b (by omega) (by rfl) rfl rfl rfl ?_
  (try simp only [Act.put, List.setIfInBounds_toArray, List.set_cons_zero, List.set_cons_succ])
  intro u39_0 ow_c39 sub_c39
  have ne_c39_p : sb u39_0 (List.drop n l) ≠ some p := sub_ne sub_c39 ne_b_p
  (refine wpL_val (v := ?_) (by rfl) ?_ ?_; rotate_left 1; (focus (go_simp; first | done | with_reducible rfl)))
  (try simp only [Act.put, List.setIfInBounds_toArray, List.set_cons_zero, List.set_cons_succ])
  (refine wpL_val (v := ?_) (by rfl) ?_ ?_; rotate_left 1; (focus (go_simp; first | done | with_reducible rfl)))
  (try simp only [Act.put, List.setIfInBounds_toArray, List.set_cons_zero, List.set_cons_succ])
  refine wpL_put1 (v := u39_0) (sl_cells ow_c39) (by rfl) rfl rfl rfl k_p (by show 0 < 2; decide) (by kernel_rfl) ?_
  (try simp only [Act.put, List.setIfInBounds_toArray, List.set_cons_zero, List.set_cons_succ])
  intro W1 hO h_
  replace k_p : Blk W1 p #[u39_0, .int .i64 0] 57 := h_
  clear h_
  replace ow_b := Sl.off ow_b hO (f1 ne_b_p)
  replace ow_c32 := Sl.off ow_c32 hO (f1 ne_c32_p)
  replace ow_c39 := Sl.off ow_c39 hO (f1 ne_c39_p)
  replace off0 := off0.step hO (i1 fb_p)
  replace sz := off0.size
  clear hO
  refine wpL_nil ?_
  go_wp2
  exact bodyPost_ret (v := u32_0) (by simp only [results, Try.results25]; go_simp) rfl ⟨_, rfl, ow_c32, sub_c32, some_c32, _, ⟨k_p, ow_c39, ne_c39_p⟩, sub_c39, off0⟩
set_option maxHeartbeats 4000000 in
theorem rbyte_ok (p : Nat) (v : Value) (c : UInt8) (r : List UInt8) (w : World) (hrd : Rdr w p v (c :: r) 0) (hl : (c :: r).length < 140737488000000) :
    Calls Try.prog 26 #[.pointer (some ⟨p, 0, none⟩)] w fun e w' => e = .returned (.int .i64 (c.toNat : Int)) ∧ ∃ v', RdTo w p v (c :: r) r 0 v' w' := by
  have off0 : Off [p] w w := Off.refl _ _
  have sz := off0.size
  obtain ⟨k_p, ow_b, ne_b_p⟩ := hrd
  have fb_p : Fb p w.heap.size [p] := fun _ => by simp
  go_enter Try.func26, Try.ntmps26
  go_upto_region 1 with fail
  refine wp_region_lit ?_
  (refine wpL_val (v := ?_) (by rfl) ?_ ?_; rotate_left 1; (focus (go_simp; first | done | with_reducible rfl)))
  (try simp only [Act.put, List.setIfInBounds_toArray, List.set_cons_zero, List.set_cons_succ])
  refine wpL_call (R := fun u W => Sl W u (List.take 1 (c :: r)) ∧ Sub u (List.take 1 (c :: r)) (sb v (c :: r)) ∧ (0 < 1 → ∃ ad c, u = .slice (some ad) 1 c) ∧ ∃ v2, RdTo w p v (c :: r) (List.drop 1 (c :: r)) 0 v2 W) ((take_ok p v (c :: r) w ⟨k_p, ow_b, ne_b_p⟩ 1 (by simp) (by first | omega | (simp only [List.length_append, List.length_cons, List.length_nil]; omega))).mono fun _ _ h => h) (by rfl) rfl (by kernel_rfl) rfl ?_
  (try simp only [Act.put, List.setIfInBounds_toArray, List.set_cons_zero, List.set_cons_succ])
  rintro u5_0 W1 ⟨hu, hsu, hso, v_b1, hto⟩
  (try simp only [Act.put, List.setIfInBounds_toArray, List.set_cons_zero, List.set_cons_succ])
  have hO := hto.off
  have kk := hto.rd.1
  have hv2 := hto.rd.2.1
  have hs2 := hto.sub
  clear hto
  replace ow_b := Sl.off ow_b hO (f1 ne_b_p)
  replace off0 := off0.step hO (i1 fb_p)
  replace sz := off0.size
  replace k_p := kk
  clear kk hO
  have ow_h5 := hu
  have ow_b1 := hv2
  clear hu hv2
  have ne_h5_p : sb u5_0 (List.take 1 (c :: r)) ≠ some p := sub_ne hsu ne_b_p
  have ne_b1_p : sb v_b1 (List.drop 1 (c :: r)) ≠ some p := sub_ne hs2 ne_b_p
  (refine wpL_val (v := ?_) (by rfl) ?_ ?_; rotate_left 1; (focus (go_simp; first | done | with_reducible rfl)))
  (try simp only [Act.put, List.setIfInBounds_toArray, List.set_cons_zero, List.set_cons_succ])
  refine wpL_nil ?_
  obtain ⟨ad, cc, hsf⟩ := hso (by decide)
  subst hsf
  go_upto_region 2 with fail
  refine wp_region_lit ?_
  (refine wpL_val (v := ?_) (by rfl) ?_ ?_; rotate_left 1; (focus (go_simp; first | done | with_reducible rfl)))
  (try simp only [Act.put, List.setIfInBounds_toArray, List.set_cons_zero, List.set_cons_succ])
  refine wpL_val (v := .bool false) (by rfl) (by first | rfl | (go_simp; done) | (go_simp; with_reducible rfl) | (go_simp; omega)) ?_
  (try simp only [Act.put, List.setIfInBounds_toArray, List.set_cons_zero, List.set_cons_succ])
  refine wpL_nil ?_
  go_upto_region 4 with fail
  refine wp_region_lit ?_
  (refine wpL_val (v := ?_) (by rfl) ?_ ?_; rotate_left 1; (focus (go_simp; first | done | with_reducible rfl)))
  (try simp only [Act.put, List.setIfInBounds_toArray, List.set_cons_zero, List.set_cons_succ])
  refine wpL_ixs (j := 0) (c := c) ow_h5 rfl (by rfl) rfl rfl rfl ?_
  (try simp only [Act.put, List.setIfInBounds_toArray, List.set_cons_zero, List.set_cons_succ])
  intro adr hadr
  refine wpL_at (by rfl) rfl rfl hadr (by kernel_rfl) ?_
  (try simp only [Act.put, List.setIfInBounds_toArray, List.set_cons_zero, List.set_cons_succ])
  refine wpL_val (v := .int .i64 (c.toNat : Int)) (by rfl) (by have := c.toNat_lt; go_simp; (try simp only [IntKind.wrap_i64]); (try omega)) ?_
  (try simp only [Act.put, List.setIfInBounds_toArray, List.set_cons_zero, List.set_cons_succ])
  (refine wpL_val (v := ?_) (by rfl) ?_ ?_; rotate_left 1; (focus (go_simp; first | done | with_reducible rfl)))
  (try simp only [Act.put, List.setIfInBounds_toArray, List.set_cons_zero, List.set_cons_succ])
  refine wpL_nil ?_
  go_wp2
  exact bodyPost_ret (v := .int .i64 (c.toNat : Int)) (by simp only [results, Try.results26]; first | (go_simp; done) | (go_simp; rfl)) rfl ⟨rfl, _, ⟨k_p, ow_b1, ne_b1_p⟩, hs2, off0⟩
set_option maxHeartbeats 4000000 in
theorem rflag_0 (p : Nat) (v : Value) (r : List UInt8) (w : World) (hrd : Rdr w p v (u8 0 :: r) 0) (hl : (u8 0 :: r).length < 140737488000000) :
    Calls Try.prog 27 #[.pointer (some ⟨p, 0, none⟩)] w fun e w' => e = .returned (.bool false) ∧ ∃ v', RdTo w p v (u8 0 :: r) r 0 v' w' := by
  have off0 : Off [p] w w := Off.refl _ _
  have sz := off0.size
  obtain ⟨k_p, ow_b, ne_b_p⟩ := hrd
  have fb_p : Fb p w.heap.size [p] := fun _ => by simp
  go_enter Try.func27, Try.ntmps27
  go_upto_region 1 with fail
  refine wp_region_lit ?_
  (refine wpL_val (v := ?_) (by rfl) ?_ ?_; rotate_left 1; (focus (go_simp; first | done | with_reducible rfl)))
  (try simp only [Act.put, List.setIfInBounds_toArray, List.set_cons_zero, List.set_cons_succ])
  refine wpL_callv (v := .int .i64 0) (rbyte_ok p _ (u8 0) r _ ⟨k_p, ow_b, ne_b_p⟩ (by first | omega | (simp only [List.length_append, List.length_cons, List.length_nil]; omega))) (by rfl) rfl (by kernel_rfl) rfl ?_
  (try simp only [Act.put, List.setIfInBounds_toArray, List.set_cons_zero, List.set_cons_succ])
  rintro W1 ⟨v_b1, hto⟩
  have hO := hto.off
  have kk := hto.rd.1
  have hv2 := hto.rd.2.1
  have hs2 := hto.sub
  clear hto
  replace ow_b := Sl.off ow_b hO (f1 ne_b_p)
  replace off0 := off0.step hO (i1 fb_p)
  replace sz := off0.size
  replace k_p := kk
  clear kk hO
  have ow_b1 := hv2
  clear hv2
  have ne_b1_p : sb v_b1 r ≠ some p := sub_ne hs2 ne_b_p
  clear ow_b ne_b_p
  refine wpL_val (v := .int .i64 0) (by rfl) (by first | rfl | (go_simp; done) | (go_simp; with_reducible rfl) | (go_simp; omega)) ?_
  (try simp only [Act.put, List.setIfInBounds_toArray, List.set_cons_zero, List.set_cons_succ])
  refine wpL_nil ?_
  go_wp2
  exact bodyPost_ret (v := .bool false) (by simp only [results, Try.results27]; first | (go_simp; done) | (go_simp; rfl)) rfl ⟨rfl, _, ⟨k_p, ow_b1, ne_b1_p⟩, hs2, off0⟩
set_option maxHeartbeats 4000000 in
theorem rflag_1 (p : Nat) (v : Value) (r : List UInt8) (w : World) (hrd : Rdr w p v (u8 1 :: r) 0) (hl : (u8 1 :: r).length < 140737488000000) :
    Calls Try.prog 27 #[.pointer (some ⟨p, 0, none⟩)] w fun e w' => e = .returned (.bool true) ∧ ∃ v', RdTo w p v (u8 1 :: r) r 0 v' w' := by
  have off0 : Off [p] w w := Off.refl _ _
  have sz := off0.size
  obtain ⟨k_p, ow_b, ne_b_p⟩ := hrd
  have fb_p : Fb p w.heap.size [p] := fun _ => by simp
  go_enter Try.func27, Try.ntmps27
  go_upto_region 1 with fail
  refine wp_region_lit ?_
  (refine wpL_val (v := ?_) (by rfl) ?_ ?_; rotate_left 1; (focus (go_simp; first | done | with_reducible rfl)))
  (try simp only [Act.put, List.setIfInBounds_toArray, List.set_cons_zero, List.set_cons_succ])
  refine wpL_callv (v := .int .i64 1) (rbyte_ok p _ (u8 1) r _ ⟨k_p, ow_b, ne_b_p⟩ (by first | omega | (simp only [List.length_append, List.length_cons, List.length_nil]; omega))) (by rfl) rfl (by kernel_rfl) rfl ?_
  (try simp only [Act.put, List.setIfInBounds_toArray, List.set_cons_zero, List.set_cons_succ])
  rintro W1 ⟨v_b1, hto⟩
  have hO := hto.off
  have kk := hto.rd.1
  have hv2 := hto.rd.2.1
  have hs2 := hto.sub
  clear hto
  replace ow_b := Sl.off ow_b hO (f1 ne_b_p)
  replace off0 := off0.step hO (i1 fb_p)
  replace sz := off0.size
  replace k_p := kk
  clear kk hO
  have ow_b1 := hv2
  clear hv2
  have ne_b1_p : sb v_b1 r ≠ some p := sub_ne hs2 ne_b_p
  clear ow_b ne_b_p
  refine wpL_val (v := .int .i64 1) (by rfl) (by first | rfl | (go_simp; done) | (go_simp; with_reducible rfl) | (go_simp; omega)) ?_
  (try simp only [Act.put, List.setIfInBounds_toArray, List.set_cons_zero, List.set_cons_succ])
  refine wpL_nil ?_
  go_wp2
  exact bodyPost_ret (v := .bool true) (by simp only [results, Try.results27]; first | (go_simp; done) | (go_simp; rfl)) rfl ⟨rfl, _, ⟨k_p, ow_b1, ne_b1_p⟩, hs2, off0⟩
section
variable {w : World} {o : Oper} {a : Act}
theorem run_shl8 {x : Operand} {t : TypeId} {Y : Nat} (ho : o.op = .binOp .shl 3 x (.const (.int .u64 8)) t) (hx : a.eval x = .int .i64 (IntKind.wrap .i64 (Y : Int))) : (execOp a.eval o).run Try.prog w = .ok (.value (.int .i64 (IntKind.wrap .i64 ((Y * 256 : Nat) : Int)))) w := by
  have h := shl8 Y
  simp only [execOp, ho, hx]
  go_simp
theorem run_or8 {x y : Operand} {t : TypeId} {Y z Y' : Nat} (hz : z < 256) (hY : Y' = Y * 256 + z) (ho : o.op = .binOp .or 3 x y t) (hx : a.eval x = .int .i64 (IntKind.wrap .i64 ((Y * 256 : Nat) : Int))) (hy : a.eval y = .int .i64 (z : Int)) : (execOp a.eval o).run Try.prog w = .ok (.value (.int .i64 (IntKind.wrap .i64 (Y' : Int)))) w := by
  have h := or8 Y z hz
  subst hY
  simp only [execOp, ho, hx, hy]
  go_simp
  rw [show ((Y * 256 : Nat) : Int) = (Y : Int) * 256 by omega, show ((Y * 256 + z : Nat) : Int) = (Y : Int) * 256 + z by omega] at h
  exact h
end
theorem be8_val (X : Nat) (hX : X < 18446744073709551616) : ((((((((0 * 256 + (u8 (X / 72057594037927936)).toNat) * 256 + (u8 (X / 281474976710656)).toNat) * 256 + (u8 (X / 1099511627776)).toNat) * 256 + (u8 (X / 4294967296)).toNat) * 256 + (u8 (X / 16777216)).toNat) * 256 + (u8 (X / 65536)).toNat) * 256 + (u8 (X / 256)).toNat) * 256 + (u8 X).toNat) = X := by
  simp only [u8_nat]
  omega
set_option maxHeartbeats 4000000 in
theorem rnum_ok (p : Nat) (v : Value) (X : Nat) (hX : X < 18446744073709551616) (r : List UInt8) (w : World) (hrd : Rdr w p v (be8 X ++ r) 0) (hl : (be8 X ++ r).length < 140737488000000) :
    Calls Try.prog 28 #[.pointer (some ⟨p, 0, none⟩)] w fun e w' => e = .returned (.int .i64 (IntKind.wrap .i64 (X : Int))) ∧ ∃ v', RdTo w p v (be8 X ++ r) r 0 v' w' := by
  obtain ⟨Y1, hY1⟩ : ∃ Y : Nat, Y = 0 * 256 + (u8 (X / 72057594037927936)).toNat := ⟨_, rfl⟩
  have HY1 := Lib.hid hY1
  clear hY1
  obtain ⟨Y2, hY2⟩ : ∃ Y : Nat, Y = Y1 * 256 + (u8 (X / 281474976710656)).toNat := ⟨_, rfl⟩
  have HY2 := Lib.hid hY2
  clear hY2
  obtain ⟨Y3, hY3⟩ : ∃ Y : Nat, Y = Y2 * 256 + (u8 (X / 1099511627776)).toNat := ⟨_, rfl⟩
  have HY3 := Lib.hid hY3
  clear hY3
  obtain ⟨Y4, hY4⟩ : ∃ Y : Nat, Y = Y3 * 256 + (u8 (X / 4294967296)).toNat := ⟨_, rfl⟩
  have HY4 := Lib.hid hY4
  clear hY4
  obtain ⟨Y5, hY5⟩ : ∃ Y : Nat, Y = Y4 * 256 + (u8 (X / 16777216)).toNat := ⟨_, rfl⟩
  have HY5 := Lib.hid hY5
  clear hY5
  obtain ⟨Y6, hY6⟩ : ∃ Y : Nat, Y = Y5 * 256 + (u8 (X / 65536)).toNat := ⟨_, rfl⟩
  have HY6 := Lib.hid hY6
  clear hY6
  obtain ⟨Y7, hY7⟩ : ∃ Y : Nat, Y = Y6 * 256 + (u8 (X / 256)).toNat := ⟨_, rfl⟩
  have HY7 := Lib.hid hY7
  clear hY7
  obtain ⟨Y8, hY8⟩ : ∃ Y : Nat, Y = Y7 * 256 + (u8 X).toNat := ⟨_, rfl⟩
  have HY8 := Lib.hid hY8
  clear hY8
  have off0 : Off [p] w w := Off.refl _ _
  have sz := off0.size
  obtain ⟨k_p, ow_b, ne_b_p⟩ := hrd
  have fb_p : Fb p w.heap.size [p] := fun _ => by simp
  go_enter Try.func28, Try.ntmps28
  go_upto_region 2 with fail
  refine wp_region_lit ?_
  (refine wpL_val (v := ?_) (by rfl) ?_ ?_; rotate_left 1; (focus (go_simp; first | done | with_reducible rfl)))
  (try simp only [Act.put, List.setIfInBounds_toArray, List.set_cons_zero, List.set_cons_succ])
  refine wpL_call (R := fun u W => Sl W u (List.take 8 (be8 X ++ r)) ∧ Sub u (List.take 8 (be8 X ++ r)) (sb v (be8 X ++ r)) ∧ (0 < 8 → ∃ ad c, u = .slice (some ad) 8 c) ∧ ∃ v2, RdTo w p v (be8 X ++ r) (List.drop 8 (be8 X ++ r)) 0 v2 W) ((take_ok p v (be8 X ++ r) w ⟨k_p, ow_b, ne_b_p⟩ 8 (by rw [List.length_append, show (be8 X).length = 8 from rfl]; omega) (by first | omega | (simp only [List.length_append, List.length_cons, List.length_nil]; omega))).mono fun _ _ h => h) (by rfl) rfl (by kernel_rfl) rfl ?_
  (try simp only [Act.put, List.setIfInBounds_toArray, List.set_cons_zero, List.set_cons_succ])
  rintro u7_0 W1 ⟨hu, hsu, hso, v_b1, hto⟩
  (try simp only [Act.put, List.setIfInBounds_toArray, List.set_cons_zero, List.set_cons_succ])
  have hO := hto.off
  have kk := hto.rd.1
  have hv2 := hto.rd.2.1
  have hs2 := hto.sub
  clear hto
  replace ow_b := Sl.off ow_b hO (f1 ne_b_p)
  replace off0 := off0.step hO (i1 fb_p)
  replace sz := off0.size
  replace k_p := kk
  clear kk hO
  have ow_h7 := hu
  have ow_b1 := hv2
  clear hu hv2
  have ne_h7_p : sb u7_0 (List.take 8 (be8 X ++ r)) ≠ some p := sub_ne hsu ne_b_p
  have ne_b1_p : sb v_b1 (List.drop 8 (be8 X ++ r)) ≠ some p := sub_ne hs2 ne_b_p
  refine wpL_lenn (n := 8) rfl ow_h7 (by rfl) rfl rfl ?_
  (try simp only [Act.put, List.setIfInBounds_toArray, List.set_cons_zero, List.set_cons_succ])
  refine wpL_val (v := .int .i64 0) (by rfl) (by first | rfl | (go_simp; done) | (go_simp; with_reducible rfl) | (go_simp; omega)) ?_
  (try simp only [Act.put, List.setIfInBounds_toArray, List.set_cons_zero, List.set_cons_succ])
  refine wpL_nil ?_
  go_wp2_with fail
  refine wp_loop_rounds 9 ?_
  rw [rounds_succ]
  go_upto_region 4 with fail
  refine wp_region_lit ?_
  refine wpL_ixs (j := 0) (c := u8 (X / 72057594037927936)) ow_h7 rfl (by rfl) rfl rfl rfl ?_
  (try simp only [Act.put, List.setIfInBounds_toArray, List.set_cons_zero, List.set_cons_succ])
  intro adr hadr
  refine wpL_at (by rfl) rfl rfl hadr (by kernel_rfl) ?_
  (try simp only [Act.put, List.setIfInBounds_toArray, List.set_cons_zero, List.set_cons_succ])
  (refine wpL_val (v := ?_) (by rfl) ?_ ?_; rotate_left 1; (focus (go_simp; first | done | with_reducible rfl)))
  (try simp only [Act.put, List.setIfInBounds_toArray, List.set_cons_zero, List.set_cons_succ])
  refine wpL_nil ?_
  go_upto_region 5 with fail
  refine wp_region_lit ?_
  refine wpL_val (v := .int .i64 0) (by rfl) (by first | rfl | (go_simp; done) | (go_simp; with_reducible rfl) | (go_simp; omega)) ?_
  (try simp only [Act.put, List.setIfInBounds_toArray, List.set_cons_zero, List.set_cons_succ])
  refine wpL_val (v := .int .i64 (IntKind.wrap .i64 ((0 * 256 : Nat) : Int))) (by rfl) (by exact run_shl8 (Y := 0) rfl rfl) ?_
  (try simp only [Act.put, List.setIfInBounds_toArray, List.set_cons_zero, List.set_cons_succ])
  (refine wpL_val (v := ?_) (by rfl) ?_ ?_; rotate_left 1; (focus (go_simp; first | done | with_reducible rfl)))
  (try simp only [Act.put, List.setIfInBounds_toArray, List.set_cons_zero, List.set_cons_succ])
  refine wpL_val (v := .int .i64 ((u8 (X / 72057594037927936)).toNat : Int)) (by rfl) (by have := (u8 (X / 72057594037927936)).toNat_lt; go_simp; (try simp only [IntKind.wrap_i64]); (try omega)) ?_
  (try simp only [Act.put, List.setIfInBounds_toArray, List.set_cons_zero, List.set_cons_succ])
  refine wpL_val (v := .int .i64 (IntKind.wrap .i64 ((Y1 : Nat) : Int))) (by rfl) (by exact run_or8 (Y := 0) (UInt8.toNat_lt _) HY1.out rfl rfl rfl) ?_
  (try simp only [Act.put, List.setIfInBounds_toArray, List.set_cons_zero, List.set_cons_succ])
  (refine wpL_val (v := ?_) (by rfl) ?_ ?_; rotate_left 1; (focus (go_simp; first | done | with_reducible rfl)))
  (try simp only [Act.put, List.setIfInBounds_toArray, List.set_cons_zero, List.set_cons_succ])
  refine wpL_nil ?_
  go_wp2_with fail
  rw [rounds_succ]
  go_upto_region 4 with fail
  refine wp_region_lit ?_
  refine wpL_ixs (j := 1) (c := u8 (X / 281474976710656)) ow_h7 rfl (by rfl) rfl rfl rfl ?_
  (try simp only [Act.put, List.setIfInBounds_toArray, List.set_cons_zero, List.set_cons_succ])
  intro adr hadr
  refine wpL_at (by rfl) rfl rfl hadr (by kernel_rfl) ?_
  (try simp only [Act.put, List.setIfInBounds_toArray, List.set_cons_zero, List.set_cons_succ])
  (refine wpL_val (v := ?_) (by rfl) ?_ ?_; rotate_left 1; (focus (go_simp; first | done | with_reducible rfl)))
  (try simp only [Act.put, List.setIfInBounds_toArray, List.set_cons_zero, List.set_cons_succ])
  refine wpL_nil ?_
  go_upto_region 5 with fail
  refine wp_region_lit ?_
  (refine wpL_val (v := ?_) (by rfl) ?_ ?_; rotate_left 1; (focus (go_simp; first | done | with_reducible rfl)))
  (try simp only [Act.put, List.setIfInBounds_toArray, List.set_cons_zero, List.set_cons_succ])
  refine wpL_val (v := .int .i64 (IntKind.wrap .i64 ((Y1 * 256 : Nat) : Int))) (by rfl) (by exact run_shl8 (Y := Y1) rfl rfl) ?_
  (try simp only [Act.put, List.setIfInBounds_toArray, List.set_cons_zero, List.set_cons_succ])
  (refine wpL_val (v := ?_) (by rfl) ?_ ?_; rotate_left 1; (focus (go_simp; first | done | with_reducible rfl)))
  (try simp only [Act.put, List.setIfInBounds_toArray, List.set_cons_zero, List.set_cons_succ])
  refine wpL_val (v := .int .i64 ((u8 (X / 281474976710656)).toNat : Int)) (by rfl) (by have := (u8 (X / 281474976710656)).toNat_lt; go_simp; (try simp only [IntKind.wrap_i64]); (try omega)) ?_
  (try simp only [Act.put, List.setIfInBounds_toArray, List.set_cons_zero, List.set_cons_succ])
  refine wpL_val (v := .int .i64 (IntKind.wrap .i64 ((Y2 : Nat) : Int))) (by rfl) (by exact run_or8 (Y := Y1) (UInt8.toNat_lt _) HY2.out rfl rfl rfl) ?_
  (try simp only [Act.put, List.setIfInBounds_toArray, List.set_cons_zero, List.set_cons_succ])
  (refine wpL_val (v := ?_) (by rfl) ?_ ?_; rotate_left 1; (focus (go_simp; first | done | with_reducible rfl)))
  (try simp only [Act.put, List.setIfInBounds_toArray, List.set_cons_zero, List.set_cons_succ])
  refine wpL_nil ?_
  go_wp2_with fail
  rw [rounds_succ]
  go_upto_region 4 with fail
  refine wp_region_lit ?_
  refine wpL_ixs (j := 2) (c := u8 (X / 1099511627776)) ow_h7 rfl (by rfl) rfl rfl rfl ?_
  (try simp only [Act.put, List.setIfInBounds_toArray, List.set_cons_zero, List.set_cons_succ])
  intro adr hadr
  refine wpL_at (by rfl) rfl rfl hadr (by kernel_rfl) ?_
  (try simp only [Act.put, List.setIfInBounds_toArray, List.set_cons_zero, List.set_cons_succ])
  (refine wpL_val (v := ?_) (by rfl) ?_ ?_; rotate_left 1; (focus (go_simp; first | done | with_reducible rfl)))
  (try simp only [Act.put, List.setIfInBounds_toArray, List.set_cons_zero, List.set_cons_succ])
  refine wpL_nil ?_
  go_upto_region 5 with fail
  refine wp_region_lit ?_
  (refine wpL_val (v := ?_) (by rfl) ?_ ?_; rotate_left 1; (focus (go_simp; first | done | with_reducible rfl)))
  (try simp only [Act.put, List.setIfInBounds_toArray, List.set_cons_zero, List.set_cons_succ])
  refine wpL_val (v := .int .i64 (IntKind.wrap .i64 ((Y2 * 256 : Nat) : Int))) (by rfl) (by exact run_shl8 (Y := Y2) rfl rfl) ?_
  (try simp only [Act.put, List.setIfInBounds_toArray, List.set_cons_zero, List.set_cons_succ])
  (refine wpL_val (v := ?_) (by rfl) ?_ ?_; rotate_left 1; (focus (go_simp; first | done | with_reducible rfl)))
  (try simp only [Act.put, List.setIfInBounds_toArray, List.set_cons_zero, List.set_cons_succ])
  refine wpL_val (v := .int .i64 ((u8 (X / 1099511627776)).toNat : Int)) (by rfl) (by have := (u8 (X / 1099511627776)).toNat_lt; go_simp; (try simp only [IntKind.wrap_i64]); (try omega)) ?_
  (try simp only [Act.put, List.setIfInBounds_toArray, List.set_cons_zero, List.set_cons_succ])
  refine wpL_val (v := .int .i64 (IntKind.wrap .i64 ((Y3 : Nat) : Int))) (by rfl) (by exact run_or8 (Y := Y2) (UInt8.toNat_lt _) HY3.out rfl rfl rfl) ?_
  (try simp only [Act.put, List.setIfInBounds_toArray, List.set_cons_zero, List.set_cons_succ])
  (refine wpL_val (v := ?_) (by rfl) ?_ ?_; rotate_left 1; (focus (go_simp; first | done | with_reducible rfl)))
  (try simp only [Act.put, List.setIfInBounds_toArray, List.set_cons_zero, List.set_cons_succ])
  refine wpL_nil ?_
  go_wp2_with fail
  rw [rounds_succ]
  go_upto_region 4 with fail
  refine wp_region_lit ?_
  refine wpL_ixs (j := 3) (c := u8 (X / 4294967296)) ow_h7 rfl (by rfl) rfl rfl rfl ?_
  (try simp only [Act.put, List.setIfInBounds_toArray, List.set_cons_zero, List.set_cons_succ])
  intro adr hadr
  refine wpL_at (by rfl) rfl rfl hadr (by kernel_rfl) ?_
  (try simp only [Act.put, List.setIfInBounds_toArray, List.set_cons_zero, List.set_cons_succ])
  (refine wpL_val (v := ?_) (by rfl) ?_ ?_; rotate_left 1; (focus (go_simp; first | done | with_reducible rfl)))
  (try simp only [Act.put, List.setIfInBounds_toArray, List.set_cons_zero, List.set_cons_succ])
  refine wpL_nil ?_
  go_upto_region 5 with fail
  refine wp_region_lit ?_
  (refine wpL_val (v := ?_) (by rfl) ?_ ?_; rotate_left 1; (focus (go_simp; first | done | with_reducible rfl)))
  (try simp only [Act.put, List.setIfInBounds_toArray, List.set_cons_zero, List.set_cons_succ])
  refine wpL_val (v := .int .i64 (IntKind.wrap .i64 ((Y3 * 256 : Nat) : Int))) (by rfl) (by exact run_shl8 (Y := Y3) rfl rfl) ?_
  (try simp only [Act.put, List.setIfInBounds_toArray, List.set_cons_zero, List.set_cons_succ])
  (refine wpL_val (v := ?_) (by rfl) ?_ ?_; rotate_left 1; (focus (go_simp; first | done | with_reducible rfl)))
  (try simp only [Act.put, List.setIfInBounds_toArray, List.set_cons_zero, List.set_cons_succ])
  refine wpL_val (v := .int .i64 ((u8 (X / 4294967296)).toNat : Int)) (by rfl) (by have := (u8 (X / 4294967296)).toNat_lt; go_simp; (try simp only [IntKind.wrap_i64]); (try omega)) ?_
  (try simp only [Act.put, List.setIfInBounds_toArray, List.set_cons_zero, List.set_cons_succ])
  refine wpL_val (v := .int .i64 (IntKind.wrap .i64 ((Y4 : Nat) : Int))) (by rfl) (by exact run_or8 (Y := Y3) (UInt8.toNat_lt _) HY4.out rfl rfl rfl) ?_
  (try simp only [Act.put, List.setIfInBounds_toArray, List.set_cons_zero, List.set_cons_succ])
  (refine wpL_val (v := ?_) (by rfl) ?_ ?_; rotate_left 1; (focus (go_simp; first | done | with_reducible rfl)))
  (try simp only [Act.put, List.setIfInBounds_toArray, List.set_cons_zero, List.set_cons_succ])
  refine wpL_nil ?_
  go_wp2_with fail
  rw [rounds_succ]
  go_upto_region 4 with fail
  refine wp_region_lit ?_
  refine wpL_ixs (j := 4) (c := u8 (X / 16777216)) ow_h7 rfl (by rfl) rfl rfl rfl ?_
  (try simp only [Act.put, List.setIfInBounds_toArray, List.set_cons_zero, List.set_cons_succ])
  intro adr hadr
  refine wpL_at (by rfl) rfl rfl hadr (by kernel_rfl) ?_
  (try simp only [Act.put, List.setIfInBounds_toArray, List.set_cons_zero, List.set_cons_succ])
  (refine wpL_val (v := ?_) (by rfl) ?_ ?_; rotate_left 1; (focus (go_simp; first | done | with_reducible rfl)))
  (try simp only [Act.put, List.setIfInBounds_toArray, List.set_cons_zero, List.set_cons_succ])
  refine wpL_nil ?_
  go_upto_region 5 with fail
  refine wp_region_lit ?_
  (refine wpL_val (v := ?_) (by rfl) ?_ ?_; rotate_left 1; (focus (go_simp; first | done | with_reducible rfl)))
  (try simp only [Act.put, List.setIfInBounds_toArray, List.set_cons_zero, List.set_cons_succ])
  refine wpL_val (v := .int .i64 (IntKind.wrap .i64 ((Y4 * 256 : Nat) : Int))) (by rfl) (by exact run_shl8 (Y := Y4) rfl rfl) ?_
  (try simp only [Act.put, List.setIfInBounds_toArray, List.set_cons_zero, List.set_cons_succ])
  (refine wpL_val (v := ?_) (by rfl) ?_ ?_; rotate_left 1; (focus (go_simp; first | done | with_reducible rfl)))
  (try simp only [Act.put, List.setIfInBounds_toArray, List.set_cons_zero, List.set_cons_succ])
  refine wpL_val (v := .int .i64 ((u8 (X / 16777216)).toNat : Int)) (by rfl) (by have := (u8 (X / 16777216)).toNat_lt; go_simp; (try simp only [IntKind.wrap_i64]); (try omega)) ?_
  (try simp only [Act.put, List.setIfInBounds_toArray, List.set_cons_zero, List.set_cons_succ])
  refine wpL_val (v := .int .i64 (IntKind.wrap .i64 ((Y5 : Nat) : Int))) (by rfl) (by exact run_or8 (Y := Y4) (UInt8.toNat_lt _) HY5.out rfl rfl rfl) ?_
  (try simp only [Act.put, List.setIfInBounds_toArray, List.set_cons_zero, List.set_cons_succ])
  (refine wpL_val (v := ?_) (by rfl) ?_ ?_; rotate_left 1; (focus (go_simp; first | done | with_reducible rfl)))
  (try simp only [Act.put, List.setIfInBounds_toArray, List.set_cons_zero, List.set_cons_succ])
  refine wpL_nil ?_
  go_wp2_with fail
  rw [rounds_succ]
  go_upto_region 4 with fail
  refine wp_region_lit ?_
  refine wpL_ixs (j := 5) (c := u8 (X / 65536)) ow_h7 rfl (by rfl) rfl rfl rfl ?_
  (try simp only [Act.put, List.setIfInBounds_toArray, List.set_cons_zero, List.set_cons_succ])
  intro adr hadr
  refine wpL_at (by rfl) rfl rfl hadr (by kernel_rfl) ?_
  (try simp only [Act.put, List.setIfInBounds_toArray, List.set_cons_zero, List.set_cons_succ])
  (refine wpL_val (v := ?_) (by rfl) ?_ ?_; rotate_left 1; (focus (go_simp; first | done | with_reducible rfl)))
  (try simp only [Act.put, List.setIfInBounds_toArray, List.set_cons_zero, List.set_cons_succ])
  refine wpL_nil ?_
  go_upto_region 5 with fail
  refine wp_region_lit ?_
  (refine wpL_val (v := ?_) (by rfl) ?_ ?_; rotate_left 1; (focus (go_simp; first | done | with_reducible rfl)))
  (try simp only [Act.put, List.setIfInBounds_toArray, List.set_cons_zero, List.set_cons_succ])
  refine wpL_val (v := .int .i64 (IntKind.wrap .i64 ((Y5 * 256 : Nat) : Int))) (by rfl) (by exact run_shl8 (Y := Y5) rfl rfl) ?_
  (try simp only [Act.put, List.setIfInBounds_toArray, List.set_cons_zero, List.set_cons_succ])
  (refine wpL_val (v := ?_) (by rfl) ?_ ?_; rotate_left 1; (focus (go_simp; first | done | with_reducible rfl)))
  (try simp only [Act.put, List.setIfInBounds_toArray, List.set_cons_zero, List.set_cons_succ])
  refine wpL_val (v := .int .i64 ((u8 (X / 65536)).toNat : Int)) (by rfl) (by have := (u8 (X / 65536)).toNat_lt; go_simp; (try simp only [IntKind.wrap_i64]); (try omega)) ?_
  (try simp only [Act.put, List.setIfInBounds_toArray, List.set_cons_zero, List.set_cons_succ])
  refine wpL_val (v := .int .i64 (IntKind.wrap .i64 ((Y6 : Nat) : Int))) (by rfl) (by exact run_or8 (Y := Y5) (UInt8.toNat_lt _) HY6.out rfl rfl rfl) ?_
  (try simp only [Act.put, List.setIfInBounds_toArray, List.set_cons_zero, List.set_cons_succ])
  (refine wpL_val (v := ?_) (by rfl) ?_ ?_; rotate_left 1; (focus (go_simp; first | done | with_reducible rfl)))
  (try simp only [Act.put, List.setIfInBounds_toArray, List.set_cons_zero, List.set_cons_succ])
  refine wpL_nil ?_
  go_wp2_with fail
  rw [rounds_succ]
  go_upto_region 4 with fail
  refine wp_region_lit ?_
  refine wpL_ixs (j := 6) (c := u8 (X / 256)) ow_h7 rfl (by rfl) rfl rfl rfl ?_
  (try simp only [Act.put, List.setIfInBounds_toArray, List.set_cons_zero, List.set_cons_succ])
  intro adr hadr
  refine wpL_at (by rfl) rfl rfl hadr (by kernel_rfl) ?_
  (try simp only [Act.put, List.setIfInBounds_toArray, List.set_cons_zero, List.set_cons_succ])
  (refine wpL_val (v := ?_) (by rfl) ?_ ?_; rotate_left 1; (focus (go_simp; first | done | with_reducible rfl)))
  (try simp only [Act.put, List.setIfInBounds_toArray, List.set_cons_zero, List.set_cons_succ])
  refine wpL_nil ?_
  go_upto_region 5 with fail
  refine wp_region_lit ?_
  (refine wpL_val (v := ?_) (by rfl) ?_ ?_; rotate_left 1; (focus (go_simp; first | done | with_reducible rfl)))
  (try simp only [Act.put, List.setIfInBounds_toArray, List.set_cons_zero, List.set_cons_succ])
  refine wpL_val (v := .int .i64 (IntKind.wrap .i64 ((Y6 * 256 : Nat) : Int))) (by rfl) (by exact run_shl8 (Y := Y6) rfl rfl) ?_
  (try simp only [Act.put, List.setIfInBounds_toArray, List.set_cons_zero, List.set_cons_succ])
  (refine wpL_val (v := ?_) (by rfl) ?_ ?_; rotate_left 1; (focus (go_simp; first | done | with_reducible rfl)))
  (try simp only [Act.put, List.setIfInBounds_toArray, List.set_cons_zero, List.set_cons_succ])
  refine wpL_val (v := .int .i64 ((u8 (X / 256)).toNat : Int)) (by rfl) (by have := (u8 (X / 256)).toNat_lt; go_simp; (try simp only [IntKind.wrap_i64]); (try omega)) ?_
  (try simp only [Act.put, List.setIfInBounds_toArray, List.set_cons_zero, List.set_cons_succ])
  refine wpL_val (v := .int .i64 (IntKind.wrap .i64 ((Y7 : Nat) : Int))) (by rfl) (by exact run_or8 (Y := Y6) (UInt8.toNat_lt _) HY7.out rfl rfl rfl) ?_
  (try simp only [Act.put, List.setIfInBounds_toArray, List.set_cons_zero, List.set_cons_succ])
  (refine wpL_val (v := ?_) (by rfl) ?_ ?_; rotate_left 1; (focus (go_simp; first | done | with_reducible rfl)))
  (try simp only [Act.put, List.setIfInBounds_toArray, List.set_cons_zero, List.set_cons_succ])
  refine wpL_nil ?_
  go_wp2_with fail
  rw [rounds_succ]
  go_upto_region 4 with fail
  refine wp_region_lit ?_
  refine wpL_ixs (j := 7) (c := u8 X) ow_h7 rfl (by rfl) rfl rfl rfl ?_
  (try simp only [Act.put, List.setIfInBounds_toArray, List.set_cons_zero, List.set_cons_succ])
  intro adr hadr
  refine wpL_at (by rfl) rfl rfl hadr (by kernel_rfl) ?_
  (try simp only [Act.put, List.setIfInBounds_toArray, List.set_cons_zero, List.set_cons_succ])
  (refine wpL_val (v := ?_) (by rfl) ?_ ?_; rotate_left 1; (focus (go_simp; first | done | with_reducible rfl)))
  (try simp only [Act.put, List.setIfInBounds_toArray, List.set_cons_zero, List.set_cons_succ])
  refine wpL_nil ?_
  go_upto_region 5 with fail
  refine wp_region_lit ?_
  (refine wpL_val (v := ?_) (by rfl) ?_ ?_; rotate_left 1; (focus (go_simp; first | done | with_reducible rfl)))
  (try simp only [Act.put, List.setIfInBounds_toArray, List.set_cons_zero, List.set_cons_succ])
  refine wpL_val (v := .int .i64 (IntKind.wrap .i64 ((Y7 * 256 : Nat) : Int))) (by rfl) (by exact run_shl8 (Y := Y7) rfl rfl) ?_
  (try simp only [Act.put, List.setIfInBounds_toArray, List.set_cons_zero, List.set_cons_succ])
  (refine wpL_val (v := ?_) (by rfl) ?_ ?_; rotate_left 1; (focus (go_simp; first | done | with_reducible rfl)))
  (try simp only [Act.put, List.setIfInBounds_toArray, List.set_cons_zero, List.set_cons_succ])
  refine wpL_val (v := .int .i64 ((u8 X).toNat : Int)) (by rfl) (by have := (u8 X).toNat_lt; go_simp; (try simp only [IntKind.wrap_i64]); (try omega)) ?_
  (try simp only [Act.put, List.setIfInBounds_toArray, List.set_cons_zero, List.set_cons_succ])
  refine wpL_val (v := .int .i64 (IntKind.wrap .i64 ((Y8 : Nat) : Int))) (by rfl) (by exact run_or8 (Y := Y7) (UInt8.toNat_lt _) HY8.out rfl rfl rfl) ?_
  (try simp only [Act.put, List.setIfInBounds_toArray, List.set_cons_zero, List.set_cons_succ])
  (refine wpL_val (v := ?_) (by rfl) ?_ ?_; rotate_left 1; (focus (go_simp; first | done | with_reducible rfl)))
  (try simp only [Act.put, List.setIfInBounds_toArray, List.set_cons_zero, List.set_cons_succ])
  refine wpL_nil ?_
  go_wp2_with fail
  rw [rounds_succ]
  go_wp2
  exact bodyPost_ret (v := .int .i64 (IntKind.wrap .i64 ((Y8 : Nat) : Int))) (by simp only [results, Try.results28]; first | (go_simp; done) | (go_simp; rfl)) rfl ⟨by rw [HY8.out, HY7.out, HY6.out, HY5.out, HY4.out, HY3.out, HY2.out, HY1.out, be8_val X hX], _, ⟨k_p, ow_b1, ne_b1_p⟩, hs2, off0⟩
end Go.Proofs.Yteniajdmmffamaa
